/- FnFeed: for every drawn history, the feed contains each change once, in order, and none before it is settled. No condition. -/
import Derived.Shelf.SlSortCmp.NoneTotal
import Derived.Test.YtkegepoihkhihaaGreatZFeed5

set_option linter.unusedVariables false
set_option linter.unusedSimpArgs false
set_option maxRecDepth 100000
namespace Go.AV
open Go.Sort Go.Shelf Go.Proofs
theorem AX2 {α : Type} {k : Nat} (hk0 : 0 < k) {enc : α → List Value} (hk : ∀ x, (enc x).length = k) : ∀ (l : List α) (t : Nat), ((l.map enc).flatten)[t]? = (l[t / k]?).bind fun x => (enc x)[t % k]?
  | [], t => by simp
  | x :: l, t => by
    rw [List.map_cons, List.flatten_cons]
    by_cases ht : t < k
    · rw [List.getElem?_append_left (by rw [hk]; exact ht), Nat.div_eq_of_lt ht, Nat.mod_eq_of_lt ht]; rfl
    · rw [List.getElem?_append_right (by rw [hk]; omega), hk, AX2 hk0 hk l (t - k)]
      have h1 : t / k = (t - k) / k + 1 := Nat.div_eq_sub_div hk0 (by omega)
      have h2 : t % k = (t - k) % k := Nat.mod_eq_sub_mod (by omega)
      rw [h1, h2, AU2]
theorem l9 {α : Type} {k : Nat} {enc : α → List Value} (hk : ∀ x, (enc x).length = k) : ∀ l : List α, ((l.map enc).flatten).length = l.length * k
  | [] => by simp
  | x :: l => by rw [List.map_cons, List.flatten_cons, J4, hk, l9 hk l, J7, Nat.succ_mul]; omega
theorem AX3 {α : Type} [Inhabited α] {k : Nat} (hk0 : 0 < k) {enc : α → List Value} (hk : ∀ x, (enc x).length = k) (l : List α) : flatK enc k l.toArray = ((l.map enc).flatten).toArray := by
  apply Array.ext
  · rw [size_flatK]; simp only [List.size_toArray]; rw [l9 hk]
  · intro t h1 h2
    rw [size_flatK] at h1
    simp only [List.size_toArray] at h1 h2
    have e1 := get_flatK enc k l.toArray t (by simpa using h1)
    have hd : t / k < l.length := (Nat.div_lt_iff_lt_mul hk0).2 h1
    have e2 := AX2 hk0 hk l t
    rw [List.getElem?_eq_getElem hd] at e2
    have hm : t % k < (enc l[t / k]).length := by rw [hk]; exact Nat.mod_lt _ hk0
    rw [Option.bind_some, List.getElem?_eq_getElem hm] at e2
    rw [getElem!_pos _ t (by rw [size_flatK]; simpa using h1)] at e1
    rw [e1]
    have e3 : l.toArray[t / k]! = l[t / k] := by rw [getElem!_pos _ _ (by simpa using hd)]; simp
    have e5 : (enc l[t / k])[t % k]! = (enc l[t / k])[t % k] := getElem!_pos (enc l[t / k]) (t % k) hm
    rw [e3, e5]
    have e4 : ((l.map enc).flatten).toArray[t] = ((l.map enc).flatten)[t] := by simp
    rw [e4]
    rw [List.getElem?_eq_getElem h2] at e2
    injection e2 with e2; exact e2.symm
section
variable {P : Program} {f : FuncId} {t : TypeId} {α : Type} [Inhabited α]
theorem row_ownK (k : Nat) (hk0 : 0 < k) (enc : α → List Value) (hk : ∀ x, (enc x).length = k) (h1c : ∀ x, ∀ v ∈ enc x, v.oneCell' = true) (c : α → List AV) (hc : ∀ x, c x = (enc x).map AV.is) (fv : Value) (Post : List α → List α → Prop) (hlen : ∀ l l', Post l l' → l'.length = l.length)
    (v : Value) (l : List α) (hl : l.length < 4611686018427387904) (hnil : l = [] → Post [] [])
    (h1 : ∀ (blk cap : Nat) (w : World), HoldsK enc k w blk 0 l.toArray → blk < w.heap.size →
      Calls P f #[.slice (some ⟨blk, 0, none⟩) l.length cap, fv] w fun e w' => e = .returned (.tuple #[]) ∧ ∃ (l' : List α) (n : Nat) (os : Array Obj), Post l l' ∧ w' = sortWorldK enc k w blk 0 n l'.toArray os)
    (h0 : ∀ (p : Option Addr) (cap : Nat) (w : World), Calls P f #[.slice p 0 cap, fv] w fun e w' => e = .returned (.tuple #[]) ∧ w' = w) :
    GSpec P f [AV.is v, AV.is fv] [.arr v t k (l.map c)] (fun l' => Post l l') (fun l' => [.arr v t k (l'.map c)]) (fun _ => AV.tup []) := by
  intro R w vs hr hd hok hnd
  have hvs : vs = [v, fv] := by
    obtain ⟨hlen, hval⟩ := hd
    match vs, hlen, hval with
    | [a, b], _, hval => rw [show a = v from hval 0 a (AV.is v) rfl rfl, show b = fv from hval 1 b (AV.is fv) rfl rfl]
  subst hvs
  have ho := hok _ (List.mem_singleton.2 rfl)
  obtain ⟨hR, hsz, xs, hown, hden⟩ := ho
  have hxs : xs = (l.map enc).flatten := by
    rw [Au9 hc] at hden
    exact Au7 hden
  rw [A9] at hown
  rcases hown.2 with ⟨hv, hn⟩ | ⟨g, cap, cur, hv, _, hg, hnc, hcm, hcs, htk⟩
  · have hl0 : l = [] := List.length_eq_zero_iff.1 hn
    subst hv; subst hl0
    refine (h0 none 0 w).mono ?_
    rintro e w' ⟨rfl, rfl⟩
    exact ⟨[], _, R, hnil rfl, rfl, ⟨[], rfl, DenV.nil _⟩, Ae2 hr (hok _ (List.mem_singleton.2 rfl))⟩
  · subst hv
    have hgl : g < w.heap.size := (Array.getElem?_eq_some_iff.1 hg).1
    have hfl := AX3 hk0 hk l
    have hfs := l9 hk l
    have hH : HoldsK enc k w g 0 l.toArray := fun j hj => by
      rw [size_flatK] at hj
      have hj' : j < ((l.map enc).flatten).length := by rw [hfs]; simpa using hj
      have h9 : cur.toList[j]? = some ((l.map enc).flatten)[j] := by
        rw [← List.getElem?_take_of_lt (by rw [hfs] at hj'; exact hj'), htk, hxs, List.getElem?_eq_getElem hj']
      refine ⟨?_, by simp [World.frozen?, hg]⟩
      simp only [World.cell?, hg, Nat.zero_add]
      simp only [Option.isSome_none, Bool.false_eq_true, if_false]
      rw [← Array.getElem?_toList, h9, hfl]
      refine congrArg some ?_
      show _ = ((l.map enc).flatten).toArray[j]!
      rw [getElem!_pos _ j (by simpa using hj')]
      simp
    refine (h1 g cap w hH hgl).mono ?_
    rintro e w' ⟨rfl, l', n, os, hp, rfl⟩
    have hll := hlen l l' hp
    have hfl' := AX3 hk0 hk l'
    have hfs' := l9 hk l'
    refine ⟨l', _, R, hp, rfl, ⟨[], rfl, DenV.nil _⟩, ?_⟩
    have hgb : w.grownBy (sortWorldK enc k w g 0 n l'.toArray os) (some g) := by
      refine ⟨rfl, rfl, rfl, by simp [sortWorldK, putRowK], fun q hq hne => ?_⟩
      unfold sortWorldK
      rw [heap_grow_old _ _ (by simpa [putRowK] using hq)]
      have h9 : g ≠ q := fun e => hne (by rw [e])
      simp [putRowK, putRow, mapBlock, Sort.ahead, Array.getElem?_modify, h9]
    have hheap : (sortWorldK enc k w g 0 n l'.toArray os).heap[g]? = some (.cells (putCells id 0 ((l'.map enc).flatten).toArray cur) t (0, 0)) := by
      unfold sortWorldK
      rw [heap_grow_old _ _ (by simpa [putRowK] using hgl)]
      simp [putRowK, putRow, mapBlock, Sort.ahead, Array.getElem?_modify, hg, onCells, hfl']
    refine Al9 (g := g) (xs := (l'.map enc).flatten) rfl hr (hR g rfl) hgb ?_ ?_ ?_
    · rw [A9, hll]
      refine ⟨by rw [hfs', hll], .inr ⟨g, cap, _, rfl, Nat.zero_le _, hheap, hnc, hcm, by simp [putCells, hcs], ?_⟩⟩
      apply List.ext_getElem?
      intro j
      by_cases hj : j < l.length * k
      · rw [List.getElem?_take_of_lt (by omega), Array.getElem?_toList]
        have h8 : j < ((l'.map enc).flatten).length := by rw [hfs', hll]; exact hj
        have h7 : j < cur.size := by
          have := congrArg List.length htk
          have h6 : cur.toList.length = cur.size := Array.length_toList
          rw [E6, hxs, hfs] at this; omega
        simp only [putCells, Array.getElem?_mapIdx, Array.getElem?_eq_getElem h7, Option.map_some, Nat.zero_le, true_and, Nat.zero_add, List.size_toArray, h8, if_true, Nat.sub_zero]
        rw [getElem!_pos _ j (by simpa using h8), List.getElem?_eq_getElem h8]; simp
      · rw [List.getElem?_take_eq_none (by omega), List.getElem?_eq_none (by rw [hfs', hll]; omega)]
    · rw [Au9 hc]
      exact Au8 fun y hy => by
        obtain ⟨m, hm, hy⟩ := List.mem_flatten.1 hy
        obtain ⟨x, _, rfl⟩ := List.mem_map.1 hm
        exact h1c x y hy
    · intro e he; obtain ⟨x, _, rfl⟩ := List.mem_map.1 he; rw [hc, A9, hk]
end
end Go.AV
namespace Go.Proofs.YtkegepoihkhihaaGreat
open Go Go.AV Go.M
open Go.Sort Go.Shelf Go.Proofs
theorem u9 (x y : TFeedItem) : ltOf M.compareItems x y = l23Ahead x y := congrFun (congrFun lt_ahead x) y
theorem BD6 : SWO (ltOf M.compareItems) where
  irrefl x := by rw [u9]; exact r9 x
  trans x y z h1 h2 := by rw [u9] at *; exact f8 _ _ _ h1 h2
  ntrans x y z h1 h2 := by rw [u9] at *; exact BD4.ntr z y x h2 h1
theorem BD7 {l : List TFeedItem} {d : Array TFeedItem} (h : PermIn 0 l.toArray.size l.toArray d) : d.toList.Perm l := by
  obtain ⟨h1, _, h3⟩ := h
  have e1 : d.extract 0 l.toArray.size = d := by rw [← h1]; simp
  have e2 : l.toArray.extract 0 l.toArray.size = l.toArray := by simp
  rw [e1, e2] at h3
  simpa using h3
theorem As6 {l : List TFeedItem} {d : Array TFeedItem} (hs : d.size = l.toArray.size) (h : SortedIn (ltOf M.compareItems) 0 l.toArray.size d) : SortedOn l23Ahead d.toList 0 d.toList.length := by
  intro i j x y _ hij hj hx hy
  have hj2 : j < d.size := by simpa using hj
  have h9 := h i j (Nat.zero_le _) hij (by rw [← hs]; exact hj2)
  rw [u9, getElem!_pos d i (by omega), getElem!_pos d j hj2] at h9
  rw [Array.getElem?_toList, Array.getElem?_eq_getElem (by omega)] at hx
  rw [Array.getElem?_toList, Array.getElem?_eq_getElem hj2] at hy
  injection hx with hx; injection hy with hy
  rw [← hx, ← hy]; exact h9
theorem AE3 (v : Value) (l : List TFeedItem) (hl : l.length ≤ 1048576) : GSpec Tryz.prog 63 [AV.is v, AV.fn 64] [.arr v 63 5 (l.map TFeedItem.cs)]
    (fun l' : List TFeedItem => l'.Perm l ∧ SortedOn l23Ahead l' 0 l'.length) (fun l' => [.arr v 63 5 (l'.map TFeedItem.cs)]) (fun _ => AV.tup []) :=
  row_ownK 5 (by decide) encItem (fun _ => rfl) (fun x v hv => by
      simp only [encItem, List.mem_cons, List.not_mem_nil, or_false] at hv
      rcases hv with rfl | rfl | rfl | rfl | rfl <;> rfl) TFeedItem.cs (fun _ => rfl) (.func (.func 64) #[] #[]) (fun l l' => l'.Perm l ∧ SortedOn l23Ahead l' 0 l'.length) (fun l l' h => h.1.length_eq) v l (by omega)
    (fun _ => ⟨List.Perm.refl _, fun i j x y _ _ hj => by simp at hj⟩)
    (fun blk cap w hH hblk => by
      have eg : ∀ args w, (callFunc 64 args).run Tryz.prog w = .ok (.enter 64 args) w := enters_of Tryz.func64 (by kernel_rfl) rfl
      have hcon := AnyQ.slices_SortFunc Tryz.sortItemsF 5 P6 G3 encItem (fun _ => rfl) (fun x v hv => by
        simp only [encItem, List.mem_cons, List.not_mem_nil, or_false] at hv
        rcases hv with rfl | rfl | rfl | rfl | rfl <;> rfl) M.compareItems BD6 64 #[] blk 0 cap l.toArray w eg (fun _ _ _ _ x y => AM8 x y _) hH hblk (by simp; omega)
      refine Calls.mono (show Calls Tryz.prog 63 _ _ _ from hcon) ?_
      rintro e w' ⟨rfl, d', n, os, hp, hs, rfl⟩
      exact ⟨rfl, d'.toList, n, os, ⟨BD7 hp, As6 hp.1 hs⟩, rfl⟩)
    (fun p cap w => AnyF.slices_SortFunc_none { Tryz.sortItemsF with } p cap _ w)
end Go.Proofs.YtkegepoihkhihaaGreat

namespace Go.M
open Go.AV
def inTime (a u : Int) (v : TVer) : Bool := decide (a < v.Time) && decide (v.Time ≤ u)
def itemOf (g : Int) (k : Str) (v : TVer) : TFeedItem := ⟨v.Time, g, k, v.Val, v.Gone⟩
def cellItems (g a u : Int) (c : TCell) : List TFeedItem := (c.Vers.filter (inTime a u)).map (itemOf g c.Key)
def rawItems (l : List TCell) (g a u : Int) : List TFeedItem := (l.map (cellItems g a u)).flatten
def Cmb (x y : TFeedItem) : Prop := l23Ahead x y = true ∨ l23Ahead y x = true
def Dist (l : List TFeedItem) : Prop := l.Pairwise Cmb
theorem Cmb.symm {x y : TFeedItem} (h : Cmb x y) : Cmb y x := Or.symm h
theorem cmb_ne {x y : TFeedItem} (h : Cmb x y) : x ≠ y := fun e => by
  subst e
  rcases h with h | h <;> (rw [r9] at h; cases h)
theorem AX4 {x y : TFeedItem} (h : ¬ sameKey x y) : Cmb x y := by
  rcases Ae8 x y with k | k | k
  · exact .inl k
  · exact (h k).elim
  · exact .inr k
theorem m0 {l : List TFeedItem} (h : Dist l) : l.Nodup := h.imp fun {a b} hab => cmb_ne hab
theorem z7 {l : List TFeedItem} (h : Srt l) : Dist l := h.imp fun {a b} hab => .inl hab
def insAll (o : List TFeedItem) (l : List TFeedItem) : List TFeedItem := l.foldl (fun o x => (putR o x).1) o
def feedIn (l : List TCell) (g a u : Int) : List TFeedItem := insAll [] (rawItems l g a u)
theorem g6 {g a u : Int} {c : TCell} {x : TFeedItem} : x ∈ cellItems g a u c ↔ ∃ v ∈ c.Vers, (a < v.Time ∧ v.Time ≤ u) ∧ x = itemOf g c.Key v := by
  unfold cellItems inTime
  simp only [List.mem_map, List.mem_filter, Bool.and_eq_true, decide_eq_true_eq]
  constructor
  · rintro ⟨v, ⟨h1, h2⟩, rfl⟩; exact ⟨v, h1, h2, rfl⟩
  · rintro ⟨v, h1, h2, rfl⟩; exact ⟨v, ⟨h1, h2⟩, rfl⟩
theorem m5 {l : List TCell} {g a u : Int} {x : TFeedItem} : x ∈ rawItems l g a u ↔ ∃ c ∈ l, ∃ v ∈ c.Vers, (a < v.Time ∧ v.Time ≤ u) ∧ x = itemOf g c.Key v := by
  unfold rawItems
  simp only [List.mem_flatten, List.mem_map]
  constructor
  · rintro ⟨_, ⟨c, hc, rfl⟩, hx⟩; exact ⟨c, hc, g6.1 hx⟩
  · rintro ⟨c, hc, hx⟩; exact ⟨_, ⟨c, hc, rfl⟩, g6.2 hx⟩
theorem AT8 {l : List TCell} (ha : adj cLess l = true) (hv : ∀ c ∈ l, adj verLess c.Vers = true) (g a u : Int) : Dist (rawItems l g a u) := by
  unfold Dist rawItems
  rw [List.pairwise_flatten, List.pairwise_map]
  refine ⟨fun m hm => ?_, ((r4 W1).1 ha).imp fun {c d} hcd x hx y hy => ?_⟩
  · obtain ⟨c, hc, rfl⟩ := List.mem_map.1 hm
    unfold cellItems
    rw [List.pairwise_map]
    refine (List.Pairwise.sublist List.filter_sublist ((r4 Ag3).1 (hv c hc))).imp fun {v w} hvw => AX4 fun hs => ?_
    have := hs.1
    unfold verLess at hvw
    have := of_decide_eq_true hvw
    unfold itemOf at hs
    have := hs.1
    dsimp only at this
    omega
  · obtain ⟨v, _, _, rfl⟩ := g6.1 hx
    obtain ⟨w, _, _, rfl⟩ := g6.1 hy
    refine AX4 fun hs => ?_
    have h2 : c.Key = d.Key := hs.2.2
    unfold cLess at hcd
    rw [h2, J8] at hcd; cases hcd
theorem Ae9 : ∀ {l o : List TFeedItem}, Srt o → (∀ x ∈ l, ∀ y ∈ o, Cmb x y) → Dist l → Srt (insAll o l) ∧ ∀ z, z ∈ insAll o l ↔ z ∈ o ∨ z ∈ l
  | [], o, h, _, _ => ⟨h, fun z => by unfold insAll; simp⟩
  | x :: l, o, h, hc, hd => by
    obtain ⟨d1, d2⟩ := List.pairwise_cons.1 hd
    have hp : (putR o x).2 = true := by
      cases e : (putR o x).2 with
      | true => rfl
      | false =>
        obtain ⟨y, hy, _, h3, h4⟩ := Ab0 e
        rcases hc x List.mem_cons_self y hy with k | k
        · rw [h4] at k; cases k
        · rw [h3] at k; cases k
    obtain ⟨p1, p2⟩ := Aa9 h hp
    obtain ⟨i1, i2⟩ := Ae9 (l := l) (o := (putR o x).1) p1 (fun z hz y hy => by
      rcases (p2 y).1 hy with hy | rfl
      · exact hc z (List.mem_cons_of_mem _ hz) y hy
      · exact (d1 z hz).symm) d2
    refine ⟨i1, fun z => ?_⟩
    show z ∈ insAll (putR o x).1 l ↔ _
    rw [i2, p2, List.mem_cons, or_assoc]
theorem Z0 {l : List TCell} (ha : adj cLess l = true) (hv : ∀ c ∈ l, adj verLess c.Vers = true) (g a u : Int) : Srt (feedIn l g a u) ∧ ∀ z, z ∈ feedIn l g a u ↔ z ∈ rawItems l g a u := by
  obtain ⟨h1, h2⟩ := Ae9 (l := rawItems l g a u) (o := []) List.Pairwise.nil (fun _ _ y hy => by cases hy) (AT8 ha hv g a u)
  exact ⟨h1, fun z => by unfold feedIn; rw [h2]; simp⟩
theorem Af0 {a b : List TFeedItem} (ha : a.Nodup) (hb : b.Nodup) (h : ∀ z, z ∈ a ↔ z ∈ b) : a.length = b.length :=
  Nat.le_antisymm (AG5 ha fun x hx => (h x).1 hx) (AG5 hb fun x hx => (h x).2 hx)
theorem AH9 {l : List TCell} (ha : adj cLess l = true) (hv : ∀ c ∈ l, adj verLess c.Vers = true) (g a u : Int) : (feedIn l g a u).length = (rawItems l g a u).length :=
  Af0 (m0 (z7 (Z0 ha hv g a u).1)) (m0 (AT8 ha hv g a u)) (Z0 ha hv g a u).2
theorem AX5 {l l' : List TFeedItem} (hp : l'.Perm l) (hd : Dist l) (hs : SortedOn l23Ahead l' 0 l'.length) : Srt l' := by
  have hd2 : Dist l' := (hp.pairwise_iff (fun {x y} h => Cmb.symm h)).2 hd
  unfold Srt
  rw [List.pairwise_iff_getElem]
  intro i j hi hj hij
  rcases List.pairwise_iff_getElem.1 hd2 i j hi hj hij with h | h
  · exact h
  · have := hs i j _ _ (Nat.zero_le _) hij hj (List.getElem?_eq_getElem hi) (List.getElem?_eq_getElem hj)
    rw [h] at this; cases this
theorem BD8 {l : List TCell} (ha : adj cLess l = true) (hv : ∀ c ∈ l, adj verLess c.Vers = true) {g a u : Int} {l' : List TFeedItem} (hp : l'.Perm (rawItems l g a u)) (hs : SortedOn l23Ahead l' 0 l'.length) : l' = feedIn l g a u :=
  AP0 (AX5 hp (AT8 ha hv g a u) hs) (Z0 ha hv g a u).1 fun z => by rw [hp.mem_iff, (Z0 ha hv g a u).2]
theorem W3 {l : List TCell} (h : goodCells l = true) : adj cLess l = true ∧ ∀ c ∈ l, adj verLess c.Vers = true := ⟨(P4 h).2.1, fun c hc => ((P4 h).2.2 c hc).2.2.2.1⟩
theorem AP1 : ∀ {l : List TCell} {g a u : Int}, (∀ c ∈ l, c.Vers.length ≤ 16) → (rawItems l g a u).length ≤ 16 * l.length
  | [], g, a, u, _ => by unfold rawItems; simp
  | c :: l, g, a, u, h => by
    have ih := AP1 (g := g) (a := a) (u := u) fun d hd => h d (List.mem_cons_of_mem _ hd)
    have h1 := h c List.mem_cons_self
    unfold rawItems at ih ⊢
    rw [List.map_cons, List.flatten_cons, J4, J7]
    have h2 : (cellItems g a u c).length ≤ c.Vers.length := by unfold cellItems; rw [A9]; exact List.length_filter_le _ _
    omega
theorem AC9 {l : List TCell} (h : goodCells l = true) {g : Int} (hg : isGroup g = true) (a u : Int) : l23Feed (feedIn l g a u) = true ∧ (feedIn l g a u).length ≤ 384 ∧ (feedIn l g a u).length = (rawItems l g a u).length := by
  obtain ⟨f1, f2, f3⟩ := P4 h
  obtain ⟨c1, c2⟩ := W3 h
  obtain ⟨k1, k2⟩ := Z0 c1 c2 g a u
  have hl := AH9 c1 c2 g a u
  have hr := AP1 (g := g) (a := a) (u := u) fun c hc => (f3 c hc).2.2.1
  refine ⟨(S8 _).2 ⟨fun x hx => ?_, k1, by omega⟩, by omega, hl⟩
  obtain ⟨c, hc, v, hv, _, rfl⟩ := m5.1 ((k2 x).1 hx)
  have h1 := (f3 c hc).1
  have h2 := (f3 c hc).2.2.2.2 v hv
  rw [← AB9]
  unfold goodItem itemOf
  unfold verGood at h2
  simp only [Bool.and_eq_true] at h2 ⊢
  exact ⟨⟨⟨h2.1, hg⟩, h1⟩, h2.2⟩
theorem m6 {l : List TCell} (h : goodCells l = true) {g a u : Int} {x : TFeedItem} (hx : x ∈ feedIn l g a u) : x.Group = g ∧ a < x.Time ∧ x.Time ≤ u := by
  obtain ⟨c1, c2⟩ := W3 h
  obtain ⟨c, hc, v, hv, ht, rfl⟩ := m5.1 (((Z0 c1 c2 g a u).2 x).1 hx)
  exact ⟨rfl, ht⟩
def allItems (a u : Int) : Nat → List TState → List TFeedItem
  | _, [] => []
  | i, s :: l => feedIn s.Cells i a u ++ allItems a u (i + 1) l
def mergeN (a u : Int) (o : List TFeedItem) : Nat → List TState → Option (List TFeedItem)
  | _, [] => some o
  | i, s :: l => if (mergeF o (feedIn s.Cells i a u)).2 = true then mergeN a u (mergeF o (feedIn s.Cells i a u)).1 (i + 1) l else none
theorem d4 : ∀ {l : List TState} {i : Nat} {a u : Int}, (∀ s ∈ l, goodCells s.Cells = true) → ∀ x ∈ allItems a u i l, (i : Int) ≤ x.Group ∧ a < x.Time ∧ x.Time ≤ u
  | [], i, a, u, _, x, hx => by cases hx
  | s :: l, i, a, u, h, x, hx => by
    rcases List.mem_append.1 hx with hx | hx
    · obtain ⟨h1, h2⟩ := m6 (h s List.mem_cons_self) hx
      exact ⟨by omega, h2⟩
    · obtain ⟨h1, h2⟩ := d4 (fun t ht => h t (List.mem_cons_of_mem _ ht)) x hx
      exact ⟨by omega, h2⟩
theorem Ao3 : ∀ {l : List TState} {i : Nat} {a u : Int}, (∀ s ∈ l, goodCells s.Cells = true) → Dist (allItems a u i l)
  | [], i, a, u, _ => List.Pairwise.nil
  | s :: l, i, a, u, h => by
    obtain ⟨c1, c2⟩ := W3 (h s List.mem_cons_self)
    have hl := fun t ht => h t (List.mem_cons_of_mem s ht)
    unfold allItems Dist
    rw [List.pairwise_append]
    refine ⟨z7 (Z0 c1 c2 i a u).1, Ao3 hl, fun x hx y hy => AX4 fun hs => ?_⟩
    have h1 := (m6 (h s List.mem_cons_self) hx).1
    have h2 := (d4 hl y hy).1
    have h3 := hs.2.1
    omega
theorem AD0 : ∀ {l : List TState} {i : Nat} {a u : Int} {o : List TFeedItem}, (∀ s ∈ l, goodCells s.Cells = true) → i + l.length ≤ 4 → l23Feed o = true → (∀ x ∈ o, x.Group < (i : Int)) →
    (o.length + (allItems a u i l).length ≤ 400 → ∃ r, mergeN a u o i l = some r ∧ Srt r ∧ (∀ z, z ∈ r ↔ z ∈ o ∨ z ∈ allItems a u i l) ∧ l23Feed r = true) ∧ (400 < o.length + (allItems a u i l).length → mergeN a u o i l = none)
  | [], i, a, u, o, _, _, ho, _ => by
    have h3 := ((S8 o).1 ho)
    refine ⟨fun _ => ⟨o, rfl, h3.2.1, fun z => by unfold allItems; simp, ho⟩, fun h => ?_⟩
    have := h3.2.2
    unfold allItems at h; simp at h; omega
  | s :: l, i, a, u, o, hg, hi, ho, hog => by
    have hs := hg s List.mem_cons_self
    have hl := fun t ht => hg t (List.mem_cons_of_mem s ht)
    rw [J7] at hi
    have higr : isGroup (i : Int) = true := by unfold isGroup within; simp; omega
    obtain ⟨f1, f2, f3⟩ := AC9 hs higr a u
    obtain ⟨o1, o2, o3⟩ := (S8 o).1 ho
    obtain ⟨g1, g2, g3⟩ := (S8 _).1 f1
    have hcross : ∀ x ∈ o, ∀ y ∈ feedIn s.Cells i a u, Cmb x y := fun x hx y hy => AX4 fun hk => by
      have h1 := hog x hx
      have h2 := (m6 hs hy).1
      have h3 := hk.2.1
      omega
    have hcmb : ∀ x y, (x ∈ o ∨ x ∈ feedIn s.Cells i a u) → (y ∈ o ∨ y ∈ feedIn s.Cells i a u) → x ≠ y → Cmb x y := fun x y hx hy hne => by
      rcases hx with hx | hx <;> rcases hy with hy | hy
      · cases h1 : l23Ahead x y with
        | true => exact .inl h1
        | false => cases h2 : l23Ahead y x with
          | true => exact .inr h2
          | false => exact (hne (Aa7 o2 x hx y hy h1 h2)).elim
      · exact hcross x hx y hy
      · exact (hcross y hy x hx).symm
      · cases h1 : l23Ahead x y with
        | true => exact .inl h1
        | false => cases h2 : l23Ahead y x with
          | true => exact .inr h2
          | false => exact (hne (Aa7 g2 x hx y hy h1 h2)).elim
    obtain ⟨r, hr⟩ : ∃ r, mergeAll o (feedIn s.Cells i a u) = some r := by
      cases e : mergeAll o (feedIn s.Cells i a u) with
      | some r => exact ⟨r, rfl⟩
      | none =>
        obtain ⟨x, y, hx, hy, hne, h1, h2⟩ := AI8 e
        rcases hcmb x y hx hy hne with k | k
        · rw [h1] at k; cases k
        · rw [h2] at k; cases k
    obtain ⟨r1, r2, r3⟩ := t2 o2 hr
    have hlen : r.length = o.length + (feedIn s.Cells i a u).length := by
      rw [← J4]
      refine Af0 (m0 (z7 r1)) ?_ fun z => by rw [r2, List.mem_append]
      rw [List.nodup_append]
      exact ⟨m0 (z7 o2), m0 (z7 g2), fun x hx y hy => cmb_ne (hcross x hx y hy)⟩
    have hme : mergeF o (feedIn s.Cells i a u) = if 400 < r.length then ([], false) else (r, true) := by unfold mergeF; rw [if_pos ⟨ho, f1⟩, hr]
    unfold mergeN allItems
    rw [J4, hme]
    by_cases hbig : 400 < r.length
    · rw [if_pos hbig, if_neg (by simp)]
      exact ⟨fun h => by omega, fun _ => rfl⟩
    · rw [if_neg hbig, if_pos rfl]
      have hrf : l23Feed r = true := (S8 r).2 ⟨fun x hx => ((r2 x).1 hx).elim (o1 x) (g1 x), r1, by omega⟩
      obtain ⟨i1, i2⟩ := AD0 (l := l) (i := i + 1) (a := a) (u := u) (o := r) hl (by omega) hrf fun x hx => by
        rcases (r2 x).1 hx with hx | hx
        · have := hog x hx; omega
        · have := (m6 hs hx).1; omega
      refine ⟨fun h => ?_, fun h => i2 (by omega)⟩
      obtain ⟨q, q1, q2, q3, q4⟩ := i1 (by omega)
      exact ⟨q, q1, q2, fun z => by rw [q3, r2, List.mem_append, or_assoc], q4⟩
theorem next_eq {l : List TState} {a u : Int} {l' : List TFeedItem} (hg : ∀ s ∈ l, goodCells s.Cells = true) (hl : l.length ≤ 4) (hp : l'.Perm (allItems a u 0 l)) (hs : SortedOn l23Ahead l' 0 l'.length) : (if isFeed l' = true then some l' else none) = mergeN a u [] 0 l := by
  have hsr := AX5 hp (Ao3 hg) hs
  obtain ⟨m1, m2⟩ := AD0 (l := l) (i := 0) (a := a) (u := u) (o := []) hg (by omega) (by decide) (fun x hx => by cases hx)
  have hlen := hp.length_eq
  simp only [L9, Nat.zero_add] at m1 m2
  by_cases h : l'.length ≤ 400
  · obtain ⟨r, r1, r2, r3, _⟩ := m1 (by omega)
    rw [if_pos ((AX1 _).2 ⟨hsr, h⟩), r1]
    exact congrArg some (AP0 hsr r2 fun z => by rw [r3, hp.mem_iff]; simp)
  · rw [if_neg fun k => h ((AX1 _).1 k).2, m2 (by omega)]
end Go.M

namespace Go.M
open Go.AV
end Go.M

namespace Go.M
open Go.AV
def areStates (l : List TState) : Bool := within (l.length : Int) 1 4 && l.all goodState
def sureL (l : List TState) : Int := l.foldl (fun o s => min o (settled s)) 100000
def sureR (l : List TState) : Int × Bool := if areStates l = true then (sureL l, true) else (0, false)
def mxI (a b : Int) : Int := if b > a then b else a
def nextR (d : Int) (l : List TState) : Int × List TFeedItem × Bool :=
  if (isTrue d && areStates l) = true then (match mergeN d (mxI d (sureL l)) [] 0 l with | some r => (mxI d (sureL l), r, true) | none => (0, [], false)) else (0, [], false)
theorem Af1 {x : Int} : ∀ {l : List TState} {o : Int}, x ≤ l.foldl (fun o s => min o (settled s)) o ↔ x ≤ o ∧ ∀ s ∈ l, x ≤ settled s
  | [], o => by simp
  | s :: l, o => by
    rw [List.foldl_cons, Af1]
    constructor
    · rintro ⟨a, b⟩
      refine ⟨by omega, fun k hk => ?_⟩
      rcases List.mem_cons.1 hk with rfl | hk
      · omega
      · exact b k hk
    · rintro ⟨a, b⟩
      have := b s List.mem_cons_self
      exact ⟨by omega, fun k hk => b k (List.mem_cons_of_mem _ hk)⟩
theorem AI0 {l : List TState} {x : Int} : x ≤ sureL l ↔ x ≤ 100000 ∧ ∀ s ∈ l, x ≤ settled s := Af1
theorem Af2 {l : List TState} (h : ∀ s ∈ l, goodState s = true) : 0 ≤ sureL l ∧ sureL l ≤ 100000 :=
  ⟨AI0.2 ⟨by decide, fun s hs => Aa5 (R4.1 (h s hs))⟩, (AI0.1 (Int.le_refl _)).1⟩
theorem BD9 (a b : Int) : (mxI a b = a ∧ b ≤ a) ∨ (mxI a b = b ∧ a < b) := by
  unfold mxI; split
  · exact .inr ⟨rfl, by omega⟩
  · exact .inl ⟨rfl, by omega⟩
theorem X0 {l : List TState} : areStates l = true ↔ 1 ≤ l.length ∧ l.length ≤ 4 ∧ ∀ s ∈ l, goodState s = true := by
  unfold areStates within
  simp only [Bool.and_eq_true, decide_eq_true_eq, List.all_eq_true]
  constructor
  · rintro ⟨⟨a, b⟩, c⟩; exact ⟨by omega, by omega, c⟩
  · rintro ⟨a, b, c⟩; exact ⟨⟨by omega, by omega⟩, c⟩
theorem AM9 {n : Int} (h : 0 ≤ n ∧ n ≤ 100000) : isTrue n = true := by
  unfold isTrue within; simp only [Bool.and_eq_true, decide_eq_true_eq]; omega
theorem m7 {l : List TState} (h : ∀ s ∈ l, goodState s = true) : ∀ s ∈ l, goodCells s.Cells = true := fun s hs => (R4.1 (h s hs)).cells
theorem AX6 {s : TState} (h : goodCells s.Cells = true) {g a u : Int} {z : TFeedItem} : z ∈ feedIn s.Cells g a u ↔ z ∈ rawItems s.Cells g a u :=
  (Z0 (W3 h).1 (W3 h).2 g a u).2 z
theorem raw_time {l : List TCell} {g a u b w : Int} {z : TFeedItem} (ha : a ≤ b) (hw : w ≤ u) : z ∈ rawItems l g b w ↔ z ∈ rawItems l g a u ∧ b < z.Time ∧ z.Time ≤ w := by
  rw [m5, m5]
  constructor
  · rintro ⟨c, hc, v, hv, ht, rfl⟩
    exact ⟨⟨c, hc, v, hv, ⟨by omega, by omega⟩, rfl⟩, ht⟩
  · rintro ⟨⟨c, hc, v, hv, ht, rfl⟩, h1, h2⟩
    exact ⟨c, hc, v, hv, ⟨h1, h2⟩, rfl⟩
theorem AT9 {a u b w : Int} {z : TFeedItem} (ha : a ≤ b) (hw : w ≤ u) : ∀ {l : List TState} {i : Nat}, (∀ s ∈ l, goodCells s.Cells = true) → (z ∈ allItems b w i l ↔ z ∈ allItems a u i l ∧ b < z.Time ∧ z.Time ≤ w)
  | [], i, _ => by unfold allItems; simp
  | s :: l, i, h => by
    have hs := h s List.mem_cons_self
    have ih := AT9 (z := z) ha hw (l := l) (i := i + 1) fun t ht => h t (List.mem_cons_of_mem _ ht)
    unfold allItems
    rw [List.mem_append, List.mem_append, AX6 hs, AX6 hs, raw_time ha hw, ih]
    constructor
    · rintro (⟨h1, h2⟩ | ⟨h1, h2⟩)
      · exact ⟨.inl h1, h2⟩
      · exact ⟨.inr h1, h2⟩
    · rintro ⟨h1 | h1, h2⟩
      · exact .inl ⟨h1, h2⟩
      · exact .inr ⟨h1, h2⟩
theorem all_none {a : Int} : ∀ {l : List TState} {i : Nat}, (∀ s ∈ l, goodCells s.Cells = true) → ∀ z, z ∉ allItems a a i l := fun h z hz => by
  have := d4 h z hz
  omega
theorem Ao4 {a u : Int} {l : List TState} (hg : ∀ s ∈ l, goodCells s.Cells = true) (hl : l.length ≤ 4) (h : (allItems a u 0 l).length ≤ 400) : ∃ r, mergeN a u [] 0 l = some r ∧ Srt r ∧ (∀ z, z ∈ r ↔ z ∈ allItems a u 0 l) ∧ l23Feed r = true := by
  obtain ⟨m1, _⟩ := AD0 (l := l) (i := 0) (a := a) (u := u) (o := []) hg (by omega) (by decide) (fun x hx => by cases hx)
  simp only [L9, Nat.zero_add] at m1
  obtain ⟨q, q1, q2, q3, q4⟩ := m1 h
  exact ⟨q, q1, q2, fun z => by rw [q3]; simp, q4⟩
theorem n9 {g a u : Int} {k : Str} {vs : List TVer} {v : TVer} (h : u < v.Time) : cellItems g a u ⟨k, vs ++ [v]⟩ = cellItems g a u ⟨k, vs⟩ := by
  unfold cellItems
  dsimp only
  rw [List.filter_append, List.filter_cons_of_neg (by unfold inTime; simp; omega)]
  simp
theorem i6 (c : TCell) (l : List TCell) (g a u : Int) : rawItems (c :: l) g a u = cellItems g a u c ++ rawItems l g a u := rfl
theorem Ao5 {k : Str} {v : TVer} {g a u : Int} (h : u < v.Time) : ∀ l : List TCell, rawItems (insC l k v) g a u = rawItems l g a u
  | [] => by
    unfold insC
    rw [i6]
    have : cellItems g a u ⟨k, [v]⟩ = cellItems g a u ⟨k, []⟩ := n9 (vs := []) h
    rw [this]; rfl
  | c :: l => by
    unfold insC
    split
    · rw [i6, i6, Ao5 h l]
    · split
      · rename_i e
        rw [i6, i6, n9 h]
        subst e; rfl
      · have : cellItems g a u ⟨k, [v]⟩ = cellItems g a u ⟨k, []⟩ := n9 (vs := []) h
        rw [i6, this]; rfl
theorem Av5 {t g a u : Int} (h : u < t) : ∀ {w : List TWrite} {l q : List TCell}, putAll l w t = some q → rawItems q g a u = rawItems l g a u
  | [], l, q, e => by simp [putAll] at e; rw [e]
  | x :: w, l, q, e => by
    unfold putAll at e
    split at e
    · cases e
    · rw [Av5 h e]; exact Ao5 h l
theorem BE0 {s : TState} {r : TRec} (h : (applyS s r).2 = true) {g a u : Int} (hu : u ≤ settled s) : rawItems (applyS s r).1.Cells g a u = rawItems s.Cells g a u := by
  unfold applyS at h ⊢
  by_cases h4 : r.Kind = 4
  · rw [if_pos h4]
  · rw [if_neg h4] at h ⊢
    by_cases hT : hasT s.Told r.Txn = true
    · rw [if_pos hT] at h; cases h
    · rw [if_neg hT] at h ⊢
      by_cases h1 : r.Kind = 1
      · rw [if_pos h1]
      · rw [if_neg h1] at h ⊢
        by_cases hy : r.Yes = true
        · rw [if_pos hy] at h ⊢
          cases hf : findH s.Held r.Txn with
          | none => rfl
          | some k =>
            rw [hf] at h
            dsimp only at h ⊢
            by_cases hlt : r.Time < k.Time
            · rw [if_pos hlt] at h; cases h
            · rw [if_neg hlt] at h ⊢
              by_cases hp : (putP s.Cells k.Writes r.Time).2 = true
              · rw [if_pos hp]
                obtain ⟨p1, p2⟩ := AD8 hp
                obtain ⟨k1, k2⟩ := l7 hf
                exact Av5 (by have := (V0.1 hu).2 k k1; omega) p1
              · rw [if_neg hp] at h; cases h
        · rw [if_neg hy]; rfl
theorem raw_step {s : TState} {r : TRec} {g a u : Int} (hu : u ≤ settled s) : rawItems (stepS s r).Cells g a u = rawItems s.Cells g a u := by
  unfold stepS
  split
  · exact BE0 ‹_› hu
  · rfl
theorem Ao6 {g a u : Int} : ∀ {l : List TRec} {s : TState}, GS s → (∀ r ∈ l, goodRec r = true) → u ≤ settled s → rawItems (stFrom s l).Cells g a u = rawItems s.Cells g a u
  | [], s, _, _, _ => rfl
  | r :: l, s, gs, h, hu => by
    show rawItems (stFrom (stepS s r) l).Cells g a u = _
    rw [Ao6 (AZ5 gs (h r List.mem_cons_self)) (fun x hx => h x (List.mem_cons_of_mem _ hx)) (Int.le_trans hu (AW4 gs (h r List.mem_cons_self)).settled), raw_step hu]
theorem Ao7 (a b : List TRec) : stFrom zState (a ++ b) = stFrom (stFrom zState a) b := by unfold stFrom; rw [List.foldl_append]
theorem feed_app {a b : List TRec} (h : ∀ r ∈ a ++ b, goodRec r = true) {g x u : Int} (hu : u ≤ settled (stFrom zState a)) : feedIn (stFrom zState (a ++ b)).Cells g x u = feedIn (stFrom zState a).Cells g x u := by
  unfold feedIn
  rw [Ao7, Ao6 (AO8 AO7 fun r hr => h r (List.mem_append_left _ hr)) (fun r hr => h r (List.mem_append_right _ hr)) hu]
theorem As7 {a b : List TRec} (h : ∀ r ∈ a ++ b, goodRec r = true) : settled (stFrom zState a) ≤ settled (stFrom zState (a ++ b)) := by
  rw [Ao7]
  exact (AW5 (AO8 AO7 fun r hr => h r (List.mem_append_left _ hr)) fun r hr => h r (List.mem_append_right _ hr)).settled
theorem Ao8 {g a u : Int} : ∀ l : List TCell, (rawItems l g a u).length ≤ sizeL TCell.size l
  | [] => Nat.le_refl _
  | c :: l => by
    have ih := Ao8 (g := g) (a := a) (u := u) l
    rw [i6, J4, Q1]
    have h1 : (cellItems g a u c).length ≤ c.Vers.length := by unfold cellItems; rw [A9]; exact List.length_filter_le _ _
    have h2 := M9 (f := TVer.size) (l := c.Vers)
    have h3 : c.size = c.Key.length + sizeL TVer.size c.Vers := rfl
    omega
structure Fed (A : List TFeedItem) (F : Int) (p q : TState) : Prop where
  srt : Srt A
  mem : ∀ z, z ∈ A ↔ z ∈ allItems 0 F 0 [p, q]
  pos : 0 ≤ F
theorem fed_zero {p q : TState} (hp : goodCells p.Cells = true) (hq : goodCells q.Cells = true) : Fed [] 0 p q where
  srt := List.Pairwise.nil
  mem := fun z => ⟨fun h => (by cases h), fun h => absurd h (all_none (by intro s hs; rcases List.mem_cons.1 hs with rfl | hs; exact hp; rw [List.mem_singleton.1 hs]; exact hq) z)⟩
  pos := Int.le_refl 0
theorem fed_next {A r : List TFeedItem} {F G : Int} {p q p' q' : TState} (hp : goodCells p.Cells = true) (hq : goodCells q.Cells = true) (h : Fed A F p q) (hFG : F ≤ G) (hr : Srt r) (hm : ∀ z, z ∈ r ↔ z ∈ allItems F G 0 [p', q']) (e1 : feedIn p'.Cells 0 F G = feedIn p.Cells 0 F G) (e2 : feedIn q'.Cells 1 F G = feedIn q.Cells 1 F G) : Fed (A ++ r) G p q := by
  have hg : ∀ s ∈ [p, q], goodCells s.Cells = true := by intro s hs; rcases List.mem_cons.1 hs with rfl | hs; exact hp; rw [List.mem_singleton.1 hs]; exact hq
  have he : allItems F G 0 [p', q'] = allItems F G 0 [p, q] := by
    unfold allItems allItems allItems
    rw [show ((0 : Nat) : Int) = 0 from rfl, show ((0 + 1 : Nat) : Int) = 1 from rfl, e1, e2]
  rw [he] at hm
  have ht : ∀ z, z ∈ allItems F G 0 [p, q] → F < z.Time ∧ z.Time ≤ G := fun z hz => (d4 hg z hz).2
  refine ⟨?_, fun z => ?_, Int.le_trans h.pos hFG⟩
  · unfold Srt
    rw [List.pairwise_append]
    refine ⟨h.srt, hr, fun x hx y hy => ?_⟩
    have h1 := (d4 hg x ((h.mem x).1 hx)).2.2
    have h2 := (ht y ((hm y).1 hy)).1
    unfold l23Ahead
    rw [if_pos (by omega)]
    exact decide_eq_true (by omega)
  · rw [List.mem_append, h.mem, hm, AT9 (z := z) (Int.le_refl 0) hFG hg, AT9 (z := z) (a := 0) (u := G) h.pos (Int.le_refl G) hg]
    constructor
    · rintro (⟨x, _⟩ | ⟨x, _⟩) <;> exact x
    · intro x
      have := (d4 hg z x).2
      by_cases hlt : z.Time ≤ F
      · exact .inl ⟨x, this.1, hlt⟩
      · exact .inr ⟨x, by omega, this.2⟩
end Go.M

set_option maxHeartbeats 2000000
namespace Go.M
open Go.AV
theorem Af3 {l : List TState} {i : Nat} {x : TState} (h : l[i]? = some x) : sureL (l.take (i + 1)) = min (sureL (l.take i)) (settled x) := by
  unfold sureL; rw [List.take_add_one, h, List.foldl_append]; rfl
theorem min_if (a b : Int) : (if b < a then b else a) = min a b := by rw [Int.min_def]; split <;> split <;> omega
theorem BE1 (a b : Int) : leastI a b = min a b := by unfold leastI; rw [Int.min_def]; split <;> split <;> omega
theorem Ao9 (l : List TState) : (!l.any fun s => !goodState s) = l.all goodState := by
  induction l with
  | nil => rfl
  | cons x l ih => rw [List.any_cons, List.all_cons, ← ih]; cases goodState x <;> simp
theorem Az6 {l : List TState} {x : TState} (hx : x ∈ l) (h : goodState x = false) : areStates l = false := by
  unfold areStates
  rw [show l.all goodState = false from List.all_eq_false.2 ⟨x, hx, by rw [h]; decide⟩, Bool.and_false]
end Go.M
namespace Go.Proofs.YtkegepoihkhihaaGreat
open Go Go.AV Go.M
attribute [local irreducible] OpW OpA OpS AWP FSpec ESpec GSpec OpE RetOk RetOkG RvDen Le Ev GuardIs SrcIs SrcE Int.tmod IntKind.wrap bandI
theorem AX7 (s : TState) (hs : s.size ≤ 1048576) : FSpec Tryz.prog 84 [AV.agg s.cs] (AV.bool (!goodState s)) := by
 refine D8 Tryz.func84 rfl Tryz.ntmps84 rfl ?_
 refine A3 (A2 ?_)
 refine L6 rfl rfl rfl rfl (A0 rfl) ?_
 intro b1
 refine A1 rfl (B3 rfl F0) ?_
 refine A4 (A3 (A2 ?_))
 refine A1 rfl (I5 0 rfl (A0 rfl) rfl G7 E1 rfl) ?_
 refine A1 rfl (D7 rfl Tryz.call50 rfl (Aa4 _ (by first | assumption | omega)) (A8 (A0 rfl) C6)) ?_
 refine A1 rfl (K3 rfl (A0 rfl)) ?_
 refine B4 rfl ?_
 refine A4 ?_
 refine C2 ?_
 exact G1 rfl (B8 rfl (by rfl))
theorem AE4 (l : List TState) (hs : ∀ s ∈ l, s.size ≤ 1048576) : FSpec Tryz.prog 40 [AV.list 4 (l.map TState.cs)] (AV.bool (areStates l)) := by
 refine D8 Tryz.func40 rfl Tryz.ntmps40 rfl ?_
 refine A3 (A2 ?_)
 refine A1 rfl (B3 rfl F0) ?_
 refine A4 (A3 (A2 ?_))
 refine A5 rfl ?_
 refine A1 rfl (G5 rfl M1 (A0 rfl)) ?_
 refine A1 rfl (D7 rfl Tryz.call82 rfl (U8 _ _ _) (A8 (A0 rfl) (A8 B5 (A8 B5 C6)))) ?_
 refine A5 rfl ?_
 refine C4 rfl (fun hc => B7 rfl (A0 rfl)) ?_
 refine C4 rfl (fun hc => D7 rfl Tryz.call83 rfl (AC3 l (fun s => s.size ≤ 1048576) (fun s => !goodState s) hs) (A8 (A6 rfl hc) (A8 (AY4 Tryz.call84 (fun s h => AX7 s h)) C6))) ?_
 refine C4 rfl (fun hc => K3 rfl (A6 rfl hc)) ?_
 refine A1 rfl (G8 rfl (A0 rfl) (F1 rfl)) ?_
 refine B4 rfl ?_
 refine A4 ?_
 refine C2 ?_
 exact G1 rfl (B8 rfl (by exact congrArg AV.bool (by unfold areStates; rw [← Ao9, A9])))
theorem AR3 (l : List TState) (hg : ∀ s ∈ l, goodState s = true) : FSpec Tryz.prog 41 [AV.list 4 (l.map TState.cs)] (AV.int (sureL l)) := by
 refine D8 Tryz.func41 rfl Tryz.ntmps41 rfl ?_
 refine Q6 (t := 0) rfl fun hl => ?_
 try simp only [A9] at hl
 refine A3 (A2 ?_)
 refine A1 rfl (B3 rfl B5) ?_
 refine A4 (A3 (A2 ?_))
 refine A1 rfl (B3 rfl B5) ?_
 refine A4 (A3 (A3 (A2 ?_)))
 refine A5 rfl ?_
 refine A1 rfl (G5 rfl M1 (A0 rfl)) ?_
 refine A1 rfl (B7 rfl B5) ?_
 refine A4 (D0 ?_)
 refine H4 [(2, _), (6, _), (7, _)] _ (fun (i : Nat) => i ≤ l.length) (fun (i : Nat) => []) (fun (i : Nat) => [(3, AV.int (sureL (l.take i))), (8, AV.int i)]) (fun (i : Nat) => l.length - i) (0) ?_ (Q3 (by rfl) ⟨rfl, rfl, rfl, rfl, rfl, trivial⟩) ?_
 ·exact Nat.zero_le _
 intro i hinv
 refine A3 (A2 ?_)
 refine A1 rfl (I4 rfl (A0 rfl) (A0 rfl)) ?_
 refine A4 (A3 ?_)
 refine C3 (A0 rfl) ?_ ?_
 ·intro h9
  have k9 := of_decide_eq_true h9; try simp only [A9] at k9
  have hlt : i < l.length := by omega
  obtain ⟨x, hx⟩ := get_some hlt
  have hxg := hg x (G6 hx)
  refine C8 (A3 (D0 (A3 (A2 ?_))))
  refine A1 rfl (H5 rfl M1 E1 (A0 rfl) (A0 rfl) hx (by first | omega | (simp only [D1, A7, szR] at *; omega))) ?_
  refine A1 rfl (J0 rfl (A0 rfl) G7 E1) ?_
  refine H3 rfl rfl rfl rfl Tryz.zeroValue43 rfl ?_
  intro b5
  refine E9 0 rfl rfl rfl (A0 rfl) (A0 rfl) (F9 _) rfl E1 rfl ?_
  refine A4 (A2 ?_)
  refine A5 rfl ?_
  refine A1 rfl (I5 0 rfl (A0 rfl) rfl G7 E1 rfl) ?_
  refine A1 rfl (D7 rfl Tryz.call85 rfl (An0 x hxg) (A8 (A0 rfl) C6)) ?_
  refine A1 rfl (w_min rfl (A0 rfl) (A0 rfl)) ?_
  refine B4 rfl ?_
  refine A4 (A2 ?_)
  refine A1 rfl (F6 rfl (A0 rfl) B5 (by first | omega | (simp only [D1, A7, szR] at *; omega))) ?_
  refine A5 rfl ?_
  refine A4 ?_
  refine J3 i (i + 1) ?_ ?_ (Le.trans (K1 [0] rfl) (M3 1 (by rfl) ⟨(congrArg (fun z => some (AV.int z)) (by rw [Af3 hx, min_if])), rfl, rfl, rfl, rfl, trivial⟩))
  ·exact (by omega)
  omega
 intro h9
 have k9 := of_decide_eq_false h9; try simp only [A9] at k9
 have hge : l.length ≤ i := by omega
 rw [List.take_of_length_le hge]
 refine G0 ?_
 refine A3 (A2 ?_)
 refine A5 rfl ?_
 refine B4 rfl ?_
 refine A4 ?_
 refine C2 ?_
 exact G1 rfl (B8 rfl (by rfl))
theorem Ap0 (l : List TState) (hs : ∀ s ∈ l, s.size ≤ 1048576) : FSpec Tryz.prog 12 [AV.list 4 (l.map TState.cs)] (AV.tup [AV.int (sureR l).1, AV.bool (sureR l).2]) := by
 refine D8 Tryz.func12 rfl Tryz.ntmps12 rfl ?_
 refine A3 (A2 ?_)
 refine A1 rfl (B3 rfl B5) ?_
 refine A1 rfl (B3 rfl F0) ?_
 refine A4 (A3 (A3 (A2 ?_)))
 refine A5 rfl ?_
 refine A1 rfl (D7 rfl Tryz.call40 rfl (AE4 l hs) (A8 (A0 rfl) C6)) ?_
 refine A1 rfl (K3 rfl (A0 rfl)) ?_
 refine A4 ?_
 refine C3 (A0 rfl) ?_ ?_
 ·intro h6
  have he : sureR l = (0, false) := (by unfold sureR; rw [if_neg (by simpa using h6)])
  rw [he]
  refine A3 (A2 ?_)
  refine A1 rfl (B3 rfl B5) ?_
  refine A1 rfl (B3 rfl F0) ?_
  refine A4 ?_
  refine C2 ?_
  exact T7 rfl (by decide) (F2 (B8 rfl (by rfl)) (F2 (B8 rfl (by rfl)) L5))
 intro h6
 have hg : areStates l = true := by simpa using h6
 have he : sureR l = (sureL l, true) := (by unfold sureR; rw [if_pos hg])
 rw [he]
 refine C8 (A3 (A2 ?_))
 refine A5 rfl ?_
 refine A1 rfl (D7 rfl Tryz.call41 rfl (AR3 l (X0.1 hg).2.2) (A8 (A0 rfl) C6)) ?_
 refine B4 rfl ?_
 refine A1 rfl (B3 rfl F0) ?_
 refine A4 ?_
 refine C2 ?_
 exact T7 rfl (by decide) (F2 (B8 rfl (by rfl)) (F2 (B8 rfl (by rfl)) L5))
theorem Ap1 (l : List TState) (hs : ∀ s ∈ l, s.size ≤ 1048576) : FSpec Tryz.prog 10 [AV.list 4 (l.map TState.cs)] (AV.tup [AV.int (sureR l).1, AV.bool (sureR l).2]) := by
 refine D8 Tryz.func10 rfl Tryz.ntmps10 rfl ?_
 refine Q6 (t := 0) rfl fun hl => ?_
 try simp only [A9] at hl
 refine A3 (A2 ?_)
 refine A1 rfl (B3 rfl B5) ?_
 refine A1 rfl (B3 rfl F0) ?_
 refine A4 (A3 (A2 ?_))
 refine A1 rfl (B3 rfl B5) ?_
 refine A4 (A3 (A3 (A2 ?_)))
 refine A1 rfl (B3 rfl B5) ?_
 refine A4 (D0 ?_)
 refine H4 [(0, _)] _ (fun (i : Nat) => i ≤ l.length ∧ ∀ s ∈ l.take i, goodState s = true) (fun (i : Nat) => []) (fun (i : Nat) => [(4, AV.int (sureL (l.take i))), (5, AV.int i)]) (fun (i : Nat) => l.length - i) (0) ?_ (Q3 (by rfl) ⟨rfl, rfl, rfl, trivial⟩) ?_
 ·exact ⟨Nat.zero_le _, fun s hs => by cases hs⟩
 intro i hinv
 refine A3 (A3 (A2 ?_))
 refine A5 rfl ?_
 refine A5 rfl ?_
 refine A1 rfl (G5 rfl M1 (A0 rfl)) ?_
 refine A1 rfl (I4 rfl (A0 rfl) (A0 rfl)) ?_
 refine A4 ?_
 refine C3 (A0 rfl) ?_ ?_
 ·intro h11
  have k11 := of_decide_eq_true h11; try simp only [A9] at k11
  have hlt : i < l.length := by (simpa using h11)
  obtain ⟨x, hx⟩ := get_some hlt
  have hxm := G6 hx
  have hxs := hs x hxm
  refine C8 (A3 (D0 (A3 (A2 ?_))))
  refine A5 rfl ?_
  refine A5 rfl ?_
  refine A1 rfl (H5 rfl M1 E1 (A0 rfl) (A0 rfl) hx (by first | omega | (simp only [D1, A7, szR] at *; omega))) ?_
  refine A1 rfl (J0 rfl (A0 rfl) G7 E1) ?_
  refine A1 rfl (D7 rfl Tryz.call37 rfl (AW9 x hxs) (A8 (A0 rfl) C6)) ?_
  refine A5 rfl ?_
  refine A1 rfl (I1 rfl (A0 rfl) rfl) ?_
  refine A1 rfl (I1 rfl (A0 rfl) rfl) ?_
  refine B4 rfl ?_
  refine B4 rfl ?_
  refine A4 (A3 (A3 (A2 ?_)))
  refine A5 rfl ?_
  refine A1 rfl (K3 rfl (A0 rfl)) ?_
  refine A4 ?_
  refine C3 (A0 rfl) ?_ ?_
  ·intro h23
   have hxb : goodState x = false := (by unfold settledR at h23; cases hb : goodState x with | false => rfl | true => (rw [hb] at h23; simp at h23))
   have he : sureR l = (0, false) := (by unfold sureR; rw [if_neg (by rw [Az6 hxm hxb]; decide)])
   rw [he]
   refine A3 (A2 ?_)
   refine A1 rfl (B3 rfl B5) ?_
   refine A1 rfl (B3 rfl F0) ?_
   refine A4 ?_
   refine C2 ?_
   exact T7 rfl (by decide) (F2 (B8 rfl (by rfl)) (F2 (B8 rfl (by rfl)) L5))
  intro h23
  have hxg : goodState x = true := (by unfold settledR at h23; cases hb : goodState x with | true => rfl | false => (rw [hb] at h23; simp at h23))
  have hsr : settledR x = (settled x, true) := if_pos hxg
  rw [hsr]
  refine C8 (A2 ?_)
  refine A5 rfl ?_
  refine A5 rfl ?_
  refine A1 rfl (D7 rfl Tryz.call38 rfl (AM4 _ _) (A8 (A0 rfl) (A8 (A0 rfl) C6))) ?_
  refine B4 rfl ?_
  refine A4 (A2 ?_)
  refine A5 rfl ?_
  refine A1 rfl (F6 rfl (A0 rfl) B5 (by first | omega | (simp only [D1, A7, szR] at *; omega))) ?_
  refine B4 rfl ?_
  refine A4 ?_
  refine J3 i (i + 1) ?_ ?_ (Q3 (by rfl) ⟨(congrArg (fun z => some (AV.int z)) (by rw [Af3 hx, BE1])), rfl, rfl, trivial⟩)
  ·exact ⟨by omega, fun q hq => by (rw [List.take_add_one, hx] at hq; rcases List.mem_append.1 hq with hq | hq; (exact hinv.2 q hq); (simp at hq; rw [hq]; exact hxg))⟩
  omega
 intro h11
 have k11 := of_decide_eq_false h11; try simp only [A9] at k11
 have hge : l.length ≤ i := by (simpa using h11)
 have hall : ∀ s ∈ l, goodState s = true := fun s hm => hinv.2 s (by rw [List.take_of_length_le hge]; exact hm)
 rw [List.take_of_length_le hge]
 refine G0 ?_
 refine A3 (A3 (A2 ?_))
 refine A5 rfl ?_
 refine A1 rfl (G5 rfl M1 (A0 rfl)) ?_
 refine A1 rfl (D7 rfl Tryz.call39 rfl (R9 _ _ _) (A8 (A0 rfl) (A8 B5 (A8 B5 C6)))) ?_
 refine A1 rfl (K3 rfl (A0 rfl)) ?_
 refine A4 ?_
 refine C3 (A0 rfl) ?_ ?_
 ·intro h30
  have he : sureR l = (0, false) := (by unfold sureR; rw [if_neg (by unfold areStates; simp only [A9] at h30; simp_all)])
  rw [he]
  refine A3 (A2 ?_)
  refine A1 rfl (B3 rfl B5) ?_
  refine A1 rfl (B3 rfl F0) ?_
  refine A4 ?_
  refine C2 ?_
  exact T7 rfl (by decide) (F2 (B8 rfl (by rfl)) (F2 (B8 rfl (by rfl)) L5))
 intro h30
 have he : sureR l = (sureL l, true) := (by unfold sureR; rw [if_pos (by unfold areStates; rw [List.all_eq_true.2 hall, Bool.and_true]; simpa using h30)])
 rw [he]
 refine C8 (A3 (A2 ?_))
 refine A5 rfl ?_
 refine B4 rfl ?_
 refine A1 rfl (B3 rfl F0) ?_
 refine A4 ?_
 refine C2 ?_
 exact T7 rfl (by decide) (F2 (B8 rfl (by rfl)) (F2 (B8 rfl (by rfl)) L5))
end Go.Proofs.YtkegepoihkhihaaGreat

set_option maxHeartbeats 1000000
namespace Go.Proofs.YtkegepoihkhihaaGreat
open Go Go.AV Go.M
attribute [local irreducible] OpW OpA OpS AWP FSpec ESpec GSpec OpE RetOk RetOkG RvDen Le Ev GuardIs SrcIs
theorem o0 (x y : TFeedItem) : (x.Time == y.Time && (x.Group == y.Group && (x.Key == y.Key && (x.Val == y.Val && (x.Gone == y.Gone && true))))) = decide (x = y) := by
  cases x; cases y
  rw [Bool.eq_iff_iff]
  simp
end Go.Proofs.YtkegepoihkhihaaGreat

set_option linter.unusedSectionVars false
namespace Go.M
open Go.AV
section
variable {α : Type} [Inhabited α]
structure Rot (l t : List α) (a m b : Nat) : Prop where
  out : ∀ k, k < a ∨ b ≤ k → t[k]? = l[k]?
  fst : ∀ k, k < b - m → t[a + k]? = l[m + k]?
  snd : ∀ k, k < m - a → t[a + (b - m) + k]? = l[a + k]?
end
end Go.M

namespace Go.M
open Go.AV
section
variable {α : Type} [Inhabited α] {lt : α → α → Bool}
section
variable {l t : List α} {a p m q b c : Nat}
theorem Rot.at1 (h : Rot l t p m q) {i : Nat} (h1 : p ≤ i) (h2 : i < p + (q - m)) : t[i]? = l[m + (i - p)]? := by
  have h9 := h.fst (i - p) (by omega)
  rw [show p + (i - p) = i by omega] at h9
  exact h9
theorem Rot.at2 (h : Rot l t p m q) (hm : p ≤ m) (hq : m ≤ q) {i : Nat} (h1 : p + (q - m) ≤ i) (h2 : i < q) : t[i]? = l[p + (i - (p + (q - m)))]? := by
  have h9 := h.snd (i - (p + (q - m))) (by omega)
  rw [show p + (q - m) + (i - (p + (q - m))) = i by omega] at h9
  exact h9
theorem Rot.s1 (h : Rot l t p m q) (hm : p ≤ m) (hq : m ≤ q) (hs : SortedOn lt l a m) : SortedOn lt t a p := by
  intro i j x y e1 e2 e3 hx hy
  rw [h.out i (by omega)] at hx
  rw [h.out j (by omega)] at hy
  exact hs i j x y e1 e2 (by omega) hx hy
theorem Rot.s2 (h : Rot l t p m q) (hm : p ≤ m) (hq : m ≤ q) (hqb : q ≤ b) (hs : SortedOn lt l m b) : SortedOn lt t p (p + (q - m)) := by
  intro i j x y e1 e2 e3 hx hy
  rw [h.at1 (by omega) (by omega)] at hx hy
  exact hs _ _ x y (by omega) (by omega) (by omega) hx hy
theorem Rot.s3 (h : Rot l t p m q) (hap : a ≤ p) (hm : p ≤ m) (hq : m ≤ q) (hs : SortedOn lt l a m) : SortedOn lt t (p + (q - m)) q := by
  intro i j x y e1 e2 e3 hx hy
  rw [h.at2 hm hq (by omega) (by omega)] at hx hy
  exact hs _ _ x y (by omega) (by omega) (by omega) hx hy
theorem Rot.s4 (h : Rot l t p m q) (hm : p ≤ m) (hq : m ≤ q) (hs : SortedOn lt l m b) : SortedOn lt t q b := by
  intro i j x y e1 e2 e3 hx hy
  rw [h.out i (by omega)] at hx
  rw [h.out j (by omega)] at hy
  exact hs i j x y (by omega) e2 e3 hx hy
end
end
end Go.M

namespace Go.M
open Go.AV
section
variable {α : Type} [Inhabited α] {lt : α → α → Bool}
end
end Go.M

namespace Go.M
open Go.AV
section
variable {α : Type} [Inhabited α] {lt : α → α → Bool}
end
end Go.M

namespace Go.Proofs.YtkegepoihkhihaaGreat
open Go Go.AV Go.M
attribute [local irreducible] OpW OpA OpS AWP FSpec ESpec GSpec OpE RetOk RetOkG RvDen Le Ev GuardIs SrcIs Int.tmod Int.tdiv IntKind.wrap
end Go.Proofs.YtkegepoihkhihaaGreat

namespace Go.Proofs.YtkegepoihkhihaaGreat
open Go Go.AV Go.M
attribute [local irreducible] OpW OpA OpS AWP FSpec ESpec GSpec OpE RetOk RetOkG RvDen Le Ev GuardIs SrcIs Int.tmod Int.tdiv IntKind.wrap
end Go.Proofs.YtkegepoihkhihaaGreat

namespace Go.Proofs.YtkegepoihkhihaaGreat
open Go Go.AV Go.M
attribute [local irreducible] OpW OpA OpS AWP FSpec ESpec GSpec OpE RetOk RetOkG RvDen Le Ev GuardIs SrcIs Int.tmod Int.tdiv IntKind.wrap
end Go.Proofs.YtkegepoihkhihaaGreat

namespace Go.Proofs.YtkegepoihkhihaaGreat
open Go Go.AV Go.M
attribute [local irreducible] OpW OpA OpS AWP FSpec ESpec GSpec OpE RetOk RetOkG RvDen Le Ev GuardIs SrcIs
theorem Af4 (l : List TFeedItem) (k : Nat) (x : TFeedItem) : (l.take k ++ x :: l.drop k).map TFeedItem.cs = ([] ++ (l.map TFeedItem.cs).take (k : Int).toNat ++ [x.cs]) ++ (l.map TFeedItem.cs).drop (k : Int).toNat := by simp
theorem AX8 (v : Value) (l : List TFeedItem) (x : TFeedItem) (hl : l.length ≤ 2097152) : GSpec Tryz.prog 69 [AV.is v, AV.agg x.cs] [.arr v 63 5 (l.map TFeedItem.cs)]
   (fun _ : Value => True) (fun v' => [.arr v' 63 5 ((putR l x).1.map TFeedItem.cs)]) (fun v' => AV.tup [AV.is v', AV.bool (putR l x).2]) := by
 refine N7 Tryz.func69 rfl Tryz.ntmps69 rfl ?_
 refine A3 (A2 ?_)
 refine L6 rfl rfl rfl rfl (A0 rfl) ?_
 intro b3
 refine A1 rfl (B3 rfl P8) ?_
 refine A1 rfl (B3 rfl F0) ?_
 refine A4 (A3 (A2 ?_))
 refine A1 rfl (B3 rfl B5) ?_
 refine A4 (A3 (D0 ?_))
 refine H4 [(0, _), (3, _), (4, _), (5, _)] _ (fun (k : Nat) => k ≤ l.length ∧ ∀ i y, i < k → l[i]? = some y → l23Ahead y x = true) (fun (k : Nat) => []) (fun (k : Nat) => [(6, AV.int k)]) (fun (k : Nat) => l.length - k) (0) ?_ (H8 ⟨rfl, rfl, rfl, rfl, rfl, trivial⟩) ?_
 ·exact ⟨Nat.zero_le _, fun i y h => by omega⟩
 intro k hinv
 obtain ⟨y, hy0⟩ := w5 l k
 refine A3 (A3 ?_)
 refine I3 (by kernel_rfl) (by kernel_rfl) rfl ?_
 refine B1 rfl rfl (B7 rfl (A0 rfl)) ?_
 refine B1 rfl rfl (B7 rfl (A0 rfl)) ?_
 refine B1 rfl rfl (e9 1 rfl E7 (A0 rfl) rfl) ?_
 refine B1 rfl rfl (I4 rfl (A0 rfl) (A0 rfl)) ?_
 refine B1 rfl rfl (B7 rfl (A0 rfl)) ?_
 refine C5 rfl (H0 rfl rfl rfl) (fun hc => B7 rfl (A0 rfl)) ?_
 refine C5 rfl (H0 rfl rfl rfl) (fun hc => B7 rfl (A0 rfl)) ?_
 refine C5 rfl (H0 rfl rfl rfl) (fun hc => Y2 1 rfl E7 G3 (A6 rfl hc) rfl (A6 rfl hc) (by omega) (by have := of_decide_eq_true hc; simpa using this)) ?_
 refine C5 rfl (H0 rfl rfl rfl) (fun hc => AO1 1 rfl (A6 rfl hc) rfl P6 G3 (by have h9 := of_decide_eq_true hc; simp only [Int.toNat_natCast, List.getElem?_map]; rw [hy0 (by simpa using h9)]; rfl) (by decide)) ?_
 refine C5 rfl (H0 rfl rfl rfl) (fun hc => I5 0 rfl (A0 rfl) rfl P6 G3 rfl) ?_
 refine C5 rfl (H0 rfl rfl rfl) (fun hc => D7 rfl Tryz.call109 rfl (t1 _ _) (A8 (A6 rfl hc) (A8 (A6 rfl hc) C6))) ?_
 refine B1 rfl rfl (G8 rfl (A0 rfl) (F1 rfl)) ?_
 refine P0 ?_
 refine C3 (A0 rfl) ?_ ?_
 ·intro h18
  have hkt : k < l.length ∧ l23Ahead y x = true := by simpa using h18
  refine C8 (D0 (A2 ?_))
  refine A5 rfl ?_
  refine A1 rfl (F6 rfl (A0 rfl) B5 (by first | omega | (simp only [D1, A7, szR] at *; omega))) ?_
  refine B4 rfl ?_
  refine A4 ?_
  refine c0 ?_
  refine J3 k (k + 1) ?_ ?_ (H8 ⟨rfl, rfl, rfl, rfl, rfl, trivial⟩)
  ·exact ⟨by have := hkt.1; omega, fun i z hi hz => if e : i = k then (by subst e; rw [hy0 hkt.1] at hz; injection hz with hz; subst hz; exact hkt.2) else hinv.2 i z (by omega) hz⟩
  omega
 intro h18
 have hng : k < l.length → l23Ahead y x = false := fun h => by simpa [h] using h18
 refine G0 ?_
 refine A3 (A3 ?_)
 refine I3 (by kernel_rfl) (by kernel_rfl) rfl ?_
 refine B1 rfl rfl (B7 rfl (A0 rfl)) ?_
 refine B1 rfl rfl (B7 rfl (A0 rfl)) ?_
 refine B1 rfl rfl (e9 1 rfl E7 (A0 rfl) rfl) ?_
 refine B1 rfl rfl (I4 rfl (A0 rfl) (A0 rfl)) ?_
 refine B1 rfl rfl (B7 rfl (A0 rfl)) ?_
 refine C5 rfl (H0 rfl rfl rfl) (fun hc => I5 0 rfl (A0 rfl) rfl P6 G3 rfl) ?_
 refine C5 rfl (H0 rfl rfl rfl) (fun hc => B7 rfl (A0 rfl)) ?_
 refine C5 rfl (H0 rfl rfl rfl) (fun hc => B7 rfl (A0 rfl)) ?_
 refine C5 rfl (H0 rfl rfl rfl) (fun hc => Y2 1 rfl E7 G3 (A6 rfl hc) rfl (A6 rfl hc) (by omega) (by have := of_decide_eq_true hc; simpa using this)) ?_
 refine C5 rfl (H0 rfl rfl rfl) (fun hc => AO1 1 rfl (A6 rfl hc) rfl P6 G3 (by have h9 := of_decide_eq_true hc; simp only [Int.toNat_natCast, List.getElem?_map]; rw [hy0 (by simpa using h9)]; rfl) (by decide)) ?_
 refine C5 rfl (H0 rfl rfl rfl) (fun hc => D7 rfl Tryz.call109 rfl (t1 _ _) (A8 (A6 rfl hc) (A8 (A6 rfl hc) C6))) ?_
 refine C5 rfl (H0 rfl rfl rfl) (fun hc => K3 rfl (A6 rfl hc)) ?_
 refine B1 rfl rfl (G8 rfl (A0 rfl) (F1 rfl)) ?_
 refine P0 ?_
 refine C3 (A0 rfl) ?_ ?_
 ·intro h33
  have hk2 : k < l.length ∧ l23Ahead x y = false := by simpa using h33
  rw [BD5 hinv.1 hinv.2 (hy0 hk2.1) hk2.2 (hng hk2.1)]
  refine A3 ?_
  refine I3 (by kernel_rfl) (by kernel_rfl) rfl ?_
  refine B1 rfl rfl (B7 rfl (A0 rfl)) ?_
  refine B1 rfl rfl (B7 rfl (A0 rfl)) ?_
  refine B1 rfl rfl (B7 rfl (A0 rfl)) ?_
  refine B1 rfl rfl (Y2 1 rfl E7 G3 (A0 rfl) rfl (A0 rfl) (by omega) (by simp only [A9]; omega)) ?_
  refine B1 rfl rfl (AO1 1 rfl (A0 rfl) rfl P6 G3 (by simp only [Int.toNat_natCast, List.getElem?_map]; rw [hy0 hk2.1]; rfl) (by decide)) ?_
  refine B1 rfl rfl (I5 0 rfl (A0 rfl) rfl P6 G3 rfl) ?_
  refine B1 rfl rfl (w_aeql rfl H1 (by kernel_rfl) (by kernel_rfl) (A0 rfl) (A0 rfl) (W6 (by kernel_rfl) C1 rfl rfl (AD4 Q7) (W6 (by kernel_rfl) C1 rfl rfl (AD4 Q7) (W6 (by kernel_rfl) F5 rfl rfl (AO0 K9) (W6 (by kernel_rfl) F5 rfl rfl (AO0 K9) (W6 (by kernel_rfl) K7 rfl rfl (Aj7 V5) AY7)))))) ?_
  refine B1 rfl rfl (B3 rfl (A0 rfl)) ?_
  refine B1 rfl rfl (B3 rfl (A0 rfl)) ?_
  refine P0 ?_
  refine C2 ?_
  exact T1 [1] v (trivial) rfl (by first | rfl | exact congrArg (fun z => [Own.arr _ 63 5 z]) (Af4 _ _ _)) (Y3 rfl (by decide) (F2 (B8 rfl (by first | rfl | exact congrArg AV.bool (o0 _ _))) (F2 (B8 rfl (by first | rfl | exact congrArg AV.bool (o0 _ _))) L5)))
 intro h33
 rw [putR_end hinv.1 hinv.2 (fun z hz => by (have h7 := (List.getElem?_eq_some_iff.1 hz).1; rw [hy0 h7] at hz; injection hz with hz; subst hz; simpa [h7] using h33)) (fun z hz => by (have h7 := (List.getElem?_eq_some_iff.1 hz).1; rw [hy0 h7] at hz; injection hz with hz; subst hz; exact hng h7))]
 refine C8 (A3 ?_)
 refine W4 _ [(1, false), (2, false), (3, false), (5, false), (6, false), (8, false), (9, false), (10, false), (0, true), (4, true), (7, true), (11, true)] (by kernel_rfl) (by kernel_rfl) rfl q8 ?_
 refine J2 rfl rfl rfl (fun ext => B7 rfl (A0 rfl)) ?_
 refine J2 rfl rfl rfl (fun ext => B7 rfl (A0 rfl)) ?_
 refine J2 rfl rfl rfl (fun ext => w_ahiT 1 rfl E7 G3 (A0 rfl) rfl (A0 rfl) (by omega) (by simp only [A9]; omega)) ?_
 refine J2 rfl rfl rfl (fun ext => I5 0 rfl (A0 rfl) rfl P6 G3 rfl) ?_
 refine J2 rfl rfl rfl (fun ext => M0 rfl E7 G3 Tryz.zeroValue63 rfl rfl rfl rfl (F4 (A0 rfl) (F9 _) J5) rfl rfl) ?_
 refine J2 rfl rfl rfl (fun ext => B7 rfl (A0 rfl)) ?_
 refine J2 rfl rfl rfl (fun ext => B7 rfl (A0 rfl)) ?_
 refine J2 rfl rfl rfl (fun ext => Ai4 1 rfl E7 G3 (A0 rfl) rfl (A0 rfl) (by omega) (by simp only [A9]; omega)) ?_
 refine U3 rfl rfl rfl (X2 rfl E7 G3) (fun a _ => (by first | exact G4 rfl | exact G4 (List.append_assoc _ _ _) | exact K5)) ?_
 intro v41 _
 refine U3 rfl rfl rfl (AQ6 (by' := 56) 2 rfl E7 Tryz.type63 rfl rfl rfl rfl rfl rfl (A0 rfl) (BC2 1 rfl (A0 rfl) (by simp only [A9, Int.toNat_natCast]; omega)) rfl (by simp only [L9, List.nil_append, J4, E6, List.length_drop, A9, J7, A7]; omega)) (fun a _ => (by first | exact G4 rfl | exact G4 (List.append_assoc _ _ _) | exact K5)) ?_
 intro v45_1 _
 refine U3 rfl rfl rfl (N2 (by' := 56) 2 rfl E7 Tryz.type63 rfl rfl rfl rfl rfl rfl (A0 rfl) (A0 rfl) rfl (by simp only [L9, List.nil_append, J4, E6, List.length_drop, A9, J7, A7]; omega)) (fun a _ => (by first | exact G4 rfl | exact G4 (List.append_assoc _ _ _) | exact K5)) ?_
 intro v48_2 _
 refine U3 rfl rfl rfl (AQ6 (by' := 56) 2 rfl E7 Tryz.type63 rfl rfl rfl rfl rfl rfl (A0 rfl) (BC1 1 rfl (A0 rfl) (by simp only [A9, Int.toNat_natCast]; omega)) rfl (by simp only [L9, List.nil_append, J4, E6, List.length_drop, A9, J7, A7]; omega)) (fun a _ => (by first | exact G4 rfl | exact G4 (List.append_assoc _ _ _) | exact K5)) ?_
 intro v52_3 _
 refine AD6 ?_
 refine B4 rfl ?_
 refine A1 rfl (B3 rfl F0) ?_
 refine A4 ?_
 refine C2 ?_
 exact T1 [2] v52_3 (trivial) rfl (by first | rfl | exact congrArg (fun z => [Own.arr _ 63 5 z]) (Af4 _ _ _)) (Y3 rfl (by decide) (F2 (B8 rfl (by first | rfl | exact congrArg AV.bool (o0 _ _))) (F2 (B8 rfl (by first | rfl | exact congrArg AV.bool (o0 _ _))) L5)))

theorem Az7 (a b : List TFeedItem) (hsa : sizeL TFeedItem.size a ≤ 1048576) (hsb : sizeL TFeedItem.size b ≤ 1048576) : GSpec Tryz.prog 31 [AV.list 5 (a.map TFeedItem.cs), AV.list 5 (b.map TFeedItem.cs)] []
   (fun _ : Value => True) (fun v' => [.arr v' 63 5 ((mergeF a b).1.map TFeedItem.cs)]) (fun v' => AV.tup [AV.is v', AV.bool (mergeF a b).2]) := by
 have hal : a.length ≤ 1048576 := Nat.le_trans M9 hsa
 have hbl : b.length ≤ 1048576 := Nat.le_trans M9 hsb
 refine N7 Tryz.func31 rfl Tryz.ntmps31 rfl ?_
 refine A3 (A2 ?_)
 refine A1 rfl (B3 rfl P8) ?_
 refine A1 rfl (B3 rfl F0) ?_
 refine A4 (A3 (A3 (A2 ?_)))
 refine A5 rfl ?_
 refine A1 rfl (D7 rfl Tryz.call68 rfl (AL3 _ (by assumption)) (A8 (A0 rfl) C6)) ?_
 refine A1 rfl (K3 rfl (A0 rfl)) ?_
 refine A5 rfl ?_
 refine H2 rfl (fun hc => B7 rfl (A0 rfl)) ?_
 refine H2 rfl (fun hc => D7 rfl Tryz.call68 rfl (AL3 _ (by assumption)) (A8 (A6 rfl hc) C6)) ?_
 refine H2 rfl (fun hc => K3 rfl (A6 rfl hc)) ?_
 refine A1 rfl (P9 rfl (A0 rfl) (F1 rfl)) ?_
 refine A4 ?_
 refine C3 (A0 rfl) ?_ ?_
 ·intro h17
  have hno : mergeF a b = ([], false) := if_neg (by intro h; rw [h.1, h.2] at h17; cases h17)
  rw [hno]
  refine A3 (A2 ?_)
  refine O8 rfl rfl rfl rfl E7 G3 ?_
  intro v18
  refine B4 rfl ?_
  refine A1 rfl (B3 rfl F0) ?_
  refine A4 ?_
  refine C2 ?_
  exact T1 [0] v18 (trivial) rfl (by rfl) (Y3 rfl (by decide) (F2 (B8 rfl (by first | rfl | (refine congrArg AV.bool ?_; simp_all; done))) (F2 (B8 rfl (by first | rfl | (refine congrArg AV.bool ?_; simp_all; done))) L5)))
 intro h17
 have hgd : l23Feed a = true ∧ l23Feed b = true := by simpa using h17
 refine C8 (A3 (A2 ?_))
 refine O8 rfl rfl rfl rfl E7 G3 ?_
 intro v19
 refine A5 rfl ?_
 refine M6 (by' := 56) 0 rfl rfl rfl rfl E7 Tryz.type63 rfl rfl rfl rfl rfl rfl (A0 rfl) (A0 rfl) rfl (by first | omega | (simp only [D1, A7, szR] at *; omega)) ?_
 intro v21_1
 refine B4 rfl ?_
 refine A4 (A3 (A3 (A2 ?_)))
 refine A1 rfl (B3 rfl B5) ?_
 refine A4 (D0 ?_)
 refine T5 [(1, _)] _ (fun (i : Nat) (v : Value) (o : List TFeedItem) => i ≤ b.length ∧ mergeAll a b = mergeAll o (b.drop i) ∧ o.length ≤ a.length + i) (fun (i : Nat) (v : Value) (o : List TFeedItem) => [.arr v 63 5 (o.map TFeedItem.cs)]) (fun (i : Nat) (v : Value) (o : List TFeedItem) => [(6, AV.is v), (7, AV.int i)]) (fun (i : Nat) (v : Value) (o : List TFeedItem) => b.length - i) (0) (v21_1) (a) ?_ (Q3 (by rfl) ⟨rfl, rfl, rfl, trivial⟩) ?_
 ·exact ⟨Nat.zero_le _, rfl, Nat.le_refl _⟩
 intro i v o hinv
 refine A3 (A3 (A2 ?_))
 refine A5 rfl ?_
 refine A5 rfl ?_
 refine A1 rfl (G5 rfl E7 (A0 rfl)) ?_
 refine A1 rfl (I4 rfl (A0 rfl) (A0 rfl)) ?_
 refine A4 ?_
 refine C3 (A0 rfl) ?_ ?_
 ·intro h25
  have k25 := of_decide_eq_true h25; try simp only [A9] at k25
  have hlt : i < b.length := by omega
  obtain ⟨x, hx⟩ := get_some hlt
  refine C8 (A3 (D0 (A3 (A2 ?_))))
  refine A5 rfl ?_
  refine A5 rfl ?_
  refine A5 rfl ?_
  refine A1 rfl (H5 rfl E7 G3 (A0 rfl) (A0 rfl) hx (by first | omega | (simp only [D1, A7, szR] at *; omega))) ?_
  refine A1 rfl (J0 rfl (A0 rfl) P6 G3) ?_
  refine g8 [0] rfl rfl rfl rfl Tryz.call69 rfl (AX8 v o x (by omega)) (A8 (A0 rfl) (A8 (A0 rfl) C6)) rfl ?_
  intro x34 ok34
  refine A5 rfl ?_
  refine A1 rfl (I1 rfl (A0 rfl) rfl) ?_
  refine A1 rfl (I1 rfl (A0 rfl) rfl) ?_
  refine B4 rfl ?_
  refine B4 rfl ?_
  refine A4 (A3 (A3 (A2 ?_)))
  refine A5 rfl ?_
  refine A1 rfl (K3 rfl (A0 rfl)) ?_
  refine A4 ?_
  refine C3 (A0 rfl) ?_ ?_
  ·intro h38
   have hno : mergeF a b = ([], false) := by (unfold mergeF; rw [if_pos hgd, Ah9 hinv.2.1 hx (by simpa using h38)])
   rw [hno]
   refine A3 (A2 ?_)
   refine O8 rfl rfl rfl rfl E7 G3 ?_
   intro v39
   refine B4 rfl ?_
   refine A1 rfl (B3 rfl F0) ?_
   refine A4 ?_
   refine C2 ?_
   exact T1 [0] v39 (trivial) rfl (by rfl) (Y3 rfl (by decide) (F2 (B8 rfl (by first | rfl | (refine congrArg AV.bool ?_; simp_all; done))) (F2 (B8 rfl (by first | rfl | (refine congrArg AV.bool ?_; simp_all; done))) L5)))
  intro h38
  refine C8 (A2 ?_)
  refine A5 rfl ?_
  refine B4 rfl ?_
  refine A4 (A2 ?_)
  refine A5 rfl ?_
  refine A1 rfl (F6 rfl (A0 rfl) B5 (by first | omega | (simp only [D1, A7, szR] at *; omega))) ?_
  refine B4 rfl ?_
  refine A4 ?_
  refine S9 i v o (i + 1) (x34) ((putR o x).1) ?_ ?_ (Q3 (by rfl) ⟨rfl, rfl, rfl, trivial⟩)
  ·exact ⟨by omega, Ah8 hinv.2.1 hx (by simpa using h38), by have := AH8 x o; omega⟩
  omega
 intro h25
 have k25 := of_decide_eq_false h25; try simp only [A9] at k25
 have hme := Ao1 hinv.2.1 (show b.length ≤ i by omega)
 refine G0 ?_
 refine A3 (A3 (A2 ?_))
 refine A5 rfl ?_
 refine A1 rfl (e9 0 rfl E7 (A0 rfl) rfl) ?_
 refine A1 rfl (N6 rfl (A0 rfl) B5) ?_
 refine A4 ?_
 refine C3 (A0 rfl) ?_ ?_
 ·intro h43
  have k43 := of_decide_eq_true h43; try simp only [A9] at k43
  have hno : mergeF a b = ([], false) := by (unfold mergeF; rw [if_pos hgd, hme]; exact if_pos (by omega))
  rw [hno]
  refine A3 (A2 ?_)
  refine O8 rfl rfl rfl rfl E7 G3 ?_
  intro v44
  refine B4 rfl ?_
  refine A1 rfl (B3 rfl F0) ?_
  refine A4 ?_
  refine C2 ?_
  exact T1 [0] v44 (trivial) rfl (by rfl) (Y3 rfl (by decide) (F2 (B8 rfl (by first | rfl | (refine congrArg AV.bool ?_; simp_all; done))) (F2 (B8 rfl (by first | rfl | (refine congrArg AV.bool ?_; simp_all; done))) L5)))
 intro h43
 have k43 := of_decide_eq_false h43; try simp only [A9] at k43
 have hyes : mergeF a b = (o, true) := by (unfold mergeF; rw [if_pos hgd, hme]; exact if_neg (by omega))
 rw [hyes]
 refine C8 (A3 (A2 ?_))
 refine A5 rfl ?_
 refine B4 rfl ?_
 refine A1 rfl (B3 rfl F0) ?_
 refine A4 ?_
 refine C2 ?_
 exact T1 [0] v (trivial) rfl (by rfl) (Y3 rfl (by decide) (F2 (B8 rfl (by first | rfl | (refine congrArg AV.bool ?_; simp_all; done))) (F2 (B8 rfl (by first | rfl | (refine congrArg AV.bool ?_; simp_all; done))) L5)))
end Go.Proofs.YtkegepoihkhihaaGreat

set_option maxHeartbeats 2000000
namespace Go.M
open Go.AV
theorem AN0 {α : Type} {p : α → Bool} {l : List α} {i : Nat} {x : α} (h : l[i]? = some x) : (l.take (i + 1)).filter p = (l.take i).filter p ++ (if p x = true then [x] else []) := by
  rw [List.take_add_one, h, List.filter_append]
  cases hp : p x <;> simp [hp]
theorem raw_take {l : List TCell} {i : Nat} {c : TCell} {g a u : Int} (h : l[i]? = some c) : rawItems (l.take (i + 1)) g a u = rawItems (l.take i) g a u ++ cellItems g a u c := by
  unfold rawItems; rw [List.take_add_one, h, List.map_append, List.flatten_append]; simp
def partItems (l : List TCell) (i : Nat) (c : TCell) (j : Nat) (g a u : Int) : List TFeedItem := rawItems (l.take i) g a u ++ ((c.Vers.take j).filter (inTime a u)).map (itemOf g c.Key)
theorem AN1 (l : List TCell) (i : Nat) (c : TCell) (g a u : Int) : partItems l i c 0 g a u = rawItems (l.take i) g a u := by unfold partItems; simp
theorem Af5 {l : List TCell} {i : Nat} {c : TCell} {g a u : Int} {j : Nat} (h : l[i]? = some c) (hj : c.Vers.length ≤ j) : partItems l i c j g a u = rawItems (l.take (i + 1)) g a u := by
  unfold partItems; rw [raw_take h, List.take_of_length_le hj]; rfl
theorem AI1 {l : List TCell} {i : Nat} {c : TCell} {g a u : Int} {j : Nat} {v : TVer} (h : c.Vers[j]? = some v) (hp : inTime a u v = true) : partItems l i c (j + 1) g a u = partItems l i c j g a u ++ [itemOf g c.Key v] := by
  unfold partItems; rw [AN0 h, if_pos hp, List.map_append, List.append_assoc]; rfl
theorem AP2 {l : List TCell} {i : Nat} {c : TCell} {g a u : Int} {j : Nat} {v : TVer} (h : c.Vers[j]? = some v) (hp : inTime a u v = false) : partItems l i c (j + 1) g a u = partItems l i c j g a u := by
  unfold partItems; rw [AN0 h, if_neg (by rw [hp]; decide), List.append_nil]
theorem AU0 {l : List TCell} (h : goodCells l = true) {i : Nat} {c : TCell} {g a u : Int} {j : Nat} (hj : j ≤ 16) : (partItems l i c j g a u).length ≤ 1000 := by
  obtain ⟨f1, f2, f3⟩ := P4 h
  have h1 := AP1 (l := l.take i) (g := g) (a := a) (u := u) fun c hc => (f3 c (List.mem_of_mem_take hc)).2.2.1
  have h2 : ((c.Vers.take j).filter (inTime a u)).length ≤ j := Nat.le_trans (List.length_filter_le _ _) (List.length_take_le _ _)
  have h3 : (l.take i).length ≤ l.length := List.length_take_le' _ _
  unfold partItems
  rw [J4, A9]; omega
theorem AX9 {o l : List TFeedItem} {x : TFeedItem} : M.insAll o (l ++ [x]) = (putR (M.insAll o l) x).1 := by unfold M.insAll; rw [List.foldl_append]; rfl
theorem AR4 : ∀ {l o : List TFeedItem}, (M.insAll o l).length ≤ o.length + l.length
  | [], o => Nat.le_refl _
  | x :: l, o => by
    have h1 := AR4 (l := l) (o := (putR o x).1)
    have h2 := AH8 x o
    show (M.insAll (putR o x).1 l).length ≤ _
    rw [J7]; omega
def itemsR (s : TState) (g a u : Int) : List TFeedItem × Bool := if (((goodState s && isGroup g) && isTrue a) && isTrue u) && decide (a ≤ u) = true then (feedIn s.Cells g a u, true) else ([], false)
end Go.M
namespace Go.Proofs.YtkegepoihkhihaaGreat
open Go Go.AV Go.M
attribute [local irreducible] OpW OpA OpS AWP FSpec ESpec GSpec OpE RetOk RetOkG RvDen Le Ev GuardIs SrcIs SrcE Int.tmod IntKind.wrap bandI
theorem As8 (s : TState) (g a u : Int) (hg : goodCells s.Cells = true) : GSpec Tryz.prog 53 [AV.agg s.cs, AV.int g, AV.int a, AV.int u] [] (fun _ : Value => True) (fun v => [.arr v 63 5 ((feedIn s.Cells g a u).map TFeedItem.cs)]) (fun v => AV.is v) := by
 obtain ⟨f1, f2, f3⟩ := P4 hg
 refine N7 Tryz.func53 rfl Tryz.ntmps53 rfl ?_
 refine A3 (A2 ?_)
 refine L6 rfl rfl rfl rfl (A0 rfl) ?_
 intro b4
 refine A1 rfl (B3 rfl P8) ?_
 refine A4 (A3 (A2 ?_))
 refine O8 rfl rfl rfl rfl E7 G3 ?_
 intro v14
 refine B4 rfl ?_
 refine A4 (A3 (A3 (A2 ?_)))
 refine A1 rfl (B2 1 rfl D2 rfl M4 (A0 rfl) rfl) ?_
 refine A1 rfl (B0 1 rfl (A0 rfl) rfl O9 rfl) ?_
 refine A1 rfl (G5 rfl E2 (A0 rfl)) ?_
 refine A1 rfl (B7 rfl B5) ?_
 refine A4 (D0 ?_)
 refine AWP.le (K1 [0] rfl) ?_
 refine P5 [(1, _), (2, _), (3, _), (8, _), (16, _), (17, _)] _ (fun (i : Nat) (v : Value) => i ≤ s.Cells.length) (fun (i : Nat) (v : Value) => [.arr v 63 5 ((rawItems (s.Cells.take i) g a u).map TFeedItem.cs)]) (fun (i : Nat) (v : Value) => [(9, AV.is v), (18, AV.int i)]) (fun (i : Nat) (v : Value) => s.Cells.length - i) (0) (v14) ?_ (Q3 (by rfl) ⟨rfl, rfl, rfl, rfl, rfl, rfl, rfl, rfl, trivial⟩) ?_
 ·exact Nat.zero_le _
 intro i v hinv
 refine A3 (A2 ?_)
 refine A1 rfl (I4 rfl (A0 rfl) (A0 rfl)) ?_
 refine A4 (A3 ?_)
 refine C3 (A0 rfl) ?_ ?_
 ·intro h19
  have k19 := of_decide_eq_true h19; try simp only [A9] at k19
  have hlt : i < s.Cells.length := by (simpa using h19)
  obtain ⟨c, hx⟩ := get_some hlt
  have hcf := f3 c (G6 hx)
  refine C8 (A3 (D0 (A3 (A2 ?_))))
  refine A1 rfl (H5 rfl E2 F3 (A0 rfl) (A0 rfl) hx (by first | omega | (simp only [D1, A7, szR] at *; omega))) ?_
  refine A1 rfl (J0 rfl (A0 rfl) R5 F3) ?_
  refine H3 rfl rfl rfl rfl Tryz.zeroValue125 rfl ?_
  intro b11
  refine E9 0 rfl rfl rfl (A0 rfl) (A0 rfl) (F9 _) rfl F3 rfl ?_
  refine A4 (A3 (A2 ?_))
  refine A1 rfl (B2 1 rfl F8 rfl M8 (A0 rfl) rfl) ?_
  refine A1 rfl (B0 0 rfl (A0 rfl) rfl P1 rfl) ?_
  refine A1 rfl (G5 rfl I7 (A0 rfl)) ?_
  refine A1 rfl (B7 rfl B5) ?_
  refine A4 (D0 ?_)
  refine AWP.le (K1 [1, 0] rfl) ?_
  refine P5 [(1, _), (2, _), (3, _), (8, _), (11, _), (16, _), (17, _), (18, _), (19, _), (20, _), (21, _), (22, _), (23, _), (24, _)] _ (fun (j : Nat) (w : Value) => j ≤ c.Vers.length) (fun (j : Nat) (w : Value) => [.arr w 63 5 ((partItems s.Cells i c j g a u).map TFeedItem.cs), .box b11 125 c.cs]) (fun (j : Nat) (w : Value) => [(9, AV.is w), (25, AV.int j)]) (fun (j : Nat) (w : Value) => c.Vers.length - j) (0) (v) ?_ (Q3 (by (rw [AN1]; rfl)) ⟨rfl, rfl, rfl, rfl, rfl, rfl, rfl, rfl, rfl, rfl, rfl, rfl, rfl, rfl, rfl, rfl, trivial⟩) ?_
  ·exact Nat.zero_le _
  intro j w hinv
  refine A3 (A2 ?_)
  refine A1 rfl (I4 rfl (A0 rfl) (A0 rfl)) ?_
  refine A4 (A3 ?_)
  refine C3 (A0 rfl) ?_ ?_
  ·intro h26
   have k26 := of_decide_eq_true h26; try simp only [A9] at k26
   have hlt1 : j < c.Vers.length := by (simpa using h26)
   obtain ⟨y, hy⟩ := get_some hlt1
   have hpl := AU0 hg (i := i) (c := c) (g := g) (a := a) (u := u) (j := j) (by omega)
   refine C8 (A3 (D0 (A3 (A2 ?_))))
   refine A1 rfl (H5 rfl I7 L1 (A0 rfl) (A0 rfl) hy (by first | omega | (simp only [D1, A7, szR] at *; omega))) ?_
   refine A1 rfl (J0 rfl (A0 rfl) Y6 L1) ?_
   refine H3 rfl rfl rfl rfl Tryz.zeroValue127 rfl ?_
   intro b13
   refine E9 0 rfl rfl rfl (A0 rfl) (A0 rfl) (F9 _) rfl L1 rfl ?_
   refine A4 (A3 (A2 ?_))
   refine A1 rfl (B2 0 rfl J6 rfl B9 (A0 rfl) rfl) ?_
   refine A1 rfl (B0 0 rfl (A0 rfl) rfl C1 rfl) ?_
   refine A5 rfl ?_
   refine A1 rfl (N6 rfl (A0 rfl) (A0 rfl)) ?_
   refine A5 rfl ?_
   refine C4 rfl (fun hc => B2 0 rfl J6 rfl B9 (A0 rfl) rfl) ?_
   refine C4 rfl (fun hc => B0 0 rfl (A6 rfl hc) rfl C1 rfl) ?_
   refine C4 rfl (fun hc => B7 rfl (A0 rfl)) ?_
   refine C4 rfl (fun hc => S1 rfl (A6 rfl hc) (A6 rfl hc)) ?_
   refine A1 rfl (G8 rfl (A0 rfl) (F1 rfl)) ?_
   refine A4 ?_
   refine C3 (A0 rfl) ?_ ?_
   ·intro h38
    refine A2 ?_
    refine A5 rfl ?_
    refine A1 rfl (B2 0 rfl J6 rfl B9 (A0 rfl) rfl) ?_
    refine A1 rfl (B0 0 rfl (A0 rfl) rfl C1 rfl) ?_
    refine A5 rfl ?_
    refine A1 rfl (B2 0 rfl F8 rfl E3 (A0 rfl) rfl) ?_
    refine A1 rfl (B0 2 rfl (A0 rfl) rfl F5 rfl) ?_
    refine A1 rfl (B2 1 rfl J6 rfl E3 (A0 rfl) rfl) ?_
    refine A1 rfl (B0 0 rfl (A0 rfl) rfl F5 rfl) ?_
    refine A1 rfl (B2 2 rfl J6 rfl K2 (A0 rfl) rfl) ?_
    refine A1 rfl (B0 0 rfl (A0 rfl) rfl K7 rfl) ?_
    refine A1 rfl (O6 (places := #[(0, 1), (1, 1), (2, 1), (3, 1), (4, 1)]) rfl H1 Tryz.zeroValue63 (fun w => by kernel_rfl) rfl (F4 (A0 rfl) (P2 _ _) (F4 (A0 rfl) (P2 _ _) (F4 (A0 rfl) (T4 _) (F4 (A0 rfl) (T4 _) (F4 (A0 rfl) (i8 _) J5))))) rfl) ?_
    refine A1 rfl (M0 rfl E7 G3 Tryz.zeroValue63 rfl rfl rfl rfl (F4 (A0 rfl) (F9 _) J5) rfl rfl) ?_
    refine M6 (by' := 56) 1 rfl rfl rfl rfl E7 Tryz.type63 rfl rfl rfl rfl rfl rfl (A0 rfl) (A0 rfl) rfl (by simp only [A9, A7]; omega) ?_
    intro v51_1
    refine B4 rfl ?_
    refine A4 (A2 ?_)
    refine A1 rfl (F6 rfl (A0 rfl) B5 (by first | omega | (simp only [D1, A7, szR] at *; omega))) ?_
    refine A5 rfl ?_
    refine A4 ?_
    refine M2 j w (j + 1) (v51_1) ?_ ?_ (Le.trans (K1 [0, 0, 0] rfl) (M3 1 (by first | (rw [AI1 hy h38, List.map_append]; rfl) | (rw [AP2 hy h38]; rfl)) ⟨rfl, rfl, rfl, rfl, rfl, rfl, rfl, rfl, rfl, rfl, rfl, rfl, rfl, rfl, rfl, rfl, trivial⟩))
    ·exact (by omega)
    omega
   intro h38
   refine C8 (A2 ?_)
   refine A1 rfl (F6 rfl (A0 rfl) B5 (by first | omega | (simp only [D1, A7, szR] at *; omega))) ?_
   refine A5 rfl ?_
   refine A4 ?_
   refine M2 j w (j + 1) (w) ?_ ?_ (Le.trans (K1 [0, 0, 0] rfl) (M3 1 (by first | (rw [AI1 hy h38, List.map_append]; rfl) | (rw [AP2 hy h38]; rfl)) ⟨rfl, rfl, rfl, rfl, rfl, rfl, rfl, rfl, rfl, rfl, rfl, rfl, rfl, rfl, rfl, rfl, trivial⟩))
   ·exact (by omega)
   omega
  intro h26
  have k26 := of_decide_eq_false h26; try simp only [A9] at k26
  have hge1 : c.Vers.length ≤ j := by (simpa using h26)
  refine G0 ?_
  refine A2 ?_
  refine A1 rfl (F6 rfl (A0 rfl) B5 (by first | omega | (simp only [D1, A7, szR] at *; omega))) ?_
  refine A5 rfl ?_
  refine A4 ?_
  refine M2 i v (i + 1) (w) ?_ ?_ (Le.trans (K1 [1, 0] rfl) (M3 1 (by (rw [Af5 hx hge1]; rfl)) ⟨rfl, rfl, rfl, rfl, rfl, rfl, rfl, rfl, trivial⟩))
  ·exact (by omega)
  omega
 intro h19
 have k19 := of_decide_eq_false h19; try simp only [A9] at k19
 have hge : s.Cells.length ≤ i := by (simpa using h19)
 rw [List.take_of_length_le hge]
 refine G0 ?_
 refine A3 (A2 ?_)
 refine A5 rfl ?_
 refine AA7 [0] rfl rfl rfl rfl Tryz.call63 rfl (AE3 v (rawItems s.Cells g a u) (by have h9 := AU0 hg (i := s.Cells.length) (c := ⟨[], []⟩) (g := g) (a := a) (u := u) (j := 0) (by omega); rw [AN1, List.take_of_length_le (Nat.le_refl _)] at h9; omega)) rfl (R8 (evb (A0 rfl)) (R8 (evb At6) W5)) (by first | exact I8 | (intro _; exact I8) | (intro _; first | exact E0 _ | exact D3 _ _ | exact C7 _ | exact D5 _ | exact D4) | (intro _; refine V7 ?_; (repeat (first | exact C9 | (refine B6 (by first | (first | exact E0 _ | exact D3 _ _ | exact C7 _ | exact D5 _ | exact D4) | (refine Q0 ?_; (repeat (first | exact C9 | (refine B6 (by first | exact E0 _ | exact D3 _ _ | exact C7 _ | exact D5 _ | exact D4) ?_))))) ?_))); done) | (intro _; refine Q0 ?_; (repeat (first | exact C9 | (refine B6 (by first | exact E0 _ | exact D3 _ _ | exact C7 _ | exact D5 _ | exact D4) ?_))); done) | ((repeat (first | exact I8 | (refine H7 (N8 ?_) ?_; (repeat (first | exact C9 | (refine B6 (by first | exact E0 _ | exact D3 _ _ | exact C7 _ | exact D5 _ | exact D4) ?_)))) | (refine H7 (N9 ?_) ?_; (repeat (first | exact O0 | (refine O2 (fun _ => ?_); (first | exact TWrite.flat _ | exact TFeedItem.flat _ | exact TIdx.flat _ | exact TVer.flat _ | (repeat (first | exact C9 | (refine B6 (by first | exact E0 _ | exact D3 _ _ | exact C7 _ | exact D5 _ | exact D4) ?_))))) | (refine O3 ?_; (first | exact TWrite.flat _ | exact TFeedItem.flat _ | exact TIdx.flat _ | exact TVer.flat _ | (repeat (first | exact C9 | (refine B6 (by first | exact E0 _ | exact D3 _ _ | exact C7 _ | exact D5 _ | exact D4) ?_))))) | (refine N0 ?_ ?_; (first | exact TWrite.flat _ | exact TFeedItem.flat _ | exact TIdx.flat _ | exact TVer.flat _ | (repeat (first | exact C9 | (refine B6 (by first | exact E0 _ | exact D3 _ _ | exact C7 _ | exact D5 _ | exact D4) ?_))))) | refine O1 ?_ ?_))))); done) | (intro _; (repeat (first | exact I8 | (refine H7 (N8 ?_) ?_; (repeat (first | exact C9 | (refine B6 (by first | exact E0 _ | exact D3 _ _ | exact C7 _ | exact D5 _ | exact D4) ?_)))) | (refine H7 (N9 ?_) ?_; (repeat (first | exact O0 | (refine O2 (fun _ => ?_); (first | exact TWrite.flat _ | exact TFeedItem.flat _ | exact TIdx.flat _ | exact TVer.flat _ | (repeat (first | exact C9 | (refine B6 (by first | exact E0 _ | exact D3 _ _ | exact C7 _ | exact D5 _ | exact D4) ?_))))) | (refine O3 ?_; (first | exact TWrite.flat _ | exact TFeedItem.flat _ | exact TIdx.flat _ | exact TVer.flat _ | (repeat (first | exact C9 | (refine B6 (by first | exact E0 _ | exact D3 _ _ | exact C7 _ | exact D5 _ | exact D4) ?_))))) | (refine N0 ?_ ?_; (first | exact TWrite.flat _ | exact TFeedItem.flat _ | exact TIdx.flat _ | exact TVer.flat _ | (repeat (first | exact C9 | (refine B6 (by first | exact E0 _ | exact D3 _ _ | exact C7 _ | exact D5 _ | exact D4) ?_))))) | refine O1 ?_ ?_))))); done)) (by first | exact I8 | (intro _; exact I8) | (intro _; first | exact E0 _ | exact D3 _ _ | exact C7 _ | exact D5 _ | exact D4) | (intro _; refine V7 ?_; (repeat (first | exact C9 | (refine B6 (by first | (first | exact E0 _ | exact D3 _ _ | exact C7 _ | exact D5 _ | exact D4) | (refine Q0 ?_; (repeat (first | exact C9 | (refine B6 (by first | exact E0 _ | exact D3 _ _ | exact C7 _ | exact D5 _ | exact D4) ?_))))) ?_))); done) | (intro _; refine Q0 ?_; (repeat (first | exact C9 | (refine B6 (by first | exact E0 _ | exact D3 _ _ | exact C7 _ | exact D5 _ | exact D4) ?_))); done) | ((repeat (first | exact I8 | (refine H7 (N8 ?_) ?_; (repeat (first | exact C9 | (refine B6 (by first | exact E0 _ | exact D3 _ _ | exact C7 _ | exact D5 _ | exact D4) ?_)))) | (refine H7 (N9 ?_) ?_; (repeat (first | exact O0 | (refine O2 (fun _ => ?_); (first | exact TWrite.flat _ | exact TFeedItem.flat _ | exact TIdx.flat _ | exact TVer.flat _ | (repeat (first | exact C9 | (refine B6 (by first | exact E0 _ | exact D3 _ _ | exact C7 _ | exact D5 _ | exact D4) ?_))))) | (refine O3 ?_; (first | exact TWrite.flat _ | exact TFeedItem.flat _ | exact TIdx.flat _ | exact TVer.flat _ | (repeat (first | exact C9 | (refine B6 (by first | exact E0 _ | exact D3 _ _ | exact C7 _ | exact D5 _ | exact D4) ?_))))) | (refine N0 ?_ ?_; (first | exact TWrite.flat _ | exact TFeedItem.flat _ | exact TIdx.flat _ | exact TVer.flat _ | (repeat (first | exact C9 | (refine B6 (by first | exact E0 _ | exact D3 _ _ | exact C7 _ | exact D5 _ | exact D4) ?_))))) | refine O1 ?_ ?_))))); done) | (intro _; (repeat (first | exact I8 | (refine H7 (N8 ?_) ?_; (repeat (first | exact C9 | (refine B6 (by first | exact E0 _ | exact D3 _ _ | exact C7 _ | exact D5 _ | exact D4) ?_)))) | (refine H7 (N9 ?_) ?_; (repeat (first | exact O0 | (refine O2 (fun _ => ?_); (first | exact TWrite.flat _ | exact TFeedItem.flat _ | exact TIdx.flat _ | exact TVer.flat _ | (repeat (first | exact C9 | (refine B6 (by first | exact E0 _ | exact D3 _ _ | exact C7 _ | exact D5 _ | exact D4) ?_))))) | (refine O3 ?_; (first | exact TWrite.flat _ | exact TFeedItem.flat _ | exact TIdx.flat _ | exact TVer.flat _ | (repeat (first | exact C9 | (refine B6 (by first | exact E0 _ | exact D3 _ _ | exact C7 _ | exact D5 _ | exact D4) ?_))))) | (refine N0 ?_ ?_; (first | exact TWrite.flat _ | exact TFeedItem.flat _ | exact TIdx.flat _ | exact TVer.flat _ | (repeat (first | exact C9 | (refine B6 (by first | exact E0 _ | exact D3 _ _ | exact C7 _ | exact D5 _ | exact D4) ?_))))) | refine O1 ?_ ?_))))); done)) (by first | exact I8 | (intro _; exact I8) | (intro _; first | exact E0 _ | exact D3 _ _ | exact C7 _ | exact D5 _ | exact D4) | (intro _; refine V7 ?_; (repeat (first | exact C9 | (refine B6 (by first | (first | exact E0 _ | exact D3 _ _ | exact C7 _ | exact D5 _ | exact D4) | (refine Q0 ?_; (repeat (first | exact C9 | (refine B6 (by first | exact E0 _ | exact D3 _ _ | exact C7 _ | exact D5 _ | exact D4) ?_))))) ?_))); done) | (intro _; refine Q0 ?_; (repeat (first | exact C9 | (refine B6 (by first | exact E0 _ | exact D3 _ _ | exact C7 _ | exact D5 _ | exact D4) ?_))); done) | ((repeat (first | exact I8 | (refine H7 (N8 ?_) ?_; (repeat (first | exact C9 | (refine B6 (by first | exact E0 _ | exact D3 _ _ | exact C7 _ | exact D5 _ | exact D4) ?_)))) | (refine H7 (N9 ?_) ?_; (repeat (first | exact O0 | (refine O2 (fun _ => ?_); (first | exact TWrite.flat _ | exact TFeedItem.flat _ | exact TIdx.flat _ | exact TVer.flat _ | (repeat (first | exact C9 | (refine B6 (by first | exact E0 _ | exact D3 _ _ | exact C7 _ | exact D5 _ | exact D4) ?_))))) | (refine O3 ?_; (first | exact TWrite.flat _ | exact TFeedItem.flat _ | exact TIdx.flat _ | exact TVer.flat _ | (repeat (first | exact C9 | (refine B6 (by first | exact E0 _ | exact D3 _ _ | exact C7 _ | exact D5 _ | exact D4) ?_))))) | (refine N0 ?_ ?_; (first | exact TWrite.flat _ | exact TFeedItem.flat _ | exact TIdx.flat _ | exact TVer.flat _ | (repeat (first | exact C9 | (refine B6 (by first | exact E0 _ | exact D3 _ _ | exact C7 _ | exact D5 _ | exact D4) ?_))))) | refine O1 ?_ ?_))))); done) | (intro _; (repeat (first | exact I8 | (refine H7 (N8 ?_) ?_; (repeat (first | exact C9 | (refine B6 (by first | exact E0 _ | exact D3 _ _ | exact C7 _ | exact D5 _ | exact D4) ?_)))) | (refine H7 (N9 ?_) ?_; (repeat (first | exact O0 | (refine O2 (fun _ => ?_); (first | exact TWrite.flat _ | exact TFeedItem.flat _ | exact TIdx.flat _ | exact TVer.flat _ | (repeat (first | exact C9 | (refine B6 (by first | exact E0 _ | exact D3 _ _ | exact C7 _ | exact D5 _ | exact D4) ?_))))) | (refine O3 ?_; (first | exact TWrite.flat _ | exact TFeedItem.flat _ | exact TIdx.flat _ | exact TVer.flat _ | (repeat (first | exact C9 | (refine B6 (by first | exact E0 _ | exact D3 _ _ | exact C7 _ | exact D5 _ | exact D4) ?_))))) | (refine N0 ?_ ?_; (first | exact TWrite.flat _ | exact TFeedItem.flat _ | exact TIdx.flat _ | exact TVer.flat _ | (repeat (first | exact C9 | (refine B6 (by first | exact E0 _ | exact D3 _ _ | exact C7 _ | exact D5 _ | exact D4) ?_))))) | refine O1 ?_ ?_))))); done)) ?_
 intro x55 ok55
 have he := BD8 (W3 hg).1 (W3 hg).2 ok55.1 ok55.2
 subst he
 refine A4 (A3 (A2 ?_))
 refine A5 rfl ?_
 refine B4 rfl ?_
 refine A4 ?_
 refine C2 ?_
 exact T1 [0] v (trivial) rfl (by rfl) (c5 rfl (B8 rfl (by rfl)))
end Go.Proofs.YtkegepoihkhihaaGreat

namespace Go.M
open Go.AV
theorem Ap2 {l : List TCell} (h : goodCells l = true) {i : Nat} {c : TCell} {g a u : Int} {j : Nat} (hj : j ≤ 16) : (M.insAll [] (partItems l i c j g a u)).length ≤ 1000 := by
  have h1 := AU0 h (i := i) (c := c) (g := g) (a := a) (u := u) hj
  have h2 := AR4 (l := partItems l i c j g a u) (o := [])
  rw [L9] at h2; omega
theorem Af6 (s : TState) (g a u : Int) : ((((!goodState s || !within g 0 3) || !within a 0 u) || decide (u > 100000)) = true → itemsR s g a u = ([], false)) ∧ ((((!goodState s || !within g 0 3) || !within a 0 u) || decide (u > 100000)) = false → goodState s = true ∧ itemsR s g a u = (feedIn s.Cells g a u, true)) := by
  unfold itemsR isGroup isTrue within
  cases hg : goodState s with
  | false => simp
  | true =>
    constructor
    · intro h
      rw [if_neg]
      intro hc
      simp only [Bool.and_eq_true, decide_eq_true_eq, Bool.true_and] at hc
      simp [hc.1.1.1, hc.1.1.2, hc.1.2, hc.2] at h
      omega
    · intro h
      refine ⟨rfl, ?_⟩
      rw [if_pos]
      simp only [Bool.or_eq_false_iff, Bool.not_eq_false', decide_eq_false_iff_not, Bool.and_eq_true, decide_eq_true_eq] at h
      simp only [Bool.and_eq_true, decide_eq_true_eq, Bool.true_and]
      omega
theorem Ap3 {a u : Int} {x : TState} : ∀ {l : List TState} {k : Nat}, allItems a u k (l ++ [x]) = allItems a u k l ++ feedIn x.Cells ((k + l.length : Nat) : Int) a u
  | [], k => by
    show feedIn x.Cells k a u ++ [] = [] ++ _
    simp
  | y :: l, k => by
    show feedIn y.Cells k a u ++ allItems a u (k + 1) (l ++ [x]) = (feedIn y.Cells k a u ++ allItems a u (k + 1) l) ++ _
    rw [Ap3 (l := l) (k := k + 1), List.append_assoc, J7, show k + 1 + l.length = k + (l.length + 1) by omega]
theorem all_take {a u : Int} {l : List TState} {i : Nat} {x : TState} (h : l[i]? = some x) : allItems a u 0 (l.take (i + 1)) = allItems a u 0 (l.take i) ++ feedIn x.Cells (i : Int) a u := by
  have hi := (List.getElem?_eq_some_iff.1 h).1
  rw [List.take_add_one, h, Option.toList_some, Ap3, E6, Nat.zero_add, Nat.min_eq_left (by omega)]
theorem AN2 {s : TState} (h : goodCells s.Cells = true) (g a u : Int) : (feedIn s.Cells g a u).length ≤ 384 := by
  have h1 := AH9 (W3 h).1 (W3 h).2 g a u
  obtain ⟨f1, f2, f3⟩ := P4 h
  have h2 := AP1 (l := s.Cells) (g := g) (a := a) (u := u) fun c hc => (f3 c hc).2.2.1
  omega
theorem Ab1 {a u : Int} : ∀ {l : List TState} {k : Nat}, (∀ s ∈ l, goodCells s.Cells = true) → (allItems a u k l).length ≤ 384 * l.length
  | [], k, _ => Nat.le_refl _
  | s :: l, k, h => by
    have ih := Ab1 (a := a) (u := u) (l := l) (k := k + 1) fun t ht => h t (List.mem_cons_of_mem _ ht)
    have h1 := AN2 (h s List.mem_cons_self) k a u
    show (feedIn s.Cells k a u ++ allItems a u (k + 1) l).length ≤ _
    rw [J4, J7]; omega
theorem BE2 {x : TFeedItem} (h : l23Good x = true) : x.size ≤ 36 := by
  rw [← AB9] at h
  unfold goodItem isStored goodVal at h
  simp only [Bool.and_eq_true, decide_eq_true_eq] at h
  have h1 := Aq8 h.1.2
  have h2 := h.2.1.1
  show x.Key.length + x.Val.length ≤ 36
  omega
theorem s0 {l : List TFeedItem} (h : l23Feed l = true) : sizeL TFeedItem.size l ≤ 20000 := by
  obtain ⟨h1, _, h3⟩ := (S8 l).1 h
  have h4 := AB1 (f := TFeedItem.size) (c := 36) (l := l) fun x hx => BE2 (h1 x hx)
  have h5 : l.length * (36 + 1) ≤ 400 * 37 := Nat.mul_le_mul_right _ h3
  omega
theorem mx_most (d s : Int) : (if s < d then d else s) = mxI d s := by unfold mxI; split <;> split <;> omega
theorem As9 {a u : Int} {o : List TFeedItem} {l : List TState} {i : Nat} {x : TState} (h : l[i]? = some x) (hm : (mergeF o (feedIn x.Cells (i : Int) a u)).2 = true) : mergeN a u o i (l.drop i) = mergeN a u (mergeF o (feedIn x.Cells (i : Int) a u)).1 (i + 1) (l.drop (i + 1)) := by
  rw [drop_some h, mergeN, if_pos hm]
theorem At0 {a u : Int} {o : List TFeedItem} {l : List TState} {i : Nat} {x : TState} (h : l[i]? = some x) (hm : (mergeF o (feedIn x.Cells (i : Int) a u)).2 = false) : mergeN a u o i (l.drop i) = none := by
  rw [drop_some h, mergeN, if_neg (by rw [hm]; decide)]
theorem AD1 {o b : List TFeedItem} (h : (mergeF o b).2 = true) : l23Feed (mergeF o b).1 = true := by
  rcases Ao2 o b with e | ⟨r, e, h1, h2, h3, h4⟩
  · rw [e] at h; cases h
  · rw [e]
    obtain ⟨o1, o2, o3⟩ := (S8 o).1 h1
    obtain ⟨g1, g2, g3⟩ := (S8 b).1 h2
    obtain ⟨r1, r2, _⟩ := t2 o2 h3
    exact (S8 r).2 ⟨fun x hx => ((r2 x).1 hx).elim (o1 x) (g1 x), r1, h4⟩
end Go.M
namespace Go.Proofs.YtkegepoihkhihaaGreat
open Go Go.AV Go.M
attribute [local irreducible] OpW OpA OpS AWP FSpec ESpec GSpec OpE RetOk RetOkG RvDen Le Ev GuardIs SrcIs SrcE Int.tmod IntKind.wrap bandI
theorem BE3 (l : List TCell) (g a u : Int) (hg : goodCells l = true) : GSpec Tryz.prog 46 [AV.list 2 (l.map TCell.cs), AV.int g, AV.int a, AV.int u] [] (fun _ : Value => True) (fun v => [.arr v 63 5 ((feedIn l g a u).map TFeedItem.cs)]) (fun v => AV.is v) := by
 obtain ⟨f1, f2, f3⟩ := P4 hg
 refine N7 Tryz.func46 rfl Tryz.ntmps46 rfl ?_
 refine A3 (A2 ?_)
 refine A1 rfl (B3 rfl P8) ?_
 refine A4 (A3 (A2 ?_))
 refine O8 rfl rfl rfl rfl E7 G3 ?_
 intro v13
 refine B4 rfl ?_
 refine A4 (A3 (A3 (A2 ?_)))
 refine A1 rfl (B3 rfl B5) ?_
 refine A4 (D0 ?_)
 refine AWP.le (K1 [0] rfl) ?_
 refine P5 [(0, _), (1, _), (2, _), (3, _), (8, _)] _ (fun (i : Nat) (v : Value) => i ≤ l.length) (fun (i : Nat) (v : Value) => [.arr v 63 5 ((M.insAll [] (rawItems (l.take i) g a u)).map TFeedItem.cs)]) (fun (i : Nat) (v : Value) => [(9, AV.is v), (10, AV.int i)]) (fun (i : Nat) (v : Value) => l.length - i) (0) (v13) ?_ (Q3 (by rfl) ⟨rfl, rfl, rfl, rfl, rfl, rfl, rfl, trivial⟩) ?_
 ·exact Nat.zero_le _
 intro i v hinv
 refine A3 (A3 (A2 ?_))
 refine A5 rfl ?_
 refine A5 rfl ?_
 refine A1 rfl (G5 rfl E2 (A0 rfl)) ?_
 refine A1 rfl (I4 rfl (A0 rfl) (A0 rfl)) ?_
 refine A4 ?_
 refine C3 (A0 rfl) ?_ ?_
 ·intro h17
  have k17 := of_decide_eq_true h17; try simp only [A9] at k17
  have hlt : i < l.length := by (simpa using h17)
  obtain ⟨c, hx⟩ := get_some hlt
  have hcf := f3 c (G6 hx)
  refine C8 (A3 (D0 (A3 (A2 ?_))))
  refine A1 rfl (B3 rfl B5) ?_
  refine A4 (D0 ?_)
  refine AWP.le (K1 [0] rfl) ?_
  refine P5 [(0, _), (1, _), (2, _), (3, _), (8, _), (10, _), (14, _), (15, _), (16, _), (17, _)] _ (fun (j : Nat) (w : Value) => j ≤ c.Vers.length) (fun (j : Nat) (w : Value) => [.arr w 63 5 ((M.insAll [] (partItems l i c j g a u)).map TFeedItem.cs)]) (fun (j : Nat) (w : Value) => [(9, AV.is w), (11, AV.int j)]) (fun (j : Nat) (w : Value) => c.Vers.length - j) (0) (v) ?_ (Q3 (by (rw [AN1]; rfl)) ⟨rfl, rfl, rfl, rfl, rfl, rfl, rfl, rfl, rfl, rfl, rfl, rfl, trivial⟩) ?_
  ·exact Nat.zero_le _
  intro j w hinv
  refine A3 (A3 (A2 ?_))
  refine A5 rfl ?_
  refine A5 rfl ?_
  refine A5 rfl ?_
  refine A1 rfl (H5 rfl E2 F3 (A0 rfl) (A0 rfl) hx (by first | omega | (simp only [D1, A7, szR] at *; omega))) ?_
  refine A1 rfl (R7 rfl F8 rfl M8 (A0 rfl) rfl) ?_
  refine A1 rfl (L3 rfl (A0 rfl) P1 rfl) ?_
  refine A1 rfl (G5 rfl I7 (A0 rfl)) ?_
  refine A1 rfl (I4 rfl (A0 rfl) (A0 rfl)) ?_
  refine A4 ?_
  refine C3 (A0 rfl) ?_ ?_
  ·intro h27
   have k27 := of_decide_eq_true h27; try simp only [A9] at k27
   have hlt1 : j < c.Vers.length := by (simpa using h27)
   obtain ⟨y, hy⟩ := get_some hlt1
   have hpl := Ap2 hg (i := i) (c := c) (g := g) (a := a) (u := u) (j := j) (by omega)
   refine C8 (A3 (D0 (A3 (A2 ?_))))
   refine A5 rfl ?_
   refine A5 rfl ?_
   refine A1 rfl (H5 rfl E2 F3 (A0 rfl) (A0 rfl) hx (by first | omega | (simp only [D1, A7, szR] at *; omega))) ?_
   refine A1 rfl (R7 rfl F8 rfl M8 (A0 rfl) rfl) ?_
   refine A1 rfl (L3 rfl (A0 rfl) P1 rfl) ?_
   refine A5 rfl ?_
   refine A1 rfl (H5 rfl I7 L1 (A0 rfl) (A0 rfl) hy (by first | omega | (simp only [D1, A7, szR] at *; omega))) ?_
   refine A1 rfl (J0 rfl (A0 rfl) Y6 L1) ?_
   refine H3 rfl rfl rfl rfl Tryz.zeroValue127 rfl ?_
   intro b12
   refine E9 0 rfl rfl rfl (A0 rfl) (A0 rfl) (F9 _) rfl L1 rfl ?_
   refine A4 (A3 (A2 ?_))
   refine A1 rfl (B2 0 rfl J6 rfl B9 (A0 rfl) rfl) ?_
   refine A1 rfl (B0 0 rfl (A0 rfl) rfl C1 rfl) ?_
   refine A5 rfl ?_
   refine A1 rfl (N6 rfl (A0 rfl) (A0 rfl)) ?_
   refine A5 rfl ?_
   refine C4 rfl (fun hc => B2 0 rfl J6 rfl B9 (A0 rfl) rfl) ?_
   refine C4 rfl (fun hc => B0 0 rfl (A6 rfl hc) rfl C1 rfl) ?_
   refine C4 rfl (fun hc => B7 rfl (A0 rfl)) ?_
   refine C4 rfl (fun hc => S1 rfl (A6 rfl hc) (A6 rfl hc)) ?_
   refine A1 rfl (G8 rfl (A0 rfl) (F1 rfl)) ?_
   refine A4 ?_
   refine C3 (A0 rfl) ?_ ?_
   ·intro h47
    refine AWP.le (K1 [0] rfl) ?_
    refine AT1 _ 19 (.pure 0 (.pure 1 (.pure 2 (.pure 3 (.pure 4 (.pure 5 (.pure 6 (.pure 7 (.pure 8 (.pure 9 (.pure 10 (.pure 11 (.pure 12 (.pure 13 (.e1 14 (.pure 15 (.pure 16 (.pure 17 (.pure 18 .nil))))))))))))))))))) (by kernel_rfl) (by kernel_rfl) rfl (j4 1) ?_
    refine I9 rfl rfl rfl (fun ext => B7 rfl (A0 rfl)) ?_
    refine I9 rfl rfl rfl (fun ext => B2 0 rfl J6 rfl B9 (A0 rfl) rfl) ?_
    refine I9 rfl rfl rfl (fun ext => B0 0 rfl (A0 rfl) rfl C1 rfl) ?_
    refine I9 rfl rfl rfl (fun ext => B7 rfl (A0 rfl)) ?_
    refine I9 rfl rfl rfl (fun ext => B7 rfl (A0 rfl)) ?_
    refine I9 rfl rfl rfl (fun ext => B7 rfl (A0 rfl)) ?_
    refine I9 rfl rfl rfl (fun ext => H5 rfl E2 F3 (A0 rfl) (A0 rfl) hx (by first | omega | (simp only [D1, A7, szR] at *; omega))) ?_
    refine I9 rfl rfl rfl (fun ext => R7 rfl F8 rfl E3 (A0 rfl) rfl) ?_
    refine I9 rfl rfl rfl (fun ext => L3 rfl (A0 rfl) F5 rfl) ?_
    refine I9 rfl rfl rfl (fun ext => B2 1 rfl J6 rfl E3 (A0 rfl) rfl) ?_
    refine I9 rfl rfl rfl (fun ext => B0 0 rfl (A0 rfl) rfl F5 rfl) ?_
    refine I9 rfl rfl rfl (fun ext => B2 2 rfl J6 rfl K2 (A0 rfl) rfl) ?_
    refine I9 rfl rfl rfl (fun ext => B0 0 rfl (A0 rfl) rfl K7 rfl) ?_
    refine I9 rfl rfl rfl (fun ext => O6 (places := #[(0, 1), (1, 1), (2, 1), (3, 1), (4, 1)]) rfl H1 Tryz.zeroValue63 (fun w => by kernel_rfl) rfl (F4 (A0 rfl) (P2 _ _) (F4 (A0 rfl) (P2 _ _) (F4 (A0 rfl) (T4 _) (F4 (A0 rfl) (T4 _) (F4 (A0 rfl) (i8 _) J5))))) rfl) ?_
    refine X3 ?_
    refine U0 rfl rfl rfl (opE_call [1] rfl Tryz.call69 rfl (AX8 w (M.insAll [] (partItems l i c j g a u)) (itemOf g c.Key y) (by omega)) (A8 (A0 rfl) (A8 (A0 rfl) C6)) rfl) (fun a _ => (by first | exact G4 rfl | exact G4 (List.append_assoc _ _ _) | exact K5)) ?_
    intro x63 ok63
    refine I9 rfl rfl rfl (fun ext => B7 rfl (A0 rfl)) ?_
    refine I9 rfl rfl rfl (fun ext => I1 rfl (A0 rfl) rfl) ?_
    refine I9 rfl rfl rfl (fun ext => I1 rfl (A0 rfl) rfl) ?_
    refine I9 rfl rfl rfl (fun ext => B3 rfl (A0 rfl)) ?_
    refine l6 ?_
    refine A4 (A2 ?_)
    refine A5 rfl ?_
    refine A1 rfl (F6 rfl (A0 rfl) B5 (by first | omega | (simp only [D1, A7, szR] at *; omega))) ?_
    refine B4 rfl ?_
    refine A4 ?_
    refine M2 j w (j + 1) (x63) ?_ ?_ (Le.trans (K1 [0, 0] rfl) (M3 1 (by first | (rw [AI1 hy h47, AX9]; rfl) | (rw [AP2 hy h47]; rfl)) ⟨rfl, rfl, rfl, rfl, rfl, rfl, rfl, rfl, rfl, rfl, rfl, rfl, trivial⟩))
    ·exact (by omega)
    omega
   intro h47
   refine C8 (A2 ?_)
   refine A5 rfl ?_
   refine A1 rfl (F6 rfl (A0 rfl) B5 (by first | omega | (simp only [D1, A7, szR] at *; omega))) ?_
   refine B4 rfl ?_
   refine A4 ?_
   refine M2 j w (j + 1) (w) ?_ ?_ (Le.trans (K1 [0, 0] rfl) (M3 1 (by first | (rw [AI1 hy h47, AX9]; rfl) | (rw [AP2 hy h47]; rfl)) ⟨rfl, rfl, rfl, rfl, rfl, rfl, rfl, rfl, rfl, rfl, rfl, rfl, trivial⟩))
   ·exact (by omega)
   omega
  intro h27
  have k27 := of_decide_eq_false h27; try simp only [A9] at k27
  have hge1 : c.Vers.length ≤ j := by (simpa using h27)
  refine G0 ?_
  refine A2 ?_
  refine A5 rfl ?_
  refine A1 rfl (F6 rfl (A0 rfl) B5 (by first | omega | (simp only [D1, A7, szR] at *; omega))) ?_
  refine B4 rfl ?_
  refine A4 ?_
  refine M2 i v (i + 1) (w) ?_ ?_ (Le.trans (K1 [0] rfl) (Q3 (by (rw [Af5 hx hge1]; rfl)) ⟨rfl, rfl, rfl, rfl, rfl, rfl, rfl, trivial⟩))
  ·exact (by omega)
  omega
 intro h17
 have k17 := of_decide_eq_false h17; try simp only [A9] at k17
 have hge : l.length ≤ i := by (simpa using h17)
 rw [List.take_of_length_le hge]
 refine G0 ?_
 refine A3 (A2 ?_)
 refine A5 rfl ?_
 refine B4 rfl ?_
 refine A4 ?_
 refine C2 ?_
 exact T1 [0] v (trivial) rfl (by rfl) (c5 rfl (B8 rfl (by rfl)))
theorem AY0 (l : List TCell) (g a u : Int) (hg : goodCells l = true) : FSpec Tryz.prog 46 [AV.list 2 (l.map TCell.cs), AV.int g, AV.int a, AV.int u] (AV.list 5 ((feedIn l g a u).map TFeedItem.cs)) :=
  P3 (BE3 l g a u hg) fun v _ => Q4 (List.mem_singleton.2 rfl) L7
theorem Ai0 (s : TState) (g a u : Int) (hs : s.size ≤ 1048576) : FSpec Tryz.prog 15 [AV.agg s.cs, AV.int g, AV.int a, AV.int u] (AV.tup [AV.list 5 ((itemsR s g a u).1.map TFeedItem.cs), AV.bool (itemsR s g a u).2]) := by
 refine D8 Tryz.func15 rfl Tryz.ntmps15 rfl ?_
 refine A3 (A2 ?_)
 refine L6 rfl rfl rfl rfl (A0 rfl) ?_
 intro b4
 refine A1 rfl (B3 rfl (AN7 (sz := 5))) ?_
 refine A1 rfl (B3 rfl F0) ?_
 refine A4 (A3 (A3 (A2 ?_)))
 refine A1 rfl (I5 0 rfl (A0 rfl) rfl G7 E1 rfl) ?_
 refine A1 rfl (D7 rfl Tryz.call45 rfl (AT6 s hs) (A8 (A0 rfl) C6)) ?_
 refine A1 rfl (K3 rfl (A0 rfl)) ?_
 refine A5 rfl ?_
 refine H2 rfl (fun hc => B7 rfl (A0 rfl)) ?_
 refine H2 rfl (fun hc => D7 rfl Tryz.call39 rfl (R9 _ _ _) (A8 (A6 rfl hc) (A8 B5 (A8 B5 C6)))) ?_
 refine H2 rfl (fun hc => K3 rfl (A6 rfl hc)) ?_
 refine A1 rfl (P9 rfl (A0 rfl) (F1 rfl)) ?_
 refine A5 rfl ?_
 refine H2 rfl (fun hc => B7 rfl (A0 rfl)) ?_
 refine H2 rfl (fun hc => B7 rfl (A0 rfl)) ?_
 refine H2 rfl (fun hc => D7 rfl Tryz.call39 rfl (R9 _ _ _) (A8 (A6 rfl hc) (A8 B5 (A8 (A6 rfl hc) C6)))) ?_
 refine H2 rfl (fun hc => K3 rfl (A6 rfl hc)) ?_
 refine A1 rfl (P9 rfl (A0 rfl) (F1 rfl)) ?_
 refine A5 rfl ?_
 refine H2 rfl (fun hc => B7 rfl (A0 rfl)) ?_
 refine H2 rfl (fun hc => N6 rfl (A6 rfl hc) B5) ?_
 refine A1 rfl (P9 rfl (A0 rfl) (F1 rfl)) ?_
 refine A4 ?_
 refine C3 (A0 rfl) ?_ ?_
 ·intro h27
  have he := (Af6 s g a u).1 h27
  rw [he]
  refine A3 (A2 ?_)
  refine A1 rfl (M0 rfl E7 G3 Tryz.zeroValue63 rfl rfl rfl rfl J5 rfl rfl) ?_
  refine B4 rfl ?_
  refine A1 rfl (B3 rfl F0) ?_
  refine A4 ?_
  refine C2 ?_
  exact T7 rfl (by decide) (F2 (B8 rfl (by rfl)) (F2 (B8 rfl (by rfl)) L5))
 intro h27
 obtain ⟨hgs, he⟩ := (Af6 s g a u).2 h27
 rw [he]
 refine C8 (A3 (A2 ?_))
 refine A1 rfl (B2 1 rfl D2 rfl M4 (A0 rfl) rfl) ?_
 refine A1 rfl (B0 0 rfl (A0 rfl) rfl O9 rfl) ?_
 refine A5 rfl ?_
 refine A5 rfl ?_
 refine A5 rfl ?_
 refine A1 rfl (D7 rfl Tryz.call46 rfl (AY0 s.Cells g a u (R4.1 hgs).cells) (A8 (A0 rfl) (A8 (A0 rfl) (A8 (A0 rfl) (A8 (A0 rfl) C6))))) ?_
 refine B4 rfl ?_
 refine A1 rfl (B3 rfl F0) ?_
 refine A4 ?_
 refine C2 ?_
 exact T7 rfl (by decide) (F2 (B8 rfl (by rfl)) (F2 (B8 rfl (by rfl)) L5))
theorem Ap4 (s : TState) (g a u : Int) (hg : goodCells s.Cells = true) : FSpec Tryz.prog 53 [AV.agg s.cs, AV.int g, AV.int a, AV.int u] (AV.list 5 ((feedIn s.Cells g a u).map TFeedItem.cs)) :=
  P3 (As8 s g a u hg) fun v _ => Q4 (List.mem_singleton.2 rfl) L7
theorem Ap5 (d : Int) (l : List TState) (hs : ∀ s ∈ l, s.size ≤ 1048576) : GSpec Tryz.prog 25 [AV.agg [AV.int d], AV.list 4 (l.map TState.cs)] [] (fun _ : Value => True) (fun v => [.arr v 63 5 ((nextR d l).2.1.map TFeedItem.cs)]) (fun v => AV.tup [AV.agg [AV.int (nextR d l).1], AV.is v, AV.bool (nextR d l).2.2]) := by
 refine N7 Tryz.func25 rfl Tryz.ntmps25 rfl ?_
 refine A3 (A2 ?_)
 refine L6 rfl rfl rfl rfl (A0 rfl) ?_
 intro b2
 refine H3 rfl rfl rfl rfl Tryz.zeroValue52 rfl ?_
 intro b4
 refine A1 rfl (B3 rfl P8) ?_
 refine A1 rfl (B3 rfl F0) ?_
 refine A4 (A3 (A3 (A2 ?_)))
 refine A1 rfl (B2 0 rfl K8 rfl B9 (A0 rfl) rfl) ?_
 refine A1 rfl (B0 1 rfl (A0 rfl) rfl C1 rfl) ?_
 refine A1 rfl (D7 rfl Tryz.call52 rfl (AQ3 _) (A8 (A0 rfl) C6)) ?_
 refine A1 rfl (K3 rfl (A0 rfl)) ?_
 refine A5 rfl ?_
 refine H2 rfl (fun hc => B7 rfl (A0 rfl)) ?_
 refine H2 rfl (fun hc => D7 rfl Tryz.call40 rfl (AE4 l hs) (A8 (A6 rfl hc) C6)) ?_
 refine H2 rfl (fun hc => K3 rfl (A6 rfl hc)) ?_
 refine A1 rfl (P9 rfl (A0 rfl) (F1 rfl)) ?_
 refine A4 ?_
 refine C3 (A0 rfl) ?_ ?_
 ·intro h19
  have he : nextR d l = (0, [], false) := (by unfold nextR; rw [if_neg (by cases h1 : isTrue d <;> simp_all)])
  rw [he]
  refine A3 (A2 ?_)
  refine A1 rfl (O6 (places := #[(0, 1)]) rfl K8 Tryz.zeroValue52 (fun w => by kernel_rfl) rfl J5 rfl) ?_
  refine E9 0 rfl rfl rfl (A0 rfl) (A0 rfl) (F9 _) rfl M5 rfl ?_
  refine A1 rfl (B3 rfl P8) ?_
  refine A1 rfl (B3 rfl F0) ?_
  refine A4 ?_
  refine C2 ?_
  refine x9 63 5 ?_
  exact T1 [0] (Value.slice none 0 0) (trivial) rfl (by rfl) (Y3 rfl (by decide) (F2 (Q2 (ys := _) 1 rfl rfl T2 M5 rfl) (F2 (B8 rfl (by rfl)) (F2 (B8 rfl (by rfl)) L5))))
 intro h19
 have hc : isTrue d = true ∧ areStates l = true := (by cases h1 : isTrue d <;> cases h2 : areStates l <;> simp_all)
 have hst := X0.1 hc.2
 have hgc := m7 hst.2.2
 obtain ⟨up, hup⟩ : ∃ up, mxI d (sureL l) = up := ⟨_, rfl⟩
 have hnr : nextR d l = (match mergeN d up [] 0 l with | some r => (up, r, true) | none => (0, [], false)) := (by unfold nextR; rw [hc.1, hc.2, hup]; rfl)
 refine C8 (A3 ?_)
 refine I3 (by kernel_rfl) (by kernel_rfl) rfl ?_
 refine B1 rfl rfl (B2 0 rfl K8 rfl B9 (A0 rfl) rfl) ?_
 refine B1 rfl rfl (B0 1 rfl (A0 rfl) rfl C1 rfl) ?_
 refine B1 rfl rfl (B7 rfl (A0 rfl)) ?_
 refine B1 rfl rfl (D7 rfl Tryz.call41 rfl (AR3 l hst.2.2) (A8 (A0 rfl) C6)) ?_
 refine B1 rfl rfl (w_max rfl (A0 rfl) (A0 rfl)) ?_
 refine B1 rfl rfl (B3 rfl (A0 rfl)) ?_
 refine P0 ?_
 refine A3 (A2 ?_)
 refine O8 rfl rfl rfl rfl E7 G3 ?_
 intro v26
 refine B4 rfl ?_
 refine A4 (A3 (A3 (A2 ?_)))
 refine A5 rfl ?_
 refine A1 rfl (G5 rfl M1 (A0 rfl)) ?_
 refine A1 rfl (B7 rfl B5) ?_
 refine A4 (D0 ?_)
 refine AWP.le (K1 [0] rfl) ?_
 refine P5 [(2, _), (4, _), (5, _), (6, _), (7, _), (27, _), (28, _)] _ (fun (i : Nat) (v : Value) => i ≤ l.length) (fun (i : Nat) (v : Value) => [.arr v 63 5 ((allItems d (mxI d (sureL l)) 0 (l.take i)).map TFeedItem.cs)]) (fun (i : Nat) (v : Value) => [(8, AV.is v), (29, AV.int i)]) (fun (i : Nat) (v : Value) => l.length - i) (0) (v26) ?_ (Q3 (by rfl) ⟨rfl, rfl, rfl, rfl, rfl, rfl, rfl, rfl, rfl, trivial⟩) ?_
 ·exact Nat.zero_le _
 intro i v hinv
 refine A3 (A2 ?_)
 refine A1 rfl (I4 rfl (A0 rfl) (A0 rfl)) ?_
 refine A4 (A3 ?_)
 refine C3 (A0 rfl) ?_ ?_
 ·intro h30
  have k30 := of_decide_eq_true h30; try simp only [A9] at k30
  have hlt : i < l.length := by (simpa using h30)
  obtain ⟨x, hx⟩ := get_some hlt
  have hxg := hgc x (G6 hx)
  have hal := Ab1 (a := d) (u := mxI d (sureL l)) (l := l.take i) (k := 0) (fun s hm => hgc s (List.mem_of_mem_take hm))
  have hfs := AN2 hxg (i : Int) d (mxI d (sureL l))
  have htl : (l.take i).length ≤ 4 := (by rw [E6]; omega)
  refine C8 (A3 (D0 (A3 (A2 ?_))))
  refine A5 rfl ?_
  refine A1 rfl (H5 rfl M1 E1 (A0 rfl) (A0 rfl) hx (by first | omega | (simp only [D1, A7, szR] at *; omega))) ?_
  refine A1 rfl (J0 rfl (A0 rfl) G7 E1) ?_
  refine H3 rfl rfl rfl rfl Tryz.zeroValue43 rfl ?_
  intro b10
  refine B4 rfl ?_
  refine E9 0 rfl rfl rfl (A0 rfl) (A0 rfl) (F9 _) rfl E1 rfl ?_
  refine A4 (A2 ?_)
  refine A5 rfl ?_
  refine A1 rfl (I5 0 rfl (A0 rfl) rfl G7 E1 rfl) ?_
  refine A5 rfl ?_
  refine A1 rfl (B2 0 rfl K8 rfl B9 (A0 rfl) rfl) ?_
  refine A1 rfl (B0 3 rfl (A0 rfl) rfl C1 rfl) ?_
  refine A5 rfl ?_
  refine A1 rfl (D7 rfl Tryz.call53 rfl (Ap4 x (i : Int) d (mxI d (sureL l)) hxg) (A8 (A0 rfl) (A8 (A0 rfl) (A8 (A0 rfl) (A8 (A0 rfl) C6))))) ?_
  refine M6 (by' := 56) 1 rfl rfl rfl rfl E7 Tryz.type63 rfl rfl rfl rfl rfl rfl (A0 rfl) (A0 rfl) rfl (by simp only [A9]; omega) ?_
  intro v41_2
  refine B4 rfl ?_
  refine A4 (A2 ?_)
  refine A1 rfl (F6 rfl (A0 rfl) B5 (by first | omega | (simp only [D1, A7, szR] at *; omega))) ?_
  refine A5 rfl ?_
  refine A4 ?_
  refine M2 i v (i + 1) (v41_2) ?_ ?_ (Le.trans (K1 [0, 0] rfl) (M3 1 (by (rw [all_take hx, List.map_append]; rfl)) ⟨rfl, rfl, rfl, rfl, rfl, rfl, rfl, rfl, rfl, trivial⟩))
  ·exact (by omega)
  omega
 intro h30
 have k30 := of_decide_eq_false h30; try simp only [A9] at k30
 have hge : l.length ≤ i := by (simpa using h30)
 rw [List.take_of_length_le hge]
 have hal := Ab1 (a := d) (u := mxI d (sureL l)) (l := l) (k := 0) hgc
 refine G0 ?_
 refine A3 (A2 ?_)
 refine A5 rfl ?_
 refine AA7 [0] rfl rfl rfl rfl Tryz.call63 rfl (AE3 v (allItems d (mxI d (sureL l)) 0 l) (by omega)) rfl (R8 (evb (A0 rfl)) (R8 (evb At6) W5)) (by first | exact I8 | (intro _; exact I8) | (intro _; first | exact E0 _ | exact D3 _ _ | exact C7 _ | exact D5 _ | exact D4) | (intro _; refine V7 ?_; (repeat (first | exact C9 | (refine B6 (by first | (first | exact E0 _ | exact D3 _ _ | exact C7 _ | exact D5 _ | exact D4) | (refine Q0 ?_; (repeat (first | exact C9 | (refine B6 (by first | exact E0 _ | exact D3 _ _ | exact C7 _ | exact D5 _ | exact D4) ?_))))) ?_))); done) | (intro _; refine Q0 ?_; (repeat (first | exact C9 | (refine B6 (by first | exact E0 _ | exact D3 _ _ | exact C7 _ | exact D5 _ | exact D4) ?_))); done) | ((repeat (first | exact I8 | (refine H7 (N8 ?_) ?_; (repeat (first | exact C9 | (refine B6 (by first | exact E0 _ | exact D3 _ _ | exact C7 _ | exact D5 _ | exact D4) ?_)))) | (refine H7 (N9 ?_) ?_; (repeat (first | exact O0 | (refine O2 (fun _ => ?_); (first | exact TWrite.flat _ | exact TFeedItem.flat _ | exact TIdx.flat _ | exact TVer.flat _ | (repeat (first | exact C9 | (refine B6 (by first | exact E0 _ | exact D3 _ _ | exact C7 _ | exact D5 _ | exact D4) ?_))))) | (refine O3 ?_; (first | exact TWrite.flat _ | exact TFeedItem.flat _ | exact TIdx.flat _ | exact TVer.flat _ | (repeat (first | exact C9 | (refine B6 (by first | exact E0 _ | exact D3 _ _ | exact C7 _ | exact D5 _ | exact D4) ?_))))) | (refine N0 ?_ ?_; (first | exact TWrite.flat _ | exact TFeedItem.flat _ | exact TIdx.flat _ | exact TVer.flat _ | (repeat (first | exact C9 | (refine B6 (by first | exact E0 _ | exact D3 _ _ | exact C7 _ | exact D5 _ | exact D4) ?_))))) | refine O1 ?_ ?_))))); done) | (intro _; (repeat (first | exact I8 | (refine H7 (N8 ?_) ?_; (repeat (first | exact C9 | (refine B6 (by first | exact E0 _ | exact D3 _ _ | exact C7 _ | exact D5 _ | exact D4) ?_)))) | (refine H7 (N9 ?_) ?_; (repeat (first | exact O0 | (refine O2 (fun _ => ?_); (first | exact TWrite.flat _ | exact TFeedItem.flat _ | exact TIdx.flat _ | exact TVer.flat _ | (repeat (first | exact C9 | (refine B6 (by first | exact E0 _ | exact D3 _ _ | exact C7 _ | exact D5 _ | exact D4) ?_))))) | (refine O3 ?_; (first | exact TWrite.flat _ | exact TFeedItem.flat _ | exact TIdx.flat _ | exact TVer.flat _ | (repeat (first | exact C9 | (refine B6 (by first | exact E0 _ | exact D3 _ _ | exact C7 _ | exact D5 _ | exact D4) ?_))))) | (refine N0 ?_ ?_; (first | exact TWrite.flat _ | exact TFeedItem.flat _ | exact TIdx.flat _ | exact TVer.flat _ | (repeat (first | exact C9 | (refine B6 (by first | exact E0 _ | exact D3 _ _ | exact C7 _ | exact D5 _ | exact D4) ?_))))) | refine O1 ?_ ?_))))); done)) (by first | exact I8 | (intro _; exact I8) | (intro _; first | exact E0 _ | exact D3 _ _ | exact C7 _ | exact D5 _ | exact D4) | (intro _; refine V7 ?_; (repeat (first | exact C9 | (refine B6 (by first | (first | exact E0 _ | exact D3 _ _ | exact C7 _ | exact D5 _ | exact D4) | (refine Q0 ?_; (repeat (first | exact C9 | (refine B6 (by first | exact E0 _ | exact D3 _ _ | exact C7 _ | exact D5 _ | exact D4) ?_))))) ?_))); done) | (intro _; refine Q0 ?_; (repeat (first | exact C9 | (refine B6 (by first | exact E0 _ | exact D3 _ _ | exact C7 _ | exact D5 _ | exact D4) ?_))); done) | ((repeat (first | exact I8 | (refine H7 (N8 ?_) ?_; (repeat (first | exact C9 | (refine B6 (by first | exact E0 _ | exact D3 _ _ | exact C7 _ | exact D5 _ | exact D4) ?_)))) | (refine H7 (N9 ?_) ?_; (repeat (first | exact O0 | (refine O2 (fun _ => ?_); (first | exact TWrite.flat _ | exact TFeedItem.flat _ | exact TIdx.flat _ | exact TVer.flat _ | (repeat (first | exact C9 | (refine B6 (by first | exact E0 _ | exact D3 _ _ | exact C7 _ | exact D5 _ | exact D4) ?_))))) | (refine O3 ?_; (first | exact TWrite.flat _ | exact TFeedItem.flat _ | exact TIdx.flat _ | exact TVer.flat _ | (repeat (first | exact C9 | (refine B6 (by first | exact E0 _ | exact D3 _ _ | exact C7 _ | exact D5 _ | exact D4) ?_))))) | (refine N0 ?_ ?_; (first | exact TWrite.flat _ | exact TFeedItem.flat _ | exact TIdx.flat _ | exact TVer.flat _ | (repeat (first | exact C9 | (refine B6 (by first | exact E0 _ | exact D3 _ _ | exact C7 _ | exact D5 _ | exact D4) ?_))))) | refine O1 ?_ ?_))))); done) | (intro _; (repeat (first | exact I8 | (refine H7 (N8 ?_) ?_; (repeat (first | exact C9 | (refine B6 (by first | exact E0 _ | exact D3 _ _ | exact C7 _ | exact D5 _ | exact D4) ?_)))) | (refine H7 (N9 ?_) ?_; (repeat (first | exact O0 | (refine O2 (fun _ => ?_); (first | exact TWrite.flat _ | exact TFeedItem.flat _ | exact TIdx.flat _ | exact TVer.flat _ | (repeat (first | exact C9 | (refine B6 (by first | exact E0 _ | exact D3 _ _ | exact C7 _ | exact D5 _ | exact D4) ?_))))) | (refine O3 ?_; (first | exact TWrite.flat _ | exact TFeedItem.flat _ | exact TIdx.flat _ | exact TVer.flat _ | (repeat (first | exact C9 | (refine B6 (by first | exact E0 _ | exact D3 _ _ | exact C7 _ | exact D5 _ | exact D4) ?_))))) | (refine N0 ?_ ?_; (first | exact TWrite.flat _ | exact TFeedItem.flat _ | exact TIdx.flat _ | exact TVer.flat _ | (repeat (first | exact C9 | (refine B6 (by first | exact E0 _ | exact D3 _ _ | exact C7 _ | exact D5 _ | exact D4) ?_))))) | refine O1 ?_ ?_))))); done)) (by first | exact I8 | (intro _; exact I8) | (intro _; first | exact E0 _ | exact D3 _ _ | exact C7 _ | exact D5 _ | exact D4) | (intro _; refine V7 ?_; (repeat (first | exact C9 | (refine B6 (by first | (first | exact E0 _ | exact D3 _ _ | exact C7 _ | exact D5 _ | exact D4) | (refine Q0 ?_; (repeat (first | exact C9 | (refine B6 (by first | exact E0 _ | exact D3 _ _ | exact C7 _ | exact D5 _ | exact D4) ?_))))) ?_))); done) | (intro _; refine Q0 ?_; (repeat (first | exact C9 | (refine B6 (by first | exact E0 _ | exact D3 _ _ | exact C7 _ | exact D5 _ | exact D4) ?_))); done) | ((repeat (first | exact I8 | (refine H7 (N8 ?_) ?_; (repeat (first | exact C9 | (refine B6 (by first | exact E0 _ | exact D3 _ _ | exact C7 _ | exact D5 _ | exact D4) ?_)))) | (refine H7 (N9 ?_) ?_; (repeat (first | exact O0 | (refine O2 (fun _ => ?_); (first | exact TWrite.flat _ | exact TFeedItem.flat _ | exact TIdx.flat _ | exact TVer.flat _ | (repeat (first | exact C9 | (refine B6 (by first | exact E0 _ | exact D3 _ _ | exact C7 _ | exact D5 _ | exact D4) ?_))))) | (refine O3 ?_; (first | exact TWrite.flat _ | exact TFeedItem.flat _ | exact TIdx.flat _ | exact TVer.flat _ | (repeat (first | exact C9 | (refine B6 (by first | exact E0 _ | exact D3 _ _ | exact C7 _ | exact D5 _ | exact D4) ?_))))) | (refine N0 ?_ ?_; (first | exact TWrite.flat _ | exact TFeedItem.flat _ | exact TIdx.flat _ | exact TVer.flat _ | (repeat (first | exact C9 | (refine B6 (by first | exact E0 _ | exact D3 _ _ | exact C7 _ | exact D5 _ | exact D4) ?_))))) | refine O1 ?_ ?_))))); done) | (intro _; (repeat (first | exact I8 | (refine H7 (N8 ?_) ?_; (repeat (first | exact C9 | (refine B6 (by first | exact E0 _ | exact D3 _ _ | exact C7 _ | exact D5 _ | exact D4) ?_)))) | (refine H7 (N9 ?_) ?_; (repeat (first | exact O0 | (refine O2 (fun _ => ?_); (first | exact TWrite.flat _ | exact TFeedItem.flat _ | exact TIdx.flat _ | exact TVer.flat _ | (repeat (first | exact C9 | (refine B6 (by first | exact E0 _ | exact D3 _ _ | exact C7 _ | exact D5 _ | exact D4) ?_))))) | (refine O3 ?_; (first | exact TWrite.flat _ | exact TFeedItem.flat _ | exact TIdx.flat _ | exact TVer.flat _ | (repeat (first | exact C9 | (refine B6 (by first | exact E0 _ | exact D3 _ _ | exact C7 _ | exact D5 _ | exact D4) ?_))))) | (refine N0 ?_ ?_; (first | exact TWrite.flat _ | exact TFeedItem.flat _ | exact TIdx.flat _ | exact TVer.flat _ | (repeat (first | exact C9 | (refine B6 (by first | exact E0 _ | exact D3 _ _ | exact C7 _ | exact D5 _ | exact D4) ?_))))) | refine O1 ?_ ?_))))); done)) ?_
 intro x44 ok44
 have hne := next_eq hgc hst.2.1 ok44.1 ok44.2
 rw [hup] at hne
 refine A4 (A3 (A3 (A2 ?_)))
 refine A5 rfl ?_
 refine A1 rfl (n1 rfl Tryz.call65 rfl (AQ2 x44) (C7 _) (R8 (AY6 0 (A0 rfl) rfl) W5)) ?_
 refine A1 rfl (K3 rfl (A0 rfl)) ?_
 refine A4 ?_
 refine C3 (A0 rfl) ?_ ?_
 ·intro h47
  have he : nextR d l = (0, [], false) := (by rw [hnr, ← hne, if_neg (by simpa using h47)])
  rw [he]
  refine A3 (A2 ?_)
  refine A1 rfl (O6 (places := #[(0, 1)]) rfl K8 Tryz.zeroValue52 (fun w => by kernel_rfl) rfl J5 rfl) ?_
  refine E9 1 rfl rfl rfl (A0 rfl) (A0 rfl) (F9 _) rfl M5 rfl ?_
  refine A1 rfl (B3 rfl P8) ?_
  refine A1 rfl (B3 rfl F0) ?_
  refine A4 ?_
  refine C2 ?_
  refine x9 63 5 ?_
  exact T1 [0] (Value.slice none 0 0) (trivial) rfl (by rfl) (Y3 rfl (by decide) (F2 (Q2 (ys := _) 2 rfl rfl T2 M5 rfl) (F2 (B8 rfl (by rfl)) (F2 (B8 rfl (by rfl)) L5))))
 intro h47
 have he : nextR d l = (up, x44, true) := (by rw [hnr, ← hne, if_pos (by simpa using h47)])
 rw [he, ← hup]
 refine C8 (A3 (A2 ?_))
 refine A5 rfl ?_
 refine A1 rfl (O6 (places := #[(0, 1)]) rfl K8 Tryz.zeroValue52 (fun w => by kernel_rfl) rfl (F4 (A0 rfl) (P2 _ _) J5) rfl) ?_
 refine A5 rfl ?_
 refine E9 1 rfl rfl rfl (A0 rfl) (A0 rfl) (F9 _) rfl M5 rfl ?_
 refine B4 rfl ?_
 refine A1 rfl (B3 rfl F0) ?_
 refine A4 ?_
 refine C2 ?_
 exact T1 [0] v (trivial) rfl (by rfl) (Y3 rfl (by decide) (F2 (Q2 (ys := _) 1 rfl rfl T2 M5 rfl) (F2 (B8 rfl (by rfl)) (F2 (B8 rfl (by rfl)) L5))))
theorem Az8 (d s : Int) : FSpec Tryz.prog 62 [AV.int s, AV.int d] (AV.int (mxI d s)) := by
  have h := AM6 s d
  rw [mx_most] at h; exact h
theorem AN3 (a b : List TFeedItem) (hsa : sizeL TFeedItem.size a ≤ 1048576) (hsb : sizeL TFeedItem.size b ≤ 1048576) : FSpec Tryz.prog 31 [AV.list 5 (a.map TFeedItem.cs), AV.list 5 (b.map TFeedItem.cs)] (AV.tup [AV.list 5 ((mergeF a b).1.map TFeedItem.cs), AV.bool (mergeF a b).2]) :=
  P3 (Az7 a b hsa hsb) fun x _ => AV0 (H9 (Q4 (G6 (i := 0) rfl) L7) (H9 L0 V8))
theorem Ab2 (d : Int) (l : List TState) (hs : ∀ s ∈ l, s.size ≤ 1048576) : FSpec Tryz.prog 23 [AV.agg [AV.int d], AV.list 4 (l.map TState.cs)] (AV.tup [AV.agg [AV.int (nextR d l).1], AV.list 5 ((nextR d l).2.1.map TFeedItem.cs), AV.bool (nextR d l).2.2]) := by
 refine D8 Tryz.func23 rfl Tryz.ntmps23 rfl ?_
 refine A3 (A2 ?_)
 refine L6 rfl rfl rfl rfl (A0 rfl) ?_
 intro b2
 refine H3 rfl rfl rfl rfl Tryz.zeroValue52 rfl ?_
 intro b4
 refine A1 rfl (B3 rfl (AN7 (sz := 5))) ?_
 refine A1 rfl (B3 rfl F0) ?_
 refine A4 (A3 (A2 ?_))
 refine A5 rfl ?_
 refine A1 rfl (D7 rfl Tryz.call10 rfl (Ap1 l hs) (A8 (A0 rfl) C6)) ?_
 refine A5 rfl ?_
 refine A1 rfl (I1 rfl (A0 rfl) rfl) ?_
 refine A1 rfl (I1 rfl (A0 rfl) rfl) ?_
 refine B4 rfl ?_
 refine B4 rfl ?_
 refine A4 (A3 (A3 (A2 ?_)))
 refine A5 rfl ?_
 refine A1 rfl (K3 rfl (A0 rfl)) ?_
 refine A5 rfl ?_
 refine H2 rfl (fun hc => B2 0 rfl K8 rfl B9 (A0 rfl) rfl) ?_
 refine H2 rfl (fun hc => B0 1 rfl (A6 rfl hc) rfl C1 rfl) ?_
 refine H2 rfl (fun hc => D7 rfl Tryz.call39 rfl (R9 _ _ _) (A8 (A6 rfl hc) (A8 B5 (A8 B5 C6)))) ?_
 refine H2 rfl (fun hc => K3 rfl (A6 rfl hc)) ?_
 refine A1 rfl (P9 rfl (A0 rfl) (F1 rfl)) ?_
 refine A4 ?_
 refine C3 (A0 rfl) ?_ ?_
 ·intro h25
  have he : nextR d l = (0, [], false) := (by unfold nextR; rw [if_neg (by intro h9; rw [Bool.and_eq_true] at h9; unfold sureR at h25; rw [if_pos h9.2] at h25; have h8 := h9.1; unfold M.isTrue at h8; simp [h8] at h25)])
  rw [he]
  refine A3 (A2 ?_)
  refine A1 rfl (O6 (places := #[(0, 1)]) rfl K8 Tryz.zeroValue52 (fun w => by kernel_rfl) rfl J5 rfl) ?_
  refine A1 rfl (M0 rfl E7 G3 Tryz.zeroValue63 rfl rfl rfl rfl J5 rfl rfl) ?_
  refine E9 0 rfl rfl rfl (A0 rfl) (A0 rfl) (F9 _) rfl M5 rfl ?_
  refine B4 rfl ?_
  refine A1 rfl (B3 rfl F0) ?_
  refine A4 ?_
  refine C2 ?_
  exact T7 rfl (by decide) (F2 (Q2 (ys := _) 0 rfl rfl T2 M5 rfl) (F2 (B8 rfl (by rfl)) (F2 (B8 rfl (by rfl)) L5)))
 intro h25
 have hc : isTrue d = true ∧ areStates l = true := (by unfold sureR at h25; cases h2 : areStates l with | false => (rw [h2] at h25; simp at h25) | true => (rw [h2] at h25; exact ⟨by unfold M.isTrue; simpa using h25, rfl⟩))
 have hst := X0.1 hc.2
 have hgc := m7 hst.2.2
 have hsr : sureR l = (sureL l, true) := (by unfold sureR; rw [if_pos hc.2])
 rw [hsr]
 refine C8 (A3 (A2 ?_))
 refine A5 rfl ?_
 refine A1 rfl (B2 0 rfl K8 rfl B9 (A0 rfl) rfl) ?_
 refine A1 rfl (B0 1 rfl (A0 rfl) rfl C1 rfl) ?_
 refine A1 rfl (D7 rfl Tryz.call62 rfl (Az8 _ _) (A8 (A0 rfl) (A8 (A0 rfl) C6))) ?_
 refine B4 rfl ?_
 refine A4 (A3 (A2 ?_))
 refine A1 rfl (M0 rfl E7 G3 Tryz.zeroValue63 rfl rfl rfl rfl J5 rfl rfl) ?_
 refine B4 rfl ?_
 refine A4 (A3 (A3 (A2 ?_)))
 refine A1 rfl (B3 rfl B5) ?_
 refine A4 (D0 ?_)
 refine P5 [(1, _), (2, _), (4, _), (7, _)] _ (fun (i : Nat) (o : List TFeedItem) => i ≤ l.length ∧ mergeN d (mxI d (sureL l)) [] 0 l = mergeN d (mxI d (sureL l)) o i (l.drop i) ∧ l23Feed o = true) (fun (i : Nat) (o : List TFeedItem) => []) (fun (i : Nat) (o : List TFeedItem) => [(9, AV.list 5 (o.map TFeedItem.cs)), (10, AV.int i)]) (fun (i : Nat) (o : List TFeedItem) => l.length - i) (0) ([]) ?_ (Q3 (by rfl) ⟨rfl, rfl, rfl, rfl, rfl, rfl, trivial⟩) ?_
 ·exact ⟨Nat.zero_le _, rfl, rfl⟩
 intro i o hinv
 refine A3 (A3 (A2 ?_))
 refine A5 rfl ?_
 refine A5 rfl ?_
 refine A1 rfl (G5 rfl M1 (A0 rfl)) ?_
 refine A1 rfl (I4 rfl (A0 rfl) (A0 rfl)) ?_
 refine A4 ?_
 refine C3 (A0 rfl) ?_ ?_
 ·intro h36
  have k36 := of_decide_eq_true h36; try simp only [A9] at k36
  have hlt : i < l.length := by (simpa using h36)
  obtain ⟨x, hx⟩ := get_some hlt
  have hxg := hgc x (G6 hx)
  have hso : sizeL TFeedItem.size o ≤ 1048576 := Nat.le_trans (s0 hinv.2.2) (by decide)
  have hff := (AC9 hxg (g := (i : Int)) (by unfold isGroup within; simp; omega) d (mxI d (sureL l))).1
  have hsf : sizeL TFeedItem.size (feedIn x.Cells (i : Int) d (mxI d (sureL l))) ≤ 1048576 := Nat.le_trans (s0 hff) (by decide)
  refine C8 (A3 (D0 (A3 ?_)))
  refine I3 (by kernel_rfl) (by kernel_rfl) rfl ?_
  refine B1 rfl rfl (B7 rfl (A0 rfl)) ?_
  refine B1 rfl rfl (B7 rfl (A0 rfl)) ?_
  refine B1 rfl rfl (B7 rfl (A0 rfl)) ?_
  refine B1 rfl rfl (H5 rfl M1 E1 (A0 rfl) (A0 rfl) hx (by first | omega | (simp only [D1, A7, szR] at *; omega))) ?_
  refine B1 rfl rfl (R7 rfl D2 rfl M4 (A0 rfl) rfl) ?_
  refine B1 rfl rfl (L3 rfl (A0 rfl) O9 rfl) ?_
  refine B1 rfl rfl (B7 rfl (A0 rfl)) ?_
  refine B1 rfl rfl (B2 0 rfl K8 rfl B9 (A0 rfl) rfl) ?_
  refine B1 rfl rfl (B0 1 rfl (A0 rfl) rfl C1 rfl) ?_
  refine B1 rfl rfl (B7 rfl (A0 rfl)) ?_
  refine B1 rfl rfl (D7 rfl Tryz.call46 rfl (AY0 x.Cells (i : Int) d (mxI d (sureL l)) hxg) (A8 (A0 rfl) (A8 (A0 rfl) (A8 (A0 rfl) (A8 (A0 rfl) C6))))) ?_
  refine B1 rfl rfl (D7 rfl Tryz.call31 rfl (AN3 _ _ (by assumption) (by assumption)) (A8 (A0 rfl) (A8 (A0 rfl) C6))) ?_
  refine B1 rfl rfl (B7 rfl (A0 rfl)) ?_
  refine B1 rfl rfl (I1 rfl (A0 rfl) rfl) ?_
  refine B1 rfl rfl (I1 rfl (A0 rfl) rfl) ?_
  refine B1 rfl rfl (B3 rfl (A0 rfl)) ?_
  refine B1 rfl rfl (B3 rfl (A0 rfl)) ?_
  refine P0 ?_
  refine A3 (A3 (A2 ?_))
  refine A5 rfl ?_
  refine A1 rfl (K3 rfl (A0 rfl)) ?_
  refine A4 ?_
  refine C3 (A0 rfl) ?_ ?_
  ·intro h55
   have hmf : (mergeF o (feedIn x.Cells (i : Int) d (mxI d (sureL l)))).2 = false := by simpa using h55
   have hmn : mergeN d (mxI d (sureL l)) [] 0 l = none := (by rw [hinv.2.1, At0 hx hmf])
   have he : nextR d l = (0, [], false) := (by unfold nextR; rw [hc.1, hc.2, hmn]; rfl)
   rw [he]
   refine A3 (A2 ?_)
   refine A1 rfl (O6 (places := #[(0, 1)]) rfl K8 Tryz.zeroValue52 (fun w => by kernel_rfl) rfl J5 rfl) ?_
   refine A1 rfl (M0 rfl E7 G3 Tryz.zeroValue63 rfl rfl rfl rfl J5 rfl rfl) ?_
   refine E9 0 rfl rfl rfl (A0 rfl) (A0 rfl) (F9 _) rfl M5 rfl ?_
   refine B4 rfl ?_
   refine A1 rfl (B3 rfl F0) ?_
   refine A4 ?_
   refine C2 ?_
   exact T7 rfl (by decide) (F2 (Q2 (ys := _) 0 rfl rfl T2 M5 rfl) (F2 (B8 rfl (by rfl)) (F2 (B8 rfl (by rfl)) L5)))
  intro h55
  have hmf : (mergeF o (feedIn x.Cells (i : Int) d (mxI d (sureL l)))).2 = true := by simpa using h55
  refine C8 (A2 ?_)
  refine A5 rfl ?_
  refine B4 rfl ?_
  refine A4 (A2 ?_)
  refine A5 rfl ?_
  refine A1 rfl (F6 rfl (A0 rfl) B5 (by first | omega | (simp only [D1, A7, szR] at *; omega))) ?_
  refine B4 rfl ?_
  refine A4 ?_
  refine M2 i o (i + 1) ((mergeF o (feedIn x.Cells (i : Int) d (mxI d (sureL l)))).1) ?_ ?_ (Q3 (by rfl) ⟨rfl, rfl, rfl, rfl, rfl, rfl, trivial⟩)
  ·exact ⟨by omega, by rw [hinv.2.1, As9 hx hmf], AD1 hmf⟩
  omega
 intro h36
 have k36 := of_decide_eq_false h36; try simp only [A9] at k36
 have hge : l.length ≤ i := by (simpa using h36)
 have hmn : mergeN d (mxI d (sureL l)) [] 0 l = some o := (by rw [hinv.2.1, List.drop_eq_nil_of_le hge]; rfl)
 have he : nextR d l = (mxI d (sureL l), o, true) := (by unfold nextR; rw [hc.1, hc.2, hmn]; rfl)
 rw [he]
 refine G0 ?_
 refine A3 (A2 ?_)
 refine A5 rfl ?_
 refine A1 rfl (O6 (places := #[(0, 1)]) rfl K8 Tryz.zeroValue52 (fun w => by kernel_rfl) rfl (F4 (A0 rfl) (P2 _ _) J5) rfl) ?_
 refine A5 rfl ?_
 refine E9 0 rfl rfl rfl (A0 rfl) (A0 rfl) (F9 _) rfl M5 rfl ?_
 refine B4 rfl ?_
 refine A1 rfl (B3 rfl F0) ?_
 refine A4 ?_
 refine C2 ?_
 exact T7 rfl (by decide) (F2 (Q2 (ys := _) 0 rfl rfl T2 M5 rfl) (F2 (B8 rfl (by rfl)) (F2 (B8 rfl (by rfl)) L5)))
end Go.Proofs.YtkegepoihkhihaaGreat

namespace Go.AV
end Go.AV
namespace Go.M
open Go.AV
end Go.M
namespace Go.Proofs.YtkegepoihkhihaaGreat
open Go Go.AV Go.M
attribute [local irreducible] OpW OpA OpS AWP FSpec ESpec GSpec OpE RetOk RetOkG RvDen Le Ev GuardIs SrcIs SrcE Int.tmod Int.tdiv IntKind.wrap bandI
end Go.Proofs.YtkegepoihkhihaaGreat

set_option maxHeartbeats 1000000
namespace Go.M
open Go.AV
def vAtN (l : List Int) (i : Nat) : Int := match l[i]? with | some x => x | none => Int.tmod ((i : Int) * 7 + (l.length : Int)) 256
def vKeyN (n : Int) : Str := (([[97], [98], [99]] : List Str)[(Int.tmod n 3).toNat]?).getD []
def vT1 (l : List Int) (g i : Nat) (t : Int) : Int := t + 1 + Int.tmod (vAtN l (5 * i + g)) 4
def vStep (l : List Int) (g i : Nat) (t : Int) : List TRec :=
  [⟨1, (i : Int) + 1, vT1 l g i t, 0, [], [⟨vKeyN (vAtN l (5 * i + g + 1)), [49], false⟩], false⟩]
  ++ (if (decide (Int.tmod (vAtN l (5 * i + g + 2)) 3 > 0) && decide ((i : Int) > 0)) = true then [⟨2, (i : Int), vT1 l g i t + Int.tmod (vAtN l (5 * i + g + 3)) 3, 0, [], [], true⟩] else [])
  ++ (if (Int.tmod (vAtN l (5 * i + g + 2)) 3 == 0 && decide ((i : Int) > 0)) = true then [⟨2, (i : Int), 0, 0, [], [], false⟩] else [])
def vTime (l : List Int) (g : Nat) : Nat → Int
  | 0 => 1
  | i + 1 => vT1 l g i (vTime l g i) + 3
def vRecs (l : List Int) (g : Nat) : Nat → List TRec
  | 0 => []
  | i + 1 => vRecs l g i ++ vStep l g i (vTime l g i)
theorem Z1 {l : List Int} (h : ByteL l) (i : Nat) : 0 ≤ vAtN l i ∧ vAtN l i ≤ 255 := by
  unfold vAtN
  split
  · rename_i x hx
    have := h _ (G6 hx)
    omega
  · rw [Int.tmod_eq_emod_of_nonneg (by omega)]; omega
theorem Z6 {a : Int} (h : 0 ≤ a) {k : Int} (hk : 0 < k) : 0 ≤ Int.tmod a k ∧ Int.tmod a k < k := by
  rw [Int.tmod_eq_emod_of_nonneg h]
  exact ⟨Int.emod_nonneg _ (by omega), Int.emod_lt_of_pos _ hk⟩
theorem vKey_at {n : Int} (h : 0 ≤ n) : ([[97], [98], [99]] : List Str)[(Int.tmod n 3).toNat]? = some (vKeyN n) := by
  obtain ⟨h1, h2⟩ := Z6 h (k := 3) (by decide)
  unfold vKeyN
  generalize Int.tmod n 3 = m at h1 h2
  obtain ⟨k, rfl⟩ := Int.eq_ofNat_of_zero_le h1
  have : k < 3 := by omega
  match k, this with
  | 0, _ => rfl
  | 1, _ => rfl
  | 2, _ => rfl
theorem Az9 {n : Int} (h : 0 ≤ n) : vKeyN n = [97] ∨ vKeyN n = [98] ∨ vKeyN n = [99] := by
  obtain ⟨h1, h2⟩ := Z6 h (k := 3) (by decide)
  unfold vKeyN
  generalize Int.tmod n 3 = m at h1 h2
  obtain ⟨k, rfl⟩ := Int.eq_ofNat_of_zero_le h1
  have : k < 3 := by omega
  match k, this with
  | 0, _ => exact .inl rfl
  | 1, _ => exact .inr (.inl rfl)
  | 2, _ => exact .inr (.inr rfl)
theorem Af7 {l : List Int} (h : ByteL l) (g i : Nat) (t : Int) : t + 1 ≤ vT1 l g i t ∧ vT1 l g i t ≤ t + 4 := by
  unfold vT1
  have := Z6 (Z1 h (5 * i + g)).1 (k := 4) (by decide)
  omega
theorem AD2 {l : List Int} (h : ByteL l) (g : Nat) : ∀ i, 1 ≤ vTime l g i ∧ vTime l g i ≤ 1 + 7 * (i : Int)
  | 0 => by unfold vTime; decide
  | i + 1 => by
    have := AD2 h g i
    have h2 := Af7 h g i (vTime l g i)
    show 1 ≤ vT1 l g i (vTime l g i) + 3 ∧ vT1 l g i (vTime l g i) + 3 ≤ _
    omega
theorem BE4 {k : Str} (hk : k = [97] ∨ k = [98] ∨ k = [99]) {n t : Int} (hn : 1 ≤ n ∧ n ≤ 60) (ht : 1 ≤ t ∧ t ≤ 100000) : goodRec ⟨1, n, t, 0, [], [⟨k, [49], false⟩], false⟩ = true := by
  unfold goodRec
  rw [if_pos rfl]
  unfold good1 isTxnR isTime within
  dsimp only
  rw [decide_eq_true hn.1, decide_eq_true hn.2, decide_eq_true ht.1, decide_eq_true ht.2]
  rcases hk with rfl | rfl | rfl <;> rfl
theorem yes_good {n t : Int} (hn : 1 ≤ n ∧ n ≤ 60) (ht : 1 ≤ t ∧ t ≤ 100000) : goodRec ⟨2, n, t, 0, [], [], true⟩ = true := by
  unfold goodRec
  rw [if_neg (show ¬ (2 : Int) = 1 by decide), if_pos (.inl rfl)]
  unfold good2 bareR isTxnR isTime within
  dsimp only
  rw [decide_eq_true hn.1, decide_eq_true hn.2, decide_eq_true ht.1, decide_eq_true ht.2]
  rfl
theorem no_good {n : Int} (hn : 1 ≤ n ∧ n ≤ 60) : goodRec ⟨2, n, 0, 0, [], [], false⟩ = true := by
  unfold goodRec
  rw [if_neg (show ¬ (2 : Int) = 1 by decide), if_pos (.inl rfl)]
  unfold good2 bareR isTxnR
  dsimp only
  unfold within
  rw [decide_eq_true hn.1, decide_eq_true hn.2]
  rfl
theorem vStep_ok {l : List Int} (h : ByteL l) {g i : Nat} {t : Int} (hi : i ≤ 20) (ht : 1 ≤ t ∧ t ≤ 1000) : (∀ r ∈ vStep l g i t, goodRec r = true ∧ r.size ≤ 3) ∧ (vStep l g i t).length ≤ 2 ∧ (i = 0 → (vStep l g i t).length ≤ 1) := by
  have h1 := Af7 h g i t
  have h2 := Z1 h (5 * i + g + 2)
  have h3 := Z6 (Z1 h (5 * i + g + 3)).1 (k := 3) (by decide)
  have hk := Az9 (Z1 h (5 * i + g + 1)).1
  have hs : ∀ k : Str, (k = [97] ∨ k = [98] ∨ k = [99]) → TRec.size ⟨1, (i : Int) + 1, vT1 l g i t, 0, [], [⟨k, [49], false⟩], false⟩ ≤ 3 := by
    intro k hk; rcases hk with rfl | rfl | rfl <;> exact Nat.le_of_ble_eq_true rfl
  unfold vStep
  have hp := BE4 hk (n := (i : Int) + 1) (t := vT1 l g i t) ⟨by omega, by omega⟩ ⟨by omega, by omega⟩
  have hs1 := hs _ hk
  by_cases ha : (decide (Int.tmod (vAtN l (5 * i + g + 2)) 3 > 0) && decide ((i : Int) > 0)) = true
  · rw [if_pos ha]
    have hb : ¬ (Int.tmod (vAtN l (5 * i + g + 2)) 3 == 0 && decide ((i : Int) > 0)) = true := by
      simp only [Bool.and_eq_true, decide_eq_true_eq, beq_iff_eq] at ha ⊢; omega
    rw [if_neg hb]
    simp only [Bool.and_eq_true, decide_eq_true_eq] at ha
    have hy := yes_good (n := (i : Int)) (t := vT1 l g i t + Int.tmod (vAtN l (5 * i + g + 3)) 3) ⟨by omega, by omega⟩ ⟨by omega, by omega⟩
    refine ⟨fun r hr => ?_, by simp, fun e => by omega⟩
    simp only [List.append_nil, f9, List.nil_append, List.mem_cons, List.not_mem_nil, or_false] at hr
    rcases hr with rfl | rfl
    · exact ⟨hp, hs1⟩
    · exact ⟨hy, Nat.le_of_ble_eq_true rfl⟩
  · rw [if_neg ha]
    by_cases hb : (Int.tmod (vAtN l (5 * i + g + 2)) 3 == 0 && decide ((i : Int) > 0)) = true
    · rw [if_pos hb]
      simp only [Bool.and_eq_true, decide_eq_true_eq] at hb
      have hy := no_good (n := (i : Int)) ⟨by omega, by omega⟩
      refine ⟨fun r hr => ?_, by simp, fun e => by omega⟩
      simp only [List.append_nil, f9, List.nil_append, List.mem_cons, List.not_mem_nil, or_false] at hr
      rcases hr with rfl | rfl
      · exact ⟨hp, hs1⟩
      · exact ⟨hy, Nat.le_of_ble_eq_true rfl⟩
    · rw [if_neg hb]
      refine ⟨fun r hr => ?_, by simp, fun e => by simp⟩
      simp only [List.append_nil, List.mem_cons, List.not_mem_nil, or_false] at hr
      rw [hr]; exact ⟨hp, hs1⟩
theorem o4 {l : List Int} (h : ByteL l) {g : Nat} : ∀ n, n ≤ 20 → (∀ r ∈ vRecs l g n, goodRec r = true ∧ r.size ≤ 3) ∧ (vRecs l g n).length ≤ 2 * n - 1
  | 0, _ => ⟨fun r hr => absurd hr List.not_mem_nil, Nat.le_refl _⟩
  | n + 1, hn => by
    obtain ⟨i1, i2⟩ := o4 h (g := g) n (by omega)
    have ht := AD2 h g n
    obtain ⟨s1, s2, s3⟩ := vStep_ok h (g := g) (i := n) (t := vTime l g n) (by omega) ⟨by omega, by omega⟩
    show (∀ r ∈ vRecs l g n ++ vStep l g n (vTime l g n), _) ∧ (vRecs l g n ++ vStep l g n (vTime l g n)).length ≤ _
    refine ⟨fun r hr => (List.mem_append.1 hr).elim (i1 r) (s1 r), ?_⟩
    rw [J4]
    by_cases h0 : n = 0
    · have := s3 h0; omega
    · omega
theorem Ap6 {l : List Int} {g : Nat} {n : Nat} : ∀ k, ∃ b, vRecs l g (n + k) = vRecs l g n ++ b
  | 0 => ⟨[], (List.append_nil _).symm⟩
  | k + 1 => by
    obtain ⟨b, hb⟩ := Ap6 (l := l) (g := g) (n := n) k
    exact ⟨b ++ vStep l g (n + k) (vTime l g (n + k)), by rw [← List.append_assoc, ← hb]; rfl⟩
def vSt (l : List Int) (g n : Nat) : TState := (stateOfR (vRecs l g n)).1
theorem Ap7 {l : List Int} (h : ByteL l) {g n : Nat} (hn : n ≤ 8) : vSt l g n = stFrom zState (vRecs l g n) := by
  obtain ⟨h1, h2⟩ := o4 h (g := g) n (by omega)
  unfold vSt
  unfold stateOfR
  rw [if_pos ⟨by omega, List.all_eq_true.2 fun r hr => (h1 r hr).1⟩]
theorem U5 {l : List Int} (h : ByteL l) {g n : Nat} (hn : n ≤ 8) : goodState (vSt l g n) = true ∧ (vSt l g n).size ≤ 195 ∧ sizeL TCell.size (vSt l g n).Cells ≤ 195 := by
  obtain ⟨h1, h2⟩ := o4 h (g := g) n (by omega)
  rw [Ap7 h hn]
  have hp := Am8 (stFrom zState (vRecs l g n))
  have hq := AT5 (m := 3) (s := zState) (l := vRecs l g n) fun r hr => (h1 r hr).2
  have h3 : phi zState = 0 := rfl
  have hc : sizeL TCell.size (stFrom zState (vRecs l g n)).Cells ≤ phi (stFrom zState (vRecs l g n)) := by unfold phi; omega
  have h4 : (vRecs l g n).length * (3 * (1 + 3) + 1) ≤ 15 * 13 := Nat.mul_le_mul (by omega) (by decide)
  exact ⟨R4.2 (AO8 AO7 fun r hr => (h1 r hr).1), by omega, by omega⟩
theorem AB6 {l : List Int} (h : ByteL l) {g n : Nat} (hn : n ≤ 8) {k : Nat} (hk : n + k ≤ 8) : settled (vSt l g n) ≤ settled (vSt l g (n + k)) ∧ ∀ (x : Int) (a u : Int), u ≤ settled (vSt l g n) → feedIn (vSt l g (n + k)).Cells x a u = feedIn (vSt l g n).Cells x a u := by
  obtain ⟨b, hb⟩ := Ap6 (l := l) (g := g) (n := n) k
  have hg : ∀ r ∈ vRecs l g n ++ b, goodRec r = true := by rw [← hb]; exact fun r hr => ((o4 h (g := g) (n + k) (by omega)).1 r hr).1
  rw [Ap7 h hn, Ap7 h hk, hb]
  exact ⟨As7 hg, fun x a u hu => feed_app hg hu⟩
theorem Av6 {a u : Int} {p q : TState} (hp : goodState p = true ∧ p.size ≤ 195 ∧ sizeL TCell.size p.Cells ≤ 195) (hq : goodState q = true ∧ q.size ≤ 195 ∧ sizeL TCell.size q.Cells ≤ 195) : (allItems a u 0 [p, q]).length ≤ 400 := by
  have f : ∀ {s : TState} (g : Int), goodState s = true ∧ s.size ≤ 195 ∧ sizeL TCell.size s.Cells ≤ 195 → (feedIn s.Cells g a u).length ≤ 195 := fun {s} g hs => by
    have hc := W3 (R4.1 hs.1).cells
    rw [AH9 hc.1 hc.2]
    exact Nat.le_trans (Ao8 _) hs.2.2
  have h1 := f (s := p) ((0 : Nat) : Int) hp
  have h2 := f (s := q) ((0 + 1 : Nat) : Int) hq
  unfold allItems allItems allItems
  rw [List.append_nil, J4]
  omega
theorem Ap8 {p q : TState} (hp : goodState p = true) (hq : goodState q = true) : ∀ s ∈ [p, q], goodState s = true := by
  intro s hs; rcases List.mem_cons.1 hs with rfl | hs
  · exact hp
  · rw [List.mem_singleton.1 hs]; exact hq
def vSts (l : List Int) (n : Nat) : List TState := [vSt l 0 n, vSt l 1 n]
theorem AN4 {l : List Int} (h : ByteL l) {n : Nat} (hn : n ≤ 8) : areStates (vSts l n) = true ∧ ∀ s ∈ vSts l n, s.size ≤ 195 :=
  ⟨X0.2 ⟨show 1 ≤ 2 by decide, show 2 ≤ 4 by decide, Ap8 (U5 h hn).1 (U5 h hn).1⟩, fun s hs => by
    rcases List.mem_cons.1 hs with rfl | hs
    · exact (U5 h hn).2.1
    · rw [List.mem_singleton.1 hs]; exact (U5 h hn).2.1⟩
structure FInv (l : List Int) (n : Nat) (d : Int) (A : List TFeedItem) : Prop where
  fed : Fed A d (vSt l 0 8) (vSt l 1 8)
  top : d ≤ 100000
  sure : n ≤ 8 → d ≤ sureL (vSts l n)
theorem BE5 {l : List Int} (h : ByteL l) : FInv l 1 0 [] where
  fed := fed_zero (R4.1 (U5 h (Nat.le_refl _)).1).cells (R4.1 (U5 h (Nat.le_refl _)).1).cells
  top := by decide
  sure := fun hn => (Af2 (X0.1 (AN4 h hn).1).2.2).1
theorem Af8 {l : List Int} (h : ByteL l) {n : Nat} {d : Int} {A : List TFeedItem} (f : FInv l n d A) : l23Feed A = true ∧ A.length ≤ 400 ∧ mergeF [] (itemsR (vSt l 0 8) 0 0 d).1 = ((mergeF [] (itemsR (vSt l 0 8) 0 0 d).1).1, true) ∧ (mergeF (mergeF [] (itemsR (vSt l 0 8) 0 0 d).1).1 (itemsR (vSt l 1 8) 1 0 d).1).1 = A ∧ (mergeF [] (itemsR (vSt l 0 8) 0 0 d).1).1.length ≤ 400 := by
  have hp := U5 h (g := 0) (Nat.le_refl 8)
  have hq := U5 h (g := 1) (Nat.le_refl 8)
  have hg := m7 (Ap8 hp.1 hq.1)
  obtain ⟨r, m1, m2, m3, m4⟩ := Ao4 (a := 0) (u := d) hg (show 2 ≤ 4 by decide) (Av6 hp hq)
  have he : A = r := AP0 f.fed.srt m2 fun z => by rw [f.fed.mem, m3]
  have i0 : itemsR (vSt l 0 8) 0 0 d = (feedIn (vSt l 0 8).Cells 0 0 d, true) := by
    unfold itemsR
    rw [if_pos (by rw [hp.1, AM9 ⟨f.fed.pos, f.top⟩, decide_eq_true f.fed.pos]; rfl)]
  have i1 : itemsR (vSt l 1 8) 1 0 d = (feedIn (vSt l 1 8).Cells 1 0 d, true) := by
    unfold itemsR
    rw [if_pos (by rw [hq.1, AM9 ⟨f.fed.pos, f.top⟩, decide_eq_true f.fed.pos]; rfl)]
  rw [i0, i1]
  dsimp only
  unfold mergeN at m1
  by_cases c1 : (mergeF [] (feedIn (vSt l 0 8).Cells ((0 : Nat) : Int) 0 d)).2 = true
  · rw [if_pos c1] at m1
    unfold mergeN at m1
    by_cases c2 : (mergeF (mergeF [] (feedIn (vSt l 0 8).Cells ((0 : Nat) : Int) 0 d)).1 (feedIn (vSt l 1 8).Cells ((0 + 1 : Nat) : Int) 0 d)).2 = true
    · rw [if_pos c2] at m1
      unfold mergeN at m1
      injection m1 with m1
      have hf := (S8 r).1 m4
      refine ⟨by rw [he]; exact m4, by rw [he]; exact hf.2.2, ?_, ?_, ?_⟩
      · exact Prod.ext rfl c1
      · rw [he, ← m1]; rfl
      · exact ((S8 _).1 (AD1 c1)).2.2
    · rw [if_neg c2] at m1; cases m1
  · rw [if_neg c1] at m1; cases m1
theorem BE6 {l : List Int} (h : ByteL l) {n : Nat} (hn : 1 ≤ n ∧ n ≤ 8) {d : Int} {A : List TFeedItem} (f : FInv l n d A) :
    (nextR d (vSts l n)).2.2 = true ∧ sureR (vSts l n) = (sureL (vSts l n), true) ∧ d ≤ (nextR d (vSts l n)).1 ∧ sureL (vSts l n) ≤ (nextR d (vSts l n)).1 ∧ (∀ x ∈ (nextR d (vSts l n)).2.1, d < x.Time ∧ x.Time ≤ (nextR d (vSts l n)).1) ∧ FInv l (n + 1) (nextR d (vSts l n)).1 (A ++ (nextR d (vSts l n)).2.1) ∧ (nextR d (vSts l n)).2.1.length ≤ 400 := by
  have hp := U5 h (g := 0) hn.2
  have hq := U5 h (g := 1) hn.2
  have hS := AN4 h hn.2
  obtain ⟨a1, a2, a3⟩ := X0.1 hS.1
  have hs := Af2 a3
  have hd := f.sure hn.2
  have hm : mxI d (sureL (vSts l n)) = sureL (vSts l n) := by rcases BD9 d (sureL (vSts l n)) with ⟨e, k⟩ | ⟨e, k⟩ <;> omega
  have hg := m7 a3
  obtain ⟨r, m1, m2, m3, m4⟩ := Ao4 (a := d) (u := sureL (vSts l n)) hg a2 (Av6 hp hq)
  have he : nextR d (vSts l n) = (sureL (vSts l n), r, true) := by
    unfold nextR
    rw [if_pos (by rw [AM9 ⟨f.fed.pos, f.top⟩, hS.1]; rfl), hm, m1]
  have hr : sureR (vSts l n) = (sureL (vSts l n), true) := if_pos hS.1
  rw [he]
  dsimp only
  obtain ⟨k, hk⟩ : ∃ k, 8 = n + k := ⟨8 - n, by omega⟩
  have hu := AI0.1 (Int.le_refl (sureL (vSts l n)))
  have e1 := (AB6 h (g := 0) hn.2 (k := k) (by omega)).2 0 d (sureL (vSts l n)) (hu.2 _ List.mem_cons_self)
  have e2 := (AB6 h (g := 1) hn.2 (k := k) (by omega)).2 1 d (sureL (vSts l n)) (hu.2 _ (List.mem_cons_of_mem _ List.mem_cons_self))
  rw [← hk] at e1 e2
  refine ⟨rfl, hr, hd, Int.le_refl _, fun x hx => (d4 hg x ((m3 x).1 hx)).2, ⟨?_, hs.2, fun hn1 => ?_⟩, ((S8 r).1 m4).2.2⟩
  · exact fed_next (R4.1 (U5 h (Nat.le_refl 8)).1).cells (R4.1 (U5 h (Nat.le_refl 8)).1).cells f.fed hd m2 m3 e1.symm e2.symm
  · refine AI0.2 ⟨hs.2, fun s hs2 => ?_⟩
    rcases List.mem_cons.1 hs2 with rfl | hs2
    · exact Int.le_trans (hu.2 _ List.mem_cons_self) (AB6 h hn.2 hn1).1
    · rw [List.mem_singleton.1 hs2]
      exact Int.le_trans (hu.2 _ (List.mem_cons_of_mem _ List.mem_cons_self)) (AB6 h hn.2 hn1).1
theorem Av7 (l : List Int) (n : Nat) {g : Nat} (h : g < 2) : (vSts l n)[g]? = some (vSt l g n) := by
  match g, h with
  | 0, _ => rfl
  | 1, _ => rfl
theorem Ap9 {α : Type} {l : List α} {i : Nat} {x : α} (h : l[i]? = some x) : l.take (i + 1) = l.take i ++ [x] := by
  rw [List.take_add_one, h]; rfl
theorem BE7 {n : Int} (h : 0 ≤ n) : (([[97], [98], [99]] : List Str).map fun x => [AV.str x])[(Int.tmod n 3).toNat]? = some [AV.str (vKeyN n)] := by
  rw [List.getElem?_map, vKey_at h]; rfl
def wantF (l : List Int) (d : Int) : Nat → List TFeedItem
  | 0 => []
  | g + 1 => (mergeF (wantF l d g) (itemsR (vSt l g 8) (g : Int) 0 d).1).1
theorem At1 (a b : List TFeedItem) : sizeL TFeedItem.size (mergeF a b).1 ≤ 20000 := by
  cases h : (mergeF a b).2 with
  | true => exact s0 (AD1 h)
  | false =>
    have : (mergeF a b).1 = [] := by
      unfold mergeF at h ⊢
      split at h
      · rw [if_pos ‹_›]
        split at h
        · split at h
          · rw [if_pos ‹_›]
          · cases h
        · rfl
      · rw [if_neg ‹_›]
    rw [this]; decide
theorem BA0 (l : List Int) (d : Int) : ∀ g, sizeL TFeedItem.size (wantF l d g) ≤ 1048576
  | 0 => Nat.zero_le _
  | g + 1 => Nat.le_trans (At1 _ _) (by decide)
theorem At2 (s : TState) (g a u : Int) : sizeL TFeedItem.size (itemsR s g a u).1 ≤ 1048576 := by
  unfold itemsR
  split
  · rename_i h
    simp only [Bool.and_eq_true] at h
    exact Nat.le_trans (s0 (AC9 (R4.1 h.1.1.1.1).cells h.1.1.1.2 a u).1) (by decide)
  · decide
end Go.M

set_option maxHeartbeats 2000000
namespace Go.Proofs.YtkegepoihkhihaaGreat
open Go Go.AV Go.M
attribute [local irreducible] OpW OpA OpS AWP FSpec ESpec GSpec OpE RetOk RetOkG RvDen Le Ev GuardIs SrcIs SrcE Int.tmod Int.tdiv IntKind.wrap bandI
theorem o5 (code : List Int) (hcode : ByteL code) (hc : code.length ≤ 65536) (n : Int) (i : Nat) (h : n = (i : Int)) (hi : i ≤ 100000) : FSpec Tryz.prog 66 [bytesI code, AV.int n] (AV.int (vAtN code i)) := by
 subst h
 refine D8 Tryz.func66 rfl Tryz.ntmps66 rfl ?_
 refine A3 (A2 ?_)
 refine A1 rfl (B3 rfl B5) ?_
 refine A4 (A3 (A3 (A2 ?_)))
 refine A5 rfl ?_
 refine A5 rfl ?_
 refine A1 rfl (G5 rfl U6 (A0 rfl)) ?_
 refine A1 rfl (I4 rfl (A0 rfl) (A0 rfl)) ?_
 refine A4 ?_
 refine C3 (A0 rfl) ?_ ?_
 ·intro h8
  have k8 := of_decide_eq_true h8; try simp only [A9] at k8
  have hlt : i < code.length := by (simpa using h8)
  obtain ⟨x, hx⟩ := get_some hlt
  have hb := hcode x (G6 hx)
  have hv : vAtN code i = x := (by unfold vAtN; rw [hx])
  rw [hv]
  refine A3 (A2 ?_)
  refine A5 rfl ?_
  refine A5 rfl ?_
  refine A1 rfl (H5 rfl U6 Tryz.sizeOf5 (A0 rfl) (A0 rfl) hx (by first | omega | (simp only [D1, A7, szR] at *; omega))) ?_
  refine A1 rfl (L3 rfl (A0 rfl) Tryz.isAgg5 rfl) ?_
  refine A1 rfl (w9 rfl (by kernel_rfl) Q7 (A0 rfl)) ?_
  refine B4 rfl ?_
  refine A4 ?_
  refine C2 ?_
  exact G1 rfl (B8 rfl (by first | rfl | (rw [A9]; rfl) | (rw [wrapS hb]; rfl)))
 intro h8
 have k8 := of_decide_eq_false h8; try simp only [A9] at k8
 have hge : code.length ≤ i := by (simpa using h8)
 have hv : vAtN code i = Int.tmod ((i : Int) * 7 + (code.length : Int)) 256 := (by unfold vAtN; rw [List.getElem?_eq_none hge])
 rw [hv]
 refine C8 (A3 (A2 ?_))
 refine A5 rfl ?_
 refine A1 rfl (w8 rfl (A0 rfl) B5 (by first | omega | (simp only [D1, A7, szR] at *; omega))) ?_
 refine A5 rfl ?_
 refine A1 rfl (G5 rfl U6 (A0 rfl)) ?_
 refine A1 rfl (F6 rfl (A0 rfl) (A0 rfl) (by first | omega | (simp only [D1, A7, szR] at *; omega))) ?_
 refine A1 rfl (AE8 rfl (A0 rfl) B5 (by first | omega | (simp only [D1, A7, szR] at *; omega))) ?_
 refine B4 rfl ?_
 refine A4 ?_
 refine C2 ?_
 exact G1 rfl (B8 rfl (by first | rfl | (rw [A9]; rfl) | (rw [wrapS hb]; rfl)))
theorem At3 (code : List Int) (n : Nat) (hcode : ByteL code) (hc : code.length ≤ 65536) (hn : n ≤ 8) : GSpec Tryz.prog 29 [bytesI code, AV.int (n : Int)] [] (fun _ : Value => True) (fun v => [.arr v 43 4 ((vSts code n).map TState.cs)]) (fun v => AV.is v) := by
 refine N7 Tryz.func29 rfl Tryz.ntmps29 rfl ?_
 refine A3 (A2 ?_)
 refine A1 rfl (B3 rfl P8) ?_
 refine A4 (A3 (A2 ?_))
 refine O8 rfl rfl rfl rfl M1 E1 ?_
 intro v14
 refine B4 rfl ?_
 refine A4 (A3 (A3 (A2 ?_)))
 refine A1 rfl (B3 rfl B5) ?_
 refine A4 (D0 ?_)
 refine AWP.le (K1 [0] rfl) ?_
 refine P5 [(0, _), (1, _), (4, _)] _ (fun (g : Nat) (v : Value) => g ≤ 2) (fun (g : Nat) (v : Value) => [.arr v 43 4 (((vSts code n).take g).map TState.cs)]) (fun (g : Nat) (v : Value) => [(5, AV.is v), (6, AV.int g)]) (fun (g : Nat) (v : Value) => 2 - g) (0) (v14) ?_ (Q3 (by rfl) ⟨rfl, rfl, rfl, rfl, rfl, trivial⟩) ?_
 ·exact Nat.zero_le _
 intro g v hinv
 refine A3 (A3 (A2 ?_))
 refine A5 rfl ?_
 refine A1 rfl (I4 rfl (A0 rfl) B5) ?_
 refine A4 ?_
 refine C3 (A0 rfl) ?_ ?_
 ·intro h16
  have k16 := of_decide_eq_true h16; try simp only [A9] at k16
  have hlt : g < 2 := by omega
  have hsg := Av7 code n hlt
  refine C8 (A3 (D0 (A3 (A2 ?_))))
  refine O8 rfl rfl rfl rfl N4 N5 ?_
  intro v19
  refine B4 rfl ?_
  refine A4 (A3 (A2 ?_))
  refine A1 rfl (B3 rfl B5) ?_
  refine A4 (A3 (A3 (A2 ?_)))
  refine A1 rfl (B3 rfl B5) ?_
  refine A4 (D0 ?_)
  refine AWP.le (K1 [1, 0] rfl) ?_
  refine P5 [(0, _), (1, _), (4, _), (5, _), (6, _), (15, _), (16, _), (19, _)] _ (fun (i : Nat) (w : Value) => i ≤ n) (fun (i : Nat) (w : Value) => [.arr v 43 4 (((vSts code n).take g).map TState.cs), .arr w 104 7 ((vRecs code g i).map TRec.cs)]) (fun (i : Nat) (w : Value) => [(7, AV.is w), (8, AV.int (vTime code g i)), (9, AV.int i)]) (fun (i : Nat) (w : Value) => n - i) (0) (v19) ?_ (Q3 (by rfl) ⟨rfl, rfl, rfl, rfl, rfl, rfl, rfl, rfl, rfl, rfl, rfl, trivial⟩) ?_
  ·exact Nat.zero_le _
  intro i w hinv
  refine A3 (A3 (A2 ?_))
  refine A5 rfl ?_
  refine A5 rfl ?_
  refine A1 rfl (I4 rfl (A0 rfl) (A0 rfl)) ?_
  refine A4 ?_
  refine C3 (A0 rfl) ?_ ?_
  ·intro h22
   have k22 := of_decide_eq_true h22; try simp only [A9] at k22
   have hlt1 : i < n := by omega
   have htm := AD2 hcode g i
   have hro := (o4 hcode (g := g) i (by omega)).2
   have ha0 := Z1 hcode (5 * i + g)
   have ha1 := Z1 hcode (5 * i + g + 1)
   have ha2 := Z1 hcode (5 * i + g + 2)
   have ha3 := Z1 hcode (5 * i + g + 3)
   have hm0 := Z6 ha0.1 (k := 4) (by decide)
   have hm3 := Z6 ha3.1 (k := 3) (by decide)
   have hm1 := Z6 ha1.1 (k := 3) (by decide)
   refine C8 (A3 (D0 (A3 (A2 ?_))))
   refine A5 rfl ?_
   refine A1 rfl (F6 rfl (A0 rfl) B5 (by first | omega | (simp only [D1, A7, szR] at *; omega))) ?_
   refine A5 rfl ?_
   refine A5 rfl ?_
   refine A1 rfl (w8 rfl B5 (A0 rfl) (by first | omega | (simp only [D1, A7, szR] at *; omega))) ?_
   refine A5 rfl ?_
   refine A1 rfl (F6 rfl (A0 rfl) (A0 rfl) (by first | omega | (simp only [D1, A7, szR] at *; omega))) ?_
   refine A1 rfl (D7 rfl Tryz.call66 rfl (o5 code hcode hc _ (5 * i + g) (by omega) (by omega)) (A8 (A0 rfl) (A8 (A0 rfl) C6))) ?_
   refine A1 rfl (AE8 rfl (A0 rfl) B5 (by first | omega | (simp only [D1, A7, szR] at *; omega))) ?_
   refine A1 rfl (F6 rfl (A0 rfl) (A0 rfl) (by first | omega | (simp only [D1, A7, szR] at *; omega))) ?_
   refine B4 rfl ?_
   refine A4 (A3 (A2 ?_))
   refine A1 rfl (M0 rfl E5 E3 Tryz.zeroValue9 rfl rfl rfl rfl (F4 (e8 (l := [97]) rfl) (T4 _) (F4 (e8 (l := [98]) rfl) (T4 _) (F4 (e8 (l := [99]) rfl) (T4 _) J5))) rfl rfl) ?_
   refine A5 rfl ?_
   refine A5 rfl ?_
   refine A1 rfl (w8 rfl B5 (A0 rfl) (by first | omega | (simp only [D1, A7, szR] at *; omega))) ?_
   refine A5 rfl ?_
   refine A1 rfl (F6 rfl (A0 rfl) (A0 rfl) (by first | omega | (simp only [D1, A7, szR] at *; omega))) ?_
   refine A1 rfl (F6 rfl (A0 rfl) B5 (by first | omega | (simp only [D1, A7, szR] at *; omega))) ?_
   refine A1 rfl (D7 rfl Tryz.call66 rfl (o5 code hcode hc _ (5 * i + g + 1) (by omega) (by omega)) (A8 (A0 rfl) (A8 (A0 rfl) C6))) ?_
   refine A1 rfl (AE8 rfl (A0 rfl) B5 (by first | omega | (simp only [D1, A7, szR] at *; omega))) ?_
   refine A1 rfl (H5 rfl E5 E3 (A0 rfl) (A0 rfl) (BE7 ha1.1) (by first | omega | (simp only [D1, A7, szR] at *; omega))) ?_
   refine A1 rfl (L3 rfl (A0 rfl) F5 rfl) ?_
   refine B4 rfl ?_
   refine A4 (A3 (A2 ?_))
   refine A5 rfl ?_
   refine A5 rfl ?_
   refine A1 rfl (F6 rfl (A0 rfl) B5 (by first | omega | (simp only [D1, A7, szR] at *; omega))) ?_
   refine A5 rfl ?_
   refine A5 rfl ?_
   refine A1 rfl (O6 (places := #[(0, 1), (1, 1), (2, 1)]) rfl I0 Tryz.zeroValue101 (fun w => by kernel_rfl) rfl (F4 (A0 rfl) (T4 _) (F4 (e8 (l := [49]) rfl) (T4 _) J5)) rfl) ?_
   refine A1 rfl (M0 rfl F7 I2 Tryz.zeroValue101 rfl rfl rfl rfl (F4 (A0 rfl) (F9 _) J5) rfl rfl) ?_
   refine A1 rfl (O6 (places := #[(0, 1), (1, 1), (2, 1), (3, 1), (4, 1), (5, 1), (6, 1)]) rfl C0 Tryz.zeroValue104 (fun w => by kernel_rfl) rfl (F4 B5 (P2 _ _) (F4 (A0 rfl) (P2 _ _) (F4 (A0 rfl) (P2 _ _) (F4 (A0 rfl) (U1 _ _) J5)))) rfl) ?_
   refine AU9 (W7 [] 53 rfl rfl (AD5 (H9 L0 (H9 L0 (H9 L0 (H9 L0 (H9 (j3 (sz := 1)) (H9 L0 (H9 L0 V8)))))))) T0) ?_
   refine A1 rfl (M0 rfl N4 N5 Tryz.zeroValue104 rfl rfl rfl rfl (F4 (A0 rfl) (F9 _) J5) rfl rfl) ?_
   refine M6 (by' := 88) 1 rfl rfl rfl rfl N4 Tryz.type104 rfl rfl rfl rfl rfl rfl (A0 rfl) (A0 rfl) rfl (by simp only [J4, A9, A7, J7, L9]; omega) ?_
   intro v55_1
   refine B4 rfl ?_
   refine A4 (A3 (A3 (A2 ?_)))
   refine A5 rfl ?_
   refine A5 rfl ?_
   refine A1 rfl (w8 rfl B5 (A0 rfl) (by first | omega | (simp only [D1, A7, szR] at *; omega))) ?_
   refine A5 rfl ?_
   refine A1 rfl (F6 rfl (A0 rfl) (A0 rfl) (by first | omega | (simp only [D1, A7, szR] at *; omega))) ?_
   refine A1 rfl (F6 rfl (A0 rfl) B5 (by first | omega | (simp only [D1, A7, szR] at *; omega))) ?_
   refine A1 rfl (D7 rfl Tryz.call66 rfl (o5 code hcode hc _ (5 * i + g + 2) (by omega) (by omega)) (A8 (A0 rfl) (A8 (A0 rfl) C6))) ?_
   refine A1 rfl (AE8 rfl (A0 rfl) B5 (by first | omega | (simp only [D1, A7, szR] at *; omega))) ?_
   refine A1 rfl (N6 rfl (A0 rfl) B5) ?_
   refine A5 rfl ?_
   refine C4 rfl (fun hc => B7 rfl (A0 rfl)) ?_
   refine C4 rfl (fun hc => N6 rfl (A6 rfl hc) B5) ?_
   refine A1 rfl (G8 rfl (A0 rfl) (F1 rfl)) ?_
   refine A4 ?_
   refine C3 (A0 rfl) ?_ ?_
   ·intro h68
    refine A2 ?_
    refine A5 rfl ?_
    refine A5 rfl ?_
    refine A5 rfl ?_
    refine A5 rfl ?_
    refine A5 rfl ?_
    refine A1 rfl (w8 rfl B5 (A0 rfl) (by first | omega | (simp only [D1, A7, szR] at *; omega))) ?_
    refine A5 rfl ?_
    refine A1 rfl (F6 rfl (A0 rfl) (A0 rfl) (by first | omega | (simp only [D1, A7, szR] at *; omega))) ?_
    refine A1 rfl (F6 rfl (A0 rfl) B5 (by first | omega | (simp only [D1, A7, szR] at *; omega))) ?_
    refine A1 rfl (D7 rfl Tryz.call66 rfl (o5 code hcode hc _ (5 * i + g + 3) (by omega) (by omega)) (A8 (A0 rfl) (A8 (A0 rfl) C6))) ?_
    refine A1 rfl (AE8 rfl (A0 rfl) B5 (by first | omega | (simp only [D1, A7, szR] at *; omega))) ?_
    refine A1 rfl (F6 rfl (A0 rfl) (A0 rfl) (by first | omega | (simp only [D1, A7, szR] at *; omega))) ?_
    refine A1 rfl (O6 (places := #[(0, 1), (1, 1), (2, 1), (3, 1), (4, 1), (5, 1), (6, 1)]) rfl C0 Tryz.zeroValue104 (fun w => by kernel_rfl) rfl (F4 B5 (P2 _ _) (F4 (A0 rfl) (P2 _ _) (F4 (A0 rfl) (P2 _ _) (F4 F0 (i8 _) J5)))) rfl) ?_
    refine AU9 (W7 [] 81 rfl rfl (AD5 (H9 L0 (H9 L0 (H9 L0 (H9 L0 (H9 (j3 (sz := 1)) (H9 (j3 (sz := 3)) (H9 L0 V8)))))))) T0) ?_
    refine A1 rfl (M0 rfl N4 N5 Tryz.zeroValue104 rfl rfl rfl rfl (F4 (A0 rfl) (F9 _) J5) rfl rfl) ?_
    refine M6 (by' := 88) 1 rfl rfl rfl rfl N4 Tryz.type104 rfl rfl rfl rfl rfl rfl (A0 rfl) (A0 rfl) rfl (by simp only [J4, A9, A7, J7, L9]; omega) ?_
    intro v83_2
    refine B4 rfl ?_
    refine A4 (A3 (A3 (A2 ?_)))
    refine A5 rfl ?_
    refine A5 rfl ?_
    refine A1 rfl (w8 rfl B5 (A0 rfl) (by first | omega | (simp only [D1, A7, szR] at *; omega))) ?_
    refine A5 rfl ?_
    refine A1 rfl (F6 rfl (A0 rfl) (A0 rfl) (by first | omega | (simp only [D1, A7, szR] at *; omega))) ?_
    refine A1 rfl (F6 rfl (A0 rfl) B5 (by first | omega | (simp only [D1, A7, szR] at *; omega))) ?_
    refine A1 rfl (D7 rfl Tryz.call66 rfl (o5 code hcode hc _ (5 * i + g + 2) (by omega) (by omega)) (A8 (A0 rfl) (A8 (A0 rfl) C6))) ?_
    refine A1 rfl (AE8 rfl (A0 rfl) B5 (by first | omega | (simp only [D1, A7, szR] at *; omega))) ?_
    refine A1 rfl (R6 rfl (A0 rfl) B5) ?_
    refine A5 rfl ?_
    refine C4 rfl (fun hc => B7 rfl (A0 rfl)) ?_
    refine C4 rfl (fun hc => N6 rfl (A6 rfl hc) B5) ?_
    refine A1 rfl (G8 rfl (A0 rfl) (F1 rfl)) ?_
    refine A4 ?_
    refine C3 (A0 rfl) ?_ ?_
    ·intro h96
     refine A2 ?_
     refine A5 rfl ?_
     refine A5 rfl ?_
     refine A1 rfl (O6 (places := #[(0, 1), (1, 1), (2, 1), (3, 1), (4, 1), (5, 1), (6, 1)]) rfl C0 Tryz.zeroValue104 (fun w => by kernel_rfl) rfl (F4 B5 (P2 _ _) (F4 (A0 rfl) (P2 _ _) J5)) rfl) ?_
     refine AU9 (W7 [] 99 rfl rfl (AD5 (H9 L0 (H9 L0 (H9 L0 (H9 L0 (H9 (j3 (sz := 1)) (H9 (j3 (sz := 3)) (H9 L0 V8)))))))) T0) ?_
     refine A1 rfl (M0 rfl N4 N5 Tryz.zeroValue104 rfl rfl rfl rfl (F4 (A0 rfl) (F9 _) J5) rfl rfl) ?_
     refine M6 (by' := 88) 1 rfl rfl rfl rfl N4 Tryz.type104 rfl rfl rfl rfl rfl rfl (A0 rfl) (A0 rfl) rfl (by simp only [J4, A9, A7, J7, L9]; omega) ?_
     intro v101_3
     refine B4 rfl ?_
     refine A4 (A2 ?_)
     refine A5 rfl ?_
     refine A1 rfl (F6 rfl (A0 rfl) B5 (by first | omega | (simp only [D1, A7, szR] at *; omega))) ?_
     refine B4 rfl ?_
     refine A4 (A2 ?_)
     refine A5 rfl ?_
     refine A1 rfl (F6 rfl (A0 rfl) B5 (by first | omega | (simp only [D1, A7, szR] at *; omega))) ?_
     refine B4 rfl ?_
     refine A4 ?_
     refine M2 i w (i + 1) (v101_3) ?_ ?_ (Le.trans (K1 [0, 0] rfl) (Q3 (by (simp only [vRecs, vStep, h68, h96, if_true, if_false, Bool.false_eq_true, List.map_append, List.append_assoc, List.map_cons, List.map_nil, List.append_nil, f9, List.nil_append]; rfl)) ⟨rfl, rfl, rfl, rfl, rfl, rfl, rfl, rfl, rfl, rfl, rfl, trivial⟩))
     ·exact (by omega)
     omega
    intro h96
    refine C8 (A2 ?_)
    refine A5 rfl ?_
    refine A1 rfl (F6 rfl (A0 rfl) B5 (by first | omega | (simp only [D1, A7, szR] at *; omega))) ?_
    refine B4 rfl ?_
    refine A4 (A2 ?_)
    refine A5 rfl ?_
    refine A1 rfl (F6 rfl (A0 rfl) B5 (by first | omega | (simp only [D1, A7, szR] at *; omega))) ?_
    refine B4 rfl ?_
    refine A4 ?_
    refine M2 i w (i + 1) (v83_2) ?_ ?_ (Le.trans (K1 [0, 0] rfl) (Q3 (by (simp only [vRecs, vStep, h68, h96, if_true, if_false, Bool.false_eq_true, List.map_append, List.append_assoc, List.map_cons, List.map_nil, List.append_nil, f9, List.nil_append]; rfl)) ⟨rfl, rfl, rfl, rfl, rfl, rfl, rfl, rfl, rfl, rfl, rfl, trivial⟩))
    ·exact (by omega)
    omega
   intro h68
   refine C8 (A3 (A3 (A2 ?_)))
   refine A5 rfl ?_
   refine A5 rfl ?_
   refine A1 rfl (w8 rfl B5 (A0 rfl) (by first | omega | (simp only [D1, A7, szR] at *; omega))) ?_
   refine A5 rfl ?_
   refine A1 rfl (F6 rfl (A0 rfl) (A0 rfl) (by first | omega | (simp only [D1, A7, szR] at *; omega))) ?_
   refine A1 rfl (F6 rfl (A0 rfl) B5 (by first | omega | (simp only [D1, A7, szR] at *; omega))) ?_
   refine A1 rfl (D7 rfl Tryz.call66 rfl (o5 code hcode hc _ (5 * i + g + 2) (by omega) (by omega)) (A8 (A0 rfl) (A8 (A0 rfl) C6))) ?_
   refine A1 rfl (AE8 rfl (A0 rfl) B5 (by first | omega | (simp only [D1, A7, szR] at *; omega))) ?_
   refine A1 rfl (R6 rfl (A0 rfl) B5) ?_
   refine A5 rfl ?_
   refine C4 rfl (fun hc => B7 rfl (A0 rfl)) ?_
   refine C4 rfl (fun hc => N6 rfl (A6 rfl hc) B5) ?_
   refine A1 rfl (G8 rfl (A0 rfl) (F1 rfl)) ?_
   refine A4 ?_
   refine C3 (A0 rfl) ?_ ?_
   ·intro h96
    refine A2 ?_
    refine A5 rfl ?_
    refine A5 rfl ?_
    refine A1 rfl (O6 (places := #[(0, 1), (1, 1), (2, 1), (3, 1), (4, 1), (5, 1), (6, 1)]) rfl C0 Tryz.zeroValue104 (fun w => by kernel_rfl) rfl (F4 B5 (P2 _ _) (F4 (A0 rfl) (P2 _ _) J5)) rfl) ?_
    refine AU9 (W7 [] 99 rfl rfl (AD5 (H9 L0 (H9 L0 (H9 L0 (H9 L0 (H9 (j3 (sz := 1)) (H9 (j3 (sz := 3)) (H9 L0 V8)))))))) T0) ?_
    refine A1 rfl (M0 rfl N4 N5 Tryz.zeroValue104 rfl rfl rfl rfl (F4 (A0 rfl) (F9 _) J5) rfl rfl) ?_
    refine M6 (by' := 88) 1 rfl rfl rfl rfl N4 Tryz.type104 rfl rfl rfl rfl rfl rfl (A0 rfl) (A0 rfl) rfl (by simp only [J4, A9, A7, J7, L9]; omega) ?_
    intro v101_4
    refine B4 rfl ?_
    refine A4 (A2 ?_)
    refine A5 rfl ?_
    refine A1 rfl (F6 rfl (A0 rfl) B5 (by first | omega | (simp only [D1, A7, szR] at *; omega))) ?_
    refine B4 rfl ?_
    refine A4 (A2 ?_)
    refine A5 rfl ?_
    refine A1 rfl (F6 rfl (A0 rfl) B5 (by first | omega | (simp only [D1, A7, szR] at *; omega))) ?_
    refine B4 rfl ?_
    refine A4 ?_
    refine M2 i w (i + 1) (v101_4) ?_ ?_ (Le.trans (K1 [0, 0] rfl) (Q3 (by (simp only [vRecs, vStep, h68, h96, if_true, if_false, Bool.false_eq_true, List.map_append, List.append_assoc, List.map_cons, List.map_nil, List.append_nil, f9, List.nil_append]; rfl)) ⟨rfl, rfl, rfl, rfl, rfl, rfl, rfl, rfl, rfl, rfl, rfl, trivial⟩))
    ·exact (by omega)
    omega
   intro h96
   refine C8 (A2 ?_)
   refine A5 rfl ?_
   refine A1 rfl (F6 rfl (A0 rfl) B5 (by first | omega | (simp only [D1, A7, szR] at *; omega))) ?_
   refine B4 rfl ?_
   refine A4 (A2 ?_)
   refine A5 rfl ?_
   refine A1 rfl (F6 rfl (A0 rfl) B5 (by first | omega | (simp only [D1, A7, szR] at *; omega))) ?_
   refine B4 rfl ?_
   refine A4 ?_
   refine M2 i w (i + 1) (v55_1) ?_ ?_ (Le.trans (K1 [0, 0] rfl) (Q3 (by (simp only [vRecs, vStep, h68, h96, if_true, if_false, Bool.false_eq_true, List.map_append, List.append_assoc, List.map_cons, List.map_nil, List.append_nil, f9, List.nil_append]; rfl)) ⟨rfl, rfl, rfl, rfl, rfl, rfl, rfl, rfl, rfl, rfl, rfl, trivial⟩))
   ·exact (by omega)
   omega
  intro h22
  have k22 := of_decide_eq_false h22; try simp only [A9] at k22
  have hge1 : i = n := by omega
  subst hge1
  have hro := o4 hcode (g := g) i (by omega)
  refine G0 ?_
  refine A3 (A2 ?_)
  refine A5 rfl ?_
  refine AU9 (W7 [1] 105 rfl rfl (Q4 (G6 (i := 0) rfl) L7) T0) ?_
  refine A1 rfl (D7 rfl Tryz.call67 rfl (Aa6 (vRecs code g i) (by omega) (fun r hr => Nat.le_trans (hro.1 r hr).2 (by decide))) (A8 (A0 rfl) C6)) ?_
  refine A5 rfl ?_
  refine A1 rfl (I1 rfl (A0 rfl) rfl) ?_
  refine A1 rfl (I1 rfl (A0 rfl) rfl) ?_
  refine A1 rfl (I1 rfl (A0 rfl) rfl) ?_
  refine H3 rfl rfl rfl rfl Tryz.zeroValue43 rfl ?_
  intro b11
  refine E9 0 rfl rfl rfl (A0 rfl) (A0 rfl) (F9 _) rfl E1 rfl ?_
  refine B4 rfl ?_
  refine B4 rfl ?_
  refine A4 (A2 ?_)
  refine A5 rfl ?_
  refine A1 rfl (I5 0 rfl (A0 rfl) rfl G7 E1 rfl) ?_
  refine A1 rfl (M0 rfl M1 E1 Tryz.zeroValue43 rfl rfl rfl rfl (F4 (A0 rfl) (F9 _) J5) rfl rfl) ?_
  refine M6 (by' := 80) 1 rfl rfl rfl rfl M1 Tryz.type43 rfl rfl rfl rfl rfl rfl (A0 rfl) (A0 rfl) rfl (by first | omega | (simp only [D1, A7, szR] at *; omega)) ?_
  intro v113_5
  refine B4 rfl ?_
  refine A4 (A2 ?_)
  refine A5 rfl ?_
  refine A1 rfl (F6 rfl (A0 rfl) B5 (by first | omega | (simp only [D1, A7, szR] at *; omega))) ?_
  refine B4 rfl ?_
  refine A4 ?_
  refine M2 g v (g + 1) (v113_5) ?_ ?_ (Le.trans (K1 [0, 0] rfl) (M3 1 (by (rw [Ap9 hsg, List.map_append]; rfl)) ⟨rfl, rfl, rfl, rfl, rfl, trivial⟩))
  ·exact (by omega)
  omega
 intro h16
 have k16 := of_decide_eq_false h16; try simp only [A9] at k16
 have hge : g = 2 := by omega
 subst hge
 refine G0 ?_
 refine A3 (A2 ?_)
 refine A5 rfl ?_
 refine B4 rfl ?_
 refine A4 ?_
 refine C2 ?_
 exact T1 [0] v (trivial) rfl (by rfl) (c5 rfl (B8 rfl (by rfl)))
theorem AN5 (code : List Int) (n : Int) (k : Nat) (hk : n = (k : Int)) (hcode : ByteL code) (hc : code.length ≤ 65536) (hn : k ≤ 8) : FSpec Tryz.prog 29 [bytesI code, AV.int n] (AV.list 4 ((vSts code k).map TState.cs)) := by
  subst hk
  exact P3 (At3 code k hcode hc hn) fun x _ => Q4 (G6 (i := 0) rfl) L7
end Go.Proofs.YtkegepoihkhihaaGreat

set_option maxHeartbeats 1000000
namespace Go.Proofs.YtkegepoihkhihaaGreat
open Go Go.AV Go.M
attribute [local irreducible] OpW OpA OpS AWP FSpec ESpec GSpec OpE RetOk RetOkG RvDen Le Ev GuardIs SrcIs Int.tmod Int.tdiv IntKind.wrap bandI
end Go.Proofs.YtkegepoihkhihaaGreat

namespace Go.Proofs.YtkegepoihkhihaaGreat
open Go Go.AV Go.M
attribute [local irreducible] OpW OpA OpS AWP FSpec ESpec GSpec OpE RetOk RetOkG RvDen Le Ev GuardIs SrcIs Int.tmod Int.tdiv IntKind.wrap bandI
theorem BE8 (code : List Int) : FSpec Tryz.prog 28 [bytesI code] (AV.bool (decide (65536 < (code.length : Int)))) := by
 refine D8 Tryz.func28 rfl Tryz.ntmps28 rfl ?_
 refine Q6 (t := 0) rfl fun hl0 => ?_
 try simp only [A9] at hl0
 refine A3 (A2 ?_)
 refine A1 rfl (B3 rfl F0) ?_
 refine A4 (A3 (A2 ?_))
 refine A5 rfl ?_
 refine A1 rfl (G5 rfl U6 (A0 rfl)) ?_
 refine A1 rfl (N6 rfl (A0 rfl) B5) ?_
 refine B4 rfl ?_
 refine A4 ?_
 refine C2 ?_
 exact G1 rfl (B8 rfl (by (refine congrArg AV.bool ?_; simp only [A9])))
theorem AR5 (a b : List TFeedItem) : FSpec Tryz.prog 30 [AV.list 5 (a.map TFeedItem.cs), AV.list 5 (b.map TFeedItem.cs)] (AV.bool (decide (a = b))) := by
 refine D8 Tryz.func30 rfl Tryz.ntmps30 rfl ?_
 refine Q6 (t := 0) rfl fun hl => ?_
 try simp only [A9] at hl
 refine Q6 (t := 1) rfl fun hl2 => ?_
 try simp only [A9] at hl2
 refine A3 (A2 ?_)
 refine A1 rfl (B3 rfl F0) ?_
 refine A4 (A3 (A3 (A2 ?_)))
 refine A5 rfl ?_
 refine A1 rfl (G5 rfl E7 (A0 rfl)) ?_
 refine A5 rfl ?_
 refine A1 rfl (G5 rfl E7 (A0 rfl)) ?_
 refine A1 rfl (t8 rfl (A0 rfl) (A0 rfl)) ?_
 refine A4 ?_
 refine C3 (A0 rfl) ?_ ?_
 ·intro h10
  have k10 := p7 h10; try simp only [A9] at k10
  have hne : decide (a = b) = false := decide_eq_false fun e => by (subst e; omega)
  rw [hne]
  refine A3 (A2 ?_)
  refine A1 rfl (B3 rfl F0) ?_
  refine A4 ?_
  refine C2 ?_
  exact G1 rfl (B8 rfl (by rfl))
 intro h10
 have k10 := X1 h10; try simp only [A9] at k10
 refine C8 (A3 (A3 (A2 ?_)))
 refine A1 rfl (B3 rfl B5) ?_
 refine A4 (D0 ?_)
 refine H4 [(0, _), (1, _)] _ (fun (i : Nat) => i ≤ a.length ∧ a.take i = b.take i) (fun (i : Nat) => []) (fun (i : Nat) => [(5, AV.int i)]) (fun (i : Nat) => a.length - i) (0) ?_ (H8 ⟨rfl, rfl, rfl, trivial⟩) ?_
 ·exact ⟨Nat.zero_le _, rfl⟩
 intro i hinv
 refine A3 (A3 (A2 ?_))
 refine A5 rfl ?_
 refine A5 rfl ?_
 refine A1 rfl (G5 rfl E7 (A0 rfl)) ?_
 refine A1 rfl (I4 rfl (A0 rfl) (A0 rfl)) ?_
 refine A4 ?_
 refine C3 (A0 rfl) ?_ ?_
 ·intro h14
  have k14 := of_decide_eq_true h14; try simp only [A9] at k14
  have hlt : i < a.length := by omega
  obtain ⟨x, hx⟩ := get_some hlt
  obtain ⟨y, hy⟩ := get_some (show i < b.length by omega)
  refine C8 (A3 (D0 (A3 ?_)))
  refine I3 (by kernel_rfl) (by kernel_rfl) rfl ?_
  refine B1 rfl rfl (B7 rfl (A0 rfl)) ?_
  refine B1 rfl rfl (B7 rfl (A0 rfl)) ?_
  refine B1 rfl rfl (H5 rfl E7 G3 (A0 rfl) (A0 rfl) hx (by first | omega | (simp only [D1, A7, szR] at *; omega))) ?_
  refine B1 rfl rfl (J0 rfl (A0 rfl) P6 G3) ?_
  refine B1 rfl rfl (B7 rfl (A0 rfl)) ?_
  refine B1 rfl rfl (B7 rfl (A0 rfl)) ?_
  refine B1 rfl rfl (H5 rfl E7 G3 (A0 rfl) (A0 rfl) hy (by first | omega | (simp only [D1, A7, szR] at *; omega))) ?_
  refine B1 rfl rfl (J0 rfl (A0 rfl) P6 G3) ?_
  refine B1 rfl rfl (w_aneq rfl H1 (by kernel_rfl) (by kernel_rfl) (A0 rfl) (A0 rfl) (W6 (by kernel_rfl) C1 rfl rfl (AD4 Q7) (W6 (by kernel_rfl) C1 rfl rfl (AD4 Q7) (W6 (by kernel_rfl) F5 rfl rfl (AO0 K9) (W6 (by kernel_rfl) F5 rfl rfl (AO0 K9) (W6 (by kernel_rfl) K7 rfl rfl (Aj7 V5) AY7)))))) ?_
  refine P0 ?_
  refine C3 (A0 rfl) ?_ ?_
  ·intro h25
   have hne : decide (a = b) = false := decide_eq_false fun e => by (subst e; rw [hx] at hy; injection hy with hy; rw [o0] at h25; simp [hy] at h25)
   rw [hne]
   refine A3 (A2 ?_)
   refine A1 rfl (B3 rfl F0) ?_
   refine A4 ?_
   refine C2 ?_
   exact G1 rfl (B8 rfl (by rfl))
  intro h25
  refine C8 (A2 ?_)
  refine A5 rfl ?_
  refine A1 rfl (F6 rfl (A0 rfl) B5 (by first | omega | (simp only [D1, A7, szR] at *; omega))) ?_
  refine B4 rfl ?_
  refine A4 ?_
  refine J3 i (i + 1) ?_ ?_ (H8 ⟨rfl, rfl, rfl, trivial⟩)
  ·exact ⟨by omega, by rw [List.take_add_one, List.take_add_one, hinv.2, hx, hy]; congr 2; rw [o0] at h25; simpa using h25⟩
  omega
 intro h14
 have k14 := of_decide_eq_false h14; try simp only [A9] at k14
 have hyes : decide (a = b) = true := decide_eq_true (by have h9 := hinv.2; rw [List.take_of_length_le (by omega), List.take_of_length_le (by omega)] at h9; exact h9)
 rw [hyes]
 refine G0 ?_
 refine A3 (A2 ?_)
 refine A1 rfl (B3 rfl F0) ?_
 refine A4 ?_
 refine C2 ?_
 exact G1 rfl (B8 rfl (by rfl))
end Go.Proofs.YtkegepoihkhihaaGreat

namespace Go.Proofs.YtkegepoihkhihaaGreat
open Go Go.AV Go.M
open Go.ChangeShapes Go.WideShapes Go.ChangeAt Go.RowKit
section
attribute [local irreducible] OpW OpA OpS AWP FSpec ESpec GSpec OpE RetOk RetOkG RvDen Le Ev GuardIs SrcIs Int.tmod
theorem Ab3 (d : Int) (l : List TState) (hs : ∀ s ∈ l, s.size ≤ 1048576) : FSpec Tryz.prog 25 [AV.agg [AV.int d], AV.list 4 (l.map TState.cs)] (AV.tup [AV.agg [AV.int (nextR d l).1], AV.list 5 ((nextR d l).2.1.map TFeedItem.cs), AV.bool (nextR d l).2.2]) :=
  P3 (Ap5 d l hs) fun v _ => AV0 (H9 L0 (H9 (Q4 (List.mem_singleton.2 rfl) L7) (H9 L0 V8)))
theorem At4 (code : List Int) (hc : ∀ x ∈ code, (Lit.int .u8 x).wf = true) : FSpec Tryz.prog 6 [bytesI code] (AV.bool true) := by
 refine D8 Tryz.func6 rfl Tryz.ntmps6 rfl ?_
 refine A3 (A2 ?_)
 refine A1 rfl (B3 rfl F0) ?_
 refine A4 (A3 (A3 (A2 ?_)))
 refine A5 rfl ?_
 refine A1 rfl (D7 rfl Tryz.call28 rfl (BE8 _) (A8 (A0 rfl) C6)) ?_
 refine A4 ?_
 refine C3 (A0 rfl) ?_ ?_
 ·intro h22
  refine A3 (A2 ?_)
  refine A1 rfl (B3 rfl F0) ?_
  refine A4 ?_
  refine C2 ?_
  exact G1 rfl (B8 rfl (by first | rfl | exact congrArg AV.bool (by rw [AP8, f1]; simp)))
 intro h22
 have hb0 : ByteL code := byteL_of hc
 have hl0 : code.length ≤ 65536 := (by have h9 := of_decide_eq_false h22; omega)
 refine C8 (A3 (A2 ?_))
 refine A1 rfl (O6 (places := #[(0, 1)]) rfl K8 Tryz.zeroValue52 (fun w => by kernel_rfl) rfl J5 rfl) ?_
 refine H3 rfl rfl rfl rfl Tryz.zeroValue52 rfl ?_
 intro b3
 refine E9 0 rfl rfl rfl (A0 rfl) (A0 rfl) (F9 _) rfl M5 rfl ?_
 refine A4 (A3 (A2 ?_))
 refine O8 rfl rfl rfl rfl E7 G3 ?_
 intro v24
 refine B4 rfl ?_
 refine A4 (A3 (A2 ?_))
 refine A5 rfl ?_
 refine A1 rfl (D7 rfl Tryz.call29 rfl (AN5 code _ 8 rfl hb0 hl0 (by decide)) (A8 (A0 rfl) (A8 B5 C6))) ?_
 refine B4 rfl ?_
 refine A4 (A3 (A3 (A2 ?_)))
 refine A1 rfl (B3 rfl B5) ?_
 refine A4 (D0 ?_)
 refine AWP.le (K1 [1, 0] rfl) ?_
 refine AP5 [(0, _), (3, _), (5, _)] _ (fun (n : Nat) (d : Int) (A : List TFeedItem) (v : Value) => 1 ≤ n ∧ n ≤ 9 ∧ FInv code n d A) (fun (n : Nat) (d : Int) (A : List TFeedItem) (v : Value) => [.box b3 52 [AV.int d], .arr v 63 5 (A.map TFeedItem.cs)]) (fun (n : Nat) (d : Int) (A : List TFeedItem) (v : Value) => [(4, AV.is v), (6, AV.int n)]) (fun (n : Nat) (d : Int) (A : List TFeedItem) (v : Value) => 9 - n) (1) (0) ([]) (v24) ?_ (Q3 (by rfl) ⟨rfl, rfl, rfl, rfl, rfl, trivial⟩) ?_
 ·exact ⟨by decide, by decide, BE5 hb0⟩
 intro n d A v hinv
 refine A3 (A3 (A2 ?_))
 refine A5 rfl ?_
 refine A1 rfl (S1 rfl (A0 rfl) B5) ?_
 refine A4 ?_
 refine C3 (A0 rfl) ?_ ?_
 ·intro h28
  have k28 := of_decide_eq_true h28; try simp only [A9] at k28
  have hn8 : n ≤ 8 := (by omega)
  obtain ⟨s1, s2, s3, s4, s5, s6, s7⟩ := BE6 hb0 ⟨hinv.1, hn8⟩ hinv.2.2
  have hsm : ∀ s ∈ vSts code n, s.size ≤ 1048576 := fun s hs => Nat.le_trans ((AN4 hb0 hn8).2 s hs) (by decide)
  have hA4 := (Af8 hb0 hinv.2.2).2.1
  refine C8 (A3 (D0 (A3 (A2 ?_))))
  refine A5 rfl ?_
  refine A5 rfl ?_
  refine A1 rfl (D7 rfl Tryz.call29 rfl (AN5 code _ n rfl hb0 hl0 hn8) (A8 (A0 rfl) (A8 (A0 rfl) C6))) ?_
  refine B4 rfl ?_
  refine A4 (A3 (A2 ?_))
  refine A1 rfl (I5 0 rfl (A0 rfl) rfl T2 M5 rfl) ?_
  refine A5 rfl ?_
  refine A1 rfl (D7 rfl Tryz.call25 rfl (Ab3 d (vSts code n) hsm) (A8 (A0 rfl) (A8 (A0 rfl) C6))) ?_
  refine A5 rfl ?_
  refine A1 rfl (I1 rfl (A0 rfl) rfl) ?_
  refine A1 rfl (I1 rfl (A0 rfl) rfl) ?_
  refine A1 rfl (I1 rfl (A0 rfl) rfl) ?_
  refine H3 rfl rfl rfl rfl Tryz.zeroValue52 rfl ?_
  intro b8
  refine E9 0 rfl rfl rfl (A0 rfl) (A0 rfl) (F9 _) rfl M5 rfl ?_
  refine B4 rfl ?_
  refine B4 rfl ?_
  refine A4 (A3 (A3 (A2 ?_)))
  refine A1 rfl (I5 1 rfl (A0 rfl) rfl T2 M5 rfl) ?_
  refine A5 rfl ?_
  refine A1 rfl (D7 rfl Tryz.call23 rfl (Ab2 d (vSts code n) hsm) (A8 (A0 rfl) (A8 (A0 rfl) C6))) ?_
  refine A5 rfl ?_
  refine A1 rfl (I1 rfl (A0 rfl) rfl) ?_
  refine A1 rfl (I1 rfl (A0 rfl) rfl) ?_
  refine A1 rfl (I1 rfl (A0 rfl) rfl) ?_
  refine H3 rfl rfl rfl rfl Tryz.zeroValue52 rfl ?_
  intro b11
  refine E9 0 rfl rfl rfl (A0 rfl) (A0 rfl) (F9 _) rfl M5 rfl ?_
  refine B4 rfl ?_
  refine B4 rfl ?_
  refine A4 (A3 (A2 ?_))
  refine A5 rfl ?_
  refine A5 rfl ?_
  refine A1 rfl (w_bneq rfl V5 (A0 rfl) (A0 rfl)) ?_
  refine A5 rfl ?_
  refine H2 rfl (fun hc => I5 1 rfl (A0 rfl) rfl T2 M5 rfl) ?_
  refine H2 rfl (fun hc => I5 0 rfl (A0 rfl) rfl T2 M5 rfl) ?_
  refine H2 rfl (fun hc => w_aneq rfl K8 (by kernel_rfl) (by kernel_rfl) (A6 rfl hc) (A6 rfl hc) (W6 (by kernel_rfl) C1 rfl rfl (AD4 Q7) AY7)) ?_
  refine A1 rfl (P9 rfl (A0 rfl) (F1 rfl)) ?_
  refine A5 rfl ?_
  refine H2 rfl (fun hc => B7 rfl (A0 rfl)) ?_
  refine H2 rfl (fun hc => B7 rfl (A0 rfl)) ?_
  refine H2 rfl (fun hc => D7 rfl Tryz.call30 rfl (AR5 _ _) (A8 (A6 rfl hc) (A8 (A6 rfl hc) C6))) ?_
  refine H2 rfl (fun hc => K3 rfl (A6 rfl hc)) ?_
  refine A1 rfl (P9 rfl (A0 rfl) (F1 rfl)) ?_
  refine A4 ?_
  refine C3 (A0 rfl) ?_ ?_
  ·intro h61
   exfalso; simp at h61
  intro h61
  refine C8 (A3 (A2 ?_))
  refine A5 rfl ?_
  refine A1 rfl (D7 rfl Tryz.call12 rfl (Ap0 (vSts code n) hsm) (A8 (A0 rfl) C6)) ?_
  refine A5 rfl ?_
  refine A1 rfl (I1 rfl (A0 rfl) rfl) ?_
  refine A1 rfl (I1 rfl (A0 rfl) rfl) ?_
  refine B4 rfl ?_
  refine B4 rfl ?_
  refine A4 (A3 (A3 (A2 ?_)))
  refine A5 rfl ?_
  refine A1 rfl (K3 rfl (A0 rfl)) ?_
  refine A5 rfl ?_
  refine H2 rfl (fun hc => B7 rfl (A0 rfl)) ?_
  refine H2 rfl (fun hc => K3 rfl (A6 rfl hc)) ?_
  refine A1 rfl (P9 rfl (A0 rfl) (F1 rfl)) ?_
  refine A5 rfl ?_
  refine H2 rfl (fun hc => B2 0 rfl K8 rfl B9 (A0 rfl) rfl) ?_
  refine H2 rfl (fun hc => B0 1 rfl (A6 rfl hc) rfl C1 rfl) ?_
  refine H2 rfl (fun hc => B2 0 rfl K8 rfl B9 (A0 rfl) rfl) ?_
  refine H2 rfl (fun hc => B0 2 rfl (A6 rfl hc) rfl C1 rfl) ?_
  refine H2 rfl (fun hc => I4 rfl (A6 rfl hc) (A6 rfl hc)) ?_
  refine A1 rfl (P9 rfl (A0 rfl) (F1 rfl)) ?_
  refine A5 rfl ?_
  refine H2 rfl (fun hc => B2 0 rfl K8 rfl B9 (A0 rfl) rfl) ?_
  refine H2 rfl (fun hc => B0 1 rfl (A6 rfl hc) rfl C1 rfl) ?_
  refine H2 rfl (fun hc => B7 rfl (A0 rfl)) ?_
  refine H2 rfl (fun hc => I4 rfl (A6 rfl hc) (A6 rfl hc)) ?_
  refine A1 rfl (P9 rfl (A0 rfl) (F1 rfl)) ?_
  refine A4 ?_
  refine C3 (A0 rfl) ?_ ?_
  ·intro h85
   exfalso; rw [s1, s2] at h85; simp at h85; omega
  intro h85
  refine C8 (A3 (A3 (A2 ?_)))
  refine A1 rfl (B3 rfl B5) ?_
  refine A4 (D0 ?_)
  refine H4 [(0, _), (3, _), (4, _), (5, _), (6, _), (7, _), (8, _), (9, _), (10, _), (11, _), (12, _), (13, _), (14, _), (15, _), (27, _), (28, _), (31, _), (32, _), (33, _), (34, _), (35, _), (36, _), (37, _), (38, _), (39, _), (40, _), (41, _), (42, _), (43, _), (44, _), (45, _), (46, _), (47, _), (48, _), (49, _), (50, _), (51, _), (55, _), (56, _), (61, _), (62, _), (63, _), (64, _), (65, _), (66, _), (67, _), (68, _), (69, _), (72, _), (73, _), (79, _), (80, _), (85, _)] _ (fun (i : Nat) => i ≤ (nextR d (vSts code n)).2.1.length) (fun (i : Nat) => []) (fun (i : Nat) => [(16, AV.int i)]) (fun (i : Nat) => (nextR d (vSts code n)).2.1.length - i) (0) ?_ (H8 ⟨rfl, rfl, rfl, rfl, rfl, rfl, rfl, rfl, rfl, rfl, rfl, rfl, rfl, rfl, rfl, rfl, rfl, rfl, rfl, rfl, rfl, rfl, rfl, rfl, rfl, rfl, rfl, rfl, rfl, rfl, rfl, rfl, rfl, rfl, rfl, rfl, rfl, rfl, rfl, rfl, rfl, rfl, rfl, rfl, rfl, rfl, rfl, rfl, rfl, rfl, rfl, rfl, rfl, rfl, trivial⟩) ?_
  ·exact Nat.zero_le _
  intro i hinv
  refine A3 (A3 (A2 ?_))
  refine A5 rfl ?_
  refine A5 rfl ?_
  refine A1 rfl (G5 rfl E7 (A0 rfl)) ?_
  refine A1 rfl (I4 rfl (A0 rfl) (A0 rfl)) ?_
  refine A4 ?_
  refine C3 (A0 rfl) ?_ ?_
  ·intro h89
   have k89 := of_decide_eq_true h89; try simp only [A9] at k89
   have hlt : i < (nextR d (vSts code n)).2.1.length := (by simpa using h89)
   obtain ⟨y, hx⟩ := get_some hlt
   have hy := s5 y (G6 hx)
   refine C8 (A3 (D0 (A3 ?_)))
   refine I3 (by kernel_rfl) (by kernel_rfl) rfl ?_
   refine B1 rfl rfl (B7 rfl (A0 rfl)) ?_
   refine B1 rfl rfl (B7 rfl (A0 rfl)) ?_
   refine B1 rfl rfl (H5 rfl E7 G3 (A0 rfl) (A0 rfl) hx (by first | omega | (simp only [D1, A7, szR] at *; omega))) ?_
   refine B1 rfl rfl (R7 rfl H1 rfl B9 (A0 rfl) rfl) ?_
   refine B1 rfl rfl (L3 rfl (A0 rfl) C1 rfl) ?_
   refine B1 rfl rfl (B2 0 rfl K8 rfl B9 (A0 rfl) rfl) ?_
   refine B1 rfl rfl (B0 2 rfl (A0 rfl) rfl C1 rfl) ?_
   refine B1 rfl rfl (S1 rfl (A0 rfl) (A0 rfl)) ?_
   refine B1 rfl rfl (B7 rfl (A0 rfl)) ?_
   refine C5 rfl (G2 rfl rfl rfl) (fun hc => B7 rfl (A0 rfl)) ?_
   refine C5 rfl (G2 rfl rfl rfl) (fun hc => B7 rfl (A0 rfl)) ?_
   refine C5 rfl (G2 rfl rfl rfl) (fun hc => H5 rfl E7 G3 (A6 rfl hc) (A6 rfl hc) hx (by first | omega | ((try simp only [D1, A7, szR] at *); omega) | (have hc2 := hc; simp only [M7, beq_iff_eq, bne_iff_ne, A9, E6] at hc2; omega))) ?_
   refine C5 rfl (G2 rfl rfl rfl) (fun hc => R7 rfl H1 rfl B9 (A6 rfl hc) rfl) ?_
   refine C5 rfl (G2 rfl rfl rfl) (fun hc => L3 rfl (A6 rfl hc) C1 rfl) ?_
   refine C5 rfl (G2 rfl rfl rfl) (fun hc => B2 0 rfl K8 rfl B9 (A0 rfl) rfl) ?_
   refine C5 rfl (G2 rfl rfl rfl) (fun hc => B0 1 rfl (A6 rfl hc) rfl C1 rfl) ?_
   refine C5 rfl (G2 rfl rfl rfl) (fun hc => N6 rfl (A6 rfl hc) (A6 rfl hc)) ?_
   refine B1 rfl rfl (P9 rfl (A0 rfl) (F1 rfl)) ?_
   refine P0 ?_
   refine C3 (A0 rfl) ?_ ?_
   ·intro h109
    exfalso; simp at h109; omega
   intro h109
   refine C8 (A2 ?_)
   refine A5 rfl ?_
   refine A1 rfl (F6 rfl (A0 rfl) B5 (by first | omega | (simp only [D1, A7, szR] at *; omega))) ?_
   refine B4 rfl ?_
   refine A4 ?_
   refine J3 i (i + 1) ?_ ?_ (H8 ⟨rfl, rfl, rfl, rfl, rfl, rfl, rfl, rfl, rfl, rfl, rfl, rfl, rfl, rfl, rfl, rfl, rfl, rfl, rfl, rfl, rfl, rfl, rfl, rfl, rfl, rfl, rfl, rfl, rfl, rfl, rfl, rfl, rfl, rfl, rfl, rfl, rfl, rfl, rfl, rfl, rfl, rfl, rfl, rfl, rfl, rfl, rfl, rfl, rfl, rfl, rfl, rfl, rfl, rfl, trivial⟩)
   ·exact (by omega)
   omega
  intro h89
  have k89 := of_decide_eq_false h89; try simp only [A9] at k89
  refine G0 ?_
  refine A3 (A2 ?_)
  refine A5 rfl ?_
  refine A5 rfl ?_
  refine M6 (by' := 56) 3 rfl rfl rfl rfl E7 Tryz.type63 rfl rfl rfl rfl rfl rfl (A0 rfl) (A0 rfl) rfl (by simp only [A9]; omega) ?_
  intro v112_1
  refine B4 rfl ?_
  refine A4 (A2 ?_)
  refine A1 rfl (I5 1 rfl (A0 rfl) rfl T2 M5 rfl) ?_
  refine E9 2 rfl rfl rfl (A0 rfl) (A0 rfl) (F9 _) rfl M5 rfl ?_
  refine A4 (A2 ?_)
  refine A5 rfl ?_
  refine A1 rfl (F6 rfl (A0 rfl) B5 (by first | omega | (simp only [D1, A7, szR] at *; omega))) ?_
  refine B4 rfl ?_
  refine A4 ?_
  refine j7 n d A v (n + 1) ((nextR d (vSts code n)).1) (A ++ (nextR d (vSts code n)).2.1) (v112_1) ?_ ?_ (Le.trans (K1 [0, 0, 0, 0] rfl) (M3 2 (by (rw [List.map_append]; rfl)) ⟨rfl, rfl, rfl, rfl, rfl, trivial⟩))
  ·exact ⟨by omega, by omega, s6⟩
  omega
 intro h28
 have k28 := of_decide_eq_false h28; try simp only [A9] at k28
 have hn9 : n = 9 := (by omega)
 subst hn9
 obtain ⟨f1, f2, f3, f4, f5⟩ := Af8 hb0 hinv.2.2
 have hw2 : wantF code d 2 = A := f4
 refine G0 ?_
 refine A3 (A2 ?_)
 refine A1 rfl (M0 rfl E7 G3 Tryz.zeroValue63 rfl rfl rfl rfl J5 rfl rfl) ?_
 refine B4 rfl ?_
 refine A4 (A3 (A3 (A2 ?_)))
 refine A1 rfl (B3 rfl B5) ?_
 refine A4 (D0 ?_)
 refine H4 [(3, _), (4, _), (5, _)] _ (fun (g : Nat) => g ≤ 2) (fun (g : Nat) => []) (fun (g : Nat) => [(17, AV.list 5 ((wantF code d g).map TFeedItem.cs)), (18, AV.int g)]) (fun (g : Nat) => 2 - g) (0) ?_ (H8 ⟨rfl, rfl, rfl, rfl, rfl, trivial⟩) ?_
 ·exact Nat.zero_le _
 intro g hinv
 refine A3 (A3 (A2 ?_))
 refine A5 rfl ?_
 refine A1 rfl (I4 rfl (A0 rfl) B5) ?_
 refine A4 ?_
 refine C3 (A0 rfl) ?_ ?_
 ·intro h116
  have k116 := of_decide_eq_true h116; try simp only [A9] at k116
  have hlt2 : g < 2 := (by omega)
  have hsg := Av7 code 8 hlt2
  have hss := (U5 hb0 (g := g) (Nat.le_refl 8)).2.1
  refine C8 (A3 (D0 (A3 ?_)))
  refine I3 (by kernel_rfl) (by kernel_rfl) rfl ?_
  refine B1 rfl rfl (B7 rfl (A0 rfl)) ?_
  refine B1 rfl rfl (B7 rfl (A0 rfl)) ?_
  refine B1 rfl rfl (H5 rfl M1 E1 (A0 rfl) (A0 rfl) hsg (by first | omega | (simp only [D1, A7, szR] at *; omega))) ?_
  refine B1 rfl rfl (J0 rfl (A0 rfl) G7 E1) ?_
  refine B1 rfl rfl (B7 rfl (A0 rfl)) ?_
  refine B1 rfl rfl (B2 0 rfl K8 rfl B9 (A0 rfl) rfl) ?_
  refine B1 rfl rfl (B0 0 rfl (A0 rfl) rfl C1 rfl) ?_
  refine B1 rfl rfl (D7 rfl Tryz.call15 rfl (Ai0 (vSt code g 8) (g : Int) 0 d (by omega)) (A8 (A0 rfl) (A8 (A0 rfl) (A8 B5 (A8 (A0 rfl) C6))))) ?_
  refine B1 rfl rfl (B7 rfl (A0 rfl)) ?_
  refine B1 rfl rfl (I1 rfl (A0 rfl) rfl) ?_
  refine B1 rfl rfl (I1 rfl (A0 rfl) rfl) ?_
  refine B1 rfl rfl (B3 rfl (A0 rfl)) ?_
  refine B1 rfl rfl (B3 rfl (A0 rfl)) ?_
  refine P0 ?_
  refine A2 ?_
  refine A5 rfl ?_
  refine A5 rfl ?_
  refine A1 rfl (D7 rfl Tryz.call31 rfl (AN3 _ _ (BA0 code d g) (At2 _ _ _ _)) (A8 (A0 rfl) (A8 (A0 rfl) C6))) ?_
  refine A5 rfl ?_
  refine A1 rfl (I1 rfl (A0 rfl) rfl) ?_
  refine A1 rfl (I1 rfl (A0 rfl) rfl) ?_
  refine B4 rfl ?_
  refine A4 (A2 ?_)
  refine A5 rfl ?_
  refine A1 rfl (F6 rfl (A0 rfl) B5 (by first | omega | (simp only [D1, A7, szR] at *; omega))) ?_
  refine B4 rfl ?_
  refine A4 ?_
  refine J3 g (g + 1) ?_ ?_ (H8 ⟨rfl, rfl, rfl, rfl, rfl, trivial⟩)
  ·exact (by omega)
  omega
 intro h116
 have k116 := of_decide_eq_false h116; try simp only [A9] at k116
 have hge2 : g = 2 := (by omega)
 subst hge2
 rw [hw2]
 refine G0 ?_
 refine A3 ?_
 refine AWP.le (W7 [1] 4 rfl rfl (Q4 (G6 (i := 0) rfl) L7) AL4) ?_
 refine A2 ?_
 refine A5 rfl ?_
 refine A1 rfl (D7 rfl Tryz.call32 rfl (Ag5 A (Nat.le_trans (s0 f1) (by decide))) (A8 (A0 rfl) C6)) ?_
 refine A5 rfl ?_
 refine C4 rfl (fun hc => B7 rfl (A0 rfl)) ?_
 refine C4 rfl (fun hc => B7 rfl (A0 rfl)) ?_
 refine C4 rfl (fun hc => D7 rfl Tryz.call30 rfl (AR5 _ _) (A8 (A6 rfl hc) (A8 (A6 rfl hc) C6))) ?_
 refine A1 rfl (G8 rfl (A0 rfl) (F1 rfl)) ?_
 refine B4 rfl ?_
 refine A4 ?_
 refine C2 ?_
 exact G1 rfl (B8 rfl (by first | rfl | exact congrArg AV.bool (by rw [AP8, f1]; simp)))
end
theorem At5 : Opens Tryz.prog 59 (List Int) (fun l => [bytesI l]) (fun l => ∀ x ∈ l, (Lit.int .u8 x).wf = true) := As4 (sz := 1) U6 (by kernel_rfl) (BD1 Tryz.underlying5) (fun _ => rfl)
set_option maxRecDepth 100000 in
theorem fnFeed_lifted (os : Os) (started : os.Started) (H : Type) (enc : TypeId × Value → H) :
    ReturnsInHanded {} Tryz.checked os 6 .any (Rows.fnFeedSpec.pre6 enc Tryz.prog Tryz.f6 Rows.fnFeedRow.domain false) (Rows.fnFeedSpec.post enc Tryz.prog Tryz.f6 false true false false) := by
  refine returnsInHanded_of_change (C := Tryz.checked) (by kernel_rfl) started (by kernel_rfl) Tryz.func6
    (ChangeSpec.witness6 (enc := enc) (C := Tryz.checked) false ⟨#[], #[.slice none 0 0], []⟩ 8 (by kernel_rfl) (by kernel_rfl) (by kernel_rfl) (by kernel_rfl)) ?_
  intro W base args ds gs before hval0 hW hcnd _
  have hval : ∀ (j : Nat) t v, Tryz.f6.params[j]? = some t → args[j]? = some v → Value.okWide Tryz.prog W .any base t v := hval0
  have hW2 := hW
  obtain ⟨p, q, hA0, hV, rfl, hfz, hnd⟩ := hW
  have hA : DataW.TrodAll enc Tryz.prog W 0 (fun _ => true) true Tryz.f6.params.toList args.toList ds p := hA0
  rw [Tryz.params6] at hA hval
  obtain ⟨v0, vs0, d0, ds0, p0, q0, hargs, rfl, rfl, h0, r0⟩ := trodAll_cons hA
  obtain ⟨rfl, rfl, rfl⟩ := trodAll_nil r0
  obtain rfl : args = #[v0] := by cases args; simp_all
  obtain ⟨rfl, rfl⟩ := trodVars_none hV
  have lt0 : ∀ x ∈ p0, x.block < W.heap.size := by obtain ⟨m, hm⟩ := h0; exact DataW.trod_lt m _ _ _ hm
  obtain ⟨a0, w0, g0⟩ := arg_one (At5) (by obtain ⟨y1, y2, y3, rfl⟩ := okWide_slice U6 (hval 0 59 v0 rfl rfl); rfl) h0
  have hcall := BD2 (At4 a0 w0) (DenV.cons g0 (DenV.nil _))
  clear hA0 hval0
  refine Calls.mono hcall fun e W2 ⟨he, bel⟩ => ?_
  subst he
  exact ⟨_, rfl, _, _, _, [], _, [], hW2, trodAll_mk1 (shut_bool V5 _), (trodAll_cons_mk (Below.trod (by kernel_rfl : laidOutB Tryz.prog = true) (by kernel_rfl) (of_decide_eq_true (by kernel_rfl)) h0 bel lt0) trodAll_mk0), rfl, bel.frame _, fun h => by cases h⟩
theorem BA1 {a b : Bool} (h : a = true) (k : b = true) : (a && b) = true := by rw [h, k]; rfl
set_option maxRecDepth 100000 in
theorem Aq0 : joinedFacts Tryz.pinned.checked.prog 6 Tryz.f6 Rows.fnFeedSpec Rows.fnFeedRow = true := by
  unfold joinedFacts
  iterate 18 (rw [Bool.and_assoc])
  refine BA1 ?_ ?_
  · as_aux_lemma => kernel_rfl
  · as_aux_lemma => kernel_rfl
theorem fnFeed_proved : Rows.FnFeedSaid :=
  OpenClaim.holds_of_wide 6 Tryz.f6 rfl rfl rfl rfl rfl rfl rfl ⟨rfl, rfl, rfl, rfl, rfl⟩ rfl rfl rfl rfl rfl (by kernel_rfl) Tryz.func6 Aq0
    (of_decide_eq_true (by kernel_rfl)) (by unfold Func.isWrapper; first | (rw [if_pos (by decide +kernel)]; kernel_rfl) | (rw [if_neg (by decide +kernel)]; exact ⟨rfl, rfl⟩))
    (fun os started H enc _ => fnFeed_lifted os started H enc)
end Go.Proofs.YtkegepoihkhihaaGreat
