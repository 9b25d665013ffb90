/- Texts of the claim, part 7. -/
import Derived.Test.YtoaoicnnimjbeaaGreatZShares6

set_option linter.unusedVariables false
set_option linter.unusedSimpArgs false
namespace Go.Proofs.YtoaoicnnimjbeaaGreat
open Go Go.Proofs Go.RowKit Go.Shelf Go.M
attribute [local go_sem] Oper.semAt_some
theorem Aw8 (zs : List TVer) (k : Nat) (hk : k ≤ zs.length) : (upto (backF zs) k).map Prod.snd = zs.reverse.take k := by
  apply List.ext_getElem
  · simp [upto]; omega
  · intro i h1 h2
    have : i < zs.length := by simp at h2; omega
    simp [upto, backF]
    rw [List.getElem?_eq_getElem (by omega)]; rfl
theorem val_none {c : TCell} {t : Int} (h : ∀ x ∈ upto (backF c.Vers) c.Vers.length, ¬ x.2.Time ≤ t) : cellVal c t = ([], false) := by
  have e := Aw8 c.Vers c.Vers.length (Nat.le_refl _)
  rw [← List.length_reverse, List.take_length] at e
  unfold cellVal
  rw [← e, List.length_reverse]
  have : ((upto (backF c.Vers) c.Vers.length).map Prod.snd).find? (fun v => decide (v.Time ≤ t)) = none := by
    rw [List.find?_eq_none]
    intro v hv
    obtain ⟨x, hx, rfl⟩ := List.mem_map.1 hv
    simpa using h x hx
  rw [this]
theorem val_some {c : TCell} {t : Int} {k : Nat} {pre : List (Int × TVer)} {x : Int × TVer} (hk : k ≤ c.Vers.length) (he : pre ++ [x] = upto (backF c.Vers) k) (h : ∀ y ∈ pre, ¬ y.2.Time ≤ t) (hx : x.2.Time ≤ t) : cellVal c t = (x.2.Val, !x.2.Gone) := by
  have e := Aw8 c.Vers k hk
  rw [← he, List.map_append] at e
  have e2 : c.Vers.reverse = (pre.map Prod.snd ++ [x.2]) ++ c.Vers.reverse.drop k := by
    have := List.take_append_drop k c.Vers.reverse
    rw [← e] at this; exact this.symm
  unfold cellVal
  have hn : (pre.map Prod.snd).find? (fun v => decide (v.Time ≤ t)) = none := by
    rw [List.find?_eq_none]
    intro v hv
    obtain ⟨y, hy, rfl⟩ := List.mem_map.1 hv
    simpa using h y hy
  rw [e2, List.append_assoc, List.find?_append, hn, Option.none_or, List.singleton_append, List.find?_cons]
  simp only [decide_eq_true hx]
def NoneAt (t : Int) (pre : List (Int × TVer)) : Prop := ∀ x ∈ pre, ¬ x.2.Time ≤ t
def OneAt (t : Int) (pre : List (Int × TVer)) (v : TVer) : Prop := ∃ pre0 i, pre = pre0 ++ [(i, v)] ∧ NoneAt t pre0 ∧ v.Time ≤ t
theorem BA8 {t : Int} {pre : List (Int × TVer)} {x : Int × TVer} (h : NoneAt t pre) (k : t < x.2.Time) : NoneAt t (pre ++ [x]) := fun y hy => by
  rcases List.mem_append.1 hy with e | e
  · exact h y e
  · simp at e; subst e; omega
set_option maxRecDepth 100000 in
set_option maxHeartbeats 4000000 in
theorem at_in (F : Fence) (n : Nat) (h1f : F.fn 85) (h2f : F.fn 123) (h3f : F.fn 161) (hro : F.round = none) (hn : 6 ≤ n) (c : TCell) (t : Int) (oa : Option Addr) (cap : Nat) (hreach : c.Vers.length * 32 ≤ 140737488351232) (w : World) (hI : VersIn w.heap.size w oa c.Vers) :
    CallsIn F n Tryz.prog 85 #[.agg #[.string ⟨c.Key.toArray⟩, .slice oa c.Vers.length cap], .int .i64 t] w fun e W' => e = .returned (.tuple #[.string ⟨(cellVal c t).1.toArray⟩, .bool (cellVal c t).2]) ∧ Below w.heap.size w W' := by
  have h1 : 1 ≤ n := by omega
  refine callsIn_of_wp_marks Tryz.func85 rfl h1f ?_ hro
  simp only [Tryz.ntmps85, List.size_toArray, I5, N4, Nat.reduceAdd, Nat.reduceSub, Array.replicate_succ, Array.replicate_zero, List.push_toArray, List.append_toArray, List.nil_append, S2]
  gi_wp2_with (gi_at_call 123; refine (back_in F (n - 1) h2f hro _ _ _ _).mono ?_; rintro e w' ⟨rfl, rfl⟩)
  have b3 := (((Boxed.new (w.alloc (.cells #[.string ⟨c.Key.toArray⟩, .slice oa c.Vers.length cap] 115)) 3 (.int .i64 t)).alloc (.cells #[.string { data := #[] }] 9)).alloc (.cells #[.bool false] 4)).alloc (.cells #[.slice oa c.Vers.length cap] 113)
  have b4 := ((Boxed.new ((w.alloc (.cells #[.string ⟨c.Key.toArray⟩, .slice oa c.Vers.length cap] 115)).alloc (.cells #[.int .i64 t] 3)) 9 (.string { data := #[] })).alloc (.cells #[.bool false] 4)).alloc (.cells #[.slice oa c.Vers.length cap] 113)
  have b5 := (Boxed.new (((w.alloc (.cells #[.string ⟨c.Key.toArray⟩, .slice oa c.Vers.length cap] 115)).alloc (.cells #[.int .i64 t] 3)).alloc (.cells #[.string { data := #[] }] 9)) 4 (.bool false)).alloc (.cells #[.slice oa c.Vers.length cap] 113)
  have bs := Boxed.new ((((w.alloc (.cells #[.string ⟨c.Key.toArray⟩, .slice oa c.Vers.length cap] 115)).alloc (.cells #[.int .i64 t] 3)).alloc (.cells #[.string { data := #[] }] 9)).alloc (.cells #[.bool false] 4)) 113 (.slice oa c.Vers.length cap)
  simp only [World.size_alloc] at b3 b4 b5 bs
  have hB0 : Below w.heap.size w (((((w.alloc (.cells #[.string ⟨c.Key.toArray⟩, .slice oa c.Vers.length cap] 115)).alloc (.cells #[.int .i64 t] 3)).alloc (.cells #[.string { data := #[] }] 9)).alloc (.cells #[.bool false] 4)).alloc (.cells #[.slice oa c.Vers.length cap] 113)) := (((((Below.refl _ w).alloc (Nat.le_refl _) _).alloc (by simp) _).alloc (by simp; omega) _).alloc (by simp; omega) _).alloc (by simp; omega) _
  have hsz : (((((w.alloc (.cells #[.string ⟨c.Key.toArray⟩, .slice oa c.Vers.length cap] 115)).alloc (.cells #[.int .i64 t] 3)).alloc (.cells #[.string { data := #[] }] 9)).alloc (.cells #[.bool false] 4)).alloc (.cells #[.slice oa c.Vers.length cap] 113)).heap.size = w.heap.size + 5 := by simp
  obtain ⟨W0, hW0⟩ : ∃ W0, ((((w.alloc (.cells #[.string ⟨c.Key.toArray⟩, .slice oa c.Vers.length cap] 115)).alloc (.cells #[.int .i64 t] 3)).alloc (.cells #[.string { data := #[] }] 9)).alloc (.cells #[.bool false] 4)).alloc (.cells #[.slice oa c.Vers.length cap] 113) = W0 := ⟨_, rfl⟩
  rw [hW0] at b3 b4 b5 bs hB0 hsz ⊢
  clear hW0
  have hI0 : VersIn W0.heap.size W0 oa c.Vers := by
    rcases hI with h | ⟨b, off, e, hb, hv⟩
    · exact .inl h
    · exact .inr ⟨b, off, e, by omega, hv.below hB0 hb⟩
  refine wpIn_rangeFunc_ownH hro h1 (gf := 161) (lb := #[.pointer (some ⟨w.heap.size + 1 + 1 + 1 + 1, 0, none⟩)]) rfl h3f (enters_of Tryz.func161 (by kernel_rfl) rfl)
    (BJ2 F (n - 1) h3f hro (by omega) (w.heap.size + 1 + 1 + 1 + 1) W0.heap.size oa cap c.Vers hreach W0 (by omega) (Nat.le_refl _) bs.cell hI0) belowK_t (belowK_b (Nat.le_refl _)) (Below.refl _ _) (fun _ => rfl)
    (fun pre W => (((NoneAt t pre ∧ Boxed W (w.heap.size + 1) 3 (.int .i64 t)) ∧ Boxed W (w.heap.size + 1 + 1) 9 (.string { data := #[] })) ∧ Boxed W (w.heap.size + 1 + 1 + 1) 4 (.bool false)) ∧ (Below w.heap.size w W ∧ Below W0.heap.size W0 W))
    (fun cd pre W => (∃ v, (((cd = .ret ∧ OneAt t pre v) ∧ Boxed W (w.heap.size + 1 + 1) 9 (.string ⟨v.Val.toArray⟩)) ∧ Boxed W (w.heap.size + 1 + 1 + 1) 4 (.bool (!v.Gone)))) ∧ Below w.heap.size w W)
    (OwnFrom.and (OwnFrom.and (OwnFrom.and (OwnFrom.and (ownFrom_pure _ _) (Own.from (boxed_own _ _ _) _)) (Own.from (boxed_own _ _ _) _)) (Own.from (boxed_own _ _ _) _)) (OwnFrom.and (ownFrom_below (Nat.le_refl _) (by omega)) (ownFrom_below (Nat.le_refl _) (Nat.le_refl _))))
    (fun cd => OwnFrom.and (fun s X Y row hs hg hr => by
      obtain ⟨v, ⟨e1, e2⟩, e3⟩ := hs
      exact ⟨v, ⟨e1, boxed_own _ _ (fun (_ : Unit) => Value.string ⟨v.Val.toArray⟩) () X Y row e2 hg (fun r e => (hr r e).2)⟩, boxed_own _ _ (fun (_ : Unit) => Value.bool (!v.Gone)) () X Y row e3 hg (fun r e => (hr r e).2)⟩) (ownFrom_below (Nat.le_refl _) (by omega)))
    ⟨⟨⟨⟨fun _ h => by simp at h, b3⟩, b4⟩, b5⟩, hB0, Below.refl _ _⟩
    (fun x a' W => ∃ Bx, w.heap.size + 1 + 1 + 1 < Bx ∧ (W.cell? ⟨Bx, 0, none⟩ = some (.int .i64 x.2.Time) ∧ W.cell? ⟨Bx, 1, none⟩ = some (.string ⟨x.2.Val.toArray⟩) ∧ W.cell? ⟨Bx, 2, none⟩ = some (.bool x.2.Gone)) ∧ a' = { tmps := #[.agg #[.string ⟨c.Key.toArray⟩, .slice oa c.Vers.length cap], .int .i64 t, .pointer (some ⟨w.heap.size, 0, none⟩), .pointer (some ⟨w.heap.size + 1, 0, none⟩), .pointer (some ⟨w.heap.size + 1 + 1, 0, none⟩), .pointer (some ⟨w.heap.size + 1 + 1 + 1, 0, none⟩), undef, .pointer (some ⟨Bx, 0, none⟩), .pointer (some ⟨w.heap.size, 1, none⟩), .slice oa c.Vers.length cap, .func (.func 161) #[] #[.pointer (some ⟨w.heap.size + 1 + 1 + 1 + 1, 0, none⟩)], .int .i64 x.1, verV x.2, undef, undef, undef, undef, undef, undef, undef, undef, undef], defers := [] })
    (fun x a' _ X Y row hs hg hr => by
      obtain ⟨Bx, e1, ⟨e2, e3, e4⟩, e5⟩ := hs
      exact ⟨Bx, e1, ⟨cell_kept e2 hg (fun r e => (hr r e).2), cell_kept e3 hg (fun r e => (hr r e).2), cell_kept e4 hg (fun r e => (hr r e).2)⟩, e5⟩)
    ?assign ?body ?done ?stop
  case assign =>
    rintro l pre x W K ⟨⟨⟨⟨hp, bt⟩, bv⟩, bg⟩, hB1, hB2⟩ hK
    dsimp only [verV]
    have hW0 := hB2.size
    gi_wp2
    refine hK _ _ ((KeepsOthers.alloc _ _).from _) ((Below.refl _ W).alloc (by omega) _) ⟨⟨⟨⟨hp, bt.alloc _⟩, bv.alloc _⟩, bg.alloc _⟩, hB1.alloc hB1.size _, hB2.alloc hB2.size _⟩ ⟨W.heap.size, bg.lt, ⟨?_, ?_, ?_⟩, rfl⟩
    · unfold World.cell?; rw [World.alloc_heap_new]; rfl
    · unfold World.cell?; rw [World.alloc_heap_new]; rfl
    · unfold World.cell?; rw [World.alloc_heap_new]; rfl
  case body =>
    rintro l pre x a' W hl ⟨r, hr⟩ ⟨⟨⟨⟨hp, bt⟩, bv⟩, bg⟩, hB1, hB2⟩ ⟨Bx, hBx, ⟨c1, c2, c3⟩, rfl⟩ hlt
    have ct := bt.cell
    have cv := bv.cell
    have fv := bv.frozen
    have cg := bg.cell
    have fg := bg.frozen
    dsimp only [verV]
    gi_wp2
    · have hxy : x.2.Time ≤ t := by assumption
      have bv2 := (bv.set (.string ⟨x.2.Val.toArray⟩)).other (show w.heap.size + 1 + 1 ≠ w.heap.size + 1 + 1 + 1 by omega) (.bool (!x.2.Gone))
      have bg2 := (bg.other (show w.heap.size + 1 + 1 + 1 ≠ w.heap.size + 1 + 1 by omega) (.string ⟨x.2.Val.toArray⟩)).set (.bool (!x.2.Gone))
      have hB3 := (hB1.setCell (p := ⟨w.heap.size + 1 + 1, 0, none⟩) (by simp; omega) (.string ⟨x.2.Val.toArray⟩)).setCell (p := ⟨w.heap.size + 1 + 1 + 1, 0, none⟩) (by simp; omega) (.bool (!x.2.Gone))
      have hone : OneAt t (pre ++ [x]) x.2 := ⟨pre, x.1, rfl, hp, hxy⟩
      gi_region
      all_goals gi_wp2
      all_goals exact ⟨((KeepsOthers.setCell _ _ _).trans ((KeepsOthers.setCell _ _ _).trans (KeepsOthers.drew _))).from _, ⟨x.2, ⟨⟨rfl, hone⟩, bv2⟩, bg2⟩, hB3.drew⟩
    · rename_i hxy
      exact ⟨KeepsFrom.refl _ _, Below.refl _ _, ⟨⟨⟨BA8 hp hxy, bt⟩, bv⟩, bg⟩, hB1, hB2⟩
  case done =>
    rintro D zs W hD rfl ⟨⟨⟨⟨hp, bt⟩, bv⟩, bg⟩, hB1, hB2⟩ hK
    have cv := bv.cell
    have fv := bv.frozen
    have cg := bg.cell
    have fg := bg.frozen
    gi_wp2
    have hK1 := (KeepsOthers.setCell W ⟨w.heap.size + 1 + 1, 0, none⟩ (.string { data := #[] })).same D _ hK rfl
    have hK' := (KeepsOthers.setCell _ ⟨w.heap.size + 1 + 1 + 1, 0, none⟩ (.bool false)).same D _ hK1 rfl
    refine ⟨by simp, .inl ⟨_, _, rfl, run_takeDeferred hK', ?_⟩⟩
    have bv2 := (bv.set (.string { data := #[] })).other (show w.heap.size + 1 + 1 ≠ w.heap.size + 1 + 1 + 1 by omega) (.bool false)
    have bg2 := (bg.other (show w.heap.size + 1 + 1 + 1 ≠ w.heap.size + 1 + 1 by omega) (.string { data := #[] })).set (.bool false)
    have hc4 := cell_kept bv2.cell (grownBy_putObj' _ D (.deferred none)) (fun r e => by cases e; exact ⟨_, hK', rfl⟩)
    have hc5 := cell_kept bg2.cell (grownBy_putObj' _ D (.deferred none)) (fun r e => by cases e; exact ⟨_, hK', rfl⟩)
    refine ⟨.tuple #[.string { data := #[] }, .bool false], ?_, by rw [val_none hp], ((hB1.setCell (p := ⟨w.heap.size + 1 + 1, 0, none⟩) (by simp; omega) _).setCell (p := ⟨w.heap.size + 1 + 1 + 1, 0, none⟩) (by simp; omega) _).trans (belowK_b (w := w) (Nat.le_refl _) _ D _ _ (by omega) hK' rfl rfl)⟩
    simp [results, Tryz.f85, go_sem, hc4, hc5]
  case stop =>
    rintro D cd pre W hD ⟨k, hk, hpre⟩ ⟨⟨v, ⟨⟨rfl, hone⟩, bv⟩, bg⟩, hB1⟩ hK
    gi_wp2
    refine ⟨by simp, .inl ⟨_, _, rfl, run_takeDeferred hK, ?_⟩⟩
    have hc4 := cell_kept bv.cell (grownBy_putObj' _ D (.deferred none)) (fun r e => by cases e; exact ⟨_, hK, rfl⟩)
    have hc5 := cell_kept bg.cell (grownBy_putObj' _ D (.deferred none)) (fun r e => by cases e; exact ⟨_, hK, rfl⟩)
    obtain ⟨pre0, i, he, hn0, hvt⟩ := hone
    have hval := val_some (x := (i, v)) hk (he.symm.trans hpre) hn0 hvt
    refine ⟨.tuple #[.string ⟨v.Val.toArray⟩, .bool (!v.Gone)], ?_, by rw [hval], hB1.trans (belowK_b (w := w) (Nat.le_refl _) W D _ _ (by omega) hK rfl rfl)⟩
    simp [results, Tryz.f85, go_sem, hc4, hc5]
open Go.AV in
open Go.AV in
theorem at_spec (c : TCell) (t : Int) (hs : c.Vers.length ≤ 4194304) : FSpec Tryz.prog 85 [AV.agg c.cs, AV.int t] (AV.tup [AV.str (cellVal c t).1, AV.bool (cellVal c t).2]) := fspec_mk fun R w vs hr hd => by
  obtain ⟨v0, v1, rfl⟩ : ∃ a b, vs = [a, b] := by
    match vs, hd.1 with
    | [a, b], _ => exact ⟨a, b, rfl⟩
  obtain ⟨us, rfl, hdc⟩ := hd.2 0 v0 _ rfl rfl
  have d1 : v1 = .int .i64 t := hd.2 1 v1 _ rfl rfl
  subst d1
  obtain ⟨u0, u1, rfl⟩ : ∃ a b, us = [a, b] := by
    match us, hdc.1 with
    | [a, b], _ => exact ⟨a, b, rfl⟩
  have e0 : u0 = .string ⟨c.Key.toArray⟩ := (hdc.2 0 u0 _ rfl rfl).1
  subst e0
  obtain ⟨oa, cap, e1, h1, h2, h3, h4⟩ := (hdc.2 1 u1 _ rfl rfl).1
  subst e1
  have hI : VersIn w.heap.size w oa c.Vers := by
    by_cases hn : c.Vers = []
    · exact .inl hn
    · obtain ⟨a, rfl, hca⟩ := h4 (by simpa using hn)
      have hget : ∀ (j : Nat) (v : TVer) (i : Nat) (x : AV), c.Vers[j]? = some v → (TVer.cs v)[i]? = some x → ∃ u, rcell R (a.add (j * 3 + i)) = some u ∧ x.den R u ∧ u.oneCell' = true := fun j v i x hj hx =>
        hca _ x (Y6 h3 (by rw [List.getElem?_map, hj]; rfl) hx)
      obtain ⟨b, off, sp⟩ := a
      have hsp : sp = none := by
        obtain ⟨v, hv⟩ := get_some (show 0 < c.Vers.length from List.length_pos_iff.2 hn)
        obtain ⟨u, hu, _⟩ := hget 0 v 0 _ hv rfl
        unfold rcell at hu
        cases sp with
        | none => rfl
        | some s => simp [Addr.add] at hu; split at hu <;> cases hu
      subst hsp
      refine .inr ⟨b, off, rfl, ?_, fun j v hj => ?_⟩
      · obtain ⟨v, hv⟩ := get_some (show 0 < c.Vers.length from List.length_pos_iff.2 hn)
        obtain ⟨u, hu, _⟩ := hget 0 v 0 _ hv rfl
        unfold rcell at hu
        split at hu
        · rename_i hb
          exact (Array.getElem?_eq_some_iff.1 (hr _ _ hb)).1
        · cases hu
      · obtain ⟨x0, k0, k0', _⟩ := hget j v 0 _ hj rfl
        obtain ⟨x1, k1, k1', _⟩ := hget j v 1 _ hj rfl
        obtain ⟨x2, k2, k2', _⟩ := hget j v 2 _ hj rfl
        have k0'' : x0 = .int .i64 v.Time := k0'
        have k1'' : x1 = .string ⟨v.Val.toArray⟩ := k1'
        have k2'' : x2 = .bool v.Gone := k2'
        subst k0''; subst k1''; subst k2''
        rw [show ((⟨b, off, none⟩ : Addr).add (j * 3 + 0)) = ⟨b, off + j * 3, none⟩ by simp [Addr.add]] at k0
        rw [show ((⟨b, off, none⟩ : Addr).add (j * 3 + 1)) = ⟨b, off + j * 3 + 1, none⟩ by simp [Addr.add, Nat.add_assoc]] at k1
        rw [show ((⟨b, off, none⟩ : Addr).add (j * 3 + 2)) = ⟨b, off + j * 3 + 2, none⟩ by simp [Addr.add, Nat.add_assoc]] at k2
        exact ⟨n2 hr k0, n2 hr k1, n2 hr k2⟩
  refine (callsIn_wide (n := 8)).1 ?_
  have hl : (c.Vers.map TVer.cs).length = c.Vers.length := A8 _
  rw [show ([Value.agg [.string ⟨c.Key.toArray⟩, .slice oa (c.Vers.map TVer.cs).length cap].toArray, .int .i64 t] : List Value).toArray = #[.agg #[.string ⟨c.Key.toArray⟩, .slice oa c.Vers.length cap], .int .i64 t] from by rw [hl]]
  refine (at_in Fence.wide 8 trivial trivial trivial rfl (by omega) c t oa cap (by omega) w hI).mono ?_
  rintro e W' ⟨rfl, hB⟩
  refine ⟨_, R, rfl, ⟨[.string ⟨(cellVal c t).1.toArray⟩, .bool (cellVal c t).2], rfl, DenV.cons rfl (DenV.cons rfl (DenV.nil R))⟩, fun b o hb => ?_, fun _ _ => rfl, hB⟩
  have := hr b o hb
  rw [hB.block b (Array.getElem?_eq_some_iff.1 this).1]; exact this
end Go.Proofs.YtoaoicnnimjbeaaGreat

set_option maxRecDepth 100000
namespace Go.Proofs.YtoaoicnnimjbeaaGreat
open Go Go.AV Go.M
attribute [local irreducible] OpW OpA OpS AWP FSpec ESpec RetOk RvDen Le Ev GuardIs
theorem BJ3 (c : TCell) (t : Int) (hl : c.Vers.length ≤ 4194304) : FSpec Tryz.prog 82 [AV.agg c.cs, AV.int t] (AV.tup [AV.agg ((verAt c.Vers t).getD zV).cs, AV.bool (verAt c.Vers t).isSome]) := by
 refine E2 Tryz.func82 rfl Tryz.ntmps82 rfl ?_
 refine A3 (A2 ?_)
 refine N1 rfl rfl rfl rfl (A0 rfl) ?_
 intro b2
 refine F5 rfl rfl rfl rfl Tryz.zeroValue117 rfl ?_
 intro b4
 refine A1 rfl (B6 rfl E9) ?_
 refine A4 (A3 (A2 ?_))
 refine F5 rfl rfl rfl rfl Tryz.zeroValue117 rfl ?_
 intro b6
 refine A4 (A3 (A2 ?_))
 refine A1 rfl (B6 rfl E9) ?_
 refine A4 (A3 (A3 (A2 ?_)))
 refine A1 rfl (B1 1 rfl I1 rfl P9 (A0 rfl) rfl) ?_
 refine A1 rfl (B0 2 rfl (A0 rfl) rfl S3 rfl) ?_
 refine A1 rfl (F6 rfl L3 (A0 rfl)) ?_
 refine A1 rfl (B8 rfl B4) ?_
 refine A4 (C7 ?_)
 refine J0 [(1, _), (4, _), (5, _), (6, _), (11, _), (12, _)] _ (fun (i : Nat) => i ≤ c.Vers.length) (fun (i : Nat) => [.box b6 117 ((verAt (c.Vers.take i) t).getD zV).cs]) (fun (i : Nat) => [(7, AV.bool (verAt (c.Vers.take i) t).isSome), (13, AV.int i)]) (fun (i : Nat) => c.Vers.length - i) (0) ?_ (O8 (by rfl) ⟨rfl, rfl, rfl, rfl, rfl, rfl, rfl, rfl, trivial⟩) ?_
 ·exact Nat.zero_le _
 intro i hinv
 refine A3 (A2 ?_)
 refine A1 rfl (J8 rfl (A0 rfl) (A0 rfl)) ?_
 refine A4 (A3 ?_)
 refine B9 (A0 rfl) ?_ ?_
 ·intro h14
  have k14 := of_decide_eq_true h14; try simp only [A8] at k14
  have hlt : i < c.Vers.length := by omega
  obtain ⟨x, hx⟩ := get_some hlt
  have hvs := BG0 (t := t) hx
  refine C3 (A3 (C7 (A3 (A2 ?_))))
  refine A1 rfl (I2 rfl L3 N9 (A0 rfl) (A0 rfl) hx (by first | omega | (simp only [C8, A7, szR] at *; omega))) ?_
  refine A1 rfl (K6 rfl (A0 rfl) Y8 N9) ?_
  refine F5 rfl rfl rfl rfl Tryz.zeroValue117 rfl ?_
  intro b9
  refine D2 0 rfl rfl rfl (A0 rfl) (A0 rfl) (D6 _) rfl N9 rfl ?_
  refine A4 (A3 (A2 ?_))
  refine A1 rfl (B1 0 rfl Q9 rfl B5 (A0 rfl) rfl) ?_
  refine A1 rfl (B0 0 rfl (A0 rfl) rfl C6 rfl) ?_
  refine A5 rfl ?_
  refine A1 rfl (X2 rfl (A0 rfl) (A0 rfl)) ?_
  refine A4 ?_
  refine B9 (A0 rfl) ?_ ?_
  ·intro h20
   have k20 := of_decide_eq_true h20; try simp only [A8] at k20
   have hve : verAt (c.Vers.take (i + 1)) t = some x := by rw [hvs, if_pos k20]
   refine A3 (A2 ?_)
   refine A1 rfl (F1 0 rfl (A0 rfl) rfl Y8 N9 rfl) ?_
   refine D2 1 rfl rfl rfl (A0 rfl) (A0 rfl) (D6 _) rfl N9 rfl ?_
   refine A4 (A2 ?_)
   refine A1 rfl (B6 rfl E9) ?_
   refine A4 (A2 ?_)
   refine A1 rfl (G0 rfl (A0 rfl) B4 (by first | omega | (simp only [C8, A7, szR] at *; omega))) ?_
   refine A5 rfl ?_
   refine A4 ?_
   refine K4 i (i + 1) ?_ ?_ (K0 1 (by first | (rw [hve]; rfl) | (rw [hve])) ⟨congrArg (fun z : Bool => some (AV.bool z)) (by rw [hve]; try rfl), rfl, rfl, rfl, rfl, rfl, rfl, rfl, trivial⟩)
   ·omega
   omega
  intro h20
  have k20 := of_decide_eq_false h20; try simp only [A8] at k20
  have hve : verAt (c.Vers.take (i + 1)) t = verAt (c.Vers.take i) t := by rw [hvs, if_neg k20]
  refine C3 (A2 ?_)
  refine A1 rfl (G0 rfl (A0 rfl) B4 (by first | omega | (simp only [C8, A7, szR] at *; omega))) ?_
  refine A5 rfl ?_
  refine A4 ?_
  refine K4 i (i + 1) ?_ ?_ (K0 1 (by first | (rw [hve]; rfl) | (rw [hve])) ⟨congrArg (fun z : Bool => some (AV.bool z)) (by rw [hve]; try rfl), rfl, rfl, rfl, rfl, rfl, rfl, rfl, trivial⟩)
  ·omega
  omega
 intro h14
 have k14 := of_decide_eq_false h14; try simp only [A8] at k14
 have hge : c.Vers.length ≤ i := by omega
 rw [List.take_of_length_le hge]
 refine G1 ?_
 refine A3 (A2 ?_)
 refine A1 rfl (F1 0 rfl (A0 rfl) rfl Y8 N9 rfl) ?_
 refine A5 rfl ?_
 refine D2 1 rfl rfl rfl (A0 rfl) (A0 rfl) (D6 _) rfl N9 rfl ?_
 refine B3 rfl ?_
 refine A4 ?_
 refine C2 ?_
 exact X8 rfl (by decide) (E7 (J9 (ys := _) 1 rfl rfl Y8 N9 rfl) (E7 (C1 rfl (by first | rfl | exact congrArg AV.bool (by rw [List.take_of_length_le hge]))) M0))
theorem AV2 (l : List TCell) (t : Int) (hs : sizeL TCell.size l ≤ 4194304) : FSpec Tryz.prog 48 [AV.list 2 (l.map TCell.cs), AV.int t] (AV.list 3 ((cellsAt l t).map TWrite.cs)) := by
 have hl : l.length ≤ 4194304 := Nat.le_trans O4 hs
 refine E2 Tryz.func48 rfl Tryz.ntmps48 rfl ?_
 refine A3 (A2 ?_)
 refine A1 rfl (B6 rfl (a8 (sz := 3))) ?_
 refine A4 (A3 (A2 ?_))
 refine U6 rfl rfl rfl rfl D1 E5 ?_
 intro v10
 refine B3 rfl ?_
 refine A4 (A3 (A3 (A2 ?_)))
 refine A5 rfl ?_
 refine A1 rfl (F6 rfl F2 (A0 rfl)) ?_
 refine A1 rfl (B8 rfl B4) ?_
 refine A4 (C7 ?_)
 refine P3 [(1, _), (4, _), (11, _), (12, _)] _ (fun (i : Nat) (v : Value) => i ≤ l.length) (fun (i : Nat) (v : Value) => [.arr v 79 3 ((cellsAt (l.take i) t).map TWrite.cs)]) (fun (i : Nat) (v : Value) => [(5, AV.is v), (13, AV.int i)]) (fun (i : Nat) (v : Value) => l.length - i) (0) (v10) ?_ (O8 (by rfl) ⟨rfl, rfl, rfl, rfl, rfl, rfl, trivial⟩) ?_
 ·exact Nat.zero_le _
 intro i v hinv
 refine A3 (A2 ?_)
 refine A1 rfl (J8 rfl (A0 rfl) (A0 rfl)) ?_
 refine A4 (A3 ?_)
 refine B9 (A0 rfl) ?_ ?_
 ·intro h14
  have k14 := of_decide_eq_true h14; try simp only [A8] at k14
  have hlt : i < l.length := by omega
  obtain ⟨x, hx⟩ := get_some hlt
  have hcl := (j6 (Nat.le_trans (Y5 hx) hs)).2.1
  have hct := AS5 (t := t) hx
  have hcn := l9 (l.take i) t
  have htl : (l.take i).length = i := by rw [D9]; omega
  refine C3 (A3 (C7 (A3 (A2 ?_))))
  refine A1 rfl (I2 rfl F2 G5 (A0 rfl) (A0 rfl) hx (by first | omega | (simp only [C8, A7, szR] at *; omega))) ?_
  refine A1 rfl (K6 rfl (A0 rfl) U8 G5) ?_
  refine F5 rfl rfl rfl rfl Tryz.zeroValue115 rfl ?_
  intro b7
  refine D2 0 rfl rfl rfl (A0 rfl) (A0 rfl) (D6 _) rfl G5 rfl ?_
  refine A4 (A3 (A2 ?_))
  refine A1 rfl (F1 0 rfl (A0 rfl) rfl U8 G5 rfl) ?_
  refine A5 rfl ?_
  refine A1 rfl (D7 rfl Tryz.call85 rfl (at_spec _ _ (by omega)) (A6 (A0 rfl) (A6 (A0 rfl) C0))) ?_
  refine A5 rfl ?_
  refine A1 rfl (G6 rfl (A0 rfl) rfl) ?_
  refine A1 rfl (G6 rfl (A0 rfl) rfl) ?_
  refine B3 rfl ?_
  refine B3 rfl ?_
  refine A4 (A3 (A2 ?_))
  refine A5 rfl ?_
  refine A4 ?_
  refine B9 (A0 rfl) ?_ ?_
  ·intro h23
   have hout : (cellsAt (l.take i) t).map TWrite.cs ++ [TWrite.cs ⟨x.Key, (cellVal x t).1, false⟩] = (cellsAt (l.take (i + 1)) t).map TWrite.cs := by rw [hct, if_pos h23, List.map_append]; rfl
   refine A2 ?_
   refine A5 rfl ?_
   refine A1 rfl (B1 0 rfl I1 rfl E3 (A0 rfl) rfl) ?_
   refine A1 rfl (B0 0 rfl (A0 rfl) rfl G3 rfl) ?_
   refine A5 rfl ?_
   refine A1 rfl (N5 (places := #[(0, 1), (1, 1), (2, 1)]) rfl J3 Tryz.zeroValue79 (fun w => by kernel_rfl) rfl (D0 (A0 rfl) (L7 _) (D0 (A0 rfl) (L7 _) G9)) rfl) ?_
   refine A1 rfl (K9 rfl D1 E5 Tryz.zeroValue79 rfl rfl rfl rfl (D0 (A0 rfl) (D6 _) G9) rfl rfl) ?_
   refine L2 (by' := 40) 1 rfl rfl rfl rfl D1 Tryz.type79 rfl rfl rfl rfl rfl rfl (A0 rfl) (A0 rfl) rfl (by rw [A8, A7]; omega) ?_
   intro v30_1
   refine B3 rfl ?_
   refine A4 (A2 ?_)
   refine A1 rfl (G0 rfl (A0 rfl) B4 (by first | omega | (simp only [C8, A7, szR] at *; omega))) ?_
   refine A5 rfl ?_
   refine A4 ?_
   refine O2 i v (i + 1) (v30_1) ?_ ?_ (Le.trans (F8 [0, 0] rfl) (K0 1 (by first | exact congrArg (fun z => [Own.arr _ 79 3 z]) hout) ⟨rfl, rfl, rfl, rfl, rfl, rfl, trivial⟩))
   ·omega
   omega
  intro h23
  have hout : (cellsAt (l.take i) t).map TWrite.cs = (cellsAt (l.take (i + 1)) t).map TWrite.cs := by rw [hct, if_neg (by rw [h23]; decide), List.append_nil]
  refine C3 (A2 ?_)
  refine A1 rfl (G0 rfl (A0 rfl) B4 (by first | omega | (simp only [C8, A7, szR] at *; omega))) ?_
  refine A5 rfl ?_
  refine A4 ?_
  refine O2 i v (i + 1) (v) ?_ ?_ (Le.trans (F8 [0, 0] rfl) (K0 1 (by first | exact congrArg (fun z => [Own.arr _ 79 3 z]) hout) ⟨rfl, rfl, rfl, rfl, rfl, rfl, trivial⟩))
  ·omega
  omega
 intro h14
 have k14 := of_decide_eq_false h14; try simp only [A8] at k14
 have hge : l.length ≤ i := by omega
 rw [List.take_of_length_le hge]
 refine G1 ?_
 refine A3 (A2 ?_)
 refine A5 rfl ?_
 refine B3 rfl ?_
 refine A4 ?_
 refine C2 ?_
 refine AM6 0 4 rfl rfl ?_
 exact I3 rfl (C1 rfl (by rfl))
theorem BJ4 (l : List TCell) (t : Int) (hs : sizeL TCell.size l ≤ 4194304) : FSpec Tryz.prog 44 [AV.list 2 (l.map TCell.cs), AV.int t] (AV.list 3 ((cellsAt l t).map TWrite.cs)) := by
 have hl : l.length ≤ 4194304 := Nat.le_trans O4 hs
 refine E2 Tryz.func44 rfl Tryz.ntmps44 rfl ?_
 refine A3 (A2 ?_)
 refine A1 rfl (B6 rfl (a8 (sz := 3))) ?_
 refine A4 (A3 (A2 ?_))
 refine S0 79 3 rfl rfl rfl rfl L4 ?_
 intro v5
 refine A4 (A3 (A3 (A2 ?_)))
 refine A5 rfl ?_
 refine A1 rfl (F6 rfl F2 (A0 rfl)) ?_
 refine A1 rfl (B8 rfl B4) ?_
 refine A4 (C7 ?_)
 refine P3 [(1, _), (4, _), (10, _), (11, _)] _ (fun (i : Nat) (v : Value) => i ≤ l.length) (fun (i : Nat) (v : Value) => [.arr v 79 3 ((cellsAt (l.take i) t).map TWrite.cs)]) (fun (i : Nat) (v : Value) => [(5, AV.is v), (12, AV.int i)]) (fun (i : Nat) (v : Value) => l.length - i) (0) (v5) ?_ (O8 (by rfl) ⟨rfl, rfl, rfl, rfl, rfl, rfl, trivial⟩) ?_
 ·exact Nat.zero_le _
 intro i v hinv
 refine A3 (A2 ?_)
 refine A1 rfl (J8 rfl (A0 rfl) (A0 rfl)) ?_
 refine A4 (A3 ?_)
 refine B9 (A0 rfl) ?_ ?_
 ·intro h13
  have k13 := of_decide_eq_true h13; try simp only [A8] at k13
  have hlt : i < l.length := by omega
  obtain ⟨x, hx⟩ := get_some hlt
  have hcl := (j6 (Nat.le_trans (Y5 hx) hs)).2.1
  have hct := AS5 (t := t) hx
  have hcn := l9 (l.take i) t
  have htl : (l.take i).length = i := by rw [D9]; omega
  rw [Ao5] at hct
  refine C3 (A3 (C7 (A3 (A2 ?_))))
  refine A1 rfl (I2 rfl F2 G5 (A0 rfl) (A0 rfl) hx (by first | omega | (simp only [C8, A7, szR] at *; omega))) ?_
  refine A1 rfl (K6 rfl (A0 rfl) U8 G5) ?_
  refine F5 rfl rfl rfl rfl Tryz.zeroValue115 rfl ?_
  intro b7
  refine D2 0 rfl rfl rfl (A0 rfl) (A0 rfl) (D6 _) rfl G5 rfl ?_
  refine A4 (A3 (A2 ?_))
  refine A1 rfl (F1 0 rfl (A0 rfl) rfl U8 G5 rfl) ?_
  refine A5 rfl ?_
  refine A1 rfl (D7 rfl Tryz.call82 rfl (BJ3 _ _ (by first | assumption | omega)) (A6 (A0 rfl) (A6 (A0 rfl) C0))) ?_
  refine A5 rfl ?_
  refine A1 rfl (G6 rfl (A0 rfl) rfl) ?_
  refine A1 rfl (G6 rfl (A0 rfl) rfl) ?_
  refine F5 rfl rfl rfl rfl Tryz.zeroValue117 rfl ?_
  intro b8
  refine D2 0 rfl rfl rfl (A0 rfl) (A0 rfl) (D6 _) rfl N9 rfl ?_
  refine B3 rfl ?_
  refine A4 (A3 (A2 ?_))
  refine A5 rfl ?_
  refine A5 rfl ?_
  refine D3 rfl (fun hc => B1 2 rfl Q9 rfl N2 (A0 rfl) rfl) ?_
  refine D3 rfl (fun hc => B0 0 rfl (A9 rfl hc) rfl O5 rfl) ?_
  refine D3 rfl (fun hc => M2 rfl (A9 rfl hc)) ?_
  refine A1 rfl (J5 rfl (A0 rfl) (F7 rfl)) ?_
  refine A4 ?_
  refine B9 (A0 rfl) ?_ ?_
  ·intro h27
   have hout : (cellsAt (l.take i) t).map TWrite.cs ++ [TWrite.cs ⟨x.Key, ((verAt x.Vers t).getD zV).Val, false⟩] = (cellsAt (l.take (i + 1)) t).map TWrite.cs := by rw [hct, if_pos h27, List.map_append]; rfl
   refine A2 ?_
   refine A5 rfl ?_
   refine A1 rfl (B1 0 rfl I1 rfl E3 (A0 rfl) rfl) ?_
   refine A1 rfl (B0 1 rfl (A0 rfl) rfl G3 rfl) ?_
   refine A1 rfl (B1 1 rfl Q9 rfl E3 (A0 rfl) rfl) ?_
   refine A1 rfl (B0 0 rfl (A0 rfl) rfl G3 rfl) ?_
   refine A1 rfl (N5 (places := #[(0, 1), (1, 1), (2, 1)]) rfl J3 Tryz.zeroValue79 (fun w => by kernel_rfl) rfl (D0 (A0 rfl) (L7 _) (D0 (A0 rfl) (L7 _) G9)) rfl) ?_
   refine A1 rfl (K9 rfl D1 E5 Tryz.zeroValue79 rfl rfl rfl rfl (D0 (A0 rfl) (D6 _) G9) rfl rfl) ?_
   refine L2 (by' := 40) 2 rfl rfl rfl rfl D1 Tryz.type79 rfl rfl rfl rfl rfl rfl (A0 rfl) (A0 rfl) rfl (by rw [A8, A7]; omega) ?_
   intro v35_1
   refine B3 rfl ?_
   refine A4 (A2 ?_)
   refine A1 rfl (G0 rfl (A0 rfl) B4 (by first | omega | (simp only [C8, A7, szR] at *; omega))) ?_
   refine A5 rfl ?_
   refine A4 ?_
   refine O2 i v (i + 1) (v35_1) ?_ ?_ (Le.trans (F8 [0, 0, 0] rfl) (K0 2 (by exact congrArg (fun z => [Own.arr _ 79 3 z]) hout) ⟨rfl, rfl, rfl, rfl, rfl, rfl, trivial⟩))
   ·omega
   omega
  intro h27
  have hout : (cellsAt (l.take i) t).map TWrite.cs = (cellsAt (l.take (i + 1)) t).map TWrite.cs := by rw [hct, if_neg (by rw [h27]; simp), List.append_nil]
  refine C3 (A2 ?_)
  refine A1 rfl (G0 rfl (A0 rfl) B4 (by first | omega | (simp only [C8, A7, szR] at *; omega))) ?_
  refine A5 rfl ?_
  refine A4 ?_
  refine O2 i v (i + 1) (v) ?_ ?_ (Le.trans (F8 [0, 0, 0] rfl) (K0 2 (by exact congrArg (fun z => [Own.arr _ 79 3 z]) hout) ⟨rfl, rfl, rfl, rfl, rfl, rfl, trivial⟩))
  ·omega
  omega
 intro h13
 have k13 := of_decide_eq_false h13; try simp only [A8] at k13
 have hge : l.length ≤ i := by omega
 rw [List.take_of_length_le hge]
 refine G1 ?_
 refine A3 (A2 ?_)
 refine A5 rfl ?_
 refine B3 rfl ?_
 refine A4 ?_
 refine C2 ?_
 refine AM6 0 4 rfl rfl ?_
 exact I3 rfl (C1 rfl (by rfl))
theorem Aq3 (l : List TCell) (t : Int) (hs : sizeL TCell.size l ≤ 4194304) : FSpec Tryz.prog 19 [AV.list 2 (l.map TCell.cs), AV.int t] (AV.tup [AV.list 3 ((cellsAtR l t).1.map TWrite.cs), AV.bool (cellsAtR l t).2]) := by
 refine E2 Tryz.func19 rfl Tryz.ntmps19 rfl ?_
 refine A3 (A2 ?_)
 refine A1 rfl (B6 rfl (a8 (sz := 3))) ?_
 refine A1 rfl (B6 rfl E9) ?_
 refine A4 (A3 (A3 (A2 ?_)))
 refine A5 rfl ?_
 refine A1 rfl (D7 rfl Tryz.call47 rfl (AL0 _ (by first | assumption | omega)) (A6 (A0 rfl) C0)) ?_
 refine A1 rfl (M2 rfl (A0 rfl)) ?_
 refine A5 rfl ?_
 refine F3 rfl (fun hc => B8 rfl (A0 rfl)) ?_
 refine F3 rfl (fun hc => D7 rfl Tryz.call40 rfl (AI5 _) (A6 (A9 rfl hc) C0)) ?_
 refine F3 rfl (fun hc => M2 rfl (A9 rfl hc)) ?_
 refine A1 rfl (Q8 rfl (A0 rfl) (F7 rfl)) ?_
 refine A4 ?_
 refine B9 (A0 rfl) ?_ ?_
 ·intro h13
  have he : cellsAtR l t = ([], false) := by unfold cellsAtR; rw [if_pos h13]
  rw [he]
  refine A3 (A2 ?_)
  refine A1 rfl (B6 rfl (a8 (sz := 3))) ?_
  refine A1 rfl (B6 rfl E9) ?_
  refine A4 ?_
  refine C2 ?_
  exact X8 rfl (by decide) (E7 (C1 rfl (by rfl)) (E7 (C1 rfl (by rfl)) M0))
 intro h13
 have he : cellsAtR l t = (cellsAt l t, true) := by unfold cellsAtR; rw [if_neg (by rw [h13]; decide)]
 rw [he]
 refine C3 (A3 (A2 ?_))
 refine A5 rfl ?_
 refine A5 rfl ?_
 refine A1 rfl (D7 rfl Tryz.call48 rfl (AV2 _ _ (by first | assumption | omega)) (A6 (A0 rfl) (A6 (A0 rfl) C0))) ?_
 refine B3 rfl ?_
 refine A1 rfl (B6 rfl E9) ?_
 refine A4 ?_
 refine C2 ?_
 exact X8 rfl (by decide) (E7 (C1 rfl (by rfl)) (E7 (C1 rfl (by rfl)) M0))
theorem AF7 (a b : List TWrite) : FSpec Tryz.prog 18 [AV.list 3 (a.map TWrite.cs), AV.list 3 (b.map TWrite.cs)] (AV.bool (decide (a = b))) := by
 refine E2 Tryz.func18 rfl Tryz.ntmps18 rfl ?_
 refine U5 (t := 0) rfl fun hl => ?_
 try simp only [A8] at hl
 refine A3 (A2 ?_)
 refine A1 rfl (B6 rfl E9) ?_
 refine A4 (A3 (A3 (A2 ?_)))
 refine A5 rfl ?_
 refine A1 rfl (F6 rfl D1 (A0 rfl)) ?_
 refine A5 rfl ?_
 refine A1 rfl (F6 rfl D1 (A0 rfl)) ?_
 refine A1 rfl (Z7 rfl (A0 rfl) (A0 rfl)) ?_
 refine A4 ?_
 refine B9 (A0 rfl) ?_ ?_
 ·intro h10
  have k10 := l0 h10; try simp only [A8] at k10
  have hab : a ≠ b := by intro hc; subst hc; exact k10 rfl
  refine A3 (A2 ?_)
  refine A1 rfl (B6 rfl E9) ?_
  refine A4 ?_
  refine C2 ?_
  exact I3 rfl (C1 rfl (by exact congrArg AV.bool (by simp [hab])))
 intro h10
 have k10 := X7 h10; try simp only [A8] at k10
 have heq : a.length = b.length := by omega
 refine C3 (A3 (A3 (A2 ?_)))
 refine A5 rfl ?_
 refine A1 rfl (F6 rfl D1 (A0 rfl)) ?_
 refine A1 rfl (B8 rfl B4) ?_
 refine A4 (C7 ?_)
 refine J0 [(0, _), (1, _), (12, _)] _ (fun (i : Nat) => i ≤ a.length ∧ a.take i = b.take i) (fun (i : Nat) => []) (fun (i : Nat) => [(13, AV.int i)]) (fun (i : Nat) => a.length - i) (0) ?_ (K2 ⟨rfl, rfl, rfl, rfl, trivial⟩) ?_
 ·exact ⟨Nat.zero_le _, rfl⟩
 intro i hinv
 refine A3 (A2 ?_)
 refine A1 rfl (J8 rfl (A0 rfl) (A0 rfl)) ?_
 refine A4 (A3 ?_)
 refine B9 (A0 rfl) ?_ ?_
 ·intro h14
  have k14 := of_decide_eq_true h14; try simp only [A8] at k14
  have hlt : i < a.length := by omega
  obtain ⟨x, hx⟩ := get_some hlt
  obtain ⟨y, hy⟩ := get_some (show i < b.length by omega)
  refine C3 (A3 (C7 (A3 (A2 ?_))))
  refine A5 rfl ?_
  refine B3 rfl ?_
  refine A4 (A3 ?_)
  refine L1 (by kernel_rfl) (by kernel_rfl) rfl ?_
  refine B2 rfl rfl (B8 rfl (A0 rfl)) ?_
  refine B2 rfl rfl (B8 rfl (A0 rfl)) ?_
  refine B2 rfl rfl (I2 rfl D1 E5 (A0 rfl) (A0 rfl) hx (by first | omega | (simp only [C8, A7, szR] at *; omega))) ?_
  refine B2 rfl rfl (K6 rfl (A0 rfl) P8 E5) ?_
  refine B2 rfl rfl (B8 rfl (A0 rfl)) ?_
  refine B2 rfl rfl (B8 rfl (A0 rfl)) ?_
  refine B2 rfl rfl (I2 rfl D1 E5 (A0 rfl) (A0 rfl) hy (by first | omega | (simp only [C8, A7, szR] at *; omega))) ?_
  refine B2 rfl rfl (K6 rfl (A0 rfl) P8 E5) ?_
  refine B2 rfl rfl (Ad3 rfl J3 (by kernel_rfl) (by kernel_rfl) (A0 rfl) (A0 rfl) (g6 (by kernel_rfl) G3 rfl rfl (AJ6 Q3) (g6 (by kernel_rfl) G3 rfl rfl (AJ6 Q3) (g6 (by kernel_rfl) O5 rfl rfl (AM5 V8) AW2)))) ?_
  refine P7 ?_
  refine B9 (A0 rfl) ?_ ?_
  ·intro h24
   have hab : a ≠ b := by intro hc; subst hc; rw [hx] at hy; injection hy with hy; subst hy; simp at h24
   refine A3 (A2 ?_)
   refine A1 rfl (B6 rfl E9) ?_
   refine A4 ?_
   refine C2 ?_
   exact I3 rfl (C1 rfl (by exact congrArg AV.bool (by simp [hab])))
  intro h24
  refine C3 (A2 ?_)
  refine A1 rfl (G0 rfl (A0 rfl) B4 (by first | omega | (simp only [C8, A7, szR] at *; omega))) ?_
  refine A5 rfl ?_
  refine A4 ?_
  refine K4 i (i + 1) ?_ ?_ (K2 ⟨rfl, rfl, rfl, rfl, trivial⟩)
  ·exact ⟨by omega, Z9 hinv.2 hx (by rw [hy]; congr 1; first | (simp_all; done) | (cases x; cases y; simp_all))⟩
  omega
 intro h14
 have k14 := of_decide_eq_false h14; try simp only [A8] at k14
 have hge : a.length ≤ i := by omega
 have hab : a = b := i4 heq hinv.2 hge
 refine G1 ?_
 refine A3 (A2 ?_)
 refine A1 rfl (B6 rfl E9) ?_
 refine A4 ?_
 refine C2 ?_
 exact I3 rfl (C1 rfl (by exact congrArg AV.bool (by simp [hab])))
end Go.Proofs.YtoaoicnnimjbeaaGreat

set_option maxHeartbeats 2000000
namespace Go.M
open Go.AV
def insAll (l ws : List TWrite) : List TWrite := ws.foldl ins l
def rowsL (ss : List TState) (t : Int) : List TWrite := ss.foldl (fun a s => insAll a (cellsAt s.Cells t)) []
theorem AZ5 {l ws : List TWrite} {j : Nat} {w : TWrite} (h : ws[j]? = some w) : insAll l (ws.take (j + 1)) = ins (insAll l (ws.take j)) w := by
  unfold insAll; rw [List.take_add_one, h, List.foldl_append]; rfl
theorem Af9 {ss : List TState} {t : Int} {i : Nat} {s : TState} (h : ss[i]? = some s) : rowsL (ss.take (i + 1)) t = insAll (rowsL (ss.take i) t) (cellsAt s.Cells t) := by
  unfold rowsL; rw [List.take_add_one, h, List.foldl_append]; rfl
theorem AD8 : ∀ {ws l : List TWrite}, adj wLess l = true → adj wLess (insAll l ws) = true
  | [], _, h => h
  | w :: ws, l, h => AD8 (ws := ws) (l := ins l w) (BC9 h)
theorem w6 : ∀ {ws l : List TWrite}, (insAll l ws).length ≤ l.length + ws.length
  | [], _ => Nat.le_refl _
  | w :: ws, l => by
    have h1 := w6 (ws := ws) (l := ins l w)
    have h2 := (BD0 (w := w) (l := l)).2
    show (insAll (ins l w) ws).length ≤ _
    rw [I5]; omega
theorem An4 {t : Int} : ∀ {ss : List TState}, adj wLess (rowsL ss t) = true := by
  have key : ∀ (ss : List TState) (a : List TWrite), adj wLess a = true → adj wLess (ss.foldl (fun a s => insAll a (cellsAt s.Cells t)) a) = true := by
    intro ss
    induction ss with
    | nil => exact fun a h => h
    | cons s ss ih => exact fun a h => ih _ (AD8 h)
  exact fun {ss} => key ss [] rfl
theorem An5 {t : Int} {m : Nat} {ss : List TState} (h : ∀ s ∈ ss, s.Cells.length ≤ m) : (rowsL ss t).length ≤ ss.length * m := by
  have key : ∀ (ss : List TState) (a : List TWrite), (∀ s ∈ ss, s.Cells.length ≤ m) → (ss.foldl (fun a s => insAll a (cellsAt s.Cells t)) a).length ≤ a.length + ss.length * m := by
    intro ss
    induction ss with
    | nil => intro a _; simp
    | cons s ss ih =>
      intro a h
      have h1 := ih (insAll a (cellsAt s.Cells t)) fun x hx => h x (List.mem_cons_of_mem _ hx)
      have h2 := w6 (ws := cellsAt s.Cells t) (l := a)
      have h3 := l9 s.Cells t
      have h4 := h s List.mem_cons_self
      rw [List.foldl_cons, I5, Nat.succ_mul]; omega
  have := key ss [] h
  unfold rowsL; simpa using this
theorem m2 {s : TState} {m : Nat} (h : s.size ≤ m) : s.Cells.length ≤ m ∧ sizeL TCell.size s.Cells ≤ m := by
  have h0 : s.size = sizeL TCell.size s.Cells + sizeL THeld.size s.Held + s.Told.length := rfl
  have h1 := O4 (f := TCell.size) (l := s.Cells)
  omega
end Go.M
namespace Go.Proofs.YtoaoicnnimjbeaaGreat
open Go Go.AV Go.M
attribute [local irreducible] OpW OpA OpS AWP FSpec ESpec GSpec OpE RetOk RetOkG RvDen Le Ev GuardIs SrcIs SrcE Int.tmod IntKind.wrap bandI
theorem Aw9 (l : List TWrite) (w : TWrite) (hl : l.length ≤ 4194303) (ha : adj wLess l = true) : FSpec Tryz.prog 45 [AV.list 3 (l.map TWrite.cs), AV.agg w.cs] (AV.list 3 ((ins l w).map TWrite.cs)) := by
  rw [← BL2 ha]
  exact Q5 (BJ0 l w hl) fun v _ => M8 (List.mem_singleton.2 rfl) I7
def rowsR (ss : List TState) (t : Int) : List TWrite × Bool := if goodWrites (rowsL ss t) = true then (rowsL ss t, true) else ([], false)
theorem BJ5 (ss : List TState) (t : Int) (hl : ss.length ≤ 10) (hs : ∀ s ∈ ss, s.size ≤ 100000) (hz : sizeL TWrite.size (rowsL ss t) ≤ 1048576) : GSpec Tryz.prog 41 [AV.list 4 (ss.map TState.cs), AV.int t] [] (fun _ : Value => True) (fun v => [.arr v 79 3 ((rowsR ss t).1.map TWrite.cs)]) (fun v => AV.tup [AV.is v, AV.bool (rowsR ss t).2]) := by
 have hrl : ∀ i, (rowsL (ss.take i) t).length ≤ 1000000 := fun i => by
  have h1 := An5 (t := t) (m := 100000) (ss := ss.take i) fun s hm => (m2 (hs s (List.mem_of_mem_take hm))).1
  have h2 : (ss.take i).length ≤ 10 := by rw [D9]; omega
  have h3 : (ss.take i).length * 100000 ≤ 10 * 100000 := Nat.mul_le_mul_right _ h2
  omega
 refine H3 Tryz.func41 rfl Tryz.ntmps41 rfl ?_
 refine A3 (A2 ?_)
 refine A1 rfl (B6 rfl L4) ?_
 refine A1 rfl (B6 rfl E9) ?_
 refine A4 (A3 (A2 ?_))
 refine U6 rfl rfl rfl rfl D1 E5 ?_
 intro v11
 refine B3 rfl ?_
 refine A4 (A3 (A3 (A2 ?_)))
 refine A5 rfl ?_
 refine A1 rfl (F6 rfl J2 (A0 rfl)) ?_
 refine A1 rfl (B8 rfl B4) ?_
 refine A4 (C7 ?_)
 refine AWP.le (F8 [0] rfl) ?_
 refine P3 [(1, _), (4, _), (5, _), (12, _), (13, _)] _ (fun (i : Nat) (v : Value) => i ≤ ss.length) (fun (i : Nat) (v : Value) => [.arr v 79 3 ((rowsL (ss.take i) t).map TWrite.cs)]) (fun (i : Nat) (v : Value) => [(6, AV.is v), (14, AV.int i)]) (fun (i : Nat) (v : Value) => ss.length - i) (0) (v11) ?_ (O8 (by rfl) ⟨rfl, rfl, rfl, rfl, rfl, rfl, rfl, trivial⟩) ?_
 ·exact Nat.zero_le _
 intro i v hinv
 refine A3 (A2 ?_)
 refine A1 rfl (J8 rfl (A0 rfl) (A0 rfl)) ?_
 refine A4 (A3 ?_)
 refine B9 (A0 rfl) ?_ ?_
 ·intro h15
  have k15 := of_decide_eq_true h15; try simp only [A8] at k15
  have hlt : i < ss.length := by omega
  obtain ⟨x, hx⟩ := get_some hlt
  have hxs := m2 (hs x (F9 hx))
  have hri := hrl i
  have hcl := l9 x.Cells t
  refine C3 (A3 (C7 (A3 (A2 ?_))))
  refine A1 rfl (I2 rfl J2 C5 (A0 rfl) (A0 rfl) hx (by first | omega | (simp only [C8, A7, szR] at *; omega))) ?_
  refine A1 rfl (K6 rfl (A0 rfl) F0 C5) ?_
  refine F5 rfl rfl rfl rfl Tryz.zeroValue53 rfl ?_
  intro b8
  refine D2 0 rfl rfl rfl (A0 rfl) (A0 rfl) (D6 _) rfl C5 rfl ?_
  refine A4 (A3 (A2 ?_))
  refine A1 rfl (B1 1 rfl C4 rfl P6 (A0 rfl) rfl) ?_
  refine A1 rfl (B0 0 rfl (A0 rfl) rfl S1 rfl) ?_
  refine A5 rfl ?_
  refine A1 rfl (D7 rfl Tryz.call48 rfl (AV2 x.Cells t (by omega)) (A6 (A0 rfl) (A6 (A0 rfl) C0))) ?_
  refine A1 rfl (F6 rfl D1 (A0 rfl)) ?_
  refine A1 rfl (B8 rfl B4) ?_
  refine A4 (C7 ?_)
  refine AWP.le (F8 [1] rfl) ?_
  refine P3 [(1, _), (4, _), (5, _), (8, _), (12, _), (13, _), (14, _), (15, _), (16, _), (17, _), (18, _), (19, _), (20, _), (21, _), (22, _)] _ (fun (j : Nat) (u : Value) => j ≤ (cellsAt x.Cells t).length) (fun (j : Nat) (u : Value) => [.arr u 79 3 ((insAll (rowsL (ss.take i) t) ((cellsAt x.Cells t).take j)).map TWrite.cs)]) (fun (j : Nat) (u : Value) => [(6, AV.is u), (23, AV.int j)]) (fun (j : Nat) (u : Value) => (cellsAt x.Cells t).length - j) (0) (v) ?_ (O8 (by rfl) ⟨rfl, rfl, rfl, rfl, rfl, rfl, rfl, rfl, rfl, rfl, rfl, rfl, rfl, rfl, rfl, rfl, rfl, trivial⟩) ?_
  ·exact Nat.zero_le _
  intro j u hinv
  refine A3 (A2 ?_)
  refine A1 rfl (J8 rfl (A0 rfl) (A0 rfl)) ?_
  refine A4 (A3 ?_)
  refine B9 (A0 rfl) ?_ ?_
  ·intro h24
   have k24 := of_decide_eq_true h24; try simp only [A8] at k24
   have hltj : j < (cellsAt x.Cells t).length := by omega
   obtain ⟨y, hy⟩ := get_some hltj
   have hil := w6 (ws := (cellsAt x.Cells t).take j) (l := rowsL (ss.take i) t)
   rw [D9] at hil
   refine C3 (A3 (C7 (A3 (A2 ?_))))
   refine A1 rfl (I2 rfl D1 E5 (A0 rfl) (A0 rfl) hy (by first | omega | (simp only [C8, A7, szR] at *; omega))) ?_
   refine A1 rfl (K6 rfl (A0 rfl) P8 E5) ?_
   refine F5 rfl rfl rfl rfl Tryz.zeroValue79 rfl ?_
   intro b10
   refine D2 0 rfl rfl rfl (A0 rfl) (A0 rfl) (D6 _) rfl E5 rfl ?_
   refine A4 (A2 ?_)
   refine A5 rfl ?_
   refine A1 rfl (F1 0 rfl (A0 rfl) rfl P8 E5 rfl) ?_
   refine H9 [1] rfl rfl rfl rfl Tryz.call79 rfl (Aw1 u _ y (by omega)) (A6 (A0 rfl) (A6 (A0 rfl) C0)) rfl ?_
   intro x29 ok29
   refine B3 rfl ?_
   refine A4 (A2 ?_)
   refine A1 rfl (G0 rfl (A0 rfl) B4 (by first | omega | (simp only [C8, A7, szR] at *; omega))) ?_
   refine A5 rfl ?_
   refine A4 ?_
   refine O2 j u (j + 1) (x29) ?_ ?_ (Le.trans (F8 [1, 0] rfl) (K0 1 (by (rw [AZ5 hy, ← putW_ins (AD8 An4)]; rfl)) ⟨rfl, rfl, rfl, rfl, rfl, rfl, rfl, rfl, rfl, rfl, rfl, rfl, rfl, rfl, rfl, rfl, rfl, trivial⟩))
   ·exact (by omega)
   omega
  intro h24
  have k24 := of_decide_eq_false h24; try simp only [A8] at k24
  have hgej : (cellsAt x.Cells t).length ≤ j := by omega
  rw [List.take_of_length_le hgej]
  refine G1 ?_
  refine A2 ?_
  refine A1 rfl (G0 rfl (A0 rfl) B4 (by first | omega | (simp only [C8, A7, szR] at *; omega))) ?_
  refine A5 rfl ?_
  refine A4 ?_
  refine O2 i v (i + 1) (u) ?_ ?_ (Le.trans (F8 [1, 0] rfl) (K0 1 (by (rw [Af9 hx]; rfl)) ⟨rfl, rfl, rfl, rfl, rfl, rfl, rfl, trivial⟩))
  ·exact (by omega)
  omega
 intro h15
 have k15 := of_decide_eq_false h15; try simp only [A8] at k15
 have hge : ss.length ≤ i := by omega
 rw [List.take_of_length_le hge]
 refine G1 ?_
 refine A3 (A3 (A2 ?_))
 refine A5 rfl ?_
 refine A1 rfl (j8 rfl Tryz.call80 rfl (AG9 (rowsL ss t) (by omega)) (H2 _) (U9 (AW1 0 (A0 rfl) rfl) Z8)) ?_
 refine A1 rfl (M2 rfl (A0 rfl)) ?_
 refine A4 ?_
 refine B9 (A0 rfl) ?_ ?_
 ·intro h34
  have he : rowsR ss t = ([], false) := by (unfold rowsR; rw [if_neg (by simpa using h34)])
  rw [he]
  refine A3 (A2 ?_)
  refine A1 rfl (B6 rfl L4) ?_
  refine A1 rfl (B6 rfl E9) ?_
  refine A4 ?_
  refine C2 ?_
  refine Y4 79 3 ?_
  exact L5 [0] (Value.slice none 0 0) (trivial) rfl (by rfl) (V5 rfl (by decide) (E7 (C1 rfl (by rfl)) (E7 (C1 rfl (by rfl)) M0)))
 intro h34
 have he : rowsR ss t = (rowsL ss t, true) := by (unfold rowsR; rw [if_pos (by simpa using h34)])
 rw [he]
 refine C3 (A3 (A2 ?_))
 refine A5 rfl ?_
 refine B3 rfl ?_
 refine A1 rfl (B6 rfl E9) ?_
 refine A4 ?_
 refine C2 ?_
 exact L5 [0] v (trivial) rfl (by rfl) (V5 rfl (by decide) (E7 (C1 rfl (by rfl)) (E7 (C1 rfl (by rfl)) M0)))
end Go.Proofs.YtoaoicnnimjbeaaGreat

namespace Go.Proofs.YtoaoicnnimjbeaaGreat
open Go Go.AV Go.M
attribute [local irreducible] OpW OpA OpS AWP FSpec ESpec GSpec OpE RetOk RetOkG RvDen Le Ev GuardIs SrcIs SrcE Int.tmod IntKind.wrap bandI
def dealRowsR (d : TDeal) (t : Int) : List TWrite × Bool := if (goodDealR d && M.isTrue t) = true then rowsR d.States t else ([], false)
structure DealB (d : TDeal) : Prop where
  cuts : ∀ k ∈ d.Cuts, k.length ≤ 4611686018427387904
  clen : d.Cuts.length ≤ 1000000
  slen : d.States.length ≤ 10
  olen : d.Orders.length ≤ 1000000
  states : ∀ s ∈ d.States, s.size ≤ 100000
  orders : ∀ o ∈ d.Orders, o.size ≤ 300000
theorem AC4 (d : TDeal) (b : DealB d) : FSpec Tryz.prog 24 [AV.agg d.cs] (AV.bool (goodDealR d)) :=
  Aq2 d b.cuts ⟨b.clen, by have := b.slen; omega, b.olen⟩ (fun s h => Nat.le_trans (b.states s h) (by decide)) (fun o h => Nat.le_trans (b.orders o h) (by decide))
theorem Ai8 (d : TDeal) (b : DealB d) : FSpec Tryz.prog 42 [AV.agg d.cs] (AV.bool (goodDealR d)) :=
  Aw5 d b.cuts ⟨b.clen, by have := b.slen; omega⟩ (fun s h => Nat.le_trans (b.states s h) (by decide)) (fun o h => Nat.le_trans (b.orders o h) (by decide))
theorem Ax0 (d : TDeal) (t : Int) (b : DealB d) (hz : sizeL TWrite.size (rowsL d.States t) ≤ 1048576) : GSpec Tryz.prog 16 [AV.agg d.cs, AV.int t] [] (fun _ : Value => True) (fun v => [.arr v 79 3 ((dealRowsR d t).1.map TWrite.cs)]) (fun v => AV.tup [AV.is v, AV.bool (dealRowsR d t).2]) := by
 refine H3 Tryz.func16 rfl Tryz.ntmps16 rfl ?_
 refine A3 (A2 ?_)
 refine N1 rfl rfl rfl rfl (A0 rfl) ?_
 intro b2
 refine A1 rfl (B6 rfl L4) ?_
 refine A1 rfl (B6 rfl E9) ?_
 refine A4 (A3 (A3 (A2 ?_)))
 refine A1 rfl (F1 0 rfl (A0 rfl) rfl K5 F4 rfl) ?_
 refine A1 rfl (D7 rfl Tryz.call24 rfl (AC4 d b) (A6 (A0 rfl) C0)) ?_
 refine A1 rfl (M2 rfl (A0 rfl)) ?_
 refine A5 rfl ?_
 refine F3 rfl (fun hc => B8 rfl (A0 rfl)) ?_
 refine F3 rfl (fun hc => D7 rfl Tryz.call40 rfl (AI5 _) (A6 (A9 rfl hc) C0)) ?_
 refine F3 rfl (fun hc => M2 rfl (A9 rfl hc)) ?_
 refine A1 rfl (Q8 rfl (A0 rfl) (F7 rfl)) ?_
 refine A4 ?_
 refine B9 (A0 rfl) ?_ ?_
 ·intro h13
  have he : dealRowsR d t = ([], false) := by (unfold dealRowsR; rw [if_neg (by cases h1 : goodDealR d <;> simp_all)])
  rw [he]
  refine A3 (A2 ?_)
  refine A1 rfl (B6 rfl L4) ?_
  refine A1 rfl (B6 rfl E9) ?_
  refine A4 ?_
  refine C2 ?_
  refine Y4 79 3 ?_
  exact L5 [0] (Value.slice none 0 0) (trivial) rfl (by rfl) (V5 rfl (by decide) (E7 (C1 rfl (by rfl)) (E7 (C1 rfl (by rfl)) M0)))
 intro h13
 have he : dealRowsR d t = rowsR d.States t := by (unfold dealRowsR; rw [if_pos (by cases h1 : goodDealR d <;> simp_all)])
 rw [he]
 refine C3 (A3 (A2 ?_))
 refine A1 rfl (B1 1 rfl E8 rfl N8 (A0 rfl) rfl) ?_
 refine A1 rfl (B0 0 rfl (A0 rfl) rfl Q6 rfl) ?_
 refine A5 rfl ?_
 refine H9 [] rfl rfl rfl rfl Tryz.call41 rfl (BJ5 d.States t b.slen b.states hz) (A6 (A0 rfl) (A6 (A0 rfl) C0)) rfl ?_
 intro x17 ok17
 refine A1 rfl (G6 rfl (A0 rfl) rfl) ?_
 refine A1 rfl (G6 rfl (A0 rfl) rfl) ?_
 refine B3 rfl ?_
 refine B3 rfl ?_
 refine A4 ?_
 refine C2 ?_
 exact L5 [0] x17 (trivial) rfl (by rfl) (V5 rfl (by decide) (E7 (C1 rfl (by rfl)) (E7 (C1 rfl (by rfl)) M0)))
theorem Aq4 (d : TDeal) (t : Int) (b : DealB d) (hz : sizeL TWrite.size (rowsL d.States t) ≤ 1048576) : FSpec Tryz.prog 16 [AV.agg d.cs, AV.int t] (AV.tup [AV.list 3 ((dealRowsR d t).1.map TWrite.cs), AV.bool (dealRowsR d t).2]) :=
  Q5 (Ax0 d t b hz) fun v _ => AJ7 (G4 (M8 (List.mem_singleton.2 rfl) I7) (G4 M4 U3))
theorem Ai9 (d : TDeal) (t : Int) (b : DealB d) (hz : sizeL TWrite.size (rowsL d.States t) ≤ 1048576) : FSpec Tryz.prog 17 [AV.agg d.cs, AV.int t] (AV.tup [AV.list 3 ((dealRowsR d t).1.map TWrite.cs), AV.bool (dealRowsR d t).2]) := by
 have hrl : ∀ i, (rowsL (d.States.take i) t).length ≤ 1000000 := fun i => by
  have h1 := An5 (t := t) (m := 100000) (ss := d.States.take i) fun s hm => (m2 (b.states s (List.mem_of_mem_take hm))).1
  have h2 : (d.States.take i).length ≤ 10 := by have := b.slen; rw [D9]; omega
  have h3 : (d.States.take i).length * 100000 ≤ 10 * 100000 := Nat.mul_le_mul_right _ h2
  omega
 have hsl := b.slen
 refine E2 Tryz.func17 rfl Tryz.ntmps17 rfl ?_
 refine A3 (A2 ?_)
 refine N1 rfl rfl rfl rfl (A0 rfl) ?_
 intro b2
 refine A1 rfl (B6 rfl (a8 (sz := 3))) ?_
 refine A1 rfl (B6 rfl E9) ?_
 refine A4 (A3 (A3 (A2 ?_)))
 refine A1 rfl (F1 0 rfl (A0 rfl) rfl K5 F4 rfl) ?_
 refine A1 rfl (D7 rfl Tryz.call42 rfl (Ai8 d b) (A6 (A0 rfl) C0)) ?_
 refine A1 rfl (M2 rfl (A0 rfl)) ?_
 refine A5 rfl ?_
 refine F3 rfl (fun hc => B8 rfl (A0 rfl)) ?_
 refine F3 rfl (fun hc => D7 rfl Tryz.call43 rfl (AA9 _) (A6 (A9 rfl hc) C0)) ?_
 refine F3 rfl (fun hc => M2 rfl (A9 rfl hc)) ?_
 refine A1 rfl (Q8 rfl (A0 rfl) (F7 rfl)) ?_
 refine A4 ?_
 refine B9 (A0 rfl) ?_ ?_
 ·intro h18
  have he : dealRowsR d t = ([], false) := by (unfold dealRowsR; rw [if_neg (by cases h1 : goodDealR d <;> simp_all)])
  rw [he]
  refine A3 (A2 ?_)
  refine A1 rfl (B6 rfl (a8 (sz := 3))) ?_
  refine A1 rfl (B6 rfl E9) ?_
  refine A4 ?_
  refine C2 ?_
  exact X8 rfl (by decide) (E7 (C1 rfl (by rfl)) (E7 (C1 rfl (by rfl)) M0))
 intro h18
 have he : dealRowsR d t = rowsR d.States t := by (unfold dealRowsR; rw [if_pos (by cases h1 : goodDealR d <;> simp_all)])
 rw [he]
 refine C3 (A3 (A2 ?_))
 refine A1 rfl (B6 rfl (a8 (sz := 3))) ?_
 refine A4 (A3 (A3 (A2 ?_)))
 refine A1 rfl (B1 1 rfl E8 rfl N8 (A0 rfl) rfl) ?_
 refine A1 rfl (B0 0 rfl (A0 rfl) rfl Q6 rfl) ?_
 refine A1 rfl (F6 rfl J2 (A0 rfl)) ?_
 refine A1 rfl (B8 rfl B4) ?_
 refine A4 (C7 ?_)
 refine J0 [(1, _), (4, _), (5, _), (20, _), (21, _)] _ (fun (i : Nat) => i ≤ d.States.length) (fun (i : Nat) => []) (fun (i : Nat) => [(6, AV.list 3 ((rowsL (d.States.take i) t).map TWrite.cs)), (22, AV.int i)]) (fun (i : Nat) => d.States.length - i) (0) ?_ (O8 (by rfl) ⟨rfl, rfl, rfl, rfl, rfl, rfl, rfl, trivial⟩) ?_
 ·exact Nat.zero_le _
 intro i hinv
 refine A3 (A2 ?_)
 refine A1 rfl (J8 rfl (A0 rfl) (A0 rfl)) ?_
 refine A4 (A3 ?_)
 refine B9 (A0 rfl) ?_ ?_
 ·intro h23
  have k23 := of_decide_eq_true h23; try simp only [A8] at k23
  have hlt : i < d.States.length := by (simpa using h23)
  obtain ⟨x, hx⟩ := get_some hlt
  have hxs := m2 (b.states x (F9 hx))
  have hri := hrl i
  have hcl := l9 x.Cells t
  refine C3 (A3 (C7 (A3 (A2 ?_))))
  refine A1 rfl (I2 rfl J2 C5 (A0 rfl) (A0 rfl) hx (by first | omega | (simp only [C8, A7, szR] at *; omega))) ?_
  refine A1 rfl (K6 rfl (A0 rfl) F0 C5) ?_
  refine F5 rfl rfl rfl rfl Tryz.zeroValue53 rfl ?_
  intro b8
  refine D2 0 rfl rfl rfl (A0 rfl) (A0 rfl) (D6 _) rfl C5 rfl ?_
  refine A4 (A3 (A2 ?_))
  refine A1 rfl (B1 1 rfl C4 rfl P6 (A0 rfl) rfl) ?_
  refine A1 rfl (B0 0 rfl (A0 rfl) rfl S1 rfl) ?_
  refine A5 rfl ?_
  refine A1 rfl (D7 rfl Tryz.call44 rfl (BJ4 x.Cells t (by omega)) (A6 (A0 rfl) (A6 (A0 rfl) C0))) ?_
  refine A1 rfl (F6 rfl D1 (A0 rfl)) ?_
  refine A1 rfl (B8 rfl B4) ?_
  refine A4 (C7 ?_)
  refine J0 [(1, _), (4, _), (5, _), (8, _), (20, _), (21, _), (22, _), (23, _), (24, _), (25, _), (26, _), (27, _), (28, _), (29, _), (30, _)] _ (fun (j : Nat) => j ≤ (cellsAt x.Cells t).length) (fun (j : Nat) => []) (fun (j : Nat) => [(6, AV.list 3 ((insAll (rowsL (d.States.take i) t) ((cellsAt x.Cells t).take j)).map TWrite.cs)), (31, AV.int j)]) (fun (j : Nat) => (cellsAt x.Cells t).length - j) (0) ?_ (O8 (by rfl) ⟨rfl, rfl, rfl, rfl, rfl, rfl, rfl, rfl, rfl, rfl, rfl, rfl, rfl, rfl, rfl, rfl, rfl, trivial⟩) ?_
  ·exact Nat.zero_le _
  intro j hinv
  refine A3 (A2 ?_)
  refine A1 rfl (J8 rfl (A0 rfl) (A0 rfl)) ?_
  refine A4 (A3 ?_)
  refine B9 (A0 rfl) ?_ ?_
  ·intro h32
   have k32 := of_decide_eq_true h32; try simp only [A8] at k32
   have hltj : j < (cellsAt x.Cells t).length := by (simpa using h32)
   obtain ⟨y, hy⟩ := get_some hltj
   have hil := w6 (ws := (cellsAt x.Cells t).take j) (l := rowsL (d.States.take i) t)
   rw [D9] at hil
   refine C3 (A3 (C7 (A3 (A2 ?_))))
   refine A1 rfl (I2 rfl D1 E5 (A0 rfl) (A0 rfl) hy (by first | omega | (simp only [C8, A7, szR] at *; omega))) ?_
   refine A1 rfl (K6 rfl (A0 rfl) P8 E5) ?_
   refine F5 rfl rfl rfl rfl Tryz.zeroValue79 rfl ?_
   intro b10
   refine D2 0 rfl rfl rfl (A0 rfl) (A0 rfl) (D6 _) rfl E5 rfl ?_
   refine A4 (A2 ?_)
   refine A5 rfl ?_
   refine A1 rfl (F1 0 rfl (A0 rfl) rfl P8 E5 rfl) ?_
   refine A1 rfl (D7 rfl Tryz.call45 rfl (Aw9 (insAll (rowsL (d.States.take i) t) ((cellsAt x.Cells t).take j)) y (by omega) (AD8 An4)) (A6 (A0 rfl) (A6 (A0 rfl) C0))) ?_
   refine B3 rfl ?_
   refine A4 (A2 ?_)
   refine A1 rfl (G0 rfl (A0 rfl) B4 (by first | omega | (simp only [C8, A7, szR] at *; omega))) ?_
   refine A5 rfl ?_
   refine A4 ?_
   refine K4 j (j + 1) ?_ ?_ (Le.trans (F8 [0] rfl) (K0 1 (by rfl) ⟨(congrArg (fun z => some (AV.list 3 (List.map TWrite.cs z))) (AZ5 hy).symm), rfl, rfl, rfl, rfl, rfl, rfl, rfl, rfl, rfl, rfl, rfl, rfl, rfl, rfl, rfl, rfl, trivial⟩))
   ·exact (by omega)
   omega
  intro h32
  have k32 := of_decide_eq_false h32; try simp only [A8] at k32
  have hgej : (cellsAt x.Cells t).length ≤ j := by (simpa using h32)
  rw [List.take_of_length_le hgej]
  refine G1 ?_
  refine A2 ?_
  refine A1 rfl (G0 rfl (A0 rfl) B4 (by first | omega | (simp only [C8, A7, szR] at *; omega))) ?_
  refine A5 rfl ?_
  refine A4 ?_
  refine K4 i (i + 1) ?_ ?_ (Le.trans (F8 [0] rfl) (K0 1 (by rfl) ⟨(congrArg (fun z => some (AV.list 3 (List.map TWrite.cs z))) (Af9 hx).symm), rfl, rfl, rfl, rfl, rfl, rfl, trivial⟩))
  ·exact (by omega)
  omega
 intro h23
 have k23 := of_decide_eq_false h23; try simp only [A8] at k23
 have hge : d.States.length ≤ i := by (simpa using h23)
 rw [List.take_of_length_le hge]
 refine G1 ?_
 refine A3 (A3 (A2 ?_))
 refine A5 rfl ?_
 refine A1 rfl (D7 rfl Tryz.call46 rfl (AQ0 (rowsL d.States t) hz) (A6 (A0 rfl) C0)) ?_
 refine A1 rfl (M2 rfl (A0 rfl)) ?_
 refine A4 ?_
 refine B9 (A0 rfl) ?_ ?_
 ·intro h42
  have he2 : rowsR d.States t = ([], false) := by (unfold rowsR; rw [if_neg (by rw [r9]; simpa using h42)])
  rw [he2]
  refine A3 (A2 ?_)
  refine A1 rfl (B6 rfl (a8 (sz := 3))) ?_
  refine A1 rfl (B6 rfl E9) ?_
  refine A4 ?_
  refine C2 ?_
  exact X8 rfl (by decide) (E7 (C1 rfl (by rfl)) (E7 (C1 rfl (by rfl)) M0))
 intro h42
 have he2 : rowsR d.States t = (rowsL d.States t, true) := by (unfold rowsR; rw [if_pos (by rw [r9]; simpa using h42)])
 rw [he2]
 refine C3 (A3 (A2 ?_))
 refine A5 rfl ?_
 refine B3 rfl ?_
 refine A1 rfl (B6 rfl E9) ?_
 refine A4 ?_
 refine C2 ?_
 exact X8 rfl (by decide) (E7 (C1 rfl (by rfl)) (E7 (C1 rfl (by rfl)) M0))
end Go.Proofs.YtoaoicnnimjbeaaGreat

namespace Go.M
open Go.AV
theorem deal_eq {a b : TDeal} (h1 : a.Cuts = b.Cuts) (h2 : a.States = b.States) (h3 : a.Orders = b.Orders) : a = b := by cases a; cases b; simp_all
end Go.M
namespace Go.Proofs.YtoaoicnnimjbeaaGreat
open Go Go.AV Go.M
attribute [local irreducible] OpW OpA OpS AWP FSpec ESpec GSpec OpE RetOk RetOkG RvDen Le Ev GuardIs SrcIs SrcE Int.tmod IntKind.wrap bandI
theorem Aj0 (a b : TDeal) (ha : ∀ s ∈ a.States, s.size ≤ 1048576) (hn : a.States.length ≤ 1000000 ∧ a.Orders.length ≤ 1000000) : FSpec Tryz.prog 23 [AV.agg a.cs, AV.agg b.cs] (AV.bool (decide (a = b))) := by
 refine E2 Tryz.func23 rfl Tryz.ntmps23 rfl ?_
 refine A3 (A2 ?_)
 refine N1 rfl rfl rfl rfl (A0 rfl) ?_
 intro b2
 refine N1 rfl rfl rfl rfl (A0 rfl) ?_
 intro b3
 refine A1 rfl (B6 rfl E9) ?_
 refine A4 (A3 (A3 (A2 ?_)))
 refine A1 rfl (B1 0 rfl E8 rfl H5 (A0 rfl) rfl) ?_
 refine A1 rfl (B0 1 rfl (A0 rfl) rfl K7 rfl) ?_
 refine A1 rfl (B1 0 rfl E8 rfl H5 (A0 rfl) rfl) ?_
 refine A1 rfl (B0 0 rfl (A0 rfl) rfl K7 rfl) ?_
 refine A1 rfl (D7 rfl Tryz.call54 rfl (AL1 _ _) (A6 (A0 rfl) (A6 (A0 rfl) C0))) ?_
 refine A1 rfl (M2 rfl (A0 rfl)) ?_
 refine A5 rfl ?_
 refine F3 rfl (fun hc => B1 1 rfl E8 rfl N8 (A0 rfl) rfl) ?_
 refine F3 rfl (fun hc => B0 1 rfl (A9 rfl hc) rfl Q6 rfl) ?_
 refine F3 rfl (fun hc => F6 rfl J2 (A9 rfl hc)) ?_
 refine F3 rfl (fun hc => B1 1 rfl E8 rfl N8 (A0 rfl) rfl) ?_
 refine F3 rfl (fun hc => B0 0 rfl (A9 rfl hc) rfl Q6 rfl) ?_
 refine F3 rfl (fun hc => F6 rfl J2 (A9 rfl hc)) ?_
 refine F3 rfl (fun hc => Z7 rfl (A9 rfl hc) (A9 rfl hc)) ?_
 refine A1 rfl (Q8 rfl (A0 rfl) (F7 rfl)) ?_
 refine A5 rfl ?_
 refine F3 rfl (fun hc => B1 2 rfl E8 rfl U4 (A0 rfl) rfl) ?_
 refine F3 rfl (fun hc => B0 1 rfl (A9 rfl hc) rfl V7 rfl) ?_
 refine F3 rfl (fun hc => F6 rfl I0 (A9 rfl hc)) ?_
 refine F3 rfl (fun hc => B1 2 rfl E8 rfl U4 (A0 rfl) rfl) ?_
 refine F3 rfl (fun hc => B0 0 rfl (A9 rfl hc) rfl V7 rfl) ?_
 refine F3 rfl (fun hc => F6 rfl I0 (A9 rfl hc)) ?_
 refine F3 rfl (fun hc => Z7 rfl (A9 rfl hc) (A9 rfl hc)) ?_
 refine A1 rfl (Q8 rfl (A0 rfl) (F7 rfl)) ?_
 refine A4 ?_
 refine B9 (A0 rfl) ?_ ?_
 ·intro h31
  have hab : a ≠ b := by (intro hc; subst hc; simp at h31)
  refine A3 (A2 ?_)
  refine A1 rfl (B6 rfl E9) ?_
  refine A4 ?_
  refine C2 ?_
  exact I3 rfl (C1 rfl (by exact congrArg AV.bool (by simp [hab])))
 intro h31
 have h31c := h31
 simp only [Bool.or_eq_false_iff, Bool.not_eq_false', decide_eq_true_eq, bne_eq_false_iff_eq, A8] at h31c
 obtain ⟨⟨hcut, hsl⟩, hol⟩ := h31c
 have hsl2 : a.States.length = b.States.length := by omega
 have hol2 : a.Orders.length = b.Orders.length := by omega
 refine C3 (A3 (A3 (A2 ?_)))
 refine A1 rfl (B1 1 rfl E8 rfl N8 (A0 rfl) rfl) ?_
 refine A1 rfl (B0 1 rfl (A0 rfl) rfl Q6 rfl) ?_
 refine A1 rfl (F6 rfl J2 (A0 rfl)) ?_
 refine A1 rfl (B8 rfl B4) ?_
 refine A4 (C7 ?_)
 refine J0 [(2, _), (3, _), (34, _)] _ (fun (i : Nat) => i ≤ a.States.length ∧ a.States.take i = b.States.take i) (fun (i : Nat) => []) (fun (i : Nat) => [(35, AV.int i)]) (fun (i : Nat) => a.States.length - i) (0) ?_ (O8 (by rfl) ⟨rfl, rfl, rfl, rfl, trivial⟩) ?_
 ·exact ⟨Nat.zero_le _, rfl⟩
 intro i hinv
 refine A3 (A2 ?_)
 refine A1 rfl (J8 rfl (A0 rfl) (A0 rfl)) ?_
 refine A4 (A3 ?_)
 refine B9 (A0 rfl) ?_ ?_
 ·intro h36
  have k36 := of_decide_eq_true h36; try simp only [A8] at k36
  have hlt : i < a.States.length := by (simpa using h36)
  obtain ⟨x, hx⟩ := get_some hlt
  obtain ⟨y, hy⟩ := get_some (show i < b.States.length by omega)
  have hxs := ha x (F9 hx)
  refine C3 (A3 (C7 (A3 (A2 ?_))))
  refine A5 rfl ?_
  refine B3 rfl ?_
  refine A4 (A3 ?_)
  refine L1 (by kernel_rfl) (by kernel_rfl) rfl ?_
  refine B2 rfl rfl (B1 1 rfl E8 rfl N8 (A0 rfl) rfl) ?_
  refine B2 rfl rfl (B0 1 rfl (A0 rfl) rfl Q6 rfl) ?_
  refine B2 rfl rfl (B8 rfl (A0 rfl)) ?_
  refine B2 rfl rfl (I2 rfl J2 C5 (A0 rfl) (A0 rfl) hx (by first | omega | (simp only [C8, A7, szR] at *; omega))) ?_
  refine B2 rfl rfl (K6 rfl (A0 rfl) F0 C5) ?_
  refine B2 rfl rfl (B1 1 rfl E8 rfl N8 (A0 rfl) rfl) ?_
  refine B2 rfl rfl (B0 0 rfl (A0 rfl) rfl Q6 rfl) ?_
  refine B2 rfl rfl (B8 rfl (A0 rfl)) ?_
  refine B2 rfl rfl (I2 rfl J2 C5 (A0 rfl) (A0 rfl) hy (by first | omega | (simp only [C8, A7, szR] at *; omega))) ?_
  refine B2 rfl rfl (K6 rfl (A0 rfl) F0 C5) ?_
  refine B2 rfl rfl (D7 rfl Tryz.call55 rfl (Af7 x y hxs) (A6 (A0 rfl) (A6 (A0 rfl) C0))) ?_
  refine B2 rfl rfl (M2 rfl (A0 rfl)) ?_
  refine P7 ?_
  refine B9 (A0 rfl) ?_ ?_
  ·intro h49
   have hab : a ≠ b := by (intro hc; subst hc; rw [hx] at hy; injection hy with hy; subst hy; simp at h49)
   refine A3 (A2 ?_)
   refine A1 rfl (B6 rfl E9) ?_
   refine A4 ?_
   refine C2 ?_
   exact I3 rfl (C1 rfl (by exact congrArg AV.bool (by simp [hab])))
  intro h49
  refine C3 (A2 ?_)
  refine A1 rfl (G0 rfl (A0 rfl) B4 (by first | omega | (simp only [C8, A7, szR] at *; omega))) ?_
  refine A5 rfl ?_
  refine A4 ?_
  refine K4 i (i + 1) ?_ ?_ (O8 (by rfl) ⟨rfl, rfl, rfl, rfl, trivial⟩)
  ·exact ⟨by omega, Z9 hinv.2 hx (by rw [hy]; congr 1; have h9 := h49; simp at h9; exact h9.symm)⟩
  omega
 intro h36
 have k36 := of_decide_eq_false h36; try simp only [A8] at k36
 have hge : a.States.length ≤ i := by (simpa using h36)
 have hst : a.States = b.States := i4 hsl2 hinv.2 hge
 refine G1 ?_
 refine A3 (A3 (A2 ?_))
 refine A1 rfl (B1 2 rfl E8 rfl U4 (A0 rfl) rfl) ?_
 refine A1 rfl (B0 1 rfl (A0 rfl) rfl V7 rfl) ?_
 refine A1 rfl (F6 rfl I0 (A0 rfl)) ?_
 refine A1 rfl (B8 rfl B4) ?_
 refine A4 (C7 ?_)
 refine J0 [(3, _), (52, _), (53, _)] _ (fun (j : Nat) => j ≤ a.Orders.length ∧ a.Orders.take j = b.Orders.take j) (fun (j : Nat) => []) (fun (j : Nat) => [(54, AV.int j)]) (fun (j : Nat) => a.Orders.length - j) (0) ?_ (O8 (by rfl) ⟨rfl, rfl, rfl, rfl, trivial⟩) ?_
 ·exact ⟨Nat.zero_le _, rfl⟩
 intro j hinv
 refine A3 (A2 ?_)
 refine A1 rfl (J8 rfl (A0 rfl) (A0 rfl)) ?_
 refine A4 (A3 ?_)
 refine B9 (A0 rfl) ?_ ?_
 ·intro h55
  have k55 := of_decide_eq_true h55; try simp only [A8] at k55
  have hlt1 : j < a.Orders.length := by (simpa using h55)
  obtain ⟨x1, hx1⟩ := get_some hlt1
  obtain ⟨y1, hy1⟩ := get_some (show j < b.Orders.length by omega)
  refine C3 (A3 (C7 (A3 (A2 ?_))))
  refine A5 rfl ?_
  refine A1 rfl (I2 rfl I0 H4 (A0 rfl) (A0 rfl) hx1 (by first | omega | (simp only [C8, A7, szR] at *; omega))) ?_
  refine A1 rfl (K6 rfl (A0 rfl) Q4 H4) ?_
  refine F5 rfl rfl rfl rfl Tryz.zeroValue32 rfl ?_
  intro b7
  refine B3 rfl ?_
  refine D2 0 rfl rfl rfl (A0 rfl) (A0 rfl) (D6 _) rfl H4 rfl ?_
  refine A4 (A3 ?_)
  refine L1 (by kernel_rfl) (by kernel_rfl) rfl ?_
  refine B2 rfl rfl (B1 0 rfl H1 rfl B5 (A0 rfl) rfl) ?_
  refine B2 rfl rfl (B0 0 rfl (A0 rfl) rfl C6 rfl) ?_
  refine B2 rfl rfl (B1 2 rfl E8 rfl U4 (A0 rfl) rfl) ?_
  refine B2 rfl rfl (B0 1 rfl (A0 rfl) rfl V7 rfl) ?_
  refine B2 rfl rfl (B8 rfl (A0 rfl)) ?_
  refine B2 rfl rfl (I2 rfl I0 H4 (A0 rfl) (A0 rfl) hy1 (by first | omega | (simp only [C8, A7, szR] at *; omega))) ?_
  refine B2 rfl rfl (X1 rfl H1 rfl B5 (A0 rfl) rfl) ?_
  refine B2 rfl rfl (L6 rfl (A0 rfl) C6 rfl) ?_
  refine B2 rfl rfl (Z7 rfl (A0 rfl) (A0 rfl)) ?_
  refine B2 rfl rfl (B8 rfl (A0 rfl)) ?_
  refine E0 rfl (J1 rfl rfl rfl) (fun hc => B1 1 rfl H1 rfl H5 (A0 rfl) rfl) ?_
  refine E0 rfl (J1 rfl rfl rfl) (fun hc => B0 0 rfl (A9 rfl hc) rfl K7 rfl) ?_
  refine E0 rfl (J1 rfl rfl rfl) (fun hc => B1 2 rfl E8 rfl U4 (A0 rfl) rfl) ?_
  refine E0 rfl (J1 rfl rfl rfl) (fun hc => B0 1 rfl (A9 rfl hc) rfl V7 rfl) ?_
  refine E0 rfl (J1 rfl rfl rfl) (fun hc => B8 rfl (A0 rfl)) ?_
  refine E0 rfl (J1 rfl rfl rfl) (fun hc => I2 rfl I0 H4 (A9 rfl hc) (A9 rfl hc) hy1 (by first | omega | ((try simp only [C8, A7, szR] at *); omega) | (have hc2 := hc; simp only [Q0, beq_iff_eq, bne_iff_ne, A8, D9] at hc2; omega))) ?_
  refine E0 rfl (J1 rfl rfl rfl) (fun hc => X1 rfl H1 rfl H5 (A9 rfl hc) rfl) ?_
  refine E0 rfl (J1 rfl rfl rfl) (fun hc => L6 rfl (A9 rfl hc) K7 rfl) ?_
  refine E0 rfl (J1 rfl rfl rfl) (fun hc => D7 rfl Tryz.call54 rfl (AL1 _ _) (A6 (A9 rfl hc) (A6 (A9 rfl hc) C0))) ?_
  refine E0 rfl (J1 rfl rfl rfl) (fun hc => M2 rfl (A9 rfl hc)) ?_
  refine B2 rfl rfl (Q8 rfl (A0 rfl) (F7 rfl)) ?_
  refine B2 rfl rfl (B8 rfl (A0 rfl)) ?_
  refine E0 rfl (J1 rfl rfl rfl) (fun hc => B1 2 rfl H1 rfl L0 (A0 rfl) rfl) ?_
  refine E0 rfl (J1 rfl rfl rfl) (fun hc => B0 0 rfl (A9 rfl hc) rfl M3 rfl) ?_
  refine E0 rfl (J1 rfl rfl rfl) (fun hc => B1 2 rfl E8 rfl U4 (A0 rfl) rfl) ?_
  refine E0 rfl (J1 rfl rfl rfl) (fun hc => B0 1 rfl (A9 rfl hc) rfl V7 rfl) ?_
  refine E0 rfl (J1 rfl rfl rfl) (fun hc => B8 rfl (A0 rfl)) ?_
  refine E0 rfl (J1 rfl rfl rfl) (fun hc => I2 rfl I0 H4 (A9 rfl hc) (A9 rfl hc) hy1 (by first | omega | ((try simp only [C8, A7, szR] at *); omega) | (have hc2 := hc; simp only [Q0, beq_iff_eq, bne_iff_ne, A8, D9] at hc2; omega))) ?_
  refine E0 rfl (J1 rfl rfl rfl) (fun hc => X1 rfl H1 rfl L0 (A9 rfl hc) rfl) ?_
  refine E0 rfl (J1 rfl rfl rfl) (fun hc => L6 rfl (A9 rfl hc) M3 rfl) ?_
  refine E0 rfl (J1 rfl rfl rfl) (fun hc => D7 rfl Tryz.call18 rfl (AF7 _ _) (A6 (A9 rfl hc) (A6 (A9 rfl hc) C0))) ?_
  refine E0 rfl (J1 rfl rfl rfl) (fun hc => M2 rfl (A9 rfl hc)) ?_
  refine B2 rfl rfl (Q8 rfl (A0 rfl) (F7 rfl)) ?_
  refine P7 ?_
  refine B9 (A0 rfl) ?_ ?_
  ·intro h91
   have hab : a ≠ b := by (intro hc; subst hc; rw [hx1] at hy1; injection hy1 with hy1; subst hy1; simp at h91)
   refine A3 (A2 ?_)
   refine A1 rfl (B6 rfl E9) ?_
   refine A4 ?_
   refine C2 ?_
   exact I3 rfl (C1 rfl (by exact congrArg AV.bool (by simp [hab])))
  intro h91
  refine C3 (A2 ?_)
  refine A1 rfl (G0 rfl (A0 rfl) B4 (by first | omega | (simp only [C8, A7, szR] at *; omega))) ?_
  refine A5 rfl ?_
  refine A4 ?_
  refine K4 j (j + 1) ?_ ?_ (Le.trans (F8 [0] rfl) (K0 1 (by rfl) ⟨rfl, rfl, rfl, rfl, trivial⟩))
  ·exact ⟨by omega, Z9 hinv.2 hx1 (by rw [hy1]; congr 1; have h9 := h91; simp only [Bool.or_eq_false_iff, Bool.not_eq_false', decide_eq_true_eq, bne_eq_false_iff_eq] at h9; cases x1; cases y1; simp_all)⟩
  omega
 intro h55
 have k55 := of_decide_eq_false h55; try simp only [A8] at k55
 have hge1 : a.Orders.length ≤ j := by (simpa using h55)
 have hab : a = b := deal_eq hcut hst (i4 hol2 hinv.2 hge1)
 refine G1 ?_
 refine A3 (A2 ?_)
 refine A1 rfl (B6 rfl E9) ?_
 refine A4 ?_
 refine C2 ?_
 exact I3 rfl (C1 rfl (by exact congrArg AV.bool (by simp [hab])))
end Go.Proofs.YtoaoicnnimjbeaaGreat

namespace Go.Proofs.YtoaoicnnimjbeaaGreat
open Go Go.AV Go.M
attribute [local irreducible] OpW OpA OpS AWP FSpec ESpec GSpec OpE RetOk RetOkG RvDen Le Ev GuardIs SrcIs SrcE Int.tmod IntKind.wrap bandI
theorem Ag0 {o : TOrder} (h : o.size ≤ 1048576) : o.Reads.length ≤ 1048576 ∧ o.Writes.length ≤ 1048576 := by
  have h0 : o.size = sizeL (fun x : Str => x.length) o.Reads + sizeL TWrite.size o.Writes := rfl
  have h1 := O4 (f := fun x : Str => x.length) (l := o.Reads)
  have h2 := O4 (f := TWrite.size) (l := o.Writes)
  omega
theorem ownO_own (l : List TOrder) (hl : l.length ≤ 1000000) (hs : ∀ o ∈ l, o.size ≤ 1048576) : GSpec Tryz.prog 53 [AV.list 3 (l.map TOrder.cs)] [] (fun _ : Value => True) (fun v => [.arr v 32 3 (l.map TOrder.cs)]) (fun v => AV.is v) := by
 refine H3 Tryz.func53 rfl Tryz.ntmps53 rfl ?_
 refine A3 (A2 ?_)
 refine A1 rfl (B6 rfl L4) ?_
 refine A4 (A3 (A2 ?_))
 refine S0 32 3 rfl rfl rfl rfl L4 ?_
 intro v3
 refine A4 (A3 (A3 (A2 ?_)))
 refine A5 rfl ?_
 refine A1 rfl (F6 rfl I0 (A0 rfl)) ?_
 refine A1 rfl (B8 rfl B4) ?_
 refine A4 (C7 ?_)
 refine AWP.le (F8 [0] rfl) ?_
 refine P3 [(2, _), (6, _), (7, _)] _ (fun (i : Nat) (v : Value) => i ≤ l.length) (fun (i : Nat) (v : Value) => [.arr v 32 3 ((l.take i).map TOrder.cs)]) (fun (i : Nat) (v : Value) => [(3, AV.is v), (8, AV.int i)]) (fun (i : Nat) (v : Value) => l.length - i) (0) (v3) ?_ (O8 (by rfl) ⟨rfl, rfl, rfl, rfl, rfl, trivial⟩) ?_
 ·exact Nat.zero_le _
 intro i v hinv
 refine A3 (A2 ?_)
 refine A1 rfl (J8 rfl (A0 rfl) (A0 rfl)) ?_
 refine A4 (A3 ?_)
 refine B9 (A0 rfl) ?_ ?_
 ·intro h9
  have k9 := of_decide_eq_true h9; try simp only [A8] at k9
  have hlt : i < l.length := by (simpa using h9)
  obtain ⟨x, hx⟩ := get_some hlt
  have hxl := Ag0 (hs x (F9 hx))
  refine C3 (A3 (C7 (A3 (A2 ?_))))
  refine A1 rfl (I2 rfl I0 H4 (A0 rfl) (A0 rfl) hx (by first | omega | (simp only [C8, A7, szR] at *; omega))) ?_
  refine A1 rfl (K6 rfl (A0 rfl) Q4 H4) ?_
  refine F5 rfl rfl rfl rfl Tryz.zeroValue32 rfl ?_
  intro b5
  refine D2 0 rfl rfl rfl (A0 rfl) (A0 rfl) (D6 _) rfl H4 rfl ?_
  refine A4 ?_
  refine AWP.le (F8 [0, 0] rfl) ?_
  refine V3 _ [(0, false), (1, false), (2, false), (3, false), (4, false), (5, false), (7, false), (8, false), (6, true), (9, true), (10, false), (11, false), (12, true)] (by kernel_rfl) (by kernel_rfl) rfl (V2 1) ?_
  refine H7 rfl rfl rfl (fun ext => B8 rfl (A0 rfl)) ?_
  refine H7 rfl rfl rfl (fun ext => B1 0 rfl H1 rfl B5 (A0 rfl) rfl) ?_
  refine H7 rfl rfl rfl (fun ext => B0 0 rfl (A0 rfl) rfl C6 rfl) ?_
  refine H7 rfl rfl rfl (fun ext => B1 1 rfl H1 rfl H5 (A0 rfl) rfl) ?_
  refine H7 rfl rfl rfl (fun ext => B0 0 rfl (A0 rfl) rfl K7 rfl) ?_
  refine H7 rfl rfl rfl (fun ext => D7 rfl Tryz.call52 rfl (m7 x.Reads (by omega)) (A6 (A0 rfl) C0)) ?_
  refine H7 rfl rfl rfl (fun ext => B1 2 rfl H1 rfl L0 (A0 rfl) rfl) ?_
  refine H7 rfl rfl rfl (fun ext => B0 0 rfl (A0 rfl) rfl M3 rfl) ?_
  refine V4 rfl rfl rfl (Z6 rfl D1 E5) (fun a _ => (by first | exact E1 rfl | exact E1 (List.append_assoc _ _ _) | exact H6)) ?_
  intro v18 _
  refine V4 rfl rfl rfl (AU5 [2] (fun _ => rfl) (fun _ => M8 (F9 (i := 0) rfl) I7) (fun _ => O3) (R5 (by' := 40) 2 rfl D1 Tryz.type79 rfl rfl rfl rfl rfl rfl (A0 rfl) (A0 rfl) rfl (by simp only [N4, A8]; omega))) (fun a _ => (by first | exact E1 rfl | exact E1 (List.append_assoc _ _ _) | exact H6)) ?_
  intro v21_1 _
  refine H7 rfl rfl rfl (fun ext => N5 (places := #[(0, 1), (1, 1), (2, 1)]) rfl H1 Tryz.zeroValue32 (fun w => by kernel_rfl) rfl (D0 (A0 rfl) (L8 _ _) (D0 (A0 rfl) (O9 _ _) (D0 (A0 rfl) (O9 _ _) G9))) rfl) ?_
  refine H7 rfl rfl rfl (fun ext => K9 rfl I0 H4 Tryz.zeroValue32 rfl rfl rfl rfl (D0 (A0 rfl) (D6 _) G9) rfl rfl) ?_
  refine V4 rfl rfl rfl (R5 (by' := 56) 1 rfl I0 Tryz.type32 rfl rfl rfl rfl rfl rfl (A0 rfl) (A0 rfl) rfl (by simp only [A8, D9, A7]; omega)) (fun a _ => (by first | exact E1 rfl | exact E1 (List.append_assoc _ _ _) | exact H6)) ?_
  intro v24_2 _
  refine l4 ?_
  refine B3 rfl ?_
  refine A4 (A2 ?_)
  refine A1 rfl (G0 rfl (A0 rfl) B4 (by first | omega | (simp only [C8, A7, szR] at *; omega))) ?_
  refine A5 rfl ?_
  refine A4 ?_
  refine O2 i v (i + 1) (v24_2) ?_ ?_ (Le.trans (F8 [0, 0] rfl) (K0 1 (by (rw [List.take_add_one, hx, List.map_append]; rfl)) ⟨rfl, rfl, rfl, rfl, rfl, trivial⟩))
  ·exact (by omega)
  omega
 intro h9
 have k9 := of_decide_eq_false h9; try simp only [A8] at k9
 have hge : l.length ≤ i := by (simpa using h9)
 rw [List.take_of_length_le hge]
 refine G1 ?_
 refine A3 (A2 ?_)
 refine A5 rfl ?_
 refine B3 rfl ?_
 refine A4 ?_
 refine C2 ?_
 exact L5 [0] v (trivial) rfl (by rfl) (P0 rfl (C1 rfl (by rfl)))
end Go.Proofs.YtoaoicnnimjbeaaGreat

namespace Go.Proofs.YtoaoicnnimjbeaaGreat
open Go Go.AV Go.M
attribute [local irreducible] OpW OpA OpS AWP FSpec ESpec GSpec OpE RetOk RetOkG RvDen Le Ev GuardIs SrcIs SrcE Int.tmod IntKind.wrap bandI
theorem AP5 (l : List TOrder) (hl : l.length ≤ 1000000) (hs : ∀ o ∈ l, o.size ≤ 1048576) : FSpec Tryz.prog 53 [AV.list 3 (l.map TOrder.cs)] (AV.list 3 (l.map TOrder.cs)) :=
  Q5 (ownO_own l hl hs) fun v _ => M8 (List.mem_singleton.2 rfl) I7
theorem BA9 (d : TDeal) (b : DealB d) : GSpec Tryz.prog 108 [AV.agg d.cs] [] (fun _ : Value => True) (fun v => [.arr v 53 4 (d.States.map TState.cs)]) (fun v => AV.agg [strs d.Cuts, AV.is v, AV.list 3 (d.Orders.map TOrder.cs)]) := by
 have hsl := b.slen
 have hcl := b.clen
 refine H3 Tryz.func108 rfl Tryz.ntmps108 rfl ?_
 refine A3 (A2 ?_)
 refine N1 rfl rfl rfl rfl (A0 rfl) ?_
 intro b1
 refine F5 rfl rfl rfl rfl Tryz.zeroValue43 rfl ?_
 intro b2
 refine A4 (A3 ?_)
 refine Q2 _ 8 (.pure 0 (.pure 1 (.pure 2 (.pure 3 (.pure 4 (.pure 5 (.pure 6 (.e1 7 .nil)))))))) (by kernel_rfl) (by kernel_rfl) rfl i6 ?_
 refine D4 rfl rfl rfl (fun ext => B1 0 rfl E8 rfl H5 (A0 rfl) rfl) ?_
 refine D4 rfl rfl rfl (fun ext => B0 1 rfl (A0 rfl) rfl K7 rfl) ?_
 refine D4 rfl rfl rfl (fun ext => D7 rfl Tryz.call52 rfl (m7 d.Cuts (by omega)) (A6 (A0 rfl) C0)) ?_
 refine D4 rfl rfl rfl (fun ext => B1 2 rfl E8 rfl U4 (A0 rfl) rfl) ?_
 refine D4 rfl rfl rfl (fun ext => B0 1 rfl (A0 rfl) rfl V7 rfl) ?_
 refine D4 rfl rfl rfl (fun ext => D7 rfl Tryz.call53 rfl (AP5 d.Orders b.olen (fun o h => Nat.le_trans (b.orders o h) (by decide))) (A6 (A0 rfl) C0)) ?_
 refine D4 rfl rfl rfl (fun ext => N5 (places := #[(0, 1), (1, 1), (2, 1)]) rfl E8 Tryz.zeroValue43 (fun w => by kernel_rfl) rfl (D0 (A0 rfl) (O9 _ _) (D0 (A0 rfl) (O9 _ _) G9)) rfl) ?_
 refine T9 ?_
 refine S6 rfl rfl rfl (X4 rfl Tryz.zeroValue43 rfl) (fun a _ => (by first | exact E1 rfl | exact E1 (List.append_assoc _ _ _) | exact H6)) ?_
 intro b3 _
 refine W1 ?_
 refine D2 2 rfl rfl rfl (A0 rfl) (A0 rfl) (D6 _) rfl F4 rfl ?_
 refine A4 (A3 (A3 (A2 ?_)))
 refine A1 rfl (B1 1 rfl E8 rfl N8 (A0 rfl) rfl) ?_
 refine A1 rfl (B0 1 rfl (A0 rfl) rfl Q6 rfl) ?_
 refine A1 rfl (F6 rfl J2 (A0 rfl)) ?_
 refine A1 rfl (B8 rfl B4) ?_
 refine A4 (C7 ?_)
 refine W5 53 4 ?_
 refine AWP.le (F8 [3, 0] rfl) ?_
 refine P3 [(2, _), (3, _), (14, _), (15, _)] _ (fun (i : Nat) (v : Value) => i ≤ d.States.length) (fun (i : Nat) (v : Value) => [.box b3 43 [strs d.Cuts, AV.is v, AV.list 3 (d.Orders.map TOrder.cs)], .arr v 53 4 ((d.States.take i).map TState.cs)]) (fun (i : Nat) (v : Value) => [(16, AV.int i)]) (fun (i : Nat) (v : Value) => d.States.length - i) (0) ((Value.slice none 0 0)) ?_ (O8 (by rfl) ⟨rfl, rfl, rfl, rfl, rfl, trivial⟩) ?_
 ·exact Nat.zero_le _
 intro i v hinv
 refine A3 (A2 ?_)
 refine A1 rfl (J8 rfl (A0 rfl) (A0 rfl)) ?_
 refine A4 (A3 ?_)
 refine B9 (A0 rfl) ?_ ?_
 ·intro h17
  have k17 := of_decide_eq_true h17; try simp only [A8] at k17
  have hlt : i < d.States.length := by (simpa using h17)
  obtain ⟨x, hx⟩ := get_some hlt
  have hxs := b.states x (F9 hx)
  refine C3 (A3 (C7 (A3 (A2 ?_))))
  refine A1 rfl (I2 rfl J2 C5 (A0 rfl) (A0 rfl) hx (by first | omega | (simp only [C8, A7, szR] at *; omega))) ?_
  refine A1 rfl (K6 rfl (A0 rfl) F0 C5) ?_
  refine F5 rfl rfl rfl rfl Tryz.zeroValue53 rfl ?_
  intro b5
  refine D2 0 rfl rfl rfl (A0 rfl) (A0 rfl) (D6 _) rfl C5 rfl ?_
  refine A4 ?_
  refine S9 5 (by kernel_rfl) (by kernel_rfl) rfl ?_
  refine B2 rfl rfl (B1 1 rfl E8 rfl N8 (A0 rfl) rfl) ?_
  refine B2 rfl rfl (B0 1 rfl (A0 rfl) rfl Q6 rfl) ?_
  refine B2 rfl rfl (F1 0 rfl (A0 rfl) rfl F0 C5 rfl) ?_
  refine B2 rfl rfl (D7 rfl Tryz.call145 rfl (AC3 x (by omega)) (A6 (A0 rfl) C0)) ?_
  refine B2 rfl rfl (K9 rfl J2 C5 Tryz.zeroValue53 rfl rfl rfl rfl (D0 (A0 rfl) (D6 _) G9) rfl rfl) ?_
  refine P7 ?_
  refine L2 (by' := 80) 2 rfl rfl rfl rfl J2 Tryz.type53 rfl rfl rfl rfl rfl rfl (A0 rfl) (A0 rfl) rfl (by simp only [A8, D9, A7]; omega) ?_
  intro v25_1
  refine A1 rfl (B1 1 rfl E8 rfl N8 (A0 rfl) rfl) ?_
  refine T8 2 rfl fun one_v25_1 => ?_
  refine K8 1 rfl rfl rfl (A0 rfl) (A0 rfl) (U2 one_v25_1) rfl N8 rfl ?_
  refine A4 (A2 ?_)
  refine A1 rfl (G0 rfl (A0 rfl) B4 (by first | omega | (simp only [C8, A7, szR] at *; omega))) ?_
  refine A5 rfl ?_
  refine A4 ?_
  refine O2 i v (i + 1) (v25_1) ?_ ?_ (Le.trans (F8 [0, 0, 0] rfl) (K0 1 (by (rw [List.take_add_one, hx, List.map_append]; rfl)) ⟨rfl, rfl, rfl, rfl, rfl, trivial⟩))
  ·exact (by omega)
  omega
 intro h17
 have k17 := of_decide_eq_false h17; try simp only [A8] at k17
 have hge : d.States.length ≤ i := by (simpa using h17)
 rw [List.take_of_length_le hge]
 refine G1 ?_
 refine A3 (A2 ?_)
 refine A1 rfl (F1 0 rfl (A0 rfl) rfl K5 F4 rfl) ?_
 refine D2 2 rfl rfl rfl (A0 rfl) (A0 rfl) (D6 _) rfl F4 rfl ?_
 refine A4 ?_
 refine C2 ?_
 exact L5 [1] v (trivial) rfl (by rfl) (P0 rfl (J9 (ys := _) 2 rfl rfl K5 F4 rfl))
end Go.Proofs.YtoaoicnnimjbeaaGreat

namespace Go.Proofs.YtoaoicnnimjbeaaGreat
open Go Go.AV Go.M
attribute [local irreducible] OpW OpA OpS AWP FSpec ESpec GSpec OpE RetOk RetOkG RvDen Le Ev GuardIs SrcIs SrcE Int.tmod IntKind.wrap bandI
theorem Ag1 (s : TState) (hs : s.size ≤ 1048576) : FSpec Tryz.prog 87 [AV.agg s.cs] (AV.agg s.cs) :=
  Q5 (Ap3 s hs) fun x _ => Z5 (TState.lc s x)
theorem AV3 (l : List Str) (hl : l.length ≤ 4194304) : FSpec Tryz.prog 86 [strs l] (strs l) :=
  Q5 (t6 l hl) fun v _ => M8 (List.mem_singleton.2 rfl) I7
theorem Ax1 (l : List TWrite) (hl : l.length ≤ 4194304) : FSpec Tryz.prog 127 [AV.list 3 (l.map TWrite.cs)] (AV.list 3 (l.map TWrite.cs)) :=
  Q5 (AG8 l hl) fun v _ => M8 (List.mem_singleton.2 rfl) I7
theorem Aj1 (o : TOrder) (hs : o.size ≤ 1048576) : FSpec Tryz.prog 88 [AV.agg o.cs] (AV.agg o.cs) := by
 have hl := Ag0 hs
 refine E2 Tryz.func88 rfl Tryz.ntmps88 rfl ?_
 refine A3 (A2 ?_)
 refine N1 rfl rfl rfl rfl (A0 rfl) ?_
 intro b1
 refine F5 rfl rfl rfl rfl Tryz.zeroValue32 rfl ?_
 intro b2
 refine A4 (A3 ?_)
 refine S9 9 (by kernel_rfl) (by kernel_rfl) rfl ?_
 refine B2 rfl rfl (B1 0 rfl H1 rfl B5 (A0 rfl) rfl) ?_
 refine B2 rfl rfl (B0 1 rfl (A0 rfl) rfl C6 rfl) ?_
 refine B2 rfl rfl (B1 1 rfl H1 rfl H5 (A0 rfl) rfl) ?_
 refine B2 rfl rfl (B0 1 rfl (A0 rfl) rfl K7 rfl) ?_
 refine B2 rfl rfl (D7 rfl Tryz.call86 rfl (AV3 o.Reads (by omega)) (A6 (A0 rfl) C0)) ?_
 refine B2 rfl rfl (B1 2 rfl H1 rfl L0 (A0 rfl) rfl) ?_
 refine B2 rfl rfl (B0 1 rfl (A0 rfl) rfl M3 rfl) ?_
 refine B2 rfl rfl (D7 rfl Tryz.call127 rfl (Ax1 o.Writes (by omega)) (A6 (A0 rfl) C0)) ?_
 refine B2 rfl rfl (N5 (places := #[(0, 1), (1, 1), (2, 1)]) rfl H1 Tryz.zeroValue32 (fun w => by kernel_rfl) rfl (D0 (A0 rfl) (L8 _ _) (D0 (A0 rfl) (O9 _ _) (D0 (A0 rfl) (O9 _ _) G9))) rfl) ?_
 refine P7 ?_
 refine D2 0 rfl rfl rfl (A0 rfl) (A0 rfl) (D6 _) rfl H4 rfl ?_
 refine A4 ?_
 refine C2 ?_
 exact I3 rfl (J9 (ys := _) 0 rfl rfl Q4 H4 rfl)
theorem Ax2 (d : TDeal) (b : DealB d) : GSpec Tryz.prog 50 [AV.agg d.cs] [] (fun _ : Value × Value => True) (fun v => [.arr v.1 53 4 (d.States.map TState.cs), .arr v.2 32 3 (d.Orders.map TOrder.cs)]) (fun v => AV.agg [strs d.Cuts, AV.is v.1, AV.is v.2]) := by
 have hsl := b.slen
 have hcl := b.clen
 have hol := b.olen
 refine H3 Tryz.func50 rfl Tryz.ntmps50 rfl ?_
 refine A3 (A2 ?_)
 refine N1 rfl rfl rfl rfl (A0 rfl) ?_
 intro b1
 refine F5 rfl rfl rfl rfl Tryz.zeroValue43 rfl ?_
 intro b2
 refine A4 (A3 (A2 ?_))
 refine A1 rfl (B1 0 rfl E8 rfl H5 (A0 rfl) rfl) ?_
 refine A1 rfl (B0 1 rfl (A0 rfl) rfl K7 rfl) ?_
 refine A1 rfl (D7 rfl Tryz.call86 rfl (AV3 d.Cuts (by omega)) (A6 (A0 rfl) C0)) ?_
 refine A1 rfl (N5 (places := #[(0, 1), (1, 1), (2, 1)]) rfl E8 Tryz.zeroValue43 (fun w => by kernel_rfl) rfl (D0 (A0 rfl) (O9 _ _) G9) rfl) ?_
 refine F5 rfl rfl rfl rfl Tryz.zeroValue43 rfl ?_
 intro b3
 refine D2 0 rfl rfl rfl (A0 rfl) (A0 rfl) (D6 _) rfl F4 rfl ?_
 refine A4 (A3 (A3 (A2 ?_)))
 refine A1 rfl (B1 1 rfl E8 rfl N8 (A0 rfl) rfl) ?_
 refine A1 rfl (B0 2 rfl (A0 rfl) rfl Q6 rfl) ?_
 refine A1 rfl (F6 rfl J2 (A0 rfl)) ?_
 refine A1 rfl (B8 rfl B4) ?_
 refine A4 (C7 ?_)
 refine W5 53 4 ?_
 refine AWP.le (F8 [1, 0] rfl) ?_
 refine P3 [(1, _), (2, _), (3, _), (13, _), (14, _)] _ (fun (i : Nat) (v : Value) => i ≤ d.States.length) (fun (i : Nat) (v : Value) => [.box b3 43 [strs d.Cuts, AV.is v, AV.nils], .arr v 53 4 ((d.States.take i).map TState.cs)]) (fun (i : Nat) (v : Value) => [(15, AV.int i)]) (fun (i : Nat) (v : Value) => d.States.length - i) (0) ((Value.slice none 0 0)) ?_ (O8 (by rfl) ⟨rfl, rfl, rfl, rfl, rfl, rfl, trivial⟩) ?_
 ·exact Nat.zero_le _
 intro i v hinv
 refine A3 (A2 ?_)
 refine A1 rfl (J8 rfl (A0 rfl) (A0 rfl)) ?_
 refine A4 (A3 ?_)
 refine B9 (A0 rfl) ?_ ?_
 ·intro h16
  have k16 := of_decide_eq_true h16; try simp only [A8] at k16
  have hlt : i < d.States.length := by (simpa using h16)
  obtain ⟨x, hx⟩ := get_some hlt
  have hxs := b.states x (F9 hx)
  refine C3 (A3 (C7 (A3 (A2 ?_))))
  refine A1 rfl (I2 rfl J2 C5 (A0 rfl) (A0 rfl) hx (by first | omega | (simp only [C8, A7, szR] at *; omega))) ?_
  refine A1 rfl (K6 rfl (A0 rfl) F0 C5) ?_
  refine F5 rfl rfl rfl rfl Tryz.zeroValue53 rfl ?_
  intro b5
  refine D2 0 rfl rfl rfl (A0 rfl) (A0 rfl) (D6 _) rfl C5 rfl ?_
  refine A4 ?_
  refine S9 5 (by kernel_rfl) (by kernel_rfl) rfl ?_
  refine B2 rfl rfl (B1 1 rfl E8 rfl N8 (A0 rfl) rfl) ?_
  refine B2 rfl rfl (B0 1 rfl (A0 rfl) rfl Q6 rfl) ?_
  refine B2 rfl rfl (F1 0 rfl (A0 rfl) rfl F0 C5 rfl) ?_
  refine B2 rfl rfl (D7 rfl Tryz.call87 rfl (Ag1 x (by omega)) (A6 (A0 rfl) C0)) ?_
  refine B2 rfl rfl (K9 rfl J2 C5 Tryz.zeroValue53 rfl rfl rfl rfl (D0 (A0 rfl) (D6 _) G9) rfl rfl) ?_
  refine P7 ?_
  refine L2 (by' := 80) 2 rfl rfl rfl rfl J2 Tryz.type53 rfl rfl rfl rfl rfl rfl (A0 rfl) (A0 rfl) rfl (by simp only [A8, D9, A7]; omega) ?_
  intro v24_1
  refine A1 rfl (B1 1 rfl E8 rfl N8 (A0 rfl) rfl) ?_
  refine T8 2 rfl fun one_v24_1 => ?_
  refine K8 1 rfl rfl rfl (A0 rfl) (A0 rfl) (U2 one_v24_1) rfl N8 rfl ?_
  refine A4 (A2 ?_)
  refine A1 rfl (G0 rfl (A0 rfl) B4 (by first | omega | (simp only [C8, A7, szR] at *; omega))) ?_
  refine A5 rfl ?_
  refine A4 ?_
  refine O2 i v (i + 1) (v24_1) ?_ ?_ (Le.trans (F8 [0, 0, 0] rfl) (K0 1 (by (rw [List.take_add_one, hx, List.map_append]; rfl)) ⟨rfl, rfl, rfl, rfl, rfl, rfl, trivial⟩))
  ·exact (by omega)
  omega
 intro h16
 have k16 := of_decide_eq_false h16; try simp only [A8] at k16
 have hge : d.States.length ≤ i := by (simpa using h16)
 rw [List.take_of_length_le hge]
 refine G1 ?_
 refine A3 (A3 (A2 ?_))
 refine A1 rfl (B1 2 rfl E8 rfl U4 (A0 rfl) rfl) ?_
 refine A1 rfl (B0 3 rfl (A0 rfl) rfl V7 rfl) ?_
 refine A1 rfl (F6 rfl I0 (A0 rfl)) ?_
 refine A1 rfl (B8 rfl B4) ?_
 refine A4 (C7 ?_)
 refine W5 32 3 ?_
 refine AWP.le (F8 [1, 0, 0] rfl) ?_
 refine P3 [(2, _), (3, _), (28, _), (29, _)] _ (fun (j : Nat) (u : Value) => j ≤ d.Orders.length) (fun (j : Nat) (u : Value) => [.box b3 43 [strs d.Cuts, AV.is v, AV.is u], .arr u 32 3 ((d.Orders.take j).map TOrder.cs), .arr v 53 4 (d.States.map TState.cs)]) (fun (j : Nat) (u : Value) => [(30, AV.int j)]) (fun (j : Nat) (u : Value) => d.Orders.length - j) (0) ((Value.slice none 0 0)) ?_ (O8 (by rfl) ⟨rfl, rfl, rfl, rfl, rfl, trivial⟩) ?_
 ·exact Nat.zero_le _
 intro j u hinv
 refine A3 (A2 ?_)
 refine A1 rfl (J8 rfl (A0 rfl) (A0 rfl)) ?_
 refine A4 (A3 ?_)
 refine B9 (A0 rfl) ?_ ?_
 ·intro h31
  have k31 := of_decide_eq_true h31; try simp only [A8] at k31
  have hltj : j < d.Orders.length := by (simpa using h31)
  obtain ⟨y, hy⟩ := get_some hltj
  have hys := b.orders y (F9 hy)
  refine C3 (A3 (C7 (A3 (A2 ?_))))
  refine A1 rfl (I2 rfl I0 H4 (A0 rfl) (A0 rfl) hy (by first | omega | (simp only [C8, A7, szR] at *; omega))) ?_
  refine A1 rfl (K6 rfl (A0 rfl) Q4 H4) ?_
  refine F5 rfl rfl rfl rfl Tryz.zeroValue32 rfl ?_
  intro b7
  refine D2 0 rfl rfl rfl (A0 rfl) (A0 rfl) (D6 _) rfl H4 rfl ?_
  refine A4 ?_
  refine S9 5 (by kernel_rfl) (by kernel_rfl) rfl ?_
  refine B2 rfl rfl (B1 2 rfl E8 rfl U4 (A0 rfl) rfl) ?_
  refine B2 rfl rfl (B0 1 rfl (A0 rfl) rfl V7 rfl) ?_
  refine B2 rfl rfl (F1 0 rfl (A0 rfl) rfl Q4 H4 rfl) ?_
  refine B2 rfl rfl (D7 rfl Tryz.call88 rfl (Aj1 y (by omega)) (A6 (A0 rfl) C0)) ?_
  refine B2 rfl rfl (K9 rfl I0 H4 Tryz.zeroValue32 rfl rfl rfl rfl (D0 (A0 rfl) (D6 _) G9) rfl rfl) ?_
  refine P7 ?_
  refine L2 (by' := 56) 2 rfl rfl rfl rfl I0 Tryz.type32 rfl rfl rfl rfl rfl rfl (A0 rfl) (A0 rfl) rfl (by simp only [A8, D9, A7]; omega) ?_
  intro v39_2
  refine A1 rfl (B1 2 rfl E8 rfl U4 (A0 rfl) rfl) ?_
  refine T8 2 rfl fun one_v39_2 => ?_
  refine K8 1 rfl rfl rfl (A0 rfl) (A0 rfl) (U2 one_v39_2) rfl U4 rfl ?_
  refine A4 (A2 ?_)
  refine A1 rfl (G0 rfl (A0 rfl) B4 (by first | omega | (simp only [C8, A7, szR] at *; omega))) ?_
  refine A5 rfl ?_
  refine A4 ?_
  refine O2 j u (j + 1) (v39_2) ?_ ?_ (Le.trans (F8 [0, 0, 0, 0] rfl) (K0 1 (by (rw [List.take_add_one, hy, List.map_append]; rfl)) ⟨rfl, rfl, rfl, rfl, rfl, trivial⟩))
  ·exact (by omega)
  omega
 intro h31
 have k31 := of_decide_eq_false h31; try simp only [A8] at k31
 have hgej : d.Orders.length ≤ j := by (simpa using h31)
 rw [List.take_of_length_le hgej]
 refine G1 ?_
 refine A3 (A2 ?_)
 refine A1 rfl (F1 0 rfl (A0 rfl) rfl K5 F4 rfl) ?_
 refine D2 3 rfl rfl rfl (A0 rfl) (A0 rfl) (D6 _) rfl F4 rfl ?_
 refine A4 ?_
 refine C2 ?_
 exact L5 [2, 1] (v, u) (trivial) rfl (by rfl) (P0 rfl (J9 (ys := _) 3 rfl rfl K5 F4 rfl))
end Go.Proofs.YtoaoicnnimjbeaaGreat

namespace Go.M
open Go.AV
def keyD : List Str := [[97], [98], [99], [109], [110], [122], [114, 47, 49], [105, 47, 120, 47, 49]]
def valD : List Str := [[], [49], [55], [49, 48], [45, 51], [120], [97, 44, 98, 95, 99]]
def keyS : List Str := [[97], [98], [99], [105, 47, 120, 47, 49], [109], [110], [114, 47, 49], [122]]
theorem AH7 {k : Str} (h : k ∈ keyD) : goodKey k = true ∧ k.length ≤ 5 := by
  have : ∀ k ∈ keyD, goodKey k = true ∧ k.length ≤ 5 := by decide
  exact this k h
theorem An6 {k : Str} (h : k ∈ keyS) : goodKey k = true ∧ k.length ≤ 5 := by
  have : ∀ k ∈ keyS, goodKey k = true ∧ k.length ≤ 5 := by decide
  exact this k h
theorem An7 {k : Str} (h : k ∈ valD) : isStored k false = true := by
  have : ∀ k ∈ valD, isStored k false = true := by decide
  exact this k h
theorem keyS_srt : SrtS keyS := by unfold SrtS; decide
structure WD (l : List TWrite) : Prop where
  keys : (wKeys l).Sublist keyS
  vals : ∀ w ∈ l, isStored w.Val w.Gone = true
theorem WD.len {l : List TWrite} (h : WD l) : l.length ≤ 8 := by
  have := h.keys.length_le
  rw [show (wKeys l).length = l.length from A8 _] at this
  exact this
theorem An8 {l : List Str} (h1 : ∀ k ∈ l, goodKey k = true) (h2 : SrtS l) : areRising l = true := by
  unfold areRising
  rw [List.all_eq_true.2 h1, (y8 (p := Op.bytesLess) (fun _ _ _ => Q1)).2 h2]; rfl
theorem WD.good {l : List TWrite} (h : WD l) : goodWrites l = true := by
  have hl := h.len
  unfold goodWrites
  rw [decide_eq_true (by omega), An8 (fun k hk => (An6 (h.keys.subset hk)).1) (List.Pairwise.sublist h.keys keyS_srt), show (l.any fun w => !isStored w.Val w.Gone) = false from List.any_eq_false.2 fun w hw => by rw [h.vals w hw]; decide]; rfl
theorem AD9 {n : Int} {rs : List Str} {ws : List TWrite} (hn : 1 ≤ n ∧ n ≤ 60) (hr : SrtS rs) (hk : ∀ k ∈ rs, goodKey k = true) (hl : rs.length ≤ 8) (hw : WD ws) (h0 : 0 < rs.length + ws.length) : orderR ⟨n, rs, ws⟩ = true := by
  have h8 := hw.len
  unfold orderR goodRec good1
  rw [if_pos rfl]
  dsimp only
  rw [Ae6.2 hn, hw.good, An8 hk hr, decide_eq_true (p := (rs.length : Int) ≤ 8) (by omega), decide_eq_true (p := (ws.length : Int) ≤ 8) (by omega), decide_eq_true (p := 0 < (rs.length : Int) + (ws.length : Int)) (by omega)]
  decide
end Go.M
namespace Go.Proofs.YtoaoicnnimjbeaaGreat
open Go Go.AV Go.M
attribute [local irreducible] OpW OpA OpS AWP FSpec ESpec GSpec OpE RetOk RetOkG RvDen Le Ev GuardIs SrcIs SrcE Int.tmod IntKind.wrap bandI
theorem Ag2 (b : Nat) (code : List Int) (hcode : ByteL code) (c : TCur) (l : List Str) (hl : 1 ≤ l.length ∧ l.length ≤ 1000) (hp : c.p ≤ 7000000) : GSpec Tryz.prog 26 [AV.ptr b 0, strs l] [.box b 64 (curC code c)] (fun x : TCur × Str => x.1.p ≤ c.p + 2 ∧ x.2 ∈ l) (fun x => [.box b 64 (curC code x.1)]) (fun x => AV.str x.2) := by
 obtain ⟨hl1, hl2⟩ := hl
 refine H3 Tryz.func26 rfl Tryz.ntmps26 rfl ?_
 refine A3 (A2 ?_)
 refine A1 rfl (B6 rfl (N0 (l := []) rfl)) ?_
 refine A4 (A3 (A2 ?_))
 refine A5 rfl ?_
 refine A5 rfl ?_
 refine A5 rfl ?_
 refine A1 rfl (F6 rfl C9 (A0 rfl)) ?_
 refine H9 [0] rfl rfl rfl rfl Tryz.call34 rfl (R4 _ _ hcode _ _ (by simp only [A8]; omega) (by omega)) (A6 (A0 rfl) (A6 (A0 rfl) C0)) rfl ?_
 intro x9 ok9
 simp only [A8] at ok9
 obtain ⟨y, hy⟩ := get_some (show x9.2.toNat < l.length by omega)
 refine A1 rfl (I2 rfl C9 E3 (A0 rfl) (A0 rfl) hy (by omega)) ?_
 refine A1 rfl (L6 rfl (A0 rfl) G3 rfl) ?_
 refine B3 rfl ?_
 refine A4 ?_
 refine C2 ?_
 (refine L5 [0] ((_, _)) ?_ rfl (by first | (dsimp only; rfl) | rfl) (P0 rfl (C1 rfl (by rfl))); exact ⟨ok9.1, F9 hy⟩)
theorem AZ6 (b : Nat) (code : List Int) (hcode : ByteL code) (c : TCur) (hp : c.p ≤ 6000000) : GSpec Tryz.prog 67 [AV.ptr b 0] [.box b 64 (curC code c)] (fun x : TCur × Str => x.1.p ≤ c.p + 2 ∧ x.2 ∈ keyD) (fun x => [.box b 64 (curC code x.1)]) (fun x => AV.str x.2) := by
 refine H3 Tryz.func67 rfl Tryz.ntmps67 rfl ?_
 refine A3 (A2 ?_)
 refine A1 rfl (B6 rfl (N0 (l := []) rfl)) ?_
 refine A4 (A3 (A2 ?_))
 refine A5 rfl ?_
 refine A1 rfl (K9 rfl C9 E3 Tryz.zeroValue9 rfl rfl rfl rfl (D0 (N0 (l := [97]) rfl) (L7 _) (D0 (N0 (l := [98]) rfl) (L7 _) (D0 (N0 (l := [99]) rfl) (L7 _) (D0 (N0 (l := [109]) rfl) (L7 _) (D0 (N0 (l := [110]) rfl) (L7 _) (D0 (N0 (l := [122]) rfl) (L7 _) (D0 (N0 (l := [114, 47, 49]) rfl) (L7 _) (D0 (N0 (l := [105, 47, 120, 47, 49]) rfl) (L7 _) G9)))))))) rfl rfl) ?_
 refine H9 [0] rfl rfl rfl rfl Tryz.call26 rfl (Ag2 _ _ hcode _ keyD (by decide) (by omega)) (A6 (A0 rfl) (A6 (A0 rfl) C0)) rfl ?_
 intro x5 ok5
 refine B3 rfl ?_
 refine A4 ?_
 refine C2 ?_
 (refine L5 [0] ((_, _)) ?_ rfl (by first | (dsimp only; rfl) | rfl) (P0 rfl (C1 rfl (by rfl))); exact ok5)
theorem BB0 (b : Nat) (code : List Int) (hcode : ByteL code) (c : TCur) (hp : c.p ≤ 6000000) : GSpec Tryz.prog 141 [AV.ptr b 0] [.box b 64 (curC code c)] (fun x : TCur × Str => x.1.p ≤ c.p + 2 ∧ x.2 ∈ valD) (fun x => [.box b 64 (curC code x.1)]) (fun x => AV.str x.2) := by
 refine H3 Tryz.func141 rfl Tryz.ntmps141 rfl ?_
 refine A3 (A2 ?_)
 refine A1 rfl (B6 rfl (N0 (l := []) rfl)) ?_
 refine A4 (A3 (A2 ?_))
 refine A5 rfl ?_
 refine A1 rfl (K9 rfl C9 E3 Tryz.zeroValue9 rfl rfl rfl rfl (D0 (N0 (l := []) rfl) (L7 _) (D0 (N0 (l := [49]) rfl) (L7 _) (D0 (N0 (l := [55]) rfl) (L7 _) (D0 (N0 (l := [49, 48]) rfl) (L7 _) (D0 (N0 (l := [45, 51]) rfl) (L7 _) (D0 (N0 (l := [120]) rfl) (L7 _) (D0 (N0 (l := [97, 44, 98, 95, 99]) rfl) (L7 _) G9))))))) rfl rfl) ?_
 refine H9 [0] rfl rfl rfl rfl Tryz.call26 rfl (Ag2 _ _ hcode _ valD (by decide) (by omega)) (A6 (A0 rfl) (A6 (A0 rfl) C0)) rfl ?_
 intro x5 ok5
 refine B3 rfl ?_
 refine A4 ?_
 refine C2 ?_
 (refine L5 [0] ((_, _)) ?_ rfl (by first | (dsimp only; rfl) | rfl) (P0 rfl (C1 rfl (by rfl))); exact ok5)
theorem Ax3 {s : Str} (h : s ∈ valD) : s.length ≤ 64 := by
  have : ∀ k ∈ valD, k.length ≤ 64 := by decide
  exact this s h
theorem Aq5 (b : Nat) (code : List Int) (hcode : ByteL code) (c : TCur) (key : Str) (hp : c.p ≤ 5000000) : GSpec Tryz.prog 99 [AV.ptr b 0, AV.str key] [.box b 64 (curC code c)] (fun x : TCur × TWrite => x.1.p ≤ c.p + 4 ∧ x.2.Key = key ∧ x.2.Val.length ≤ 64 ∧ isStored x.2.Val x.2.Gone = true) (fun x => [.box b 64 (curC code x.1)]) (fun x => AV.agg x.2.cs) := by
 refine H3 Tryz.func99 rfl Tryz.ntmps99 rfl ?_
 refine A3 (A2 ?_)
 refine F5 rfl rfl rfl rfl Tryz.zeroValue79 rfl ?_
 intro b4
 refine A4 (A3 (A3 (A2 ?_)))
 refine A5 rfl ?_
 refine H9 [1] rfl rfl rfl rfl Tryz.call49 rfl (n6 _ _ hcode _ _ (by omega) (by omega)) (A6 (A0 rfl) (A6 B4 C0)) rfl ?_
 intro x6 ok6
 refine A4 ?_
 refine B9 (A0 rfl) ?_ ?_
 ·intro h6
  refine A3 (A2 ?_)
  refine A5 rfl ?_
  refine A1 rfl (N5 (places := #[(0, 1), (1, 1), (2, 1)]) rfl J3 Tryz.zeroValue79 (fun w => by kernel_rfl) rfl (D0 (A0 rfl) (L7 _) (D0 E9 (f6 _) G9)) rfl) ?_
  refine D2 1 rfl rfl rfl (A0 rfl) (A0 rfl) (D6 _) rfl E5 rfl ?_
  refine A4 ?_
  refine C2 ?_
  (refine L5 [0] ((_, ⟨_, _, _⟩)) ?_ rfl (by first | (dsimp only; rfl) | rfl) (P0 rfl (J9 (ys := _) 1 rfl rfl P8 E5 rfl)); (dsimp only; first | exact ⟨by omega, rfl, by simp, by decide⟩ | exact ⟨by omega, rfl, Ax3 ok11.2, An7 ok11.2⟩))
 intro h6
 refine C3 (A3 (A2 ?_))
 refine A5 rfl ?_
 refine A5 rfl ?_
 refine H9 [0] rfl rfl rfl rfl Tryz.call141 rfl (BB0 _ _ hcode _ (by omega)) (A6 (A0 rfl) C0) rfl ?_
 intro x11 ok11
 refine A1 rfl (N5 (places := #[(0, 1), (1, 1), (2, 1)]) rfl J3 Tryz.zeroValue79 (fun w => by kernel_rfl) rfl (D0 (A0 rfl) (L7 _) (D0 (A0 rfl) (L7 _) G9)) rfl) ?_
 refine D2 1 rfl rfl rfl (A0 rfl) (A0 rfl) (D6 _) rfl E5 rfl ?_
 refine A4 ?_
 refine C2 ?_
 (refine L5 [0] ((_, ⟨_, _, _⟩)) ?_ rfl (by first | (dsimp only; rfl) | rfl) (P0 rfl (J9 (ys := _) 1 rfl rfl P8 E5 rfl)); (dsimp only; first | exact ⟨by omega, rfl, by simp, by decide⟩ | exact ⟨by omega, rfl, Ax3 ok11.2, An7 ok11.2⟩))
theorem AL7 (b : Nat) (code : List Int) (hcode : ByteL code) (c : TCur) (hp : c.p ≤ 3000000) : GSpec Tryz.prog 65 [AV.ptr b 0] [.box b 64 (curC code c)] (fun x : TCur × List TWrite × Value => x.1.p ≤ c.p + 48 ∧ sizeL TWrite.size x.2.1 ≤ 560 ∧ WD x.2.1) (fun x => [.box b 64 (curC code x.1), .arr x.2.2 79 3 (x.2.1.map TWrite.cs)]) (fun x => AV.is x.2.2) := by
 refine H3 Tryz.func65 rfl Tryz.ntmps65 rfl ?_
 refine A3 (A2 ?_)
 refine A1 rfl (B6 rfl L4) ?_
 refine A4 (A3 (A2 ?_))
 refine S0 79 3 rfl rfl rfl rfl L4 ?_
 intro v3
 refine A4 (A3 (A3 (A2 ?_)))
 refine A1 rfl (K9 rfl C9 E3 Tryz.zeroValue9 rfl rfl rfl rfl (D0 (N0 (l := [97]) rfl) (L7 _) (D0 (N0 (l := [98]) rfl) (L7 _) (D0 (N0 (l := [99]) rfl) (L7 _) (D0 (N0 (l := [105, 47, 120, 47, 49]) rfl) (L7 _) (D0 (N0 (l := [109]) rfl) (L7 _) (D0 (N0 (l := [110]) rfl) (L7 _) (D0 (N0 (l := [114, 47, 49]) rfl) (L7 _) (D0 (N0 (l := [122]) rfl) (L7 _) G9)))))))) rfl rfl) ?_
 refine A1 rfl (F6 rfl C9 (A0 rfl)) ?_
 refine A1 rfl (B8 rfl B4) ?_
 refine A4 (C7 ?_)
 refine AWP.le (F8 [1, 0] rfl) ?_
 refine d8 [(0, _), (2, _), (6, _), (7, _)] _ (fun (i : Nat) (cc : TCur) (l : List TWrite) (v : Value) => i ≤ 8 ∧ cc.p ≤ c.p + 6 * i ∧ sizeL TWrite.size l ≤ 70 * i ∧ (wKeys l).Sublist (keyS.take i) ∧ ∀ w ∈ l, isStored w.Val w.Gone = true) (fun (i : Nat) (cc : TCur) (l : List TWrite) (v : Value) => [.box b 64 (curC code cc), .arr v 79 3 (l.map TWrite.cs)]) (fun (i : Nat) (cc : TCur) (l : List TWrite) (v : Value) => [(3, AV.is v), (8, AV.int i)]) (fun (i : Nat) (cc : TCur) (l : List TWrite) (v : Value) => 8 - i) (0) (c) ([]) (v3) ?_ (O8 (by rfl) ⟨rfl, rfl, rfl, rfl, rfl, rfl, trivial⟩) ?_
 ·exact ⟨by omega, by omega, by simp [sizeL], List.nil_sublist _, fun w hw => by cases hw⟩
 intro i cc l v hinv
 refine A3 (A2 ?_)
 refine A1 rfl (J8 rfl (A0 rfl) (A0 rfl)) ?_
 refine A4 (A3 ?_)
 refine B9 (A0 rfl) ?_ ?_
 ·intro h9
  have k9 := of_decide_eq_true h9; try simp only [A8] at k9
  have hlt : i < 8 := by simp only [A7] at k9; omega
  obtain ⟨y, hy⟩ := get_some (show i < keyS.length from hlt)
  have hyl := (An6 (F9 hy)).2
  have hyy : (keyS.map fun s => [AV.str s])[i]? = some [AV.str y] := by rw [List.getElem?_map, hy]; rfl
  have hll : l.length ≤ 560 := by have := O4 (f := TWrite.size) (l := l); omega
  refine C3 (A3 (C7 (A3 (A2 ?_))))
  refine A1 rfl (n4 rfl C9 E3 (A0 rfl) (A0 rfl) (by omega) (by rw [Int.toNat_natCast]; exact hyy)) ?_
  refine A1 rfl (L6 rfl (A0 rfl) G3 rfl) ?_
  refine B3 rfl ?_
  refine A4 (A3 (A2 ?_))
  refine A5 rfl ?_
  refine H9 [0] rfl rfl rfl rfl Tryz.call49 rfl (n6 _ _ hcode _ _ (by omega) (by omega)) (A6 (A0 rfl) (A6 B4 C0)) rfl ?_
  intro x13 ok13
  refine A4 ?_
  refine B9 (A0 rfl) ?_ ?_
  ·intro h13
   refine A2 ?_
   refine A5 rfl ?_
   refine A5 rfl ?_
   refine A5 rfl ?_
   refine H9 [0] rfl rfl rfl rfl Tryz.call99 rfl (Aq5 _ _ hcode _ _ (by omega)) (A6 (A0 rfl) (A6 (A0 rfl) C0)) rfl ?_
   intro x17 ok17
   refine A1 rfl (K9 rfl D1 E5 Tryz.zeroValue79 rfl rfl rfl rfl (D0 (A0 rfl) (D6 _) G9) rfl rfl) ?_
   refine L2 (by' := 40) 1 rfl rfl rfl rfl D1 Tryz.type79 rfl rfl rfl rfl rfl rfl (A0 rfl) (A0 rfl) rfl (by first | omega | (simp only [C8, A7, szR] at *; omega)) ?_
   intro v19_1
   refine B3 rfl ?_
   refine A4 (A2 ?_)
   refine A1 rfl (G0 rfl (A0 rfl) B4 (by first | omega | (simp only [C8, A7, szR] at *; omega))) ?_
   refine A5 rfl ?_
   refine A4 ?_
   refine V9 i cc l v (i + 1) (x17.1) (l ++ [x17.2]) (v19_1) ?_ ?_ (Le.trans (F8 [0, 0] rfl) (O8 (by first | rfl | (rw [List.map_append]; rfl)) ⟨rfl, rfl, rfl, rfl, rfl, rfl, trivial⟩))
   ·exact ⟨by omega, by omega, by (have h9 : x17.2.size ≤ 69 := by unfold TWrite.size; rw [ok17.2.1]; omega); rw [show sizeL TWrite.size (l ++ [x17.2]) = sizeL TWrite.size l + x17.2.size + 1 from by unfold sizeL; simp; omega]; omega, by rw [List.take_add_one, hy, show wKeys (l ++ [x17.2]) = wKeys l ++ [x17.2.Key] from List.map_append, ok17.2.1]; exact List.Sublist.append hinv.2.2.2.1 (List.Sublist.refl _), fun w hw => by (rcases List.mem_append.1 hw with hw | hw; (exact hinv.2.2.2.2 w hw); (rw [List.mem_singleton.1 hw]; exact ok17.2.2.2))⟩
   omega
  intro h13
  refine C3 (A2 ?_)
  refine A1 rfl (G0 rfl (A0 rfl) B4 (by first | omega | (simp only [C8, A7, szR] at *; omega))) ?_
  refine A5 rfl ?_
  refine A4 ?_
  refine V9 i cc l v (i + 1) (x13.1) (l) (v) ?_ ?_ (Le.trans (F8 [0, 0] rfl) (O8 (by first | rfl | (rw [List.map_append]; rfl)) ⟨rfl, rfl, rfl, rfl, rfl, rfl, trivial⟩))
  ·exact ⟨by omega, by omega, by omega, by rw [List.take_add_one]; exact hinv.2.2.2.1.trans (List.sublist_append_left _ _), hinv.2.2.2.2⟩
  omega
 intro h9
 have k9 := of_decide_eq_false h9; try simp only [A8] at k9
 refine G1 ?_
 refine A3 (A2 ?_)
 refine A5 rfl ?_
 refine B3 rfl ?_
 refine A4 ?_
 refine C2 ?_
 (refine L5 [0, 0] ((cc, l, v)) ?_ rfl (by first | (dsimp only; rfl) | rfl) (P0 rfl (C1 rfl (by rfl))); exact ⟨show cc.p ≤ _ by omega, show sizeL TWrite.size l ≤ _ by omega, ⟨hinv.2.2.2.1.trans (List.take_sublist _ _), hinv.2.2.2.2⟩⟩)
end Go.Proofs.YtoaoicnnimjbeaaGreat

namespace Go.M
open Go.AV
structure OI (n : Int) (l : List TOrder) : Prop where
  good : ∀ o ∈ l, orderR o = true ∧ o.Txn < n
  nodup : (l.map TOrder.Txn).Nodup
theorem oi_nil {n : Int} : OI n [] := ⟨fun o ho => (by cases ho), List.Pairwise.nil⟩
theorem AX1 {n : Int} {l : List TOrder} {o : TOrder} (h : OI n l) (e : o.Txn = n) (ho : orderR o = true) : OI (n + 1) (l ++ [o]) where
  good := fun q hq => by
    rcases List.mem_append.1 hq with hq | hq
    · have := h.good q hq; exact ⟨this.1, by omega⟩
    · rw [List.mem_singleton.1 hq]; exact ⟨ho, by omega⟩
  nodup := by
    rw [List.map_append, List.nodup_append]
    refine ⟨h.nodup, by simp, fun a ha b hb => ?_⟩
    obtain ⟨q, hq, rfl⟩ := List.mem_map.1 ha
    simp at hb; subst hb
    have := (h.good q hq).2
    omega
theorem BE3 {n : Int} {l : List TOrder} (h : OI n l) (hl : l.length ≤ 8) : goodOs l = true := by
  unfold goodOs
  rw [List.all_eq_true.2 fun o ho => (h.good o ho).1, decide_eq_true h.nodup, decide_eq_true hl]; rfl
end Go.M
namespace Go.Proofs.YtoaoicnnimjbeaaGreat
open Go Go.AV Go.M
attribute [local irreducible] OpW OpA OpS AWP FSpec ESpec GSpec OpE RetOk RetOkG RvDen Le Ev GuardIs SrcIs SrcE Int.tmod IntKind.wrap bandI
theorem AL8 (b : Nat) (code : List Int) (hcode : ByteL code) (c : TCur) (hp : c.p ≤ 800000) : GSpec Tryz.prog 33 [AV.ptr b 0] [.box b 64 (curC code c)] (fun x : TCur × List TOrder × Value => x.1.p ≤ c.p + 402 ∧ x.2.1.length ≤ 4 ∧ (∀ o ∈ x.2.1, o.size ≤ 1000) ∧ goodOs x.2.1 = true) (fun x => [.box b 64 (curC code x.1), .arr x.2.2 32 3 (x.2.1.map TOrder.cs)]) (fun x => AV.is x.2.2) := by
 refine H3 Tryz.func33 rfl Tryz.ntmps33 rfl ?_
 refine A3 (A2 ?_)
 refine A1 rfl (B6 rfl L4) ?_
 refine A4 (A3 (A2 ?_))
 refine S0 32 3 rfl rfl rfl rfl L4 ?_
 intro v3
 refine A4 (A3 (A3 (A2 ?_)))
 refine A1 rfl (B6 rfl B4) ?_
 refine A4 (C7 ?_)
 refine AWP.le (F8 [1, 0] rfl) ?_
 refine d8 [(0, _), (2, _)] _ (fun (n : Int) (cc : TCur) (l : List TOrder) (v : Value) => (1 ≤ n ∧ n ≤ 5) ∧ l.length + 1 ≤ n ∧ cc.p ≤ c.p + 100 * (n - 1) ∧ (∀ o ∈ l, o.size ≤ 1000) ∧ OI n l) (fun (n : Int) (cc : TCur) (l : List TOrder) (v : Value) => [.box b 64 (curC code cc), .arr v 32 3 (l.map TOrder.cs)]) (fun (n : Int) (cc : TCur) (l : List TOrder) (v : Value) => [(3, AV.is v), (4, AV.int n)]) (fun (n : Int) (cc : TCur) (l : List TOrder) (v : Value) => (5 - n).toNat) (1) (c) ([]) (v3) ?_ (O8 (by rfl) ⟨rfl, rfl, rfl, rfl, trivial⟩) ?_
 ·exact ⟨⟨by omega, by omega⟩, by simp, by omega, fun o ho => (by cases ho), oi_nil⟩
 intro n cc l v hinv
 refine A3 (A3 (A2 ?_))
 refine A5 rfl ?_
 refine A1 rfl (X2 rfl (A0 rfl) B4) ?_
 refine A5 rfl ?_
 refine D3 rfl (fun hc => B8 rfl (A0 rfl)) ?_
 refine AA1 rfl rfl (I9 rfl rfl rfl) ?_ ?_
 ·intro gh11
  refine H9 [0] rfl rfl rfl rfl Tryz.call49 rfl (n6 _ _ hcode _ _ (by omega) (by omega)) (A6 (A9 rfl gh11) (A6 B4 C0)) rfl ?_
  intro x11 ok11
  refine D3 rfl (fun hc => M2 rfl (A0 rfl)) ?_
  refine A1 rfl (J5 rfl (A0 rfl) (F7 rfl)) ?_
  refine A4 ?_
  refine B9 (A0 rfl) ?_ ?_
  ·intro h13
   have hinv0 := hinv
   have hn4 : n ≤ 4 := by (simp only [Bool.and_eq_true, decide_eq_true_eq] at h13; omega)
   refine C3 (A3 (C7 (A3 (A2 ?_))))
   refine A5 rfl ?_
   refine A5 rfl ?_
   refine H9 [0] rfl rfl rfl rfl Tryz.call65 rfl (AL7 _ _ hcode _ (by omega)) (A6 (A0 rfl) C0) rfl ?_
   intro x18 ok18
   have hwl := O4 (f := TWrite.size) (l := x18.2.1)
   have hwd := ok18.2.2
   refine T8 1 rfl fun one_x18_2_2 => ?_
   refine A1 rfl (N5 (places := #[(0, 1), (1, 1), (2, 1)]) rfl H1 Tryz.zeroValue32 (fun w => by kernel_rfl) rfl (D0 (A0 rfl) (L8 _ _) (D0 (A0 rfl) (U2 one_x18_2_2) G9)) rfl) ?_
   refine F5 rfl rfl rfl rfl Tryz.zeroValue32 rfl ?_
   intro b5
   refine D2 0 rfl rfl rfl (A0 rfl) (A0 rfl) (D6 _) rfl H4 rfl ?_
   refine A4 (A3 (A3 (A2 ?_)))
   refine A5 rfl ?_
   refine H9 [1] rfl rfl rfl rfl Tryz.call34 rfl (R4 _ _ hcode _ _ (by omega) (by omega)) (A6 (A0 rfl) (A6 B4 C0)) rfl ?_
   intro x21 ok21
   refine B3 rfl ?_
   refine A4 (C7 ?_)
   refine W5 9 1 ?_
   refine AWP.le (F8 [2, 1, 0, 0, 0] rfl) ?_
   refine d8 [(0, _), (2, _), (3, _), (4, _), (5, _), (7, _), (8, _), (9, _), (11, _), (13, _), (16, _), (17, _), (18, _), (19, _), (20, _), (21, _)] _ (fun (m : Int) (c2 : TCur) (rs : List Str) (u : Value) => (0 ≤ m ∧ m + rs.length ≤ 3) ∧ c2.p + 4 * m ≤ cc.p + 90 ∧ SrtS rs ∧ sizeL (fun x : Str => x.length) rs + 70 * m ≤ 210 ∧ ∀ k ∈ rs, k ∈ keyD) (fun (m : Int) (c2 : TCur) (rs : List Str) (u : Value) => [.box b5 32 [AV.int n, AV.is u, AV.is x18.2.2], .box b 64 (curC code c2), .arr u 9 1 (rs.map fun t => [AV.str t]), .arr x18.2.2 79 3 (x18.2.1.map TWrite.cs), .arr v 32 3 (l.map TOrder.cs)]) (fun (m : Int) (c2 : TCur) (rs : List Str) (u : Value) => [(6, AV.int m)]) (fun (m : Int) (c2 : TCur) (rs : List Str) (u : Value) => m.toNat) (x21.2) (x21.1) ([]) ((Value.slice none 0 0)) ?_ (O8 (by rfl) ⟨rfl, rfl, rfl, rfl, rfl, rfl, rfl, rfl, rfl, rfl, rfl, rfl, rfl, rfl, rfl, rfl, rfl, trivial⟩) ?_
   ·exact ⟨⟨by omega, by simp; omega⟩, by omega, List.Pairwise.nil, (by simp [sizeL]; omega), fun k hk => by cases hk⟩
   intro m c2 rs u hinv
   refine A3 (A3 (A2 ?_))
   refine A5 rfl ?_
   refine A1 rfl (R8 rfl (A0 rfl) B4) ?_
   refine A4 ?_
   refine B9 (A0 rfl) ?_ ?_
   ·intro h23
    have k23 := of_decide_eq_true h23; try simp only [A8] at k23
    refine C3 (A3 (C7 ?_))
    refine AWP.le (F8 [0, 0, 0] rfl) ?_
    refine V3 _ [(0, false), (1, false), (2, false), (3, true), (4, true)] (by kernel_rfl) (by kernel_rfl) rfl (V2 1) ?_
    refine H7 rfl rfl rfl (fun ext => B1 1 rfl H1 rfl H5 (A0 rfl) rfl) ?_
    refine H7 rfl rfl rfl (fun ext => B0 0 rfl (A0 rfl) rfl K7 rfl) ?_
    refine H7 rfl rfl rfl (fun ext => B8 rfl (A0 rfl)) ?_
    refine V4 rfl rfl rfl (Y0 [1] rfl Tryz.call67 rfl (AZ6 _ _ hcode _ (by omega)) (A6 (A0 rfl) C0) rfl) (fun a _ => (by first | exact E1 rfl | exact E1 (List.append_assoc _ _ _) | exact H6)) ?_
    intro x29 ok29
    refine V4 rfl rfl rfl (Y0 [1] rfl Tryz.call66 rfl (n7 u rs x29.2 hinv.2.2.1 (by omega)) (A6 (A0 rfl) (A6 (A0 rfl) C0)) rfl) (fun a _ => (by first | exact E1 rfl | exact E1 (List.append_assoc _ _ _) | exact H6)) ?_
    intro x30 ok30
    refine l4 ?_
    refine A1 rfl (B1 1 rfl H1 rfl H5 (A0 rfl) rfl) ?_
    refine T8 4 rfl fun one_x30 => ?_
    refine K8 0 rfl rfl rfl (A0 rfl) (A0 rfl) (U2 one_x30) rfl H5 rfl ?_
    refine A4 (A2 ?_)
    refine A5 rfl ?_
    refine A1 rfl (R7 rfl (A0 rfl) B4 (by first | omega | (simp only [C8, A7, szR] at *; omega))) ?_
    refine B3 rfl ?_
    refine A4 ?_
    refine V9 m c2 rs u (m - 1) (x29.1) (putS rs x29.2) (x30) ?_ ?_ (Le.trans (F8 [0, 2, 2, 0, 0] rfl) (O8 (by rfl) ⟨rfl, rfl, rfl, rfl, rfl, rfl, rfl, rfl, rfl, rfl, rfl, rfl, rfl, rfl, rfl, rfl, rfl, trivial⟩))
    ·(have h9 := AF1 x29.2 rs; have h8 := AH4 x29.2 rs; have h7 := (AH7 ok29.2).2; exact ⟨⟨by omega, by omega⟩, by omega, (s9 hinv.2.2.1).1, by omega, fun k hk => by (rcases ((s9 hinv.2.2.1).2 k).1 hk with hk | hk; (exact hinv.2.2.2.2 k hk); (rw [hk]; exact ok29.2))⟩)
    omega
   intro h23
   have k23 := of_decide_eq_false h23; try simp only [A8] at k23
   refine G1 ?_
   refine A3 (A3 (A2 ?_))
   refine A1 rfl (B1 1 rfl H1 rfl H5 (A0 rfl) rfl) ?_
   refine A1 rfl (B0 0 rfl (A0 rfl) rfl K7 rfl) ?_
   refine A1 rfl (W4 2 rfl C9 (A0 rfl) rfl) ?_
   refine A1 rfl (B1 2 rfl H1 rfl L0 (A0 rfl) rfl) ?_
   refine A1 rfl (B0 0 rfl (A0 rfl) rfl M3 rfl) ?_
   refine A1 rfl (W4 3 rfl D1 (A0 rfl) rfl) ?_
   refine A1 rfl (G0 rfl (A0 rfl) (A0 rfl) (by first | omega | (simp only [C8, A7, szR] at *; omega))) ?_
   refine A1 rfl (O1 rfl (A0 rfl) B4) ?_
   refine A4 ?_
   refine B9 (A0 rfl) ?_ ?_
   ·intro h39
    have k39 := M7 h39; try simp only [A8] at k39
    have hog : orderR ⟨n, [[97]], x18.2.1⟩ = true := AD9 (by omega) (by unfold SrtS; decide) (by decide) (by decide) hwd (by simp only [I5]; omega)
    refine A2 ?_
    refine AD1 rfl rfl rfl rfl C9 E3 Tryz.zeroValue9 rfl rfl rfl rfl (D0 (N0 (l := [97]) rfl) (L7 _) G9) rfl rfl ?_
    intro v40
    refine A1 rfl (B1 1 rfl H1 rfl H5 (A0 rfl) rfl) ?_
    refine T8 0 rfl fun one_v40 => ?_
    refine K8 1 rfl rfl rfl (A0 rfl) (A0 rfl) (U2 one_v40) rfl H5 rfl ?_
    refine A4 (A2 ?_)
    refine A5 rfl ?_
    refine A1 rfl (F1 1 rfl (A0 rfl) rfl Q4 H4 rfl) ?_
    refine r8 (X6 [0, 3] 43 rfl rfl (Z5 (G4 M4 (G4 (M8 (F9 (i := 0) rfl) I7) (G4 (M8 (F9 (i := 1) rfl) I7) U3)))) (O0 1 rfl rfl O3)) ?_
    refine A1 rfl (K9 rfl I0 H4 Tryz.zeroValue32 rfl rfl rfl rfl (D0 (A0 rfl) (D6 _) G9) rfl rfl) ?_
    refine L2 (by' := 56) 3 rfl rfl rfl rfl I0 Tryz.type32 rfl rfl rfl rfl rfl rfl (A0 rfl) (A0 rfl) rfl (by first | omega | (simp only [C8, A7, szR] at *; omega)) ?_
    intro v45_1
    refine B3 rfl ?_
    refine A4 (A2 ?_)
    refine A5 rfl ?_
    refine A1 rfl (G0 rfl (A0 rfl) B4 (by first | omega | (simp only [C8, A7, szR] at *; omega))) ?_
    refine B3 rfl ?_
    refine A4 ?_
    refine V9 n cc l v (n + 1) (c2) (l ++ [⟨n, [[97]], x18.2.1⟩]) (v45_1) ?_ ?_ (Le.trans (F8 [0, 1, 0, 0] rfl) (K0 2 (by (rw [List.map_append]; rfl)) ⟨rfl, rfl, rfl, rfl, trivial⟩))
    ·exact ⟨⟨by omega, by omega⟩, by rw [J6]; simp; omega, by omega, fun q hq => by (rcases List.mem_append.1 hq with hq | hq; (exact hinv0.2.2.2.1 q hq); (rw [List.mem_singleton.1 hq]; have h9 := ok18.2.1; first | (show sizeL (fun x : Str => x.length) rs + sizeL TWrite.size x18.2.1 ≤ 1000; omega) | (show sizeL (fun x : Str => x.length) [[97]] + sizeL TWrite.size x18.2.1 ≤ 1000; rw [show sizeL (fun x : Str => x.length) [[97]] = 2 from rfl]; omega))), AX1 hinv0.2.2.2.2 rfl hog⟩
    omega
   intro h39
   have k39 := M6 h39; try simp only [A8] at k39
   have hog : orderR ⟨n, rs, x18.2.1⟩ = true := AD9 (by omega) hinv.2.2.1 (fun k hk => (AH7 (hinv.2.2.2.2 k hk)).1) (by omega) hwd (by simp only [A8, decide_eq_false_iff_not, beq_eq_false_iff_ne] at h39; omega)
   refine C3 (A2 ?_)
   refine A5 rfl ?_
   refine A1 rfl (F1 0 rfl (A0 rfl) rfl Q4 H4 rfl) ?_
   refine r8 (X6 [2, 2] 43 rfl rfl (Z5 (G4 M4 (G4 (M8 (F9 (i := 0) rfl) I7) (G4 (M8 (F9 (i := 1) rfl) I7) U3)))) (O0 1 rfl rfl O3)) ?_
   refine A1 rfl (K9 rfl I0 H4 Tryz.zeroValue32 rfl rfl rfl rfl (D0 (A0 rfl) (D6 _) G9) rfl rfl) ?_
   refine L2 (by' := 56) 2 rfl rfl rfl rfl I0 Tryz.type32 rfl rfl rfl rfl rfl rfl (A0 rfl) (A0 rfl) rfl (by first | omega | (simp only [C8, A7, szR] at *; omega)) ?_
   intro v45_2
   refine B3 rfl ?_
   refine A4 (A2 ?_)
   refine A5 rfl ?_
   refine A1 rfl (G0 rfl (A0 rfl) B4 (by first | omega | (simp only [C8, A7, szR] at *; omega))) ?_
   refine B3 rfl ?_
   refine A4 ?_
   refine V9 n cc l v (n + 1) (c2) (l ++ [⟨n, rs, x18.2.1⟩]) (v45_2) ?_ ?_ (Le.trans (F8 [0, 0, 0] rfl) (K0 1 (by (rw [List.map_append]; rfl)) ⟨rfl, rfl, rfl, rfl, trivial⟩))
   ·exact ⟨⟨by omega, by omega⟩, by rw [J6]; simp; omega, by omega, fun q hq => by (rcases List.mem_append.1 hq with hq | hq; (exact hinv0.2.2.2.1 q hq); (rw [List.mem_singleton.1 hq]; have h9 := ok18.2.1; first | (show sizeL (fun x : Str => x.length) rs + sizeL TWrite.size x18.2.1 ≤ 1000; omega) | (show sizeL (fun x : Str => x.length) [[97]] + sizeL TWrite.size x18.2.1 ≤ 1000; rw [show sizeL (fun x : Str => x.length) [[97]] = 2 from rfl]; omega))), AX1 hinv0.2.2.2.2 rfl hog⟩
   omega
  intro h13
  refine G1 ?_
  refine A3 (A2 ?_)
  refine A5 rfl ?_
  refine B3 rfl ?_
  refine A4 ?_
  refine C2 ?_
  (refine L5 [0, 0] ((_, l, v)) ?_ rfl (by first | (dsimp only; rfl) | rfl) (P0 rfl (C1 rfl (by rfl))); exact ⟨by dsimp only; omega, (show l.length ≤ 4 by omega), hinv.2.2.2.1, BE3 hinv.2.2.2.2 (by dsimp only; omega)⟩)
 intro gh11
 refine AA1 rfl rfl (I9 rfl rfl rfl) (fun hq => by rw [gh11] at hq; cases hq) (fun _ => ?_)
 refine A1 rfl (J5 rfl (A0 rfl) (Ah9 (x := AV.bool false) gh11)) ?_
 refine A4 ?_
 refine B9 (A0 rfl) ?_ ?_
 ·intro h13
  have hinv0 := hinv
  have hn4 : n ≤ 4 := by (simp only [Bool.and_eq_true, decide_eq_true_eq] at h13; omega)
  refine C3 (A3 (C7 (A3 (A2 ?_))))
  refine A5 rfl ?_
  refine A5 rfl ?_
  refine H9 [0] rfl rfl rfl rfl Tryz.call65 rfl (AL7 _ _ hcode _ (by omega)) (A6 (A0 rfl) C0) rfl ?_
  intro x18 ok18
  have hwl := O4 (f := TWrite.size) (l := x18.2.1)
  have hwd := ok18.2.2
  refine T8 1 rfl fun one_x18_2_2 => ?_
  refine A1 rfl (N5 (places := #[(0, 1), (1, 1), (2, 1)]) rfl H1 Tryz.zeroValue32 (fun w => by kernel_rfl) rfl (D0 (A0 rfl) (L8 _ _) (D0 (A0 rfl) (U2 one_x18_2_2) G9)) rfl) ?_
  refine F5 rfl rfl rfl rfl Tryz.zeroValue32 rfl ?_
  intro b5
  refine D2 0 rfl rfl rfl (A0 rfl) (A0 rfl) (D6 _) rfl H4 rfl ?_
  refine A4 (A3 (A3 (A2 ?_)))
  refine A5 rfl ?_
  refine H9 [1] rfl rfl rfl rfl Tryz.call34 rfl (R4 _ _ hcode _ _ (by omega) (by omega)) (A6 (A0 rfl) (A6 B4 C0)) rfl ?_
  intro x21 ok21
  refine B3 rfl ?_
  refine A4 (C7 ?_)
  refine W5 9 1 ?_
  refine AWP.le (F8 [2, 1, 0, 0, 0] rfl) ?_
  refine d8 [(0, _), (2, _), (3, _), (4, _), (5, _), (7, _), (8, _), (9, _), (11, _), (12, _), (13, _), (16, _), (17, _), (18, _), (19, _), (20, _), (21, _)] _ (fun (m : Int) (c2 : TCur) (rs : List Str) (u : Value) => (0 ≤ m ∧ m + rs.length ≤ 3) ∧ c2.p + 4 * m ≤ cc.p + 90 ∧ SrtS rs ∧ sizeL (fun x : Str => x.length) rs + 70 * m ≤ 210 ∧ ∀ k ∈ rs, k ∈ keyD) (fun (m : Int) (c2 : TCur) (rs : List Str) (u : Value) => [.box b5 32 [AV.int n, AV.is u, AV.is x18.2.2], .box b 64 (curC code c2), .arr u 9 1 (rs.map fun t => [AV.str t]), .arr x18.2.2 79 3 (x18.2.1.map TWrite.cs), .arr v 32 3 (l.map TOrder.cs)]) (fun (m : Int) (c2 : TCur) (rs : List Str) (u : Value) => [(6, AV.int m)]) (fun (m : Int) (c2 : TCur) (rs : List Str) (u : Value) => m.toNat) (x21.2) (x21.1) ([]) ((Value.slice none 0 0)) ?_ (O8 (by rfl) ⟨rfl, rfl, rfl, rfl, rfl, rfl, rfl, rfl, rfl, rfl, rfl, rfl, rfl, rfl, rfl, rfl, rfl, rfl, trivial⟩) ?_
  ·exact ⟨⟨by omega, by simp; omega⟩, by omega, List.Pairwise.nil, (by simp [sizeL]; omega), fun k hk => by cases hk⟩
  intro m c2 rs u hinv
  refine A3 (A3 (A2 ?_))
  refine A5 rfl ?_
  refine A1 rfl (R8 rfl (A0 rfl) B4) ?_
  refine A4 ?_
  refine B9 (A0 rfl) ?_ ?_
  ·intro h23
   have k23 := of_decide_eq_true h23; try simp only [A8] at k23
   refine C3 (A3 (C7 ?_))
   refine AWP.le (F8 [0, 0, 0] rfl) ?_
   refine V3 _ [(0, false), (1, false), (2, false), (3, true), (4, true)] (by kernel_rfl) (by kernel_rfl) rfl (V2 1) ?_
   refine H7 rfl rfl rfl (fun ext => B1 1 rfl H1 rfl H5 (A0 rfl) rfl) ?_
   refine H7 rfl rfl rfl (fun ext => B0 0 rfl (A0 rfl) rfl K7 rfl) ?_
   refine H7 rfl rfl rfl (fun ext => B8 rfl (A0 rfl)) ?_
   refine V4 rfl rfl rfl (Y0 [1] rfl Tryz.call67 rfl (AZ6 _ _ hcode _ (by omega)) (A6 (A0 rfl) C0) rfl) (fun a _ => (by first | exact E1 rfl | exact E1 (List.append_assoc _ _ _) | exact H6)) ?_
   intro x29 ok29
   refine V4 rfl rfl rfl (Y0 [1] rfl Tryz.call66 rfl (n7 u rs x29.2 hinv.2.2.1 (by omega)) (A6 (A0 rfl) (A6 (A0 rfl) C0)) rfl) (fun a _ => (by first | exact E1 rfl | exact E1 (List.append_assoc _ _ _) | exact H6)) ?_
   intro x30 ok30
   refine l4 ?_
   refine A1 rfl (B1 1 rfl H1 rfl H5 (A0 rfl) rfl) ?_
   refine T8 4 rfl fun one_x30 => ?_
   refine K8 0 rfl rfl rfl (A0 rfl) (A0 rfl) (U2 one_x30) rfl H5 rfl ?_
   refine A4 (A2 ?_)
   refine A5 rfl ?_
   refine A1 rfl (R7 rfl (A0 rfl) B4 (by first | omega | (simp only [C8, A7, szR] at *; omega))) ?_
   refine B3 rfl ?_
   refine A4 ?_
   refine V9 m c2 rs u (m - 1) (x29.1) (putS rs x29.2) (x30) ?_ ?_ (Le.trans (F8 [0, 2, 2, 0, 0] rfl) (O8 (by rfl) ⟨rfl, rfl, rfl, rfl, rfl, rfl, rfl, rfl, rfl, rfl, rfl, rfl, rfl, rfl, rfl, rfl, rfl, rfl, trivial⟩))
   ·(have h9 := AF1 x29.2 rs; have h8 := AH4 x29.2 rs; have h7 := (AH7 ok29.2).2; exact ⟨⟨by omega, by omega⟩, by omega, (s9 hinv.2.2.1).1, by omega, fun k hk => by (rcases ((s9 hinv.2.2.1).2 k).1 hk with hk | hk; (exact hinv.2.2.2.2 k hk); (rw [hk]; exact ok29.2))⟩)
   omega
  intro h23
  have k23 := of_decide_eq_false h23; try simp only [A8] at k23
  refine G1 ?_
  refine A3 (A3 (A2 ?_))
  refine A1 rfl (B1 1 rfl H1 rfl H5 (A0 rfl) rfl) ?_
  refine A1 rfl (B0 0 rfl (A0 rfl) rfl K7 rfl) ?_
  refine A1 rfl (W4 2 rfl C9 (A0 rfl) rfl) ?_
  refine A1 rfl (B1 2 rfl H1 rfl L0 (A0 rfl) rfl) ?_
  refine A1 rfl (B0 0 rfl (A0 rfl) rfl M3 rfl) ?_
  refine A1 rfl (W4 3 rfl D1 (A0 rfl) rfl) ?_
  refine A1 rfl (G0 rfl (A0 rfl) (A0 rfl) (by first | omega | (simp only [C8, A7, szR] at *; omega))) ?_
  refine A1 rfl (O1 rfl (A0 rfl) B4) ?_
  refine A4 ?_
  refine B9 (A0 rfl) ?_ ?_
  ·intro h39
   have k39 := M7 h39; try simp only [A8] at k39
   have hog : orderR ⟨n, [[97]], x18.2.1⟩ = true := AD9 (by omega) (by unfold SrtS; decide) (by decide) (by decide) hwd (by simp only [I5]; omega)
   refine A2 ?_
   refine AD1 rfl rfl rfl rfl C9 E3 Tryz.zeroValue9 rfl rfl rfl rfl (D0 (N0 (l := [97]) rfl) (L7 _) G9) rfl rfl ?_
   intro v40
   refine A1 rfl (B1 1 rfl H1 rfl H5 (A0 rfl) rfl) ?_
   refine T8 0 rfl fun one_v40 => ?_
   refine K8 1 rfl rfl rfl (A0 rfl) (A0 rfl) (U2 one_v40) rfl H5 rfl ?_
   refine A4 (A2 ?_)
   refine A5 rfl ?_
   refine A1 rfl (F1 1 rfl (A0 rfl) rfl Q4 H4 rfl) ?_
   refine r8 (X6 [0, 3] 43 rfl rfl (Z5 (G4 M4 (G4 (M8 (F9 (i := 0) rfl) I7) (G4 (M8 (F9 (i := 1) rfl) I7) U3)))) (O0 1 rfl rfl O3)) ?_
   refine A1 rfl (K9 rfl I0 H4 Tryz.zeroValue32 rfl rfl rfl rfl (D0 (A0 rfl) (D6 _) G9) rfl rfl) ?_
   refine L2 (by' := 56) 3 rfl rfl rfl rfl I0 Tryz.type32 rfl rfl rfl rfl rfl rfl (A0 rfl) (A0 rfl) rfl (by first | omega | (simp only [C8, A7, szR] at *; omega)) ?_
   intro v45_3
   refine B3 rfl ?_
   refine A4 (A2 ?_)
   refine A5 rfl ?_
   refine A1 rfl (G0 rfl (A0 rfl) B4 (by first | omega | (simp only [C8, A7, szR] at *; omega))) ?_
   refine B3 rfl ?_
   refine A4 ?_
   refine V9 n cc l v (n + 1) (c2) (l ++ [⟨n, [[97]], x18.2.1⟩]) (v45_3) ?_ ?_ (Le.trans (F8 [0, 1, 0, 0] rfl) (K0 2 (by (rw [List.map_append]; rfl)) ⟨rfl, rfl, rfl, rfl, trivial⟩))
   ·exact ⟨⟨by omega, by omega⟩, by rw [J6]; simp; omega, by omega, fun q hq => by (rcases List.mem_append.1 hq with hq | hq; (exact hinv0.2.2.2.1 q hq); (rw [List.mem_singleton.1 hq]; have h9 := ok18.2.1; first | (show sizeL (fun x : Str => x.length) rs + sizeL TWrite.size x18.2.1 ≤ 1000; omega) | (show sizeL (fun x : Str => x.length) [[97]] + sizeL TWrite.size x18.2.1 ≤ 1000; rw [show sizeL (fun x : Str => x.length) [[97]] = 2 from rfl]; omega))), AX1 hinv0.2.2.2.2 rfl hog⟩
   omega
  intro h39
  have k39 := M6 h39; try simp only [A8] at k39
  have hog : orderR ⟨n, rs, x18.2.1⟩ = true := AD9 (by omega) hinv.2.2.1 (fun k hk => (AH7 (hinv.2.2.2.2 k hk)).1) (by omega) hwd (by simp only [A8, decide_eq_false_iff_not, beq_eq_false_iff_ne] at h39; omega)
  refine C3 (A2 ?_)
  refine A5 rfl ?_
  refine A1 rfl (F1 0 rfl (A0 rfl) rfl Q4 H4 rfl) ?_
  refine r8 (X6 [2, 2] 43 rfl rfl (Z5 (G4 M4 (G4 (M8 (F9 (i := 0) rfl) I7) (G4 (M8 (F9 (i := 1) rfl) I7) U3)))) (O0 1 rfl rfl O3)) ?_
  refine A1 rfl (K9 rfl I0 H4 Tryz.zeroValue32 rfl rfl rfl rfl (D0 (A0 rfl) (D6 _) G9) rfl rfl) ?_
  refine L2 (by' := 56) 2 rfl rfl rfl rfl I0 Tryz.type32 rfl rfl rfl rfl rfl rfl (A0 rfl) (A0 rfl) rfl (by first | omega | (simp only [C8, A7, szR] at *; omega)) ?_
  intro v45_4
  refine B3 rfl ?_
  refine A4 (A2 ?_)
  refine A5 rfl ?_
  refine A1 rfl (G0 rfl (A0 rfl) B4 (by first | omega | (simp only [C8, A7, szR] at *; omega))) ?_
  refine B3 rfl ?_
  refine A4 ?_
  refine V9 n cc l v (n + 1) (c2) (l ++ [⟨n, rs, x18.2.1⟩]) (v45_4) ?_ ?_ (Le.trans (F8 [0, 0, 0] rfl) (K0 1 (by (rw [List.map_append]; rfl)) ⟨rfl, rfl, rfl, rfl, trivial⟩))
  ·exact ⟨⟨by omega, by omega⟩, by rw [J6]; simp; omega, by omega, fun q hq => by (rcases List.mem_append.1 hq with hq | hq; (exact hinv0.2.2.2.1 q hq); (rw [List.mem_singleton.1 hq]; have h9 := ok18.2.1; first | (show sizeL (fun x : Str => x.length) rs + sizeL TWrite.size x18.2.1 ≤ 1000; omega) | (show sizeL (fun x : Str => x.length) [[97]] + sizeL TWrite.size x18.2.1 ≤ 1000; rw [show sizeL (fun x : Str => x.length) [[97]] = 2 from rfl]; omega))), AX1 hinv0.2.2.2.2 rfl hog⟩
  omega
 intro h13
 refine G1 ?_
 refine A3 (A2 ?_)
 refine A5 rfl ?_
 refine B3 rfl ?_
 refine A4 ?_
 refine C2 ?_
 (refine L5 [0, 0] ((_, l, v)) ?_ rfl (by first | (dsimp only; rfl) | rfl) (P0 rfl (C1 rfl (by rfl))); exact ⟨by dsimp only; omega, (show l.length ≤ 4 by omega), hinv.2.2.2.1, BE3 hinv.2.2.2.2 (by dsimp only; omega)⟩)
theorem AH8 (b : Nat) (code : List Int) (hcode : ByteL code) (c : TCur) (hp : c.p ≤ 800000) : GSpec Tryz.prog 33 [AV.ptr b 0] [.box b 64 (curC code c)] (fun x : TCur × List TOrder => x.1.p ≤ c.p + 402 ∧ x.2.length ≤ 4 ∧ (∀ o ∈ x.2, o.size ≤ 1000) ∧ goodOs x.2 = true) (fun x => [.box b 64 (curC code x.1)]) (fun x => AV.list 3 (x.2.map TOrder.cs)) :=
  AI7 (fun x => (x.1, x.2.1)) (fun x => [.arr x.2.2 32 3 (x.2.1.map TOrder.cs)]) (fun x => [.box b 64 (curC code x.1)]) (AL8 b code hcode c hp) (fun _ h => h) (fun x _ => M8 (List.mem_singleton.2 rfl) I7) (fun x _ => List.perm_append_comm (l₁ := [_])) (fun _ _ => O0 0 rfl rfl O3) (fun x _ => BD6 ⟨rfl, rfl, AE0⟩ Au2)
end Go.Proofs.YtoaoicnnimjbeaaGreat

namespace Go.M
open Go.AV
theorem Aj2 : goodState zState = true := g9.2 BD5
def emptyDeal (cuts : List Str) (os : List TOrder) : TDeal := ⟨cuts, List.replicate (cuts.length + 1) zState, os⟩
def newDealR (cuts : List Str) (os : List TOrder) : TDeal × Bool := if (l15Cuts cuts && goodOs os) = true then (emptyDeal cuts os, true) else (⟨[], [], []⟩, false)
theorem AA2 (cuts : List Str) (os : List TOrder) : goodDealR (emptyDeal cuts os) = (l15Cuts cuts && goodOs os) := by
  unfold goodDealR emptyDeal
  dsimp only
  rw [show (List.replicate (cuts.length + 1) zState).all goodState = true from List.all_eq_true.2 fun s hs => by rw [(List.mem_replicate.1 hs).2]; exact Aj2, decide_eq_true (p := (List.replicate (cuts.length + 1) zState).length = cuts.length + 1) (List.length_replicate)]
  cases l15Cuts cuts <;> cases goodOs os <;> rfl
def zRow : List AV := [AV.int 0, AV.nils, AV.nils, AV.nils]
theorem zRow_lc {own : List Go.AV.Own} : LendC own zRow zState.cs := G4 M4 (G4 AW4 (G4 AW4 (G4 AW4 U3)))
theorem Ax4 {own : List Go.AV.Own} (n : Nat) : LendE own (List.replicate n zRow) ((List.replicate n zState).map TState.cs) := by
  refine ⟨by simp, fun i e f h k => ?_⟩
  rw [List.getElem?_replicate] at h
  rw [List.getElem?_map, List.getElem?_replicate] at k
  split at h
  · rename_i hlt
    rw [if_pos hlt] at k
    injection h with h; injection k with k; subst h; subst k
    exact zRow_lc
  · cases h
theorem AV4 {α : Type} (l : List α) : (l.map fun _ => zRow) = List.replicate l.length zRow := by
  induction l with
  | nil => rfl
  | cons x l ih => rw [List.map_cons, ih]; rfl
theorem atDeal {os : List TOrder} {i : Nat} {x : TOrder} {t : Int} (hx : os[i]? = some x) (h : (x.Txn == t) = true) (hn : ∀ o ∈ os.take i, (o.Txn == t) = false) : os.findIdx? (fun o => o.Txn == t) = some i := by
  rw [List.findIdx?_eq_some_iff_getElem]
  obtain ⟨h1, h2⟩ := List.getElem?_eq_some_iff.1 hx
  refine ⟨h1, by rw [h2]; exact h, fun j hj => ?_⟩
  rw [hn _ (F9 (i := j) (by rw [List.getElem?_take_of_lt hj]; exact List.getElem?_eq_getElem _))]; decide
def dealAt (os : List TOrder) (t : Int) : Int := match os.findIdx? (fun o => o.Txn == t) with | some i => (i : Int) | none => -1
end Go.M
namespace Go.Proofs.YtoaoicnnimjbeaaGreat
open Go Go.AV Go.M
attribute [local irreducible] OpW OpA OpS AWP FSpec ESpec GSpec OpE RetOk RetOkG RvDen Le Ev GuardIs SrcIs SrcE Int.tmod IntKind.wrap bandI
theorem w_natc {P : Program} {G : Nat → Prop} {n : Nat} {own : List Go.AV.Own} {o : Oper} {E : EnvF} {a : Int} (b : Nat) (h : OpW P G n own o E (AV.int a)) (e : a = (b : Int)) : OpW P G n own o E (AV.int (b : Int)) := e ▸ h
theorem Aq6 (cuts : List Str) (os : List TOrder) (hc : ∀ k ∈ cuts, k.length ≤ 4611686018427387904) (hl : cuts.length ≤ 9) (ho : ∀ o ∈ os, o.size ≤ 1048576) : GSpec Tryz.prog 22 [strs cuts, AV.list 3 (os.map TOrder.cs)] [] (fun _ : Value => True) (fun v => [.arr v 53 4 ((newDealR cuts os).1.States.map fun _ => zRow)]) (fun v => AV.tup [AV.agg [strs (newDealR cuts os).1.Cuts, AV.is v, AV.list 3 ((newDealR cuts os).1.Orders.map TOrder.cs)], AV.bool (newDealR cuts os).2]) := by
 refine H3 Tryz.func22 rfl Tryz.ntmps22 rfl ?_
 refine A3 (A2 ?_)
 refine F5 rfl rfl rfl rfl Tryz.zeroValue43 rfl ?_
 intro b4
 refine A1 rfl (B6 rfl E9) ?_
 refine A4 (A3 (A3 (A2 ?_)))
 refine A5 rfl ?_
 refine A1 rfl (D7 rfl Tryz.call29 rfl (p4 cuts hc) (A6 (A0 rfl) C0)) ?_
 refine A1 rfl (M2 rfl (A0 rfl)) ?_
 refine A5 rfl ?_
 refine F3 rfl (fun hc => B8 rfl (A0 rfl)) ?_
 refine F3 rfl (fun hc => D7 rfl Tryz.call51 rfl (AL5 os ho) (A6 (A9 rfl hc) C0)) ?_
 refine F3 rfl (fun hc => M2 rfl (A9 rfl hc)) ?_
 refine A1 rfl (Q8 rfl (A0 rfl) (F7 rfl)) ?_
 refine A4 ?_
 refine B9 (A0 rfl) ?_ ?_
 ·intro h13
  have he : newDealR cuts os = (⟨[], [], []⟩, false) := by (unfold newDealR; rw [if_neg (by cases h1 : l15Cuts cuts <;> simp_all)])
  rw [he]
  refine A3 (A2 ?_)
  refine A1 rfl (N5 (places := #[(0, 1), (1, 1), (2, 1)]) rfl E8 Tryz.zeroValue43 (fun w => by kernel_rfl) rfl G9 rfl) ?_
  refine D2 0 rfl rfl rfl (A0 rfl) (A0 rfl) (D6 _) rfl F4 rfl ?_
  refine A1 rfl (B6 rfl E9) ?_
  refine A4 ?_
  refine C2 ?_
  refine Q7 0 0 1 rfl rfl O3 ?_
  refine Q7 0 2 3 rfl rfl O3 ?_
  refine Y4 53 4 ?_
  exact L5 [0] (Value.slice none 0 0) (trivial) rfl (by first | rfl | (dsimp only [emptyDeal]; rw [AV4, List.length_replicate]; rfl)) (V5 rfl (by decide) (E7 (J9 (ys := _) 1 rfl rfl K5 F4 rfl) (E7 (C1 rfl (by rfl)) M0)))
 intro h13
 have hg : l15Cuts cuts = true ∧ goodOs os = true := (by cases h1 : l15Cuts cuts <;> cases h2 : goodOs os <;> simp_all)
 have hol : os.length ≤ 8 := by (have h9 := hg.2; unfold goodOs at h9; simp only [Bool.and_eq_true, decide_eq_true_eq] at h9; exact h9.2)
 have he : newDealR cuts os = (emptyDeal cuts os, true) := by (unfold newDealR; rw [hg.1, hg.2]; rfl)
 rw [he]
 refine C3 (A3 ?_)
 refine Q2 [] 10 (.pure 0 (.pure 1 (.pure 2 (.pure 3 (.pure 4 (.pure 6 (.pure 7 (.e1 5 (.pure 8 (.e1 9 .nil)))))))))) (by kernel_rfl) (by kernel_rfl) rfl H6 ?_
 refine D4 rfl rfl rfl (fun ext => B8 rfl (A0 rfl)) ?_
 refine D4 rfl rfl rfl (fun ext => D7 rfl Tryz.call52 rfl (m7 cuts (by omega)) (A6 (A0 rfl) C0)) ?_
 refine D4 rfl rfl rfl (fun ext => B8 rfl (A0 rfl)) ?_
 refine D4 rfl rfl rfl (fun ext => F6 rfl C9 (A0 rfl)) ?_
 refine D4 rfl rfl rfl (fun ext => w_natc (a := ((cuts.map fun s => [AV.str s]).length : Int) + 1) (cuts.length + 1) (G0 rfl (A0 rfl) B4 (by rw [A8]; omega)) (by rw [A8]; omega)) ?_
 refine D4 rfl rfl rfl (fun ext => B8 rfl (A0 rfl)) ?_
 refine D4 rfl rfl rfl (fun ext => D7 rfl Tryz.call53 rfl (AP5 os (by omega) ho) (A6 (A0 rfl) C0)) ?_
 refine T9 ?_
 refine S6 rfl rfl rfl (i9 1 (fun _ => rfl) (opE_make (by' := 80) rfl J2 Tryz.type53 rfl rfl rfl rfl rfl rfl (A0 rfl) (A0 rfl) (by omega) (by omega))) (fun a _ => (by first | exact E1 rfl | exact E1 (List.append_assoc _ _ _) | exact H6)) ?_
 intro v20 hone_v20
 have one_v20 := hone_v20.2
 refine D4 rfl rfl rfl (fun ext => N5 (places := #[(0, 1), (1, 1), (2, 1)]) rfl E8 Tryz.zeroValue43 (fun w => by kernel_rfl) rfl (D0 (A0 rfl) (O9 _ _) (D0 (A0 rfl) (U2 one_v20) (D0 (A0 rfl) (O9 _ _) G9))) rfl) ?_
 refine T9 ?_
 refine j5 rfl rfl rfl (W7 0 rfl rfl (A0 rfl) (A0 rfl) (D6 _) rfl F4 rfl) (fun a _ => (by first | exact E1 rfl | exact E1 (List.append_assoc _ _ _) | exact H6)) ?_
 intro _ _
 refine W1 ?_
 refine A1 rfl (B6 rfl E9) ?_
 refine A4 ?_
 refine C2 ?_
 exact L5 [1] v20 (trivial) rfl (by first | rfl | (dsimp only [emptyDeal]; rw [AV4, List.length_replicate]; rfl)) (V5 rfl (by decide) (E7 (J9 (ys := _) 0 rfl rfl K5 F4 rfl) (E7 (C1 rfl (by rfl)) M0)))
theorem AQ6 (cuts : List Str) (os : List TOrder) (hc : ∀ k ∈ cuts, k.length ≤ 4611686018427387904) (hl : cuts.length ≤ 9) (ho : ∀ o ∈ os, o.size ≤ 1048576) : FSpec Tryz.prog 22 [strs cuts, AV.list 3 (os.map TOrder.cs)] (AV.tup [AV.agg (newDealR cuts os).1.cs, AV.bool (newDealR cuts os).2]) :=
  Q5 (Aq6 cuts os hc hl ho) fun v _ => AJ7 (G4 (Z5 (G4 M4 (G4 (M8 (List.mem_singleton.2 rfl) (by
    unfold newDealR
    split
    · rw [AV4]; show LendE _ (List.replicate (List.replicate (cuts.length + 1) zState).length zRow) _; rw [List.length_replicate]; exact Ax4 _
    · exact I7)) (G4 M4 U3)))) (G4 M4 U3))
theorem AZ7 (d : TDeal) (t : Int) (hl : d.Orders.length ≤ 1000000) : FSpec Tryz.prog 144 [AV.agg d.cs, AV.int t] (AV.int (dealAt d.Orders t)) := by
 refine E2 Tryz.func144 rfl Tryz.ntmps144 rfl ?_
 refine A3 (A2 ?_)
 refine N1 rfl rfl rfl rfl (A0 rfl) ?_
 intro b2
 refine A1 rfl (B6 rfl B4) ?_
 refine A4 (A3 (A3 (A2 ?_)))
 refine A1 rfl (B1 2 rfl E8 rfl U4 (A0 rfl) rfl) ?_
 refine A1 rfl (B0 0 rfl (A0 rfl) rfl V7 rfl) ?_
 refine A1 rfl (F6 rfl I0 (A0 rfl)) ?_
 refine A1 rfl (B8 rfl B4) ?_
 refine A4 (C7 ?_)
 refine J0 [(1, _), (8, _), (9, _)] _ (fun (i : Nat) => i ≤ d.Orders.length ∧ ∀ o ∈ d.Orders.take i, (o.Txn == t) = false) (fun (i : Nat) => []) (fun (i : Nat) => [(10, AV.int i)]) (fun (i : Nat) => d.Orders.length - i) (0) ?_ (O8 (by rfl) ⟨rfl, rfl, rfl, rfl, trivial⟩) ?_
 ·exact ⟨Nat.zero_le _, fun o ho => by cases ho⟩
 intro i hinv
 refine A3 (A2 ?_)
 refine A1 rfl (J8 rfl (A0 rfl) (A0 rfl)) ?_
 refine A4 (A3 ?_)
 refine B9 (A0 rfl) ?_ ?_
 ·intro h11
  have k11 := of_decide_eq_true h11; try simp only [A8] at k11
  have hlt : i < d.Orders.length := by (simpa using h11)
  obtain ⟨x, hx⟩ := get_some hlt
  refine C3 (A3 (C7 (A3 (A2 ?_))))
  refine A5 rfl ?_
  refine A1 rfl (I2 rfl I0 H4 (A0 rfl) (A0 rfl) hx (by first | omega | (simp only [C8, A7, szR] at *; omega))) ?_
  refine A1 rfl (K6 rfl (A0 rfl) Q4 H4) ?_
  refine F5 rfl rfl rfl rfl Tryz.zeroValue32 rfl ?_
  intro b6
  refine B3 rfl ?_
  refine D2 0 rfl rfl rfl (A0 rfl) (A0 rfl) (D6 _) rfl H4 rfl ?_
  refine A4 (A3 (A2 ?_))
  refine A1 rfl (B1 0 rfl H1 rfl B5 (A0 rfl) rfl) ?_
  refine A1 rfl (B0 0 rfl (A0 rfl) rfl C6 rfl) ?_
  refine A5 rfl ?_
  refine A1 rfl (O1 rfl (A0 rfl) (A0 rfl)) ?_
  refine A4 ?_
  refine B9 (A0 rfl) ?_ ?_
  ·intro h18
   have k18 := M7 h18; try simp only [A8] at k18
   have he : dealAt d.Orders t = (i : Int) := by (unfold dealAt; rw [atDeal hx h18 hinv.2])
   rw [he]
   refine A3 (A2 ?_)
   refine A5 rfl ?_
   refine B3 rfl ?_
   refine A4 ?_
   refine C2 ?_
   exact I3 rfl (C1 rfl (by rfl))
  intro h18
  have k18 := M6 h18; try simp only [A8] at k18
  refine C3 (A2 ?_)
  refine A1 rfl (G0 rfl (A0 rfl) B4 (by first | omega | (simp only [C8, A7, szR] at *; omega))) ?_
  refine A5 rfl ?_
  refine A4 ?_
  refine K4 i (i + 1) ?_ ?_ (Le.trans (F8 [0] rfl) (K0 1 (by rfl) ⟨rfl, rfl, rfl, rfl, trivial⟩))
  ·exact ⟨by omega, fun q hq => by (rw [List.take_add_one, hx] at hq; rcases List.mem_append.1 hq with hq | hq; (exact hinv.2 q hq); (simp at hq; subst hq; exact h18))⟩
  omega
 intro h11
 have k11 := of_decide_eq_false h11; try simp only [A8] at k11
 have hge : d.Orders.length ≤ i := by (simpa using h11)
 have he : dealAt d.Orders t = -1 := by (unfold dealAt; rw [show d.Orders.findIdx? (fun o => o.Txn == t) = none from List.findIdx?_eq_none_iff.2 fun o ho => hinv.2 o (by rw [List.take_of_length_le hge]; exact ho)])
 rw [he]
 refine G1 ?_
 refine A3 (A2 ?_)
 refine A1 rfl (B6 rfl B4) ?_
 refine A4 ?_
 refine C2 ?_
 exact I3 rfl (C1 rfl (by rfl))
end Go.Proofs.YtoaoicnnimjbeaaGreat

namespace Go.M
open Go.AV
theorem AL9 {s : TState} (h : goodState s = true) : s.size ≤ 15000 := by
  have g := g9.1 h
  have h1 := BM1 g.cells
  have h2 := u5 (f := THeld.size) (c := 400) (l := s.Held) fun k hk => Ap4 (g.good k hk).1
  have h3 := g.hlen
  have h4 := g.tlen
  have h5 : s.Held.length * (400 + 1) ≤ 12 * 401 := Nat.mul_le_mul_right _ h3
  show sizeL TCell.size s.Cells + sizeL THeld.size s.Held + s.Told.length ≤ 15000
  omega
theorem BJ6 {o : TOrder} (h : orderR o = true) : ∃ k, k ∈ keysO o := by
  unfold orderR goodRec good1 at h
  rw [if_pos rfl] at h
  simp only [Bool.and_eq_true, decide_eq_true_eq] at h
  have h0 := h.1.2
  unfold keysO
  cases hr : o.Reads with
  | cons k r => exact ⟨k, (AB7 _ _).2 (by simp)⟩
  | nil =>
    cases hw : o.Writes with
    | cons w r => exact ⟨w.Key, (AB7 _ _).2 (by simp [wKeys])⟩
    | nil => rw [hr, hw] at h0; simp at h0
theorem BN6 {cuts ks : List Str} {p : Int} (h : p ∈ partsL cuts ks) : 0 ≤ p ∧ p ≤ cuts.length := by
  rcases ((r7 (cuts := cuts) (ks := ks) (a := []) List.Pairwise.nil).2 p).1 h with h | ⟨k, _, e⟩
  · cases h
  · have := AE9 cuts k
    omega
theorem Ag3 {cuts : List Str} {o : TOrder} (h : orderR o = true) : ∃ p, (partsL cuts (keysO o))[0]? = some p := by
  obtain ⟨k, hk⟩ := BJ6 h
  have h1 := ((r7 (cuts := cuts) (ks := keysO o) (a := []) List.Pairwise.nil).2 (partW cuts k)).2 (.inr ⟨k, hk, rfl⟩)
  exact get_some (List.length_pos_of_mem h1)
def zRec : TRec := ⟨0, 0, 0, 0, [], [], false⟩
theorem AA3 {l : List Int} {n : Int} (h : (l.any fun y => n == y) = true) : n ∈ l := by
  obtain ⟨y, hy, e⟩ := List.any_eq_true.1 h
  have : n = y := by simpa using e
  rw [this]; exact hy
theorem AF8 {α : Type} {f : α → Nat} {p : α → Bool} : ∀ {l : List α}, sizeL f (l.filter p) ≤ sizeL f l
  | [] => Nat.le_refl _
  | x :: l => by
    have ih := AF8 (f := f) (p := p) (l := l)
    cases hp : p x with
    | true => rw [List.filter_cons_of_pos hp, N7, N7]; omega
    | false => rw [List.filter_cons_of_neg (by rw [hp]; decide), N7]; omega
theorem i8 {α : Type} {p : α → Bool} {l : List α} {i : Nat} {x : α} (h : l[i]? = some x) : (l.take (i + 1)).filter p = (l.take i).filter p ++ (if p x = true then [x] else []) := by
  rw [List.take_add_one, h, List.filter_append]
  cases hp : p x <;> simp [hp]
def inS (cuts : List Str) (part : Int) (k : Str) : Bool := ((partW cuts k : Int) == part)
end Go.M
namespace Go.Proofs.YtoaoicnnimjbeaaGreat
open Go Go.AV Go.M
structure DV (d : TDeal) : Prop where
  clen : d.Cuts.length ≤ 2
  ckey : ∀ k ∈ d.Cuts, k.length ≤ 64
  slen : d.States.length = d.Cuts.length + 1
  st : ∀ s ∈ d.States, s.size ≤ 15000
  os : ∀ o ∈ d.Orders, orderR o = true ∧ o.size ≤ 1000
  olen : d.Orders.length ≤ 4
theorem DV.b {d : TDeal} (v : DV d) : DealB d where
  cuts := fun k hk => Nat.le_trans (v.ckey k hk) (by decide)
  clen := Nat.le_trans v.clen (by decide)
  slen := by have := v.slen; have := v.clen; omega
  olen := Nat.le_trans v.olen (by decide)
  states := fun s hs => Nat.le_trans (v.st s hs) (by decide)
  orders := fun o ho => Nat.le_trans (v.os o ho).2 (by decide)
attribute [local irreducible] OpW OpA OpS AWP FSpec ESpec GSpec OpE RetOk RetOkG RvDen Le Ev GuardIs SrcIs SrcE Int.tmod IntKind.wrap bandI
theorem An9 (l : List Int) (n : Int) : FSpec Tryz.prog 185 [ints l, AV.int n] (AV.bool (l.any fun y => n == y)) := by
 refine E2 Tryz.func185 rfl Tryz.ntmps185 rfl ?_
 refine U5 (t := 0) rfl fun hl => ?_
 try simp only [A8] at hl
 refine A3 (A2 ?_)
 refine A1 rfl (B6 rfl E9) ?_
 refine A4 (A3 (A3 (A2 ?_)))
 refine A5 rfl ?_
 refine A1 rfl (F6 rfl I4 (A0 rfl)) ?_
 refine A1 rfl (B8 rfl B4) ?_
 refine A4 (C7 ?_)
 refine J0 [(1, _), (7, _), (8, _)] _ (fun (i : Nat) => i ≤ l.length ∧ (l.any fun y => n == y) = ((l.drop i).any fun y => n == y)) (fun (i : Nat) => []) (fun (i : Nat) => [(9, AV.int i)]) (fun (i : Nat) => l.length - i) (0) ?_ (K2 ⟨rfl, rfl, rfl, rfl, trivial⟩) ?_
 ·exact ⟨Nat.zero_le _, rfl⟩
 intro i hinv
 refine A3 (A2 ?_)
 refine A1 rfl (J8 rfl (A0 rfl) (A0 rfl)) ?_
 refine A4 (A3 ?_)
 refine B9 (A0 rfl) ?_ ?_
 ·intro h10
  have k10 := of_decide_eq_true h10; try simp only [A8] at k10
  have hlt : i < l.length := by omega
  obtain ⟨x, hx⟩ := get_some hlt
  refine C3 (A3 (C7 (A3 (A2 ?_))))
  refine A1 rfl (I2 rfl I4 B5 (A0 rfl) (A0 rfl) hx (by first | omega | (simp only [C8, A7, szR] at *; omega))) ?_
  refine A1 rfl (L6 rfl (A0 rfl) C6 rfl) ?_
  refine B3 rfl ?_
  refine A4 (A3 (A2 ?_))
  refine A5 rfl ?_
  refine A5 rfl ?_
  refine A1 rfl (O1 rfl (A0 rfl) (A0 rfl)) ?_
  refine A4 ?_
  refine B9 (A0 rfl) ?_ ?_
  ·intro h15
   have k15 := M7 h15; try simp only [A8] at k15
   refine A3 (A2 ?_)
   refine A1 rfl (B6 rfl E9) ?_
   refine A4 ?_
   refine C2 ?_
   exact I3 rfl (C1 rfl (by first | exact congrArg AV.bool (by rw [hinv.2, drop_some hx, List.any_cons, k15]; simp) | exact congrArg AV.bool (by rw [hinv.2, List.drop_eq_nil_of_le hge]; rfl)))
  intro h15
  have k15 := M6 h15; try simp only [A8] at k15
  refine C3 (A2 ?_)
  refine A1 rfl (G0 rfl (A0 rfl) B4 (by first | omega | (simp only [C8, A7, szR] at *; omega))) ?_
  refine A5 rfl ?_
  refine A4 ?_
  refine K4 i (i + 1) ?_ ?_ (K2 ⟨rfl, rfl, rfl, rfl, trivial⟩)
  ·exact ⟨by omega, by rw [hinv.2, drop_some hx, List.any_cons, show (n == x) = false from by simpa using Ne.symm k15]; rfl⟩
  omega
 intro h10
 have k10 := of_decide_eq_false h10; try simp only [A8] at k10
 have hge : l.length ≤ i := by omega
 refine G1 ?_
 refine A3 (A2 ?_)
 refine A1 rfl (B6 rfl E9) ?_
 refine A4 ?_
 refine C2 ?_
 exact I3 rfl (C1 rfl (by first | exact congrArg AV.bool (by rw [hinv.2, drop_some hx, List.any_cons, k15]; simp) | exact congrArg AV.bool (by rw [hinv.2, List.drop_eq_nil_of_le hge]; rfl)))
theorem BJ7 (cuts rs : List Str) (ws : List TWrite) (part : Int) (hr : rs.length ≤ 1000000) (hw : ws.length ≤ 1000000) : GSpec Tryz.prog 187 [strs cuts, strs rs, AV.list 3 (ws.map TWrite.cs), AV.int part] [] (fun _ : Value × Value => True) (fun v => [.arr v.1 9 1 ((rs.filter (inS cuts part)).map fun t => [AV.str t]), .arr v.2 79 3 ((ws.filter fun w => inS cuts part w.Key).map TWrite.cs)]) (fun v => AV.tup [AV.is v.1, AV.is v.2]) := by
 have hrl : ∀ i, ((rs.take i).filter (inS cuts part)).length ≤ 1000000 := fun i => Nat.le_trans (List.length_filter_le _ _) (by rw [D9]; omega)
 have hwl : ∀ i, ((ws.take i).filter fun w => inS cuts part w.Key).length ≤ 1000000 := fun i => Nat.le_trans (List.length_filter_le _ _) (by rw [D9]; omega)
 refine H3 Tryz.func187 rfl Tryz.ntmps187 rfl ?_
 refine A3 (A2 ?_)
 refine A1 rfl (B6 rfl L4) ?_
 refine A1 rfl (B6 rfl L4) ?_
 refine A4 (A3 (A2 ?_))
 refine S0 9 1 rfl rfl rfl rfl L4 ?_
 intro v10
 refine A4 (A3 (A2 ?_))
 refine S0 79 3 rfl rfl rfl rfl L4 ?_
 intro v11
 refine A4 (A3 (A3 (A2 ?_)))
 refine A5 rfl ?_
 refine A1 rfl (F6 rfl C9 (A0 rfl)) ?_
 refine A1 rfl (B8 rfl B4) ?_
 refine A4 (C7 ?_)
 refine AWP.le (F8 [1, 0] rfl) ?_
 refine P3 [(0, _), (2, _), (3, _), (8, _), (9, _), (11, _), (16, _), (17, _)] _ (fun (i : Nat) (v : Value) => i ≤ rs.length) (fun (i : Nat) (v : Value) => [.arr v 9 1 (((rs.take i).filter (inS cuts part)).map fun t => [AV.str t]), .arr v11 79 3 []]) (fun (i : Nat) (v : Value) => [(10, AV.is v), (18, AV.int i)]) (fun (i : Nat) (v : Value) => rs.length - i) (0) (v10) ?_ (O8 (by rfl) ⟨rfl, rfl, rfl, rfl, rfl, rfl, rfl, rfl, rfl, rfl, trivial⟩) ?_
 ·exact Nat.zero_le _
 intro i v hinv
 refine A3 (A2 ?_)
 refine A1 rfl (J8 rfl (A0 rfl) (A0 rfl)) ?_
 refine A4 (A3 ?_)
 refine B9 (A0 rfl) ?_ ?_
 ·intro h19
  have k19 := of_decide_eq_true h19; try simp only [A8] at k19
  have hlt : i < rs.length := by (simpa using h19)
  obtain ⟨x, hx⟩ := get_some hlt
  have hri := hrl i
  refine C3 (A3 (C7 (A3 (A2 ?_))))
  refine A1 rfl (I2 rfl C9 E3 (A0 rfl) (A0 rfl) hx (by first | omega | (simp only [C8, A7, szR] at *; omega))) ?_
  refine A1 rfl (L6 rfl (A0 rfl) G3 rfl) ?_
  refine B3 rfl ?_
  refine A4 (A3 (A2 ?_))
  refine A5 rfl ?_
  refine A5 rfl ?_
  refine A1 rfl (D7 rfl Tryz.call31 rfl (w4 _ _) (A6 (A0 rfl) (A6 (A0 rfl) C0))) ?_
  refine A5 rfl ?_
  refine A1 rfl (O1 rfl (A0 rfl) (A0 rfl)) ?_
  refine A4 ?_
  refine B9 (A0 rfl) ?_ ?_
  ·intro h26
   have k26 := M7 h26; try simp only [A8] at k26
   refine A2 ?_
   refine A5 rfl ?_
   refine A5 rfl ?_
   refine A1 rfl (K9 rfl C9 E3 Tryz.zeroValue9 rfl rfl rfl rfl (D0 (A0 rfl) (L7 _) G9) rfl rfl) ?_
   refine L2 (by' := 16) 0 rfl rfl rfl rfl C9 Tryz.type9 rfl rfl rfl rfl rfl rfl (A0 rfl) (A0 rfl) rfl (by first | omega | (simp only [C8, A7, szR] at *; omega)) ?_
   intro v30_1
   refine B3 rfl ?_
   refine A4 (A2 ?_)
   refine A1 rfl (G0 rfl (A0 rfl) B4 (by first | omega | (simp only [C8, A7, szR] at *; omega))) ?_
   refine A5 rfl ?_
   refine A4 ?_
   refine O2 i v (i + 1) (v30_1) ?_ ?_ (Le.trans (F8 [0, 0] rfl) (O8 (by first | rfl | (rw [i8 hx, if_pos (show inS cuts part x = true from h26), List.map_append]; rfl) | (rw [i8 hx, if_neg (by rw [show inS cuts part x = false from h26]; decide), List.append_nil]; rfl)) ⟨rfl, rfl, rfl, rfl, rfl, rfl, rfl, rfl, rfl, rfl, trivial⟩))
   ·exact (by omega)
   omega
  intro h26
  have k26 := M6 h26; try simp only [A8] at k26
  refine C3 (A2 ?_)
  refine A1 rfl (G0 rfl (A0 rfl) B4 (by first | omega | (simp only [C8, A7, szR] at *; omega))) ?_
  refine A5 rfl ?_
  refine A4 ?_
  refine O2 i v (i + 1) (v) ?_ ?_ (Le.trans (F8 [0, 0] rfl) (O8 (by first | rfl | (rw [i8 hx, if_pos (show inS cuts part x = true from h26), List.map_append]; rfl) | (rw [i8 hx, if_neg (by rw [show inS cuts part x = false from h26]; decide), List.append_nil]; rfl)) ⟨rfl, rfl, rfl, rfl, rfl, rfl, rfl, rfl, rfl, rfl, trivial⟩))
  ·exact (by omega)
  omega
 intro h19
 have k19 := of_decide_eq_false h19; try simp only [A8] at k19
 have hge : rs.length ≤ i := by (simpa using h19)
 rw [List.take_of_length_le hge]
 refine G1 ?_
 refine A3 (A3 (A2 ?_))
 refine A5 rfl ?_
 refine A1 rfl (F6 rfl D1 (A0 rfl)) ?_
 refine A1 rfl (B8 rfl B4) ?_
 refine A4 (C7 ?_)
 refine AWP.le (F8 [1, 0] rfl) ?_
 refine P3 [(0, _), (3, _), (8, _), (9, _), (10, _), (32, _), (33, _)] _ (fun (j : Nat) (u : Value) => j ≤ ws.length) (fun (j : Nat) (u : Value) => [.arr u 79 3 (((ws.take j).filter fun w => inS cuts part w.Key).map TWrite.cs), .arr v 9 1 ((rs.filter (inS cuts part)).map fun t => [AV.str t])]) (fun (j : Nat) (u : Value) => [(11, AV.is u), (34, AV.int j)]) (fun (j : Nat) (u : Value) => ws.length - j) (0) (v11) ?_ (O8 (by rfl) ⟨rfl, rfl, rfl, rfl, rfl, rfl, rfl, rfl, rfl, trivial⟩) ?_
 ·exact Nat.zero_le _
 intro j u hinv
 refine A3 (A2 ?_)
 refine A1 rfl (J8 rfl (A0 rfl) (A0 rfl)) ?_
 refine A4 (A3 ?_)
 refine B9 (A0 rfl) ?_ ?_
 ·intro h35
  have k35 := of_decide_eq_true h35; try simp only [A8] at k35
  have hltj : j < ws.length := by (simpa using h35)
  obtain ⟨y, hy⟩ := get_some hltj
  have hwj := hwl j
  refine C3 (A3 (C7 (A3 (A2 ?_))))
  refine A1 rfl (I2 rfl D1 E5 (A0 rfl) (A0 rfl) hy (by first | omega | (simp only [C8, A7, szR] at *; omega))) ?_
  refine A1 rfl (K6 rfl (A0 rfl) P8 E5) ?_
  refine F5 rfl rfl rfl rfl Tryz.zeroValue79 rfl ?_
  intro b15
  refine D2 0 rfl rfl rfl (A0 rfl) (A0 rfl) (D6 _) rfl E5 rfl ?_
  refine A4 (A3 (A2 ?_))
  refine A5 rfl ?_
  refine A1 rfl (B1 0 rfl J3 rfl E3 (A0 rfl) rfl) ?_
  refine A1 rfl (B0 0 rfl (A0 rfl) rfl G3 rfl) ?_
  refine A1 rfl (D7 rfl Tryz.call31 rfl (w4 _ _) (A6 (A0 rfl) (A6 (A0 rfl) C0))) ?_
  refine A5 rfl ?_
  refine A1 rfl (O1 rfl (A0 rfl) (A0 rfl)) ?_
  refine A4 ?_
  refine B9 (A0 rfl) ?_ ?_
  ·intro h43
   have k43 := M7 h43; try simp only [A8] at k43
   refine A2 ?_
   refine A5 rfl ?_
   refine A1 rfl (F1 0 rfl (A0 rfl) rfl P8 E5 rfl) ?_
   refine A1 rfl (K9 rfl D1 E5 Tryz.zeroValue79 rfl rfl rfl rfl (D0 (A0 rfl) (D6 _) G9) rfl rfl) ?_
   refine L2 (by' := 40) 1 rfl rfl rfl rfl D1 Tryz.type79 rfl rfl rfl rfl rfl rfl (A0 rfl) (A0 rfl) rfl (by first | omega | (simp only [C8, A7, szR] at *; omega)) ?_
   intro v47_2
   refine B3 rfl ?_
   refine A4 (A2 ?_)
   refine A1 rfl (G0 rfl (A0 rfl) B4 (by first | omega | (simp only [C8, A7, szR] at *; omega))) ?_
   refine A5 rfl ?_
   refine A4 ?_
   refine O2 j u (j + 1) (v47_2) ?_ ?_ (Le.trans (F8 [0, 0, 0] rfl) (K0 1 (by first | rfl | (rw [i8 hy, if_pos (show inS cuts part y.Key = true from h43), List.map_append]; rfl) | (rw [i8 hy, if_neg (by rw [show inS cuts part y.Key = false from h43]; decide), List.append_nil]; rfl)) ⟨rfl, rfl, rfl, rfl, rfl, rfl, rfl, rfl, rfl, trivial⟩))
   ·exact (by omega)
   omega
  intro h43
  have k43 := M6 h43; try simp only [A8] at k43
  refine C3 (A2 ?_)
  refine A1 rfl (G0 rfl (A0 rfl) B4 (by first | omega | (simp only [C8, A7, szR] at *; omega))) ?_
  refine A5 rfl ?_
  refine A4 ?_
  refine O2 j u (j + 1) (u) ?_ ?_ (Le.trans (F8 [0, 0, 0] rfl) (K0 1 (by first | rfl | (rw [i8 hy, if_pos (show inS cuts part y.Key = true from h43), List.map_append]; rfl) | (rw [i8 hy, if_neg (by rw [show inS cuts part y.Key = false from h43]; decide), List.append_nil]; rfl)) ⟨rfl, rfl, rfl, rfl, rfl, rfl, rfl, rfl, rfl, trivial⟩))
  ·exact (by omega)
  omega
 intro h35
 have k35 := of_decide_eq_false h35; try simp only [A8] at k35
 have hgej : ws.length ≤ j := by (simpa using h35)
 rw [List.take_of_length_le hgej]
 refine G1 ?_
 refine A3 (A2 ?_)
 refine A5 rfl ?_
 refine A5 rfl ?_
 refine B3 rfl ?_
 refine B3 rfl ?_
 refine A4 ?_
 refine C2 ?_
 exact L5 [1, 0] (v, u) (trivial) rfl (by rfl) (V5 rfl (by decide) (E7 (C1 rfl (by rfl)) (E7 (C1 rfl (by rfl)) M0)))
theorem BJ8 (cuts rs : List Str) (ws : List TWrite) (part : Int) (hr : rs.length ≤ 1000000) (hw : ws.length ≤ 1000000) : FSpec Tryz.prog 187 [strs cuts, strs rs, AV.list 3 (ws.map TWrite.cs), AV.int part] (AV.tup [strs (rs.filter (inS cuts part)), AV.list 3 ((ws.filter fun w => inS cuts part w.Key).map TWrite.cs)]) :=
  Q5 (BJ7 cuts rs ws part hr hw) fun v _ => AJ7 (G4 (M8 (F9 (i := 0) rfl) I7) (G4 (M8 (F9 (i := 1) rfl) I7) U3))
end Go.Proofs.YtoaoicnnimjbeaaGreat
