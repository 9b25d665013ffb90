/- Texts of the claim, part 7. -/
import Derived.RangeFuncNested
import Derived.RangeFuncBound
import Derived.RangeFuncCalls
import Derived.RangeFuncLeaves
import Derived.RangeFuncBox
import Derived.Shelf.Abstract
import Derived.Shelf.RegionOpen
import Derived.WalkKit
import Derived.OwnWalkIn
import Derived.TacticsInMore
import Derived.LoopNIn
import Derived.LoopIn
import Derived.Test.YthpipeokipgafaaGreatDoorZChanges6
set_option linter.defProp false
set_option linter.unusedVariables false
set_option linter.unusedSimpArgs false
set_option maxRecDepth 100000
set_option maxHeartbeats 4000000
namespace Go.PQ
open Go.Proofs
open Go Go.Proofs Go.RowKit Go.Shelf Go.M
attribute [local go_sem] Oper.semAt_some
def Ah7 {α : Type} (f : Nat → α) (k : Nat) : List α := (List.range k).map f
theorem CL9 {α : Type} (f : Nat → α) (k : Nat) : Ah7 f (k + 1) = Ah7 f k ++ [f k] := by simp [Ah7, List.range_succ]
theorem Cl9 {α : Type} (f : Nat → α) (k : Nat) : (Ah7 f k).length = k := by simp [Ah7]
def CG0 (v : O3) : Value := .agg #[.int .i64 v.Time, .string ⟨v.Val.toArray⟩, .bool v.Gone]
def Ab6 (zs : List O3) (j : Nat) : Int × O3 := ((zs.length : Int) - 1 - j, zs[zs.length - 1 - j]?.getD default)
def Bd9 (W : World) (b off : Nat) (zs : List O3) : Prop := ∀ j v, zs[j]? = some v → W.cell? ⟨b, off + j * 3, none⟩ = some (.int .i64 v.Time) ∧ W.cell? ⟨b, off + j * 3 + 1, none⟩ = some (.string ⟨v.Val.toArray⟩) ∧ W.cell? ⟨b, off + j * 3 + 2, none⟩ = some (.bool v.Gone)
theorem Bd9.below {n₀ : Nat} {A B : World} {b off : Nat} {zs : List O3} (h : Below n₀ A B) (hb : b < n₀) (k : Bd9 A b off zs) : Bd9 B b off zs := fun j v hv =>
  let ⟨h1, h2, h3⟩ := k j v hv
  ⟨(h.cell (p := ⟨b, _, none⟩) hb).trans h1, (h.cell (p := ⟨b, _, none⟩) hb).trans h2, (h.cell (p := ⟨b, _, none⟩) hb).trans h3⟩
set_option maxRecDepth 100000 in
set_option maxHeartbeats 2000000 in
theorem back1_in (F : Fence) (n : Nat) (hf : F.fn 172) (hro : F.round = none) (hn : 1 ≤ n) (l Bs n₀ b off cap : Nat) (zs : List O3) (hreach : zs.length * 32 ≤ 140737488351232) (hb : b < n₀) (J Jx : List (Int × O3) → World → Prop)
    (hY : ∀ pre x W, J pre W → pre.length < zs.length → YieldAt F (n - 1) Tryz.prog l #[.int .i64 x.1, CG0 x.2] W fun e W' =>
      (e = .returned (.bool true) ∧ J (pre ++ [x]) W' ∧ Below n₀ W W') ∨ (e = .returned (.bool false) ∧ Jx (pre ++ [x]) W'))
    (W : World) (hBs : W.cell? ⟨Bs, 0, none⟩ = some (.slice (some ⟨b, off, none⟩) zs.length cap)) (hBn : Bs < n₀) (hc : Bd9 W b off zs) (h0 : J [] W) :
    CallsIn F n Tryz.prog 172 #[.func (.yield l) #[] #[], .pointer (some ⟨Bs, 0, none⟩)] W fun e W' => (∃ v, e = .returned v) ∧
      ((∃ ys, ys = Ah7 (Ab6 zs) zs.length ∧ J ys W') ∨ (∃ pre, (∃ k, k ≤ zs.length ∧ pre = Ah7 (Ab6 zs) k) ∧ Jx pre W')) := by
  refine callsIn_of_wp Tryz.func172 rfl hf ?_ hro;simp only [Tryz.ntmps172, List.size_toArray, H8, Q1, Nat.reduceAdd, Nat.reduceSub, Array.replicate_succ, Array.replicate_zero, List.push_toArray, List.append_toArray, AC0, Aj3]
  gi_wp2
  gi_loopw [3] (fun i wr => ∃ k : Nat, k ≤ zs.length ∧ i = .int .i64 ((zs.length : Int) - 1 - k) ∧ J (Ah7 (Ab6 zs) k) wr ∧ Below n₀ W wr)
    (fun i _ => (Go.Proofs.intOf i + 1).toNat)
  case atStart => exact ⟨0, E2 _, by simp, h0, Below.refl _ _⟩
  case round =>
    obtain ⟨k, hk, rfl, hJs, hnx⟩ := hrel;have hBs' := (hnx.cell (p := ⟨Bs, 0, none⟩) hBn).trans hBs;by_cases hlt : k < zs.length
    · have hz : zs[zs.length - 1 - k]? = some (Ab6 zs k).2 := by unfold Ab6; rw [N6 qz8]; rfl
      obtain ⟨c1, c2, c3⟩ := (hc.below hnx hb) _ _ hz;obtain ⟨fn, tmps, assign, body, hy, hR⟩ := hY _ (Ab6 zs k) wr hJs (by rw [Cl9]; exact hlt);have e0 : ((zs.length : Int) - 1 - k).toNat = zs.length - 1 - k := by omega
      have hltl : (zs.length : Int) - 1 - k < zs.length := by omega
      dsimp only [CG0] at hy;rw [show (Ab6 zs k).1 = (zs.length : Int) - 1 - k from rfl] at hy
      gi_wp2
      refine hR.mono ?_
      rintro e W3 (⟨rfl, hJ3, hk3⟩ | ⟨rfl, hJx3⟩)
      · gi_wp2
        go_roundw
        case rel => exact ⟨k + 1, by omega, by simp; omega, by rw [CL9]; exact hJ3, hnx.trans hk3⟩
        case measure => simp [Go.Proofs.intOf]; omega
      · gi_wp2
        refine bodyPost_ret (results_none rfl _ _ _) rfl ?_;exact ⟨⟨_, rfl⟩, .inr ⟨_, ⟨k + 1, by omega, (CL9 _ _).symm⟩, hJx3⟩⟩
    · obtain rfl : k = zs.length := by omega
      gi_wp2
      go_end0
      exact ⟨⟨_, rfl⟩, .inl ⟨_, rfl, hJs⟩⟩
set_option maxRecDepth 100000 in
set_option maxHeartbeats 1000000 in
theorem Ce1 (F : Fence) (n : Nat) (hf : F.fn 172) (hro : F.round = none) (l Bs cap : Nat) (oa : Option Addr) (J : List (Int × O3) → World → Prop) (W : World) (hBs : W.cell? ⟨Bs, 0, none⟩ = some (.slice oa 0 cap)) (h0 : J [] W) :
    CallsIn F n Tryz.prog 172 #[.func (.yield l) #[] #[], .pointer (some ⟨Bs, 0, none⟩)] W fun e W' => (∃ v, e = .returned v) ∧ J [] W' := by
  refine callsIn_of_wp Tryz.func172 rfl hf ?_ hro;simp only [Tryz.ntmps172, List.size_toArray, H8, Q1, Nat.reduceAdd, Nat.reduceSub, Array.replicate_succ, Array.replicate_zero, List.push_toArray, List.append_toArray, AC0, Aj3]
  gi_wp2
  gi_loopw [3] (fun i wr => i = .int .i64 (-1) ∧ J [] wr) (fun _ _ => 0)
  case atStart => exact ⟨rfl, h0⟩
  case round =>
    obtain ⟨rfl, hJs⟩ := hrel
    gi_wp2
    go_end0
    exact ⟨⟨_, rfl⟩, hJs⟩
set_option maxHeartbeats 1000000 in
theorem back_in (F : Fence) (n : Nat) (hf : F.fn 147) (hro : F.round = none) (a : Option Addr) (len cap : Nat) (w : World) :
    CallsIn F n Tryz.prog 147 #[.slice a len cap] w fun e w' => e = .returned (.func (.func 172) #[] #[.pointer (some ⟨w.heap.size, 0, none⟩)]) ∧ w' = w.alloc (.cells #[.slice a len cap] 59) := by
  refine callsIn_of_wp Tryz.func147 rfl hf ?_ hro;simp only [Tryz.ntmps147, List.size_toArray, H8, Q1, Nat.reduceAdd, Nat.reduceSub, Array.replicate_succ, Array.replicate_zero, List.push_toArray, List.append_toArray, AC0, Aj3]
  gi_wp2
  go_ret
  exact ⟨rfl, rfl⟩
def Bz6 (n₀ : Nat) (W : World) (oa : Option Addr) (zs : List O3) : Prop := zs = [] ∨ ∃ b off, oa = some ⟨b, off, none⟩ ∧ b < n₀ ∧ Bd9 W b off zs
theorem Cx2 (F : Fence) (n : Nat) (hf : F.fn 172) (hro : F.round = none) (hn : 1 ≤ n) (Bs n₀ : Nat) (oa : Option Addr) (cap : Nat) (zs : List O3) (hreach : zs.length * 32 ≤ 140737488351232) (w : World) (hBn : Bs < n₀) (hn₀ : n₀ ≤ w.heap.size)
    (hc : w.cell? ⟨Bs, 0, none⟩ = some (.slice oa zs.length cap)) (hI : Bz6 n₀ w oa zs) :
    SeqStopsK F n Tryz.prog 172 #[.pointer (some ⟨Bs, 0, none⟩)] (fun x : Int × O3 => #[Value.int .i64 x.1, CG0 x.2]) (Below n₀) (fun ys => ys = Ah7 (Ab6 zs) zs.length) (fun pre => ∃ k, k ≤ zs.length ∧ pre = Ah7 (Ab6 zs) k) zs.length w := fun l J Jx W hW _ _ hY h0 => by
  have hc' := (hW.cell (p := ⟨Bs, 0, none⟩) (show Bs < w.heap.size by omega)).trans hc;rcases hI with rfl | ⟨b, off, rfl, hb, hcs⟩
  · exact (Ce1 F n hf hro l Bs cap oa J W hc' h0).mono fun e W' ⟨he, hj⟩ => ⟨he, .inl ⟨_, rfl, hj⟩⟩
  · exact back1_in F n hf hro hn l Bs n₀ b off cap zs hreach hb J Jx hY W hc' hBn (hcs.below (hW.mono hn₀) hb) h0
attribute [local go_sem] Oper.semAt_some
theorem Ce2 (zs : List O3) (k : Nat) (hk : k ≤ zs.length) : (Ah7 (Ab6 zs) k).map Prod.snd = zs.reverse.take k := by
  apply List.ext_getElem
  · simp [Ah7]; omega
  · intro i h1 h2
    have : i < zs.length := by simp at h2; omega
    simp [Ah7, Ab6];rw [N6 qz8]; rfl
theorem val_none {c : B1} {t : Int} (h : ∀ x ∈ Ah7 (Ab6 c.Vers) c.Vers.length, ¬ x.2.Time ≤ t) : Z8 c t = ([], false) := by
  have e := Ce2 c.Vers c.Vers.length (K5 _);rw [← List.length_reverse, AJ5] at e;unfold Z8;rw [← e, List.length_reverse];have : ((Ah7 (Ab6 c.Vers) c.Vers.length).map Prod.snd).find? (fun v => decide (v.Time ≤ t)) = none := by
    rw [List.find?_eq_none];intro v hv;obtain ⟨x, hx, rfl⟩ := Y0.1 hv;simpa using h x hx
  rw [this]
theorem val_some {c : B1} {t : Int} {k : Nat} {pre : List (Int × O3)} {x : Int × O3} (hk : k ≤ c.Vers.length) (he : pre ++ [x] = Ah7 (Ab6 c.Vers) k) (h : ∀ y ∈ pre, ¬ y.2.Time ≤ t) (hx : x.2.Time ≤ t) : Z8 c t = (x.2.Val, !x.2.Gone) := by
  have e := Ce2 c.Vers k hk;rw [← he, X1] at e;have e2 : c.Vers.reverse = (pre.map Prod.snd ++ [x.2]) ++ c.Vers.reverse.drop k := by
    have := Ab0 k c.Vers.reverse;rw [← e] at this; exact this.symm
  unfold Z8;have hn : (pre.map Prod.snd).find? (fun v => decide (v.Time ≤ t)) = none := by
    rw [List.find?_eq_none];intro v hv;obtain ⟨y, hy, rfl⟩ := Y0.1 hv;simpa using h y hy
  rw [e2, f4, List.find?_append, hn, Option.none_or, List.singleton_append, List.find?_cons];simp only [i7 hx]
def Bz7 (t : Int) (pre : List (Int × O3)) : Prop := ∀ x ∈ pre, ¬ x.2.Time ≤ t
def OneAt (t : Int) (pre : List (Int × O3)) (v : O3) : Prop := ∃ pre0 i, pre = pre0 ++ [(i, v)] ∧ Bz7 t pre0 ∧ v.Time ≤ t
theorem Cm0 {t : Int} {pre : List (Int × O3)} {x : Int × O3} (h : Bz7 t pre) (k : t < x.2.Time) : Bz7 t (pre ++ [x]) := fun y hy => by
  rcases o5.1 hy with e | e
  · exact h y e
  · simp at e; subst e; omega
set_option maxRecDepth 100000 in
set_option maxHeartbeats 4000000 in
theorem at_in (F : Fence) (n : Nat) (h1f : F.fn 123) (h2f : F.fn 147) (h3f : F.fn 172) (hro : F.round = none) (hn : 6 ≤ n) (c : B1) (t : Int) (oa : Option Addr) (cap : Nat) (hreach : c.Vers.length * 32 ≤ 140737488351232) (w : World) (hI : Bz6 w.heap.size w oa c.Vers) :
    CallsIn F n Tryz.prog 123 #[.agg #[.string ⟨c.Key.toArray⟩, .slice oa c.Vers.length cap], .int .i64 t] w fun e W' => e = .returned (.tuple #[.string ⟨(Z8 c t).1.toArray⟩, .bool (Z8 c t).2]) ∧ Below w.heap.size w W' := by
  have h1 : 1 ≤ n := by omega
  refine callsIn_of_wp_marks Tryz.func123 rfl h1f ?_ hro;simp only [Tryz.ntmps123, List.size_toArray, H8, Q1, Nat.reduceAdd, Nat.reduceSub, Array.replicate_succ, Array.replicate_zero, List.push_toArray, List.append_toArray, AC0, Aj3]
  gi_wp2_with (gi_at_call 147; refine (back_in F (n - 1) h2f hro _ _ _ _).mono ?_; rintro e w' ⟨rfl, rfl⟩)
  have b3 := (((Boxed.new (w.alloc (.cells #[.string ⟨c.Key.toArray⟩, .slice oa c.Vers.length cap] 61)) 3 (.int .i64 t)).alloc (.cells #[.string { data := #[] }] 9)).alloc (.cells #[.bool false] 4)).alloc (.cells #[.slice oa c.Vers.length cap] 59);have b4 := ((Boxed.new ((w.alloc (.cells #[.string ⟨c.Key.toArray⟩, .slice oa c.Vers.length cap] 61)).alloc (.cells #[.int .i64 t] 3)) 9 (.string { data := #[] })).alloc (.cells #[.bool false] 4)).alloc (.cells #[.slice oa c.Vers.length cap] 59);have b5 := (Boxed.new (((w.alloc (.cells #[.string ⟨c.Key.toArray⟩, .slice oa c.Vers.length cap] 61)).alloc (.cells #[.int .i64 t] 3)).alloc (.cells #[.string { data := #[] }] 9)) 4 (.bool false)).alloc (.cells #[.slice oa c.Vers.length cap] 59);have bs := Boxed.new ((((w.alloc (.cells #[.string ⟨c.Key.toArray⟩, .slice oa c.Vers.length cap] 61)).alloc (.cells #[.int .i64 t] 3)).alloc (.cells #[.string { data := #[] }] 9)).alloc (.cells #[.bool false] 4)) 59 (.slice oa c.Vers.length cap);simp only [World.size_alloc] at b3 b4 b5 bs;have hB0 : Below w.heap.size w (((((w.alloc (.cells #[.string ⟨c.Key.toArray⟩, .slice oa c.Vers.length cap] 61)).alloc (.cells #[.int .i64 t] 3)).alloc (.cells #[.string { data := #[] }] 9)).alloc (.cells #[.bool false] 4)).alloc (.cells #[.slice oa c.Vers.length cap] 59)) := (((((Below.refl _ w).alloc (K5 _) _).alloc Z1 _).alloc AB6 _).alloc AB6 _).alloc AB6 _;have hsz : (((((w.alloc (.cells #[.string ⟨c.Key.toArray⟩, .slice oa c.Vers.length cap] 61)).alloc (.cells #[.int .i64 t] 3)).alloc (.cells #[.string { data := #[] }] 9)).alloc (.cells #[.bool false] 4)).alloc (.cells #[.slice oa c.Vers.length cap] 59)).heap.size = w.heap.size + 5 := by simp
  obtain ⟨W0, hW0⟩ : ∃ W0, ((((w.alloc (.cells #[.string ⟨c.Key.toArray⟩, .slice oa c.Vers.length cap] 61)).alloc (.cells #[.int .i64 t] 3)).alloc (.cells #[.string { data := #[] }] 9)).alloc (.cells #[.bool false] 4)).alloc (.cells #[.slice oa c.Vers.length cap] 59) = W0 := ⟨_, rfl⟩;rw [hW0] at b3 b4 b5 bs hB0 hsz ⊢;clear hW0;have hI0 : Bz6 W0.heap.size W0 oa c.Vers := by
    rcases hI with h | ⟨b, off, e, hb, hv⟩
    · exact .inl h
    · exact .inr ⟨b, off, e, by omega, hv.below hB0 hb⟩
  refine wpIn_rangeFunc_ownH hro h1 (gf := 172) (lb := #[.pointer (some ⟨w.heap.size + 1 + 1 + 1 + 1, 0, none⟩)]) rfl h3f (enters_of Tryz.func172 D4 rfl)
    (Cx2 F (n - 1) h3f hro qz8 (w.heap.size + 1 + 1 + 1 + 1) W0.heap.size oa cap c.Vers hreach W0 qz8 (K5 _) bs.cell hI0) belowK_t (belowK_b (K5 _)) (Below.refl _ _) (fun _ => rfl)
    (fun pre W => (((Bz7 t pre ∧ Boxed W (w.heap.size + 1) 3 (.int .i64 t)) ∧ Boxed W (w.heap.size + 1 + 1) 9 (.string { data := #[] })) ∧ Boxed W (w.heap.size + 1 + 1 + 1) 4 (.bool false)) ∧ (Below w.heap.size w W ∧ Below W0.heap.size W0 W))
    (fun cd pre W => (∃ v, (((cd = .ret ∧ OneAt t pre v) ∧ Boxed W (w.heap.size + 1 + 1) 9 (.string ⟨v.Val.toArray⟩)) ∧ Boxed W (w.heap.size + 1 + 1 + 1) 4 (.bool (!v.Gone)))) ∧ Below w.heap.size w W)
    (OwnFrom.and (OwnFrom.and (OwnFrom.and (OwnFrom.and (ownFrom_pure _ _) (Own.from (boxed_own _ _ _) _)) (Own.from (boxed_own _ _ _) _)) (Own.from (boxed_own _ _ _) _)) (OwnFrom.and (ownFrom_below (K5 _) qz8) (ownFrom_below (K5 _) (K5 _))))
    (fun cd => OwnFrom.and (fun s X Y row hs hg hr => by
      obtain ⟨v, ⟨e1, e2⟩, e3⟩ := hs;exact ⟨v, ⟨e1, boxed_own _ _ (fun (_ : Unit) => Value.string ⟨v.Val.toArray⟩) () X Y row e2 hg (fun r e => (hr r e).2)⟩, boxed_own _ _ (fun (_ : Unit) => Value.bool (!v.Gone)) () X Y row e3 hg (fun r e => (hr r e).2)⟩) (ownFrom_below (K5 _) qz8))
    ⟨⟨⟨⟨fun _ h => by simp at h, b3⟩, b4⟩, b5⟩, hB0, Below.refl _ _⟩
    (fun x a' W => ∃ Bx, w.heap.size + 1 + 1 + 1 < Bx ∧ (W.cell? ⟨Bx, 0, none⟩ = some (.int .i64 x.2.Time) ∧ W.cell? ⟨Bx, 1, none⟩ = some (.string ⟨x.2.Val.toArray⟩) ∧ W.cell? ⟨Bx, 2, none⟩ = some (.bool x.2.Gone)) ∧ a' = { tmps := #[.agg #[.string ⟨c.Key.toArray⟩, .slice oa c.Vers.length cap], .int .i64 t, .pointer (some ⟨w.heap.size, 0, none⟩), .pointer (some ⟨w.heap.size + 1, 0, none⟩), .pointer (some ⟨w.heap.size + 1 + 1, 0, none⟩), .pointer (some ⟨w.heap.size + 1 + 1 + 1, 0, none⟩), undef, .pointer (some ⟨Bx, 0, none⟩), .pointer (some ⟨w.heap.size, 1, none⟩), .slice oa c.Vers.length cap, .func (.func 172) #[] #[.pointer (some ⟨w.heap.size + 1 + 1 + 1 + 1, 0, none⟩)], .int .i64 x.1, CG0 x.2, undef, undef, undef, undef, undef, undef, undef, undef, undef], defers := [] })
    (fun x a' _ X Y row hs hg hr => by
      obtain ⟨Bx, e1, ⟨e2, e3, e4⟩, e5⟩ := hs;exact ⟨Bx, e1, ⟨cell_kept e2 hg (fun r e => (hr r e).2), cell_kept e3 hg (fun r e => (hr r e).2), cell_kept e4 hg (fun r e => (hr r e).2)⟩, e5⟩)
    ?assign ?body ?done ?stop
  case assign =>
    rintro l pre x W K ⟨⟨⟨⟨hp, bt⟩, bv⟩, bg⟩, hB1, hB2⟩ hK
    dsimp only [CG0];have hW0 := hB2.size
    gi_wp2
    refine hK _ _ ((KeepsOthers.alloc _ _).from _) ((Below.refl _ W).alloc qz8 _) ⟨⟨⟨⟨hp, bt.alloc _⟩, bv.alloc _⟩, bg.alloc _⟩, hB1.alloc hB1.size _, hB2.alloc hB2.size _⟩ ⟨W.heap.size, bg.lt, ⟨?_, ?_, ?_⟩, rfl⟩
    · unfold World.cell?; rw [World.alloc_heap_new]; rfl
    · unfold World.cell?; rw [World.alloc_heap_new]; rfl
    · unfold World.cell?; rw [World.alloc_heap_new]; rfl
  case body =>
    rintro l pre x a' W hl ⟨r, hr⟩ ⟨⟨⟨⟨hp, bt⟩, bv⟩, bg⟩, hB1, hB2⟩ ⟨Bx, hBx, ⟨c1, c2, c3⟩, rfl⟩ hlt
    have ct := bt.cell;have cv := bv.cell;have fv := bv.frozen;have cg := bg.cell;have fg := bg.frozen;dsimp only [CG0]
    gi_wp2
    · have hxy : x.2.Time ≤ t := by assumption
      have bv2 := (bv.set (.string ⟨x.2.Val.toArray⟩)).other (show w.heap.size + 1 + 1 ≠ w.heap.size + 1 + 1 + 1 by omega) (.bool (!x.2.Gone));have bg2 := (bg.other (show w.heap.size + 1 + 1 + 1 ≠ w.heap.size + 1 + 1 by omega) (.string ⟨x.2.Val.toArray⟩)).set (.bool (!x.2.Gone));have hB3 := (hB1.setCell (p := ⟨w.heap.size + 1 + 1, 0, none⟩) AB6 (.string ⟨x.2.Val.toArray⟩)).setCell (p := ⟨w.heap.size + 1 + 1 + 1, 0, none⟩) AB6 (.bool (!x.2.Gone));have hone : OneAt t (pre ++ [x]) x.2 := ⟨pre, x.1, rfl, hp, hxy⟩
      gi_region
      all_goals gi_wp2
      all_goals exact ⟨((KeepsOthers.setCell _ _ _).trans ((KeepsOthers.setCell _ _ _).trans (KeepsOthers.drew _))).from _, ⟨x.2, ⟨⟨rfl, hone⟩, bv2⟩, bg2⟩, hB3.drew⟩
    · rename_i hxy
      exact ⟨KeepsFrom.refl _ _, Below.refl _ _, ⟨⟨⟨Cm0 hp hxy, bt⟩, bv⟩, bg⟩, hB1, hB2⟩
  case done =>
    rintro D zs W hD rfl ⟨⟨⟨⟨hp, bt⟩, bv⟩, bg⟩, hB1, hB2⟩ hK
    have cv := bv.cell;have fv := bv.frozen;have cg := bg.cell;have fg := bg.frozen
    gi_wp2
    have hK1 := (KeepsOthers.setCell W ⟨w.heap.size + 1 + 1, 0, none⟩ (.string { data := #[] })).same D _ hK rfl;have hK' := (KeepsOthers.setCell _ ⟨w.heap.size + 1 + 1 + 1, 0, none⟩ (.bool false)).same D _ hK1 rfl;refine ⟨by simp, .inl ⟨_, _, rfl, run_takeDeferred hK', ?_⟩⟩;have bv2 := (bv.set (.string { data := #[] })).other (show w.heap.size + 1 + 1 ≠ w.heap.size + 1 + 1 + 1 by omega) (.bool false);have bg2 := (bg.other (show w.heap.size + 1 + 1 + 1 ≠ w.heap.size + 1 + 1 by omega) (.string { data := #[] })).set (.bool false);have hc4 := cell_kept bv2.cell (grownBy_putObj' _ D (.deferred none)) (fun r e => by cases e; exact ⟨_, hK', rfl⟩);have hc5 := cell_kept bg2.cell (grownBy_putObj' _ D (.deferred none)) (fun r e => by cases e; exact ⟨_, hK', rfl⟩);refine ⟨.tuple #[.string { data := #[] }, .bool false], ?_, by rw [val_none hp], ((hB1.setCell (p := ⟨w.heap.size + 1 + 1, 0, none⟩) AB6 _).setCell (p := ⟨w.heap.size + 1 + 1 + 1, 0, none⟩) AB6 _).trans (belowK_b (w := w) (K5 _) _ D _ _ qz8 hK' rfl rfl)⟩;simp [results, Tryz.f123, go_sem, hc4, hc5]
  case stop =>
    rintro D cd pre W hD ⟨k, hk, hpre⟩ ⟨⟨v, ⟨⟨rfl, hone⟩, bv⟩, bg⟩, hB1⟩ hK
    gi_wp2
    refine ⟨by simp, .inl ⟨_, _, rfl, run_takeDeferred hK, ?_⟩⟩;have hc4 := cell_kept bv.cell (grownBy_putObj' _ D (.deferred none)) (fun r e => by cases e; exact ⟨_, hK, rfl⟩);have hc5 := cell_kept bg.cell (grownBy_putObj' _ D (.deferred none)) (fun r e => by cases e; exact ⟨_, hK, rfl⟩);obtain ⟨pre0, i, he, hn0, hvt⟩ := hone;have hval := val_some (x := (i, v)) hk (he.symm.trans hpre) hn0 hvt;refine ⟨.tuple #[.string ⟨v.Val.toArray⟩, .bool (!v.Gone)], ?_, by rw [hval], hB1.trans (belowK_b (w := w) (K5 _) W D _ _ qz8 hK rfl rfl)⟩;simp [results, Tryz.f123, go_sem, hc4, hc5]
open Go.AV in
open Go.AV in
theorem at_spec (c : B1) (t : Int) (hs : c.Vers.length ≤ 4194304) : E1 123 [AV.agg c.cs, AV.int t] (AV.tup [AV.str (Z8 c t).1, AV.bool (Z8 c t).2]) := fspec_mk fun R w vs hr hd => by
  obtain ⟨v0, v1, rfl⟩ : ∃ a b, vs = [a, b] := by
    match vs, hd.1 with
    | [a, b], _ => exact ⟨a, b, rfl⟩
  obtain ⟨us, rfl, hdc⟩ := hd.2 0 v0 _ rfl rfl;have d1 : v1 = .int .i64 t := hd.2 1 v1 _ rfl rfl;subst d1;obtain ⟨u0, u1, rfl⟩ : ∃ a b, us = [a, b] := by
    match us, hdc.1 with
    | [a, b], _ => exact ⟨a, b, rfl⟩
  have e0 : u0 = .string ⟨c.Key.toArray⟩ := (hdc.2 0 u0 _ rfl rfl).1;subst e0;obtain ⟨oa, cap, e1, h1, h2, h3, h4⟩ := (hdc.2 1 u1 _ rfl rfl).1;subst e1;have hI : Bz6 w.heap.size w oa c.Vers := by
    by_cases hn : c.Vers = []
    · exact .inl hn
    · obtain ⟨a, rfl, hca⟩ := h4 (by simpa using hn)
      have hget : ∀ (j : Nat) (v : O3) (i : Nat) (x : AV), c.Vers[j]? = some v → (O3.cs v)[i]? = some x → ∃ u, AY4 R (a.add (j * 3 + i)) = some u ∧ x.den R u ∧ u.oneCell' = true := fun j v i x hj hx =>
        hca _ x (AC5 h3 (by rw [X2, hj]; rfl) hx)
      obtain ⟨b, off, sp⟩ := a;have hsp : sp = none := by
        obtain ⟨v, hv⟩ := B4 (show 0 < c.Vers.length from List.length_pos_iff.2 hn);obtain ⟨u, hu, _⟩ := hget 0 v 0 _ hv rfl;unfold AY4 at hu
        cases sp with
        | none => rfl
        | some s => simp [Addr.add] at hu; split at hu <;> cases hu
      subst hsp;refine .inr ⟨b, off, rfl, ?_, fun j v hj => ?_⟩
      · obtain ⟨v, hv⟩ := B4 (show 0 < c.Vers.length from List.length_pos_iff.2 hn)
        obtain ⟨u, hu, _⟩ := hget 0 v 0 _ hv rfl;unfold AY4 at hu;split at hu
        · rename_i hb
          exact (AR6.1 (hr _ _ hb)).1
        · cases hu
      · obtain ⟨x0, k0, k0', _⟩ := hget j v 0 _ hj rfl
        obtain ⟨x1, k1, k1', _⟩ := hget j v 1 _ hj rfl;obtain ⟨x2, k2, k2', _⟩ := hget j v 2 _ hj rfl;have k0'' : x0 = .int .i64 v.Time := k0';have k1'' : x1 = .string ⟨v.Val.toArray⟩ := k1';have k2'' : x2 = .bool v.Gone := k2';subst k0''; subst k1''; subst k2'';rw [show ((⟨b, off, none⟩ : Addr).add (j * 3 + 0)) = ⟨b, off + j * 3, none⟩ by simp [Addr.add]] at k0;rw [show ((⟨b, off, none⟩ : Addr).add (j * 3 + 1)) = ⟨b, off + j * 3 + 1, none⟩ by simp [Addr.add, Nat.add_assoc]] at k1;rw [show ((⟨b, off, none⟩ : Addr).add (j * 3 + 2)) = ⟨b, off + j * 3 + 2, none⟩ by simp [Addr.add, Nat.add_assoc]] at k2;exact ⟨AQ1 hr k0, AQ1 hr k1, AQ1 hr k2⟩
  refine (callsIn_wide (n := 8)).1 ?_;have hl : (c.Vers.map O3.cs).length = c.Vers.length := A7 _;rw [show ([Value.agg [.string ⟨c.Key.toArray⟩, .slice oa (c.Vers.map O3.cs).length cap].toArray, .int .i64 t] : List Value).toArray = #[.agg #[.string ⟨c.Key.toArray⟩, .slice oa c.Vers.length cap], .int .i64 t] from by rw [hl]];refine (at_in Fence.wide 8 trivial trivial trivial rfl qz8 c t oa cap qz8 w hI).mono ?_
  rintro e W' ⟨rfl, hB⟩
  refine ⟨_, R, rfl, ⟨[.string ⟨(Z8 c t).1.toArray⟩, .bool (Z8 c t).2], rfl, Z7.cons rfl (Z7.cons rfl (Z7.nil R))⟩, fun b o hb => ?_, fun _ _ => rfl, hB⟩;have := hr b o hb;rw [hB.block b (AR6.1 this).1]; exact this
end Go.PQ
namespace Go.PQ
open Go.Proofs
open Go Go.AV Go.M
attribute [local irreducible] OpW OpA OpS AWP J6 L3 K2 K6 Le Ev F7
theorem BT9 (c : B1) (t : Int) (hl : c.Vers.length ≤ 4194304) : E1 60 [AV.agg c.cs, AV.int t] (AV.tup [AV.agg ((AB2 c.Vers t).getD zV).cs, AV.bool (AB2 c.Vers t).isSome]) := by
 refine B3 Tryz.func60 rfl Tryz.ntmps60 rfl ?_;refine R3 ?_;intro b2;refine R1 ?_;intro b4;refine R5 ?_;intro b6;refine R14 ?_;refine F2 [(1, _), (4, _), (5, _), (6, _), (11, _), (12, _)] _ (fun (i : Nat) => i ≤ c.Vers.length) (fun i => [.box b6 64 ((AB2 (c.Vers.take i) t).getD zV).cs]) (fun i => [(7, AV.bool (AB2 (c.Vers.take i) t).isSome), (13, AV.int i)]) (fun i => c.Vers.length - i) (0) ?_ (K1 C1 A8) ?_
 ·exact E2 _
 intro i hinv;refine R5 ?_;refine A3 ?_ ?_
 ·intro h14;have k14 := C5 h14;have hlt : i < c.Vers.length := by omega
  obtain ⟨x, hx⟩ := B4 hlt;have hvs := Cs7 (t := t) hx;refine R5 ?_;refine A1 rfl (D3 rfl V5 n8 (A0 rfl) (A0 rfl) hx qz2) ?_;refine R2 ?_;intro b9;refine R9 ?_;refine A3 ?_ ?_
  ·intro h20;have k20 := C5 h20;have hve : AB2 (c.Vers.take (i + 1)) t = some x := by rw [hvs, D0 k20]
   refine R12 ?_;refine G4 i (i + 1) ?_ ?_ (E5 1 (by first | (rw [hve]; rfl) | (rw [hve])) ⟨C3 (fun z : Bool => some (AV.bool z)) (by rw [hve]; try rfl), rfl, rfl, rfl, rfl, rfl, rfl, rfl, trivial⟩)
   ·omega
   omega
  intro h20;have k20 := B9 h20;have hve : AB2 (c.Vers.take (i + 1)) t = AB2 (c.Vers.take i) t := by rw [hvs, C6 k20]
  refine R5 ?_;refine G4 i (i + 1) ?_ ?_ (E5 1 (by first | (rw [hve]; rfl) | (rw [hve])) ⟨C3 (fun z : Bool => some (AV.bool z)) (by rw [hve]; try rfl), rfl, rfl, rfl, rfl, rfl, rfl, rfl, trivial⟩)
  ·omega
  omega
 intro h14;have k14 := B9 h14;have hge : c.Vers.length ≤ i := by omega
 rw [P8 hge];refine R9 ?_;exact f7 rfl F1 (I3 (F3 (ys := _) 1 rfl rfl Tryz.isAgg64 n8 rfl) (I3 (A6 rfl (by first | rfl | exact C3 AV.bool (by rw [P8 hge]))) AB5))
theorem Bk4 (l : List B1) (k : Str) (t : Int) (hs : C7 B1.size l ≤ 4194304) : E1 237 [AV.list 2 (l.map B1.cs), AV.str k, AV.int t] (AV.tup [AV.str (cellAt l k t).1, AV.bool (cellAt l k t).2]) := by
 refine B3 Tryz.func237 rfl Tryz.ntmps237 rfl ?_;refine R2 ?_;refine A1 rfl (G1 rfl (S8 (l := []) rfl)) ?_;refine R6 ?_;refine A1 rfl (A5 rfl Tryz.call282 rfl (Ba3 _ _) F0) ?_;refine R8 ?_;refine A3 ?_ ?_
 ·intro h15;have k15 := C5 h15;have he : cellAt l k t = ([], false) := Ch5 (CC0 k15);rw [he];refine R2 ?_;refine A1 rfl (G1 rfl (S8 (l := []) rfl)) ?_;refine R3 ?_;exact f7 rfl F1 AD2
 intro h15;have k15 := B9 h15;obtain ⟨p, c, hp, hc, hf⟩ := CC1 k15;rw [hp];have hcl := (AK4 (L8 (U6 hc) hs)).2.1;have he := (Ch6 (t := t) hf).trans (AP6 c t);rw [he];refine R5 ?_;refine A1 rfl (D3 rfl D2 I1 (A0 rfl) (A0 rfl) hc qz2) ?_;refine R2 ?_;refine A1 rfl (A5 rfl Tryz.call60 rfl (BT9 _ _ W1) (A2 (A0 rfl) (A2 (A0 rfl) B0))) ?_;refine R4 ?_;intro b9;refine R17 ?_;exact f7 rfl F1 AD2
theorem Ce3 (l : List B1) (t : Int) (hs : C7 B1.size l ≤ 4194304) : E1 75 [AV.list 2 (l.map B1.cs), AV.int t] (AV.list 3 ((T3 l t).map A4.cs)) := by
 have hl : l.length ≤ 4194304 := L8 L9 hs;refine B3 Tryz.func75 rfl Tryz.ntmps75 rfl ?_;refine R2 ?_;refine A1 rfl (G1 rfl (Y5 (sz := 3))) ?_;refine R3 ?_;refine P6 rfl rfl rfl rfl D7 H0 ?_;intro v10;refine R10 ?_;refine J0 [(1, _), (4, _), (11, _), (12, _)] _ (fun (i : Nat) (v : Value) => i ≤ l.length) (fun i v => [.arr v 67 3 ((T3 (l.take i) t).map A4.cs)]) (fun i v => [(5, AV.is v), (13, AV.int i)]) (fun i v => l.length - i) (0) (v10) ?_ (K1 C1 A8) ?_
 ·exact E2 _
 intro i v hinv;refine R5 ?_;refine A3 ?_ ?_
 ·intro h14;have k14 := C5 h14;have hlt : i < l.length := by omega
  obtain ⟨x, hx⟩ := B4 hlt;have hcl := (AK4 (L8 (U6 hx) hs)).2.1;have hct := BY9 (t := t) hx;have hcn := Ai4 (l.take i) t;have htl : (l.take i).length = i := by rw [F4]; omega
  refine R5 ?_;refine A1 rfl (D3 rfl D2 I1 (A0 rfl) (A0 rfl) hx qz2) ?_;refine R2 ?_;intro b7;refine R6 ?_;refine A1 rfl (A5 rfl Tryz.call123 rfl (at_spec _ _ qz8) (A2 (A0 rfl) (A2 (A0 rfl) B0))) ?_;refine R10 ?_;refine A3 ?_ ?_
  ·intro h23;have hout : (T3 (l.take i) t).map A4.cs ++ [A4.cs ⟨x.Key, (Z8 x t).1, false⟩] = (T3 (l.take (i + 1)) t).map A4.cs := by rw [hct, D0 h23, X1]; rfl
   refine R7 ?_;refine H4 (by' := 40) 1 rfl rfl rfl rfl D7 Tryz.type67 rfl rfl rfl rfl rfl rfl (A0 rfl) (A0 rfl) rfl CS0 ?_;intro v30_1;refine R6 ?_;refine G8 i v (i + 1) (v30_1) ?_ ?_ (Le.trans (B8 [0, 0] rfl) (E5 1 (by first | exact C3 (fun z => [Own.arr _ 67 3 z]) hout) A8))
   ·omega
   omega
  intro h23;have hout : (T3 (l.take i) t).map A4.cs = (T3 (l.take (i + 1)) t).map A4.cs := by rw [hct, C6 (by rw [h23]; decide), Q6]
  refine R5 ?_;refine G8 i v (i + 1) (v) ?_ ?_ (Le.trans (B8 [0, 0] rfl) (E5 1 (by first | exact C3 (fun z => [Own.arr _ 67 3 z]) hout) A8))
  ·omega
  omega
 intro h14;have k14 := B9 h14;have hge : l.length ≤ i := by omega
 rw [P8 hge];refine R7 ?_;refine Ak0 0 4 rfl rfl ?_;exact D6 rfl (A6 rfl C1)
theorem Cx3 (l : List B1) (t : Int) (hs : C7 B1.size l ≤ 4194304) : E1 103 [AV.list 2 (l.map B1.cs), AV.int t] (AV.list 3 ((T3 l t).map A4.cs)) := by
 have hl : l.length ≤ 4194304 := L8 L9 hs;refine B3 Tryz.func103 rfl Tryz.ntmps103 rfl ?_;refine R2 ?_;refine A1 rfl (G1 rfl (Y5 (sz := 3))) ?_;refine R3 ?_;refine c7 67 3 rfl rfl rfl rfl I9 ?_;intro v5;refine R9 ?_;refine J0 [(1, _), (4, _), (10, _), (11, _)] _ (fun (i : Nat) (v : Value) => i ≤ l.length) (fun i v => [.arr v 67 3 ((T3 (l.take i) t).map A4.cs)]) (fun i v => [(5, AV.is v), (12, AV.int i)]) (fun i v => l.length - i) (0) (v5) ?_ (K1 C1 A8) ?_
 ·exact E2 _
 intro i v hinv;refine R5 ?_;refine A3 ?_ ?_
 ·intro h13;have k13 := C5 h13;have hlt : i < l.length := by omega
  obtain ⟨x, hx⟩ := B4 hlt;have hcl := (AK4 (L8 (U6 hx) hs)).2.1;have hct := BY9 (t := t) hx;have hcn := Ai4 (l.take i) t;have htl : (l.take i).length = i := by rw [F4]; omega
  rw [AP6] at hct;refine R5 ?_;refine A1 rfl (D3 rfl D2 I1 (A0 rfl) (A0 rfl) hx qz2) ?_;refine R2 ?_;intro b7;refine R6 ?_;refine A1 rfl (A5 rfl Tryz.call60 rfl (BT9 _ _ W1) (A2 (A0 rfl) (A2 (A0 rfl) B0))) ?_;refine R4 ?_;intro b8;refine R12 ?_;refine A3 ?_ ?_
  ·intro h27;have hout : (T3 (l.take i) t).map A4.cs ++ [A4.cs ⟨x.Key, ((AB2 x.Vers t).getD zV).Val, false⟩] = (T3 (l.take (i + 1)) t).map A4.cs := by rw [hct, D0 h27, X1]; rfl
   refine R8 ?_;refine H4 (by' := 40) 2 rfl rfl rfl rfl D7 Tryz.type67 rfl rfl rfl rfl rfl rfl (A0 rfl) (A0 rfl) rfl CS0 ?_;intro v35_1;refine R6 ?_;refine G8 i v (i + 1) (v35_1) ?_ ?_ (Le.trans (B8 [0, 0, 0] rfl) (E5 2 (by exact C3 (fun z => [Own.arr _ 67 3 z]) hout) A8))
   ·omega
   omega
  intro h27;have hout : (T3 (l.take i) t).map A4.cs = (T3 (l.take (i + 1)) t).map A4.cs := by rw [hct, C6 (by rw [h27]; simp), Q6]
  refine R5 ?_;refine G8 i v (i + 1) (v) ?_ ?_ (Le.trans (B8 [0, 0, 0] rfl) (E5 2 (by exact C3 (fun z => [Own.arr _ 67 3 z]) hout) A8))
  ·omega
  omega
 intro h13;have k13 := B9 h13;have hge : l.length ≤ i := by omega
 rw [P8 hge];refine R7 ?_;refine Ak0 0 4 rfl rfl ?_;exact D6 rfl (A6 rfl C1)
theorem BE1 (a b : List A4) : E1 8 [AV.list 3 (a.map A4.cs), AV.list 3 (b.map A4.cs)] (AV.bool (decide (a = b))) := by
 refine B3 Tryz.func8 rfl Tryz.ntmps8 rfl ?_;refine l7 (t := 0) rfl fun hl => ?_;try simp only [A7] at hl
 refine R13 ?_;refine A3 ?_ ?_
 ·intro h10;have k10 := CG3 h10;(try simp only [A7] at k10);have hab : a ≠ b := by intro hc; subst hc; exact k10 rfl
  refine R5 ?_;exact D6 rfl (A6 rfl (by exact C3 AV.bool (by simp [hab])))
 intro h10;have k10 := BG5 h10;(try simp only [A7] at k10);have heq : a.length = b.length := by omega
 refine R9 ?_;refine F2 [(0, _), (1, _), (12, _)] _ (fun (i : Nat) => i ≤ a.length ∧ a.take i = b.take i) (fun i => []) (fun i => [(13, AV.int i)]) (fun i => a.length - i) (0) ?_ (G3 A8) ?_
 ·exact ⟨E2 _, rfl⟩
 intro i hinv;refine R5 ?_;refine A3 ?_ ?_
 ·intro h14;have k14 := C5 h14;have hlt : i < a.length := by omega
  obtain ⟨x, hx⟩ := B4 hlt;obtain ⟨y, hy⟩ := B4 (show i < b.length by omega);refine R12 ?_;refine C0 rfl rfl (D3 rfl D7 H0 (A0 rfl) (A0 rfl) hx qz2) ?_;refine R3 ?_;refine C0 rfl rfl (D3 rfl D7 H0 (A0 rfl) (A0 rfl) hy qz2) ?_;refine R1 ?_;refine C0 rfl rfl (w_aneq rfl Tryz.underlying67 D4 D4 (A0 rfl) (A0 rfl) (Ar3 D4 j4 rfl rfl (Bf5 O5) (Ar3 D4 j4 rfl rfl (Bf5 O5) (Ar3 D4 AG0 rfl rfl (CV1 m3) Cn5)))) ?_;refine R1 ?_;refine A3 ?_ ?_
  ·intro h24;have hab : a ≠ b := by intro hc; subst hc; rw [hx] at hy; injection hy with hy; subst hy; simp at h24
   refine R5 ?_;exact D6 rfl (A6 rfl (by exact C3 AV.bool (by simp [hab])))
  intro h24;refine R5 ?_;refine G4 i (i + 1) ?_ ?_ (G3 A8)
  ·exact ⟨by omega, CW6 hinv.2 hx (by rw [hy]; congr 1; first | (simp_all; done) | (cases x; cases y; simp_all))⟩
  omega
 intro h14;have k14 := B9 h14;have hge : a.length ≤ i := by omega
 have hab : a = b := Cs2 heq hinv.2 hge;refine R6 ?_;exact D6 rfl (A6 rfl (by exact C3 AV.bool (by simp [hab])))
end Go.PQ
namespace Go.PQ
open Go.Proofs
open Go Go.AV Go.M
attribute [local irreducible] OpW OpA OpS AWP J6 L3 K7 OpE K2 H9 K6 Le Ev F7 M7 Int.tmod IntKind.wrap T7
end Go.PQ
namespace Go.M
open Go.AV
def m6 (a b : Int) : Int := if b < a then a else b
def BV3 (s : D9) (n : Int) : Int × Bool := if (j8 s && isTrue n) = true then (if m6 s.Floor n + 1 ≤ 100000 then (m6 s.Floor n + 1, true) else (0, false)) else (0, false)
theorem Bw1 {n : Int} : isTrue n = true ↔ 0 ≤ n ∧ n ≤ 100000 := by unfold isTrue within; simp only [E8, H1]
def n3 (c : S9) : Bool := within c.Off (-5) 5
def AF0 (c : S9) (now : Int) : Ao7 := ⟨now + c.Off - 5, now + c.Off + 5⟩
theorem CQ3 {c : S9} : n3 c = true ↔ -5 ≤ c.Off ∧ c.Off ≤ 5 := by unfold n3 within; simp only [E8, H1]
def Af2 (m : Int) (l : List Int) : Int := l.foldl m6 m
theorem Bk5 {m : Int} {l : List Int} {i : Nat} {x : Int} (h : l[i]? = some x) : Af2 m (l.take (i + 1)) = m6 (Af2 m (l.take i)) x := by
  unfold Af2;rw [T5, h, List.foldl_append]; rfl
theorem CM0 {l : List I5} {i : Nat} {e : I5} (h : l[i]? = some e) : AE9 (l.take (i + 1)) = AE9 (l.take i) ++ [e.Rec] := by
  unfold AE9; rw [T5, h, X1]; rfl
theorem BI2 {l : List E6} {i : Nat} {r b : E6} (h : l[i]? = some r) : (l.take (i + 1)).foldl (fun b r => if b.Sure < r.Sure then r else b) b = (if ((l.take i).foldl (fun b r => if b.Sure < r.Sure then r else b) b).Sure < r.Sure then r else (l.take i).foldl (fun b r => if b.Sure < r.Sure then r else b) b) := by
  rw [T5, h, List.foldl_append]; rfl
structure LogK (l : List I5) : Prop where
  len : l.length ≤ 60
  recs : ∀ e ∈ l, e.Rec.size ≤ 1100
theorem CE2 {r : E6} {t : Int} (h : GR r t) : LogK r.Log := ⟨h.len, fun e he => L8 (AP7 (h.ents e he).2.2) F1⟩
theorem BN8 {α : Type} {l : List α} {i : Nat} {x : α} (h : l[i]? = some x) : l.set i x = l := by
  apply List.ext_getElem?
  intro j;by_cases e : i = j
  · subst e; rw [AO3 (E9.1 h).1, h]
  · rw [AY3 e]
end Go.M
namespace Go.PQ
open Go.Proofs
open Go Go.AV Go.M
attribute [local irreducible] OpW OpA OpS AWP J6 L3 K7 OpE K2 H9 K6 Le Ev F7 M7 f8 Int.tmod Int.tdiv IntKind.wrap T7
end Go.PQ
namespace Go.PQ
open Go.Proofs
open Go Go.AV Go.M
attribute [local irreducible] OpW OpA OpS AWP J6 L3 K7 OpE K2 H9 K6 Le Ev F7 M7 f8 Int.tmod Int.tdiv IntKind.wrap T7
theorem Bi2 (s : D9) (n : Int) (hs : s.size ≤ 400000) : E1 334 [AV.agg s.cs, AV.int n] (AV.tup [AV.int (BV3 s n).1, AV.bool (BV3 s n).2]) := by
 refine B3 Tryz.func334 rfl Tryz.ntmps334 rfl ?_;refine R3 ?_;intro b2;refine R7 ?_;refine A1 rfl (A5 rfl Tryz.call351 rfl (Bu0 s qz8) J3) ?_;refine R3 ?_;refine Q7 rfl (fun hc => A5 rfl Tryz.call25 rfl (AT1 _) (A2 (A9 rfl hc) B0)) ?_;refine R6 ?_;refine Q7 rfl (fun hc => A5 rfl Tryz.call160 rfl (AA4 _ _) (A2 (A9 rfl hc) (A2 (A9 rfl hc) B0))) ?_;refine R3 ?_;refine A3 ?_ ?_
 ·intro h20;have he : BV3 s n = (0, false) := by (unfold BV3 m6; cases h1 : j8 s <;> cases h2 : M.isTrue n <;> simp_all)
  rw [he];refine R6 ?_;exact f7 rfl F1 AD2
 intro h20;have hg : j8 s = true ∧ M.isTrue n = true := by (cases h1 : j8 s <;> cases h2 : M.isTrue n <;> simp_all)
 have hn := Bw1.1 hg.2;have hfl := (AH0.1 hg.1).floor;have hml : 0 ≤ m6 s.Floor n ∧ m6 s.Floor n ≤ 100000 := by (unfold m6; split <;> omega)
 have hne : m6 s.Floor n ≠ 100000 := fun hc9 => by (rw [hg.1, hg.2, show (if n < s.Floor then s.Floor else n) = (100000 : Int) from hc9] at h20; simp at h20)
 have he : BV3 s n = (m6 s.Floor n + 1, true) := by (unfold BV3; rw [D0 (by rw [hg.1, hg.2]; rfl), D0 qz8])
 rw [he];refine R6 ?_;refine A1 rfl (A5 rfl Tryz.call160 rfl (AA4 _ _) F0) ?_;refine A1 rfl (BX1 rfl (A0 rfl) L1 (by show _ ≤ m6 s.Floor n + 1 ∧ m6 s.Floor n + 1 ≤ _; omega)) ?_;refine R4 ?_;exact f7 rfl F1 AD2
end Go.PQ
namespace Go.AV
end Go.AV
namespace Go.PQ
open Go.Proofs
open Go Go.AV Go.M
attribute [local irreducible] OpW OpA OpS AWP J6 L3 K7 OpE K2 H9 K6 Le Ev F7 M7 f8 Int.tmod Int.tdiv IntKind.wrap T7
theorem CE3 (s : S9) : E1 68 [AV.agg s.cs] (AV.bool (n3 s)) := by
  refine B3 Tryz.func68 rfl Tryz.ntmps68 rfl ?_;refine R3 ?_;intro b1;refine R6 ?_;refine A1 rfl (A5 rfl Tryz.call39 rfl (Y8 _ _ _) AJ2) ?_;refine R3 ?_;exact D6 rfl (A6 rfl C1)
theorem Ce4 (s : S9) : E1 55 [AV.agg s.cs] (AV.bool (n3 s)) := by
  refine B3 Tryz.func55 rfl Tryz.ntmps55 rfl ?_;refine R3 ?_;intro b1;refine R6 ?_;refine A1 rfl (A5 rfl Tryz.call24 rfl (P3 _ _ _) AJ2) ?_;refine R3 ?_;exact D6 rfl (A6 rfl C1)
theorem DG1 (c : S9) (now : Int) (hc : n3 c = true) (hn : isTrue now = true) : E1 223 [AV.agg c.cs, AV.int now] (AV.agg (AF0 c now).cs) := by
  have h1 := CQ3.1 hc;have h2 := Bw1.1 hn;refine B3 Tryz.func223 rfl Tryz.ntmps223 rfl ?_;refine R3 ?_;intro b2;refine R1 ?_;intro b4;refine R17 ?_;exact D6 rfl (F3 (ys := _) 0 rfl rfl Tryz.isAgg228 Tryz.sizeOf228 rfl)
end Go.PQ
namespace Go.PQ
open Go.Proofs
open Go Go.AV Go.M
attribute [local irreducible] OpW OpA OpS AWP J6 L3 K7 OpE K2 H9 K6 Le Ev F7 M7 f8 Int.tmod Int.tdiv IntKind.wrap T7
theorem CE4 (l : List Int) (s : Ao7) (hs : s.High ≤ 1000000 ∧ -1000000 ≤ s.High) : E1 327 [ints l, AV.agg s.cs] (AV.int (Af2 (s.High + 1) l)) := by
 refine B3 Tryz.func327 rfl Tryz.ntmps327 rfl ?_;refine l7 (t := 0) rfl fun hl => ?_;try simp only [A7] at hl
 refine R3 ?_;intro b3;refine R17 ?_;refine J0 [(4, _), (11, _), (12, _)] _ (fun (i : Nat) (m : Int) => i ≤ l.length ∧ m = Af2 (s.High + 1) (l.take i)) (fun i m => []) (fun i m => [(5, AV.int m), (13, AV.int i)]) (fun i m => l.length - i) (0) (s.High + 1) ?_ (G3 A8) ?_
 ·exact ⟨E2 _, rfl⟩
 intro i m hinv;refine R5 ?_;refine A3 ?_ ?_
 ·intro h14;have k14 := C5 h14;have hlt : i < l.length := by omega
  obtain ⟨x, hx⟩ := B4 hlt;refine R5 ?_;refine A1 rfl (D3 rfl G5 E7 (A0 rfl) (A0 rfl) hx qz2) ?_;refine R6 ?_;refine A1 rfl (A5 rfl Tryz.call160 rfl (AA4 _ _) F0) ?_;refine R6 ?_;refine G8 i m (i + 1) (m6 m x) ?_ ?_ (G3 A8)
  ·exact ⟨by omega, by rw [Bk5 hx, hinv.2]⟩
  omega
 intro h14;have k14 := B9 h14;have hge : l.length ≤ i := by omega
 rw [show m = Af2 (s.High + 1) l from by rw [hinv.2, P8 hge]];refine R7 ?_;exact D6 rfl (A6 rfl C1)
theorem CQ4 (s : D9) (x : Ao7) (hs : s.Floor ≤ 1000000 ∧ -1000000 ≤ s.Floor) (hx : x.High ≤ 1000000 ∧ -1000000 ≤ x.High) : E1 181 [AV.agg s.cs, AV.agg x.cs] (AV.int (m6 1 (m6 (s.Floor + 1) (x.High + 10)))) := by
  refine B3 Tryz.func181 rfl Tryz.ntmps181 rfl ?_;refine R3 ?_;intro b2;refine R1 ?_;intro b3;refine R10 ?_;refine A1 rfl (A5 rfl Tryz.call160 rfl (AA4 _ _) F0) ?_;refine A1 rfl (A5 rfl Tryz.call160 rfl (AA4 _ _) (A2 L1 J3)) ?_;refine R3 ?_;exact D6 rfl (A6 rfl C1)
end Go.PQ
namespace Go.PQ
open Go.Proofs
open Go Go.AV Go.M
attribute [local irreducible] OpW OpA OpS AWP J6 L3 K7 OpE K2 H9 K6 Le Ev F7 M7 f8 Int.tmod Int.tdiv IntKind.wrap T7
theorem Ax9 (l : List I5) (m : Int) (hm : 0 ≤ m ∧ m ≤ l.length) (hk : LogK l) : E1 102 [AV.list 8 (l.map I5.cs), AV.int m] (AV.agg (BO7 l m.toNat).cs) := by
 obtain ⟨n, rfl⟩ : ∃ n : Nat, m = (n : Int) := ⟨m.toNat, by omega⟩;have hnl : n ≤ l.length := by omega
 have hl6 := hk.len;refine B3 Tryz.func102 rfl Tryz.ntmps102 rfl ?_;refine R3 ?_;intro b4;refine R3 ?_;refine c7 175 7 rfl rfl rfl rfl I9 ?_;intro v5;refine R6 ?_;refine A1 rfl (AG9 rfl O9 V2 (A0 rfl) (A0 rfl) qz8 (by (try simp only [A7]); omega)) ?_;refine R4 ?_;refine J0 [(4, _), (12, _), (13, _)] _ (fun (i : Nat) (v : Value) => i ≤ n) (fun i v => [.arr v 175 7 ((AE9 (l.take i)).map M5.cs)]) (fun i v => [(5, AV.is v), (14, AV.int i)]) (fun i v => n - i) (0) (v5) ?_ (K1 C1 A8) ?_
 ·exact E2 _
 intro i v hinv;refine R5 ?_;refine A3 ?_ ?_
 ·intro h15;have k15 := C5 h15;have hlt : i < n := (by simp only [A7, F4] at k15; omega);obtain ⟨x, hx⟩ := B4 (show i < l.length by omega);have hx2 : (l.take ((n : Int)).toNat)[i]? = some x := (by rw [l4, AA8 hlt]; exact hx);have hrl : (AE9 (l.take i)).length ≤ 60 := qz176;refine R5 ?_;refine A1 rfl (D3 rfl O9 V2 (A0 rfl) (A0 rfl) hx2 qz2) ?_;refine R2 ?_;intro b7;refine R5 ?_;refine A1 rfl (Bl5 _ 0 rfl (A0 rfl) rfl AV1 AD7 rfl rfl) ?_;refine R1 ?_;refine H4 (by' := 88) 1 rfl rfl rfl rfl AG7 Tryz.type175 rfl rfl rfl rfl rfl rfl (A0 rfl) (A0 rfl) rfl (by simp only [A7, V8]; omega) ?_;intro v22_1;refine R6 ?_;refine G8 i v (i + 1) (v22_1) ?_ ?_ (Le.trans (B8 [0, 0] rfl) (E5 1 (by (rw [CM0 hx, X1]; rfl)) A8))
  ·exact qz8
  omega
 intro h15;have k15 := B9 h15;have hge : i = n := (by simp only [A7, F4] at k15; omega);subst hge;have hrl : (AE9 (l.take i)).length ≤ 60 := qz176;have hrs : ∀ r ∈ AE9 (l.take i), r.size ≤ 1100 := fun r hr => (by obtain ⟨e, he, rfl⟩ := Y0.1 hr; exact hk.recs e (AU0 he));refine R4 ?_;refine BQ5 (AK1 [0] 25 rfl rfl (K0 (C2 (i := 0) rfl) F6) BH1) ?_;refine A1 rfl (A5 rfl Tryz.call138 rfl (ofF_spec (AE9 (l.take i)) hrl hrs) J3) ?_;refine R4 ?_;intro b8;refine R9 ?_;exact D6 rfl (F3 (ys := _) 1 rfl rfl P2 L0 rfl)
theorem AH1 (g : C4) (gg : GG g) : E1 234 [AV.agg g.cs] (AV.bool (AO1 g)) := by
 refine B3 Tryz.func234 rfl Tryz.ntmps234 rfl ?_;refine R3 ?_;intro b1;refine R9 ?_;refine A3 ?_ ?_
 ·intro h8;have k8 := C5 h8;have he : AO1 g = false := (by unfold AO1; rw [AJ6 qz8]; rfl);rw [he];refine R5 ?_;exact D6 rfl (A6 rfl C1)
 intro h8;have k8 := B9 h8;have hl0 : 0 ≤ g.Lead := qz8;have hin := BC1 gg hl0;obtain ⟨L, hL⟩ : ∃ L, N9 g g.Lead = L := ⟨_, rfl⟩;have hxl := p5 hin;have hgr := gg.reps _ (AE6 hin);rw [hL] at hxl hgr;have hsr := hgr.sure;have hl6 := hgr.len;obtain ⟨n, hn⟩ : ∃ n : Nat, L.Sure = (n : Int) := ⟨L.Sure.toNat, by omega⟩;have he : AO1 g = (L.Log.take n).any (fun e => e.Term == g.Term) := (by unfold AO1; rw [i7 hl0, hL, hn]; rfl);rw [he];refine R7 ?_;refine A1 rfl (D3 rfl G6 J2 (A0 rfl) (A0 rfl) hxl qz8) ?_;refine R2 ?_;intro b3;refine R4 ?_;rw [show L.cs = [AV.bool L.Up, AV.list 8 (L.Log.map I5.cs), AV.int (n : Int)] by rw [← hn]; rfl];refine R5 ?_;refine A1 rfl (AG9 rfl O9 V2 (A0 rfl) (A0 rfl) qz8 (by (try simp only [A7]); omega)) ?_;refine R4 ?_;refine F2 [(1, _), (19, _), (20, _)] _ (fun (i : Nat) => i ≤ (L.Log.take n).length ∧ ((L.Log.take n).any fun e => e.Term == g.Term) = (((L.Log.take n).drop i).any fun e => e.Term == g.Term)) (fun i => []) (fun i => [(21, AV.int i)]) (fun i => (L.Log.take n).length - i) (0) ?_ (G3 A8) ?_
 ·exact ⟨E2 _, rfl⟩
 intro i hinv;refine R5 ?_;refine A3 ?_ ?_
 ·intro h22;have hlt : i < (L.Log.take n).length := Be2;have h9 : (L.Log.take n).length ≤ L.Log.length := Ay7;obtain ⟨x, hx⟩ := B4 hlt;refine R5 ?_;refine A1 rfl (D3 rfl O9 V2 (A0 rfl) (A0 rfl) hx qz2) ?_;refine R2 ?_;intro b5;refine R10 ?_;refine A3 ?_ ?_
  ·intro h29;rw [hinv.2, I8 hx, Ab1, h29];refine R5 ?_;exact D6 rfl (A6 rfl C1)
  intro h29;refine R5 ?_;refine G4 i (i + 1) ?_ ?_ (S5 1 A8)
  ·exact ⟨by omega, by rw [hinv.2, I8 hx, Ab1, h29]; rfl⟩
  omega
 intro h22;have hge : (L.Log.take n).length ≤ i := Be2;rw [hinv.2, k6 hge];refine R6 ?_;exact D6 rfl (A6 rfl C1)
theorem BE2 (g : C4) (gg : GG g) : E1 59 [AV.agg g.cs] (AV.agg (AZ3 g).cs) := by
 have h0l : 0 < g.Reps.length ∧ g.Reps.length ≤ 5 := by have := gg.many; omega
 refine B3 Tryz.func59 rfl Tryz.ntmps59 rfl ?_;refine R3 ?_;intro b1;refine R1 ?_;intro b2;refine R14 ?_;refine J0 [(1, _), (2, _), (7, _), (8, _)] _ (fun (i : Nat) (p : Nat) => i ≤ g.Reps.length ∧ g.Reps[p]? = some ((g.Reps.take i).foldl (fun b r => if b.Sure < r.Sure then r else b) (N9 g 0))) (fun i p => []) (fun i p => [(3, AV.int p), (9, AV.int i)]) (fun i p => g.Reps.length - i) (0) (0) ?_ (G3 A8) ?_
 ·exact ⟨E2 _, p5 (g := g) (r := 0) ⟨Int.le_refl _, by omega⟩⟩
 intro i p hinv;refine R5 ?_;refine A3 ?_ ?_
 ·intro h10;have k10 := C5 h10;have hlt : i < g.Reps.length := At9;obtain ⟨x, hx⟩ := B4 hlt;refine R6 ?_;refine A1 rfl (D3 rfl G6 J2 (A0 rfl) (A0 rfl) hx qz2) ?_;refine R2 ?_;intro b5;refine R10 ?_;refine C0 rfl rfl (D3 rfl G6 J2 (A0 rfl) (A0 rfl) hinv.2 qz2) ?_;refine R4 ?_;refine A3 ?_ ?_
  ·intro h22;have k22 := C5 h22;refine R8 ?_;refine G8 i p (i + 1) (i) ?_ ?_ (S5 1 A8)
   ·exact ⟨by omega, by rw [BI2 hx, D0 k22]; exact hx⟩
   omega
  intro h22;have k22 := B9 h22;refine R5 ?_;refine G8 i p (i + 1) (p) ?_ ?_ (S5 1 A8)
  ·exact ⟨by omega, by rw [BI2 hx, C6 k22]; exact hinv.2⟩
  omega
 intro h10;have k10 := B9 h10;have hge : g.Reps.length ≤ i := At9;have hb : g.Reps[p]? = some (AQ0 g) := (by have h9 := hinv.2; rw [P8 hge] at h9; exact h9);have hgr := gg.reps _ (Bg8 gg);refine R2 ?_;refine M6 13 D4 D4 rfl ?_;refine R3 ?_;refine C0 rfl rfl (D3 rfl G6 J2 (A0 rfl) (A0 rfl) hb qz2) ?_;refine R5 ?_;refine C0 rfl rfl (D3 rfl G6 J2 (A0 rfl) (A0 rfl) hb qz2) ?_;refine R2 ?_;refine C0 rfl rfl (A5 rfl Tryz.call102 rfl (Ax9 (AQ0 g).Log (AQ0 g).Sure hgr.sure (CE2 hgr)) F0) ?_;refine R4 ?_;exact D6 rfl (F3 (ys := _) 0 rfl rfl P2 L0 rfl)
end Go.PQ
namespace Go.PQ
open Go.Proofs
open Go Go.AV Go.M
attribute [local irreducible] OpW OpA OpS AWP J6 L3 K7 OpE K2 H9 K6 Le Ev F7 M7 f8 Int.tmod Int.tdiv IntKind.wrap T7
def B2.ocs (t : B2) (y : Value × Value) : List AV := [AV.list 4 (t.Ops.map TOp.cs), AV.is y.1, AV.is y.2, AV.int t.Begin, AV.int t.End, AV.bool t.Yes, AV.int t.Time, AV.bool t.Dead, AV.bool t.Put, AV.bool t.Stopped]
def B2.ow (t : B2) (y : Value × Value) : List Go.AV.Own := [.arr y.1 145 3 (t.Got.map K8.cs), .arr y.2 3 1 (t.Terms.map fun n => [AV.int n])]
def B6.ocs (l : B6) (y : Value) : List AV := [AV.int l.Node, strs l.Keys, AV.is y, AV.int l.Time, AV.int l.Begin, AV.int l.End]
def B6.ow (l : B6) (y : Value) : List Go.AV.Own := [.arr y 145 3 (l.Got.map K8.cs)]
@[reducible] def nwZ (w : C9) (T : List (Value × Value)) (L : List Value) : List Go.AV.Own := nin B2.ow w.Txns T ++ nin B6.ow w.Looks L
theorem B2.lcM {own : List Go.AV.Own} (t : B2) (y : Value × Value) (h : ∀ o ∈ B2.ow t y, o ∈ own) : AC1 own (B2.ocs t y) t.cs := D5 I0 (D5 (K0 (h _ (C2 (i := 0) rfl)) F6) (D5 (K0 (h _ (C2 (i := 1) rfl)) F6) AE4))
theorem B6.lcM {own : List Go.AV.Own} (l : B6) (y : Value) (h : ∀ o ∈ B6.ow l y, o ∈ own) : AC1 own (B6.ocs l y) l.cs := D5 I0 (D5 I0 (D5 (K0 (h _ (C2 (i := 0) rfl)) F6) AE4))
structure WX where
  cl : Value
  gr : Value
  lo : Value
  pr : Value
  tx : Value
  lk : Value
def WB (b : Nat) (w : C9) (X : WX) (T : List (Value × Value)) (L : List Value) : List Go.AV.Own :=
  .box b 197 [AV.int w.Now, AV.int w.Count, AV.is X.cl, strs w.Cuts, AV.is X.gr, AV.is X.lo, AV.is X.pr, AV.is X.tx, AV.is X.lk] ::
  .arr X.cl 78 1 (w.Clocks.map S9.cs) :: .arr X.gr 81 3 (w.Groups.map C4.cs) :: .arr X.lo 97 1 (w.Locks.map fun l => [AV.list 3 (l.map G2.cs)]) ::
  .arr X.pr 3 1 (w.Promised.map fun n => [AV.int n]) :: .arr X.tx 102 10 (J7 B2.ocs w.Txns T) :: .arr X.lk 105 6 (J7 B6.ocs w.Looks L) ::
  (nin B2.ow w.Txns T ++ nin B6.ow w.Looks L)
theorem Am1 (b : Nat) (w : C9) (X : WX) (T : List (Value × Value)) (L : List Value) (g : Int) (gi : C4) (hx : w.Groups[g.toNat]? = some gi) (h0 : 0 ≤ g) (gg : GG gi) (hl : 0 ≤ gi.Lead) : M1 236 [AV.ptr b 0, AV.int g] (WB b w X T L) (fun _ : Unit => True) (fun _ => WB b w X T L) (fun _ => AV.agg (e6 gi).cs) := by
 have hin := BC1 gg hl;have hgr := gg.reps _ (AE6 hin);have hgl := (E9.1 hx).1;refine C8 Tryz.func236 rfl Tryz.ntmps236 rfl ?_;refine R3 ?_;intro b4;refine R2 ?_;refine X5 _ 21 (.pure 0 (.pure 1 (.pure 2 (.pure 3 (.pure 4 (.pure 5 (.pure 6 (.pure 7 (.pure 8 (.pure 9 (.pure 10 (.pure 11 (.pure 12 (.pure 13 (.pure 14 (.pure 15 (.pure 16 (.pure 17 (.pure 18 (.pure 19 (.e1 20 .nil))))))))))))))))))))) D4 D4 rfl (S3 8) ?_;refine R6 ?_;refine K9 rfl rfl rfl (fun ext => H6 3 rfl G7 E0 (A0 rfl) rfl (A0 rfl) qz8 AB7) ?_;refine K9 rfl rfl rfl (fun ext => L7 3 rfl W5 rfl AV3 (A0 rfl) rfl rfl qz5) ?_;refine K9 rfl rfl rfl (fun ext => N4 3 rfl (A0 rfl) rfl Tryz.isAgg79 qz5 rfl) ?_;refine R6 ?_;refine K9 rfl rfl rfl (fun ext => H6 3 rfl G7 E0 (A0 rfl) rfl (A0 rfl) qz8 AB7) ?_;refine K9 rfl rfl rfl (fun ext => L7 3 rfl W5 rfl E7 (A0 rfl) rfl rfl qz5) ?_;refine K9 rfl rfl rfl (fun ext => N4 3 rfl (A0 rfl) rfl Q8 qz5 rfl) ?_;refine K9 rfl rfl rfl (fun ext => D3 rfl G6 J2 (A0 rfl) (A0 rfl) (p5 hin) qz8) ?_;refine R2 ?_;refine I6 rfl rfl rfl (u7 8 <| X3 rfl Tryz.zeroValue131 rfl) (fun a _ => qz4) ?_;intro b5 _;refine R9 ?_;refine A1 rfl (A5 rfl Tryz.call102 rfl (Ax9 (N9 gi gi.Lead).Log (N9 gi gi.Lead).Sure hgr.sure (CE2 hgr)) F0) ?_;refine R3 ?_;exact H7 [1, 1, 1, 1, 1, 1, 1] 2 (nwZ w T L) [] () (trivial) rfl (show List.Perm (nwZ w T L) ((nwZ w T L) ++ []) from B7) C1 (M4 rfl (F3 (ys := _) 0 rfl rfl P2 L0 rfl))
theorem AX0 (b : Nat) (w : C9) (X : WX) (T : List (Value × Value)) (L : List Value) (g : Int) (gi : C4) (hx : w.Groups[g.toNat]? = some gi) (h0 : 0 ≤ g) (gg : GG gi) (hl : 0 ≤ gi.Lead) : M1 182 [AV.ptr b 0, AV.int g] (WB b w X T L) (fun _ : Unit => True) (fun _ => WB b w X T L) (fun _ => AV.agg (X7 gi).cs) := by
 have hin := BC1 gg hl;have hgr := gg.reps _ (AE6 hin);have hgl := (E9.1 hx).1;have hf : E1 102 [AV.list 8 ((N9 gi gi.Lead).Log.map I5.cs), AV.int ((((N9 gi gi.Lead).Log.map I5.cs).length : Nat) : Int)] (AV.agg (X7 gi).cs) := by rw [A7]; exact Ax9 _ _ ⟨by omega, by omega⟩ (CE2 hgr)
 refine C8 Tryz.func182 rfl Tryz.ntmps182 rfl ?_;refine R3 ?_;intro b4;refine R2 ?_;refine X5 _ 21 (.pure 0 (.pure 1 (.pure 2 (.pure 3 (.pure 4 (.pure 5 (.pure 6 (.pure 7 (.pure 8 (.pure 9 (.pure 10 (.pure 11 (.pure 12 (.pure 13 (.pure 14 (.pure 15 (.pure 16 (.pure 17 (.pure 18 (.pure 19 (.e1 20 .nil))))))))))))))))))))) D4 D4 rfl (S3 8) ?_;refine R6 ?_;refine K9 rfl rfl rfl (fun ext => H6 3 rfl G7 E0 (A0 rfl) rfl (A0 rfl) qz8 AB7) ?_;refine K9 rfl rfl rfl (fun ext => L7 3 rfl W5 rfl AV3 (A0 rfl) rfl rfl qz5) ?_;refine K9 rfl rfl rfl (fun ext => N4 3 rfl (A0 rfl) rfl Tryz.isAgg79 qz5 rfl) ?_;refine R6 ?_;refine K9 rfl rfl rfl (fun ext => H6 3 rfl G7 E0 (A0 rfl) rfl (A0 rfl) qz8 AB7) ?_;refine K9 rfl rfl rfl (fun ext => L7 3 rfl W5 rfl E7 (A0 rfl) rfl rfl qz5) ?_;refine K9 rfl rfl rfl (fun ext => N4 3 rfl (A0 rfl) rfl Q8 qz5 rfl) ?_;refine K9 rfl rfl rfl (fun ext => D3 rfl G6 J2 (A0 rfl) (A0 rfl) (p5 hin) qz8) ?_;refine R2 ?_;refine I6 rfl rfl rfl (u7 8 <| X3 rfl Tryz.zeroValue131 rfl) (fun a _ => qz4) ?_;intro b5 _;refine R10 ?_;refine A1 rfl (A5 rfl Tryz.call102 rfl (hf) F0) ?_;refine R3 ?_;exact H7 [1, 1, 1, 1, 1, 1, 1] 2 (nwZ w T L) [] () (trivial) rfl (show List.Perm (nwZ w T L) ((nwZ w T L) ++ []) from B7) C1 (M4 rfl (F3 (ys := _) 0 rfl rfl P2 L0 rfl))
theorem BI3 (b : Nat) (w : C9) (X : WX) (T : List (Value × Value)) (L : List Value) (node : Int) (c : S9) (hx : w.Clocks[node.toNat]? = some c) (h0 : 0 ≤ node) (hc : n3 c = true) (hn : isTrue w.Now = true) : M1 183 [AV.ptr b 0, AV.int node] (WB b w X T L) (fun _ : Unit => True) (fun _ => WB b w X T L) (fun _ => AV.agg (AF0 c w.Now).cs) := by
 have hcl := (E9.1 hx).1;refine C8 Tryz.func183 rfl Tryz.ntmps183 rfl ?_;refine R3 ?_;intro b4;refine R2 ?_;refine M6 14 D4 D4 rfl ?_;refine R6 ?_;refine C0 rfl rfl (H6 2 rfl S0 y9 (A0 rfl) rfl (A0 rfl) qz8 AB7) ?_;refine C0 rfl rfl (n6 2 rfl (A0 rfl) rfl Tryz.isAgg78 y9 qz5 F1) ?_;refine R5 ?_;refine C0 rfl rfl (A5 rfl Tryz.call223 rfl (DG1 c w.Now hc hn) F0) ?_;refine R4 ?_;exact H7 [1, 1, 1, 1, 1, 1, 1] 1 (nwZ w T L) [] () (trivial) rfl (show List.Perm (nwZ w T L) ((nwZ w T L) ++ []) from B7) C1 (M4 rfl (F3 (ys := _) 0 rfl rfl Tryz.isAgg228 Tryz.sizeOf228 rfl))
theorem Ay0 (b : Nat) (w : C9) (X : WX) (T : List (Value × Value)) (L : List Value) (g : Int) (gi : C4) (c : S9) (hx : w.Groups[g.toNat]? = some gi) (h0 : 0 ≤ g ∧ g ≤ 3) (hl : 0 ≤ gi.Lead ∧ gi.Lead ≤ 5) (hcx : w.Clocks[(3 * g + gi.Lead).toNat]? = some c) (hc : n3 c = true) (hn : isTrue w.Now = true) : M1 328 [AV.ptr b 0, AV.int g] (WB b w X T L) (fun _ : Unit => True) (fun _ => WB b w X T L) (fun _ => AV.agg (AF0 c w.Now).cs) := by
  have hgl := (E9.1 hx).1;refine C8 Tryz.func328 rfl Tryz.ntmps328 rfl ?_;refine R3 ?_;intro b4;refine R5 ?_;refine A1 rfl (Ah8 rfl L1 (A0 rfl) qz2) ?_;refine R6 ?_;refine A1 rfl (H6 3 rfl G7 E0 (A0 rfl) rfl (A0 rfl) qz8 AB7) ?_;refine A1 rfl (L7 3 rfl W5 rfl E7 (A0 rfl) rfl rfl qz5) ?_;refine A1 rfl (N4 3 rfl (A0 rfl) rfl Q8 qz5 rfl) ?_;refine R1 ?_;refine A1 rfl (m9 [1, 1, 1, 1, 1, 1, 1] 1 (nwZ w T L) ([]) rfl Tryz.call183 rfl rfl (B7) (BI3 b w X T L (3 * g + gi.Lead) c hcx qz8 hc hn) F0) ?_;refine R3 ?_;exact H7 [1, 1, 1, 1, 1, 1, 1] 1 (nwZ w T L) [] () (trivial) rfl (show List.Perm (nwZ w T L) ((nwZ w T L) ++ []) from B7) C1 (M4 rfl (F3 (ys := _) 0 rfl rfl Tryz.isAgg228 Tryz.sizeOf228 rfl))
theorem Ce5 (b : Nat) (w : C9) (X : WX) (T : List (Value × Value)) (L : List Value) (g t : Int) (k : Str) (write : Bool) (gi : C4) (hx : w.Groups[g.toNat]? = some gi) (h0 : 0 ≤ g) (gg : GG gi) (hl : 0 ≤ gi.Lead) : ∃ r : Bool, M1 330 [AV.ptr b 0, AV.int g, AV.int t, AV.str k, AV.bool write] (WB b w X T L) (fun _ : Unit => True) (fun _ => WB b w X T L) (fun _ => AV.bool r) := by
 obtain ⟨f, hf⟩ : ∃ f : D1 → Bool, f = fun h => (h.Txn != t) && (AN7 h.Writes k || (write && BE9 h.Reads k)) := ⟨_, rfl⟩;refine ⟨[e6 gi, X7 gi].any fun s => s.Held.any f, ?_⟩;have hsl : ∀ s ∈ [e6 gi, X7 gi], s.Held.length ≤ 12 := fun s hs => by
  rcases Q0.1 hs with rfl | hs
  ·exact (Aj5 gg hl).hlen
  rw [Z5.1 hs]; exact (AK5 gg hl).hlen
 refine C8 Tryz.func330 rfl Tryz.ntmps330 rfl ?_;refine R9 ?_;refine A1 rfl (m9 [0, 0, 0, 0, 0, 0, 0] 0 (nwZ w T L) ([]) rfl Tryz.call236 rfl rfl (B7) (Am1 b w X T L g gi hx h0 gg hl) F0) ?_;refine R2 ?_;refine A1 rfl (m9 [0, 0, 0, 0, 0, 0, 0] 0 (nwZ w T L) ([]) rfl Tryz.call182 rfl rfl (B7) (AX0 b w X T L g gi hx h0 gg hl) F0) ?_;refine R5 ?_;refine F2 [(2, _), (3, _), (4, _), (21, _), (22, _)] _ (fun (i : Nat) => i ≤ 2 ∧ ([e6 gi, X7 gi].any fun s => s.Held.any f) = (([e6 gi, X7 gi].drop i).any fun s => s.Held.any f)) (fun i => []) (fun i => [(23, AV.int i)]) (fun i => 2 - i) (0) ?_ (G3 A8) ?_
 ·exact ⟨E2 _, rfl⟩
 intro i hinv;have hinv0 := hinv;refine R5 ?_;refine A3 ?_ ?_
 ·intro h24;have k24 := C5 h24;have hlt : i < 2 := (by simp only [V8] at k24; omega);obtain ⟨s, hs⟩ := B4 (show i < [e6 gi, X7 gi].length from hlt);have hs12 := hsl s (C2 hs);have hs2 : ([e6 gi, X7 gi].map D9.cs)[i]? = some s.cs := N2 hs;refine R5 ?_;refine A1 rfl (AT8 rfl AH6 L0 (A0 rfl) (A0 rfl) qz8 (by rw [l4]; exact hs2)) ?_;refine R2 ?_;intro b12;refine R10 ?_;refine F2 [(2, _), (3, _), (4, _), (12, _), (21, _), (22, _), (23, _), (24, _), (25, _), (26, _), (27, _), (28, _), (29, _)] _ (fun (j : Nat) => j ≤ s.Held.length ∧ s.Held.any f = (s.Held.drop j).any f) (fun j => []) (fun j => [(30, AV.int j)]) (fun j => s.Held.length - j) (0) ?_ (G3 A8) ?_
  ·exact ⟨E2 _, rfl⟩
  intro j hinv;have hinv1 := hinv;refine R5 ?_;refine A3 ?_ ?_
  ·intro h31;have k31 := C5 h31;have hlt1 : j < s.Held.length := (by simpa using h31);obtain ⟨y, hh⟩ := B4 hlt1;refine R5 ?_;refine A1 rfl (D3 rfl F5 M2 (A0 rfl) (A0 rfl) hh qz2) ?_;refine R2 ?_;intro b14;refine R12 ?_;refine L6 rfl (fun hc => A5 rfl Tryz.call281 rfl (BA3 _ _) (A2 (A9 rfl hc) (A2 (A9 rfl hc) B0))) ?_;refine R6 ?_;refine s9 rfl rfl (X4 rfl rfl rfl) (fun hc => A5 rfl Tryz.call298 rfl (Bt8 _ _) (A2 (A9 rfl hc) (A2 (A9 rfl hc) B0))) ?_;refine R4 ?_;refine A3 ?_ ?_
   ·intro h52;have hyes : ([e6 gi, X7 gi].any fun s => s.Held.any f) = true := List.any_eq_true.2 ⟨s, C2 hs, List.any_eq_true.2 ⟨y, C2 hh, by rw [hf]; exact h52⟩⟩;rw [hyes];refine R5 ?_;exact H7 [2, 2, 2, 2, 2, 2, 2] 2 (nwZ w T L) [] () (trivial) rfl (show List.Perm (nwZ w T L) ((nwZ w T L) ++ []) from B7) C1 O6
   intro h52;refine R5 ?_;refine G4 j (j + 1) ?_ ?_ (S5 1 A8)
   ·exact ⟨by omega, by rw [hinv1.2, I8 hh, Ab1, show f y = false by (rw [hf]; exact h52)]; rfl⟩
   omega
  intro h31;have k31 := B9 h31;have hge1 : s.Held.length ≤ j := (by simpa using h31);refine R5 ?_;refine G4 i (i + 1) ?_ ?_ (S5 1 A8)
  ·exact ⟨by omega, by rw [hinv0.2, I8 hs, Ab1, hinv1.2, k6 hge1]; rfl⟩
  omega
 intro h24;have k24 := B9 h24;have hge : 2 ≤ i := (by simp only [V8] at k24; omega);rw [hinv.2, k6 (show [e6 gi, X7 gi].length ≤ i from hge)];refine R6 ?_;exact H7 [0, 0, 0, 0, 0, 0, 0] 0 (nwZ w T L) [] () (trivial) rfl (show List.Perm (nwZ w T L) ((nwZ w T L) ++ []) from B7) C1 O6
theorem Ag7 (b : Nat) (w : C9) (X : WX) (T : List (Value × Value)) (L : List Value) (g : Int) (gi : C4) (hx : w.Groups[g.toNat]? = some gi) (h0 : 0 ≤ g) (hg : WG gi) : M1 189 [AV.ptr b 0, AV.int g] (WB b w X T L) (fun v : C4 => WG v) (fun v => WB b (d3 w g.toNat v) X T L) (fun _ => AV.tup []) := by
 have hgl := (E9.1 hx).1;refine C8 Tryz.func189 rfl Tryz.ntmps189 rfl ?_;refine R6 ?_;refine AWP.le (B8 [2] rfl) ?_;refine J0 [(0, _), (1, _)] _ (fun (r : Nat) (v : C4) => r ≤ 3 ∧ WG v) (fun r v => [.arr X.gr 81 3 ((w.Groups.set g.toNat v).map C4.cs)]) (fun r v => [(4, AV.int r)]) (fun r v => 3 - r) (0) (gi) ?_ (K1 (by (rw [BN8 hx]; rfl)) A8) ?_
 ·exact ⟨E2 _, hg⟩
 intro r v hinv;have hvs := As4 hinv.2.good;refine R6 ?_;refine A3 ?_ ?_
 ·intro h10;have k10 := C5 h10;refine R11 ?_;refine A1 rfl (H6 0 rfl G7 E0 (A0 rfl) rfl (A0 rfl) qz8 AJ9) ?_;refine A1 rfl (n6 0 rfl (A0 rfl) rfl O4 E0 qz71 F1) ?_;refine R1 ?_;refine A1 rfl (A5 rfl Tryz.call227 rfl (Ck3 v r qz8) F0) ?_;refine R4 ?_;intro b5;refine R7 ?_;refine A3 ?_ ?_
  ·intro h26;refine M6 8 D4 D4 rfl ?_;refine R7 ?_;refine C0 rfl rfl (H6 1 rfl G7 E0 (A0 rfl) rfl (A0 rfl) qz8 AJ9) ?_;refine R1 ?_;refine j7 1 rfl rfl rfl (A0 rfl) (A0 rfl) (Z2 _) rfl E0 rfl AJ9 ?_;refine R6 ?_;refine G8 r v (r + 1) ((AH3 v r).1) ?_ ?_ (Le.trans (B8 [0, 0] rfl) (E5 1 (by first | rfl | (rw [← AB0, BU5]; rfl)) A8))
   ·exact ⟨by omega, wg_copy hinv.2 h26⟩
   omega
  intro h26;refine R6 ?_;refine G8 r v (r + 1) (v) ?_ ?_ (Le.trans (B8 [0, 0] rfl) (E5 1 (by first | rfl | (rw [← AB0, BU5]; rfl)) A8))
  ·exact ⟨by omega, hinv.2⟩
  omega
 intro h10;have k10 := B9 h10;refine R9 ?_;refine A1 rfl (H6 0 rfl G7 E0 (A0 rfl) rfl (A0 rfl) qz8 AJ9) ?_;refine A1 rfl (n6 0 rfl (A0 rfl) rfl O4 E0 qz71 F1) ?_;refine A1 rfl (A5 rfl Tryz.call228 rfl (Ca9 v qz8) J3) ?_;refine R4 ?_;intro b7;refine R7 ?_;refine A3 ?_ ?_
 ·intro h47;refine M6 8 D4 D4 rfl ?_;refine R7 ?_;refine C0 rfl rfl (H6 1 rfl G7 E0 (A0 rfl) rfl (A0 rfl) qz8 AJ9) ?_;refine R1 ?_;refine j7 1 rfl rfl rfl (A0 rfl) (A0 rfl) (Z2 _) rfl E0 rfl AJ9 ?_;refine R1 ?_;exact H7 [2, 2, 1, 1, 1, 1, 1] 1 (nwZ w T L) [] (((AM3 v).1)) ((by first | exact wg_adv hinv.2 h47 | exact hinv.2)) rfl (show List.Perm (nwZ w T L) ((nwZ w T L) ++ []) from B7) (by first | rfl | (unfold WB d3; dsimp only; rw [← AB0, BU5]; rfl)) (g9 rfl F1 AB5)
 intro h47;refine R1 ?_;exact H7 [2, 2, 1, 1, 1, 1, 1] 1 (nwZ w T L) [] (v) ((by first | exact wg_adv hinv.2 h47 | exact hinv.2)) rfl (show List.Perm (nwZ w T L) ((nwZ w T L) ++ []) from B7) (by first | rfl | (unfold WB d3; dsimp only; rw [← AB0, BU5]; rfl)) (g9 rfl F1 AB5)
theorem Ag8 (b : Nat) (w : C9) (X : WX) (T : List (Value × Value)) (L : List Value) (g : Int) (r : M5) (gi : C4) (hx : w.Groups[g.toNat]? = some gi) (h0 : 0 ≤ g) (hg : WG gi) (hr : r.size ≤ 1000) (hk : Aj0 r) : M1 180 [AV.ptr b 0, AV.int g, AV.agg r.cs] (WB b w X T L) (fun v : C4 × Bool => WG v.1) (fun v => WB b (d3 w g.toNat v.1) X T L) (fun v => AV.bool v.2) := by
 have hgl := (E9.1 hx).1;have hvs := As4 hg.good;refine C8 Tryz.func180 rfl Tryz.ntmps180 rfl ?_;refine R3 ?_;intro b5;refine R3 ?_;refine X5 _ 15 (.pure 0 (.pure 1 (.pure 2 (.pure 3 (.pure 4 (.pure 5 (.pure 6 (.pure 7 (.pure 8 (.pure 9 (.pure 10 (.pure 11 (.pure 12 (.e1 13 (.e1 14 .nil))))))))))))))) D4 D4 rfl (S3 8) ?_;refine R6 ?_;refine K9 rfl rfl rfl (fun ext => H6 3 rfl G7 E0 (A0 rfl) rfl (A0 rfl) qz8 AJ9) ?_;refine K9 rfl rfl rfl (fun ext => n6 3 rfl (A0 rfl) rfl O4 E0 qz5 F1) ?_;refine R1 ?_;refine K9 rfl rfl rfl (fun ext => A5 rfl Tryz.call222 rfl (CP4 gi r qz8 qz8) F0) ?_;refine R4 ?_;refine I6 rfl rfl rfl (u7 8 <| X3 rfl Tryz.zeroValue81 rfl) (fun a _ => qz4) ?_;intro b7 _;refine R1 ?_;refine AQ7 rfl rfl rfl (o4 8 rfl rfl (A0 rfl) (A0 rfl) (Z2 _) rfl E0 rfl) (fun a _ => qz4) ?_;intro _ _;refine R9 ?_;refine A3 ?_ ?_
 ·intro h23;rw [show (AD9 gi r).2 = false by simpa using h23] at *;refine R5 ?_;exact H7 [1, 1, 1, 1, 1, 1, 1] 2 (nwZ w T L) [] ((gi, false)) ((by first | exact hg | exact ok34)) rfl (show List.Perm (nwZ w T L) ((nwZ w T L) ++ []) from B7) qz160 O6
 intro h23;have hpo : (AD9 gi r).2 = true := Be3;have hld : 0 ≤ gi.Lead := DE7 hpo;have hwp := wg_put hg hld hk hpo;have hsp := Ag7 b (d3 w g.toNat (AD9 gi r).1) X T L g (AD9 gi r).1 (B5 hx) h0 hwp;refine R2 ?_;refine M6 8 D4 D4 rfl ?_;refine R7 ?_;refine C0 rfl rfl (H6 3 rfl G7 E0 (A0 rfl) rfl (A0 rfl) qz8 AJ9) ?_;refine R1 ?_;refine j7 3 rfl rfl rfl (A0 rfl) (A0 rfl) (Z2 _) rfl E0 rfl AJ9 ?_;refine R2 ?_;simp only [← AB0];refine R3 ?_;refine K3 [1, 1, 1, 1, 1, 1, 1] 2 7 (nwZ w T L) ([]) (fun zz => nwZ w T L) rfl rfl rfl rfl Tryz.call189 rfl rfl (show List.Perm (nwZ w T L) ((nwZ w T L) ++ ([])) from B7) (hsp) F0 (fun a => M0) ?_;intro x34 ok34;refine R6 ?_;exact H7 [0, 0, 0, 0, 0, 0, 0] 2 (nwZ w T L) [] ((x34, true)) ((by first | exact hg | exact ok34)) rfl (show List.Perm (nwZ w T L) ((nwZ w T L) ++ []) from B7) qz160 O6
theorem agg_w {xs ys : List AV} (hl : xs.length = ys.length) (h : ∀ (i : Nat) (x y : AV), xs[i]? = some x → ys[i]? = some y → ∀ R v, x.den R v → y.den R v) (R : G9) (v : Value) (hv : (AV.agg xs).den R v) : (AV.agg ys).den R v := by
  obtain ⟨vs, e, hl2, hd⟩ := hv;refine ⟨vs, e, hl2.trans hl, fun i u y hu hy => ?_⟩;have hi : i < xs.length := by rw [hl]; exact (E9.1 hy).1
  obtain ⟨h1, h2⟩ := hd i u _ hu (N6 hi);exact ⟨h i _ y (N6 hi) hy _ _ h1, h2⟩
theorem Am2 {k t tm l : Int} {y : Bool} (R : G9) (v : Value) (h : (AV.agg [AV.int k, AV.int t, AV.int tm, AV.int l, AV.nils, AV.nils, AV.bool y]).den R v) : (AV.agg (M5.cs ⟨k, t, tm, l, [], [], y⟩)).den R v := by
  refine agg_w (xs := [AV.int k, AV.int t, AV.int tm, AV.int l, AV.nils, AV.nils, AV.bool y]) (ys := M5.cs ⟨k, t, tm, l, [], [], y⟩) rfl (fun i x z hx hz => ?_) R v h;rcases i with _ | _ | _ | _ | _ | _ | _ | i
  all_goals first
    | (injection hx with hx; injection hz with hz; subst hx; subst hz; first | exact fun _ _ h => h | exact CG4)
    | (cases hx)
theorem third {node : Int} {n : Nat} (hn : 0 ≤ node ∧ node < 3 * (n : Int)) {q m : Int} (hq : Int.tdiv node 3 = q) (hm : Int.tmod node 3 = m) : 0 ≤ q ∧ q < n ∧ 0 ≤ m ∧ m < 3 ∧ node = 3 * q + m := by
  rw [Int.tdiv_eq_ediv_of_nonneg hn.1] at hq;rw [Int.tmod_eq_emod_of_nonneg hn.1] at hm;omega
theorem CM1 (b : Nat) (w : C9) (X : WX) (T : List (Value × Value)) (L : List Value) (node : Int) (hw : WI w) (hn : 0 ≤ node ∧ node < 3 * (w.Groups.length : Int)) : M1 153 [AV.ptr b 0, AV.int node] (WB b w X T L) (fun v : C9 × Bool => WI v.1 ∧ WS w v.1 ∧ v.1.Txns = w.Txns ∧ v.1.Looks = w.Looks) (fun v => WB b v.1 X T L) (fun v => AV.bool v.2) := by
 obtain ⟨q, hq⟩ : ∃ q : Int, Int.tdiv node 3 = q := ⟨_, rfl⟩;obtain ⟨m, hm⟩ : ∃ m : Int, Int.tmod node 3 = m := ⟨_, rfl⟩;obtain ⟨h0, hql, hm0, hm3, hnq⟩ := third hn hq hm;obtain ⟨gi, hx⟩ := B4 (show q.toNat < w.Groups.length by omega);have hgi := hw.groups gi (C2 hx);have hvs := As4 hgi.good;have hng := hw.n;have hgl := (E9.1 hx).1;obtain ⟨lo, hlx⟩ := B4 (show q.toNat < w.Locks.length by rw [hw.locks.1]; omega);obtain ⟨pr, hpx⟩ := B4 (show q.toNat < w.Promised.length by rw [hw.promised.1]; omega);have hll := (E9.1 hlx).1;have hpl := (E9.1 hpx).1;obtain ⟨c, hcx⟩ := B4 (show node.toNat < w.Clocks.length by rw [hw.clocks.1]; omega);have hcg : n3 c = true := by
  have h9 := hw.clocks.2 c (C2 hcx);unfold n3 within; rw [E8, H1, H1]; exact h9
 have hnow : M.isTrue w.Now = true := by unfold M.isTrue within; rw [E8, H1, H1]; exact hw.now
 have hsp9 : -1000000 ≤ (AF0 c w.Now).High ∧ (AF0 c w.Now).High ≤ 1000000 := by
  have h9 := hw.clocks.2 c (C2 hcx);have h8 := hw.now;show -1000000 ≤ w.Now + c.Off + 5 ∧ w.Now + c.Off + 5 ≤ 1000000
  omega
 have hwq : IntKind.i64.wrap q = q := BC7 qz8;refine C8 Tryz.func153 rfl Tryz.ntmps153 rfl ?_;refine R7 ?_;refine A1 rfl (CS7 rfl (A0 rfl) L1 qz2) ?_;refine R3 ?_;simp only [hq, hwq];refine R7 ?_;refine A1 rfl (H6 2 rfl G7 E0 (A0 rfl) rfl (A0 rfl) qz8 AJ9) ?_;refine A1 rfl (n6 2 rfl (A0 rfl) rfl O4 E0 qz5 F1) ?_;refine R1 ?_;refine A1 rfl (BQ2 rfl (A0 rfl) L1 qz2) ?_;simp only [hm];refine A1 rfl (A5 rfl Tryz.call179 rfl (CP1 gi m qz8) F0) ?_;refine R4 ?_;intro b6;refine R9 ?_;refine A3 ?_ ?_
 ·intro h25;have hpo : (Z9 gi m).2 = false := (by simpa using h25);refine R5 ?_;exact H7 [1, 1, 1, 1, 1, 1, 1] 1 (nwZ w T L) [] ((w, false)) (qz132) rfl (show List.Perm (nwZ w T L) ((nwZ w T L) ++ []) from B7) C1 O6
 intro h25;have hpo : (Z9 gi m).2 = true := (by simpa using h25);have hwg := wg_elect hgi hpo;have heg := Bs9 hpo;have hld : 0 ≤ (Z9 gi m).1.Lead := (by rw [heg.2.2.1]; exact hm0);have hgg2 : (w.Groups.set q.toNat (Z9 gi m).1)[q.toNat]? = some (Z9 gi m).1 := B5 hx;have h1 := y7 hw (i := q.toNat) hwg;have h2 := Cb7 h1.1 (i := q.toNat) (l := []) ⟨E2 _, fun x hx => (by cases hx)⟩;have h3 := Cp8 h2.1 (i := q.toNat) (p := 0) ⟨Int.le_refl 0, F1⟩;have hfk := AX0 b (Ab4 (Af0 (d3 w q.toNat (Z9 gi m).1) q.toNat []) q.toNat 0) X T L q _ hgg2 h0 hwg.good hld;have hsk := BI3 b (Ab4 (Af0 (d3 w q.toNat (Z9 gi m).1) q.toNat []) q.toNat 0) X T L node c hcx hn.1 hcg hnow;have hfl := (AK5 hwg.good hld).floor;have hpk := Ag8 b (Ab4 (Af0 (d3 w q.toNat (Z9 gi m).1) q.toNat []) q.toNat 0) X T L q ⟨4, 0, m6 1 (m6 ((X7 (Z9 gi m).1).Floor + 1) ((AF0 c w.Now).High + 10)), 0, [], [], false⟩ _ hgg2 h0 hwg (show (0 : Nat) ≤ 1000 from by decide) (fun w9 hw9 => by cases hw9);refine R2 ?_;refine M6 8 D4 D4 rfl ?_;refine R7 ?_;refine C0 rfl rfl (H6 3 rfl G7 E0 (A0 rfl) rfl (A0 rfl) qz8 AJ9) ?_;refine R1 ?_;refine j7 3 rfl rfl rfl (A0 rfl) (A0 rfl) (Z2 _) rfl E0 rfl AJ9 ?_;refine R9 ?_;refine A1 rfl (H6 4 rfl T1 m2 (A0 rfl) rfl (A0 rfl) qz8 AJ9) ?_;refine j7 4 rfl rfl rfl (A0 rfl) (Y5 (sz := 3)) (g8 _ _) rfl m2 rfl AJ9 ?_;refine R9 ?_;refine A1 rfl (H6 5 rfl G5 E7 (A0 rfl) rfl (A0 rfl) qz8 AJ9) ?_;refine j7 5 rfl rfl rfl (A0 rfl) L1 (W4 _ _) rfl E7 rfl AJ9 ?_;refine R2 ?_;refine G0 (show _ = Go.AV.Own.box b6 81 (Z9 gi m).1.cs :: WB b (Ab4 (Af0 (d3 w q.toNat (Z9 gi m).1) q.toNat []) q.toNat 0) X T L from (by unfold WB Ab4 Af0 d3; dsimp only; rw [AB0, AB0, AB0]; rfl)) ?_;refine R5 ?_;refine A1 rfl (m9 [1, 1, 1, 1, 1, 1, 1] 1 (nwZ w T L) ([]) rfl Tryz.call182 rfl rfl (B7) (hfk) F0) ?_;refine R2 ?_;refine A1 rfl (m9 [1, 1, 1, 1, 1, 1, 1] 1 (nwZ w T L) ([]) rfl Tryz.call183 rfl rfl (B7) (hsk) F0) ?_;refine A1 rfl (A5 rfl Tryz.call181 rfl (CQ4 (X7 (Z9 gi m).1) (AF0 c w.Now) qz8 qz8) F0) ?_;refine R1 ?_;refine K3 [1, 1, 1, 1, 1, 1, 1] 1 7 (nwZ w T L) ([]) (fun zz => nwZ w T L) rfl rfl rfl rfl Tryz.call180 rfl rfl (show List.Perm (nwZ w T L) ((nwZ w T L) ++ ([])) from B7) (hpk) (A2 (A0 rfl) (A2 (A0 rfl) (A2 (AQ2 (A0 rfl) Am2) B0))) (fun a => M0) ?_;intro x58 ok58;refine R6 ?_;exact H7 [0, 0, 0, 0, 0, 0, 0] 1 (nwZ w T L) [] ((d3 (Ab4 (Af0 (d3 w q.toNat (Z9 gi m).1) q.toNat []) q.toNat 0) q.toNat x58.1, true)) (qz132) rfl (show List.Perm (nwZ w T L) ((nwZ w T L) ++ []) from B7) C1 O6
theorem part_ok {l : List G2} (h : AP9 l) (t : Int) (of : Bool) : AP9 (AW4 l t of) := by
  unfold AW4;exact ⟨L8 (List.length_filter_le _ _) h.1, fun x hx => h.2 x (List.mem_filter.1 hx).1⟩
theorem BQ9 {α : Type} {g : α → AV} : ∀ {v : List α}, (v.map fun l => [g l]).flatten = v.map g
  | [] => rfl
  | x :: v => by rw [U8, AJ4, BQ9, U8]; rfl
theorem flat1 {α : Type} {g : α → AV} {v : List α} {i : Nat} {x : α} (h : v[i]? = some x) : (v.map fun l => [g l]).flatten[((i : Int)).toNat * 1]? = some (g x) := by
  rw [BQ9, l4, Nat.mul_one, X2, h]; rfl
def AS3 (w : C9) (v : List (List G2)) : C9 := { w with Locks := v }
theorem BU0 (b : Nat) (w : C9) (X : WX) (T : List (Value × Value)) (L : List Value) (t : Int) (hw : WI w) : M1 231 [AV.ptr b 0, AV.int t] (WB b w X T L) (fun v : List (List G2) => v.length = w.Locks.length ∧ ∀ l ∈ v, AP9 l) (fun v => WB b (AS3 w v) X T L) (fun _ => AV.tup []) := by
 have hng := hw.n;have hlk := hw.locks;refine C8 Tryz.func231 rfl Tryz.ntmps231 rfl ?_;refine R11 ?_;refine AWP.le (B8 [3] rfl) ?_;refine J0 [(0, _), (1, _), (10, _)] _ (fun (i : Nat) (v : List (List G2)) => i ≤ w.Locks.length ∧ v.length = w.Locks.length ∧ ∀ l ∈ v, AP9 l) (fun i v => [.arr X.lo 97 1 (v.map fun l => [AV.list 3 (l.map G2.cs)])]) (fun i v => [(11, AV.int i)]) (fun i v => w.Locks.length - i) (0) (w.Locks) ?_ (K1 C1 A8) ?_
 ·exact ⟨E2 _, rfl, hlk.2⟩
 intro i v hinv;refine R5 ?_;refine A3 ?_ ?_
 ·intro h12;have k12 := C5 h12;have hlt : i < w.Locks.length := (by simpa using h12);obtain ⟨l, hlx⟩ := B4 (show i < v.length by rw [hinv.2.1]; exact hlt);have hlo := hinv.2.2 l (C2 hlx);have hl60 := hlo.1;refine R8 ?_;refine M6 17 D4 D4 rfl ?_;refine R12 ?_;refine C0 rfl rfl (H6 0 rfl T1 m2 (A0 rfl) rfl (A0 rfl) qz8 AJ9) ?_;refine C0 rfl rfl (AF6 0 rfl (A0 rfl) rfl Tryz.isAgg97 (flat1 (g := fun l => AV.list 3 (l.map G2.cs)) hlx)) ?_;refine R1 ?_;refine C0 rfl rfl (A5 rfl Tryz.call280 rfl (Cl4 l t false qz8) CT7) ?_;refine C0 rfl rfl (H6 0 rfl T1 m2 (A0 rfl) rfl (A0 rfl) qz8 AJ9) ?_;refine R1 ?_;refine j7 0 rfl rfl rfl (A0 rfl) (A0 rfl) (g8 _ _) rfl m2 rfl AJ9 ?_;refine R5 ?_;refine G8 i v (i + 1) (v.set i (AW4 l t false)) ?_ ?_ (Le.trans (B8 [0] rfl) (K1 (by (rw [AB0]; rfl)) A8))
  ·exact ⟨by omega, by rw [Z0]; exact hinv.2.1, Ad9 hinv.2.2 (part_ok hlo t false)⟩
  omega
 intro h12;have k12 := B9 h12;refine R1 ?_;exact H7 [1, 1, 1, 0, 0, 0, 0] 0 (nwZ w T L) [] (v) (hinv.2) rfl (show List.Perm (nwZ w T L) ((nwZ w T L) ++ []) from B7) C1 (g9 rfl F1 AB5)
theorem AM0 {T X : Type} {ocs : T → X → List AV} {l : List T} {xs : List X} {i : Nat} {p p' : T} {x : X} (hp : l[i]? = some p) (hx : xs[i]? = some x) : J7 ocs (l.set i p') xs = (J7 ocs l xs).set i (ocs p' x) := by
  rw [← Cr8 (p' := p') hp hx, AM6 hp hx];have ht := AL8 (ocs := ocs) hp hx;rw [List.set_append_right _ _ qz8, ht, Nat.sub_self, Ay9]
theorem Ae3 {T X : Type} {ow : T → X → List Go.AV.Own} : ∀ {l : List T} {xs : List X} {i : Nat} {p p' : T}, l[i]? = some p → (∀ x, ow p' x = ow p x) → nin ow (l.set i p') xs = nin ow l xs
  | [], _, _, _, _, h, _ => by simp at h
  | q :: l, [], i, _, _, h, _ => by cases i <;> rfl
  | q :: l, y :: xs, 0, p, p', h, he => by
    simp at h; subst h;show ow p' y ++ nin ow l xs = ow q y ++ nin ow l xs
    rw [he]
  | q :: l, y :: xs, i + 1, p, p', h, he => by
    show ow q y ++ nin ow (l.set i p') xs = ow q y ++ nin ow l xs
    rw [Ae3 (l := l) AO9 he]
def Bh5 (t : B2) : B2 := { t with Dead := true }
def Bh6 (w : C9) (t : Int) : C9 := match w.Txns[(t - 1).toNat]? with
  | some x => AH2 w (t - 1).toNat (Bh5 x)
  | none => w
theorem died_wi {w : C9} (hw : WI w) (t : Int) : WF w (Bh6 w t) := by
  unfold Bh6;split
  · rename_i x hx
    have h := hw.txns.2 x (C2 hx);have h2 := Aw5 hw (i := (t - 1).toNat) (t := Bh5 x) ⟨h.terms, h.ops, h.got, h.span⟩;exact ⟨h2.1, h2.2, rfl, rfl⟩
  · exact WF.refl hw
theorem Au9 {w : C9} (hw : WI w) {v : List (List G2)} (hv : v.length = w.Locks.length ∧ ∀ l ∈ v, AP9 l) : WI (AS3 w v) ∧ WS w (AS3 w v) :=
  ⟨⟨hw.n, hw.clocks, hw.cuts, ⟨hv.1.trans hw.locks.1, hv.2⟩, hw.promised, hw.groups, hw.txns, hw.looks, hw.now, hw.count⟩, ⟨rfl, rfl, rfl, rfl, rfl, rfl⟩⟩
theorem Av0 {w : C9} (hw : WI w) {v : List (List G2)} (hv : v.length = w.Locks.length ∧ ∀ l ∈ v, AP9 l) : WF w (AS3 w v) := ⟨(Au9 hw hv).1, (Au9 hw hv).2, rfl, rfl⟩
theorem BC2 (b : Nat) (w : C9) (X : WX) (T : List (Value × Value)) (L : List Value) (t : Int) (hw : WI w) (hT : T.length = w.Txns.length) (ht : 1 ≤ t ∧ t ≤ 1000000) : M1 277 [AV.ptr b 0, AV.int t] (WB b w X T L) (fun v : C9 => WF w v) (fun v => WB b v X T L) (fun _ => AV.tup []) := by
 have hd := died_wi hw t;have hfr := BU0 b (Bh6 w t) X T L t hd.wi;obtain ⟨W', hW⟩ : ∃ W' : C9, Bh6 w t = W' := ⟨_, rfl⟩;rw [hW] at hfr hd;refine C8 Tryz.func277 rfl Tryz.ntmps277 rfl ?_;refine R12 ?_;refine A3 ?_ ?_
 ·intro h11;have k11 := C5 h11;have hlt : (t - 1).toNat < w.Txns.length := (by simp only [W8 hT] at k11; omega);obtain ⟨tx, htx⟩ := B4 hlt;obtain ⟨y, hy⟩ := B4 (show (t - 1).toNat < T.length by omega);have hW1 : W' = AH2 w (t - 1).toNat (Bh5 tx) := (by rw [← hW]; unfold Bh6; rw [htx]);refine R8 ?_;refine A1 rfl (H6 5 rfl M9 S6 (A0 rfl) rfl (A0 rfl) qz8 (by rw [W8 hT]; omega)) ?_;refine A1 rfl (L7 5 rfl J4 rfl V0 (A0 rfl) rfl rfl qz1) ?_;refine g6 5 rfl rfl rfl (A0 rfl) Af6 (Af8 _) rfl V0 qz1 rfl ?_;refine R1 ?_;refine G0 (show _ = WB b W' X T L from qz128) ?_;refine R3 ?_;refine K3 [0, 0, 0, 0, 0, 0, 0] 0 7 (nin B2.ow W'.Txns T ++ nin B6.ow W'.Looks L) ([]) (fun zz => nin B2.ow W'.Txns T ++ nin B6.ow W'.Looks L) rfl rfl rfl rfl Tryz.call231 rfl rfl (show List.Perm (nin B2.ow W'.Txns T ++ nin B6.ow W'.Looks L) ((nin B2.ow W'.Txns T ++ nin B6.ow W'.Looks L) ++ ([])) from B7) (hfr) F0 (fun a => M0) ?_;intro x23 ok23;refine R1 ?_;exact H7 [0, 0, 0, 0, 0, 0, 0] 0 (nin B2.ow W'.Txns T ++ nin B6.ow W'.Looks L) [] ((AS3 W' x23)) (hd.trans (Av0 hd.wi ok23)) rfl (show List.Perm (nin B2.ow W'.Txns T ++ nin B6.ow W'.Looks L) ((nin B2.ow W'.Txns T ++ nin B6.ow W'.Looks L) ++ []) from B7) C1 (g9 rfl F1 AB5)
 intro h11;have k11 := B9 h11;have hW1 : W' = w := (by rw [← hW]; unfold Bh6; rw [AO4 (by simp only [W8 hT] at k11; omega)]);refine R1 ?_;refine G0 (show _ = WB b W' X T L from qz128) ?_;refine R3 ?_;refine K3 [0, 0, 0, 0, 0, 0, 0] 0 7 (nin B2.ow W'.Txns T ++ nin B6.ow W'.Looks L) ([]) (fun zz => nin B2.ow W'.Txns T ++ nin B6.ow W'.Looks L) rfl rfl rfl rfl Tryz.call231 rfl rfl (show List.Perm (nin B2.ow W'.Txns T ++ nin B6.ow W'.Looks L) ((nin B2.ow W'.Txns T ++ nin B6.ow W'.Looks L) ++ ([])) from B7) (hfr) F0 (fun a => M0) ?_;intro x23 ok23;refine R1 ?_;exact H7 [0, 0, 0, 0, 0, 0, 0] 0 (nin B2.ow W'.Txns T ++ nin B6.ow W'.Looks L) [] ((AS3 W' x23)) (hd.trans (Av0 hd.wi ok23)) rfl (show List.Perm (nin B2.ow W'.Txns T ++ nin B6.ow W'.Looks L) ((nin B2.ow W'.Txns T ++ nin B6.ow W'.Looks L) ++ []) from B7) C1 (g9 rfl F1 AB5)
theorem Bc1 {α : Type} {g : α → AV} {v : List α} {k : Int} {x : α} (h : v[k.toNat]? = some x) : (v.map fun l => [g l]).flatten[k.toNat * 1]? = some (g x) := by
  rw [BQ9, Nat.mul_one, X2, h]; rfl
theorem AR5 {w : C9} {T : List (Value × Value)} {L : List Value} {i : Nat} {tx : B2} {y : Value × Value} (hp : w.Txns[i]? = some tx) (hy : T[i]? = some y) : (nwZ w T L).Perm (B2.ow tx y ++ (nin B2.ow (w.Txns.eraseIdx i) (T.eraseIdx i) ++ nin B6.ow w.Looks L)) := by
  rw [← f4];exact (AZ4 (ow := B2.ow) hp hy).append_right _
theorem CM2 (b : Nat) (w : C9) (X : WX) (T : List (Value × Value)) (L : List Value) (g t : Int) (tx : B2) (y : Value × Value) (n : Int) (gi : C4) (htx : w.Txns[(t - 1).toNat]? = some tx) (hy : T[(t - 1).toNat]? = some y) (hT : T.length = w.Txns.length) (ht : 1 ≤ t ∧ t ≤ 1000000) (hg0 : 0 ≤ g) (hn : tx.Terms[g.toNat]? = some n) (hx : w.Groups[g.toNat]? = some gi) : M1 309 [AV.ptr b 0, AV.int g, AV.int t] (WB b w X T L) (fun _ : Unit => True) (fun _ => WB b w X T L) (fun _ => AV.bool ((n != 0) && (n != gi.Term))) := by
  have htl := (E9.1 htx).1;have hgl := (E9.1 hx).1;have hnl := (E9.1 hn).1;refine C8 Tryz.func309 rfl Tryz.ntmps309 rfl ?_;refine R5 ?_;refine AWP.le (S4 7 (t := ([Go.AV.Own.arr y.1 145 3 (tx.Got.map K8.cs), Go.AV.Own.arr y.2 3 1 (tx.Terms.map fun n => [AV.int n])]) ++ (nin B2.ow (w.Txns.eraseIdx (t - 1).toNat) (T.eraseIdx (t - 1).toNat) ++ nin B6.ow w.Looks L)) (AR5 htx hy)) ?_;refine R8 ?_;refine A1 rfl (H6 5 rfl M9 S6 (A0 rfl) rfl (A0 rfl) qz8 Am4) ?_;refine A1 rfl (L7 5 rfl J4 rfl AV4 (A0 rfl) rfl rfl qz1) ?_;refine A1 rfl (N4 5 rfl (A0 rfl) rfl Tryz.isAgg28 qz1 rfl) ?_;refine R1 ?_;refine A1 rfl (H6 8 rfl G5 E7 (A0 rfl) rfl (A0 rfl) qz8 Am4) ?_;refine A1 rfl (AF6 8 rfl (A0 rfl) rfl Q8 (Bc1 (g := AV.int) hn)) ?_;refine R3 ?_;refine AWP.le (B8 [0, 0, 0, 0, 0, 0, 0, 0, 0] rfl) ?_;refine AWP.le (S4 7 (t := nwZ w T L) ((AR5 htx hy).symm)) ?_;refine R11 ?_;refine L6 rfl (fun hc => H6 2 rfl G7 E0 (A9 rfl hc) rfl (A9 rfl hc) qz8 Am4) ?_;refine L6 rfl (fun hc => L7 2 rfl W5 rfl E7 (A9 rfl hc) rfl rfl qz5) ?_;refine L6 rfl (fun hc => N4 2 rfl (A9 rfl hc) rfl Q8 qz5 rfl) ?_;refine R5 ?_;exact H7 [0, 0, 0, 0, 0, 0, 0] 0 (nwZ w T L) [] () (trivial) rfl (show List.Perm (nwZ w T L) ((nwZ w T L) ++ []) from B7) C1 O6
end Go.PQ
namespace Go.M
open Go.AV
theorem DG2 (l : List Int) (n : Int) : (AO0 l n).length ≤ l.length + 1 := by
  induction l with
  | nil => simp [AO0]
  | cons y l ih =>
    unfold AO0;split
    · rw [H8, H8]; omega
    · split <;> simp
theorem CM3 {n m : Int} : ∀ {l : List Int}, m ∈ AO0 l n → m = n ∨ m ∈ l
  | [], h => by unfold AO0 at h; exact .inl (Z5.1 h)
  | x :: l, h => by
    unfold AO0 at h;split at h
    · rcases Q0.1 h with h | h
      · exact .inr (h ▸ Y9)
      · rcases CM3 h with h | h
        · exact .inl h
        · exact .inr (Q2 _ h)
    · split at h
      · exact .inr h
      · rcases Q0.1 h with h | h
        · exact .inl h
        · exact .inr h
theorem Bw2 {m : Int} : ∀ {l : List G2} {a : List Int}, m ∈ l.foldl (fun a y => AO0 a y.Txn) a → m ∈ a ∨ ∃ y ∈ l, y.Txn = m
  | [], a, h => .inl h
  | y :: l, a, h => by
    rw [List.foldl_cons] at h;rcases Bw2 h with h | ⟨z, hz, e⟩
    · rcases CM3 h with h | h
      · exact .inr ⟨y, Y9, h.symm⟩
      · exact .inl h
    · exact .inr ⟨z, Q2 _ hz, e⟩
theorem ask_mem9 {l : List G2} {x : G2} (h : AP9 l) : ∀ n ∈ (Aq6 l [] x (AA2 l x)).2, 1 ≤ n ∧ n ≤ 1000000 := fun n hn => by
  have hw : n ∈ AA2 l x := by
    unfold Aq6 at hn;split at hn
    · cases hn
    · split at hn
      · cases hn
      · exact hn
  unfold AA2 at hw;rcases Bw2 hw with h1 | ⟨y, hy, e⟩
  · cases h1
  · rw [← e]; exact (h.2 y (List.mem_filter.1 hy).1).1
theorem ask_len9 {l : List G2} {x : G2} : (Aq6 l [] x (AA2 l x)).2.length ≤ l.length := by
  have h : (AA2 l x).length ≤ l.length := by
    have h1 : ∀ (m : List G2) (a : List Int), (m.foldl (fun a y => AO0 a y.Txn) a).length ≤ a.length + m.length := fun m => by
      induction m with
      | nil => intro a; simp
      | cons y m ih => intro a; rw [List.foldl_cons]; have h2 := ih (AO0 a y.Txn); have h3 := DG2 a y.Txn; rw [H8]; omega
    have h2 := h1 (l.filter (Aj2 x)) [];have h3 := List.length_filter_le (Aj2 x) l;unfold AA2;rw [Q1] at h2; omega
  unfold Aq6;split
  · exact E2 _
  · split
    · exact E2 _
    · exact h
theorem CM4 {x z : G2} : ∀ {l : List G2}, z ∈ AH4 l x → z = x ∨ ∃ y ∈ l, z.Key = y.Key ∧ z.Txn = y.Txn
  | [], h => by unfold AH4 at h; exact .inl (Z5.1 h)
  | y :: l, h => by
    unfold AH4 at h;split at h
    · rcases Q0.1 h with h | h
      · exact .inr ⟨y, Y9, by rw [h], by rw [h]⟩
      · exact .inr ⟨z, Q2 _ h, rfl, rfl⟩
    · rcases Q0.1 h with h | h
      · exact .inr ⟨y, Y9, by rw [h], by rw [h]⟩
      · rcases CM4 h with h | ⟨q, hq, e⟩
        · exact .inl h
        · exact .inr ⟨q, Q2 _ hq, e⟩
theorem take_ok9 {l : List G2} {x : G2} (h : AP9 l) (hx : (1 ≤ x.Txn ∧ x.Txn ≤ 1000000) ∧ x.Key.length ≤ 64) (hl : (AH4 l x).length ≤ 60) : AP9 (AH4 l x) := by
  refine ⟨hl, fun z hz => ?_⟩;rcases CM4 hz with e | ⟨y, hy, e1, e2⟩
  · rw [e]; exact hx
  · have h9 := h.2 y hy
    refine ⟨by rw [e2]; exact h9.1, ?_⟩;have h8 := h9.2;unfold G2.size at h8 ⊢; rw [e1]; exact h8
theorem DG3 {x : G2} : ∀ {l : List G2}, (AH4 l x).length ≤ l.length + 1
  | [] => by unfold AH4; exact K5 _
  | y :: l => by
    unfold AH4;split
    · simp
    · rw [H8, H8]; have := DG3 (x := x) (l := l); omega
theorem AY1 {α : Type} {l : List α} {i : Nat} {x y : α} (h : l[i]? = some x) : (l.set i y)[i]? = some y := AO3 (E9.1 h).1
theorem BA4 {T X : Type} {ocs : T → X → List AV} {l : List T} {xs : List X} {i : Nat} (h : l[i]? = none ∨ xs[i]? = none) : (J7 ocs l xs)[i]? = none := by
  unfold J7;rw [List.getElem?_zipWith];rcases h with h | h
  · rw [h]
  · rw [h]; cases l[i]? <;> rfl
def r8 (t : B2) (g : Nat) (n : Int) : B2 := { t with Terms := t.Terms.set g n }
theorem wf_lock {w : C9} (hw : WI w) {g : Nat} {l : List G2} (hl : AP9 l) {i : Nat} {t : B2} (ht : w.Txns[i]? = some t) (n : Int) : WF w (AH2 (Af0 w g l) i (r8 t g n)) := by
  have h1 := Cb7 hw (i := g) hl;have h := hw.txns.2 t (C2 ht);have h2 := Aw5 h1.1 (i := i) (t := r8 t g n) ⟨by show (t.Terms.set g n).length = _; rw [Z0]; exact h.terms, h.ops, h.got, h.span⟩;exact ⟨h2.1, h1.2.trans h2.2, rfl, rfl⟩
theorem BI4 (s : Str) : -999999 ≤ (l5N s).1 ∧ (l5N s).1 ≤ 999999 := by
  cases h : (l5N s).2 with
  | false => rw [Cb4 s h]; decide
  | true => exact (Cb3 (s := s) (n := (l5N s).1) (by rw [← h])).2
theorem Cm1 {buf : List A4} {got : List K8} {k : Str} {n : Nat} (hb : ∀ w ∈ buf, w.size ≤ n) (hg : ∀ g ∈ got, g.size ≤ n) : (L2 buf got k).1.length ≤ n := by
  unfold L2;split
  · rename_i w hw
    have := hb w (Ah0 hw);unfold A4.size at this; dsimp only; omega
  · split
    · rename_i g hg2
      have := hg g (Ah0 hg2);unfold K8.size at this; dsimp only; omega
    · exact E2 _
theorem BI5 {α : Type} {p : α → Bool} {l : List α} {i : Nat} {x : α} (h : l[i]? = some x) : (l.drop i).find? p = if p x = true then some x else (l.drop (i + 1)).find? p := by
  rw [I8 h];by_cases hp : p x = true
  · rw [List.find?_cons_of_pos hp, D0 hp]
  · rw [List.find?_cons_of_neg hp, C6 hp]
structure WD (l : List A4) : Prop where
  keys : (Q3 l).Sublist keyS
  vals : ∀ w ∈ l, AG1 w.Val w.Gone = true
theorem DG4 {l : List Str} (h1 : ∀ k ∈ l, f6 k = true) (h2 : AN6 l) : g7 l = true := by
  unfold g7;rw [l5.2 h1, (p6 (p := Op.bytesLess) (fun _ _ _ => U3)).2 h2]; rfl
structure OI (n : Int) (l : List AZ1) : Prop where
  good : ∀ o ∈ l, orderR o = true ∧ o.Txn < n
  nodup : (l.map AZ1.Txn).Nodup
theorem As8 {s : D9} (h : j8 s = true) : s.size ≤ 15000 := by
  have g := AH0.1 h;have h1 := Aw1 g.cells;have h2 := y5 (f := D1.size) (c := 400) (l := s.Held) fun k hk => AP7 (g.good k hk).1;have h3 := g.hlen;have h4 := g.tlen;show C7 B1.size s.Cells + C7 D1.size s.Held + s.Told.length ≤ 15000
  omega
theorem DG5 {cuts ks : List Str} {p : Int} (h : p ∈ Aq8 cuts ks) : 0 ≤ p ∧ p ≤ cuts.length := by
  rcases ((BL3 (cuts := cuts) (ks := ks) (a := []) List.Pairwise.nil).2 p).1 h with h | ⟨k, _, e⟩
  · cases h
  · have := Bo1 cuts k
    omega
theorem BE3 {α : Type} {f : α → Nat} {p : α → Bool} : ∀ {l : List α}, C7 f (l.filter p) ≤ C7 f l
  | [] => K5 _
  | x :: l => by
    have ih := BE3 (f := f) (p := p) (l := l)
    cases hp : p x with
    | true => rw [List.filter_cons_of_pos hp, X0, X0]; omega
    | false => rw [List.filter_cons_of_neg (by rw [hp]; decide), X0]; omega
theorem Av1 {α : Type} {p : α → Bool} {l : List α} {i : Nat} {x : α} (h : l[i]? = some x) : (l.take (i + 1)).filter p = (l.take i).filter p ++ (if p x = true then [x] else []) := by
  rw [T5, h, List.filter_append]
  cases hp : p x <;> simp [hp]
def inS (cuts : List Str) (part : Int) (k : Str) : Bool := ((q7 cuts k : Int) == part)
def u3 (got : List K8) : List Str := got.foldl (fun a g => u4 a g.Key) []
theorem CM5 : ∀ {got : List K8} {a : List Str}, AN6 a → AN6 (got.foldl (fun a g => u4 a g.Key) a)
  | [], a, h => h
  | g :: got, a, h => by rw [List.foldl_cons]; exact CM5 (BD4 h).1
theorem CM6 : ∀ {got : List K8} {a : List Str}, (got.foldl (fun a g => u4 a g.Key) a).length ≤ a.length + got.length
  | [], a => K5 _
  | g :: got, a => by rw [List.foldl_cons]; have h1 := CM6 (got := got) (a := u4 a g.Key); have h2 := BR7 g.Key a; rw [H8]; omega
theorem Cx4 (got : List K8) : AN6 (u3 got) := CM5 List.Pairwise.nil
theorem Bw3 (got : List K8) : (u3 got).length ≤ got.length := by have := CM6 (got := got) (a := []); simpa [u3] using this
theorem Cx5 {got : List K8} {i : Nat} {g : K8} (h : got[i]? = some g) : u3 (got.take (i + 1)) = u4 (u3 (got.take i)) g.Key := by
  unfold u3;rw [T5, h, List.foldl_append]; rfl
def AY8 (cuts : List Str) (t : B2) : List Int := Aq8 cuts (Ah5 (u3 t.Got ++ Q3 (o8 t.Ops t.Got).2.2))
def BF2 (t : B2) : Bool := ((o8 t.Ops t.Got).1 == 3) && decide (0 < ((u3 t.Got).length : Int) + ((o8 t.Ops t.Got).2.2.length : Int))
structure SetB (t : B2) : Prop where
  len : t.Ops.length ≤ 1000
  ops : ∀ o ∈ t.Ops, BO6 1000 o
  got : t.Got.length ≤ 1000 ∧ ∀ g ∈ t.Got, g.size ≤ 1000
theorem Bp7.sb {n : Nat} {c : Int} {t : B2} (h : Bp7 n c t) : SetB t where
  len := by have h9 := h.ops.1; unfold AE8 at h9; rw [E8, H1] at h9; have := h9.1; omega
  ops := fun o ho => by have h9 := An7 h.ops.1 o ho; exact ⟨L8 h9.size F1, h9.by', h9.key⟩
  got := ⟨L8 h.got.1 F1, fun g hg => L8 (h.got.2 g hg) F1⟩
theorem CM7 {cuts : List Str} {t : B2} (h : BF2 t = true) : ∃ p, (AY8 cuts t)[0]? = some p := by
  unfold BF2 at h;simp only [E8, H1] at h;have h0 := h.2;have hk : ∃ k, k ∈ Ah5 (u3 t.Got ++ Q3 (o8 t.Ops t.Got).2.2) := by
    cases hr : u3 t.Got with
    | cons k r => exact ⟨k, (BH4 _ _).2 Z1⟩
    | nil =>
      cases hw : (o8 t.Ops t.Got).2.2 with
      | cons w r => exact ⟨w.Key, (BH4 _ _).2 (by simp [Q3])⟩
      | nil => rw [hr, hw] at h0; simp at h0
  obtain ⟨k, hk⟩ := hk;have h1 := ((BL3 (cuts := cuts) (ks := Ah5 (u3 t.Got ++ Q3 (o8 t.Ops t.Got).2.2)) (a := []) List.Pairwise.nil).2 (q7 cuts k)).2 (.inr ⟨k, hk, rfl⟩);exact B4 (List.length_pos_of_mem h1)
theorem CE5 {cuts : List Str} {t : B2} {p : Int} (h : p ∈ AY8 cuts t) : 0 ≤ p ∧ p ≤ cuts.length := DG5 h
def Bz8 (t : B2) (x : N1) (c : Int) : B2 := { t with Yes := x.Yes, Time := x.Time, End := c }
theorem wf_fin {w : C9} (hw : WI w) {i : Nat} {t : B2} (ht : w.Txns[i]? = some t) (hq : 0 ≤ t.Begin ∧ t.Begin < w.Count) (x : N1) : WF w (AH2 w i (Bz8 t x w.Count)) := by
  have h := hw.txns.2 t (C2 ht);have h2 := Aw5 hw (i := i) (t := Bz8 t x w.Count) ⟨h.terms, h.ops, h.got, h.span.1, .inr ⟨hq.1, hq.2, Int.le_refl _⟩⟩;exact ⟨h2.1, h2.2, rfl, rfl⟩
theorem BU1 {w : C9} (hw : WI w) {g : Int} {gi : C4} (h0 : 0 ≤ g) (hx : w.Groups[g.toNat]? = some gi) (hl : 0 ≤ gi.Lead) : ∃ c, w.Clocks[(3 * g + gi.Lead).toNat]? = some c ∧ n3 c = true ∧ gi.Lead < 3 ∧ g ≤ 2 ∧ M.isTrue w.Now = true ∧ -1000000 ≤ (AF0 c w.Now).High ∧ (AF0 c w.Now).High ≤ 1000000 := by
  have hgi := hw.groups gi (C2 hx);have hli := BC1 hgi.good hl;have h3 := hgi.three;have hgl := (E9.1 hx).1;have hng := hw.n;obtain ⟨c, hc⟩ := B4 (show (3 * g + gi.Lead).toNat < w.Clocks.length by rw [hw.clocks.1]; omega);have h9 := hw.clocks.2 c (C2 hc);have h8 := hw.now;refine ⟨c, hc, ?_, by omega, by omega, ?_, ?_, ?_⟩
  · unfold n3 within; rw [E8, H1, H1]; exact h9
  · unfold M.isTrue within; rw [E8, H1, H1]; exact h8
  · show -1000000 ≤ w.Now + c.Off + 5; omega
  · show w.Now + c.Off + 5 ≤ 1000000; omega
theorem Bw4 {l : List B1} (h : m5 l = true) (k : Str) (t : Int) : (cellAt l k t).1.length ≤ 24 := by
  unfold cellAt;split
  · rename_i c hc
    obtain ⟨_, _, h3⟩ := W6 h;have hm : c ∈ l := by unfold d7 at hc; exact Ah0 hc
    unfold Z8;split
    · rename_i v hv
      have h9 := (h3 c hm).2.2.2.2 v (List.mem_reverse.1 (Ah0 hv));unfold AN2 AG1 Aa1 at h9; simp only [E8, H1] at h9; dsimp only; omega
    · exact E2 _
  · exact E2 _
def AS4 (t : B2) (g : K8) : B2 := { t with Got := t.Got ++ [g] }
theorem wf_got {w : C9} (hw : WI w) {i : Nat} {t : B2} (ht : w.Txns[i]? = some t) {g : K8} (hl : t.Got.length < 8) (hg : g.size ≤ 64) : WF w (AH2 w i (AS4 t g)) := by
  have h := hw.txns.2 t (C2 ht);have h2 := Aw5 hw (i := i) (t := AS4 t g) ⟨h.terms, h.ops, ⟨by show (t.Got ++ [g]).length ≤ 8; rw [H3]; simp; omega, fun x hx => by
    rcases o5.1 (show x ∈ t.Got ++ [g] from hx) with hx | hx
    · exact h.got.2 x hx
    · rw [Z5.1 hx]; exact hg⟩, h.span⟩
  exact ⟨h2.1, h2.2, rfl, rfl⟩
theorem Bw5 {w : C9} (hw : WI w) (k : Str) : ∃ gi, w.Groups[((q7 w.Cuts k : Nat) : Int).toNat]? = some gi ∧ (q7 w.Cuts k : Nat) < w.Groups.length := by
  have h1 := Bo1 w.Cuts k;have h2 := hw.cuts.1;obtain ⟨gi, hg⟩ := B4 (show ((q7 w.Cuts k : Nat) : Int).toNat < w.Groups.length by omega);exact ⟨gi, hg, by omega⟩
end Go.M
namespace Go.PQ
open Go.Proofs
open Go Go.AV Go.M
attribute [local irreducible] OpW OpA OpS AWP J6 L3 K7 OpE K2 H9 K6 Le Ev F7 M7 f8 Int.tmod Int.tdiv IntKind.wrap T7
theorem CM8 {T X : Type} {ocs : T → X → List AV} {l : List T} {xs : List X} {i : Nat} {p p' : T} {x x' : X} (hp : l[i]? = some p) (hx : xs[i]? = some x) : J7 ocs (l.set i p') (xs.set i x') = (J7 ocs l xs).set i (ocs p' x') := by
  apply List.ext_getElem?
  intro j;by_cases e : i = j
  · subst e
    rw [c8 (AY1 hp) (AY1 hx), AY1 (c8 hp hx)]
  · rw [AY3 e]
    cases h1 : l[j]? with
    | none => rw [BA4 (by rw [AY3 e]; exact .inl h1), BA4 (.inl h1)]
    | some q =>
      cases h2 : xs[j]? with
      | none => rw [BA4 (by rw [AY3 e (l := xs)]; exact .inr h2), BA4 (.inr h2)]
      | some z => rw [c8 (by rw [AY3 e]; exact h1) (by rw [AY3 e]; exact h2), c8 h1 h2]
theorem Cx6 {T X : Type} {ocs : T → X → List AV} {l : List T} {xs : List X} {i : Nat} {p p' : T} {x : X} (hp : l[i]? = some p) (hx : xs[i]? = some x) (he : ocs p' x = ocs p x) : J7 ocs (l.set i p') xs = J7 ocs l xs := by rw [AM0 hp hx, he, BN8 (c8 hp hx)]
theorem Bw6 {w : C9} {T : List (Value × Value)} {L : List Value} {i : Nat} {p p' : B2} {y y' : Value × Value} (hp : w.Txns[i]? = some p) (hy : T[i]? = some y) : (B2.ow p' y' ++ (nin B2.ow (w.Txns.eraseIdx i) (T.eraseIdx i) ++ nin B6.ow w.Looks L)).Perm (nin B2.ow (w.Txns.set i p') (T.set i y') ++ nin B6.ow w.Looks L) := by
  have h9 := AZ4 (ow := B2.ow) (AY1 (y := p') hp) (AY1 (y := y') hy);rw [List.eraseIdx_set_eq, List.eraseIdx_set_eq] at h9;rw [← f4];exact h9.symm.append_right _
theorem Bc2 {w : C9} {T : List (Value × Value)} {L : List Value} {i : Nat} {p : B6} {y : Value} (hp : w.Looks[i]? = some p) (hy : L[i]? = some y) : (nwZ w T L).Perm (B6.ow p y ++ (nin B6.ow (w.Looks.eraseIdx i) (L.eraseIdx i) ++ nin B2.ow w.Txns T)) := by
  refine List.perm_append_comm.trans ?_;rw [← f4];exact (AZ4 (ow := B6.ow) hp hy).append_right _
theorem lk_put {w : C9} {T : List (Value × Value)} {L : List Value} {i : Nat} {p p' : B6} {y y' : Value} (hp : w.Looks[i]? = some p) (hy : L[i]? = some y) : (B6.ow p' y' ++ (nin B6.ow (w.Looks.eraseIdx i) (L.eraseIdx i) ++ nin B2.ow w.Txns T)).Perm (nin B2.ow w.Txns T ++ nin B6.ow (w.Looks.set i p') (L.set i y')) := by
  have h9 := AZ4 (ow := B6.ow) (AY1 (y := p') hp) (AY1 (y := y') hy);rw [List.eraseIdx_set_eq, List.eraseIdx_set_eq] at h9;rw [← f4];exact (h9.symm.append_right _).trans AJ7
theorem Ce6 (b : Nat) (w : C9) (X : WX) (T : List (Value × Value)) (L : List Value) (g t : Int) (k : Str) (write : Bool) (gi : C4) (hw : WI w) (hT : T.length = w.Txns.length) (ht : 1 ≤ t ∧ (t - 1).toNat < w.Txns.length) (h0 : 0 ≤ g) (hx : w.Groups[g.toNat]? = some gi) (hl : 0 ≤ gi.Lead) (hk : k.length ≤ 12) : M1 310 [AV.ptr b 0, AV.int g, AV.int t, AV.str k, AV.bool write] (WB b w X T L) (fun v : C9 × Bool => WF w v.1) (fun v => WB b v.1 X T L) (fun v => AV.bool v.2) := by
 have htn := hw.txns.1;have hgi := hw.groups gi (C2 hx);have hgl := (E9.1 hx).1;obtain ⟨lo, hlx⟩ := B4 (show g.toNat < w.Locks.length by rw [hw.locks.1]; omega);have hlo := hw.locks.2 lo (C2 hlx);have hlo60 := hlo.1;have hll := (E9.1 hlx).1;obtain ⟨kr, hko⟩ := Ce5 b w X T L g t k write gi hx h0 hgi.good hl;obtain ⟨W, hW⟩ : ∃ W, (Aq6 lo [] ⟨k, t, write⟩ (AA2 lo ⟨k, t, write⟩)).2 = W := ⟨_, rfl⟩;obtain ⟨cd, hcd⟩ : ∃ cd, (Aq6 lo [] ⟨k, t, write⟩ (AA2 lo ⟨k, t, write⟩)).1 = cd := ⟨_, rfl⟩;have hwm := ask_mem9 (x := ⟨k, t, write⟩) hlo;have hask := Cd4 lo [] ⟨k, t, write⟩ qz8;rw [hcd, hW] at hask;have hWl : W.length ≤ 60 := by rw [← hW]; exact L8 (ask_len9 (x := ⟨k, t, write⟩)) hlo60
 rw [hW] at hwm;refine C8 Tryz.func310 rfl Tryz.ntmps310 rfl ?_;refine R12 ?_;refine A1 rfl (m9 [0, 0, 0, 0, 0, 0, 0] 0 (nwZ w T L) ([]) rfl Tryz.call330 rfl rfl (B7) (hko) (A2 (A0 rfl) (A2 (A0 rfl) AA5))) ?_;refine R1 ?_;refine A3 ?_ ?_
 ·intro h22;refine R5 ?_;exact H7 [0, 0, 0, 0, 0, 0, 0] 0 (nwZ w T L) [] ((w, false)) (qz36) rfl (show List.Perm (nwZ w T L) ((nwZ w T L) ++ []) from B7) qz69 (M4 rfl (A6 rfl C1))
 intro h22;refine R8 ?_;intro b11;refine R10 ?_;refine C0 rfl rfl (H6 4 rfl T1 m2 (A0 rfl) rfl (A0 rfl) qz8 CA3) ?_;refine C0 rfl rfl (AF6 4 rfl (A0 rfl) rfl Tryz.isAgg97 (Bc1 (g := fun l => AV.list 3 (l.map G2.cs)) hlx)) ?_;refine R1 ?_;refine C0 rfl rfl (A5 rfl Tryz.call331 rfl (hask) (A2 (A0 rfl) (A2 Y5 J3))) ?_;refine R12 ?_;refine A3 ?_ ?_
 ·intro h41;have k41 := J9 h41;(try simp only [A7] at k41);refine R5 ?_;exact H7 [1, 1, 1, 1, 1, 1, 1] 1 (nwZ w T L) [] ((w, false)) (qz36) rfl (show List.Perm (nwZ w T L) ((nwZ w T L) ++ []) from B7) qz69 (M4 rfl (A6 rfl C1))
 intro h41;have k41 := J5 h41;(try simp only [A7] at k41);refine R9 ?_;refine G0 qz113 ?_;refine AWP.le (B8 [1, 1, 1, 1, 1, 1, 1] rfl) ?_;refine J0 [(0, _), (1, _), (2, _), (10, _), (11, _), (42, _), (43, _)] [] (fun (i : Nat) (v : C9) => i ≤ W.length ∧ WF w v) (fun i v => [.box b 197 [AV.int v.Now, AV.int v.Count, AV.is X.cl, strs v.Cuts, AV.is X.gr, AV.is X.lo, AV.is X.pr, AV.is X.tx, AV.is X.lk], .arr X.cl 78 1 (v.Clocks.map S9.cs), .arr X.gr 81 3 (v.Groups.map C4.cs), .arr X.lo 97 1 (v.Locks.map fun l => [AV.list 3 (l.map G2.cs)]), .arr X.pr 3 1 (v.Promised.map fun n => [AV.int n]), .arr X.tx 102 10 (J7 B2.ocs v.Txns T), .arr X.lk 105 6 (J7 B6.ocs v.Looks L), .box b11 139 (G2.mk k t write).cs] ++ (nwZ v T L)) (fun i v => [(44, AV.int i)]) (fun i v => W.length - i) (0) (w) ?_ (K1 (by (rw [Q6]; rfl)) A8) ?_
 ·exact ⟨E2 _, WF.refl hw⟩
 intro i v hinv;refine G0 (Q6 _) ?_;refine R5 ?_;refine A3 ?_ ?_
 ·intro h45;have k45 := C5 h45;have hlt : i < W.length := (by simpa using h45);obtain ⟨y, hy⟩ := B4 hlt;have hy1 := hwm y (C2 hy);have hTv : T.length = v.Txns.length := hT.trans hinv.2.ws.txns.symm;refine R5 ?_;refine A1 rfl (D3 rfl G5 E7 (A0 rfl) (A0 rfl) hy qz2) ?_;refine R6 ?_;refine K3 [0, 0, 0, 0, 0, 0, 0] 1 7 (nwZ v T L) ([]) (fun zz => nwZ zz T L) rfl rfl rfl rfl Tryz.call277 rfl rfl (show List.Perm (nwZ v T L) ((nwZ v T L) ++ ([])) from B7) (BC2 b v X T L y hinv.2.wi hTv hy1) F0 (fun a => M0) ?_;intro x50 ok50;refine R5 ?_;refine G8 i v (i + 1) (x50) ?_ ?_ (K1 (Eq.trans C1 (Q6 _).symm) A8)
  ·exact ⟨by omega, hinv.2.trans ok50⟩
  omega
 intro h45;have k45 := B9 h45;have hv := hinv.2;have hTv : T.length = v.Txns.length := hT.trans hv.ws.txns.symm;obtain ⟨tx, htx⟩ := B4 (show (t - 1).toNat < v.Txns.length by rw [hv.ws.txns]; exact ht.2);obtain ⟨z, hz⟩ := B4 (show (t - 1).toNat < T.length by omega);obtain ⟨n, hn⟩ := B4 (show g.toNat < tx.Terms.length by rw [(hv.wi.txns.2 tx (C2 htx)).terms, hv.gr]; exact hgl);have hnl := (E9.1 hn).1;obtain ⟨lv, hlx⟩ := B4 (show g.toNat < v.Locks.length by rw [hv.wi.locks.1, hv.gr]; exact hgl);have hll := (E9.1 hlx).1;have hlvo := hv.wi.locks.2 lv (C2 hlx);have hlv60 := hlvo.1;have hx : v.Groups[g.toNat]? = some gi := (by rw [hv.gr]; exact hx);have hgl := (E9.1 hx).1;refine R9 ?_;refine C0 rfl rfl (H6 3 rfl T1 m2 (A0 rfl) rfl (A0 rfl) qz8 CA3) ?_;refine C0 rfl rfl (AF6 3 rfl (A0 rfl) rfl Tryz.isAgg97 (Bc1 (g := fun l => AV.list 3 (l.map G2.cs)) hlx)) ?_;refine R1 ?_;refine C0 rfl rfl (A5 rfl Tryz.call332 rfl (CP5 lv ⟨k, t, write⟩ qz8) F0) ?_;refine R9 ?_;refine A3 ?_ ?_
 ·intro h64;have k64 := C5 h64;refine R5 ?_;exact H7 [0, 0, 0, 0, 0, 0, 0] 1 (nwZ v T L) [] ((v, false)) (qz36) rfl (show List.Perm (nwZ v T L) ((nwZ v T L) ++ []) from B7) qz69 (M4 rfl (A6 rfl C1))
 intro h64;have k64 := B9 h64;refine R10 ?_;refine A1 rfl (H6 3 rfl T1 m2 (A0 rfl) rfl (A0 rfl) qz8 CA3) ?_;refine j7 3 rfl rfl rfl (A0 rfl) (A0 rfl) (g8 _ _) rfl m2 rfl AJ9 ?_;refine R2 ?_;refine G0 AU3 ?_;refine AWP.le (S4 8 (t := ([Go.AV.Own.arr z.1 145 3 (tx.Got.map K8.cs), Go.AV.Own.arr z.2 3 1 (tx.Terms.map fun n => [AV.int n])]) ++ (nin B2.ow (v.Txns.eraseIdx (t - 1).toNat) (T.eraseIdx (t - 1).toNat) ++ nin B6.ow v.Looks L)) (AR5 htx hz)) ?_;refine M6 21 D4 D4 rfl ?_;refine R7 ?_;refine C0 rfl rfl (H6 5 rfl M9 S6 (A0 rfl) rfl (A0 rfl) qz8 CA3) ?_;refine C0 rfl rfl (L7 5 rfl J4 rfl AV4 (A0 rfl) rfl rfl qz78) ?_;refine C0 rfl rfl (N4 5 rfl (A0 rfl) rfl Tryz.isAgg28 qz78 rfl) ?_;refine R7 ?_;refine C0 rfl rfl (H6 2 rfl G7 E0 (A0 rfl) rfl (A0 rfl) qz8 CA3) ?_;refine C0 rfl rfl (L7 2 rfl W5 rfl E7 (A0 rfl) rfl rfl qz5) ?_;refine C0 rfl rfl (N4 2 rfl (A0 rfl) rfl Q8 qz5 rfl) ?_;refine C0 rfl rfl (H6 9 rfl G5 E7 (A0 rfl) rfl (A0 rfl) qz8 CA3) ?_;refine R1 ?_;refine j7 9 rfl rfl rfl (A0 rfl) (A0 rfl) (W4 _ _) rfl E7 rfl AJ9 ?_;refine R2 ?_;refine G0 AU3 ?_;refine AWP.le (B8 [0, 0, 0, 0, 0, 0, 0, 0, 0, 0] rfl) ?_;refine AWP.le (S4 8 (t := nin B2.ow (v.Txns.set (t - 1).toNat (r8 tx g.toNat gi.Term)) T ++ nin B6.ow v.Looks L) ((by have h9 := Bw6 (w := v) (L := L) (p' := r8 tx g.toNat gi.Term) (y' := z) htx hz; rw [BN8 hz] at h9; unfold B2.ow r8 at h9 ⊢; dsimp only at h9; rw [AB0] at h9; exact h9))) ?_;refine R4 ?_;exact H7 [0, 0, 0, 0, 0, 0, 0] 1 (nin B2.ow (v.Txns.set (t - 1).toNat (r8 tx g.toNat gi.Term)) T ++ nin B6.ow v.Looks L) [] ((AH2 (Af0 v g.toNat (AH4 lv ⟨k, t, write⟩)) (t - 1).toNat (r8 tx g.toNat gi.Term), true)) (qz36) rfl (show List.Perm (nin B2.ow (v.Txns.set (t - 1).toNat (r8 tx g.toNat gi.Term)) T ++ nin B6.ow v.Looks L) ((nin B2.ow (v.Txns.set (t - 1).toNat (r8 tx g.toNat gi.Term)) T ++ nin B6.ow v.Looks L) ++ []) from B7) qz69 (M4 rfl (A6 rfl C1))
end Go.PQ
namespace Go.PQ
open Go.Proofs
open Go Go.AV Go.M
attribute [local irreducible] OpW OpA OpS AWP J6 L3 K7 OpE K2 H9 K6 Le Ev F7 M7 f8 Int.tmod IntKind.wrap T7
theorem An9 (l : List A4) (w : A4) (hl : l.length ≤ 4194303) (ha : adj N3 l = true) : E1 61 [AV.list 3 (l.map A4.cs), AV.agg w.cs] (AV.list 3 ((ins l w).map A4.cs)) := by
  rw [← BY5 ha];exact L5 (BT0 l w hl) fun v _ => K0 (Z5.2 rfl) F6
end Go.PQ
namespace Go.PQ
open Go.Proofs
open Go Go.AV Go.M
attribute [local irreducible] OpW OpA OpS AWP J6 L3 K7 OpE K2 H9 K6 Le Ev F7 M7 f8 Int.tmod Int.tdiv IntKind.wrap T7
theorem CQ5 (buf : List A4) (got : List K8) (k : Str) : E1 306 [AV.list 3 (buf.map A4.cs), AV.list 3 (got.map K8.cs), AV.str k] (AV.tup [AV.str (L2 buf got k).1, AV.bool (L2 buf got k).2.1, AV.bool (L2 buf got k).2.2]) := by
 refine B3 Tryz.func306 rfl Tryz.ntmps306 rfl ?_;refine l7 (t := 0) rfl fun hlb => ?_;try simp only [A7] at hlb
 refine l7 (t := 1) rfl fun hlg => ?_;try simp only [A7] at hlg
 refine R2 ?_;refine A1 rfl (G1 rfl (S8 (l := []) rfl)) ?_;refine R11 ?_;refine F2 [(1, _), (2, _), (13, _), (14, _)] _ (fun (i : Nat) => i ≤ buf.length ∧ buf.find? (fun w => w.Key == k) = (buf.drop i).find? (fun w => w.Key == k)) (fun i => []) (fun i => [(15, AV.int i)]) (fun i => buf.length - i) (0) ?_ (G3 A8) ?_
 ·exact ⟨E2 _, rfl⟩
 intro i hinv;refine R5 ?_;refine A3 ?_ ?_
 ·intro h16;have k16 := C5 h16;have hlt : i < buf.length := (by simpa using h16);obtain ⟨x, hx⟩ := B4 hlt;refine R5 ?_;refine A1 rfl (D3 rfl D7 H0 (A0 rfl) (A0 rfl) hx qz2) ?_;refine R2 ?_;intro b10;refine R9 ?_;refine A3 ?_ ?_
  ·intro h22;have he : L2 buf got k = (x.Val, !x.Gone, true) := (by unfold L2; rw [hinv.2, BI5 hx, D0 h22]);rw [he];refine R12 ?_;exact f7 rfl F1 BC6
  intro h22;refine R5 ?_;refine G4 i (i + 1) ?_ ?_ (S5 1 A8)
  ·exact ⟨by omega, by rw [hinv.2, BI5 hx, C6 (by rw [h22]; decide)]⟩
  omega
 intro h16;have k16 := B9 h16;have hge : buf.length ≤ i := (by simpa using h16);have hnb : buf.find? (fun w => w.Key == k) = none := BW6;refine R9 ?_;refine F2 [(2, _), (29, _), (30, _)] _ (fun (j : Nat) => j ≤ got.length ∧ got.find? (fun g => g.Key == k) = (got.drop j).find? (fun g => g.Key == k)) (fun j => []) (fun j => [(31, AV.int j)]) (fun j => got.length - j) (0) ?_ (G3 A8) ?_
 ·exact ⟨E2 _, rfl⟩
 intro j hinv;refine R5 ?_;refine A3 ?_ ?_
 ·intro h32;have k32 := C5 h32;have hlt1 : j < got.length := (by simpa using h32);obtain ⟨y, hy⟩ := B4 hlt1;refine R5 ?_;refine A1 rfl (D3 rfl P0 d9 (A0 rfl) (A0 rfl) hy qz2) ?_;refine R2 ?_;intro b12;refine R9 ?_;refine A3 ?_ ?_
  ·intro h38;have he : L2 buf got k = (y.Val, y.There, true) := (by unfold L2; rw [hnb, hinv.2, BI5 hy, D0 h38]);rw [he];refine R11 ?_;exact f7 rfl F1 BC6
  intro h38;refine R5 ?_;refine G4 j (j + 1) ?_ ?_ (S5 1 A8)
  ·exact ⟨by omega, by rw [hinv.2, BI5 hy, C6 (by rw [h38]; decide)]⟩
  omega
 intro h32;have k32 := B9 h32;have hge1 : got.length ≤ j := (by simpa using h32);have he : L2 buf got k = ([], false, false) := (by unfold L2; rw [hnb, hinv.2, k6 hge1]; rfl);rw [he];refine R3 ?_;refine A1 rfl (G1 rfl (S8 (l := []) rfl)) ?_;refine R4 ?_;exact f7 rfl F1 BC6
theorem Ce7 (o : TOp) (val : Str) (there : Bool) (hv : val.length ≤ 1048576) (hb : -1000000 ≤ o.By ∧ o.By ≤ 1000000) : E1 307 [AV.agg o.cs, AV.str val, AV.bool there] (AV.bool (AL4 o val there)) := by
 have hr := BI4 val;refine B3 Tryz.func307 rfl Tryz.ntmps307 rfl ?_;refine R3 ?_;intro b3;refine R5 ?_;refine A1 rfl (A5 rfl Tryz.call35 rfl (BL4 val hv) J3) ?_;refine R18 ?_;refine A3 ?_ ?_
 ·intro h16;have k16 := J9 h16;(try simp only [A7] at k16);have he : AL4 o val there = (if there = true then !(l5N val).2 || !within ((l5N val).1 + o.By) (-999999) 999999 else false) := (by unfold AL4; rw [D0 k16]);rw [he];refine R6 ?_;refine A3 ?_ ?_
  ·intro h19;rw [C6 (by rw [show there = false by simpa using h19]; decide)];refine R5 ?_;exact D6 rfl (A6 rfl C1)
  intro h19;rw [D0 (show there = true by simpa using h19)];refine R10 ?_;refine Q7 rfl (fun hc => A5 rfl Tryz.call24 rfl (P3 _ _ _) (A2 (A9 rfl hc) AO2)) ?_;refine R5 ?_;exact D6 rfl (A6 rfl C1)
 intro h16;have k16 := J5 h16;(try simp only [A7] at k16);refine R5 ?_;refine A3 ?_ ?_
 ·intro h30;have k30 := J9 h30;(try simp only [A7] at k30);have he : AL4 o val there = ((!there || !(l5N val).2) || decide ((l5N val).1 < o.By)) := (by unfold AL4; rw [C6 k16, D0 k30]);rw [he];refine R17 ?_;exact D6 rfl (A6 rfl C1)
 intro h30;have k30 := J5 h30;(try simp only [A7] at k30);refine R5 ?_;refine A3 ?_ ?_
 ·intro h44;have k44 := J9 h44;(try simp only [A7] at k44);have he : AL4 o val there = there := (by unfold AL4; rw [C6 k16, C6 k30, D0 k44]);rw [he];refine R6 ?_;exact D6 rfl (A6 rfl C1)
 intro h44;have k44 := J5 h44;(try simp only [A7] at k44);refine R5 ?_;refine A3 ?_ ?_
 ·intro h47;have k47 := J9 h47;(try simp only [A7] at k47);have he : AL4 o val there = (!there || (val != o.Val)) := (by unfold AL4; rw [C6 k16, C6 k30, C6 k44, D0 k47]);rw [he];refine R13 ?_;exact D6 rfl (A6 rfl C1)
 intro h47;have k47 := J5 h47;(try simp only [A7] at k47);have he : AL4 o val there = false := (by unfold AL4; rw [C6 k16, C6 k30, C6 k44, C6 k47]);rw [he];refine R6 ?_;exact D6 rfl (A6 rfl C1)
theorem Bc3 (n : Int) (h : -999999 ≤ n ∧ n ≤ 999999) : E1 308 [AV.int n] (AV.str (AO8 n)) := by
 refine B3 Tryz.func308 rfl Tryz.ntmps308 rfl ?_;refine R2 ?_;refine A1 rfl (G1 rfl (S8 (l := []) rfl)) ?_;refine R7 ?_;refine A3 ?_ ?_
 ·intro h4;have k4 := C5 h4;obtain ⟨m, hm⟩ : ∃ m : Nat, n = -(m : Int) := ⟨n.natAbs, by omega⟩;subst hm;have hdl := As5 (k := 6) (n := m) qz8 F1;have hneg : IntKind.i64.wrap (0 - -(m : Int)) = (m : Int) := by (rw [show 0 - -(m : Int) = m by omega]; exact BC7 qz8)
  rw [An6 qz8];refine R3 ?_;refine A1 rfl (w_neg rfl (A0 rfl)) ?_;rw [hneg];refine A1 rfl (A5 rfl Tryz.call329 rfl (Bv8 m qz8) J3) ?_;refine A1 rfl (w_cat rfl (S8 (l := [45]) rfl) (A0 rfl) qz184) ?_;refine R3 ?_;exact D6 rfl (A6 rfl C1)
 intro h4;have k4 := B9 h4;obtain ⟨m, hm⟩ : ∃ m : Nat, n = (m : Int) := ⟨n.toNat, by omega⟩;subst hm;rw [As6];refine R4 ?_;refine A1 rfl (A5 rfl Tryz.call329 rfl (Bv8 m qz8) J3) ?_;refine R3 ?_;exact D6 rfl (A6 rfl C1)
theorem Bk6 (l : List TOp) (v : Value) (got : List K8) (hl : l.length ≤ 1000) (ho : ∀ o ∈ l, BO6 1000 o) (hgot : ∀ g ∈ got, g.size ≤ 1000) : M1 275 [AV.list 4 (l.map TOp.cs), AV.is v] [.arr v 145 3 (got.map K8.cs)] (fun _ : Unit => True) (fun _ => [.arr v 145 3 (got.map K8.cs)]) (fun _ => AV.tup [AV.int (o8 l got).1, AV.str (o8 l got).2.1, AV.list 3 ((o8 l got).2.2.map A4.cs)]) := by
 refine C8 Tryz.func275 rfl Tryz.ntmps275 rfl ?_;refine R3 ?_;refine A1 rfl (G1 rfl (S8 (l := []) rfl)) ?_;refine A1 rfl (G1 rfl (Y5 (sz := 3))) ?_;refine R3 ?_;refine A1 rfl (G1 rfl (Y5 (sz := 3))) ?_;refine R9 ?_;refine J0 [(1, _), (15, _), (16, _)] _ (fun (i : Nat) (buf : List A4) => i ≤ l.length ∧ o8 l got = AN9 got buf (l.drop i) ∧ adj N3 buf = true ∧ (∀ w ∈ buf, w.size ≤ 1000) ∧ buf.length ≤ i) (fun i buf => []) (fun i buf => [(7, AV.list 3 (buf.map A4.cs)), (17, AV.int i)]) (fun i buf => l.length - i) (0) ([]) ?_ (G3 A8) ?_
 ·exact ⟨E2 _, rfl, rfl, fun w hw => absurd hw List.not_mem_nil, K5 _⟩
 intro i buf hinv;refine R5 ?_;refine A3 ?_ ?_
 ·intro h18;have k18 := C5 h18;have hlt : i < l.length := (by simpa using h18);obtain ⟨x, hx⟩ := B4 hlt;have hso := ho x (C2 hx);have hsv := Cm1 (k := x.Key) hinv.2.2.2.1 hgot;refine R5 ?_;refine A1 rfl (D3 rfl V7 Y2 (A0 rfl) (A0 rfl) hx qz2) ?_;refine R2 ?_;intro b9;refine R8 ?_;refine A1 rfl (l8 rfl Tryz.call306 rfl (CQ5 buf got x.Key) (AX4 (H5 (AE1 _) (H5 (U0 _) (H5 (U0 _) U5)))) (P1 (evb (A0 rfl)) (P1 (Al1 1 (A0 rfl) rfl) BC5))) ?_;refine R24 ?_;refine A3 ?_ ?_
  ·intro h41;have he : o8 l got = (1, x.Key, []) := (by rw [hinv.2.1, I8 hx]; unfold AN9; rw [D0 (show asks x (L2 buf got x.Key) = true from h41)]);rw [he];refine R6 ?_;refine C0 rfl rfl (G1 rfl (Y5 (sz := 3))) ?_;refine R2 ?_;exact I4 [1] () (trivial) rfl C1 (g9 rfl F1 BC6)
  intro h41;refine R7 ?_;refine A1 rfl (A5 rfl Tryz.call307 rfl (Ce7 x _ _ qz8 (by have h9 := hso.by'; omega)) (A2 (A0 rfl) (A2 (A0 rfl) (A2 (A0 rfl) B0)))) ?_;refine R1 ?_;refine A3 ?_ ?_
  ·intro h47;have he : o8 l got = (2, [], []) := (by rw [hinv.2.1, I8 hx]; unfold AN9; rw [C6 (show ¬ asks x (L2 buf got x.Key) = true by (unfold asks; rw [h41]; decide)), D0 h47]);rw [he];refine R3 ?_;refine A1 rfl (G1 rfl (S8 (l := []) rfl)) ?_;refine A1 rfl (G1 rfl (Y5 (sz := 3))) ?_;refine R2 ?_;exact I4 [1] () (trivial) rfl C1 (g9 rfl F1 BC6)
  intro h47;have hgv : AL4 x (L2 buf got x.Key).1 (L2 buf got x.Key).2.1 = false := h47;have hnx : o8 l got = AN9 got (AB4 x (L2 buf got x.Key).1 (L2 buf got x.Key).2.1 buf) (l.drop (i + 1)) := (by rw [hinv.2.1, I8 hx]; conv => lhs; unfold AN9; rw [C6 (show ¬ asks x (L2 buf got x.Key) = true by (unfold asks; rw [h41]; decide)), C6 (by rw [hgv]; decide)]);refine R12 ?_;refine A3 ?_ ?_
  ·intro h50;have k50 := J9 h50;(try simp only [A7] at k50);have hop : AB4 x (L2 buf got x.Key).1 (L2 buf got x.Key).2.1 buf = ins buf ⟨x.Key, x.Val, false⟩ := (by unfold AB4; rw [D0 k50]);refine R7 ?_;refine A1 rfl (A5 rfl Tryz.call61 rfl (An9 buf ⟨x.Key, x.Val, false⟩ qz8 hinv.2.2.1) F0) ?_;refine R6 ?_;refine G8 i buf (i + 1) (AB4 x (L2 buf got x.Key).1 (L2 buf got x.Key).2.1 buf) ?_ ?_ (S5 1 ⟨(by rw [hop]; rfl), rfl, rfl, rfl, rfl, trivial⟩)
   ·exact ⟨by omega, hnx, Al7 hinv.2.2.1, Al9 hso.size F1 hso.by' (.inl hso.key) hgv hinv.2.2.2.1, by have h9 := Al8 (o := x) (v := (L2 buf got x.Key).1) (t := (L2 buf got x.Key).2.1) (buf := buf); omega⟩
   omega
  intro h50;have k50 := J5 h50;(try simp only [A7] at k50);refine R5 ?_;refine A3 ?_ ?_
  ·intro h59;have k59 := J9 h59;(try simp only [A7] at k59);have hop : AB4 x (L2 buf got x.Key).1 (L2 buf got x.Key).2.1 buf = ins buf ⟨x.Key, [], true⟩ := (by unfold AB4; rw [C6 k50, D0 k59]);refine R5 ?_;refine A1 rfl (A5 rfl Tryz.call61 rfl (An9 buf ⟨x.Key, [], true⟩ qz8 hinv.2.2.1) F0) ?_;refine R6 ?_;refine G8 i buf (i + 1) (AB4 x (L2 buf got x.Key).1 (L2 buf got x.Key).2.1 buf) ?_ ?_ (S5 1 ⟨(by rw [hop]; rfl), rfl, rfl, rfl, rfl, trivial⟩)
   ·exact ⟨by omega, hnx, Al7 hinv.2.2.1, Al9 hso.size F1 hso.by' (.inl hso.key) hgv hinv.2.2.2.1, by have h9 := Al8 (o := x) (v := (L2 buf got x.Key).1) (t := (L2 buf got x.Key).2.1) (buf := buf); omega⟩
   omega
  intro h59;have k59 := J5 h59;(try simp only [A7] at k59);refine R5 ?_;refine A3 ?_ ?_
  ·intro h66;have k66 := J9 h66;(try simp only [A7] at k66);have har := Bu5 k66 hso.by' hgv;refine R3 ?_;refine A1 rfl (A5 rfl Tryz.call35 rfl (BL4 _ qz8) (A2 (A0 rfl) B0)) ?_;refine R12 ?_;refine A3 ?_ ?_
   ·intro h74;have hth : (L2 buf got x.Key).2.1 = false := (by simpa using h74);have hadd : Bd8 x (L2 buf got x.Key).1 (L2 buf got x.Key).2.1 = 0 + x.By := (by unfold Bd8; rw [hth]; rfl);rw [hadd] at har;have hop : AB4 x (L2 buf got x.Key).1 (L2 buf got x.Key).2.1 buf = ins buf ⟨x.Key, AO8 (0 + x.By), false⟩ := (by unfold AB4; rw [C6 k50, C6 k59, D0 k66, hadd]);refine R11 ?_;refine C0 rfl rfl (A5 rfl Tryz.call308 rfl (Bc3 _ qz8) (A2 (A0 rfl) B0)) ?_;refine R1 ?_;refine C0 rfl rfl (A5 rfl Tryz.call61 rfl (An9 buf ⟨x.Key, AO8 _, false⟩ qz8 hinv.2.2.1) F0) ?_;refine R6 ?_;refine G8 i buf (i + 1) (AB4 x (L2 buf got x.Key).1 (L2 buf got x.Key).2.1 buf) ?_ ?_ (S5 1 ⟨(by rw [hop]; rfl), rfl, rfl, rfl, rfl, trivial⟩)
    ·exact ⟨by omega, hnx, Al7 hinv.2.2.1, Al9 hso.size F1 hso.by' (.inl hso.key) hgv hinv.2.2.2.1, by have h9 := Al8 (o := x) (v := (L2 buf got x.Key).1) (t := (L2 buf got x.Key).2.1) (buf := buf); omega⟩
    omega
   intro h74;have hth : (L2 buf got x.Key).2.1 = true := (by simpa using h74);have hadd : Bd8 x (L2 buf got x.Key).1 (L2 buf got x.Key).2.1 = (l5N (L2 buf got x.Key).1).1 + x.By := (by unfold Bd8; rw [hth]; rfl);rw [hadd] at har;have hop : AB4 x (L2 buf got x.Key).1 (L2 buf got x.Key).2.1 buf = ins buf ⟨x.Key, AO8 ((l5N (L2 buf got x.Key).1).1 + x.By), false⟩ := (by unfold AB4; rw [C6 k50, C6 k59, D0 k66, hadd]);refine R9 ?_;refine C0 rfl rfl (A5 rfl Tryz.call308 rfl (Bc3 _ qz8) (A2 (A0 rfl) B0)) ?_;refine R1 ?_;refine C0 rfl rfl (A5 rfl Tryz.call61 rfl (An9 buf ⟨x.Key, AO8 _, false⟩ qz8 hinv.2.2.1) F0) ?_;refine R6 ?_;refine G8 i buf (i + 1) (AB4 x (L2 buf got x.Key).1 (L2 buf got x.Key).2.1 buf) ?_ ?_ (S5 1 ⟨(by rw [hop]; rfl), rfl, rfl, rfl, rfl, trivial⟩)
   ·exact ⟨by omega, hnx, Al7 hinv.2.2.1, Al9 hso.size F1 hso.by' (.inl hso.key) hgv hinv.2.2.2.1, by have h9 := Al8 (o := x) (v := (L2 buf got x.Key).1) (t := (L2 buf got x.Key).2.1) (buf := buf); omega⟩
   omega
  intro h66;have k66 := J5 h66;(try simp only [A7] at k66);have hop : AB4 x (L2 buf got x.Key).1 (L2 buf got x.Key).2.1 buf = buf := (by unfold AB4; rw [C6 k50, C6 k59, C6 k66]);refine R5 ?_;refine G8 i buf (i + 1) (AB4 x (L2 buf got x.Key).1 (L2 buf got x.Key).2.1 buf) ?_ ?_ (S5 1 ⟨(by rw [hop]; rfl), rfl, rfl, rfl, rfl, trivial⟩)
  ·exact ⟨by omega, hnx, Al7 hinv.2.2.1, Al9 hso.size F1 hso.by' (.inl hso.key) hgv hinv.2.2.2.1, by have h9 := Al8 (o := x) (v := (L2 buf got x.Key).1) (t := (L2 buf got x.Key).2.1) (buf := buf); omega⟩
  omega
 intro h18;have k18 := B9 h18;have hge : l.length ≤ i := (by simpa using h18);have he : o8 l got = (3, [], buf) := (by rw [hinv.2.1, k6 hge]; rfl);rw [he];refine R5 ?_;refine A1 rfl (G1 rfl (S8 (l := []) rfl)) ?_;refine R3 ?_;exact I4 [0] () (trivial) rfl C1 (g9 rfl F1 BC6)
end Go.PQ
namespace Go.PQ
open Go.Proofs
open Go Go.AV Go.M
attribute [local irreducible] OpW OpA OpS AWP J6 L3 K7 OpE K2 H9 K6 Le Ev F7 M7 f8 Int.tmod IntKind.wrap T7
structure DealB (d : BI7) : Prop where
  cuts : ∀ k ∈ d.Cuts, k.length ≤ 4611686018427387904
  clen : d.Cuts.length ≤ 1000000
  slen : d.States.length ≤ 10
  olen : d.Orders.length ≤ 1000000
  states : ∀ s ∈ d.States, s.size ≤ 100000
  orders : ∀ o ∈ d.Orders, o.size ≤ 300000
end Go.PQ
namespace Go.PQ
open Go.Proofs
open Go Go.AV Go.M
attribute [local irreducible] OpW OpA OpS AWP J6 L3 K7 OpE K2 H9 K6 Le Ev F7 M7 f8 Int.tmod IntKind.wrap T7
end Go.PQ
namespace Go.PQ
open Go.Proofs
open Go Go.AV Go.M
attribute [local irreducible] OpW OpA OpS AWP J6 L3 K7 OpE K2 H9 K6 Le Ev F7 M7 f8 Int.tmod IntKind.wrap T7
end Go.PQ
namespace Go.PQ
open Go.Proofs
open Go Go.AV Go.M
attribute [local irreducible] OpW OpA OpS AWP J6 L3 K7 OpE K2 H9 K6 Le Ev F7 M7 f8 Int.tmod IntKind.wrap T7
end Go.PQ
namespace Go.PQ
open Go.Proofs
open Go Go.AV Go.M
attribute [local irreducible] OpW OpA OpS AWP J6 L3 K7 OpE K2 H9 K6 Le Ev F7 M7 f8 Int.tmod IntKind.wrap T7
theorem w_natc {P : Program} {G : Nat → Prop} {n : Nat} {own : List Go.AV.Own} {o : Oper} {E : N7} {a : Int} (b : Nat) (h : OpW P G n own o E (AV.int a)) (e : a = (b : Int)) : OpW P G n own o E (AV.int (b : Int)) := e ▸ h
end Go.PQ
namespace Go.PQ
open Go.Proofs
open Go Go.AV Go.M
structure DV (d : BI7) : Prop where
  clen : d.Cuts.length ≤ 2
  ckey : ∀ k ∈ d.Cuts, k.length ≤ 64
  slen : d.States.length = d.Cuts.length + 1
  st : ∀ s ∈ d.States, s.size ≤ 15000
  os : ∀ o ∈ d.Orders, orderR o = true ∧ o.size ≤ 1000
  olen : d.Orders.length ≤ 4
attribute [local irreducible] OpW OpA OpS AWP J6 L3 K7 OpE K2 H9 K6 Le Ev F7 M7 f8 Int.tmod IntKind.wrap T7
theorem Cx7 (cuts rs : List Str) (ws : List A4) (part : Int) (hr : rs.length ≤ 1000000) (hw : ws.length ≤ 1000000) : M1 333 [strs cuts, strs rs, AV.list 3 (ws.map A4.cs), AV.int part] [] (fun _ : Value × Value => True) (fun v => [.arr v.1 9 1 ((rs.filter (inS cuts part)).map fun t => [AV.str t]), .arr v.2 67 3 ((ws.filter fun w => inS cuts part w.Key).map A4.cs)]) (fun v => AV.tup [AV.is v.1, AV.is v.2]) := by
 have hrl : ∀ i, ((rs.take i).filter (inS cuts part)).length ≤ 1000000 := fun i => L8 (List.length_filter_le _ _) Ay7;have hwl : ∀ i, ((ws.take i).filter fun w => inS cuts part w.Key).length ≤ 1000000 := fun i => L8 (List.length_filter_le _ _) Ay7;refine C8 Tryz.func333 rfl Tryz.ntmps333 rfl ?_;refine R2 ?_;refine A1 rfl (G1 rfl I9) ?_;refine A1 rfl (G1 rfl I9) ?_;refine R3 ?_;refine c7 9 1 rfl rfl rfl rfl I9 ?_;intro v10;refine R3 ?_;refine c7 67 3 rfl rfl rfl rfl I9 ?_;intro v11;refine R9 ?_;refine AWP.le (B8 [1, 0] rfl) ?_;refine J0 [(0, _), (2, _), (3, _), (8, _), (9, _), (11, _), (16, _), (17, _)] _ (fun (i : Nat) (v : Value) => i ≤ rs.length) (fun i v => [.arr v 9 1 (((rs.take i).filter (inS cuts part)).map fun t => [AV.str t]), .arr v11 67 3 []]) (fun i v => [(10, AV.is v), (18, AV.int i)]) (fun i v => rs.length - i) (0) (v10) ?_ (K1 C1 A8) ?_
 ·exact E2 _
 intro i v hinv;refine R5 ?_;refine A3 ?_ ?_
 ·intro h19;have k19 := C5 h19;have hlt : i < rs.length := by (simpa using h19)
  obtain ⟨x, hx⟩ := B4 hlt;have hri := hrl i;refine R5 ?_;refine A1 rfl (D3 rfl E3 I2 (A0 rfl) (A0 rfl) hx qz2) ?_;refine R7 ?_;refine A1 rfl (A5 rfl Tryz.call233 rfl (Ae2 _ _) F0) ?_;refine R3 ?_;refine A3 ?_ ?_
  ·intro h26;refine R4 ?_;refine H4 (by' := 16) 0 rfl rfl rfl rfl E3 Tryz.type9 rfl rfl rfl rfl rfl rfl (A0 rfl) (A0 rfl) rfl qz2 ?_;intro v30_1;refine R6 ?_;refine G8 i v (i + 1) (v30_1) ?_ ?_ (Le.trans (B8 [0, 0] rfl) (K1 qz111 A8))
   ·exact qz8
   omega
  intro h26;refine R5 ?_;refine G8 i v (i + 1) (v) ?_ ?_ (Le.trans (B8 [0, 0] rfl) (K1 qz111 A8))
  ·exact qz8
  omega
 intro h19;have k19 := B9 h19;have hge : rs.length ≤ i := by (simpa using h19)
 rw [P8 hge];refine R9 ?_;refine AWP.le (B8 [1, 0] rfl) ?_;refine J0 [(0, _), (3, _), (8, _), (9, _), (10, _), (32, _), (33, _)] _ (fun (j : Nat) (u : Value) => j ≤ ws.length) (fun j u => [.arr u 67 3 (((ws.take j).filter fun w => inS cuts part w.Key).map A4.cs), .arr v 9 1 ((rs.filter (inS cuts part)).map fun t => [AV.str t])]) (fun j u => [(11, AV.is u), (34, AV.int j)]) (fun j u => ws.length - j) (0) (v11) ?_ (K1 C1 A8) ?_
 ·exact E2 _
 intro j u hinv;refine R5 ?_;refine A3 ?_ ?_
 ·intro h35;have k35 := C5 h35;have hltj : j < ws.length := by (simpa using h35)
  obtain ⟨y, hy⟩ := B4 hltj;have hwj := hwl j;refine R5 ?_;refine A1 rfl (D3 rfl D7 H0 (A0 rfl) (A0 rfl) hy qz2) ?_;refine R2 ?_;intro b15;refine R7 ?_;refine A1 rfl (A5 rfl Tryz.call233 rfl (Ae2 _ _) F0) ?_;refine R3 ?_;refine A3 ?_ ?_
  ·intro h43;refine R4 ?_;refine H4 (by' := 40) 1 rfl rfl rfl rfl D7 Tryz.type67 rfl rfl rfl rfl rfl rfl (A0 rfl) (A0 rfl) rfl qz2 ?_;intro v47_2;refine R6 ?_;refine G8 j u (j + 1) (v47_2) ?_ ?_ (Le.trans (B8 [0, 0, 0] rfl) (E5 1 qz108 A8))
   ·exact qz8
   omega
  intro h43;refine R5 ?_;refine G8 j u (j + 1) (u) ?_ ?_ (Le.trans (B8 [0, 0, 0] rfl) (E5 1 qz108 A8))
  ·exact qz8
  omega
 intro h35;have k35 := B9 h35;have hgej : ws.length ≤ j := by (simpa using h35)
 rw [P8 hgej];refine R9 ?_;exact I4 [1, 0] (v, u) (trivial) rfl C1 AA6
theorem Cx8 (cuts rs : List Str) (ws : List A4) (part : Int) (hr : rs.length ≤ 1000000) (hw : ws.length ≤ 1000000) : E1 333 [strs cuts, strs rs, AV.list 3 (ws.map A4.cs), AV.int part] (AV.tup [strs (rs.filter (inS cuts part)), AV.list 3 ((ws.filter fun w => inS cuts part w.Key).map A4.cs)]) :=
  L5 (Cx7 cuts rs ws part hr hw) fun v _ => AK9 (D5 (K0 (C2 (i := 0) rfl) F6) (D5 (K0 (C2 (i := 1) rfl) F6) d5))
end Go.PQ
namespace Go.PQ
open Go.Proofs
open Go Go.AV Go.M
attribute [local irreducible] OpW OpA OpS AWP J6 L3 K7 OpE K2 H9 K6 Le Ev F7 M7 f8 Int.tmod Int.tdiv IntKind.wrap T7
theorem CM9 (cuts : List Str) (t : B2) (y : Value × Value) (hb : SetB t) : M1 303 [strs cuts, AV.agg (B2.ocs t y)] (B2.ow t y) (fun _ : Unit => True) (fun _ => B2.ow t y) (fun _ => AV.tup [strs (u3 t.Got), AV.list 3 ((o8 t.Ops t.Got).2.2.map A4.cs), ints (AY8 cuts t), AV.bool (BF2 t)]) := by
 have hgl := hb.got.1;have hrl := Bw3 t.Got;have hst := ran (got := t.Got) (n := 1000) F1 hb.ops;have hwl : (o8 t.Ops t.Got).2.2.length ≤ 1000 := L8 hst.len (by have := hb.len; omega);obtain ⟨S, hS⟩ : ∃ S, o8 t.Ops t.Got = S := ⟨_, rfl⟩;have hstep := Bk6 t.Ops y.1 t.Got hb.len hb.ops hb.got.2;have hbq : BF2 t = ((o8 t.Ops t.Got).1 == 3 && decide (0 < ((((u3 t.Got).map fun t => [AV.str t]).length : Nat) : Int) + ((((o8 t.Ops t.Got).2.2.map A4.cs).length : Nat) : Int))) := by unfold BF2; simp only [A7]
 rw [hbq];unfold AY8;rw [hS] at hstep hwl ⊢;have hkl := BY8 (u3 t.Got ++ Q3 S.2.2);rw [H3, show (Q3 S.2.2).length = S.2.2.length from A7 ..] at hkl;refine C8 Tryz.func303 rfl Tryz.ntmps303 rfl ?_;refine R3 ?_;intro b3;refine A1 rfl (G1 rfl I9) ?_;refine A1 rfl (G1 rfl I9) ?_;refine A1 rfl (G1 rfl I9) ?_;refine R8 ?_;refine F8 [1] rfl rfl rfl rfl Tryz.call275 rfl (hstep) F0 rfl ?_;intro x19 ok19;refine R10 ?_;refine c7 9 1 rfl rfl rfl rfl I9 ?_;intro v11;refine R10 ?_;refine AWP.le (B8 [0, 0] rfl) ?_;refine J0 [(0, _), (4, _), (5, _), (6, _), (7, _), (8, _), (10, _), (24, _), (25, _)] _ (fun (i : Nat) (v : Value) => i ≤ t.Got.length) (fun i v => [.arr v 9 1 ((u3 (t.Got.take i)).map fun t => [AV.str t]), .arr y.1 145 3 (t.Got.map K8.cs)]) (fun i v => [(11, AV.is v), (26, AV.int i)]) (fun i v => t.Got.length - i) (0) (v11) ?_ (K1 C1 A8) ?_
 ·exact E2 _
 intro i v hinv;refine R5 ?_;refine A3 ?_ ?_
 ·intro h27;have k27 := C5 h27;have hlt : i < t.Got.length := (by simpa using h27);obtain ⟨g, hg⟩ := B4 hlt;have hrs := Cx4 (t.Got.take i);have hrn := Bw3 (t.Got.take i);rw [F4] at hrn;refine R5 ?_;refine A1 rfl (H6 1 rfl P0 d9 (A0 rfl) rfl (A0 rfl) qz8 AB7) ?_;refine A1 rfl (n6 1 rfl (A0 rfl) rfl Tryz.isAgg145 d9 qz87 F1) ?_;refine R1 ?_;intro b13;refine R6 ?_;refine F8 [1] rfl rfl rfl rfl Tryz.call155 rfl (Ag6 v (u3 (t.Got.take i)) g.Key hrs qz8) F0 rfl ?_;intro x33 ok33;refine R6 ?_;refine G8 i v (i + 1) (x33) ?_ ?_ (Le.trans (B8 [1, 0, 0] rfl) (E5 1 (by (rw [Cx5 hg]; rfl)) A8))
  ·exact qz8
  omega
 intro h27;have k27 := B9 h27;have hge : t.Got.length ≤ i := (by simpa using h27);rw [P8 hge];refine R2 ?_;refine AWP.le (AK1 [0] 11 rfl rfl (K0 (C2 (i := 0) rfl) F6) (s7 0 rfl rfl (s7 2 rfl rfl U2))) ?_;refine R6 ?_;refine A1 rfl (A5 rfl Tryz.call325 rfl (CP7 (u3 t.Got) S.2.2 qz8 qz8) F0) ?_;refine A1 rfl (A5 rfl Tryz.call324 rfl (CP8 cuts _ qz8) (A2 (A0 rfl) (A2 (A0 rfl) B0))) ?_;refine R16 ?_;exact I4 [0, 1] () (trivial) rfl C1 (g9 rfl F1 (I3 (A6 rfl C1) BC6))
end Go.PQ
namespace Go.PQ
open Go.Proofs
open Go Go.AV Go.M
attribute [local irreducible] OpW OpA OpS AWP J6 L3 K7 OpE K2 H9 K6 Le Ev F7 M7 f8 Int.tmod Int.tdiv IntKind.wrap T7
theorem Cx9 (b : Nat) (w : C9) (X : WX) (T : List (Value × Value)) (L : List Value) (t : Int) (told : N1) (lead : Int) (gi : C4) (hw : WI w) (hq : ∀ tx, w.Txns[(t - 1).toNat]? = some tx → 0 ≤ tx.Begin ∧ tx.Begin < w.Count) (hT : T.length = w.Txns.length) (ht : 1 ≤ t ∧ (t - 1).toNat < w.Txns.length) (h0 : 0 ≤ lead) (hx : w.Groups[lead.toNat]? = some gi) (hl : 0 ≤ gi.Lead) : M1 326 [AV.ptr b 0, AV.int t, AV.agg told.cs, AV.int lead] (WB b w X T L) (fun v : C9 × Bool => WF w v.1) (fun v => WB b v.1 X T L) (fun v => AV.bool v.2) := by
 have htn := hw.txns.1;obtain ⟨c, hc, hcg, hl3, hg2, hnow, hsl, hsh⟩ := BU1 hw h0 hx hl;obtain ⟨tx, htx⟩ := B4 ht.2;obtain ⟨y, hy⟩ := B4 (show (t - 1).toNat < T.length by omega);have hls := Ay0 b w X T L lead gi c hx qz8 qz8 hc hcg hnow;have hwf := wf_fin hw htx (hq tx htx) told;obtain ⟨W', hW⟩ : ∃ W', AH2 w (t - 1).toNat (Bz8 tx told w.Count) = W' := ⟨_, rfl⟩;rw [hW] at hwf;have hfr := BU0 b W' X T L t hwf.wi;refine C8 Tryz.func326 rfl Tryz.ntmps326 rfl ?_;refine R3 ?_;intro b6;refine R11 ?_;refine A1 rfl (H6 6 rfl M9 S6 (A0 rfl) rfl (A0 rfl) qz8 (by rw [W8 hT]; omega)) ?_;refine R12 ?_;refine Q4 rfl (V1 rfl rfl rfl) (fun hc => m9 [1, 1, 1, 1, 1, 1, 1] 1 (nwZ w T L) ([]) rfl Tryz.call328 rfl rfl (B7) (hls) (A2 (A9 rfl hc) (A2 (A9 rfl hc) B0))) ?_;refine Q4 rfl (V1 rfl rfl rfl) (fun hc => BL8 rfl Tryz.underlying228 rfl Q8 (A9 rfl hc) rfl) ?_;refine R3 ?_;refine A3 ?_ ?_
 ·intro h28;refine R5 ?_;exact H7 [1, 1, 1, 1, 1, 1, 1] 1 (nwZ w T L) [] ((w, false)) ((by first | exact WF.refl hw | exact hwf.trans (Av0 hwf.wi ok49))) rfl (show List.Perm (nwZ w T L) ((nwZ w T L) ++ []) from B7) C1 O6
 intro h28;refine R6 ?_;refine A1 rfl (Z3 6 rfl (A0 rfl) rfl qz1 rfl) ?_;refine A1 rfl (L7 6 rfl J4 rfl V0 (A0 rfl) rfl rfl qz1) ?_;refine g6 6 rfl rfl rfl (A0 rfl) (A0 rfl) (Af8 _) rfl V0 qz1 rfl ?_;refine R6 ?_;refine A1 rfl (Z3 6 rfl (A0 rfl) rfl qz1 rfl) ?_;refine A1 rfl (L7 6 rfl J4 rfl E7 (A0 rfl) rfl rfl qz1) ?_;refine g6 6 rfl rfl rfl (A0 rfl) (A0 rfl) (W4 _ _) rfl E7 qz1 rfl ?_;refine R9 ?_;refine A1 rfl (Z3 6 rfl (A0 rfl) rfl qz1 rfl) ?_;refine A1 rfl (L7 6 rfl J4 rfl E7 (A0 rfl) rfl rfl qz1) ?_;refine g6 6 rfl rfl rfl (A0 rfl) (A0 rfl) (W4 _ _) rfl E7 qz1 rfl ?_;refine R2 ?_;refine G0 (show _ = Go.AV.Own.box b6 244 told.cs :: WB b W' X T L from (by rw [← hW]; unfold WB AH2; dsimp only; simp only [BU5]; rw [AM0 htx hy, Ae3 (p' := Bz8 tx told w.Count) htx (fun _ => rfl)]; rfl)) ?_;refine R3 ?_;refine K3 [1, 1, 1, 1, 1, 1, 1] 1 7 (nin B2.ow W'.Txns T ++ nin B6.ow W'.Looks L) ([]) (fun zz => nin B2.ow W'.Txns T ++ nin B6.ow W'.Looks L) rfl rfl rfl rfl Tryz.call231 rfl rfl (show List.Perm (nin B2.ow W'.Txns T ++ nin B6.ow W'.Looks L) ((nin B2.ow W'.Txns T ++ nin B6.ow W'.Looks L) ++ ([])) from B7) (hfr) F0 (fun a => M0) ?_;intro x49 ok49;refine R6 ?_;exact H7 [0, 0, 0, 0, 0, 0, 0] 1 (nin B2.ow W'.Txns T ++ nin B6.ow W'.Looks L) [] ((AS3 W' x49, true)) ((by first | exact WF.refl hw | exact hwf.trans (Av0 hwf.wi ok49))) rfl (show List.Perm (nin B2.ow W'.Txns T ++ nin B6.ow W'.Looks L) ((nin B2.ow W'.Txns T ++ nin B6.ow W'.Looks L) ++ []) from B7) C1 O6
theorem Ce8 (b : Nat) (w : C9) (X : WX) (T : List (Value × Value)) (L : List Value) (t lead : Int) (gi : C4) (hw : WI w) (hq : ∀ tx, w.Txns[(t - 1).toNat]? = some tx → 0 ≤ tx.Begin ∧ tx.Begin < w.Count) (hT : T.length = w.Txns.length) (ht : 1 ≤ t ∧ (t - 1).toNat < w.Txns.length) (h0 : 0 ≤ lead) (hx : w.Groups[lead.toNat]? = some gi) : M1 304 [AV.ptr b 0, AV.int t, AV.int lead] (WB b w X T L) (fun v : C9 × Bool × Bool => WF w v.1) (fun v => WB b v.1 X T L) (fun v => AV.tup [AV.bool v.2.1, AV.bool v.2.2]) := by
 have hgi := hw.groups gi (C2 hx);have hng := hw.n;have hgl := (E9.1 hx).1;refine C8 Tryz.func304 rfl Tryz.ntmps304 rfl ?_;refine R14 ?_;refine A1 rfl (H6 2 rfl G7 E0 (A0 rfl) rfl (A0 rfl) qz8 AB7) ?_;refine A1 rfl (n6 2 rfl (A0 rfl) rfl O4 E0 qz5 F1) ?_;refine A1 rfl (A5 rfl Tryz.call234 rfl (AH1 gi hgi.good) J3) ?_;refine R2 ?_;refine A3 ?_ ?_
 ·intro h19;refine R6 ?_;exact H7 [0, 0, 0, 0, 0, 0, 0] 0 (nwZ w T L) [] ((w, false, false)) ((by first | exact WF.refl hw | exact ok34)) rfl (show List.Perm (nwZ w T L) ((nwZ w T L) ++ []) from B7) C1 AA6
 intro h19;have hrd : AO1 gi = true := (by simpa using h19);have hl := AI1 hrd;have hgs := Aj5 hgi.good hl;have htl := hgs.tlen;refine R5 ?_;refine A1 rfl (m9 [0, 0, 0, 0, 0, 0, 0] 0 (nwZ w T L) ([]) rfl Tryz.call236 rfl rfl (B7) (Am1 b w X T L lead gi hx h0 hgi.good hl) F0) ?_;refine R1 ?_;refine A1 rfl (A5 rfl Tryz.call204 rfl (AN5 (e6 gi) t qz8) F0) ?_;refine R4 ?_;intro b8;refine R9 ?_;refine A3 ?_ ?_
 ·intro h29;refine R6 ?_;exact H7 [1, 1, 1, 1, 1, 1, 1] 1 (nwZ w T L) [] ((w, false, false)) ((by first | exact WF.refl hw | exact ok34)) rfl (show List.Perm (nwZ w T L) ((nwZ w T L) ++ []) from B7) C1 AA6
 intro h29;refine R7 ?_;refine K3 [1, 1, 1, 1, 1, 1, 1] 1 7 (nwZ w T L) ([]) (fun zz => nwZ zz.1 T L) rfl rfl rfl rfl Tryz.call326 rfl rfl (show List.Perm (nwZ w T L) ((nwZ w T L) ++ ([])) from B7) (Cx9 b w X T L t _ lead gi hw hq hT ht h0 hx hl) (A2 (A0 rfl) AA5) (fun a => M0) ?_;intro x34 ok34;refine R4 ?_;exact H7 [0, 0, 0, 0, 0, 0, 0] 1 (nwZ x34.1 T L) [] ((x34.1, x34.2, true)) ((by first | exact WF.refl hw | exact ok34)) rfl (show List.Perm (nwZ x34.1 T L) ((nwZ x34.1 T L) ++ []) from B7) C1 AA6
theorem Cy0 (b : Nat) (w : C9) (X : WX) (T : List (Value × Value)) (L : List Value) (t lead : Int) (yes : Bool) (times : List Int) (gi : C4) (hw : WI w) (h0 : 0 ≤ lead) (hx : w.Groups[lead.toNat]? = some gi) : M1 305 [AV.ptr b 0, AV.int t, AV.int lead, AV.bool yes, ints times] (WB b w X T L) (fun v : C4 × Bool => WG v.1) (fun v => WB b (d3 w lead.toNat v.1) X T L) (fun v => AV.bool v.2) := by
 have hgi := hw.groups gi (C2 hx);have hng := hw.n;have hgl := (E9.1 hx).1;refine C8 Tryz.func305 rfl Tryz.ntmps305 rfl ?_;refine R13 ?_;refine A1 rfl (H6 2 rfl G7 E0 (A0 rfl) rfl (A0 rfl) qz8 AB7) ?_;refine A1 rfl (n6 2 rfl (A0 rfl) rfl O4 E0 qz5 F1) ?_;refine A1 rfl (A5 rfl Tryz.call234 rfl (AH1 gi hgi.good) J3) ?_;refine R2 ?_;refine A3 ?_ ?_
 ·intro h23;refine R5 ?_;exact H7 [0, 0, 0, 0, 0, 0, 0] 0 (nwZ w T L) [] ((gi, false)) (BW7) rfl (show List.Perm (nwZ w T L) ((nwZ w T L) ++ []) from B7) BW9 O6
 intro h23;have hrd : AO1 gi = true := Be3;have hl := AI1 hrd;have hgs := AK5 hgi.good hl;have htl := hgs.tlen;obtain ⟨c, hc, hcg, hl3, hg2, hnow, hsl, hsh⟩ := BU1 hw h0 hx hl;refine R6 ?_;refine A1 rfl (m9 [0, 0, 0, 0, 0, 0, 0] 0 (nwZ w T L) ([]) rfl Tryz.call182 rfl rfl (B7) (AX0 b w X T L lead gi hx h0 hgi.good hl) F0) ?_;refine R1 ?_;refine A1 rfl (A5 rfl Tryz.call204 rfl (AN5 (X7 gi) t qz8) F0) ?_;refine R4 ?_;intro b11;refine R7 ?_;refine A3 ?_ ?_
 ·intro h32;refine R4 ?_;refine K3 [1, 1, 1, 1, 1, 1, 1] 1 7 (nwZ w T L) ([]) (fun zz => nwZ w T L) rfl rfl rfl rfl Tryz.call189 rfl rfl (show List.Perm (nwZ w T L) ((nwZ w T L) ++ ([])) from B7) (Ag7 b w X T L lead gi hx h0 hgi) F0 (fun a => M0) ?_;intro x35 ok35;refine R6 ?_;exact H7 [0, 0, 0, 0, 0, 0, 0] 1 (nwZ w T L) [] ((x35, true)) (BW7) rfl (show List.Perm (nwZ w T L) ((nwZ w T L) ++ []) from B7) BW9 O6
 intro h32;refine R6 ?_;intro b13;refine R7 ?_;refine A3 ?_ ?_
 ·intro h38;have hput := Ag8 b w X T L lead ⟨2, t, Af2 ((AF0 c w.Now).High + 1) times, 0, [], [], true⟩ gi hx h0 hgi (show (0 : Nat) ≤ 1000 from by decide) (fun w9 hw9 => by cases hw9);refine R9 ?_;refine A1 rfl (m9 [2, 2, 2, 2, 2, 2, 2] 2 (nwZ w T L) ([]) rfl Tryz.call328 rfl rfl (B7) (Ay0 b w X T L lead gi c hx qz8 qz8 hc hcg hnow) F0) ?_;refine A1 rfl (A5 rfl Tryz.call327 rfl (CE4 times (AF0 c w.Now) ⟨hsh, hsl⟩) F0) ?_;refine R8 ?_;refine K3 [2, 2, 2, 2, 2, 2, 2] 2 7 (nwZ w T L) ([]) (fun zz => nwZ w T L) rfl rfl rfl rfl Tryz.call180 rfl rfl (show List.Perm (nwZ w T L) ((nwZ w T L) ++ ([])) from B7) (hput) (A2 (A0 rfl) (A2 (A0 rfl) (A2 (AQ2 (A0 rfl) Am2) B0))) (fun a => M0) ?_;intro x49 ok49;refine R3 ?_;exact H7 [0, 0, 0, 0, 0, 0, 0] 2 (nwZ w T L) [] ((x49.1, x49.2)) (BW7) rfl (show List.Perm (nwZ w T L) ((nwZ w T L) ++ []) from B7) BW9 O6
 intro h38;have hput := Ag8 b w X T L lead ⟨2, t, 0, 0, [], [], false⟩ gi hx h0 hgi (show (0 : Nat) ≤ 1000 from by decide) (fun w9 hw9 => by cases hw9);refine R6 ?_;refine K3 [2, 2, 2, 2, 2, 2, 2] 2 7 (nwZ w T L) ([]) (fun zz => nwZ w T L) rfl rfl rfl rfl Tryz.call180 rfl rfl (show List.Perm (nwZ w T L) ((nwZ w T L) ++ ([])) from B7) (hput) (A2 (A0 rfl) (A2 (A0 rfl) (A2 (AQ2 (A0 rfl) Am2) B0))) (fun a => M0) ?_;intro x49 ok49;refine R3 ?_;exact H7 [0, 0, 0, 0, 0, 0, 0] 2 (nwZ w T L) [] ((x49.1, x49.2)) (BW7) rfl (show List.Perm (nwZ w T L) ((nwZ w T L) ++ []) from B7) BW9 O6
end Go.PQ
namespace Go.PQ
open Go.Proofs
open Go Go.AV Go.M
attribute [local irreducible] OpW OpA OpS AWP J6 L3 K7 OpE K2 H9 K6 Le Ev F7 M7 f8 Int.tmod Int.tdiv IntKind.wrap T7
theorem As9 {α : Type} {a b c : List α} (e : a = b) (h : b.Perm c) : a.Perm c := e ▸ h
theorem read_own (b : Nat) (w : C9) (X : WX) (T : List (Value × Value)) (L : List Value) (t : Int) (k : Str) (hw : WI w) (hT : T.length = w.Txns.length) (ht : 1 ≤ t ∧ (t - 1).toNat < w.Txns.length) (hk : k.length ≤ 12) : M1 276 [AV.ptr b 0, AV.int t, AV.str k] (WB b w X T L) (fun v : (C9 × Bool) × List (Value × Value) => WF w v.1.1 ∧ v.2.length = T.length) (fun v => WB b v.1.1 X v.2 L) (fun v => AV.bool v.1.2) := by
 have hng := hw.n;have htn := hw.txns.1;obtain ⟨p, hp⟩ : ∃ p : Nat, q7 w.Cuts k = p := ⟨_, rfl⟩;obtain ⟨gi, hx, hgl⟩ := Bw5 hw k;rw [hp] at hx hgl;have hgi := hw.groups gi (C2 hx);obtain ⟨tx, htx⟩ := B4 ht.2;obtain ⟨y, hy⟩ := B4 (show (t - 1).toNat < T.length by omega);have htk := hw.txns.2 tx (C2 htx);obtain ⟨n, hn⟩ := B4 (show ((p : Nat) : Int).toNat < tx.Terms.length by rw [htk.terms]; omega);have hlate := CM2 b w X T L (p : Int) t tx y n gi htx hy hT qz8 qz8 hn hx;have hpart : E1 233 [strs w.Cuts, AV.str k] (AV.int ((p : Nat) : Int)) := by rw [← hp]; exact Ae2 w.Cuts k
 refine C8 Tryz.func276 rfl Tryz.ntmps276 rfl ?_;refine R12 ?_;refine A1 rfl (A5 rfl Tryz.call233 rfl (hpart) F0) ?_;refine R11 ?_;refine A1 rfl (H6 2 rfl G7 E0 (A0 rfl) rfl (A0 rfl) qz8 Am4) ?_;refine A1 rfl (n6 2 rfl (A0 rfl) rfl O4 E0 qz5 F1) ?_;refine A1 rfl (A5 rfl Tryz.call234 rfl (AH1 gi hgi.good) J3) ?_;refine R2 ?_;refine A3 ?_ ?_
 ·intro h26;refine R5 ?_;exact H7 [0, 0, 0, 0, 0, 0, 0] 0 (nwZ w T L) [] (((w, false), T)) (Bl2) rfl (show List.Perm (nwZ w T L) ((nwZ w T L) ++ []) from B7) Bk9 O6
 intro h26;have hrd : AO1 gi = true := (by simpa using h26);have hl := AI1 hrd;refine R7 ?_;refine A1 rfl (m9 [0, 0, 0, 0, 0, 0, 0] 0 (nwZ w T L) ([]) rfl Tryz.call309 rfl rfl (B7) (hlate) AA5) ?_;refine R1 ?_;refine A3 ?_ ?_
 ·intro h30;refine R4 ?_;refine K3 [0, 0, 0, 0, 0, 0, 0] 0 7 (nwZ w T L) ([]) (fun zz => nwZ zz T L) rfl rfl rfl rfl Tryz.call277 rfl rfl (show List.Perm (nwZ w T L) ((nwZ w T L) ++ ([])) from B7) (BC2 b w X T L t hw hT qz8) F0 (fun a => M0) ?_;intro x33 ok33;refine R6 ?_;exact H7 [0, 0, 0, 0, 0, 0, 0] 0 (nwZ x33 T L) [] (((x33, true), T)) (Bl2) rfl (show List.Perm (nwZ x33 T L) ((nwZ x33 T L) ++ []) from B7) Bk9 O6
 intro h30;refine R8 ?_;refine K3 [0, 0, 0, 0, 0, 0, 0] 0 7 (nwZ w T L) ([]) (fun zz => nwZ zz.1 T L) rfl rfl rfl rfl Tryz.call310 rfl rfl (show List.Perm (nwZ w T L) ((nwZ w T L) ++ ([])) from B7) (Ce6 b w X T L (p : Int) t k false gi hw hT ht qz8 hx hl hk) (A2 (A0 rfl) (A2 (A0 rfl) CT7)) (fun a => M0) ?_;intro x38 ok38;refine R2 ?_;refine A3 ?_ ?_
 ·intro h39;refine R5 ?_;exact H7 [0, 0, 0, 0, 0, 0, 0] 0 (nwZ x38.1 T L) [] (((x38.1, false), T)) (Bl2) rfl (show List.Perm (nwZ x38.1 T L) ((nwZ x38.1 T L) ++ []) from B7) Bk9 O6
 intro h39;have hx : x38.1.Groups[((p : Nat) : Int).toNat]? = some gi := (by rw [ok38.gr]; exact hx);have hT : T.length = x38.1.Txns.length := (hT.trans ok38.ws.txns.symm);obtain ⟨tx, htx⟩ := B4 (show (t - 1).toNat < x38.1.Txns.length by omega);have htk := ok38.wi.txns.2 tx (C2 htx);have hgs := Aj5 hgi.good hl;have hcs := Aw1 hgs.cells;have hcl := Bw4 hgs.cells k 100000;refine R5 ?_;refine A1 rfl (m9 [0, 0, 0, 0, 0, 0, 0] 0 (nwZ x38.1 T L) ([]) rfl Tryz.call236 rfl rfl (B7) (Am1 b x38.1 X T L (p : Int) gi hx qz8 hgi.good hl) F0) ?_;refine A1 rfl (BL8 rfl d8 rfl Tryz.isAgg54 (A0 rfl) rfl) ?_;refine R1 ?_;refine A1 rfl (A5 rfl Tryz.call237 rfl (Bk4 (e6 gi).Cells k 100000 qz8) (A2 (A0 rfl) (A2 (A0 rfl) (A2 L1 B0)))) ?_;refine R12 ?_;refine A3 ?_ ?_
 ·intro h50;obtain ⟨G, hG⟩ : ∃ G : K8, G = ⟨k, [], (cellAt (e6 gi).Cells k 100000).2⟩ := ⟨_, rfl⟩;have hGs : G.size ≤ 64 := (by rw [hG]; unfold K8.size; simp only [Q1]; omega);refine R1 ?_;refine A1 rfl (G1 rfl (S8 (l := []) rfl)) ?_;refine R3 ?_;refine G0 AU3 ?_;refine AWP.le (S4 7 (t := ([Go.AV.Own.arr y.1 145 3 (tx.Got.map K8.cs), Go.AV.Own.arr y.2 3 1 (tx.Terms.map fun n => [AV.int n])]) ++ (nin B2.ow (x38.1.Txns.eraseIdx (t - 1).toNat) (T.eraseIdx (t - 1).toNat) ++ nin B6.ow x38.1.Looks L)) (AR5 htx hy)) ?_;refine R8 ?_;refine A1 rfl (H6 5 rfl M9 S6 (A0 rfl) rfl (A0 rfl) qz8 Am4) ?_;refine A1 rfl (L7 5 rfl J4 rfl T9 (A0 rfl) rfl rfl qz1) ?_;refine A1 rfl (N4 5 rfl (A0 rfl) rfl AC8 qz1 rfl) ?_;refine R3 ?_;refine A3 ?_ ?_
  ·intro h62;have k62 := C5 h62;refine AWP.le (B8 [0, 0, 0, 0, 0, 0, 0, 0, 0] rfl) ?_;refine AWP.le (S4 7 (t := nwZ x38.1 T L) ((AR5 htx hy).symm)) ?_;refine R5 ?_;exact H7 [0, 0, 0, 0, 0, 0, 0] 0 (nwZ x38.1 T L) [] (((x38.1, false), T)) (Bl2) rfl (show List.Perm (nwZ x38.1 T L) ((nwZ x38.1 T L) ++ []) from B7) Bk9 O6
  intro h62;have k62 := B9 h62;refine R2 ?_;refine G0 AU3 ?_;refine AWP.le (B8 [0, 4, 5] rfl) ?_;refine O8 _ [(0, false), (1, false), (2, false), (3, false), (4, false), (5, false), (6, false), (7, false), (8, false), (9, false), (10, false), (11, false), (12, false), (13, false), (14, false), (15, false), (16, false), (17, false), (18, false), (19, false), (20, false), (21, false), (22, true)] D4 D4 rfl (S3 2) ?_;refine R14 ?_;refine P4 rfl rfl rfl (fun ext => H6 1 rfl M9 S6 (A0 rfl) rfl (A0 rfl) qz8 Am4) ?_;refine P4 rfl rfl rfl (fun ext => L7 1 rfl J4 rfl T9 (A0 rfl) rfl rfl qz1) ?_;refine P4 rfl rfl rfl (fun ext => N4 1 rfl (A0 rfl) rfl AC8 qz1 rfl) ?_;refine R5 ?_;refine T4 rfl rfl rfl (L4 (by' := 40) 2 rfl P0 Tryz.type145 rfl rfl rfl rfl rfl rfl (A0 rfl) (A0 rfl) rfl qz2) (fun a _ => qz4) ?_;intro v85_1 _;refine R1 ?_;refine A1 rfl (H6 1 rfl M9 S6 (A0 rfl) rfl (A0 rfl) qz8 Am4) ?_;refine A1 rfl (L7 1 rfl J4 rfl T9 (A0 rfl) rfl rfl qz1) ?_;refine O7 2 rfl fun one_v85_1 => ?_;refine g6 1 rfl rfl rfl (A0 rfl) (A0 rfl) (K4 one_v85_1) rfl T9 qz1 rfl ?_;refine R2 ?_;refine G0 AU3 ?_;refine AWP.le (B8 [0, 0, 1, 1, 1, 1, 1, 0, 0] rfl) ?_;refine AWP.le (S4 7 (t := nin B2.ow (x38.1.Txns.set (t - 1).toNat (AS4 tx G)) (T.set (t - 1).toNat (v85_1, y.2)) ++ nin B6.ow x38.1.Looks L) ((As9 (b := [Go.AV.Own.arr v85_1 145 3 ((tx.Got ++ [G]).map K8.cs), Go.AV.Own.arr y.2 3 1 (tx.Terms.map fun n => [AV.int n])] ++ (nin B2.ow (x38.1.Txns.eraseIdx (t - 1).toNat) (T.eraseIdx (t - 1).toNat) ++ nin B6.ow x38.1.Looks L)) (by subst hG; rw [X1]; rfl) (Bw6 (w := x38.1) (L := L) (p' := AS4 tx G) (y' := (v85_1, y.2)) htx hy)))) ?_;refine R4 ?_;exact H7 [0, 1, 1, 1, 1, 0, 0] 0 (nin B2.ow (x38.1.Txns.set (t - 1).toNat (AS4 tx G)) (T.set (t - 1).toNat (v85_1, y.2)) ++ nin B6.ow x38.1.Looks L) [] (((AH2 x38.1 (t - 1).toNat (AS4 tx G), true), T.set (t - 1).toNat (v85_1, y.2))) (Bl2) rfl (show List.Perm (nin B2.ow (x38.1.Txns.set (t - 1).toNat (AS4 tx G)) (T.set (t - 1).toNat (v85_1, y.2)) ++ nin B6.ow x38.1.Looks L) ((nin B2.ow (x38.1.Txns.set (t - 1).toNat (AS4 tx G)) (T.set (t - 1).toNat (v85_1, y.2)) ++ nin B6.ow x38.1.Looks L) ++ []) from B7) Bk9 O6
 intro h50;obtain ⟨G, hG⟩ : ∃ G : K8, G = ⟨k, (cellAt (e6 gi).Cells k 100000).1, (cellAt (e6 gi).Cells k 100000).2⟩ := ⟨_, rfl⟩;have hGs : G.size ≤ 64 := (by rw [hG]; unfold K8.size; dsimp only; omega);refine R3 ?_;refine G0 AU3 ?_;refine AWP.le (S4 7 (t := ([Go.AV.Own.arr y.1 145 3 (tx.Got.map K8.cs), Go.AV.Own.arr y.2 3 1 (tx.Terms.map fun n => [AV.int n])]) ++ (nin B2.ow (x38.1.Txns.eraseIdx (t - 1).toNat) (T.eraseIdx (t - 1).toNat) ++ nin B6.ow x38.1.Looks L)) (AR5 htx hy)) ?_;refine R8 ?_;refine A1 rfl (H6 5 rfl M9 S6 (A0 rfl) rfl (A0 rfl) qz8 Am4) ?_;refine A1 rfl (L7 5 rfl J4 rfl T9 (A0 rfl) rfl rfl qz1) ?_;refine A1 rfl (N4 5 rfl (A0 rfl) rfl AC8 qz1 rfl) ?_;refine R3 ?_;refine A3 ?_ ?_
 ·intro h62;have k62 := C5 h62;refine AWP.le (B8 [0, 0, 0, 0, 0, 0, 0, 0, 0] rfl) ?_;refine AWP.le (S4 7 (t := nwZ x38.1 T L) ((AR5 htx hy).symm)) ?_;refine R5 ?_;exact H7 [0, 0, 0, 0, 0, 0, 0] 0 (nwZ x38.1 T L) [] (((x38.1, false), T)) (Bl2) rfl (show List.Perm (nwZ x38.1 T L) ((nwZ x38.1 T L) ++ []) from B7) Bk9 O6
 intro h62;have k62 := B9 h62;refine R2 ?_;refine G0 AU3 ?_;refine AWP.le (B8 [0, 4, 5] rfl) ?_;refine O8 _ [(0, false), (1, false), (2, false), (3, false), (4, false), (5, false), (6, false), (7, false), (8, false), (9, false), (10, false), (11, false), (12, false), (13, false), (14, false), (15, false), (16, false), (17, false), (18, false), (19, false), (20, false), (21, false), (22, true)] D4 D4 rfl (S3 2) ?_;refine R14 ?_;refine P4 rfl rfl rfl (fun ext => H6 1 rfl M9 S6 (A0 rfl) rfl (A0 rfl) qz8 Am4) ?_;refine P4 rfl rfl rfl (fun ext => L7 1 rfl J4 rfl T9 (A0 rfl) rfl rfl qz1) ?_;refine P4 rfl rfl rfl (fun ext => N4 1 rfl (A0 rfl) rfl AC8 qz1 rfl) ?_;refine R5 ?_;refine T4 rfl rfl rfl (L4 (by' := 40) 2 rfl P0 Tryz.type145 rfl rfl rfl rfl rfl rfl (A0 rfl) (A0 rfl) rfl qz2) (fun a _ => qz4) ?_;intro v85_2 _;refine R1 ?_;refine A1 rfl (H6 1 rfl M9 S6 (A0 rfl) rfl (A0 rfl) qz8 Am4) ?_;refine A1 rfl (L7 1 rfl J4 rfl T9 (A0 rfl) rfl rfl qz1) ?_;refine O7 2 rfl fun one_v85_2 => ?_;refine g6 1 rfl rfl rfl (A0 rfl) (A0 rfl) (K4 one_v85_2) rfl T9 qz1 rfl ?_;refine R2 ?_;refine G0 AU3 ?_;refine AWP.le (B8 [0, 0, 1, 1, 1, 1, 1, 0, 0] rfl) ?_;refine AWP.le (S4 7 (t := nin B2.ow (x38.1.Txns.set (t - 1).toNat (AS4 tx G)) (T.set (t - 1).toNat (v85_2, y.2)) ++ nin B6.ow x38.1.Looks L) ((As9 (b := [Go.AV.Own.arr v85_2 145 3 ((tx.Got ++ [G]).map K8.cs), Go.AV.Own.arr y.2 3 1 (tx.Terms.map fun n => [AV.int n])] ++ (nin B2.ow (x38.1.Txns.eraseIdx (t - 1).toNat) (T.eraseIdx (t - 1).toNat) ++ nin B6.ow x38.1.Looks L)) (by subst hG; rw [X1]; rfl) (Bw6 (w := x38.1) (L := L) (p' := AS4 tx G) (y' := (v85_2, y.2)) htx hy)))) ?_;refine R4 ?_;exact H7 [0, 1, 1, 1, 1, 0, 0] 0 (nin B2.ow (x38.1.Txns.set (t - 1).toNat (AS4 tx G)) (T.set (t - 1).toNat (v85_2, y.2)) ++ nin B6.ow x38.1.Looks L) [] (((AH2 x38.1 (t - 1).toNat (AS4 tx G), true), T.set (t - 1).toNat (v85_2, y.2))) (Bl2) rfl (show List.Perm (nin B2.ow (x38.1.Txns.set (t - 1).toNat (AS4 tx G)) (T.set (t - 1).toNat (v85_2, y.2)) ++ nin B6.ow x38.1.Looks L) ((nin B2.ow (x38.1.Txns.set (t - 1).toNat (AS4 tx G)) (T.set (t - 1).toNat (v85_2, y.2)) ++ nin B6.ow x38.1.Looks L) ++ []) from B7) Bk9 O6
end Go.PQ