/- FnPrepared: for every drawn state and record that fits it, the record can be Am5, is held and blocks, can be decided and is then seen; the program answers what the reference answers. No condition. -/
import Derived.RangeFuncNested
import Derived.RangeFuncBound
import Derived.RangeFuncCalls
import Derived.RangeFuncLeaves
import Derived.RangeFuncBox
import Derived.Shelf.Abstract
import Derived.Shelf.RegionOpen
import Derived.WalkKit
import Derived.OwnWalkIn
import Derived.TacticsInMore
import Derived.LoopNIn
import Derived.LoopIn
import Derived.ProofKit
import Derived.OpenShut
import Derived.ShutString
import Derived.ChangeOld
import Derived.Sort.Grow
import Derived.Lib.LaidTab
import Derived.Lib.ItoaNum
import Derived.Lib.Split
import Derived.Lib.SplitLaws
import Derived.Lib.ConvBytes
import Derived.WideLaws
import Derived.SizedLaws
import Derived.Test.YtnlhbdkcgaeimaaGreatZPrepared6

set_option linter.unusedVariables false
set_option linter.unusedSimpArgs false
set_option maxRecDepth 100000
set_option maxHeartbeats 2000000
namespace Go.M
open Go.AV
structure SB (m : Int) (s : TState) : Prop where
  floor : 0 ≤ s.Floor ∧ s.Floor ≤ m
  leads : ∀ h ∈ s.Held, 0 ≤ h.Lead ∧ h.Lead ≤ 3
theorem sb_apply {m : Int} {s : TState} (g : SB m s) {r : TRec} (h1 : r.Time ≤ m) (h2 : 0 ≤ r.Lead ∧ r.Lead ≤ 3) (h : (applyS s r).2 = true) : SB m (applyS s r).1 := by
  obtain ⟨g1, g2⟩ := g
  have hless : ∀ h ∈ lessH s.Held r.Txn, 0 ≤ h.Lead ∧ h.Lead ≤ 3 := fun k hk => g2 k (Ad1.1 hk).1
  unfold applyS at h ⊢
  by_cases h4 : r.Kind = 4
  · rw [if_pos h4] at h ⊢
    have := of_decide_eq_true h
    exact ⟨⟨by dsimp only; omega, h1⟩, g2⟩
  · rw [if_neg h4] at h ⊢
    by_cases hT : hasT s.Told r.Txn = true
    · rw [if_pos hT] at h; cases h
    · rw [if_neg hT] at h ⊢
      by_cases hk : r.Kind = 1
      · rw [if_pos hk] at h ⊢
        simp only [Bool.and_eq_true, Bool.not_eq_true', decide_eq_true_eq] at h
        refine ⟨⟨by dsimp only; omega, h1⟩, fun k hm => ?_⟩
        rcases i8.1 hm with rfl | hm
        · exact h2
        · exact g2 k hm
      · rw [if_neg hk] at h ⊢
        by_cases hy : r.Yes = true
        · rw [if_pos hy] at h ⊢
          cases hf : findH s.Held r.Txn with
          | none => rw [hf] at h; cases h
          | some k =>
            rw [hf] at h
            dsimp only at h ⊢
            by_cases hlt : r.Time < k.Time
            · rw [if_pos hlt] at h; cases h
            · rw [if_neg hlt] at h ⊢
              by_cases hp : (putP s.Cells k.Writes r.Time).2 = true
              · rw [if_pos hp]; exact ⟨by unfold doneS; dsimp only; split <;> omega, hless⟩
              · rw [if_neg hp] at h; cases h
        · rw [if_neg hy]; exact ⟨g1, hless⟩
theorem sb_step {m : Int} {s : TState} (g : SB m s) {r : TRec} (h1 : r.Time ≤ m) (h2 : 0 ≤ r.Lead ∧ r.Lead ≤ 3) : SB m (stepS s r) := by
  unfold stepS
  split
  · exact sb_apply g h1 h2 ‹_›
  · exact g
theorem Ar3 {m : Int} : ∀ {l : List TRec} {s : TState}, SB m s → (∀ r ∈ l, r.Time ≤ m ∧ 0 ≤ r.Lead ∧ r.Lead ≤ 3) → SB m (stFrom s l)
  | [], s, g, _ => g
  | r :: l, s, g, h => by
    show SB m (stFrom (stepS s r) l)
    exact Ar3 (sb_step g (h r List.mem_cons_self).1 (h r List.mem_cons_self).2) fun x hx => h x (List.mem_cons_of_mem _ hx)
theorem st_phi {l : List TRec} (hl : l.length ≤ 11) (h : ∀ r ∈ l, r.size ≤ 1000) : phi (stFrom zState l) ≤ 33044 := by
  have h2 := AT4 (m := 1000) (s := zState) (l := l) h
  have h3 : phi zState = 0 := rfl
  have h5 : l.length * (3 * (1 + 1000) + 1) ≤ 11 * 3004 := Nat.mul_le_mul hl (by decide)
  omega
end Go.M
namespace Go.Proofs.YtnlhbdkcgaeimaaGreat
open Go Go.AV Go.M
attribute [local irreducible] OpW OpA OpS AWP FSpec ESpec GSpec OpE RetOk RetOkG RvDen Le Ev GuardIs SrcIs SrcE Int.tmod Int.tdiv IntKind.wrap bandI
theorem ofK_own (l : List TRec) (hl : l.length ≤ 60) (hr : ∀ r ∈ l, r.size ≤ 1100) : GSpec Tryz.prog 86 [AV.list 7 (l.map TRec.cs)] [] (fun _ : Value × Value × Value => True) (fun x => TState.ow (stFrom zState l) (x.1, x.2.1) ++ [.arr x.2.2 4 1 ((didFrom zState l).map fun b => [AV.bool b])]) (fun x => AV.tup [AV.agg (TState.ocs (stFrom zState l) (x.1, x.2.1)), AV.is x.2.2]) := by
 have hgs : ∀ i, SO (stFrom zState (l.take i)) := fun i => Aa1 Ar2
 have hsz : ∀ i, (stFrom zState (l.take i)).size ≤ 300000 := fun i => by
  have h1 := AT3 (stFrom zState (l.take i))
  have h2 := AT4 (m := 1100) (s := zState) (l := l.take i) fun r hr2 => hr r (List.mem_of_mem_take hr2)
  have h3 : phi zState = 0 := rfl
  have h4 : (l.take i).length ≤ 60 := by rw [A8]; omega
  have h5 : (l.take i).length * (3 * (1 + 1100) + 1) ≤ 60 * 3304 := Nat.mul_le_mul h4 (by decide)
  omega
 refine H7 Tryz.func86 rfl Tryz.ntmps86 rfl ?_
 refine A3 (A2 ?_)
 refine G5 rfl rfl rfl rfl Tryz.zeroValue30 rfl ?_
 intro b2
 refine A1 rfl rfl rfl (C0 rfl K1) ?_
 refine A4 (A3 (A2 ?_))
 refine G5 rfl rfl rfl rfl Tryz.zeroValue30 rfl ?_
 intro b4
 refine A4 (A3 (A2 ?_))
 refine P9 4 1 rfl rfl rfl rfl K1 ?_
 intro v5
 refine A4 (A3 (A3 ?_))
 refine AWP.le (At4 1 1 2 rfl rfl R7) ?_
 refine A2 ?_
 refine A5 rfl rfl rfl rfl rfl ?_
 refine A1 rfl rfl rfl (I5 rfl M4 (A0 rfl)) ?_
 refine A1 rfl rfl rfl (C6 rfl C2) ?_
 refine A4 (E1 ?_)
 refine d8 45 5 ?_
 refine d8 39 3 ?_
 refine AWP.le (J2 [3, 1, 0, 0] rfl) ?_
 refine j6 [(2, _), (3, _), (4, _), (10, _), (11, _)] _ (fun (i : Nat) (y : Value × Value) (v : Value) (bs : List Bool) => i ≤ l.length ∧ bs = didFrom zState (l.take i) ∧ bs.length ≤ i) (fun (i : Nat) (y : Value × Value) (v : Value) (bs : List Bool) => [.box b4 30 (TState.ocs (stFrom zState (l.take i)) y), .arr y.1 45 5 ((stFrom zState (l.take i)).Held.map THeld.cs), .arr y.2 39 3 ((stFrom zState (l.take i)).Told.map TTold.cs), .arr v 4 1 (bs.map fun b => [AV.bool b])]) (fun (i : Nat) (y : Value × Value) (v : Value) (bs : List Bool) => [(5, AV.is v), (12, AV.int i)]) (fun (i : Nat) (y : Value × Value) (v : Value) (bs : List Bool) => l.length - i) (0) (((Value.slice none 0 0), (Value.slice none 0 0))) (v5) ([]) ?_ (S9 (by rfl) ⟨rfl, rfl, rfl, rfl, rfl, rfl, rfl, trivial⟩) ?_
 ·exact ⟨Nat.zero_le _, rfl, Nat.le_refl _⟩
 intro i y v bs hinv
 refine A3 (A2 ?_)
 refine A1 rfl rfl rfl (L4 rfl (A0 rfl) (A0 rfl)) ?_
 refine A4 (A3 ?_)
 refine C8 (A0 rfl) ?_ ?_
 ·intro h13
  have k13 := of_decide_eq_true h13; try simp only [A6] at k13
  have hlt : i < l.length := by omega
  obtain ⟨r, hx⟩ := get_some hlt
  have hgr := hr r (G2 hx)
  have hgi := hgs i
  have hsi := hsz i
  refine D2 (A3 (E1 (A3 (A2 ?_))))
  refine A1 rfl rfl rfl (K0 rfl M4 H5 (A0 rfl) (A0 rfl) hx (by first | omega | (simp only [A6, A8, B2, B6, A9, szR] at *; omega))) ?_
  refine A1 rfl rfl rfl (L8 rfl (A0 rfl) N3 H5) ?_
  refine G5 rfl rfl rfl rfl Tryz.zeroValue49 rfl ?_
  intro b7
  refine D9 0 rfl rfl rfl (A0 rfl) (A0 rfl) (E9 _) rfl H5 rfl ?_
  refine A4 (A3 ?_)
  refine J3 (by first | (simp only [TState.ow, TState.ocs, pick, O2, N7, N8, N5, M9, List.nil_append, O3, O4, List.append_nil, N6, List.take_zero, N9, List.drop_zero]; exact rfl) | exact rfl) ?_
  refine A2 ?_
  refine A1 rfl rfl rfl (F8 1 rfl (A0 rfl) rfl D8 C5 rfl) ?_
  refine A1 rfl rfl rfl (F8 0 rfl (A0 rfl) rfl N3 H5 rfl) ?_
  refine I0 [2, 2] rfl rfl rfl rfl Tryz.call103 rfl (Au4 (stFrom zState (l.take i)) y r hgi (by omega) (by omega)) (A7 (A0 rfl) (A7 (A0 rfl) C9)) rfl ?_
  intro x19 ok19
  refine A5 rfl rfl rfl rfl rfl ?_
  refine A1 rfl rfl rfl (F0 rfl (A0 rfl) rfl) ?_
  refine A1 rfl rfl rfl (F0 rfl (A0 rfl) rfl) ?_
  refine G5 rfl rfl rfl rfl Tryz.zeroValue30 rfl ?_
  intro b8
  refine D9 0 rfl rfl rfl (A0 rfl) (A0 rfl) (E9 _) rfl C5 rfl ?_
  refine B5 rfl rfl rfl rfl rfl ?_
  refine A4 (A3 (A3 ?_))
  refine J3 (by first | (simp only [TState.ow, TState.ocs, pick, O2, N7, N8, N5, M9, List.nil_append, O3, O4, List.append_nil, N6, List.take_zero, N9, List.drop_zero]; exact rfl) | exact rfl) ?_
  refine A2 ?_
  refine A5 rfl rfl rfl rfl rfl ?_
  refine A4 ?_
  refine C8 (A0 rfl) ?_ ?_
  ·intro h22
   have hstep : (applyS (stFrom zState (l.take i)) r).1 = stepS (stFrom zState (l.take i)) r := by (unfold stepS; rw [if_pos h22])
   refine J3 (by first | (simp only [TState.ow, TState.ocs, pick, O2, N7, N8, N5, M9, List.nil_append, O3, O4, List.append_nil, N6, List.take_zero, N9, List.drop_zero]; exact rfl) | exact rfl) ?_
   refine A2 ?_
   refine A1 rfl rfl rfl (F8 0 rfl (A0 rfl) rfl D8 C5 rfl) ?_
   refine D9 6 rfl rfl rfl (A0 rfl) (A0 rfl) (E9 _) rfl C5 rfl ?_
   refine A4 ?_
   refine J3 (by first | (simp only [TState.ow, TState.ocs, pick, O2, N7, N8, N5, M9, List.nil_append, O3, O4, List.append_nil, N6, List.take_zero, N9, List.drop_zero]; exact rfl) | exact rfl) ?_
   refine A2 ?_
   refine A5 rfl rfl rfl rfl rfl ?_
   refine A5 rfl rfl rfl rfl rfl ?_
   refine A1 rfl rfl rfl (M8 rfl Tryz.underlying31 I8 Tryz.zeroValue4 rfl rfl rfl rfl (D7 (A0 rfl) (Y2 _) H6) rfl rfl) ?_
   refine M6 (by' := 1) 7 rfl rfl rfl rfl Tryz.underlying31 Tryz.type4 rfl rfl rfl rfl rfl rfl (A0 rfl) (A0 rfl) rfl (by first | omega | (simp only [A6, A8, B2, B6, A9, szR] at *; omega)) ?_
   intro v27_1
   refine B5 rfl rfl rfl rfl rfl ?_
   refine A4 (A2 ?_)
   refine A1 rfl rfl rfl (H0 rfl (A0 rfl) C2 (by first | omega | (simp only [A6, A8, B2, B6, A9, szR] at *; omega))) ?_
   refine A5 rfl rfl rfl rfl rfl ?_
   refine A4 ?_
   refine V6 i y v bs (i + 1) ((x19.1, x19.2)) (v27_1) (bs ++ [(applyS (stFrom zState (l.take i)) r).2]) ?_ ?_ (Le.trans (J2 [0, 0, 0, 2, 2, 0, 0, 0] rfl) (N4 4 (by first | (rw [List.map_append, AR3 hx, ← hstep]; rfl) | rfl) ⟨rfl, rfl, rfl, rfl, rfl, rfl, rfl, trivial⟩))
   ·exact ⟨by omega, by rw [AN2 hx, hinv.2.1], by rw [H9]; simp; omega⟩
   ·omega
  ·intro h22
   have hstep : stFrom zState (l.take i) = stepS (stFrom zState (l.take i)) r := by (conv => rhs; unfold stepS; rw [if_neg (by rw [h22]; decide)])
   refine D2 ?_
   refine J3 (by first | (simp only [TState.ow, TState.ocs, pick, O2, N7, N8, N5, M9, List.nil_append, O3, O4, List.append_nil, N6, List.take_zero, N9, List.drop_zero]; exact rfl) | exact rfl) ?_
   refine A2 ?_
   refine A5 rfl rfl rfl rfl rfl ?_
   refine A5 rfl rfl rfl rfl rfl ?_
   refine A1 rfl rfl rfl (M8 rfl Tryz.underlying31 I8 Tryz.zeroValue4 rfl rfl rfl rfl (D7 (A0 rfl) (Y2 _) H6) rfl rfl) ?_
   refine M6 (by' := 1) 7 rfl rfl rfl rfl Tryz.underlying31 Tryz.type4 rfl rfl rfl rfl rfl rfl (A0 rfl) (A0 rfl) rfl (by first | omega | (simp only [A6, A8, B2, B6, A9, szR] at *; omega)) ?_
   intro v27_2
   refine B5 rfl rfl rfl rfl rfl ?_
   refine A4 (A2 ?_)
   refine A1 rfl rfl rfl (H0 rfl (A0 rfl) C2 (by first | omega | (simp only [A6, A8, B2, B6, A9, szR] at *; omega))) ?_
   refine A5 rfl rfl rfl rfl rfl ?_
   refine A4 ?_
   refine V6 i y v bs (i + 1) ((y.1, y.2)) (v27_2) (bs ++ [(applyS (stFrom zState (l.take i)) r).2]) ?_ ?_ (Le.trans (J2 [0, 2, 2, 2, 2, 0, 0, 0] rfl) (N4 4 (by first | (rw [List.map_append, AR3 hx, ← hstep]; rfl) | rfl) ⟨rfl, rfl, rfl, rfl, rfl, rfl, rfl, trivial⟩))
   ·exact ⟨by omega, by rw [AN2 hx, hinv.2.1], by rw [H9]; simp; omega⟩
   ·omega
 ·intro h13
  have k13 := of_decide_eq_false h13; try simp only [A6] at k13
  have hge : i = l.length := by omega
  have hbs := hinv.2.1
  rw [hge, List.take_length] at hbs
  rw [hge, List.take_length, ← hbs]
  refine I1 ?_
  refine A3 ?_
  refine J3 (by first | (simp only [TState.ow, TState.ocs, pick, O2, N7, N8, N5, M9, List.nil_append, O3, O4, List.append_nil, N6, List.take_zero, N9, List.drop_zero]; exact rfl) | exact rfl) ?_
  refine A2 ?_
  refine A1 rfl rfl rfl (F8 0 rfl (A0 rfl) rfl D8 C5 rfl) ?_
  refine A5 rfl rfl rfl rfl rfl ?_
  refine D9 4 rfl rfl rfl (A0 rfl) (A0 rfl) (E9 _) rfl C5 rfl ?_
  refine B5 rfl rfl rfl rfl rfl ?_
  refine A4 ?_
  refine C7 ?_
  exact J6 [1, 1, 1] (y.1, y.2, v) (trivial) rfl (by rfl) (S8 rfl (by decide) (E4 (J9 (ys := _) 4 rfl rfl D8 C5 rfl) (E4 (C3 rfl (by rfl)) J0)))
theorem Ao6 (b : Nat) (code : List Int) (hcode : ByteL code) (c : TCur) (hp : c.p ≤ 2000000) : GSpec Tryz.prog 175 [AV.ptr b 0] [.box b 127 (curC code c)] (fun x : TCur × TRec => x.1.p ≤ c.p + 100 ∧ x.2.size ≤ 1000 ∧ 0 ≤ x.2.Lead ∧ x.2.Lead ≤ 3 ∧ 0 ≤ x.2.Time ∧ x.2.Time ≤ 100001) (fun x => [.box b 127 (curC code x.1)]) (fun x => AV.agg x.2.cs) :=
  AQ7 (fun x => (x.1, x.2.1)) (fun x => TRec.ow x.2.1 x.2.2) (fun x => [.box b 127 (curC code x.1)]) (Au3 b code hcode c hp) (fun _ h => h) (fun x _ => Y0 (TRec.lc _ _)) (fun x _ => List.perm_append_comm (l₁ := [_])) (fun _ _ => S3 0 rfl rfl R7) (fun x _ => oc_cons ⟨rfl, rfl, AF1⟩ oc_nil)
theorem Ao7 (b : Nat) (code : List Int) (hcode : ByteL code) (c : TCur) (hp : c.p ≤ 900000) : GSpec Tryz.prog 78 [AV.ptr b 0] [.box b 127 (curC code c)] (fun x : TCur × List TRec × Value => x.1.p ≤ c.p + 1300 ∧ x.2.1.length ≤ 11 ∧ ∀ r ∈ x.2.1, r.size ≤ 1000 ∧ r.Time ≤ 33 ∧ 0 ≤ r.Lead ∧ r.Lead ≤ 3) (fun x => [.box b 127 (curC code x.1), .arr x.2.2 49 7 (x.2.1.map TRec.cs)]) (fun x => AV.is x.2.2) := by
 refine H7 Tryz.func78 rfl Tryz.ntmps78 rfl ?_
 refine A3 (A2 ?_)
 refine A1 rfl rfl rfl (C0 rfl K1) ?_
 refine A4 (A3 (A2 ?_))
 refine P9 49 7 rfl rfl rfl rfl K1 ?_
 intro v3
 refine A4 (A3 (A2 ?_))
 refine A1 rfl rfl rfl (C0 rfl C2) ?_
 refine A4 (A3 (A3 (A2 ?_)))
 refine A5 rfl rfl rfl rfl rfl ?_
 refine I0 [1] rfl rfl rfl rfl Tryz.call100 rfl (S4 _ _ hcode _ _ (by omega) (by omega)) (A7 (A0 rfl) (A7 C2 C9)) rfl ?_
 intro x9 ok9
 refine B5 rfl rfl rfl rfl rfl ?_
 refine A4 (E1 ?_)
 refine AWP.le (J2 [0, 0] rfl) ?_
 refine Am7 [(0, _), (2, _)] _ (fun (n : Int) (cc : TCur) (l : List TRec) (v : Value) (t : Int) => (0 ≤ n ∧ n + l.length ≤ 11) ∧ cc.p + 110 * n ≤ c.p + 1220 ∧ (0 ≤ t ∧ t + 3 * n ≤ 33) ∧ ∀ r ∈ l, r.size ≤ 1000 ∧ r.Time ≤ 33 ∧ 0 ≤ r.Lead ∧ r.Lead ≤ 3) (fun (n : Int) (cc : TCur) (l : List TRec) (v : Value) (t : Int) => [.box b 127 (curC code cc), .arr v 49 7 (l.map TRec.cs)]) (fun (n : Int) (cc : TCur) (l : List TRec) (v : Value) (t : Int) => [(3, AV.is v), (4, AV.int t), (5, AV.int n)]) (fun (n : Int) (cc : TCur) (l : List TRec) (v : Value) (t : Int) => n.toNat) (x9.2) (x9.1) ([]) (v3) (0) ?_ (S9 (by rfl) ⟨rfl, rfl, rfl, rfl, rfl, trivial⟩) ?_
 ·exact ⟨⟨by omega, by simp; omega⟩, by omega, ⟨by omega, by omega⟩, fun r hr => by cases hr⟩
 intro n cc l v t hinv
 refine A3 (A3 (A2 ?_))
 refine A5 rfl rfl rfl rfl rfl ?_
 refine A1 rfl rfl rfl (P1 rfl (A0 rfl) C2) ?_
 refine A4 ?_
 refine C8 (A0 rfl) ?_ ?_
 ·intro h11
  have k11 := of_decide_eq_true h11; try simp only [A6] at k11
  refine D2 (A3 (E1 (A3 (A2 ?_))))
  refine A5 rfl rfl rfl rfl rfl ?_
  refine I0 [0] rfl rfl rfl rfl Tryz.call175 rfl (Ao6 _ _ hcode _ (by omega)) (A7 (A0 rfl) C9) rfl ?_
  intro x15 ok15
  refine G5 rfl rfl rfl rfl Tryz.zeroValue49 rfl ?_
  intro b6
  refine D9 0 rfl rfl rfl (A0 rfl) (A0 rfl) (E9 _) rfl H5 rfl ?_
  refine A4 (A3 (A2 ?_))
  refine A5 rfl rfl rfl rfl rfl ?_
  refine A5 rfl rfl rfl rfl rfl ?_
  refine I0 [1] rfl rfl rfl rfl Tryz.call100 rfl (S4 _ _ hcode _ _ (by omega) (by omega)) (A7 (A0 rfl) (A7 C2 C9)) rfl ?_
  intro x18 ok18
  refine A1 rfl rfl rfl (H0 rfl C2 (A0 rfl) (by first | omega | (simp only [A6, A8, B2, B6, A9, szR] at *; omega))) ?_
  refine A1 rfl rfl rfl (H0 rfl (A0 rfl) (A0 rfl) (by first | omega | (simp only [A6, A8, B2, B6, A9, szR] at *; omega))) ?_
  refine B5 rfl rfl rfl rfl rfl ?_
  refine A4 (A3 (A3 (A2 ?_)))
  refine A1 rfl rfl rfl (B4 2 rfl B8 rfl C1 (A0 rfl) rfl) ?_
  refine A1 rfl rfl rfl (B3 1 rfl (A0 rfl) rfl D1 rfl) ?_
  refine A1 rfl rfl rfl (P1 rfl (A0 rfl) C2) ?_
  refine A4 ?_
  refine C8 (A0 rfl) ?_ ?_
  ·intro h23
   have k23 := of_decide_eq_true h23; try simp only [A6] at k23
   refine A2 ?_
   refine A5 rfl rfl rfl rfl rfl ?_
   refine A1 rfl rfl rfl (B4 2 rfl B8 rfl C1 (A0 rfl) rfl) ?_
   refine J4 1 rfl rfl rfl (A0 rfl) (A0 rfl) (K6 _ _) rfl C1 rfl ?_
   refine A4 (A3 (A3 (A2 ?_)))
   refine A1 rfl rfl rfl (B4 0 rfl B8 rfl C1 (A0 rfl) rfl) ?_
   refine A1 rfl rfl rfl (B3 1 rfl (A0 rfl) rfl D1 rfl) ?_
   refine A1 rfl rfl rfl (M0 rfl (A0 rfl) C2) ?_
   refine A5 rfl rfl rfl rfl rfl ?_
   refine B1 rfl rfl (D4 rfl rfl rfl) (fun hc => B4 0 rfl B8 rfl C1 (A0 rfl) rfl) ?_
   refine B1 rfl rfl (D4 rfl rfl rfl) (fun hc => B3 1 rfl (B0 rfl hc) rfl D1 rfl) ?_
   refine B1 rfl rfl (D4 rfl rfl rfl) (fun hc => M0 rfl (B0 rfl hc) C2) ?_
   refine A1 rfl rfl rfl (P5 rfl (A0 rfl) (G0 rfl)) ?_
   refine A5 rfl rfl rfl rfl rfl ?_
   refine B1 rfl rfl (B9 rfl rfl rfl) (fun hc => C6 rfl (A0 rfl)) ?_
   refine B1 rfl rfl (B9 rfl rfl rfl) (fun hc => U1 2 rfl M4 (B0 rfl hc) rfl) ?_
   refine B1 rfl rfl (B9 rfl rfl rfl) (fun hc => P1 rfl (B0 rfl hc) C2) ?_
   refine A1 rfl rfl rfl (I3 rfl (A0 rfl) (G0 rfl)) ?_
   refine A4 ?_
   refine C8 (A0 rfl) ?_ ?_
   ·intro h38
    have hll : 0 < l.length := by (cases hm : l with | nil => (rw [hm] at h38; simp at h38) | cons y q => simp)
    refine A3 (A2 ?_)
    refine A5 rfl rfl rfl rfl rfl ?_
    refine A5 rfl rfl rfl rfl rfl ?_
    refine A5 rfl rfl rfl rfl rfl ?_
    refine A1 rfl rfl rfl (U1 2 rfl M4 (A0 rfl) rfl) ?_
    refine I0 [0] rfl rfl rfl rfl Tryz.call100 rfl (S4 _ _ hcode _ _ (by simp only [A6]; omega) (by omega)) (A7 (A0 rfl) (A7 (A0 rfl) C9)) rfl ?_
    intro x43 ok43
    have hix : x43.2.toNat < l.length := by (have h9 := ok43.2; simp only [A6] at h9; omega)
    obtain ⟨z, hz⟩ := get_some hix
    have hrow : (l.map TRec.cs)[x43.2.toNat]? = some z.cs := by (rw [List.getElem?_map, hz]; rfl)
    refine A1 rfl rfl rfl (R9 2 rfl M4 H5 (A0 rfl) rfl (A0 rfl) (by omega) (by first | omega | (simp only [A6]; omega))) ?_
    refine A1 rfl rfl rfl (p5 2 rfl (A0 rfl) rfl N3 H5 hrow (by decide)) ?_
    refine G5 rfl rfl rfl rfl Tryz.zeroValue49 rfl ?_
    intro b7
    refine D9 0 rfl rfl rfl (A0 rfl) (A0 rfl) (E9 _) rfl H5 rfl ?_
    refine A4 (A3 (A2 ?_))
    refine A1 rfl rfl rfl (B4 0 rfl B8 rfl C1 (A0 rfl) rfl) ?_
    refine A1 rfl rfl rfl (B3 0 rfl (A0 rfl) rfl D1 rfl) ?_
    refine A1 rfl rfl rfl (M0 rfl (A0 rfl) C2) ?_
    refine A4 ?_
    refine C8 (A0 rfl) ?_ ?_
    ·intro h48
     have k48 := K3 h48; try simp only [A6] at k48
     refine A2 ?_
     refine A1 rfl rfl rfl (B4 1 rfl B8 rfl C1 (A0 rfl) rfl) ?_
     refine A1 rfl rfl rfl (B3 0 rfl (A0 rfl) rfl D1 rfl) ?_
     refine A1 rfl rfl rfl (B4 1 rfl B8 rfl C1 (A0 rfl) rfl) ?_
     refine J4 2 rfl rfl rfl (A0 rfl) (A0 rfl) (K6 _ _) rfl C1 rfl ?_
     refine A4 (A2 ?_)
     refine A5 rfl rfl rfl rfl rfl ?_
     refine A1 rfl rfl rfl (F8 2 rfl (A0 rfl) rfl N3 H5 rfl) ?_
     refine A1 rfl rfl rfl (M8 rfl M4 H5 Tryz.zeroValue49 rfl rfl rfl rfl (D7 (A0 rfl) (E9 _) H6) rfl rfl) ?_
     refine M6 (by' := 88) 3 rfl rfl rfl rfl M4 Tryz.type49 rfl rfl rfl rfl rfl rfl (A0 rfl) (A0 rfl) rfl (by first | omega | (simp only [A6, A8, B2, B6, A9, szR] at *; omega)) ?_
     intro v55_1
     refine B5 rfl rfl rfl rfl rfl ?_
     refine A4 (A2 ?_)
     refine A5 rfl rfl rfl rfl rfl ?_
     refine A1 rfl rfl rfl (P8 rfl (A0 rfl) C2 (by first | omega | (simp only [A6, A8, B2, B6, A9, szR] at *; omega))) ?_
     refine B5 rfl rfl rfl rfl rfl ?_
     refine A4 ?_
     refine m3 n cc l v t (n - 1) (x43.1) (l ++ [⟨x15.2.Kind, z.Txn, t + (1 + x18.2), x15.2.Lead, x15.2.Reads, x15.2.Writes, x15.2.Yes⟩]) (v55_1) (t + (1 + x18.2)) ?_ ?_ (Le.trans (J2 [0, 1, 0, 0] rfl) (N4 2 (by (rw [List.map_append]; rfl)) ⟨rfl, rfl, rfl, rfl, rfl, trivial⟩))
     ·exact ⟨⟨by omega, by rw [H9]; simp; omega⟩, by omega, ⟨by omega, by omega⟩, fun q hq => by (rcases List.mem_append.1 hq with hq | hq; (exact hinv.2.2.2 q hq); (rw [List.mem_singleton.1 hq]; exact ⟨ok15.2.1, by first | (dsimp only; omega) | omega, ok15.2.2.1, ok15.2.2.2.1⟩))⟩
     ·omega
    ·intro h48
     have k48 := K2 h48; try simp only [A6] at k48
     refine D2 (A2 ?_)
     refine A5 rfl rfl rfl rfl rfl ?_
     refine A1 rfl rfl rfl (F8 2 rfl (A0 rfl) rfl N3 H5 rfl) ?_
     refine A1 rfl rfl rfl (M8 rfl M4 H5 Tryz.zeroValue49 rfl rfl rfl rfl (D7 (A0 rfl) (E9 _) H6) rfl rfl) ?_
     refine M6 (by' := 88) 3 rfl rfl rfl rfl M4 Tryz.type49 rfl rfl rfl rfl rfl rfl (A0 rfl) (A0 rfl) rfl (by first | omega | (simp only [A6, A8, B2, B6, A9, szR] at *; omega)) ?_
     intro v55_2
     refine B5 rfl rfl rfl rfl rfl ?_
     refine A4 (A2 ?_)
     refine A5 rfl rfl rfl rfl rfl ?_
     refine A1 rfl rfl rfl (P8 rfl (A0 rfl) C2 (by first | omega | (simp only [A6, A8, B2, B6, A9, szR] at *; omega))) ?_
     refine B5 rfl rfl rfl rfl rfl ?_
     refine A4 ?_
     refine m3 n cc l v t (n - 1) (x43.1) (l ++ [⟨x15.2.Kind, x15.2.Txn, t + (1 + x18.2), x15.2.Lead, x15.2.Reads, x15.2.Writes, x15.2.Yes⟩]) (v55_2) (t + (1 + x18.2)) ?_ ?_ (Le.trans (J2 [0, 1, 0, 0] rfl) (N4 2 (by (rw [List.map_append]; rfl)) ⟨rfl, rfl, rfl, rfl, rfl, trivial⟩))
     ·exact ⟨⟨by omega, by rw [H9]; simp; omega⟩, by omega, ⟨by omega, by omega⟩, fun q hq => by (rcases List.mem_append.1 hq with hq | hq; (exact hinv.2.2.2 q hq); (rw [List.mem_singleton.1 hq]; exact ⟨ok15.2.1, by first | (dsimp only; omega) | omega, ok15.2.2.1, ok15.2.2.2.1⟩))⟩
     ·omega
   ·intro h38
    refine D2 (A2 ?_)
    refine A5 rfl rfl rfl rfl rfl ?_
    refine A1 rfl rfl rfl (F8 1 rfl (A0 rfl) rfl N3 H5 rfl) ?_
    refine A1 rfl rfl rfl (M8 rfl M4 H5 Tryz.zeroValue49 rfl rfl rfl rfl (D7 (A0 rfl) (E9 _) H6) rfl rfl) ?_
    refine M6 (by' := 88) 2 rfl rfl rfl rfl M4 Tryz.type49 rfl rfl rfl rfl rfl rfl (A0 rfl) (A0 rfl) rfl (by first | omega | (simp only [A6, A8, B2, B6, A9, szR] at *; omega)) ?_
    intro v55_3
    refine B5 rfl rfl rfl rfl rfl ?_
    refine A4 (A2 ?_)
    refine A5 rfl rfl rfl rfl rfl ?_
    refine A1 rfl rfl rfl (P8 rfl (A0 rfl) C2 (by first | omega | (simp only [A6, A8, B2, B6, A9, szR] at *; omega))) ?_
    refine B5 rfl rfl rfl rfl rfl ?_
    refine A4 ?_
    refine m3 n cc l v t (n - 1) (x18.1) (l ++ [⟨x15.2.Kind, x15.2.Txn, t + (1 + x18.2), x15.2.Lead, x15.2.Reads, x15.2.Writes, x15.2.Yes⟩]) (v55_3) (t + (1 + x18.2)) ?_ ?_ (Le.trans (J2 [1, 0, 0] rfl) (N4 1 (by (rw [List.map_append]; rfl)) ⟨rfl, rfl, rfl, rfl, rfl, trivial⟩))
    ·exact ⟨⟨by omega, by rw [H9]; simp; omega⟩, by omega, ⟨by omega, by omega⟩, fun q hq => by (rcases List.mem_append.1 hq with hq | hq; (exact hinv.2.2.2 q hq); (rw [List.mem_singleton.1 hq]; exact ⟨ok15.2.1, by first | (dsimp only; omega) | omega, ok15.2.2.1, ok15.2.2.2.1⟩))⟩
    ·omega
  ·intro h23
   have k23 := of_decide_eq_false h23; try simp only [A6] at k23
   refine D2 (A3 (A3 (A2 ?_)))
   refine A1 rfl rfl rfl (B4 0 rfl B8 rfl C1 (A0 rfl) rfl) ?_
   refine A1 rfl rfl rfl (B3 1 rfl (A0 rfl) rfl D1 rfl) ?_
   refine A1 rfl rfl rfl (M0 rfl (A0 rfl) C2) ?_
   refine A5 rfl rfl rfl rfl rfl ?_
   refine B1 rfl rfl (D4 rfl rfl rfl) (fun hc => B4 0 rfl B8 rfl C1 (A0 rfl) rfl) ?_
   refine B1 rfl rfl (D4 rfl rfl rfl) (fun hc => B3 1 rfl (B0 rfl hc) rfl D1 rfl) ?_
   refine B1 rfl rfl (D4 rfl rfl rfl) (fun hc => M0 rfl (B0 rfl hc) C2) ?_
   refine A1 rfl rfl rfl (P5 rfl (A0 rfl) (G0 rfl)) ?_
   refine A5 rfl rfl rfl rfl rfl ?_
   refine B1 rfl rfl (B9 rfl rfl rfl) (fun hc => C6 rfl (A0 rfl)) ?_
   refine B1 rfl rfl (B9 rfl rfl rfl) (fun hc => U1 2 rfl M4 (B0 rfl hc) rfl) ?_
   refine B1 rfl rfl (B9 rfl rfl rfl) (fun hc => P1 rfl (B0 rfl hc) C2) ?_
   refine A1 rfl rfl rfl (I3 rfl (A0 rfl) (G0 rfl)) ?_
   refine A4 ?_
   refine C8 (A0 rfl) ?_ ?_
   ·intro h38
    have hll : 0 < l.length := by (cases hm : l with | nil => (rw [hm] at h38; simp at h38) | cons y q => simp)
    refine A3 (A2 ?_)
    refine A5 rfl rfl rfl rfl rfl ?_
    refine A5 rfl rfl rfl rfl rfl ?_
    refine A5 rfl rfl rfl rfl rfl ?_
    refine A1 rfl rfl rfl (U1 2 rfl M4 (A0 rfl) rfl) ?_
    refine I0 [0] rfl rfl rfl rfl Tryz.call100 rfl (S4 _ _ hcode _ _ (by simp only [A6]; omega) (by omega)) (A7 (A0 rfl) (A7 (A0 rfl) C9)) rfl ?_
    intro x43 ok43
    have hix : x43.2.toNat < l.length := by (have h9 := ok43.2; simp only [A6] at h9; omega)
    obtain ⟨z, hz⟩ := get_some hix
    have hrow : (l.map TRec.cs)[x43.2.toNat]? = some z.cs := by (rw [List.getElem?_map, hz]; rfl)
    refine A1 rfl rfl rfl (R9 2 rfl M4 H5 (A0 rfl) rfl (A0 rfl) (by omega) (by first | omega | (simp only [A6]; omega))) ?_
    refine A1 rfl rfl rfl (p5 2 rfl (A0 rfl) rfl N3 H5 hrow (by decide)) ?_
    refine G5 rfl rfl rfl rfl Tryz.zeroValue49 rfl ?_
    intro b7
    refine D9 0 rfl rfl rfl (A0 rfl) (A0 rfl) (E9 _) rfl H5 rfl ?_
    refine A4 (A3 (A2 ?_))
    refine A1 rfl rfl rfl (B4 0 rfl B8 rfl C1 (A0 rfl) rfl) ?_
    refine A1 rfl rfl rfl (B3 0 rfl (A0 rfl) rfl D1 rfl) ?_
    refine A1 rfl rfl rfl (M0 rfl (A0 rfl) C2) ?_
    refine A4 ?_
    refine C8 (A0 rfl) ?_ ?_
    ·intro h48
     have k48 := K3 h48; try simp only [A6] at k48
     refine A2 ?_
     refine A1 rfl rfl rfl (B4 1 rfl B8 rfl C1 (A0 rfl) rfl) ?_
     refine A1 rfl rfl rfl (B3 0 rfl (A0 rfl) rfl D1 rfl) ?_
     refine A1 rfl rfl rfl (B4 1 rfl B8 rfl C1 (A0 rfl) rfl) ?_
     refine J4 2 rfl rfl rfl (A0 rfl) (A0 rfl) (K6 _ _) rfl C1 rfl ?_
     refine A4 (A2 ?_)
     refine A5 rfl rfl rfl rfl rfl ?_
     refine A1 rfl rfl rfl (F8 2 rfl (A0 rfl) rfl N3 H5 rfl) ?_
     refine A1 rfl rfl rfl (M8 rfl M4 H5 Tryz.zeroValue49 rfl rfl rfl rfl (D7 (A0 rfl) (E9 _) H6) rfl rfl) ?_
     refine M6 (by' := 88) 3 rfl rfl rfl rfl M4 Tryz.type49 rfl rfl rfl rfl rfl rfl (A0 rfl) (A0 rfl) rfl (by first | omega | (simp only [A6, A8, B2, B6, A9, szR] at *; omega)) ?_
     intro v55_4
     refine B5 rfl rfl rfl rfl rfl ?_
     refine A4 (A2 ?_)
     refine A5 rfl rfl rfl rfl rfl ?_
     refine A1 rfl rfl rfl (P8 rfl (A0 rfl) C2 (by first | omega | (simp only [A6, A8, B2, B6, A9, szR] at *; omega))) ?_
     refine B5 rfl rfl rfl rfl rfl ?_
     refine A4 ?_
     refine m3 n cc l v t (n - 1) (x43.1) (l ++ [⟨x15.2.Kind, z.Txn, x15.2.Time, x15.2.Lead, x15.2.Reads, x15.2.Writes, x15.2.Yes⟩]) (v55_4) (t + (1 + x18.2)) ?_ ?_ (Le.trans (J2 [0, 1, 0, 0] rfl) (N4 2 (by (rw [List.map_append]; rfl)) ⟨rfl, rfl, rfl, rfl, rfl, trivial⟩))
     ·exact ⟨⟨by omega, by rw [H9]; simp; omega⟩, by omega, ⟨by omega, by omega⟩, fun q hq => by (rcases List.mem_append.1 hq with hq | hq; (exact hinv.2.2.2 q hq); (rw [List.mem_singleton.1 hq]; exact ⟨ok15.2.1, by first | (dsimp only; omega) | omega, ok15.2.2.1, ok15.2.2.2.1⟩))⟩
     ·omega
    ·intro h48
     have k48 := K2 h48; try simp only [A6] at k48
     refine D2 (A2 ?_)
     refine A5 rfl rfl rfl rfl rfl ?_
     refine A1 rfl rfl rfl (F8 2 rfl (A0 rfl) rfl N3 H5 rfl) ?_
     refine A1 rfl rfl rfl (M8 rfl M4 H5 Tryz.zeroValue49 rfl rfl rfl rfl (D7 (A0 rfl) (E9 _) H6) rfl rfl) ?_
     refine M6 (by' := 88) 3 rfl rfl rfl rfl M4 Tryz.type49 rfl rfl rfl rfl rfl rfl (A0 rfl) (A0 rfl) rfl (by first | omega | (simp only [A6, A8, B2, B6, A9, szR] at *; omega)) ?_
     intro v55_5
     refine B5 rfl rfl rfl rfl rfl ?_
     refine A4 (A2 ?_)
     refine A5 rfl rfl rfl rfl rfl ?_
     refine A1 rfl rfl rfl (P8 rfl (A0 rfl) C2 (by first | omega | (simp only [A6, A8, B2, B6, A9, szR] at *; omega))) ?_
     refine B5 rfl rfl rfl rfl rfl ?_
     refine A4 ?_
     refine m3 n cc l v t (n - 1) (x43.1) (l ++ [⟨x15.2.Kind, x15.2.Txn, x15.2.Time, x15.2.Lead, x15.2.Reads, x15.2.Writes, x15.2.Yes⟩]) (v55_5) (t + (1 + x18.2)) ?_ ?_ (Le.trans (J2 [0, 1, 0, 0] rfl) (N4 2 (by (rw [List.map_append]; rfl)) ⟨rfl, rfl, rfl, rfl, rfl, trivial⟩))
     ·exact ⟨⟨by omega, by rw [H9]; simp; omega⟩, by omega, ⟨by omega, by omega⟩, fun q hq => by (rcases List.mem_append.1 hq with hq | hq; (exact hinv.2.2.2 q hq); (rw [List.mem_singleton.1 hq]; exact ⟨ok15.2.1, by first | (dsimp only; omega) | omega, ok15.2.2.1, ok15.2.2.2.1⟩))⟩
     ·omega
   ·intro h38
    refine D2 (A2 ?_)
    refine A5 rfl rfl rfl rfl rfl ?_
    refine A1 rfl rfl rfl (F8 1 rfl (A0 rfl) rfl N3 H5 rfl) ?_
    refine A1 rfl rfl rfl (M8 rfl M4 H5 Tryz.zeroValue49 rfl rfl rfl rfl (D7 (A0 rfl) (E9 _) H6) rfl rfl) ?_
    refine M6 (by' := 88) 2 rfl rfl rfl rfl M4 Tryz.type49 rfl rfl rfl rfl rfl rfl (A0 rfl) (A0 rfl) rfl (by first | omega | (simp only [A6, A8, B2, B6, A9, szR] at *; omega)) ?_
    intro v55_6
    refine B5 rfl rfl rfl rfl rfl ?_
    refine A4 (A2 ?_)
    refine A5 rfl rfl rfl rfl rfl ?_
    refine A1 rfl rfl rfl (P8 rfl (A0 rfl) C2 (by first | omega | (simp only [A6, A8, B2, B6, A9, szR] at *; omega))) ?_
    refine B5 rfl rfl rfl rfl rfl ?_
    refine A4 ?_
    refine m3 n cc l v t (n - 1) (x18.1) (l ++ [⟨x15.2.Kind, x15.2.Txn, x15.2.Time, x15.2.Lead, x15.2.Reads, x15.2.Writes, x15.2.Yes⟩]) (v55_6) (t + (1 + x18.2)) ?_ ?_ (Le.trans (J2 [1, 0, 0] rfl) (N4 1 (by (rw [List.map_append]; rfl)) ⟨rfl, rfl, rfl, rfl, rfl, trivial⟩))
    ·exact ⟨⟨by omega, by rw [H9]; simp; omega⟩, by omega, ⟨by omega, by omega⟩, fun q hq => by (rcases List.mem_append.1 hq with hq | hq; (exact hinv.2.2.2 q hq); (rw [List.mem_singleton.1 hq]; exact ⟨ok15.2.1, by first | (dsimp only; omega) | omega, ok15.2.2.1, ok15.2.2.2.1⟩))⟩
    ·omega
 ·intro h11
  have k11 := of_decide_eq_false h11; try simp only [A6] at k11
  refine I1 ?_
  refine A3 (A2 ?_)
  refine A5 rfl rfl rfl rfl rfl ?_
  refine B5 rfl rfl rfl rfl rfl ?_
  refine A4 ?_
  refine C7 ?_
  (refine J6 [0, 0] ((cc, l, v)) ?_ rfl (by first | (dsimp only; rfl) | rfl) (N2 rfl (C3 rfl (by rfl))); exact ⟨show cc.p ≤ _ by omega, show l.length ≤ 11 by omega, hinv.2.2.2⟩)
theorem Am1 (b : Nat) (code : List Int) (hcode : ByteL code) (c : TCur) (hp : c.p ≤ 900000) : GSpec Tryz.prog 196 [AV.ptr b 0] [.box b 127 (curC code c)] (fun x : TCur × TState × Value × Value => x.1.p ≤ c.p + 1300 ∧ SO x.2.1 ∧ SB 33 x.2.1 ∧ x.2.1.size ≤ 33044) (fun x => .box b 127 (curC code x.1) :: TState.ow x.2.1 x.2.2) (fun x => AV.agg (TState.ocs x.2.1 x.2.2)) := by
 refine H7 Tryz.func196 rfl Tryz.ntmps196 rfl ?_
 refine A3 (A2 ?_)
 refine G5 rfl rfl rfl rfl Tryz.zeroValue30 rfl ?_
 intro b2
 refine A4 (A3 (A2 ?_))
 refine A5 rfl rfl rfl rfl rfl ?_
 refine I0 [1] rfl rfl rfl rfl Tryz.call78 rfl (Ao7 _ _ hcode _ (by omega)) (A7 (A0 rfl) C9) rfl ?_
 intro x7 ok7
 refine AA1 (Y6 [1] 7 rfl rfl (M2 (G2 (i := 0) rfl) I7) (S3 0 rfl rfl R7)) ?_
 refine I0 [] rfl rfl rfl rfl Tryz.call86 rfl (ofK_own x7.2.1 (by omega) (fun r hr => by have := (ok7.2.2 r hr).1; omega)) (A7 (A0 rfl) C9) rfl ?_
 intro x8 ok8
 refine A5 rfl rfl rfl rfl rfl ?_
 refine A1 rfl rfl rfl (F0 rfl (A0 rfl) rfl) ?_
 refine A1 rfl rfl rfl (F0 rfl (A0 rfl) rfl) ?_
 refine G5 rfl rfl rfl rfl Tryz.zeroValue30 rfl ?_
 intro b3
 refine D9 0 rfl rfl rfl (A0 rfl) (A0 rfl) (E9 _) rfl C5 rfl ?_
 refine B5 rfl rfl rfl rfl rfl ?_
 refine A4 (A3 ?_)
 refine J3 (by first | (simp only [TState.ow, TState.ocs, pick, O2, N7, N8, N5, M9, List.nil_append, O3, O4, List.append_nil, N6, List.take_zero, N9, List.drop_zero]; exact rfl) | exact rfl) ?_
 refine A2 ?_
 refine A1 rfl rfl rfl (F8 0 rfl (A0 rfl) rfl D8 C5 rfl) ?_
 refine D9 5 rfl rfl rfl (A0 rfl) (A0 rfl) (E9 _) rfl C5 rfl ?_
 refine A4 ?_
 refine C7 ?_
 (refine J6 [4, 1, 1] ((x7.1, stFrom zState x7.2.1, x8.1, x8.2.1)) ?_ rfl (by first | (dsimp only; rfl) | rfl) (N2 rfl (J9 (ys := _) 5 rfl rfl D8 C5 rfl)); exact ⟨ok7.1, Aa1 Ar2, Ar3 ⟨⟨by decide, by decide⟩, fun h hm => by cases hm⟩ (fun r hr => ⟨(ok7.2.2 r hr).2.1, (ok7.2.2 r hr).2.2⟩), Nat.le_trans (AT3 _) (st_phi ok7.2.1 fun r hr => (ok7.2.2 r hr).1)⟩)
end Go.Proofs.YtnlhbdkcgaeimaaGreat

set_option linter.unusedVariables false
set_option linter.unusedSimpArgs false
set_option maxRecDepth 100000
namespace Go.Proofs.YtnlhbdkcgaeimaaGreat
open Go Go.AV Go.M
attribute [local irreducible] OpW OpA OpS AWP FSpec ESpec GSpec OpE RetOk RetOkG RvDen Le Ev GuardIs SrcIs
end Go.Proofs.YtnlhbdkcgaeimaaGreat

set_option linter.unusedVariables false
set_option linter.unusedSimpArgs false
set_option maxRecDepth 100000
namespace Go.Proofs.YtnlhbdkcgaeimaaGreat
open Go Go.AV Go.M
attribute [local irreducible] OpW OpA OpS AWP FSpec ESpec GSpec OpE RetOk RetOkG RvDen Le Ev GuardIs SrcIs
end Go.Proofs.YtnlhbdkcgaeimaaGreat

set_option linter.unusedVariables false
set_option linter.unusedSimpArgs false
set_option maxRecDepth 100000
namespace Go.Proofs.YtnlhbdkcgaeimaaGreat
open Go Go.AV Go.M
attribute [local irreducible] OpW OpA OpS AWP FSpec ESpec GSpec OpE RetOk RetOkG RvDen Le Ev GuardIs SrcIs Int.tmod IntKind.wrap bandI
end Go.Proofs.YtnlhbdkcgaeimaaGreat

set_option linter.unusedVariables false
set_option linter.unusedSimpArgs false
set_option maxRecDepth 100000
set_option maxHeartbeats 1000000
namespace Go.Proofs.YtnlhbdkcgaeimaaGreat
open Go Go.AV Go.M
attribute [local irreducible] OpW OpA OpS AWP FSpec ESpec GSpec OpE RetOk RetOkG RvDen Le Ev GuardIs SrcIs
end Go.Proofs.YtnlhbdkcgaeimaaGreat

set_option linter.unusedVariables false
set_option linter.unusedSimpArgs false
set_option maxRecDepth 100000
set_option maxHeartbeats 1000000
namespace Go.Proofs.YtnlhbdkcgaeimaaGreat
open Go Go.AV Go.M
attribute [local irreducible] OpW OpA OpS AWP FSpec ESpec GSpec OpE RetOk RetOkG RvDen Le Ev GuardIs SrcIs
end Go.Proofs.YtnlhbdkcgaeimaaGreat

set_option linter.unusedVariables false
set_option linter.unusedSimpArgs false
namespace Go.Proofs.YtnlhbdkcgaeimaaGreat
open Go Go.Proofs Go.RowKit Go.Shelf Go.M
attribute [local go_sem] Oper.semAt_some
def upto {α : Type} (f : Nat → α) (k : Nat) : List α := (List.range k).map f
theorem Ae4 {α : Type} (f : Nat → α) (k : Nat) : upto f (k + 1) = upto f k ++ [f k] := by simp [upto, List.range_succ]
theorem Ao8 {α : Type} (f : Nat → α) (k : Nat) : (upto f k).length = k := by simp [upto]
def verV (v : TVer) : Value := .agg #[.int .i64 v.Time, .string ⟨v.Val.toArray⟩, .bool v.Gone]
def backF (zs : List TVer) (j : Nat) : Int × TVer := ((zs.length : Int) - 1 - j, zs[zs.length - 1 - j]?.getD default)
def VersAt (W : World) (b off : Nat) (zs : List TVer) : Prop := ∀ j v, zs[j]? = some v → W.cell? ⟨b, off + j * 3, none⟩ = some (.int .i64 v.Time) ∧ W.cell? ⟨b, off + j * 3 + 1, none⟩ = some (.string ⟨v.Val.toArray⟩) ∧ W.cell? ⟨b, off + j * 3 + 2, none⟩ = some (.bool v.Gone)
theorem VersAt.below {n₀ : Nat} {A B : World} {b off : Nat} {zs : List TVer} (h : Below n₀ A B) (hb : b < n₀) (k : VersAt A b off zs) : VersAt B b off zs := fun j v hv =>
  let ⟨h1, h2, h3⟩ := k j v hv
  ⟨(h.cell (p := ⟨b, _, none⟩) hb).trans h1, (h.cell (p := ⟨b, _, none⟩) hb).trans h2, (h.cell (p := ⟨b, _, none⟩) hb).trans h3⟩
set_option maxRecDepth 100000 in
set_option maxHeartbeats 2000000 in
theorem back1_in (F : Fence) (n : Nat) (hf : F.fn 289) (hro : F.round = none) (hn : 1 ≤ n) (l Bs n₀ b off cap : Nat) (zs : List TVer) (hreach : zs.length * 32 ≤ 140737488351232) (hb : b < n₀) (J Jx : List (Int × TVer) → World → Prop)
    (hY : ∀ pre x W, J pre W → pre.length < zs.length → YieldAt F (n - 1) Tryz.prog l #[.int .i64 x.1, verV x.2] W fun e W' =>
      (e = .returned (.bool true) ∧ J (pre ++ [x]) W' ∧ Below n₀ W W') ∨ (e = .returned (.bool false) ∧ Jx (pre ++ [x]) W'))
    (W : World) (hBs : W.cell? ⟨Bs, 0, none⟩ = some (.slice (some ⟨b, off, none⟩) zs.length cap)) (hBn : Bs < n₀) (hc : VersAt W b off zs) (h0 : J [] W) :
    CallsIn F n Tryz.prog 289 #[.func (.yield l) #[] #[], .pointer (some ⟨Bs, 0, none⟩)] W fun e W' => (∃ v, e = .returned v) ∧
      ((∃ ys, ys = upto (backF zs) zs.length ∧ J ys W') ∨ (∃ pre, (∃ k, k ≤ zs.length ∧ pre = upto (backF zs) k) ∧ Jx pre W')) := by
  refine callsIn_of_wp Tryz.func289 rfl hf ?_ hro
  simp only [Tryz.ntmps289, List.size_toArray, B2, B6, Nat.reduceAdd, Nat.reduceSub, Array.replicate_succ, Array.replicate_zero, List.push_toArray, List.append_toArray, List.nil_append, M9]
  gi_wp2
  gi_loopw [3] (fun i wr => ∃ k : Nat, k ≤ zs.length ∧ i = .int .i64 ((zs.length : Int) - 1 - k) ∧ J (upto (backF zs) k) wr ∧ Below n₀ W wr)
    (fun i _ => (intOf i + 1).toNat)
  case atStart => exact ⟨0, Nat.zero_le _, by simp, h0, Below.refl _ _⟩
  case round =>
    obtain ⟨k, hk, rfl, hJs, hnx⟩ := hrel
    have hBs' := (hnx.cell (p := ⟨Bs, 0, none⟩) hBn).trans hBs
    by_cases hlt : k < zs.length
    · have hz : zs[zs.length - 1 - k]? = some (backF zs k).2 := by unfold backF; rw [List.getElem?_eq_getElem (by omega)]; rfl
      obtain ⟨c1, c2, c3⟩ := (hc.below hnx hb) _ _ hz
      obtain ⟨fn, tmps, assign, body, hy, hR⟩ := hY _ (backF zs k) wr hJs (by rw [Ao8]; exact hlt)
      have e0 : ((zs.length : Int) - 1 - k).toNat = zs.length - 1 - k := by omega
      have hge : (0 : Int) ≤ (zs.length : Int) - 1 - k := by omega
      have hltl : (zs.length : Int) - 1 - k < zs.length := by omega
      dsimp only [verV] at hy
      rw [show (backF zs k).1 = (zs.length : Int) - 1 - k from rfl] at hy
      gi_wp2
      refine hR.mono ?_
      rintro e W3 (⟨rfl, hJ3, hk3⟩ | ⟨rfl, hJx3⟩)
      · gi_wp2
        go_roundw
        case rel => exact ⟨k + 1, by omega, by simp; omega, by rw [Ae4]; exact hJ3, hnx.trans hk3⟩
        case measure => simp [intOf]; omega
      · gi_wp2
        refine bodyPost_ret (results_none rfl _ _ _) rfl ?_
        exact ⟨⟨_, rfl⟩, .inr ⟨_, ⟨k + 1, by omega, (Ae4 _ _).symm⟩, hJx3⟩⟩
    · obtain rfl : k = zs.length := by omega
      gi_wp2
      go_end0
      exact ⟨⟨_, rfl⟩, .inl ⟨_, rfl, hJs⟩⟩
set_option maxRecDepth 100000 in
set_option maxHeartbeats 1000000 in
theorem Am2 (F : Fence) (n : Nat) (hf : F.fn 289) (hro : F.round = none) (l Bs cap : Nat) (oa : Option Addr) (J : List (Int × TVer) → World → Prop) (W : World) (hBs : W.cell? ⟨Bs, 0, none⟩ = some (.slice oa 0 cap)) (h0 : J [] W) :
    CallsIn F n Tryz.prog 289 #[.func (.yield l) #[] #[], .pointer (some ⟨Bs, 0, none⟩)] W fun e W' => (∃ v, e = .returned v) ∧ J [] W' := by
  refine callsIn_of_wp Tryz.func289 rfl hf ?_ hro
  simp only [Tryz.ntmps289, List.size_toArray, B2, B6, Nat.reduceAdd, Nat.reduceSub, Array.replicate_succ, Array.replicate_zero, List.push_toArray, List.append_toArray, List.nil_append, M9]
  gi_wp2
  gi_loopw [3] (fun i wr => i = .int .i64 (-1) ∧ J [] wr) (fun _ _ => 0)
  case atStart => exact ⟨rfl, h0⟩
  case round =>
    obtain ⟨rfl, hJs⟩ := hrel
    gi_wp2
    go_end0
    exact ⟨⟨_, rfl⟩, hJs⟩
set_option maxHeartbeats 1000000 in
theorem back_in (F : Fence) (n : Nat) (hf : F.fn 264) (hro : F.round = none) (a : Option Addr) (len cap : Nat) (w : World) :
    CallsIn F n Tryz.prog 264 #[.slice a len cap] w fun e w' => e = .returned (.func (.func 289) #[] #[.pointer (some ⟨w.heap.size, 0, none⟩)]) ∧ w' = w.alloc (.cells #[.slice a len cap] 140) := by
  refine callsIn_of_wp Tryz.func264 rfl hf ?_ hro
  simp only [Tryz.ntmps264, List.size_toArray, B2, B6, Nat.reduceAdd, Nat.reduceSub, Array.replicate_succ, Array.replicate_zero, List.push_toArray, List.append_toArray, List.nil_append, M9]
  gi_wp2
  go_ret
  exact ⟨rfl, rfl⟩
def VersIn (n₀ : Nat) (W : World) (oa : Option Addr) (zs : List TVer) : Prop := zs = [] ∨ ∃ b off, oa = some ⟨b, off, none⟩ ∧ b < n₀ ∧ VersAt W b off zs
theorem Au5 (F : Fence) (n : Nat) (hf : F.fn 289) (hro : F.round = none) (hn : 1 ≤ n) (Bs n₀ : Nat) (oa : Option Addr) (cap : Nat) (zs : List TVer) (hreach : zs.length * 32 ≤ 140737488351232) (w : World) (hBn : Bs < n₀) (hn₀ : n₀ ≤ w.heap.size)
    (hc : w.cell? ⟨Bs, 0, none⟩ = some (.slice oa zs.length cap)) (hI : VersIn n₀ w oa zs) :
    SeqStopsK F n Tryz.prog 289 #[.pointer (some ⟨Bs, 0, none⟩)] (fun x : Int × TVer => #[Value.int .i64 x.1, verV x.2]) (Below n₀) (fun ys => ys = upto (backF zs) zs.length) (fun pre => ∃ k, k ≤ zs.length ∧ pre = upto (backF zs) k) zs.length w := fun l J Jx W hW _ _ hY h0 => by
  have hc' := (hW.cell (p := ⟨Bs, 0, none⟩) (show Bs < w.heap.size by omega)).trans hc
  rcases hI with rfl | ⟨b, off, rfl, hb, hcs⟩
  · exact (Am2 F n hf hro l Bs cap oa J W hc' h0).mono fun e W' ⟨he, hj⟩ => ⟨he, .inl ⟨_, rfl, hj⟩⟩
  · exact back1_in F n hf hro hn l Bs n₀ b off cap zs hreach hb J Jx hY W hc' hBn (hcs.below (hW.mono hn₀) hb) h0
end Go.Proofs.YtnlhbdkcgaeimaaGreat

set_option linter.unusedVariables false
set_option linter.unusedSimpArgs false
namespace Go.Proofs.YtnlhbdkcgaeimaaGreat
open Go Go.Proofs Go.RowKit Go.Shelf Go.M
attribute [local go_sem] Oper.semAt_some
theorem Am3 (zs : List TVer) (k : Nat) (hk : k ≤ zs.length) : (upto (backF zs) k).map Prod.snd = zs.reverse.take k := by
  apply List.ext_getElem
  · simp [upto]; omega
  · intro i h1 h2
    have : i < zs.length := by simp at h2; omega
    simp [upto, backF]
    rw [List.getElem?_eq_getElem (by omega)]; rfl
theorem val_none {c : TCell} {t : Int} (h : ∀ x ∈ upto (backF c.Vers) c.Vers.length, ¬ x.2.Time ≤ t) : cellVal c t = ([], false) := by
  have e := Am3 c.Vers c.Vers.length (Nat.le_refl _)
  rw [← List.length_reverse, List.take_length] at e
  unfold cellVal
  rw [← e, List.length_reverse]
  have : ((upto (backF c.Vers) c.Vers.length).map Prod.snd).find? (fun v => decide (v.Time ≤ t)) = none := by
    rw [List.find?_eq_none]
    intro v hv
    obtain ⟨x, hx, rfl⟩ := List.mem_map.1 hv
    simpa using h x hx
  rw [this]
theorem val_some {c : TCell} {t : Int} {k : Nat} {pre : List (Int × TVer)} {x : Int × TVer} (hk : k ≤ c.Vers.length) (he : pre ++ [x] = upto (backF c.Vers) k) (h : ∀ y ∈ pre, ¬ y.2.Time ≤ t) (hx : x.2.Time ≤ t) : cellVal c t = (x.2.Val, !x.2.Gone) := by
  have e := Am3 c.Vers k hk
  rw [← he, List.map_append] at e
  have e2 : c.Vers.reverse = (pre.map Prod.snd ++ [x.2]) ++ c.Vers.reverse.drop k := by
    have := List.take_append_drop k c.Vers.reverse
    rw [← e] at this; exact this.symm
  unfold cellVal
  have hn : (pre.map Prod.snd).find? (fun v => decide (v.Time ≤ t)) = none := by
    rw [List.find?_eq_none]
    intro v hv
    obtain ⟨y, hy, rfl⟩ := List.mem_map.1 hv
    simpa using h y hy
  rw [e2, List.append_assoc, List.find?_append, hn, Option.none_or, List.singleton_append, List.find?_cons]
  simp only [decide_eq_true hx]
def NoneAt (t : Int) (pre : List (Int × TVer)) : Prop := ∀ x ∈ pre, ¬ x.2.Time ≤ t
def OneAt (t : Int) (pre : List (Int × TVer)) (v : TVer) : Prop := ∃ pre0 i, pre = pre0 ++ [(i, v)] ∧ NoneAt t pre0 ∧ v.Time ≤ t
theorem Ao9 {t : Int} {pre : List (Int × TVer)} {x : Int × TVer} (h : NoneAt t pre) (k : t < x.2.Time) : NoneAt t (pre ++ [x]) := fun y hy => by
  rcases List.mem_append.1 hy with e | e
  · exact h y e
  · simp at e; subst e; omega
set_option maxRecDepth 100000 in
set_option maxHeartbeats 4000000 in
theorem at_in (F : Fence) (n : Nat) (h1f : F.fn 213) (h2f : F.fn 264) (h3f : F.fn 289) (hro : F.round = none) (hn : 6 ≤ n) (c : TCell) (t : Int) (oa : Option Addr) (cap : Nat) (hreach : c.Vers.length * 32 ≤ 140737488351232) (w : World) (hI : VersIn w.heap.size w oa c.Vers) :
    CallsIn F n Tryz.prog 213 #[.agg #[.string ⟨c.Key.toArray⟩, .slice oa c.Vers.length cap], .int .i64 t] w fun e W' => e = .returned (.tuple #[.string ⟨(cellVal c t).1.toArray⟩, .bool (cellVal c t).2]) ∧ Below w.heap.size w W' := by
  have h1 : 1 ≤ n := by omega
  refine callsIn_of_wp_marks Tryz.func213 rfl h1f ?_ hro
  simp only [Tryz.ntmps213, List.size_toArray, B2, B6, Nat.reduceAdd, Nat.reduceSub, Array.replicate_succ, Array.replicate_zero, List.push_toArray, List.append_toArray, List.nil_append, M9]
  gi_wp2_with (gi_at_call 264; refine (back_in F (n - 1) h2f hro _ _ _ _).mono ?_; rintro e w' ⟨rfl, rfl⟩)
  have b3 := (((Boxed.new (w.alloc (.cells #[.string ⟨c.Key.toArray⟩, .slice oa c.Vers.length cap] 142)) 3 (.int .i64 t)).alloc (.cells #[.string { data := #[] }] 9)).alloc (.cells #[.bool false] 4)).alloc (.cells #[.slice oa c.Vers.length cap] 140)
  have b4 := ((Boxed.new ((w.alloc (.cells #[.string ⟨c.Key.toArray⟩, .slice oa c.Vers.length cap] 142)).alloc (.cells #[.int .i64 t] 3)) 9 (.string { data := #[] })).alloc (.cells #[.bool false] 4)).alloc (.cells #[.slice oa c.Vers.length cap] 140)
  have b5 := (Boxed.new (((w.alloc (.cells #[.string ⟨c.Key.toArray⟩, .slice oa c.Vers.length cap] 142)).alloc (.cells #[.int .i64 t] 3)).alloc (.cells #[.string { data := #[] }] 9)) 4 (.bool false)).alloc (.cells #[.slice oa c.Vers.length cap] 140)
  have bs := Boxed.new ((((w.alloc (.cells #[.string ⟨c.Key.toArray⟩, .slice oa c.Vers.length cap] 142)).alloc (.cells #[.int .i64 t] 3)).alloc (.cells #[.string { data := #[] }] 9)).alloc (.cells #[.bool false] 4)) 140 (.slice oa c.Vers.length cap)
  simp only [World.size_alloc] at b3 b4 b5 bs
  have hB0 : Below w.heap.size w (((((w.alloc (.cells #[.string ⟨c.Key.toArray⟩, .slice oa c.Vers.length cap] 142)).alloc (.cells #[.int .i64 t] 3)).alloc (.cells #[.string { data := #[] }] 9)).alloc (.cells #[.bool false] 4)).alloc (.cells #[.slice oa c.Vers.length cap] 140)) := (((((Below.refl _ w).alloc (Nat.le_refl _) _).alloc (by simp) _).alloc (by simp; omega) _).alloc (by simp; omega) _).alloc (by simp; omega) _
  have hsz : (((((w.alloc (.cells #[.string ⟨c.Key.toArray⟩, .slice oa c.Vers.length cap] 142)).alloc (.cells #[.int .i64 t] 3)).alloc (.cells #[.string { data := #[] }] 9)).alloc (.cells #[.bool false] 4)).alloc (.cells #[.slice oa c.Vers.length cap] 140)).heap.size = w.heap.size + 5 := by simp
  obtain ⟨W0, hW0⟩ : ∃ W0, ((((w.alloc (.cells #[.string ⟨c.Key.toArray⟩, .slice oa c.Vers.length cap] 142)).alloc (.cells #[.int .i64 t] 3)).alloc (.cells #[.string { data := #[] }] 9)).alloc (.cells #[.bool false] 4)).alloc (.cells #[.slice oa c.Vers.length cap] 140) = W0 := ⟨_, rfl⟩
  rw [hW0] at b3 b4 b5 bs hB0 hsz ⊢
  clear hW0
  have hI0 : VersIn W0.heap.size W0 oa c.Vers := by
    rcases hI with h | ⟨b, off, e, hb, hv⟩
    · exact .inl h
    · exact .inr ⟨b, off, e, by omega, hv.below hB0 hb⟩
  refine wpIn_rangeFunc_ownH hro h1 (gf := 289) (lb := #[.pointer (some ⟨w.heap.size + 1 + 1 + 1 + 1, 0, none⟩)]) rfl h3f (enters_of Tryz.func289 (by kernel_rfl) rfl)
    (Au5 F (n - 1) h3f hro (by omega) (w.heap.size + 1 + 1 + 1 + 1) W0.heap.size oa cap c.Vers hreach W0 (by omega) (Nat.le_refl _) bs.cell hI0) belowK_t (belowK_b (Nat.le_refl _)) (Below.refl _ _) (fun _ => rfl)
    (fun pre W => (((NoneAt t pre ∧ Boxed W (w.heap.size + 1) 3 (.int .i64 t)) ∧ Boxed W (w.heap.size + 1 + 1) 9 (.string { data := #[] })) ∧ Boxed W (w.heap.size + 1 + 1 + 1) 4 (.bool false)) ∧ (Below w.heap.size w W ∧ Below W0.heap.size W0 W))
    (fun cd pre W => (∃ v, (((cd = .ret ∧ OneAt t pre v) ∧ Boxed W (w.heap.size + 1 + 1) 9 (.string ⟨v.Val.toArray⟩)) ∧ Boxed W (w.heap.size + 1 + 1 + 1) 4 (.bool (!v.Gone)))) ∧ Below w.heap.size w W)
    (OwnFrom.and (OwnFrom.and (OwnFrom.and (OwnFrom.and (ownFrom_pure _ _) (Own.from (boxed_own _ _ _) _)) (Own.from (boxed_own _ _ _) _)) (Own.from (boxed_own _ _ _) _)) (OwnFrom.and (ownFrom_below (Nat.le_refl _) (by omega)) (ownFrom_below (Nat.le_refl _) (Nat.le_refl _))))
    (fun cd => OwnFrom.and (fun s X Y row hs hg hr => by
      obtain ⟨v, ⟨e1, e2⟩, e3⟩ := hs
      exact ⟨v, ⟨e1, boxed_own _ _ (fun (_ : Unit) => Value.string ⟨v.Val.toArray⟩) () X Y row e2 hg (fun r e => (hr r e).2)⟩, boxed_own _ _ (fun (_ : Unit) => Value.bool (!v.Gone)) () X Y row e3 hg (fun r e => (hr r e).2)⟩) (ownFrom_below (Nat.le_refl _) (by omega)))
    ⟨⟨⟨⟨fun _ h => by simp at h, b3⟩, b4⟩, b5⟩, hB0, Below.refl _ _⟩
    (fun x a' W => ∃ Bx, w.heap.size + 1 + 1 + 1 < Bx ∧ (W.cell? ⟨Bx, 0, none⟩ = some (.int .i64 x.2.Time) ∧ W.cell? ⟨Bx, 1, none⟩ = some (.string ⟨x.2.Val.toArray⟩) ∧ W.cell? ⟨Bx, 2, none⟩ = some (.bool x.2.Gone)) ∧ a' = { tmps := #[.agg #[.string ⟨c.Key.toArray⟩, .slice oa c.Vers.length cap], .int .i64 t, .pointer (some ⟨w.heap.size, 0, none⟩), .pointer (some ⟨w.heap.size + 1, 0, none⟩), .pointer (some ⟨w.heap.size + 1 + 1, 0, none⟩), .pointer (some ⟨w.heap.size + 1 + 1 + 1, 0, none⟩), undef, .pointer (some ⟨Bx, 0, none⟩), .pointer (some ⟨w.heap.size, 1, none⟩), .slice oa c.Vers.length cap, .func (.func 289) #[] #[.pointer (some ⟨w.heap.size + 1 + 1 + 1 + 1, 0, none⟩)], .int .i64 x.1, verV x.2, undef, undef, undef, undef, undef, undef, undef, undef, undef], defers := [] })
    (fun x a' _ X Y row hs hg hr => by
      obtain ⟨Bx, e1, ⟨e2, e3, e4⟩, e5⟩ := hs
      exact ⟨Bx, e1, ⟨cell_kept e2 hg (fun r e => (hr r e).2), cell_kept e3 hg (fun r e => (hr r e).2), cell_kept e4 hg (fun r e => (hr r e).2)⟩, e5⟩)
    ?assign ?body ?done ?stop
  case assign =>
    rintro l pre x W K ⟨⟨⟨⟨hp, bt⟩, bv⟩, bg⟩, hB1, hB2⟩ hK
    dsimp only [verV]
    have hW0 := hB2.size
    gi_wp2
    refine hK _ _ ((KeepsOthers.alloc _ _).from _) ((Below.refl _ W).alloc (by omega) _) ⟨⟨⟨⟨hp, bt.alloc _⟩, bv.alloc _⟩, bg.alloc _⟩, hB1.alloc hB1.size _, hB2.alloc hB2.size _⟩ ⟨W.heap.size, bg.lt, ⟨?_, ?_, ?_⟩, rfl⟩
    · unfold World.cell?; rw [World.alloc_heap_new]; rfl
    · unfold World.cell?; rw [World.alloc_heap_new]; rfl
    · unfold World.cell?; rw [World.alloc_heap_new]; rfl
  case body =>
    rintro l pre x a' W hl ⟨r, hr⟩ ⟨⟨⟨⟨hp, bt⟩, bv⟩, bg⟩, hB1, hB2⟩ ⟨Bx, hBx, ⟨c1, c2, c3⟩, rfl⟩ hlt
    have ct := bt.cell
    have cv := bv.cell
    have fv := bv.frozen
    have cg := bg.cell
    have fg := bg.frozen
    dsimp only [verV]
    gi_wp2
    · have hxy : x.2.Time ≤ t := by assumption
      have bv2 := (bv.set (.string ⟨x.2.Val.toArray⟩)).other (show w.heap.size + 1 + 1 ≠ w.heap.size + 1 + 1 + 1 by omega) (.bool (!x.2.Gone))
      have bg2 := (bg.other (show w.heap.size + 1 + 1 + 1 ≠ w.heap.size + 1 + 1 by omega) (.string ⟨x.2.Val.toArray⟩)).set (.bool (!x.2.Gone))
      have hB3 := (hB1.setCell (p := ⟨w.heap.size + 1 + 1, 0, none⟩) (by simp; omega) (.string ⟨x.2.Val.toArray⟩)).setCell (p := ⟨w.heap.size + 1 + 1 + 1, 0, none⟩) (by simp; omega) (.bool (!x.2.Gone))
      have hone : OneAt t (pre ++ [x]) x.2 := ⟨pre, x.1, rfl, hp, hxy⟩
      gi_region
      all_goals gi_wp2
      all_goals exact ⟨((KeepsOthers.setCell _ _ _).trans ((KeepsOthers.setCell _ _ _).trans (KeepsOthers.drew _))).from _, ⟨x.2, ⟨⟨rfl, hone⟩, bv2⟩, bg2⟩, hB3.drew⟩
    · rename_i hxy
      exact ⟨KeepsFrom.refl _ _, Below.refl _ _, ⟨⟨⟨Ao9 hp hxy, bt⟩, bv⟩, bg⟩, hB1, hB2⟩
  case done =>
    rintro D zs W hD rfl ⟨⟨⟨⟨hp, bt⟩, bv⟩, bg⟩, hB1, hB2⟩ hK
    have cv := bv.cell
    have fv := bv.frozen
    have cg := bg.cell
    have fg := bg.frozen
    gi_wp2
    have hK1 := (KeepsOthers.setCell W ⟨w.heap.size + 1 + 1, 0, none⟩ (.string { data := #[] })).same D _ hK rfl
    have hK' := (KeepsOthers.setCell _ ⟨w.heap.size + 1 + 1 + 1, 0, none⟩ (.bool false)).same D _ hK1 rfl
    refine ⟨by simp, .inl ⟨_, _, rfl, run_takeDeferred hK', ?_⟩⟩
    have bv2 := (bv.set (.string { data := #[] })).other (show w.heap.size + 1 + 1 ≠ w.heap.size + 1 + 1 + 1 by omega) (.bool false)
    have bg2 := (bg.other (show w.heap.size + 1 + 1 + 1 ≠ w.heap.size + 1 + 1 by omega) (.string { data := #[] })).set (.bool false)
    have hc4 := cell_kept bv2.cell (grownBy_putObj' _ D (.deferred none)) (fun r e => by cases e; exact ⟨_, hK', rfl⟩)
    have hc5 := cell_kept bg2.cell (grownBy_putObj' _ D (.deferred none)) (fun r e => by cases e; exact ⟨_, hK', rfl⟩)
    refine ⟨.tuple #[.string { data := #[] }, .bool false], ?_, by rw [val_none hp], ((hB1.setCell (p := ⟨w.heap.size + 1 + 1, 0, none⟩) (by simp; omega) _).setCell (p := ⟨w.heap.size + 1 + 1 + 1, 0, none⟩) (by simp; omega) _).trans (belowK_b (w := w) (Nat.le_refl _) _ D _ _ (by omega) hK' rfl rfl)⟩
    simp [results, Tryz.f213, go_sem, hc4, hc5]
  case stop =>
    rintro D cd pre W hD ⟨k, hk, hpre⟩ ⟨⟨v, ⟨⟨rfl, hone⟩, bv⟩, bg⟩, hB1⟩ hK
    gi_wp2
    refine ⟨by simp, .inl ⟨_, _, rfl, run_takeDeferred hK, ?_⟩⟩
    have hc4 := cell_kept bv.cell (grownBy_putObj' _ D (.deferred none)) (fun r e => by cases e; exact ⟨_, hK, rfl⟩)
    have hc5 := cell_kept bg.cell (grownBy_putObj' _ D (.deferred none)) (fun r e => by cases e; exact ⟨_, hK, rfl⟩)
    obtain ⟨pre0, i, he, hn0, hvt⟩ := hone
    have hval := val_some (x := (i, v)) hk (he.symm.trans hpre) hn0 hvt
    refine ⟨.tuple #[.string ⟨v.Val.toArray⟩, .bool (!v.Gone)], ?_, by rw [hval], hB1.trans (belowK_b (w := w) (Nat.le_refl _) W D _ _ (by omega) hK rfl rfl)⟩
    simp [results, Tryz.f213, go_sem, hc4, hc5]
open Go.AV in
open Go.AV in
theorem at_spec (c : TCell) (t : Int) (hs : c.Vers.length ≤ 4194304) : FSpec Tryz.prog 213 [AV.agg c.cs, AV.int t] (AV.tup [AV.str (cellVal c t).1, AV.bool (cellVal c t).2]) := fspec_mk fun R w vs hr hd => by
  obtain ⟨v0, v1, rfl⟩ : ∃ a b, vs = [a, b] := by
    match vs, hd.1 with
    | [a, b], _ => exact ⟨a, b, rfl⟩
  obtain ⟨us, rfl, hdc⟩ := hd.2 0 v0 _ rfl rfl
  have d1 : v1 = .int .i64 t := hd.2 1 v1 _ rfl rfl
  subst d1
  obtain ⟨u0, u1, rfl⟩ : ∃ a b, us = [a, b] := by
    match us, hdc.1 with
    | [a, b], _ => exact ⟨a, b, rfl⟩
  have e0 : u0 = .string ⟨c.Key.toArray⟩ := (hdc.2 0 u0 _ rfl rfl).1
  subst e0
  obtain ⟨oa, cap, e1, h1, h2, h3, h4⟩ := (hdc.2 1 u1 _ rfl rfl).1
  subst e1
  have hI : VersIn w.heap.size w oa c.Vers := by
    by_cases hn : c.Vers = []
    · exact .inl hn
    · obtain ⟨a, rfl, hca⟩ := h4 (by simpa using hn)
      have hget : ∀ (j : Nat) (v : TVer) (i : Nat) (x : AV), c.Vers[j]? = some v → (TVer.cs v)[i]? = some x → ∃ u, rcell R (a.add (j * 3 + i)) = some u ∧ x.den R u ∧ u.oneCell' = true := fun j v i x hj hx =>
        hca _ x (Y8 h3 (by rw [List.getElem?_map, hj]; rfl) hx)
      obtain ⟨b, off, sp⟩ := a
      have hsp : sp = none := by
        obtain ⟨v, hv⟩ := get_some (show 0 < c.Vers.length from List.length_pos_iff.2 hn)
        obtain ⟨u, hu, _⟩ := hget 0 v 0 _ hv rfl
        unfold rcell at hu
        cases sp with
        | none => rfl
        | some s => simp [Addr.add] at hu; split at hu <;> cases hu
      subst hsp
      refine .inr ⟨b, off, rfl, ?_, fun j v hj => ?_⟩
      · obtain ⟨v, hv⟩ := get_some (show 0 < c.Vers.length from List.length_pos_iff.2 hn)
        obtain ⟨u, hu, _⟩ := hget 0 v 0 _ hv rfl
        unfold rcell at hu
        split at hu
        · rename_i hb
          exact (Array.getElem?_eq_some_iff.1 (hr _ _ hb)).1
        · cases hu
      · obtain ⟨x0, k0, k0', _⟩ := hget j v 0 _ hj rfl
        obtain ⟨x1, k1, k1', _⟩ := hget j v 1 _ hj rfl
        obtain ⟨x2, k2, k2', _⟩ := hget j v 2 _ hj rfl
        have k0'' : x0 = .int .i64 v.Time := k0'
        have k1'' : x1 = .string ⟨v.Val.toArray⟩ := k1'
        have k2'' : x2 = .bool v.Gone := k2'
        subst k0''; subst k1''; subst k2''
        rw [show ((⟨b, off, none⟩ : Addr).add (j * 3 + 0)) = ⟨b, off + j * 3, none⟩ by simp [Addr.add]] at k0
        rw [show ((⟨b, off, none⟩ : Addr).add (j * 3 + 1)) = ⟨b, off + j * 3 + 1, none⟩ by simp [Addr.add, Nat.add_assoc]] at k1
        rw [show ((⟨b, off, none⟩ : Addr).add (j * 3 + 2)) = ⟨b, off + j * 3 + 2, none⟩ by simp [Addr.add, Nat.add_assoc]] at k2
        exact ⟨i0 hr k0, i0 hr k1, i0 hr k2⟩
  refine (callsIn_wide (n := 8)).1 ?_
  have hl : (c.Vers.map TVer.cs).length = c.Vers.length := A6 _
  rw [show ([Value.agg [.string ⟨c.Key.toArray⟩, .slice oa (c.Vers.map TVer.cs).length cap].toArray, .int .i64 t] : List Value).toArray = #[.agg #[.string ⟨c.Key.toArray⟩, .slice oa c.Vers.length cap], .int .i64 t] from by rw [hl]]
  refine (at_in Fence.wide 8 trivial trivial trivial rfl (by omega) c t oa cap (by omega) w hI).mono ?_
  rintro e W' ⟨rfl, hB⟩
  refine ⟨_, R, rfl, ⟨[.string ⟨(cellVal c t).1.toArray⟩, .bool (cellVal c t).2], rfl, DenV.cons rfl (DenV.cons rfl (DenV.nil R))⟩, fun b o hb => ?_, fun _ _ => rfl, hB⟩
  have := hr b o hb
  rw [hB.block b (Array.getElem?_eq_some_iff.1 this).1]; exact this
end Go.Proofs.YtnlhbdkcgaeimaaGreat

set_option linter.unusedVariables false
set_option linter.unusedSimpArgs false
set_option maxRecDepth 100000
namespace Go.Proofs.YtnlhbdkcgaeimaaGreat
open Go Go.AV Go.M
attribute [local irreducible] OpW OpA OpS AWP FSpec ESpec RetOk RvDen Le Ev GuardIs
theorem Ap0 (l : List TCell) (k : Str) (t : Int) (ha : adj cLess l = true) (hs : sizeL TCell.size l ≤ 4194304) : FSpec Tryz.prog 128 [AV.list 2 (l.map TCell.cs), AV.str k, AV.int t] (AV.tup [AV.str (cellAt l k t).1, AV.bool (cellAt l k t).2]) := by
 have hl : l.length ≤ 4194304 := Nat.le_trans O1 hs
 refine E7 Tryz.func128 rfl Tryz.ntmps128 rfl ?_
 refine A3 (A2 ?_)
 refine A1 rfl rfl rfl (C0 rfl (P0 (l := []) rfl)) ?_
 refine A1 rfl rfl rfl (C0 rfl F3) ?_
 refine A4 (A3 (A2 ?_))
 refine A5 rfl rfl rfl rfl rfl ?_
 refine A5 rfl rfl rfl rfl rfl ?_
 refine A1 rfl rfl rfl (E5 rfl Tryz.call189 rfl (o0 _ _ (by first | assumption | omega)) (A7 (A0 rfl) (A7 (A0 rfl) C9))) ?_
 refine A5 rfl rfl rfl rfl rfl ?_
 refine A1 rfl rfl rfl (F0 rfl (A0 rfl) rfl) ?_
 refine A1 rfl rfl rfl (F0 rfl (A0 rfl) rfl) ?_
 refine B5 rfl rfl rfl rfl rfl ?_
 refine B5 rfl rfl rfl rfl rfl ?_
 refine A4 (A3 (A3 (A2 ?_)))
 refine A5 rfl rfl rfl rfl rfl ?_
 refine A1 rfl rfl rfl (J7 rfl (A0 rfl)) ?_
 refine A4 ?_
 refine C8 (A0 rfl) ?_ ?_
 ·intro h17
  have hn : cHas l k = false := by simpa using h17
  have he : cellAt l k t = ([], false) := AQ2 (by rw [AB8 ha, hn]; rfl)
  rw [he]
  refine A3 (A2 ?_)
  refine A1 rfl rfl rfl (C0 rfl (P0 (l := []) rfl)) ?_
  refine A1 rfl rfl rfl (C0 rfl F3) ?_
  refine A4 ?_
  refine C7 ?_
  exact U3 rfl (by decide) (E4 (C3 rfl (by rfl)) (E4 (C3 rfl (by rfl)) J0))
 ·intro h17
  have hn : cHas l k = true := by simpa using h17
  obtain ⟨c, hc, hck⟩ := o5.1 hn
  have hcl := (f7 (Nat.le_trans (W6 hc) hs)).2.1
  have he : cellAt l k t = cellVal c t := u6 (by rw [AB8 ha, hn, if_pos rfl, hc])
  rw [he]
  refine D2 (A3 (A2 ?_))
  refine A5 rfl rfl rfl rfl rfl ?_
  refine A5 rfl rfl rfl rfl rfl ?_
  refine A1 rfl rfl rfl (K0 rfl D6 F2 (A0 rfl) (A0 rfl) hc (by first | omega | (simp only [A6, A8, B2, B6, A9, szR] at *; omega))) ?_
  refine A1 rfl rfl rfl (L8 rfl (A0 rfl) T2 F2) ?_
  refine A5 rfl rfl rfl rfl rfl ?_
  refine A1 rfl rfl rfl (E5 rfl Tryz.call213 rfl (at_spec _ _ (by omega)) (A7 (A0 rfl) (A7 (A0 rfl) C9))) ?_
  refine A1 rfl rfl rfl (F0 rfl (A0 rfl) rfl) ?_
  refine A1 rfl rfl rfl (F0 rfl (A0 rfl) rfl) ?_
  refine B5 rfl rfl rfl rfl rfl ?_
  refine B5 rfl rfl rfl rfl rfl ?_
  refine A4 ?_
  refine C7 ?_
  exact U3 rfl (by decide) (E4 (C3 rfl (by rfl)) (E4 (C3 rfl (by rfl)) J0))
theorem Am4 (l : List TCell) (k : Str) (t : Int) (hs : sizeL TCell.size l ≤ 4194304) (hk : k.length ≤ 4611686018427387904) : FSpec Tryz.prog 41 [AV.list 2 (l.map TCell.cs), AV.str k, AV.int t] (AV.tup [AV.str (cellAtR l k t).1, AV.bool (cellAtR l k t).2.1, AV.bool (cellAtR l k t).2.2]) := by
 refine E7 Tryz.func41 rfl Tryz.ntmps41 rfl ?_
 refine A3 (A2 ?_)
 refine A1 rfl rfl rfl (C0 rfl (P0 (l := []) rfl)) ?_
 refine A1 rfl rfl rfl (C0 rfl F3) ?_
 refine A1 rfl rfl rfl (C0 rfl F3) ?_
 refine A4 (A3 (A3 (A2 ?_)))
 refine A5 rfl rfl rfl rfl rfl ?_
 refine A1 rfl rfl rfl (E5 rfl Tryz.call91 rfl (s7 _ (by first | assumption | omega)) (A7 (A0 rfl) C9)) ?_
 refine A1 rfl rfl rfl (J7 rfl (A0 rfl)) ?_
 refine A5 rfl rfl rfl rfl rfl ?_
 refine B1 rfl rfl (D4 rfl rfl rfl) (fun hc => C6 rfl (A0 rfl)) ?_
 refine B1 rfl rfl (D4 rfl rfl rfl) (fun hc => E5 rfl Tryz.call117 rfl (AC0 _ (by omega)) (A7 (B0 rfl hc) C9)) ?_
 refine B1 rfl rfl (D4 rfl rfl rfl) (fun hc => J7 rfl (B0 rfl hc)) ?_
 refine A1 rfl rfl rfl (P5 rfl (A0 rfl) (G0 rfl)) ?_
 refine A5 rfl rfl rfl rfl rfl ?_
 refine B1 rfl rfl (D4 rfl rfl rfl) (fun hc => C6 rfl (A0 rfl)) ?_
 refine B1 rfl rfl (D4 rfl rfl rfl) (fun hc => E5 rfl Tryz.call90 rfl (u9 _) (A7 (B0 rfl hc) C9)) ?_
 refine B1 rfl rfl (D4 rfl rfl rfl) (fun hc => J7 rfl (B0 rfl hc)) ?_
 refine A1 rfl rfl rfl (P5 rfl (A0 rfl) (G0 rfl)) ?_
 refine A4 ?_
 refine C8 (A0 rfl) ?_ ?_
 ·intro h23
  have he : cellAtR l k t = ([], false, false) := by unfold cellAtR; rw [if_pos h23]
  rw [he]
  refine A3 (A2 ?_)
  refine A1 rfl rfl rfl (C0 rfl (P0 (l := []) rfl)) ?_
  refine A1 rfl rfl rfl (C0 rfl F3) ?_
  refine A1 rfl rfl rfl (C0 rfl F3) ?_
  refine A4 ?_
  refine C7 ?_
  exact U3 rfl (by decide) (E4 (C3 rfl (by rfl)) (E4 (C3 rfl (by rfl)) (E4 (C3 rfl (by rfl)) J0)))
 ·intro h23
  have hg := h23
  simp only [Bool.or_eq_false_iff, Bool.not_eq_false'] at hg
  have hgc := hg.1.1
  have he : cellAtR l k t = ((cellAt l k t).1, (cellAt l k t).2, true) := by unfold cellAtR; rw [if_neg (by rw [h23]; decide)]
  rw [he]
  refine D2 (A3 (A2 ?_))
  refine A5 rfl rfl rfl rfl rfl ?_
  refine A5 rfl rfl rfl rfl rfl ?_
  refine A5 rfl rfl rfl rfl rfl ?_
  refine A1 rfl rfl rfl (E5 rfl Tryz.call128 rfl (Ap0 _ _ _ (by first | assumption | exact (Z7 (by assumption)).2.1) (by first | assumption | omega)) (A7 (A0 rfl) (A7 (A0 rfl) (A7 (A0 rfl) C9)))) ?_
  refine A5 rfl rfl rfl rfl rfl ?_
  refine A1 rfl rfl rfl (F0 rfl (A0 rfl) rfl) ?_
  refine A1 rfl rfl rfl (F0 rfl (A0 rfl) rfl) ?_
  refine B5 rfl rfl rfl rfl rfl ?_
  refine B5 rfl rfl rfl rfl rfl ?_
  refine A4 (A3 (A2 ?_))
  refine A5 rfl rfl rfl rfl rfl ?_
  refine A5 rfl rfl rfl rfl rfl ?_
  refine B5 rfl rfl rfl rfl rfl ?_
  refine B5 rfl rfl rfl rfl rfl ?_
  refine A1 rfl rfl rfl (C0 rfl F3) ?_
  refine A4 ?_
  refine C7 ?_
  exact U3 rfl (by decide) (E4 (C3 rfl (by rfl)) (E4 (C3 rfl (by rfl)) (E4 (C3 rfl (by rfl)) J0)))
end Go.Proofs.YtnlhbdkcgaeimaaGreat

set_option linter.unusedVariables false
set_option linter.unusedSimpArgs false
set_option maxRecDepth 100000
set_option maxHeartbeats 1000000
namespace Go.Proofs.YtnlhbdkcgaeimaaGreat
open Go Go.AV Go.M
attribute [local irreducible] OpW OpA OpS AWP FSpec ESpec GSpec OpE RetOk RetOkG RvDen Le Ev GuardIs SrcIs Int.tmod IntKind.wrap bandI
theorem AT6 (b : Nat) (code : List Int) (hcode : ByteL code) (c : TCur) (hp : c.p ≤ 2000000) : GSpec Tryz.prog 123 [AV.ptr b 0] [.box b 127 (curC code c)] (fun x : TCur × List TWrite × Value => x.1.p ≤ c.p + 60 ∧ sizeL TWrite.size x.2.1 ≤ 700) (fun x => [.box b 127 (curC code x.1), .arr x.2.2 77 3 (x.2.1.map TWrite.cs)]) (fun x => AV.is x.2.2) := by
 refine H7 Tryz.func123 rfl Tryz.ntmps123 rfl ?_
 refine A3 (A2 ?_)
 refine A1 rfl rfl rfl (C0 rfl K1) ?_
 refine A4 (A3 (A2 ?_))
 refine A5 rfl rfl rfl rfl rfl ?_
 refine I0 [0] rfl rfl rfl rfl Tryz.call219 rfl (AK1 _ _ hcode _ (by omega)) (A7 (A0 rfl) C9) rfl ?_
 intro x5 ok5
 refine B5 rfl rfl rfl rfl rfl ?_
 refine A4 (A3 (A3 (A2 ?_)))
 refine A5 rfl rfl rfl rfl rfl ?_
 refine A1 rfl rfl rfl (U1 1 rfl F7 (A0 rfl) rfl) ?_
 refine A1 rfl rfl rfl (P1 rfl (A0 rfl) C2) ?_
 refine A4 ?_
 refine C8 (A0 rfl) ?_ ?_
 ·intro h8
  have k8 := of_decide_eq_true h8; try simp only [A6] at k8
  obtain ⟨y, r, hyr⟩ : ∃ y r, x5.2.1 = y :: r := by (cases hl : x5.2.1 with | nil => (rw [hl] at k8; simp at k8) | cons y r => exact ⟨y, r, rfl⟩)
  have hsz := ok5.2
  rw [hyr, L1] at hsz
  rw [hyr, List.map_cons, ← List.nil_append (TWrite.cs y :: r.map TWrite.cs)]
  refine A3 (A2 ?_)
  refine A5 rfl rfl rfl rfl rfl ?_
  refine I0 [0] rfl rfl rfl rfl Tryz.call100 rfl (S4 _ _ hcode _ _ (by omega) (by omega)) (A7 (A0 rfl) (A7 C2 C9)) rfl ?_
  intro x10 ok10
  refine A4 (E1 (A3 (A2 ?_)))
  refine A1 rfl rfl rfl (M0 rfl (A0 rfl) C2) ?_
  refine B5 rfl rfl rfl rfl rfl ?_
  refine A4 ?_
  refine C8 (A0 rfl) ?_ ?_
  ·intro h11
   have k11 := K3 h11; try simp only [A6] at k11
   refine A2 ?_
   refine A5 rfl rfl rfl rfl rfl ?_
   refine A5 rfl rfl rfl rfl rfl ?_
   refine A1 rfl rfl rfl (M8 rfl E3 E8 Tryz.zeroValue9 rfl rfl rfl rfl (D7 (P0 (l := []) rfl) (O0 _) (D7 (P0 (l := [65]) rfl) (O0 _) (D7 (P0 (l := [122]) rfl) (O0 _) (D7 (P0 (l := [116, 111, 111, 108, 111, 110, 103, 97, 107, 101, 121, 48, 48]) rfl) (O0 _) H6)))) rfl rfl) ?_
   refine I0 [0] rfl rfl rfl rfl Tryz.call151 rfl (AD5 _ _ hcode _ ([[], [65], [122], [116, 111, 111, 108, 111, 110, 103, 97, 107, 101, 121, 48, 48]] : List Str) (by decide) (by omega)) (A7 (A0 rfl) (A7 (A0 rfl) C9)) rfl ?_
   intro x16 ok16
   refine A1 rfl rfl rfl (R9 1 rfl F7 H4 (A0 rfl) rfl C2 (by decide) (by rw [H9, B2]; omega)) ?_
   refine A1 rfl rfl rfl (Z4 1 rfl G8 rfl E8 (A0 rfl) rfl rfl (V1 rfl)) ?_
   refine d9 1 rfl rfl rfl (A0 rfl) (A0 rfl) (O0 _) rfl E8 rfl rfl ?_
   refine A4 (A3 (A2 ?_))
   refine A5 rfl rfl rfl rfl rfl ?_
   refine B5 rfl rfl rfl rfl rfl ?_
   refine A4 ?_
   refine C7 ?_
   (refine J6 [0, 0] ((x16.1, ⟨x16.2, y.Val, y.Gone⟩ :: r, x5.2.2)) ?_ rfl (by first | (dsimp only; rfl) | rfl) (N2 rfl (C3 rfl (by rfl))); (dsimp only; first | exact ⟨by omega, by omega⟩ | exact ⟨by omega, by rw [L1]; simp only [TWrite.size] at hsz ⊢; omega⟩))
  ·intro h11
   have k11 := K2 h11; try simp only [A6] at k11
   refine A3 (A2 ?_)
   refine A1 rfl rfl rfl (M0 rfl (A0 rfl) C2) ?_
   refine B5 rfl rfl rfl rfl rfl ?_
   refine A4 ?_
   refine C8 (A0 rfl) ?_ ?_
   ·intro h19
    have k19 := K3 h19; try simp only [A6] at k19
    refine A2 ?_
    refine A5 rfl rfl rfl rfl rfl ?_
    refine A5 rfl rfl rfl rfl rfl ?_
    refine A1 rfl rfl rfl (M8 rfl E3 E8 Tryz.zeroValue9 rfl rfl rfl rfl (D7 (P0 (l := [32]) rfl) (O0 _) (D7 (P0 (l := [48, 49, 50, 51, 52, 53, 54, 55, 56, 57, 48, 49, 50, 51, 52, 53, 54, 55, 56, 57, 48, 49, 50, 51, 52]) rfl) (O0 _) H6)) rfl rfl) ?_
    refine I0 [0] rfl rfl rfl rfl Tryz.call151 rfl (AD5 _ _ hcode _ ([[32], [48, 49, 50, 51, 52, 53, 54, 55, 56, 57, 48, 49, 50, 51, 52, 53, 54, 55, 56, 57, 48, 49, 50, 51, 52]] : List Str) (by decide) (by omega)) (A7 (A0 rfl) (A7 (A0 rfl) C9)) rfl ?_
    intro x24 ok24
    refine A1 rfl rfl rfl (R9 1 rfl F7 H4 (A0 rfl) rfl C2 (by decide) (by rw [H9, B2]; omega)) ?_
    refine A1 rfl rfl rfl (Z4 1 rfl G8 rfl E8 (A0 rfl) rfl rfl (V1 rfl)) ?_
    refine d9 1 rfl rfl rfl (A0 rfl) (A0 rfl) (O0 _) rfl E8 rfl rfl ?_
    refine A4 (A3 (A2 ?_))
    refine A5 rfl rfl rfl rfl rfl ?_
    refine B5 rfl rfl rfl rfl rfl ?_
    refine A4 ?_
    refine C7 ?_
    (refine J6 [0, 0] ((x24.1, ⟨y.Key, x24.2, y.Gone⟩ :: r, x5.2.2)) ?_ rfl (by first | (dsimp only; rfl) | rfl) (N2 rfl (C3 rfl (by rfl))); (dsimp only; first | exact ⟨by omega, by omega⟩ | exact ⟨by omega, by rw [L1]; simp only [TWrite.size] at hsz ⊢; omega⟩))
   ·intro h19
    have k19 := K2 h19; try simp only [A6] at k19
    refine A3 (A2 ?_)
    refine A1 rfl rfl rfl (M0 rfl (A0 rfl) C2) ?_
    refine B5 rfl rfl rfl rfl rfl ?_
    refine A4 ?_
    refine C8 (A0 rfl) ?_ ?_
    ·intro h27
     have k27 := K3 h27; try simp only [A6] at k27
     refine A2 ?_
     refine A5 rfl rfl rfl rfl rfl ?_
     refine A5 rfl rfl rfl rfl rfl ?_
     refine A1 rfl rfl rfl (R9 1 rfl F7 H4 (A0 rfl) rfl C2 (by decide) (by rw [H9, B2]; omega)) ?_
     refine A1 rfl rfl rfl (Z4 1 rfl G8 rfl I8 (A0 rfl) rfl rfl (V1 rfl)) ?_
     refine A1 rfl rfl rfl (i4 1 rfl (A0 rfl) rfl L2 (V1 rfl) rfl) ?_
     refine A1 rfl rfl rfl (J7 rfl (A0 rfl)) ?_
     refine A1 rfl rfl rfl (R9 1 rfl F7 H4 (A0 rfl) rfl C2 (by decide) (by rw [H9, B2]; omega)) ?_
     refine A1 rfl rfl rfl (Z4 1 rfl G8 rfl I8 (A0 rfl) rfl rfl (V1 rfl)) ?_
     refine d9 1 rfl rfl rfl (A0 rfl) (A0 rfl) (Y2 _) rfl I8 rfl rfl ?_
     refine A4 (A3 (A2 ?_))
     refine A5 rfl rfl rfl rfl rfl ?_
     refine B5 rfl rfl rfl rfl rfl ?_
     refine A4 ?_
     refine C7 ?_
     (refine J6 [0, 0] ((x10.1, ⟨y.Key, y.Val, !y.Gone⟩ :: r, x5.2.2)) ?_ rfl (by first | (dsimp only; rfl) | rfl) (N2 rfl (C3 rfl (by rfl))); (dsimp only; first | exact ⟨by omega, by omega⟩ | exact ⟨by omega, by rw [L1]; simp only [TWrite.size] at hsz ⊢; omega⟩))
    ·intro h27
     have k27 := K2 h27; try simp only [A6] at k27
     refine D2 (A3 (A2 ?_))
     refine A5 rfl rfl rfl rfl rfl ?_
     refine B5 rfl rfl rfl rfl rfl ?_
     refine A4 ?_
     refine C7 ?_
     (refine J6 [0, 0] ((x10.1, y :: r, x5.2.2)) ?_ rfl (by first | (dsimp only; rfl) | rfl) (N2 rfl (C3 rfl (by rfl))); (dsimp only; first | exact ⟨by omega, by omega⟩ | exact ⟨by omega, by rw [L1]; simp only [TWrite.size] at hsz ⊢; omega⟩))
 ·intro h8
  have k8 := of_decide_eq_false h8; try simp only [A6] at k8
  refine D2 (A3 (A2 ?_))
  refine A5 rfl rfl rfl rfl rfl ?_
  refine B5 rfl rfl rfl rfl rfl ?_
  refine A4 ?_
  refine C7 ?_
  (refine J6 [0, 0] ((x5.1, x5.2.1, x5.2.2)) ?_ rfl (by first | (dsimp only; rfl) | rfl) (N2 rfl (C3 rfl (by rfl))); (dsimp only; first | exact ⟨by omega, by omega⟩ | exact ⟨by omega, by rw [L1]; simp only [TWrite.size] at hsz ⊢; omega⟩))
end Go.Proofs.YtnlhbdkcgaeimaaGreat

set_option linter.unusedVariables false
set_option linter.unusedSimpArgs false
set_option maxRecDepth 100000
set_option maxHeartbeats 2000000
namespace Go.M
open Go.AV
theorem told_row {l : List TTold} (h : 0 < l.length) : ∃ t, l[0]? = some t ∧ (l.map TTold.cs)[(0 : Int).toNat]? = some t.cs := by
  obtain ⟨t, ht⟩ := get_some h
  exact ⟨t, ht, by show (l.map TTold.cs)[0]? = _; rw [List.getElem?_map, ht]; rfl⟩
end Go.M
namespace Go.Proofs.YtnlhbdkcgaeimaaGreat
open Go Go.AV Go.M
attribute [local irreducible] OpW OpA OpS AWP FSpec ESpec GSpec OpE RetOk RetOkG RvDen Le Ev GuardIs SrcIs SrcE Int.tmod Int.tdiv IntKind.wrap bandI
theorem AD9 (b : Nat) (code : List Int) (hcode : ByteL code) (c : TCur) (hp : c.p ≤ 800000) : GSpec Tryz.prog 99 [AV.ptr b 0] [.box b 127 (curC code c)] (fun x : TCur × TState => x.1.p ≤ c.p + 1310 ∧ x.2.size ≤ 33045 ∧ SB 100001 x.2) (fun x => [.box b 127 (curC code x.1)]) (fun x => AV.agg x.2.cs) := by
 refine H7 Tryz.func99 rfl Tryz.ntmps99 rfl ?_
 refine A3 (A2 ?_)
 refine G5 rfl rfl rfl rfl Tryz.zeroValue30 rfl ?_
 intro b2
 refine A4 (A3 (A2 ?_))
 refine A5 rfl rfl rfl rfl rfl ?_
 refine I0 [1] rfl rfl rfl rfl Tryz.call196 rfl (Am1 _ _ hcode _ (by omega)) (A7 (A0 rfl) C9) rfl ?_
 intro x5 ok5
 obtain ⟨hp5, hso, ⟨hf5, hl5⟩, hs5⟩ := ok5
 obtain ⟨q1, q2, q3, q4, q5⟩ := R4 hs5
 refine G5 rfl rfl rfl rfl Tryz.zeroValue30 rfl ?_
 intro b3
 refine D9 0 rfl rfl rfl (A0 rfl) (A0 rfl) (E9 _) rfl C5 rfl ?_
 refine A4 (A3 (A3 ?_))
 refine J3 (by first | (simp only [TState.ow, TState.ocs, pick, O2, N7, N8, N5, M9, List.nil_append, O3, O4, List.append_nil, N6, List.take_zero, N9, List.drop_zero]; exact rfl) | exact rfl) ?_
 refine A2 ?_
 refine A5 rfl rfl rfl rfl rfl ?_
 refine I0 [1] rfl rfl rfl rfl Tryz.call100 rfl (S4 _ _ hcode _ _ (by omega) (by omega)) (A7 (A0 rfl) (A7 C2 C9)) rfl ?_
 intro x7 ok7
 refine A4 (E1 (A3 (A2 ?_)))
 refine A1 rfl rfl rfl (M0 rfl (A0 rfl) C2) ?_
 refine B5 rfl rfl rfl rfl rfl ?_
 refine A4 ?_
 refine C8 (A0 rfl) ?_ ?_
 ·intro h8
  have k8 := K3 h8; try simp only [A6] at k8
  refine A2 ?_
  refine A5 rfl rfl rfl rfl rfl ?_
  refine A1 rfl rfl rfl (M8 rfl S7 C1 Tryz.zeroValue3 rfl rfl rfl rfl (D7 C2 (K6 _ _) (D7 C2 (K6 _ _) (D7 C2 (K6 _ _) (D7 C2 (K6 _ _) H6)))) rfl rfl) ?_
  refine I0 [0] rfl rfl rfl rfl Tryz.call129 rfl (AC1 _ _ hcode _ ([(0), (1), (100000), (100001)] : List Int) (by decide) (by omega)) (A7 (A0 rfl) (A7 (A0 rfl) C9)) rfl ?_
  intro x12 ok12
  refine A1 rfl rfl rfl (B4 0 rfl C4 rfl C1 (A0 rfl) rfl) ?_
  refine J4 1 rfl rfl rfl (A0 rfl) (A0 rfl) (K6 _ _) rfl C1 rfl ?_
  refine A4 (A3 ?_)
  refine J3 (by first | (simp only [TState.ow, TState.ocs, pick, O2, N7, N8, N5, M9, List.nil_append, O3, O4, List.append_nil, N6, List.take_zero, N9, List.drop_zero]; exact rfl) | exact rfl) ?_
  refine A2 ?_
  refine A1 rfl rfl rfl (F8 1 rfl (A0 rfl) rfl D8 C5 rfl) ?_
  refine AA1 (Y6 [2, 2] 42 rfl rfl (Y0 (G3 J5 (G3 J5 (G3 (M2 (G2 (i := 0) rfl) I7) (G3 (M2 (G2 (i := 1) rfl) I7) S1))))) (S3 0 rfl rfl R7)) ?_
  refine D9 2 rfl rfl rfl (A0 rfl) (A0 rfl) (E9 _) rfl C5 rfl ?_
  refine A4 ?_
  refine C7 ?_
  (refine J6 [0] ((x12.1, ⟨x12.2, x5.2.1.Cells, x5.2.1.Held, x5.2.1.Told⟩)) ?_ rfl (by first | (dsimp only; rfl) | rfl) (N2 rfl (J9 (ys := _) 2 rfl rfl D8 C5 (by first | rfl | (dsimp only [TState.cs]; rw [List.map_append]; rfl)))); (have hsz9 : sizeL TCell.size x5.2.1.Cells + sizeL THeld.size x5.2.1.Held + x5.2.1.Told.length ≤ 33044 := hs5; first | exact ⟨by dsimp only; omega, by show sizeL TCell.size _ + sizeL THeld.size _ + _ ≤ 33045; dsimp only; omega, ⟨⟨by dsimp only; omega, by dsimp only; omega⟩, hl5⟩⟩ | exact ⟨by dsimp only; omega, by show sizeL TCell.size _ + sizeL THeld.size _ + _ ≤ 33045; dsimp only; rw [H9]; simp only [B2, B6]; omega, ⟨⟨by dsimp only; omega, by dsimp only; omega⟩, hl5⟩⟩ | exact ⟨by dsimp only; omega, by show sizeL TCell.size _ + sizeL THeld.size _ + _ ≤ 33045; dsimp only; exact Nat.le_trans hsz9 (by decide), ⟨⟨by have h9 := ok12.2; simp at h9; dsimp only; omega, by have h9 := ok12.2; simp at h9; dsimp only; omega⟩, hl5⟩⟩ | exact ⟨by dsimp only; omega, by show sizeL TCell.size _ + sizeL THeld.size _ + _ ≤ 33045; (rw [hh0, L1] at hsz9; dsimp only; rw [L1]; exact Nat.le_trans hsz9 (by decide)), ⟨⟨by dsimp only; omega, by dsimp only; omega⟩, fun k hk => by (rcases List.mem_cons.1 hk with rfl | hk; (exact hl5 h0 (by rw [hh0]; exact List.mem_cons_self)); (exact hl5 k (by rw [hh0]; exact List.mem_cons_of_mem _ hk)))⟩⟩))
 ·intro h8
  have k8 := K2 h8; try simp only [A6] at k8
  refine A3 (A2 ?_)
  refine A1 rfl rfl rfl (M0 rfl (A0 rfl) C2) ?_
  refine B5 rfl rfl rfl rfl rfl ?_
  refine A4 ?_
  refine C8 (A0 rfl) ?_ ?_
  ·intro h14
   have k14 := K3 h14; try simp only [A6] at k14
   refine A3 (A2 ?_)
   refine A1 rfl rfl rfl (B4 2 rfl C4 rfl G4 (A0 rfl) rfl) ?_
   refine A1 rfl rfl rfl (B3 1 rfl (A0 rfl) rfl J8 rfl) ?_
   refine A1 rfl rfl rfl (U1 2 rfl D0 (A0 rfl) rfl) ?_
   refine A1 rfl rfl rfl (P1 rfl (A0 rfl) C2) ?_
   refine A4 ?_
   refine C8 (A0 rfl) ?_ ?_
   ·intro h19
    have k19 := of_decide_eq_true h19; try simp only [A6] at k19
    obtain ⟨h0, hs0, hh0⟩ : ∃ h0 hs0, x5.2.1.Held = h0 :: hs0 := by (cases hm : x5.2.1.Held with | nil => (rw [hm] at h19; simp at h19) | cons y q => exact ⟨y, q, rfl⟩)
    have hA : ([] : List (List AV)).length = (0 : Int).toNat := rfl
    rw [show x5.2.1.Held.map THeld.cs = [] ++ h0.cs :: hs0.map THeld.cs from by rw [hh0]; rfl]
    refine AWP.le (J2 [1, 1] rfl) ?_
    refine S0 _ [(0, false), (1, false), (2, false), (3, false), (4, true)] (by kernel_rfl) (by kernel_rfl) rfl (X7 2) ?_
    refine F9 rfl rfl rfl (fun ext => B4 2 rfl C4 rfl G4 (A0 rfl) rfl) ?_
    refine F9 rfl rfl rfl (fun ext => B3 0 rfl (A0 rfl) rfl J8 rfl) ?_
    refine F9 rfl rfl rfl (fun ext => C6 rfl (A0 rfl)) ?_
    refine F9 rfl rfl rfl (fun ext => M8 rfl S7 C1 Tryz.zeroValue3 rfl rfl rfl rfl (D7 C2 (K6 _ _) (D7 C2 (K6 _ _) (D7 C2 (K6 _ _) H6))) rfl rfl) ?_
    refine T5 rfl rfl rfl (d3 [2] rfl Tryz.call129 rfl (AC1 _ _ hcode _ ([(0), (1), (100)] : List Int) (by decide) (by omega)) (A7 (A0 rfl) (A7 (A0 rfl) C9)) rfl) (fun a _ => (by first | exact G1 rfl | exact G1 (List.append_assoc _ _ _) | exact J1)) ?_
    intro x24 ok24
    refine j4 ?_
    refine A1 rfl rfl rfl (R9 1 rfl D0 D3 (A0 rfl) rfl C2 (by omega) (by simp)) ?_
    refine A1 rfl rfl rfl (Z4 1 rfl F1 rfl C1 (A0 rfl) rfl rfl (V1 hA)) ?_
    refine d9 1 rfl rfl rfl (A0 rfl) (A0 rfl) (K6 _ _) rfl C1 hA rfl ?_
    refine A4 (A3 ?_)
    refine J3 (by first | (simp only [TState.ow, TState.ocs, pick, O2, N7, N8, N5, M9, List.nil_append, O3, O4, List.append_nil, N6, List.take_zero, N9, List.drop_zero]; exact rfl) | exact rfl) ?_
    refine A2 ?_
    refine A1 rfl rfl rfl (F8 0 rfl (A0 rfl) rfl D8 C5 rfl) ?_
    refine AA1 (Y6 [1, 1] 42 rfl rfl (Y0 (G3 J5 (G3 J5 (G3 (M2 (G2 (i := 0) rfl) I7) (G3 (M2 (G2 (i := 1) rfl) I7) S1))))) (S3 2 rfl rfl R7)) ?_
    refine D9 1 rfl rfl rfl (A0 rfl) (A0 rfl) (E9 _) rfl C5 rfl ?_
    refine A4 ?_
    refine C7 ?_
    (refine J6 [2] ((x24.1, ⟨x5.2.1.Floor, x5.2.1.Cells, ⟨h0.Txn, x24.2, h0.Lead, h0.Reads, h0.Writes⟩ :: hs0, x5.2.1.Told⟩)) ?_ rfl (by first | (dsimp only; rfl) | rfl) (N2 rfl (J9 (ys := _) 1 rfl rfl D8 C5 (by first | rfl | (dsimp only [TState.cs]; rw [List.map_append]; rfl)))); (have hsz9 : sizeL TCell.size x5.2.1.Cells + sizeL THeld.size x5.2.1.Held + x5.2.1.Told.length ≤ 33044 := hs5; first | exact ⟨by dsimp only; omega, by show sizeL TCell.size _ + sizeL THeld.size _ + _ ≤ 33045; dsimp only; omega, ⟨⟨by dsimp only; omega, by dsimp only; omega⟩, hl5⟩⟩ | exact ⟨by dsimp only; omega, by show sizeL TCell.size _ + sizeL THeld.size _ + _ ≤ 33045; dsimp only; rw [H9]; simp only [B2, B6]; omega, ⟨⟨by dsimp only; omega, by dsimp only; omega⟩, hl5⟩⟩ | exact ⟨by dsimp only; omega, by show sizeL TCell.size _ + sizeL THeld.size _ + _ ≤ 33045; dsimp only; exact Nat.le_trans hsz9 (by decide), ⟨⟨by have h9 := ok12.2; simp at h9; dsimp only; omega, by have h9 := ok12.2; simp at h9; dsimp only; omega⟩, hl5⟩⟩ | exact ⟨by dsimp only; omega, by show sizeL TCell.size _ + sizeL THeld.size _ + _ ≤ 33045; (rw [hh0, L1] at hsz9; dsimp only; rw [L1]; exact Nat.le_trans hsz9 (by decide)), ⟨⟨by dsimp only; omega, by dsimp only; omega⟩, fun k hk => by (rcases List.mem_cons.1 hk with rfl | hk; (exact hl5 h0 (by rw [hh0]; exact List.mem_cons_self)); (exact hl5 k (by rw [hh0]; exact List.mem_cons_of_mem _ hk)))⟩⟩))
   ·intro h19
    have k19 := of_decide_eq_false h19; try simp only [A6] at k19
    refine D2 (A3 ?_)
    refine J3 (by first | (simp only [TState.ow, TState.ocs, pick, O2, N7, N8, N5, M9, List.nil_append, O3, O4, List.append_nil, N6, List.take_zero, N9, List.drop_zero]; exact rfl) | exact rfl) ?_
    refine A2 ?_
    refine A1 rfl rfl rfl (F8 1 rfl (A0 rfl) rfl D8 C5 rfl) ?_
    refine AA1 (Y6 [2, 2] 42 rfl rfl (Y0 (G3 J5 (G3 J5 (G3 (M2 (G2 (i := 0) rfl) I7) (G3 (M2 (G2 (i := 1) rfl) I7) S1))))) (S3 0 rfl rfl R7)) ?_
    refine D9 2 rfl rfl rfl (A0 rfl) (A0 rfl) (E9 _) rfl C5 rfl ?_
    refine A4 ?_
    refine C7 ?_
    (refine J6 [0] ((x7.1, x5.2.1)) ?_ rfl (by first | (dsimp only; rfl) | rfl) (N2 rfl (J9 (ys := _) 2 rfl rfl D8 C5 (by first | rfl | (dsimp only [TState.cs]; rw [List.map_append]; rfl)))); (have hsz9 : sizeL TCell.size x5.2.1.Cells + sizeL THeld.size x5.2.1.Held + x5.2.1.Told.length ≤ 33044 := hs5; first | exact ⟨by dsimp only; omega, by show sizeL TCell.size _ + sizeL THeld.size _ + _ ≤ 33045; dsimp only; omega, ⟨⟨by dsimp only; omega, by dsimp only; omega⟩, hl5⟩⟩ | exact ⟨by dsimp only; omega, by show sizeL TCell.size _ + sizeL THeld.size _ + _ ≤ 33045; dsimp only; rw [H9]; simp only [B2, B6]; omega, ⟨⟨by dsimp only; omega, by dsimp only; omega⟩, hl5⟩⟩ | exact ⟨by dsimp only; omega, by show sizeL TCell.size _ + sizeL THeld.size _ + _ ≤ 33045; dsimp only; exact Nat.le_trans hsz9 (by decide), ⟨⟨by have h9 := ok12.2; simp at h9; dsimp only; omega, by have h9 := ok12.2; simp at h9; dsimp only; omega⟩, hl5⟩⟩ | exact ⟨by dsimp only; omega, by show sizeL TCell.size _ + sizeL THeld.size _ + _ ≤ 33045; (rw [hh0, L1] at hsz9; dsimp only; rw [L1]; exact Nat.le_trans hsz9 (by decide)), ⟨⟨by dsimp only; omega, by dsimp only; omega⟩, fun k hk => by (rcases List.mem_cons.1 hk with rfl | hk; (exact hl5 h0 (by rw [hh0]; exact List.mem_cons_self)); (exact hl5 k (by rw [hh0]; exact List.mem_cons_of_mem _ hk)))⟩⟩))
  ·intro h14
   have k14 := K2 h14; try simp only [A6] at k14
   refine A3 (A2 ?_)
   refine A1 rfl rfl rfl (M0 rfl (A0 rfl) C2) ?_
   refine B5 rfl rfl rfl rfl rfl ?_
   refine A4 ?_
   refine C8 (A0 rfl) ?_ ?_
   ·intro h27
    have k27 := K3 h27; try simp only [A6] at k27
    refine A3 (A2 ?_)
    refine A1 rfl rfl rfl (B4 3 rfl C4 rfl K5 (A0 rfl) rfl) ?_
    refine A1 rfl rfl rfl (B3 1 rfl (A0 rfl) rfl Q0 rfl) ?_
    refine A1 rfl rfl rfl (U1 3 rfl E6 (A0 rfl) rfl) ?_
    refine A1 rfl rfl rfl (P1 rfl (A0 rfl) C2) ?_
    refine A4 ?_
    refine C8 (A0 rfl) ?_ ?_
    ·intro h32
     have k32 := of_decide_eq_true h32; try simp only [A6] at k32
     obtain ⟨t0, ht0, htrow⟩ := told_row (l := x5.2.1.Told) (by simpa using h32)
     refine Q7 7 (by kernel_rfl) (by kernel_rfl) rfl ?_
     refine B7 rfl rfl (B4 3 rfl C4 rfl K5 (A0 rfl) rfl) ?_
     refine B7 rfl rfl (B3 1 rfl (A0 rfl) rfl Q0 rfl) ?_
     refine B7 rfl rfl (B4 3 rfl C4 rfl K5 (A0 rfl) rfl) ?_
     refine B7 rfl rfl (B3 1 rfl (A0 rfl) rfl Q0 rfl) ?_
     refine B7 rfl rfl (R9 3 rfl E6 G7 (A0 rfl) rfl C2 (by omega) (by have h9 := (List.getElem?_eq_some_iff.1 ht0).1; first | omega | (simp only [A6]; omega))) ?_
     refine B7 rfl rfl (p5 3 rfl (A0 rfl) rfl T4 G7 htrow (by decide)) ?_
     refine B7 rfl rfl (M8 rfl E6 G7 Tryz.zeroValue39 rfl rfl rfl rfl (D7 (A0 rfl) (E9 _) H6) rfl rfl) ?_
     refine P7 ?_
     refine M6 (by' := 24) 3 rfl rfl rfl rfl E6 Tryz.type39 rfl rfl rfl rfl rfl rfl (A0 rfl) (A0 rfl) rfl (by first | omega | (simp only [A6, A8, B2, B6, A9, szR] at *; omega)) ?_
     intro v40_1
     refine A1 rfl rfl rfl (B4 3 rfl C4 rfl K5 (A0 rfl) rfl) ?_
     refine Q8 3 rfl fun one_v40_1 => ?_
     refine J4 1 rfl rfl rfl (A0 rfl) (A0 rfl) (R5 one_v40_1) rfl K5 rfl ?_
     refine A4 (A3 ?_)
     refine J3 (by first | (simp only [TState.ow, TState.ocs, pick, O2, N7, N8, N5, M9, List.nil_append, O3, O4, List.append_nil, N6, List.take_zero, N9, List.drop_zero]; exact rfl) | exact rfl) ?_
     refine A2 ?_
     refine A1 rfl rfl rfl (F8 1 rfl (A0 rfl) rfl D8 C5 rfl) ?_
     refine AA1 (Y6 [2, 2] 42 rfl rfl (Y0 (G3 J5 (G3 J5 (G3 (M2 (G2 (i := 0) rfl) I7) (G3 (M2 (G2 (i := 1) rfl) I7) S1))))) (S3 0 rfl rfl R7)) ?_
     refine D9 2 rfl rfl rfl (A0 rfl) (A0 rfl) (E9 _) rfl C5 rfl ?_
     refine A4 ?_
     refine C7 ?_
     (refine J6 [0] ((x7.1, ⟨x5.2.1.Floor, x5.2.1.Cells, x5.2.1.Held, x5.2.1.Told ++ [t0]⟩)) ?_ rfl (by first | (dsimp only; rfl) | rfl) (N2 rfl (J9 (ys := _) 2 rfl rfl D8 C5 (by first | rfl | (dsimp only [TState.cs]; rw [List.map_append]; rfl)))); (have hsz9 : sizeL TCell.size x5.2.1.Cells + sizeL THeld.size x5.2.1.Held + x5.2.1.Told.length ≤ 33044 := hs5; first | exact ⟨by dsimp only; omega, by show sizeL TCell.size _ + sizeL THeld.size _ + _ ≤ 33045; dsimp only; omega, ⟨⟨by dsimp only; omega, by dsimp only; omega⟩, hl5⟩⟩ | exact ⟨by dsimp only; omega, by show sizeL TCell.size _ + sizeL THeld.size _ + _ ≤ 33045; dsimp only; rw [H9]; simp only [B2, B6]; omega, ⟨⟨by dsimp only; omega, by dsimp only; omega⟩, hl5⟩⟩ | exact ⟨by dsimp only; omega, by show sizeL TCell.size _ + sizeL THeld.size _ + _ ≤ 33045; dsimp only; exact Nat.le_trans hsz9 (by decide), ⟨⟨by have h9 := ok12.2; simp at h9; dsimp only; omega, by have h9 := ok12.2; simp at h9; dsimp only; omega⟩, hl5⟩⟩ | exact ⟨by dsimp only; omega, by show sizeL TCell.size _ + sizeL THeld.size _ + _ ≤ 33045; (rw [hh0, L1] at hsz9; dsimp only; rw [L1]; exact Nat.le_trans hsz9 (by decide)), ⟨⟨by dsimp only; omega, by dsimp only; omega⟩, fun k hk => by (rcases List.mem_cons.1 hk with rfl | hk; (exact hl5 h0 (by rw [hh0]; exact List.mem_cons_self)); (exact hl5 k (by rw [hh0]; exact List.mem_cons_of_mem _ hk)))⟩⟩))
    ·intro h32
     have k32 := of_decide_eq_false h32; try simp only [A6] at k32
     refine D2 (A3 ?_)
     refine J3 (by first | (simp only [TState.ow, TState.ocs, pick, O2, N7, N8, N5, M9, List.nil_append, O3, O4, List.append_nil, N6, List.take_zero, N9, List.drop_zero]; exact rfl) | exact rfl) ?_
     refine A2 ?_
     refine A1 rfl rfl rfl (F8 1 rfl (A0 rfl) rfl D8 C5 rfl) ?_
     refine AA1 (Y6 [2, 2] 42 rfl rfl (Y0 (G3 J5 (G3 J5 (G3 (M2 (G2 (i := 0) rfl) I7) (G3 (M2 (G2 (i := 1) rfl) I7) S1))))) (S3 0 rfl rfl R7)) ?_
     refine D9 2 rfl rfl rfl (A0 rfl) (A0 rfl) (E9 _) rfl C5 rfl ?_
     refine A4 ?_
     refine C7 ?_
     (refine J6 [0] ((x7.1, x5.2.1)) ?_ rfl (by first | (dsimp only; rfl) | rfl) (N2 rfl (J9 (ys := _) 2 rfl rfl D8 C5 (by first | rfl | (dsimp only [TState.cs]; rw [List.map_append]; rfl)))); (have hsz9 : sizeL TCell.size x5.2.1.Cells + sizeL THeld.size x5.2.1.Held + x5.2.1.Told.length ≤ 33044 := hs5; first | exact ⟨by dsimp only; omega, by show sizeL TCell.size _ + sizeL THeld.size _ + _ ≤ 33045; dsimp only; omega, ⟨⟨by dsimp only; omega, by dsimp only; omega⟩, hl5⟩⟩ | exact ⟨by dsimp only; omega, by show sizeL TCell.size _ + sizeL THeld.size _ + _ ≤ 33045; dsimp only; rw [H9]; simp only [B2, B6]; omega, ⟨⟨by dsimp only; omega, by dsimp only; omega⟩, hl5⟩⟩ | exact ⟨by dsimp only; omega, by show sizeL TCell.size _ + sizeL THeld.size _ + _ ≤ 33045; dsimp only; exact Nat.le_trans hsz9 (by decide), ⟨⟨by have h9 := ok12.2; simp at h9; dsimp only; omega, by have h9 := ok12.2; simp at h9; dsimp only; omega⟩, hl5⟩⟩ | exact ⟨by dsimp only; omega, by show sizeL TCell.size _ + sizeL THeld.size _ + _ ≤ 33045; (rw [hh0, L1] at hsz9; dsimp only; rw [L1]; exact Nat.le_trans hsz9 (by decide)), ⟨⟨by dsimp only; omega, by dsimp only; omega⟩, fun k hk => by (rcases List.mem_cons.1 hk with rfl | hk; (exact hl5 h0 (by rw [hh0]; exact List.mem_cons_self)); (exact hl5 k (by rw [hh0]; exact List.mem_cons_of_mem _ hk)))⟩⟩))
   ·intro h27
    have k27 := K2 h27; try simp only [A6] at k27
    refine D2 (A3 ?_)
    refine J3 (by first | (simp only [TState.ow, TState.ocs, pick, O2, N7, N8, N5, M9, List.nil_append, O3, O4, List.append_nil, N6, List.take_zero, N9, List.drop_zero]; exact rfl) | exact rfl) ?_
    refine A2 ?_
    refine A1 rfl rfl rfl (F8 1 rfl (A0 rfl) rfl D8 C5 rfl) ?_
    refine AA1 (Y6 [2, 2] 42 rfl rfl (Y0 (G3 J5 (G3 J5 (G3 (M2 (G2 (i := 0) rfl) I7) (G3 (M2 (G2 (i := 1) rfl) I7) S1))))) (S3 0 rfl rfl R7)) ?_
    refine D9 2 rfl rfl rfl (A0 rfl) (A0 rfl) (E9 _) rfl C5 rfl ?_
    refine A4 ?_
    refine C7 ?_
    (refine J6 [0] ((x7.1, x5.2.1)) ?_ rfl (by first | (dsimp only; rfl) | rfl) (N2 rfl (J9 (ys := _) 2 rfl rfl D8 C5 (by first | rfl | (dsimp only [TState.cs]; rw [List.map_append]; rfl)))); (have hsz9 : sizeL TCell.size x5.2.1.Cells + sizeL THeld.size x5.2.1.Held + x5.2.1.Told.length ≤ 33044 := hs5; first | exact ⟨by dsimp only; omega, by show sizeL TCell.size _ + sizeL THeld.size _ + _ ≤ 33045; dsimp only; omega, ⟨⟨by dsimp only; omega, by dsimp only; omega⟩, hl5⟩⟩ | exact ⟨by dsimp only; omega, by show sizeL TCell.size _ + sizeL THeld.size _ + _ ≤ 33045; dsimp only; rw [H9]; simp only [B2, B6]; omega, ⟨⟨by dsimp only; omega, by dsimp only; omega⟩, hl5⟩⟩ | exact ⟨by dsimp only; omega, by show sizeL TCell.size _ + sizeL THeld.size _ + _ ≤ 33045; dsimp only; exact Nat.le_trans hsz9 (by decide), ⟨⟨by have h9 := ok12.2; simp at h9; dsimp only; omega, by have h9 := ok12.2; simp at h9; dsimp only; omega⟩, hl5⟩⟩ | exact ⟨by dsimp only; omega, by show sizeL TCell.size _ + sizeL THeld.size _ + _ ≤ 33045; (rw [hh0, L1] at hsz9; dsimp only; rw [L1]; exact Nat.le_trans hsz9 (by decide)), ⟨⟨by dsimp only; omega, by dsimp only; omega⟩, fun k hk => by (rcases List.mem_cons.1 hk with rfl | hk; (exact hl5 h0 (by rw [hh0]; exact List.mem_cons_self)); (exact hl5 k (by rw [hh0]; exact List.mem_cons_of_mem _ hk)))⟩⟩))
end Go.Proofs.YtnlhbdkcgaeimaaGreat

set_option linter.unusedVariables false
set_option linter.unusedSimpArgs false
namespace Go.AV
open Go.ChangeShapes Go.WideShapes Go.ChangeAt Go.RowKit

def heapR (w : World) : RHeap := fun b => w.heap[b]?
theorem heapR_le (w : World) : RLe (heapR w) w := fun _ _ h => h
theorem Au6 {w : World} {a : Addr} {v : Value} (h : w.cell? a = some v) : rcell (heapR w) a = some v := h

def Opens (P : Program) (t : TypeId) (α : Type) (enc : α → List AV) (ok : α → Prop) : Prop :=
  ∀ (H : Type) (en : TypeId × Value → H) (w : World) (base : Nat) (spare : Nat → Bool) (held : Bool) (fuel : Nat) (cs : List Value) (x : DataW H × List MemPlace),
    DataW.trod en P w base spare held fuel t cs = some x → ∃ a : α, ok a ∧ DenC (heapR w) cs (enc a)
theorem AT7 {R : RHeap} {v : Value} {x : AV} (h : x.den R v) (h1 : v.oneCell' = true) : DenC R [v] [x] :=
  ⟨rfl, fun i u y hu hy => by
    cases i with
    | zero => simp at hu hy; subst hu; subst hy; exact ⟨h, h1⟩
    | succ i => simp at hu⟩
section
variable {P : Program} {t e : TypeId}
theorem Ay1 {k : IntKind} (ht : P.underlying t = some (.int k)) : Opens P t Int (fun n => [AV.ik k n]) (fun n => (Lit.int k n).wf = true) := fun H en w base spare held fuel cs x h => by
  obtain ⟨n, rfl, _, hw⟩ := DataW.trod_int ht h
  exact ⟨n, hw, AT7 rfl rfl⟩
theorem Ar4 {α : Type} {p : Nat → α → Prop} : ∀ n, (∀ i, i < n → ∃ a, p i a) → ∃ l : List α, l.length = n ∧ ∀ (i : Nat) (a : α), l[i]? = some a → p i a
  | 0, _ => ⟨[], rfl, fun i a h => by simp at h⟩
  | n + 1, h => by
    obtain ⟨l, h1, h2⟩ := Ar4 n fun i hi => h i (by omega)
    obtain ⟨a, ha⟩ := h n (by omega)
    refine ⟨l ++ [a], by simp [h1], fun i b hb => ?_⟩
    by_cases hi : i < l.length
    · rw [List.getElem?_append_left hi] at hb; exact h2 i b hb
    · rw [List.getElem?_append_right (by omega)] at hb
      have hin : i = n := by
        have := (List.getElem?_eq_some_iff.1 hb).1
        simp at this; omega
      subst hin
      rw [h1] at hb; simp at hb; subst hb; exact ha
theorem Ap1 {α : Type} {enc : α → List AV} {ok : α → Prop} {sz : Nat} (ht : P.underlying t = some (.slice e)) (hc : P.cellsOf e = sz) (h : Opens P e α enc ok) (hl : ∀ a, (enc a).length = sz) :
    Opens P t (List α) (fun l => [AV.list sz (l.map enc)]) (fun l => ∀ a ∈ l, ok a) := fun H en w base spare held fuel cs x hx => by
  rcases DataW.trod_slice ht hx with ⟨rfl, _⟩ | ⟨a, len, cap, elems, rest, n, _, rfl, _, _, hlc, hcm, hel, hi, _, _⟩
  · exact ⟨[], by simp, AT7 ⟨none, 0, rfl, Nat.le_refl _, Nat.zero_le _, by simp, fun h => absurd rfl h⟩ rfl⟩
  · obtain ⟨l, h1, h2⟩ := Ar4 (p := fun i b => ok b ∧ ∃ cs', w.cells? base (a.add (i * sz)) sz = some cs' ∧ DenC (heapR w) cs' (enc b)) len fun i hil => by
      have := hi i hil
      rw [hc, List.getElem?_eq_getElem (by omega)] at this
      obtain ⟨cs', hcs, htr⟩ := Option.bind_eq_some_iff.1 this
      obtain ⟨b, hb, hd⟩ := h H en w base spare held n cs' _ htr
      exact ⟨b, hb, cs', hcs, hd⟩
    refine ⟨l, fun b hb => ?_, AT7 ⟨some a, cap, by rw [A6, h1], by rw [A6, h1]; exact hlc, hcm, fun ec he => ?_, fun _ => ⟨a, rfl, fun j y hy => ?_⟩⟩ rfl⟩
    · obtain ⟨i, hib⟩ := List.getElem?_of_mem hb
      exact (h2 i b hib).1
    · obtain ⟨b, _, rfl⟩ := List.mem_map.1 he
      exact hl b
    · have hun : ∀ ec ∈ l.map enc, ec.length = sz := fun ec he => by
        obtain ⟨b, _, rfl⟩ := List.mem_map.1 he
        exact hl b
      have hjl : j < l.length * sz := by
        have := (List.getElem?_eq_some_iff.1 hy).1
        rwa [T8 hun, A6] at this
      have hsz : 0 < sz := by
        rcases Nat.eq_zero_or_pos sz with h0 | h0
        · subst h0; omega
        · exact h0
      have hij : j / sz < l.length := Nat.div_lt_of_lt_mul (by rw [Nat.mul_comm]; exact hjl)
      have hkm : j % sz < sz := Nat.mod_lt _ hsz
      have hjj : j / sz * sz + j % sz = j := by rw [Nat.mul_comm]; exact Nat.div_add_mod j sz
      have hb : l[j / sz]? = some l[j / sz] := List.getElem?_eq_getElem hij
      obtain ⟨_, cs', hcs, hd⟩ := h2 _ _ hb
      obtain ⟨_, hcl, hat⟩ := World.cells?_some hcs
      have hk : (enc l[j / sz])[j % sz]? = some ((enc l[j / sz])[j % sz]'(by rw [hl]; exact hkm)) := List.getElem?_eq_getElem _
      have hyk := Y8 hun (i := j / sz) (e := enc l[j / sz]) (by rw [List.getElem?_map, hb]; rfl) hk
      rw [hjj, hy] at hyk
      injection hyk with hyk
      have hv : cs'[j % sz]? = some (cs'[j % sz]'(by rw [hcl]; exact hkm)) := List.getElem?_eq_getElem _
      have hcell := hat (j % sz) hkm
      rw [hv, AE9, hjj] at hcell
      refine ⟨_, Au6 hcell, ?_⟩
      have := hd.2 _ _ _ hv hk
      rw [hyk]; exact this
theorem Ar5 {H : Type} {en : TypeId × Value → H} {W : World} {base : Nat} {spare : Nat → Bool} {held : Bool} {α : Type} {enc : α → AV} {ok : α → Prop} {v : Value} {d : DataW H} {p : List MemPlace}
    (h : Opens P t α (fun a => [enc a]) ok) (h1 : v.cells = #[v]) (hd : DataW.Trod en P W base spare held t v d p) : ∃ a, ok a ∧ (enc a).den (heapR W) v := by
  obtain ⟨fuel, hf⟩ := hd
  rw [h1] at hf
  obtain ⟨a, h2, h3⟩ := h H en W base spare held fuel _ _ hf
  exact ⟨a, h2, (h3.2 0 v _ rfl rfl).1⟩
theorem Ay2 {f : FuncId} {xs : List AV} {b : Bool} {W : World} {vs : List Value} (h : FSpec P f xs (AV.bool b)) (hd : DenV (heapR W) vs xs) :
    Calls P f vs.toArray W fun e w' => e = .returned (.bool b) ∧ Below W.heap.size W w' :=
  (h (heapR W) W vs (heapR_le W) hd).mono fun e w' ⟨v, R', h1, h2, _, _, h5⟩ => ⟨by rw [h1]; exact congrArg Ending.returned h2, h5⟩
end
end Go.AV

set_option linter.unusedVariables false
set_option linter.unusedSimpArgs false
namespace Go.AV
section
variable {P : Program} {G : Nat → Prop} {n : Nat} {own : List Own} {o : Oper} {E : EnvF}
end
end Go.AV

set_option linter.unusedVariables false
set_option linter.unusedSimpArgs false
namespace Go.AV
open Go.RowKit (Below)
section
variable {P : Program} {G : Nat → Prop} {n : Nat} {own : List Own} {o : Oper} {E : EnvF}
end
end Go.AV

set_option linter.unusedVariables false
set_option linter.unusedSimpArgs false
set_option maxRecDepth 100000
set_option maxHeartbeats 2000000
namespace Go.Proofs.YtnlhbdkcgaeimaaGreat
open Go Go.AV Go.M
attribute [local irreducible] OpW OpA OpS AWP FSpec ESpec GSpec OpE RetOk RetOkG RvDen Le Ev GuardIs SrcIs SrcE Int.tmod Int.tdiv IntKind.wrap bandI
end Go.Proofs.YtnlhbdkcgaeimaaGreat

set_option linter.unusedVariables false
set_option linter.unusedSimpArgs false
set_option maxRecDepth 100000
set_option maxHeartbeats 2000000
namespace Go.Proofs.YtnlhbdkcgaeimaaGreat
open Go Go.AV Go.M
attribute [local irreducible] OpW OpA OpS AWP FSpec ESpec GSpec OpE RetOk RetOkG RvDen Le Ev GuardIs SrcIs SrcE Int.tmod Int.tdiv IntKind.wrap bandI
theorem AN6 (code : List Int) (hcode : ByteL code) : GSpec Tryz.prog 37 [bytesI code] [] (fun x : (TState × List Str × List TWrite) × Value × Value => x.1.1.size ≤ 33045 ∧ sizeL (fun x : Str => x.length) x.1.2.1 ≤ 210 ∧ sizeL TWrite.size x.1.2.2 ≤ 700) (fun x => [.arr x.2.1 9 1 (x.1.2.1.map fun t => [AV.str t]), .arr x.2.2 77 3 (x.1.2.2.map TWrite.cs)]) (fun x => AV.tup [AV.agg x.1.1.cs, AV.is x.2.1, AV.is x.2.2]) := by
 refine H7 Tryz.func37 rfl Tryz.ntmps37 rfl ?_
 refine A3 (A2 ?_)
 refine G5 rfl rfl rfl rfl Tryz.zeroValue30 rfl ?_
 intro b2
 refine A1 rfl rfl rfl (C0 rfl K1) ?_
 refine A1 rfl rfl rfl (C0 rfl K1) ?_
 refine A4 (A3 (A2 ?_))
 refine A5 rfl rfl rfl rfl rfl ?_
 refine A1 rfl rfl rfl (M7 (places := #[(0, 1), (1, 1), (2, 1)]) rfl L6 Tryz.zeroValue127 (fun w => by kernel_rfl) rfl (D7 (A0 rfl) (T0 _ _) H6) rfl) ?_
 refine L9 rfl rfl rfl rfl (A0 rfl) ?_
 intro b11
 refine B5 rfl rfl rfl rfl rfl ?_
 refine A4 (A3 (A2 ?_))
 refine A5 rfl rfl rfl rfl rfl ?_
 refine I0 [0] rfl rfl rfl rfl Tryz.call99 rfl (AD9 _ _ hcode ⟨0, 0⟩ (by decide)) (A7 (A0 rfl) C9) rfl ?_
 intro x13 ok13
 have hp13 : x13.1.p ≤ 1310 := by (have h9 := ok13.1; dsimp only at h9; omega)
 refine G5 rfl rfl rfl rfl Tryz.zeroValue30 rfl ?_
 intro b6
 refine D9 0 rfl rfl rfl (A0 rfl) (A0 rfl) (E9 _) rfl C5 rfl ?_
 refine A4 (A3 (A2 ?_))
 refine P9 9 1 rfl rfl rfl rfl K1 ?_
 intro v7
 refine A4 (A3 (A3 (A2 ?_)))
 refine A5 rfl rfl rfl rfl rfl ?_
 refine I0 [2] rfl rfl rfl rfl Tryz.call100 rfl (S4 _ _ hcode _ _ (by omega) (by omega)) (A7 (A0 rfl) (A7 C2 C9)) rfl ?_
 intro x15 ok15
 refine B5 rfl rfl rfl rfl rfl ?_
 refine A4 (E1 ?_)
 refine AWP.le (J2 [2, 0, 0] rfl) ?_
 refine j6 [(2, _), (3, _), (4, _), (5, _), (6, _)] _ (fun (n : Int) (cc : TCur) (l : List Str) (v : Value) => (0 ≤ n ∧ n + l.length ≤ 3) ∧ cc.p + 4 * n ≤ 1330 ∧ SrtS l ∧ sizeL (fun x : Str => x.length) l + 70 * n ≤ 210) (fun (n : Int) (cc : TCur) (l : List Str) (v : Value) => [.box b6 30 x13.2.cs, .box b11 127 (curC code cc), .arr v 9 1 (l.map fun t => [AV.str t])]) (fun (n : Int) (cc : TCur) (l : List Str) (v : Value) => [(7, AV.is v), (8, AV.int n)]) (fun (n : Int) (cc : TCur) (l : List Str) (v : Value) => n.toNat) (x15.2) (x15.1) ([]) (v7) ?_ (S9 (by rfl) ⟨rfl, rfl, rfl, rfl, rfl, rfl, rfl, trivial⟩) ?_
 ·exact ⟨⟨by omega, by simp; omega⟩, by omega, List.Pairwise.nil, by simp [sizeL]; omega⟩
 intro n cc l v hinv
 refine A3 (A3 (A2 ?_))
 refine A5 rfl rfl rfl rfl rfl ?_
 refine A1 rfl rfl rfl (P1 rfl (A0 rfl) C2) ?_
 refine A4 ?_
 refine C8 (A0 rfl) ?_ ?_
 ·intro h17
  have k17 := of_decide_eq_true h17; try simp only [A6] at k17
  refine D2 (A3 (E1 (A2 ?_)))
  refine A5 rfl rfl rfl rfl rfl ?_
  refine A5 rfl rfl rfl rfl rfl ?_
  refine I0 [1] rfl rfl rfl rfl Tryz.call116 rfl (AW2 _ _ hcode _ (by omega)) (A7 (A0 rfl) C9) rfl ?_
  intro x22 ok22
  refine I0 [2] rfl rfl rfl rfl Tryz.call122 rfl (AA6 v l x22.2 hinv.2.2.1 (by omega)) (A7 (A0 rfl) (A7 (A0 rfl) C9)) rfl ?_
  intro x23 ok23
  refine B5 rfl rfl rfl rfl rfl ?_
  refine A4 (A2 ?_)
  refine A5 rfl rfl rfl rfl rfl ?_
  refine A1 rfl rfl rfl (P8 rfl (A0 rfl) C2 (by first | omega | (simp only [A6, A8, B2, B6, A9, szR] at *; omega))) ?_
  refine B5 rfl rfl rfl rfl rfl ?_
  refine A4 ?_
  refine V6 n cc l v (n - 1) (x22.1) (putS l x22.2) (x23) ?_ ?_ (Le.trans (J2 [2, 1, 0] rfl) (S9 (by rfl) ⟨rfl, rfl, rfl, rfl, rfl, rfl, rfl, trivial⟩))
  ·(have h9 := AH6 x22.2 l; have h8 := AN5 x22.2 l; exact ⟨⟨by omega, by omega⟩, by omega, (AH5 hinv.2.2.1).1, by omega⟩)
  ·omega
 ·intro h17
  have k17 := of_decide_eq_false h17; try simp only [A6] at k17
  refine I1 ?_
  refine A3 ?_
  refine AWP.le (J2 [0, 0, 1] rfl) ?_
  refine AT0 _ 7 (.pure 0 (.pure 1 (.pure 2 (.e1 3 (.e1 4 (.pure 5 (.pure 6 .nil))))))) (by kernel_rfl) (by kernel_rfl) rfl (X7 1) ?_
  refine K7 rfl rfl rfl (fun ext => F8 0 rfl (A0 rfl) rfl D8 C5 rfl) ?_
  refine K7 rfl rfl rfl (fun ext => C6 rfl (A0 rfl)) ?_
  refine K7 rfl rfl rfl (fun ext => C6 rfl (A0 rfl)) ?_
  refine Z8 ?_
  refine V2 rfl rfl rfl (d3 [1] rfl Tryz.call123 rfl (AT6 _ _ hcode _ (by omega)) (A7 (A0 rfl) C9) rfl) (fun a _ => (by first | exact G1 rfl | exact G1 (List.append_assoc _ _ _) | exact J1)) ?_
  intro x27 ok27
  refine Z8 ?_
  refine Ai5 rfl rfl rfl (AE4 1 rfl rfl (A0 rfl) (A0 rfl) (E9 _) rfl C5 rfl) (fun a _ => (by first | exact G1 rfl | exact G1 (List.append_assoc _ _ _) | exact J1)) ?_
  intro _ _
  refine K7 rfl rfl rfl (fun ext => C0 rfl (A0 rfl)) ?_
  refine K7 rfl rfl rfl (fun ext => C0 rfl (A0 rfl)) ?_
  refine m0 ?_
  refine A4 ?_
  refine C7 ?_
  (refine J6 [2, 3] (((x13.2, l, x27.2.1), v, x27.2.2)) ?_ rfl (by first | (dsimp only; rfl) | rfl) (S8 rfl (by decide) (E4 (J9 (ys := _) 1 rfl rfl D8 C5 rfl) (E4 (C3 rfl (by rfl)) (E4 (C3 rfl (by rfl)) J0)))); exact ⟨ok13.2.1, show sizeL (fun x : Str => x.length) l ≤ 210 by omega, ok27.2⟩)
end Go.Proofs.YtnlhbdkcgaeimaaGreat

set_option linter.unusedVariables false
set_option linter.unusedSimpArgs false
set_option maxRecDepth 100000
set_option maxHeartbeats 2000000
namespace Go.Proofs.YtnlhbdkcgaeimaaGreat
open Go Go.AV Go.M
attribute [local irreducible] OpW OpA OpS AWP FSpec ESpec GSpec OpE RetOk RetOkG RvDen Le Ev GuardIs SrcIs SrcE Int.tmod Int.tdiv IntKind.wrap bandI
theorem has_spec (l : List Int) (n : Int) : FSpec Tryz.prog 42 [ints l, AV.int n] (AV.bool (l.any fun x => x == n)) := by
 refine E7 Tryz.func42 rfl Tryz.ntmps42 rfl ?_
 refine U9 (t := 0) rfl fun hl => ?_
 try simp only [A6] at hl
 refine A3 (A2 ?_)
 refine A1 rfl rfl rfl (C0 rfl F3) ?_
 refine A4 (A3 (A3 (A2 ?_)))
 refine A5 rfl rfl rfl rfl rfl ?_
 refine A1 rfl rfl rfl (I5 rfl S7 (A0 rfl)) ?_
 refine A1 rfl rfl rfl (C6 rfl C2) ?_
 refine A4 (E1 ?_)
 refine K8 [(1, _), (7, _), (8, _)] _ (fun (i : Nat) => i ≤ l.length ∧ (l.any fun x => x == n) = (l.drop i).any fun x => x == n) (fun (i : Nat) => []) (fun (i : Nat) => [(9, AV.int i)]) (fun (i : Nat) => l.length - i) (0) ?_ (L0 ⟨rfl, rfl, rfl, rfl, trivial⟩) ?_
 ·exact ⟨Nat.zero_le _, rfl⟩
 intro i hinv
 refine A3 (A2 ?_)
 refine A1 rfl rfl rfl (L4 rfl (A0 rfl) (A0 rfl)) ?_
 refine A4 (A3 ?_)
 refine C8 (A0 rfl) ?_ ?_
 ·intro h10
  have k10 := of_decide_eq_true h10; try simp only [A6] at k10
  have hlt : i < l.length := by omega
  obtain ⟨x, hx⟩ := get_some hlt
  refine D2 (A3 (E1 (A3 (A2 ?_))))
  refine A1 rfl rfl rfl (K0 rfl S7 C1 (A0 rfl) (A0 rfl) hx (by first | omega | (simp only [A6, A8, B2, B6, A9, szR] at *; omega))) ?_
  refine A1 rfl rfl rfl (O8 rfl (A0 rfl) D1 rfl) ?_
  refine B5 rfl rfl rfl rfl rfl ?_
  refine A4 (A3 (A2 ?_))
  refine A5 rfl rfl rfl rfl rfl ?_
  refine A5 rfl rfl rfl rfl rfl ?_
  refine A1 rfl rfl rfl (M0 rfl (A0 rfl) (A0 rfl)) ?_
  refine A4 ?_
  refine C8 (A0 rfl) ?_ ?_
  ·intro h15
   have k15 := K3 h15; try simp only [A6] at k15
   rw [hinv.2, drop_some hx, List.any_cons, show (x == n) = true by simpa using h15]
   refine A3 (A2 ?_)
   refine A1 rfl rfl rfl (C0 rfl F3) ?_
   refine A4 ?_
   refine C7 ?_
   exact I2 rfl (C3 rfl (by rfl))
  ·intro h15
   have k15 := K2 h15; try simp only [A6] at k15
   refine D2 (A2 ?_)
   refine A1 rfl rfl rfl (H0 rfl (A0 rfl) C2 (by first | omega | (simp only [A6, A8, B2, B6, A9, szR] at *; omega))) ?_
   refine A5 rfl rfl rfl rfl rfl ?_
   refine A4 ?_
   refine N0 i (i + 1) ?_ ?_ (L0 ⟨rfl, rfl, rfl, rfl, trivial⟩)
   ·exact ⟨by omega, by rw [hinv.2, drop_some hx, List.any_cons, show (x == n) = false by simpa using h15, Bool.false_or]⟩
   ·omega
 ·intro h10
  have k10 := of_decide_eq_false h10; try simp only [A6] at k10
  have hge : l.length ≤ i := by omega
  rw [hinv.2, List.drop_eq_nil_of_le hge]
  refine I1 ?_
  refine A3 (A2 ?_)
  refine A1 rfl rfl rfl (C0 rfl F3) ?_
  refine A4 ?_
  refine C7 ?_
  exact I2 rfl (C3 rfl (by rfl))
theorem l4 (code : List Int) (hcode : ByteL code) : GSpec Tryz.prog 43 [bytesI code] [] (fun x : TState × Int => x.1.size ≤ 33045) (fun x => []) (fun x => AV.tup [AV.agg x.1.cs, AV.int x.2]) := by
 refine H7 Tryz.func43 rfl Tryz.ntmps43 rfl ?_
 refine A3 (A2 ?_)
 refine G5 rfl rfl rfl rfl Tryz.zeroValue30 rfl ?_
 intro b2
 refine A1 rfl rfl rfl (C0 rfl C2) ?_
 refine A4 (A3 (A2 ?_))
 refine A5 rfl rfl rfl rfl rfl ?_
 refine A1 rfl rfl rfl (M7 (places := #[(0, 1), (1, 1), (2, 1)]) rfl L6 Tryz.zeroValue127 (fun w => by kernel_rfl) rfl (D7 (A0 rfl) (T0 _ _) H6) rfl) ?_
 refine L9 rfl rfl rfl rfl (A0 rfl) ?_
 intro b7
 refine B5 rfl rfl rfl rfl rfl ?_
 refine A4 (A3 (A2 ?_))
 refine A5 rfl rfl rfl rfl rfl ?_
 refine I0 [0] rfl rfl rfl rfl Tryz.call99 rfl (AD9 _ _ hcode ⟨0, 0⟩ (by decide)) (A7 (A0 rfl) C9) rfl ?_
 intro x9 ok9
 have hp9 : x9.1.p ≤ 1310 := by (have h9 := ok9.1; dsimp only at h9; omega)
 refine A5 rfl rfl rfl rfl rfl ?_
 refine A1 rfl rfl rfl (M8 rfl S7 C1 Tryz.zeroValue3 rfl rfl rfl rfl (D7 C2 (K6 _ _) (D7 C2 (K6 _ _) (D7 C2 (K6 _ _) (D7 C2 (K6 _ _) (D7 C2 (K6 _ _) (D7 C2 (K6 _ _) (D7 C2 (K6 _ _) H6))))))) rfl rfl) ?_
 refine I0 [0] rfl rfl rfl rfl Tryz.call129 rfl (AC1 _ _ hcode _ ([(0), (5), (40), (99999), (100000), (100001), (-1)] : List Int) (by decide) (by omega)) (A7 (A0 rfl) (A7 (A0 rfl) C9)) rfl ?_
 intro x12 ok12
 refine D9 1 rfl rfl rfl (A0 rfl) (A0 rfl) (E9 _) rfl C5 rfl ?_
 refine B5 rfl rfl rfl rfl rfl ?_
 refine A4 ?_
 refine C7 ?_
 (refine J6 [] ((x9.2, x12.2)) ?_ rfl (by first | (dsimp only; rfl) | rfl) (S8 rfl (by decide) (E4 (J9 (ys := _) 1 rfl rfl D8 C5 rfl) (E4 (C3 rfl (by rfl)) J0))); exact ok9.2.1)
theorem AP4 (code : List Int) (hcode : ByteL code) : GSpec Tryz.prog 37 [bytesI code] [] (fun x : TState × List Str × List TWrite => x.1.size ≤ 33045 ∧ sizeL (fun x : Str => x.length) x.2.1 ≤ 210 ∧ sizeL TWrite.size x.2.2 ≤ 700) (fun x => []) (fun x => AV.tup [AV.agg x.1.cs, strs x.2.1, AV.list 3 (x.2.2.map TWrite.cs)]) :=
  AQ7 (fun x => x.1) (fun x => [.arr x.2.1 9 1 (x.1.2.1.map fun t => [AV.str t]), .arr x.2.2 77 3 (x.1.2.2.map TWrite.cs)]) (fun x => []) (AN6 code hcode) (fun _ h => h) (fun x _ => AU9 (G3 J5 (G3 (M2 (G2 (i := 0) rfl) I7) (G3 (M2 (G2 (i := 1) rfl) I7) S1)))) (fun x _ => (List.append_nil _).symm ▸ List.Perm.refl _) (fun _ _ => R7) (fun x _ => oc_nil)
end Go.Proofs.YtnlhbdkcgaeimaaGreat

set_option linter.unusedVariables false
set_option linter.unusedSimpArgs false
namespace Go.M
open Go.AV
end Go.M

set_option linter.unusedVariables false
set_option linter.unusedSimpArgs false
set_option maxRecDepth 100000
set_option maxHeartbeats 1000000
namespace Go.M
open Go.AV
def mostI (a b : Int) : Int := if b < a then a else b
def prepT (s : TState) (n : Int) : Int × Bool := if (goodState s && isTrue n) = true then (if mostI s.Floor n + 1 ≤ 100000 then (mostI s.Floor n + 1, true) else (0, false)) else (0, false)
theorem AI9 {n : Int} : isTrue n = true ↔ 0 ≤ n ∧ n ≤ 100000 := by unfold isTrue within; simp only [Bool.and_eq_true, decide_eq_true_eq]
end Go.M
namespace Go.Proofs.YtnlhbdkcgaeimaaGreat
open Go Go.AV Go.M
attribute [local irreducible] OpW OpA OpS AWP FSpec ESpec GSpec OpE RetOk RetOkG RvDen Le Ev GuardIs SrcIs SrcE Int.tmod Int.tdiv IntKind.wrap bandI
theorem Ap2 (t : Int) : FSpec Tryz.prog 127 [AV.int t] (AV.tup [AV.int (if t ≤ 100000 then t else 0), AV.bool (decide (t ≤ 100000))]) := by
 refine E7 Tryz.func127 rfl Tryz.ntmps127 rfl ?_
 refine A3 (A2 ?_)
 refine A1 rfl rfl rfl (C0 rfl C2) ?_
 refine A1 rfl rfl rfl (C0 rfl F3) ?_
 refine A4 (A3 (A3 (A2 ?_)))
 refine A5 rfl rfl rfl rfl rfl ?_
 refine A1 rfl rfl rfl (P1 rfl (A0 rfl) C2) ?_
 refine A4 ?_
 refine C8 (A0 rfl) ?_ ?_
 ·intro h5
  have k5 := of_decide_eq_true h5; try simp only [A6] at k5
  rw [if_neg (by omega), decide_eq_false (by omega)]
  refine A3 (A2 ?_)
  refine A1 rfl rfl rfl (C0 rfl C2) ?_
  refine A1 rfl rfl rfl (C0 rfl F3) ?_
  refine A4 ?_
  refine C7 ?_
  exact U3 rfl (by decide) (E4 (C3 rfl (by rfl)) (E4 (C3 rfl (by rfl)) J0))
 ·intro h5
  have k5 := of_decide_eq_false h5; try simp only [A6] at k5
  rw [if_pos (by omega), decide_eq_true (by omega)]
  refine D2 (A3 (A2 ?_))
  refine A5 rfl rfl rfl rfl rfl ?_
  refine B5 rfl rfl rfl rfl rfl ?_
  refine A1 rfl rfl rfl (C0 rfl F3) ?_
  refine A4 ?_
  refine C7 ?_
  exact U3 rfl (by decide) (E4 (C3 rfl (by rfl)) (E4 (C3 rfl (by rfl)) J0))
theorem j0 (s : TState) (n : Int) (hs : s.size ≤ 1048576) : FSpec Tryz.prog 40 [AV.agg s.cs, AV.int n] (AV.tup [AV.int (prepT s n).1, AV.bool (prepT s n).2]) := by
 refine E7 Tryz.func40 rfl Tryz.ntmps40 rfl ?_
 refine A3 (A2 ?_)
 refine L9 rfl rfl rfl rfl (A0 rfl) ?_
 intro b2
 refine A1 rfl rfl rfl (C0 rfl C2) ?_
 refine A1 rfl rfl rfl (C0 rfl F3) ?_
 refine A4 (A3 (A3 (A2 ?_)))
 refine A1 rfl rfl rfl (F8 0 rfl (A0 rfl) rfl D8 C5 rfl) ?_
 refine A1 rfl rfl rfl (E5 rfl Tryz.call15 rfl (c8 s hs) (A7 (A0 rfl) C9)) ?_
 refine A1 rfl rfl rfl (J7 rfl (A0 rfl)) ?_
 refine A5 rfl rfl rfl rfl rfl ?_
 refine B1 rfl rfl (D4 rfl rfl rfl) (fun hc => C6 rfl (A0 rfl)) ?_
 refine B1 rfl rfl (D4 rfl rfl rfl) (fun hc => E5 rfl Tryz.call90 rfl (u9 _) (A7 (B0 rfl hc) C9)) ?_
 refine B1 rfl rfl (D4 rfl rfl rfl) (fun hc => J7 rfl (B0 rfl hc)) ?_
 refine A1 rfl rfl rfl (P5 rfl (A0 rfl) (G0 rfl)) ?_
 refine A4 ?_
 refine C8 (A0 rfl) ?_ ?_
 ·intro h13
  have he : prepT s n = (0, false) := by (unfold prepT; rw [if_neg (by (cases h1 : goodState s <;> simp_all))])
  rw [he]
  refine A3 (A2 ?_)
  refine A1 rfl rfl rfl (C0 rfl C2) ?_
  refine A1 rfl rfl rfl (C0 rfl F3) ?_
  refine A4 ?_
  refine C7 ?_
  exact U3 rfl (by decide) (E4 (C3 rfl (by first | rfl | (rw [hm]; by_cases hq : mostI s.Floor n + 1 ≤ 100000 <;> simp [hq]))) (E4 (C3 rfl (by first | rfl | (rw [hm]; by_cases hq : mostI s.Floor n + 1 ≤ 100000 <;> simp [hq]))) J0))
 ·intro h13
  have hg : goodState s = true ∧ isTrue n = true := by (cases h1 : goodState s <;> cases h2 : isTrue n <;> simp_all)
  have hn := AI9.1 hg.2
  have hfl := (U8.1 hg.1).floor
  have he : prepT s n = (if mostI s.Floor n + 1 ≤ 100000 then (mostI s.Floor n + 1, true) else (0, false)) := by (unfold prepT; rw [if_pos (by rw [hg.1, hg.2]; rfl)])
  have hm : (if n > s.Floor then n else s.Floor) = mostI s.Floor n := by (unfold mostI; split <;> split <;> omega)
  have hml : 0 ≤ mostI s.Floor n ∧ mostI s.Floor n ≤ 100000 := by (unfold mostI; split <;> omega)
  rw [he]
  refine D2 (A3 (A2 ?_))
  refine A1 rfl rfl rfl (B4 0 rfl C4 rfl C1 (A0 rfl) rfl) ?_
  refine A1 rfl rfl rfl (B3 0 rfl (A0 rfl) rfl D1 rfl) ?_
  refine A5 rfl rfl rfl rfl rfl ?_
  refine A1 rfl rfl rfl (w_max rfl (A0 rfl) (A0 rfl)) ?_
  refine A1 rfl rfl rfl (H0 rfl (A0 rfl) C2 (by omega)) ?_
  refine A1 rfl rfl rfl (E5 rfl Tryz.call127 rfl (Ap2 _) (A7 (A0 rfl) C9)) ?_
  refine A1 rfl rfl rfl (F0 rfl (A0 rfl) rfl) ?_
  refine A1 rfl rfl rfl (F0 rfl (A0 rfl) rfl) ?_
  refine B5 rfl rfl rfl rfl rfl ?_
  refine B5 rfl rfl rfl rfl rfl ?_
  refine A4 ?_
  refine C7 ?_
  exact U3 rfl (by decide) (E4 (C3 rfl (by first | rfl | (rw [hm]; by_cases hq : mostI s.Floor n + 1 ≤ 100000 <;> simp [hq]))) (E4 (C3 rfl (by first | rfl | (rw [hm]; by_cases hq : mostI s.Floor n + 1 ≤ 100000 <;> simp [hq]))) J0))
theorem n6 (s : TState) (n : Int) (hs : s.size ≤ 400000) : FSpec Tryz.prog 44 [AV.agg s.cs, AV.int n] (AV.tup [AV.int (prepT s n).1, AV.bool (prepT s n).2]) := by
 refine E7 Tryz.func44 rfl Tryz.ntmps44 rfl ?_
 refine A3 (A2 ?_)
 refine L9 rfl rfl rfl rfl (A0 rfl) ?_
 intro b2
 refine A1 rfl rfl rfl (C0 rfl C2) ?_
 refine A1 rfl rfl rfl (C0 rfl F3) ?_
 refine A4 (A3 (A3 (A2 ?_)))
 refine A1 rfl rfl rfl (F8 0 rfl (A0 rfl) rfl D8 C5 rfl) ?_
 refine A1 rfl rfl rfl (E5 rfl Tryz.call102 rfl (AD7 s hs) (A7 (A0 rfl) C9)) ?_
 refine A1 rfl rfl rfl (J7 rfl (A0 rfl)) ?_
 refine A5 rfl rfl rfl rfl rfl ?_
 refine B1 rfl rfl (D4 rfl rfl rfl) (fun hc => C6 rfl (A0 rfl)) ?_
 refine B1 rfl rfl (D4 rfl rfl rfl) (fun hc => E5 rfl Tryz.call120 rfl (AQ5 _) (A7 (B0 rfl hc) C9)) ?_
 refine B1 rfl rfl (D4 rfl rfl rfl) (fun hc => J7 rfl (B0 rfl hc)) ?_
 refine A1 rfl rfl rfl (P5 rfl (A0 rfl) (G0 rfl)) ?_
 refine A5 rfl rfl rfl rfl rfl ?_
 refine B1 rfl rfl (D4 rfl rfl rfl) (fun hc => B4 0 rfl C4 rfl C1 (A0 rfl) rfl) ?_
 refine B1 rfl rfl (D4 rfl rfl rfl) (fun hc => B3 0 rfl (B0 rfl hc) rfl D1 rfl) ?_
 refine B1 rfl rfl (D4 rfl rfl rfl) (fun hc => C6 rfl (A0 rfl)) ?_
 refine B1 rfl rfl (D4 rfl rfl rfl) (fun hc => E5 rfl Tryz.call130 rfl (AR6 _ _) (A7 (B0 rfl hc) (A7 (B0 rfl hc) C9))) ?_
 refine B1 rfl rfl (D4 rfl rfl rfl) (fun hc => M0 rfl (B0 rfl hc) C2) ?_
 refine A1 rfl rfl rfl (P5 rfl (A0 rfl) (G0 rfl)) ?_
 refine A4 ?_
 refine C8 (A0 rfl) ?_ ?_
 ·intro h20
  have he : prepT s n = (0, false) := by (unfold prepT mostI; cases h1 : goodState s <;> cases h2 : M.isTrue n <;> simp_all)
  rw [he]
  refine A3 (A2 ?_)
  refine A1 rfl rfl rfl (C0 rfl C2) ?_
  refine A1 rfl rfl rfl (C0 rfl F3) ?_
  refine A4 ?_
  refine C7 ?_
  exact U3 rfl (by decide) (E4 (C3 rfl (by rfl)) (E4 (C3 rfl (by rfl)) J0))
 ·intro h20
  have hg : goodState s = true ∧ M.isTrue n = true := by (cases h1 : goodState s <;> cases h2 : M.isTrue n <;> simp_all)
  have hn := AI9.1 hg.2
  have hfl := (U8.1 hg.1).floor
  have hml : 0 ≤ mostI s.Floor n ∧ mostI s.Floor n ≤ 100000 := by (unfold mostI; split <;> omega)
  have hne : mostI s.Floor n ≠ 100000 := fun hc9 => by (rw [hg.1, hg.2, show (if n < s.Floor then s.Floor else n) = (100000 : Int) from hc9] at h20; simp at h20)
  have he : prepT s n = (mostI s.Floor n + 1, true) := by (unfold prepT; rw [if_pos (by rw [hg.1, hg.2]; rfl), if_pos (by omega)])
  rw [he]
  refine D2 (A3 (A2 ?_))
  refine A1 rfl rfl rfl (B4 0 rfl C4 rfl C1 (A0 rfl) rfl) ?_
  refine A1 rfl rfl rfl (B3 0 rfl (A0 rfl) rfl D1 rfl) ?_
  refine A5 rfl rfl rfl rfl rfl ?_
  refine A1 rfl rfl rfl (E5 rfl Tryz.call130 rfl (AR6 _ _) (A7 (A0 rfl) (A7 (A0 rfl) C9))) ?_
  refine A1 rfl rfl rfl (H0 rfl (A0 rfl) C2 (by show _ ≤ mostI s.Floor n + 1 ∧ mostI s.Floor n + 1 ≤ _; omega)) ?_
  refine B5 rfl rfl rfl rfl rfl ?_
  refine A1 rfl rfl rfl (C0 rfl F3) ?_
  refine A4 ?_
  refine C7 ?_
  exact U3 rfl (by decide) (E4 (C3 rfl (by rfl)) (E4 (C3 rfl (by rfl)) J0))
end Go.Proofs.YtnlhbdkcgaeimaaGreat

set_option linter.unusedVariables false
set_option linter.unusedSimpArgs false
namespace Go.M
open Go.AV
theorem AJ0 {s : TState} {p : Int} (h : prepT s 0 = (p, true)) : goodState s = true ∧ s.Floor < p ∧ 1 ≤ p ∧ p ≤ 100000 := by
  unfold prepT at h
  split at h
  · rename_i hg
    have hg1 : goodState s = true := by simp only [Bool.and_eq_true] at hg; exact hg.1
    split at h
    · rename_i hl
      injection h with h1 h2
      have hfl := (U8.1 hg1).floor
      unfold mostI at h1 hl
      refine ⟨hg1, ?_, ?_, ?_⟩ <;> (split at h1 <;> omega)
    · injection h with h1 h2; cases h2
  · injection h with h1 h2; cases h2
theorem Ae5 {rs : List Str} {ws : List TWrite} {p : Int} (h : goodRec ⟨1, 1, 1, 0, rs, ws, false⟩ = true) (h1 : 1 ≤ p) (h2 : p ≤ 100000) : goodRec ⟨1, 59, p, 0, rs, ws, false⟩ = true := by
  unfold goodRec good1 isTxnR isTime within at *
  simp only [if_true, Bool.and_eq_true, decide_eq_true_eq] at *
  obtain ⟨⟨⟨⟨⟨⟨⟨⟨a1, a2⟩, a3⟩, a4⟩, a5⟩, a6⟩, a7⟩, a8⟩, a9⟩ := h
  exact ⟨⟨⟨⟨⟨⟨⟨⟨by omega, by omega⟩, a3⟩, a4⟩, a5⟩, a6⟩, a7⟩, a8⟩, a9⟩
theorem AT8 {s : TState} {rs : List Str} {ws : List TWrite} (h2 : (fitsR s rs ws).2 = true) (h1 : (fitsR s rs ws).1 = true) : goodState s = true ∧ goodRec ⟨1, 1, 1, 0, rs, ws, false⟩ = true ∧ fits s rs ws = true := by
  unfold fitsR at h1 h2
  split at h1
  · rename_i hg
    simp only [Bool.and_eq_true] at hg
    exact ⟨hg.1, hg.2, h1⟩
  · cases h1
theorem Ap3 {s : TState} (hg : goodState s = true) (n : Int) : (outcomeR s n).2 = hasT s.Told n := by
  unfold outcomeR
  rw [if_pos hg]
  cases hf : findT s.Told n with
  | none =>
    symm; refine AI2.2 fun h hm e => ?_
    unfold findT at hf
    have := List.find?_eq_none.1 hf h hm
    simp [e] at this
  | some t =>
    symm; unfold findT at hf
    exact Aj1.2 ⟨t, List.mem_of_find?_eq_some hf, by simpa using List.find?_some hf⟩
theorem held_has {s : TState} (hg : goodState s = true) (n : Int) : (heldR s n).2 = hasH s.Held n := by
  unfold heldR
  rw [if_pos hg]
  cases hf : findH s.Held n with
  | none =>
    symm; refine i9.2 fun h hm e => ?_
    unfold findH at hf
    have := List.find?_eq_none.1 hf h hm
    simp [e] at this
  | some t =>
    symm; unfold findH at hf
    exact Aj0.2 ⟨t, List.mem_of_find?_eq_some hf, by simpa using List.find?_some hf⟩
theorem Ae6 {h : THeld} : ∀ {l : List THeld}, (∀ g ∈ l, g.Txn ≠ h.Txn) → findH (insH h l) h.Txn = some h
  | [], _ => by unfold insH findH; simp
  | g :: l, hn => by
    unfold insH
    split
    · unfold findH; simp
    · have h1 := hn g List.mem_cons_self
      have h2 := Ae6 (h := h) (l := l) fun x hx => hn x (List.mem_cons_of_mem _ hx)
      unfold findH at h2 ⊢
      rw [List.find?_cons_of_neg (by simpa using h1)]; exact h2
theorem Au7 {s : TState} {r : TRec} (h : r.Kind = 1) (hT : hasT s.Told r.Txn = false) : applyS s r = (⟨r.Time, s.Cells, insH (hOf r) s.Held, s.Told⟩, (!hasH s.Held r.Txn && decide (s.Floor < r.Time)) && fits s r.Reads r.Writes) := by
  unfold applyS; rw [if_neg (by omega), if_neg (by rw [hT]; decide), if_pos h]
theorem Ap4 {s : TState} {r : TRec} (h : r.Kind = 1) (hT : hasT s.Told r.Txn = true) : applyS s r = (s, false) := by
  unfold applyS; rw [if_neg (by omega), if_pos hT]
theorem Au8 {s : TState} {r : TRec} {k : THeld} (h : r.Kind = 2) (hy : r.Yes = true) (hT : hasT s.Told r.Txn = false) (hf : findH s.Held r.Txn = some k) (hl : ¬ r.Time < k.Time) : applyS s r = if (putP s.Cells k.Writes r.Time).2 = true then (doneS s r (if s.Floor < r.Time then r.Time else s.Floor) (putP s.Cells k.Writes r.Time).1, true) else (s, false) := by
  unfold applyS; rw [if_neg (by omega), if_neg (by rw [hT]; decide), if_neg (by omega), if_pos hy, hf]; dsimp only; rw [if_neg hl]
def prepS (s : TState) (rs : List Str) (ws : List TWrite) (p : Int) : TState := ⟨p, s.Cells, insH ⟨59, p, 0, rs, ws⟩ s.Held, s.Told⟩
theorem AJ1 {s : TState} {rs : List Str} {ws : List TWrite} {p : Int} (h2 : (fitsR s rs ws).2 = true) (h1 : (fitsR s rs ws).1 = true) (hp : prepT s 0 = (p, true)) :
    applyRecR s ⟨1, 59, p, 0, rs, ws, false⟩ = if (!hasT s.Told 59 && !hasH s.Held 59) = true then (prepS s rs ws p, true) else (zState, false) := by
  obtain ⟨hg, hr, hf⟩ := AT8 h2 h1
  obtain ⟨_, p1, p2, p3⟩ := AJ0 hp
  rw [Aa2 s _ ⟨hg, Ae5 hr p2 p3⟩]
  cases hT : hasT s.Told 59 with
  | true => rw [Ap4 rfl hT]; rfl
  | false =>
    rw [Au7 rfl hT]
    dsimp only
    rw [decide_eq_true p1, hf]
    cases hH : hasH s.Held 59 with
    | true => rfl
    | false => rfl
structure Prepared (s : TState) (rs : List Str) (ws : List TWrite) (p : Int) : Prop where
  good : goodState (prepS s rs ws p) = true
  held : heldR (prepS s rs ws p) 59 = (⟨59, p, 0, rs, ws⟩, true)
  fit : ∃ b, fitsR (prepS s rs ws p) rs ws = (b, true) ∧ (0 < ws.length → b = false)
  blocks : ∀ w ∈ ws, ∃ l, blocksR (prepS s rs ws p) w.Key p = (l, true) ∧ (l.any fun x => x == 59) = true
  done : p + 3 ≤ 100000 → (applyRecR (prepS s rs ws p) ⟨2, 59, p + 3, 0, [], [], true⟩).2 = true
  seen : (applyRecR (prepS s rs ws p) ⟨2, 59, p + 3, 0, [], [], true⟩).2 = true → ∀ w ∈ ws, cellAtR (applyRecR (prepS s rs ws p) ⟨2, 59, p + 3, 0, [], [], true⟩).1.Cells w.Key (p + 3) = (w.Val, !w.Gone, true)
theorem Am5 {s : TState} {rs : List Str} {ws : List TWrite} {p : Int} (h2 : (fitsR s rs ws).2 = true) (h1 : (fitsR s rs ws).1 = true) (hp : prepT s 0 = (p, true)) (hn : (!hasT s.Told 59 && !hasH s.Held 59) = true) : Prepared s rs ws p := by
  obtain ⟨hg, hr, hf⟩ := AT8 h2 h1
  obtain ⟨_, p1, p2, p3⟩ := AJ0 hp
  have g := U8.1 hg
  have hrg := Ae5 hr p2 p3
  simp only [Bool.and_eq_true, Bool.not_eq_true'] at hn
  obtain ⟨hT, hH⟩ := hn
  have gn : GS (prepS s rs ws p) := As8 g hrg rfl hH hT p1 hf
  have hgn := U8.2 gn
  have hfind : findH (prepS s rs ws p).Held 59 = some ⟨59, p, 0, rs, ws⟩ := Ae6 (h := ⟨59, p, 0, rs, ws⟩) (i9.1 hH)
  have hmem : (⟨59, p, 0, rs, ws⟩ : THeld) ∈ (prepS s rs ws p).Held := i8.2 (Or.inl rfl)
  have hw : goodWrites ws = true := by
    unfold goodRec good1 at hr
    simp only [if_true, Bool.and_eq_true] at hr
    exact hr.1.1.2
  have hd : ∀ hq : goodRec ⟨2, 59, p + 3, 0, [], [], true⟩ = true, applyRecR (prepS s rs ws p) ⟨2, 59, p + 3, 0, [], [], true⟩ = if (putP s.Cells ws (p + 3)).2 = true then (doneS (prepS s rs ws p) ⟨2, 59, p + 3, 0, [], [], true⟩ (p + 3) (putP s.Cells ws (p + 3)).1, true) else (zState, false) := fun hq => by
    rw [Aa2 _ _ ⟨hgn, hq⟩]
    rw [Au8 (k := ⟨59, p, 0, rs, ws⟩) rfl rfl hT hfind (by dsimp only; omega)]
    dsimp only
    rw [show (prepS s rs ws p).Cells = s.Cells from rfl, show (prepS s rs ws p).Floor = p from rfl, if_pos (show p < p + 3 by omega)]
    cases (putP s.Cells ws (p + 3)).2 <;> rfl
  have hq : p + 3 ≤ 100000 → goodRec ⟨2, 59, p + 3, 0, [], [], true⟩ = true := fun h => by
    unfold goodRec good2 bareR isTxnR isTime within
    simp; omega
  refine ⟨hgn, ?_, ?_, fun w hm => ?_, fun h => ?_, fun h w hm => ?_⟩
  · unfold heldR; rw [if_pos hgn, hfind]
  · refine ⟨fits (prepS s rs ws p) rs ws, ?_, fun hl => ?_⟩
    · unfold fitsR; rw [if_pos (by rw [hgn, hr]; rfl)]
    · refine Bool.eq_false_iff.2 fun hc => ?_
      have ha := (Aj4.1 hc).1 _ hmem
      cases ws with
      | nil => simp at hl
      | cons w ws => exact (y5.1 ha).2 w List.mem_cons_self |>.1 w List.mem_cons_self rfl
  · refine ⟨blocksOf (prepS s rs ws p).Held w.Key p, ?_, ?_⟩
    · unfold blocksR
      rw [if_pos (by rw [hgn, AH9 hw hm, AI9.2 ⟨by omega, by omega⟩]; rfl)]
    · unfold blocksOf
      refine List.any_eq_true.2 ⟨59, List.mem_map.2 ⟨_, List.mem_filter.2 ⟨hmem, ?_⟩, rfl⟩, rfl⟩
      rw [Bool.and_eq_true]
      exact ⟨f0.2 ⟨w, hm, rfl⟩, decide_eq_true (Int.le_refl _)⟩
  · rw [hd (hq h), if_pos]
    refine put_room g.cells hw (by unfold isTime within; simp only [Bool.and_eq_true, decide_eq_true_eq]; omega) (ws := hWs (prepS s rs ws p).Held) (fun x hx => AY5.2 ⟨_, hmem, hx⟩) gn.room fun x hx => ?_
    have := Aq6 g x.Key
    omega
  · have hq2 : goodRec ⟨2, 59, p + 3, 0, [], [], true⟩ = true := by
      cases hc : goodRec ⟨2, 59, p + 3, 0, [], [], true⟩ with
      | true => rfl
      | false =>
        exfalso; unfold applyRecR at h
        rw [if_neg (by rw [hc]; rintro ⟨_, h9⟩; cases h9)] at h; cases h
    rw [hd hq2] at h ⊢
    by_cases hp2 : (putP s.Cells ws (p + 3)).2 = true
    · rw [if_pos hp2]
      obtain ⟨q1, q2⟩ := AY7 hp2
      have ht : isTime (p + 3) = true := by
        have := Aj2 hq2
        unfold isTime within; simp only [Bool.and_eq_true, decide_eq_true_eq]; dsimp only at this; omega
      exact (put_seen g.cells hw ht q1 q2 hm).1
    · rw [if_neg hp2] at h; cases h
end Go.M

set_option linter.unusedVariables false
set_option linter.unusedSimpArgs false
set_option maxRecDepth 100000
set_option maxHeartbeats 2000000
namespace Go.M
open Go.AV
theorem Ap5 {s : TState} {r : TRec} (hs : s.size ≤ 100000) (hr : r.size ≤ 1002) : (applyRecR s r).1.size ≤ 310000 := by
  by_cases hg : goodState s = true ∧ goodRec r = true
  · rw [Aa2 s r hg]
    split
    · have h1 := AT3 (applyS s r).1
      have h2 := Ae1 s r
      have h3 : phi s ≤ 3 * s.size := by
        have h4 : s.size = sizeL TCell.size s.Cells + sizeL THeld.size s.Held + s.Told.length := rfl
        unfold phi; omega
      show (applyS s r).1.size ≤ _
      omega
    · show (zState).size ≤ _; decide
  · unfold applyRecR; rw [if_neg hg]; show (zState).size ≤ _; decide
theorem Au9 {s : TState} {rs : List Str} {ws : List TWrite} {p : Int} (hs : s.size ≤ 33045) (hw : sizeL (fun x : Str => x.length) rs + sizeL TWrite.size ws ≤ 1000) : (prepS s rs ws p).size ≤ 35000 := by
  have h4 : s.size = sizeL TCell.size s.Cells + sizeL THeld.size s.Held + s.Told.length := rfl
  have h5 : sizeL THeld.size (insH ⟨59, p, 0, rs, ws⟩ s.Held) = sizeL THeld.size (⟨59, p, 0, rs, ws⟩ :: s.Held) := AW8 (q6 _ _)
  rw [L1] at h5
  have h6 : (⟨59, p, 0, rs, ws⟩ : THeld).size = sizeL (fun x : Str => x.length) rs + sizeL TWrite.size ws := rfl
  show sizeL TCell.size s.Cells + sizeL THeld.size (insH ⟨59, p, 0, rs, ws⟩ s.Held) + s.Told.length ≤ _
  omega
end Go.M
namespace Go.Proofs.YtnlhbdkcgaeimaaGreat
open Go Go.AV Go.M
open Go.ChangeShapes Go.WideShapes Go.ChangeAt Go.RowKit
section
attribute [local irreducible] OpW OpA OpS AWP FSpec ESpec GSpec OpE RetOk RetOkG RvDen Le Ev GuardIs SrcIs SrcE Int.tdiv IntKind.wrap
theorem AX6 (code : List Int) (hc : ∀ x ∈ code, (Lit.int .u8 x).wf = true) (more : List Int) (hm : ∀ x ∈ more, (Lit.int .u8 x).wf = true) : FSpec Tryz.prog 5 [bytesI code, bytesI more] (AV.bool true) := by
 refine E7 Tryz.func5 rfl Tryz.ntmps5 rfl ?_
 refine A3 (A2 ?_)
 refine A1 rfl rfl rfl (C0 rfl F3) ?_
 refine A4 (A3 (A3 (A2 ?_)))
 refine A5 rfl rfl rfl rfl rfl ?_
 refine A5 rfl rfl rfl rfl rfl ?_
 refine A1 rfl rfl rfl (E5 rfl Tryz.call8 rfl (big_spec _ _) (A7 (A0 rfl) (A7 (A0 rfl) C9))) ?_
 refine A4 ?_
 refine C8 (A0 rfl) ?_ ?_
 ·intro h42
  refine A3 (A2 ?_)
  refine A1 rfl rfl rfl (C0 rfl F3) ?_
  refine A4 ?_
  refine C7 ?_
  exact I2 rfl (C3 rfl (by first | rfl | exact congrArg AV.bool (by simp)))
 ·intro h42
  have hb0 : ByteL code := Aj6 hc
  have hb1 : ByteL more := Aj6 hm
  refine D2 (A3 (A2 ?_))
  refine A5 rfl rfl rfl rfl rfl ?_
  refine I0 [] rfl rfl rfl rfl Tryz.call37 rfl (AP4 code hb0) (A7 (A0 rfl) C9) rfl ?_
  intro x45 ok45
  obtain ⟨⟨s, rs, ws⟩, hx45⟩ : ∃ z, x45 = z := ⟨_, rfl⟩
  subst hx45
  obtain ⟨hss, hrs, hws⟩ := ok45
  dsimp only at hss hrs hws ⊢
  have hrl : rs.length ≤ 210 := Nat.le_trans O1 hrs
  have hwl : ws.length ≤ 700 := Nat.le_trans O1 hws
  refine A5 rfl rfl rfl rfl rfl ?_
  refine A1 rfl rfl rfl (F0 rfl (A0 rfl) rfl) ?_
  refine A1 rfl rfl rfl (F0 rfl (A0 rfl) rfl) ?_
  refine A1 rfl rfl rfl (F0 rfl (A0 rfl) rfl) ?_
  refine G5 rfl rfl rfl rfl Tryz.zeroValue30 rfl ?_
  intro b5
  refine D9 0 rfl rfl rfl (A0 rfl) (A0 rfl) (E9 _) rfl C5 rfl ?_
  refine B5 rfl rfl rfl rfl rfl ?_
  refine B5 rfl rfl rfl rfl rfl ?_
  refine A4 (A3 (A2 ?_))
  refine A1 rfl rfl rfl (F8 0 rfl (A0 rfl) rfl D8 C5 rfl) ?_
  refine A5 rfl rfl rfl rfl rfl ?_
  refine A5 rfl rfl rfl rfl rfl ?_
  refine A1 rfl rfl rfl (E5 rfl Tryz.call38 rfl (AG2 s rs ws (by omega) (by omega)) (A7 (A0 rfl) (A7 (A0 rfl) (A7 (A0 rfl) C9)))) ?_
  refine A5 rfl rfl rfl rfl rfl ?_
  refine A1 rfl rfl rfl (F0 rfl (A0 rfl) rfl) ?_
  refine A1 rfl rfl rfl (F0 rfl (A0 rfl) rfl) ?_
  refine B5 rfl rfl rfl rfl rfl ?_
  refine B5 rfl rfl rfl rfl rfl ?_
  refine A4 (A3 (A2 ?_))
  refine A1 rfl rfl rfl (F8 0 rfl (A0 rfl) rfl D8 C5 rfl) ?_
  refine A5 rfl rfl rfl rfl rfl ?_
  refine A5 rfl rfl rfl rfl rfl ?_
  refine A1 rfl rfl rfl (E5 rfl Tryz.call39 rfl (AX5 s rs ws (by omega) (by omega)) (A7 (A0 rfl) (A7 (A0 rfl) (A7 (A0 rfl) C9)))) ?_
  refine A5 rfl rfl rfl rfl rfl ?_
  refine A1 rfl rfl rfl (F0 rfl (A0 rfl) rfl) ?_
  refine A1 rfl rfl rfl (F0 rfl (A0 rfl) rfl) ?_
  refine B5 rfl rfl rfl rfl rfl ?_
  refine B5 rfl rfl rfl rfl rfl ?_
  refine A4 (A3 (A3 (A2 ?_)))
  refine A5 rfl rfl rfl rfl rfl ?_
  refine A5 rfl rfl rfl rfl rfl ?_
  refine A1 rfl rfl rfl (Ag6 rfl U2 (A0 rfl) (A0 rfl)) ?_
  refine A5 rfl rfl rfl rfl rfl ?_
  refine B1 rfl rfl (D4 rfl rfl rfl) (fun hc => C6 rfl (A0 rfl)) ?_
  refine B1 rfl rfl (D4 rfl rfl rfl) (fun hc => C6 rfl (A0 rfl)) ?_
  refine B1 rfl rfl (D4 rfl rfl rfl) (fun hc => Ag6 rfl U2 (B0 rfl hc) (B0 rfl hc)) ?_
  refine A1 rfl rfl rfl (P5 rfl (A0 rfl) (G0 rfl)) ?_
  refine A4 ?_
  refine C8 (A0 rfl) ?_ ?_
  ·intro h70
   exfalso; simp at h70
  ·intro h70
   refine D2 (A3 (A3 (A2 ?_)))
   refine A5 rfl rfl rfl rfl rfl ?_
   refine A5 rfl rfl rfl rfl rfl ?_
   refine B1 rfl rfl (B9 rfl rfl rfl) (fun hc => C6 rfl (A0 rfl)) ?_
   refine A1 rfl rfl rfl (I3 rfl (A0 rfl) (G0 rfl)) ?_
   refine A4 ?_
   refine C8 (A0 rfl) ?_ ?_
   ·intro h74
    have hf := h74
    rw [Bool.and_eq_true] at hf
    obtain ⟨hf2, hf1⟩ := hf
    have hgs := (AT8 hf2 hf1).1
    refine A3 (A2 ?_)
    refine A1 rfl rfl rfl (F8 0 rfl (A0 rfl) rfl D8 C5 rfl) ?_
    refine A1 rfl rfl rfl (E5 rfl Tryz.call40 rfl (j0 s 0 (by omega)) (A7 (A0 rfl) (A7 C2 C9))) ?_
    refine A5 rfl rfl rfl rfl rfl ?_
    refine A1 rfl rfl rfl (F0 rfl (A0 rfl) rfl) ?_
    refine A1 rfl rfl rfl (F0 rfl (A0 rfl) rfl) ?_
    refine B5 rfl rfl rfl rfl rfl ?_
    refine B5 rfl rfl rfl rfl rfl ?_
    refine A4 (A3 (A3 (A2 ?_)))
    refine A5 rfl rfl rfl rfl rfl ?_
    refine A1 rfl rfl rfl (J7 rfl (A0 rfl)) ?_
    refine A4 ?_
    refine C8 (A0 rfl) ?_ ?_
    ·intro h81
     refine A3 (A2 ?_)
     refine A1 rfl rfl rfl (C0 rfl F3) ?_
     refine A4 ?_
     refine C7 ?_
     exact I2 rfl (C3 rfl (by first | rfl | exact congrArg AV.bool (by simp)))
    ·intro h81
     obtain ⟨p, hp⟩ : ∃ p, prepT s 0 = (p, true) := ⟨(prepT s 0).1, Prod.ext rfl (by simpa using h81)⟩
     obtain ⟨_, p1, p2, p3⟩ := AJ0 hp
     have hrz : (⟨1, 59, p, 0, rs, ws, false⟩ : TRec).size ≤ 1002 := (show sizeL (fun x : Str => x.length) rs + sizeL TWrite.size ws ≤ 1002 by omega)
     have hPz := Au9 (p := p) hss (show sizeL (fun x : Str => x.length) rs + sizeL TWrite.size ws ≤ 1000 by omega)
     rw [hp]
     refine D2 (A3 (A2 ?_))
     refine A5 rfl rfl rfl rfl rfl ?_
     refine A5 rfl rfl rfl rfl rfl ?_
     refine A5 rfl rfl rfl rfl rfl ?_
     refine A1 rfl rfl rfl (M7 (places := #[(0, 1), (1, 1), (2, 1), (3, 1), (4, 1), (5, 1), (6, 1)]) rfl B8 Tryz.zeroValue49 (fun w => by kernel_rfl) rfl (D7 C2 (K6 _ _) (D7 C2 (K6 _ _) (D7 (A0 rfl) (K6 _ _) (D7 (A0 rfl) (T0 _ _) (D7 (A0 rfl) (T0 _ _) H6))))) rfl) ?_
     refine G5 rfl rfl rfl rfl Tryz.zeroValue49 rfl ?_
     intro b14
     refine D9 0 rfl rfl rfl (A0 rfl) (A0 rfl) (E9 _) rfl H5 rfl ?_
     refine A4 (A3 (A2 ?_))
     refine A1 rfl rfl rfl (F8 1 rfl (A0 rfl) rfl D8 C5 rfl) ?_
     refine A1 rfl rfl rfl (E5 rfl Tryz.call16 rfl (AZ9 s 59 (by omega)) (A7 (A0 rfl) (A7 C2 C9))) ?_
     refine A5 rfl rfl rfl rfl rfl ?_
     refine A1 rfl rfl rfl (F0 rfl (A0 rfl) rfl) ?_
     refine A1 rfl rfl rfl (F0 rfl (A0 rfl) rfl) ?_
     refine G5 rfl rfl rfl rfl Tryz.zeroValue39 rfl ?_
     intro b15
     refine D9 0 rfl rfl rfl (A0 rfl) (A0 rfl) (E9 _) rfl G7 rfl ?_
     refine B5 rfl rfl rfl rfl rfl ?_
     refine A4 (A3 (A2 ?_))
     refine A1 rfl rfl rfl (F8 2 rfl (A0 rfl) rfl D8 C5 rfl) ?_
     refine A1 rfl rfl rfl (E5 rfl Tryz.call17 rfl (AN3 s 59 (by omega)) (A7 (A0 rfl) (A7 C2 C9))) ?_
     refine A5 rfl rfl rfl rfl rfl ?_
     refine A1 rfl rfl rfl (F0 rfl (A0 rfl) rfl) ?_
     refine A1 rfl rfl rfl (F0 rfl (A0 rfl) rfl) ?_
     refine G5 rfl rfl rfl rfl Tryz.zeroValue45 rfl ?_
     intro b17
     refine D9 0 rfl rfl rfl (A0 rfl) (A0 rfl) (E9 _) rfl D3 rfl ?_
     refine B5 rfl rfl rfl rfl rfl ?_
     refine A4 (A3 (A2 ?_))
     refine A1 rfl rfl rfl (F8 3 rfl (A0 rfl) rfl D8 C5 rfl) ?_
     refine A1 rfl rfl rfl (F8 2 rfl (A0 rfl) rfl N3 H5 rfl) ?_
     refine A1 rfl rfl rfl (E5 rfl Tryz.call19 rfl (AK0 s ⟨1, 59, p, 0, rs, ws, false⟩ (by omega) (by omega)) (A7 (A0 rfl) (A7 (A0 rfl) C9))) ?_
     refine A5 rfl rfl rfl rfl rfl ?_
     refine A1 rfl rfl rfl (F0 rfl (A0 rfl) rfl) ?_
     refine A1 rfl rfl rfl (F0 rfl (A0 rfl) rfl) ?_
     refine G5 rfl rfl rfl rfl Tryz.zeroValue30 rfl ?_
     intro b19
     refine D9 0 rfl rfl rfl (A0 rfl) (A0 rfl) (E9 _) rfl C5 rfl ?_
     refine B5 rfl rfl rfl rfl rfl ?_
     refine A4 (A3 (A3 (A2 ?_)))
     refine A5 rfl rfl rfl rfl rfl ?_
     refine A5 rfl rfl rfl rfl rfl ?_
     refine A1 rfl rfl rfl (J7 rfl (A0 rfl)) ?_
     refine A5 rfl rfl rfl rfl rfl ?_
     refine B1 rfl rfl (B9 rfl rfl rfl) (fun hc => C6 rfl (A0 rfl)) ?_
     refine B1 rfl rfl (B9 rfl rfl rfl) (fun hc => J7 rfl (B0 rfl hc)) ?_
     refine A1 rfl rfl rfl (I3 rfl (A0 rfl) (G0 rfl)) ?_
     refine A1 rfl rfl rfl (Ag6 rfl U2 (A0 rfl) (A0 rfl)) ?_
     refine A4 ?_
     refine C8 (A0 rfl) ?_ ?_
     ·intro h109
      exfalso; rw [AJ1 hf2 hf1 hp, Ap3 hgs, held_has hgs] at h109; cases h1 : hasT s.Told 59 <;> cases h2 : hasH s.Held 59 <;> simp [h1, h2] at h109
     ·intro h109
      refine D2 (A3 (A2 ?_))
      refine A5 rfl rfl rfl rfl rfl ?_
      refine A4 ?_
      refine C8 (A0 rfl) ?_ ?_
      ·intro h110
       have hn : (!hasT s.Told 59 && !hasH s.Held 59) = true := by (cases h9 : (!hasT s.Told 59 && !hasH s.Held 59) with | true => rfl | false => (rw [AJ1 hf2 hf1 hp, h9] at h110; cases h110))
       have he : applyRecR s ⟨1, 59, p, 0, rs, ws, false⟩ = (prepS s rs ws p, true) := by (rw [AJ1 hf2 hf1 hp, if_pos hn])
       have P := Am5 hf2 hf1 hp hn
       have hAz := Ap5 (s := prepS s rs ws p) (r := ⟨2, 59, p + 3, 0, [], [], true⟩) (by omega) (by show sizeL (fun x : Str => x.length) [] + sizeL TWrite.size [] ≤ 1002; simp [sizeL])
       rw [he]
       refine A3 (A2 ?_)
       refine A1 rfl rfl rfl (F8 0 rfl (A0 rfl) rfl D8 C5 rfl) ?_
       refine A1 rfl rfl rfl (E5 rfl Tryz.call17 rfl (AN3 (prepS s rs ws p) 59 (by omega)) (A7 (A0 rfl) (A7 C2 C9))) ?_
       refine A5 rfl rfl rfl rfl rfl ?_
       refine A1 rfl rfl rfl (F0 rfl (A0 rfl) rfl) ?_
       refine A1 rfl rfl rfl (F0 rfl (A0 rfl) rfl) ?_
       refine G5 rfl rfl rfl rfl Tryz.zeroValue45 rfl ?_
       intro b21
       refine D9 0 rfl rfl rfl (A0 rfl) (A0 rfl) (E9 _) rfl D3 rfl ?_
       refine B5 rfl rfl rfl rfl rfl ?_
       refine A4 (A3 (A2 ?_))
       refine A1 rfl rfl rfl (F8 1 rfl (A0 rfl) rfl D8 C5 rfl) ?_
       refine A5 rfl rfl rfl rfl rfl ?_
       refine A5 rfl rfl rfl rfl rfl ?_
       refine A1 rfl rfl rfl (E5 rfl Tryz.call38 rfl (AG2 (prepS s rs ws p) rs ws (by omega) (by omega)) (A7 (A0 rfl) (A7 (A0 rfl) (A7 (A0 rfl) C9)))) ?_
       refine A5 rfl rfl rfl rfl rfl ?_
       refine A1 rfl rfl rfl (F0 rfl (A0 rfl) rfl) ?_
       refine A1 rfl rfl rfl (F0 rfl (A0 rfl) rfl) ?_
       refine B5 rfl rfl rfl rfl rfl ?_
       refine B5 rfl rfl rfl rfl rfl ?_
       refine A4 (A3 (A2 ?_))
       refine A1 rfl rfl rfl (F8 1 rfl (A0 rfl) rfl D8 C5 rfl) ?_
       refine A5 rfl rfl rfl rfl rfl ?_
       refine A1 rfl rfl rfl (H0 rfl (A0 rfl) C2 (by first | omega | (simp only [A6, A8, B2, B6, A9, szR] at *; omega))) ?_
       refine A1 rfl rfl rfl (M7 (places := #[(0, 1), (1, 1), (2, 1), (3, 1), (4, 1), (5, 1), (6, 1)]) rfl B8 Tryz.zeroValue49 (fun w => by kernel_rfl) rfl (D7 C2 (K6 _ _) (D7 C2 (K6 _ _) (D7 F3 (Y2 _) (D7 (A0 rfl) (K6 _ _) H6)))) rfl) ?_
       refine AA1 (Y6 [] 127 rfl rfl (Y0 (G3 J5 (G3 J5 (G3 J5 (G3 J5 (G3 (AY1 (sz := 1)) (G3 (AY1 (sz := 3)) (G3 J5 S1)))))))) Ad5) ?_
       refine A1 rfl rfl rfl (E5 rfl Tryz.call19 rfl (AK0 (prepS s rs ws p) ⟨2, 59, p + 3, 0, [], [], true⟩ (by omega) (by show sizeL (fun x : Str => x.length) [] + sizeL TWrite.size [] ≤ 1048576; simp [sizeL])) (A7 (A0 rfl) (A7 (A0 rfl) C9))) ?_
       refine A5 rfl rfl rfl rfl rfl ?_
       refine A1 rfl rfl rfl (F0 rfl (A0 rfl) rfl) ?_
       refine A1 rfl rfl rfl (F0 rfl (A0 rfl) rfl) ?_
       refine G5 rfl rfl rfl rfl Tryz.zeroValue30 rfl ?_
       intro b25
       refine D9 0 rfl rfl rfl (A0 rfl) (A0 rfl) (E9 _) rfl C5 rfl ?_
       refine B5 rfl rfl rfl rfl rfl ?_
       refine A4 (A3 (A3 (A2 ?_)))
       refine A5 rfl rfl rfl rfl rfl ?_
       refine A1 rfl rfl rfl (J7 rfl (A0 rfl)) ?_
       refine A5 rfl rfl rfl rfl rfl ?_
       refine B1 rfl rfl (D4 rfl rfl rfl) (fun hc => B4 1 rfl F1 rfl C1 (A0 rfl) rfl) ?_
       refine B1 rfl rfl (D4 rfl rfl rfl) (fun hc => B3 1 rfl (B0 rfl hc) rfl D1 rfl) ?_
       refine B1 rfl rfl (D4 rfl rfl rfl) (fun hc => C6 rfl (A0 rfl)) ?_
       refine B1 rfl rfl (D4 rfl rfl rfl) (fun hc => AG4 rfl (B0 rfl hc) (B0 rfl hc)) ?_
       refine A1 rfl rfl rfl (P5 rfl (A0 rfl) (G0 rfl)) ?_
       refine A5 rfl rfl rfl rfl rfl ?_
       refine B1 rfl rfl (D4 rfl rfl rfl) (fun hc => C6 rfl (A0 rfl)) ?_
       refine B1 rfl rfl (D4 rfl rfl rfl) (fun hc => J7 rfl (B0 rfl hc)) ?_
       refine A1 rfl rfl rfl (P5 rfl (A0 rfl) (G0 rfl)) ?_
       refine A5 rfl rfl rfl rfl rfl ?_
       refine B1 rfl rfl (D4 rfl rfl rfl) (fun hc => C6 rfl (A0 rfl)) ?_
       refine B1 rfl rfl (D4 rfl rfl rfl) (fun hc => C6 rfl (B0 rfl hc)) ?_
       refine B1 rfl rfl (E2 rfl rfl rfl) (fun hc => C6 rfl (A0 rfl)) ?_
       refine B1 rfl rfl (E2 rfl rfl rfl) (fun hc => I5 rfl F7 (B0 rfl hc)) ?_
       refine B1 rfl rfl (E2 rfl rfl rfl) (fun hc => P1 rfl (B0 rfl hc) C2) ?_
       refine B1 rfl rfl (D4 rfl rfl rfl) (fun hc => I3 rfl (B0 rfl hc) (P4 rfl hc)) ?_
       refine A1 rfl rfl rfl (P5 rfl (A0 rfl) (G0 rfl)) ?_
       refine A5 rfl rfl rfl rfl rfl ?_
       refine B1 rfl rfl (D4 rfl rfl rfl) (fun hc => C6 rfl (A0 rfl)) ?_
       refine B1 rfl rfl (D4 rfl rfl rfl) (fun hc => H0 rfl (B0 rfl hc) C2 (by first | omega | ((try simp only [A6, A8, B2, B6, A9, szR] at *); omega) | (have hc2 := hc; simp only [Bool.and_eq_true, Bool.or_eq_true, Bool.or_eq_false_iff, Bool.and_eq_false_iff, Bool.not_eq_true', Bool.not_eq_false', decide_eq_true_eq, decide_eq_false_iff_not, beq_iff_eq, bne_iff_ne, A6, A8] at hc2; omega))) ?_
       refine B1 rfl rfl (D4 rfl rfl rfl) (fun hc => T6 rfl (B0 rfl hc) C2) ?_
       refine B1 rfl rfl (D4 rfl rfl rfl) (fun hc => C6 rfl (B0 rfl hc)) ?_
       refine B1 rfl rfl (E2 rfl rfl rfl) (fun hc => C6 rfl (A0 rfl)) ?_
       refine B1 rfl rfl (E2 rfl rfl rfl) (fun hc => J7 rfl (B0 rfl hc)) ?_
       refine B1 rfl rfl (D4 rfl rfl rfl) (fun hc => I3 rfl (B0 rfl hc) (P4 rfl hc)) ?_
       refine A1 rfl rfl rfl (P5 rfl (A0 rfl) (G0 rfl)) ?_
       refine A4 ?_
       refine C8 (A0 rfl) ?_ ?_
       ·intro h159
        exfalso; obtain ⟨b, hb, hb2⟩ := P.fit; rw [P.held, hb] at h159; by_cases hq : p + 3 ≤ 100000 <;> by_cases hl : 0 < ws.length <;> simp_all [P.done]
       ·intro h159
        refine D2 (A3 (A2 ?_))
        refine A5 rfl rfl rfl rfl rfl ?_
        refine A1 rfl rfl rfl (I5 rfl F7 (A0 rfl)) ?_
        refine A1 rfl rfl rfl (C6 rfl C2) ?_
        refine A4 (E1 ?_)
        refine AWP.le (J2 [2, 0] rfl) ?_
        refine K8 [(1, _), (12, _), (19, _), (25, _), (26, _), (160, _), (161, _)] _ (fun (i : Nat) => i ≤ ws.length) (fun (i : Nat) => [.box b19 30 (prepS s rs ws p).cs, .box b25 30 (applyRecR (prepS s rs ws p) ⟨2, 59, p + 3, 0, [], [], true⟩).1.cs]) (fun (i : Nat) => [(162, AV.int i)]) (fun (i : Nat) => ws.length - i) (0) ?_ (S9 (by rfl) ⟨rfl, rfl, rfl, rfl, rfl, rfl, rfl, rfl, trivial⟩) ?_
        ·exact Nat.zero_le _
        intro i hinv
        refine A3 (A2 ?_)
        refine A1 rfl rfl rfl (L4 rfl (A0 rfl) (A0 rfl)) ?_
        refine A4 (A3 ?_)
        refine C8 (A0 rfl) ?_ ?_
        ·intro h163
         have k163 := of_decide_eq_true h163; try simp only [A6] at k163
         have hlt : i < ws.length := by omega
         obtain ⟨w, hx⟩ := get_some hlt
         have hwm := G2 hx
         have hwk : w.Key.length ≤ 700 := by (have h9 : w.size ≤ sizeL TWrite.size ws := p7 hwm; have h8 : w.size = w.Key.length + w.Val.length := rfl; omega)
         refine D2 (A3 (E1 (A3 (A2 ?_))))
         refine A1 rfl rfl rfl (K0 rfl F7 H4 (A0 rfl) (A0 rfl) hx (by first | omega | (simp only [A6, A8, B2, B6, A9, szR] at *; omega))) ?_
         refine A1 rfl rfl rfl (L8 rfl (A0 rfl) S5 H4) ?_
         refine G5 rfl rfl rfl rfl Tryz.zeroValue77 rfl ?_
         intro b28
         refine D9 0 rfl rfl rfl (A0 rfl) (A0 rfl) (E9 _) rfl H4 rfl ?_
         refine A4 (A3 (A2 ?_))
         refine A1 rfl rfl rfl (F8 1 rfl (A0 rfl) rfl D8 C5 rfl) ?_
         refine A1 rfl rfl rfl (B4 0 rfl G8 rfl E8 (A0 rfl) rfl) ?_
         refine A1 rfl rfl rfl (B3 0 rfl (A0 rfl) rfl H2 rfl) ?_
         refine A5 rfl rfl rfl rfl rfl ?_
         refine A1 rfl rfl rfl (E5 rfl Tryz.call34 rfl (Aa0 (prepS s rs ws p) w.Key p (by omega) (by omega)) (A7 (A0 rfl) (A7 (A0 rfl) (A7 (A0 rfl) C9)))) ?_
         refine A5 rfl rfl rfl rfl rfl ?_
         refine A1 rfl rfl rfl (F0 rfl (A0 rfl) rfl) ?_
         refine A1 rfl rfl rfl (F0 rfl (A0 rfl) rfl) ?_
         refine B5 rfl rfl rfl rfl rfl ?_
         refine B5 rfl rfl rfl rfl rfl ?_
         refine A4 (A3 (A2 ?_))
         refine A1 rfl rfl rfl (B4 1 rfl C4 rfl O5 (A0 rfl) rfl) ?_
         refine A1 rfl rfl rfl (B3 2 rfl (A0 rfl) rfl Q5 rfl) ?_
         refine A1 rfl rfl rfl (B4 0 rfl G8 rfl E8 (A0 rfl) rfl) ?_
         refine A1 rfl rfl rfl (B3 0 rfl (A0 rfl) rfl H2 rfl) ?_
         refine A5 rfl rfl rfl rfl rfl ?_
         refine A1 rfl rfl rfl (H0 rfl (A0 rfl) C2 (by first | omega | (simp only [A6, A8, B2, B6, A9, szR] at *; omega))) ?_
         refine A1 rfl rfl rfl (E5 rfl Tryz.call41 rfl (Am4 (applyRecR (prepS s rs ws p) ⟨2, 59, p + 3, 0, [], [], true⟩).1.Cells w.Key (p + 3) (by have h9 : (applyRecR (prepS s rs ws p) ⟨2, 59, p + 3, 0, [], [], true⟩).1.size = sizeL TCell.size (applyRecR (prepS s rs ws p) ⟨2, 59, p + 3, 0, [], [], true⟩).1.Cells + sizeL THeld.size (applyRecR (prepS s rs ws p) ⟨2, 59, p + 3, 0, [], [], true⟩).1.Held + (applyRecR (prepS s rs ws p) ⟨2, 59, p + 3, 0, [], [], true⟩).1.Told.length := rfl; omega) (by omega)) (A7 (A0 rfl) (A7 (A0 rfl) (A7 (A0 rfl) C9)))) ?_
         refine A5 rfl rfl rfl rfl rfl ?_
         refine A1 rfl rfl rfl (F0 rfl (A0 rfl) rfl) ?_
         refine A1 rfl rfl rfl (F0 rfl (A0 rfl) rfl) ?_
         refine A1 rfl rfl rfl (F0 rfl (A0 rfl) rfl) ?_
         refine B5 rfl rfl rfl rfl rfl ?_
         refine B5 rfl rfl rfl rfl rfl ?_
         refine B5 rfl rfl rfl rfl rfl ?_
         refine A4 (A3 (A2 ?_))
         refine A5 rfl rfl rfl rfl rfl ?_
         refine A1 rfl rfl rfl (J7 rfl (A0 rfl)) ?_
         refine A5 rfl rfl rfl rfl rfl ?_
         refine B1 rfl rfl (D4 rfl rfl rfl) (fun hc => C6 rfl (A0 rfl)) ?_
         refine B1 rfl rfl (D4 rfl rfl rfl) (fun hc => E5 rfl Tryz.call42 rfl (has_spec _ _) (A7 (B0 rfl hc) (A7 C2 C9))) ?_
         refine B1 rfl rfl (D4 rfl rfl rfl) (fun hc => J7 rfl (B0 rfl hc)) ?_
         refine A1 rfl rfl rfl (P5 rfl (A0 rfl) (G0 rfl)) ?_
         refine A5 rfl rfl rfl rfl rfl ?_
         refine B1 rfl rfl (D4 rfl rfl rfl) (fun hc => C6 rfl (A0 rfl)) ?_
         refine B1 rfl rfl (D4 rfl rfl rfl) (fun hc => C6 rfl (B0 rfl hc)) ?_
         refine B1 rfl rfl (E2 rfl rfl rfl) (fun hc => C6 rfl (A0 rfl)) ?_
         refine B1 rfl rfl (E2 rfl rfl rfl) (fun hc => J7 rfl (B0 rfl hc)) ?_
         refine B1 rfl rfl (E2 rfl rfl rfl) (fun hc => C6 rfl (B0 rfl hc)) ?_
         refine B1 rfl rfl (N1 rfl rfl rfl) (fun hc => C6 rfl (A0 rfl)) ?_
         refine B1 rfl rfl (N1 rfl rfl rfl) (fun hc => B4 2 rfl G8 rfl I8 (A0 rfl) rfl) ?_
         refine B1 rfl rfl (N1 rfl rfl rfl) (fun hc => B3 0 rfl (B0 rfl hc) rfl L2 rfl) ?_
         refine B1 rfl rfl (N1 rfl rfl rfl) (fun hc => AU4 rfl U2 (B0 rfl hc) (B0 rfl hc)) ?_
         refine B1 rfl rfl (E2 rfl rfl rfl) (fun hc => P5 rfl (B0 rfl hc) (P4 rfl hc)) ?_
         refine B1 rfl rfl (E2 rfl rfl rfl) (fun hc => C6 rfl (B0 rfl hc)) ?_
         refine B1 rfl rfl (N1 rfl rfl rfl) (fun hc => C6 rfl (A0 rfl)) ?_
         refine B1 rfl rfl (N1 rfl rfl rfl) (fun hc => B4 1 rfl G8 rfl E8 (A0 rfl) rfl) ?_
         refine B1 rfl rfl (N1 rfl rfl rfl) (fun hc => B3 0 rfl (B0 rfl hc) rfl H2 rfl) ?_
         refine B1 rfl rfl (N1 rfl rfl rfl) (fun hc => AU5 rfl (B0 rfl hc) (B0 rfl hc)) ?_
         refine B1 rfl rfl (E2 rfl rfl rfl) (fun hc => P5 rfl (B0 rfl hc) (P4 rfl hc)) ?_
         refine B1 rfl rfl (D4 rfl rfl rfl) (fun hc => I3 rfl (B0 rfl hc) (P4 rfl hc)) ?_
         refine A1 rfl rfl rfl (P5 rfl (A0 rfl) (G0 rfl)) ?_
         refine A4 ?_
         refine C8 (A0 rfl) ?_ ?_
         ·intro h210
          exfalso; obtain ⟨l, hl1, hl2⟩ := P.blocks w hwm; rw [hl1] at h210; cases hd : (applyRecR (prepS s rs ws p) ⟨2, 59, p + 3, 0, [], [], true⟩).2 with | false => (simp [hd, hl2] at h210) | true => (rw [P.seen hd w hwm] at h210; simp [hl2] at h210)
         ·intro h210
          refine D2 (A2 ?_)
          refine A1 rfl rfl rfl (H0 rfl (A0 rfl) C2 (by first | omega | (simp only [A6, A8, B2, B6, A9, szR] at *; omega))) ?_
          refine A5 rfl rfl rfl rfl rfl ?_
          refine A4 ?_
          refine N0 i (i + 1) ?_ ?_ (Le.trans (J2 [0, 0, 0] rfl) (N4 1 (by rfl) ⟨rfl, rfl, rfl, rfl, rfl, rfl, rfl, rfl, trivial⟩))
          ·exact (by omega)
          ·omega
        ·intro h163
         have k163 := of_decide_eq_false h163; try simp only [A6] at k163
         refine I1 ?_
         refine A3 (A2 ?_)
         refine A5 rfl rfl rfl rfl rfl ?_
         refine I0 [] rfl rfl rfl rfl Tryz.call43 rfl (l4 more hb1) (A7 (A0 rfl) C9) rfl ?_
         intro x214 ok214
         obtain ⟨⟨e, f⟩, hx214⟩ : ∃ z, x214 = z := ⟨_, rfl⟩
         subst hx214
         have hes : e.size ≤ 33045 := ok214
         dsimp only
         refine A5 rfl rfl rfl rfl rfl ?_
         refine A1 rfl rfl rfl (F0 rfl (A0 rfl) rfl) ?_
         refine A1 rfl rfl rfl (F0 rfl (A0 rfl) rfl) ?_
         refine G5 rfl rfl rfl rfl Tryz.zeroValue30 rfl ?_
         intro b34
         refine D9 0 rfl rfl rfl (A0 rfl) (A0 rfl) (E9 _) rfl C5 rfl ?_
         refine B5 rfl rfl rfl rfl rfl ?_
         refine A4 (A3 (A2 ?_))
         refine A1 rfl rfl rfl (F8 0 rfl (A0 rfl) rfl D8 C5 rfl) ?_
         refine A5 rfl rfl rfl rfl rfl ?_
         refine A1 rfl rfl rfl (E5 rfl Tryz.call40 rfl (j0 e f (by omega)) (A7 (A0 rfl) (A7 (A0 rfl) C9))) ?_
         refine A5 rfl rfl rfl rfl rfl ?_
         refine A1 rfl rfl rfl (F0 rfl (A0 rfl) rfl) ?_
         refine A1 rfl rfl rfl (F0 rfl (A0 rfl) rfl) ?_
         refine B5 rfl rfl rfl rfl rfl ?_
         refine B5 rfl rfl rfl rfl rfl ?_
         refine A4 (A3 (A2 ?_))
         refine A1 rfl rfl rfl (F8 0 rfl (A0 rfl) rfl D8 C5 rfl) ?_
         refine A5 rfl rfl rfl rfl rfl ?_
         refine A1 rfl rfl rfl (E5 rfl Tryz.call44 rfl (n6 e f (by omega)) (A7 (A0 rfl) (A7 (A0 rfl) C9))) ?_
         refine A5 rfl rfl rfl rfl rfl ?_
         refine A1 rfl rfl rfl (F0 rfl (A0 rfl) rfl) ?_
         refine A1 rfl rfl rfl (F0 rfl (A0 rfl) rfl) ?_
         refine B5 rfl rfl rfl rfl rfl ?_
         refine B5 rfl rfl rfl rfl rfl ?_
         refine A4 (A3 (A2 ?_))
         refine A5 rfl rfl rfl rfl rfl ?_
         refine A5 rfl rfl rfl rfl rfl ?_
         refine A1 rfl rfl rfl (AU4 rfl U2 (A0 rfl) (A0 rfl)) ?_
         refine A5 rfl rfl rfl rfl rfl ?_
         refine B1 rfl rfl (B9 rfl rfl rfl) (fun hc => C6 rfl (A0 rfl)) ?_
         refine B1 rfl rfl (B9 rfl rfl rfl) (fun hc => C6 rfl (A0 rfl)) ?_
         refine B1 rfl rfl (B9 rfl rfl rfl) (fun hc => M0 rfl (B0 rfl hc) (B0 rfl hc)) ?_
         refine A1 rfl rfl rfl (I3 rfl (A0 rfl) (G0 rfl)) ?_
         refine B5 rfl rfl rfl rfl rfl ?_
         refine A4 ?_
         refine C7 ?_
         exact I2 rfl (C3 rfl (by first | rfl | exact congrArg AV.bool (by simp)))
      ·intro h110
       refine D2 (A3 (A2 ?_))
       refine A5 rfl rfl rfl rfl rfl ?_
       refine I0 [] rfl rfl rfl rfl Tryz.call43 rfl (l4 more hb1) (A7 (A0 rfl) C9) rfl ?_
       intro x214 ok214
       obtain ⟨⟨e, f⟩, hx214⟩ : ∃ z, x214 = z := ⟨_, rfl⟩
       subst hx214
       have hes : e.size ≤ 33045 := ok214
       dsimp only
       refine A5 rfl rfl rfl rfl rfl ?_
       refine A1 rfl rfl rfl (F0 rfl (A0 rfl) rfl) ?_
       refine A1 rfl rfl rfl (F0 rfl (A0 rfl) rfl) ?_
       refine G5 rfl rfl rfl rfl Tryz.zeroValue30 rfl ?_
       intro b34
       refine D9 0 rfl rfl rfl (A0 rfl) (A0 rfl) (E9 _) rfl C5 rfl ?_
       refine B5 rfl rfl rfl rfl rfl ?_
       refine A4 (A3 (A2 ?_))
       refine A1 rfl rfl rfl (F8 0 rfl (A0 rfl) rfl D8 C5 rfl) ?_
       refine A5 rfl rfl rfl rfl rfl ?_
       refine A1 rfl rfl rfl (E5 rfl Tryz.call40 rfl (j0 e f (by omega)) (A7 (A0 rfl) (A7 (A0 rfl) C9))) ?_
       refine A5 rfl rfl rfl rfl rfl ?_
       refine A1 rfl rfl rfl (F0 rfl (A0 rfl) rfl) ?_
       refine A1 rfl rfl rfl (F0 rfl (A0 rfl) rfl) ?_
       refine B5 rfl rfl rfl rfl rfl ?_
       refine B5 rfl rfl rfl rfl rfl ?_
       refine A4 (A3 (A2 ?_))
       refine A1 rfl rfl rfl (F8 0 rfl (A0 rfl) rfl D8 C5 rfl) ?_
       refine A5 rfl rfl rfl rfl rfl ?_
       refine A1 rfl rfl rfl (E5 rfl Tryz.call44 rfl (n6 e f (by omega)) (A7 (A0 rfl) (A7 (A0 rfl) C9))) ?_
       refine A5 rfl rfl rfl rfl rfl ?_
       refine A1 rfl rfl rfl (F0 rfl (A0 rfl) rfl) ?_
       refine A1 rfl rfl rfl (F0 rfl (A0 rfl) rfl) ?_
       refine B5 rfl rfl rfl rfl rfl ?_
       refine B5 rfl rfl rfl rfl rfl ?_
       refine A4 (A3 (A2 ?_))
       refine A5 rfl rfl rfl rfl rfl ?_
       refine A5 rfl rfl rfl rfl rfl ?_
       refine A1 rfl rfl rfl (AU4 rfl U2 (A0 rfl) (A0 rfl)) ?_
       refine A5 rfl rfl rfl rfl rfl ?_
       refine B1 rfl rfl (B9 rfl rfl rfl) (fun hc => C6 rfl (A0 rfl)) ?_
       refine B1 rfl rfl (B9 rfl rfl rfl) (fun hc => C6 rfl (A0 rfl)) ?_
       refine B1 rfl rfl (B9 rfl rfl rfl) (fun hc => M0 rfl (B0 rfl hc) (B0 rfl hc)) ?_
       refine A1 rfl rfl rfl (I3 rfl (A0 rfl) (G0 rfl)) ?_
       refine B5 rfl rfl rfl rfl rfl ?_
       refine A4 ?_
       refine C7 ?_
       exact I2 rfl (C3 rfl (by first | rfl | exact congrArg AV.bool (by simp)))
   ·intro h74
    refine D2 (A3 (A2 ?_))
    refine A5 rfl rfl rfl rfl rfl ?_
    refine I0 [] rfl rfl rfl rfl Tryz.call43 rfl (l4 more hb1) (A7 (A0 rfl) C9) rfl ?_
    intro x214 ok214
    obtain ⟨⟨e, f⟩, hx214⟩ : ∃ z, x214 = z := ⟨_, rfl⟩
    subst hx214
    have hes : e.size ≤ 33045 := ok214
    dsimp only
    refine A5 rfl rfl rfl rfl rfl ?_
    refine A1 rfl rfl rfl (F0 rfl (A0 rfl) rfl) ?_
    refine A1 rfl rfl rfl (F0 rfl (A0 rfl) rfl) ?_
    refine G5 rfl rfl rfl rfl Tryz.zeroValue30 rfl ?_
    intro b34
    refine D9 0 rfl rfl rfl (A0 rfl) (A0 rfl) (E9 _) rfl C5 rfl ?_
    refine B5 rfl rfl rfl rfl rfl ?_
    refine A4 (A3 (A2 ?_))
    refine A1 rfl rfl rfl (F8 0 rfl (A0 rfl) rfl D8 C5 rfl) ?_
    refine A5 rfl rfl rfl rfl rfl ?_
    refine A1 rfl rfl rfl (E5 rfl Tryz.call40 rfl (j0 e f (by omega)) (A7 (A0 rfl) (A7 (A0 rfl) C9))) ?_
    refine A5 rfl rfl rfl rfl rfl ?_
    refine A1 rfl rfl rfl (F0 rfl (A0 rfl) rfl) ?_
    refine A1 rfl rfl rfl (F0 rfl (A0 rfl) rfl) ?_
    refine B5 rfl rfl rfl rfl rfl ?_
    refine B5 rfl rfl rfl rfl rfl ?_
    refine A4 (A3 (A2 ?_))
    refine A1 rfl rfl rfl (F8 0 rfl (A0 rfl) rfl D8 C5 rfl) ?_
    refine A5 rfl rfl rfl rfl rfl ?_
    refine A1 rfl rfl rfl (E5 rfl Tryz.call44 rfl (n6 e f (by omega)) (A7 (A0 rfl) (A7 (A0 rfl) C9))) ?_
    refine A5 rfl rfl rfl rfl rfl ?_
    refine A1 rfl rfl rfl (F0 rfl (A0 rfl) rfl) ?_
    refine A1 rfl rfl rfl (F0 rfl (A0 rfl) rfl) ?_
    refine B5 rfl rfl rfl rfl rfl ?_
    refine B5 rfl rfl rfl rfl rfl ?_
    refine A4 (A3 (A2 ?_))
    refine A5 rfl rfl rfl rfl rfl ?_
    refine A5 rfl rfl rfl rfl rfl ?_
    refine A1 rfl rfl rfl (AU4 rfl U2 (A0 rfl) (A0 rfl)) ?_
    refine A5 rfl rfl rfl rfl rfl ?_
    refine B1 rfl rfl (B9 rfl rfl rfl) (fun hc => C6 rfl (A0 rfl)) ?_
    refine B1 rfl rfl (B9 rfl rfl rfl) (fun hc => C6 rfl (A0 rfl)) ?_
    refine B1 rfl rfl (B9 rfl rfl rfl) (fun hc => M0 rfl (B0 rfl hc) (B0 rfl hc)) ?_
    refine A1 rfl rfl rfl (I3 rfl (A0 rfl) (G0 rfl)) ?_
    refine B5 rfl rfl rfl rfl rfl ?_
    refine A4 ?_
    refine C7 ?_
    exact I2 rfl (C3 rfl (by first | rfl | exact congrArg AV.bool (by simp)))
end
theorem AR7 : Opens Tryz.prog 22 (List Int) (fun l => [bytesI l]) (fun l => ∀ x ∈ l, (Lit.int .u8 x).wf = true) := Ap1 (sz := 1) S6 (by kernel_rfl) (Ay1 Tryz.underlying5) (fun _ => rfl)
set_option maxRecDepth 100000 in
theorem fnPrepared_lifted (os : Os) (started : os.Started) (H : Type) (enc : TypeId × Value → H) :
    ReturnsInHanded {} Tryz.checked os 5 .any (Rows.fnPreparedSpec.pre6 enc Tryz.prog Tryz.f5 Rows.fnPreparedRow.domain false) (Rows.fnPreparedSpec.post enc Tryz.prog Tryz.f5 false true false false) := by
  refine returnsInHanded_of_change (C := Tryz.checked) (by kernel_rfl) started (by kernel_rfl) Tryz.func5
    (ChangeSpec.witness6 (enc := enc) (C := Tryz.checked) false ⟨#[], #[.slice none 0 0, .slice none 0 0], []⟩ 8 (by kernel_rfl) (by kernel_rfl) (by kernel_rfl) (by kernel_rfl)) ?_
  intro W base args ds gs before hval0 hW hcnd _
  have hval : ∀ (j : Nat) t v, Tryz.f5.params[j]? = some t → args[j]? = some v → Value.okWide Tryz.prog W .any base t v := hval0
  have hW2 := hW
  obtain ⟨p, q, hA0, hV, rfl, hfz, hnd⟩ := hW
  have hA : DataW.TrodAll enc Tryz.prog W 0 (fun _ => true) true Tryz.f5.params.toList args.toList ds p := hA0
  rw [Tryz.params5] at hA hval
  obtain ⟨v0, vs0, d0, ds0, p0, q0, hargs, rfl, rfl, h0, r0⟩ := trodAll_cons hA
  obtain ⟨v1, vs1, d1, ds1, p1, q1, rfl, rfl, rfl, h1, r1⟩ := trodAll_cons r0
  obtain ⟨rfl, rfl, rfl⟩ := trodAll_nil r1
  obtain rfl : args = #[v0, v1] := by cases args; simp_all
  obtain ⟨rfl, rfl⟩ := trodVars_none hV
  have lt0 : ∀ x ∈ p0, x.block < W.heap.size := by obtain ⟨m, hm⟩ := h0; exact DataW.trod_lt m _ _ _ hm
  obtain ⟨a0, w0, g0⟩ := Ar5 (AR7) (by obtain ⟨y1, y2, y3, rfl⟩ := okWide_slice S6 (hval 0 22 v0 rfl rfl); rfl) h0
  have lt1 : ∀ x ∈ p1, x.block < W.heap.size := by obtain ⟨m, hm⟩ := h1; exact DataW.trod_lt m _ _ _ hm
  obtain ⟨a1, w1, g1⟩ := Ar5 (AR7) (by obtain ⟨y1, y2, y3, rfl⟩ := okWide_slice S6 (hval 1 22 v1 rfl rfl); rfl) h1
  have hcall := Ay2 (AX6 a0 w0 a1 w1) (DenV.cons g0 (DenV.cons g1 (DenV.nil _)))
  clear hA0 hval0
  refine Calls.mono hcall fun e W2 ⟨he, bel⟩ => ?_
  subst he
  exact ⟨_, rfl, _, _, _, [], _, [], hW2, trodAll_mk1 (shut_bool U2 _), (trodAll_cons_mk (Below.trod (by kernel_rfl : laidOutB Tryz.prog = true) (by kernel_rfl) (of_decide_eq_true (by kernel_rfl)) h0 bel lt0) (trodAll_cons_mk (Below.trod (by kernel_rfl : laidOutB Tryz.prog = true) (by kernel_rfl) (of_decide_eq_true (by kernel_rfl)) h1 bel lt1) trodAll_mk0)), rfl, bel.frame _, fun h => by cases h⟩
theorem Aa3 {a b : Bool} (h : a = true) (k : b = true) : (a && b) = true := by rw [h, k]; rfl
set_option maxRecDepth 100000 in
theorem AT9 : joinedFacts Tryz.pinned.checked.prog 5 Tryz.f5 Rows.fnPreparedSpec Rows.fnPreparedRow = true := by
  unfold joinedFacts
  iterate 18 (rw [Bool.and_assoc])
  refine Aa3 ?_ ?_
  · as_aux_lemma => kernel_rfl
  · as_aux_lemma => kernel_rfl
theorem fnPrepared_proved : Rows.FnPreparedSaid :=
  OpenClaim.holds_of_wide 5 Tryz.f5 rfl rfl rfl rfl rfl rfl rfl ⟨rfl, rfl, rfl, rfl, rfl⟩ rfl rfl rfl rfl rfl (by kernel_rfl) Tryz.func5 AT9
    (of_decide_eq_true (by kernel_rfl)) (by unfold Func.isWrapper; first | (rw [if_pos (by decide +kernel)]; kernel_rfl) | (rw [if_neg (by decide +kernel)]; exact ⟨rfl, rfl⟩))
    (fun os started H enc _ => fnPrepared_lifted os started H enc)
end Go.Proofs.YtnlhbdkcgaeimaaGreat
