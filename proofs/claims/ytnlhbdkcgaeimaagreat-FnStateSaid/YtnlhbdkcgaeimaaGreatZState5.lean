/- Texts of the claim, part 5. -/
import Derived.Test.YtnlhbdkcgaeimaaGreatZState4

set_option linter.unusedVariables false
set_option linter.unusedSimpArgs false
set_option maxRecDepth 100000
namespace Go.AV
section
variable {T X : Type} {cs : T → List AV} {ocs : T → X → List AV} {ow : T → X → List Own}
theorem BA6 {l : List T} {xs : List X} {i : Nat} {p : T} {x : X} (hi : i ≤ l.length) (h : xs.length = l.length) : (nrows ocs l xs).take i ++ ocs p x :: (nrows ocs l xs).drop i = nrows ocs (l.take i ++ p :: l.drop i) (xs.take i ++ x :: xs.drop i) := by
  unfold nrows
  rw [List.zipWith_append (by rw [B1, B1]; omega), List.zipWith_cons_cons, List.take_zipWith, List.drop_zipWith]
theorem nin_ins {l : List T} {xs : List X} {i : Nat} {p : T} {x : X} (hi : i ≤ l.length) (h : xs.length = l.length) : (ow p x ++ nin ow l xs).Perm (nin ow (l.take i ++ p :: l.drop i) (xs.take i ++ x :: xs.drop i)) := by
  have e : nin ow l xs = nin ow (l.take i) (xs.take i) ++ nin ow (l.drop i) (xs.drop i) := by
    unfold nin
    rw [← List.flatten_append, ← List.zipWith_append (by rw [B1, B1]; omega), List.take_append_drop, List.take_append_drop]
  have e2 : nin ow (l.take i ++ p :: l.drop i) (xs.take i ++ x :: xs.drop i) = nin ow (l.take i) (xs.take i) ++ (ow p x ++ nin ow (l.drop i) (xs.drop i)) := by
    unfold nin
    rw [List.zipWith_append (by rw [B1, B1]; omega), List.zipWith_cons_cons, List.flatten_append, List.flatten_cons]
  rw [e, e2, ← List.append_assoc, ← List.append_assoc]
  exact List.Perm.append_right _ List.perm_append_comm
theorem Ao1 {X : Type} {xs : List X} {i : Nat} {x : X} (hi : i ≤ xs.length) : (xs.take i ++ x :: xs.drop i).length = xs.length + 1 := by
  rw [K4, B5, B1, List.length_drop]; omega
end
end Go.AV
namespace Go.Proofs.YtnlhbdkcgaeimaaGreat
open Go Go.AV Go.M
attribute [local irreducible] OpW OpA OpS AWP FSpec ESpec GSpec OpE RetOk RetOkG RvDen Le Ev GuardIs SrcIs
def TCell.ow (c : TCell) (x : Value) : List Own := [.arr x 197 3 (c.Vers.map TVer.cs)]
theorem TCell.lcM {own : List Own} (c : TCell) (x : Value) (h : ∀ o ∈ TCell.ow c x, o ∈ own) : LendC own (TCell.ocs c x) c.cs := H6 N0 (H6 (P0 (h _ (H2 (i := 0) rfl)) K5) U4)
theorem Aw9 {l : List TCell} {xs : List Value} {p : TCell} {x : Value} {i : Nat} (hp : l[i]? = some p) (h : xs.length = i) : nrows TCell.ocs (l.take i) xs ++ TCell.ocs p x :: (l.drop (i + 1)).map TCell.cs = nrows TCell.ocs (l.take (i + 1)) (xs ++ [x]) ++ (l.drop (i + 1)).map TCell.cs := by
  rw [← AY4 hp h, List.append_assoc]; rfl
theorem Ad0 (v vv : Value) (l : List (List AV)) (x : List AV) (hx2 : x.length = 2) (hl2 : ∀ r ∈ l, r.length = 2) (i : Nat) (hi : i ≤ l.length) (hl : l.length ≤ 4194304) : GSpec Tryz.prog 285 [AV.is v, AV.int i, AV.is vv] [.arr v 142 2 (l.map id), .arr vv 142 2 [id x]] (fun _ : Value => True) (fun v => [.arr v 142 2 ((l.take i ++ x :: l.drop i).map id)]) (fun v => AV.is v) := by
 have hn : (l.map id).length = l.length := A5 _
 have h1 : ([id x] : List (List AV)).length = 1 := rfl
 have e28 : ((l.map id).length : Int) + (([id x] : List (List AV)).length : Int) = ((l.length + 1 : Nat) : Int) := by rw [hn, h1]; rfl
 have e49 : (i : Int) + (([id x] : List (List AV)).length : Int) = ((i + 1 : Nat) : Int) := by rw [h1]; rfl
 have e39 : ((l.length + 1 : Nat) : Int) - (i : Int) = ((l.length + 1 - i : Nat) : Int) := by omega
 refine J3 Tryz.func285 rfl Tryz.ntmps285 rfl ?_
 refine i7 0 rfl ?_ ?_
 ·intro hv hes; subst hv
  have hl0 : l = [] := by cases l with | nil => rfl | cons y l => (simp at hes)
  subst hl0
  have hi0 : i = 0 := by simpa using hi
  subst hi0
  refine i7 1 rfl (fun _ h => by cases h) ?_
  intro gv cv hvv _ _
  subst hvv
  refine A3 (A2 ?_)
  refine A1 rfl rfl rfl (C3 rfl M6) ?_
  refine A4 (A3 (A2 ?_))
  refine A6 rfl rfl rfl rfl rfl ?_
  refine A6 rfl rfl rfl rfl rfl ?_
  refine A1 rfl rfl rfl (AR8 0 rfl E2 F7 (A0 rfl) rfl (A0 rfl) (by first | omega | (simp only [A5, B1, B5, C1, B0, szR] at *; omega)) (by first | omega | (simp only [A5, B1, B5, C1, B0, szR] at *; omega))) ?_
  refine A4 (A3 (A2 ?_))
  refine A6 rfl rfl rfl rfl rfl ?_
  refine A1 rfl rfl rfl (m4 rfl E2 (A0 rfl)) ?_
  refine C2 rfl rfl rfl rfl rfl ?_
  refine A4 (A3 (A3 (A2 ?_)))
  refine A6 rfl rfl rfl rfl rfl ?_
  refine A1 rfl rfl rfl (N3 rfl (A0 rfl) C6) ?_
  refine A4 ?_
  refine D0 (A0 rfl) ?_ ?_
  ·intro h16
   have k16 := M1 h16; try simp only [A5] at k16
   rw [h1] at k16; omega
  ·intro h16
   have k16 := M0 h16; try simp only [A5] at k16
   refine D5 (A3 (A2 ?_))
   refine A6 rfl rfl rfl rfl rfl ?_
   refine A1 rfl rfl rfl (V4 0 rfl E2 (A0 rfl) rfl) ?_
   refine C2 rfl rfl rfl rfl rfl ?_
   refine A4 (A3 (A3 (A2 ?_)))
   refine A6 rfl rfl rfl rfl rfl ?_
   refine A6 rfl rfl rfl rfl rfl ?_
   refine A1 rfl rfl rfl (N3 rfl (A0 rfl) (A0 rfl)) ?_
   refine A4 ?_
   refine D0 (A0 rfl) ?_ ?_
   ·intro h22
    have k22 := M1 h22; try simp only [A5] at k22
    refine A3 (A2 ?_)
    refine A6 rfl rfl rfl rfl rfl ?_
    refine A6 rfl rfl rfl rfl rfl ?_
    refine o6 (by' := 40) 0 rfl rfl rfl rfl E2 Tryz.type142 rfl rfl rfl rfl rfl rfl (A0 rfl) (a8 1 rfl (A0 rfl)) (by simp) rfl (by simp only [A5, B5, C1]; omega) ?_
    intro v25
    refine C2 rfl rfl rfl rfl rfl ?_
    refine A4 ?_
    refine C8 ?_
    exact K0 [0] v25 (trivial) rfl (by exact congrArg (fun z => [Own.arr _ 142 2 z]) (by first | exact d6 hi (by simp) | exact Z6 (by omega) | (have hil : i = l.length := (by omega); subst hil; simp; done) | (simp; done))) (P3 rfl (D1 rfl (by first | rfl | (rw [hn]))))
   ·intro h22
    have k22 := M0 h22; try simp only [A5] at k22
    exact absurd rfl k22
 ·intro g cap hv hlc hcm; subst hv
  refine i7 1 rfl (fun _ h => by cases h) ?_
  intro gv cv hvv _ _
  subst hvv
  refine A3 (A2 ?_)
  refine A1 rfl rfl rfl (C3 rfl M6) ?_
  refine A4 (A3 (A2 ?_))
  refine A6 rfl rfl rfl rfl rfl ?_
  refine A6 rfl rfl rfl rfl rfl ?_
  refine A1 rfl rfl rfl (X4 rfl E2 F7 (A0 rfl) (A0 rfl) (by first | omega | (simp only [A5, B1, B5, C1, B0, szR] at *; omega)) (by first | omega | (simp only [A5, B1, B5, C1, B0, szR] at *; omega))) ?_
  refine A4 (A3 (A2 ?_))
  refine A6 rfl rfl rfl rfl rfl ?_
  refine A1 rfl rfl rfl (m4 rfl E2 (A0 rfl)) ?_
  refine C2 rfl rfl rfl rfl rfl ?_
  refine A4 (A3 (A3 (A2 ?_)))
  refine A6 rfl rfl rfl rfl rfl ?_
  refine A1 rfl rfl rfl (N3 rfl (A0 rfl) C6) ?_
  refine A4 ?_
  refine D0 (A0 rfl) ?_ ?_
  ·intro h16
   have k16 := M1 h16; try simp only [A5] at k16
   rw [h1] at k16; omega
  ·intro h16
   have k16 := M0 h16; try simp only [A5] at k16
   refine D5 (A3 (A2 ?_))
   refine A6 rfl rfl rfl rfl rfl ?_
   refine A1 rfl rfl rfl (m4 rfl E2 (A0 rfl)) ?_
   refine C2 rfl rfl rfl rfl rfl ?_
   refine A4 (A3 (A3 (A2 ?_)))
   refine A6 rfl rfl rfl rfl rfl ?_
   refine A6 rfl rfl rfl rfl rfl ?_
   refine A1 rfl rfl rfl (N3 rfl (A0 rfl) (A0 rfl)) ?_
   refine A4 ?_
   refine D0 (A0 rfl) ?_ ?_
   ·intro h22
    have k22 := M1 h22; try simp only [A5] at k22
    refine A3 (A2 ?_)
    refine A6 rfl rfl rfl rfl rfl ?_
    refine A6 rfl rfl rfl rfl rfl ?_
    refine o6 (by' := 40) 0 rfl rfl rfl rfl E2 Tryz.type142 rfl rfl rfl rfl rfl rfl (A0 rfl) (a8 1 rfl (A0 rfl)) (by simp) rfl (by simp only [A5, B5, C1]; omega) ?_
    intro v25
    refine C2 rfl rfl rfl rfl rfl ?_
    refine A4 ?_
    refine C8 ?_
    exact K0 [0] v25 (trivial) rfl (by exact congrArg (fun z => [Own.arr _ 142 2 z]) (by first | exact d6 hi (by simp) | exact Z6 (by omega) | (have hil : i = l.length := (by omega); subst hil; simp; done) | (simp; done))) (P3 rfl (D1 rfl (by first | rfl | (rw [hn]))))
   ·intro h22
    have k22 := M0 h22; try simp only [A5] at k22
    refine D5 (A3 (A3 (A2 ?_)))
    refine A6 rfl rfl rfl rfl rfl ?_
    refine A6 rfl rfl rfl rfl rfl ?_
    refine A1 rfl rfl rfl (H4 rfl (A0 rfl) (A0 rfl) (by first | omega | (simp only [A5, B1, B5, C1, B0, szR] at *; omega))) ?_
    rw [e28]
    refine A6 rfl rfl rfl rfl rfl ?_
    refine A1 rfl rfl rfl (Al1 rfl E2 (A0 rfl)) ?_
    refine A1 rfl rfl rfl (P4 rfl (A0 rfl) (A0 rfl)) ?_
    refine A4 ?_
    refine D0 (A0 rfl) ?_ ?_
    ·intro h31
     have k31 := of_decide_eq_true h31; try simp only [A5] at k31
     refine A3 (A2 ?_)
     refine A6 rfl rfl rfl rfl rfl ?_
     refine A6 rfl rfl rfl rfl rfl ?_
     refine A1 rfl rfl rfl (AK7 rfl E2 F7 (A0 rfl) (A0 rfl) (by omega) (by rw [hn] at hlc; omega)) ?_
     refine A6 rfl rfl rfl rfl rfl ?_
     refine A6 rfl rfl rfl rfl rfl ?_
     refine A1 rfl rfl rfl (H4 rfl (A0 rfl) (A0 rfl) (by first | omega | (simp only [A5, B1, B5, C1, B0, szR] at *; omega))) ?_
     rw [e28]
     refine A6 rfl rfl rfl rfl rfl ?_
     refine A1 rfl rfl rfl (S5 rfl (A0 rfl) (A0 rfl) (by first | omega | (simp only [A5, B1, B5, C1, B0, szR] at *; omega))) ?_
     rw [e39, Int.toNat_natCast]
     refine AK8 (by' := 40) (j := i) (m := l.length + 1 - i) 0 rfl rfl rfl rfl E2 O3 Tryz.type142 rfl rfl rfl rfl rfl rfl (A0 rfl) (A0 rfl) rfl (by rw [hn]; exact hi) (by omega) (by omega) (by omega) (by omega) ?_
     intro g2 cap2 hcap2
     refine C2 rfl rfl rfl rfl rfl ?_
     refine A4 (A3 (A2 ?_))
     refine A6 rfl rfl rfl rfl rfl ?_
     refine A6 rfl rfl rfl rfl rfl ?_
     refine A1 rfl rfl rfl (X4 rfl E2 F7 (A0 rfl) (A0 rfl) (by first | omega | (simp only [A5, B1, B5, C1, B0, szR] at *; omega)) (by first | omega | (simp only [A5, B1, B5, C1, B0, szR] at *; omega))) ?_
     refine A6 rfl rfl rfl rfl rfl ?_
     rw [Int.toNat_natCast]
     refine o5 (k := i) 0 rfl rfl rfl rfl E2 Tryz.type142 rfl (A0 rfl) (a8 2 rfl (A0 rfl)) rfl (by rw [h1]; omega) (by rw [h1]; omega) hcap2 (by simp) ?_
     refine A4 (A3 ?_)
     refine Q6 8 (by kernel_rfl) (by kernel_rfl) rfl ?_
     refine B4 rfl rfl (C7 rfl (A0 rfl)) ?_
     refine B4 rfl rfl (C7 rfl (A0 rfl)) ?_
     refine B4 rfl rfl (C7 rfl (A0 rfl)) ?_
     refine B4 rfl rfl (H4 rfl (A0 rfl) (A0 rfl) (by first | omega | (simp only [A5, B1, B5, C1, B0, szR] at *; omega))) ?_
     rw [e49]
     refine B4 rfl rfl (X4 rfl E2 F7 (A0 rfl) (A0 rfl) (by first | omega | (simp only [A5, B1, B5, C1, B0, szR] at *; omega)) (by first | omega | (simp only [A5, B1, B5, C1, B0, szR] at *; omega))) ?_
     refine B4 rfl rfl (C7 rfl (A0 rfl)) ?_
     refine B4 rfl rfl (C7 rfl (A0 rfl)) ?_
     refine B4 rfl rfl (X4 rfl E2 F7 (A0 rfl) (A0 rfl) (by first | omega | (simp only [A5, B1, B5, C1, B0, szR] at *; omega)) (by first | omega | (simp only [A5, B1, B5, C1, B0, szR] at *; omega))) ?_
     refine O5 ?_
     simp only [Int.toNat_natCast]
     refine o5 (k := i + 1) 0 rfl rfl rfl rfl E2 Tryz.type142 rfl (A0 rfl) (AR9 1 rfl (A0 rfl)) rfl (by rw [List.length_drop, hn]; omega) (by rw [List.length_drop, hn]; omega) hcap2 (by intro h; have := congrArg List.length h; rw [List.length_drop, hn] at this; simp at this; omega) ?_
     refine A4 (A3 (A2 ?_))
     refine A6 rfl rfl rfl rfl rfl ?_
     refine C2 rfl rfl rfl rfl rfl ?_
     refine A4 ?_
     refine C8 ?_
     exact K0 [0] (slv g2 (i + (l.length + 1 - i)) cap2) (trivial) rfl (by exact congrArg (fun z => [Own.arr _ 142 2 z]) (by first | exact d6 hi (by simp) | exact Z6 (by omega) | (have hil : i = l.length := (by omega); subst hil; simp; done) | (simp; done))) (P3 rfl (D1 rfl (by first | rfl | (rw [hn]))))
    ·intro h31
     have k31 := of_decide_eq_false h31; try simp only [A5] at k31
     refine D5 (A3 (A2 ?_))
     refine A6 rfl rfl rfl rfl rfl ?_
     refine A6 rfl rfl rfl rfl rfl ?_
     refine A6 rfl rfl rfl rfl rfl ?_
     refine A1 rfl rfl rfl (H4 rfl (A0 rfl) (A0 rfl) (by first | omega | (simp only [A5, B1, B5, C1, B0, szR] at *; omega))) ?_
     rw [e28]
     refine A1 rfl rfl rfl (AK7 rfl E2 F7 (A0 rfl) (A0 rfl) (by first | omega | (simp only [A5, B1, B5, C1, B0, szR] at *; omega)) (by first | omega | (simp only [A5, B1, B5, C1, B0, szR] at *; omega))) ?_
     rw [Int.toNat_natCast]
     refine C2 rfl rfl rfl rfl rfl ?_
     refine A4 (A3 (A3 (A2 ?_)))
     refine A6 rfl rfl rfl rfl rfl ?_
     refine A6 rfl rfl rfl rfl rfl ?_
     refine A6 rfl rfl rfl rfl rfl ?_
     refine A6 rfl rfl rfl rfl rfl ?_
     refine A1 rfl rfl rfl (H4 rfl (A0 rfl) (A0 rfl) (by first | omega | (simp only [A5, B1, B5, C1, B0, szR] at *; omega))) ?_
     rw [e49]
     refine A1 rfl rfl rfl (X4 rfl E2 F7 (A0 rfl) (A0 rfl) (by first | omega | (simp only [A5, B1, B5, C1, B0, szR] at *; omega)) (by first | omega | (simp only [A5, B1, B5, C1, B0, szR] at *; omega))) ?_
     rw [Int.toNat_natCast]
     refine A1 rfl rfl rfl (AH0 (tb := 4) 1 0 rfl Tryz.func308 (by kernel_rfl) (by kernel_rfl) (by kernel_rfl) (by kernel_rfl) E2 F7 (A0 rfl) (A0 rfl) rfl rfl rfl (by omega) rfl) ?_
     refine A1 rfl rfl rfl (N1 rfl (A0 rfl)) ?_
     refine A4 ?_
     refine D0 (A0 rfl) ?_ ?_
     ·intro h68
      refine A3 ?_
      refine Q6 8 (by kernel_rfl) (by kernel_rfl) rfl ?_
      refine B4 rfl rfl (C7 rfl (A0 rfl)) ?_
      refine B4 rfl rfl (C7 rfl (A0 rfl)) ?_
      refine B4 rfl rfl (C7 rfl (A0 rfl)) ?_
      refine B4 rfl rfl (H4 rfl (A0 rfl) (A0 rfl) (by first | omega | (simp only [A5, B1, B5, C1, B0, szR] at *; omega))) ?_
      rw [e49]
      refine B4 rfl rfl (X4 rfl E2 F7 (A0 rfl) (A0 rfl) (by first | omega | (simp only [A5, B1, B5, C1, B0, szR] at *; omega)) (by first | omega | (simp only [A5, B1, B5, C1, B0, szR] at *; omega))) ?_
      refine B4 rfl rfl (C7 rfl (A0 rfl)) ?_
      refine B4 rfl rfl (C7 rfl (A0 rfl)) ?_
      refine B4 rfl rfl (X4 rfl E2 F7 (A0 rfl) (A0 rfl) (by first | omega | (simp only [A5, B1, B5, C1, B0, szR] at *; omega)) (by first | omega | (simp only [A5, B1, B5, C1, B0, szR] at *; omega))) ?_
      refine O5 ?_
      simp only [Int.toNat_natCast]
      refine AV7 (k := i) (len := (l.map id).length) 0 rfl rfl rfl rfl E2 Tryz.type142 rfl (by rw [hn]; exact A0 rfl) (by rw [hn]; exact A0 rfl) rfl (by omega) (by omega) ?_
      intro j77
      refine A4 (A3 (A2 ?_))
      refine A6 rfl rfl rfl rfl rfl ?_
      refine A6 rfl rfl rfl rfl rfl ?_
      refine A1 rfl rfl rfl (X4 rfl E2 F7 (A0 rfl) (A0 rfl) (by first | omega | (simp only [A5, B1, B5, C1, B0, szR] at *; omega)) (by first | omega | (simp only [A5, B1, B5, C1, B0, szR] at *; omega))) ?_
      refine A6 rfl rfl rfl rfl rfl ?_
      rw [Int.toNat_natCast]
      refine o5 (k := i) 0 rfl rfl rfl rfl E2 Tryz.type142 rfl (A0 rfl) (a8 1 rfl (A0 rfl)) rfl (by rw [h1, hn]; omega) (by rw [h1]; omega) (by omega) (by simp) ?_
      refine A4 (A3 (A2 ?_))
      refine A6 rfl rfl rfl rfl rfl ?_
      refine C2 rfl rfl rfl rfl rfl ?_
      refine A4 ?_
      refine C8 ?_
      exact K0 [0] (slv g ((l.map id).length + 1) cap) (trivial) rfl (by exact congrArg (fun z => [Own.arr _ 142 2 z]) (by first | exact d6 hi (by simp) | exact Z6 (by omega) | (have hil : i = l.length := (by omega); subst hil; simp; done) | (simp; done))) (P3 rfl (D1 rfl (by first | rfl | (rw [hn]))))
     ·intro h68
      cases h68

theorem AN0 (l : List TCell) (hs : sizeL TCell.size l ≤ 4194304) : GSpec Tryz.prog 253 [AV.list 2 (l.map TCell.cs)] [] (fun x : Value × List Value => x.2.length = l.length) (fun x => .arr x.1 142 2 (nrows TCell.ocs l x.2) :: nin TCell.ow l x.2) (fun x => AV.is x.1) := by
 have hl : l.length ≤ 4194304 := Nat.le_trans O8 hs
 refine J3 Tryz.func253 rfl Tryz.ntmps253 rfl ?_
 refine A3 (A2 ?_)
 refine A1 rfl rfl rfl (C3 rfl M6) ?_
 refine A4 (A3 (A2 ?_))
 refine A6 rfl rfl rfl rfl rfl ?_
 refine I8 [] rfl rfl rfl rfl Tryz.call283 rfl (Ac0 _ (by first | assumption | omega)) (A7 (A0 rfl) D2) rfl ?_
 intro x6 ok6
 refine C2 rfl rfl rfl rfl rfl ?_
 refine A4 (A3 (A3 (A2 ?_)))
 refine A6 rfl rfl rfl rfl rfl ?_
 refine A1 rfl rfl rfl (V4 0 rfl E2 (A0 rfl) rfl) ?_
 refine A1 rfl rfl rfl (C7 rfl C6) ?_
 refine A4 (E1 ?_)
 refine T8 [(2, _), (3, _), (8, _)] [] (fun (i : Nat) (xs : List Value) => i ≤ l.length ∧ xs.length = i) (fun (i : Nat) (xs : List Value) => [.arr x6 142 2 (nrows TCell.ocs (l.take i) xs ++ (l.drop i).map TCell.cs)] ++ (nin TCell.ow (l.take i) xs)) (fun (i : Nat) (xs : List Value) => [(9, AV.int i)]) (fun (i : Nat) (xs : List Value) => l.length - i) (0) ([]) ?_ (U7 (by rfl) ⟨rfl, rfl, rfl, rfl, trivial⟩) ?_
 ·exact ⟨Nat.zero_le _, rfl⟩
 intro i xs hinv
 refine H9 (List.append_nil _) ?_
 refine A3 (A2 ?_)
 refine A1 rfl rfl rfl (M2 rfl (A0 rfl) (A0 rfl)) ?_
 refine A4 (A3 ?_)
 refine D0 (A0 rfl) ?_ ?_
 ·intro h10
  have k10 := of_decide_eq_true h10; try simp only [A5] at k10
  have hlt : i < l.length := by omega
  obtain ⟨x, hx⟩ := get_some hlt
  have hsx := j4 (Nat.le_trans (X9 hx) hs)
  rw [drop_some hx, List.map_cons]
  refine D5 (A3 (E1 (A3 (A2 ?_))))
  refine A6 rfl rfl rfl rfl rfl ?_
  refine C2 rfl rfl rfl rfl rfl ?_
  refine A4 (A2 ?_)
  refine A6 rfl rfl rfl rfl rfl ?_
  refine A6 rfl rfl rfl rfl rfl ?_
  refine A6 rfl rfl rfl rfl rfl ?_
  refine A6 rfl rfl rfl rfl rfl ?_
  refine A1 rfl rfl rfl (U3 0 rfl E2 F7 (A0 rfl) rfl (A0 rfl) (by omega) (by rw [K4, B5, d3 (by rw [hinv.2, B1]; omega), B1]; omega)) ?_
  refine A1 rfl rfl rfl (c8 0 rfl G9 rfl M9 (A0 rfl) rfl rfl (W3 (show (nrows TCell.ocs (l.take i) xs).length = i by rw [d3 (by rw [hinv.2, B1]; omega), B1]; omega))) ?_
  refine A1 rfl rfl rfl (i6 0 rfl (A0 rfl) rfl Q0 (W3 (show (nrows TCell.ocs (l.take i) xs).length = i by rw [d3 (by rw [hinv.2, B1]; omega), B1]; omega)) rfl) ?_
  refine I8 [] rfl rfl rfl rfl Tryz.call284 rfl (Ai2 _ (by first | assumption | omega)) (A7 (A0 rfl) D2) rfl ?_
  intro x19 ok19
  refine A1 rfl rfl rfl (U3 1 rfl E2 F7 (A0 rfl) rfl (A0 rfl) (by omega) (by rw [K4, B5, d3 (by rw [hinv.2, B1]; omega), B1]; omega)) ?_
  refine A1 rfl rfl rfl (c8 1 rfl G9 rfl M9 (A0 rfl) rfl rfl (W3 (show (nrows TCell.ocs (l.take i) xs).length = i by rw [d3 (by rw [hinv.2, B1]; omega), B1]; omega))) ?_
  refine R9 0 rfl fun one_x19 => ?_
  refine l6 1 rfl rfl rfl (A0 rfl) (A0 rfl) (S4 one_x19) rfl M9 (show (nrows TCell.ocs (l.take i) xs).length = i by rw [d3 (by rw [hinv.2, B1]; omega), B1]; omega) rfl ?_
  refine A4 ?_
  refine AWP.le (H7 [1, 0] rfl) ?_
  refine AWP.le (m8 1 (t := nin TCell.ow (l.take (i + 1)) (xs ++ [x19])) (Am2 (ow := TCell.ow) (x := x19) hx hinv.2)) ?_
  refine A2 ?_
  refine A1 rfl rfl rfl (H4 rfl (A0 rfl) C6 (by first | omega | (simp only [A5, B1, B5, C1, B0, szR] at *; omega))) ?_
  refine A6 rfl rfl rfl rfl rfl ?_
  refine A4 ?_
  refine S3 i xs (i + 1) (xs ++ [x19]) ?_ ?_ (U7 (Eq.trans (by exact congrArg (fun z => Own.arr _ _ _ z :: _) (Aw9 hx hinv.2)) (List.append_nil _).symm) ⟨rfl, rfl, rfl, rfl, trivial⟩)
  ·exact ⟨by omega, by rw [K4, hinv.2]; rfl⟩
  ·omega
 ·intro h10
  have k10 := of_decide_eq_false h10; try simp only [A5] at k10
  have hge : i = l.length := by omega
  have hxs := hinv.2.trans hge
  rw [show l.take i = l from List.take_of_length_le (by omega), show l.drop i = [] from List.drop_eq_nil_of_le (by omega), List.map_nil, List.append_nil]
  refine I4 ?_
  refine A3 (A2 ?_)
  refine A6 rfl rfl rfl rfl rfl ?_
  refine C2 rfl rfl rfl rfl rfl ?_
  refine A4 ?_
  refine C8 ?_
  exact q7 [0] 0 (nin TCell.ow l xs) [] (x6, xs) (hxs) rfl (show List.Perm (nin TCell.ow l xs) ((nin TCell.ow l xs) ++ []) from d7) (by rfl) (P3 rfl (D1 rfl (by first | rfl | (refine congrArg AV.bool ?_; simp_all; done))))
theorem Ag8 (l : List TCell) (hs : sizeL TCell.size l ≤ 4194304) : GSpec Tryz.prog 208 [AV.list 2 (l.map TCell.cs)] [] (fun x : Value × List Value => x.2.length = l.length) (fun x => .arr x.1 142 2 (nrows TCell.ocs l x.2) :: nin TCell.ow l x.2) (fun x => AV.is x.1) := by
 have hl : l.length ≤ 4194304 := Nat.le_trans O8 hs
 refine J3 Tryz.func208 rfl Tryz.ntmps208 rfl ?_
 refine A3 (A2 ?_)
 refine A1 rfl rfl rfl (C3 rfl M6) ?_
 refine A4 (A3 (A2 ?_))
 refine S1 142 2 rfl rfl rfl rfl M6 ?_
 intro v3
 refine A4 (A3 (A3 (A2 ?_)))
 refine A6 rfl rfl rfl rfl rfl ?_
 refine A1 rfl rfl rfl (G4 rfl E2 (A0 rfl)) ?_
 refine A1 rfl rfl rfl (C7 rfl C6) ?_
 refine A4 (E1 ?_)
 refine Y1 [(2, _), (6, _), (7, _)] [] (fun (i : Nat) (v : Value) (xs : List Value) => i ≤ l.length ∧ xs.length = i) (fun (i : Nat) (v : Value) (xs : List Value) => [.arr v 142 2 (nrows TCell.ocs (l.take i) xs)] ++ (nin TCell.ow (l.take i) xs)) (fun (i : Nat) (v : Value) (xs : List Value) => [(3, AV.is v), (8, AV.int i)]) (fun (i : Nat) (v : Value) (xs : List Value) => l.length - i) (0) (v3) ([]) ?_ (U7 (by rfl) ⟨rfl, rfl, rfl, rfl, rfl, trivial⟩) ?_
 ·exact ⟨Nat.zero_le _, rfl⟩
 intro i v xs hinv
 refine H9 (List.append_nil _) ?_
 refine A3 (A2 ?_)
 refine A1 rfl rfl rfl (M2 rfl (A0 rfl) (A0 rfl)) ?_
 refine A4 (A3 ?_)
 refine D0 (A0 rfl) ?_ ?_
 ·intro h9
  have k9 := of_decide_eq_true h9; try simp only [A5] at k9
  have hlt : i < l.length := by omega
  obtain ⟨x, hx⟩ := get_some hlt
  have hsx := j4 (Nat.le_trans (X9 hx) hs)
  refine D5 (A3 (E1 (A3 (A2 ?_))))
  refine A1 rfl rfl rfl (J4 rfl E2 F7 (A0 rfl) (A0 rfl) hx (by first | omega | (simp only [A5, B1, B5, C1, B0, szR] at *; omega))) ?_
  refine A1 rfl rfl rfl (K7 rfl (A0 rfl) S7 F7) ?_
  refine F4 rfl rfl rfl rfl Tryz.zeroValue142 rfl ?_
  intro b5
  refine D3 0 rfl rfl rfl (A0 rfl) (A0 rfl) (D8 _) rfl F7 rfl ?_
  refine A4 ?_
  refine P5 _ [(0, false), (1, false), (2, false), (4, false), (5, false), (3, true), (6, true), (7, false), (8, false), (9, true)] (by kernel_rfl) (by kernel_rfl) rfl (N8 1) ?_
  refine F2 rfl rfl rfl (fun ext => C7 rfl (A0 rfl)) ?_
  refine F2 rfl rfl rfl (fun ext => B3 0 rfl G9 rfl G0 (A0 rfl) rfl) ?_
  refine F2 rfl rfl rfl (fun ext => B2 0 rfl (A0 rfl) rfl H3 rfl) ?_
  refine F2 rfl rfl rfl (fun ext => B3 1 rfl G9 rfl M9 (A0 rfl) rfl) ?_
  refine F2 rfl rfl rfl (fun ext => B2 0 rfl (A0 rfl) rfl Q0 rfl) ?_
  refine T1 rfl rfl rfl (AD6 2 <| c9 rfl I7 O0) (fun a _ => (by first | exact E9 rfl | exact E9 (List.append_assoc _ _ _) | exact H5)) ?_
  intro v15 _
  refine T1 rfl rfl rfl (g6 2 (fun _ => rfl) (Q7 (by' := 32) 2 rfl I7 Tryz.type197 rfl rfl rfl rfl rfl rfl (A0 rfl) (A0 rfl) rfl (by first | omega | (simp only [A5, B1, B5, C1, B0, szR] at *; omega)))) (fun a _ => (by first | exact E9 rfl | exact E9 (List.append_assoc _ _ _) | exact H5)) ?_
  intro v18_1 hone_v18_1
  have one_v18_1 := hone_v18_1.2
  refine F2 rfl rfl rfl (fun ext => N2 (places := #[(0, 1), (1, 1)]) rfl G9 Tryz.zeroValue142 (fun w => by kernel_rfl) rfl (E8 (A0 rfl) (Q9 _) (E8 (A0 rfl) (S4 one_v18_1) I5)) rfl) ?_
  refine F2 rfl rfl rfl (fun ext => O1 rfl E2 F7 Tryz.zeroValue142 rfl rfl rfl rfl (E8 (A0 rfl) (D8 _) I5) rfl rfl) ?_
  refine T1 rfl rfl rfl (Q7 (by' := 40) 1 rfl E2 Tryz.type142 rfl rfl rfl rfl rfl rfl (A0 rfl) (A0 rfl) rfl (by rw [d3 (by rw [hinv.2, B1]; omega), B0, B1]; omega)) (fun a _ => (by first | exact E9 rfl | exact E9 (List.append_assoc _ _ _) | exact H5)) ?_
  intro v21_2 _
  refine X1 ?_
  refine C2 rfl rfl rfl rfl rfl ?_
  refine A4 ?_
  refine AWP.le (H7 [0, 0, 0] rfl) ?_
  refine AWP.le (m8 2 (t := nin TCell.ow (l.take (i + 1)) (xs ++ [v18_1])) (Am2 (ow := TCell.ow) (x := v18_1) hx hinv.2)) ?_
  refine A2 ?_
  refine A1 rfl rfl rfl (H4 rfl (A0 rfl) C6 (by first | omega | (simp only [A5, B1, B5, C1, B0, szR] at *; omega))) ?_
  refine A6 rfl rfl rfl rfl rfl ?_
  refine A4 ?_
  refine V9 i v xs (i + 1) (v21_2) (xs ++ [v18_1]) ?_ ?_ (P1 1 (Eq.trans (by exact congrArg (fun z => Own.arr _ _ _ z :: _) (AY4 hx hinv.2)) (List.append_nil _).symm) ⟨rfl, rfl, rfl, rfl, rfl, trivial⟩)
  ·exact ⟨by omega, by rw [K4, hinv.2]; rfl⟩
  ·omega
 ·intro h9
  have k9 := of_decide_eq_false h9; try simp only [A5] at k9
  have hge : i = l.length := by omega
  have hxs := hinv.2.trans hge
  rw [show l.take i = l from List.take_of_length_le (by omega)]
  refine I4 ?_
  refine A3 (A2 ?_)
  refine A6 rfl rfl rfl rfl rfl ?_
  refine C2 rfl rfl rfl rfl rfl ?_
  refine A4 ?_
  refine C8 ?_
  exact q7 [0] 0 (nin TCell.ow l xs) [] (v, xs) (hxs) rfl (show List.Perm (nin TCell.ow l xs) ((nin TCell.ow l xs) ++ []) from d7) (by rfl) (P3 rfl (D1 rfl (by first | rfl | (refine congrArg AV.bool ?_; simp_all; done))))
end Go.Proofs.YtnlhbdkcgaeimaaGreat

set_option linter.unusedVariables false
set_option linter.unusedSimpArgs false
set_option maxRecDepth 100000
set_option maxHeartbeats 1000000
namespace Go.Proofs.YtnlhbdkcgaeimaaGreat
open Go Go.AV Go.M
attribute [local irreducible] OpW OpA OpS AWP FSpec ESpec GSpec OpE RetOk RetOkG RvDen Le Ev GuardIs SrcIs
theorem AZ8 (v vv : Value) (l : List (List AV)) (x : List AV) (hx2 : x.length = 2) (hl2 : ∀ r ∈ l, r.length = 2) (i : Nat) (hi : i ≤ l.length) (hl : l.length ≤ 4194304) : GSpec Tryz.prog 285 [AV.is v, AV.int i, AV.is vv] [.arr v 142 2 l, .arr vv 142 2 [x]] (fun _ : Value => True) (fun v => [.arr v 142 2 (l.take i ++ x :: l.drop i)]) (fun v => AV.is v) := by
  have := Ad0 v vv l x hx2 hl2 i hi hl
  simpa only [List.map_id, id_eq] using this
theorem BA7 {l : List TCell} {xs : List Value} : ∀ r ∈ nrows TCell.ocs l xs, r.length = 2 := fun r hr => by
  unfold nrows at hr
  obtain ⟨i, hi⟩ := List.getElem?_of_mem hr
  rw [List.getElem?_zipWith] at hi
  split at hi
  · injection hi with hi; subst hi; rfl
  · cases hi
theorem s7 {α : Type} {f : α → Nat} {l : List α} (i : Nat) : sizeL f (l.take i) ≤ sizeL f l := by
  have := n6 (f := f) (l := l.take i) (r := l.drop i)
  rw [List.take_append_drop] at this; omega
theorem e8 {α : Type} {f : α → Nat} {l : List α} {i : Nat} {x : α} (h : l[i]? = some x) : sizeL f (l.take (i + 1)) = sizeL f (l.take i) + (1 + f x) := by
  rw [List.take_add_one, h, n6]
  show _ + sizeL f [x] = _
  rw [M8]; rfl
def RowsTo (A : List (List AV)) (k : Str) (vs : List (List AV)) (B : List (List AV)) (D : List Own) (o2 : List TCell) (f : Value → List Value) : Prop :=
  ∀ y : Value, (f y).length = o2.length ∧ A ++ [AV.str k, AV.is y] :: B = nrows TCell.ocs o2 (f y) ∧ (Own.arr y 197 3 vs :: D).Perm (nin TCell.ow o2 (f y))
theorem AZ9 {o : List TCell} {xs : List Value} {p : Nat} {c : TCell} {y0 : Value} (hc : o[p]? = some c) (hy : xs[p]? = some y0) (hl : xs.length = o.length) (nv : TVer) :
    RowsTo (nrows TCell.ocs (o.take p) (xs.take p)) c.Key (c.Vers.map TVer.cs ++ [TVer.cs nv]) (nrows TCell.ocs (o.drop (p + 1)) (xs.drop (p + 1))) (nin TCell.ow (o.eraseIdx p) (xs.eraseIdx p)) (o.set p ⟨c.Key, c.Vers ++ [nv]⟩) (fun y => xs.set p y) := fun y => by
  have hp := (List.getElem?_eq_some_iff.1 hc).1
  have hx := (List.getElem?_eq_some_iff.1 hy).1
  have hc' : (o.set p ⟨c.Key, c.Vers ++ [nv]⟩)[p]? = some ⟨c.Key, c.Vers ++ [nv]⟩ := List.getElem?_set_self hp
  have hy' : (xs.set p y)[p]? = some y := List.getElem?_set_self hx
  refine ⟨by rw [List.length_set, List.length_set, hl], ?_, ?_⟩
  · rw [y8 hc' hy', List.take_set_of_le (Nat.le_refl _), List.take_set_of_le (Nat.le_refl _), List.drop_set_of_lt (by omega), List.drop_set_of_lt (by omega)]
    rfl
  · have h := AI5 (ow := TCell.ow) hc' hy'
    rw [List.eraseIdx_set_eq, List.eraseIdx_set_eq] at h
    refine List.Perm.trans ?_ h.symm
    unfold TCell.ow
    simp only [List.map_append, List.map_cons, List.map_nil]
    exact List.Perm.refl _
theorem Aa0 {o : List TCell} {xs : List Value} {p : Nat} (hp : p ≤ o.length) (hl : xs.length = o.length) (k : Str) (nv : TVer) :
    RowsTo ((nrows TCell.ocs o xs).take p) k [TVer.cs nv] ((nrows TCell.ocs o xs).drop p) (nin TCell.ow o xs) (o.take p ++ ⟨k, [nv]⟩ :: o.drop p) (fun y => xs.take p ++ y :: xs.drop p) := fun y =>
  ⟨by rw [Ao1 (by omega), Ao1 hp, hl], BA6 (ocs := TCell.ocs) (p := ⟨k, [nv]⟩) hp hl, nin_ins (ow := TCell.ow) (p := ⟨k, [nv]⟩) hp hl⟩
theorem w3 {l o : List TCell} {w : List TWrite} {t : Int} {i : Nat} {x : TWrite} (h : putAll l w t = putAll o (w.drop i) t) (hx : w[i]? = some x) (ht : ¬ t ≤ lastTime o x.Key) : putAll l w t = putAll (putC1 o x t) (w.drop (i + 1)) t := by
  rw [h, drop_some hx]
  unfold putAll
  rw [if_neg (by simpa using ht)]
  cases w.drop (i + 1) <;> rfl
theorem Ao2 {l o : List TCell} {w : List TWrite} {t : Int} {i : Nat} {x : TWrite} (h : putAll l w t = putAll o (w.drop i) t) (hx : w[i]? = some x) (ht : t ≤ lastTime o x.Key) : putAll l w t = none := by
  rw [h, drop_some hx]
  unfold putAll
  rw [if_pos (by simpa using ht)]
theorem Au1 {l o : List TCell} {w : List TWrite} {t : Int} {i : Nat} (h : putAll l w t = putAll o (w.drop i) t) (hi : w.length ≤ i) : putAll l w t = some o := by
  rw [h, List.drop_eq_nil_of_le hi]; rfl
theorem Ao3 (l : List TCell) (w : List TWrite) (t : Int) (ho : CellsOk l) (hs : sizeL TCell.size l ≤ 1048576) (hw : sizeL TWrite.size w ≤ 1048576) : GSpec Tryz.prog 255 [AV.list 2 (l.map TCell.cs), AV.list 3 (w.map TWrite.cs), AV.int t] [] (fun x : Value × List Value => x.2.length = (putCells l w t).1.length) (fun x => .arr x.1 142 2 (nrows TCell.ocs (putCells l w t).1 x.2) :: nin TCell.ow (putCells l w t).1 x.2) (fun x => AV.tup [AV.is x.1, AV.bool (putCells l w t).2]) := by
 have hwl : w.length ≤ 1048576 := Nat.le_trans O8 hw
 refine J3 Tryz.func255 rfl Tryz.ntmps255 rfl ?_
 refine A3 (A2 ?_)
 refine A1 rfl rfl rfl (C3 rfl M6) ?_
 refine A1 rfl rfl rfl (C3 rfl F5) ?_
 refine A4 (A3 (A2 ?_))
 refine A6 rfl rfl rfl rfl rfl ?_
 refine Af5 [] 0 1 ([]) ([]) (fun zz => nin TCell.ow l zz.2) rfl rfl rfl rfl Tryz.call253 rfl rfl (show List.Perm ([]) (([]) ++ ([])) from List.Perm.refl _) (AN0 l (by omega)) (A7 (A0 rfl) D2) (fun a => Am1) ?_
 intro x14 ok14
 refine C2 rfl rfl rfl rfl rfl ?_
 refine A4 (A3 (A3 (A2 ?_)))
 refine A6 rfl rfl rfl rfl rfl ?_
 refine A1 rfl rfl rfl (G4 rfl G1 (A0 rfl)) ?_
 refine A1 rfl rfl rfl (C7 rfl C6) ?_
 refine A4 (E1 ?_)
 refine p6 [(2, _), (15, _), (16, _)] [] (fun (i : Nat) (v : Value) (q : List TCell) (xs : List Value) => i ≤ w.length ∧ xs.length = q.length ∧ CellsOk q ∧ sizeL TCell.size q ≤ 1048576 + 2 * sizeL TWrite.size (w.take i) ∧ putAll l w t = putAll q (w.drop i) t) (fun (i : Nat) (v : Value) (q : List TCell) (xs : List Value) => [.arr v 142 2 (nrows TCell.ocs q xs)] ++ (nin TCell.ow q xs)) (fun (i : Nat) (v : Value) (q : List TCell) (xs : List Value) => [(8, AV.is v), (17, AV.int i)]) (fun (i : Nat) (v : Value) (q : List TCell) (xs : List Value) => w.length - i) (0) (x14.1) (l) (x14.2) ?_ (U7 (by rw [List.append_nil]; rfl) ⟨rfl, rfl, rfl, rfl, rfl, trivial⟩) ?_
 ·exact ⟨Nat.zero_le _, ok14, ho, by omega, rfl⟩
 intro i v q xs hinv
 have hlen := hinv.2.1
 refine H9 (List.append_nil _) ?_
 refine A3 (A2 ?_)
 refine A1 rfl rfl rfl (M2 rfl (A0 rfl) (A0 rfl)) ?_
 refine A4 (A3 ?_)
 refine D0 (A0 rfl) ?_ ?_
 ·intro h18
  have k18 := of_decide_eq_true h18; try simp only [A5] at k18
  have hlt : i < w.length := by omega
  obtain ⟨x, hx⟩ := get_some hlt
  have htk := s7 (f := TWrite.size) (l := w) i
  have hso : sizeL TCell.size q ≤ 4194304 := by omega
  have hol : q.length ≤ 4194304 := Nat.le_trans O8 hso
  refine D5 (A3 (E1 (A3 (A2 ?_))))
  refine A1 rfl rfl rfl (J4 rfl G1 I6 (A0 rfl) (A0 rfl) hx (by first | omega | (simp only [A5, B1, B5, C1, B0, szR] at *; omega))) ?_
  refine A1 rfl rfl rfl (K7 rfl (A0 rfl) S2 I6) ?_
  refine F4 rfl rfl rfl rfl Tryz.zeroValue77 rfl ?_
  intro b10
  refine D3 0 rfl rfl rfl (A0 rfl) (A0 rfl) (D8 _) rfl I6 rfl ?_
  refine A4 (A3 (A3 (A2 ?_)))
  refine A6 rfl rfl rfl rfl rfl ?_
  refine A6 rfl rfl rfl rfl rfl ?_
  refine A1 rfl rfl rfl (B3 0 rfl J8 rfl G0 (A0 rfl) rfl) ?_
  refine A1 rfl rfl rfl (B2 0 rfl (A0 rfl) rfl H3 rfl) ?_
  refine A1 rfl rfl rfl (X0 rfl Tryz.call93 rfl (AB4 q x.Key hinv.2.2.1 hso) (G7 _ _) (P2 (j7 (A0 rfl) (l8 TCell.lcM (by first | exact hlen | exact hlen.trans (o9 _ _).symm) 1 rfl (fun o ho => List.mem_of_mem_drop (i := 2) (show o ∈ nin TCell.ow q xs from by first | exact ho | exact List.mem_append_left _ ho | exact List.mem_append_right _ ho | exact List.mem_append_right _ (List.mem_append_left _ ho) | exact List.mem_append_right _ (List.mem_append_right _ ho))))) (P2 (evb (A0 rfl)) V2))) ?_
  refine A1 rfl rfl rfl (W0 rfl (A0 rfl) (A0 rfl)) ?_
  refine A4 ?_
  refine D0 (A0 rfl) ?_ ?_
  ·intro h26
   have k26 := of_decide_eq_true h26; try simp only [A5] at k26
   have he : putCells l w t = ([], false) := by unfold putCells; rw [Ao2 hinv.2.2.2.2 hx k26]
   rw [he]
   refine A3 (A2 ?_)
   refine A1 rfl rfl rfl (C3 rfl M6) ?_
   refine A1 rfl rfl rfl (C3 rfl F5) ?_
   refine A4 ?_
   refine C8 ?_
   refine U5 142 2 ?_
   first | exact K0 [0] ((Value.slice none 0 0), []) (rfl) rfl (by rfl) (Q3 rfl (by decide) (E4 (D1 rfl (by rfl)) (E4 (D1 rfl (by rfl)) J6))) | exact q7 [0] 2 (nin TCell.ow q xs) [] ((Value.slice none 0 0), []) (rfl) rfl (show List.Perm (nin TCell.ow q xs) ((nin TCell.ow q xs) ++ []) from d7) (by rfl) (Q3 rfl (by decide) (E4 (D1 rfl (by rfl)) (E4 (D1 rfl (by rfl)) J6))) | exact K0 [0] ((Value.slice none 0 0), xs) (hinv.2.1) rfl (by rfl) (Q3 rfl (by decide) (E4 (D1 rfl (by rfl)) (E4 (D1 rfl (by rfl)) J6))) | exact q7 [0] 2 (nin TCell.ow q xs) [] ((Value.slice none 0 0), xs) (hinv.2.1) rfl (show List.Perm (nin TCell.ow q xs) ((nin TCell.ow q xs) ++ []) from d7) (by rfl) (Q3 rfl (by decide) (E4 (D1 rfl (by rfl)) (E4 (D1 rfl (by rfl)) J6)))
  ·intro h26
   have k26 := of_decide_eq_false h26; try simp only [A5] at k26
   refine D5 (A3 (A2 ?_))
   refine A6 rfl rfl rfl rfl rfl ?_
   refine A1 rfl rfl rfl (B3 0 rfl J8 rfl G0 (A0 rfl) rfl) ?_
   refine A1 rfl rfl rfl (B2 0 rfl (A0 rfl) rfl H3 rfl) ?_
   refine A1 rfl rfl rfl (X0 rfl Tryz.call189 rfl (AB3 q x.Key (by omega)) (a6 (E3 (G7 _ _) (E3 (H0 _) G8))) (P2 (j7 (A0 rfl) (l8 TCell.lcM (by first | exact hlen | exact hlen.trans (o9 _ _).symm) 1 rfl (fun o ho => List.mem_of_mem_drop (i := 2) (show o ∈ nin TCell.ow q xs from by first | exact ho | exact List.mem_append_left _ ho | exact List.mem_append_right _ ho | exact List.mem_append_right _ (List.mem_append_left _ ho) | exact List.mem_append_right _ (List.mem_append_right _ ho))))) (P2 (evb (A0 rfl)) V2))) ?_
   refine A6 rfl rfl rfl rfl rfl ?_
   refine A1 rfl rfl rfl (F6 rfl (A0 rfl) rfl) ?_
   refine A1 rfl rfl rfl (F6 rfl (A0 rfl) rfl) ?_
   refine C2 rfl rfl rfl rfl rfl ?_
   refine C2 rfl rfl rfl rfl rfl ?_
   refine A4 (A3 (A3 (A2 ?_)))
   refine A6 rfl rfl rfl rfl rfl ?_
   refine A1 rfl rfl rfl (N1 rfl (A0 rfl)) ?_
   refine A4 ?_
   refine D0 (A0 rfl) ?_ ?_
   ·intro h35
    have hn : cHas q x.Key = false := by simpa using h35
    have hpl : cPos q x.Key ≤ (nrows TCell.ocs q xs).length := by rw [d3 hlen]; exact Ab8 _ _
    have hA : ((nrows TCell.ocs q xs).take (cPos q x.Key)).length = cPos q x.Key := by rw [B1]; omega
    obtain ⟨fx, hto⟩ : ∃ fx, RowsTo ((nrows TCell.ocs q xs).take (cPos q x.Key)) x.Key [TVer.cs ⟨t, x.Val, x.Gone⟩] ((nrows TCell.ocs q xs).drop (cPos q x.Key)) (nin TCell.ow q xs) (putC1 q x t) fx := ⟨_, by unfold putC1; rw [pos_new hinv.2.2.1.1 hn]; exact Aa0 (Ab8 _ _) hlen _ _⟩
    refine A2 ?_
    refine A6 rfl rfl rfl rfl rfl ?_
    refine A6 rfl rfl rfl rfl rfl ?_
    refine A1 rfl rfl rfl (B3 0 rfl J8 rfl G0 (A0 rfl) rfl) ?_
    refine A1 rfl rfl rfl (B2 0 rfl (A0 rfl) rfl H3 rfl) ?_
    refine A1 rfl rfl rfl (N2 (places := #[(0, 1), (1, 1)]) rfl G9 Tryz.zeroValue142 (fun w => by kernel_rfl) rfl (E8 (A0 rfl) (Q9 _) I5) rfl) ?_
    refine o3 rfl rfl rfl rfl E2 F7 Tryz.zeroValue142 rfl rfl rfl rfl (E8 (A0 rfl) (D8 _) I5) rfl rfl ?_
    intro v41
    refine I8 [2, 0] rfl rfl rfl rfl Tryz.call285 rfl (AZ8 _ _ (nrows TCell.ocs q xs) [AV.str x.Key, AV.nils] rfl BA7 (cPos q x.Key) hpl (by rw [d3 hlen]; omega)) (A7 (A0 rfl) (A7 (A0 rfl) (A7 (A0 rfl) D2))) rfl ?_
    intro x42 ok42
    refine Ay9 197 3 ?_
    refine C2 rfl rfl rfl rfl rfl ?_
    refine A4 ?_
    refine AWP.le (H7 [2, 1, 0] rfl) ?_
    refine P5 _ [(0, false), (1, false), (2, false), (3, false), (4, false), (5, false), (6, false), (7, false), (8, false), (9, false), (10, false), (11, false), (12, false), (13, false), (14, true)] (by kernel_rfl) (by kernel_rfl) rfl (N8 2) ?_
    refine F2 rfl rfl rfl (fun ext => C7 rfl (A0 rfl)) ?_
    refine F2 rfl rfl rfl (fun ext => C7 rfl (A0 rfl)) ?_
    refine F2 rfl rfl rfl (fun ext => C7 rfl (A0 rfl)) ?_
    refine F2 rfl rfl rfl (fun ext => C7 rfl (A0 rfl)) ?_
    refine F2 rfl rfl rfl (fun ext => U3 1 rfl E2 F7 (A0 rfl) rfl (A0 rfl) (by omega) (by rw [K4, B5]; omega)) ?_
    refine F2 rfl rfl rfl (fun ext => c8 1 rfl G9 rfl M9 (A0 rfl) rfl rfl (W3 hA)) ?_
    refine F2 rfl rfl rfl (fun ext => i6 1 rfl (A0 rfl) rfl Q0 (W3 hA) rfl) ?_
    refine F2 rfl rfl rfl (fun ext => C7 rfl (A0 rfl)) ?_
    refine F2 rfl rfl rfl (fun ext => B3 1 rfl J8 rfl G0 (A0 rfl) rfl) ?_
    refine F2 rfl rfl rfl (fun ext => B2 0 rfl (A0 rfl) rfl H3 rfl) ?_
    refine F2 rfl rfl rfl (fun ext => B3 2 rfl J8 rfl J7 (A0 rfl) rfl) ?_
    refine F2 rfl rfl rfl (fun ext => B2 0 rfl (A0 rfl) rfl K3 rfl) ?_
    refine F2 rfl rfl rfl (fun ext => N2 (places := #[(0, 1), (1, 1), (2, 1)]) rfl P8 Tryz.zeroValue197 (fun w => by kernel_rfl) rfl (E8 (A0 rfl) (L9 _ _) (E8 (A0 rfl) (Q9 _) (E8 (A0 rfl) (W1 _) I5))) rfl) ?_
    refine F2 rfl rfl rfl (fun ext => O1 rfl I7 O0 Tryz.zeroValue197 rfl rfl rfl rfl (E8 (A0 rfl) (D8 _) I5) rfl rfl) ?_
    refine T1 rfl rfl rfl (Q7 (by' := 32) 2 rfl I7 Tryz.type197 rfl rfl rfl rfl rfl rfl (A0 rfl) (A0 rfl) rfl (by first | omega | (simp only [A5, B1, B5, C1, B0, szR] at *; omega))) (fun a _ => (by first | exact E9 rfl | exact E9 (List.append_assoc _ _ _) | exact H5)) ?_
    intro v57_2 _
    refine X1 ?_
    refine A1 rfl rfl rfl (U3 1 rfl E2 F7 (A0 rfl) rfl (A0 rfl) (by omega) (by rw [K4, B5]; omega)) ?_
    refine A1 rfl rfl rfl (c8 1 rfl G9 rfl M9 (A0 rfl) rfl rfl (W3 hA)) ?_
    refine R9 2 rfl fun one_v57_2 => ?_
    refine l6 1 rfl rfl rfl (A0 rfl) (A0 rfl) (S4 one_v57_2) rfl M9 hA rfl ?_
    refine A4 ?_
    refine AWP.le (H7 [0, 0, 0] rfl) ?_
    refine AWP.le (m8 2 (t := nin TCell.ow (putC1 q x t) (fx v57_2)) ((hto v57_2).2.2)) ?_
    refine AWP.le (H7 [0] rfl) ?_
    refine A2 ?_
    refine A1 rfl rfl rfl (H4 rfl (A0 rfl) C6 (by first | omega | (simp only [A5, B1, B5, C1, B0, szR] at *; omega))) ?_
    refine A6 rfl rfl rfl rfl rfl ?_
    refine A4 ?_
    refine Y2 i v q xs (i + 1) (x42) (putC1 q x t) (fx v57_2) ?_ ?_ (P1 1 (Eq.trans (by exact congrArg (fun z => Own.arr _ _ _ z :: _) (hto v57_2).2.1) (List.append_nil _).symm) ⟨rfl, rfl, rfl, rfl, rfl, trivial⟩)
    ·exact ⟨by omega, (hto _).1, i9 hinv.2.2.1 _ _, by have h8 := l7 q x t; have h9 := e8 (f := TWrite.size) hx; omega, w3 hinv.2.2.2.2 hx k26⟩
    ·omega
   ·intro h35
    have hn : cHas q x.Key = true := by simpa using h35
    obtain ⟨c, hc, hck, hins⟩ := pos_has hinv.2.2.1.1 hn ⟨t, x.Val, x.Gone⟩
    have hpo := (List.getElem?_eq_some_iff.1 hc).1
    obtain ⟨y, hy⟩ := get_some (show cPos q x.Key < xs.length by omega)
    have hA := AY5 (ocs := TCell.ocs) hc hy
    obtain ⟨fx, hto⟩ : ∃ fx, RowsTo (nrows TCell.ocs (q.take (cPos q x.Key)) (xs.take (cPos q x.Key))) c.Key (c.Vers.map TVer.cs ++ [TVer.cs ⟨t, x.Val, x.Gone⟩]) (nrows TCell.ocs (q.drop (cPos q x.Key + 1)) (xs.drop (cPos q x.Key + 1))) (nin TCell.ow (q.eraseIdx (cPos q x.Key)) (xs.eraseIdx (cPos q x.Key))) (putC1 q x t) fx := ⟨_, by have h7 := AZ9 hc hy hlen ⟨t, x.Val, x.Gone⟩; unfold putC1; rw [hins, ← hck]; rw [hck] at h7 ⊢; exact h7⟩
    have hcs := j4 (Nat.le_trans (X9 hc) hso)
    rw [y8 hc hy]
    refine AWP.le (m8 2 (t := (TCell.ow c y) ++ (nin TCell.ow (q.eraseIdx (cPos q x.Key)) (xs.eraseIdx (cPos q x.Key)))) (AI5 (ow := TCell.ow) hc hy)) ?_
    refine D5 ?_
    refine AWP.le (H7 [0, 0, 0] rfl) ?_
    refine P5 _ [(0, false), (1, false), (2, false), (3, false), (4, false), (5, false), (6, false), (7, false), (8, false), (9, false), (10, false), (11, false), (12, false), (13, false), (14, true)] (by kernel_rfl) (by kernel_rfl) rfl (N8 2) ?_
    refine F2 rfl rfl rfl (fun ext => C7 rfl (A0 rfl)) ?_
    refine F2 rfl rfl rfl (fun ext => C7 rfl (A0 rfl)) ?_
    refine F2 rfl rfl rfl (fun ext => C7 rfl (A0 rfl)) ?_
    refine F2 rfl rfl rfl (fun ext => C7 rfl (A0 rfl)) ?_
    refine F2 rfl rfl rfl (fun ext => U3 1 rfl E2 F7 (A0 rfl) rfl (A0 rfl) (by omega) (by rw [K4, B5]; omega)) ?_
    refine F2 rfl rfl rfl (fun ext => c8 1 rfl G9 rfl M9 (A0 rfl) rfl rfl (W3 hA)) ?_
    refine F2 rfl rfl rfl (fun ext => i6 1 rfl (A0 rfl) rfl Q0 (W3 hA) rfl) ?_
    refine F2 rfl rfl rfl (fun ext => C7 rfl (A0 rfl)) ?_
    refine F2 rfl rfl rfl (fun ext => B3 1 rfl J8 rfl G0 (A0 rfl) rfl) ?_
    refine F2 rfl rfl rfl (fun ext => B2 0 rfl (A0 rfl) rfl H3 rfl) ?_
    refine F2 rfl rfl rfl (fun ext => B3 2 rfl J8 rfl J7 (A0 rfl) rfl) ?_
    refine F2 rfl rfl rfl (fun ext => B2 0 rfl (A0 rfl) rfl K3 rfl) ?_
    refine F2 rfl rfl rfl (fun ext => N2 (places := #[(0, 1), (1, 1), (2, 1)]) rfl P8 Tryz.zeroValue197 (fun w => by kernel_rfl) rfl (E8 (A0 rfl) (L9 _ _) (E8 (A0 rfl) (Q9 _) (E8 (A0 rfl) (W1 _) I5))) rfl) ?_
    refine F2 rfl rfl rfl (fun ext => O1 rfl I7 O0 Tryz.zeroValue197 rfl rfl rfl rfl (E8 (A0 rfl) (D8 _) I5) rfl rfl) ?_
    refine T1 rfl rfl rfl (Q7 (by' := 32) 2 rfl I7 Tryz.type197 rfl rfl rfl rfl rfl rfl (A0 rfl) (A0 rfl) rfl (by first | omega | (simp only [A5, B1, B5, C1, B0, szR] at *; omega))) (fun a _ => (by first | exact E9 rfl | exact E9 (List.append_assoc _ _ _) | exact H5)) ?_
    intro v57_3 _
    refine X1 ?_
    refine A1 rfl rfl rfl (U3 1 rfl E2 F7 (A0 rfl) rfl (A0 rfl) (by omega) (by rw [K4, B5]; omega)) ?_
    refine A1 rfl rfl rfl (c8 1 rfl G9 rfl M9 (A0 rfl) rfl rfl (W3 hA)) ?_
    refine R9 2 rfl fun one_v57_3 => ?_
    refine l6 1 rfl rfl rfl (A0 rfl) (A0 rfl) (S4 one_v57_3) rfl M9 hA rfl ?_
    refine A4 ?_
    refine AWP.le (H7 [0, 0, 0] rfl) ?_
    refine AWP.le (m8 2 (t := nin TCell.ow (putC1 q x t) (fx v57_3)) ((hto v57_3).2.2)) ?_
    refine AWP.le (H7 [0] rfl) ?_
    refine A2 ?_
    refine A1 rfl rfl rfl (H4 rfl (A0 rfl) C6 (by first | omega | (simp only [A5, B1, B5, C1, B0, szR] at *; omega))) ?_
    refine A6 rfl rfl rfl rfl rfl ?_
    refine A4 ?_
    refine Y2 i v q xs (i + 1) (v) (putC1 q x t) (fx v57_3) ?_ ?_ (P1 1 (Eq.trans (by exact congrArg (fun z => Own.arr _ _ _ z :: _) (hto v57_3).2.1) (List.append_nil _).symm) ⟨rfl, rfl, rfl, rfl, rfl, trivial⟩)
    ·exact ⟨by omega, (hto _).1, i9 hinv.2.2.1 _ _, by have h8 := l7 q x t; have h9 := e8 (f := TWrite.size) hx; omega, w3 hinv.2.2.2.2 hx k26⟩
    ·omega
 ·intro h18
  have k18 := of_decide_eq_false h18; try simp only [A5] at k18
  have hge : w.length ≤ i := by omega
  have hpe := Au1 hinv.2.2.2.2 hge
  have htk := s7 (f := TWrite.size) (l := w) i
  have hso : sizeL TCell.size q ≤ 4194304 := by omega
  refine I4 ?_
  refine A3 (A3 (A2 ?_))
  refine A6 rfl rfl rfl rfl rfl ?_
  refine A1 rfl rfl rfl (X0 rfl Tryz.call91 rfl (AJ2 q hso) (H0 _) (P2 (j7 (A0 rfl) (l8 TCell.lcM (by first | exact hlen | exact hlen.trans (o9 _ _).symm) 0 rfl (fun o ho => List.mem_of_mem_drop (i := 1) (show o ∈ nin TCell.ow q xs from by first | exact ho | exact List.mem_append_left _ ho | exact List.mem_append_right _ ho | exact List.mem_append_right _ (List.mem_append_left _ ho) | exact List.mem_append_right _ (List.mem_append_right _ ho))))) V2)) ?_
  refine A1 rfl rfl rfl (N1 rfl (A0 rfl)) ?_
  refine A4 ?_
  refine D0 (A0 rfl) ?_ ?_
  ·intro h63
   have he : putCells l w t = ([], false) := by unfold putCells; rw [hpe]; simp only; rw [if_pos h63]
   rw [he]
   refine A3 (A2 ?_)
   refine A1 rfl rfl rfl (C3 rfl M6) ?_
   refine A1 rfl rfl rfl (C3 rfl F5) ?_
   refine A4 ?_
   refine C8 ?_
   refine U5 142 2 ?_
   first | exact K0 [0] ((Value.slice none 0 0), []) (rfl) rfl (by rfl) (Q3 rfl (by decide) (E4 (D1 rfl (by rfl)) (E4 (D1 rfl (by rfl)) J6))) | exact q7 [0] 1 (nin TCell.ow q xs) [] ((Value.slice none 0 0), []) (rfl) rfl (show List.Perm (nin TCell.ow q xs) ((nin TCell.ow q xs) ++ []) from d7) (by rfl) (Q3 rfl (by decide) (E4 (D1 rfl (by rfl)) (E4 (D1 rfl (by rfl)) J6))) | exact K0 [0] ((Value.slice none 0 0), xs) (hinv.2.1) rfl (by rfl) (Q3 rfl (by decide) (E4 (D1 rfl (by rfl)) (E4 (D1 rfl (by rfl)) J6))) | exact q7 [0] 1 (nin TCell.ow q xs) [] ((Value.slice none 0 0), xs) (hinv.2.1) rfl (show List.Perm (nin TCell.ow q xs) ((nin TCell.ow q xs) ++ []) from d7) (by rfl) (Q3 rfl (by decide) (E4 (D1 rfl (by rfl)) (E4 (D1 rfl (by rfl)) J6)))
  ·intro h63
   have he : putCells l w t = (q, true) := by unfold putCells; rw [hpe]; simp only; rw [if_neg (by rw [h63]; decide)]
   rw [he]
   refine D5 (A3 (A2 ?_))
   refine A6 rfl rfl rfl rfl rfl ?_
   refine C2 rfl rfl rfl rfl rfl ?_
   refine A1 rfl rfl rfl (C3 rfl F5) ?_
   refine A4 ?_
   refine C8 ?_
   first | exact K0 [0] (v, []) (rfl) rfl (by rfl) (Q3 rfl (by decide) (E4 (D1 rfl (by rfl)) (E4 (D1 rfl (by rfl)) J6))) | exact q7 [0] 0 (nin TCell.ow q xs) [] (v, []) (rfl) rfl (show List.Perm (nin TCell.ow q xs) ((nin TCell.ow q xs) ++ []) from d7) (by rfl) (Q3 rfl (by decide) (E4 (D1 rfl (by rfl)) (E4 (D1 rfl (by rfl)) J6))) | exact q7 [0] 0 (nin TCell.ow q xs) [] (v, xs) (hinv.2.1) rfl (show List.Perm (nin TCell.ow q xs) ((nin TCell.ow q xs) ++ []) from d7) (by rfl) (Q3 rfl (by decide) (E4 (D1 rfl (by rfl)) (E4 (D1 rfl (by rfl)) J6)))
end Go.Proofs.YtnlhbdkcgaeimaaGreat

set_option linter.unusedVariables false
set_option linter.unusedSimpArgs false
set_option maxRecDepth 100000
set_option maxHeartbeats 4000000
namespace Go.Proofs.YtnlhbdkcgaeimaaGreat
open Go Go.AV Go.M
attribute [local irreducible] OpW OpA OpS AWP FSpec ESpec GSpec OpE RetOk RetOkG RvDen Le Ev GuardIs SrcIs
theorem BA8 (l : List TCell) (w : List TWrite) (t : Int) (ho : CellsOk l) (hs : sizeL TCell.size l ≤ 1048576) (hw : sizeL TWrite.size w ≤ 1048576) (ht1 : 1 ≤ t) : GSpec Tryz.prog 205 [AV.list 2 (l.map TCell.cs), AV.list 3 (w.map TWrite.cs), AV.int t] [] (fun x : Value × List Value => x.2.length = (putP l w t).1.length) (fun x => .arr x.1 142 2 (nrows TCell.ocs (putP l w t).1 x.2) :: nin TCell.ow (putP l w t).1 x.2) (fun x => AV.tup [AV.is x.1, AV.bool (putP l w t).2]) := by
 have hwl : w.length ≤ 1048576 := Nat.le_trans O8 hw
 refine J3 Tryz.func205 rfl Tryz.ntmps205 rfl ?_
 refine A3 (A2 ?_)
 refine A1 rfl rfl rfl (C3 rfl M6) ?_
 refine A1 rfl rfl rfl (C3 rfl F5) ?_
 refine A4 (A3 (A2 ?_))
 refine A6 rfl rfl rfl rfl rfl ?_
 refine Af5 [] 0 1 ([]) ([]) (fun zz => nin TCell.ow l zz.2) rfl rfl rfl rfl Tryz.call208 rfl rfl (show List.Perm ([]) (([]) ++ ([])) from List.Perm.refl _) (Ag8 l (by omega)) (A7 (A0 rfl) D2) (fun a => Am1) ?_
 intro x15 ok15
 refine C2 rfl rfl rfl rfl rfl ?_
 refine A4 (A3 (A3 (A2 ?_)))
 refine A6 rfl rfl rfl rfl rfl ?_
 refine A1 rfl rfl rfl (G4 rfl G1 (A0 rfl)) ?_
 refine A1 rfl rfl rfl (C7 rfl C6) ?_
 refine A4 (E1 ?_)
 refine p6 [(2, _), (16, _), (17, _)] [] (fun (i : Nat) (v : Value) (q : List TCell) (xs : List Value) => i ≤ w.length ∧ xs.length = q.length ∧ CellsOk q ∧ sizeL TCell.size q ≤ 1048576 + 2 * sizeL TWrite.size (w.take i) ∧ putAll l w t = putAll q (w.drop i) t) (fun (i : Nat) (v : Value) (q : List TCell) (xs : List Value) => [.arr v 142 2 (nrows TCell.ocs q xs)] ++ (nin TCell.ow q xs)) (fun (i : Nat) (v : Value) (q : List TCell) (xs : List Value) => [(8, AV.is v), (18, AV.int i)]) (fun (i : Nat) (v : Value) (q : List TCell) (xs : List Value) => w.length - i) (0) (x15.1) (l) (x15.2) ?_ (U7 (by rw [List.append_nil]; rfl) ⟨rfl, rfl, rfl, rfl, rfl, trivial⟩) ?_
 ·exact ⟨Nat.zero_le _, ok15, ho, by omega, rfl⟩
 intro i v q xs hinv
 have hlen := hinv.2.1
 have hinvo := hinv
 have hrl : (nrows TCell.ocs q xs).length = q.length := d3 hlen
 refine H9 (List.append_nil _) ?_
 refine A3 (A2 ?_)
 refine A1 rfl rfl rfl (M2 rfl (A0 rfl) (A0 rfl)) ?_
 refine A4 (A3 ?_)
 refine D0 (A0 rfl) ?_ ?_
 ·intro h19
  have k19 := of_decide_eq_true h19; try simp only [A5] at k19
  have hlt : i < w.length := by omega
  obtain ⟨x, hx⟩ := get_some hlt
  have htk := s7 (f := TWrite.size) (l := w) i
  have hso : sizeL TCell.size q ≤ 4194304 := by omega
  have hql : q.length ≤ 4194304 := Nat.le_trans O8 hso
  refine D5 (A3 (E1 (A3 (A2 ?_))))
  refine A1 rfl rfl rfl (J4 rfl G1 I6 (A0 rfl) (A0 rfl) hx (by first | omega | (simp only [A5, B1, B5, C1, B0, szR] at *; omega))) ?_
  refine A1 rfl rfl rfl (K7 rfl (A0 rfl) S2 I6) ?_
  refine F4 rfl rfl rfl rfl Tryz.zeroValue77 rfl ?_
  intro b10
  refine D3 0 rfl rfl rfl (A0 rfl) (A0 rfl) (D8 _) rfl I6 rfl ?_
  refine A4 (A3 (A2 ?_))
  refine A6 rfl rfl rfl rfl rfl ?_
  refine A1 rfl rfl rfl (B3 1 rfl J8 rfl G0 (A0 rfl) rfl) ?_
  refine A1 rfl rfl rfl (B2 0 rfl (A0 rfl) rfl H3 rfl) ?_
  refine A1 rfl rfl rfl (B3 2 rfl J8 rfl J7 (A0 rfl) rfl) ?_
  refine A1 rfl rfl rfl (B2 0 rfl (A0 rfl) rfl K3 rfl) ?_
  refine A1 rfl rfl rfl (N2 (places := #[(0, 1), (1, 1), (2, 1)]) rfl P8 Tryz.zeroValue197 (fun w => by kernel_rfl) rfl (E8 (A0 rfl) (L9 _ _) (E8 (A0 rfl) (Q9 _) (E8 (A0 rfl) (W1 _) I5))) rfl) ?_
  refine F4 rfl rfl rfl rfl Tryz.zeroValue197 rfl ?_
  intro b11
  refine D3 0 rfl rfl rfl (A0 rfl) (A0 rfl) (D8 _) rfl O0 rfl ?_
  refine A4 (A3 (A2 ?_))
  refine A6 rfl rfl rfl rfl rfl ?_
  refine A1 rfl rfl rfl (V4 2 rfl E2 (A0 rfl) rfl) ?_
  refine C2 rfl rfl rfl rfl rfl ?_
  refine A4 (A3 (E1 ?_))
  refine K1 [(2, _), (8, _), (10, _), (11, _), (16, _), (17, _), (18, _), (19, _), (20, _), (21, _), (22, _), (23, _), (24, _), (25, _), (26, _), (27, _), (28, _), (29, _)] _ (fun (j : Nat) => j ≤ q.length ∧ ∀ (a : Nat) (c : TCell), j ≤ a → q[a]? = some c → Op.bytesLess x.Key c.Key = true) (fun (j : Nat) => []) (fun (j : Nat) => [(12, AV.int j)]) (fun (j : Nat) => j) (q.length) ?_ (J9 ⟨congrArg (fun z : Nat => some (AV.int z)) hrl, rfl, rfl, rfl, rfl, rfl, rfl, rfl, rfl, rfl, rfl, rfl, rfl, rfl, rfl, rfl, rfl, rfl, rfl, trivial⟩) ?_
  ·exact ⟨Nat.le_refl _, fun a c ha hc => by have := (List.getElem?_eq_some_iff.1 hc).1; omega⟩
  intro j hinv
  obtain ⟨c, hc0⟩ := AD5 q (j - 1)
  obtain ⟨y, hy0⟩ : ∃ y, j - 1 < xs.length → xs[j - 1]? = some y := ⟨xs[j - 1]?.getD (.int .i64 0), fun h => by rw [List.getElem?_eq_getElem h]; rfl⟩
  have hj1 : 0 < j → ((j : Int) - 1).toNat = j - 1 := fun _ => by omega
  have hrow0 : 0 < j → (nrows TCell.ocs q xs)[((j : Int) - 1).toNat]? = some (TCell.ocs c y) := fun h => by rw [hj1 h]; exact Af6 (hc0 (by omega)) (hy0 (by omega))
  refine A3 (A3 ?_)
  refine J5 (by kernel_rfl) (by kernel_rfl) rfl ?_
  refine B4 rfl rfl (C7 rfl (A0 rfl)) ?_
  refine B4 rfl rfl (P4 rfl (A0 rfl) C6) ?_
  refine B4 rfl rfl (C7 rfl (A0 rfl)) ?_
  refine D7 rfl (B9 rfl rfl rfl) (fun hc => C7 rfl (A0 rfl)) ?_
  refine D7 rfl (B9 rfl rfl rfl) (fun hc => C7 rfl (A0 rfl)) ?_
  refine D7 rfl (B9 rfl rfl rfl) (fun hc => S5 rfl (A9 rfl hc) C6 (by first | omega | ((try simp only [A5, B1, B5, C1, B0, szR] at *); omega) | (have hc2 := hc; simp only [Bool.and_eq_true, Bool.or_eq_true, Bool.or_eq_false_iff, Bool.and_eq_false_iff, Bool.not_eq_true', Bool.not_eq_false', decide_eq_true_eq, decide_eq_false_iff_not, beq_iff_eq, bne_iff_ne, A5, B1] at hc2; omega))) ?_
  refine D7 rfl (B9 rfl rfl rfl) (fun hc => U3 2 rfl E2 F7 (A9 rfl hc) rfl (A9 rfl hc) (by first | omega | ((try simp only [A5, B1, B5, C1, B0, szR] at *); omega) | (have hc2 := hc; simp only [Bool.and_eq_true, Bool.or_eq_true, Bool.or_eq_false_iff, Bool.and_eq_false_iff, Bool.not_eq_true', Bool.not_eq_false', decide_eq_true_eq, decide_eq_false_iff_not, beq_iff_eq, bne_iff_ne, A5, B1] at hc2; omega)) (by first | omega | ((try simp only [A5, B1, B5, C1, B0, szR] at *); omega) | (have hc2 := hc; simp only [Bool.and_eq_true, Bool.or_eq_true, Bool.or_eq_false_iff, Bool.and_eq_false_iff, Bool.not_eq_true', Bool.not_eq_false', decide_eq_true_eq, decide_eq_false_iff_not, beq_iff_eq, bne_iff_ne, A5, B1] at hc2; omega))) ?_
  refine D7 rfl (B9 rfl rfl rfl) (fun hc => c8 2 rfl G9 rfl G0 (A9 rfl hc) rfl rfl (hrow0 (by first | omega | ((try simp only [A5, B1, B5, C1, B0, szR] at *); omega) | (have hc2 := hc; simp only [Bool.and_eq_true, Bool.or_eq_true, Bool.or_eq_false_iff, Bool.and_eq_false_iff, Bool.not_eq_true', Bool.not_eq_false', decide_eq_true_eq, decide_eq_false_iff_not, beq_iff_eq, bne_iff_ne, A5, B1] at hc2; omega)))) ?_
  refine D7 rfl (B9 rfl rfl rfl) (fun hc => i6 2 rfl (A9 rfl hc) rfl H3 (hrow0 (by first | omega | ((try simp only [A5, B1, B5, C1, B0, szR] at *); omega) | (have hc2 := hc; simp only [Bool.and_eq_true, Bool.or_eq_true, Bool.or_eq_false_iff, Bool.and_eq_false_iff, Bool.not_eq_true', Bool.not_eq_false', decide_eq_true_eq, decide_eq_false_iff_not, beq_iff_eq, bne_iff_ne, A5, B1] at hc2; omega))) rfl) ?_
  refine D7 rfl (B9 rfl rfl rfl) (fun hc => B3 0 rfl J8 rfl G0 (A0 rfl) rfl) ?_
  refine D7 rfl (B9 rfl rfl rfl) (fun hc => B2 1 rfl (A9 rfl hc) rfl H3 rfl) ?_
  refine D7 rfl (B9 rfl rfl rfl) (fun hc => Ak3 rfl (A9 rfl hc) (A9 rfl hc)) ?_
  refine B4 rfl rfl (H8 rfl (A0 rfl) (G2 rfl)) ?_
  refine O5 ?_
  refine D0 (A0 rfl) ?_ ?_
  ·intro h42
   have hgt : 0 < j ∧ Op.bytesLess x.Key c.Key = true := by rw [T2]; simpa using h42
   refine D5 (E1 (A2 ?_))
   refine A6 rfl rfl rfl rfl rfl ?_
   refine A1 rfl rfl rfl (S5 rfl (A0 rfl) C6 (by first | omega | (simp only [A5, B1, B5, C1, B0, szR] at *; omega))) ?_
   refine C2 rfl rfl rfl rfl rfl ?_
   refine A4 ?_
   refine m3 ?_
   refine M3 j (j - 1) ?_ ?_ (J9 ⟨congrArg (fun z : Int => some (AV.int z)) (by omega), rfl, rfl, rfl, rfl, rfl, rfl, rfl, rfl, rfl, rfl, rfl, rfl, rfl, rfl, rfl, rfl, rfl, rfl, trivial⟩)
   ·exact ⟨by omega, fun a c' ha hc' => if h9 : j ≤ a then hinv.2 a c' h9 hc' else (by have e : a = j - 1 := (by omega); subst e; rw [hc0 (by omega)] at hc'; injection hc' with hc'; subst hc'; exact hgt.2)⟩
   ·omega
  ·intro h42
   have hng : 0 < j → Op.bytesLess x.Key c.Key = false := fun h => by rw [T2]; simpa [h] using h42
   refine I4 ?_
   refine A3 (A3 ?_)
   refine J5 (by kernel_rfl) (by kernel_rfl) rfl ?_
   refine B4 rfl rfl (C7 rfl (A0 rfl)) ?_
   refine B4 rfl rfl (P4 rfl (A0 rfl) C6) ?_
   refine B4 rfl rfl (C7 rfl (A0 rfl)) ?_
   refine D7 rfl (B9 rfl rfl rfl) (fun hc => C7 rfl (A0 rfl)) ?_
   refine D7 rfl (B9 rfl rfl rfl) (fun hc => C7 rfl (A0 rfl)) ?_
   refine D7 rfl (B9 rfl rfl rfl) (fun hc => S5 rfl (A9 rfl hc) C6 (by first | omega | ((try simp only [A5, B1, B5, C1, B0, szR] at *); omega) | (have hc2 := hc; simp only [Bool.and_eq_true, Bool.or_eq_true, Bool.or_eq_false_iff, Bool.and_eq_false_iff, Bool.not_eq_true', Bool.not_eq_false', decide_eq_true_eq, decide_eq_false_iff_not, beq_iff_eq, bne_iff_ne, A5, B1] at hc2; omega))) ?_
   refine D7 rfl (B9 rfl rfl rfl) (fun hc => U3 2 rfl E2 F7 (A9 rfl hc) rfl (A9 rfl hc) (by first | omega | ((try simp only [A5, B1, B5, C1, B0, szR] at *); omega) | (have hc2 := hc; simp only [Bool.and_eq_true, Bool.or_eq_true, Bool.or_eq_false_iff, Bool.and_eq_false_iff, Bool.not_eq_true', Bool.not_eq_false', decide_eq_true_eq, decide_eq_false_iff_not, beq_iff_eq, bne_iff_ne, A5, B1] at hc2; omega)) (by first | omega | ((try simp only [A5, B1, B5, C1, B0, szR] at *); omega) | (have hc2 := hc; simp only [Bool.and_eq_true, Bool.or_eq_true, Bool.or_eq_false_iff, Bool.and_eq_false_iff, Bool.not_eq_true', Bool.not_eq_false', decide_eq_true_eq, decide_eq_false_iff_not, beq_iff_eq, bne_iff_ne, A5, B1] at hc2; omega))) ?_
   refine D7 rfl (B9 rfl rfl rfl) (fun hc => c8 2 rfl G9 rfl G0 (A9 rfl hc) rfl rfl (hrow0 (by first | omega | ((try simp only [A5, B1, B5, C1, B0, szR] at *); omega) | (have hc2 := hc; simp only [Bool.and_eq_true, Bool.or_eq_true, Bool.or_eq_false_iff, Bool.and_eq_false_iff, Bool.not_eq_true', Bool.not_eq_false', decide_eq_true_eq, decide_eq_false_iff_not, beq_iff_eq, bne_iff_ne, A5, B1] at hc2; omega)))) ?_
   refine D7 rfl (B9 rfl rfl rfl) (fun hc => i6 2 rfl (A9 rfl hc) rfl H3 (hrow0 (by first | omega | ((try simp only [A5, B1, B5, C1, B0, szR] at *); omega) | (have hc2 := hc; simp only [Bool.and_eq_true, Bool.or_eq_true, Bool.or_eq_false_iff, Bool.and_eq_false_iff, Bool.not_eq_true', Bool.not_eq_false', decide_eq_true_eq, decide_eq_false_iff_not, beq_iff_eq, bne_iff_ne, A5, B1] at hc2; omega))) rfl) ?_
   refine D7 rfl (B9 rfl rfl rfl) (fun hc => B3 0 rfl J8 rfl G0 (A0 rfl) rfl) ?_
   refine D7 rfl (B9 rfl rfl rfl) (fun hc => B2 1 rfl (A9 rfl hc) rfl H3 rfl) ?_
   refine D7 rfl (B9 rfl rfl rfl) (fun hc => s4 rfl (A9 rfl hc) (A9 rfl hc)) ?_
   refine B4 rfl rfl (H8 rfl (A0 rfl) (G2 rfl)) ?_
   refine O5 ?_
   refine D0 (A0 rfl) ?_ ?_
   ·intro h57
    have hf : 0 < j ∧ c.Key = x.Key := by simpa using h57
    have hc := hc0 (by omega)
    have hy := hy0 (by omega)
    have hins := Am0 hinvo.2.2.1.1 hc hf.2 ⟨t, x.Val, x.Gone⟩
    refine A3 (A3 (A2 ?_))
    refine A6 rfl rfl rfl rfl rfl ?_
    refine A1 rfl rfl rfl (B3 0 rfl J8 rfl G0 (A0 rfl) rfl) ?_
    refine A1 rfl rfl rfl (B2 1 rfl (A0 rfl) rfl H3 rfl) ?_
    refine A1 rfl rfl rfl (X0 rfl Tryz.call203 rfl (AH5 q x.Key hinvo.2.2.1 hso) (G7 _ _) (P2 (j7 (A0 rfl) (l8 TCell.lcM (by first | exact hlen | exact hlen.trans (o9 _ _).symm) 2 rfl (fun o ho => List.mem_of_mem_drop (i := 3) (show o ∈ nin TCell.ow q xs from by first | exact ho | exact List.mem_append_left _ ho | exact List.mem_append_right _ ho | exact List.mem_append_right _ (List.mem_append_left _ ho) | exact List.mem_append_right _ (List.mem_append_right _ ho))))) (P2 (evb (A0 rfl)) V2))) ?_
    refine A6 rfl rfl rfl rfl rfl ?_
    refine A1 rfl rfl rfl (f5 rfl (A0 rfl) (A0 rfl)) ?_
    refine A4 ?_
    refine D0 (A0 rfl) ?_ ?_
    ·intro h63
     have k63 := of_decide_eq_true h63; try simp only [A5] at k63
     have he : putP l w t = ([], false) := by unfold putP; rw [Ao2 hinvo.2.2.2.2 hx k63]
     rw [he]
     refine A3 (A2 ?_)
     refine A1 rfl rfl rfl (C3 rfl M6) ?_
     refine A1 rfl rfl rfl (C3 rfl F5) ?_
     refine A4 ?_
     refine C8 ?_
     refine U5 142 2 ?_
     first | exact K0 [0] ((Value.slice none 0 0), []) (rfl) rfl (by rfl) (Q3 rfl (by decide) (E4 (D1 rfl (by rfl)) (E4 (D1 rfl (by rfl)) J6))) | exact q7 [0] 3 (nin TCell.ow q xs) [] ((Value.slice none 0 0), []) (rfl) rfl (show List.Perm (nin TCell.ow q xs) ((nin TCell.ow q xs) ++ []) from d7) (by rfl) (Q3 rfl (by decide) (E4 (D1 rfl (by rfl)) (E4 (D1 rfl (by rfl)) J6))) | exact K0 [0] ((Value.slice none 0 0), xs) (hinv.2.1) rfl (by rfl) (Q3 rfl (by decide) (E4 (D1 rfl (by rfl)) (E4 (D1 rfl (by rfl)) J6))) | exact q7 [0] 3 (nin TCell.ow q xs) [] ((Value.slice none 0 0), xs) (hinv.2.1) rfl (show List.Perm (nin TCell.ow q xs) ((nin TCell.ow q xs) ++ []) from d7) (by rfl) (Q3 rfl (by decide) (E4 (D1 rfl (by rfl)) (E4 (D1 rfl (by rfl)) J6)))
    ·intro h63
     have k63 := of_decide_eq_false h63; try simp only [A5] at k63
     have hnt : ¬ t ≤ lastTime q x.Key := k63
     have hpo := (List.getElem?_eq_some_iff.1 hc).1
     have hA : (nrows TCell.ocs (q.take (j - 1)) (xs.take (j - 1))).length = ((j : Int) - 1).toNat := (AY5 (ocs := TCell.ocs) hc hy).trans (hj1 hf.1).symm
     obtain ⟨fx, hto⟩ : ∃ fx, RowsTo (nrows TCell.ocs (q.take (j - 1)) (xs.take (j - 1))) c.Key (c.Vers.map TVer.cs ++ [TVer.cs ⟨t, x.Val, x.Gone⟩]) (nrows TCell.ocs (q.drop (j - 1 + 1)) (xs.drop (j - 1 + 1))) (nin TCell.ow (q.eraseIdx (j - 1)) (xs.eraseIdx (j - 1))) (putC1 q x t) fx := ⟨_, by have h7 := AZ9 hc hy hlen ⟨t, x.Val, x.Gone⟩; unfold putC1; rw [hins]; rw [hf.2] at h7 ⊢; exact h7⟩
     have hcs := j4 (Nat.le_trans (X9 hc) hso)
     rw [y8 hc hy]
     refine AWP.le (m8 3 (t := (TCell.ow c y) ++ (nin TCell.ow (q.eraseIdx (j - 1)) (xs.eraseIdx (j - 1)))) (AI5 (ow := TCell.ow) hc hy)) ?_
     refine D5 (A3 ?_)
     refine AWP.le (H7 [0, 1, 1] rfl) ?_
     refine P5 _ [(0, false), (1, false), (2, false), (3, false), (4, false), (5, false), (6, false), (7, false), (8, false), (9, false), (10, false), (11, true)] (by kernel_rfl) (by kernel_rfl) rfl (N8 2) ?_
     refine F2 rfl rfl rfl (fun ext => C7 rfl (A0 rfl)) ?_
     refine F2 rfl rfl rfl (fun ext => C7 rfl (A0 rfl)) ?_
     refine F2 rfl rfl rfl (fun ext => S5 rfl (A0 rfl) C6 (by first | omega | (simp only [A5, B1, B5, C1, B0, szR] at *; omega))) ?_
     refine F2 rfl rfl rfl (fun ext => C7 rfl (A0 rfl)) ?_
     refine F2 rfl rfl rfl (fun ext => C7 rfl (A0 rfl)) ?_
     refine F2 rfl rfl rfl (fun ext => S5 rfl (A0 rfl) C6 (by first | omega | (simp only [A5, B1, B5, C1, B0, szR] at *; omega))) ?_
     refine F2 rfl rfl rfl (fun ext => U3 1 rfl E2 F7 (A0 rfl) rfl (A0 rfl) (by omega) (by rw [K4, B5]; omega)) ?_
     refine F2 rfl rfl rfl (fun ext => c8 1 rfl G9 rfl M9 (A0 rfl) rfl rfl (W3 hA)) ?_
     refine F2 rfl rfl rfl (fun ext => i6 1 rfl (A0 rfl) rfl Q0 (W3 hA) rfl) ?_
     refine F2 rfl rfl rfl (fun ext => D9 0 rfl (A0 rfl) rfl d5 O0 rfl) ?_
     refine F2 rfl rfl rfl (fun ext => O1 rfl I7 O0 Tryz.zeroValue197 rfl rfl rfl rfl (E8 (A0 rfl) (D8 _) I5) rfl rfl) ?_
     refine T1 rfl rfl rfl (Q7 (by' := 32) 2 rfl I7 Tryz.type197 rfl rfl rfl rfl rfl rfl (A0 rfl) (A0 rfl) rfl (by first | omega | (simp only [A5, B1, B5, C1, B0, szR] at *; omega))) (fun a _ => (by first | exact E9 rfl | exact E9 (List.append_assoc _ _ _) | exact H5)) ?_
     intro v75_2 _
     refine X1 ?_
     refine A1 rfl rfl rfl (U3 1 rfl E2 F7 (A0 rfl) rfl (A0 rfl) (by omega) (by rw [K4, B5]; omega)) ?_
     refine A1 rfl rfl rfl (c8 1 rfl G9 rfl M9 (A0 rfl) rfl rfl (W3 hA)) ?_
     refine R9 2 rfl fun one_v75_2 => ?_
     refine l6 1 rfl rfl rfl (A0 rfl) (A0 rfl) (S4 one_v75_2) rfl M9 hA rfl ?_
     refine A4 ?_
     refine I4 ?_
     refine H9 (by first | (simp only [List.singleton_append, pick, L5, L1, L2, K9, L3, List.nil_append, L6, L7, List.append_nil, L0, List.take_zero, L4, List.drop_zero]; exact rfl) | exact rfl) ?_
     refine AWP.le (H7 [0, 0, 1, 0] rfl) ?_
     refine AWP.le (m8 3 (t := nin TCell.ow (putC1 q x t) (fx v75_2)) ((hto v75_2).2.2)) ?_
     refine A2 ?_
     refine A1 rfl rfl rfl (H4 rfl (A0 rfl) C6 (by first | omega | (simp only [A5, B1, B5, C1, B0, szR] at *; omega))) ?_
     refine A6 rfl rfl rfl rfl rfl ?_
     refine A4 ?_
     refine Y2 i v q xs (i + 1) (v) (putC1 q x t) (fx v75_2) ?_ ?_ (Le.trans (H7 [0, 1, 0] rfl) (P1 2 (Eq.trans (by first | exact congrArg (fun z => Own.arr _ _ _ z :: _) (hto v75_2).2.1 | exact congrArg (fun z => Own.arr _ _ _ z :: _) (by first | (rw [List.nil_append, List.append_assoc]; exact (hto v75_2).2.1) | (rw [List.append_assoc]; exact (hto v75_2).2.1))) (List.append_nil _).symm) ⟨rfl, rfl, rfl, rfl, rfl, trivial⟩))
     ·exact ⟨by omega, (hto _).1, i9 hinvo.2.2.1 _ _, by have h8 := l7 q x t; have h9 := e8 (f := TWrite.size) hx; omega, w3 hinvo.2.2.2.2 hx hnt⟩
     ·omega
   ·intro h57
    have hnf : 0 < j → c.Key ≠ x.Key := fun h => by simpa [h] using h57
    obtain ⟨hins, hl0⟩ := scan_new hinvo.2.2.1.1 hinv.1 hinv.2 (fun z hz hzz => by rw [hc0 (by omega)] at hzz; injection hzz with hzz; subst hzz; rw [T2, hng hz]; simpa using fun e => hnf hz e.symm) ⟨t, x.Val, x.Gone⟩
    have hnt : ¬ t ≤ lastTime q x.Key := by rw [hl0]; omega
    obtain ⟨fx, hto⟩ : ∃ fx, RowsTo ((nrows TCell.ocs q xs).take j) x.Key [TVer.cs ⟨t, x.Val, x.Gone⟩] ((nrows TCell.ocs q xs).drop j) (nin TCell.ow q xs) (putC1 q x t) fx := ⟨_, by unfold putC1; rw [hins]; exact Aa0 hinv.1 hlen _ _⟩
    refine D5 (A3 ?_)
    refine AWP.le (d8 [2] 8 rfl rfl (P0 (H2 (i := 0) rfl) K5) P6) ?_
    refine A2 ?_
    refine U2 rfl rfl rfl rfl E2 F7 ?_
    intro v78
    refine A6 rfl rfl rfl rfl rfl ?_
    refine A6 rfl rfl rfl rfl rfl ?_
    refine A1 rfl rfl rfl (Al0 rfl E2 F7 (A0 rfl) (A0 rfl) (by omega) (by rw [hrl]; omega)) ?_
    refine N6 (by' := 40) 0 rfl rfl rfl rfl E2 Tryz.type142 rfl rfl rfl rfl rfl rfl (A0 rfl) (A0 rfl) rfl (by simp only [C1, List.nil_append, K4, B1, List.length_drop, B5, B0, hrl]; omega) ?_
    intro v82_3
    refine C2 rfl rfl rfl rfl rfl ?_
    refine A4 ?_
    refine AWP.le (d8 [0] 13 rfl rfl (P0 (H2 (i := 0) rfl) K5) P6) ?_
    refine AWP.le (H7 [0, 0] rfl) ?_
    refine M4 _ 14 (.pure 1 (.pure 2 (.pure 3 (.pure 5 (.pure 6 (.pure 7 (.pure 12 (.e2 0 (.e2 4 (.e1 8 (.pure 9 (.pure 10 (.e1 11 (.e1 13 .nil))))) 8 (.pure 9 (.pure 10 (.e1 4 (.e1 11 (.e1 13 .nil)))))) 8 (.pure 9 (.pure 10 (.e1 0 (.e1 4 (.e1 11 (.e1 13 .nil)))))))))))))) (by kernel_rfl) (by kernel_rfl) rfl (N8 2) ?_
    refine G6 rfl rfl rfl (fun ext => C7 rfl (A0 rfl)) ?_
    refine G6 rfl rfl rfl (fun ext => C7 rfl (A0 rfl)) ?_
    refine G6 rfl rfl rfl (fun ext => Ak9 rfl E2 F7 (A0 rfl) (A0 rfl) (by omega) (by rw [hrl]; omega)) ?_
    refine G6 rfl rfl rfl (fun ext => B3 0 rfl J8 rfl G0 (A0 rfl) rfl) ?_
    refine G6 rfl rfl rfl (fun ext => B2 1 rfl (A0 rfl) rfl H3 rfl) ?_
    refine G6 rfl rfl rfl (fun ext => D9 0 rfl (A0 rfl) rfl d5 O0 rfl) ?_
    refine G6 rfl rfl rfl (fun ext => C7 rfl (A0 rfl)) ?_
    refine AK9 ?_ ?_
    ·refine V0 rfl rfl rfl (AD6 2 <| c9 rfl E2 F7) (fun a _ => (by first | exact E9 rfl | exact E9 (List.append_assoc _ _ _) | exact H5)) ?_
     intro v83 _
     refine AK9 ?_ ?_
     ·refine V0 rfl rfl rfl (Q7 (by' := 40) 2 rfl E2 Tryz.type142 rfl rfl rfl rfl rfl rfl (A0 rfl) (A0 rfl) rfl (by simp only [C1, List.nil_append, K4, B1, List.length_drop, B5, B0, hrl]; omega)) (fun a _ => (by first | exact E9 rfl | exact E9 (List.append_assoc _ _ _) | exact H5)) ?_
      intro v87_4 _
      refine S0 ?_
      refine V0 rfl rfl rfl (g6 3 (fun _ => rfl) (AD6 3 <| AC6 rfl I7 O0 Tryz.zeroValue197 rfl rfl rfl rfl (E8 (A0 rfl) (D8 _) I5) rfl rfl)) (fun a _ => (by first | exact E9 rfl | exact E9 (List.append_assoc _ _ _) | exact H5)) ?_
      intro v91 hone_v91
      have one_v91 := hone_v91.2
      refine G6 rfl rfl rfl (fun ext => N2 (places := #[(0, 1), (1, 1)]) rfl G9 Tryz.zeroValue142 (fun w => by kernel_rfl) rfl (E8 (A0 rfl) (Q9 _) (E8 (A0 rfl) (S4 one_v91) I5)) rfl) ?_
      refine G6 rfl rfl rfl (fun ext => O1 rfl E2 F7 Tryz.zeroValue142 rfl rfl rfl rfl (E8 (A0 rfl) (D8 _) I5) rfl rfl) ?_
      refine S0 ?_
      refine V0 rfl rfl rfl (Q7 (by' := 40) 2 rfl E2 Tryz.type142 rfl rfl rfl rfl rfl rfl (A0 rfl) (A0 rfl) rfl (by simp only [C1, List.nil_append, K4, B1, List.length_drop, B5, B0, hrl]; omega)) (fun a _ => (by first | exact E9 rfl | exact E9 (List.append_assoc _ _ _) | exact H5)) ?_
      intro v94_5 _
      refine S0 ?_
      refine V0 rfl rfl rfl (Q7 (by' := 40) 2 rfl E2 Tryz.type142 rfl rfl rfl rfl rfl rfl (A0 rfl) (A0 rfl) rfl (by simp only [C1, List.nil_append, K4, B1, List.length_drop, B5, B0, hrl]; omega)) (fun a _ => (by first | exact E9 rfl | exact E9 (List.append_assoc _ _ _) | exact H5)) ?_
      intro v96_6 _
      refine S6 ?_
      refine C2 rfl rfl rfl rfl rfl ?_
      refine A4 ?_
      refine H9 (by first | (simp only [List.singleton_append, pick, L5, L1, L2, K9, L3, List.nil_append, L6, L7, List.append_nil, L0, List.take_zero, L4, List.drop_zero]; exact rfl) | exact rfl) ?_
      refine AWP.le (H7 [0, 0, 0, 0] rfl) ?_
      refine AWP.le (m8 3 (t := nin TCell.ow (putC1 q x t) (fx v91)) ((hto v91).2.2)) ?_
      refine A2 ?_
      refine A1 rfl rfl rfl (H4 rfl (A0 rfl) C6 (by first | omega | (simp only [A5, B1, B5, C1, B0, szR] at *; omega))) ?_
      refine A6 rfl rfl rfl rfl rfl ?_
      refine A4 ?_
      refine Y2 i v q xs (i + 1) (v96_6) (putC1 q x t) (fx v91) ?_ ?_ (Le.trans (H7 [0, 0, 0] rfl) (P1 2 (Eq.trans (by first | exact congrArg (fun z => Own.arr _ _ _ z :: _) (hto v91).2.1 | exact congrArg (fun z => Own.arr _ _ _ z :: _) (by first | (rw [List.nil_append, List.append_assoc]; exact (hto v91).2.1) | (rw [List.append_assoc]; exact (hto v91).2.1))) (List.append_nil _).symm) ⟨rfl, rfl, rfl, rfl, rfl, trivial⟩))
      ·exact ⟨by omega, (hto _).1, i9 hinvo.2.2.1 _ _, by have h8 := l7 q x t; have h9 := e8 (f := TWrite.size) hx; omega, w3 hinvo.2.2.2.2 hx hnt⟩
      ·omega
     ·refine V0 rfl rfl rfl (g6 3 (fun _ => rfl) (AD6 3 <| AC6 rfl I7 O0 Tryz.zeroValue197 rfl rfl rfl rfl (E8 (A0 rfl) (D8 _) I5) rfl rfl)) (fun a _ => (by first | exact E9 rfl | exact E9 (List.append_assoc _ _ _) | exact H5)) ?_
      intro v91 hone_v91
      have one_v91 := hone_v91.2
      refine G6 rfl rfl rfl (fun ext => N2 (places := #[(0, 1), (1, 1)]) rfl G9 Tryz.zeroValue142 (fun w => by kernel_rfl) rfl (E8 (A0 rfl) (Q9 _) (E8 (A0 rfl) (S4 one_v91) I5)) rfl) ?_
      refine G6 rfl rfl rfl (fun ext => O1 rfl E2 F7 Tryz.zeroValue142 rfl rfl rfl rfl (E8 (A0 rfl) (D8 _) I5) rfl rfl) ?_
      refine S0 ?_
      refine V0 rfl rfl rfl (Q7 (by' := 40) 2 rfl E2 Tryz.type142 rfl rfl rfl rfl rfl rfl (A0 rfl) (A0 rfl) rfl (by simp only [C1, List.nil_append, K4, B1, List.length_drop, B5, B0, hrl]; omega)) (fun a _ => (by first | exact E9 rfl | exact E9 (List.append_assoc _ _ _) | exact H5)) ?_
      intro v87_7 _
      refine S0 ?_
      refine V0 rfl rfl rfl (Q7 (by' := 40) 2 rfl E2 Tryz.type142 rfl rfl rfl rfl rfl rfl (A0 rfl) (A0 rfl) rfl (by simp only [C1, List.nil_append, K4, B1, List.length_drop, B5, B0, hrl]; omega)) (fun a _ => (by first | exact E9 rfl | exact E9 (List.append_assoc _ _ _) | exact H5)) ?_
      intro v94_8 _
      refine S0 ?_
      refine V0 rfl rfl rfl (Q7 (by' := 40) 2 rfl E2 Tryz.type142 rfl rfl rfl rfl rfl rfl (A0 rfl) (A0 rfl) rfl (by simp only [C1, List.nil_append, K4, B1, List.length_drop, B5, B0, hrl]; omega)) (fun a _ => (by first | exact E9 rfl | exact E9 (List.append_assoc _ _ _) | exact H5)) ?_
      intro v96_9 _
      refine S6 ?_
      refine C2 rfl rfl rfl rfl rfl ?_
      refine A4 ?_
      refine H9 (by first | (simp only [List.singleton_append, pick, L5, L1, L2, K9, L3, List.nil_append, L6, L7, List.append_nil, L0, List.take_zero, L4, List.drop_zero]; exact rfl) | exact rfl) ?_
      refine AWP.le (H7 [0, 0, 0, 0] rfl) ?_
      refine AWP.le (m8 3 (t := nin TCell.ow (putC1 q x t) (fx v91)) ((hto v91).2.2)) ?_
      refine A2 ?_
      refine A1 rfl rfl rfl (H4 rfl (A0 rfl) C6 (by first | omega | (simp only [A5, B1, B5, C1, B0, szR] at *; omega))) ?_
      refine A6 rfl rfl rfl rfl rfl ?_
      refine A4 ?_
      refine Y2 i v q xs (i + 1) (v96_9) (putC1 q x t) (fx v91) ?_ ?_ (Le.trans (H7 [0, 0, 0] rfl) (P1 2 (Eq.trans (by first | exact congrArg (fun z => Own.arr _ _ _ z :: _) (hto v91).2.1 | exact congrArg (fun z => Own.arr _ _ _ z :: _) (by first | (rw [List.nil_append, List.append_assoc]; exact (hto v91).2.1) | (rw [List.append_assoc]; exact (hto v91).2.1))) (List.append_nil _).symm) ⟨rfl, rfl, rfl, rfl, rfl, trivial⟩))
      ·exact ⟨by omega, (hto _).1, i9 hinvo.2.2.1 _ _, by have h8 := l7 q x t; have h9 := e8 (f := TWrite.size) hx; omega, w3 hinvo.2.2.2.2 hx hnt⟩
      ·omega
    ·refine V0 rfl rfl rfl (g6 2 (fun _ => rfl) (AD6 2 <| AC6 rfl I7 O0 Tryz.zeroValue197 rfl rfl rfl rfl (E8 (A0 rfl) (D8 _) I5) rfl rfl)) (fun a _ => (by first | exact E9 rfl | exact E9 (List.append_assoc _ _ _) | exact H5)) ?_
     intro v91 hone_v91
     have one_v91 := hone_v91.2
     refine G6 rfl rfl rfl (fun ext => N2 (places := #[(0, 1), (1, 1)]) rfl G9 Tryz.zeroValue142 (fun w => by kernel_rfl) rfl (E8 (A0 rfl) (Q9 _) (E8 (A0 rfl) (S4 one_v91) I5)) rfl) ?_
     refine G6 rfl rfl rfl (fun ext => O1 rfl E2 F7 Tryz.zeroValue142 rfl rfl rfl rfl (E8 (A0 rfl) (D8 _) I5) rfl rfl) ?_
     refine S0 ?_
     refine V0 rfl rfl rfl (AD6 3 <| c9 rfl E2 F7) (fun a _ => (by first | exact E9 rfl | exact E9 (List.append_assoc _ _ _) | exact H5)) ?_
     intro v83 _
     refine S0 ?_
     refine V0 rfl rfl rfl (Q7 (by' := 40) 3 rfl E2 Tryz.type142 rfl rfl rfl rfl rfl rfl (A0 rfl) (A0 rfl) rfl (by simp only [C1, List.nil_append, K4, B1, List.length_drop, B5, B0, hrl]; omega)) (fun a _ => (by first | exact E9 rfl | exact E9 (List.append_assoc _ _ _) | exact H5)) ?_
     intro v87_10 _
     refine S0 ?_
     refine V0 rfl rfl rfl (Q7 (by' := 40) 3 rfl E2 Tryz.type142 rfl rfl rfl rfl rfl rfl (A0 rfl) (A0 rfl) rfl (by simp only [C1, List.nil_append, K4, B1, List.length_drop, B5, B0, hrl]; omega)) (fun a _ => (by first | exact E9 rfl | exact E9 (List.append_assoc _ _ _) | exact H5)) ?_
     intro v94_11 _
     refine S0 ?_
     refine V0 rfl rfl rfl (Q7 (by' := 40) 3 rfl E2 Tryz.type142 rfl rfl rfl rfl rfl rfl (A0 rfl) (A0 rfl) rfl (by simp only [C1, List.nil_append, K4, B1, List.length_drop, B5, B0, hrl]; omega)) (fun a _ => (by first | exact E9 rfl | exact E9 (List.append_assoc _ _ _) | exact H5)) ?_
     intro v96_12 _
     refine S6 ?_
     refine C2 rfl rfl rfl rfl rfl ?_
     refine A4 ?_
     refine H9 (by first | (simp only [List.singleton_append, pick, L5, L1, L2, K9, L3, List.nil_append, L6, L7, List.append_nil, L0, List.take_zero, L4, List.drop_zero]; exact rfl) | exact rfl) ?_
     refine AWP.le (H7 [0, 0, 1, 0] rfl) ?_
     refine AWP.le (m8 3 (t := nin TCell.ow (putC1 q x t) (fx v91)) ((hto v91).2.2)) ?_
     refine A2 ?_
     refine A1 rfl rfl rfl (H4 rfl (A0 rfl) C6 (by first | omega | (simp only [A5, B1, B5, C1, B0, szR] at *; omega))) ?_
     refine A6 rfl rfl rfl rfl rfl ?_
     refine A4 ?_
     refine Y2 i v q xs (i + 1) (v96_12) (putC1 q x t) (fx v91) ?_ ?_ (Le.trans (H7 [0, 0, 0] rfl) (P1 2 (Eq.trans (by first | exact congrArg (fun z => Own.arr _ _ _ z :: _) (hto v91).2.1 | exact congrArg (fun z => Own.arr _ _ _ z :: _) (by first | (rw [List.nil_append, List.append_assoc]; exact (hto v91).2.1) | (rw [List.append_assoc]; exact (hto v91).2.1))) (List.append_nil _).symm) ⟨rfl, rfl, rfl, rfl, rfl, trivial⟩))
     ·exact ⟨by omega, (hto _).1, i9 hinvo.2.2.1 _ _, by have h8 := l7 q x t; have h9 := e8 (f := TWrite.size) hx; omega, w3 hinvo.2.2.2.2 hx hnt⟩
     ·omega
 ·intro h19
  have k19 := of_decide_eq_false h19; try simp only [A5] at k19
  have hge : w.length ≤ i := by omega
  have hpe := Au1 hinv.2.2.2.2 hge
  have htk := s7 (f := TWrite.size) (l := w) i
  have hso : sizeL TCell.size q ≤ 4194304 := by omega
  have he : putP l w t = (q, l3Good q) := by unfold putP; rw [hpe]
  rw [he]
  refine I4 ?_
  refine A3 (A2 ?_)
  refine A6 rfl rfl rfl rfl rfl ?_
  refine A6 rfl rfl rfl rfl rfl ?_
  refine A1 rfl rfl rfl (X0 rfl Tryz.call201 rfl (AU0 q hso) (H0 _) (P2 (j7 (A0 rfl) (l8 TCell.lcM (by first | exact hlen | exact hlen.trans (o9 _ _).symm) 0 rfl (fun o ho => List.mem_of_mem_drop (i := 1) (show o ∈ nin TCell.ow q xs from by first | exact ho | exact List.mem_append_left _ ho | exact List.mem_append_right _ ho | exact List.mem_append_right _ (List.mem_append_left _ ho) | exact List.mem_append_right _ (List.mem_append_right _ ho))))) V2)) ?_
  refine C2 rfl rfl rfl rfl rfl ?_
  refine C2 rfl rfl rfl rfl rfl ?_
  refine A4 ?_
  refine C8 ?_
  first | exact K0 [0] (v, []) (rfl) rfl (by rfl) (Q3 rfl (by decide) (E4 (D1 rfl (by rfl)) (E4 (D1 rfl (by rfl)) J6))) | exact q7 [0] 0 (nin TCell.ow q xs) [] (v, []) (rfl) rfl (show List.Perm (nin TCell.ow q xs) ((nin TCell.ow q xs) ++ []) from d7) (by rfl) (Q3 rfl (by decide) (E4 (D1 rfl (by rfl)) (E4 (D1 rfl (by rfl)) J6))) | exact q7 [0] 0 (nin TCell.ow q xs) [] (v, xs) (hinv.2.1) rfl (show List.Perm (nin TCell.ow q xs) ((nin TCell.ow q xs) ++ []) from d7) (by rfl) (Q3 rfl (by decide) (E4 (D1 rfl (by rfl)) (E4 (D1 rfl (by rfl)) J6)))
end Go.Proofs.YtnlhbdkcgaeimaaGreat

set_option linter.unusedVariables false
namespace Go.AV
section
variable {P : Program} {G : Nat → Prop} {n : Nat} {own : List Own} {env : List (Nat × AV)} {fn : Func}
theorem AQ4 {sel : List Own} {cs : List AV} {sz : Nat} (j : Nat) (h : cs[j]? = some AV.nils) : LendC sel cs (cs.set j (AV.list sz [])) := ⟨by rw [List.length_set], fun i x y hx hy => by
  by_cases e : j = i
  · subst e
    rw [List.getElem?_set_self (List.getElem?_eq_some_iff.1 h).1] at hy
    rw [h] at hx
    injection hx with hx; injection hy with hy; subst hx; subst hy
    exact lt_nils
  · rw [List.getElem?_set_ne e, hx] at hy
    injection hy with hy; subst hy; exact N0⟩
theorem AW8 {E : EnvF} {q : Operand} {v : Value} {e : TypeId} {sz : Nat} {es : List (List AV)} (i : Nat) (hi : own[i]? = some (.arr v e sz es)) (hq : Ev E q (AV.is v)) : SrcE own E q sz es := fun G w0 R0 R a w hc he => by
  have e1 : a.eval q = _ := hq R a he
  have hok := hc.owned _ (H2 hi)
  have hu := hok.2.1
  refine ⟨hu, ?_⟩
  obtain ⟨_, _, xs0, hown0, _⟩ := hok
  rcases hown0.2 with ⟨h1, h2⟩ | ⟨g, cap, cur0, h1, _⟩
  · subst h1
    have h3 : es = [] := List.eq_nil_of_length_eq_zero h2
    subst h3
    exact ⟨none, 0, [], e1, fun h => absurd rfl h⟩
  · subst h1
    by_cases hne : es = []
    · subst hne; exact ⟨_, cap, [], e1, fun h => absurd rfl h⟩
    · have hsrc := a8 (own := own) (E := E) (q := q) i hi hq
      obtain ⟨_, h7⟩ := hsrc G w0 R0 R a w hc he
      obtain ⟨ad, c, vs, k1, k2, k3⟩ := h7 hne
      exact ⟨_, c, vs, k1, fun _ => ⟨ad, rfl, k2, k3⟩⟩
theorem Ag9 {o : Oper} {ops : Array Oper} {E : EnvF} {α : Type} {ok : α → Prop} {W' : α → List Own} {V : α → AV} {sel rest : α → List Own} {Y : α → AV} (is : List Nat) (hp : ∀ a, pick (W' a) is = (sel a, rest a)) (hl : ∀ a, LendTo (sel a) (V a) (Y a)) (hG : ∀ a b, G b → b ∈ (rest a).filterMap Own.blk)
    (h : OpE P G n own ops o E ok W' V) : OpE P G n own ops o E ok rest Y := fun w0 R0 R a w h1 h2 h3 =>
  Oper.wp_mono2 (fun a' w' ⟨x, v, R', e0, e1, e2, e3, e4⟩ =>
    have hk := k5 e2 (hp x)
    ⟨x, v, lend (sel x) w' R', e0, e1, AL7 hk (hG x), e3.trans (i4 (V7 hk)), hl x G w0 R0 R' w' v (V7 hk) e4⟩) (fun _ _ _ h => h) (h w0 R0 R a w h1 h2 h3)
theorem m2 (i j sz : Nat) {b : Nat} {t : TypeId} {cs : List AV} (hi : own[i]? = some (.box b t cs)) (hj : cs[j]? = some AV.nils) (hG : ∀ b, G b → b ∈ own.filterMap Own.blk) : Le G n ⟨own, env⟩ ⟨own.set i (.box b t (cs.set j (AV.list sz []))), env⟩ :=
  v8 [] i (.box b t (cs.set j (AV.list sz []))) rfl hi ⟨rfl, rfl, AQ4 j hj⟩ hG
theorem U0 {α : Type} {ok : α → Prop} {O : α → List Own} {V : α → AV} (i j sz : Nat) {b : Nat} {t : TypeId} {cs : List AV} (hi : own[i]? = some (.box b t cs)) (hj : cs[j]? = some AV.nils) (hG : ∀ b, G b → b ∈ own.filterMap Own.blk)
    (k : RetOkG P G n fn ⟨own.set i (.box b t (cs.set j (AV.list sz []))), env⟩ ok O V) : RetOkG P G n fn ⟨own, env⟩ ok O V := fun w0 R0 R a w hs => by
  have hle : Le G n ⟨own, env⟩ ⟨own.set i (.box b t (cs.set j (AV.list sz []))), env⟩ := v8 [] i (.box b t (cs.set j (AV.list sz []))) rfl hi ⟨rfl, rfl, AQ4 j hj⟩ hG
  obtain ⟨R1, h1, h2⟩ := hle w0 R0 R a w hs
  obtain ⟨x, v, R2, g0, g1, g2, g3, g4⟩ := k w0 R0 R1 a w h2
  exact ⟨x, v, R2, g0, g1, g2, h1.trans g3, g4⟩
theorem U1 {y : AV} (i j sz : Nat) {b : Nat} {t : TypeId} {cs : List AV} (hi : own[i]? = some (.box b t cs)) (hj : cs[j]? = some AV.nils)
    (k : RetOk P (fun _ => False) n fn ⟨own.set i (.box b t (cs.set j (AV.list sz []))), env⟩ y) : RetOk P (fun _ => False) n fn ⟨own, env⟩ y := fun w0 R0 R a w hs => by
  have hle : Le (fun _ => False) n ⟨own, env⟩ ⟨own.set i (.box b t (cs.set j (AV.list sz []))), env⟩ := v8 [] i (.box b t (cs.set j (AV.list sz []))) rfl hi ⟨rfl, rfl, AQ4 j hj⟩ Ag5
  obtain ⟨R1, h1, h2⟩ := hle w0 R0 R a w hs
  obtain ⟨v, R2, h3, h4, h5, h6⟩ := k w0 R0 R1 a w h2
  exact ⟨v, R2, h3, h4, h1.trans h5, h6⟩
end
end Go.AV

set_option linter.unusedVariables false
set_option linter.unusedSimpArgs false
set_option maxRecDepth 100000
set_option maxHeartbeats 1000000
namespace Go.M
open Go.AV
theorem AQ5 {h : THeld} : ∀ {l : List THeld} {p : Nat}, p ≤ l.length → (∀ i x, i < p → l[i]? = some x → x.Txn ≤ h.Txn) → (∀ x, l[p]? = some x → h.Txn < x.Txn) → insH h l = l.take p ++ h :: l.drop p
  | [], p, hp, _, _ => by simp at hp; subst hp; rfl
  | g :: l, 0, _, _, h2 => by unfold insH; rw [if_pos (h2 g rfl)]; rfl
  | g :: l, p + 1, hp, h1, h2 => by
    unfold insH
    rw [if_neg (by have := h1 0 g (by omega) rfl; omega), AQ5 (by simpa using hp) (fun i x hi hx => h1 (i + 1) x (by omega) (by simpa using hx)) (fun x hx => h2 x (by simpa using hx))]
    rfl
theorem AQ6 {h : TTold} : ∀ {l : List TTold} {p : Nat}, p ≤ l.length → (∀ i x, i < p → l[i]? = some x → x.Txn ≤ h.Txn) → (∀ x, l[p]? = some x → h.Txn < x.Txn) → insT h l = l.take p ++ h :: l.drop p
  | [], p, hp, _, _ => by simp at hp; subst hp; rfl
  | g :: l, 0, _, _, h2 => by unfold insT; rw [if_pos (h2 g rfl)]; rfl
  | g :: l, p + 1, hp, h1, h2 => by
    unfold insT
    rw [if_neg (by have := h1 0 g (by omega) rfl; omega), AQ6 (by simpa using hp) (fun i x hi hx => h1 (i + 1) x (by omega) (by simpa using hx)) (fun x hx => h2 x (by simpa using hx))]
    rfl
theorem Ad1 (l : List THeld) (n : Int) : hPos l n ≤ l.length := Al6 _ _ _ _ _ rfl (Nat.zero_le _) (Nat.le_refl _)
theorem Au2 (l : List TTold) (n : Int) : tPos l n ≤ l.length := Al6 _ _ _ _ _ rfl (Nat.zero_le _) (Nat.le_refl _)
theorem insH_pos {l : List THeld} (hs : l.Pairwise fun a b => a.Txn < b.Txn) {h : THeld} (hn : hHas l h.Txn = false) : insH h l = l.take (hPos l h.Txn) ++ h :: l.drop (hPos l h.Txn) := by
  obtain ⟨h1, h2⟩ := AW7 (f := THeld.Txn) hs h.Txn
  rw [p5 hs] at hn
  refine AQ5 (Ad1 _ _) (fun i x hi hx => by have := h1 i x hi hx; omega) fun x hx => ?_
  have h3 := h2 x hx
  have h4 := f0.1 hn x (H2 hx)
  omega
theorem insT_pos {l : List TTold} (hs : l.Pairwise fun a b => a.Txn < b.Txn) {h : TTold} (hn : tHas l h.Txn = false) : insT h l = l.take (tPos l h.Txn) ++ h :: l.drop (tPos l h.Txn) := by
  obtain ⟨h1, h2⟩ := AW7 (f := TTold.Txn) hs h.Txn
  rw [AJ4 hs] at hn
  refine AQ6 (Au2 _ _) (fun i x hi hx => by have := h1 i x hi hx; omega) fun x hx => ?_
  have h3 := h2 x hx
  have h4 := AL3.1 hn x (H2 hx)
  omega
theorem Ah0 {l : List THeld} {n : Int} (h : hHas l n = true) : ∃ x, l[hPos l n]? = some x ∧ x.Txn = n := by
  unfold hHas bsAt at h
  cases e : l[hPos l n]? with
  | none => rw [e] at h; cases h
  | some x => rw [e] at h; exact ⟨x, rfl, (z7 _ _).1 (by simpa [hCmp] using h)⟩
theorem BA9 {l : List TTold} {n : Int} (h : tHas l n = true) : ∃ x, l[tPos l n]? = some x ∧ x.Txn = n := by
  unfold tHas bsAt at h
  cases e : l[tPos l n]? with
  | none => rw [e] at h; cases h
  | some x => rw [e] at h; exact ⟨x, rfl, (z7 _ _).1 (by simpa [tCmp] using h)⟩
theorem Ao4 {l : List THeld} (hs : l.Pairwise fun a b => a.Txn < b.Txn) {i j : Nat} {x y : THeld} (hx : l[i]? = some x) (hy : l[j]? = some y) (e : x.Txn = y.Txn) : i = j := by
  rcases Nat.lt_trichotomy i j with h | h | h
  · have := AE0 (f := THeld.Txn) hs h hx hy; omega
  · exact h
  · have := AE0 (f := THeld.Txn) hs h hy hx; omega
theorem Ah1 {l : List THeld} (hs : l.Pairwise fun a b => a.Txn < b.Txn) {i : Nat} {x : THeld} (hx : l[i]? = some x) : findH l x.Txn = some x := by
  cases e : findH l x.Txn with
  | none =>
    rw [p3, f0] at e
    exact (e x (H2 hx) rfl).elim
  | some y =>
    obtain ⟨h1, h2⟩ := m1 e
    obtain ⟨j, hj⟩ := List.getElem?_of_mem h1
    have := Ao4 hs hx hj h2.symm
    subst this
    rw [hx] at hj; exact hj.symm
theorem Ao5 {l : List THeld} (hs : l.Pairwise fun a b => a.Txn < b.Txn) {i : Nat} {x : THeld} (hx : l[i]? = some x) : lessH l x.Txn = l.eraseIdx i := by
  have h1 : ∀ (l : List THeld) (i : Nat) (x : THeld), l[i]? = some x → (∀ j y, l[j]? = some y → y.Txn = x.Txn → j = i) → lessH l x.Txn = l.eraseIdx i := by
    intro l
    induction l with
    | nil => intro i x h; simp at h
    | cons g l ih =>
      intro i x h hu
      cases i with
      | zero =>
        simp at h; subst h
        rw [L5]
        unfold lessH
        rw [List.filter_cons_of_neg (by simp), List.filter_eq_self]
        intro y hy
        obtain ⟨j, hj⟩ := List.getElem?_of_mem hy
        simp only [bne_iff_ne, ne_eq]
        intro e
        have := hu (j + 1) y (by simpa using hj) e
        omega
      | succ i =>
        rw [L1, ← ih i x (by simpa using h) fun j y hj e => by have := hu (j + 1) y (by simpa using hj) e; omega]
        unfold lessH
        rw [List.filter_cons_of_pos]
        simp only [bne_iff_ne, ne_eq]
        intro e
        have := hu 0 g rfl e
        omega
  exact h1 l i x hx fun j y hj e => Ao4 hs hj hx e
theorem Ao6 {l : List THeld} {n : Int} (h : hasH l n = false) : lessH l n = l := by
  unfold lessH
  rw [List.filter_eq_self]
  intro y hy
  simpa using f0.1 h y hy
def THeld.ocs (h : THeld) (x : Value × Value) : List AV := [AV.int h.Txn, AV.int h.Time, AV.int h.Lead, AV.is x.1, AV.is x.2]
def TState.ocs (s : TState) (x : Value × Value) : List AV := [AV.int s.Floor, AV.list 2 (s.Cells.map TCell.cs), AV.is x.1, AV.is x.2]
def decR (s : TState) (r : TRec) : TState × Bool :=
  if r.Yes = true then (match findH s.Held r.Txn with
    | none => (zState, false)
    | some h => if r.Time < h.Time then (zState, false) else if (putP s.Cells h.Writes r.Time).2 = true then (doneS s r (if s.Floor < r.Time then r.Time else s.Floor) (putP s.Cells h.Writes r.Time).1, true) else (zState, false))
  else (doneS s r s.Floor s.Cells, true)
def appR (s : TState) (r : TRec) : TState × Bool := if (applyS s r).2 = true then ((applyS s r).1, true) else (zState, false)
theorem appR_dec {s : TState} {r : TRec} (h4 : r.Kind ≠ 4) (hT : hasT s.Told r.Txn = false) (h1 : r.Kind ≠ 1) : appR s r = decR s r := by
  unfold appR decR applyS
  rw [if_neg h4, if_neg (show ¬ hasT s.Told r.Txn = true by rw [hT]; decide), if_neg h1]
  by_cases hy : r.Yes = true
  · rw [if_pos hy, if_pos hy]
    cases findH s.Held r.Txn with
    | none => rfl
    | some h =>
      dsimp only
      split
      · rfl
      · split
        · rfl
        · rfl
  · rw [if_neg hy, if_neg hy]; rfl
end Go.M
namespace Go.Proofs.YtnlhbdkcgaeimaaGreat
open Go Go.AV Go.M
def THeld.ow (h : THeld) (x : Value × Value) : List Own := [.arr x.1 9 1 (h.Reads.map fun k => [AV.str k]), .arr x.2 77 3 (h.Writes.map TWrite.cs)]
def TState.ow (s : TState) (x : Value × Value) : List Own := [.arr x.1 45 5 (s.Held.map THeld.cs), .arr x.2 39 3 (s.Told.map TTold.cs)]
theorem THeld.lc (h : THeld) (x : Value × Value) : LendC (THeld.ow h x) (THeld.ocs h x) h.cs :=
  H6 N0 (H6 N0 (H6 N0 (H6 (P0 (H2 (i := 0) rfl) K5) (H6 (P0 (H2 (i := 1) rfl) K5) U4))))
theorem TState.lc (s : TState) (x : Value × Value) : LendC (TState.ow s x) (TState.ocs s x) s.cs :=
  H6 N0 (H6 N0 (H6 (P0 (H2 (i := 0) rfl) K5) (H6 (P0 (H2 (i := 1) rfl) K5) U4)))
attribute [local irreducible] OpW OpA OpS AWP FSpec ESpec GSpec OpE RetOk RetOkG RvDen Le Ev GuardIs SrcIs Int.tmod Int.tdiv IntKind.wrap
theorem Ax0 (h k : THeld) (h1 : h.Writes.length ≤ 4611686018427387903) (ha : adj wLess h.Writes = true) (hk : adj wLess k.Writes = true ∧ k.Writes.length ≤ 4611686018427387903) : FSpec Tryz.prog 220 [AV.agg k.cs, AV.eptr h.cs] (AV.bool (clash h k)) := by
 obtain ⟨ka, k1⟩ := hk
 refine F3 Tryz.func220 rfl Tryz.ntmps220 rfl ?_
 refine A3 (A2 ?_)
 refine M7 rfl rfl rfl rfl (A0 rfl) ?_
 intro b2
 refine A1 rfl rfl rfl (C3 rfl F5) ?_
 refine A4 (A3 (A2 ?_))
 refine A1 rfl rfl rfl (K7 rfl (A0 rfl) I0 D4) ?_
 refine A1 rfl rfl rfl (D9 0 rfl (A0 rfl) rfl I0 D4 rfl) ?_
 refine A1 rfl rfl rfl (F1 rfl Tryz.call185 rfl (AZ7 _ _ (by first | assumption | omega) (by first | assumption | omega) (by assumption) (by assumption)) (A7 (A0 rfl) (A7 (A0 rfl) D2))) ?_
 refine C2 rfl rfl rfl rfl rfl ?_
 refine A4 ?_
 refine C8 ?_
 exact I2 rfl (D1 rfl (by first | rfl | (refine congrArg AV.bool ?_; simp_all; done)))
theorem Aa1 (l : List TCell) (hs : sizeL TCell.size l ≤ 4194304) : FSpec Tryz.prog 253 [AV.list 2 (l.map TCell.cs)] (AV.list 2 (l.map TCell.cs)) :=
  T6 (AN0 l hs) fun x h => l8 TCell.lcM h 0 rfl fun o ho => List.mem_cons_of_mem _ ho
theorem Ad2 (l : List TCell) (w : List TWrite) (t : Int) (ho : CellsOk l) (hs : sizeL TCell.size l ≤ 1048576) (hw : sizeL TWrite.size w ≤ 1048576) : FSpec Tryz.prog 255 [AV.list 2 (l.map TCell.cs), AV.list 3 (w.map TWrite.cs), AV.int t] (AV.tup [AV.list 2 ((putCells l w t).1.map TCell.cs), AV.bool (putCells l w t).2]) :=
  T6 (Ao3 l w t ho hs hw) fun x h => AI3 (H6 (l8 TCell.lcM h 0 rfl fun o ho => List.mem_cons_of_mem _ ho) (H6 N0 U4))
theorem Ax1 (r : TRec) (hs : r.size ≤ 1048576) : GSpec Tryz.prog 195 [AV.agg r.cs] [] (fun _ : Value × Value => True) (fun x => THeld.ow (hOf r) x) (fun x => AV.agg (THeld.ocs (hOf r) x)) := by
 obtain ⟨hr1, hr2, hr3, hr4⟩ := AQ2 hs
 refine J3 Tryz.func195 rfl Tryz.ntmps195 rfl ?_
 refine A3 (A2 ?_)
 refine M7 rfl rfl rfl rfl (A0 rfl) ?_
 intro b1
 refine F4 rfl rfl rfl rfl Tryz.zeroValue45 rfl ?_
 intro b2
 refine A4 (A3 ?_)
 refine P5 _ [(0, false), (1, false), (2, false), (3, false), (4, false), (5, false), (6, false), (7, false), (9, false), (10, false), (8, true), (11, true)] (by kernel_rfl) (by kernel_rfl) rfl k6 ?_
 refine F2 rfl rfl rfl (fun ext => B3 1 rfl B6 rfl C0 (A0 rfl) rfl) ?_
 refine F2 rfl rfl rfl (fun ext => B2 1 rfl (A0 rfl) rfl C5 rfl) ?_
 refine F2 rfl rfl rfl (fun ext => B3 2 rfl B6 rfl C0 (A0 rfl) rfl) ?_
 refine F2 rfl rfl rfl (fun ext => B2 1 rfl (A0 rfl) rfl C5 rfl) ?_
 refine F2 rfl rfl rfl (fun ext => B3 3 rfl B6 rfl C0 (A0 rfl) rfl) ?_
 refine F2 rfl rfl rfl (fun ext => B2 1 rfl (A0 rfl) rfl C5 rfl) ?_
 refine F2 rfl rfl rfl (fun ext => B3 4 rfl B6 rfl L8 (A0 rfl) rfl) ?_
 refine F2 rfl rfl rfl (fun ext => B2 1 rfl (A0 rfl) rfl O4 rfl) ?_
 refine F2 rfl rfl rfl (fun ext => B3 5 rfl B6 rfl K6 (A0 rfl) rfl) ?_
 refine F2 rfl rfl rfl (fun ext => B2 1 rfl (A0 rfl) rfl M5 rfl) ?_
 refine T1 rfl rfl rfl (V8 [] rfl Tryz.call236 rfl (AW5 _ (by first | assumption | omega)) (A7 (A0 rfl) D2) rfl) (fun a _ => (by first | exact E9 rfl | exact E9 (List.append_assoc _ _ _) | exact H5)) ?_
 intro x11 ok11
 refine T1 rfl rfl rfl (V8 [] rfl Tryz.call252 rfl (AZ0 _ (by first | assumption | omega)) (A7 (A0 rfl) D2) rfl) (fun a _ => (by first | exact E9 rfl | exact E9 (List.append_assoc _ _ _) | exact H5)) ?_
 intro x14 ok14
 refine X1 ?_
 refine R9 2 rfl fun one_x11 => ?_
 refine R9 3 rfl fun one_x14 => ?_
 refine A1 rfl rfl rfl (N2 (places := #[(0, 1), (1, 1), (2, 1), (3, 1), (4, 1)]) rfl E7 Tryz.zeroValue45 (fun w => by kernel_rfl) rfl (E8 (A0 rfl) (L9 _ _) (E8 (A0 rfl) (L9 _ _) (E8 (A0 rfl) (L9 _ _) (E8 (A0 rfl) (S4 one_x11) (E8 (A0 rfl) (S4 one_x14) I5))))) rfl) ?_
 refine D3 0 rfl rfl rfl (A0 rfl) (A0 rfl) (D8 _) rfl D4 rfl ?_
 refine A4 ?_
 refine C8 ?_
 exact K0 [2, 2] (x11, x14) (trivial) rfl (by rfl) (P3 rfl (G3 (ys := _) 0 rfl rfl I0 D4 rfl))
theorem AU4 (r : TRec) (hs : r.size ≤ 1048576) : FSpec Tryz.prog 195 [AV.agg r.cs] (AV.agg (hOf r).cs) :=
  T6 (Ax1 r hs) fun x _ => X8 (THeld.lc _ x)
theorem AB5 (h : THeld) (hs : h.size ≤ 1048576) : FSpec Tryz.prog 98 [AV.agg h.cs] (AV.agg h.cs) := by
 refine F3 Tryz.func98 rfl Tryz.ntmps98 rfl ?_
 refine A3 (A2 ?_)
 refine M7 rfl rfl rfl rfl (A0 rfl) ?_
 intro b1
 refine F4 rfl rfl rfl rfl Tryz.zeroValue45 rfl ?_
 intro b2
 refine A4 (A3 (A2 ?_))
 refine A1 rfl rfl rfl (D9 1 rfl (A0 rfl) rfl I0 D4 rfl) ?_
 refine A1 rfl rfl rfl (F1 rfl Tryz.call182 rfl (AL9 _) (A7 (A0 rfl) D2)) ?_
 refine A1 rfl rfl rfl (F1 rfl Tryz.call195 rfl (AU4 (hRec h) hs) (A7 (A0 rfl) D2)) ?_
 refine D3 0 rfl rfl rfl (A0 rfl) (A0 rfl) (D8 _) rfl D4 rfl ?_
 refine A4 ?_
 refine C8 ?_
 exact I2 rfl (G3 (ys := _) 0 rfl rfl I0 D4 rfl)
theorem AB6 (s : TState) (hs : s.size ≤ 1048576) : GSpec Tryz.prog 198 [AV.agg s.cs] [] (fun _ : Value × Value => True) (fun x => TState.ow s x) (fun x => AV.agg (TState.ocs s x)) := by
 obtain ⟨hs1, hs2, hs3, hs4, hs5⟩ := R8 hs
 refine J3 Tryz.func198 rfl Tryz.ntmps198 rfl ?_
 refine A3 (A2 ?_)
 refine M7 rfl rfl rfl rfl (A0 rfl) ?_
 intro b1
 refine F4 rfl rfl rfl rfl Tryz.zeroValue30 rfl ?_
 intro b2
 refine A4 (A3 ?_)
 refine M4 _ 10 (.pure 0 (.pure 1 (.pure 2 (.pure 3 (.pure 4 (.pure 5 (.pure 6 (.e2 7 (.pure 8 (.e1 9 .nil)) 9 (.e1 7 (.pure 8 .nil)))))))))) (by kernel_rfl) (by kernel_rfl) rfl k6 ?_
 refine G6 rfl rfl rfl (fun ext => B3 0 rfl B8 rfl C0 (A0 rfl) rfl) ?_
 refine G6 rfl rfl rfl (fun ext => B2 1 rfl (A0 rfl) rfl C5 rfl) ?_
 refine G6 rfl rfl rfl (fun ext => B3 1 rfl B8 rfl O6 (A0 rfl) rfl) ?_
 refine G6 rfl rfl rfl (fun ext => B2 1 rfl (A0 rfl) rfl Q5 rfl) ?_
 refine G6 rfl rfl rfl (fun ext => F1 rfl Tryz.call253 rfl (Aa1 s.Cells (by omega)) (A7 (A0 rfl) D2)) ?_
 refine G6 rfl rfl rfl (fun ext => B3 3 rfl B8 rfl J1 (A0 rfl) rfl) ?_
 refine G6 rfl rfl rfl (fun ext => B2 1 rfl (A0 rfl) rfl N5 rfl) ?_
 refine AK9 ?_ ?_
 ·refine V0 rfl rfl rfl (g6 2 (fun _ => rfl) (V8 [] rfl Tryz.call254 rfl (AJ0 _ (by first | assumption | omega)) (A7 (A0 rfl) D2) rfl)) (fun a _ => (by first | exact E9 rfl | exact E9 (List.append_assoc _ _ _) | exact H5)) ?_
  intro x13 ok13
  have one_x13 := ok13.2
  replace ok13 := ok13.1
  refine G6 rfl rfl rfl (fun ext => N2 (places := #[(0, 1), (1, 1), (2, 1), (3, 1)]) rfl B8 Tryz.zeroValue30 (fun w => by kernel_rfl) rfl (E8 (A0 rfl) (L9 _ _) (E8 (A0 rfl) (T4 _ _) (E8 (A0 rfl) (S4 one_x13) I5))) rfl) ?_
  refine S0 ?_
  refine V0 rfl rfl rfl (l0 rfl Tryz.zeroValue30 rfl) (fun a _ => (by first | exact E9 rfl | exact E9 (List.append_assoc _ _ _) | exact H5)) ?_
  intro b3 _
  refine S6 ?_
  refine D3 3 rfl rfl rfl (A0 rfl) (A0 rfl) (D8 _) rfl A8 rfl ?_
  refine A4 (A3 (A3 (A2 ?_)))
  refine A1 rfl rfl rfl (B3 2 rfl B8 rfl F0 (A0 rfl) rfl) ?_
  refine A1 rfl rfl rfl (B2 1 rfl (A0 rfl) rfl H1 rfl) ?_
  refine A1 rfl rfl rfl (G4 rfl C9 (A0 rfl)) ?_
  refine A1 rfl rfl rfl (C7 rfl C6) ?_
  refine A4 (E1 ?_)
  refine Y7 45 5 ?_
  refine AWP.le (H7 [4, 0] rfl) ?_
  refine T8 [(2, _), (3, _), (16, _), (17, _)] _ (fun (i : Nat) (v : Value) => i ≤ s.Held.length) (fun (i : Nat) (v : Value) => [.box b3 30 [AV.int s.Floor, AV.list 2 (s.Cells.map TCell.cs), AV.is v, AV.is x13], .arr v 45 5 ((s.Held.take i).map THeld.cs)]) (fun (i : Nat) (v : Value) => [(18, AV.int i)]) (fun (i : Nat) (v : Value) => s.Held.length - i) (0) ((Value.slice none 0 0)) ?_ (U7 (by rfl) ⟨rfl, rfl, rfl, rfl, rfl, trivial⟩) ?_
  ·exact Nat.zero_le _
  intro i v hinv
  refine A3 (A2 ?_)
  refine A1 rfl rfl rfl (M2 rfl (A0 rfl) (A0 rfl)) ?_
  refine A4 (A3 ?_)
  refine D0 (A0 rfl) ?_ ?_
  ·intro h19
   have k19 := of_decide_eq_true h19; try simp only [A5] at k19
   have hlt : i < s.Held.length := by omega
   obtain ⟨h, hx⟩ := get_some hlt
   obtain ⟨g1, g2, g3, g4, g5⟩ := U8 hs2 hx
   refine D5 (A3 (E1 (A3 (A2 ?_))))
   refine A1 rfl rfl rfl (J4 rfl C9 D4 (A0 rfl) (A0 rfl) hx (by first | omega | (simp only [A5, B1, B5, C1, B0, szR] at *; omega))) ?_
   refine A1 rfl rfl rfl (K7 rfl (A0 rfl) I0 D4) ?_
   refine F4 rfl rfl rfl rfl Tryz.zeroValue45 rfl ?_
   intro b5
   refine D3 0 rfl rfl rfl (A0 rfl) (A0 rfl) (D8 _) rfl D4 rfl ?_
   refine A4 ?_
   refine Q6 5 (by kernel_rfl) (by kernel_rfl) rfl ?_
   refine B4 rfl rfl (B3 2 rfl B8 rfl F0 (A0 rfl) rfl) ?_
   refine B4 rfl rfl (B2 1 rfl (A0 rfl) rfl H1 rfl) ?_
   refine B4 rfl rfl (D9 0 rfl (A0 rfl) rfl I0 D4 rfl) ?_
   refine B4 rfl rfl (F1 rfl Tryz.call98 rfl (AB5 _ (by first | assumption | omega)) (A7 (A0 rfl) D2)) ?_
   refine B4 rfl rfl (O1 rfl C9 D4 Tryz.zeroValue45 rfl rfl rfl rfl (E8 (A0 rfl) (D8 _) I5) rfl rfl) ?_
   refine O5 ?_
   refine N6 (by' := 72) 2 rfl rfl rfl rfl C9 Tryz.type45 rfl rfl rfl rfl rfl rfl (A0 rfl) (A0 rfl) rfl (by simp only [A5, B1, B0]; omega) ?_
   intro v27_1
   refine A1 rfl rfl rfl (B3 2 rfl B8 rfl F0 (A0 rfl) rfl) ?_
   refine R9 2 rfl fun one_v27_1 => ?_
   refine I3 1 rfl rfl rfl (A0 rfl) (A0 rfl) (S4 one_v27_1) rfl F0 rfl ?_
   refine A4 (A2 ?_)
   refine A1 rfl rfl rfl (H4 rfl (A0 rfl) C6 (by first | omega | (simp only [A5, B1, B5, C1, B0, szR] at *; omega))) ?_
   refine A6 rfl rfl rfl rfl rfl ?_
   refine A4 ?_
   refine S3 i v (i + 1) (v27_1) ?_ ?_ (Le.trans (H7 [0, 0, 0] rfl) (P1 1 (by exact congrArg (fun z => Own.box b3 30 [AV.int s.Floor, AV.list 2 (s.Cells.map TCell.cs), AV.is v27_1, AV.is x13] :: Own.arr v27_1 45 5 z :: _) (W5 (f := THeld.cs) hx)) ⟨rfl, rfl, rfl, rfl, rfl, trivial⟩))
   ·omega
   ·omega
  ·intro h19
   have k19 := of_decide_eq_false h19; try simp only [A5] at k19
   have hge : i = s.Held.length := by omega
   rw [hge, List.take_length]
   refine I4 ?_
   refine A3 (A2 ?_)
   refine A1 rfl rfl rfl (D9 0 rfl (A0 rfl) rfl C4 A8 rfl) ?_
   refine D3 2 rfl rfl rfl (A0 rfl) (A0 rfl) (D8 _) rfl A8 rfl ?_
   refine A4 ?_
   refine C8 ?_
   exact K0 [1, 3] (v, x13) (trivial) rfl (by rfl) (P3 rfl (G3 (ys := _) 2 rfl rfl C4 A8 rfl))
 ·refine V0 rfl rfl rfl (l0 rfl Tryz.zeroValue30 rfl) (fun a _ => (by first | exact E9 rfl | exact E9 (List.append_assoc _ _ _) | exact H5)) ?_
  intro b3 _
  refine S0 ?_
  refine V0 rfl rfl rfl (g6 3 (fun _ => rfl) (V8 [] rfl Tryz.call254 rfl (AJ0 _ (by first | assumption | omega)) (A7 (A0 rfl) D2) rfl)) (fun a _ => (by first | exact E9 rfl | exact E9 (List.append_assoc _ _ _) | exact H5)) ?_
  intro x13 ok13
  have one_x13 := ok13.2
  replace ok13 := ok13.1
  refine G6 rfl rfl rfl (fun ext => N2 (places := #[(0, 1), (1, 1), (2, 1), (3, 1)]) rfl B8 Tryz.zeroValue30 (fun w => by kernel_rfl) rfl (E8 (A0 rfl) (L9 _ _) (E8 (A0 rfl) (T4 _ _) (E8 (A0 rfl) (S4 one_x13) I5))) rfl) ?_
  refine S6 ?_
  refine D3 2 rfl rfl rfl (A0 rfl) (A0 rfl) (D8 _) rfl A8 rfl ?_
  refine A4 (A3 (A3 (A2 ?_)))
  refine A1 rfl rfl rfl (B3 2 rfl B8 rfl F0 (A0 rfl) rfl) ?_
  refine A1 rfl rfl rfl (B2 1 rfl (A0 rfl) rfl H1 rfl) ?_
  refine A1 rfl rfl rfl (G4 rfl C9 (A0 rfl)) ?_
  refine A1 rfl rfl rfl (C7 rfl C6) ?_
  refine A4 (E1 ?_)
  refine Y7 45 5 ?_
  refine AWP.le (H7 [3, 0] rfl) ?_
  refine T8 [(2, _), (3, _), (16, _), (17, _)] _ (fun (i : Nat) (v : Value) => i ≤ s.Held.length) (fun (i : Nat) (v : Value) => [.box b3 30 [AV.int s.Floor, AV.list 2 (s.Cells.map TCell.cs), AV.is v, AV.is x13], .arr v 45 5 ((s.Held.take i).map THeld.cs)]) (fun (i : Nat) (v : Value) => [(18, AV.int i)]) (fun (i : Nat) (v : Value) => s.Held.length - i) (0) ((Value.slice none 0 0)) ?_ (U7 (by rfl) ⟨rfl, rfl, rfl, rfl, rfl, trivial⟩) ?_
  ·exact Nat.zero_le _
  intro i v hinv
  refine A3 (A2 ?_)
  refine A1 rfl rfl rfl (M2 rfl (A0 rfl) (A0 rfl)) ?_
  refine A4 (A3 ?_)
  refine D0 (A0 rfl) ?_ ?_
  ·intro h19
   have k19 := of_decide_eq_true h19; try simp only [A5] at k19
   have hlt : i < s.Held.length := by omega
   obtain ⟨h, hx⟩ := get_some hlt
   obtain ⟨g1, g2, g3, g4, g5⟩ := U8 hs2 hx
   refine D5 (A3 (E1 (A3 (A2 ?_))))
   refine A1 rfl rfl rfl (J4 rfl C9 D4 (A0 rfl) (A0 rfl) hx (by first | omega | (simp only [A5, B1, B5, C1, B0, szR] at *; omega))) ?_
   refine A1 rfl rfl rfl (K7 rfl (A0 rfl) I0 D4) ?_
   refine F4 rfl rfl rfl rfl Tryz.zeroValue45 rfl ?_
   intro b5
   refine D3 0 rfl rfl rfl (A0 rfl) (A0 rfl) (D8 _) rfl D4 rfl ?_
   refine A4 ?_
   refine Q6 5 (by kernel_rfl) (by kernel_rfl) rfl ?_
   refine B4 rfl rfl (B3 2 rfl B8 rfl F0 (A0 rfl) rfl) ?_
   refine B4 rfl rfl (B2 1 rfl (A0 rfl) rfl H1 rfl) ?_
   refine B4 rfl rfl (D9 0 rfl (A0 rfl) rfl I0 D4 rfl) ?_
   refine B4 rfl rfl (F1 rfl Tryz.call98 rfl (AB5 _ (by first | assumption | omega)) (A7 (A0 rfl) D2)) ?_
   refine B4 rfl rfl (O1 rfl C9 D4 Tryz.zeroValue45 rfl rfl rfl rfl (E8 (A0 rfl) (D8 _) I5) rfl rfl) ?_
   refine O5 ?_
   refine N6 (by' := 72) 2 rfl rfl rfl rfl C9 Tryz.type45 rfl rfl rfl rfl rfl rfl (A0 rfl) (A0 rfl) rfl (by simp only [A5, B1, B0]; omega) ?_
   intro v27_2
   refine A1 rfl rfl rfl (B3 2 rfl B8 rfl F0 (A0 rfl) rfl) ?_
   refine R9 2 rfl fun one_v27_2 => ?_
   refine I3 1 rfl rfl rfl (A0 rfl) (A0 rfl) (S4 one_v27_2) rfl F0 rfl ?_
   refine A4 (A2 ?_)
   refine A1 rfl rfl rfl (H4 rfl (A0 rfl) C6 (by first | omega | (simp only [A5, B1, B5, C1, B0, szR] at *; omega))) ?_
   refine A6 rfl rfl rfl rfl rfl ?_
   refine A4 ?_
   refine S3 i v (i + 1) (v27_2) ?_ ?_ (Le.trans (H7 [0, 0, 0] rfl) (P1 1 (by exact congrArg (fun z => Own.box b3 30 [AV.int s.Floor, AV.list 2 (s.Cells.map TCell.cs), AV.is v27_2, AV.is x13] :: Own.arr v27_2 45 5 z :: _) (W5 (f := THeld.cs) hx)) ⟨rfl, rfl, rfl, rfl, rfl, trivial⟩))
   ·omega
   ·omega
  ·intro h19
   have k19 := of_decide_eq_false h19; try simp only [A5] at k19
   have hge : i = s.Held.length := by omega
   rw [hge, List.take_length]
   refine I4 ?_
   refine A3 (A2 ?_)
   refine A1 rfl rfl rfl (D9 0 rfl (A0 rfl) rfl C4 A8 rfl) ?_
   refine D3 2 rfl rfl rfl (A0 rfl) (A0 rfl) (D8 _) rfl A8 rfl ?_
   refine A4 ?_
   refine C8 ?_
   exact K0 [1, 3] (v, x13) (trivial) rfl (by rfl) (P3 rfl (G3 (ys := _) 2 rfl rfl C4 A8 rfl))
theorem Ax2 (l : List TCell) (w : List TWrite) (t : Int) : (putCells l w t).2 = (putP l w t).2 ∧ ((putP l w t).2 = true → (putCells l w t).1 = (putP l w t).1) := by
  rw [Aq3]
  cases h : (putP l w t).2 <;> simp
theorem Ar5 (s : TState) (r : TRec) (hg : goodCells s.Cells = true) (hsr : s.Held.Pairwise fun a b => a.Txn < b.Txn) (htr : s.Told.Pairwise fun a b => a.Txn < b.Txn) (hT : hasT s.Told r.Txn = false) (hs : s.size ≤ 1048576) : GSpec Tryz.prog 199 [AV.agg s.cs, AV.agg r.cs] [] (fun _ : Value × Value => True) (fun x => TState.ow (decR s r).1 x) (fun x => AV.tup [AV.agg (TState.ocs (decR s r).1 x), AV.bool (decR s r).2]) := by
 obtain ⟨hs1, hs2, hs3, hs4, hs5⟩ := R8 hs
 have hco := X2 hg
 have hins : insT ⟨r.Txn, r.Yes, r.Time⟩ s.Told = s.Told.take (tPos s.Told r.Txn) ++ ⟨r.Txn, r.Yes, r.Time⟩ :: s.Told.drop (tPos s.Told r.Txn) := insT_pos htr (by rw [AJ4 htr]; exact hT)
 obtain ⟨h, hh0⟩ : ∃ h, hHas s.Held r.Txn = true → s.Held[hPos s.Held r.Txn]? = some h ∧ h.Txn = r.Txn := by
  cases e : hHas s.Held r.Txn with
  | true => obtain ⟨x, h1, h2⟩ := Ah0 e; exact ⟨x, fun _ => ⟨h1, h2⟩⟩
  | false => exact ⟨⟨0, 0, 0, [], []⟩, fun h => by cases h⟩
 have hfd : hHas s.Held r.Txn = true → findH s.Held r.Txn = some h := fun e => by obtain ⟨h1, h2⟩ := hh0 e; have := Ah1 hsr h1; rw [h2] at this; exact this
 have hfn : hHas s.Held r.Txn = false → findH s.Held r.Txn = none := fun e => by rw [p5 hsr] at e; exact p3.2 e
 have hrow : hHas s.Held r.Txn = true → (s.Held.map THeld.cs)[((hPos s.Held r.Txn : Nat) : Int).toNat]? = some h.cs := fun e => by rw [Int.toNat_natCast, List.getElem?_map, (hh0 e).1]; rfl
 have hplt : hHas s.Held r.Txn = true → hPos s.Held r.Txn < s.Held.length := fun e => (List.getElem?_eq_some_iff.1 (hh0 e).1).1
 have hple := Ad1 s.Held r.Txn
 have htle := Au2 s.Told r.Txn
 refine J3 Tryz.func199 rfl Tryz.ntmps199 rfl ?_
 refine A3 (A2 ?_)
 refine M7 rfl rfl rfl rfl (A0 rfl) ?_
 intro b2
 refine M7 rfl rfl rfl rfl (A0 rfl) ?_
 intro b3
 refine F4 rfl rfl rfl rfl Tryz.zeroValue30 rfl ?_
 intro b4
 refine A1 rfl rfl rfl (C3 rfl F5) ?_
 refine A4 (A3 (A2 ?_))
 refine A1 rfl rfl rfl (D9 2 rfl (A0 rfl) rfl C4 A8 rfl) ?_
 refine I8 [] rfl rfl rfl rfl Tryz.call198 rfl (AB6 s hs) (A7 (A0 rfl) D2) rfl ?_
 intro x14 ok14
 refine F4 rfl rfl rfl rfl Tryz.zeroValue30 rfl ?_
 intro b6
 refine D3 0 rfl rfl rfl (A0 rfl) (A0 rfl) (D8 _) rfl A8 rfl ?_
 refine A4 (A3 ?_)
 refine H9 (by first | (simp only [TState.ow, TState.ocs, pick, L5, L1, L2, K9, L3, List.nil_append, L6, L7, List.append_nil, L0, List.take_zero, L4, List.drop_zero]; exact rfl) | exact rfl) ?_
 refine A2 ?_
 refine A1 rfl rfl rfl (D9 0 rfl (A0 rfl) rfl C4 A8 rfl) ?_
 refine A1 rfl rfl rfl (B3 1 rfl B6 rfl C0 (A0 rfl) rfl) ?_
 refine A1 rfl rfl rfl (B2 4 rfl (A0 rfl) rfl C5 rfl) ?_
 refine A1 rfl rfl rfl (X0 rfl Tryz.call96 rfl (q8 s r.Txn hs5) (a6 (E3 (G7 _ _) (E3 (H0 _) G8))) (P2 (j7 (A0 rfl) (X8 (H6 N0 (H6 N0 (H6 (P0 (H2 (i := 1) rfl) K5) (H6 (P0 (H2 (i := 2) rfl) K5) U4)))))) (P2 (evb (A0 rfl)) V2))) ?_
 refine A6 rfl rfl rfl rfl rfl ?_
 refine A1 rfl rfl rfl (F6 rfl (A0 rfl) rfl) ?_
 refine A1 rfl rfl rfl (F6 rfl (A0 rfl) rfl) ?_
 refine C2 rfl rfl rfl rfl rfl ?_
 refine C2 rfl rfl rfl rfl rfl ?_
 refine A4 (A3 (A3 (A2 ?_)))
 refine A1 rfl rfl rfl (B3 6 rfl B6 rfl J7 (A0 rfl) rfl) ?_
 refine A1 rfl rfl rfl (B2 4 rfl (A0 rfl) rfl K3 rfl) ?_
 refine A4 ?_
 refine D0 (A0 rfl) ?_ ?_
 ·intro h23
  refine A3 (A3 ?_)
  refine J5 (by kernel_rfl) (by kernel_rfl) rfl ?_
  refine B4 rfl rfl (C7 rfl (A0 rfl)) ?_
  refine B4 rfl rfl (N1 rfl (A0 rfl)) ?_
  refine B4 rfl rfl (C7 rfl (A0 rfl)) ?_
  refine D7 rfl (D6 rfl rfl rfl) (fun hc => B3 2 rfl B8 rfl F0 (A0 rfl) rfl) ?_
  refine D7 rfl (D6 rfl rfl rfl) (fun hc => B2 0 rfl (A9 rfl hc) rfl H1 rfl) ?_
  refine D7 rfl (D6 rfl rfl rfl) (fun hc => C7 rfl (A0 rfl)) ?_
  refine D7 rfl (D6 rfl rfl rfl) (fun hc => U3 1 rfl C9 D4 (A9 rfl hc) rfl (A9 rfl hc) (by omega) (by have := hplt (by simpa using hc); simp only [A5]; omega)) ?_
  refine D7 rfl (D6 rfl rfl rfl) (fun hc => c8 1 rfl E7 rfl C0 (A9 rfl hc) rfl rfl (hrow (by simpa using hc))) ?_
  refine D7 rfl (D6 rfl rfl rfl) (fun hc => i6 1 rfl (A9 rfl hc) rfl C5 (hrow (by simpa using hc)) rfl) ?_
  refine D7 rfl (D6 rfl rfl rfl) (fun hc => B3 2 rfl B6 rfl C0 (A0 rfl) rfl) ?_
  refine D7 rfl (D6 rfl rfl rfl) (fun hc => B2 4 rfl (A9 rfl hc) rfl C5 rfl) ?_
  refine D7 rfl (D6 rfl rfl rfl) (fun hc => P4 rfl (A9 rfl hc) (A9 rfl hc)) ?_
  refine B4 rfl rfl (R4 rfl (A0 rfl) (G2 rfl)) ?_
  refine O5 ?_
  refine D0 (A0 rfl) ?_ ?_
  ·intro h36
   have hdec : decR s r = (zState, false) := by (unfold decR; rw [if_pos h23]; cases e : hHas s.Held r.Txn with | false => (rw [hfn e]) | true => (rw [hfd e]; dsimp only; rw [if_pos (by rw [e] at h36; simpa using h36)]))
   rw [hdec]
   refine A3 (A2 ?_)
   refine A1 rfl rfl rfl (N2 (places := #[(0, 1), (1, 1), (2, 1), (3, 1)]) rfl B8 Tryz.zeroValue30 (fun w => by kernel_rfl) rfl I5 rfl) ?_
   refine D3 3 rfl rfl rfl (A0 rfl) (A0 rfl) (D8 _) rfl A8 rfl ?_
   refine A1 rfl rfl rfl (C3 rfl F5) ?_
   refine A4 ?_
   refine C8 ?_
   refine U0 3 1 2 rfl rfl P6 ?_
   refine U5 45 5 ?_
   refine U5 39 3 ?_
   exact K0 [1, 0] ((Value.slice none 0 0), (Value.slice none 0 0)) (trivial) rfl (by rfl) (Q3 rfl (by decide) (E4 (G3 (ys := _) 5 rfl rfl C4 A8 rfl) (E4 (D1 rfl (by rfl)) J6)))
  ·intro h36
   simp only [Bool.or_eq_false_iff, Bool.not_eq_false', decide_eq_false_iff_not] at h36
   obtain ⟨hhas, hnlt⟩ := h36
   have hlt := hplt hhas
   obtain ⟨g1, g2, g3, g4, g5⟩ := U8 hs2 (hh0 hhas).1
   have hpc := Ax2 s.Cells h.Writes r.Time
   refine D5 (A3 ?_)
   refine J5 (by kernel_rfl) (by kernel_rfl) rfl ?_
   refine B4 rfl rfl (B3 1 rfl B8 rfl O6 (A0 rfl) rfl) ?_
   refine B4 rfl rfl (B2 0 rfl (A0 rfl) rfl Q5 rfl) ?_
   refine B4 rfl rfl (B3 2 rfl B8 rfl F0 (A0 rfl) rfl) ?_
   refine B4 rfl rfl (B2 0 rfl (A0 rfl) rfl H1 rfl) ?_
   refine B4 rfl rfl (C7 rfl (A0 rfl)) ?_
   refine B4 rfl rfl (U3 1 rfl C9 D4 (A0 rfl) rfl (A0 rfl) (by omega) (by simp only [A5]; omega)) ?_
   refine B4 rfl rfl (c8 1 rfl E7 rfl K6 (A0 rfl) rfl rfl (hrow hhas)) ?_
   refine B4 rfl rfl (i6 1 rfl (A0 rfl) rfl M5 (hrow hhas) rfl) ?_
   refine B4 rfl rfl (B3 2 rfl B6 rfl C0 (A0 rfl) rfl) ?_
   refine B4 rfl rfl (B2 4 rfl (A0 rfl) rfl C5 rfl) ?_
   refine B4 rfl rfl (F1 rfl Tryz.call255 rfl (Ad2 s.Cells h.Writes r.Time hco hs1 (by omega)) (A7 (A0 rfl) (A7 (A0 rfl) (A7 (A0 rfl) D2)))) ?_
   refine B4 rfl rfl (C7 rfl (A0 rfl)) ?_
   refine B4 rfl rfl (F6 rfl (A0 rfl) rfl) ?_
   refine B4 rfl rfl (F6 rfl (A0 rfl) rfl) ?_
   refine B4 rfl rfl (C3 rfl (A0 rfl)) ?_
   refine B4 rfl rfl (C3 rfl (A0 rfl)) ?_
   refine O5 ?_
   refine A3 (A3 ?_)
   refine H9 (by first | (simp only [TState.ow, TState.ocs, pick, L5, L1, L2, K9, L3, List.nil_append, L6, L7, List.append_nil, L0, List.take_zero, L4, List.drop_zero]; exact rfl) | exact rfl) ?_
   refine A2 ?_
   refine A6 rfl rfl rfl rfl rfl ?_
   refine A1 rfl rfl rfl (N1 rfl (A0 rfl)) ?_
   refine A4 ?_
   refine D0 (A0 rfl) ?_ ?_
   ·intro h53
    have hdec : decR s r = (zState, false) := by (unfold decR; rw [if_pos h23, hfd hhas]; dsimp only; rw [if_neg (by omega), if_neg (by rw [← hpc.1]; simpa using h53)])
    rw [hdec]
    refine A3 (A2 ?_)
    refine A1 rfl rfl rfl (N2 (places := #[(0, 1), (1, 1), (2, 1), (3, 1)]) rfl B8 Tryz.zeroValue30 (fun w => by kernel_rfl) rfl I5 rfl) ?_
    refine D3 3 rfl rfl rfl (A0 rfl) (A0 rfl) (D8 _) rfl A8 rfl ?_
    refine A1 rfl rfl rfl (C3 rfl F5) ?_
    refine A4 ?_
    refine C8 ?_
    refine U0 3 1 2 rfl rfl P6 ?_
    refine U5 45 5 ?_
    refine U5 39 3 ?_
    exact K0 [1, 0] ((Value.slice none 0 0), (Value.slice none 0 0)) (trivial) rfl (by rfl) (Q3 rfl (by decide) (E4 (G3 (ys := _) 5 rfl rfl C4 A8 rfl) (E4 (D1 rfl (by rfl)) J6)))
   ·intro h53
    have hok : (putCells s.Cells h.Writes r.Time).2 = true := by simpa using h53
    have hdec : decR s r = (doneS s r (if s.Floor < r.Time then r.Time else s.Floor) (putCells s.Cells h.Writes r.Time).1, true) := by (unfold decR; rw [if_pos h23, hfd hhas]; dsimp only; rw [if_neg (by omega), if_pos (by rw [← hpc.1]; exact hok), hpc.2 (by rw [← hpc.1]; exact hok)])
    refine D5 (A3 (A2 ?_))
    refine A6 rfl rfl rfl rfl rfl ?_
    refine A1 rfl rfl rfl (B3 1 rfl B8 rfl O6 (A0 rfl) rfl) ?_
    refine I3 0 rfl rfl rfl (A0 rfl) (A0 rfl) (T4 _ _) rfl O6 rfl ?_
    refine A4 (A2 ?_)
    refine A1 rfl rfl rfl (B3 0 rfl B8 rfl C0 (A0 rfl) rfl) ?_
    refine A1 rfl rfl rfl (B2 0 rfl (A0 rfl) rfl C5 rfl) ?_
    refine A1 rfl rfl rfl (B3 2 rfl B6 rfl C0 (A0 rfl) rfl) ?_
    refine A1 rfl rfl rfl (B2 4 rfl (A0 rfl) rfl C5 rfl) ?_
    refine A1 rfl rfl rfl (w_max rfl (A0 rfl) (A0 rfl)) ?_
    refine A1 rfl rfl rfl (B3 0 rfl B8 rfl C0 (A0 rfl) rfl) ?_
    refine I3 0 rfl rfl rfl (A0 rfl) (A0 rfl) (L9 _ _) rfl C0 rfl ?_
    refine A4 (A3 (A3 ?_))
    refine H9 (by first | (simp only [TState.ow, TState.ocs, pick, L5, L1, L2, K9, L3, List.nil_append, L6, L7, List.append_nil, L0, List.take_zero, L4, List.drop_zero]; exact rfl) | exact rfl) ?_
    refine A2 ?_
    refine A6 rfl rfl rfl rfl rfl ?_
    refine A4 ?_
    refine D0 (A0 rfl) ?_ ?_
    ·intro h63
     have hless : lessH s.Held r.Txn = s.Held.eraseIdx (hPos s.Held r.Txn) := by (rw [← (hh0 h63).2]; exact Ao5 hsr (hh0 h63).1 ▸ by rw [(hh0 h63).2])
     rw [hdec]
     unfold doneS
     rw [hless, hins]
     have hlt2 := hplt h63
     refine A2 ?_
     refine A1 rfl rfl rfl (B3 2 rfl B8 rfl F0 (A0 rfl) rfl) ?_
     refine A1 rfl rfl rfl (B2 0 rfl (A0 rfl) rfl H1 rfl) ?_
     refine A6 rfl rfl rfl rfl rfl ?_
     refine A6 rfl rfl rfl rfl rfl ?_
     refine A1 rfl rfl rfl (H4 rfl (A0 rfl) C6 (by first | omega | (simp only [A5, B1, B5, C1, B0, szR] at *; omega))) ?_
     refine I8 [1] rfl rfl rfl rfl Tryz.call256 rfl (AJ1 _ s.Held (hPos s.Held r.Txn) hlt2 (by omega)) (A7 (A0 rfl) (A7 (A0 rfl) (A7 (A0 rfl) D2))) rfl ?_
     intro x69 ok69
     refine A1 rfl rfl rfl (B3 2 rfl B8 rfl F0 (A0 rfl) rfl) ?_
     refine R9 0 rfl fun one_x69 => ?_
     refine I3 1 rfl rfl rfl (A0 rfl) (A0 rfl) (S4 one_x69) rfl F0 rfl ?_
     refine A4 (A3 ?_)
     refine H9 (by first | (simp only [TState.ow, TState.ocs, pick, L5, L1, L2, K9, L3, List.nil_append, L6, L7, List.append_nil, L0, List.take_zero, L4, List.drop_zero]; exact rfl) | exact rfl) ?_
     refine A2 ?_
     refine A1 rfl rfl rfl (D9 1 rfl (A0 rfl) rfl C4 A8 rfl) ?_
     refine A1 rfl rfl rfl (B3 1 rfl B6 rfl C0 (A0 rfl) rfl) ?_
     refine A1 rfl rfl rfl (B2 4 rfl (A0 rfl) rfl C5 rfl) ?_
     refine A1 rfl rfl rfl (X0 rfl Tryz.call97 rfl (n8 _ _ _ s.Told r.Txn hs3) (a6 (E3 (G7 _ _) (E3 (H0 _) G8))) (P2 (j7 (A0 rfl) (X8 (H6 N0 (H6 N0 (H6 (P0 (H2 (i := 0) rfl) K5) (H6 (P0 (H2 (i := 2) rfl) K5) U4)))))) (P2 (evb (A0 rfl)) V2))) ?_
     refine A6 rfl rfl rfl rfl rfl ?_
     refine A1 rfl rfl rfl (F6 rfl (A0 rfl) rfl) ?_
     refine A1 rfl rfl rfl (F6 rfl (A0 rfl) rfl) ?_
     refine C2 rfl rfl rfl rfl rfl ?_
     refine C2 rfl rfl rfl rfl rfl ?_
     refine A4 (A3 ?_)
     refine H9 (by first | (simp only [TState.ow, TState.ocs, pick, L5, L1, L2, K9, L3, List.nil_append, L6, L7, List.append_nil, L0, List.take_zero, L4, List.drop_zero]; exact rfl) | exact rfl) ?_
     refine A2 ?_
     refine A1 rfl rfl rfl (B3 3 rfl B8 rfl J1 (A0 rfl) rfl) ?_
     refine A1 rfl rfl rfl (B2 1 rfl (A0 rfl) rfl N5 rfl) ?_
     refine A6 rfl rfl rfl rfl rfl ?_
     refine A1 rfl rfl rfl (B3 1 rfl B6 rfl C0 (A0 rfl) rfl) ?_
     refine A1 rfl rfl rfl (B2 4 rfl (A0 rfl) rfl C5 rfl) ?_
     refine A1 rfl rfl rfl (B3 6 rfl B6 rfl J7 (A0 rfl) rfl) ?_
     refine A1 rfl rfl rfl (B2 4 rfl (A0 rfl) rfl K3 rfl) ?_
     refine A1 rfl rfl rfl (B3 2 rfl B6 rfl C0 (A0 rfl) rfl) ?_
     refine A1 rfl rfl rfl (B2 4 rfl (A0 rfl) rfl C5 rfl) ?_
     refine A1 rfl rfl rfl (N2 (places := #[(0, 1), (1, 1), (2, 1)]) rfl I9 Tryz.zeroValue39 (fun w => by kernel_rfl) rfl (E8 (A0 rfl) (L9 _ _) (E8 (A0 rfl) (W1 _) (E8 (A0 rfl) (L9 _ _) I5))) rfl) ?_
     refine o3 rfl rfl rfl rfl E5 F9 Tryz.zeroValue39 rfl rfl rfl rfl (E8 (A0 rfl) (D8 _) I5) rfl rfl ?_
     intro v88
     refine I8 [3, 0] rfl rfl rfl rfl Tryz.call257 rfl (p4 _ _ s.Told ⟨r.Txn, r.Yes, r.Time⟩ (tPos s.Told r.Txn) htle (by omega)) (A7 (A0 rfl) (A7 (A0 rfl) (A7 (A0 rfl) D2))) rfl ?_
     intro x89 ok89
     refine A1 rfl rfl rfl (B3 3 rfl B8 rfl J1 (A0 rfl) rfl) ?_
     refine R9 0 rfl fun one_x89 => ?_
     refine I3 2 rfl rfl rfl (A0 rfl) (A0 rfl) (S4 one_x89) rfl J1 rfl ?_
     refine A4 (A3 ?_)
     refine H9 (by first | (simp only [TState.ow, TState.ocs, pick, L5, L1, L2, K9, L3, List.nil_append, L6, L7, List.append_nil, L0, List.take_zero, L4, List.drop_zero]; exact rfl) | exact rfl) ?_
     refine A2 ?_
     refine A1 rfl rfl rfl (D9 2 rfl (A0 rfl) rfl C4 A8 rfl) ?_
     refine D3 3 rfl rfl rfl (A0 rfl) (A0 rfl) (D8 _) rfl A8 rfl ?_
     refine A1 rfl rfl rfl (C3 rfl F5) ?_
     refine A4 ?_
     refine C8 ?_
     exact K0 [1, 0] (x69, x89) (trivial) rfl (by rfl) (Q3 rfl (by decide) (E4 (G3 (ys := _) 3 rfl rfl C4 A8 rfl) (E4 (D1 rfl (by rfl)) J6)))
    ·intro h63
     have hless : lessH s.Held r.Txn = s.Held := Ao6 (by rw [← p5 hsr]; exact h63)
     rw [hdec]
     unfold doneS
     rw [hless, hins]
     refine D5 (A3 ?_)
     refine H9 (by first | (simp only [TState.ow, TState.ocs, pick, L5, L1, L2, K9, L3, List.nil_append, L6, L7, List.append_nil, L0, List.take_zero, L4, List.drop_zero]; exact rfl) | exact rfl) ?_
     refine A2 ?_
     refine A1 rfl rfl rfl (D9 0 rfl (A0 rfl) rfl C4 A8 rfl) ?_
     refine A1 rfl rfl rfl (B3 1 rfl B6 rfl C0 (A0 rfl) rfl) ?_
     refine A1 rfl rfl rfl (B2 4 rfl (A0 rfl) rfl C5 rfl) ?_
     refine A1 rfl rfl rfl (X0 rfl Tryz.call97 rfl (n8 _ _ _ s.Told r.Txn hs3) (a6 (E3 (G7 _ _) (E3 (H0 _) G8))) (P2 (j7 (A0 rfl) (X8 (H6 N0 (H6 N0 (H6 (P0 (H2 (i := 1) rfl) K5) (H6 (P0 (H2 (i := 2) rfl) K5) U4)))))) (P2 (evb (A0 rfl)) V2))) ?_
     refine A6 rfl rfl rfl rfl rfl ?_
     refine A1 rfl rfl rfl (F6 rfl (A0 rfl) rfl) ?_
     refine A1 rfl rfl rfl (F6 rfl (A0 rfl) rfl) ?_
     refine C2 rfl rfl rfl rfl rfl ?_
     refine C2 rfl rfl rfl rfl rfl ?_
     refine A4 (A3 ?_)
     refine H9 (by first | (simp only [TState.ow, TState.ocs, pick, L5, L1, L2, K9, L3, List.nil_append, L6, L7, List.append_nil, L0, List.take_zero, L4, List.drop_zero]; exact rfl) | exact rfl) ?_
     refine A2 ?_
     refine A1 rfl rfl rfl (B3 3 rfl B8 rfl J1 (A0 rfl) rfl) ?_
     refine A1 rfl rfl rfl (B2 0 rfl (A0 rfl) rfl N5 rfl) ?_
     refine A6 rfl rfl rfl rfl rfl ?_
     refine A1 rfl rfl rfl (B3 1 rfl B6 rfl C0 (A0 rfl) rfl) ?_
     refine A1 rfl rfl rfl (B2 4 rfl (A0 rfl) rfl C5 rfl) ?_
     refine A1 rfl rfl rfl (B3 6 rfl B6 rfl J7 (A0 rfl) rfl) ?_
     refine A1 rfl rfl rfl (B2 4 rfl (A0 rfl) rfl K3 rfl) ?_
     refine A1 rfl rfl rfl (B3 2 rfl B6 rfl C0 (A0 rfl) rfl) ?_
     refine A1 rfl rfl rfl (B2 4 rfl (A0 rfl) rfl C5 rfl) ?_
     refine A1 rfl rfl rfl (N2 (places := #[(0, 1), (1, 1), (2, 1)]) rfl I9 Tryz.zeroValue39 (fun w => by kernel_rfl) rfl (E8 (A0 rfl) (L9 _ _) (E8 (A0 rfl) (W1 _) (E8 (A0 rfl) (L9 _ _) I5))) rfl) ?_
     refine o3 rfl rfl rfl rfl E5 F9 Tryz.zeroValue39 rfl rfl rfl rfl (E8 (A0 rfl) (D8 _) I5) rfl rfl ?_
     intro v88
     refine I8 [3, 0] rfl rfl rfl rfl Tryz.call257 rfl (p4 _ _ s.Told ⟨r.Txn, r.Yes, r.Time⟩ (tPos s.Told r.Txn) htle (by omega)) (A7 (A0 rfl) (A7 (A0 rfl) (A7 (A0 rfl) D2))) rfl ?_
     intro x89 ok89
     refine A1 rfl rfl rfl (B3 3 rfl B8 rfl J1 (A0 rfl) rfl) ?_
     refine R9 0 rfl fun one_x89 => ?_
     refine I3 1 rfl rfl rfl (A0 rfl) (A0 rfl) (S4 one_x89) rfl J1 rfl ?_
     refine A4 (A3 ?_)
     refine H9 (by first | (simp only [TState.ow, TState.ocs, pick, L5, L1, L2, K9, L3, List.nil_append, L6, L7, List.append_nil, L0, List.take_zero, L4, List.drop_zero]; exact rfl) | exact rfl) ?_
     refine A2 ?_
     refine A1 rfl rfl rfl (D9 1 rfl (A0 rfl) rfl C4 A8 rfl) ?_
     refine D3 3 rfl rfl rfl (A0 rfl) (A0 rfl) (D8 _) rfl A8 rfl ?_
     refine A1 rfl rfl rfl (C3 rfl F5) ?_
     refine A4 ?_
     refine C8 ?_
     exact K0 [2, 0] (x14.1, x89) (trivial) rfl (by rfl) (Q3 rfl (by decide) (E4 (G3 (ys := _) 3 rfl rfl C4 A8 rfl) (E4 (D1 rfl (by rfl)) J6)))
 ·intro h23
  have hdec : decR s r = (doneS s r s.Floor s.Cells, true) := by (unfold decR; rw [if_neg (by rw [h23]; decide)])
  refine D5 (A3 (A3 ?_))
  refine H9 (by first | (simp only [TState.ow, TState.ocs, pick, L5, L1, L2, K9, L3, List.nil_append, L6, L7, List.append_nil, L0, List.take_zero, L4, List.drop_zero]; exact rfl) | exact rfl) ?_
  refine A2 ?_
  refine A6 rfl rfl rfl rfl rfl ?_
  refine A4 ?_
  refine D0 (A0 rfl) ?_ ?_
  ·intro h63
   have hless : lessH s.Held r.Txn = s.Held.eraseIdx (hPos s.Held r.Txn) := by (rw [← (hh0 h63).2]; exact Ao5 hsr (hh0 h63).1 ▸ by rw [(hh0 h63).2])
   rw [hdec]
   unfold doneS
   rw [hless, hins]
   have hlt2 := hplt h63
   refine A2 ?_
   refine A1 rfl rfl rfl (B3 2 rfl B8 rfl F0 (A0 rfl) rfl) ?_
   refine A1 rfl rfl rfl (B2 0 rfl (A0 rfl) rfl H1 rfl) ?_
   refine A6 rfl rfl rfl rfl rfl ?_
   refine A6 rfl rfl rfl rfl rfl ?_
   refine A1 rfl rfl rfl (H4 rfl (A0 rfl) C6 (by first | omega | (simp only [A5, B1, B5, C1, B0, szR] at *; omega))) ?_
   refine I8 [1] rfl rfl rfl rfl Tryz.call256 rfl (AJ1 _ s.Held (hPos s.Held r.Txn) hlt2 (by omega)) (A7 (A0 rfl) (A7 (A0 rfl) (A7 (A0 rfl) D2))) rfl ?_
   intro x69 ok69
   refine A1 rfl rfl rfl (B3 2 rfl B8 rfl F0 (A0 rfl) rfl) ?_
   refine R9 0 rfl fun one_x69 => ?_
   refine I3 1 rfl rfl rfl (A0 rfl) (A0 rfl) (S4 one_x69) rfl F0 rfl ?_
   refine A4 (A3 ?_)
   refine H9 (by first | (simp only [TState.ow, TState.ocs, pick, L5, L1, L2, K9, L3, List.nil_append, L6, L7, List.append_nil, L0, List.take_zero, L4, List.drop_zero]; exact rfl) | exact rfl) ?_
   refine A2 ?_
   refine A1 rfl rfl rfl (D9 1 rfl (A0 rfl) rfl C4 A8 rfl) ?_
   refine A1 rfl rfl rfl (B3 1 rfl B6 rfl C0 (A0 rfl) rfl) ?_
   refine A1 rfl rfl rfl (B2 4 rfl (A0 rfl) rfl C5 rfl) ?_
   refine A1 rfl rfl rfl (X0 rfl Tryz.call97 rfl (n8 _ _ _ s.Told r.Txn hs3) (a6 (E3 (G7 _ _) (E3 (H0 _) G8))) (P2 (j7 (A0 rfl) (X8 (H6 N0 (H6 N0 (H6 (P0 (H2 (i := 0) rfl) K5) (H6 (P0 (H2 (i := 2) rfl) K5) U4)))))) (P2 (evb (A0 rfl)) V2))) ?_
   refine A6 rfl rfl rfl rfl rfl ?_
   refine A1 rfl rfl rfl (F6 rfl (A0 rfl) rfl) ?_
   refine A1 rfl rfl rfl (F6 rfl (A0 rfl) rfl) ?_
   refine C2 rfl rfl rfl rfl rfl ?_
   refine C2 rfl rfl rfl rfl rfl ?_
   refine A4 (A3 ?_)
   refine H9 (by first | (simp only [TState.ow, TState.ocs, pick, L5, L1, L2, K9, L3, List.nil_append, L6, L7, List.append_nil, L0, List.take_zero, L4, List.drop_zero]; exact rfl) | exact rfl) ?_
   refine A2 ?_
   refine A1 rfl rfl rfl (B3 3 rfl B8 rfl J1 (A0 rfl) rfl) ?_
   refine A1 rfl rfl rfl (B2 1 rfl (A0 rfl) rfl N5 rfl) ?_
   refine A6 rfl rfl rfl rfl rfl ?_
   refine A1 rfl rfl rfl (B3 1 rfl B6 rfl C0 (A0 rfl) rfl) ?_
   refine A1 rfl rfl rfl (B2 4 rfl (A0 rfl) rfl C5 rfl) ?_
   refine A1 rfl rfl rfl (B3 6 rfl B6 rfl J7 (A0 rfl) rfl) ?_
   refine A1 rfl rfl rfl (B2 4 rfl (A0 rfl) rfl K3 rfl) ?_
   refine A1 rfl rfl rfl (B3 2 rfl B6 rfl C0 (A0 rfl) rfl) ?_
   refine A1 rfl rfl rfl (B2 4 rfl (A0 rfl) rfl C5 rfl) ?_
   refine A1 rfl rfl rfl (N2 (places := #[(0, 1), (1, 1), (2, 1)]) rfl I9 Tryz.zeroValue39 (fun w => by kernel_rfl) rfl (E8 (A0 rfl) (L9 _ _) (E8 (A0 rfl) (W1 _) (E8 (A0 rfl) (L9 _ _) I5))) rfl) ?_
   refine o3 rfl rfl rfl rfl E5 F9 Tryz.zeroValue39 rfl rfl rfl rfl (E8 (A0 rfl) (D8 _) I5) rfl rfl ?_
   intro v88
   refine I8 [3, 0] rfl rfl rfl rfl Tryz.call257 rfl (p4 _ _ s.Told ⟨r.Txn, r.Yes, r.Time⟩ (tPos s.Told r.Txn) htle (by omega)) (A7 (A0 rfl) (A7 (A0 rfl) (A7 (A0 rfl) D2))) rfl ?_
   intro x89 ok89
   refine A1 rfl rfl rfl (B3 3 rfl B8 rfl J1 (A0 rfl) rfl) ?_
   refine R9 0 rfl fun one_x89 => ?_
   refine I3 2 rfl rfl rfl (A0 rfl) (A0 rfl) (S4 one_x89) rfl J1 rfl ?_
   refine A4 (A3 ?_)
   refine H9 (by first | (simp only [TState.ow, TState.ocs, pick, L5, L1, L2, K9, L3, List.nil_append, L6, L7, List.append_nil, L0, List.take_zero, L4, List.drop_zero]; exact rfl) | exact rfl) ?_
   refine A2 ?_
   refine A1 rfl rfl rfl (D9 2 rfl (A0 rfl) rfl C4 A8 rfl) ?_
   refine D3 3 rfl rfl rfl (A0 rfl) (A0 rfl) (D8 _) rfl A8 rfl ?_
   refine A1 rfl rfl rfl (C3 rfl F5) ?_
   refine A4 ?_
   refine C8 ?_
   exact K0 [1, 0] (x69, x89) (trivial) rfl (by rfl) (Q3 rfl (by decide) (E4 (G3 (ys := _) 3 rfl rfl C4 A8 rfl) (E4 (D1 rfl (by rfl)) J6)))
  ·intro h63
   have hless : lessH s.Held r.Txn = s.Held := Ao6 (by rw [← p5 hsr]; exact h63)
   rw [hdec]
   unfold doneS
   rw [hless, hins]
   refine D5 (A3 ?_)
   refine H9 (by first | (simp only [TState.ow, TState.ocs, pick, L5, L1, L2, K9, L3, List.nil_append, L6, L7, List.append_nil, L0, List.take_zero, L4, List.drop_zero]; exact rfl) | exact rfl) ?_
   refine A2 ?_
   refine A1 rfl rfl rfl (D9 0 rfl (A0 rfl) rfl C4 A8 rfl) ?_
   refine A1 rfl rfl rfl (B3 1 rfl B6 rfl C0 (A0 rfl) rfl) ?_
   refine A1 rfl rfl rfl (B2 4 rfl (A0 rfl) rfl C5 rfl) ?_
   refine A1 rfl rfl rfl (X0 rfl Tryz.call97 rfl (n8 _ _ _ s.Told r.Txn hs3) (a6 (E3 (G7 _ _) (E3 (H0 _) G8))) (P2 (j7 (A0 rfl) (X8 (H6 N0 (H6 N0 (H6 (P0 (H2 (i := 1) rfl) K5) (H6 (P0 (H2 (i := 2) rfl) K5) U4)))))) (P2 (evb (A0 rfl)) V2))) ?_
   refine A6 rfl rfl rfl rfl rfl ?_
   refine A1 rfl rfl rfl (F6 rfl (A0 rfl) rfl) ?_
   refine A1 rfl rfl rfl (F6 rfl (A0 rfl) rfl) ?_
   refine C2 rfl rfl rfl rfl rfl ?_
   refine C2 rfl rfl rfl rfl rfl ?_
   refine A4 (A3 ?_)
   refine H9 (by first | (simp only [TState.ow, TState.ocs, pick, L5, L1, L2, K9, L3, List.nil_append, L6, L7, List.append_nil, L0, List.take_zero, L4, List.drop_zero]; exact rfl) | exact rfl) ?_
   refine A2 ?_
   refine A1 rfl rfl rfl (B3 3 rfl B8 rfl J1 (A0 rfl) rfl) ?_
   refine A1 rfl rfl rfl (B2 0 rfl (A0 rfl) rfl N5 rfl) ?_
   refine A6 rfl rfl rfl rfl rfl ?_
   refine A1 rfl rfl rfl (B3 1 rfl B6 rfl C0 (A0 rfl) rfl) ?_
   refine A1 rfl rfl rfl (B2 4 rfl (A0 rfl) rfl C5 rfl) ?_
   refine A1 rfl rfl rfl (B3 6 rfl B6 rfl J7 (A0 rfl) rfl) ?_
   refine A1 rfl rfl rfl (B2 4 rfl (A0 rfl) rfl K3 rfl) ?_
   refine A1 rfl rfl rfl (B3 2 rfl B6 rfl C0 (A0 rfl) rfl) ?_
   refine A1 rfl rfl rfl (B2 4 rfl (A0 rfl) rfl C5 rfl) ?_
   refine A1 rfl rfl rfl (N2 (places := #[(0, 1), (1, 1), (2, 1)]) rfl I9 Tryz.zeroValue39 (fun w => by kernel_rfl) rfl (E8 (A0 rfl) (L9 _ _) (E8 (A0 rfl) (W1 _) (E8 (A0 rfl) (L9 _ _) I5))) rfl) ?_
   refine o3 rfl rfl rfl rfl E5 F9 Tryz.zeroValue39 rfl rfl rfl rfl (E8 (A0 rfl) (D8 _) I5) rfl rfl ?_
   intro v88
   refine I8 [3, 0] rfl rfl rfl rfl Tryz.call257 rfl (p4 _ _ s.Told ⟨r.Txn, r.Yes, r.Time⟩ (tPos s.Told r.Txn) htle (by omega)) (A7 (A0 rfl) (A7 (A0 rfl) (A7 (A0 rfl) D2))) rfl ?_
   intro x89 ok89
   refine A1 rfl rfl rfl (B3 3 rfl B8 rfl J1 (A0 rfl) rfl) ?_
   refine R9 0 rfl fun one_x89 => ?_
   refine I3 1 rfl rfl rfl (A0 rfl) (A0 rfl) (S4 one_x89) rfl J1 rfl ?_
   refine A4 (A3 ?_)
   refine H9 (by first | (simp only [TState.ow, TState.ocs, pick, L5, L1, L2, K9, L3, List.nil_append, L6, L7, List.append_nil, L0, List.take_zero, L4, List.drop_zero]; exact rfl) | exact rfl) ?_
   refine A2 ?_
   refine A1 rfl rfl rfl (D9 1 rfl (A0 rfl) rfl C4 A8 rfl) ?_
   refine D3 3 rfl rfl rfl (A0 rfl) (A0 rfl) (D8 _) rfl A8 rfl ?_
   refine A1 rfl rfl rfl (C3 rfl F5) ?_
   refine A4 ?_
   refine C8 ?_
   exact K0 [2, 0] (x14.1, x89) (trivial) rfl (by rfl) (Q3 rfl (by decide) (E4 (G3 (ys := _) 3 rfl rfl C4 A8 rfl) (E4 (D1 rfl (by rfl)) J6)))
end Go.Proofs.YtnlhbdkcgaeimaaGreat

set_option linter.unusedVariables false
set_option linter.unusedSimpArgs false
namespace Go.M
open Go.AV
def settled (s : TState) : Int := s.Held.foldl (fun o h => min o (h.Time - 1)) s.Floor
theorem AQ7 {x : Int} : ∀ {l : List THeld} {o : Int}, x ≤ l.foldl (fun o h => min o (h.Time - 1)) o ↔ x ≤ o ∧ ∀ h ∈ l, x ≤ h.Time - 1
  | [], o => by simp
  | h :: l, o => by
    rw [List.foldl_cons, AQ7]
    constructor
    · rintro ⟨a, b⟩
      refine ⟨by omega, fun k hk => ?_⟩
      rcases List.mem_cons.1 hk with rfl | hk
      · omega
      · exact b k hk
    · rintro ⟨a, b⟩
      have := b h List.mem_cons_self
      exact ⟨by omega, fun k hk => b k (List.mem_cons_of_mem _ hk)⟩
theorem j5 {s : TState} {x : Int} : x ≤ settled s ↔ x ≤ s.Floor ∧ ∀ h ∈ s.Held, x ≤ h.Time - 1 := AQ7
structure Keeps (s s' : TState) : Prop where
  floor : s.Floor ≤ s'.Floor
  told : ∀ t ∈ s.Told, t ∈ s'.Told
  tlen : s.Told.length ≤ s'.Told.length
  settled : settled s ≤ settled s'
  cells : ∀ a, a ≤ M.settled s → cellsAt s'.Cells a = cellsAt s.Cells a
theorem Keeps.refl (s : TState) : Keeps s s := ⟨Int.le_refl _, fun _ h => h, Nat.le_refl _, Int.le_refl _, fun _ _ => rfl⟩
theorem Keeps.trans {a b c : TState} (h : Keeps a b) (k : Keeps b c) : Keeps a c :=
  ⟨Int.le_trans h.floor k.floor, fun t ht => k.told t (h.told t ht), Nat.le_trans h.tlen k.tlen, Int.le_trans h.settled k.settled, fun x hx => (k.cells x (Int.le_trans hx h.settled)).trans (h.cells x hx)⟩
theorem j8 (c : TCell) (l : List TCell) (a : Int) : cellsAt (c :: l) a = (if (cellVal c a).2 = true then [⟨c.Key, (cellVal c a).1, false⟩] else []) ++ cellsAt l a := by
  unfold cellsAt
  rw [List.filterMap_cons]
  split
  · rename_i h; split at h
    · cases h
    · rename_i h2; rw [if_neg h2]; rfl
  · rename_i b h; split at h
    · rename_i h2; injection h with h; subst h; rw [if_pos h2]; rfl
    · cases h
theorem AW9 {k : Str} {vs : List TVer} {v : TVer} {a : Int} (h : a < v.Time) : cellVal ⟨k, vs ++ [v]⟩ a = cellVal ⟨k, vs⟩ a := by
  rw [AM4, AM4]
  dsimp only
  rw [Av9, if_neg (by omega)]
theorem Ao7 {k : Str} {v : TVer} {a : Int} (h : a < v.Time) : ∀ l : List TCell, cellsAt (insC l k v) a = cellsAt l a
  | [] => by
    unfold insC
    rw [j8]
    have : cellVal ⟨k, [v]⟩ a = cellVal ⟨k, []⟩ a := AW9 (vs := []) h
    rw [this]; rfl
  | c :: l => by
    unfold insC
    split
    · rw [j8, j8, Ao7 h l]
    · split
      · rename_i e
        rw [j8, j8, AW9 h]
        subst e; rfl
      · have : cellVal ⟨k, [v]⟩ a = cellVal ⟨k, []⟩ a := AW9 (vs := []) h
        rw [j8, this]; rfl
theorem put_at {t a : Int} (h : a < t) : ∀ {w : List TWrite} {l q : List TCell}, putAll l w t = some q → cellsAt q a = cellsAt l a
  | [], l, q, e => by simp [putAll] at e; rw [e]
  | x :: w, l, q, e => by
    unfold putAll at e
    split at e
    · cases e
    · rw [put_at h e]; exact Ao7 h l
theorem Ar6 {s : TState} (g : GS s) {r : TRec} (hr : goodRec r = true) (h : (applyS s r).2 = true) : Keeps s (applyS s r).1 := by
  have hless : ∀ n x, x ≤ settled s → ∀ k ∈ lessH s.Held n, x ≤ k.Time - 1 := fun n x hx k hk => (j5.1 hx).2 k (g9.1 hk).1
  have h0 := (j5.1 (Int.le_refl (settled s)))
  unfold applyS at h ⊢
  by_cases h4 : r.Kind = 4
  · rw [if_pos h4] at h ⊢
    have := of_decide_eq_true h
    exact ⟨by dsimp only; omega, fun _ h => h, Nat.le_refl _, j5.2 ⟨by dsimp only; omega, h0.2⟩, fun _ _ => rfl⟩
  · rw [if_neg h4] at h ⊢
    by_cases hT : hasT s.Told r.Txn = true
    · rw [if_pos hT] at h; cases h
    · rw [if_neg hT] at h ⊢
      by_cases h1 : r.Kind = 1
      · rw [if_pos h1] at h ⊢
        simp only [Bool.and_eq_true, Bool.not_eq_true', decide_eq_true_eq] at h
        refine ⟨by dsimp only; omega, fun _ h => h, Nat.le_refl _, j5.2 ⟨by dsimp only; omega, fun k hk => ?_⟩, fun _ _ => rfl⟩
        rcases m0.1 hk with rfl | hk
        · show _ ≤ r.Time - 1; omega
        · exact h0.2 k hk
      · rw [if_neg h1] at h ⊢
        by_cases hy : r.Yes = true
        · rw [if_pos hy] at h ⊢
          cases hf : findH s.Held r.Txn with
          | none => rw [hf] at h; cases h
          | some k =>
            rw [hf] at h
            dsimp only at h ⊢
            by_cases hlt : r.Time < k.Time
            · rw [if_pos hlt] at h; cases h
            · rw [if_neg hlt] at h ⊢
              by_cases hp : (putP s.Cells k.Writes r.Time).2 = true
              · rw [if_pos hp]
                obtain ⟨p1, p2⟩ := AS6 hp
                obtain ⟨k1, k2⟩ := m1 hf
                refine ⟨by unfold doneS; dsimp only; split <;> omega, fun u hu => AL2.2 (Or.inr hu), by unfold doneS; dsimp only; rw [(AB0 _ _).length_eq]; simp, j5.2 ⟨by unfold doneS; dsimp only; split <;> omega, fun u hu => hless _ _ (Int.le_refl _) u hu⟩, fun a ha => ?_⟩
                exact put_at (by have := (j5.1 ha).2 k k1; omega) p1
              · rw [if_neg hp] at h; cases h
        · rw [if_neg hy]
          exact ⟨Int.le_refl _, fun u hu => AL2.2 (Or.inr hu), by unfold doneS; dsimp only; rw [(AB0 _ _).length_eq]; simp, j5.2 ⟨h0.1, fun u hu => hless _ _ (Int.le_refl _) u hu⟩, fun _ _ => rfl⟩
theorem Ax3 {s : TState} (g : GS s) {r : TRec} (hr : goodRec r = true) : Keeps s (stepS s r) := by
  unfold stepS
  split
  · exact Ar6 g hr ‹_›
  · exact Keeps.refl s
theorem Aa2 : ∀ {l : List TRec} {s : TState}, GS s → (∀ r ∈ l, goodRec r = true) → Keeps s (stFrom s l)
  | [], s, g, _ => Keeps.refl s
  | r :: l, s, g, h => by
    show Keeps s (stFrom (stepS s r) l)
    exact (Ax3 g (h r List.mem_cons_self)).trans (Aa2 (At8 g (h r List.mem_cons_self)) fun x hx => h x (List.mem_cons_of_mem _ hx))
theorem Ax4 {l : List TRec} (h : ∀ r ∈ l, goodRec r = true) (k : Nat) : Keeps (stFrom zState (l.take k)) (stFrom zState l) := by
  have e : stFrom zState l = stFrom (stFrom zState (l.take k)) (l.drop k) := by
    unfold stFrom
    rw [← List.foldl_append, List.take_append_drop]
  rw [e]
  exact Aa2 (AD8 AD7 fun r hr => h r (List.mem_of_mem_take hr)) fun r hr => h r (List.mem_of_mem_drop hr)
theorem BB0 {l : List TTold} (h : l.Pairwise fun a b => a.Txn < b.Txn) {a b : TTold} (ha : a ∈ l) (hb : b ∈ l) (e : a.Txn = b.Txn) : a = b := by
  obtain ⟨i, hi⟩ := List.getElem?_of_mem ha
  obtain ⟨j, hj⟩ := List.getElem?_of_mem hb
  obtain ⟨i1, i2⟩ := List.getElem?_eq_some_iff.1 hi
  obtain ⟨j1, j2⟩ := List.getElem?_eq_some_iff.1 hj
  have hp := List.pairwise_iff_getElem.1 h
  rcases Nat.lt_trichotomy i j with h1 | h1 | h1
  · have := hp i j i1 j1 h1; rw [i2, j2] at this; omega
  · subst h1; rw [hi] at hj; injection hj
  · have := hp j i j1 i1 h1; rw [i2, j2] at this; omega
theorem Ah2 {l : List TTold} (h : l.Pairwise fun a b => a.Txn < b.Txn) {t : TTold} (ht : t ∈ l) : findT l t.Txn = some t := by
  unfold findT
  cases e : l.find? fun x => x.Txn == t.Txn with
  | none => rw [List.find?_eq_none] at e; have := e t ht; simp at this
  | some u => rw [BB0 h (List.mem_of_find?_eq_some e) ht (by simpa using List.find?_some e)]
end Go.M

set_option linter.unusedVariables false
set_option linter.unusedSimpArgs false
set_option maxRecDepth 100000
set_option maxHeartbeats 1000000
namespace Go.M
open Go.AV
def applyRecR (s : TState) (r : TRec) : TState × Bool := if goodState s = true ∧ goodRec r = true then appR s r else (zState, false)
theorem Au3 (s : TState) (r : TRec) : (appR s r).2 = (applyS s r).2 ∧ ((applyS s r).2 = true → (appR s r).1 = (applyS s r).1) := by
  unfold appR; cases h : (applyS s r).2 <;> simp
theorem BB1 (s : TState) (r : TRec) : (if (appR s r).2 = true then (appR s r).1 else s) = stepS s r := by
  unfold stepS appR; cases h : (applyS s r).2 <;> simp
def stateOfR (l : List TRec) : TState × List Bool × Bool := if l.length ≤ 60 ∧ l.all goodRec = true then (stFrom zState l, didFrom zState l, true) else (zState, [], false)
theorem n1 {s : TState} {l : List TRec} {i : Nat} {r : TRec} (h : l[i]? = some r) : stFrom s (l.take (i + 1)) = stepS (stFrom s (l.take i)) r := by
  unfold stFrom
  rw [List.take_add_one, h, List.foldl_append]; rfl
theorem AJ5 : ∀ {l : List TRec} {s : TState} {r : TRec}, didFrom s (l ++ [r]) = didFrom s l ++ [(applyS (stFrom s l) r).2]
  | [], s, r => rfl
  | x :: l, s, r => by
    show _ :: didFrom (stepS s x) (l ++ [r]) = _
    rw [AJ5]; rfl
theorem j9 {s : TState} {l : List TRec} {i : Nat} {r : TRec} (h : l[i]? = some r) : didFrom s (l.take (i + 1)) = didFrom s (l.take i) ++ [(applyS (stFrom s (l.take i)) r).2] := by
  rw [List.take_add_one, h]; exact AJ5
def phi (s : TState) : Nat := sizeL TCell.size s.Cells + 3 * sizeL THeld.size s.Held + s.Told.length
theorem w4 (s : TState) : s.size ≤ phi s := by
  have h1 : s.size = sizeL TCell.size s.Cells + sizeL THeld.size s.Held + s.Told.length := rfl
  unfold phi; omega
theorem Ax5 {α : Type} {f : α → Nat} {a b : List α} (h : a.Perm b) : sizeL f a = sizeL f b := by
  unfold sizeL; rw [h.length_eq, (h.map f).sum_nat]
theorem Ao8 {t : Int} : ∀ {w : List TWrite} {l q : List TCell}, putAll l w t = some q → sizeL TCell.size q ≤ sizeL TCell.size l + 2 * sizeL TWrite.size w
  | [], l, q, h => by simp [putAll] at h; subst h; omega
  | x :: w, l, q, h => by
    unfold putAll at h
    split at h
    · cases h
    · have h1 := Ao8 h
      have h2 := l7 l x t
      rw [M8]; omega
theorem Ax6 {l : List THeld} {n : Int} {h : THeld} (hf : findH l n = some h) : sizeL THeld.size (lessH l n) + (1 + h.size) ≤ sizeL THeld.size l := by
  induction l with
  | nil => simp [findH] at hf
  | cons g l ih =>
    unfold findH at hf ih
    rw [List.find?_cons] at hf
    unfold lessH at ih ⊢
    by_cases e : g.Txn = n
    · rw [beq_iff_eq.2 e] at hf
      injection hf with hf; subst hf
      rw [List.filter_cons_of_neg (by simp [e]), M8]
      have : sizeL THeld.size (l.filter fun h => h.Txn != n) ≤ sizeL THeld.size l := by
        clear ih
        induction l with
        | nil => exact Nat.le_refl _
        | cons y l ih =>
          rw [List.filter_cons]
          split
          · rw [M8, M8]; omega
          · rw [M8]; omega
      omega
    · rw [beq_eq_false_iff_ne.2 e] at hf
      rw [List.filter_cons_of_pos (by simp [e]), M8, M8]
      have := ih hf; omega
theorem AH8 (l : List THeld) (n : Int) : sizeL THeld.size (lessH l n) ≤ sizeL THeld.size l := by
  induction l with
  | nil => exact Nat.le_refl _
  | cons y l ih =>
    unfold lessH at ih ⊢
    rw [List.filter_cons]
    split
    · rw [M8, M8]; omega
    · rw [M8]; omega
theorem Ah3 (s : TState) (r : TRec) : phi (applyS s r).1 ≤ phi s + 3 * (1 + r.size) + 1 := by
  have hh : (hOf r).size = r.size := rfl
  have hins : sizeL THeld.size (insH (hOf r) s.Held) = 1 + r.size + sizeL THeld.size s.Held := by rw [Ax5 (AA9 _ _), M8, hh]
  have htl : ∀ t : TTold, (insT t s.Told).length = s.Told.length + 1 := fun t => by rw [(AB0 _ _).length_eq]; rfl
  have h2 := AH8 s.Held r.Txn
  unfold applyS
  split
  · unfold phi; dsimp only; omega
  · split
    · dsimp only; omega
    · split
      · unfold phi; dsimp only; rw [hins]; omega
      · split
        · cases hf : findH s.Held r.Txn with
          | none => dsimp only; omega
          | some h =>
            dsimp only
            split
            · dsimp only; omega
            · split
              · rename_i hp
                have h3 := Ao8 (AS6 hp).1
                have h4 := Ax6 hf
                have h5 : h.size = sizeL (fun x => x.length) h.Reads + sizeL TWrite.size h.Writes := rfl
                unfold doneS phi; dsimp only; rw [htl]; omega
              · dsimp only; omega
        · unfold doneS phi; dsimp only; rw [htl]; omega
theorem phi_step (s : TState) (r : TRec) : phi (stepS s r) ≤ phi s + 3 * (1 + r.size) + 1 := by
  unfold stepS
  split
  · exact Ah3 s r
  · omega
theorem w5 {m : Nat} : ∀ {l : List TRec} {s : TState}, (∀ r ∈ l, r.size ≤ m) → phi (stFrom s l) ≤ phi s + l.length * (3 * (1 + m) + 1)
  | [], s, _ => by simp [stFrom]
  | r :: l, s, h => by
    have h1 := phi_step s r
    have h2 := w5 (l := l) (s := stepS s r) fun x hx => h x (List.mem_cons_of_mem _ hx)
    have h3 := h r List.mem_cons_self
    have h4 : stFrom s (r :: l) = stFrom (stepS s r) l := rfl
    rw [h4, B5, Nat.add_mul, Nat.one_mul]
    omega
theorem AN1 {r : TRec} (h : goodRec r = true) : r.size ≤ 400 := by
  have g := goodR h
  have h1 : sizeL (fun x : Str => x.length) r.Reads ≤ r.Reads.length * 13 := AP0 fun x hx => AY1 (g.reads.2 x hx)
  have h2 : sizeL TWrite.size r.Writes ≤ r.Writes.length * 37 := AP0 (f := TWrite.size) fun x hx => by
    have := g.writes.2 x hx
    have k1 := AY1 this.1
    have k2 := Av6 this.2.1
    show x.Key.length + x.Val.length ≤ 36
    omega
  have h3 : r.size = sizeL (fun x : Str => x.length) r.Reads + sizeL TWrite.size r.Writes := rfl
  have := g.reads.1
  have := g.writes.1
  omega
def zTold : TTold := ⟨0, false, 0⟩
def zHeld : THeld := ⟨0, 0, 0, [], []⟩
def outcomeR (s : TState) (n : Int) : TTold × Bool := if goodState s = true then (match findT s.Told n with | some t => (t, true) | none => (zTold, false)) else (zTold, false)
def heldR (s : TState) (n : Int) : THeld × Bool := if goodState s = true then (match findH s.Held n with | some t => (t, true) | none => (zHeld, false)) else (zHeld, false)
theorem Aa3 {l : List TTold} {n : Int} : findT l n = none ↔ hasT l n = false := by
  unfold findT hasT; rw [List.find?_eq_none, List.any_eq_false]
theorem Ax7 {s : TState} (g : GS s) {h : THeld} (hm : h ∈ s.Held) : 1 ≤ h.Time ∧ h.Time ≤ 100000 ∧ adj wLess h.Writes = true := by
  obtain ⟨g1, g2, g3⟩ := g.good h hm
  have h1 := g1
  unfold goodRec hRec at h1
  rw [if_pos rfl] at h1
  unfold good1 isTime within at h1
  simp only [Bool.and_eq_true, decide_eq_true_eq] at h1
  exact ⟨by omega, by omega, AE9 g1⟩
end Go.M
namespace Go.Proofs.YtnlhbdkcgaeimaaGreat
open Go Go.AV Go.M
attribute [local irreducible] OpW OpA OpS AWP FSpec ESpec GSpec OpE RetOk RetOkG RvDen Le Ev GuardIs SrcIs Int.tmod Int.tdiv IntKind.wrap
theorem room_app (s : TState) (e : List (List AV)) (l : List THeld) (rs : List Str) (ws : List TWrite) (he : e = (l ++ [(⟨0, 0, 0, rs, ws⟩ : THeld)]).map THeld.cs) (hg : goodCells s.Cells = true) (hs : s.size ≤ 1048576) (hh : sizeL THeld.size (l ++ [(⟨0, 0, 0, rs, ws⟩ : THeld)]) ≤ 1048576) : FSpec Tryz.prog 188 [AV.agg s.cs, AV.list 5 e] (AV.bool (decide (l.length < 12) && room s.Cells (hWs l ++ ws))) := by
  have h := Ag7 s (l ++ [(⟨0, 0, 0, rs, ws⟩ : THeld)]) hg hs hh
  have e1 : hWs (l ++ [(⟨0, 0, 0, rs, ws⟩ : THeld)]) = hWs l ++ ws := by rw [AY6, AE6]; simp [hWs]
  rw [e1, ← he] at h
  have e2 : decide ((l ++ [(⟨0, 0, 0, rs, ws⟩ : THeld)]).length ≤ 12) = decide (l.length < 12) := by rw [K4, decide_eq_decide]; simp; omega
  rw [e2] at h
  exact h
theorem BB2 (s : TState) (rs : List Str) (ws : List TWrite) (hg : goodState s = true) (hs : s.size ≤ 500000) (hw : sizeL (fun x : Str => x.length) rs + sizeL TWrite.size ws ≤ 500000) (hwa : adj wLess ws = true) : FSpec Tryz.prog 125 [AV.agg s.cs, strs rs, AV.list 3 (ws.map TWrite.cs)] (AV.bool (fits s rs ws)) := by
 have g := W6.1 hg
 obtain ⟨hs1, hs2, hs3, hs4, hs5⟩ := R8 hs
 have hwl := O8 (f := TWrite.size) (l := ws)
 have hl9 : (⟨0, 0, 0, rs, ws⟩ : THeld).Writes.length ≤ 4611686018427387903 := by show ws.length ≤ _; omega
 have ha9 : adj wLess (⟨0, 0, 0, rs, ws⟩ : THeld).Writes = true := hwa
 have hpre : ∀ k ∈ s.Held, adj wLess k.Writes = true ∧ k.Writes.length ≤ 4611686018427387903 := fun k hk => by
  obtain ⟨i, hi⟩ := List.getElem?_of_mem hk
  have := U8 hs2 hi
  exact ⟨AE9 (g.good k hk).1, by omega⟩
 have hany : (s.Held.any fun k => clash ⟨0, 0, 0, rs, ws⟩ k) = !(s.Held.all fun k => apart k rs ws) := by
  rw [List.not_all_eq_any_not]; congr 1; funext k; rw [AH3]
 have hsz : sizeL THeld.size (s.Held ++ [⟨0, 0, 0, rs, ws⟩]) ≤ 1048576 := by
  rw [n6, M8]
  show _ + (1 + (sizeL (fun x : Str => x.length) rs + sizeL TWrite.size ws) + 0) ≤ _
  omega
 refine F3 Tryz.func125 rfl Tryz.ntmps125 rfl ?_
 refine A3 (A2 ?_)
 refine M7 rfl rfl rfl rfl (A0 rfl) ?_
 intro b3
 refine A1 rfl rfl rfl (C3 rfl F5) ?_
 refine A4 (A3 (A2 ?_))
 refine A6 rfl rfl rfl rfl rfl ?_
 refine A6 rfl rfl rfl rfl rfl ?_
 refine A1 rfl rfl rfl (N2 (places := #[(0, 1), (1, 1), (2, 1), (3, 1), (4, 1)]) rfl E7 Tryz.zeroValue45 (fun w => by kernel_rfl) rfl (E8 (A0 rfl) (T4 _ _) (E8 (A0 rfl) (T4 _ _) I5)) rfl) ?_
 refine F4 rfl rfl rfl rfl Tryz.zeroValue45 rfl ?_
 intro b7
 refine D3 0 rfl rfl rfl (A0 rfl) (A0 rfl) (D8 _) rfl D4 rfl ?_
 refine A4 (A3 (A3 ?_))
 refine H9 (show _ = [Own.box b7 45 (THeld.cs ⟨0, 0, 0, rs, ws⟩), Own.box b3 30 s.cs] from rfl) ?_
 refine A2 ?_
 refine A1 rfl rfl rfl (B3 2 rfl B8 rfl F0 (A0 rfl) rfl) ?_
 refine A1 rfl rfl rfl (B2 1 rfl (A0 rfl) rfl H1 rfl) ?_
 refine A1 rfl rfl rfl (Aj9 rfl rfl (A7 (A0 rfl) D2)) ?_
 refine A1 rfl rfl rfl (X0 rfl Tryz.call183 rfl (s3 s.Held (fun g => adj wLess g.Writes = true ∧ g.Writes.length ≤ 4611686018427387903) (fun k => clash ⟨0, 0, 0, rs, ws⟩ k) hpre) (H0 _) (P2 (evb (A0 rfl)) (P2 (AC4 (Ak6 0 (A0 rfl) rfl) (AK2 Tryz.call220 (fun g hg => Ax0 _ g (by first | assumption | omega) (by assumption) hg))) V2))) ?_
 refine A4 ?_
 refine D0 (A0 rfl) ?_ ?_
 ·intro h14
  refine A3 (A2 ?_)
  refine A1 rfl rfl rfl (C3 rfl F5) ?_
  refine A4 ?_
  refine C8 ?_
  exact I2 rfl (D1 rfl (by first | exact congrArg AV.bool (by unfold fits; rw [hany] at h14; simp only [Bool.not_eq_true'] at h14; rw [h14]; rfl) | exact congrArg AV.bool (by unfold fits; rw [hany] at h14; simp only [Bool.not_eq_false'] at h14; rw [h14]; rfl)))
 ·intro h14
  refine D5 (A3 ?_)
  refine P5 _ [(0, false), (1, false), (2, false), (4, false), (5, false), (3, true), (6, true)] (by kernel_rfl) (by kernel_rfl) rfl k6 ?_
  refine F2 rfl rfl rfl (fun ext => D9 1 rfl (A0 rfl) rfl C4 A8 rfl) ?_
  refine F2 rfl rfl rfl (fun ext => B3 2 rfl B8 rfl F0 (A0 rfl) rfl) ?_
  refine F2 rfl rfl rfl (fun ext => B2 1 rfl (A0 rfl) rfl H1 rfl) ?_
  refine F2 rfl rfl rfl (fun ext => D9 0 rfl (A0 rfl) rfl I0 D4 rfl) ?_
  refine F2 rfl rfl rfl (fun ext => O1 rfl C9 D4 Tryz.zeroValue45 rfl rfl rfl rfl (E8 (A0 rfl) (D8 _) I5) rfl rfl) ?_
  refine T1 rfl rfl rfl (V8 [] rfl Tryz.call221 rfl (Ac1 _ (by first | assumption | omega)) (A7 (A0 rfl) D2) rfl) (fun a _ => (by first | exact E9 rfl | exact E9 (List.append_assoc _ _ _) | exact H5)) ?_
  intro x18 ok18
  refine T1 rfl rfl rfl (Q7 (by' := 72) 2 rfl C9 Tryz.type45 rfl rfl rfl rfl rfl rfl (A0 rfl) (A0 rfl) rfl (by first | omega | (simp only [A5, B1, B5, C1, B0, szR] at *; omega))) (fun a _ => (by first | exact E9 rfl | exact E9 (List.append_assoc _ _ _) | exact H5)) ?_
  intro v21_1 _
  refine X1 ?_
  refine A1 rfl rfl rfl (X0 rfl Tryz.call188 rfl (room_app s _ s.Held rs ws (by rw [List.map_append]; rfl) g.cells (by omega) hsz) (H0 _) (P2 (evb (A0 rfl)) (P2 (Ab3 2 (A0 rfl) rfl) V2))) ?_
  refine C2 rfl rfl rfl rfl rfl ?_
  refine A4 ?_
  refine C8 ?_
  exact I2 rfl (D1 rfl (by first | exact congrArg AV.bool (by unfold fits; rw [hany] at h14; simp only [Bool.not_eq_true'] at h14; rw [h14]; rfl) | exact congrArg AV.bool (by unfold fits; rw [hany] at h14; simp only [Bool.not_eq_false'] at h14; rw [h14]; rfl)))
theorem Ar7 (s : TState) (r : TRec) (hg : goodState s = true) (hr : goodRec r = true) (hs : s.size ≤ 400000) : GSpec Tryz.prog 101 [AV.agg s.cs, AV.agg r.cs] [] (fun _ : Value × Value => True) (fun x => TState.ow (appR s r).1 x) (fun x => AV.tup [AV.agg (TState.ocs (appR s r).1 x), AV.bool (appR s r).2]) := by
 have g := W6.1 hg
 have hgc := g.cells
 have hsr := g.hsort
 have htr := g.tsort
 obtain ⟨hs1, hs2, hs3, hs4, hs5⟩ := R8 hs
 have hrs := AN1 hr
 have hrs2 : r.size = sizeL (fun x : Str => x.length) r.Reads + sizeL TWrite.size r.Writes := rfl
 have hple := Ad1 s.Held r.Txn
 refine J3 Tryz.func101 rfl Tryz.ntmps101 rfl ?_
 refine A3 (A2 ?_)
 refine M7 rfl rfl rfl rfl (A0 rfl) ?_
 intro b2
 refine M7 rfl rfl rfl rfl (A0 rfl) ?_
 intro b3
 refine F4 rfl rfl rfl rfl Tryz.zeroValue30 rfl ?_
 intro b4
 refine A1 rfl rfl rfl (C3 rfl F5) ?_
 refine A4 (A3 (A3 (A2 ?_)))
 refine A1 rfl rfl rfl (B3 0 rfl B6 rfl C0 (A0 rfl) rfl) ?_
 refine A1 rfl rfl rfl (B2 1 rfl (A0 rfl) rfl C5 rfl) ?_
 refine A1 rfl rfl rfl (N3 rfl (A0 rfl) C6) ?_
 refine A4 ?_
 refine D0 (A0 rfl) ?_ ?_
 ·intro h14
  have k14 := M1 h14; try simp only [A5] at k14
  have hk : r.Kind = 4 := by simpa using h14
  refine A3 (A3 (A2 ?_))
  refine A1 rfl rfl rfl (B3 2 rfl B6 rfl C0 (A0 rfl) rfl) ?_
  refine A1 rfl rfl rfl (B2 1 rfl (A0 rfl) rfl C5 rfl) ?_
  refine A1 rfl rfl rfl (B3 0 rfl B8 rfl C0 (A0 rfl) rfl) ?_
  refine A1 rfl rfl rfl (B2 2 rfl (A0 rfl) rfl C5 rfl) ?_
  refine A1 rfl rfl rfl (W0 rfl (A0 rfl) (A0 rfl)) ?_
  refine A4 ?_
  refine D0 (A0 rfl) ?_ ?_
  ·intro h19
   have k19 := of_decide_eq_true h19; try simp only [A5] at k19
   have he : appR s r = (zState, false) := by (unfold appR applyS; rw [if_pos hk, if_neg (by simp; omega)])
   rw [he]
   refine A3 (A2 ?_)
   refine A1 rfl rfl rfl (N2 (places := #[(0, 1), (1, 1), (2, 1), (3, 1)]) rfl B8 Tryz.zeroValue30 (fun w => by kernel_rfl) rfl I5 rfl) ?_
   refine D3 0 rfl rfl rfl (A0 rfl) (A0 rfl) (D8 _) rfl A8 rfl ?_
   refine A1 rfl rfl rfl (C3 rfl F5) ?_
   refine A4 ?_
   refine C8 ?_
   refine U0 0 1 2 rfl rfl P6 ?_
   refine U5 45 5 ?_
   refine U5 39 3 ?_
   exact K0 [1, 0] ((Value.slice none 0 0), (Value.slice none 0 0)) (trivial) rfl (by rfl) (Q3 rfl (by decide) (E4 (G3 (ys := _) 2 rfl rfl C4 A8 rfl) (E4 (D1 rfl (by rfl)) J6)))
  ·intro h19
   have k19 := of_decide_eq_false h19; try simp only [A5] at k19
   have he : appR s r = (⟨r.Time, s.Cells, s.Held, s.Told⟩, true) := by (unfold appR applyS; rw [if_pos hk, if_pos (by simp; omega)])
   rw [he]
   refine D5 (A3 (A2 ?_))
   refine A1 rfl rfl rfl (D9 2 rfl (A0 rfl) rfl C4 A8 rfl) ?_
   refine I8 [] rfl rfl rfl rfl Tryz.call198 rfl (AB6 s (by omega)) (A7 (A0 rfl) D2) rfl ?_
   intro x22 ok22
   refine F4 rfl rfl rfl rfl Tryz.zeroValue30 rfl ?_
   intro b6
   refine D3 0 rfl rfl rfl (A0 rfl) (A0 rfl) (D8 _) rfl A8 rfl ?_
   refine A4 (A3 ?_)
   refine H9 (by first | (simp only [TState.ow, TState.ocs, pick, L5, L1, L2, K9, L3, List.nil_append, L6, L7, List.append_nil, L0, List.take_zero, L4, List.drop_zero]; exact rfl) | exact rfl) ?_
   refine A2 ?_
   refine A1 rfl rfl rfl (B3 2 rfl B6 rfl C0 (A0 rfl) rfl) ?_
   refine A1 rfl rfl rfl (B2 4 rfl (A0 rfl) rfl C5 rfl) ?_
   refine A1 rfl rfl rfl (B3 0 rfl B8 rfl C0 (A0 rfl) rfl) ?_
   refine I3 0 rfl rfl rfl (A0 rfl) (A0 rfl) (L9 _ _) rfl C0 rfl ?_
   refine A4 (A3 ?_)
   refine H9 (by first | (simp only [TState.ow, TState.ocs, pick, L5, L1, L2, K9, L3, List.nil_append, L6, L7, List.append_nil, L0, List.take_zero, L4, List.drop_zero]; exact rfl) | exact rfl) ?_
   refine A2 ?_
   refine A1 rfl rfl rfl (D9 0 rfl (A0 rfl) rfl C4 A8 rfl) ?_
   refine D3 3 rfl rfl rfl (A0 rfl) (A0 rfl) (D8 _) rfl A8 rfl ?_
   refine A1 rfl rfl rfl (C3 rfl F5) ?_
   refine A4 ?_
   refine C8 ?_
   exact K0 [1, 1] (x22.1, x22.2) (trivial) rfl (by rfl) (Q3 rfl (by decide) (E4 (G3 (ys := _) 3 rfl rfl C4 A8 rfl) (E4 (D1 rfl (by rfl)) J6)))
 ·intro h14
  have k14 := M0 h14; try simp only [A5] at k14
  have hk4 : r.Kind ≠ 4 := by simpa using h14
  refine D5 (A3 (A3 (A2 ?_)))
  refine A1 rfl rfl rfl (D9 2 rfl (A0 rfl) rfl C4 A8 rfl) ?_
  refine A1 rfl rfl rfl (B3 1 rfl B6 rfl C0 (A0 rfl) rfl) ?_
  refine A1 rfl rfl rfl (B2 1 rfl (A0 rfl) rfl C5 rfl) ?_
  refine A1 rfl rfl rfl (F1 rfl Tryz.call97 rfl (AM9 s r.Txn (by omega)) (A7 (A0 rfl) (A7 (A0 rfl) D2))) ?_
  refine A6 rfl rfl rfl rfl rfl ?_
  refine A1 rfl rfl rfl (F6 rfl (A0 rfl) rfl) ?_
  refine A1 rfl rfl rfl (F6 rfl (A0 rfl) rfl) ?_
  refine C2 rfl rfl rfl rfl rfl ?_
  refine C2 rfl rfl rfl rfl rfl ?_
  refine A4 (A3 (A2 ?_))
  refine A6 rfl rfl rfl rfl rfl ?_
  refine A4 ?_
  refine D0 (A0 rfl) ?_ ?_
  ·intro h34
   have hT : hasT s.Told r.Txn = true := by (rw [← AJ4 htr]; exact h34)
   have he : appR s r = (zState, false) := by (unfold appR applyS; rw [if_neg hk4, if_pos hT]; rfl)
   rw [he]
   refine A3 (A2 ?_)
   refine A1 rfl rfl rfl (N2 (places := #[(0, 1), (1, 1), (2, 1), (3, 1)]) rfl B8 Tryz.zeroValue30 (fun w => by kernel_rfl) rfl I5 rfl) ?_
   refine D3 0 rfl rfl rfl (A0 rfl) (A0 rfl) (D8 _) rfl A8 rfl ?_
   refine A1 rfl rfl rfl (C3 rfl F5) ?_
   refine A4 ?_
   refine C8 ?_
   refine U0 0 1 2 rfl rfl P6 ?_
   refine U5 45 5 ?_
   refine U5 39 3 ?_
   exact K0 [1, 0] ((Value.slice none 0 0), (Value.slice none 0 0)) (trivial) rfl (by rfl) (Q3 rfl (by decide) (E4 (G3 (ys := _) 2 rfl rfl C4 A8 rfl) (E4 (D1 rfl (by rfl)) J6)))
  ·intro h34
   have hT : hasT s.Told r.Txn = false := by (rw [← AJ4 htr]; exact h34)
   refine D5 (A3 (A3 (A2 ?_)))
   refine A1 rfl rfl rfl (B3 0 rfl B6 rfl C0 (A0 rfl) rfl) ?_
   refine A1 rfl rfl rfl (B2 1 rfl (A0 rfl) rfl C5 rfl) ?_
   refine A1 rfl rfl rfl (Z7 rfl (A0 rfl) C6) ?_
   refine A4 ?_
   refine D0 (A0 rfl) ?_ ?_
   ·intro h38
    have k38 := W9 h38; try simp only [A5] at k38
    have hk1 : r.Kind ≠ 1 := by simpa using h38
    rw [appR_dec hk4 hT hk1]
    refine A3 (A2 ?_)
    refine A1 rfl rfl rfl (D9 2 rfl (A0 rfl) rfl C4 A8 rfl) ?_
    refine A1 rfl rfl rfl (D9 1 rfl (A0 rfl) rfl G5 E0 rfl) ?_
    refine I8 [] rfl rfl rfl rfl Tryz.call199 rfl (Ar5 s r hgc hsr htr hT (by omega)) (A7 (A0 rfl) (A7 (A0 rfl) D2)) rfl ?_
    intro x41 ok41
    refine A1 rfl rfl rfl (F6 rfl (A0 rfl) rfl) ?_
    refine A1 rfl rfl rfl (F6 rfl (A0 rfl) rfl) ?_
    refine D3 2 rfl rfl rfl (A0 rfl) (A0 rfl) (D8 _) rfl A8 rfl ?_
    refine C2 rfl rfl rfl rfl rfl ?_
    refine A4 ?_
    refine C8 ?_
    exact K0 [0, 0] (x41.1, x41.2) (trivial) rfl (by rfl) (Q3 rfl (by decide) (E4 (G3 (ys := _) 2 rfl rfl C4 A8 rfl) (E4 (D1 rfl (by rfl)) J6)))
   ·intro h38
    have k38 := S8 h38; try simp only [A5] at k38
    have hk1 : r.Kind = 1 := by simpa using h38
    have hwa : adj wLess r.Writes = true := by (rw [← Am7 hr hk1] at hr; exact AE9 hr)
    refine D5 (A3 (A2 ?_))
    refine A1 rfl rfl rfl (D9 2 rfl (A0 rfl) rfl C4 A8 rfl) ?_
    refine A1 rfl rfl rfl (B3 1 rfl B6 rfl C0 (A0 rfl) rfl) ?_
    refine A1 rfl rfl rfl (B2 1 rfl (A0 rfl) rfl C5 rfl) ?_
    refine A1 rfl rfl rfl (F1 rfl Tryz.call96 rfl (q8 s r.Txn (by omega)) (A7 (A0 rfl) (A7 (A0 rfl) D2))) ?_
    refine A6 rfl rfl rfl rfl rfl ?_
    refine A1 rfl rfl rfl (F6 rfl (A0 rfl) rfl) ?_
    refine A1 rfl rfl rfl (F6 rfl (A0 rfl) rfl) ?_
    refine C2 rfl rfl rfl rfl rfl ?_
    refine C2 rfl rfl rfl rfl rfl ?_
    refine A4 (A3 (A3 (A2 ?_)))
    refine A6 rfl rfl rfl rfl rfl ?_
    refine A6 rfl rfl rfl rfl rfl ?_
    refine B7 rfl rfl (D6 rfl rfl rfl) (fun hc => B3 2 rfl B6 rfl C0 (A0 rfl) rfl) ?_
    refine B7 rfl rfl (D6 rfl rfl rfl) (fun hc => B2 1 rfl (A9 rfl hc) rfl C5 rfl) ?_
    refine B7 rfl rfl (D6 rfl rfl rfl) (fun hc => B3 0 rfl B8 rfl C0 (A0 rfl) rfl) ?_
    refine B7 rfl rfl (D6 rfl rfl rfl) (fun hc => B2 2 rfl (A9 rfl hc) rfl C5 rfl) ?_
    refine B7 rfl rfl (D6 rfl rfl rfl) (fun hc => W0 rfl (A9 rfl hc) (A9 rfl hc)) ?_
    refine A1 rfl rfl rfl (R4 rfl (A0 rfl) (G2 rfl)) ?_
    refine A6 rfl rfl rfl rfl rfl ?_
    refine B7 rfl rfl (D6 rfl rfl rfl) (fun hc => D9 2 rfl (A0 rfl) rfl C4 A8 rfl) ?_
    refine B7 rfl rfl (D6 rfl rfl rfl) (fun hc => B3 4 rfl B6 rfl L8 (A0 rfl) rfl) ?_
    refine B7 rfl rfl (D6 rfl rfl rfl) (fun hc => B2 1 rfl (A9 rfl hc) rfl O4 rfl) ?_
    refine B7 rfl rfl (D6 rfl rfl rfl) (fun hc => B3 5 rfl B6 rfl K6 (A0 rfl) rfl) ?_
    refine B7 rfl rfl (D6 rfl rfl rfl) (fun hc => B2 1 rfl (A9 rfl hc) rfl M5 rfl) ?_
    refine B7 rfl rfl (D6 rfl rfl rfl) (fun hc => F1 rfl Tryz.call125 rfl (BB2 s r.Reads r.Writes hg (by omega) (by omega) hwa) (A7 (A9 rfl hc) (A7 (A9 rfl hc) (A7 (A9 rfl hc) D2)))) ?_
    refine B7 rfl rfl (D6 rfl rfl rfl) (fun hc => N1 rfl (A9 rfl hc)) ?_
    refine A1 rfl rfl rfl (R4 rfl (A0 rfl) (G2 rfl)) ?_
    refine A4 ?_
    refine D0 (A0 rfl) ?_ ?_
    ·intro h67
     have he : appR s r = (zState, false) := by (unfold appR applyS; rw [if_neg hk4, if_neg (show ¬ hasT s.Told r.Txn = true by rw [hT]; decide), if_pos hk1, if_neg (by rw [← p5 hsr]; intro h; simp only [Bool.and_eq_true, Bool.not_eq_true', decide_eq_true_eq] at h; rw [h.1.1, h.2, decide_eq_false (by omega)] at h67; simp at h67)])
     rw [he]
     refine A3 (A2 ?_)
     refine A1 rfl rfl rfl (N2 (places := #[(0, 1), (1, 1), (2, 1), (3, 1)]) rfl B8 Tryz.zeroValue30 (fun w => by kernel_rfl) rfl I5 rfl) ?_
     refine D3 0 rfl rfl rfl (A0 rfl) (A0 rfl) (D8 _) rfl A8 rfl ?_
     refine A1 rfl rfl rfl (C3 rfl F5) ?_
     refine A4 ?_
     refine C8 ?_
     refine U0 0 1 2 rfl rfl P6 ?_
     refine U5 45 5 ?_
     refine U5 39 3 ?_
     exact K0 [1, 0] ((Value.slice none 0 0), (Value.slice none 0 0)) (trivial) rfl (by rfl) (Q3 rfl (by decide) (E4 (G3 (ys := _) 2 rfl rfl C4 A8 rfl) (E4 (D1 rfl (by rfl)) J6)))
    ·intro h67
     simp only [Bool.or_eq_false_iff, Bool.not_eq_false', decide_eq_false_iff_not] at h67
     obtain ⟨⟨q1, q2⟩, q3⟩ := h67
     have he : appR s r = (⟨r.Time, s.Cells, insH (hOf r) s.Held, s.Told⟩, true) := by (unfold appR applyS; rw [if_neg hk4, if_neg (show ¬ hasT s.Told r.Txn = true by rw [hT]; decide), if_pos hk1, if_pos (by rw [← p5 hsr, q1, q3, decide_eq_true (show s.Floor < r.Time by omega)]; rfl)])
     have hins : insH (hOf r) s.Held = s.Held.take (hPos s.Held r.Txn) ++ hOf r :: s.Held.drop (hPos s.Held r.Txn) := insH_pos (h := hOf r) hsr q1
     rw [he, hins]
     refine D5 (A3 (A2 ?_))
     refine A1 rfl rfl rfl (D9 2 rfl (A0 rfl) rfl C4 A8 rfl) ?_
     refine I8 [] rfl rfl rfl rfl Tryz.call198 rfl (AB6 s (by omega)) (A7 (A0 rfl) D2) rfl ?_
     intro x70 ok70
     refine F4 rfl rfl rfl rfl Tryz.zeroValue30 rfl ?_
     intro b11
     refine D3 0 rfl rfl rfl (A0 rfl) (A0 rfl) (D8 _) rfl A8 rfl ?_
     refine A4 (A3 ?_)
     refine H9 (by first | (simp only [TState.ow, TState.ocs, pick, L5, L1, L2, K9, L3, List.nil_append, L6, L7, List.append_nil, L0, List.take_zero, L4, List.drop_zero]; exact rfl) | exact rfl) ?_
     refine AWP.le (H7 [0, 3] rfl) ?_
     refine P5 _ [(0, false), (1, false), (2, false), (3, false), (4, false), (5, true), (6, true)] (by kernel_rfl) (by kernel_rfl) rfl (N8 2) ?_
     refine F2 rfl rfl rfl (fun ext => B3 2 rfl B8 rfl F0 (A0 rfl) rfl) ?_
     refine F2 rfl rfl rfl (fun ext => B2 0 rfl (A0 rfl) rfl H1 rfl) ?_
     refine F2 rfl rfl rfl (fun ext => C7 rfl (A0 rfl)) ?_
     refine F2 rfl rfl rfl (fun ext => D9 1 rfl (A0 rfl) rfl G5 E0 rfl) ?_
     refine F2 rfl rfl rfl (fun ext => F1 rfl Tryz.call195 rfl (AU4 r (by omega)) (A7 (A0 rfl) D2)) ?_
     refine T1 rfl rfl rfl (AC6 rfl C9 D4 Tryz.zeroValue45 rfl rfl rfl rfl (E8 (A0 rfl) (D8 _) I5) rfl rfl) (fun a _ => (by first | exact E9 rfl | exact E9 (List.append_assoc _ _ _) | exact H5)) ?_
     intro v76 _
     refine T1 rfl rfl rfl (V8 [2, 5] rfl Tryz.call200 rfl (Ac2 _ _ s.Held (hOf r) (hPos s.Held r.Txn) hple (by omega)) (A7 (A0 rfl) (A7 (A0 rfl) (A7 (A0 rfl) D2))) rfl) (fun a _ => (by first | exact E9 rfl | exact E9 (List.append_assoc _ _ _) | exact H5)) ?_
     intro x77 ok77
     refine X1 ?_
     refine A1 rfl rfl rfl (B3 2 rfl B8 rfl F0 (A0 rfl) rfl) ?_
     refine R9 5 rfl fun one_x77 => ?_
     refine I3 0 rfl rfl rfl (A0 rfl) (A0 rfl) (S4 one_x77) rfl F0 rfl ?_
     refine A4 (A3 ?_)
     refine H9 (by first | (simp only [TState.ow, TState.ocs, pick, L5, L1, L2, K9, L3, List.nil_append, L6, L7, List.append_nil, L0, List.take_zero, L4, List.drop_zero]; exact rfl) | exact rfl) ?_
     refine A2 ?_
     refine A1 rfl rfl rfl (B3 2 rfl B6 rfl C0 (A0 rfl) rfl) ?_
     refine A1 rfl rfl rfl (B2 1 rfl (A0 rfl) rfl C5 rfl) ?_
     refine A1 rfl rfl rfl (B3 0 rfl B8 rfl C0 (A0 rfl) rfl) ?_
     refine I3 0 rfl rfl rfl (A0 rfl) (A0 rfl) (L9 _ _) rfl C0 rfl ?_
     refine A4 (A3 ?_)
     refine H9 (by first | (simp only [TState.ow, TState.ocs, pick, L5, L1, L2, K9, L3, List.nil_append, L6, L7, List.append_nil, L0, List.take_zero, L4, List.drop_zero]; exact rfl) | exact rfl) ?_
     refine A2 ?_
     refine A1 rfl rfl rfl (D9 0 rfl (A0 rfl) rfl C4 A8 rfl) ?_
     refine D3 3 rfl rfl rfl (A0 rfl) (A0 rfl) (D8 _) rfl A8 rfl ?_
     refine A1 rfl rfl rfl (C3 rfl F5) ?_
     refine A4 ?_
     refine C8 ?_
     exact K0 [5, 2] (x77, x70.2) (trivial) rfl (by rfl) (Q3 rfl (by decide) (E4 (G3 (ys := _) 3 rfl rfl C4 A8 rfl) (E4 (D1 rfl (by rfl)) J6)))
end Go.Proofs.YtnlhbdkcgaeimaaGreat

set_option linter.unusedVariables false
set_option linter.unusedSimpArgs false
set_option maxRecDepth 100000
set_option maxHeartbeats 1000000
namespace Go.M
open Go.AV
theorem Au4 {α : Type} {p : α → Bool} (l : List α) : (l.any fun x => !p x) = !l.all p := by rw [List.not_all_eq_any_not]
theorem AU5 (a b : THeld) : decide (hRec a = hRec b) = decide (a = b) := by
  rw [decide_eq_decide]
  constructor
  · intro h; cases a; cases b; unfold hRec at h; simp_all
  · rintro rfl; rfl
theorem Ax8 (a b : TState) : (((a.Floor == b.Floor && decide (a.Cells = b.Cells)) && decide (a.Held = b.Held)) && decide (a.Told = b.Told)) = decide (a = b) := by
  cases a; cases b
  rw [Bool.eq_iff_iff]
  simp only [Bool.and_eq_true, beq_iff_eq, decide_eq_true_eq, TState.mk.injEq, and_assoc]
end Go.M
namespace Go.Proofs.YtnlhbdkcgaeimaaGreat
open Go Go.AV Go.M
attribute [local irreducible] OpW OpA OpS AWP FSpec ESpec GSpec OpE RetOk RetOkG RvDen Le Ev GuardIs SrcIs Int.tmod Int.tdiv IntKind.wrap
theorem AQ8 (s : TState) (r : TRec) (hg : goodState s = true) (hr : goodRec r = true) (hs : s.size ≤ 400000) : FSpec Tryz.prog 101 [AV.agg s.cs, AV.agg r.cs] (AV.tup [AV.agg (appR s r).1.cs, AV.bool (appR s r).2]) :=
  T6 (Ar7 s r hg hr hs) fun x _ => AI3 (H6 (X8 (TState.lc _ x)) (H6 N0 U4))
theorem AN2 (s : TState) (r : TRec) (hs : s.size ≤ 400000) (hrs : r.size ≤ 1048576) : FSpec Tryz.prog 19 [AV.agg s.cs, AV.agg r.cs] (AV.tup [AV.agg (applyRecR s r).1.cs, AV.bool (applyRecR s r).2]) := by
 refine F3 Tryz.func19 rfl Tryz.ntmps19 rfl ?_
 refine A3 (A2 ?_)
 refine M7 rfl rfl rfl rfl (A0 rfl) ?_
 intro b2
 refine M7 rfl rfl rfl rfl (A0 rfl) ?_
 intro b3
 refine F4 rfl rfl rfl rfl Tryz.zeroValue30 rfl ?_
 intro b4
 refine A1 rfl rfl rfl (C3 rfl F5) ?_
 refine A4 (A3 (A3 (A2 ?_)))
 refine A1 rfl rfl rfl (D9 2 rfl (A0 rfl) rfl C4 A8 rfl) ?_
 refine A1 rfl rfl rfl (F1 rfl Tryz.call15 rfl (Y0 _ (by first | assumption | omega)) (A7 (A0 rfl) D2)) ?_
 refine A1 rfl rfl rfl (N1 rfl (A0 rfl)) ?_
 refine A6 rfl rfl rfl rfl rfl ?_
 refine B7 rfl rfl (D6 rfl rfl rfl) (fun hc => D9 1 rfl (A0 rfl) rfl G5 E0 rfl) ?_
 refine B7 rfl rfl (D6 rfl rfl rfl) (fun hc => F1 rfl Tryz.call83 rfl (AE7 _ (by first | assumption | omega)) (A7 (A9 rfl hc) D2)) ?_
 refine B7 rfl rfl (D6 rfl rfl rfl) (fun hc => N1 rfl (A9 rfl hc)) ?_
 refine A1 rfl rfl rfl (R4 rfl (A0 rfl) (G2 rfl)) ?_
 refine A4 ?_
 refine D0 (A0 rfl) ?_ ?_
 ·intro h13
  have he : applyRecR s r = (zState, false) := by (unfold applyRecR; rw [if_neg (by intro h; rw [h.1, h.2] at h13; cases h13)])
  rw [he]
  refine A3 (A2 ?_)
  refine A1 rfl rfl rfl (N2 (places := #[(0, 1), (1, 1), (2, 1), (3, 1)]) rfl B8 Tryz.zeroValue30 (fun w => by kernel_rfl) rfl I5 rfl) ?_
  refine D3 0 rfl rfl rfl (A0 rfl) (A0 rfl) (D8 _) rfl A8 rfl ?_
  refine A1 rfl rfl rfl (C3 rfl F5) ?_
  refine A4 ?_
  refine C8 ?_
  refine U1 0 1 2 rfl rfl ?_
  refine U1 0 2 5 rfl rfl ?_
  refine U1 0 3 3 rfl rfl ?_
  exact W7 rfl (by decide) (E4 (G3 (ys := _) 0 rfl rfl C4 A8 rfl) (E4 (D1 rfl (by rfl)) J6))
 ·intro h13
  have hgd : goodState s = true ∧ goodRec r = true := by simpa using h13
  have he : applyRecR s r = appR s r := if_pos hgd
  rw [he]
  obtain ⟨hg1, hg2⟩ := hgd
  refine D5 (A3 (A2 ?_))
  refine A1 rfl rfl rfl (D9 2 rfl (A0 rfl) rfl C4 A8 rfl) ?_
  refine A1 rfl rfl rfl (D9 1 rfl (A0 rfl) rfl G5 E0 rfl) ?_
  refine A1 rfl rfl rfl (F1 rfl Tryz.call101 rfl (AQ8 _ _ (by assumption) (by assumption) (by first | assumption | omega)) (A7 (A0 rfl) (A7 (A0 rfl) D2))) ?_
  refine A1 rfl rfl rfl (F6 rfl (A0 rfl) rfl) ?_
  refine A1 rfl rfl rfl (F6 rfl (A0 rfl) rfl) ?_
  refine D3 0 rfl rfl rfl (A0 rfl) (A0 rfl) (D8 _) rfl A8 rfl ?_
  refine C2 rfl rfl rfl rfl rfl ?_
  refine A4 ?_
  refine C8 ?_
  exact W7 rfl (by decide) (E4 (G3 (ys := _) 0 rfl rfl C4 A8 rfl) (E4 (D1 rfl (by rfl)) J6))
theorem Ai9 (r : TRec) (hs : r.size ≤ 1048576) : FSpec Tryz.prog 82 [AV.agg r.cs] (AV.bool (!goodRec r)) := by
 refine F3 Tryz.func82 rfl Tryz.ntmps82 rfl ?_
 refine A3 (A2 ?_)
 refine M7 rfl rfl rfl rfl (A0 rfl) ?_
 intro b1
 refine A1 rfl rfl rfl (C3 rfl F5) ?_
 refine A4 (A3 (A2 ?_))
 refine A1 rfl rfl rfl (D9 0 rfl (A0 rfl) rfl G5 E0 rfl) ?_
 refine A1 rfl rfl rfl (F1 rfl Tryz.call83 rfl (AE7 _ (by first | assumption | omega)) (A7 (A0 rfl) D2)) ?_
 refine A1 rfl rfl rfl (N1 rfl (A0 rfl)) ?_
 refine C2 rfl rfl rfl rfl rfl ?_
 refine A4 ?_
 refine C8 ?_
 exact I2 rfl (D1 rfl (by first | rfl | (refine congrArg AV.bool ?_; simp_all; done)))
theorem Ar8 (l : List TRec) (hg : ∀ r ∈ l, goodRec r = true) (hl : l.length ≤ 60) : GSpec Tryz.prog 84 [AV.list 7 (l.map TRec.cs)] [] (fun _ : Value => True) (fun x => [.arr x 4 1 ((didFrom zState l).map fun b => [AV.bool b])]) (fun x => AV.tup [AV.agg (stFrom zState l).cs, AV.is x]) := by
 have hgs : ∀ i, GS (stFrom zState (l.take i)) := fun i => AD8 AD7 fun r hr => hg r (List.mem_of_mem_take hr)
 have hsz : ∀ i, (stFrom zState (l.take i)).size ≤ 400000 := fun i => by
  have h1 := w4 (stFrom zState (l.take i))
  have h2 := w5 (m := 400) (s := zState) (l := l.take i) fun r hr => AN1 (hg r (List.mem_of_mem_take hr))
  have h3 : phi zState = 0 := rfl
  have h4 : (l.take i).length ≤ 60 := by rw [B1]; omega
  have h5 : (l.take i).length * (3 * (1 + 400) + 1) ≤ 60 * 1204 := Nat.mul_le_mul h4 (by decide)
  omega
 refine J3 Tryz.func84 rfl Tryz.ntmps84 rfl ?_
 refine A3 (A2 ?_)
 refine F4 rfl rfl rfl rfl Tryz.zeroValue30 rfl ?_
 intro b2
 refine A1 rfl rfl rfl (C3 rfl M6) ?_
 refine A4 (A3 (A2 ?_))
 refine A1 rfl rfl rfl (N2 (places := #[(0, 1), (1, 1), (2, 1), (3, 1)]) rfl B8 Tryz.zeroValue30 (fun w => by kernel_rfl) rfl I5 rfl) ?_
 refine F4 rfl rfl rfl rfl Tryz.zeroValue30 rfl ?_
 intro b4
 refine D3 0 rfl rfl rfl (A0 rfl) (A0 rfl) (D8 _) rfl A8 rfl ?_
 refine A4 (A3 ?_)
 refine AWP.le (m2 0 1 2 rfl rfl P6) ?_
 refine AWP.le (m2 0 2 5 rfl rfl P6) ?_
 refine AWP.le (m2 0 3 3 rfl rfl P6) ?_
 refine A2 ?_
 refine U2 rfl rfl rfl rfl P9 J7 ?_
 intro v11
 refine C2 rfl rfl rfl rfl rfl ?_
 refine A4 (A3 (A3 (A2 ?_)))
 refine A6 rfl rfl rfl rfl rfl ?_
 refine A1 rfl rfl rfl (G4 rfl K2 (A0 rfl)) ?_
 refine A1 rfl rfl rfl (C7 rfl C6) ?_
 refine A4 (E1 ?_)
 refine AWP.le (H7 [1, 0] rfl) ?_
 refine Y1 [(2, _), (3, _), (4, _), (12, _), (13, _)] _ (fun (i : Nat) (v : Value) (bs : List Bool) => i ≤ l.length ∧ bs = didFrom zState (l.take i) ∧ bs.length ≤ i) (fun (i : Nat) (v : Value) (bs : List Bool) => [.box b4 30 (stFrom zState (l.take i)).cs, .arr v 4 1 (bs.map fun b => [AV.bool b])]) (fun (i : Nat) (v : Value) (bs : List Bool) => [(5, AV.is v), (14, AV.int i)]) (fun (i : Nat) (v : Value) (bs : List Bool) => l.length - i) (0) (v11) ([]) ?_ (U7 (by rfl) ⟨rfl, rfl, rfl, rfl, rfl, rfl, rfl, trivial⟩) ?_
 ·exact ⟨Nat.zero_le _, rfl, Nat.le_refl _⟩
 intro i v bs hinv
 refine A3 (A2 ?_)
 refine A1 rfl rfl rfl (M2 rfl (A0 rfl) (A0 rfl)) ?_
 refine A4 (A3 ?_)
 refine D0 (A0 rfl) ?_ ?_
 ·intro h15
  have k15 := of_decide_eq_true h15; try simp only [A5] at k15
  have hlt : i < l.length := by omega
  obtain ⟨r, hx⟩ := get_some hlt
  have hgr := hg r (H2 hx)
  have hgi := W6.2 (hgs i)
  have hsi := hsz i
  have hst := BB1 (stFrom zState (l.take i)) r
  refine D5 (A3 (E1 (A3 (A2 ?_))))
  refine A1 rfl rfl rfl (J4 rfl K2 E0 (A0 rfl) (A0 rfl) hx (by first | omega | (simp only [A5, B1, B5, C1, B0, szR] at *; omega))) ?_
  refine A1 rfl rfl rfl (K7 rfl (A0 rfl) G5 E0) ?_
  refine F4 rfl rfl rfl rfl Tryz.zeroValue49 rfl ?_
  intro b7
  refine D3 0 rfl rfl rfl (A0 rfl) (A0 rfl) (D8 _) rfl E0 rfl ?_
  refine A4 (A3 (A2 ?_))
  refine A1 rfl rfl rfl (D9 1 rfl (A0 rfl) rfl C4 A8 rfl) ?_
  refine A1 rfl rfl rfl (D9 0 rfl (A0 rfl) rfl G5 E0 rfl) ?_
  refine A1 rfl rfl rfl (F1 rfl Tryz.call101 rfl (AQ8 (stFrom zState (l.take i)) r hgi hgr hsi) (A7 (A0 rfl) (A7 (A0 rfl) D2))) ?_
  refine A6 rfl rfl rfl rfl rfl ?_
  refine A1 rfl rfl rfl (F6 rfl (A0 rfl) rfl) ?_
  refine A1 rfl rfl rfl (F6 rfl (A0 rfl) rfl) ?_
  refine F4 rfl rfl rfl rfl Tryz.zeroValue30 rfl ?_
  intro b8
  refine D3 0 rfl rfl rfl (A0 rfl) (A0 rfl) (D8 _) rfl A8 rfl ?_
  refine C2 rfl rfl rfl rfl rfl ?_
  refine A4 (A3 (A3 (A2 ?_)))
  refine A6 rfl rfl rfl rfl rfl ?_
  refine A4 ?_
  refine D0 (A0 rfl) ?_ ?_
  ·intro h24
   have hstep : (appR (stFrom zState (l.take i)) r).1 = stepS (stFrom zState (l.take i)) r := by (rw [← hst, if_pos h24])
   refine A2 ?_
   refine A1 rfl rfl rfl (D9 0 rfl (A0 rfl) rfl C4 A8 rfl) ?_
   refine D3 2 rfl rfl rfl (A0 rfl) (A0 rfl) (D8 _) rfl A8 rfl ?_
   refine A4 (A2 ?_)
   refine A6 rfl rfl rfl rfl rfl ?_
   refine A6 rfl rfl rfl rfl rfl ?_
   refine A1 rfl rfl rfl (O1 rfl P9 J7 Tryz.zeroValue4 rfl rfl rfl rfl (E8 (A0 rfl) (W1 _) I5) rfl rfl) ?_
   refine N6 (by' := 1) 3 rfl rfl rfl rfl P9 Tryz.type4 rfl rfl rfl rfl rfl rfl (A0 rfl) (A0 rfl) rfl (by first | omega | (simp only [A5, B1, B5, C1, B0, szR] at *; omega)) ?_
   intro v29_1
   refine C2 rfl rfl rfl rfl rfl ?_
   refine A4 (A2 ?_)
   refine A1 rfl rfl rfl (H4 rfl (A0 rfl) C6 (by first | omega | (simp only [A5, B1, B5, C1, B0, szR] at *; omega))) ?_
   refine A6 rfl rfl rfl rfl rfl ?_
   refine A4 ?_
   refine V9 i v bs (i + 1) (v29_1) (bs ++ [(appR (stFrom zState (l.take i)) r).2]) ?_ ?_ (Le.trans (H7 [0, 0, 0, 0] rfl) (P1 2 (by first | (rw [List.map_append, n1 hx, ← hstep]; rfl) | rfl) ⟨rfl, rfl, rfl, rfl, rfl, rfl, rfl, trivial⟩))
   ·exact ⟨by omega, by rw [j9 hx, hinv.2.1, (Au3 _ _).1], by rw [K4]; simp; omega⟩
   ·omega
  ·intro h24
   have hstep : stFrom zState (l.take i) = stepS (stFrom zState (l.take i)) r := by (conv => rhs; rw [← hst, if_neg (by rw [h24]; decide)])
   refine D5 (A2 ?_)
   refine A6 rfl rfl rfl rfl rfl ?_
   refine A6 rfl rfl rfl rfl rfl ?_
   refine A1 rfl rfl rfl (O1 rfl P9 J7 Tryz.zeroValue4 rfl rfl rfl rfl (E8 (A0 rfl) (W1 _) I5) rfl rfl) ?_
   refine N6 (by' := 1) 3 rfl rfl rfl rfl P9 Tryz.type4 rfl rfl rfl rfl rfl rfl (A0 rfl) (A0 rfl) rfl (by first | omega | (simp only [A5, B1, B5, C1, B0, szR] at *; omega)) ?_
   intro v29_2
   refine C2 rfl rfl rfl rfl rfl ?_
   refine A4 (A2 ?_)
   refine A1 rfl rfl rfl (H4 rfl (A0 rfl) C6 (by first | omega | (simp only [A5, B1, B5, C1, B0, szR] at *; omega))) ?_
   refine A6 rfl rfl rfl rfl rfl ?_
   refine A4 ?_
   refine V9 i v bs (i + 1) (v29_2) (bs ++ [(appR (stFrom zState (l.take i)) r).2]) ?_ ?_ (Le.trans (H7 [0, 0, 0, 0] rfl) (P1 2 (by first | (rw [List.map_append, n1 hx, ← hstep]; rfl) | rfl) ⟨rfl, rfl, rfl, rfl, rfl, rfl, rfl, trivial⟩))
   ·exact ⟨by omega, by rw [j9 hx, hinv.2.1, (Au3 _ _).1], by rw [K4]; simp; omega⟩
   ·omega
 ·intro h15
  have k15 := of_decide_eq_false h15; try simp only [A5] at k15
  have hge : i = l.length := by omega
  have hbs := hinv.2.1
  rw [hge, List.take_length] at hbs
  rw [hge, List.take_length, ← hbs]
  refine I4 ?_
  refine A3 (A2 ?_)
  refine A1 rfl rfl rfl (D9 0 rfl (A0 rfl) rfl C4 A8 rfl) ?_
  refine A6 rfl rfl rfl rfl rfl ?_
  refine D3 2 rfl rfl rfl (A0 rfl) (A0 rfl) (D8 _) rfl A8 rfl ?_
  refine C2 rfl rfl rfl rfl rfl ?_
  refine A4 ?_
  refine C8 ?_
  exact K0 [1] v (trivial) rfl (by rfl) (Q3 rfl (by decide) (E4 (G3 (ys := _) 2 rfl rfl C4 A8 rfl) (E4 (D1 rfl (by rfl)) J6)))
theorem Ao9 (l : List TRec) (hl : l.length ≤ 1048576) (hs : ∀ r ∈ l, r.size ≤ 1048576) : GSpec Tryz.prog 10 [AV.list 7 (l.map TRec.cs)] [] (fun _ : Value => True) (fun x => [.arr x 4 1 ((stateOfR l).2.1.map fun b => [AV.bool b])]) (fun x => AV.tup [AV.agg (stateOfR l).1.cs, AV.is x, AV.bool (stateOfR l).2.2]) := by
 refine J3 Tryz.func10 rfl Tryz.ntmps10 rfl ?_
 refine A3 (A2 ?_)
 refine F4 rfl rfl rfl rfl Tryz.zeroValue30 rfl ?_
 intro b2
 refine A1 rfl rfl rfl (C3 rfl M6) ?_
 refine A1 rfl rfl rfl (C3 rfl F5) ?_
 refine A4 (A3 (A3 (A2 ?_)))
 refine A6 rfl rfl rfl rfl rfl ?_
 refine A1 rfl rfl rfl (G4 rfl K2 (A0 rfl)) ?_
 refine A1 rfl rfl rfl (P4 rfl (A0 rfl) C6) ?_
 refine A6 rfl rfl rfl rfl rfl ?_
 refine B7 rfl rfl (D6 rfl rfl rfl) (fun hc => C7 rfl (A0 rfl)) ?_
 refine B7 rfl rfl (D6 rfl rfl rfl) (fun hc => F1 rfl Tryz.call81 rfl (AL6 l (fun r => r.size ≤ 1048576) (fun r => !goodRec r) hs) (A7 (A9 rfl hc) (A7 (At0 Tryz.call82 (fun r h => Ai9 r h)) D2))) ?_
 refine A1 rfl rfl rfl (R4 rfl (A0 rfl) (G2 rfl)) ?_
 refine A4 ?_
 refine D0 (A0 rfl) ?_ ?_
 ·intro h13
  have he : stateOfR l = (zState, [], false) := by (unfold stateOfR; rw [if_neg (by intro h; rw [Au4, h.2] at h13; simp at h13; omega)])
  rw [he]
  refine A3 (A2 ?_)
  refine A1 rfl rfl rfl (N2 (places := #[(0, 1), (1, 1), (2, 1), (3, 1)]) rfl B8 Tryz.zeroValue30 (fun w => by kernel_rfl) rfl I5 rfl) ?_
  refine D3 0 rfl rfl rfl (A0 rfl) (A0 rfl) (D8 _) rfl A8 rfl ?_
  refine A1 rfl rfl rfl (C3 rfl M6) ?_
  refine A1 rfl rfl rfl (C3 rfl F5) ?_
  refine A4 ?_
  refine C8 ?_
  refine U0 0 1 2 rfl rfl P6 ?_
  refine U0 0 2 5 rfl rfl P6 ?_
  refine U0 0 3 3 rfl rfl P6 ?_
  refine U5 4 1 ?_
  exact K0 [0] (Value.slice none 0 0) (trivial) rfl (by rfl) (Q3 rfl (by decide) (E4 (G3 (ys := _) 1 rfl rfl C4 A8 rfl) (E4 (D1 rfl (by rfl)) (E4 (D1 rfl (by rfl)) J6))))
 ·intro h13
  rw [Au4] at h13
  simp only [Bool.or_eq_false_iff, Bool.not_eq_false', decide_eq_false_iff_not, A5] at h13
  have hgl : ∀ r ∈ l, goodRec r = true := List.all_eq_true.1 h13.2
  have hl6 : l.length ≤ 60 := by omega
  have he : stateOfR l = (stFrom zState l, didFrom zState l, true) := if_pos ⟨hl6, h13.2⟩
  rw [he]
  refine D5 (A3 (A2 ?_))
  refine A6 rfl rfl rfl rfl rfl ?_
  refine I8 [] rfl rfl rfl rfl Tryz.call84 rfl (Ar8 l hgl hl6) (A7 (A0 rfl) D2) rfl ?_
  intro x17 ok17
  refine A6 rfl rfl rfl rfl rfl ?_
  refine A1 rfl rfl rfl (F6 rfl (A0 rfl) rfl) ?_
  refine A1 rfl rfl rfl (F6 rfl (A0 rfl) rfl) ?_
  refine F4 rfl rfl rfl rfl Tryz.zeroValue30 rfl ?_
  intro b5
  refine D3 0 rfl rfl rfl (A0 rfl) (A0 rfl) (D8 _) rfl A8 rfl ?_
  refine C2 rfl rfl rfl rfl rfl ?_
  refine A4 (A3 (A2 ?_))
  refine A1 rfl rfl rfl (D9 0 rfl (A0 rfl) rfl C4 A8 rfl) ?_
  refine A6 rfl rfl rfl rfl rfl ?_
  refine D3 2 rfl rfl rfl (A0 rfl) (A0 rfl) (D8 _) rfl A8 rfl ?_
  refine C2 rfl rfl rfl rfl rfl ?_
  refine A1 rfl rfl rfl (C3 rfl F5) ?_
  refine A4 ?_
  refine C8 ?_
  exact K0 [1] x17 (trivial) rfl (by rfl) (Q3 rfl (by decide) (E4 (G3 (ys := _) 2 rfl rfl C4 A8 rfl) (E4 (D1 rfl (by rfl)) (E4 (D1 rfl (by rfl)) J6))))
theorem AN3 (l : List TRec) (hl : l.length ≤ 1048576) (hs : ∀ r ∈ l, r.size ≤ 1048576) : FSpec Tryz.prog 10 [AV.list 7 (l.map TRec.cs)] (AV.tup [AV.agg (stateOfR l).1.cs, AV.list 1 ((stateOfR l).2.1.map fun b => [AV.bool b]), AV.bool (stateOfR l).2.2]) :=
  T6 (Ao9 l hl hs) fun x _ => AI3 (H6 N0 (H6 (P0 (H2 (i := 0) rfl) K5) (H6 N0 U4)))
theorem w6 (s : TState) (n : Int) (hs : s.size ≤ 1048576) : FSpec Tryz.prog 16 [AV.agg s.cs, AV.int n] (AV.tup [AV.agg (outcomeR s n).1.cs, AV.bool (outcomeR s n).2]) := by
 obtain ⟨hs1, hs2, hs3, hs4, hs5⟩ := R8 hs
 refine F3 Tryz.func16 rfl Tryz.ntmps16 rfl ?_
 refine A3 (A2 ?_)
 refine M7 rfl rfl rfl rfl (A0 rfl) ?_
 intro b2
 refine F4 rfl rfl rfl rfl Tryz.zeroValue39 rfl ?_
 intro b4
 refine A1 rfl rfl rfl (C3 rfl F5) ?_
 refine A4 (A3 (A3 (A2 ?_)))
 refine A1 rfl rfl rfl (D9 1 rfl (A0 rfl) rfl C4 A8 rfl) ?_
 refine A1 rfl rfl rfl (F1 rfl Tryz.call15 rfl (Y0 _ (by first | assumption | omega)) (A7 (A0 rfl) D2)) ?_
 refine A1 rfl rfl rfl (N1 rfl (A0 rfl)) ?_
 refine A4 ?_
 refine D0 (A0 rfl) ?_ ?_
 ·intro h10
  have he : outcomeR s n = (zTold, false) := if_neg (by simpa using h10)
  rw [he]
  refine A3 (A2 ?_)
  refine A1 rfl rfl rfl (N2 (places := #[(0, 1), (1, 1), (2, 1)]) rfl I9 Tryz.zeroValue39 (fun w => by kernel_rfl) rfl I5 rfl) ?_
  refine D3 0 rfl rfl rfl (A0 rfl) (A0 rfl) (D8 _) rfl F9 rfl ?_
  refine A1 rfl rfl rfl (C3 rfl F5) ?_
  refine A4 ?_
  refine C8 ?_
  exact W7 rfl (by decide) (E4 (G3 (ys := _) 0 rfl rfl P7 F9 rfl) (E4 (D1 rfl (by rfl)) J6))
 ·intro h10
  have hg : goodState s = true := by simpa using h10
  have g := W6.1 hg
  refine D5 (A3 (A2 ?_))
  refine A1 rfl rfl rfl (D9 1 rfl (A0 rfl) rfl C4 A8 rfl) ?_
  refine A6 rfl rfl rfl rfl rfl ?_
  refine A1 rfl rfl rfl (F1 rfl Tryz.call97 rfl (AM9 s n hs3) (A7 (A0 rfl) (A7 (A0 rfl) D2))) ?_
  refine A6 rfl rfl rfl rfl rfl ?_
  refine A1 rfl rfl rfl (F6 rfl (A0 rfl) rfl) ?_
  refine A1 rfl rfl rfl (F6 rfl (A0 rfl) rfl) ?_
  refine C2 rfl rfl rfl rfl rfl ?_
  refine C2 rfl rfl rfl rfl rfl ?_
  refine A4 (A3 (A3 (A2 ?_)))
  refine A6 rfl rfl rfl rfl rfl ?_
  refine A1 rfl rfl rfl (N1 rfl (A0 rfl)) ?_
  refine A4 ?_
  refine D0 (A0 rfl) ?_ ?_
  ·intro h19
   have he : outcomeR s n = (zTold, false) := by (unfold outcomeR; rw [if_pos hg, Aa3.2 (by rw [← AJ4 g.tsort]; simpa using h19)])
   rw [he]
   refine A3 (A2 ?_)
   refine A1 rfl rfl rfl (N2 (places := #[(0, 1), (1, 1), (2, 1)]) rfl I9 Tryz.zeroValue39 (fun w => by kernel_rfl) rfl I5 rfl) ?_
   refine D3 0 rfl rfl rfl (A0 rfl) (A0 rfl) (D8 _) rfl F9 rfl ?_
   refine A1 rfl rfl rfl (C3 rfl F5) ?_
   refine A4 ?_
   refine C8 ?_
   exact W7 rfl (by decide) (E4 (G3 (ys := _) 0 rfl rfl P7 F9 rfl) (E4 (D1 rfl (by rfl)) J6))
  ·intro h19
   obtain ⟨t, ht, htn⟩ := BA9 (by simpa using h19)
   have he : outcomeR s n = (t, true) := by (have h9 := Ah2 g.tsort (H2 ht); rw [htn] at h9; unfold outcomeR; rw [if_pos hg, h9])
   rw [he]
   have htl := (List.getElem?_eq_some_iff.1 ht).1
   refine D5 (A3 (A2 ?_))
   refine A1 rfl rfl rfl (B3 3 rfl B8 rfl J1 (A0 rfl) rfl) ?_
   refine A1 rfl rfl rfl (B2 1 rfl (A0 rfl) rfl N5 rfl) ?_
   refine A6 rfl rfl rfl rfl rfl ?_
   refine A1 rfl rfl rfl (J4 rfl E5 F9 (A0 rfl) (A0 rfl) ht (by first | omega | (simp only [A5, B1, B5, C1, B0, szR] at *; omega))) ?_
   refine A1 rfl rfl rfl (K7 rfl (A0 rfl) P7 F9) ?_
   refine D3 0 rfl rfl rfl (A0 rfl) (A0 rfl) (D8 _) rfl F9 rfl ?_
   refine A1 rfl rfl rfl (C3 rfl F5) ?_
   refine A4 ?_
   refine C8 ?_
   exact W7 rfl (by decide) (E4 (G3 (ys := _) 0 rfl rfl P7 F9 rfl) (E4 (D1 rfl (by rfl)) J6))
theorem AF0 (s : TState) (n : Int) (hs : s.size ≤ 1048576) : FSpec Tryz.prog 17 [AV.agg s.cs, AV.int n] (AV.tup [AV.agg (heldR s n).1.cs, AV.bool (heldR s n).2]) := by
 obtain ⟨hs1, hs2, hs3, hs4, hs5⟩ := R8 hs
 refine F3 Tryz.func17 rfl Tryz.ntmps17 rfl ?_
 refine A3 (A2 ?_)
 refine M7 rfl rfl rfl rfl (A0 rfl) ?_
 intro b2
 refine F4 rfl rfl rfl rfl Tryz.zeroValue45 rfl ?_
 intro b4
 refine A1 rfl rfl rfl (C3 rfl F5) ?_
 refine A4 (A3 (A3 (A2 ?_)))
 refine A1 rfl rfl rfl (D9 1 rfl (A0 rfl) rfl C4 A8 rfl) ?_
 refine A1 rfl rfl rfl (F1 rfl Tryz.call15 rfl (Y0 _ (by first | assumption | omega)) (A7 (A0 rfl) D2)) ?_
 refine A1 rfl rfl rfl (N1 rfl (A0 rfl)) ?_
 refine A4 ?_
 refine D0 (A0 rfl) ?_ ?_
 ·intro h10
  have he : heldR s n = (zHeld, false) := if_neg (by simpa using h10)
  rw [he]
  refine A3 (A2 ?_)
  refine A1 rfl rfl rfl (N2 (places := #[(0, 1), (1, 1), (2, 1), (3, 1), (4, 1)]) rfl E7 Tryz.zeroValue45 (fun w => by kernel_rfl) rfl I5 rfl) ?_
  refine D3 0 rfl rfl rfl (A0 rfl) (A0 rfl) (D8 _) rfl D4 rfl ?_
  refine A1 rfl rfl rfl (C3 rfl F5) ?_
  refine A4 ?_
  refine C8 ?_
  refine U1 0 3 1 rfl rfl ?_
  refine U1 0 4 3 rfl rfl ?_
  exact W7 rfl (by decide) (E4 (G3 (ys := _) 0 rfl rfl I0 D4 rfl) (E4 (D1 rfl (by rfl)) J6))
 ·intro h10
  have hg : goodState s = true := by simpa using h10
  have g := W6.1 hg
  refine D5 (A3 (A2 ?_))
  refine A1 rfl rfl rfl (D9 1 rfl (A0 rfl) rfl C4 A8 rfl) ?_
  refine A6 rfl rfl rfl rfl rfl ?_
  refine A1 rfl rfl rfl (F1 rfl Tryz.call96 rfl (q8 s n hs5) (A7 (A0 rfl) (A7 (A0 rfl) D2))) ?_
  refine A6 rfl rfl rfl rfl rfl ?_
  refine A1 rfl rfl rfl (F6 rfl (A0 rfl) rfl) ?_
  refine A1 rfl rfl rfl (F6 rfl (A0 rfl) rfl) ?_
  refine C2 rfl rfl rfl rfl rfl ?_
  refine C2 rfl rfl rfl rfl rfl ?_
  refine A4 (A3 (A3 (A2 ?_)))
  refine A6 rfl rfl rfl rfl rfl ?_
  refine A1 rfl rfl rfl (N1 rfl (A0 rfl)) ?_
  refine A4 ?_
  refine D0 (A0 rfl) ?_ ?_
  ·intro h19
   have he : heldR s n = (zHeld, false) := by (unfold heldR; rw [if_pos hg, p3.2 (by rw [← p5 g.hsort]; simpa using h19)])
   rw [he]
   refine A3 (A2 ?_)
   refine A1 rfl rfl rfl (N2 (places := #[(0, 1), (1, 1), (2, 1), (3, 1), (4, 1)]) rfl E7 Tryz.zeroValue45 (fun w => by kernel_rfl) rfl I5 rfl) ?_
   refine D3 0 rfl rfl rfl (A0 rfl) (A0 rfl) (D8 _) rfl D4 rfl ?_
   refine A1 rfl rfl rfl (C3 rfl F5) ?_
   refine A4 ?_
   refine C8 ?_
   refine U1 0 3 1 rfl rfl ?_
   refine U1 0 4 3 rfl rfl ?_
   exact W7 rfl (by decide) (E4 (G3 (ys := _) 0 rfl rfl I0 D4 rfl) (E4 (D1 rfl (by rfl)) J6))
  ·intro h19
   obtain ⟨t, ht, htn⟩ := Ah0 (by simpa using h19)
   have he : heldR s n = (t, true) := by (have h9 := Ah1 g.hsort ht; rw [htn] at h9; unfold heldR; rw [if_pos hg, h9])
   rw [he]
   have htl := (List.getElem?_eq_some_iff.1 ht).1
   obtain ⟨g1, g2, g3, g4, g5⟩ := U8 hs2 ht
   refine D5 (A3 (A2 ?_))
   refine A1 rfl rfl rfl (B3 2 rfl B8 rfl F0 (A0 rfl) rfl) ?_
   refine A1 rfl rfl rfl (B2 1 rfl (A0 rfl) rfl H1 rfl) ?_
   refine A6 rfl rfl rfl rfl rfl ?_
   refine A1 rfl rfl rfl (J4 rfl C9 D4 (A0 rfl) (A0 rfl) ht (by first | omega | (simp only [A5, B1, B5, C1, B0, szR] at *; omega))) ?_
   refine A1 rfl rfl rfl (K7 rfl (A0 rfl) I0 D4) ?_
   refine A1 rfl rfl rfl (F1 rfl Tryz.call98 rfl (AB5 t g1) (A7 (A0 rfl) D2)) ?_
   refine D3 0 rfl rfl rfl (A0 rfl) (A0 rfl) (D8 _) rfl D4 rfl ?_
   refine A1 rfl rfl rfl (C3 rfl F5) ?_
   refine A4 ?_
   refine C8 ?_
   exact W7 rfl (by decide) (E4 (G3 (ys := _) 0 rfl rfl I0 D4 rfl) (E4 (D1 rfl (by rfl)) J6))
theorem Aj0 (a b : THeld) : FSpec Tryz.prog 110 [AV.agg a.cs, AV.agg b.cs] (AV.bool (decide (a = b))) := by
 refine F3 Tryz.func110 rfl Tryz.ntmps110 rfl ?_
 refine A3 (A2 ?_)
 refine M7 rfl rfl rfl rfl (A0 rfl) ?_
 intro b2
 refine M7 rfl rfl rfl rfl (A0 rfl) ?_
 intro b3
 refine A1 rfl rfl rfl (C3 rfl F5) ?_
 refine A4 (A3 ?_)
 refine J5 (by kernel_rfl) (by kernel_rfl) rfl ?_
 refine B4 rfl rfl (D9 1 rfl (A0 rfl) rfl I0 D4 rfl) ?_
 refine B4 rfl rfl (F1 rfl Tryz.call182 rfl (AL9 _) (A7 (A0 rfl) D2)) ?_
 refine B4 rfl rfl (D9 0 rfl (A0 rfl) rfl I0 D4 rfl) ?_
 refine B4 rfl rfl (F1 rfl Tryz.call182 rfl (AL9 _) (A7 (A0 rfl) D2)) ?_
 refine B4 rfl rfl (F1 rfl Tryz.call212 rfl (An4 (hRec a) (hRec b)) (A7 (A0 rfl) (A7 (A0 rfl) D2))) ?_
 refine B4 rfl rfl (C3 rfl (A0 rfl)) ?_
 refine O5 ?_
 refine C8 ?_
 exact I2 rfl (D1 rfl (by exact congrArg AV.bool (AU5 a b)))
theorem AQ9 (a b : List THeld) (pre : THeld → THeld → Prop) (hp : ∀ x y, pre x y) : FSpec Tryz.prog 109 [AV.list 5 (a.map THeld.cs), AV.list 5 (b.map THeld.cs), AV.fun2 Tryz.prog pre (fun a => AV.agg a.cs) (fun b => AV.agg b.cs) (fun a b => AV.bool (decide (a = b)))] (AV.bool (decide (a = b))) := by
 refine F3 Tryz.func109 rfl Tryz.ntmps109 rfl ?_
 refine Q8 (t := 0) rfl fun hl => ?_
 try simp only [A5] at hl
 refine A3 (A2 ?_)
 refine A1 rfl rfl rfl (C3 rfl F5) ?_
 refine A4 (A3 (A3 (A2 ?_)))
 refine A6 rfl rfl rfl rfl rfl ?_
 refine A1 rfl rfl rfl (G4 rfl C9 (A0 rfl)) ?_
 refine A6 rfl rfl rfl rfl rfl ?_
 refine A1 rfl rfl rfl (G4 rfl C9 (A0 rfl)) ?_
 refine A1 rfl rfl rfl (Z7 rfl (A0 rfl) (A0 rfl)) ?_
 refine A4 ?_
 refine D0 (A0 rfl) ?_ ?_
 ·intro h14
  have k14 := W9 h14; try simp only [A5] at k14
  have hab : a ≠ b := by intro hc; subst hc; exact k14 rfl
  refine A3 (A2 ?_)
  refine A1 rfl rfl rfl (C3 rfl F5) ?_
  refine A4 ?_
  refine C8 ?_
  exact I2 rfl (D1 rfl (by exact congrArg AV.bool (by simp [hab])))
 ·intro h14
  have k14 := S8 h14; try simp only [A5] at k14
  have heq : a.length = b.length := by omega
  refine D5 (A3 (A3 (A2 ?_)))
  refine A6 rfl rfl rfl rfl rfl ?_
  refine A1 rfl rfl rfl (G4 rfl C9 (A0 rfl)) ?_
  refine A1 rfl rfl rfl (C7 rfl C6) ?_
  refine A4 (E1 ?_)
  refine K1 [(1, _), (2, _), (15, _), (16, _)] _ (fun (i : Nat) => i ≤ a.length ∧ a.take i = b.take i) (fun (i : Nat) => []) (fun (i : Nat) => [(17, AV.int i)]) (fun (i : Nat) => a.length - i) (0) ?_ (J9 ⟨rfl, rfl, rfl, rfl, rfl, trivial⟩) ?_
  ·exact ⟨Nat.zero_le _, rfl⟩
  intro i hinv
  refine A3 (A2 ?_)
  refine A1 rfl rfl rfl (M2 rfl (A0 rfl) (A0 rfl)) ?_
  refine A4 (A3 ?_)
  refine D0 (A0 rfl) ?_ ?_
  ·intro h18
   have k18 := of_decide_eq_true h18; try simp only [A5] at k18
   have hlt : i < a.length := by omega
   obtain ⟨x, hx⟩ := get_some hlt
   obtain ⟨y, hy⟩ := get_some (show i < b.length by omega)
   refine D5 (A3 (E1 (A3 (A2 ?_))))
   refine A6 rfl rfl rfl rfl rfl ?_
   refine A1 rfl rfl rfl (J4 rfl C9 D4 (A0 rfl) (A0 rfl) hx (by first | omega | (simp only [A5, B1, B5, C1, B0, szR] at *; omega))) ?_
   refine A1 rfl rfl rfl (K7 rfl (A0 rfl) I0 D4) ?_
   refine F4 rfl rfl rfl rfl Tryz.zeroValue45 rfl ?_
   intro b8
   refine C2 rfl rfl rfl rfl rfl ?_
   refine D3 0 rfl rfl rfl (A0 rfl) (A0 rfl) (D8 _) rfl D4 rfl ?_
   refine A4 (A3 (A2 ?_))
   refine A6 rfl rfl rfl rfl rfl ?_
   refine A6 rfl rfl rfl rfl rfl ?_
   refine A1 rfl rfl rfl (J4 rfl C9 D4 (A0 rfl) (A0 rfl) hy (by first | omega | (simp only [A5, B1, B5, C1, B0, szR] at *; omega))) ?_
   refine A1 rfl rfl rfl (K7 rfl (A0 rfl) I0 D4) ?_
   refine F4 rfl rfl rfl rfl Tryz.zeroValue45 rfl ?_
   intro b9
   refine D3 0 rfl rfl rfl (A0 rfl) (A0 rfl) (D8 _) rfl D4 rfl ?_
   refine A4 (A3 (A2 ?_))
   refine A6 rfl rfl rfl rfl rfl ?_
   refine A1 rfl rfl rfl (D9 1 rfl (A0 rfl) rfl I0 D4 rfl) ?_
   refine A1 rfl rfl rfl (D9 0 rfl (A0 rfl) rfl I0 D4 rfl) ?_
   refine A1 rfl rfl rfl (i3 rfl (A0 rfl) x y (hp x y) (A0 rfl) (A0 rfl)) ?_
   refine A1 rfl rfl rfl (N1 rfl (A0 rfl)) ?_
   refine A4 ?_
   refine D0 (A0 rfl) ?_ ?_
   ·intro h30
    have hab : a ≠ b := by intro hc; subst hc; rw [hx] at hy; injection hy with hy; subst hy; simp at h30
    refine A3 (A2 ?_)
    refine A1 rfl rfl rfl (C3 rfl F5) ?_
    refine A4 ?_
    refine C8 ?_
    exact I2 rfl (D1 rfl (by exact congrArg AV.bool (by simp [hab])))
   ·intro h30
    refine D5 (A2 ?_)
    refine A1 rfl rfl rfl (H4 rfl (A0 rfl) C6 (by first | omega | (simp only [A5, B1, B5, C1, B0, szR] at *; omega))) ?_
    refine A6 rfl rfl rfl rfl rfl ?_
    refine A4 ?_
    refine M3 i (i + 1) ?_ ?_ (U9 2 ⟨rfl, rfl, rfl, rfl, rfl, trivial⟩)
    ·exact ⟨by omega, W4 hinv.2 hx (by rw [hy]; congr 1; simp at h30; exact h30.symm)⟩
    ·omega
  ·intro h18
   have k18 := of_decide_eq_false h18; try simp only [A5] at k18
   have hge : a.length ≤ i := by omega
   have hab : a = b := Y8 heq hinv.2 hge
   refine I4 ?_
   refine A3 (A2 ?_)
   refine A1 rfl rfl rfl (C3 rfl F5) ?_
   refine A4 ?_
   refine C8 ?_
   exact I2 rfl (D1 rfl (by exact congrArg AV.bool (by simp [hab])))
theorem AJ6 (a b : TState) : FSpec Tryz.prog 28 [AV.agg a.cs, AV.agg b.cs] (AV.bool (decide (a = b))) := by
 refine F3 Tryz.func28 rfl Tryz.ntmps28 rfl ?_
 refine A3 (A2 ?_)
 refine M7 rfl rfl rfl rfl (A0 rfl) ?_
 intro b2
 refine M7 rfl rfl rfl rfl (A0 rfl) ?_
 intro b3
 refine A1 rfl rfl rfl (C3 rfl F5) ?_
 refine A4 (A3 (A2 ?_))
 refine A1 rfl rfl rfl (B3 0 rfl B8 rfl C0 (A0 rfl) rfl) ?_
 refine A1 rfl rfl rfl (B2 1 rfl (A0 rfl) rfl C5 rfl) ?_
 refine A1 rfl rfl rfl (B3 0 rfl B8 rfl C0 (A0 rfl) rfl) ?_
 refine A1 rfl rfl rfl (B2 0 rfl (A0 rfl) rfl C5 rfl) ?_
 refine A1 rfl rfl rfl (N3 rfl (A0 rfl) (A0 rfl)) ?_
 refine A6 rfl rfl rfl rfl rfl ?_
 refine B7 rfl rfl (B9 rfl rfl rfl) (fun hc => B3 1 rfl B8 rfl O6 (A0 rfl) rfl) ?_
 refine B7 rfl rfl (B9 rfl rfl rfl) (fun hc => B2 1 rfl (A9 rfl hc) rfl Q5 rfl) ?_
 refine B7 rfl rfl (B9 rfl rfl rfl) (fun hc => B3 1 rfl B8 rfl O6 (A0 rfl) rfl) ?_
 refine B7 rfl rfl (B9 rfl rfl rfl) (fun hc => B2 0 rfl (A9 rfl hc) rfl Q5 rfl) ?_
 refine B7 rfl rfl (B9 rfl rfl rfl) (fun hc => F1 rfl Tryz.call108 rfl (Ac6 _ _) (A7 (A9 rfl hc) (A7 (A9 rfl hc) D2))) ?_
 refine A1 rfl rfl rfl (H8 rfl (A0 rfl) (G2 rfl)) ?_
 refine A6 rfl rfl rfl rfl rfl ?_
 refine B7 rfl rfl (B9 rfl rfl rfl) (fun hc => B3 2 rfl B8 rfl F0 (A0 rfl) rfl) ?_
 refine B7 rfl rfl (B9 rfl rfl rfl) (fun hc => B2 1 rfl (A9 rfl hc) rfl H1 rfl) ?_
 refine B7 rfl rfl (B9 rfl rfl rfl) (fun hc => B3 2 rfl B8 rfl F0 (A0 rfl) rfl) ?_
 refine B7 rfl rfl (B9 rfl rfl rfl) (fun hc => B2 0 rfl (A9 rfl hc) rfl H1 rfl) ?_
 refine B7 rfl rfl (B9 rfl rfl rfl) (fun hc => F1 rfl Tryz.call109 rfl (AQ9 a.Held b.Held (fun _ _ => True) (fun _ _ => trivial)) (A7 (A9 rfl hc) (A7 (A9 rfl hc) (A7 (AD1 Tryz.call110 (fun a b (_ : True) => Aj0 a b)) D2)))) ?_
 refine A1 rfl rfl rfl (H8 rfl (A0 rfl) (G2 rfl)) ?_
 refine A6 rfl rfl rfl rfl rfl ?_
 refine B7 rfl rfl (B9 rfl rfl rfl) (fun hc => B3 3 rfl B8 rfl J1 (A0 rfl) rfl) ?_
 refine B7 rfl rfl (B9 rfl rfl rfl) (fun hc => B2 1 rfl (A9 rfl hc) rfl N5 rfl) ?_
 refine B7 rfl rfl (B9 rfl rfl rfl) (fun hc => B3 3 rfl B8 rfl J1 (A0 rfl) rfl) ?_
 refine B7 rfl rfl (B9 rfl rfl rfl) (fun hc => B2 0 rfl (A9 rfl hc) rfl N5 rfl) ?_
 refine B7 rfl rfl (B9 rfl rfl rfl) (fun hc => F1 rfl Tryz.call111 rfl (Ab9 _ _) (A7 (A9 rfl hc) (A7 (A9 rfl hc) D2))) ?_
 refine A1 rfl rfl rfl (H8 rfl (A0 rfl) (G2 rfl)) ?_
 refine C2 rfl rfl rfl rfl rfl ?_
 refine A4 ?_
 refine C8 ?_
 exact I2 rfl (D1 rfl (by exact congrArg AV.bool (Ax8 a b)))
end Go.Proofs.YtnlhbdkcgaeimaaGreat
