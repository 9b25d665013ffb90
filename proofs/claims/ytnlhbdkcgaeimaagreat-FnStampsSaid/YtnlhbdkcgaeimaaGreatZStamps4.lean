/- Texts of the claim, part 4. -/
import Derived.Test.YtnlhbdkcgaeimaaGreatZStamps3

set_option linter.unusedVariables false
set_option linter.unusedSimpArgs false
set_option maxRecDepth 100000
namespace Go.AV
section
variable {T X : Type} {cs : T → List AV} {ocs : T → X → List AV} {ow : T → X → List Own}
theorem An0 {l : List T} {xs : List X} {i : Nat} {p : T} {x : X} (hi : i ≤ l.length) (h : xs.length = l.length) : (nrows ocs l xs).take i ++ ocs p x :: (nrows ocs l xs).drop i = nrows ocs (l.take i ++ p :: l.drop i) (xs.take i ++ x :: xs.drop i) := by
  unfold nrows
  rw [List.zipWith_append (by rw [B0, B0]; omega), List.zipWith_cons_cons, List.take_zipWith, List.drop_zipWith]
theorem nin_ins {l : List T} {xs : List X} {i : Nat} {p : T} {x : X} (hi : i ≤ l.length) (h : xs.length = l.length) : (ow p x ++ nin ow l xs).Perm (nin ow (l.take i ++ p :: l.drop i) (xs.take i ++ x :: xs.drop i)) := by
  have e : nin ow l xs = nin ow (l.take i) (xs.take i) ++ nin ow (l.drop i) (xs.drop i) := by
    unfold nin
    rw [← List.flatten_append, ← List.zipWith_append (by rw [B0, B0]; omega), List.take_append_drop, List.take_append_drop]
  have e2 : nin ow (l.take i ++ p :: l.drop i) (xs.take i ++ x :: xs.drop i) = nin ow (l.take i) (xs.take i) ++ (ow p x ++ nin ow (l.drop i) (xs.drop i)) := by
    unfold nin
    rw [List.zipWith_append (by rw [B0, B0]; omega), List.zipWith_cons_cons, List.flatten_append, List.flatten_cons]
  rw [e, e2, ← List.append_assoc, ← List.append_assoc]
  exact List.Perm.append_right _ List.perm_append_comm
theorem Ab1 {X : Type} {xs : List X} {i : Nat} {x : X} (hi : i ≤ xs.length) : (xs.take i ++ x :: xs.drop i).length = xs.length + 1 := by
  rw [J9, B7, B0, List.length_drop]; omega
end
end Go.AV
namespace Go.Proofs.YtnlhbdkcgaeimaaGreat
open Go Go.AV Go.M
attribute [local irreducible] OpW OpA OpS AWP FSpec ESpec GSpec OpE RetOk RetOkG RvDen Le Ev GuardIs SrcIs
def TCell.ow (c : TCell) (x : Value) : List Own := [.arr x 197 3 (c.Vers.map TVer.cs)]
theorem TCell.lcM {own : List Own} (c : TCell) (x : Value) (h : ∀ o ∈ TCell.ow c x, o ∈ own) : LendC own (TCell.ocs c x) c.cs := H2 L8 (H2 (N2 (h _ (G6 (i := 0) rfl)) I9) T9)
theorem AV6 (l : List TCell) (hs : sizeL TCell.size l ≤ 4194304) : GSpec Tryz.prog 208 [AV.list 2 (l.map TCell.cs)] [] (fun x : Value × List Value => x.2.length = l.length) (fun x => .arr x.1 142 2 (nrows TCell.ocs l x.2) :: nin TCell.ow l x.2) (fun x => AV.is x.1) := by
 have hl : l.length ≤ 4194304 := Nat.le_trans P5 hs
 refine I2 Tryz.func208 rfl Tryz.ntmps208 rfl ?_
 refine A3 (A2 ?_)
 refine A1 rfl rfl rfl (B8 rfl Q7) ?_
 refine A5 (A3 (A2 ?_))
 refine a7 142 2 rfl rfl rfl rfl Q7 ?_
 intro v3
 refine A5 (A3 (A3 (A2 ?_)))
 refine A4 rfl rfl rfl rfl rfl ?_
 refine A1 rfl rfl rfl (H3 rfl F2 (A0 rfl)) ?_
 refine A1 rfl rfl rfl (C4 rfl B5) ?_
 refine A5 (D7 ?_)
 refine U3 [(2, _), (6, _), (7, _)] [] (fun (i : Nat) (v : Value) (xs : List Value) => i ≤ l.length ∧ xs.length = i) (fun (i : Nat) (v : Value) (xs : List Value) => [.arr v 142 2 (nrows TCell.ocs (l.take i) xs)] ++ (nin TCell.ow (l.take i) xs)) (fun (i : Nat) (v : Value) (xs : List Value) => [(3, AV.is v), (8, AV.int i)]) (fun (i : Nat) (v : Value) (xs : List Value) => l.length - i) (0) (v3) ([]) ?_ (S7 (by rfl) ⟨rfl, rfl, rfl, rfl, rfl, trivial⟩) ?_
 ·exact ⟨Nat.zero_le _, rfl⟩
 intro i v xs hinv
 refine K7 (List.append_nil _) ?_
 refine A3 (A2 ?_)
 refine A1 rfl rfl rfl (J8 rfl (A0 rfl) (A0 rfl)) ?_
 refine A5 (A3 ?_)
 refine C8 (A0 rfl) ?_ ?_
 ·intro h9
  have k9 := of_decide_eq_true h9; try simp only [A6] at k9
  have hlt : i < l.length := by omega
  obtain ⟨x, hx⟩ := get_some hlt
  have hsx := j6 (Nat.le_trans (Y1 hx) hs)
  refine D1 (A3 (D7 (A3 (A2 ?_))))
  refine A1 rfl rfl rfl (J4 rfl F2 G2 (A0 rfl) (A0 rfl) hx (by first | omega | (simp only [A6, B0, B7, C1, B3, szR] at *; omega))) ?_
  refine A1 rfl rfl rfl (M7 rfl (A0 rfl) S6 G2) ?_
  refine F3 rfl rfl rfl rfl Tryz.zeroValue142 rfl ?_
  intro b5
  refine D5 0 rfl rfl rfl (A0 rfl) (A0 rfl) (E8 _) rfl G2 rfl ?_
  refine A5 ?_
  refine W5 _ [(0, false), (1, false), (2, false), (4, false), (5, false), (3, true), (6, true), (7, false), (8, false), (9, true)] (by kernel_rfl) (by kernel_rfl) rfl (c0 1) ?_
  refine I7 rfl rfl rfl (fun ext => C4 rfl (A0 rfl)) ?_
  refine I7 rfl rfl rfl (fun ext => B6 0 rfl G8 rfl F5 (A0 rfl) rfl) ?_
  refine I7 rfl rfl rfl (fun ext => B4 0 rfl (A0 rfl) rfl H0 rfl) ?_
  refine I7 rfl rfl rfl (fun ext => B6 1 rfl G8 rfl Q0 (A0 rfl) rfl) ?_
  refine I7 rfl rfl rfl (fun ext => B4 0 rfl (A0 rfl) rfl R7 rfl) ?_
  refine V9 rfl rfl rfl (r9 2 <| c3 rfl K2 O8) (fun a _ => (by first | exact G7 rfl | exact G7 (List.append_assoc _ _ _) | exact K9)) ?_
  intro v15 _
  refine V9 rfl rfl rfl (n0 2 (fun _ => rfl) (Q6 (by' := 32) 2 rfl K2 Tryz.type197 rfl rfl rfl rfl rfl rfl (A0 rfl) (A0 rfl) rfl (by first | omega | (simp only [A6, B0, B7, C1, B3, szR] at *; omega)))) (fun a _ => (by first | exact G7 rfl | exact G7 (List.append_assoc _ _ _) | exact K9)) ?_
  intro v18_1 hone_v18_1
  have one_v18_1 := hone_v18_1.2
  refine I7 rfl rfl rfl (fun ext => Q2 (places := #[(0, 1), (1, 1)]) rfl G8 Tryz.zeroValue142 (fun w => by kernel_rfl) rfl (E7 (A0 rfl) (P4 _) (E7 (A0 rfl) (V5 one_v18_1) I6)) rfl) ?_
  refine I7 rfl rfl rfl (fun ext => M3 rfl F2 G2 Tryz.zeroValue142 rfl rfl rfl rfl (E7 (A0 rfl) (E8 _) I6) rfl rfl) ?_
  refine V9 rfl rfl rfl (Q6 (by' := 40) 1 rfl F2 Tryz.type142 rfl rfl rfl rfl rfl rfl (A0 rfl) (A0 rfl) rfl (by rw [AG3 (by rw [hinv.2, B0]; omega), B3, B0]; omega)) (fun a _ => (by first | exact G7 rfl | exact G7 (List.append_assoc _ _ _) | exact K9)) ?_
  intro v21_2 _
  refine s7 ?_
  refine B2 rfl rfl rfl rfl rfl ?_
  refine A5 ?_
  refine AWP.le (K1 [0, 0, 0] rfl) ?_
  refine AWP.le (r8 2 (t := nin TCell.ow (l.take (i + 1)) (xs ++ [v18_1])) (nin_step (ow := TCell.ow) (x := v18_1) hx hinv.2)) ?_
  refine A2 ?_
  refine A1 rfl rfl rfl (G5 rfl (A0 rfl) B5 (by first | omega | (simp only [A6, B0, B7, C1, B3, szR] at *; omega))) ?_
  refine A4 rfl rfl rfl rfl rfl ?_
  refine A5 ?_
  refine T2 i v xs (i + 1) (v21_2) (xs ++ [v18_1]) ?_ ?_ (N0 1 (Eq.trans (by exact congrArg (fun z => Own.arr _ _ _ z :: _) (Ai3 hx hinv.2)) (List.append_nil _).symm) ⟨rfl, rfl, rfl, rfl, rfl, trivial⟩)
  ·exact ⟨by omega, by rw [J9, hinv.2]; rfl⟩
  ·omega
 ·intro h9
  have k9 := of_decide_eq_false h9; try simp only [A6] at k9
  have hge : i = l.length := by omega
  have hxs := hinv.2.trans hge
  rw [show l.take i = l from List.take_of_length_le (by omega)]
  refine H4 ?_
  refine A3 (A2 ?_)
  refine A4 rfl rfl rfl rfl rfl ?_
  refine B2 rfl rfl rfl rfl rfl ?_
  refine A5 ?_
  refine C6 ?_
  exact AP0 [0] 0 (nin TCell.ow l xs) [] (v, xs) (hxs) rfl (show List.Perm (nin TCell.ow l xs) ((nin TCell.ow l xs) ++ []) from s9) (by rfl) (Q4 rfl (C3 rfl (by first | rfl | (refine congrArg AV.bool ?_; simp_all; done))))
end Go.Proofs.YtnlhbdkcgaeimaaGreat

set_option linter.unusedVariables false
set_option linter.unusedSimpArgs false
set_option maxRecDepth 100000
set_option maxHeartbeats 1000000
namespace Go.Proofs.YtnlhbdkcgaeimaaGreat
open Go Go.AV Go.M
attribute [local irreducible] OpW OpA OpS AWP FSpec ESpec GSpec OpE RetOk RetOkG RvDen Le Ev GuardIs SrcIs
theorem AH3 {α : Type} {f : α → Nat} {l : List α} (i : Nat) : sizeL f (l.take i) ≤ sizeL f l := by
  have := l8 (f := f) (l := l.take i) (r := l.drop i)
  rw [List.take_append_drop] at this; omega
theorem g6 {α : Type} {f : α → Nat} {l : List α} {i : Nat} {x : α} (h : l[i]? = some x) : sizeL f (l.take (i + 1)) = sizeL f (l.take i) + (1 + f x) := by
  rw [List.take_add_one, h, l8]
  show _ + sizeL f [x] = _
  rw [M1]; rfl
def RowsTo (A : List (List AV)) (k : Str) (vs : List (List AV)) (B : List (List AV)) (D : List Own) (o2 : List TCell) (f : Value → List Value) : Prop :=
  ∀ y : Value, (f y).length = o2.length ∧ A ++ [AV.str k, AV.is y] :: B = nrows TCell.ocs o2 (f y) ∧ (Own.arr y 197 3 vs :: D).Perm (nin TCell.ow o2 (f y))
theorem Aj2 {o : List TCell} {xs : List Value} {p : Nat} {c : TCell} {y0 : Value} (hc : o[p]? = some c) (hy : xs[p]? = some y0) (hl : xs.length = o.length) (nv : TVer) :
    RowsTo (nrows TCell.ocs (o.take p) (xs.take p)) c.Key (c.Vers.map TVer.cs ++ [TVer.cs nv]) (nrows TCell.ocs (o.drop (p + 1)) (xs.drop (p + 1))) (nin TCell.ow (o.eraseIdx p) (xs.eraseIdx p)) (o.set p ⟨c.Key, c.Vers ++ [nv]⟩) (fun y => xs.set p y) := fun y => by
  have hp := (List.getElem?_eq_some_iff.1 hc).1
  have hx := (List.getElem?_eq_some_iff.1 hy).1
  have hc' : (o.set p ⟨c.Key, c.Vers ++ [nv]⟩)[p]? = some ⟨c.Key, c.Vers ++ [nv]⟩ := List.getElem?_set_self hp
  have hy' : (xs.set p y)[p]? = some y := List.getElem?_set_self hx
  refine ⟨by rw [List.length_set, List.length_set, hl], ?_, ?_⟩
  · rw [y6 hc' hy', List.take_set_of_le (Nat.le_refl _), List.take_set_of_le (Nat.le_refl _), List.drop_set_of_lt (by omega), List.drop_set_of_lt (by omega)]
    rfl
  · have h := AI5 (ow := TCell.ow) hc' hy'
    rw [List.eraseIdx_set_eq, List.eraseIdx_set_eq] at h
    refine List.Perm.trans ?_ h.symm
    unfold TCell.ow
    simp only [List.map_append, List.map_cons, List.map_nil]
    exact List.Perm.refl _
theorem Aj3 {o : List TCell} {xs : List Value} {p : Nat} (hp : p ≤ o.length) (hl : xs.length = o.length) (k : Str) (nv : TVer) :
    RowsTo ((nrows TCell.ocs o xs).take p) k [TVer.cs nv] ((nrows TCell.ocs o xs).drop p) (nin TCell.ow o xs) (o.take p ++ ⟨k, [nv]⟩ :: o.drop p) (fun y => xs.take p ++ y :: xs.drop p) := fun y =>
  ⟨by rw [Ab1 (by omega), Ab1 hp, hl], An0 (ocs := TCell.ocs) (p := ⟨k, [nv]⟩) hp hl, nin_ins (ow := TCell.ow) (p := ⟨k, [nv]⟩) hp hl⟩
theorem AD1 {l o : List TCell} {w : List TWrite} {t : Int} {i : Nat} {x : TWrite} (h : putAll l w t = putAll o (w.drop i) t) (hx : w[i]? = some x) (ht : ¬ t ≤ lastTime o x.Key) : putAll l w t = putAll (putC1 o x t) (w.drop (i + 1)) t := by
  rw [h, drop_some hx]
  unfold putAll
  rw [if_neg (by simpa using ht)]
  cases w.drop (i + 1) <;> rfl
theorem put_stop {l o : List TCell} {w : List TWrite} {t : Int} {i : Nat} {x : TWrite} (h : putAll l w t = putAll o (w.drop i) t) (hx : w[i]? = some x) (ht : t ≤ lastTime o x.Key) : putAll l w t = none := by
  rw [h, drop_some hx]
  unfold putAll
  rw [if_pos (by simpa using ht)]
theorem put_end {l o : List TCell} {w : List TWrite} {t : Int} {i : Nat} (h : putAll l w t = putAll o (w.drop i) t) (hi : w.length ≤ i) : putAll l w t = some o := by
  rw [h, List.drop_eq_nil_of_le hi]; rfl
end Go.Proofs.YtnlhbdkcgaeimaaGreat

set_option linter.unusedVariables false
set_option linter.unusedSimpArgs false
set_option maxRecDepth 100000
set_option maxHeartbeats 4000000
namespace Go.Proofs.YtnlhbdkcgaeimaaGreat
open Go Go.AV Go.M
attribute [local irreducible] OpW OpA OpS AWP FSpec ESpec GSpec OpE RetOk RetOkG RvDen Le Ev GuardIs SrcIs
theorem An1 (l : List TCell) (w : List TWrite) (t : Int) (ho : CellsOk l) (hs : sizeL TCell.size l ≤ 1048576) (hw : sizeL TWrite.size w ≤ 1048576) (ht1 : 1 ≤ t) : GSpec Tryz.prog 205 [AV.list 2 (l.map TCell.cs), AV.list 3 (w.map TWrite.cs), AV.int t] [] (fun x : Value × List Value => x.2.length = (putP l w t).1.length) (fun x => .arr x.1 142 2 (nrows TCell.ocs (putP l w t).1 x.2) :: nin TCell.ow (putP l w t).1 x.2) (fun x => AV.tup [AV.is x.1, AV.bool (putP l w t).2]) := by
 have hwl : w.length ≤ 1048576 := Nat.le_trans P5 hw
 refine I2 Tryz.func205 rfl Tryz.ntmps205 rfl ?_
 refine A3 (A2 ?_)
 refine A1 rfl rfl rfl (B8 rfl Q7) ?_
 refine A1 rfl rfl rfl (B8 rfl F0) ?_
 refine A5 (A3 (A2 ?_))
 refine A4 rfl rfl rfl rfl rfl ?_
 refine Am3 [] 0 1 ([]) ([]) (fun zz => nin TCell.ow l zz.2) rfl rfl rfl rfl Tryz.call208 rfl rfl (show List.Perm ([]) (([]) ++ ([])) from List.Perm.refl _) (AV6 l (by omega)) (A7 (A0 rfl) C0) (fun a => perm_lin) ?_
 intro x15 ok15
 refine B2 rfl rfl rfl rfl rfl ?_
 refine A5 (A3 (A3 (A2 ?_)))
 refine A4 rfl rfl rfl rfl rfl ?_
 refine A1 rfl rfl rfl (H3 rfl G4 (A0 rfl)) ?_
 refine A1 rfl rfl rfl (C4 rfl B5) ?_
 refine A5 (D7 ?_)
 refine g9 [(2, _), (16, _), (17, _)] [] (fun (i : Nat) (v : Value) (q : List TCell) (xs : List Value) => i ≤ w.length ∧ xs.length = q.length ∧ CellsOk q ∧ sizeL TCell.size q ≤ 1048576 + 2 * sizeL TWrite.size (w.take i) ∧ putAll l w t = putAll q (w.drop i) t) (fun (i : Nat) (v : Value) (q : List TCell) (xs : List Value) => [.arr v 142 2 (nrows TCell.ocs q xs)] ++ (nin TCell.ow q xs)) (fun (i : Nat) (v : Value) (q : List TCell) (xs : List Value) => [(8, AV.is v), (18, AV.int i)]) (fun (i : Nat) (v : Value) (q : List TCell) (xs : List Value) => w.length - i) (0) (x15.1) (l) (x15.2) ?_ (S7 (by rw [List.append_nil]; rfl) ⟨rfl, rfl, rfl, rfl, rfl, trivial⟩) ?_
 ·exact ⟨Nat.zero_le _, ok15, ho, by omega, rfl⟩
 intro i v q xs hinv
 have hlen := hinv.2.1
 have hinvo := hinv
 have hrl : (nrows TCell.ocs q xs).length = q.length := AG3 hlen
 refine K7 (List.append_nil _) ?_
 refine A3 (A2 ?_)
 refine A1 rfl rfl rfl (J8 rfl (A0 rfl) (A0 rfl)) ?_
 refine A5 (A3 ?_)
 refine C8 (A0 rfl) ?_ ?_
 ·intro h19
  have k19 := of_decide_eq_true h19; try simp only [A6] at k19
  have hlt : i < w.length := by omega
  obtain ⟨x, hx⟩ := get_some hlt
  have htk := AH3 (f := TWrite.size) (l := w) i
  have hso : sizeL TCell.size q ≤ 4194304 := by omega
  have hql : q.length ≤ 4194304 := Nat.le_trans P5 hso
  refine D1 (A3 (D7 (A3 (A2 ?_))))
  refine A1 rfl rfl rfl (J4 rfl G4 H9 (A0 rfl) (A0 rfl) hx (by first | omega | (simp only [A6, B0, B7, C1, B3, szR] at *; omega))) ?_
  refine A1 rfl rfl rfl (M7 rfl (A0 rfl) S9 H9) ?_
  refine F3 rfl rfl rfl rfl Tryz.zeroValue77 rfl ?_
  intro b10
  refine D5 0 rfl rfl rfl (A0 rfl) (A0 rfl) (E8 _) rfl H9 rfl ?_
  refine A5 (A3 (A2 ?_))
  refine A4 rfl rfl rfl rfl rfl ?_
  refine A1 rfl rfl rfl (B6 1 rfl I3 rfl F5 (A0 rfl) rfl) ?_
  refine A1 rfl rfl rfl (B4 0 rfl (A0 rfl) rfl H0 rfl) ?_
  refine A1 rfl rfl rfl (B6 2 rfl I3 rfl K5 (A0 rfl) rfl) ?_
  refine A1 rfl rfl rfl (B4 0 rfl (A0 rfl) rfl M6 rfl) ?_
  refine A1 rfl rfl rfl (Q2 (places := #[(0, 1), (1, 1), (2, 1)]) rfl P3 Tryz.zeroValue197 (fun w => by kernel_rfl) rfl (E7 (A0 rfl) (K8 _ _) (E7 (A0 rfl) (P4 _) (E7 (A0 rfl) (m6 _) I6))) rfl) ?_
  refine F3 rfl rfl rfl rfl Tryz.zeroValue197 rfl ?_
  intro b11
  refine D5 0 rfl rfl rfl (A0 rfl) (A0 rfl) (E8 _) rfl O8 rfl ?_
  refine A5 (A3 (A2 ?_))
  refine A4 rfl rfl rfl rfl rfl ?_
  refine A1 rfl rfl rfl (U5 2 rfl F2 (A0 rfl) rfl) ?_
  refine B2 rfl rfl rfl rfl rfl ?_
  refine A5 (A3 (D7 ?_))
  refine J0 [(2, _), (8, _), (10, _), (11, _), (16, _), (17, _), (18, _), (19, _), (20, _), (21, _), (22, _), (23, _), (24, _), (25, _), (26, _), (27, _), (28, _), (29, _)] _ (fun (j : Nat) => j ≤ q.length ∧ ∀ (a : Nat) (c : TCell), j ≤ a → q[a]? = some c → Op.bytesLess x.Key c.Key = true) (fun (j : Nat) => []) (fun (j : Nat) => [(12, AV.int j)]) (fun (j : Nat) => j) (q.length) ?_ (J1 ⟨congrArg (fun z : Nat => some (AV.int z)) hrl, rfl, rfl, rfl, rfl, rfl, rfl, rfl, rfl, rfl, rfl, rfl, rfl, rfl, rfl, rfl, rfl, rfl, rfl, trivial⟩) ?_
  ·exact ⟨Nat.le_refl _, fun a c ha hc => by have := (List.getElem?_eq_some_iff.1 hc).1; omega⟩
  intro j hinv
  obtain ⟨c, hc0⟩ := AA2 q (j - 1)
  obtain ⟨y, hy0⟩ : ∃ y, j - 1 < xs.length → xs[j - 1]? = some y := ⟨xs[j - 1]?.getD (.int .i64 0), fun h => by rw [List.getElem?_eq_getElem h]; rfl⟩
  have hj1 : 0 < j → ((j : Int) - 1).toNat = j - 1 := fun _ => by omega
  have hrow0 : 0 < j → (nrows TCell.ocs q xs)[((j : Int) - 1).toNat]? = some (TCell.ocs c y) := fun h => by rw [hj1 h]; exact AU1 (hc0 (by omega)) (hy0 (by omega))
  refine A3 (A3 ?_)
  refine K0 (by kernel_rfl) (by kernel_rfl) rfl ?_
  refine C2 rfl rfl (C4 rfl (A0 rfl)) ?_
  refine C2 rfl rfl (O5 rfl (A0 rfl) B5) ?_
  refine C2 rfl rfl (C4 rfl (A0 rfl)) ?_
  refine D8 rfl (B1 rfl rfl rfl) (fun hc => C4 rfl (A0 rfl)) ?_
  refine D8 rfl (B1 rfl rfl rfl) (fun hc => C4 rfl (A0 rfl)) ?_
  refine D8 rfl (B1 rfl rfl rfl) (fun hc => N1 rfl (A8 rfl hc) B5 (by first | omega | ((try simp only [A6, B0, B7, C1, B3, szR] at *); omega) | (have hc2 := hc; simp only [Bool.and_eq_true, Bool.or_eq_true, Bool.or_eq_false_iff, Bool.and_eq_false_iff, Bool.not_eq_true', Bool.not_eq_false', decide_eq_true_eq, decide_eq_false_iff_not, beq_iff_eq, bne_iff_ne, A6, B0] at hc2; omega))) ?_
  refine D8 rfl (B1 rfl rfl rfl) (fun hc => V8 2 rfl F2 G2 (A8 rfl hc) rfl (A8 rfl hc) (by first | omega | ((try simp only [A6, B0, B7, C1, B3, szR] at *); omega) | (have hc2 := hc; simp only [Bool.and_eq_true, Bool.or_eq_true, Bool.or_eq_false_iff, Bool.and_eq_false_iff, Bool.not_eq_true', Bool.not_eq_false', decide_eq_true_eq, decide_eq_false_iff_not, beq_iff_eq, bne_iff_ne, A6, B0] at hc2; omega)) (by first | omega | ((try simp only [A6, B0, B7, C1, B3, szR] at *); omega) | (have hc2 := hc; simp only [Bool.and_eq_true, Bool.or_eq_true, Bool.or_eq_false_iff, Bool.and_eq_false_iff, Bool.not_eq_true', Bool.not_eq_false', decide_eq_true_eq, decide_eq_false_iff_not, beq_iff_eq, bne_iff_ne, A6, B0] at hc2; omega))) ?_
  refine D8 rfl (B1 rfl rfl rfl) (fun hc => AF2 2 rfl G8 rfl F5 (A8 rfl hc) rfl rfl (hrow0 (by first | omega | ((try simp only [A6, B0, B7, C1, B3, szR] at *); omega) | (have hc2 := hc; simp only [Bool.and_eq_true, Bool.or_eq_true, Bool.or_eq_false_iff, Bool.and_eq_false_iff, Bool.not_eq_true', Bool.not_eq_false', decide_eq_true_eq, decide_eq_false_iff_not, beq_iff_eq, bne_iff_ne, A6, B0] at hc2; omega)))) ?_
  refine D8 rfl (B1 rfl rfl rfl) (fun hc => AM0 2 rfl (A8 rfl hc) rfl H0 (hrow0 (by first | omega | ((try simp only [A6, B0, B7, C1, B3, szR] at *); omega) | (have hc2 := hc; simp only [Bool.and_eq_true, Bool.or_eq_true, Bool.or_eq_false_iff, Bool.and_eq_false_iff, Bool.not_eq_true', Bool.not_eq_false', decide_eq_true_eq, decide_eq_false_iff_not, beq_iff_eq, bne_iff_ne, A6, B0] at hc2; omega))) rfl) ?_
  refine D8 rfl (B1 rfl rfl rfl) (fun hc => B6 0 rfl I3 rfl F5 (A0 rfl) rfl) ?_
  refine D8 rfl (B1 rfl rfl rfl) (fun hc => B4 1 rfl (A8 rfl hc) rfl H0 rfl) ?_
  refine D8 rfl (B1 rfl rfl rfl) (fun hc => AY8 rfl (A8 rfl hc) (A8 rfl hc)) ?_
  refine C2 rfl rfl (G1 rfl (A0 rfl) (E3 rfl)) ?_
  refine Q9 ?_
  refine C8 (A0 rfl) ?_ ?_
  ·intro h42
   have hgt : 0 < j ∧ Op.bytesLess x.Key c.Key = true := by rw [Q5]; simpa using h42
   refine D1 (D7 (A2 ?_))
   refine A4 rfl rfl rfl rfl rfl ?_
   refine A1 rfl rfl rfl (N1 rfl (A0 rfl) B5 (by first | omega | (simp only [A6, B0, B7, C1, B3, szR] at *; omega))) ?_
   refine B2 rfl rfl rfl rfl rfl ?_
   refine A5 ?_
   refine g8 ?_
   refine L2 j (j - 1) ?_ ?_ (J1 ⟨congrArg (fun z : Int => some (AV.int z)) (by omega), rfl, rfl, rfl, rfl, rfl, rfl, rfl, rfl, rfl, rfl, rfl, rfl, rfl, rfl, rfl, rfl, rfl, rfl, trivial⟩)
   ·exact ⟨by omega, fun a c' ha hc' => if h9 : j ≤ a then hinv.2 a c' h9 hc' else (by have e : a = j - 1 := (by omega); subst e; rw [hc0 (by omega)] at hc'; injection hc' with hc'; subst hc'; exact hgt.2)⟩
   ·omega
  ·intro h42
   have hng : 0 < j → Op.bytesLess x.Key c.Key = false := fun h => by rw [Q5]; simpa [h] using h42
   refine H4 ?_
   refine A3 (A3 ?_)
   refine K0 (by kernel_rfl) (by kernel_rfl) rfl ?_
   refine C2 rfl rfl (C4 rfl (A0 rfl)) ?_
   refine C2 rfl rfl (O5 rfl (A0 rfl) B5) ?_
   refine C2 rfl rfl (C4 rfl (A0 rfl)) ?_
   refine D8 rfl (B1 rfl rfl rfl) (fun hc => C4 rfl (A0 rfl)) ?_
   refine D8 rfl (B1 rfl rfl rfl) (fun hc => C4 rfl (A0 rfl)) ?_
   refine D8 rfl (B1 rfl rfl rfl) (fun hc => N1 rfl (A8 rfl hc) B5 (by first | omega | ((try simp only [A6, B0, B7, C1, B3, szR] at *); omega) | (have hc2 := hc; simp only [Bool.and_eq_true, Bool.or_eq_true, Bool.or_eq_false_iff, Bool.and_eq_false_iff, Bool.not_eq_true', Bool.not_eq_false', decide_eq_true_eq, decide_eq_false_iff_not, beq_iff_eq, bne_iff_ne, A6, B0] at hc2; omega))) ?_
   refine D8 rfl (B1 rfl rfl rfl) (fun hc => V8 2 rfl F2 G2 (A8 rfl hc) rfl (A8 rfl hc) (by first | omega | ((try simp only [A6, B0, B7, C1, B3, szR] at *); omega) | (have hc2 := hc; simp only [Bool.and_eq_true, Bool.or_eq_true, Bool.or_eq_false_iff, Bool.and_eq_false_iff, Bool.not_eq_true', Bool.not_eq_false', decide_eq_true_eq, decide_eq_false_iff_not, beq_iff_eq, bne_iff_ne, A6, B0] at hc2; omega)) (by first | omega | ((try simp only [A6, B0, B7, C1, B3, szR] at *); omega) | (have hc2 := hc; simp only [Bool.and_eq_true, Bool.or_eq_true, Bool.or_eq_false_iff, Bool.and_eq_false_iff, Bool.not_eq_true', Bool.not_eq_false', decide_eq_true_eq, decide_eq_false_iff_not, beq_iff_eq, bne_iff_ne, A6, B0] at hc2; omega))) ?_
   refine D8 rfl (B1 rfl rfl rfl) (fun hc => AF2 2 rfl G8 rfl F5 (A8 rfl hc) rfl rfl (hrow0 (by first | omega | ((try simp only [A6, B0, B7, C1, B3, szR] at *); omega) | (have hc2 := hc; simp only [Bool.and_eq_true, Bool.or_eq_true, Bool.or_eq_false_iff, Bool.and_eq_false_iff, Bool.not_eq_true', Bool.not_eq_false', decide_eq_true_eq, decide_eq_false_iff_not, beq_iff_eq, bne_iff_ne, A6, B0] at hc2; omega)))) ?_
   refine D8 rfl (B1 rfl rfl rfl) (fun hc => AM0 2 rfl (A8 rfl hc) rfl H0 (hrow0 (by first | omega | ((try simp only [A6, B0, B7, C1, B3, szR] at *); omega) | (have hc2 := hc; simp only [Bool.and_eq_true, Bool.or_eq_true, Bool.or_eq_false_iff, Bool.and_eq_false_iff, Bool.not_eq_true', Bool.not_eq_false', decide_eq_true_eq, decide_eq_false_iff_not, beq_iff_eq, bne_iff_ne, A6, B0] at hc2; omega))) rfl) ?_
   refine D8 rfl (B1 rfl rfl rfl) (fun hc => B6 0 rfl I3 rfl F5 (A0 rfl) rfl) ?_
   refine D8 rfl (B1 rfl rfl rfl) (fun hc => B4 1 rfl (A8 rfl hc) rfl H0 rfl) ?_
   refine D8 rfl (B1 rfl rfl rfl) (fun hc => o6 rfl (A8 rfl hc) (A8 rfl hc)) ?_
   refine C2 rfl rfl (G1 rfl (A0 rfl) (E3 rfl)) ?_
   refine Q9 ?_
   refine C8 (A0 rfl) ?_ ?_
   ·intro h57
    have hf : 0 < j ∧ c.Key = x.Key := by simpa using h57
    have hc := hc0 (by omega)
    have hy := hy0 (by omega)
    have hins := scan_has hinvo.2.2.1.1 hc hf.2 ⟨t, x.Val, x.Gone⟩
    refine A3 (A3 (A2 ?_))
    refine A4 rfl rfl rfl rfl rfl ?_
    refine A1 rfl rfl rfl (B6 0 rfl I3 rfl F5 (A0 rfl) rfl) ?_
    refine A1 rfl rfl rfl (B4 1 rfl (A0 rfl) rfl H0 rfl) ?_
    refine A1 rfl rfl rfl (j8 rfl Tryz.call203 rfl (y8 q x.Key hinvo.2.2.1 hso) (F4 _ _) (S1 (AF1 (A0 rfl) (AC4 TCell.lcM (by first | exact hlen | exact hlen.trans (AC5 _ _).symm) 2 rfl (fun o ho => List.mem_of_mem_drop (i := 3) (show o ∈ nin TCell.ow q xs from by first | exact ho | exact List.mem_append_left _ ho | exact List.mem_append_right _ ho | exact List.mem_append_right _ (List.mem_append_left _ ho) | exact List.mem_append_right _ (List.mem_append_right _ ho))))) (S1 (evb (A0 rfl)) Z6))) ?_
    refine A4 rfl rfl rfl rfl rfl ?_
    refine A1 rfl rfl rfl (X4 rfl (A0 rfl) (A0 rfl)) ?_
    refine A5 ?_
    refine C8 (A0 rfl) ?_ ?_
    ·intro h63
     have k63 := of_decide_eq_true h63; try simp only [A6] at k63
     have he : putP l w t = ([], false) := by unfold putP; rw [put_stop hinvo.2.2.2.2 hx k63]
     rw [he]
     refine A3 (A2 ?_)
     refine A1 rfl rfl rfl (B8 rfl Q7) ?_
     refine A1 rfl rfl rfl (B8 rfl F0) ?_
     refine A5 ?_
     refine C6 ?_
     refine j0 142 2 ?_
     first | exact M8 [0] ((Value.slice none 0 0), []) (rfl) rfl (by rfl) (Y0 rfl (by decide) (E6 (C3 rfl (by rfl)) (E6 (C3 rfl (by rfl)) I8))) | exact AP0 [0] 3 (nin TCell.ow q xs) [] ((Value.slice none 0 0), []) (rfl) rfl (show List.Perm (nin TCell.ow q xs) ((nin TCell.ow q xs) ++ []) from s9) (by rfl) (Y0 rfl (by decide) (E6 (C3 rfl (by rfl)) (E6 (C3 rfl (by rfl)) I8))) | exact M8 [0] ((Value.slice none 0 0), xs) (hinv.2.1) rfl (by rfl) (Y0 rfl (by decide) (E6 (C3 rfl (by rfl)) (E6 (C3 rfl (by rfl)) I8))) | exact AP0 [0] 3 (nin TCell.ow q xs) [] ((Value.slice none 0 0), xs) (hinv.2.1) rfl (show List.Perm (nin TCell.ow q xs) ((nin TCell.ow q xs) ++ []) from s9) (by rfl) (Y0 rfl (by decide) (E6 (C3 rfl (by rfl)) (E6 (C3 rfl (by rfl)) I8)))
    ·intro h63
     have k63 := of_decide_eq_false h63; try simp only [A6] at k63
     have hnt : ¬ t ≤ lastTime q x.Key := k63
     have hpo := (List.getElem?_eq_some_iff.1 hc).1
     have hA : (nrows TCell.ocs (q.take (j - 1)) (xs.take (j - 1))).length = ((j : Int) - 1).toNat := (Ai4 (ocs := TCell.ocs) hc hy).trans (hj1 hf.1).symm
     obtain ⟨fx, hto⟩ : ∃ fx, RowsTo (nrows TCell.ocs (q.take (j - 1)) (xs.take (j - 1))) c.Key (c.Vers.map TVer.cs ++ [TVer.cs ⟨t, x.Val, x.Gone⟩]) (nrows TCell.ocs (q.drop (j - 1 + 1)) (xs.drop (j - 1 + 1))) (nin TCell.ow (q.eraseIdx (j - 1)) (xs.eraseIdx (j - 1))) (putC1 q x t) fx := ⟨_, by have h7 := Aj2 hc hy hlen ⟨t, x.Val, x.Gone⟩; unfold putC1; rw [hins]; rw [hf.2] at h7 ⊢; exact h7⟩
     have hcs := j6 (Nat.le_trans (Y1 hc) hso)
     rw [y6 hc hy]
     refine AWP.le (r8 3 (t := (TCell.ow c y) ++ (nin TCell.ow (q.eraseIdx (j - 1)) (xs.eraseIdx (j - 1)))) (AI5 (ow := TCell.ow) hc hy)) ?_
     refine D1 (A3 ?_)
     refine AWP.le (K1 [0, 1, 1] rfl) ?_
     refine W5 _ [(0, false), (1, false), (2, false), (3, false), (4, false), (5, false), (6, false), (7, false), (8, false), (9, false), (10, false), (11, true)] (by kernel_rfl) (by kernel_rfl) rfl (c0 2) ?_
     refine I7 rfl rfl rfl (fun ext => C4 rfl (A0 rfl)) ?_
     refine I7 rfl rfl rfl (fun ext => C4 rfl (A0 rfl)) ?_
     refine I7 rfl rfl rfl (fun ext => N1 rfl (A0 rfl) B5 (by first | omega | (simp only [A6, B0, B7, C1, B3, szR] at *; omega))) ?_
     refine I7 rfl rfl rfl (fun ext => C4 rfl (A0 rfl)) ?_
     refine I7 rfl rfl rfl (fun ext => C4 rfl (A0 rfl)) ?_
     refine I7 rfl rfl rfl (fun ext => N1 rfl (A0 rfl) B5 (by first | omega | (simp only [A6, B0, B7, C1, B3, szR] at *; omega))) ?_
     refine I7 rfl rfl rfl (fun ext => V8 1 rfl F2 G2 (A0 rfl) rfl (A0 rfl) (by omega) (by rw [J9, B7]; omega)) ?_
     refine I7 rfl rfl rfl (fun ext => AF2 1 rfl G8 rfl Q0 (A0 rfl) rfl rfl (AA1 hA)) ?_
     refine I7 rfl rfl rfl (fun ext => AM0 1 rfl (A0 rfl) rfl R7 (AA1 hA) rfl) ?_
     refine I7 rfl rfl rfl (fun ext => E4 0 rfl (A0 rfl) rfl Tryz.isAgg197 O8 rfl) ?_
     refine I7 rfl rfl rfl (fun ext => M3 rfl K2 O8 Tryz.zeroValue197 rfl rfl rfl rfl (E7 (A0 rfl) (E8 _) I6) rfl rfl) ?_
     refine V9 rfl rfl rfl (Q6 (by' := 32) 2 rfl K2 Tryz.type197 rfl rfl rfl rfl rfl rfl (A0 rfl) (A0 rfl) rfl (by first | omega | (simp only [A6, B0, B7, C1, B3, szR] at *; omega))) (fun a _ => (by first | exact G7 rfl | exact G7 (List.append_assoc _ _ _) | exact K9)) ?_
     intro v75_2 _
     refine s7 ?_
     refine A1 rfl rfl rfl (V8 1 rfl F2 G2 (A0 rfl) rfl (A0 rfl) (by omega) (by rw [J9, B7]; omega)) ?_
     refine A1 rfl rfl rfl (AF2 1 rfl G8 rfl Q0 (A0 rfl) rfl rfl (AA1 hA)) ?_
     refine W4 2 rfl fun one_v75_2 => ?_
     refine AO6 1 rfl rfl rfl (A0 rfl) (A0 rfl) (V5 one_v75_2) rfl Q0 hA rfl ?_
     refine A5 ?_
     refine H4 ?_
     refine K7 (by first | (simp only [List.singleton_append, pick, O9, O4, N9, N7, O0, List.nil_append, P0, P1, List.append_nil, N8, List.take_zero, O1, List.drop_zero]; exact rfl) | exact rfl) ?_
     refine AWP.le (K1 [0, 0, 1, 0] rfl) ?_
     refine AWP.le (r8 3 (t := nin TCell.ow (putC1 q x t) (fx v75_2)) ((hto v75_2).2.2)) ?_
     refine A2 ?_
     refine A1 rfl rfl rfl (G5 rfl (A0 rfl) B5 (by first | omega | (simp only [A6, B0, B7, C1, B3, szR] at *; omega))) ?_
     refine A4 rfl rfl rfl rfl rfl ?_
     refine A5 ?_
     refine W6 i v q xs (i + 1) (v) (putC1 q x t) (fx v75_2) ?_ ?_ (Le.trans (K1 [0, 1, 0] rfl) (N0 2 (Eq.trans (by first | exact congrArg (fun z => Own.arr _ _ _ z :: _) (hto v75_2).2.1 | exact congrArg (fun z => Own.arr _ _ _ z :: _) (by first | (rw [List.nil_append, List.append_assoc]; exact (hto v75_2).2.1) | (rw [List.append_assoc]; exact (hto v75_2).2.1))) (List.append_nil _).symm) ⟨rfl, rfl, rfl, rfl, rfl, trivial⟩))
     ·exact ⟨by omega, (hto _).1, i5 hinvo.2.2.1 _ _, by have h8 := l9 q x t; have h9 := g6 (f := TWrite.size) hx; omega, AD1 hinvo.2.2.2.2 hx hnt⟩
     ·omega
   ·intro h57
    have hnf : 0 < j → c.Key ≠ x.Key := fun h => by simpa [h] using h57
    obtain ⟨hins, hl0⟩ := scan_new hinvo.2.2.1.1 hinv.1 hinv.2 (fun z hz hzz => by rw [hc0 (by omega)] at hzz; injection hzz with hzz; subst hzz; rw [Q5, hng hz]; simpa using fun e => hnf hz e.symm) ⟨t, x.Val, x.Gone⟩
    have hnt : ¬ t ≤ lastTime q x.Key := by rw [hl0]; omega
    obtain ⟨fx, hto⟩ : ∃ fx, RowsTo ((nrows TCell.ocs q xs).take j) x.Key [TVer.cs ⟨t, x.Val, x.Gone⟩] ((nrows TCell.ocs q xs).drop j) (nin TCell.ow q xs) (putC1 q x t) fx := ⟨_, by unfold putC1; rw [hins]; exact Aj3 hinv.1 hlen _ _⟩
    refine D1 (A3 ?_)
    refine AWP.le (X7 [2] 8 rfl rfl (N2 (G6 (i := 0) rfl) I9) S8) ?_
    refine A2 ?_
    refine U4 rfl rfl rfl rfl F2 G2 ?_
    intro v78
    refine A4 rfl rfl rfl rfl rfl ?_
    refine A4 rfl rfl rfl rfl rfl ?_
    refine A1 rfl rfl rfl (AZ3 rfl F2 G2 (A0 rfl) (A0 rfl) (by omega) (by rw [hrl]; omega)) ?_
    refine M9 (by' := 40) 0 rfl rfl rfl rfl F2 Tryz.type142 rfl rfl rfl rfl rfl rfl (A0 rfl) (A0 rfl) rfl (by simp only [C1, List.nil_append, J9, B0, List.length_drop, B7, B3, hrl]; omega) ?_
    intro v82_3
    refine B2 rfl rfl rfl rfl rfl ?_
    refine A5 ?_
    refine AWP.le (X7 [0] 13 rfl rfl (N2 (G6 (i := 0) rfl) I9) S8) ?_
    refine AWP.le (K1 [0, 0] rfl) ?_
    refine d4 _ 14 (.pure 1 (.pure 2 (.pure 3 (.pure 5 (.pure 6 (.pure 7 (.pure 12 (.e2 0 (.e2 4 (.e1 8 (.pure 9 (.pure 10 (.e1 11 (.e1 13 .nil))))) 8 (.pure 9 (.pure 10 (.e1 4 (.e1 11 (.e1 13 .nil)))))) 8 (.pure 9 (.pure 10 (.e1 0 (.e1 4 (.e1 11 (.e1 13 .nil)))))))))))))) (by kernel_rfl) (by kernel_rfl) rfl (c0 2) ?_
    refine M4 rfl rfl rfl (fun ext => C4 rfl (A0 rfl)) ?_
    refine M4 rfl rfl rfl (fun ext => C4 rfl (A0 rfl)) ?_
    refine M4 rfl rfl rfl (fun ext => AZ2 rfl F2 G2 (A0 rfl) (A0 rfl) (by omega) (by rw [hrl]; omega)) ?_
    refine M4 rfl rfl rfl (fun ext => B6 0 rfl I3 rfl F5 (A0 rfl) rfl) ?_
    refine M4 rfl rfl rfl (fun ext => B4 1 rfl (A0 rfl) rfl H0 rfl) ?_
    refine M4 rfl rfl rfl (fun ext => E4 0 rfl (A0 rfl) rfl Tryz.isAgg197 O8 rfl) ?_
    refine M4 rfl rfl rfl (fun ext => C4 rfl (A0 rfl)) ?_
    refine AY3 ?_ ?_
    ·refine V6 rfl rfl rfl (r9 2 <| c3 rfl F2 G2) (fun a _ => (by first | exact G7 rfl | exact G7 (List.append_assoc _ _ _) | exact K9)) ?_
     intro v83 _
     refine AY3 ?_ ?_
     ·refine V6 rfl rfl rfl (Q6 (by' := 40) 2 rfl F2 Tryz.type142 rfl rfl rfl rfl rfl rfl (A0 rfl) (A0 rfl) rfl (by simp only [C1, List.nil_append, J9, B0, List.length_drop, B7, B3, hrl]; omega)) (fun a _ => (by first | exact G7 rfl | exact G7 (List.append_assoc _ _ _) | exact K9)) ?_
      intro v87_4 _
      refine Z9 ?_
      refine V6 rfl rfl rfl (n0 3 (fun _ => rfl) (r9 3 <| AC2 rfl K2 O8 Tryz.zeroValue197 rfl rfl rfl rfl (E7 (A0 rfl) (E8 _) I6) rfl rfl)) (fun a _ => (by first | exact G7 rfl | exact G7 (List.append_assoc _ _ _) | exact K9)) ?_
      intro v91 hone_v91
      have one_v91 := hone_v91.2
      refine M4 rfl rfl rfl (fun ext => Q2 (places := #[(0, 1), (1, 1)]) rfl G8 Tryz.zeroValue142 (fun w => by kernel_rfl) rfl (E7 (A0 rfl) (P4 _) (E7 (A0 rfl) (V5 one_v91) I6)) rfl) ?_
      refine M4 rfl rfl rfl (fun ext => M3 rfl F2 G2 Tryz.zeroValue142 rfl rfl rfl rfl (E7 (A0 rfl) (E8 _) I6) rfl rfl) ?_
      refine Z9 ?_
      refine V6 rfl rfl rfl (Q6 (by' := 40) 2 rfl F2 Tryz.type142 rfl rfl rfl rfl rfl rfl (A0 rfl) (A0 rfl) rfl (by simp only [C1, List.nil_append, J9, B0, List.length_drop, B7, B3, hrl]; omega)) (fun a _ => (by first | exact G7 rfl | exact G7 (List.append_assoc _ _ _) | exact K9)) ?_
      intro v94_5 _
      refine Z9 ?_
      refine V6 rfl rfl rfl (Q6 (by' := 40) 2 rfl F2 Tryz.type142 rfl rfl rfl rfl rfl rfl (A0 rfl) (A0 rfl) rfl (by simp only [C1, List.nil_append, J9, B0, List.length_drop, B7, B3, hrl]; omega)) (fun a _ => (by first | exact G7 rfl | exact G7 (List.append_assoc _ _ _) | exact K9)) ?_
      intro v96_6 _
      refine p4 ?_
      refine B2 rfl rfl rfl rfl rfl ?_
      refine A5 ?_
      refine K7 (by first | (simp only [List.singleton_append, pick, O9, O4, N9, N7, O0, List.nil_append, P0, P1, List.append_nil, N8, List.take_zero, O1, List.drop_zero]; exact rfl) | exact rfl) ?_
      refine AWP.le (K1 [0, 0, 0, 0] rfl) ?_
      refine AWP.le (r8 3 (t := nin TCell.ow (putC1 q x t) (fx v91)) ((hto v91).2.2)) ?_
      refine A2 ?_
      refine A1 rfl rfl rfl (G5 rfl (A0 rfl) B5 (by first | omega | (simp only [A6, B0, B7, C1, B3, szR] at *; omega))) ?_
      refine A4 rfl rfl rfl rfl rfl ?_
      refine A5 ?_
      refine W6 i v q xs (i + 1) (v96_6) (putC1 q x t) (fx v91) ?_ ?_ (Le.trans (K1 [0, 0, 0] rfl) (N0 2 (Eq.trans (by first | exact congrArg (fun z => Own.arr _ _ _ z :: _) (hto v91).2.1 | exact congrArg (fun z => Own.arr _ _ _ z :: _) (by first | (rw [List.nil_append, List.append_assoc]; exact (hto v91).2.1) | (rw [List.append_assoc]; exact (hto v91).2.1))) (List.append_nil _).symm) ⟨rfl, rfl, rfl, rfl, rfl, trivial⟩))
      ·exact ⟨by omega, (hto _).1, i5 hinvo.2.2.1 _ _, by have h8 := l9 q x t; have h9 := g6 (f := TWrite.size) hx; omega, AD1 hinvo.2.2.2.2 hx hnt⟩
      ·omega
     ·refine V6 rfl rfl rfl (n0 3 (fun _ => rfl) (r9 3 <| AC2 rfl K2 O8 Tryz.zeroValue197 rfl rfl rfl rfl (E7 (A0 rfl) (E8 _) I6) rfl rfl)) (fun a _ => (by first | exact G7 rfl | exact G7 (List.append_assoc _ _ _) | exact K9)) ?_
      intro v91 hone_v91
      have one_v91 := hone_v91.2
      refine M4 rfl rfl rfl (fun ext => Q2 (places := #[(0, 1), (1, 1)]) rfl G8 Tryz.zeroValue142 (fun w => by kernel_rfl) rfl (E7 (A0 rfl) (P4 _) (E7 (A0 rfl) (V5 one_v91) I6)) rfl) ?_
      refine M4 rfl rfl rfl (fun ext => M3 rfl F2 G2 Tryz.zeroValue142 rfl rfl rfl rfl (E7 (A0 rfl) (E8 _) I6) rfl rfl) ?_
      refine Z9 ?_
      refine V6 rfl rfl rfl (Q6 (by' := 40) 2 rfl F2 Tryz.type142 rfl rfl rfl rfl rfl rfl (A0 rfl) (A0 rfl) rfl (by simp only [C1, List.nil_append, J9, B0, List.length_drop, B7, B3, hrl]; omega)) (fun a _ => (by first | exact G7 rfl | exact G7 (List.append_assoc _ _ _) | exact K9)) ?_
      intro v87_7 _
      refine Z9 ?_
      refine V6 rfl rfl rfl (Q6 (by' := 40) 2 rfl F2 Tryz.type142 rfl rfl rfl rfl rfl rfl (A0 rfl) (A0 rfl) rfl (by simp only [C1, List.nil_append, J9, B0, List.length_drop, B7, B3, hrl]; omega)) (fun a _ => (by first | exact G7 rfl | exact G7 (List.append_assoc _ _ _) | exact K9)) ?_
      intro v94_8 _
      refine Z9 ?_
      refine V6 rfl rfl rfl (Q6 (by' := 40) 2 rfl F2 Tryz.type142 rfl rfl rfl rfl rfl rfl (A0 rfl) (A0 rfl) rfl (by simp only [C1, List.nil_append, J9, B0, List.length_drop, B7, B3, hrl]; omega)) (fun a _ => (by first | exact G7 rfl | exact G7 (List.append_assoc _ _ _) | exact K9)) ?_
      intro v96_9 _
      refine p4 ?_
      refine B2 rfl rfl rfl rfl rfl ?_
      refine A5 ?_
      refine K7 (by first | (simp only [List.singleton_append, pick, O9, O4, N9, N7, O0, List.nil_append, P0, P1, List.append_nil, N8, List.take_zero, O1, List.drop_zero]; exact rfl) | exact rfl) ?_
      refine AWP.le (K1 [0, 0, 0, 0] rfl) ?_
      refine AWP.le (r8 3 (t := nin TCell.ow (putC1 q x t) (fx v91)) ((hto v91).2.2)) ?_
      refine A2 ?_
      refine A1 rfl rfl rfl (G5 rfl (A0 rfl) B5 (by first | omega | (simp only [A6, B0, B7, C1, B3, szR] at *; omega))) ?_
      refine A4 rfl rfl rfl rfl rfl ?_
      refine A5 ?_
      refine W6 i v q xs (i + 1) (v96_9) (putC1 q x t) (fx v91) ?_ ?_ (Le.trans (K1 [0, 0, 0] rfl) (N0 2 (Eq.trans (by first | exact congrArg (fun z => Own.arr _ _ _ z :: _) (hto v91).2.1 | exact congrArg (fun z => Own.arr _ _ _ z :: _) (by first | (rw [List.nil_append, List.append_assoc]; exact (hto v91).2.1) | (rw [List.append_assoc]; exact (hto v91).2.1))) (List.append_nil _).symm) ⟨rfl, rfl, rfl, rfl, rfl, trivial⟩))
      ·exact ⟨by omega, (hto _).1, i5 hinvo.2.2.1 _ _, by have h8 := l9 q x t; have h9 := g6 (f := TWrite.size) hx; omega, AD1 hinvo.2.2.2.2 hx hnt⟩
      ·omega
    ·refine V6 rfl rfl rfl (n0 2 (fun _ => rfl) (r9 2 <| AC2 rfl K2 O8 Tryz.zeroValue197 rfl rfl rfl rfl (E7 (A0 rfl) (E8 _) I6) rfl rfl)) (fun a _ => (by first | exact G7 rfl | exact G7 (List.append_assoc _ _ _) | exact K9)) ?_
     intro v91 hone_v91
     have one_v91 := hone_v91.2
     refine M4 rfl rfl rfl (fun ext => Q2 (places := #[(0, 1), (1, 1)]) rfl G8 Tryz.zeroValue142 (fun w => by kernel_rfl) rfl (E7 (A0 rfl) (P4 _) (E7 (A0 rfl) (V5 one_v91) I6)) rfl) ?_
     refine M4 rfl rfl rfl (fun ext => M3 rfl F2 G2 Tryz.zeroValue142 rfl rfl rfl rfl (E7 (A0 rfl) (E8 _) I6) rfl rfl) ?_
     refine Z9 ?_
     refine V6 rfl rfl rfl (r9 3 <| c3 rfl F2 G2) (fun a _ => (by first | exact G7 rfl | exact G7 (List.append_assoc _ _ _) | exact K9)) ?_
     intro v83 _
     refine Z9 ?_
     refine V6 rfl rfl rfl (Q6 (by' := 40) 3 rfl F2 Tryz.type142 rfl rfl rfl rfl rfl rfl (A0 rfl) (A0 rfl) rfl (by simp only [C1, List.nil_append, J9, B0, List.length_drop, B7, B3, hrl]; omega)) (fun a _ => (by first | exact G7 rfl | exact G7 (List.append_assoc _ _ _) | exact K9)) ?_
     intro v87_10 _
     refine Z9 ?_
     refine V6 rfl rfl rfl (Q6 (by' := 40) 3 rfl F2 Tryz.type142 rfl rfl rfl rfl rfl rfl (A0 rfl) (A0 rfl) rfl (by simp only [C1, List.nil_append, J9, B0, List.length_drop, B7, B3, hrl]; omega)) (fun a _ => (by first | exact G7 rfl | exact G7 (List.append_assoc _ _ _) | exact K9)) ?_
     intro v94_11 _
     refine Z9 ?_
     refine V6 rfl rfl rfl (Q6 (by' := 40) 3 rfl F2 Tryz.type142 rfl rfl rfl rfl rfl rfl (A0 rfl) (A0 rfl) rfl (by simp only [C1, List.nil_append, J9, B0, List.length_drop, B7, B3, hrl]; omega)) (fun a _ => (by first | exact G7 rfl | exact G7 (List.append_assoc _ _ _) | exact K9)) ?_
     intro v96_12 _
     refine p4 ?_
     refine B2 rfl rfl rfl rfl rfl ?_
     refine A5 ?_
     refine K7 (by first | (simp only [List.singleton_append, pick, O9, O4, N9, N7, O0, List.nil_append, P0, P1, List.append_nil, N8, List.take_zero, O1, List.drop_zero]; exact rfl) | exact rfl) ?_
     refine AWP.le (K1 [0, 0, 1, 0] rfl) ?_
     refine AWP.le (r8 3 (t := nin TCell.ow (putC1 q x t) (fx v91)) ((hto v91).2.2)) ?_
     refine A2 ?_
     refine A1 rfl rfl rfl (G5 rfl (A0 rfl) B5 (by first | omega | (simp only [A6, B0, B7, C1, B3, szR] at *; omega))) ?_
     refine A4 rfl rfl rfl rfl rfl ?_
     refine A5 ?_
     refine W6 i v q xs (i + 1) (v96_12) (putC1 q x t) (fx v91) ?_ ?_ (Le.trans (K1 [0, 0, 0] rfl) (N0 2 (Eq.trans (by first | exact congrArg (fun z => Own.arr _ _ _ z :: _) (hto v91).2.1 | exact congrArg (fun z => Own.arr _ _ _ z :: _) (by first | (rw [List.nil_append, List.append_assoc]; exact (hto v91).2.1) | (rw [List.append_assoc]; exact (hto v91).2.1))) (List.append_nil _).symm) ⟨rfl, rfl, rfl, rfl, rfl, trivial⟩))
     ·exact ⟨by omega, (hto _).1, i5 hinvo.2.2.1 _ _, by have h8 := l9 q x t; have h9 := g6 (f := TWrite.size) hx; omega, AD1 hinvo.2.2.2.2 hx hnt⟩
     ·omega
 ·intro h19
  have k19 := of_decide_eq_false h19; try simp only [A6] at k19
  have hge : w.length ≤ i := by omega
  have hpe := put_end hinv.2.2.2.2 hge
  have htk := AH3 (f := TWrite.size) (l := w) i
  have hso : sizeL TCell.size q ≤ 4194304 := by omega
  have he : putP l w t = (q, l3Good q) := by unfold putP; rw [hpe]
  rw [he]
  refine H4 ?_
  refine A3 (A2 ?_)
  refine A4 rfl rfl rfl rfl rfl ?_
  refine A4 rfl rfl rfl rfl rfl ?_
  refine A1 rfl rfl rfl (j8 rfl Tryz.call201 rfl (AJ9 q hso) (F7 _) (S1 (AF1 (A0 rfl) (AC4 TCell.lcM (by first | exact hlen | exact hlen.trans (AC5 _ _).symm) 0 rfl (fun o ho => List.mem_of_mem_drop (i := 1) (show o ∈ nin TCell.ow q xs from by first | exact ho | exact List.mem_append_left _ ho | exact List.mem_append_right _ ho | exact List.mem_append_right _ (List.mem_append_left _ ho) | exact List.mem_append_right _ (List.mem_append_right _ ho))))) Z6)) ?_
  refine B2 rfl rfl rfl rfl rfl ?_
  refine B2 rfl rfl rfl rfl rfl ?_
  refine A5 ?_
  refine C6 ?_
  first | exact M8 [0] (v, []) (rfl) rfl (by rfl) (Y0 rfl (by decide) (E6 (C3 rfl (by rfl)) (E6 (C3 rfl (by rfl)) I8))) | exact AP0 [0] 0 (nin TCell.ow q xs) [] (v, []) (rfl) rfl (show List.Perm (nin TCell.ow q xs) ((nin TCell.ow q xs) ++ []) from s9) (by rfl) (Y0 rfl (by decide) (E6 (C3 rfl (by rfl)) (E6 (C3 rfl (by rfl)) I8))) | exact AP0 [0] 0 (nin TCell.ow q xs) [] (v, xs) (hinv.2.1) rfl (show List.Perm (nin TCell.ow q xs) ((nin TCell.ow q xs) ++ []) from s9) (by rfl) (Y0 rfl (by decide) (E6 (C3 rfl (by rfl)) (E6 (C3 rfl (by rfl)) I8)))
end Go.Proofs.YtnlhbdkcgaeimaaGreat

set_option linter.unusedVariables false
namespace Go.AV
section
variable {P : Program} {G : Nat → Prop} {n : Nat} {own : List Own} {env : List (Nat × AV)} {fn : Func}
theorem AH4 {sel : List Own} {cs : List AV} {sz : Nat} (j : Nat) (h : cs[j]? = some AV.nils) : LendC sel cs (cs.set j (AV.list sz [])) := ⟨by rw [List.length_set], fun i x y hx hy => by
  by_cases e : j = i
  · subst e
    rw [List.getElem?_set_self (List.getElem?_eq_some_iff.1 h).1] at hy
    rw [h] at hx
    injection hx with hx; injection hy with hy; subst hx; subst hy
    exact lt_nils
  · rw [List.getElem?_set_ne e, hx] at hy
    injection hy with hy; subst hy; exact L8⟩
theorem AN0 {E : EnvF} {q : Operand} {v : Value} {e : TypeId} {sz : Nat} {es : List (List AV)} (i : Nat) (hi : own[i]? = some (.arr v e sz es)) (hq : Ev E q (AV.is v)) : SrcE own E q sz es := fun G w0 R0 R a w hc he => by
  have e1 : a.eval q = _ := hq R a he
  have hok := hc.owned _ (G6 hi)
  have hu := hok.2.1
  refine ⟨hu, ?_⟩
  obtain ⟨_, _, xs0, hown0, _⟩ := hok
  rcases hown0.2 with ⟨h1, h2⟩ | ⟨g, cap, cur0, h1, _⟩
  · subst h1
    have h3 : es = [] := List.eq_nil_of_length_eq_zero h2
    subst h3
    exact ⟨none, 0, [], e1, fun h => absurd rfl h⟩
  · subst h1
    by_cases hne : es = []
    · subst hne; exact ⟨_, cap, [], e1, fun h => absurd rfl h⟩
    · have hsrc := src_own0 (own := own) (E := E) (q := q) i hi hq
      obtain ⟨_, h7⟩ := hsrc G w0 R0 R a w hc he
      obtain ⟨ad, c, vs, k1, k2, k3⟩ := h7 hne
      exact ⟨_, c, vs, k1, fun _ => ⟨ad, rfl, k2, k3⟩⟩
theorem An2 {o : Oper} {ops : Array Oper} {E : EnvF} {α : Type} {ok : α → Prop} {W' : α → List Own} {V : α → AV} {sel rest : α → List Own} {Y : α → AV} (is : List Nat) (hp : ∀ a, pick (W' a) is = (sel a, rest a)) (hl : ∀ a, LendTo (sel a) (V a) (Y a)) (hG : ∀ a b, G b → b ∈ (rest a).filterMap Own.blk)
    (h : OpE P G n own ops o E ok W' V) : OpE P G n own ops o E ok rest Y := fun w0 R0 R a w h1 h2 h3 =>
  Oper.wp_mono2 (fun a' w' ⟨x, v, R', e0, e1, e2, e3, e4⟩ =>
    have hk := a8 e2 (hp x)
    ⟨x, v, lend (sel x) w' R', e0, e1, AC9 hk (hG x), e3.trans (Z5 (T1 hk)), hl x G w0 R0 R' w' v (T1 hk) e4⟩) (fun _ _ _ h => h) (h w0 R0 R a w h1 h2 h3)
theorem Aj4 (i j sz : Nat) {b : Nat} {t : TypeId} {cs : List AV} (hi : own[i]? = some (.box b t cs)) (hj : cs[j]? = some AV.nils) (hG : ∀ b, G b → b ∈ own.filterMap Own.blk) : Le G n ⟨own, env⟩ ⟨own.set i (.box b t (cs.set j (AV.list sz []))), env⟩ :=
  n3 [] i (.box b t (cs.set j (AV.list sz []))) rfl hi ⟨rfl, rfl, AH4 j hj⟩ hG
theorem AH5 {α : Type} {ok : α → Prop} {O : α → List Own} {V : α → AV} (i j sz : Nat) {b : Nat} {t : TypeId} {cs : List AV} (hi : own[i]? = some (.box b t cs)) (hj : cs[j]? = some AV.nils) (hG : ∀ b, G b → b ∈ own.filterMap Own.blk)
    (k : RetOkG P G n fn ⟨own.set i (.box b t (cs.set j (AV.list sz []))), env⟩ ok O V) : RetOkG P G n fn ⟨own, env⟩ ok O V := fun w0 R0 R a w hs => by
  have hle : Le G n ⟨own, env⟩ ⟨own.set i (.box b t (cs.set j (AV.list sz []))), env⟩ := n3 [] i (.box b t (cs.set j (AV.list sz []))) rfl hi ⟨rfl, rfl, AH4 j hj⟩ hG
  obtain ⟨R1, h1, h2⟩ := hle w0 R0 R a w hs
  obtain ⟨x, v, R2, g0, g1, g2, g3, g4⟩ := k w0 R0 R1 a w h2
  exact ⟨x, v, R2, g0, g1, g2, h1.trans g3, g4⟩
theorem AK5 {y : AV} (i j sz : Nat) {b : Nat} {t : TypeId} {cs : List AV} (hi : own[i]? = some (.box b t cs)) (hj : cs[j]? = some AV.nils)
    (k : RetOk P (fun _ => False) n fn ⟨own.set i (.box b t (cs.set j (AV.list sz []))), env⟩ y) : RetOk P (fun _ => False) n fn ⟨own, env⟩ y := fun w0 R0 R a w hs => by
  have hle : Le (fun _ => False) n ⟨own, env⟩ ⟨own.set i (.box b t (cs.set j (AV.list sz []))), env⟩ := n3 [] i (.box b t (cs.set j (AV.list sz []))) rfl hi ⟨rfl, rfl, AH4 j hj⟩ Am6
  obtain ⟨R1, h1, h2⟩ := hle w0 R0 R a w hs
  obtain ⟨v, R2, h3, h4, h5, h6⟩ := k w0 R0 R1 a w h2
  exact ⟨v, R2, h3, h4, h1.trans h5, h6⟩
end
end Go.AV

set_option linter.unusedVariables false
set_option linter.unusedSimpArgs false
set_option maxRecDepth 100000
set_option maxHeartbeats 1000000
namespace Go.M
open Go.AV
theorem AV7 {h : THeld} : ∀ {l : List THeld} {p : Nat}, p ≤ l.length → (∀ i x, i < p → l[i]? = some x → x.Txn ≤ h.Txn) → (∀ x, l[p]? = some x → h.Txn < x.Txn) → insH h l = l.take p ++ h :: l.drop p
  | [], p, hp, _, _ => by simp at hp; subst hp; rfl
  | g :: l, 0, _, _, h2 => by unfold insH; rw [if_pos (h2 g rfl)]; rfl
  | g :: l, p + 1, hp, h1, h2 => by
    unfold insH
    rw [if_neg (by have := h1 0 g (by omega) rfl; omega), AV7 (by simpa using hp) (fun i x hi hx => h1 (i + 1) x (by omega) (by simpa using hx)) (fun x hx => h2 x (by simpa using hx))]
    rfl
theorem AV8 {h : TTold} : ∀ {l : List TTold} {p : Nat}, p ≤ l.length → (∀ i x, i < p → l[i]? = some x → x.Txn ≤ h.Txn) → (∀ x, l[p]? = some x → h.Txn < x.Txn) → insT h l = l.take p ++ h :: l.drop p
  | [], p, hp, _, _ => by simp at hp; subst hp; rfl
  | g :: l, 0, _, _, h2 => by unfold insT; rw [if_pos (h2 g rfl)]; rfl
  | g :: l, p + 1, hp, h1, h2 => by
    unfold insT
    rw [if_neg (by have := h1 0 g (by omega) rfl; omega), AV8 (by simpa using hp) (fun i x hi hx => h1 (i + 1) x (by omega) (by simpa using hx)) (fun x hx => h2 x (by simpa using hx))]
    rfl
def THeld.ocs (h : THeld) (x : Value × Value) : List AV := [AV.int h.Txn, AV.int h.Time, AV.int h.Lead, AV.is x.1, AV.is x.2]
def TState.ocs (s : TState) (x : Value × Value) : List AV := [AV.int s.Floor, AV.list 2 (s.Cells.map TCell.cs), AV.is x.1, AV.is x.2]
end Go.M
namespace Go.Proofs.YtnlhbdkcgaeimaaGreat
open Go Go.AV Go.M
def THeld.ow (h : THeld) (x : Value × Value) : List Own := [.arr x.1 9 1 (h.Reads.map fun k => [AV.str k]), .arr x.2 77 3 (h.Writes.map TWrite.cs)]
def TState.ow (s : TState) (x : Value × Value) : List Own := [.arr x.1 45 5 (s.Held.map THeld.cs), .arr x.2 39 3 (s.Told.map TTold.cs)]
theorem THeld.lc (h : THeld) (x : Value × Value) : LendC (THeld.ow h x) (THeld.ocs h x) h.cs :=
  H2 L8 (H2 L8 (H2 L8 (H2 (N2 (G6 (i := 0) rfl) I9) (H2 (N2 (G6 (i := 1) rfl) I9) T9))))
theorem TState.lc (s : TState) (x : Value × Value) : LendC (TState.ow s x) (TState.ocs s x) s.cs :=
  H2 L8 (H2 L8 (H2 (N2 (G6 (i := 0) rfl) I9) (H2 (N2 (G6 (i := 1) rfl) I9) T9)))
attribute [local irreducible] OpW OpA OpS AWP FSpec ESpec GSpec OpE RetOk RetOkG RvDen Le Ev GuardIs SrcIs Int.tmod Int.tdiv IntKind.wrap
end Go.Proofs.YtnlhbdkcgaeimaaGreat

set_option linter.unusedVariables false
set_option linter.unusedSimpArgs false
namespace Go.M
open Go.AV
def settled (s : TState) : Int := s.Held.foldl (fun o h => min o (h.Time - 1)) s.Floor
structure Keeps (s s' : TState) : Prop where
  floor : s.Floor ≤ s'.Floor
  told : ∀ t ∈ s.Told, t ∈ s'.Told
  tlen : s.Told.length ≤ s'.Told.length
  settled : settled s ≤ settled s'
  cells : ∀ a, a ≤ M.settled s → cellsAt s'.Cells a = cellsAt s.Cells a
theorem Keeps.refl (s : TState) : Keeps s s := ⟨Int.le_refl _, fun _ h => h, Nat.le_refl _, Int.le_refl _, fun _ _ => rfl⟩
theorem Keeps.trans {a b c : TState} (h : Keeps a b) (k : Keeps b c) : Keeps a c :=
  ⟨Int.le_trans h.floor k.floor, fun t ht => k.told t (h.told t ht), Nat.le_trans h.tlen k.tlen, Int.le_trans h.settled k.settled, fun x hx => (k.cells x (Int.le_trans hx h.settled)).trans (h.cells x hx)⟩
end Go.M

set_option linter.unusedVariables false
set_option linter.unusedSimpArgs false
set_option maxRecDepth 100000
set_option maxHeartbeats 1000000
namespace Go.M
open Go.AV
theorem AK6 {s : TState} {l : List TRec} {i : Nat} {r : TRec} (h : l[i]? = some r) : stFrom s (l.take (i + 1)) = stepS (stFrom s (l.take i)) r := by
  unfold stFrom
  rw [List.take_add_one, h, List.foldl_append]; rfl
theorem AA8 : ∀ {l : List TRec} {s : TState} {r : TRec}, didFrom s (l ++ [r]) = didFrom s l ++ [(applyS (stFrom s l) r).2]
  | [], s, r => rfl
  | x :: l, s, r => by
    show _ :: didFrom (stepS s x) (l ++ [r]) = _
    rw [AA8]; rfl
theorem AH6 {s : TState} {l : List TRec} {i : Nat} {r : TRec} (h : l[i]? = some r) : didFrom s (l.take (i + 1)) = didFrom s (l.take i) ++ [(applyS (stFrom s (l.take i)) r).2] := by
  rw [List.take_add_one, h]; exact AA8
def phi (s : TState) : Nat := sizeL TCell.size s.Cells + 3 * sizeL THeld.size s.Held + s.Told.length
theorem Ab2 (s : TState) : s.size ≤ phi s := by
  have h1 : s.size = sizeL TCell.size s.Cells + sizeL THeld.size s.Held + s.Told.length := rfl
  unfold phi; omega
theorem Aj5 {α : Type} {f : α → Nat} {a b : List α} (h : a.Perm b) : sizeL f a = sizeL f b := by
  unfold sizeL; rw [h.length_eq, (h.map f).sum_nat]
theorem Ab3 {t : Int} : ∀ {w : List TWrite} {l q : List TCell}, putAll l w t = some q → sizeL TCell.size q ≤ sizeL TCell.size l + 2 * sizeL TWrite.size w
  | [], l, q, h => by simp [putAll] at h; subst h; omega
  | x :: w, l, q, h => by
    unfold putAll at h
    split at h
    · cases h
    · have h1 := Ab3 h
      have h2 := l9 l x t
      rw [M1]; omega
theorem Aj6 {l : List THeld} {n : Int} {h : THeld} (hf : findH l n = some h) : sizeL THeld.size (lessH l n) + (1 + h.size) ≤ sizeL THeld.size l := by
  induction l with
  | nil => simp [findH] at hf
  | cons g l ih =>
    unfold findH at hf ih
    rw [List.find?_cons] at hf
    unfold lessH at ih ⊢
    by_cases e : g.Txn = n
    · rw [beq_iff_eq.2 e] at hf
      injection hf with hf; subst hf
      rw [List.filter_cons_of_neg (by simp [e]), M1]
      have : sizeL THeld.size (l.filter fun h => h.Txn != n) ≤ sizeL THeld.size l := by
        clear ih
        induction l with
        | nil => exact Nat.le_refl _
        | cons y l ih =>
          rw [List.filter_cons]
          split
          · rw [M1, M1]; omega
          · rw [M1]; omega
      omega
    · rw [beq_eq_false_iff_ne.2 e] at hf
      rw [List.filter_cons_of_pos (by simp [e]), M1, M1]
      have := ih hf; omega
theorem AK7 (l : List THeld) (n : Int) : sizeL THeld.size (lessH l n) ≤ sizeL THeld.size l := by
  induction l with
  | nil => exact Nat.le_refl _
  | cons y l ih =>
    unfold lessH at ih ⊢
    rw [List.filter_cons]
    split
    · rw [M1, M1]; omega
    · rw [M1]; omega
theorem An3 (s : TState) (r : TRec) : phi (applyS s r).1 ≤ phi s + 3 * (1 + r.size) + 1 := by
  have hh : (hOf r).size = r.size := rfl
  have hins : sizeL THeld.size (insH (hOf r) s.Held) = 1 + r.size + sizeL THeld.size s.Held := by rw [Aj5 (AG5 _ _), M1, hh]
  have htl : ∀ t : TTold, (insT t s.Told).length = s.Told.length + 1 := fun t => by rw [(AG6 _ _).length_eq]; rfl
  have h2 := AK7 s.Held r.Txn
  unfold applyS
  split
  · unfold phi; dsimp only; omega
  · split
    · dsimp only; omega
    · split
      · unfold phi; dsimp only; rw [hins]; omega
      · split
        · cases hf : findH s.Held r.Txn with
          | none => dsimp only; omega
          | some h =>
            dsimp only
            split
            · dsimp only; omega
            · split
              · rename_i hp
                have h3 := Ab3 (Ag4 hp).1
                have h4 := Aj6 hf
                have h5 : h.size = sizeL (fun x => x.length) h.Reads + sizeL TWrite.size h.Writes := rfl
                unfold doneS phi; dsimp only; rw [htl]; omega
              · dsimp only; omega
        · unfold doneS phi; dsimp only; rw [htl]; omega
theorem phi_step (s : TState) (r : TRec) : phi (stepS s r) ≤ phi s + 3 * (1 + r.size) + 1 := by
  unfold stepS
  split
  · exact An3 s r
  · omega
theorem AN1 {m : Nat} : ∀ {l : List TRec} {s : TState}, (∀ r ∈ l, r.size ≤ m) → phi (stFrom s l) ≤ phi s + l.length * (3 * (1 + m) + 1)
  | [], s, _ => by simp [stFrom]
  | r :: l, s, h => by
    have h1 := phi_step s r
    have h2 := AN1 (l := l) (s := stepS s r) fun x hx => h x (List.mem_cons_of_mem _ hx)
    have h3 := h r List.mem_cons_self
    have h4 : stFrom s (r :: l) = stFrom (stepS s r) l := rfl
    rw [h4, B7, Nat.add_mul, Nat.one_mul]
    omega
def blocksOf (l : List THeld) (k : Str) (t : Int) : List Int := (l.filter fun h => hasK h.Writes k && decide (h.Time ≤ t)).map THeld.Txn
def blocksR (s : TState) (k : Str) (t : Int) : List Int × Bool := if (goodState s && goodKey k && isTrue t) = true then (blocksOf s.Held k t, true) else ([], false)
def zTold : TTold := ⟨0, false, 0⟩
def zHeld : THeld := ⟨0, 0, 0, [], []⟩
theorem Aj7 {l : List TTold} {n : Int} : findT l n = none ↔ hasT l n = false := by
  unfold findT hasT; rw [List.find?_eq_none, List.any_eq_false]
theorem r4 {l : List THeld} {i : Nat} {h : THeld} {k : Str} {t : Int} (hx : l[i]? = some h) (hc : (hasK h.Writes k && decide (h.Time ≤ t)) = true) : blocksOf (l.take (i + 1)) k t = blocksOf (l.take i) k t ++ [h.Txn] := by
  unfold blocksOf; rw [List.take_add_one, hx, List.filter_append, List.map_append]
  show _ ++ List.map _ (List.filter _ [h]) = _
  rw [List.filter_cons_of_pos (p := fun h : THeld => hasK h.Writes k && decide (h.Time ≤ t)) hc]; rfl
theorem w5 {l : List THeld} {i : Nat} {h : THeld} {k : Str} {t : Int} (hx : l[i]? = some h) (hc : (hasK h.Writes k && decide (h.Time ≤ t)) = false) : blocksOf (l.take (i + 1)) k t = blocksOf (l.take i) k t := by
  unfold blocksOf; rw [List.take_add_one, hx, List.filter_append, List.map_append]
  show _ ++ List.map _ (List.filter _ [h]) = _
  rw [List.filter_cons_of_neg (p := fun h : THeld => hasK h.Writes k && decide (h.Time ≤ t)) (by rw [hc]; decide)]; simp
theorem AP8 (l : List THeld) (k : Str) (t : Int) : (blocksOf l k t).length ≤ l.length := by unfold blocksOf; rw [A6]; exact List.length_filter_le _ _
theorem AP9 {s : TState} (g : GS s) {h : THeld} (hm : h ∈ s.Held) : 1 ≤ h.Time ∧ h.Time ≤ 100000 ∧ adj wLess h.Writes = true := by
  obtain ⟨g1, g2, g3⟩ := g.good h hm
  have h1 := g1
  unfold goodRec hRec at h1
  rw [if_pos rfl] at h1
  unfold good1 isTime within at h1
  simp only [Bool.and_eq_true, decide_eq_true_eq] at h1
  exact ⟨by omega, by omega, AM9 g1⟩
end Go.M
namespace Go.Proofs.YtnlhbdkcgaeimaaGreat
open Go Go.AV Go.M
attribute [local irreducible] OpW OpA OpS AWP FSpec ESpec GSpec OpE RetOk RetOkG RvDen Le Ev GuardIs SrcIs Int.tmod Int.tdiv IntKind.wrap
end Go.Proofs.YtnlhbdkcgaeimaaGreat

set_option linter.unusedVariables false
set_option linter.unusedSimpArgs false
set_option maxRecDepth 100000
set_option maxHeartbeats 1000000
namespace Go.M
open Go.AV
theorem Ag6 {α : Type} {p : α → Bool} (l : List α) : (l.any fun x => !p x) = !l.all p := by rw [List.not_all_eq_any_not]
end Go.M
namespace Go.Proofs.YtnlhbdkcgaeimaaGreat
open Go Go.AV Go.M
attribute [local irreducible] OpW OpA OpS AWP FSpec ESpec GSpec OpE RetOk RetOkG RvDen Le Ev GuardIs SrcIs Int.tmod Int.tdiv IntKind.wrap
theorem Aj8 (s : TState) (k : Str) (t : Int) (hg : goodState s = true) (hs : s.size ≤ 1048576) : GSpec Tryz.prog 118 [AV.agg s.cs, AV.str k, AV.int t] [] (fun _ : Value => True) (fun x => [.arr x 3 1 ((blocksOf s.Held k t).map fun n => [AV.int n])]) (fun x => AV.is x) := by
 have g := i6.1 hg
 obtain ⟨hs1, hs2, hs3, hs4, hs5⟩ := T6 hs
 refine I2 Tryz.func118 rfl Tryz.ntmps118 rfl ?_
 refine A3 (A2 ?_)
 refine J6 rfl rfl rfl rfl (A0 rfl) ?_
 intro b3
 refine A1 rfl rfl rfl (B8 rfl Q7) ?_
 refine A5 (A3 (A2 ?_))
 refine U4 rfl rfl rfl rfl I0 B9 ?_
 intro v12
 refine B2 rfl rfl rfl rfl rfl ?_
 refine A5 (A3 (A3 (A2 ?_)))
 refine A1 rfl rfl rfl (B6 2 rfl D4 rfl I1 (A0 rfl) rfl) ?_
 refine A1 rfl rfl rfl (B4 1 rfl (A0 rfl) rfl M0 rfl) ?_
 refine A1 rfl rfl rfl (H3 rfl E5 (A0 rfl)) ?_
 refine A1 rfl rfl rfl (C4 rfl B5) ?_
 refine A5 (D7 ?_)
 refine U3 [(1, _), (2, _), (6, _), (14, _), (15, _)] _ (fun (i : Nat) (v : Value) (ns : List Int) => i ≤ s.Held.length ∧ ns = blocksOf (s.Held.take i) k t) (fun (i : Nat) (v : Value) (ns : List Int) => [.arr v 3 1 (ns.map fun n => [AV.int n])]) (fun (i : Nat) (v : Value) (ns : List Int) => [(7, AV.is v), (16, AV.int i)]) (fun (i : Nat) (v : Value) (ns : List Int) => s.Held.length - i) (0) (v12) ([]) ?_ (S7 (by rfl) ⟨rfl, rfl, rfl, rfl, rfl, rfl, rfl, trivial⟩) ?_
 ·exact ⟨Nat.zero_le _, rfl⟩
 intro i v ns hinv
 refine A3 (A2 ?_)
 refine A1 rfl rfl rfl (J8 rfl (A0 rfl) (A0 rfl)) ?_
 refine A5 (A3 ?_)
 refine C8 (A0 rfl) ?_ ?_
 ·intro h17
  have k17 := of_decide_eq_true h17; try simp only [A6] at k17
  have hlt : i < s.Held.length := by omega
  obtain ⟨h, hx⟩ := get_some hlt
  obtain ⟨q1, q2, q3⟩ := AP9 g (G6 hx)
  obtain ⟨g1, g2, g3, g4, g5⟩ := Y3 hs2 hx
  have hwh := AV5 q3 k
  have hnl : ns.length ≤ 1048576 := by (rw [hinv.2]; have h9 := AP8 (s.Held.take i) k t; rw [B0] at h9; omega)
  refine D1 (A3 (D7 (A3 (A2 ?_))))
  refine A1 rfl rfl rfl (J4 rfl E5 E1 (A0 rfl) (A0 rfl) hx (by first | omega | (simp only [A6, B0, B7, C1, B3, szR] at *; omega))) ?_
  refine A1 rfl rfl rfl (M7 rfl (A0 rfl) J3 E1) ?_
  refine F3 rfl rfl rfl rfl Tryz.zeroValue45 rfl ?_
  intro b9
  refine D5 0 rfl rfl rfl (A0 rfl) (A0 rfl) (E8 _) rfl E1 rfl ?_
  refine A5 (A3 (A2 ?_))
  refine A1 rfl rfl rfl (B6 4 rfl E9 rfl J7 (A0 rfl) rfl) ?_
  refine A1 rfl rfl rfl (B4 0 rfl (A0 rfl) rfl L3 rfl) ?_
  refine A4 rfl rfl rfl rfl rfl ?_
  refine A1 rfl rfl rfl (D6 rfl Tryz.call216 rfl (AA6 h.Writes k (by omega)) (A7 (A0 rfl) (A7 (A0 rfl) C0))) ?_
  refine A4 rfl rfl rfl rfl rfl ?_
  refine A1 rfl rfl rfl (D0 rfl (A0 rfl) rfl) ?_
  refine A1 rfl rfl rfl (D0 rfl (A0 rfl) rfl) ?_
  refine B2 rfl rfl rfl rfl rfl ?_
  refine B2 rfl rfl rfl rfl rfl ?_
  refine A5 (A3 (A2 ?_))
  refine A4 rfl rfl rfl rfl rfl ?_
  refine A4 rfl rfl rfl rfl rfl ?_
  refine A9 rfl rfl (B1 rfl rfl rfl) (fun hc => B6 1 rfl E9 rfl B9 (A0 rfl) rfl) ?_
  refine A9 rfl rfl (B1 rfl rfl rfl) (fun hc => B4 0 rfl (A8 rfl hc) rfl C7 rfl) ?_
  refine A9 rfl rfl (B1 rfl rfl rfl) (fun hc => C4 rfl (A0 rfl)) ?_
  refine A9 rfl rfl (B1 rfl rfl rfl) (fun hc => S0 rfl (A8 rfl hc) (A8 rfl hc)) ?_
  refine A1 rfl rfl rfl (G1 rfl (A0 rfl) (E3 rfl)) ?_
  refine A5 ?_
  refine C8 (A0 rfl) ?_ ?_
  ·intro h33
   refine A2 ?_
   refine A4 rfl rfl rfl rfl rfl ?_
   refine A1 rfl rfl rfl (B6 0 rfl E9 rfl B9 (A0 rfl) rfl) ?_
   refine A1 rfl rfl rfl (B4 0 rfl (A0 rfl) rfl C7 rfl) ?_
   refine A1 rfl rfl rfl (M3 rfl I0 B9 Tryz.zeroValue3 rfl rfl rfl rfl (E7 (A0 rfl) (K8 _ _) I6) rfl rfl) ?_
   refine M9 (by' := 8) 1 rfl rfl rfl rfl I0 Tryz.type3 rfl rfl rfl rfl rfl rfl (A0 rfl) (A0 rfl) rfl (by first | omega | (simp only [A6, B0, B7, C1, B3, szR] at *; omega)) ?_
   intro v38_1
   refine B2 rfl rfl rfl rfl rfl ?_
   refine A5 (A2 ?_)
   refine A1 rfl rfl rfl (G5 rfl (A0 rfl) B5 (by first | omega | (simp only [A6, B0, B7, C1, B3, szR] at *; omega))) ?_
   refine A4 rfl rfl rfl rfl rfl ?_
   refine A5 ?_
   refine T2 i v ns (i + 1) (v38_1) (ns ++ [h.Txn]) ?_ ?_ (Le.trans (K1 [0, 0] rfl) (N0 1 (by first | rfl | (rw [List.map_append]; rfl)) ⟨rfl, rfl, rfl, rfl, rfl, rfl, rfl, trivial⟩))
   ·first | exact ⟨by omega, by rw [r4 hx (by rw [← hwh]; exact h33), hinv.2]⟩ | exact ⟨by omega, by rw [w5 hx (by rw [← hwh]; exact h33), hinv.2]⟩
   ·omega
  ·intro h33
   refine D1 (A2 ?_)
   refine A1 rfl rfl rfl (G5 rfl (A0 rfl) B5 (by first | omega | (simp only [A6, B0, B7, C1, B3, szR] at *; omega))) ?_
   refine A4 rfl rfl rfl rfl rfl ?_
   refine A5 ?_
   refine T2 i v ns (i + 1) (v) (ns) ?_ ?_ (Le.trans (K1 [0, 0] rfl) (N0 1 (by first | rfl | (rw [List.map_append]; rfl)) ⟨rfl, rfl, rfl, rfl, rfl, rfl, rfl, trivial⟩))
   ·first | exact ⟨by omega, by rw [r4 hx (by rw [← hwh]; exact h33), hinv.2]⟩ | exact ⟨by omega, by rw [w5 hx (by rw [← hwh]; exact h33), hinv.2]⟩
   ·omega
 ·intro h17
  have k17 := of_decide_eq_false h17; try simp only [A6] at k17
  have hge : s.Held.length ≤ i := by omega
  have hns := hinv.2
  rw [List.take_of_length_le hge] at hns
  rw [← hns]
  refine H4 ?_
  refine A3 (A2 ?_)
  refine A4 rfl rfl rfl rfl rfl ?_
  refine B2 rfl rfl rfl rfl rfl ?_
  refine A5 ?_
  refine C6 ?_
  exact M8 [0] v (trivial) rfl (by rfl) (Q4 rfl (C3 rfl (by rfl)))
theorem Ae1 (s : TState) (k : Str) (t : Int) (hg : goodState s = true) (hs : s.size ≤ 1048576) : FSpec Tryz.prog 118 [AV.agg s.cs, AV.str k, AV.int t] (ints (blocksOf s.Held k t)) :=
  Y5 (Aj8 s k t hg hs) fun x _ => N2 (List.mem_singleton.2 rfl) I9
theorem AS0 (s : TState) (k : Str) (t : Int) (hs : s.size ≤ 1048576) (hk : k.length ≤ 1048576) : FSpec Tryz.prog 34 [AV.agg s.cs, AV.str k, AV.int t] (AV.tup [ints (blocksR s k t).1, AV.bool (blocksR s k t).2]) := by
 refine D9 Tryz.func34 rfl Tryz.ntmps34 rfl ?_
 refine A3 (A2 ?_)
 refine J6 rfl rfl rfl rfl (A0 rfl) ?_
 intro b3
 refine A1 rfl rfl rfl (B8 rfl (AI1 (sz := 1))) ?_
 refine A1 rfl rfl rfl (B8 rfl F0) ?_
 refine A5 (A3 (A3 (A2 ?_)))
 refine A1 rfl rfl rfl (E4 0 rfl (A0 rfl) rfl F1 D3 rfl) ?_
 refine A1 rfl rfl rfl (D6 rfl Tryz.call15 rfl (AA7 _ (by first | assumption | omega)) (A7 (A0 rfl) C0)) ?_
 refine A1 rfl rfl rfl (I4 rfl (A0 rfl)) ?_
 refine A4 rfl rfl rfl rfl rfl ?_
 refine A9 rfl rfl (C9 rfl rfl rfl) (fun hc => C4 rfl (A0 rfl)) ?_
 refine A9 rfl rfl (C9 rfl rfl rfl) (fun hc => D6 rfl Tryz.call117 rfl (AG8 _ (by omega)) (A7 (A8 rfl hc) C0)) ?_
 refine A9 rfl rfl (C9 rfl rfl rfl) (fun hc => I4 rfl (A8 rfl hc)) ?_
 refine A1 rfl rfl rfl (N4 rfl (A0 rfl) (E3 rfl)) ?_
 refine A4 rfl rfl rfl rfl rfl ?_
 refine A9 rfl rfl (C9 rfl rfl rfl) (fun hc => C4 rfl (A0 rfl)) ?_
 refine A9 rfl rfl (C9 rfl rfl rfl) (fun hc => D6 rfl Tryz.call90 rfl (Y2 _) (A7 (A8 rfl hc) C0)) ?_
 refine A9 rfl rfl (C9 rfl rfl rfl) (fun hc => I4 rfl (A8 rfl hc)) ?_
 refine A1 rfl rfl rfl (N4 rfl (A0 rfl) (E3 rfl)) ?_
 refine A5 ?_
 refine C8 (A0 rfl) ?_ ?_
 ·intro h20
  have he : blocksR s k t = ([], false) := if_neg (by intro h; simp only [Bool.and_eq_true] at h; rw [h.1.1, h.1.2, h.2] at h20; cases h20)
  rw [he]
  refine A3 (A2 ?_)
  refine A1 rfl rfl rfl (B8 rfl (AI1 (sz := 1))) ?_
  refine A1 rfl rfl rfl (B8 rfl F0) ?_
  refine A5 ?_
  refine C6 ?_
  exact R5 rfl (by decide) (E6 (C3 rfl (by rfl)) (E6 (C3 rfl (by rfl)) I8))
 ·intro h20
  simp only [Bool.or_eq_false_iff, Bool.not_eq_false'] at h20
  have he : blocksR s k t = (blocksOf s.Held k t, true) := if_pos (by rw [h20.1.1, h20.1.2, h20.2]; rfl)
  rw [he]
  have hg := h20.1.1
  refine D1 (A3 (A2 ?_))
  refine A1 rfl rfl rfl (E4 0 rfl (A0 rfl) rfl F1 D3 rfl) ?_
  refine A4 rfl rfl rfl rfl rfl ?_
  refine A4 rfl rfl rfl rfl rfl ?_
  refine A1 rfl rfl rfl (D6 rfl Tryz.call118 rfl (Ae1 _ _ _ (by assumption) (by first | assumption | omega)) (A7 (A0 rfl) (A7 (A0 rfl) (A7 (A0 rfl) C0)))) ?_
  refine B2 rfl rfl rfl rfl rfl ?_
  refine A1 rfl rfl rfl (B8 rfl F0) ?_
  refine A5 ?_
  refine C6 ?_
  exact R5 rfl (by decide) (E6 (C3 rfl (by rfl)) (E6 (C3 rfl (by rfl)) I8))
end Go.Proofs.YtnlhbdkcgaeimaaGreat

set_option linter.unusedVariables false
set_option linter.unusedSimpArgs false
set_option maxRecDepth 100000
set_option maxHeartbeats 1000000
namespace Go.Proofs.YtnlhbdkcgaeimaaGreat
open Go Go.AV Go.M
attribute [local irreducible] OpW OpA OpS AWP FSpec ESpec GSpec OpE RetOk RetOkG RvDen Le Ev GuardIs SrcIs Int.tmod Int.tdiv IntKind.wrap
theorem r5 (l : List Str) (hl : l.length ≤ 4194304) : GSpec Tryz.prog 169 [strs l] [] (fun _ : Value => True) (fun v => [.arr v 9 1 (l.map fun s => [AV.str s])]) (fun v => AV.is v) := by
 refine I2 Tryz.func169 rfl Tryz.ntmps169 rfl ?_
 refine A3 (A2 ?_)
 refine A1 rfl rfl rfl (B8 rfl Q7) ?_
 refine A5 (A3 (A2 ?_))
 refine U4 rfl rfl rfl rfl E2 F5 ?_
 intro v3
 refine A4 rfl rfl rfl rfl rfl ?_
 refine M9 (by' := 16) 0 rfl rfl rfl rfl E2 Tryz.type9 rfl rfl rfl rfl rfl rfl (A0 rfl) (A0 rfl) rfl (by simp only [C1, A6]; omega) ?_
 intro v5_1
 refine B2 rfl rfl rfl rfl rfl ?_
 refine A5 ?_
 refine C6 ?_
 exact M8 [0] v5_1 (trivial) rfl (by rfl) (Q4 rfl (C3 rfl (by rfl)))
theorem AD2 (v : Value) (l : List Str) (s : Str) (hs : SrtS l) (hl : l.length ≤ 1000000) : GSpec Tryz.prog 122 [AV.is v, AV.str s] [.arr v 9 1 (l.map fun s => [AV.str s])] (fun _ : Value => True) (fun v' => [.arr v' 9 1 ((putS l s).map fun s => [AV.str s])]) (fun v' => AV.is v') := by
 refine I2 Tryz.func122 rfl Tryz.ntmps122 rfl ?_
 refine A3 (A2 ?_)
 refine A1 rfl rfl rfl (B8 rfl Q7) ?_
 refine A5 (A3 (A2 ?_))
 refine A4 rfl rfl rfl rfl rfl ?_
 refine A1 rfl rfl rfl (U5 0 rfl E2 (A0 rfl) rfl) ?_
 refine B2 rfl rfl rfl rfl rfl ?_
 refine A5 (A3 (D7 ?_))
 refine J0 [(0, _), (1, _), (4, _)] _ (fun (k : Nat) => k ≤ l.length ∧ ∀ i y, k ≤ i → l[i]? = some y → Op.bytesLess s y = true) (fun (k : Nat) => []) (fun (k : Nat) => [(5, AV.int k)]) (fun (k : Nat) => k) (l.length) ?_ (J1 ⟨congrArg (fun z => some (AV.int z)) (by rw [A6]), rfl, rfl, rfl, trivial⟩) ?_
 ·exact ⟨Nat.le_refl _, fun i y h1 h2 => by (have := (List.getElem?_eq_some_iff.1 h2).1; omega)⟩
 intro k hinv
 obtain ⟨y, hy0⟩ : ∃ y, 0 < k → l[k - 1]? = some y := by (by_cases h9 : 0 < k; (have h8 := hinv.1; exact ⟨_, fun _ => List.getElem?_eq_getElem (show k - 1 < l.length by omega)⟩); exact ⟨[], fun h8 => absurd h8 h9⟩)
 refine A3 (A3 (A2 ?_))
 refine A4 rfl rfl rfl rfl rfl ?_
 refine A1 rfl rfl rfl (O5 rfl (A0 rfl) B5) ?_
 refine A4 rfl rfl rfl rfl rfl ?_
 refine A9 rfl rfl (B1 rfl rfl rfl) (fun hc => C4 rfl (A0 rfl)) ?_
 refine A9 rfl rfl (B1 rfl rfl rfl) (fun hc => C4 rfl (A0 rfl)) ?_
 refine A9 rfl rfl (B1 rfl rfl rfl) (fun hc => N1 rfl (A8 rfl hc) B5 (by first | omega | ((try simp only [A6, B0, B7, C1, B3, szR] at *); omega) | (have hc2 := hc; simp only [Bool.and_eq_true, Bool.or_eq_true, Bool.or_eq_false_iff, Bool.and_eq_false_iff, Bool.not_eq_true', Bool.not_eq_false', decide_eq_true_eq, decide_eq_false_iff_not, beq_iff_eq, bne_iff_ne, A6, B0] at hc2; omega))) ?_
 refine A9 rfl rfl (B1 rfl rfl rfl) (fun hc => V8 0 rfl E2 F5 (A8 rfl hc) rfl (A8 rfl hc) (by have := of_decide_eq_true hc; omega) (by have := of_decide_eq_true hc; have := hinv.1; simp only [A6]; omega)) ?_
 refine A9 rfl rfl (B1 rfl rfl rfl) (fun hc => i9 0 rfl (A8 rfl hc) rfl H0 (t1 (hy0 (by have := of_decide_eq_true hc; omega)) (by have := of_decide_eq_true hc; omega))) ?_
 refine A9 rfl rfl (B1 rfl rfl rfl) (fun hc => C4 rfl (A0 rfl)) ?_
 refine A9 rfl rfl (B1 rfl rfl rfl) (fun hc => AY8 rfl (A8 rfl hc) (A8 rfl hc)) ?_
 refine A1 rfl rfl rfl (G1 rfl (A0 rfl) (E3 rfl)) ?_
 refine A5 ?_
 refine C8 (A0 rfl) ?_ ?_
 ·intro h19
  have hkt : 0 < k ∧ Op.bytesLess s y = true := by (rw [Ag1] at h19; simpa using h19)
  refine D1 (D7 (A2 ?_))
  refine A4 rfl rfl rfl rfl rfl ?_
  refine A1 rfl rfl rfl (N1 rfl (A0 rfl) B5 (by first | omega | (simp only [A6, B0, B7, C1, B3, szR] at *; omega))) ?_
  refine B2 rfl rfl rfl rfl rfl ?_
  refine A5 ?_
  refine g8 ?_
  refine L2 k (k - 1) ?_ ?_ (J1 ⟨congrArg (fun z => some (AV.int z)) (by omega), rfl, rfl, rfl, trivial⟩)
  ·exact ⟨by omega, fun i z hi hz => if e : k ≤ i then hinv.2 i z e hz else (by have e2 : i = k - 1 := (by omega); subst e2; rw [hy0 hkt.1] at hz; injection hz with hz; subst hz; exact hkt.2)⟩
  ·omega
 ·intro h19
  have hng : 0 < k → Op.bytesLess s y = false := fun h => by (rw [Ag1] at h19; simpa [h] using h19)
  refine H4 ?_
  refine A3 (A3 (A2 ?_))
  refine A4 rfl rfl rfl rfl rfl ?_
  refine A1 rfl rfl rfl (O5 rfl (A0 rfl) B5) ?_
  refine A4 rfl rfl rfl rfl rfl ?_
  refine A9 rfl rfl (B1 rfl rfl rfl) (fun hc => C4 rfl (A0 rfl)) ?_
  refine A9 rfl rfl (B1 rfl rfl rfl) (fun hc => C4 rfl (A0 rfl)) ?_
  refine A9 rfl rfl (B1 rfl rfl rfl) (fun hc => N1 rfl (A8 rfl hc) B5 (by first | omega | ((try simp only [A6, B0, B7, C1, B3, szR] at *); omega) | (have hc2 := hc; simp only [Bool.and_eq_true, Bool.or_eq_true, Bool.or_eq_false_iff, Bool.and_eq_false_iff, Bool.not_eq_true', Bool.not_eq_false', decide_eq_true_eq, decide_eq_false_iff_not, beq_iff_eq, bne_iff_ne, A6, B0] at hc2; omega))) ?_
  refine A9 rfl rfl (B1 rfl rfl rfl) (fun hc => V8 0 rfl E2 F5 (A8 rfl hc) rfl (A8 rfl hc) (by have := of_decide_eq_true hc; omega) (by have := of_decide_eq_true hc; have := hinv.1; simp only [A6]; omega)) ?_
  refine A9 rfl rfl (B1 rfl rfl rfl) (fun hc => i9 0 rfl (A8 rfl hc) rfl H0 (t1 (hy0 (by have := of_decide_eq_true hc; omega)) (by have := of_decide_eq_true hc; omega))) ?_
  refine A9 rfl rfl (B1 rfl rfl rfl) (fun hc => C4 rfl (A0 rfl)) ?_
  refine A9 rfl rfl (B1 rfl rfl rfl) (fun hc => o6 rfl (A8 rfl hc) (A8 rfl hc)) ?_
  refine A1 rfl rfl rfl (G1 rfl (A0 rfl) (E3 rfl)) ?_
  refine A5 ?_
  refine C8 (A0 rfl) ?_ ?_
  ·intro h32
   have hke : 0 < k ∧ y = s := by simpa using h32
   rw [AO8 hs (by rw [← hke.2]; exact hy0 hke.1)]
   refine A3 (A2 ?_)
   refine A4 rfl rfl rfl rfl rfl ?_
   refine B2 rfl rfl rfl rfl rfl ?_
   refine A5 ?_
   refine C6 ?_
   exact M8 [0] v (trivial) rfl (by first | rfl | exact congrArg (fun z => [Own.arr _ 9 1 z]) (by show List.map (fun s => [AV.str s]) (l.take k ++ s :: l.drop k) = (List.map (fun s => [AV.str s]) (l.take k) ++ [[AV.str s]]) ++ List.map (fun s => [AV.str s]) (l.drop k); simp)) (Q4 rfl (C3 rfl (by rfl)))
  ·intro h32
   have hne : 0 < k → y ≠ s := fun h e => by simp [h, e] at h32
   rw [AT8 hs hinv.1 hinv.2 (fun z hz hzz => by rw [hy0 hz] at hzz; injection hzz with hzz; subst hzz; exact ⟨hng hz, hne hz⟩)]
   refine D1 (A3 (A2 ?_))
   refine A4 rfl rfl rfl rfl rfl ?_
   refine A4 rfl rfl rfl rfl rfl ?_
   refine A1 rfl rfl rfl (w_alo 0 rfl E2 F5 (A0 rfl) rfl (A0 rfl) (by omega) (by simp only [A6]; omega)) ?_
   refine AT0 [] rfl rfl rfl rfl Tryz.call169 rfl (r5 (l.drop k) (by rw [List.length_drop]; omega)) rfl (S1 (AF1 (A0 rfl) (lt_tailm (G6 (i := 0) rfl) (by omega) (by omega))) Z6) (by first | exact P9 | (intro _; exact P9) | (intro _; first | exact H7 _ | exact F4 _ _ | exact F7 _ | exact F9 _ | exact G3) | (intro _; refine j3 ?_; (repeat (first | exact F6 | (refine D2 (by first | (first | exact H7 _ | exact F4 _ _ | exact F7 _ | exact F9 _ | exact G3) | (refine W3 ?_; (repeat (first | exact F6 | (refine D2 (by first | exact H7 _ | exact F4 _ _ | exact F7 _ | exact F9 _ | exact G3) ?_))))) ?_))); done) | (intro _; refine W3 ?_; (repeat (first | exact F6 | (refine D2 (by first | exact H7 _ | exact F4 _ _ | exact F7 _ | exact F9 _ | exact G3) ?_))); done) | ((repeat (first | exact P9 | (refine O6 (U9 ?_) ?_; (repeat (first | exact F6 | (refine D2 (by first | exact H7 _ | exact F4 _ _ | exact F7 _ | exact F9 _ | exact G3) ?_)))) | (refine O6 (V0 ?_) ?_; (repeat (first | exact V1 | (refine V3 (fun _ => ?_); (first | exact TWrite.flat _ | exact TFeedItem.flat _ | exact TIdx.flat _ | exact TVer.flat _ | (repeat (first | exact F6 | (refine D2 (by first | exact H7 _ | exact F4 _ _ | exact F7 _ | exact F9 _ | exact G3) ?_))))) | (refine V4 ?_; (first | exact TWrite.flat _ | exact TFeedItem.flat _ | exact TIdx.flat _ | exact TVer.flat _ | (repeat (first | exact F6 | (refine D2 (by first | exact H7 _ | exact F4 _ _ | exact F7 _ | exact F9 _ | exact G3) ?_))))) | (refine U0 ?_ ?_; (first | exact TWrite.flat _ | exact TFeedItem.flat _ | exact TIdx.flat _ | exact TVer.flat _ | (repeat (first | exact F6 | (refine D2 (by first | exact H7 _ | exact F4 _ _ | exact F7 _ | exact F9 _ | exact G3) ?_))))) | refine V2 ?_ ?_))))); done) | (intro _; (repeat (first | exact P9 | (refine O6 (U9 ?_) ?_; (repeat (first | exact F6 | (refine D2 (by first | exact H7 _ | exact F4 _ _ | exact F7 _ | exact F9 _ | exact G3) ?_)))) | (refine O6 (V0 ?_) ?_; (repeat (first | exact V1 | (refine V3 (fun _ => ?_); (first | exact TWrite.flat _ | exact TFeedItem.flat _ | exact TIdx.flat _ | exact TVer.flat _ | (repeat (first | exact F6 | (refine D2 (by first | exact H7 _ | exact F4 _ _ | exact F7 _ | exact F9 _ | exact G3) ?_))))) | (refine V4 ?_; (first | exact TWrite.flat _ | exact TFeedItem.flat _ | exact TIdx.flat _ | exact TVer.flat _ | (repeat (first | exact F6 | (refine D2 (by first | exact H7 _ | exact F4 _ _ | exact F7 _ | exact F9 _ | exact G3) ?_))))) | (refine U0 ?_ ?_; (first | exact TWrite.flat _ | exact TFeedItem.flat _ | exact TIdx.flat _ | exact TVer.flat _ | (repeat (first | exact F6 | (refine D2 (by first | exact H7 _ | exact F4 _ _ | exact F7 _ | exact F9 _ | exact G3) ?_))))) | refine V2 ?_ ?_))))); done)) (by first | exact P9 | (intro _; exact P9) | (intro _; first | exact H7 _ | exact F4 _ _ | exact F7 _ | exact F9 _ | exact G3) | (intro _; refine j3 ?_; (repeat (first | exact F6 | (refine D2 (by first | (first | exact H7 _ | exact F4 _ _ | exact F7 _ | exact F9 _ | exact G3) | (refine W3 ?_; (repeat (first | exact F6 | (refine D2 (by first | exact H7 _ | exact F4 _ _ | exact F7 _ | exact F9 _ | exact G3) ?_))))) ?_))); done) | (intro _; refine W3 ?_; (repeat (first | exact F6 | (refine D2 (by first | exact H7 _ | exact F4 _ _ | exact F7 _ | exact F9 _ | exact G3) ?_))); done) | ((repeat (first | exact P9 | (refine O6 (U9 ?_) ?_; (repeat (first | exact F6 | (refine D2 (by first | exact H7 _ | exact F4 _ _ | exact F7 _ | exact F9 _ | exact G3) ?_)))) | (refine O6 (V0 ?_) ?_; (repeat (first | exact V1 | (refine V3 (fun _ => ?_); (first | exact TWrite.flat _ | exact TFeedItem.flat _ | exact TIdx.flat _ | exact TVer.flat _ | (repeat (first | exact F6 | (refine D2 (by first | exact H7 _ | exact F4 _ _ | exact F7 _ | exact F9 _ | exact G3) ?_))))) | (refine V4 ?_; (first | exact TWrite.flat _ | exact TFeedItem.flat _ | exact TIdx.flat _ | exact TVer.flat _ | (repeat (first | exact F6 | (refine D2 (by first | exact H7 _ | exact F4 _ _ | exact F7 _ | exact F9 _ | exact G3) ?_))))) | (refine U0 ?_ ?_; (first | exact TWrite.flat _ | exact TFeedItem.flat _ | exact TIdx.flat _ | exact TVer.flat _ | (repeat (first | exact F6 | (refine D2 (by first | exact H7 _ | exact F4 _ _ | exact F7 _ | exact F9 _ | exact G3) ?_))))) | refine V2 ?_ ?_))))); done) | (intro _; (repeat (first | exact P9 | (refine O6 (U9 ?_) ?_; (repeat (first | exact F6 | (refine D2 (by first | exact H7 _ | exact F4 _ _ | exact F7 _ | exact F9 _ | exact G3) ?_)))) | (refine O6 (V0 ?_) ?_; (repeat (first | exact V1 | (refine V3 (fun _ => ?_); (first | exact TWrite.flat _ | exact TFeedItem.flat _ | exact TIdx.flat _ | exact TVer.flat _ | (repeat (first | exact F6 | (refine D2 (by first | exact H7 _ | exact F4 _ _ | exact F7 _ | exact F9 _ | exact G3) ?_))))) | (refine V4 ?_; (first | exact TWrite.flat _ | exact TFeedItem.flat _ | exact TIdx.flat _ | exact TVer.flat _ | (repeat (first | exact F6 | (refine D2 (by first | exact H7 _ | exact F4 _ _ | exact F7 _ | exact F9 _ | exact G3) ?_))))) | (refine U0 ?_ ?_; (first | exact TWrite.flat _ | exact TFeedItem.flat _ | exact TIdx.flat _ | exact TVer.flat _ | (repeat (first | exact F6 | (refine D2 (by first | exact H7 _ | exact F4 _ _ | exact F7 _ | exact F9 _ | exact G3) ?_))))) | refine V2 ?_ ?_))))); done)) (by first | exact P9 | (intro _; exact P9) | (intro _; first | exact H7 _ | exact F4 _ _ | exact F7 _ | exact F9 _ | exact G3) | (intro _; refine j3 ?_; (repeat (first | exact F6 | (refine D2 (by first | (first | exact H7 _ | exact F4 _ _ | exact F7 _ | exact F9 _ | exact G3) | (refine W3 ?_; (repeat (first | exact F6 | (refine D2 (by first | exact H7 _ | exact F4 _ _ | exact F7 _ | exact F9 _ | exact G3) ?_))))) ?_))); done) | (intro _; refine W3 ?_; (repeat (first | exact F6 | (refine D2 (by first | exact H7 _ | exact F4 _ _ | exact F7 _ | exact F9 _ | exact G3) ?_))); done) | ((repeat (first | exact P9 | (refine O6 (U9 ?_) ?_; (repeat (first | exact F6 | (refine D2 (by first | exact H7 _ | exact F4 _ _ | exact F7 _ | exact F9 _ | exact G3) ?_)))) | (refine O6 (V0 ?_) ?_; (repeat (first | exact V1 | (refine V3 (fun _ => ?_); (first | exact TWrite.flat _ | exact TFeedItem.flat _ | exact TIdx.flat _ | exact TVer.flat _ | (repeat (first | exact F6 | (refine D2 (by first | exact H7 _ | exact F4 _ _ | exact F7 _ | exact F9 _ | exact G3) ?_))))) | (refine V4 ?_; (first | exact TWrite.flat _ | exact TFeedItem.flat _ | exact TIdx.flat _ | exact TVer.flat _ | (repeat (first | exact F6 | (refine D2 (by first | exact H7 _ | exact F4 _ _ | exact F7 _ | exact F9 _ | exact G3) ?_))))) | (refine U0 ?_ ?_; (first | exact TWrite.flat _ | exact TFeedItem.flat _ | exact TIdx.flat _ | exact TVer.flat _ | (repeat (first | exact F6 | (refine D2 (by first | exact H7 _ | exact F4 _ _ | exact F7 _ | exact F9 _ | exact G3) ?_))))) | refine V2 ?_ ?_))))); done) | (intro _; (repeat (first | exact P9 | (refine O6 (U9 ?_) ?_; (repeat (first | exact F6 | (refine D2 (by first | exact H7 _ | exact F4 _ _ | exact F7 _ | exact F9 _ | exact G3) ?_)))) | (refine O6 (V0 ?_) ?_; (repeat (first | exact V1 | (refine V3 (fun _ => ?_); (first | exact TWrite.flat _ | exact TFeedItem.flat _ | exact TIdx.flat _ | exact TVer.flat _ | (repeat (first | exact F6 | (refine D2 (by first | exact H7 _ | exact F4 _ _ | exact F7 _ | exact F9 _ | exact G3) ?_))))) | (refine V4 ?_; (first | exact TWrite.flat _ | exact TFeedItem.flat _ | exact TIdx.flat _ | exact TVer.flat _ | (repeat (first | exact F6 | (refine D2 (by first | exact H7 _ | exact F4 _ _ | exact F7 _ | exact F9 _ | exact G3) ?_))))) | (refine U0 ?_ ?_; (first | exact TWrite.flat _ | exact TFeedItem.flat _ | exact TIdx.flat _ | exact TVer.flat _ | (repeat (first | exact F6 | (refine D2 (by first | exact H7 _ | exact F4 _ _ | exact F7 _ | exact F9 _ | exact G3) ?_))))) | refine V2 ?_ ?_))))); done)) ?_
   intro x37 ok37
   refine B2 rfl rfl rfl rfl rfl ?_
   refine A5 (A3 ?_)
   refine AWP.le (X7 [0] 6 rfl rfl (N2 (G6 (i := 0) rfl) I9) (R8 0 rfl rfl S8)) ?_
   refine A2 ?_
   refine A4 rfl rfl rfl rfl rfl ?_
   refine A4 rfl rfl rfl rfl rfl ?_
   refine sq_ahi 0 rfl rfl rfl rfl E2 F5 (A0 rfl) rfl (A0 rfl) (by omega) (by simp only [A6]; omega) ?_
   intro v40_1
   rw [Int.toNat_natCast, ← List.map_take]
   refine AT0 [] rfl rfl rfl rfl Tryz.call169 rfl (r5 (l.take k) (by rw [B0]; omega)) rfl (S1 (Af6 0 (A0 rfl) rfl) Z6) (by first | exact P9 | (intro _; exact P9) | (intro _; first | exact H7 _ | exact F4 _ _ | exact F7 _ | exact F9 _ | exact G3) | (intro _; refine j3 ?_; (repeat (first | exact F6 | (refine D2 (by first | (first | exact H7 _ | exact F4 _ _ | exact F7 _ | exact F9 _ | exact G3) | (refine W3 ?_; (repeat (first | exact F6 | (refine D2 (by first | exact H7 _ | exact F4 _ _ | exact F7 _ | exact F9 _ | exact G3) ?_))))) ?_))); done) | (intro _; refine W3 ?_; (repeat (first | exact F6 | (refine D2 (by first | exact H7 _ | exact F4 _ _ | exact F7 _ | exact F9 _ | exact G3) ?_))); done) | ((repeat (first | exact P9 | (refine O6 (U9 ?_) ?_; (repeat (first | exact F6 | (refine D2 (by first | exact H7 _ | exact F4 _ _ | exact F7 _ | exact F9 _ | exact G3) ?_)))) | (refine O6 (V0 ?_) ?_; (repeat (first | exact V1 | (refine V3 (fun _ => ?_); (first | exact TWrite.flat _ | exact TFeedItem.flat _ | exact TIdx.flat _ | exact TVer.flat _ | (repeat (first | exact F6 | (refine D2 (by first | exact H7 _ | exact F4 _ _ | exact F7 _ | exact F9 _ | exact G3) ?_))))) | (refine V4 ?_; (first | exact TWrite.flat _ | exact TFeedItem.flat _ | exact TIdx.flat _ | exact TVer.flat _ | (repeat (first | exact F6 | (refine D2 (by first | exact H7 _ | exact F4 _ _ | exact F7 _ | exact F9 _ | exact G3) ?_))))) | (refine U0 ?_ ?_; (first | exact TWrite.flat _ | exact TFeedItem.flat _ | exact TIdx.flat _ | exact TVer.flat _ | (repeat (first | exact F6 | (refine D2 (by first | exact H7 _ | exact F4 _ _ | exact F7 _ | exact F9 _ | exact G3) ?_))))) | refine V2 ?_ ?_))))); done) | (intro _; (repeat (first | exact P9 | (refine O6 (U9 ?_) ?_; (repeat (first | exact F6 | (refine D2 (by first | exact H7 _ | exact F4 _ _ | exact F7 _ | exact F9 _ | exact G3) ?_)))) | (refine O6 (V0 ?_) ?_; (repeat (first | exact V1 | (refine V3 (fun _ => ?_); (first | exact TWrite.flat _ | exact TFeedItem.flat _ | exact TIdx.flat _ | exact TVer.flat _ | (repeat (first | exact F6 | (refine D2 (by first | exact H7 _ | exact F4 _ _ | exact F7 _ | exact F9 _ | exact G3) ?_))))) | (refine V4 ?_; (first | exact TWrite.flat _ | exact TFeedItem.flat _ | exact TIdx.flat _ | exact TVer.flat _ | (repeat (first | exact F6 | (refine D2 (by first | exact H7 _ | exact F4 _ _ | exact F7 _ | exact F9 _ | exact G3) ?_))))) | (refine U0 ?_ ?_; (first | exact TWrite.flat _ | exact TFeedItem.flat _ | exact TIdx.flat _ | exact TVer.flat _ | (repeat (first | exact F6 | (refine D2 (by first | exact H7 _ | exact F4 _ _ | exact F7 _ | exact F9 _ | exact G3) ?_))))) | refine V2 ?_ ?_))))); done)) (by first | exact P9 | (intro _; exact P9) | (intro _; first | exact H7 _ | exact F4 _ _ | exact F7 _ | exact F9 _ | exact G3) | (intro _; refine j3 ?_; (repeat (first | exact F6 | (refine D2 (by first | (first | exact H7 _ | exact F4 _ _ | exact F7 _ | exact F9 _ | exact G3) | (refine W3 ?_; (repeat (first | exact F6 | (refine D2 (by first | exact H7 _ | exact F4 _ _ | exact F7 _ | exact F9 _ | exact G3) ?_))))) ?_))); done) | (intro _; refine W3 ?_; (repeat (first | exact F6 | (refine D2 (by first | exact H7 _ | exact F4 _ _ | exact F7 _ | exact F9 _ | exact G3) ?_))); done) | ((repeat (first | exact P9 | (refine O6 (U9 ?_) ?_; (repeat (first | exact F6 | (refine D2 (by first | exact H7 _ | exact F4 _ _ | exact F7 _ | exact F9 _ | exact G3) ?_)))) | (refine O6 (V0 ?_) ?_; (repeat (first | exact V1 | (refine V3 (fun _ => ?_); (first | exact TWrite.flat _ | exact TFeedItem.flat _ | exact TIdx.flat _ | exact TVer.flat _ | (repeat (first | exact F6 | (refine D2 (by first | exact H7 _ | exact F4 _ _ | exact F7 _ | exact F9 _ | exact G3) ?_))))) | (refine V4 ?_; (first | exact TWrite.flat _ | exact TFeedItem.flat _ | exact TIdx.flat _ | exact TVer.flat _ | (repeat (first | exact F6 | (refine D2 (by first | exact H7 _ | exact F4 _ _ | exact F7 _ | exact F9 _ | exact G3) ?_))))) | (refine U0 ?_ ?_; (first | exact TWrite.flat _ | exact TFeedItem.flat _ | exact TIdx.flat _ | exact TVer.flat _ | (repeat (first | exact F6 | (refine D2 (by first | exact H7 _ | exact F4 _ _ | exact F7 _ | exact F9 _ | exact G3) ?_))))) | refine V2 ?_ ?_))))); done) | (intro _; (repeat (first | exact P9 | (refine O6 (U9 ?_) ?_; (repeat (first | exact F6 | (refine D2 (by first | exact H7 _ | exact F4 _ _ | exact F7 _ | exact F9 _ | exact G3) ?_)))) | (refine O6 (V0 ?_) ?_; (repeat (first | exact V1 | (refine V3 (fun _ => ?_); (first | exact TWrite.flat _ | exact TFeedItem.flat _ | exact TIdx.flat _ | exact TVer.flat _ | (repeat (first | exact F6 | (refine D2 (by first | exact H7 _ | exact F4 _ _ | exact F7 _ | exact F9 _ | exact G3) ?_))))) | (refine V4 ?_; (first | exact TWrite.flat _ | exact TFeedItem.flat _ | exact TIdx.flat _ | exact TVer.flat _ | (repeat (first | exact F6 | (refine D2 (by first | exact H7 _ | exact F4 _ _ | exact F7 _ | exact F9 _ | exact G3) ?_))))) | (refine U0 ?_ ?_; (first | exact TWrite.flat _ | exact TFeedItem.flat _ | exact TIdx.flat _ | exact TVer.flat _ | (repeat (first | exact F6 | (refine D2 (by first | exact H7 _ | exact F4 _ _ | exact F7 _ | exact F9 _ | exact G3) ?_))))) | refine V2 ?_ ?_))))); done)) (by first | exact P9 | (intro _; exact P9) | (intro _; first | exact H7 _ | exact F4 _ _ | exact F7 _ | exact F9 _ | exact G3) | (intro _; refine j3 ?_; (repeat (first | exact F6 | (refine D2 (by first | (first | exact H7 _ | exact F4 _ _ | exact F7 _ | exact F9 _ | exact G3) | (refine W3 ?_; (repeat (first | exact F6 | (refine D2 (by first | exact H7 _ | exact F4 _ _ | exact F7 _ | exact F9 _ | exact G3) ?_))))) ?_))); done) | (intro _; refine W3 ?_; (repeat (first | exact F6 | (refine D2 (by first | exact H7 _ | exact F4 _ _ | exact F7 _ | exact F9 _ | exact G3) ?_))); done) | ((repeat (first | exact P9 | (refine O6 (U9 ?_) ?_; (repeat (first | exact F6 | (refine D2 (by first | exact H7 _ | exact F4 _ _ | exact F7 _ | exact F9 _ | exact G3) ?_)))) | (refine O6 (V0 ?_) ?_; (repeat (first | exact V1 | (refine V3 (fun _ => ?_); (first | exact TWrite.flat _ | exact TFeedItem.flat _ | exact TIdx.flat _ | exact TVer.flat _ | (repeat (first | exact F6 | (refine D2 (by first | exact H7 _ | exact F4 _ _ | exact F7 _ | exact F9 _ | exact G3) ?_))))) | (refine V4 ?_; (first | exact TWrite.flat _ | exact TFeedItem.flat _ | exact TIdx.flat _ | exact TVer.flat _ | (repeat (first | exact F6 | (refine D2 (by first | exact H7 _ | exact F4 _ _ | exact F7 _ | exact F9 _ | exact G3) ?_))))) | (refine U0 ?_ ?_; (first | exact TWrite.flat _ | exact TFeedItem.flat _ | exact TIdx.flat _ | exact TVer.flat _ | (repeat (first | exact F6 | (refine D2 (by first | exact H7 _ | exact F4 _ _ | exact F7 _ | exact F9 _ | exact G3) ?_))))) | refine V2 ?_ ?_))))); done) | (intro _; (repeat (first | exact P9 | (refine O6 (U9 ?_) ?_; (repeat (first | exact F6 | (refine D2 (by first | exact H7 _ | exact F4 _ _ | exact F7 _ | exact F9 _ | exact G3) ?_)))) | (refine O6 (V0 ?_) ?_; (repeat (first | exact V1 | (refine V3 (fun _ => ?_); (first | exact TWrite.flat _ | exact TFeedItem.flat _ | exact TIdx.flat _ | exact TVer.flat _ | (repeat (first | exact F6 | (refine D2 (by first | exact H7 _ | exact F4 _ _ | exact F7 _ | exact F9 _ | exact G3) ?_))))) | (refine V4 ?_; (first | exact TWrite.flat _ | exact TFeedItem.flat _ | exact TIdx.flat _ | exact TVer.flat _ | (repeat (first | exact F6 | (refine D2 (by first | exact H7 _ | exact F4 _ _ | exact F7 _ | exact F9 _ | exact G3) ?_))))) | (refine U0 ?_ ?_; (first | exact TWrite.flat _ | exact TFeedItem.flat _ | exact TIdx.flat _ | exact TVer.flat _ | (repeat (first | exact F6 | (refine D2 (by first | exact H7 _ | exact F4 _ _ | exact F7 _ | exact F9 _ | exact G3) ?_))))) | refine V2 ?_ ?_))))); done)) ?_
   intro x41 ok41
   refine A4 rfl rfl rfl rfl rfl ?_
   refine A1 rfl rfl rfl (M3 rfl E2 F5 Tryz.zeroValue9 rfl rfl rfl rfl (E7 (A0 rfl) (P4 _) I6) rfl rfl) ?_
   refine M9 (by' := 16) 0 rfl rfl rfl rfl E2 Tryz.type9 rfl rfl rfl rfl rfl rfl (A0 rfl) (A0 rfl) rfl (by simp only [A6, B0, B3]; omega) ?_
   intro v44_2
   refine A4 rfl rfl rfl rfl rfl ?_
   refine M9 (by' := 16) 0 rfl rfl rfl rfl E2 Tryz.type9 rfl rfl rfl rfl rfl rfl (A0 rfl) (A0 rfl) rfl (by simp only [A6, B0, List.length_drop, J9, B3]; omega) ?_
   intro v46_3
   refine B2 rfl rfl rfl rfl rfl ?_
   refine A5 ?_
   refine C6 ?_
   exact M8 [0] v46_3 (trivial) rfl (by first | rfl | exact congrArg (fun z => [Own.arr _ 9 1 z]) (by show List.map (fun s => [AV.str s]) (l.take k ++ s :: l.drop k) = (List.map (fun s => [AV.str s]) (l.take k) ++ [[AV.str s]]) ++ List.map (fun s => [AV.str s]) (l.drop k); simp)) (Q4 rfl (C3 rfl (by rfl)))
end Go.Proofs.YtnlhbdkcgaeimaaGreat

set_option linter.unusedVariables false
set_option linter.unusedSimpArgs false
set_option maxRecDepth 100000
set_option maxHeartbeats 1000000
namespace Go.M
open Go.AV
theorem fullC_at {l : List TCell} {k : Str} {c : TCell} (hc : ¬ atC l k < 0 → findC l k = some c) : fullC l k = (decide ((0 : Int) ≤ atC l k) && decide ((16 : Int) ≤ (c.Vers.length : Int))) := by
  unfold fullC
  by_cases h : atC l k < 0
  · rw [Ag2 h, decide_eq_false (by omega)]; rfl
  · rw [hc h, decide_eq_true (by omega), Bool.true_and]
    dsimp only
    rw [decide_eq_decide]; omega
theorem at_some (l : List TCell) (k : Str) : ∃ c : TCell, ¬ atC l k < 0 → (∃ p : Nat, atC l k = (p : Int) ∧ l[p]? = some c) ∧ findC l k = some c := by
  by_cases h : atC l k < 0
  · exact ⟨⟨[], []⟩, fun k => absurd h k⟩
  · obtain ⟨p, c, h1, h2, h3⟩ := Ag3 h
    exact ⟨c, fun _ => ⟨⟨p, h1, h2⟩, h3⟩⟩
theorem r6 {s : TState} {i : Nat} {h y : THeld} (hx : s.Held[i]? = some h) (hy : s.Held[i - 1]? = some y) : heldAt s i = (!((!l4Good (hRec h) || decide (s.Floor < h.Time)) || (decide ((0 : Int) < (i : Int)) && decide (h.Txn ≤ y.Txn))) && ((s.Held.take i).all (fun g => apart g h.Reads h.Writes) && h.Writes.all fun w => decide (lastTime s.Cells w.Key < h.Time))) := by
  rw [p5 hx hy, Ai0]
  have h2 : ((s.Held.take i).all fun g => apart g h.Reads h.Writes) = !((s.Held.take i).any fun g => clash h g) := by
    rw [List.not_any_eq_all_not]; congr 1; funext g; rw [AJ7, Bool.not_not]
  have h3 : (h.Writes.all fun w => decide (lastTime s.Cells w.Key < h.Time)) = !(h.Writes.any fun w => decide (h.Time ≤ lastTime s.Cells w.Key)) := by
    rw [List.not_any_eq_all_not]; congr 1; funext w; rw [← decide_not, decide_eq_decide]; omega
  rw [h2, h3]
theorem AD3 {s : TState} {i : Nat} {t y : TTold} (hx : s.Told[i]? = some t) (hy : s.Told[i - 1]? = some y) : toldAt s i = (!((((!within t.Txn 1 60 || (decide ((0 : Int) < (i : Int)) && decide (t.Txn ≤ y.Txn))) || (t.Yes && !within t.Time 1 s.Floor)) || (!t.Yes && (t.Time != 0)))) && !hasH s.Held t.Txn) := by
  rw [w4 hx hy]
  congr 2
  show ((!within t.Txn 1 60 || _) || _) = _
  have e : (!((t.Yes && within t.Time 1 s.Floor) || (!t.Yes && (t.Time == 0)))) = ((t.Yes && !within t.Time 1 s.Floor) || (!t.Yes && (t.Time != 0))) := by
    show _ = ((t.Yes && !within t.Time 1 s.Floor) || (!t.Yes && !(t.Time == 0)))
    cases t.Yes <;> simp
  rw [e]
  cases within t.Txn 1 60 <;> cases (decide ((0 : Int) < (i : Int)) && decide (t.Txn ≤ y.Txn)) <;> cases (t.Yes && !within t.Time 1 s.Floor) <;> cases (!t.Yes && (t.Time != 0)) <;> rfl
def heldFO (l : List THeld) (n : Int) : THeld × Bool := match findH l n with | some h => (h, true) | none => (zHeld, false)
def toldFO (l : List TTold) (n : Int) : TTold × Bool := match findT l n with | some h => (h, true) | none => (zTold, false)
theorem AH7 (l : List THeld) (n : Int) : (heldFO l n).2 = hasH l n := by
  unfold heldFO
  cases h : findH l n with
  | none => exact (AP3.1 h).symm
  | some x => obtain ⟨h1, h2⟩ := AP2 h; exact (hasH_iff.2 ⟨x, h1, h2⟩).symm
theorem An4 (l : List TTold) (n : Int) : (toldFO l n).2 = hasT l n := by
  unfold toldFO
  cases h : findT l n with
  | none => exact (Aj7.1 h).symm
  | some x =>
    unfold findT at h
    exact (hasT_iff.2 ⟨x, List.mem_of_find?_eq_some h, by simpa using List.find?_some h⟩).symm
theorem r7 {α : Type} {p : α → Bool} : ∀ {l : List α} {i : Nat} {x : α}, l[i]? = some x → p x = true → (∀ j y, j < i → l[j]? = some y → p y = false) → l.find? p = some x
  | [], i, x, h, _, _ => by simp at h
  | y :: l, 0, x, h, hp, _ => by simp at h; subst h; rw [List.find?_cons, hp]
  | y :: l, i + 1, x, h, hp, hn => by
    rw [List.find?_cons, hn 0 y (by omega) rfl]
    exact r7 (by simpa using h) hp fun j z hj hz => hn (j + 1) z (by omega) (by simpa using hz)
theorem AN2 {α : Type} {p : α → Bool} {l : List α} (hn : ∀ (j : Nat) (y : α), l[j]? = some y → p y = false) : l.find? p = none := by
  rw [List.find?_eq_none]
  intro x hx
  obtain ⟨j, hj⟩ := List.getElem?_of_mem hx
  rw [hn j x hj]; decide
end Go.M
namespace Go.Proofs.YtnlhbdkcgaeimaaGreat
open Go Go.AV Go.M
attribute [local irreducible] OpW OpA OpS AWP FSpec ESpec GSpec OpE RetOk RetOkG RvDen Le Ev GuardIs SrcIs Int.tmod Int.tdiv IntKind.wrap
theorem AX3 (h : THeld) : FSpec Tryz.prog 89 [AV.agg h.cs] (AV.agg (hRec h).cs) := by
 refine D9 Tryz.func89 rfl Tryz.ntmps89 rfl ?_
 refine A3 (A2 ?_)
 refine J6 rfl rfl rfl rfl (A0 rfl) ?_
 intro b1
 refine F3 rfl rfl rfl rfl Tryz.zeroValue49 rfl ?_
 intro b2
 refine A5 (A3 (A2 ?_))
 refine A1 rfl rfl rfl (B6 0 rfl E9 rfl B9 (A0 rfl) rfl) ?_
 refine A1 rfl rfl rfl (B4 1 rfl (A0 rfl) rfl C7 rfl) ?_
 refine A1 rfl rfl rfl (B6 1 rfl E9 rfl B9 (A0 rfl) rfl) ?_
 refine A1 rfl rfl rfl (B4 1 rfl (A0 rfl) rfl C7 rfl) ?_
 refine A1 rfl rfl rfl (B6 2 rfl E9 rfl B9 (A0 rfl) rfl) ?_
 refine A1 rfl rfl rfl (B4 1 rfl (A0 rfl) rfl C7 rfl) ?_
 refine A1 rfl rfl rfl (B6 3 rfl E9 rfl L9 (A0 rfl) rfl) ?_
 refine A1 rfl rfl rfl (B4 1 rfl (A0 rfl) rfl P6 rfl) ?_
 refine A1 rfl rfl rfl (B6 4 rfl E9 rfl J7 (A0 rfl) rfl) ?_
 refine A1 rfl rfl rfl (B4 1 rfl (A0 rfl) rfl L3 rfl) ?_
 refine A1 rfl rfl rfl (Q2 (places := #[(0, 1), (1, 1), (2, 1), (3, 1), (4, 1), (5, 1), (6, 1)]) rfl C5 Tryz.zeroValue49 (fun w => by kernel_rfl) rfl (E7 B5 (K8 _ _) (E7 (A0 rfl) (K8 _ _) (E7 (A0 rfl) (K8 _ _) (E7 (A0 rfl) (K8 _ _) (E7 (A0 rfl) (W1 _ _) (E7 (A0 rfl) (W1 _ _) I6)))))) rfl) ?_
 refine D5 0 rfl rfl rfl (A0 rfl) (A0 rfl) (E8 _) rfl H5 rfl ?_
 refine A5 ?_
 refine C6 ?_
 exact H1 rfl (K3 (ys := _) 0 rfl rfl O3 H5 rfl)
theorem AD4 (l : List TWrite) (k : Str) : FSpec Tryz.prog 218 [AV.list 3 (l.map TWrite.cs), AV.str k] (AV.bool (hasK l k)) := by
 refine D9 Tryz.func218 rfl Tryz.ntmps218 rfl ?_
 refine S4 (t := 0) rfl fun hl => ?_
 try simp only [A6] at hl
 refine A3 (A2 ?_)
 refine A1 rfl rfl rfl (B8 rfl F0) ?_
 refine A5 (A3 (A3 (A2 ?_)))
 refine A4 rfl rfl rfl rfl rfl ?_
 refine A1 rfl rfl rfl (H3 rfl G4 (A0 rfl)) ?_
 refine A1 rfl rfl rfl (C4 rfl B5) ?_
 refine A5 (D7 ?_)
 refine J0 [(1, _), (7, _), (8, _)] _ (fun (i : Nat) => i ≤ l.length ∧ hasK l k = (l.drop i).any (fun w => w.Key == k)) (fun (i : Nat) => []) (fun (i : Nat) => [(9, AV.int i)]) (fun (i : Nat) => l.length - i) (0) ?_ (J1 ⟨rfl, rfl, rfl, rfl, trivial⟩) ?_
 ·exact ⟨Nat.zero_le _, rfl⟩
 intro i hinv
 refine A3 (A2 ?_)
 refine A1 rfl rfl rfl (J8 rfl (A0 rfl) (A0 rfl)) ?_
 refine A5 (A3 ?_)
 refine C8 (A0 rfl) ?_ ?_
 ·intro h10
  have k10 := of_decide_eq_true h10; try simp only [A6] at k10
  have hlt : i < l.length := by omega
  obtain ⟨x, hx⟩ := get_some hlt
  refine D1 (A3 (D7 (A3 (A2 ?_))))
  refine A1 rfl rfl rfl (J4 rfl G4 H9 (A0 rfl) (A0 rfl) hx (by first | omega | (simp only [A6, B0, B7, C1, B3, szR] at *; omega))) ?_
  refine A1 rfl rfl rfl (M7 rfl (A0 rfl) S9 H9) ?_
  refine F3 rfl rfl rfl rfl Tryz.zeroValue77 rfl ?_
  intro b6
  refine D5 0 rfl rfl rfl (A0 rfl) (A0 rfl) (E8 _) rfl H9 rfl ?_
  refine A5 (A3 (A2 ?_))
  refine A1 rfl rfl rfl (B6 0 rfl I3 rfl F5 (A0 rfl) rfl) ?_
  refine A1 rfl rfl rfl (B4 0 rfl (A0 rfl) rfl H0 rfl) ?_
  refine A4 rfl rfl rfl rfl rfl ?_
  refine A1 rfl rfl rfl (o6 rfl (A0 rfl) (A0 rfl)) ?_
  refine A5 ?_
  refine C8 (A0 rfl) ?_ ?_
  ·intro h16
   refine A3 (A2 ?_)
   refine A1 rfl rfl rfl (B8 rfl F0) ?_
   refine A5 ?_
   refine C6 ?_
   exact H1 rfl (C3 rfl (by first | exact congrArg AV.bool (by rw [hinv.2, drop_some hx, List.any_cons, h16]; rfl) | exact congrArg AV.bool (by rw [hinv.2, List.drop_eq_nil_of_le hge]; rfl)))
  ·intro h16
   refine D1 (A2 ?_)
   refine A1 rfl rfl rfl (G5 rfl (A0 rfl) B5 (by first | omega | (simp only [A6, B0, B7, C1, B3, szR] at *; omega))) ?_
   refine A4 rfl rfl rfl rfl rfl ?_
   refine A5 ?_
   refine L2 i (i + 1) ?_ ?_ (T3 1 ⟨rfl, rfl, rfl, rfl, trivial⟩)
   ·exact ⟨by omega, by rw [hinv.2, drop_some hx, List.any_cons, h16]; rfl⟩
   ·omega
 ·intro h10
  have k10 := of_decide_eq_false h10; try simp only [A6] at k10
  have hge : l.length ≤ i := by omega
  refine H4 ?_
  refine A3 (A2 ?_)
  refine A1 rfl rfl rfl (B8 rfl F0) ?_
  refine A5 ?_
  refine C6 ?_
  exact H1 rfl (C3 rfl (by first | exact congrArg AV.bool (by rw [hinv.2, drop_some hx, List.any_cons, h16]; rfl) | exact congrArg AV.bool (by rw [hinv.2, List.drop_eq_nil_of_le hge]; rfl)))
theorem Aj9 (l : List Str) (k : Str) : FSpec Tryz.prog 270 [strs l, AV.str k] (AV.bool (hasS l k)) := by
 refine D9 Tryz.func270 rfl Tryz.ntmps270 rfl ?_
 refine S4 (t := 0) rfl fun hl => ?_
 try simp only [A6] at hl
 refine A3 (A2 ?_)
 refine A1 rfl rfl rfl (B8 rfl F0) ?_
 refine A5 (A3 (A3 (A2 ?_)))
 refine A4 rfl rfl rfl rfl rfl ?_
 refine A1 rfl rfl rfl (H3 rfl E2 (A0 rfl)) ?_
 refine A1 rfl rfl rfl (C4 rfl B5) ?_
 refine A5 (D7 ?_)
 refine J0 [(1, _), (7, _), (8, _)] _ (fun (i : Nat) => i ≤ l.length ∧ hasS l k = (l.drop i).any (fun x => k == x)) (fun (i : Nat) => []) (fun (i : Nat) => [(9, AV.int i)]) (fun (i : Nat) => l.length - i) (0) ?_ (J1 ⟨rfl, rfl, rfl, rfl, trivial⟩) ?_
 ·exact ⟨Nat.zero_le _, rfl⟩
 intro i hinv
 refine A3 (A2 ?_)
 refine A1 rfl rfl rfl (J8 rfl (A0 rfl) (A0 rfl)) ?_
 refine A5 (A3 ?_)
 refine C8 (A0 rfl) ?_ ?_
 ·intro h10
  have k10 := of_decide_eq_true h10; try simp only [A6] at k10
  have hlt : i < l.length := by omega
  obtain ⟨x, hx⟩ := get_some hlt
  refine D1 (A3 (D7 (A3 (A2 ?_))))
  refine A1 rfl rfl rfl (J4 rfl E2 F5 (A0 rfl) (A0 rfl) hx (by first | omega | (simp only [A6, B0, B7, C1, B3, szR] at *; omega))) ?_
  refine A1 rfl rfl rfl (L6 rfl (A0 rfl) H0 rfl) ?_
  refine B2 rfl rfl rfl rfl rfl ?_
  refine A5 (A3 (A2 ?_))
  refine A4 rfl rfl rfl rfl rfl ?_
  refine A4 rfl rfl rfl rfl rfl ?_
  refine A1 rfl rfl rfl (o6 rfl (A0 rfl) (A0 rfl)) ?_
  refine A5 ?_
  refine C8 (A0 rfl) ?_ ?_
  ·intro h15
   refine A3 (A2 ?_)
   refine A1 rfl rfl rfl (B8 rfl F0) ?_
   refine A5 ?_
   refine C6 ?_
   exact H1 rfl (C3 rfl (by first | exact congrArg AV.bool (by rw [hinv.2, drop_some hx, List.any_cons, show (k == x) = true from by have h9 := h15; simp at h9 ⊢; exact h9.symm]; rfl) | exact congrArg AV.bool (by rw [hinv.2, List.drop_eq_nil_of_le hge]; rfl)))
  ·intro h15
   refine D1 (A2 ?_)
   refine A1 rfl rfl rfl (G5 rfl (A0 rfl) B5 (by first | omega | (simp only [A6, B0, B7, C1, B3, szR] at *; omega))) ?_
   refine A4 rfl rfl rfl rfl rfl ?_
   refine A5 ?_
   refine L2 i (i + 1) ?_ ?_ (J1 ⟨rfl, rfl, rfl, rfl, trivial⟩)
   ·exact ⟨by omega, by rw [hinv.2, drop_some hx, List.any_cons, show (k == x) = false from by have h9 := h15; simp at h9 ⊢; exact fun e => h9 e.symm]; rfl⟩
   ·omega
 ·intro h10
  have k10 := of_decide_eq_false h10; try simp only [A6] at k10
  have hge : l.length ≤ i := by omega
  refine H4 ?_
  refine A3 (A2 ?_)
  refine A1 rfl rfl rfl (B8 rfl F0) ?_
  refine A5 ?_
  refine C6 ?_
  exact H1 rfl (C3 rfl (by first | exact congrArg AV.bool (by rw [hinv.2, drop_some hx, List.any_cons, show (k == x) = true from by have h9 := h15; simp at h9 ⊢; exact h9.symm]; rfl) | exact congrArg AV.bool (by rw [hinv.2, List.drop_eq_nil_of_le hge]; rfl)))
theorem apart_spec (h : THeld) (rs : List Str) (ws : List TWrite) : FSpec Tryz.prog 222 [AV.agg h.cs, strs rs, AV.list 3 (ws.map TWrite.cs)] (AV.bool (apart h rs ws)) := by
 refine D9 Tryz.func222 rfl Tryz.ntmps222 rfl ?_
 refine S4 (t := 1) rfl fun hl1 => ?_
 try simp only [A6] at hl1
 refine S4 (t := 2) rfl fun hl2 => ?_
 try simp only [A6] at hl2
 refine A3 (A2 ?_)
 refine J6 rfl rfl rfl rfl (A0 rfl) ?_
 intro b3
 refine A1 rfl rfl rfl (B8 rfl F0) ?_
 refine A5 (A3 (A3 (A2 ?_)))
 refine A4 rfl rfl rfl rfl rfl ?_
 refine A1 rfl rfl rfl (H3 rfl E2 (A0 rfl)) ?_
 refine A1 rfl rfl rfl (C4 rfl B5) ?_
 refine A5 (D7 ?_)
 refine J0 [(2, _), (3, _), (11, _), (12, _)] _ (fun (i : Nat) => i ≤ rs.length ∧ (rs.all fun k => !hasK h.Writes k) = ((rs.drop i).all fun k => !hasK h.Writes k)) (fun (i : Nat) => []) (fun (i : Nat) => [(13, AV.int i)]) (fun (i : Nat) => rs.length - i) (0) ?_ (J1 ⟨rfl, rfl, rfl, rfl, rfl, trivial⟩) ?_
 ·exact ⟨Nat.zero_le _, rfl⟩
 intro i hinv
 refine A3 (A2 ?_)
 refine A1 rfl rfl rfl (J8 rfl (A0 rfl) (A0 rfl)) ?_
 refine A5 (A3 ?_)
 refine C8 (A0 rfl) ?_ ?_
 ·intro h14
  have k14 := of_decide_eq_true h14; try simp only [A6] at k14
  have hlt : i < rs.length := by omega
  obtain ⟨x, hx⟩ := get_some hlt
  refine D1 (A3 (D7 (A3 (A2 ?_))))
  refine A1 rfl rfl rfl (J4 rfl E2 F5 (A0 rfl) (A0 rfl) hx (by first | omega | (simp only [A6, B0, B7, C1, B3, szR] at *; omega))) ?_
  refine A1 rfl rfl rfl (L6 rfl (A0 rfl) H0 rfl) ?_
  refine B2 rfl rfl rfl rfl rfl ?_
  refine A5 (A3 (A2 ?_))
  refine A1 rfl rfl rfl (B6 4 rfl E9 rfl J7 (A0 rfl) rfl) ?_
  refine A1 rfl rfl rfl (B4 0 rfl (A0 rfl) rfl L3 rfl) ?_
  refine A4 rfl rfl rfl rfl rfl ?_
  refine A1 rfl rfl rfl (D6 rfl Tryz.call218 rfl (AD4 _ _) (A7 (A0 rfl) (A7 (A0 rfl) C0))) ?_
  refine A5 ?_
  refine C8 (A0 rfl) ?_ ?_
  ·intro h20
   have hfin : apart h rs ws = false := by (unfold apart; rw [hinv.2, drop_some hx, List.all_cons, h20]; rfl)
   refine A3 (A2 ?_)
   refine A1 rfl rfl rfl (B8 rfl F0) ?_
   refine A5 ?_
   refine C6 ?_
   exact H1 rfl (C3 rfl (by exact congrArg AV.bool hfin.symm))
  ·intro h20
   refine D1 (A2 ?_)
   refine A1 rfl rfl rfl (G5 rfl (A0 rfl) B5 (by first | omega | (simp only [A6, B0, B7, C1, B3, szR] at *; omega))) ?_
   refine A4 rfl rfl rfl rfl rfl ?_
   refine A5 ?_
   refine L2 i (i + 1) ?_ ?_ (J1 ⟨rfl, rfl, rfl, rfl, rfl, trivial⟩)
   ·exact ⟨by omega, by rw [hinv.2, drop_some hx, List.all_cons, h20]; rfl⟩
   ·omega
 ·intro h14
  have k14 := of_decide_eq_false h14; try simp only [A6] at k14
  have hge : rs.length ≤ i := by omega
  have hr : (rs.all fun k => !hasK h.Writes k) = true := by (rw [hinv.2, List.drop_eq_nil_of_le hge]; rfl)
  refine H4 ?_
  refine A3 (A3 (A2 ?_))
  refine A4 rfl rfl rfl rfl rfl ?_
  refine A1 rfl rfl rfl (H3 rfl G4 (A0 rfl)) ?_
  refine A1 rfl rfl rfl (C4 rfl B5) ?_
  refine A5 (D7 ?_)
  refine J0 [(3, _), (22, _), (23, _)] _ (fun (q : Nat) => q ≤ ws.length ∧ (ws.all fun w => !(hasK h.Writes w.Key || hasS h.Reads w.Key)) = ((ws.drop q).all fun w => !(hasK h.Writes w.Key || hasS h.Reads w.Key))) (fun (q : Nat) => []) (fun (q : Nat) => [(24, AV.int q)]) (fun (q : Nat) => ws.length - q) (0) ?_ (J1 ⟨rfl, rfl, rfl, rfl, trivial⟩) ?_
  ·exact ⟨Nat.zero_le _, rfl⟩
  intro q hinv
  refine A3 (A2 ?_)
  refine A1 rfl rfl rfl (J8 rfl (A0 rfl) (A0 rfl)) ?_
  refine A5 (A3 ?_)
  refine C8 (A0 rfl) ?_ ?_
  ·intro h25
   have k25 := of_decide_eq_true h25; try simp only [A6] at k25
   have hlt : q < ws.length := by omega
   obtain ⟨x, hx⟩ := get_some hlt
   refine D1 (A3 (D7 (A3 (A2 ?_))))
   refine A1 rfl rfl rfl (J4 rfl G4 H9 (A0 rfl) (A0 rfl) hx (by first | omega | (simp only [A6, B0, B7, C1, B3, szR] at *; omega))) ?_
   refine A1 rfl rfl rfl (M7 rfl (A0 rfl) S9 H9) ?_
   refine F3 rfl rfl rfl rfl Tryz.zeroValue77 rfl ?_
   intro b10
   refine D5 0 rfl rfl rfl (A0 rfl) (A0 rfl) (E8 _) rfl H9 rfl ?_
   refine A5 (A3 (A2 ?_))
   refine A1 rfl rfl rfl (B6 4 rfl E9 rfl J7 (A0 rfl) rfl) ?_
   refine A1 rfl rfl rfl (B4 1 rfl (A0 rfl) rfl L3 rfl) ?_
   refine A1 rfl rfl rfl (B6 0 rfl I3 rfl F5 (A0 rfl) rfl) ?_
   refine A1 rfl rfl rfl (B4 0 rfl (A0 rfl) rfl H0 rfl) ?_
   refine A1 rfl rfl rfl (D6 rfl Tryz.call218 rfl (AD4 _ _) (A7 (A0 rfl) (A7 (A0 rfl) C0))) ?_
   refine A4 rfl rfl rfl rfl rfl ?_
   refine A9 rfl rfl (C9 rfl rfl rfl) (fun hc => B6 3 rfl E9 rfl L9 (A0 rfl) rfl) ?_
   refine A9 rfl rfl (C9 rfl rfl rfl) (fun hc => B4 1 rfl (A8 rfl hc) rfl P6 rfl) ?_
   refine A9 rfl rfl (C9 rfl rfl rfl) (fun hc => B6 0 rfl I3 rfl F5 (A0 rfl) rfl) ?_
   refine A9 rfl rfl (C9 rfl rfl rfl) (fun hc => B4 0 rfl (A8 rfl hc) rfl H0 rfl) ?_
   refine A9 rfl rfl (C9 rfl rfl rfl) (fun hc => D6 rfl Tryz.call270 rfl (Aj9 _ _) (A7 (A8 rfl hc) (A7 (A8 rfl hc) C0))) ?_
   refine A1 rfl rfl rfl (N4 rfl (A0 rfl) (E3 rfl)) ?_
   refine A5 ?_
   refine C8 (A0 rfl) ?_ ?_
   ·intro h39
    have hfin : apart h rs ws = false := by (unfold apart; rw [hinv.2, drop_some hx, List.all_cons, h39]; simp)
    refine A3 (A2 ?_)
    refine A1 rfl rfl rfl (B8 rfl F0) ?_
    refine A5 ?_
    refine C6 ?_
    exact H1 rfl (C3 rfl (by exact congrArg AV.bool hfin.symm))
   ·intro h39
    refine D1 (A2 ?_)
    refine A1 rfl rfl rfl (G5 rfl (A0 rfl) B5 (by first | omega | (simp only [A6, B0, B7, C1, B3, szR] at *; omega))) ?_
    refine A4 rfl rfl rfl rfl rfl ?_
    refine A5 ?_
    refine L2 q (q + 1) ?_ ?_ (T3 1 ⟨rfl, rfl, rfl, rfl, trivial⟩)
    ·exact ⟨by omega, by rw [hinv.2, drop_some hx, List.all_cons, h39]; rfl⟩
    ·omega
  ·intro h25
   have k25 := of_decide_eq_false h25; try simp only [A6] at k25
   have hge : ws.length ≤ q := by omega
   have hfin : apart h rs ws = true := by (unfold apart; rw [hr, hinv.2, List.drop_eq_nil_of_le hge]; rfl)
   refine H4 ?_
   refine A3 (A2 ?_)
   refine A1 rfl rfl rfl (B8 rfl F0) ?_
   refine A5 ?_
   refine C6 ?_
   exact H1 rfl (C3 rfl (by exact congrArg AV.bool hfin.symm))
theorem AQ0 (s : TState) (ws : List TWrite) (hs : s.size ≤ 400000) (hw : sizeL TWrite.size ws ≤ 400000) : FSpec Tryz.prog 223 [AV.agg s.cs, AV.list 3 (ws.map TWrite.cs)] (AV.bool (room s.Cells (ws ++ hWs s.Held))) := by
 obtain ⟨hs1, hs2, hs3, hs4, hs5⟩ := T6 hs
 have hsum : sizeL TCell.size s.Cells + sizeL THeld.size s.Held ≤ 400000 := by have h9 : s.size = sizeL TCell.size s.Cells + sizeL THeld.size s.Held + s.Told.length := rfl; omega
 have hcl := P5 (f := TCell.size) (l := s.Cells)
 have hwl := P5 (f := TWrite.size) (l := ws)
 have hhl := AI6 (l := s.Held)
 obtain ⟨p, hp⟩ : ∃ p : TWrite → Bool, p = fun w => !fullC s.Cells w.Key := ⟨_, rfl⟩
 obtain ⟨al, hal⟩ : ∃ al, ws ++ hWs s.Held = al := ⟨_, rfl⟩
 have hall : al.length ≤ 800000 - s.Cells.length := by rw [← hal, J9]; omega
 rw [hal]
 refine D9 Tryz.func223 rfl Tryz.ntmps223 rfl ?_
 refine A3 (A2 ?_)
 refine J6 rfl rfl rfl rfl (A0 rfl) ?_
 intro b2
 refine A1 rfl rfl rfl (B8 rfl F0) ?_
 refine A5 (A3 (A2 ?_))
 refine a7 9 1 rfl rfl rfl rfl Q7 ?_
 intro v5
 refine A5 (A3 (A3 (A2 ?_)))
 refine A1 rfl rfl rfl (B6 1 rfl D4 rfl P8 (A0 rfl) rfl) ?_
 refine A1 rfl rfl rfl (B4 1 rfl (A0 rfl) rfl Q8 rfl) ?_
 refine A1 rfl rfl rfl (H3 rfl F2 (A0 rfl)) ?_
 refine A1 rfl rfl rfl (C4 rfl B5) ?_
 refine A5 (D7 ?_)
 refine T5 [(1, _), (2, _), (4, _), (15, _), (16, _)] _ (fun (i : Nat) (v : Value) => i ≤ s.Cells.length) (fun (i : Nat) (v : Value) => [.arr v 9 1 ((putAllS (cKeys (s.Cells.take i)) []).map fun s => [AV.str s])]) (fun (i : Nat) (v : Value) => [(5, AV.is v), (17, AV.int i)]) (fun (i : Nat) (v : Value) => s.Cells.length - i) (0) (v5) ?_ (S7 (by rfl) ⟨rfl, rfl, rfl, rfl, rfl, rfl, rfl, trivial⟩) ?_
 ·exact Nat.zero_le _
 intro i v hinv
 refine A3 (A2 ?_)
 refine A1 rfl rfl rfl (J8 rfl (A0 rfl) (A0 rfl)) ?_
 refine A5 (A3 ?_)
 refine C8 (A0 rfl) ?_ ?_
 ·intro h18
  have k18 := of_decide_eq_true h18; try simp only [A6] at k18
  have hlt : i < s.Cells.length := by omega
  obtain ⟨c, hx⟩ := get_some hlt
  have hpl := y5 (cKeys (s.Cells.take i)) []
  unfold cKeys at hpl
  simp only [A6, B0, C1] at hpl
  refine D1 (A3 (D7 (A3 (A2 ?_))))
  refine A1 rfl rfl rfl (J4 rfl F2 G2 (A0 rfl) (A0 rfl) hx (by first | omega | (simp only [A6, B0, B7, C1, B3, szR] at *; omega))) ?_
  refine A1 rfl rfl rfl (M7 rfl (A0 rfl) S6 G2) ?_
  refine F3 rfl rfl rfl rfl Tryz.zeroValue142 rfl ?_
  intro b7
  refine D5 0 rfl rfl rfl (A0 rfl) (A0 rfl) (E8 _) rfl G2 rfl ?_
  refine A5 (A2 ?_)
  refine A4 rfl rfl rfl rfl rfl ?_
  refine A1 rfl rfl rfl (B6 0 rfl G8 rfl F5 (A0 rfl) rfl) ?_
  refine A1 rfl rfl rfl (B4 0 rfl (A0 rfl) rfl H0 rfl) ?_
  refine G0 [1] rfl rfl rfl rfl Tryz.call122 rfl (AD2 v (putAllS (cKeys (s.Cells.take i)) []) c.Key (o0 List.Pairwise.nil).1 (by unfold cKeys; omega)) (A7 (A0 rfl) (A7 (A0 rfl) C0)) rfl ?_
  intro x24 ok24
  refine B2 rfl rfl rfl rfl rfl ?_
  refine A5 (A2 ?_)
  refine A1 rfl rfl rfl (G5 rfl (A0 rfl) B5 (by first | omega | (simp only [A6, B0, B7, C1, B3, szR] at *; omega))) ?_
  refine A4 rfl rfl rfl rfl rfl ?_
  refine A5 ?_
  refine S5 i v (i + 1) (x24) ?_ ?_ (Le.trans (K1 [1, 0] rfl) (N0 1 (by exact congrArg (fun z => Own.arr _ 9 1 (List.map (fun s => [AV.str s]) z) :: _) (by unfold cKeys; rw [List.take_add_one, hx, List.map_append]; exact (AG1 _ _ _).symm)) ⟨rfl, rfl, rfl, rfl, rfl, rfl, rfl, trivial⟩))
  ·omega
  ·omega
 ·intro h18
  have k18 := of_decide_eq_false h18; try simp only [A6] at k18
  have hge : s.Cells.length ≤ i := by omega
  rw [List.take_of_length_le hge]
  refine H4 ?_
  refine A3 (A2 ?_)
  refine U4 rfl rfl rfl rfl G4 H9 ?_
  intro v26
  refine A4 rfl rfl rfl rfl rfl ?_
  refine M9 (by' := 40) 0 rfl rfl rfl rfl G4 Tryz.type77 rfl rfl rfl rfl rfl rfl (A0 rfl) (A0 rfl) rfl (by simp only [C1, A6]; omega) ?_
  intro v28_1
  refine B2 rfl rfl rfl rfl rfl ?_
  refine A5 (A3 (A3 (A2 ?_)))
  refine A1 rfl rfl rfl (B6 2 rfl D4 rfl I1 (A0 rfl) rfl) ?_
  refine A1 rfl rfl rfl (B4 2 rfl (A0 rfl) rfl M0 rfl) ?_
  refine A1 rfl rfl rfl (H3 rfl E5 (A0 rfl)) ?_
  refine A1 rfl rfl rfl (C4 rfl B5) ?_
  refine A5 (D7 ?_)
  refine U3 [(2, _), (4, _), (5, _), (30, _), (31, _)] _ (fun (q : Nat) (u : Value) (a : List TWrite) => q ≤ s.Held.length ∧ a = ws ++ hWs (s.Held.take q)) (fun (q : Nat) (u : Value) (a : List TWrite) => [.arr u 77 3 (a.map TWrite.cs)]) (fun (q : Nat) (u : Value) (a : List TWrite) => [(8, AV.is u), (32, AV.int q)]) (fun (q : Nat) (u : Value) (a : List TWrite) => s.Held.length - q) (0) (v28_1) (ws) ?_ (S7 (by rfl) ⟨rfl, rfl, rfl, rfl, rfl, rfl, rfl, trivial⟩) ?_
  ·exact ⟨Nat.zero_le _, by rw [List.take_zero]; exact (List.append_nil _).symm⟩
  intro q u a hinv
  refine A3 (A2 ?_)
  refine A1 rfl rfl rfl (J8 rfl (A0 rfl) (A0 rfl)) ?_
  refine A5 (A3 ?_)
  refine C8 (A0 rfl) ?_ ?_
  ·intro h33
   have k33 := of_decide_eq_true h33; try simp only [A6] at k33
   have hlt : q < s.Held.length := by omega
   obtain ⟨h, hx⟩ := get_some hlt
   obtain ⟨g1, g2, g3, g4, g5⟩ := Y3 hs2 hx
   have hwt := AI6 (l := s.Held.take q)
   have hwt2 := AE1 (f := THeld.size) (l := s.Held) q
   have hal9 : a.length ≤ 800000 := by (rw [hinv.2, J9]; omega)
   refine D1 (A3 (D7 (A3 (A2 ?_))))
   refine A1 rfl rfl rfl (J4 rfl E5 E1 (A0 rfl) (A0 rfl) hx (by first | omega | (simp only [A6, B0, B7, C1, B3, szR] at *; omega))) ?_
   refine A1 rfl rfl rfl (M7 rfl (A0 rfl) J3 E1) ?_
   refine F3 rfl rfl rfl rfl Tryz.zeroValue45 rfl ?_
   intro b10
   refine D5 0 rfl rfl rfl (A0 rfl) (A0 rfl) (E8 _) rfl E1 rfl ?_
   refine A5 (A2 ?_)
   refine A4 rfl rfl rfl rfl rfl ?_
   refine A1 rfl rfl rfl (B6 4 rfl E9 rfl J7 (A0 rfl) rfl) ?_
   refine A1 rfl rfl rfl (B4 0 rfl (A0 rfl) rfl L3 rfl) ?_
   refine M9 (by' := 40) 1 rfl rfl rfl rfl G4 Tryz.type77 rfl rfl rfl rfl rfl rfl (A0 rfl) (A0 rfl) rfl (by simp only [J9, A6]; omega) ?_
   intro v39_2
   refine B2 rfl rfl rfl rfl rfl ?_
   refine A5 (A2 ?_)
   refine A1 rfl rfl rfl (G5 rfl (A0 rfl) B5 (by first | omega | (simp only [A6, B0, B7, C1, B3, szR] at *; omega))) ?_
   refine A4 rfl rfl rfl rfl rfl ?_
   refine A5 ?_
   refine T2 q u a (q + 1) (v39_2) (a ++ h.Writes) ?_ ?_ (Le.trans (K1 [0, 0] rfl) (N0 1 (by (rw [List.map_append]; rfl)) ⟨rfl, rfl, rfl, rfl, rfl, rfl, rfl, trivial⟩))
   ·exact ⟨by omega, by rw [hinv.2, Aa6 hx, List.append_assoc]⟩
   ·omega
  ·intro h33
   have k33 := of_decide_eq_false h33; try simp only [A6] at k33
   have hge : s.Held.length ≤ q := by omega
   have ha9 : a = al := by (rw [hinv.2, List.take_of_length_le hge, hal])
   subst ha9
   refine H4 ?_
   refine A3 (A3 (A2 ?_))
   refine A4 rfl rfl rfl rfl rfl ?_
   refine A1 rfl rfl rfl (U5 0 rfl G4 (A0 rfl) rfl) ?_
   refine A1 rfl rfl rfl (C4 rfl B5) ?_
   refine A5 (D7 ?_)
   refine AWP.le (K1 [1] rfl) ?_
   refine U3 [(2, _), (41, _), (42, _)] _ (fun (r : Nat) (v2 : Value) (ks : List Str) => r ≤ a.length ∧ a.all p = (a.drop r).all p ∧ ks = putAllS (cKeys s.Cells ++ wKeys (a.take r)) []) (fun (r : Nat) (v2 : Value) (ks : List Str) => [.arr v2 9 1 (ks.map fun s => [AV.str s])]) (fun (r : Nat) (v2 : Value) (ks : List Str) => [(5, AV.is v2), (43, AV.int r)]) (fun (r : Nat) (v2 : Value) (ks : List Str) => a.length - r) (0) (v) (putAllS (cKeys s.Cells) []) ?_ (S7 (by rfl) ⟨rfl, rfl, rfl, rfl, rfl, trivial⟩) ?_
   ·exact ⟨Nat.zero_le _, rfl, by rw [List.take_zero]; exact congrArg (fun z => putAllS z []) (List.append_nil _).symm⟩
   intro r v2 ks hinv
   refine A3 (A2 ?_)
   refine A1 rfl rfl rfl (J8 rfl (A0 rfl) (A0 rfl)) ?_
   refine A5 (A3 ?_)
   refine C8 (A0 rfl) ?_ ?_
   ·intro h44
    have k44 := of_decide_eq_true h44; try simp only [A6] at k44
    have hlt : r < a.length := by omega
    obtain ⟨w, hx⟩ := get_some hlt
    obtain ⟨c, hc0⟩ := at_some s.Cells w.Key
    have hfu := fullC_at (l := s.Cells) (k := w.Key) (c := c) (fun h9 => (hc0 h9).2)
    have hpl := y5 (cKeys s.Cells ++ wKeys (a.take r)) []
    unfold cKeys wKeys at hpl
    simp only [J9, A6, B0, C1] at hpl
    refine D1 (A3 (D7 (A3 (A2 ?_))))
    refine A1 rfl rfl rfl (V8 1 rfl G4 H9 (A0 rfl) rfl (A0 rfl) (by omega) (by try simp only [A6]; omega)) ?_
    refine A1 rfl rfl rfl (k0 1 rfl (A0 rfl) rfl S9 H9 (by rw [Int.toNat_natCast, List.getElem?_map, hx]; rfl) (by decide)) ?_
    refine F3 rfl rfl rfl rfl Tryz.zeroValue77 rfl ?_
    intro b12
    refine D5 0 rfl rfl rfl (A0 rfl) (A0 rfl) (E8 _) rfl H9 rfl ?_
    refine A5 (A3 (A2 ?_))
    refine A4 rfl rfl rfl rfl rfl ?_
    refine A1 rfl rfl rfl (B6 0 rfl I3 rfl F5 (A0 rfl) rfl) ?_
    refine A1 rfl rfl rfl (B4 0 rfl (A0 rfl) rfl H0 rfl) ?_
    refine G0 [1] rfl rfl rfl rfl Tryz.call122 rfl (AD2 v2 ks w.Key (by rw [hinv.2.2]; exact (o0 List.Pairwise.nil).1) (by rw [hinv.2.2]; unfold cKeys wKeys; omega)) (A7 (A0 rfl) (A7 (A0 rfl) C0)) rfl ?_
    intro x50 ok50
    refine B2 rfl rfl rfl rfl rfl ?_
    refine A5 (A3 (A2 ?_))
    refine A1 rfl rfl rfl (B6 1 rfl D4 rfl P8 (A0 rfl) rfl) ?_
    refine A1 rfl rfl rfl (B4 3 rfl (A0 rfl) rfl Q8 rfl) ?_
    refine A1 rfl rfl rfl (B6 0 rfl I3 rfl F5 (A0 rfl) rfl) ?_
    refine A1 rfl rfl rfl (B4 1 rfl (A0 rfl) rfl H0 rfl) ?_
    refine A1 rfl rfl rfl (D6 rfl Tryz.call261 rfl (AV2 _ _) (A7 (A0 rfl) (A7 (A0 rfl) C0))) ?_
    refine B2 rfl rfl rfl rfl rfl ?_
    refine A5 (A3 (A2 ?_))
    refine A4 rfl rfl rfl rfl rfl ?_
    refine A1 rfl rfl rfl (X4 rfl (A0 rfl) B5) ?_
    refine A4 rfl rfl rfl rfl rfl ?_
    refine A9 rfl rfl (B1 rfl rfl rfl) (fun hc => B6 1 rfl D4 rfl P8 (A0 rfl) rfl) ?_
    refine A9 rfl rfl (B1 rfl rfl rfl) (fun hc => B4 3 rfl (A8 rfl hc) rfl Q8 rfl) ?_
    refine A9 rfl rfl (B1 rfl rfl rfl) (fun hc => C4 rfl (A0 rfl)) ?_
    refine A9 rfl rfl (B1 rfl rfl rfl) (fun hc => q6 rfl F2 G2 (A8 rfl hc) (A8 rfl hc) (by have h9 := of_decide_eq_true hc; obtain ⟨⟨p9, e1, e2⟩, _⟩ := hc0 (by omega); have := (List.getElem?_eq_some_iff.1 e2).1; omega) (by have h9 := of_decide_eq_true hc; obtain ⟨⟨p9, e1, e2⟩, _⟩ := hc0 (by omega); rw [e1, Int.toNat_natCast, List.getElem?_map, e2]; rfl)) ?_
    refine A9 rfl rfl (B1 rfl rfl rfl) (fun hc => U2 rfl G8 rfl Q0 (A8 rfl hc) rfl) ?_
    refine A9 rfl rfl (B1 rfl rfl rfl) (fun hc => L6 rfl (A8 rfl hc) R7 rfl) ?_
    refine A9 rfl rfl (B1 rfl rfl rfl) (fun hc => H3 rfl K2 (A8 rfl hc)) ?_
    refine A9 rfl rfl (B1 rfl rfl rfl) (fun hc => X4 rfl (A8 rfl hc) B5) ?_
    refine A1 rfl rfl rfl (G1 rfl (A0 rfl) (E3 rfl)) ?_
    refine A5 ?_
    refine C8 (A0 rfl) ?_ ?_
    ·intro h67
     have hpw : p w = false := by (rw [hp]; simp only [Bool.not_eq_false']; rw [hfu]; rw [A6] at h67; exact h67)
     have hro : room s.Cells a = false := by (unfold room; rw [show (a.all fun w => !fullC s.Cells w.Key) = false from by rw [← hp, hinv.2.1, drop_some hx, List.all_cons, hpw]; rfl]; rfl)
     refine A3 (A2 ?_)
     refine A1 rfl rfl rfl (B8 rfl F0) ?_
     refine A5 ?_
     refine C6 ?_
     exact H1 rfl (C3 rfl (by first | exact congrArg AV.bool hro.symm | exact congrArg AV.bool (by rw [hro]; simp only [A6]; rw [decide_eq_decide]; omega)))
    ·intro h67
     have hpw : p w = true := by (rw [hp]; simp only [Bool.not_eq_true']; rw [hfu]; rw [A6] at h67; exact h67)
     refine D1 (A2 ?_)
     refine A1 rfl rfl rfl (G5 rfl (A0 rfl) B5 (by first | omega | (simp only [A6, B0, B7, C1, B3, szR] at *; omega))) ?_
     refine A4 rfl rfl rfl rfl rfl ?_
     refine A5 ?_
     refine T2 r v2 ks (r + 1) (x50) (putS ks w.Key) ?_ ?_ (Le.trans (K1 [1, 0] rfl) (N0 1 (by rfl) ⟨rfl, rfl, rfl, rfl, rfl, trivial⟩))
     ·exact ⟨by omega, by rw [hinv.2.1, drop_some hx, List.all_cons, hpw]; rfl, by rw [hinv.2.2]; unfold wKeys; rw [List.take_add_one, hx, List.map_append, ← List.append_assoc]; exact (AG1 _ _ _).symm⟩
     ·omega
   ·intro h44
    have k44 := of_decide_eq_false h44; try simp only [A6] at k44
    have hge : a.length ≤ r := by omega
    have hks := hinv.2.2
    rw [List.take_of_length_le hge] at hks
    have hro : room s.Cells a = decide (ks.length ≤ 24) := by (unfold room roomKs; rw [← hp, hinv.2.1, List.drop_eq_nil_of_le hge, Al8, ← hks]; rfl)
    refine H4 ?_
    refine A3 (A2 ?_)
    refine A4 rfl rfl rfl rfl rfl ?_
    refine A1 rfl rfl rfl (U5 0 rfl E2 (A0 rfl) rfl) ?_
    refine A1 rfl rfl rfl (S0 rfl (A0 rfl) B5) ?_
    refine B2 rfl rfl rfl rfl rfl ?_
    refine A5 ?_
    refine C6 ?_
    exact H1 rfl (C3 rfl (by first | exact congrArg AV.bool hro.symm | exact congrArg AV.bool (by rw [hro]; simp only [A6]; rw [decide_eq_decide]; omega)))
theorem Ab4 (s : TState) (n : Int) (hlen : s.Held.length ≤ 1048576) : FSpec Tryz.prog 105 [AV.agg s.cs, AV.int n] (AV.tup [AV.agg (heldFO s.Held n).1.cs, AV.bool (heldFO s.Held n).2]) := by
 obtain ⟨l, hl⟩ : ∃ l, s.Held = l := ⟨_, rfl⟩
 have hcs : s.cs = [AV.int s.Floor, AV.list 2 (s.Cells.map TCell.cs), AV.list 5 (l.map THeld.cs), AV.list 3 (s.Told.map TTold.cs)] := by rw [← hl]; rfl
 rw [hl] at hlen
 rw [hl, hcs]
 refine D9 Tryz.func105 rfl Tryz.ntmps105 rfl ?_
 refine A3 (A2 ?_)
 refine J6 rfl rfl rfl rfl (A0 rfl) ?_
 intro b2
 refine F3 rfl rfl rfl rfl Tryz.zeroValue45 rfl ?_
 intro b4
 refine A1 rfl rfl rfl (B8 rfl F0) ?_
 refine A5 (A3 (A3 (A2 ?_)))
 refine A1 rfl rfl rfl (B6 2 rfl D4 rfl I1 (A0 rfl) rfl) ?_
 refine A1 rfl rfl rfl (B4 1 rfl (A0 rfl) rfl M0 rfl) ?_
 refine A1 rfl rfl rfl (H3 rfl E5 (A0 rfl)) ?_
 refine A1 rfl rfl rfl (C4 rfl B5) ?_
 refine A5 (D7 ?_)
 refine J0 [(1, _), (4, _), (9, _), (10, _)] _ (fun (i : Nat) => i ≤ l.length ∧ ∀ j y, j < i → l[j]? = some y → (y.Txn == n) = false) (fun (i : Nat) => []) (fun (i : Nat) => [(11, AV.int i)]) (fun (i : Nat) => l.length - i) (0) ?_ (J1 ⟨rfl, rfl, rfl, rfl, rfl, trivial⟩) ?_
 ·exact ⟨Nat.zero_le _, fun j y hj => by omega⟩
 intro i hinv
 refine A3 (A2 ?_)
 refine A1 rfl rfl rfl (J8 rfl (A0 rfl) (A0 rfl)) ?_
 refine A5 (A3 ?_)
 refine C8 (A0 rfl) ?_ ?_
 ·intro h12
  have k12 := of_decide_eq_true h12; try simp only [A6] at k12
  have hlt : i < l.length := by omega
  obtain ⟨x, hx⟩ := get_some hlt
  refine D1 (A3 (D7 (A3 (A2 ?_))))
  refine A1 rfl rfl rfl (J4 rfl E5 E1 (A0 rfl) (A0 rfl) hx (by first | omega | (simp only [A6, B0, B7, C1, B3, szR] at *; omega))) ?_
  refine A1 rfl rfl rfl (M7 rfl (A0 rfl) J3 E1) ?_
  refine F3 rfl rfl rfl rfl Tryz.zeroValue45 rfl ?_
  intro b7
  refine D5 0 rfl rfl rfl (A0 rfl) (A0 rfl) (E8 _) rfl E1 rfl ?_
  refine A5 (A3 (A2 ?_))
  refine A1 rfl rfl rfl (B6 0 rfl E9 rfl B9 (A0 rfl) rfl) ?_
  refine A1 rfl rfl rfl (B4 0 rfl (A0 rfl) rfl C7 rfl) ?_
  refine A4 rfl rfl rfl rfl rfl ?_
  refine A1 rfl rfl rfl (M5 rfl (A0 rfl) (A0 rfl)) ?_
  refine A5 ?_
  refine C8 (A0 rfl) ?_ ?_
  ·intro h18
   have k18 := N6 h18; try simp only [A6] at k18
   have he : heldFO l n = (x, true) := by (unfold heldFO findH; rw [r7 hx h18 hinv.2])
   rw [he]
   refine A3 (A2 ?_)
   refine A1 rfl rfl rfl (E4 0 rfl (A0 rfl) rfl J3 E1 rfl) ?_
   refine D5 1 rfl rfl rfl (A0 rfl) (A0 rfl) (E8 _) rfl E1 rfl ?_
   refine A1 rfl rfl rfl (B8 rfl F0) ?_
   refine A5 ?_
   refine C6 ?_
   exact R5 rfl (by decide) (E6 (K3 (ys := _) 1 rfl rfl J3 E1 rfl) (E6 (C3 rfl (by rfl)) I8))
  ·intro h18
   have k18 := N5 h18; try simp only [A6] at k18
   refine D1 (A2 ?_)
   refine A1 rfl rfl rfl (G5 rfl (A0 rfl) B5 (by first | omega | (simp only [A6, B0, B7, C1, B3, szR] at *; omega))) ?_
   refine A4 rfl rfl rfl rfl rfl ?_
   refine A5 ?_
   refine L2 i (i + 1) ?_ ?_ (T3 1 ⟨rfl, rfl, rfl, rfl, rfl, trivial⟩)
   ·exact ⟨by omega, fun j y hj hy => if hji : j < i then hinv.2 j y hji hy else (by have e : j = i := (by omega); subst e; rw [hx] at hy; injection hy with hy; subst hy; exact h18)⟩
   ·omega
 ·intro h12
  have k12 := of_decide_eq_false h12; try simp only [A6] at k12
  have hge : l.length ≤ i := by omega
  have he : heldFO l n = (zHeld, false) := by (unfold heldFO findH; rw [AN2 fun j y hy => hinv.2 j y (Nat.lt_of_lt_of_le (List.getElem?_eq_some_iff.1 hy).1 hge) hy])
  rw [he]
  refine H4 ?_
  refine A3 (A2 ?_)
  refine A1 rfl rfl rfl (Q2 (places := #[(0, 1), (1, 1), (2, 1), (3, 1), (4, 1)]) rfl E9 Tryz.zeroValue45 (fun w => by kernel_rfl) rfl I6 rfl) ?_
  refine D5 0 rfl rfl rfl (A0 rfl) (A0 rfl) (E8 _) rfl E1 rfl ?_
  refine A1 rfl rfl rfl (B8 rfl F0) ?_
  refine A5 ?_
  refine C6 ?_
  refine AK5 0 3 1 rfl rfl ?_
  refine AK5 0 4 3 rfl rfl ?_
  exact R5 rfl (by decide) (E6 (K3 (ys := _) 0 rfl rfl J3 E1 rfl) (E6 (C3 rfl (by rfl)) I8))
theorem Ab5 (s : TState) (n : Int) (hlen : s.Told.length ≤ 1048576) : FSpec Tryz.prog 104 [AV.agg s.cs, AV.int n] (AV.tup [AV.agg (toldFO s.Told n).1.cs, AV.bool (toldFO s.Told n).2]) := by
 obtain ⟨l, hl⟩ : ∃ l, s.Told = l := ⟨_, rfl⟩
 have hcs : s.cs = [AV.int s.Floor, AV.list 2 (s.Cells.map TCell.cs), AV.list 5 (s.Held.map THeld.cs), AV.list 3 (l.map TTold.cs)] := by rw [← hl]; rfl
 rw [hl] at hlen
 rw [hl, hcs]
 refine D9 Tryz.func104 rfl Tryz.ntmps104 rfl ?_
 refine A3 (A2 ?_)
 refine J6 rfl rfl rfl rfl (A0 rfl) ?_
 intro b2
 refine F3 rfl rfl rfl rfl Tryz.zeroValue39 rfl ?_
 intro b4
 refine A1 rfl rfl rfl (B8 rfl F0) ?_
 refine A5 (A3 (A3 (A2 ?_)))
 refine A1 rfl rfl rfl (B6 3 rfl D4 rfl P2 (A0 rfl) rfl) ?_
 refine A1 rfl rfl rfl (B4 1 rfl (A0 rfl) rfl T0 rfl) ?_
 refine A1 rfl rfl rfl (H3 rfl H8 (A0 rfl)) ?_
 refine A1 rfl rfl rfl (C4 rfl B5) ?_
 refine A5 (D7 ?_)
 refine J0 [(1, _), (4, _), (9, _), (10, _)] _ (fun (i : Nat) => i ≤ l.length ∧ ∀ j y, j < i → l[j]? = some y → (y.Txn == n) = false) (fun (i : Nat) => []) (fun (i : Nat) => [(11, AV.int i)]) (fun (i : Nat) => l.length - i) (0) ?_ (J1 ⟨rfl, rfl, rfl, rfl, rfl, trivial⟩) ?_
 ·exact ⟨Nat.zero_le _, fun j y hj => by omega⟩
 intro i hinv
 refine A3 (A2 ?_)
 refine A1 rfl rfl rfl (J8 rfl (A0 rfl) (A0 rfl)) ?_
 refine A5 (A3 ?_)
 refine C8 (A0 rfl) ?_ ?_
 ·intro h12
  have k12 := of_decide_eq_true h12; try simp only [A6] at k12
  have hlt : i < l.length := by omega
  obtain ⟨x, hx⟩ := get_some hlt
  refine D1 (A3 (D7 (A3 (A2 ?_))))
  refine A1 rfl rfl rfl (J4 rfl H8 K6 (A0 rfl) (A0 rfl) hx (by first | omega | (simp only [A6, B0, B7, C1, B3, szR] at *; omega))) ?_
  refine A1 rfl rfl rfl (M7 rfl (A0 rfl) Y4 K6) ?_
  refine F3 rfl rfl rfl rfl Tryz.zeroValue39 rfl ?_
  intro b7
  refine D5 0 rfl rfl rfl (A0 rfl) (A0 rfl) (E8 _) rfl K6 rfl ?_
  refine A5 (A3 (A2 ?_))
  refine A1 rfl rfl rfl (B6 0 rfl K4 rfl B9 (A0 rfl) rfl) ?_
  refine A1 rfl rfl rfl (B4 0 rfl (A0 rfl) rfl C7 rfl) ?_
  refine A4 rfl rfl rfl rfl rfl ?_
  refine A1 rfl rfl rfl (M5 rfl (A0 rfl) (A0 rfl)) ?_
  refine A5 ?_
  refine C8 (A0 rfl) ?_ ?_
  ·intro h18
   have k18 := N6 h18; try simp only [A6] at k18
   have he : toldFO l n = (x, true) := by (unfold toldFO findT; rw [r7 hx h18 hinv.2])
   rw [he]
   refine A3 (A2 ?_)
   refine A1 rfl rfl rfl (E4 0 rfl (A0 rfl) rfl Y4 K6 rfl) ?_
   refine D5 1 rfl rfl rfl (A0 rfl) (A0 rfl) (E8 _) rfl K6 rfl ?_
   refine A1 rfl rfl rfl (B8 rfl F0) ?_
   refine A5 ?_
   refine C6 ?_
   exact R5 rfl (by decide) (E6 (K3 (ys := _) 1 rfl rfl Y4 K6 rfl) (E6 (C3 rfl (by rfl)) I8))
  ·intro h18
   have k18 := N5 h18; try simp only [A6] at k18
   refine D1 (A2 ?_)
   refine A1 rfl rfl rfl (G5 rfl (A0 rfl) B5 (by first | omega | (simp only [A6, B0, B7, C1, B3, szR] at *; omega))) ?_
   refine A4 rfl rfl rfl rfl rfl ?_
   refine A5 ?_
   refine L2 i (i + 1) ?_ ?_ (T3 1 ⟨rfl, rfl, rfl, rfl, rfl, trivial⟩)
   ·exact ⟨by omega, fun j y hj hy => if hji : j < i then hinv.2 j y hji hy else (by have e : j = i := (by omega); subst e; rw [hx] at hy; injection hy with hy; subst hy; exact h18)⟩
   ·omega
 ·intro h12
  have k12 := of_decide_eq_false h12; try simp only [A6] at k12
  have hge : l.length ≤ i := by omega
  have he : toldFO l n = (zTold, false) := by (unfold toldFO findT; rw [AN2 fun j y hy => hinv.2 j y (Nat.lt_of_lt_of_le (List.getElem?_eq_some_iff.1 hy).1 hge) hy])
  rw [he]
  refine H4 ?_
  refine A3 (A2 ?_)
  refine A1 rfl rfl rfl (Q2 (places := #[(0, 1), (1, 1), (2, 1)]) rfl K4 Tryz.zeroValue39 (fun w => by kernel_rfl) rfl I6 rfl) ?_
  refine D5 0 rfl rfl rfl (A0 rfl) (A0 rfl) (E8 _) rfl K6 rfl ?_
  refine A1 rfl rfl rfl (B8 rfl F0) ?_
  refine A5 ?_
  refine C6 ?_
  exact R5 rfl (by decide) (E6 (K3 (ys := _) 0 rfl rfl Y4 K6 rfl) (E6 (C3 rfl (by rfl)) I8))
theorem AX4 (s : TState) (ho : CellsOk s.Cells) (hs : s.size ≤ 400000) : FSpec Tryz.prog 202 [AV.agg s.cs] (AV.bool (areHeld s)) := by
 obtain ⟨hs1, hs2, hs3, hs4, hs5⟩ := T6 hs
 refine D9 Tryz.func202 rfl Tryz.ntmps202 rfl ?_
 refine A3 (A2 ?_)
 refine J6 rfl rfl rfl rfl (A0 rfl) ?_
 intro b1
 refine A1 rfl rfl rfl (B8 rfl F0) ?_
 refine A5 (A3 (A3 (A2 ?_)))
 refine A1 rfl rfl rfl (B6 2 rfl D4 rfl I1 (A0 rfl) rfl) ?_
 refine A1 rfl rfl rfl (B4 0 rfl (A0 rfl) rfl M0 rfl) ?_
 refine A1 rfl rfl rfl (H3 rfl E5 (A0 rfl)) ?_
 refine A1 rfl rfl rfl (C4 rfl B5) ?_
 refine A5 (D7 ?_)
 refine J0 [(1, _), (10, _), (11, _)] _ (fun (i : Nat) => i ≤ s.Held.length ∧ ∀ j, j < i → heldAt s j = true) (fun (i : Nat) => []) (fun (i : Nat) => [(12, AV.int i)]) (fun (i : Nat) => s.Held.length - i) (0) ?_ (J1 ⟨rfl, rfl, rfl, rfl, trivial⟩) ?_
 ·exact ⟨Nat.zero_le _, fun j hj => by omega⟩
 intro i hinv
 refine A3 (A2 ?_)
 refine A1 rfl rfl rfl (J8 rfl (A0 rfl) (A0 rfl)) ?_
 refine A5 (A3 ?_)
 refine C8 (A0 rfl) ?_ ?_
 ·intro h13
  have k13 := of_decide_eq_true h13; try simp only [A6] at k13
  have hlt : i < s.Held.length := by omega
  obtain ⟨h, hx⟩ := get_some hlt
  obtain ⟨y, hy⟩ := get_some (show i - 1 < s.Held.length by omega)
  obtain ⟨g1, g2, g3, g4, g5⟩ := Y3 hs2 hx
  have hinv0 := hinv
  refine D1 (A3 (D7 (A3 (A2 ?_))))
  refine A4 rfl rfl rfl rfl rfl ?_
  refine A1 rfl rfl rfl (J4 rfl E5 E1 (A0 rfl) (A0 rfl) hx (by first | omega | (simp only [A6, B0, B7, C1, B3, szR] at *; omega))) ?_
  refine A1 rfl rfl rfl (M7 rfl (A0 rfl) J3 E1) ?_
  refine F3 rfl rfl rfl rfl Tryz.zeroValue45 rfl ?_
  intro b4
  refine B2 rfl rfl rfl rfl rfl ?_
  refine D5 0 rfl rfl rfl (A0 rfl) (A0 rfl) (E8 _) rfl E1 rfl ?_
  refine A5 (A3 (A3 ?_))
  refine K0 (by kernel_rfl) (by kernel_rfl) rfl ?_
  refine C2 rfl rfl (E4 0 rfl (A0 rfl) rfl J3 E1 rfl) ?_
  refine C2 rfl rfl (D6 rfl Tryz.call89 rfl (AX3 _) (A7 (A0 rfl) C0)) ?_
  refine C2 rfl rfl (D6 rfl Tryz.call85 rfl (Ae0 _ (by first | assumption | omega)) (A7 (A0 rfl) C0)) ?_
  refine C2 rfl rfl (I4 rfl (A0 rfl)) ?_
  refine C2 rfl rfl (C4 rfl (A0 rfl)) ?_
  refine D8 rfl (C9 rfl rfl rfl) (fun hc => B6 1 rfl E9 rfl B9 (A0 rfl) rfl) ?_
  refine D8 rfl (C9 rfl rfl rfl) (fun hc => B4 0 rfl (A8 rfl hc) rfl C7 rfl) ?_
  refine D8 rfl (C9 rfl rfl rfl) (fun hc => B6 0 rfl D4 rfl B9 (A0 rfl) rfl) ?_
  refine D8 rfl (C9 rfl rfl rfl) (fun hc => B4 1 rfl (A8 rfl hc) rfl C7 rfl) ?_
  refine D8 rfl (C9 rfl rfl rfl) (fun hc => O5 rfl (A8 rfl hc) (A8 rfl hc)) ?_
  refine C2 rfl rfl (N4 rfl (A0 rfl) (E3 rfl)) ?_
  refine C2 rfl rfl (C4 rfl (A0 rfl)) ?_
  refine D8 rfl (C9 rfl rfl rfl) (fun hc => C4 rfl (A0 rfl)) ?_
  refine D8 rfl (C9 rfl rfl rfl) (fun hc => O5 rfl (A8 rfl hc) B5) ?_
  refine D8 rfl (C9 rfl rfl rfl) (fun hc => C4 rfl (A8 rfl hc)) ?_
  refine D8 rfl (E0 rfl rfl rfl) (fun hc => B6 2 rfl D4 rfl I1 (A0 rfl) rfl) ?_
  refine D8 rfl (E0 rfl rfl rfl) (fun hc => B4 1 rfl (A8 rfl hc) rfl M0 rfl) ?_
  refine D8 rfl (E0 rfl rfl rfl) (fun hc => C4 rfl (A0 rfl)) ?_
  refine D8 rfl (E0 rfl rfl rfl) (fun hc => N1 rfl (A8 rfl hc) B5 (by first | omega | ((try simp only [A6, B0, B7, C1, B3, szR] at *); omega) | (have hc2 := hc; simp only [Bool.and_eq_true, Bool.or_eq_true, Bool.or_eq_false_iff, Bool.and_eq_false_iff, Bool.not_eq_true', Bool.not_eq_false', decide_eq_true_eq, decide_eq_false_iff_not, beq_iff_eq, bne_iff_ne, A6, B0] at hc2; omega))) ?_
  refine D8 rfl (E0 rfl rfl rfl) (fun hc => J4 rfl E5 E1 (A8 rfl hc) (A8 rfl hc) hy (by first | omega | ((try simp only [A6, B0, B7, C1, B3, szR] at *); omega) | (have hc2 := hc; simp only [Bool.and_eq_true, Bool.or_eq_true, Bool.or_eq_false_iff, Bool.and_eq_false_iff, Bool.not_eq_true', Bool.not_eq_false', decide_eq_true_eq, decide_eq_false_iff_not, beq_iff_eq, bne_iff_ne, A6, B0] at hc2; omega))) ?_
  refine D8 rfl (E0 rfl rfl rfl) (fun hc => U2 rfl E9 rfl B9 (A8 rfl hc) rfl) ?_
  refine D8 rfl (E0 rfl rfl rfl) (fun hc => L6 rfl (A8 rfl hc) C7 rfl) ?_
  refine D8 rfl (E0 rfl rfl rfl) (fun hc => B6 0 rfl E9 rfl B9 (A0 rfl) rfl) ?_
  refine D8 rfl (E0 rfl rfl rfl) (fun hc => B4 0 rfl (A8 rfl hc) rfl C7 rfl) ?_
  refine D8 rfl (E0 rfl rfl rfl) (fun hc => X4 rfl (A8 rfl hc) (A8 rfl hc)) ?_
  refine D8 rfl (C9 rfl rfl rfl) (fun hc => G1 rfl (A8 rfl hc) (Q1 rfl hc)) ?_
  refine C2 rfl rfl (N4 rfl (A0 rfl) (E3 rfl)) ?_
  refine Q9 ?_
  refine C8 (A0 rfl) ?_ ?_
  ·intro h43
   have hfin : areHeld s = false := by (unfold areHeld; rw [W7 hlt (by rw [r6 hx hy, h43]; rfl)]; rfl)
   refine A3 (A2 ?_)
   refine A1 rfl rfl rfl (B8 rfl F0) ?_
   refine A5 ?_
   refine C6 ?_
   exact H1 rfl (C3 rfl (by first | exact congrArg AV.bool hfin.symm | exact congrArg AV.bool (by unfold areHeld; rw [hall, Bool.true_and, List.nil_append, A6]; congr 1; rw [decide_eq_decide]; omega)))
  ·intro h43
   refine D1 (A3 (A3 (A2 ?_)))
   refine A1 rfl rfl rfl (B6 2 rfl D4 rfl I1 (A0 rfl) rfl) ?_
   refine A1 rfl rfl rfl (B4 1 rfl (A0 rfl) rfl M0 rfl) ?_
   refine A4 rfl rfl rfl rfl rfl ?_
   refine A1 rfl rfl rfl (u6 rfl E5 E1 (A0 rfl) (A0 rfl) (by first | omega | (simp only [A6, B0, B7, C1, B3, szR] at *; omega)) (by first | omega | (simp only [A6, B0, B7, C1, B3, szR] at *; omega))) ?_
   refine A1 rfl rfl rfl (H3 rfl E5 (A0 rfl)) ?_
   refine A1 rfl rfl rfl (C4 rfl B5) ?_
   refine A5 (D7 ?_)
   refine J0 [(1, _), (3, _), (4, _), (10, _), (11, _), (12, _), (13, _), (14, _), (15, _), (16, _), (17, _), (18, _), (19, _), (20, _), (21, _), (27, _), (28, _), (43, _), (44, _), (45, _), (46, _), (47, _), (48, _)] _ (fun (q : Nat) => q ≤ (s.Held.take i).length ∧ ((s.Held.take i).all fun g => apart g h.Reads h.Writes) = (((s.Held.take i).drop q).all fun g => apart g h.Reads h.Writes)) (fun (q : Nat) => []) (fun (q : Nat) => [(49, AV.int q)]) (fun (q : Nat) => (s.Held.take i).length - q) (0) ?_ (J1 ⟨rfl, rfl, rfl, rfl, rfl, rfl, rfl, rfl, rfl, rfl, rfl, rfl, rfl, rfl, rfl, rfl, rfl, rfl, rfl, rfl, rfl, rfl, rfl, rfl, trivial⟩) ?_
   ·exact ⟨Nat.zero_le _, rfl⟩
   intro q hinv
   refine A3 (A2 ?_)
   refine A1 rfl rfl rfl (J8 rfl (A0 rfl) (A0 rfl)) ?_
   refine A5 (A3 ?_)
   refine C8 (A0 rfl) ?_ ?_
   ·intro h50
    have k50 := of_decide_eq_true h50; try simp only [A6] at k50
    have hlt2 : q < (s.Held.take i).length := by (simp only [B0, A6, Int.toNat_natCast] at k50 ⊢; omega)
    obtain ⟨k, hx2⟩ := get_some hlt2
    refine D1 (A3 (D7 (A3 (A2 ?_))))
    refine A1 rfl rfl rfl (J4 rfl E5 E1 (A0 rfl) (A0 rfl) hx2 (by first | omega | (simp only [A6, B0, B7, C1, B3, szR] at *; omega))) ?_
    refine A1 rfl rfl rfl (M7 rfl (A0 rfl) J3 E1) ?_
    refine F3 rfl rfl rfl rfl Tryz.zeroValue45 rfl ?_
    intro b6
    refine D5 0 rfl rfl rfl (A0 rfl) (A0 rfl) (E8 _) rfl E1 rfl ?_
    refine A5 (A3 (A2 ?_))
    refine A1 rfl rfl rfl (E4 0 rfl (A0 rfl) rfl J3 E1 rfl) ?_
    refine A1 rfl rfl rfl (B6 3 rfl E9 rfl L9 (A0 rfl) rfl) ?_
    refine A1 rfl rfl rfl (B4 1 rfl (A0 rfl) rfl P6 rfl) ?_
    refine A1 rfl rfl rfl (B6 4 rfl E9 rfl J7 (A0 rfl) rfl) ?_
    refine A1 rfl rfl rfl (B4 1 rfl (A0 rfl) rfl L3 rfl) ?_
    refine A1 rfl rfl rfl (D6 rfl Tryz.call222 rfl (apart_spec _ _ _) (A7 (A0 rfl) (A7 (A0 rfl) (A7 (A0 rfl) C0)))) ?_
    refine A1 rfl rfl rfl (I4 rfl (A0 rfl)) ?_
    refine A5 ?_
    refine C8 (A0 rfl) ?_ ?_
    ·intro h59
     have hfin : areHeld s = false := by (unfold areHeld; rw [W7 hlt (by rw [r6 hx hy, hinv.2, drop_some hx2, List.all_cons, show apart k h.Reads h.Writes = false by simpa using h59]; simp)]; rfl)
     refine A3 (A2 ?_)
     refine A1 rfl rfl rfl (B8 rfl F0) ?_
     refine A5 ?_
     refine C6 ?_
     exact H1 rfl (C3 rfl (by first | exact congrArg AV.bool hfin.symm | exact congrArg AV.bool (by unfold areHeld; rw [hall, Bool.true_and, List.nil_append, A6]; congr 1; rw [decide_eq_decide]; omega)))
    ·intro h59
     refine D1 (A2 ?_)
     refine A1 rfl rfl rfl (G5 rfl (A0 rfl) B5 (by first | omega | (simp only [A6, B0, B7, C1, B3, szR] at *; omega))) ?_
     refine A4 rfl rfl rfl rfl rfl ?_
     refine A5 ?_
     refine L2 q (q + 1) ?_ ?_ (T3 1 ⟨rfl, rfl, rfl, rfl, rfl, rfl, rfl, rfl, rfl, rfl, rfl, rfl, rfl, rfl, rfl, rfl, rfl, rfl, rfl, rfl, rfl, rfl, rfl, rfl, trivial⟩)
     ·exact ⟨by omega, by rw [hinv.2, drop_some hx2, List.all_cons, show apart k h.Reads h.Writes = true by simpa using h59]; rfl⟩
     ·omega
   ·intro h50
    have k50 := of_decide_eq_false h50; try simp only [A6] at k50
    have hge2 : (s.Held.take i).length ≤ q := by (simp only [B0, A6, Int.toNat_natCast] at k50 ⊢; omega)
    have hap : ((s.Held.take i).all fun g => apart g h.Reads h.Writes) = true := by (rw [hinv.2, List.drop_eq_nil_of_le hge2]; rfl)
    refine H4 ?_
    refine A3 (A2 ?_)
    refine A1 rfl rfl rfl (B6 4 rfl E9 rfl J7 (A0 rfl) rfl) ?_
    refine A1 rfl rfl rfl (B4 0 rfl (A0 rfl) rfl L3 rfl) ?_
    refine A1 rfl rfl rfl (H3 rfl G4 (A0 rfl)) ?_
    refine A1 rfl rfl rfl (C4 rfl B5) ?_
    refine A5 (D7 ?_)
    refine J0 [(1, _), (3, _), (4, _), (10, _), (11, _), (12, _), (13, _), (14, _), (15, _), (16, _), (17, _), (18, _), (19, _), (20, _), (21, _), (27, _), (28, _), (43, _), (44, _), (45, _), (46, _), (47, _), (48, _), (49, _), (50, _), (61, _), (62, _), (63, _)] _ (fun (r : Nat) => r ≤ h.Writes.length ∧ (h.Writes.all fun w => decide (lastTime s.Cells w.Key < h.Time)) = ((h.Writes.drop r).all fun w => decide (lastTime s.Cells w.Key < h.Time))) (fun (r : Nat) => []) (fun (r : Nat) => [(64, AV.int r)]) (fun (r : Nat) => h.Writes.length - r) (0) ?_ (J1 ⟨rfl, rfl, rfl, rfl, rfl, rfl, rfl, rfl, rfl, rfl, rfl, rfl, rfl, rfl, rfl, rfl, rfl, rfl, rfl, rfl, rfl, rfl, rfl, rfl, rfl, rfl, rfl, rfl, rfl, trivial⟩) ?_
    ·exact ⟨Nat.zero_le _, rfl⟩
    intro r hinv
    refine A3 (A2 ?_)
    refine A1 rfl rfl rfl (J8 rfl (A0 rfl) (A0 rfl)) ?_
    refine A5 (A3 ?_)
    refine C8 (A0 rfl) ?_ ?_
    ·intro h65
     have k65 := of_decide_eq_true h65; try simp only [A6] at k65
     have hlt3 : r < h.Writes.length := by omega
     obtain ⟨w, hw⟩ := get_some hlt3
     refine D1 (A3 (D7 (A3 (A2 ?_))))
     refine A1 rfl rfl rfl (J4 rfl G4 H9 (A0 rfl) (A0 rfl) hw (by first | omega | (simp only [A6, B0, B7, C1, B3, szR] at *; omega))) ?_
     refine A1 rfl rfl rfl (M7 rfl (A0 rfl) S9 H9) ?_
     refine F3 rfl rfl rfl rfl Tryz.zeroValue77 rfl ?_
     intro b8
     refine D5 0 rfl rfl rfl (A0 rfl) (A0 rfl) (E8 _) rfl H9 rfl ?_
     refine A5 (A3 ?_)
     refine K0 (by kernel_rfl) (by kernel_rfl) rfl ?_
     refine C2 rfl rfl (B6 1 rfl D4 rfl P8 (A0 rfl) rfl) ?_
     refine C2 rfl rfl (B4 2 rfl (A0 rfl) rfl Q8 rfl) ?_
     refine C2 rfl rfl (B6 0 rfl I3 rfl F5 (A0 rfl) rfl) ?_
     refine C2 rfl rfl (B4 0 rfl (A0 rfl) rfl H0 rfl) ?_
     refine C2 rfl rfl (D6 rfl Tryz.call203 rfl (y8 _ _ (by first | assumption | exact U6 (by rw [X3]; assumption)) (by first | assumption | omega)) (A7 (A0 rfl) (A7 (A0 rfl) C0))) ?_
     refine C2 rfl rfl (B6 1 rfl E9 rfl B9 (A0 rfl) rfl) ?_
     refine C2 rfl rfl (B4 1 rfl (A0 rfl) rfl C7 rfl) ?_
     refine C2 rfl rfl (X4 rfl (A0 rfl) (A0 rfl)) ?_
     refine Q9 ?_
     refine C8 (A0 rfl) ?_ ?_
     ·intro h75
      have k75 := of_decide_eq_true h75; try simp only [A6] at k75
      have hfin : areHeld s = false := by (unfold areHeld; rw [W7 hlt (by rw [r6 hx hy, hinv.2, drop_some hw, List.all_cons, decide_eq_false (show ¬ lastTime s.Cells w.Key < h.Time by omega)]; simp)]; rfl)
      refine A3 (A2 ?_)
      refine A1 rfl rfl rfl (B8 rfl F0) ?_
      refine A5 ?_
      refine C6 ?_
      exact H1 rfl (C3 rfl (by first | exact congrArg AV.bool hfin.symm | exact congrArg AV.bool (by unfold areHeld; rw [hall, Bool.true_and, List.nil_append, A6]; congr 1; rw [decide_eq_decide]; omega)))
     ·intro h75
      have k75 := of_decide_eq_false h75; try simp only [A6] at k75
      refine D1 (A2 ?_)
      refine A1 rfl rfl rfl (G5 rfl (A0 rfl) B5 (by first | omega | (simp only [A6, B0, B7, C1, B3, szR] at *; omega))) ?_
      refine A4 rfl rfl rfl rfl rfl ?_
      refine A5 ?_
      refine L2 r (r + 1) ?_ ?_ (T3 1 ⟨rfl, rfl, rfl, rfl, rfl, rfl, rfl, rfl, rfl, rfl, rfl, rfl, rfl, rfl, rfl, rfl, rfl, rfl, rfl, rfl, rfl, rfl, rfl, rfl, rfl, rfl, rfl, rfl, rfl, trivial⟩)
      ·exact ⟨by omega, by rw [hinv.2, drop_some hw, List.all_cons, decide_eq_true (show lastTime s.Cells w.Key < h.Time by omega)]; rfl⟩
      ·omega
    ·intro h65
     have k65 := of_decide_eq_false h65; try simp only [A6] at k65
     have hge3 : h.Writes.length ≤ r := by omega
     have hlw : (h.Writes.all fun w => decide (lastTime s.Cells w.Key < h.Time)) = true := by (rw [hinv.2, List.drop_eq_nil_of_le hge3]; rfl)
     refine H4 ?_
     refine A2 ?_
     refine A1 rfl rfl rfl (G5 rfl (A0 rfl) B5 (by first | omega | (simp only [A6, B0, B7, C1, B3, szR] at *; omega))) ?_
     refine A4 rfl rfl rfl rfl rfl ?_
     refine A5 ?_
     refine L2 i (i + 1) ?_ ?_ (T3 1 ⟨rfl, rfl, rfl, rfl, trivial⟩)
     ·exact ⟨by omega, fun j hj => if hji : j < i then hinv0.2 j hji else (by have e : j = i := (by omega); subst e; rw [r6 hx hy, h43, hap, hlw]; rfl)⟩
     ·omega
 ·intro h13
  have k13 := of_decide_eq_false h13; try simp only [A6] at k13
  have hge : s.Held.length ≤ i := by omega
  have hall : allB s.Held.length (heldAt s) = true := j5.2 fun j hj => hinv.2 j (by omega)
  refine H4 ?_
  refine A3 (A2 ?_)
  refine A1 rfl rfl rfl (B6 2 rfl D4 rfl I1 (A0 rfl) rfl) ?_
  refine A1 rfl rfl rfl (B4 0 rfl (A0 rfl) rfl M0 rfl) ?_
  refine A1 rfl rfl rfl (H3 rfl E5 (A0 rfl)) ?_
  refine A1 rfl rfl rfl (S0 rfl (A0 rfl) B5) ?_
  refine A4 rfl rfl rfl rfl rfl ?_
  refine A9 rfl rfl (B1 rfl rfl rfl) (fun hc => E4 0 rfl (A0 rfl) rfl F1 D3 rfl) ?_
  refine A9 rfl rfl (B1 rfl rfl rfl) (fun hc => D6 rfl Tryz.call223 rfl (AQ0 s [] hs (by decide)) (A7 (A8 rfl hc) (A7 AI1 C0))) ?_
  refine A1 rfl rfl rfl (G1 rfl (A0 rfl) (E3 rfl)) ?_
  refine B2 rfl rfl rfl rfl rfl ?_
  refine A5 ?_
  refine C6 ?_
  exact H1 rfl (C3 rfl (by first | exact congrArg AV.bool hfin.symm | exact congrArg AV.bool (by unfold areHeld; rw [hall, Bool.true_and, List.nil_append, A6]; congr 1; rw [decide_eq_decide]; omega)))
theorem w6 (s : TState) (hs : s.size ≤ 400000) : FSpec Tryz.prog 102 [AV.agg s.cs] (AV.bool (goodState s)) := by
 obtain ⟨hs1, hs2, hs3, hs4, hs5⟩ := T6 hs
 refine D9 Tryz.func102 rfl Tryz.ntmps102 rfl ?_
 refine A3 (A2 ?_)
 refine J6 rfl rfl rfl rfl (A0 rfl) ?_
 intro b1
 refine A1 rfl rfl rfl (B8 rfl F0) ?_
 refine A5 (A3 (A3 (A2 ?_)))
 refine A1 rfl rfl rfl (B6 0 rfl D4 rfl B9 (A0 rfl) rfl) ?_
 refine A1 rfl rfl rfl (B4 0 rfl (A0 rfl) rfl C7 rfl) ?_
 refine A1 rfl rfl rfl (D6 rfl Tryz.call120 rfl (o1 _) (A7 (A0 rfl) C0)) ?_
 refine A1 rfl rfl rfl (I4 rfl (A0 rfl)) ?_
 refine A4 rfl rfl rfl rfl rfl ?_
 refine A9 rfl rfl (C9 rfl rfl rfl) (fun hc => B6 1 rfl D4 rfl P8 (A0 rfl) rfl) ?_
 refine A9 rfl rfl (C9 rfl rfl rfl) (fun hc => B4 0 rfl (A8 rfl hc) rfl Q8 rfl) ?_
 refine A9 rfl rfl (C9 rfl rfl rfl) (fun hc => D6 rfl Tryz.call201 rfl (AJ9 _ (by first | assumption | omega)) (A7 (A8 rfl hc) C0)) ?_
 refine A9 rfl rfl (C9 rfl rfl rfl) (fun hc => I4 rfl (A8 rfl hc)) ?_
 refine A1 rfl rfl rfl (N4 rfl (A0 rfl) (E3 rfl)) ?_
 refine A4 rfl rfl rfl rfl rfl ?_
 refine A9 rfl rfl (C9 rfl rfl rfl) (fun hc => E4 0 rfl (A0 rfl) rfl F1 D3 rfl) ?_
 refine A9 rfl rfl (C9 rfl rfl rfl) (fun hc => D6 rfl Tryz.call202 rfl (AX4 s (U6 (by have h9 := hc; simp at h9; rw [X3]; exact h9.2)) hs) (A7 (A8 rfl hc) C0)) ?_
 refine A9 rfl rfl (C9 rfl rfl rfl) (fun hc => I4 rfl (A8 rfl hc)) ?_
 refine A1 rfl rfl rfl (N4 rfl (A0 rfl) (E3 rfl)) ?_
 refine A4 rfl rfl rfl rfl rfl ?_
 refine A9 rfl rfl (C9 rfl rfl rfl) (fun hc => B6 3 rfl D4 rfl P2 (A0 rfl) rfl) ?_
 refine A9 rfl rfl (C9 rfl rfl rfl) (fun hc => B4 0 rfl (A8 rfl hc) rfl T0 rfl) ?_
 refine A9 rfl rfl (C9 rfl rfl rfl) (fun hc => H3 rfl H8 (A8 rfl hc)) ?_
 refine A9 rfl rfl (C9 rfl rfl rfl) (fun hc => O5 rfl (A8 rfl hc) B5) ?_
 refine A1 rfl rfl rfl (N4 rfl (A0 rfl) (E3 rfl)) ?_
 refine A5 ?_
 refine C8 (A0 rfl) ?_ ?_
 ·intro h29
  have hfin : goodState s = false := by (unfold goodState; simp only [Bool.or_eq_true, Bool.not_eq_true', decide_eq_true_eq, A6] at h29; rcases h29 with ((h | h) | h) | h; (rw [h]; rfl); (rw [X3, h]; simp); (rw [h]; simp); (rw [decide_eq_false (show ¬ s.Told.length ≤ 60 by omega)]; simp))
  refine A3 (A2 ?_)
  refine A1 rfl rfl rfl (B8 rfl F0) ?_
  refine A5 ?_
  refine C6 ?_
  exact H1 rfl (C3 rfl (by exact congrArg AV.bool hfin.symm))
 ·intro h29
  simp only [Bool.or_eq_false_iff, Bool.not_eq_false', decide_eq_false_iff_not, A6] at h29
  obtain ⟨⟨⟨q1, q2⟩, q3⟩, q4⟩ := h29
  have hco := U6 (by rw [X3]; exact q2)
  have hgs : goodState s = ((s.Cells.all fun c => decide (lastTime s.Cells c.Key ≤ s.Floor)) && allB s.Told.length (toldAt s)) := by (unfold goodState; rw [q1, X3, q2, q3, decide_eq_true (show s.Told.length ≤ 60 by omega)]; simp)
  refine D1 (A3 (A3 (A2 ?_)))
  refine A1 rfl rfl rfl (B6 1 rfl D4 rfl P8 (A0 rfl) rfl) ?_
  refine A1 rfl rfl rfl (B4 0 rfl (A0 rfl) rfl Q8 rfl) ?_
  refine A1 rfl rfl rfl (H3 rfl F2 (A0 rfl)) ?_
  refine A1 rfl rfl rfl (C4 rfl B5) ?_
  refine A5 (D7 ?_)
  refine J0 [(1, _), (31, _), (32, _)] _ (fun (i : Nat) => i ≤ s.Cells.length ∧ (s.Cells.all fun c => decide (lastTime s.Cells c.Key ≤ s.Floor)) = ((s.Cells.drop i).all fun c => decide (lastTime s.Cells c.Key ≤ s.Floor))) (fun (i : Nat) => []) (fun (i : Nat) => [(33, AV.int i)]) (fun (i : Nat) => s.Cells.length - i) (0) ?_ (J1 ⟨rfl, rfl, rfl, rfl, trivial⟩) ?_
  ·exact ⟨Nat.zero_le _, rfl⟩
  intro i hinv
  refine A3 (A2 ?_)
  refine A1 rfl rfl rfl (J8 rfl (A0 rfl) (A0 rfl)) ?_
  refine A5 (A3 ?_)
  refine C8 (A0 rfl) ?_ ?_
  ·intro h34
   have k34 := of_decide_eq_true h34; try simp only [A6] at k34
   have hlt : i < s.Cells.length := by omega
   obtain ⟨c, hx⟩ := get_some hlt
   refine D1 (A3 (D7 (A3 (A2 ?_))))
   refine A1 rfl rfl rfl (J4 rfl F2 G2 (A0 rfl) (A0 rfl) hx (by first | omega | (simp only [A6, B0, B7, C1, B3, szR] at *; omega))) ?_
   refine A1 rfl rfl rfl (M7 rfl (A0 rfl) S6 G2) ?_
   refine F3 rfl rfl rfl rfl Tryz.zeroValue142 rfl ?_
   intro b4
   refine D5 0 rfl rfl rfl (A0 rfl) (A0 rfl) (E8 _) rfl G2 rfl ?_
   refine A5 (A3 ?_)
   refine K0 (by kernel_rfl) (by kernel_rfl) rfl ?_
   refine C2 rfl rfl (B6 1 rfl D4 rfl P8 (A0 rfl) rfl) ?_
   refine C2 rfl rfl (B4 1 rfl (A0 rfl) rfl Q8 rfl) ?_
   refine C2 rfl rfl (B6 0 rfl G8 rfl F5 (A0 rfl) rfl) ?_
   refine C2 rfl rfl (B4 0 rfl (A0 rfl) rfl H0 rfl) ?_
   refine C2 rfl rfl (D6 rfl Tryz.call203 rfl (y8 _ _ (by first | assumption | exact U6 (by rw [X3]; assumption)) (by first | assumption | omega)) (A7 (A0 rfl) (A7 (A0 rfl) C0))) ?_
   refine C2 rfl rfl (B6 0 rfl D4 rfl B9 (A0 rfl) rfl) ?_
   refine C2 rfl rfl (B4 1 rfl (A0 rfl) rfl C7 rfl) ?_
   refine C2 rfl rfl (O5 rfl (A0 rfl) (A0 rfl)) ?_
   refine Q9 ?_
   refine C8 (A0 rfl) ?_ ?_
   ·intro h44
    have k44 := of_decide_eq_true h44; try simp only [A6] at k44
    have hfin : goodState s = false := by (rw [hgs, hinv.2, drop_some hx, List.all_cons, decide_eq_false (show ¬ lastTime s.Cells c.Key ≤ s.Floor by omega)]; rfl)
    refine A3 (A2 ?_)
    refine A1 rfl rfl rfl (B8 rfl F0) ?_
    refine A5 ?_
    refine C6 ?_
    exact H1 rfl (C3 rfl (by exact congrArg AV.bool hfin.symm))
   ·intro h44
    have k44 := of_decide_eq_false h44; try simp only [A6] at k44
    refine D1 (A2 ?_)
    refine A1 rfl rfl rfl (G5 rfl (A0 rfl) B5 (by first | omega | (simp only [A6, B0, B7, C1, B3, szR] at *; omega))) ?_
    refine A4 rfl rfl rfl rfl rfl ?_
    refine A5 ?_
    refine L2 i (i + 1) ?_ ?_ (T3 1 ⟨rfl, rfl, rfl, rfl, trivial⟩)
    ·exact ⟨by omega, by rw [hinv.2, drop_some hx, List.all_cons, decide_eq_true (show lastTime s.Cells c.Key ≤ s.Floor by omega)]; rfl⟩
    ·omega
  ·intro h34
   have k34 := of_decide_eq_false h34; try simp only [A6] at k34
   have hge : s.Cells.length ≤ i := by omega
   have hgs2 : goodState s = allB s.Told.length (toldAt s) := by (rw [hgs, hinv.2, List.drop_eq_nil_of_le hge]; rfl)
   refine H4 ?_
   refine A3 (A3 (A2 ?_))
   refine A1 rfl rfl rfl (B6 3 rfl D4 rfl P2 (A0 rfl) rfl) ?_
   refine A1 rfl rfl rfl (B4 0 rfl (A0 rfl) rfl T0 rfl) ?_
   refine A1 rfl rfl rfl (H3 rfl H8 (A0 rfl)) ?_
   refine A1 rfl rfl rfl (C4 rfl B5) ?_
   refine A5 (D7 ?_)
   refine J0 [(1, _), (47, _), (48, _)] _ (fun (q : Nat) => q ≤ s.Told.length ∧ ∀ j, j < q → toldAt s j = true) (fun (q : Nat) => []) (fun (q : Nat) => [(49, AV.int q)]) (fun (q : Nat) => s.Told.length - q) (0) ?_ (J1 ⟨rfl, rfl, rfl, rfl, trivial⟩) ?_
   ·exact ⟨Nat.zero_le _, fun j hj => by omega⟩
   intro q hinv
   refine A3 (A2 ?_)
   refine A1 rfl rfl rfl (J8 rfl (A0 rfl) (A0 rfl)) ?_
   refine A5 (A3 ?_)
   refine C8 (A0 rfl) ?_ ?_
   ·intro h50
    have k50 := of_decide_eq_true h50; try simp only [A6] at k50
    have hlt : q < s.Told.length := by omega
    obtain ⟨t, hx⟩ := get_some hlt
    obtain ⟨y, hy⟩ := get_some (show q - 1 < s.Told.length by omega)
    refine D1 (A3 (D7 (A3 (A2 ?_))))
    refine A4 rfl rfl rfl rfl rfl ?_
    refine A1 rfl rfl rfl (J4 rfl H8 K6 (A0 rfl) (A0 rfl) hx (by first | omega | (simp only [A6, B0, B7, C1, B3, szR] at *; omega))) ?_
    refine A1 rfl rfl rfl (M7 rfl (A0 rfl) Y4 K6) ?_
    refine F3 rfl rfl rfl rfl Tryz.zeroValue39 rfl ?_
    intro b6
    refine B2 rfl rfl rfl rfl rfl ?_
    refine D5 0 rfl rfl rfl (A0 rfl) (A0 rfl) (E8 _) rfl K6 rfl ?_
    refine A5 (A3 (A3 ?_))
    refine K0 (by kernel_rfl) (by kernel_rfl) rfl ?_
    refine C2 rfl rfl (B6 0 rfl K4 rfl B9 (A0 rfl) rfl) ?_
    refine C2 rfl rfl (B4 0 rfl (A0 rfl) rfl C7 rfl) ?_
    refine C2 rfl rfl (D6 rfl Tryz.call137 rfl (T8 _ _ _) (A7 (A0 rfl) (A7 B5 (A7 B5 C0)))) ?_
    refine C2 rfl rfl (I4 rfl (A0 rfl)) ?_
    refine C2 rfl rfl (C4 rfl (A0 rfl)) ?_
    refine D8 rfl (C9 rfl rfl rfl) (fun hc => C4 rfl (A0 rfl)) ?_
    refine D8 rfl (C9 rfl rfl rfl) (fun hc => O5 rfl (A8 rfl hc) B5) ?_
    refine D8 rfl (C9 rfl rfl rfl) (fun hc => C4 rfl (A8 rfl hc)) ?_
    refine D8 rfl (E0 rfl rfl rfl) (fun hc => B6 3 rfl D4 rfl P2 (A0 rfl) rfl) ?_
    refine D8 rfl (E0 rfl rfl rfl) (fun hc => B4 1 rfl (A8 rfl hc) rfl T0 rfl) ?_
    refine D8 rfl (E0 rfl rfl rfl) (fun hc => C4 rfl (A0 rfl)) ?_
    refine D8 rfl (E0 rfl rfl rfl) (fun hc => N1 rfl (A8 rfl hc) B5 (by first | omega | ((try simp only [A6, B0, B7, C1, B3, szR] at *); omega) | (have hc2 := hc; simp only [Bool.and_eq_true, Bool.or_eq_true, Bool.or_eq_false_iff, Bool.and_eq_false_iff, Bool.not_eq_true', Bool.not_eq_false', decide_eq_true_eq, decide_eq_false_iff_not, beq_iff_eq, bne_iff_ne, A6, B0] at hc2; omega))) ?_
    refine D8 rfl (E0 rfl rfl rfl) (fun hc => J4 rfl H8 K6 (A8 rfl hc) (A8 rfl hc) hy (by first | omega | ((try simp only [A6, B0, B7, C1, B3, szR] at *); omega) | (have hc2 := hc; simp only [Bool.and_eq_true, Bool.or_eq_true, Bool.or_eq_false_iff, Bool.and_eq_false_iff, Bool.not_eq_true', Bool.not_eq_false', decide_eq_true_eq, decide_eq_false_iff_not, beq_iff_eq, bne_iff_ne, A6, B0] at hc2; omega))) ?_
    refine D8 rfl (E0 rfl rfl rfl) (fun hc => U2 rfl K4 rfl B9 (A8 rfl hc) rfl) ?_
    refine D8 rfl (E0 rfl rfl rfl) (fun hc => L6 rfl (A8 rfl hc) C7 rfl) ?_
    refine D8 rfl (E0 rfl rfl rfl) (fun hc => B6 0 rfl K4 rfl B9 (A0 rfl) rfl) ?_
    refine D8 rfl (E0 rfl rfl rfl) (fun hc => B4 0 rfl (A8 rfl hc) rfl C7 rfl) ?_
    refine D8 rfl (E0 rfl rfl rfl) (fun hc => X4 rfl (A8 rfl hc) (A8 rfl hc)) ?_
    refine D8 rfl (C9 rfl rfl rfl) (fun hc => G1 rfl (A8 rfl hc) (Q1 rfl hc)) ?_
    refine C2 rfl rfl (N4 rfl (A0 rfl) (E3 rfl)) ?_
    refine C2 rfl rfl (C4 rfl (A0 rfl)) ?_
    refine D8 rfl (C9 rfl rfl rfl) (fun hc => B6 1 rfl K4 rfl K5 (A0 rfl) rfl) ?_
    refine D8 rfl (C9 rfl rfl rfl) (fun hc => B4 0 rfl (A8 rfl hc) rfl M6 rfl) ?_
    refine D8 rfl (C9 rfl rfl rfl) (fun hc => C4 rfl (A8 rfl hc)) ?_
    refine D8 rfl (E0 rfl rfl rfl) (fun hc => B6 2 rfl K4 rfl B9 (A0 rfl) rfl) ?_
    refine D8 rfl (E0 rfl rfl rfl) (fun hc => B4 0 rfl (A8 rfl hc) rfl C7 rfl) ?_
    refine D8 rfl (E0 rfl rfl rfl) (fun hc => B6 0 rfl D4 rfl B9 (A0 rfl) rfl) ?_
    refine D8 rfl (E0 rfl rfl rfl) (fun hc => B4 1 rfl (A8 rfl hc) rfl C7 rfl) ?_
    refine D8 rfl (E0 rfl rfl rfl) (fun hc => D6 rfl Tryz.call137 rfl (T8 _ _ _) (A7 (A8 rfl hc) (A7 B5 (A7 (A8 rfl hc) C0)))) ?_
    refine D8 rfl (E0 rfl rfl rfl) (fun hc => I4 rfl (A8 rfl hc)) ?_
    refine D8 rfl (C9 rfl rfl rfl) (fun hc => G1 rfl (A8 rfl hc) (Q1 rfl hc)) ?_
    refine C2 rfl rfl (N4 rfl (A0 rfl) (E3 rfl)) ?_
    refine C2 rfl rfl (C4 rfl (A0 rfl)) ?_
    refine D8 rfl (C9 rfl rfl rfl) (fun hc => B6 1 rfl K4 rfl K5 (A0 rfl) rfl) ?_
    refine D8 rfl (C9 rfl rfl rfl) (fun hc => B4 0 rfl (A8 rfl hc) rfl M6 rfl) ?_
    refine D8 rfl (C9 rfl rfl rfl) (fun hc => I4 rfl (A8 rfl hc)) ?_
    refine D8 rfl (C9 rfl rfl rfl) (fun hc => C4 rfl (A8 rfl hc)) ?_
    refine D8 rfl (E0 rfl rfl rfl) (fun hc => B6 2 rfl K4 rfl B9 (A0 rfl) rfl) ?_
    refine D8 rfl (E0 rfl rfl rfl) (fun hc => B4 0 rfl (A8 rfl hc) rfl C7 rfl) ?_
    refine D8 rfl (E0 rfl rfl rfl) (fun hc => AI2 rfl (A8 rfl hc) B5) ?_
    refine D8 rfl (C9 rfl rfl rfl) (fun hc => G1 rfl (A8 rfl hc) (Q1 rfl hc)) ?_
    refine C2 rfl rfl (N4 rfl (A0 rfl) (E3 rfl)) ?_
    refine Q9 ?_
    refine C8 (A0 rfl) ?_ ?_
    ·intro h95
     have hfin : goodState s = false := by (rw [hgs2]; exact W7 hlt (by rw [AD3 hx hy, h95]; rfl))
     refine A3 (A2 ?_)
     refine A1 rfl rfl rfl (B8 rfl F0) ?_
     refine A5 ?_
     refine C6 ?_
     exact H1 rfl (C3 rfl (by exact congrArg AV.bool hfin.symm))
    ·intro h95
     refine D1 (A3 (A2 ?_))
     refine A1 rfl rfl rfl (E4 1 rfl (A0 rfl) rfl F1 D3 rfl) ?_
     refine A1 rfl rfl rfl (B6 0 rfl K4 rfl B9 (A0 rfl) rfl) ?_
     refine A1 rfl rfl rfl (B4 0 rfl (A0 rfl) rfl C7 rfl) ?_
     refine A1 rfl rfl rfl (D6 rfl Tryz.call105 rfl (Ab4 _ _ (by first | assumption | omega)) (A7 (A0 rfl) (A7 (A0 rfl) C0))) ?_
     refine A4 rfl rfl rfl rfl rfl ?_
     refine A1 rfl rfl rfl (D0 rfl (A0 rfl) rfl) ?_
     refine A1 rfl rfl rfl (D0 rfl (A0 rfl) rfl) ?_
     refine F3 rfl rfl rfl rfl Tryz.zeroValue45 rfl ?_
     intro b7
     refine D5 0 rfl rfl rfl (A0 rfl) (A0 rfl) (E8 _) rfl E1 rfl ?_
     refine B2 rfl rfl rfl rfl rfl ?_
     refine A5 (A3 (A2 ?_))
     refine A4 rfl rfl rfl rfl rfl ?_
     refine A5 ?_
     refine C8 (A0 rfl) ?_ ?_
     ·intro h103
      have hfin : goodState s = false := by (rw [hgs2]; exact W7 hlt (by rw [AD3 hx hy, ← AH7, h103]; simp))
      refine A3 (A2 ?_)
      refine A1 rfl rfl rfl (B8 rfl F0) ?_
      refine A5 ?_
      refine C6 ?_
      exact H1 rfl (C3 rfl (by exact congrArg AV.bool hfin.symm))
     ·intro h103
      refine D1 (A2 ?_)
      refine A1 rfl rfl rfl (G5 rfl (A0 rfl) B5 (by first | omega | (simp only [A6, B0, B7, C1, B3, szR] at *; omega))) ?_
      refine A4 rfl rfl rfl rfl rfl ?_
      refine A5 ?_
      refine L2 q (q + 1) ?_ ?_ (T3 2 ⟨rfl, rfl, rfl, rfl, trivial⟩)
      ·exact ⟨by omega, fun j hj => if hji : j < q then hinv.2 j hji else (by have e : j = q := (by omega); subst e; rw [AD3 hx hy, h95, ← AH7, h103]; rfl)⟩
      ·omega
   ·intro h50
    have k50 := of_decide_eq_false h50; try simp only [A6] at k50
    have hge : s.Told.length ≤ q := by omega
    have hfin : goodState s = true := by (rw [hgs2]; exact j5.2 fun j hj => hinv.2 j (by omega))
    refine H4 ?_
    refine A3 (A2 ?_)
    refine A1 rfl rfl rfl (B8 rfl F0) ?_
    refine A5 ?_
    refine C6 ?_
    exact H1 rfl (C3 rfl (by exact congrArg AV.bool hfin.symm))
end Go.Proofs.YtnlhbdkcgaeimaaGreat

set_option linter.unusedVariables false
set_option linter.unusedSimpArgs false
set_option maxRecDepth 100000
namespace Go.Proofs.YtnlhbdkcgaeimaaGreat
open Go Go.AV Go.M
attribute [local irreducible] OpW OpA OpS AWP FSpec ESpec GSpec OpE RetOk RetOkG RvDen Le Ev GuardIs SrcIs
end Go.Proofs.YtnlhbdkcgaeimaaGreat

set_option linter.unusedVariables false
set_option linter.unusedSimpArgs false
set_option maxRecDepth 100000
namespace Go.Proofs.YtnlhbdkcgaeimaaGreat
open Go Go.AV Go.M
attribute [local irreducible] OpW OpA OpS AWP FSpec ESpec GSpec OpE RetOk RetOkG RvDen Le Ev GuardIs
end Go.Proofs.YtnlhbdkcgaeimaaGreat

set_option linter.unusedVariables false
set_option linter.unusedSimpArgs false
set_option maxRecDepth 100000
namespace Go.Proofs.YtnlhbdkcgaeimaaGreat
open Go Go.AV Go.M
attribute [local irreducible] OpW OpA OpS AWP FSpec ESpec GSpec OpE RetOk RetOkG RvDen Le Ev GuardIs SrcIs
end Go.Proofs.YtnlhbdkcgaeimaaGreat

set_option linter.unusedVariables false
set_option linter.unusedSimpArgs false
set_option maxRecDepth 100000
set_option maxHeartbeats 2000000
namespace Go.M
open Go.AV
structure SO (s : TState) : Prop where
  floor : 0 ≤ s.Floor
  cells : CellsOk s.Cells
  hsort : s.Held.Pairwise fun a b => a.Txn < b.Txn
  tsort : s.Told.Pairwise fun a b => a.Txn < b.Txn
  times : ∀ h ∈ s.Held, 1 ≤ h.Time
theorem gs_so {s : TState} (g : GS s) : SO s := ⟨g.floor.1, U6 g.cells, g.hsort, g.tsort, fun h hm => (AP9 g hm).1⟩
theorem Ag7 {t : Int} : ∀ {w : List TWrite} {l q : List TCell}, CellsOk l → putAll l w t = some q → CellsOk q
  | [], l, q, h, e => by simp [putAll] at e; subst e; exact h
  | x :: w, l, q, h, e => by
    unfold putAll at e
    split at e
    · cases e
    · exact Ag7 (i5 h _ _) e
theorem so_apply {s : TState} (g : SO s) {r : TRec} (h : (applyS s r).2 = true) : SO (applyS s r).1 := by
  have h0 := g.floor
  have hless : SO ⟨s.Floor, s.Cells, lessH s.Held r.Txn, s.Told⟩ := ⟨h0, g.cells, g.hsort.sublist List.filter_sublist, g.tsort, fun k hk => g.times k (AU9.1 hk).1⟩
  unfold applyS at h ⊢
  by_cases h4 : r.Kind = 4
  · rw [if_pos h4] at h ⊢
    have := of_decide_eq_true h
    exact ⟨by dsimp only; omega, g.cells, g.hsort, g.tsort, g.times⟩
  · rw [if_neg h4] at h ⊢
    by_cases hT : hasT s.Told r.Txn = true
    · rw [if_pos hT] at h; cases h
    · rw [if_neg hT] at h ⊢
      rw [Bool.not_eq_true] at hT
      have htn := hasT_not.1 hT
      have htl : (insT ⟨r.Txn, r.Yes, r.Time⟩ s.Told).Pairwise fun a b => a.Txn < b.Txn := AU8 g.tsort htn
      by_cases h1 : r.Kind = 1
      · rw [if_pos h1] at h ⊢
        simp only [Bool.and_eq_true, Bool.not_eq_true', decide_eq_true_eq] at h
        refine ⟨by dsimp only; omega, g.cells, AU7 g.hsort (hasH_not.1 h.1.1), g.tsort, fun k hk => ?_⟩
        rcases AM5.1 hk with rfl | hk
        · show 1 ≤ r.Time; omega
        · exact g.times k hk
      · rw [if_neg h1] at h ⊢
        by_cases hy : r.Yes = true
        · rw [if_pos hy] at h ⊢
          cases hf : findH s.Held r.Txn with
          | none => rw [hf] at h; cases h
          | some k =>
            rw [hf] at h
            dsimp only at h ⊢
            by_cases hlt : r.Time < k.Time
            · rw [if_pos hlt] at h; cases h
            · rw [if_neg hlt] at h ⊢
              by_cases hp : (putP s.Cells k.Writes r.Time).2 = true
              · rw [if_pos hp]
                exact ⟨by unfold doneS; dsimp only; split <;> omega, Ag7 g.cells (Ag4 hp).1, hless.hsort, htl, hless.times⟩
              · rw [if_neg hp] at h; cases h
        · rw [if_neg hy]
          exact ⟨h0, g.cells, hless.hsort, htl, hless.times⟩
theorem so_step {s : TState} (g : SO s) (r : TRec) : SO (stepS s r) := by
  unfold stepS
  split
  · exact so_apply g ‹_›
  · exact g
theorem Ag8 : SO zState := gs_so gs_zero
theorem AS1 : ∀ {l : List TRec} {s : TState}, SO s → SO (stFrom s l)
  | [], s, g => g
  | r :: l, s, g => by
    show SO (stFrom (stepS s r) l)
    exact AS1 (so_step g r)
theorem w7 {l : List THeld} {i : Nat} {h : THeld} {n : Int} (hx : l[i]? = some h) : lessH (l.take (i + 1)) n = if (h.Txn != n) = true then lessH (l.take i) n ++ [h] else lessH (l.take i) n := by
  unfold lessH
  rw [List.take_add_one, hx, List.filter_append]
  show _ ++ List.filter _ [h] = _
  split
  · rename_i e; rw [List.filter_cons_of_pos (p := fun h : THeld => h.Txn != n) e]; rfl
  · rename_i e; rw [List.filter_cons_of_neg (p := fun h : THeld => h.Txn != n) e]; simp
end Go.M
namespace Go.Proofs.YtnlhbdkcgaeimaaGreat
open Go Go.AV Go.M
attribute [local irreducible] OpW OpA OpS AWP FSpec ESpec GSpec OpE RetOk RetOkG RvDen Le Ev GuardIs SrcIs Int.tmod Int.tdiv IntKind.wrap
theorem Ak0 (s : TState) (rs : List Str) (ws : List TWrite) (hs : s.size ≤ 400000) (hw : sizeL TWrite.size ws ≤ 400000) : FSpec Tryz.prog 126 [AV.agg s.cs, strs rs, AV.list 3 (ws.map TWrite.cs)] (AV.bool (fits s rs ws)) := by
 obtain ⟨hs1, hs2, hs3, hs4, hs5⟩ := T6 hs
 have hrm : room s.Cells (ws ++ hWs s.Held) = room s.Cells (hWs s.Held ++ ws) := Am4 fun w => by rw [List.mem_append, List.mem_append, or_comm]
 refine D9 Tryz.func126 rfl Tryz.ntmps126 rfl ?_
 refine A3 (A2 ?_)
 refine J6 rfl rfl rfl rfl (A0 rfl) ?_
 intro b3
 refine A1 rfl rfl rfl (B8 rfl F0) ?_
 refine A5 (A3 (A3 (A2 ?_)))
 refine A1 rfl rfl rfl (B6 2 rfl D4 rfl I1 (A0 rfl) rfl) ?_
 refine A1 rfl rfl rfl (B4 0 rfl (A0 rfl) rfl M0 rfl) ?_
 refine A1 rfl rfl rfl (H3 rfl E5 (A0 rfl)) ?_
 refine A1 rfl rfl rfl (C4 rfl B5) ?_
 refine A5 (D7 ?_)
 refine J0 [(1, _), (2, _), (3, _), (10, _), (11, _)] _ (fun (i : Nat) => i ≤ s.Held.length ∧ (s.Held.all fun h => apart h rs ws) = ((s.Held.drop i).all fun h => apart h rs ws)) (fun (i : Nat) => []) (fun (i : Nat) => [(12, AV.int i)]) (fun (i : Nat) => s.Held.length - i) (0) ?_ (J1 ⟨rfl, rfl, rfl, rfl, rfl, rfl, trivial⟩) ?_
 ·exact ⟨Nat.zero_le _, rfl⟩
 intro i hinv
 refine A3 (A2 ?_)
 refine A1 rfl rfl rfl (J8 rfl (A0 rfl) (A0 rfl)) ?_
 refine A5 (A3 ?_)
 refine C8 (A0 rfl) ?_ ?_
 ·intro h13
  have k13 := of_decide_eq_true h13; try simp only [A6] at k13
  have hlt : i < s.Held.length := by omega
  obtain ⟨h, hx⟩ := get_some hlt
  refine D1 (A3 (D7 (A3 (A2 ?_))))
  refine A1 rfl rfl rfl (J4 rfl E5 E1 (A0 rfl) (A0 rfl) hx (by first | omega | (simp only [A6, B0, B7, C1, B3, szR] at *; omega))) ?_
  refine A1 rfl rfl rfl (M7 rfl (A0 rfl) J3 E1) ?_
  refine F3 rfl rfl rfl rfl Tryz.zeroValue45 rfl ?_
  intro b8
  refine D5 0 rfl rfl rfl (A0 rfl) (A0 rfl) (E8 _) rfl E1 rfl ?_
  refine A5 (A3 (A2 ?_))
  refine A1 rfl rfl rfl (E4 0 rfl (A0 rfl) rfl J3 E1 rfl) ?_
  refine A4 rfl rfl rfl rfl rfl ?_
  refine A4 rfl rfl rfl rfl rfl ?_
  refine A1 rfl rfl rfl (D6 rfl Tryz.call222 rfl (apart_spec _ _ _) (A7 (A0 rfl) (A7 (A0 rfl) (A7 (A0 rfl) C0)))) ?_
  refine A1 rfl rfl rfl (I4 rfl (A0 rfl)) ?_
  refine A5 ?_
  refine C8 (A0 rfl) ?_ ?_
  ·intro h20
   have hfin : fits s rs ws = false := by (unfold fits; rw [hinv.2, drop_some hx, List.all_cons, show apart h rs ws = false by simpa using h20]; rfl)
   refine A3 (A2 ?_)
   refine A1 rfl rfl rfl (B8 rfl F0) ?_
   refine A5 ?_
   refine C6 ?_
   exact H1 rfl (C3 rfl (by first | exact congrArg AV.bool hfin.symm | exact congrArg AV.bool (by unfold fits; rw [hap, hrm, Bool.true_and, A6]; congr 1; rw [decide_eq_decide]; omega)))
  ·intro h20
   refine D1 (A2 ?_)
   refine A1 rfl rfl rfl (G5 rfl (A0 rfl) B5 (by first | omega | (simp only [A6, B0, B7, C1, B3, szR] at *; omega))) ?_
   refine A4 rfl rfl rfl rfl rfl ?_
   refine A5 ?_
   refine L2 i (i + 1) ?_ ?_ (T3 1 ⟨rfl, rfl, rfl, rfl, rfl, rfl, trivial⟩)
   ·exact ⟨by omega, by rw [hinv.2, drop_some hx, List.all_cons, show apart h rs ws = true by simpa using h20]; rfl⟩
   ·omega
 ·intro h13
  have k13 := of_decide_eq_false h13; try simp only [A6] at k13
  have hge : s.Held.length ≤ i := by omega
  have hap : (s.Held.all fun h => apart h rs ws) = true := by (rw [hinv.2, List.drop_eq_nil_of_le hge]; rfl)
  refine H4 ?_
  refine A3 (A2 ?_)
  refine A1 rfl rfl rfl (B6 2 rfl D4 rfl I1 (A0 rfl) rfl) ?_
  refine A1 rfl rfl rfl (B4 0 rfl (A0 rfl) rfl M0 rfl) ?_
  refine A1 rfl rfl rfl (H3 rfl E5 (A0 rfl)) ?_
  refine A1 rfl rfl rfl (J8 rfl (A0 rfl) B5) ?_
  refine A4 rfl rfl rfl rfl rfl ?_
  refine A9 rfl rfl (B1 rfl rfl rfl) (fun hc => E4 0 rfl (A0 rfl) rfl F1 D3 rfl) ?_
  refine A9 rfl rfl (B1 rfl rfl rfl) (fun hc => C4 rfl (A0 rfl)) ?_
  refine A9 rfl rfl (B1 rfl rfl rfl) (fun hc => D6 rfl Tryz.call223 rfl (AQ0 _ _ (by first | assumption | omega) (by first | assumption | omega)) (A7 (A8 rfl hc) (A7 (A8 rfl hc) C0))) ?_
  refine A1 rfl rfl rfl (G1 rfl (A0 rfl) (E3 rfl)) ?_
  refine B2 rfl rfl rfl rfl rfl ?_
  refine A5 ?_
  refine C6 ?_
  exact H1 rfl (C3 rfl (by first | exact congrArg AV.bool hfin.symm | exact congrArg AV.bool (by unfold fits; rw [hap, hrm, Bool.true_and, A6]; congr 1; rw [decide_eq_decide]; omega)))
theorem Ae2 (h : THeld) (hs : h.size ≤ 1048576) : GSpec Tryz.prog 106 [AV.agg h.cs] [] (fun _ : Value × Value => True) (fun x => THeld.ow h x) (fun x => AV.agg (THeld.ocs h x)) := by
 have h3 := P5 (f := fun x : Str => x.length) (l := h.Reads)
 have h4 := P5 (f := TWrite.size) (l := h.Writes)
 have h5 : h.size = sizeL (fun x => x.length) h.Reads + sizeL TWrite.size h.Writes := rfl
 refine I2 Tryz.func106 rfl Tryz.ntmps106 rfl ?_
 refine A3 (A2 ?_)
 refine J6 rfl rfl rfl rfl (A0 rfl) ?_
 intro b1
 refine F3 rfl rfl rfl rfl Tryz.zeroValue45 rfl ?_
 intro b2
 refine A5 (A3 (A2 ?_))
 refine A1 rfl rfl rfl (B6 3 rfl E9 rfl L9 (A0 rfl) rfl) ?_
 refine A1 rfl rfl rfl (B4 1 rfl (A0 rfl) rfl P6 rfl) ?_
 refine G0 [] rfl rfl rfl rfl Tryz.call169 rfl (r5 h.Reads (by omega)) (A7 (A0 rfl) C0) rfl ?_
 intro x5 ok5
 refine A1 rfl rfl rfl (B6 3 rfl E9 rfl L9 (A0 rfl) rfl) ?_
 refine W4 0 rfl fun one_x5 => ?_
 refine L0 2 rfl rfl rfl (A0 rfl) (A0 rfl) (V5 one_x5) rfl L9 rfl ?_
 refine A5 (A3 (A2 ?_))
 refine U4 rfl rfl rfl rfl G4 H9 ?_
 intro v7
 refine A1 rfl rfl rfl (B6 4 rfl E9 rfl J7 (A0 rfl) rfl) ?_
 refine A1 rfl rfl rfl (B4 3 rfl (A0 rfl) rfl L3 rfl) ?_
 refine M9 (by' := 40) 0 rfl rfl rfl rfl G4 Tryz.type77 rfl rfl rfl rfl rfl rfl (A0 rfl) (A0 rfl) rfl (by simp only [C1, A6]; omega) ?_
 intro v10_1
 refine A1 rfl rfl rfl (B6 4 rfl E9 rfl J7 (A0 rfl) rfl) ?_
 refine W4 0 rfl fun one_v10_1 => ?_
 refine L0 3 rfl rfl rfl (A0 rfl) (A0 rfl) (V5 one_v10_1) rfl J7 rfl ?_
 refine A5 (A3 (A2 ?_))
 refine A1 rfl rfl rfl (E4 3 rfl (A0 rfl) rfl J3 E1 rfl) ?_
 refine D5 2 rfl rfl rfl (A0 rfl) (A0 rfl) (E8 _) rfl E1 rfl ?_
 refine A5 ?_
 refine C6 ?_
 exact M8 [1, 0] (x5, v10_1) (trivial) rfl (by rfl) (Q4 rfl (K3 (ys := _) 2 rfl rfl J3 E1 rfl))
theorem t2 (h : THeld) (hs : h.size ≤ 1048576) : FSpec Tryz.prog 106 [AV.agg h.cs] (AV.agg h.cs) :=
  Y5 (Ae2 h hs) fun x _ => i3 (THeld.lc h x)
theorem Ae3 (l : List TCell) (hs : sizeL TCell.size l ≤ 4194304) : FSpec Tryz.prog 208 [AV.list 2 (l.map TCell.cs)] (AV.list 2 (l.map TCell.cs)) :=
  Y5 (AV6 l hs) fun x h => AC4 TCell.lcM h 0 rfl fun o ho => List.mem_cons_of_mem _ ho
theorem Ab6 (l : List THeld) (n : Int) (hl : l.length ≤ 1048576) : GSpec Tryz.prog 206 [AV.list 5 (l.map THeld.cs), AV.int n] [] (fun _ : Value => True) (fun v => [.arr v 45 5 ((lessH l n).map THeld.cs)]) (fun v => AV.is v) := by
 refine I2 Tryz.func206 rfl Tryz.ntmps206 rfl ?_
 refine A3 (A2 ?_)
 refine A1 rfl rfl rfl (B8 rfl Q7) ?_
 refine A5 (A3 (A2 ?_))
 refine a7 45 5 rfl rfl rfl rfl Q7 ?_
 intro v5
 refine A5 (A3 (A3 (A2 ?_)))
 refine A4 rfl rfl rfl rfl rfl ?_
 refine A1 rfl rfl rfl (H3 rfl E5 (A0 rfl)) ?_
 refine A1 rfl rfl rfl (C4 rfl B5) ?_
 refine A5 (D7 ?_)
 refine U3 [(1, _), (4, _), (8, _), (9, _)] _ (fun (i : Nat) (v : Value) (q : List THeld) => i ≤ l.length ∧ q = lessH (l.take i) n ∧ q.length ≤ i) (fun (i : Nat) (v : Value) (q : List THeld) => [.arr v 45 5 (q.map THeld.cs)]) (fun (i : Nat) (v : Value) (q : List THeld) => [(5, AV.is v), (10, AV.int i)]) (fun (i : Nat) (v : Value) (q : List THeld) => l.length - i) (0) (v5) ([]) ?_ (S7 (by rfl) ⟨rfl, rfl, rfl, rfl, rfl, rfl, trivial⟩) ?_
 ·exact ⟨Nat.zero_le _, rfl, Nat.le_refl _⟩
 intro i v q hinv
 refine A3 (A2 ?_)
 refine A1 rfl rfl rfl (J8 rfl (A0 rfl) (A0 rfl)) ?_
 refine A5 (A3 ?_)
 refine C8 (A0 rfl) ?_ ?_
 ·intro h11
  have k11 := of_decide_eq_true h11; try simp only [A6] at k11
  have hlt : i < l.length := by omega
  obtain ⟨h, hx⟩ := get_some hlt
  refine D1 (A3 (D7 (A3 (A2 ?_))))
  refine A1 rfl rfl rfl (J4 rfl E5 E1 (A0 rfl) (A0 rfl) hx (by first | omega | (simp only [A6, B0, B7, C1, B3, szR] at *; omega))) ?_
  refine A1 rfl rfl rfl (M7 rfl (A0 rfl) J3 E1) ?_
  refine F3 rfl rfl rfl rfl Tryz.zeroValue45 rfl ?_
  intro b7
  refine D5 0 rfl rfl rfl (A0 rfl) (A0 rfl) (E8 _) rfl E1 rfl ?_
  refine A5 (A3 (A2 ?_))
  refine A1 rfl rfl rfl (B6 0 rfl E9 rfl B9 (A0 rfl) rfl) ?_
  refine A1 rfl rfl rfl (B4 0 rfl (A0 rfl) rfl C7 rfl) ?_
  refine A4 rfl rfl rfl rfl rfl ?_
  refine A1 rfl rfl rfl (AI2 rfl (A0 rfl) (A0 rfl)) ?_
  refine A5 ?_
  refine C8 (A0 rfl) ?_ ?_
  ·intro h17
   have k17 := Ak6 h17; try simp only [A6] at k17
   refine A2 ?_
   refine A4 rfl rfl rfl rfl rfl ?_
   refine A1 rfl rfl rfl (E4 0 rfl (A0 rfl) rfl J3 E1 rfl) ?_
   refine A1 rfl rfl rfl (M3 rfl E5 E1 Tryz.zeroValue45 rfl rfl rfl rfl (E7 (A0 rfl) (E8 _) I6) rfl rfl) ?_
   refine M9 (by' := 72) 1 rfl rfl rfl rfl E5 Tryz.type45 rfl rfl rfl rfl rfl rfl (A0 rfl) (A0 rfl) rfl (by first | omega | (simp only [A6, B0, B7, C1, B3, szR] at *; omega)) ?_
   intro v21_1
   refine B2 rfl rfl rfl rfl rfl ?_
   refine A5 (A2 ?_)
   refine A1 rfl rfl rfl (G5 rfl (A0 rfl) B5 (by first | omega | (simp only [A6, B0, B7, C1, B3, szR] at *; omega))) ?_
   refine A4 rfl rfl rfl rfl rfl ?_
   refine A5 ?_
   refine T2 i v q (i + 1) (v21_1) (q ++ [h]) ?_ ?_ (Le.trans (K1 [0, 0] rfl) (N0 1 (by first | rfl | (rw [List.map_append]; rfl)) ⟨rfl, rfl, rfl, rfl, rfl, rfl, trivial⟩))
   ·first | exact ⟨by omega, by rw [w7 hx, if_pos h17, hinv.2.1], by rw [J9]; simp; omega⟩ | exact ⟨by omega, by rw [w7 hx, if_neg (by rw [h17]; decide), hinv.2.1], by omega⟩
   ·omega
  ·intro h17
   have k17 := AO0 h17; try simp only [A6] at k17
   refine D1 (A2 ?_)
   refine A1 rfl rfl rfl (G5 rfl (A0 rfl) B5 (by first | omega | (simp only [A6, B0, B7, C1, B3, szR] at *; omega))) ?_
   refine A4 rfl rfl rfl rfl rfl ?_
   refine A5 ?_
   refine T2 i v q (i + 1) (v) (q) ?_ ?_ (Le.trans (K1 [0, 0] rfl) (N0 1 (by first | rfl | (rw [List.map_append]; rfl)) ⟨rfl, rfl, rfl, rfl, rfl, rfl, trivial⟩))
   ·first | exact ⟨by omega, by rw [w7 hx, if_pos h17, hinv.2.1], by rw [J9]; simp; omega⟩ | exact ⟨by omega, by rw [w7 hx, if_neg (by rw [h17]; decide), hinv.2.1], by omega⟩
   ·omega
 ·intro h11
  have k11 := of_decide_eq_false h11; try simp only [A6] at k11
  have hge : l.length ≤ i := by omega
  have hq := hinv.2.1
  rw [List.take_of_length_le hge] at hq
  rw [← hq]
  refine H4 ?_
  refine A3 (A2 ?_)
  refine A4 rfl rfl rfl rfl rfl ?_
  refine B2 rfl rfl rfl rfl rfl ?_
  refine A5 ?_
  refine C6 ?_
  exact M8 [0] v (trivial) rfl (by rfl) (Q4 rfl (C3 rfl (by rfl)))
theorem put_csH (l : List THeld) (k : Nat) (x : THeld) : (l.take k ++ x :: l.drop k).map THeld.cs = [] ++ (l.take (k : Int).toNat).map THeld.cs ++ [x.cs] ++ ([] ++ (l.drop (k : Int).toNat).map THeld.cs) := by simp
theorem Ae4 (l : List THeld) (h : THeld) (hs : l.Pairwise fun a b => a.Txn < b.Txn) (hl : l.length ≤ 1048576) : GSpec Tryz.prog 204 [AV.list 5 (l.map THeld.cs), AV.agg h.cs] [] (fun _ : Value => True) (fun v => [.arr v 45 5 ((insH h l).map THeld.cs)]) (fun v => AV.is v) := by
 refine I2 Tryz.func204 rfl Tryz.ntmps204 rfl ?_
 refine A3 (A2 ?_)
 refine J6 rfl rfl rfl rfl (A0 rfl) ?_
 intro b3
 refine A1 rfl rfl rfl (B8 rfl Q7) ?_
 refine A5 (A3 (A2 ?_))
 refine A4 rfl rfl rfl rfl rfl ?_
 refine A1 rfl rfl rfl (H3 rfl E5 (A0 rfl)) ?_
 refine B2 rfl rfl rfl rfl rfl ?_
 refine A5 (A3 (D7 ?_))
 refine J0 [(0, _), (3, _), (4, _)] _ (fun (k : Nat) => k ≤ l.length ∧ ∀ i y, k ≤ i → l[i]? = some y → h.Txn < y.Txn) (fun (k : Nat) => []) (fun (k : Nat) => [(5, AV.int k)]) (fun (k : Nat) => k) (l.length) ?_ (J1 ⟨congrArg (fun z => some (AV.int z)) (by rw [A6]), rfl, rfl, rfl, trivial⟩) ?_
 ·exact ⟨Nat.le_refl _, fun i y h1 h2 => by (have := (List.getElem?_eq_some_iff.1 h2).1; omega)⟩
 intro k hinv
 obtain ⟨y, hy0⟩ : ∃ y : THeld, 0 < k → l[k - 1]? = some y := by (by_cases h9 : 0 < k; (have h8 := hinv.1; exact ⟨_, fun _ => List.getElem?_eq_getElem (show k - 1 < l.length by omega)⟩); exact ⟨h, fun h8 => absurd h8 h9⟩)
 have hk1 : 0 < k → ((k : Int) - 1).toNat = k - 1 := fun _ => by omega
 refine A3 (A3 ?_)
 refine K0 (by kernel_rfl) (by kernel_rfl) rfl ?_
 refine C2 rfl rfl (C4 rfl (A0 rfl)) ?_
 refine C2 rfl rfl (O5 rfl (A0 rfl) B5) ?_
 refine C2 rfl rfl (C4 rfl (A0 rfl)) ?_
 refine D8 rfl (B1 rfl rfl rfl) (fun hc => C4 rfl (A0 rfl)) ?_
 refine D8 rfl (B1 rfl rfl rfl) (fun hc => C4 rfl (A0 rfl)) ?_
 refine D8 rfl (B1 rfl rfl rfl) (fun hc => N1 rfl (A8 rfl hc) B5 (by first | omega | ((try simp only [A6, B0, B7, C1, B3, szR] at *); omega) | (have hc2 := hc; simp only [Bool.and_eq_true, Bool.or_eq_true, Bool.or_eq_false_iff, Bool.and_eq_false_iff, Bool.not_eq_true', Bool.not_eq_false', decide_eq_true_eq, decide_eq_false_iff_not, beq_iff_eq, bne_iff_ne, A6, B0] at hc2; omega))) ?_
 refine D8 rfl (B1 rfl rfl rfl) (fun hc => q6 rfl E5 E1 (A8 rfl hc) (A8 rfl hc) (by have := of_decide_eq_true hc; have := hinv.1; omega) (by have h9 := of_decide_eq_true hc; rw [hk1 (by omega), List.getElem?_map, hy0 (by omega)]; rfl)) ?_
 refine D8 rfl (B1 rfl rfl rfl) (fun hc => U2 rfl E9 rfl B9 (A8 rfl hc) rfl) ?_
 refine D8 rfl (B1 rfl rfl rfl) (fun hc => L6 rfl (A8 rfl hc) C7 rfl) ?_
 refine D8 rfl (B1 rfl rfl rfl) (fun hc => B6 0 rfl E9 rfl B9 (A0 rfl) rfl) ?_
 refine D8 rfl (B1 rfl rfl rfl) (fun hc => B4 0 rfl (A8 rfl hc) rfl C7 rfl) ?_
 refine D8 rfl (B1 rfl rfl rfl) (fun hc => O5 rfl (A8 rfl hc) (A8 rfl hc)) ?_
 refine C2 rfl rfl (G1 rfl (A0 rfl) (E3 rfl)) ?_
 refine Q9 ?_
 refine C8 (A0 rfl) ?_ ?_
 ·intro h21
  have hkt : 0 < k ∧ h.Txn < y.Txn := by simpa using h21
  refine D1 (D7 (A2 ?_))
  refine A4 rfl rfl rfl rfl rfl ?_
  refine A1 rfl rfl rfl (N1 rfl (A0 rfl) B5 (by first | omega | (simp only [A6, B0, B7, C1, B3, szR] at *; omega))) ?_
  refine B2 rfl rfl rfl rfl rfl ?_
  refine A5 ?_
  refine g8 ?_
  refine L2 k (k - 1) ?_ ?_ (J1 ⟨congrArg (fun z => some (AV.int z)) (by omega), rfl, rfl, rfl, trivial⟩)
  ·exact ⟨by omega, fun i z hi hz => if e : k ≤ i then hinv.2 i z e hz else (by have e2 : i = k - 1 := (by omega); subst e2; rw [hy0 hkt.1] at hz; injection hz with hz; subst hz; exact hkt.2)⟩
  ·omega
 ·intro h21
  have hng : 0 < k → ¬ h.Txn < y.Txn := fun h9 => by simpa [h9] using h21
  have hput : insH h l = l.take k ++ h :: l.drop k := AV7 hinv.1 (fun i x hi hx => by have h7 := hy0 (by omega); have h8 := hng (by omega); rcases Nat.lt_or_ge i (k - 1) with h6 | h6; (have := AI7 (f := THeld.Txn) hs h6 hx h7; omega); (have : i = k - 1 := (by omega); subst this; rw [hx] at h7; injection h7 with h7; subst h7; omega)) (fun x hx => hinv.2 k x (Nat.le_refl _) hx)
  rw [hput]
  refine H4 ?_
  refine A3 (A2 ?_)
  refine U4 rfl rfl rfl rfl E5 E1 ?_
  intro v24
  refine A4 rfl rfl rfl rfl rfl ?_
  refine A4 rfl rfl rfl rfl rfl ?_
  refine A1 rfl rfl rfl (AS7 rfl E5 E1 (A0 rfl) (A0 rfl) (by omega) (by first | omega | (simp only [A6]; omega))) ?_
  refine M9 (by' := 72) 0 rfl rfl rfl rfl E5 Tryz.type45 rfl rfl rfl rfl rfl rfl (A0 rfl) (A0 rfl) rfl (by simp only [C1, A6, List.length_drop]; omega) ?_
  intro v28_1
  refine B2 rfl rfl rfl rfl rfl ?_
  refine A5 (A3 ?_)
  refine AWP.le (X7 [0] 6 rfl rfl (N2 (G6 (i := 0) rfl) I9) S8) ?_
  refine W5 _ [(1, false), (2, false), (3, false), (5, false), (6, false), (8, false), (0, true), (4, true), (7, true), (9, true)] (by kernel_rfl) (by kernel_rfl) rfl AF5 ?_
  refine I7 rfl rfl rfl (fun ext => C4 rfl (A0 rfl)) ?_
  refine I7 rfl rfl rfl (fun ext => C4 rfl (A0 rfl)) ?_
  refine I7 rfl rfl rfl (fun ext => u6 rfl E5 E1 (A0 rfl) (A0 rfl) (by omega) (by first | omega | (simp only [A6]; omega))) ?_
  refine I7 rfl rfl rfl (fun ext => E4 0 rfl (A0 rfl) rfl J3 E1 rfl) ?_
  refine I7 rfl rfl rfl (fun ext => M3 rfl E5 E1 Tryz.zeroValue45 rfl rfl rfl rfl (E7 (A0 rfl) (E8 _) I6) rfl rfl) ?_
  refine I7 rfl rfl rfl (fun ext => C4 rfl (A0 rfl)) ?_
  refine V9 rfl rfl rfl (c3 rfl E5 E1) (fun a _ => (by first | exact G7 rfl | exact G7 (List.append_assoc _ _ _) | exact K9)) ?_
  intro v29 _
  refine V9 rfl rfl rfl (Q6 (by' := 72) 1 rfl E5 Tryz.type45 rfl rfl rfl rfl rfl rfl (A0 rfl) (A0 rfl) rfl (by simp only [C1, List.nil_append, J9, B0, List.length_drop, B7, A6, B3]; omega)) (fun a _ => (by first | exact G7 rfl | exact G7 (List.append_assoc _ _ _) | exact K9)) ?_
  intro v33_2 _
  refine V9 rfl rfl rfl (Q6 (by' := 72) 1 rfl E5 Tryz.type45 rfl rfl rfl rfl rfl rfl (A0 rfl) (A0 rfl) rfl (by simp only [C1, List.nil_append, J9, B0, List.length_drop, B7, A6, B3]; omega)) (fun a _ => (by first | exact G7 rfl | exact G7 (List.append_assoc _ _ _) | exact K9)) ?_
  intro v36_3 _
  refine V9 rfl rfl rfl (Q6 (by' := 72) 1 rfl E5 Tryz.type45 rfl rfl rfl rfl rfl rfl (A0 rfl) (A0 rfl) rfl (by simp only [C1, List.nil_append, J9, B0, List.length_drop, B7, A6, B3]; omega)) (fun a _ => (by first | exact G7 rfl | exact G7 (List.append_assoc _ _ _) | exact K9)) ?_
  intro v38_4 _
  refine s7 ?_
  refine B2 rfl rfl rfl rfl rfl ?_
  refine A5 ?_
  refine C6 ?_
  exact M8 [1] v38_4 (trivial) rfl (by first | rfl | exact congrArg (fun z => [Own.arr _ 45 5 z]) (put_csH _ _ _)) (Q4 rfl (C3 rfl (by rfl)))
theorem put_csT (l : List TTold) (k : Nat) (x : TTold) : (l.take k ++ x :: l.drop k).map TTold.cs = [] ++ (l.take (k : Int).toNat).map TTold.cs ++ [x.cs] ++ ([] ++ (l.drop (k : Int).toNat).map TTold.cs) := by simp
theorem AK8 (l : List TTold) (h : TTold) (hs : l.Pairwise fun a b => a.Txn < b.Txn) (hl : l.length ≤ 1048576) : GSpec Tryz.prog 207 [AV.list 3 (l.map TTold.cs), AV.agg h.cs] [] (fun _ : Value => True) (fun v => [.arr v 39 3 ((insT h l).map TTold.cs)]) (fun v => AV.is v) := by
 refine I2 Tryz.func207 rfl Tryz.ntmps207 rfl ?_
 refine A3 (A2 ?_)
 refine J6 rfl rfl rfl rfl (A0 rfl) ?_
 intro b3
 refine A1 rfl rfl rfl (B8 rfl Q7) ?_
 refine A5 (A3 (A2 ?_))
 refine A4 rfl rfl rfl rfl rfl ?_
 refine A1 rfl rfl rfl (H3 rfl H8 (A0 rfl)) ?_
 refine B2 rfl rfl rfl rfl rfl ?_
 refine A5 (A3 (D7 ?_))
 refine J0 [(0, _), (3, _), (4, _)] _ (fun (k : Nat) => k ≤ l.length ∧ ∀ i y, k ≤ i → l[i]? = some y → h.Txn < y.Txn) (fun (k : Nat) => []) (fun (k : Nat) => [(5, AV.int k)]) (fun (k : Nat) => k) (l.length) ?_ (J1 ⟨congrArg (fun z => some (AV.int z)) (by rw [A6]), rfl, rfl, rfl, trivial⟩) ?_
 ·exact ⟨Nat.le_refl _, fun i y h1 h2 => by (have := (List.getElem?_eq_some_iff.1 h2).1; omega)⟩
 intro k hinv
 obtain ⟨y, hy0⟩ : ∃ y : TTold, 0 < k → l[k - 1]? = some y := by (by_cases h9 : 0 < k; (have h8 := hinv.1; exact ⟨_, fun _ => List.getElem?_eq_getElem (show k - 1 < l.length by omega)⟩); exact ⟨h, fun h8 => absurd h8 h9⟩)
 have hk1 : 0 < k → ((k : Int) - 1).toNat = k - 1 := fun _ => by omega
 refine A3 (A3 ?_)
 refine K0 (by kernel_rfl) (by kernel_rfl) rfl ?_
 refine C2 rfl rfl (C4 rfl (A0 rfl)) ?_
 refine C2 rfl rfl (O5 rfl (A0 rfl) B5) ?_
 refine C2 rfl rfl (C4 rfl (A0 rfl)) ?_
 refine D8 rfl (B1 rfl rfl rfl) (fun hc => C4 rfl (A0 rfl)) ?_
 refine D8 rfl (B1 rfl rfl rfl) (fun hc => C4 rfl (A0 rfl)) ?_
 refine D8 rfl (B1 rfl rfl rfl) (fun hc => N1 rfl (A8 rfl hc) B5 (by first | omega | ((try simp only [A6, B0, B7, C1, B3, szR] at *); omega) | (have hc2 := hc; simp only [Bool.and_eq_true, Bool.or_eq_true, Bool.or_eq_false_iff, Bool.and_eq_false_iff, Bool.not_eq_true', Bool.not_eq_false', decide_eq_true_eq, decide_eq_false_iff_not, beq_iff_eq, bne_iff_ne, A6, B0] at hc2; omega))) ?_
 refine D8 rfl (B1 rfl rfl rfl) (fun hc => q6 rfl H8 K6 (A8 rfl hc) (A8 rfl hc) (by have := of_decide_eq_true hc; have := hinv.1; omega) (by have h9 := of_decide_eq_true hc; rw [hk1 (by omega), List.getElem?_map, hy0 (by omega)]; rfl)) ?_
 refine D8 rfl (B1 rfl rfl rfl) (fun hc => U2 rfl K4 rfl B9 (A8 rfl hc) rfl) ?_
 refine D8 rfl (B1 rfl rfl rfl) (fun hc => L6 rfl (A8 rfl hc) C7 rfl) ?_
 refine D8 rfl (B1 rfl rfl rfl) (fun hc => B6 0 rfl K4 rfl B9 (A0 rfl) rfl) ?_
 refine D8 rfl (B1 rfl rfl rfl) (fun hc => B4 0 rfl (A8 rfl hc) rfl C7 rfl) ?_
 refine D8 rfl (B1 rfl rfl rfl) (fun hc => O5 rfl (A8 rfl hc) (A8 rfl hc)) ?_
 refine C2 rfl rfl (G1 rfl (A0 rfl) (E3 rfl)) ?_
 refine Q9 ?_
 refine C8 (A0 rfl) ?_ ?_
 ·intro h21
  have hkt : 0 < k ∧ h.Txn < y.Txn := by simpa using h21
  refine D1 (D7 (A2 ?_))
  refine A4 rfl rfl rfl rfl rfl ?_
  refine A1 rfl rfl rfl (N1 rfl (A0 rfl) B5 (by first | omega | (simp only [A6, B0, B7, C1, B3, szR] at *; omega))) ?_
  refine B2 rfl rfl rfl rfl rfl ?_
  refine A5 ?_
  refine g8 ?_
  refine L2 k (k - 1) ?_ ?_ (J1 ⟨congrArg (fun z => some (AV.int z)) (by omega), rfl, rfl, rfl, trivial⟩)
  ·exact ⟨by omega, fun i z hi hz => if e : k ≤ i then hinv.2 i z e hz else (by have e2 : i = k - 1 := (by omega); subst e2; rw [hy0 hkt.1] at hz; injection hz with hz; subst hz; exact hkt.2)⟩
  ·omega
 ·intro h21
  have hng : 0 < k → ¬ h.Txn < y.Txn := fun h9 => by simpa [h9] using h21
  have hput : insT h l = l.take k ++ h :: l.drop k := AV8 hinv.1 (fun i x hi hx => by have h7 := hy0 (by omega); have h8 := hng (by omega); rcases Nat.lt_or_ge i (k - 1) with h6 | h6; (have := AI7 (f := TTold.Txn) hs h6 hx h7; omega); (have : i = k - 1 := (by omega); subst this; rw [hx] at h7; injection h7 with h7; subst h7; omega)) (fun x hx => hinv.2 k x (Nat.le_refl _) hx)
  rw [hput]
  refine H4 ?_
  refine A3 (A2 ?_)
  refine U4 rfl rfl rfl rfl H8 K6 ?_
  intro v24
  refine A4 rfl rfl rfl rfl rfl ?_
  refine A4 rfl rfl rfl rfl rfl ?_
  refine A1 rfl rfl rfl (AS7 rfl H8 K6 (A0 rfl) (A0 rfl) (by omega) (by first | omega | (simp only [A6]; omega))) ?_
  refine M9 (by' := 24) 0 rfl rfl rfl rfl H8 Tryz.type39 rfl rfl rfl rfl rfl rfl (A0 rfl) (A0 rfl) rfl (by simp only [C1, A6, List.length_drop]; omega) ?_
  intro v28_1
  refine B2 rfl rfl rfl rfl rfl ?_
  refine A5 (A3 ?_)
  refine AWP.le (X7 [0] 6 rfl rfl (N2 (G6 (i := 0) rfl) I9) S8) ?_
  refine W5 _ [(1, false), (2, false), (3, false), (5, false), (6, false), (8, false), (0, true), (4, true), (7, true), (9, true)] (by kernel_rfl) (by kernel_rfl) rfl AF5 ?_
  refine I7 rfl rfl rfl (fun ext => C4 rfl (A0 rfl)) ?_
  refine I7 rfl rfl rfl (fun ext => C4 rfl (A0 rfl)) ?_
  refine I7 rfl rfl rfl (fun ext => u6 rfl H8 K6 (A0 rfl) (A0 rfl) (by omega) (by first | omega | (simp only [A6]; omega))) ?_
  refine I7 rfl rfl rfl (fun ext => E4 0 rfl (A0 rfl) rfl Y4 K6 rfl) ?_
  refine I7 rfl rfl rfl (fun ext => M3 rfl H8 K6 Tryz.zeroValue39 rfl rfl rfl rfl (E7 (A0 rfl) (E8 _) I6) rfl rfl) ?_
  refine I7 rfl rfl rfl (fun ext => C4 rfl (A0 rfl)) ?_
  refine V9 rfl rfl rfl (c3 rfl H8 K6) (fun a _ => (by first | exact G7 rfl | exact G7 (List.append_assoc _ _ _) | exact K9)) ?_
  intro v29 _
  refine V9 rfl rfl rfl (Q6 (by' := 24) 1 rfl H8 Tryz.type39 rfl rfl rfl rfl rfl rfl (A0 rfl) (A0 rfl) rfl (by simp only [C1, List.nil_append, J9, B0, List.length_drop, B7, A6, B3]; omega)) (fun a _ => (by first | exact G7 rfl | exact G7 (List.append_assoc _ _ _) | exact K9)) ?_
  intro v33_2 _
  refine V9 rfl rfl rfl (Q6 (by' := 24) 1 rfl H8 Tryz.type39 rfl rfl rfl rfl rfl rfl (A0 rfl) (A0 rfl) rfl (by simp only [C1, List.nil_append, J9, B0, List.length_drop, B7, A6, B3]; omega)) (fun a _ => (by first | exact G7 rfl | exact G7 (List.append_assoc _ _ _) | exact K9)) ?_
  intro v36_3 _
  refine V9 rfl rfl rfl (Q6 (by' := 24) 1 rfl H8 Tryz.type39 rfl rfl rfl rfl rfl rfl (A0 rfl) (A0 rfl) rfl (by simp only [C1, List.nil_append, J9, B0, List.length_drop, B7, A6, B3]; omega)) (fun a _ => (by first | exact G7 rfl | exact G7 (List.append_assoc _ _ _) | exact K9)) ?_
  intro v38_4 _
  refine s7 ?_
  refine B2 rfl rfl rfl rfl rfl ?_
  refine A5 ?_
  refine C6 ?_
  exact M8 [1] v38_4 (trivial) rfl (by first | rfl | exact congrArg (fun z => [Own.arr _ 39 3 z]) (put_csT _ _ _)) (Q4 rfl (C3 rfl (by rfl)))
theorem Ae5 (l : List TCell) (w : List TWrite) (t : Int) (ho : CellsOk l) (hs : sizeL TCell.size l ≤ 1048576) (hw : sizeL TWrite.size w ≤ 1048576) (ht1 : 1 ≤ t) : FSpec Tryz.prog 205 [AV.list 2 (l.map TCell.cs), AV.list 3 (w.map TWrite.cs), AV.int t] (AV.tup [AV.list 2 ((putP l w t).1.map TCell.cs), AV.bool (putP l w t).2]) :=
  Y5 (An1 l w t ho hs hw ht1) fun x h => lt_tup (H2 (AC4 TCell.lcM h 0 rfl fun o ho => List.mem_cons_of_mem _ ho) (H2 L8 T9))
theorem Ab7 (l : List Str) (hl : l.length ≤ 4194304) : FSpec Tryz.prog 169 [strs l] (strs l) :=
  Y5 (r5 l hl) fun x _ => N2 (List.mem_singleton.2 rfl) I9
theorem Ab8 (a b : Int) : FSpec Tryz.prog 130 [AV.int a, AV.int b] (AV.int (if a < b then b else a)) := by
 refine D9 Tryz.func130 rfl Tryz.ntmps130 rfl ?_
 refine A3 (A2 ?_)
 refine A1 rfl rfl rfl (B8 rfl B5) ?_
 refine A5 (A3 (A3 (A2 ?_)))
 refine A4 rfl rfl rfl rfl rfl ?_
 refine A4 rfl rfl rfl rfl rfl ?_
 refine A1 rfl rfl rfl (O5 rfl (A0 rfl) (A0 rfl)) ?_
 refine A5 ?_
 refine C8 (A0 rfl) ?_ ?_
 ·intro h7
  have k7 := of_decide_eq_true h7; try simp only [A6] at k7
  have h9 := of_decide_eq_true h7
  refine A3 (A2 ?_)
  refine A4 rfl rfl rfl rfl rfl ?_
  refine B2 rfl rfl rfl rfl rfl ?_
  refine A5 ?_
  refine C6 ?_
  exact H1 rfl (C3 rfl (by exact congrArg AV.int (by split <;> omega)))
 ·intro h7
  have k7 := of_decide_eq_false h7; try simp only [A6] at k7
  have h9 := of_decide_eq_false h7
  refine D1 (A3 (A2 ?_))
  refine A4 rfl rfl rfl rfl rfl ?_
  refine B2 rfl rfl rfl rfl rfl ?_
  refine A5 ?_
  refine C6 ?_
  exact H1 rfl (C3 rfl (by exact congrArg AV.int (by split <;> omega)))
end Go.Proofs.YtnlhbdkcgaeimaaGreat

set_option linter.unusedVariables false
set_option linter.unusedSimpArgs false
set_option maxRecDepth 100000
set_option maxHeartbeats 1000000
namespace Go.M
open Go.AV
end Go.M
namespace Go.Proofs.YtnlhbdkcgaeimaaGreat
open Go Go.AV Go.M
attribute [local irreducible] OpW OpA OpS AWP FSpec ESpec GSpec OpE RetOk RetOkG RvDen Le Ev GuardIs SrcIs Int.tmod Int.tdiv IntKind.wrap
theorem Ae6 (s : TState) (k : Str) (t : Int) (hs : s.size ≤ 1048576) : GSpec Tryz.prog 121 [AV.agg s.cs, AV.str k, AV.int t] [] (fun _ : Value => True) (fun x => [.arr x 3 1 ((blocksOf s.Held k t).map fun n => [AV.int n])]) (fun x => AV.is x) := by
 obtain ⟨hs1, hs2, hs3, hs4, hs5⟩ := T6 hs
 refine I2 Tryz.func121 rfl Tryz.ntmps121 rfl ?_
 refine A3 (A2 ?_)
 refine J6 rfl rfl rfl rfl (A0 rfl) ?_
 intro b3
 refine A1 rfl rfl rfl (B8 rfl Q7) ?_
 refine A5 (A3 (A2 ?_))
 refine a7 3 1 rfl rfl rfl rfl Q7 ?_
 intro v7
 refine A5 (A3 (A3 (A2 ?_)))
 refine A1 rfl rfl rfl (B6 2 rfl D4 rfl I1 (A0 rfl) rfl) ?_
 refine A1 rfl rfl rfl (B4 1 rfl (A0 rfl) rfl M0 rfl) ?_
 refine A1 rfl rfl rfl (H3 rfl E5 (A0 rfl)) ?_
 refine A1 rfl rfl rfl (C4 rfl B5) ?_
 refine A5 (D7 ?_)
 refine U3 [(1, _), (2, _), (6, _), (11, _), (12, _)] _ (fun (i : Nat) (v : Value) (ns : List Int) => i ≤ s.Held.length ∧ ns = blocksOf (s.Held.take i) k t) (fun (i : Nat) (v : Value) (ns : List Int) => [.arr v 3 1 (ns.map fun n => [AV.int n])]) (fun (i : Nat) (v : Value) (ns : List Int) => [(7, AV.is v), (13, AV.int i)]) (fun (i : Nat) (v : Value) (ns : List Int) => s.Held.length - i) (0) (v7) ([]) ?_ (S7 (by rfl) ⟨rfl, rfl, rfl, rfl, rfl, rfl, rfl, trivial⟩) ?_
 ·exact ⟨Nat.zero_le _, rfl⟩
 intro i v ns hinv
 refine A3 (A2 ?_)
 refine A1 rfl rfl rfl (J8 rfl (A0 rfl) (A0 rfl)) ?_
 refine A5 (A3 ?_)
 refine C8 (A0 rfl) ?_ ?_
 ·intro h14
  have k14 := of_decide_eq_true h14; try simp only [A6] at k14
  have hlt : i < s.Held.length := by omega
  obtain ⟨h, hx⟩ := get_some hlt
  have hnl : ns.length ≤ 1048576 := by (rw [hinv.2]; have h9 := AP8 (s.Held.take i) k t; rw [B0] at h9; omega)
  refine D1 (A3 (D7 (A3 (A2 ?_))))
  refine A1 rfl rfl rfl (J4 rfl E5 E1 (A0 rfl) (A0 rfl) hx (by first | omega | (simp only [A6, B0, B7, C1, B3, szR] at *; omega))) ?_
  refine A1 rfl rfl rfl (M7 rfl (A0 rfl) J3 E1) ?_
  refine F3 rfl rfl rfl rfl Tryz.zeroValue45 rfl ?_
  intro b9
  refine D5 0 rfl rfl rfl (A0 rfl) (A0 rfl) (E8 _) rfl E1 rfl ?_
  refine A5 (A3 (A2 ?_))
  refine A1 rfl rfl rfl (B6 1 rfl E9 rfl B9 (A0 rfl) rfl) ?_
  refine A1 rfl rfl rfl (B4 0 rfl (A0 rfl) rfl C7 rfl) ?_
  refine A4 rfl rfl rfl rfl rfl ?_
  refine A1 rfl rfl rfl (S0 rfl (A0 rfl) (A0 rfl)) ?_
  refine A4 rfl rfl rfl rfl rfl ?_
  refine A9 rfl rfl (B1 rfl rfl rfl) (fun hc => B6 4 rfl E9 rfl J7 (A0 rfl) rfl) ?_
  refine A9 rfl rfl (B1 rfl rfl rfl) (fun hc => B4 0 rfl (A8 rfl hc) rfl L3 rfl) ?_
  refine A9 rfl rfl (B1 rfl rfl rfl) (fun hc => C4 rfl (A0 rfl)) ?_
  refine A9 rfl rfl (B1 rfl rfl rfl) (fun hc => D6 rfl Tryz.call218 rfl (AD4 _ _) (A7 (A8 rfl hc) (A7 (A8 rfl hc) C0))) ?_
  refine A1 rfl rfl rfl (G1 rfl (A0 rfl) (E3 rfl)) ?_
  refine A5 ?_
  refine C8 (A0 rfl) ?_ ?_
  ·intro h26
   refine A2 ?_
   refine A4 rfl rfl rfl rfl rfl ?_
   refine A1 rfl rfl rfl (B6 0 rfl E9 rfl B9 (A0 rfl) rfl) ?_
   refine A1 rfl rfl rfl (B4 0 rfl (A0 rfl) rfl C7 rfl) ?_
   refine A1 rfl rfl rfl (M3 rfl I0 B9 Tryz.zeroValue3 rfl rfl rfl rfl (E7 (A0 rfl) (K8 _ _) I6) rfl rfl) ?_
   refine M9 (by' := 8) 1 rfl rfl rfl rfl I0 Tryz.type3 rfl rfl rfl rfl rfl rfl (A0 rfl) (A0 rfl) rfl (by first | omega | (simp only [A6, B0, B7, C1, B3, szR] at *; omega)) ?_
   intro v31_1
   refine B2 rfl rfl rfl rfl rfl ?_
   refine A5 (A2 ?_)
   refine A1 rfl rfl rfl (G5 rfl (A0 rfl) B5 (by first | omega | (simp only [A6, B0, B7, C1, B3, szR] at *; omega))) ?_
   refine A4 rfl rfl rfl rfl rfl ?_
   refine A5 ?_
   refine T2 i v ns (i + 1) (v31_1) (ns ++ [h.Txn]) ?_ ?_ (Le.trans (K1 [0, 0] rfl) (N0 1 (by first | rfl | (rw [List.map_append]; rfl)) ⟨rfl, rfl, rfl, rfl, rfl, rfl, rfl, trivial⟩))
   ·first | exact ⟨by omega, by rw [r4 hx (by rw [Bool.and_comm]; exact h26), hinv.2]⟩ | exact ⟨by omega, by rw [w5 hx (by rw [Bool.and_comm]; exact h26), hinv.2]⟩
   ·omega
  ·intro h26
   refine D1 (A2 ?_)
   refine A1 rfl rfl rfl (G5 rfl (A0 rfl) B5 (by first | omega | (simp only [A6, B0, B7, C1, B3, szR] at *; omega))) ?_
   refine A4 rfl rfl rfl rfl rfl ?_
   refine A5 ?_
   refine T2 i v ns (i + 1) (v) (ns) ?_ ?_ (Le.trans (K1 [0, 0] rfl) (N0 1 (by first | rfl | (rw [List.map_append]; rfl)) ⟨rfl, rfl, rfl, rfl, rfl, rfl, rfl, trivial⟩))
   ·first | exact ⟨by omega, by rw [r4 hx (by rw [Bool.and_comm]; exact h26), hinv.2]⟩ | exact ⟨by omega, by rw [w5 hx (by rw [Bool.and_comm]; exact h26), hinv.2]⟩
   ·omega
 ·intro h14
  have k14 := of_decide_eq_false h14; try simp only [A6] at k14
  have hge : s.Held.length ≤ i := by omega
  have hns := hinv.2
  rw [List.take_of_length_le hge] at hns
  rw [← hns]
  refine H4 ?_
  refine A3 (A2 ?_)
  refine A4 rfl rfl rfl rfl rfl ?_
  refine B2 rfl rfl rfl rfl rfl ?_
  refine A5 ?_
  refine C6 ?_
  exact M8 [0] v (trivial) rfl (by rfl) (Q4 rfl (C3 rfl (by rfl)))
theorem Ab9 (s : TState) (k : Str) (t : Int) (hs : s.size ≤ 1048576) : FSpec Tryz.prog 121 [AV.agg s.cs, AV.str k, AV.int t] (ints (blocksOf s.Held k t)) :=
  Y5 (Ae6 s k t hs) fun x _ => N2 (List.mem_singleton.2 rfl) I9
end Go.Proofs.YtnlhbdkcgaeimaaGreat
