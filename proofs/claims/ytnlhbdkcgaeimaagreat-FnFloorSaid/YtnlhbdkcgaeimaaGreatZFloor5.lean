/- Texts of the claim, part 5. -/
import Derived.Test.YtnlhbdkcgaeimaaGreatZFloor4

set_option linter.unusedVariables false
set_option linter.unusedSimpArgs false
set_option maxRecDepth 100000
set_option maxHeartbeats 1000000
namespace Go.Proofs.YtnlhbdkcgaeimaaGreat
open Go Go.AV Go.M
attribute [local irreducible] OpW OpA OpS AWP FSpec ESpec GSpec OpE RetOk RetOkG RvDen Le Ev GuardIs SrcIs
theorem AZ5 (v vv : Value) (l : List (List AV)) (x : List AV) (hx2 : x.length = 2) (hl2 : ∀ r ∈ l, r.length = 2) (i : Nat) (hi : i ≤ l.length) (hl : l.length ≤ 4194304) : GSpec Tryz.prog 285 [AV.is v, AV.int i, AV.is vv] [.arr v 142 2 l, .arr vv 142 2 [x]] (fun _ : Value => True) (fun v => [.arr v 142 2 (l.take i ++ x :: l.drop i)]) (fun v => AV.is v) := by
  have := Ac5 v vv l x hx2 hl2 i hi hl
  simpa only [List.map_id, id_eq] using this
theorem BA9 {l : List TCell} {xs : List Value} : ∀ r ∈ nrows TCell.ocs l xs, r.length = 2 := fun r hr => by
  unfold nrows at hr
  obtain ⟨i, hi⟩ := List.getElem?_of_mem hr
  rw [List.getElem?_zipWith] at hi
  split at hi
  · injection hi with hi; subst hi; rfl
  · cases hi
theorem r8 {α : Type} {f : α → Nat} {l : List α} (i : Nat) : sizeL f (l.take i) ≤ sizeL f l := by
  have := m8 (f := f) (l := l.take i) (r := l.drop i)
  rw [List.take_append_drop] at this; omega
theorem c9 {α : Type} {f : α → Nat} {l : List α} {i : Nat} {x : α} (h : l[i]? = some x) : sizeL f (l.take (i + 1)) = sizeL f (l.take i) + (1 + f x) := by
  rw [List.take_add_one, h, m8]
  show _ + sizeL f [x] = _
  rw [N7]; rfl
def RowsTo (A : List (List AV)) (k : Str) (vs : List (List AV)) (B : List (List AV)) (D : List Own) (o2 : List TCell) (f : Value → List Value) : Prop :=
  ∀ y : Value, (f y).length = o2.length ∧ A ++ [AV.str k, AV.is y] :: B = nrows TCell.ocs o2 (f y) ∧ (Own.arr y 197 3 vs :: D).Perm (nin TCell.ow o2 (f y))
theorem AZ6 {o : List TCell} {xs : List Value} {p : Nat} {c : TCell} {y0 : Value} (hc : o[p]? = some c) (hy : xs[p]? = some y0) (hl : xs.length = o.length) (nv : TVer) :
    RowsTo (nrows TCell.ocs (o.take p) (xs.take p)) c.Key (c.Vers.map TVer.cs ++ [TVer.cs nv]) (nrows TCell.ocs (o.drop (p + 1)) (xs.drop (p + 1))) (nin TCell.ow (o.eraseIdx p) (xs.eraseIdx p)) (o.set p ⟨c.Key, c.Vers ++ [nv]⟩) (fun y => xs.set p y) := fun y => by
  have hp := (List.getElem?_eq_some_iff.1 hc).1
  have hx := (List.getElem?_eq_some_iff.1 hy).1
  have hc' : (o.set p ⟨c.Key, c.Vers ++ [nv]⟩)[p]? = some ⟨c.Key, c.Vers ++ [nv]⟩ := List.getElem?_set_self hp
  have hy' : (xs.set p y)[p]? = some y := List.getElem?_set_self hx
  refine ⟨by rw [List.length_set, List.length_set, hl], ?_, ?_⟩
  · rw [w7 hc' hy', List.take_set_of_le (Nat.le_refl _), List.take_set_of_le (Nat.le_refl _), List.drop_set_of_lt (by omega), List.drop_set_of_lt (by omega)]
    rfl
  · have h := AH2 (ow := TCell.ow) hc' hy'
    rw [List.eraseIdx_set_eq, List.eraseIdx_set_eq] at h
    refine List.Perm.trans ?_ h.symm
    unfold TCell.ow
    simp only [List.map_append, List.map_cons, List.map_nil]
    exact List.Perm.refl _
theorem AZ7 {o : List TCell} {xs : List Value} {p : Nat} (hp : p ≤ o.length) (hl : xs.length = o.length) (k : Str) (nv : TVer) :
    RowsTo ((nrows TCell.ocs o xs).take p) k [TVer.cs nv] ((nrows TCell.ocs o xs).drop p) (nin TCell.ow o xs) (o.take p ++ ⟨k, [nv]⟩ :: o.drop p) (fun y => xs.take p ++ y :: xs.drop p) := fun y =>
  ⟨by rw [An3 (by omega), An3 hp, hl], BA8 (ocs := TCell.ocs) (p := ⟨k, [nv]⟩) hp hl, nin_ins (ow := TCell.ow) (p := ⟨k, [nv]⟩) hp hl⟩
theorem u5 {l o : List TCell} {w : List TWrite} {t : Int} {i : Nat} {x : TWrite} (h : putAll l w t = putAll o (w.drop i) t) (hx : w[i]? = some x) (ht : ¬ t ≤ lastTime o x.Key) : putAll l w t = putAll (putC1 o x t) (w.drop (i + 1)) t := by
  rw [h, drop_some hx]
  unfold putAll
  rw [if_neg (by simpa using ht)]
  cases w.drop (i + 1) <;> rfl
theorem An4 {l o : List TCell} {w : List TWrite} {t : Int} {i : Nat} {x : TWrite} (h : putAll l w t = putAll o (w.drop i) t) (hx : w[i]? = some x) (ht : t ≤ lastTime o x.Key) : putAll l w t = none := by
  rw [h, drop_some hx]
  unfold putAll
  rw [if_pos (by simpa using ht)]
theorem Au3 {l o : List TCell} {w : List TWrite} {t : Int} {i : Nat} (h : putAll l w t = putAll o (w.drop i) t) (hi : w.length ≤ i) : putAll l w t = some o := by
  rw [h, List.drop_eq_nil_of_le hi]; rfl
theorem An5 (l : List TCell) (w : List TWrite) (t : Int) (ho : CellsOk l) (hs : sizeL TCell.size l ≤ 1048576) (hw : sizeL TWrite.size w ≤ 1048576) : GSpec Tryz.prog 255 [AV.list 2 (l.map TCell.cs), AV.list 3 (w.map TWrite.cs), AV.int t] [] (fun x : Value × List Value => x.2.length = (putCells l w t).1.length) (fun x => .arr x.1 142 2 (nrows TCell.ocs (putCells l w t).1 x.2) :: nin TCell.ow (putCells l w t).1 x.2) (fun x => AV.tup [AV.is x.1, AV.bool (putCells l w t).2]) := by
 have hwl : w.length ≤ 1048576 := Nat.le_trans O2 hw
 refine H5 Tryz.func255 rfl Tryz.ntmps255 rfl ?_
 refine A3 (A2 ?_)
 refine A1 rfl rfl rfl (C3 rfl K5) ?_
 refine A1 rfl rfl rfl (C3 rfl F4) ?_
 refine A4 (A3 (A2 ?_))
 refine A5 rfl rfl rfl rfl rfl ?_
 refine Af0 [] 0 1 ([]) ([]) (fun zz => nin TCell.ow l zz.2) rfl rfl rfl rfl Tryz.call253 rfl rfl (show List.Perm ([]) (([]) ++ ([])) from List.Perm.refl _) (AL4 l (by omega)) (A9 (A0 rfl) D1) (fun a => Al5) ?_
 intro x14 ok14
 refine B9 rfl rfl rfl rfl rfl ?_
 refine A4 (A3 (A3 (A2 ?_)))
 refine A5 rfl rfl rfl rfl rfl ?_
 refine A1 rfl rfl rfl (G9 rfl F3 (A0 rfl)) ?_
 refine A1 rfl rfl rfl (C6 rfl C4) ?_
 refine A4 (D7 ?_)
 refine o7 [(2, _), (15, _), (16, _)] [] (fun (i : Nat) (v : Value) (q : List TCell) (xs : List Value) => i ≤ w.length ∧ xs.length = q.length ∧ CellsOk q ∧ sizeL TCell.size q ≤ 1048576 + 2 * sizeL TWrite.size (w.take i) ∧ putAll l w t = putAll q (w.drop i) t) (fun (i : Nat) (v : Value) (q : List TCell) (xs : List Value) => [.arr v 142 2 (nrows TCell.ocs q xs)] ++ (nin TCell.ow q xs)) (fun (i : Nat) (v : Value) (q : List TCell) (xs : List Value) => [(8, AV.is v), (17, AV.int i)]) (fun (i : Nat) (v : Value) (q : List TCell) (xs : List Value) => w.length - i) (0) (x14.1) (l) (x14.2) ?_ (S7 (by rw [List.append_nil]; rfl) ⟨rfl, rfl, rfl, rfl, rfl, trivial⟩) ?_
 ·exact ⟨Nat.zero_le _, ok14, ho, by omega, rfl⟩
 intro i v q xs hinv
 have hlen := hinv.2.1
 refine L1 (List.append_nil _) ?_
 refine A3 (A2 ?_)
 refine A1 rfl rfl rfl (K6 rfl (A0 rfl) (A0 rfl)) ?_
 refine A4 (A3 ?_)
 refine C7 (A0 rfl) ?_ ?_
 ·intro h18
  have k18 := of_decide_eq_true h18; try simp only [A6] at k18
  have hlt : i < w.length := by omega
  obtain ⟨x, hx⟩ := get_some hlt
  have htk := r8 (f := TWrite.size) (l := w) i
  have hso : sizeL TCell.size q ≤ 4194304 := by omega
  have hol : q.length ≤ 4194304 := Nat.le_trans O2 hso
  refine D2 (A3 (D7 (A3 (A2 ?_))))
  refine A1 rfl rfl rfl (I7 rfl F3 H7 (A0 rfl) (A0 rfl) hx (by first | omega | (simp only [A6, A7, B2, B7, A8, szR] at *; omega))) ?_
  refine A1 rfl rfl rfl (K4 rfl (A0 rfl) S5 H7) ?_
  refine G0 rfl rfl rfl rfl Tryz.zeroValue77 rfl ?_
  intro b10
  refine D5 0 rfl rfl rfl (A0 rfl) (A0 rfl) (E2 _) rfl H7 rfl ?_
  refine A4 (A3 (A3 (A2 ?_)))
  refine A5 rfl rfl rfl rfl rfl ?_
  refine A5 rfl rfl rfl rfl rfl ?_
  refine A1 rfl rfl rfl (B3 0 rfl I1 rfl F5 (A0 rfl) rfl) ?_
  refine A1 rfl rfl rfl (B1 0 rfl (A0 rfl) rfl H1 rfl) ?_
  refine A1 rfl rfl rfl (V8 rfl Tryz.call93 rfl (AA5 q x.Key hinv.2.2.1 hso) (G1 _ _) (N3 (g9 (A0 rfl) (k5 TCell.lcM (by first | exact hlen | exact hlen.trans (o3 _ _).symm) 1 rfl (fun o ho => List.mem_of_mem_drop (i := 2) (show o ∈ nin TCell.ow q xs from by first | exact ho | exact List.mem_append_left _ ho | exact List.mem_append_right _ ho | exact List.mem_append_right _ (List.mem_append_left _ ho) | exact List.mem_append_right _ (List.mem_append_right _ ho))))) (N3 (evb (A0 rfl)) U3))) ?_
  refine A1 rfl rfl rfl (U5 rfl (A0 rfl) (A0 rfl)) ?_
  refine A4 ?_
  refine C7 (A0 rfl) ?_ ?_
  ·intro h26
   have k26 := of_decide_eq_true h26; try simp only [A6] at k26
   have he : putCells l w t = ([], false) := by unfold putCells; rw [An4 hinv.2.2.2.2 hx k26]
   rw [he]
   refine A3 (A2 ?_)
   refine A1 rfl rfl rfl (C3 rfl K5) ?_
   refine A1 rfl rfl rfl (C3 rfl F4) ?_
   refine A4 ?_
   refine C8 ?_
   refine T6 142 2 ?_
   first | exact K1 [0] ((Value.slice none 0 0), []) (rfl) rfl (by rfl) (T2 rfl (by decide) (E6 (C5 rfl (by rfl)) (E6 (C5 rfl (by rfl)) K8))) | exact p4 [0] 2 (nin TCell.ow q xs) [] ((Value.slice none 0 0), []) (rfl) rfl (show List.Perm (nin TCell.ow q xs) ((nin TCell.ow q xs) ++ []) from c6) (by rfl) (T2 rfl (by decide) (E6 (C5 rfl (by rfl)) (E6 (C5 rfl (by rfl)) K8))) | exact K1 [0] ((Value.slice none 0 0), xs) (hinv.2.1) rfl (by rfl) (T2 rfl (by decide) (E6 (C5 rfl (by rfl)) (E6 (C5 rfl (by rfl)) K8))) | exact p4 [0] 2 (nin TCell.ow q xs) [] ((Value.slice none 0 0), xs) (hinv.2.1) rfl (show List.Perm (nin TCell.ow q xs) ((nin TCell.ow q xs) ++ []) from c6) (by rfl) (T2 rfl (by decide) (E6 (C5 rfl (by rfl)) (E6 (C5 rfl (by rfl)) K8)))
  ·intro h26
   have k26 := of_decide_eq_false h26; try simp only [A6] at k26
   refine D2 (A3 (A2 ?_))
   refine A5 rfl rfl rfl rfl rfl ?_
   refine A1 rfl rfl rfl (B3 0 rfl I1 rfl F5 (A0 rfl) rfl) ?_
   refine A1 rfl rfl rfl (B1 0 rfl (A0 rfl) rfl H1 rfl) ?_
   refine A1 rfl rfl rfl (V8 rfl Tryz.call189 rfl (AA4 q x.Key (by omega)) (Z0 (D9 (G1 _ _) (D9 (G3 _) G2))) (N3 (g9 (A0 rfl) (k5 TCell.lcM (by first | exact hlen | exact hlen.trans (o3 _ _).symm) 1 rfl (fun o ho => List.mem_of_mem_drop (i := 2) (show o ∈ nin TCell.ow q xs from by first | exact ho | exact List.mem_append_left _ ho | exact List.mem_append_right _ ho | exact List.mem_append_right _ (List.mem_append_left _ ho) | exact List.mem_append_right _ (List.mem_append_right _ ho))))) (N3 (evb (A0 rfl)) U3))) ?_
   refine A5 rfl rfl rfl rfl rfl ?_
   refine A1 rfl rfl rfl (F6 rfl (A0 rfl) rfl) ?_
   refine A1 rfl rfl rfl (F6 rfl (A0 rfl) rfl) ?_
   refine B9 rfl rfl rfl rfl rfl ?_
   refine B9 rfl rfl rfl rfl rfl ?_
   refine A4 (A3 (A3 (A2 ?_)))
   refine A5 rfl rfl rfl rfl rfl ?_
   refine A1 rfl rfl rfl (M2 rfl (A0 rfl)) ?_
   refine A4 ?_
   refine C7 (A0 rfl) ?_ ?_
   ·intro h35
    have hn : cHas q x.Key = false := by simpa using h35
    have hpl : cPos q x.Key ≤ (nrows TCell.ocs q xs).length := by rw [a7 hlen]; exact Ab6 _ _
    have hA : ((nrows TCell.ocs q xs).take (cPos q x.Key)).length = cPos q x.Key := by rw [A7]; omega
    obtain ⟨fx, hto⟩ : ∃ fx, RowsTo ((nrows TCell.ocs q xs).take (cPos q x.Key)) x.Key [TVer.cs ⟨t, x.Val, x.Gone⟩] ((nrows TCell.ocs q xs).drop (cPos q x.Key)) (nin TCell.ow q xs) (putC1 q x t) fx := ⟨_, by unfold putC1; rw [pos_new hinv.2.2.1.1 hn]; exact AZ7 (Ab6 _ _) hlen _ _⟩
    refine A2 ?_
    refine A5 rfl rfl rfl rfl rfl ?_
    refine A5 rfl rfl rfl rfl rfl ?_
    refine A1 rfl rfl rfl (B3 0 rfl I1 rfl F5 (A0 rfl) rfl) ?_
    refine A1 rfl rfl rfl (B1 0 rfl (A0 rfl) rfl H1 rfl) ?_
    refine A1 rfl rfl rfl (N0 (places := #[(0, 1), (1, 1)]) rfl G5 Tryz.zeroValue142 (fun w => by kernel_rfl) rfl (E0 (A0 rfl) (P6 _) H6) rfl) ?_
    refine n4 rfl rfl rfl rfl D8 F0 Tryz.zeroValue142 rfl rfl rfl rfl (E0 (A0 rfl) (E2 _) H6) rfl rfl ?_
    intro v41
    refine I2 [2, 0] rfl rfl rfl rfl Tryz.call285 rfl (AZ5 _ _ (nrows TCell.ocs q xs) [AV.str x.Key, AV.nils] rfl BA9 (cPos q x.Key) hpl (by rw [a7 hlen]; omega)) (A9 (A0 rfl) (A9 (A0 rfl) (A9 (A0 rfl) D1))) rfl ?_
    intro x42 ok42
    refine Az2 197 3 ?_
    refine B9 rfl rfl rfl rfl rfl ?_
    refine A4 ?_
    refine AWP.le (I8 [2, 1, 0] rfl) ?_
    refine T3 _ [(0, false), (1, false), (2, false), (3, false), (4, false), (5, false), (6, false), (7, false), (8, false), (9, false), (10, false), (11, false), (12, false), (13, false), (14, true)] (by kernel_rfl) (by kernel_rfl) rfl (W9 2) ?_
    refine F9 rfl rfl rfl (fun ext => C6 rfl (A0 rfl)) ?_
    refine F9 rfl rfl rfl (fun ext => C6 rfl (A0 rfl)) ?_
    refine F9 rfl rfl rfl (fun ext => C6 rfl (A0 rfl)) ?_
    refine F9 rfl rfl rfl (fun ext => C6 rfl (A0 rfl)) ?_
    refine F9 rfl rfl rfl (fun ext => U4 1 rfl D8 F0 (A0 rfl) rfl (A0 rfl) (by omega) (by rw [J1, B2]; omega)) ?_
    refine F9 rfl rfl rfl (fun ext => i0 1 rfl G5 rfl M0 (A0 rfl) rfl rfl (c0 hA)) ?_
    refine F9 rfl rfl rfl (fun ext => m6 1 rfl (A0 rfl) rfl P4 (c0 hA) rfl) ?_
    refine F9 rfl rfl rfl (fun ext => C6 rfl (A0 rfl)) ?_
    refine F9 rfl rfl rfl (fun ext => B3 1 rfl I1 rfl F5 (A0 rfl) rfl) ?_
    refine F9 rfl rfl rfl (fun ext => B1 0 rfl (A0 rfl) rfl H1 rfl) ?_
    refine F9 rfl rfl rfl (fun ext => B3 2 rfl I1 rfl J4 (A0 rfl) rfl) ?_
    refine F9 rfl rfl rfl (fun ext => B1 0 rfl (A0 rfl) rfl L0 rfl) ?_
    refine F9 rfl rfl rfl (fun ext => N0 (places := #[(0, 1), (1, 1), (2, 1)]) rfl P2 Tryz.zeroValue197 (fun w => by kernel_rfl) rfl (E0 (A0 rfl) (K9 _ _) (E0 (A0 rfl) (P6 _) (E0 (A0 rfl) (V3 _) H6))) rfl) ?_
    refine F9 rfl rfl rfl (fun ext => L9 rfl I5 N2 Tryz.zeroValue197 rfl rfl rfl rfl (E0 (A0 rfl) (E2 _) H6) rfl rfl) ?_
    refine U1 rfl rfl rfl (P7 (by' := 32) 2 rfl I5 Tryz.type197 rfl rfl rfl rfl rfl rfl (A0 rfl) (A0 rfl) rfl (by first | omega | (simp only [A6, A7, B2, B7, A8, szR] at *; omega))) (fun a _ => (by first | exact F8 rfl | exact F8 (List.append_assoc _ _ _) | exact J5)) ?_
    intro v57_2 _
    refine i3 ?_
    refine A1 rfl rfl rfl (U4 1 rfl D8 F0 (A0 rfl) rfl (A0 rfl) (by omega) (by rw [J1, B2]; omega)) ?_
    refine A1 rfl rfl rfl (i0 1 rfl G5 rfl M0 (A0 rfl) rfl rfl (c0 hA)) ?_
    refine Q8 2 rfl fun one_v57_2 => ?_
    refine r5 1 rfl rfl rfl (A0 rfl) (A0 rfl) (Q9 one_v57_2) rfl M0 hA rfl ?_
    refine A4 ?_
    refine AWP.le (I8 [0, 0, 0] rfl) ?_
    refine AWP.le (l9 2 (t := nin TCell.ow (putC1 q x t) (fx v57_2)) ((hto v57_2).2.2)) ?_
    refine AWP.le (I8 [0] rfl) ?_
    refine A2 ?_
    refine A1 rfl rfl rfl (G7 rfl (A0 rfl) C4 (by first | omega | (simp only [A6, A7, B2, B7, A8, szR] at *; omega))) ?_
    refine A5 rfl rfl rfl rfl rfl ?_
    refine A4 ?_
    refine X1 i v q xs (i + 1) (x42) (putC1 q x t) (fx v57_2) ?_ ?_ (M1 1 (Eq.trans (by exact congrArg (fun z => Own.arr _ _ _ z :: _) (hto v57_2).2.1) (List.append_nil _).symm) ⟨rfl, rfl, rfl, rfl, rfl, trivial⟩)
    ·exact ⟨by omega, (hto _).1, f8 hinv.2.2.1 _ _, by have h8 := j9 q x t; have h9 := c9 (f := TWrite.size) hx; omega, u5 hinv.2.2.2.2 hx k26⟩
    ·omega
   ·intro h35
    have hn : cHas q x.Key = true := by simpa using h35
    obtain ⟨c, hc, hck, hins⟩ := pos_has hinv.2.2.1.1 hn ⟨t, x.Val, x.Gone⟩
    have hpo := (List.getElem?_eq_some_iff.1 hc).1
    obtain ⟨y, hy⟩ := get_some (show cPos q x.Key < xs.length by omega)
    have hA := AY3 (ocs := TCell.ocs) hc hy
    obtain ⟨fx, hto⟩ : ∃ fx, RowsTo (nrows TCell.ocs (q.take (cPos q x.Key)) (xs.take (cPos q x.Key))) c.Key (c.Vers.map TVer.cs ++ [TVer.cs ⟨t, x.Val, x.Gone⟩]) (nrows TCell.ocs (q.drop (cPos q x.Key + 1)) (xs.drop (cPos q x.Key + 1))) (nin TCell.ow (q.eraseIdx (cPos q x.Key)) (xs.eraseIdx (cPos q x.Key))) (putC1 q x t) fx := ⟨_, by have h7 := AZ6 hc hy hlen ⟨t, x.Val, x.Gone⟩; unfold putC1; rw [hins, ← hck]; rw [hck] at h7 ⊢; exact h7⟩
    have hcs := d5 (Nat.le_trans (V6 hc) hso)
    rw [w7 hc hy]
    refine AWP.le (l9 2 (t := (TCell.ow c y) ++ (nin TCell.ow (q.eraseIdx (cPos q x.Key)) (xs.eraseIdx (cPos q x.Key)))) (AH2 (ow := TCell.ow) hc hy)) ?_
    refine D2 ?_
    refine AWP.le (I8 [0, 0, 0] rfl) ?_
    refine T3 _ [(0, false), (1, false), (2, false), (3, false), (4, false), (5, false), (6, false), (7, false), (8, false), (9, false), (10, false), (11, false), (12, false), (13, false), (14, true)] (by kernel_rfl) (by kernel_rfl) rfl (W9 2) ?_
    refine F9 rfl rfl rfl (fun ext => C6 rfl (A0 rfl)) ?_
    refine F9 rfl rfl rfl (fun ext => C6 rfl (A0 rfl)) ?_
    refine F9 rfl rfl rfl (fun ext => C6 rfl (A0 rfl)) ?_
    refine F9 rfl rfl rfl (fun ext => C6 rfl (A0 rfl)) ?_
    refine F9 rfl rfl rfl (fun ext => U4 1 rfl D8 F0 (A0 rfl) rfl (A0 rfl) (by omega) (by rw [J1, B2]; omega)) ?_
    refine F9 rfl rfl rfl (fun ext => i0 1 rfl G5 rfl M0 (A0 rfl) rfl rfl (c0 hA)) ?_
    refine F9 rfl rfl rfl (fun ext => m6 1 rfl (A0 rfl) rfl P4 (c0 hA) rfl) ?_
    refine F9 rfl rfl rfl (fun ext => C6 rfl (A0 rfl)) ?_
    refine F9 rfl rfl rfl (fun ext => B3 1 rfl I1 rfl F5 (A0 rfl) rfl) ?_
    refine F9 rfl rfl rfl (fun ext => B1 0 rfl (A0 rfl) rfl H1 rfl) ?_
    refine F9 rfl rfl rfl (fun ext => B3 2 rfl I1 rfl J4 (A0 rfl) rfl) ?_
    refine F9 rfl rfl rfl (fun ext => B1 0 rfl (A0 rfl) rfl L0 rfl) ?_
    refine F9 rfl rfl rfl (fun ext => N0 (places := #[(0, 1), (1, 1), (2, 1)]) rfl P2 Tryz.zeroValue197 (fun w => by kernel_rfl) rfl (E0 (A0 rfl) (K9 _ _) (E0 (A0 rfl) (P6 _) (E0 (A0 rfl) (V3 _) H6))) rfl) ?_
    refine F9 rfl rfl rfl (fun ext => L9 rfl I5 N2 Tryz.zeroValue197 rfl rfl rfl rfl (E0 (A0 rfl) (E2 _) H6) rfl rfl) ?_
    refine U1 rfl rfl rfl (P7 (by' := 32) 2 rfl I5 Tryz.type197 rfl rfl rfl rfl rfl rfl (A0 rfl) (A0 rfl) rfl (by first | omega | (simp only [A6, A7, B2, B7, A8, szR] at *; omega))) (fun a _ => (by first | exact F8 rfl | exact F8 (List.append_assoc _ _ _) | exact J5)) ?_
    intro v57_3 _
    refine i3 ?_
    refine A1 rfl rfl rfl (U4 1 rfl D8 F0 (A0 rfl) rfl (A0 rfl) (by omega) (by rw [J1, B2]; omega)) ?_
    refine A1 rfl rfl rfl (i0 1 rfl G5 rfl M0 (A0 rfl) rfl rfl (c0 hA)) ?_
    refine Q8 2 rfl fun one_v57_3 => ?_
    refine r5 1 rfl rfl rfl (A0 rfl) (A0 rfl) (Q9 one_v57_3) rfl M0 hA rfl ?_
    refine A4 ?_
    refine AWP.le (I8 [0, 0, 0] rfl) ?_
    refine AWP.le (l9 2 (t := nin TCell.ow (putC1 q x t) (fx v57_3)) ((hto v57_3).2.2)) ?_
    refine AWP.le (I8 [0] rfl) ?_
    refine A2 ?_
    refine A1 rfl rfl rfl (G7 rfl (A0 rfl) C4 (by first | omega | (simp only [A6, A7, B2, B7, A8, szR] at *; omega))) ?_
    refine A5 rfl rfl rfl rfl rfl ?_
    refine A4 ?_
    refine X1 i v q xs (i + 1) (v) (putC1 q x t) (fx v57_3) ?_ ?_ (M1 1 (Eq.trans (by exact congrArg (fun z => Own.arr _ _ _ z :: _) (hto v57_3).2.1) (List.append_nil _).symm) ⟨rfl, rfl, rfl, rfl, rfl, trivial⟩)
    ·exact ⟨by omega, (hto _).1, f8 hinv.2.2.1 _ _, by have h8 := j9 q x t; have h9 := c9 (f := TWrite.size) hx; omega, u5 hinv.2.2.2.2 hx k26⟩
    ·omega
 ·intro h18
  have k18 := of_decide_eq_false h18; try simp only [A6] at k18
  have hge : w.length ≤ i := by omega
  have hpe := Au3 hinv.2.2.2.2 hge
  have htk := r8 (f := TWrite.size) (l := w) i
  have hso : sizeL TCell.size q ≤ 4194304 := by omega
  refine H3 ?_
  refine A3 (A3 (A2 ?_))
  refine A5 rfl rfl rfl rfl rfl ?_
  refine A1 rfl rfl rfl (V8 rfl Tryz.call91 rfl (u3 q hso) (G3 _) (N3 (g9 (A0 rfl) (k5 TCell.lcM (by first | exact hlen | exact hlen.trans (o3 _ _).symm) 0 rfl (fun o ho => List.mem_of_mem_drop (i := 1) (show o ∈ nin TCell.ow q xs from by first | exact ho | exact List.mem_append_left _ ho | exact List.mem_append_right _ ho | exact List.mem_append_right _ (List.mem_append_left _ ho) | exact List.mem_append_right _ (List.mem_append_right _ ho))))) U3)) ?_
  refine A1 rfl rfl rfl (M2 rfl (A0 rfl)) ?_
  refine A4 ?_
  refine C7 (A0 rfl) ?_ ?_
  ·intro h63
   have he : putCells l w t = ([], false) := by unfold putCells; rw [hpe]; simp only; rw [if_pos h63]
   rw [he]
   refine A3 (A2 ?_)
   refine A1 rfl rfl rfl (C3 rfl K5) ?_
   refine A1 rfl rfl rfl (C3 rfl F4) ?_
   refine A4 ?_
   refine C8 ?_
   refine T6 142 2 ?_
   first | exact K1 [0] ((Value.slice none 0 0), []) (rfl) rfl (by rfl) (T2 rfl (by decide) (E6 (C5 rfl (by rfl)) (E6 (C5 rfl (by rfl)) K8))) | exact p4 [0] 1 (nin TCell.ow q xs) [] ((Value.slice none 0 0), []) (rfl) rfl (show List.Perm (nin TCell.ow q xs) ((nin TCell.ow q xs) ++ []) from c6) (by rfl) (T2 rfl (by decide) (E6 (C5 rfl (by rfl)) (E6 (C5 rfl (by rfl)) K8))) | exact K1 [0] ((Value.slice none 0 0), xs) (hinv.2.1) rfl (by rfl) (T2 rfl (by decide) (E6 (C5 rfl (by rfl)) (E6 (C5 rfl (by rfl)) K8))) | exact p4 [0] 1 (nin TCell.ow q xs) [] ((Value.slice none 0 0), xs) (hinv.2.1) rfl (show List.Perm (nin TCell.ow q xs) ((nin TCell.ow q xs) ++ []) from c6) (by rfl) (T2 rfl (by decide) (E6 (C5 rfl (by rfl)) (E6 (C5 rfl (by rfl)) K8)))
  ·intro h63
   have he : putCells l w t = (q, true) := by unfold putCells; rw [hpe]; simp only; rw [if_neg (by rw [h63]; decide)]
   rw [he]
   refine D2 (A3 (A2 ?_))
   refine A5 rfl rfl rfl rfl rfl ?_
   refine B9 rfl rfl rfl rfl rfl ?_
   refine A1 rfl rfl rfl (C3 rfl F4) ?_
   refine A4 ?_
   refine C8 ?_
   first | exact K1 [0] (v, []) (rfl) rfl (by rfl) (T2 rfl (by decide) (E6 (C5 rfl (by rfl)) (E6 (C5 rfl (by rfl)) K8))) | exact p4 [0] 0 (nin TCell.ow q xs) [] (v, []) (rfl) rfl (show List.Perm (nin TCell.ow q xs) ((nin TCell.ow q xs) ++ []) from c6) (by rfl) (T2 rfl (by decide) (E6 (C5 rfl (by rfl)) (E6 (C5 rfl (by rfl)) K8))) | exact p4 [0] 0 (nin TCell.ow q xs) [] (v, xs) (hinv.2.1) rfl (show List.Perm (nin TCell.ow q xs) ((nin TCell.ow q xs) ++ []) from c6) (by rfl) (T2 rfl (by decide) (E6 (C5 rfl (by rfl)) (E6 (C5 rfl (by rfl)) K8)))
end Go.Proofs.YtnlhbdkcgaeimaaGreat

set_option linter.unusedVariables false
set_option linter.unusedSimpArgs false
set_option maxRecDepth 100000
set_option maxHeartbeats 4000000
namespace Go.Proofs.YtnlhbdkcgaeimaaGreat
open Go Go.AV Go.M
attribute [local irreducible] OpW OpA OpS AWP FSpec ESpec GSpec OpE RetOk RetOkG RvDen Le Ev GuardIs SrcIs
theorem BB0 (l : List TCell) (w : List TWrite) (t : Int) (ho : CellsOk l) (hs : sizeL TCell.size l ≤ 1048576) (hw : sizeL TWrite.size w ≤ 1048576) (ht1 : 1 ≤ t) : GSpec Tryz.prog 205 [AV.list 2 (l.map TCell.cs), AV.list 3 (w.map TWrite.cs), AV.int t] [] (fun x : Value × List Value => x.2.length = (putP l w t).1.length) (fun x => .arr x.1 142 2 (nrows TCell.ocs (putP l w t).1 x.2) :: nin TCell.ow (putP l w t).1 x.2) (fun x => AV.tup [AV.is x.1, AV.bool (putP l w t).2]) := by
 have hwl : w.length ≤ 1048576 := Nat.le_trans O2 hw
 refine H5 Tryz.func205 rfl Tryz.ntmps205 rfl ?_
 refine A3 (A2 ?_)
 refine A1 rfl rfl rfl (C3 rfl K5) ?_
 refine A1 rfl rfl rfl (C3 rfl F4) ?_
 refine A4 (A3 (A2 ?_))
 refine A5 rfl rfl rfl rfl rfl ?_
 refine Af0 [] 0 1 ([]) ([]) (fun zz => nin TCell.ow l zz.2) rfl rfl rfl rfl Tryz.call208 rfl rfl (show List.Perm ([]) (([]) ++ ([])) from List.Perm.refl _) (Ag5 l (by omega)) (A9 (A0 rfl) D1) (fun a => Al5) ?_
 intro x15 ok15
 refine B9 rfl rfl rfl rfl rfl ?_
 refine A4 (A3 (A3 (A2 ?_)))
 refine A5 rfl rfl rfl rfl rfl ?_
 refine A1 rfl rfl rfl (G9 rfl F3 (A0 rfl)) ?_
 refine A1 rfl rfl rfl (C6 rfl C4) ?_
 refine A4 (D7 ?_)
 refine o7 [(2, _), (16, _), (17, _)] [] (fun (i : Nat) (v : Value) (q : List TCell) (xs : List Value) => i ≤ w.length ∧ xs.length = q.length ∧ CellsOk q ∧ sizeL TCell.size q ≤ 1048576 + 2 * sizeL TWrite.size (w.take i) ∧ putAll l w t = putAll q (w.drop i) t) (fun (i : Nat) (v : Value) (q : List TCell) (xs : List Value) => [.arr v 142 2 (nrows TCell.ocs q xs)] ++ (nin TCell.ow q xs)) (fun (i : Nat) (v : Value) (q : List TCell) (xs : List Value) => [(8, AV.is v), (18, AV.int i)]) (fun (i : Nat) (v : Value) (q : List TCell) (xs : List Value) => w.length - i) (0) (x15.1) (l) (x15.2) ?_ (S7 (by rw [List.append_nil]; rfl) ⟨rfl, rfl, rfl, rfl, rfl, trivial⟩) ?_
 ·exact ⟨Nat.zero_le _, ok15, ho, by omega, rfl⟩
 intro i v q xs hinv
 have hlen := hinv.2.1
 have hinvo := hinv
 have hrl : (nrows TCell.ocs q xs).length = q.length := a7 hlen
 refine L1 (List.append_nil _) ?_
 refine A3 (A2 ?_)
 refine A1 rfl rfl rfl (K6 rfl (A0 rfl) (A0 rfl)) ?_
 refine A4 (A3 ?_)
 refine C7 (A0 rfl) ?_ ?_
 ·intro h19
  have k19 := of_decide_eq_true h19; try simp only [A6] at k19
  have hlt : i < w.length := by omega
  obtain ⟨x, hx⟩ := get_some hlt
  have htk := r8 (f := TWrite.size) (l := w) i
  have hso : sizeL TCell.size q ≤ 4194304 := by omega
  have hql : q.length ≤ 4194304 := Nat.le_trans O2 hso
  refine D2 (A3 (D7 (A3 (A2 ?_))))
  refine A1 rfl rfl rfl (I7 rfl F3 H7 (A0 rfl) (A0 rfl) hx (by first | omega | (simp only [A6, A7, B2, B7, A8, szR] at *; omega))) ?_
  refine A1 rfl rfl rfl (K4 rfl (A0 rfl) S5 H7) ?_
  refine G0 rfl rfl rfl rfl Tryz.zeroValue77 rfl ?_
  intro b10
  refine D5 0 rfl rfl rfl (A0 rfl) (A0 rfl) (E2 _) rfl H7 rfl ?_
  refine A4 (A3 (A2 ?_))
  refine A5 rfl rfl rfl rfl rfl ?_
  refine A1 rfl rfl rfl (B3 1 rfl I1 rfl F5 (A0 rfl) rfl) ?_
  refine A1 rfl rfl rfl (B1 0 rfl (A0 rfl) rfl H1 rfl) ?_
  refine A1 rfl rfl rfl (B3 2 rfl I1 rfl J4 (A0 rfl) rfl) ?_
  refine A1 rfl rfl rfl (B1 0 rfl (A0 rfl) rfl L0 rfl) ?_
  refine A1 rfl rfl rfl (N0 (places := #[(0, 1), (1, 1), (2, 1)]) rfl P2 Tryz.zeroValue197 (fun w => by kernel_rfl) rfl (E0 (A0 rfl) (K9 _ _) (E0 (A0 rfl) (P6 _) (E0 (A0 rfl) (V3 _) H6))) rfl) ?_
  refine G0 rfl rfl rfl rfl Tryz.zeroValue197 rfl ?_
  intro b11
  refine D5 0 rfl rfl rfl (A0 rfl) (A0 rfl) (E2 _) rfl N2 rfl ?_
  refine A4 (A3 (A2 ?_))
  refine A5 rfl rfl rfl rfl rfl ?_
  refine A1 rfl rfl rfl (U9 2 rfl D8 (A0 rfl) rfl) ?_
  refine B9 rfl rfl rfl rfl rfl ?_
  refine A4 (A3 (D7 ?_))
  refine J9 [(2, _), (8, _), (10, _), (11, _), (16, _), (17, _), (18, _), (19, _), (20, _), (21, _), (22, _), (23, _), (24, _), (25, _), (26, _), (27, _), (28, _), (29, _)] _ (fun (j : Nat) => j ≤ q.length ∧ ∀ (a : Nat) (c : TCell), j ≤ a → q[a]? = some c → Op.bytesLess x.Key c.Key = true) (fun (j : Nat) => []) (fun (j : Nat) => [(12, AV.int j)]) (fun (j : Nat) => j) (q.length) ?_ (J8 ⟨congrArg (fun z : Nat => some (AV.int z)) hrl, rfl, rfl, rfl, rfl, rfl, rfl, rfl, rfl, rfl, rfl, rfl, rfl, rfl, rfl, rfl, rfl, rfl, rfl, trivial⟩) ?_
  ·exact ⟨Nat.le_refl _, fun a c ha hc => by have := (List.getElem?_eq_some_iff.1 hc).1; omega⟩
  intro j hinv
  obtain ⟨c, hc0⟩ := AC8 q (j - 1)
  obtain ⟨y, hy0⟩ : ∃ y, j - 1 < xs.length → xs[j - 1]? = some y := ⟨xs[j - 1]?.getD (.int .i64 0), fun h => by rw [List.getElem?_eq_getElem h]; rfl⟩
  have hj1 : 0 < j → ((j : Int) - 1).toNat = j - 1 := fun _ => by omega
  have hrow0 : 0 < j → (nrows TCell.ocs q xs)[((j : Int) - 1).toNat]? = some (TCell.ocs c y) := fun h => by rw [hj1 h]; exact Af1 (hc0 (by omega)) (hy0 (by omega))
  refine A3 (A3 ?_)
  refine K3 (by kernel_rfl) (by kernel_rfl) rfl ?_
  refine B5 rfl rfl (C6 rfl (A0 rfl)) ?_
  refine B5 rfl rfl (P8 rfl (A0 rfl) C4) ?_
  refine B5 rfl rfl (C6 rfl (A0 rfl)) ?_
  refine E1 rfl (C2 rfl rfl rfl) (fun hc => C6 rfl (A0 rfl)) ?_
  refine E1 rfl (C2 rfl rfl rfl) (fun hc => C6 rfl (A0 rfl)) ?_
  refine E1 rfl (C2 rfl rfl rfl) (fun hc => Q0 rfl (B0 rfl hc) C4 (by first | omega | ((try simp only [A6, A7, B2, B7, A8, szR] at *); omega) | (have hc2 := hc; simp only [Bool.and_eq_true, Bool.or_eq_true, Bool.or_eq_false_iff, Bool.and_eq_false_iff, Bool.not_eq_true', Bool.not_eq_false', decide_eq_true_eq, decide_eq_false_iff_not, beq_iff_eq, bne_iff_ne, A6, A7] at hc2; omega))) ?_
  refine E1 rfl (C2 rfl rfl rfl) (fun hc => U4 2 rfl D8 F0 (B0 rfl hc) rfl (B0 rfl hc) (by first | omega | ((try simp only [A6, A7, B2, B7, A8, szR] at *); omega) | (have hc2 := hc; simp only [Bool.and_eq_true, Bool.or_eq_true, Bool.or_eq_false_iff, Bool.and_eq_false_iff, Bool.not_eq_true', Bool.not_eq_false', decide_eq_true_eq, decide_eq_false_iff_not, beq_iff_eq, bne_iff_ne, A6, A7] at hc2; omega)) (by first | omega | ((try simp only [A6, A7, B2, B7, A8, szR] at *); omega) | (have hc2 := hc; simp only [Bool.and_eq_true, Bool.or_eq_true, Bool.or_eq_false_iff, Bool.and_eq_false_iff, Bool.not_eq_true', Bool.not_eq_false', decide_eq_true_eq, decide_eq_false_iff_not, beq_iff_eq, bne_iff_ne, A6, A7] at hc2; omega))) ?_
  refine E1 rfl (C2 rfl rfl rfl) (fun hc => i0 2 rfl G5 rfl F5 (B0 rfl hc) rfl rfl (hrow0 (by first | omega | ((try simp only [A6, A7, B2, B7, A8, szR] at *); omega) | (have hc2 := hc; simp only [Bool.and_eq_true, Bool.or_eq_true, Bool.or_eq_false_iff, Bool.and_eq_false_iff, Bool.not_eq_true', Bool.not_eq_false', decide_eq_true_eq, decide_eq_false_iff_not, beq_iff_eq, bne_iff_ne, A6, A7] at hc2; omega)))) ?_
  refine E1 rfl (C2 rfl rfl rfl) (fun hc => m6 2 rfl (B0 rfl hc) rfl H1 (hrow0 (by first | omega | ((try simp only [A6, A7, B2, B7, A8, szR] at *); omega) | (have hc2 := hc; simp only [Bool.and_eq_true, Bool.or_eq_true, Bool.or_eq_false_iff, Bool.and_eq_false_iff, Bool.not_eq_true', Bool.not_eq_false', decide_eq_true_eq, decide_eq_false_iff_not, beq_iff_eq, bne_iff_ne, A6, A7] at hc2; omega))) rfl) ?_
  refine E1 rfl (C2 rfl rfl rfl) (fun hc => B3 0 rfl I1 rfl F5 (A0 rfl) rfl) ?_
  refine E1 rfl (C2 rfl rfl rfl) (fun hc => B1 1 rfl (B0 rfl hc) rfl H1 rfl) ?_
  refine E1 rfl (C2 rfl rfl rfl) (fun hc => Aj5 rfl (B0 rfl hc) (B0 rfl hc)) ?_
  refine B5 rfl rfl (I6 rfl (A0 rfl) (G4 rfl)) ?_
  refine O1 ?_
  refine C7 (A0 rfl) ?_ ?_
  ·intro h42
   have hgt : 0 < j ∧ Op.bytesLess x.Key c.Key = true := by rw [R7]; simpa using h42
   refine D2 (D7 (A2 ?_))
   refine A5 rfl rfl rfl rfl rfl ?_
   refine A1 rfl rfl rfl (Q0 rfl (A0 rfl) C4 (by first | omega | (simp only [A6, A7, B2, B7, A8, szR] at *; omega))) ?_
   refine B9 rfl rfl rfl rfl rfl ?_
   refine A4 ?_
   refine l5 ?_
   refine L4 j (j - 1) ?_ ?_ (J8 ⟨congrArg (fun z : Int => some (AV.int z)) (by omega), rfl, rfl, rfl, rfl, rfl, rfl, rfl, rfl, rfl, rfl, rfl, rfl, rfl, rfl, rfl, rfl, rfl, rfl, trivial⟩)
   ·exact ⟨by omega, fun a c' ha hc' => if h9 : j ≤ a then hinv.2 a c' h9 hc' else (by have e : a = j - 1 := (by omega); subst e; rw [hc0 (by omega)] at hc'; injection hc' with hc'; subst hc'; exact hgt.2)⟩
   ·omega
  ·intro h42
   have hng : 0 < j → Op.bytesLess x.Key c.Key = false := fun h => by rw [R7]; simpa [h] using h42
   refine H3 ?_
   refine A3 (A3 ?_)
   refine K3 (by kernel_rfl) (by kernel_rfl) rfl ?_
   refine B5 rfl rfl (C6 rfl (A0 rfl)) ?_
   refine B5 rfl rfl (P8 rfl (A0 rfl) C4) ?_
   refine B5 rfl rfl (C6 rfl (A0 rfl)) ?_
   refine E1 rfl (C2 rfl rfl rfl) (fun hc => C6 rfl (A0 rfl)) ?_
   refine E1 rfl (C2 rfl rfl rfl) (fun hc => C6 rfl (A0 rfl)) ?_
   refine E1 rfl (C2 rfl rfl rfl) (fun hc => Q0 rfl (B0 rfl hc) C4 (by first | omega | ((try simp only [A6, A7, B2, B7, A8, szR] at *); omega) | (have hc2 := hc; simp only [Bool.and_eq_true, Bool.or_eq_true, Bool.or_eq_false_iff, Bool.and_eq_false_iff, Bool.not_eq_true', Bool.not_eq_false', decide_eq_true_eq, decide_eq_false_iff_not, beq_iff_eq, bne_iff_ne, A6, A7] at hc2; omega))) ?_
   refine E1 rfl (C2 rfl rfl rfl) (fun hc => U4 2 rfl D8 F0 (B0 rfl hc) rfl (B0 rfl hc) (by first | omega | ((try simp only [A6, A7, B2, B7, A8, szR] at *); omega) | (have hc2 := hc; simp only [Bool.and_eq_true, Bool.or_eq_true, Bool.or_eq_false_iff, Bool.and_eq_false_iff, Bool.not_eq_true', Bool.not_eq_false', decide_eq_true_eq, decide_eq_false_iff_not, beq_iff_eq, bne_iff_ne, A6, A7] at hc2; omega)) (by first | omega | ((try simp only [A6, A7, B2, B7, A8, szR] at *); omega) | (have hc2 := hc; simp only [Bool.and_eq_true, Bool.or_eq_true, Bool.or_eq_false_iff, Bool.and_eq_false_iff, Bool.not_eq_true', Bool.not_eq_false', decide_eq_true_eq, decide_eq_false_iff_not, beq_iff_eq, bne_iff_ne, A6, A7] at hc2; omega))) ?_
   refine E1 rfl (C2 rfl rfl rfl) (fun hc => i0 2 rfl G5 rfl F5 (B0 rfl hc) rfl rfl (hrow0 (by first | omega | ((try simp only [A6, A7, B2, B7, A8, szR] at *); omega) | (have hc2 := hc; simp only [Bool.and_eq_true, Bool.or_eq_true, Bool.or_eq_false_iff, Bool.and_eq_false_iff, Bool.not_eq_true', Bool.not_eq_false', decide_eq_true_eq, decide_eq_false_iff_not, beq_iff_eq, bne_iff_ne, A6, A7] at hc2; omega)))) ?_
   refine E1 rfl (C2 rfl rfl rfl) (fun hc => m6 2 rfl (B0 rfl hc) rfl H1 (hrow0 (by first | omega | ((try simp only [A6, A7, B2, B7, A8, szR] at *); omega) | (have hc2 := hc; simp only [Bool.and_eq_true, Bool.or_eq_true, Bool.or_eq_false_iff, Bool.and_eq_false_iff, Bool.not_eq_true', Bool.not_eq_false', decide_eq_true_eq, decide_eq_false_iff_not, beq_iff_eq, bne_iff_ne, A6, A7] at hc2; omega))) rfl) ?_
   refine E1 rfl (C2 rfl rfl rfl) (fun hc => B3 0 rfl I1 rfl F5 (A0 rfl) rfl) ?_
   refine E1 rfl (C2 rfl rfl rfl) (fun hc => B1 1 rfl (B0 rfl hc) rfl H1 rfl) ?_
   refine E1 rfl (C2 rfl rfl rfl) (fun hc => y5 rfl (B0 rfl hc) (B0 rfl hc)) ?_
   refine B5 rfl rfl (I6 rfl (A0 rfl) (G4 rfl)) ?_
   refine O1 ?_
   refine C7 (A0 rfl) ?_ ?_
   ·intro h57
    have hf : 0 < j ∧ c.Key = x.Key := by simpa using h57
    have hc := hc0 (by omega)
    have hy := hy0 (by omega)
    have hins := Al3 hinvo.2.2.1.1 hc hf.2 ⟨t, x.Val, x.Gone⟩
    refine A3 (A3 (A2 ?_))
    refine A5 rfl rfl rfl rfl rfl ?_
    refine A1 rfl rfl rfl (B3 0 rfl I1 rfl F5 (A0 rfl) rfl) ?_
    refine A1 rfl rfl rfl (B1 1 rfl (A0 rfl) rfl H1 rfl) ?_
    refine A1 rfl rfl rfl (V8 rfl Tryz.call203 rfl (AG2 q x.Key hinvo.2.2.1 hso) (G1 _ _) (N3 (g9 (A0 rfl) (k5 TCell.lcM (by first | exact hlen | exact hlen.trans (o3 _ _).symm) 2 rfl (fun o ho => List.mem_of_mem_drop (i := 3) (show o ∈ nin TCell.ow q xs from by first | exact ho | exact List.mem_append_left _ ho | exact List.mem_append_right _ ho | exact List.mem_append_right _ (List.mem_append_left _ ho) | exact List.mem_append_right _ (List.mem_append_right _ ho))))) (N3 (evb (A0 rfl)) U3))) ?_
    refine A5 rfl rfl rfl rfl rfl ?_
    refine A1 rfl rfl rfl (d6 rfl (A0 rfl) (A0 rfl)) ?_
    refine A4 ?_
    refine C7 (A0 rfl) ?_ ?_
    ·intro h63
     have k63 := of_decide_eq_true h63; try simp only [A6] at k63
     have he : putP l w t = ([], false) := by unfold putP; rw [An4 hinvo.2.2.2.2 hx k63]
     rw [he]
     refine A3 (A2 ?_)
     refine A1 rfl rfl rfl (C3 rfl K5) ?_
     refine A1 rfl rfl rfl (C3 rfl F4) ?_
     refine A4 ?_
     refine C8 ?_
     refine T6 142 2 ?_
     first | exact K1 [0] ((Value.slice none 0 0), []) (rfl) rfl (by rfl) (T2 rfl (by decide) (E6 (C5 rfl (by rfl)) (E6 (C5 rfl (by rfl)) K8))) | exact p4 [0] 3 (nin TCell.ow q xs) [] ((Value.slice none 0 0), []) (rfl) rfl (show List.Perm (nin TCell.ow q xs) ((nin TCell.ow q xs) ++ []) from c6) (by rfl) (T2 rfl (by decide) (E6 (C5 rfl (by rfl)) (E6 (C5 rfl (by rfl)) K8))) | exact K1 [0] ((Value.slice none 0 0), xs) (hinv.2.1) rfl (by rfl) (T2 rfl (by decide) (E6 (C5 rfl (by rfl)) (E6 (C5 rfl (by rfl)) K8))) | exact p4 [0] 3 (nin TCell.ow q xs) [] ((Value.slice none 0 0), xs) (hinv.2.1) rfl (show List.Perm (nin TCell.ow q xs) ((nin TCell.ow q xs) ++ []) from c6) (by rfl) (T2 rfl (by decide) (E6 (C5 rfl (by rfl)) (E6 (C5 rfl (by rfl)) K8)))
    ·intro h63
     have k63 := of_decide_eq_false h63; try simp only [A6] at k63
     have hnt : ¬ t ≤ lastTime q x.Key := k63
     have hpo := (List.getElem?_eq_some_iff.1 hc).1
     have hA : (nrows TCell.ocs (q.take (j - 1)) (xs.take (j - 1))).length = ((j : Int) - 1).toNat := (AY3 (ocs := TCell.ocs) hc hy).trans (hj1 hf.1).symm
     obtain ⟨fx, hto⟩ : ∃ fx, RowsTo (nrows TCell.ocs (q.take (j - 1)) (xs.take (j - 1))) c.Key (c.Vers.map TVer.cs ++ [TVer.cs ⟨t, x.Val, x.Gone⟩]) (nrows TCell.ocs (q.drop (j - 1 + 1)) (xs.drop (j - 1 + 1))) (nin TCell.ow (q.eraseIdx (j - 1)) (xs.eraseIdx (j - 1))) (putC1 q x t) fx := ⟨_, by have h7 := AZ6 hc hy hlen ⟨t, x.Val, x.Gone⟩; unfold putC1; rw [hins]; rw [hf.2] at h7 ⊢; exact h7⟩
     have hcs := d5 (Nat.le_trans (V6 hc) hso)
     rw [w7 hc hy]
     refine AWP.le (l9 3 (t := (TCell.ow c y) ++ (nin TCell.ow (q.eraseIdx (j - 1)) (xs.eraseIdx (j - 1)))) (AH2 (ow := TCell.ow) hc hy)) ?_
     refine D2 (A3 ?_)
     refine AWP.le (I8 [0, 1, 1] rfl) ?_
     refine T3 _ [(0, false), (1, false), (2, false), (3, false), (4, false), (5, false), (6, false), (7, false), (8, false), (9, false), (10, false), (11, true)] (by kernel_rfl) (by kernel_rfl) rfl (W9 2) ?_
     refine F9 rfl rfl rfl (fun ext => C6 rfl (A0 rfl)) ?_
     refine F9 rfl rfl rfl (fun ext => C6 rfl (A0 rfl)) ?_
     refine F9 rfl rfl rfl (fun ext => Q0 rfl (A0 rfl) C4 (by first | omega | (simp only [A6, A7, B2, B7, A8, szR] at *; omega))) ?_
     refine F9 rfl rfl rfl (fun ext => C6 rfl (A0 rfl)) ?_
     refine F9 rfl rfl rfl (fun ext => C6 rfl (A0 rfl)) ?_
     refine F9 rfl rfl rfl (fun ext => Q0 rfl (A0 rfl) C4 (by first | omega | (simp only [A6, A7, B2, B7, A8, szR] at *; omega))) ?_
     refine F9 rfl rfl rfl (fun ext => U4 1 rfl D8 F0 (A0 rfl) rfl (A0 rfl) (by omega) (by rw [J1, B2]; omega)) ?_
     refine F9 rfl rfl rfl (fun ext => i0 1 rfl G5 rfl M0 (A0 rfl) rfl rfl (c0 hA)) ?_
     refine F9 rfl rfl rfl (fun ext => m6 1 rfl (A0 rfl) rfl P4 (c0 hA) rfl) ?_
     refine F9 rfl rfl rfl (fun ext => F2 0 rfl (A0 rfl) rfl i8 N2 rfl) ?_
     refine F9 rfl rfl rfl (fun ext => L9 rfl I5 N2 Tryz.zeroValue197 rfl rfl rfl rfl (E0 (A0 rfl) (E2 _) H6) rfl rfl) ?_
     refine U1 rfl rfl rfl (P7 (by' := 32) 2 rfl I5 Tryz.type197 rfl rfl rfl rfl rfl rfl (A0 rfl) (A0 rfl) rfl (by first | omega | (simp only [A6, A7, B2, B7, A8, szR] at *; omega))) (fun a _ => (by first | exact F8 rfl | exact F8 (List.append_assoc _ _ _) | exact J5)) ?_
     intro v75_2 _
     refine i3 ?_
     refine A1 rfl rfl rfl (U4 1 rfl D8 F0 (A0 rfl) rfl (A0 rfl) (by omega) (by rw [J1, B2]; omega)) ?_
     refine A1 rfl rfl rfl (i0 1 rfl G5 rfl M0 (A0 rfl) rfl rfl (c0 hA)) ?_
     refine Q8 2 rfl fun one_v75_2 => ?_
     refine r5 1 rfl rfl rfl (A0 rfl) (A0 rfl) (Q9 one_v75_2) rfl M0 hA rfl ?_
     refine A4 ?_
     refine H3 ?_
     refine L1 (by first | (simp only [List.singleton_append, pick, O9, O6, O7, O3, N5, List.nil_append, P0, P1, List.append_nil, O4, List.take_zero, O8, List.drop_zero]; exact rfl) | exact rfl) ?_
     refine AWP.le (I8 [0, 0, 1, 0] rfl) ?_
     refine AWP.le (l9 3 (t := nin TCell.ow (putC1 q x t) (fx v75_2)) ((hto v75_2).2.2)) ?_
     refine A2 ?_
     refine A1 rfl rfl rfl (G7 rfl (A0 rfl) C4 (by first | omega | (simp only [A6, A7, B2, B7, A8, szR] at *; omega))) ?_
     refine A5 rfl rfl rfl rfl rfl ?_
     refine A4 ?_
     refine X1 i v q xs (i + 1) (v) (putC1 q x t) (fx v75_2) ?_ ?_ (Le.trans (I8 [0, 1, 0] rfl) (M1 2 (Eq.trans (by first | exact congrArg (fun z => Own.arr _ _ _ z :: _) (hto v75_2).2.1 | exact congrArg (fun z => Own.arr _ _ _ z :: _) (by first | (rw [List.nil_append, List.append_assoc]; exact (hto v75_2).2.1) | (rw [List.append_assoc]; exact (hto v75_2).2.1))) (List.append_nil _).symm) ⟨rfl, rfl, rfl, rfl, rfl, trivial⟩))
     ·exact ⟨by omega, (hto _).1, f8 hinvo.2.2.1 _ _, by have h8 := j9 q x t; have h9 := c9 (f := TWrite.size) hx; omega, u5 hinvo.2.2.2.2 hx hnt⟩
     ·omega
   ·intro h57
    have hnf : 0 < j → c.Key ≠ x.Key := fun h => by simpa [h] using h57
    obtain ⟨hins, hl0⟩ := scan_new hinvo.2.2.1.1 hinv.1 hinv.2 (fun z hz hzz => by rw [hc0 (by omega)] at hzz; injection hzz with hzz; subst hzz; rw [R7, hng hz]; simpa using fun e => hnf hz e.symm) ⟨t, x.Val, x.Gone⟩
    have hnt : ¬ t ≤ lastTime q x.Key := by rw [hl0]; omega
    obtain ⟨fx, hto⟩ : ∃ fx, RowsTo ((nrows TCell.ocs q xs).take j) x.Key [TVer.cs ⟨t, x.Val, x.Gone⟩] ((nrows TCell.ocs q xs).drop j) (nin TCell.ow q xs) (putC1 q x t) fx := ⟨_, by unfold putC1; rw [hins]; exact AZ7 hinv.1 hlen _ _⟩
    refine D2 (A3 ?_)
    refine AWP.le (c7 [2] 8 rfl rfl (M6 (G6 (i := 0) rfl) J0) O5) ?_
    refine A2 ?_
    refine S4 rfl rfl rfl rfl D8 F0 ?_
    intro v78
    refine A5 rfl rfl rfl rfl rfl ?_
    refine A5 rfl rfl rfl rfl rfl ?_
    refine A1 rfl rfl rfl (Ak3 rfl D8 F0 (A0 rfl) (A0 rfl) (by omega) (by rw [hrl]; omega)) ?_
    refine L5 (by' := 40) 0 rfl rfl rfl rfl D8 Tryz.type142 rfl rfl rfl rfl rfl rfl (A0 rfl) (A0 rfl) rfl (by simp only [B7, List.nil_append, J1, A7, List.length_drop, B2, A8, hrl]; omega) ?_
    intro v82_3
    refine B9 rfl rfl rfl rfl rfl ?_
    refine A4 ?_
    refine AWP.le (c7 [0] 13 rfl rfl (M6 (G6 (i := 0) rfl) J0) O5) ?_
    refine AWP.le (I8 [0, 0] rfl) ?_
    refine V7 _ 14 (.pure 1 (.pure 2 (.pure 3 (.pure 5 (.pure 6 (.pure 7 (.pure 12 (.e2 0 (.e2 4 (.e1 8 (.pure 9 (.pure 10 (.e1 11 (.e1 13 .nil))))) 8 (.pure 9 (.pure 10 (.e1 4 (.e1 11 (.e1 13 .nil)))))) 8 (.pure 9 (.pure 10 (.e1 0 (.e1 4 (.e1 11 (.e1 13 .nil)))))))))))))) (by kernel_rfl) (by kernel_rfl) rfl (W9 2) ?_
    refine J2 rfl rfl rfl (fun ext => C6 rfl (A0 rfl)) ?_
    refine J2 rfl rfl rfl (fun ext => C6 rfl (A0 rfl)) ?_
    refine J2 rfl rfl rfl (fun ext => Ak2 rfl D8 F0 (A0 rfl) (A0 rfl) (by omega) (by rw [hrl]; omega)) ?_
    refine J2 rfl rfl rfl (fun ext => B3 0 rfl I1 rfl F5 (A0 rfl) rfl) ?_
    refine J2 rfl rfl rfl (fun ext => B1 1 rfl (A0 rfl) rfl H1 rfl) ?_
    refine J2 rfl rfl rfl (fun ext => F2 0 rfl (A0 rfl) rfl i8 N2 rfl) ?_
    refine J2 rfl rfl rfl (fun ext => C6 rfl (A0 rfl)) ?_
    refine AJ5 ?_ ?_
    ·refine U0 rfl rfl rfl (AC9 2 <| a6 rfl D8 F0) (fun a _ => (by first | exact F8 rfl | exact F8 (List.append_assoc _ _ _) | exact J5)) ?_
     intro v83 _
     refine AJ5 ?_ ?_
     ·refine U0 rfl rfl rfl (P7 (by' := 40) 2 rfl D8 Tryz.type142 rfl rfl rfl rfl rfl rfl (A0 rfl) (A0 rfl) rfl (by simp only [B7, List.nil_append, J1, A7, List.length_drop, B2, A8, hrl]; omega)) (fun a _ => (by first | exact F8 rfl | exact F8 (List.append_assoc _ _ _) | exact J5)) ?_
      intro v87_4 _
      refine X0 ?_
      refine U0 rfl rfl rfl (e6 3 (fun _ => rfl) (AC9 3 <| AB6 rfl I5 N2 Tryz.zeroValue197 rfl rfl rfl rfl (E0 (A0 rfl) (E2 _) H6) rfl rfl)) (fun a _ => (by first | exact F8 rfl | exact F8 (List.append_assoc _ _ _) | exact J5)) ?_
      intro v91 hone_v91
      have one_v91 := hone_v91.2
      refine J2 rfl rfl rfl (fun ext => N0 (places := #[(0, 1), (1, 1)]) rfl G5 Tryz.zeroValue142 (fun w => by kernel_rfl) rfl (E0 (A0 rfl) (P6 _) (E0 (A0 rfl) (Q9 one_v91) H6)) rfl) ?_
      refine J2 rfl rfl rfl (fun ext => L9 rfl D8 F0 Tryz.zeroValue142 rfl rfl rfl rfl (E0 (A0 rfl) (E2 _) H6) rfl rfl) ?_
      refine X0 ?_
      refine U0 rfl rfl rfl (P7 (by' := 40) 2 rfl D8 Tryz.type142 rfl rfl rfl rfl rfl rfl (A0 rfl) (A0 rfl) rfl (by simp only [B7, List.nil_append, J1, A7, List.length_drop, B2, A8, hrl]; omega)) (fun a _ => (by first | exact F8 rfl | exact F8 (List.append_assoc _ _ _) | exact J5)) ?_
      intro v94_5 _
      refine X0 ?_
      refine U0 rfl rfl rfl (P7 (by' := 40) 2 rfl D8 Tryz.type142 rfl rfl rfl rfl rfl rfl (A0 rfl) (A0 rfl) rfl (by simp only [B7, List.nil_append, J1, A7, List.length_drop, B2, A8, hrl]; omega)) (fun a _ => (by first | exact F8 rfl | exact F8 (List.append_assoc _ _ _) | exact J5)) ?_
      intro v96_6 _
      refine d4 ?_
      refine B9 rfl rfl rfl rfl rfl ?_
      refine A4 ?_
      refine L1 (by first | (simp only [List.singleton_append, pick, O9, O6, O7, O3, N5, List.nil_append, P0, P1, List.append_nil, O4, List.take_zero, O8, List.drop_zero]; exact rfl) | exact rfl) ?_
      refine AWP.le (I8 [0, 0, 0, 0] rfl) ?_
      refine AWP.le (l9 3 (t := nin TCell.ow (putC1 q x t) (fx v91)) ((hto v91).2.2)) ?_
      refine A2 ?_
      refine A1 rfl rfl rfl (G7 rfl (A0 rfl) C4 (by first | omega | (simp only [A6, A7, B2, B7, A8, szR] at *; omega))) ?_
      refine A5 rfl rfl rfl rfl rfl ?_
      refine A4 ?_
      refine X1 i v q xs (i + 1) (v96_6) (putC1 q x t) (fx v91) ?_ ?_ (Le.trans (I8 [0, 0, 0] rfl) (M1 2 (Eq.trans (by first | exact congrArg (fun z => Own.arr _ _ _ z :: _) (hto v91).2.1 | exact congrArg (fun z => Own.arr _ _ _ z :: _) (by first | (rw [List.nil_append, List.append_assoc]; exact (hto v91).2.1) | (rw [List.append_assoc]; exact (hto v91).2.1))) (List.append_nil _).symm) ⟨rfl, rfl, rfl, rfl, rfl, trivial⟩))
      ·exact ⟨by omega, (hto _).1, f8 hinvo.2.2.1 _ _, by have h8 := j9 q x t; have h9 := c9 (f := TWrite.size) hx; omega, u5 hinvo.2.2.2.2 hx hnt⟩
      ·omega
     ·refine U0 rfl rfl rfl (e6 3 (fun _ => rfl) (AC9 3 <| AB6 rfl I5 N2 Tryz.zeroValue197 rfl rfl rfl rfl (E0 (A0 rfl) (E2 _) H6) rfl rfl)) (fun a _ => (by first | exact F8 rfl | exact F8 (List.append_assoc _ _ _) | exact J5)) ?_
      intro v91 hone_v91
      have one_v91 := hone_v91.2
      refine J2 rfl rfl rfl (fun ext => N0 (places := #[(0, 1), (1, 1)]) rfl G5 Tryz.zeroValue142 (fun w => by kernel_rfl) rfl (E0 (A0 rfl) (P6 _) (E0 (A0 rfl) (Q9 one_v91) H6)) rfl) ?_
      refine J2 rfl rfl rfl (fun ext => L9 rfl D8 F0 Tryz.zeroValue142 rfl rfl rfl rfl (E0 (A0 rfl) (E2 _) H6) rfl rfl) ?_
      refine X0 ?_
      refine U0 rfl rfl rfl (P7 (by' := 40) 2 rfl D8 Tryz.type142 rfl rfl rfl rfl rfl rfl (A0 rfl) (A0 rfl) rfl (by simp only [B7, List.nil_append, J1, A7, List.length_drop, B2, A8, hrl]; omega)) (fun a _ => (by first | exact F8 rfl | exact F8 (List.append_assoc _ _ _) | exact J5)) ?_
      intro v87_7 _
      refine X0 ?_
      refine U0 rfl rfl rfl (P7 (by' := 40) 2 rfl D8 Tryz.type142 rfl rfl rfl rfl rfl rfl (A0 rfl) (A0 rfl) rfl (by simp only [B7, List.nil_append, J1, A7, List.length_drop, B2, A8, hrl]; omega)) (fun a _ => (by first | exact F8 rfl | exact F8 (List.append_assoc _ _ _) | exact J5)) ?_
      intro v94_8 _
      refine X0 ?_
      refine U0 rfl rfl rfl (P7 (by' := 40) 2 rfl D8 Tryz.type142 rfl rfl rfl rfl rfl rfl (A0 rfl) (A0 rfl) rfl (by simp only [B7, List.nil_append, J1, A7, List.length_drop, B2, A8, hrl]; omega)) (fun a _ => (by first | exact F8 rfl | exact F8 (List.append_assoc _ _ _) | exact J5)) ?_
      intro v96_9 _
      refine d4 ?_
      refine B9 rfl rfl rfl rfl rfl ?_
      refine A4 ?_
      refine L1 (by first | (simp only [List.singleton_append, pick, O9, O6, O7, O3, N5, List.nil_append, P0, P1, List.append_nil, O4, List.take_zero, O8, List.drop_zero]; exact rfl) | exact rfl) ?_
      refine AWP.le (I8 [0, 0, 0, 0] rfl) ?_
      refine AWP.le (l9 3 (t := nin TCell.ow (putC1 q x t) (fx v91)) ((hto v91).2.2)) ?_
      refine A2 ?_
      refine A1 rfl rfl rfl (G7 rfl (A0 rfl) C4 (by first | omega | (simp only [A6, A7, B2, B7, A8, szR] at *; omega))) ?_
      refine A5 rfl rfl rfl rfl rfl ?_
      refine A4 ?_
      refine X1 i v q xs (i + 1) (v96_9) (putC1 q x t) (fx v91) ?_ ?_ (Le.trans (I8 [0, 0, 0] rfl) (M1 2 (Eq.trans (by first | exact congrArg (fun z => Own.arr _ _ _ z :: _) (hto v91).2.1 | exact congrArg (fun z => Own.arr _ _ _ z :: _) (by first | (rw [List.nil_append, List.append_assoc]; exact (hto v91).2.1) | (rw [List.append_assoc]; exact (hto v91).2.1))) (List.append_nil _).symm) ⟨rfl, rfl, rfl, rfl, rfl, trivial⟩))
      ·exact ⟨by omega, (hto _).1, f8 hinvo.2.2.1 _ _, by have h8 := j9 q x t; have h9 := c9 (f := TWrite.size) hx; omega, u5 hinvo.2.2.2.2 hx hnt⟩
      ·omega
    ·refine U0 rfl rfl rfl (e6 2 (fun _ => rfl) (AC9 2 <| AB6 rfl I5 N2 Tryz.zeroValue197 rfl rfl rfl rfl (E0 (A0 rfl) (E2 _) H6) rfl rfl)) (fun a _ => (by first | exact F8 rfl | exact F8 (List.append_assoc _ _ _) | exact J5)) ?_
     intro v91 hone_v91
     have one_v91 := hone_v91.2
     refine J2 rfl rfl rfl (fun ext => N0 (places := #[(0, 1), (1, 1)]) rfl G5 Tryz.zeroValue142 (fun w => by kernel_rfl) rfl (E0 (A0 rfl) (P6 _) (E0 (A0 rfl) (Q9 one_v91) H6)) rfl) ?_
     refine J2 rfl rfl rfl (fun ext => L9 rfl D8 F0 Tryz.zeroValue142 rfl rfl rfl rfl (E0 (A0 rfl) (E2 _) H6) rfl rfl) ?_
     refine X0 ?_
     refine U0 rfl rfl rfl (AC9 3 <| a6 rfl D8 F0) (fun a _ => (by first | exact F8 rfl | exact F8 (List.append_assoc _ _ _) | exact J5)) ?_
     intro v83 _
     refine X0 ?_
     refine U0 rfl rfl rfl (P7 (by' := 40) 3 rfl D8 Tryz.type142 rfl rfl rfl rfl rfl rfl (A0 rfl) (A0 rfl) rfl (by simp only [B7, List.nil_append, J1, A7, List.length_drop, B2, A8, hrl]; omega)) (fun a _ => (by first | exact F8 rfl | exact F8 (List.append_assoc _ _ _) | exact J5)) ?_
     intro v87_10 _
     refine X0 ?_
     refine U0 rfl rfl rfl (P7 (by' := 40) 3 rfl D8 Tryz.type142 rfl rfl rfl rfl rfl rfl (A0 rfl) (A0 rfl) rfl (by simp only [B7, List.nil_append, J1, A7, List.length_drop, B2, A8, hrl]; omega)) (fun a _ => (by first | exact F8 rfl | exact F8 (List.append_assoc _ _ _) | exact J5)) ?_
     intro v94_11 _
     refine X0 ?_
     refine U0 rfl rfl rfl (P7 (by' := 40) 3 rfl D8 Tryz.type142 rfl rfl rfl rfl rfl rfl (A0 rfl) (A0 rfl) rfl (by simp only [B7, List.nil_append, J1, A7, List.length_drop, B2, A8, hrl]; omega)) (fun a _ => (by first | exact F8 rfl | exact F8 (List.append_assoc _ _ _) | exact J5)) ?_
     intro v96_12 _
     refine d4 ?_
     refine B9 rfl rfl rfl rfl rfl ?_
     refine A4 ?_
     refine L1 (by first | (simp only [List.singleton_append, pick, O9, O6, O7, O3, N5, List.nil_append, P0, P1, List.append_nil, O4, List.take_zero, O8, List.drop_zero]; exact rfl) | exact rfl) ?_
     refine AWP.le (I8 [0, 0, 1, 0] rfl) ?_
     refine AWP.le (l9 3 (t := nin TCell.ow (putC1 q x t) (fx v91)) ((hto v91).2.2)) ?_
     refine A2 ?_
     refine A1 rfl rfl rfl (G7 rfl (A0 rfl) C4 (by first | omega | (simp only [A6, A7, B2, B7, A8, szR] at *; omega))) ?_
     refine A5 rfl rfl rfl rfl rfl ?_
     refine A4 ?_
     refine X1 i v q xs (i + 1) (v96_12) (putC1 q x t) (fx v91) ?_ ?_ (Le.trans (I8 [0, 0, 0] rfl) (M1 2 (Eq.trans (by first | exact congrArg (fun z => Own.arr _ _ _ z :: _) (hto v91).2.1 | exact congrArg (fun z => Own.arr _ _ _ z :: _) (by first | (rw [List.nil_append, List.append_assoc]; exact (hto v91).2.1) | (rw [List.append_assoc]; exact (hto v91).2.1))) (List.append_nil _).symm) ⟨rfl, rfl, rfl, rfl, rfl, trivial⟩))
     ·exact ⟨by omega, (hto _).1, f8 hinvo.2.2.1 _ _, by have h8 := j9 q x t; have h9 := c9 (f := TWrite.size) hx; omega, u5 hinvo.2.2.2.2 hx hnt⟩
     ·omega
 ·intro h19
  have k19 := of_decide_eq_false h19; try simp only [A6] at k19
  have hge : w.length ≤ i := by omega
  have hpe := Au3 hinv.2.2.2.2 hge
  have htk := r8 (f := TWrite.size) (l := w) i
  have hso : sizeL TCell.size q ≤ 4194304 := by omega
  have he : putP l w t = (q, l3Good q) := by unfold putP; rw [hpe]
  rw [he]
  refine H3 ?_
  refine A3 (A2 ?_)
  refine A5 rfl rfl rfl rfl rfl ?_
  refine A5 rfl rfl rfl rfl rfl ?_
  refine A1 rfl rfl rfl (V8 rfl Tryz.call201 rfl (AT4 q hso) (G3 _) (N3 (g9 (A0 rfl) (k5 TCell.lcM (by first | exact hlen | exact hlen.trans (o3 _ _).symm) 0 rfl (fun o ho => List.mem_of_mem_drop (i := 1) (show o ∈ nin TCell.ow q xs from by first | exact ho | exact List.mem_append_left _ ho | exact List.mem_append_right _ ho | exact List.mem_append_right _ (List.mem_append_left _ ho) | exact List.mem_append_right _ (List.mem_append_right _ ho))))) U3)) ?_
  refine B9 rfl rfl rfl rfl rfl ?_
  refine B9 rfl rfl rfl rfl rfl ?_
  refine A4 ?_
  refine C8 ?_
  first | exact K1 [0] (v, []) (rfl) rfl (by rfl) (T2 rfl (by decide) (E6 (C5 rfl (by rfl)) (E6 (C5 rfl (by rfl)) K8))) | exact p4 [0] 0 (nin TCell.ow q xs) [] (v, []) (rfl) rfl (show List.Perm (nin TCell.ow q xs) ((nin TCell.ow q xs) ++ []) from c6) (by rfl) (T2 rfl (by decide) (E6 (C5 rfl (by rfl)) (E6 (C5 rfl (by rfl)) K8))) | exact p4 [0] 0 (nin TCell.ow q xs) [] (v, xs) (hinv.2.1) rfl (show List.Perm (nin TCell.ow q xs) ((nin TCell.ow q xs) ++ []) from c6) (by rfl) (T2 rfl (by decide) (E6 (C5 rfl (by rfl)) (E6 (C5 rfl (by rfl)) K8)))
end Go.Proofs.YtnlhbdkcgaeimaaGreat

set_option linter.unusedVariables false
namespace Go.AV
section
variable {P : Program} {G : Nat → Prop} {n : Nat} {own : List Own} {env : List (Nat × AV)} {fn : Func}
theorem AP4 {sel : List Own} {cs : List AV} {sz : Nat} (j : Nat) (h : cs[j]? = some AV.nils) : LendC sel cs (cs.set j (AV.list sz [])) := ⟨by rw [List.length_set], fun i x y hx hy => by
  by_cases e : j = i
  · subst e
    rw [List.getElem?_set_self (List.getElem?_eq_some_iff.1 h).1] at hy
    rw [h] at hx
    injection hx with hx; injection hy with hy; subst hx; subst hy
    exact lt_nils
  · rw [List.getElem?_set_ne e, hx] at hy
    injection hy with hy; subst hy; exact L6⟩
theorem AW3 {E : EnvF} {q : Operand} {v : Value} {e : TypeId} {sz : Nat} {es : List (List AV)} (i : Nat) (hi : own[i]? = some (.arr v e sz es)) (hq : Ev E q (AV.is v)) : SrcE own E q sz es := fun G w0 R0 R a w hc he => by
  have e1 : a.eval q = _ := hq R a he
  have hok := hc.owned _ (G6 hi)
  have hu := hok.2.1
  refine ⟨hu, ?_⟩
  obtain ⟨_, _, xs0, hown0, _⟩ := hok
  rcases hown0.2 with ⟨h1, h2⟩ | ⟨g, cap, cur0, h1, _⟩
  · subst h1
    have h3 : es = [] := List.eq_nil_of_length_eq_zero h2
    subst h3
    exact ⟨none, 0, [], e1, fun h => absurd rfl h⟩
  · subst h1
    by_cases hne : es = []
    · subst hne; exact ⟨_, cap, [], e1, fun h => absurd rfl h⟩
    · have hsrc := Z2 (own := own) (E := E) (q := q) i hi hq
      obtain ⟨_, h7⟩ := hsrc G w0 R0 R a w hc he
      obtain ⟨ad, c, vs, k1, k2, k3⟩ := h7 hne
      exact ⟨_, c, vs, k1, fun _ => ⟨ad, rfl, k2, k3⟩⟩
theorem Ag6 {o : Oper} {ops : Array Oper} {E : EnvF} {α : Type} {ok : α → Prop} {W' : α → List Own} {V : α → AV} {sel rest : α → List Own} {Y : α → AV} (is : List Nat) (hp : ∀ a, pick (W' a) is = (sel a, rest a)) (hl : ∀ a, LendTo (sel a) (V a) (Y a)) (hG : ∀ a b, G b → b ∈ (rest a).filterMap Own.blk)
    (h : OpE P G n own ops o E ok W' V) : OpE P G n own ops o E ok rest Y := fun w0 R0 R a w h1 h2 h3 =>
  Oper.wp_mono2 (fun a' w' ⟨x, v, R', e0, e1, e2, e3, e4⟩ =>
    have hk := j3 e2 (hp x)
    ⟨x, v, lend (sel x) w' R', e0, e1, AK2 hk (hG x), e3.trans (f0 (U8 hk)), hl x G w0 R0 R' w' v (U8 hk) e4⟩) (fun _ _ _ h => h) (h w0 R0 R a w h1 h2 h3)
theorem l4 (i j sz : Nat) {b : Nat} {t : TypeId} {cs : List AV} (hi : own[i]? = some (.box b t cs)) (hj : cs[j]? = some AV.nils) (hG : ∀ b, G b → b ∈ own.filterMap Own.blk) : Le G n ⟨own, env⟩ ⟨own.set i (.box b t (cs.set j (AV.list sz []))), env⟩ :=
  u4 [] i (.box b t (cs.set j (AV.list sz []))) rfl hi ⟨rfl, rfl, AP4 j hj⟩ hG
theorem S8 {α : Type} {ok : α → Prop} {O : α → List Own} {V : α → AV} (i j sz : Nat) {b : Nat} {t : TypeId} {cs : List AV} (hi : own[i]? = some (.box b t cs)) (hj : cs[j]? = some AV.nils) (hG : ∀ b, G b → b ∈ own.filterMap Own.blk)
    (k : RetOkG P G n fn ⟨own.set i (.box b t (cs.set j (AV.list sz []))), env⟩ ok O V) : RetOkG P G n fn ⟨own, env⟩ ok O V := fun w0 R0 R a w hs => by
  have hle : Le G n ⟨own, env⟩ ⟨own.set i (.box b t (cs.set j (AV.list sz []))), env⟩ := u4 [] i (.box b t (cs.set j (AV.list sz []))) rfl hi ⟨rfl, rfl, AP4 j hj⟩ hG
  obtain ⟨R1, h1, h2⟩ := hle w0 R0 R a w hs
  obtain ⟨x, v, R2, g0, g1, g2, g3, g4⟩ := k w0 R0 R1 a w h2
  exact ⟨x, v, R2, g0, g1, g2, h1.trans g3, g4⟩
theorem AT9 {y : AV} (i j sz : Nat) {b : Nat} {t : TypeId} {cs : List AV} (hi : own[i]? = some (.box b t cs)) (hj : cs[j]? = some AV.nils)
    (k : RetOk P (fun _ => False) n fn ⟨own.set i (.box b t (cs.set j (AV.list sz []))), env⟩ y) : RetOk P (fun _ => False) n fn ⟨own, env⟩ y := fun w0 R0 R a w hs => by
  have hle : Le (fun _ => False) n ⟨own, env⟩ ⟨own.set i (.box b t (cs.set j (AV.list sz []))), env⟩ := u4 [] i (.box b t (cs.set j (AV.list sz []))) rfl hi ⟨rfl, rfl, AP4 j hj⟩ Ag0
  obtain ⟨R1, h1, h2⟩ := hle w0 R0 R a w hs
  obtain ⟨v, R2, h3, h4, h5, h6⟩ := k w0 R0 R1 a w h2
  exact ⟨v, R2, h3, h4, h1.trans h5, h6⟩
end
end Go.AV

set_option linter.unusedVariables false
set_option linter.unusedSimpArgs false
set_option maxRecDepth 100000
set_option maxHeartbeats 1000000
namespace Go.M
open Go.AV
theorem AP5 {h : THeld} : ∀ {l : List THeld} {p : Nat}, p ≤ l.length → (∀ i x, i < p → l[i]? = some x → x.Txn ≤ h.Txn) → (∀ x, l[p]? = some x → h.Txn < x.Txn) → insH h l = l.take p ++ h :: l.drop p
  | [], p, hp, _, _ => by simp at hp; subst hp; rfl
  | g :: l, 0, _, _, h2 => by unfold insH; rw [if_pos (h2 g rfl)]; rfl
  | g :: l, p + 1, hp, h1, h2 => by
    unfold insH
    rw [if_neg (by have := h1 0 g (by omega) rfl; omega), AP5 (by simpa using hp) (fun i x hi hx => h1 (i + 1) x (by omega) (by simpa using hx)) (fun x hx => h2 x (by simpa using hx))]
    rfl
theorem AP6 {h : TTold} : ∀ {l : List TTold} {p : Nat}, p ≤ l.length → (∀ i x, i < p → l[i]? = some x → x.Txn ≤ h.Txn) → (∀ x, l[p]? = some x → h.Txn < x.Txn) → insT h l = l.take p ++ h :: l.drop p
  | [], p, hp, _, _ => by simp at hp; subst hp; rfl
  | g :: l, 0, _, _, h2 => by unfold insT; rw [if_pos (h2 g rfl)]; rfl
  | g :: l, p + 1, hp, h1, h2 => by
    unfold insT
    rw [if_neg (by have := h1 0 g (by omega) rfl; omega), AP6 (by simpa using hp) (fun i x hi hx => h1 (i + 1) x (by omega) (by simpa using hx)) (fun x hx => h2 x (by simpa using hx))]
    rfl
theorem Ac6 (l : List THeld) (n : Int) : hPos l n ≤ l.length := Ak9 _ _ _ _ _ rfl (Nat.zero_le _) (Nat.le_refl _)
theorem Au4 (l : List TTold) (n : Int) : tPos l n ≤ l.length := Ak9 _ _ _ _ _ rfl (Nat.zero_le _) (Nat.le_refl _)
theorem insH_pos {l : List THeld} (hs : l.Pairwise fun a b => a.Txn < b.Txn) {h : THeld} (hn : hHas l h.Txn = false) : insH h l = l.take (hPos l h.Txn) ++ h :: l.drop (hPos l h.Txn) := by
  obtain ⟨h1, h2⟩ := AW2 (f := THeld.Txn) hs h.Txn
  rw [r4 hs] at hn
  refine AP5 (Ac6 _ _) (fun i x hi hx => by have := h1 i x hi hx; omega) fun x hx => ?_
  have h3 := h2 x hx
  have h4 := f9.1 hn x (G6 hx)
  omega
theorem insT_pos {l : List TTold} (hs : l.Pairwise fun a b => a.Txn < b.Txn) {h : TTold} (hn : tHas l h.Txn = false) : insT h l = l.take (tPos l h.Txn) ++ h :: l.drop (tPos l h.Txn) := by
  obtain ⟨h1, h2⟩ := AW2 (f := TTold.Txn) hs h.Txn
  rw [AR9 hs] at hn
  refine AP6 (Au4 _ _) (fun i x hi hx => by have := h1 i x hi hx; omega) fun x hx => ?_
  have h3 := h2 x hx
  have h4 := AJ9.1 hn x (G6 hx)
  omega
theorem BB1 {l : List THeld} {n : Int} (h : hHas l n = true) : ∃ x, l[hPos l n]? = some x ∧ x.Txn = n := by
  unfold hHas bsAt at h
  cases e : l[hPos l n]? with
  | none => rw [e] at h; cases h
  | some x => rw [e] at h; exact ⟨x, rfl, (AG5 _ _).1 (by simpa [hCmp] using h)⟩
theorem An6 {l : List THeld} (hs : l.Pairwise fun a b => a.Txn < b.Txn) {i j : Nat} {x y : THeld} (hx : l[i]? = some x) (hy : l[j]? = some y) (e : x.Txn = y.Txn) : i = j := by
  rcases Nat.lt_trichotomy i j with h | h | h
  · have := AD0 (f := THeld.Txn) hs h hx hy; omega
  · exact h
  · have := AD0 (f := THeld.Txn) hs h hy hx; omega
theorem BB2 {l : List THeld} (hs : l.Pairwise fun a b => a.Txn < b.Txn) {i : Nat} {x : THeld} (hx : l[i]? = some x) : findH l x.Txn = some x := by
  cases e : findH l x.Txn with
  | none =>
    rw [r6, f9] at e
    exact (e x (G6 hx) rfl).elim
  | some y =>
    obtain ⟨h1, h2⟩ := o4 e
    obtain ⟨j, hj⟩ := List.getElem?_of_mem h1
    have := An6 hs hx hj h2.symm
    subst this
    rw [hx] at hj; exact hj.symm
theorem An7 {l : List THeld} (hs : l.Pairwise fun a b => a.Txn < b.Txn) {i : Nat} {x : THeld} (hx : l[i]? = some x) : lessH l x.Txn = l.eraseIdx i := by
  have h1 : ∀ (l : List THeld) (i : Nat) (x : THeld), l[i]? = some x → (∀ j y, l[j]? = some y → y.Txn = x.Txn → j = i) → lessH l x.Txn = l.eraseIdx i := by
    intro l
    induction l with
    | nil => intro i x h; simp at h
    | cons g l ih =>
      intro i x h hu
      cases i with
      | zero =>
        simp at h; subst h
        rw [O9]
        unfold lessH
        rw [List.filter_cons_of_neg (by simp), List.filter_eq_self]
        intro y hy
        obtain ⟨j, hj⟩ := List.getElem?_of_mem hy
        simp only [bne_iff_ne, ne_eq]
        intro e
        have := hu (j + 1) y (by simpa using hj) e
        omega
      | succ i =>
        rw [O6, ← ih i x (by simpa using h) fun j y hj e => by have := hu (j + 1) y (by simpa using hj) e; omega]
        unfold lessH
        rw [List.filter_cons_of_pos]
        simp only [bne_iff_ne, ne_eq]
        intro e
        have := hu 0 g rfl e
        omega
  exact h1 l i x hx fun j y hj e => An6 hs hj hx e
theorem An8 {l : List THeld} {n : Int} (h : hasH l n = false) : lessH l n = l := by
  unfold lessH
  rw [List.filter_eq_self]
  intro y hy
  simpa using f9.1 h y hy
def THeld.ocs (h : THeld) (x : Value × Value) : List AV := [AV.int h.Txn, AV.int h.Time, AV.int h.Lead, AV.is x.1, AV.is x.2]
def TState.ocs (s : TState) (x : Value × Value) : List AV := [AV.int s.Floor, AV.list 2 (s.Cells.map TCell.cs), AV.is x.1, AV.is x.2]
def decR (s : TState) (r : TRec) : TState × Bool :=
  if r.Yes = true then (match findH s.Held r.Txn with
    | none => (zState, false)
    | some h => if r.Time < h.Time then (zState, false) else if (putP s.Cells h.Writes r.Time).2 = true then (doneS s r (if s.Floor < r.Time then r.Time else s.Floor) (putP s.Cells h.Writes r.Time).1, true) else (zState, false))
  else (doneS s r s.Floor s.Cells, true)
def appR (s : TState) (r : TRec) : TState × Bool := if (applyS s r).2 = true then ((applyS s r).1, true) else (zState, false)
theorem appR_dec {s : TState} {r : TRec} (h4 : r.Kind ≠ 4) (hT : hasT s.Told r.Txn = false) (h1 : r.Kind ≠ 1) : appR s r = decR s r := by
  unfold appR decR applyS
  rw [if_neg h4, if_neg (show ¬ hasT s.Told r.Txn = true by rw [hT]; decide), if_neg h1]
  by_cases hy : r.Yes = true
  · rw [if_pos hy, if_pos hy]
    cases findH s.Held r.Txn with
    | none => rfl
    | some h =>
      dsimp only
      split
      · rfl
      · split
        · rfl
        · rfl
  · rw [if_neg hy, if_neg hy]; rfl
end Go.M
namespace Go.Proofs.YtnlhbdkcgaeimaaGreat
open Go Go.AV Go.M
def THeld.ow (h : THeld) (x : Value × Value) : List Own := [.arr x.1 9 1 (h.Reads.map fun k => [AV.str k]), .arr x.2 77 3 (h.Writes.map TWrite.cs)]
def TState.ow (s : TState) (x : Value × Value) : List Own := [.arr x.1 45 5 (s.Held.map THeld.cs), .arr x.2 39 3 (s.Told.map TTold.cs)]
theorem THeld.lc (h : THeld) (x : Value × Value) : LendC (THeld.ow h x) (THeld.ocs h x) h.cs :=
  G8 L6 (G8 L6 (G8 L6 (G8 (M6 (G6 (i := 0) rfl) J0) (G8 (M6 (G6 (i := 1) rfl) J0) T8))))
theorem TState.lc (s : TState) (x : Value × Value) : LendC (TState.ow s x) (TState.ocs s x) s.cs :=
  G8 L6 (G8 L6 (G8 (M6 (G6 (i := 0) rfl) J0) (G8 (M6 (G6 (i := 1) rfl) J0) T8)))
attribute [local irreducible] OpW OpA OpS AWP FSpec ESpec GSpec OpE RetOk RetOkG RvDen Le Ev GuardIs SrcIs Int.tmod Int.tdiv IntKind.wrap
theorem Ax1 (h k : THeld) (h1 : h.Writes.length ≤ 4611686018427387903) (ha : adj wLess h.Writes = true) (hk : adj wLess k.Writes = true ∧ k.Writes.length ≤ 4611686018427387903) : FSpec Tryz.prog 220 [AV.agg k.cs, AV.eptr h.cs] (AV.bool (clash h k)) := by
 obtain ⟨ka, k1⟩ := hk
 refine E7 Tryz.func220 rfl Tryz.ntmps220 rfl ?_
 refine A3 (A2 ?_)
 refine M3 rfl rfl rfl rfl (A0 rfl) ?_
 intro b2
 refine A1 rfl rfl rfl (C3 rfl F4) ?_
 refine A4 (A3 (A2 ?_))
 refine A1 rfl rfl rfl (K4 rfl (A0 rfl) I0 D3) ?_
 refine A1 rfl rfl rfl (F2 0 rfl (A0 rfl) rfl I0 D3 rfl) ?_
 refine A1 rfl rfl rfl (E5 rfl Tryz.call185 rfl (AZ4 _ _ (by first | assumption | omega) (by first | assumption | omega) (by assumption) (by assumption)) (A9 (A0 rfl) (A9 (A0 rfl) D1))) ?_
 refine B9 rfl rfl rfl rfl rfl ?_
 refine A4 ?_
 refine C8 ?_
 exact H9 rfl (C5 rfl (by first | rfl | (refine congrArg AV.bool ?_; simp_all; done)))
theorem AZ8 (l : List TCell) (hs : sizeL TCell.size l ≤ 4194304) : FSpec Tryz.prog 253 [AV.list 2 (l.map TCell.cs)] (AV.list 2 (l.map TCell.cs)) :=
  Q7 (AL4 l hs) fun x h => k5 TCell.lcM h 0 rfl fun o ho => List.mem_cons_of_mem _ ho
theorem Ac7 (l : List TCell) (w : List TWrite) (t : Int) (ho : CellsOk l) (hs : sizeL TCell.size l ≤ 1048576) (hw : sizeL TWrite.size w ≤ 1048576) : FSpec Tryz.prog 255 [AV.list 2 (l.map TCell.cs), AV.list 3 (w.map TWrite.cs), AV.int t] (AV.tup [AV.list 2 ((putCells l w t).1.map TCell.cs), AV.bool (putCells l w t).2]) :=
  Q7 (An5 l w t ho hs hw) fun x h => AM9 (G8 (k5 TCell.lcM h 0 rfl fun o ho => List.mem_cons_of_mem _ ho) (G8 L6 T8))
theorem Ax2 (r : TRec) (hs : r.size ≤ 1048576) : GSpec Tryz.prog 195 [AV.agg r.cs] [] (fun _ : Value × Value => True) (fun x => THeld.ow (hOf r) x) (fun x => AV.agg (THeld.ocs (hOf r) x)) := by
 obtain ⟨hr1, hr2, hr3, hr4⟩ := AP1 hs
 refine H5 Tryz.func195 rfl Tryz.ntmps195 rfl ?_
 refine A3 (A2 ?_)
 refine M3 rfl rfl rfl rfl (A0 rfl) ?_
 intro b1
 refine G0 rfl rfl rfl rfl Tryz.zeroValue45 rfl ?_
 intro b2
 refine A4 (A3 ?_)
 refine T3 _ [(0, false), (1, false), (2, false), (3, false), (4, false), (5, false), (6, false), (7, false), (9, false), (10, false), (8, true), (11, true)] (by kernel_rfl) (by kernel_rfl) rfl j4 ?_
 refine F9 rfl rfl rfl (fun ext => B3 1 rfl B6 rfl C0 (A0 rfl) rfl) ?_
 refine F9 rfl rfl rfl (fun ext => B1 1 rfl (A0 rfl) rfl D0 rfl) ?_
 refine F9 rfl rfl rfl (fun ext => B3 2 rfl B6 rfl C0 (A0 rfl) rfl) ?_
 refine F9 rfl rfl rfl (fun ext => B1 1 rfl (A0 rfl) rfl D0 rfl) ?_
 refine F9 rfl rfl rfl (fun ext => B3 3 rfl B6 rfl C0 (A0 rfl) rfl) ?_
 refine F9 rfl rfl rfl (fun ext => B1 1 rfl (A0 rfl) rfl D0 rfl) ?_
 refine F9 rfl rfl rfl (fun ext => B3 4 rfl B6 rfl L7 (A0 rfl) rfl) ?_
 refine F9 rfl rfl rfl (fun ext => B1 1 rfl (A0 rfl) rfl N9 rfl) ?_
 refine F9 rfl rfl rfl (fun ext => B3 5 rfl B6 rfl K2 (A0 rfl) rfl) ?_
 refine F9 rfl rfl rfl (fun ext => B1 1 rfl (A0 rfl) rfl L8 rfl) ?_
 refine U1 rfl rfl rfl (f5 [] rfl Tryz.call236 rfl (AV9 _ (by first | assumption | omega)) (A9 (A0 rfl) D1) rfl) (fun a _ => (by first | exact F8 rfl | exact F8 (List.append_assoc _ _ _) | exact J5)) ?_
 intro x11 ok11
 refine U1 rfl rfl rfl (f5 [] rfl Tryz.call252 rfl (AY8 _ (by first | assumption | omega)) (A9 (A0 rfl) D1) rfl) (fun a _ => (by first | exact F8 rfl | exact F8 (List.append_assoc _ _ _) | exact J5)) ?_
 intro x14 ok14
 refine i3 ?_
 refine Q8 2 rfl fun one_x11 => ?_
 refine Q8 3 rfl fun one_x14 => ?_
 refine A1 rfl rfl rfl (N0 (places := #[(0, 1), (1, 1), (2, 1), (3, 1), (4, 1)]) rfl F1 Tryz.zeroValue45 (fun w => by kernel_rfl) rfl (E0 (A0 rfl) (K9 _ _) (E0 (A0 rfl) (K9 _ _) (E0 (A0 rfl) (K9 _ _) (E0 (A0 rfl) (Q9 one_x11) (E0 (A0 rfl) (Q9 one_x14) H6))))) rfl) ?_
 refine D5 0 rfl rfl rfl (A0 rfl) (A0 rfl) (E2 _) rfl D3 rfl ?_
 refine A4 ?_
 refine C8 ?_
 exact K1 [2, 2] (x11, x14) (trivial) rfl (by rfl) (N1 rfl (J6 (ys := _) 0 rfl rfl I0 D3 rfl))
theorem AU0 (r : TRec) (hs : r.size ≤ 1048576) : FSpec Tryz.prog 195 [AV.agg r.cs] (AV.agg (hOf r).cs) :=
  Q7 (Ax2 r hs) fun x _ => X7 (THeld.lc _ x)
theorem AL5 (h : THeld) (hs : h.size ≤ 1048576) : FSpec Tryz.prog 98 [AV.agg h.cs] (AV.agg h.cs) := by
 refine E7 Tryz.func98 rfl Tryz.ntmps98 rfl ?_
 refine A3 (A2 ?_)
 refine M3 rfl rfl rfl rfl (A0 rfl) ?_
 intro b1
 refine G0 rfl rfl rfl rfl Tryz.zeroValue45 rfl ?_
 intro b2
 refine A4 (A3 (A2 ?_))
 refine A1 rfl rfl rfl (F2 1 rfl (A0 rfl) rfl I0 D3 rfl) ?_
 refine A1 rfl rfl rfl (E5 rfl Tryz.call182 rfl (Am9 _) (A9 (A0 rfl) D1)) ?_
 refine A1 rfl rfl rfl (E5 rfl Tryz.call195 rfl (AU0 (hRec h) hs) (A9 (A0 rfl) D1)) ?_
 refine D5 0 rfl rfl rfl (A0 rfl) (A0 rfl) (E2 _) rfl D3 rfl ?_
 refine A4 ?_
 refine C8 ?_
 exact H9 rfl (J6 (ys := _) 0 rfl rfl I0 D3 rfl)
theorem AA7 (s : TState) (hs : s.size ≤ 1048576) : GSpec Tryz.prog 198 [AV.agg s.cs] [] (fun _ : Value × Value => True) (fun x => TState.ow s x) (fun x => AV.agg (TState.ocs s x)) := by
 obtain ⟨hs1, hs2, hs3, hs4, hs5⟩ := R9 hs
 refine H5 Tryz.func198 rfl Tryz.ntmps198 rfl ?_
 refine A3 (A2 ?_)
 refine M3 rfl rfl rfl rfl (A0 rfl) ?_
 intro b1
 refine G0 rfl rfl rfl rfl Tryz.zeroValue30 rfl ?_
 intro b2
 refine A4 (A3 ?_)
 refine V7 _ 10 (.pure 0 (.pure 1 (.pure 2 (.pure 3 (.pure 4 (.pure 5 (.pure 6 (.e2 7 (.pure 8 (.e1 9 .nil)) 9 (.e1 7 (.pure 8 .nil)))))))))) (by kernel_rfl) (by kernel_rfl) rfl j4 ?_
 refine J2 rfl rfl rfl (fun ext => B3 0 rfl B8 rfl C0 (A0 rfl) rfl) ?_
 refine J2 rfl rfl rfl (fun ext => B1 1 rfl (A0 rfl) rfl D0 rfl) ?_
 refine J2 rfl rfl rfl (fun ext => B3 1 rfl B8 rfl M7 (A0 rfl) rfl) ?_
 refine J2 rfl rfl rfl (fun ext => B1 1 rfl (A0 rfl) rfl P5 rfl) ?_
 refine J2 rfl rfl rfl (fun ext => E5 rfl Tryz.call253 rfl (AZ8 s.Cells (by omega)) (A9 (A0 rfl) D1)) ?_
 refine J2 rfl rfl rfl (fun ext => B3 3 rfl B8 rfl J3 (A0 rfl) rfl) ?_
 refine J2 rfl rfl rfl (fun ext => B1 1 rfl (A0 rfl) rfl O0 rfl) ?_
 refine AJ5 ?_ ?_
 ·refine U0 rfl rfl rfl (e6 2 (fun _ => rfl) (f5 [] rfl Tryz.call254 rfl (AH7 _ (by first | assumption | omega)) (A9 (A0 rfl) D1) rfl)) (fun a _ => (by first | exact F8 rfl | exact F8 (List.append_assoc _ _ _) | exact J5)) ?_
  intro x13 ok13
  have one_x13 := ok13.2
  replace ok13 := ok13.1
  refine J2 rfl rfl rfl (fun ext => N0 (places := #[(0, 1), (1, 1), (2, 1), (3, 1)]) rfl B8 Tryz.zeroValue30 (fun w => by kernel_rfl) rfl (E0 (A0 rfl) (K9 _ _) (E0 (A0 rfl) (S2 _ _) (E0 (A0 rfl) (Q9 one_x13) H6))) rfl) ?_
  refine X0 ?_
  refine U0 rfl rfl rfl (j5 rfl Tryz.zeroValue30 rfl) (fun a _ => (by first | exact F8 rfl | exact F8 (List.append_assoc _ _ _) | exact J5)) ?_
  intro b3 _
  refine d4 ?_
  refine D5 3 rfl rfl rfl (A0 rfl) (A0 rfl) (E2 _) rfl C1 rfl ?_
  refine A4 (A3 (A3 (A2 ?_)))
  refine A1 rfl rfl rfl (B3 2 rfl B8 rfl E9 (A0 rfl) rfl) ?_
  refine A1 rfl rfl rfl (B1 1 rfl (A0 rfl) rfl I3 rfl) ?_
  refine A1 rfl rfl rfl (G9 rfl C9 (A0 rfl)) ?_
  refine A1 rfl rfl rfl (C6 rfl C4) ?_
  refine A4 (D7 ?_)
  refine X8 45 5 ?_
  refine AWP.le (I8 [4, 0] rfl) ?_
  refine R8 [(2, _), (3, _), (16, _), (17, _)] _ (fun (i : Nat) (v : Value) => i ≤ s.Held.length) (fun (i : Nat) (v : Value) => [.box b3 30 [AV.int s.Floor, AV.list 2 (s.Cells.map TCell.cs), AV.is v, AV.is x13], .arr v 45 5 ((s.Held.take i).map THeld.cs)]) (fun (i : Nat) (v : Value) => [(18, AV.int i)]) (fun (i : Nat) (v : Value) => s.Held.length - i) (0) ((Value.slice none 0 0)) ?_ (S7 (by rfl) ⟨rfl, rfl, rfl, rfl, rfl, trivial⟩) ?_
  ·exact Nat.zero_le _
  intro i v hinv
  refine A3 (A2 ?_)
  refine A1 rfl rfl rfl (K6 rfl (A0 rfl) (A0 rfl)) ?_
  refine A4 (A3 ?_)
  refine C7 (A0 rfl) ?_ ?_
  ·intro h19
   have k19 := of_decide_eq_true h19; try simp only [A6] at k19
   have hlt : i < s.Held.length := by omega
   obtain ⟨h, hx⟩ := get_some hlt
   obtain ⟨g1, g2, g3, g4, g5⟩ := U2 hs2 hx
   refine D2 (A3 (D7 (A3 (A2 ?_))))
   refine A1 rfl rfl rfl (I7 rfl C9 D3 (A0 rfl) (A0 rfl) hx (by first | omega | (simp only [A6, A7, B2, B7, A8, szR] at *; omega))) ?_
   refine A1 rfl rfl rfl (K4 rfl (A0 rfl) I0 D3) ?_
   refine G0 rfl rfl rfl rfl Tryz.zeroValue45 rfl ?_
   intro b5
   refine D5 0 rfl rfl rfl (A0 rfl) (A0 rfl) (E2 _) rfl D3 rfl ?_
   refine A4 ?_
   refine P9 5 (by kernel_rfl) (by kernel_rfl) rfl ?_
   refine B5 rfl rfl (B3 2 rfl B8 rfl E9 (A0 rfl) rfl) ?_
   refine B5 rfl rfl (B1 1 rfl (A0 rfl) rfl I3 rfl) ?_
   refine B5 rfl rfl (F2 0 rfl (A0 rfl) rfl I0 D3 rfl) ?_
   refine B5 rfl rfl (E5 rfl Tryz.call98 rfl (AL5 _ (by first | assumption | omega)) (A9 (A0 rfl) D1)) ?_
   refine B5 rfl rfl (L9 rfl C9 D3 Tryz.zeroValue45 rfl rfl rfl rfl (E0 (A0 rfl) (E2 _) H6) rfl rfl) ?_
   refine O1 ?_
   refine L5 (by' := 72) 2 rfl rfl rfl rfl C9 Tryz.type45 rfl rfl rfl rfl rfl rfl (A0 rfl) (A0 rfl) rfl (by simp only [A6, A7, A8]; omega) ?_
   intro v27_1
   refine A1 rfl rfl rfl (B3 2 rfl B8 rfl E9 (A0 rfl) rfl) ?_
   refine Q8 2 rfl fun one_v27_1 => ?_
   refine I4 1 rfl rfl rfl (A0 rfl) (A0 rfl) (Q9 one_v27_1) rfl E9 rfl ?_
   refine A4 (A2 ?_)
   refine A1 rfl rfl rfl (G7 rfl (A0 rfl) C4 (by first | omega | (simp only [A6, A7, B2, B7, A8, szR] at *; omega))) ?_
   refine A5 rfl rfl rfl rfl rfl ?_
   refine A4 ?_
   refine Q1 i v (i + 1) (v27_1) ?_ ?_ (Le.trans (I8 [0, 0, 0] rfl) (M1 1 (by exact congrArg (fun z => Own.box b3 30 [AV.int s.Floor, AV.list 2 (s.Cells.map TCell.cs), AV.is v27_1, AV.is x13] :: Own.arr v27_1 45 5 z :: _) (V1 (f := THeld.cs) hx)) ⟨rfl, rfl, rfl, rfl, rfl, trivial⟩))
   ·omega
   ·omega
  ·intro h19
   have k19 := of_decide_eq_false h19; try simp only [A6] at k19
   have hge : i = s.Held.length := by omega
   rw [hge, List.take_length]
   refine H3 ?_
   refine A3 (A2 ?_)
   refine A1 rfl rfl rfl (F2 0 rfl (A0 rfl) rfl D6 C1 rfl) ?_
   refine D5 2 rfl rfl rfl (A0 rfl) (A0 rfl) (E2 _) rfl C1 rfl ?_
   refine A4 ?_
   refine C8 ?_
   exact K1 [1, 3] (v, x13) (trivial) rfl (by rfl) (N1 rfl (J6 (ys := _) 2 rfl rfl D6 C1 rfl))
 ·refine U0 rfl rfl rfl (j5 rfl Tryz.zeroValue30 rfl) (fun a _ => (by first | exact F8 rfl | exact F8 (List.append_assoc _ _ _) | exact J5)) ?_
  intro b3 _
  refine X0 ?_
  refine U0 rfl rfl rfl (e6 3 (fun _ => rfl) (f5 [] rfl Tryz.call254 rfl (AH7 _ (by first | assumption | omega)) (A9 (A0 rfl) D1) rfl)) (fun a _ => (by first | exact F8 rfl | exact F8 (List.append_assoc _ _ _) | exact J5)) ?_
  intro x13 ok13
  have one_x13 := ok13.2
  replace ok13 := ok13.1
  refine J2 rfl rfl rfl (fun ext => N0 (places := #[(0, 1), (1, 1), (2, 1), (3, 1)]) rfl B8 Tryz.zeroValue30 (fun w => by kernel_rfl) rfl (E0 (A0 rfl) (K9 _ _) (E0 (A0 rfl) (S2 _ _) (E0 (A0 rfl) (Q9 one_x13) H6))) rfl) ?_
  refine d4 ?_
  refine D5 2 rfl rfl rfl (A0 rfl) (A0 rfl) (E2 _) rfl C1 rfl ?_
  refine A4 (A3 (A3 (A2 ?_)))
  refine A1 rfl rfl rfl (B3 2 rfl B8 rfl E9 (A0 rfl) rfl) ?_
  refine A1 rfl rfl rfl (B1 1 rfl (A0 rfl) rfl I3 rfl) ?_
  refine A1 rfl rfl rfl (G9 rfl C9 (A0 rfl)) ?_
  refine A1 rfl rfl rfl (C6 rfl C4) ?_
  refine A4 (D7 ?_)
  refine X8 45 5 ?_
  refine AWP.le (I8 [3, 0] rfl) ?_
  refine R8 [(2, _), (3, _), (16, _), (17, _)] _ (fun (i : Nat) (v : Value) => i ≤ s.Held.length) (fun (i : Nat) (v : Value) => [.box b3 30 [AV.int s.Floor, AV.list 2 (s.Cells.map TCell.cs), AV.is v, AV.is x13], .arr v 45 5 ((s.Held.take i).map THeld.cs)]) (fun (i : Nat) (v : Value) => [(18, AV.int i)]) (fun (i : Nat) (v : Value) => s.Held.length - i) (0) ((Value.slice none 0 0)) ?_ (S7 (by rfl) ⟨rfl, rfl, rfl, rfl, rfl, trivial⟩) ?_
  ·exact Nat.zero_le _
  intro i v hinv
  refine A3 (A2 ?_)
  refine A1 rfl rfl rfl (K6 rfl (A0 rfl) (A0 rfl)) ?_
  refine A4 (A3 ?_)
  refine C7 (A0 rfl) ?_ ?_
  ·intro h19
   have k19 := of_decide_eq_true h19; try simp only [A6] at k19
   have hlt : i < s.Held.length := by omega
   obtain ⟨h, hx⟩ := get_some hlt
   obtain ⟨g1, g2, g3, g4, g5⟩ := U2 hs2 hx
   refine D2 (A3 (D7 (A3 (A2 ?_))))
   refine A1 rfl rfl rfl (I7 rfl C9 D3 (A0 rfl) (A0 rfl) hx (by first | omega | (simp only [A6, A7, B2, B7, A8, szR] at *; omega))) ?_
   refine A1 rfl rfl rfl (K4 rfl (A0 rfl) I0 D3) ?_
   refine G0 rfl rfl rfl rfl Tryz.zeroValue45 rfl ?_
   intro b5
   refine D5 0 rfl rfl rfl (A0 rfl) (A0 rfl) (E2 _) rfl D3 rfl ?_
   refine A4 ?_
   refine P9 5 (by kernel_rfl) (by kernel_rfl) rfl ?_
   refine B5 rfl rfl (B3 2 rfl B8 rfl E9 (A0 rfl) rfl) ?_
   refine B5 rfl rfl (B1 1 rfl (A0 rfl) rfl I3 rfl) ?_
   refine B5 rfl rfl (F2 0 rfl (A0 rfl) rfl I0 D3 rfl) ?_
   refine B5 rfl rfl (E5 rfl Tryz.call98 rfl (AL5 _ (by first | assumption | omega)) (A9 (A0 rfl) D1)) ?_
   refine B5 rfl rfl (L9 rfl C9 D3 Tryz.zeroValue45 rfl rfl rfl rfl (E0 (A0 rfl) (E2 _) H6) rfl rfl) ?_
   refine O1 ?_
   refine L5 (by' := 72) 2 rfl rfl rfl rfl C9 Tryz.type45 rfl rfl rfl rfl rfl rfl (A0 rfl) (A0 rfl) rfl (by simp only [A6, A7, A8]; omega) ?_
   intro v27_2
   refine A1 rfl rfl rfl (B3 2 rfl B8 rfl E9 (A0 rfl) rfl) ?_
   refine Q8 2 rfl fun one_v27_2 => ?_
   refine I4 1 rfl rfl rfl (A0 rfl) (A0 rfl) (Q9 one_v27_2) rfl E9 rfl ?_
   refine A4 (A2 ?_)
   refine A1 rfl rfl rfl (G7 rfl (A0 rfl) C4 (by first | omega | (simp only [A6, A7, B2, B7, A8, szR] at *; omega))) ?_
   refine A5 rfl rfl rfl rfl rfl ?_
   refine A4 ?_
   refine Q1 i v (i + 1) (v27_2) ?_ ?_ (Le.trans (I8 [0, 0, 0] rfl) (M1 1 (by exact congrArg (fun z => Own.box b3 30 [AV.int s.Floor, AV.list 2 (s.Cells.map TCell.cs), AV.is v27_2, AV.is x13] :: Own.arr v27_2 45 5 z :: _) (V1 (f := THeld.cs) hx)) ⟨rfl, rfl, rfl, rfl, rfl, trivial⟩))
   ·omega
   ·omega
  ·intro h19
   have k19 := of_decide_eq_false h19; try simp only [A6] at k19
   have hge : i = s.Held.length := by omega
   rw [hge, List.take_length]
   refine H3 ?_
   refine A3 (A2 ?_)
   refine A1 rfl rfl rfl (F2 0 rfl (A0 rfl) rfl D6 C1 rfl) ?_
   refine D5 2 rfl rfl rfl (A0 rfl) (A0 rfl) (E2 _) rfl C1 rfl ?_
   refine A4 ?_
   refine C8 ?_
   exact K1 [1, 3] (v, x13) (trivial) rfl (by rfl) (N1 rfl (J6 (ys := _) 2 rfl rfl D6 C1 rfl))
theorem Ax3 (l : List TCell) (w : List TWrite) (t : Int) : (putCells l w t).2 = (putP l w t).2 ∧ ((putP l w t).2 = true → (putCells l w t).1 = (putP l w t).1) := by
  rw [Aq3]
  cases h : (putP l w t).2 <;> simp
theorem Ar3 (s : TState) (r : TRec) (hg : goodCells s.Cells = true) (hsr : s.Held.Pairwise fun a b => a.Txn < b.Txn) (htr : s.Told.Pairwise fun a b => a.Txn < b.Txn) (hT : hasT s.Told r.Txn = false) (hs : s.size ≤ 1048576) : GSpec Tryz.prog 199 [AV.agg s.cs, AV.agg r.cs] [] (fun _ : Value × Value => True) (fun x => TState.ow (decR s r).1 x) (fun x => AV.tup [AV.agg (TState.ocs (decR s r).1 x), AV.bool (decR s r).2]) := by
 obtain ⟨hs1, hs2, hs3, hs4, hs5⟩ := R9 hs
 have hco := V9 hg
 have hins : insT ⟨r.Txn, r.Yes, r.Time⟩ s.Told = s.Told.take (tPos s.Told r.Txn) ++ ⟨r.Txn, r.Yes, r.Time⟩ :: s.Told.drop (tPos s.Told r.Txn) := insT_pos htr (by rw [AR9 htr]; exact hT)
 obtain ⟨h, hh0⟩ : ∃ h, hHas s.Held r.Txn = true → s.Held[hPos s.Held r.Txn]? = some h ∧ h.Txn = r.Txn := by
  cases e : hHas s.Held r.Txn with
  | true => obtain ⟨x, h1, h2⟩ := BB1 e; exact ⟨x, fun _ => ⟨h1, h2⟩⟩
  | false => exact ⟨⟨0, 0, 0, [], []⟩, fun h => by cases h⟩
 have hfd : hHas s.Held r.Txn = true → findH s.Held r.Txn = some h := fun e => by obtain ⟨h1, h2⟩ := hh0 e; have := BB2 hsr h1; rw [h2] at this; exact this
 have hfn : hHas s.Held r.Txn = false → findH s.Held r.Txn = none := fun e => by rw [r4 hsr] at e; exact r6.2 e
 have hrow : hHas s.Held r.Txn = true → (s.Held.map THeld.cs)[((hPos s.Held r.Txn : Nat) : Int).toNat]? = some h.cs := fun e => by rw [Int.toNat_natCast, List.getElem?_map, (hh0 e).1]; rfl
 have hplt : hHas s.Held r.Txn = true → hPos s.Held r.Txn < s.Held.length := fun e => (List.getElem?_eq_some_iff.1 (hh0 e).1).1
 have hple := Ac6 s.Held r.Txn
 have htle := Au4 s.Told r.Txn
 refine H5 Tryz.func199 rfl Tryz.ntmps199 rfl ?_
 refine A3 (A2 ?_)
 refine M3 rfl rfl rfl rfl (A0 rfl) ?_
 intro b2
 refine M3 rfl rfl rfl rfl (A0 rfl) ?_
 intro b3
 refine G0 rfl rfl rfl rfl Tryz.zeroValue30 rfl ?_
 intro b4
 refine A1 rfl rfl rfl (C3 rfl F4) ?_
 refine A4 (A3 (A2 ?_))
 refine A1 rfl rfl rfl (F2 2 rfl (A0 rfl) rfl D6 C1 rfl) ?_
 refine I2 [] rfl rfl rfl rfl Tryz.call198 rfl (AA7 s hs) (A9 (A0 rfl) D1) rfl ?_
 intro x14 ok14
 refine G0 rfl rfl rfl rfl Tryz.zeroValue30 rfl ?_
 intro b6
 refine D5 0 rfl rfl rfl (A0 rfl) (A0 rfl) (E2 _) rfl C1 rfl ?_
 refine A4 (A3 ?_)
 refine L1 (by first | (simp only [TState.ow, TState.ocs, pick, O9, O6, O7, O3, N5, List.nil_append, P0, P1, List.append_nil, O4, List.take_zero, O8, List.drop_zero]; exact rfl) | exact rfl) ?_
 refine A2 ?_
 refine A1 rfl rfl rfl (F2 0 rfl (A0 rfl) rfl D6 C1 rfl) ?_
 refine A1 rfl rfl rfl (B3 1 rfl B6 rfl C0 (A0 rfl) rfl) ?_
 refine A1 rfl rfl rfl (B1 4 rfl (A0 rfl) rfl D0 rfl) ?_
 refine A1 rfl rfl rfl (V8 rfl Tryz.call96 rfl (AA6 s r.Txn hs5) (Z0 (D9 (G1 _ _) (D9 (G3 _) G2))) (N3 (g9 (A0 rfl) (X7 (G8 L6 (G8 L6 (G8 (M6 (G6 (i := 1) rfl) J0) (G8 (M6 (G6 (i := 2) rfl) J0) T8)))))) (N3 (evb (A0 rfl)) U3))) ?_
 refine A5 rfl rfl rfl rfl rfl ?_
 refine A1 rfl rfl rfl (F6 rfl (A0 rfl) rfl) ?_
 refine A1 rfl rfl rfl (F6 rfl (A0 rfl) rfl) ?_
 refine B9 rfl rfl rfl rfl rfl ?_
 refine B9 rfl rfl rfl rfl rfl ?_
 refine A4 (A3 (A3 (A2 ?_)))
 refine A1 rfl rfl rfl (B3 6 rfl B6 rfl J4 (A0 rfl) rfl) ?_
 refine A1 rfl rfl rfl (B1 4 rfl (A0 rfl) rfl L0 rfl) ?_
 refine A4 ?_
 refine C7 (A0 rfl) ?_ ?_
 ·intro h23
  refine A3 (A3 ?_)
  refine K3 (by kernel_rfl) (by kernel_rfl) rfl ?_
  refine B5 rfl rfl (C6 rfl (A0 rfl)) ?_
  refine B5 rfl rfl (M2 rfl (A0 rfl)) ?_
  refine B5 rfl rfl (C6 rfl (A0 rfl)) ?_
  refine E1 rfl (D4 rfl rfl rfl) (fun hc => B3 2 rfl B8 rfl E9 (A0 rfl) rfl) ?_
  refine E1 rfl (D4 rfl rfl rfl) (fun hc => B1 0 rfl (B0 rfl hc) rfl I3 rfl) ?_
  refine E1 rfl (D4 rfl rfl rfl) (fun hc => C6 rfl (A0 rfl)) ?_
  refine E1 rfl (D4 rfl rfl rfl) (fun hc => U4 1 rfl C9 D3 (B0 rfl hc) rfl (B0 rfl hc) (by omega) (by have := hplt (by simpa using hc); simp only [A6]; omega)) ?_
  refine E1 rfl (D4 rfl rfl rfl) (fun hc => i0 1 rfl F1 rfl C0 (B0 rfl hc) rfl rfl (hrow (by simpa using hc))) ?_
  refine E1 rfl (D4 rfl rfl rfl) (fun hc => m6 1 rfl (B0 rfl hc) rfl D0 (hrow (by simpa using hc)) rfl) ?_
  refine E1 rfl (D4 rfl rfl rfl) (fun hc => B3 2 rfl B6 rfl C0 (A0 rfl) rfl) ?_
  refine E1 rfl (D4 rfl rfl rfl) (fun hc => B1 4 rfl (B0 rfl hc) rfl D0 rfl) ?_
  refine E1 rfl (D4 rfl rfl rfl) (fun hc => P8 rfl (B0 rfl hc) (B0 rfl hc)) ?_
  refine B5 rfl rfl (Q4 rfl (A0 rfl) (G4 rfl)) ?_
  refine O1 ?_
  refine C7 (A0 rfl) ?_ ?_
  ·intro h36
   have hdec : decR s r = (zState, false) := by (unfold decR; rw [if_pos h23]; cases e : hHas s.Held r.Txn with | false => (rw [hfn e]) | true => (rw [hfd e]; dsimp only; rw [if_pos (by rw [e] at h36; simpa using h36)]))
   rw [hdec]
   refine A3 (A2 ?_)
   refine A1 rfl rfl rfl (N0 (places := #[(0, 1), (1, 1), (2, 1), (3, 1)]) rfl B8 Tryz.zeroValue30 (fun w => by kernel_rfl) rfl H6 rfl) ?_
   refine D5 3 rfl rfl rfl (A0 rfl) (A0 rfl) (E2 _) rfl C1 rfl ?_
   refine A1 rfl rfl rfl (C3 rfl F4) ?_
   refine A4 ?_
   refine C8 ?_
   refine S8 3 1 2 rfl rfl O5 ?_
   refine T6 45 5 ?_
   refine T6 39 3 ?_
   exact K1 [1, 0] ((Value.slice none 0 0), (Value.slice none 0 0)) (trivial) rfl (by rfl) (T2 rfl (by decide) (E6 (J6 (ys := _) 5 rfl rfl D6 C1 rfl) (E6 (C5 rfl (by rfl)) K8)))
  ·intro h36
   simp only [Bool.or_eq_false_iff, Bool.not_eq_false', decide_eq_false_iff_not] at h36
   obtain ⟨hhas, hnlt⟩ := h36
   have hlt := hplt hhas
   obtain ⟨g1, g2, g3, g4, g5⟩ := U2 hs2 (hh0 hhas).1
   have hpc := Ax3 s.Cells h.Writes r.Time
   refine D2 (A3 ?_)
   refine K3 (by kernel_rfl) (by kernel_rfl) rfl ?_
   refine B5 rfl rfl (B3 1 rfl B8 rfl M7 (A0 rfl) rfl) ?_
   refine B5 rfl rfl (B1 0 rfl (A0 rfl) rfl P5 rfl) ?_
   refine B5 rfl rfl (B3 2 rfl B8 rfl E9 (A0 rfl) rfl) ?_
   refine B5 rfl rfl (B1 0 rfl (A0 rfl) rfl I3 rfl) ?_
   refine B5 rfl rfl (C6 rfl (A0 rfl)) ?_
   refine B5 rfl rfl (U4 1 rfl C9 D3 (A0 rfl) rfl (A0 rfl) (by omega) (by simp only [A6]; omega)) ?_
   refine B5 rfl rfl (i0 1 rfl F1 rfl K2 (A0 rfl) rfl rfl (hrow hhas)) ?_
   refine B5 rfl rfl (m6 1 rfl (A0 rfl) rfl L8 (hrow hhas) rfl) ?_
   refine B5 rfl rfl (B3 2 rfl B6 rfl C0 (A0 rfl) rfl) ?_
   refine B5 rfl rfl (B1 4 rfl (A0 rfl) rfl D0 rfl) ?_
   refine B5 rfl rfl (E5 rfl Tryz.call255 rfl (Ac7 s.Cells h.Writes r.Time hco hs1 (by omega)) (A9 (A0 rfl) (A9 (A0 rfl) (A9 (A0 rfl) D1)))) ?_
   refine B5 rfl rfl (C6 rfl (A0 rfl)) ?_
   refine B5 rfl rfl (F6 rfl (A0 rfl) rfl) ?_
   refine B5 rfl rfl (F6 rfl (A0 rfl) rfl) ?_
   refine B5 rfl rfl (C3 rfl (A0 rfl)) ?_
   refine B5 rfl rfl (C3 rfl (A0 rfl)) ?_
   refine O1 ?_
   refine A3 (A3 ?_)
   refine L1 (by first | (simp only [TState.ow, TState.ocs, pick, O9, O6, O7, O3, N5, List.nil_append, P0, P1, List.append_nil, O4, List.take_zero, O8, List.drop_zero]; exact rfl) | exact rfl) ?_
   refine A2 ?_
   refine A5 rfl rfl rfl rfl rfl ?_
   refine A1 rfl rfl rfl (M2 rfl (A0 rfl)) ?_
   refine A4 ?_
   refine C7 (A0 rfl) ?_ ?_
   ·intro h53
    have hdec : decR s r = (zState, false) := by (unfold decR; rw [if_pos h23, hfd hhas]; dsimp only; rw [if_neg (by omega), if_neg (by rw [← hpc.1]; simpa using h53)])
    rw [hdec]
    refine A3 (A2 ?_)
    refine A1 rfl rfl rfl (N0 (places := #[(0, 1), (1, 1), (2, 1), (3, 1)]) rfl B8 Tryz.zeroValue30 (fun w => by kernel_rfl) rfl H6 rfl) ?_
    refine D5 3 rfl rfl rfl (A0 rfl) (A0 rfl) (E2 _) rfl C1 rfl ?_
    refine A1 rfl rfl rfl (C3 rfl F4) ?_
    refine A4 ?_
    refine C8 ?_
    refine S8 3 1 2 rfl rfl O5 ?_
    refine T6 45 5 ?_
    refine T6 39 3 ?_
    exact K1 [1, 0] ((Value.slice none 0 0), (Value.slice none 0 0)) (trivial) rfl (by rfl) (T2 rfl (by decide) (E6 (J6 (ys := _) 5 rfl rfl D6 C1 rfl) (E6 (C5 rfl (by rfl)) K8)))
   ·intro h53
    have hok : (putCells s.Cells h.Writes r.Time).2 = true := by simpa using h53
    have hdec : decR s r = (doneS s r (if s.Floor < r.Time then r.Time else s.Floor) (putCells s.Cells h.Writes r.Time).1, true) := by (unfold decR; rw [if_pos h23, hfd hhas]; dsimp only; rw [if_neg (by omega), if_pos (by rw [← hpc.1]; exact hok), hpc.2 (by rw [← hpc.1]; exact hok)])
    refine D2 (A3 (A2 ?_))
    refine A5 rfl rfl rfl rfl rfl ?_
    refine A1 rfl rfl rfl (B3 1 rfl B8 rfl M7 (A0 rfl) rfl) ?_
    refine I4 0 rfl rfl rfl (A0 rfl) (A0 rfl) (S2 _ _) rfl M7 rfl ?_
    refine A4 (A2 ?_)
    refine A1 rfl rfl rfl (B3 0 rfl B8 rfl C0 (A0 rfl) rfl) ?_
    refine A1 rfl rfl rfl (B1 0 rfl (A0 rfl) rfl D0 rfl) ?_
    refine A1 rfl rfl rfl (B3 2 rfl B6 rfl C0 (A0 rfl) rfl) ?_
    refine A1 rfl rfl rfl (B1 4 rfl (A0 rfl) rfl D0 rfl) ?_
    refine A1 rfl rfl rfl (w_max rfl (A0 rfl) (A0 rfl)) ?_
    refine A1 rfl rfl rfl (B3 0 rfl B8 rfl C0 (A0 rfl) rfl) ?_
    refine I4 0 rfl rfl rfl (A0 rfl) (A0 rfl) (K9 _ _) rfl C0 rfl ?_
    refine A4 (A3 (A3 ?_))
    refine L1 (by first | (simp only [TState.ow, TState.ocs, pick, O9, O6, O7, O3, N5, List.nil_append, P0, P1, List.append_nil, O4, List.take_zero, O8, List.drop_zero]; exact rfl) | exact rfl) ?_
    refine A2 ?_
    refine A5 rfl rfl rfl rfl rfl ?_
    refine A4 ?_
    refine C7 (A0 rfl) ?_ ?_
    ·intro h63
     have hless : lessH s.Held r.Txn = s.Held.eraseIdx (hPos s.Held r.Txn) := by (rw [← (hh0 h63).2]; exact An7 hsr (hh0 h63).1 ▸ by rw [(hh0 h63).2])
     rw [hdec]
     unfold doneS
     rw [hless, hins]
     have hlt2 := hplt h63
     refine A2 ?_
     refine A1 rfl rfl rfl (B3 2 rfl B8 rfl E9 (A0 rfl) rfl) ?_
     refine A1 rfl rfl rfl (B1 0 rfl (A0 rfl) rfl I3 rfl) ?_
     refine A5 rfl rfl rfl rfl rfl ?_
     refine A5 rfl rfl rfl rfl rfl ?_
     refine A1 rfl rfl rfl (G7 rfl (A0 rfl) C4 (by first | omega | (simp only [A6, A7, B2, B7, A8, szR] at *; omega))) ?_
     refine I2 [1] rfl rfl rfl rfl Tryz.call256 rfl (AH8 _ s.Held (hPos s.Held r.Txn) hlt2 (by omega)) (A9 (A0 rfl) (A9 (A0 rfl) (A9 (A0 rfl) D1))) rfl ?_
     intro x69 ok69
     refine A1 rfl rfl rfl (B3 2 rfl B8 rfl E9 (A0 rfl) rfl) ?_
     refine Q8 0 rfl fun one_x69 => ?_
     refine I4 1 rfl rfl rfl (A0 rfl) (A0 rfl) (Q9 one_x69) rfl E9 rfl ?_
     refine A4 (A3 ?_)
     refine L1 (by first | (simp only [TState.ow, TState.ocs, pick, O9, O6, O7, O3, N5, List.nil_append, P0, P1, List.append_nil, O4, List.take_zero, O8, List.drop_zero]; exact rfl) | exact rfl) ?_
     refine A2 ?_
     refine A1 rfl rfl rfl (F2 1 rfl (A0 rfl) rfl D6 C1 rfl) ?_
     refine A1 rfl rfl rfl (B3 1 rfl B6 rfl C0 (A0 rfl) rfl) ?_
     refine A1 rfl rfl rfl (B1 4 rfl (A0 rfl) rfl D0 rfl) ?_
     refine A1 rfl rfl rfl (V8 rfl Tryz.call97 rfl (m9 _ _ _ s.Told r.Txn hs3) (Z0 (D9 (G1 _ _) (D9 (G3 _) G2))) (N3 (g9 (A0 rfl) (X7 (G8 L6 (G8 L6 (G8 (M6 (G6 (i := 0) rfl) J0) (G8 (M6 (G6 (i := 2) rfl) J0) T8)))))) (N3 (evb (A0 rfl)) U3))) ?_
     refine A5 rfl rfl rfl rfl rfl ?_
     refine A1 rfl rfl rfl (F6 rfl (A0 rfl) rfl) ?_
     refine A1 rfl rfl rfl (F6 rfl (A0 rfl) rfl) ?_
     refine B9 rfl rfl rfl rfl rfl ?_
     refine B9 rfl rfl rfl rfl rfl ?_
     refine A4 (A3 ?_)
     refine L1 (by first | (simp only [TState.ow, TState.ocs, pick, O9, O6, O7, O3, N5, List.nil_append, P0, P1, List.append_nil, O4, List.take_zero, O8, List.drop_zero]; exact rfl) | exact rfl) ?_
     refine A2 ?_
     refine A1 rfl rfl rfl (B3 3 rfl B8 rfl J3 (A0 rfl) rfl) ?_
     refine A1 rfl rfl rfl (B1 1 rfl (A0 rfl) rfl O0 rfl) ?_
     refine A5 rfl rfl rfl rfl rfl ?_
     refine A1 rfl rfl rfl (B3 1 rfl B6 rfl C0 (A0 rfl) rfl) ?_
     refine A1 rfl rfl rfl (B1 4 rfl (A0 rfl) rfl D0 rfl) ?_
     refine A1 rfl rfl rfl (B3 6 rfl B6 rfl J4 (A0 rfl) rfl) ?_
     refine A1 rfl rfl rfl (B1 4 rfl (A0 rfl) rfl L0 rfl) ?_
     refine A1 rfl rfl rfl (B3 2 rfl B6 rfl C0 (A0 rfl) rfl) ?_
     refine A1 rfl rfl rfl (B1 4 rfl (A0 rfl) rfl D0 rfl) ?_
     refine A1 rfl rfl rfl (N0 (places := #[(0, 1), (1, 1), (2, 1)]) rfl K0 Tryz.zeroValue39 (fun w => by kernel_rfl) rfl (E0 (A0 rfl) (K9 _ _) (E0 (A0 rfl) (V3 _) (E0 (A0 rfl) (K9 _ _) H6))) rfl) ?_
     refine n4 rfl rfl rfl rfl E3 H2 Tryz.zeroValue39 rfl rfl rfl rfl (E0 (A0 rfl) (E2 _) H6) rfl rfl ?_
     intro v88
     refine I2 [3, 0] rfl rfl rfl rfl Tryz.call257 rfl (o5 _ _ s.Told ⟨r.Txn, r.Yes, r.Time⟩ (tPos s.Told r.Txn) htle (by omega)) (A9 (A0 rfl) (A9 (A0 rfl) (A9 (A0 rfl) D1))) rfl ?_
     intro x89 ok89
     refine A1 rfl rfl rfl (B3 3 rfl B8 rfl J3 (A0 rfl) rfl) ?_
     refine Q8 0 rfl fun one_x89 => ?_
     refine I4 2 rfl rfl rfl (A0 rfl) (A0 rfl) (Q9 one_x89) rfl J3 rfl ?_
     refine A4 (A3 ?_)
     refine L1 (by first | (simp only [TState.ow, TState.ocs, pick, O9, O6, O7, O3, N5, List.nil_append, P0, P1, List.append_nil, O4, List.take_zero, O8, List.drop_zero]; exact rfl) | exact rfl) ?_
     refine A2 ?_
     refine A1 rfl rfl rfl (F2 2 rfl (A0 rfl) rfl D6 C1 rfl) ?_
     refine D5 3 rfl rfl rfl (A0 rfl) (A0 rfl) (E2 _) rfl C1 rfl ?_
     refine A1 rfl rfl rfl (C3 rfl F4) ?_
     refine A4 ?_
     refine C8 ?_
     exact K1 [1, 0] (x69, x89) (trivial) rfl (by rfl) (T2 rfl (by decide) (E6 (J6 (ys := _) 3 rfl rfl D6 C1 rfl) (E6 (C5 rfl (by rfl)) K8)))
    ·intro h63
     have hless : lessH s.Held r.Txn = s.Held := An8 (by rw [← r4 hsr]; exact h63)
     rw [hdec]
     unfold doneS
     rw [hless, hins]
     refine D2 (A3 ?_)
     refine L1 (by first | (simp only [TState.ow, TState.ocs, pick, O9, O6, O7, O3, N5, List.nil_append, P0, P1, List.append_nil, O4, List.take_zero, O8, List.drop_zero]; exact rfl) | exact rfl) ?_
     refine A2 ?_
     refine A1 rfl rfl rfl (F2 0 rfl (A0 rfl) rfl D6 C1 rfl) ?_
     refine A1 rfl rfl rfl (B3 1 rfl B6 rfl C0 (A0 rfl) rfl) ?_
     refine A1 rfl rfl rfl (B1 4 rfl (A0 rfl) rfl D0 rfl) ?_
     refine A1 rfl rfl rfl (V8 rfl Tryz.call97 rfl (m9 _ _ _ s.Told r.Txn hs3) (Z0 (D9 (G1 _ _) (D9 (G3 _) G2))) (N3 (g9 (A0 rfl) (X7 (G8 L6 (G8 L6 (G8 (M6 (G6 (i := 1) rfl) J0) (G8 (M6 (G6 (i := 2) rfl) J0) T8)))))) (N3 (evb (A0 rfl)) U3))) ?_
     refine A5 rfl rfl rfl rfl rfl ?_
     refine A1 rfl rfl rfl (F6 rfl (A0 rfl) rfl) ?_
     refine A1 rfl rfl rfl (F6 rfl (A0 rfl) rfl) ?_
     refine B9 rfl rfl rfl rfl rfl ?_
     refine B9 rfl rfl rfl rfl rfl ?_
     refine A4 (A3 ?_)
     refine L1 (by first | (simp only [TState.ow, TState.ocs, pick, O9, O6, O7, O3, N5, List.nil_append, P0, P1, List.append_nil, O4, List.take_zero, O8, List.drop_zero]; exact rfl) | exact rfl) ?_
     refine A2 ?_
     refine A1 rfl rfl rfl (B3 3 rfl B8 rfl J3 (A0 rfl) rfl) ?_
     refine A1 rfl rfl rfl (B1 0 rfl (A0 rfl) rfl O0 rfl) ?_
     refine A5 rfl rfl rfl rfl rfl ?_
     refine A1 rfl rfl rfl (B3 1 rfl B6 rfl C0 (A0 rfl) rfl) ?_
     refine A1 rfl rfl rfl (B1 4 rfl (A0 rfl) rfl D0 rfl) ?_
     refine A1 rfl rfl rfl (B3 6 rfl B6 rfl J4 (A0 rfl) rfl) ?_
     refine A1 rfl rfl rfl (B1 4 rfl (A0 rfl) rfl L0 rfl) ?_
     refine A1 rfl rfl rfl (B3 2 rfl B6 rfl C0 (A0 rfl) rfl) ?_
     refine A1 rfl rfl rfl (B1 4 rfl (A0 rfl) rfl D0 rfl) ?_
     refine A1 rfl rfl rfl (N0 (places := #[(0, 1), (1, 1), (2, 1)]) rfl K0 Tryz.zeroValue39 (fun w => by kernel_rfl) rfl (E0 (A0 rfl) (K9 _ _) (E0 (A0 rfl) (V3 _) (E0 (A0 rfl) (K9 _ _) H6))) rfl) ?_
     refine n4 rfl rfl rfl rfl E3 H2 Tryz.zeroValue39 rfl rfl rfl rfl (E0 (A0 rfl) (E2 _) H6) rfl rfl ?_
     intro v88
     refine I2 [3, 0] rfl rfl rfl rfl Tryz.call257 rfl (o5 _ _ s.Told ⟨r.Txn, r.Yes, r.Time⟩ (tPos s.Told r.Txn) htle (by omega)) (A9 (A0 rfl) (A9 (A0 rfl) (A9 (A0 rfl) D1))) rfl ?_
     intro x89 ok89
     refine A1 rfl rfl rfl (B3 3 rfl B8 rfl J3 (A0 rfl) rfl) ?_
     refine Q8 0 rfl fun one_x89 => ?_
     refine I4 1 rfl rfl rfl (A0 rfl) (A0 rfl) (Q9 one_x89) rfl J3 rfl ?_
     refine A4 (A3 ?_)
     refine L1 (by first | (simp only [TState.ow, TState.ocs, pick, O9, O6, O7, O3, N5, List.nil_append, P0, P1, List.append_nil, O4, List.take_zero, O8, List.drop_zero]; exact rfl) | exact rfl) ?_
     refine A2 ?_
     refine A1 rfl rfl rfl (F2 1 rfl (A0 rfl) rfl D6 C1 rfl) ?_
     refine D5 3 rfl rfl rfl (A0 rfl) (A0 rfl) (E2 _) rfl C1 rfl ?_
     refine A1 rfl rfl rfl (C3 rfl F4) ?_
     refine A4 ?_
     refine C8 ?_
     exact K1 [2, 0] (x14.1, x89) (trivial) rfl (by rfl) (T2 rfl (by decide) (E6 (J6 (ys := _) 3 rfl rfl D6 C1 rfl) (E6 (C5 rfl (by rfl)) K8)))
 ·intro h23
  have hdec : decR s r = (doneS s r s.Floor s.Cells, true) := by (unfold decR; rw [if_neg (by rw [h23]; decide)])
  refine D2 (A3 (A3 ?_))
  refine L1 (by first | (simp only [TState.ow, TState.ocs, pick, O9, O6, O7, O3, N5, List.nil_append, P0, P1, List.append_nil, O4, List.take_zero, O8, List.drop_zero]; exact rfl) | exact rfl) ?_
  refine A2 ?_
  refine A5 rfl rfl rfl rfl rfl ?_
  refine A4 ?_
  refine C7 (A0 rfl) ?_ ?_
  ·intro h63
   have hless : lessH s.Held r.Txn = s.Held.eraseIdx (hPos s.Held r.Txn) := by (rw [← (hh0 h63).2]; exact An7 hsr (hh0 h63).1 ▸ by rw [(hh0 h63).2])
   rw [hdec]
   unfold doneS
   rw [hless, hins]
   have hlt2 := hplt h63
   refine A2 ?_
   refine A1 rfl rfl rfl (B3 2 rfl B8 rfl E9 (A0 rfl) rfl) ?_
   refine A1 rfl rfl rfl (B1 0 rfl (A0 rfl) rfl I3 rfl) ?_
   refine A5 rfl rfl rfl rfl rfl ?_
   refine A5 rfl rfl rfl rfl rfl ?_
   refine A1 rfl rfl rfl (G7 rfl (A0 rfl) C4 (by first | omega | (simp only [A6, A7, B2, B7, A8, szR] at *; omega))) ?_
   refine I2 [1] rfl rfl rfl rfl Tryz.call256 rfl (AH8 _ s.Held (hPos s.Held r.Txn) hlt2 (by omega)) (A9 (A0 rfl) (A9 (A0 rfl) (A9 (A0 rfl) D1))) rfl ?_
   intro x69 ok69
   refine A1 rfl rfl rfl (B3 2 rfl B8 rfl E9 (A0 rfl) rfl) ?_
   refine Q8 0 rfl fun one_x69 => ?_
   refine I4 1 rfl rfl rfl (A0 rfl) (A0 rfl) (Q9 one_x69) rfl E9 rfl ?_
   refine A4 (A3 ?_)
   refine L1 (by first | (simp only [TState.ow, TState.ocs, pick, O9, O6, O7, O3, N5, List.nil_append, P0, P1, List.append_nil, O4, List.take_zero, O8, List.drop_zero]; exact rfl) | exact rfl) ?_
   refine A2 ?_
   refine A1 rfl rfl rfl (F2 1 rfl (A0 rfl) rfl D6 C1 rfl) ?_
   refine A1 rfl rfl rfl (B3 1 rfl B6 rfl C0 (A0 rfl) rfl) ?_
   refine A1 rfl rfl rfl (B1 4 rfl (A0 rfl) rfl D0 rfl) ?_
   refine A1 rfl rfl rfl (V8 rfl Tryz.call97 rfl (m9 _ _ _ s.Told r.Txn hs3) (Z0 (D9 (G1 _ _) (D9 (G3 _) G2))) (N3 (g9 (A0 rfl) (X7 (G8 L6 (G8 L6 (G8 (M6 (G6 (i := 0) rfl) J0) (G8 (M6 (G6 (i := 2) rfl) J0) T8)))))) (N3 (evb (A0 rfl)) U3))) ?_
   refine A5 rfl rfl rfl rfl rfl ?_
   refine A1 rfl rfl rfl (F6 rfl (A0 rfl) rfl) ?_
   refine A1 rfl rfl rfl (F6 rfl (A0 rfl) rfl) ?_
   refine B9 rfl rfl rfl rfl rfl ?_
   refine B9 rfl rfl rfl rfl rfl ?_
   refine A4 (A3 ?_)
   refine L1 (by first | (simp only [TState.ow, TState.ocs, pick, O9, O6, O7, O3, N5, List.nil_append, P0, P1, List.append_nil, O4, List.take_zero, O8, List.drop_zero]; exact rfl) | exact rfl) ?_
   refine A2 ?_
   refine A1 rfl rfl rfl (B3 3 rfl B8 rfl J3 (A0 rfl) rfl) ?_
   refine A1 rfl rfl rfl (B1 1 rfl (A0 rfl) rfl O0 rfl) ?_
   refine A5 rfl rfl rfl rfl rfl ?_
   refine A1 rfl rfl rfl (B3 1 rfl B6 rfl C0 (A0 rfl) rfl) ?_
   refine A1 rfl rfl rfl (B1 4 rfl (A0 rfl) rfl D0 rfl) ?_
   refine A1 rfl rfl rfl (B3 6 rfl B6 rfl J4 (A0 rfl) rfl) ?_
   refine A1 rfl rfl rfl (B1 4 rfl (A0 rfl) rfl L0 rfl) ?_
   refine A1 rfl rfl rfl (B3 2 rfl B6 rfl C0 (A0 rfl) rfl) ?_
   refine A1 rfl rfl rfl (B1 4 rfl (A0 rfl) rfl D0 rfl) ?_
   refine A1 rfl rfl rfl (N0 (places := #[(0, 1), (1, 1), (2, 1)]) rfl K0 Tryz.zeroValue39 (fun w => by kernel_rfl) rfl (E0 (A0 rfl) (K9 _ _) (E0 (A0 rfl) (V3 _) (E0 (A0 rfl) (K9 _ _) H6))) rfl) ?_
   refine n4 rfl rfl rfl rfl E3 H2 Tryz.zeroValue39 rfl rfl rfl rfl (E0 (A0 rfl) (E2 _) H6) rfl rfl ?_
   intro v88
   refine I2 [3, 0] rfl rfl rfl rfl Tryz.call257 rfl (o5 _ _ s.Told ⟨r.Txn, r.Yes, r.Time⟩ (tPos s.Told r.Txn) htle (by omega)) (A9 (A0 rfl) (A9 (A0 rfl) (A9 (A0 rfl) D1))) rfl ?_
   intro x89 ok89
   refine A1 rfl rfl rfl (B3 3 rfl B8 rfl J3 (A0 rfl) rfl) ?_
   refine Q8 0 rfl fun one_x89 => ?_
   refine I4 2 rfl rfl rfl (A0 rfl) (A0 rfl) (Q9 one_x89) rfl J3 rfl ?_
   refine A4 (A3 ?_)
   refine L1 (by first | (simp only [TState.ow, TState.ocs, pick, O9, O6, O7, O3, N5, List.nil_append, P0, P1, List.append_nil, O4, List.take_zero, O8, List.drop_zero]; exact rfl) | exact rfl) ?_
   refine A2 ?_
   refine A1 rfl rfl rfl (F2 2 rfl (A0 rfl) rfl D6 C1 rfl) ?_
   refine D5 3 rfl rfl rfl (A0 rfl) (A0 rfl) (E2 _) rfl C1 rfl ?_
   refine A1 rfl rfl rfl (C3 rfl F4) ?_
   refine A4 ?_
   refine C8 ?_
   exact K1 [1, 0] (x69, x89) (trivial) rfl (by rfl) (T2 rfl (by decide) (E6 (J6 (ys := _) 3 rfl rfl D6 C1 rfl) (E6 (C5 rfl (by rfl)) K8)))
  ·intro h63
   have hless : lessH s.Held r.Txn = s.Held := An8 (by rw [← r4 hsr]; exact h63)
   rw [hdec]
   unfold doneS
   rw [hless, hins]
   refine D2 (A3 ?_)
   refine L1 (by first | (simp only [TState.ow, TState.ocs, pick, O9, O6, O7, O3, N5, List.nil_append, P0, P1, List.append_nil, O4, List.take_zero, O8, List.drop_zero]; exact rfl) | exact rfl) ?_
   refine A2 ?_
   refine A1 rfl rfl rfl (F2 0 rfl (A0 rfl) rfl D6 C1 rfl) ?_
   refine A1 rfl rfl rfl (B3 1 rfl B6 rfl C0 (A0 rfl) rfl) ?_
   refine A1 rfl rfl rfl (B1 4 rfl (A0 rfl) rfl D0 rfl) ?_
   refine A1 rfl rfl rfl (V8 rfl Tryz.call97 rfl (m9 _ _ _ s.Told r.Txn hs3) (Z0 (D9 (G1 _ _) (D9 (G3 _) G2))) (N3 (g9 (A0 rfl) (X7 (G8 L6 (G8 L6 (G8 (M6 (G6 (i := 1) rfl) J0) (G8 (M6 (G6 (i := 2) rfl) J0) T8)))))) (N3 (evb (A0 rfl)) U3))) ?_
   refine A5 rfl rfl rfl rfl rfl ?_
   refine A1 rfl rfl rfl (F6 rfl (A0 rfl) rfl) ?_
   refine A1 rfl rfl rfl (F6 rfl (A0 rfl) rfl) ?_
   refine B9 rfl rfl rfl rfl rfl ?_
   refine B9 rfl rfl rfl rfl rfl ?_
   refine A4 (A3 ?_)
   refine L1 (by first | (simp only [TState.ow, TState.ocs, pick, O9, O6, O7, O3, N5, List.nil_append, P0, P1, List.append_nil, O4, List.take_zero, O8, List.drop_zero]; exact rfl) | exact rfl) ?_
   refine A2 ?_
   refine A1 rfl rfl rfl (B3 3 rfl B8 rfl J3 (A0 rfl) rfl) ?_
   refine A1 rfl rfl rfl (B1 0 rfl (A0 rfl) rfl O0 rfl) ?_
   refine A5 rfl rfl rfl rfl rfl ?_
   refine A1 rfl rfl rfl (B3 1 rfl B6 rfl C0 (A0 rfl) rfl) ?_
   refine A1 rfl rfl rfl (B1 4 rfl (A0 rfl) rfl D0 rfl) ?_
   refine A1 rfl rfl rfl (B3 6 rfl B6 rfl J4 (A0 rfl) rfl) ?_
   refine A1 rfl rfl rfl (B1 4 rfl (A0 rfl) rfl L0 rfl) ?_
   refine A1 rfl rfl rfl (B3 2 rfl B6 rfl C0 (A0 rfl) rfl) ?_
   refine A1 rfl rfl rfl (B1 4 rfl (A0 rfl) rfl D0 rfl) ?_
   refine A1 rfl rfl rfl (N0 (places := #[(0, 1), (1, 1), (2, 1)]) rfl K0 Tryz.zeroValue39 (fun w => by kernel_rfl) rfl (E0 (A0 rfl) (K9 _ _) (E0 (A0 rfl) (V3 _) (E0 (A0 rfl) (K9 _ _) H6))) rfl) ?_
   refine n4 rfl rfl rfl rfl E3 H2 Tryz.zeroValue39 rfl rfl rfl rfl (E0 (A0 rfl) (E2 _) H6) rfl rfl ?_
   intro v88
   refine I2 [3, 0] rfl rfl rfl rfl Tryz.call257 rfl (o5 _ _ s.Told ⟨r.Txn, r.Yes, r.Time⟩ (tPos s.Told r.Txn) htle (by omega)) (A9 (A0 rfl) (A9 (A0 rfl) (A9 (A0 rfl) D1))) rfl ?_
   intro x89 ok89
   refine A1 rfl rfl rfl (B3 3 rfl B8 rfl J3 (A0 rfl) rfl) ?_
   refine Q8 0 rfl fun one_x89 => ?_
   refine I4 1 rfl rfl rfl (A0 rfl) (A0 rfl) (Q9 one_x89) rfl J3 rfl ?_
   refine A4 (A3 ?_)
   refine L1 (by first | (simp only [TState.ow, TState.ocs, pick, O9, O6, O7, O3, N5, List.nil_append, P0, P1, List.append_nil, O4, List.take_zero, O8, List.drop_zero]; exact rfl) | exact rfl) ?_
   refine A2 ?_
   refine A1 rfl rfl rfl (F2 1 rfl (A0 rfl) rfl D6 C1 rfl) ?_
   refine D5 3 rfl rfl rfl (A0 rfl) (A0 rfl) (E2 _) rfl C1 rfl ?_
   refine A1 rfl rfl rfl (C3 rfl F4) ?_
   refine A4 ?_
   refine C8 ?_
   exact K1 [2, 0] (x14.1, x89) (trivial) rfl (by rfl) (T2 rfl (by decide) (E6 (J6 (ys := _) 3 rfl rfl D6 C1 rfl) (E6 (C5 rfl (by rfl)) K8)))
end Go.Proofs.YtnlhbdkcgaeimaaGreat

set_option linter.unusedVariables false
set_option linter.unusedSimpArgs false
namespace Go.M
open Go.AV
def settled (s : TState) : Int := s.Held.foldl (fun o h => min o (h.Time - 1)) s.Floor
theorem AP7 {x : Int} : ∀ {l : List THeld} {o : Int}, x ≤ l.foldl (fun o h => min o (h.Time - 1)) o ↔ x ≤ o ∧ ∀ h ∈ l, x ≤ h.Time - 1
  | [], o => by simp
  | h :: l, o => by
    rw [List.foldl_cons, AP7]
    constructor
    · rintro ⟨a, b⟩
      refine ⟨by omega, fun k hk => ?_⟩
      rcases List.mem_cons.1 hk with rfl | hk
      · omega
      · exact b k hk
    · rintro ⟨a, b⟩
      have := b h List.mem_cons_self
      exact ⟨by omega, fun k hk => b k (List.mem_cons_of_mem _ hk)⟩
theorem Z5 {s : TState} {x : Int} : x ≤ settled s ↔ x ≤ s.Floor ∧ ∀ h ∈ s.Held, x ≤ h.Time - 1 := AP7
structure Keeps (s s' : TState) : Prop where
  floor : s.Floor ≤ s'.Floor
  told : ∀ t ∈ s.Told, t ∈ s'.Told
  tlen : s.Told.length ≤ s'.Told.length
  settled : settled s ≤ settled s'
  cells : ∀ a, a ≤ M.settled s → cellsAt s'.Cells a = cellsAt s.Cells a
theorem Keeps.refl (s : TState) : Keeps s s := ⟨Int.le_refl _, fun _ h => h, Nat.le_refl _, Int.le_refl _, fun _ _ => rfl⟩
theorem Keeps.trans {a b c : TState} (h : Keeps a b) (k : Keeps b c) : Keeps a c :=
  ⟨Int.le_trans h.floor k.floor, fun t ht => k.told t (h.told t ht), Nat.le_trans h.tlen k.tlen, Int.le_trans h.settled k.settled, fun x hx => (k.cells x (Int.le_trans hx h.settled)).trans (h.cells x hx)⟩
theorem i5 (c : TCell) (l : List TCell) (a : Int) : cellsAt (c :: l) a = (if (cellVal c a).2 = true then [⟨c.Key, (cellVal c a).1, false⟩] else []) ++ cellsAt l a := by
  unfold cellsAt
  rw [List.filterMap_cons]
  split
  · rename_i h; split at h
    · cases h
    · rename_i h2; rw [if_neg h2]; rfl
  · rename_i b h; split at h
    · rename_i h2; injection h with h; subst h; rw [if_pos h2]; rfl
    · cases h
theorem AW4 {k : Str} {vs : List TVer} {v : TVer} {a : Int} (h : a < v.Time) : cellVal ⟨k, vs ++ [v]⟩ a = cellVal ⟨k, vs⟩ a := by
  rw [AK9, AK9]
  dsimp only
  rw [Aw1, if_neg (by omega)]
theorem An9 {k : Str} {v : TVer} {a : Int} (h : a < v.Time) : ∀ l : List TCell, cellsAt (insC l k v) a = cellsAt l a
  | [] => by
    unfold insC
    rw [i5]
    have : cellVal ⟨k, [v]⟩ a = cellVal ⟨k, []⟩ a := AW4 (vs := []) h
    rw [this]; rfl
  | c :: l => by
    unfold insC
    split
    · rw [i5, i5, An9 h l]
    · split
      · rename_i e
        rw [i5, i5, AW4 h]
        subst e; rfl
      · have : cellVal ⟨k, [v]⟩ a = cellVal ⟨k, []⟩ a := AW4 (vs := []) h
        rw [i5, this]; rfl
theorem put_at {t a : Int} (h : a < t) : ∀ {w : List TWrite} {l q : List TCell}, putAll l w t = some q → cellsAt q a = cellsAt l a
  | [], l, q, e => by simp [putAll] at e; rw [e]
  | x :: w, l, q, e => by
    unfold putAll at e
    split at e
    · cases e
    · rw [put_at h e]; exact An9 h l
theorem Ar4 {s : TState} (g : GS s) {r : TRec} (hr : goodRec r = true) (h : (applyS s r).2 = true) : Keeps s (applyS s r).1 := by
  have hless : ∀ n x, x ≤ settled s → ∀ k ∈ lessH s.Held n, x ≤ k.Time - 1 := fun n x hx k hk => (Z5.1 hx).2 k (e9.1 hk).1
  have h0 := (Z5.1 (Int.le_refl (settled s)))
  unfold applyS at h ⊢
  by_cases h4 : r.Kind = 4
  · rw [if_pos h4] at h ⊢
    have := of_decide_eq_true h
    exact ⟨by dsimp only; omega, fun _ h => h, Nat.le_refl _, Z5.2 ⟨by dsimp only; omega, h0.2⟩, fun _ _ => rfl⟩
  · rw [if_neg h4] at h ⊢
    by_cases hT : hasT s.Told r.Txn = true
    · rw [if_pos hT] at h; cases h
    · rw [if_neg hT] at h ⊢
      by_cases h1 : r.Kind = 1
      · rw [if_pos h1] at h ⊢
        simp only [Bool.and_eq_true, Bool.not_eq_true', decide_eq_true_eq] at h
        refine ⟨by dsimp only; omega, fun _ h => h, Nat.le_refl _, Z5.2 ⟨by dsimp only; omega, fun k hk => ?_⟩, fun _ _ => rfl⟩
        rcases l0.1 hk with rfl | hk
        · show _ ≤ r.Time - 1; omega
        · exact h0.2 k hk
      · rw [if_neg h1] at h ⊢
        by_cases hy : r.Yes = true
        · rw [if_pos hy] at h ⊢
          cases hf : findH s.Held r.Txn with
          | none => rw [hf] at h; cases h
          | some k =>
            rw [hf] at h
            dsimp only at h ⊢
            by_cases hlt : r.Time < k.Time
            · rw [if_pos hlt] at h; cases h
            · rw [if_neg hlt] at h ⊢
              by_cases hp : (putP s.Cells k.Writes r.Time).2 = true
              · rw [if_pos hp]
                obtain ⟨p1, p2⟩ := AR7 hp
                obtain ⟨k1, k2⟩ := o4 hf
                refine ⟨by unfold doneS; dsimp only; split <;> omega, fun u hu => AJ8.2 (Or.inr hu), by unfold doneS; dsimp only; rw [(AA1 _ _).length_eq]; simp, Z5.2 ⟨by unfold doneS; dsimp only; split <;> omega, fun u hu => hless _ _ (Int.le_refl _) u hu⟩, fun a ha => ?_⟩
                exact put_at (by have := (Z5.1 ha).2 k k1; omega) p1
              · rw [if_neg hp] at h; cases h
        · rw [if_neg hy]
          exact ⟨Int.le_refl _, fun u hu => AJ8.2 (Or.inr hu), by unfold doneS; dsimp only; rw [(AA1 _ _).length_eq]; simp, Z5.2 ⟨h0.1, fun u hu => hless _ _ (Int.le_refl _) u hu⟩, fun _ _ => rfl⟩
theorem Ax4 {s : TState} (g : GS s) {r : TRec} (hr : goodRec r = true) : Keeps s (stepS s r) := by
  unfold stepS
  split
  · exact Ar4 g hr ‹_›
  · exact Keeps.refl s
theorem AZ9 : ∀ {l : List TRec} {s : TState}, GS s → (∀ r ∈ l, goodRec r = true) → Keeps s (stFrom s l)
  | [], s, g, _ => Keeps.refl s
  | r :: l, s, g, h => by
    show Keeps s (stFrom (stepS s r) l)
    exact (Ax4 g (h r List.mem_cons_self)).trans (AZ9 (Au0 g (h r List.mem_cons_self)) fun x hx => h x (List.mem_cons_of_mem _ hx))
theorem Ax5 {l : List TRec} (h : ∀ r ∈ l, goodRec r = true) (k : Nat) : Keeps (stFrom zState (l.take k)) (stFrom zState l) := by
  have e : stFrom zState l = stFrom (stFrom zState (l.take k)) (l.drop k) := by
    unfold stFrom
    rw [← List.foldl_append, List.take_append_drop]
  rw [e]
  exact AZ9 (t7 t6 fun r hr => h r (List.mem_of_mem_take hr)) fun r hr => h r (List.mem_of_mem_drop hr)
theorem Ac8 {s : TState} (g : GS s) : 0 ≤ settled s := Z5.2 ⟨g.floor.1, fun h hm => by
  have := (g.good h hm).1
  unfold goodRec hRec at this
  rw [if_pos rfl] at this
  unfold good1 isTime within at this
  simp only [Bool.and_eq_true, decide_eq_true_eq] at this
  omega⟩
end Go.M

set_option linter.unusedVariables false
set_option linter.unusedSimpArgs false
set_option maxRecDepth 100000
set_option maxHeartbeats 1000000
namespace Go.M
open Go.AV
theorem Au5 (s : TState) (r : TRec) : (appR s r).2 = (applyS s r).2 ∧ ((applyS s r).2 = true → (appR s r).1 = (applyS s r).1) := by
  unfold appR; cases h : (applyS s r).2 <;> simp
theorem BB3 (s : TState) (r : TRec) : (if (appR s r).2 = true then (appR s r).1 else s) = stepS s r := by
  unfold stepS appR; cases h : (applyS s r).2 <;> simp
def stateOfR (l : List TRec) : TState × List Bool × Bool := if l.length ≤ 60 ∧ l.all goodRec = true then (stFrom zState l, didFrom zState l, true) else (zState, [], false)
theorem m2 {s : TState} {l : List TRec} {i : Nat} {r : TRec} (h : l[i]? = some r) : stFrom s (l.take (i + 1)) = stepS (stFrom s (l.take i)) r := by
  unfold stFrom
  rw [List.take_add_one, h, List.foldl_append]; rfl
theorem AI1 : ∀ {l : List TRec} {s : TState} {r : TRec}, didFrom s (l ++ [r]) = didFrom s l ++ [(applyS (stFrom s l) r).2]
  | [], s, r => rfl
  | x :: l, s, r => by
    show _ :: didFrom (stepS s x) (l ++ [r]) = _
    rw [AI1]; rfl
theorem i6 {s : TState} {l : List TRec} {i : Nat} {r : TRec} (h : l[i]? = some r) : didFrom s (l.take (i + 1)) = didFrom s (l.take i) ++ [(applyS (stFrom s (l.take i)) r).2] := by
  rw [List.take_add_one, h]; exact AI1
def phi (s : TState) : Nat := sizeL TCell.size s.Cells + 3 * sizeL THeld.size s.Held + s.Told.length
theorem AD8 (s : TState) : s.size ≤ phi s := by
  have h1 : s.size = sizeL TCell.size s.Cells + sizeL THeld.size s.Held + s.Told.length := rfl
  unfold phi; omega
theorem Ax6 {α : Type} {f : α → Nat} {a b : List α} (h : a.Perm b) : sizeL f a = sizeL f b := by
  unfold sizeL; rw [h.length_eq, (h.map f).sum_nat]
theorem Ao0 {t : Int} : ∀ {w : List TWrite} {l q : List TCell}, putAll l w t = some q → sizeL TCell.size q ≤ sizeL TCell.size l + 2 * sizeL TWrite.size w
  | [], l, q, h => by simp [putAll] at h; subst h; omega
  | x :: w, l, q, h => by
    unfold putAll at h
    split at h
    · cases h
    · have h1 := Ao0 h
      have h2 := j9 l x t
      rw [N7]; omega
theorem Ax7 {l : List THeld} {n : Int} {h : THeld} (hf : findH l n = some h) : sizeL THeld.size (lessH l n) + (1 + h.size) ≤ sizeL THeld.size l := by
  induction l with
  | nil => simp [findH] at hf
  | cons g l ih =>
    unfold findH at hf ih
    rw [List.find?_cons] at hf
    unfold lessH at ih ⊢
    by_cases e : g.Txn = n
    · rw [beq_iff_eq.2 e] at hf
      injection hf with hf; subst hf
      rw [List.filter_cons_of_neg (by simp [e]), N7]
      have : sizeL THeld.size (l.filter fun h => h.Txn != n) ≤ sizeL THeld.size l := by
        clear ih
        induction l with
        | nil => exact Nat.le_refl _
        | cons y l ih =>
          rw [List.filter_cons]
          split
          · rw [N7, N7]; omega
          · rw [N7]; omega
      omega
    · rw [beq_eq_false_iff_ne.2 e] at hf
      rw [List.filter_cons_of_pos (by simp [e]), N7, N7]
      have := ih hf; omega
theorem AG6 (l : List THeld) (n : Int) : sizeL THeld.size (lessH l n) ≤ sizeL THeld.size l := by
  induction l with
  | nil => exact Nat.le_refl _
  | cons y l ih =>
    unfold lessH at ih ⊢
    rw [List.filter_cons]
    split
    · rw [N7, N7]; omega
    · rw [N7]; omega
theorem BB4 (s : TState) (r : TRec) : phi (applyS s r).1 ≤ phi s + 3 * (1 + r.size) + 1 := by
  have hh : (hOf r).size = r.size := rfl
  have hins : sizeL THeld.size (insH (hOf r) s.Held) = 1 + r.size + sizeL THeld.size s.Held := by rw [Ax6 (AA0 _ _), N7, hh]
  have htl : ∀ t : TTold, (insT t s.Told).length = s.Told.length + 1 := fun t => by rw [(AA1 _ _).length_eq]; rfl
  have h2 := AG6 s.Held r.Txn
  unfold applyS
  split
  · unfold phi; dsimp only; omega
  · split
    · dsimp only; omega
    · split
      · unfold phi; dsimp only; rw [hins]; omega
      · split
        · cases hf : findH s.Held r.Txn with
          | none => dsimp only; omega
          | some h =>
            dsimp only
            split
            · dsimp only; omega
            · split
              · rename_i hp
                have h3 := Ao0 (AR7 hp).1
                have h4 := Ax7 hf
                have h5 : h.size = sizeL (fun x => x.length) h.Reads + sizeL TWrite.size h.Writes := rfl
                unfold doneS phi; dsimp only; rw [htl]; omega
              · dsimp only; omega
        · unfold doneS phi; dsimp only; rw [htl]; omega
theorem phi_step (s : TState) (r : TRec) : phi (stepS s r) ≤ phi s + 3 * (1 + r.size) + 1 := by
  unfold stepS
  split
  · exact BB4 s r
  · omega
theorem u6 {m : Nat} : ∀ {l : List TRec} {s : TState}, (∀ r ∈ l, r.size ≤ m) → phi (stFrom s l) ≤ phi s + l.length * (3 * (1 + m) + 1)
  | [], s, _ => by simp [stFrom]
  | r :: l, s, h => by
    have h1 := phi_step s r
    have h2 := u6 (l := l) (s := stepS s r) fun x hx => h x (List.mem_cons_of_mem _ hx)
    have h3 := h r List.mem_cons_self
    have h4 : stFrom s (r :: l) = stFrom (stepS s r) l := rfl
    rw [h4, B2, Nat.add_mul, Nat.one_mul]
    omega
theorem AL6 {r : TRec} (h : goodRec r = true) : r.size ≤ 400 := by
  have g := goodR h
  have h1 : sizeL (fun x : Str => x.length) r.Reads ≤ r.Reads.length * 13 := AN9 fun x hx => AX8 (g.reads.2 x hx)
  have h2 : sizeL TWrite.size r.Writes ≤ r.Writes.length * 37 := AN9 (f := TWrite.size) fun x hx => by
    have := g.writes.2 x hx
    have k1 := AX8 this.1
    have k2 := Av8 this.2.1
    show x.Key.length + x.Val.length ≤ 36
    omega
  have h3 : r.size = sizeL (fun x : Str => x.length) r.Reads + sizeL TWrite.size r.Writes := rfl
  have := g.reads.1
  have := g.writes.1
  omega
def blocksOf (l : List THeld) (k : Str) (t : Int) : List Int := (l.filter fun h => hasK h.Writes k && decide (h.Time ≤ t)).map THeld.Txn
def blocksR (s : TState) (k : Str) (t : Int) : List Int × Bool := if (goodState s && goodKey k && isTrue t) = true then (blocksOf s.Held k t, true) else ([], false)
def zTold : TTold := ⟨0, false, 0⟩
def zHeld : THeld := ⟨0, 0, 0, [], []⟩
def settledR (s : TState) : Int × Bool := if goodState s = true then (settled s, true) else (0, false)
theorem Ax8 {l : List TTold} {n : Int} : findT l n = none ↔ hasT l n = false := by
  unfold findT hasT; rw [List.find?_eq_none, List.any_eq_false]
theorem AP8 {l : List THeld} {i : Nat} {h : THeld} {o : Int} (hx : l[i]? = some h) : (l.take (i + 1)).foldl (fun o h => min o (h.Time - 1)) o = (if h.Time - 1 < (l.take i).foldl (fun o h => min o (h.Time - 1)) o then h.Time - 1 else (l.take i).foldl (fun o h => min o (h.Time - 1)) o) := by
  rw [List.take_add_one, hx, List.foldl_append]
  show min _ (h.Time - 1) = _
  split <;> omega
theorem AC0 {l : List THeld} {i : Nat} {h : THeld} {k : Str} {t : Int} (hx : l[i]? = some h) (hc : (hasK h.Writes k && decide (h.Time ≤ t)) = true) : blocksOf (l.take (i + 1)) k t = blocksOf (l.take i) k t ++ [h.Txn] := by
  unfold blocksOf; rw [List.take_add_one, hx, List.filter_append, List.map_append]
  show _ ++ List.map _ (List.filter _ [h]) = _
  rw [List.filter_cons_of_pos (p := fun h : THeld => hasK h.Writes k && decide (h.Time ≤ t)) hc]; rfl
theorem AE8 {l : List THeld} {i : Nat} {h : THeld} {k : Str} {t : Int} (hx : l[i]? = some h) (hc : (hasK h.Writes k && decide (h.Time ≤ t)) = false) : blocksOf (l.take (i + 1)) k t = blocksOf (l.take i) k t := by
  unfold blocksOf; rw [List.take_add_one, hx, List.filter_append, List.map_append]
  show _ ++ List.map _ (List.filter _ [h]) = _
  rw [List.filter_cons_of_neg (p := fun h : THeld => hasK h.Writes k && decide (h.Time ≤ t)) (by rw [hc]; decide)]; simp
theorem Aa0 (l : List THeld) (k : Str) (t : Int) : (blocksOf l k t).length ≤ l.length := by unfold blocksOf; rw [A6]; exact List.length_filter_le _ _
theorem AC1 {s : TState} (g : GS s) {h : THeld} (hm : h ∈ s.Held) : 1 ≤ h.Time ∧ h.Time ≤ 100000 ∧ adj wLess h.Writes = true := by
  obtain ⟨g1, g2, g3⟩ := g.good h hm
  have h1 := g1
  unfold goodRec hRec at h1
  rw [if_pos rfl] at h1
  unfold good1 isTime within at h1
  simp only [Bool.and_eq_true, decide_eq_true_eq] at h1
  exact ⟨by omega, by omega, AD7 g1⟩
end Go.M
namespace Go.Proofs.YtnlhbdkcgaeimaaGreat
open Go Go.AV Go.M
attribute [local irreducible] OpW OpA OpS AWP FSpec ESpec GSpec OpE RetOk RetOkG RvDen Le Ev GuardIs SrcIs Int.tmod Int.tdiv IntKind.wrap
theorem room_app (s : TState) (e : List (List AV)) (l : List THeld) (rs : List Str) (ws : List TWrite) (he : e = (l ++ [(⟨0, 0, 0, rs, ws⟩ : THeld)]).map THeld.cs) (hg : goodCells s.Cells = true) (hs : s.size ≤ 1048576) (hh : sizeL THeld.size (l ++ [(⟨0, 0, 0, rs, ws⟩ : THeld)]) ≤ 1048576) : FSpec Tryz.prog 188 [AV.agg s.cs, AV.list 5 e] (AV.bool (decide (l.length < 12) && room s.Cells (hWs l ++ ws))) := by
  have h := Ag4 s (l ++ [(⟨0, 0, 0, rs, ws⟩ : THeld)]) hg hs hh
  have e1 : hWs (l ++ [(⟨0, 0, 0, rs, ws⟩ : THeld)]) = hWs l ++ ws := by rw [AY4, AD5]; simp [hWs]
  rw [e1, ← he] at h
  have e2 : decide ((l ++ [(⟨0, 0, 0, rs, ws⟩ : THeld)]).length ≤ 12) = decide (l.length < 12) := by rw [J1, decide_eq_decide]; simp; omega
  rw [e2] at h
  exact h
theorem BB5 (s : TState) (rs : List Str) (ws : List TWrite) (hg : goodState s = true) (hs : s.size ≤ 500000) (hw : sizeL (fun x : Str => x.length) rs + sizeL TWrite.size ws ≤ 500000) (hwa : adj wLess ws = true) : FSpec Tryz.prog 125 [AV.agg s.cs, strs rs, AV.list 3 (ws.map TWrite.cs)] (AV.bool (fits s rs ws)) := by
 have g := Y7.1 hg
 obtain ⟨hs1, hs2, hs3, hs4, hs5⟩ := R9 hs
 have hwl := O2 (f := TWrite.size) (l := ws)
 have hl9 : (⟨0, 0, 0, rs, ws⟩ : THeld).Writes.length ≤ 4611686018427387903 := by show ws.length ≤ _; omega
 have ha9 : adj wLess (⟨0, 0, 0, rs, ws⟩ : THeld).Writes = true := hwa
 have hpre : ∀ k ∈ s.Held, adj wLess k.Writes = true ∧ k.Writes.length ≤ 4611686018427387903 := fun k hk => by
  obtain ⟨i, hi⟩ := List.getElem?_of_mem hk
  have := U2 hs2 hi
  exact ⟨AD7 (g.good k hk).1, by omega⟩
 have hany : (s.Held.any fun k => clash ⟨0, 0, 0, rs, ws⟩ k) = !(s.Held.all fun k => apart k rs ws) := by
  rw [List.not_all_eq_any_not]; congr 1; funext k; rw [AF9]
 have hsz : sizeL THeld.size (s.Held ++ [⟨0, 0, 0, rs, ws⟩]) ≤ 1048576 := by
  rw [m8, N7]
  show _ + (1 + (sizeL (fun x : Str => x.length) rs + sizeL TWrite.size ws) + 0) ≤ _
  omega
 refine E7 Tryz.func125 rfl Tryz.ntmps125 rfl ?_
 refine A3 (A2 ?_)
 refine M3 rfl rfl rfl rfl (A0 rfl) ?_
 intro b3
 refine A1 rfl rfl rfl (C3 rfl F4) ?_
 refine A4 (A3 (A2 ?_))
 refine A5 rfl rfl rfl rfl rfl ?_
 refine A5 rfl rfl rfl rfl rfl ?_
 refine A1 rfl rfl rfl (N0 (places := #[(0, 1), (1, 1), (2, 1), (3, 1), (4, 1)]) rfl F1 Tryz.zeroValue45 (fun w => by kernel_rfl) rfl (E0 (A0 rfl) (S2 _ _) (E0 (A0 rfl) (S2 _ _) H6)) rfl) ?_
 refine G0 rfl rfl rfl rfl Tryz.zeroValue45 rfl ?_
 intro b7
 refine D5 0 rfl rfl rfl (A0 rfl) (A0 rfl) (E2 _) rfl D3 rfl ?_
 refine A4 (A3 (A3 ?_))
 refine L1 (show _ = [Own.box b7 45 (THeld.cs ⟨0, 0, 0, rs, ws⟩), Own.box b3 30 s.cs] from rfl) ?_
 refine A2 ?_
 refine A1 rfl rfl rfl (B3 2 rfl B8 rfl E9 (A0 rfl) rfl) ?_
 refine A1 rfl rfl rfl (B1 1 rfl (A0 rfl) rfl I3 rfl) ?_
 refine A1 rfl rfl rfl (Aj1 rfl rfl (A9 (A0 rfl) D1)) ?_
 refine A1 rfl rfl rfl (V8 rfl Tryz.call183 rfl (r3 s.Held (fun g => adj wLess g.Writes = true ∧ g.Writes.length ≤ 4611686018427387903) (fun k => clash ⟨0, 0, 0, rs, ws⟩ k) hpre) (G3 _) (N3 (evb (A0 rfl)) (N3 (AB4 (Aj8 0 (A0 rfl) rfl) (AI6 Tryz.call220 (fun g hg => Ax1 _ g (by first | assumption | omega) (by assumption) hg))) U3))) ?_
 refine A4 ?_
 refine C7 (A0 rfl) ?_ ?_
 ·intro h14
  refine A3 (A2 ?_)
  refine A1 rfl rfl rfl (C3 rfl F4) ?_
  refine A4 ?_
  refine C8 ?_
  exact H9 rfl (C5 rfl (by first | exact congrArg AV.bool (by unfold fits; rw [hany] at h14; simp only [Bool.not_eq_true'] at h14; rw [h14]; rfl) | exact congrArg AV.bool (by unfold fits; rw [hany] at h14; simp only [Bool.not_eq_false'] at h14; rw [h14]; rfl)))
 ·intro h14
  refine D2 (A3 ?_)
  refine T3 _ [(0, false), (1, false), (2, false), (4, false), (5, false), (3, true), (6, true)] (by kernel_rfl) (by kernel_rfl) rfl j4 ?_
  refine F9 rfl rfl rfl (fun ext => F2 1 rfl (A0 rfl) rfl D6 C1 rfl) ?_
  refine F9 rfl rfl rfl (fun ext => B3 2 rfl B8 rfl E9 (A0 rfl) rfl) ?_
  refine F9 rfl rfl rfl (fun ext => B1 1 rfl (A0 rfl) rfl I3 rfl) ?_
  refine F9 rfl rfl rfl (fun ext => F2 0 rfl (A0 rfl) rfl I0 D3 rfl) ?_
  refine F9 rfl rfl rfl (fun ext => L9 rfl C9 D3 Tryz.zeroValue45 rfl rfl rfl rfl (E0 (A0 rfl) (E2 _) H6) rfl rfl) ?_
  refine U1 rfl rfl rfl (f5 [] rfl Tryz.call221 rfl (Ab8 _ (by first | assumption | omega)) (A9 (A0 rfl) D1) rfl) (fun a _ => (by first | exact F8 rfl | exact F8 (List.append_assoc _ _ _) | exact J5)) ?_
  intro x18 ok18
  refine U1 rfl rfl rfl (P7 (by' := 72) 2 rfl C9 Tryz.type45 rfl rfl rfl rfl rfl rfl (A0 rfl) (A0 rfl) rfl (by first | omega | (simp only [A6, A7, B2, B7, A8, szR] at *; omega))) (fun a _ => (by first | exact F8 rfl | exact F8 (List.append_assoc _ _ _) | exact J5)) ?_
  intro v21_1 _
  refine i3 ?_
  refine A1 rfl rfl rfl (V8 rfl Tryz.call188 rfl (room_app s _ s.Held rs ws (by rw [List.map_append]; rfl) g.cells (by omega) hsz) (G3 _) (N3 (evb (A0 rfl)) (N3 (Ab0 2 (A0 rfl) rfl) U3))) ?_
  refine B9 rfl rfl rfl rfl rfl ?_
  refine A4 ?_
  refine C8 ?_
  exact H9 rfl (C5 rfl (by first | exact congrArg AV.bool (by unfold fits; rw [hany] at h14; simp only [Bool.not_eq_true'] at h14; rw [h14]; rfl) | exact congrArg AV.bool (by unfold fits; rw [hany] at h14; simp only [Bool.not_eq_false'] at h14; rw [h14]; rfl)))
theorem Ar5 (s : TState) (r : TRec) (hg : goodState s = true) (hr : goodRec r = true) (hs : s.size ≤ 400000) : GSpec Tryz.prog 101 [AV.agg s.cs, AV.agg r.cs] [] (fun _ : Value × Value => True) (fun x => TState.ow (appR s r).1 x) (fun x => AV.tup [AV.agg (TState.ocs (appR s r).1 x), AV.bool (appR s r).2]) := by
 have g := Y7.1 hg
 have hgc := g.cells
 have hsr := g.hsort
 have htr := g.tsort
 obtain ⟨hs1, hs2, hs3, hs4, hs5⟩ := R9 hs
 have hrs := AL6 hr
 have hrs2 : r.size = sizeL (fun x : Str => x.length) r.Reads + sizeL TWrite.size r.Writes := rfl
 have hple := Ac6 s.Held r.Txn
 refine H5 Tryz.func101 rfl Tryz.ntmps101 rfl ?_
 refine A3 (A2 ?_)
 refine M3 rfl rfl rfl rfl (A0 rfl) ?_
 intro b2
 refine M3 rfl rfl rfl rfl (A0 rfl) ?_
 intro b3
 refine G0 rfl rfl rfl rfl Tryz.zeroValue30 rfl ?_
 intro b4
 refine A1 rfl rfl rfl (C3 rfl F4) ?_
 refine A4 (A3 (A3 (A2 ?_)))
 refine A1 rfl rfl rfl (B3 0 rfl B6 rfl C0 (A0 rfl) rfl) ?_
 refine A1 rfl rfl rfl (B1 1 rfl (A0 rfl) rfl D0 rfl) ?_
 refine A1 rfl rfl rfl (M9 rfl (A0 rfl) C4) ?_
 refine A4 ?_
 refine C7 (A0 rfl) ?_ ?_
 ·intro h14
  have k14 := L3 h14; try simp only [A6] at k14
  have hk : r.Kind = 4 := by simpa using h14
  refine A3 (A3 (A2 ?_))
  refine A1 rfl rfl rfl (B3 2 rfl B6 rfl C0 (A0 rfl) rfl) ?_
  refine A1 rfl rfl rfl (B1 1 rfl (A0 rfl) rfl D0 rfl) ?_
  refine A1 rfl rfl rfl (B3 0 rfl B8 rfl C0 (A0 rfl) rfl) ?_
  refine A1 rfl rfl rfl (B1 2 rfl (A0 rfl) rfl D0 rfl) ?_
  refine A1 rfl rfl rfl (U5 rfl (A0 rfl) (A0 rfl)) ?_
  refine A4 ?_
  refine C7 (A0 rfl) ?_ ?_
  ·intro h19
   have k19 := of_decide_eq_true h19; try simp only [A6] at k19
   have he : appR s r = (zState, false) := by (unfold appR applyS; rw [if_pos hk, if_neg (by simp; omega)])
   rw [he]
   refine A3 (A2 ?_)
   refine A1 rfl rfl rfl (N0 (places := #[(0, 1), (1, 1), (2, 1), (3, 1)]) rfl B8 Tryz.zeroValue30 (fun w => by kernel_rfl) rfl H6 rfl) ?_
   refine D5 0 rfl rfl rfl (A0 rfl) (A0 rfl) (E2 _) rfl C1 rfl ?_
   refine A1 rfl rfl rfl (C3 rfl F4) ?_
   refine A4 ?_
   refine C8 ?_
   refine S8 0 1 2 rfl rfl O5 ?_
   refine T6 45 5 ?_
   refine T6 39 3 ?_
   exact K1 [1, 0] ((Value.slice none 0 0), (Value.slice none 0 0)) (trivial) rfl (by rfl) (T2 rfl (by decide) (E6 (J6 (ys := _) 2 rfl rfl D6 C1 rfl) (E6 (C5 rfl (by rfl)) K8)))
  ·intro h19
   have k19 := of_decide_eq_false h19; try simp only [A6] at k19
   have he : appR s r = (⟨r.Time, s.Cells, s.Held, s.Told⟩, true) := by (unfold appR applyS; rw [if_pos hk, if_pos (by simp; omega)])
   rw [he]
   refine D2 (A3 (A2 ?_))
   refine A1 rfl rfl rfl (F2 2 rfl (A0 rfl) rfl D6 C1 rfl) ?_
   refine I2 [] rfl rfl rfl rfl Tryz.call198 rfl (AA7 s (by omega)) (A9 (A0 rfl) D1) rfl ?_
   intro x22 ok22
   refine G0 rfl rfl rfl rfl Tryz.zeroValue30 rfl ?_
   intro b6
   refine D5 0 rfl rfl rfl (A0 rfl) (A0 rfl) (E2 _) rfl C1 rfl ?_
   refine A4 (A3 ?_)
   refine L1 (by first | (simp only [TState.ow, TState.ocs, pick, O9, O6, O7, O3, N5, List.nil_append, P0, P1, List.append_nil, O4, List.take_zero, O8, List.drop_zero]; exact rfl) | exact rfl) ?_
   refine A2 ?_
   refine A1 rfl rfl rfl (B3 2 rfl B6 rfl C0 (A0 rfl) rfl) ?_
   refine A1 rfl rfl rfl (B1 4 rfl (A0 rfl) rfl D0 rfl) ?_
   refine A1 rfl rfl rfl (B3 0 rfl B8 rfl C0 (A0 rfl) rfl) ?_
   refine I4 0 rfl rfl rfl (A0 rfl) (A0 rfl) (K9 _ _) rfl C0 rfl ?_
   refine A4 (A3 ?_)
   refine L1 (by first | (simp only [TState.ow, TState.ocs, pick, O9, O6, O7, O3, N5, List.nil_append, P0, P1, List.append_nil, O4, List.take_zero, O8, List.drop_zero]; exact rfl) | exact rfl) ?_
   refine A2 ?_
   refine A1 rfl rfl rfl (F2 0 rfl (A0 rfl) rfl D6 C1 rfl) ?_
   refine D5 3 rfl rfl rfl (A0 rfl) (A0 rfl) (E2 _) rfl C1 rfl ?_
   refine A1 rfl rfl rfl (C3 rfl F4) ?_
   refine A4 ?_
   refine C8 ?_
   exact K1 [1, 1] (x22.1, x22.2) (trivial) rfl (by rfl) (T2 rfl (by decide) (E6 (J6 (ys := _) 3 rfl rfl D6 C1 rfl) (E6 (C5 rfl (by rfl)) K8)))
 ·intro h14
  have k14 := L2 h14; try simp only [A6] at k14
  have hk4 : r.Kind ≠ 4 := by simpa using h14
  refine D2 (A3 (A3 (A2 ?_)))
  refine A1 rfl rfl rfl (F2 2 rfl (A0 rfl) rfl D6 C1 rfl) ?_
  refine A1 rfl rfl rfl (B3 1 rfl B6 rfl C0 (A0 rfl) rfl) ?_
  refine A1 rfl rfl rfl (B1 1 rfl (A0 rfl) rfl D0 rfl) ?_
  refine A1 rfl rfl rfl (E5 rfl Tryz.call97 rfl (Ai1 s r.Txn (by omega)) (A9 (A0 rfl) (A9 (A0 rfl) D1))) ?_
  refine A5 rfl rfl rfl rfl rfl ?_
  refine A1 rfl rfl rfl (F6 rfl (A0 rfl) rfl) ?_
  refine A1 rfl rfl rfl (F6 rfl (A0 rfl) rfl) ?_
  refine B9 rfl rfl rfl rfl rfl ?_
  refine B9 rfl rfl rfl rfl rfl ?_
  refine A4 (A3 (A2 ?_))
  refine A5 rfl rfl rfl rfl rfl ?_
  refine A4 ?_
  refine C7 (A0 rfl) ?_ ?_
  ·intro h34
   have hT : hasT s.Told r.Txn = true := by (rw [← AR9 htr]; exact h34)
   have he : appR s r = (zState, false) := by (unfold appR applyS; rw [if_neg hk4, if_pos hT]; rfl)
   rw [he]
   refine A3 (A2 ?_)
   refine A1 rfl rfl rfl (N0 (places := #[(0, 1), (1, 1), (2, 1), (3, 1)]) rfl B8 Tryz.zeroValue30 (fun w => by kernel_rfl) rfl H6 rfl) ?_
   refine D5 0 rfl rfl rfl (A0 rfl) (A0 rfl) (E2 _) rfl C1 rfl ?_
   refine A1 rfl rfl rfl (C3 rfl F4) ?_
   refine A4 ?_
   refine C8 ?_
   refine S8 0 1 2 rfl rfl O5 ?_
   refine T6 45 5 ?_
   refine T6 39 3 ?_
   exact K1 [1, 0] ((Value.slice none 0 0), (Value.slice none 0 0)) (trivial) rfl (by rfl) (T2 rfl (by decide) (E6 (J6 (ys := _) 2 rfl rfl D6 C1 rfl) (E6 (C5 rfl (by rfl)) K8)))
  ·intro h34
   have hT : hasT s.Told r.Txn = false := by (rw [← AR9 htr]; exact h34)
   refine D2 (A3 (A3 (A2 ?_)))
   refine A1 rfl rfl rfl (B3 0 rfl B6 rfl C0 (A0 rfl) rfl) ?_
   refine A1 rfl rfl rfl (B1 1 rfl (A0 rfl) rfl D0 rfl) ?_
   refine A1 rfl rfl rfl (g8 rfl (A0 rfl) C4) ?_
   refine A4 ?_
   refine C7 (A0 rfl) ?_ ?_
   ·intro h38
    have k38 := i9 h38; try simp only [A6] at k38
    have hk1 : r.Kind ≠ 1 := by simpa using h38
    rw [appR_dec hk4 hT hk1]
    refine A3 (A2 ?_)
    refine A1 rfl rfl rfl (F2 2 rfl (A0 rfl) rfl D6 C1 rfl) ?_
    refine A1 rfl rfl rfl (F2 1 rfl (A0 rfl) rfl K7 F7 rfl) ?_
    refine I2 [] rfl rfl rfl rfl Tryz.call199 rfl (Ar3 s r hgc hsr htr hT (by omega)) (A9 (A0 rfl) (A9 (A0 rfl) D1)) rfl ?_
    intro x41 ok41
    refine A1 rfl rfl rfl (F6 rfl (A0 rfl) rfl) ?_
    refine A1 rfl rfl rfl (F6 rfl (A0 rfl) rfl) ?_
    refine D5 2 rfl rfl rfl (A0 rfl) (A0 rfl) (E2 _) rfl C1 rfl ?_
    refine B9 rfl rfl rfl rfl rfl ?_
    refine A4 ?_
    refine C8 ?_
    exact K1 [0, 0] (x41.1, x41.2) (trivial) rfl (by rfl) (T2 rfl (by decide) (E6 (J6 (ys := _) 2 rfl rfl D6 C1 rfl) (E6 (C5 rfl (by rfl)) K8)))
   ·intro h38
    have k38 := V5 h38; try simp only [A6] at k38
    have hk1 : r.Kind = 1 := by simpa using h38
    have hwa : adj wLess r.Writes = true := by (rw [← Am1 hr hk1] at hr; exact AD7 hr)
    refine D2 (A3 (A2 ?_))
    refine A1 rfl rfl rfl (F2 2 rfl (A0 rfl) rfl D6 C1 rfl) ?_
    refine A1 rfl rfl rfl (B3 1 rfl B6 rfl C0 (A0 rfl) rfl) ?_
    refine A1 rfl rfl rfl (B1 1 rfl (A0 rfl) rfl D0 rfl) ?_
    refine A1 rfl rfl rfl (E5 rfl Tryz.call96 rfl (AA6 s r.Txn (by omega)) (A9 (A0 rfl) (A9 (A0 rfl) D1))) ?_
    refine A5 rfl rfl rfl rfl rfl ?_
    refine A1 rfl rfl rfl (F6 rfl (A0 rfl) rfl) ?_
    refine A1 rfl rfl rfl (F6 rfl (A0 rfl) rfl) ?_
    refine B9 rfl rfl rfl rfl rfl ?_
    refine B9 rfl rfl rfl rfl rfl ?_
    refine A4 (A3 (A3 (A2 ?_)))
    refine A5 rfl rfl rfl rfl rfl ?_
    refine A5 rfl rfl rfl rfl rfl ?_
    refine B4 rfl rfl (D4 rfl rfl rfl) (fun hc => B3 2 rfl B6 rfl C0 (A0 rfl) rfl) ?_
    refine B4 rfl rfl (D4 rfl rfl rfl) (fun hc => B1 1 rfl (B0 rfl hc) rfl D0 rfl) ?_
    refine B4 rfl rfl (D4 rfl rfl rfl) (fun hc => B3 0 rfl B8 rfl C0 (A0 rfl) rfl) ?_
    refine B4 rfl rfl (D4 rfl rfl rfl) (fun hc => B1 2 rfl (B0 rfl hc) rfl D0 rfl) ?_
    refine B4 rfl rfl (D4 rfl rfl rfl) (fun hc => U5 rfl (B0 rfl hc) (B0 rfl hc)) ?_
    refine A1 rfl rfl rfl (Q4 rfl (A0 rfl) (G4 rfl)) ?_
    refine A5 rfl rfl rfl rfl rfl ?_
    refine B4 rfl rfl (D4 rfl rfl rfl) (fun hc => F2 2 rfl (A0 rfl) rfl D6 C1 rfl) ?_
    refine B4 rfl rfl (D4 rfl rfl rfl) (fun hc => B3 4 rfl B6 rfl L7 (A0 rfl) rfl) ?_
    refine B4 rfl rfl (D4 rfl rfl rfl) (fun hc => B1 1 rfl (B0 rfl hc) rfl N9 rfl) ?_
    refine B4 rfl rfl (D4 rfl rfl rfl) (fun hc => B3 5 rfl B6 rfl K2 (A0 rfl) rfl) ?_
    refine B4 rfl rfl (D4 rfl rfl rfl) (fun hc => B1 1 rfl (B0 rfl hc) rfl L8 rfl) ?_
    refine B4 rfl rfl (D4 rfl rfl rfl) (fun hc => E5 rfl Tryz.call125 rfl (BB5 s r.Reads r.Writes hg (by omega) (by omega) hwa) (A9 (B0 rfl hc) (A9 (B0 rfl hc) (A9 (B0 rfl hc) D1)))) ?_
    refine B4 rfl rfl (D4 rfl rfl rfl) (fun hc => M2 rfl (B0 rfl hc)) ?_
    refine A1 rfl rfl rfl (Q4 rfl (A0 rfl) (G4 rfl)) ?_
    refine A4 ?_
    refine C7 (A0 rfl) ?_ ?_
    ·intro h67
     have he : appR s r = (zState, false) := by (unfold appR applyS; rw [if_neg hk4, if_neg (show ¬ hasT s.Told r.Txn = true by rw [hT]; decide), if_pos hk1, if_neg (by rw [← r4 hsr]; intro h; simp only [Bool.and_eq_true, Bool.not_eq_true', decide_eq_true_eq] at h; rw [h.1.1, h.2, decide_eq_false (by omega)] at h67; simp at h67)])
     rw [he]
     refine A3 (A2 ?_)
     refine A1 rfl rfl rfl (N0 (places := #[(0, 1), (1, 1), (2, 1), (3, 1)]) rfl B8 Tryz.zeroValue30 (fun w => by kernel_rfl) rfl H6 rfl) ?_
     refine D5 0 rfl rfl rfl (A0 rfl) (A0 rfl) (E2 _) rfl C1 rfl ?_
     refine A1 rfl rfl rfl (C3 rfl F4) ?_
     refine A4 ?_
     refine C8 ?_
     refine S8 0 1 2 rfl rfl O5 ?_
     refine T6 45 5 ?_
     refine T6 39 3 ?_
     exact K1 [1, 0] ((Value.slice none 0 0), (Value.slice none 0 0)) (trivial) rfl (by rfl) (T2 rfl (by decide) (E6 (J6 (ys := _) 2 rfl rfl D6 C1 rfl) (E6 (C5 rfl (by rfl)) K8)))
    ·intro h67
     simp only [Bool.or_eq_false_iff, Bool.not_eq_false', decide_eq_false_iff_not] at h67
     obtain ⟨⟨q1, q2⟩, q3⟩ := h67
     have he : appR s r = (⟨r.Time, s.Cells, insH (hOf r) s.Held, s.Told⟩, true) := by (unfold appR applyS; rw [if_neg hk4, if_neg (show ¬ hasT s.Told r.Txn = true by rw [hT]; decide), if_pos hk1, if_pos (by rw [← r4 hsr, q1, q3, decide_eq_true (show s.Floor < r.Time by omega)]; rfl)])
     have hins : insH (hOf r) s.Held = s.Held.take (hPos s.Held r.Txn) ++ hOf r :: s.Held.drop (hPos s.Held r.Txn) := insH_pos (h := hOf r) hsr q1
     rw [he, hins]
     refine D2 (A3 (A2 ?_))
     refine A1 rfl rfl rfl (F2 2 rfl (A0 rfl) rfl D6 C1 rfl) ?_
     refine I2 [] rfl rfl rfl rfl Tryz.call198 rfl (AA7 s (by omega)) (A9 (A0 rfl) D1) rfl ?_
     intro x70 ok70
     refine G0 rfl rfl rfl rfl Tryz.zeroValue30 rfl ?_
     intro b11
     refine D5 0 rfl rfl rfl (A0 rfl) (A0 rfl) (E2 _) rfl C1 rfl ?_
     refine A4 (A3 ?_)
     refine L1 (by first | (simp only [TState.ow, TState.ocs, pick, O9, O6, O7, O3, N5, List.nil_append, P0, P1, List.append_nil, O4, List.take_zero, O8, List.drop_zero]; exact rfl) | exact rfl) ?_
     refine AWP.le (I8 [0, 3] rfl) ?_
     refine T3 _ [(0, false), (1, false), (2, false), (3, false), (4, false), (5, true), (6, true)] (by kernel_rfl) (by kernel_rfl) rfl (W9 2) ?_
     refine F9 rfl rfl rfl (fun ext => B3 2 rfl B8 rfl E9 (A0 rfl) rfl) ?_
     refine F9 rfl rfl rfl (fun ext => B1 0 rfl (A0 rfl) rfl I3 rfl) ?_
     refine F9 rfl rfl rfl (fun ext => C6 rfl (A0 rfl)) ?_
     refine F9 rfl rfl rfl (fun ext => F2 1 rfl (A0 rfl) rfl K7 F7 rfl) ?_
     refine F9 rfl rfl rfl (fun ext => E5 rfl Tryz.call195 rfl (AU0 r (by omega)) (A9 (A0 rfl) D1)) ?_
     refine U1 rfl rfl rfl (AB6 rfl C9 D3 Tryz.zeroValue45 rfl rfl rfl rfl (E0 (A0 rfl) (E2 _) H6) rfl rfl) (fun a _ => (by first | exact F8 rfl | exact F8 (List.append_assoc _ _ _) | exact J5)) ?_
     intro v76 _
     refine U1 rfl rfl rfl (f5 [2, 5] rfl Tryz.call200 rfl (Ab9 _ _ s.Held (hOf r) (hPos s.Held r.Txn) hple (by omega)) (A9 (A0 rfl) (A9 (A0 rfl) (A9 (A0 rfl) D1))) rfl) (fun a _ => (by first | exact F8 rfl | exact F8 (List.append_assoc _ _ _) | exact J5)) ?_
     intro x77 ok77
     refine i3 ?_
     refine A1 rfl rfl rfl (B3 2 rfl B8 rfl E9 (A0 rfl) rfl) ?_
     refine Q8 5 rfl fun one_x77 => ?_
     refine I4 0 rfl rfl rfl (A0 rfl) (A0 rfl) (Q9 one_x77) rfl E9 rfl ?_
     refine A4 (A3 ?_)
     refine L1 (by first | (simp only [TState.ow, TState.ocs, pick, O9, O6, O7, O3, N5, List.nil_append, P0, P1, List.append_nil, O4, List.take_zero, O8, List.drop_zero]; exact rfl) | exact rfl) ?_
     refine A2 ?_
     refine A1 rfl rfl rfl (B3 2 rfl B6 rfl C0 (A0 rfl) rfl) ?_
     refine A1 rfl rfl rfl (B1 1 rfl (A0 rfl) rfl D0 rfl) ?_
     refine A1 rfl rfl rfl (B3 0 rfl B8 rfl C0 (A0 rfl) rfl) ?_
     refine I4 0 rfl rfl rfl (A0 rfl) (A0 rfl) (K9 _ _) rfl C0 rfl ?_
     refine A4 (A3 ?_)
     refine L1 (by first | (simp only [TState.ow, TState.ocs, pick, O9, O6, O7, O3, N5, List.nil_append, P0, P1, List.append_nil, O4, List.take_zero, O8, List.drop_zero]; exact rfl) | exact rfl) ?_
     refine A2 ?_
     refine A1 rfl rfl rfl (F2 0 rfl (A0 rfl) rfl D6 C1 rfl) ?_
     refine D5 3 rfl rfl rfl (A0 rfl) (A0 rfl) (E2 _) rfl C1 rfl ?_
     refine A1 rfl rfl rfl (C3 rfl F4) ?_
     refine A4 ?_
     refine C8 ?_
     exact K1 [5, 2] (x77, x70.2) (trivial) rfl (by rfl) (T2 rfl (by decide) (E6 (J6 (ys := _) 3 rfl rfl D6 C1 rfl) (E6 (C5 rfl (by rfl)) K8)))
end Go.Proofs.YtnlhbdkcgaeimaaGreat

set_option linter.unusedVariables false
set_option linter.unusedSimpArgs false
set_option maxRecDepth 100000
set_option maxHeartbeats 1000000
namespace Go.M
open Go.AV
theorem Au6 {α : Type} {p : α → Bool} (l : List α) : (l.any fun x => !p x) = !l.all p := by rw [List.not_all_eq_any_not]
theorem Ar6 (a b : THeld) : decide (hRec a = hRec b) = decide (a = b) := by
  rw [decide_eq_decide]
  constructor
  · intro h; cases a; cases b; unfold hRec at h; simp_all
  · rintro rfl; rfl
end Go.M
namespace Go.Proofs.YtnlhbdkcgaeimaaGreat
open Go Go.AV Go.M
attribute [local irreducible] OpW OpA OpS AWP FSpec ESpec GSpec OpE RetOk RetOkG RvDen Le Ev GuardIs SrcIs Int.tmod Int.tdiv IntKind.wrap
theorem Ao1 (s : TState) (r : TRec) (hg : goodState s = true) (hr : goodRec r = true) (hs : s.size ≤ 400000) : FSpec Tryz.prog 101 [AV.agg s.cs, AV.agg r.cs] (AV.tup [AV.agg (appR s r).1.cs, AV.bool (appR s r).2]) :=
  Q7 (Ar5 s r hg hr hs) fun x _ => AM9 (G8 (X7 (TState.lc _ x)) (G8 L6 T8))
theorem Ai2 (r : TRec) (hs : r.size ≤ 1048576) : FSpec Tryz.prog 82 [AV.agg r.cs] (AV.bool (!goodRec r)) := by
 refine E7 Tryz.func82 rfl Tryz.ntmps82 rfl ?_
 refine A3 (A2 ?_)
 refine M3 rfl rfl rfl rfl (A0 rfl) ?_
 intro b1
 refine A1 rfl rfl rfl (C3 rfl F4) ?_
 refine A4 (A3 (A2 ?_))
 refine A1 rfl rfl rfl (F2 0 rfl (A0 rfl) rfl K7 F7 rfl) ?_
 refine A1 rfl rfl rfl (E5 rfl Tryz.call83 rfl (AP2 _ (by first | assumption | omega)) (A9 (A0 rfl) D1)) ?_
 refine A1 rfl rfl rfl (M2 rfl (A0 rfl)) ?_
 refine B9 rfl rfl rfl rfl rfl ?_
 refine A4 ?_
 refine C8 ?_
 exact H9 rfl (C5 rfl (by first | rfl | (refine congrArg AV.bool ?_; simp_all; done)))
theorem Ar7 (l : List TRec) (hg : ∀ r ∈ l, goodRec r = true) (hl : l.length ≤ 60) : GSpec Tryz.prog 84 [AV.list 7 (l.map TRec.cs)] [] (fun _ : Value => True) (fun x => [.arr x 4 1 ((didFrom zState l).map fun b => [AV.bool b])]) (fun x => AV.tup [AV.agg (stFrom zState l).cs, AV.is x]) := by
 have hgs : ∀ i, GS (stFrom zState (l.take i)) := fun i => t7 t6 fun r hr => hg r (List.mem_of_mem_take hr)
 have hsz : ∀ i, (stFrom zState (l.take i)).size ≤ 400000 := fun i => by
  have h1 := AD8 (stFrom zState (l.take i))
  have h2 := u6 (m := 400) (s := zState) (l := l.take i) fun r hr => AL6 (hg r (List.mem_of_mem_take hr))
  have h3 : phi zState = 0 := rfl
  have h4 : (l.take i).length ≤ 60 := by rw [A7]; omega
  have h5 : (l.take i).length * (3 * (1 + 400) + 1) ≤ 60 * 1204 := Nat.mul_le_mul h4 (by decide)
  omega
 refine H5 Tryz.func84 rfl Tryz.ntmps84 rfl ?_
 refine A3 (A2 ?_)
 refine G0 rfl rfl rfl rfl Tryz.zeroValue30 rfl ?_
 intro b2
 refine A1 rfl rfl rfl (C3 rfl K5) ?_
 refine A4 (A3 (A2 ?_))
 refine A1 rfl rfl rfl (N0 (places := #[(0, 1), (1, 1), (2, 1), (3, 1)]) rfl B8 Tryz.zeroValue30 (fun w => by kernel_rfl) rfl H6 rfl) ?_
 refine G0 rfl rfl rfl rfl Tryz.zeroValue30 rfl ?_
 intro b4
 refine D5 0 rfl rfl rfl (A0 rfl) (A0 rfl) (E2 _) rfl C1 rfl ?_
 refine A4 (A3 ?_)
 refine AWP.le (l4 0 1 2 rfl rfl O5) ?_
 refine AWP.le (l4 0 2 5 rfl rfl O5) ?_
 refine AWP.le (l4 0 3 3 rfl rfl O5) ?_
 refine A2 ?_
 refine S4 rfl rfl rfl rfl R6 J4 ?_
 intro v11
 refine B9 rfl rfl rfl rfl rfl ?_
 refine A4 (A3 (A3 (A2 ?_)))
 refine A5 rfl rfl rfl rfl rfl ?_
 refine A1 rfl rfl rfl (G9 rfl I9 (A0 rfl)) ?_
 refine A1 rfl rfl rfl (C6 rfl C4) ?_
 refine A4 (D7 ?_)
 refine AWP.le (I8 [1, 0] rfl) ?_
 refine V0 [(2, _), (3, _), (4, _), (12, _), (13, _)] _ (fun (i : Nat) (v : Value) (bs : List Bool) => i ≤ l.length ∧ bs = didFrom zState (l.take i) ∧ bs.length ≤ i) (fun (i : Nat) (v : Value) (bs : List Bool) => [.box b4 30 (stFrom zState (l.take i)).cs, .arr v 4 1 (bs.map fun b => [AV.bool b])]) (fun (i : Nat) (v : Value) (bs : List Bool) => [(5, AV.is v), (14, AV.int i)]) (fun (i : Nat) (v : Value) (bs : List Bool) => l.length - i) (0) (v11) ([]) ?_ (S7 (by rfl) ⟨rfl, rfl, rfl, rfl, rfl, rfl, rfl, trivial⟩) ?_
 ·exact ⟨Nat.zero_le _, rfl, Nat.le_refl _⟩
 intro i v bs hinv
 refine A3 (A2 ?_)
 refine A1 rfl rfl rfl (K6 rfl (A0 rfl) (A0 rfl)) ?_
 refine A4 (A3 ?_)
 refine C7 (A0 rfl) ?_ ?_
 ·intro h15
  have k15 := of_decide_eq_true h15; try simp only [A6] at k15
  have hlt : i < l.length := by omega
  obtain ⟨r, hx⟩ := get_some hlt
  have hgr := hg r (G6 hx)
  have hgi := Y7.2 (hgs i)
  have hsi := hsz i
  have hst := BB3 (stFrom zState (l.take i)) r
  refine D2 (A3 (D7 (A3 (A2 ?_))))
  refine A1 rfl rfl rfl (I7 rfl I9 F7 (A0 rfl) (A0 rfl) hx (by first | omega | (simp only [A6, A7, B2, B7, A8, szR] at *; omega))) ?_
  refine A1 rfl rfl rfl (K4 rfl (A0 rfl) K7 F7) ?_
  refine G0 rfl rfl rfl rfl Tryz.zeroValue49 rfl ?_
  intro b7
  refine D5 0 rfl rfl rfl (A0 rfl) (A0 rfl) (E2 _) rfl F7 rfl ?_
  refine A4 (A3 (A2 ?_))
  refine A1 rfl rfl rfl (F2 1 rfl (A0 rfl) rfl D6 C1 rfl) ?_
  refine A1 rfl rfl rfl (F2 0 rfl (A0 rfl) rfl K7 F7 rfl) ?_
  refine A1 rfl rfl rfl (E5 rfl Tryz.call101 rfl (Ao1 (stFrom zState (l.take i)) r hgi hgr hsi) (A9 (A0 rfl) (A9 (A0 rfl) D1))) ?_
  refine A5 rfl rfl rfl rfl rfl ?_
  refine A1 rfl rfl rfl (F6 rfl (A0 rfl) rfl) ?_
  refine A1 rfl rfl rfl (F6 rfl (A0 rfl) rfl) ?_
  refine G0 rfl rfl rfl rfl Tryz.zeroValue30 rfl ?_
  intro b8
  refine D5 0 rfl rfl rfl (A0 rfl) (A0 rfl) (E2 _) rfl C1 rfl ?_
  refine B9 rfl rfl rfl rfl rfl ?_
  refine A4 (A3 (A3 (A2 ?_)))
  refine A5 rfl rfl rfl rfl rfl ?_
  refine A4 ?_
  refine C7 (A0 rfl) ?_ ?_
  ·intro h24
   have hstep : (appR (stFrom zState (l.take i)) r).1 = stepS (stFrom zState (l.take i)) r := by (rw [← hst, if_pos h24])
   refine A2 ?_
   refine A1 rfl rfl rfl (F2 0 rfl (A0 rfl) rfl D6 C1 rfl) ?_
   refine D5 2 rfl rfl rfl (A0 rfl) (A0 rfl) (E2 _) rfl C1 rfl ?_
   refine A4 (A2 ?_)
   refine A5 rfl rfl rfl rfl rfl ?_
   refine A5 rfl rfl rfl rfl rfl ?_
   refine A1 rfl rfl rfl (L9 rfl R6 J4 Tryz.zeroValue4 rfl rfl rfl rfl (E0 (A0 rfl) (V3 _) H6) rfl rfl) ?_
   refine L5 (by' := 1) 3 rfl rfl rfl rfl R6 Tryz.type4 rfl rfl rfl rfl rfl rfl (A0 rfl) (A0 rfl) rfl (by first | omega | (simp only [A6, A7, B2, B7, A8, szR] at *; omega)) ?_
   intro v29_1
   refine B9 rfl rfl rfl rfl rfl ?_
   refine A4 (A2 ?_)
   refine A1 rfl rfl rfl (G7 rfl (A0 rfl) C4 (by first | omega | (simp only [A6, A7, B2, B7, A8, szR] at *; omega))) ?_
   refine A5 rfl rfl rfl rfl rfl ?_
   refine A4 ?_
   refine T5 i v bs (i + 1) (v29_1) (bs ++ [(appR (stFrom zState (l.take i)) r).2]) ?_ ?_ (Le.trans (I8 [0, 0, 0, 0] rfl) (M1 2 (by first | (rw [List.map_append, m2 hx, ← hstep]; rfl) | rfl) ⟨rfl, rfl, rfl, rfl, rfl, rfl, rfl, trivial⟩))
   ·exact ⟨by omega, by rw [i6 hx, hinv.2.1, (Au5 _ _).1], by rw [J1]; simp; omega⟩
   ·omega
  ·intro h24
   have hstep : stFrom zState (l.take i) = stepS (stFrom zState (l.take i)) r := by (conv => rhs; rw [← hst, if_neg (by rw [h24]; decide)])
   refine D2 (A2 ?_)
   refine A5 rfl rfl rfl rfl rfl ?_
   refine A5 rfl rfl rfl rfl rfl ?_
   refine A1 rfl rfl rfl (L9 rfl R6 J4 Tryz.zeroValue4 rfl rfl rfl rfl (E0 (A0 rfl) (V3 _) H6) rfl rfl) ?_
   refine L5 (by' := 1) 3 rfl rfl rfl rfl R6 Tryz.type4 rfl rfl rfl rfl rfl rfl (A0 rfl) (A0 rfl) rfl (by first | omega | (simp only [A6, A7, B2, B7, A8, szR] at *; omega)) ?_
   intro v29_2
   refine B9 rfl rfl rfl rfl rfl ?_
   refine A4 (A2 ?_)
   refine A1 rfl rfl rfl (G7 rfl (A0 rfl) C4 (by first | omega | (simp only [A6, A7, B2, B7, A8, szR] at *; omega))) ?_
   refine A5 rfl rfl rfl rfl rfl ?_
   refine A4 ?_
   refine T5 i v bs (i + 1) (v29_2) (bs ++ [(appR (stFrom zState (l.take i)) r).2]) ?_ ?_ (Le.trans (I8 [0, 0, 0, 0] rfl) (M1 2 (by first | (rw [List.map_append, m2 hx, ← hstep]; rfl) | rfl) ⟨rfl, rfl, rfl, rfl, rfl, rfl, rfl, trivial⟩))
   ·exact ⟨by omega, by rw [i6 hx, hinv.2.1, (Au5 _ _).1], by rw [J1]; simp; omega⟩
   ·omega
 ·intro h15
  have k15 := of_decide_eq_false h15; try simp only [A6] at k15
  have hge : i = l.length := by omega
  have hbs := hinv.2.1
  rw [hge, List.take_length] at hbs
  rw [hge, List.take_length, ← hbs]
  refine H3 ?_
  refine A3 (A2 ?_)
  refine A1 rfl rfl rfl (F2 0 rfl (A0 rfl) rfl D6 C1 rfl) ?_
  refine A5 rfl rfl rfl rfl rfl ?_
  refine D5 2 rfl rfl rfl (A0 rfl) (A0 rfl) (E2 _) rfl C1 rfl ?_
  refine B9 rfl rfl rfl rfl rfl ?_
  refine A4 ?_
  refine C8 ?_
  exact K1 [1] v (trivial) rfl (by rfl) (T2 rfl (by decide) (E6 (J6 (ys := _) 2 rfl rfl D6 C1 rfl) (E6 (C5 rfl (by rfl)) K8)))
theorem Ao2 (l : List TRec) (hl : l.length ≤ 1048576) (hs : ∀ r ∈ l, r.size ≤ 1048576) : GSpec Tryz.prog 10 [AV.list 7 (l.map TRec.cs)] [] (fun _ : Value => True) (fun x => [.arr x 4 1 ((stateOfR l).2.1.map fun b => [AV.bool b])]) (fun x => AV.tup [AV.agg (stateOfR l).1.cs, AV.is x, AV.bool (stateOfR l).2.2]) := by
 refine H5 Tryz.func10 rfl Tryz.ntmps10 rfl ?_
 refine A3 (A2 ?_)
 refine G0 rfl rfl rfl rfl Tryz.zeroValue30 rfl ?_
 intro b2
 refine A1 rfl rfl rfl (C3 rfl K5) ?_
 refine A1 rfl rfl rfl (C3 rfl F4) ?_
 refine A4 (A3 (A3 (A2 ?_)))
 refine A5 rfl rfl rfl rfl rfl ?_
 refine A1 rfl rfl rfl (G9 rfl I9 (A0 rfl)) ?_
 refine A1 rfl rfl rfl (P8 rfl (A0 rfl) C4) ?_
 refine A5 rfl rfl rfl rfl rfl ?_
 refine B4 rfl rfl (D4 rfl rfl rfl) (fun hc => C6 rfl (A0 rfl)) ?_
 refine B4 rfl rfl (D4 rfl rfl rfl) (fun hc => E5 rfl Tryz.call81 rfl (AK1 l (fun r => r.size ≤ 1048576) (fun r => !goodRec r) hs) (A9 (B0 rfl hc) (A9 (At2 Tryz.call82 (fun r h => Ai2 r h)) D1))) ?_
 refine A1 rfl rfl rfl (Q4 rfl (A0 rfl) (G4 rfl)) ?_
 refine A4 ?_
 refine C7 (A0 rfl) ?_ ?_
 ·intro h13
  have he : stateOfR l = (zState, [], false) := by (unfold stateOfR; rw [if_neg (by intro h; rw [Au6, h.2] at h13; simp at h13; omega)])
  rw [he]
  refine A3 (A2 ?_)
  refine A1 rfl rfl rfl (N0 (places := #[(0, 1), (1, 1), (2, 1), (3, 1)]) rfl B8 Tryz.zeroValue30 (fun w => by kernel_rfl) rfl H6 rfl) ?_
  refine D5 0 rfl rfl rfl (A0 rfl) (A0 rfl) (E2 _) rfl C1 rfl ?_
  refine A1 rfl rfl rfl (C3 rfl K5) ?_
  refine A1 rfl rfl rfl (C3 rfl F4) ?_
  refine A4 ?_
  refine C8 ?_
  refine S8 0 1 2 rfl rfl O5 ?_
  refine S8 0 2 5 rfl rfl O5 ?_
  refine S8 0 3 3 rfl rfl O5 ?_
  refine T6 4 1 ?_
  exact K1 [0] (Value.slice none 0 0) (trivial) rfl (by rfl) (T2 rfl (by decide) (E6 (J6 (ys := _) 1 rfl rfl D6 C1 rfl) (E6 (C5 rfl (by rfl)) (E6 (C5 rfl (by rfl)) K8))))
 ·intro h13
  rw [Au6] at h13
  simp only [Bool.or_eq_false_iff, Bool.not_eq_false', decide_eq_false_iff_not, A6] at h13
  have hgl : ∀ r ∈ l, goodRec r = true := List.all_eq_true.1 h13.2
  have hl6 : l.length ≤ 60 := by omega
  have he : stateOfR l = (stFrom zState l, didFrom zState l, true) := if_pos ⟨hl6, h13.2⟩
  rw [he]
  refine D2 (A3 (A2 ?_))
  refine A5 rfl rfl rfl rfl rfl ?_
  refine I2 [] rfl rfl rfl rfl Tryz.call84 rfl (Ar7 l hgl hl6) (A9 (A0 rfl) D1) rfl ?_
  intro x17 ok17
  refine A5 rfl rfl rfl rfl rfl ?_
  refine A1 rfl rfl rfl (F6 rfl (A0 rfl) rfl) ?_
  refine A1 rfl rfl rfl (F6 rfl (A0 rfl) rfl) ?_
  refine G0 rfl rfl rfl rfl Tryz.zeroValue30 rfl ?_
  intro b5
  refine D5 0 rfl rfl rfl (A0 rfl) (A0 rfl) (E2 _) rfl C1 rfl ?_
  refine B9 rfl rfl rfl rfl rfl ?_
  refine A4 (A3 (A2 ?_))
  refine A1 rfl rfl rfl (F2 0 rfl (A0 rfl) rfl D6 C1 rfl) ?_
  refine A5 rfl rfl rfl rfl rfl ?_
  refine D5 2 rfl rfl rfl (A0 rfl) (A0 rfl) (E2 _) rfl C1 rfl ?_
  refine B9 rfl rfl rfl rfl rfl ?_
  refine A1 rfl rfl rfl (C3 rfl F4) ?_
  refine A4 ?_
  refine C8 ?_
  exact K1 [1] x17 (trivial) rfl (by rfl) (T2 rfl (by decide) (E6 (J6 (ys := _) 2 rfl rfl D6 C1 rfl) (E6 (C5 rfl (by rfl)) (E6 (C5 rfl (by rfl)) K8))))
theorem AL7 (l : List TRec) (hl : l.length ≤ 1048576) (hs : ∀ r ∈ l, r.size ≤ 1048576) : FSpec Tryz.prog 10 [AV.list 7 (l.map TRec.cs)] (AV.tup [AV.agg (stateOfR l).1.cs, AV.list 1 ((stateOfR l).2.1.map fun b => [AV.bool b]), AV.bool (stateOfR l).2.2]) :=
  Q7 (Ao2 l hl hs) fun x _ => AM9 (G8 L6 (G8 (M6 (G6 (i := 0) rfl) J0) (G8 L6 T8)))
theorem Ao3 (s : TState) (hg : goodState s = true) : FSpec Tryz.prog 112 [AV.agg s.cs] (AV.int (settled s)) := by
 have g := Y7.1 hg
 have hhl := g.hlen
 refine E7 Tryz.func112 rfl Tryz.ntmps112 rfl ?_
 refine A3 (A2 ?_)
 refine M3 rfl rfl rfl rfl (A0 rfl) ?_
 intro b1
 refine A1 rfl rfl rfl (C3 rfl C4) ?_
 refine A4 (A3 (A2 ?_))
 refine A1 rfl rfl rfl (B3 0 rfl B8 rfl C0 (A0 rfl) rfl) ?_
 refine A1 rfl rfl rfl (B1 0 rfl (A0 rfl) rfl D0 rfl) ?_
 refine B9 rfl rfl rfl rfl rfl ?_
 refine A4 (A3 (A3 (A2 ?_)))
 refine A1 rfl rfl rfl (B3 2 rfl B8 rfl E9 (A0 rfl) rfl) ?_
 refine A1 rfl rfl rfl (B1 0 rfl (A0 rfl) rfl I3 rfl) ?_
 refine A1 rfl rfl rfl (G9 rfl C9 (A0 rfl)) ?_
 refine A1 rfl rfl rfl (C6 rfl C4) ?_
 refine A4 (D7 ?_)
 refine J9 [(2, _), (9, _), (10, _)] _ (fun (i : Nat) => i ≤ s.Held.length) (fun (i : Nat) => []) (fun (i : Nat) => [(3, AV.int ((s.Held.take i).foldl (fun o h => min o (h.Time - 1)) s.Floor)), (11, AV.int i)]) (fun (i : Nat) => s.Held.length - i) (0) ?_ (J8 ⟨rfl, rfl, rfl, rfl, rfl, trivial⟩) ?_
 ·exact Nat.zero_le _
 intro i hinv
 refine A3 (A2 ?_)
 refine A1 rfl rfl rfl (K6 rfl (A0 rfl) (A0 rfl)) ?_
 refine A4 (A3 ?_)
 refine C7 (A0 rfl) ?_ ?_
 ·intro h12
  have k12 := of_decide_eq_true h12; try simp only [A6] at k12
  have hlt : i < s.Held.length := by omega
  obtain ⟨h, hx⟩ := get_some hlt
  obtain ⟨q1, q2, q3⟩ := AC1 g (G6 hx)
  refine D2 (A3 (D7 (A3 (A2 ?_))))
  refine A1 rfl rfl rfl (I7 rfl C9 D3 (A0 rfl) (A0 rfl) hx (by first | omega | (simp only [A6, A7, B2, B7, A8, szR] at *; omega))) ?_
  refine A1 rfl rfl rfl (K4 rfl (A0 rfl) I0 D3) ?_
  refine G0 rfl rfl rfl rfl Tryz.zeroValue45 rfl ?_
  intro b5
  refine D5 0 rfl rfl rfl (A0 rfl) (A0 rfl) (E2 _) rfl D3 rfl ?_
  refine A4 (A2 ?_)
  refine A5 rfl rfl rfl rfl rfl ?_
  refine A1 rfl rfl rfl (B3 1 rfl F1 rfl C0 (A0 rfl) rfl) ?_
  refine A1 rfl rfl rfl (B1 0 rfl (A0 rfl) rfl D0 rfl) ?_
  refine A1 rfl rfl rfl (Q0 rfl (A0 rfl) C4 (by first | omega | (simp only [A6, A7, B2, B7, A8, szR] at *; omega))) ?_
  refine A1 rfl rfl rfl (w_min rfl (A0 rfl) (A0 rfl)) ?_
  refine B9 rfl rfl rfl rfl rfl ?_
  refine A4 (A2 ?_)
  refine A1 rfl rfl rfl (G7 rfl (A0 rfl) C4 (by first | omega | (simp only [A6, A7, B2, B7, A8, szR] at *; omega))) ?_
  refine A5 rfl rfl rfl rfl rfl ?_
  refine A4 ?_
  refine L4 i (i + 1) ?_ ?_ (T9 1 ⟨congrArg (fun z => some (AV.int z)) (AP8 hx).symm, rfl, rfl, rfl, rfl, trivial⟩)
  ·omega
  ·omega
 ·intro h12
  have k12 := of_decide_eq_false h12; try simp only [A6] at k12
  have hge : s.Held.length ≤ i := by omega
  rw [List.take_of_length_le hge]
  refine H3 ?_
  refine A3 (A2 ?_)
  refine A5 rfl rfl rfl rfl rfl ?_
  refine B9 rfl rfl rfl rfl rfl ?_
  refine A4 ?_
  refine C8 ?_
  exact H9 rfl (C5 rfl (by rfl))
theorem o6 (s : TState) (hs : s.size ≤ 1048576) : FSpec Tryz.prog 29 [AV.agg s.cs] (AV.tup [AV.int (settledR s).1, AV.bool (settledR s).2]) := by
 refine E7 Tryz.func29 rfl Tryz.ntmps29 rfl ?_
 refine A3 (A2 ?_)
 refine M3 rfl rfl rfl rfl (A0 rfl) ?_
 intro b1
 refine A1 rfl rfl rfl (C3 rfl C4) ?_
 refine A1 rfl rfl rfl (C3 rfl F4) ?_
 refine A4 (A3 (A3 (A2 ?_)))
 refine A1 rfl rfl rfl (F2 0 rfl (A0 rfl) rfl D6 C1 rfl) ?_
 refine A1 rfl rfl rfl (E5 rfl Tryz.call15 rfl (AI0 _ (by first | assumption | omega)) (A9 (A0 rfl) D1)) ?_
 refine A1 rfl rfl rfl (M2 rfl (A0 rfl)) ?_
 refine A4 ?_
 refine C7 (A0 rfl) ?_ ?_
 ·intro h6
  have he : settledR s = (0, false) := if_neg (by simpa using h6)
  rw [he]
  refine A3 (A2 ?_)
  refine A1 rfl rfl rfl (C3 rfl C4) ?_
  refine A1 rfl rfl rfl (C3 rfl F4) ?_
  refine A4 ?_
  refine C8 ?_
  exact X2 rfl (by decide) (E6 (C5 rfl (by rfl)) (E6 (C5 rfl (by rfl)) K8))
 ·intro h6
  have hg : goodState s = true := by simpa using h6
  have he : settledR s = (settled s, true) := if_pos hg
  rw [he]
  refine D2 (A3 (A2 ?_))
  refine A1 rfl rfl rfl (F2 0 rfl (A0 rfl) rfl D6 C1 rfl) ?_
  refine A1 rfl rfl rfl (E5 rfl Tryz.call112 rfl (Ao3 _ (by assumption)) (A9 (A0 rfl) D1)) ?_
  refine B9 rfl rfl rfl rfl rfl ?_
  refine A1 rfl rfl rfl (C3 rfl F4) ?_
  refine A4 ?_
  refine C8 ?_
  exact X2 rfl (by decide) (E6 (C5 rfl (by rfl)) (E6 (C5 rfl (by rfl)) K8))
theorem Ax9 (s : TState) (k : Str) (t : Int) (hg : goodState s = true) (hs : s.size ≤ 1048576) : GSpec Tryz.prog 118 [AV.agg s.cs, AV.str k, AV.int t] [] (fun _ : Value => True) (fun x => [.arr x 3 1 ((blocksOf s.Held k t).map fun n => [AV.int n])]) (fun x => AV.is x) := by
 have g := Y7.1 hg
 obtain ⟨hs1, hs2, hs3, hs4, hs5⟩ := R9 hs
 refine H5 Tryz.func118 rfl Tryz.ntmps118 rfl ?_
 refine A3 (A2 ?_)
 refine M3 rfl rfl rfl rfl (A0 rfl) ?_
 intro b3
 refine A1 rfl rfl rfl (C3 rfl K5) ?_
 refine A4 (A3 (A2 ?_))
 refine S4 rfl rfl rfl rfl N8 C0 ?_
 intro v12
 refine B9 rfl rfl rfl rfl rfl ?_
 refine A4 (A3 (A3 (A2 ?_)))
 refine A1 rfl rfl rfl (B3 2 rfl B8 rfl E9 (A0 rfl) rfl) ?_
 refine A1 rfl rfl rfl (B1 1 rfl (A0 rfl) rfl I3 rfl) ?_
 refine A1 rfl rfl rfl (G9 rfl C9 (A0 rfl)) ?_
 refine A1 rfl rfl rfl (C6 rfl C4) ?_
 refine A4 (D7 ?_)
 refine V0 [(1, _), (2, _), (6, _), (14, _), (15, _)] _ (fun (i : Nat) (v : Value) (ns : List Int) => i ≤ s.Held.length ∧ ns = blocksOf (s.Held.take i) k t) (fun (i : Nat) (v : Value) (ns : List Int) => [.arr v 3 1 (ns.map fun n => [AV.int n])]) (fun (i : Nat) (v : Value) (ns : List Int) => [(7, AV.is v), (16, AV.int i)]) (fun (i : Nat) (v : Value) (ns : List Int) => s.Held.length - i) (0) (v12) ([]) ?_ (S7 (by rfl) ⟨rfl, rfl, rfl, rfl, rfl, rfl, rfl, trivial⟩) ?_
 ·exact ⟨Nat.zero_le _, rfl⟩
 intro i v ns hinv
 refine A3 (A2 ?_)
 refine A1 rfl rfl rfl (K6 rfl (A0 rfl) (A0 rfl)) ?_
 refine A4 (A3 ?_)
 refine C7 (A0 rfl) ?_ ?_
 ·intro h17
  have k17 := of_decide_eq_true h17; try simp only [A6] at k17
  have hlt : i < s.Held.length := by omega
  obtain ⟨h, hx⟩ := get_some hlt
  obtain ⟨q1, q2, q3⟩ := AC1 g (G6 hx)
  obtain ⟨g1, g2, g3, g4, g5⟩ := U2 hs2 hx
  have hwh := Ag3 q3 k
  have hnl : ns.length ≤ 1048576 := by (rw [hinv.2]; have h9 := Aa0 (s.Held.take i) k t; rw [A7] at h9; omega)
  refine D2 (A3 (D7 (A3 (A2 ?_))))
  refine A1 rfl rfl rfl (I7 rfl C9 D3 (A0 rfl) (A0 rfl) hx (by first | omega | (simp only [A6, A7, B2, B7, A8, szR] at *; omega))) ?_
  refine A1 rfl rfl rfl (K4 rfl (A0 rfl) I0 D3) ?_
  refine G0 rfl rfl rfl rfl Tryz.zeroValue45 rfl ?_
  intro b9
  refine D5 0 rfl rfl rfl (A0 rfl) (A0 rfl) (E2 _) rfl D3 rfl ?_
  refine A4 (A3 (A2 ?_))
  refine A1 rfl rfl rfl (B3 4 rfl F1 rfl K2 (A0 rfl) rfl) ?_
  refine A1 rfl rfl rfl (B1 0 rfl (A0 rfl) rfl L8 rfl) ?_
  refine A5 rfl rfl rfl rfl rfl ?_
  refine A1 rfl rfl rfl (E5 rfl Tryz.call216 rfl (AH9 h.Writes k (by omega)) (A9 (A0 rfl) (A9 (A0 rfl) D1))) ?_
  refine A5 rfl rfl rfl rfl rfl ?_
  refine A1 rfl rfl rfl (F6 rfl (A0 rfl) rfl) ?_
  refine A1 rfl rfl rfl (F6 rfl (A0 rfl) rfl) ?_
  refine B9 rfl rfl rfl rfl rfl ?_
  refine B9 rfl rfl rfl rfl rfl ?_
  refine A4 (A3 (A2 ?_))
  refine A5 rfl rfl rfl rfl rfl ?_
  refine A5 rfl rfl rfl rfl rfl ?_
  refine B4 rfl rfl (C2 rfl rfl rfl) (fun hc => B3 1 rfl F1 rfl C0 (A0 rfl) rfl) ?_
  refine B4 rfl rfl (C2 rfl rfl rfl) (fun hc => B1 0 rfl (B0 rfl hc) rfl D0 rfl) ?_
  refine B4 rfl rfl (C2 rfl rfl rfl) (fun hc => C6 rfl (A0 rfl)) ?_
  refine B4 rfl rfl (C2 rfl rfl rfl) (fun hc => U5 rfl (B0 rfl hc) (B0 rfl hc)) ?_
  refine A1 rfl rfl rfl (I6 rfl (A0 rfl) (G4 rfl)) ?_
  refine A4 ?_
  refine C7 (A0 rfl) ?_ ?_
  ·intro h33
   refine A2 ?_
   refine A5 rfl rfl rfl rfl rfl ?_
   refine A1 rfl rfl rfl (B3 0 rfl F1 rfl C0 (A0 rfl) rfl) ?_
   refine A1 rfl rfl rfl (B1 0 rfl (A0 rfl) rfl D0 rfl) ?_
   refine A1 rfl rfl rfl (L9 rfl N8 C0 Tryz.zeroValue3 rfl rfl rfl rfl (E0 (A0 rfl) (K9 _ _) H6) rfl rfl) ?_
   refine L5 (by' := 8) 1 rfl rfl rfl rfl N8 Tryz.type3 rfl rfl rfl rfl rfl rfl (A0 rfl) (A0 rfl) rfl (by first | omega | (simp only [A6, A7, B2, B7, A8, szR] at *; omega)) ?_
   intro v38_1
   refine B9 rfl rfl rfl rfl rfl ?_
   refine A4 (A2 ?_)
   refine A1 rfl rfl rfl (G7 rfl (A0 rfl) C4 (by first | omega | (simp only [A6, A7, B2, B7, A8, szR] at *; omega))) ?_
   refine A5 rfl rfl rfl rfl rfl ?_
   refine A4 ?_
   refine T5 i v ns (i + 1) (v38_1) (ns ++ [h.Txn]) ?_ ?_ (Le.trans (I8 [0, 0] rfl) (M1 1 (by first | rfl | (rw [List.map_append]; rfl)) ⟨rfl, rfl, rfl, rfl, rfl, rfl, rfl, trivial⟩))
   ·first | exact ⟨by omega, by rw [AC0 hx (by rw [← hwh]; exact h33), hinv.2]⟩ | exact ⟨by omega, by rw [AE8 hx (by rw [← hwh]; exact h33), hinv.2]⟩
   ·omega
  ·intro h33
   refine D2 (A2 ?_)
   refine A1 rfl rfl rfl (G7 rfl (A0 rfl) C4 (by first | omega | (simp only [A6, A7, B2, B7, A8, szR] at *; omega))) ?_
   refine A5 rfl rfl rfl rfl rfl ?_
   refine A4 ?_
   refine T5 i v ns (i + 1) (v) (ns) ?_ ?_ (Le.trans (I8 [0, 0] rfl) (M1 1 (by first | rfl | (rw [List.map_append]; rfl)) ⟨rfl, rfl, rfl, rfl, rfl, rfl, rfl, trivial⟩))
   ·first | exact ⟨by omega, by rw [AC0 hx (by rw [← hwh]; exact h33), hinv.2]⟩ | exact ⟨by omega, by rw [AE8 hx (by rw [← hwh]; exact h33), hinv.2]⟩
   ·omega
 ·intro h17
  have k17 := of_decide_eq_false h17; try simp only [A6] at k17
  have hge : s.Held.length ≤ i := by omega
  have hns := hinv.2
  rw [List.take_of_length_le hge] at hns
  rw [← hns]
  refine H3 ?_
  refine A3 (A2 ?_)
  refine A5 rfl rfl rfl rfl rfl ?_
  refine B9 rfl rfl rfl rfl rfl ?_
  refine A4 ?_
  refine C8 ?_
  exact K1 [0] v (trivial) rfl (by rfl) (N1 rfl (C5 rfl (by rfl)))
theorem Ar8 (s : TState) (k : Str) (t : Int) (hg : goodState s = true) (hs : s.size ≤ 1048576) : FSpec Tryz.prog 118 [AV.agg s.cs, AV.str k, AV.int t] (ints (blocksOf s.Held k t)) :=
  Q7 (Ax9 s k t hg hs) fun x _ => M6 (List.mem_singleton.2 rfl) J0
theorem AI2 (s : TState) (k : Str) (t : Int) (hs : s.size ≤ 1048576) (hk : k.length ≤ 1048576) : FSpec Tryz.prog 34 [AV.agg s.cs, AV.str k, AV.int t] (AV.tup [ints (blocksR s k t).1, AV.bool (blocksR s k t).2]) := by
 refine E7 Tryz.func34 rfl Tryz.ntmps34 rfl ?_
 refine A3 (A2 ?_)
 refine M3 rfl rfl rfl rfl (A0 rfl) ?_
 intro b3
 refine A1 rfl rfl rfl (C3 rfl (n3 (sz := 1))) ?_
 refine A1 rfl rfl rfl (C3 rfl F4) ?_
 refine A4 (A3 (A3 (A2 ?_)))
 refine A1 rfl rfl rfl (F2 0 rfl (A0 rfl) rfl D6 C1 rfl) ?_
 refine A1 rfl rfl rfl (E5 rfl Tryz.call15 rfl (AI0 _ (by first | assumption | omega)) (A9 (A0 rfl) D1)) ?_
 refine A1 rfl rfl rfl (M2 rfl (A0 rfl)) ?_
 refine A5 rfl rfl rfl rfl rfl ?_
 refine B4 rfl rfl (D4 rfl rfl rfl) (fun hc => C6 rfl (A0 rfl)) ?_
 refine B4 rfl rfl (D4 rfl rfl rfl) (fun hc => E5 rfl Tryz.call117 rfl (AO7 _ (by omega)) (A9 (B0 rfl hc) D1)) ?_
 refine B4 rfl rfl (D4 rfl rfl rfl) (fun hc => M2 rfl (B0 rfl hc)) ?_
 refine A1 rfl rfl rfl (Q4 rfl (A0 rfl) (G4 rfl)) ?_
 refine A5 rfl rfl rfl rfl rfl ?_
 refine B4 rfl rfl (D4 rfl rfl rfl) (fun hc => C6 rfl (A0 rfl)) ?_
 refine B4 rfl rfl (D4 rfl rfl rfl) (fun hc => E5 rfl Tryz.call90 rfl (AG1 _) (A9 (B0 rfl hc) D1)) ?_
 refine B4 rfl rfl (D4 rfl rfl rfl) (fun hc => M2 rfl (B0 rfl hc)) ?_
 refine A1 rfl rfl rfl (Q4 rfl (A0 rfl) (G4 rfl)) ?_
 refine A4 ?_
 refine C7 (A0 rfl) ?_ ?_
 ·intro h20
  have he : blocksR s k t = ([], false) := if_neg (by intro h; simp only [Bool.and_eq_true] at h; rw [h.1.1, h.1.2, h.2] at h20; cases h20)
  rw [he]
  refine A3 (A2 ?_)
  refine A1 rfl rfl rfl (C3 rfl (n3 (sz := 1))) ?_
  refine A1 rfl rfl rfl (C3 rfl F4) ?_
  refine A4 ?_
  refine C8 ?_
  exact X2 rfl (by decide) (E6 (C5 rfl (by rfl)) (E6 (C5 rfl (by rfl)) K8))
 ·intro h20
  simp only [Bool.or_eq_false_iff, Bool.not_eq_false'] at h20
  have he : blocksR s k t = (blocksOf s.Held k t, true) := if_pos (by rw [h20.1.1, h20.1.2, h20.2]; rfl)
  rw [he]
  have hg := h20.1.1
  refine D2 (A3 (A2 ?_))
  refine A1 rfl rfl rfl (F2 0 rfl (A0 rfl) rfl D6 C1 rfl) ?_
  refine A5 rfl rfl rfl rfl rfl ?_
  refine A5 rfl rfl rfl rfl rfl ?_
  refine A1 rfl rfl rfl (E5 rfl Tryz.call118 rfl (Ar8 _ _ _ (by assumption) (by first | assumption | omega)) (A9 (A0 rfl) (A9 (A0 rfl) (A9 (A0 rfl) D1)))) ?_
  refine B9 rfl rfl rfl rfl rfl ?_
  refine A1 rfl rfl rfl (C3 rfl F4) ?_
  refine A4 ?_
  refine C8 ?_
  exact X2 rfl (by decide) (E6 (C5 rfl (by rfl)) (E6 (C5 rfl (by rfl)) K8))
end Go.Proofs.YtnlhbdkcgaeimaaGreat

set_option linter.unusedVariables false
set_option linter.unusedSimpArgs false
set_option maxRecDepth 100000
set_option maxHeartbeats 1000000
namespace Go.Proofs.YtnlhbdkcgaeimaaGreat
open Go Go.AV Go.M
attribute [local irreducible] OpW OpA OpS AWP FSpec ESpec GSpec OpE RetOk RetOkG RvDen Le Ev GuardIs SrcIs Int.tmod Int.tdiv IntKind.wrap
theorem AC2 (l : List Str) (hl : l.length ≤ 4194304) : GSpec Tryz.prog 169 [strs l] [] (fun _ : Value => True) (fun v => [.arr v 9 1 (l.map fun s => [AV.str s])]) (fun v => AV.is v) := by
 refine H5 Tryz.func169 rfl Tryz.ntmps169 rfl ?_
 refine A3 (A2 ?_)
 refine A1 rfl rfl rfl (C3 rfl K5) ?_
 refine A4 (A3 (A2 ?_))
 refine S4 rfl rfl rfl rfl E4 F5 ?_
 intro v3
 refine A5 rfl rfl rfl rfl rfl ?_
 refine L5 (by' := 16) 0 rfl rfl rfl rfl E4 Tryz.type9 rfl rfl rfl rfl rfl rfl (A0 rfl) (A0 rfl) rfl (by simp only [B7, A6]; omega) ?_
 intro v5_1
 refine B9 rfl rfl rfl rfl rfl ?_
 refine A4 ?_
 refine C8 ?_
 exact K1 [0] v5_1 (trivial) rfl (by rfl) (N1 rfl (C5 rfl (by rfl)))
theorem AK4 (v : Value) (l : List Str) (s : Str) (hs : SrtS l) (hl : l.length ≤ 1000000) : GSpec Tryz.prog 122 [AV.is v, AV.str s] [.arr v 9 1 (l.map fun s => [AV.str s])] (fun _ : Value => True) (fun v' => [.arr v' 9 1 ((putS l s).map fun s => [AV.str s])]) (fun v' => AV.is v') := by
 refine H5 Tryz.func122 rfl Tryz.ntmps122 rfl ?_
 refine A3 (A2 ?_)
 refine A1 rfl rfl rfl (C3 rfl K5) ?_
 refine A4 (A3 (A2 ?_))
 refine A5 rfl rfl rfl rfl rfl ?_
 refine A1 rfl rfl rfl (U9 0 rfl E4 (A0 rfl) rfl) ?_
 refine B9 rfl rfl rfl rfl rfl ?_
 refine A4 (A3 (D7 ?_))
 refine J9 [(0, _), (1, _), (4, _)] _ (fun (k : Nat) => k ≤ l.length ∧ ∀ i y, k ≤ i → l[i]? = some y → Op.bytesLess s y = true) (fun (k : Nat) => []) (fun (k : Nat) => [(5, AV.int k)]) (fun (k : Nat) => k) (l.length) ?_ (J8 ⟨congrArg (fun z => some (AV.int z)) (by rw [A6]), rfl, rfl, rfl, trivial⟩) ?_
 ·exact ⟨Nat.le_refl _, fun i y h1 h2 => by (have := (List.getElem?_eq_some_iff.1 h2).1; omega)⟩
 intro k hinv
 obtain ⟨y, hy0⟩ : ∃ y, 0 < k → l[k - 1]? = some y := by (by_cases h9 : 0 < k; (have h8 := hinv.1; exact ⟨_, fun _ => List.getElem?_eq_getElem (show k - 1 < l.length by omega)⟩); exact ⟨[], fun h8 => absurd h8 h9⟩)
 refine A3 (A3 (A2 ?_))
 refine A5 rfl rfl rfl rfl rfl ?_
 refine A1 rfl rfl rfl (P8 rfl (A0 rfl) C4) ?_
 refine A5 rfl rfl rfl rfl rfl ?_
 refine B4 rfl rfl (C2 rfl rfl rfl) (fun hc => C6 rfl (A0 rfl)) ?_
 refine B4 rfl rfl (C2 rfl rfl rfl) (fun hc => C6 rfl (A0 rfl)) ?_
 refine B4 rfl rfl (C2 rfl rfl rfl) (fun hc => Q0 rfl (B0 rfl hc) C4 (by first | omega | ((try simp only [A6, A7, B2, B7, A8, szR] at *); omega) | (have hc2 := hc; simp only [Bool.and_eq_true, Bool.or_eq_true, Bool.or_eq_false_iff, Bool.and_eq_false_iff, Bool.not_eq_true', Bool.not_eq_false', decide_eq_true_eq, decide_eq_false_iff_not, beq_iff_eq, bne_iff_ne, A6, A7] at hc2; omega))) ?_
 refine B4 rfl rfl (C2 rfl rfl rfl) (fun hc => U4 0 rfl E4 F5 (B0 rfl hc) rfl (B0 rfl hc) (by have := of_decide_eq_true hc; omega) (by have := of_decide_eq_true hc; have := hinv.1; simp only [A6]; omega)) ?_
 refine B4 rfl rfl (C2 rfl rfl rfl) (fun hc => p5 0 rfl (B0 rfl hc) rfl H1 (AD6 (hy0 (by have := of_decide_eq_true hc; omega)) (by have := of_decide_eq_true hc; omega))) ?_
 refine B4 rfl rfl (C2 rfl rfl rfl) (fun hc => C6 rfl (A0 rfl)) ?_
 refine B4 rfl rfl (C2 rfl rfl rfl) (fun hc => Aj5 rfl (B0 rfl hc) (B0 rfl hc)) ?_
 refine A1 rfl rfl rfl (I6 rfl (A0 rfl) (G4 rfl)) ?_
 refine A4 ?_
 refine C7 (A0 rfl) ?_ ?_
 ·intro h19
  have hkt : 0 < k ∧ Op.bytesLess s y = true := by (rw [At6] at h19; simpa using h19)
  refine D2 (D7 (A2 ?_))
  refine A5 rfl rfl rfl rfl rfl ?_
  refine A1 rfl rfl rfl (Q0 rfl (A0 rfl) C4 (by first | omega | (simp only [A6, A7, B2, B7, A8, szR] at *; omega))) ?_
  refine B9 rfl rfl rfl rfl rfl ?_
  refine A4 ?_
  refine l5 ?_
  refine L4 k (k - 1) ?_ ?_ (J8 ⟨congrArg (fun z => some (AV.int z)) (by omega), rfl, rfl, rfl, trivial⟩)
  ·exact ⟨by omega, fun i z hi hz => if e : k ≤ i then hinv.2 i z e hz else (by have e2 : i = k - 1 := (by omega); subst e2; rw [hy0 hkt.1] at hz; injection hz with hz; subst hz; exact hkt.2)⟩
  ·omega
 ·intro h19
  have hng : 0 < k → Op.bytesLess s y = false := fun h => by (rw [At6] at h19; simpa [h] using h19)
  refine H3 ?_
  refine A3 (A3 (A2 ?_))
  refine A5 rfl rfl rfl rfl rfl ?_
  refine A1 rfl rfl rfl (P8 rfl (A0 rfl) C4) ?_
  refine A5 rfl rfl rfl rfl rfl ?_
  refine B4 rfl rfl (C2 rfl rfl rfl) (fun hc => C6 rfl (A0 rfl)) ?_
  refine B4 rfl rfl (C2 rfl rfl rfl) (fun hc => C6 rfl (A0 rfl)) ?_
  refine B4 rfl rfl (C2 rfl rfl rfl) (fun hc => Q0 rfl (B0 rfl hc) C4 (by first | omega | ((try simp only [A6, A7, B2, B7, A8, szR] at *); omega) | (have hc2 := hc; simp only [Bool.and_eq_true, Bool.or_eq_true, Bool.or_eq_false_iff, Bool.and_eq_false_iff, Bool.not_eq_true', Bool.not_eq_false', decide_eq_true_eq, decide_eq_false_iff_not, beq_iff_eq, bne_iff_ne, A6, A7] at hc2; omega))) ?_
  refine B4 rfl rfl (C2 rfl rfl rfl) (fun hc => U4 0 rfl E4 F5 (B0 rfl hc) rfl (B0 rfl hc) (by have := of_decide_eq_true hc; omega) (by have := of_decide_eq_true hc; have := hinv.1; simp only [A6]; omega)) ?_
  refine B4 rfl rfl (C2 rfl rfl rfl) (fun hc => p5 0 rfl (B0 rfl hc) rfl H1 (AD6 (hy0 (by have := of_decide_eq_true hc; omega)) (by have := of_decide_eq_true hc; omega))) ?_
  refine B4 rfl rfl (C2 rfl rfl rfl) (fun hc => C6 rfl (A0 rfl)) ?_
  refine B4 rfl rfl (C2 rfl rfl rfl) (fun hc => y5 rfl (B0 rfl hc) (B0 rfl hc)) ?_
  refine A1 rfl rfl rfl (I6 rfl (A0 rfl) (G4 rfl)) ?_
  refine A4 ?_
  refine C7 (A0 rfl) ?_ ?_
  ·intro h32
   have hke : 0 < k ∧ y = s := by simpa using h32
   rw [AX9 hs (by rw [← hke.2]; exact hy0 hke.1)]
   refine A3 (A2 ?_)
   refine A5 rfl rfl rfl rfl rfl ?_
   refine B9 rfl rfl rfl rfl rfl ?_
   refine A4 ?_
   refine C8 ?_
   exact K1 [0] v (trivial) rfl (by first | rfl | exact congrArg (fun z => [Own.arr _ 9 1 z]) (by show List.map (fun s => [AV.str s]) (l.take k ++ s :: l.drop k) = (List.map (fun s => [AV.str s]) (l.take k) ++ [[AV.str s]]) ++ List.map (fun s => [AV.str s]) (l.drop k); simp)) (N1 rfl (C5 rfl (by rfl)))
  ·intro h32
   have hne : 0 < k → y ≠ s := fun h e => by simp [h, e] at h32
   rw [Ae6 hs hinv.1 hinv.2 (fun z hz hzz => by rw [hy0 hz] at hzz; injection hzz with hzz; subst hzz; exact ⟨hng hz, hne hz⟩)]
   refine D2 (A3 (A2 ?_))
   refine A5 rfl rfl rfl rfl rfl ?_
   refine A5 rfl rfl rfl rfl rfl ?_
   refine A1 rfl rfl rfl (AQ9 0 rfl E4 F5 (A0 rfl) rfl (A0 rfl) (by omega) (by simp only [A6]; omega)) ?_
   refine Ad8 [] rfl rfl rfl rfl Tryz.call169 rfl (AC2 (l.drop k) (by rw [List.length_drop]; omega)) rfl (N3 (g9 (A0 rfl) (lt_tailm (G6 (i := 0) rfl) (by omega) (by omega))) U3) (by first | exact R4 | (intro _; exact R4) | (intro _; first | exact J7 _ | exact G1 _ _ | exact G3 _ | exact H0 _ | exact H8) | (intro _; refine Z0 ?_; (repeat (first | exact G2 | (refine D9 (by first | (first | exact J7 _ | exact G1 _ _ | exact G3 _ | exact H0 _ | exact H8) | (refine Z1 ?_; (repeat (first | exact G2 | (refine D9 (by first | exact J7 _ | exact G1 _ _ | exact G3 _ | exact H0 _ | exact H8) ?_))))) ?_))); done) | (intro _; refine Z1 ?_; (repeat (first | exact G2 | (refine D9 (by first | exact J7 _ | exact G1 _ _ | exact G3 _ | exact H0 _ | exact H8) ?_))); done) | ((repeat (first | exact R4 | (refine Q2 (Y0 ?_) ?_; (repeat (first | exact G2 | (refine D9 (by first | exact J7 _ | exact G1 _ _ | exact G3 _ | exact H0 _ | exact H8) ?_)))) | (refine Q2 (Y1 ?_) ?_; (repeat (first | exact Y2 | (refine Y4 (fun _ => ?_); (first | exact TWrite.flat _ | exact TFeedItem.flat _ | exact TIdx.flat _ | exact TVer.flat _ | (repeat (first | exact G2 | (refine D9 (by first | exact J7 _ | exact G1 _ _ | exact G3 _ | exact H0 _ | exact H8) ?_))))) | (refine Y5 ?_; (first | exact TWrite.flat _ | exact TFeedItem.flat _ | exact TIdx.flat _ | exact TVer.flat _ | (repeat (first | exact G2 | (refine D9 (by first | exact J7 _ | exact G1 _ _ | exact G3 _ | exact H0 _ | exact H8) ?_))))) | (refine W1 ?_ ?_; (first | exact TWrite.flat _ | exact TFeedItem.flat _ | exact TIdx.flat _ | exact TVer.flat _ | (repeat (first | exact G2 | (refine D9 (by first | exact J7 _ | exact G1 _ _ | exact G3 _ | exact H0 _ | exact H8) ?_))))) | refine Y3 ?_ ?_))))); done) | (intro _; (repeat (first | exact R4 | (refine Q2 (Y0 ?_) ?_; (repeat (first | exact G2 | (refine D9 (by first | exact J7 _ | exact G1 _ _ | exact G3 _ | exact H0 _ | exact H8) ?_)))) | (refine Q2 (Y1 ?_) ?_; (repeat (first | exact Y2 | (refine Y4 (fun _ => ?_); (first | exact TWrite.flat _ | exact TFeedItem.flat _ | exact TIdx.flat _ | exact TVer.flat _ | (repeat (first | exact G2 | (refine D9 (by first | exact J7 _ | exact G1 _ _ | exact G3 _ | exact H0 _ | exact H8) ?_))))) | (refine Y5 ?_; (first | exact TWrite.flat _ | exact TFeedItem.flat _ | exact TIdx.flat _ | exact TVer.flat _ | (repeat (first | exact G2 | (refine D9 (by first | exact J7 _ | exact G1 _ _ | exact G3 _ | exact H0 _ | exact H8) ?_))))) | (refine W1 ?_ ?_; (first | exact TWrite.flat _ | exact TFeedItem.flat _ | exact TIdx.flat _ | exact TVer.flat _ | (repeat (first | exact G2 | (refine D9 (by first | exact J7 _ | exact G1 _ _ | exact G3 _ | exact H0 _ | exact H8) ?_))))) | refine Y3 ?_ ?_))))); done)) (by first | exact R4 | (intro _; exact R4) | (intro _; first | exact J7 _ | exact G1 _ _ | exact G3 _ | exact H0 _ | exact H8) | (intro _; refine Z0 ?_; (repeat (first | exact G2 | (refine D9 (by first | (first | exact J7 _ | exact G1 _ _ | exact G3 _ | exact H0 _ | exact H8) | (refine Z1 ?_; (repeat (first | exact G2 | (refine D9 (by first | exact J7 _ | exact G1 _ _ | exact G3 _ | exact H0 _ | exact H8) ?_))))) ?_))); done) | (intro _; refine Z1 ?_; (repeat (first | exact G2 | (refine D9 (by first | exact J7 _ | exact G1 _ _ | exact G3 _ | exact H0 _ | exact H8) ?_))); done) | ((repeat (first | exact R4 | (refine Q2 (Y0 ?_) ?_; (repeat (first | exact G2 | (refine D9 (by first | exact J7 _ | exact G1 _ _ | exact G3 _ | exact H0 _ | exact H8) ?_)))) | (refine Q2 (Y1 ?_) ?_; (repeat (first | exact Y2 | (refine Y4 (fun _ => ?_); (first | exact TWrite.flat _ | exact TFeedItem.flat _ | exact TIdx.flat _ | exact TVer.flat _ | (repeat (first | exact G2 | (refine D9 (by first | exact J7 _ | exact G1 _ _ | exact G3 _ | exact H0 _ | exact H8) ?_))))) | (refine Y5 ?_; (first | exact TWrite.flat _ | exact TFeedItem.flat _ | exact TIdx.flat _ | exact TVer.flat _ | (repeat (first | exact G2 | (refine D9 (by first | exact J7 _ | exact G1 _ _ | exact G3 _ | exact H0 _ | exact H8) ?_))))) | (refine W1 ?_ ?_; (first | exact TWrite.flat _ | exact TFeedItem.flat _ | exact TIdx.flat _ | exact TVer.flat _ | (repeat (first | exact G2 | (refine D9 (by first | exact J7 _ | exact G1 _ _ | exact G3 _ | exact H0 _ | exact H8) ?_))))) | refine Y3 ?_ ?_))))); done) | (intro _; (repeat (first | exact R4 | (refine Q2 (Y0 ?_) ?_; (repeat (first | exact G2 | (refine D9 (by first | exact J7 _ | exact G1 _ _ | exact G3 _ | exact H0 _ | exact H8) ?_)))) | (refine Q2 (Y1 ?_) ?_; (repeat (first | exact Y2 | (refine Y4 (fun _ => ?_); (first | exact TWrite.flat _ | exact TFeedItem.flat _ | exact TIdx.flat _ | exact TVer.flat _ | (repeat (first | exact G2 | (refine D9 (by first | exact J7 _ | exact G1 _ _ | exact G3 _ | exact H0 _ | exact H8) ?_))))) | (refine Y5 ?_; (first | exact TWrite.flat _ | exact TFeedItem.flat _ | exact TIdx.flat _ | exact TVer.flat _ | (repeat (first | exact G2 | (refine D9 (by first | exact J7 _ | exact G1 _ _ | exact G3 _ | exact H0 _ | exact H8) ?_))))) | (refine W1 ?_ ?_; (first | exact TWrite.flat _ | exact TFeedItem.flat _ | exact TIdx.flat _ | exact TVer.flat _ | (repeat (first | exact G2 | (refine D9 (by first | exact J7 _ | exact G1 _ _ | exact G3 _ | exact H0 _ | exact H8) ?_))))) | refine Y3 ?_ ?_))))); done)) (by first | exact R4 | (intro _; exact R4) | (intro _; first | exact J7 _ | exact G1 _ _ | exact G3 _ | exact H0 _ | exact H8) | (intro _; refine Z0 ?_; (repeat (first | exact G2 | (refine D9 (by first | (first | exact J7 _ | exact G1 _ _ | exact G3 _ | exact H0 _ | exact H8) | (refine Z1 ?_; (repeat (first | exact G2 | (refine D9 (by first | exact J7 _ | exact G1 _ _ | exact G3 _ | exact H0 _ | exact H8) ?_))))) ?_))); done) | (intro _; refine Z1 ?_; (repeat (first | exact G2 | (refine D9 (by first | exact J7 _ | exact G1 _ _ | exact G3 _ | exact H0 _ | exact H8) ?_))); done) | ((repeat (first | exact R4 | (refine Q2 (Y0 ?_) ?_; (repeat (first | exact G2 | (refine D9 (by first | exact J7 _ | exact G1 _ _ | exact G3 _ | exact H0 _ | exact H8) ?_)))) | (refine Q2 (Y1 ?_) ?_; (repeat (first | exact Y2 | (refine Y4 (fun _ => ?_); (first | exact TWrite.flat _ | exact TFeedItem.flat _ | exact TIdx.flat _ | exact TVer.flat _ | (repeat (first | exact G2 | (refine D9 (by first | exact J7 _ | exact G1 _ _ | exact G3 _ | exact H0 _ | exact H8) ?_))))) | (refine Y5 ?_; (first | exact TWrite.flat _ | exact TFeedItem.flat _ | exact TIdx.flat _ | exact TVer.flat _ | (repeat (first | exact G2 | (refine D9 (by first | exact J7 _ | exact G1 _ _ | exact G3 _ | exact H0 _ | exact H8) ?_))))) | (refine W1 ?_ ?_; (first | exact TWrite.flat _ | exact TFeedItem.flat _ | exact TIdx.flat _ | exact TVer.flat _ | (repeat (first | exact G2 | (refine D9 (by first | exact J7 _ | exact G1 _ _ | exact G3 _ | exact H0 _ | exact H8) ?_))))) | refine Y3 ?_ ?_))))); done) | (intro _; (repeat (first | exact R4 | (refine Q2 (Y0 ?_) ?_; (repeat (first | exact G2 | (refine D9 (by first | exact J7 _ | exact G1 _ _ | exact G3 _ | exact H0 _ | exact H8) ?_)))) | (refine Q2 (Y1 ?_) ?_; (repeat (first | exact Y2 | (refine Y4 (fun _ => ?_); (first | exact TWrite.flat _ | exact TFeedItem.flat _ | exact TIdx.flat _ | exact TVer.flat _ | (repeat (first | exact G2 | (refine D9 (by first | exact J7 _ | exact G1 _ _ | exact G3 _ | exact H0 _ | exact H8) ?_))))) | (refine Y5 ?_; (first | exact TWrite.flat _ | exact TFeedItem.flat _ | exact TIdx.flat _ | exact TVer.flat _ | (repeat (first | exact G2 | (refine D9 (by first | exact J7 _ | exact G1 _ _ | exact G3 _ | exact H0 _ | exact H8) ?_))))) | (refine W1 ?_ ?_; (first | exact TWrite.flat _ | exact TFeedItem.flat _ | exact TIdx.flat _ | exact TVer.flat _ | (repeat (first | exact G2 | (refine D9 (by first | exact J7 _ | exact G1 _ _ | exact G3 _ | exact H0 _ | exact H8) ?_))))) | refine Y3 ?_ ?_))))); done)) ?_
   intro x37 ok37
   refine B9 rfl rfl rfl rfl rfl ?_
   refine A4 (A3 ?_)
   refine AWP.le (c7 [0] 6 rfl rfl (M6 (G6 (i := 0) rfl) J0) (T7 0 rfl rfl O5)) ?_
   refine A2 ?_
   refine A5 rfl rfl rfl rfl rfl ?_
   refine A5 rfl rfl rfl rfl rfl ?_
   refine sq_ahi 0 rfl rfl rfl rfl E4 F5 (A0 rfl) rfl (A0 rfl) (by omega) (by simp only [A6]; omega) ?_
   intro v40_1
   rw [Int.toNat_natCast, ← List.map_take]
   refine Ad8 [] rfl rfl rfl rfl Tryz.call169 rfl (AC2 (l.take k) (by rw [A7]; omega)) rfl (N3 (Ab0 0 (A0 rfl) rfl) U3) (by first | exact R4 | (intro _; exact R4) | (intro _; first | exact J7 _ | exact G1 _ _ | exact G3 _ | exact H0 _ | exact H8) | (intro _; refine Z0 ?_; (repeat (first | exact G2 | (refine D9 (by first | (first | exact J7 _ | exact G1 _ _ | exact G3 _ | exact H0 _ | exact H8) | (refine Z1 ?_; (repeat (first | exact G2 | (refine D9 (by first | exact J7 _ | exact G1 _ _ | exact G3 _ | exact H0 _ | exact H8) ?_))))) ?_))); done) | (intro _; refine Z1 ?_; (repeat (first | exact G2 | (refine D9 (by first | exact J7 _ | exact G1 _ _ | exact G3 _ | exact H0 _ | exact H8) ?_))); done) | ((repeat (first | exact R4 | (refine Q2 (Y0 ?_) ?_; (repeat (first | exact G2 | (refine D9 (by first | exact J7 _ | exact G1 _ _ | exact G3 _ | exact H0 _ | exact H8) ?_)))) | (refine Q2 (Y1 ?_) ?_; (repeat (first | exact Y2 | (refine Y4 (fun _ => ?_); (first | exact TWrite.flat _ | exact TFeedItem.flat _ | exact TIdx.flat _ | exact TVer.flat _ | (repeat (first | exact G2 | (refine D9 (by first | exact J7 _ | exact G1 _ _ | exact G3 _ | exact H0 _ | exact H8) ?_))))) | (refine Y5 ?_; (first | exact TWrite.flat _ | exact TFeedItem.flat _ | exact TIdx.flat _ | exact TVer.flat _ | (repeat (first | exact G2 | (refine D9 (by first | exact J7 _ | exact G1 _ _ | exact G3 _ | exact H0 _ | exact H8) ?_))))) | (refine W1 ?_ ?_; (first | exact TWrite.flat _ | exact TFeedItem.flat _ | exact TIdx.flat _ | exact TVer.flat _ | (repeat (first | exact G2 | (refine D9 (by first | exact J7 _ | exact G1 _ _ | exact G3 _ | exact H0 _ | exact H8) ?_))))) | refine Y3 ?_ ?_))))); done) | (intro _; (repeat (first | exact R4 | (refine Q2 (Y0 ?_) ?_; (repeat (first | exact G2 | (refine D9 (by first | exact J7 _ | exact G1 _ _ | exact G3 _ | exact H0 _ | exact H8) ?_)))) | (refine Q2 (Y1 ?_) ?_; (repeat (first | exact Y2 | (refine Y4 (fun _ => ?_); (first | exact TWrite.flat _ | exact TFeedItem.flat _ | exact TIdx.flat _ | exact TVer.flat _ | (repeat (first | exact G2 | (refine D9 (by first | exact J7 _ | exact G1 _ _ | exact G3 _ | exact H0 _ | exact H8) ?_))))) | (refine Y5 ?_; (first | exact TWrite.flat _ | exact TFeedItem.flat _ | exact TIdx.flat _ | exact TVer.flat _ | (repeat (first | exact G2 | (refine D9 (by first | exact J7 _ | exact G1 _ _ | exact G3 _ | exact H0 _ | exact H8) ?_))))) | (refine W1 ?_ ?_; (first | exact TWrite.flat _ | exact TFeedItem.flat _ | exact TIdx.flat _ | exact TVer.flat _ | (repeat (first | exact G2 | (refine D9 (by first | exact J7 _ | exact G1 _ _ | exact G3 _ | exact H0 _ | exact H8) ?_))))) | refine Y3 ?_ ?_))))); done)) (by first | exact R4 | (intro _; exact R4) | (intro _; first | exact J7 _ | exact G1 _ _ | exact G3 _ | exact H0 _ | exact H8) | (intro _; refine Z0 ?_; (repeat (first | exact G2 | (refine D9 (by first | (first | exact J7 _ | exact G1 _ _ | exact G3 _ | exact H0 _ | exact H8) | (refine Z1 ?_; (repeat (first | exact G2 | (refine D9 (by first | exact J7 _ | exact G1 _ _ | exact G3 _ | exact H0 _ | exact H8) ?_))))) ?_))); done) | (intro _; refine Z1 ?_; (repeat (first | exact G2 | (refine D9 (by first | exact J7 _ | exact G1 _ _ | exact G3 _ | exact H0 _ | exact H8) ?_))); done) | ((repeat (first | exact R4 | (refine Q2 (Y0 ?_) ?_; (repeat (first | exact G2 | (refine D9 (by first | exact J7 _ | exact G1 _ _ | exact G3 _ | exact H0 _ | exact H8) ?_)))) | (refine Q2 (Y1 ?_) ?_; (repeat (first | exact Y2 | (refine Y4 (fun _ => ?_); (first | exact TWrite.flat _ | exact TFeedItem.flat _ | exact TIdx.flat _ | exact TVer.flat _ | (repeat (first | exact G2 | (refine D9 (by first | exact J7 _ | exact G1 _ _ | exact G3 _ | exact H0 _ | exact H8) ?_))))) | (refine Y5 ?_; (first | exact TWrite.flat _ | exact TFeedItem.flat _ | exact TIdx.flat _ | exact TVer.flat _ | (repeat (first | exact G2 | (refine D9 (by first | exact J7 _ | exact G1 _ _ | exact G3 _ | exact H0 _ | exact H8) ?_))))) | (refine W1 ?_ ?_; (first | exact TWrite.flat _ | exact TFeedItem.flat _ | exact TIdx.flat _ | exact TVer.flat _ | (repeat (first | exact G2 | (refine D9 (by first | exact J7 _ | exact G1 _ _ | exact G3 _ | exact H0 _ | exact H8) ?_))))) | refine Y3 ?_ ?_))))); done) | (intro _; (repeat (first | exact R4 | (refine Q2 (Y0 ?_) ?_; (repeat (first | exact G2 | (refine D9 (by first | exact J7 _ | exact G1 _ _ | exact G3 _ | exact H0 _ | exact H8) ?_)))) | (refine Q2 (Y1 ?_) ?_; (repeat (first | exact Y2 | (refine Y4 (fun _ => ?_); (first | exact TWrite.flat _ | exact TFeedItem.flat _ | exact TIdx.flat _ | exact TVer.flat _ | (repeat (first | exact G2 | (refine D9 (by first | exact J7 _ | exact G1 _ _ | exact G3 _ | exact H0 _ | exact H8) ?_))))) | (refine Y5 ?_; (first | exact TWrite.flat _ | exact TFeedItem.flat _ | exact TIdx.flat _ | exact TVer.flat _ | (repeat (first | exact G2 | (refine D9 (by first | exact J7 _ | exact G1 _ _ | exact G3 _ | exact H0 _ | exact H8) ?_))))) | (refine W1 ?_ ?_; (first | exact TWrite.flat _ | exact TFeedItem.flat _ | exact TIdx.flat _ | exact TVer.flat _ | (repeat (first | exact G2 | (refine D9 (by first | exact J7 _ | exact G1 _ _ | exact G3 _ | exact H0 _ | exact H8) ?_))))) | refine Y3 ?_ ?_))))); done)) (by first | exact R4 | (intro _; exact R4) | (intro _; first | exact J7 _ | exact G1 _ _ | exact G3 _ | exact H0 _ | exact H8) | (intro _; refine Z0 ?_; (repeat (first | exact G2 | (refine D9 (by first | (first | exact J7 _ | exact G1 _ _ | exact G3 _ | exact H0 _ | exact H8) | (refine Z1 ?_; (repeat (first | exact G2 | (refine D9 (by first | exact J7 _ | exact G1 _ _ | exact G3 _ | exact H0 _ | exact H8) ?_))))) ?_))); done) | (intro _; refine Z1 ?_; (repeat (first | exact G2 | (refine D9 (by first | exact J7 _ | exact G1 _ _ | exact G3 _ | exact H0 _ | exact H8) ?_))); done) | ((repeat (first | exact R4 | (refine Q2 (Y0 ?_) ?_; (repeat (first | exact G2 | (refine D9 (by first | exact J7 _ | exact G1 _ _ | exact G3 _ | exact H0 _ | exact H8) ?_)))) | (refine Q2 (Y1 ?_) ?_; (repeat (first | exact Y2 | (refine Y4 (fun _ => ?_); (first | exact TWrite.flat _ | exact TFeedItem.flat _ | exact TIdx.flat _ | exact TVer.flat _ | (repeat (first | exact G2 | (refine D9 (by first | exact J7 _ | exact G1 _ _ | exact G3 _ | exact H0 _ | exact H8) ?_))))) | (refine Y5 ?_; (first | exact TWrite.flat _ | exact TFeedItem.flat _ | exact TIdx.flat _ | exact TVer.flat _ | (repeat (first | exact G2 | (refine D9 (by first | exact J7 _ | exact G1 _ _ | exact G3 _ | exact H0 _ | exact H8) ?_))))) | (refine W1 ?_ ?_; (first | exact TWrite.flat _ | exact TFeedItem.flat _ | exact TIdx.flat _ | exact TVer.flat _ | (repeat (first | exact G2 | (refine D9 (by first | exact J7 _ | exact G1 _ _ | exact G3 _ | exact H0 _ | exact H8) ?_))))) | refine Y3 ?_ ?_))))); done) | (intro _; (repeat (first | exact R4 | (refine Q2 (Y0 ?_) ?_; (repeat (first | exact G2 | (refine D9 (by first | exact J7 _ | exact G1 _ _ | exact G3 _ | exact H0 _ | exact H8) ?_)))) | (refine Q2 (Y1 ?_) ?_; (repeat (first | exact Y2 | (refine Y4 (fun _ => ?_); (first | exact TWrite.flat _ | exact TFeedItem.flat _ | exact TIdx.flat _ | exact TVer.flat _ | (repeat (first | exact G2 | (refine D9 (by first | exact J7 _ | exact G1 _ _ | exact G3 _ | exact H0 _ | exact H8) ?_))))) | (refine Y5 ?_; (first | exact TWrite.flat _ | exact TFeedItem.flat _ | exact TIdx.flat _ | exact TVer.flat _ | (repeat (first | exact G2 | (refine D9 (by first | exact J7 _ | exact G1 _ _ | exact G3 _ | exact H0 _ | exact H8) ?_))))) | (refine W1 ?_ ?_; (first | exact TWrite.flat _ | exact TFeedItem.flat _ | exact TIdx.flat _ | exact TVer.flat _ | (repeat (first | exact G2 | (refine D9 (by first | exact J7 _ | exact G1 _ _ | exact G3 _ | exact H0 _ | exact H8) ?_))))) | refine Y3 ?_ ?_))))); done)) ?_
   intro x41 ok41
   refine A5 rfl rfl rfl rfl rfl ?_
   refine A1 rfl rfl rfl (L9 rfl E4 F5 Tryz.zeroValue9 rfl rfl rfl rfl (E0 (A0 rfl) (P6 _) H6) rfl rfl) ?_
   refine L5 (by' := 16) 0 rfl rfl rfl rfl E4 Tryz.type9 rfl rfl rfl rfl rfl rfl (A0 rfl) (A0 rfl) rfl (by simp only [A6, A7, A8]; omega) ?_
   intro v44_2
   refine A5 rfl rfl rfl rfl rfl ?_
   refine L5 (by' := 16) 0 rfl rfl rfl rfl E4 Tryz.type9 rfl rfl rfl rfl rfl rfl (A0 rfl) (A0 rfl) rfl (by simp only [A6, A7, List.length_drop, J1, A8]; omega) ?_
   intro v46_3
   refine B9 rfl rfl rfl rfl rfl ?_
   refine A4 ?_
   refine C8 ?_
   exact K1 [0] v46_3 (trivial) rfl (by first | rfl | exact congrArg (fun z => [Own.arr _ 9 1 z]) (by show List.map (fun s => [AV.str s]) (l.take k ++ s :: l.drop k) = (List.map (fun s => [AV.str s]) (l.take k) ++ [[AV.str s]]) ++ List.map (fun s => [AV.str s]) (l.drop k); simp)) (N1 rfl (C5 rfl (by rfl)))
end Go.Proofs.YtnlhbdkcgaeimaaGreat
