/- Texts of the claim, part 4. -/
import Derived.Test.YtcfkbhnpfjjmjaaGreatZSwaps3
set_option linter.unusedVariables false
set_option linter.unusedSimpArgs false
set_option maxRecDepth 100000
set_option maxHeartbeats 4000000
namespace Go.Proofs.YtcfkbhnpfjjmjaaGreat
open Go Go.AV Go.M
attribute [local irreducible] OpW OpA OpS AWP B9 J5 C8 OpE RetOk H1 I9 Le Ev F6 J9
theorem At4 {α : Type} {f : α → Nat} {l : List α} (i : Nat) : sizeL f (l.take i) ≤ sizeL f l := by
  have := AN6 (f := f) (l := l.take i) (r := l.drop i)
  rw [List.take_append_drop] at this; omega
theorem AG7 {α : Type} {f : α → Nat} {l : List α} {i : Nat} {x : α} (h : l[i]? = some x) : sizeL f (l.take (i + 1)) = sizeL f (l.take i) + (1 + f x) := by
  rw [List.take_add_one, h, AN6]
  show _ + sizeL f [x] = _
  rw [Q7]; rfl
def BM8 (A : List (List AV)) (k : Str) (vs : List (List AV)) (B : List (List AV)) (D : List Own) (o2 : List C4) (f : Value → List Value) : Prop :=
  ∀ y : Value, (f y).length = o2.length ∧ A ++ [AV.str k, AV.is y] :: B = nrows C4.ocs o2 (f y) ∧ (Own.arr y 255 3 vs :: D).Perm (nin C4.ow o2 (f y))
theorem CA1 {o : List C4} {xs : List Value} {p : Nat} {c : C4} {y0 : Value} (hc : o[p]? = some c) (hy : xs[p]? = some y0) (hl : xs.length = o.length) (nv : U1) :
    BM8 (nrows C4.ocs (o.take p) (xs.take p)) c.Key (c.Vers.map U1.cs ++ [U1.cs nv]) (nrows C4.ocs (o.drop (p + 1)) (xs.drop (p + 1))) (nin C4.ow (o.eraseIdx p) (xs.eraseIdx p)) (o.set p ⟨c.Key, c.Vers ++ [nv]⟩) (fun y => xs.set p y) := fun y => by
  have hp := (List.getElem?_eq_some_iff.1 hc).1
  have hx := (List.getElem?_eq_some_iff.1 hy).1
  have hc' : (o.set p ⟨c.Key, c.Vers ++ [nv]⟩)[p]? = some ⟨c.Key, c.Vers ++ [nv]⟩ := List.getElem?_set_self hp
  have hy' : (xs.set p y)[p]? = some y := List.getElem?_set_self hx
  refine ⟨by rw [List.length_set, List.length_set, hl], ?_, ?_⟩
  · rw [u3 hc' hy', List.take_set_of_le (Nat.le_refl _), List.take_set_of_le (Nat.le_refl _), List.drop_set_of_lt qz8, List.drop_set_of_lt qz8]
    rfl
  · have h := z6 (ow := C4.ow) hc' hy'
    rw [List.eraseIdx_set_eq, List.eraseIdx_set_eq] at h
    refine List.Perm.trans ?_ h.symm
    unfold C4.ow
    simp only [List.map_append, List.map_cons, List.map_nil]
    exact List.Perm.refl _
theorem CA2 {o : List C4} {xs : List Value} {p : Nat} (hp : p ≤ o.length) (hl : xs.length = o.length) (k : Str) (nv : U1) :
    BM8 ((nrows C4.ocs o xs).take p) k [U1.cs nv] ((nrows C4.ocs o xs).drop p) (nin C4.ow o xs) (o.take p ++ ⟨k, [nv]⟩ :: o.drop p) (fun y => xs.take p ++ y :: xs.drop p) := fun y =>
  ⟨by rw [Bi2 qz8, Bi2 hp, hl], CI0 (ocs := C4.ocs) (p := ⟨k, [nv]⟩) hp hl, nin_ins (ow := C4.ow) (p := ⟨k, [nv]⟩) hp hl⟩
theorem An1 {l o : List C4} {w : List A9} {t : Int} {i : Nat} {x : A9} (h : putAll l w t = putAll o (w.drop i) t) (hx : w[i]? = some x) (ht : ¬ t ≤ lastTime o x.Key) : putAll l w t = putAll (putC1 o x t) (w.drop (i + 1)) t := by
  rw [h, drop_some hx]
  unfold putAll
  rw [if_neg (by simpa using ht)]
  cases w.drop (i + 1) <;> rfl
theorem put_stop {l o : List C4} {w : List A9} {t : Int} {i : Nat} {x : A9} (h : putAll l w t = putAll o (w.drop i) t) (hx : w[i]? = some x) (ht : t ≤ lastTime o x.Key) : putAll l w t = none := by
  rw [h, drop_some hx]
  unfold putAll
  rw [if_pos (by simpa using ht)]
theorem put_end {l o : List C4} {w : List A9} {t : Int} {i : Nat} (h : putAll l w t = putAll o (w.drop i) t) (hi : w.length ≤ i) : putAll l w t = some o := by
  rw [h, List.drop_eq_nil_of_le hi]; rfl
theorem CI1 (l : List C4) (w : List A9) (t : Int) (ho : z9 l) (hs : sizeL C4.size l ≤ 1048576) (hw : sizeL A9.size w ≤ 1048576) (ht1 : 1 ≤ t) : C8 Tryz.prog 222 [AV.list 2 (l.map C4.cs), AV.list 3 (w.map A9.cs), AV.int t] [] (fun x : Value × List Value => x.2.length = (putP l w t).1.length) (fun x => .arr x.1 260 2 (nrows C4.ocs (putP l w t).1 x.2) :: nin C4.ow (putP l w t).1 x.2) (fun x => AV.tup [AV.is x.1, AV.bool (putP l w t).2]) := by
 have hwl : w.length ≤ 1048576 := Nat.le_trans L7 hw
 refine C3 Tryz.func222 rfl Tryz.ntmps222 rfl ?_
 refine R2 ?_
 refine A4 rfl (D4 rfl F4) ?_
 refine R5 ?_
 refine I2 [] 0 1 ([]) ([]) (fun zz => nin C4.ow l zz.2) rfl rfl rfl rfl Tryz.call233 rfl rfl (show List.Perm ([]) (([]) ++ ([])) from List.Perm.refl _) (BW1 l qz8) (A1 (A0 rfl) A7) (fun a => K0) ?_
 intro x15 ok15
 refine R10 ?_
 refine o6 [(2, _), (16, _), (17, _)] [] (fun (i : Nat) (v : Value) (q : List C4) (xs : List Value) => i ≤ w.length ∧ xs.length = q.length ∧ z9 q ∧ sizeL C4.size q ≤ 1048576 + 2 * sizeL A9.size (w.take i) ∧ putAll l w t = putAll q (w.drop i) t) (fun (i : Nat) (v : Value) (q : List C4) (xs : List Value) => [.arr v 260 2 (nrows C4.ocs q xs)] ++ (nin C4.ow q xs)) (fun (i : Nat) (v : Value) (q : List C4) (xs : List Value) => [(8, AV.is v), (18, AV.int i)]) (fun (i : Nat) (v : Value) (q : List C4) (xs : List Value) => w.length - i) (0) (x15.1) (l) (x15.2) ?_ (I8 (by rw [List.append_nil]; rfl) ⟨rfl, rfl, rfl, rfl, rfl, trivial⟩) ?_
 ·exact ⟨Nat.zero_le _, ok15, ho, by omega, rfl⟩
 intro i v q xs hinv
 have hlen := hinv.2.1
 have hinvo := hinv
 have hrl : (nrows C4.ocs q xs).length = q.length := S8 hlen
 refine I5 (List.append_nil _) ?_
 refine R5 ?_
 refine A8 (A0 rfl) ?_ ?_
 ·intro h19
  have k19 := of_decide_eq_true h19; try simp only [A5] at k19
  have hlt : i < w.length := by omega
  obtain ⟨x, hx⟩ := get_some hlt
  have htk := At4 (f := A9.size) (l := w) i
  have hso : sizeL C4.size q ≤ 4194304 := by omega
  have hql : q.length ≤ 4194304 := Nat.le_trans L7 hso
  refine R5 ?_
  refine A4 rfl (C7 rfl C0 E9 (A0 rfl) (A0 rfl) hx qz4) ?_
  refine R2 ?_
  intro b10
  refine R11 ?_
  intro b11
  refine R10 ?_
  refine E5 [(2, _), (8, _), (10, _), (11, _), (16, _), (17, _), (18, _), (19, _), (20, _), (21, _), (22, _), (23, _), (24, _), (25, _), (26, _), (27, _), (28, _), (29, _)] _ (fun (j : Nat) => j ≤ q.length ∧ ∀ (a : Nat) (c : C4), j ≤ a → q[a]? = some c → Op.bytesLess x.Key c.Key = true) (fun (j : Nat) => []) (fun (j : Nat) => [(12, AV.int j)]) (fun (j : Nat) => j) (q.length) ?_ (F2 ⟨congrArg (fun z : Nat => some (AV.int z)) hrl, rfl, rfl, rfl, rfl, rfl, rfl, rfl, rfl, rfl, rfl, rfl, rfl, rfl, rfl, rfl, rfl, rfl, rfl, trivial⟩) ?_
  ·exact ⟨Nat.le_refl _, fun a c ha hc => by have := (List.getElem?_eq_some_iff.1 hc).1; omega⟩
  intro j hinv
  obtain ⟨c, hc0⟩ := AL6 q (j - 1)
  obtain ⟨y, hy0⟩ : ∃ y, j - 1 < xs.length → xs[j - 1]? = some y := ⟨xs[j - 1]?.getD (.int .i64 0), fun h => by rw [List.getElem?_eq_getElem h]; rfl⟩
  have hj1 : 0 < j → ((j : Int) - 1).toNat = j - 1 := fun _ => by omega
  have hrow0 : 0 < j → (nrows C4.ocs q xs)[((j : Int) - 1).toNat]? = some (C4.ocs c y) := fun h => by rw [hj1 h]; exact Q3 (hc0 qz8) (hy0 qz8)
  refine R9 ?_
  refine M6 rfl (O4 rfl rfl rfl) (fun hc => D7 2 rfl H7 Q0 (B1 rfl hc) rfl (B1 rfl hc) qz6 qz6) ?_
  refine M6 rfl (O4 rfl rfl rfl) (fun hc => J2 2 rfl X9 rfl K1 (B1 rfl hc) rfl rfl (hrow0 qz6)) ?_
  refine M6 rfl (O4 rfl rfl rfl) (fun hc => K5 2 rfl (B1 rfl hc) rfl i5 (hrow0 qz6) rfl) ?_
  refine R2 ?_
  refine M6 rfl (O4 rfl rfl rfl) (fun hc => BG1 rfl (B1 rfl hc) (B1 rfl hc)) ?_
  refine R2 ?_
  refine A8 (A0 rfl) ?_ ?_
  ·intro h42
   have hgt : 0 < j ∧ Op.bytesLess x.Key c.Key = true := by rw [T5]; simpa using h42
   refine R7 ?_
   refine AD6 ?_
   refine F3 j (j - 1) ?_ ?_ (F2 ⟨congrArg (fun z : Int => some (AV.int z)) qz8, rfl, rfl, rfl, rfl, rfl, rfl, rfl, rfl, rfl, rfl, rfl, rfl, rfl, rfl, rfl, rfl, rfl, rfl, trivial⟩)
   ·exact ⟨by omega, fun a c' ha hc' => if h9 : j ≤ a then hinv.2 a c' h9 hc' else (by have e : a = j - 1 := qz8; subst e; rw [hc0 qz8] at hc'; injection hc' with hc'; subst hc'; exact hgt.2)⟩
   omega
  intro h42
  have hng : 0 < j → Op.bytesLess x.Key c.Key = false := fun h => by rw [T5]; simpa [h] using h42
  refine R10 ?_
  refine M6 rfl (O4 rfl rfl rfl) (fun hc => D7 2 rfl H7 Q0 (B1 rfl hc) rfl (B1 rfl hc) qz6 qz6) ?_
  refine M6 rfl (O4 rfl rfl rfl) (fun hc => J2 2 rfl X9 rfl K1 (B1 rfl hc) rfl rfl (hrow0 qz6)) ?_
  refine M6 rfl (O4 rfl rfl rfl) (fun hc => K5 2 rfl (B1 rfl hc) rfl i5 (hrow0 qz6) rfl) ?_
  refine R5 ?_
  refine A8 (A0 rfl) ?_ ?_
  ·intro h57
   have hf : 0 < j ∧ c.Key = x.Key := by simpa using h57
   have hc := hc0 qz8
   have hy := hy0 qz8
   have hins := scan_has hinvo.2.2.1.1 hc hf.2 ⟨t, x.Val, x.Gone⟩
   refine R6 ?_
   refine A4 rfl (AG1 rfl Tryz.call237 rfl (Af5 q x.Key hinvo.2.2.1 hso) (L5 _ _) (T2 (BG7 (A0 rfl) (Al1 C4.lcM (by first | exact hlen | exact hlen.trans (Al2 _ _).symm) 2 rfl (fun o ho => List.mem_of_mem_drop (i := 3) (show o ∈ nin C4.ow q xs from by first | exact ho | exact List.mem_append_left _ ho | exact List.mem_append_right _ ho | exact List.mem_append_right _ (List.mem_append_left _ ho) | exact List.mem_append_right _ (List.mem_append_right _ ho))))) (T2 (evb (A0 rfl)) i0))) ?_
   refine R3 ?_
   refine A8 (A0 rfl) ?_ ?_
   ·intro h63
    have k63 := of_decide_eq_true h63; try simp only [A5] at k63
    have he : putP l w t = ([], false) := by unfold putP; rw [put_stop hinvo.2.2.2.2 hx k63]
    rw [he]
    refine R2 ?_
    refine A4 rfl (D4 rfl F4) ?_
    refine R3 ?_
    refine W7 260 2 ?_
    first | exact G1 [0] ((Value.slice none 0 0), []) (rfl) rfl B0 (N4 rfl D0 (B6 (A6 rfl B0) (B6 (A6 rfl B0) E8))) | exact H4 [0] 3 (nin C4.ow q xs) [] ((Value.slice none 0 0), []) (rfl) rfl (show List.Perm (nin C4.ow q xs) ((nin C4.ow q xs) ++ []) from B8) B0 (N4 rfl D0 (B6 (A6 rfl B0) (B6 (A6 rfl B0) E8))) | exact G1 [0] ((Value.slice none 0 0), xs) (hinv.2.1) rfl B0 (N4 rfl D0 (B6 (A6 rfl B0) (B6 (A6 rfl B0) E8))) | exact H4 [0] 3 (nin C4.ow q xs) [] ((Value.slice none 0 0), xs) (hinv.2.1) rfl (show List.Perm (nin C4.ow q xs) ((nin C4.ow q xs) ++ []) from B8) B0 (N4 rfl D0 (B6 (A6 rfl B0) (B6 (A6 rfl B0) E8)))
   intro h63
   have k63 := of_decide_eq_false h63; try simp only [A5] at k63
   have hnt : ¬ t ≤ lastTime q x.Key := k63
   have hpo := (List.getElem?_eq_some_iff.1 hc).1
   have hA : (nrows C4.ocs (q.take (j - 1)) (xs.take (j - 1))).length = ((j : Int) - 1).toNat := (s6 (ocs := C4.ocs) hc hy).trans (hj1 hf.1).symm
   obtain ⟨fx, hto⟩ : ∃ fx, BM8 (nrows C4.ocs (q.take (j - 1)) (xs.take (j - 1))) c.Key (c.Vers.map U1.cs ++ [U1.cs ⟨t, x.Val, x.Gone⟩]) (nrows C4.ocs (q.drop (j - 1 + 1)) (xs.drop (j - 1 + 1))) (nin C4.ow (q.eraseIdx (j - 1)) (xs.eraseIdx (j - 1))) (putC1 q x t) fx := ⟨_, by have h7 := CA1 hc hy hlen ⟨t, x.Val, x.Gone⟩; unfold putC1; rw [hins]; rw [hf.2] at h7 ⊢; exact h7⟩
   have hcs := AZ9 (Nat.le_trans (X1 hc) hso)
   rw [u3 hc hy]
   refine AWP.le (O2 3 (t := (C4.ow c y) ++ (nin C4.ow (q.eraseIdx (j - 1)) (xs.eraseIdx (j - 1)))) (z6 (ow := C4.ow) hc hy)) ?_
   refine R2 ?_
   refine AWP.le (C1 [0, 1, 1] rfl) ?_
   refine M7 _ [(0, false), (1, false), (2, false), (3, false), (4, false), (5, false), (6, false), (7, false), (8, false), (9, false), (10, false), (11, true)] F1 F1 rfl (P1 2) ?_
   refine R6 ?_
   refine M8 rfl rfl rfl (fun ext => D7 1 rfl H7 Q0 (A0 rfl) rfl (A0 rfl) qz8 (by rw [G2, H6]; omega)) ?_
   refine M8 rfl rfl rfl (fun ext => J2 1 rfl X9 rfl Tryz.sizeOf258 (A0 rfl) rfl rfl (AL5 hA)) ?_
   refine M8 rfl rfl rfl (fun ext => K5 1 rfl (A0 rfl) rfl Tryz.isAgg258 (AL5 hA) rfl) ?_
   refine R2 ?_
   refine S1 rfl rfl rfl (J8 (by' := 32) 2 rfl U8 Tryz.type255 rfl rfl rfl rfl rfl rfl (A0 rfl) (A0 rfl) rfl qz4) (fun a _ => qz3) ?_
   intro v75_2 _
   refine R1 ?_
   refine A4 rfl (D7 1 rfl H7 Q0 (A0 rfl) rfl (A0 rfl) qz8 (by rw [G2, H6]; omega)) ?_
   refine A4 rfl (J2 1 rfl X9 rfl Tryz.sizeOf258 (A0 rfl) rfl rfl (AL5 hA)) ?_
   refine S4 2 rfl fun one_v75_2 => ?_
   refine Ak5 1 rfl rfl rfl (A0 rfl) (A0 rfl) (M0 one_v75_2) rfl Tryz.sizeOf258 hA rfl ?_
   refine R2 ?_
   refine I5 qz47 ?_
   refine AWP.le (C1 [0, 0, 1, 0] rfl) ?_
   refine AWP.le (O2 3 (t := nin C4.ow (putC1 q x t) (fx v75_2)) ((hto v75_2).2.2)) ?_
   refine R4 ?_
   refine Y7 i v q xs (i + 1) (v) (putC1 q x t) (fx v75_2) ?_ ?_ (Le.trans (C1 [0, 1, 0] rfl) (E3 2 (Eq.trans (by first | exact congrArg (fun z => Own.arr _ _ _ z :: _) (hto v75_2).2.1 | exact congrArg (fun z => Own.arr _ _ _ z :: _) (by first | (rw [List.nil_append, List.append_assoc]; exact (hto v75_2).2.1) | (rw [List.append_assoc]; exact (hto v75_2).2.1))) (List.append_nil _).symm) ⟨rfl, rfl, rfl, rfl, rfl, trivial⟩))
   ·exact ⟨by omega, (hto _).1, AI4 hinvo.2.2.1 _ _, by have h8 := AN7 q x t; have h9 := AG7 (f := A9.size) hx; omega, An1 hinvo.2.2.2.2 hx hnt⟩
   omega
  intro h57
  have hnf : 0 < j → c.Key ≠ x.Key := fun h => by simpa [h] using h57
  obtain ⟨hins, hl0⟩ := scan_new hinvo.2.2.1.1 hinv.1 hinv.2 (fun z hz hzz => by rw [hc0 qz8] at hzz; injection hzz with hzz; subst hzz; rw [T5, hng hz]; simpa using fun e => hnf hz e.symm) ⟨t, x.Val, x.Gone⟩
  have hnt : ¬ t ≤ lastTime q x.Key := by rw [hl0]; omega
  obtain ⟨fx, hto⟩ : ∃ fx, BM8 ((nrows C4.ocs q xs).take j) x.Key [U1.cs ⟨t, x.Val, x.Gone⟩] ((nrows C4.ocs q xs).drop j) (nin C4.ow q xs) (putC1 q x t) fx := ⟨_, by unfold putC1; rw [hins]; exact CA2 hinv.1 hlen _ _⟩
  refine R2 ?_
  refine AWP.le (f0 [2] 8 rfl rfl (J3 (C6 (i := 0) rfl) F5) M9) ?_
  refine R1 ?_
  refine N8 rfl rfl rfl rfl H7 Q0 ?_
  intro v78
  refine R2 ?_
  refine A4 rfl (Bf3 rfl H7 Q0 (A0 rfl) (A0 rfl) qz8 (by rw [hrl]; omega)) ?_
  refine G0 (by' := 40) 0 rfl rfl rfl rfl H7 Tryz.type260 rfl rfl rfl rfl rfl rfl (A0 rfl) (A0 rfl) rfl Ae6 ?_
  intro v82_3
  refine R2 ?_
  refine AWP.le (f0 [0] 13 rfl rfl (J3 (C6 (i := 0) rfl) F5) M9) ?_
  refine AWP.le (C1 [0, 0] rfl) ?_
  refine P5 _ 14 (.pure 1 (.pure 2 (.pure 3 (.pure 5 (.pure 6 (.pure 7 (.pure 12 (.e2 0 (.e2 4 (.e1 8 (.pure 9 (.pure 10 (.e1 11 (.e1 13 .nil))))) 8 (.pure 9 (.pure 10 (.e1 4 (.e1 11 (.e1 13 .nil)))))) 8 (.pure 9 (.pure 10 (.e1 0 (.e1 4 (.e1 11 (.e1 13 .nil)))))))))))))) F1 F1 rfl (P1 2) ?_
  refine R2 ?_
  refine J0 rfl rfl rfl (fun ext => Bf2 rfl H7 Q0 (A0 rfl) (A0 rfl) qz8 (by rw [hrl]; omega)) ?_
  refine R4 ?_
  refine c8 ?_ ?_
  ·refine E1 rfl rfl rfl (Y6 2 <| a8 rfl H7 Q0) (fun a _ => qz3) ?_
   intro v83 _
   refine c8 ?_ ?_
   ·refine E1 rfl rfl rfl (J8 (by' := 40) 2 rfl H7 Tryz.type260 rfl rfl rfl rfl rfl rfl (A0 rfl) (A0 rfl) rfl Ae6) (fun a _ => qz3) ?_
    intro v87_4 _
    refine R1 ?_
    refine E1 rfl rfl rfl (S6 3 (fun _ => rfl) (Y6 3 <| Ak8 rfl U8 c6 Tryz.zeroValue255 rfl rfl rfl rfl (E0 (A0 rfl) (U4 _) T9) rfl rfl)) (fun a _ => qz3) ?_
    intro v91 hone_v91
    have one_v91 := hone_v91.2
    refine J0 rfl rfl rfl (fun ext => W8 (places := #[(0, 1), (1, 1)]) rfl X9 Tryz.zeroValue260 (fun w => by kernel_rfl) rfl (E0 (A0 rfl) (V0 _) (E0 (A0 rfl) (M0 one_v91) T9)) rfl) ?_
    refine R2 ?_
    refine E1 rfl rfl rfl (J8 (by' := 40) 2 rfl H7 Tryz.type260 rfl rfl rfl rfl rfl rfl (A0 rfl) (A0 rfl) rfl Ae6) (fun a _ => qz3) ?_
    intro v94_5 _
    refine R1 ?_
    refine E1 rfl rfl rfl (J8 (by' := 40) 2 rfl H7 Tryz.type260 rfl rfl rfl rfl rfl rfl (A0 rfl) (A0 rfl) rfl Ae6) (fun a _ => qz3) ?_
    intro v96_6 _
    refine R3 ?_
    refine I5 qz47 ?_
    refine AWP.le (C1 [0, 0, 0, 0] rfl) ?_
    refine AWP.le (O2 3 (t := nin C4.ow (putC1 q x t) (fx v91)) ((hto v91).2.2)) ?_
    refine R4 ?_
    refine Y7 i v q xs (i + 1) (v96_6) (putC1 q x t) (fx v91) ?_ ?_ (Le.trans (C1 [0, 0, 0] rfl) (E3 2 (Eq.trans qz64 (List.append_nil _).symm) ⟨rfl, rfl, rfl, rfl, rfl, trivial⟩))
    ·exact ⟨by omega, (hto _).1, AI4 hinvo.2.2.1 _ _, by have h8 := AN7 q x t; have h9 := AG7 (f := A9.size) hx; omega, An1 hinvo.2.2.2.2 hx hnt⟩
    omega
   refine E1 rfl rfl rfl (S6 3 (fun _ => rfl) (Y6 3 <| Ak8 rfl U8 c6 Tryz.zeroValue255 rfl rfl rfl rfl (E0 (A0 rfl) (U4 _) T9) rfl rfl)) (fun a _ => qz3) ?_
   intro v91 hone_v91
   have one_v91 := hone_v91.2
   refine J0 rfl rfl rfl (fun ext => W8 (places := #[(0, 1), (1, 1)]) rfl X9 Tryz.zeroValue260 (fun w => by kernel_rfl) rfl (E0 (A0 rfl) (V0 _) (E0 (A0 rfl) (M0 one_v91) T9)) rfl) ?_
   refine R2 ?_
   refine E1 rfl rfl rfl (J8 (by' := 40) 2 rfl H7 Tryz.type260 rfl rfl rfl rfl rfl rfl (A0 rfl) (A0 rfl) rfl Ae6) (fun a _ => qz3) ?_
   intro v87_7 _
   refine R1 ?_
   refine E1 rfl rfl rfl (J8 (by' := 40) 2 rfl H7 Tryz.type260 rfl rfl rfl rfl rfl rfl (A0 rfl) (A0 rfl) rfl Ae6) (fun a _ => qz3) ?_
   intro v94_8 _
   refine R1 ?_
   refine E1 rfl rfl rfl (J8 (by' := 40) 2 rfl H7 Tryz.type260 rfl rfl rfl rfl rfl rfl (A0 rfl) (A0 rfl) rfl Ae6) (fun a _ => qz3) ?_
   intro v96_9 _
   refine R3 ?_
   refine I5 qz47 ?_
   refine AWP.le (C1 [0, 0, 0, 0] rfl) ?_
   refine AWP.le (O2 3 (t := nin C4.ow (putC1 q x t) (fx v91)) ((hto v91).2.2)) ?_
   refine R4 ?_
   refine Y7 i v q xs (i + 1) (v96_9) (putC1 q x t) (fx v91) ?_ ?_ (Le.trans (C1 [0, 0, 0] rfl) (E3 2 (Eq.trans qz64 (List.append_nil _).symm) ⟨rfl, rfl, rfl, rfl, rfl, trivial⟩))
   ·exact ⟨by omega, (hto _).1, AI4 hinvo.2.2.1 _ _, by have h8 := AN7 q x t; have h9 := AG7 (f := A9.size) hx; omega, An1 hinvo.2.2.2.2 hx hnt⟩
   omega
  refine E1 rfl rfl rfl (S6 2 (fun _ => rfl) (Y6 2 <| Ak8 rfl U8 c6 Tryz.zeroValue255 rfl rfl rfl rfl (E0 (A0 rfl) (U4 _) T9) rfl rfl)) (fun a _ => qz3) ?_
  intro v91 hone_v91
  have one_v91 := hone_v91.2
  refine J0 rfl rfl rfl (fun ext => W8 (places := #[(0, 1), (1, 1)]) rfl X9 Tryz.zeroValue260 (fun w => by kernel_rfl) rfl (E0 (A0 rfl) (V0 _) (E0 (A0 rfl) (M0 one_v91) T9)) rfl) ?_
  refine R2 ?_
  refine E1 rfl rfl rfl (Y6 3 <| a8 rfl H7 Q0) (fun a _ => qz3) ?_
  intro v83 _
  refine R1 ?_
  refine E1 rfl rfl rfl (J8 (by' := 40) 3 rfl H7 Tryz.type260 rfl rfl rfl rfl rfl rfl (A0 rfl) (A0 rfl) rfl Ae6) (fun a _ => qz3) ?_
  intro v87_10 _
  refine R1 ?_
  refine E1 rfl rfl rfl (J8 (by' := 40) 3 rfl H7 Tryz.type260 rfl rfl rfl rfl rfl rfl (A0 rfl) (A0 rfl) rfl Ae6) (fun a _ => qz3) ?_
  intro v94_11 _
  refine R1 ?_
  refine E1 rfl rfl rfl (J8 (by' := 40) 3 rfl H7 Tryz.type260 rfl rfl rfl rfl rfl rfl (A0 rfl) (A0 rfl) rfl Ae6) (fun a _ => qz3) ?_
  intro v96_12 _
  refine R3 ?_
  refine I5 qz47 ?_
  refine AWP.le (C1 [0, 0, 1, 0] rfl) ?_
  refine AWP.le (O2 3 (t := nin C4.ow (putC1 q x t) (fx v91)) ((hto v91).2.2)) ?_
  refine R4 ?_
  refine Y7 i v q xs (i + 1) (v96_12) (putC1 q x t) (fx v91) ?_ ?_ (Le.trans (C1 [0, 0, 0] rfl) (E3 2 (Eq.trans qz64 (List.append_nil _).symm) ⟨rfl, rfl, rfl, rfl, rfl, trivial⟩))
  ·exact ⟨by omega, (hto _).1, AI4 hinvo.2.2.1 _ _, by have h8 := AN7 q x t; have h9 := AG7 (f := A9.size) hx; omega, An1 hinvo.2.2.2.2 hx hnt⟩
  omega
 intro h19
 have k19 := of_decide_eq_false h19; try simp only [A5] at k19
 have hge : w.length ≤ i := by omega
 have hpe := put_end hinv.2.2.2.2 hge
 have htk := At4 (f := A9.size) (l := w) i
 have hso : sizeL C4.size q ≤ 4194304 := by omega
 have he : putP l w t = (q, l3Good q) := by unfold putP; rw [hpe]
 rw [he]
 refine R5 ?_
 refine A4 rfl (AG1 rfl Tryz.call238 rfl (Az8 q hso) (W9 _) (T2 (BG7 (A0 rfl) (Al1 C4.lcM (by first | exact hlen | exact hlen.trans (Al2 _ _).symm) 0 rfl (fun o ho => List.mem_of_mem_drop (i := 1) (show o ∈ nin C4.ow q xs from by first | exact ho | exact List.mem_append_left _ ho | exact List.mem_append_right _ ho | exact List.mem_append_right _ (List.mem_append_left _ ho) | exact List.mem_append_right _ (List.mem_append_right _ ho))))) i0)) ?_
 refine R4 ?_
 first | exact G1 [0] (v, []) (rfl) rfl B0 (N4 rfl D0 (B6 (A6 rfl B0) (B6 (A6 rfl B0) E8))) | exact H4 [0] 0 (nin C4.ow q xs) [] (v, []) (rfl) rfl (show List.Perm (nin C4.ow q xs) ((nin C4.ow q xs) ++ []) from B8) B0 (N4 rfl D0 (B6 (A6 rfl B0) (B6 (A6 rfl B0) E8))) | exact H4 [0] 0 (nin C4.ow q xs) [] (v, xs) (hinv.2.1) rfl (show List.Perm (nin C4.ow q xs) ((nin C4.ow q xs) ++ []) from B8) B0 (N4 rfl D0 (B6 (A6 rfl B0) (B6 (A6 rfl B0) E8)))
end Go.Proofs.YtcfkbhnpfjjmjaaGreat
namespace Go.M
open Go.AV
theorem BW2 {h : E7} : ∀ {l : List E7} {p : Nat}, p ≤ l.length → (∀ i x, i < p → l[i]? = some x → x.Txn ≤ h.Txn) → (∀ x, l[p]? = some x → h.Txn < x.Txn) → insH h l = l.take p ++ h :: l.drop p
  | [], p, hp, _, _ => by simp at hp; subst hp; rfl
  | g :: l, 0, _, _, h2 => by unfold insH; rw [if_pos (h2 g rfl)]; rfl
  | g :: l, p + 1, hp, h1, h2 => by
    unfold insH
    rw [if_neg (by have := h1 0 g qz8 rfl; omega), BW2 (by simpa using hp) (fun i x hi hx => h1 (i + 1) x qz8 AA5) (fun x hx => h2 x AA5)]
    rfl
theorem BW3 {h : M1} : ∀ {l : List M1} {p : Nat}, p ≤ l.length → (∀ i x, i < p → l[i]? = some x → x.Txn ≤ h.Txn) → (∀ x, l[p]? = some x → h.Txn < x.Txn) → insT h l = l.take p ++ h :: l.drop p
  | [], p, hp, _, _ => by simp at hp; subst hp; rfl
  | g :: l, 0, _, _, h2 => by unfold insT; rw [if_pos (h2 g rfl)]; rfl
  | g :: l, p + 1, hp, h1, h2 => by
    unfold insT
    rw [if_neg (by have := h1 0 g qz8 rfl; omega), BW3 (by simpa using hp) (fun i x hi hx => h1 (i + 1) x qz8 AA5) (fun x hx => h2 x AA5)]
    rfl
def E7.ocs (h : E7) (x : Value × Value) : List AV := [AV.int h.Txn, AV.int h.Time, AV.int h.Lead, AV.is x.1, AV.is x.2]
def G6.ocs (s : G6) (x : Value × Value) : List AV := [AV.int s.Floor, AV.list 2 (s.Cells.map C4.cs), AV.is x.1, AV.is x.2]
end Go.M
namespace Go.Proofs.YtcfkbhnpfjjmjaaGreat
open Go Go.AV Go.M
def E7.ow (h : E7) (x : Value × Value) : List Own := [.arr x.1 9 1 (h.Reads.map fun k => [AV.str k]), .arr x.2 47 3 (h.Writes.map A9.cs)]
def G6.ow (s : G6) (x : Value × Value) : List Own := [.arr x.1 252 5 (s.Held.map E7.cs), .arr x.2 148 3 (s.Told.map M1.cs)]
theorem E7.lc (h : E7) (x : Value × Value) : Z9 (E7.ow h x) (E7.ocs h x) h.cs :=
  D1 H0 (D1 H0 (D1 H0 (D1 (J3 (C6 (i := 0) rfl) F5) (D1 (J3 (C6 (i := 1) rfl) F5) V2))))
theorem G6.lc (s : G6) (x : Value × Value) : Z9 (G6.ow s x) (G6.ocs s x) s.cs :=
  D1 H0 (D1 H0 (D1 (J3 (C6 (i := 0) rfl) F5) (D1 (J3 (C6 (i := 1) rfl) F5) V2)))
attribute [local irreducible] OpW OpA OpS AWP B9 J5 C8 OpE RetOk H1 I9 Le Ev F6 J9 Int.tmod Int.tdiv IntKind.wrap
end Go.Proofs.YtcfkbhnpfjjmjaaGreat
namespace Go.M
open Go.AV
theorem BA1 {s : G6} {l : List L2} {i : Nat} {r : L2} (h : l[i]? = some r) : stFrom s (l.take (i + 1)) = r4 (stFrom s (l.take i)) r := by
  unfold stFrom
  rw [List.take_add_one, h, List.foldl_append]; rfl
theorem Ah3 : ∀ {l : List L2} {s : G6} {r : L2}, didFrom s (l ++ [r]) = didFrom s l ++ [(applyS (stFrom s l) r).2]
  | [], s, r => rfl
  | x :: l, s, r => by
    show _ :: didFrom (r4 s x) (l ++ [r]) = _
    rw [Ah3]; rfl
theorem At5 {s : G6} {l : List L2} {i : Nat} {r : L2} (h : l[i]? = some r) : didFrom s (l.take (i + 1)) = didFrom s (l.take i) ++ [(applyS (stFrom s (l.take i)) r).2] := by
  rw [List.take_add_one, h]; exact Ah3
def phi (s : G6) : Nat := sizeL C4.size s.Cells + 3 * sizeL E7.size s.Held + s.Told.length
theorem size_phi (s : G6) : s.size ≤ phi s := by
  have h1 : s.size = sizeL C4.size s.Cells + sizeL E7.size s.Held + s.Told.length := rfl
  unfold phi; omega
theorem CA3 {α : Type} {f : α → Nat} {a b : List α} (h : a.Perm b) : sizeL f a = sizeL f b := by
  unfold sizeL; rw [h.length_eq, (h.map f).sum_nat]
theorem Bi3 {t : Int} : ∀ {w : List A9} {l q : List C4}, putAll l w t = some q → sizeL C4.size q ≤ sizeL C4.size l + 2 * sizeL A9.size w
  | [], l, q, h => by simp [putAll] at h; subst h; omega
  | x :: w, l, q, h => by
    unfold putAll at h
    split at h
    · cases h
    · have h1 := Bi3 h
      have h2 := AN7 l x t
      rw [Q7]; omega
theorem CA4 {l : List E7} {n : Int} {h : E7} (hf : findH l n = some h) : sizeL E7.size (lessH l n) + (1 + h.size) ≤ sizeL E7.size l := by
  induction l with
  | nil => simp [findH] at hf
  | cons g l ih =>
    unfold findH at hf ih
    rw [List.find?_cons] at hf
    unfold lessH at ih ⊢
    by_cases e : g.Txn = n
    · rw [beq_iff_eq.2 e] at hf
      injection hf with hf; subst hf
      rw [List.filter_cons_of_neg (by simp [e]), Q7]
      have : sizeL E7.size (l.filter fun h => h.Txn != n) ≤ sizeL E7.size l := by
        clear ih
        induction l with
        | nil => exact Nat.le_refl _
        | cons y l ih =>
          rw [List.filter_cons]
          split
          · rw [Q7, Q7]; omega
          · rw [Q7]; omega
      omega
    · rw [beq_eq_false_iff_ne.2 e] at hf
      rw [List.filter_cons_of_pos (by simp [e]), Q7, Q7]
      have := ih hf; omega
theorem BA2 (l : List E7) (n : Int) : sizeL E7.size (lessH l n) ≤ sizeL E7.size l := by
  induction l with
  | nil => exact Nat.le_refl _
  | cons y l ih =>
    unfold lessH at ih ⊢
    rw [List.filter_cons]
    split
    · rw [Q7, Q7]; omega
    · rw [Q7]; omega
theorem CI2 (s : G6) (r : L2) : phi (applyS s r).1 ≤ phi s + 3 * (1 + r.size) + 1 := by
  have hh : (hOf r).size = r.size := rfl
  have hins : sizeL E7.size (insH (hOf r) s.Held) = 1 + r.size + sizeL E7.size s.Held := by rw [CA3 (AT6 _ _), Q7, hh]
  have htl : ∀ t : M1, (insT t s.Told).length = s.Told.length + 1 := fun t => by rw [(As3 _ _).length_eq]; rfl
  have h2 := BA2 s.Held r.Txn
  unfold applyS
  split
  · unfold phi; dsimp only; omega
  · split
    · dsimp only; omega
    · split
      · unfold phi; dsimp only; rw [hins]; omega
      · split
        · cases hf : findH s.Held r.Txn with
          | none => dsimp only; omega
          | some h =>
            dsimp only
            split
            · dsimp only; omega
            · split
              · rename_i hp
                have h3 := Bi3 (BP3 hp).1
                have h4 := CA4 hf
                have h5 : h.size = sizeL (fun x => x.length) h.Reads + sizeL A9.size h.Writes := rfl
                unfold AH4 phi; dsimp only; rw [htl]; omega
              · dsimp only; omega
        · unfold AH4 phi; dsimp only; rw [htl]; omega
theorem phi_step (s : G6) (r : L2) : phi (r4 s r) ≤ phi s + 3 * (1 + r.size) + 1 := by
  unfold r4
  split
  · exact CI2 s r
  · omega
theorem Bi4 {m : Nat} : ∀ {l : List L2} {s : G6}, (∀ r ∈ l, r.size ≤ m) → phi (stFrom s l) ≤ phi s + l.length * (3 * (1 + m) + 1)
  | [], s, _ => by simp [stFrom]
  | r :: l, s, h => by
    have h1 := phi_step s r
    have h2 := Bi4 (l := l) (s := r4 s r) fun x hx => h x (List.mem_cons_of_mem _ hx)
    have h3 := h r List.mem_cons_self
    have h4 : stFrom s (r :: l) = stFrom (r4 s r) l := rfl
    rw [h4, H6, Nat.add_mul, Nat.one_mul]
    omega
theorem AJ6 {r : L2} (h : goodRec r = true) : r.size ≤ 400 := by
  have g := goodR h
  have h1 : sizeL (fun x : Str => x.length) r.Reads ≤ r.Reads.length * 13 := a9 fun x hx => BH3 (g.reads.2 x hx)
  have h2 : sizeL A9.size r.Writes ≤ r.Writes.length * 37 := a9 (f := A9.size) fun x hx => by
    have := g.writes.2 x hx
    have k1 := BH3 this.1
    have k2 := By0 this.2.1
    show x.Key.length + x.Val.length ≤ 36
    omega
  have h3 : r.size = sizeL (fun x : Str => x.length) r.Reads + sizeL A9.size r.Writes := rfl
  have := g.reads.1
  have := g.writes.1
  omega
def q9 (l : List E7) (k : Str) (t : Int) : List Int := (l.filter fun h => hasK h.Writes k && decide (h.Time ≤ t)).map E7.Txn
def zTold : M1 := ⟨0, false, 0⟩
def zHeld : E7 := ⟨0, 0, 0, [], []⟩
theorem CA5 {l : List M1} {n : Int} : findT l n = none ↔ hasT l n = false := by
  unfold findT hasT; rw [List.find?_eq_none, List.any_eq_false]
theorem BJ0 {l : List E7} {i : Nat} {h : E7} {k : Str} {t : Int} (hx : l[i]? = some h) (hc : (hasK h.Writes k && decide (h.Time ≤ t)) = true) : q9 (l.take (i + 1)) k t = q9 (l.take i) k t ++ [h.Txn] := by
  unfold q9; rw [List.take_add_one, hx, List.filter_append, List.map_append]
  show _ ++ List.map _ (List.filter _ [h]) = _
  rw [List.filter_cons_of_pos (p := fun h : E7 => hasK h.Writes k && decide (h.Time ≤ t)) hc]; rfl
theorem BW4 {l : List E7} {i : Nat} {h : E7} {k : Str} {t : Int} (hx : l[i]? = some h) (hc : (hasK h.Writes k && decide (h.Time ≤ t)) = false) : q9 (l.take (i + 1)) k t = q9 (l.take i) k t := by
  unfold q9; rw [List.take_add_one, hx, List.filter_append, List.map_append]
  show _ ++ List.map _ (List.filter _ [h]) = _
  rw [List.filter_cons_of_neg (p := fun h : E7 => hasK h.Writes k && decide (h.Time ≤ t)) (by rw [hc]; decide)]; simp
theorem CA6 (l : List E7) (k : Str) (t : Int) : (q9 l k t).length ≤ l.length := by unfold q9; rw [A5]; exact List.length_filter_le _ _
theorem CA7 {s : G6} (g : GS s) {h : E7} (hm : h ∈ s.Held) : 1 ≤ h.Time ∧ h.Time ≤ 100000 ∧ adj wLess h.Writes = true := by
  obtain ⟨g1, g2, g3⟩ := g.good h hm
  have h1 := g1
  unfold goodRec hRec at h1
  rw [if_pos rfl] at h1
  unfold good1 z8 within at h1
  simp only [Bool.and_eq_true, decide_eq_true_eq] at h1
  exact ⟨by omega, by omega, good_adj g1⟩
end Go.M
namespace Go.Proofs.YtcfkbhnpfjjmjaaGreat
open Go Go.AV Go.M
attribute [local irreducible] OpW OpA OpS AWP B9 J5 C8 OpE RetOk H1 I9 Le Ev F6 J9 Int.tmod Int.tdiv IntKind.wrap
end Go.Proofs.YtcfkbhnpfjjmjaaGreat
namespace Go.M
open Go.AV
end Go.M
namespace Go.Proofs.YtcfkbhnpfjjmjaaGreat
open Go Go.AV Go.M
attribute [local irreducible] OpW OpA OpS AWP B9 J5 C8 OpE RetOk H1 I9 Le Ev F6 J9 Int.tmod Int.tdiv IntKind.wrap
theorem AW4 (l : List Str) (hl : l.length ≤ 4194304) : C8 Tryz.prog 163 [strs l] [] (fun _ : Value => True) (fun v => [.arr v 9 1 (l.map fun s => [AV.str s])]) (fun v => AV.is v) := by
  refine C3 Tryz.func163 rfl Tryz.ntmps163 rfl ?_
  refine R2 ?_
  refine A4 rfl (D4 rfl F4) ?_
  refine R3 ?_
  refine N8 rfl rfl rfl rfl F7 K1 ?_
  intro v3
  refine R1 ?_
  refine G0 (by' := 16) 0 rfl rfl rfl rfl F7 Tryz.type9 rfl rfl rfl rfl rfl rfl (A0 rfl) (A0 rfl) rfl Ai7 ?_
  intro v5_1
  refine R3 ?_
  exact G1 [0] v5_1 (trivial) rfl B0 (E6 rfl (A6 rfl B0))
theorem AB1 (v : Value) (l : List Str) (s : Str) (hs : n7 l) (hl : l.length ≤ 1000000) : C8 Tryz.prog 148 [AV.is v, AV.str s] [.arr v 9 1 (l.map fun s => [AV.str s])] (fun _ : Value => True) (fun v' => [.arr v' 9 1 ((putS l s).map fun s => [AV.str s])]) (fun v' => AV.is v') := by
 refine C3 Tryz.func148 rfl Tryz.ntmps148 rfl ?_
 refine R2 ?_
 refine A4 rfl (D4 rfl F4) ?_
 refine R9 ?_
 refine E5 [(0, _), (1, _), (4, _)] _ (fun (k : Nat) => k ≤ l.length ∧ ∀ i y, k ≤ i → l[i]? = some y → Op.bytesLess s y = true) (fun (k : Nat) => []) (fun (k : Nat) => [(5, AV.int k)]) (fun (k : Nat) => k) (l.length) ?_ (F2 ⟨congrArg (fun z => some (AV.int z)) (by rw [A5]), rfl, rfl, rfl, trivial⟩) ?_
 ·exact ⟨Nat.le_refl _, fun i y h1 h2 => by (have := (List.getElem?_eq_some_iff.1 h2).1; omega)⟩
 intro k hinv
 obtain ⟨y, hy0⟩ : ∃ y, 0 < k → l[k - 1]? = some y := by (by_cases h9 : 0 < k; (have h8 := hinv.1; exact ⟨_, fun _ => List.getElem?_eq_getElem (show k - 1 < l.length by omega)⟩); exact ⟨[], fun h8 => absurd h8 h9⟩)
 refine R9 ?_
 refine L3 rfl (fun hc => D7 0 rfl F7 K1 (B1 rfl hc) rfl (B1 rfl hc) Ai6 (by have := of_decide_eq_true hc; have := hinv.1; simp only [A5]; omega)) ?_
 refine L3 rfl (fun hc => Q1 0 rfl (B1 rfl hc) rfl i5 (str_at (hy0 Ai6) Ai6)) ?_
 refine R1 ?_
 refine L3 rfl (fun hc => BG1 rfl (B1 rfl hc) (B1 rfl hc)) ?_
 refine R2 ?_
 refine A8 (A0 rfl) ?_ ?_
 ·intro h19
  have hkt : 0 < k ∧ Op.bytesLess s y = true := by (rw [Ax5] at h19; simpa using h19)
  refine R7 ?_
  refine AD6 ?_
  refine F3 k (k - 1) ?_ ?_ (F2 ⟨congrArg (fun z => some (AV.int z)) qz8, rfl, rfl, rfl, trivial⟩)
  ·exact ⟨by omega, fun i z hi hz => if e : k ≤ i then hinv.2 i z e hz else qz114⟩
  omega
 intro h19
 have hng : 0 < k → Op.bytesLess s y = false := fun h => by (rw [Ax5] at h19; simpa [h] using h19)
 refine R10 ?_
 refine L3 rfl (fun hc => D7 0 rfl F7 K1 (B1 rfl hc) rfl (B1 rfl hc) Ai6 (by have := of_decide_eq_true hc; have := hinv.1; simp only [A5]; omega)) ?_
 refine L3 rfl (fun hc => Q1 0 rfl (B1 rfl hc) rfl i5 (str_at (hy0 Ai6) Ai6)) ?_
 refine R4 ?_
 refine A8 (A0 rfl) ?_ ?_
 ·intro h32
  have hke : 0 < k ∧ y = s := by simpa using h32
  rw [BH6 hs (by rw [← hke.2]; exact hy0 hke.1)]
  refine R6 ?_
  exact G1 [0] v (trivial) rfl qz101 (E6 rfl (A6 rfl B0))
 intro h32
 have hne : 0 < k → y ≠ s := fun h e => by simp [h, e] at h32
 rw [BU3 hs hinv.1 hinv.2 (fun z hz hzz => by rw [hy0 hz] at hzz; injection hzz with hzz; subst hzz; exact ⟨hng hz, hne hz⟩)]
 refine R5 ?_
 refine A4 rfl (Bd9 0 rfl F7 K1 (A0 rfl) rfl (A0 rfl) qz8 g9) ?_
 refine AT3 [] rfl rfl rfl rfl Tryz.call163 rfl (AW4 (l.drop k) (by rw [List.length_drop]; omega)) rfl (T2 (BG7 (A0 rfl) (Bg1 (C6 (i := 0) rfl) qz8 qz8)) i0) qz0 qz0 qz0 ?_
 intro x37 ok37
 refine R3 ?_
 refine AWP.le (f0 [0] 6 rfl rfl (J3 (C6 (i := 0) rfl) F5) (c9 0 rfl rfl M9)) ?_
 refine R3 ?_
 refine Bf5 0 rfl rfl rfl rfl F7 K1 (A0 rfl) rfl (A0 rfl) qz8 g9 ?_
 intro v40_1
 rw [Int.toNat_natCast, ← List.map_take]
 refine AT3 [] rfl rfl rfl rfl Tryz.call163 rfl (AW4 (l.take k) BF4) rfl (T2 (AX2 0 (A0 rfl) rfl) i0) qz0 qz0 qz0 ?_
 intro x41 ok41
 refine R2 ?_
 refine G0 (by' := 16) 0 rfl rfl rfl rfl F7 Tryz.type9 rfl rfl rfl rfl rfl rfl (A0 rfl) (A0 rfl) rfl BB6 ?_
 intro v44_2
 refine R1 ?_
 refine G0 (by' := 16) 0 rfl rfl rfl rfl F7 Tryz.type9 rfl rfl rfl rfl rfl rfl (A0 rfl) (A0 rfl) rfl (by simp only [A5, H2, List.length_drop, G2, P0]; omega) ?_
 intro v46_3
 refine R3 ?_
 exact G1 [0] v46_3 (trivial) rfl qz101 (E6 rfl (A6 rfl B0))
theorem Bi5 (r : List Str) (w : List A9) (hr : r.length ≤ 400000) (hw : w.length ≤ 400000) : C8 Tryz.prog 150 [strs r, AV.list 3 (w.map A9.cs)] [] (fun _ : Value => True) (fun v => [.arr v 9 1 ((putAllS (r ++ M2 w) []).map fun s => [AV.str s])]) (fun v => AV.is v) := by
 refine C3 Tryz.func150 rfl Tryz.ntmps150 rfl ?_
 refine R2 ?_
 refine A4 rfl (D4 rfl F4) ?_
 refine R3 ?_
 refine O8 9 1 rfl rfl rfl rfl F4 ?_
 intro v5
 refine R9 ?_
 refine J7 [(1, _), (4, _), (10, _), (11, _)] _ (fun (i : Nat) (v : Value) => i ≤ r.length) (fun (i : Nat) (v : Value) => [.arr v 9 1 ((putAllS (r.take i) []).map fun s => [AV.str s])]) (fun (i : Nat) (v : Value) => [(5, AV.is v), (12, AV.int i)]) (fun (i : Nat) (v : Value) => r.length - i) (0) (v5) ?_ (I8 B0 ⟨rfl, rfl, rfl, rfl, rfl, rfl, trivial⟩) ?_
 ·exact Nat.zero_le _
 intro i v hinv
 refine R5 ?_
 refine A8 (A0 rfl) ?_ ?_
 ·intro h13
  have k13 := of_decide_eq_true h13; try simp only [A5] at k13
  have hlt : i < r.length := by omega
  obtain ⟨x, hx⟩ := get_some hlt
  have hpl := AI2 (r.take i) []
  rw [H2] at hpl
  refine R5 ?_
  refine A4 rfl (C7 rfl F7 K1 (A0 rfl) (A0 rfl) hx qz4) ?_
  refine R6 ?_
  refine E4 [0] rfl rfl rfl rfl Tryz.call148 rfl (AB1 v (putAllS (r.take i) []) x (AC3 List.Pairwise.nil).1 (by simp only [N1] at hpl; omega)) (A1 (A0 rfl) (A1 (A0 rfl) A7)) rfl ?_
  intro x18 ok18
  refine R6 ?_
  refine G9 i v (i + 1) (x18) ?_ ?_ (I8 (by exact congrArg (fun z => [Own.arr _ 9 1 (List.map (fun s => [AV.str s]) z)]) (by rw [List.take_add_one, hx]; exact (AN5 _ _ _).symm)) ⟨rfl, rfl, rfl, rfl, rfl, rfl, trivial⟩)
  ·omega
  omega
 intro h13
 have k13 := of_decide_eq_false h13; try simp only [A5] at k13
 have hge : i = r.length := by omega
 rw [hge, List.take_length]
 refine R9 ?_
 refine J7 [(4, _), (20, _), (21, _)] _ (fun (j : Nat) (u : Value) => j ≤ w.length) (fun (j : Nat) (u : Value) => [.arr u 9 1 ((putAllS (r ++ M2 (w.take j)) []).map fun s => [AV.str s])]) (fun (j : Nat) (u : Value) => [(5, AV.is u), (22, AV.int j)]) (fun (j : Nat) (u : Value) => w.length - j) (0) (v) ?_ (I8 (by (show [_] = [_]; simp [M2])) ⟨rfl, rfl, rfl, rfl, rfl, trivial⟩) ?_
 ·exact Nat.zero_le _
 intro j u hinv
 refine R5 ?_
 refine A8 (A0 rfl) ?_ ?_
 ·intro h23
  have k23 := of_decide_eq_true h23; try simp only [A5] at k23
  have hlt : j < w.length := by omega
  obtain ⟨x, hx⟩ := get_some hlt
  have hpl := AI2 (r ++ M2 (w.take j)) []
  simp only [G2, M2, A5, H2, N1] at hpl
  refine R5 ?_
  refine A4 rfl (C7 rfl C0 E9 (A0 rfl) (A0 rfl) hx qz4) ?_
  refine R2 ?_
  intro b9
  refine R6 ?_
  refine E4 [1] rfl rfl rfl rfl Tryz.call148 rfl (AB1 u (putAllS (r ++ M2 (w.take j)) []) x.Key (AC3 List.Pairwise.nil).1 (by simp only [M2] at hpl ⊢; omega)) (A1 (A0 rfl) (A1 (A0 rfl) A7)) rfl ?_
  intro x29 ok29
  refine R6 ?_
  refine G9 j u (j + 1) (x29) ?_ ?_ (Le.trans (C1 [1, 0] rfl) (E3 1 (by exact congrArg (fun z => [Own.arr _ 9 1 (List.map (fun s => [AV.str s]) z)]) (by rw [List.take_add_one, hx]; simp only [M2, List.map_append, ← List.append_assoc]; exact (AN5 _ _ _).symm)) ⟨rfl, rfl, rfl, rfl, rfl, trivial⟩))
  ·omega
  omega
 intro h23
 have k23 := of_decide_eq_false h23; try simp only [A5] at k23
 have hge : j = w.length := by omega
 rw [hge, List.take_length]
 refine R7 ?_
 exact G1 [0] u (trivial) rfl B0 (E6 rfl (A6 rfl B0))
end Go.Proofs.YtcfkbhnpfjjmjaaGreat
namespace Go.M
open Go.AV
theorem fullC_at {l : List C4} {k : Str} {c : C4} (hc : ¬ atC l k < 0 → findC l k = some c) : fullC l k = (decide ((0 : Int) ≤ atC l k) && decide ((16 : Int) ≤ (c.Vers.length : Int))) := by
  unfold fullC
  by_cases h : atC l k < 0
  · rw [BP0 h, decide_eq_false qz8]; rfl
  · rw [hc h, decide_eq_true qz8, Bool.true_and]
    dsimp only
    rw [decide_eq_decide]; omega
theorem at_some (l : List C4) (k : Str) : ∃ c : C4, ¬ atC l k < 0 → (∃ p : Nat, atC l k = (p : Int) ∧ l[p]? = some c) ∧ findC l k = some c := by
  by_cases h : atC l k < 0
  · exact ⟨⟨[], []⟩, fun k => absurd h k⟩
  · obtain ⟨p, c, h1, h2, h3⟩ := BP1 h
    exact ⟨c, fun _ => ⟨⟨p, h1, h2⟩, h3⟩⟩
theorem AW5 {s : G6} {i : Nat} {h y : E7} (hx : s.Held[i]? = some h) (hy : s.Held[i - 1]? = some y) : heldAt s i = (!((!l4Good (hRec h) || decide (s.Floor < h.Time)) || (decide ((0 : Int) < (i : Int)) && decide (h.Txn ≤ y.Txn))) && ((s.Held.take i).all (fun g => apart g h.Reads h.Writes) && h.Writes.all fun w => decide (lastTime s.Cells w.Key < h.Time))) := by
  rw [CH8 hx hy, AN4]
  have h2 : ((s.Held.take i).all fun g => apart g h.Reads h.Writes) = !((s.Held.take i).any fun g => clash h g) := by
    rw [List.not_any_eq_all_not]; congr 1; funext g; rw [Az7, Bool.not_not]
  have h3 : (h.Writes.all fun w => decide (lastTime s.Cells w.Key < h.Time)) = !(h.Writes.any fun w => decide (h.Time ≤ lastTime s.Cells w.Key)) := by
    rw [List.not_any_eq_all_not]; congr 1; funext w; rw [← decide_not, decide_eq_decide]; omega
  rw [h2, h3]
theorem An2 {s : G6} {i : Nat} {t y : M1} (hx : s.Told[i]? = some t) (hy : s.Told[i - 1]? = some y) : toldAt s i = (!((((!within t.Txn 1 60 || (decide ((0 : Int) < (i : Int)) && decide (t.Txn ≤ y.Txn))) || (t.Yes && !within t.Time 1 s.Floor)) || (!t.Yes && (t.Time != 0)))) && !hasH s.Held t.Txn) := by
  rw [CH9 hx hy]
  congr 2
  show ((!within t.Txn 1 60 || _) || _) = _
  have e : (!((t.Yes && within t.Time 1 s.Floor) || (!t.Yes && (t.Time == 0)))) = ((t.Yes && !within t.Time 1 s.Floor) || (!t.Yes && (t.Time != 0))) := by
    show _ = ((t.Yes && !within t.Time 1 s.Floor) || (!t.Yes && !(t.Time == 0)))
    cases t.Yes <;> simp
  rw [e]
  cases within t.Txn 1 60 <;> cases (decide ((0 : Int) < (i : Int)) && decide (t.Txn ≤ y.Txn)) <;> cases (t.Yes && !within t.Time 1 s.Floor) <;> cases (!t.Yes && (t.Time != 0)) <;> rfl
def heldFO (l : List E7) (n : Int) : E7 × Bool := match findH l n with | some h => (h, true) | none => (zHeld, false)
def toldFO (l : List M1) (n : Int) : M1 × Bool := match findT l n with | some h => (h, true) | none => (zTold, false)
theorem At6 (l : List E7) (n : Int) : (heldFO l n).2 = hasH l n := by
  unfold heldFO
  cases h : findH l n with
  | none => exact (BI2.1 h).symm
  | some x => obtain ⟨h1, h2⟩ := AW1 h; exact (hasH_iff.2 ⟨x, h1, h2⟩).symm
theorem CI3 (l : List M1) (n : Int) : (toldFO l n).2 = hasT l n := by
  unfold toldFO
  cases h : findT l n with
  | none => exact (CA5.1 h).symm
  | some x =>
    unfold findT at h
    exact (hasT_iff.2 ⟨x, List.mem_of_find?_eq_some h, by simpa using List.find?_some h⟩).symm
theorem An3 {α : Type} {p : α → Bool} : ∀ {l : List α} {i : Nat} {x : α}, l[i]? = some x → p x = true → (∀ j y, j < i → l[j]? = some y → p y = false) → l.find? p = some x
  | [], i, x, h, _, _ => by simp at h
  | y :: l, 0, x, h, hp, _ => by simp at h; subst h; rw [List.find?_cons, hp]
  | y :: l, i + 1, x, h, hp, hn => by
    rw [List.find?_cons, hn 0 y qz8 rfl]
    exact An3 w4 hp fun j z hj hz => hn (j + 1) z qz8 (by simpa using hz)
theorem Bi6 {α : Type} {p : α → Bool} {l : List α} (hn : ∀ (j : Nat) (y : α), l[j]? = some y → p y = false) : l.find? p = none := by
  rw [List.find?_eq_none]
  intro x hx
  obtain ⟨j, hj⟩ := List.getElem?_of_mem hx
  rw [hn j x hj]; decide
end Go.M
namespace Go.Proofs.YtcfkbhnpfjjmjaaGreat
open Go Go.AV Go.M
attribute [local irreducible] OpW OpA OpS AWP B9 J5 C8 OpE RetOk H1 I9 Le Ev F6 J9 Int.tmod Int.tdiv IntKind.wrap
theorem Ba0 (h : E7) : B9 Tryz.prog 256 [AV.agg h.cs] (AV.agg (hRec h).cs) := by
  refine B7 Tryz.func256 rfl Tryz.ntmps256 rfl ?_
  refine R3 ?_
  intro b1
  refine R1 ?_
  intro b2
  refine R17 ?_
  exact D5 rfl (G7 (ys := _) 0 rfl rfl Tryz.isAgg221 Tryz.sizeOf221 rfl)
theorem AO1 (l : List A9) (k : Str) : B9 Tryz.prog 50 [AV.list 3 (l.map A9.cs), AV.str k] (AV.bool (hasK l k)) := by
 refine B7 Tryz.func50 rfl Tryz.ntmps50 rfl ?_
 refine S0 (t := 0) rfl fun hl => ?_
 try simp only [A5] at hl
 refine R12 ?_
 refine E5 [(1, _), (7, _), (8, _)] _ (fun (i : Nat) => i ≤ l.length ∧ hasK l k = (l.drop i).any (fun w => w.Key == k)) (fun (i : Nat) => []) (fun (i : Nat) => [(9, AV.int i)]) (fun (i : Nat) => l.length - i) (0) ?_ (F2 ⟨rfl, rfl, rfl, rfl, trivial⟩) ?_
 ·exact ⟨Nat.zero_le _, rfl⟩
 intro i hinv
 refine R5 ?_
 refine A8 (A0 rfl) ?_ ?_
 ·intro h10
  have k10 := of_decide_eq_true h10; try simp only [A5] at k10
  have hlt : i < l.length := by omega
  obtain ⟨x, hx⟩ := get_some hlt
  refine R5 ?_
  refine A4 rfl (C7 rfl C0 E9 (A0 rfl) (A0 rfl) hx qz4) ?_
  refine R2 ?_
  intro b6
  refine R9 ?_
  refine A8 (A0 rfl) ?_ ?_
  ·intro h16
   refine R5 ?_
   exact D5 rfl (A6 rfl qz161)
  intro h16
  refine R5 ?_
  refine F3 i (i + 1) ?_ ?_ (O3 1 ⟨rfl, rfl, rfl, rfl, trivial⟩)
  ·exact ⟨by omega, by rw [hinv.2, drop_some hx, List.any_cons, h16]; rfl⟩
  omega
 intro h10
 have k10 := of_decide_eq_false h10; try simp only [A5] at k10
 have hge : l.length ≤ i := by omega
 refine R6 ?_
 exact D5 rfl (A6 rfl qz161)
theorem BJ1 (l : List Str) (k : Str) : B9 Tryz.prog 250 [strs l, AV.str k] (AV.bool (hasS l k)) := by
 refine B7 Tryz.func250 rfl Tryz.ntmps250 rfl ?_
 refine S0 (t := 0) rfl fun hl => ?_
 try simp only [A5] at hl
 refine R12 ?_
 refine E5 [(1, _), (7, _), (8, _)] _ (fun (i : Nat) => i ≤ l.length ∧ hasS l k = (l.drop i).any (fun x => k == x)) (fun (i : Nat) => []) (fun (i : Nat) => [(9, AV.int i)]) (fun (i : Nat) => l.length - i) (0) ?_ (F2 ⟨rfl, rfl, rfl, rfl, trivial⟩) ?_
 ·exact ⟨Nat.zero_le _, rfl⟩
 intro i hinv
 refine R5 ?_
 refine A8 (A0 rfl) ?_ ?_
 ·intro h10
  have k10 := of_decide_eq_true h10; try simp only [A5] at k10
  have hlt : i < l.length := by omega
  obtain ⟨x, hx⟩ := get_some hlt
  refine R5 ?_
  refine A4 rfl (C7 rfl F7 K1 (A0 rfl) (A0 rfl) hx qz4) ?_
  refine R9 ?_
  refine A8 (A0 rfl) ?_ ?_
  ·intro h15
   refine R5 ?_
   exact D5 rfl (A6 rfl qz122)
  intro h15
  refine R5 ?_
  refine F3 i (i + 1) ?_ ?_ (F2 ⟨rfl, rfl, rfl, rfl, trivial⟩)
  ·exact ⟨by omega, by rw [hinv.2, drop_some hx, List.any_cons, show (k == x) = false from by have h9 := h15; simp at h9 ⊢; exact fun e => h9 e.symm]; rfl⟩
  omega
 intro h10
 have k10 := of_decide_eq_false h10; try simp only [A5] at k10
 have hge : l.length ≤ i := by omega
 refine R6 ?_
 exact D5 rfl (A6 rfl qz122)
theorem apart_spec (h : E7) (rs : List Str) (ws : List A9) : B9 Tryz.prog 235 [AV.agg h.cs, strs rs, AV.list 3 (ws.map A9.cs)] (AV.bool (apart h rs ws)) := by
 refine B7 Tryz.func235 rfl Tryz.ntmps235 rfl ?_
 refine S0 (t := 1) rfl fun hl1 => ?_
 try simp only [A5] at hl1
 refine S0 (t := 2) rfl fun hl2 => ?_
 try simp only [A5] at hl2
 refine R3 ?_
 intro b3
 refine R10 ?_
 refine E5 [(2, _), (3, _), (11, _), (12, _)] _ (fun (i : Nat) => i ≤ rs.length ∧ (rs.all fun k => !hasK h.Writes k) = ((rs.drop i).all fun k => !hasK h.Writes k)) (fun (i : Nat) => []) (fun (i : Nat) => [(13, AV.int i)]) (fun (i : Nat) => rs.length - i) (0) ?_ (F2 ⟨rfl, rfl, rfl, rfl, rfl, trivial⟩) ?_
 ·exact ⟨Nat.zero_le _, rfl⟩
 intro i hinv
 refine R5 ?_
 refine A8 (A0 rfl) ?_ ?_
 ·intro h14
  have k14 := of_decide_eq_true h14; try simp only [A5] at k14
  have hlt : i < rs.length := by omega
  obtain ⟨x, hx⟩ := get_some hlt
  refine R5 ?_
  refine A4 rfl (C7 rfl F7 K1 (A0 rfl) (A0 rfl) hx qz4) ?_
  refine R8 ?_
  refine A4 rfl (B2 rfl Tryz.call50 rfl (AO1 _ _) (A1 (A0 rfl) (A1 (A0 rfl) A7))) ?_
  refine R1 ?_
  refine A8 (A0 rfl) ?_ ?_
  ·intro h20
   have hfin : apart h rs ws = false := by (unfold apart; rw [hinv.2, drop_some hx, List.all_cons, h20]; rfl)
   refine R5 ?_
   exact D5 rfl (A6 rfl Ab2)
  intro h20
  refine R5 ?_
  refine F3 i (i + 1) ?_ ?_ (F2 ⟨rfl, rfl, rfl, rfl, rfl, trivial⟩)
  ·exact ⟨by omega, by rw [hinv.2, drop_some hx, List.all_cons, h20]; rfl⟩
  omega
 intro h14
 have k14 := of_decide_eq_false h14; try simp only [A5] at k14
 have hge : rs.length ≤ i := by omega
 have hr : (rs.all fun k => !hasK h.Writes k) = true := by (rw [hinv.2, List.drop_eq_nil_of_le hge]; rfl)
 refine R9 ?_
 refine E5 [(3, _), (22, _), (23, _)] _ (fun (q : Nat) => q ≤ ws.length ∧ (ws.all fun w => !(hasK h.Writes w.Key || hasS h.Reads w.Key)) = ((ws.drop q).all fun w => !(hasK h.Writes w.Key || hasS h.Reads w.Key))) (fun (q : Nat) => []) (fun (q : Nat) => [(24, AV.int q)]) (fun (q : Nat) => ws.length - q) (0) ?_ (F2 ⟨rfl, rfl, rfl, rfl, trivial⟩) ?_
 ·exact ⟨Nat.zero_le _, rfl⟩
 intro q hinv
 refine R5 ?_
 refine A8 (A0 rfl) ?_ ?_
 ·intro h25
  have k25 := of_decide_eq_true h25; try simp only [A5] at k25
  have hlt : q < ws.length := by omega
  obtain ⟨x, hx⟩ := get_some hlt
  refine R5 ?_
  refine A4 rfl (C7 rfl C0 E9 (A0 rfl) (A0 rfl) hx qz4) ?_
  refine R2 ?_
  intro b10
  refine R8 ?_
  refine A4 rfl (B2 rfl Tryz.call50 rfl (AO1 _ _) (A1 (A0 rfl) (A1 (A0 rfl) A7))) ?_
  refine R5 ?_
  refine P4 rfl (fun hc => B2 rfl Tryz.call250 rfl (BJ1 _ _) (A1 (B1 rfl hc) (A1 (B1 rfl hc) A7))) ?_
  refine R2 ?_
  refine A8 (A0 rfl) ?_ ?_
  ·intro h39
   have hfin : apart h rs ws = false := by (unfold apart; rw [hinv.2, drop_some hx, List.all_cons, h39]; simp)
   refine R5 ?_
   exact D5 rfl (A6 rfl Ab2)
  intro h39
  refine R5 ?_
  refine F3 q (q + 1) ?_ ?_ (O3 1 ⟨rfl, rfl, rfl, rfl, trivial⟩)
  ·exact ⟨by omega, by rw [hinv.2, drop_some hx, List.all_cons, h39]; rfl⟩
  omega
 intro h25
 have k25 := of_decide_eq_false h25; try simp only [A5] at k25
 have hge : ws.length ≤ q := by omega
 have hfin : apart h rs ws = true := by (unfold apart; rw [hr, hinv.2, List.drop_eq_nil_of_le hge]; rfl)
 refine R6 ?_
 exact D5 rfl (A6 rfl Ab2)
theorem Bp7 (l : List E7) (q : Nat) : (hWs (l.take q)).length ≤ (hWs l).length := by
  have h := BH7 (l.take q) (l.drop q)
  rw [List.take_append_drop] at h
  rw [h, G2]; omega
theorem BJ2 (s : G6) (ws : List A9) (hs : s.size ≤ 1048576) (hb : s.Cells.length + ws.length + (hWs s.Held).length ≤ 800000) : B9 Tryz.prog 236 [AV.agg s.cs, AV.list 3 (ws.map A9.cs)] (AV.bool (room s.Cells (ws ++ hWs s.Held))) := by
 obtain ⟨hs1, hs2, hs3, hs4, hs5⟩ := u6 hs
 obtain ⟨p, hp⟩ : ∃ p : A9 → Bool, p = fun w => !fullC s.Cells w.Key := ⟨_, rfl⟩
 obtain ⟨al, hal⟩ : ∃ al, ws ++ hWs s.Held = al := ⟨_, rfl⟩
 have hall : al.length ≤ 800000 - s.Cells.length := by rw [← hal, G2]; omega
 rw [hal]
 refine B7 Tryz.func236 rfl Tryz.ntmps236 rfl ?_
 refine R3 ?_
 intro b2
 refine R4 ?_
 refine O8 9 1 rfl rfl rfl rfl F4 ?_
 intro v5
 refine R10 ?_
 refine J7 [(1, _), (2, _), (4, _), (15, _), (16, _)] _ (fun (i : Nat) (v : Value) => i ≤ s.Cells.length) (fun (i : Nat) (v : Value) => [.arr v 9 1 ((putAllS (g7 (s.Cells.take i)) []).map fun s => [AV.str s])]) (fun (i : Nat) (v : Value) => [(5, AV.is v), (17, AV.int i)]) (fun (i : Nat) (v : Value) => s.Cells.length - i) (0) (v5) ?_ (I8 B0 ⟨rfl, rfl, rfl, rfl, rfl, rfl, rfl, trivial⟩) ?_
 ·exact Nat.zero_le _
 intro i v hinv
 refine R5 ?_
 refine A8 (A0 rfl) ?_ ?_
 ·intro h18
  have k18 := of_decide_eq_true h18; try simp only [A5] at k18
  have hlt : i < s.Cells.length := by omega
  obtain ⟨c, hx⟩ := get_some hlt
  have hpl := AI2 (g7 (s.Cells.take i)) []
  unfold g7 at hpl
  simp only [A5, H2, N1] at hpl
  refine R5 ?_
  refine A4 rfl (C7 rfl H7 Q0 (A0 rfl) (A0 rfl) hx qz4) ?_
  refine R2 ?_
  intro b7
  refine R6 ?_
  refine E4 [1] rfl rfl rfl rfl Tryz.call148 rfl (AB1 v (putAllS (g7 (s.Cells.take i)) []) c.Key (AC3 List.Pairwise.nil).1 (by unfold g7; omega)) (A1 (A0 rfl) (A1 (A0 rfl) A7)) rfl ?_
  intro x24 ok24
  refine R6 ?_
  refine G9 i v (i + 1) (x24) ?_ ?_ (Le.trans (C1 [1, 0] rfl) (E3 1 (by exact congrArg (fun z => Own.arr _ 9 1 (List.map (fun s => [AV.str s]) z) :: _) (by unfold g7; rw [List.take_add_one, hx, List.map_append]; exact (AN5 _ _ _).symm)) ⟨rfl, rfl, rfl, rfl, rfl, rfl, rfl, trivial⟩))
  ·omega
  omega
 intro h18
 have k18 := of_decide_eq_false h18; try simp only [A5] at k18
 have hge : s.Cells.length ≤ i := by omega
 rw [List.take_of_length_le hge]
 refine R3 ?_
 refine N8 rfl rfl rfl rfl C0 E9 ?_
 intro v26
 refine R1 ?_
 refine G0 (by' := 40) 0 rfl rfl rfl rfl C0 Tryz.type47 rfl rfl rfl rfl rfl rfl (A0 rfl) (A0 rfl) rfl Ai7 ?_
 intro v28_1
 refine R11 ?_
 refine T8 [(2, _), (4, _), (5, _), (30, _), (31, _)] _ (fun (q : Nat) (u : Value) (a : List A9) => q ≤ s.Held.length ∧ a = ws ++ hWs (s.Held.take q)) (fun (q : Nat) (u : Value) (a : List A9) => [.arr u 47 3 (a.map A9.cs)]) (fun (q : Nat) (u : Value) (a : List A9) => [(8, AV.is u), (32, AV.int q)]) (fun (q : Nat) (u : Value) (a : List A9) => s.Held.length - q) (0) (v28_1) (ws) ?_ (I8 B0 ⟨rfl, rfl, rfl, rfl, rfl, rfl, rfl, trivial⟩) ?_
 ·exact ⟨Nat.zero_le _, by rw [List.take_zero]; exact (List.append_nil _).symm⟩
 intro q u a hinv
 refine R5 ?_
 refine A8 (A0 rfl) ?_ ?_
 ·intro h33
  have k33 := of_decide_eq_true h33; try simp only [A5] at k33
  have hlt : q < s.Held.length := by omega
  obtain ⟨h, hx⟩ := get_some hlt
  obtain ⟨g1, g2, g3, g4, g5⟩ := AL9 hs2 hx
  have hwt := Bp7 s.Held q
  have hal9 : a.length ≤ 800000 := by (rw [hinv.2, G2]; omega)
  refine R5 ?_
  refine A4 rfl (C7 rfl J1 O7 (A0 rfl) (A0 rfl) hx qz4) ?_
  refine R2 ?_
  intro b10
  refine R6 ?_
  refine G0 (by' := 40) 1 rfl rfl rfl rfl C0 Tryz.type47 rfl rfl rfl rfl rfl rfl (A0 rfl) (A0 rfl) rfl (by simp only [G2, A5]; omega) ?_
  intro v39_2
  refine R6 ?_
  refine N7 q u a (q + 1) (v39_2) (a ++ h.Writes) ?_ ?_ (Le.trans (C1 [0, 0] rfl) (E3 1 Ab1 ⟨rfl, rfl, rfl, rfl, rfl, rfl, rfl, trivial⟩))
  ·exact ⟨by omega, by rw [hinv.2, hWs_take hx, List.append_assoc]⟩
  omega
 intro h33
 have k33 := of_decide_eq_false h33; try simp only [A5] at k33
 have hge : s.Held.length ≤ q := by omega
 have ha9 : a = al := by (rw [hinv.2, List.take_of_length_le hge, hal])
 subst ha9
 refine R9 ?_
 refine AWP.le (C1 [1] rfl) ?_
 refine T8 [(2, _), (41, _), (42, _)] _ (fun (r : Nat) (v2 : Value) (ks : List Str) => r ≤ a.length ∧ a.all p = (a.drop r).all p ∧ ks = putAllS (g7 s.Cells ++ M2 (a.take r)) []) (fun (r : Nat) (v2 : Value) (ks : List Str) => [.arr v2 9 1 (ks.map fun s => [AV.str s])]) (fun (r : Nat) (v2 : Value) (ks : List Str) => [(5, AV.is v2), (43, AV.int r)]) (fun (r : Nat) (v2 : Value) (ks : List Str) => a.length - r) (0) (v) (putAllS (g7 s.Cells) []) ?_ (I8 B0 ⟨rfl, rfl, rfl, rfl, rfl, trivial⟩) ?_
 ·exact ⟨Nat.zero_le _, rfl, by rw [List.take_zero]; exact congrArg (fun z => putAllS z []) (List.append_nil _).symm⟩
 intro r v2 ks hinv
 refine R5 ?_
 refine A8 (A0 rfl) ?_ ?_
 ·intro h44
  have k44 := of_decide_eq_true h44; try simp only [A5] at k44
  have hlt : r < a.length := by omega
  obtain ⟨w, hx⟩ := get_some hlt
  obtain ⟨c, hc0⟩ := at_some s.Cells w.Key
  have hfu := fullC_at (l := s.Cells) (k := w.Key) (c := c) (fun h9 => (hc0 h9).2)
  have hpl := AI2 (g7 s.Cells ++ M2 (a.take r)) []
  unfold g7 M2 at hpl
  simp only [G2, A5, H2, N1] at hpl
  refine R5 ?_
  refine A4 rfl (D7 1 rfl C0 E9 (A0 rfl) rfl (A0 rfl) qz8 (by try simp only [A5]; omega)) ?_
  refine A4 rfl (X5 1 rfl (A0 rfl) rfl Tryz.isAgg47 E9 (by rw [Int.toNat_natCast, List.getElem?_map, hx]; rfl) D0) ?_
  refine R1 ?_
  intro b12
  refine R7 ?_
  refine E4 [1] rfl rfl rfl rfl Tryz.call148 rfl (AB1 v2 ks w.Key (by rw [hinv.2.2]; exact (AC3 List.Pairwise.nil).1) (by rw [hinv.2.2]; unfold g7 M2; omega)) (A1 (A0 rfl) (A1 (A0 rfl) A7)) rfl ?_
  intro x50 ok50
  refine R8 ?_
  refine A4 rfl (B2 rfl Tryz.call216 rfl (At2 _ _) (A1 (A0 rfl) (A1 (A0 rfl) A7))) ?_
  refine R10 ?_
  refine L3 rfl (fun hc => AA6 rfl H7 Q0 (B1 rfl hc) (B1 rfl hc) (by have h9 := of_decide_eq_true hc; obtain ⟨⟨p9, e1, e2⟩, _⟩ := hc0 qz8; have := (List.getElem?_eq_some_iff.1 e2).1; omega) (by have h9 := of_decide_eq_true hc; obtain ⟨⟨p9, e1, e2⟩, _⟩ := hc0 qz8; rw [e1, Int.toNat_natCast, List.getElem?_map, e2]; rfl)) ?_
  refine R6 ?_
  refine A8 (A0 rfl) ?_ ?_
  ·intro h67
   have hpw : p w = false := by (rw [hp]; simp only [Bool.not_eq_false']; rw [hfu]; rw [A5] at h67; exact h67)
   have hro : room s.Cells a = false := by (unfold room; rw [show (a.all fun w => !fullC s.Cells w.Key) = false from by rw [← hp, hinv.2.1, drop_some hx, List.all_cons, hpw]; rfl]; rfl)
   refine R5 ?_
   exact D5 rfl (A6 rfl qz152)
  intro h67
  have hpw : p w = true := by (rw [hp]; simp only [Bool.not_eq_true']; rw [hfu]; rw [A5] at h67; exact h67)
  refine R5 ?_
  refine N7 r v2 ks (r + 1) (x50) (putS ks w.Key) ?_ ?_ (Le.trans (C1 [1, 0] rfl) (E3 1 B0 ⟨rfl, rfl, rfl, rfl, rfl, trivial⟩))
  ·exact ⟨by omega, by rw [hinv.2.1, drop_some hx, List.all_cons, hpw]; rfl, by rw [hinv.2.2]; unfold M2; rw [List.take_add_one, hx, List.map_append, ← List.append_assoc]; exact (AN5 _ _ _).symm⟩
  omega
 intro h44
 have k44 := of_decide_eq_false h44; try simp only [A5] at k44
 have hge : a.length ≤ r := by omega
 have hks := hinv.2.2
 rw [List.take_of_length_le hge] at hks
 have hro : room s.Cells a = decide (ks.length ≤ 24) := by (unfold room roomKs; rw [← hp, hinv.2.1, List.drop_eq_nil_of_le hge, BU2, ← hks]; rfl)
 refine R9 ?_
 exact D5 rfl (A6 rfl qz152)
theorem CA8 (s : G6) (ws : List A9) (hs : s.size ≤ 400000) (hw : sizeL A9.size ws ≤ 400000) : B9 Tryz.prog 236 [AV.agg s.cs, AV.list 3 (ws.map A9.cs)] (AV.bool (room s.Cells (ws ++ hWs s.Held))) := by
  have hsum : sizeL C4.size s.Cells + sizeL E7.size s.Held ≤ 400000 := by have h9 : s.size = sizeL C4.size s.Cells + sizeL E7.size s.Held + s.Told.length := rfl; omega
  have hcl := L7 (f := C4.size) (l := s.Cells)
  have hwl := L7 (f := A9.size) (l := ws)
  have hhl := BP9 (l := s.Held)
  exact BJ2 s ws qz8 qz8
theorem BW5 : ∀ {l : List E7}, (∀ h ∈ l, goodRec (hRec h) = true) → (hWs l).length ≤ 400 * l.length
  | [], _ => Nat.le_refl _
  | h :: l, hg => by
    have ih := BW5 fun k hk => hg k (List.mem_cons_of_mem h hk)
    have h1 := AJ6 (hg h List.mem_cons_self)
    have h4 := L7 (f := A9.size) (l := h.Writes)
    have h2 : (hRec h).size = sizeL (fun x => x.length) h.Reads + sizeL A9.size h.Writes := rfl
    rw [BD8, G2, H6]; omega
theorem CA9 {s : G6} (h : allB s.Held.length (heldAt s) = true) : ∀ k ∈ s.Held, goodRec (hRec k) = true := fun k hk => by
  obtain ⟨i, hi⟩ := List.getElem?_of_mem hk
  have h9 := AZ4.1 h i (List.getElem?_eq_some_iff.1 hi).1
  unfold heldAt at h9
  rw [hi] at h9
  simp only [Bool.and_eq_true] at h9
  exact h9.1.1.1.1
theorem AE9 (s : G6) (n : Int) (hlen : s.Held.length ≤ 1048576) : B9 Tryz.prog 219 [AV.agg s.cs, AV.int n] (AV.tup [AV.agg (heldFO s.Held n).1.cs, AV.bool (heldFO s.Held n).2]) := by
 obtain ⟨l, hl⟩ : ∃ l, s.Held = l := ⟨_, rfl⟩
 have hcs : s.cs = [AV.int s.Floor, AV.list 2 (s.Cells.map C4.cs), AV.list 5 (l.map E7.cs), AV.list 3 (s.Told.map M1.cs)] := by rw [← hl]; rfl
 rw [hl] at hlen
 rw [hl, hcs]
 refine B7 Tryz.func219 rfl Tryz.ntmps219 rfl ?_
 refine R3 ?_
 intro b2
 refine R1 ?_
 intro b4
 refine R11 ?_
 refine E5 [(1, _), (4, _), (9, _), (10, _)] _ (fun (i : Nat) => i ≤ l.length ∧ ∀ j y, j < i → l[j]? = some y → (y.Txn == n) = false) (fun (i : Nat) => []) (fun (i : Nat) => [(11, AV.int i)]) (fun (i : Nat) => l.length - i) (0) ?_ (F2 ⟨rfl, rfl, rfl, rfl, rfl, trivial⟩) ?_
 ·exact ⟨Nat.zero_le _, fun j y hj => by omega⟩
 intro i hinv
 refine R5 ?_
 refine A8 (A0 rfl) ?_ ?_
 ·intro h12
  have k12 := of_decide_eq_true h12; try simp only [A5] at k12
  have hlt : i < l.length := by omega
  obtain ⟨x, hx⟩ := get_some hlt
  refine R5 ?_
  refine A4 rfl (C7 rfl J1 O7 (A0 rfl) (A0 rfl) hx qz4) ?_
  refine R2 ?_
  intro b7
  refine R9 ?_
  refine A8 (A0 rfl) ?_ ?_
  ·intro h18
   have k18 := D2 h18; try simp only [A5] at k18
   have he : heldFO l n = (x, true) := by (unfold heldFO findH; rw [An3 hx h18 hinv.2])
   rw [he]
   refine R7 ?_
   exact W6 rfl D0 (B6 (G7 (ys := _) 1 rfl rfl Tryz.isAgg252 O7 rfl) (B6 (A6 rfl B0) E8))
  intro h18
  have k18 := D6 h18; try simp only [A5] at k18
  refine R5 ?_
  refine F3 i (i + 1) ?_ ?_ (O3 1 ⟨rfl, rfl, rfl, rfl, rfl, trivial⟩)
  ·exact ⟨by omega, fun j y hj hy => if hji : j < i then hinv.2 j y hji hy else qz185⟩
  omega
 intro h12
 have k12 := of_decide_eq_false h12; try simp only [A5] at k12
 have hge : l.length ≤ i := by omega
 have he : heldFO l n = (zHeld, false) := by (unfold heldFO findH; rw [Bi6 fun j y hy => hinv.2 j y (Nat.lt_of_lt_of_le (List.getElem?_eq_some_iff.1 hy).1 hge) hy])
 rw [he]
 refine R8 ?_
 refine Af0 0 3 1 rfl rfl ?_
 refine Af0 0 4 3 rfl rfl ?_
 exact W6 rfl D0 (B6 (G7 (ys := _) 0 rfl rfl Tryz.isAgg252 O7 rfl) (B6 (A6 rfl B0) E8))
theorem m3 (s : G6) (n : Int) (hlen : s.Told.length ≤ 1048576) : B9 Tryz.prog 147 [AV.agg s.cs, AV.int n] (AV.tup [AV.agg (toldFO s.Told n).1.cs, AV.bool (toldFO s.Told n).2]) := by
 obtain ⟨l, hl⟩ : ∃ l, s.Told = l := ⟨_, rfl⟩
 have hcs : s.cs = [AV.int s.Floor, AV.list 2 (s.Cells.map C4.cs), AV.list 5 (s.Held.map E7.cs), AV.list 3 (l.map M1.cs)] := by rw [← hl]; rfl
 rw [hl] at hlen
 rw [hl, hcs]
 refine B7 Tryz.func147 rfl Tryz.ntmps147 rfl ?_
 refine R3 ?_
 intro b2
 refine R1 ?_
 intro b4
 refine R11 ?_
 refine E5 [(1, _), (4, _), (9, _), (10, _)] _ (fun (i : Nat) => i ≤ l.length ∧ ∀ j y, j < i → l[j]? = some y → (y.Txn == n) = false) (fun (i : Nat) => []) (fun (i : Nat) => [(11, AV.int i)]) (fun (i : Nat) => l.length - i) (0) ?_ (F2 ⟨rfl, rfl, rfl, rfl, rfl, trivial⟩) ?_
 ·exact ⟨Nat.zero_le _, fun j y hj => by omega⟩
 intro i hinv
 refine R5 ?_
 refine A8 (A0 rfl) ?_ ?_
 ·intro h12
  have k12 := of_decide_eq_true h12; try simp only [A5] at k12
  have hlt : i < l.length := by omega
  obtain ⟨x, hx⟩ := get_some hlt
  refine R5 ?_
  refine A4 rfl (C7 rfl K8 Q8 (A0 rfl) (A0 rfl) hx qz4) ?_
  refine R2 ?_
  intro b7
  refine R9 ?_
  refine A8 (A0 rfl) ?_ ?_
  ·intro h18
   have k18 := D2 h18; try simp only [A5] at k18
   have he : toldFO l n = (x, true) := by (unfold toldFO findT; rw [An3 hx h18 hinv.2])
   rw [he]
   refine R7 ?_
   exact W6 rfl D0 (B6 (G7 (ys := _) 1 rfl rfl Tryz.isAgg148 Q8 rfl) (B6 (A6 rfl B0) E8))
  intro h18
  have k18 := D6 h18; try simp only [A5] at k18
  refine R5 ?_
  refine F3 i (i + 1) ?_ ?_ (O3 1 ⟨rfl, rfl, rfl, rfl, rfl, trivial⟩)
  ·exact ⟨by omega, fun j y hj hy => if hji : j < i then hinv.2 j y hji hy else qz185⟩
  omega
 intro h12
 have k12 := of_decide_eq_false h12; try simp only [A5] at k12
 have hge : l.length ≤ i := by omega
 have he : toldFO l n = (zTold, false) := by (unfold toldFO findT; rw [Bi6 fun j y hy => hinv.2 j y (Nat.lt_of_lt_of_le (List.getElem?_eq_some_iff.1 hy).1 hge) hy])
 rw [he]
 refine R8 ?_
 exact W6 rfl D0 (B6 (G7 (ys := _) 0 rfl rfl Tryz.isAgg148 Q8 rfl) (B6 (A6 rfl B0) E8))
theorem Ba1 (s : G6) (ho : z9 s.Cells) (hcl : s.Cells.length ≤ 400000) (hs : s.size ≤ 1048576) : B9 Tryz.prog 255 [AV.agg s.cs] (AV.bool (areHeld s)) := by
 obtain ⟨hs1, hs2, hs3, hs4, hs5⟩ := u6 hs
 refine B7 Tryz.func255 rfl Tryz.ntmps255 rfl ?_
 refine R3 ?_
 intro b1
 refine R11 ?_
 refine E5 [(1, _), (10, _), (11, _)] _ (fun (i : Nat) => i ≤ s.Held.length ∧ ∀ j, j < i → heldAt s j = true) (fun (i : Nat) => []) (fun (i : Nat) => [(12, AV.int i)]) (fun (i : Nat) => s.Held.length - i) (0) ?_ (F2 ⟨rfl, rfl, rfl, rfl, trivial⟩) ?_
 ·exact ⟨Nat.zero_le _, fun j hj => by omega⟩
 intro i hinv
 refine R5 ?_
 refine A8 (A0 rfl) ?_ ?_
 ·intro h13
  have k13 := of_decide_eq_true h13; try simp only [A5] at k13
  have hlt : i < s.Held.length := by omega
  obtain ⟨h, hx⟩ := get_some hlt
  obtain ⟨y, hy⟩ := get_some (show i - 1 < s.Held.length by omega)
  obtain ⟨g1, g2, g3, g4, g5⟩ := AL9 hs2 hx
  have hinv0 := hinv
  refine R6 ?_
  refine A4 rfl (C7 rfl J1 O7 (A0 rfl) (A0 rfl) hx qz4) ?_
  refine R2 ?_
  intro b4
  refine R7 ?_
  refine C2 rfl rfl (B2 rfl Tryz.call256 rfl (Ba0 _) (A1 (A0 rfl) A7)) ?_
  refine C2 rfl rfl (B2 rfl Tryz.call226 rfl (BA0 _ T0) (A1 (A0 rfl) A7)) ?_
  refine R16 ?_
  refine M6 rfl (V1 rfl rfl rfl) (fun hc => C7 rfl J1 O7 (B1 rfl hc) (B1 rfl hc) hy qz6) ?_
  refine R8 ?_
  refine A8 (A0 rfl) ?_ ?_
  ·intro h43
   have hfin : areHeld s = false := by (unfold areHeld; rw [AN8 hlt (by rw [AW5 hx hy, h43]; rfl)]; rfl)
   refine R5 ?_
   exact D5 rfl (A6 rfl qz59)
  intro h43
  refine R7 ?_
  refine A4 rfl (j0 rfl J1 O7 (A0 rfl) (A0 rfl) qz4 qz4) ?_
  refine R4 ?_
  refine E5 [(1, _), (3, _), (4, _), (10, _), (11, _), (12, _), (13, _), (14, _), (15, _), (16, _), (17, _), (18, _), (19, _), (20, _), (21, _), (27, _), (28, _), (43, _), (44, _), (45, _), (46, _), (47, _), (48, _)] _ (fun (q : Nat) => q ≤ (s.Held.take i).length ∧ ((s.Held.take i).all fun g => apart g h.Reads h.Writes) = (((s.Held.take i).drop q).all fun g => apart g h.Reads h.Writes)) (fun (q : Nat) => []) (fun (q : Nat) => [(49, AV.int q)]) (fun (q : Nat) => (s.Held.take i).length - q) (0) ?_ (F2 ⟨rfl, rfl, rfl, rfl, rfl, rfl, rfl, rfl, rfl, rfl, rfl, rfl, rfl, rfl, rfl, rfl, rfl, rfl, rfl, rfl, rfl, rfl, rfl, rfl, trivial⟩) ?_
  ·exact ⟨Nat.zero_le _, rfl⟩
  intro q hinv
  refine R5 ?_
  refine A8 (A0 rfl) ?_ ?_
  ·intro h50
   have k50 := of_decide_eq_true h50; try simp only [A5] at k50
   have hlt2 : q < (s.Held.take i).length := by (simp only [H2, A5, Int.toNat_natCast] at k50 ⊢; omega)
   obtain ⟨k, hx2⟩ := get_some hlt2
   refine R5 ?_
   refine A4 rfl (C7 rfl J1 O7 (A0 rfl) (A0 rfl) hx2 qz4) ?_
   refine R2 ?_
   intro b6
   refine R9 ?_
   refine A4 rfl (B2 rfl Tryz.call235 rfl (apart_spec _ _ _) (A1 (A0 rfl) (A1 (A0 rfl) (A1 (A0 rfl) A7)))) ?_
   refine R2 ?_
   refine A8 (A0 rfl) ?_ ?_
   ·intro h59
    have hfin : areHeld s = false := by (unfold areHeld; rw [AN8 hlt (by rw [AW5 hx hy, hinv.2, drop_some hx2, List.all_cons, show apart k h.Reads h.Writes = false by simpa using h59]; simp)]; rfl)
    refine R5 ?_
    exact D5 rfl (A6 rfl qz59)
   intro h59
   refine R5 ?_
   refine F3 q (q + 1) ?_ ?_ (O3 1 ⟨rfl, rfl, rfl, rfl, rfl, rfl, rfl, rfl, rfl, rfl, rfl, rfl, rfl, rfl, rfl, rfl, rfl, rfl, rfl, rfl, rfl, rfl, rfl, rfl, trivial⟩)
   ·exact ⟨by omega, by rw [hinv.2, drop_some hx2, List.all_cons, show apart k h.Reads h.Writes = true by simpa using h59]; rfl⟩
   omega
  intro h50
  have k50 := of_decide_eq_false h50; try simp only [A5] at k50
  have hge2 : (s.Held.take i).length ≤ q := by (simp only [H2, A5, Int.toNat_natCast] at k50 ⊢; omega)
  have hap : ((s.Held.take i).all fun g => apart g h.Reads h.Writes) = true := by (rw [hinv.2, List.drop_eq_nil_of_le hge2]; rfl)
  refine R9 ?_
  refine E5 [(1, _), (3, _), (4, _), (10, _), (11, _), (12, _), (13, _), (14, _), (15, _), (16, _), (17, _), (18, _), (19, _), (20, _), (21, _), (27, _), (28, _), (43, _), (44, _), (45, _), (46, _), (47, _), (48, _), (49, _), (50, _), (61, _), (62, _), (63, _)] _ (fun (r : Nat) => r ≤ h.Writes.length ∧ (h.Writes.all fun w => decide (lastTime s.Cells w.Key < h.Time)) = ((h.Writes.drop r).all fun w => decide (lastTime s.Cells w.Key < h.Time))) (fun (r : Nat) => []) (fun (r : Nat) => [(64, AV.int r)]) (fun (r : Nat) => h.Writes.length - r) (0) ?_ (F2 ⟨rfl, rfl, rfl, rfl, rfl, rfl, rfl, rfl, rfl, rfl, rfl, rfl, rfl, rfl, rfl, rfl, rfl, rfl, rfl, rfl, rfl, rfl, rfl, rfl, rfl, rfl, rfl, rfl, rfl, trivial⟩) ?_
  ·exact ⟨Nat.zero_le _, rfl⟩
  intro r hinv
  refine R5 ?_
  refine A8 (A0 rfl) ?_ ?_
  ·intro h65
   have k65 := of_decide_eq_true h65; try simp only [A5] at k65
   have hlt3 : r < h.Writes.length := by omega
   obtain ⟨w, hw⟩ := get_some hlt3
   refine R5 ?_
   refine A4 rfl (C7 rfl C0 E9 (A0 rfl) (A0 rfl) hw qz4) ?_
   refine R2 ?_
   intro b8
   refine R8 ?_
   refine C2 rfl rfl (B2 rfl Tryz.call237 rfl (Af5 _ _ (by first | assumption | exact AE5 (by rw [i3]; assumption)) T0) (A1 (A0 rfl) (A1 (A0 rfl) A7))) ?_
   refine R4 ?_
   refine A8 (A0 rfl) ?_ ?_
   ·intro h75
    have k75 := of_decide_eq_true h75; try simp only [A5] at k75
    have hfin : areHeld s = false := by (unfold areHeld; rw [AN8 hlt (by rw [AW5 hx hy, hinv.2, drop_some hw, List.all_cons, decide_eq_false (show ¬ lastTime s.Cells w.Key < h.Time by omega)]; simp)]; rfl)
    refine R5 ?_
    exact D5 rfl (A6 rfl qz59)
   intro h75
   have k75 := of_decide_eq_false h75; try simp only [A5] at k75
   refine R5 ?_
   refine F3 r (r + 1) ?_ ?_ (O3 1 ⟨rfl, rfl, rfl, rfl, rfl, rfl, rfl, rfl, rfl, rfl, rfl, rfl, rfl, rfl, rfl, rfl, rfl, rfl, rfl, rfl, rfl, rfl, rfl, rfl, rfl, rfl, rfl, rfl, rfl, trivial⟩)
   ·exact ⟨by omega, by rw [hinv.2, drop_some hw, List.all_cons, decide_eq_true (show lastTime s.Cells w.Key < h.Time by omega)]; rfl⟩
   omega
  intro h65
  have k65 := of_decide_eq_false h65; try simp only [A5] at k65
  have hge3 : h.Writes.length ≤ r := by omega
  have hlw : (h.Writes.all fun w => decide (lastTime s.Cells w.Key < h.Time)) = true := by (rw [hinv.2, List.drop_eq_nil_of_le hge3]; rfl)
  refine R5 ?_
  refine F3 i (i + 1) ?_ ?_ (O3 1 ⟨rfl, rfl, rfl, rfl, trivial⟩)
  ·exact ⟨by omega, fun j hj => if hji : j < i then hinv0.2 j hji else (by have e : j = i := qz8; subst e; rw [AW5 hx hy, h43, hap, hlw]; rfl)⟩
  omega
 intro h13
 have k13 := of_decide_eq_false h13; try simp only [A5] at k13
 have hge : s.Held.length ≤ i := by omega
 have hall : allB s.Held.length (heldAt s) = true := AZ4.2 fun j hj => hinv.2 j qz8
 refine R9 ?_
 refine L3 rfl (fun hc => B2 rfl Tryz.call236 rfl (BJ2 s [] hs (by (have h9 := BW5 (CA9 hall); have h8 := of_decide_eq_true hc; simp only [A5] at h8; simp only [N1]; omega))) (A1 (B1 rfl hc) (A1 P8 A7))) ?_
 refine R4 ?_
 exact D5 rfl (A6 rfl qz59)
theorem BJ3 (s : G6) (hs : s.size ≤ 1048576) : B9 Tryz.prog 253 [AV.agg s.cs] (AV.bool (goodState s)) := by
 obtain ⟨hs1, hs2, hs3, hs4, hs5⟩ := u6 hs
 refine B7 Tryz.func253 rfl Tryz.ntmps253 rfl ?_
 refine R3 ?_
 intro b1
 refine R7 ?_
 refine A4 rfl (B2 rfl Tryz.call67 rfl (Af4 _) (A1 (A0 rfl) A7)) ?_
 refine R4 ?_
 refine P4 rfl (fun hc => B2 rfl Tryz.call238 rfl (Az8 _ T0) (A1 (B1 rfl hc) A7)) ?_
 refine R4 ?_
 refine P4 rfl (fun hc => B2 rfl Tryz.call255 rfl (Ba1 s (AE5 (by have h9 := hc; simp at h9; rw [i3]; exact h9.2)) (by have h9 := hc; simp at h9; have h8 := (i4 (by rw [i3]; exact h9.2)).1; omega) hs) (A1 (B1 rfl hc) A7)) ?_
 refine R9 ?_
 refine A8 (A0 rfl) ?_ ?_
 ·intro h29
  have hfin : goodState s = false := by (unfold goodState; simp only [Bool.or_eq_true, Bool.not_eq_true', decide_eq_true_eq, A5] at h29; rcases h29 with ((h | h) | h) | h; (rw [h]; rfl); (rw [i3, h]; simp); (rw [h]; simp); (rw [decide_eq_false (show ¬ s.Told.length ≤ 60 by omega)]; simp))
  refine R5 ?_
  exact D5 rfl (A6 rfl Ab2)
 intro h29
 simp only [Bool.or_eq_false_iff, Bool.not_eq_false', decide_eq_false_iff_not, A5] at h29
 obtain ⟨⟨⟨q1, q2⟩, q3⟩, q4⟩ := h29
 have hco := AE5 (by rw [i3]; exact q2)
 have hgs : goodState s = ((s.Cells.all fun c => decide (lastTime s.Cells c.Key ≤ s.Floor)) && allB s.Told.length (toldAt s)) := by (unfold goodState; rw [q1, i3, q2, q3, decide_eq_true (show s.Told.length ≤ 60 by omega)]; simp)
 refine R10 ?_
 refine E5 [(1, _), (31, _), (32, _)] _ (fun (i : Nat) => i ≤ s.Cells.length ∧ (s.Cells.all fun c => decide (lastTime s.Cells c.Key ≤ s.Floor)) = ((s.Cells.drop i).all fun c => decide (lastTime s.Cells c.Key ≤ s.Floor))) (fun (i : Nat) => []) (fun (i : Nat) => [(33, AV.int i)]) (fun (i : Nat) => s.Cells.length - i) (0) ?_ (F2 ⟨rfl, rfl, rfl, rfl, trivial⟩) ?_
 ·exact ⟨Nat.zero_le _, rfl⟩
 intro i hinv
 refine R5 ?_
 refine A8 (A0 rfl) ?_ ?_
 ·intro h34
  have k34 := of_decide_eq_true h34; try simp only [A5] at k34
  have hlt : i < s.Cells.length := by omega
  obtain ⟨c, hx⟩ := get_some hlt
  refine R5 ?_
  refine A4 rfl (C7 rfl H7 Q0 (A0 rfl) (A0 rfl) hx qz4) ?_
  refine R2 ?_
  intro b4
  refine R8 ?_
  refine C2 rfl rfl (B2 rfl Tryz.call237 rfl (Af5 _ _ (by first | assumption | exact AE5 (by rw [i3]; assumption)) T0) (A1 (A0 rfl) (A1 (A0 rfl) A7))) ?_
  refine R4 ?_
  refine A8 (A0 rfl) ?_ ?_
  ·intro h44
   have k44 := of_decide_eq_true h44; try simp only [A5] at k44
   have hfin : goodState s = false := by (rw [hgs, hinv.2, drop_some hx, List.all_cons, decide_eq_false (show ¬ lastTime s.Cells c.Key ≤ s.Floor by omega)]; rfl)
   refine R5 ?_
   exact D5 rfl (A6 rfl Ab2)
  intro h44
  have k44 := of_decide_eq_false h44; try simp only [A5] at k44
  refine R5 ?_
  refine F3 i (i + 1) ?_ ?_ (O3 1 ⟨rfl, rfl, rfl, rfl, trivial⟩)
  ·exact ⟨by omega, by rw [hinv.2, drop_some hx, List.all_cons, decide_eq_true (show lastTime s.Cells c.Key ≤ s.Floor by omega)]; rfl⟩
  omega
 intro h34
 have k34 := of_decide_eq_false h34; try simp only [A5] at k34
 have hge : s.Cells.length ≤ i := by omega
 have hgs2 : goodState s = allB s.Told.length (toldAt s) := by (rw [hgs, hinv.2, List.drop_eq_nil_of_le hge]; rfl)
 refine R10 ?_
 refine E5 [(1, _), (47, _), (48, _)] _ (fun (q : Nat) => q ≤ s.Told.length ∧ ∀ j, j < q → toldAt s j = true) (fun (q : Nat) => []) (fun (q : Nat) => [(49, AV.int q)]) (fun (q : Nat) => s.Told.length - q) (0) ?_ (F2 ⟨rfl, rfl, rfl, rfl, trivial⟩) ?_
 ·exact ⟨Nat.zero_le _, fun j hj => by omega⟩
 intro q hinv
 refine R5 ?_
 refine A8 (A0 rfl) ?_ ?_
 ·intro h50
  have k50 := of_decide_eq_true h50; try simp only [A5] at k50
  have hlt : q < s.Told.length := by omega
  obtain ⟨t, hx⟩ := get_some hlt
  obtain ⟨y, hy⟩ := get_some (show q - 1 < s.Told.length by omega)
  refine R6 ?_
  refine A4 rfl (C7 rfl K8 Q8 (A0 rfl) (A0 rfl) hx qz4) ?_
  refine R2 ?_
  intro b6
  refine R8 ?_
  refine C2 rfl rfl (B2 rfl Tryz.call30 rfl (N5 _ _ _) (A1 (A0 rfl) (A1 D8 (A1 D8 A7)))) ?_
  refine R9 ?_
  refine M6 rfl (V1 rfl rfl rfl) (fun hc => C7 rfl K8 Q8 (B1 rfl hc) (B1 rfl hc) hy qz6) ?_
  refine R15 ?_
  refine M6 rfl (V1 rfl rfl rfl) (fun hc => B2 rfl Tryz.call30 rfl (N5 _ _ _) (A1 (B1 rfl hc) (A1 D8 (A1 (B1 rfl hc) A7)))) ?_
  refine R14 ?_
  refine A8 (A0 rfl) ?_ ?_
  ·intro h95
   have hfin : goodState s = false := by (rw [hgs2]; exact AN8 hlt (by rw [An2 hx hy, h95]; rfl))
   refine R5 ?_
   exact D5 rfl (A6 rfl Ab2)
  intro h95
  refine R6 ?_
  refine A4 rfl (B2 rfl Tryz.call219 rfl (AE9 _ _ T0) (A1 (A0 rfl) (A1 (A0 rfl) A7))) ?_
  refine R4 ?_
  intro b7
  refine R7 ?_
  refine A8 (A0 rfl) ?_ ?_
  ·intro h103
   have hfin : goodState s = false := by (rw [hgs2]; exact AN8 hlt (by rw [An2 hx hy, ← At6, h103]; simp))
   refine R5 ?_
   exact D5 rfl (A6 rfl Ab2)
  intro h103
  refine R5 ?_
  refine F3 q (q + 1) ?_ ?_ (O3 2 ⟨rfl, rfl, rfl, rfl, trivial⟩)
  ·exact ⟨by omega, fun j hj => if hji : j < q then hinv.2 j hji else (by have e : j = q := qz8; subst e; rw [An2 hx hy, h95, ← At6, h103]; rfl)⟩
  omega
 intro h50
 have k50 := of_decide_eq_false h50; try simp only [A5] at k50
 have hge : s.Told.length ≤ q := by omega
 have hfin : goodState s = true := by (rw [hgs2]; exact AZ4.2 fun j hj => hinv.2 j qz8)
 refine R6 ?_
 exact D5 rfl (A6 rfl Ab2)
end Go.Proofs.YtcfkbhnpfjjmjaaGreat
namespace Go.Proofs.YtcfkbhnpfjjmjaaGreat
open Go Go.AV Go.M
attribute [local irreducible] OpW OpA OpS AWP B9 J5 C8 OpE RetOk H1 I9 Le Ev F6 J9
theorem Ba2 (w : A9) : B9 Tryz.prog 92 [AV.agg w.cs] (AV.bool w.Gone) := by
  refine B7 Tryz.func92 rfl Tryz.ntmps92 rfl ?_
  refine R3 ?_
  intro b1
  refine R9 ?_
  exact D5 rfl (A6 rfl U6)
theorem Bi7 (v : Value) (l : List A9) (w : A9) (hl : l.length ≤ 4194303) : C8 Tryz.prog 90 [AV.is v, AV.agg w.cs] [.arr v 47 3 (l.map A9.cs)] (fun _ : Value => True) (fun v => [.arr v 47 3 ((putW l w).map A9.cs)]) (fun v => AV.is v) := by
 have hle := Bu7 l w.Key
 refine C3 Tryz.func90 rfl Tryz.ntmps90 rfl ?_
 refine R3 ?_
 intro b3
 refine A4 rfl (D4 rfl F4) ?_
 refine R6 ?_
 refine A4 rfl (AG1 rfl Tryz.call47 rfl (AQ5 l w.Key qz8) (BC8 (D3 (L5 _ _) (D3 (W9 _) M4))) (T2 (AX2 1 (A0 rfl) rfl) (T2 (evb (A0 rfl)) i0))) ?_
 refine R11 ?_
 refine A8 (A0 rfl) ?_ ?_
 ·intro h14
  obtain ⟨y, hy, _⟩ := AQ0.1 h14
  have hlt := (List.getElem?_eq_some_iff.1 hy).1
  have he : putW l w = l.set (wPos l w.Key) w := by unfold putW; rw [if_pos h14]
  rw [he]
  refine R5 ?_
  refine A4 rfl (D7 1 rfl C0 E9 (A0 rfl) rfl (A0 rfl) qz8 Bd3) ?_
  refine N3 1 rfl rfl rfl (A0 rfl) (A0 rfl) (U4 _) rfl E9 rfl Bd3 ?_
  refine R7 ?_
  exact G1 [1] v (trivial) rfl (by first | rfl | exact congrArg (fun z => [Own.arr _ 47 3 z]) List.map_set) (E6 rfl (A6 rfl U6))
 intro h14
 have he : putW l w = l.take (wPos l w.Key) ++ w :: l.drop (wPos l w.Key) := by unfold putW; rw [if_neg (by rw [h14]; decide)]
 rw [he]
 refine R6 ?_
 refine Bx5 rfl rfl rfl rfl C0 E9 Tryz.zeroValue47 rfl rfl rfl rfl (E0 (A0 rfl) (U4 _) T9) rfl rfl ?_
 intro v23
 refine E4 [2, 0] rfl rfl rfl rfl Tryz.call119 rfl (BI7 _ _ l w (wPos l w.Key) hle qz8) (A1 (A0 rfl) (A1 (A0 rfl) (A1 (A0 rfl) A7))) rfl ?_
 intro x24 ok24
 refine R3 ?_
 exact G1 [0] x24 (trivial) rfl (by first | rfl | exact congrArg (fun z => [Own.arr _ 47 3 z]) List.map_set) (E6 rfl (A6 rfl U6))
theorem Bp8 (l ws : List A9) (hl : l.length ≤ 2097151) (hw : ws.length ≤ 2097152) : C8 Tryz.prog 62 [AV.list 3 (l.map A9.cs), AV.list 3 (ws.map A9.cs)] [] (fun _ : Value => True) (fun v => [.arr v 47 3 ((putRows l ws).1.map A9.cs)]) (fun v => AV.tup [AV.is v, AV.bool (putRows l ws).2]) := by
 refine C3 Tryz.func62 rfl Tryz.ntmps62 rfl ?_
 refine R2 ?_
 refine A4 rfl (D4 rfl F4) ?_
 refine R5 ?_
 refine E4 [] rfl rfl rfl rfl Tryz.call89 rfl (BI6 l qz8) (A1 (A0 rfl) A7) rfl ?_
 intro x10 ok10
 refine R10 ?_
 refine J7 [(4, _), (5, _), (11, _), (12, _)] _ (fun (i : Nat) (v : Value) => i ≤ ws.length) (fun (i : Nat) (v : Value) => [.arr v 47 3 ((putL l (ws.take i)).map A9.cs)]) (fun (i : Nat) (v : Value) => [(6, AV.is v), (13, AV.int i)]) (fun (i : Nat) (v : Value) => ws.length - i) (0) (x10) ?_ (I8 B0 ⟨rfl, rfl, rfl, rfl, rfl, rfl, trivial⟩) ?_
 ·exact Nat.zero_le _
 intro i v hinv
 refine R5 ?_
 refine A8 (A0 rfl) ?_ ?_
 ·intro h14
  have k14 := of_decide_eq_true h14; try simp only [A5] at k14
  have hlt : i < ws.length := by omega
  obtain ⟨x, hx⟩ := get_some hlt
  have hpl := BD5 (ws.take i) l
  rw [H2] at hpl
  refine R5 ?_
  refine A4 rfl (C7 rfl C0 E9 (A0 rfl) (A0 rfl) hx qz4) ?_
  refine R2 ?_
  intro b8
  refine R5 ?_
  refine E4 [1] rfl rfl rfl rfl Tryz.call90 rfl (Bi7 _ _ x qz8) (A1 (A0 rfl) (A1 (A0 rfl) A7)) rfl ?_
  intro x19 ok19
  refine R6 ?_
  refine G9 i v (i + 1) (x19) ?_ ?_ (Le.trans (C1 [1] rfl) (E3 1 (by rw [show putL l (ws.take (i + 1)) = putW (putL l (ws.take i)) x from by rw [List.take_add_one, hx]; exact CF4 _ _ _]; rfl) ⟨rfl, rfl, rfl, rfl, rfl, rfl, trivial⟩))
  ·omega
  omega
 intro h14
 have k14 := of_decide_eq_false h14; try simp only [A5] at k14
 have hge : ws.length ≤ i := by omega
 rw [List.take_of_length_le hge]
 have hpl := BD5 ws l
 refine R4 ?_
 refine E4 [0] rfl rfl rfl rfl Tryz.call91 rfl (Ap6 _ _ _ _ (fun _ _ => trivial) qz8) (A1 (A0 rfl) (A1 (BO6 Tryz.call92 (fun w (_ : True) => Ba2 w)) A7)) rfl ?_
 intro x22 ok22
 refine R9 ?_
 refine A8 (A0 rfl) ?_ ?_
 ·intro h25
  have k25 := of_decide_eq_true h25; try simp only [A5] at k25
  have he : putRows l ws = ([], false) := by unfold putRows q6; rw [if_pos (by simpa using k25)]
  rw [he]
  refine R2 ?_
  refine A4 rfl (D4 rfl F4) ?_
  refine R3 ?_
  refine W7 47 3 ?_
  exact G1 [0] (Value.slice none 0 0) (trivial) rfl B0 (N4 rfl D0 (B6 (A6 rfl B0) (B6 (A6 rfl B0) E8)))
 intro h25
 have k25 := of_decide_eq_false h25; try simp only [A5] at k25
 have he : putRows l ws = (q6 (putL l ws), true) := by unfold putRows q6; rw [if_neg (by simpa using k25)]
 rw [he]
 refine R8 ?_
 exact G1 [0] x22 (trivial) rfl B0 (N4 rfl D0 (B6 (A6 rfl B0) (B6 (A6 rfl B0) E8)))
theorem BJ4 (l : List A9) (w : A9) (hl : l.length ≤ 4194303) : C8 Tryz.prog 132 [AV.list 3 (l.map A9.cs), AV.agg w.cs] [] (fun _ : Value => True) (fun v => [.arr v 47 3 ((putWS l w).map A9.cs)]) (fun v => AV.is v) := by
 refine C3 Tryz.func132 rfl Tryz.ntmps132 rfl ?_
 refine R3 ?_
 intro b3
 refine A4 rfl (D4 rfl F4) ?_
 refine R9 ?_
 rw [show (List.map A9.cs l).length = l.length from A5 _]
 refine E5 [(0, _), (3, _), (4, _)] _ (fun (i : Int) => 0 ≤ i ∧ i ≤ l.length ∧ scanW l w.Key l.length = scanW l w.Key i.toNat) (fun (i : Int) => []) (fun (i : Int) => [(5, AV.int i)]) (fun (i : Int) => i.toNat) (l.length) ?_ (F2 ⟨rfl, rfl, rfl, rfl, trivial⟩) ?_
 ·exact ⟨by omega, by omega, rfl⟩
 intro i hinv
 obtain ⟨y, hy⟩ := AL6 l (i - 1).toNat
 refine R9 ?_
 refine M6 rfl (O4 rfl rfl rfl) (fun hc => C7 rfl C0 E9 (B1 rfl hc) (B1 rfl hc) (hy qz6) qz6) ?_
 refine R4 ?_
 refine M6 rfl (O4 rfl rfl rfl) (fun hc => BG1 rfl (B1 rfl hc) (B1 rfl hc)) ?_
 refine R2 ?_
 refine A8 (A0 rfl) ?_ ?_
 ·intro h22
  have hb : 0 < i ∧ Op.bytesLess w.Key y.Key = true := by rw [Ax5] at h22; simpa using h22
  have hst : scanW l w.Key l.length = scanW l w.Key (i - 1).toNat := by rw [hinv.2.2]; obtain ⟨n, rfl⟩ : ∃ n : Nat, i = n + 1 := ⟨(i - 1).toNat, by omega⟩; rw [show ((n : Int) + 1).toNat = n + 1 by omega, show ((n : Int) + 1 - 1).toNat = n by omega]; exact By1 (by have := hy qz8; rwa [show ((n : Int) + 1 - 1).toNat = n by omega] at this) hb.2
  refine R7 ?_
  refine AD6 ?_
  refine F3 i (i - 1) ?_ ?_ (F2 ⟨rfl, rfl, rfl, rfl, trivial⟩)
  ·exact ⟨by omega, by omega, hst⟩
  omega
 intro h22
 obtain ⟨k, rfl⟩ : ∃ k : Nat, i = k := ⟨i.toNat, by omega⟩
 have hk : scanW l w.Key l.length = k := by rw [hinv.2.2, Int.toNat_natCast]; rw [Ax5] at h22; rcases Nat.eq_zero_or_pos k with h0 | h0; subst h0; rfl; (obtain ⟨n, rfl⟩ : ∃ n, k = n + 1 := ⟨k - 1, by omega⟩; exact By2 (by have := hy qz8; rwa [show (((n + 1 : Nat) : Int) - 1).toNat = n by omega] at this) Ai1)
 have hh : BR9 l w.Key k = (decide (0 < k) && (y.Key == w.Key)) := by rcases Nat.eq_zero_or_pos k with h0 | h0; subst h0; rfl; (obtain ⟨n, rfl⟩ : ∃ n, k = n + 1 := ⟨k - 1, by omega⟩; have h9 := hy qz8; rw [show (((n + 1 : Nat) : Int) - 1).toNat = n by omega] at h9; simp [BR9, h9])
 refine R10 ?_
 refine M6 rfl (O4 rfl rfl rfl) (fun hc => C7 rfl C0 E9 (B1 rfl hc) (B1 rfl hc) (hy qz6) qz6) ?_
 refine R7 ?_
 refine A8 (A0 rfl) ?_ ?_
 ·intro h37
  have hb : 0 < k ∧ y.Key = w.Key := by simpa using h37
  have he : putWS l w = l.set (k - 1) w := by unfold putWS; rw [hk, if_pos (by rw [hh]; simp [hb])]
  rw [he]
  refine R2 ?_
  refine N8 rfl rfl rfl rfl C0 E9 ?_
  intro v38
  refine R1 ?_
  refine G0 (by' := 40) 0 rfl rfl rfl rfl C0 Tryz.type47 rfl rfl rfl rfl rfl rfl (A0 rfl) (A0 rfl) rfl qz4 ?_
  intro v40_1
  refine R8 ?_
  refine A4 rfl (D7 0 rfl C0 E9 (A0 rfl) rfl (A0 rfl) qz8 (by simp only [List.nil_append, A5]; omega)) ?_
  refine N3 0 rfl rfl rfl (A0 rfl) (A0 rfl) (U4 _) rfl E9 rfl (by simp only [List.nil_append, A5]; omega) ?_
  refine R7 ?_
  exact G1 [0] v40_1 (trivial) rfl qz123 (E6 rfl (A6 rfl U6))
 intro h37
 have he : putWS l w = l.take k ++ w :: l.drop k := by unfold putWS; rw [hk, if_neg (by rw [hh]; simpa using h37)]
 rw [he]
 refine R3 ?_
 refine N8 rfl rfl rfl rfl C0 E9 ?_
 intro v47
 refine R2 ?_
 refine A4 rfl (AL4 rfl C0 E9 (A0 rfl) (A0 rfl) qz4 qz4) ?_
 refine G0 (by' := 40) 0 rfl rfl rfl rfl C0 Tryz.type47 rfl rfl rfl rfl rfl rfl (A0 rfl) (A0 rfl) rfl Aq1 ?_
 intro v51_2
 refine AS2 (f0 [0] 51 rfl rfl (J3 (C6 (i := 0) rfl) F5) M9) ?_
 refine R3 ?_
 refine M7 _ [(1, false), (2, false), (3, false), (5, false), (6, false), (8, false), (0, true), (4, true), (7, true), (9, true)] F1 F1 rfl AE0 ?_
 refine R2 ?_
 refine M8 rfl rfl rfl (fun ext => j0 rfl C0 E9 (A0 rfl) (A0 rfl) qz4 qz4) ?_
 refine R3 ?_
 refine S1 rfl rfl rfl (a8 rfl C0 E9) (fun a _ => qz3) ?_
 intro v52 _
 refine S1 rfl rfl rfl (J8 (by' := 40) 1 rfl C0 Tryz.type47 rfl rfl rfl rfl rfl rfl (A0 rfl) (A0 rfl) rfl Aq1) (fun a _ => qz3) ?_
 intro v56_3 _
 refine S1 rfl rfl rfl (J8 (by' := 40) 1 rfl C0 Tryz.type47 rfl rfl rfl rfl rfl rfl (A0 rfl) (A0 rfl) rfl Aq1) (fun a _ => qz3) ?_
 intro v59_4 _
 refine S1 rfl rfl rfl (J8 (by' := 40) 1 rfl C0 Tryz.type47 rfl rfl rfl rfl rfl rfl (A0 rfl) (A0 rfl) rfl Aq1) (fun a _ => qz3) ?_
 intro v61_5 _
 refine R4 ?_
 exact G1 [1] v61_5 (trivial) rfl qz123 (E6 rfl (A6 rfl U6))
theorem Ba3 (l ws : List A9) (hl : l.length ≤ 2097151) (hw : ws.length ≤ 2097152) : C8 Tryz.prog 106 [AV.list 3 (l.map A9.cs), AV.list 3 (ws.map A9.cs)] [] (fun _ : Value => True) (fun v => [.arr v 47 3 ((q6 (putLS l ws)).map A9.cs)]) (fun v => AV.is v) := by
 refine C3 Tryz.func106 rfl Tryz.ntmps106 rfl ?_
 refine R2 ?_
 refine A4 rfl (D4 rfl F4) ?_
 refine R3 ?_
 refine N8 rfl rfl rfl rfl C0 E9 ?_
 intro v11
 refine R1 ?_
 refine G0 (by' := 40) 0 rfl rfl rfl rfl C0 Tryz.type47 rfl rfl rfl rfl rfl rfl (A0 rfl) (A0 rfl) rfl qz4 ?_
 intro v13_1
 refine R10 ?_
 refine J7 [(4, _), (14, _), (15, _)] _ (fun (i : Nat) (v : Value) => i ≤ ws.length) (fun (i : Nat) (v : Value) => [.arr v 47 3 ((putLS l (ws.take i)).map A9.cs)]) (fun (i : Nat) (v : Value) => [(5, AV.is v), (16, AV.int i)]) (fun (i : Nat) (v : Value) => ws.length - i) (0) (v13_1) ?_ (I8 B0 ⟨rfl, rfl, rfl, rfl, rfl, trivial⟩) ?_
 ·exact Nat.zero_le _
 intro i v hinv
 refine R5 ?_
 refine A8 (A0 rfl) ?_ ?_
 ·intro h17
  have k17 := of_decide_eq_true h17; try simp only [A5] at k17
  have hlt : i < ws.length := by omega
  obtain ⟨x, hx⟩ := get_some hlt
  have hpl := Ar7 (ws.take i) l
  rw [H2] at hpl
  refine R5 ?_
  refine A4 rfl (C7 rfl C0 E9 (A0 rfl) (A0 rfl) hx qz4) ?_
  refine R2 ?_
  intro b7
  refine R5 ?_
  refine AT3 [] rfl rfl rfl rfl Tryz.call132 rfl (BJ4 (putLS l (ws.take i)) x qz8) rfl (T2 (AX2 1 (A0 rfl) rfl) (T2 (evb (A0 rfl)) i0)) qz0 qz0 qz0 ?_
  intro x22 ok22
  refine R6 ?_
  refine G9 i v (i + 1) (x22) ?_ ?_ (Le.trans (C1 [1, 1] rfl) (E3 2 (by rw [show putLS l (ws.take (i + 1)) = putWS (putLS l (ws.take i)) x from by rw [List.take_add_one, hx]; exact By3 _ _ _]; rfl) ⟨rfl, rfl, rfl, rfl, rfl, trivial⟩))
  ·omega
  omega
 intro h17
 have k17 := of_decide_eq_false h17; try simp only [A5] at k17
 have hge : ws.length ≤ i := by omega
 rw [List.take_of_length_le hge]
 have hpl := Ar7 ws l
 refine R2 ?_
 refine AWP.le (f0 [0] 5 rfl rfl (J3 (C6 (i := 0) rfl) F5) M9) ?_
 refine R1 ?_
 refine O8 47 3 rfl rfl rfl rfl F4 ?_
 intro v8
 refine R9 ?_
 refine J7 [(4, _), (24, _), (25, _)] _ (fun (i : Nat) (v : Value) => i ≤ (putLS l ws).length) (fun (i : Nat) (v : Value) => [.arr v 47 3 (((putLS l ws).take i).filter (fun w => !w.Gone) |>.map A9.cs)]) (fun (i : Nat) (v : Value) => [(8, AV.is v), (26, AV.int i)]) (fun (i : Nat) (v : Value) => (putLS l ws).length - i) (0) (v8) ?_ (I8 B0 ⟨rfl, rfl, rfl, rfl, rfl, trivial⟩) ?_
 ·exact Nat.zero_le _
 intro i v hinv
 refine R5 ?_
 refine A8 (A0 rfl) ?_ ?_
 ·intro h27
  have k27 := of_decide_eq_true h27; try simp only [A5] at k27
  have hlt : i < (putLS l ws).length := by omega
  obtain ⟨x, hx⟩ := get_some hlt
  have hfl : (((putLS l ws).take i).filter (fun w : A9 => !w.Gone)).length ≤ 4194304 := Nat.le_trans (List.length_filter_le _ _) r6
  refine R5 ?_
  refine A4 rfl (C7 rfl C0 E9 (A0 rfl) (A0 rfl) hx qz4) ?_
  refine R2 ?_
  intro b10
  refine R8 ?_
  refine A8 (A0 rfl) ?_ ?_
  ·intro h32
   refine R4 ?_
   refine G0 (by' := 40) 1 rfl rfl rfl rfl C0 Tryz.type47 rfl rfl rfl rfl rfl rfl (A0 rfl) (A0 rfl) rfl qz4 ?_
   intro v36_2
   refine R6 ?_
   refine G9 i v (i + 1) (v36_2) ?_ ?_ (Le.trans (C1 [0] rfl) (E3 1 qz115 ⟨rfl, rfl, rfl, rfl, rfl, trivial⟩))
   ·omega
   omega
  intro h32
  refine R5 ?_
  refine G9 i v (i + 1) (v) ?_ ?_ (Le.trans (C1 [0] rfl) (E3 1 qz115 ⟨rfl, rfl, rfl, rfl, rfl, trivial⟩))
  ·omega
  omega
 intro h27
 have k27 := of_decide_eq_false h27; try simp only [A5] at k27
 have hge : (putLS l ws).length ≤ i := by omega
 rw [List.take_of_length_le hge]
 refine R7 ?_
 exact G1 [0] (v) (trivial) rfl B0 (E6 rfl (A6 rfl B0))
theorem Ah4 (l ws : List A9) (hl : l.length ≤ 2097151) (hw : ws.length ≤ 2097152) : B9 Tryz.prog 106 [AV.list 3 (l.map A9.cs), AV.list 3 (ws.map A9.cs)] (AV.list 3 ((q6 (putLS l ws)).map A9.cs)) :=
  K2 (Ba3 l ws hl hw) fun x _ => J3 (C6 (i := 0) rfl) F5
end Go.Proofs.YtcfkbhnpfjjmjaaGreat
namespace Go.Proofs.YtcfkbhnpfjjmjaaGreat
open Go Go.AV Go.M
attribute [local irreducible] OpW OpA OpS AWP B9 J5 C8 OpE RetOk H1 I9 Le Ev F6
end Go.Proofs.YtcfkbhnpfjjmjaaGreat
namespace Go.Proofs.YtcfkbhnpfjjmjaaGreat
open Go Go.AV Go.M
attribute [local irreducible] OpW OpA OpS AWP B9 J5 C8 OpE RetOk H1 I9 Le Ev F6 J9
theorem Bi8 (a b : Int) : B9 Tryz.prog 208 [AV.int a, AV.int b] (AV.int (Aa7 a b)) := by
 refine B7 Tryz.func208 rfl Tryz.ntmps208 rfl ?_
 refine R11 ?_
 refine A8 (A0 rfl) ?_ ?_
 ·intro h7
  have k7 := of_decide_eq_true h7; try simp only [A5] at k7
  have he : Aa7 a b = a := by unfold Aa7; rw [if_pos k7]
  rw [he]
  refine R6 ?_
  exact D5 rfl (A6 rfl U6)
 intro h7
 have k7 := of_decide_eq_false h7; try simp only [A5] at k7
 have he : Aa7 a b = b := by unfold Aa7; rw [if_neg k7]
 rw [he]
 refine R7 ?_
 exact D5 rfl (A6 rfl U6)
end Go.Proofs.YtcfkbhnpfjjmjaaGreat
namespace Go.M
open Go.AV
structure SO (s : G6) : Prop where
  floor : 0 ≤ s.Floor
  cells : z9 s.Cells
  hsort : s.Held.Pairwise fun a b => a.Txn < b.Txn
  tsort : s.Told.Pairwise fun a b => a.Txn < b.Txn
  times : ∀ h ∈ s.Held, 1 ≤ h.Time
theorem gs_so {s : G6} (g : GS s) : SO s := ⟨g.floor.1, AE5 g.cells, g.hsort, g.tsort, fun h hm => (CA7 g hm).1⟩
theorem Bv7 {t : Int} : ∀ {w : List A9} {l q : List C4}, z9 l → putAll l w t = some q → z9 q
  | [], l, q, h, e => by simp [putAll] at e; subst e; exact h
  | x :: w, l, q, h, e => by
    unfold putAll at e
    split at e
    · cases e
    · exact Bv7 (AI4 h _ _) e
theorem so_apply {s : G6} (g : SO s) {r : L2} (h : (applyS s r).2 = true) : SO (applyS s r).1 := by
  have h0 := g.floor
  have hless : SO ⟨s.Floor, s.Cells, lessH s.Held r.Txn, s.Told⟩ := ⟨h0, g.cells, g.hsort.sublist List.filter_sublist, g.tsort, fun k hk => g.times k (AE6.1 hk).1⟩
  unfold applyS at h ⊢
  by_cases h4 : r.Kind = 4
  · rw [if_pos h4] at h ⊢
    have := of_decide_eq_true h
    exact ⟨by dsimp only; omega, g.cells, g.hsort, g.tsort, g.times⟩
  · rw [if_neg h4] at h ⊢
    by_cases hT : hasT s.Told r.Txn = true
    · rw [if_pos hT] at h; cases h
    · rw [if_neg hT] at h ⊢
      rw [Bool.not_eq_true] at hT
      have htn := BE0.1 hT
      have htl : (insT ⟨r.Txn, r.Yes, r.Time⟩ s.Told).Pairwise fun a b => a.Txn < b.Txn := As5 g.tsort htn
      by_cases h1 : r.Kind = 1
      · rw [if_pos h1] at h ⊢
        simp only [Bool.and_eq_true, Bool.not_eq_true', decide_eq_true_eq] at h
        refine ⟨by dsimp only; omega, g.cells, As4 g.hsort (AK7.1 h.1.1), g.tsort, fun k hk => ?_⟩
        rcases AK6.1 hk with rfl | hk
        · show 1 ≤ r.Time; omega
        · exact g.times k hk
      · rw [if_neg h1] at h ⊢
        by_cases hy : r.Yes = true
        · rw [if_pos hy] at h ⊢
          cases hf : findH s.Held r.Txn with
          | none => rw [hf] at h; cases h
          | some k =>
            rw [hf] at h
            dsimp only at h ⊢
            by_cases hlt : r.Time < k.Time
            · rw [if_pos hlt] at h; cases h
            · rw [if_neg hlt] at h ⊢
              by_cases hp : (putP s.Cells k.Writes r.Time).2 = true
              · rw [if_pos hp]
                exact ⟨by unfold AH4; dsimp only; split <;> omega, Bv7 g.cells (BP3 hp).1, hless.hsort, htl, hless.times⟩
              · rw [if_neg hp] at h; cases h
        · rw [if_neg hy]
          exact ⟨h0, g.cells, hless.hsort, htl, hless.times⟩
theorem so_step {s : G6} (g : SO s) (r : L2) : SO (r4 s r) := by
  unfold r4
  split
  · exact so_apply g ‹_›
  · exact g
theorem so_zero : SO d6 := gs_so Ax6
theorem Bv8 : ∀ {l : List L2} {s : G6}, SO s → SO (stFrom s l)
  | [], s, g => g
  | r :: l, s, g => by
    show SO (stFrom (r4 s r) l)
    exact Bv8 (so_step g r)
theorem Ac9 {l : List E7} {i : Nat} {h : E7} {n : Int} (hx : l[i]? = some h) : lessH (l.take (i + 1)) n = if (h.Txn != n) = true then lessH (l.take i) n ++ [h] else lessH (l.take i) n := by
  unfold lessH
  rw [List.take_add_one, hx, List.filter_append]
  show _ ++ List.filter _ [h] = _
  split
  · rename_i e; rw [List.filter_cons_of_pos (p := fun h : E7 => h.Txn != n) e]; rfl
  · rename_i e; rw [List.filter_cons_of_neg (p := fun h : E7 => h.Txn != n) e]; simp
end Go.M
namespace Go.Proofs.YtcfkbhnpfjjmjaaGreat
open Go Go.AV Go.M
attribute [local irreducible] OpW OpA OpS AWP B9 J5 C8 OpE RetOk H1 I9 Le Ev F6 J9 Int.tmod Int.tdiv IntKind.wrap
theorem BJ5 (s : G6) (rs : List Str) (ws : List A9) (hs : s.size ≤ 400000) (hw : sizeL A9.size ws ≤ 400000) : B9 Tryz.prog 221 [AV.agg s.cs, strs rs, AV.list 3 (ws.map A9.cs)] (AV.bool (fits s rs ws)) := by
 obtain ⟨hs1, hs2, hs3, hs4, hs5⟩ := u6 hs
 have hrm : room s.Cells (ws ++ hWs s.Held) = room s.Cells (hWs s.Held ++ ws) := BU6 fun w => by rw [List.mem_append, List.mem_append, or_comm]
 refine B7 Tryz.func221 rfl Tryz.ntmps221 rfl ?_
 refine R3 ?_
 intro b3
 refine R11 ?_
 refine E5 [(1, _), (2, _), (3, _), (10, _), (11, _)] _ (fun (i : Nat) => i ≤ s.Held.length ∧ (s.Held.all fun h => apart h rs ws) = ((s.Held.drop i).all fun h => apart h rs ws)) (fun (i : Nat) => []) (fun (i : Nat) => [(12, AV.int i)]) (fun (i : Nat) => s.Held.length - i) (0) ?_ (F2 ⟨rfl, rfl, rfl, rfl, rfl, rfl, trivial⟩) ?_
 ·exact ⟨Nat.zero_le _, rfl⟩
 intro i hinv
 refine R5 ?_
 refine A8 (A0 rfl) ?_ ?_
 ·intro h13
  have k13 := of_decide_eq_true h13; try simp only [A5] at k13
  have hlt : i < s.Held.length := by omega
  obtain ⟨h, hx⟩ := get_some hlt
  refine R5 ?_
  refine A4 rfl (C7 rfl J1 O7 (A0 rfl) (A0 rfl) hx qz4) ?_
  refine R2 ?_
  intro b8
  refine R7 ?_
  refine A4 rfl (B2 rfl Tryz.call235 rfl (apart_spec _ _ _) (A1 (A0 rfl) (A1 (A0 rfl) (A1 (A0 rfl) A7)))) ?_
  refine R2 ?_
  refine A8 (A0 rfl) ?_ ?_
  ·intro h20
   have hfin : fits s rs ws = false := by (unfold fits; rw [hinv.2, drop_some hx, List.all_cons, show apart h rs ws = false by simpa using h20]; rfl)
   refine R5 ?_
   exact D5 rfl (A6 rfl qz133)
  intro h20
  refine R5 ?_
  refine F3 i (i + 1) ?_ ?_ (O3 1 ⟨rfl, rfl, rfl, rfl, rfl, rfl, trivial⟩)
  ·exact ⟨by omega, by rw [hinv.2, drop_some hx, List.all_cons, show apart h rs ws = true by simpa using h20]; rfl⟩
  omega
 intro h13
 have k13 := of_decide_eq_false h13; try simp only [A5] at k13
 have hge : s.Held.length ≤ i := by omega
 have hap : (s.Held.all fun h => apart h rs ws) = true := by (rw [hinv.2, List.drop_eq_nil_of_le hge]; rfl)
 refine R10 ?_
 refine L3 rfl (fun hc => B2 rfl Tryz.call236 rfl (CA8 _ _ T0 T0) (A1 (B1 rfl hc) (A1 (B1 rfl hc) A7))) ?_
 refine R4 ?_
 exact D5 rfl (A6 rfl qz133)
theorem Bp9 (h : E7) (hs : h.size ≤ 1048576) : C8 Tryz.prog 234 [AV.agg h.cs] [] (fun _ : Value × Value => True) (fun x => E7.ow h x) (fun x => AV.agg (E7.ocs h x)) := by
  have h3 := L7 (f := fun x : Str => x.length) (l := h.Reads)
  have h4 := L7 (f := A9.size) (l := h.Writes)
  have h5 : h.size = sizeL (fun x => x.length) h.Reads + sizeL A9.size h.Writes := rfl
  refine C3 Tryz.func234 rfl Tryz.ntmps234 rfl ?_
  refine R3 ?_
  intro b1
  refine R1 ?_
  intro b2
  refine R5 ?_
  refine E4 [] rfl rfl rfl rfl Tryz.call163 rfl (AW4 h.Reads qz8) (A1 (A0 rfl) A7) rfl ?_
  intro x5 ok5
  refine R1 ?_
  refine S4 0 rfl fun one_x5 => ?_
  refine P6 2 rfl rfl rfl (A0 rfl) (A0 rfl) (M0 one_x5) rfl d5 rfl ?_
  refine R3 ?_
  refine N8 rfl rfl rfl rfl C0 E9 ?_
  intro v7
  refine R2 ?_
  refine G0 (by' := 40) 0 rfl rfl rfl rfl C0 Tryz.type47 rfl rfl rfl rfl rfl rfl (A0 rfl) (A0 rfl) rfl Ai7 ?_
  intro v10_1
  refine R1 ?_
  refine S4 0 rfl fun one_v10_1 => ?_
  refine P6 3 rfl rfl rfl (A0 rfl) (A0 rfl) (M0 one_v10_1) rfl Tryz.sizeOf34 rfl ?_
  refine R7 ?_
  exact G1 [1, 0] (x5, v10_1) (trivial) rfl B0 (E6 rfl (G7 (ys := _) 2 rfl rfl Tryz.isAgg252 O7 rfl))
theorem Aa1 (h : E7) (hs : h.size ≤ 1048576) : B9 Tryz.prog 234 [AV.agg h.cs] (AV.agg h.cs) :=
  K2 (Bp9 h hs) fun x _ => AY6 (E7.lc h x)
theorem Bq0 (l : List C4) (hs : sizeL C4.size l ≤ 4194304) : B9 Tryz.prog 233 [AV.list 2 (l.map C4.cs)] (AV.list 2 (l.map C4.cs)) :=
  K2 (BW1 l hs) fun x h => Al1 C4.lcM h 0 rfl fun o ho => List.mem_cons_of_mem _ ho
theorem Bi9 (s : G6) (hs : s.size ≤ 1048576) : C8 Tryz.prog 218 [AV.agg s.cs] [] (fun _ : Value × Value => True) (fun x => G6.ow s x) (fun x => AV.agg (G6.ocs s x)) := by
 obtain ⟨hs1, hs2, hs3, hs4, hs5⟩ := u6 hs
 refine C3 Tryz.func218 rfl Tryz.ntmps218 rfl ?_
 refine R3 ?_
 intro b1
 refine R1 ?_
 intro b2
 refine R2 ?_
 refine P5 _ 11 (.pure 0 (.pure 1 (.pure 2 (.pure 3 (.pure 4 (.pure 6 (.pure 7 (.e2 5 (.e2 8 (.pure 9 (.e1 10 .nil)) 10 (.e1 8 (.pure 9 .nil))) 10 (.e1 5 (.e1 8 (.pure 9 .nil))))))))))) F1 F1 rfl AE0 ?_
 refine R4 ?_
 refine J0 rfl rfl rfl (fun ext => B2 rfl Tryz.call233 rfl (Bq0 s.Cells qz8) (A1 (A0 rfl) A7)) ?_
 refine R2 ?_
 refine c8 ?_ ?_
 ·refine E1 rfl rfl rfl (a8 rfl K8 Q8) (fun a _ => qz3) ?_
  intro v11 _
  refine c8 ?_ ?_
  ·refine E1 rfl rfl rfl (S6 2 (fun _ => rfl) (J8 (by' := 24) 2 rfl K8 Tryz.type148 rfl rfl rfl rfl rfl rfl (A0 rfl) (A0 rfl) rfl Ai7)) (fun a _ => qz3) ?_
   intro v14_1 hone_v14_1
   have one_v14_1 := hone_v14_1.2
   refine J0 rfl rfl rfl (fun ext => W8 (places := #[(0, 1), (1, 1), (2, 1), (3, 1)]) rfl d3 Tryz.zeroValue182 (fun w => by kernel_rfl) rfl (E0 (A0 rfl) (M5 _ _) (E0 (A0 rfl) (Y5 _ _) (E0 (A0 rfl) (M0 one_v14_1) T9))) rfl) ?_
   refine R1 ?_
   refine E1 rfl rfl rfl (Q6 rfl Tryz.zeroValue182 rfl) (fun a _ => qz3) ?_
   intro b3 _
   refine R12 ?_
   refine Z7 252 5 ?_
   refine AWP.le (C1 [4, 0] rfl) ?_
   refine J7 [(2, _), (3, _), (17, _), (18, _)] _ (fun (i : Nat) (v : Value) => i ≤ s.Held.length) (fun (i : Nat) (v : Value) => [.box b3 182 [AV.int s.Floor, AV.list 2 (s.Cells.map C4.cs), AV.is v, AV.is v14_1], .arr v 252 5 ((s.Held.take i).map E7.cs)]) (fun (i : Nat) (v : Value) => [(19, AV.int i)]) (fun (i : Nat) (v : Value) => s.Held.length - i) (0) ((Value.slice none 0 0)) ?_ (I8 B0 ⟨rfl, rfl, rfl, rfl, rfl, trivial⟩) ?_
   ·exact Nat.zero_le _
   intro i v hinv
   refine R5 ?_
   refine A8 (A0 rfl) ?_ ?_
   ·intro h20
    have k20 := of_decide_eq_true h20; try simp only [A5] at k20
    have hlt : i < s.Held.length := by omega
    obtain ⟨h, hx⟩ := get_some hlt
    obtain ⟨g1, g2, g3, g4, g5⟩ := AL9 hs2 hx
    refine R5 ?_
    refine A4 rfl (C7 rfl J1 O7 (A0 rfl) (A0 rfl) hx qz4) ?_
    refine R2 ?_
    intro b5
    refine R2 ?_
    refine L6 5 F1 F1 rfl ?_
    refine R3 ?_
    refine C2 rfl rfl (B2 rfl Tryz.call234 rfl (Aa1 _ T0) (A1 (A0 rfl) A7)) ?_
    refine R2 ?_
    refine G0 (by' := 72) 2 rfl rfl rfl rfl J1 Tryz.type252 rfl rfl rfl rfl rfl rfl (A0 rfl) (A0 rfl) rfl BB6 ?_
    intro v28_2
    refine R1 ?_
    refine S4 2 rfl fun one_v28_2 => ?_
    refine P6 1 rfl rfl rfl (A0 rfl) (A0 rfl) (M0 one_v28_2) rfl Tryz.sizeOf180 rfl ?_
    refine R5 ?_
    refine G9 i v (i + 1) (v28_2) ?_ ?_ (Le.trans (C1 [0, 0, 0] rfl) (E3 1 (by exact congrArg (fun z => Own.box b3 182 [AV.int s.Floor, AV.list 2 (s.Cells.map C4.cs), AV.is v28_2, AV.is v14_1] :: Own.arr v28_2 252 5 z :: _) (AJ3 (f := E7.cs) hx)) ⟨rfl, rfl, rfl, rfl, rfl, trivial⟩))
    ·omega
    omega
   intro h20
   have k20 := of_decide_eq_false h20; try simp only [A5] at k20
   have hge : i = s.Held.length := by omega
   rw [hge, List.take_length]
   refine R7 ?_
   exact G1 [1, 3] (v, v14_1) (trivial) rfl B0 (E6 rfl (G7 (ys := _) 2 rfl rfl U0 P3 rfl))
  refine E1 rfl rfl rfl (Q6 rfl Tryz.zeroValue182 rfl) (fun a _ => qz3) ?_
  intro b3 _
  refine R1 ?_
  refine E1 rfl rfl rfl (S6 2 (fun _ => rfl) (J8 (by' := 24) 2 rfl K8 Tryz.type148 rfl rfl rfl rfl rfl rfl (A0 rfl) (A0 rfl) rfl Ai7)) (fun a _ => qz3) ?_
  intro v14_3 hone_v14_3
  have one_v14_3 := hone_v14_3.2
  refine J0 rfl rfl rfl (fun ext => W8 (places := #[(0, 1), (1, 1), (2, 1), (3, 1)]) rfl d3 Tryz.zeroValue182 (fun w => by kernel_rfl) rfl (E0 (A0 rfl) (M5 _ _) (E0 (A0 rfl) (Y5 _ _) (E0 (A0 rfl) (M0 one_v14_3) T9))) rfl) ?_
  refine R12 ?_
  refine Z7 252 5 ?_
  refine AWP.le (C1 [4, 0] rfl) ?_
  refine J7 [(2, _), (3, _), (17, _), (18, _)] _ (fun (i : Nat) (v : Value) => i ≤ s.Held.length) (fun (i : Nat) (v : Value) => [.box b3 182 [AV.int s.Floor, AV.list 2 (s.Cells.map C4.cs), AV.is v, AV.is v14_3], .arr v 252 5 ((s.Held.take i).map E7.cs)]) (fun (i : Nat) (v : Value) => [(19, AV.int i)]) (fun (i : Nat) (v : Value) => s.Held.length - i) (0) ((Value.slice none 0 0)) ?_ (I8 B0 ⟨rfl, rfl, rfl, rfl, rfl, trivial⟩) ?_
  ·exact Nat.zero_le _
  intro i v hinv
  refine R5 ?_
  refine A8 (A0 rfl) ?_ ?_
  ·intro h20
   have k20 := of_decide_eq_true h20; try simp only [A5] at k20
   have hlt : i < s.Held.length := by omega
   obtain ⟨h, hx⟩ := get_some hlt
   obtain ⟨g1, g2, g3, g4, g5⟩ := AL9 hs2 hx
   refine R5 ?_
   refine A4 rfl (C7 rfl J1 O7 (A0 rfl) (A0 rfl) hx qz4) ?_
   refine R2 ?_
   intro b5
   refine R2 ?_
   refine L6 5 F1 F1 rfl ?_
   refine R3 ?_
   refine C2 rfl rfl (B2 rfl Tryz.call234 rfl (Aa1 _ T0) (A1 (A0 rfl) A7)) ?_
   refine R2 ?_
   refine G0 (by' := 72) 2 rfl rfl rfl rfl J1 Tryz.type252 rfl rfl rfl rfl rfl rfl (A0 rfl) (A0 rfl) rfl BB6 ?_
   intro v28_4
   refine R1 ?_
   refine S4 2 rfl fun one_v28_4 => ?_
   refine P6 1 rfl rfl rfl (A0 rfl) (A0 rfl) (M0 one_v28_4) rfl Tryz.sizeOf180 rfl ?_
   refine R5 ?_
   refine G9 i v (i + 1) (v28_4) ?_ ?_ (Le.trans (C1 [0, 0, 0] rfl) (E3 1 (by exact congrArg (fun z => Own.box b3 182 [AV.int s.Floor, AV.list 2 (s.Cells.map C4.cs), AV.is v28_4, AV.is v14_3] :: Own.arr v28_4 252 5 z :: _) (AJ3 (f := E7.cs) hx)) ⟨rfl, rfl, rfl, rfl, rfl, trivial⟩))
   ·omega
   omega
  intro h20
  have k20 := of_decide_eq_false h20; try simp only [A5] at k20
  have hge : i = s.Held.length := by omega
  rw [hge, List.take_length]
  refine R7 ?_
  exact G1 [1, 3] (v, v14_3) (trivial) rfl B0 (E6 rfl (G7 (ys := _) 2 rfl rfl U0 P3 rfl))
 refine E1 rfl rfl rfl (Q6 rfl Tryz.zeroValue182 rfl) (fun a _ => qz3) ?_
 intro b3 _
 refine R1 ?_
 refine E1 rfl rfl rfl (a8 rfl K8 Q8) (fun a _ => qz3) ?_
 intro v11 _
 refine R1 ?_
 refine E1 rfl rfl rfl (S6 3 (fun _ => rfl) (J8 (by' := 24) 3 rfl K8 Tryz.type148 rfl rfl rfl rfl rfl rfl (A0 rfl) (A0 rfl) rfl Ai7)) (fun a _ => qz3) ?_
 intro v14_5 hone_v14_5
 have one_v14_5 := hone_v14_5.2
 refine J0 rfl rfl rfl (fun ext => W8 (places := #[(0, 1), (1, 1), (2, 1), (3, 1)]) rfl d3 Tryz.zeroValue182 (fun w => by kernel_rfl) rfl (E0 (A0 rfl) (M5 _ _) (E0 (A0 rfl) (Y5 _ _) (E0 (A0 rfl) (M0 one_v14_5) T9))) rfl) ?_
 refine R12 ?_
 refine Z7 252 5 ?_
 refine AWP.le (C1 [3, 0] rfl) ?_
 refine J7 [(2, _), (3, _), (17, _), (18, _)] _ (fun (i : Nat) (v : Value) => i ≤ s.Held.length) (fun (i : Nat) (v : Value) => [.box b3 182 [AV.int s.Floor, AV.list 2 (s.Cells.map C4.cs), AV.is v, AV.is v14_5], .arr v 252 5 ((s.Held.take i).map E7.cs)]) (fun (i : Nat) (v : Value) => [(19, AV.int i)]) (fun (i : Nat) (v : Value) => s.Held.length - i) (0) ((Value.slice none 0 0)) ?_ (I8 B0 ⟨rfl, rfl, rfl, rfl, rfl, trivial⟩) ?_
 ·exact Nat.zero_le _
 intro i v hinv
 refine R5 ?_
 refine A8 (A0 rfl) ?_ ?_
 ·intro h20
  have k20 := of_decide_eq_true h20; try simp only [A5] at k20
  have hlt : i < s.Held.length := by omega
  obtain ⟨h, hx⟩ := get_some hlt
  obtain ⟨g1, g2, g3, g4, g5⟩ := AL9 hs2 hx
  refine R5 ?_
  refine A4 rfl (C7 rfl J1 O7 (A0 rfl) (A0 rfl) hx qz4) ?_
  refine R2 ?_
  intro b5
  refine R2 ?_
  refine L6 5 F1 F1 rfl ?_
  refine R3 ?_
  refine C2 rfl rfl (B2 rfl Tryz.call234 rfl (Aa1 _ T0) (A1 (A0 rfl) A7)) ?_
  refine R2 ?_
  refine G0 (by' := 72) 2 rfl rfl rfl rfl J1 Tryz.type252 rfl rfl rfl rfl rfl rfl (A0 rfl) (A0 rfl) rfl BB6 ?_
  intro v28_6
  refine R1 ?_
  refine S4 2 rfl fun one_v28_6 => ?_
  refine P6 1 rfl rfl rfl (A0 rfl) (A0 rfl) (M0 one_v28_6) rfl Tryz.sizeOf180 rfl ?_
  refine R5 ?_
  refine G9 i v (i + 1) (v28_6) ?_ ?_ (Le.trans (C1 [0, 0, 0] rfl) (E3 1 (by exact congrArg (fun z => Own.box b3 182 [AV.int s.Floor, AV.list 2 (s.Cells.map C4.cs), AV.is v28_6, AV.is v14_5] :: Own.arr v28_6 252 5 z :: _) (AJ3 (f := E7.cs) hx)) ⟨rfl, rfl, rfl, rfl, rfl, trivial⟩))
  ·omega
  omega
 intro h20
 have k20 := of_decide_eq_false h20; try simp only [A5] at k20
 have hge : i = s.Held.length := by omega
 rw [hge, List.take_length]
 refine R7 ?_
 exact G1 [1, 3] (v, v14_5) (trivial) rfl B0 (E6 rfl (G7 (ys := _) 2 rfl rfl U0 P3 rfl))
theorem Ba4 (s : G6) (hs : s.size ≤ 1048576) : B9 Tryz.prog 218 [AV.agg s.cs] (AV.agg s.cs) :=
  K2 (Bi9 s hs) fun x _ => AY6 (G6.lc s x)
theorem less_own (l : List E7) (n : Int) (hl : l.length ≤ 1048576) : C8 Tryz.prog 223 [AV.list 5 (l.map E7.cs), AV.int n] [] (fun _ : Value => True) (fun v => [.arr v 252 5 ((lessH l n).map E7.cs)]) (fun v => AV.is v) := by
 refine C3 Tryz.func223 rfl Tryz.ntmps223 rfl ?_
 refine R2 ?_
 refine A4 rfl (D4 rfl F4) ?_
 refine R3 ?_
 refine O8 252 5 rfl rfl rfl rfl F4 ?_
 intro v5
 refine R9 ?_
 refine T8 [(1, _), (4, _), (8, _), (9, _)] _ (fun (i : Nat) (v : Value) (q : List E7) => i ≤ l.length ∧ q = lessH (l.take i) n ∧ q.length ≤ i) (fun (i : Nat) (v : Value) (q : List E7) => [.arr v 252 5 (q.map E7.cs)]) (fun (i : Nat) (v : Value) (q : List E7) => [(5, AV.is v), (10, AV.int i)]) (fun (i : Nat) (v : Value) (q : List E7) => l.length - i) (0) (v5) ([]) ?_ (I8 B0 ⟨rfl, rfl, rfl, rfl, rfl, rfl, trivial⟩) ?_
 ·exact ⟨Nat.zero_le _, rfl, Nat.le_refl _⟩
 intro i v q hinv
 refine R5 ?_
 refine A8 (A0 rfl) ?_ ?_
 ·intro h11
  have k11 := of_decide_eq_true h11; try simp only [A5] at k11
  have hlt : i < l.length := by omega
  obtain ⟨h, hx⟩ := get_some hlt
  refine R5 ?_
  refine A4 rfl (C7 rfl J1 O7 (A0 rfl) (A0 rfl) hx qz4) ?_
  refine R2 ?_
  intro b7
  refine R9 ?_
  refine A8 (A0 rfl) ?_ ?_
  ·intro h17
   have k17 := AT0 h17; try simp only [A5] at k17
   refine R4 ?_
   refine G0 (by' := 72) 1 rfl rfl rfl rfl J1 Tryz.type252 rfl rfl rfl rfl rfl rfl (A0 rfl) (A0 rfl) rfl qz4 ?_
   intro v21_1
   refine R6 ?_
   refine N7 i v q (i + 1) (v21_1) (q ++ [h]) ?_ ?_ (Le.trans (C1 [0, 0] rfl) (E3 1 AX9 ⟨rfl, rfl, rfl, rfl, rfl, rfl, trivial⟩))
   ·first | exact ⟨by omega, by rw [Ac9 hx, if_pos h17, hinv.2.1], by rw [G2]; simp; omega⟩ | exact ⟨by omega, by rw [Ac9 hx, if_neg (by rw [h17]; decide), hinv.2.1], by omega⟩
   omega
  intro h17
  have k17 := s4 h17; try simp only [A5] at k17
  refine R5 ?_
  refine N7 i v q (i + 1) (v) (q) ?_ ?_ (Le.trans (C1 [0, 0] rfl) (E3 1 AX9 ⟨rfl, rfl, rfl, rfl, rfl, rfl, trivial⟩))
  ·first | exact ⟨by omega, by rw [Ac9 hx, if_pos h17, hinv.2.1], by rw [G2]; simp; omega⟩ | exact ⟨by omega, by rw [Ac9 hx, if_neg (by rw [h17]; decide), hinv.2.1], by omega⟩
  omega
 intro h11
 have k11 := of_decide_eq_false h11; try simp only [A5] at k11
 have hge : l.length ≤ i := by omega
 have hq := hinv.2.1
 rw [List.take_of_length_le hge] at hq
 rw [← hq]
 refine R7 ?_
 exact G1 [0] v (trivial) rfl B0 (E6 rfl (A6 rfl B0))
theorem BW6 (l : List E7) (n : Int) (hl : l.length ≤ 1048576) : B9 Tryz.prog 223 [AV.list 5 (l.map E7.cs), AV.int n] (AV.list 5 ((lessH l n).map E7.cs)) :=
  K2 (less_own l n hl) fun x _ => J3 (List.mem_singleton.2 rfl) F5
theorem put_csH (l : List E7) (k : Nat) (x : E7) : (l.take k ++ x :: l.drop k).map E7.cs = [] ++ (l.take (k : Int).toNat).map E7.cs ++ [x.cs] ++ ([] ++ (l.drop (k : Int).toNat).map E7.cs) := by simp
theorem Bq1 (l : List E7) (h : E7) (hs : l.Pairwise fun a b => a.Txn < b.Txn) (hl : l.length ≤ 1048576) : C8 Tryz.prog 220 [AV.list 5 (l.map E7.cs), AV.agg h.cs] [] (fun _ : Value => True) (fun v => [.arr v 252 5 ((insH h l).map E7.cs)]) (fun v => AV.is v) := by
 refine C3 Tryz.func220 rfl Tryz.ntmps220 rfl ?_
 refine R3 ?_
 intro b3
 refine A4 rfl (D4 rfl F4) ?_
 refine R9 ?_
 refine E5 [(0, _), (3, _), (4, _)] _ (fun (k : Nat) => k ≤ l.length ∧ ∀ i y, k ≤ i → l[i]? = some y → h.Txn < y.Txn) (fun (k : Nat) => []) (fun (k : Nat) => [(5, AV.int k)]) (fun (k : Nat) => k) (l.length) ?_ (F2 ⟨congrArg (fun z => some (AV.int z)) (by rw [A5]), rfl, rfl, rfl, trivial⟩) ?_
 ·exact ⟨Nat.le_refl _, fun i y h1 h2 => by (have := (List.getElem?_eq_some_iff.1 h2).1; omega)⟩
 intro k hinv
 obtain ⟨y, hy0⟩ : ∃ y : E7, 0 < k → l[k - 1]? = some y := by (by_cases h9 : 0 < k; (have h8 := hinv.1; exact ⟨_, fun _ => List.getElem?_eq_getElem (show k - 1 < l.length by omega)⟩); exact ⟨h, fun h8 => absurd h8 h9⟩)
 have hk1 : 0 < k → ((k : Int) - 1).toNat = k - 1 := fun _ => by omega
 refine R9 ?_
 refine M6 rfl (O4 rfl rfl rfl) (fun hc => AA6 rfl J1 O7 (B1 rfl hc) (B1 rfl hc) (by have := of_decide_eq_true hc; have := hinv.1; omega) qz196) ?_
 refine R7 ?_
 refine A8 (A0 rfl) ?_ ?_
 ·intro h21
  have hkt : 0 < k ∧ h.Txn < y.Txn := by simpa using h21
  refine R7 ?_
  refine AD6 ?_
  refine F3 k (k - 1) ?_ ?_ (F2 ⟨congrArg (fun z => some (AV.int z)) qz8, rfl, rfl, rfl, trivial⟩)
  ·exact ⟨by omega, fun i z hi hz => if e : k ≤ i then hinv.2 i z e hz else qz114⟩
  omega
 intro h21
 have hng : 0 < k → ¬ h.Txn < y.Txn := fun h9 => by simpa [h9] using h21
 have hput : insH h l = l.take k ++ h :: l.drop k := BW2 hinv.1 (fun i x hi hx => by have h7 := hy0 qz8; have h8 := hng qz8; rcases Nat.lt_or_ge i (k - 1) with h6 | h6; (have := Bv6 (f := E7.Txn) hs h6 hx h7; omega); (have : i = k - 1 := qz8; subst this; rw [hx] at h7; injection h7 with h7; subst h7; omega)) (fun x hx => hinv.2 k x (Nat.le_refl _) hx)
 rw [hput]
 refine R3 ?_
 refine N8 rfl rfl rfl rfl J1 O7 ?_
 intro v24
 refine R2 ?_
 refine A4 rfl (AL4 rfl J1 O7 (A0 rfl) (A0 rfl) qz8 AC8) ?_
 refine G0 (by' := 72) 0 rfl rfl rfl rfl J1 Tryz.type252 rfl rfl rfl rfl rfl rfl (A0 rfl) (A0 rfl) rfl (by simp only [N1, A5, List.length_drop]; omega) ?_
 intro v28_1
 refine R3 ?_
 refine AWP.le (f0 [0] 6 rfl rfl (J3 (C6 (i := 0) rfl) F5) M9) ?_
 refine M7 _ [(1, false), (2, false), (3, false), (5, false), (6, false), (8, false), (0, true), (4, true), (7, true), (9, true)] F1 F1 rfl AE0 ?_
 refine R2 ?_
 refine M8 rfl rfl rfl (fun ext => j0 rfl J1 O7 (A0 rfl) (A0 rfl) qz8 AC8) ?_
 refine R3 ?_
 refine S1 rfl rfl rfl (a8 rfl J1 O7) (fun a _ => qz3) ?_
 intro v29 _
 refine S1 rfl rfl rfl (J8 (by' := 72) 1 rfl J1 Tryz.type252 rfl rfl rfl rfl rfl rfl (A0 rfl) (A0 rfl) rfl BN7) (fun a _ => qz3) ?_
 intro v33_2 _
 refine S1 rfl rfl rfl (J8 (by' := 72) 1 rfl J1 Tryz.type252 rfl rfl rfl rfl rfl rfl (A0 rfl) (A0 rfl) rfl BN7) (fun a _ => qz3) ?_
 intro v36_3 _
 refine S1 rfl rfl rfl (J8 (by' := 72) 1 rfl J1 Tryz.type252 rfl rfl rfl rfl rfl rfl (A0 rfl) (A0 rfl) rfl BN7) (fun a _ => qz3) ?_
 intro v38_4 _
 refine R4 ?_
 exact G1 [1] v38_4 (trivial) rfl (by first | rfl | exact congrArg (fun z => [Own.arr _ 252 5 z]) (put_csH _ _ _)) (E6 rfl (A6 rfl B0))
theorem Bj0 (l : List E7) (h : E7) (hs : l.Pairwise fun a b => a.Txn < b.Txn) (hl : l.length ≤ 1048576) : B9 Tryz.prog 220 [AV.list 5 (l.map E7.cs), AV.agg h.cs] (AV.list 5 ((insH h l).map E7.cs)) :=
  K2 (Bq1 l h hs hl) fun x _ => J3 (List.mem_singleton.2 rfl) F5
theorem put_csT (l : List M1) (k : Nat) (x : M1) : (l.take k ++ x :: l.drop k).map M1.cs = [] ++ (l.take (k : Int).toNat).map M1.cs ++ [x.cs] ++ ([] ++ (l.drop (k : Int).toNat).map M1.cs) := by simp
theorem Bq2 (l : List M1) (h : M1) (hs : l.Pairwise fun a b => a.Txn < b.Txn) (hl : l.length ≤ 1048576) : C8 Tryz.prog 224 [AV.list 3 (l.map M1.cs), AV.agg h.cs] [] (fun _ : Value => True) (fun v => [.arr v 148 3 ((insT h l).map M1.cs)]) (fun v => AV.is v) := by
 refine C3 Tryz.func224 rfl Tryz.ntmps224 rfl ?_
 refine R3 ?_
 intro b3
 refine A4 rfl (D4 rfl F4) ?_
 refine R9 ?_
 refine E5 [(0, _), (3, _), (4, _)] _ (fun (k : Nat) => k ≤ l.length ∧ ∀ i y, k ≤ i → l[i]? = some y → h.Txn < y.Txn) (fun (k : Nat) => []) (fun (k : Nat) => [(5, AV.int k)]) (fun (k : Nat) => k) (l.length) ?_ (F2 ⟨congrArg (fun z => some (AV.int z)) (by rw [A5]), rfl, rfl, rfl, trivial⟩) ?_
 ·exact ⟨Nat.le_refl _, fun i y h1 h2 => by (have := (List.getElem?_eq_some_iff.1 h2).1; omega)⟩
 intro k hinv
 obtain ⟨y, hy0⟩ : ∃ y : M1, 0 < k → l[k - 1]? = some y := by (by_cases h9 : 0 < k; (have h8 := hinv.1; exact ⟨_, fun _ => List.getElem?_eq_getElem (show k - 1 < l.length by omega)⟩); exact ⟨h, fun h8 => absurd h8 h9⟩)
 have hk1 : 0 < k → ((k : Int) - 1).toNat = k - 1 := fun _ => by omega
 refine R9 ?_
 refine M6 rfl (O4 rfl rfl rfl) (fun hc => AA6 rfl K8 Q8 (B1 rfl hc) (B1 rfl hc) (by have := of_decide_eq_true hc; have := hinv.1; omega) qz196) ?_
 refine R7 ?_
 refine A8 (A0 rfl) ?_ ?_
 ·intro h21
  have hkt : 0 < k ∧ h.Txn < y.Txn := by simpa using h21
  refine R7 ?_
  refine AD6 ?_
  refine F3 k (k - 1) ?_ ?_ (F2 ⟨congrArg (fun z => some (AV.int z)) qz8, rfl, rfl, rfl, trivial⟩)
  ·exact ⟨by omega, fun i z hi hz => if e : k ≤ i then hinv.2 i z e hz else qz114⟩
  omega
 intro h21
 have hng : 0 < k → ¬ h.Txn < y.Txn := fun h9 => by simpa [h9] using h21
 have hput : insT h l = l.take k ++ h :: l.drop k := BW3 hinv.1 (fun i x hi hx => by have h7 := hy0 qz8; have h8 := hng qz8; rcases Nat.lt_or_ge i (k - 1) with h6 | h6; (have := Bv6 (f := M1.Txn) hs h6 hx h7; omega); (have : i = k - 1 := qz8; subst this; rw [hx] at h7; injection h7 with h7; subst h7; omega)) (fun x hx => hinv.2 k x (Nat.le_refl _) hx)
 rw [hput]
 refine R3 ?_
 refine N8 rfl rfl rfl rfl K8 Q8 ?_
 intro v24
 refine R2 ?_
 refine A4 rfl (AL4 rfl K8 Q8 (A0 rfl) (A0 rfl) qz8 AC8) ?_
 refine G0 (by' := 24) 0 rfl rfl rfl rfl K8 Tryz.type148 rfl rfl rfl rfl rfl rfl (A0 rfl) (A0 rfl) rfl (by simp only [N1, A5, List.length_drop]; omega) ?_
 intro v28_1
 refine R3 ?_
 refine AWP.le (f0 [0] 6 rfl rfl (J3 (C6 (i := 0) rfl) F5) M9) ?_
 refine M7 _ [(1, false), (2, false), (3, false), (5, false), (6, false), (8, false), (0, true), (4, true), (7, true), (9, true)] F1 F1 rfl AE0 ?_
 refine R2 ?_
 refine M8 rfl rfl rfl (fun ext => j0 rfl K8 Q8 (A0 rfl) (A0 rfl) qz8 AC8) ?_
 refine R3 ?_
 refine S1 rfl rfl rfl (a8 rfl K8 Q8) (fun a _ => qz3) ?_
 intro v29 _
 refine S1 rfl rfl rfl (J8 (by' := 24) 1 rfl K8 Tryz.type148 rfl rfl rfl rfl rfl rfl (A0 rfl) (A0 rfl) rfl BN7) (fun a _ => qz3) ?_
 intro v33_2 _
 refine S1 rfl rfl rfl (J8 (by' := 24) 1 rfl K8 Tryz.type148 rfl rfl rfl rfl rfl rfl (A0 rfl) (A0 rfl) rfl BN7) (fun a _ => qz3) ?_
 intro v36_3 _
 refine S1 rfl rfl rfl (J8 (by' := 24) 1 rfl K8 Tryz.type148 rfl rfl rfl rfl rfl rfl (A0 rfl) (A0 rfl) rfl BN7) (fun a _ => qz3) ?_
 intro v38_4 _
 refine R4 ?_
 exact G1 [1] v38_4 (trivial) rfl (by first | rfl | exact congrArg (fun z => [Own.arr _ 148 3 z]) (put_csT _ _ _)) (E6 rfl (A6 rfl B0))
theorem At7 (l : List M1) (h : M1) (hs : l.Pairwise fun a b => a.Txn < b.Txn) (hl : l.length ≤ 1048576) : B9 Tryz.prog 224 [AV.list 3 (l.map M1.cs), AV.agg h.cs] (AV.list 3 ((insT h l).map M1.cs)) :=
  K2 (Bq2 l h hs hl) fun x _ => J3 (List.mem_singleton.2 rfl) F5
theorem Bq3 (l : List C4) (w : List A9) (t : Int) (ho : z9 l) (hs : sizeL C4.size l ≤ 1048576) (hw : sizeL A9.size w ≤ 1048576) (ht1 : 1 ≤ t) : B9 Tryz.prog 222 [AV.list 2 (l.map C4.cs), AV.list 3 (w.map A9.cs), AV.int t] (AV.tup [AV.list 2 ((putP l w t).1.map C4.cs), AV.bool (putP l w t).2]) :=
  K2 (CI1 l w t ho hs hw ht1) fun x h => p4 (D1 (Al1 C4.lcM h 0 rfl fun o ho => List.mem_cons_of_mem _ ho) (D1 H0 V2))
theorem p7 (l : List Str) (hl : l.length ≤ 4194304) : B9 Tryz.prog 163 [strs l] (strs l) :=
  K2 (AW4 l hl) fun x _ => J3 (List.mem_singleton.2 rfl) F5
theorem At8 (a b : Int) : B9 Tryz.prog 23 [AV.int a, AV.int b] (AV.int (if a < b then b else a)) := by
 refine B7 Tryz.func23 rfl Tryz.ntmps23 rfl ?_
 refine R11 ?_
 refine A8 (A0 rfl) ?_ ?_
 ·intro h7
  have k7 := of_decide_eq_true h7; try simp only [A5] at k7
  have h9 := of_decide_eq_true h7
  refine R6 ?_
  exact D5 rfl (A6 rfl (by exact congrArg AV.int (by split <;> omega)))
 intro h7
 have k7 := of_decide_eq_false h7; try simp only [A5] at k7
 have h9 := of_decide_eq_false h7
 refine R7 ?_
 exact D5 rfl (A6 rfl (by exact congrArg AV.int (by split <;> omega)))
theorem Bq4 (s : G6) (r : L2) (g : SO s) (hs : s.size ≤ 300000) (hrs : r.size ≤ 300000) : B9 Tryz.prog 204 [AV.agg s.cs, AV.agg r.cs] (AV.tup [AV.agg (applyS s r).1.cs, AV.bool (applyS s r).2]) := by
 obtain ⟨hs1, hs2, hs3, hs4, hs5⟩ := u6 hs
 have hgc := g.cells
 have hgh := g.hsort
 have hgt := g.tsort
 have hr2 : r.size = sizeL (fun x : Str => x.length) r.Reads + sizeL A9.size r.Writes := rfl
 have hr3 := L7 (f := fun x : Str => x.length) (l := r.Reads)
 have hr4 := L7 (f := A9.size) (l := r.Writes)
 have hho := At6 s.Held r.Txn
 have hto := CI3 s.Told r.Txn
 obtain ⟨h, hh⟩ : ∃ h, (heldFO s.Held r.Txn).1 = h := ⟨_, rfl⟩
 have hf1 : hasH s.Held r.Txn = true → findH s.Held r.Txn = some h := fun e => by
  rw [← hho] at e
  unfold heldFO at hh e
  cases hf : findH s.Held r.Txn with
  | none => rw [hf] at e; cases e
  | some x => rw [hf] at hh; exact congrArg some hh
 have hf0 : hasH s.Held r.Txn = false → findH s.Held r.Txn = none := fun e => BI2.2 e
 have hhs : hasH s.Held r.Txn = true → h.size ≤ 300000 ∧ 1 ≤ h.Time := fun e => by
  obtain ⟨h1, h2⟩ := AW1 (hf1 e)
  obtain ⟨i, hi⟩ := List.getElem?_of_mem h1
  exact ⟨(AL9 hs2 hi).1, g.times h h1⟩
 have hlen := BA2 s.Held r.Txn
 have hll : (lessH s.Held r.Txn).length ≤ s.Held.length := List.length_filter_le _ _
 refine B7 Tryz.func204 rfl Tryz.ntmps204 rfl ?_
 refine R3 ?_
 intro b2
 refine R1 ?_
 intro b3
 refine R1 ?_
 intro b4
 refine R5 ?_
 refine A4 rfl (B2 rfl Tryz.call218 rfl (Ba4 s qz8) (A1 (A0 rfl) A7)) ?_
 refine R1 ?_
 intro b6
 refine R7 ?_
 refine A4 rfl (B2 rfl Tryz.call219 rfl (AE9 s r.Txn qz8) (A1 (A0 rfl) (A1 (A0 rfl) A7))) ?_
 refine R4 ?_
 intro b7
 refine R8 ?_
 refine A4 rfl (B2 rfl Tryz.call147 rfl (m3 s r.Txn qz8) (A1 (A0 rfl) (A1 (A0 rfl) A7))) ?_
 refine R4 ?_
 intro b9
 refine R6 ?_
 rw [hh]
 rw [hho, hto]
 refine R6 ?_
 refine A8 (A0 rfl) ?_ ?_
 ·intro h29
  have k29 := D2 h29; try simp only [A5] at k29
  have hk : r.Kind = 4 := by simpa using h29
  have he : applyS s r = (⟨r.Time, s.Cells, s.Held, s.Told⟩, decide (s.Floor < r.Time)) := by (unfold applyS; rw [if_pos hk])
  rw [he]
  refine R8 ?_
  refine AWP.le (C1 [2, 3, 3] rfl) ?_
  refine P5 _ 7 (.pure 0 (.pure 1 (.pure 2 (.pure 3 (.pure 4 (.pure 5 (.e1 6 .nil))))))) F1 F1 rfl (P1 3) ?_
  refine R7 ?_
  refine W1 rfl rfl rfl (U5 5 rfl rfl (A0 rfl) (A0 rfl) (U4 _) rfl P3 rfl) (fun a _ => qz3) ?_
  intro _ _
  refine R4 ?_
  exact W6 rfl D0 (B6 (G7 (ys := _) 5 rfl rfl U0 P3 rfl) (B6 (A6 rfl B0) E8))
 intro h29
 have k29 := D6 h29; try simp only [A5] at k29
 have hk4 : r.Kind ≠ 4 := by simpa using h29
 refine R5 ?_
 refine A8 (A0 rfl) ?_ ?_
 ·intro h42
  have he : applyS s r = (s, false) := by (unfold applyS; rw [if_neg hk4, if_pos h42])
  rw [he]
  refine R7 ?_
  exact W6 rfl D0 (B6 (G7 (ys := _) 3 rfl rfl U0 P3 rfl) (B6 (A6 rfl B0) E8))
 intro h42
 have hT : hasT s.Told r.Txn = false := h42
 have hnT : ¬ hasT s.Told r.Txn = true := by (rw [hT]; decide)
 refine R7 ?_
 refine A8 (A0 rfl) ?_ ?_
 ·intro h45
  have k45 := D2 h45; try simp only [A5] at k45
  have hk1 : r.Kind = 1 := by simpa using h45
  have he : applyS s r = (⟨r.Time, s.Cells, insH (hOf r) s.Held, s.Told⟩, (!hasH s.Held r.Txn && decide (s.Floor < r.Time)) && fits s r.Reads r.Writes) := by (unfold applyS; rw [if_neg hk4, if_neg hnT, if_pos hk1])
  rw [he]
  refine R1 ?_
  refine M7 _ [(0, false), (1, false), (2, false), (3, false), (4, false), (5, false), (6, false), (7, false), (8, false), (9, false), (10, false), (12, false), (13, false), (11, true), (14, true), (15, false)] F1 F1 rfl AE0 ?_
  refine R10 ?_
  refine M8 rfl rfl rfl (fun ext => B2 rfl Tryz.call163 rfl (p7 _ qz8) (A1 (A0 rfl) A7)) ?_
  refine R2 ?_
  refine S1 rfl rfl rfl (a8 rfl C0 E9) (fun a _ => qz3) ?_
  intro v60 _
  refine S1 rfl rfl rfl (AE3 [6] (fun _ => rfl) (fun _ => J3 (C6 (i := 0) rfl) F5) (fun _ => Ac1) (J8 (by' := 40) 6 rfl C0 Tryz.type47 rfl rfl rfl rfl rfl rfl (A0 rfl) (A0 rfl) rfl Ai7)) (fun a _ => qz3) ?_
  intro v63_1 _
  refine R2 ?_
  refine A4 rfl (B2 rfl Tryz.call220 rfl (Bj0 s.Held (hOf r) hgh qz8) (A1 (A0 rfl) (A1 (A0 rfl) A7))) ?_
  refine R11 ?_
  refine AWP.le (C1 [2, 3, 3] rfl) ?_
  refine P5 _ 19 (.pure 0 (.pure 1 (.pure 2 (.pure 3 (.pure 4 (.pure 5 (.pure 6 (.pure 7 (.pure 8 (.pure 9 (.pure 10 (.pure 11 (.pure 12 (.pure 13 (.pure 14 (.pure 15 (.pure 16 (.pure 17 (.e1 18 .nil))))))))))))))))))) F1 F1 rfl (P1 3) ?_
  refine R4 ?_
  refine AE2 rfl rfl (O4 rfl rfl rfl) (fun hc ext => Ag5 2 rfl Tryz.underlying221 rfl B4 (A0 rfl) rfl) ?_
  refine AE2 rfl rfl (O4 rfl rfl rfl) (fun hc ext => AY3 1 rfl (B1 rfl hc) rfl H3 rfl) ?_
  refine AE2 rfl rfl (O4 rfl rfl rfl) (fun hc ext => Ag5 0 rfl d3 rfl B4 (A0 rfl) rfl) ?_
  refine AE2 rfl rfl (O4 rfl rfl rfl) (fun hc ext => AY3 2 rfl (B1 rfl hc) rfl H3 rfl) ?_
  refine AE2 rfl rfl (O4 rfl rfl rfl) (fun hc ext => w_gtr rfl (B1 rfl hc) (B1 rfl hc)) ?_
  refine R2 ?_
  refine AE2 rfl rfl (O4 rfl rfl rfl) (fun hc ext => Bt2 2 rfl (A0 rfl) rfl U0 P3 rfl) ?_
  refine AE2 rfl rfl (O4 rfl rfl rfl) (fun hc ext => Ag5 4 rfl Tryz.underlying221 rfl d5 (A0 rfl) rfl) ?_
  refine AE2 rfl rfl (O4 rfl rfl rfl) (fun hc ext => AY3 1 rfl (B1 rfl hc) rfl Tryz.isAgg79 rfl) ?_
  refine AE2 rfl rfl (O4 rfl rfl rfl) (fun hc ext => Ag5 5 rfl Tryz.underlying221 rfl Tryz.sizeOf34 (A0 rfl) rfl) ?_
  refine AE2 rfl rfl (O4 rfl rfl rfl) (fun hc ext => AY3 1 rfl (B1 rfl hc) rfl Tryz.isAgg34 rfl) ?_
  refine AE2 rfl rfl (O4 rfl rfl rfl) (fun hc ext => B2 rfl Tryz.call221 rfl (BJ5 s r.Reads r.Writes qz8 qz8) (A1 (B1 rfl hc) (A1 (B1 rfl hc) (A1 (B1 rfl hc) A7)))) ?_
  refine R2 ?_
  refine W1 rfl rfl rfl (U5 5 rfl rfl (A0 rfl) (A0 rfl) (U4 _) rfl P3 rfl) (fun a _ => qz3) ?_
  intro _ _
  refine R4 ?_
  exact W6 rfl D0 (B6 (G7 (ys := _) 5 rfl rfl U0 P3 rfl) (B6 (A6 rfl B0) E8))
 intro h45
 have k45 := D6 h45; try simp only [A5] at k45
 have hk1 : r.Kind ≠ 1 := by simpa using h45
 have hap : applyS s r = (if r.Yes = true then (match findH s.Held r.Txn with | none => (s, false) | some h => if r.Time < h.Time then (s, false) else if (putP s.Cells h.Writes r.Time).2 = true then (AH4 s r (if s.Floor < r.Time then r.Time else s.Floor) (putP s.Cells h.Writes r.Time).1, true) else (s, false)) else (AH4 s r s.Floor s.Cells, true)) := by (unfold applyS; rw [if_neg hk4, if_neg hnT, if_neg hk1]; rfl)
 refine R6 ?_
 refine A8 (A0 rfl) ?_ ?_
 ·intro h88
  refine R13 ?_
  refine A8 (A0 rfl) ?_ ?_
  ·intro h99
   have he : applyS s r = (s, false) := by (rw [hap, if_pos h88]; cases e : hasH s.Held r.Txn with | false => (rw [hf0 e]) | true => (rw [hf1 e]; dsimp only; rw [if_pos (by rw [e] at h99; simpa using h99)]))
   rw [he]
   refine R7 ?_
   exact W6 rfl D0 (B6 (G7 (ys := _) 3 rfl rfl U0 P3 rfl) (B6 (A6 rfl B0) E8))
  intro h99
  simp only [Bool.or_eq_false_iff, Bool.not_eq_false', decide_eq_false_iff_not] at h99
  obtain ⟨hhas, hnlt⟩ := h99
  obtain ⟨hz1, hz2⟩ := hhs hhas
  have hz3 : h.size = sizeL (fun x => x.length) h.Reads + sizeL A9.size h.Writes := rfl
  refine R9 ?_
  refine A4 rfl (B2 rfl Tryz.call222 rfl (Bq3 s.Cells h.Writes r.Time hgc qz8 qz8 qz8) (A1 (A0 rfl) (A1 (A0 rfl) (A1 (A0 rfl) A7)))) ?_
  refine R12 ?_
  refine A8 (A0 rfl) ?_ ?_
  ·intro h112
   have he : applyS s r = (s, false) := by (rw [hap, if_pos h88, hf1 hhas]; dsimp only; rw [if_neg qz8, if_neg (by simpa using h112)])
   rw [he]
   refine R7 ?_
   exact W6 rfl D0 (B6 (G7 (ys := _) 3 rfl rfl U0 P3 rfl) (B6 (A6 rfl B0) E8))
  intro h112
  have he : applyS s r = (AH4 s r (if s.Floor < r.Time then r.Time else s.Floor) (putP s.Cells h.Writes r.Time).1, true) := by (rw [hap, if_pos h88, hf1 hhas]; dsimp only; rw [if_neg qz8, if_pos (by simpa using h112)])
  rw [he]
  unfold AH4
  refine R12 ?_
  refine A4 rfl (B2 rfl Tryz.call23 rfl (At8 _ _) (A1 (A0 rfl) (A1 (A0 rfl) A7))) ?_
  refine R9 ?_
  refine A4 rfl (B2 rfl Tryz.call223 rfl (BW6 s.Held r.Txn qz8) (A1 (A0 rfl) (A1 (A0 rfl) A7))) ?_
  refine R14 ?_
  refine A4 rfl (B2 rfl Tryz.call224 rfl (At7 s.Told ⟨r.Txn, r.Yes, r.Time⟩ hgt qz8) (A1 (A0 rfl) (A1 (A0 rfl) A7))) ?_
  refine R10 ?_
  exact W6 rfl D0 (B6 (G7 (ys := _) 3 rfl rfl U0 P3 rfl) (B6 (A6 rfl B0) E8))
 intro h88
 have he : applyS s r = (AH4 s r s.Floor s.Cells, true) := by (rw [hap, if_neg (by rw [h88]; decide)])
 rw [he]
 unfold AH4
 refine R7 ?_
 refine A4 rfl (B2 rfl Tryz.call223 rfl (BW6 s.Held r.Txn qz8) (A1 (A0 rfl) (A1 (A0 rfl) A7))) ?_
 refine R14 ?_
 refine A4 rfl (B2 rfl Tryz.call224 rfl (At7 s.Told ⟨r.Txn, r.Yes, r.Time⟩ hgt qz8) (A1 (A0 rfl) (A1 (A0 rfl) A7))) ?_
 refine R10 ?_
 exact W6 rfl D0 (B6 (G7 (ys := _) 3 rfl rfl U0 P3 rfl) (B6 (A6 rfl B0) E8))
end Go.Proofs.YtcfkbhnpfjjmjaaGreat
namespace Go.M
open Go.AV
end Go.M
namespace Go.Proofs.YtcfkbhnpfjjmjaaGreat
open Go Go.AV Go.M
attribute [local irreducible] OpW OpA OpS AWP B9 J5 C8 OpE RetOk H1 I9 Le Ev F6 J9 Int.tmod Int.tdiv IntKind.wrap
theorem Bq5 (s : G6) (k : Str) (t : Int) (hs : s.size ≤ 1048576) : C8 Tryz.prog 201 [AV.agg s.cs, AV.str k, AV.int t] [] (fun _ : Value => True) (fun x => [.arr x 3 1 ((q9 s.Held k t).map fun n => [AV.int n])]) (fun x => AV.is x) := by
 obtain ⟨hs1, hs2, hs3, hs4, hs5⟩ := u6 hs
 refine C3 Tryz.func201 rfl Tryz.ntmps201 rfl ?_
 refine R3 ?_
 intro b3
 refine A4 rfl (D4 rfl F4) ?_
 refine R3 ?_
 refine O8 3 1 rfl rfl rfl rfl F4 ?_
 intro v7
 refine R10 ?_
 refine T8 [(1, _), (2, _), (6, _), (11, _), (12, _)] _ (fun (i : Nat) (v : Value) (ns : List Int) => i ≤ s.Held.length ∧ ns = q9 (s.Held.take i) k t) (fun (i : Nat) (v : Value) (ns : List Int) => [.arr v 3 1 (ns.map fun n => [AV.int n])]) (fun (i : Nat) (v : Value) (ns : List Int) => [(7, AV.is v), (13, AV.int i)]) (fun (i : Nat) (v : Value) (ns : List Int) => s.Held.length - i) (0) (v7) ([]) ?_ (I8 B0 ⟨rfl, rfl, rfl, rfl, rfl, rfl, rfl, trivial⟩) ?_
 ·exact ⟨Nat.zero_le _, rfl⟩
 intro i v ns hinv
 refine R5 ?_
 refine A8 (A0 rfl) ?_ ?_
 ·intro h14
  have k14 := of_decide_eq_true h14; try simp only [A5] at k14
  have hlt : i < s.Held.length := by omega
  obtain ⟨h, hx⟩ := get_some hlt
  have hnl : ns.length ≤ 1048576 := by (rw [hinv.2]; have h9 := CA6 (s.Held.take i) k t; rw [H2] at h9; omega)
  refine R5 ?_
  refine A4 rfl (C7 rfl J1 O7 (A0 rfl) (A0 rfl) hx qz4) ?_
  refine R2 ?_
  intro b9
  refine R12 ?_
  refine L3 rfl (fun hc => B2 rfl Tryz.call50 rfl (AO1 _ _) (A1 (B1 rfl hc) (A1 (B1 rfl hc) A7))) ?_
  refine R2 ?_
  refine A8 (A0 rfl) ?_ ?_
  ·intro h26
   refine R5 ?_
   refine G0 (by' := 8) 1 rfl rfl rfl rfl B3 Tryz.type3 rfl rfl rfl rfl rfl rfl (A0 rfl) (A0 rfl) rfl qz4 ?_
   intro v31_1
   refine R6 ?_
   refine N7 i v ns (i + 1) (v31_1) (ns ++ [h.Txn]) ?_ ?_ (Le.trans (C1 [0, 0] rfl) (E3 1 AX9 ⟨rfl, rfl, rfl, rfl, rfl, rfl, rfl, trivial⟩))
   ·first | exact ⟨by omega, by rw [BJ0 hx Bd0, hinv.2]⟩ | exact ⟨by omega, by rw [BW4 hx Bd0, hinv.2]⟩
   omega
  intro h26
  refine R5 ?_
  refine N7 i v ns (i + 1) (v) (ns) ?_ ?_ (Le.trans (C1 [0, 0] rfl) (E3 1 AX9 ⟨rfl, rfl, rfl, rfl, rfl, rfl, rfl, trivial⟩))
  ·first | exact ⟨by omega, by rw [BJ0 hx Bd0, hinv.2]⟩ | exact ⟨by omega, by rw [BW4 hx Bd0, hinv.2]⟩
  omega
 intro h14
 have k14 := of_decide_eq_false h14; try simp only [A5] at k14
 have hge : s.Held.length ≤ i := by omega
 have hns := hinv.2
 rw [List.take_of_length_le hge] at hns
 rw [← hns]
 refine R7 ?_
 exact G1 [0] v (trivial) rfl B0 (E6 rfl (A6 rfl B0))
theorem At9 (s : G6) (k : Str) (t : Int) (hs : s.size ≤ 1048576) : B9 Tryz.prog 201 [AV.agg s.cs, AV.str k, AV.int t] (ints (q9 s.Held k t)) :=
  K2 (Bq5 s k t hs) fun x _ => J3 (List.mem_singleton.2 rfl) F5
theorem of_own (l : List L2) (hl : l.length ≤ 60) (hr : ∀ r ∈ l, r.size ≤ 1100) : C8 Tryz.prog 187 [AV.list 7 (l.map L2.cs)] [] (fun _ : Value => True) (fun x => [.arr x 4 1 ((didFrom d6 l).map fun b => [AV.bool b])]) (fun x => AV.tup [AV.agg (stFrom d6 l).cs, AV.is x]) := by
 have hgs : ∀ i, SO (stFrom d6 (l.take i)) := fun i => Bv8 so_zero
 have hsz : ∀ i, (stFrom d6 (l.take i)).size ≤ 300000 := fun i => by
  have h1 := size_phi (stFrom d6 (l.take i))
  have h2 := Bi4 (m := 1100) (s := d6) (l := l.take i) fun r hr2 => hr r (List.mem_of_mem_take hr2)
  have h3 : phi d6 = 0 := rfl
  have h4 : (l.take i).length ≤ 60 := by rw [H2]; omega
  have h5 : (l.take i).length * (3 * (1 + 1100) + 1) ≤ 60 * 3304 := Nat.mul_le_mul h4 D0
  omega
 refine C3 Tryz.func187 rfl Tryz.ntmps187 rfl ?_
 refine R3 ?_
 intro b2
 refine A4 rfl (D4 rfl F4) ?_
 refine R4 ?_
 intro b4
 refine R3 ?_
 refine O8 4 1 rfl rfl rfl rfl F4 ?_
 intro v5
 refine R3 ?_
 refine AWP.le (AG3 1 1 2 rfl rfl M9) ?_
 refine AWP.le (AG3 1 2 5 rfl rfl M9) ?_
 refine AWP.le (AG3 1 3 3 rfl rfl M9) ?_
 refine R6 ?_
 refine AWP.le (C1 [1, 0] rfl) ?_
 refine T8 [(2, _), (3, _), (4, _), (10, _), (11, _)] _ (fun (i : Nat) (v : Value) (bs : List Bool) => i ≤ l.length ∧ bs = didFrom d6 (l.take i) ∧ bs.length ≤ i) (fun (i : Nat) (v : Value) (bs : List Bool) => [.box b4 182 (stFrom d6 (l.take i)).cs, .arr v 4 1 (bs.map fun b => [AV.bool b])]) (fun (i : Nat) (v : Value) (bs : List Bool) => [(5, AV.is v), (12, AV.int i)]) (fun (i : Nat) (v : Value) (bs : List Bool) => l.length - i) (0) (v5) ([]) ?_ (I8 B0 ⟨rfl, rfl, rfl, rfl, rfl, rfl, rfl, trivial⟩) ?_
 ·exact ⟨Nat.zero_le _, rfl, Nat.le_refl _⟩
 intro i v bs hinv
 refine R5 ?_
 refine A8 (A0 rfl) ?_ ?_
 ·intro h13
  have k13 := of_decide_eq_true h13; try simp only [A5] at k13
  have hlt : i < l.length := by omega
  obtain ⟨r, hx⟩ := get_some hlt
  have hgr := hr r (C6 hx)
  have hgi := hgs i
  have hsi := hsz i
  refine R5 ?_
  refine A4 rfl (C7 rfl Tryz.underlying224 Tryz.sizeOf221 (A0 rfl) (A0 rfl) hx qz4) ?_
  refine R2 ?_
  intro b7
  refine R6 ?_
  refine A4 rfl (B2 rfl Tryz.call204 rfl (Bq4 (stFrom d6 (l.take i)) r hgi qz8 qz8) (A1 (A0 rfl) (A1 (A0 rfl) A7))) ?_
  refine R4 ?_
  intro b8
  refine R8 ?_
  refine A8 (A0 rfl) ?_ ?_
  ·intro h22
   have hstep : (applyS (stFrom d6 (l.take i)) r).1 = r4 (stFrom d6 (l.take i)) r := by (unfold r4; rw [if_pos h22])
   refine R8 ?_
   refine G0 (by' := 1) 3 rfl rfl rfl rfl Tryz.underlying135 Tryz.type4 rfl rfl rfl rfl rfl rfl (A0 rfl) (A0 rfl) rfl qz4 ?_
   intro v27_1
   refine R6 ?_
   refine N7 i v bs (i + 1) (v27_1) (bs ++ [(applyS (stFrom d6 (l.take i)) r).2]) ?_ ?_ (Le.trans (C1 [0, 0, 0, 0] rfl) (E3 2 (by first | (rw [List.map_append, BA1 hx, ← hstep]; rfl) | rfl) ⟨rfl, rfl, rfl, rfl, rfl, rfl, rfl, trivial⟩))
   ·exact ⟨by omega, by rw [At5 hx, hinv.2.1], by rw [G2]; simp; omega⟩
   omega
  intro h22
  have hstep : stFrom d6 (l.take i) = r4 (stFrom d6 (l.take i)) r := by (conv => rhs; unfold r4; rw [if_neg (by rw [h22]; decide)])
  refine R5 ?_
  refine G0 (by' := 1) 3 rfl rfl rfl rfl Tryz.underlying135 Tryz.type4 rfl rfl rfl rfl rfl rfl (A0 rfl) (A0 rfl) rfl qz4 ?_
  intro v27_2
  refine R6 ?_
  refine N7 i v bs (i + 1) (v27_2) (bs ++ [(applyS (stFrom d6 (l.take i)) r).2]) ?_ ?_ (Le.trans (C1 [0, 0, 0, 0] rfl) (E3 2 (by first | (rw [List.map_append, BA1 hx, ← hstep]; rfl) | rfl) ⟨rfl, rfl, rfl, rfl, rfl, rfl, rfl, trivial⟩))
  ·exact ⟨by omega, by rw [At5 hx, hinv.2.1], by rw [G2]; simp; omega⟩
  omega
 intro h13
 have k13 := of_decide_eq_false h13; try simp only [A5] at k13
 have hge : i = l.length := by omega
 have hbs := hinv.2.1
 rw [hge, List.take_length] at hbs
 rw [hge, List.take_length, ← hbs]
 refine R9 ?_
 exact G1 [1] v (trivial) rfl B0 (N4 rfl D0 (B6 (G7 (ys := _) 2 rfl rfl U0 P3 rfl) (B6 (A6 rfl B0) E8)))
theorem ofF_spec (l : List L2) (hl : l.length ≤ 60) (hr : ∀ r ∈ l, r.size ≤ 1100) : B9 Tryz.prog 187 [AV.list 7 (l.map L2.cs)] (AV.tup [AV.agg (stFrom d6 l).cs, AV.list 1 ((didFrom d6 l).map fun b => [AV.bool b])]) :=
  K2 (of_own l hl hr) fun x _ => p4 (D1 H0 (D1 (J3 (C6 (i := 0) rfl) F5) V2))
end Go.Proofs.YtcfkbhnpfjjmjaaGreat
namespace Go.Proofs.YtcfkbhnpfjjmjaaGreat
open Go Go.AV Go.M
attribute [local irreducible] OpW OpA OpS AWP B9 J5 C8 OpE RetOk H1 I9 Le Ev F6 J9 Int.tmod IntKind.wrap bandI
theorem CB0 (b : Nat) (code : List Int) (hcode : Y4 code) (c : N0) (hp : c.p ≤ 6000000) : C8 Tryz.prog 107 [AV.ptr b 0] [.box b 55 (Q5 code c)] (fun x : N0 × Str => x.1.p ≤ c.p + 2 ∧ x.2.length ≤ 64) (fun x => [.box b 55 (Q5 code x.1)]) (fun x => AV.str x.2) := by
  refine C3 Tryz.func107 rfl Tryz.ntmps107 rfl ?_
  refine R2 ?_
  refine A4 rfl (D4 rfl (L4 (l := []) rfl)) ?_
  refine R4 ?_
  refine A4 rfl (AJ8 rfl F7 K1 Tryz.zeroValue9 rfl rfl rfl rfl (E0 (L4 (l := []) rfl) (V0 _) (E0 (L4 (l := [49]) rfl) (V0 _) (E0 (L4 (l := [55]) rfl) (V0 _) (E0 (L4 (l := [49, 48]) rfl) (V0 _) (E0 (L4 (l := [45, 51]) rfl) (V0 _) (E0 (L4 (l := [120]) rfl) (V0 _) (E0 (L4 (l := [97, 44, 98, 95, 99]) rfl) (V0 _) T9))))))) rfl rfl) ?_
  refine E4 [0] rfl rfl rfl rfl Tryz.call133 rfl (CH6 _ _ hcode _ ([[], [49], [55], [49, 48], [45, 51], [120], [97, 44, 98, 95, 99]] : List Str) D0 qz8) (A1 (A0 rfl) (A1 (A0 rfl) A7)) rfl ?_
  intro x5 ok5
  refine R3 ?_
  (refine G1 [0] ((_, _)) ?_ rfl V8 (E6 rfl (A6 rfl B0)); exact ok5)
end Go.Proofs.YtcfkbhnpfjjmjaaGreat
namespace Go.M
open Go.AV
theorem BW7 (s : Str) : ∀ l : List Str, sizeL (fun x : Str => x.length) (putS l s) ≤ sizeL (fun x : Str => x.length) l + s.length + 1
  | [] => by unfold putS sizeL; simp; omega
  | y :: l => by
    have ih := BW7 s l
    have hc : ∀ (z : Str) (q : List Str), sizeL (fun x : Str => x.length) (z :: q) = sizeL (fun x : Str => x.length) q + z.length + 1 := fun z q => by unfold sizeL; simp; omega
    unfold putS
    split
    · rw [hc s]; omega
    · split
      · omega
      · rw [hc, hc]; omega
end Go.M
namespace Go.Proofs.YtcfkbhnpfjjmjaaGreat
open Go Go.AV Go.M
attribute [local irreducible] OpW OpA OpS AWP B9 J5 C8 OpE RetOk H1 I9 Le Ev F6 J9 Int.tmod Int.tdiv IntKind.wrap bandI
theorem Z1 (a b : Int) : B9 Tryz.prog 23 [AV.int a, AV.int b] (AV.int (if b < a then a else b)) := by
 refine B7 Tryz.func23 rfl Tryz.ntmps23 rfl ?_
 refine R11 ?_
 refine A8 (A0 rfl) ?_ ?_
 ·intro h7
  have k7 := of_decide_eq_true h7; try simp only [A5] at k7
  rw [if_pos (of_decide_eq_true h7)]
  refine R6 ?_
  exact D5 rfl (A6 rfl B0)
 intro h7
 have k7 := of_decide_eq_false h7; try simp only [A5] at k7
 rw [if_neg (of_decide_eq_false h7)]
 refine R7 ?_
 exact D5 rfl (A6 rfl B0)
end Go.Proofs.YtcfkbhnpfjjmjaaGreat
namespace Go.M
open Go.AV
theorem Au0 {α : Type} {f : α → Nat} {c : Nat} : ∀ {l : List α}, (∀ x ∈ l, f x ≤ c) → sizeL f l ≤ l.length * (c + 1)
  | [], _ => Nat.zero_le _
  | x :: l, h => by
    have h1 := Au0 (l := l) fun y hy => h y (List.mem_cons_of_mem _ hy)
    have h2 := h x List.mem_cons_self
    unfold sizeL at h1 ⊢
    simp only [H6, List.map_cons, List.sum_cons]
    have : (l.length + 1) * (c + 1) = l.length * (c + 1) + (c + 1) := Nat.succ_mul _ _
    omega
theorem gr_size {r : F0} {t : Int} (h : GR r t) : r.size ≤ 60 * 401 := by
  unfold F0.size
  refine Nat.le_trans (Au0 (c := 400) fun e he => ?_) (Nat.mul_le_mul_right _ h.len)
  exact AJ6 (h.ents e he).2.2
theorem Ah5 {g : TGroup} (h : GG g) : g.size ≤ 5 * 24061 := by
  unfold TGroup.size
  refine Nat.le_trans (Au0 (c := 24060) fun r hr => gr_size (h.reps r hr)) (Nat.mul_le_mul_right _ ?_)
  rcases h.many with k | k <;> omega
theorem Bq6 {a b : List J4} {i : Nat} {x y : J4} (h : a.take i = b.take i) (hx : a[i]? = some x) (hy : b[i]? = some y) (he : x = y) : a.take (i + 1) = b.take (i + 1) := by
  rw [List.take_add_one, List.take_add_one, h, hx, hy, he]
theorem CI4 {a b : List J4} {i n : Nat} {x y : J4} (hi : i < n) (hx : a[i]? = some x) (hy : b[i]? = some y) (he : x ≠ y) : begins a b n = false := by
  unfold begins
  refine decide_eq_false fun h => he ?_
  have h1 := congrArg (fun l => l[i]?) h.2.2
  rw [List.getElem?_take_of_lt hi, List.getElem?_take_of_lt hi, hx, hy] at h1
  injection h1
theorem Bj1 {x y : J4} : (x.Term != y.Term || !decide (x.Rec = y.Rec)) = !decide (x = y) := by
  cases x; cases y
  rw [Bool.eq_iff_iff]
  simp only [Bool.or_eq_true, bne_iff_ne, ne_eq, Bool.not_eq_true', decide_eq_false_iff_not, J4.mk.injEq, not_and]
  exact ⟨fun h e1 e2 => h.elim (fun k => k e1) (fun k => k e2), fun h => Classical.byCases (fun e1 => .inr (h e1)) .inl⟩
theorem AD2 {α : Type} {p : α → Bool} {l : List α} {i : Nat} {x : α} (h : l[i]? = some x) : ((l.take (i + 1)).filter p).length = ((l.take i).filter p).length + (if p x = true then 1 else 0) := by
  rw [List.take_add_one, h, List.filter_append, G2]
  congr 1
  show ([x].filter p).length = _
  by_cases hp : p x = true
  · rw [List.filter_cons_of_pos hp, if_pos hp]; rfl
  · rw [List.filter_cons_of_neg hp, if_neg hp]; rfl
theorem CI5 {l : List J4} {e : J4} (h : l[l.length - 1]? = some e) : v9 l = e.Term := by
  unfold v9
  rw [List.getLast?_eq_getElem?, h]
theorem CB1 {l : List J4} (h : l.length = 0) : v9 l = 0 := by
  rw [List.eq_nil_of_length_eq_zero h]; rfl
theorem BJ6 {t : Int} {l : List J4} {i : Nat} {p : Int} {e : J4} (hx : l[i]? = some e) : logOk t p (l.drop i) = ((within e.Term p t && goodRec e.Rec) && logOk t e.Term (l.drop (i + 1))) := by
  rw [drop_some hx]; rfl
end Go.M
namespace Go.Proofs.YtcfkbhnpfjjmjaaGreat
open Go Go.AV Go.M
attribute [local irreducible] OpW OpA OpS AWP B9 J5 C8 OpE RetOk H1 I9 Le Ev F6 J9 V9 Int.tmod Int.tdiv IntKind.wrap bandI
theorem Bq7 (a b : L2) (hs : a.size ≤ 1048576) : B9 Tryz.prog 241 [AV.agg a.cs, AV.agg b.cs] (AV.bool (decide (a = b))) := by
 have hl1 := L7 (f := fun s : Str => s.length) (l := a.Reads)
 have hl2 := L7 (f := A9.size) (l := a.Writes)
 have hs9 : sizeL (fun s : Str => s.length) a.Reads + sizeL A9.size a.Writes ≤ 1048576 := hs
 refine B7 Tryz.func241 rfl Tryz.ntmps241 rfl ?_
 refine R3 ?_
 intro b2
 refine R1 ?_
 intro b3
 refine R36 ?_
 refine P4 rfl (fun hc => Be7 rfl T4 (B1 rfl hc) (B1 rfl hc)) ?_
 refine R20 ?_
 refine A8 (A0 rfl) ?_ ?_
 ·intro h57
  have hne : a ≠ b := fun e => (by subst e; simp at h57)
  rw [decide_eq_false hne]
  refine R5 ?_
  exact D5 rfl (A6 rfl B0)
 intro h57
 have hh := h57
 simp only [Bool.or_eq_false_iff, bne_eq_false_iff_eq, A5] at hh
 refine R7 ?_
 refine E5 [(2, _), (3, _)] _ (fun (i : Nat) => i ≤ a.Reads.length ∧ a.Reads.take i = b.Reads.take i) (fun (i : Nat) => []) (fun (i : Nat) => [(5, AV.int i)]) (fun (i : Nat) => a.Reads.length - i) (0) ?_ (F2 ⟨rfl, rfl, rfl, trivial⟩) ?_
 ·exact ⟨Nat.zero_le _, rfl⟩
 intro i hinv
 refine R9 ?_
 refine A8 (A0 rfl) ?_ ?_
 ·intro h62
  have k62 := of_decide_eq_true h62; try simp only [A5] at k62
  have hlt : i < a.Reads.length := (by simpa using h62)
  obtain ⟨x, hx⟩ := get_some hlt
  obtain ⟨y, hy⟩ := get_some (show i < b.Reads.length by omega)
  refine R8 ?_
  refine C2 rfl rfl (C7 rfl F7 K1 (A0 rfl) (A0 rfl) hx qz4) ?_
  refine R4 ?_
  refine C2 rfl rfl (C7 rfl F7 K1 (A0 rfl) (A0 rfl) hy qz4) ?_
  refine R3 ?_
  refine A8 (A0 rfl) ?_ ?_
  ·intro h75
   have hne : a ≠ b := fun e => (by subst e; rw [hx] at hy; injection hy with hy; simp [hy] at h75)
   rw [decide_eq_false hne]
   refine R5 ?_
   exact D5 rfl (A6 rfl B0)
  intro h75
  refine R6 ?_
  refine F3 i (i + 1) ?_ ?_ (F2 ⟨rfl, rfl, rfl, trivial⟩)
  ·exact ⟨by omega, by rw [List.take_add_one, List.take_add_one, hinv.2, hx, hy]; congr 2; simpa using h75⟩
  omega
 intro h62
 have k62 := of_decide_eq_false h62; try simp only [A5] at k62
 have hge : a.Reads.length ≤ i := (by simpa using h62)
 have hreads : a.Reads = b.Reads := qz179
 refine R7 ?_
 refine E5 [(2, _), (3, _)] _ (fun (j : Nat) => j ≤ a.Writes.length ∧ a.Writes.take j = b.Writes.take j) (fun (j : Nat) => []) (fun (j : Nat) => [(6, AV.int j)]) (fun (j : Nat) => a.Writes.length - j) (0) ?_ (F2 ⟨rfl, rfl, rfl, trivial⟩) ?_
 ·exact ⟨Nat.zero_le _, rfl⟩
 intro j hinv
 refine R9 ?_
 refine A8 (A0 rfl) ?_ ?_
 ·intro h80
  have k80 := of_decide_eq_true h80; try simp only [A5] at k80
  have hlt1 : j < a.Writes.length := (by simpa using h80)
  obtain ⟨u, hu⟩ := get_some hlt1
  obtain ⟨v, hv⟩ := get_some (show j < b.Writes.length by omega)
  refine R8 ?_
  refine C2 rfl rfl (C7 rfl C0 E9 (A0 rfl) (A0 rfl) hu qz4) ?_
  refine R4 ?_
  refine C2 rfl rfl (C7 rfl C0 E9 (A0 rfl) (A0 rfl) hv qz4) ?_
  refine R1 ?_
  refine C2 rfl rfl (BG4 rfl Tryz.underlying47 F1 F1 (A0 rfl) (A0 rfl) (n5 F1 i5 rfl rfl (AX3 L8) (n5 F1 i5 rfl rfl (AX3 L8) (n5 F1 e8 rfl rfl (Ak0 T4) Ax0)))) ?_
  refine R1 ?_
  refine A8 (A0 rfl) ?_ ?_
  ·intro h93
   have hne : a ≠ b := fun e => (by subst e; rw [hu] at hv; injection hv with hv; rw [BV9] at h93; simp [hv] at h93)
   rw [decide_eq_false hne]
   refine R5 ?_
   exact D5 rfl (A6 rfl B0)
  intro h93
  refine R6 ?_
  refine F3 j (j + 1) ?_ ?_ (F2 ⟨rfl, rfl, rfl, trivial⟩)
  ·exact ⟨by omega, by rw [List.take_add_one, List.take_add_one, hinv.2, hu, hv]; congr 2; rw [BV9] at h93; simpa using h93⟩
  omega
 intro h80
 have k80 := of_decide_eq_false h80; try simp only [A5] at k80
 have hge1 : a.Writes.length ≤ j := (by simpa using h80)
 have hwrites : a.Writes = b.Writes := qz179
 have hyes : a = b := (by cases a; cases b; simp_all)
 rw [decide_eq_true hyes]
 refine R6 ?_
 exact D5 rfl (A6 rfl B0)
theorem Ba5 (a b : List J4) (n : Nat) (hs : sizeL J4.size a ≤ 1048576) (hn : n ≤ 1048576) : B9 Tryz.prog 227 [AV.list 8 (a.map J4.cs), AV.list 8 (b.map J4.cs), AV.int (n : Int)] (AV.bool (begins a b n)) := by
 refine B7 Tryz.func227 rfl Tryz.ntmps227 rfl ?_
 refine R18 ?_
 refine A8 (A0 rfl) ?_ ?_
 ·intro h17
  have he : begins a b n = false := (by unfold begins; refine decide_eq_false fun hc => ?_; simp only [A5, Bool.or_eq_true, decide_eq_true_eq] at h17; omega)
  rw [he]
  refine R5 ?_
  exact D5 rfl (A6 rfl B0)
 intro h17
 have hh := h17
 simp only [A5, Bool.or_eq_false_iff, decide_eq_false_iff_not] at hh
 refine R7 ?_
 refine E5 [(0, _), (1, _), (2, _)] _ (fun (i : Nat) => i ≤ n ∧ a.take i = b.take i) (fun (i : Nat) => []) (fun (i : Nat) => [(7, AV.int i)]) (fun (i : Nat) => n - i) (0) ?_ (F2 ⟨rfl, rfl, rfl, rfl, trivial⟩) ?_
 ·exact ⟨Nat.zero_le _, rfl⟩
 intro i hinv
 refine R7 ?_
 refine A8 (A0 rfl) ?_ ?_
 ·intro h20
  have k20 := of_decide_eq_true h20; try simp only [A5] at k20
  have hlt : i < n := by omega
  obtain ⟨x, hx⟩ := get_some (show i < a.length by omega)
  obtain ⟨y, hy⟩ := get_some (show i < b.length by omega)
  have hxs : x.Rec.size ≤ 1048576 := Nat.le_trans (X1 (f := J4.size) hx) hs
  refine R7 ?_
  refine C2 rfl rfl (C7 rfl N6 T6 (A0 rfl) (A0 rfl) hx qz4) ?_
  refine R4 ?_
  refine C2 rfl rfl (C7 rfl N6 T6 (A0 rfl) (A0 rfl) hy qz4) ?_
  refine R6 ?_
  refine M6 rfl (V7 rfl rfl rfl) (fun hc => C7 rfl N6 T6 (B1 rfl hc) (B1 rfl hc) hx qz6) ?_
  refine R4 ?_
  refine M6 rfl (V7 rfl rfl rfl) (fun hc => C7 rfl N6 T6 (B1 rfl hc) (B1 rfl hc) hy qz6) ?_
  refine R2 ?_
  refine M6 rfl (V7 rfl rfl rfl) (fun hc => B2 rfl Tryz.call241 rfl (Bq7 _ _ T0) (A1 (B1 rfl hc) (A1 (B1 rfl hc) A7))) ?_
  refine R3 ?_
  refine A8 (A0 rfl) ?_ ?_
  ·intro h47
   have he : begins a b n = false := CI4 hlt hx hy (by rw [Bj1] at h47; simpa using h47)
   rw [he]
   refine R5 ?_
   exact D5 rfl (A6 rfl B0)
  intro h47
  refine R6 ?_
  refine F3 i (i + 1) ?_ ?_ (F2 ⟨rfl, rfl, rfl, rfl, trivial⟩)
  ·exact ⟨by omega, Bq6 hinv.2 hx hy (by rw [Bj1] at h47; simpa using h47)⟩
  omega
 intro h20
 have k20 := of_decide_eq_false h20; try simp only [A5] at k20
 have hge : i = n := by omega
 subst hge
 have he : begins a b i = true := (by unfold begins; exact decide_eq_true ⟨by omega, by omega, hinv.2⟩)
 rw [he]
 refine R6 ?_
 exact D5 rfl (A6 rfl B0)
theorem Au1 (l : List J4) (hs : sizeL J4.size l ≤ 1048576) : C8 Tryz.prog 182 [AV.list 8 (l.map J4.cs)] [] (fun _ : Value => True) (fun v => [.arr v 226 8 (l.map J4.cs)]) (fun v => AV.is v) := by
 have hll : l.length ≤ 1048576 := Nat.le_trans L7 hs
 refine C3 Tryz.func182 rfl Tryz.ntmps182 rfl ?_
 refine R2 ?_
 refine A4 rfl (D4 rfl F4) ?_
 refine R3 ?_
 refine N8 rfl rfl rfl rfl N6 T6 ?_
 intro v6
 refine R8 ?_
 refine AWP.le (C1 [0] rfl) ?_
 refine J7 [(0, _), (2, _)] _ (fun (i : Nat) (v : Value) => i ≤ l.length) (fun (i : Nat) (v : Value) => [.arr v 226 8 ((l.take i).map J4.cs)]) (fun (i : Nat) (v : Value) => [(3, AV.is v), (4, AV.int i)]) (fun (i : Nat) (v : Value) => l.length - i) (0) (v6) ?_ (I8 B0 ⟨rfl, rfl, rfl, rfl, trivial⟩) ?_
 ·exact Nat.zero_le _
 intro i v hinv
 refine R8 ?_
 refine A8 (A0 rfl) ?_ ?_
 ·intro h10
  have k10 := of_decide_eq_true h10; try simp only [A5] at k10
  have hlt : i < l.length := AD1
  obtain ⟨x, hx⟩ := get_some hlt
  have hsx : J4.size x ≤ 1048576 := Nat.le_trans (X1 hx) hs
  have hsr : sizeL (fun s : Str => s.length) x.Rec.Reads + sizeL A9.size x.Rec.Writes ≤ 1048576 := hsx
  have hl1 := L7 (f := fun s : Str => s.length) (l := x.Rec.Reads)
  have hl2 := L7 (f := A9.size) (l := x.Rec.Writes)
  refine R7 ?_
  refine A4 rfl (C7 rfl N6 T6 (A0 rfl) (A0 rfl) hx qz4) ?_
  refine R2 ?_
  intro b5
  refine R4 ?_
  refine N8 rfl rfl rfl rfl F7 K1 ?_
  intro v17
  refine R3 ?_
  refine G0 (by' := 16) 0 rfl rfl rfl rfl F7 Tryz.type9 rfl rfl rfl rfl rfl rfl (A0 rfl) (A0 rfl) rfl (by simp only [A5, N1]; omega) ?_
  intro v21_1
  refine R2 ?_
  refine S4 0 rfl fun one_v21_1 => ?_
  refine P6 1 rfl rfl rfl (A0 rfl) (A0 rfl) (M0 one_v21_1) rfl d5 rfl ?_
  refine R3 ?_
  refine N8 rfl rfl rfl rfl C0 E9 ?_
  intro v24
  refine R3 ?_
  refine G0 (by' := 40) 0 rfl rfl rfl rfl C0 Tryz.type47 rfl rfl rfl rfl rfl rfl (A0 rfl) (A0 rfl) rfl (by simp only [A5, N1]; omega) ?_
  intro v28_2
  refine R2 ?_
  refine S4 0 rfl fun one_v28_2 => ?_
  refine P6 2 rfl rfl rfl (A0 rfl) (A0 rfl) (M0 one_v28_2) rfl Tryz.sizeOf34 rfl ?_
  refine R1 ?_
  refine AWP.le (AP8 [1, 0] 0 (.box b5 226 x.cs) rfl rfl ⟨rfl, rfl, (D1 H0 (D1 H0 (D1 H0 (D1 H0 (D1 H0 (D1 (J3 (C6 (i := 0) rfl) F5) (D1 (J3 (C6 (i := 1) rfl) F5) (D1 H0 V2))))))))⟩ M9) ?_
  refine R4 ?_
  refine G0 (by' := 96) 1 rfl rfl rfl rfl N6 Tryz.type226 rfl rfl rfl rfl rfl rfl (A0 rfl) (A0 rfl) rfl BB6 ?_
  intro v34_3
  refine R7 ?_
  refine G9 i v (i + 1) (v34_3) ?_ ?_ (Le.trans (C1 [0, 0] rfl) (E3 1 (by (rw [Ac0 hx, List.map_append]; rfl)) ⟨rfl, rfl, rfl, rfl, trivial⟩))
  ·exact qz8
  omega
 intro h10
 have k10 := of_decide_eq_false h10; try simp only [A5] at k10
 have hge : l.length ≤ i := AD1
 rw [List.take_of_length_le hge]
 refine R7 ?_
 exact G1 [0] v (trivial) rfl B0 (E6 rfl (A6 rfl B0))
theorem AV0 (l : List J4) (hs : sizeL J4.size l ≤ 1048576) : B9 Tryz.prog 182 [AV.list 8 (l.map J4.cs)] (AV.list 8 (l.map J4.cs)) :=
  K2 (Au1 l hs) fun x _ => J3 (C6 (i := 0) rfl) F5
def TGroup.fcs (g : TGroup) (v : Value) : List AV := [AV.is v, AV.int g.Term, AV.int g.Lead]
def TGroup.fow (g : TGroup) (v : Value) : List Own := [.arr v 207 3 (g.Reps.map F0.cs)]
theorem TGroup.fl (g : TGroup) (v : Value) : p8 (TGroup.fow g v) (AV.agg (TGroup.fcs g v)) (AV.agg g.cs) := AY6 (D1 (J3 (C6 (i := 0) rfl) F5) (D1 H0 (D1 H0 V2)))
theorem AM0 (g : TGroup) (hs : g.size ≤ 1048576) : C8 Tryz.prog 166 [AV.agg g.cs] [] (fun _ : Value => True) (fun v => TGroup.fow g v) (fun v => AV.agg (TGroup.fcs g v)) := by
 have hrs : sizeL F0.size g.Reps ≤ 1048576 := hs
 have hll : g.Reps.length ≤ 1048576 := Nat.le_trans L7 hrs
 refine C3 Tryz.func166 rfl Tryz.ntmps166 rfl ?_
 refine R3 ?_
 intro b1
 refine R1 ?_
 intro b2
 refine R3 ?_
 refine N8 rfl rfl rfl rfl F8 I6 ?_
 intro v5
 refine R4 ?_
 refine S4 0 rfl fun one_v5 => ?_
 refine A4 rfl (W8 (places := #[(0, 1), (1, 1), (2, 1)]) rfl S2 Tryz.zeroValue178 (fun w => by kernel_rfl) rfl (E0 (A0 rfl) (M0 one_v5) (E0 (A0 rfl) (M5 _ _) (E0 (A0 rfl) (M5 _ _) T9))) rfl) ?_
 refine R1 ?_
 intro b3
 refine R8 ?_
 refine AWP.le (C1 [0, 0] rfl) ?_
 refine J7 [(1, _), (2, _), (3, _)] _ (fun (i : Nat) (v : Value) => i ≤ g.Reps.length) (fun (i : Nat) (v : Value) => [.box b3 178 (TGroup.fcs g v), .arr v 207 3 ((g.Reps.take i).map F0.cs)]) (fun (i : Nat) (v : Value) => [(4, AV.int i)]) (fun (i : Nat) (v : Value) => g.Reps.length - i) (0) (v5) ?_ (I8 B0 ⟨rfl, rfl, rfl, rfl, trivial⟩) ?_
 ·exact Nat.zero_le _
 intro i v hinv
 refine R9 ?_
 refine A8 (A0 rfl) ?_ ?_
 ·intro h15
  have k15 := of_decide_eq_true h15; try simp only [A5] at k15
  have hlt : i < g.Reps.length := (by simpa using h15)
  obtain ⟨x, hx⟩ := get_some hlt
  have hsx : sizeL J4.size x.Log ≤ 1048576 := Nat.le_trans (X1 (f := F0.size) hx) hrs
  refine R3 ?_
  refine L6 23 F1 F1 rfl ?_
  refine R5 ?_
  refine C2 rfl rfl (C7 rfl F8 I6 (A0 rfl) (A0 rfl) hx qz4) ?_
  refine R5 ?_
  refine C2 rfl rfl (C7 rfl F8 I6 (A0 rfl) (A0 rfl) hx qz4) ?_
  refine R2 ?_
  refine C2 rfl rfl (B2 rfl Tryz.call182 rfl (AV0 x.Log hsx) (A1 (A0 rfl) A7)) ?_
  refine R3 ?_
  refine C2 rfl rfl (C7 rfl F8 I6 (A0 rfl) (A0 rfl) hx qz4) ?_
  refine R5 ?_
  refine G0 (by' := 40) 1 rfl rfl rfl rfl F8 Tryz.type207 rfl rfl rfl rfl rfl rfl (A0 rfl) (A0 rfl) rfl BB6 ?_
  intro v41_1
  refine R1 ?_
  refine S4 1 rfl fun one_v41_1 => ?_
  refine P6 0 rfl rfl rfl (A0 rfl) (A0 rfl) (M0 one_v41_1) rfl r9 rfl ?_
  refine R6 ?_
  refine G9 i v (i + 1) (v41_1) ?_ ?_ (Le.trans (C1 [0, 0] rfl) (I8 (by (rw [Ac0 hx, List.map_append]; rfl)) ⟨rfl, rfl, rfl, rfl, trivial⟩))
  ·exact qz8
  omega
 intro h15
 have k15 := of_decide_eq_false h15; try simp only [A5] at k15
 have hge : g.Reps.length ≤ i := (by simpa using h15)
 rw [List.take_of_length_le hge]
 refine R7 ?_
 exact G1 [1] v (trivial) rfl B0 (E6 rfl (G7 (ys := _) 2 rfl rfl K3 C9 rfl))
theorem BQ0 (r : F0) (t : Int) (hs : r.size ≤ 1048576) : B9 Tryz.prog 225 [AV.agg r.cs, AV.int t] (AV.bool (goodRep r t)) := by
 have hrs : sizeL J4.size r.Log ≤ 1048576 := hs
 have hll : r.Log.length ≤ 1048576 := Nat.le_trans L7 hrs
 refine B7 Tryz.func225 rfl Tryz.ntmps225 rfl ?_
 refine R3 ?_
 intro b2
 refine R19 ?_
 refine P4 rfl (fun hc => B2 rfl Tryz.call30 rfl (N5 _ _ _) (A1 (B1 rfl hc) (A1 D8 (A1 (B1 rfl hc) A7)))) ?_
 refine R3 ?_
 refine A8 (A0 rfl) ?_ ?_
 ·intro h19
  have he : goodRep r t = false := (by unfold goodRep; simp only [A5, Bool.or_eq_true, decide_eq_true_eq, Bool.not_eq_true'] at h19; rcases h19 with k | k; (rw [decide_eq_false qz8]; rfl); (rw [k]; simp))
  rw [he]
  refine R5 ?_
  exact D5 rfl (A6 rfl B0)
 intro h19
 have hh := h19
 simp only [A5, Bool.or_eq_false_iff, decide_eq_false_iff_not, Bool.not_eq_false'] at hh
 have hg : goodRep r t = logOk t 1 r.Log := (by unfold goodRep; rw [decide_eq_true qz8, hh.2]; rfl)
 refine R7 ?_
 refine J7 [(1, _), (2, _)] _ (fun (i : Nat) (p : Int) => i ≤ r.Log.length ∧ logOk t 1 r.Log = logOk t p (r.Log.drop i)) (fun (i : Nat) (p : Int) => []) (fun (i : Nat) (p : Int) => [(5, AV.int p), (6, AV.int i)]) (fun (i : Nat) (p : Int) => r.Log.length - i) (0) (1) ?_ (F2 ⟨rfl, rfl, rfl, rfl, trivial⟩) ?_
 ·exact ⟨Nat.zero_le _, rfl⟩
 intro i p hinv
 refine R9 ?_
 refine A8 (A0 rfl) ?_ ?_
 ·intro h24
  have k24 := of_decide_eq_true h24; try simp only [A5] at k24
  have hlt : i < r.Log.length := (by simpa using h24)
  obtain ⟨x, hx⟩ := get_some hlt
  have hsx : x.Rec.size ≤ 1048576 := Nat.le_trans (X1 (f := J4.size) hx) hrs
  refine R9 ?_
  refine A4 rfl (C7 rfl N6 T6 (A0 rfl) (A0 rfl) hx qz4) ?_
  refine R4 ?_
  refine A4 rfl (B2 rfl Tryz.call30 rfl (N5 _ _ _) (A1 (A0 rfl) (A1 (A0 rfl) (A1 (A0 rfl) A7)))) ?_
  refine R5 ?_
  refine P4 rfl (fun hc => C7 rfl N6 T6 (B1 rfl hc) (B1 rfl hc) hx qz6) ?_
  refine R2 ?_
  refine P4 rfl (fun hc => B2 rfl Tryz.call207 rfl (Aa0 _ T0) (A1 (B1 rfl hc) A7)) ?_
  refine R3 ?_
  refine A8 (A0 rfl) ?_ ?_
  ·intro h46
   have he : goodRep r t = false := (by rw [hg, hinv.2, BJ6 hx]; simp only [Bool.or_eq_true, Bool.not_eq_true'] at h46; rcases h46 with k | k; (rw [k]; rfl); (rw [AN4, k]; simp))
   rw [he]
   refine R5 ?_
   exact D5 rfl (A6 rfl B0)
  intro h46
  refine R5 ?_
  refine A4 rfl (C7 rfl N6 T6 (A0 rfl) (A0 rfl) hx qz4) ?_
  refine R9 ?_
  refine G9 i p (i + 1) (x.Term) ?_ ?_ (F2 ⟨rfl, rfl, rfl, rfl, trivial⟩)
  ·exact ⟨by omega, by rw [hinv.2, BJ6 hx]; simp only [Bool.or_eq_false_iff, Bool.not_eq_false'] at h46; rw [h46.1, AN4, h46.2]; rfl⟩
  omega
 intro h24
 have k24 := of_decide_eq_false h24; try simp only [A5] at k24
 have hge : r.Log.length ≤ i := (by simpa using h24)
 rw [hg, hinv.2, List.drop_eq_nil_of_le hge]
 refine R6 ?_
 exact D5 rfl (A6 rfl B0)
theorem Ba6 {g : TGroup} (h : ¬ (((AF7 g.Reps.length && within g.Term 0 200) && within g.Lead (-1) ((g.Reps.length : Int) - 1)) = true)) : goodGroup g = false := by
  rw [← Bool.not_eq_true, r8]
  intro k
  apply h
  have h1 := k.term
  have h3 : within g.Lead (-1) ((g.Reps.length : Int) - 1) = true := by
    unfold within; rw [Bool.and_eq_true, decide_eq_true_eq, decide_eq_true_eq]
    rcases k.lead with e | ⟨a, b, _⟩
    · have := k.many; omega
    · omega
  have h4 : AF7 g.Reps.length = true := by unfold AF7; rw [Bool.or_eq_true, beq_iff_eq, beq_iff_eq]; have := k.many; omega
  have h5 : within g.Term 0 200 = true := by unfold within; rw [Bool.and_eq_true, decide_eq_true_eq, decide_eq_true_eq]; omega
  rw [h3, h4, h5]; rfl
theorem AD3 (g : TGroup) (hs : g.size ≤ 1048576) : B9 Tryz.prog 205 [AV.agg g.cs] (AV.bool (goodGroup g)) := by
 have hrs : sizeL F0.size g.Reps ≤ 1048576 := hs
 have hll : g.Reps.length ≤ 1048576 := Nat.le_trans L7 hrs
 refine B7 Tryz.func205 rfl Tryz.ntmps205 rfl ?_
 refine R3 ?_
 intro b1
 refine R18 ?_
 refine P4 rfl (fun hc => B2 rfl Tryz.call30 rfl (N5 _ _ _) (A1 (B1 rfl hc) (A1 D8 (A1 D8 A7)))) ?_
 refine R9 ?_
 refine P4 rfl (fun hc => B2 rfl Tryz.call30 rfl (N5 _ _ _) (A1 (B1 rfl hc) (A1 D8 (A1 (B1 rfl hc) A7)))) ?_
 refine R3 ?_
 refine A8 (A0 rfl) ?_ ?_
 ·intro h29
  have he : goodGroup g = false := Ba6 (by intro hc; simp only [AF7, Bool.and_eq_true, Bool.or_eq_true, beq_iff_eq] at hc; simp only [A5, Bool.or_eq_true, Bool.and_eq_true, bne_iff_ne, Bool.not_eq_true'] at h29; rcases h29 with (k | k) | k; (omega); (rw [hc.1.2] at k; cases k); (rw [hc.2] at k; cases k))
  rw [he]
  refine R5 ?_
  exact D5 rfl (A6 rfl qz62)
 intro h29
 have hh := h29
 simp only [A5, Bool.or_eq_false_iff, Bool.not_eq_false'] at hh
 have hlead : -1 ≤ g.Lead ∧ g.Lead ≤ (g.Reps.length : Int) - 1 := (by have h9 := hh.2; unfold within at h9; simpa using h9)
 have hm : AF7 g.Reps.length = true := (by have h9 := hh.1.1; unfold AF7; simp only [Bool.and_eq_false_iff, bne_eq_false_iff_eq] at h9; rw [Bool.or_eq_true, beq_iff_eq, beq_iff_eq]; exact h9)
 have hg : goodGroup g = ((g.Lead == -1 || (isRep g g.Lead && (repAt g g.Lead).Up)) && g.Reps.all fun r => goodRep r g.Term) := (by unfold goodGroup; rw [hm, hh.1.2]; rfl)
 refine R7 ?_
 refine E5 [(1, _)] _ (fun (i : Nat) => i ≤ g.Reps.length ∧ (g.Reps.all fun r => goodRep r g.Term) = ((g.Reps.drop i).all fun r => goodRep r g.Term)) (fun (i : Nat) => []) (fun (i : Nat) => [(3, AV.int i)]) (fun (i : Nat) => g.Reps.length - i) (0) ?_ (F2 ⟨rfl, rfl, trivial⟩) ?_
 ·exact ⟨Nat.zero_le _, rfl⟩
 intro i hinv
 refine R9 ?_
 refine A8 (A0 rfl) ?_ ?_
 ·intro h34
  have k34 := of_decide_eq_true h34; try simp only [A5] at k34
  have hlt : i < g.Reps.length := (by simpa using h34)
  obtain ⟨x, hx⟩ := get_some hlt
  have hsx : x.size ≤ 1048576 := Nat.le_trans (X1 hx) hrs
  refine R8 ?_
  refine C2 rfl rfl (C7 rfl F8 I6 (A0 rfl) (A0 rfl) hx qz4) ?_
  refine R3 ?_
  refine C2 rfl rfl (B2 rfl Tryz.call225 rfl (BQ0 _ _ T0) (A1 (A0 rfl) (A1 (A0 rfl) A7))) ?_
  refine R2 ?_
  refine A8 (A0 rfl) ?_ ?_
  ·intro h45
   have he : goodGroup g = false := (by rw [hg, hinv.2, drop_some hx, List.all_cons, show goodRep x g.Term = false by simpa using h45]; simp)
   rw [he]
   refine R5 ?_
   exact D5 rfl (A6 rfl qz62)
  intro h45
  refine R6 ?_
  refine F3 i (i + 1) ?_ ?_ (F2 ⟨rfl, rfl, trivial⟩)
  ·exact ⟨by omega, by rw [hinv.2, drop_some hx, List.all_cons, show goodRep x g.Term = true by simpa using h45]; rfl⟩
  omega
 intro h34
 have k34 := of_decide_eq_false h34; try simp only [A5] at k34
 have hge : g.Reps.length ≤ i := (by simpa using h34)
 have hall : (g.Reps.all fun r => goodRep r g.Term) = true := Ai8
 rw [hall, Bool.and_true] at hg
 refine R11 ?_
 refine P4 rfl (fun hc => C7 rfl F8 I6 (B1 rfl hc) (B1 rfl hc) (c0 (g := g) (r := g.Lead) ⟨by have h9 : ¬ g.Lead < 0 := (by simpa using hc); omega, by omega⟩) (by have h9 : ¬ g.Lead < 0 := (by simpa using hc); omega)) ?_
 refine R6 ?_
 exact D5 rfl (A6 rfl qz62)
end Go.Proofs.YtcfkbhnpfjjmjaaGreat
