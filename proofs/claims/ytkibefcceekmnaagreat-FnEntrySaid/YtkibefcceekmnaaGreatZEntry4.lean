/- Texts of the claim, part 4. -/
import Derived.Laws.IdiomStrings
import Derived.Laws.IdiomCopy
import Derived.Test.YtkibefcceekmnaaGreatZEntry3
set_option linter.unusedVariables false
set_option linter.unusedSimpArgs false
set_option maxRecDepth 100000
set_option maxHeartbeats 4000000
namespace Go.Proofs.YtkibefcceekmnaaGreat
open Go Go.AV Go.M
attribute [local irreducible] OpW OpA OpS AWP C0 I0 D7 OpE RetOk G3 H5 Le Ev F6 J1 Int.tmod Int.tdiv IntKind.wrap
theorem Ad5 (l : List Str) (hl : l.length ≤ 4194304) : D7 Tryz.prog 105 [strs l] [] (fun _ : Value => True) (fun v => [.arr v 9 1 (l.map fun s => [AV.str s])]) (fun v => AV.is v) := by
  refine D1 Tryz.func105 rfl Tryz.ntmps105 rfl ?_
  refine R2 ?_
  refine A2 rfl (E2 rfl W5) ?_
  refine R3 ?_
  refine K8 rfl rfl rfl rfl C5 G2 ?_
  intro v3
  refine R1 ?_
  refine J0 (by' := 16) 0 rfl rfl rfl rfl C5 Tryz.type9 rfl rfl rfl rfl rfl rfl (A0 rfl) (A0 rfl) rfl (by simp only [I4, A5]; omega) ?_
  intro v5_1
  refine R3 ?_
  exact E4 [0] v5_1 (trivial) rfl B1 (H4 rfl (A4 rfl B1))
theorem BF6 (v : Value) (l : List Str) (s : Str) (hs : AZ6 l) (hl : l.length ≤ 1000000) : D7 Tryz.prog 69 [AV.is v, AV.str s] [.arr v 9 1 (l.map fun s => [AV.str s])] (fun _ : Value => True) (fun v' => [.arr v' 9 1 ((putS l s).map fun s => [AV.str s])]) (fun v' => AV.is v') := by
 refine D1 Tryz.func69 rfl Tryz.ntmps69 rfl ?_
 refine R2 ?_
 refine A2 rfl (E2 rfl W5) ?_
 refine R9 ?_
 refine H7 [(0, _), (1, _), (4, _)] _ (fun (k : Nat) => k ≤ l.length ∧ ∀ i y, k ≤ i → l[i]? = some y → Op.bytesLess s y = true) (fun (k : Nat) => []) (fun (k : Nat) => [(5, AV.int k)]) (fun (k : Nat) => k) (l.length) ?_ (G7 ⟨congrArg (fun z => some (AV.int z)) (by rw [A5]), rfl, rfl, rfl, trivial⟩) ?_
 ·exact ⟨Nat.le_refl _, fun i y h1 h2 => by (have := (List.getElem?_eq_some_iff.1 h2).1; omega)⟩
 intro k hinv
 obtain ⟨y, hy0⟩ : ∃ y, 0 < k → l[k - 1]? = some y := by (by_cases h9 : 0 < k; (have h8 := hinv.1; exact ⟨_, fun _ => List.getElem?_eq_getElem (show k - 1 < l.length by omega)⟩); exact ⟨[], fun h8 => absurd h8 h9⟩)
 refine R9 ?_
 refine K1 rfl (fun hc => K7 0 rfl C5 G2 (B0 rfl hc) rfl (B0 rfl hc) Ae7 (by have := of_decide_eq_true hc; have := hinv.1; simp only [A5]; omega)) ?_
 refine K1 rfl (fun hc => Ap5 0 rfl (B0 rfl hc) rfl c4 (str_at (hy0 Ae7) Ae7)) ?_
 refine R1 ?_
 refine K1 rfl (fun hc => w_sgtr rfl (B0 rfl hc) (B0 rfl hc)) ?_
 refine R2 ?_
 refine A6 (A0 rfl) ?_ ?_
 ·intro h19
  have hkt : 0 < k ∧ Op.bytesLess s y = true := by (rw [BA2] at h19; simpa using h19)
  refine R7 ?_
  refine AN1 ?_
  refine J2 k (k - 1) ?_ ?_ (G7 ⟨congrArg (fun z => some (AV.int z)) qz5, rfl, rfl, rfl, trivial⟩)
  ·exact ⟨by omega, fun i z hi hz => if e : k ≤ i then hinv.2 i z e hz else (by have e2 : i = k - 1 := qz5; subst e2; rw [hy0 hkt.1] at hz; injection hz with hz; subst hz; exact hkt.2)⟩
  omega
 intro h19
 have hng : 0 < k → Op.bytesLess s y = false := fun h => by (rw [BA2] at h19; simpa [h] using h19)
 refine R10 ?_
 refine K1 rfl (fun hc => K7 0 rfl C5 G2 (B0 rfl hc) rfl (B0 rfl hc) Ae7 (by have := of_decide_eq_true hc; have := hinv.1; simp only [A5]; omega)) ?_
 refine K1 rfl (fun hc => Ap5 0 rfl (B0 rfl hc) rfl c4 (str_at (hy0 Ae7) Ae7)) ?_
 refine R4 ?_
 refine A6 (A0 rfl) ?_ ?_
 ·intro h32
  have hke : 0 < k ∧ y = s := by simpa using h32
  rw [Ac1 hs (by rw [← hke.2]; exact hy0 hke.1)]
  refine R6 ?_
  exact E4 [0] v (trivial) rfl qz32 (H4 rfl (A4 rfl B1))
 intro h32
 have hne : 0 < k → y ≠ s := fun h e => by simp [h, e] at h32
 rw [Ak1 hs hinv.1 hinv.2 (fun z hz hzz => by rw [hy0 hz] at hzz; injection hzz with hzz; subst hzz; exact ⟨hng hz, hne hz⟩)]
 refine R5 ?_
 refine A2 rfl (w_alo 0 rfl C5 G2 (A0 rfl) rfl (A0 rfl) qz5 AI7) ?_
 refine Ai4 [] rfl rfl rfl rfl Tryz.call105 rfl (Ad5 (l.drop k) (by rw [List.length_drop]; omega)) rfl (o0 (AO1 (A0 rfl) (lt_tailm (C6 (i := 0) rfl) qz5 qz5)) s0) qz0 qz0 qz0 ?_
 intro x37 ok37
 refine R3 ?_
 refine AWP.le (AX8 [0] 6 rfl rfl (G5 (C6 (i := 0) rfl) E3) (s6 0 rfl rfl H8)) ?_
 refine R3 ?_
 refine sq_ahi 0 rfl rfl rfl rfl C5 G2 (A0 rfl) rfl (A0 rfl) qz5 AI7 ?_
 intro v40_1
 rw [Int.toNat_natCast, ← List.map_take]
 refine Ai4 [] rfl rfl rfl rfl Tryz.call105 rfl (Ad5 (l.take k) (by rw [H2]; omega)) rfl (o0 (evb_arr 0 (A0 rfl) rfl) s0) qz0 qz0 qz0 ?_
 intro x41 ok41
 refine R2 ?_
 refine J0 (by' := 16) 0 rfl rfl rfl rfl C5 Tryz.type9 rfl rfl rfl rfl rfl rfl (A0 rfl) (A0 rfl) rfl qz69 ?_
 intro v44_2
 refine R1 ?_
 refine J0 (by' := 16) 0 rfl rfl rfl rfl C5 Tryz.type9 rfl rfl rfl rfl rfl rfl (A0 rfl) (A0 rfl) rfl (by simp only [A5, H2, List.length_drop, D5, P3]; omega) ?_
 intro v46_3
 refine R3 ?_
 exact E4 [0] v46_3 (trivial) rfl qz32 (H4 rfl (A4 rfl B1))
end Go.Proofs.YtkibefcceekmnaaGreat
namespace Go.M
open Go.AV
end Go.M
namespace Go.Proofs.YtkibefcceekmnaaGreat
open Go Go.AV Go.M
attribute [local irreducible] OpW OpA OpS AWP C0 I0 D7 OpE RetOk G3 H5 Le Ev F6 J1 Int.tmod Int.tdiv IntKind.wrap
end Go.Proofs.YtkibefcceekmnaaGreat
namespace Go.Proofs.YtkibefcceekmnaaGreat
open Go Go.AV Go.M
attribute [local irreducible] OpW OpA OpS AWP C0 I0 D7 OpE RetOk G3 H5 Le Ev F6 J1
end Go.Proofs.YtkibefcceekmnaaGreat
namespace Go.Proofs.YtkibefcceekmnaaGreat
open Go Go.AV Go.M
attribute [local irreducible] OpW OpA OpS AWP C0 I0 D7 OpE RetOk G3 H5 Le Ev F6
end Go.Proofs.YtkibefcceekmnaaGreat
namespace Go.Proofs.YtkibefcceekmnaaGreat
open Go Go.AV Go.M
attribute [local irreducible] OpW OpA OpS AWP C0 I0 D7 OpE RetOk G3 H5 Le Ev F6 J1
theorem As5 (a b : Int) : C0 Tryz.prog 133 [AV.int a, AV.int b] (AV.int (AD9 a b)) := by
 refine B3 Tryz.func133 rfl Tryz.ntmps133 rfl ?_
 refine R11 ?_
 refine A6 (A0 rfl) ?_ ?_
 ·intro h7
  have k7 := of_decide_eq_true h7; try simp only [A5] at k7
  have he : AD9 a b = a := by unfold AD9; rw [if_pos k7]
  rw [he]
  refine R6 ?_
  exact F0 rfl (A4 rfl U5)
 intro h7
 have k7 := of_decide_eq_false h7; try simp only [A5] at k7
 have he : AD9 a b = b := by unfold AD9; rw [if_neg k7]
 rw [he]
 refine R7 ?_
 exact F0 rfl (A4 rfl U5)
end Go.Proofs.YtkibefcceekmnaaGreat
namespace Go.M
open Go.AV
structure SO (s : Q5) : Prop where
  floor : 0 ≤ s.Floor
  cells : CellsOk s.Cells
  hsort : s.Held.Pairwise fun a b => a.Txn < b.Txn
  tsort : s.Told.Pairwise fun a b => a.Txn < b.Txn
  times : ∀ h ∈ s.Held, 1 ≤ h.Time
end Go.M
namespace Go.Proofs.YtkibefcceekmnaaGreat
open Go Go.AV Go.M
attribute [local irreducible] OpW OpA OpS AWP C0 I0 D7 OpE RetOk G3 H5 Le Ev F6 J1 Int.tmod Int.tdiv IntKind.wrap
theorem As6 (a b : Int) : C0 Tryz.prog 134 [AV.int a, AV.int b] (AV.int (if a < b then b else a)) := by
 refine B3 Tryz.func134 rfl Tryz.ntmps134 rfl ?_
 refine R11 ?_
 refine A6 (A0 rfl) ?_ ?_
 ·intro h7
  have k7 := of_decide_eq_true h7; try simp only [A5] at k7
  have h9 := of_decide_eq_true h7
  refine R6 ?_
  exact F0 rfl (A4 rfl (by exact congrArg AV.int (by split <;> omega)))
 intro h7
 have k7 := of_decide_eq_false h7; try simp only [A5] at k7
 have h9 := of_decide_eq_false h7
 refine R7 ?_
 exact F0 rfl (A4 rfl (by exact congrArg AV.int (by split <;> omega)))
end Go.Proofs.YtkibefcceekmnaaGreat
namespace Go.M
open Go.AV
end Go.M
namespace Go.Proofs.YtkibefcceekmnaaGreat
open Go Go.AV Go.M
attribute [local irreducible] OpW OpA OpS AWP C0 I0 D7 OpE RetOk G3 H5 Le Ev F6 J1 Int.tmod Int.tdiv IntKind.wrap
end Go.Proofs.YtkibefcceekmnaaGreat
namespace Go.Proofs.YtkibefcceekmnaaGreat
open Go Go.AV Go.M
attribute [local irreducible] OpW OpA OpS AWP C0 I0 D7 OpE RetOk G3 H5 Le Ev F6 J1 Int.tmod IntKind.wrap bandI
theorem BF7 (b : Nat) (code : List Int) (hcode : Q6 code) (c : J6) (hp : c.p ≤ 6000000) : D7 Tryz.prog 125 [AV.ptr b 0] [.box b 47 (L6 code c)] (fun x : J6 × Str => x.1.p ≤ c.p + 2 ∧ x.2.length ≤ 64) (fun x => [.box b 47 (L6 code x.1)]) (fun x => AV.str x.2) := by
  refine D1 Tryz.func125 rfl Tryz.ntmps125 rfl ?_
  refine R2 ?_
  refine A2 rfl (E2 rfl (D4 (l := []) rfl)) ?_
  refine R4 ?_
  refine A2 rfl (m5 rfl C5 G2 Tryz.zeroValue9 rfl rfl rfl rfl (E1 (D4 (l := []) rfl) (K6 _) (E1 (D4 (l := [49]) rfl) (K6 _) (E1 (D4 (l := [55]) rfl) (K6 _) (E1 (D4 (l := [49, 48]) rfl) (K6 _) (E1 (D4 (l := [45, 51]) rfl) (K6 _) (E1 (D4 (l := [120]) rfl) (K6 _) (E1 (D4 (l := [97, 44, 98, 95, 99]) rfl) (K6 _) O8))))))) rfl rfl) ?_
  refine B6 [0] rfl rfl rfl rfl Tryz.call57 rfl (AQ8 _ _ hcode _ ([[], [49], [55], [49, 48], [45, 51], [120], [97, 44, 98, 95, 99]] : List Str) B5 qz5) (A1 (A0 rfl) (A1 (A0 rfl) A3)) rfl ?_
  intro x5 ok5
  refine R3 ?_
  (refine E4 [0] ((_, _)) ?_ rfl qz7 (H4 rfl (A4 rfl B1)); exact ok5)
theorem As7 (b : Nat) (code : List Int) (hcode : Q6 code) (c : J6) (key : Str) (hp : c.p ≤ 5000000) : D7 Tryz.prog 106 [AV.ptr b 0, AV.str key] [.box b 47 (L6 code c)] (fun x : J6 × B4 => x.1.p ≤ c.p + 4 ∧ x.2.Key = key ∧ x.2.Val.length ≤ 64) (fun x => [.box b 47 (L6 code x.1)]) (fun x => AV.agg x.2.cs) := by
 refine D1 Tryz.func106 rfl Tryz.ntmps106 rfl ?_
 refine R3 ?_
 intro b4
 refine R5 ?_
 refine B6 [1] rfl rfl rfl rfl Tryz.call37 rfl (q9 _ _ hcode _ _ qz5 qz5) (A1 (A0 rfl) (A1 D6 A3)) rfl ?_
 intro x6 ok6
 refine R1 ?_
 refine A6 (A0 rfl) ?_ ?_
 ·intro h6
  refine R7 ?_
  (refine E4 [0] ((_, ⟨_, _, _⟩)) ?_ rfl qz7 (H4 rfl (C4 (ys := _) 1 rfl rfl Tryz.isAgg100 L1 rfl)); (dsimp only; first | exact ⟨by omega, rfl, by simp⟩ | exact ⟨by omega, rfl, ok11.2⟩))
 intro h6
 refine R5 ?_
 refine B6 [0] rfl rfl rfl rfl Tryz.call125 rfl (BF7 _ _ hcode _ qz5) (A1 (A0 rfl) A3) rfl ?_
 intro x11 ok11
 refine R4 ?_
 (refine E4 [0] ((_, ⟨_, _, _⟩)) ?_ rfl qz7 (H4 rfl (C4 (ys := _) 1 rfl rfl Tryz.isAgg100 L1 rfl)); (dsimp only; first | exact ⟨by omega, rfl, by simp⟩ | exact ⟨by omega, rfl, ok11.2⟩))
def keysD : List Str := [[97], [98], [99], [105, 47, 120, 47, 49], [109], [110], [114, 47, 49], [122]]
theorem BK6 {s : Str} {i : Nat} (h : keysD[i]? = some s) : s.length ≤ 5 := by
  have : ∀ s ∈ keysD, s.length ≤ 5 := by decide
  exact this s (C6 h)
theorem Am8 (b : Nat) (code : List Int) (hcode : Q6 code) (c : J6) (hp : c.p ≤ 3000000) : D7 Tryz.prog 71 [AV.ptr b 0] [.box b 47 (L6 code c)] (fun x : J6 × List B4 × Value => x.1.p ≤ c.p + 48 ∧ sizeL B4.size x.2.1 ≤ 560) (fun x => [.box b 47 (L6 code x.1), .arr x.2.2 100 3 (x.2.1.map B4.cs)]) (fun x => AV.is x.2.2) := by
 refine D1 Tryz.func71 rfl Tryz.ntmps71 rfl ?_
 refine R2 ?_
 refine A2 rfl (E2 rfl W5) ?_
 refine R3 ?_
 refine AE3 100 3 rfl rfl rfl rfl W5 ?_
 intro v3
 refine R4 ?_
 refine A2 rfl (m5 rfl C5 G2 Tryz.zeroValue9 rfl rfl rfl rfl (E1 (D4 (l := [97]) rfl) (K6 _) (E1 (D4 (l := [98]) rfl) (K6 _) (E1 (D4 (l := [99]) rfl) (K6 _) (E1 (D4 (l := [105, 47, 120, 47, 49]) rfl) (K6 _) (E1 (D4 (l := [109]) rfl) (K6 _) (E1 (D4 (l := [110]) rfl) (K6 _) (E1 (D4 (l := [114, 47, 49]) rfl) (K6 _) (E1 (D4 (l := [122]) rfl) (K6 _) O8)))))))) rfl rfl) ?_
 refine R4 ?_
 refine AWP.le (H6 [1, 0] rfl) ?_
 refine T0 [(0, _), (2, _), (6, _), (7, _)] _ (fun (i : Nat) (cc : J6) (l : List B4) (v : Value) => i ≤ 8 ∧ cc.p ≤ c.p + 6 * i ∧ sizeL B4.size l ≤ 70 * i) (fun (i : Nat) (cc : J6) (l : List B4) (v : Value) => [.box b 47 (L6 code cc), .arr v 100 3 (l.map B4.cs)]) (fun (i : Nat) (cc : J6) (l : List B4) (v : Value) => [(3, AV.is v), (8, AV.int i)]) (fun (i : Nat) (cc : J6) (l : List B4) (v : Value) => 8 - i) (0) (c) ([]) (v3) ?_ (J5 B1 ⟨rfl, rfl, rfl, rfl, rfl, rfl, trivial⟩) ?_
 ·exact ⟨by omega, by omega, by simp [sizeL]⟩
 intro i cc l v hinv
 refine R5 ?_
 refine A6 (A0 rfl) ?_ ?_
 ·intro h9
  have k9 := of_decide_eq_true h9; try simp only [A5] at k9
  have hlt : i < 8 := by simp only [P3] at k9; omega
  obtain ⟨y, hy⟩ := E7 (show i < keysD.length from hlt)
  have hyl := BK6 hy
  have hyy : (keysD.map fun s => [AV.str s])[i]? = some [AV.str y] := by rw [List.getElem?_map, hy]; rfl
  have hll : l.length ≤ 560 := by have := K2 (f := B4.size) (l := l); omega
  refine R5 ?_
  refine A2 rfl (Ao3 rfl C5 G2 (A0 rfl) (A0 rfl) qz5 (by rw [Int.toNat_natCast]; exact hyy)) ?_
  refine R6 ?_
  refine B6 [0] rfl rfl rfl rfl Tryz.call37 rfl (q9 _ _ hcode _ _ qz5 qz5) (A1 (A0 rfl) (A1 D6 A3)) rfl ?_
  intro x13 ok13
  refine R1 ?_
  refine A6 (A0 rfl) ?_ ?_
  ·intro h13
   refine R4 ?_
   refine B6 [0] rfl rfl rfl rfl Tryz.call106 rfl (As7 _ _ hcode _ _ qz5) (A1 (A0 rfl) (A1 (A0 rfl) A3)) rfl ?_
   intro x17 ok17
   refine R1 ?_
   refine J0 (by' := 40) 1 rfl rfl rfl rfl I3 Tryz.type100 rfl rfl rfl rfl rfl rfl (A0 rfl) (A0 rfl) rfl qz1 ?_
   intro v19_1
   refine R6 ?_
   refine Q1 i cc l v (i + 1) (x17.1) (l ++ [x17.2]) (v19_1) ?_ ?_ (Le.trans (H6 [0, 0] rfl) (J5 AG1 ⟨rfl, rfl, rfl, rfl, rfl, rfl, trivial⟩))
   ·exact ⟨by omega, by omega, by (have h9 : x17.2.size ≤ 69 := by unfold B4.size; rw [ok17.2.1]; omega); rw [show sizeL B4.size (l ++ [x17.2]) = sizeL B4.size l + x17.2.size + 1 from by unfold sizeL; simp; omega]; omega⟩
   omega
  intro h13
  refine R5 ?_
  refine Q1 i cc l v (i + 1) (x13.1) (l) (v) ?_ ?_ (Le.trans (H6 [0, 0] rfl) (J5 AG1 ⟨rfl, rfl, rfl, rfl, rfl, rfl, trivial⟩))
  ·exact ⟨by omega, by omega, by omega⟩
  omega
 intro h9
 have k9 := of_decide_eq_false h9; try simp only [A5] at k9
 refine R7 ?_
 (refine E4 [0, 0] ((cc, l, v)) ?_ rfl qz7 (H4 rfl (A4 rfl B1)); exact ⟨show cc.p ≤ _ by omega, show sizeL B4.size l ≤ _ by omega⟩)
end Go.Proofs.YtkibefcceekmnaaGreat
namespace Go.M
open Go.AV
theorem z8 {α : Type} (f : α → Nat) (l : List α) (x : α) : sizeL f (l ++ [x]) = sizeL f l + f x + 1 := by unfold sizeL; simp; omega
theorem Al2 (s : Str) : ∀ l : List Str, sizeL (fun x : Str => x.length) (putS l s) ≤ sizeL (fun x : Str => x.length) l + s.length + 1
  | [] => by unfold putS sizeL; simp; omega
  | y :: l => by
    have ih := Al2 s l
    have hc : ∀ (z : Str) (q : List Str), sizeL (fun x : Str => x.length) (z :: q) = sizeL (fun x : Str => x.length) q + z.length + 1 := fun z q => by unfold sizeL; simp; omega
    unfold putS
    split
    · rw [hc s]; omega
    · split
      · omega
      · rw [hc, hc]; omega
end Go.M
namespace Go.Proofs.YtkibefcceekmnaaGreat
open Go Go.AV Go.M
attribute [local irreducible] OpW OpA OpS AWP C0 I0 D7 OpE RetOk G3 H5 Le Ev F6 J1 Int.tmod Int.tdiv IntKind.wrap bandI
theorem Ad6 (b : Nat) (code : List Int) (hcode : Q6 code) (c : J6) (hp : c.p ≤ 2000000) : D7 Tryz.prog 36 [AV.ptr b 0] [.box b 47 (L6 code c)] (fun x : J6 × E8 × Value × Value => x.1.p ≤ c.p + 100 ∧ x.2.1.size ≤ 1000 ∧ 0 ≤ x.2.1.Lead ∧ x.2.1.Lead ≤ 3 ∧ 0 ≤ x.2.1.Time ∧ x.2.1.Time ≤ 100001) (fun x => .box b 47 (L6 code x.1) :: E8.ow x.2.1 x.2.2) (fun x => AV.agg (E8.ocs x.2.1 x.2.2)) := by
 refine D1 Tryz.func36 rfl Tryz.ntmps36 rfl ?_
 refine R3 ?_
 intro b2
 refine R4 ?_
 refine B6 [1] rfl rfl rfl rfl Tryz.call22 rfl (I5 _ _ hcode _ _ qz5 qz5) (A1 (A0 rfl) (A1 D6 A3)) rfl ?_
 intro x6 ok6
 refine R2 ?_
 refine B6 [0] rfl rfl rfl rfl Tryz.call22 rfl (I5 _ _ hcode _ _ qz5 qz5) (A1 (A0 rfl) (A1 D6 A3)) rfl ?_
 intro x9 ok9
 refine R2 ?_
 refine B6 [0] rfl rfl rfl rfl Tryz.call22 rfl (I5 _ _ hcode _ _ qz5 qz5) (A1 (A0 rfl) (A1 D6 A3)) rfl ?_
 intro x12 ok12
 refine R3 ?_
 intro b3
 refine R14 ?_
 refine A6 (A0 rfl) ?_ ?_
 ·intro h24
  have k24 := F3 h24; try simp only [A5] at k24
  refine R3 ?_
  refine B6 [1] rfl rfl rfl rfl Tryz.call22 rfl (I5 _ _ hcode _ _ qz5 qz5) (A1 (A0 rfl) (A1 D6 A3)) rfl ?_
  intro x27 ok27
  refine R7 ?_
  refine B6 [0] rfl rfl rfl rfl Tryz.call22 rfl (I5 _ _ hcode _ _ qz5 qz5) (A1 (A0 rfl) (A1 D6 A3)) rfl ?_
  intro x30 ok30
  refine R3 ?_
  refine AJ9 9 1 ?_
  refine AWP.le (H6 [2, 1, 0] rfl) ?_
  refine T0 [(0, _), (2, _), (3, _)] _ (fun (n : Int) (cc : J6) (l : List Str) (v : Value) => (0 ≤ n ∧ n + l.length ≤ 3) ∧ cc.p + 4 * n ≤ c.p + 22 ∧ AZ6 l ∧ sizeL (fun x : Str => x.length) l + 70 * n ≤ 210) (fun (n : Int) (cc : J6) (l : List Str) (v : Value) => [.box b3 27 [AV.int (1 + x6.2), AV.int (1 + x9.2), AV.int (1 + x12.2), AV.int x27.2, AV.is v, AV.nils, AV.bool false], .box b 47 (L6 code cc), .arr v 9 1 (l.map fun t => [AV.str t])]) (fun (n : Int) (cc : J6) (l : List Str) (v : Value) => [(4, AV.int n)]) (fun (n : Int) (cc : J6) (l : List Str) (v : Value) => n.toNat) (x30.2) (x30.1) ([]) ((Value.slice none 0 0)) ?_ (J5 B1 ⟨rfl, rfl, rfl, rfl, trivial⟩) ?_
  ·exact ⟨⟨by omega, by simp; omega⟩, by omega, List.Pairwise.nil, by simp [sizeL]; omega⟩
  intro n cc l v hinv
  refine R6 ?_
  refine A6 (A0 rfl) ?_ ?_
  ·intro h32
   have k32 := of_decide_eq_true h32; try simp only [A5] at k32
   refine R3 ?_
   refine Z4 _ [(0, false), (1, false), (2, false), (3, true), (4, true)] F9 F9 rfl (X4 1) ?_
   refine R3 ?_
   refine g8 rfl rfl rfl (K5 [1] rfl Tryz.call70 rfl (BF2 _ _ hcode _ qz5) (A1 (A0 rfl) A3) rfl) (fun a _ => qz2) ?_
   intro x38 ok38
   refine g8 rfl rfl rfl (K5 [1] rfl Tryz.call69 rfl (BF6 v l x38.2 hinv.2.2.1 qz5) (A1 (A0 rfl) (A1 (A0 rfl) A3)) rfl) (fun a _ => qz2) ?_
   intro x39 ok39
   refine R2 ?_
   refine Q8 3 rfl fun one_x39 => ?_
   refine O0 0 rfl rfl rfl (A0 rfl) (A0 rfl) (P2 one_x39) rfl Z6 rfl ?_
   refine R6 ?_
   refine Q1 n cc l v (n - 1) (x38.1) (putS l x38.2) (x39) ?_ ?_ (Le.trans (H6 [0, 1, 1] rfl) (J5 B1 ⟨rfl, rfl, rfl, rfl, trivial⟩))
   ·(have h9 := Aq7 x38.2 l; have h8 := Al2 x38.2 l; exact ⟨⟨by omega, by omega⟩, by omega, (Aq6 hinv.2.2.1).1, by omega⟩)
   omega
  intro h32
  have k32 := of_decide_eq_false h32; try simp only [A5] at k32
  refine R4 ?_
  refine B6 [1] rfl rfl rfl rfl Tryz.call71 rfl (Am8 _ _ hcode _ qz5) (A1 (A0 rfl) A3) rfl ?_
  intro x42 ok42
  refine R1 ?_
  refine Q8 1 rfl fun one_x42_2_2 => ?_
  refine O0 2 rfl rfl rfl (A0 rfl) (A0 rfl) (P2 one_x42_2_2) rfl Tryz.sizeOf25 rfl ?_
  refine R9 ?_
  refine A2 rfl (AN5 rfl (A0 rfl) (A0 rfl) (by simp only [A5]; have h9 := K2 (f := B4.size) (l := x42.2.1); omega)) ?_
  refine R2 ?_
  refine A6 (A0 rfl) ?_ ?_
  ·intro h51
   have k51 := F3 h51; try simp only [A5] at k51
   refine R1 ?_
   refine BC5 rfl rfl rfl rfl C5 G2 Tryz.zeroValue9 rfl rfl rfl rfl (E1 (D4 (l := [97]) rfl) (K6 _) O8) rfl rfl ?_
   intro v52
   refine R1 ?_
   refine Q8 0 rfl fun one_v52 => ?_
   refine O0 3 rfl rfl rfl (A0 rfl) (A0 rfl) (P2 one_v52) rfl Z6 rfl ?_
   refine R7 ?_
   (refine E4 [1, 0, 0] ((x42.1, ⟨1 + x6.2, 1 + x9.2, 1 + x12.2, x27.2, [[97]], x42.2.1, false⟩, v52, x42.2.2)) ?_ rfl qz7 (H4 rfl (C4 (ys := _) 5 rfl rfl I2 G9 rfl)); (dsimp only [E8.size]; exact ⟨by omega, by first | (simp [sizeL]; done) | (simp only [sizeL, E6, I4, List.map_cons, List.map_nil, List.sum_cons, List.sum_nil] at *; omega) | omega, by omega, by omega, by omega, by omega⟩))
  intro h51
  have k51 := F2 h51; try simp only [A5] at k51
  refine R7 ?_
  (refine E4 [0, 2, 0] ((x42.1, ⟨1 + x6.2, 1 + x9.2, 1 + x12.2, x27.2, l, x42.2.1, false⟩, v, x42.2.2)) ?_ rfl qz7 (H4 rfl (C4 (ys := _) 4 rfl rfl I2 G9 rfl)); (dsimp only [E8.size]; exact ⟨by omega, by first | (simp [sizeL]; done) | (simp only [sizeL, E6, I4, List.map_cons, List.map_nil, List.sum_cons, List.sum_nil] at *; omega) | omega, by omega, by omega, by omega, by omega⟩))
 intro h24
 have k24 := F2 h24; try simp only [A5] at k24
 refine R5 ?_
 refine A6 (A0 rfl) ?_ ?_
 ·intro h54
  have k54 := F3 h54; try simp only [A5] at k54
  refine R10 ?_
  refine L2 9 1 ?_
  refine L2 100 3 ?_
  (refine E4 [3, 1, 0] ((x12.1, ⟨1 + x6.2, 0, 1 + x12.2, 0, [], [], false⟩, Value.slice none 0 0, Value.slice none 0 0)) ?_ rfl qz7 (H4 rfl (C4 (ys := _) 4 rfl rfl I2 G9 rfl)); (dsimp only [E8.size]; exact ⟨by omega, by first | (simp [sizeL]; done) | (simp only [sizeL, E6, I4, List.map_cons, List.map_nil, List.sum_cons, List.sum_nil] at *; omega) | omega, by omega, by omega, by omega, by omega⟩))
 intro h54
 have k54 := F2 h54; try simp only [A5] at k54
 refine R3 ?_
 refine B6 [1] rfl rfl rfl rfl Tryz.call37 rfl (q9 _ _ hcode _ _ qz5 qz5) (A1 (A0 rfl) (A1 D6 A3)) rfl ?_
 intro x18 ok18
 refine R9 ?_
 refine A6 (A0 rfl) ?_ ?_
 ·intro h22
  refine R10 ?_
  refine L2 9 1 ?_
  refine L2 100 3 ?_
  (refine E4 [2, 1, 0] ((x18.1, ⟨1 + x6.2, 1 + x9.2, 0, 0, [], [], x18.2⟩, Value.slice none 0 0, Value.slice none 0 0)) ?_ rfl qz7 (H4 rfl (C4 (ys := _) 4 rfl rfl I2 G9 rfl)); (dsimp only [E8.size]; exact ⟨by omega, by first | (simp [sizeL]; done) | (simp only [sizeL, E6, I4, List.map_cons, List.map_nil, List.sum_cons, List.sum_nil] at *; omega) | omega, by omega, by omega, by omega, by omega⟩))
 intro h22
 refine R7 ?_
 refine L2 9 1 ?_
 refine L2 100 3 ?_
 (refine E4 [2, 1, 0] ((x18.1, ⟨1 + x6.2, 1 + x9.2, 1 + x12.2, 0, [], [], x18.2⟩, Value.slice none 0 0, Value.slice none 0 0)) ?_ rfl qz7 (H4 rfl (C4 (ys := _) 4 rfl rfl I2 G9 rfl)); (dsimp only [E8.size]; exact ⟨by omega, by first | (simp [sizeL]; done) | (simp only [sizeL, E6, I4, List.map_cons, List.map_nil, List.sum_cons, List.sum_nil] at *; omega) | omega, by omega, by omega, by omega, by omega⟩))
theorem Am9 (b : Nat) (code : List Int) (hcode : Q6 code) (c : J6) (hp : c.p ≤ 1000000) : D7 Tryz.prog 38 [AV.ptr b 0] [.box b 47 (L6 code c)] (fun x : J6 × E8 × Value × Value => x.1.p ≤ c.p + 120 ∧ x.2.1.size ≤ 1002 ∧ 0 ≤ x.2.1.Lead ∧ x.2.1.Lead ≤ 3 ∧ 0 ≤ x.2.1.Time ∧ x.2.1.Time ≤ 100001) (fun x => .box b 47 (L6 code x.1) :: E8.ow x.2.1 x.2.2) (fun x => AV.agg (E8.ocs x.2.1 x.2.2)) := by
 refine D1 Tryz.func38 rfl Tryz.ntmps38 rfl ?_
 refine R3 ?_
 intro b2
 refine R4 ?_
 refine B6 [1] rfl rfl rfl rfl Tryz.call36 rfl (Ad6 _ _ hcode _ qz5) (A1 (A0 rfl) A3) rfl ?_
 intro x5 ok5
 have hsz := ok5.2.1
 have hld := ok5.2.2
 unfold E8.size at hsz
 have hrl : x5.2.1.Reads.length ≤ 1000 := Nat.le_trans K2 (show sizeL (fun x : Str => x.length) x5.2.1.Reads ≤ 1000 by omega)
 refine R1 ?_
 intro b3
 refine R6 ?_
 refine B6 [1] rfl rfl rfl rfl Tryz.call22 rfl (I5 _ _ hcode _ _ qz5 qz5) (A1 (A0 rfl) (A1 D6 A3)) rfl ?_
 intro x7 ok7
 refine R7 ?_
 refine A6 (A0 rfl) ?_ ?_
 ·intro h8
  have k8 := F3 h8; try simp only [A5] at k8
  refine R2 ?_
  refine B6 [0] rfl rfl rfl rfl Tryz.call22 rfl (I5 _ _ hcode _ _ qz5 qz5) (A1 (A0 rfl) (A1 D6 A3)) rfl ?_
  intro x11 ok11
  refine R9 ?_
  (refine E4 [0, 1, 1] ((x11.1, ⟨x11.2, x5.2.1.Txn, x5.2.1.Time, x5.2.1.Lead, x5.2.1.Reads, x5.2.1.Writes, x5.2.1.Yes⟩, x5.2.2.1, x5.2.2.2)) ?_ rfl qz26 (H4 rfl (C4 (ys := _) 4 rfl rfl I2 G9 rfl)); (dsimp only [E8.size]; exact ⟨by omega, by first | omega | (rw [z8]; simp only [E6, I4]; omega), hld.1, hld.2.1, by first | exact hld.2.2.1 | (have h9 := ok23.2; simp at h9; omega), by first | exact hld.2.2.2 | (have h9 := ok23.2; simp at h9; omega)⟩))
 intro h8
 have k8 := F2 h8; try simp only [A5] at k8
 refine R5 ?_
 refine A6 (A0 rfl) ?_ ?_
 ·intro h13
  have k13 := F3 h13; try simp only [A5] at k13
  refine R3 ?_
  refine B6 [0] rfl rfl rfl rfl Tryz.call35 rfl (i4 _ _ hcode _ ([(0), (60), (61)] : List Int) B5 qz5) (A1 (A0 rfl) (A1 (A0 rfl) A3)) rfl ?_
  intro x17 ok17
  refine R9 ?_
  (refine E4 [0, 1, 1] ((x17.1, ⟨x5.2.1.Kind, x17.2, x5.2.1.Time, x5.2.1.Lead, x5.2.1.Reads, x5.2.1.Writes, x5.2.1.Yes⟩, x5.2.2.1, x5.2.2.2)) ?_ rfl qz26 (H4 rfl (C4 (ys := _) 4 rfl rfl I2 G9 rfl)); (dsimp only [E8.size]; exact ⟨by omega, by first | omega | (rw [z8]; simp only [E6, I4]; omega), hld.1, hld.2.1, by first | exact hld.2.2.1 | (have h9 := ok23.2; simp at h9; omega), by first | exact hld.2.2.2 | (have h9 := ok23.2; simp at h9; omega)⟩))
 intro h13
 have k13 := F2 h13; try simp only [A5] at k13
 refine R5 ?_
 refine A6 (A0 rfl) ?_ ?_
 ·intro h19
  have k19 := F3 h19; try simp only [A5] at k19
  refine R3 ?_
  refine B6 [0] rfl rfl rfl rfl Tryz.call35 rfl (i4 _ _ hcode _ ([(0), (100000), (100001)] : List Int) B5 qz5) (A1 (A0 rfl) (A1 (A0 rfl) A3)) rfl ?_
  intro x23 ok23
  refine R9 ?_
  (refine E4 [0, 1, 1] ((x23.1, ⟨x5.2.1.Kind, x5.2.1.Txn, x23.2, x5.2.1.Lead, x5.2.1.Reads, x5.2.1.Writes, x5.2.1.Yes⟩, x5.2.2.1, x5.2.2.2)) ?_ rfl qz26 (H4 rfl (C4 (ys := _) 4 rfl rfl I2 G9 rfl)); (dsimp only [E8.size]; exact ⟨by omega, by first | omega | (rw [z8]; simp only [E6, I4]; omega), hld.1, hld.2.1, by first | exact hld.2.2.1 | (have h9 := ok23.2; simp at h9; omega), by first | exact hld.2.2.2 | (have h9 := ok23.2; simp at h9; omega)⟩))
 intro h19
 have k19 := F2 h19; try simp only [A5] at k19
 refine R5 ?_
 refine A6 (A0 rfl) ?_ ?_
 ·intro h25
  have k25 := F3 h25; try simp only [A5] at k25
  refine R3 ?_
  refine A2 rfl (m5 rfl C5 G2 Tryz.zeroValue9 rfl rfl rfl rfl (E1 (D4 (l := [97]) rfl) (K6 _) O8) rfl rfl) ?_
  refine J0 (by' := 16) 2 rfl rfl rfl rfl C5 Tryz.type9 rfl rfl rfl rfl rfl rfl (A0 rfl) (A0 rfl) rfl qz43 ?_
  intro v30_1
  refine R1 ?_
  refine Q8 2 rfl fun one_v30_1 => ?_
  refine O0 1 rfl rfl rfl (A0 rfl) (A0 rfl) (P2 one_v30_1) rfl Z6 rfl ?_
  refine R7 ?_
  (refine E4 [0, 1, 1] ((x7.1, ⟨x5.2.1.Kind, x5.2.1.Txn, x5.2.1.Time, x5.2.1.Lead, x5.2.1.Reads ++ [[97]], x5.2.1.Writes, x5.2.1.Yes⟩, v30_1, x5.2.2.2)) ?_ rfl qz26 (H4 rfl (C4 (ys := _) 4 rfl rfl I2 G9 rfl)); (dsimp only [E8.size]; exact ⟨by omega, by first | omega | (rw [z8]; simp only [E6, I4]; omega), hld.1, hld.2.1, by first | exact hld.2.2.1 | (have h9 := ok23.2; simp at h9; omega), by first | exact hld.2.2.2 | (have h9 := ok23.2; simp at h9; omega)⟩))
 intro h25
 have k25 := F2 h25; try simp only [A5] at k25
 refine R7 ?_
 (refine E4 [0, 1, 1] ((x7.1, x5.2.1, x5.2.2.1, x5.2.2.2)) ?_ rfl qz26 (H4 rfl (C4 (ys := _) 4 rfl rfl I2 G9 rfl)); (dsimp only [E8.size]; exact ⟨by omega, by first | omega | (rw [z8]; simp only [E6, I4]; omega), hld.1, hld.2.1, by first | exact hld.2.2.1 | (have h9 := ok23.2; simp at h9; omega), by first | exact hld.2.2.2 | (have h9 := ok23.2; simp at h9; omega)⟩))
end Go.Proofs.YtkibefcceekmnaaGreat
namespace Go.M
open Go.AV
theorem AF5 {α : Type} {f : α → Nat} {c : Nat} : ∀ {l : List α}, (∀ x ∈ l, f x ≤ c) → sizeL f l ≤ l.length * (c + 1)
  | [], _ => Nat.zero_le _
  | x :: l, h => by
    have h1 := AF5 (l := l) fun y hy => h y (List.mem_cons_of_mem _ hy)
    have h2 := h x List.mem_cons_self
    unfold sizeL at h1 ⊢
    simp only [E6, List.map_cons, List.sum_cons]
    have : (l.length + 1) * (c + 1) = l.length * (c + 1) + (c + 1) := Nat.succ_mul _ _
    omega
theorem gr_size {r : C1} {t : Int} (h : GR r t) : r.size ≤ 60 * 401 := by
  unfold C1.size
  refine Nat.le_trans (AF5 (c := 400) fun e he => ?_) (Nat.mul_le_mul_right _ h.len)
  exact X0 (h.ents e he).2.2
theorem gg_size {g : TGroup} (h : GG g) : g.size ≤ 5 * 24061 := by
  unfold TGroup.size
  refine Nat.le_trans (AF5 (c := 24060) fun r hr => gr_size (h.reps r hr)) (Nat.mul_le_mul_right _ ?_)
  rcases h.many with k | k <;> omega
theorem Ax1 {a b : List B8} {i : Nat} {x y : B8} (h : a.take i = b.take i) (hx : a[i]? = some x) (hy : b[i]? = some y) (he : x = y) : a.take (i + 1) = b.take (i + 1) := by
  rw [List.take_add_one, List.take_add_one, h, hx, hy, he]
theorem BK7 {a b : List B8} {i n : Nat} {x y : B8} (hi : i < n) (hx : a[i]? = some x) (hy : b[i]? = some y) (he : x ≠ y) : begins a b n = false := by
  unfold begins
  refine decide_eq_false fun h => he ?_
  have h1 := congrArg (fun l => l[i]?) h.2.2
  rw [List.getElem?_take_of_lt hi, List.getElem?_take_of_lt hi, hx, hy] at h1
  injection h1
theorem As8 {x y : B8} : (x.Term != y.Term || !decide (x.Rec = y.Rec)) = !decide (x = y) := by
  cases x; cases y
  rw [Bool.eq_iff_iff]
  simp only [Bool.or_eq_true, bne_iff_ne, ne_eq, Bool.not_eq_true', decide_eq_false_iff_not, B8.mk.injEq, not_and]
  exact ⟨fun h e1 e2 => h.elim (fun k => k e1) (fun k => k e2), fun h => Classical.byCases (fun e1 => .inr (h e1)) .inl⟩
theorem f4 {α : Type} {p : α → Bool} {l : List α} {i : Nat} {x : α} (h : l[i]? = some x) : ((l.take (i + 1)).filter p).length = ((l.take i).filter p).length + (if p x = true then 1 else 0) := by
  rw [List.take_add_one, h, List.filter_append, D5]
  congr 1
  show ([x].filter p).length = _
  by_cases hp : p x = true
  · rw [List.filter_cons_of_pos hp, if_pos hp]; rfl
  · rw [List.filter_cons_of_neg hp, if_neg hp]; rfl
theorem BK8 {l : List B8} {e : B8} (h : l[l.length - 1]? = some e) : V1 l = e.Term := by
  unfold V1
  rw [List.getLast?_eq_getElem?, h]
theorem BF8 {l : List B8} (h : l.length = 0) : V1 l = 0 := by
  rw [List.eq_nil_of_length_eq_zero h]; rfl
theorem Ad7 {t : Int} {l : List B8} {i : Nat} {p : Int} {e : B8} (hx : l[i]? = some e) : logOk t p (l.drop i) = ((within e.Term p t && goodRec e.Rec) && logOk t e.Term (l.drop (i + 1))) := by
  rw [drop_some hx]; rfl
end Go.M
namespace Go.Proofs.YtkibefcceekmnaaGreat
open Go Go.AV Go.M
attribute [local irreducible] OpW OpA OpS AWP C0 I0 D7 OpE RetOk G3 H5 Le Ev F6 J1 Ah5 Int.tmod Int.tdiv IntKind.wrap bandI
theorem Ax2 (a b : E8) (hs : a.size ≤ 1048576) : C0 Tryz.prog 137 [AV.agg a.cs, AV.agg b.cs] (AV.bool (decide (a = b))) := by
 have hl1 := K2 (f := fun s : Str => s.length) (l := a.Reads)
 have hl2 := K2 (f := B4.size) (l := a.Writes)
 have hs9 : sizeL (fun s : Str => s.length) a.Reads + sizeL B4.size a.Writes ≤ 1048576 := hs
 refine B3 Tryz.func137 rfl Tryz.ntmps137 rfl ?_
 refine R3 ?_
 intro b2
 refine R1 ?_
 intro b3
 refine R36 ?_
 refine L0 rfl (fun hc => Ap1 rfl O6 (B0 rfl hc) (B0 rfl hc)) ?_
 refine R20 ?_
 refine A6 (A0 rfl) ?_ ?_
 ·intro h57
  have hne : a ≠ b := fun e => (by subst e; simp at h57)
  rw [decide_eq_false hne]
  refine R5 ?_
  exact F0 rfl (A4 rfl B1)
 intro h57
 have hh := h57
 simp only [Bool.or_eq_false_iff, bne_eq_false_iff_eq, A5] at hh
 refine R7 ?_
 refine H7 [(2, _), (3, _)] _ (fun (i : Nat) => i ≤ a.Reads.length ∧ a.Reads.take i = b.Reads.take i) (fun (i : Nat) => []) (fun (i : Nat) => [(5, AV.int i)]) (fun (i : Nat) => a.Reads.length - i) (0) ?_ (G7 ⟨rfl, rfl, rfl, trivial⟩) ?_
 ·exact ⟨Nat.zero_le _, rfl⟩
 intro i hinv
 refine R9 ?_
 refine A6 (A0 rfl) ?_ ?_
 ·intro h62
  have k62 := of_decide_eq_true h62; try simp only [A5] at k62
  have hlt : i < a.Reads.length := (by simpa using h62)
  obtain ⟨x, hx⟩ := E7 hlt
  obtain ⟨y, hy⟩ := E7 (show i < b.Reads.length by omega)
  refine R8 ?_
  refine A9 rfl rfl (F1 rfl C5 G2 (A0 rfl) (A0 rfl) hx qz1) ?_
  refine R4 ?_
  refine A9 rfl rfl (F1 rfl C5 G2 (A0 rfl) (A0 rfl) hy qz1) ?_
  refine R3 ?_
  refine A6 (A0 rfl) ?_ ?_
  ·intro h75
   have hne : a ≠ b := fun e => (by subst e; rw [hx] at hy; injection hy with hy; simp [hy] at h75)
   rw [decide_eq_false hne]
   refine R5 ?_
   exact F0 rfl (A4 rfl B1)
  intro h75
  refine R6 ?_
  refine J2 i (i + 1) ?_ ?_ (G7 ⟨rfl, rfl, rfl, trivial⟩)
  ·exact ⟨by omega, by rw [List.take_add_one, List.take_add_one, hinv.2, hx, hy]; congr 2; simpa using h75⟩
  omega
 intro h62
 have k62 := of_decide_eq_false h62; try simp only [A5] at k62
 have hge : a.Reads.length ≤ i := (by simpa using h62)
 have hreads : a.Reads = b.Reads := qz48
 refine R7 ?_
 refine H7 [(2, _), (3, _)] _ (fun (j : Nat) => j ≤ a.Writes.length ∧ a.Writes.take j = b.Writes.take j) (fun (j : Nat) => []) (fun (j : Nat) => [(6, AV.int j)]) (fun (j : Nat) => a.Writes.length - j) (0) ?_ (G7 ⟨rfl, rfl, rfl, trivial⟩) ?_
 ·exact ⟨Nat.zero_le _, rfl⟩
 intro j hinv
 refine R9 ?_
 refine A6 (A0 rfl) ?_ ?_
 ·intro h80
  have k80 := of_decide_eq_true h80; try simp only [A5] at k80
  have hlt1 : j < a.Writes.length := (by simpa using h80)
  obtain ⟨u, hu⟩ := E7 hlt1
  obtain ⟨v, hv⟩ := E7 (show j < b.Writes.length by omega)
  refine R8 ?_
  refine A9 rfl rfl (F1 rfl I3 L1 (A0 rfl) (A0 rfl) hu qz1) ?_
  refine R4 ?_
  refine A9 rfl rfl (F1 rfl I3 L1 (A0 rfl) (A0 rfl) hv qz1) ?_
  refine R1 ?_
  refine A9 rfl rfl (w_aneq rfl Tryz.underlying100 F9 F9 (A0 rfl) (A0 rfl) (s3 F9 c4 rfl rfl (AT0 C3) (s3 F9 c4 rfl rfl (AT0 C3) (s3 F9 Tryz.isAgg4 rfl rfl (Ap4 O6) Az0)))) ?_
  refine R1 ?_
  refine A6 (A0 rfl) ?_ ?_
  ·intro h93
   have hne : a ≠ b := fun e => (by subst e; rw [hu] at hv; injection hv with hv; rw [AF4] at h93; simp [hv] at h93)
   rw [decide_eq_false hne]
   refine R5 ?_
   exact F0 rfl (A4 rfl B1)
  intro h93
  refine R6 ?_
  refine J2 j (j + 1) ?_ ?_ (G7 ⟨rfl, rfl, rfl, trivial⟩)
  ·exact ⟨by omega, by rw [List.take_add_one, List.take_add_one, hinv.2, hu, hv]; congr 2; rw [AF4] at h93; simpa using h93⟩
  omega
 intro h80
 have k80 := of_decide_eq_false h80; try simp only [A5] at k80
 have hge1 : a.Writes.length ≤ j := (by simpa using h80)
 have hwrites : a.Writes = b.Writes := qz48
 have hyes : a = b := (by cases a; cases b; simp_all)
 rw [decide_eq_true hyes]
 refine R6 ?_
 exact F0 rfl (A4 rfl B1)
theorem AI3 (a b : List B8) (n : Nat) (hs : ∀ e ∈ a, e.size ≤ 1048576) (hn : n ≤ 1048576) : C0 Tryz.prog 128 [AV.list 8 (a.map B8.cs), AV.list 8 (b.map B8.cs), AV.int (n : Int)] (AV.bool (begins a b n)) := by
 refine B3 Tryz.func128 rfl Tryz.ntmps128 rfl ?_
 refine R18 ?_
 refine A6 (A0 rfl) ?_ ?_
 ·intro h17
  have he : begins a b n = false := (by unfold begins; refine decide_eq_false fun hc => ?_; simp only [A5, Bool.or_eq_true, decide_eq_true_eq] at h17; omega)
  rw [he]
  refine R5 ?_
  exact F0 rfl (A4 rfl B1)
 intro h17
 have hh := h17
 simp only [A5, Bool.or_eq_false_iff, decide_eq_false_iff_not] at hh
 refine R7 ?_
 refine H7 [(0, _), (1, _), (2, _)] _ (fun (i : Nat) => i ≤ n ∧ a.take i = b.take i) (fun (i : Nat) => []) (fun (i : Nat) => [(7, AV.int i)]) (fun (i : Nat) => n - i) (0) ?_ (G7 ⟨rfl, rfl, rfl, rfl, trivial⟩) ?_
 ·exact ⟨Nat.zero_le _, rfl⟩
 intro i hinv
 refine R7 ?_
 refine A6 (A0 rfl) ?_ ?_
 ·intro h20
  have k20 := of_decide_eq_true h20; try simp only [A5] at k20
  have hlt : i < n := by omega
  obtain ⟨x, hx⟩ := E7 (show i < a.length by omega)
  obtain ⟨y, hy⟩ := E7 (show i < b.length by omega)
  have hxs : x.Rec.size ≤ 1048576 := hs x (C6 hx)
  refine R7 ?_
  refine A9 rfl rfl (F1 rfl F5 G1 (A0 rfl) (A0 rfl) hx qz1) ?_
  refine R4 ?_
  refine A9 rfl rfl (F1 rfl F5 G1 (A0 rfl) (A0 rfl) hy qz1) ?_
  refine R6 ?_
  refine M3 rfl (O7 rfl rfl rfl) (fun hc => F1 rfl F5 G1 (B0 rfl hc) (B0 rfl hc) hx qz4) ?_
  refine R4 ?_
  refine M3 rfl (O7 rfl rfl rfl) (fun hc => F1 rfl F5 G1 (B0 rfl hc) (B0 rfl hc) hy qz4) ?_
  refine R2 ?_
  refine M3 rfl (O7 rfl rfl rfl) (fun hc => A8 rfl Tryz.call137 rfl (Ax2 _ _ M5) (A1 (B0 rfl hc) (A1 (B0 rfl hc) A3))) ?_
  refine R3 ?_
  refine A6 (A0 rfl) ?_ ?_
  ·intro h47
   have he : begins a b n = false := BK7 hlt hx hy (by rw [As8] at h47; simpa using h47)
   rw [he]
   refine R5 ?_
   exact F0 rfl (A4 rfl B1)
  intro h47
  refine R6 ?_
  refine J2 i (i + 1) ?_ ?_ (G7 ⟨rfl, rfl, rfl, rfl, trivial⟩)
  ·exact ⟨by omega, Ax1 hinv.2 hx hy (by rw [As8] at h47; simpa using h47)⟩
  omega
 intro h20
 have k20 := of_decide_eq_false h20; try simp only [A5] at k20
 have hge : i = n := by omega
 subst hge
 have he : begins a b i = true := (by unfold begins; exact decide_eq_true ⟨by omega, by omega, hinv.2⟩)
 rw [he]
 refine R6 ?_
 exact F0 rfl (A4 rfl B1)
theorem An0 (a b : List B8) (n : Nat) (hs : sizeL B8.size a ≤ 1048576) (hn : n ≤ 1048576) : C0 Tryz.prog 128 [AV.list 8 (a.map B8.cs), AV.list 8 (b.map B8.cs), AV.int (n : Int)] (AV.bool (begins a b n)) :=
  AI3 a b n (fun e he => by obtain ⟨i, hi⟩ := List.getElem?_of_mem he; exact Nat.le_trans (T7 (f := B8.size) hi) hs) hn
theorem AR5 (l : List B8) (hs : sizeL B8.size l ≤ 1048576) : D7 Tryz.prog 132 [AV.list 8 (l.map B8.cs)] [] (fun _ : Value => True) (fun v => [.arr v 29 8 (l.map B8.cs)]) (fun v => AV.is v) := by
 have hll : l.length ≤ 1048576 := Nat.le_trans K2 hs
 refine D1 Tryz.func132 rfl Tryz.ntmps132 rfl ?_
 refine R2 ?_
 refine A2 rfl (E2 rfl W5) ?_
 refine R3 ?_
 refine K8 rfl rfl rfl rfl F5 G1 ?_
 intro v6
 refine R8 ?_
 refine AWP.le (H6 [0] rfl) ?_
 refine S8 [(0, _), (2, _)] _ (fun (i : Nat) (v : Value) => i ≤ l.length) (fun (i : Nat) (v : Value) => [.arr v 29 8 ((l.take i).map B8.cs)]) (fun (i : Nat) (v : Value) => [(3, AV.is v), (4, AV.int i)]) (fun (i : Nat) (v : Value) => l.length - i) (0) (v6) ?_ (J5 B1 ⟨rfl, rfl, rfl, rfl, trivial⟩) ?_
 ·exact Nat.zero_le _
 intro i v hinv
 refine R8 ?_
 refine A6 (A0 rfl) ?_ ?_
 ·intro h10
  have k10 := of_decide_eq_true h10; try simp only [A5] at k10
  have hlt : i < l.length := Ae4
  obtain ⟨x, hx⟩ := E7 hlt
  have hsx : B8.size x ≤ 1048576 := Nat.le_trans (T7 hx) hs
  have hsr : sizeL (fun s : Str => s.length) x.Rec.Reads + sizeL B4.size x.Rec.Writes ≤ 1048576 := hsx
  have hl1 := K2 (f := fun s : Str => s.length) (l := x.Rec.Reads)
  have hl2 := K2 (f := B4.size) (l := x.Rec.Writes)
  refine R7 ?_
  refine A2 rfl (F1 rfl F5 G1 (A0 rfl) (A0 rfl) hx qz1) ?_
  refine R2 ?_
  intro b5
  refine R4 ?_
  refine K8 rfl rfl rfl rfl C5 G2 ?_
  intro v17
  refine R3 ?_
  refine J0 (by' := 16) 0 rfl rfl rfl rfl C5 Tryz.type9 rfl rfl rfl rfl rfl rfl (A0 rfl) (A0 rfl) rfl (by simp only [A5, I4]; omega) ?_
  intro v21_1
  refine R2 ?_
  refine Q8 0 rfl fun one_v21_1 => ?_
  refine O0 1 rfl rfl rfl (A0 rfl) (A0 rfl) (P2 one_v21_1) rfl Z6 rfl ?_
  refine R3 ?_
  refine K8 rfl rfl rfl rfl I3 L1 ?_
  intro v24
  refine R3 ?_
  refine J0 (by' := 40) 0 rfl rfl rfl rfl I3 Tryz.type100 rfl rfl rfl rfl rfl rfl (A0 rfl) (A0 rfl) rfl (by simp only [A5, I4]; omega) ?_
  intro v28_2
  refine R2 ?_
  refine Q8 0 rfl fun one_v28_2 => ?_
  refine O0 2 rfl rfl rfl (A0 rfl) (A0 rfl) (P2 one_v28_2) rfl Tryz.sizeOf25 rfl ?_
  refine R1 ?_
  refine AWP.le (M9 [1, 0] 0 (.box b5 29 x.cs) rfl rfl ⟨rfl, rfl, (B2 C8 (B2 C8 (B2 C8 (B2 C8 (B2 C8 (B2 (G5 (C6 (i := 0) rfl) E3) (B2 (G5 (C6 (i := 1) rfl) E3) (B2 C8 J8))))))))⟩ H8) ?_
  refine R4 ?_
  refine J0 (by' := 96) 1 rfl rfl rfl rfl F5 Tryz.type29 rfl rfl rfl rfl rfl rfl (A0 rfl) (A0 rfl) rfl qz69 ?_
  intro v34_3
  refine R7 ?_
  refine N3 i v (i + 1) (v34_3) ?_ ?_ (Le.trans (H6 [0, 0] rfl) (T5 1 (by (rw [AE8 hx, List.map_append]; rfl)) ⟨rfl, rfl, rfl, rfl, trivial⟩))
  ·exact qz5
  omega
 intro h10
 have k10 := of_decide_eq_false h10; try simp only [A5] at k10
 have hge : l.length ≤ i := Ae4
 rw [List.take_of_length_le hge]
 refine R7 ?_
 exact E4 [0] v (trivial) rfl B1 (H4 rfl (A4 rfl B1))
theorem AA7 (l : List B8) (hs : sizeL B8.size l ≤ 1048576) : C0 Tryz.prog 132 [AV.list 8 (l.map B8.cs)] (AV.list 8 (l.map B8.cs)) :=
  O1 (AR5 l hs) fun x _ => G5 (C6 (i := 0) rfl) E3
def TGroup.fcs (g : TGroup) (v : Value) : List AV := [AV.is v, AV.int g.Term, AV.int g.Lead]
def TGroup.fow (g : TGroup) (v : Value) : List Own := [.arr v 116 3 (g.Reps.map C1.cs)]
theorem TGroup.fl (g : TGroup) (v : Value) : Y4 (TGroup.fow g v) (AV.agg (TGroup.fcs g v)) (AV.agg g.cs) := c9 (B2 (G5 (C6 (i := 0) rfl) E3) (B2 C8 (B2 C8 J8)))
theorem o4 (g : TGroup) (hs : g.size ≤ 1048576) : D7 Tryz.prog 123 [AV.agg g.cs] [] (fun _ : Value => True) (fun v => TGroup.fow g v) (fun v => AV.agg (TGroup.fcs g v)) := by
 have hrs : sizeL C1.size g.Reps ≤ 1048576 := hs
 have hll : g.Reps.length ≤ 1048576 := Nat.le_trans K2 hrs
 refine D1 Tryz.func123 rfl Tryz.ntmps123 rfl ?_
 refine R3 ?_
 intro b1
 refine R1 ?_
 intro b2
 refine R3 ?_
 refine K8 rfl rfl rfl rfl C2 C7 ?_
 intro v5
 refine R4 ?_
 refine Q8 0 rfl fun one_v5 => ?_
 refine A2 rfl (U1 (places := #[(0, 1), (1, 1), (2, 1)]) rfl Tryz.underlying54 Tryz.zeroValue54 (fun w => by kernel_rfl) rfl (E1 (A0 rfl) (P2 one_v5) (E1 (A0 rfl) (Q3 _ _) (E1 (A0 rfl) (Q3 _ _) O8))) rfl) ?_
 refine R1 ?_
 intro b3
 refine R8 ?_
 refine AWP.le (H6 [0, 0] rfl) ?_
 refine S8 [(1, _), (2, _), (3, _)] _ (fun (i : Nat) (v : Value) => i ≤ g.Reps.length) (fun (i : Nat) (v : Value) => [.box b3 54 (TGroup.fcs g v), .arr v 116 3 ((g.Reps.take i).map C1.cs)]) (fun (i : Nat) (v : Value) => [(4, AV.int i)]) (fun (i : Nat) (v : Value) => g.Reps.length - i) (0) (v5) ?_ (J5 B1 ⟨rfl, rfl, rfl, rfl, trivial⟩) ?_
 ·exact Nat.zero_le _
 intro i v hinv
 refine R9 ?_
 refine A6 (A0 rfl) ?_ ?_
 ·intro h15
  have k15 := of_decide_eq_true h15; try simp only [A5] at k15
  have hlt : i < g.Reps.length := (by simpa using h15)
  obtain ⟨x, hx⟩ := E7 hlt
  have hsx : sizeL B8.size x.Log ≤ 1048576 := Nat.le_trans (T7 (f := C1.size) hx) hrs
  refine R3 ?_
  refine N4 23 F9 F9 rfl ?_
  refine R5 ?_
  refine A9 rfl rfl (F1 rfl C2 C7 (A0 rfl) (A0 rfl) hx qz1) ?_
  refine R5 ?_
  refine A9 rfl rfl (F1 rfl C2 C7 (A0 rfl) (A0 rfl) hx qz1) ?_
  refine R2 ?_
  refine A9 rfl rfl (A8 rfl Tryz.call132 rfl (AA7 x.Log hsx) (A1 (A0 rfl) A3)) ?_
  refine R3 ?_
  refine A9 rfl rfl (F1 rfl C2 C7 (A0 rfl) (A0 rfl) hx qz1) ?_
  refine R5 ?_
  refine J0 (by' := 40) 1 rfl rfl rfl rfl C2 Tryz.type116 rfl rfl rfl rfl rfl rfl (A0 rfl) (A0 rfl) rfl qz69 ?_
  intro v41_1
  refine R1 ?_
  refine Q8 1 rfl fun one_v41_1 => ?_
  refine O0 0 rfl rfl rfl (A0 rfl) (A0 rfl) (P2 one_v41_1) rfl Tryz.sizeOf52 rfl ?_
  refine R6 ?_
  refine N3 i v (i + 1) (v41_1) ?_ ?_ (Le.trans (H6 [0, 0] rfl) (J5 (by (rw [AE8 hx, List.map_append]; rfl)) ⟨rfl, rfl, rfl, rfl, trivial⟩))
  ·exact qz5
  omega
 intro h15
 have k15 := of_decide_eq_false h15; try simp only [A5] at k15
 have hge : g.Reps.length ≤ i := (by simpa using h15)
 rw [List.take_of_length_le hge]
 refine R7 ?_
 exact E4 [1] v (trivial) rfl B1 (H4 rfl (C4 (ys := _) 2 rfl rfl G0 F8 rfl))
theorem f5 (r : C1) (t : Int) (hll : r.Log.length ≤ 1048576) (hs : ∀ e ∈ r.Log, e.size ≤ 1048576) : C0 Tryz.prog 91 [AV.agg r.cs, AV.int t] (AV.bool (goodRep r t)) := by
 refine B3 Tryz.func91 rfl Tryz.ntmps91 rfl ?_
 refine R3 ?_
 intro b2
 refine R19 ?_
 refine L0 rfl (fun hc => A8 rfl Tryz.call18 rfl (M0 _ _ _) (A1 (B0 rfl hc) (A1 D6 (A1 (B0 rfl hc) A3)))) ?_
 refine R3 ?_
 refine A6 (A0 rfl) ?_ ?_
 ·intro h19
  have he : goodRep r t = false := (by unfold goodRep; simp only [A5, Bool.or_eq_true, decide_eq_true_eq, Bool.not_eq_true'] at h19; rcases h19 with k | k; (rw [decide_eq_false qz5]; rfl); (rw [k]; simp))
  rw [he]
  refine R5 ?_
  exact F0 rfl (A4 rfl B1)
 intro h19
 have hh := h19
 simp only [A5, Bool.or_eq_false_iff, decide_eq_false_iff_not, Bool.not_eq_false'] at hh
 have hg : goodRep r t = logOk t 1 r.Log := (by unfold goodRep; rw [decide_eq_true qz5, hh.2]; rfl)
 refine R7 ?_
 refine S8 [(1, _), (2, _)] _ (fun (i : Nat) (p : Int) => i ≤ r.Log.length ∧ logOk t 1 r.Log = logOk t p (r.Log.drop i)) (fun (i : Nat) (p : Int) => []) (fun (i : Nat) (p : Int) => [(5, AV.int p), (6, AV.int i)]) (fun (i : Nat) (p : Int) => r.Log.length - i) (0) (1) ?_ (G7 ⟨rfl, rfl, rfl, rfl, trivial⟩) ?_
 ·exact ⟨Nat.zero_le _, rfl⟩
 intro i p hinv
 refine R9 ?_
 refine A6 (A0 rfl) ?_ ?_
 ·intro h24
  have k24 := of_decide_eq_true h24; try simp only [A5] at k24
  have hlt : i < r.Log.length := (by simpa using h24)
  obtain ⟨x, hx⟩ := E7 hlt
  have hsx : x.Rec.size ≤ 1048576 := hs x (C6 hx)
  refine R9 ?_
  refine A2 rfl (F1 rfl F5 G1 (A0 rfl) (A0 rfl) hx qz1) ?_
  refine R4 ?_
  refine A2 rfl (A8 rfl Tryz.call18 rfl (M0 _ _ _) (A1 (A0 rfl) (A1 (A0 rfl) (A1 (A0 rfl) A3)))) ?_
  refine R5 ?_
  refine L0 rfl (fun hc => F1 rfl F5 G1 (B0 rfl hc) (B0 rfl hc) hx qz4) ?_
  refine R2 ?_
  refine L0 rfl (fun hc => A8 rfl Tryz.call122 rfl (r3 _ M5) (A1 (B0 rfl hc) A3)) ?_
  refine R3 ?_
  refine A6 (A0 rfl) ?_ ?_
  ·intro h46
   have he : goodRep r t = false := (by rw [hg, hinv.2, Ad7 hx]; simp only [Bool.or_eq_true, Bool.not_eq_true'] at h46; rcases h46 with k | k; (rw [k]; rfl); (rw [V4, k]; simp))
   rw [he]
   refine R5 ?_
   exact F0 rfl (A4 rfl B1)
  intro h46
  refine R5 ?_
  refine A2 rfl (F1 rfl F5 G1 (A0 rfl) (A0 rfl) hx qz1) ?_
  refine R9 ?_
  refine N3 i p (i + 1) (x.Term) ?_ ?_ (G7 ⟨rfl, rfl, rfl, rfl, trivial⟩)
  ·exact ⟨by omega, by rw [hinv.2, Ad7 hx]; simp only [Bool.or_eq_false_iff, Bool.not_eq_false'] at h46; rw [h46.1, V4, h46.2]; rfl⟩
  omega
 intro h24
 have k24 := of_decide_eq_false h24; try simp only [A5] at k24
 have hge : r.Log.length ≤ i := (by simpa using h24)
 rw [hg, hinv.2, List.drop_eq_nil_of_le hge]
 refine R6 ?_
 exact F0 rfl (A4 rfl B1)
theorem Ag9 (r : C1) (t : Int) (hs : r.size ≤ 1048576) : C0 Tryz.prog 91 [AV.agg r.cs, AV.int t] (AV.bool (goodRep r t)) :=
  f5 r t (Nat.le_trans (K2 (f := B8.size)) hs) fun e he => by obtain ⟨i, hi⟩ := List.getElem?_of_mem he; exact Nat.le_trans (T7 (f := B8.size) hi) hs
theorem An1 {g : TGroup} (h : ¬ (((d6 g.Reps.length && within g.Term 0 200) && within g.Lead (-1) ((g.Reps.length : Int) - 1)) = true)) : goodGroup g = false := by
  rw [← Bool.not_eq_true, S0]
  intro k
  apply h
  have h1 := k.term
  have h3 : within g.Lead (-1) ((g.Reps.length : Int) - 1) = true := by
    unfold within; rw [Bool.and_eq_true, decide_eq_true_eq, decide_eq_true_eq]
    rcases k.lead with e | ⟨a, b, _⟩
    · have := k.many; omega
    · omega
  have h4 : d6 g.Reps.length = true := by unfold d6; rw [Bool.or_eq_true, beq_iff_eq, beq_iff_eq]; have := k.many; omega
  have h5 : within g.Term 0 200 = true := by unfold within; rw [Bool.and_eq_true, decide_eq_true_eq, decide_eq_true_eq]; omega
  rw [h3, h4, h5]; rfl
theorem U2 (g : TGroup) (hs : g.size ≤ 1048576) : C0 Tryz.prog 114 [AV.agg g.cs] (AV.bool (goodGroup g)) := by
 have hrs : sizeL C1.size g.Reps ≤ 1048576 := hs
 have hll : g.Reps.length ≤ 1048576 := Nat.le_trans K2 hrs
 refine B3 Tryz.func114 rfl Tryz.ntmps114 rfl ?_
 refine R3 ?_
 intro b1
 refine R18 ?_
 refine L0 rfl (fun hc => A8 rfl Tryz.call18 rfl (M0 _ _ _) (A1 (B0 rfl hc) (A1 D6 (A1 D6 A3)))) ?_
 refine R9 ?_
 refine L0 rfl (fun hc => A8 rfl Tryz.call18 rfl (M0 _ _ _) (A1 (B0 rfl hc) (A1 D6 (A1 (B0 rfl hc) A3)))) ?_
 refine R3 ?_
 refine A6 (A0 rfl) ?_ ?_
 ·intro h29
  have he : goodGroup g = false := An1 (by intro hc; simp only [d6, Bool.and_eq_true, Bool.or_eq_true, beq_iff_eq] at hc; simp only [A5, Bool.or_eq_true, Bool.and_eq_true, bne_iff_ne, Bool.not_eq_true'] at h29; rcases h29 with (k | k) | k; (omega); (rw [hc.1.2] at k; cases k); (rw [hc.2] at k; cases k))
  rw [he]
  refine R5 ?_
  exact F0 rfl (A4 rfl qz18)
 intro h29
 have hh := h29
 simp only [A5, Bool.or_eq_false_iff, Bool.not_eq_false'] at hh
 have hlead : -1 ≤ g.Lead ∧ g.Lead ≤ (g.Reps.length : Int) - 1 := (by have h9 := hh.2; unfold within at h9; simpa using h9)
 have hm : d6 g.Reps.length = true := (by have h9 := hh.1.1; unfold d6; simp only [Bool.and_eq_false_iff, bne_eq_false_iff_eq] at h9; rw [Bool.or_eq_true, beq_iff_eq, beq_iff_eq]; exact h9)
 have hg : goodGroup g = ((g.Lead == -1 || (isRep g g.Lead && (repAt g g.Lead).Up)) && g.Reps.all fun r => goodRep r g.Term) := (by unfold goodGroup; rw [hm, hh.1.2]; rfl)
 refine R7 ?_
 refine H7 [(1, _)] _ (fun (i : Nat) => i ≤ g.Reps.length ∧ (g.Reps.all fun r => goodRep r g.Term) = ((g.Reps.drop i).all fun r => goodRep r g.Term)) (fun (i : Nat) => []) (fun (i : Nat) => [(3, AV.int i)]) (fun (i : Nat) => g.Reps.length - i) (0) ?_ (G7 ⟨rfl, rfl, trivial⟩) ?_
 ·exact ⟨Nat.zero_le _, rfl⟩
 intro i hinv
 refine R9 ?_
 refine A6 (A0 rfl) ?_ ?_
 ·intro h34
  have k34 := of_decide_eq_true h34; try simp only [A5] at k34
  have hlt : i < g.Reps.length := Ae5
  obtain ⟨x, hx⟩ := E7 hlt
  have hsx : x.size ≤ 1048576 := Nat.le_trans (T7 hx) hrs
  refine R8 ?_
  refine A9 rfl rfl (F1 rfl C2 C7 (A0 rfl) (A0 rfl) hx qz1) ?_
  refine R3 ?_
  refine A9 rfl rfl (A8 rfl Tryz.call91 rfl (Ag9 _ _ M5) (A1 (A0 rfl) (A1 (A0 rfl) A3))) ?_
  refine R2 ?_
  refine A6 (A0 rfl) ?_ ?_
  ·intro h45
   have he : goodGroup g = false := (by rw [hg, hinv.2, drop_some hx, List.all_cons, show goodRep x g.Term = false by simpa using h45]; simp)
   rw [he]
   refine R5 ?_
   exact F0 rfl (A4 rfl qz18)
  intro h45
  refine R6 ?_
  refine J2 i (i + 1) ?_ ?_ (G7 ⟨rfl, rfl, trivial⟩)
  ·exact ⟨by omega, by rw [hinv.2, drop_some hx, List.all_cons, show goodRep x g.Term = true by simpa using h45]; rfl⟩
  omega
 intro h34
 have k34 := of_decide_eq_false h34; try simp only [A5] at k34
 have hge : g.Reps.length ≤ i := Ae5
 have hall : (g.Reps.all fun r => goodRep r g.Term) = true := qz37
 rw [hall, Bool.and_true] at hg
 refine R11 ?_
 refine L0 rfl (fun hc => F1 rfl C2 C7 (B0 rfl hc) (B0 rfl hc) (K3 (g := g) (r := g.Lead) ⟨by have h9 : ¬ g.Lead < 0 := (by simpa using hc); omega, by omega⟩) (by have h9 : ¬ g.Lead < 0 := (by simpa using hc); omega)) ?_
 refine R6 ?_
 exact F0 rfl (A4 rfl qz18)
end Go.Proofs.YtkibefcceekmnaaGreat
namespace Go.M
open Go.AV
def U0 (many : Int) : TGroup × Bool := if d6 many = true then (⟨List.replicate many.toNat ⟨true, [], 0⟩, 0, -1⟩, true) else (O5, false)
theorem As9 {p : Nat → Bool} {lo n : Nat} (h : lo < n) (hp : p n = true) : findDown p lo n = some n := by
  cases n with
  | zero => omega
  | succ k => unfold findDown; rw [if_neg qz5, if_pos hp]
theorem Ax3 {p : Nat → Bool} {lo n : Nat} (h : lo < n) (hp : ¬ p n = true) : findDown p lo n = findDown p lo (n - 1) := by
  cases n with
  | zero => omega
  | succ k => conv => { lhs; unfold findDown }; rw [if_neg qz5, if_neg hp]; rfl
theorem BF9 (a b c : Int) : AD9 a (if b < c then c else b) = min a (max b c) := by
  unfold AD9; rw [Int.min_def, Int.max_def]; split <;> split <;> split <;> omega
end Go.M
namespace Go.Proofs.YtkibefcceekmnaaGreat
open Go Go.AV Go.M
attribute [local irreducible] OpW OpA OpS AWP C0 I0 D7 OpE RetOk G3 H5 Le Ev F6 J1 Ah5 Int.tmod Int.tdiv IntKind.wrap bandI
theorem AF6 (g : TGroup) (r : Int) (up : Bool) (hs : g.size ≤ 1048576) : C0 Tryz.prog 130 [AV.agg g.cs, AV.int r, AV.bool up] (AV.bool (isUp g r up)) := by
  have hrs : sizeL C1.size g.Reps ≤ 1048576 := hs
  have hll : g.Reps.length ≤ 1048576 := Nat.le_trans K2 hrs
  have hir : within r 0 (((g.Reps.map C1.cs).length : Int) - 1) = isRep g r := by unfold isRep; rw [A5]
  refine B3 Tryz.func130 rfl Tryz.ntmps130 rfl ?_
  refine R3 ?_
  intro b3
  refine R5 ?_
  refine A2 rfl (A8 rfl Tryz.call114 rfl (U2 _ M5) (A1 (A0 rfl) A3)) ?_
  refine R6 ?_
  refine K1 rfl (fun hc => A8 rfl Tryz.call18 rfl (M0 _ _ _) (A1 (B0 rfl hc) (A1 D6 (A1 (B0 rfl hc) A3)))) ?_
  refine R5 ?_
  refine K1 rfl (fun hc => F1 rfl C2 C7 (B0 rfl hc) (B0 rfl hc) (K3 (z5.1 (hir ▸ Ao0 hc))) (by have h9 := (z5.1 (hir ▸ Ao0 hc)).1; omega)) ?_
  refine R3 ?_
  refine K1 rfl (fun hc => w_beql rfl O6 (B0 rfl hc) (B0 rfl hc)) ?_
  refine R4 ?_
  exact F0 rfl (A4 rfl (by exact congrArg AV.bool (by rw [hir]; rfl)))
theorem AR6 (g : TGroup) (r : Int) (hs : g.size ≤ 1048576) : D7 Tryz.prog 116 [AV.agg g.cs, AV.int r] [] (fun _ : Value => True) (fun v => TGroup.fow (crashR g r).1 v) (fun v => AV.tup [AV.agg (TGroup.fcs (crashR g r).1 v), AV.bool (crashR g r).2]) := by
 refine D1 Tryz.func116 rfl Tryz.ntmps116 rfl ?_
 refine R3 ?_
 intro b2
 refine R1 ?_
 intro b4
 refine R7 ?_
 refine A2 rfl (A8 rfl Tryz.call130 rfl (AF6 _ _ _ M5) (A1 (A0 rfl) (A1 (A0 rfl) (A1 AJ0 A3)))) ?_
 refine R2 ?_
 refine A6 (A0 rfl) ?_ ?_
 ·intro h10
  have he : crashR g r = (O5, false) := (by unfold crashR; rw [if_neg Ae4])
  rw [he]
  refine R7 ?_
  refine L2 116 3 ?_
  exact E4 [0] (Value.slice none 0 0) (trivial) rfl qz27 (J4 rfl B5 (A7 (C4 (ys := _) 1 rfl rfl G0 F8 rfl) (A7 (A4 rfl B1) D0)))
 intro h10
 have hu : isUp g r true = true := Ae4
 obtain ⟨gg, hr, hup⟩ := U9.1 hu
 have hx := K3 hr
 have he : crashR g r = (⟨g.Reps.set r.toNat ⟨false, (repAt g r).Log, (repAt g r).Sure⟩, g.Term, if g.Lead = r then -1 else g.Lead⟩, true) := if_pos hu
 rw [he]
 refine R4 ?_
 refine B6 [] rfl rfl rfl rfl Tryz.call123 rfl (o4 g hs) (A1 (A0 rfl) A3) rfl ?_
 intro x13 ok13
 refine R1 ?_
 intro b6
 refine R7 ?_
 refine A2 rfl (K7 1 rfl C2 C7 (A0 rfl) rfl (A0 rfl) qz5 N2) ?_
 refine A2 rfl (f9 1 rfl I8 rfl Tryz.sizeOf4 (A0 rfl) rfl rfl qz3) ?_
 refine AE6 1 rfl rfl rfl (A0 rfl) AJ0 (AH5 _) rfl Tryz.sizeOf4 qz3 rfl ?_
 refine R9 ?_
 refine A6 (A0 rfl) ?_ ?_
 ·intro h22
  have k22 := F3 h22; try simp only [A5] at k22
  rw [if_pos k22]
  refine R11 ?_
  exact E4 [1] x13 (trivial) rfl qz27 (J4 rfl B5 (A7 (C4 (ys := _) 2 rfl rfl G0 F8 rfl) (A7 (A4 rfl B1) D0)))
 intro h22
 have k22 := F2 h22; try simp only [A5] at k22
 rw [if_neg k22]
 refine R8 ?_
 exact E4 [1] x13 (trivial) rfl qz27 (J4 rfl B5 (A7 (C4 (ys := _) 2 rfl rfl G0 F8 rfl) (A7 (A4 rfl B1) D0)))
theorem An2 (g : TGroup) (r : Int) (hs : g.size ≤ 1048576) : C0 Tryz.prog 116 [AV.agg g.cs, AV.int r] (AV.tup [AV.agg (crashR g r).1.cs, AV.bool (crashR g r).2]) :=
  O1 (AR6 g r hs) fun v _ => AH7 (B2 (TGroup.fl _ v) (B2 C8 J8))
theorem At0 (g : TGroup) (r : Int) (hs : g.size ≤ 1048576) : D7 Tryz.prog 117 [AV.agg g.cs, AV.int r] [] (fun _ : Value => True) (fun v => TGroup.fow (startR g r).1 v) (fun v => AV.tup [AV.agg (TGroup.fcs (startR g r).1 v), AV.bool (startR g r).2]) := by
 refine D1 Tryz.func117 rfl Tryz.ntmps117 rfl ?_
 refine R3 ?_
 intro b2
 refine R1 ?_
 intro b4
 refine R7 ?_
 refine A2 rfl (A8 rfl Tryz.call130 rfl (AF6 _ _ _ M5) (A1 (A0 rfl) (A1 (A0 rfl) (A1 AJ0 A3)))) ?_
 refine R2 ?_
 refine A6 (A0 rfl) ?_ ?_
 ·intro h10
  have he : startR g r = (O5, false) := (by unfold startR; rw [if_neg Ae4])
  rw [he]
  refine R7 ?_
  refine L2 116 3 ?_
  exact E4 [0] (Value.slice none 0 0) (trivial) rfl qz27 (J4 rfl B5 (A7 (C4 (ys := _) 1 rfl rfl G0 F8 rfl) (A7 (A4 rfl B1) D0)))
 intro h10
 have hu : isUp g r false = true := Ae4
 obtain ⟨gg, hr, hup⟩ := U9.1 hu
 have hx := K3 hr
 have he : startR g r = (⟨g.Reps.set r.toNat ⟨true, (repAt g r).Log, (repAt g r).Sure⟩, g.Term, g.Lead⟩, true) := if_pos hu
 rw [he]
 refine R4 ?_
 refine B6 [] rfl rfl rfl rfl Tryz.call123 rfl (o4 g hs) (A1 (A0 rfl) A3) rfl ?_
 intro x13 ok13
 refine R1 ?_
 intro b6
 refine R7 ?_
 refine A2 rfl (K7 1 rfl C2 C7 (A0 rfl) rfl (A0 rfl) qz5 N2) ?_
 refine A2 rfl (f9 1 rfl I8 rfl Tryz.sizeOf4 (A0 rfl) rfl rfl qz3) ?_
 refine AE6 1 rfl rfl rfl (A0 rfl) AJ0 (AH5 _) rfl Tryz.sizeOf4 qz3 rfl ?_
 refine R8 ?_
 exact E4 [1] x13 (trivial) rfl qz27 (J4 rfl B5 (A7 (C4 (ys := _) 2 rfl rfl G0 F8 rfl) (A7 (A4 rfl B1) D0)))
theorem m0 (l : List B8) : C0 Tryz.prog 129 [AV.list 8 (l.map B8.cs)] (AV.int (V1 l)) := by
 refine B3 Tryz.func129 rfl Tryz.ntmps129 rfl ?_
 refine Z2 (t := 0) rfl fun hl => ?_
 try simp only [A5] at hl
 refine R11 ?_
 refine A6 (A0 rfl) ?_ ?_
 ·intro h5
  have k5 := F3 h5; try simp only [A5] at k5
  rw [BF8 (show l.length = 0 by omega)]
  refine R5 ?_
  exact F0 rfl (A4 rfl B1)
 intro h5
 have k5 := F2 h5; try simp only [A5] at k5
 obtain ⟨e, hx⟩ := E7 (show l.length - 1 < l.length by omega)
 have hx2 : l[(((l.map B8.cs).length : Int) - 1).toNat]? = some e := (by rw [A5, show ((l.length : Int) - 1).toNat = l.length - 1 by omega]; exact hx)
 rw [BK8 hx]
 refine R7 ?_
 refine A2 rfl (F1 rfl F5 G1 (A0 rfl) (A0 rfl) hx2 (by rw [A5]; omega)) ?_
 refine R5 ?_
 exact F0 rfl (A4 rfl B1)
theorem At1 (a b : List B8) : C0 Tryz.prog 131 [AV.list 8 (a.map B8.cs), AV.list 8 (b.map B8.cs)] (AV.bool (u3 a b)) := by
 refine B3 Tryz.func131 rfl Tryz.ntmps131 rfl ?_
 refine R8 ?_
 refine A2 rfl (A8 rfl Tryz.call129 rfl (m0 _) (A1 (A0 rfl) A3)) ?_
 refine R1 ?_
 refine A2 rfl (A8 rfl Tryz.call129 rfl (m0 _) (A1 (A0 rfl) A3)) ?_
 refine R2 ?_
 refine A6 (A0 rfl) ?_ ?_
 ·intro h9
  have k9 := AN3 h9; try simp only [A5] at k9
  have he : u3 a b = decide (V1 b < V1 a) := (by unfold u3; rw [beq_eq_false_iff_ne.2 k9]; simp)
  rw [he]
  refine R3 ?_
  refine A2 rfl (A8 rfl Tryz.call129 rfl (m0 _) (A1 (A0 rfl) A3)) ?_
  refine R1 ?_
  refine A2 rfl (A8 rfl Tryz.call129 rfl (m0 _) (A1 (A0 rfl) A3)) ?_
  refine R4 ?_
  exact F0 rfl (A4 rfl (by first | rfl | (rw [A5, A5])))
 intro h9
 have k9 := p4 h9; try simp only [A5] at k9
 have he : u3 a b = decide ((b.length : Int) < (a.length : Int)) := (by unfold u3; rw [k9]; simp)
 rw [he]
 refine R11 ?_
 exact F0 rfl (A4 rfl (by first | rfl | (rw [A5, A5])))
theorem At2 (g : TGroup) (r : Int) (hs : g.size ≤ 1048576) : D7 Tryz.prog 118 [AV.agg g.cs, AV.int r] [] (fun _ : Value => True) (fun v => TGroup.fow (electR g r).1 v) (fun v => AV.tup [AV.agg (TGroup.fcs (electR g r).1 v), AV.bool (electR g r).2]) := by
 refine D1 Tryz.func118 rfl Tryz.ntmps118 rfl ?_
 refine R3 ?_
 intro b2
 refine R1 ?_
 intro b4
 refine R7 ?_
 refine A2 rfl (A8 rfl Tryz.call130 rfl (AF6 _ _ _ M5) (A1 (A0 rfl) (A1 (A0 rfl) (A1 AJ0 A3)))) ?_
 refine R7 ?_
 refine A6 (A0 rfl) ?_ ?_
 ·intro h17
  have he : electR g r = (O5, false) := (by unfold electR; rw [if_neg (by rintro ⟨a, b⟩; simp only [Bool.and_eq_true, Bool.not_eq_true'] at a; rw [a.1, a.2] at h17; cases h17)])
  rw [he]
  refine R7 ?_
  refine L2 116 3 ?_
  exact E4 [0] (Value.slice none 0 0) (trivial) rfl B1 (J4 rfl B5 (A7 (C4 (ys := _) 1 rfl rfl G0 F8 rfl) (A7 (A4 rfl B1) D0)))
 intro h17
 have hh := h17
 simp only [Bool.or_eq_false_iff, Bool.not_eq_false'] at hh
 obtain ⟨hu, ht⟩ := hh
 obtain ⟨gg, hr, hup⟩ := U9.1 hu
 have hxr := K3 hr
 have hll : g.Reps.length ≤ 5 := (by have h9 := gg.many; omega)
 have htm := gg.term
 refine R11 ?_
 refine S8 [(1, _), (2, _), (4, _), (5, _)] _ (fun (i : Nat) (m : Nat) => i ≤ g.Reps.length ∧ m ≤ i ∧ m = ((g.Reps.take i).filter fun x => x.Up && !u3 x.Log (repAt g r).Log).length) (fun (i : Nat) (m : Nat) => []) (fun (i : Nat) (m : Nat) => [(6, AV.int m), (7, AV.int i)]) (fun (i : Nat) (m : Nat) => g.Reps.length - i) (0) (0) ?_ (G7 ⟨rfl, rfl, rfl, rfl, rfl, rfl, trivial⟩) ?_
 ·exact ⟨Nat.zero_le _, Nat.le_refl _, rfl⟩
 intro i m hinv
 refine R9 ?_
 refine A6 (A0 rfl) ?_ ?_
 ·intro h23
  have k23 := of_decide_eq_true h23; try simp only [A5] at k23
  have hlt : i < g.Reps.length := (by simpa using h23)
  obtain ⟨x, hx⟩ := E7 hlt
  refine R8 ?_
  refine A9 rfl rfl (F1 rfl C2 C7 (A0 rfl) (A0 rfl) hx qz1) ?_
  refine R6 ?_
  refine M3 rfl (d7 rfl rfl rfl) (fun hc => F1 rfl C2 C7 (B0 rfl hc) (B0 rfl hc) hx qz4) ?_
  refine R5 ?_
  refine M3 rfl (d7 rfl rfl rfl) (fun hc => F1 rfl C2 C7 (B0 rfl hc) (B0 rfl hc) hxr qz5) ?_
  refine R2 ?_
  refine M3 rfl (d7 rfl rfl rfl) (fun hc => A8 rfl Tryz.call131 rfl (At1 _ _) (A1 (B0 rfl hc) (A1 (B0 rfl hc) A3))) ?_
  refine R3 ?_
  refine A6 (A0 rfl) ?_ ?_
  ·intro h47
   refine R10 ?_
   refine N3 i m (i + 1) (m + 1) ?_ ?_ (G7 ⟨rfl, rfl, rfl, rfl, rfl, rfl, trivial⟩)
   ·exact ⟨by omega, by omega, by rw [f4 hx, if_pos h47, hinv.2.2]⟩
   omega
  intro h47
  refine R6 ?_
  refine N3 i m (i + 1) (m) ?_ ?_ (G7 ⟨rfl, rfl, rfl, rfl, rfl, rfl, trivial⟩)
  ·exact ⟨by omega, by omega, by rw [f4 hx, if_neg (by rw [h47]; decide), Nat.add_zero]; exact hinv.2.2⟩
  omega
 intro h23
 have k23 := of_decide_eq_false h23; try simp only [A5] at k23
 have hge : g.Reps.length ≤ i := (by simpa using h23)
 have hm := hinv.2.2
 rw [List.take_of_length_le hge] at hm
 refine R5 ?_
 refine A2 rfl (p5 rfl D6 (A0 rfl) qz1) ?_
 refine R5 ?_
 refine A6 (A0 rfl) ?_ ?_
 ·intro h55
  have k55 := of_decide_eq_true h55; try simp only [A5] at k55
  have he : electR g r = (O5, false) := (by unfold electR; rw [if_neg (by rintro ⟨a, b⟩; unfold AI5 at b; have h9 := of_decide_eq_true b; rw [← hm] at h9; omega)])
  rw [he]
  refine R7 ?_
  refine L2 116 3 ?_
  exact E4 [0] (Value.slice none 0 0) (trivial) rfl B1 (J4 rfl B5 (A7 (C4 (ys := _) 1 rfl rfl G0 F8 rfl) (A7 (A4 rfl B1) D0)))
 intro h55
 have k55 := of_decide_eq_false h55; try simp only [A5] at k55
 have he : electR g r = (⟨g.Reps, g.Term + 1, r⟩, true) := (by unfold electR; rw [if_pos ⟨by rw [hu, ht]; rfl, by unfold AI5; rw [← hm]; exact decide_eq_true qz5⟩])
 rw [he]
 refine R4 ?_
 refine B6 [] rfl rfl rfl rfl Tryz.call123 rfl (o4 g hs) (A1 (A0 rfl) A3) rfl ?_
 intro x58 ok58
 refine R1 ?_
 intro b8
 refine R23 ?_
 exact E4 [1] x58 (trivial) rfl B1 (J4 rfl B5 (A7 (C4 (ys := _) 2 rfl rfl G0 F8 rfl) (A7 (A4 rfl B1) D0)))
theorem BG0 (g : TGroup) (r : Int) (hs : g.size ≤ 1048576) : D7 Tryz.prog 120 [AV.agg g.cs, AV.int r] [] (fun _ : Value => True) (fun v => TGroup.fow (V7 g r).1 v) (fun v => AV.tup [AV.agg (TGroup.fcs (V7 g r).1 v), AV.bool (V7 g r).2]) := by
 refine D1 Tryz.func120 rfl Tryz.ntmps120 rfl ?_
 refine R3 ?_
 intro b2
 refine R1 ?_
 intro b4
 refine R7 ?_
 refine A2 rfl (A8 rfl Tryz.call130 rfl (AF6 _ _ _ M5) (A1 (A0 rfl) (A1 (A0 rfl) (A1 AJ0 A3)))) ?_
 refine R13 ?_
 refine A6 (A0 rfl) ?_ ?_
 ·intro h22
  have he : V7 g r = (O5, false) := (by unfold V7; rw [if_neg (by rintro ⟨a, b⟩; simp only [Bool.and_eq_true, decide_eq_true_eq] at a; rw [a.1, decide_eq_false (show ¬ g.Lead < 0 by omega), beq_eq_false_iff_ne.2 b] at h22; cases h22)])
  rw [he]
  refine R7 ?_
  refine L2 116 3 ?_
  exact E4 [0] (Value.slice none 0 0) (trivial) rfl qz70 (J4 rfl B5 (A7 (C4 (ys := _) 1 rfl rfl G0 F8 rfl) (A7 (A4 rfl B1) D0)))
 intro h22
 have hh := h22
 simp only [Bool.or_eq_false_iff, Bool.not_eq_false', decide_eq_false_iff_not, beq_eq_false_iff_ne] at hh
 obtain ⟨⟨hu, hl0⟩, hne⟩ := hh
 obtain ⟨gg, hr, hup⟩ := U9.1 hu
 have hld : 0 ≤ g.Lead ∧ g.Lead < g.Reps.length := (by rcases gg.lead with e | ⟨a, b, _⟩; omega; exact ⟨a, b⟩)
 have hxr := K3 hr
 have hxl := K3 hld
 have hls : sizeL B8.size (repAt g g.Lead).Log ≤ 1048576 := Nat.le_trans (T7 (f := C1.size) hxl) hs
 have he : V7 g r = (setRep g r ⟨true, (repAt g g.Lead).Log, min ((repAt g g.Lead).Log.length : Int) (max (repAt g r).Sure (repAt g g.Lead).Sure)⟩, true) := (by unfold V7; rw [if_pos ⟨by rw [hu, decide_eq_true qz5]; rfl, hne⟩])
 rw [he, ← BF9]
 refine R4 ?_
 refine B6 [] rfl rfl rfl rfl Tryz.call123 rfl (o4 g hs) (A1 (A0 rfl) A3) rfl ?_
 intro x25 ok25
 refine R1 ?_
 intro b6
 refine R8 ?_
 refine A2 rfl (F1 rfl C2 C7 (A0 rfl) (A0 rfl) hxl qz5) ?_
 refine R2 ?_
 refine A2 rfl (A8 rfl Tryz.call132 rfl (AA7 _ hls) (A1 (A0 rfl) A3)) ?_
 refine R3 ?_
 refine N4 23 F9 F9 rfl ?_
 refine R9 ?_
 refine A9 rfl rfl (F1 rfl C2 C7 (A0 rfl) (A0 rfl) hxr qz5) ?_
 refine R6 ?_
 refine A9 rfl rfl (F1 rfl C2 C7 (A0 rfl) (A0 rfl) hxl qz5) ?_
 refine R2 ?_
 refine A9 rfl rfl (A8 rfl Tryz.call134 rfl (As6 _ _) (A1 (A0 rfl) (A1 (A0 rfl) A3))) ?_
 refine A9 rfl rfl (A8 rfl Tryz.call133 rfl (As5 _ _) (A1 (A0 rfl) (A1 (A0 rfl) A3))) ?_
 refine R1 ?_
 refine A9 rfl rfl (K7 1 rfl C2 C7 (A0 rfl) rfl (A0 rfl) qz5 N2) ?_
 refine R1 ?_
 refine P6 1 rfl rfl rfl (A0 rfl) (A0 rfl) (J3 _) rfl C7 rfl AI7 ?_
 refine R8 ?_
 exact E4 [1] x25 (trivial) rfl qz70 (J4 rfl B5 (A7 (C4 (ys := _) 2 rfl rfl G0 F8 rfl) (A7 (A4 rfl B1) D0)))
theorem Ax4 (g : TGroup) (l : List B8) (n : Nat) (hs : g.size ≤ 1048576) (hn : n ≤ 1048576) : C0 Tryz.prog 135 [AV.agg g.cs, AV.list 8 (l.map B8.cs), AV.int (n : Int)] (AV.int ((g.Reps.filter fun x => begins x.Log l n).length : Nat)) := by
 have hll : g.Reps.length ≤ 1048576 := Nat.le_trans (K2 (f := C1.size)) hs
 refine B3 Tryz.func135 rfl Tryz.ntmps135 rfl ?_
 refine R3 ?_
 intro b3
 refine R12 ?_
 refine S8 [(1, _), (2, _), (3, _), (6, _)] _ (fun (i : Nat) (m : Nat) => i ≤ g.Reps.length ∧ m ≤ i ∧ m = ((g.Reps.take i).filter fun x => begins x.Log l n).length) (fun (i : Nat) (m : Nat) => []) (fun (i : Nat) (m : Nat) => [(7, AV.int m), (8, AV.int i)]) (fun (i : Nat) (m : Nat) => g.Reps.length - i) (0) (0) ?_ (G7 ⟨rfl, rfl, rfl, rfl, rfl, rfl, trivial⟩) ?_
 ·exact ⟨Nat.zero_le _, Nat.le_refl _, rfl⟩
 intro i m hinv
 refine R9 ?_
 refine A6 (A0 rfl) ?_ ?_
 ·intro h13
  have k13 := of_decide_eq_true h13; try simp only [A5] at k13
  have hlt : i < g.Reps.length := (by simpa using h13)
  obtain ⟨x, hx⟩ := E7 hlt
  refine R8 ?_
  refine A2 rfl (F1 rfl C2 C7 (A0 rfl) (A0 rfl) hx qz1) ?_
  refine R4 ?_
  refine A2 rfl (A8 rfl Tryz.call128 rfl (An0 x.Log l n (Nat.le_trans (T7 (f := C1.size) hx) hs) hn) (A1 (A0 rfl) (A1 (A0 rfl) (A1 (A0 rfl) A3)))) ?_
  refine R1 ?_
  refine A6 (A0 rfl) ?_ ?_
  ·intro h24
   refine R10 ?_
   refine N3 i m (i + 1) (m + 1) ?_ ?_ (G7 ⟨rfl, rfl, rfl, rfl, rfl, rfl, trivial⟩)
   ·exact ⟨by omega, by omega, by rw [f4 hx, if_pos h24, hinv.2.2]⟩
   omega
  intro h24
  refine R6 ?_
  refine N3 i m (i + 1) (m) ?_ ?_ (G7 ⟨rfl, rfl, rfl, rfl, rfl, rfl, trivial⟩)
  ·exact ⟨by omega, by omega, by rw [f4 hx, if_neg (by rw [h24]; decide), Nat.add_zero]; exact hinv.2.2⟩
  omega
 intro h13
 have k13 := of_decide_eq_false h13; try simp only [A5] at k13
 have hge : g.Reps.length ≤ i := (by simpa using h13)
 have hm := hinv.2.2
 rw [List.take_of_length_le hge] at hm
 rw [← hm]
 refine R7 ?_
 exact F0 rfl (A4 rfl B1)
theorem Ax5 (g : TGroup) (hs : g.size ≤ 1048576) : D7 Tryz.prog 121 [AV.agg g.cs] [] (fun _ : Value => True) (fun v => TGroup.fow (c8 g).1 v) (fun v => AV.tup [AV.agg (TGroup.fcs (c8 g).1 v), AV.bool (c8 g).2]) := by
 refine D1 Tryz.func121 rfl Tryz.ntmps121 rfl ?_
 refine R3 ?_
 intro b1
 refine R1 ?_
 intro b2
 refine R6 ?_
 refine A2 rfl (A8 rfl Tryz.call114 rfl (U2 _ M5) (A1 (A0 rfl) A3)) ?_
 refine R7 ?_
 refine A6 (A0 rfl) ?_ ?_
 ·intro h14
  have he : c8 g = (O5, false) := (by unfold c8; rw [if_neg (by unfold hasLead; intro a; simp only [Bool.and_eq_true, decide_eq_true_eq] at a; rw [a.1, decide_eq_false (show ¬ g.Lead < 0 by omega)] at h14; cases h14)])
  rw [he]
  refine R7 ?_
  refine L2 116 3 ?_
  exact E4 [0] (Value.slice none 0 0) (trivial) rfl qz45 (J4 rfl B5 (A7 (C4 (ys := _) 1 rfl rfl G0 F8 rfl) (A7 (A4 rfl B1) D0)))
 intro h14
 have hh := h14
 simp only [Bool.or_eq_false_iff, Bool.not_eq_false', decide_eq_false_iff_not] at hh
 have hlead : hasLead g = true := (by unfold hasLead; rw [hh.1, decide_eq_true qz5]; rfl)
 obtain ⟨gg, l0, l1, hup⟩ := Y8.1 hlead
 have hxl := K3 ⟨l0, l1⟩
 have hgr := gg.reps _ (Z9 ⟨l0, l1⟩)
 obtain ⟨L, hL⟩ : ∃ L, repAt g g.Lead = L := ⟨_, rfl⟩
 rw [hL] at hxl hgr
 have hsr := hgr.sure
 have hl6 := hgr.len
 have hm5 : g.Reps.length ≤ 5 := (by have h9 := gg.many; omega)
 refine R4 ?_
 refine B6 [] rfl rfl rfl rfl Tryz.call123 rfl (o4 g hs) (A1 (A0 rfl) A3) rfl ?_
 intro x17 ok17
 refine R1 ?_
 intro b4
 refine R8 ?_
 refine A2 rfl (F1 rfl C2 C7 (A0 rfl) (A0 rfl) hxl qz5) ?_
 refine R2 ?_
 intro b5
 refine R8 ?_
 try rw [show AV.ik IntKind.i64 ((n : Int) - 1) = AV.int ((n - 1 : Nat) : Int) from congrArg AV.int (show (n : Int) - 1 = ((n - 1 : Nat) : Int) by omega)]
 refine R3 ?_
 rw [show (List.map B8.cs L.Log).length = L.Log.length from A5 _]
 refine H7 [(1, _), (2, _), (4, _), (5, _)] _ (fun (n : Nat) => n ≤ L.Log.length ∧ findDown (r8 g) L.Sure.toNat L.Log.length = findDown (r8 g) L.Sure.toNat n) (fun (n : Nat) => []) (fun (n : Nat) => [(6, AV.int n)]) (fun (n : Nat) => n) (L.Log.length) ?_ (G7 ⟨rfl, rfl, rfl, rfl, rfl, trivial⟩) ?_
 ·exact ⟨Nat.le_refl _, rfl⟩
 intro n hinv
 refine R8 ?_
 refine A6 (A0 rfl) ?_ ?_
 ·intro h30
  have k30 := of_decide_eq_true h30; try simp only [A5] at k30
  have hgt : L.Sure.toNat < n := by omega
  obtain ⟨x, hx⟩ := E7 (show n - 1 < L.Log.length by omega)
  have hx2 : L.Log[((n : Int) - 1).toNat]? = some x := (by rw [show ((n : Int) - 1).toNat = n - 1 by omega]; exact hx)
  have hadv : r8 g n = ((x.Term == g.Term) && decide ((g.Reps.length : Int) < 2 * ((g.Reps.filter fun x => begins x.Log L.Log n).length : Int))) := (by unfold r8 AI5; rw [hL, hx, Option.map_some]; congr 1; rw [Bool.eq_iff_iff, decide_eq_true_eq, beq_iff_eq]; exact ⟨fun e => by injection e, fun e => by rw [e]⟩)
  have hcnt := List.length_filter_le (fun x => begins x.Log L.Log n) g.Reps
  refine R9 ?_
  refine A9 rfl rfl (F1 rfl F5 G1 (A0 rfl) (A0 rfl) hx2 qz5) ?_
  refine R10 ?_
  refine M3 rfl (d7 rfl rfl rfl) (fun hc => A8 rfl Tryz.call135 rfl (Ax4 _ _ _ M5 M5) (A1 (B0 rfl hc) (A1 (B0 rfl hc) (A1 (B0 rfl hc) A3)))) ?_
  refine M3 rfl (d7 rfl rfl rfl) (fun hc => p5 rfl D6 (B0 rfl hc) qz4) ?_
  refine R6 ?_
  refine A6 (A0 rfl) ?_ ?_
  ·intro h54
   have hp : r8 g n = true := (by rw [hadv]; simpa using h54)
   have hfin : findDown (r8 g) L.Sure.toNat L.Log.length = some n := (by rw [hinv.2]; exact As9 hgt hp)
   have he : c8 g = (setRep g g.Lead ⟨L.Up, L.Log, (n : Int)⟩, true) := (by unfold c8; rw [if_pos hlead, hL, hfin])
   rw [he]
   refine R7 ?_
   refine A2 rfl (K7 2 rfl C2 C7 (A0 rfl) rfl (A0 rfl) qz5 N2) ?_
   refine A2 rfl (f9 2 rfl I8 rfl Tryz.sizeOf3 (A0 rfl) rfl rfl qz25) ?_
   refine AE6 2 rfl rfl rfl (A0 rfl) (A0 rfl) (Q3 _ _) rfl Tryz.sizeOf3 qz25 rfl ?_
   refine R8 ?_
   exact E4 [2] x17 (trivial) rfl qz45 (J4 rfl B5 (A7 (C4 (ys := _) 3 rfl rfl G0 F8 rfl) (A7 (A4 rfl B1) D0)))
  intro h54
  have hp : ¬ r8 g n = true := (by rw [hadv]; simpa using h54)
  have hdown : findDown (r8 g) L.Sure.toNat L.Log.length = findDown (r8 g) L.Sure.toNat (n - 1) := (by rw [hinv.2]; exact Ax3 hgt hp)
  refine R4 ?_
  try rw [show AV.ik IntKind.i64 ((n : Int) - 1) = AV.int ((n - 1 : Nat) : Int) from congrArg AV.int (show (n : Int) - 1 = ((n - 1 : Nat) : Int) by omega)]
  refine R2 ?_
  refine J2 n (n - 1) ?_ ?_ (G7 ⟨rfl, rfl, rfl, rfl, rfl, trivial⟩)
  ·exact ⟨by omega, hdown⟩
  omega
 intro h30
 have k30 := of_decide_eq_false h30; try simp only [A5] at k30
 have hfin : findDown (r8 g) L.Sure.toNat L.Log.length = none := (by rw [hinv.2]; cases n with | zero => rfl | succ k => (unfold findDown; rw [if_pos qz5]))
 have he : c8 g = (g, true) := (by unfold c8; rw [if_pos hlead, hL, hfin])
 rw [he]
 refine R8 ?_
 exact E4 [2] x17 (trivial) rfl qz45 (J4 rfl B5 (A7 (C4 (ys := _) 3 rfl rfl G0 F8 rfl) (A7 (A4 rfl B1) D0)))
theorem At3 (many : Int) : D7 Tryz.prog 86 [AV.int many] [] (fun _ : Value => True) (fun v => TGroup.fow (U0 many).1 v) (fun v => AV.tup [AV.agg (TGroup.fcs (U0 many).1 v), AV.bool (U0 many).2]) := by
 refine D1 Tryz.func86 rfl Tryz.ntmps86 rfl ?_
 refine R3 ?_
 intro b2
 refine R12 ?_
 refine A6 (A0 rfl) ?_ ?_
 ·intro h11
  have he : U0 many = (O5, false) := (by unfold U0 d6; rw [if_neg (by simp only [Bool.and_eq_true, bne_iff_ne] at h11; simp [h11.1, h11.2])])
  rw [he]
  refine R7 ?_
  refine L2 116 3 ?_
  exact E4 [0] (Value.slice none 0 0) (trivial) rfl B1 (J4 rfl B5 (A7 (C4 (ys := _) 1 rfl rfl G0 F8 rfl) (A7 (A4 rfl B1) D0)))
 intro h11
 have hm : many = 3 ∨ many = 5 := (by simp only [Bool.and_eq_false_iff, bne_eq_false_iff_eq] at h11; exact h11)
 obtain ⟨n, rfl⟩ : ∃ n : Nat, many = (n : Int) := ⟨many.toNat, by omega⟩
 have he : U0 (n : Int) = (⟨List.replicate n ⟨true, [], 0⟩, 0, -1⟩, true) := (by unfold U0 d6; rw [if_pos (by rw [Bool.or_eq_true, beq_iff_eq, beq_iff_eq]; exact hm)]; rfl)
 rw [he]
 refine R3 ?_
 refine K8 rfl rfl rfl rfl C2 C7 ?_
 intro v13
 refine Q8 0 rfl fun one_v13 => ?_
 refine A2 rfl (U1 (places := #[(0, 1), (1, 1), (2, 1)]) rfl Tryz.underlying54 Tryz.zeroValue54 (fun w => by kernel_rfl) rfl (E1 (A0 rfl) (P2 one_v13) (E1 D6 (Q3 _ _) O8)) rfl) ?_
 refine R1 ?_
 intro b4
 refine R8 ?_
 refine AWP.le (H6 [0, 0] rfl) ?_
 refine S8 [(0, _), (2, _), (3, _), (4, _)] _ (fun (i : Nat) (v : Value) => i ≤ n) (fun (i : Nat) (v : Value) => [.box b4 54 [AV.is v, AV.int 0, AV.int (-1)], .arr v 116 3 ((List.replicate i (⟨true, [], 0⟩ : C1)).map C1.cs)]) (fun (i : Nat) (v : Value) => [(5, AV.int i)]) (fun (i : Nat) (v : Value) => n - i) (0) (v13) ?_ (J5 B1 ⟨rfl, rfl, rfl, rfl, rfl, trivial⟩) ?_
 ·exact Nat.zero_le _
 intro i v hinv
 refine R7 ?_
 refine A6 (A0 rfl) ?_ ?_
 ·intro h17
  have k17 := of_decide_eq_true h17; try simp only [A5] at k17
  have hlt : i < n := by omega
  refine R9 ?_
  refine J0 (by' := 40) 1 rfl rfl rfl rfl C2 Tryz.type116 rfl rfl rfl rfl rfl rfl (A0 rfl) (A0 rfl) rfl (by simp only [A5, List.length_replicate, P3]; omega) ?_
  intro v25_2
  refine R1 ?_
  refine Q8 1 rfl fun one_v25_2 => ?_
  refine O0 0 rfl rfl rfl (A0 rfl) (A0 rfl) (P2 one_v25_2) rfl Tryz.sizeOf52 rfl ?_
  refine R6 ?_
  refine N3 i v (i + 1) (v25_2) ?_ ?_ (Le.trans (H6 [0, 0] rfl) (J5 (by (rw [List.replicate_succ', List.map_append]; rfl)) ⟨rfl, rfl, rfl, rfl, rfl, trivial⟩))
  ·exact qz5
  omega
 intro h17
 have k17 := of_decide_eq_false h17; try simp only [A5] at k17
 have hge : i = n := by omega
 subst hge
 refine R8 ?_
 exact E4 [1] v (trivial) rfl B1 (J4 rfl B5 (A7 (C4 (ys := _) 2 rfl rfl G0 F8 rfl) (A7 (A4 rfl B1) D0)))
theorem An3 (many : Int) : C0 Tryz.prog 86 [AV.int many] (AV.tup [AV.agg (U0 many).1.cs, AV.bool (U0 many).2]) :=
  O1 (At3 many) fun v _ => AH7 (B2 (TGroup.fl _ v) (B2 C8 J8))
end Go.Proofs.YtkibefcceekmnaaGreat
namespace Go.M
open Go.AV
end Go.M
namespace Go.Proofs.YtkibefcceekmnaaGreat
open Go Go.AV Go.M
attribute [local irreducible] OpW OpA OpS AWP C0 I0 D7 OpE RetOk G3 H5 Le Ev F6 J1 Ah5 Int.tmod Int.tdiv IntKind.wrap bandI
def C1.ocs (r : C1) (y : Value) : List AV := [AV.bool r.Up, AV.is y, AV.int r.Sure]
def C1.ow (r : C1) (y : Value) : List Go.AV.Own := [.arr y 29 8 (r.Log.map B8.cs)]
theorem C1.lcM {own : List Go.AV.Own} (r : C1) (y : Value) (h : ∀ o ∈ C1.ow r y, o ∈ own) : U3 own (C1.ocs r y) r.cs := B2 C8 (B2 (G5 (h _ (C6 (i := 0) rfl)) E3) d9)
theorem BG1 (g : TGroup) (hs : g.size ≤ 1048576) : D7 Tryz.prog 123 [AV.agg g.cs] [] (fun x : Value × List Value => x.2.length = g.Reps.length) (fun x => .arr x.1 116 3 (nrows C1.ocs g.Reps x.2) :: nin C1.ow g.Reps x.2) (fun x => AV.agg [AV.is x.1, AV.int g.Term, AV.int g.Lead]) := by
 have hrs : sizeL C1.size g.Reps ≤ 1048576 := hs
 have hll : g.Reps.length ≤ 1048576 := Nat.le_trans K2 hrs
 refine D1 Tryz.func123 rfl Tryz.ntmps123 rfl ?_
 refine R3 ?_
 intro b1
 refine R1 ?_
 intro b2
 refine R3 ?_
 refine K8 rfl rfl rfl rfl C2 C7 ?_
 intro v5
 refine R4 ?_
 refine Q8 0 rfl fun one_v5 => ?_
 refine A2 rfl (U1 (places := #[(0, 1), (1, 1), (2, 1)]) rfl Tryz.underlying54 Tryz.zeroValue54 (fun w => by kernel_rfl) rfl (E1 (A0 rfl) (P2 one_v5) (E1 (A0 rfl) (Q3 _ _) (E1 (A0 rfl) (Q3 _ _) O8))) rfl) ?_
 refine R1 ?_
 intro b3
 refine R8 ?_
 refine AWP.le (H6 [0, 1, 1, 0] rfl) ?_
 refine V8 [(1, _), (2, _), (3, _)] [] (fun (i : Nat) (v : Value) (xs : List Value) => i ≤ g.Reps.length ∧ xs.length = i) (fun (i : Nat) (v : Value) (xs : List Value) => [.box b3 54 [AV.is v, AV.int g.Term, AV.int g.Lead], .box b2 54 (List.map zeroA (Value.agg #[Value.slice none 0 0, Value.int IntKind.i64 0, Value.int IntKind.i64 0]).cells.toList), .box b1 54 g.cs, .arr v 116 3 (nrows C1.ocs (g.Reps.take i) xs)] ++ (nin C1.ow (g.Reps.take i) xs)) (fun (i : Nat) (v : Value) (xs : List Value) => [(4, AV.int i)]) (fun (i : Nat) (v : Value) (xs : List Value) => g.Reps.length - i) (0) (v5) ([]) ?_ (J5 B1 ⟨rfl, rfl, rfl, rfl, trivial⟩) ?_
 ·exact ⟨Nat.zero_le _, rfl⟩
 intro i v xs hinv
 refine s5 (List.append_nil _) ?_
 refine R9 ?_
 refine A6 (A0 rfl) ?_ ?_
 ·intro h15
  have k15 := of_decide_eq_true h15; try simp only [A5] at k15
  have hlt : i < g.Reps.length := (by simpa using h15)
  obtain ⟨x, hx⟩ := E7 hlt
  have hsx : sizeL B8.size x.Log ≤ 1048576 := Nat.le_trans (T7 (f := C1.size) hx) hrs
  refine R3 ?_
  refine Z4 _ [(0, false), (1, false), (2, false), (3, false), (4, false), (5, false), (6, false), (7, false), (8, false), (9, false), (10, false), (11, false), (12, false), (13, false), (15, false), (16, false), (17, false), (18, false), (19, false), (20, false), (14, true), (21, false), (22, false), (23, true)] F9 F9 rfl (X4 3) ?_
  refine R5 ?_
  refine U8 rfl rfl rfl (fun ext => F1 rfl C2 C7 (A0 rfl) (A0 rfl) hx qz1) ?_
  refine R5 ?_
  refine U8 rfl rfl rfl (fun ext => F1 rfl C2 C7 (A0 rfl) (A0 rfl) hx qz1) ?_
  refine R5 ?_
  refine U8 rfl rfl rfl (fun ext => F1 rfl C2 C7 (A0 rfl) (A0 rfl) hx qz1) ?_
  refine R2 ?_
  refine g8 rfl rfl rfl (j5 4 (fun _ => rfl) (opE_mid 4 (K5 [] rfl Tryz.call132 rfl (AR5 x.Log hsx) (A1 (A0 rfl) A3) rfl))) (fun a _ => qz2) ?_
  intro x32 ok32
  have one_x32 := ok32.2
  replace ok32 := ok32.1
  refine U8 rfl rfl rfl (fun ext => U1 (places := #[(0, 1), (1, 1), (2, 1)]) rfl I8 Tryz.zeroValue116 (fun w => by kernel_rfl) rfl (E1 (A0 rfl) (AH5 _) (E1 (A0 rfl) (P2 one_x32) (E1 (A0 rfl) (Q3 _ _) O8))) rfl) ?_
  refine R1 ?_
  refine g8 rfl rfl rfl (T1 (by' := 40) 3 rfl C2 Tryz.type116 rfl rfl rfl rfl rfl rfl (A0 rfl) (A0 rfl) rfl (by simp only [P3]; rw [BI0 (by rw [hinv.2, H2]; omega), H2]; omega)) (fun a _ => qz2) ?_
  intro v41_1 _
  refine R2 ?_
  refine Q8 3 rfl fun one_v41_1 => ?_
  refine O0 0 rfl rfl rfl (A0 rfl) (A0 rfl) (P2 one_v41_1) rfl Tryz.sizeOf52 rfl ?_
  refine R1 ?_
  refine AWP.le (H6 [0, 0, 0, 0, 0] rfl) ?_
  refine AWP.le (Az5 4 (t := nin C1.ow (g.Reps.take (i + 1)) (xs ++ [x32])) (nin_step (ow := C1.ow) (x := x32) hx hinv.2)) ?_
  refine R5 ?_
  refine S9 i v xs (i + 1) (v41_1) (xs ++ [x32]) ?_ ?_ (Le.trans (H6 [0, 0, 0, 0] rfl) (J5 (Eq.trans (by exact congrArg (fun z => Go.AV.Own.box _ _ _ :: Go.AV.Own.box _ _ _ :: Go.AV.Own.box _ _ _ :: Go.AV.Own.arr _ _ _ z :: _) (BC7 hx hinv.2)) (List.append_nil _).symm) ⟨rfl, rfl, rfl, rfl, trivial⟩))
  ·exact ⟨by omega, by rw [D5, hinv.2]; rfl⟩
  omega
 intro h15
 have k15 := of_decide_eq_false h15; try simp only [A5] at k15
 have hge : i = g.Reps.length := (by have h9 : g.Reps.length ≤ i := (by simpa using h15); omega)
 have hxs := hinv.2.trans hge
 rw [show g.Reps.take i = g.Reps from List.take_of_length_le qz5]
 refine R7 ?_
 exact retGT [3] 3 (nin C1.ow g.Reps xs) [] (v, xs) (hxs) rfl (show List.Perm (nin C1.ow g.Reps xs) ((nin C1.ow g.Reps xs) ++ []) from Ap7) B1 (H4 rfl (C4 (ys := _) 1 rfl rfl G0 F8 rfl))
theorem BK9 {own : List Go.AV.Own} {l : List C1} {xs : List Value} {k : Nat} (hm : ∀ o ∈ nin C1.ow (l.eraseIdx k) (xs.eraseIdx k), o ∈ own) {j : Nat} {p : C1} {x : Value} (hp : l[j]? = some p) (hx : xs[j]? = some x) (hj : j ≠ k) : ∀ o ∈ C1.ow p x, o ∈ own := fun o ho => by
  by_cases h : j < k
  · exact hm o (Az6 (i := j) (by rw [List.getElem?_eraseIdx, if_pos h]; exact hp) (by rw [List.getElem?_eraseIdx, if_pos h]; exact hx) o ho)
  · exact hm o (Az6 (i := j - 1) (by rw [List.getElem?_eraseIdx, if_neg qz5, show j - 1 + 1 = j by omega]; exact hp) (by rw [List.getElem?_eraseIdx, if_neg qz5, show j - 1 + 1 = j by omega]; exact hx) o ho)
theorem Al3 {own : List Go.AV.Own} {l : List C1} {xs : List Value} {k : Nat} {p p' : C1} {y : Value} (hlen : xs.length = l.length) (hp : l[k]? = some p) (hy : xs[k]? = some y) (hm : ∀ o ∈ nin C1.ow (l.eraseIdx k) (xs.eraseIdx k), o ∈ own) : Ae3 own (nrows C1.ocs (l.take k) (xs.take k) ++ p'.cs :: nrows C1.ocs (l.drop (k + 1)) (xs.drop (k + 1))) ((l.set k p').map C1.cs) := by
  have hk := (List.getElem?_eq_some_iff.1 hp).1
  have ht := j6 (ocs := C1.ocs) hp hy
  refine ⟨by rw [AK1 hp hy hlen, A5, List.length_set], fun j a b ha hb => ?_⟩
  rw [List.getElem?_map] at hb
  by_cases hj : j = k
  · subst hj
    rw [List.getElem?_set_self hk] at hb
    rw [List.getElem?_append_right qz5, ht, Nat.sub_self, getZz] at ha
    injection ha with ha; injection hb with hb; subst ha; subst hb
    exact d9
  · rw [List.getElem?_set_ne (fun e => hj e.symm)] at hb
    cases hq : l[j]? with
    | none => rw [hq] at hb; cases hb
    | some q =>
      rw [hq] at hb
      injection hb with hb
      have hjl := (List.getElem?_eq_some_iff.1 hq).1
      obtain ⟨x, hx⟩ : ∃ x, xs[j]? = some x := ⟨_, List.getElem?_eq_getElem qz5⟩
      have ha2 : (nrows C1.ocs l xs)[j]? = some a := by
        rw [AG3 hp hy]
        by_cases h : j < k
        · rw [List.getElem?_append_left qz5] at ha ⊢; exact ha
        · rw [List.getElem?_append_right qz5] at ha ⊢
          obtain ⟨m, hm9⟩ : ∃ m, j - (nrows C1.ocs (l.take k) (xs.take k)).length = m + 1 := ⟨j - k - 1, by omega⟩
          rw [hm9] at ha ⊢
          rw [getZs] at ha ⊢
          exact ha
      rw [BI1 hq hx] at ha2
      injection ha2 with ha2
      subst ha2; subst hb
      exact C1.lcM q x (BK9 hm hq hx hj)
theorem AW7 (R : List C1) (tm : Int) (k : Nat) (L : C1) (r : E8) (hL : R[k]? = some L) (hs : (TGroup.mk R tm k).size ≤ 1000000) (hrs : r.size ≤ 1000) (hg : goodGroup ⟨R, tm, k⟩ = true) (hgr : goodRec r = true) (hlen : L.Log.length < 60) : D7 Tryz.prog 119 [AV.agg (TGroup.mk R tm k).cs, AV.agg r.cs] [] (fun x : Value × List Value => x.2.length = R.length) (fun x => .arr x.1 116 3 (nrows C1.ocs (R.take k) (x.2.take k) ++ (C1.mk L.Up (L.Log ++ [⟨tm, r⟩]) L.Sure).cs :: nrows C1.ocs (R.drop (k + 1)) (x.2.drop (k + 1))) :: nin C1.ow (R.eraseIdx k) (x.2.eraseIdx k)) (fun x => AV.tup [AV.agg [AV.is x.1, AV.int tm, AV.int (k : Int)], AV.bool true]) := by
 have hrsz : sizeL C1.size R ≤ 1000000 := hs
 have hkl := (List.getElem?_eq_some_iff.1 hL).1
 have hll : R.length ≤ 1000000 := Nat.le_trans K2 hrsz
 have hlsz : sizeL B8.size L.Log ≤ 1000000 := Nat.le_trans (T7 (f := C1.size) hL) hrsz
 have hnew : sizeL B8.size (L.Log ++ [⟨tm, r⟩]) ≤ 1048576 := by
  have e : sizeL B8.size (L.Log ++ [⟨tm, r⟩]) = sizeL B8.size L.Log + (1 + r.size) := by
   unfold sizeL; rw [List.map_append, List.sum_append]; simp [B8.size]; omega
  omega
 have hld : (TGroup.mk R tm (k : Int)).Lead = (k : Int) := rfl
 have hrl : (TGroup.mk R tm (k : Int)).Reps.length = R.length := rfl
 have hcall : C0 Tryz.prog 132 [AV.list 8 (L.Log.map B8.cs ++ [B8.cs (B8.mk tm r)])] (AV.list 8 ((L.Log ++ [B8.mk tm r]).map B8.cs)) := by
  have h := AA7 (L.Log ++ [⟨tm, r⟩]) hnew
  rw [List.map_append] at h ⊢
  exact h
 refine D1 Tryz.func119 rfl Tryz.ntmps119 rfl ?_
 refine R3 ?_
 intro b2
 refine R1 ?_
 intro b3
 refine R1 ?_
 intro b4
 refine R6 ?_
 refine A2 rfl (A8 rfl Tryz.call114 rfl (U2 _ M5) (A1 (A0 rfl) A3)) ?_
 refine R8 ?_
 refine L0 rfl (fun hc => A8 rfl Tryz.call122 rfl (r3 _ M5) (A1 (B0 rfl hc) A3)) ?_
 refine R7 ?_
 refine L0 rfl (fun hc => F1 rfl C2 C7 (B0 rfl hc) (B0 rfl hc) hL qz4) ?_
 refine R6 ?_
 refine A6 (A0 rfl) ?_ ?_
 ·intro h30
  exfalso; rw [hg, ← V4, hgr] at h30; simp at h30; omega
 intro h30
 refine R4 ?_
 refine BH9 [] 3 1 ([]) ([]) (fun zz => nin C1.ow R zz.2) rfl rfl rfl rfl Tryz.call123 rfl rfl (show List.Perm ([]) (([]) ++ ([])) from List.Perm.refl _) (BG1 ⟨R, tm, k⟩ qz5) (A1 (A0 rfl) A3) (fun a => perm_lin) ?_
 intro x33 ok33
 refine R1 ?_
 intro b6
 refine R3 ?_
 have hln : x33.2.length = R.length := ok33
 obtain ⟨y, hy⟩ := E7 (show k < x33.2.length by omega)
 rw [AG3 hL hy]
 refine AWP.le (Az5 5 (t := ([Go.AV.Own.arr y 29 8 (L.Log.map B8.cs)]) ++ (nin C1.ow (R.eraseIdx k) (x33.2.eraseIdx k))) (Af5 (ow := C1.ow) hL hy)) ?_
 refine Z4 _ [(0, false), (1, false), (2, false), (3, false), (4, false), (5, false), (6, false), (7, false), (8, false), (9, false), (10, false), (11, false), (12, false), (13, false), (14, false), (15, false), (16, true), (17, false)] F9 F9 rfl (X4 5) ?_
 refine R8 ?_
 refine U8 rfl rfl rfl (fun ext => K7 1 rfl C2 C7 (A0 rfl) rfl (A0 rfl) qz5 (by rw [AK1 hL hy hln]; omega)) ?_
 refine U8 rfl rfl rfl (fun ext => f9 1 rfl I8 rfl P0 (A0 rfl) rfl rfl (AT1 (j6 hL hy))) ?_
 refine U8 rfl rfl rfl (fun ext => m6 1 rfl (A0 rfl) rfl W1 (AT1 (j6 hL hy)) rfl) ?_
 refine R5 ?_
 refine g8 rfl rfl rfl (BI3 [5] (fun _ => rfl) (fun _ => G5 (C6 (i := 0) rfl) E3) (fun _ => H8) (T1 (by' := 96) 5 rfl F5 Tryz.type29 rfl rfl rfl rfl rfl rfl (A0 rfl) (A0 rfl) rfl qz1)) (fun a _ => qz2) ?_
 intro v50_1 _
 refine U8 rfl rfl rfl (fun ext => A8 rfl Tryz.call132 rfl (hcall) (A1 (A0 rfl) A3)) ?_
 refine R1 ?_
 refine A2 rfl (K7 1 rfl C2 C7 (A0 rfl) rfl (A0 rfl) qz5 (by rw [AK1 hL hy hln]; omega)) ?_
 refine A2 rfl (f9 1 rfl I8 rfl P0 (A0 rfl) rfl rfl (AT1 (j6 hL hy))) ?_
 refine BC4 1 rfl rfl rfl (A0 rfl) (A0 rfl) (Ay8 _ _) rfl P0 (j6 hL hy) rfl ?_
 refine R8 ?_
 exact retGT [1] 4 (nin C1.ow (R.eraseIdx k) (x33.2.eraseIdx k)) [] (x33.1, x33.2) (ok33) rfl (show List.Perm (nin C1.ow (R.eraseIdx k) (x33.2.eraseIdx k)) ((nin C1.ow (R.eraseIdx k) (x33.2.eraseIdx k)) ++ []) from Ap7) B1 (J4 rfl B5 (A7 (C4 (ys := _) 2 rfl rfl G0 F8 rfl) (A7 (A4 rfl B1) D0)))
end Go.Proofs.YtkibefcceekmnaaGreat
namespace Go.M
open Go.AV
theorem Ad8 {g : TGroup} {r : E8} (hc : (!((!goodGroup g || decide (g.Lead < 0)) || !l4Good r)) = true) : 0 ≤ g.Lead ∧ g.Lead < g.Reps.length := by
  simp only [Bool.not_eq_true', Bool.or_eq_false_iff, Bool.not_eq_false', decide_eq_false_iff_not] at hc
  have gg := S0.1 hc.1.1
  rcases gg.lead with e | ⟨a, b, _⟩
  · have := hc.1.2; omega
  · exact ⟨a, b⟩
theorem Ad9 {g : TGroup} {r : E8} (hno : (N5 g r).2 = false) (h : (((!goodGroup g || decide (g.Lead < 0)) || !l4Good r) || decide ((((repAt g g.Lead).Log.map B8.cs).length : Int) ≥ 60)) = false) : False := by
  rw [A5] at h
  simp only [Bool.or_eq_false_iff, Bool.not_eq_false', decide_eq_false_iff_not] at h
  have hl : hasLead g = true := by unfold hasLead; rw [h.1.1.1, decide_eq_true (by have := h.1.1.2; omega)]; rfl
  unfold N5 at hno
  rw [if_pos ⟨by rw [hl, V4, h.1.2]; rfl, by have := h.2; omega⟩] at hno
  cases hno
end Go.M
namespace Go.Proofs.YtkibefcceekmnaaGreat
open Go Go.AV Go.M
attribute [local irreducible] OpW OpA OpS AWP C0 I0 D7 OpE RetOk G3 H5 Le Ev F6 J1 Ah5 Int.tmod Int.tdiv IntKind.wrap bandI
theorem Ax6 (g : TGroup) (r : E8) (hs : g.size ≤ 1048576) (hrs : r.size ≤ 1000) (hno : (N5 g r).2 = false) : C0 Tryz.prog 119 [AV.agg g.cs, AV.agg r.cs] (AV.tup [AV.agg O5.cs, AV.bool false]) := by
 refine B3 Tryz.func119 rfl Tryz.ntmps119 rfl ?_
 refine R3 ?_
 intro b2
 refine R1 ?_
 intro b3
 refine R1 ?_
 intro b4
 refine R6 ?_
 refine A2 rfl (A8 rfl Tryz.call114 rfl (U2 _ M5) (A1 (A0 rfl) A3)) ?_
 refine R8 ?_
 refine L0 rfl (fun hc => A8 rfl Tryz.call122 rfl (r3 _ M5) (A1 (B0 rfl hc) A3)) ?_
 refine R7 ?_
 refine L0 rfl (fun hc => F1 rfl C2 C7 (B0 rfl hc) (B0 rfl hc) (K3 (Ad8 hc)) (by have h9 := (Ad8 hc).1; omega)) ?_
 refine R6 ?_
 refine A6 (A0 rfl) ?_ ?_
 ·intro h30
  refine R7 ?_
  refine T2 0 0 3 rfl rfl ?_
  exact L3 rfl B5 (A7 (C4 (ys := _) 0 rfl rfl G0 F8 rfl) (A7 (A4 rfl B1) D0))
 intro h30
 exact (Ad9 hno h30).elim
theorem An4 (g : TGroup) (r : E8) (hs : g.size ≤ 1000000) (hrs : r.size ≤ 1000) : C0 Tryz.prog 119 [AV.agg g.cs, AV.agg r.cs] (AV.tup [AV.agg (N5 g r).1.cs, AV.bool (N5 g r).2]) := by
  by_cases h : (hasLead g && goodRec r) = true ∧ (repAt g g.Lead).Log.length < 60
  · have he : N5 g r = (setRep g g.Lead ⟨(repAt g g.Lead).Up, (repAt g g.Lead).Log ++ [⟨g.Term, r⟩], (repAt g g.Lead).Sure⟩, true) := if_pos h
    have hh := h.1
    rw [Bool.and_eq_true] at hh
    obtain ⟨gg, l0, l1, hup⟩ := Y8.1 hh.1
    have hL := K3 (g := g) (r := g.Lead) ⟨l0, l1⟩
    rw [he]
    obtain ⟨R, tm, ld⟩ := g
    obtain ⟨k, hk⟩ : ∃ k : Nat, ld = (k : Int) := ⟨ld.toNat, (Int.toNat_of_nonneg l0).symm⟩
    subst hk
    refine O1 (AW7 R tm k (repAt ⟨R, tm, k⟩ k) r hL hs hrs (S0.2 gg) hh.2 h.2) fun x hx => ?_
    have hkl := (List.getElem?_eq_some_iff.1 hL).1
    have hxl : x.2.length = R.length := hx
    obtain ⟨y, hy⟩ : ∃ y, x.2[k]? = some y := ⟨_, List.getElem?_eq_getElem (show k < x.2.length by rw [hxl]; exact hkl)⟩
    exact AH7 (B2 (c9 (B2 (G5 List.mem_cons_self (Al3 hxl hL hy fun o ho => List.mem_cons_of_mem _ ho)) d9)) (B2 C8 J8))
  · have he : N5 g r = (O5, false) := if_neg h
    rw [he]
    exact Ax6 g r qz5 hrs (by rw [he])
end Go.Proofs.YtkibefcceekmnaaGreat
namespace Go.M
open Go.AV
def keptB (l : List B8) : Str := (l.map fun e => frameB (entB e)).flatten
theorem BG2 {l : List B8} {i : Nat} {e : B8} (h : l[i]? = some e) : keptB (l.take (i + 1)) = keptB (l.take i) ++ frameB (entB e) := by
  unfold keptB; rw [List.take_add_one, h, List.map_append, List.flatten_append]; simp
theorem AR7 : ∀ {l : List B8}, (∀ e ∈ l, L8 e = true) → (keptB l).length ≤ 470 * l.length
  | [], _ => Nat.le_refl _
  | e :: l, h => by
    have h1 := AR7 (l := l) fun x hx => h x (List.mem_cons_of_mem _ hx)
    have h2 := m7 (h e List.mem_cons_self)
    have h3 := Q9 (n := (entB e).length) qz5
    unfold keptB at h1 ⊢
    rw [List.map_cons, List.flatten_cons, D5, E6, Q4]; omega
end Go.M
namespace Go.Proofs.YtkibefcceekmnaaGreat
open Go Go.AV Go.M
attribute [local irreducible] OpW OpA OpS AWP C0 I0 D7 OpE RetOk G3 H5 Le Ev F6 J1 Int.tmod Int.tdiv IntKind.wrap
theorem Z5 (l : List B8) (hg : ∀ e ∈ l, L8 e = true) (hl : l.length ≤ 60) (hs : ∀ e ∈ l, e.size ≤ 1048576) : C0 Tryz.prog 89 [AV.list 8 (l.map B8.cs)] (AV.str (keptB l)) := by
 refine B3 Tryz.func89 rfl Tryz.ntmps89 rfl ?_
 refine R2 ?_
 refine A2 rfl (E2 rfl (D4 (l := []) rfl)) ?_
 refine R3 ?_
 refine A2 rfl (E2 rfl (D4 (l := []) rfl)) ?_
 refine R7 ?_
 refine H7 [(0, _), (2, _)] _ (fun (i : Nat) => i ≤ l.length) (fun (i : Nat) => []) (fun (i : Nat) => [(3, AV.str (keptB (l.take i))), (4, AV.int i)]) (fun (i : Nat) => l.length - i) (0) ?_ (G7 ⟨rfl, rfl, rfl, rfl, trivial⟩) ?_
 ·exact Nat.zero_le _
 intro i hinv
 refine R8 ?_
 refine A6 (A0 rfl) ?_ ?_
 ·intro h8
  have k8 := of_decide_eq_true h8; try simp only [A5] at k8
  have hlt : i < l.length := (by simpa using h8)
  obtain ⟨x, hx⟩ := E7 hlt
  have hxm := C6 hx
  have hel := m7 (hg x hxm)
  have hn5 := Q9 (n := (entB x).length) qz5
  have hfl := Q4 (entB x)
  have hkl := AR7 (l := l.take i) (fun e he => hg e (List.mem_of_mem_take he))
  have htl : (l.take i).length ≤ 60 := (by rw [H2]; omega)
  refine R7 ?_
  refine A2 rfl (F1 rfl F5 G1 (A0 rfl) (A0 rfl) hx qz1) ?_
  refine R1 ?_
  refine A2 rfl (A8 rfl Tryz.call20 rfl (s9 x (hg x hxm) (hs x hxm)) (A1 (A0 rfl) A3)) ?_
  refine A2 rfl (A8 rfl Tryz.call55 rfl (r4 (entB x) qz5) (A1 (A0 rfl) A3)) ?_
  refine A2 rfl (J7 rfl (A0 rfl) (A0 rfl) qz5) ?_
  refine R7 ?_
  refine J2 i (i + 1) ?_ ?_ (G7 ⟨congrArg (fun z => some (AV.str z)) (BG2 hx).symm, rfl, rfl, rfl, trivial⟩)
  ·exact qz5
  omega
 intro h8
 have k8 := of_decide_eq_false h8; try simp only [A5] at k8
 have hie : i = l.length := (by have h9 : l.length ≤ i := (by simpa using h8); omega)
 rw [hie, List.take_length]
 refine R7 ?_
 exact F0 rfl (A4 rfl B1)
end Go.Proofs.YtkibefcceekmnaaGreat
namespace Go.M
open Go.AV
theorem Ah0 {h : THouse} (hh : HI h) : h.Group.size ≤ 120305 ∧ sizeL G6.size h.Disks ≤ 300005 := by
  refine ⟨gg_size hh.gg, Nat.le_trans (AF5 (c := 60000) hh.disks) (Nat.mul_le_mul_right _ (n := h.Disks.length) (m := 5) ?_)⟩
  have := hh.gg.many
  have := hh.len
  omega
end Go.M
namespace Go.Proofs.YtkibefcceekmnaaGreat
open Go Go.AV Go.M
attribute [local irreducible] OpW OpA OpS AWP C0 I0 D7 OpE RetOk G3 H5 Le Ev F6 J1 Int.tmod Int.tdiv IntKind.wrap
theorem BL0 (g : TGroup) (r : E8) (hs : g.size ≤ 1048576) (hrs : r.size ≤ 1000) (hno : (N5 g r).2 = false) : D7 Tryz.prog 119 [AV.agg g.cs, AV.agg r.cs] [] (fun _ : Value => True) (fun v => TGroup.fow O5 v) (fun v => AV.tup [AV.agg (TGroup.fcs O5 v), AV.bool false]) := by
 refine D1 Tryz.func119 rfl Tryz.ntmps119 rfl ?_
 refine R3 ?_
 intro b2
 refine R1 ?_
 intro b3
 refine R1 ?_
 intro b4
 refine R6 ?_
 refine A2 rfl (A8 rfl Tryz.call114 rfl (U2 _ M5) (A1 (A0 rfl) A3)) ?_
 refine R8 ?_
 refine L0 rfl (fun hc => A8 rfl Tryz.call122 rfl (r3 _ M5) (A1 (B0 rfl hc) A3)) ?_
 refine R7 ?_
 refine L0 rfl (fun hc => F1 rfl C2 C7 (B0 rfl hc) (B0 rfl hc) (K3 (Ad8 hc)) (by have h9 := (Ad8 hc).1; omega)) ?_
 refine R6 ?_
 refine A6 (A0 rfl) ?_ ?_
 ·intro h30
  refine R7 ?_
  refine L2 116 3 ?_
  exact E4 [0] (Value.slice none 0 0) (trivial) rfl B1 (J4 rfl B5 (A7 (C4 (ys := _) 1 rfl rfl G0 F8 rfl) (A7 (A4 rfl B1) D0)))
 intro h30
 exact (Ad9 hno h30).elim
theorem At4 (g : TGroup) (r : E8) (hs : g.size ≤ 1000000) (hrs : r.size ≤ 1000) : D7 Tryz.prog 119 [AV.agg g.cs, AV.agg r.cs] [] (fun _ : Value => True) (fun v => TGroup.fow (N5 g r).1 v) (fun v => AV.tup [AV.agg (TGroup.fcs (N5 g r).1 v), AV.bool (N5 g r).2]) := by
  by_cases h : (hasLead g && goodRec r) = true ∧ (repAt g g.Lead).Log.length < 60
  · have he : N5 g r = (setRep g g.Lead ⟨(repAt g g.Lead).Up, (repAt g g.Lead).Log ++ [⟨g.Term, r⟩], (repAt g g.Lead).Sure⟩, true) := if_pos h
    have hh := h.1
    rw [Bool.and_eq_true] at hh
    obtain ⟨gg, l0, l1, hup⟩ := Y8.1 hh.1
    have hL := K3 (g := g) (r := g.Lead) ⟨l0, l1⟩
    rw [he]
    obtain ⟨R, tm, ld⟩ := g
    obtain ⟨k, hk⟩ : ∃ k : Nat, ld = (k : Int) := ⟨ld.toNat, (Int.toNat_of_nonneg l0).symm⟩
    subst hk
    refine v1 (fun x => x.1) (fun x => nin C1.ow (R.eraseIdx k) (x.2.eraseIdx k)) (fun x => [.arr x.1 116 3 (nrows C1.ocs (R.take k) (x.2.take k) ++ (C1.mk (repAt ⟨R, tm, k⟩ k).Up ((repAt ⟨R, tm, k⟩ k).Log ++ [⟨tm, r⟩]) (repAt ⟨R, tm, k⟩ k).Sure).cs :: nrows C1.ocs (R.drop (k + 1)) (x.2.drop (k + 1)))]) (AW7 R tm k (repAt ⟨R, tm, k⟩ k) r hL hs hrs (S0.2 gg) hh.2 h.2) (fun _ _ => trivial) (fun _ _ => C8) (fun x _ => List.perm_append_comm (l₁ := [_])) (fun _ _ => H8) (fun x hx => ?_)
    have hkl := (List.getElem?_eq_some_iff.1 hL).1
    have hxl : x.2.length = R.length := hx
    obtain ⟨y, hy⟩ : ∃ y, x.2[k]? = some y := ⟨_, List.getElem?_eq_getElem (show k < x.2.length by rw [hxl]; exact hkl)⟩
    exact AT2 ⟨rfl, rfl, rfl, Al3 hxl hL hy fun o ho => ho⟩ Ab0
  · have he : N5 g r = (O5, false) := if_neg h
    rw [he]
    exact BL0 g r qz5 hrs (by rw [he])
end Go.Proofs.YtkibefcceekmnaaGreat
namespace Go.M
open Go.AV
end Go.M
namespace Go.Proofs.YtkibefcceekmnaaGreat
open Go Go.AV Go.M
attribute [local irreducible] OpW OpA OpS AWP C0 I0 D7 OpE RetOk G3 H5 Le Ev F6 J1 Int.tmod Int.tdiv IntKind.wrap
end Go.Proofs.YtkibefcceekmnaaGreat
namespace Go.M
open Go.AV
theorem spoil_a (t : Str) (i : Nat) (y : UInt8) : ((t.take i ++ [y]) ++ t.drop i).length = t.length + 1 := by
  simp only [D5, E6, I4, H2, List.length_drop]; omega
theorem spoil_b (t : Str) (i : Nat) (y : UInt8) : ((t.take i ++ [y]) ++ t.drop (i + 1)).length ≤ t.length + 1 := by
  simp only [D5, E6, I4, H2, List.length_drop]; omega
theorem spoil_c (t : Str) (i : Nat) : (t.take i ++ t.drop (i + 1)).length ≤ t.length + 1 := by
  simp only [D5, H2, List.length_drop]; omega
end Go.M
namespace Go.Proofs.YtkibefcceekmnaaGreat
open Go Go.AV Go.M
attribute [local irreducible] OpW OpA OpS AWP C0 I0 D7 OpE RetOk G3 H5 Le Ev F6 J1 Int.tmod Int.tdiv IntKind.wrap bandI
theorem w6 (b : Nat) (code : List Int) (hcode : Q6 code) (c : J6) (hp : c.p ≤ 6000000) : D7 Tryz.prog 25 [AV.ptr b 0] [.box b 47 (L6 code c)] (fun x : J6 × Str => x.1.p ≤ c.p + 2 ∧ x.2.length ≤ 64) (fun x => [.box b 47 (L6 code x.1)]) (fun x => AV.str x.2) := by
  refine D1 Tryz.func25 rfl Tryz.ntmps25 rfl ?_
  refine R2 ?_
  refine A2 rfl (E2 rfl (D4 (l := []) rfl)) ?_
  refine R4 ?_
  refine A2 rfl (m5 rfl C5 G2 Tryz.zeroValue9 rfl rfl rfl rfl (E1 (D4 (l := []) rfl) (K6 _) (E1 (D4 (l := [97]) rfl) (K6 _) (E1 (D4 (l := [114, 111, 119]) rfl) (K6 _) (E1 (D4 (l := [97, 32, 108, 111, 110, 103, 32, 116, 101, 120, 116, 32, 111, 102, 32, 115, 111, 109, 101, 32, 119, 111, 114, 100, 115]) rfl) (K6 _) (E1 (D4 (l := [0, 255]) rfl) (K6 _) (E1 (D4 (l := [48, 49, 50, 51, 52, 53, 54, 55, 56, 57, 48, 49, 50, 51, 52, 53, 54, 55, 56, 57, 48, 49, 50, 51, 52, 53, 54, 55, 56, 57, 48, 49, 50, 51, 52, 53, 54, 55, 56, 57, 48, 49, 50, 51, 52, 53, 54, 55, 56, 57, 48, 49, 50, 51, 52, 53, 54, 55, 56, 57, 48]) rfl) (K6 _) O8)))))) rfl rfl) ?_
  refine B6 [0] rfl rfl rfl rfl Tryz.call57 rfl (AQ8 _ _ hcode _ ([[], [97], [114, 111, 119], [97, 32, 108, 111, 110, 103, 32, 116, 101, 120, 116, 32, 111, 102, 32, 115, 111, 109, 101, 32, 119, 111, 114, 100, 115], [0, 255], [48, 49, 50, 51, 52, 53, 54, 55, 56, 57, 48, 49, 50, 51, 52, 53, 54, 55, 56, 57, 48, 49, 50, 51, 52, 53, 54, 55, 56, 57, 48, 49, 50, 51, 52, 53, 54, 55, 56, 57, 48, 49, 50, 51, 52, 53, 54, 55, 56, 57, 48, 49, 50, 51, 52, 53, 54, 55, 56, 57, 48]] : List Str) B5 qz5) (A1 (A0 rfl) (A1 (A0 rfl) A3)) rfl ?_
  intro x5 ok5
  refine R3 ?_
  (refine E4 [0] ((_, _)) ?_ rfl qz7 (H4 rfl (A4 rfl B1)); exact ok5)
theorem AM7 (b : Nat) (code : List Int) (hcode : Q6 code) (c : J6) (t w : Str) (ht : t.length ≤ 500000) (hw : 1 ≤ w.length ∧ w.length ≤ 1000) (hp : c.p ≤ 5000000) : D7 Tryz.prog 23 [AV.ptr b 0, AV.str t, AV.str w] [.box b 47 (L6 code c)] (fun x : J6 × Str => x.1.p ≤ c.p + 20 ∧ x.2.length ≤ t.length + 2) (fun x => [.box b 47 (L6 code x.1)]) (fun x => AV.str x.2) := by
 refine D1 Tryz.func23 rfl Tryz.ntmps23 rfl ?_
 refine R2 ?_
 refine A2 rfl (E2 rfl (D4 (l := []) rfl)) ?_
 refine R5 ?_
 refine B6 [0] rfl rfl rfl rfl Tryz.call22 rfl (I5 _ _ hcode _ _ qz5 qz5) (A1 (A0 rfl) (A1 D6 A3)) rfl ?_
 intro x11 ok11
 refine R4 ?_
 refine V8 [(0, _), (2, _), (6, _)] _ (fun (n : Int) (cc : J6) (u : Str) => (0 ≤ n ∧ n ≤ 2) ∧ cc.p + 6 * n ≤ c.p + 16 ∧ (u.length : Int) + n ≤ t.length + 2) (fun (n : Int) (cc : J6) (u : Str) => [.box b 47 (L6 code cc)]) (fun (n : Int) (cc : J6) (u : Str) => [(1, AV.str u), (7, AV.int n)]) (fun (n : Int) (cc : J6) (u : Str) => n.toNat) (1 + x11.2) (x11.1) (t) ?_ (J5 B1 ⟨rfl, rfl, rfl, rfl, rfl, trivial⟩) ?_
 ·exact ⟨by omega, by omega, by omega⟩
 intro n cc u hinv
 refine R11 ?_
 refine A6 (A0 rfl) ?_ ?_
 ·intro h19
  simp only [Bool.and_eq_true, decide_eq_true_eq] at h19
  obtain ⟨hn0, hu0⟩ := h19
  refine R8 ?_
  refine B6 [0] rfl rfl rfl rfl Tryz.call22 rfl (I5 _ _ hcode _ _ qz5 qz5) (A1 (A0 rfl) (A1 (A0 rfl) A3)) rfl ?_
  intro x25 ok25
  refine R8 ?_
  refine B6 [0] rfl rfl rfl rfl Tryz.call22 rfl (I5 _ _ hcode _ _ qz5 qz5) (A1 (A0 rfl) (A1 (A0 rfl) A3)) rfl ?_
  intro x30 ok30
  obtain ⟨y, hy⟩ := E7 (show x30.2.toNat < w.length by omega)
  refine A2 rfl (X3 rfl C3 (A0 rfl) (A0 rfl) qz5 hy) ?_
  refine R1 ?_
  refine A2 rfl (Af6 (bs := [y]) rfl H1 H3 C3 (A0 rfl)) ?_
  refine R5 ?_
  refine B6 [0] rfl rfl rfl rfl Tryz.call22 rfl (I5 _ _ hcode _ _ qz5 qz5) (A1 (A0 rfl) (A1 D6 A3)) rfl ?_
  intro x35 ok35
  refine R7 ?_
  refine A6 (A0 rfl) ?_ ?_
  ·intro h44
   have k44 := F3 h44; try simp only [A5] at k44
   refine R3 ?_
   refine A9 rfl rfl (a8 rfl C3 (A0 rfl) (A0 rfl) qz1 qz1) ?_
   refine R1 ?_
   refine A9 rfl rfl (J7 rfl (A0 rfl) (A0 rfl) qz8) ?_
   refine R2 ?_
   refine A9 rfl rfl (AC5 rfl C3 (A0 rfl) (A0 rfl) qz1 qz1) ?_
   refine A9 rfl rfl (J7 rfl (A0 rfl) (A0 rfl) qz8) ?_
   refine R7 ?_
   refine S9 n cc u (n - 1) (x35.1) ((u.take x25.2.toNat ++ [y]) ++ u.drop x25.2.toNat) ?_ ?_ (J5 B1 ⟨rfl, rfl, rfl, rfl, rfl, trivial⟩)
   ·exact ⟨by omega, by omega, by (have := spoil_a u x25.2.toNat y; omega)⟩
   omega
  intro h44
  have k44 := F2 h44; try simp only [A5] at k44
  refine R5 ?_
  refine A6 (A0 rfl) ?_ ?_
  ·intro h55
   have k55 := F3 h55; try simp only [A5] at k55
   refine R3 ?_
   refine A9 rfl rfl (a8 rfl C3 (A0 rfl) (A0 rfl) qz1 qz1) ?_
   refine R1 ?_
   refine A9 rfl rfl (J7 rfl (A0 rfl) (A0 rfl) qz8) ?_
   refine R3 ?_
   refine A9 rfl rfl (AC5 rfl C3 (A0 rfl) (A0 rfl) qz1 qz1) ?_
   refine A9 rfl rfl (J7 rfl (A0 rfl) (A0 rfl) qz8) ?_
   refine R7 ?_
   refine S9 n cc u (n - 1) (x35.1) ((u.take x25.2.toNat ++ [y]) ++ u.drop (x25.2 + 1).toNat) ?_ ?_ (J5 B1 ⟨rfl, rfl, rfl, rfl, rfl, trivial⟩)
   ·exact ⟨by omega, by omega, by (rw [show (x25.2 + 1).toNat = x25.2.toNat + 1 by omega]; have := spoil_b u x25.2.toNat y; omega)⟩
   omega
  intro h55
  have k55 := F2 h55; try simp only [A5] at k55
  refine R3 ?_
  refine A9 rfl rfl (a8 rfl C3 (A0 rfl) (A0 rfl) qz1 qz1) ?_
  refine R3 ?_
  refine A9 rfl rfl (AC5 rfl C3 (A0 rfl) (A0 rfl) qz1 qz1) ?_
  refine A9 rfl rfl (J7 rfl (A0 rfl) (A0 rfl) qz8) ?_
  refine R7 ?_
  refine S9 n cc u (n - 1) (x35.1) (u.take x25.2.toNat ++ u.drop (x25.2 + 1).toNat) ?_ ?_ (J5 B1 ⟨rfl, rfl, rfl, rfl, rfl, trivial⟩)
  ·exact ⟨by omega, by omega, by (rw [show (x25.2 + 1).toNat = x25.2.toNat + 1 by omega]; have := spoil_c u x25.2.toNat; omega)⟩
  omega
 intro h19
 refine R7 ?_
 (refine E4 [0] ((cc, u)) ?_ rfl qz7 (H4 rfl (A4 rfl B1)); exact ⟨show cc.p ≤ _ by omega, show u.length ≤ _ by omega⟩)
end Go.Proofs.YtkibefcceekmnaaGreat
namespace Go.AV
open Go.RowKit (Below)
section
variable {P : Program} {G : Nat → Prop} {n : Nat} {own : List Own} {o : Oper}
theorem core_frz {w0 : World} {R0 R : C9} {w : World} {t : TypeId} {vs : List Value} {xs : List AV} (h : H9 G w0 R0 own R w) (hd : M4 R vs xs) :
    H9 G w0 R0 (.frz w.heap.size t xs :: own) R (w.alloc (.cells vs.toArray t (vs.length, vs.length + 1))) where
  os := h.os
  tape := h.tape
  output := h.output
  size := by simp; exact Nat.le_succ_of_le h.size
  block k hk1 hk2 := (Below.heap_alloc w _ k (Nat.lt_of_lt_of_le hk1 h.size)).trans (h.block k hk1 hk2)
  rle b o e := by
    have := h.rle b o e
    exact (Below.heap_alloc w _ b (Array.getElem?_eq_some_iff.1 this).1).trans this
  rold := h.rold
  owned o ho := by
    rcases List.mem_cons.1 ho with rfl | ho
    · refine ⟨?_, vs, heap_alloc_new w _, hd⟩
      cases hr : R w.heap.size with
      | none => rfl
      | some o => have := (Array.getElem?_eq_some_iff.1 (h.rle _ _ hr)).1; omega
    · exact Own.ok_keep (h.owned o ho) (E9.refl _) fun b hb => ⟨Below.heap_alloc w _ b (Own.ok_blk (h.owned o ho) hb).2, (Own.ok_blk (h.owned o ho) hb).1⟩
  fresh o ho b hb := by
    rcases List.mem_cons.1 ho with rfl | ho
    · simp [Own.blk] at hb; subst hb; exact .inl h.size
    · exact h.fresh o ho b hb
  sep := by
    simp only [List.filterMap_cons, Own.blk]
    refine List.nodup_cons.2 ⟨fun hm => ?_, h.sep⟩
    obtain ⟨o, ho, hb⟩ := List.mem_filterMap.1 hm
    have := (Own.ok_blk (h.owned o ho) hb).2
    omega
def AA1 (s : List UInt8) (cap : Nat) : List Value := s.map (fun b : UInt8 => Value.int .u8 (b.toNat : Int)) ++ List.replicate (cap - s.length) (Value.int .u8 0)
def bytesA (s : List UInt8) (cap : Nat) : List AV := s.map AV.byte ++ List.replicate (cap - s.length) (AV.ik .u8 0)
theorem Ax7 {R : C9} (s : List UInt8) (cap : Nat) : M4 R (AA1 s cap) (bytesA s cap) := by
  refine ⟨by simp [bytesA, AA1], fun i v x hv hx => ?_⟩
  unfold bytesA at hx
  unfold AA1 at hv
  by_cases hi : i < s.length
  · rw [List.getElem?_append_left (by simpa using hi), List.getElem?_map, List.getElem?_eq_getElem hi] at hv
    rw [List.getElem?_append_left (by simpa using hi), List.getElem?_map, List.getElem?_eq_getElem hi] at hx
    injection hv with hv; injection hx with hx; subst hv; subst hx
    exact ⟨rfl, rfl⟩
  · rw [List.getElem?_append_right W7, List.getElem?_replicate] at hv hx
    split at hv
    · rename_i h1
      rw [A5] at hx h1
      rw [if_pos h1] at hx
      injection hv with hv; injection hx with hx; subst hv; subst hx
      exact ⟨rfl, rfl⟩
    · cases hv
theorem BL1 {ops : Array Oper} {rest : List Oper} {env : List (Nat × AV)} {K : D8 → Prop} {d : Nat} {src dst e : TypeId} {p : Operand} {s : List UInt8} (hg : o.guard = none) (ho : o.op = .convert src dst p) (hd : o.dst = some d) (hn : Nat.blt d n = true)
    (hs : P.underlying src = some .string) (hdt : P.underlying dst = some (.slice e)) (he : P.underlying e = some (.int .u8)) (hp : Ev (getv · env) p (AV.str s))
    (k : ∀ b cap, s.length ≤ cap → I6 P G n ops rest ⟨.frz b e (bytesA s cap) :: own, (d, AV.is (.slice (some ⟨b, 0, none⟩) s.length cap)) :: env⟩ K) : I6 P G n ops (o :: rest) ⟨own, env⟩ K :=
  S5 hg fun w0 R0 R a w ⟨h1, h2, h3, h4⟩ => by
    have e1 : a.eval p = .string ⟨s.toArray⟩ := a7 (s := ⟨own, env⟩) (o := o) hp h2
    have hsz : (ByteArray.mk s.toArray).size = s.length := d8 s
    obtain ⟨cap, hcap⟩ : ∃ cap, grownCap w s.length 0 e = cap := ⟨_, rfl⟩
    have hge : s.length ≤ cap := hcap ▸ grownCap_ge w s.length 0 e
    have hrow : bytesRow ⟨s.toArray⟩ cap = (AA1 s cap).toArray := by
      unfold bytesRow AA1; rw [hsz]; simp
    have hrun0 := run_bytes_of_string (P := P) w src dst e ⟨s.toArray⟩ hs hdt he
    rw [hsz, hcap, hrow] at hrun0
    have hrun : (execOp a.eval o).run P w = .ok (.value (.slice (some ⟨w.heap.size, 0, none⟩) s.length cap)) (w.drew.alloc (.cells (AA1 s cap).toArray e ((AA1 s cap).length, (AA1 s cap).length + 1))) := by
      simp only [execOp, ho, e1, hrun0, Sem.run_bind, Sem.run_pure, Result.andThen_ok, List.size_toArray]
    unfold Oper.wp
    rw [hrun, Oper.upon_value, hd]
    exact ⟨_, R, k w.heap.size cap hge, E9.refl _, core_frz (m9 h1) (Ax7 s cap), W8 h2 (E9.refl _) AA3 rfl, by rw [P5]; exact h3, by rw [M8]; exact h4⟩
variable {E : F7}
theorem w_fidx {t e : TypeId} {p q : Operand} {b len cap : Nat} {k : Int} (ho : o.op = .indexAddr t p q) (ht : P.underlying t = some (.slice e)) (hsz : ∀ w, (sizeOf e).run P w = .ok 1 w) (hp : Ev E p (AV.is (.slice (some ⟨b, 0, none⟩) len cap))) (hq : Ev E q (AV.int k)) (h0 : 0 ≤ k) (hk : k < len) :
    OpW P G n own o E (AV.ptr b k.toNat) := H0 fun R a w _ he => by
  have h1 : a.eval p = .slice (some ⟨b, 0, none⟩) len cap := D3 hp qz9 he
  have h2 : a.eval q = .int .i64 k := D3 hq qz9 he
  have hel : P.elem t = e := by simp [Program.elem, ht]
  have hadd : (⟨b, 0, none⟩ : Addr).add (k.toNat * 1) = ⟨b, k.toNat, none⟩ := by rw [Nat.mul_one]; unfold Addr.add; split <;> simp_all
  have h3 := run_indexAt_slice (P := P) w t ⟨b, 0, none⟩ len cap .i64 k AC3
  rw [if_pos ⟨h0, hk⟩, hel, hsz, Result.andThen_ok, hadd] at h3
  exact ⟨_, by simp only [execOp, ho, h1, h2, h3, Sem.run_bind, Sem.run_pure, Result.andThen_ok], rfl⟩
theorem w_fload1 {t t' : TypeId} {p : Operand} {b off : Nat} {cs : List AV} {y : AV} (i : Nat) (ho : o.op = .load t p) (hp : Ev E p (AV.ptr b off)) (hi : own[i]? = some (.frz b t' cs)) (ha : ∀ w, (isAgg t).run P w = .ok false w)
    (hy : cs[off]? = some y) : OpW P G n own o E y := S4 fun w0 R0 R a w hc he => by
  have h1 : a.eval p = .pointer (some ⟨b, off, none⟩) := D3 hp qz9 he
  obtain ⟨_, vs, hb, hd⟩ := hc.owned _ (C6 hi)
  have hlt : off < vs.length := by rw [hd.1]; exact (List.getElem?_eq_some_iff.1 hy).1
  have hv : vs[off]? = some vs[off] := List.getElem?_eq_getElem hlt
  have hcell : w.cell? ⟨b, off, none⟩ = some vs[off] := by simp [World.cell?, hb, hv]
  have hl : (loadVar t ⟨b, off, none⟩).run P w = .ok vs[off] w := by
    simp only [loadVar, Sem.run_bind, ha, Result.andThen_ok, Bool.false_eq_true, if_false, run_load, hcell]
  exact ⟨vs[off], by simp only [execOp, ho, h1, Instr.loadAt, Instr.sureAddr, Sem.run_bind, Sem.run_pure, Result.andThen_ok, hl], (hd.2 off _ y hv hy).1⟩
theorem BG3 {ops : Array Oper} {rest : List Oper} {env : List (Nat × AV)} {K : D8 → Prop} {t t' : TypeId} {p q : Operand} {b off : Nat} {cs : List AV} {x : AV} (i : Nat) (hg : o.guard = none) (ho : o.op = .store t p q) (hd : o.dst = none)
    (hp : Ev (getv · env) p (AV.ptr b off)) (hq : Ev (getv · env) q x) (hx : ∀ R v, x.den R v → v.oneCell' = true) (hi : own[i]? = some (.frz b t' cs)) (hs : ∀ w, (sizeOf t).run P w = .ok 1 w) (hl : off < cs.length)
    (k : I6 P G n ops rest ⟨own.set i (.frz b t' (cs.set off x)), env⟩ K) : I6 P G n ops (o :: rest) ⟨own, env⟩ K :=
  S5 hg fun w0 R0 R a w ⟨h1, h2, h3, h4⟩ => by
    have e1 : a.eval p = .pointer (some ⟨b, off, none⟩) := a7 (s := ⟨own, env⟩) (o := o) hp h2
    have e2 := a7 (s := ⟨own, env⟩) (o := o) hq h2
    have hone := hx R _ e2
    obtain ⟨hR, vs, hb, hdc⟩ := h1.owned _ (C6 hi)
    have hlt : off < vs.length := by rw [hdc.1]; exact hl
    have hcs : (a.eval q).cells = #[a.eval q] := by
      generalize a.eval q = v at hone
      cases v <;> first | rfl | simp [Value.oneCell'] at hone
    have hst := run_storeCells_cells (P := P) b off [a.eval q] 0 w (fun j hj => by
        have : j = 0 := by simpa using hj
        subst this
        simp [World.cell?, hb, hlt]) (fun j hj => by
        have : j = 0 := by simpa using hj
        subst this
        simp [World.frozen?, hb]; omega) (fun v hv => by rw [List.mem_singleton.1 hv]; exact hone)
    have hrun : (execOp a.eval o).run P w = .ok .skip (w.setCell ⟨b, off, none⟩ (a.eval q)) := by
      have : (storeVar t ⟨b, off, none⟩ (a.eval q)).run P w = .ok () (w.setCell ⟨b, off, none⟩ (a.eval q)) := by
        simp only [storeVar, hcs, Sem.run_bind, hs, Result.andThen_ok, List.size_toArray, E6, I4, ne_eq, not_true_eq_false, if_false]
        exact hst
      simp only [execOp, ho, e1, Instr.storeAt, Instr.sureAddr, Sem.run_bind, Sem.run_pure, Result.andThen_ok, this]
    have hheap : (w.setCell ⟨b, off, none⟩ (a.eval q)).heap[b]? = some (.cells (vs.set off (a.eval q)).toArray t' ((vs.set off (a.eval q)).length, (vs.set off (a.eval q)).length + 1)) := by
      simp [World.setCell, Array.getElem?_modify, hb]
    unfold Oper.wp
    rw [hrun, Oper.upon_skip, hd]
    refine ⟨_, R, k, E9.refl _, r9 h1 hi rfl rfl ⟨hR, _, hheap, ?_⟩ ⟨rfl, rfl, rfl, by simp [World.setCell], fun j hj hne => ?_⟩, h2, h3, h4⟩
    · refine ⟨by rw [List.length_set, List.length_set]; exact hdc.1, fun j v y hv hy => ?_⟩
      by_cases hj : off = j
      · subst hj
        rw [List.getElem?_set_self hlt] at hv
        rw [List.getElem?_set_self hl] at hy
        injection hv with hv; injection hy with hy; subst hv; subst hy
        exact ⟨e2, hone⟩
      · rw [List.getElem?_set_ne hj] at hv
        rw [List.getElem?_set_ne hj] at hy
        exact hdc.2 j v y hv hy
    · have hbj : b ≠ j := fun e => hne (by rw [e])
      simp [World.setCell, Array.getElem?_modify, hbj]
theorem BB0 {src dst e t : TypeId} {p : Operand} {b cap : Nat} {cs : List AV} {bs : List UInt8} (i : Nat) (hi : own[i]? = some (.frz b t cs)) (hc : cs.take bs.length = bs.map AV.byte) (ho : o.op = .convert src dst p) (hs : P.underlying src = some (.slice e)) (he : P.underlying e = some (.int .u8)) (hd : P.underlying dst = some .string)
    (hp : Ev E p (AV.is (.slice (some ⟨b, 0, none⟩) bs.length cap))) : OpW P G n own o E (AV.str bs) := S4 fun w0 R0 R a w hcore hv => by
  have h1 : a.eval p = .slice (some ⟨b, 0, none⟩) bs.length cap := D3 hp qz9 hv
  obtain ⟨_, vs, hb, hdc⟩ := hcore.owned _ (C6 hi)
  have h2 := run_convert_bytes_back (P := P) w src dst e ⟨b, 0, none⟩ cap bs hs he hd (fun j hj => by
    have hadd : (⟨b, 0, none⟩ : Addr).add j = ⟨b, j, none⟩ := by unfold Addr.add; split <;> simp_all
    have hx : cs[j]? = some (AV.byte bs[j]) := by
      rw [← List.getElem?_take_of_lt hj, hc, List.getElem?_map, List.getElem?_eq_getElem hj]; rfl
    have hjl : j < vs.length := by rw [hdc.1]; exact (List.getElem?_eq_some_iff.1 hx).1
    have hvj : vs[j]? = some vs[j] := List.getElem?_eq_getElem hjl
    have h9 := (hdc.2 j _ _ hvj hx).1
    rw [hadd]
    simp only [World.cell?, hb]
    simp [hjl]
    exact h9)
  exact ⟨.string ⟨bs.toArray⟩, by simp [execOp, ho, h1, h2], rfl⟩
end
end Go.AV
namespace Go.M
open Go.AV
theorem byte_sub {y : UInt8} : IntKind.u8.wrap (255 - ((y.toNat : Nat) : Int)) = ((UInt8.ofNat (255 - y.toNat)).toNat : Int) := by
  have := y.toNat_lt
  exact u8w qz5
theorem BG4 {s : List UInt8} {cap i : Nat} {y : UInt8} (h : s[i]? = some y) : (bytesA s cap)[i]? = some (AV.byte y) := by
  unfold bytesA
  have hi := (List.getElem?_eq_some_iff.1 h).1
  rw [List.getElem?_append_left (by simpa using hi), List.getElem?_map, h]; rfl
theorem Ax8 (s : List UInt8) (cap : Nat) : (bytesA s cap).take s.length = s.map AV.byte := by
  unfold bytesA
  rw [List.take_append_of_le_length N9, List.take_of_length_le N9]
theorem BG5 {s : List UInt8} {cap i : Nat} {z : UInt8} (h : i < s.length) : ((bytesA s cap).set i (AV.byte z)).take (s.set i z).length = (s.set i z).map AV.byte := by
  unfold bytesA
  rw [List.set_append_left _ _ AW9, List.take_append_of_le_length N9, List.take_of_length_le N9, List.map_set]
theorem BG6 {s : List UInt8} {cap : Nat} (h : s.length ≤ cap) : (bytesA s cap).length = cap := by
  unfold bytesA; simp; omega
end Go.M
namespace Go.Proofs.YtkibefcceekmnaaGreat
open Go Go.AV Go.M
attribute [local irreducible] OpW OpA OpS AWP C0 I0 D7 OpE RetOk G3 H5 Le Ev F6 J1 Int.tmod Int.tdiv IntKind.wrap bandI
end Go.Proofs.YtkibefcceekmnaaGreat
namespace Go.M
open Go.AV
theorem fits_no {d : G6} {r : C1} {t : Int} (h : ((!(onDiskR d).2 || (d.Loose != [])) || !begins (onDiskR d).1 r.Log r.Log.length) = true) : AC0 d r t = false := by unfold AC0; rw [if_pos h]
theorem fits_up {d : G6} {r : C1} {t : Int} (h : ((!(onDiskR d).2 || (d.Loose != [])) || !begins (onDiskR d).1 r.Log r.Log.length) = false) (k : (r.Up || decide ((onDiskR d).1.length = r.Log.length)) = true) : AC0 d r t = (decide ((onDiskR d).1.length = r.Log.length) && (!r.Up || decide ((framesB d.Kept).2 = d.Kept.length))) := by unfold AC0; rw [if_neg qz67, if_pos k]
theorem BL2 {d : G6} {r : C1} {t : Int} (h : ((!(onDiskR d).2 || (d.Loose != [])) || !begins (onDiskR d).1 r.Log r.Log.length) = false) (k : (r.Up || decide ((onDiskR d).1.length = r.Log.length)) = false) : AC0 d r t = (decide ((onDiskR d).1.length = r.Log.length + 1) && within (entAt (onDiskR d).1 r.Log.length).Term (V1 r.Log) t) := by unfold AC0; rw [if_neg qz67, if_neg (by rw [k]; exact Bool.false_ne_true)]
theorem Ah1 {a b : Nat} : ((a : Int) == (b : Int)) = decide (a = b) := by rw [Bool.eq_iff_iff, beq_iff_eq, decide_eq_true_eq]; omega
theorem int_eq8 {a b : Nat} : ((a : Int) == (b : Int) + 1) = decide (a = b + 1) := by rw [Bool.eq_iff_iff, beq_iff_eq, decide_eq_true_eq]; omega
end Go.M
namespace Go.Proofs.YtkibefcceekmnaaGreat
open Go Go.AV Go.M
attribute [local irreducible] OpW OpA OpS AWP C0 I0 D7 OpE RetOk G3 H5 Le Ev F6 J1 Int.tmod Int.tdiv IntKind.wrap
theorem At5 (d : G6) (r : C1) (t : Int) (hd : d.size ≤ 60000) (hr : r.size ≤ 1000000) : C0 Tryz.prog 115 [AV.agg d.cs, AV.agg r.cs, AV.int t] (AV.bool (AC0 d r t)) := by
 have hd2 : d.Kept.length + d.Loose.length ≤ 60000 := hd
 have hll : r.Log.length ≤ 1000000 := Nat.le_trans (K2 (f := B8.size)) hr
 have hlm : (r.Log.map B8.cs).length = r.Log.length := A5 _
 have hsz : ∀ e ∈ (onDiskR d).1, e.size ≤ 1048576 := fun e he => Nat.le_trans (X0 (w4 he)) B5
 refine B3 Tryz.func115 rfl Tryz.ntmps115 rfl ?_
 refine R3 ?_
 intro b3
 refine R1 ?_
 intro b4
 refine R5 ?_
 refine A2 rfl (A8 rfl Tryz.call10 rfl (i6 d qz5) (A1 (A0 rfl) A3)) ?_
 refine R10 ?_
 refine A2 rfl (A8 rfl Tryz.call59 rfl (AA5 d.Kept qz5) (A1 (A0 rfl) A3)) ?_
 refine R14 ?_
 refine L0 rfl (fun hc => Aa4 rfl (B0 rfl hc) (D4 (l := []) rfl)) ?_
 refine R8 ?_
 refine L0 rfl (fun hc => A8 rfl Tryz.call128 rfl (AI3 _ _ (r.Log.map B8.cs).length hsz qz5) (A1 (B0 rfl hc) (A1 (B0 rfl hc) (A1 (B0 rfl hc) A3)))) ?_
 refine R3 ?_
 refine A6 (A0 rfl) ?_ ?_
 ·intro h38
  rw [hlm] at h38
  rw [fits_no h38]
  refine R5 ?_
  exact F0 rfl (A4 rfl qz64)
 intro h38
 rw [hlm] at h38
 refine R15 ?_
 refine A6 (A0 rfl) ?_ ?_
 ·intro h48
  simp only [A5, Ah1] at h48
  rw [fits_up h38 h48]
  refine R23 ?_
  exact F0 rfl (A4 rfl qz64)
 intro h48
 simp only [A5, Ah1] at h48
 rw [BL2 h38 h48]
 refine R15 ?_
 refine M3 rfl (d7 rfl rfl rfl) (fun hc => F1 rfl F5 G1 (B0 rfl hc) (B0 rfl hc) (BK1 (n := r.Log.length) (by simp at hc; omega)) qz5) ?_
 refine R4 ?_
 refine M3 rfl (d7 rfl rfl rfl) (fun hc => A8 rfl Tryz.call129 rfl (m0 r.Log) (A1 (B0 rfl hc) A3)) ?_
 refine R1 ?_
 refine M3 rfl (d7 rfl rfl rfl) (fun hc => A8 rfl Tryz.call18 rfl (M0 _ _ _) (A1 (B0 rfl hc) (A1 (B0 rfl hc) (A1 (B0 rfl hc) A3)))) ?_
 refine R4 ?_
 exact F0 rfl (A4 rfl qz64)
theorem AH2 (h : THouse) (hg : h.Group.size ≤ 1000000) (hd : ∀ d ∈ h.Disks, d.size ≤ 60000) (hl : h.Disks.length ≤ 1000000) : D7 Tryz.prog 87 [AV.agg h.cs] [] (fun x : Bool => (AU6 h → x = true) ∧ (x = true → GG h.Group ∧ h.Disks.length = h.Group.Reps.length ∧ ∀ d ∈ h.Disks, d.size ≤ 50000)) (fun _ => []) (fun x => AV.bool x) := by
 have hgs : sizeL C1.size h.Group.Reps ≤ 1000000 := hg
 refine D1 Tryz.func87 rfl Tryz.ntmps87 rfl ?_
 refine R3 ?_
 intro b1
 refine R6 ?_
 refine A2 rfl (U7 _ 0 rfl (A0 rfl) rfl G0 F8 rfl rfl) ?_
 refine A2 rfl (A8 rfl Tryz.call114 rfl (U2 h.Group qz5) (A1 (A0 rfl) A3)) ?_
 refine R12 ?_
 refine A6 (A0 rfl) ?_ ?_
 ·intro h17
  have hfa : AU6 h → (false : Bool) = true := (fun hb => by (rw [S0.2 hb.gg, A5, A5, hb.len] at h17; simp at h17))
  have hfb : (false : Bool) = true → GG h.Group ∧ h.Disks.length = h.Group.Reps.length ∧ ∀ d ∈ h.Disks, d.size ≤ 50000 := (fun hh => by cases hh)
  refine R5 ?_
  (refine E4 [] (false) ?_ rfl qz7 (H4 rfl (A4 rfl B1)); exact ⟨hfa, hfb⟩)
 intro h17
 have hgg : GG h.Group := S0.1 (by simp at h17; exact h17.1)
 have hln : h.Disks.length = h.Group.Reps.length := (by simp at h17; omega)
 refine R7 ?_
 refine H7 [(1, _)] _ (fun (i : Nat) => i ≤ h.Disks.length ∧ ∀ d ∈ h.Disks.take i, d.size ≤ 50000) (fun (i : Nat) => []) (fun (i : Nat) => [(3, AV.int i)]) (fun (i : Nat) => h.Disks.length - i) (0) ?_ (G7 ⟨rfl, rfl, trivial⟩) ?_
 ·exact ⟨Nat.zero_le _, fun d hd => by cases hd⟩
 intro i hinv
 refine R9 ?_
 refine A6 (A0 rfl) ?_ ?_
 ·intro h22
  have k22 := of_decide_eq_true h22; try simp only [A5] at k22
  have hlt : i < h.Disks.length := (by simpa using h22)
  obtain ⟨x, hx⟩ := E7 hlt
  obtain ⟨r, hr⟩ := E7 (show i < h.Group.Reps.length by omega)
  have hxs := hd x (C6 hx)
  have hrs : r.size ≤ 1000000 := Nat.le_trans (T7 (f := C1.size) hr) hgs
  refine R8 ?_
  refine A9 rfl rfl (F1 rfl D2 B9 (A0 rfl) (A0 rfl) hx qz1) ?_
  refine R1 ?_
  refine A9 rfl rfl (A8 rfl Tryz.call56 rfl (W4 x qz5) (A1 (A0 rfl) A3)) ?_
  refine R5 ?_
  refine M3 rfl (O7 rfl rfl rfl) (fun hc => F1 rfl D2 B9 (B0 rfl hc) (B0 rfl hc) hx qz4) ?_
  refine R5 ?_
  refine M3 rfl (O7 rfl rfl rfl) (fun hc => F1 rfl C2 C7 (B0 rfl hc) (B0 rfl hc) hr qz4) ?_
  refine R4 ?_
  refine M3 rfl (O7 rfl rfl rfl) (fun hc => A8 rfl Tryz.call115 rfl (At5 x r h.Group.Term hxs hrs) (A1 (B0 rfl hc) (A1 (B0 rfl hc) (A1 (B0 rfl hc) A3)))) ?_
  refine R3 ?_
  refine A6 (A0 rfl) ?_ ?_
  ·intro h49
   have hfa : AU6 h → (false : Bool) = true := (fun hb => by (have h8 := hb.disks x (C6 hx); have h9 := hb.logs r (C6 hr); rw [BE3 h8 h9, h8] at h49; exact absurd h49 B5))
   have hfb : (false : Bool) = true → GG h.Group ∧ h.Disks.length = h.Group.Reps.length ∧ ∀ d ∈ h.Disks, d.size ≤ 50000 := (fun hh => by cases hh)
   refine R5 ?_
   (refine E4 [] (false) ?_ rfl qz7 (H4 rfl (A4 rfl B1)); exact ⟨hfa, hfb⟩)
  intro h49
  have hx5 : x.size ≤ 50000 := AB5 (by simp at h49; exact h49.1)
  refine R6 ?_
  refine J2 i (i + 1) ?_ ?_ (G7 ⟨rfl, rfl, trivial⟩)
  ·exact ⟨by omega, fun y hy => by (rw [List.take_add_one, hx] at hy; rcases List.mem_append.1 hy with hy | hy; (exact hinv.2 y hy); (rw [List.mem_singleton.1 hy]; exact hx5))⟩
  omega
 intro h22
 have k22 := of_decide_eq_false h22; try simp only [A5] at k22
 have hge : h.Disks.length ≤ i := (by simpa using h22)
 have hfa : AU6 h → (true : Bool) = true := (fun _ => rfl)
 have hfb : (true : Bool) = true → GG h.Group ∧ h.Disks.length = h.Group.Reps.length ∧ ∀ d ∈ h.Disks, d.size ≤ 50000 := (fun _ => ⟨hgg, hln, fun d hd9 => hinv.2 d (by rw [List.take_of_length_le hge]; exact hd9)⟩)
 refine R6 ?_
 (refine E4 [] (true) ?_ rfl qz7 (H4 rfl (A4 rfl B1)); exact ⟨hfa, hfb⟩)
end Go.Proofs.YtkibefcceekmnaaGreat
namespace Go.M
open Go.AV
theorem o5 {g v : TGroup} (k : AZ7 g v) {r : Int} (hr : 0 ≤ r ∧ r < v.Reps.length) : (∀ e ∈ (repAt v r).Log, L8 e = true ∧ e.size ≤ 1048576) ∧ (repAt v r).Log.length ≤ 60 ∧ (⟨keptB (repAt v r).Log, []⟩ : G6).size ≤ 60000 := by
  have hg := k.gg.reps _ (Z9 hr)
  have ht := k.gg.term
  have h1 : ∀ e ∈ (repAt v r).Log, L8 e = true := fun e he => by
    obtain ⟨h1, h2, h3⟩ := hg.ents e he
    unfold L8 within
    rw [h3, decide_eq_true h1, decide_eq_true (show e.Term ≤ 200 by omega)]; rfl
  refine ⟨fun e he => ⟨h1 e he, Nat.le_trans (X0 (hg.ents e he).2.2) B5⟩, hg.len, ?_⟩
  have := AR7 h1
  have := hg.len
  show (keptB (repAt v r).Log).length + 0 ≤ 60000
  omega
theorem AR8 {d : G6} (h : d.size ≤ 60000) : (mendD d).1.size ≤ 60000 := by
  have hd : d.Kept.length + d.Loose.length ≤ 60000 := h
  unfold mendD
  split
  · decide
  · show (d.Kept.take _).length + 0 ≤ 60000
    rw [H2]; omega
end Go.M
namespace Go.Proofs.YtkibefcceekmnaaGreat
open Go Go.AV Go.M
attribute [local irreducible] OpW OpA OpS AWP C0 I0 D7 OpE RetOk G3 H5 Le Ev F6 J1 Int.tmod Int.tdiv IntKind.wrap
theorem At6 (n : Nat) (hn : n = 3 ∨ n = 5) : D7 Tryz.prog 50 [AV.int (n : Int)] [] (fun _ : Value => True) (fun v => [.arr v 34 2 ((List.replicate n T9).map G6.cs)]) (fun v => AV.tup [AV.agg [AV.list 3 ((newH n 0 (-1)).Group.Reps.map C1.cs), AV.int 0, AV.int (-1), AV.is v], AV.bool true]) := by
 have hng : U0 (n : Int) = ((newH n 0 (-1)).Group, true) := by
  unfold U0 d6
  rw [if_pos (by rw [Bool.or_eq_true, beq_iff_eq, beq_iff_eq]; omega)]; rfl
 refine D1 Tryz.func50 rfl Tryz.ntmps50 rfl ?_
 refine R3 ?_
 intro b2
 refine R5 ?_
 refine A2 rfl (A8 rfl Tryz.call86 rfl ((by have h9 := An3 (n : Int); rw [hng] at h9; exact h9)) (A1 (A0 rfl) A3)) ?_
 refine R4 ?_
 intro b4
 refine R9 ?_
 refine A6 (A0 rfl) ?_ ?_
 ·intro h12
  cases h12
 intro h12
 refine R2 ?_
 refine X6 _ 5 (.pure 0 (.pure 1 (.e1 2 (.pure 3 (.e1 4 .nil))))) F9 F9 rfl (X4 1) ?_
 refine R3 ?_
 refine I7 rfl rfl rfl (j5 2 (fun _ => rfl) (opE_make (by' := 32) rfl D2 Tryz.type34 rfl rfl rfl rfl rfl rfl (A0 rfl) (A0 rfl) qz1 qz1)) (fun a _ => qz2) ?_
 intro v16 hone_v16
 have one_v16 := hone_v16.2
 refine L5 rfl rfl rfl (fun ext => U1 (places := #[(0, 3), (3, 1)]) rfl L7 Tryz.zeroValue57 (fun w => by kernel_rfl) rfl (E1 (A0 rfl) (J3 _) (E1 (A0 rfl) (P2 one_v16) O8)) rfl) ?_
 refine R1 ?_
 refine X7 rfl rfl rfl (O9 1 rfl rfl (A0 rfl) (A0 rfl) (J3 _) rfl D9 rfl) (fun a _ => qz2) ?_
 intro _ _
 refine R4 ?_
 exact E4 [2] v16 (trivial) rfl (by first | rfl | (rw [List.map_replicate]; rfl)) (J4 rfl B5 (A7 (C4 (ys := _) 1 rfl rfl F4 D9 rfl) (A7 (A4 rfl B1) D0)))
theorem An5 (n : Nat) (hn : n = 3 ∨ n = 5) : C0 Tryz.prog 50 [AV.int (n : Int)] (AV.tup [AV.agg (newH n 0 (-1)).cs, AV.bool true]) :=
  O1 (At6 n hn) fun v _ => AH7 (B2 (c9 (B2 C8 (B2 C8 (B2 C8 (B2 (G5 (List.mem_singleton.2 rfl) E3) J8))))) (B2 C8 J8))
theorem l9Do_own (g : TGroup) (a : N8) (hs : g.size ≤ 1000000) (ha : a.Rec.size ≤ 1000) : D7 Tryz.prog 88 [AV.agg g.cs, AV.agg a.cs] [] (fun _ : Value => True) (fun v => TGroup.fow (E5 g a).1 v) (fun v => AV.tup [AV.agg (TGroup.fcs (E5 g a).1 v), AV.bool (E5 g a).2]) := by
 refine D1 Tryz.func88 rfl Tryz.ntmps88 rfl ?_
 refine R3 ?_
 intro b2
 refine R1 ?_
 intro b3
 refine R1 ?_
 intro b4
 refine R14 ?_
 refine A6 (A0 rfl) ?_ ?_
 ·intro h8
  have k8 := F3 h8; try simp only [A5] at k8
  rw [show E5 g a = crashR g a.Rep by unfold E5; rw [if_pos k8]]
  refine R5 ?_
  refine B6 [] rfl rfl rfl rfl Tryz.call116 rfl (AR6 g a.Rep qz5) (A1 (A0 rfl) (A1 (A0 rfl) A3)) rfl ?_
  intro x13 ok13
  refine R6 ?_
  exact E4 [0] x13 (trivial) rfl B1 (J4 rfl B5 (A7 (C4 (ys := _) 1 rfl rfl G0 F8 rfl) (A7 (A4 rfl B1) D0)))
 intro h8
 have k8 := F2 h8; try simp only [A5] at k8
 refine R5 ?_
 refine A6 (A0 rfl) ?_ ?_
 ·intro h16
  have k16 := F3 h16; try simp only [A5] at k16
  rw [show E5 g a = startR g a.Rep by unfold E5; rw [if_neg k8, if_pos k16]]
  refine R5 ?_
  refine B6 [] rfl rfl rfl rfl Tryz.call117 rfl (At0 g a.Rep qz5) (A1 (A0 rfl) (A1 (A0 rfl) A3)) rfl ?_
  intro x21 ok21
  refine R6 ?_
  exact E4 [0] x21 (trivial) rfl B1 (J4 rfl B5 (A7 (C4 (ys := _) 1 rfl rfl G0 F8 rfl) (A7 (A4 rfl B1) D0)))
 intro h16
 have k16 := F2 h16; try simp only [A5] at k16
 refine R5 ?_
 refine A6 (A0 rfl) ?_ ?_
 ·intro h24
  have k24 := F3 h24; try simp only [A5] at k24
  rw [show E5 g a = electR g a.Rep by unfold E5; rw [if_neg k8, if_neg k16, if_pos k24]]
  refine R5 ?_
  refine B6 [] rfl rfl rfl rfl Tryz.call118 rfl (At2 g a.Rep qz5) (A1 (A0 rfl) (A1 (A0 rfl) A3)) rfl ?_
  intro x29 ok29
  refine R6 ?_
  exact E4 [0] x29 (trivial) rfl B1 (J4 rfl B5 (A7 (C4 (ys := _) 1 rfl rfl G0 F8 rfl) (A7 (A4 rfl B1) D0)))
 intro h24
 have k24 := F2 h24; try simp only [A5] at k24
 refine R5 ?_
 refine A6 (A0 rfl) ?_ ?_
 ·intro h32
  have k32 := F3 h32; try simp only [A5] at k32
  rw [show E5 g a = N5 g a.Rec by unfold E5; rw [if_neg k8, if_neg k16, if_neg k24, if_pos k32]]
  refine R4 ?_
  refine A2 rfl (U7 _ 1 rfl (A0 rfl) rfl I2 G9 rfl rfl) ?_
  refine B6 [] rfl rfl rfl rfl Tryz.call119 rfl (At4 g a.Rec hs ha) (A1 (A0 rfl) (A1 (A0 rfl) A3)) rfl ?_
  intro x37 ok37
  refine R6 ?_
  exact E4 [0] x37 (trivial) rfl B1 (J4 rfl B5 (A7 (C4 (ys := _) 1 rfl rfl G0 F8 rfl) (A7 (A4 rfl B1) D0)))
 intro h32
 have k32 := F2 h32; try simp only [A5] at k32
 refine R5 ?_
 refine A6 (A0 rfl) ?_ ?_
 ·intro h40
  have k40 := F3 h40; try simp only [A5] at k40
  rw [show E5 g a = V7 g a.Rep by unfold E5; rw [if_neg k8, if_neg k16, if_neg k24, if_neg k32, if_pos k40]]
  refine R5 ?_
  refine B6 [] rfl rfl rfl rfl Tryz.call120 rfl (BG0 g a.Rep qz5) (A1 (A0 rfl) (A1 (A0 rfl) A3)) rfl ?_
  intro x45 ok45
  refine R6 ?_
  exact E4 [0] x45 (trivial) rfl B1 (J4 rfl B5 (A7 (C4 (ys := _) 1 rfl rfl G0 F8 rfl) (A7 (A4 rfl B1) D0)))
 intro h40
 have k40 := F2 h40; try simp only [A5] at k40
 refine R5 ?_
 refine A6 (A0 rfl) ?_ ?_
 ·intro h48
  have k48 := F3 h48; try simp only [A5] at k48
  rw [show E5 g a = c8 g by unfold E5; rw [if_neg k8, if_neg k16, if_neg k24, if_neg k32, if_neg k40, if_pos k48]]
  refine R3 ?_
  refine B6 [] rfl rfl rfl rfl Tryz.call121 rfl (Ax5 g qz5) (A1 (A0 rfl) A3) rfl ?_
  intro x51 ok51
  refine R6 ?_
  exact E4 [0] x51 (trivial) rfl B1 (J4 rfl B5 (A7 (C4 (ys := _) 1 rfl rfl G0 F8 rfl) (A7 (A4 rfl B1) D0)))
 intro h48
 have k48 := F2 h48; try simp only [A5] at k48
 rw [show E5 g a = (O5, false) by unfold E5; rw [if_neg k8, if_neg k16, if_neg k24, if_neg k32, if_neg k40, if_neg k48]]
 refine R8 ?_
 refine L2 116 3 ?_
 exact E4 [0] (Value.slice none 0 0) (trivial) rfl B1 (J4 rfl B5 (A7 (C4 (ys := _) 1 rfl rfl G0 F8 rfl) (A7 (A4 rfl B1) D0)))
end Go.Proofs.YtkibefcceekmnaaGreat
namespace Go.M
open Go.AV
def M7 (h : THouse) (x : THouse × Bool) : Prop := x.2 = true → HI x.1 ∧ x.1.Group.Reps.length = h.Group.Reps.length
def O4 (h : THouse) (a : N8) (x : THouse × Bool) : Prop := ∀ n : Nat, (n = 3 ∨ n = 5) → h = newH n 0 (-1) → a.Kind = 3 → 0 ≤ a.Rep → a.Rep < n → x = (newH n 1 a.Rep, true)
theorem V0 {h : THouse} {a : N8} {x : THouse × Bool} (hk : a.Kind ≠ 3) : O4 h a x := fun n hn e k => absurd k hk
theorem AL4 {n : Nat} {a : N8} (hn : n = 3 ∨ n = 5) (hk : a.Kind = 3) (h0 : 0 ≤ a.Rep) (h1 : a.Rep < n) : E5 (newH n 0 (-1)).Group a = ((newH n 1 a.Rep).Group, true) := by
  unfold E5
  rw [if_neg qz5, if_neg qz5, if_pos hk]
  exact BK2 hn ⟨h0, h1⟩
theorem At7 : ∀ {l : List Str} {x : List B8}, entsOf l = some x → x.length = l.length
  | [], x, h => by unfold entsOf at h; injection h with h; subst h; rfl
  | f :: l, x, h => by
    unfold entsOf at h
    split at h
    · cases hl : entsOf l with
      | none => rw [hl] at h; cases h
      | some y => rw [hl] at h; injection h with h; subst h; rw [E6, E6, At7 hl]
    · cases h
theorem AL5 (d : G6) : (onDiskR d).1.length ≤ 50000 := by
  unfold onDiskR entsR
  split
  · rename_i hg
    split
    · rename_i x hx
      have := AB5 hg
      have h1 := AL3 (d.Kept ++ d.Loose)
      rw [D5] at h1
      dsimp only
      rw [At7 hx]; omega
    · exact Nat.zero_le _
  · exact Nat.zero_le _
end Go.M
namespace Go.Proofs.YtkibefcceekmnaaGreat
open Go Go.AV Go.M
attribute [local irreducible] OpW OpA OpS AWP C0 I0 D7 OpE RetOk G3 H5 Le Ev F6 J1 Int.tmod Int.tdiv IntKind.wrap
theorem AD6 (h : THouse) (a : N8) (hh : HI h) (ha : a.Rec.size ≤ 1000) : D7 Tryz.prog 51 [AV.agg h.cs, AV.agg a.cs] [] (fun x : THouse × Bool => M7 h x ∧ O4 h a x) (fun _ => []) (fun x => AV.tup [AV.agg x.1.cs, AV.bool x.2]) := by
 have hz := Ah0 hh
 have hl5 : h.Disks.length ≤ 5 := by have h1 := hh.gg.many; have h2 := hh.len; omega
 refine D1 Tryz.func51 rfl Tryz.ntmps51 rfl ?_
 refine R3 ?_
 intro b2
 refine R1 ?_
 intro b3
 refine R1 ?_
 intro b4
 refine R6 ?_
 refine B6 [] rfl rfl rfl rfl Tryz.call87 rfl (AH2 h qz5 hh.disks qz5) (A1 (A0 rfl) A3) rfl ?_
 intro x14 ok14
 refine R2 ?_
 refine A6 (A0 rfl) ?_ ?_
 ·intro h15
  have hfa : M7 h (P1, false) := (fun e => by cases e)
  have hfb : O4 h a (P1, false) := (fun n hn e _ _ _ => by (rw [ok14.1 (by rw [e]; exact Y0 hn (.inl rfl) B5)] at h15; cases h15))
  refine R7 ?_
  refine K4 0 0 3 rfl rfl H8 ?_
  refine K4 0 3 2 rfl rfl H8 ?_
  (refine E4 [] ((P1, false)) ?_ rfl qz7 (J4 rfl B5 (A7 (C4 (ys := _) 0 rfl rfl F4 D9 qz6) (A7 (A4 rfl B1) D0))); exact ⟨hfa, hfb⟩)
 intro h15
 refine R4 ?_
 refine A2 rfl (U7 _ 2 rfl (A0 rfl) rfl G0 F8 rfl rfl) ?_
 refine R1 ?_
 refine B6 [] rfl rfl rfl rfl Tryz.call88 rfl (l9Do_own h.Group a qz5 ha) (A1 (A0 rfl) (A1 (A0 rfl) A3)) rfl ?_
 intro x21 ok21
 refine R4 ?_
 intro b6
 refine R9 ?_
 refine A6 (A0 rfl) ?_ ?_
 ·intro h25
  have hfa : M7 h (P1, false) := (fun e => by cases e)
  have hfb : O4 h a (P1, false) := (fun n hn e k r0 r1 => by (rw [e, AL4 hn k r0 r1] at h25; cases h25))
  refine R7 ?_
  refine K4 2 0 3 rfl rfl H8 ?_
  refine K4 2 3 2 rfl rfl H8 ?_
  (refine E4 [] ((P1, false)) ?_ rfl qz7 (J4 rfl B5 (A7 (C4 (ys := _) 2 rfl rfl F4 D9 qz6) (A7 (A4 rfl B1) D0))); exact ⟨hfa, hfb⟩)
 intro h25
 have hok : (E5 h.Group a).2 = true := (by simpa using h25)
 have hdo := BA3 hh.gg hh.term hok
 have hvl := hdo.len
 have hhl := hh.len
 refine R2 ?_
 refine X6 _ 7 (.pure 0 (.pure 2 (.pure 3 (.e2 1 (.e2 4 (.pure 5 (.e1 6 .nil)) 6 (.e1 4 (.pure 5 .nil))) 6 (.e1 1 (.e1 4 (.pure 5 .nil))))))) F9 F9 rfl AE7 ?_
 refine R3 ?_
 refine u9 ?_ ?_
 ·refine I7 rfl rfl rfl (y6 rfl D2 B9) (fun a _ => qz2) ?_
  intro v28 _
  refine u9 ?_ ?_
  ·refine I7 rfl rfl rfl (j5 5 (fun _ => rfl) (T1 (by' := 32) 5 rfl D2 Tryz.type34 rfl rfl rfl rfl rfl rfl (A0 rfl) (A0 rfl) rfl qz1)) (fun a _ => qz2) ?_
   intro v31_1 hone_v31_1
   have one_v31_1 := hone_v31_1.2
   refine L5 rfl rfl rfl (fun ext => U1 (places := #[(0, 3), (3, 1)]) rfl L7 Tryz.zeroValue57 (fun w => by kernel_rfl) rfl (E1 (A0 rfl) (J3 _) (E1 (A0 rfl) (P2 one_v31_1) O8)) rfl) ?_
   refine R1 ?_
   refine I7 rfl rfl rfl (X5 rfl Tryz.zeroValue57 rfl) (fun a _ => qz2) ?_
   intro b8 _
   refine R5 ?_
   refine s5 qz19 ?_
   refine R10 ?_
   refine A6 (A0 rfl) ?_ ?_
   ·intro h35
    have k35 := F3 h35; try simp only [A5] at k35
    have hled := AD1 (g := h.Group) (r := a.Rec) qz50
    have hvl9 : (E5 h.Group a).1.Lead = h.Group.Lead := qz51
    have hr : 0 ≤ (E5 h.Group a).1.Lead ∧ (E5 h.Group a).1.Lead < (E5 h.Group a).1.Reps.length := qz5
    have hx := K3 hr
    obtain ⟨hke, hkl, hks⟩ := o5 hdo hr
    have hfa : M7 h (⟨(E5 h.Group a).1, h.Disks.set (E5 h.Group a).1.Lead.toNat ⟨keptB (repAt (E5 h.Group a).1 (E5 h.Group a).1.Lead).Log, []⟩⟩, true) := (fun _ => ⟨W6 hh hdo hks, hdo.len⟩)
    have hfb : O4 h a (⟨(E5 h.Group a).1, h.Disks.set (E5 h.Group a).1.Lead.toNat ⟨keptB (repAt (E5 h.Group a).1 (E5 h.Group a).1.Lead).Log, []⟩⟩, true) := V0 qz5
    refine N4 14 F9 F9 rfl ?_
    refine R8 ?_
    refine A9 rfl rfl (K7 1 rfl C2 C7 (A0 rfl) rfl (A0 rfl) qz5 N2) ?_
    refine A9 rfl rfl (f9 1 rfl I8 rfl P0 (A0 rfl) rfl rfl qz3) ?_
    refine A9 rfl rfl (m6 1 rfl (A0 rfl) rfl W1 qz3 rfl) ?_
    refine A9 rfl rfl (A8 rfl Tryz.call89 rfl (Z5 _ (fun e he => (hke e he).1) hkl (fun e he => (hke e he).2)) (A1 (A0 rfl) A3)) ?_
    refine R1 ?_
    refine A9 rfl rfl (K7 5 rfl D2 B9 (A0 rfl) rfl (A0 rfl) qz5 N2) ?_
    refine R1 ?_
    refine P6 5 rfl rfl rfl (A0 rfl) (A0 rfl) (J3 _) rfl B9 rfl N2 ?_
    refine R2 ?_
    refine AWP.le (M9 [1, 4] 4 (.box b8 57 [_, _, _, _]) rfl rfl ⟨rfl, rfl, (B2 (G5 (C6 (i := 0) rfl) E3) (B2 C8 (B2 C8 (B2 (G5 (C6 (i := 1) rfl) E3) J8))))⟩ H8) ?_
    refine R6 ?_
    (refine E4 [] ((⟨(E5 h.Group a).1, h.Disks.set (E5 h.Group a).1.Lead.toNat ⟨keptB (repAt (E5 h.Group a).1 (E5 h.Group a).1.Lead).Log, []⟩⟩, true)) ?_ rfl qz7 (J4 rfl B5 (A7 (C4 (ys := _) 1 rfl rfl F4 D9 qz6) (A7 (A4 rfl B1) D0))); exact ⟨hfa, hfb⟩)
   intro h35
   have k35 := F2 h35; try simp only [A5] at k35
   refine R5 ?_
   refine A6 (A0 rfl) ?_ ?_
   ·intro h51
    have k51 := F3 h51; try simp only [A5] at k51
    have hled := AY8 (g := h.Group) (r := a.Rep) qz49
    have hr : 0 ≤ a.Rep ∧ a.Rep < (E5 h.Group a).1.Reps.length := qz5
    have hx := K3 hr
    obtain ⟨hke, hkl, hks⟩ := o5 hdo hr
    have hfa : M7 h (⟨(E5 h.Group a).1, h.Disks.set a.Rep.toNat ⟨keptB (repAt (E5 h.Group a).1 a.Rep).Log, []⟩⟩, true) := (fun _ => ⟨W6 hh hdo hks, hdo.len⟩)
    have hfb : O4 h a (⟨(E5 h.Group a).1, h.Disks.set a.Rep.toNat ⟨keptB (repAt (E5 h.Group a).1 a.Rep).Log, []⟩⟩, true) := V0 qz5
    refine N4 14 F9 F9 rfl ?_
    refine R8 ?_
    refine A9 rfl rfl (K7 1 rfl C2 C7 (A0 rfl) rfl (A0 rfl) qz5 N2) ?_
    refine A9 rfl rfl (f9 1 rfl I8 rfl P0 (A0 rfl) rfl rfl qz3) ?_
    refine A9 rfl rfl (m6 1 rfl (A0 rfl) rfl W1 qz3 rfl) ?_
    refine A9 rfl rfl (A8 rfl Tryz.call89 rfl (Z5 _ (fun e he => (hke e he).1) hkl (fun e he => (hke e he).2)) (A1 (A0 rfl) A3)) ?_
    refine R1 ?_
    refine A9 rfl rfl (K7 5 rfl D2 B9 (A0 rfl) rfl (A0 rfl) qz5 N2) ?_
    refine R1 ?_
    refine P6 5 rfl rfl rfl (A0 rfl) (A0 rfl) (J3 _) rfl B9 rfl N2 ?_
    refine R2 ?_
    refine AWP.le (M9 [1, 4] 4 (.box b8 57 [_, _, _, _]) rfl rfl ⟨rfl, rfl, (B2 (G5 (C6 (i := 0) rfl) E3) (B2 C8 (B2 C8 (B2 (G5 (C6 (i := 1) rfl) E3) J8))))⟩ H8) ?_
    refine R6 ?_
    (refine E4 [] ((⟨(E5 h.Group a).1, h.Disks.set a.Rep.toNat ⟨keptB (repAt (E5 h.Group a).1 a.Rep).Log, []⟩⟩, true)) ?_ rfl qz7 (J4 rfl B5 (A7 (C4 (ys := _) 1 rfl rfl F4 D9 qz6) (A7 (A4 rfl B1) D0))); exact ⟨hfa, hfb⟩)
   intro h51
   have k51 := F2 h51; try simp only [A5] at k51
   refine R5 ?_
   refine A6 (A0 rfl) ?_ ?_
   ·intro h67
    have k67 := F3 h67; try simp only [A5] at k67
    have hled := AQ2 (g := h.Group) (r := a.Rep) qz52
    have hup : (repAt (E5 h.Group a).1 a.Rep).Up = true := qz56
    have hr : 0 ≤ a.Rep ∧ a.Rep < (E5 h.Group a).1.Reps.length := qz5
    have hx := K3 hr
    obtain ⟨d, hd⟩ := E7 (show a.Rep.toNat < h.Disks.length by omega)
    have hds := hh.disks d (C6 hd)
    have hms := AR8 hds
    have hol := AL5 (mendD d).1
    refine R6 ?_
    refine A2 rfl (F1 rfl D2 B9 (A0 rfl) (A0 rfl) hd qz5) ?_
    refine R1 ?_
    refine A2 rfl (A8 rfl Tryz.call90 rfl (s8 d qz5) (A1 (A0 rfl) A3)) ?_
    refine R4 ?_
    intro b9
    refine R6 ?_
    refine A2 rfl (A8 rfl Tryz.call10 rfl (i6 (mendD d).1 qz5) (A1 (A0 rfl) A3)) ?_
    refine R13 ?_
    refine A2 rfl (K7 6 rfl D2 B9 (A0 rfl) rfl (A0 rfl) qz5 N2) ?_
    refine P6 6 rfl rfl rfl (A0 rfl) (A0 rfl) (J3 _) rfl B9 rfl N2 ?_
    refine R10 ?_
    refine A2 rfl (K7 2 rfl C2 C7 (A0 rfl) rfl (A0 rfl) qz5 N2) ?_
    refine P6 2 rfl rfl rfl (A0 rfl) (A0 rfl) (J3 _) rfl C7 rfl N2 ?_
    refine R8 ?_
    refine A9 rfl rfl (K7 2 rfl C2 C7 (A0 rfl) rfl (A0 rfl) qz5 N2) ?_
    refine A9 rfl rfl (Af3 2 rfl (A0 rfl) rfl Tryz.isAgg116 C7 qz3 B5) ?_
    refine R3 ?_
    refine A9 rfl rfl (A8 rfl Tryz.call91 rfl (f5 ⟨true, (onDiskR (mendD d).1).1, 0⟩ _ (by dsimp only; omega) (fun e he => Nat.le_trans (X0 (w4 he)) B5)) (A1 (A0 rfl) (A1 (A0 rfl) A3))) ?_
    refine R2 ?_
    refine A6 (A0 rfl) ?_ ?_
    ·intro h109
     have hfa : M7 h (P1, false) := (fun e => by cases e)
     have hfb : O4 h a (P1, false) := V0 qz5
     refine R7 ?_
     refine K4 3 0 3 rfl rfl H8 ?_
     refine K4 3 3 2 rfl rfl H8 ?_
     (refine E4 [] ((P1, false)) ?_ rfl qz7 (J4 rfl B5 (A7 (C4 (ys := _) 3 rfl rfl F4 D9 qz6) (A7 (A4 rfl B1) D0))); exact ⟨hfa, hfb⟩)
    intro h109
    have hgr : goodRep ⟨true, (onDiskR (mendD d).1).1, 0⟩ (E5 h.Group a).1.Term = true := (by simpa using h109)
    have hfa : M7 h (⟨setRep (E5 h.Group a).1 a.Rep ⟨true, (onDiskR (mendD d).1).1, 0⟩, h.Disks.set a.Rep.toNat (mendD d).1⟩, true) := (fun _ => ⟨W6 hh (Aq8 hdo hr hgr hup.symm) hms, (c3 ..).trans hdo.len⟩)
    have hfb : O4 h a (⟨setRep (E5 h.Group a).1 a.Rep ⟨true, (onDiskR (mendD d).1).1, 0⟩, h.Disks.set a.Rep.toNat (mendD d).1⟩, true) := V0 qz5
    refine R2 ?_
    refine AWP.le (M9 [2, 5] 5 (.box b8 57 [_, _, _, _]) rfl rfl ⟨rfl, rfl, (B2 (G5 (C6 (i := 0) rfl) E3) (B2 C8 (B2 C8 (B2 (G5 (C6 (i := 1) rfl) E3) J8))))⟩ H8) ?_
    refine R6 ?_
    (refine E4 [] ((⟨setRep (E5 h.Group a).1 a.Rep ⟨true, (onDiskR (mendD d).1).1, 0⟩, h.Disks.set a.Rep.toNat (mendD d).1⟩, true)) ?_ rfl qz7 (J4 rfl B5 (A7 (C4 (ys := _) 2 rfl rfl F4 D9 qz6) (A7 (A4 rfl B1) D0))); exact ⟨hfa, hfb⟩)
   intro h67
   have k67 := F2 h67; try simp only [A5] at k67
   have hfa : M7 h (⟨(E5 h.Group a).1, h.Disks⟩, true) := (fun _ => ⟨hi_do hh hdo, hdo.len⟩)
   have hfb : O4 h a (⟨(E5 h.Group a).1, h.Disks⟩, true) := (fun n hn e k r0 r1 => by (rw [e, AL4 hn k r0 r1]; rfl))
   refine R2 ?_
   refine AWP.le (M9 [1, 4] 4 (.box b8 57 [_, _, _, _]) rfl rfl ⟨rfl, rfl, (B2 (G5 (C6 (i := 0) rfl) E3) (B2 C8 (B2 C8 (B2 (G5 (C6 (i := 1) rfl) E3) J8))))⟩ H8) ?_
   refine R6 ?_
   (refine E4 [] ((⟨(E5 h.Group a).1, h.Disks⟩, true)) ?_ rfl qz7 (J4 rfl B5 (A7 (C4 (ys := _) 1 rfl rfl F4 D9 qz6) (A7 (A4 rfl B1) D0))); exact ⟨hfa, hfb⟩)
  refine I7 rfl rfl rfl (X5 rfl Tryz.zeroValue57 rfl) (fun a _ => qz2) ?_
  intro b8 _
  refine R1 ?_
  refine I7 rfl rfl rfl (j5 5 (fun _ => rfl) (T1 (by' := 32) 5 rfl D2 Tryz.type34 rfl rfl rfl rfl rfl rfl (A0 rfl) (A0 rfl) rfl qz1)) (fun a _ => qz2) ?_
  intro v31_2 hone_v31_2
  have one_v31_2 := hone_v31_2.2
  refine L5 rfl rfl rfl (fun ext => U1 (places := #[(0, 3), (3, 1)]) rfl L7 Tryz.zeroValue57 (fun w => by kernel_rfl) rfl (E1 (A0 rfl) (J3 _) (E1 (A0 rfl) (P2 one_v31_2) O8)) rfl) ?_
  refine R5 ?_
  refine s5 qz19 ?_
  refine R10 ?_
  refine A6 (A0 rfl) ?_ ?_
  ·intro h35
   have k35 := F3 h35; try simp only [A5] at k35
   have hled := AD1 (g := h.Group) (r := a.Rec) qz50
   have hvl9 : (E5 h.Group a).1.Lead = h.Group.Lead := qz51
   have hr : 0 ≤ (E5 h.Group a).1.Lead ∧ (E5 h.Group a).1.Lead < (E5 h.Group a).1.Reps.length := qz5
   have hx := K3 hr
   obtain ⟨hke, hkl, hks⟩ := o5 hdo hr
   have hfa : M7 h (⟨(E5 h.Group a).1, h.Disks.set (E5 h.Group a).1.Lead.toNat ⟨keptB (repAt (E5 h.Group a).1 (E5 h.Group a).1.Lead).Log, []⟩⟩, true) := (fun _ => ⟨W6 hh hdo hks, hdo.len⟩)
   have hfb : O4 h a (⟨(E5 h.Group a).1, h.Disks.set (E5 h.Group a).1.Lead.toNat ⟨keptB (repAt (E5 h.Group a).1 (E5 h.Group a).1.Lead).Log, []⟩⟩, true) := V0 qz5
   refine N4 14 F9 F9 rfl ?_
   refine R8 ?_
   refine A9 rfl rfl (K7 1 rfl C2 C7 (A0 rfl) rfl (A0 rfl) qz5 N2) ?_
   refine A9 rfl rfl (f9 1 rfl I8 rfl P0 (A0 rfl) rfl rfl qz3) ?_
   refine A9 rfl rfl (m6 1 rfl (A0 rfl) rfl W1 qz3 rfl) ?_
   refine A9 rfl rfl (A8 rfl Tryz.call89 rfl (Z5 _ (fun e he => (hke e he).1) hkl (fun e he => (hke e he).2)) (A1 (A0 rfl) A3)) ?_
   refine R1 ?_
   refine A9 rfl rfl (K7 5 rfl D2 B9 (A0 rfl) rfl (A0 rfl) qz5 N2) ?_
   refine R1 ?_
   refine P6 5 rfl rfl rfl (A0 rfl) (A0 rfl) (J3 _) rfl B9 rfl N2 ?_
   refine R2 ?_
   refine AWP.le (M9 [1, 4] 4 (.box b8 57 [_, _, _, _]) rfl rfl ⟨rfl, rfl, (B2 (G5 (C6 (i := 0) rfl) E3) (B2 C8 (B2 C8 (B2 (G5 (C6 (i := 1) rfl) E3) J8))))⟩ H8) ?_
   refine R6 ?_
   (refine E4 [] ((⟨(E5 h.Group a).1, h.Disks.set (E5 h.Group a).1.Lead.toNat ⟨keptB (repAt (E5 h.Group a).1 (E5 h.Group a).1.Lead).Log, []⟩⟩, true)) ?_ rfl qz7 (J4 rfl B5 (A7 (C4 (ys := _) 1 rfl rfl F4 D9 qz6) (A7 (A4 rfl B1) D0))); exact ⟨hfa, hfb⟩)
  intro h35
  have k35 := F2 h35; try simp only [A5] at k35
  refine R5 ?_
  refine A6 (A0 rfl) ?_ ?_
  ·intro h51
   have k51 := F3 h51; try simp only [A5] at k51
   have hled := AY8 (g := h.Group) (r := a.Rep) qz49
   have hr : 0 ≤ a.Rep ∧ a.Rep < (E5 h.Group a).1.Reps.length := qz5
   have hx := K3 hr
   obtain ⟨hke, hkl, hks⟩ := o5 hdo hr
   have hfa : M7 h (⟨(E5 h.Group a).1, h.Disks.set a.Rep.toNat ⟨keptB (repAt (E5 h.Group a).1 a.Rep).Log, []⟩⟩, true) := (fun _ => ⟨W6 hh hdo hks, hdo.len⟩)
   have hfb : O4 h a (⟨(E5 h.Group a).1, h.Disks.set a.Rep.toNat ⟨keptB (repAt (E5 h.Group a).1 a.Rep).Log, []⟩⟩, true) := V0 qz5
   refine N4 14 F9 F9 rfl ?_
   refine R8 ?_
   refine A9 rfl rfl (K7 1 rfl C2 C7 (A0 rfl) rfl (A0 rfl) qz5 N2) ?_
   refine A9 rfl rfl (f9 1 rfl I8 rfl P0 (A0 rfl) rfl rfl qz3) ?_
   refine A9 rfl rfl (m6 1 rfl (A0 rfl) rfl W1 qz3 rfl) ?_
   refine A9 rfl rfl (A8 rfl Tryz.call89 rfl (Z5 _ (fun e he => (hke e he).1) hkl (fun e he => (hke e he).2)) (A1 (A0 rfl) A3)) ?_
   refine R1 ?_
   refine A9 rfl rfl (K7 5 rfl D2 B9 (A0 rfl) rfl (A0 rfl) qz5 N2) ?_
   refine R1 ?_
   refine P6 5 rfl rfl rfl (A0 rfl) (A0 rfl) (J3 _) rfl B9 rfl N2 ?_
   refine R2 ?_
   refine AWP.le (M9 [1, 4] 4 (.box b8 57 [_, _, _, _]) rfl rfl ⟨rfl, rfl, (B2 (G5 (C6 (i := 0) rfl) E3) (B2 C8 (B2 C8 (B2 (G5 (C6 (i := 1) rfl) E3) J8))))⟩ H8) ?_
   refine R6 ?_
   (refine E4 [] ((⟨(E5 h.Group a).1, h.Disks.set a.Rep.toNat ⟨keptB (repAt (E5 h.Group a).1 a.Rep).Log, []⟩⟩, true)) ?_ rfl qz7 (J4 rfl B5 (A7 (C4 (ys := _) 1 rfl rfl F4 D9 qz6) (A7 (A4 rfl B1) D0))); exact ⟨hfa, hfb⟩)
  intro h51
  have k51 := F2 h51; try simp only [A5] at k51
  refine R5 ?_
  refine A6 (A0 rfl) ?_ ?_
  ·intro h67
   have k67 := F3 h67; try simp only [A5] at k67
   have hled := AQ2 (g := h.Group) (r := a.Rep) qz52
   have hup : (repAt (E5 h.Group a).1 a.Rep).Up = true := qz56
   have hr : 0 ≤ a.Rep ∧ a.Rep < (E5 h.Group a).1.Reps.length := qz5
   have hx := K3 hr
   obtain ⟨d, hd⟩ := E7 (show a.Rep.toNat < h.Disks.length by omega)
   have hds := hh.disks d (C6 hd)
   have hms := AR8 hds
   have hol := AL5 (mendD d).1
   refine R6 ?_
   refine A2 rfl (F1 rfl D2 B9 (A0 rfl) (A0 rfl) hd qz5) ?_
   refine R1 ?_
   refine A2 rfl (A8 rfl Tryz.call90 rfl (s8 d qz5) (A1 (A0 rfl) A3)) ?_
   refine R4 ?_
   intro b9
   refine R6 ?_
   refine A2 rfl (A8 rfl Tryz.call10 rfl (i6 (mendD d).1 qz5) (A1 (A0 rfl) A3)) ?_
   refine R13 ?_
   refine A2 rfl (K7 6 rfl D2 B9 (A0 rfl) rfl (A0 rfl) qz5 N2) ?_
   refine P6 6 rfl rfl rfl (A0 rfl) (A0 rfl) (J3 _) rfl B9 rfl N2 ?_
   refine R10 ?_
   refine A2 rfl (K7 2 rfl C2 C7 (A0 rfl) rfl (A0 rfl) qz5 N2) ?_
   refine P6 2 rfl rfl rfl (A0 rfl) (A0 rfl) (J3 _) rfl C7 rfl N2 ?_
   refine R8 ?_
   refine A9 rfl rfl (K7 2 rfl C2 C7 (A0 rfl) rfl (A0 rfl) qz5 N2) ?_
   refine A9 rfl rfl (Af3 2 rfl (A0 rfl) rfl Tryz.isAgg116 C7 qz3 B5) ?_
   refine R3 ?_
   refine A9 rfl rfl (A8 rfl Tryz.call91 rfl (f5 ⟨true, (onDiskR (mendD d).1).1, 0⟩ _ (by dsimp only; omega) (fun e he => Nat.le_trans (X0 (w4 he)) B5)) (A1 (A0 rfl) (A1 (A0 rfl) A3))) ?_
   refine R2 ?_
   refine A6 (A0 rfl) ?_ ?_
   ·intro h109
    have hfa : M7 h (P1, false) := (fun e => by cases e)
    have hfb : O4 h a (P1, false) := V0 qz5
    refine R7 ?_
    refine K4 3 0 3 rfl rfl H8 ?_
    refine K4 3 3 2 rfl rfl H8 ?_
    (refine E4 [] ((P1, false)) ?_ rfl qz7 (J4 rfl B5 (A7 (C4 (ys := _) 3 rfl rfl F4 D9 qz6) (A7 (A4 rfl B1) D0))); exact ⟨hfa, hfb⟩)
   intro h109
   have hgr : goodRep ⟨true, (onDiskR (mendD d).1).1, 0⟩ (E5 h.Group a).1.Term = true := (by simpa using h109)
   have hfa : M7 h (⟨setRep (E5 h.Group a).1 a.Rep ⟨true, (onDiskR (mendD d).1).1, 0⟩, h.Disks.set a.Rep.toNat (mendD d).1⟩, true) := (fun _ => ⟨W6 hh (Aq8 hdo hr hgr hup.symm) hms, (c3 ..).trans hdo.len⟩)
   have hfb : O4 h a (⟨setRep (E5 h.Group a).1 a.Rep ⟨true, (onDiskR (mendD d).1).1, 0⟩, h.Disks.set a.Rep.toNat (mendD d).1⟩, true) := V0 qz5
   refine R2 ?_
   refine AWP.le (M9 [2, 5] 5 (.box b8 57 [_, _, _, _]) rfl rfl ⟨rfl, rfl, (B2 (G5 (C6 (i := 0) rfl) E3) (B2 C8 (B2 C8 (B2 (G5 (C6 (i := 1) rfl) E3) J8))))⟩ H8) ?_
   refine R6 ?_
   (refine E4 [] ((⟨setRep (E5 h.Group a).1 a.Rep ⟨true, (onDiskR (mendD d).1).1, 0⟩, h.Disks.set a.Rep.toNat (mendD d).1⟩, true)) ?_ rfl qz7 (J4 rfl B5 (A7 (C4 (ys := _) 2 rfl rfl F4 D9 qz6) (A7 (A4 rfl B1) D0))); exact ⟨hfa, hfb⟩)
  intro h67
  have k67 := F2 h67; try simp only [A5] at k67
  have hfa : M7 h (⟨(E5 h.Group a).1, h.Disks⟩, true) := (fun _ => ⟨hi_do hh hdo, hdo.len⟩)
  have hfb : O4 h a (⟨(E5 h.Group a).1, h.Disks⟩, true) := (fun n hn e k r0 r1 => by (rw [e, AL4 hn k r0 r1]; rfl))
  refine R2 ?_
  refine AWP.le (M9 [1, 4] 4 (.box b8 57 [_, _, _, _]) rfl rfl ⟨rfl, rfl, (B2 (G5 (C6 (i := 0) rfl) E3) (B2 C8 (B2 C8 (B2 (G5 (C6 (i := 1) rfl) E3) J8))))⟩ H8) ?_
  refine R6 ?_
  (refine E4 [] ((⟨(E5 h.Group a).1, h.Disks⟩, true)) ?_ rfl qz7 (J4 rfl B5 (A7 (C4 (ys := _) 1 rfl rfl F4 D9 qz6) (A7 (A4 rfl B1) D0))); exact ⟨hfa, hfb⟩)
 refine I7 rfl rfl rfl (X5 rfl Tryz.zeroValue57 rfl) (fun a _ => qz2) ?_
 intro b8 _
 refine R1 ?_
 refine I7 rfl rfl rfl (y6 rfl D2 B9) (fun a _ => qz2) ?_
 intro v28 _
 refine R1 ?_
 refine I7 rfl rfl rfl (j5 6 (fun _ => rfl) (T1 (by' := 32) 6 rfl D2 Tryz.type34 rfl rfl rfl rfl rfl rfl (A0 rfl) (A0 rfl) rfl qz1)) (fun a _ => qz2) ?_
 intro v31_3 hone_v31_3
 have one_v31_3 := hone_v31_3.2
 refine L5 rfl rfl rfl (fun ext => U1 (places := #[(0, 3), (3, 1)]) rfl L7 Tryz.zeroValue57 (fun w => by kernel_rfl) rfl (E1 (A0 rfl) (J3 _) (E1 (A0 rfl) (P2 one_v31_3) O8)) rfl) ?_
 refine R5 ?_
 refine s5 qz19 ?_
 refine R10 ?_
 refine A6 (A0 rfl) ?_ ?_
 ·intro h35
  have k35 := F3 h35; try simp only [A5] at k35
  have hled := AD1 (g := h.Group) (r := a.Rec) qz50
  have hvl9 : (E5 h.Group a).1.Lead = h.Group.Lead := qz51
  have hr : 0 ≤ (E5 h.Group a).1.Lead ∧ (E5 h.Group a).1.Lead < (E5 h.Group a).1.Reps.length := qz5
  have hx := K3 hr
  obtain ⟨hke, hkl, hks⟩ := o5 hdo hr
  have hfa : M7 h (⟨(E5 h.Group a).1, h.Disks.set (E5 h.Group a).1.Lead.toNat ⟨keptB (repAt (E5 h.Group a).1 (E5 h.Group a).1.Lead).Log, []⟩⟩, true) := (fun _ => ⟨W6 hh hdo hks, hdo.len⟩)
  have hfb : O4 h a (⟨(E5 h.Group a).1, h.Disks.set (E5 h.Group a).1.Lead.toNat ⟨keptB (repAt (E5 h.Group a).1 (E5 h.Group a).1.Lead).Log, []⟩⟩, true) := V0 qz5
  refine N4 14 F9 F9 rfl ?_
  refine R8 ?_
  refine A9 rfl rfl (K7 1 rfl C2 C7 (A0 rfl) rfl (A0 rfl) qz5 N2) ?_
  refine A9 rfl rfl (f9 1 rfl I8 rfl P0 (A0 rfl) rfl rfl qz3) ?_
  refine A9 rfl rfl (m6 1 rfl (A0 rfl) rfl W1 qz3 rfl) ?_
  refine A9 rfl rfl (A8 rfl Tryz.call89 rfl (Z5 _ (fun e he => (hke e he).1) hkl (fun e he => (hke e he).2)) (A1 (A0 rfl) A3)) ?_
  refine R1 ?_
  refine A9 rfl rfl (K7 6 rfl D2 B9 (A0 rfl) rfl (A0 rfl) qz5 N2) ?_
  refine R1 ?_
  refine P6 6 rfl rfl rfl (A0 rfl) (A0 rfl) (J3 _) rfl B9 rfl N2 ?_
  refine R2 ?_
  refine AWP.le (M9 [1, 5] 4 (.box b8 57 [_, _, _, _]) rfl rfl ⟨rfl, rfl, (B2 (G5 (C6 (i := 0) rfl) E3) (B2 C8 (B2 C8 (B2 (G5 (C6 (i := 1) rfl) E3) J8))))⟩ H8) ?_
  refine R6 ?_
  (refine E4 [] ((⟨(E5 h.Group a).1, h.Disks.set (E5 h.Group a).1.Lead.toNat ⟨keptB (repAt (E5 h.Group a).1 (E5 h.Group a).1.Lead).Log, []⟩⟩, true)) ?_ rfl qz7 (J4 rfl B5 (A7 (C4 (ys := _) 1 rfl rfl F4 D9 qz6) (A7 (A4 rfl B1) D0))); exact ⟨hfa, hfb⟩)
 intro h35
 have k35 := F2 h35; try simp only [A5] at k35
 refine R5 ?_
 refine A6 (A0 rfl) ?_ ?_
 ·intro h51
  have k51 := F3 h51; try simp only [A5] at k51
  have hled := AY8 (g := h.Group) (r := a.Rep) qz49
  have hr : 0 ≤ a.Rep ∧ a.Rep < (E5 h.Group a).1.Reps.length := qz5
  have hx := K3 hr
  obtain ⟨hke, hkl, hks⟩ := o5 hdo hr
  have hfa : M7 h (⟨(E5 h.Group a).1, h.Disks.set a.Rep.toNat ⟨keptB (repAt (E5 h.Group a).1 a.Rep).Log, []⟩⟩, true) := (fun _ => ⟨W6 hh hdo hks, hdo.len⟩)
  have hfb : O4 h a (⟨(E5 h.Group a).1, h.Disks.set a.Rep.toNat ⟨keptB (repAt (E5 h.Group a).1 a.Rep).Log, []⟩⟩, true) := V0 qz5
  refine N4 14 F9 F9 rfl ?_
  refine R8 ?_
  refine A9 rfl rfl (K7 1 rfl C2 C7 (A0 rfl) rfl (A0 rfl) qz5 N2) ?_
  refine A9 rfl rfl (f9 1 rfl I8 rfl P0 (A0 rfl) rfl rfl qz3) ?_
  refine A9 rfl rfl (m6 1 rfl (A0 rfl) rfl W1 qz3 rfl) ?_
  refine A9 rfl rfl (A8 rfl Tryz.call89 rfl (Z5 _ (fun e he => (hke e he).1) hkl (fun e he => (hke e he).2)) (A1 (A0 rfl) A3)) ?_
  refine R1 ?_
  refine A9 rfl rfl (K7 6 rfl D2 B9 (A0 rfl) rfl (A0 rfl) qz5 N2) ?_
  refine R1 ?_
  refine P6 6 rfl rfl rfl (A0 rfl) (A0 rfl) (J3 _) rfl B9 rfl N2 ?_
  refine R2 ?_
  refine AWP.le (M9 [1, 5] 4 (.box b8 57 [_, _, _, _]) rfl rfl ⟨rfl, rfl, (B2 (G5 (C6 (i := 0) rfl) E3) (B2 C8 (B2 C8 (B2 (G5 (C6 (i := 1) rfl) E3) J8))))⟩ H8) ?_
  refine R6 ?_
  (refine E4 [] ((⟨(E5 h.Group a).1, h.Disks.set a.Rep.toNat ⟨keptB (repAt (E5 h.Group a).1 a.Rep).Log, []⟩⟩, true)) ?_ rfl qz7 (J4 rfl B5 (A7 (C4 (ys := _) 1 rfl rfl F4 D9 qz6) (A7 (A4 rfl B1) D0))); exact ⟨hfa, hfb⟩)
 intro h51
 have k51 := F2 h51; try simp only [A5] at k51
 refine R5 ?_
 refine A6 (A0 rfl) ?_ ?_
 ·intro h67
  have k67 := F3 h67; try simp only [A5] at k67
  have hled := AQ2 (g := h.Group) (r := a.Rep) qz52
  have hup : (repAt (E5 h.Group a).1 a.Rep).Up = true := qz56
  have hr : 0 ≤ a.Rep ∧ a.Rep < (E5 h.Group a).1.Reps.length := qz5
  have hx := K3 hr
  obtain ⟨d, hd⟩ := E7 (show a.Rep.toNat < h.Disks.length by omega)
  have hds := hh.disks d (C6 hd)
  have hms := AR8 hds
  have hol := AL5 (mendD d).1
  refine R6 ?_
  refine A2 rfl (F1 rfl D2 B9 (A0 rfl) (A0 rfl) hd qz5) ?_
  refine R1 ?_
  refine A2 rfl (A8 rfl Tryz.call90 rfl (s8 d qz5) (A1 (A0 rfl) A3)) ?_
  refine R4 ?_
  intro b9
  refine R6 ?_
  refine A2 rfl (A8 rfl Tryz.call10 rfl (i6 (mendD d).1 qz5) (A1 (A0 rfl) A3)) ?_
  refine R13 ?_
  refine A2 rfl (K7 7 rfl D2 B9 (A0 rfl) rfl (A0 rfl) qz5 N2) ?_
  refine P6 7 rfl rfl rfl (A0 rfl) (A0 rfl) (J3 _) rfl B9 rfl N2 ?_
  refine R10 ?_
  refine A2 rfl (K7 2 rfl C2 C7 (A0 rfl) rfl (A0 rfl) qz5 N2) ?_
  refine P6 2 rfl rfl rfl (A0 rfl) (A0 rfl) (J3 _) rfl C7 rfl N2 ?_
  refine R8 ?_
  refine A9 rfl rfl (K7 2 rfl C2 C7 (A0 rfl) rfl (A0 rfl) qz5 N2) ?_
  refine A9 rfl rfl (Af3 2 rfl (A0 rfl) rfl Tryz.isAgg116 C7 qz3 B5) ?_
  refine R3 ?_
  refine A9 rfl rfl (A8 rfl Tryz.call91 rfl (f5 ⟨true, (onDiskR (mendD d).1).1, 0⟩ _ (by dsimp only; omega) (fun e he => Nat.le_trans (X0 (w4 he)) B5)) (A1 (A0 rfl) (A1 (A0 rfl) A3))) ?_
  refine R2 ?_
  refine A6 (A0 rfl) ?_ ?_
  ·intro h109
   have hfa : M7 h (P1, false) := (fun e => by cases e)
   have hfb : O4 h a (P1, false) := V0 qz5
   refine R7 ?_
   refine K4 3 0 3 rfl rfl H8 ?_
   refine K4 3 3 2 rfl rfl H8 ?_
   (refine E4 [] ((P1, false)) ?_ rfl qz7 (J4 rfl B5 (A7 (C4 (ys := _) 3 rfl rfl F4 D9 qz6) (A7 (A4 rfl B1) D0))); exact ⟨hfa, hfb⟩)
  intro h109
  have hgr : goodRep ⟨true, (onDiskR (mendD d).1).1, 0⟩ (E5 h.Group a).1.Term = true := (by simpa using h109)
  have hfa : M7 h (⟨setRep (E5 h.Group a).1 a.Rep ⟨true, (onDiskR (mendD d).1).1, 0⟩, h.Disks.set a.Rep.toNat (mendD d).1⟩, true) := (fun _ => ⟨W6 hh (Aq8 hdo hr hgr hup.symm) hms, (c3 ..).trans hdo.len⟩)
  have hfb : O4 h a (⟨setRep (E5 h.Group a).1 a.Rep ⟨true, (onDiskR (mendD d).1).1, 0⟩, h.Disks.set a.Rep.toNat (mendD d).1⟩, true) := V0 qz5
  refine R2 ?_
  refine AWP.le (M9 [2, 6] 5 (.box b8 57 [_, _, _, _]) rfl rfl ⟨rfl, rfl, (B2 (G5 (C6 (i := 0) rfl) E3) (B2 C8 (B2 C8 (B2 (G5 (C6 (i := 1) rfl) E3) J8))))⟩ H8) ?_
  refine R6 ?_
  (refine E4 [] ((⟨setRep (E5 h.Group a).1 a.Rep ⟨true, (onDiskR (mendD d).1).1, 0⟩, h.Disks.set a.Rep.toNat (mendD d).1⟩, true)) ?_ rfl qz7 (J4 rfl B5 (A7 (C4 (ys := _) 2 rfl rfl F4 D9 qz6) (A7 (A4 rfl B1) D0))); exact ⟨hfa, hfb⟩)
 intro h67
 have k67 := F2 h67; try simp only [A5] at k67
 have hfa : M7 h (⟨(E5 h.Group a).1, h.Disks⟩, true) := (fun _ => ⟨hi_do hh hdo, hdo.len⟩)
 have hfb : O4 h a (⟨(E5 h.Group a).1, h.Disks⟩, true) := (fun n hn e k r0 r1 => by (rw [e, AL4 hn k r0 r1]; rfl))
 refine R2 ?_
 refine AWP.le (M9 [1, 5] 4 (.box b8 57 [_, _, _, _]) rfl rfl ⟨rfl, rfl, (B2 (G5 (C6 (i := 0) rfl) E3) (B2 C8 (B2 C8 (B2 (G5 (C6 (i := 1) rfl) E3) J8))))⟩ H8) ?_
 refine R6 ?_
 (refine E4 [] ((⟨(E5 h.Group a).1, h.Disks⟩, true)) ?_ rfl qz7 (J4 rfl B5 (A7 (C4 (ys := _) 1 rfl rfl F4 D9 qz6) (A7 (A4 rfl B1) D0))); exact ⟨hfa, hfb⟩)
end Go.Proofs.YtkibefcceekmnaaGreat
