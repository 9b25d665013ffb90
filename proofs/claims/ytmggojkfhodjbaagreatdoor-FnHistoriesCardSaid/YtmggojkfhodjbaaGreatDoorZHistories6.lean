/- Texts of the claim, part 6. -/
import Derived.Lib.AppendStr
import Derived.Shelf.Strings.OnBuilder
import Derived.Test.YtmggojkfhodjbaaGreatDoorProg
import Derived.WalkKit
import Derived.Shelf.Strconv.Itoa3
import Derived.Lib.OthersKept
import Derived.Test.YtmggojkfhodjbaaGreatDoorZHistories5
set_option linter.defProp false
set_option linter.unusedVariables false
set_option linter.unusedSimpArgs false
set_option maxRecDepth 100000
set_option maxHeartbeats 4000000
namespace Go.M
open Go.AV
theorem CK0 {α : Type} {l : List α} {i : Nat} {x : α} (hx : l[i]? = some x) : l.drop i = x :: l.drop (i + 1) := by
  obtain ⟨h, e⟩ := G2.1 hx;rw [← e]; exact List.drop_eq_getElem_cons h
theorem takeX {α : Type} {l : List α} {i : Nat} {x : α} (hx : l[i]? = some x) : l.take (i + 1) = l.take i ++ [x] := by rw [W1, hx]; rfl
theorem Cb4 {l : List F9} {i : Nat} {x : F9} (hx : l[i]? = some x) : AW1 (l.take i) (l.drop i) = ((Ac3 x && !((l.take i).any fun h => h.Key == x.Key)) && AW1 (l.take (i + 1)) (l.drop (i + 1))) := by rw [CK0 hx, takeX hx]; rfl
theorem Cr6 {l : List F9} {i : Nat} (h : l.length ≤ i) : AW1 (l.take i) (l.drop i) = true := by rw [n5 h]; rfl
theorem Cb5 {α : Type} {p : α → Bool} {l : List α} {i : Nat} {x : α} (hx : l[i]? = some x) : (l.drop i).any p = (p x || (l.drop (i + 1)).any p) := by rw [CK0 hx, Aj8]
theorem DX4 {α : Type} {p : α → Bool} {l : List α} {i : Nat} {x : α} (hx : l[i]? = some x) : (l.drop i).all p = (p x && (l.drop (i + 1)).all p) := by rw [CK0 hx, AC0]
theorem kcomm (a b : Str) : (a == b) = (b == a) := by rw [AW7, i8, i8]; exact eq_comm
theorem Cb6 {d : E0} (h : d.size ≤ 1048576) : C9 F9.size d.Got ≤ 1048576 ∧ C9 A5.size d.Writes ≤ 1048576 ∧ d.Got.length ≤ 1048576 ∧ d.Writes.length ≤ 1048576 := by
  have h1 := O2 (f := F9.size) (l := d.Got);have h2 := O2 (f := A5.size) (l := d.Writes);unfold E0.size at h;omega
theorem Cr7 {l : List F9} {i : Nat} {x : F9} (hx : l[i]? = some x) : x.Key.length ≤ C9 F9.size l ∧ x.Val.length ≤ C9 F9.size l := by
  have h := Y4 (f := F9.size) hx;have h2 : x.size = x.Key.length + x.Val.length := rfl;omega
theorem hist_all {h : List E0} : (h.any fun d => !Q7 d) = !(h.all Q7) := by rw [List.not_all_eq_any_not]
theorem Cb7 {h : List E0} {i : Nat} {d : E0} (hx : h[i]? = some d) : (h.drop i).all Q7 = (Q7 d && (h.drop (i + 1)).all Q7) := DX4 hx
structure SO (s : E9) : Prop where
  floor : 0 ≤ s.Floor
  cells : AP2 s.Cells
  hsort : s.Held.Pairwise fun a b => a.Txn < b.Txn
  tsort : s.Told.Pairwise fun a b => a.Txn < b.Txn
  times : ∀ h ∈ s.Held, 1 ≤ h.Time
theorem gs_so {s : E9} (g : GS s) : SO s := ⟨g.floor.1, Ac9 g.cells, g.hsort, g.tsort, fun h hm => (DM5 g hm).1⟩
theorem DG3 {t : Int} : ∀ {w : List A5} {l q : List B6}, AP2 l → j3 l w t = some q → AP2 q
  | [], l, q, h, e => by simp [j3] at e; subst e; exact h
  | x :: w, l, q, h, e => by
    unfold j3 at e;split at e
    · cases e
    · exact DG3 (Ab0 h _ _) e
theorem so_apply {s : E9} (g : SO s) {r : N9} (h : (W6 s r).2 = true) : SO (W6 s r).1 := by
  have h0 := g.floor;have hless : SO ⟨s.Floor, s.Cells, AC1 s.Held r.Txn, s.Told⟩ := ⟨h0, g.cells, g.hsort.sublist List.filter_sublist, g.tsort, fun k hk => g.times k (Af0.1 hk).1⟩;unfold W6 at h ⊢;by_cases h4 : r.Kind = 4
  · rw [D3 h4] at h ⊢
    have := AD2 h;exact ⟨by dsimp only; omega, g.cells, g.hsort, g.tsort, g.times⟩
  · rw [C5 h4] at h ⊢
    by_cases hT : AT8 s.Told r.Txn = true
    · rw [D3 hT] at h; cases h
    · rw [C5 hT] at h ⊢
      rw [Bool.not_eq_true] at hT;have htn := Be3.1 hT;have htl : (AX1 ⟨r.Txn, r.Yes, r.Time⟩ s.Told).Pairwise fun a b => a.Txn < b.Txn := Bn2 g.tsort htn;by_cases h1 : r.Kind = 1
      · rw [D3 h1] at h ⊢
        simp only [D8, q7, H5] at h;refine ⟨by dsimp only; omega, g.cells, Bn1 g.hsort (Ab2.1 h.1.1), g.tsort, fun k hk => ?_⟩;rcases Al7.1 hk with rfl | hk
        · show 1 ≤ r.Time; omega
        · exact g.times k hk
      · rw [C5 h1] at h ⊢
        by_cases hy : r.Yes = true
        · rw [D3 hy] at h ⊢
          cases hf : AH7 s.Held r.Txn with
          | none => rw [hf] at h; cases h
          | some k =>
            rw [hf] at h;dsimp only at h ⊢;by_cases hlt : r.Time < k.Time
            · rw [D3 hlt] at h; cases h
            · rw [C5 hlt] at h ⊢
              by_cases hp : (AK3 s.Cells k.Writes r.Time).2 = true
              · rw [D3 hp]
                exact ⟨by unfold AQ1; dsimp only; split <;> omega, DG3 g.cells (Bt6 hp).1, hless.hsort, htl, hless.times⟩
              · rw [C5 hp] at h; cases h
        · rw [C5 hy]
          exact ⟨h0, g.cells, hless.hsort, htl, hless.times⟩
theorem so_step {s : E9} (g : SO s) (r : N9) : SO (AJ9 s r) := by
  unfold AJ9;split
  · exact so_apply g ‹_›
  · exact g
theorem so_zero : SO U9 := gs_so BY0
theorem DG4 : ∀ {l : List N9} {s : E9}, SO s → SO (Y3 s l)
  | [], s, g => g
  | r :: l, s, g => by
    show SO (Y3 (AJ9 s r) l)
    exact DG4 (so_step g r)
theorem BS4 {l : List D2} {i : Nat} {h : D2} {n : Int} (hx : l[i]? = some h) : AC1 (l.take (i + 1)) n = if (h.Txn != n) = true then AC1 (l.take i) n ++ [h] else AC1 (l.take i) n := by
  unfold AC1;rw [W1, hx, List.filter_append];show _ ++ List.filter _ [h] = _
  split
  · rename_i e; rw [List.filter_cons_of_pos (p := fun h : D2 => h.Txn != n) e]; rfl
  · rename_i e; rw [List.filter_cons_of_neg (p := fun h : D2 => h.Txn != n) e]; simp
theorem Cb8 (s : Str) : ∀ l : List Str, C9 (fun x : Str => x.length) (AE7 l s) ≤ C9 (fun x : Str => x.length) l + s.length + 1
  | [] => by unfold AE7 C9; simp; omega
  | y :: l => by
    have ih := Cb8 s l;have hc : ∀ (z : Str) (q : List Str), C9 (fun x : Str => x.length) (z :: q) = C9 (fun x : Str => x.length) q + z.length + 1 := fun z q => by unfold C9; simp; omega
    unfold AE7;split
    · rw [hc s]; omega
    · split
      · omega
      · rw [hc, hc]; omega
theorem Bp0 {α : Type} {f : α → Nat} {c : Nat} : ∀ {l : List α}, (∀ x ∈ l, f x ≤ c) → C9 f l ≤ l.length * (c + 1)
  | [], _ => E2 _
  | x :: l, h => by
    have h1 := Bp0 (l := l) fun y hy => h y (S7 _ hy);have h2 := h x a8;unfold C9 at h1 ⊢;simp only [I9, j4, List.sum_cons];have : (l.length + 1) * (c + 1) = l.length * (c + 1) + (c + 1) := Nat.succ_mul _ _;omega
theorem gr_size {r : F7} {t : Int} (h : GR r t) : r.size ≤ 60 * 401 := by
  unfold F7.size;refine L4 (Bp0 (c := 400) fun e he => ?_) (AA3 _ h.len);exact AX9 (h.ents e he).2.2
theorem BB7 {g : D0} (h : GG g) : g.size ≤ 5 * 24061 := by
  unfold D0.size;refine L4 (Bp0 (c := 24060) fun r hr => gr_size (h.reps r hr)) (AA3 _ ?_);rcases h.many with k | k <;> omega
theorem Cz6 {a b : List K4} {i : Nat} {x y : K4} (h : a.take i = b.take i) (hx : a[i]? = some x) (hy : b[i]? = some y) (he : x = y) : a.take (i + 1) = b.take (i + 1) := by
  rw [W1, W1, h, hx, hy, he]
theorem DX5 {a b : List K4} {i n : Nat} {x y : K4} (hi : i < n) (hx : a[i]? = some x) (hy : b[i]? = some y) (he : x ≠ y) : Aa2 a b n = false := by
  unfold Aa2;refine AP9 fun h => he ?_;have h1 := E5 (fun l => l[i]?) h.2.2;rw [AH0 hi, AH0 hi, hx, hy] at h1;injection h1
theorem entry_eq {x y : K4} : (x.Term != y.Term || !decide (x.Rec = y.Rec)) = !decide (x = y) := by
  cases x; cases y
  rw [AW7];simp only [AB1, Ay7, ne_eq, q7, AH1, K4.mk.injEq, not_and];exact ⟨fun h e1 e2 => h.elim (fun k => k e1) (fun k => k e2), fun h => Classical.byCases (fun e1 => .inr (h e1)) .inl⟩
theorem Aj5 {α : Type} {p : α → Bool} {l : List α} {i : Nat} {x : α} (h : l[i]? = some x) : ((l.take (i + 1)).filter p).length = ((l.take i).filter p).length + (if p x = true then 1 else 0) := by
  rw [W1, h, List.filter_append, G3];congr 1
  show ([x].filter p).length = _
  by_cases hp : p x = true
  · rw [List.filter_cons_of_pos hp, D3 hp]; rfl
  · rw [List.filter_cons_of_neg hp, C5 hp]; rfl
theorem DX6 {l : List K4} {e : K4} (h : l[l.length - 1]? = some e) : Ab7 l = e.Term := by
  unfold Ab7;rw [List.getLast?_eq_getElem?, h]
theorem DM8 {l : List K4} (h : l.length = 0) : Ab7 l = 0 := by
  rw [Ar9 h]; rfl
theorem BJ9 {t : Int} {l : List K4} {i : Nat} {p : Int} {e : K4} (hx : l[i]? = some e) : Aa1 t p (l.drop i) = ((within e.Term p t && T2 e.Rec) && Aa1 t e.Term (l.drop (i + 1))) := by
  rw [J7 hx]; rfl
end Go.M
namespace Go.PQ
open Go.Proofs
open Go Go.AV Go.M
attribute [local irreducible] OpW OpA OpS AWP K6 L8 K8 OpE K7 I7 L1 Le Ev G4 M7
theorem CT9 {p : Prop} (h : p := by
  refine B2 tw7x0 rfl tw7x1 rfl ?_;refine R7 ?_;refine zF rfl Tryz.call45 (Z2 _ _ _) AR2 ?_;refine tw7x2 ?_;exact D5 rfl (A8 rfl V5)) : p := h
namespace tw7n0
def tw7x0 := @Tryz.func78
def tw7x1 := @Tryz.ntmps78
def tw7x2 := @R3
end tw7n0
open tw7n0 in
theorem Cz7 (n : Int) : E1 78 [AV.int n] (AV.bool (BE9 n)) := CT9
theorem DX7 (l : List Int) (n : Int) : E1 374 [ints l, AV.int n] (AV.bool (l.any fun y => n == y)) := by
 refine B2 Tryz.func374 rfl Tryz.ntmps374 rfl ?_;refine m2 (t := 0) rfl fun hl => ?_;try simp only [A7] at hl
 refine R12 ?_;refine F8 [(1, _), (7, _), (8, _)] _ (fun (i : Nat) => i ≤ l.length ∧ (l.any fun y => n == y) = ((l.drop i).any fun y => n == y)) (fun i => []) (fun i => [(9, AV.int i)]) (fun i => l.length - i) (0) ?_ (H0 A4) ?_
 ·exact zq8
 intro i hinv;refine zK ?_ ?_
 ·intro h10 k10;have hlt : i < l.length := by omega
  obtain ⟨x, hx⟩ := B3 hlt;refine zq83 ?_;refine zC ?_ ?_
  ·intro h15;have k15 := J3 h15;(try simp only [A7] at k15);refine R5 ?_;exact D5 rfl (A8 rfl qz186)
  intro h15;have k15 := J0 h15;(try simp only [A7] at k15);refine R5 ?_;refine G5 i (i + 1) ?_ ?_ (H0 A4)
  ·exact ⟨by omega, by rw [hinv.2, CK0 hx, Aj8, show (n == x) = false from by simpa using Ne.symm k15]; rfl⟩
  omega
 intro h10 k10;have hge : l.length ≤ i := by omega
 refine R6 ?_;exact D5 rfl (A8 rfl qz186)
theorem Cr8 (g h : F9) : E1 132 [AV.agg h.cs, AV.eptr g.cs] (AV.bool (h.Key == g.Key)) := by
  refine B2 Tryz.func132 rfl Tryz.ntmps132 rfl ?_;refine R3 ?_;intro b2;refine R12 ?_;exact zq10
theorem BW1 (l : List F9) (hs : C9 F9.size l ≤ 4194304) : E1 79 [AV.list 3 (l.map F9.cs)] (AV.bool (AC4 l)) := by
 have hl := O2 (f := F9.size) (l := l);refine B2 Tryz.func79 rfl Tryz.ntmps79 rfl ?_;refine R12 ?_;refine F8 [(0, _), (5, _), (6, _)] _ (fun (i : Nat) => i ≤ l.length ∧ AW1 [] l = AW1 (l.take i) (l.drop i)) (fun i => []) (fun i => [(7, AV.int i)]) (fun i => l.length - i) (0) ?_ (K5 B8 A4) ?_
 ·exact zq8
 intro i hinv;refine zK ?_ ?_
 ·intro h8 k8;have hlt : i < l.length := by (simpa using h8)
  obtain ⟨x, hx⟩ := B3 hlt;have hxs := Cr7 hx;have hgs := Cb4 hx;refine zq23 ?_;intro b4;refine R7 ?_;refine zF rfl Tryz.call129 (Ay0 _ qz8) (A2 (A0 rfl) B0) ?_;refine R7 ?_;refine T6 rfl (fun hc => zG rfl Tryz.call130 (BH0 _ _ qz8) (A2 (A9 rfl hc) (A2 (A9 rfl hc) B0))) ?_;refine R5 ?_;refine T6 rfl (fun hc => AN5 rfl I8 S2 (A9 rfl hc) (A9 rfl hc) qz6 qz6) ?_;refine T6 rfl (fun hc => BR2 rfl rfl I4) ?_;refine T6 rfl (fun hc => m5 rfl Tryz.call131 rfl (Bf6 (l.take i) (fun _ => True) (fun h => h.Key == x.Key) (fun _ _ => trivial)) (U2 _) (O6 (evb (A9 rfl hc)) (O6 (AY7 (At4 0 (A9 rfl hc) rfl) (Ak5 Tryz.call132 (fun g (_ : True) => Cr8 _ g))) o0))) ?_;refine zC ?_ ?_
  ·intro h31;have hn : (Ac3 x && !((l.take i).any fun h => h.Key == x.Key)) = false := qz146;have he : AC4 l = false := (by unfold AC4; rw [hinv.2, hgs, hn]; rfl);rw [he];refine R5 ?_;exact D5 rfl (A8 rfl qz91)
  intro h31;have hy : (Ac3 x && !((l.take i).any fun h => h.Key == x.Key)) = true := qz146;refine R5 ?_;refine G5 i (i + 1) ?_ ?_ (Le.trans (B4 [0] rfl) (C7 1 B8 A4))
  ·exact ⟨by omega, by rw [hinv.2, hgs, hy, Bool.true_and]⟩
  omega
 intro h8 k8;have hge : l.length ≤ i := by (simpa using h8)
 have hfin := hinv.2;rw [Cr6 hge] at hfin;refine R9 ?_;exact D5 rfl (A8 rfl qz91)
theorem BW2 (l : List F9) (hs : C9 F9.size l ≤ 4194304) : E1 83 [AV.list 3 (l.map F9.cs)] (AV.bool (AC4 l)) := by
 have hl := O2 (f := F9.size) (l := l);refine B2 Tryz.func83 rfl Tryz.ntmps83 rfl ?_;refine R12 ?_;refine F8 [(0, _), (7, _), (8, _)] _ (fun (i : Nat) => i ≤ l.length ∧ AW1 [] l = AW1 (l.take i) (l.drop i)) (fun i => []) (fun i => [(9, AV.int i)]) (fun i => l.length - i) (0) ?_ (K5 B8 A4) ?_
 ·exact zq8
 intro i hinv;refine zK ?_ ?_
 ·intro h10 k10;have hlt : i < l.length := by (simpa using h10)
  obtain ⟨x, hx⟩ := B3 hlt;have hxs := Cr7 hx;have hgs := Cb4 hx;have hi0 := hinv.2;refine zq23 ?_;intro b4;refine R8 ?_;refine zq100 ?_;refine R4 ?_;refine T6 rfl (fun hc => zG rfl Tryz.call142 (BJ5 _ qz8) (A2 (A9 rfl hc) B0)) ?_;refine R9 ?_;refine AC2 rfl rfl (Z4 rfl rfl rfl) (fun hc => Cl2 rfl (A9 rfl hc) (J1 (l := []) rfl)) ?_;refine zC ?_ ?_
  ·intro h33;have hn : Ac3 x = false := qz159;have he : AC4 l = false := (by unfold AC4; rw [hinv.2, hgs, hn]; rfl);rw [he];refine R5 ?_;exact D5 rfl (A8 rfl qz91)
  intro h33;have hy : Ac3 x = true := qz159;refine R5 ?_;refine A1 rfl (AN5 rfl I8 S2 zA zA qz3 qz3) ?_;refine R4 ?_;refine F8 [(0, _), (3, _), (4, _), (7, _), (8, _), (9, _), (10, _), (11, _), (12, _), (13, _), (14, _), (15, _), (16, _), (17, _), (18, _), (23, _), (24, _), (33, _), (34, _), (35, _), (36, _), (37, _)] _ (fun (j : Nat) => j ≤ (l.take i).length ∧ ((l.take i).any fun h => h.Key == x.Key) = (((l.take i).drop j).any fun h => h.Key == x.Key)) (fun j => []) (fun j => [(38, AV.int j)]) (fun j => (l.take i).length - j) (0) ?_ (K5 B8 A4) ?_
  ·exact zq8
  intro j hinv;refine zK ?_ ?_
  ·intro h39 k39;have hlt1 : j < (l.take i).length := by (simpa using h39)
   obtain ⟨z, hz⟩ := B3 hlt1;refine R5 ?_;refine A1 rfl (zX hz) ?_;refine R2 ?_;intro b6;refine zC ?_ ?_
   ·intro h46;have he : AC4 l = false := (by unfold AC4; rw [hi0, hgs, hinv.2, Cb5 hz, kcomm z.Key, h46, Bool.true_or, Bool.not_true, Bool.and_false]; rfl);rw [he];refine R5 ?_;exact D5 rfl (A8 rfl qz91)
   intro h46;refine R5 ?_;refine G5 j (j + 1) ?_ ?_ (Le.trans (B4 [0] rfl) (C7 1 B8 A4))
   ·exact ⟨by omega, by rw [hinv.2, Cb5 hz, kcomm z.Key, h46]; rfl⟩
   omega
  intro h39 k39;have hge1 : (l.take i).length ≤ j := by (simpa using h39)
  have hj3 : ((l.take i).any fun h => h.Key == x.Key) = false := (by rw [hinv.2, n5 hge1]; rfl);refine R5 ?_;refine G5 i (i + 1) ?_ ?_ (Le.trans (B4 [0] rfl) (C7 1 B8 A4))
  ·exact ⟨by omega, by rw [hi0, hgs, hy, hj3]; rfl⟩
  omega
 intro h10 k10;have hge : l.length ≤ i := by (simpa using h10)
 have hfin := hinv.2;rw [Cr6 hge] at hfin;refine R9 ?_;exact D5 rfl (A8 rfl qz91)
theorem BW3 (d : E0) (hs : d.size ≤ 1048576) : E1 33 [AV.agg d.cs] (AV.bool (Q7 d)) := by
  obtain ⟨hs1, hs2, hs3, hs4⟩ := Cb6 hs;refine B2 Tryz.func33 rfl Tryz.ntmps33 rfl ?_;refine R3 ?_;intro b1;refine R6 ?_;refine zF rfl Tryz.call78 (Cz7 _) I4 ?_;refine R3 ?_;refine zq156 ?_;refine R10 ?_;refine AC2 rfl rfl (BM6 rfl rfl rfl) (fun hc => BX2 rfl (A9 rfl hc) J4 (by have hc2 := hc; simp [within] at hc2; omega)) ?_;refine AC2 rfl rfl (BM6 rfl rfl rfl) (fun hc => zG rfl Tryz.call45 (Z2 _ _ _) zS) ?_;refine R20 ?_;refine J6 rfl (fun hc => zG rfl Tryz.call44 (Aq4 _) zS) ?_;refine R4 ?_;refine J6 rfl (fun hc => zG rfl Tryz.call79 (BW1 _ W5) (A2 (A9 rfl hc) B0)) ?_;refine R4 ?_;refine J6 rfl (fun hc => zG rfl Tryz.call80 (BS3 _ W5) (A2 (A9 rfl hc) B0)) ?_;refine R4 ?_;exact D5 rfl (A8 rfl (by exact E5 AV.bool (by unfold Q7; simp only [A7])))
theorem BO3 (d : E0) (hs : d.size ≤ 1048576) : E1 38 [AV.agg d.cs] (AV.bool (Q7 d)) := by
 obtain ⟨hs1, hs2, hs3, hs4⟩ := Cb6 hs;have hw : within d.End (d.Begin + 1) 1000000 = (decide (d.End > d.Begin) && decide (d.End ≤ 1000000)) := by unfold within; congr 1
 refine B2 Tryz.func38 rfl Tryz.ntmps38 rfl ?_;refine R3 ?_;intro b1;refine zC ?_ ?_
 ·intro h15;simp only [A7] at h15;have hq : (!d.Look || (d.Yes && ((d.Writes.length : Int) == 0))) = false := (by cases h1 : d.Look <;> cases h2 : d.Yes <;> simp_all <;> (first | omega | (intro e; rw [e] at h15; simp at h15)));have he : Q7 d = false := (by unfold Q7; simp only [hq, Bool.and_false, Bool.false_and]);rw [he];refine R5 ?_;exact D5 rfl (A8 rfl qz185)
 intro h15;simp only [A7] at h15;have hq : (!d.Look || (d.Yes && ((d.Writes.length : Int) == 0))) = true := (by cases h1 : d.Look <;> cases h2 : d.Yes <;> simp_all; try omega);refine R5 ?_;refine zF rfl Tryz.call71 (Q0 _ _ _) AR2 ?_;refine R3 ?_;refine zq38 ?_;refine R21 ?_;refine J6 rfl (fun hc => zG rfl Tryz.call70 (Ai5 _) zS) ?_;refine R4 ?_;refine J6 rfl (fun hc => zG rfl Tryz.call83 (BW2 _ W5) (A2 (A9 rfl hc) B0)) ?_;refine R4 ?_;refine J6 rfl (fun hc => zG rfl Tryz.call84 (Bi7 _ W5) (A2 (A9 rfl hc) B0)) ?_;refine R4 ?_;exact D5 rfl (A8 rfl qz185)
theorem DM9 (a b : E0) : E1 37 [AV.agg a.cs, AV.agg b.cs] (AV.bool (Go.M.ahead a b)) := by
  refine B2 Tryz.func37 rfl Tryz.ntmps37 rfl ?_;refine R3 ?_;intro b2;refine R1 ?_;intro b3;refine R17 ?_;exact zq5
end Go.PQ
namespace Go.PQ
open Go.Proofs Go.Proofs.Tryz
open Go Go.AV Go.M
attribute [local irreducible] OpW OpA OpS AWP K6 L8 K8 OpE K7 I7 L1 Le Ev G4 M7
theorem CU0 (d : E0) (hs : d.size ≤ 1048576) : E1 32 [AV.agg d.cs] (AV.bool (!Q7 d)) := by
  refine B2 func32 rfl ntmps32 rfl ?_;refine R3 ?_;intro b1;refine R5 ?_;refine zF rfl call33 (BW3 _ W5) (A2 (A0 rfl) B0) ?_;exact zq109
theorem Ag8 (h : List E0) (hs : ∀ d ∈ h, d.size ≤ 1048576) : E1 11 [AV.list 8 (h.map E0.cs)] (AV.bool (AG4 h)) := by
  refine B2 func11 rfl ntmps11 rfl ?_;refine R11 ?_;refine J6 rfl (fun hc => zG rfl call31 (BY6 h (fun d => d.size ≤ 1048576) (fun d => !Q7 d) hs) (A2 (A9 rfl hc) (A2 (BX3 call32 (fun d (p : d.size ≤ 1048576) => CU0 d p)) B0))) ?_;refine R5 ?_;exact D5 rfl (A8 rfl (by exact E5 AV.bool (by unfold AG4; rw [hist_all, Bool.not_not, A7])))
theorem Bp1 (h : List E0) (hs : ∀ d ∈ h, d.size ≤ 1048576) : E1 29 [AV.list 8 (h.map E0.cs)] (AV.bool (AG4 h)) := by
 refine B2 func29 rfl ntmps29 rfl ?_;refine m2 (t := 0) rfl fun hl => ?_;try simp only [A7] at hl
 refine R12 ?_;refine F8 [(0, _), (5, _), (6, _)] _ (fun (i : Nat) => i ≤ h.length ∧ h.all Q7 = (h.drop i).all Q7) (fun i => []) (fun i => [(7, AV.int i)]) (fun i => h.length - i) (0) ?_ (K5 B8 A4) ?_
 ·exact zq8
 intro i hinv;refine zK ?_ ?_
 ·intro h8 k8;have hlt : i < h.length := by (simpa using h8)
  obtain ⟨x, hx⟩ := B3 hlt;have hxs := hs x (C2 hx);refine zq0 ?_;intro b4;refine R5 ?_;refine zF rfl call38 (BO3 _ W5) (A2 (A0 rfl) B0) ?_;refine zC ?_ ?_
  ·intro h13;have he : AG4 h = false := (by unfold AG4; rw [hinv.2, Cb7 hx, show Q7 x = false by simpa using h13, Bool.false_and, Bool.and_false]);rw [he];refine R5 ?_;exact D5 rfl (A8 rfl qz205)
  intro h13;have hd1 : Q7 x = true := (by simpa using h13);refine R5 ?_;refine G5 i (i + 1) ?_ ?_ (Le.trans (B4 [0] rfl) (C7 1 B8 A4))
  ·exact ⟨by omega, by rw [hinv.2, Cb7 hx, hd1, Bool.true_and]⟩
  omega
 intro h8 k8;have hge : h.length ≤ i := by (simpa using h8)
 have hfin := hinv.2;rw [n5 hge] at hfin;refine R9 ?_;exact D5 rfl (A8 rfl qz205)
theorem Cf4 (a b : E0) (hE : -1 ≤ a.End) : E1 39 [AV.agg a.cs, AV.agg b.cs] (AV.bool (Go.M.ahead a b)) := by
  have he : (a.End != -1) = decide (a.End ≥ 0) := by rw [AW7, Ay7, H5]; omega
  refine B2 func39 rfl ntmps39 rfl ?_;refine R3 ?_;intro b2;refine R1 ?_;intro b3;refine R17 ?_;exact D5 rfl (A8 rfl (by exact E5 AV.bool (by unfold Go.M.ahead; rw [he])))
end Go.PQ
namespace Go.AV
open Go.RowKit (Below)
theorem denC_nil (R : H2) : n7 R [] [] := ⟨rfl, fun i v x h => by simp at h⟩
theorem Cb9 {R : H2} {v : Value} {x : AV} {vs : List Value} {xs : List AV} (h : x.den R v) (h1 : v.oneCell' = true) (t : n7 R vs xs) : n7 R (v :: vs) (x :: xs) := by
  refine ⟨by simp [t.1], fun i u y hu hy => ?_⟩
  cases i with
  | zero => simp at hu hy; subst hu; subst hy; exact ⟨h, h1⟩
  | succ i => exact t.2 i u y (by simpa using hu) BC9
def AM8 (s : List UInt8) : List (List AV) := s.map fun c => [AV.ik .u8 c.toNat]
theorem BK0 (s : List UInt8) : (AM8 s).length = s.length := A7 ..
theorem DN0 (s t : List UInt8) : AM8 (s ++ t) = AM8 s ++ AM8 t := X8 ..
theorem By1 (s : List UInt8) : (AM8 s).flatten = s.map fun c => AV.ik .u8 c.toNat := by
  unfold AM8;induction s with
  | nil => rfl
  | cons x l ih => simp [ih]
theorem DN1 {R : H2} (s : List UInt8) : n7 R (s.map fun c => Value.int .u8 c.toNat) (AM8 s).flatten := by
  rw [By1];refine ⟨by simp, fun i v x hv hx => ?_⟩;rw [Z5] at hv hx
  cases hs : s[i]? with
  | none => rw [hs] at hv; cases hv
  | some c =>
    rw [hs] at hv hx;injection hv with hv; injection hx with hx
    subst hv; subst hx;exact ⟨rfl, rfl⟩
theorem Cf5 {R : H2} {vs : List Value} {s : List UInt8} (h : n7 R vs (AM8 s).flatten) : vs = s.map fun c => Value.int .u8 c.toNat := by
  rw [By1] at h;refine List.ext_getElem? fun i => ?_;have hl := h.1;rw [A7] at hl;by_cases hi : i < s.length
  · obtain ⟨v, hv⟩ : ∃ v, vs[i]? = some v := ⟨_, P2 qz8⟩
    have hk := (h.2 i v (AV.ik .u8 s[i].toNat) hv (by rw [Z5, P2 hi]; rfl)).1;rw [hv, Z5, P2 hi, show v = Value.int .u8 s[i].toNat from hk]; rfl
  · rw [AT6 qz8, AT6 CE3]
section
variable {P : Program} {G : Nat → Prop} {n : Nat} {own : List Own} {o : Oper}
theorem CU1 {w : World} (t u ty e : TypeId) (i : TypeInfo) (ht : P.underlying t = some (.slice e)) (hu : P.underlying u = some .string) (hi : P.info? e = some i) (hz : i.zero = some (.int .u8 0)) (hsize : i.size = 1) (hby : i.bytes = 1)
    (v : Value) (m : Nat) (xs : List Value) (hown : w.ownsRow 0 e 1 v m xs) (s : ByteArray) (hb : m + s.size ≤ 140737488355328) :
    ∃ v' w', (Builtin.append_ #[t, u] ty #[v, .string s]).run P w = .ok v' w' ∧ w'.ownsRow 0 e 1 v' (m + s.size) (xs ++ Lib.strCells s) ∧ w.grownBy w' v.ownBlock ∧ (v'.ownBlock = v.ownBlock ∨ v'.ownBlock = some w.heap.size) := by
  obtain ⟨v', w', h1, h2, h3, h4⟩ := Lib.run_append_own_string (P := P) w 0 t u ty e i ht hu hi hz hsize hby v m xs hown s (by unfold maxLen; omega) hb (E2 _);refine ⟨v', w', h1, h2, h3, ?_⟩;have hxl : xs.length = m := by simpa using hown.1
  rcases hown.2 with ⟨hv, hm⟩ | ⟨g, cap, cur, hv, hbg, hg, hnc, hcm, hcs, htake⟩
  · subst hv; subst hm
    by_cases hs : s.size = 0
    · exact .inl (by rw [h4.2 ⟨rfl, hs⟩])
    · have hr := run_append_nil_string (P := P) w t u ty e i (.int .u8 0) ht hu hi hz s qz8 qz8 (by rw [hby]; omega)
      rw [hr] at h1; injection h1 with h1 _; subst h1
      exact .inr rfl
  · subst hv
    have hcs' : cur.size = cap := by simpa using hcs
    by_cases hroom : m + s.size ≤ cap
    · have hr := Lib.run_append_room_string (P := P) w t u ty e i ht hu hi hsize g m cap cur hg s hroom qz8
      rw [hr] at h1; injection h1 with h1 _; subst h1
      exact .inl rfl
    · have hr := Lib.run_append_grow_string (P := P) w t u ty e i (.int .u8 0) ht hu hi hz ⟨g, 0, none⟩ m cap xs (by rw [hsize]; simpa using hxl) (hown.cells (g := g) rfl) s qz8 qz8 (by rw [hby]; exact growslice_fits qz8 qz8)
      rw [hr] at h1; injection h1 with h1 _; subst h1
      exact .inr rfl
theorem DN2 {ops : Array Oper} {rest : List Oper} {env : List (Nat × AV)} {K : H6 → Prop} {t u e : TypeId} {p q : Operand} {d : Nat} {inf : TypeInfo} {v : Value} {s b : List UInt8} (i : Nat) (hg : o.guard = none) (ho : o.op = .call { callee := .builtin .append, args := #[p, q], argTypes := #[t, u] }) (hd : o.dst = some d) (hn : Nat.blt d n = true)
    (ht : P.underlying t = some (.slice e)) (hu : P.underlying u = some .string) (hinf : P.info? e = some inf) (hz : inf.zero = some (.int .u8 0)) (hsz : inf.size = 1) (hby : inf.bytes = 1) (hp : Ev (M8 · env) p (AV.is v)) (hq : Ev (M8 · env) q (AV.str s)) (hi : own[i]? = some (.arr v e 1 (AM8 b)))
    (hlen : b.length + s.length ≤ 140737488355328) (k : ∀ v', Q5 P G n ops rest ⟨own.set i (.arr v' e 1 (AM8 (b ++ s))), (d, AV.is v') :: env⟩ K) : Q5 P G n ops (o :: rest) ⟨own, env⟩ K :=
  AE8 hg fun w0 R0 R a w ⟨h1, h2, h3, h4⟩ => by
    have e1 : a.eval p = v := AR3 (s := ⟨own, env⟩) (o := o) hp h2;have e2 : a.eval q = .string ⟨s.toArray⟩ := AR3 (s := ⟨own, env⟩) (o := o) hq h2;obtain ⟨hR, hue, xs, hown, hdc⟩ := h1.owned _ (C2 hi);have hsc : Lib.strCells ⟨s.toArray⟩ = s.map fun c => Value.int .u8 c.toNat := by simp [Lib.strCells]
    have hss : (⟨s.toArray⟩ : ByteArray).size = s.length := by simp [ByteArray.size]
    obtain ⟨v', w', hr, hown', hgr, hblk⟩ := CU1 (P := P) (w := w) t u o.type e inf ht hu hinf hz hsz hby v _ xs hown ⟨s.toArray⟩ (by rw [hss, BK0]; exact hlen);have hex : (execOp a.eval o).run P w = .ok (.value v') w' := by
      simp only [execOp, ho, resolve, invoke, builtin, Sem.run_bind, Sem.run_pure, Result.andThen_ok, AP8, j4, List.map_nil, e1, e2, hr]
    unfold Oper.wp;rw [hex, Oper.upon_value, hd];refine ⟨_, R, k v', L6.refl _, Bl1 h1 hi (fun b hb => ?_) ⟨fun b hb => ?_, fun x hx => ?_, xs ++ (s.map fun c => Value.int .u8 c.toNat), ?_, ?_⟩ hgr, AD5 h2 (L6.refl _) At2 rfl, by rw [size_put]; exact h3, by rw [Y5]; exact h4⟩
    · simp only [Own.blk] at hb ⊢
      rcases hblk with h | h
      · exact .inl (by rw [← h]; exact hb)
      · rw [hb] at h; injection h with h; exact .inr h
    · rcases hblk with h | h
      · exact hR b (by rw [← h]; exact hb)
      · rw [hb] at h; injection h with h; subst h; exact Bc7 h1.rle
    · unfold AM8 at hx
      obtain ⟨c, _, rfl⟩ := m1.1 hx; rfl
    · rw [BK0, G3]
      rw [hsc, hss, BK0] at hown';exact hown'
    · rw [DN0, Ah3]; exact Ac6 hdc (DN1 s)
theorem Cr9 {R : H2} {w : World} {ow : List Own} (hr : RLe R w) (ho : ∀ o ∈ ow, Own.ok R w o) (hs : (ow.filterMap Own.blk).Nodup) : U0 (AV4 ow) w R ow R w :=
  ⟨rfl, rfl, rfl, N2 _, fun _ _ _ => rfl, hr, fun _ _ => rfl, ho, fun q hq b e => .inr ⟨q, hq, e⟩, hs⟩
end
end Go.AV
namespace Go.Proofs
open Go.Shelf Go.RowKit
variable {P : Program} {ρ : Ren}
set_option maxHeartbeats 1000000 in
set_option maxRecDepth 100000 in
theorem Cf6 (L : Lays.n169 P ρ) (X : Builder.Extra P ρ) (b g cap : Nat) (p : Value) (l : List UInt8) (cur : Array Value) (w : World) (hl : l.length ≠ 0) (hbk : w.heap[b]? = some (.cells #[p, .slice (some ⟨g, 0, none⟩) l.length cap] (ρ.t 72) (0, 0)))
    (hg : w.heap[g]? = some (.cells cur (ρ.t 5) (0, 0))) (hnc : l.length ≤ cap) (hcm : cap ≤ maxLen) (hcs : cur.size = cap) (hc : ∀ (j : Nat) (x : UInt8), l[j]? = some x → w.cell? ⟨g, j, none⟩ = some (.int .u8 x.toNat)) :
    Calls P (ρ.f 169) #[.pointer (some ⟨b, 0, none⟩)] w fun e w' => e = .returned (.string ⟨l.toArray⟩) ∧ w' = w.drew.freeze ⟨g, 0, none⟩ l.length := by
  have h0 : l ≠ [] := fun e => hl (by rw [e]; rfl);have c1 : w.drew.cell? ⟨b, 1, none⟩ = some (.slice (some ⟨g, 0, none⟩) l.length cap) := by
    have : w.drew.heap[b]? = some (.cells #[p, .slice (some ⟨g, 0, none⟩) l.length cap] (ρ.t 72) (0, 0)) := hbk;rw [Lib.cell_of_heap this]; rfl
  have hSD : (Builtin.unsafeSliceData_ #[(ρ.t 37)] (ρ.t 127) #[.slice (some ⟨g, 0, none⟩) l.length cap]).run P w.drew = .ok (.pointer (some ⟨g, 0, none⟩)) w.drew :=
    Lib.run_unsafeSliceData_row _ _ _ _ _ _ qz8
  have hUS : (Builtin.unsafeString_ #[(ρ.t 127), (ρ.t 3)] (ρ.t 9) #[.pointer (some ⟨g, 0, none⟩), .int .i64 l.length]).run P w.drew = .ok (.string ⟨l.toArray⟩) (w.drew.freeze ⟨g, 0, none⟩ l.length) := by
    refine Lib.run_unsafeString_row w.drew (ρ.t 127) (ρ.t 3) (ρ.t 9) (ρ.t 5) L.t127 X.cellsByte g cur.size (by have hg' : w.drew.heap[g]? = some (.cells cur (ρ.t 5) (0, 0)) := hg; simp [World.shape?, hg']) l h0 qz8 (by unfold maxLen at hcm; omega) ?_;intro j x hx;have h9 : w.drew.cell? ⟨g, j, none⟩ = some (.int .u8 x.toNat) := hc j x hx;unfold Addr.add;by_cases hj : j = 0
    · subst hj; exact h9
    · rw [C5 hj]; simpa using h9
  have mixed := L.mixed;have t72 := L.t72; have a72 := L.a72; have z72 := L.z72; have v72 := L.v72; have u72 := run_underlying L.t72;have t70 := L.t70; have a70 := L.a70; have z70 := L.z70; have v70 := L.v70; have u70 := run_underlying L.t70;have t37 := L.t37; have a37 := L.a37; have z37 := L.z37; have v37 := L.v37; have u37 := run_underlying L.t37;have t127 := L.t127; have a127 := L.a127; have z127 := L.z127; have v127 := L.v127; have u127 := run_underlying L.t127;have t3 := L.t3; have a3 := L.a3; have z3 := L.z3; have v3 := L.v3; have u3 := run_underlying L.t3;have t9 := L.t9; have a9 := L.a9; have z9 := L.z9; have v9 := L.v9; have u9 := run_underlying L.t9;have t5 := X.t5; have a5 := X.a5; have z5 := X.z5; have v5 := X.v5; have u5 := run_underlying X.t5
  go_enter L.f169, Body.n169_ntmps ρ
  go_wp2
  go_region_o
  all_goals (go_wp2; go_ret; exact ⟨rfl, rfl⟩)
end Go.Proofs
namespace Go.Proofs
open Go.Shelf
def Tryz.bstr_ren : Go.Shelf.Ren := ⟨fun | 169 => 76 | n => n, fun | 70 => 126 | 9 => 9 | 0 => 0 | 72 => 128 | 37 => 22 | 127 => 171 | 3 => 3 | 5 => 5 | n => n, fun | n => n⟩
theorem Tryz.bstr : Go.Proofs.Lays.n169 Tryz.prog Tryz.bstr_ren := by
  repeat' first | kernel_rfl | (intro w; kernel_rfl) | constructor
end Go.Proofs
namespace Go.PQ
open Go.Proofs Go.Proofs.Tryz
open Go Go.Proofs Go.RowKit Go.Shelf Go.AV Go.M
attribute [local go_sem] Oper.semAt_some
set_option maxHeartbeats 1000000 in
theorem Cz8 (b : Nat) (w : World) (h0 : w.cell? ⟨b, 0, none⟩ = some (.pointer none)) (hsh : w.shape? b = some (128, 2)) (hfz : w.frozen? ⟨b, 0, none⟩ = false) :
    Calls Tryz.prog 128 #[.pointer (some ⟨b, 0, none⟩)] w fun e w' => e = .returned (.tuple #[]) ∧ w' = w.setCell ⟨b, 0, none⟩ (.pointer (some ⟨b, 0, none⟩)) := by
  obtain ⟨j, hj, hjs⟩ := Option.map_eq_some_iff.1 (show (Tryz.prog.info? 128).map (·.size) = some 2 by kernel_rfl)
  go_enter func128, ntmps128
  go_wp2
  rw [Lib.run_to_unsafe w ⟨b, 0, none⟩ underlying126 underlying213 hj (by rw [hjs]; decide) hsh (Nat.zero_lt_succ 1)];simp only [Result.andThen];rw [Oper.upon_value]
  go_wp2
  rw [run_callFunc_extern func173 E6 E6 E6 (e := Extern.AbiNoEscape.same) E6];rw [Lib.run_noEscape];simp only [Result.andThen];rw [Oper.upon_value]
  go_wp2
  rw [Lib.run_from_unsafe w ⟨b, 0, none⟩ underlying213 underlying126 hj hsh E6];simp only [Result.andThen];rw [Oper.upon_value]
  go_wp2
  go_end0
  exact ⟨rfl, rfl⟩
theorem DN3 (b : Nat) (w : World) (h0 : w.cell? ⟨b, 0, none⟩ = some (.pointer (some ⟨b, 0, none⟩))) :
    Calls Tryz.prog 128 #[.pointer (some ⟨b, 0, none⟩)] w fun e w' => e = .returned (.tuple #[]) ∧ w' = w := by
  obtain ⟨j, hj, hjs⟩ := Option.map_eq_some_iff.1 (show (Tryz.prog.info? 128).map (·.size) = some 2 by kernel_rfl)
  go_enter func128, ntmps128
  go_wp2
  rw [Lib.run_neq_ptr_same w _ underlying126 hj]
  go_wp2
  go_end0
  exact ⟨rfl, rfl⟩
attribute [local irreducible] OpW OpA OpS AWP K6 L8 K8 OpE K7 I7 L1 Le Ev G4 M7 Int.tmod Int.tdiv IntKind.wrap
theorem bstrX : Builder.Extra Tryz.prog Tryz.bstr_ren where
  sizeBuilder := by kernel_rfl
  liesBuilder := by kernel_rfl
  t5 := AR5
  a5 := isAgg5
  z5 := sizeOf5
  v5 := zeroValue5
  infoByte := by kernel_rfl
  cellsByte := by kernel_rfl
  sizeByte := by kernel_rfl
  neB5 := by decide
def BHead (b : Nat) (p : Value) : Prop := p = .pointer none ∨ p = .pointer (some ⟨b, 0, none⟩)
theorem Cf7 (b : Nat) (p : Value) (hp : BHead b p) (v : Value) (es : List (List AV)) : L7 128 [AV.ptr b 0] [.box b 128 [AV.is p, AV.is v], .arr v 5 1 es] (fun _ : Value => True) (fun v' => [.box b 128 [AV.ptr b 0, AV.is v'], .arr v' 5 1 es]) (fun _ => AV.tup []) := by
  unfold L7 K8;intro R w vs hr hd hok hnd
  match vs, hd.1 with
  | [u], _ =>
    rw [show u = Value.pointer (some ⟨b, 0, none⟩) from hd.2 0 u _ rfl rfl];have hc := Cr9 hr hok hnd;obtain ⟨hR, us, hbk, hdc⟩ := hok _ a8
    match us, hdc.1 with
    | [q, y], _ =>
      have hq : q = p := (hdc.2 0 q _ rfl rfl).1;have hy := hdc.2 1 y (AV.is v) rfl rfl;subst hq;have hden : i4 R [] [] := i4.nil R;rcases hp with hp | hp
      · subst hp
        have c0 : w.cell? ⟨b, 0, none⟩ = some (.pointer none) := by rw [Lib.cell_of_heap hbk]; rfl
        refine (Cz8 b w c0 (by simp [World.shape?, hbk]) (Lib.frozen_of_heap hbk 0)).mono fun e w' ⟨he, hw⟩ => ?_;subst hw;have hbk2 : (w.setCell ⟨b, 0, none⟩ (.pointer (some ⟨b, 0, none⟩))).heap[b]? = some (.cells #[.pointer (some ⟨b, 0, none⟩), y] 128 (0, 0)) := by
          simp [World.setCell, Array.getElem?_modify, hbk]
        refine ⟨v, _, R, trivial, he, ⟨[], rfl, hden⟩, Af7 hc (i := 0) rfl rfl rfl ⟨hR, [.pointer (some ⟨b, 0, none⟩), y], hbk2, Cb9 rfl rfl (Cb9 hy.1 hy.2 (denC_nil R))⟩ ⟨rfl, rfl, rfl, by simp [World.setCell], fun j hj hne => ?_⟩⟩;simp only [World.setCell, Array.getElem?_modify];rw [C5 fun e => hne (by rw [e])]
      · subst hp
        have c0 : w.cell? ⟨b, 0, none⟩ = some (.pointer (some ⟨b, 0, none⟩)) := by rw [Lib.cell_of_heap hbk]; rfl
        refine (DN3 b w c0).mono fun e w' ⟨he, hw⟩ => ?_;subst hw;exact ⟨v, _, R, trivial, he, ⟨[], rfl, hden⟩, hc⟩
theorem Bp2 (b : Nat) (p : Value) (hp : BHead b p) (v : Value) (l s : Str) (hl : l.length + s.length ≤ 140737488355328) : L7 75 [AV.ptr b 0, AV.str s] [.box b 128 [AV.is p, AV.is v], .arr v 5 1 (AM8 l)] (fun _ : Value => True) (fun v' => [.box b 128 [AV.ptr b 0, AV.is v'], .arr v' 5 1 (AM8 (l ++ s))]) (fun _ => AV.tup [AV.int s.length, AV.is .nilIface]) := by
  refine C6 func75 rfl ntmps75 rfl ?_;refine R3 ?_;refine A1 rfl (E3 rfl Ck7) ?_;refine R4 ?_;refine zI [0, 0] rfl call128 (Cf7 b p hp v (AM8 l)) I4 rfl ?_;intro x7 ok7;refine R9 ?_;refine DN2 1 rfl rfl rfl rfl AF9 O3 type5 rfl rfl rfl zA zA rfl qz3 ?_;intro v14_1;refine R2 ?_;refine O4 1 rfl fun one_v14_1 => ?_;refine M4 0 rfl rfl rfl zA zA (L2 one_v14_1) rfl sizeOf22 rfl ?_;refine R6 ?_;refine A1 rfl (E3 rfl Ck7) ?_;refine R2 ?_;exact I5 [0, 0] v14_1 (trivial) rfl B8 AL5
theorem DN4 (b : Nat) (p v : Value) (l : Str) (hl : l.length ≠ 0) : L7 76 [AV.ptr b 0] [.box b 128 [AV.is p, AV.is v], .arr v 5 1 (AM8 l)] (fun _ : Unit => True) (fun _ => [.box b 128 [AV.is p, AV.is v]]) (fun _ => AV.str l) := by
  unfold L7 K8;intro R w vs hr hd hok hnd
  match vs, hd.1 with
  | [u], _ =>
    rw [show u = Value.pointer (some ⟨b, 0, none⟩) from hd.2 0 u _ rfl rfl];have hc := Cr9 hr hok hnd;obtain ⟨hR, us, hbk, hdc⟩ := hok _ a8;obtain ⟨hR2, hue, xs, hown, hdx⟩ := hok _ (S7 _ a8);rw [BK0] at hown
    match us, hdc.1 with
    | [q, y], _ =>
      have hq : q = p := (hdc.2 0 q _ rfl rfl).1;have hy : y = v := (hdc.2 1 y _ rfl rfl).1;subst hq; subst hy;obtain ⟨g, cap, cur, rfl, hbg, hg, hnc, hcm, hcs, htake⟩ : ∃ g cap cur, y = .slice (some ⟨g, 0, none⟩) l.length cap ∧ 0 ≤ g ∧ w.heap[g]? = some (.cells cur 5 (0, 0)) ∧ l.length ≤ cap ∧ cap ≤ maxLen ∧ cur.size = cap * 1 ∧ cur.toList.take (l.length * 1) = xs := by
        rcases hown.2 with ⟨_, hz⟩ | ⟨g, cap, cur, hv, r⟩
        · exact absurd hz hl
        · exact ⟨g, cap, cur, hv, r⟩
      have hxs := Cf5 hdx;have hgb : g ≠ b := fun e => by
        subst e;rw [hbk] at hg; injection hg with hg; injection hg with _ h2 _; revert h2; decide
      refine (Cf6 Tryz.bstr bstrX b g cap q l cur w hl hbk hg hnc hcm (by simpa using hcs) fun j x hx => by
        have h9 := hown.cells (g := g) rfl j (.int .u8 x.toNat) (by rw [hxs, Z5, hx]; rfl);unfold Addr.add at h9;by_cases hj : j = 0
        · subst hj; exact h9
        · rw [C5 hj] at h9; simpa using h9).mono fun e w' ⟨he, hw⟩ => ?_
      subst hw;have hoth : ∀ k, k ≠ g → (w.drew.freeze ⟨g, 0, none⟩ l.length).heap[k]? = w.heap[k]? := fun k hk => by
        unfold World.freeze;rw [C5 hl];simp only [Array.getElem?_modify];rw [C5 fun e => hk e.symm]; rfl
      have hRg : R g = none := hR2 g rfl;have hfo : (w.drew.freeze ⟨g, 0, none⟩ l.length).os = w.os ∧ (w.drew.freeze ⟨g, 0, none⟩ l.length).tape = w.tape ∧ (w.drew.freeze ⟨g, 0, none⟩ l.length).output = w.output := by
        unfold World.freeze;rw [C5 hl];exact ⟨rfl, rfl, rfl⟩
      refine ⟨(), _, R, trivial, he, rfl, ⟨hfo.1, hfo.2.1, hfo.2.2, ?_, fun k hk hG => hoth k fun e => hG ⟨_, S7 _ a8, by rw [e]; rfl⟩, fun k o e => ?_, fun _ _ => rfl, fun o ho => ?_, fun o ho k e => .inr ⟨o, ?_, e⟩, ?_⟩⟩
      · unfold World.freeze; rw [C5 hl]; simp
      · rw [hoth k fun e2 => by rw [e2, hRg] at e; cases e]; exact hr k o e
      · rw [X9.1 ho]
        exact ⟨hR, _, (hoth b fun e => hgb e.symm).trans hbk, hdc⟩
      · rw [X9.1 ho]; exact a8
      · simp [Own.blk]
end Go.PQ
namespace Go.Proofs
open Go.Shelf
def Tryz.itoa_ren : Go.Shelf.Ren := ⟨fun | 171 => 62 | 243 => 115 | 246 => 160 | 283 => 196 | 284 => 197 | 285 => 198 | 286 => 199 | 129 => 228 | 317 => 227 | 318 => 229 | 319 => 230 | 320 => 231 | 337 => 266 | 338 => 267 | n => n, fun | 3 => 3 | 9 => 9 | 2 => 2 | 4 => 4 | 171 => 235 | 0 => 0 | 53 => 84 | 37 => 22 | 5 => 5 | 173 => 238 | 212 => 266 | 51 => 267 | 20 => 20 | 213 => 268 | 46 => 199 | 232 => 340 | 233 => 341 | n => n, fun | 17 => 0 | 18 => 3 | 19 => 4 | n => n⟩
theorem Tryz.itoa : Go.Proofs.LaysM.n171 Tryz.prog Tryz.itoa_ren := by
  repeat' first | kernel_rfl | (intro w; kernel_rfl) | constructor
end Go.Proofs
namespace Go.PQ
open Go.Proofs Go.Proofs.Tryz
open Go Go.AV Go.M
attribute [local irreducible] OpW OpA OpS AWP K6 L8 K8 OpE K7 I7 L1 Le Ev G4 M7 Int.tmod Int.tdiv IntKind.wrap
def BH8 (w : World) : Prop := Lib.TabIs Tryz.prog w "internal/strconv.uint64pow10" .u64 Lib.pow10Tab
theorem DX8 {W w' : World} (h : BH8 W) (hw : RLe (Ay9 W) w') : BH8 w' := DI0 h hw
theorem DX9 {W : World} {rest : List (String × DataW Unit)} (h : laidMet Tryz.prog (("internal/strconv.uint64pow10", Lib.tabData .u64 Lib.pow10Tab) :: rest) W) : BH8 W :=
  Lib.tabIs_of_head (g := 0) (t := 266) E6 E6 underlying266 underlying84 E6 E6 h
theorem Av5 (n : Int) (h : -9223372036854775808 ≤ n ∧ n ≤ 9223372036854775807) : E1 62 [AV.wt BH8 (AV.int n)] (AV.str (Z6 n)) :=
  Cm3 fun R w v hr hv hT => by
    rw [show v = Value.int .i64 n from hv];refine (Any.strconv_Itoa Tryz.itoa n h.1 h.2 w hT).mono ?_
    rintro e w' ⟨rfl, k, os, rfl⟩
    exact ⟨_, rfl, rfl, Cx3 w k os⟩
theorem Bg1 (n : Nat) : n ≤ 1000000000000 → E1 35 [AV.int n] (AV.str (AE3 n)) := by
 induction n using Nat.strongRecOn with
 | ind n ih =>
  intro hn;refine B2 func35 rfl ntmps35 rfl ?_;refine zq149 ?_;refine zK ?_ ?_
  ·intro h4 k4;have hn10 : n < 10 := by omega
   refine R4 ?_;refine A1 rfl (Ap9 rfl E6 AR5 zA) ?_;rw [dig1];refine R1 ?_;refine A1 rfl (DE4 (bs := [UInt8.ofNat (48 + n)]) rfl AF9 AR5 O3 zA) ?_;refine R3 ?_;exact D5 rfl (A8 rfl qz192)
  intro h4 k4;have hn10 : ¬ n < 10 := by omega
  have hdl := At8 (k := 12) (n := n / 10) qz8 D4;refine R4 ?_;refine B7 rfl rfl (w_quo rfl zA J4 D4) ?_;rw [quo10 hn];refine B7 rfl rfl (zG rfl call35 (ih (n / 10) qz8 qz8) I4) ?_;refine R1 ?_;refine B7 rfl rfl (Bc3 rfl zA J4 D4) ?_;refine B7 rfl rfl (BX2 rfl J4 zA (by rw [tmod10T]; omega)) ?_;refine B7 rfl rfl (Ap9 rfl E6 AR5 zA) ?_;rw [dig2];refine R1 ?_;refine B7 rfl rfl (DE4 (bs := [UInt8.ofNat (48 + n % 10)]) rfl AF9 AR5 O3 zA) ?_;refine zq73 ?_;refine R3 ?_;exact D5 rfl (A8 rfl qz192)
end Go.PQ
namespace Go.AV
open Go.RowKit (Below)
section
variable {P : Program} {G : Nat → Prop} {n : Nat} {own : List Own}
def RsInv (G : Nat → Prop) (n : Nat) (w0 : World) (R0 R : H2) (own : List Own) (s : List UInt8) (I : Nat → Nat → List (Nat × AV)) (r k : Nat) (a : Act) (w : World) : Prop :=
  ∃ R', U0 G w0 R0 own R' w ∧ L6 R R' ∧ AW8 (M8 · (I r k)) R' a ∧ a.tmps.size = n ∧ a.defers = [] ∧ w.heap[r]? = some (.stringIter ⟨s.toArray⟩ k) ∧ w0.heap.size ≤ r ∧ R' r = none ∧ (∀ o ∈ own, Own.blk o ≠ some r) ∧ k ≤ s.length
theorem BS5 {d : Nat} {x : AV} {l : List (Nat × AV)} : M8 d ((d, x) :: l) = some x := by unfold M8; rw [Nat.beq_refl]; rfl
theorem bytes_at {s : List UInt8} {k : Nat} (h : k < (ByteArray.mk s.toArray).size) : (ByteArray.mk s.toArray)[k]'h = s[k]'(by simpa [ByteArray.size] using h) := by
  show s.toArray[k] = _
  simp
theorem Cz9 {i1 i2 b d1 it nx m : Nat} {o1 o2 o3 o4 : Oper} {bd : Code} {Q : Exit → H6 → Prop} {env : List (Nat × AV)} {s : List UInt8} {t : TypeId} {q : Operand} (I : Nat → Nat → List (Nat × AV))
  (g1 : o1.guard = none) (g2 : o2.guard = none) (g3 : o3.guard = none) (g4 : o4.guard = none) (h1 : o1.op = .move q) (e1 : o1.dst = some d1) (h2 : o2.op = .range t (.tmp d1)) (e2 : o2.dst = some it) (ht : P.underlying t = some .string)
  (h3 : o3.op = .next (.tmp it) true) (e3 : o3.dst = some nx) (h4 : o4.op = .extract (.tmp nx) 0) (e4 : o4.dst = some m) (n1 : Nat.blt d1 n = true) (n2 : Nat.blt it n = true) (n3 : Nat.blt nx n = true) (n4 : Nat.blt m n = true)
  (hq : Ev (M8 · env) q (AV.str s)) (ha : ∀ c ∈ s, c.toNat < 128) (hi : ∀ r, AW9 ((it, AV.ptr r 0) :: (d1, AV.str s) :: env) (I r 0)) (hit : ∀ r k, M8 it (I r k) = some (AV.ptr r 0))
  (hb : ∀ r k, k < s.length → AWP P (fun _ => False) n bd (fun e s' => e = .normal ∧ AW9 s'.env (I r (k + 1))) ⟨[], (m, AV.bool true) :: (nx, AV.tup [AV.bool true, AV.int k, AV.any]) :: I r k⟩)
  (hQ : ∀ r, Q .normal ⟨own, (m, AV.bool false) :: (nx, AV.any) :: I r s.length⟩) :
  AWP P G n (.seq (.region i1 [o1, o2].toArray false) (.block b (.loop (.seq (.region i2 [o3, o4].toArray false) (.seq (.cond (.tmp m) .skip (.exit b)) bd))))) Q ⟨own, env⟩ := fun w0 R0 R a w ⟨hc, he, hn, hd⟩ => by
 have hv : a.eval q = .string ⟨s.toArray⟩ := hq R a fun t _ y hy => he t y hy;have hsz : (ByteArray.mk s.toArray).size = s.length := by simp [ByteArray.size]
 refine wp_seq (wp_region_lit (wpList_plain g1 fun K hK => ?_));have r1 : (execOp a.eval o1).run P w = .ok (.value (.string ⟨s.toArray⟩)) w := by simp [execOp, h1, hv]
 unfold Oper.wp;rw [r1, Oper.upon_value, e1];have he1 := AD5 (d := d1) (x := AV.str s) (v := .string ⟨s.toArray⟩) he (L6.refl _) (by rw [hn]; exact Nat.blt_eq.mp n1) rfl;refine hK _ _ (wpList_plain g2 fun K2 hK2 => ?_);have hv1 : (a.put (some d1) (.string ⟨s.toArray⟩)).eval (.tmp d1) = .string ⟨s.toArray⟩ := he1 d1 (AV.str s) BS5;have r2 : (execOp (a.put (some d1) (.string ⟨s.toArray⟩)).eval o2).run P w = .ok (.value (.pointer (some ⟨w.heap.size, 0, none⟩))) (w.iter ⟨s.toArray⟩ 0) := by
  simp only [execOp, h2, hv1];simp [run_range_string w t ⟨s.toArray⟩ ht]
 unfold Oper.wp;rw [r2, Oper.upon_value, e2];have hx := World.iter_extends w ⟨s.toArray⟩ 0;have hcI : U0 G w0 R0 own R (w.iter ⟨s.toArray⟩ 0) := ⟨hx.os.trans hc.os, hx.tape.trans hc.tape, hx.output.trans hc.output, L4 hc.size hx.size, fun k hk hG => (hx.block k (Nat.lt_of_lt_of_le hk hc.size)).trans (hc.block k hk hG), fun k o e => by
   have := hc.rle k o e;exact (hx.block k (AZ8.1 this).1).trans this, hc.rold, fun o ho => Own.ok_keep (hc.owned o ho) (L6.refl _) fun k hk => by
   obtain ⟨k1, k2⟩ := Own.ok_blk (hc.owned o ho) hk;exact ⟨hx.block k k2, k1⟩, hc.fresh, hc.sep⟩
 have he2 := AD5 (d := it) (x := AV.ptr w.heap.size 0) (v := .pointer (some ⟨w.heap.size, 0, none⟩)) he1 (L6.refl _) (by rw [size_put, hn]; exact Nat.blt_eq.mp n2) rfl;refine hK2 _ _ ?_;show wpList _ _ _ [] _ _
 refine wpList_nil ?_;refine wp_block (Bv7 (RsInv G n w0 R0 R own s I w.heap.size) (fun k => s.length - k) 0 ⟨R, hcI, L6.refl _, fun t x e => he2 t x ((hi w.heap.size).get t x e), by rw [size_put, size_put]; exact hn, by rw [Y5, Y5]; exact hd, World.iter_heap w _ 0, hc.size, ?_, fun o ho e => ?_, E2 _⟩ ?_)
 ·cases hr : R w.heap.size with
  | none => rfl
  | some o => have := (AZ8.1 (hc.rle _ _ hr)).1; omega
 ·have := (Own.ok_blk (hc.owned o ho) e).2; omega
 intro k a1 w1 ⟨R1, c1, s1, v1, z1, d1', i1', l1, q1, ow1, k1⟩;refine wp_seq (wp_region_lit (wpList_plain g3 fun K hK => ?_));have hp : a1.eval (.tmp it) = .pointer (some ⟨w.heap.size, 0, none⟩) := v1 it _ (hit _ k);unfold Oper.wp;by_cases hk : k < s.length
 ·have hk' : k < (ByteArray.mk s.toArray).size := by rw [hsz]; exact hk
  have hlow : ((ByteArray.mk s.toArray)[k]'hk').toNat < 128 := by rw [bytes_at]; exact ha _ (List.getElem_mem _)
  have r3 : (execOp a1.eval o3).run P w1 = .ok (.value (.tuple #[.bool true, .int .i64 k, .int .i32 ((ByteArray.mk s.toArray)[k]'hk').toNat])) (w1.iterAt w.heap.size ⟨s.toArray⟩ (k + 1)) := by
   simp only [execOp, h3, hp];simp [Lib.run_next_ascii_at w1 w.heap.size ⟨s.toArray⟩ k o3.type i1' hk' hlow]
  rw [r3, Oper.upon_value, e3];have hi2 : (w1.iterAt w.heap.size ⟨s.toArray⟩ (k + 1)).heap[w.heap.size]? = some (.stringIter ⟨s.toArray⟩ (k + 1)) := Lib.iterAt_heap w1 w.heap.size ⟨s.toArray⟩ k (k + 1) i1';have hoth : ∀ j, j ≠ w.heap.size → (w1.iterAt w.heap.size ⟨s.toArray⟩ (k + 1)).heap[j]? = w1.heap[j]? := fun j hj => by
   unfold World.iterAt;simp only;rw [Array.getElem?_setIfInBounds_ne (fun e => hj e.symm)]
  have hsize : (w1.iterAt w.heap.size ⟨s.toArray⟩ (k + 1)).heap.size = w1.heap.size := by unfold World.iterAt; simp
  have c2 : U0 G w0 R0 own R1 (w1.iterAt w.heap.size ⟨s.toArray⟩ (k + 1)) := ⟨c1.os, c1.tape, c1.output, by rw [hsize]; exact c1.size, fun j hj hG => (hoth j qz8).trans (c1.block j hj hG), fun j o e => by
    rw [hoth j (fun e2 => by rw [e2, q1] at e; cases e)]; exact c1.rle j o e, c1.rold, fun o ho => Own.ok_keep (c1.owned o ho) (L6.refl _) fun j hj => by
    obtain ⟨k1, k2⟩ := Own.ok_blk (c1.owned o ho) hj;exact ⟨hoth j fun e => ow1 o ho (by rw [hj, e]), k1⟩, c1.fresh, c1.sep⟩
  have v2 := AD5 (d := nx) (x := AV.tup [AV.bool true, AV.int k, AV.any]) (v := .tuple #[.bool true, .int .i64 k, .int .i32 ((ByteArray.mk s.toArray)[k]'hk').toNat]) v1 (L6.refl _) (by rw [z1]; exact Nat.blt_eq.mp n3) ⟨_, rfl, i4.cons rfl (i4.cons rfl (i4.cons trivial (i4.nil _)))⟩;refine hK _ _ (wpList_plain g4 fun K2 hK2 => ?_);have hp2 : (a1.put (some nx) (.tuple #[.bool true, .int .i64 k, .int .i32 ((ByteArray.mk s.toArray)[k]'hk').toNat])).eval (.tmp nx) = .tuple #[.bool true, .int .i64 k, .int .i32 ((ByteArray.mk s.toArray)[k]'hk').toNat] := by
   show ((a1.put (some nx) _).tmps.getD nx undef) = _
   unfold Act.put;simp [Nat.blt_eq.mp n3, z1]
  have r4 : (execOp (a1.put (some nx) (.tuple #[.bool true, .int .i64 k, .int .i32 ((ByteArray.mk s.toArray)[k]'hk').toNat])).eval o4).run P (w1.iterAt w.heap.size ⟨s.toArray⟩ (k + 1)) = .ok (.value (.bool true)) (w1.iterAt w.heap.size ⟨s.toArray⟩ (k + 1)) := by
   simp only [execOp, h4, hp2];rfl
  unfold Oper.wp;rw [r4, Oper.upon_value, e4];have v3 := AD5 (d := m) (x := AV.bool true) (v := .bool true) v2 (L6.refl _) (by rw [size_put, z1]; exact Nat.blt_eq.mp n4) rfl;refine hK2 _ _ ?_;show wpList _ _ _ [] _ _
  refine wpList_nil ?_;refine wp_seq ?_;have hm : ((a1.put (some nx) (.tuple #[.bool true, .int .i64 k, .int .i32 ((ByteArray.mk s.toArray)[k]'hk').toNat])).put (some m) (.bool true)).eval (.tmp m) = .bool true := v3 m (AV.bool true) BS5;refine wp_cond_split (t := true) hm (fun _ => wp_skip ?_) (fun e => by cases e);refine wp_mono (hb w.heap.size k hk _ R1 R1 _ _ ⟨CF5 c2.rle, v3, by rw [size_put, size_put]; exact z1, by rw [Y5, Y5]; exact d1'⟩) ?_
  rintro e a3 w3 ⟨s', R3, ⟨rfl, hall⟩, s3, c3, v4, z3, d3⟩
  have hlt : w.heap.size < w1.heap.size := (AZ8.1 i1').1;refine ⟨k + 1, ⟨R3, ⟨c3.os.trans c2.os, c3.tape.trans c2.tape, c3.output.trans c2.output, L4 c2.size c3.size, fun j hj hG => (c3.block j (Nat.lt_of_lt_of_le hj c2.size) (fun h => h)).trans (c2.block j hj hG), c3.rle, fun j hj => (c3.rold j (Nat.lt_of_lt_of_le hj c2.size)).trans (c2.rold j hj), fun o ho => Own.ok_keep (c2.owned o ho) s3 fun j hj => ?_, c2.fresh, c2.sep⟩, s1.trans s3, fun t x ex => v4 t x (hall.get t x ex), z3, d3, (c3.block _ (by rw [hsize]; exact hlt) (fun h => h)).trans hi2, l1, (c3.rold _ (by rw [hsize]; exact hlt)).trans q1, ow1, hk⟩, by show s.length - (k + 1) < s.length - k; omega⟩;obtain ⟨k1, k2⟩ := Own.ok_blk (c2.owned o ho) hj;exact ⟨c3.block j k2 (fun h => h), (c3.rold j k2).trans k1⟩
 have hk' : ¬ k < (ByteArray.mk s.toArray).size := by rw [hsz]; exact hk
 have r3 : (execOp a1.eval o3).run P w1 = .ok (.value (.tuple #[.bool false])) w1 := by
  simp only [execOp, h3, hp];simp [Lib.run_next_end_at w1 w.heap.size ⟨s.toArray⟩ k o3.type i1' hk']
 rw [r3, Oper.upon_value, e3];refine hK _ _ (wpList_plain g4 fun K2 hK2 => ?_);have hp2 : (a1.put (some nx) (.tuple #[.bool false])).eval (.tmp nx) = .tuple #[.bool false] := by
  show ((a1.put (some nx) _).tmps.getD nx undef) = _
  unfold Act.put;simp [Nat.blt_eq.mp n3, z1]
 have r4 : (execOp (a1.put (some nx) (.tuple #[.bool false])).eval o4).run P w1 = .ok (.value (.bool false)) w1 := by
  simp only [execOp, h4, hp2];rfl
 unfold Oper.wp;rw [r4, Oper.upon_value, e4];refine hK2 _ _ ?_;show wpList _ _ _ [] _ _
 refine wpList_nil ?_;refine wp_seq ?_;have v2 := AD5 (d := nx) (x := AV.any) (v := .tuple #[.bool false]) v1 (L6.refl _) (by rw [z1]; exact Nat.blt_eq.mp n3) trivial;have v3 := AD5 (d := m) (x := AV.bool false) (v := .bool false) v2 (L6.refl _) (by rw [size_put, z1]; exact Nat.blt_eq.mp n4) rfl;have hm : ((a1.put (some nx) (.tuple #[.bool false])).put (some m) (.bool false)).eval (.tmp m) = .bool false := v3 m (AV.bool false) BS5;refine wp_cond_split (t := false) hm (fun e => by cases e) (fun _ => wp_exit ?_);have hks : k = s.length := by omega
 subst hks;simp only [Exit.then, Exit.inBlock, if_true];exact ⟨_, R1, hQ w.heap.size, s1, c1, v3, by rw [size_put, size_put]; exact z1, by rw [Y5, Y5]; exact d1'⟩
theorem DA0 {i1 i2 b d1 it nx m : Nat} {o1 o2 o3 o4 : Oper} {bd : Code} {Q : Exit → H6 → Prop} {env : List (Nat × AV)} {s : List UInt8} {t : TypeId} {q : Operand} (base : List (Nat × AV)) (h0 : AW9 env base) (V : Nat → List (Nat × AV))
  (g1 : o1.guard = none) (g2 : o2.guard = none) (g3 : o3.guard = none) (g4 : o4.guard = none) (h1 : o1.op = .move q) (e1 : o1.dst = some d1) (h2 : o2.op = .range t (.tmp d1)) (e2 : o2.dst = some it) (ht : P.underlying t = some .string)
  (h3 : o3.op = .next (.tmp it) true) (e3 : o3.dst = some nx) (h4 : o4.op = .extract (.tmp nx) 0) (e4 : o4.dst = some m) (n1 : Nat.blt d1 n = true) (n2 : Nat.blt it n = true) (n3 : Nat.blt nx n = true) (n4 : Nat.blt m n = true)
  (hq : Ev (M8 · env) q (AV.str s)) (ha : ∀ c ∈ s, c.toNat < 128) (hi : ∀ r, AW9 ((it, AV.ptr r 0) :: (d1, AV.str s) :: env) ((it, AV.ptr r 0) :: (V 0 ++ base)))
  (hb : ∀ r k c, s[k]? = some c → AWP P (fun _ => False) n bd (fun e s' => e = .normal ∧ AW9 s'.env ((it, AV.ptr r 0) :: (V (k + 1) ++ base))) ⟨[], (m, AV.bool true) :: (nx, AV.tup [AV.bool true, AV.int k, AV.any]) :: (it, AV.ptr r 0) :: (V k ++ base)⟩)
  (hQ : ∀ r, Q .normal ⟨own, (m, AV.bool false) :: (nx, AV.any) :: (it, AV.ptr r 0) :: (V s.length ++ base)⟩) :
  AWP P G n (.seq (.region i1 [o1, o2].toArray false) (.block b (.loop (.seq (.region i2 [o3, o4].toArray false) (.seq (.cond (.tmp m) .skip (.exit b)) bd))))) Q ⟨own, env⟩ :=
 Cz9 (fun r k => (it, AV.ptr r 0) :: (V k ++ base)) g1 g2 g3 g4 h1 e1 h2 e2 ht h3 e3 h4 e4 n1 n2 n3 n4 hq ha hi (fun r k => BS5) (fun r k hk => hb r k _ (P2 hk)) hQ
theorem Af2 {x y : Code} {Q : Exit → H6 → Prop} {env : List (Nat × AV)} {α : Type} (base : List (Nat × AV)) (h0 : AW9 env base) (I : α → Prop) (O : α → List Own) (V : α → List (Nat × AV)) (hx : AWP P G n x (AQ8 (fun s' => ∃ a, I a ∧ Le G n s' ⟨O a, V a ++ base⟩) Q) ⟨own, env⟩) (k : ∀ a, I a → AWP P G n y Q ⟨O a, V a ++ base⟩) : AWP P G n x (AQ8 (AWP P G n y Q) Q) ⟨own, env⟩ :=
 Bd2 (S := fun t => ∃ a, I a ∧ t = ⟨O a, V a ++ base⟩) (hx.mono fun e s q => by
  cases e with
  | normal => obtain ⟨a, h1, h2⟩ := q; exact ⟨_, ⟨a, h1, rfl⟩, h2⟩
  | _ => exact q) fun t ⟨a, h1, e⟩ => by subst e; exact k a h1
end
end Go.AV
namespace Go.PQ
open Go.Proofs Go.Proofs.Tryz
open Go Go.AV Go.M
attribute [local irreducible] OpW OpA OpS AWP K6 L8 K8 OpE K7 I7 L1 Le Ev G4 M7 j0 Int.tmod Int.tdiv IntKind.wrap T3
theorem Cf8 (d : E0) (hd : Q7 d = true) : E1 30 [AV.wt BH8 (AV.agg d.cs)] (AV.str (Ar1 d)) := by
 have T := CS4 hd;obtain ⟨hn1, hn2, hn3, hn4⟩ := BF9 hd;have hT1 := T.txn;have hT2 := T.begin';have hT3 := T.kind;have hT4 := T.end';have hT5 := T.time;have hT6 := T.head;have hT7 := T.few;have hT9 := Am0 (n := d.Time) qz8;refine B2 func30 rfl ntmps30 rfl ?_;refine zq129 ?_;refine R3 ?_;intro b1;refine zq3 ?_;refine R5 ?_;intro b3;refine R4 ?_;refine A1 rfl (E3 rfl (J1 (l := [116]) rfl)) ?_;refine A1 rfl (E3 rfl (J1 (l := [63]) rfl)) ?_;refine A1 rfl (E3 rfl (J1 (l := [32, 110, 111]) rfl)) ?_;refine R7 ?_;refine Af2 [(1, _), (2, _), (3, _), (5, _), (6, _)] A4 (fun (ks : Str) => ks = Ak2 d) (fun (ks : Str) => [.box b3 128 [AV.is (.pointer none), AV.is (.slice none 0 0)], .box b1 45 d.cs, .tab BH8]) (fun (ks : Str) => [(4, AV.str ks)]) ?_ ?_
 ·skip
  refine zC ?_ ?_
  ·intro h15;refine R1 ?_;refine A1 rfl (E3 rfl (J1 (l := [108]) rfl)) ?_;refine R1 ?_;exact ⟨[108], (by unfold Ak2; simp [h15]), Le.trans (B4 [0, 0, 0] rfl) (C7 0 B8 A4)⟩
  intro h15;refine R1 ?_;exact ⟨[116], (by unfold Ak2; simp [h15]), Le.trans (B4 [0, 0, 0] rfl) (C7 0 B8 A4)⟩
 intro ks hIC15;subst hIC15;refine R7 ?_;refine Af2 [(1, _), (2, _), (3, _), (4, _), (6, _)] A4 (fun (es : Str) => es = BA0 d) (fun (es : Str) => [.box b3 128 [AV.is (.pointer none), AV.is (.slice none 0 0)], .box b1 45 d.cs, .tab BH8]) (fun (es : Str) => [(5, AV.str es)]) ?_ ?_
 ·skip
  refine zC ?_ ?_
  ·intro h18;have k18 := Bk6 h18;(try simp only [A7] at k18);refine R3 ?_;refine A1 rfl (m5 rfl call62 rfl (Av5 _ W5) (AA8 _) (O6 (Bl7 2 rfl Ap6 (evb (A0 rfl))) o0)) ?_;refine R2 ?_;exact ⟨Z6 d.End, (by unfold BA0; first | (rw [C5 BQ2]; done) | (rw [D3 BQ2]; done)), Le.trans (B4 [0, 0, 0] rfl) (C7 0 B8 A4)⟩
  intro h18;have k18 := Aw6 h18;(try simp only [A7] at k18);refine R1 ?_;exact ⟨[63], (by unfold BA0; first | (rw [C5 BQ2]; done) | (rw [D3 BQ2]; done)), Le.trans (B4 [0, 0, 0] rfl) (C7 0 B8 A4)⟩
 intro es hIC18;subst hIC18;refine R6 ?_;refine Af2 [(1, _), (2, _), (3, _), (4, _), (5, _)] A4 (fun (ts : Str) => ts = BK9 d) (fun (ts : Str) => [.box b3 128 [AV.is (.pointer none), AV.is (.slice none 0 0)], .box b1 45 d.cs, .tab BH8]) (fun (ts : Str) => [(6, AV.str ts)]) ?_ ?_
 ·skip
  refine zC ?_ ?_
  ·intro h23;refine R3 ?_;refine A1 rfl (m5 rfl call62 rfl (Av5 _ W5) (AA8 _) (O6 (Bl7 2 rfl Ap6 (evb (A0 rfl))) o0)) ?_;refine A1 rfl (u4 rfl (J1 (l := [32, 64]) rfl) zA AD9) ?_;refine R2 ?_;exact ⟨32 :: 64 :: Z6 d.Time, (by unfold BK9; simp [h23]), Le.trans (B4 [0, 0, 0] rfl) (C7 0 B8 A4)⟩
  intro h23;refine R1 ?_;exact ⟨[32, 110, 111], (by unfold BK9; simp [h23]), Le.trans (B4 [0, 0, 0] rfl) (C7 0 B8 A4)⟩
 intro ts hIC23;subst hIC23;refine R1 ?_;refine l9 5 1 ?_;refine M6 15 E6 E6 rfl ?_;refine R3 ?_;refine B7 rfl rfl (m5 rfl call62 rfl (Av5 _ W5) (AA8 _) (O6 (Bl7 3 rfl Ap6 (evb (A0 rfl))) o0)) ?_;refine zq187 ?_;refine R2 ?_;refine B7 rfl rfl (m5 rfl call62 rfl (Av5 _ W5) (AA8 _) (O6 (Bl7 3 rfl Ap6 (evb (A0 rfl))) o0)) ?_;refine zq73 ?_;refine B7 rfl rfl (u4 rfl zA (J1 (l := [45]) rfl) AD9) ?_;refine R1 ?_;refine zq73 ?_;refine R1 ?_;refine zq73 ?_;refine R1 ?_;rw [CS3];refine zI [1, 0] rfl call75 (Bp2 b3 (.pointer none) (.inl rfl) (.slice none 0 0) [] (Ac4 d) (by simp only [Q8]; omega)) F4 rfl ?_;intro x43 ok43;refine R3 ?_;rw [Cy4];refine R7 ?_;refine zL [0, 0] ?_;refine J5 [(1, _), (2, _), (3, _), (45, _), (46, _)] _ (fun (i : Nat) (v : Value) => i ≤ d.Got.length) (fun i v => [.box b3 128 [AV.ptr b3 0, AV.is v], .arr v 5 1 (AM8 (AJ1 d i))]) (fun i v => [(47, AV.int i)]) (fun i v => d.Got.length - i) (0) (x43) ?_ (K5 B8 A4) ?_
 ·exact E2 _
 intro i v hinv;refine zK ?_ ?_
 ·intro h48 k48;have hlt : i < d.Got.length := (by simpa using h48);obtain ⟨x, hx⟩ := B3 hlt;obtain ⟨hk1, hk2, hk3⟩ := T.gotK x (C2 hx);have hgl := (Bf3 T i).1;refine zq0 ?_;intro b8;refine R4 ?_;refine A1 rfl (E3 rfl (J1 (l := [45]) rfl)) ?_;refine R7 ?_;refine Af2 [(1, _), (2, _), (3, _), (8, _), (45, _), (46, _), (47, _), (48, _), (49, _), (50, _), (51, _), (52, _)] A4 (fun (gs : Str) => gs = BP9 x) (fun (gs : Str) => [.box b3 128 [AV.ptr b3 0, AV.is v], .arr v 5 1 (AM8 (AJ1 d i)), .box b8 71 x.cs, .box b1 45 d.cs, .tab BH8]) (fun (gs : Str) => [(9, AV.str gs)]) ?_ ?_
  ·skip
   refine zC ?_ ?_
   ·intro h52;refine R5 ?_;exact ⟨x.Val, (by unfold BP9; simp [h52]), Le.trans (B4 [1, 1, 0, 0, 0] rfl) (C7 0 B8 A4)⟩
   intro h52;refine R1 ?_;exact ⟨[45], (by unfold BP9; simp [h52]), Le.trans (B4 [1, 1, 0, 0, 0] rfl) (C7 0 B8 A4)⟩
  intro gs hIC52;subst hIC52;refine R3 ?_;refine zq186 ?_;refine A1 rfl (u4 rfl zA (J1 (l := [63]) rfl) AD9) ?_;refine R1 ?_;refine zq169 ?_;rw [Bn5];refine zI [0, 0] rfl call75 (Bp2 b3 (.pointer (some ⟨b3, 0, none⟩)) (.inr rfl) v (AJ1 d i) (BP8 x) qz8) F4 rfl ?_;intro x61 ok61;refine R5 ?_;refine G0 i v (i + 1) (x61) ?_ ?_ (Le.trans (B4 [2, 0, 0] rfl) (C7 1 (by (rw [BV5 hx]; rfl)) A4))
  ·exact qz8
  omega
 intro h48 k48;have hil : i = d.Got.length := (by have h9 : d.Got.length ≤ i := (by simpa using h48); omega);subst hil;rw [CI3];refine R10 ?_;refine zL [0, 0] ?_;refine J5 [(2, _), (3, _), (64, _), (65, _)] _ (fun (j : Nat) (u : Value) => j ≤ d.Writes.length) (fun j u => [.box b3 128 [AV.ptr b3 0, AV.is u], .arr u 5 1 (AM8 (AR8 d j))]) (fun j u => [(66, AV.int j)]) (fun j u => d.Writes.length - j) (0) (v) ?_ (K5 B8 A4) ?_
 ·exact E2 _
 intro j u hinv;refine zK ?_ ?_
 ·intro h67 k67;have hlt1 : j < d.Writes.length := (by simpa using h67);obtain ⟨y, hy⟩ := B3 hlt1;obtain ⟨hw1, hw2, hw3, hw4⟩ := T.wrK y (C2 hy);have hwl := (BG0 T j).1;refine zq106 ?_;intro b11;refine R6 ?_;refine A1 rfl (u4 rfl (J1 (l := [61]) rfl) zA AD9) ?_;refine R8 ?_;refine Af2 [(2, _), (3, _), (11, _), (64, _), (65, _), (66, _), (67, _), (68, _), (69, _), (70, _), (71, _), (72, _), (73, _), (74, _)] A4 (fun (ys : Str) => ys = wvT y) (fun (ys : Str) => [.box b3 128 [AV.ptr b3 0, AV.is u], .arr u 5 1 (AM8 (AR8 d j)), .box b11 82 y.cs, .box b1 45 d.cs, .tab BH8]) (fun (ys : Str) => [(12, AV.str ys)]) ?_ ?_
  ·skip
   refine zC ?_ ?_
   ·intro h74;refine R1 ?_;refine A1 rfl (E3 rfl (J1 (l := [45]) rfl)) ?_;refine R1 ?_;exact ⟨[45], (by unfold wvT; simp [h74]), Le.trans (B4 [1, 1, 0, 0, 0] rfl) (C7 0 B8 A4)⟩
   intro h74;refine R1 ?_;exact ⟨61 :: y.Val, (by unfold wvT; simp [h74]), Le.trans (B4 [1, 1, 0, 0, 0] rfl) (C7 0 B8 A4)⟩
  intro ys hIC74;subst hIC74;refine R3 ?_;refine zq186 ?_;refine R1 ?_;refine zq169 ?_;rw [CI2];refine zI [0, 0] rfl call75 (Bp2 b3 (.pointer (some ⟨b3, 0, none⟩)) (.inr rfl) u (AR8 d j) (wrT y) qz8) F4 rfl ?_;intro x80 ok80;refine R5 ?_;refine G0 j u (j + 1) (x80) ?_ ?_ (Le.trans (B4 [2, 0, 0] rfl) (C7 1 (by (rw [Bf2 hy]; rfl)) A4))
  ·exact qz8
  omega
 intro h67 k67;have hjl : j = d.Writes.length := (by have h9 : d.Writes.length ≤ j := (by simpa using h67); omega);subst hjl;have hwl := BG0 T d.Writes.length;refine R3 ?_;refine zI [0, 0] rfl call76 (DN4 b3 (.pointer (some ⟨b3, 0, none⟩)) u (AR8 d d.Writes.length) qz8) I4 rfl ?_;intro x82 ok82;refine A1 rfl (u4 rfl zA (J1 (l := [10]) rfl) AD9) ?_;refine R3 ?_;exact D5 rfl (A8 rfl (by exact E5 AV.str Bn6))
theorem BO4 (h : List E0) (hs : ∀ d ∈ h, d.size ≤ 1048576) : E1 10 [AV.wt BH8 (AV.list 8 (h.map E0.cs))] (AV.tup [AV.str (BA1 h).1, AV.bool (BA1 h).2]) := by
 refine B2 func10 rfl ntmps10 rfl ?_;refine zq129 ?_;refine zq149 ?_;refine R6 ?_;refine zF rfl call11 (Ag8 h hs) I4 ?_;refine zC ?_ ?_
 ·intro h9;have he : BA1 h = ([], false) := C5 (by simpa using h9);rw [he];refine zq149 ?_;refine R3 ?_;exact zq66
 intro h9;have hg : AG4 h = true := (by simpa using h9);obtain ⟨hda, hl10⟩ := Ax9 hg;have he : BA1 h = (AH9 h, true) := D3 hg;rw [he];refine R3 ?_;refine zq3 ?_;refine R9 ?_;refine F8 [(2, _), (3, _), (10, _), (11, _)] _ (fun (i : Nat) => i ≤ h.length) (fun i => []) (fun i => [(4, AV.str (AH9 (h.take i))), (12, AV.int i)]) (fun i => h.length - i) (0) ?_ (K5 B8 A4) ?_
 ·exact E2 _
 intro i hinv;refine zK ?_ ?_
 ·intro h13 k13;have hlt : i < h.length := (by simpa using h13);obtain ⟨x, hx⟩ := B3 hlt;have hxo := hda x (C2 hx);have hln := Bf4 hda hl10 i;have hxl := CI4 hxo;refine zq0 ?_;intro b6;refine R5 ?_;refine A1 rfl (m5 rfl call30 rfl (Cf8 x hxo) (AA8 _) (O6 (Bl7 1 rfl Ap6 (evb zA)) o0)) ?_;refine zq169 ?_;refine R6 ?_;refine G5 i (i + 1) ?_ ?_ (Le.trans (B4 [0] rfl) (C7 1 B8 ⟨(E5 (fun z => some (AV.str z)) (Bw7 hx).symm), rfl, rfl, rfl, rfl, rfl, trivial⟩))
  ·exact qz8
  omega
 intro h13 k13;have hge : h.length ≤ i := (by simpa using h13);rw [T4 hge];refine R8 ?_;exact zq66
theorem BD9 (n : Int) (h : 0 ≤ n ∧ n ≤ 1000000) : E1 35 [AV.int n] (AV.str (Z6 n)) := by
  obtain ⟨m, rfl⟩ : ∃ m : Nat, n = (m : Int) := ⟨n.toNat, by omega⟩;rw [At9];exact Bg1 m qz8
theorem Bv0 (h : List E0) (hs : ∀ d ∈ h, d.size ≤ 1048576) : E1 13 [AV.list 8 (h.map E0.cs)] (AV.tup [AV.str (BA1 h).1, AV.bool (BA1 h).2]) := by
 refine B2 func13 rfl ntmps13 rfl ?_;refine zq149 ?_;refine R6 ?_;refine zF rfl call29 (Bp1 h hs) I4 ?_;refine zC ?_ ?_
 ·intro h16;have he : BA1 h = ([], false) := C5 BI0;rw [he];refine zq149 ?_;refine R3 ?_;exact zq66
 intro h16;have hg : AG4 h = true := BI0;obtain ⟨hda, hl10⟩ := Ax9 hg;have he : BA1 h = (AH9 h, true) := D3 hg;rw [he];refine R3 ?_;refine zq3 ?_;refine R9 ?_;refine F8 [(2, _), (3, _), (17, _), (18, _)] _ (fun (i : Nat) => i ≤ h.length) (fun i => []) (fun i => [(4, AV.str (AH9 (h.take i))), (19, AV.int i)]) (fun i => h.length - i) (0) ?_ (K5 B8 A4) ?_
 ·exact E2 _
 intro i hinv;refine zK ?_ ?_
 ·intro h20 k20;have hlt : i < h.length := (by simpa using h20);obtain ⟨x, hx⟩ := B3 hlt;have hxo := hda x (C2 hx);have hln := Bf4 hda hl10 i;have T := CS4 hxo;obtain ⟨hn1, hn2, hn3, hn4⟩ := BF9 hxo;have hT1 := T.txn;have hT2 := T.begin';have hT3 := T.kind;have hT4 := T.end';have hT6 := T.head;have hT8 := DV6 hxo;have hT7 := T.few;have hT9 := Am0 (n := x.Time) qz8;refine zq0 ?_;intro b6;refine R4 ?_;refine A1 rfl (E3 rfl (J1 (l := [116]) rfl)) ?_;refine A1 rfl (E3 rfl (J1 (l := [63]) rfl)) ?_;refine A1 rfl (E3 rfl (J1 (l := [110, 111]) rfl)) ?_;refine R7 ?_;refine Af2 [(2, _), (3, _), (4, _), (6, _), (8, _), (9, _), (17, _), (18, _), (19, _), (20, _), (21, _), (22, _), (23, _), (24, _)] A4 (fun (ks : Str) => ks = Ak2 x) (fun (ks : Str) => [.box b6 45 x.cs]) (fun (ks : Str) => [(7, AV.str ks)]) ?_ ?_
  ·skip
   refine zC ?_ ?_
   ·intro h24;refine R1 ?_;refine A1 rfl (E3 rfl (J1 (l := [108]) rfl)) ?_;refine R1 ?_;exact ⟨[108], (by unfold Ak2; simp [h24]), Le.trans (B4 [0] rfl) (C7 0 B8 A4)⟩
   intro h24;refine R1 ?_;exact ⟨[116], (by unfold Ak2; simp [h24]), Le.trans (B4 [0] rfl) (C7 0 B8 A4)⟩
  intro ks hIC24;subst hIC24;refine R7 ?_;refine Af2 [(2, _), (3, _), (4, _), (6, _), (7, _), (9, _), (17, _), (18, _), (19, _), (20, _), (21, _), (22, _), (23, _), (24, _), (25, _), (26, _), (27, _)] A4 (fun (es : Str) => es = BA0 x) (fun (es : Str) => [.box b6 45 x.cs]) (fun (es : Str) => [(8, AV.str es)]) ?_ ?_
  ·skip
   refine zK ?_ ?_
   ·intro h27 k27;refine R3 ?_;refine zF rfl call35 (BD9 x.End qz8) I4 ?_;refine R2 ?_;exact ⟨Z6 x.End, (by unfold BA0; first | (rw [C5 qz8]; done) | (rw [D3 qz8]; done)), Le.trans (B4 [0] rfl) (C7 0 B8 A4)⟩
   intro h27 k27;refine R1 ?_;exact ⟨[63], (by unfold BA0; first | (rw [C5 qz8]; done) | (rw [D3 qz8]; done)), Le.trans (B4 [0] rfl) (C7 0 B8 A4)⟩
  intro es hIC27;subst hIC27;refine R6 ?_;refine Af2 [(2, _), (3, _), (4, _), (6, _), (7, _), (8, _), (17, _), (18, _), (19, _), (20, _), (21, _), (22, _), (23, _), (24, _), (25, _), (26, _), (27, _), (31, _), (32, _)] A4 (fun (ts : Str) => ts = Bh6 x) (fun (ts : Str) => [.box b6 45 x.cs]) (fun (ts : Str) => [(9, AV.str ts)]) ?_ ?_
  ·skip
   refine zC ?_ ?_
   ·intro h32;refine R3 ?_;refine zF rfl call35 (BD9 x.Time qz8) I4 ?_;refine A1 rfl (u4 rfl (J1 (l := [64]) rfl) zA AD9) ?_;refine R2 ?_;exact ⟨64 :: Z6 x.Time, (by unfold Bh6; simp [h32]), Le.trans (B4 [0] rfl) (C7 0 B8 A4)⟩
   intro h32;refine R1 ?_;exact ⟨[110, 111], (by unfold Bh6; simp [h32]), Le.trans (B4 [0] rfl) (C7 0 B8 A4)⟩
  intro ts hIC32;subst hIC32;refine R6 ?_;refine B7 rfl rfl (zG rfl call35 (BD9 x.Txn qz8) I4) ?_;refine zq187 ?_;refine R2 ?_;refine B7 rfl rfl (zG rfl call35 (BD9 x.Begin qz8) I4) ?_;refine zq73 ?_;refine B7 rfl rfl (u4 rfl zA (J1 (l := [45]) rfl) AD9) ?_;refine R1 ?_;refine zq187 ?_;refine R1 ?_;refine zq73 ?_;rw [head_eq2];refine zq73 ?_;refine R11 ?_;refine F8 [(2, _), (3, _), (6, _), (7, _), (8, _), (9, _), (17, _), (18, _), (19, _), (20, _), (21, _), (22, _), (23, _), (24, _), (25, _), (26, _), (27, _), (31, _), (32, _), (37, _), (38, _), (39, _), (40, _), (41, _), (42, _), (43, _), (44, _), (45, _), (46, _), (47, _), (48, _), (49, _), (50, _), (51, _), (52, _), (53, _), (54, _), (55, _), (56, _), (57, _)] _ (fun (j : Nat) => j ≤ x.Got.length) (fun j => []) (fun j => [(4, AV.str (AH9 (h.take i) ++ AJ1 x j)), (58, AV.int j)]) (fun j => x.Got.length - j) (0) ?_ (K5 B8 ⟨(E5 (fun z => some (AV.str (AH9 (h.take i) ++ z))) Cp8), A4⟩) ?_
  ·exact E2 _
  intro j hinv;refine zK ?_ ?_
  ·intro h59 k59;have hlt1 : j < x.Got.length := (by simpa using h59);obtain ⟨y, hy⟩ := B3 hlt1;obtain ⟨hk1, hk2, hk3⟩ := T.gotK y (C2 hy);have hk4 := gots_val hxo (C2 hy);have hgl := (Bf3 T j).1;refine zq106 ?_;intro b11;refine R7 ?_;refine zq186 ?_;refine A1 rfl (u4 rfl zA (J1 (l := [63]) rfl) AD9) ?_;refine zq169 ?_;refine zC ?_ ?_
   ·intro h69;refine R4 ?_;refine zq169 ?_;refine R6 ?_;refine G5 j (j + 1) ?_ ?_ (Le.trans (B4 [0] rfl) (C7 1 B8 ⟨(E5 (fun z => some (AV.str z)) (by first | exact DF4 hy h69 | exact gtx_no hy h69)), A4⟩))
    ·exact qz8
    omega
   intro h69;refine R2 ?_;refine A1 rfl (u4 rfl zA (J1 (l := [45]) rfl) AD9) ?_;refine R6 ?_;refine G5 j (j + 1) ?_ ?_ (Le.trans (B4 [0] rfl) (C7 1 B8 ⟨(E5 (fun z => some (AV.str z)) (by first | exact DF4 hy h69 | exact gtx_no hy h69)), A4⟩))
   ·exact qz8
   omega
  intro h59 k59;have hil : j = x.Got.length := (by have h9 : x.Got.length ≤ j := (by simpa using h59); omega);subst hil;refine R10 ?_;refine F8 [(2, _), (3, _), (6, _), (7, _), (8, _), (9, _), (17, _), (18, _), (19, _), (20, _), (21, _), (22, _), (23, _), (24, _), (25, _), (26, _), (27, _), (31, _), (32, _), (37, _), (38, _), (39, _), (40, _), (41, _), (42, _), (43, _), (44, _), (45, _), (46, _), (47, _), (48, _), (49, _), (50, _), (51, _), (52, _), (53, _), (54, _), (55, _), (56, _), (57, _), (58, _), (59, _), (77, _), (78, _), (79, _)] _ (fun (k : Nat) => k ≤ x.Writes.length) (fun k => []) (fun k => [(4, AV.str (AH9 (h.take i) ++ AR8 x k)), (80, AV.int k)]) (fun k => x.Writes.length - k) (0) ?_ (K5 B8 ⟨(E5 (fun z => some (AV.str (AH9 (h.take i) ++ z))) CI3), A4⟩) ?_
  ·exact E2 _
  intro k hinv;refine zK ?_ ?_
  ·intro h81 k81;have hlt2 : k < x.Writes.length := (by simpa using h81);obtain ⟨z, hz⟩ := B3 hlt2;obtain ⟨hw1, hw2, hw3, hw4⟩ := T.wrK z (C2 hz);have hwl := (BG0 T k).1;refine R5 ?_;refine A1 rfl (zX hz) ?_;refine R2 ?_;intro b13;refine R7 ?_;refine zq186 ?_;refine zq169 ?_;refine zC ?_ ?_
   ·intro h90;refine R2 ?_;refine A1 rfl (u4 rfl zA (J1 (l := [45]) rfl) AD9) ?_;refine R6 ?_;refine G5 k (k + 1) ?_ ?_ (Le.trans (B4 [0] rfl) (C7 1 B8 ⟨(E5 (fun z => some (AV.str z)) (by first | exact DF5 hz h90 | exact wtx_no hz h90)), A4⟩))
    ·exact qz8
    omega
   intro h90;refine R4 ?_;refine A1 rfl (u4 rfl (J1 (l := [61]) rfl) zA AD9) ?_;refine zq169 ?_;refine R6 ?_;refine G5 k (k + 1) ?_ ?_ (Le.trans (B4 [0] rfl) (C7 1 B8 ⟨(E5 (fun z => some (AV.str z)) (by first | exact DF5 hz h90 | exact wtx_no hz h90)), A4⟩))
   ·exact qz8
   omega
  intro h81 k81;have hkl : k = x.Writes.length := (by have h9 : x.Writes.length ≤ k := (by simpa using h81); omega);subst hkl;have hwl := (BG0 T x.Writes.length).1;refine R3 ?_;refine A1 rfl (u4 rfl zA (J1 (l := [10]) rfl) AD9) ?_;refine R6 ?_;refine G5 i (i + 1) ?_ ?_ (Le.trans (B4 [0] rfl) (C7 1 B8 ⟨(E5 (fun z => some (AV.str z)) (line_end hx)), rfl, rfl, rfl, rfl, rfl, trivial⟩))
  ·exact qz8
  omega
 intro h20 k20;have hge : h.length ≤ i := (by simpa using h20);rw [T4 hge];refine R8 ?_;exact zq66
end Go.PQ
namespace Go.PQ
open Go.Proofs
open Go Go.AV Go.M
attribute [local irreducible] OpW OpA OpS AWP K6 L8 K8 OpE K7 I7 L1 Le Ev G4 M7
theorem Cs0 (a b : Int) : E1 315 [AV.int a, AV.int b] (AV.int (BP4 a b)) := by
 refine B2 Tryz.func315 rfl Tryz.ntmps315 rfl ?_;refine zK ?_ ?_
 ·intro h7 k7;have he : BP4 a b = a := by unfold BP4; rw [D3 k7]
  rw [he];refine R6 ?_;exact zq10
 intro h7 k7;have he : BP4 a b = b := by unfold BP4; rw [C5 k7]
 rw [he];refine R7 ?_;exact zq10
end Go.PQ
namespace Go.PQ
open Go.Proofs Go.Proofs.Tryz
open Go Go.AV Go.M
attribute [local irreducible] OpW OpA OpS AWP K6 L8 K8 OpE K7 I7 L1 Le Ev G4 M7 Int.tmod Int.tdiv IntKind.wrap
theorem CK1 (s : E9) (rs : List Str) (ws : List A5) (hs : s.size ≤ 400000) (hw : C9 A5.size ws ≤ 400000) : E1 271 [AV.agg s.cs, strs rs, AV.list 3 (ws.map A5.cs)] (AV.bool (fits s rs ws)) := by
 obtain ⟨hs1, hs2, hs3, hs4, hs5⟩ := AG7 hs;have hrm : room s.Cells (ws ++ hWs s.Held) = room s.Cells (hWs s.Held ++ ws) := CZ2 fun w => by rw [u6, u6, or_comm]
 refine B2 func271 rfl ntmps271 rfl ?_;refine R3 ?_;intro b3;refine R11 ?_;refine F8 [(1, _), (2, _), (3, _), (10, _), (11, _)] _ (fun (i : Nat) => i ≤ s.Held.length ∧ (s.Held.all fun h => apart h rs ws) = ((s.Held.drop i).all fun h => apart h rs ws)) (fun i => []) (fun i => [(12, AV.int i)]) (fun i => s.Held.length - i) (0) ?_ (H0 A4) ?_
 ·exact zq8
 intro i hinv;refine zK ?_ ?_
 ·intro h13 k13;have hlt : i < s.Held.length := by omega
  obtain ⟨h, hx⟩ := B3 hlt;refine zq0 ?_;intro b8;refine R7 ?_;refine zF rfl call310 (apart_spec _ _ _) AJ2 ?_;refine zC ?_ ?_
  ·intro h20;have hfin : fits s rs ws = false := by (unfold fits; rw [hinv.2, J7 hx, AC0, show apart h rs ws = false by simpa using h20]; rfl)
   refine R5 ?_;exact D5 rfl (A8 rfl qz141)
  intro h20;refine R5 ?_;refine G5 i (i + 1) ?_ ?_ (S4 1 A4)
  ·exact ⟨by omega, by rw [hinv.2, J7 hx, AC0, show apart h rs ws = true by simpa using h20]; rfl⟩
  omega
 intro h13 k13;have hge : s.Held.length ≤ i := by omega
 have hap : (s.Held.all fun h => apart h rs ws) = true := by (rw [hinv.2, n5 hge]; rfl)
 refine R10 ?_;refine J6 rfl (fun hc => zG rfl call311 (DM6 _ _ W5 W5) (A2 (A9 rfl hc) (A2 (A9 rfl hc) B0))) ?_;refine R4 ?_;exact D5 rfl (A8 rfl qz141)
theorem DA1 (h : D2) (hs : h.size ≤ 1048576) : L7 309 [AV.agg h.cs] [] (fun _ : Value × Value => True) (fun x => D2.ow h x) (fun x => AV.agg (D2.ocs h x)) := by
  have h3 := O2 (f := fun x : Str => x.length) (l := h.Reads);have h4 := O2 (f := A5.size) (l := h.Writes);have h5 : h.size = C9 (fun x => x.length) h.Reads + C9 A5.size h.Writes := rfl;refine C6 func309 rfl ntmps309 rfl ?_;refine R3 ?_;intro b1;refine R1 ?_;intro b2;refine R5 ?_;refine zI [] rfl call170 (BJ7 h.Reads qz8) I4 rfl ?_;intro x5 ok5;refine R1 ?_;refine O4 0 rfl fun one_x5 => ?_;refine M4 2 rfl rfl rfl zA zA (L2 one_x5) rfl AI8 rfl ?_;refine R3 ?_;refine zq171 ?_;intro v7;refine R2 ?_;refine G1 (by' := 40) 0 rfl rfl rfl rfl F3 type82 rfl rfl rfl rfl rfl rfl zA zA rfl Bb4 ?_;intro v10_1;refine R1 ?_;refine O4 0 rfl fun one_v10_1 => ?_;refine M4 3 rfl rfl rfl zA zA (L2 one_v10_1) rfl Ad6 rfl ?_;refine R7 ?_;exact I5 [1, 0] (x5, v10_1) (trivial) rfl B8 (N4 rfl (F5 (ys := _) 2 rfl rfl Ad4 N8 rfl))
theorem BO5 (h : D2) (hs : h.size ≤ 1048576) : E1 309 [AV.agg h.cs] (AV.agg h.cs) :=
  N1 (DA1 h hs) fun x _ => AQ5 (D2.lc h x)
theorem DA2 (l : List B6) (hs : C9 B6.size l ≤ 4194304) : E1 308 [AV.list 2 (l.map B6.cs)] (AV.list 2 (l.map B6.cs)) :=
  N1 (Cb1 l hs) fun x h => Ag1 B6.lcM h 0 rfl fun o ho => S7 _ ho
theorem Cs1 (s : E9) (hs : s.size ≤ 1048576) : L7 268 [AV.agg s.cs] [] (fun _ : Value × Value => True) (fun x => E9.ow s x) (fun x => AV.agg (E9.ocs s x)) := by
 obtain ⟨hs1, hs2, hs3, hs4, hs5⟩ := AG7 hs;refine C6 func268 rfl ntmps268 rfl ?_;refine R3 ?_;intro b1;refine R1 ?_;intro b2;refine R2 ?_;refine V9 _ 11 (.pure 0 (.pure 1 (.pure 2 (.pure 3 (.pure 4 (.pure 6 (.pure 7 (.e2 5 (.e2 8 (.pure 9 (.e1 10 .nil)) 10 (.e1 8 (.pure 9 .nil))) 10 (.e1 5 (.e1 8 (.pure 9 .nil))))))))))) E6 E6 rfl Ae8 ?_;refine R4 ?_;refine M0 rfl rfl rfl (fun ext => zG rfl call308 (DA2 s.Cells qz8) I4) ?_;refine R2 ?_;refine AP4 ?_ ?_
 ·refine J8 rfl rfl rfl (AA1 rfl J2 O0) (fun a _ => qz4) ?_;intro v11 _;refine AP4 ?_ ?_
  ·refine zq173 ?_;intro v14_1 hone_v14_1;have one_v14_1 := hone_v14_1.2;refine M0 rfl rfl rfl (fun ext => i6 (places := #[(0, 1), (1, 1), (2, 1), (3, 1)]) rfl AA9 zeroValue60 (fun w => by kernel_rfl) rfl (D7 zA (W9 _ _) (D7 zA (m4 _ _) (D7 zA (L2 one_v14_1) V1))) rfl) ?_;refine R1 ?_;refine zq77 ?_;intro b3 _;refine R12 ?_;refine l9 256 5 ?_;refine zL [4, 0] ?_;refine J5 [(2, _), (3, _), (17, _), (18, _)] _ (fun (i : Nat) (v : Value) => i ≤ s.Held.length) (fun i v => [.box b3 60 [AV.int s.Floor, AV.list 2 (s.Cells.map B6.cs), AV.is v, AV.is v14_1], .arr v 256 5 ((s.Held.take i).map D2.cs)]) (fun i v => [(19, AV.int i)]) (fun i v => s.Held.length - i) (0) ((E8)) ?_ (K5 B8 A4) ?_
   ·exact E2 _
   intro i v hinv;refine zK ?_ ?_
   ·intro h20 k20;have hlt : i < s.Held.length := by omega
    obtain ⟨h, hx⟩ := B3 hlt;obtain ⟨g1, g2, g3, g4, g5⟩ := AQ6 hs2 hx;refine zq0 ?_;intro b5;refine R2 ?_;refine zq32 ?_;intro v28_2;refine R1 ?_;refine O4 2 rfl fun one_v28_2 => ?_;refine M4 1 rfl rfl rfl zA zA (L2 one_v28_2) rfl AM3 rfl ?_;refine R5 ?_;refine G0 i v (i + 1) (v28_2) ?_ ?_ (Le.trans (B4 [0, 0, 0] rfl) (C7 1 (by exact E5 (fun z => Own.box b3 60 [AV.int s.Floor, AV.list 2 (s.Cells.map B6.cs), AV.is v28_2, AV.is v14_1] :: Own.arr v28_2 256 5 z :: _) (AS1 (f := D2.cs) hx)) A4))
    ·omega
    omega
   intro h20 k20;have hge : i = s.Held.length := by omega
   rw [hge, AM2];refine R7 ?_;exact I5 [1, 3] (v, v14_1) (trivial) rfl B8 (N4 rfl (F5 (ys := _) 2 rfl rfl Q1 M2 rfl))
  refine zq77 ?_;intro b3 _;refine R1 ?_;refine zq173 ?_;intro v14_3 hone_v14_3;have one_v14_3 := hone_v14_3.2;refine M0 rfl rfl rfl (fun ext => i6 (places := #[(0, 1), (1, 1), (2, 1), (3, 1)]) rfl AA9 zeroValue60 (fun w => by kernel_rfl) rfl (D7 zA (W9 _ _) (D7 zA (m4 _ _) (D7 zA (L2 one_v14_3) V1))) rfl) ?_;refine R12 ?_;refine l9 256 5 ?_;refine zL [4, 0] ?_;refine J5 [(2, _), (3, _), (17, _), (18, _)] _ (fun (i : Nat) (v : Value) => i ≤ s.Held.length) (fun i v => [.box b3 60 [AV.int s.Floor, AV.list 2 (s.Cells.map B6.cs), AV.is v, AV.is v14_3], .arr v 256 5 ((s.Held.take i).map D2.cs)]) (fun i v => [(19, AV.int i)]) (fun i v => s.Held.length - i) (0) ((E8)) ?_ (K5 B8 A4) ?_
  ·exact E2 _
  intro i v hinv;refine zK ?_ ?_
  ·intro h20 k20;have hlt : i < s.Held.length := by omega
   obtain ⟨h, hx⟩ := B3 hlt;obtain ⟨g1, g2, g3, g4, g5⟩ := AQ6 hs2 hx;refine zq0 ?_;intro b5;refine R2 ?_;refine zq32 ?_;intro v28_4;refine R1 ?_;refine O4 2 rfl fun one_v28_4 => ?_;refine M4 1 rfl rfl rfl zA zA (L2 one_v28_4) rfl AM3 rfl ?_;refine R5 ?_;refine G0 i v (i + 1) (v28_4) ?_ ?_ (Le.trans (B4 [0, 0, 0] rfl) (C7 1 (by exact E5 (fun z => Own.box b3 60 [AV.int s.Floor, AV.list 2 (s.Cells.map B6.cs), AV.is v28_4, AV.is v14_3] :: Own.arr v28_4 256 5 z :: _) (AS1 (f := D2.cs) hx)) A4))
   ·omega
   omega
  intro h20 k20;have hge : i = s.Held.length := by omega
  rw [hge, AM2];refine R7 ?_;exact I5 [1, 3] (v, v14_3) (trivial) rfl B8 (N4 rfl (F5 (ys := _) 2 rfl rfl Q1 M2 rfl))
 refine zq77 ?_;intro b3 _;refine R1 ?_;refine J8 rfl rfl rfl (AA1 rfl J2 O0) (fun a _ => qz4) ?_;intro v11 _;refine R1 ?_;refine J8 rfl rfl rfl (U8 3 (fun _ => rfl) (L9 (by' := 24) 3 rfl J2 type62 rfl rfl rfl rfl rfl rfl zA zA rfl Bb4)) (fun a _ => qz4) ?_;intro v14_5 hone_v14_5;have one_v14_5 := hone_v14_5.2;refine M0 rfl rfl rfl (fun ext => i6 (places := #[(0, 1), (1, 1), (2, 1), (3, 1)]) rfl AA9 zeroValue60 (fun w => by kernel_rfl) rfl (D7 zA (W9 _ _) (D7 zA (m4 _ _) (D7 zA (L2 one_v14_5) V1))) rfl) ?_;refine R12 ?_;refine l9 256 5 ?_;refine zL [3, 0] ?_;refine J5 [(2, _), (3, _), (17, _), (18, _)] _ (fun (i : Nat) (v : Value) => i ≤ s.Held.length) (fun i v => [.box b3 60 [AV.int s.Floor, AV.list 2 (s.Cells.map B6.cs), AV.is v, AV.is v14_5], .arr v 256 5 ((s.Held.take i).map D2.cs)]) (fun i v => [(19, AV.int i)]) (fun i v => s.Held.length - i) (0) ((E8)) ?_ (K5 B8 A4) ?_
 ·exact E2 _
 intro i v hinv;refine zK ?_ ?_
 ·intro h20 k20;have hlt : i < s.Held.length := by omega
  obtain ⟨h, hx⟩ := B3 hlt;obtain ⟨g1, g2, g3, g4, g5⟩ := AQ6 hs2 hx;refine zq0 ?_;intro b5;refine R2 ?_;refine zq32 ?_;intro v28_6;refine R1 ?_;refine O4 2 rfl fun one_v28_6 => ?_;refine M4 1 rfl rfl rfl zA zA (L2 one_v28_6) rfl AM3 rfl ?_;refine R5 ?_;refine G0 i v (i + 1) (v28_6) ?_ ?_ (Le.trans (B4 [0, 0, 0] rfl) (C7 1 (by exact E5 (fun z => Own.box b3 60 [AV.int s.Floor, AV.list 2 (s.Cells.map B6.cs), AV.is v28_6, AV.is v14_5] :: Own.arr v28_6 256 5 z :: _) (AS1 (f := D2.cs) hx)) A4))
  ·omega
  omega
 intro h20 k20;have hge : i = s.Held.length := by omega
 rw [hge, AM2];refine R7 ?_;exact I5 [1, 3] (v, v14_5) (trivial) rfl B8 (N4 rfl (F5 (ys := _) 2 rfl rfl Q1 M2 rfl))
theorem Cf9 (s : E9) (hs : s.size ≤ 1048576) : E1 268 [AV.agg s.cs] (AV.agg s.cs) :=
  N1 (Cs1 s hs) fun x _ => AQ5 (E9.lc s x)
theorem less_own (l : List D2) (n : Int) (hl : l.length ≤ 1048576) : L7 273 [AV.list 5 (l.map D2.cs), AV.int n] [] (fun _ : Value => True) (fun v => [.arr v 256 5 ((AC1 l n).map D2.cs)]) (fun v => AV.is v) := by
 refine C6 func273 rfl ntmps273 rfl ?_;refine zq104 ?_;refine V0 256 5 rfl rfl rfl rfl I2 ?_;intro v5;refine R9 ?_;refine V8 [(1, _), (4, _), (8, _), (9, _)] _ (fun (i : Nat) (v : Value) (q : List D2) => i ≤ l.length ∧ q = AC1 (l.take i) n ∧ q.length ≤ i) (fun i v q => [.arr v 256 5 (q.map D2.cs)]) (fun i v q => [(5, AV.is v), (10, AV.int i)]) (fun i v q => l.length - i) (0) (v5) ([]) ?_ (K5 B8 A4) ?_
 ·exact ⟨E2 _, rfl, N2 _⟩
 intro i v q hinv;refine zK ?_ ?_
 ·intro h11 k11;have hlt : i < l.length := by omega
  obtain ⟨h, hx⟩ := B3 hlt;refine zq0 ?_;intro b7;refine zC ?_ ?_
  ·intro h17;refine R4 ?_;refine G1 (by' := 72) 1 rfl rfl rfl rfl G9 type256 rfl rfl rfl rfl rfl rfl zA zA rfl qz3 ?_;intro v21_1;refine R6 ?_;refine P6 i v q (i + 1) (v21_1) (q ++ [h]) ?_ ?_ (Le.trans (B4 [0, 0] rfl) (C7 1 BI2 A4))
   ·first | exact ⟨by omega, by rw [BS4 hx, D3 h17, hinv.2.1], by rw [G3]; simp; omega⟩ | exact ⟨by omega, by rw [BS4 hx, C5 (by rw [h17]; decide), hinv.2.1], by omega⟩
   omega
  intro h17;refine R5 ?_;refine P6 i v q (i + 1) (v) (q) ?_ ?_ (Le.trans (B4 [0, 0] rfl) (C7 1 BI2 A4))
  ·first | exact ⟨by omega, by rw [BS4 hx, D3 h17, hinv.2.1], by rw [G3]; simp; omega⟩ | exact ⟨by omega, by rw [BS4 hx, C5 (by rw [h17]; decide), hinv.2.1], by omega⟩
  omega
 intro h11 k11;have hge : l.length ≤ i := by omega
 have hq := hinv.2.1;rw [T4 hge] at hq;rw [← hq];exact zq82
theorem Cc0 (l : List D2) (n : Int) (hl : l.length ≤ 1048576) : E1 273 [AV.list 5 (l.map D2.cs), AV.int n] (AV.list 5 ((AC1 l n).map D2.cs)) :=
  N1 (less_own l n hl) fun x _ => K3 (X9.2 rfl) F6
theorem put_csH (l : List D2) (k : Nat) (x : D2) : (l.take k ++ x :: l.drop k).map D2.cs = [] ++ (l.take (k : Int).toNat).map D2.cs ++ [x.cs] ++ ([] ++ (l.drop (k : Int).toNat).map D2.cs) := by simp
theorem DA3 (l : List D2) (h : D2) (hs : l.Pairwise fun a b => a.Txn < b.Txn) (hl : l.length ≤ 1048576) : L7 270 [AV.list 5 (l.map D2.cs), AV.agg h.cs] [] (fun _ : Value => True) (fun v => [.arr v 256 5 ((Ab6 h l).map D2.cs)]) (fun v => AV.is v) := by
 refine C6 func270 rfl ntmps270 rfl ?_;refine R3 ?_;intro b3;refine zq7 ?_;refine R9 ?_;refine F8 [(0, _), (3, _), (4, _)] _ (fun (k : Nat) => k ≤ l.length ∧ ∀ i y, k ≤ i → l[i]? = some y → h.Txn < y.Txn) (fun k => []) (fun k => [(5, AV.int k)]) (fun k => k) (l.length) ?_ (H0 ⟨E5 (fun z => some (AV.int z)) (by rw [A7]), rfl, rfl, rfl, trivial⟩) ?_
 ·exact ⟨N2 _, fun i y h1 h2 => by (have := (G2.1 h2).1; omega)⟩
 intro k hinv;obtain ⟨y, hy0⟩ : ∃ y : D2, 0 < k → l[k - 1]? = some y := by (by_cases h9 : 0 < k; (have h8 := hinv.1; exact ⟨_, fun _ => P2 (show k - 1 < l.length by omega)⟩); exact ⟨h, fun h8 => absurd h8 h9⟩)
 have hk1 : 0 < k → ((k : Int) - 1).toNat = k - 1 := fun _ => by omega
 refine R9 ?_;refine S5 rfl (X0 rfl rfl rfl) (fun hc => Ac0 rfl G9 N8 (A9 rfl hc) (A9 rfl hc) (by have := AD2 hc; have := hinv.1; omega) (by have h9 := AD2 hc; rw [hk1 qz8, Z5, hy0 qz8]; rfl)) ?_;refine zC ?_ ?_
 ·intro h21;have hkt : 0 < k ∧ h.Txn < y.Txn := by simpa using h21
  refine R7 ?_;refine Ap7 ?_;refine G5 k (k - 1) ?_ ?_ (H0 ⟨E5 (fun z => some (AV.int z)) qz8, rfl, rfl, rfl, trivial⟩)
  ·exact zq99
  omega
 intro h21;have hng : 0 < k → ¬ h.Txn < y.Txn := fun h9 => by simpa [h9] using h21
 have hput : Ab6 h l = l.take k ++ h :: l.drop k := Bo7 hinv.1 (fun i x hi hx => by have h7 := hy0 qz8; have h8 := hng qz8; rcases Nat.lt_or_ge i (k - 1) with h6 | h6; (have := BM1 (f := D2.Txn) hs h6 hx h7; omega); (have : i = k - 1 := qz8; subst this; rw [hx] at h7; injection h7 with h7; subst h7; omega)) (fun x hx => hinv.2 k x (N2 _) hx);rw [hput];refine R3 ?_;refine P4 rfl rfl rfl rfl G9 N8 ?_;intro v24;refine R2 ?_;refine A1 rfl (BR3 rfl G9 N8 zA zA qz8 Aj1) ?_;refine G1 (by' := 72) 0 rfl rfl rfl rfl G9 type256 rfl rfl rfl rfl rfl rfl zA zA rfl (by simp only [Q8, A7, AD4]; omega) ?_;intro v28_1;refine R3 ?_;refine AWP.le (AL9 [0] 6 rfl rfl (K3 (C2 (i := 0) rfl) F6) N7) ?_;refine zq52 ?_;refine R2 ?_;refine P7 rfl rfl rfl (fun ext => AN5 rfl G9 N8 zA zA qz8 Aj1) ?_;refine R3 ?_;refine S8 rfl rfl rfl (AA1 rfl G9 N8) (fun a _ => qz4) ?_;intro v29 _;refine zq86 ?_;intro v33_2 _;refine zq86 ?_;intro v36_3 _;refine zq86 ?_;intro v38_4 _;refine R4 ?_;exact I5 [1] v38_4 (trivial) rfl (by first | rfl | exact E5 (fun z => [Own.arr _ 256 5 z]) (put_csH _ _ _)) (N4 rfl (A8 rfl B8))
theorem Cs2 (l : List D2) (h : D2) (hs : l.Pairwise fun a b => a.Txn < b.Txn) (hl : l.length ≤ 1048576) : E1 270 [AV.list 5 (l.map D2.cs), AV.agg h.cs] (AV.list 5 ((Ab6 h l).map D2.cs)) :=
  N1 (DA3 l h hs hl) fun x _ => K3 (X9.2 rfl) F6
theorem put_csT (l : List G7) (k : Nat) (x : G7) : (l.take k ++ x :: l.drop k).map G7.cs = [] ++ (l.take (k : Int).toNat).map G7.cs ++ [x.cs] ++ ([] ++ (l.drop (k : Int).toNat).map G7.cs) := by simp
theorem DA4 (l : List G7) (h : G7) (hs : l.Pairwise fun a b => a.Txn < b.Txn) (hl : l.length ≤ 1048576) : L7 274 [AV.list 3 (l.map G7.cs), AV.agg h.cs] [] (fun _ : Value => True) (fun v => [.arr v 62 3 ((AX1 h l).map G7.cs)]) (fun v => AV.is v) := by
 refine C6 func274 rfl ntmps274 rfl ?_;refine R3 ?_;intro b3;refine zq7 ?_;refine R9 ?_;refine F8 [(0, _), (3, _), (4, _)] _ (fun (k : Nat) => k ≤ l.length ∧ ∀ i y, k ≤ i → l[i]? = some y → h.Txn < y.Txn) (fun k => []) (fun k => [(5, AV.int k)]) (fun k => k) (l.length) ?_ (H0 ⟨E5 (fun z => some (AV.int z)) (by rw [A7]), rfl, rfl, rfl, trivial⟩) ?_
 ·exact ⟨N2 _, fun i y h1 h2 => by (have := (G2.1 h2).1; omega)⟩
 intro k hinv;obtain ⟨y, hy0⟩ : ∃ y : G7, 0 < k → l[k - 1]? = some y := by (by_cases h9 : 0 < k; (have h8 := hinv.1; exact ⟨_, fun _ => P2 (show k - 1 < l.length by omega)⟩); exact ⟨h, fun h8 => absurd h8 h9⟩)
 have hk1 : 0 < k → ((k : Int) - 1).toNat = k - 1 := fun _ => by omega
 refine R9 ?_;refine S5 rfl (X0 rfl rfl rfl) (fun hc => Ac0 rfl J2 O0 (A9 rfl hc) (A9 rfl hc) (by have := AD2 hc; have := hinv.1; omega) (by have h9 := AD2 hc; rw [hk1 qz8, Z5, hy0 qz8]; rfl)) ?_;refine zC ?_ ?_
 ·intro h21;have hkt : 0 < k ∧ h.Txn < y.Txn := by simpa using h21
  refine R7 ?_;refine Ap7 ?_;refine G5 k (k - 1) ?_ ?_ (H0 ⟨E5 (fun z => some (AV.int z)) qz8, rfl, rfl, rfl, trivial⟩)
  ·exact zq99
  omega
 intro h21;have hng : 0 < k → ¬ h.Txn < y.Txn := fun h9 => by simpa [h9] using h21
 have hput : AX1 h l = l.take k ++ h :: l.drop k := Bo8 hinv.1 (fun i x hi hx => by have h7 := hy0 qz8; have h8 := hng qz8; rcases Nat.lt_or_ge i (k - 1) with h6 | h6; (have := BM1 (f := G7.Txn) hs h6 hx h7; omega); (have : i = k - 1 := qz8; subst this; rw [hx] at h7; injection h7 with h7; subst h7; omega)) (fun x hx => hinv.2 k x (N2 _) hx);rw [hput];refine R3 ?_;refine P4 rfl rfl rfl rfl J2 O0 ?_;intro v24;refine R2 ?_;refine A1 rfl (BR3 rfl J2 O0 zA zA qz8 Aj1) ?_;refine G1 (by' := 24) 0 rfl rfl rfl rfl J2 type62 rfl rfl rfl rfl rfl rfl zA zA rfl (by simp only [Q8, A7, AD4]; omega) ?_;intro v28_1;refine R3 ?_;refine AWP.le (AL9 [0] 6 rfl rfl (K3 (C2 (i := 0) rfl) F6) N7) ?_;refine zq52 ?_;refine R2 ?_;refine P7 rfl rfl rfl (fun ext => AN5 rfl J2 O0 zA zA qz8 Aj1) ?_;refine R3 ?_;refine S8 rfl rfl rfl (AA1 rfl J2 O0) (fun a _ => qz4) ?_;intro v29 _;refine zq89 ?_;intro v33_2 _;refine zq89 ?_;intro v36_3 _;refine zq89 ?_;intro v38_4 _;refine R4 ?_;exact I5 [1] v38_4 (trivial) rfl (by first | rfl | exact E5 (fun z => [Own.arr _ 62 3 z]) (put_csT _ _ _)) (N4 rfl (A8 rfl B8))
theorem Bp3 (l : List G7) (h : G7) (hs : l.Pairwise fun a b => a.Txn < b.Txn) (hl : l.length ≤ 1048576) : E1 274 [AV.list 3 (l.map G7.cs), AV.agg h.cs] (AV.list 3 ((AX1 h l).map G7.cs)) :=
  N1 (DA4 l h hs hl) fun x _ => K3 (X9.2 rfl) F6
theorem DA5 (l : List B6) (w : List A5) (t : Int) (ho : AP2 l) (hs : C9 B6.size l ≤ 1048576) (hw : C9 A5.size w ≤ 1048576) (ht1 : 1 ≤ t) : E1 272 [AV.list 2 (l.map B6.cs), AV.list 3 (w.map A5.cs), AV.int t] (AV.tup [AV.list 2 ((AK3 l w t).1.map B6.cs), AV.bool (AK3 l w t).2]) :=
  N1 (DW6 l w t ho hs hw ht1) fun x h => AV2 (C1 (Ag1 B6.lcM h 0 rfl fun o ho => S7 _ ho) (C1 E4 Y2))
theorem AF8 (l : List Str) (hl : l.length ≤ 4194304) : E1 170 [strs l] (strs l) :=
  N1 (BJ7 l hl) fun x _ => K3 (X9.2 rfl) F6
theorem Bp4 (a b : Int) : E1 211 [AV.int a, AV.int b] (AV.int (if a < b then b else a)) := by
 refine B2 func211 rfl ntmps211 rfl ?_;refine zK ?_ ?_
 ·intro h7 k7;refine R6 ?_;exact D5 rfl (A8 rfl (by exact E5 AV.int (by split <;> omega)))
 intro h7 k7;refine R7 ?_;exact D5 rfl (A8 rfl (by exact E5 AV.int (by split <;> omega)))
theorem DA6 (s : E9) (r : N9) (g : SO s) (hs : s.size ≤ 300000) (hrs : r.size ≤ 300000) : E1 234 [AV.agg s.cs, AV.agg r.cs] (AV.tup [AV.agg (W6 s r).1.cs, AV.bool (W6 s r).2]) := by
 obtain ⟨hs1, hs2, hs3, hs4, hs5⟩ := AG7 hs;have hgc := g.cells;have hgh := g.hsort;have hgt := g.tsort;have hr2 : r.size = C9 (fun x : Str => x.length) r.Reads + C9 A5.size r.Writes := rfl;have hr3 := O2 (f := fun x : Str => x.length) (l := r.Reads);have hr4 := O2 (f := A5.size) (l := r.Writes);have hho := Bo9 s.Held r.Txn;have hto := DX2 s.Told r.Txn;obtain ⟨h, hh⟩ : ∃ h, (AS9 s.Held r.Txn).1 = h := ⟨_, rfl⟩;have hf1 : AX0 s.Held r.Txn = true → AH7 s.Held r.Txn = some h := fun e => by
  rw [← hho] at e;unfold AS9 at hh e
  cases hf : AH7 s.Held r.Txn with
  | none => rw [hf] at e; cases e
  | some x => rw [hf] at hh; exact E5 some hh
 have hf0 : AX0 s.Held r.Txn = false → AH7 s.Held r.Txn = none := fun e => BJ0.2 e;have hhs : AX0 s.Held r.Txn = true → h.size ≤ 300000 ∧ 1 ≤ h.Time := fun e => by
  obtain ⟨h1, h2⟩ := Ao1 (hf1 e);obtain ⟨i, hi⟩ := i7 h1;exact ⟨(AQ6 hs2 hi).1, g.times h h1⟩
 refine B2 func234 rfl ntmps234 rfl ?_;refine R3 ?_;intro b2;refine R1 ?_;intro b3;refine R1 ?_;intro b4;refine R5 ?_;refine A1 rfl (A6 rfl call268 rfl (Cf9 s qz8) I4) ?_;refine R1 ?_;intro b6;refine R7 ?_;refine A1 rfl (A6 rfl call269 rfl (Am3 s r.Txn qz8) F4) ?_;refine R4 ?_;intro b7;refine R8 ?_;refine A1 rfl (A6 rfl call123 rfl (AM1 s r.Txn qz8) F4) ?_;refine R4 ?_;intro b9;refine R6 ?_;rw [hh];rw [hho, hto];refine R6 ?_;refine A3 ?_ ?_
 ·intro h29;have hk : r.Kind = 4 := by simpa using h29
  have he : W6 s r = (⟨r.Time, s.Cells, s.Held, s.Told⟩, decide (s.Floor < r.Time)) := by (unfold W6; rw [D3 hk])
  rw [he];refine R8 ?_;refine AWP.le (B4 [2, 3, 3] rfl) ?_;refine V9 _ 7 (.pure 0 (.pure 1 (.pure 2 (.pure 3 (.pure 4 (.pure 5 (.e1 6 .nil))))))) E6 E6 rfl (S1 3) ?_;refine R7 ?_;refine AK5 rfl rfl rfl (o7 5 rfl rfl (A0 rfl) (A0 rfl) (i3 _) rfl M2 rfl) (fun a _ => qz4) ?_;intro _ _;refine R4 ?_;exact Y9 rfl D4 (I1 (F5 (ys := _) 5 rfl rfl Q1 M2 rfl) Z9)
 intro h29;have hk4 : r.Kind ≠ 4 := by simpa using h29
 refine R5 ?_;refine A3 ?_ ?_
 ·intro h42;have he : W6 s r = (s, false) := by (unfold W6; rw [C5 hk4, D3 h42])
  rw [he];refine R7 ?_;exact Y9 rfl D4 (I1 (F5 (ys := _) 3 rfl rfl Q1 M2 rfl) Z9)
 intro h42;have hT : AT8 s.Told r.Txn = false := h42;have hnT : ¬ AT8 s.Told r.Txn = true := by (rw [hT]; decide)
 refine R7 ?_;refine A3 ?_ ?_
 ·intro h45;have hk1 : r.Kind = 1 := by simpa using h45
  have he : W6 s r = (⟨r.Time, s.Cells, Ab6 (hOf r) s.Held, s.Told⟩, (!AX0 s.Held r.Txn && decide (s.Floor < r.Time)) && fits s r.Reads r.Writes) := by (unfold W6; rw [C5 hk4, C5 hnT, D3 hk1])
  rw [he];refine R1 ?_;refine O5 _ [(0, false), (1, false), (2, false), (3, false), (4, false), (5, false), (6, false), (7, false), (8, false), (9, false), (10, false), (12, false), (13, false), (11, true), (14, true), (15, false)] E6 E6 rfl Ae8 ?_;refine R10 ?_;refine P7 rfl rfl rfl (fun ext => A6 rfl call170 rfl (AF8 _ qz8) (A2 (A0 rfl) B0)) ?_;refine R2 ?_;refine S8 rfl rfl rfl (AA1 rfl F3 K9) (fun a _ => qz4) ?_;intro v60 _;refine S8 rfl rfl rfl (AZ2 [6] (fun _ => rfl) (fun _ => K3 (C2 (i := 0) rfl) F6) (fun _ => AU4) (L9 (by' := 40) 6 rfl F3 type82 rfl rfl rfl rfl rfl rfl (A0 rfl) (A0 rfl) rfl Bb4)) (fun a _ => qz4) ?_;intro v63_1 _;refine R2 ?_;refine A1 rfl (A6 rfl call270 rfl (Cs2 s.Held (hOf r) hgh qz8) F4) ?_;refine R11 ?_;refine AWP.le (B4 [2, 3, 3] rfl) ?_;refine V9 _ 19 (.pure 0 (.pure 1 (.pure 2 (.pure 3 (.pure 4 (.pure 5 (.pure 6 (.pure 7 (.pure 8 (.pure 9 (.pure 10 (.pure 11 (.pure 12 (.pure 13 (.pure 14 (.pure 15 (.pure 16 (.pure 17 (.e1 18 .nil))))))))))))))))))) E6 E6 rfl (S1 3) ?_;refine R4 ?_;refine Al2 rfl rfl (X0 rfl rfl rfl) (fun hc ext => BX5 2 rfl underlying190 rfl F2 (A0 rfl) rfl) ?_;refine Al2 rfl rfl (X0 rfl rfl rfl) (fun hc ext => BM8 1 rfl (A9 rfl hc) rfl Q4 rfl) ?_;refine Al2 rfl rfl (X0 rfl rfl rfl) (fun hc ext => BX5 0 rfl AA9 rfl F2 (A0 rfl) rfl) ?_;refine Al2 rfl rfl (X0 rfl rfl rfl) (fun hc ext => BM8 2 rfl (A9 rfl hc) rfl Q4 rfl) ?_;refine Al2 rfl rfl (X0 rfl rfl rfl) (fun hc ext => w_gtr rfl (A9 rfl hc) (A9 rfl hc)) ?_;refine R2 ?_;refine Al2 rfl rfl (X0 rfl rfl rfl) (fun hc ext => DD6 2 rfl (A0 rfl) rfl Q1 M2 rfl) ?_;refine Al2 rfl rfl (X0 rfl rfl rfl) (fun hc ext => BX5 4 rfl underlying190 rfl AI8 (A0 rfl) rfl) ?_;refine Al2 rfl rfl (X0 rfl rfl rfl) (fun hc ext => BM8 1 rfl (A9 rfl hc) rfl isAgg25 rfl) ?_;refine Al2 rfl rfl (X0 rfl rfl rfl) (fun hc ext => BX5 5 rfl underlying190 rfl Ad6 (A0 rfl) rfl) ?_;refine Al2 rfl rfl (X0 rfl rfl rfl) (fun hc ext => BM8 1 rfl (A9 rfl hc) rfl isAgg43 rfl) ?_;refine Al2 rfl rfl (X0 rfl rfl rfl) (fun hc ext => A6 rfl call271 rfl (CK1 s r.Reads r.Writes qz8 qz8) (A2 (A9 rfl hc) (A2 (A9 rfl hc) (A2 (A9 rfl hc) B0)))) ?_;refine R2 ?_;refine AK5 rfl rfl rfl (o7 5 rfl rfl (A0 rfl) (A0 rfl) (i3 _) rfl M2 rfl) (fun a _ => qz4) ?_;intro _ _;refine R4 ?_;exact Y9 rfl D4 (I1 (F5 (ys := _) 5 rfl rfl Q1 M2 rfl) Z9)
 intro h45;have hk1 : r.Kind ≠ 1 := by simpa using h45
 have hap : W6 s r = (if r.Yes = true then (match AH7 s.Held r.Txn with | none => (s, false) | some h => if r.Time < h.Time then (s, false) else if (AK3 s.Cells h.Writes r.Time).2 = true then (AQ1 s r (if s.Floor < r.Time then r.Time else s.Floor) (AK3 s.Cells h.Writes r.Time).1, true) else (s, false)) else (AQ1 s r s.Floor s.Cells, true)) := by (unfold W6; rw [C5 hk4, C5 hnT, C5 hk1]; rfl)
 refine R6 ?_;refine A3 ?_ ?_
 ·intro h88;refine R13 ?_;refine A3 ?_ ?_
  ·intro h99;have he : W6 s r = (s, false) := by (rw [hap, D3 h88]; cases e : AX0 s.Held r.Txn with | false => (rw [hf0 e]) | true => (rw [hf1 e]; dsimp only; rw [D3 (by rw [e] at h99; simpa using h99)]))
   rw [he];refine R7 ?_;exact Y9 rfl D4 (I1 (F5 (ys := _) 3 rfl rfl Q1 M2 rfl) Z9)
  intro h99;simp only [AE4, AJ5, AH1] at h99;obtain ⟨hhas, hnlt⟩ := h99;obtain ⟨hz1, hz2⟩ := hhs hhas;have hz3 : h.size = C9 (fun x => x.length) h.Reads + C9 A5.size h.Writes := rfl;refine R9 ?_;refine A1 rfl (A6 rfl call272 rfl (DA5 s.Cells h.Writes r.Time hgc qz8 qz8 qz8) AJ2) ?_;refine R12 ?_;refine A3 ?_ ?_
  ·intro h112;have he : W6 s r = (s, false) := by (rw [hap, D3 h88, hf1 hhas]; dsimp only; rw [C5 qz8, C5 (by simpa using h112)])
   rw [he];refine R7 ?_;exact Y9 rfl D4 (I1 (F5 (ys := _) 3 rfl rfl Q1 M2 rfl) Z9)
  intro h112;have he : W6 s r = (AQ1 s r (if s.Floor < r.Time then r.Time else s.Floor) (AK3 s.Cells h.Writes r.Time).1, true) := by (rw [hap, D3 h88, hf1 hhas]; dsimp only; rw [C5 qz8, D3 (by simpa using h112)])
  rw [he];unfold AQ1;refine R12 ?_;refine A1 rfl (A6 rfl call211 rfl (Bp4 _ _) F4) ?_;refine R9 ?_;refine A1 rfl (A6 rfl call273 rfl (Cc0 s.Held r.Txn qz8) F4) ?_;refine R14 ?_;refine A1 rfl (A6 rfl call274 rfl (Bp3 s.Told ⟨r.Txn, r.Yes, r.Time⟩ hgt qz8) F4) ?_;refine R10 ?_;exact Y9 rfl D4 (I1 (F5 (ys := _) 3 rfl rfl Q1 M2 rfl) Z9)
 intro h88;have he : W6 s r = (AQ1 s r s.Floor s.Cells, true) := by (rw [hap, C5 (by rw [h88]; decide)])
 rw [he];unfold AQ1;refine R7 ?_;refine A1 rfl (A6 rfl call273 rfl (Cc0 s.Held r.Txn qz8) F4) ?_;refine R14 ?_;refine A1 rfl (A6 rfl call274 rfl (Bp3 s.Told ⟨r.Txn, r.Yes, r.Time⟩ hgt qz8) F4) ?_;refine R10 ?_;exact Y9 rfl D4 (I1 (F5 (ys := _) 3 rfl rfl Q1 M2 rfl) Z9)
theorem DA7 (s : E9) (k : Str) (t : Int) (hs : s.size ≤ 1048576) : L7 289 [AV.agg s.cs, AV.str k, AV.int t] [] (fun _ : Value => True) (fun x => [.arr x 3 1 ((AW2 s.Held k t).map fun n => [AV.int n])]) (fun x => AV.is x) := by
 obtain ⟨hs1, hs2, hs3, hs4, hs5⟩ := AG7 hs;refine C6 func289 rfl ntmps289 rfl ?_;refine R3 ?_;intro b3;refine zq7 ?_;refine R3 ?_;refine V0 3 1 rfl rfl rfl rfl I2 ?_;intro v7;refine R10 ?_;refine V8 [(1, _), (2, _), (6, _), (11, _), (12, _)] _ (fun (i : Nat) (v : Value) (ns : List Int) => i ≤ s.Held.length ∧ ns = AW2 (s.Held.take i) k t) (fun i v ns => [.arr v 3 1 (ns.map fun n => [AV.int n])]) (fun i v ns => [(7, AV.is v), (13, AV.int i)]) (fun i v ns => s.Held.length - i) (0) (v7) ([]) ?_ (K5 B8 A4) ?_
 ·exact zq8
 intro i v ns hinv;refine zK ?_ ?_
 ·intro h14 k14;have hlt : i < s.Held.length := by omega
  obtain ⟨h, hx⟩ := B3 hlt;have hnl : ns.length ≤ 1048576 := by (rw [hinv.2]; have h9 := DM4 (s.Held.take i) k t; rw [H4] at h9; omega)
  refine zq0 ?_;intro b9;refine R12 ?_;refine J6 rfl (fun hc => zG rfl call323 (BJ8 _ _) zS) ?_;refine zC ?_ ?_
  ·intro h26;refine R5 ?_;refine G1 (by' := 8) 1 rfl rfl rfl rfl H7 type3 rfl rfl rfl rfl rfl rfl zA zA rfl qz3 ?_;intro v31_1;refine R6 ?_;refine P6 i v ns (i + 1) (v31_1) (ns ++ [h.Txn]) ?_ ?_ (Le.trans (B4 [0, 0] rfl) (C7 1 BI2 A4))
   ·first | exact ⟨by omega, by rw [CJ5 hx Ci7, hinv.2]⟩ | exact ⟨by omega, by rw [Cb2 hx Ci7, hinv.2]⟩
   omega
  intro h26;refine R5 ?_;refine P6 i v ns (i + 1) (v) (ns) ?_ ?_ (Le.trans (B4 [0, 0] rfl) (C7 1 BI2 A4))
  ·first | exact ⟨by omega, by rw [CJ5 hx Ci7, hinv.2]⟩ | exact ⟨by omega, by rw [Cb2 hx Ci7, hinv.2]⟩
  omega
 intro h14 k14;have hge : s.Held.length ≤ i := by omega
 have hns := hinv.2;rw [T4 hge] at hns;rw [← hns];exact zq82
theorem Bp5 (s : E9) (k : Str) (t : Int) (hs : s.size ≤ 1048576) : E1 289 [AV.agg s.cs, AV.str k, AV.int t] (ints (AW2 s.Held k t)) :=
  N1 (DA7 s k t hs) fun x _ => K3 (X9.2 rfl) F6
theorem of_own (l : List N9) (hl : l.length ≤ 60) (hr : ∀ r ∈ l, r.size ≤ 1100) : L7 201 [AV.list 7 (l.map N9.cs)] [] (fun _ : Value => True) (fun x => [.arr x 4 1 ((Ae1 U9 l).map fun b => [AV.bool b])]) (fun x => AV.tup [AV.agg (Y3 U9 l).cs, AV.is x]) := by
 have hgs : ∀ i, SO (Y3 U9 (l.take i)) := fun i => DG4 so_zero;have hsz : ∀ i, (Y3 U9 (l.take i)).size ≤ 300000 := fun i => by
  have h1 := Cr1 (Y3 U9 (l.take i));have h2 := CC7 (m := 1100) (s := U9) (l := l.take i) fun r hr2 => hr r (AW6 hr2);have h3 : phi U9 = 0 := rfl;have h4 : (l.take i).length ≤ 60 := by rw [H4]; omega
  omega
 refine C6 func201 rfl ntmps201 rfl ?_;refine R3 ?_;intro b2;refine zq7 ?_;refine R4 ?_;intro b4;refine R3 ?_;refine V0 4 1 rfl rfl rfl rfl I2 ?_;intro v5;refine R3 ?_;refine AWP.le (AG9 1 1 2 rfl rfl N7) ?_;refine AWP.le (AG9 1 2 5 rfl rfl N7) ?_;refine AWP.le (AG9 1 3 3 rfl rfl N7) ?_;refine R6 ?_;refine zL [1, 0] ?_;refine V8 [(2, _), (3, _), (4, _), (10, _), (11, _)] _ (fun (i : Nat) (v : Value) (bs : List Bool) => i ≤ l.length ∧ bs = Ae1 U9 (l.take i) ∧ bs.length ≤ i) (fun i v bs => [.box b4 60 (Y3 U9 (l.take i)).cs, .arr v 4 1 (bs.map fun b => [AV.bool b])]) (fun i v bs => [(5, AV.is v), (12, AV.int i)]) (fun i v bs => l.length - i) (0) (v5) ([]) ?_ (K5 B8 A4) ?_
 ·exact ⟨E2 _, rfl, N2 _⟩
 intro i v bs hinv;refine zK ?_ ?_
 ·intro h13 k13;have hlt : i < l.length := by omega
  obtain ⟨r, hx⟩ := B3 hlt;have hgr := hr r (C2 hx);have hgi := hgs i;have hsi := hsz i;refine zq0 ?_;intro b7;refine R6 ?_;refine zF rfl call234 (DA6 (Y3 U9 (l.take i)) r hgi qz8 qz8) F4 ?_;refine R4 ?_;intro b8;refine zC ?_ ?_
  ·intro h22;have hstep : (W6 (Y3 U9 (l.take i)) r).1 = AJ9 (Y3 U9 (l.take i)) r := by (unfold AJ9; rw [D3 h22])
   refine R8 ?_;refine zq74 ?_;intro v27_1;refine R6 ?_;refine P6 i v bs (i + 1) (v27_1) (bs ++ [(W6 (Y3 U9 (l.take i)) r).2]) ?_ ?_ (Le.trans (B4 [0, 0, 0, 0] rfl) (C7 2 Cj3 A4))
   ·exact ⟨by omega, by rw [Ay3 hx, hinv.2.1], by rw [G3]; simp; omega⟩
   omega
  intro h22;have hstep : Y3 U9 (l.take i) = AJ9 (Y3 U9 (l.take i)) r := by (conv => rhs; unfold AJ9; rw [C5 (by rw [h22]; decide)])
  refine R5 ?_;refine zq74 ?_;intro v27_2;refine R6 ?_;refine P6 i v bs (i + 1) (v27_2) (bs ++ [(W6 (Y3 U9 (l.take i)) r).2]) ?_ ?_ (Le.trans (B4 [0, 0, 0, 0] rfl) (C7 2 Cj3 A4))
  ·exact ⟨by omega, by rw [Ay3 hx, hinv.2.1], by rw [G3]; simp; omega⟩
  omega
 intro h13 k13;have hge : i = l.length := by omega
 have hbs := hinv.2.1;rw [hge, AM2] at hbs;rw [hge, AM2, ← hbs];exact zq181
theorem ofF_spec (l : List N9) (hl : l.length ≤ 60) (hr : ∀ r ∈ l, r.size ≤ 1100) : E1 201 [AV.list 7 (l.map N9.cs)] (AV.tup [AV.agg (Y3 U9 l).cs, AV.list 1 ((Ae1 U9 l).map fun b => [AV.bool b])]) :=
  N1 (of_own l hl hr) fun x _ => AV2 (C1 E4 (C1 (K3 (C2 (i := 0) rfl) F6) Y2))
end Go.PQ
namespace Go.PQ
open Go.Proofs Go.Proofs.Tryz
open Go Go.AV Go.M
attribute [local irreducible] OpW OpA OpS AWP K6 L8 K8 OpE K7 I7 L1 Le Ev G4 M7 Int.tmod IntKind.wrap T3
theorem DN5 (b : Nat) (code : List Int) (hcode : AB3 code) (c : Z3) (hp : c.p ≤ 6000000) : L7 140 [AV.ptr b 0] [.box b 86 (Y0 code c)] (fun x : Z3 × Str => x.1.p ≤ c.p + 2 ∧ x.2.length ≤ 64) (fun x => [.box b 86 (Y0 code x.1)]) (fun x => AV.str x.2) := by
  refine C6 func140 rfl ntmps140 rfl ?_;refine R2 ?_;refine zq36 ?_;refine zI [0] rfl call180 (DV8 _ _ hcode _ ([[], [49], [55], [49, 48], [45, 51], [120], [97, 44, 98, 95, 99]] : List Str) D4 qz8) (A2 (A0 rfl) (A2 (A0 rfl) B0)) rfl ?_;intro x5 ok5;refine R3 ?_
  (refine I5 [0] ((_, _)) ?_ rfl n9 M9; exact ok5)
attribute [local irreducible] Int.tdiv
theorem AG8 (a b : Int) : E1 211 [AV.int a, AV.int b] (AV.int (if b < a then a else b)) := by
 refine B2 Tryz.func211 rfl Tryz.ntmps211 rfl ?_;refine zC ?_ ?_
 ·intro h7;rw [D3 (AD2 h7)];exact zq151
 intro h7;rw [C5 (BK3 h7)];refine R7 ?_;exact zq5
attribute [local irreducible] j0
theorem DA8 (a b : N9) (hs : a.size ≤ 1048576) : E1 358 [AV.agg a.cs, AV.agg b.cs] (AV.bool (decide (a = b))) := by
 have hl1 := O2 (f := fun s : Str => s.length) (l := a.Reads);have hl2 := O2 (f := A5.size) (l := a.Writes);have hs9 : C9 (fun s : Str => s.length) a.Reads + C9 A5.size a.Writes ≤ 1048576 := hs;refine B2 func358 rfl ntmps358 rfl ?_;refine R3 ?_;intro b2;refine R1 ?_;intro b3;refine R36 ?_;refine T6 rfl (fun hc => CF2 rfl W4 (A9 rfl hc) (A9 rfl hc)) ?_;refine zC ?_ ?_
 ·intro h57;have hne : a ≠ b := fun e => (by subst e; simp at h57);rw [AP9 hne];exact zq63
 intro h57;have hh := h57;simp only [AE4, bne_eq_false_iff_eq, A7] at hh;refine R7 ?_;refine F8 [(2, _), (3, _)] _ (fun (i : Nat) => i ≤ a.Reads.length ∧ a.Reads.take i = b.Reads.take i) (fun i => []) (fun i => [(5, AV.int i)]) (fun i => a.Reads.length - i) (0) ?_ (H0 A4) ?_
 ·exact zq8
 intro i hinv;refine zK ?_ ?_
 ·intro h62 k62;have hlt : i < a.Reads.length := (by simpa using h62);obtain ⟨x, hx⟩ := B3 hlt;obtain ⟨y, hy⟩ := B3 (show i < b.Reads.length by omega);refine R8 ?_;refine zq168 ?_;refine R4 ?_;refine B7 rfl rfl (zX hy) ?_;refine zC ?_ ?_
  ·intro h75;have hne : a ≠ b := fun e => (by subst e; rw [hx] at hy; injection hy with hy; simp [hy] at h75);rw [AP9 hne];exact zq63
  intro h75;refine R6 ?_;refine G5 i (i + 1) ?_ ?_ (H0 A4)
  ·exact ⟨by omega, by rw [W1, W1, hinv.2, hx, hy]; congr 2; simpa using h75⟩
  omega
 intro h62 k62;have hge : a.Reads.length ≤ i := (by simpa using h62);have hreads : a.Reads = b.Reads := (by have h9 := hinv.2; rw [T4 qz8, T4 qz8] at h9; exact h9);refine R7 ?_;refine F8 [(2, _), (3, _)] _ (fun (j : Nat) => j ≤ a.Writes.length ∧ a.Writes.take j = b.Writes.take j) (fun j => []) (fun j => [(6, AV.int j)]) (fun j => a.Writes.length - j) (0) ?_ (H0 A4) ?_
 ·exact zq8
 intro j hinv;refine zK ?_ ?_
 ·intro h80 k80;have hlt1 : j < a.Writes.length := (by simpa using h80);obtain ⟨u, hu⟩ := B3 hlt1;obtain ⟨v, hv⟩ := B3 (show j < b.Writes.length by omega);refine R8 ?_;refine B7 rfl rfl (zX hu) ?_;refine R4 ?_;refine B7 rfl rfl (zX hv) ?_;refine zq126 ?_;refine zC ?_ ?_
  ·intro h93;have hne : a ≠ b := fun e => (by subst e; rw [hu] at hv; injection hv with hv; rw [Ca9] at h93; simp [hv] at h93);rw [AP9 hne];exact zq63
  intro h93;refine R6 ?_;refine G5 j (j + 1) ?_ ?_ (H0 A4)
  ·exact ⟨by omega, by rw [W1, W1, hinv.2, hu, hv]; congr 2; rw [Ca9] at h93; simpa using h93⟩
  omega
 intro h80 k80;have hge1 : a.Writes.length ≤ j := (by simpa using h80);have hwrites : a.Writes = b.Writes := (by have h9 := hinv.2; rw [T4 qz8, T4 qz8] at h9; exact h9);have hyes : a = b := (by cases a; cases b; simp_all);rw [q8 hyes];exact zq151
theorem CU2 (a b : List K4) (n : Nat) (hs : ∀ e ∈ a, e.size ≤ 1048576) (hn : n ≤ 1048576) : E1 339 [AV.list 8 (a.map K4.cs), AV.list 8 (b.map K4.cs), AV.int (n : Int)] (AV.bool (Aa2 a b n)) := by
 refine B2 func339 rfl ntmps339 rfl ?_;refine zC ?_ ?_
 ·intro h17;have he : Aa2 a b n = false := (by unfold Aa2; refine AP9 fun hc => ?_; simp only [A7, AB1, H5] at h17; omega);rw [he];exact zq63
 intro h17;have hh := h17;simp only [A7, AE4, AH1] at hh;refine R7 ?_;refine F8 [(0, _), (1, _), (2, _)] _ (fun (i : Nat) => i ≤ n ∧ a.take i = b.take i) (fun i => []) (fun i => [(7, AV.int i)]) (fun i => n - i) (0) ?_ (H0 A4) ?_
 ·exact zq8
 intro i hinv;refine zK ?_ ?_
 ·intro h20 k20;have hlt : i < n := by omega
  obtain ⟨x, hx⟩ := B3 (show i < a.length by omega);obtain ⟨y, hy⟩ := B3 (show i < b.length by omega);have hxs : x.Rec.size ≤ 1048576 := hs x (C2 hx);refine R7 ?_;refine zq168 ?_;refine R4 ?_;refine B7 rfl rfl (zX hy) ?_;refine R6 ?_;refine S5 rfl (i5 rfl rfl rfl) (fun hc => C8 rfl P8 X2 (A9 rfl hc) (A9 rfl hc) hx qz6) ?_;refine R4 ?_;refine S5 rfl (i5 rfl rfl rfl) (fun hc => C8 rfl P8 X2 (A9 rfl hc) (A9 rfl hc) hy qz6) ?_;refine R2 ?_;refine S5 rfl (i5 rfl rfl rfl) (fun hc => zG rfl call358 (DA8 _ _ W5) (A2 (A9 rfl hc) (A2 (A9 rfl hc) B0))) ?_;refine zC ?_ ?_
  ·intro h47;have he : Aa2 a b n = false := DX5 hlt hx hy (by rw [entry_eq] at h47; simpa using h47);rw [he];exact zq63
  intro h47;refine R6 ?_;refine G5 i (i + 1) ?_ ?_ (H0 A4)
  ·exact ⟨by omega, Cz6 hinv.2 hx hy (by rw [entry_eq] at h47; simpa using h47)⟩
  omega
 intro h20 k20;have hge : i = n := by omega
 subst hge;have he : Aa2 a b i = true := (by unfold Aa2; exact q8 ⟨by omega, by omega, hinv.2⟩);rw [he];exact zq151
theorem Cg0 (a b : List K4) (n : Nat) (hs : C9 K4.size a ≤ 1048576) (hn : n ≤ 1048576) : E1 339 [AV.list 8 (a.map K4.cs), AV.list 8 (b.map K4.cs), AV.int (n : Int)] (AV.bool (Aa2 a b n)) :=
  CU2 a b n (fun e he => by obtain ⟨i, hi⟩ := i7 he; exact L4 (Y4 (f := K4.size) hi) hs) hn
theorem Bp6 (l : List K4) (hs : C9 K4.size l ≤ 1048576) : L7 241 [AV.list 8 (l.map K4.cs)] [] (fun _ : Value => True) (fun v => [.arr v 192 8 (l.map K4.cs)]) (fun v => AV.is v) := by
 have hll : l.length ≤ 1048576 := L4 O2 hs;refine C6 func241 rfl ntmps241 rfl ?_;refine zq104 ?_;refine P4 rfl rfl rfl rfl P8 X2 ?_;intro v6;refine R8 ?_;refine zL [0] ?_;refine J5 [(0, _), (2, _)] _ (fun (i : Nat) (v : Value) => i ≤ l.length) (fun i v => [.arr v 192 8 ((l.take i).map K4.cs)]) (fun i v => [(3, AV.is v), (4, AV.int i)]) (fun i v => l.length - i) (0) (v6) ?_ (K5 B8 A4) ?_
 ·exact E2 _
 intro i v hinv;refine zK ?_ ?_
 ·intro h10 k10;have hlt : i < l.length := Ab9;obtain ⟨x, hx⟩ := B3 hlt;have hsx : K4.size x ≤ 1048576 := L4 (Y4 hx) hs;have hsr : C9 (fun s : Str => s.length) x.Rec.Reads + C9 A5.size x.Rec.Writes ≤ 1048576 := hsx;have hl1 := O2 (f := fun s : Str => s.length) (l := x.Rec.Reads);have hl2 := O2 (f := A5.size) (l := x.Rec.Writes);refine R7 ?_;refine A1 rfl (zX hx) ?_;refine R2 ?_;intro b5;refine R4 ?_;refine P4 rfl rfl rfl rfl F0 K1 ?_;intro v17;refine R3 ?_;refine G1 (by' := 16) 0 rfl rfl rfl rfl F0 type9 rfl rfl rfl rfl rfl rfl zA zA rfl (by simp only [A7, Q8]; omega) ?_;intro v21_1;refine R2 ?_;refine O4 0 rfl fun one_v21_1 => ?_;refine M4 1 rfl rfl rfl zA zA (L2 one_v21_1) rfl AI8 rfl ?_;refine R3 ?_;refine zq171 ?_;intro v24;refine R3 ?_;refine G1 (by' := 40) 0 rfl rfl rfl rfl F3 type82 rfl rfl rfl rfl rfl rfl zA zA rfl (by simp only [A7, Q8]; omega) ?_;intro v28_2;refine R2 ?_;refine O4 0 rfl fun one_v28_2 => ?_;refine M4 2 rfl rfl rfl zA zA (L2 one_v28_2) rfl Ad6 rfl ?_;refine R1 ?_;refine AWP.le (Ag2 [1, 0] 0 (.box b5 192 x.cs) rfl rfl ⟨rfl, rfl, (C1 E4 (C1 E4 (C1 E4 (C1 E4 (C1 E4 (C1 (K3 (C2 (i := 0) rfl) F6) (C1 (K3 (C2 (i := 1) rfl) F6) (C1 E4 Y2))))))))⟩ N7) ?_;refine R4 ?_;refine G1 (by' := 96) 1 rfl rfl rfl rfl P8 type192 rfl rfl rfl rfl rfl rfl zA zA rfl Bk2 ?_;intro v34_3;refine R7 ?_;refine G0 i v (i + 1) (v34_3) ?_ ?_ (Le.trans (B4 [0, 0] rfl) (C7 1 (by (rw [BR6 hx, X8]; rfl)) A4))
  ·exact qz8
  omega
 intro h10 k10;have hge : l.length ≤ i := Ab9;rw [T4 hge];exact zq82
theorem BH3 (l : List K4) (hs : C9 K4.size l ≤ 1048576) : E1 241 [AV.list 8 (l.map K4.cs)] (AV.list 8 (l.map K4.cs)) :=
  N1 (Bp6 l hs) fun x _ => K3 (C2 (i := 0) rfl) F6
def D0.fcs (g : D0) (v : Value) : List AV := [AV.is v, AV.int g.Term, AV.int g.Lead]
def D0.fow (g : D0) (v : Value) : List Own := [.arr v 141 3 (g.Reps.map F7.cs)]
theorem D0.fl (g : D0) (v : Value) : AS5 (D0.fow g v) (AV.agg (D0.fcs g v)) (AV.agg g.cs) := AQ5 (C1 (K3 (C2 (i := 0) rfl) F6) (C1 E4 (C1 E4 Y2)))
theorem Av6 (g : D0) (hs : g.size ≤ 1048576) : L7 209 [AV.agg g.cs] [] (fun _ : Value => True) (fun v => D0.fow g v) (fun v => AV.agg (D0.fcs g v)) := by
 have hrs : C9 F7.size g.Reps ≤ 1048576 := hs;have hll : g.Reps.length ≤ 1048576 := L4 O2 hrs;refine C6 func209 rfl ntmps209 rfl ?_;refine R3 ?_;intro b1;refine R1 ?_;intro b2;refine R3 ?_;refine P4 rfl rfl rfl rfl I0 L0 ?_;intro v5;refine R4 ?_;refine O4 0 rfl fun one_v5 => ?_;refine zq117 ?_;intro b3;refine R8 ?_;refine zL [0, 0] ?_;refine J5 [(1, _), (2, _), (3, _)] _ (fun (i : Nat) (v : Value) => i ≤ g.Reps.length) (fun i v => [.box b3 93 (D0.fcs g v), .arr v 141 3 ((g.Reps.take i).map F7.cs)]) (fun i v => [(4, AV.int i)]) (fun i v => g.Reps.length - i) (0) (v5) ?_ (K5 B8 A4) ?_
 ·exact E2 _
 intro i v hinv;refine zK ?_ ?_
 ·intro h15 k15;have hlt : i < g.Reps.length := Bb0;obtain ⟨x, hx⟩ := B3 hlt;have hsx : C9 K4.size x.Log ≤ 1048576 := L4 (Y4 (f := F7.size) hx) hrs;refine R3 ?_;refine M6 23 E6 E6 rfl ?_;refine R5 ?_;refine zq168 ?_;refine R5 ?_;refine zq168 ?_;refine R2 ?_;refine B7 rfl rfl (zG rfl call241 (BH3 x.Log hsx) I4) ?_;refine R3 ?_;refine zq168 ?_;refine R5 ?_;refine G1 (by' := 40) 1 rfl rfl rfl rfl I0 type141 rfl rfl rfl rfl rfl rfl zA zA rfl Bk2 ?_;intro v41_1;refine R1 ?_;refine O4 1 rfl fun one_v41_1 => ?_;refine M4 0 rfl rfl rfl zA zA (L2 one_v41_1) rfl Ad7 rfl ?_;refine R6 ?_;refine G0 i v (i + 1) (v41_1) ?_ ?_ (Le.trans (B4 [0, 0] rfl) (K5 (by (rw [BR6 hx, X8]; rfl)) A4))
  ·exact qz8
  omega
 intro h15 k15;have hge : g.Reps.length ≤ i := Bb0;rw [T4 hge];refine R7 ?_;exact I5 [1] v (trivial) rfl B8 (N4 rfl (F5 (ys := _) 2 rfl rfl P5 E7 rfl))
theorem CK2 (r : F7) (t : Int) (hll : r.Log.length ≤ 1048576) (hs : ∀ e ∈ r.Log, e.size ≤ 1048576) : E1 117 [AV.agg r.cs, AV.int t] (AV.bool (AF1 r t)) := by
 refine B2 func117 rfl ntmps117 rfl ?_;refine R3 ?_;intro b2;refine R19 ?_;refine T6 rfl (fun hc => zG rfl call71 (Q0 _ _ _) zS) ?_;refine zC ?_ ?_
 ·intro h19;have he : AF1 r t = false := (by unfold AF1; simp only [A7, AB1, H5, q7] at h19; rcases h19 with k | k; (rw [AP9 qz8]; rfl); (rw [k]; simp));rw [he];exact zq63
 intro h19;have hh := h19;simp only [A7, AE4, AH1, AJ5] at hh;have hg : AF1 r t = Aa1 t 1 r.Log := (by unfold AF1; rw [q8 qz8, hh.2]; rfl);refine R7 ?_;refine J5 [(1, _), (2, _)] _ (fun (i : Nat) (p : Int) => i ≤ r.Log.length ∧ Aa1 t 1 r.Log = Aa1 t p (r.Log.drop i)) (fun i p => []) (fun i p => [(5, AV.int p), (6, AV.int i)]) (fun i p => r.Log.length - i) (0) (1) ?_ (H0 A4) ?_
 ·exact zq8
 intro i p hinv;refine zK ?_ ?_
 ·intro h24 k24;have hlt : i < r.Log.length := (by simpa using h24);obtain ⟨x, hx⟩ := B3 hlt;have hsx : x.Rec.size ≤ 1048576 := hs x (C2 hx);refine R9 ?_;refine A1 rfl (zX hx) ?_;refine R4 ?_;refine zF rfl call71 (Q0 _ _ _) AJ2 ?_;refine R5 ?_;refine T6 rfl (fun hc => C8 rfl P8 X2 (A9 rfl hc) (A9 rfl hc) hx qz6) ?_;refine R2 ?_;refine T6 rfl (fun hc => zG rfl call162 (BO1 _ W5) (A2 (A9 rfl hc) B0)) ?_;refine zC ?_ ?_
  ·intro h46;have he : AF1 r t = false := (by rw [hg, hinv.2, BJ9 hx]; simp only [AB1, q7] at h46; rcases h46 with k | k; (rw [k]; rfl); (rw [Ax0, k]; simp));rw [he];exact zq63
  intro h46;refine zq83 ?_;refine R9 ?_;refine G0 i p (i + 1) (x.Term) ?_ ?_ (H0 A4)
  ·exact ⟨by omega, by rw [hinv.2, BJ9 hx]; simp only [AE4, AJ5] at h46; rw [h46.1, Ax0, h46.2]; rfl⟩
  omega
 intro h24 k24;have hge : r.Log.length ≤ i := (by simpa using h24);rw [hg, hinv.2, n5 hge];exact zq151
theorem CU3 (r : F7) (t : Int) (hs : r.size ≤ 1048576) : E1 117 [AV.agg r.cs, AV.int t] (AV.bool (AF1 r t)) :=
  CK2 r t (L4 (O2 (f := K4.size)) hs) fun e he => by obtain ⟨i, hi⟩ := i7 he; exact L4 (Y4 (f := K4.size) hi) hs
theorem Cg1 {g : D0} (h : ¬ (((AS7 g.Reps.length && within g.Term 0 200) && within g.Lead (-1) ((g.Reps.length : Int) - 1)) = true)) : j5 g = false := by
  rw [← Bool.not_eq_true, AN7];intro k;apply h
  have h1 := k.term;have h3 : within g.Lead (-1) ((g.Reps.length : Int) - 1) = true := by
    unfold within; rw [D8, H5, H5]
    rcases k.lead with e | ⟨a, b, _⟩
    · have := k.many; omega
    · omega
  have h4 : AS7 g.Reps.length = true := by unfold AS7; rw [AB1, i8, i8]; have := k.many; omega
  have h5 : within g.Term 0 200 = true := by unfold within; rw [D8, H5, H5]; omega
  rw [h3, h4, h5]; rfl
theorem AZ6 (g : D0) (hs : g.size ≤ 1048576) : E1 65 [AV.agg g.cs] (AV.bool (j5 g)) := by
 have hrs : C9 F7.size g.Reps ≤ 1048576 := hs;have hll : g.Reps.length ≤ 1048576 := L4 O2 hrs;refine B2 func65 rfl ntmps65 rfl ?_;refine R3 ?_;intro b1;refine R18 ?_;refine T6 rfl (fun hc => zG rfl call71 (Q0 _ _ _) (A2 (A9 rfl hc) AP3)) ?_;refine R9 ?_;refine T6 rfl (fun hc => zG rfl call71 (Q0 _ _ _) zS) ?_;refine zC ?_ ?_
 ·intro h29;have he : j5 g = false := Cg1 (by intro hc; simp only [AS7, D8, AB1, i8] at hc; simp only [A7, AB1, D8, Ay7, q7] at h29; rcases h29 with (k | k) | k; (omega); (rw [hc.1.2] at k; cases k); (rw [hc.2] at k; cases k));rw [he];refine R5 ?_;exact D5 rfl (A8 rfl qz66)
 intro h29;have hh := h29;simp only [A7, AE4, AJ5] at hh;have hlead : -1 ≤ g.Lead ∧ g.Lead ≤ (g.Reps.length : Int) - 1 := (by have h9 := hh.2; unfold within at h9; simpa using h9);have hm : AS7 g.Reps.length = true := (by have h9 := hh.1.1; unfold AS7; simp only [Bool.and_eq_false_iff, bne_eq_false_iff_eq] at h9; rw [AB1, i8, i8]; exact h9);have hg : j5 g = ((g.Lead == -1 || (Ap3 g g.Lead && (P0 g g.Lead).Up)) && g.Reps.all fun r => AF1 r g.Term) := (by unfold j5; rw [hm, hh.1.2]; rfl);refine R7 ?_;refine F8 [(1, _)] _ (fun (i : Nat) => i ≤ g.Reps.length ∧ (g.Reps.all fun r => AF1 r g.Term) = ((g.Reps.drop i).all fun r => AF1 r g.Term)) (fun i => []) (fun i => [(3, AV.int i)]) (fun i => g.Reps.length - i) (0) ?_ (H0 A4) ?_
 ·exact zq8
 intro i hinv;refine zK ?_ ?_
 ·intro h34 k34;have hlt : i < g.Reps.length := Br8;obtain ⟨x, hx⟩ := B3 hlt;have hsx : x.size ≤ 1048576 := L4 (Y4 hx) hrs;refine R8 ?_;refine zq168 ?_;refine R3 ?_;refine B7 rfl rfl (zG rfl call117 (CU3 _ _ W5) (A2 (A0 rfl) (A2 (A0 rfl) B0))) ?_;refine zC ?_ ?_
  ·intro h45;have he : j5 g = false := (by rw [hg, hinv.2, J7 hx, AC0, show AF1 x g.Term = false by simpa using h45]; simp);rw [he];refine R5 ?_;exact D5 rfl (A8 rfl qz66)
  intro h45;refine R6 ?_;refine G5 i (i + 1) ?_ ?_ (H0 A4)
  ·exact ⟨by omega, by rw [hinv.2, J7 hx, AC0, show AF1 x g.Term = true by simpa using h45]; rfl⟩
  omega
 intro h34 k34;have hge : g.Reps.length ≤ i := Br8;have hall : (g.Reps.all fun r => AF1 r g.Term) = true := BQ6;rw [hall, Bool.and_true] at hg;refine R11 ?_;refine T6 rfl (fun hc => C8 rfl I0 L0 (A9 rfl hc) (A9 rfl hc) (AC3 (g := g) (r := g.Lead) ⟨by have h9 : ¬ g.Lead < 0 := Ba8; omega, by omega⟩) (by have h9 : ¬ g.Lead < 0 := Ba8; omega)) ?_;refine R6 ?_;exact D5 rfl (A8 rfl qz66)
end Go.PQ
namespace Go.M
open Go.AV
def AU9 (many : Int) : D0 × Bool := if AS7 many = true then (⟨List.replicate many.toNat ⟨true, [], 0⟩, 0, -1⟩, true) else (AO7, false)
theorem Cs3 {p : Nat → Bool} {lo n : Nat} (h : lo < n) (hp : p n = true) : AI1 p lo n = some n := by
  cases n with
  | zero => omega
  | succ k => unfold AI1; rw [C5 qz8, D3 hp]
theorem DA9 {p : Nat → Bool} {lo n : Nat} (h : lo < n) (hp : ¬ p n = true) : AI1 p lo n = AI1 p lo (n - 1) := by
  cases n with
  | zero => omega
  | succ k => conv => { lhs; unfold AI1 }; rw [C5 qz8, C5 hp]; rfl
theorem DN6 (a b c : Int) : BP4 a (if b < c then c else b) = min a (max b c) := by
  unfold BP4; rw [Int.min_def, Int.max_def]; split <;> split <;> split <;> omega
structure SB (m : Int) (s : E9) : Prop where
  floor : 0 ≤ s.Floor ∧ s.Floor ≤ m
  leads : ∀ h ∈ s.Held, 0 ≤ h.Lead ∧ h.Lead ≤ 3
end Go.M
namespace Go.PQ
open Go.Proofs Go.Proofs.Tryz
open Go Go.AV Go.M
attribute [local irreducible] OpW OpA OpS AWP K6 L8 K8 OpE K7 I7 L1 Le Ev G4 M7 j0 Int.tmod Int.tdiv IntKind.wrap T3
theorem BS6 (g : D0) (r : Int) (up : Bool) (hs : g.size ≤ 1048576) : E1 276 [AV.agg g.cs, AV.int r, AV.bool up] (AV.bool (BP6 g r up)) := by
  have hrs : C9 F7.size g.Reps ≤ 1048576 := hs;have hll : g.Reps.length ≤ 1048576 := L4 O2 hrs;have hir : within r 0 (((g.Reps.map F7.cs).length : Int) - 1) = Ap3 g r := by unfold Ap3; rw [A7]
  refine B2 func276 rfl ntmps276 rfl ?_;refine R3 ?_;intro b3;refine R5 ?_;refine zF rfl call65 (AZ6 _ W5) (A2 (A0 rfl) B0) ?_;refine R6 ?_;refine J6 rfl (fun hc => zG rfl call71 (Q0 _ _ _) zS) ?_;refine R5 ?_;refine J6 rfl (fun hc => C8 rfl I0 L0 (A9 rfl hc) (A9 rfl hc) (AC3 (Al8.1 (hir ▸ BI6 hc))) (by have h9 := (Al8.1 (hir ▸ BI6 hc)).1; omega)) ?_;refine R3 ?_;refine J6 rfl (fun hc => BM7 rfl W4 (A9 rfl hc) (A9 rfl hc)) ?_;refine R4 ?_;exact D5 rfl (A8 rfl (by exact E5 AV.bool (by rw [hir]; rfl)))
theorem Cs4 (g : D0) (r : Int) (hs : g.size ≤ 1048576) : L7 280 [AV.agg g.cs, AV.int r] [] (fun _ : Value => True) (fun v => D0.fow (AD1 g r).1 v) (fun v => AV.tup [AV.agg (D0.fcs (AD1 g r).1 v), AV.bool (AD1 g r).2]) := by
 refine C6 func280 rfl ntmps280 rfl ?_;refine R3 ?_;intro b2;refine R1 ?_;intro b4;refine zq68 ?_;refine zC ?_ ?_
 ·intro h10;have he : AD1 g r = (AO7, false) := (by unfold AD1; rw [C5 Ab9]);rw [he];refine R7 ?_;exact zq158
 intro h10;have hu : BP6 g r true = true := Ab9;obtain ⟨gg, hr, hup⟩ := Al9.1 hu;have hx := AC3 hr;have he : AD1 g r = (⟨g.Reps.set r.toNat ⟨false, (P0 g r).Log, (P0 g r).Sure⟩, g.Term, if g.Lead = r then -1 else g.Lead⟩, true) := D3 hu;rw [he];refine zq101 ?_;intro x13 ok13;refine R1 ?_;intro b6;refine zq112 ?_;refine zC ?_ ?_
 ·intro h22;have k22 := J3 h22;(try simp only [A7] at k22);rw [D3 k22];refine R11 ?_;exact zq92
 intro h22;have k22 := J0 h22;(try simp only [A7] at k22);rw [C5 k22];refine R8 ?_;exact zq92
theorem Cg2 (g : D0) (r : Int) (hs : g.size ≤ 1048576) : E1 280 [AV.agg g.cs, AV.int r] (AV.tup [AV.agg (AD1 g r).1.cs, AV.bool (AD1 g r).2]) :=
  N1 (Cs4 g r hs) fun v _ => AV2 (C1 (D0.fl _ v) (C1 E4 Y2))
theorem Cs5 (g : D0) (r : Int) (hs : g.size ≤ 1048576) : L7 281 [AV.agg g.cs, AV.int r] [] (fun _ : Value => True) (fun v => D0.fow (AE6 g r).1 v) (fun v => AV.tup [AV.agg (D0.fcs (AE6 g r).1 v), AV.bool (AE6 g r).2]) := by
 refine C6 func281 rfl ntmps281 rfl ?_;refine R3 ?_;intro b2;refine R1 ?_;intro b4;refine zq68 ?_;refine zC ?_ ?_
 ·intro h10;have he : AE6 g r = (AO7, false) := (by unfold AE6; rw [C5 Ab9]);rw [he];refine R7 ?_;exact zq158
 intro h10;have hu : BP6 g r false = true := Ab9;obtain ⟨gg, hr, hup⟩ := Al9.1 hu;have hx := AC3 hr;have he : AE6 g r = (⟨g.Reps.set r.toNat ⟨true, (P0 g r).Log, (P0 g r).Sure⟩, g.Term, g.Lead⟩, true) := D3 hu;rw [he];refine zq101 ?_;intro x13 ok13;refine R1 ?_;intro b6;refine zq112 ?_;refine R8 ?_;exact zq92
theorem Cg3 (g : D0) (r : Int) (hs : g.size ≤ 1048576) : E1 281 [AV.agg g.cs, AV.int r] (AV.tup [AV.agg (AE6 g r).1.cs, AV.bool (AE6 g r).2]) :=
  N1 (Cs5 g r hs) fun v _ => AV2 (C1 (D0.fl _ v) (C1 E4 Y2))
theorem BE0 (l : List K4) : E1 314 [AV.list 8 (l.map K4.cs)] (AV.int (Ab7 l)) := by
 refine B2 func314 rfl ntmps314 rfl ?_;refine m2 (t := 0) rfl fun hl => ?_;try simp only [A7] at hl
 refine zC ?_ ?_
 ·intro h5;have k5 := J3 h5;(try simp only [A7] at k5);rw [DM8 (show l.length = 0 by omega)];exact zq63
 intro h5;have k5 := J0 h5;(try simp only [A7] at k5);obtain ⟨e, hx⟩ := B3 (show l.length - 1 < l.length by omega);have hx2 : l[(((l.map K4.cs).length : Int) - 1).toNat]? = some e := (by rw [A7, show ((l.length : Int) - 1).toNat = l.length - 1 by omega]; exact hx);rw [DX6 hx];refine R7 ?_;refine A1 rfl (C8 rfl P8 X2 zA zA hx2 CE3) ?_;exact zq63
theorem Cs6 (a b : List K4) : E1 277 [AV.list 8 (a.map K4.cs), AV.list 8 (b.map K4.cs)] (AV.bool (BC2 a b)) := by
 refine B2 func277 rfl ntmps277 rfl ?_;refine R8 ?_;refine zF rfl call314 (BE0 _) I4 ?_;refine R1 ?_;refine zF rfl call314 (BE0 _) I4 ?_;refine zC ?_ ?_
 ·intro h9;have k9 := Bk6 h9;(try simp only [A7] at k9);have he : BC2 a b = decide (Ab7 b < Ab7 a) := (by unfold BC2; rw [beq_eq_false_iff_ne.2 k9]; simp);rw [he];refine R3 ?_;refine zF rfl call314 (BE0 _) I4 ?_;refine R1 ?_;refine zF rfl call314 (BE0 _) I4 ?_;refine R4 ?_;exact D5 rfl (A8 rfl (by first | rfl | (rw [A7, A7])))
 intro h9;have k9 := Aw6 h9;(try simp only [A7] at k9);have he : BC2 a b = decide ((b.length : Int) < (a.length : Int)) := (by unfold BC2; rw [k9]; simp);rw [he];refine R11 ?_;exact D5 rfl (A8 rfl (by first | rfl | (rw [A7, A7])))
theorem Cs7 (g : D0) (r : Int) (hs : g.size ≤ 1048576) : L7 236 [AV.agg g.cs, AV.int r] [] (fun _ : Value => True) (fun v => D0.fow (j7 g r).1 v) (fun v => AV.tup [AV.agg (D0.fcs (j7 g r).1 v), AV.bool (j7 g r).2]) := by
 refine C6 func236 rfl ntmps236 rfl ?_;refine R3 ?_;intro b2;refine R1 ?_;intro b4;refine zq68 ?_;refine zC ?_ ?_
 ·intro h17;have he : j7 g r = (AO7, false) := (by unfold j7; rw [C5 (by rintro ⟨a, b⟩; simp only [D8, q7] at a; rw [a.1, a.2] at h17; cases h17)]);rw [he];exact zq58
 intro h17;have hh := h17;simp only [AE4, AJ5] at hh;obtain ⟨hu, ht⟩ := hh;obtain ⟨gg, hr, hup⟩ := Al9.1 hu;have hxr := AC3 hr;have hll : g.Reps.length ≤ 5 := (by have h9 := gg.many; omega);have htm := gg.term;refine R11 ?_;refine J5 [(1, _), (2, _), (4, _), (5, _)] _ (fun (i : Nat) (m : Nat) => i ≤ g.Reps.length ∧ m ≤ i ∧ m = ((g.Reps.take i).filter fun x => x.Up && !BC2 x.Log (P0 g r).Log).length) (fun i m => []) (fun i m => [(6, AV.int m), (7, AV.int i)]) (fun i m => g.Reps.length - i) (0) (0) ?_ (H0 A4) ?_
 ·exact ⟨E2 _, N2 _, rfl⟩
 intro i m hinv;refine zK ?_ ?_
 ·intro h23 k23;have hlt : i < g.Reps.length := Br6;obtain ⟨x, hx⟩ := B3 hlt;refine R8 ?_;refine zq168 ?_;refine R6 ?_;refine S5 rfl (X0 rfl rfl rfl) (fun hc => C8 rfl I0 L0 (A9 rfl hc) (A9 rfl hc) hx qz6) ?_;refine R5 ?_;refine S5 rfl (X0 rfl rfl rfl) (fun hc => C8 rfl I0 L0 (A9 rfl hc) (A9 rfl hc) hxr qz8) ?_;refine R2 ?_;refine S5 rfl (X0 rfl rfl rfl) (fun hc => zG rfl call277 (Cs6 _ _) zS) ?_;refine zC ?_ ?_
  ·intro h47;refine R10 ?_;refine G0 i m (i + 1) (m + 1) ?_ ?_ (H0 A4)
   ·exact ⟨by omega, by omega, by rw [Aj5 hx, D3 h47, hinv.2.2]⟩
   omega
  intro h47;refine R6 ?_;refine G0 i m (i + 1) (m) ?_ ?_ (H0 A4)
  ·exact ⟨by omega, by omega, by rw [Aj5 hx, C5 (by rw [h47]; decide), Nat.add_zero]; exact hinv.2.2⟩
  omega
 intro h23 k23;have hge : g.Reps.length ≤ i := Br6;have hm := hinv.2.2;rw [T4 hge] at hm;refine R5 ?_;refine A1 rfl (Ap8 rfl J4 zA qz3) ?_;refine zK ?_ ?_
 ·intro h55 k55;have he : j7 g r = (AO7, false) := (by unfold j7; rw [C5 (by rintro ⟨a, b⟩; unfold Br0 at b; have h9 := AD2 b; rw [← hm] at h9; omega)]);rw [he];exact zq58
 intro h55 k55;have he : j7 g r = (⟨g.Reps, g.Term + 1, r⟩, true) := (by unfold j7; rw [D3 ⟨by rw [hu, ht]; rfl, by unfold Br0; rw [← hm]; exact q8 qz8⟩]);rw [he];refine zq101 ?_;intro x58 ok58;refine R1 ?_;intro b8;refine R23 ?_;exact I5 [1] x58 (trivial) rfl B8 (j9 rfl D4 (I1 (F5 (ys := _) 2 rfl rfl P5 E7 rfl) Z9))
theorem Cg4 (g : D0) (r : Int) (hs : g.size ≤ 1048576) : E1 236 [AV.agg g.cs, AV.int r] (AV.tup [AV.agg (j7 g r).1.cs, AV.bool (j7 g r).2]) :=
  N1 (Cs7 g r hs) fun v _ => AV2 (C1 (D0.fl _ v) (C1 E4 Y2))
theorem DN7 (g : D0) (r : Int) (hs : g.size ≤ 1048576) : L7 282 [AV.agg g.cs, AV.int r] [] (fun _ : Value => True) (fun v => D0.fow (AO4 g r).1 v) (fun v => AV.tup [AV.agg (D0.fcs (AO4 g r).1 v), AV.bool (AO4 g r).2]) := by
 refine C6 func282 rfl ntmps282 rfl ?_;refine R3 ?_;intro b2;refine R1 ?_;intro b4;refine zq68 ?_;refine zC ?_ ?_
 ·intro h22;have he : AO4 g r = (AO7, false) := (by unfold AO4; rw [C5 (by rintro ⟨a, b⟩; simp only [D8, H5] at a; rw [a.1, AP9 (show ¬ g.Lead < 0 by omega), beq_eq_false_iff_ne.2 b] at h22; cases h22)]);rw [he];refine R7 ?_;refine X3 141 3 ?_;exact I5 [0] (E8) (trivial) rfl qz194 (j9 rfl D4 (I1 (F5 (ys := _) 1 rfl rfl P5 E7 rfl) Z9))
 intro h22;have hh := h22;simp only [AE4, AJ5, AH1, beq_eq_false_iff_ne] at hh;obtain ⟨⟨hu, hl0⟩, hne⟩ := hh;obtain ⟨gg, hr, hup⟩ := Al9.1 hu;have hld : 0 ≤ g.Lead ∧ g.Lead < g.Reps.length := (by rcases gg.lead with e | ⟨a, b, _⟩; omega; exact ⟨a, b⟩);have hxr := AC3 hr;have hxl := AC3 hld;have hls : C9 K4.size (P0 g g.Lead).Log ≤ 1048576 := L4 (Y4 (f := F7.size) hxl) hs;have he : AO4 g r = (Ae2 g r ⟨true, (P0 g g.Lead).Log, min ((P0 g g.Lead).Log.length : Int) (max (P0 g r).Sure (P0 g g.Lead).Sure)⟩, true) := (by unfold AO4; rw [D3 ⟨by rw [hu, q8 qz8]; rfl, hne⟩]);rw [he, ← DN6];refine zq101 ?_;intro x25 ok25;refine R1 ?_;intro b6;refine R8 ?_;refine A1 rfl (C8 rfl I0 L0 zA zA hxl qz8) ?_;refine R2 ?_;refine zF rfl call241 (BH3 _ hls) I4 ?_;refine R3 ?_;refine M6 23 E6 E6 rfl ?_;refine R9 ?_;refine B7 rfl rfl (C8 rfl I0 L0 zA zA hxr qz8) ?_;refine R6 ?_;refine B7 rfl rfl (C8 rfl I0 L0 zA zA hxl qz8) ?_;refine R2 ?_;refine B7 rfl rfl (zG rfl call211 (Bp4 _ _) F4) ?_;refine B7 rfl rfl (zG rfl call315 (Cs0 _ _) F4) ?_;refine R1 ?_;refine B7 rfl rfl (I3 1 rfl I0 L0 zA rfl zA qz8 AL4) ?_;refine R1 ?_;refine AB5 1 rfl rfl rfl zA zA (i3 _) rfl L0 rfl AF3 ?_;refine R8 ?_;exact I5 [1] x25 (trivial) rfl qz194 (j9 rfl D4 (I1 (F5 (ys := _) 2 rfl rfl P5 E7 rfl) Z9))
theorem DB0 (g : D0) (r : Int) (hs : g.size ≤ 1048576) : E1 282 [AV.agg g.cs, AV.int r] (AV.tup [AV.agg (AO4 g r).1.cs, AV.bool (AO4 g r).2]) :=
  N1 (DN7 g r hs) fun v _ => AV2 (C1 (D0.fl _ v) (C1 E4 Y2))
theorem DB1 (g : D0) (l : List K4) (n : Nat) (hs : g.size ≤ 1048576) (hn : n ≤ 1048576) : E1 316 [AV.agg g.cs, AV.list 8 (l.map K4.cs), AV.int (n : Int)] (AV.int ((g.Reps.filter fun x => Aa2 x.Log l n).length : Nat)) := by
 have hll : g.Reps.length ≤ 1048576 := L4 (O2 (f := F7.size)) hs;refine B2 func316 rfl ntmps316 rfl ?_;refine R3 ?_;intro b3;refine R12 ?_;refine J5 [(1, _), (2, _), (3, _), (6, _)] _ (fun (i : Nat) (m : Nat) => i ≤ g.Reps.length ∧ m ≤ i ∧ m = ((g.Reps.take i).filter fun x => Aa2 x.Log l n).length) (fun i m => []) (fun i m => [(7, AV.int m), (8, AV.int i)]) (fun i m => g.Reps.length - i) (0) (0) ?_ (H0 A4) ?_
 ·exact ⟨E2 _, N2 _, rfl⟩
 intro i m hinv;refine zK ?_ ?_
 ·intro h13 k13;have hlt : i < g.Reps.length := (by simpa using h13);obtain ⟨x, hx⟩ := B3 hlt;refine R8 ?_;refine A1 rfl (zX hx) ?_;refine R4 ?_;refine zF rfl call339 (Cg0 x.Log l n (L4 (Y4 (f := F7.size) hx) hs) hn) AJ2 ?_;refine zC ?_ ?_
  ·intro h24;refine R10 ?_;refine G0 i m (i + 1) (m + 1) ?_ ?_ (H0 A4)
   ·exact ⟨by omega, by omega, by rw [Aj5 hx, D3 h24, hinv.2.2]⟩
   omega
  intro h24;refine R6 ?_;refine G0 i m (i + 1) (m) ?_ ?_ (H0 A4)
  ·exact ⟨by omega, by omega, by rw [Aj5 hx, C5 (by rw [h24]; decide), Nat.add_zero]; exact hinv.2.2⟩
  omega
 intro h13 k13;have hge : g.Reps.length ≤ i := (by simpa using h13);have hm := hinv.2.2;rw [T4 hge] at hm;rw [← hm];refine R7 ?_;exact zq5
theorem DB2 (g : D0) (hs : g.size ≤ 1048576) : L7 283 [AV.agg g.cs] [] (fun _ : Value => True) (fun v => D0.fow (AT9 g).1 v) (fun v => AV.tup [AV.agg (D0.fcs (AT9 g).1 v), AV.bool (AT9 g).2]) := by
 refine C6 func283 rfl ntmps283 rfl ?_;refine R3 ?_;intro b1;refine R1 ?_;intro b2;refine R6 ?_;refine zF rfl call65 (AZ6 _ W5) (A2 (A0 rfl) B0) ?_;refine zC ?_ ?_
 ·intro h14;have he : AT9 g = (AO7, false) := (by unfold AT9; rw [C5 (by unfold Ai8; intro a; simp only [D8, H5] at a; rw [a.1, AP9 (show ¬ g.Lead < 0 by omega)] at h14; cases h14)]);rw [he];refine R7 ?_;refine X3 141 3 ?_;exact I5 [0] (E8) (trivial) rfl qz153 (j9 rfl D4 (I1 (F5 (ys := _) 1 rfl rfl P5 E7 rfl) Z9))
 intro h14;have hh := h14;simp only [AE4, AJ5, AH1] at hh;have hlead : Ai8 g = true := (by unfold Ai8; rw [hh.1, q8 qz8]; rfl);obtain ⟨gg, l0, l1, hup⟩ := Aq2.1 hlead;have hxl := AC3 ⟨l0, l1⟩;have hgr := gg.reps _ (AK6 ⟨l0, l1⟩);obtain ⟨L, hL⟩ : ∃ L, P0 g g.Lead = L := ⟨_, rfl⟩;rw [hL] at hxl hgr;have hsr := hgr.sure;have hl6 := hgr.len;have hm5 : g.Reps.length ≤ 5 := (by have h9 := gg.many; omega);refine zq101 ?_;intro x17 ok17;refine R1 ?_;intro b4;refine R8 ?_;refine A1 rfl (C8 rfl I0 L0 zA zA hxl qz8) ?_;refine R2 ?_;intro b5;refine R8 ?_;try rw [show AV.ik IntKind.i64 ((n : Int) - 1) = AV.int ((n - 1 : Nat) : Int) from E5 AV.int (show (n : Int) - 1 = ((n - 1 : Nat) : Int) by omega)]
 refine R3 ?_;rw [show (List.map K4.cs L.Log).length = L.Log.length from A7 _];refine F8 [(1, _), (2, _), (4, _), (5, _)] _ (fun (n : Nat) => n ≤ L.Log.length ∧ AI1 (Az6 g) L.Sure.toNat L.Log.length = AI1 (Az6 g) L.Sure.toNat n) (fun n => []) (fun n => [(6, AV.int n)]) (fun n => n) (L.Log.length) ?_ (H0 A4) ?_
 ·exact ⟨N2 _, rfl⟩
 intro n hinv;refine zK ?_ ?_
 ·intro h30 k30;have hgt : L.Sure.toNat < n := by omega
  obtain ⟨x, hx⟩ := B3 (show n - 1 < L.Log.length by omega);have hx2 : L.Log[((n : Int) - 1).toNat]? = some x := (by rw [show ((n : Int) - 1).toNat = n - 1 by omega]; exact hx);have hadv : Az6 g n = ((x.Term == g.Term) && decide ((g.Reps.length : Int) < 2 * ((g.Reps.filter fun x => Aa2 x.Log L.Log n).length : Int))) := (by unfold Az6 Br0; rw [hL, hx, AH2]; congr 1; rw [AW7, H5, i8]; exact ⟨fun e => by injection e, fun e => by rw [e]⟩);have hcnt := List.length_filter_le (fun x => Aa2 x.Log L.Log n) g.Reps;refine R9 ?_;refine B7 rfl rfl (C8 rfl P8 X2 zA zA hx2 qz8) ?_;refine R10 ?_;refine S5 rfl (X0 rfl rfl rfl) (fun hc => zG rfl call316 (DB1 _ _ _ W5 W5) (A2 (A9 rfl hc) (A2 (A9 rfl hc) (A2 (A9 rfl hc) B0)))) ?_;refine S5 rfl (X0 rfl rfl rfl) (fun hc => Ap8 rfl J4 (A9 rfl hc) qz6) ?_;refine zC ?_ ?_
  ·intro h54;have hp : Az6 g n = true := (by rw [hadv]; simpa using h54);have hfin : AI1 (Az6 g) L.Sure.toNat L.Log.length = some n := (by rw [hinv.2]; exact Cs3 hgt hp);have he : AT9 g = (Ae2 g g.Lead ⟨L.Up, L.Log, (n : Int)⟩, true) := (by unfold AT9; rw [D3 hlead, hL, hfin]);rw [he];refine R7 ?_;refine A1 rfl (I3 2 rfl I0 L0 zA rfl zA qz8 AL4) ?_;refine A1 rfl (L5 2 rfl AD8 rfl F2 zA rfl rfl qz93) ?_;refine Z7 2 rfl rfl rfl zA zA (W9 _ _) rfl F2 qz93 rfl ?_;exact zq190
  intro h54;have hp : ¬ Az6 g n = true := (by rw [hadv]; simpa using h54);have hdown : AI1 (Az6 g) L.Sure.toNat L.Log.length = AI1 (Az6 g) L.Sure.toNat (n - 1) := (by rw [hinv.2]; exact DA9 hgt hp);refine R4 ?_;try rw [show AV.ik IntKind.i64 ((n : Int) - 1) = AV.int ((n - 1 : Nat) : Int) from E5 AV.int (show (n : Int) - 1 = ((n - 1 : Nat) : Int) by omega)]
  refine R2 ?_;refine G5 n (n - 1) ?_ ?_ (H0 A4)
  ·exact ⟨by omega, hdown⟩
  omega
 intro h30 k30;have hfin : AI1 (Az6 g) L.Sure.toNat L.Log.length = none := (by rw [hinv.2]; cases n with | zero => rfl | succ k => (unfold AI1; rw [D3 qz8]));have he : AT9 g = (g, true) := (by unfold AT9; rw [D3 hlead, hL, hfin]);rw [he];exact zq190
theorem Cs8 (g : D0) (hs : g.size ≤ 1048576) : E1 283 [AV.agg g.cs] (AV.tup [AV.agg (AT9 g).1.cs, AV.bool (AT9 g).2]) :=
  N1 (DB2 g hs) fun v _ => AV2 (C1 (D0.fl _ v) (C1 E4 Y2))
theorem Cs9 (many : Int) : L7 206 [AV.int many] [] (fun _ : Value => True) (fun v => D0.fow (AU9 many).1 v) (fun v => AV.tup [AV.agg (D0.fcs (AU9 many).1 v), AV.bool (AU9 many).2]) := by
 refine C6 func206 rfl ntmps206 rfl ?_;refine R3 ?_;intro b2;refine zC ?_ ?_
 ·intro h11;have he : AU9 many = (AO7, false) := (by unfold AU9 AS7; rw [C5 (by simp only [D8, Ay7] at h11; simp [h11.1, h11.2])]);rw [he];exact zq58
 intro h11;have hm : many = 3 ∨ many = 5 := (by simp only [Bool.and_eq_false_iff, bne_eq_false_iff_eq] at h11; exact h11);obtain ⟨n, rfl⟩ : ∃ n : Nat, many = (n : Int) := ⟨many.toNat, by omega⟩;have he : AU9 (n : Int) = (⟨List.replicate n ⟨true, [], 0⟩, 0, -1⟩, true) := (by unfold AU9 AS7; rw [D3 (by rw [AB1, i8, i8]; exact hm)]; rfl);rw [he];refine R3 ?_;refine P4 rfl rfl rfl rfl I0 L0 ?_;intro v13;refine O4 0 rfl fun one_v13 => ?_;refine A1 rfl (i6 (places := #[(0, 1), (1, 1), (2, 1)]) rfl Z0 zeroValue93 (fun w => by kernel_rfl) rfl (D7 zA (L2 one_v13) (D7 J4 (W9 _ _) V1)) rfl) ?_;refine R1 ?_;intro b4;refine R8 ?_;refine zL [0, 0] ?_;refine J5 [(0, _), (2, _), (3, _), (4, _)] _ (fun (i : Nat) (v : Value) => i ≤ n) (fun i v => [.box b4 93 [AV.is v, AV.int 0, AV.int (-1)], .arr v 141 3 ((List.replicate i (⟨true, [], 0⟩ : F7)).map F7.cs)]) (fun i v => [(5, AV.int i)]) (fun i v => n - i) (0) (v13) ?_ (K5 B8 A4) ?_
 ·exact E2 _
 intro i v hinv;refine zK ?_ ?_
 ·intro h17 k17;refine R9 ?_;refine G1 (by' := 40) 1 rfl rfl rfl rfl I0 type141 rfl rfl rfl rfl rfl rfl zA zA rfl (by simp only [A7, Ah1, W7]; omega) ?_;intro v25_2;refine R1 ?_;refine O4 1 rfl fun one_v25_2 => ?_;refine M4 0 rfl rfl rfl zA zA (L2 one_v25_2) rfl Ad7 rfl ?_;refine R6 ?_;refine G0 i v (i + 1) (v25_2) ?_ ?_ (Le.trans (B4 [0, 0] rfl) (K5 (by (rw [List.replicate_succ', X8]; rfl)) A4))
  ·exact qz8
  omega
 intro h17 k17;have hge : i = n := by omega
 subst hge;refine R8 ?_;exact I5 [1] v (trivial) rfl B8 (j9 rfl D4 (I1 (F5 (ys := _) 2 rfl rfl P5 E7 rfl) Z9))
theorem Cg5 (many : Int) : E1 206 [AV.int many] (AV.tup [AV.agg (AU9 many).1.cs, AV.bool (AU9 many).2]) :=
  N1 (Cs9 many) fun v _ => AV2 (C1 (D0.fl _ v) (C1 E4 Y2))
end Go.PQ
namespace Go.PQ
open Go.Proofs
open Go Go.AV Go.M
attribute [local irreducible] OpW OpA OpS AWP K6 L8 K8 OpE K7 I7 L1 Le Ev G4 M7
end Go.PQ