/- Texts of the claim, part 8. -/
import Derived.Test.YtcfkbhnpfjjmjaaGreatZSeen7
set_option linter.unusedVariables false
set_option linter.unusedSimpArgs false
set_option maxRecDepth 100000
set_option maxHeartbeats 4000000
namespace Go.M
open Go.AV
def l16K (l : List Str) : Bool := (l.all l3Key && adj Op.bytesLess l) && within (l.length : Int) 1 8
theorem l16K_of {l : List Str} (h0 : 1 ≤ l.length ∧ l.length ≤ 8) (hk : ∀ k ∈ l, k ∈ keyD) (hs : n1 l) : l16K l = true := by
  unfold l16K within
  rw [decide_eq_true qz8, decide_eq_true qz8, Bool.and_eq_true, Bool.and_eq_true]
  refine ⟨⟨List.all_eq_true.2 fun k h => by rw [← z6]; exact (r5 (hk k h)).1, ?_⟩, rfl⟩
  have h1 := BX8 (fun k h => (r5 (hk k h)).1) hs
  unfold areRising at h1
  simp only [Bool.and_eq_true] at h1
  exact h1.2
def newG3 : TGroup := (n8 3).1
theorem newG3_wg : WG newG3 := by
  refine ⟨p6.1 D3, rfl, fun h => ?_, fun r hr e he => ?_⟩
  · exact absurd h D3
  · have : ∀ r ∈ newG3.Reps, r.Log = [] := by decide
    rw [this r hr] at he; cases he
def Bm9 (n : Nat) (p : List TOp) : A3 := ⟨p, [], List.replicate n 0, -1, -1, false, 0, false, false, false⟩
def newLook (n : Nat) (k : Nat) (l : List Str) : A2 := ⟨Int.tmod (k : Int) (3 * (n : Int)), l, [], 0, -1, -1⟩
def newLooks (n : Nat) (ls : List (List Str)) (i : Nat) : List A2 := (List.range i).map fun k => newLook n k (ls.getD k [])
theorem As6 (n : Nat) (ls : List (List Str)) (i : Nat) : (newLooks n ls i).length = i := by unfold newLooks; rw [A5, List.length_range]
theorem Bl6 {n : Nat} {ls : List (List Str)} {i : Nat} {l : List Str} (h : ls[i]? = some l) : (newLooks n ls ls.length)[i]? = some (newLook n i l) := by
  have hi := (List.getElem?_eq_some_iff.1 h).1
  unfold newLooks
  rw [List.getElem?_map, List.getElem?_range hi]
  show some (newLook n i (ls.getD i [])) = _
  rw [show ls.getD i [] = l by rw [List.getD_eq_getElem?_getD, h]; rfl]
def newW (cuts : List Str) (ps : List (List TOp)) (ls : List (List Str)) : TWorld :=
  ⟨0, 0, List.replicate (3 * (cuts.length + 1)) ⟨0⟩, cuts, List.replicate (cuts.length + 1) newG3, List.replicate (cuts.length + 1) [], List.replicate (cuts.length + 1) 0, ps.map (Bm9 (cuts.length + 1)), newLooks (cuts.length + 1) ls ls.length⟩
structure NewOk (cuts : List Str) (ps : List (List TOp)) (ls : List (List Str)) : Prop where
  cuts : l15Cuts cuts = true ∧ cuts.length ≤ 2 ∧ ∀ k ∈ cuts, k.length ≤ 12
  ps : ps.length ≤ 4 ∧ ∀ p ∈ ps, (goodOps p = true ∧ ∀ o ∈ p, o.Key ∈ keyD) ∧ 1 ≤ p.length
  ls : ls.length ≤ 4 ∧ ∀ l ∈ ls, (1 ≤ l.length ∧ l.length ≤ 8) ∧ n1 l ∧ ∀ k ∈ l, k ∈ keyD
theorem NewOk.wi {cuts : List Str} {ps : List (List TOp)} {ls : List (List Str)} (h : NewOk cuts ps ls) : WI (newW cuts ps ls) where
  n := by have := h.cuts.2.1; unfold newW; dsimp only; rw [List.length_replicate]; omega
  clocks := ⟨by unfold newW; dsimp only; rw [List.length_replicate, List.length_replicate], fun c hc => by rw [(List.mem_replicate.1 hc).2]; decide⟩
  cuts := ⟨by unfold newW; dsimp only; rw [List.length_replicate], h.cuts.2.2⟩
  locks := ⟨by unfold newW; dsimp only; rw [List.length_replicate, List.length_replicate], fun l hl => by rw [(List.mem_replicate.1 hl).2]; exact ⟨Nat.zero_le _, fun x hx => by cases hx⟩⟩
  promised := ⟨by unfold newW; dsimp only; rw [List.length_replicate, List.length_replicate], fun p hp => by rw [(List.mem_replicate.1 hp).2]; decide⟩
  groups := fun g hg => by rw [(List.mem_replicate.1 hg).2]; exact newG3_wg
  txns := ⟨by unfold newW; dsimp only; rw [A5]; have := h.ps.1; omega, fun t ht => by
    obtain ⟨p, hp, rfl⟩ := List.mem_map.1 ht
    refine ⟨?_, (h.ps.2 p hp).1, ⟨Nat.zero_le _, fun g hg => by cases hg⟩, ⟨show (-1 : Int) ≤ 0 by decide, .inl rfl⟩⟩
    show (List.replicate (cuts.length + 1) (0 : Int)).length = (List.replicate (cuts.length + 1) newG3).length
    rw [List.length_replicate, List.length_replicate]⟩
  looks := ⟨by unfold newW newLooks; dsimp only; rw [A5, List.length_range]; exact h.ls.1, fun l hl => by
    obtain ⟨k, hk, rfl⟩ := List.mem_map.1 hl
    have hkl := List.mem_range.1 hk
    obtain ⟨q, hq⟩ := get_some hkl
    have hd : ls.getD k [] = q := by rw [List.getD_eq_getElem?_getD, hq]; rfl
    have hq9 := h.ls.2 q (C4 hq)
    show LkOk (List.replicate (cuts.length + 1) newG3).length _ (newLook (cuts.length + 1) k (ls.getD k []))
    rw [hd, List.length_replicate]
    refine ⟨(show 0 ≤ Int.tmod (k : Int) (3 * ((cuts.length + 1 : Nat) : Int)) ∧ Int.tmod (k : Int) (3 * ((cuts.length + 1 : Nat) : Int)) < 3 * ((cuts.length + 1 : Nat) : Int) from ⟨Int.tmod_nonneg _ qz8, Int.tmod_lt_of_pos _ qz8⟩), ⟨hq9.1.2, fun x hx => by have := (r5 (hq9.2.2 x hx)).2; omega⟩, ⟨Nat.zero_le _, fun g hg => by cases hg⟩, ⟨show (-1 : Int) ≤ 0 by decide, .inl rfl⟩, show (0 : Int) ≤ 0 ∧ (0 : Int) ≤ 1000000 by decide⟩⟩
  now := show (0 : Int) ≤ 0 ∧ (0 : Int) ≤ 100000 by decide
  count := show (0 : Int) ≤ 0 ∧ (0 : Int) ≤ 1000000 by decide
theorem newW_wq (cuts : List Str) (ps : List (List TOp)) (ls : List (List Str)) : ∀ v : TWorld, v.Txns = (newW cuts ps ls).Txns → v.Looks = (newW cuts ps ls).Looks → v.Count = 0 → WQ v := fun v h1 h2 h3 => ⟨fun t ht => by
    rw [h1] at ht
    obtain ⟨p, hp, rfl⟩ := List.mem_map.1 ht
    rw [h3]; exact (show (-1 : Int) < 0 by decide), fun l hl => by
    rw [h2] at hl
    obtain ⟨k, hk, rfl⟩ := List.mem_map.1 hl
    rw [h3]; exact (show (-1 : Int) < 0 by decide)⟩
theorem AX7 {α β : Type} {c : α → β} {n : Nat} {x : α} : (List.replicate n x).map c = List.replicate n (c x) := List.map_replicate ..
theorem nilRows {own : List Go.AV.Own} (n : Nat) : AR1 own (List.replicate n [AV.nils]) ((List.replicate n ([] : List H8)).map fun l => [AV.list 3 (l.map H8.cs)]) := by
  refine ⟨by simp, fun i e f h k => ?_⟩
  rw [List.getElem?_replicate] at h
  rw [List.getElem?_map, List.getElem?_replicate] at k
  split at h
  · rename_i hlt
    rw [if_pos hlt] at k
    injection h with h; injection k with k; subst h; subst k
    exact D0 Au9 U9
  · cases h
end Go.M
namespace Go.Proofs.YtcfkbhnpfjjmjaaGreat
open Go Go.AV Go.M
attribute [local irreducible] OpW OpA OpS AWP B9 J2 C9 OpE RetOk H0 I6 Le Ev F1 J8 V9 Int.tmod Int.tdiv IntKind.wrap bandI
theorem Bl7 (l : List Str) (hs : ∀ k ∈ l, k.length ≤ 4611686018427387904) : B9 Tryz.prog 162 [strs l] (AV.bool (l16K l)) := by
 refine B7 Tryz.func162 rfl Tryz.ntmps162 rfl ?_
 refine S1 (t := 0) rfl fun hl => ?_
 try simp only [A5] at hl
 refine R12 ?_
 refine E2 [(0, _), (5, _), (6, _)] _ (fun (i : Nat) => i ≤ l.length ∧ (l.all l3Key && adj Op.bytesLess l) = ((l.drop i).all l3Key && adj Op.bytesLess (l.drop (i - 1)))) (fun (i : Nat) => []) (fun (i : Nat) => [(7, AV.int i)]) (fun (i : Nat) => l.length - i) (0) ?_ (E7 ⟨rfl, rfl, rfl, rfl, trivial⟩) ?_
 ·exact ⟨Nat.zero_le _, rfl⟩
 intro i hinv
 refine R5 ?_
 refine A6 (A0 rfl) ?_ ?_
 ·intro h8
  have k8 := of_decide_eq_true h8; try simp only [A5] at k8
  have hlt : i < l.length := by omega
  obtain ⟨x, hx⟩ := get_some hlt
  obtain ⟨y, hy⟩ := get_some (show i - 1 < l.length by omega)
  have hsx := hs x (C4 hx)
  refine R6 ?_
  refine A4 rfl (t3 rfl F9 K3 (A0 rfl) (A0 rfl) qz8 Bc8) ?_
  refine R7 ?_
  refine A4 rfl (B2 rfl Tryz.call99 rfl (AA0 _ qz8) (A1 (A0 rfl) A7)) ?_
  refine R8 ?_
  refine c7 rfl rfl (U6 rfl rfl rfl) (fun hc => t3 rfl F9 K3 (B1 rfl hc) (B1 rfl hc) qz181 qz89) ?_
  refine R2 ?_
  refine c7 rfl rfl (U6 rfl rfl rfl) (fun hc => An7 rfl (B1 rfl hc) (B1 rfl hc)) ?_
  refine R3 ?_
  refine A6 (A0 rfl) ?_ ?_
  ·intro h27
   have hfin : (l.all l3Key && adj Op.bytesLess l) = false := by rw [hinv.2, drop_some hx, List.all_cons]; cases hg : l3Key x with | false => simp | true => (simp only [hg, Bool.not_true, Bool.false_or, Bool.and_eq_true, decide_eq_true_eq, Bool.not_eq_true'] at h27; rw [AJ1 hx hy qz8 h27.2]; simp)
   refine R5 ?_
   exact D4 rfl (A8 rfl qz130)
  intro h27
  refine R5 ?_
  refine E9 i (i + 1) ?_ ?_ (E7 ⟨rfl, rfl, rfl, rfl, trivial⟩)
  ·exact ⟨by omega, by rw [hinv.2, drop_some hx, List.all_cons, AJ0 hx hy (fun h0 => by simp_all), show l3Key x = true by simp_all, Bool.true_and]⟩
  omega
 intro h8
 have k8 := of_decide_eq_false h8; try simp only [A5] at k8
 have hge : l.length ≤ i := by omega
 refine R5 ?_
 refine A4 rfl (B2 rfl Tryz.call30 rfl (M9 _ _ _) (A1 (A0 rfl) (A1 D8 (A1 D8 A7)))) ?_
 refine R3 ?_
 exact D4 rfl (A8 rfl qz130)
theorem AE5 (cuts : List Str) (ps : List (List TOp)) (ls : List (List Str)) (h : NewOk cuts ps ls) : C9 Tryz.prog 140 [strs cuts, AV.list 1 (ps.map fun l => [AV.list 4 (l.map TOp.cs)]), AV.list 1 (ls.map fun l => [strs l])] [] (fun v : TWorld => WI v ∧ WQ v) (fun _ => []) (fun v => AV.tup [AV.agg v.cs, AV.bool true]) := by
 have hcl := h.cuts.2.1
 have hpl := h.ps.1
 have hll := h.ls.1
 have hwi := h.wi
 obtain ⟨N, hN⟩ : ∃ N, cuts.length + 1 = N := ⟨_, rfl⟩
 have hcb : ∀ k ∈ cuts, k.length ≤ 4611686018427387904 := fun k hk => Nat.le_trans (h.cuts.2.2 k hk) D3
 obtain ⟨P9, hP9⟩ : ∃ P9, ps.map (Bm9 N) = P9 := ⟨_, rfl⟩
 obtain ⟨Q9, hQ9⟩ : ∃ Q9, newLooks N ls ls.length = Q9 := ⟨_, rfl⟩
 have hP9l : P9.length = ps.length := by rw [← hP9, A5]
 have hQ9l : Q9.length = ls.length := by rw [← hQ9, As6]
 refine C6 Tryz.func140 rfl Tryz.ntmps140 rfl ?_
 refine R3 ?_
 intro b6
 refine R6 ?_
 refine A4 rfl (B2 rfl Tryz.call160 rfl (Bk7 cuts hcb) (A1 (A0 rfl) A7)) ?_
 refine R17 ?_
 refine A6 (A0 rfl) ?_ ?_
 ·intro h39
  (exfalso; simp only [h.cuts.1, A5] at h39; simp at h39; omega)
 intro h39
 refine R9 ?_
 refine E2 [(0, _), (1, _), (2, _), (6, _), (41, _), (42, _)] _ (fun (i : Nat) => i ≤ ps.length) (fun (i : Nat) => []) (fun (i : Nat) => [(43, AV.int i)]) (fun (i : Nat) => ps.length - i) (0) ?_ (E7 ⟨rfl, rfl, rfl, rfl, rfl, rfl, rfl, trivial⟩) ?_
 ·exact Nat.zero_le _
 intro i hinv
 refine R5 ?_
 refine A6 (A0 rfl) ?_ ?_
 ·intro h44
  have k44 := of_decide_eq_true h44; try simp only [A5] at k44
  have hlt : i < ps.length := (by simpa using h44)
  obtain ⟨p, hp⟩ := get_some hlt
  have hpk := h.ps.2 p (C4 hp)
  refine R5 ?_
  refine A4 rfl (C7 rfl Tryz.underlying168 Tryz.sizeOf121 (A0 rfl) (A0 rfl) hp qz3) ?_
  refine R6 ?_
  refine A4 rfl (B2 rfl Tryz.call161 rfl (Bk5 p (by have h9 := c4 (f := TOp.size) (c := 36) (l := p) fun o ho => (AF6 hpk.1.1 o ho).size; have h8 : p.length ≤ 8 := (by have h7 := hpk.1.1; unfold goodOps at h7; rw [Bool.and_eq_true, decide_eq_true_eq] at h7; have := h7.1; omega); have h6 : p.length * (36 + 1) ≤ 8 * 37 := Nat.mul_le_mul_right _ h8; omega)) (A1 (A0 rfl) A7)) ?_
  refine R7 ?_
  refine A6 (A0 rfl) ?_ ?_
  ·intro h54
   (exfalso; rw [show l5Good p = true from by rw [← BG6]; exact hpk.1.1] at h54; simp only [A5] at h54; simp at h54; have h9 := hpk.2; rw [h54] at h9; simp at h9)
  intro h54
  refine R5 ?_
  refine E9 i (i + 1) ?_ ?_ (E7 ⟨rfl, rfl, rfl, rfl, rfl, rfl, rfl, trivial⟩)
  ·exact qz8
  omega
 intro h44
 have k44 := of_decide_eq_false h44; try simp only [A5] at k44
 refine R9 ?_
 refine E2 [(0, _), (1, _), (2, _), (6, _), (57, _), (58, _)] _ (fun (j : Nat) => j ≤ ls.length) (fun (j : Nat) => []) (fun (j : Nat) => [(59, AV.int j)]) (fun (j : Nat) => ls.length - j) (0) ?_ (E7 ⟨rfl, rfl, rfl, rfl, rfl, rfl, rfl, trivial⟩) ?_
 ·exact Nat.zero_le _
 intro j hinv
 refine R5 ?_
 refine A6 (A0 rfl) ?_ ?_
 ·intro h60
  have k60 := of_decide_eq_true h60; try simp only [A5] at k60
  have hlt2 : j < ls.length := (by simpa using h60)
  obtain ⟨l, hl⟩ := get_some hlt2
  have hlk := h.ls.2 l (C4 hl)
  refine R5 ?_
  refine A4 rfl (C7 rfl i5 c9 (A0 rfl) (A0 rfl) hl qz3) ?_
  refine R6 ?_
  refine A4 rfl (B2 rfl Tryz.call162 rfl (Bl7 l (fun k hk => by have := (r5 (hlk.2.2 k hk)).2; omega)) (A1 (A0 rfl) A7)) ?_
  refine R2 ?_
  refine A6 (A0 rfl) ?_ ?_
  ·intro h65
   (exfalso; rw [l16K_of hlk.1 hlk.2.2 hlk.2.1] at h65; cases h65)
  intro h65
  refine R5 ?_
  refine E9 j (j + 1) ?_ ?_ (E7 ⟨rfl, rfl, rfl, rfl, rfl, rfl, rfl, trivial⟩)
  ·exact qz8
  omega
 intro h60
 have k60 := of_decide_eq_false h60; try simp only [A5] at k60
 refine R5 ?_
 refine A4 rfl (w_natc (a := ((cuts.map fun s => [AV.str s]).length : Int) + 1) N (Ad3 rfl (A0 rfl) D8 (by rw [A5]; omega)) (by rw [A5]; omega)) ?_
 refine R3 ?_
 refine awp_cut4 [(1, _), (2, _), (6, _), (12, _)] ⟨rfl, rfl, rfl, rfl, trivial⟩ (fun (b82 : Nat) (cv : Value) (lv : Value) (pv : Value) => [.box b82 199 [AV.int 0, AV.int 0, AV.is cv, strs cuts, AV.nils, AV.is lv, AV.is pv, AV.nils, AV.nils], .box b6 116 (List.map zeroA (Value.agg #[Value.int IntKind.i64 0, Value.int IntKind.i64 0, Value.slice none 0 0, Value.slice none 0 0, Value.slice none 0 0, Value.slice none 0 0, Value.slice none 0 0, Value.slice none 0 0, Value.slice none 0 0]).cells.toList), .arr cv 234 1 (List.replicate (3 * N) [AV.int 0]), .arr lv 203 1 (List.replicate N [AV.nils]), .arr pv 3 1 (List.replicate N [AV.int 0])]) (fun (b82 : Nat) (cv : Value) (lv : Value) (pv : Value) => [(13, AV.ptr b82 0)]) ?_ ?_
 ·skip
  refine BB6 [] 11 (.pure 0 (.pure 1 (.pure 3 (.pure 4 (.pure 5 (.pure 7 (.e3 2 (.e2 6 (.e1 8 (.pure 9 (.pure 10 .nil))) 8 (.e1 6 (.pure 9 (.pure 10 .nil)))) 6 (.e2 2 (.e1 8 (.pure 9 (.pure 10 .nil))) 8 (.e1 2 (.pure 9 (.pure 10 .nil)))) 8 (.e2 2 (.e1 6 (.pure 9 (.pure 10 .nil))) 6 (.e1 2 (.pure 9 (.pure 10 .nil))))))))))) F2 F2 rfl BB4 ?_
  refine R1 ?_
  refine r4 rfl rfl rfl (fun ext => w_natc (a := 3 * ((N : Nat) : Int)) (3 * N) (AR3 rfl D8 (A0 rfl) qz8) qz8) ?_
  refine R1 ?_
  refine r4 rfl rfl rfl (fun ext => B2 rfl Tryz.call163 rfl (o4 _ qz8) (A1 (A0 rfl) A7)) ?_
  refine R2 ?_
  refine bt3_e3 ?_ ?_ ?_
  ·refine F7 rfl rfl rfl (S3 1 (fun _ => rfl) (Y9 (by' := 8) rfl S4 Tryz.type234 rfl rfl rfl rfl rfl rfl (A0 rfl) (A0 rfl) qz3 qz3)) (fun a _ => qz4) ?_
   intro v73 hone_v73
   have one_v73 := hone_v73.2
   refine Bf2 ?_ ?_
   ·refine F7 rfl rfl rfl (S3 2 (fun _ => rfl) (Y9 (by' := 24) rfl Q3 Tryz.type203 rfl rfl rfl rfl rfl rfl (A0 rfl) (A0 rfl) qz3 qz3)) (fun a _ => qz4) ?_
    intro v77 hone_v77
    have one_v77 := hone_v77.2
    refine R1 ?_
    refine F7 rfl rfl rfl (S3 3 (fun _ => rfl) (Y9 (by' := 8) rfl B4 Tryz.type3 rfl rfl rfl rfl rfl rfl (A0 rfl) (A0 rfl) qz3 qz3)) (fun a _ => qz4) ?_
    intro v79 hone_v79
    have one_v79 := hone_v79.2
    refine r4 rfl rfl rfl (fun ext => W0 (places := #[(0, 1), (1, 1), (2, 1), (3, 1), (4, 1), (5, 1), (6, 1), (7, 1), (8, 1)]) rfl T6 Tryz.zeroValue116 (fun w => by kernel_rfl) rfl (D7 (A0 rfl) (M0 one_v73) (D7 (A0 rfl) (Y1 _ _) (D7 (A0 rfl) (M0 one_v77) (D7 (A0 rfl) (M0 one_v79) T7)))) rfl) ?_
    refine R3 ?_
    intro b82
    refine R2 ?_
    exact ⟨b82, v73, v77, v79, Le.trans (C1 [0, 0, 0, 0, 0] rfl) (E0 0 B0 ⟨rfl, rfl, rfl, rfl, rfl, trivial⟩)⟩
   refine F7 rfl rfl rfl (S3 2 (fun _ => rfl) (Y9 (by' := 8) rfl B4 Tryz.type3 rfl rfl rfl rfl rfl rfl (A0 rfl) (A0 rfl) qz3 qz3)) (fun a _ => qz4) ?_
   intro v79 hone_v79
   have one_v79 := hone_v79.2
   refine R1 ?_
   refine F7 rfl rfl rfl (S3 3 (fun _ => rfl) (Y9 (by' := 24) rfl Q3 Tryz.type203 rfl rfl rfl rfl rfl rfl (A0 rfl) (A0 rfl) qz3 qz3)) (fun a _ => qz4) ?_
   intro v77 hone_v77
   have one_v77 := hone_v77.2
   refine r4 rfl rfl rfl (fun ext => W0 (places := #[(0, 1), (1, 1), (2, 1), (3, 1), (4, 1), (5, 1), (6, 1), (7, 1), (8, 1)]) rfl T6 Tryz.zeroValue116 (fun w => by kernel_rfl) rfl (D7 (A0 rfl) (M0 one_v73) (D7 (A0 rfl) (Y1 _ _) (D7 (A0 rfl) (M0 one_v77) (D7 (A0 rfl) (M0 one_v79) T7)))) rfl) ?_
   refine R3 ?_
   intro b82
   refine R2 ?_
   exact ⟨b82, v73, v77, v79, Le.trans (C1 [0, 0, 0, 1, 0] rfl) (E0 0 B0 ⟨rfl, rfl, rfl, rfl, rfl, trivial⟩)⟩
  ·refine F7 rfl rfl rfl (S3 1 (fun _ => rfl) (Y9 (by' := 24) rfl Q3 Tryz.type203 rfl rfl rfl rfl rfl rfl (A0 rfl) (A0 rfl) qz3 qz3)) (fun a _ => qz4) ?_
   intro v77 hone_v77
   have one_v77 := hone_v77.2
   refine Bf2 ?_ ?_
   ·refine F7 rfl rfl rfl (S3 2 (fun _ => rfl) (Y9 (by' := 8) rfl S4 Tryz.type234 rfl rfl rfl rfl rfl rfl (A0 rfl) (A0 rfl) qz3 qz3)) (fun a _ => qz4) ?_
    intro v73 hone_v73
    have one_v73 := hone_v73.2
    refine R1 ?_
    refine F7 rfl rfl rfl (S3 3 (fun _ => rfl) (Y9 (by' := 8) rfl B4 Tryz.type3 rfl rfl rfl rfl rfl rfl (A0 rfl) (A0 rfl) qz3 qz3)) (fun a _ => qz4) ?_
    intro v79 hone_v79
    have one_v79 := hone_v79.2
    refine r4 rfl rfl rfl (fun ext => W0 (places := #[(0, 1), (1, 1), (2, 1), (3, 1), (4, 1), (5, 1), (6, 1), (7, 1), (8, 1)]) rfl T6 Tryz.zeroValue116 (fun w => by kernel_rfl) rfl (D7 (A0 rfl) (M0 one_v73) (D7 (A0 rfl) (Y1 _ _) (D7 (A0 rfl) (M0 one_v77) (D7 (A0 rfl) (M0 one_v79) T7)))) rfl) ?_
    refine R3 ?_
    intro b82
    refine R2 ?_
    exact ⟨b82, v73, v77, v79, Le.trans (C1 [0, 0, 1, 0, 0] rfl) (E0 0 B0 ⟨rfl, rfl, rfl, rfl, rfl, trivial⟩)⟩
   refine F7 rfl rfl rfl (S3 2 (fun _ => rfl) (Y9 (by' := 8) rfl B4 Tryz.type3 rfl rfl rfl rfl rfl rfl (A0 rfl) (A0 rfl) qz3 qz3)) (fun a _ => qz4) ?_
   intro v79 hone_v79
   have one_v79 := hone_v79.2
   refine R1 ?_
   refine F7 rfl rfl rfl (S3 3 (fun _ => rfl) (Y9 (by' := 8) rfl S4 Tryz.type234 rfl rfl rfl rfl rfl rfl (A0 rfl) (A0 rfl) qz3 qz3)) (fun a _ => qz4) ?_
   intro v73 hone_v73
   have one_v73 := hone_v73.2
   refine r4 rfl rfl rfl (fun ext => W0 (places := #[(0, 1), (1, 1), (2, 1), (3, 1), (4, 1), (5, 1), (6, 1), (7, 1), (8, 1)]) rfl T6 Tryz.zeroValue116 (fun w => by kernel_rfl) rfl (D7 (A0 rfl) (M0 one_v73) (D7 (A0 rfl) (Y1 _ _) (D7 (A0 rfl) (M0 one_v77) (D7 (A0 rfl) (M0 one_v79) T7)))) rfl) ?_
   refine R3 ?_
   intro b82
   refine R2 ?_
   exact ⟨b82, v73, v77, v79, Le.trans (C1 [0, 0, 2, 0, 0] rfl) (E0 0 B0 ⟨rfl, rfl, rfl, rfl, rfl, trivial⟩)⟩
  refine F7 rfl rfl rfl (S3 1 (fun _ => rfl) (Y9 (by' := 8) rfl B4 Tryz.type3 rfl rfl rfl rfl rfl rfl (A0 rfl) (A0 rfl) qz3 qz3)) (fun a _ => qz4) ?_
  intro v79 hone_v79
  have one_v79 := hone_v79.2
  refine Bf2 ?_ ?_
  ·refine F7 rfl rfl rfl (S3 2 (fun _ => rfl) (Y9 (by' := 8) rfl S4 Tryz.type234 rfl rfl rfl rfl rfl rfl (A0 rfl) (A0 rfl) qz3 qz3)) (fun a _ => qz4) ?_
   intro v73 hone_v73
   have one_v73 := hone_v73.2
   refine R1 ?_
   refine F7 rfl rfl rfl (S3 3 (fun _ => rfl) (Y9 (by' := 24) rfl Q3 Tryz.type203 rfl rfl rfl rfl rfl rfl (A0 rfl) (A0 rfl) qz3 qz3)) (fun a _ => qz4) ?_
   intro v77 hone_v77
   have one_v77 := hone_v77.2
   refine r4 rfl rfl rfl (fun ext => W0 (places := #[(0, 1), (1, 1), (2, 1), (3, 1), (4, 1), (5, 1), (6, 1), (7, 1), (8, 1)]) rfl T6 Tryz.zeroValue116 (fun w => by kernel_rfl) rfl (D7 (A0 rfl) (M0 one_v73) (D7 (A0 rfl) (Y1 _ _) (D7 (A0 rfl) (M0 one_v77) (D7 (A0 rfl) (M0 one_v79) T7)))) rfl) ?_
   refine R3 ?_
   intro b82
   refine R2 ?_
   exact ⟨b82, v73, v77, v79, Le.trans (C1 [0, 0, 1, 1, 0] rfl) (E0 0 B0 ⟨rfl, rfl, rfl, rfl, rfl, trivial⟩)⟩
  refine F7 rfl rfl rfl (S3 2 (fun _ => rfl) (Y9 (by' := 24) rfl Q3 Tryz.type203 rfl rfl rfl rfl rfl rfl (A0 rfl) (A0 rfl) qz3 qz3)) (fun a _ => qz4) ?_
  intro v77 hone_v77
  have one_v77 := hone_v77.2
  refine R1 ?_
  refine F7 rfl rfl rfl (S3 3 (fun _ => rfl) (Y9 (by' := 8) rfl S4 Tryz.type234 rfl rfl rfl rfl rfl rfl (A0 rfl) (A0 rfl) qz3 qz3)) (fun a _ => qz4) ?_
  intro v73 hone_v73
  have one_v73 := hone_v73.2
  refine r4 rfl rfl rfl (fun ext => W0 (places := #[(0, 1), (1, 1), (2, 1), (3, 1), (4, 1), (5, 1), (6, 1), (7, 1), (8, 1)]) rfl T6 Tryz.zeroValue116 (fun w => by kernel_rfl) rfl (D7 (A0 rfl) (M0 one_v73) (D7 (A0 rfl) (Y1 _ _) (D7 (A0 rfl) (M0 one_v77) (D7 (A0 rfl) (M0 one_v79) T7)))) rfl) ?_
  refine R3 ?_
  intro b82
  refine R2 ?_
  exact ⟨b82, v73, v77, v79, Le.trans (C1 [0, 0, 2, 1, 0] rfl) (E0 0 B0 ⟨rfl, rfl, rfl, rfl, rfl, trivial⟩)⟩
 intro b82 cv lv pv
 refine R2 ?_
 refine AWP.le (AI9 5 3 (.arr lv 203 1 ((List.replicate N ([] : List H8)).map fun l => [AV.list 3 (l.map H8.cs)])) rfl (⟨rfl, rfl, rfl, nilRows N⟩) O0) ?_
 refine R4 ?_
 refine Z1 178 3 ?_
 refine AWP.le (C1 [1, 0] rfl) ?_
 refine J0 [(1, _), (2, _), (6, _), (12, _), (13, _)] _ (fun (i : Nat) (gv : Value) => i ≤ N) (fun (i : Nat) (gv : Value) => [.box b82 199 [AV.int 0, AV.int 0, AV.is cv, strs cuts, AV.is gv, AV.is lv, AV.is pv, AV.nils, AV.nils], .arr gv 178 3 ((List.replicate i newG3).map TGroup.cs)]) (fun (i : Nat) (gv : Value) => [(14, AV.int i)]) (fun (i : Nat) (gv : Value) => N - i) (0) (Value.slice none 0 0) ?_ (H7 B0 ⟨rfl, rfl, rfl, rfl, rfl, rfl, trivial⟩) ?_
 ·exact Nat.zero_le _
 intro i gv hinv
 refine R7 ?_
 refine A6 (A0 rfl) ?_ ?_
 ·intro h85
  have k85 := of_decide_eq_true h85; try simp only [A5] at k85
  refine R5 ?_
  refine A4 rfl (B2 rfl Tryz.call164 rfl (Ba8 3) (A1 D8 A7)) ?_
  refine R4 ?_
  intro b15
  refine R3 ?_
  refine I3 AC3 ?_
  refine AWP.le (C1 [1, 0] rfl) ?_
  refine M3 _ [(0, false), (1, false), (2, false), (3, false), (4, false), (5, false), (6, false), (7, false), (8, true)] F2 F2 rfl (O2 2) ?_
  refine R8 ?_
  refine Q0 rfl rfl rfl (J6 (by' := 40) 2 rfl G7 Tryz.type178 rfl rfl rfl rfl rfl rfl (A0 rfl) (A0 rfl) rfl (by rw [A5, List.length_replicate]; simp only [O9]; omega)) (fun a _ => qz4) ?_
  intro v100_1 _
  refine R4 ?_
  refine Q5 2 rfl fun one_v100_1 => ?_
  refine O1 0 rfl rfl rfl (A0 rfl) (A0 rfl) (M0 one_v100_1) rfl Tryz.sizeOf111 rfl ?_
  refine R1 ?_
  refine I3 AC3 ?_
  refine R5 ?_
  refine G4 i gv (i + 1) (v100_1) ?_ ?_ (Le.trans (C1 [1, 0, 0] rfl) (E0 1 (by (rw [List.replicate_succ', List.map_append]; rfl)) ⟨rfl, rfl, rfl, rfl, rfl, rfl, trivial⟩))
  ·exact qz8
  omega
 intro h85
 have k85 := of_decide_eq_false h85; try simp only [A5] at k85
 rw [show i = N by omega]
 refine R9 ?_
 refine Z1 143 10 ?_
 refine AWP.le (C1 [1, 2, 2, 1, 1, 1, 0] rfl) ?_
 refine Q4 [(2, _), (6, _), (12, _), (13, _), (104, _), (105, _)] [] (fun (j : Nat) (tv : Value) (T : List (Value × Value)) => j ≤ ps.length ∧ T.length = j) (fun (j : Nat) (tv : Value) (T : List (Value × Value)) => [.box b82 199 [AV.int 0, AV.int 0, AV.is cv, strs cuts, AV.is gv, AV.is lv, AV.is pv, AV.is tv, AV.nils], .box b6 116 (List.map zeroA (Value.agg #[Value.int IntKind.i64 0, Value.int IntKind.i64 0, Value.slice none 0 0, Value.slice none 0 0, Value.slice none 0 0, Value.slice none 0 0, Value.slice none 0 0, Value.slice none 0 0, Value.slice none 0 0]).cells.toList), .arr cv 234 1 (List.replicate (3 * N) [AV.int 0]), .arr gv 178 3 ((List.replicate N newG3).map TGroup.cs), .arr lv 203 1 ((List.replicate N ([] : List H8)).map fun l => [AV.list 3 (l.map H8.cs)]), .arr pv 3 1 (List.replicate N [AV.int 0]), .arr tv 143 10 (nrows A3.ocs (P9.take j) T)] ++ (nin A3.ow (P9.take j) T)) (fun (j : Nat) (tv : Value) (T : List (Value × Value)) => [(106, AV.int j)]) (fun (j : Nat) (tv : Value) (T : List (Value × Value)) => ps.length - j) (0) (Value.slice none 0 0) ([]) ?_ (H7 B0 ⟨rfl, rfl, rfl, rfl, rfl, rfl, rfl, trivial⟩) ?_
 ·exact ⟨Nat.zero_le _, rfl⟩
 intro j tv T hinv
 refine I3 (List.append_nil _) ?_
 refine R5 ?_
 refine A6 (A0 rfl) ?_ ?_
 ·intro h107
  have k107 := of_decide_eq_true h107; try simp only [A5] at k107
  have hlt : j < ps.length := (by simpa using h107)
  obtain ⟨p, hp⟩ := get_some hlt
  have ht : P9[j]? = some (Bm9 N p) := (by rw [← hP9, List.getElem?_map, hp]; rfl)
  have hpk := h.ps.2 p (C4 hp)
  have hp8 : p.length ≤ 8 := (by have h9 := hpk.1.1; unfold goodOps at h9; rw [Bool.and_eq_true, decide_eq_true_eq] at h9; have := h9.1; omega)
  refine R5 ?_
  refine A4 rfl (C7 rfl Tryz.underlying168 Tryz.sizeOf121 (A0 rfl) (A0 rfl) hp qz3) ?_
  refine R3 ?_
  refine AWP.le (C1 [0] rfl) ?_
  refine Q8 _ 14 (.pure 0 (.pure 1 (.pure 2 (.pure 3 (.pure 4 (.pure 5 (.pure 7 (.pure 9 (.e2 6 (.e2 8 (.e1 10 (.pure 11 (.pure 12 (.e1 13 .nil)))) 10 (.e1 8 (.pure 11 (.pure 12 (.e1 13 .nil))))) 10 (.e1 6 (.e1 8 (.pure 11 (.pure 12 (.e1 13 .nil)))))))))))))) F2 F2 rfl (O2 1) ?_
  refine R8 ?_
  refine j5 ?_ ?_
  ·refine F7 rfl rfl rfl (Y2 7 <| Z4 rfl P3 S7) (fun a _ => qz4) ?_
   intro v116 _
   refine j5 ?_ ?_
   ·refine F7 rfl rfl rfl (AD5 [7] (fun _ => rfl) (fun _ => J5 (C4 (i := 0) rfl) F4) (fun _ => O0) (J6 (by' := 48) 7 rfl P3 Tryz.type156 rfl rfl rfl rfl rfl rfl (A0 rfl) (A0 rfl) rfl qz3)) (fun a _ => qz4) ?_
    intro v118_2 _
    refine R1 ?_
    refine F7 rfl rfl rfl (S3 7 (fun _ => rfl) (Y2 7 <| Y9 (by' := 8) rfl B4 Tryz.type3 rfl rfl rfl rfl rfl rfl (A0 rfl) (A0 rfl) qz3 qz3)) (fun a _ => qz4) ?_
    intro v120 hone_v120
    have one_v120 := hone_v120.2
    refine K4 rfl rfl rfl (fun ext => W0 (places := #[(0, 1), (1, 1), (2, 1), (3, 1), (4, 1), (5, 1), (6, 1), (7, 1), (8, 1), (9, 1)]) rfl H6 Tryz.zeroValue143 (fun w => by kernel_rfl) rfl (D7 (A0 rfl) (Y1 _ _) (D7 (A0 rfl) (M0 one_v120) (D7 D8 (Q1 _ _) (D7 D8 (Q1 _ _) T7)))) rfl) ?_
    refine R2 ?_
    refine F7 rfl rfl rfl (J6 (by' := 112) 6 rfl K0 Tryz.type143 rfl rfl rfl rfl rfl rfl (A0 rfl) (A0 rfl) rfl BA1) (fun a _ => qz4) ?_
    intro v123_3 _
    refine R4 ?_
    refine Q5 6 rfl fun one_v123_3 => ?_
    refine O1 0 rfl rfl rfl (A0 rfl) (A0 rfl) (M0 one_v123_3) rfl Tryz.sizeOf113 rfl ?_
    refine R1 ?_
    refine I3 AC3 ?_
    refine Z1 45 3 ?_
    refine AWP.le (C1 [1, 1, 1, 1, 1, 1, 1, 0, 0] rfl) ?_
    refine AWP.le (N4 7 (t := nin A3.ow (P9.take (j + 1)) (T ++ [(Value.slice none 0 0, v120)])) ((AG0 (b := [Go.AV.Own.arr (Value.slice none 0 0) 45 3 [], Go.AV.Own.arr v120 3 1 ((List.replicate N (0 : Int)).map fun n => [AV.int n])] ++ nin A3.ow (P9.take j) T) qz102 (AI8 (ow := A3.ow) (x := (Value.slice none 0 0, v120)) ht hinv.2)))) ?_
    refine R4 ?_
    refine L7 j tv T (j + 1) (v123_3) (T ++ [(Value.slice none 0 0, v120)]) ?_ ?_ (Le.trans (C1 [0, 0, 0, 0, 0, 0, 0] rfl) (H7 (Eq.trans qz119 (List.append_nil _).symm) ⟨rfl, rfl, rfl, rfl, rfl, rfl, rfl, trivial⟩))
    ·exact ⟨by omega, by rw [G3, hinv.2]; rfl⟩
    omega
   refine F7 rfl rfl rfl (S3 8 (fun _ => rfl) (Y2 8 <| Y9 (by' := 8) rfl B4 Tryz.type3 rfl rfl rfl rfl rfl rfl (A0 rfl) (A0 rfl) qz3 qz3)) (fun a _ => qz4) ?_
   intro v120 hone_v120
   have one_v120 := hone_v120.2
   refine R1 ?_
   refine F7 rfl rfl rfl (AD5 [7] (fun _ => rfl) (fun _ => J5 (C4 (i := 0) rfl) F4) (fun _ => O0) (J6 (by' := 48) 7 rfl P3 Tryz.type156 rfl rfl rfl rfl rfl rfl (A0 rfl) (A0 rfl) rfl qz3)) (fun a _ => qz4) ?_
   intro v118_4 _
   refine K4 rfl rfl rfl (fun ext => W0 (places := #[(0, 1), (1, 1), (2, 1), (3, 1), (4, 1), (5, 1), (6, 1), (7, 1), (8, 1), (9, 1)]) rfl H6 Tryz.zeroValue143 (fun w => by kernel_rfl) rfl (D7 (A0 rfl) (Y1 _ _) (D7 (A0 rfl) (M0 one_v120) (D7 D8 (Q1 _ _) (D7 D8 (Q1 _ _) T7)))) rfl) ?_
   refine R2 ?_
   refine F7 rfl rfl rfl (J6 (by' := 112) 6 rfl K0 Tryz.type143 rfl rfl rfl rfl rfl rfl (A0 rfl) (A0 rfl) rfl BA1) (fun a _ => qz4) ?_
   intro v123_5 _
   refine R4 ?_
   refine Q5 6 rfl fun one_v123_5 => ?_
   refine O1 0 rfl rfl rfl (A0 rfl) (A0 rfl) (M0 one_v123_5) rfl Tryz.sizeOf113 rfl ?_
   refine R1 ?_
   refine I3 AC3 ?_
   refine Z1 45 3 ?_
   refine AWP.le (C1 [1, 1, 1, 1, 1, 1, 1, 0, 0] rfl) ?_
   refine AWP.le (N4 7 (t := nin A3.ow (P9.take (j + 1)) (T ++ [(Value.slice none 0 0, v120)])) ((AG0 (b := [Go.AV.Own.arr (Value.slice none 0 0) 45 3 [], Go.AV.Own.arr v120 3 1 ((List.replicate N (0 : Int)).map fun n => [AV.int n])] ++ nin A3.ow (P9.take j) T) qz102 (AI8 (ow := A3.ow) (x := (Value.slice none 0 0, v120)) ht hinv.2)))) ?_
   refine R4 ?_
   refine L7 j tv T (j + 1) (v123_5) (T ++ [(Value.slice none 0 0, v120)]) ?_ ?_ (Le.trans (C1 [0, 0, 0, 0, 0, 0, 0] rfl) (H7 (Eq.trans qz119 (List.append_nil _).symm) ⟨rfl, rfl, rfl, rfl, rfl, rfl, rfl, trivial⟩))
   ·exact ⟨by omega, by rw [G3, hinv.2]; rfl⟩
   omega
  refine F7 rfl rfl rfl (S3 7 (fun _ => rfl) (Y2 7 <| Y9 (by' := 8) rfl B4 Tryz.type3 rfl rfl rfl rfl rfl rfl (A0 rfl) (A0 rfl) qz3 qz3)) (fun a _ => qz4) ?_
  intro v120 hone_v120
  have one_v120 := hone_v120.2
  refine R1 ?_
  refine F7 rfl rfl rfl (Y2 8 <| Z4 rfl P3 S7) (fun a _ => qz4) ?_
  intro v116 _
  refine R1 ?_
  refine F7 rfl rfl rfl (AD5 [8] (fun _ => rfl) (fun _ => J5 (C4 (i := 0) rfl) F4) (fun _ => O0) (J6 (by' := 48) 8 rfl P3 Tryz.type156 rfl rfl rfl rfl rfl rfl (A0 rfl) (A0 rfl) rfl qz3)) (fun a _ => qz4) ?_
  intro v118_6 _
  refine K4 rfl rfl rfl (fun ext => W0 (places := #[(0, 1), (1, 1), (2, 1), (3, 1), (4, 1), (5, 1), (6, 1), (7, 1), (8, 1), (9, 1)]) rfl H6 Tryz.zeroValue143 (fun w => by kernel_rfl) rfl (D7 (A0 rfl) (Y1 _ _) (D7 (A0 rfl) (M0 one_v120) (D7 D8 (Q1 _ _) (D7 D8 (Q1 _ _) T7)))) rfl) ?_
  refine R2 ?_
  refine F7 rfl rfl rfl (J6 (by' := 112) 6 rfl K0 Tryz.type143 rfl rfl rfl rfl rfl rfl (A0 rfl) (A0 rfl) rfl BA1) (fun a _ => qz4) ?_
  intro v123_7 _
  refine R4 ?_
  refine Q5 6 rfl fun one_v123_7 => ?_
  refine O1 0 rfl rfl rfl (A0 rfl) (A0 rfl) (M0 one_v123_7) rfl Tryz.sizeOf113 rfl ?_
  refine R1 ?_
  refine I3 AC3 ?_
  refine Z1 45 3 ?_
  refine AWP.le (C1 [1, 1, 1, 1, 1, 1, 1, 0, 0] rfl) ?_
  refine AWP.le (N4 7 (t := nin A3.ow (P9.take (j + 1)) (T ++ [(Value.slice none 0 0, v120)])) ((AG0 (b := [Go.AV.Own.arr (Value.slice none 0 0) 45 3 [], Go.AV.Own.arr v120 3 1 ((List.replicate N (0 : Int)).map fun n => [AV.int n])] ++ nin A3.ow (P9.take j) T) qz102 (AI8 (ow := A3.ow) (x := (Value.slice none 0 0, v120)) ht hinv.2)))) ?_
  refine R4 ?_
  refine L7 j tv T (j + 1) (v123_7) (T ++ [(Value.slice none 0 0, v120)]) ?_ ?_ (Le.trans (C1 [0, 0, 0, 0, 0, 0, 0] rfl) (H7 (Eq.trans qz119 (List.append_nil _).symm) ⟨rfl, rfl, rfl, rfl, rfl, rfl, rfl, trivial⟩))
  ·exact ⟨by omega, by rw [G3, hinv.2]; rfl⟩
  omega
 intro h107
 have k107 := of_decide_eq_false h107; try simp only [A5] at k107
 have hxT : T.length = ps.length := (by have h9 : ps.length ≤ j := (by simpa using h107); omega)
 rw [show P9.take j = P9 from List.take_of_length_le qz8]
 refine R9 ?_
 refine Z1 152 6 ?_
 refine AWP.le (C1 [1, 1, 1, 1, 1, 1, 1, 0] rfl) ?_
 refine Q4 [(6, _), (12, _), (13, _), (128, _), (129, _)] [] (fun (m : Nat) (kv : Value) (L : List Value) => m ≤ ls.length ∧ L.length = m) (fun (m : Nat) (kv : Value) (L : List Value) => [.box b82 199 [AV.int 0, AV.int 0, AV.is cv, strs cuts, AV.is gv, AV.is lv, AV.is pv, AV.is tv, AV.is kv], .box b6 116 (List.map zeroA (Value.agg #[Value.int IntKind.i64 0, Value.int IntKind.i64 0, Value.slice none 0 0, Value.slice none 0 0, Value.slice none 0 0, Value.slice none 0 0, Value.slice none 0 0, Value.slice none 0 0, Value.slice none 0 0]).cells.toList), .arr cv 234 1 (List.replicate (3 * N) [AV.int 0]), .arr gv 178 3 ((List.replicate N newG3).map TGroup.cs), .arr lv 203 1 ((List.replicate N ([] : List H8)).map fun l => [AV.list 3 (l.map H8.cs)]), .arr pv 3 1 (List.replicate N [AV.int 0]), .arr tv 143 10 (nrows A3.ocs P9 T), .arr kv 152 6 (nrows A2.ocs (Q9.take m) L)] ++ (nin A3.ow P9 T ++ nin A2.ow (Q9.take m) L)) (fun (m : Nat) (kv : Value) (L : List Value) => [(130, AV.int m)]) (fun (m : Nat) (kv : Value) (L : List Value) => ls.length - m) (0) (Value.slice none 0 0) ([]) ?_ (H7 (by (rw [show nin A2.ow (Q9.take 0) ([] : List Value) = [] from rfl, List.append_nil (nin A3.ow P9 T), List.append_nil]; rfl)) ⟨rfl, rfl, rfl, rfl, rfl, rfl, trivial⟩) ?_
 ·exact ⟨Nat.zero_le _, rfl⟩
 intro m kv L hinv
 refine I3 (List.append_nil _) ?_
 refine R5 ?_
 refine A6 (A0 rfl) ?_ ?_
 ·intro h131
  have k131 := of_decide_eq_true h131; try simp only [A5] at k131
  have hltm : m < ls.length := (by simpa using h131)
  obtain ⟨l, hl⟩ := get_some hltm
  have hq9 : Q9[m]? = some (newLook N m l) := (by rw [← hQ9]; exact Bl6 hl)
  have hlk := h.ls.2 l (C4 hl)
  refine R6 ?_
  refine A4 rfl (C7 rfl i5 c9 (A0 rfl) (A0 rfl) hl qz3) ?_
  refine R4 ?_
  refine AWP.le (C1 [0] rfl) ?_
  refine M3 _ [(0, false), (1, false), (2, false), (3, false), (4, false), (5, false), (6, false), (7, false), (8, false), (9, false), (10, false), (11, false), (12, false), (13, false), (14, true)] F2 F2 rfl (O2 1) ?_
  refine R8 ?_
  refine M4 rfl rfl rfl (fun ext => AR3 rfl D8 (A0 rfl) qz3) ?_
  refine M4 rfl rfl rfl (fun ext => Ag3 rfl (A0 rfl) (A0 rfl) qz3) ?_
  refine R1 ?_
  refine M4 rfl rfl rfl (fun ext => B2 rfl Tryz.call163 rfl (o4 _ qz8) (A1 (A0 rfl) A7)) ?_
  refine R2 ?_
  refine Q0 rfl rfl rfl (J6 (by' := 80) 7 rfl i4 Tryz.type152 rfl rfl rfl rfl rfl rfl (A0 rfl) (A0 rfl) rfl BA1) (fun a _ => qz4) ?_
  intro v149_8 _
  refine R4 ?_
  refine Q5 7 rfl fun one_v149_8 => ?_
  refine O1 0 rfl rfl rfl (A0 rfl) (A0 rfl) (M0 one_v149_8) rfl Tryz.sizeOf114 rfl ?_
  refine R1 ?_
  refine I3 AC3 ?_
  refine Z1 45 3 ?_
  refine AWP.le (C1 [1, 1, 1, 1, 1, 1, 1, 1, 0] rfl) ?_
  refine AWP.le (N4 8 (t := nin A3.ow P9 T ++ nin A2.ow (Q9.take (m + 1)) (L ++ [Value.slice none 0 0])) (Bl5 (x := (Value.slice none 0 0)) hq9 hinv.2)) ?_
  refine R4 ?_
  refine L7 m kv L (m + 1) (v149_8) (L ++ [Value.slice none 0 0]) ?_ ?_ (Le.trans (C1 [0, 0, 0, 0, 0, 0, 0, 0] rfl) (H7 (Eq.trans (by (rw [← AF1 (ocs := A2.ocs) (x := (Value.slice none 0 0)) hq9 hinv.2]; rfl)) (List.append_nil _).symm) ⟨rfl, rfl, rfl, rfl, rfl, rfl, trivial⟩))
  ·exact ⟨by omega, by rw [G3, hinv.2]; rfl⟩
  omega
 intro h131
 have k131 := of_decide_eq_false h131; try simp only [A5] at k131
 have hxL : L.length = ls.length := (by have h9 : ls.length ≤ m := (by simpa using h131); omega)
 rw [show Q9.take m = Q9 from List.take_of_length_le qz8]
 refine R7 ?_
 refine AWP.le (C1 [0, 1, 1, 1, 1, 1, 1, 0] rfl) ?_
 refine J0 [(6, _), (12, _), (13, _)] [] (fun (g : Nat) (v : TWorld) => g ≤ N ∧ WI v ∧ (v.Groups.length = N ∧ v.Count = 0) ∧ v.Txns = P9 ∧ v.Looks = Q9) (fun (g : Nat) (v : TWorld) => [.box b82 199 [AV.int v.Now, AV.int v.Count, AV.is cv, strs v.Cuts, AV.is gv, AV.is lv, AV.is pv, AV.is tv, AV.is kv], .arr cv 234 1 (v.Clocks.map V6.cs), .arr gv 178 3 (v.Groups.map TGroup.cs), .arr lv 203 1 (v.Locks.map fun l => [AV.list 3 (l.map H8.cs)]), .arr pv 3 1 (v.Promised.map fun n => [AV.int n]), .arr tv 143 10 (nrows A3.ocs v.Txns T), .arr kv 152 6 (nrows A2.ocs v.Looks L), .box b6 116 (List.map zeroA (Value.agg #[Value.int IntKind.i64 0, Value.int IntKind.i64 0, Value.slice none 0 0, Value.slice none 0 0, Value.slice none 0 0, Value.slice none 0 0, Value.slice none 0 0, Value.slice none 0 0, Value.slice none 0 0]).cells.toList)] ++ (nin A3.ow v.Txns T ++ nin A2.ow v.Looks L)) (fun (g : Nat) (v : TWorld) => [(21, AV.int g)]) (fun (g : Nat) (v : TWorld) => N - g) (0) (newW cuts ps ls) ?_ (H7 (by (rw [List.append_nil]; unfold newW; dsimp only; rw [hN, hP9, hQ9, AX7, AX7, AX7, AX7]; rfl)) ⟨rfl, rfl, rfl, rfl, trivial⟩) ?_
 ·exact ⟨Nat.zero_le _, hwi, ⟨(by unfold newW; dsimp only; rw [List.length_replicate]; exact hN), rfl⟩, (by rw [← hP9, ← hN]; rfl), (by rw [← hQ9, ← hN]; rfl)⟩
 intro g v hinv
 refine I3 (List.append_nil _) ?_
 refine R7 ?_
 refine A6 (A0 rfl) ?_ ?_
 ·intro h156
  have k156 := of_decide_eq_true h156; try simp only [A5] at k156
  have hgN : g < N := (by simp at h156; omega)
  refine R6 ?_
  refine A4 rfl (AR3 rfl D8 (A0 rfl) qz3) ?_
  refine I1 [0, 0, 0, 0, 0, 0, 0] 1 7 (nin A3.ow v.Txns T ++ nin A2.ow v.Looks L) ([]) (fun zz => nin A3.ow zz.1.Txns T ++ nin A2.ow zz.1.Looks L) rfl rfl rfl rfl Tryz.call165 rfl rfl (show List.Perm (nin A3.ow v.Txns T ++ nin A2.ow v.Looks L) ((nin A3.ow v.Txns T ++ nin A2.ow v.Looks L) ++ ([])) from B5) (BX2 b82 v ⟨cv, gv, lv, pv, tv, kv⟩ T L (3 * (g : Int)) hinv.2.1 (by rw [hinv.2.2.1.1]; omega)) (A1 (A0 rfl) (A1 (A0 rfl) A7)) (fun a => J7) ?_
  intro x162 ok162
  refine R6 ?_
  refine G4 g v (g + 1) (x162.1) ?_ ?_ (H7 (Eq.trans B0 (List.append_nil _).symm) ⟨rfl, rfl, rfl, rfl, trivial⟩)
  ·exact ⟨by omega, ok162.1, ⟨ok162.2.1.groups.trans hinv.2.2.1.1, ok162.2.1.count.trans hinv.2.2.1.2⟩, ok162.2.2.1.trans hinv.2.2.2.1, ok162.2.2.2.trans hinv.2.2.2.2⟩
  omega
 intro h156
 have k156 := of_decide_eq_false h156; try simp only [A5] at k156
 refine R2 ?_
 refine AWP.le (C1 [0, 6, 0, 0, 0, 0, 0, 0] rfl) ?_
 refine AWP.le (AI9 2 0 (.box b82 199 v.cs) rfl (⟨rfl, rfl, Ak9 (w := v) (X := ⟨cv, gv, lv, pv, tv, kv⟩) (T := T) (L := L) (by rw [hinv.2.2.2.1, hxT, ← hP9, A5]) (by rw [hinv.2.2.2.2, hxL, ← hQ9, As6]) (fun _ ho => ho)⟩) O0) ?_
 refine R5 ?_
 refine A4 rfl (B2 rfl Tryz.call143 rfl (Ae9 v hinv.2.1) (A1 (A0 rfl) A7)) ?_
 refine R4 ?_
 exact I0 [] (v) (⟨hinv.2.1, newW_wq cuts ps ls v (by rw [hinv.2.2.2.1, ← hP9, ← hN]; rfl) (by rw [hinv.2.2.2.2, ← hQ9, ← hN]; rfl) hinv.2.2.1.2⟩) rfl B0 (U3 rfl D3 (B8 (H1 (ys := _) 1 rfl rfl V5 N2 rfl) (B8 (A8 rfl B0) G6)))
end Go.Proofs.YtcfkbhnpfjjmjaaGreat
namespace Go.M
open Go.AV
theorem most9 (n : Nat) (h : n ≤ 9) : 1 ≤ W5 1 (n : Int) ∧ W5 1 (n : Int) ≤ 9 := by unfold W5; split <;> omega
theorem putS_pos (s : Str) (l : List Str) : 1 ≤ (putS l s).length := by
  cases l with
  | nil => simp [putS]
  | cons x l => unfold putS; split <;> (try split) <;> simp
def Bn0 (p : List TOp) : Prop := (goodOps p = true ∧ ∀ o ∈ p, o.Key ∈ keyD) ∧ 1 ≤ p.length
def BR6 (l : List Str) : Prop := (1 ≤ l.length ∧ l.length ≤ 8) ∧ n1 l ∧ ∀ k ∈ l, k ∈ keyD
end Go.M
namespace Go.Proofs.YtcfkbhnpfjjmjaaGreat
open Go Go.AV Go.M
attribute [local irreducible] OpW OpA OpS AWP B9 J2 C9 OpE RetOk H0 I6 Le Ev F1 J8 V9 Int.tmod Int.tdiv IntKind.wrap bandI
theorem BJ9 (b : Nat) (code : List Int) (hcode : Z2 code) (c : N6) (w : TWorld) (hw : WI w) (hp : c.p ≤ 5000000) : C9 Tryz.prog 145 [AV.ptr b 0, AV.agg w.cs] [.box b 55 (S0 code c)] (fun x : N6 × Q7 => x.1.p ≤ c.p + 6 ∧ X7 x.2) (fun x => [.box b 55 (S0 code x.1)]) (fun x => AV.agg x.2.cs) := by
 have hng := hw.n
 have hcl := hw.clocks.1
 have htl := hw.txns.1
 have hll := hw.looks.1
 have hm1 := most9 w.Txns.length qz8
 have hm2 := most9 w.Looks.length qz8
 refine C6 Tryz.func145 rfl Tryz.ntmps145 rfl ?_
 refine R3 ?_
 intro b3
 refine R1 ?_
 intro b4
 refine R12 ?_
 refine F0 [2] rfl rfl rfl rfl Tryz.call22 rfl (L0 _ _ hcode _ _ AC2 qz8) (A1 (A0 rfl) (A1 D8 A7)) rfl ?_
 intro x10 ok10
 refine R7 ?_
 refine A6 (A0 rfl) ?_ ?_
 ·intro h11
  have k11 := D1 h11; try simp only [A5] at k11
  refine R4 ?_
  refine F0 [0] rfl rfl rfl rfl Tryz.call22 rfl (L0 _ _ hcode _ _ AC2 qz8) (A1 (A0 rfl) (A1 (A0 rfl) A7)) rfl ?_
  intro x15 ok15
  refine R1 ?_
  refine F0 [0] rfl rfl rfl rfl Tryz.call22 rfl (L0 _ _ hcode _ _ AC2 qz8) (A1 (A0 rfl) (A1 D8 A7)) rfl ?_
  intro x17 ok17
  refine R4 ?_
  (refine I0 [0] ((x17.1, ⟨2, x15.2, x17.2⟩)) ?_ rfl V7 (E4 rfl (H1 (ys := _) 1 rfl rfl Z7 X5 rfl)); (simp only [A5] at *; unfold X7; dsimp only; exact ⟨by omega, ⟨⟨by omega, by omega⟩, by omega, by omega⟩⟩))
 intro h11
 have k11 := D5 h11; try simp only [A5] at k11
 refine R5 ?_
 refine A6 (A0 rfl) ?_ ?_
 ·intro h19
  have k19 := D1 h19; try simp only [A5] at k19
  refine R4 ?_
  refine F0 [0] rfl rfl rfl rfl Tryz.call156 rfl (l6 _ _ hcode _ ([(3), (3), (4)] : List Int) D3 qz8) (A1 (A0 rfl) (A1 (A0 rfl) A7)) rfl ?_
  intro x23 ok23
  refine R2 ?_
  refine F0 [0] rfl rfl rfl rfl Tryz.call22 rfl (L0 _ _ hcode _ _ AC2 qz8) (A1 (A0 rfl) (A1 (A0 rfl) A7)) rfl ?_
  intro x26 ok26
  refine R4 ?_
  (refine I0 [0] ((x26.1, ⟨x23.2, x26.2, 0⟩)) ?_ rfl V7 (E4 rfl (H1 (ys := _) 1 rfl rfl Z7 X5 rfl)); (simp only [A5] at *; unfold X7; dsimp only; exact ⟨by omega, ⟨⟨by omega, by omega⟩, by omega, by omega⟩⟩))
 intro h19
 have k19 := D5 h19; try simp only [A5] at k19
 refine R5 ?_
 refine A6 (A0 rfl) ?_ ?_
 ·intro h28
  have k28 := D1 h28; try simp only [A5] at k28
  refine R4 ?_
  refine F0 [0] rfl rfl rfl rfl Tryz.call156 rfl (l6 _ _ hcode _ ([(4), (5)] : List Int) D3 qz8) (A1 (A0 rfl) (A1 (A0 rfl) A7)) rfl ?_
  intro x32 ok32
  refine R2 ?_
  refine F0 [0] rfl rfl rfl rfl Tryz.call22 rfl (L0 _ _ hcode _ _ AC2 qz8) (A1 (A0 rfl) (A1 (A0 rfl) A7)) rfl ?_
  intro x35 ok35
  refine R4 ?_
  (refine I0 [0] ((x35.1, ⟨x32.2, x35.2, 0⟩)) ?_ rfl V7 (E4 rfl (H1 (ys := _) 1 rfl rfl Z7 X5 rfl)); (simp only [A5] at *; unfold X7; dsimp only; exact ⟨by omega, ⟨⟨by omega, by omega⟩, by omega, by omega⟩⟩))
 intro h28
 have k28 := D5 h28; try simp only [A5] at k28
 refine R5 ?_
 refine A6 (A0 rfl) ?_ ?_
 ·intro h37
  have k37 := D1 h37; try simp only [A5] at k37
  refine R1 ?_
  refine AWP.le (C1 [2] rfl) ?_
  refine M3 _ [(0, false), (1, false), (3, false), (4, false), (5, false), (6, false), (2, true), (7, true)] F2 F2 rfl (O2 1) ?_
  refine R6 ?_
  refine Q0 rfl rfl rfl (O3 [1] rfl Tryz.call156 rfl (l6 _ _ hcode _ ([(5), (6)] : List Int) D3 qz8) (A1 (A0 rfl) (A1 (A0 rfl) A7)) rfl) (fun a _ => qz4) ?_
  intro x41 ok41
  refine Q0 rfl rfl rfl (O3 [2] rfl Tryz.call22 rfl (L0 _ _ hcode _ _ AC2 qz8) (A1 (A0 rfl) (A1 (A0 rfl) A7)) rfl) (fun a _ => qz4) ?_
  intro x46 ok46
  refine R5 ?_
  (refine I0 [2] ((x46.1, ⟨x41.2, x46.2, 0⟩)) ?_ rfl V7 (E4 rfl (H1 (ys := _) 1 rfl rfl Z7 X5 rfl)); (simp only [A5] at *; unfold X7; dsimp only; exact ⟨by omega, ⟨⟨by omega, by omega⟩, by omega, by omega⟩⟩))
 intro h37
 have k37 := D5 h37; try simp only [A5] at k37
 refine R6 ?_
 refine A6 (A0 rfl) ?_ ?_
 ·intro h48
  have k48 := D1 h48; try simp only [A5] at k48
  refine R1 ?_
  refine A6 (A0 rfl) ?_ ?_
  ·intro h48
   have k48 := D1 h48; try simp only [A5] at k48
   refine R3 ?_
   refine F0 [0] rfl rfl rfl rfl Tryz.call22 rfl (L0 _ _ hcode _ _ AC2 qz8) (A1 (A0 rfl) (A1 D8 A7)) rfl ?_
   intro x52 ok52
   refine R5 ?_
   (refine I0 [0] ((x52.1, ⟨1, 1 + x52.2, 0⟩)) ?_ rfl V7 (E4 rfl (H1 (ys := _) 1 rfl rfl Z7 X5 rfl)); (simp only [A5] at *; unfold X7; dsimp only; exact ⟨by omega, ⟨⟨by omega, by omega⟩, by omega, by omega⟩⟩))
  intro hz9; rw [h48] at hz9; cases hz9
 intro h48
 have k48 := D5 h48; try simp only [A5] at k48
 refine R4 ?_
 refine A6 (A0 rfl) ?_ ?_
 ·intro h48
  have k48 := D1 h48; try simp only [A5] at k48
  refine R3 ?_
  refine F0 [0] rfl rfl rfl rfl Tryz.call22 rfl (L0 _ _ hcode _ _ AC2 qz8) (A1 (A0 rfl) (A1 D8 A7)) rfl ?_
  intro x52 ok52
  refine R5 ?_
  (refine I0 [0] ((x52.1, ⟨1, 1 + x52.2, 0⟩)) ?_ rfl V7 (E4 rfl (H1 (ys := _) 1 rfl rfl Z7 X5 rfl)); (simp only [A5] at *; unfold X7; dsimp only; exact ⟨by omega, ⟨⟨by omega, by omega⟩, by omega, by omega⟩⟩))
 intro h48
 have k48 := D5 h48; try simp only [A5] at k48
 refine R5 ?_
 refine A6 (A0 rfl) ?_ ?_
 ·intro h55
  have k55 := D1 h55; try simp only [A5] at k55
  refine R1 ?_
  refine AWP.le (C1 [2] rfl) ?_
  refine M3 _ [(0, false), (1, false), (3, false), (4, false), (5, false), (6, false), (2, true), (7, false), (8, true)] F2 F2 rfl (O2 1) ?_
  refine R6 ?_
  refine Q0 rfl rfl rfl (O3 [1] rfl Tryz.call156 rfl (l6 _ _ hcode _ ([(8), (9), (9), (9)] : List Int) D3 qz8) (A1 (A0 rfl) (A1 (A0 rfl) A7)) rfl) (fun a _ => qz4) ?_
  intro x59 ok59
  refine M4 rfl rfl rfl (fun ext => B2 rfl Tryz.call23 rfl (Z9 _ _) (A1 D8 (A1 (A0 rfl) A7))) ?_
  refine Q0 rfl rfl rfl (O3 [2] rfl Tryz.call22 rfl (L0 _ _ hcode _ _ AC2 qz8) (A1 (A0 rfl) (A1 (A0 rfl) A7)) rfl) (fun a _ => qz4) ?_
  intro x65 ok65
  refine R5 ?_
  (refine I0 [2] ((x65.1, ⟨x59.2, x65.2, 0⟩)) ?_ rfl V7 (E4 rfl (H1 (ys := _) 1 rfl rfl Z7 X5 rfl)); (simp only [A5] at *; unfold X7; dsimp only; exact ⟨by omega, ⟨⟨by omega, by omega⟩, by omega, by omega⟩⟩))
 intro h55
 have k55 := D5 h55; try simp only [A5] at k55
 refine R6 ?_
 refine A6 (A0 rfl) ?_ ?_
 ·intro h67
  have k67 := D1 h67; try simp only [A5] at k67
  refine R1 ?_
  refine A6 (A0 rfl) ?_ ?_
  ·intro h67
   have k67 := D1 h67; try simp only [A5] at k67
   refine R6 ?_
   refine A4 rfl (B2 rfl Tryz.call23 rfl (Z9 _ _) (A1 D8 (A1 (A0 rfl) A7))) ?_
   refine F0 [0] rfl rfl rfl rfl Tryz.call22 rfl (L0 _ _ hcode _ _ AC2 qz8) (A1 (A0 rfl) (A1 (A0 rfl) A7)) rfl ?_
   intro x75 ok75
   refine R4 ?_
   (refine I0 [0] ((x75.1, ⟨10, x75.2, 0⟩)) ?_ rfl V7 (E4 rfl (H1 (ys := _) 1 rfl rfl Z7 X5 rfl)); (simp only [A5] at *; unfold X7; dsimp only; exact ⟨by omega, ⟨⟨by omega, by omega⟩, by omega, by omega⟩⟩))
  intro hz9; rw [h67] at hz9; cases hz9
 intro h67
 have k67 := D5 h67; try simp only [A5] at k67
 refine R4 ?_
 refine A6 (A0 rfl) ?_ ?_
 ·intro h67
  have k67 := D1 h67; try simp only [A5] at k67
  refine R6 ?_
  refine A4 rfl (B2 rfl Tryz.call23 rfl (Z9 _ _) (A1 D8 (A1 (A0 rfl) A7))) ?_
  refine F0 [0] rfl rfl rfl rfl Tryz.call22 rfl (L0 _ _ hcode _ _ AC2 qz8) (A1 (A0 rfl) (A1 (A0 rfl) A7)) rfl ?_
  intro x75 ok75
  refine R4 ?_
  (refine I0 [0] ((x75.1, ⟨10, x75.2, 0⟩)) ?_ rfl V7 (E4 rfl (H1 (ys := _) 1 rfl rfl Z7 X5 rfl)); (simp only [A5] at *; unfold X7; dsimp only; exact ⟨by omega, ⟨⟨by omega, by omega⟩, by omega, by omega⟩⟩))
 intro h67
 have k67 := D5 h67; try simp only [A5] at k67
 refine R7 ?_
 refine A4 rfl (B2 rfl Tryz.call23 rfl (Z9 _ _) (A1 D8 (A1 (A0 rfl) A7))) ?_
 refine F0 [0] rfl rfl rfl rfl Tryz.call22 rfl (L0 _ _ hcode _ _ AC2 qz8) (A1 (A0 rfl) (A1 (A0 rfl) A7)) rfl ?_
 intro x82 ok82
 refine R4 ?_
 (refine I0 [0] ((x82.1, ⟨7, x82.2, 0⟩)) ?_ rfl V7 (E4 rfl (H1 (ys := _) 1 rfl rfl Z7 X5 rfl)); (simp only [A5] at *; unfold X7; dsimp only; exact ⟨by omega, ⟨⟨by omega, by omega⟩, by omega, by omega⟩⟩))
theorem Bs3 (b : Nat) (code : List Int) (hcode : Z2 code) (c : N6) (w : TWorld) (most : Int) (hw : WI w) (hm : 0 ≤ most ∧ most ≤ 100) (hp : c.p ≤ 4000000) : C9 Tryz.prog 125 [AV.ptr b 0, AV.agg w.cs, AV.int most] [.box b 55 (S0 code c)] (fun x : N6 × List Q7 × Value => x.1.p ≤ c.p + 1000 ∧ x.2.1.length ≤ 101 ∧ ∀ a ∈ x.2.1, X7 a) (fun x => [.box b 55 (S0 code x.1), .arr x.2.2 173 3 (x.2.1.map Q7.cs)]) (fun x => AV.is x.2.2) := by
 refine C6 Tryz.func125 rfl Tryz.ntmps125 rfl ?_
 refine R3 ?_
 intro b4
 refine A4 rfl (D6 rfl G8) ?_
 refine R3 ?_
 refine P1 173 3 rfl rfl rfl rfl G8 ?_
 intro v7
 refine R7 ?_
 refine F0 [2] rfl rfl rfl rfl Tryz.call22 rfl (L0 _ _ hcode _ _ qz8 qz8) (A1 (A0 rfl) (A1 (A0 rfl) A7)) rfl ?_
 intro x12 ok12
 obtain ⟨n0, hn0⟩ : ∃ n0 : Nat, x12.2 = n0 := ⟨x12.2.toNat, by omega⟩
 refine R3 ?_
 refine AWP.le (C1 [0, 0] rfl) ?_
 refine s3 [(0, _), (4, _), (6, _)] _ (fun (n : Nat) (cc : N6) (l : List Q7) (v : Value) => n + l.length = n0 ∧ cc.p ≤ c.p + 2 + 6 * l.length ∧ ∀ a ∈ l, X7 a) (fun (n : Nat) (cc : N6) (l : List Q7) (v : Value) => [.box b 55 (S0 code cc), .arr v 173 3 (l.map Q7.cs)]) (fun (n : Nat) (cc : N6) (l : List Q7) (v : Value) => [(7, AV.is v), (8, AV.int n)]) (fun (n : Nat) (cc : N6) (l : List Q7) (v : Value) => n) (n0) (x12.1) ([]) (v7) ?_ (H7 B0 ⟨rfl, congrArg (fun z => some (AV.int z)) qz8, rfl, rfl, rfl, trivial⟩) ?_
 ·exact ⟨by simp, by omega, fun a h => by cases h⟩
 intro n cc l v hinv
 refine R6 ?_
 refine A6 (A0 rfl) ?_ ?_
 ·intro h14
  have k14 := of_decide_eq_true h14; try simp only [A5] at k14
  have hn1 : 1 ≤ n := by (simp at h14; omega)
  refine R7 ?_
  refine F0 [0] rfl rfl rfl rfl Tryz.call145 rfl (BJ9 _ _ hcode _ w hw qz8) (A1 (A0 rfl) (A1 (A0 rfl) A7)) rfl ?_
  intro x20 ok20
  refine R1 ?_
  refine F6 (by' := 24) 1 rfl rfl rfl rfl Tryz.underlying138 Tryz.type173 rfl rfl rfl rfl rfl rfl (A0 rfl) (A0 rfl) rfl AV6 ?_
  intro v22_1
  refine R7 ?_
  refine Z0 n cc l v (n - 1) (x20.1) (l ++ [x20.2]) (v22_1) ?_ ?_ (Le.trans (C1 [0, 0] rfl) (H7 AY2 ⟨rfl, congrArg (fun z => some (AV.int z)) qz8, rfl, rfl, rfl, trivial⟩))
  ·exact ⟨by rw [G3, H4, M6]; omega, by rw [G3, H4, M6]; omega, fun a ha => (List.mem_append.1 ha).elim (hinv.2.2 a) fun e => by (rw [List.mem_singleton.1 e]; exact ok20.2)⟩
  omega
 intro h14
 have k14 := of_decide_eq_false h14; try simp only [A5] at k14
 refine R7 ?_
 (refine I0 [0, 0] ((cc, l, v)) ?_ rfl V7 (E4 rfl (A8 rfl B0)); exact ⟨show cc.p ≤ _ by omega, show l.length ≤ 101 by omega, hinv.2.2⟩)
theorem As7 (b : Nat) (code : List Int) (hcode : Z2 code) (c : N6) (w : TWorld) (most : Int) (hw : WI w) (hm : 0 ≤ most ∧ most ≤ 100) (hp : c.p ≤ 4000000) : C9 Tryz.prog 125 [AV.ptr b 0, AV.agg w.cs, AV.int most] [.box b 55 (S0 code c)] (fun x : N6 × List Q7 => x.1.p ≤ c.p + 1000 ∧ x.2.length ≤ 101 ∧ ∀ a ∈ x.2, X7 a) (fun x => [.box b 55 (S0 code x.1)]) (fun x => AV.list 3 (x.2.map Q7.cs)) :=
  AB5 (fun x => (x.1, x.2.1)) (fun x => [.arr x.2.2 173 3 (x.2.1.map Q7.cs)]) (fun x => [.box b 55 (S0 code x.1)]) (Bs3 b code hcode c w most hw hm hp) (fun _ h => h) (fun x _ => J5 (List.mem_singleton.2 rfl) F4) (fun x _ => List.perm_append_comm (l₁ := [_])) (fun _ _ => f9 0 rfl rfl O0) (fun x _ => Av1 ⟨rfl, rfl, i3⟩ Ae0)
theorem BK0 (b : Nat) (code : List Int) (hcode : Z2 code) (c : N6) (hp : c.p ≤ 3000000) : C9 Tryz.prog 141 [AV.ptr b 0] [.box b 55 (S0 code c)] (fun x : N6 × List (List TOp) × Value => x.1.p ≤ c.p + 500 ∧ x.2.1.length ≤ 4 ∧ ∀ p ∈ x.2.1, Bn0 p) (fun x => [.box b 55 (S0 code x.1), .arr x.2.2 121 1 (x.2.1.map fun l => [AV.list 4 (l.map TOp.cs)])]) (fun x => AV.is x.2.2) := by
 refine C6 Tryz.func141 rfl Tryz.ntmps141 rfl ?_
 refine R2 ?_
 refine A4 rfl (D6 rfl G8) ?_
 refine R3 ?_
 refine P1 121 1 rfl rfl rfl rfl G8 ?_
 intro v3
 refine R5 ?_
 refine F0 [1] rfl rfl rfl rfl Tryz.call22 rfl (L0 _ _ hcode _ _ qz8 qz8) (A1 (A0 rfl) (A1 D8 A7)) rfl ?_
 intro x6 ok6
 obtain ⟨n0, hn0⟩ : ∃ n0 : Nat, x6.2 = n0 := ⟨x6.2.toNat, by omega⟩
 refine R4 ?_
 refine AWP.le (C1 [0, 0] rfl) ?_
 refine s3 [(0, _), (2, _)] _ (fun (n : Nat) (cc : N6) (l : List (List TOp)) (v : Value) => n + l.length = 1 + n0 ∧ cc.p ≤ c.p + 2 + 100 * l.length ∧ ∀ p ∈ l, Bn0 p) (fun (n : Nat) (cc : N6) (l : List (List TOp)) (v : Value) => [.box b 55 (S0 code cc), .arr v 121 1 (l.map fun l => [AV.list 4 (l.map TOp.cs)])]) (fun (n : Nat) (cc : N6) (l : List (List TOp)) (v : Value) => [(3, AV.is v), (4, AV.int n)]) (fun (n : Nat) (cc : N6) (l : List (List TOp)) (v : Value) => n) (1 + n0) (x6.1) ([]) (v3) ?_ (H7 B0 ⟨rfl, congrArg (fun z => some (AV.int z)) qz8, rfl, rfl, trivial⟩) ?_
 ·exact ⟨by simp, by simp; omega, fun a h => by cases h⟩
 intro n cc l v hinv
 refine R6 ?_
 refine A6 (A0 rfl) ?_ ?_
 ·intro h9
  have k9 := of_decide_eq_true h9; try simp only [A5] at k9
  have hn1 : 1 ≤ n := by (simp at h9; omega)
  refine R6 ?_
  refine F0 [0] rfl rfl rfl rfl Tryz.call105 rfl (Az2 _ _ hcode _ qz8) (A1 (A0 rfl) A7) rfl ?_
  intro x14 ok14
  refine Q5 1 rfl fun one_x14_2_2 => ?_
  refine AT6 (g6 [1] 14 rfl rfl (J5 (C4 (i := 0) rfl) F4) (f9 0 rfl rfl O0)) ?_
  refine R1 ?_
  refine F6 (by' := 24) 1 rfl rfl rfl rfl Tryz.underlying168 Tryz.type121 rfl rfl rfl rfl rfl rfl (A0 rfl) (A0 rfl) rfl AV6 ?_
  intro v16_1
  refine R7 ?_
  refine Z0 n cc l v (n - 1) (x14.1) (l ++ [x14.2.1]) (v16_1) ?_ ?_ (Le.trans (C1 [0, 0] rfl) (H7 AY2 ⟨rfl, congrArg (fun z => some (AV.int z)) qz8, rfl, rfl, trivial⟩))
  ·exact ⟨by rw [G3, H4, M6]; omega, by rw [G3, H4, M6]; omega, fun a ha => (List.mem_append.1 ha).elim (hinv.2.2 a) fun e => by (rw [List.mem_singleton.1 e]; exact ⟨CK2 qz8 ok14.2.2, ok14.2.1.1⟩)⟩
  omega
 intro h9
 have k9 := of_decide_eq_false h9; try simp only [A5] at k9
 refine R7 ?_
 (refine I0 [0, 0] ((cc, l, v)) ?_ rfl V7 (E4 rfl (A8 rfl B0)); exact ⟨show cc.p ≤ _ by omega, show l.length ≤ 4 by omega, hinv.2.2⟩)
theorem AJ4 (b : Nat) (code : List Int) (hcode : Z2 code) (c : N6) (hp : c.p ≤ 3000000) : C9 Tryz.prog 141 [AV.ptr b 0] [.box b 55 (S0 code c)] (fun x : N6 × List (List TOp) => x.1.p ≤ c.p + 500 ∧ x.2.length ≤ 4 ∧ ∀ p ∈ x.2, Bn0 p) (fun x => [.box b 55 (S0 code x.1)]) (fun x => AV.list 1 (x.2.map fun l => [AV.list 4 (l.map TOp.cs)])) :=
  AB5 (fun x => (x.1, x.2.1)) (fun x => [.arr x.2.2 121 1 (x.2.1.map fun l => [AV.list 4 (l.map TOp.cs)])]) (fun x => [.box b 55 (S0 code x.1)]) (BK0 b code hcode c hp) (fun _ h => h) (fun x _ => J5 (List.mem_singleton.2 rfl) F4) (fun x _ => List.perm_append_comm (l₁ := [_])) (fun _ _ => f9 0 rfl rfl O0) (fun x _ => Av1 ⟨rfl, rfl, i3⟩ Ae0)
theorem BK1 (b : Nat) (code : List Int) (hcode : Z2 code) (c : N6) (hp : c.p ≤ 3000000) : C9 Tryz.prog 142 [AV.ptr b 0] [.box b 55 (S0 code c)] (fun x : N6 × List (List Str) × Value => x.1.p ≤ c.p + 100 ∧ x.2.1.length ≤ 4 ∧ ∀ p ∈ x.2.1, BR6 p) (fun x => [.box b 55 (S0 code x.1), .arr x.2.2 79 1 (x.2.1.map fun l => [strs l])]) (fun x => AV.is x.2.2) := by
 refine C6 Tryz.func142 rfl Tryz.ntmps142 rfl ?_
 refine R2 ?_
 refine A4 rfl (D6 rfl G8) ?_
 refine R3 ?_
 refine P1 79 1 rfl rfl rfl rfl G8 ?_
 intro v3
 refine R5 ?_
 refine F0 [1] rfl rfl rfl rfl Tryz.call22 rfl (L0 _ _ hcode _ _ qz8 qz8) (A1 (A0 rfl) (A1 D8 A7)) rfl ?_
 intro x8 ok8
 obtain ⟨n0, hn0⟩ : ∃ n0 : Nat, x8.2 = n0 := ⟨x8.2.toNat, by omega⟩
 refine R3 ?_
 refine AWP.le (C1 [0, 0] rfl) ?_
 refine s3 [(0, _), (2, _)] _ (fun (n : Nat) (cc : N6) (l : List (List Str)) (v : Value) => (n + l.length = n0 ∧ n0 ≤ 2) ∧ cc.p ≤ c.p + 2 + 20 * l.length ∧ ∀ p ∈ l, BR6 p) (fun (n : Nat) (cc : N6) (l : List (List Str)) (v : Value) => [.box b 55 (S0 code cc), .arr v 79 1 (l.map fun l => [strs l])]) (fun (n : Nat) (cc : N6) (l : List (List Str)) (v : Value) => [(3, AV.is v), (4, AV.int n)]) (fun (n : Nat) (cc : N6) (l : List (List Str)) (v : Value) => n) (n0) (x8.1) ([]) (v3) ?_ (H7 B0 ⟨rfl, congrArg (fun z => some (AV.int z)) qz8, rfl, rfl, trivial⟩) ?_
 ·exact ⟨⟨by simp, by omega⟩, by simp; omega, fun a h => by cases h⟩
 intro n cc l v hinv
 refine R6 ?_
 refine A6 (A0 rfl) ?_ ?_
 ·intro h10
  have k10 := of_decide_eq_true h10; try simp only [A5] at k10
  have hinv0 := hinv
  have hn1 : 1 ≤ n := by (simp at h10; omega)
  refine R5 ?_
  refine P1 9 1 rfl rfl rfl rfl G8 ?_
  intro v5
  refine R5 ?_
  refine F0 [1] rfl rfl rfl rfl Tryz.call22 rfl (L0 _ _ hcode _ _ qz8 qz8) (A1 (A0 rfl) (A1 D8 A7)) rfl ?_
  intro x14 ok14
  obtain ⟨m0, hm0⟩ : ∃ m0 : Nat, x14.2 = m0 := ⟨x14.2.toNat, by omega⟩
  refine R4 ?_
  refine AWP.le (C1 [0, 0, 0] rfl) ?_
  refine s3 [(0, _), (2, _), (3, _), (4, _), (9, _), (10, _), (13, _), (14, _), (15, _)] _ (fun (m : Nat) (c2 : N6) (rs : List Str) (u : Value) => (m + rs.length ≤ 1 + m0 ∧ (m = 1 + m0 ∨ 1 ≤ rs.length)) ∧ c2.p + 2 * m ≤ cc.p + 4 + 2 * m0 ∧ n1 rs ∧ ∀ k ∈ rs, k ∈ keyD) (fun (m : Nat) (c2 : N6) (rs : List Str) (u : Value) => [.box b 55 (S0 code c2), .arr u 9 1 (rs.map fun t => [AV.str t]), .arr v 79 1 (l.map fun l => [strs l])]) (fun (m : Nat) (c2 : N6) (rs : List Str) (u : Value) => [(5, AV.is u), (6, AV.int m)]) (fun (m : Nat) (c2 : N6) (rs : List Str) (u : Value) => m) (1 + m0) (x14.1) ([]) (v5) ?_ (H7 B0 ⟨rfl, congrArg (fun z => some (AV.int z)) qz8, rfl, rfl, rfl, rfl, rfl, rfl, rfl, rfl, rfl, trivial⟩) ?_
  ·exact ⟨⟨by simp, .inl rfl⟩, by omega, List.Pairwise.nil, fun k hk => by cases hk⟩
  intro m c2 rs u hinv
  refine R6 ?_
  refine A6 (A0 rfl) ?_ ?_
  ·intro h17
   have k17 := of_decide_eq_true h17; try simp only [A5] at k17
   have hm1 : 1 ≤ m := by (simp at h17; omega)
   refine R6 ?_
   refine F0 [0] rfl rfl rfl rfl Tryz.call155 rfl (Az0 _ _ hcode _ qz8) (A1 (A0 rfl) A7) rfl ?_
   intro x22 ok22
   refine F0 [1] rfl rfl rfl rfl Tryz.call148 rfl (AA1 u rs x22.2 hinv.2.2.1 qz8) (A1 (A0 rfl) (A1 (A0 rfl) A7)) rfl ?_
   intro x23 ok23
   refine R7 ?_
   refine Z0 m c2 rs u (m - 1) (x22.1) (putS rs x22.2) (x23) ?_ ?_ (Le.trans (C1 [1, 0, 0] rfl) (H7 B0 ⟨rfl, congrArg (fun z => some (AV.int z)) qz8, rfl, rfl, rfl, rfl, rfl, rfl, rfl, rfl, rfl, trivial⟩))
   ·(have h9 := Ai8 x22.2 rs; have h6 : 1 ≤ (putS rs x22.2).length := putS_pos x22.2 rs; exact ⟨⟨by omega, .inr h6⟩, by omega, (AW6 hinv.2.2.1).1, fun k hk => by (rcases ((AW6 hinv.2.2.1).2 k).1 hk with hk | hk; (exact hinv.2.2.2 k hk); (rw [hk]; exact ok22.2))⟩)
   omega
  intro h17
  have k17 := of_decide_eq_false h17; try simp only [A5] at k17
  have hm9 : m = 0 := by (simp at h17; omega)
  refine R4 ?_
  refine Q5 1 rfl fun one_u => ?_
  refine AT6 (g6 [1] 25 rfl rfl (J5 (C4 (i := 0) rfl) F4) (f9 0 rfl rfl O0)) ?_
  refine R1 ?_
  refine F6 (by' := 24) 1 rfl rfl rfl rfl i5 Tryz.type79 rfl rfl rfl rfl rfl rfl (A0 rfl) (A0 rfl) rfl AV6 ?_
  intro v27_1
  refine R7 ?_
  refine Z0 n cc l v (n - 1) (c2) (l ++ [rs]) (v27_1) ?_ ?_ (Le.trans (C1 [0, 0] rfl) (H7 AY2 ⟨rfl, congrArg (fun z => some (AV.int z)) qz8, rfl, rfl, trivial⟩))
  ·exact ⟨⟨by rw [G3, H4, M6]; omega, by omega⟩, by rw [G3, H4, M6]; omega, fun a ha => (List.mem_append.1 ha).elim (hinv0.2.2 a) fun e => by (rw [List.mem_singleton.1 e]; exact ⟨⟨by omega, by omega⟩, hinv.2.2.1, hinv.2.2.2⟩)⟩
  omega
 intro h10
 have k10 := of_decide_eq_false h10; try simp only [A5] at k10
 refine R7 ?_
 (refine I0 [0, 0] ((cc, l, v)) ?_ rfl V7 (E4 rfl (A8 rfl B0)); exact ⟨show cc.p ≤ _ by omega, show l.length ≤ 4 by omega, hinv.2.2⟩)
theorem AA4 (b : Nat) (code : List Int) (hcode : Z2 code) (c : N6) (hp : c.p ≤ 3000000) : C9 Tryz.prog 142 [AV.ptr b 0] [.box b 55 (S0 code c)] (fun x : N6 × List (List Str) => x.1.p ≤ c.p + 100 ∧ x.2.length ≤ 4 ∧ ∀ p ∈ x.2, BR6 p) (fun x => [.box b 55 (S0 code x.1)]) (fun x => AV.list 1 (x.2.map fun l => [strs l])) :=
  AB5 (fun x => (x.1, x.2.1)) (fun x => [.arr x.2.2 79 1 (x.2.1.map fun l => [strs l])]) (fun x => [.box b 55 (S0 code x.1)]) (BK1 b code hcode c hp) (fun _ h => h) (fun x _ => J5 (List.mem_singleton.2 rfl) F4) (fun x _ => List.perm_append_comm (l₁ := [_])) (fun _ _ => f9 0 rfl rfl O0) (fun x _ => Av1 ⟨rfl, rfl, i3⟩ Ae0)
def cutsW : List (List Str) := [[[109]], [[99]], [], [[98], [110]]]
theorem Bl8 {l : List Str} (h : l ∈ cutsW) : l15Cuts l = true ∧ l.length ≤ 2 ∧ ∀ k ∈ l, k.length ≤ 12 := by
  have : ∀ l ∈ cutsW, l15Cuts l = true ∧ l.length ≤ 2 ∧ ∀ k ∈ l, k.length ≤ 12 := by decide
  exact this l h
theorem BK2 (b : Nat) (code : List Int) (hcode : Z2 code) (c : N6) (hp : c.p ≤ 2000000) : C9 Tryz.prog 123 [AV.ptr b 0] [.box b 55 (S0 code c)] (fun x : N6 × TWorld => x.1.p ≤ c.p + 700 ∧ WI x.2 ∧ WQ x.2) (fun x => [.box b 55 (S0 code x.1)]) (fun x => AV.agg x.2.cs) := by
 refine C6 Tryz.func123 rfl Tryz.ntmps123 rfl ?_
 refine R3 ?_
 intro b2
 refine R2 ?_
 refine Q8 _ 19 (.pure 0 (.pure 1 (.pure 2 (.pure 3 (.pure 4 (.pure 5 (.pure 9 (.pure 11 (.e2 6 (.pure 7 (.pure 8 (.e2 10 (.e2 12 (.e2 13 (.pure 14 (.pure 15 (.pure 16 (.e1 17 (.e1 18 .nil))))) 17 (.e1 13 (.pure 14 (.pure 15 (.pure 16 (.e1 18 .nil)))))) 17 (.e1 12 (.e1 13 (.pure 14 (.pure 15 (.pure 16 (.e1 18 .nil))))))) 17 (.e1 10 (.e1 12 (.e1 13 (.pure 14 (.pure 15 (.pure 16 (.e1 18 .nil)))))))))) 17 (.e1 6 (.pure 7 (.pure 8 (.e1 10 (.e1 12 (.e1 13 (.pure 14 (.pure 15 (.pure 16 (.e1 18 .nil))))))))))))))))))) F2 F2 rfl (O2 1) ?_
 refine K4 rfl rfl rfl (fun ext => AI6 rfl F9 K3 Tryz.zeroValue9 rfl rfl rfl rfl (D7 (L5 (l := [109]) rfl) (U8 _) T7) rfl rfl) ?_
 refine K4 rfl rfl rfl (fun ext => AI6 rfl F9 K3 Tryz.zeroValue9 rfl rfl rfl rfl (D7 (L5 (l := [99]) rfl) (U8 _) T7) rfl rfl) ?_
 refine R1 ?_
 refine K4 rfl rfl rfl (fun ext => AI6 rfl F9 K3 Tryz.zeroValue9 rfl rfl rfl rfl (D7 (L5 (l := [98]) rfl) (U8 _) (D7 (L5 (l := [110]) rfl) (U8 _) T7)) rfl rfl) ?_
 refine R4 ?_
 refine j5 ?_ ?_
 ·refine F7 rfl rfl rfl (O3 [1] rfl Tryz.call22 rfl (L0 _ _ hcode _ _ qz8 qz8) (A1 (A0 rfl) (A1 D8 A7)) rfl) (fun a _ => qz4) ?_
  intro x12 ok12
  obtain ⟨cu, hcu⟩ := get_some (show x12.2.toNat < cutsW.length from (show x12.2.toNat < 4 by omega))
  have hco := Bl8 (C4 hcu)
  refine K4 rfl rfl rfl (fun ext => t3 rfl i5 c9 (A0 rfl) (A0 rfl) qz8 (L9 (f := fun l : List Str => [strs l]) hcu)) ?_
  refine R1 ?_
  refine j5 ?_ ?_
  ·refine F7 rfl rfl rfl (O3 [1] rfl Tryz.call141 rfl (AJ4 _ _ hcode _ qz8) (A1 (A0 rfl) A7) rfl) (fun a _ => qz4) ?_
   intro x16 ok16
   refine j5 ?_ ?_
   ·refine F7 rfl rfl rfl (O3 [1] rfl Tryz.call142 rfl (AA4 _ _ hcode _ qz8) (A1 (A0 rfl) A7) rfl) (fun a _ => qz4) ?_
    intro x18 ok18
    refine j5 ?_ ?_
    ·refine F7 rfl rfl rfl (O3 [] rfl Tryz.call140 rfl (AE5 cu x16.2 x18.2 ⟨hco, ⟨ok16.2.1, ok16.2.2⟩, ⟨ok18.2.1, ok18.2.2⟩⟩) (A1 (A0 rfl) (A1 (A0 rfl) (A1 (A0 rfl) A7))) rfl) (fun a _ => qz4) ?_
     intro x19 ok19
     refine R4 ?_
     refine F7 rfl rfl rfl (T2 rfl Tryz.zeroValue116 rfl) (fun a _ => qz4) ?_
     intro b3 _
     refine R1 ?_
     refine c8 rfl rfl rfl (W8 2 rfl rfl (A0 rfl) (A0 rfl) (V2 _) rfl N2 rfl) (fun a _ => qz4) ?_
     intro _ _
     refine R9 ?_
     (refine I0 [1] ((_, x19)) ?_ rfl V7 (E4 rfl (H1 (ys := _) 0 rfl rfl V5 N2 rfl)); exact ⟨by dsimp only; omega, ok19⟩)
    refine F7 rfl rfl rfl (T2 rfl Tryz.zeroValue116 rfl) (fun a _ => qz4) ?_
    intro b3 _
    refine R1 ?_
    refine F7 rfl rfl rfl (O3 [] rfl Tryz.call140 rfl (AE5 cu x16.2 x18.2 ⟨hco, ⟨ok16.2.1, ok16.2.2⟩, ⟨ok18.2.1, ok18.2.2⟩⟩) (A1 (A0 rfl) (A1 (A0 rfl) (A1 (A0 rfl) A7))) rfl) (fun a _ => qz4) ?_
    intro x19 ok19
    refine R4 ?_
    refine c8 rfl rfl rfl (W8 2 rfl rfl (A0 rfl) (A0 rfl) (V2 _) rfl N2 rfl) (fun a _ => qz4) ?_
    intro _ _
    refine R9 ?_
    (refine I0 [1] ((_, x19)) ?_ rfl V7 (E4 rfl (H1 (ys := _) 0 rfl rfl V5 N2 rfl)); exact ⟨by dsimp only; omega, ok19⟩)
   refine F7 rfl rfl rfl (T2 rfl Tryz.zeroValue116 rfl) (fun a _ => qz4) ?_
   intro b3 _
   refine R1 ?_
   refine F7 rfl rfl rfl (O3 [1] rfl Tryz.call142 rfl (AA4 _ _ hcode _ qz8) (A1 (A0 rfl) A7) rfl) (fun a _ => qz4) ?_
   intro x18 ok18
   refine R1 ?_
   refine F7 rfl rfl rfl (O3 [] rfl Tryz.call140 rfl (AE5 cu x16.2 x18.2 ⟨hco, ⟨ok16.2.1, ok16.2.2⟩, ⟨ok18.2.1, ok18.2.2⟩⟩) (A1 (A0 rfl) (A1 (A0 rfl) (A1 (A0 rfl) A7))) rfl) (fun a _ => qz4) ?_
   intro x19 ok19
   refine R4 ?_
   refine c8 rfl rfl rfl (W8 1 rfl rfl (A0 rfl) (A0 rfl) (V2 _) rfl N2 rfl) (fun a _ => qz4) ?_
   intro _ _
   refine R9 ?_
   (refine I0 [2] ((_, x19)) ?_ rfl V7 (E4 rfl (H1 (ys := _) 0 rfl rfl V5 N2 rfl)); exact ⟨by dsimp only; omega, ok19⟩)
  refine F7 rfl rfl rfl (T2 rfl Tryz.zeroValue116 rfl) (fun a _ => qz4) ?_
  intro b3 _
  refine R1 ?_
  refine F7 rfl rfl rfl (O3 [1] rfl Tryz.call141 rfl (AJ4 _ _ hcode _ qz8) (A1 (A0 rfl) A7) rfl) (fun a _ => qz4) ?_
  intro x16 ok16
  refine R1 ?_
  refine F7 rfl rfl rfl (O3 [2] rfl Tryz.call142 rfl (AA4 _ _ hcode _ qz8) (A1 (A0 rfl) A7) rfl) (fun a _ => qz4) ?_
  intro x18 ok18
  refine R1 ?_
  refine F7 rfl rfl rfl (O3 [] rfl Tryz.call140 rfl (AE5 cu x16.2 x18.2 ⟨hco, ⟨ok16.2.1, ok16.2.2⟩, ⟨ok18.2.1, ok18.2.2⟩⟩) (A1 (A0 rfl) (A1 (A0 rfl) (A1 (A0 rfl) A7))) rfl) (fun a _ => qz4) ?_
  intro x19 ok19
  refine R4 ?_
  refine c8 rfl rfl rfl (W8 1 rfl rfl (A0 rfl) (A0 rfl) (V2 _) rfl N2 rfl) (fun a _ => qz4) ?_
  intro _ _
  refine R9 ?_
  (refine I0 [2] ((_, x19)) ?_ rfl V7 (E4 rfl (H1 (ys := _) 0 rfl rfl V5 N2 rfl)); exact ⟨by dsimp only; omega, ok19⟩)
 refine F7 rfl rfl rfl (T2 rfl Tryz.zeroValue116 rfl) (fun a _ => qz4) ?_
 intro b3 _
 refine R1 ?_
 refine F7 rfl rfl rfl (O3 [1] rfl Tryz.call22 rfl (L0 _ _ hcode _ _ qz8 qz8) (A1 (A0 rfl) (A1 D8 A7)) rfl) (fun a _ => qz4) ?_
 intro x12 ok12
 obtain ⟨cu, hcu⟩ := get_some (show x12.2.toNat < cutsW.length from (show x12.2.toNat < 4 by omega))
 have hco := Bl8 (C4 hcu)
 refine K4 rfl rfl rfl (fun ext => t3 rfl i5 c9 (A0 rfl) (A0 rfl) qz8 (L9 (f := fun l : List Str => [strs l]) hcu)) ?_
 refine R2 ?_
 refine F7 rfl rfl rfl (O3 [2] rfl Tryz.call141 rfl (AJ4 _ _ hcode _ qz8) (A1 (A0 rfl) A7) rfl) (fun a _ => qz4) ?_
 intro x16 ok16
 refine R1 ?_
 refine F7 rfl rfl rfl (O3 [2] rfl Tryz.call142 rfl (AA4 _ _ hcode _ qz8) (A1 (A0 rfl) A7) rfl) (fun a _ => qz4) ?_
 intro x18 ok18
 refine R1 ?_
 refine F7 rfl rfl rfl (O3 [] rfl Tryz.call140 rfl (AE5 cu x16.2 x18.2 ⟨hco, ⟨ok16.2.1, ok16.2.2⟩, ⟨ok18.2.1, ok18.2.2⟩⟩) (A1 (A0 rfl) (A1 (A0 rfl) (A1 (A0 rfl) A7))) rfl) (fun a _ => qz4) ?_
 intro x19 ok19
 refine R4 ?_
 refine c8 rfl rfl rfl (W8 1 rfl rfl (A0 rfl) (A0 rfl) (V2 _) rfl N2 rfl) (fun a _ => qz4) ?_
 intro _ _
 refine R9 ?_
 (refine I0 [2] ((_, x19)) ?_ rfl V7 (E4 rfl (H1 (ys := _) 0 rfl rfl V5 N2 rfl)); exact ⟨by dsimp only; omega, ok19⟩)
theorem Bl9 (b : Nat) (code : List Int) (hcode : Z2 code) (c : N6) (hp : c.p ≤ 1000000) : C9 Tryz.prog 102 [AV.ptr b 0] [.box b 55 (S0 code c)] (fun x : N6 × TWorld => x.1.p ≤ c.p + 2000 ∧ WI x.2 ∧ WQ x.2) (fun x => [.box b 55 (S0 code x.1)]) (fun x => AV.agg x.2.cs) := by
 refine C6 Tryz.func102 rfl Tryz.ntmps102 rfl ?_
 refine R3 ?_
 intro b2
 refine R4 ?_
 refine F0 [1] rfl rfl rfl rfl Tryz.call123 rfl (BK2 _ _ hcode _ qz8) (A1 (A0 rfl) A7) rfl ?_
 intro x7 ok7
 refine R1 ?_
 intro b3
 refine R3 ?_
 refine Q8 _ 10 (.pure 0 (.pure 1 (.pure 2 (.e2 3 (.e2 4 (.pure 5 (.pure 6 (.pure 7 (.e1 8 (.e1 9 .nil))))) 8 (.e1 4 (.pure 5 (.pure 6 (.pure 7 (.e1 9 .nil)))))) 8 (.e1 3 (.e1 4 (.pure 5 (.pure 6 (.pure 7 (.e1 9 .nil)))))))))) F2 F2 rfl (O2 1) ?_
 refine R3 ?_
 refine j5 ?_ ?_
 ·refine F7 rfl rfl rfl (O3 [1] rfl Tryz.call125 rfl (As7 _ _ hcode _ x7.2 _ ok7.2.1 D3 qz8) (A1 (A0 rfl) (A1 (A0 rfl) (A1 D8 A7))) rfl) (fun a _ => qz4) ?_
  intro x12 ok12
  refine j5 ?_ ?_
  ·refine F7 rfl rfl rfl (O3 [] rfl Tryz.call124 rfl (BD2 x7.2 x12.2 ok7.2.1 ok7.2.2 ok12.2.2 qz8) (A1 (A0 rfl) (A1 (A0 rfl) A7)) rfl) (fun a _ => qz4) ?_
   intro x13 ok13
   refine R4 ?_
   refine F7 rfl rfl rfl (T2 rfl Tryz.zeroValue116 rfl) (fun a _ => qz4) ?_
   intro b4 _
   refine R1 ?_
   refine c8 rfl rfl rfl (W8 4 rfl rfl (A0 rfl) (A0 rfl) (V2 _) rfl N2 rfl) (fun a _ => qz4) ?_
   intro _ _
   refine R9 ?_
   (refine I0 [2] ((x12.1, x13.1.1)) ?_ rfl V7 (E4 rfl (H1 (ys := _) 1 rfl rfl V5 N2 rfl)); exact ⟨by dsimp only; omega, ok13⟩)
  refine F7 rfl rfl rfl (T2 rfl Tryz.zeroValue116 rfl) (fun a _ => qz4) ?_
  intro b4 _
  refine R1 ?_
  refine F7 rfl rfl rfl (O3 [] rfl Tryz.call124 rfl (BD2 x7.2 x12.2 ok7.2.1 ok7.2.2 ok12.2.2 qz8) (A1 (A0 rfl) (A1 (A0 rfl) A7)) rfl) (fun a _ => qz4) ?_
  intro x13 ok13
  refine R4 ?_
  refine c8 rfl rfl rfl (W8 3 rfl rfl (A0 rfl) (A0 rfl) (V2 _) rfl N2 rfl) (fun a _ => qz4) ?_
  intro _ _
  refine R9 ?_
  (refine I0 [2] ((x12.1, x13.1.1)) ?_ rfl V7 (E4 rfl (H1 (ys := _) 1 rfl rfl V5 N2 rfl)); exact ⟨by dsimp only; omega, ok13⟩)
 refine F7 rfl rfl rfl (T2 rfl Tryz.zeroValue116 rfl) (fun a _ => qz4) ?_
 intro b4 _
 refine R1 ?_
 refine F7 rfl rfl rfl (O3 [1] rfl Tryz.call125 rfl (As7 _ _ hcode _ x7.2 _ ok7.2.1 D3 qz8) (A1 (A0 rfl) (A1 (A0 rfl) (A1 D8 A7))) rfl) (fun a _ => qz4) ?_
 intro x12 ok12
 refine R1 ?_
 refine F7 rfl rfl rfl (O3 [] rfl Tryz.call124 rfl (BD2 x7.2 x12.2 ok7.2.1 ok7.2.2 ok12.2.2 qz8) (A1 (A0 rfl) (A1 (A0 rfl) A7)) rfl) (fun a _ => qz4) ?_
 intro x13 ok13
 refine R4 ?_
 refine c8 rfl rfl rfl (W8 2 rfl rfl (A0 rfl) (A0 rfl) (V2 _) rfl N2 rfl) (fun a _ => qz4) ?_
 intro _ _
 refine R9 ?_
 (refine I0 [3] ((x12.1, x13.1.1)) ?_ rfl V7 (E4 rfl (H1 (ys := _) 1 rfl rfl V5 N2 rfl)); exact ⟨by dsimp only; omega, ok13⟩)
end Go.Proofs.YtcfkbhnpfjjmjaaGreat
namespace Go.M
open Go.AV
theorem BK3 {α : Type} [DecidableEq α] : ∀ {a b : List α}, a.Nodup → (∀ x ∈ a, x ∈ b) → a.length ≤ b.length
  | [], _, _, _ => Nat.zero_le _
  | x :: a, b, hn, h => by
    have hn2 := List.nodup_cons.1 hn
    have h1 : a.length ≤ (b.erase x).length := BK3 hn2.2 fun y hy => (List.mem_erase_of_ne (fun e => hn2.1 (by rw [← e]; exact hy))).2 (h y (List.mem_cons_of_mem _ hy))
    have h2 := List.length_erase_of_mem (h x List.mem_cons_self)
    have h3 : 0 < b.length := List.length_pos_of_mem (h x List.mem_cons_self)
    rw [H4]; omega
structure Alone (l : List TOp) (got : List G5) : Prop where
  nd : (got.map G5.Key).Nodup
  sub : ∀ g ∈ got, g.Key ∈ l.map TOp.Key
  size : ∀ g ∈ got, g.size ≤ 200
theorem Alone.len {l : List TOp} {got : List G5} (h : Alone l got) : got.length ≤ l.length := by
  have := BK3 h.nd (b := l.map TOp.Key) fun k hk => by obtain ⟨g, hg, e⟩ := List.mem_map.1 hk; rw [← e]; exact h.sub g hg
  simpa using this
theorem Alone.nil (l : List TOp) : Alone l [] := ⟨List.nodup_nil, fun g h => (by cases h), fun g h => (by cases h)⟩
theorem Alone.snoc {l : List TOp} {got : List G5} {g : G5} (h : Alone l got) (hk : g.Key ∈ l.map TOp.Key) (hn : ∀ x ∈ got, x.Key ≠ g.Key) (hs : g.size ≤ 200) : Alone l (got ++ [g]) where
  nd := by
    rw [List.map_append]
    refine List.nodup_append.2 ⟨h.nd, by simp, fun a ha b hb => ?_⟩
    obtain ⟨x, hx, e⟩ := List.mem_map.1 ha
    have : b = g.Key := by simpa using hb
    rw [← e, this]; exact hn x hx
  sub := fun x hx => by
    rcases List.mem_append.1 hx with hx | hx
    · exact h.sub x hx
    · rw [List.mem_singleton.1 hx]; exact hk
  size := fun x hx => by
    rcases List.mem_append.1 hx with hx | hx
    · exact h.size x hx
    · rw [List.mem_singleton.1 hx]; exact hs
theorem BY4 {o : TOp} (h : OpD o) : AG5 64 o := by
  have hg : goodOps [o] = true := by unfold goodOps; rw [show ([o].any fun o => !isOp o) = false by simp [h.1]]; rfl
  have h9 := AF6 hg o List.mem_cons_self
  exact ⟨Nat.le_trans h9.size D3, h9.by', h9.key⟩
theorem CK9 {rows : List A9} {k : Str} {n : Nat} (h : ∀ w ∈ rows, w.size ≤ n) (hk : k.length ≤ 64) : (tell rows k).size ≤ n + 64 ∧ (tell rows k).Key = k := by
  unfold tell
  split
  · rename_i w hw
    have := h w (z7 hw).1
    unfold A9.size at this
    exact ⟨by unfold G5.size; dsimp only; omega, rfl⟩
  · exact ⟨by unfold G5.size; simp only [M6]; omega, rfl⟩
end Go.M
namespace Go.Proofs.YtcfkbhnpfjjmjaaGreat
open Go Go.AV Go.M
attribute [local irreducible] OpW OpA OpS AWP B9 J2 C9 OpE RetOk H0 I6 Le Ev F1 J8 V9 Int.tmod Int.tdiv IntKind.wrap bandI
theorem Bs4 (rows : List A9) (l : List TOp) (hr : ∀ w ∈ rows, w.size ≤ 64) (hl : l.length ≤ 8) (ho : ∀ o ∈ l, OpD o) : C9 Tryz.prog 104 [AV.list 3 (rows.map A9.cs), AV.list 4 (l.map TOp.cs)] [] (fun x : (List G5 × Int) × Value => Alone l x.1.1) (fun x => [.arr x.2 45 3 (x.1.1.map G5.cs)]) (fun x => AV.tup [AV.is x.2, AV.list 3 ((N0 l x.1.1).2.2.map A9.cs), AV.bool ((N0 l x.1.1).1 == 3)]) := by
 have hso : ∀ o ∈ l, AG5 64 o := fun o h => BY4 (ho o h)
 have hso2 : ∀ o ∈ l, AG5 1000 o := fun o h => ⟨Nat.le_trans (hso o h).size D3, (hso o h).by', (hso o h).key⟩
 refine C6 Tryz.func104 rfl Tryz.ntmps104 rfl ?_
 refine R2 ?_
 refine A4 rfl (D6 rfl G8) ?_
 refine A4 rfl (D6 rfl G8) ?_
 refine R4 ?_
 refine P1 45 3 rfl rfl rfl rfl G8 ?_
 intro v7
 refine R2 ?_
 refine AWP.le (C1 [0] rfl) ?_
 refine J0 [(0, _), (1, _)] _ (fun (got : List G5) (v : Value) => Alone l got) (fun (got : List G5) (v : Value) => [.arr v 45 3 (got.map G5.cs)]) (fun (got : List G5) (v : Value) => [(7, AV.is v)]) (fun (got : List G5) (v : Value) => l.length - got.length) ([]) (v7) ?_ (H7 B0 ⟨rfl, rfl, rfl, trivial⟩) ?_
 ·exact Alone.nil l
 intro got v hinv
 have hgl := hinv.len
 refine R5 ?_
 refine F0 [0] rfl rfl rfl rfl Tryz.call129 rfl (Ad2 l v got qz8 hso2 (fun g hg => Nat.le_trans (hinv.size g hg) D3)) (A1 (A0 rfl) (A1 (A0 rfl) A7)) rfl ?_
 intro x14 ok14
 refine R14 ?_
 refine A6 (A0 rfl) ?_ ?_
 ·intro h19
  have k19 := w8 h19; try simp only [A5] at k19
  refine R11 ?_
  exact I0 [0] (((got, 0), v)) (hinv) rfl B0 (U3 rfl D3 (B8 (A8 rfl B0) (B8 (A8 rfl B0) (B8 (A8 rfl B0) G6))))
 intro h19
 have k19 := c3 h19; try simp only [A5] at k19
 have hask : (N0 l got).1 = 1 := (by simpa using h19)
 have hrn := (ran (got := got) (n := 64) D3 hso).ask hask
 obtain ⟨⟨o, hom, hok⟩, hnk⟩ := hrn
 have hkl : (N0 l got).2.1.length ≤ 64 := (by rw [← hok]; have h9 := (hso o hom).key; omega)
 have hts := CK9 (rows := rows) hr hkl
 have hnx : Alone l (got ++ [tell rows (N0 l got).2.1]) := hinv.snoc (by rw [hts.2, ← hok]; exact List.mem_map.2 ⟨o, hom, rfl⟩) (fun x hx => by rw [hts.2]; exact hnk x hx) qz8
 refine R5 ?_
 refine A4 rfl (B2 rfl Tryz.call130 rfl (Bs0 rows _) (A1 (A0 rfl) (A1 (A0 rfl) A7))) ?_
 refine R1 ?_
 refine F6 (by' := 40) 0 rfl rfl rfl rfl J3 Tryz.type45 rfl rfl rfl rfl rfl rfl (A0 rfl) (A0 rfl) rfl AV6 ?_
 intro v29_1
 refine R2 ?_
 refine AA9 ?_
 refine G4 got v (got ++ [tell rows (N0 l got).2.1]) (v29_1) ?_ ?_ (Le.trans (C1 [0] rfl) (H7 AY2 ⟨rfl, rfl, rfl, trivial⟩))
 ·exact hnx
 (rw [G3]; simp; have h9 := hnx.len; rw [G3] at h9; simp at h9; omega)
theorem Bb3 (w : TWorld) (hw : WI w) : C9 Tryz.prog 126 [AV.agg w.cs] [] (fun _ : Value => True) (fun v => [.arr v 182 4 ((w.Groups.map AH8).map G2.cs)]) (fun v => AV.is v) := by
 have hng := hw.n
 refine C6 Tryz.func126 rfl Tryz.ntmps126 rfl ?_
 refine R3 ?_
 intro b1
 refine A4 rfl (D6 rfl G8) ?_
 refine R3 ?_
 refine P1 182 4 rfl rfl rfl rfl G8 ?_
 intro v3
 refine R10 ?_
 refine AWP.le (C1 [0] rfl) ?_
 refine J0 [(2, _), (7, _), (8, _)] _ (fun (i : Nat) (v : Value) => i ≤ w.Groups.length) (fun (i : Nat) (v : Value) => [.arr v 182 4 (((w.Groups.take i).map AH8).map G2.cs)]) (fun (i : Nat) (v : Value) => [(3, AV.is v), (9, AV.int i)]) (fun (i : Nat) (v : Value) => w.Groups.length - i) (0) (v3) ?_ (H7 B0 ⟨rfl, rfl, rfl, rfl, rfl, trivial⟩) ?_
 ·exact Nat.zero_le _
 intro i v hinv
 refine R5 ?_
 refine A6 (A0 rfl) ?_ ?_
 ·intro h10
  have k10 := of_decide_eq_true h10; try simp only [A5] at k10
  have hlt : i < w.Groups.length := AC5
  obtain ⟨g, hg⟩ := get_some hlt
  have hgg := (hw.groups g (C4 hg)).good
  refine R5 ?_
  refine A4 rfl (C7 rfl G7 C8 (A0 rfl) (A0 rfl) hg qz3) ?_
  refine R2 ?_
  intro b5
  refine R5 ?_
  refine A4 rfl (B2 rfl Tryz.call146 rfl (As0 g hgg) (A1 (A0 rfl) A7)) ?_
  refine R1 ?_
  refine F6 (by' := 80) 1 rfl rfl rfl rfl Tryz.underlying140 Tryz.type182 rfl rfl rfl rfl rfl rfl (A0 rfl) (A0 rfl) rfl (by rw [A5, A5, G9]; simp only [O9]; omega) ?_
  intro v17_1
  refine R6 ?_
  refine G4 i v (i + 1) (v17_1) ?_ ?_ (Le.trans (C1 [0, 0] rfl) (E0 1 (by (rw [List.take_add_one, hg, List.map_append, List.map_append]; rfl)) ⟨rfl, rfl, rfl, rfl, rfl, trivial⟩))
  ·exact qz8
  omega
 intro h10
 have k10 := of_decide_eq_false h10; try simp only [A5] at k10
 have hge : w.Groups.length ≤ i := AC5
 rw [List.take_of_length_le hge]
 refine R7 ?_
 exact I0 [0] v (trivial) rfl B0 (E4 rfl (A8 rfl B0))
theorem BK4 (w : TWorld) (hw : WI w) : B9 Tryz.prog 126 [AV.agg w.cs] (AV.list 4 ((w.Groups.map AH8).map G2.cs)) :=
  K2 (Bb3 w hw) fun v _ => J5 (List.mem_singleton.2 rfl) F4
theorem Bm0 (ss : List G2) (n : Int) (hl : ss.length ≤ 10) (hs : ∀ s ∈ ss, s.Told.length ≤ 100) : C9 Tryz.prog 127 [AV.list 4 (ss.map G2.cs), AV.int n] [] (fun x : (List M1 × Bool) × Value => x.1.1.length ≤ 10) (fun x => [.arr x.2 148 3 (x.1.1.map M1.cs)]) (fun x => AV.tup [AV.is x.2, AV.bool x.1.2]) := by
 refine C6 Tryz.func127 rfl Tryz.ntmps127 rfl ?_
 refine R2 ?_
 refine A4 rfl (D6 rfl G8) ?_
 refine R4 ?_
 refine P1 148 3 rfl rfl rfl rfl G8 ?_
 intro v6
 refine R9 ?_
 refine AWP.le (C1 [0] rfl) ?_
 refine Q4 [(1, _), (4, _), (5, _), (13, _), (14, _)] _ (fun (i : Nat) (tl : List M1) (v : Value) => i ≤ ss.length ∧ tl.length ≤ i) (fun (i : Nat) (tl : List M1) (v : Value) => [.arr v 148 3 (tl.map M1.cs)]) (fun (i : Nat) (tl : List M1) (v : Value) => [(6, AV.is v), (15, AV.int i)]) (fun (i : Nat) (tl : List M1) (v : Value) => ss.length - i) (0) ([]) (v6) ?_ (H7 B0 ⟨rfl, rfl, rfl, rfl, rfl, rfl, rfl, trivial⟩) ?_
 ·exact ⟨Nat.zero_le _, Nat.le_refl _⟩
 intro i tl v hinv
 refine R5 ?_
 refine A6 (A0 rfl) ?_ ?_
 ·intro h16
  have k16 := of_decide_eq_true h16; try simp only [A5] at k16
  have hlt : i < ss.length := At4
  obtain ⟨s, hsx⟩ := get_some hlt
  have hst := hs s (C4 hsx)
  refine R5 ?_
  refine A4 rfl (C7 rfl Tryz.underlying140 O7 (A0 rfl) (A0 rfl) hsx qz3) ?_
  refine R2 ?_
  intro b8
  refine R6 ?_
  refine A4 rfl (B2 rfl Tryz.call147 rfl (l7 s n qz8) (A1 (A0 rfl) (A1 (A0 rfl) A7))) ?_
  refine R4 ?_
  intro b9
  refine R7 ?_
  refine A6 (A0 rfl) ?_ ?_
  ·intro h25
   refine R4 ?_
   refine F6 (by' := 24) 2 rfl rfl rfl rfl K7 Tryz.type148 rfl rfl rfl rfl rfl rfl (A0 rfl) (A0 rfl) rfl AV6 ?_
   intro v29_1
   refine R6 ?_
   refine L7 i tl v (i + 1) (tl ++ [(toldFO s.Told n).1]) (v29_1) ?_ ?_ (Le.trans (C1 [0, 0, 0] rfl) (E0 2 AL6 ⟨rfl, rfl, rfl, rfl, rfl, rfl, rfl, trivial⟩))
   ·exact ⟨by omega, by rw [G3]; simp; omega⟩
   omega
  intro h25
  refine R5 ?_
  refine L7 i tl v (i + 1) (tl) (v) ?_ ?_ (Le.trans (C1 [0, 0, 0] rfl) (E0 2 AL6 ⟨rfl, rfl, rfl, rfl, rfl, rfl, rfl, trivial⟩))
  ·exact ⟨by omega, by omega⟩
  omega
 intro h16
 have k16 := of_decide_eq_false h16; try simp only [A5] at k16
 refine R9 ?_
 refine AWP.le (C1 [0] rfl) ?_
 refine E2 [(6, _), (31, _), (32, _)] _ (fun (j : Nat) => j ≤ tl.length) (fun (j : Nat) => [.arr v 148 3 (tl.map M1.cs)]) (fun (j : Nat) => [(33, AV.int j)]) (fun (j : Nat) => tl.length - j) (0) ?_ (H7 B0 ⟨rfl, rfl, rfl, rfl, trivial⟩) ?_
 ·exact Nat.zero_le _
 intro j hinv
 refine R5 ?_
 refine A6 (A0 rfl) ?_ ?_
 ·intro h34
  have k34 := of_decide_eq_true h34; try simp only [A5] at k34
  have hlt1 : j < tl.length := (by simpa using h34)
  obtain ⟨x, hx⟩ := get_some hlt1
  obtain ⟨x0, hx0⟩ := get_some (show 0 < tl.length by omega)
  refine R5 ?_
  refine A4 rfl (E8 0 rfl K7 P8 (A0 rfl) rfl (A0 rfl) qz8 f6) ?_
  refine A4 rfl (W9 0 rfl (A0 rfl) rfl Tryz.isAgg148 P8 qz61 D3) ?_
  refine R1 ?_
  intro b12
  refine R6 ?_
  refine C3 rfl rfl (E8 1 rfl K7 P8 (A0 rfl) rfl D8 qz8 f6) ?_
  refine C3 rfl rfl (W9 1 rfl (A0 rfl) rfl Tryz.isAgg148 P8 qz61 D3) ?_
  refine C3 rfl rfl (Be4 rfl Tryz.underlying148 F2 F2 (A0 rfl) (A0 rfl) (y9 F2 I7 rfl rfl (Bt6 c5) (y9 F2 g9 rfl rfl (BB0 V0) (y9 F2 I7 rfl rfl (Bt6 c5) BO0)))) ?_
  refine R1 ?_
  refine A6 (A0 rfl) ?_ ?_
  ·intro h41
   refine R2 ?_
   refine A4 rfl (D6 rfl G8) ?_
   refine R3 ?_
   refine a9 148 3 ?_
   exact I0 [0] ((([], false), Value.slice none 0 0)) ((by first | exact Nat.zero_le _ | (show tl.length ≤ 10; omega))) rfl B0 (U3 rfl D3 (B8 (A8 rfl B0) (B8 (A8 rfl B0) G6)))
  intro h41
  refine R5 ?_
  refine E9 j (j + 1) ?_ ?_ (Le.trans (C1 [0, 0] rfl) (E0 1 B0 ⟨rfl, rfl, rfl, rfl, trivial⟩))
  ·exact qz8
  omega
 intro h34
 have k34 := of_decide_eq_false h34; try simp only [A5] at k34
 refine R8 ?_
 exact I0 [0] (((tl, true), v)) ((by first | exact Nat.zero_le _ | (show tl.length ≤ 10; omega))) rfl B0 (U3 rfl D3 (B8 (A8 rfl B0) (B8 (A8 rfl B0) G6)))
theorem Bb4 (ss : List G2) (n : Int) (hl : ss.length ≤ 10) (hs : ∀ s ∈ ss, s.Told.length ≤ 100) : C9 Tryz.prog 127 [AV.list 4 (ss.map G2.cs), AV.int n] [] (fun x : List M1 × Bool => x.1.length ≤ 10) (fun _ => []) (fun x => AV.tup [AV.list 3 (x.1.map M1.cs), AV.bool x.2]) :=
  AB5 (fun x => x.1) (fun x => [.arr x.2 148 3 (x.1.1.map M1.cs)]) (fun _ => []) (Bm0 ss n hl hs) (fun _ h => h) (fun x _ => u9 (D0 (J5 (List.mem_singleton.2 rfl) F4) (D0 H2 U9))) (fun x _ => by rw [List.append_nil]) (fun _ _ => O0) (fun x _ => Ae0)
theorem CD8 (cuts : List Str) (t : A3) (hb : SetB t) : B9 Tryz.prog 128 [strs cuts, AV.agg t.cs] (AV.tup [strs (readsR t.Got), AV.list 3 ((N0 t.Ops t.Got).2.2.map A9.cs), ints (o8 cuts t), AV.bool (AH9 t)]) := by
 have hgl := hb.got.1
 have hrl := AU5 t.Got
 have hst := ran (got := t.Got) (n := 1000) D3 hb.ops
 have hwl : (N0 t.Ops t.Got).2.2.length ≤ 1000 := Nat.le_trans hst.len (by have := hb.len; omega)
 obtain ⟨S, hS⟩ : ∃ S, N0 t.Ops t.Got = S := ⟨_, rfl⟩
 have hstep := Br9 t.Ops t.Got hb.len hb.ops hb.got.2
 have hbq : AH9 t = ((N0 t.Ops t.Got).1 == 3 && decide (0 < ((((readsR t.Got).map fun t => [AV.str t]).length : Nat) : Int) + ((((N0 t.Ops t.Got).2.2.map A9.cs).length : Nat) : Int))) := by unfold AH9; simp only [A5]
 rw [hbq]
 unfold o8
 rw [hS] at hstep hwl ⊢
 have hkl := AZ8 (readsR t.Got ++ O8 S.2.2)
 rw [G3, show (O8 S.2.2).length = S.2.2.length from A5 ..] at hkl
 refine B7 Tryz.func128 rfl Tryz.ntmps128 rfl ?_
 refine R3 ?_
 intro b3
 refine A4 rfl (D6 rfl (O6 (sz := 1))) ?_
 refine A4 rfl (D6 rfl (O6 (sz := 3))) ?_
 refine A4 rfl (D6 rfl (O6 (sz := 1))) ?_
 refine R8 ?_
 refine A4 rfl (B2 rfl Tryz.call129 rfl (hstep) (A1 (A0 rfl) (A1 (A0 rfl) A7))) ?_
 refine R10 ?_
 refine P1 9 1 rfl rfl rfl rfl G8 ?_
 intro v11
 refine R10 ?_
 refine AWP.le (C1 [0] rfl) ?_
 refine J0 [(0, _), (4, _), (5, _), (6, _), (7, _), (8, _), (10, _), (24, _), (25, _)] _ (fun (i : Nat) (v : Value) => i ≤ t.Got.length) (fun (i : Nat) (v : Value) => [.arr v 9 1 ((readsR (t.Got.take i)).map fun t => [AV.str t])]) (fun (i : Nat) (v : Value) => [(11, AV.is v), (26, AV.int i)]) (fun (i : Nat) (v : Value) => t.Got.length - i) (0) (v11) ?_ (H7 B0 ⟨rfl, rfl, rfl, rfl, rfl, rfl, rfl, rfl, rfl, rfl, rfl, trivial⟩) ?_
 ·exact Nat.zero_le _
 intro i v hinv
 refine R5 ?_
 refine A6 (A0 rfl) ?_ ?_
 ·intro h27
  have k27 := of_decide_eq_true h27; try simp only [A5] at k27
  have hlt : i < t.Got.length := (by simpa using h27)
  obtain ⟨g, hg⟩ := get_some hlt
  have hrs := BJ4 (t.Got.take i)
  have hrn := AU5 (t.Got.take i)
  rw [G9] at hrn
  refine R5 ?_
  refine A4 rfl (C7 rfl J3 N5 (A0 rfl) (A0 rfl) hg qz3) ?_
  refine R2 ?_
  intro b13
  refine R6 ?_
  refine F0 [1] rfl rfl rfl rfl Tryz.call148 rfl (AA1 v (readsR (t.Got.take i)) g.Key hrs qz8) (A1 (A0 rfl) (A1 (A0 rfl) A7)) rfl ?_
  intro x33 ok33
  refine R6 ?_
  refine G4 i v (i + 1) (x33) ?_ ?_ (Le.trans (C1 [1, 0] rfl) (E0 1 (by (rw [BJ5 hg]; rfl)) ⟨rfl, rfl, rfl, rfl, rfl, rfl, rfl, rfl, rfl, rfl, rfl, trivial⟩))
  ·exact qz8
  omega
 intro h27
 have k27 := of_decide_eq_false h27; try simp only [A5] at k27
 have hge : t.Got.length ≤ i := (by simpa using h27)
 rw [List.take_of_length_le hge]
 refine R2 ?_
 refine AWP.le (g6 [0] 11 rfl rfl (J5 (C4 (i := 0) rfl) F4) AZ3) ?_
 refine R6 ?_
 refine A4 rfl (B2 rfl Tryz.call150 rfl (Am3 (readsR t.Got) S.2.2 qz8 qz8) (A1 (A0 rfl) (A1 (A0 rfl) A7))) ?_
 refine A4 rfl (B2 rfl Tryz.call149 rfl (Am4 cuts _ qz8) (A1 (A0 rfl) (A1 (A0 rfl) A7))) ?_
 refine R16 ?_
 exact U2 rfl D3 (B8 (A8 rfl B0) (B8 (A8 rfl B0) (B8 (A8 rfl B0) (B8 (A8 rfl B0) G6))))
end Go.Proofs.YtcfkbhnpfjjmjaaGreat
namespace Go.M
open Go.AV
def f0 (h : List C2) : Prop := HistK h ∧ ∀ d ∈ h, d.size ≤ 5000
theorem CD9 : f0 [] := ⟨fun d hd => (by cases hd), fun d hd => (by cases hd)⟩
theorem f0.snoc {h : List C2} {d : C2} (H : f0 h) (hk : ∀ w ∈ d.Writes, w.Key ∈ keyD) (hs : d.size ≤ 5000) : f0 (h ++ [d]) := ⟨fun x hx => by
  rcases List.mem_append.1 hx with hx | hx
  · exact H.1 x hx
  · rw [List.mem_singleton.1 hx]; exact hk, fun x hx => by
  rcases List.mem_append.1 hx with hx | hx
  · exact H.2 x hx
  · rw [List.mem_singleton.1 hx]; exact hs⟩
theorem Bb5 {n : Nat} {c : Int} {t : A3} (h : At2 n c t) {a b e tm : Int} : (C2.mk a b e true false tm t.Got (N0 t.Ops t.Got).2.2).size ≤ 5000 := by
  have h2 := c4 (f := G5.size) (c := 64) (l := t.Got) h.got.2
  have h3 : t.Got.length * (64 + 1) ≤ 8 * 65 := Nat.mul_le_mul_right _ h.got.1
  have hr := ran (got := t.Got) (n := 36) D3 (AF6 h.ops.1)
  have h4 := c4 (f := A9.size) (c := 36) (l := (N0 t.Ops t.Got).2.2) hr.size
  have h5 : t.Ops.length ≤ 8 := by have h9 := h.ops.1; unfold goodOps at h9; rw [Bool.and_eq_true, decide_eq_true_eq] at h9; have := h9.1; omega
  have h6 : (N0 t.Ops t.Got).2.2.length * (36 + 1) ≤ 8 * 37 := Nat.mul_le_mul_right _ (by have := hr.len; omega)
  show sizeL G5.size t.Got + sizeL A9.size (N0 t.Ops t.Got).2.2 ≤ 5000
  omega
theorem BQ6 {n : Nat} {c : Int} {t : A2} (h : LkOk n c t) {a b e tm : Int} : (C2.mk a b e true true tm t.Got []).size ≤ 5000 := by
  have h2 := c4 (f := G5.size) (c := 64) (l := t.Got) h.got.2
  have h3 : t.Got.length * (64 + 1) ≤ 8 * 65 := Nat.mul_le_mul_right _ (by have := h.got.1; have := h.keys.1; omega)
  show sizeL G5.size t.Got + sizeL A9.size [] ≤ 5000
  have : sizeL A9.size [] = 0 := rfl
  omega
theorem BY5 {own : List Go.AV.Own} {h : List C2} {row : List AV} {d : C2} (hr : X9 own row d.cs) : AR1 own (h.map C2.cs ++ [row]) ((h ++ [d]).map C2.cs) := by
  rw [List.map_append]
  refine ⟨by simp, fun i e f h1 h2 => ?_⟩
  by_cases hi : i < (h.map C2.cs).length
  · rw [List.getElem?_append_left hi] at h1 h2
    rw [h1] at h2; injection h2 with h2; subst h2; exact i3
  · rw [List.getElem?_append_right qz8] at h1 h2
    cases hk : i - (h.map C2.cs).length with
    | zero => rw [hk] at h1 h2; injection h1 with h1; injection h2 with h2; subst h1; subst h2; exact hr
    | succ m => rw [hk] at h1; cases h1
end Go.M
namespace Go.Proofs.YtcfkbhnpfjjmjaaGreat
open Go Go.AV Go.M
attribute [local irreducible] OpW OpA OpS AWP B9 J2 C9 OpE RetOk H0 I6 Le Ev F1 J8 V9 Int.tmod Int.tdiv IntKind.wrap bandI
theorem CL0 (w : TWorld) (hw : WI w) : C9 Tryz.prog 103 [AV.agg w.cs] [] (fun x : List C2 × Value => x.1.length ≤ 10 ∧ f0 x.1) (fun x => [.arr x.2 36 8 (x.1.map C2.cs)]) (fun x => AV.is x.2) := by
 have hng := hw.n
 have htl := hw.txns.1
 have hll := hw.looks.1
 have hsl : (w.Groups.map AH8).length ≤ 10 := by rw [A5]; omega
 have hst : ∀ s ∈ w.Groups.map AH8, s.Told.length ≤ 100 := fun s hs => by
  obtain ⟨g, hg, rfl⟩ := List.mem_map.1 hs
  exact Nat.le_trans (BU8 (hw.groups g hg).good).tlen D3
 refine C6 Tryz.func103 rfl Tryz.ntmps103 rfl ?_
 refine R3 ?_
 intro b1
 refine A4 rfl (D6 rfl G8) ?_
 refine R3 ?_
 refine P1 36 8 rfl rfl rfl rfl G8 ?_
 intro v3
 refine R4 ?_
 refine A4 rfl (B2 rfl Tryz.call126 rfl (BK4 w hw) (A1 (A0 rfl) A7)) ?_
 refine R11 ?_
 refine AWP.le (C1 [0] rfl) ?_
 refine Q4 [(1, _), (2, _), (4, _), (19, _), (20, _)] _ (fun (i : Nat) (h : List C2) (v : Value) => (i ≤ w.Txns.length ∧ h.length ≤ i) ∧ f0 h) (fun (i : Nat) (h : List C2) (v : Value) => [.arr v 36 8 (h.map C2.cs)]) (fun (i : Nat) (h : List C2) (v : Value) => [(3, AV.is v), (21, AV.int i)]) (fun (i : Nat) (h : List C2) (v : Value) => w.Txns.length - i) (0) ([]) (v3) ?_ (H7 B0 ⟨rfl, rfl, rfl, rfl, rfl, rfl, rfl, trivial⟩) ?_
 ·exact ⟨⟨Nat.zero_le _, Nat.le_refl _⟩, CD9⟩
 intro i h v hinv
 refine R5 ?_
 refine A6 (A0 rfl) ?_ ?_
 ·intro h22
  have k22 := of_decide_eq_true h22; try simp only [A5] at k22
  have hlt : i < w.Txns.length := Af1
  obtain ⟨t, ht⟩ := get_some hlt
  have htk := hw.txns.2 t (C4 ht)
  have hgl := htk.got.1
  refine R6 ?_
  refine A4 rfl (C7 rfl K0 N7 (A0 rfl) (A0 rfl) ht qz3) ?_
  refine R2 ?_
  intro b6
  refine R10 ?_
  refine A6 (A0 rfl) ?_ ?_
  ·intro h28
   have k28 := of_decide_eq_true h28; try simp only [A5] at k28
   refine R5 ?_
   refine L7 i h v (i + 1) (h) (v) ?_ ?_ (Le.trans (C1 [0, 0] rfl) (E0 1 AL6 ⟨rfl, rfl, rfl, rfl, rfl, rfl, rfl, trivial⟩))
   ·exact ⟨⟨by omega, by omega⟩, hinv.2⟩
   omega
  intro h28
  have k28 := of_decide_eq_false h28; try simp only [A5] at k28
  refine R11 ?_
  intro b7
  refine R3 ?_
  refine AWP.le (AF3 0 6 3 rfl rfl O0) ?_
  refine AWP.le (AF3 0 7 3 rfl rfl O0) ?_
  refine R4 ?_
  refine F0 [] rfl rfl rfl rfl Tryz.call127 rfl (Bb4 (w.Groups.map AH8) ((i : Int) + 1) hsl hst) (A1 (A0 rfl) (A1 (A0 rfl) A7)) rfl ?_
  intro x40 ok40
  obtain ⟨td, htd⟩ := AB6 x40.1 0
  refine R14 ?_
  refine L4 rfl (fun hc => C7 rfl K7 P8 (B1 rfl hc) D8 (htd (by simp at hc; omega)) qz5) ?_
  refine R4 ?_
  refine A6 (A0 rfl) ?_ ?_
  ·intro h51
   have htd1 := htd (by simp at h51; have h9 := h51.1; omega)
   refine R5 ?_
   refine A4 rfl (B2 rfl Tryz.call128 rfl (CD8 w.Cuts t htk.sb) (A1 (A0 rfl) (A1 (A0 rfl) A7))) ?_
   refine R18 ?_
   refine A4 rfl (C7 rfl K7 P8 (A0 rfl) D8 htd1 qz3) ?_
   refine R7 ?_
   refine N3 rfl rfl rfl rfl J3 N5 ?_
   intro v67
   refine R2 ?_
   refine F6 (by' := 40) 0 rfl rfl rfl rfl J3 Tryz.type45 rfl rfl rfl rfl rfl rfl (A0 rfl) (A0 rfl) rfl qz3 ?_
   intro v70_1
   refine R1 ?_
   refine Q5 0 rfl fun one_v70_1 => ?_
   refine O1 1 rfl rfl rfl (A0 rfl) (A0 rfl) (M0 one_v70_1) rfl N1 rfl ?_
   refine R1 ?_
   refine AWP.le (AO3 [0] 0 (.box b7 36 [AV.int ((i : Int) + 1), AV.int t.Begin, AV.int t.End, AV.bool true, AV.bool false, AV.int td.Time, AV.list 3 (t.Got.map G5.cs), AV.list 3 []]) rfl rfl ⟨rfl, rfl, (D0 H2 (D0 H2 (D0 H2 (D0 H2 (D0 H2 (D0 H2 (D0 (J5 (C4 (i := 0) rfl) F4) (D0 H2 U9))))))))⟩ O0) ?_
   refine R9 ?_
   refine F6 (by' := 88) 2 rfl rfl rfl rfl F8 Tryz.type36 rfl rfl rfl rfl rfl rfl (A0 rfl) (A0 rfl) rfl AV6 ?_
   intro v77_2
   refine R6 ?_
   refine L7 i h v (i + 1) (h ++ [⟨(i : Int) + 1, t.Begin, t.End, true, false, td.Time, t.Got, (N0 t.Ops t.Got).2.2⟩]) (v77_2) ?_ ?_ (Le.trans (C1 [0, 0, 0] rfl) (E0 2 AL6 ⟨rfl, rfl, rfl, rfl, rfl, rfl, rfl, trivial⟩))
   ·exact ⟨⟨by omega, by rw [G3]; simp; omega⟩, hinv.2.snoc (Ak7 htk.ops.2) (Bb5 htk)⟩
   omega
  intro h51
  refine R5 ?_
  refine F6 (by' := 88) 2 rfl rfl rfl rfl F8 Tryz.type36 rfl rfl rfl rfl rfl rfl (A0 rfl) (A0 rfl) rfl AV6 ?_
  intro v77_3
  refine R6 ?_
  refine L7 i h v (i + 1) (h ++ [⟨(i : Int) + 1, t.Begin, t.End, false, false, 0, [], []⟩]) (v77_3) ?_ ?_ (Le.trans (C1 [0, 0, 0] rfl) (E0 2 AL6 ⟨rfl, rfl, rfl, rfl, rfl, rfl, rfl, trivial⟩))
  ·exact ⟨⟨by omega, by rw [G3]; simp; omega⟩, hinv.2.snoc (fun w9 hw9 => by cases hw9) (show (0 : Nat) ≤ 5000 by decide)⟩
  omega
 intro h22
 have k22 := of_decide_eq_false h22; try simp only [A5] at k22
 refine R10 ?_
 refine AWP.le (C1 [0] rfl) ?_
 refine Q4 [(2, _), (80, _), (81, _)] _ (fun (j : Nat) (h1 : List C2) (u : Value) => (j ≤ w.Looks.length ∧ h1.length ≤ 6 + j) ∧ f0 h1) (fun (j : Nat) (h1 : List C2) (u : Value) => [.arr u 36 8 (h1.map C2.cs)]) (fun (j : Nat) (h1 : List C2) (u : Value) => [(3, AV.is u), (82, AV.int j)]) (fun (j : Nat) (h1 : List C2) (u : Value) => w.Looks.length - j) (0) (h) (v) ?_ (H7 B0 ⟨rfl, rfl, rfl, rfl, rfl, trivial⟩) ?_
 ·exact ⟨⟨Nat.zero_le _, by omega⟩, hinv.2⟩
 intro j h1 u hinv
 refine R5 ?_
 refine A6 (A0 rfl) ?_ ?_
 ·intro h83
  have k83 := of_decide_eq_true h83; try simp only [A5] at k83
  have hlt1 : j < w.Looks.length := (by simpa using h83)
  obtain ⟨q, hq⟩ := get_some hlt1
  have hqk := hw.looks.2 q (C4 hq)
  have hqg := hqk.got.1
  have hqn := hqk.keys.1
  refine R6 ?_
  refine A4 rfl (C7 rfl i4 Tryz.sizeOf152 (A0 rfl) (A0 rfl) hq qz3) ?_
  refine R2 ?_
  intro b15
  refine R18 ?_
  refine A6 (A0 rfl) ?_ ?_
  ·intro h98
   refine AWP.le (C1 [0] rfl) ?_
   refine M3 _ [(0, false), (1, false), (2, false), (3, false), (4, false), (5, false), (6, false), (7, false), (8, false), (10, false), (11, false), (9, true), (12, true), (13, false), (14, false), (15, true)] F2 F2 rfl (O2 1) ?_
   refine R11 ?_
   refine Q0 rfl rfl rfl (Z4 rfl J3 N5) (fun a _ => qz4) ?_
   intro v108 _
   refine Q0 rfl rfl rfl (AD5 [3] (fun _ => rfl) (fun _ => J5 (C4 (i := 0) rfl) F4) (fun _ => O0) (J6 (by' := 40) 3 rfl J3 Tryz.type45 rfl rfl rfl rfl rfl rfl (A0 rfl) (A0 rfl) rfl qz3)) (fun a _ => qz4) ?_
   intro v111_4 _
   refine R2 ?_
   refine Q0 rfl rfl rfl (J6 (by' := 88) 1 rfl F8 Tryz.type36 rfl rfl rfl rfl rfl rfl (A0 rfl) (A0 rfl) rfl AV6) (fun a _ => qz4) ?_
   intro v114_5 _
   refine R3 ?_
   refine AWP.le (AI9 3 1 (.arr v114_5 36 8 (_)) rfl (⟨rfl, rfl, rfl, by first | exact BY5 (h := h1) (d := ⟨50 + (j : Int), q.Begin, q.End, true, true, q.Time, q.Got, []⟩) (D0 H2 (D0 H2 (D0 H2 (D0 H2 (D0 H2 (D0 H2 (D0 H2 (D0 Au9 U9)))))))) | exact F4⟩) O0) ?_
   refine R4 ?_
   refine L7 j h1 u (j + 1) (h1 ++ [⟨50 + (j : Int), q.Begin, q.End, true, true, q.Time, q.Got, []⟩]) (v114_5) ?_ ?_ (Le.trans (C1 [0, 0] rfl) (E0 1 B0 ⟨rfl, rfl, rfl, rfl, rfl, trivial⟩))
   ·exact ⟨⟨by omega, by rw [G3]; simp; omega⟩, hinv.2.snoc (fun w9 hw9 => by cases hw9) (BQ6 hqk)⟩
   omega
  intro h98
  refine R1 ?_
  refine AWP.le (AI9 3 1 (.arr u 36 8 (_)) rfl (⟨rfl, rfl, rfl, by first | exact BY5 (h := h1) (d := ⟨50 + (j : Int), q.Begin, q.End, true, true, q.Time, q.Got, []⟩) (D0 H2 (D0 H2 (D0 H2 (D0 H2 (D0 H2 (D0 H2 (D0 H2 (D0 Au9 U9)))))))) | exact F4⟩) O0) ?_
  refine R4 ?_
  refine L7 j h1 u (j + 1) (h1) (u) ?_ ?_ (Le.trans (C1 [0, 0] rfl) (E0 1 B0 ⟨rfl, rfl, rfl, rfl, rfl, trivial⟩))
  ·exact ⟨⟨by omega, by omega⟩, hinv.2⟩
  omega
 intro h83
 have k83 := of_decide_eq_false h83; try simp only [A5] at k83
 refine R7 ?_
 exact I0 [0] ((h1, u)) (⟨by (show h1.length ≤ 10; omega), hinv.2⟩) rfl B0 (E4 rfl (A8 rfl B0))
end Go.Proofs.YtcfkbhnpfjjmjaaGreat
namespace Go.M
open Go.AV
def BM0 (rows : List A9) : Prop := (adj wLess rows = true ∧ ∀ w ∈ rows, w.size ≤ 64) ∧ rows.length ≤ 1000000
theorem CL1 {rows ws : List A9} (h : BM0 rows) (hw : ∀ w ∈ ws, w.size ≤ 64) (hl : rows.length + ws.length ≤ 1000000) : BM0 (putD rows ws) := by
  refine ⟨⟨Aj7 h.1.1, fun w hm => ?_⟩, ?_⟩
  · unfold putD o5 at hm
    rcases BB8 (List.mem_filter.1 hm).1 with hm | hm
    · exact hw w hm
    · exact h.1.2 w hm
  · have h1 := BB9 (ws := ws) (l := rows)
    have h2 : (putD rows ws).length ≤ (insL rows ws).length := List.length_filter_le _ _
    omega
theorem putD_len {rows ws : List A9} : (putD rows ws).length ≤ rows.length + ws.length := by
  have h1 := BB9 (ws := ws) (l := rows)
  have h2 : (putD rows ws).length ≤ (insL rows ws).length := List.length_filter_le _ _
  omega
theorem CL2 {l : List TOp} {got : List G5} (hl : l.length ≤ 4) (ho : ∀ o ∈ l, OpD o) : (∀ w ∈ (N0 l got).2.2, w.size ≤ 64) ∧ (N0 l got).2.2.length ≤ 4 ∧ ∀ w ∈ (N0 l got).2.2, w.Key ∈ keyD := by
  have hr := ran (got := got) (n := 64) D3 fun o h => BY4 (ho o h)
  exact ⟨hr.size, by have := hr.len; omega, Ak7 fun o h => (ho o h).2.1⟩
theorem CE0 {l : List TOp} {got : List G5} (hl : l.length ≤ 4) (ha : Alone l got) {ws : List A9} (hw : (∀ w ∈ ws, w.size ≤ 64) ∧ ws.length ≤ 4) {a b e tm : Int} {y k : Bool} : (C2.mk a b e y k tm got ws).size ≤ 2000 := by
  have h1 := c4 (f := G5.size) (c := 200) (l := got) ha.size
  have h2 : got.length * (200 + 1) ≤ 4 * 201 := Nat.mul_le_mul_right _ (Nat.le_trans ha.len hl)
  have h3 := c4 (f := A9.size) (c := 64) (l := ws) hw.1
  have h4 : ws.length * (64 + 1) ≤ 4 * 65 := Nat.mul_le_mul_right _ hw.2
  show sizeL G5.size got + sizeL A9.size ws ≤ 2000
  omega
def AY1 (h : List C2) : Prop := HistK h ∧ ∀ d ∈ h, d.size ≤ 2000
theorem AY1.snoc {h : List C2} {d : C2} (H : AY1 h) (hk : ∀ w ∈ d.Writes, w.Key ∈ keyD) (hs : d.size ≤ 2000) : AY1 (h ++ [d]) := ⟨fun x hx => by
  rcases List.mem_append.1 hx with hx | hx
  · exact H.1 x hx
  · rw [List.mem_singleton.1 hx]; exact hk, fun x hx => by
  rcases List.mem_append.1 hx with hx | hx
  · exact H.2 x hx
  · rw [List.mem_singleton.1 hx]; exact hs⟩
theorem AY1.big {h : List C2} (H : AY1 h) : f0 h := ⟨H.1, fun d hd => Nat.le_trans (H.2 d hd) D3⟩
def yesLook (d : C2) : C2 := { d with Yes := d.Look }
def setVal (d : C2) (v : Str) : C2 := { d with Yes := d.Look, Got := match d.Got with | [] => [] | g :: r => ⟨g.Key, v, g.There⟩ :: r }
theorem BY6 {h : List C2} (H : AY1 h) {k : Nat} {d d' : C2} (hd : h[k]? = some d) (hw : d'.Writes = d.Writes) (hs : d'.size ≤ d.size + 64) : f0 (h.set k d') := ⟨n9 (P := fun d : C2 => ∀ w ∈ d.Writes, w.Key ∈ keyD) H.1 (by rw [hw]; exact H.1 d (C4 hd)), n9 (P := fun d : C2 => d.size ≤ 5000) (fun x hx => Nat.le_trans (H.2 x hx) D3) (by have := H.2 d (C4 hd); omega)⟩
theorem Bs5 (d : C2) {v : Str} (h : v.length ≤ 64) : (setVal d v).size ≤ d.size + 64 := by
  obtain ⟨a, b, c, y, k, t, got, ws⟩ := d
  cases got with
  | nil => show sizeL G5.size [] + sizeL A9.size ws ≤ sizeL G5.size [] + sizeL A9.size ws + 64; omega
  | cons g r =>
    show sizeL G5.size (⟨g.Key, v, g.There⟩ :: r) + sizeL A9.size ws ≤ sizeL G5.size (g :: r) + sizeL A9.size ws + 64
    rw [P7, P7]
    have : G5.size ⟨g.Key, v, g.There⟩ ≤ g.size + 64 := by unfold G5.size; dsimp only; omega
    omega
def WsD (ws : List A9) : Prop := (∀ w ∈ ws, w.size ≤ 64) ∧ ws.length ≤ 4 ∧ ∀ w ∈ ws, w.Key ∈ keyD
theorem BQ7 : WsD [] := ⟨fun w h => (by cases h), Nat.zero_le _, fun w h => (by cases h)⟩
end Go.M
namespace Go.Proofs.YtcfkbhnpfjjmjaaGreat
open Go Go.AV Go.M
attribute [local irreducible] OpW OpA OpS AWP B9 J2 C9 OpE RetOk H0 I6 Le Ev F1 J8 V9 Int.tmod Int.tdiv IntKind.wrap bandI
def C2.ocs (d : C2) (y : Value) : List AV := [AV.int d.Txn, AV.int d.Begin, AV.int d.End, AV.bool d.Yes, AV.bool d.Look, AV.int d.Time, AV.is y, AV.list 3 (d.Writes.map A9.cs)]
def C2.ow (d : C2) (y : Value) : List Go.AV.Own := [.arr y 45 3 (d.Got.map G5.cs)]
theorem C2.lcM {own : List Go.AV.Own} (d : C2) (y : Value) (h : ∀ o ∈ C2.ow d y, o ∈ own) : X9 own (C2.ocs d y) d.cs := D0 H2 (D0 H2 (D0 H2 (D0 H2 (D0 H2 (D0 H2 (D0 (J5 (h _ (C4 (i := 0) rfl)) F4) i3))))))
theorem Az6 {d : C2} {g : G5} {v : Str} (h : d.Got[0]? = some g) : (setVal d v).Got.map G5.cs = (d.Got.map G5.cs).set 0 [AV.str g.Key, AV.str v, AV.bool g.There] := by
  obtain ⟨a, b, c, y, k, t, got, ws⟩ := d
  cases got with
  | nil => simp at h
  | cons x r => simp at h; subst h; rfl
theorem lend_l9 {own : List Go.AV.Own} {a b c : List (List AV)} (e : a = b) (h : AR1 own b c) : AR1 own a c := e ▸ h
theorem Bb6 (rows ws : List A9) (h : BM0 rows) (hw : ws.length ≤ 1000) : B9 Tryz.prog 106 [AV.list 3 (rows.map A9.cs), AV.list 3 (ws.map A9.cs)] (AV.list 3 ((putD rows ws).map A9.cs)) := by
  have h1 := BP3 rows ws (by have := h.2; omega) qz8
  rw [BT5 h.1.1] at h1
  exact h1
theorem BQ8 (b : Nat) (code : List Int) (hcode : Z2 code) (c : N6) (hp : c.p ≤ 900000) : C9 Tryz.prog 70 [AV.ptr b 0] [.box b 55 (S0 code c)] (fun x : N6 × List C2 × Value => x.1.p ≤ c.p + 3000 ∧ x.2.1.length ≤ 10 ∧ f0 x.2.1) (fun x => [.box b 55 (S0 code x.1), .arr x.2.2 36 8 (x.2.1.map C2.cs)]) (fun x => AV.is x.2.2) := by
 refine C6 Tryz.func70 rfl Tryz.ntmps70 rfl ?_
 refine R2 ?_
 refine A4 rfl (D6 rfl G8) ?_
 refine R5 ?_
 refine F0 [0] rfl rfl rfl rfl Tryz.call53 rfl (AN0 _ _ hcode _ _ qz8 qz8) (A1 (A0 rfl) (A1 D8 A7)) rfl ?_
 intro x13 ok13
 refine R1 ?_
 refine A6 (A0 rfl) ?_ ?_
 ·intro h13
  refine R3 ?_
  refine F0 [0] rfl rfl rfl rfl Tryz.call102 rfl (Bl9 _ _ hcode _ qz8) (A1 (A0 rfl) A7) rfl ?_
  intro x15 ok15
  refine R1 ?_
  intro b3
  refine R5 ?_
  refine F0 [] rfl rfl rfl rfl Tryz.call103 rfl (CL0 x15.2 ok15.2.1) (A1 (A0 rfl) A7) rfl ?_
  intro x17 ok17
  refine R3 ?_
  exact I0 [2, 0] ((x15.1, x17.1, x17.2)) (qz86) rfl B0 (E4 rfl (A8 rfl B0))
 intro h13
 refine R3 ?_
 refine P1 36 8 rfl rfl rfl rfl G8 ?_
 intro v4
 refine R3 ?_
 refine A4 rfl (D6 rfl (O6 (sz := 3))) ?_
 refine R5 ?_
 refine F0 [1] rfl rfl rfl rfl Tryz.call22 rfl (L0 _ _ hcode _ _ qz8 qz8) (A1 (A0 rfl) (A1 D8 A7)) rfl ?_
 intro x19 ok19
 obtain ⟨n0, hn0⟩ : ∃ n0 : Nat, x19.2 = n0 := ⟨x19.2.toNat, by omega⟩
 refine R4 ?_
 refine AWP.le (C1 [0, 0] rfl) ?_
 refine Bn2 [(0, _), (2, _)] [] (fun (n : Nat) (S : N6 × List A9) (h : List C2) (Y : List Value) (v : Value) => ((n + h.length = 1 + n0 ∧ n0 ≤ 4) ∧ S.1.p ≤ c.p + 10 + 150 * h.length) ∧ Y.length = h.length ∧ AY1 h ∧ BM0 S.2 ∧ S.2.length ≤ 4 * h.length) (fun (n : Nat) (S : N6 × List A9) (h : List C2) (Y : List Value) (v : Value) => [.box b 55 (S0 code S.1), .arr v 36 8 (nrows C2.ocs h Y)] ++ (nin C2.ow h Y)) (fun (n : Nat) (S : N6 × List A9) (h : List C2) (Y : List Value) (v : Value) => [(4, AV.is v), (5, AV.list 3 (S.2.map A9.cs)), (6, AV.int n)]) (fun (n : Nat) (S : N6 × List A9) (h : List C2) (Y : List Value) (v : Value) => n) (1 + n0) ((x19.1, [])) ([]) ([]) (v4) ?_ (H7 B0 ⟨rfl, rfl, congrArg (fun z => some (AV.int z)) qz8, rfl, rfl, trivial⟩) ?_
 ·exact ⟨⟨⟨by simp, by omega⟩, by simp; omega⟩, rfl, ⟨fun d hd => (by cases hd), fun d hd => (by cases hd)⟩, ⟨⟨rfl, fun w hw => (by cases hw)⟩, Nat.zero_le _⟩, Nat.zero_le _⟩
 intro n S h Y v hinv
 refine I3 (List.append_nil _) ?_
 refine R6 ?_
 refine A6 (A0 rfl) ?_ ?_
 ·intro h22
  have k22 := of_decide_eq_true h22; try simp only [A5] at k22
  have hn1 : 1 ≤ n := (by simp at h22; omega)
  have hrw := hinv.2.2.2.1
  have hrl := hinv.2.2.2.2
  have hhl : h.length ≤ 5 := qz8
  have hYl := hinv.2.1
  have hnl := S6 (ocs := C2.ocs) hYl
  refine R9 ?_
  refine F0 [0] rfl rfl rfl rfl Tryz.call22 rfl (L0 _ _ hcode _ _ qz8 qz8) (A1 (A0 rfl) (A1 D8 A7)) rfl ?_
  intro x29 ok29
  refine R1 ?_
  refine F0 [0] rfl rfl rfl rfl Tryz.call22 rfl (L0 _ _ hcode _ _ qz8 qz8) (A1 (A0 rfl) (A1 D8 A7)) rfl ?_
  intro x31 ok31
  refine R3 ?_
  intro b7
  refine R3 ?_
  refine AWP.le (AF3 0 7 3 rfl rfl (f9 1 rfl rfl O0)) ?_
  refine R3 ?_
  refine F0 [1] rfl rfl rfl rfl Tryz.call105 rfl (Az2 _ _ hcode _ qz8) (A1 (A0 rfl) A7) rfl ?_
  intro x37 ok37
  refine AT6 (g6 [1] 37 rfl rfl (J5 (C4 (i := 0) rfl) F4) (f9 0 rfl rfl O0)) ?_
  refine F0 [] rfl rfl rfl rfl Tryz.call104 rfl (Bs4 S.2 x37.2.1 hrw.1.2 qz8 ok37.2.2) (A1 (A0 rfl) (A1 (A0 rfl) A7)) rfl ?_
  intro x38 ok38
  have har := CL2 (got := x38.1.1) ok37.2.1.2 ok37.2.2
  refine R12 ?_
  refine Q5 0 rfl fun one_x38_2 => ?_
  refine O1 2 rfl rfl rfl (A0 rfl) (A0 rfl) (M0 one_x38_2) rfl N1 rfl ?_
  refine R6 ?_
  refine Ao3 [(0, _), (2, _), (4, _), (6, _), (7, _), (8, _), (9, _), (10, _), (21, _), (22, _), (25, _), (26, _), (27, _), (28, _), (29, _), (30, _), (31, _), (32, _), (33, _), (34, _), (35, _), (36, _), (37, _), (38, _), (39, _), (40, _), (41, _), (42, _), (43, _), (44, _)] ⟨rfl, rfl, rfl, rfl, rfl, rfl, rfl, rfl, rfl, rfl, rfl, rfl, rfl, rfl, rfl, rfl, rfl, rfl, rfl, rfl, rfl, rfl, rfl, rfl, rfl, rfl, rfl, rfl, rfl, rfl, trivial⟩ (fun (ws : List A9) (r2 : List A9) => WsD ws ∧ BM0 r2 ∧ r2.length ≤ S.2.length + 4) (fun (ws : List A9) (r2 : List A9) => [.box b 55 (S0 code x37.1), .box b7 36 [AV.int (((nrows C2.ocs h Y).length : Int) + 1), AV.int x29.2, AV.int (-1), AV.bool true, AV.bool false, AV.int (1 + x31.2), AV.is x38.2, AV.list 3 (ws.map A9.cs)], .arr v 36 8 (nrows C2.ocs h Y), .arr x38.2 45 3 (x38.1.1.map G5.cs)] ++ (nin C2.ow h Y)) (fun (ws : List A9) (r2 : List A9) => [(5, AV.list 3 (r2.map A9.cs))]) ?_ ?_
  ·skip
   refine A6 (A0 rfl) ?_ ?_
   ·intro h44
    refine R9 ?_
    refine A4 rfl (B2 rfl Tryz.call106 rfl (Bb6 S.2 (N0 x37.2.1 x38.1.1).2.2 hrw qz8) (A1 (A0 rfl) (A1 (A0 rfl) A7))) ?_
    refine R2 ?_
    exact ⟨(N0 x37.2.1 x38.1.1).2.2, putD S.2 (N0 x37.2.1 x38.1.1).2.2, qz163, Le.trans (C1 [1, 1, 1, 0] rfl) (E0 0 B0 ⟨rfl, rfl, rfl, rfl, rfl, rfl, rfl, rfl, rfl, rfl, rfl, rfl, rfl, rfl, rfl, rfl, rfl, rfl, rfl, rfl, rfl, rfl, rfl, rfl, rfl, rfl, rfl, rfl, rfl, rfl, rfl, trivial⟩)⟩
   intro h44
   refine R1 ?_
   exact ⟨[], S.2, qz163, Le.trans (C1 [1, 1, 1, 0] rfl) (E0 0 B0 ⟨rfl, rfl, rfl, rfl, rfl, rfl, rfl, rfl, rfl, rfl, rfl, rfl, rfl, rfl, rfl, rfl, rfl, rfl, rfl, rfl, rfl, rfl, rfl, rfl, rfl, rfl, rfl, rfl, rfl, rfl, rfl, trivial⟩)⟩
  intro ws r2 hIC44
  have hr4 := hIC44.2.2
  refine R4 ?_
  refine F0 [0] rfl rfl rfl rfl Tryz.call53 rfl (AN0 _ _ hcode _ _ qz8 qz8) (A1 (A0 rfl) (A1 D8 A7)) rfl ?_
  intro x51 ok51
  refine R1 ?_
  refine Ao3 [(0, _), (2, _), (4, _), (5, _), (6, _), (7, _), (8, _), (9, _), (10, _), (21, _), (22, _), (25, _), (26, _), (27, _), (28, _), (29, _), (30, _), (31, _), (32, _), (33, _), (34, _), (35, _), (36, _), (37, _), (38, _), (39, _), (40, _), (41, _), (42, _), (43, _), (44, _), (50, _), (51, _)] ⟨rfl, rfl, rfl, rfl, rfl, rfl, rfl, rfl, rfl, rfl, rfl, rfl, rfl, rfl, rfl, rfl, rfl, rfl, rfl, rfl, rfl, rfl, rfl, rfl, rfl, rfl, rfl, rfl, rfl, rfl, rfl, rfl, rfl, trivial⟩ (fun (lk : Bool) (w2 : List A9) => WsD w2) (fun (lk : Bool) (w2 : List A9) => [.box b 55 (S0 code x51.1), .box b7 36 [AV.int (((nrows C2.ocs h Y).length : Int) + 1), AV.int x29.2, AV.int (-1), AV.bool true, AV.bool lk, AV.int (1 + x31.2), AV.is x38.2, AV.list 3 (w2.map A9.cs)], .arr v 36 8 (nrows C2.ocs h Y), .arr x38.2 45 3 (x38.1.1.map G5.cs)] ++ (nin C2.ow h Y)) (fun (lk : Bool) (w2 : List A9) => []) ?_ ?_
  ·skip
   refine A6 (A0 rfl) ?_ ?_
   ·intro h51
    refine R7 ?_
    refine O1 1 rfl rfl rfl (A0 rfl) (O6 (sz := 3)) (Y1 _ _) rfl Tryz.sizeOf34 rfl ?_
    refine R1 ?_
    exact ⟨true, [], (by first | exact hIC44.1 | exact BQ7), Le.trans (C1 [0, 0, 0, 0] rfl) (E0 0 B0 ⟨rfl, rfl, rfl, rfl, rfl, rfl, rfl, rfl, rfl, rfl, rfl, rfl, rfl, rfl, rfl, rfl, rfl, rfl, rfl, rfl, rfl, rfl, rfl, rfl, rfl, rfl, rfl, rfl, rfl, rfl, rfl, rfl, rfl, trivial⟩)⟩
   intro h51
   refine R1 ?_
   exact ⟨false, ws, (by first | exact hIC44.1 | exact BQ7), Le.trans (C1 [0, 0, 0, 0] rfl) (E0 0 B0 ⟨rfl, rfl, rfl, rfl, rfl, rfl, rfl, rfl, rfl, rfl, rfl, rfl, rfl, rfl, rfl, rfl, rfl, rfl, rfl, rfl, rfl, rfl, rfl, rfl, rfl, rfl, rfl, rfl, rfl, rfl, rfl, rfl, rfl, trivial⟩)⟩
  intro lk w2 hIC51
  refine R4 ?_
  refine F0 [0] rfl rfl rfl rfl Tryz.call53 rfl (AN0 _ _ hcode _ _ qz8 qz8) (A1 (A0 rfl) (A1 D8 A7)) rfl ?_
  intro x55 ok55
  refine R2 ?_
  refine Ao3 [(0, _), (2, _), (4, _), (5, _), (6, _), (7, _), (8, _), (9, _), (10, _), (21, _), (22, _), (25, _), (26, _), (27, _), (28, _), (29, _), (30, _), (31, _), (32, _), (33, _), (34, _), (35, _), (36, _), (37, _), (38, _), (39, _), (40, _), (41, _), (42, _), (43, _), (44, _), (50, _), (51, _), (54, _), (55, _), (56, _)] ⟨rfl, rfl, rfl, rfl, rfl, rfl, rfl, rfl, rfl, rfl, rfl, rfl, rfl, rfl, rfl, rfl, rfl, rfl, rfl, rfl, rfl, rfl, rfl, rfl, rfl, rfl, rfl, rfl, rfl, rfl, rfl, rfl, rfl, rfl, rfl, rfl, trivial⟩ (fun (cu : N6) (e : Int) => cu.p ≤ x55.1.p + 2) (fun (cu : N6) (e : Int) => [.box b 55 (S0 code cu), .box b7 36 [AV.int (((nrows C2.ocs h Y).length : Int) + 1), AV.int x29.2, AV.int (e), AV.bool true, AV.bool lk, AV.int (1 + x31.2), AV.is x38.2, AV.list 3 (w2.map A9.cs)], .arr v 36 8 (nrows C2.ocs h Y), .arr x38.2 45 3 (x38.1.1.map G5.cs)] ++ (nin C2.ow h Y)) (fun (cu : N6) (e : Int) => []) ?_ ?_
  ·skip
   refine A6 (A0 rfl) ?_ ?_
   ·intro h56
    refine AWP.le (C1 [1, 0] rfl) ?_
    refine M3 _ [(0, false), (1, false), (2, false), (3, false), (4, true)] F2 F2 rfl (O2 1) ?_
    refine R4 ?_
    refine Q0 rfl rfl rfl (Y2 3 (O3 [1] rfl Tryz.call22 rfl (L0 _ _ hcode _ _ qz8 qz8) (A1 (A0 rfl) (A1 D8 A7)) rfl)) (fun a _ => qz4) ?_
    intro x61 ok61
    refine R5 ?_
    exact ⟨x61.1, x29.2 + 1 + x61.2, (by first | exact ok61.1 | exact Nat.le_add_right _ _), Le.trans (C1 [3, 0, 0, 0] rfl) (E0 0 B0 ⟨rfl, rfl, rfl, rfl, rfl, rfl, rfl, rfl, rfl, rfl, rfl, rfl, rfl, rfl, rfl, rfl, rfl, rfl, rfl, rfl, rfl, rfl, rfl, rfl, rfl, rfl, rfl, rfl, rfl, rfl, rfl, rfl, rfl, rfl, rfl, rfl, trivial⟩)⟩
   intro h56
   refine R1 ?_
   exact ⟨x55.1, -1, (by first | exact ok61.1 | exact Nat.le_add_right _ _), Le.trans (C1 [0, 0, 0, 0] rfl) (E0 0 B0 ⟨rfl, rfl, rfl, rfl, rfl, rfl, rfl, rfl, rfl, rfl, rfl, rfl, rfl, rfl, rfl, rfl, rfl, rfl, rfl, rfl, rfl, rfl, rfl, rfl, rfl, rfl, rfl, rfl, rfl, rfl, rfl, rfl, rfl, rfl, rfl, rfl, trivial⟩)⟩
  intro cu e hIC56
  refine R4 ?_
  refine F6 (by' := 88) 2 rfl rfl rfl rfl F8 Tryz.type36 rfl rfl rfl rfl rfl rfl (A0 rfl) (A0 rfl) rfl (by rw [S6 hYl]; simp only [O9]; omega) ?_
  intro v67_1
  refine R2 ?_
  refine AWP.le (C1 [0, 0, 0, 0] rfl) ?_
  refine AWP.le (N4 3 (t := nin C2.ow (h ++ [(C2.mk (((nrows C2.ocs h Y).length : Int) + 1) x29.2 e true lk (1 + x31.2) x38.1.1 w2)]) (Y ++ [x38.2])) (Bf1 (ow := C2.ow) (p := (C2.mk (((nrows C2.ocs h Y).length : Int) + 1) x29.2 e true lk (1 + x31.2) x38.1.1 w2)) (x := x38.2) hYl)) ?_
  refine R5 ?_
  refine Bw4 n S h Y v (n - 1) ((cu, r2)) (h ++ [⟨((nrows C2.ocs h Y).length : Int) + 1, x29.2, e, true, lk, 1 + x31.2, x38.1.1, w2⟩]) (Y ++ [x38.2]) (v67_1) ?_ ?_ (Le.trans (C1 [1, 0, 0] rfl) (E0 1 (Eq.trans (by (rw [BF2 (ocs := C2.ocs) hinv.2.1]; rfl)) (List.append_nil _).symm) ⟨rfl, rfl, congrArg (fun z => some (AV.int z)) qz8, rfl, rfl, trivial⟩))
  ·exact ⟨⟨⟨by rw [G3]; simp; omega, by omega⟩, by rw [G3]; simp; omega⟩, by rw [G3, G3, hYl]; rfl, hinv.2.2.1.snoc hIC51.2.2 (CE0 ok37.2.1.2 ok38 ⟨hIC51.1, hIC51.2.1⟩), hIC44.2.1, by rw [G3]; simp; omega⟩
  omega
 intro h22
 have k22 := of_decide_eq_false h22; try simp only [A5] at k22
 have hnz : n = 0 := (by simp at h22; omega)
 refine R5 ?_
 refine F0 [0] rfl rfl rfl rfl Tryz.call53 rfl (AN0 _ _ hcode _ _ qz8 qz8) (A1 (A0 rfl) (A1 D8 A7)) rfl ?_
 intro x69 ok69
 refine R1 ?_
 refine A6 (A0 rfl) ?_ ?_
 ·intro h69
  refine R5 ?_
  refine F0 [0] rfl rfl rfl rfl Tryz.call22 rfl (L0 _ _ hcode _ _ (by rw [S6 hinv.2.1]; omega) qz8) (A1 (A0 rfl) (A1 (A0 rfl) A7)) rfl ?_
  intro x73 ok73
  have hkl : x73.2.toNat < h.length := (by have h9 := S6 (ocs := C2.ocs) hinv.2.1; omega)
  obtain ⟨d, hd⟩ := get_some hkl
  obtain ⟨y, hy⟩ := get_some (show x73.2.toNat < Y.length by rw [hinv.2.1]; exact hkl)
  obtain ⟨g0, hg0⟩ := AB6 d.Got 0
  refine R8 ?_
  refine A4 rfl (E8 1 rfl F8 J4 (A0 rfl) rfl (A0 rfl) qz8 BA3) ?_
  refine A4 rfl (I9 1 rfl V4 rfl N9 (A0 rfl) rfl rfl Ab9) ?_
  refine A4 rfl (K1 1 rfl (A0 rfl) rfl g9 Ab9 rfl) ?_
  refine A4 rfl (E8 1 rfl F8 J4 (A0 rfl) rfl (A0 rfl) qz8 BA3) ?_
  refine A4 rfl (I9 1 rfl V4 rfl N9 (A0 rfl) rfl rfl Ab9) ?_
  refine T1 1 rfl rfl rfl (A0 rfl) (A0 rfl) (u4 _) rfl N9 Ab9 rfl ?_
  refine R2 ?_
  refine AWP.le (N4 2 (t := ([Go.AV.Own.arr y 45 3 (d.Got.map G5.cs)]) ++ (nin C2.ow (h.eraseIdx x73.2.toNat) (Y.eraseIdx x73.2.toNat))) (v9 (ow := C2.ow) hd hy)) ?_
  refine R3 ?_
  refine A4 rfl (E8 1 rfl F8 J4 (A0 rfl) rfl (A0 rfl) qz8 BA3) ?_
  refine A4 rfl (I9 1 rfl V4 rfl N1 (A0 rfl) rfl rfl Ab9) ?_
  refine A4 rfl (K1 1 rfl (A0 rfl) rfl Y5 Ab9 rfl) ?_
  refine R5 ?_
  refine L4 rfl (fun hc => E8 1 rfl F8 J4 (B1 rfl hc) rfl (B1 rfl hc) qz8 BA3) ?_
  refine L4 rfl (fun hc => I9 1 rfl V4 rfl N1 (B1 rfl hc) rfl rfl Ab9) ?_
  refine L4 rfl (fun hc => K1 1 rfl (B1 rfl hc) rfl Y5 Ab9 rfl) ?_
  refine L4 rfl (fun hc => E8 2 rfl J3 N5 (B1 rfl hc) rfl D8 qz8 BA3) ?_
  refine L4 rfl (fun hc => I9 2 rfl Tryz.underlying45 rfl N9 (B1 rfl hc) rfl rfl qz17) ?_
  refine L4 rfl (fun hc => K1 2 rfl (B1 rfl hc) rfl g9 qz17 rfl) ?_
  refine R2 ?_
  refine A6 (A0 rfl) ?_ ?_
  ·intro h99
   have hgp : 0 < d.Got.length := (by simp only [A5] at h99; simp at h99; exact h99.1)
   refine AWP.le (C1 [1] rfl) ?_
   refine M3 _ [(0, false), (1, false), (2, false), (3, false), (4, false), (5, false), (6, true)] F2 F2 rfl (O2 1) ?_
   refine R2 ?_
   refine M4 rfl rfl rfl (fun ext => E8 0 rfl F8 J4 (A0 rfl) rfl (A0 rfl) qz8 BA3) ?_
   refine M4 rfl rfl rfl (fun ext => I9 0 rfl V4 rfl N1 (A0 rfl) rfl rfl Ab9) ?_
   refine M4 rfl rfl rfl (fun ext => K1 0 rfl (A0 rfl) rfl Y5 Ab9 rfl) ?_
   refine R1 ?_
   refine Q0 rfl rfl rfl (Y2 2 (O3 [1] rfl Tryz.call107 rfl (CB7 _ _ hcode _ qz8) (A1 (A0 rfl) A7) rfl)) (fun a _ => qz4) ?_
   intro x106 ok106
   obtain ⟨D9, hD9⟩ : ∃ D9, D9 = setVal d x106.2 := ⟨_, rfl⟩
   obtain ⟨H9, hH9⟩ : ∃ H9, H9 = h.set x73.2.toNat D9 := ⟨_, rfl⟩
   have hH1 : f0 H9 ∧ H9.length ≤ 10 := (by rw [hH9, hD9]; exact ⟨BY6 hinv.2.2.1 hd rfl (Bs5 d ok106.2), by rw [List.length_set]; omega⟩)
   refine R1 ?_
   refine A4 rfl (E8 1 rfl J3 N5 (A0 rfl) rfl D8 qz8 BA3) ?_
   refine A4 rfl (I9 1 rfl Tryz.underlying45 rfl K3 (A0 rfl) rfl rfl qz17) ?_
   refine T1 1 rfl rfl rfl (A0 rfl) (A0 rfl) (U8 _) rfl K3 qz17 rfl ?_
   refine R2 ?_
   refine I3 AC3 ?_
   refine AWP.le (C1 [0, 1, 0] rfl) ?_
   refine AWP.le (N4 2 (t := nin C2.ow (h.set x73.2.toNat D9) Y) ((AG0 (b := C2.ow D9 y ++ nin C2.ow (h.eraseIdx x73.2.toNat) (Y.eraseIdx x73.2.toNat)) (by subst hD9; first | rfl | (unfold C2.ow; rw [Az6 (hg0 hgp)]; rfl)) (Bu1 hd hy)))) ?_
   refine R2 ?_
   refine AT6 (AI9 2 0 (.arr v 36 8 (H9.map C2.cs)) rfl (⟨rfl, rfl, rfl, qz53⟩) (f9 1 rfl rfl O0)) ?_
   refine R3 ?_
   exact I0 [1, 0] ((x106.1, H9, v)) (qz86) rfl B0 (E4 rfl (A8 rfl B0))
  intro h99
  obtain ⟨D9, hD9⟩ : ∃ D9, D9 = yesLook d := ⟨_, rfl⟩
  obtain ⟨H9, hH9⟩ : ∃ H9, H9 = h.set x73.2.toNat D9 := ⟨_, rfl⟩
  have hH1 : f0 H9 ∧ H9.length ≤ 10 := (by rw [hH9, hD9]; exact ⟨BY6 hinv.2.2.1 hd rfl (Nat.le_add_right _ _), by rw [List.length_set]; omega⟩)
  refine R2 ?_
  refine I3 AC3 ?_
  refine AWP.le (C1 [0, 0, 0] rfl) ?_
  refine AWP.le (N4 2 (t := nin C2.ow (h.set x73.2.toNat D9) Y) ((AG0 (b := C2.ow D9 y ++ nin C2.ow (h.eraseIdx x73.2.toNat) (Y.eraseIdx x73.2.toNat)) (by subst hD9; first | rfl | (unfold C2.ow; rw [Az6 (hg0 hgp)]; rfl)) (Bu1 hd hy)))) ?_
  refine R2 ?_
  refine AT6 (AI9 2 1 (.arr v 36 8 (H9.map C2.cs)) rfl (⟨rfl, rfl, rfl, qz53⟩) (f9 0 rfl rfl O0)) ?_
  refine R3 ?_
  exact I0 [0, 0] ((x73.1, H9, v)) (qz86) rfl B0 (E4 rfl (A8 rfl B0))
 intro h69
 obtain ⟨H9, hH9⟩ : ∃ H9, H9 = h := ⟨_, rfl⟩
 have hH1 : f0 H9 ∧ H9.length ≤ 10 := (by rw [hH9]; exact ⟨hinv.2.2.1.big, by omega⟩)
 refine R2 ?_
 refine I3 AC3 ?_
 refine R2 ?_
 refine AT6 (AI9 2 1 (.arr v 36 8 (H9.map C2.cs)) rfl (⟨rfl, rfl, rfl, qz53⟩) (f9 0 rfl rfl O0)) ?_
 refine R3 ?_
 exact I0 [0, 0] ((x69.1, H9, v)) (qz86) rfl B0 (E4 rfl (A8 rfl B0))
end Go.Proofs.YtcfkbhnpfjjmjaaGreat
namespace Go.M
open Go.AV
structure FoundO (h : List C2) (o : List Int) : Prop where
  nd : o.Nodup
  sub : ∀ n ∈ o, n ∈ d5 h
end Go.M
namespace Go.Proofs.YtcfkbhnpfjjmjaaGreat
open Go Go.AV Go.M
attribute [local irreducible] OpW OpA OpS AWP B9 J2 C9 OpE RetOk H0 I6 Le Ev F1 J8 V9 Int.tmod Int.tdiv IntKind.wrap bandI
end Go.Proofs.YtcfkbhnpfjjmjaaGreat
namespace Go.M
open Go.AV
theorem CE1 {h : List C2} (H : f0 h) {k : Nat} {d d' : C2} (hd : h[k]? = some d) (hw : d'.Writes = d.Writes) (hg : d'.Got = d.Got) : f0 (h.set k d') := ⟨n9 (P := fun d : C2 => ∀ w ∈ d.Writes, w.Key ∈ keyD) H.1 (by rw [hw]; exact H.1 d (C4 hd)), n9 (P := fun d : C2 => d.size ≤ 5000) H.2 (by have := H.2 d (C4 hd); unfold C2.size at *; rw [hw, hg]; exact this)⟩
end Go.M
namespace Go.Proofs.YtcfkbhnpfjjmjaaGreat
open Go Go.AV Go.M
attribute [local irreducible] OpW OpA OpS AWP B9 J2 C9 OpE RetOk H0 I6 Le Ev F1 J8 V9 Int.tmod Int.tdiv IntKind.wrap bandI
theorem Aw7 (b : Nat) (code : List Int) (hcode : Z2 code) (c : N6) (hp : c.p ≤ 800000) : C9 Tryz.prog 43 [AV.ptr b 0] [.box b 55 (S0 code c)] (fun x : N6 × List C2 × Value => x.1.p ≤ c.p + 3010 ∧ x.2.1.length ≤ 10 ∧ f0 x.2.1) (fun x => [.box b 55 (S0 code x.1), .arr x.2.2 36 8 (x.2.1.map C2.cs)]) (fun x => AV.is x.2.2) := by
 refine C6 Tryz.func43 rfl Tryz.ntmps43 rfl ?_
 refine R2 ?_
 refine A4 rfl (D6 rfl G8) ?_
 refine R4 ?_
 refine F0 [0] rfl rfl rfl rfl Tryz.call70 rfl (BQ8 _ _ hcode _ qz8) (A1 (A0 rfl) A7) rfl ?_
 intro x5 ok5
 refine R9 ?_
 refine A6 (A0 rfl) ?_ ?_
 ·intro h8
  have k8 := of_decide_eq_true h8; try simp only [A5] at k8
  have hpos : 0 < x5.2.1.length := (by simp only [A5] at h8; simp at h8; omega)
  obtain ⟨d, hd⟩ := get_some hpos
  refine R3 ?_
  refine F0 [0] rfl rfl rfl rfl Tryz.call22 rfl (L0 _ _ hcode _ _ qz8 qz8) (A1 (A0 rfl) (A1 D8 A7)) rfl ?_
  intro x10 ok10
  refine R7 ?_
  refine A6 (A0 rfl) ?_ ?_
  ·intro h11
   have k11 := D1 h11; try simp only [A5] at k11
   refine R3 ?_
   refine A4 rfl (E8 1 rfl F8 J4 (A0 rfl) rfl D8 qz8 f7) ?_
   refine A4 rfl (I9 1 rfl V4 rfl B6 (A0 rfl) rfl rfl An5) ?_
   refine A4 rfl (K1 1 rfl (A0 rfl) rfl I7 An5 rfl) ?_
   refine A4 rfl (E8 1 rfl F8 J4 (A0 rfl) rfl D8 qz8 f7) ?_
   refine A4 rfl (I9 1 rfl V4 rfl B6 (A0 rfl) rfl rfl An5) ?_
   refine T1 1 rfl rfl rfl (A0 rfl) (A0 rfl) (Q1 _ _) rfl B6 An5 rfl ?_
   refine R7 ?_
   exact I0 [0, 0] ((x10.1, x5.2.1.set 0 { d with End := d.Begin }, x5.2.2)) (qz43) rfl BD7 (E4 rfl (A8 rfl B0))
  intro h11
  have k11 := D5 h11; try simp only [A5] at k11
  refine R5 ?_
  refine A6 (A0 rfl) ?_ ?_
  ·intro h20
   have k20 := D1 h20; try simp only [A5] at k20
   refine R2 ?_
   refine A4 rfl (E8 1 rfl F8 J4 (A0 rfl) rfl D8 qz8 f7) ?_
   refine A4 rfl (I9 1 rfl V4 rfl B6 (A0 rfl) rfl rfl An5) ?_
   refine T1 1 rfl rfl rfl (A0 rfl) D8 (Q1 _ _) rfl B6 An5 rfl ?_
   refine R7 ?_
   exact I0 [0, 0] ((x10.1, x5.2.1.set 0 { d with Txn := 0 }, x5.2.2)) (qz43) rfl BD7 (E4 rfl (A8 rfl B0))
  intro h20
  have k20 := D5 h20; try simp only [A5] at k20
  refine R5 ?_
  refine A6 (A0 rfl) ?_ ?_
  ·intro h25
   have k25 := D1 h25; try simp only [A5] at k25
   refine R2 ?_
   refine A4 rfl (E8 1 rfl F8 J4 (A0 rfl) rfl D8 qz8 f7) ?_
   refine A4 rfl (I9 1 rfl V4 rfl N9 (A0 rfl) rfl rfl An5) ?_
   refine T1 1 rfl rfl rfl (A0 rfl) t0 (u4 _) rfl N9 An5 rfl ?_
   refine R7 ?_
   exact I0 [0, 0] ((x10.1, x5.2.1.set 0 { d with Look := true }, x5.2.2)) (qz43) rfl BD7 (E4 rfl (A8 rfl B0))
  intro h25
  have k25 := D5 h25; try simp only [A5] at k25
  refine R7 ?_
  exact I0 [0, 0] ((x10.1, x5.2.1, x5.2.2)) (qz43) rfl BD7 (E4 rfl (A8 rfl B0))
 intro h8
 have k8 := of_decide_eq_false h8; try simp only [A5] at k8
 refine R7 ?_
 exact I0 [0, 0] ((x5.1, x5.2.1, x5.2.2)) (qz43) rfl BD7 (E4 rfl (A8 rfl B0))
theorem AS2 (b : Nat) (code : List Int) (hcode : Z2 code) (c : N6) (hp : c.p ≤ 800000) : C9 Tryz.prog 43 [AV.ptr b 0] [.box b 55 (S0 code c)] (fun x : N6 × List C2 => x.1.p ≤ c.p + 3010 ∧ x.2.length ≤ 10 ∧ f0 x.2) (fun x => [.box b 55 (S0 code x.1)]) (fun x => AV.list 8 (x.2.map C2.cs)) :=
  AB5 (fun x => (x.1, x.2.1)) (fun x => [.arr x.2.2 36 8 (x.2.1.map C2.cs)]) (fun x => [.box b 55 (S0 code x.1)]) (Aw7 b code hcode c hp) (fun _ h => h) (fun x _ => J5 (List.mem_singleton.2 rfl) F4) (fun x _ => List.perm_append_comm (l₁ := [_])) (fun _ _ => f9 0 rfl rfl O0) (fun x _ => Av1 ⟨rfl, rfl, i3⟩ Ae0)
theorem CL3 {l : List Int} {k : Nat} : (l.map fun n => [AV.int n]).take k = (l.take k).map fun n => [AV.int n] := List.map_take.symm
end Go.Proofs.YtcfkbhnpfjjmjaaGreat
namespace Go.AV
theorem as_clo (f : FuncId) (xs : List AV) : c6 (AV.clo f xs) [AV.clo f xs] := Ad6 fun R v ⟨vs, e, _⟩ => by subst e; rfl
theorem lt_clo {own : List Own} {f : FuncId} {xs ys : List AV} (h : X9 own xs ys) : e6 own (AV.clo f xs) (AV.clo f ys) := fun G w0 R0 R w v hc ⟨vs, e, hl, hd⟩ =>
  ⟨vs, e, hl.trans h.1, fun i u y hu hy => by
    have hi : i < xs.length := by rw [h.1]; exact (List.getElem?_eq_some_iff.1 hy).1
    have hx := List.getElem?_eq_getElem hi
    exact h.2 i _ y hx hy G w0 R0 R w u hc (hd i u _ hu hx)⟩
theorem lt_weak {own : List Own} {x y z : AV} (h : e6 own x y) (hw : ∀ R v, y.den R v → z.den R v) : e6 own x z := fun G w0 R0 R w v hc hv => hw _ _ (h G w0 R0 R w v hc hv)
end Go.AV
namespace Go.M
open Go.AV
def InH (h : List C2) (n : Int) : Prop := 0 ≤ n ∧ n < (h.length : Int)
def Aw2 (h : List C2) (n : Int) : Int := if (deedAt h n).Look = true then 1 else 0
def cmpT (h : List C2) (m n : Int) : Int := orInt [cmpInt (deedAt h m).Time (deedAt h n).Time, cmpInt (Aw2 h m) (Aw2 h n)]
theorem CL4 (h : List C2) (m n : Int) : decide (cmpT h m n < 0) = lessT h m n := by
  unfold cmpT lessT Aw2
  by_cases e : (deedAt h m).Time = (deedAt h n).Time
  · rw [if_pos e, e]
    cases (deedAt h m).Look <;> cases (deedAt h n).Look <;> simp [cmpInt, orInt]
  · rw [if_neg e]
    simp only [cmpInt, orInt]
    by_cases l : (deedAt h m).Time < (deedAt h n).Time
    · simp [l]
    · have g : (deedAt h n).Time < (deedAt h m).Time := by omega
      simp [l, g]
theorem yes_in {h : List C2} {n : Int} (hn : n ∈ d5 h) : InH h n := (Bv2.1 hn).1
theorem yesTo_in {h : List C2} {i : Nat} {n : Int} (hn : n ∈ yesTo h i) : 0 ≤ n ∧ n < (i : Int) := by
  unfold yesTo at hn
  rw [List.mem_filterMap] at hn
  obtain ⟨j, hj, hs⟩ := hn
  have := List.mem_range.1 hj
  split at hs
  · injection hs with hs; subst hs; exact ⟨Int.natCast_nonneg _, by show (j : Int) < i; omega⟩
  · cases hs
theorem fold_in {h : List C2} {i : Nat} {n : Int} (hn : n ∈ (yesTo h i).foldl (p4 h) []) : 0 ≤ n ∧ n < (i : Int) := by
  have := (AS1 h (yesTo h i) []).mem_iff.1 hn
  rw [List.append_nil, List.mem_reverse] at this
  exact yesTo_in this
theorem CL5 (h : List C2) (i : Nat) : ((yesTo h i).foldl (p4 h) []).length ≤ i := by
  rw [(AS1 h (yesTo h i) []).length_eq, List.append_nil, List.length_reverse]; exact BW5 h i
theorem CL6 (h : List C2) : foldT h (d5 h) (d5 h).length = orderT h := by unfold foldT orderT; rw [List.take_length]
end Go.M
namespace Go.Proofs.YtcfkbhnpfjjmjaaGreat
open Go Go.AV Go.M
attribute [local irreducible] OpW OpA OpS AWP B9 J2 C9 OpE RetOk H0 I6 Le Ev F1 J8 Int.tmod Int.tdiv IntKind.wrap
theorem BQ9 (h : List C2) (n : Int) (hn : InH h n) : B9 Tryz.prog 73 [AV.int n, AV.eptr [AV.list 8 (h.map C2.cs)]] (AV.int (Aw2 h n)) := by
 have hn0 : 0 ≤ n := hn.1
 refine B7 Tryz.func73 rfl Tryz.ntmps73 rfl ?_
 refine R9 ?_
 refine A4 rfl (C7 rfl F8 J4 (A0 rfl) (A0 rfl) (P6 hn) qz3) ?_
 refine R3 ?_
 refine A6 (A0 rfl) ?_ ?_
 ·intro h8
  refine R5 ?_
  exact D4 rfl (A8 rfl qz159)
 intro h8
 refine R6 ?_
 exact D4 rfl (A8 rfl qz159)
theorem Bb7 (h : List C2) (m n : Int) (hm : InH h m) (hn : InH h n) : B9 Tryz.prog 75 [AV.int m, AV.int n, AV.eptr [AV.list 8 (h.map C2.cs)], AV.eptr [AV.fun1 Tryz.prog (InH h) (fun n : Int => AV.int n) (fun n => AV.int (Aw2 h n))]] (AV.int (cmpT h m n)) := by
  have hn0 : 0 ≤ n := hn.1
  have hm0 : 0 ≤ m := hm.1
  refine B7 Tryz.func75 rfl Tryz.ntmps75 rfl ?_
  refine R8 ?_
  refine C3 rfl rfl (C7 rfl F8 J4 (A0 rfl) (A0 rfl) (P6 hm) qz3) ?_
  refine R4 ?_
  refine C3 rfl rfl (C7 rfl F8 J4 (A0 rfl) (A0 rfl) (P6 hn) qz3) ?_
  refine R2 ?_
  refine C3 rfl rfl (B2 rfl Tryz.call77 rfl (Ay0 _ _) (A1 (A0 rfl) (A1 (A0 rfl) A7))) ?_
  refine R2 ?_
  refine C3 rfl rfl (AI7 rfl (A0 rfl) m hm (A0 rfl)) ?_
  refine R2 ?_
  refine C3 rfl rfl (AI7 rfl (A0 rfl) n hn (A0 rfl)) ?_
  refine C3 rfl rfl (B2 rfl Tryz.call77 rfl (Ay0 _ _) (A1 (A0 rfl) (A1 (A0 rfl) A7))) ?_
  refine R1 ?_
  refine C3 rfl rfl (B2 rfl Tryz.call76 rfl (Bz8 [_, _]) (A1 (A0 rfl) A7)) ?_
  refine R3 ?_
  exact D4 rfl (A8 rfl B0)
theorem BK5 (h : List C2) (hl : h.length ≤ 10) : C9 Tryz.prog 45 [AV.list 8 (h.map C2.cs)] [] (fun _ : Value => True) (fun v => [.arr v 3 1 ((orderT h).map fun n => [AV.int n])]) (fun v => AV.is v) := by
  have hyl : (d5 h).length < 20 := by have := Bv3 h; omega
  have hf : ∀ x y, x ∈ d5 h → y ∈ d5 h → decide (cmpT h x y < 0) = lessT h x y := fun x y _ _ => CL4 h x y
  refine C6 Tryz.func45 rfl Tryz.ntmps45 rfl ?_
  refine R2 ?_
  refine BN8 rfl rfl rfl rfl (A0 rfl) (Ag6 _ _) ?_
  intro b1
  refine A4 rfl (D6 rfl G8) ?_
  refine R4 ?_
  refine F0 [] rfl rfl rfl rfl Tryz.call35 rfl (Am2 h qz8) (A1 (A0 rfl) A7) rfl ?_
  intro x6 ok6
  refine R4 ?_
  refine A4 rfl (BE6 rfl rfl (A1 (A0 rfl) A7)) ?_
  refine R1 ?_
  intro b4
  refine O1 0 rfl rfl rfl (A0 rfl) (A0 rfl) (as_clo _ _) rfl Tryz.sizeOf56 rfl ?_
  refine R4 ?_
  refine A4 rfl (BE6 rfl rfl (A1 (A0 rfl) (A1 (A0 rfl) A7))) ?_
  refine AK3 [1] rfl rfl rfl rfl Tryz.call74 rfl (BI2 _ h (d5 h) (cmpT h) hf hyl) rfl (T0 (evb (A0 rfl)) (T0 (AT5 (evb_cloL (A0 rfl) (D0 (lt_box (C4 (i := 1) rfl)) (D0 (lt_boxc (C4 (i := 0) rfl) (D0 (lt_weak (lt_clo (D0 (lt_box (C4 (i := 1) rfl)) U9)) (Ag8 Tryz.call73 (fun n hn => BQ9 h n hn))) U9)) U9))) (clo_fun2 Tryz.call75 (fun x y hp => Bb7 h x y (yes_in hp.1) (yes_in hp.2)))) f8)) qz0 qz0 qz0 ?_
  intro x10 ok10
  refine R7 ?_
  exact I0 [0] x6 (trivial) rfl (by first | (rw [CL6]; rfl) | rfl) (E4 rfl (A8 rfl B0))
theorem Bm1 (h : List C2) (a b : Int) (ha : InH h a) (hb : InH h b) (hba : b < a) : B9 Tryz.prog 81 [AV.list 8 (h.map C2.cs), AV.int a, AV.int b] (AV.bool (lessT h a b)) := by
 have ha0 : 0 ≤ a := ha.1
 have hb0 : 0 ≤ b := hb.1
 refine B7 Tryz.func81 rfl Tryz.ntmps81 rfl ?_
 refine R5 ?_
 refine Q8 _ 11 (.pure 0 (.pure 1 (.pure 2 (.pure 3 (.pure 4 (.pure 5 (.pure 6 (.pure 7 (.e2 8 (.e1 9 (.e1 10 .nil)) 9 (.e1 8 (.e1 10 .nil))))))))))) F2 F2 rfl AK5 ?_
 refine R2 ?_
 refine K4 rfl rfl rfl (fun ext => C7 rfl F8 J4 (A0 rfl) (A0 rfl) (P6 ha) qz3) ?_
 refine R3 ?_
 refine K4 rfl rfl rfl (fun ext => C7 rfl F8 J4 (A0 rfl) (A0 rfl) (P6 hb) qz3) ?_
 refine R1 ?_
 refine j5 ?_ ?_
 ·refine F7 rfl rfl rfl (T2 rfl Tryz.zeroValue36 rfl) (fun a _ => qz4) ?_
  intro b7 _
  refine R1 ?_
  refine F7 rfl rfl rfl (T2 rfl Tryz.zeroValue36 rfl) (fun a _ => qz4) ?_
  intro b8 _
  refine R1 ?_
  refine c8 rfl rfl rfl (W8 0 rfl rfl (A0 rfl) (A0 rfl) (V2 _) rfl J4 rfl) (fun a _ => qz4) ?_
  intro _ _
  refine R12 ?_
  refine A6 (A0 rfl) ?_ ?_
  ·intro h21
   have k21 := w8 h21; try simp only [A5] at k21
   refine R10 ?_
   exact D4 rfl (A8 rfl BN0)
  intro h21
  have k21 := c3 h21; try simp only [A5] at k21
  refine R8 ?_
  refine A4 rfl (Ad4 rfl V0 (A0 rfl) (A0 rfl)) ?_
  refine R1 ?_
  refine A6 (A0 rfl) ?_ ?_
  ·intro h31
   refine R7 ?_
   exact D4 rfl (A8 rfl BN0)
  intro h31
  refine R9 ?_
  exact D4 rfl (A8 rfl BN0)
 refine F7 rfl rfl rfl (T2 rfl Tryz.zeroValue36 rfl) (fun a _ => qz4) ?_
 intro b8 _
 refine R1 ?_
 refine F7 rfl rfl rfl (T2 rfl Tryz.zeroValue36 rfl) (fun a _ => qz4) ?_
 intro b7 _
 refine R1 ?_
 refine c8 rfl rfl rfl (W8 1 rfl rfl (A0 rfl) (A0 rfl) (V2 _) rfl J4 rfl) (fun a _ => qz4) ?_
 intro _ _
 refine R12 ?_
 refine A6 (A0 rfl) ?_ ?_
 ·intro h21
  have k21 := w8 h21; try simp only [A5] at k21
  refine R10 ?_
  exact D4 rfl (A8 rfl BN0)
 intro h21
 have k21 := c3 h21; try simp only [A5] at k21
 refine R8 ?_
 refine A4 rfl (Ad4 rfl V0 (A0 rfl) (A0 rfl)) ?_
 refine R1 ?_
 refine A6 (A0 rfl) ?_ ?_
 ·intro h31
  refine R7 ?_
  exact D4 rfl (A8 rfl BN0)
 intro h31
 refine R9 ?_
 exact D4 rfl (A8 rfl BN0)
theorem Bm2 (h : List C2) (hl : h.length ≤ 1000) : C9 Tryz.prog 49 [AV.list 8 (h.map C2.cs)] [] (fun _ : Value => True) (fun v => [.arr v 3 1 ((orderT h).map fun n => [AV.int n])]) (fun v => AV.is v) := by
 refine C6 Tryz.func49 rfl Tryz.ntmps49 rfl ?_
 refine R2 ?_
 refine A4 rfl (D6 rfl G8) ?_
 refine R3 ?_
 refine P1 3 1 rfl rfl rfl rfl G8 ?_
 intro v3
 refine R9 ?_
 refine AWP.le (C1 [0] rfl) ?_
 refine Q4 [(0, _), (2, _), (8, _), (9, _)] _ (fun (i : Nat) (v : Value) (o : List Int) => i ≤ h.length ∧ o = (yesTo h i).foldl (p4 h) []) (fun (i : Nat) (v : Value) (o : List Int) => [.arr v 3 1 (o.map fun n => [AV.int n])]) (fun (i : Nat) (v : Value) (o : List Int) => [(3, AV.is v), (10, AV.int i)]) (fun (i : Nat) (v : Value) (o : List Int) => h.length - i) (0) (v3) ([]) ?_ (H7 B0 ⟨rfl, rfl, rfl, rfl, rfl, rfl, trivial⟩) ?_
 ·exact ⟨Nat.zero_le _, rfl⟩
 intro i v o hinv
 refine R5 ?_
 refine A6 (A0 rfl) ?_ ?_
 ·intro h11
  have k11 := of_decide_eq_true h11; try simp only [A5] at k11
  have hlt : i < h.length := (by simpa using h11)
  obtain ⟨x, hx⟩ := get_some hlt
  have ho2 := hinv.2
  have hol : o.length ≤ 1000 := (by rw [ho2]; have := CL5 h i; omega)
  have hom : ∀ y ∈ o, 0 ≤ y ∧ y < (i : Int) := (fun y hy => fold_in (by rw [← ho2]; exact hy))
  refine R6 ?_
  refine A4 rfl (C7 rfl F8 J4 (A0 rfl) (A0 rfl) hx qz3) ?_
  refine R2 ?_
  intro b5
  refine R10 ?_
  refine A6 (A0 rfl) ?_ ?_
  ·intro h17
   refine R5 ?_
   refine L7 i v o (i + 1) (v) (o) ?_ ?_ (Le.trans (C1 [0, 0] rfl) (E0 1 qz153 ⟨rfl, rfl, rfl, rfl, rfl, rfl, trivial⟩))
   ·first | exact ⟨by omega, by rw [Ak3 hx At5, hinv.2]⟩ | exact ⟨by omega, by rw [Aa1 hx At5, List.foldl_append, ← ho2]; rfl⟩
   omega
  intro h17
  refine R9 ?_
  rw [show (o.map fun n => [AV.int n]).length = o.length from A5 _]
  refine E2 [(0, _), (2, _), (3, _), (4, _), (5, _), (8, _), (9, _), (10, _), (11, _), (12, _), (13, _), (14, _), (15, _), (16, _), (17, _), (18, _), (19, _)] _ (fun (k : Nat) => k ≤ o.length ∧ posR h i o o.length = posR h i o k) (fun (k : Nat) => []) (fun (k : Nat) => [(6, AV.int k)]) (fun (k : Nat) => k) (o.length) ?_ (E7 ⟨rfl, rfl, rfl, rfl, rfl, rfl, rfl, rfl, rfl, rfl, rfl, rfl, rfl, rfl, rfl, rfl, rfl, rfl, trivial⟩) ?_
  ·exact ⟨Nat.le_refl _, rfl⟩
  intro k hinv
  have hk2 := hinv
  obtain ⟨y, hy0⟩ := AB6 o (k - 1)
  have hy : 0 < k → o[k - 1]? = some y := (fun h9 => hy0 qz8)
  refine R11 ?_
  refine L4 rfl (fun hc => E8 1 rfl B4 B6 (B1 rfl hc) rfl (B1 rfl hc) (by have h9 := of_decide_eq_true hc; omega) (by have h9 := of_decide_eq_true hc; simp only [A5]; omega)) ?_
  refine L4 rfl (fun hc => U7 1 rfl (B1 rfl hc) rfl I7 (o0 (k := (k : Int) - 1) (by have h9 := of_decide_eq_true hc; rw [show ((k : Int) - 1).toNat = k - 1 by omega]; exact hy qz8))) ?_
  refine L4 rfl (fun hc => B2 rfl Tryz.call81 rfl (Bm1 h i y ⟨by omega, by omega⟩ (by have h9 := of_decide_eq_true hc; have h8 := hom y (C4 (hy qz8)); exact ⟨h8.1, by omega⟩) (by have h9 := of_decide_eq_true hc; exact (hom y (C4 (hy qz8))).2)) (A1 (B1 rfl hc) (A1 (B1 rfl hc) (A1 (B1 rfl hc) A7)))) ?_
  refine R2 ?_
  refine A6 (A0 rfl) ?_ ?_
  ·intro h31
   rw [Bool.and_eq_true] at h31
   have hk0 : 0 < k := (by have h9 := of_decide_eq_true h31.1; omega)
   have hless := h31.2
   refine R7 ?_
   refine AA9 ?_
   refine E9 k (k - 1) ?_ ?_ (E7 ⟨congrArg (fun z => some (AV.int z)) qz8, rfl, rfl, rfl, rfl, rfl, rfl, rfl, rfl, rfl, rfl, rfl, rfl, rfl, rfl, rfl, rfl, rfl, trivial⟩)
   ·exact ⟨by omega, by rw [hk2.2, AM8 hk0 (hy hk0), if_pos hless]⟩
   omega
  intro h31
  have hinv9 : posR h i o o.length = k := (by rw [hk2.2]; by_cases hk0 : 0 < k; (rw [AM8 hk0 (hy hk0)]; rw [decide_eq_true (show (0 : Int) < (k : Int) by omega), Bool.true_and] at h31; rw [if_neg (by rw [h31]; exact Bool.false_ne_true)]); (obtain rfl : k = 0 := qz8; rfl))
  refine R5 ?_
  refine A4 rfl (Bd1 1 rfl B4 B6 (A0 rfl) rfl (A0 rfl) qz3 qz3) ?_
  refine AK3 [] rfl rfl rfl rfl Tryz.call33 rfl (AE1 (o.drop k) (by rw [List.length_drop]; omega)) rfl (T0 (BE9 (A0 rfl) (Bf3 (C4 (i := 1) rfl) qz8 qz8)) f8) qz0 qz0 qz0 ?_
  intro x37 ok37
  refine R3 ?_
  refine AT6 (g6 [0] 7 rfl rfl (J5 (C4 (i := 0) rfl) F4) O0) ?_
  refine R2 ?_
  refine Be7 1 rfl rfl rfl rfl B4 B6 (A0 rfl) rfl (A0 rfl) qz3 qz3 ?_
  intro v40_1
  refine sq_own (by first | (simp only [CL3, pick, Au4, Af8, AQ1, AQ2, AL8, List.nil_append, Af9, AY4, List.append_nil]; exact rfl) | exact rfl) ?_
  refine AK3 [] rfl rfl rfl rfl Tryz.call33 rfl (AE1 (o.take k) At7) rfl (T0 (AV0 1 (A0 rfl) rfl) f8) qz0 qz0 qz0 ?_
  intro x41 ok41
  refine R2 ?_
  refine F6 (by' := 8) 0 rfl rfl rfl rfl B4 Tryz.type3 rfl rfl rfl rfl rfl rfl (A0 rfl) (A0 rfl) rfl qz3 ?_
  intro v44_2
  refine R1 ?_
  refine F6 (by' := 8) 0 rfl rfl rfl rfl B4 Tryz.type3 rfl rfl rfl rfl rfl rfl (A0 rfl) (A0 rfl) rfl (by simp only [G3, A5, G9, List.length_drop, O9]; omega) ?_
  intro v46_3
  refine R6 ?_
  refine L7 i v o (i + 1) (v46_3) (p4 h o (i : Int)) ?_ ?_ (Le.trans (C1 [1, 1, 0] rfl) (E0 2 qz153 ⟨rfl, rfl, rfl, rfl, rfl, rfl, trivial⟩))
  ·first | exact ⟨by omega, by rw [Ak3 hx At5, hinv.2]⟩ | exact ⟨by omega, by rw [Aa1 hx At5, List.foldl_append, ← ho2]; rfl⟩
  omega
 intro h11
 have k11 := of_decide_eq_false h11; try simp only [A5] at k11
 have hie : i = h.length := (by have h9 : h.length ≤ i := (by simpa using h11); omega)
 have hoe : o = orderT h := (by rw [hinv.2, hie, BW4]; rfl)
 refine R7 ?_
 exact I0 [0] v (trivial) rfl (by (rw [hoe]; rfl)) (E4 rfl (A8 rfl B0))
end Go.Proofs.YtcfkbhnpfjjmjaaGreat
