/- Texts of the claim, part 3. -/
import Derived.Test.YtdgoejkijpllpaaGreatDoorRows
import Derived.Test.YtdgoejkijpllpaaGreatDoorCards
import Derived.Test.YtdgoejkijpllpaaGreatDoorTie
import Derived.Lay
import Derived.SevenTiedAt
import Derived.Test.YtdgoejkijpllpaaGreatDoorZEnds2

set_option linter.unusedVariables false
set_option linter.unusedSimpArgs false
namespace Go.M
open Go.AV
def od (ws : List Str) : Nat → List Str
  | 0 => []
  | i + 1 => if i % 2 = 1 then od ws i ++ [(ws[i]?).getD []] else od ws i
def ev (ws : List Str) : Nat → List Str
  | 0 => []
  | i + 1 => if i % 2 = 1 then ev ws i else ev ws i ++ [(ws[i]?).getD []]
theorem od_odd {ws : List Str} {i : Nat} {x : Str} (hx : ws[i]? = some x) (h : i % 2 = 1) : od ws (i + 1) = od ws i ++ [x] := by
  show (if i % 2 = 1 then od ws i ++ [(ws[i]?).getD []] else od ws i) = _
  rw [if_pos h, hx]; rfl
theorem od_even {ws : List Str} {i : Nat} (h : ¬ i % 2 = 1) : od ws (i + 1) = od ws i := if_neg h
theorem ev_odd {ws : List Str} {i : Nat} (h : i % 2 = 1) : ev ws (i + 1) = ev ws i := if_pos h
theorem ev_even {ws : List Str} {i : Nat} {x : Str} (hx : ws[i]? = some x) (h : ¬ i % 2 = 1) : ev ws (i + 1) = ev ws i ++ [x] := by
  show (if i % 2 = 1 then ev ws i else ev ws i ++ [(ws[i]?).getD []]) = _
  rw [if_neg h, hx]; rfl
theorem od_app (l r : List Str) : ∀ i, i ≤ l.length → od (l ++ r) i = od l i
  | 0, _ => rfl
  | i + 1, h => by
    have ih := od_app l r i (by omega)
    show (if i % 2 = 1 then od (l ++ r) i ++ [((l ++ r)[i]?).getD []] else od (l ++ r) i) = (if i % 2 = 1 then od l i ++ [(l[i]?).getD []] else od l i)
    rw [ih, List.getElem?_append_left (by omega)]
theorem ev_app (l r : List Str) : ∀ i, i ≤ l.length → ev (l ++ r) i = ev l i
  | 0, _ => rfl
  | i + 1, h => by
    have ih := ev_app l r i (by omega)
    show (if i % 2 = 1 then ev (l ++ r) i else ev (l ++ r) i ++ [((l ++ r)[i]?).getD []]) = (if i % 2 = 1 then ev l i else ev l i ++ [(l[i]?).getD []])
    rw [ih, List.getElem?_append_left (by omega)]
theorem od_len (ws : List Str) : ∀ i, (od ws i).length ≤ i
  | 0 => Nat.le_refl _
  | i + 1 => by
    have := od_len ws i
    show (if i % 2 = 1 then od ws i ++ [(ws[i]?).getD []] else od ws i).length ≤ _
    split
    · simp; omega
    · omega
theorem ev_len (ws : List Str) : ∀ i, (ev ws i).length ≤ i
  | 0 => Nat.le_refl _
  | i + 1 => by
    have := ev_len ws i
    show (if i % 2 = 1 then ev ws i else ev ws i ++ [(ws[i]?).getD []]).length ≤ _
    split
    · omega
    · simp; omega
theorem od_sum (ws : List Str) : ∀ i, ((od ws i).map List.length).sum ≤ ((ws.take i).map List.length).sum
  | 0 => Nat.le_refl _
  | i + 1 => by
    have ih := od_sum ws i
    have e : ((ws.take (i + 1)).map List.length).sum = ((ws.take i).map List.length).sum + ((ws[i]?).getD []).length := by
      rw [List.take_add_one, List.map_append, List.sum_append]
      cases ws[i]? <;> simp
    rw [e]
    show ((if i % 2 = 1 then od ws i ++ [(ws[i]?).getD []] else od ws i).map List.length).sum ≤ _
    split
    · rw [List.map_append, List.sum_append]
      simp only [List.map_cons, List.map_nil, List.sum_cons, List.sum_nil]
      omega
    · omega
def interl (cs gs : List Str) : Nat → List Str
  | 0 => [(gs[0]?).getD []]
  | i + 1 => interl cs gs i ++ [(cs[i]?).getD [], (gs[i + 1]?).getD []]
theorem interl_len (cs gs : List Str) : ∀ i, (interl cs gs i).length = 2 * i + 1
  | 0 => rfl
  | i + 1 => by show (interl cs gs i ++ [_, _]).length = _; rw [List.length_append, interl_len cs gs i]; simp; omega
theorem interl_od (cs gs : List Str) : ∀ i, i ≤ cs.length → od (interl cs gs i) (2 * i + 1) = cs.take i
  | 0, _ => rfl
  | i + 1, h => by
    have ih := interl_od cs gs i (by omega)
    have hl := interl_len cs gs i
    have e : interl cs gs (i + 1) = interl cs gs i ++ [(cs[i]?).getD [], (gs[i + 1]?).getD []] := rfl
    have hc : cs[i]? = some cs[i] := List.getElem?_eq_getElem (by omega)
    rw [e, show 2 * (i + 1) + 1 = (2 * i + 1 + 1) + 1 by omega, od_even (by omega), od_odd (x := cs[i]) (by rw [List.getElem?_append_right (by omega), hl]; simp [hc]) (by omega), od_app _ _ _ (by omega), ih, List.take_add_one, hc]; rfl
theorem interl_ev (cs gs : List Str) : ∀ i, i + 1 ≤ gs.length → ev (interl cs gs i) (2 * i + 1) = gs.take (i + 1)
  | 0, h => by
    cases gs with
    | nil => simp at h
    | cons g gs => rfl
  | i + 1, h => by
    have ih := interl_ev cs gs i (by omega)
    have hl := interl_len cs gs i
    have e : interl cs gs (i + 1) = interl cs gs i ++ [(cs[i]?).getD [], (gs[i + 1]?).getD []] := rfl
    have hg : gs[i + 1]? = some gs[i + 1] := List.getElem?_eq_getElem (by omega)
    rw [e, show 2 * (i + 1) + 1 = (2 * i + 1 + 1) + 1 by omega, ev_even (x := gs[i + 1]) (by rw [List.getElem?_append_right (by omega), hl, show 2 * i + 1 + 1 - (2 * i + 1) = 1 by omega]; simp [hg]) (by omega), ev_odd (by omega), ev_app _ _ _ (by omega), ih, show gs.take (i + 1 + 1) = gs.take (i + 1) ++ [gs[i + 1]] by (rw [List.take_add_one, hg]; rfl)]
theorem splitC_snoc {c : UInt8} {b : Str} (hb : c ∉ b) : ∀ a : Str, splitC c (a ++ c :: b) = splitC c a ++ [b]
  | [] => by show splitC c (c :: b) = _; rw [splitC_cons, if_pos rfl, splitC_no hb]; rfl
  | x :: a => by
    show splitC c (x :: (a ++ c :: b)) = _
    rw [splitC_cons, splitC_cons, splitC_snoc hb a]
    split
    · rfl
    · cases hs : splitC c a with
      | nil => exact absurd hs (splitC_ne c a)
      | cons w ws => rfl
def bodyP (p : TPlaces) : Nat → Str
  | 0 => []
  | i + 1 => (if 0 < i then bodyP p i ++ (([124] ++ (p.Cuts[i - 1]?).getD []) ++ [124]) else bodyP p i) ++ decD ((p.Groups[i]?).getD 0).toNat
theorem plB_body (p : TPlaces) : ∀ i, plB p i = decD p.Ver.toNat ++ 32 :: bodyP p i
  | 0 => rfl
  | i + 1 => by
    show (if 0 < i then plB p i ++ (([124] ++ (p.Cuts[i - 1]?).getD []) ++ [124]) else plB p i) ++ decD ((p.Groups[i]?).getD 0).toNat = _
    rw [plB_body p i]
    show _ = decD p.Ver.toNat ++ 32 :: ((if 0 < i then bodyP p i ++ (([124] ++ (p.Cuts[i - 1]?).getD []) ++ [124]) else bodyP p i) ++ decD ((p.Groups[i]?).getD 0).toNat)
    split <;> simp
theorem cuts_no (p : TPlaces) (h : goodPlaces p = true) {c : UInt8} (hn : (lowDig c || ([46, 47] : Str).any fun d => ((c.toNat : Int) == (d.toNat : Int))) = false) (i : Nat) : c ∉ (p.Cuts[i]?).getD [] := by
  cases hx : p.Cuts[i]? with
  | none => simp
  | some k =>
    have hk := List.all_eq_true.1 (good_facts h).2.2.2.2.2 k (List.mem_of_getElem? hx)
    rw [goodKey_eq] at hk
    unfold l3Key at hk
    simp only [Bool.and_eq_true] at hk
    exact l3_no hk.2 hn
theorem body_no (p : TPlaces) (h : goodPlaces p = true) : ∀ i, (32 : UInt8) ∉ bodyP p i
  | 0 => by simp [bodyP]
  | i + 1 => by
    have ih := body_no p h i
    show (32 : UInt8) ∉ (if 0 < i then bodyP p i ++ (([124] ++ (p.Cuts[i - 1]?).getD []) ++ [124]) else bodyP p i) ++ decD ((p.Groups[i]?).getD 0).toNat
    refine not_app ?_ (dec_no (by decide))
    split
    · exact not_app ih (not_app (not_app (by decide) (cuts_no p h (by decide) _)) (by decide))
    · exact ih
theorem body_split (p : TPlaces) (h : goodPlaces p = true) : ∀ i, i + 1 ≤ p.Groups.length → splitC 124 (bodyP p (i + 1)) = interl p.Cuts (p.Groups.map fun g => decD g.toNat) i
  | 0, hi => by
    have e : bodyP p 1 = decD ((p.Groups[0]?).getD 0).toNat := rfl
    rw [e, splitC_no (dec_no (by decide))]
    show _ = [((p.Groups.map fun g => decD g.toNat)[0]?).getD []]
    rw [List.getElem?_map, List.getElem?_eq_getElem (by omega)]; rfl
  | i + 1, hi => by
    have ih := body_split p h i (by omega)
    have e : bodyP p (i + 1 + 1) = (bodyP p (i + 1) ++ 124 :: (p.Cuts[i]?).getD []) ++ 124 :: decD ((p.Groups[i + 1]?).getD 0).toNat := by
      show (if 0 < i + 1 then bodyP p (i + 1) ++ (([124] ++ (p.Cuts[i + 1 - 1]?).getD []) ++ [124]) else bodyP p (i + 1)) ++ decD ((p.Groups[i + 1]?).getD 0).toNat = _
      rw [if_pos (by omega), Nat.add_sub_cancel]; simp
    rw [e, splitC_snoc (dec_no (by decide)), splitC_snoc (cuts_no p h (by decide) _), ih]
    show _ = interl p.Cuts _ i ++ [(p.Cuts[i]?).getD [], ((p.Groups.map fun g => decD g.toNat)[i + 1]?).getD []]
    rw [List.getElem?_map, List.getElem?_eq_getElem (show i + 1 < p.Groups.length by omega)]
    simp
def readsI (ws : List Str) : List Int := ws.map fun t => (readI t 0 3).1
def readsOk (ws : List Str) : Bool := ws.all fun t => (readI t 0 3).2
def placeOf (s : Str) : TPlaces := ⟨(readI (Lib.cut s [32]).1 0 50).1, od (splitC 124 (Lib.cut s [32]).2.1) (splitC 124 (Lib.cut s [32]).2.1).length, readsI (ev (splitC 124 (Lib.cut s [32]).2.1) (splitC 124 (Lib.cut s [32]).2.1).length)⟩
def placeOk (s : Str) : Bool := (readI (Lib.cut s [32]).1 0 50).2 && readsOk (ev (splitC 124 (Lib.cut s [32]).2.1) (splitC 124 (Lib.cut s [32]).2.1).length)
def parseP (s : Str) : TPlaces × Bool := if ((!placeOk s || !goodPlaces (placeOf s)) || (placesB (placeOf s) != s)) = true then (noPlaces, false) else (placeOf s, true)
def placeS (a b : Str) : TPlaces := ⟨l1R a, od (splitC 124 b) (splitC 124 b).length, (ev (splitC 124 b) (splitC 124 b).length).map l1R⟩
def parsePS (s : Str) : TPlaces × Bool := match splitC 32 s with
  | [a, b] => if (!goodPlacesS (placeS a b) || (placesB (placeS a b) != s)) = true then (noPlaces, false) else (placeS a b, true)
  | _ => (noPlaces, false)
theorem placesB_body {p : TPlaces} (h : goodPlaces p = true) : ∃ n, p.Groups.length = n + 1 ∧ p.Cuts.length = n ∧ placesB p = decD p.Ver.toNat ++ 32 :: bodyP p (n + 1) := by
  obtain ⟨_, _, _, h4, _, _⟩ := good_facts h
  exact ⟨p.Cuts.length, h4, rfl, by unfold placesB; rw [plB_body, h4]⟩
theorem map_back {p : TPlaces} (h : goodPlaces p = true) {f : Str → Int} (hf : ∀ g : Nat, g ≤ 3 → f (decD g) = (g : Int)) : ((p.Groups.map fun g => decD g.toNat).map f) = p.Groups := by
  rw [List.map_map]
  have := pg_groups h
  conv => rhs; rw [← List.map_id p.Groups]
  refine List.map_congr_left fun g hg => ?_
  obtain ⟨h1, h2⟩ := this g hg
  show f (decD g.toNat) = g
  rw [hf g.toNat (by omega)]; omega
theorem parseP_text {p : TPlaces} (h : goodPlaces p = true) : parseP (placesB p) = (p, true) ∧ parsePS (placesB p) = (p, true) := by
  obtain ⟨hv1, hv2, _, _, _, _⟩ := good_facts h
  obtain ⟨n, hn, hc, hb⟩ := placesB_body h
  have hbs := body_split p h n (by omega)
  have hv : (p.Ver.toNat : Int) = p.Ver := by omega
  have hlen : (splitC 124 (bodyP p (n + 1))).length = 2 * n + 1 := by rw [hbs, interl_len]
  have ho : od (splitC 124 (bodyP p (n + 1))) (splitC 124 (bodyP p (n + 1))).length = p.Cuts := by rw [hlen, hbs, interl_od _ _ n (by omega), List.take_of_length_le (by omega)]
  have he : ev (splitC 124 (bodyP p (n + 1))) (splitC 124 (bodyP p (n + 1))).length = p.Groups.map fun g => decD g.toNat := by rw [hlen, hbs, interl_ev _ _ n (by rw [List.length_map]; omega), List.take_of_length_le (by rw [List.length_map]; omega)]
  have hrd : ∀ g : Nat, g ≤ 3 → readI (decD g) 0 3 = ((g : Int), true) := fun g hg => readI_dec (by omega) (by unfold within; simp; omega)
  have hr1 : readsI (p.Groups.map fun g => decD g.toNat) = p.Groups := map_back h fun g hg => by rw [hrd g hg]
  have hr2 : readsOk (p.Groups.map fun g => decD g.toNat) = true := by
    unfold readsOk
    rw [List.all_map, List.all_eq_true]
    intro g hg
    have := pg_groups h g hg
    show (readI (decD g.toNat) 0 3).2 = true
    rw [hrd g.toNat (by omega)]
  have hrv : readI (decD p.Ver.toNat) 0 50 = (p.Ver, true) := by rw [readI_dec (by omega) (by unfold within; simp; omega), hv]
  have hcut : Lib.cut (placesB p) [32] = (decD p.Ver.toNat, bodyP p (n + 1), true) := by rw [hb, cut_at _ (dec_no (by decide))]
  have hp : placeOf (placesB p) = p := by
    unfold placeOf
    rw [hcut]
    dsimp only
    rw [ho, he, hrv, hr1]
  have hok : placeOk (placesB p) = true := by
    unfold placeOk
    rw [hcut]
    dsimp only
    rw [he, hrv, hr2]; rfl
  have hsp : splitC 32 (placesB p) = [decD p.Ver.toNat, bodyP p (n + 1)] := by rw [hb, splitC_app _ (dec_no (by decide)), splitC_no (body_no p h _)]
  have hps : placeS (decD p.Ver.toNat) (bodyP p (n + 1)) = p := by
    unfold placeS
    rw [ho, he, l1R_dec (by omega), hv, map_back h fun g hg => l1R_dec (by omega)]
  constructor
  · unfold parseP
    rw [hp, hok, h, if_neg (by simp)]
  · unfold parsePS
    rw [hsp]
    dsimp only
    rw [hps, ← goodPlaces_eq, h, if_neg (by simp)]
theorem parseP_cases (s : Str) : parseP s = (noPlaces, false) ∨ ((parseP s).2 = true ∧ goodPlaces (parseP s).1 = true ∧ placesB (parseP s).1 = s) := by
  unfold parseP
  split
  · exact .inl rfl
  · rename_i h
    refine .inr ⟨rfl, ?_⟩
    simp only [Bool.or_eq_true, Bool.not_eq_true', bne_iff_ne, not_or, Bool.not_eq_false, Decidable.not_not] at h
    exact ⟨by simpa using h.1.2, by simpa using h.2⟩
theorem parsePS_cases (s : Str) : parsePS s = (noPlaces, false) ∨ ((parsePS s).2 = true ∧ goodPlaces (parsePS s).1 = true ∧ placesB (parsePS s).1 = s) := by
  unfold parsePS
  split
  · split
    · exact .inl rfl
    · rename_i h
      refine .inr ⟨rfl, ?_⟩
      simp only [Bool.or_eq_true, Bool.not_eq_true', bne_iff_ne, not_or, Bool.not_eq_false, Decidable.not_not] at h
      rw [goodPlaces_eq]
      exact ⟨by simpa using h.1, by simpa using h.2⟩
  · exact .inl rfl
theorem parseP_eq (s : Str) : parseP s = parsePS s := by
  rcases parseP_cases s with h | ⟨_, h2, h3⟩
  · rcases parsePS_cases s with k | ⟨_, k2, k3⟩
    · rw [h, k]
    · have := parseP_text k2
      rw [k3] at this
      rw [this.1, this.2]
  · have := parseP_text h2
    rw [h3] at this
    rw [this.1, this.2]
end Go.M

set_option linter.unusedVariables false
set_option linter.unusedSimpArgs false
set_option maxRecDepth 100000
set_option maxHeartbeats 1000000
namespace Go.M
open Go.AV
theorem splitC_cnt {c : UInt8} : ∀ s : Str, (splitC c s).length ≤ s.length + 1
  | [] => by simp [splitC]
  | b :: s => by
    have ih := splitC_cnt (c := c) s
    rw [splitC_cons]
    split
    · simp; omega
    · cases hs : splitC c s with
      | nil => exact absurd hs (splitC_ne c s)
      | cons w ws => rw [hs] at ih; simp [addP] at ih ⊢; omega
theorem sumT (l : List Str) : sizeL (fun x : Str => x.length) l = l.length + (l.map List.length).sum := rfl
theorem place_size (ws : List Str) (n : Nat) (hc : ws.length ≤ n + 1) (hs : (ws.map List.length).sum ≤ n) (v : Int) (f : Str → Int) (i : Nat) : (TPlaces.size ⟨v, od ws i, (ev ws i).map f⟩) ≤ 2 * i + n := by
  unfold TPlaces.size
  dsimp only
  rw [sumT, List.length_map]
  have h1 := od_len ws i
  have h2 := ev_len ws i
  have h3 := od_sum ws i
  have h4 : ((ws.take i).map List.length).sum ≤ (ws.map List.length).sum := by
    conv => rhs; rw [← List.take_append_drop i ws]
    rw [List.map_append, List.sum_append]; omega
  omega
theorem all_snoc (f : Str → Bool) (l : List Str) (x : Str) : (l ++ [x]).all f = (l.all f && f x) := by simp [List.all_append]
theorem mod2 (i : Nat) : ((i : Int).tmod 2 == 1) = decide (i % 2 = 1) := by
  rw [show (i : Int).tmod 2 = ((i % 2 : Nat) : Int) from rfl]
  by_cases h : i % 2 = 1
  · rw [h]; rfl
  · have h2 : i % 2 = 0 := by omega
    rw [h2]; rfl
theorem parsePS_not {s : Str} (h : (splitC 32 s).length ≠ 2) : parsePS s = (noPlaces, false) := by
  unfold parsePS
  split
  · rename_i e; rw [e] at h; exact absurd rfl h
  · rfl
theorem parsePS_two {s a b : Str} (h : splitC 32 s = [a, b]) : parsePS s = if (!goodPlacesS (placeS a b) || (placesB (placeS a b) != s)) = true then (noPlaces, false) else (placeS a b, true) := by unfold parsePS; rw [h]
end Go.M
namespace Go.AV
section
variable {P : Program} {G : Nat → Prop} {n : Nat} {own : List Own}
end
end Go.AV
namespace Go.Proofs.YtdgoejkijpllpaaGreatDoor
open Go Go.AV Go.M
attribute [local irreducible] OpW OpA OpS AWP FSpec ESpec GSpec OpE RetOk RetOkG RvDen Le Ev GuardIs SrcIs Int.tmod Int.tdiv IntKind.wrap
theorem readPlaces_own (s : Str) (hs : s.length ≤ 1048576) : GSpec Tryz.prog 9 [AV.wt readW (AV.str s)] [] (fun _ : Value × Value => True) (fun x => TPlaces.ow (parseP s).1 x) (fun x => AV.tup [AV.agg (TPlaces.ocs (parseP s).1 x), AV.bool (parseP s).2]) := by
  have hcl := cutL_len s 32
  refine gspec_of_awp Tryz.func9 rfl Tryz.ntmps9 rfl ?_
  refine AWP.le (le_tab (t := 0) rfl) ?_
  refine awp_seq ?_
  refine awp_region ?_
  refine sq_alloc rfl rfl rfl rfl Tryz.zeroValue26 rfl ?_
  intro b2
  refine sq_plain rfl rfl rfl (w_assign rfl ev_cb) ?_
  refine sq_nil ?_
  refine awp_seq ?_
  refine awp_region ?_
  refine sq_plain rfl rfl rfl (w_move rfl (ev_tmp rfl)) ?_
  refine sq_plain rfl rfl rfl (w_callT 1 rfl rfl Tryz.call25 rfl (cut_spec s 32 hs) (evl_cons (ev_tmp rfl) (evl_cons (ev_cs' (l := [32]) rfl) evl_nil)) (by first | exact fun _ h => h | exact fun _ h => h.1)) ?_
  refine sq_plain rfl rfl rfl (w_move rfl (ev_tmp rfl)) ?_
  refine sq_plain rfl rfl rfl (w_extract rfl (ev_tmp rfl) rfl) ?_
  refine sq_plain rfl rfl rfl (w_extract rfl (ev_tmp rfl) rfl) ?_
  refine sq_plain rfl rfl rfl (w_extract rfl (ev_tmp rfl) rfl) ?_
  refine sq_plain rfl rfl rfl (w_assign rfl (ev_tmp rfl)) ?_
  refine sq_plain rfl rfl rfl (w_assign rfl (ev_tmp rfl)) ?_
  refine sq_plain rfl rfl rfl (w_assign rfl (ev_tmp rfl)) ?_
  refine sq_nil ?_
  refine awp_seq ?_
  refine awp_region ?_
  refine sq_plain rfl rfl rfl (w_move rfl (ev_tmp rfl)) ?_
  refine sq_plain rfl rfl rfl (w_callT 1 rfl rfl Tryz.call26 rfl (readInt_spec _ 0 50 (by omega)) (evl_cons (ev_tmp rfl) (evl_cons ev_ci (evl_cons ev_ci evl_nil))) (by first | exact fun _ h => h | exact fun _ h => h.1)) ?_
  refine sq_plain rfl rfl rfl (w_move rfl (ev_tmp rfl)) ?_
  refine sq_plain rfl rfl rfl (w_extract rfl (ev_tmp rfl) rfl) ?_
  refine sq_plain rfl rfl rfl (w_extract rfl (ev_tmp rfl) rfl) ?_
  refine sq_plain rfl rfl rfl (w_assign rfl (ev_tmp rfl)) ?_
  refine sq_plain rfl rfl rfl (w_assign rfl (ev_tmp rfl)) ?_
  refine sq_nil ?_
  refine awp_seq ?_
  refine awp_region ?_
  refine sq_plain rfl rfl rfl (w_move rfl (ev_tmp rfl)) ?_
  refine sq_plain rfl rfl rfl (w_build (places := #[(0, 1), (1, 1), (2, 1)]) rfl Tryz.underlying26 Tryz.zeroValue26 (fun w => by kernel_rfl) rfl (bp_cons (ev_tmp rfl) (as_ik _ _) bp_nil) rfl) ?_
  refine sq_alloc rfl rfl rfl rfl Tryz.zeroValue26 rfl ?_
  intro b9
  refine sq_storeB0 0 rfl rfl rfl (ev_tmp rfl) (ev_tmp rfl) (as_agg _) rfl Tryz.sizeOf26 rfl ?_
  refine sq_nil ?_
  refine awp_seq ?_
  refine awp_seq ?_
  refine awp_region ?_
  refine sq_plain rfl rfl rfl (w_move rfl (ev_tmp rfl)) ?_
  refine sq_plain rfl rfl rfl (w_callT 2 rfl rfl Tryz.call27 rfl (split_spec _ 124 (by omega)) (evl_cons (ev_tmp rfl) (evl_cons (ev_cs' (l := [124]) rfl) evl_nil)) (by first | exact fun _ h => h | exact fun _ h => h.1)) ?_
  obtain ⟨ws, hws⟩ : ∃ ws, splitC 124 (Lib.cut s [32]).2.1 = ws := ⟨_, rfl⟩
  have hwl := splitC_cnt (c := 124) (Lib.cut s [32]).2.1
  have hwsum := splitC_sum (c := 124) (Lib.cut s [32]).2.1
  rw [hws] at hwl hwsum
  rw [hws]
  refine sq_plain rfl rfl rfl (w_llen rfl Tryz.underlying23 (ev_tmp rfl)) ?_
  refine sq_plain rfl rfl rfl (w_move rfl ev_ci) ?_
  refine sq_nil ?_
  refine awp_block ?_
  refine awp_own (by first | (simp only [id, pick, List.eraseIdx_cons_zero, List.eraseIdx_cons_succ, List.set_cons_zero, List.set_cons_succ, List.cons_append, List.nil_append, List.getElem?_cons_zero, List.getElem?_cons_succ, List.append_nil, List.take_succ_cons, List.take_zero, List.drop_succ_cons, List.drop_zero]; exact rfl) | exact rfl) ?_
  refine awp_nilown 9 1 ?_
  refine awp_nilown 3 1 ?_
  refine AWP.le (le_pick [2, 1, 0] rfl) ?_
  refine awp_loop_i4 [(0, _), (2, _), (3, _), (9, _), (28, _), (29, _)] _ (fun (i : Nat) (ok : Bool) (vc : Value) (vg : Value) => i ≤ ws.length ∧ ok = ((readI (Lib.cut s [32]).1 0 50).2 && readsOk (ev ws i))) (fun (i : Nat) (ok : Bool) (vc : Value) (vg : Value) => [.box b9 26 [AV.int (readI (Lib.cut s [32]).1 0 50).1, AV.is vc, AV.is vg], .arr vc 9 1 ((od ws i).map fun x => [AV.str x]), .arr vg 3 1 ((readsI (ev ws i)).map fun x => [AV.int x])]) (fun (i : Nat) (ok : Bool) (vc : Value) (vg : Value) => [(8, AV.bool ok), (30, AV.int i)]) (fun (i : Nat) (ok : Bool) (vc : Value) (vg : Value) => ws.length - i) (0) ((readI (Lib.cut s [32]).1 0 50).2) ((Value.slice none 0 0)) ((Value.slice none 0 0)) ?_ (le_eq (by rfl) ⟨rfl, rfl, rfl, rfl, rfl, rfl, rfl, rfl, trivial⟩) ?_
  · exact ⟨Nat.zero_le _, by simp [readsOk, ev]⟩
  intro i ok vc vg hinv
  have hol := od_len ws i
  have hel := ev_len ws i
  have hrl : (readsI (ev ws i)).length = (ev ws i).length := List.length_map ..
  refine awp_seq ?_
  refine awp_region ?_
  refine sq_plain rfl rfl rfl (w_lss rfl (ev_tmp rfl) (ev_tmp rfl)) ?_
  refine sq_nil ?_
  refine awp_seq ?_
  refine awp_cond (ev_tmp rfl) ?_ ?_
  · intro h31
    have k31 := of_decide_eq_true h31; try simp only [List.length_map] at k31
    obtain ⟨x, hx⟩ := get_some (show i < ws.length by omega)
    have hxl : x.length ≤ s.length := (by (have h9 := splitC_len (c := 124) (s := (Lib.cut s [32]).2.1) (w := x) (by rw [hws]; exact List.mem_of_getElem? hx)); omega)
    refine awp_skip ?_
    refine awp_seq ?_
    refine awp_block ?_
    refine awp_seq ?_
    refine awp_region ?_
    refine sq_plain rfl rfl rfl (w_move rfl (ev_tmp rfl)) ?_
    refine sq_plain rfl rfl rfl (w_idxm rfl Tryz.underlying23 Tryz.sizeOf9 (ev_tmp rfl) (ev_tmp rfl) hx (by first | omega | ((try simp only [List.length_map, List.length_take, List.length_cons, List.length_nil, chunks_len, szR] at *); omega) | (have hc2 := hc; simp only [Bool.and_eq_true, Bool.or_eq_true, Bool.or_eq_false_iff, Bool.and_eq_false_iff, Bool.not_eq_true', Bool.not_eq_false', decide_eq_true_eq, decide_eq_false_iff_not, beq_iff_eq, bne_iff_ne, List.length_map, List.length_take] at hc2; omega))) ?_
    refine sq_plain rfl rfl rfl (w_loadE1 rfl (ev_tmp rfl) Tryz.isAgg9 rfl) ?_
    refine sq_plain rfl rfl rfl (w_assign rfl (ev_tmp rfl)) ?_
    refine sq_plain rfl rfl rfl (w_assign rfl (ev_tmp rfl)) ?_
    refine sq_nil ?_
    refine awp_seq ?_
    refine awp_seq ?_
    refine awp_region ?_
    refine sq_plain rfl rfl rfl (w_move rfl (ev_tmp rfl)) ?_
    refine sq_plain rfl rfl rfl (w_rem rfl (ev_tmp rfl) ev_ci (by decide)) ?_
    refine sq_plain rfl rfl rfl (w_eql rfl (ev_tmp rfl) ev_ci) ?_
    refine sq_nil ?_
    refine awp_cond (ev_tmp rfl) ?_ ?_
    · intro h37
      have k37 := eq_of_beqt h37; try simp only [List.length_map] at k37
      have hodd : i % 2 = 1 := (by rw [mod2] at h37; simpa using h37)
      refine awp_seq ?_
      refine awp_region ?_
      refine sq_plain rfl rfl rfl (w_fldBn 1 rfl Tryz.underlying26 rfl Tryz.sizeOf23 (ev_tmp rfl) rfl) ?_
      refine sq_plain rfl rfl rfl (w_loadB1 0 rfl (ev_tmp rfl) rfl Tryz.isAgg23 rfl) ?_
      refine sq_plain rfl rfl rfl (w_move rfl (ev_tmp rfl)) ?_
      refine sq_plain rfl rfl rfl (w_bslice rfl Tryz.underlying23 Tryz.sizeOf9 Tryz.zeroValue9 rfl rfl rfl rfl (bp_cons (ev_tmp rfl) (as_str _) bp_nil) rfl rfl) ?_
      refine sq_append (by' := 16) 1 rfl rfl rfl rfl Tryz.underlying23 Tryz.type9 rfl rfl rfl rfl rfl rfl (ev_tmp rfl) (ev_tmp rfl) rfl (by first | omega | ((try simp only [List.length_map, List.length_take, List.length_cons, List.length_nil, chunks_len, szR] at *); omega) | (have hc2 := hc; simp only [Bool.and_eq_true, Bool.or_eq_true, Bool.or_eq_false_iff, Bool.and_eq_false_iff, Bool.not_eq_true', Bool.not_eq_false', decide_eq_true_eq, decide_eq_false_iff_not, beq_iff_eq, bne_iff_ne, List.length_map, List.length_take] at hc2; omega)) ?_
      intro v42_1
      refine sq_plain rfl rfl rfl (w_fldBn 1 rfl Tryz.underlying26 rfl Tryz.sizeOf23 (ev_tmp rfl) rfl) ?_
      refine sq_fact 1 rfl fun one_v42_1 => ?_
      refine sq_storeB1 0 rfl rfl rfl (ev_tmp rfl) (ev_tmp rfl) (as_is one_v42_1) rfl Tryz.sizeOf23 rfl ?_
      refine sq_nil ?_
      refine awp_exit ?_
      refine awp_region ?_
      refine sq_plain rfl rfl rfl (w_addi rfl (ev_tmp rfl) ev_ci (by first | omega | ((try simp only [List.length_map, List.length_take, List.length_cons, List.length_nil, chunks_len, szR] at *); omega) | (have hc2 := hc; simp only [Bool.and_eq_true, Bool.or_eq_true, Bool.or_eq_false_iff, Bool.and_eq_false_iff, Bool.not_eq_true', Bool.not_eq_false', decide_eq_true_eq, decide_eq_false_iff_not, beq_iff_eq, bne_iff_ne, List.length_map, List.length_take] at hc2; omega))) ?_
      refine sq_plain rfl rfl rfl (w_move rfl (ev_tmp rfl)) ?_
      refine sq_nil ?_
      refine round_end4 i ok vc vg (i + 1) (ok) (v42_1) (vg) ?_ ?_ (Le.trans (le_pick [0, 0, 0] rfl) (le_eq (by first | (rw [od_odd hx hodd, ev_odd hodd, List.map_append]; rfl) | (rw [od_even hodd, ev_even hx hodd]; unfold readsI; rw [List.map_append, List.map_append]; rfl)) ⟨rfl, rfl, rfl, rfl, rfl, rfl, rfl, rfl, trivial⟩))
      · exact ⟨by omega, by rw [ev_odd hodd]; exact hinv.2⟩
      · omega
    · intro h37
      have k37 := ne_of_beqf h37; try simp only [List.length_map] at k37
      have hodd : ¬ i % 2 = 1 := (by rw [mod2] at h37; simpa using h37)
      refine awp_skip ?_
      refine awp_seq ?_
      refine awp_region ?_
      refine sq_plain rfl rfl rfl (w_move rfl (ev_tmp rfl)) ?_
      refine sq_plain rfl rfl rfl (w_callT 4 rfl rfl Tryz.call26 rfl (readInt_spec x 0 3 (by omega)) (evl_cons (ev_tmp rfl) (evl_cons ev_ci (evl_cons ev_ci evl_nil))) (by first | exact fun _ h => h | exact fun _ h => h.1)) ?_
      refine sq_plain rfl rfl rfl (w_move rfl (ev_tmp rfl)) ?_
      refine sq_plain rfl rfl rfl (w_extract rfl (ev_tmp rfl) rfl) ?_
      refine sq_plain rfl rfl rfl (w_extract rfl (ev_tmp rfl) rfl) ?_
      refine sq_plain rfl rfl rfl (w_assign rfl (ev_tmp rfl)) ?_
      refine sq_plain rfl rfl rfl (w_assign rfl (ev_tmp rfl)) ?_
      refine sq_nil ?_
      refine awp_seq ?_
      refine awp_region ?_
      refine sq_plain rfl rfl rfl (w_move rfl (ev_tmp rfl)) ?_
      refine sq_plain rfl rfl rfl (w_move rfl (ev_tmp rfl)) ?_
      refine sq_grd rfl rfl (guard_t rfl rfl rfl) (fun hc => w_move rfl (ev_tmp rfl)) ?_
      refine sq_plain rfl rfl rfl (w_and rfl (ev_tmp rfl) (evif_w rfl)) ?_
      refine sq_plain rfl rfl rfl (w_assign rfl (ev_tmp rfl)) ?_
      refine sq_nil ?_
      refine awp_region ?_
      refine sq_plain rfl rfl rfl (w_fldBn 2 rfl Tryz.underlying26 rfl Tryz.sizeOf24 (ev_tmp rfl) rfl) ?_
      refine sq_plain rfl rfl rfl (w_loadB1 0 rfl (ev_tmp rfl) rfl Tryz.isAgg24 rfl) ?_
      refine sq_plain rfl rfl rfl (w_move rfl (ev_tmp rfl)) ?_
      refine sq_plain rfl rfl rfl (w_bslice rfl Tryz.underlying24 Tryz.sizeOf3 Tryz.zeroValue3 rfl rfl rfl rfl (bp_cons (ev_tmp rfl) (as_ik _ _) bp_nil) rfl rfl) ?_
      refine sq_append (by' := 8) 2 rfl rfl rfl rfl Tryz.underlying24 Tryz.type3 rfl rfl rfl rfl rfl rfl (ev_tmp rfl) (ev_tmp rfl) rfl (by first | omega | ((try simp only [List.length_map, List.length_take, List.length_cons, List.length_nil, chunks_len, szR] at *); omega) | (have hc2 := hc; simp only [Bool.and_eq_true, Bool.or_eq_true, Bool.or_eq_false_iff, Bool.and_eq_false_iff, Bool.not_eq_true', Bool.not_eq_false', decide_eq_true_eq, decide_eq_false_iff_not, beq_iff_eq, bne_iff_ne, List.length_map, List.length_take] at hc2; omega)) ?_
      intro v57_2
      refine sq_plain rfl rfl rfl (w_fldBn 2 rfl Tryz.underlying26 rfl Tryz.sizeOf24 (ev_tmp rfl) rfl) ?_
      refine sq_fact 2 rfl fun one_v57_2 => ?_
      refine sq_storeB1 0 rfl rfl rfl (ev_tmp rfl) (ev_tmp rfl) (as_is one_v57_2) rfl Tryz.sizeOf24 rfl ?_
      refine sq_nil ?_
      refine awp_region ?_
      refine sq_plain rfl rfl rfl (w_addi rfl (ev_tmp rfl) ev_ci (by first | omega | ((try simp only [List.length_map, List.length_take, List.length_cons, List.length_nil, chunks_len, szR] at *); omega) | (have hc2 := hc; simp only [Bool.and_eq_true, Bool.or_eq_true, Bool.or_eq_false_iff, Bool.and_eq_false_iff, Bool.not_eq_true', Bool.not_eq_false', decide_eq_true_eq, decide_eq_false_iff_not, beq_iff_eq, bne_iff_ne, List.length_map, List.length_take] at hc2; omega))) ?_
      refine sq_plain rfl rfl rfl (w_move rfl (ev_tmp rfl)) ?_
      refine sq_nil ?_
      refine round_end4 i ok vc vg (i + 1) (ok && (readI x 0 3).2) (vc) (v57_2) ?_ ?_ (Le.trans (le_pick [0, 0, 0] rfl) (le_eq (by first | (rw [od_odd hx hodd, ev_odd hodd, List.map_append]; rfl) | (rw [od_even hodd, ev_even hx hodd]; unfold readsI; rw [List.map_append, List.map_append]; rfl)) ⟨rfl, rfl, rfl, rfl, rfl, rfl, rfl, rfl, trivial⟩))
      · exact ⟨by omega, by rw [ev_even hx hodd, hinv.2]; unfold readsOk; rw [all_snoc, Bool.and_assoc]⟩
      · omega
  · intro h31
    have k31 := of_decide_eq_false h31; try simp only [List.length_map] at k31
    have hin : i = ws.length := by omega
    subst hin
    have hpo : placeOf s = ⟨(readI (Lib.cut s [32]).1 0 50).1, od ws ws.length, readsI (ev ws ws.length)⟩ := (by unfold placeOf; rw [hws])
    have hok : placeOk s = ok := (by unfold placeOk; rw [hws]; exact hinv.2.symm)
    have hpz := place_size ws (Lib.cut s [32]).2.1.length hwl hwsum (readI (Lib.cut s [32]).1 0 50).1 (fun t => (readI t 0 3).1) ws.length
    refine awp_exit ?_
    refine awp_seq ?_
    refine awp_seq ?_
    refine awp_region ?_
    refine sq_plain rfl rfl rfl (w_move rfl (ev_tmp rfl)) ?_
    refine sq_plain rfl rfl rfl (w_not rfl (ev_tmp rfl)) ?_
    refine sq_plain rfl rfl rfl (w_move rfl (ev_tmp rfl)) ?_
    refine sq_grd rfl rfl (guard_f rfl rfl rfl) (fun hc => w_loadA 0 rfl (ev_tmp rfl) rfl Tryz.isAgg26 Tryz.sizeOf26 rfl) ?_
    refine sq_grd rfl rfl (guard_f rfl rfl rfl) (fun hc => w_callB rfl Tryz.call17 rfl (goodPlaces_spec ⟨(readI (Lib.cut s [32]).1 0 50).1, od ws ws.length, readsI (ev ws ws.length)⟩ (Nat.le_trans hpz (by omega))) (flat_bool _) (evlb_cons (evb_lt (ev_whn rfl hc) (lt_agg (lc_cons lt_refl (lc_cons (lt_arr (List.mem_of_getElem? (i := 1) rfl) le_refl_e) (lc_cons (lt_arr (List.mem_of_getElem? (i := 2) rfl) le_refl_e) lc_nil))))) evlb_nil)) ?_
    refine sq_grd rfl rfl (guard_f rfl rfl rfl) (fun hc => w_not rfl (ev_whn rfl hc)) ?_
    refine sq_plain rfl rfl rfl (w_or rfl (ev_tmp rfl) (evif_w rfl)) ?_
    refine sq_plain rfl rfl rfl (w_move rfl (ev_tmp rfl)) ?_
    refine sq_grd rfl rfl (guard_f rfl rfl rfl) (fun hc => w_loadA 0 rfl (ev_tmp rfl) rfl Tryz.isAgg26 Tryz.sizeOf26 rfl) ?_
    refine sq_grd rfl rfl (guard_f rfl rfl rfl) (fun hc => w_callB rfl Tryz.call24 rfl (placesText_spec ⟨(readI (Lib.cut s [32]).1 0 50).1, od ws ws.length, readsI (ev ws ws.length)⟩ (Nat.le_trans hpz (by omega)) (by simp only [Bool.not_eq_true', Bool.or_eq_false_iff, Bool.not_eq_false'] at hc; exact hc.2)) (flat_str _) (evlb_cons (evb_lt (ev_whn rfl hc) (lt_agg (lc_cons lt_refl (lc_cons (lt_arr (List.mem_of_getElem? (i := 1) rfl) le_refl_e) (lc_cons (lt_arr (List.mem_of_getElem? (i := 2) rfl) le_refl_e) lc_nil))))) evlb_nil)) ?_
    refine sq_grd rfl rfl (guard_f rfl rfl rfl) (fun hc => w_move rfl (ev_tmp rfl)) ?_
    refine sq_grd rfl rfl (guard_f rfl rfl rfl) (fun hc => w_sneq rfl (ev_whn rfl hc) (ev_whn rfl hc)) ?_
    refine sq_plain rfl rfl rfl (w_or rfl (ev_tmp rfl) (evif_w rfl)) ?_
    refine sq_nil ?_
    refine awp_cond (ev_tmp rfl) ?_ ?_
    · intro h72
      have he : parseP s = (noPlaces, false) := if_pos (by rw [hok, hpo]; exact h72)
      rw [he]
      refine awp_seq ?_
      refine awp_region ?_
      refine sq_plain rfl rfl rfl (w_build (places := #[(0, 1), (1, 1), (2, 1)]) rfl Tryz.underlying26 Tryz.zeroValue26 (fun w => by kernel_rfl) rfl bp_nil rfl) ?_
      refine sq_storeB0 3 rfl rfl rfl (ev_tmp rfl) (ev_tmp rfl) (as_agg _) rfl Tryz.sizeOf26 rfl ?_
      refine sq_plain rfl rfl rfl (w_assign rfl ev_cb) ?_
      refine sq_nil ?_
      refine awp_ret ?_
      refine retG_nil 9 1 ?_
      refine retG_nil 3 1 ?_
      exact retG [1, 0] ((Value.slice none 0 0), (Value.slice none 0 0)) (trivial) rfl (by rfl) (resN rfl (by decide) (rv_cons (rv_cell (ys := _) 5 rfl rfl Tryz.isAgg26 Tryz.sizeOf26 rfl) (rv_cons (rv_tmp' rfl (by rfl)) rv_nil)))
    · intro h72
      have he : parseP s = (placeOf s, true) := if_neg (by rw [hok, hpo, h72]; decide)
      rw [he, hpo]
      refine awp_skip ?_
      refine awp_seq ?_
      refine awp_region ?_
      refine sq_plain rfl rfl rfl (w_loadA 0 rfl (ev_tmp rfl) rfl Tryz.isAgg26 Tryz.sizeOf26 rfl) ?_
      refine sq_storeB0 3 rfl rfl rfl (ev_tmp rfl) (ev_tmp rfl) (as_agg _) rfl Tryz.sizeOf26 rfl ?_
      refine sq_plain rfl rfl rfl (w_assign rfl ev_cb) ?_
      refine sq_nil ?_
      refine awp_ret ?_
      exact retG [1, 1] (vc, vg) (trivial) rfl (by rfl) (resN rfl (by decide) (rv_cons (rv_cell (ys := _) 3 rfl rfl Tryz.isAgg26 Tryz.sizeOf26 rfl) (rv_cons (rv_tmp' rfl (by rfl)) rv_nil)))
theorem readPlacesS_own (s : Str) (hs : s.length ≤ 1048576) : GSpec Tryz.prog 14 [AV.str s] [] (fun _ : Value × Value => True) (fun x => TPlaces.ow (parsePS s).1 x) (fun x => AV.tup [AV.agg (TPlaces.ocs (parsePS s).1 x), AV.bool (parsePS s).2]) := by
  refine gspec_of_awp Tryz.func14 rfl Tryz.ntmps14 rfl ?_
  refine awp_seq ?_
  refine awp_region ?_
  refine sq_alloc rfl rfl rfl rfl Tryz.zeroValue26 rfl ?_
  intro b2
  refine sq_plain rfl rfl rfl (w_assign rfl ev_cb) ?_
  refine sq_nil ?_
  refine awp_seq ?_
  refine awp_region ?_
  refine sq_plain rfl rfl rfl (w_move rfl (ev_tmp rfl)) ?_
  refine sq_plain rfl rfl rfl (w_call rfl Tryz.call36 rfl (l1Split_spec s 32 hs) (evl_cons (ev_tmp rfl) (evl_cons ev_ci evl_nil))) ?_
  refine sq_plain rfl rfl rfl (w_assign rfl (ev_tmp rfl)) ?_
  refine sq_nil ?_
  refine awp_seq ?_
  refine awp_seq ?_
  refine awp_region ?_
  refine sq_plain rfl rfl rfl (w_move rfl (ev_tmp rfl)) ?_
  refine sq_plain rfl rfl rfl (w_llen rfl Tryz.underlying23 (ev_tmp rfl)) ?_
  refine sq_plain rfl rfl rfl (w_neq rfl (ev_tmp rfl) ev_ci) ?_
  refine sq_nil ?_
  refine awp_cond (ev_tmp rfl) ?_ ?_
  · intro h12
    have k12 := ne_of_bne h12; try simp only [List.length_map] at k12
    have he := parsePS_not (s := s) (by omega)
    rw [he]
    refine awp_seq ?_
    refine awp_region ?_
    refine sq_plain rfl rfl rfl (w_build (places := #[(0, 1), (1, 1), (2, 1)]) rfl Tryz.underlying26 Tryz.zeroValue26 (fun w => by kernel_rfl) rfl bp_nil rfl) ?_
    refine sq_storeB0 0 rfl rfl rfl (ev_tmp rfl) (ev_tmp rfl) (as_agg _) rfl Tryz.sizeOf26 rfl ?_
    refine sq_plain rfl rfl rfl (w_assign rfl ev_cb) ?_
    refine sq_nil ?_
    refine awp_ret ?_
    refine retG_nil 9 1 ?_
    refine retG_nil 3 1 ?_
    exact retG [1, 0] ((Value.slice none 0 0), (Value.slice none 0 0)) (trivial) rfl (by rfl) (resN rfl (by decide) (rv_cons (rv_cell (ys := _) 2 rfl rfl Tryz.isAgg26 Tryz.sizeOf26 rfl) (rv_cons (rv_tmp' rfl (by rfl)) rv_nil)))
  · intro h12
    have k12 := eq_of_bne_false h12; try simp only [List.length_map] at k12
    obtain ⟨a, b, hw⟩ := two_of (l := splitC 32 s) (by omega)
    have he := parsePS_two hw
    rw [he, hw]
    have hla : a.length ≤ s.length := splitC_len (c := 32) (by rw [hw]; exact List.mem_cons_self)
    have hlb : b.length ≤ s.length := splitC_len (c := 32) (by rw [hw]; exact List.mem_cons_of_mem _ List.mem_cons_self)
    refine awp_skip ?_
    refine awp_seq ?_
    refine awp_region ?_
    refine sq_plain rfl rfl rfl (w_move rfl (ev_tmp rfl)) ?_
    refine sq_plain rfl rfl rfl (w_idxm rfl Tryz.underlying23 Tryz.sizeOf9 (ev_tmp rfl) ev_ci (show [a, b][0]? = some a from rfl) (by first | omega | ((try simp only [List.length_map, List.length_take, List.length_cons, List.length_nil, chunks_len, szR] at *); omega) | (have hc2 := hc; simp only [Bool.and_eq_true, Bool.or_eq_true, Bool.or_eq_false_iff, Bool.and_eq_false_iff, Bool.not_eq_true', Bool.not_eq_false', decide_eq_true_eq, decide_eq_false_iff_not, beq_iff_eq, bne_iff_ne, List.length_map, List.length_take] at hc2; omega))) ?_
    refine sq_plain rfl rfl rfl (w_loadE1 rfl (ev_tmp rfl) Tryz.isAgg9 rfl) ?_
    refine sq_plain rfl rfl rfl (w_call rfl Tryz.call37 rfl (l1Read_spec a (by omega)) (evl_cons (ev_tmp rfl) evl_nil)) ?_
    refine sq_plain rfl rfl rfl (w_build (places := #[(0, 1), (1, 1), (2, 1)]) rfl Tryz.underlying26 Tryz.zeroValue26 (fun w => by kernel_rfl) rfl (bp_cons (ev_tmp rfl) (as_ik _ _) bp_nil) rfl) ?_
    refine sq_alloc rfl rfl rfl rfl Tryz.zeroValue26 rfl ?_
    intro b5
    refine sq_storeB0 0 rfl rfl rfl (ev_tmp rfl) (ev_tmp rfl) (as_agg _) rfl Tryz.sizeOf26 rfl ?_
    refine sq_nil ?_
    refine awp_seq ?_
    refine awp_seq ?_
    refine awp_region ?_
    refine sq_plain rfl rfl rfl (w_move rfl (ev_tmp rfl)) ?_
    refine sq_plain rfl rfl rfl (w_idxm rfl Tryz.underlying23 Tryz.sizeOf9 (ev_tmp rfl) ev_ci (show [a, b][1]? = some b from rfl) (by first | omega | ((try simp only [List.length_map, List.length_take, List.length_cons, List.length_nil, chunks_len, szR] at *); omega) | (have hc2 := hc; simp only [Bool.and_eq_true, Bool.or_eq_true, Bool.or_eq_false_iff, Bool.and_eq_false_iff, Bool.not_eq_true', Bool.not_eq_false', decide_eq_true_eq, decide_eq_false_iff_not, beq_iff_eq, bne_iff_ne, List.length_map, List.length_take] at hc2; omega))) ?_
    refine sq_plain rfl rfl rfl (w_loadE1 rfl (ev_tmp rfl) Tryz.isAgg9 rfl) ?_
    refine sq_plain rfl rfl rfl (w_call rfl Tryz.call36 rfl (l1Split_spec b 124 (by omega)) (evl_cons (ev_tmp rfl) (evl_cons ev_ci evl_nil))) ?_
    obtain ⟨ws, hws⟩ : ∃ ws, splitC 124 b = ws := ⟨_, rfl⟩
    have hwl := splitC_cnt (c := 124) b
    have hwsum := splitC_sum (c := 124) b
    rw [hws] at hwl hwsum
    rw [hws]
    refine sq_plain rfl rfl rfl (w_llen rfl Tryz.underlying23 (ev_tmp rfl)) ?_
    refine sq_plain rfl rfl rfl (w_move rfl ev_ci) ?_
    refine sq_nil ?_
    refine awp_block ?_
    refine awp_own (by first | (simp only [id, pick, List.eraseIdx_cons_zero, List.eraseIdx_cons_succ, List.set_cons_zero, List.set_cons_succ, List.cons_append, List.nil_append, List.getElem?_cons_zero, List.getElem?_cons_succ, List.append_nil, List.take_succ_cons, List.take_zero, List.drop_succ_cons, List.drop_zero]; exact rfl) | exact rfl) ?_
    refine awp_nilown 9 1 ?_
    refine awp_nilown 3 1 ?_
    refine AWP.le (le_pick [2, 1, 0] rfl) ?_
    refine awp_loop_i3 [(0, _), (2, _), (3, _), (5, _), (22, _), (23, _)] _ (fun (i : Nat) (vc : Value) (vg : Value) => i ≤ ws.length) (fun (i : Nat) (vc : Value) (vg : Value) => [.box b5 26 [AV.int (l1R a), AV.is vc, AV.is vg], .arr vc 9 1 ((od ws i).map fun x => [AV.str x]), .arr vg 3 1 (((ev ws i).map l1R).map fun x => [AV.int x])]) (fun (i : Nat) (vc : Value) (vg : Value) => [(24, AV.int i)]) (fun (i : Nat) (vc : Value) (vg : Value) => ws.length - i) (0) ((Value.slice none 0 0)) ((Value.slice none 0 0)) ?_ (le_eq (by rfl) ⟨rfl, rfl, rfl, rfl, rfl, rfl, rfl, trivial⟩) ?_
    · exact Nat.zero_le _
    intro i vc vg hinv
    have hol := od_len ws i
    have hel := ev_len ws i
    have hrl : ((ev ws i).map l1R).length = (ev ws i).length := List.length_map ..
    refine awp_seq ?_
    refine awp_region ?_
    refine sq_plain rfl rfl rfl (w_lss rfl (ev_tmp rfl) (ev_tmp rfl)) ?_
    refine sq_nil ?_
    refine awp_seq ?_
    refine awp_cond (ev_tmp rfl) ?_ ?_
    · intro h25
      have k25 := of_decide_eq_true h25; try simp only [List.length_map] at k25
      obtain ⟨x, hx⟩ := get_some (show i < ws.length by omega)
      have hxl : x.length ≤ b.length := splitC_len (c := 124) (by rw [hws]; exact List.mem_of_getElem? hx)
      refine awp_skip ?_
      refine awp_seq ?_
      refine awp_block ?_
      refine awp_seq ?_
      refine awp_region ?_
      refine sq_plain rfl rfl rfl (w_move rfl (ev_tmp rfl)) ?_
      refine sq_plain rfl rfl rfl (w_idxm rfl Tryz.underlying23 Tryz.sizeOf9 (ev_tmp rfl) (ev_tmp rfl) hx (by first | omega | ((try simp only [List.length_map, List.length_take, List.length_cons, List.length_nil, chunks_len, szR] at *); omega) | (have hc2 := hc; simp only [Bool.and_eq_true, Bool.or_eq_true, Bool.or_eq_false_iff, Bool.and_eq_false_iff, Bool.not_eq_true', Bool.not_eq_false', decide_eq_true_eq, decide_eq_false_iff_not, beq_iff_eq, bne_iff_ne, List.length_map, List.length_take] at hc2; omega))) ?_
      refine sq_plain rfl rfl rfl (w_loadE1 rfl (ev_tmp rfl) Tryz.isAgg9 rfl) ?_
      refine sq_plain rfl rfl rfl (w_assign rfl (ev_tmp rfl)) ?_
      refine sq_plain rfl rfl rfl (w_assign rfl (ev_tmp rfl)) ?_
      refine sq_nil ?_
      refine awp_seq ?_
      refine awp_region ?_
      refine sq_plain rfl rfl rfl (w_move rfl (ev_tmp rfl)) ?_
      refine sq_plain rfl rfl rfl (w_rem rfl (ev_tmp rfl) ev_ci (by decide)) ?_
      refine sq_plain rfl rfl rfl (w_eql rfl (ev_tmp rfl) ev_ci) ?_
      refine sq_nil ?_
      refine awp_cond (ev_tmp rfl) ?_ ?_
      · intro h31
        have k31 := eq_of_beqt h31; try simp only [List.length_map] at k31
        have hodd : i % 2 = 1 := (by rw [mod2] at h31; simpa using h31)
        refine awp_region ?_
        refine sq_plain rfl rfl rfl (w_fldBn 1 rfl Tryz.underlying26 rfl Tryz.sizeOf23 (ev_tmp rfl) rfl) ?_
        refine sq_plain rfl rfl rfl (w_loadB1 0 rfl (ev_tmp rfl) rfl Tryz.isAgg23 rfl) ?_
        refine sq_plain rfl rfl rfl (w_move rfl (ev_tmp rfl)) ?_
        refine sq_plain rfl rfl rfl (w_bslice rfl Tryz.underlying23 Tryz.sizeOf9 Tryz.zeroValue9 rfl rfl rfl rfl (bp_cons (ev_tmp rfl) (as_str _) bp_nil) rfl rfl) ?_
        refine sq_append (by' := 16) 1 rfl rfl rfl rfl Tryz.underlying23 Tryz.type9 rfl rfl rfl rfl rfl rfl (ev_tmp rfl) (ev_tmp rfl) rfl (by first | omega | ((try simp only [List.length_map, List.length_take, List.length_cons, List.length_nil, chunks_len, szR] at *); omega) | (have hc2 := hc; simp only [Bool.and_eq_true, Bool.or_eq_true, Bool.or_eq_false_iff, Bool.and_eq_false_iff, Bool.not_eq_true', Bool.not_eq_false', decide_eq_true_eq, decide_eq_false_iff_not, beq_iff_eq, bne_iff_ne, List.length_map, List.length_take] at hc2; omega)) ?_
        intro v36_3
        refine sq_plain rfl rfl rfl (w_fldBn 1 rfl Tryz.underlying26 rfl Tryz.sizeOf23 (ev_tmp rfl) rfl) ?_
        refine sq_fact 1 rfl fun one_v36_3 => ?_
        refine sq_storeB1 0 rfl rfl rfl (ev_tmp rfl) (ev_tmp rfl) (as_is one_v36_3) rfl Tryz.sizeOf23 rfl ?_
        refine sq_nil ?_
        refine awp_region ?_
        refine sq_plain rfl rfl rfl (w_addi rfl (ev_tmp rfl) ev_ci (by first | omega | ((try simp only [List.length_map, List.length_take, List.length_cons, List.length_nil, chunks_len, szR] at *); omega) | (have hc2 := hc; simp only [Bool.and_eq_true, Bool.or_eq_true, Bool.or_eq_false_iff, Bool.and_eq_false_iff, Bool.not_eq_true', Bool.not_eq_false', decide_eq_true_eq, decide_eq_false_iff_not, beq_iff_eq, bne_iff_ne, List.length_map, List.length_take] at hc2; omega))) ?_
        refine sq_plain rfl rfl rfl (w_move rfl (ev_tmp rfl)) ?_
        refine sq_nil ?_
        refine round_end3 i vc vg (i + 1) (v36_3) (vg) ?_ ?_ (Le.trans (le_pick [0, 0, 0] rfl) (le_eq (by first | (rw [od_odd hx hodd, ev_odd hodd, List.map_append]; rfl) | (rw [od_even hodd, ev_even hx hodd, List.map_append, List.map_append]; rfl)) ⟨rfl, rfl, rfl, rfl, rfl, rfl, rfl, trivial⟩))
        · exact (by omega)
        · omega
      · intro h31
        have k31 := ne_of_beqf h31; try simp only [List.length_map] at k31
        have hodd : ¬ i % 2 = 1 := (by rw [mod2] at h31; simpa using h31)
        refine AWP.le (le_pick [0, 0, 0] rfl) ?_
        refine awp_region_tail 5 (by kernel_rfl) (by kernel_rfl) rfl ?_
        refine ch_plain rfl rfl (w_fldBn 2 rfl Tryz.underlying26 rfl Tryz.sizeOf24 (ev_tmp rfl) rfl) ?_
        refine ch_plain rfl rfl (w_loadB1 0 rfl (ev_tmp rfl) rfl Tryz.isAgg24 rfl) ?_
        refine ch_plain rfl rfl (w_move rfl (ev_tmp rfl)) ?_
        refine ch_plain rfl rfl (w_call rfl Tryz.call37 rfl (l1Read_spec x (by omega)) (evl_cons (ev_tmp rfl) evl_nil)) ?_
        refine ch_plain rfl rfl (w_bslice rfl Tryz.underlying24 Tryz.sizeOf3 Tryz.zeroValue3 rfl rfl rfl rfl (bp_cons (ev_tmp rfl) (as_ik _ _) bp_nil) rfl rfl) ?_
        refine ch_nil ?_
        refine sq_append (by' := 8) 2 rfl rfl rfl rfl Tryz.underlying24 Tryz.type3 rfl rfl rfl rfl rfl rfl (ev_tmp rfl) (ev_tmp rfl) rfl (by first | omega | ((try simp only [List.length_map, List.length_take, List.length_cons, List.length_nil, chunks_len, szR] at *); omega) | (have hc2 := hc; simp only [Bool.and_eq_true, Bool.or_eq_true, Bool.or_eq_false_iff, Bool.and_eq_false_iff, Bool.not_eq_true', Bool.not_eq_false', decide_eq_true_eq, decide_eq_false_iff_not, beq_iff_eq, bne_iff_ne, List.length_map, List.length_take] at hc2; omega)) ?_
        intro v43_4
        refine sq_plain rfl rfl rfl (w_fldBn 2 rfl Tryz.underlying26 rfl Tryz.sizeOf24 (ev_tmp rfl) rfl) ?_
        refine sq_fact 2 rfl fun one_v43_4 => ?_
        refine sq_storeB1 0 rfl rfl rfl (ev_tmp rfl) (ev_tmp rfl) (as_is one_v43_4) rfl Tryz.sizeOf24 rfl ?_
        refine sq_nil ?_
        refine awp_region ?_
        refine sq_plain rfl rfl rfl (w_addi rfl (ev_tmp rfl) ev_ci (by first | omega | ((try simp only [List.length_map, List.length_take, List.length_cons, List.length_nil, chunks_len, szR] at *); omega) | (have hc2 := hc; simp only [Bool.and_eq_true, Bool.or_eq_true, Bool.or_eq_false_iff, Bool.and_eq_false_iff, Bool.not_eq_true', Bool.not_eq_false', decide_eq_true_eq, decide_eq_false_iff_not, beq_iff_eq, bne_iff_ne, List.length_map, List.length_take] at hc2; omega))) ?_
        refine sq_plain rfl rfl rfl (w_move rfl (ev_tmp rfl)) ?_
        refine sq_nil ?_
        refine round_end3 i vc vg (i + 1) (vc) (v43_4) ?_ ?_ (Le.trans (le_pick [0, 0, 0] rfl) (le_eq (by first | (rw [od_odd hx hodd, ev_odd hodd, List.map_append]; rfl) | (rw [od_even hodd, ev_even hx hodd, List.map_append, List.map_append]; rfl)) ⟨rfl, rfl, rfl, rfl, rfl, rfl, rfl, trivial⟩))
        · exact (by omega)
        · omega
    · intro h25
      have k25 := of_decide_eq_false h25; try simp only [List.length_map] at k25
      have hin : i = ws.length := by omega
      subst hin
      have hpo : placeS a b = ⟨l1R a, od ws ws.length, (ev ws ws.length).map l1R⟩ := (by unfold placeS; rw [hws])
      have hpz := place_size ws b.length hwl hwsum (l1R a) l1R ws.length
      rw [hpo]
      refine awp_exit ?_
      refine awp_seq ?_
      refine awp_seq ?_
      refine awp_region ?_
      refine sq_plain rfl rfl rfl (w_loadA 0 rfl (ev_tmp rfl) rfl Tryz.isAgg26 Tryz.sizeOf26 rfl) ?_
      refine sq_plain rfl rfl rfl (w_callB rfl Tryz.call20 rfl (goodPlacesS_spec ⟨l1R a, od ws ws.length, (ev ws ws.length).map l1R⟩ (Nat.le_trans hpz (by omega))) (flat_bool _) (evlb_cons (evb_lt (ev_tmp rfl) (lt_agg (lc_cons lt_refl (lc_cons (lt_arr (List.mem_of_getElem? (i := 1) rfl) le_refl_e) (lc_cons (lt_arr (List.mem_of_getElem? (i := 2) rfl) le_refl_e) lc_nil))))) evlb_nil)) ?_
      refine sq_plain rfl rfl rfl (w_not rfl (ev_tmp rfl)) ?_
      refine sq_plain rfl rfl rfl (w_move rfl (ev_tmp rfl)) ?_
      refine sq_grd rfl rfl (guard_f rfl rfl rfl) (fun hc => w_loadA 0 rfl (ev_tmp rfl) rfl Tryz.isAgg26 Tryz.sizeOf26 rfl) ?_
      refine sq_grd rfl rfl (guard_f rfl rfl rfl) (fun hc => w_callB rfl Tryz.call32 rfl (l20Text_spec ⟨l1R a, od ws ws.length, (ev ws ws.length).map l1R⟩ (Nat.le_trans hpz (by omega)) (by rw [goodPlaces_eq]; simpa using hc)) (flat_str _) (evlb_cons (evb_lt (ev_whn rfl hc) (lt_agg (lc_cons lt_refl (lc_cons (lt_arr (List.mem_of_getElem? (i := 1) rfl) le_refl_e) (lc_cons (lt_arr (List.mem_of_getElem? (i := 2) rfl) le_refl_e) lc_nil))))) evlb_nil)) ?_
      refine sq_grd rfl rfl (guard_f rfl rfl rfl) (fun hc => w_move rfl (ev_tmp rfl)) ?_
      refine sq_grd rfl rfl (guard_f rfl rfl rfl) (fun hc => w_sneq rfl (ev_whn rfl hc) (ev_whn rfl hc)) ?_
      refine sq_plain rfl rfl rfl (w_or rfl (ev_tmp rfl) (evif_w rfl)) ?_
      refine sq_nil ?_
      refine awp_cond (ev_tmp rfl) ?_ ?_
      · intro h54
        rw [if_pos h54]
        refine awp_seq ?_
        refine awp_region ?_
        refine sq_plain rfl rfl rfl (w_build (places := #[(0, 1), (1, 1), (2, 1)]) rfl Tryz.underlying26 Tryz.zeroValue26 (fun w => by kernel_rfl) rfl bp_nil rfl) ?_
        refine sq_storeB0 3 rfl rfl rfl (ev_tmp rfl) (ev_tmp rfl) (as_agg _) rfl Tryz.sizeOf26 rfl ?_
        refine sq_plain rfl rfl rfl (w_assign rfl ev_cb) ?_
        refine sq_nil ?_
        refine awp_ret ?_
        refine retG_nil 9 1 ?_
        refine retG_nil 3 1 ?_
        exact retG [1, 0] ((Value.slice none 0 0), (Value.slice none 0 0)) (trivial) rfl (by rfl) (resN rfl (by decide) (rv_cons (rv_cell (ys := _) 5 rfl rfl Tryz.isAgg26 Tryz.sizeOf26 rfl) (rv_cons (rv_tmp' rfl (by rfl)) rv_nil)))
      · intro h54
        rw [if_neg (by rw [h54]; decide)]
        refine awp_skip ?_
        refine awp_seq ?_
        refine awp_region ?_
        refine sq_plain rfl rfl rfl (w_loadA 0 rfl (ev_tmp rfl) rfl Tryz.isAgg26 Tryz.sizeOf26 rfl) ?_
        refine sq_storeB0 3 rfl rfl rfl (ev_tmp rfl) (ev_tmp rfl) (as_agg _) rfl Tryz.sizeOf26 rfl ?_
        refine sq_plain rfl rfl rfl (w_assign rfl ev_cb) ?_
        refine sq_nil ?_
        refine awp_ret ?_
        exact retG [1, 1] (vc, vg) (trivial) rfl (by rfl) (resN rfl (by decide) (rv_cons (rv_cell (ys := _) 3 rfl rfl Tryz.isAgg26 Tryz.sizeOf26 rfl) (rv_cons (rv_tmp' rfl (by rfl)) rv_nil)))
theorem readPlacesS_spec (s : Str) (hs : s.length ≤ 1048576) : FSpec Tryz.prog 14 [AV.str s] (AV.tup [AV.agg (parsePS s).1.cs, AV.bool (parsePS s).2]) :=
  fspec_of_gspec (readPlacesS_own s hs) fun x _ => lt_tup (lc_cons (lt_agg (TPlaces.lc _ x)) (lc_cons lt_refl lc_nil))
end Go.Proofs.YtdgoejkijpllpaaGreatDoor

set_option linter.unusedVariables false
set_option linter.unusedSimpArgs false
namespace Go.M
open Go.AV
structure TCur where
  p : Nat
  seed : Int
def bytesI (l : List Int) : AV := AV.list 1 (l.map fun x => [AV.ik .u8 x])
def curC (code : List Int) (c : TCur) : List AV := [bytesI code, AV.int c.p, AV.ik .u64 c.seed]
def ByteL (code : List Int) : Prop := ∀ x ∈ code, 0 ≤ x ∧ x ≤ 255
theorem byteL_of {l : List Int} (h : ∀ x ∈ l, (Lit.int .u8 x).wf = true) : ByteL l := fun x hx => by
  have := h x hx
  simp only [Lit.wf, IntKind.min, IntKind.max, IntKind.signed, IntKind.bits] at this
  simp at this
  omega
theorem wrapS {x : Int} (h : 0 ≤ x ∧ x ≤ 255) : IntKind.i64.wrap x = x := in64 (by omega)
theorem bandI_255 (x : Int) : 0 ≤ bandI x 255 ∧ bandI x 255 ≤ 255 := by
  unfold bandI
  have h1 : (BitVec.ofInt IntKind.u64.bits x &&& BitVec.ofInt IntKind.u64.bits 255).toNat ≤ 255 := by
    rw [BitVec.toNat_and]
    exact Nat.le_trans Nat.and_le_right (by decide)
  generalize (BitVec.ofInt IntKind.u64.bits x &&& BitVec.ofInt IntKind.u64.bits 255).toNat = n at h1
  unfold IntKind.wrap
  simp [IntKind.bits, IntKind.signed]
  omega
end Go.M

set_option linter.unusedVariables false
set_option linter.unusedSimpArgs false
set_option maxRecDepth 100000
namespace Go.Proofs.YtdgoejkijpllpaaGreatDoor
open Go Go.AV Go.M
attribute [local irreducible] OpW OpA OpS AWP FSpec ESpec GSpec OpE RetOk RetOkG RvDen Le Ev GuardIs SrcIs Int.tmod IntKind.wrap bandI
theorem curNext_own (b : Nat) (code : List Int) (hcode : ByteL code) (c : TCur) (hp : c.p ≤ 8000000) : GSpec Tryz.prog 51 [AV.ptr b 0] [.box b 45 (curC code c)] (fun x : TCur × Int => x.1.p ≤ c.p + 1 ∧ 0 ≤ x.2 ∧ x.2 ≤ 255) (fun x => [.box b 45 (curC code x.1)]) (fun x => AV.int x.2) := by
  have hcb := hcode
  refine gspec_of_awp Tryz.func51 rfl Tryz.ntmps51 rfl ?_
  refine awp_seq ?_
  refine awp_region ?_
  refine sq_plain rfl rfl rfl (w_assign rfl ev_ci) ?_
  refine sq_nil ?_
  refine awp_seq ?_
  refine awp_region ?_
  try rw [wrapS hzb]
  refine sq_plain rfl rfl rfl (w_assign rfl ev_ci) ?_
  refine sq_nil ?_
  refine awp_seq ?_
  refine awp_seq ?_
  refine awp_region_any (by kernel_rfl) (by kernel_rfl) rfl ?_
  refine ch_plain rfl rfl (w_move rfl (ev_tmp rfl)) ?_
  refine ch_plain rfl rfl (w_nilB rfl (ev_tmp rfl)) ?_
  refine ch_plain rfl rfl (w_fldBn 1 rfl Tryz.underlying45 rfl Tryz.sizeOf3 (ev_tmp rfl) rfl) ?_
  refine ch_plain rfl rfl (w_loadB1 0 rfl (ev_tmp rfl) rfl Tryz.isAgg3 rfl) ?_
  refine ch_plain rfl rfl (w_move rfl (ev_tmp rfl)) ?_
  refine ch_plain rfl rfl (w_nilB rfl (ev_tmp rfl)) ?_
  refine ch_plain rfl rfl (w_fldBn 0 rfl Tryz.underlying45 rfl Tryz.sizeOf22 (ev_tmp rfl) rfl) ?_
  refine ch_plain rfl rfl (w_loadB1 0 rfl (ev_tmp rfl) rfl Tryz.isAgg22 rfl) ?_
  refine ch_plain rfl rfl (w_llen rfl Tryz.underlying22 (ev_tmp rfl)) ?_
  refine ch_plain rfl rfl (w_lss rfl (ev_tmp rfl) (ev_tmp rfl)) ?_
  refine ch_nil ?_
  refine awp_cond (ev_tmp rfl) ?_ ?_
  · intro h13
    have k13 := of_decide_eq_true h13; try simp only [List.length_map] at k13
    obtain ⟨z, hz⟩ := get_some (show c.p < code.length by omega)
    have hzb := hcb z (List.mem_of_getElem? hz)
    refine awp_region_any (by kernel_rfl) (by kernel_rfl) rfl ?_
    refine ch_plain rfl rfl (w_move rfl (ev_tmp rfl)) ?_
    refine ch_plain rfl rfl (w_nilB rfl (ev_tmp rfl)) ?_
    refine ch_plain rfl rfl (w_fldBn 0 rfl Tryz.underlying45 rfl Tryz.sizeOf22 (ev_tmp rfl) rfl) ?_
    refine ch_plain rfl rfl (w_loadB1 0 rfl (ev_tmp rfl) rfl Tryz.isAgg22 rfl) ?_
    refine ch_plain rfl rfl (w_move rfl (ev_tmp rfl)) ?_
    refine ch_plain rfl rfl (w_nilB rfl (ev_tmp rfl)) ?_
    refine ch_plain rfl rfl (w_fldBn 1 rfl Tryz.underlying45 rfl Tryz.sizeOf3 (ev_tmp rfl) rfl) ?_
    refine ch_plain rfl rfl (w_loadB1 0 rfl (ev_tmp rfl) rfl Tryz.isAgg3 rfl) ?_
    refine ch_plain rfl rfl (w_idxm rfl Tryz.underlying22 Tryz.sizeOf5 (ev_tmp rfl) (ev_tmp rfl) hz rfl) ?_
    refine ch_plain rfl rfl (w_loadE1 rfl (ev_tmp rfl) Tryz.isAgg5 rfl) ?_
    refine ch_plain rfl rfl (w_conv rfl (by kernel_rfl) Tryz.underlying3 (ev_tmp rfl)) ?_
    try rw [wrapS hzb]
    refine ch_plain rfl rfl (w_assign rfl (ev_tmp rfl)) ?_
    refine ch_nil ?_
    refine awp_seq ?_
    refine awp_region ?_
    refine sq_plain rfl rfl rfl (w_move rfl (ev_tmp rfl)) ?_
    refine sq_plain rfl rfl rfl (w_nilB rfl (ev_tmp rfl)) ?_
    refine sq_plain rfl rfl rfl (w_fldBn 1 rfl Tryz.underlying45 rfl Tryz.sizeOf3 (ev_tmp rfl) rfl) ?_
    refine sq_plain rfl rfl rfl (w_loadB1 0 rfl (ev_tmp rfl) rfl Tryz.isAgg3 rfl) ?_
    refine sq_plain rfl rfl rfl (w_addi rfl (ev_tmp rfl) ev_ci (by first | omega | ((try simp only [List.length_map, List.length_take, List.length_cons, List.length_nil, chunks_len, szR] at *); omega) | (have hc2 := hc; simp only [Bool.and_eq_true, Bool.or_eq_true, Bool.or_eq_false_iff, Bool.and_eq_false_iff, Bool.not_eq_true', Bool.not_eq_false', decide_eq_true_eq, decide_eq_false_iff_not, beq_iff_eq, bne_iff_ne, List.length_map, List.length_take] at hc2; omega))) ?_
    refine sq_plain rfl rfl rfl (w_nilB rfl (ev_tmp rfl)) ?_
    refine sq_plain rfl rfl rfl (w_fldBn 1 rfl Tryz.underlying45 rfl Tryz.sizeOf3 (ev_tmp rfl) rfl) ?_
    refine sq_storeB1 0 rfl rfl rfl (ev_tmp rfl) (ev_tmp rfl) (as_ik _ _) rfl Tryz.sizeOf3 rfl ?_
    refine sq_nil ?_
    refine awp_seq ?_
    refine awp_region ?_
    refine sq_plain rfl rfl rfl (w_move rfl (ev_tmp rfl)) ?_
    refine sq_plain rfl rfl rfl (w_move rfl (ev_tmp rfl)) ?_
    refine sq_plain rfl rfl rfl (w_nilB rfl (ev_tmp rfl)) ?_
    refine sq_plain rfl rfl rfl (w_fldBn 2 rfl Tryz.underlying45 rfl Tryz.sizeOf43 (ev_tmp rfl) rfl) ?_
    refine sq_plain rfl rfl rfl (w_loadB1 0 rfl (ev_tmp rfl) rfl Tryz.isAgg43 rfl) ?_
    refine sq_plain rfl rfl rfl (w_mul rfl (ev_tmp rfl) ev_ci) ?_
    refine sq_plain rfl rfl rfl (w_move rfl (ev_tmp rfl)) ?_
    refine sq_plain rfl rfl rfl (w_conv rfl (by kernel_rfl) Tryz.underlying43 (ev_tmp rfl)) ?_
    refine sq_plain rfl rfl rfl (w_add rfl (ev_tmp rfl) (ev_tmp rfl)) ?_
    refine sq_plain rfl rfl rfl (w_add rfl (ev_tmp rfl) ev_ci) ?_
    refine sq_plain rfl rfl rfl (w_nilB rfl (ev_tmp rfl)) ?_
    refine sq_plain rfl rfl rfl (w_fldBn 2 rfl Tryz.underlying45 rfl Tryz.sizeOf43 (ev_tmp rfl) rfl) ?_
    refine sq_storeB1 0 rfl rfl rfl (ev_tmp rfl) (ev_tmp rfl) (as_ik _ _) rfl Tryz.sizeOf43 rfl ?_
    refine sq_nil ?_
    refine awp_seq ?_
    refine awp_seq ?_
    refine awp_region_any (by kernel_rfl) (by kernel_rfl) rfl ?_
    refine ch_plain rfl rfl (w_move rfl (ev_tmp rfl)) ?_
    refine ch_plain rfl rfl (w_nilB rfl (ev_tmp rfl)) ?_
    refine ch_plain rfl rfl (w_fldBn 1 rfl Tryz.underlying45 rfl Tryz.sizeOf3 (ev_tmp rfl) rfl) ?_
    refine ch_plain rfl rfl (w_loadB1 0 rfl (ev_tmp rfl) rfl Tryz.isAgg3 rfl) ?_
    refine ch_plain rfl rfl (w_move rfl (ev_tmp rfl)) ?_
    refine ch_plain rfl rfl (w_nilB rfl (ev_tmp rfl)) ?_
    refine ch_plain rfl rfl (w_fldBn 0 rfl Tryz.underlying45 rfl Tryz.sizeOf22 (ev_tmp rfl) rfl) ?_
    refine ch_plain rfl rfl (w_loadB1 0 rfl (ev_tmp rfl) rfl Tryz.isAgg22 rfl) ?_
    refine ch_plain rfl rfl (w_llen rfl Tryz.underlying22 (ev_tmp rfl)) ?_
    refine ch_plain rfl rfl (w_leq rfl (ev_tmp rfl) (ev_tmp rfl)) ?_
    refine ch_nil ?_
    refine awp_cond (ev_tmp rfl) ?_ ?_
    · intro h53
      have k53 := of_decide_eq_true h53; try simp only [List.length_map] at k53
      refine awp_seq ?_
      refine awp_region ?_
      refine sq_plain rfl rfl rfl (w_move rfl (ev_tmp rfl)) ?_
      refine sq_plain rfl rfl rfl (w_assign rfl (ev_tmp rfl)) ?_
      refine sq_nil ?_
      refine awp_ret ?_
      (refine retG [0] ((⟨c.p + 1, _⟩, _)) ?_ rfl (by first | (dsimp only; rfl) | rfl) (resR rfl (rv_tmp' rfl (by first | rfl | (refine congrArg AV.bool ?_; simp_all; done)))); first | exact ⟨Nat.le_refl _, hzb⟩ | exact ⟨Nat.le_refl _, Int.le_refl 0, (show (0 : Int) ≤ 255 by decide)⟩ | (rw [wrapS (bandI_255 _)]; exact ⟨Nat.le_refl _, bandI_255 _⟩))
    · intro h53
      have k53 := of_decide_eq_false h53; try simp only [List.length_map] at k53
      refine awp_skip ?_
      refine awp_seq ?_
      refine awp_region ?_
      refine sq_plain rfl rfl rfl (w_move rfl (ev_tmp rfl)) ?_
      refine sq_plain rfl rfl rfl (w_nilB rfl (ev_tmp rfl)) ?_
      refine sq_plain rfl rfl rfl (w_fldBn 2 rfl Tryz.underlying45 rfl Tryz.sizeOf43 (ev_tmp rfl) rfl) ?_
      refine sq_plain rfl rfl rfl (w_loadB1 0 rfl (ev_tmp rfl) rfl Tryz.isAgg43 rfl) ?_
      refine sq_plain rfl rfl rfl (w_shr rfl (ev_tmp rfl) ev_ci (by decide) (by decide)) ?_
      refine sq_plain rfl rfl rfl (w_band rfl (ev_tmp rfl) ev_ci) ?_
      refine sq_plain rfl rfl rfl (w_conv rfl (by kernel_rfl) Tryz.underlying3 (ev_tmp rfl)) ?_
      refine sq_plain rfl rfl rfl (w_assign rfl (ev_tmp rfl)) ?_
      refine sq_nil ?_
      refine awp_ret ?_
      (refine retG [0] ((⟨c.p + 1, _⟩, _)) ?_ rfl (by first | (dsimp only; rfl) | rfl) (resR rfl (rv_tmp' rfl (by first | rfl | (refine congrArg AV.bool ?_; simp_all; done)))); first | exact ⟨Nat.le_refl _, hzb⟩ | exact ⟨Nat.le_refl _, Int.le_refl 0, (show (0 : Int) ≤ 255 by decide)⟩ | (rw [wrapS (bandI_255 _)]; exact ⟨Nat.le_refl _, bandI_255 _⟩))
  · intro h13
    have k13 := of_decide_eq_false h13; try simp only [List.length_map] at k13
    refine awp_skip ?_
    refine awp_seq ?_
    refine awp_region ?_
    refine sq_plain rfl rfl rfl (w_move rfl (ev_tmp rfl)) ?_
    refine sq_plain rfl rfl rfl (w_nilB rfl (ev_tmp rfl)) ?_
    refine sq_plain rfl rfl rfl (w_fldBn 1 rfl Tryz.underlying45 rfl Tryz.sizeOf3 (ev_tmp rfl) rfl) ?_
    refine sq_plain rfl rfl rfl (w_loadB1 0 rfl (ev_tmp rfl) rfl Tryz.isAgg3 rfl) ?_
    refine sq_plain rfl rfl rfl (w_addi rfl (ev_tmp rfl) ev_ci (by first | omega | ((try simp only [List.length_map, List.length_take, List.length_cons, List.length_nil, chunks_len, szR] at *); omega) | (have hc2 := hc; simp only [Bool.and_eq_true, Bool.or_eq_true, Bool.or_eq_false_iff, Bool.and_eq_false_iff, Bool.not_eq_true', Bool.not_eq_false', decide_eq_true_eq, decide_eq_false_iff_not, beq_iff_eq, bne_iff_ne, List.length_map, List.length_take] at hc2; omega))) ?_
    refine sq_plain rfl rfl rfl (w_nilB rfl (ev_tmp rfl)) ?_
    refine sq_plain rfl rfl rfl (w_fldBn 1 rfl Tryz.underlying45 rfl Tryz.sizeOf3 (ev_tmp rfl) rfl) ?_
    refine sq_storeB1 0 rfl rfl rfl (ev_tmp rfl) (ev_tmp rfl) (as_ik _ _) rfl Tryz.sizeOf3 rfl ?_
    refine sq_nil ?_
    refine awp_seq ?_
    refine awp_region ?_
    refine sq_plain rfl rfl rfl (w_move rfl (ev_tmp rfl)) ?_
    refine sq_plain rfl rfl rfl (w_move rfl (ev_tmp rfl)) ?_
    refine sq_plain rfl rfl rfl (w_nilB rfl (ev_tmp rfl)) ?_
    refine sq_plain rfl rfl rfl (w_fldBn 2 rfl Tryz.underlying45 rfl Tryz.sizeOf43 (ev_tmp rfl) rfl) ?_
    refine sq_plain rfl rfl rfl (w_loadB1 0 rfl (ev_tmp rfl) rfl Tryz.isAgg43 rfl) ?_
    refine sq_plain rfl rfl rfl (w_mul rfl (ev_tmp rfl) ev_ci) ?_
    refine sq_plain rfl rfl rfl (w_move rfl (ev_tmp rfl)) ?_
    refine sq_plain rfl rfl rfl (w_conv rfl (by kernel_rfl) Tryz.underlying43 (ev_tmp rfl)) ?_
    refine sq_plain rfl rfl rfl (w_add rfl (ev_tmp rfl) (ev_tmp rfl)) ?_
    refine sq_plain rfl rfl rfl (w_add rfl (ev_tmp rfl) ev_ci) ?_
    refine sq_plain rfl rfl rfl (w_nilB rfl (ev_tmp rfl)) ?_
    refine sq_plain rfl rfl rfl (w_fldBn 2 rfl Tryz.underlying45 rfl Tryz.sizeOf43 (ev_tmp rfl) rfl) ?_
    refine sq_storeB1 0 rfl rfl rfl (ev_tmp rfl) (ev_tmp rfl) (as_ik _ _) rfl Tryz.sizeOf43 rfl ?_
    refine sq_nil ?_
    refine awp_seq ?_
    refine awp_seq ?_
    refine awp_region_any (by kernel_rfl) (by kernel_rfl) rfl ?_
    refine ch_plain rfl rfl (w_move rfl (ev_tmp rfl)) ?_
    refine ch_plain rfl rfl (w_nilB rfl (ev_tmp rfl)) ?_
    refine ch_plain rfl rfl (w_fldBn 1 rfl Tryz.underlying45 rfl Tryz.sizeOf3 (ev_tmp rfl) rfl) ?_
    refine ch_plain rfl rfl (w_loadB1 0 rfl (ev_tmp rfl) rfl Tryz.isAgg3 rfl) ?_
    refine ch_plain rfl rfl (w_move rfl (ev_tmp rfl)) ?_
    refine ch_plain rfl rfl (w_nilB rfl (ev_tmp rfl)) ?_
    refine ch_plain rfl rfl (w_fldBn 0 rfl Tryz.underlying45 rfl Tryz.sizeOf22 (ev_tmp rfl) rfl) ?_
    refine ch_plain rfl rfl (w_loadB1 0 rfl (ev_tmp rfl) rfl Tryz.isAgg22 rfl) ?_
    refine ch_plain rfl rfl (w_llen rfl Tryz.underlying22 (ev_tmp rfl)) ?_
    refine ch_plain rfl rfl (w_leq rfl (ev_tmp rfl) (ev_tmp rfl)) ?_
    refine ch_nil ?_
    refine awp_cond (ev_tmp rfl) ?_ ?_
    · intro h53
      have k53 := of_decide_eq_true h53; try simp only [List.length_map] at k53
      refine awp_seq ?_
      refine awp_region ?_
      refine sq_plain rfl rfl rfl (w_move rfl (ev_tmp rfl)) ?_
      refine sq_plain rfl rfl rfl (w_assign rfl (ev_tmp rfl)) ?_
      refine sq_nil ?_
      refine awp_ret ?_
      (refine retG [0] ((⟨c.p + 1, _⟩, _)) ?_ rfl (by first | (dsimp only; rfl) | rfl) (resR rfl (rv_tmp' rfl (by first | rfl | (refine congrArg AV.bool ?_; simp_all; done)))); first | exact ⟨Nat.le_refl _, hzb⟩ | exact ⟨Nat.le_refl _, Int.le_refl 0, (show (0 : Int) ≤ 255 by decide)⟩ | (rw [wrapS (bandI_255 _)]; exact ⟨Nat.le_refl _, bandI_255 _⟩))
    · intro h53
      have k53 := of_decide_eq_false h53; try simp only [List.length_map] at k53
      refine awp_skip ?_
      refine awp_seq ?_
      refine awp_region ?_
      refine sq_plain rfl rfl rfl (w_move rfl (ev_tmp rfl)) ?_
      refine sq_plain rfl rfl rfl (w_nilB rfl (ev_tmp rfl)) ?_
      refine sq_plain rfl rfl rfl (w_fldBn 2 rfl Tryz.underlying45 rfl Tryz.sizeOf43 (ev_tmp rfl) rfl) ?_
      refine sq_plain rfl rfl rfl (w_loadB1 0 rfl (ev_tmp rfl) rfl Tryz.isAgg43 rfl) ?_
      refine sq_plain rfl rfl rfl (w_shr rfl (ev_tmp rfl) ev_ci (by decide) (by decide)) ?_
      refine sq_plain rfl rfl rfl (w_band rfl (ev_tmp rfl) ev_ci) ?_
      refine sq_plain rfl rfl rfl (w_conv rfl (by kernel_rfl) Tryz.underlying3 (ev_tmp rfl)) ?_
      refine sq_plain rfl rfl rfl (w_assign rfl (ev_tmp rfl)) ?_
      refine sq_nil ?_
      refine awp_ret ?_
      (refine retG [0] ((⟨c.p + 1, _⟩, _)) ?_ rfl (by first | (dsimp only; rfl) | rfl) (resR rfl (rv_tmp' rfl (by first | rfl | (refine congrArg AV.bool ?_; simp_all; done)))); first | exact ⟨Nat.le_refl _, hzb⟩ | exact ⟨Nat.le_refl _, Int.le_refl 0, (show (0 : Int) ≤ 255 by decide)⟩ | (rw [wrapS (bandI_255 _)]; exact ⟨Nat.le_refl _, bandI_255 _⟩))
theorem curPick_own (b : Nat) (code : List Int) (hcode : ByteL code) (c : TCur) (n : Int) (hn : n ≤ 1000000) (hp : c.p ≤ 7000000) : GSpec Tryz.prog 30 [AV.ptr b 0, AV.int n] [.box b 45 (curC code c)] (fun x : TCur × Int => x.1.p ≤ c.p + 2 ∧ 0 ≤ x.2 ∧ (x.2 < n ∨ x.2 = 0)) (fun x => [.box b 45 (curC code x.1)]) (fun x => AV.int x.2) := by
  refine gspec_of_awp Tryz.func30 rfl Tryz.ntmps30 rfl ?_
  refine awp_seq ?_
  refine awp_region ?_
  refine sq_plain rfl rfl rfl (w_assign rfl ev_ci) ?_
  refine sq_nil ?_
  refine awp_seq ?_
  refine awp_seq ?_
  refine awp_region ?_
  refine sq_plain rfl rfl rfl (w_move rfl (ev_tmp rfl)) ?_
  refine sq_plain rfl rfl rfl (w_leq rfl (ev_tmp rfl) ev_ci) ?_
  refine sq_nil ?_
  refine awp_cond (ev_tmp rfl) ?_ ?_
  · intro h7
    have k7 := of_decide_eq_true h7; try simp only [List.length_map] at k7
    refine awp_seq ?_
    refine awp_region ?_
    refine sq_plain rfl rfl rfl (w_assign rfl ev_ci) ?_
    refine sq_nil ?_
    refine awp_ret ?_
    (refine retG [0] ((_, _)) ?_ rfl (by first | (dsimp only; rfl) | rfl) (resR rfl (rv_tmp' rfl (by first | rfl | (refine congrArg AV.bool ?_; simp_all; done)))); (dsimp only; first | omega | exact ⟨by omega, Int.tmod_nonneg _ (by omega), .inl (Int.tmod_lt_of_pos _ (by omega))⟩))
  · intro h7
    have k7 := of_decide_eq_false h7; try simp only [List.length_map] at k7
    refine awp_skip ?_
    refine awp_seq ?_
    refine awp_region ?_
    refine sq_plain rfl rfl rfl (w_move rfl (ev_tmp rfl)) ?_
    refine sq_callG [0] rfl rfl rfl rfl Tryz.call51 rfl (curNext_own _ _ hcode _ (by omega)) (evl_cons (ev_tmp rfl) evl_nil) rfl ?_
    intro x9 ok9
    refine sq_plain rfl rfl rfl (w_assign rfl (ev_tmp rfl)) ?_
    refine sq_nil ?_
    refine awp_seq ?_
    refine awp_seq ?_
    refine awp_region ?_
    refine sq_plain rfl rfl rfl (w_move rfl (ev_tmp rfl)) ?_
    refine sq_plain rfl rfl rfl (w_gtr rfl (ev_tmp rfl) ev_ci) ?_
    refine sq_nil ?_
    refine awp_cond (ev_tmp rfl) ?_ ?_
    · intro h11
      have k11 := of_decide_eq_true h11; try simp only [List.length_map] at k11
      refine awp_region ?_
      refine sq_plain rfl rfl rfl (w_move rfl (ev_tmp rfl)) ?_
      refine sq_plain rfl rfl rfl (w_muli rfl (ev_tmp rfl) ev_ci (by first | omega | ((try simp only [List.length_map, List.length_take, List.length_cons, List.length_nil, chunks_len, szR] at *); omega) | (have hc2 := hc; simp only [Bool.and_eq_true, Bool.or_eq_true, Bool.or_eq_false_iff, Bool.and_eq_false_iff, Bool.not_eq_true', Bool.not_eq_false', decide_eq_true_eq, decide_eq_false_iff_not, beq_iff_eq, bne_iff_ne, List.length_map, List.length_take] at hc2; omega))) ?_
      refine sq_plain rfl rfl rfl (w_move rfl (ev_tmp rfl)) ?_
      refine sq_callG [0] rfl rfl rfl rfl Tryz.call51 rfl (curNext_own _ _ hcode _ (by omega)) (evl_cons (ev_tmp rfl) evl_nil) rfl ?_
      intro x15 ok15
      refine sq_plain rfl rfl rfl (w_addi rfl (ev_tmp rfl) (ev_tmp rfl) (by first | omega | ((try simp only [List.length_map, List.length_take, List.length_cons, List.length_nil, chunks_len, szR] at *); omega) | (have hc2 := hc; simp only [Bool.and_eq_true, Bool.or_eq_true, Bool.or_eq_false_iff, Bool.and_eq_false_iff, Bool.not_eq_true', Bool.not_eq_false', decide_eq_true_eq, decide_eq_false_iff_not, beq_iff_eq, bne_iff_ne, List.length_map, List.length_take] at hc2; omega))) ?_
      refine sq_plain rfl rfl rfl (w_assign rfl (ev_tmp rfl)) ?_
      refine sq_nil ?_
      refine awp_seq ?_
      refine awp_region ?_
      refine sq_plain rfl rfl rfl (w_move rfl (ev_tmp rfl)) ?_
      refine sq_plain rfl rfl rfl (w_move rfl (ev_tmp rfl)) ?_
      refine sq_plain rfl rfl rfl (w_rem rfl (ev_tmp rfl) (ev_tmp rfl) (by omega)) ?_
      refine sq_plain rfl rfl rfl (w_assign rfl (ev_tmp rfl)) ?_
      refine sq_nil ?_
      refine awp_ret ?_
      (refine retG [0] ((_, _)) ?_ rfl (by first | (dsimp only; rfl) | rfl) (resR rfl (rv_tmp' rfl (by first | rfl | (refine congrArg AV.bool ?_; simp_all; done)))); (dsimp only; first | omega | exact ⟨by omega, Int.tmod_nonneg _ (by omega), .inl (Int.tmod_lt_of_pos _ (by omega))⟩))
    · intro h11
      have k11 := of_decide_eq_false h11; try simp only [List.length_map] at k11
      refine awp_skip ?_
      refine awp_seq ?_
      refine awp_region ?_
      refine sq_plain rfl rfl rfl (w_move rfl (ev_tmp rfl)) ?_
      refine sq_plain rfl rfl rfl (w_move rfl (ev_tmp rfl)) ?_
      refine sq_plain rfl rfl rfl (w_rem rfl (ev_tmp rfl) (ev_tmp rfl) (by omega)) ?_
      refine sq_plain rfl rfl rfl (w_assign rfl (ev_tmp rfl)) ?_
      refine sq_nil ?_
      refine awp_ret ?_
      (refine retG [0] ((_, _)) ?_ rfl (by first | (dsimp only; rfl) | rfl) (resR rfl (rv_tmp' rfl (by first | rfl | (refine congrArg AV.bool ?_; simp_all; done)))); (dsimp only; first | omega | exact ⟨by omega, Int.tmod_nonneg _ (by omega), .inl (Int.tmod_lt_of_pos _ (by omega))⟩))
theorem curOne_own (b : Nat) (code : List Int) (hcode : ByteL code) (c : TCur) (n : Int) (hn : n ≤ 1000000) (hp : c.p ≤ 7000000) : GSpec Tryz.prog 34 [AV.ptr b 0, AV.int n] [.box b 45 (curC code c)] (fun x : TCur × Bool => x.1.p ≤ c.p + 2) (fun x => [.box b 45 (curC code x.1)]) (fun x => AV.bool x.2) := by
  refine gspec_of_awp Tryz.func34 rfl Tryz.ntmps34 rfl ?_
  refine awp_seq ?_
  refine awp_region ?_
  refine sq_plain rfl rfl rfl (w_assign rfl ev_cb) ?_
  refine sq_nil ?_
  refine awp_seq ?_
  refine awp_region ?_
  refine sq_plain rfl rfl rfl (w_move rfl (ev_tmp rfl)) ?_
  refine sq_plain rfl rfl rfl (w_move rfl (ev_tmp rfl)) ?_
  refine sq_callG [0] rfl rfl rfl rfl Tryz.call30 rfl (curPick_own _ _ hcode _ _ (by omega) (by omega)) (evl_cons (ev_tmp rfl) (evl_cons (ev_tmp rfl) evl_nil)) rfl ?_
  intro x7 ok7
  refine sq_plain rfl rfl rfl (w_eql rfl (ev_tmp rfl) ev_ci) ?_
  refine sq_plain rfl rfl rfl (w_assign rfl (ev_tmp rfl)) ?_
  refine sq_nil ?_
  refine awp_ret ?_
  (refine retG [0] ((_, _)) ?_ rfl (by first | (dsimp only; rfl) | rfl) (resR rfl (rv_tmp' rfl (by rfl))); exact ok7.1)
theorem curOf_own (b : Nat) (code : List Int) (hcode : ByteL code) (c : TCur) (l : List Str) (hl : (∀ s ∈ l, s.length ≤ 64) ∧ 1 ≤ l.length ∧ l.length ≤ 1000) (hp : c.p ≤ 7000000) : GSpec Tryz.prog 16 [AV.ptr b 0, strs l] [.box b 45 (curC code c)] (fun x : TCur × Str => x.1.p ≤ c.p + 2 ∧ x.2.length ≤ 64) (fun x => [.box b 45 (curC code x.1)]) (fun x => AV.str x.2) := by
  obtain ⟨hls, hl1, hl2⟩ := hl
  refine gspec_of_awp Tryz.func16 rfl Tryz.ntmps16 rfl ?_
  refine awp_seq ?_
  refine awp_region ?_
  refine sq_plain rfl rfl rfl (w_assign rfl (ev_cs' (l := []) rfl)) ?_
  refine sq_nil ?_
  refine awp_seq ?_
  refine awp_region ?_
  refine sq_plain rfl rfl rfl (w_move rfl (ev_tmp rfl)) ?_
  refine sq_plain rfl rfl rfl (w_move rfl (ev_tmp rfl)) ?_
  refine sq_plain rfl rfl rfl (w_move rfl (ev_tmp rfl)) ?_
  refine sq_plain rfl rfl rfl (w_llen rfl Tryz.underlying23 (ev_tmp rfl)) ?_
  refine sq_callG [0] rfl rfl rfl rfl Tryz.call30 rfl (curPick_own _ _ hcode _ _ (by simp only [List.length_map]; omega) (by omega)) (evl_cons (ev_tmp rfl) (evl_cons (ev_tmp rfl) evl_nil)) rfl ?_
  intro x9 ok9
  simp only [List.length_map] at ok9
  obtain ⟨y, hy⟩ := get_some (show x9.2.toNat < l.length by omega)
  refine sq_plain rfl rfl rfl (w_idxm rfl Tryz.underlying23 Tryz.sizeOf9 (ev_tmp rfl) (ev_tmp rfl) hy (by omega)) ?_
  refine sq_plain rfl rfl rfl (w_loadE1 rfl (ev_tmp rfl) Tryz.isAgg9 rfl) ?_
  refine sq_plain rfl rfl rfl (w_assign rfl (ev_tmp rfl)) ?_
  refine sq_nil ?_
  refine awp_ret ?_
  (refine retG [0] ((_, _)) ?_ rfl (by first | (dsimp only; rfl) | rfl) (resR rfl (rv_tmp' rfl (by rfl))); exact ⟨ok9.1, hls _ (List.mem_of_getElem? hy)⟩)
theorem curAmong_own (b : Nat) (code : List Int) (hcode : ByteL code) (c : TCur) (l : List Int) (hl : 1 ≤ l.length ∧ l.length ≤ 1000) (hp : c.p ≤ 7000000) : GSpec Tryz.prog 38 [AV.ptr b 0, ints l] [.box b 45 (curC code c)] (fun x : TCur × Int => x.1.p ≤ c.p + 2 ∧ x.2 ∈ l) (fun x => [.box b 45 (curC code x.1)]) (fun x => AV.int x.2) := by
  obtain ⟨hl1, hl2⟩ := hl
  refine gspec_of_awp Tryz.func38 rfl Tryz.ntmps38 rfl ?_
  refine awp_seq ?_
  refine awp_region ?_
  refine sq_plain rfl rfl rfl (w_assign rfl ev_ci) ?_
  refine sq_nil ?_
  refine awp_seq ?_
  refine awp_region ?_
  refine sq_plain rfl rfl rfl (w_move rfl (ev_tmp rfl)) ?_
  refine sq_plain rfl rfl rfl (w_move rfl (ev_tmp rfl)) ?_
  refine sq_plain rfl rfl rfl (w_move rfl (ev_tmp rfl)) ?_
  refine sq_plain rfl rfl rfl (w_llen rfl Tryz.underlying24 (ev_tmp rfl)) ?_
  refine sq_callG [0] rfl rfl rfl rfl Tryz.call30 rfl (curPick_own _ _ hcode _ _ (by simp only [List.length_map]; omega) (by omega)) (evl_cons (ev_tmp rfl) (evl_cons (ev_tmp rfl) evl_nil)) rfl ?_
  intro x9 ok9
  simp only [List.length_map] at ok9
  obtain ⟨y, hy⟩ := get_some (show x9.2.toNat < l.length by omega)
  refine sq_plain rfl rfl rfl (w_idxm rfl Tryz.underlying24 Tryz.sizeOf3 (ev_tmp rfl) (ev_tmp rfl) hy (by omega)) ?_
  refine sq_plain rfl rfl rfl (w_loadE1 rfl (ev_tmp rfl) Tryz.isAgg3 rfl) ?_
  refine sq_plain rfl rfl rfl (w_assign rfl (ev_tmp rfl)) ?_
  refine sq_nil ?_
  refine awp_ret ?_
  (refine retG [0] ((_, _)) ?_ rfl (by first | (dsimp only; rfl) | rfl) (resR rfl (rv_tmp' rfl (by rfl))); exact ⟨ok9.1, List.mem_of_getElem? hy⟩)
theorem curKey_own (b : Nat) (code : List Int) (hcode : ByteL code) (c : TCur) (hp : c.p ≤ 6000000) : GSpec Tryz.prog 54 [AV.ptr b 0] [.box b 45 (curC code c)] (fun x : TCur × Str => x.1.p ≤ c.p + 2 ∧ x.2.length ≤ 64) (fun x => [.box b 45 (curC code x.1)]) (fun x => AV.str x.2) := by
  refine gspec_of_awp Tryz.func54 rfl Tryz.ntmps54 rfl ?_
  refine awp_seq ?_
  refine awp_region ?_
  refine sq_plain rfl rfl rfl (w_assign rfl (ev_cs' (l := []) rfl)) ?_
  refine sq_nil ?_
  refine awp_seq ?_
  refine awp_region ?_
  refine sq_plain rfl rfl rfl (w_move rfl (ev_tmp rfl)) ?_
  refine sq_plain rfl rfl rfl (w_bslice rfl Tryz.underlying23 Tryz.sizeOf9 Tryz.zeroValue9 rfl rfl rfl rfl (bp_cons (ev_cs' (l := [97]) rfl) (as_str _) (bp_cons (ev_cs' (l := [98]) rfl) (as_str _) (bp_cons (ev_cs' (l := [99]) rfl) (as_str _) (bp_cons (ev_cs' (l := [109]) rfl) (as_str _) (bp_cons (ev_cs' (l := [110]) rfl) (as_str _) (bp_cons (ev_cs' (l := [122]) rfl) (as_str _) (bp_cons (ev_cs' (l := [114, 47, 49]) rfl) (as_str _) (bp_cons (ev_cs' (l := [105, 47, 120, 47, 49]) rfl) (as_str _) bp_nil)))))))) rfl rfl) ?_
  refine sq_callG [0] rfl rfl rfl rfl Tryz.call16 rfl (curOf_own _ _ hcode _ ([[97], [98], [99], [109], [110], [122], [114, 47, 49], [105, 47, 120, 47, 49]] : List Str) (by decide) (by omega)) (evl_cons (ev_tmp rfl) (evl_cons (ev_tmp rfl) evl_nil)) rfl ?_
  intro x5 ok5
  refine sq_plain rfl rfl rfl (w_assign rfl (ev_tmp rfl)) ?_
  refine sq_nil ?_
  refine awp_ret ?_
  (refine retG [0] ((_, _)) ?_ rfl (by first | (dsimp only; rfl) | rfl) (resR rfl (rv_tmp' rfl (by rfl))); exact ok5)
end Go.Proofs.YtdgoejkijpllpaaGreatDoor

set_option linter.unusedVariables false
set_option linter.unusedSimpArgs false
namespace Go.M
def chg : List Int → List Int → List Int
  | g :: a, h :: b => if (g != h) = true then g :: h :: chg a b else chg a b
  | _, _ => []
def changed (a b : TPlaces) : List Int := if (!decide (a.Cuts = b.Cuts)) = true then [] else chg a.Groups b.Groups
def prevM (a : TAtlas) (i : Nat) : TPlaces := a.Maps.getD (i - 1) noPlaces
def late (a : TAtlas) (i : Nat) (g : Int) : Bool := decide (a.Knows.getD g.toNat 0 < (i : Int))
def bad (a : TAtlas) (i : Nat) (p : TPlaces) : Bool := (!goodPlaces p || (decide (0 < (i : Int)) && !isNext (prevM a i) p)) || (decide (0 < (i : Int)) && (changed (prevM a i) p).any (late a i))
end Go.M

set_option linter.unusedVariables false
set_option linter.unusedSimpArgs false
set_option maxRecDepth 100000
namespace Go.Proofs.YtdgoejkijpllpaaGreatDoor
open Go Go.AV Go.M
attribute [local irreducible] OpW OpA OpS AWP FSpec ESpec GSpec OpE RetOk RetOkG RvDen Le Ev GuardIs SrcIs
end Go.Proofs.YtdgoejkijpllpaaGreatDoor

set_option linter.unusedVariables false
set_option linter.unusedSimpArgs false
namespace Go.M
open Go.AV
def ownerOf (p : TPlaces) (key : Str) : Int := gAt p (partOf p.Cuts key)
theorem gAt_nat (p : TPlaces) (n : Nat) : gAt p (n : Int) = p.Groups.getD n 0 := by unfold gAt; rw [Int.toNat_natCast]
theorem partOf_count (l : List Str) (key : Str) : partOf l key = l.countP fun c => sle c key := by unfold partOf; rw [List.countP_eq_length_filter]
theorem sle_tr {a b c : Str} (h : sle a b = true) (k : sle b c = true) : sle a c = true := by
  have h' := h
  unfold sle at h
  simp only [Bool.or_eq_true, beq_iff_eq] at h
  rcases h with h | h
  · exact sle_trans h k
  · subst h; exact k
theorem sle_total {a b : Str} (h : sle a b = false) : sle b a = true := by
  have := bytesLess_tri a b
  unfold sle at *
  simp only [Bool.or_eq_false_iff, beq_eq_false_iff_ne, ne_eq] at h
  simp only [Bool.or_eq_true, beq_iff_eq]
  cases hb : Op.bytesLess b a with
  | true => exact .inl rfl
  | false => exact .inr (by simp_all)
theorem part_le {l : List Str} {a b : Str} (h : sle a b = true) : partOf l a ≤ partOf l b := by
  rw [partOf_count, partOf_count]
  exact List.countP_mono_left fun c _ hc => sle_tr hc h
theorem part_ins (l : List Str) (n : Nat) (k key : Str) : partOf (l.take n ++ k :: l.drop n) key = partOf l key + (if sle k key = true then 1 else 0) := by
  rw [partOf_count, partOf_count, List.countP_append, List.countP_cons]
  have h : l.countP (fun c => sle c key) = (l.take n).countP (fun c => sle c key) + (l.drop n).countP (fun c => sle c key) := by
    rw [← List.countP_append, List.take_append_drop]
  omega
theorem split_owner {p : TPlaces} (hg : goodPlaces p = true) (k key : Str) : ownerOf (insP p (partOf p.Cuts k) k) key = ownerOf p key := by
  have h4 := (good_facts hg).2.2.2.1
  unfold ownerOf
  rw [gAt_nat, gAt_nat]
  unfold insP
  simp only []
  rw [part_ins]
  have hn := partOf_le p.Cuts k
  have hr := partOf_le p.Cuts key
  have hl : (p.Groups.take (partOf p.Cuts k)).length = partOf p.Cuts k := by rw [List.length_take]; omega
  rw [List.getD_eq_getElem?_getD, List.getD_eq_getElem?_getD]
  cases hk : sle k key with
  | true =>
    have h1 := part_le (l := p.Cuts) hk
    rw [if_pos rfl, List.getElem?_append_right (by omega), hl, show partOf p.Cuts key + 1 - partOf p.Cuts k = (partOf p.Cuts key - partOf p.Cuts k) + 1 by omega, List.getElem?_cons_succ, List.getElem?_drop, show partOf p.Cuts k + (partOf p.Cuts key - partOf p.Cuts k) = partOf p.Cuts key by omega, ← List.getD_eq_getElem?_getD]
  | false =>
    have h1 := part_le (l := p.Cuts) (sle_total hk)
    rw [if_neg (by decide), Nat.add_zero]
    rcases Nat.lt_or_ge (partOf p.Cuts key) (partOf p.Cuts k) with h2 | h2
    · rw [List.getElem?_append_left (by omega), List.getElem?_take_of_lt h2, ← List.getD_eq_getElem?_getD]
    · have h3 : partOf p.Cuts key = partOf p.Cuts k := by omega
      rw [h3, List.getElem?_append_right (by omega), hl, Nat.sub_self, List.getElem?_cons_zero, List.getD_eq_getElem?_getD, Option.getD_some]
theorem tw_lt {α : Type} {p : α → Bool} : ∀ {l : List α} {i : Nat} {x : α}, i < (l.takeWhile p).length → l[i]? = some x → p x = true
  | [], i, x, h, _ => by simp at h
  | y :: l, i, x, h, hx => by
    cases hy : p y with
    | false => simp [hy] at h
    | true =>
      cases i with
      | zero => simp at hx; subst hx; exact hy
      | succ i => simp [hy] at h; exact tw_lt h (by simpa using hx)
theorem owner_same {a b : TPlaces} (hc : b.Cuts = a.Cuts) (hg : b.Groups = a.Groups) (key : Str) : ownerOf b key = ownerOf a key := by unfold ownerOf gAt; rw [hc, hg]
end Go.M

set_option linter.unusedVariables false
set_option linter.unusedSimpArgs false
namespace Go.M
def rangeOf (p : TPlaces) (key : Str) : Int × Bool := if (!goodPlaces p || !goodKey key) = true then (0, false) else ((partOf p.Cuts key : Int), true)
theorem nextP_ok {p : TPlaces} (h : (nextP p).2 = true) : goodPlaces (bump p) = true ∧ (nextP p).1 = bump p := by
  unfold nextP at h ⊢
  split at h
  · cases h
  · rename_i hh
    rw [if_neg hh]
    exact ⟨by simpa using hh, rfl⟩
theorem splitAt_ok {p : TPlaces} {key : Str} (h : (splitAt p key).2 = true) : goodPlaces p = true ∧ goodPlaces (splitAt p key).1 = true ∧ ∀ y, ownerOf (splitAt p key).1 y = ownerOf p y := by
  unfold splitAt at h ⊢
  split at h
  · cases h
  · rename_i hh
    rw [if_neg hh]
    obtain ⟨h1, h2⟩ := nextP_ok h
    have hg : goodPlaces p = true := by cases hg : goodPlaces p with | true => rfl | false => (rw [hg] at hh; simp at hh)
    rw [h2]
    exact ⟨hg, h1, fun y => (owner_same rfl rfl y).trans (split_owner hg key y)⟩
theorem sizeL_bd {α : Type} {f : α → Nat} {c : Nat} : ∀ {l : List α}, (∀ x ∈ l, f x ≤ c) → sizeL f l ≤ l.length * (c + 1)
  | [], _ => Nat.zero_le _
  | x :: l, h => by
    have h1 := sizeL_bd (l := l) fun y hy => h y (List.mem_cons_of_mem _ hy)
    have h2 := h x List.mem_cons_self
    unfold sizeL at h1 ⊢
    simp only [List.length_cons, List.map_cons, List.sum_cons]
    have : (l.length + 1) * (c + 1) = l.length * (c + 1) + (c + 1) := Nat.succ_mul _ _
    omega
theorem good_size {p : TPlaces} (h : goodPlaces p = true) : p.size ≤ 60 := by
  obtain ⟨_, _, h3, h4, _, h6⟩ := good_facts h
  have hk : ∀ k ∈ p.Cuts, k.length ≤ 12 := fun k hk => by
    have := List.all_eq_true.1 h6 k hk
    unfold goodKey at this
    simp only [Bool.and_eq_true] at this
    have h8 := this.1
    unfold within at h8
    simp at h8
    omega
  have h5 := sizeL_bd (f := fun k : Str => k.length) hk
  unfold TPlaces.size
  have h7 : p.Cuts.length * 13 ≤ 4 * 13 := Nat.mul_le_mul_right _ h3
  omega
theorem good_one {v g : Int} (hv : 0 ≤ v ∧ v ≤ 50) (hg : 0 ≤ g ∧ g < 4) : goodPlaces ⟨v, [], [g]⟩ = true := by
  have e1 : within v 0 50 = true := by unfold within; simp; omega
  have e2 : isGroup g = true := by unfold isGroup within; simp; omega
  unfold goodPlaces
  simp only [List.any_cons, List.any_nil, e1, e2]
  rfl
theorem good_set {p : TPlaces} {i : Nat} {g : Int} (h : goodPlaces p = true) (hg : 0 ≤ g ∧ g < 4) : goodPlaces ⟨p.Ver, p.Cuts, p.Groups.set i g⟩ = true := by
  have e2 : isGroup g = true := by unfold isGroup within; simp; omega
  unfold goodPlaces at h ⊢
  simp only [Bool.and_eq_true, Bool.not_eq_true', List.any_eq_false, List.length_set] at h ⊢
  refine ⟨h.1, fun x hx => ?_⟩
  rcases List.mem_or_eq_of_mem_set hx with h1 | h1
  · exact h.2 x h1
  · rw [h1, e2]; decide
end Go.M

set_option linter.unusedVariables false
set_option linter.unusedSimpArgs false
set_option maxRecDepth 100000
namespace Go.M
open Go.AV
theorem splitAt_size (p : TPlaces) (key : Str) : (splitAt p key).1.size ≤ p.size + key.length + 2 := by
  unfold splitAt; split
  · exact Nat.zero_le _
  · unfold nextP; split
    · exact Nat.zero_le _
    · exact Nat.le_of_eq ((bump_size _).trans (insP_size p _ key))
theorem places_lens {p : TPlaces} {m : Nat} (h : p.size ≤ m) : p.Cuts.length ≤ m ∧ p.Groups.length ≤ m := by
  unfold TPlaces.size at h
  have := sizeL_len (f := fun x : Str => x.length) (l := p.Cuts)
  exact ⟨by omega, by omega⟩
theorem sizeL_snoc {α : Type} (f : α → Nat) (l : List α) (x : α) : sizeL f (l ++ [x]) = sizeL f l + f x + 1 := by
  unfold sizeL; simp only [List.length_append, List.map_append, List.sum_append, List.length_cons, List.length_nil, List.map_cons, List.map_nil, List.sum_cons, List.sum_nil]; omega
end Go.M
namespace Go.Proofs.YtdgoejkijpllpaaGreatDoor
open Go Go.AV Go.M
attribute [local irreducible] OpW OpA OpS AWP FSpec ESpec GSpec OpE RetOk RetOkG RvDen Le Ev GuardIs SrcIs Int.tmod IntKind.wrap bandI
theorem rangeOf_spec (p : TPlaces) (key : Str) (hs : p.size ≤ 4194304) (hk : key.length ≤ 4194304) : FSpec Tryz.prog 5 [AV.agg p.cs, AV.str key] (AV.tup [AV.int (rangeOf p key).1, AV.bool (rangeOf p key).2]) := by
  refine spec_of_awp Tryz.func5 rfl Tryz.ntmps5 rfl ?_
  refine awp_seq ?_
  refine awp_region ?_
  refine sq_box rfl rfl rfl rfl (ev_tmp rfl) ?_
  intro b2
  refine sq_plain rfl rfl rfl (w_assign rfl ev_ci) ?_
  refine sq_plain rfl rfl rfl (w_assign rfl ev_cb) ?_
  refine sq_nil ?_
  refine awp_seq ?_
  refine awp_seq ?_
  refine awp_region ?_
  refine sq_plain rfl rfl rfl (w_loadA 0 rfl (ev_tmp rfl) rfl Tryz.isAgg26 Tryz.sizeOf26 rfl) ?_
  refine sq_plain rfl rfl rfl (w_call rfl Tryz.call17 rfl (goodPlaces_spec _ (by first | assumption | omega)) (evl_cons (ev_tmp rfl) evl_nil)) ?_
  refine sq_plain rfl rfl rfl (w_not rfl (ev_tmp rfl)) ?_
  refine sq_plain rfl rfl rfl (w_move rfl (ev_tmp rfl)) ?_
  refine sq_grd rfl rfl (guard_f rfl rfl rfl) (fun hc => w_move rfl (ev_tmp rfl)) ?_
  refine sq_grd rfl rfl (guard_f rfl rfl rfl) (fun hc => w_call rfl Tryz.call18 rfl (goodKey_spec _ (by omega)) (evl_cons (ev_whn rfl hc) evl_nil)) ?_
  refine sq_grd rfl rfl (guard_f rfl rfl rfl) (fun hc => w_not rfl (ev_whn rfl hc)) ?_
  refine sq_plain rfl rfl rfl (w_or rfl (ev_tmp rfl) (evif_w rfl)) ?_
  refine sq_nil ?_
  refine awp_cond (ev_tmp rfl) ?_ ?_
  · intro h13
    have he : rangeOf p key = (0, false) := by unfold rangeOf; rw [if_pos h13]
    rw [he]
    refine awp_seq ?_
    refine awp_region ?_
    refine sq_plain rfl rfl rfl (w_assign rfl ev_ci) ?_
    refine sq_plain rfl rfl rfl (w_assign rfl ev_cb) ?_
    refine sq_nil ?_
    refine awp_ret ?_
    exact retN rfl (by decide) (rv_cons (rv_tmp' rfl (by first | rfl | (refine congrArg AV.bool ?_; simp_all; done))) (rv_cons (rv_tmp' rfl (by first | rfl | (refine congrArg AV.bool ?_; simp_all; done))) rv_nil))
  · intro h13
    have he : rangeOf p key = ((partOf p.Cuts key : Int), true) := by unfold rangeOf; rw [if_neg (by rw [h13]; decide)]
    rw [he]
    refine awp_skip ?_
    refine awp_seq ?_
    refine awp_region ?_
    refine sq_plain rfl rfl rfl (w_fldBn 1 rfl Tryz.underlying26 rfl Tryz.sizeOf23 (ev_tmp rfl) rfl) ?_
    refine sq_plain rfl rfl rfl (w_loadB1 0 rfl (ev_tmp rfl) rfl Tryz.isAgg23 rfl) ?_
    refine sq_plain rfl rfl rfl (w_move rfl (ev_tmp rfl)) ?_
    refine sq_plain rfl rfl rfl (w_call rfl Tryz.call19 rfl (partOf_spec _ _) (evl_cons (ev_tmp rfl) (evl_cons (ev_tmp rfl) evl_nil))) ?_
    refine sq_plain rfl rfl rfl (w_assign rfl (ev_tmp rfl)) ?_
    refine sq_plain rfl rfl rfl (w_assign rfl ev_cb) ?_
    refine sq_nil ?_
    refine awp_ret ?_
    exact retN rfl (by decide) (rv_cons (rv_tmp' rfl (by first | rfl | (refine congrArg AV.bool ?_; simp_all; done))) (rv_cons (rv_tmp' rfl (by first | rfl | (refine congrArg AV.bool ?_; simp_all; done))) rv_nil))
theorem curPlaces_own (b : Nat) (code : List Int) (hcode : ByteL code) (c : TCur) (hp : c.p ≤ 2000000) : GSpec Tryz.prog 33 [AV.ptr b 0] [.box b 45 (curC code c)] (fun x : TCur × TPlaces × Value × Value => x.1.p ≤ c.p + 40 ∧ goodPlaces x.2.1 = true) (fun x => .box b 45 (curC code x.1) :: TPlaces.ow x.2.1 x.2.2) (fun x => AV.agg (TPlaces.ocs x.2.1 x.2.2)) := by
  refine gspec_of_awp Tryz.func33 rfl Tryz.ntmps33 rfl ?_
  refine awp_seq ?_
  refine awp_region ?_
  refine sq_alloc rfl rfl rfl rfl Tryz.zeroValue26 rfl ?_
  intro b2
  refine sq_nil ?_
  refine awp_seq ?_
  refine awp_region ?_
  refine sq_plain rfl rfl rfl (w_move rfl (ev_tmp rfl)) ?_
  refine sq_callG [1] rfl rfl rfl rfl Tryz.call30 rfl (curPick_own _ _ hcode _ _ (by omega) (by omega)) (evl_cons (ev_tmp rfl) (evl_cons ev_ci evl_nil)) rfl ?_
  intro x8 ok8
  refine sq_plain rfl rfl rfl (w_move rfl (ev_tmp rfl)) ?_
  refine sq_callG [0] rfl rfl rfl rfl Tryz.call30 rfl (curPick_own _ _ hcode _ _ (by omega) (by omega)) (evl_cons (ev_tmp rfl) (evl_cons ev_ci evl_nil)) rfl ?_
  intro x10 ok10
  refine sq_bsliceO rfl rfl rfl rfl Tryz.underlying24 Tryz.sizeOf3 Tryz.zeroValue3 rfl rfl rfl rfl (bp_cons (ev_tmp rfl) (as_ik _ _) bp_nil) rfl rfl ?_
  intro v11
  refine sq_fact 0 rfl fun one_v11 => ?_
  refine sq_plain rfl rfl rfl (w_build (places := #[(0, 1), (1, 1), (2, 1)]) rfl Tryz.underlying26 Tryz.zeroValue26 (fun w => by kernel_rfl) rfl (bp_cons (ev_tmp rfl) (as_ik _ _) (bp_cons (ev_tmp rfl) (as_is one_v11) bp_nil)) rfl) ?_
  refine sq_alloc rfl rfl rfl rfl Tryz.zeroValue26 rfl ?_
  intro b3
  refine sq_storeB0 0 rfl rfl rfl (ev_tmp rfl) (ev_tmp rfl) (as_agg _) rfl Tryz.sizeOf26 rfl ?_
  refine sq_nil ?_
  refine awp_seq ?_
  refine awp_seq ?_
  refine awp_own (by first | (simp only [TPlaces.ow, TPlaces.ocs, pick, List.eraseIdx_cons_zero, List.eraseIdx_cons_succ, List.set_cons_zero, List.set_cons_succ, List.cons_append, List.nil_append, List.getElem?_cons_zero, List.getElem?_cons_succ, List.append_nil, List.take_succ_cons, List.take_zero, List.drop_succ_cons, List.drop_zero]; exact rfl) | exact rfl) ?_
  refine awp_region ?_
  refine sq_plain rfl rfl rfl (w_move rfl (ev_tmp rfl)) ?_
  refine sq_callG [2] rfl rfl rfl rfl Tryz.call30 rfl (curPick_own _ _ hcode _ _ (by omega) (by omega)) (evl_cons (ev_tmp rfl) (evl_cons ev_ci evl_nil)) rfl ?_
  intro x14 ok14
  refine sq_plain rfl rfl rfl (w_assign rfl (ev_tmp rfl)) ?_
  refine sq_nil ?_
  refine awp_block ?_
  refine awp_own (by first | (simp only [TPlaces.ow, TPlaces.ocs, pick, List.eraseIdx_cons_zero, List.eraseIdx_cons_succ, List.set_cons_zero, List.set_cons_succ, List.cons_append, List.nil_append, List.getElem?_cons_zero, List.getElem?_cons_succ, List.append_nil, List.take_succ_cons, List.take_zero, List.drop_succ_cons, List.drop_zero]; exact rfl) | exact rfl) ?_
  refine awp_nilown 9 1 ?_
  refine AWP.le (le_pick [2, 0, 1, 0] rfl) ?_
  refine awp_loop_i4 [(0, _), (2, _), (3, _)] _ (fun (n : Int) (cc : TCur) (p : TPlaces) (y : Value × Value) => (0 ≤ n ∧ n ≤ 4) ∧ cc.p + 6 * n ≤ c.p + 40 ∧ goodPlaces p = true) (fun (n : Int) (cc : TCur) (p : TPlaces) (y : Value × Value) => [.box b3 26 (TPlaces.ocs p y), .arr y.1 9 1 (p.Cuts.map fun x => [AV.str x]), .arr y.2 3 1 (p.Groups.map fun x => [AV.int x]), .box b 45 (curC code cc)]) (fun (n : Int) (cc : TCur) (p : TPlaces) (y : Value × Value) => [(4, AV.int n)]) (fun (n : Int) (cc : TCur) (p : TPlaces) (y : Value × Value) => n.toNat) (x14.2) (x14.1) (⟨x8.2, [], [x10.2]⟩) (((Value.slice none 0 0), v11)) ?_ (le_eq (by rfl) ⟨rfl, rfl, rfl, rfl, trivial⟩) ?_
  · exact ⟨by omega, by omega, good_one (by omega) (by omega)⟩
  intro n cc p y hinv
  have hps := good_size hinv.2.2
  refine awp_seq ?_
  refine awp_seq ?_
  refine awp_region ?_
  refine sq_plain rfl rfl rfl (w_move rfl (ev_tmp rfl)) ?_
  refine sq_plain rfl rfl rfl (w_gtr rfl (ev_tmp rfl) ev_ci) ?_
  refine sq_nil ?_
  refine awp_cond (ev_tmp rfl) ?_ ?_
  · intro h16
    have k16 := of_decide_eq_true h16; try simp only [List.length_map] at k16
    refine awp_skip ?_
    refine awp_seq ?_
    refine awp_block ?_
    refine awp_seq ?_
    refine AWP.le (le_pick [0, 0, 0] rfl) ?_
    refine awp_region_tree _ 9 (.pure 0 (.pure 1 (.e2 2 (.e2 3 (.pure 4 (.pure 5 (.pure 6 (.e1 7 (.e1 8 .nil))))) 7 (.e1 3 (.pure 4 (.pure 5 (.pure 6 (.e1 8 .nil)))))) 7 (.e1 2 (.e1 3 (.pure 4 (.pure 5 (.pure 6 (.e1 8 .nil))))))))) (by kernel_rfl) (by kernel_rfl) rfl (invx_take 3) ?_
    refine bt_plain rfl rfl rfl (fun ext => w_loadA 0 rfl (ev_tmp rfl) rfl Tryz.isAgg26 Tryz.sizeOf26 rfl) ?_
    refine bt_plain rfl rfl rfl (fun ext => w_move rfl (ev_tmp rfl)) ?_
    refine bt_e2 ?_ ?_
    · refine eff_s rfl rfl rfl (opE_call [3] rfl Tryz.call54 rfl (curKey_own _ _ hcode _ (by omega)) (evl_cons (ev_tmp rfl) evl_nil) rfl) (fun a _ => (by first | exact invx_mk rfl | exact invx_mk (List.append_assoc _ _ _) | exact invx_all)) ?_
      intro x22 ok22
      refine bt_e2 ?_ ?_
      · refine eff_s rfl rfl rfl (opE_callB [] rfl Tryz.call53 rfl (splitAtS_own p x22.2 (by omega) (by omega)) rfl (evlb_cons (evb_lt (ev_tmp rfl) (lt_agg (lc_cons lt_refl (lc_cons (lt_arr (List.mem_of_getElem? (i := 1) rfl) le_refl_e) (lc_cons (lt_arr (List.mem_of_getElem? (i := 2) rfl) le_refl_e) lc_nil))))) (evlb_cons (evb (ev_tmp rfl)) evlb_nil)) (by first | exact flatO_nil | (intro _; exact flatO_nil) | (intro _; first | exact flat_is _ | exact flat_ik _ _ | exact flat_bool _ | exact flat_str _ | exact flat_nils) | (intro _; refine flat_tup ?_; (repeat (first | exact flatl_nil | (refine flatl_cons (by first | (first | exact flat_is _ | exact flat_ik _ _ | exact flat_bool _ | exact flat_str _ | exact flat_nils) | (refine flat_agg ?_; (repeat (first | exact flatl_nil | (refine flatl_cons (by first | exact flat_is _ | exact flat_ik _ _ | exact flat_bool _ | exact flat_str _ | exact flat_nils) ?_))))) ?_))); done) | (intro _; refine flat_agg ?_; (repeat (first | exact flatl_nil | (refine flatl_cons (by first | exact flat_is _ | exact flat_ik _ _ | exact flat_bool _ | exact flat_str _ | exact flat_nils) ?_))); done) | ((repeat (first | exact flatO_nil | (refine flatO_cons (flatO_box ?_) ?_; (repeat (first | exact flatl_nil | (refine flatl_cons (by first | exact flat_is _ | exact flat_ik _ _ | exact flat_bool _ | exact flat_str _ | exact flat_nils) ?_)))) | (refine flatO_cons (flatO_arr ?_) ?_; (repeat (first | exact flate_nil | (refine flate_map (fun _ => ?_); (first | exact TWrite.flat _ | exact TFeedItem.flat _ | exact TIdx.flat _ | exact TVer.flat _ | (repeat (first | exact flatl_nil | (refine flatl_cons (by first | exact flat_is _ | exact flat_ik _ _ | exact flat_bool _ | exact flat_str _ | exact flat_nils) ?_))))) | (refine flate_rep ?_; (first | exact TWrite.flat _ | exact TFeedItem.flat _ | exact TIdx.flat _ | exact TVer.flat _ | (repeat (first | exact flatl_nil | (refine flatl_cons (by first | exact flat_is _ | exact flat_ik _ _ | exact flat_bool _ | exact flat_str _ | exact flat_nils) ?_))))) | (refine flate_cons ?_ ?_; (first | exact TWrite.flat _ | exact TFeedItem.flat _ | exact TIdx.flat _ | exact TVer.flat _ | (repeat (first | exact flatl_nil | (refine flatl_cons (by first | exact flat_is _ | exact flat_ik _ _ | exact flat_bool _ | exact flat_str _ | exact flat_nils) ?_))))) | refine flate_app ?_ ?_))))); done) | (intro _; (repeat (first | exact flatO_nil | (refine flatO_cons (flatO_box ?_) ?_; (repeat (first | exact flatl_nil | (refine flatl_cons (by first | exact flat_is _ | exact flat_ik _ _ | exact flat_bool _ | exact flat_str _ | exact flat_nils) ?_)))) | (refine flatO_cons (flatO_arr ?_) ?_; (repeat (first | exact flate_nil | (refine flate_map (fun _ => ?_); (first | exact TWrite.flat _ | exact TFeedItem.flat _ | exact TIdx.flat _ | exact TVer.flat _ | (repeat (first | exact flatl_nil | (refine flatl_cons (by first | exact flat_is _ | exact flat_ik _ _ | exact flat_bool _ | exact flat_str _ | exact flat_nils) ?_))))) | (refine flate_rep ?_; (first | exact TWrite.flat _ | exact TFeedItem.flat _ | exact TIdx.flat _ | exact TVer.flat _ | (repeat (first | exact flatl_nil | (refine flatl_cons (by first | exact flat_is _ | exact flat_ik _ _ | exact flat_bool _ | exact flat_str _ | exact flat_nils) ?_))))) | (refine flate_cons ?_ ?_; (first | exact TWrite.flat _ | exact TFeedItem.flat _ | exact TIdx.flat _ | exact TVer.flat _ | (repeat (first | exact flatl_nil | (refine flatl_cons (by first | exact flat_is _ | exact flat_ik _ _ | exact flat_bool _ | exact flat_str _ | exact flat_nils) ?_))))) | refine flate_app ?_ ?_))))); done)) (by first | exact flatO_nil | (intro _; exact flatO_nil) | (intro _; first | exact flat_is _ | exact flat_ik _ _ | exact flat_bool _ | exact flat_str _ | exact flat_nils) | (intro _; refine flat_tup ?_; (repeat (first | exact flatl_nil | (refine flatl_cons (by first | (first | exact flat_is _ | exact flat_ik _ _ | exact flat_bool _ | exact flat_str _ | exact flat_nils) | (refine flat_agg ?_; (repeat (first | exact flatl_nil | (refine flatl_cons (by first | exact flat_is _ | exact flat_ik _ _ | exact flat_bool _ | exact flat_str _ | exact flat_nils) ?_))))) ?_))); done) | (intro _; refine flat_agg ?_; (repeat (first | exact flatl_nil | (refine flatl_cons (by first | exact flat_is _ | exact flat_ik _ _ | exact flat_bool _ | exact flat_str _ | exact flat_nils) ?_))); done) | ((repeat (first | exact flatO_nil | (refine flatO_cons (flatO_box ?_) ?_; (repeat (first | exact flatl_nil | (refine flatl_cons (by first | exact flat_is _ | exact flat_ik _ _ | exact flat_bool _ | exact flat_str _ | exact flat_nils) ?_)))) | (refine flatO_cons (flatO_arr ?_) ?_; (repeat (first | exact flate_nil | (refine flate_map (fun _ => ?_); (first | exact TWrite.flat _ | exact TFeedItem.flat _ | exact TIdx.flat _ | exact TVer.flat _ | (repeat (first | exact flatl_nil | (refine flatl_cons (by first | exact flat_is _ | exact flat_ik _ _ | exact flat_bool _ | exact flat_str _ | exact flat_nils) ?_))))) | (refine flate_rep ?_; (first | exact TWrite.flat _ | exact TFeedItem.flat _ | exact TIdx.flat _ | exact TVer.flat _ | (repeat (first | exact flatl_nil | (refine flatl_cons (by first | exact flat_is _ | exact flat_ik _ _ | exact flat_bool _ | exact flat_str _ | exact flat_nils) ?_))))) | (refine flate_cons ?_ ?_; (first | exact TWrite.flat _ | exact TFeedItem.flat _ | exact TIdx.flat _ | exact TVer.flat _ | (repeat (first | exact flatl_nil | (refine flatl_cons (by first | exact flat_is _ | exact flat_ik _ _ | exact flat_bool _ | exact flat_str _ | exact flat_nils) ?_))))) | refine flate_app ?_ ?_))))); done) | (intro _; (repeat (first | exact flatO_nil | (refine flatO_cons (flatO_box ?_) ?_; (repeat (first | exact flatl_nil | (refine flatl_cons (by first | exact flat_is _ | exact flat_ik _ _ | exact flat_bool _ | exact flat_str _ | exact flat_nils) ?_)))) | (refine flatO_cons (flatO_arr ?_) ?_; (repeat (first | exact flate_nil | (refine flate_map (fun _ => ?_); (first | exact TWrite.flat _ | exact TFeedItem.flat _ | exact TIdx.flat _ | exact TVer.flat _ | (repeat (first | exact flatl_nil | (refine flatl_cons (by first | exact flat_is _ | exact flat_ik _ _ | exact flat_bool _ | exact flat_str _ | exact flat_nils) ?_))))) | (refine flate_rep ?_; (first | exact TWrite.flat _ | exact TFeedItem.flat _ | exact TIdx.flat _ | exact TVer.flat _ | (repeat (first | exact flatl_nil | (refine flatl_cons (by first | exact flat_is _ | exact flat_ik _ _ | exact flat_bool _ | exact flat_str _ | exact flat_nils) ?_))))) | (refine flate_cons ?_ ?_; (first | exact TWrite.flat _ | exact TFeedItem.flat _ | exact TIdx.flat _ | exact TVer.flat _ | (repeat (first | exact flatl_nil | (refine flatl_cons (by first | exact flat_is _ | exact flat_ik _ _ | exact flat_bool _ | exact flat_str _ | exact flat_nils) ?_))))) | refine flate_app ?_ ?_))))); done)) (by first | exact flatO_nil | (intro _; exact flatO_nil) | (intro _; first | exact flat_is _ | exact flat_ik _ _ | exact flat_bool _ | exact flat_str _ | exact flat_nils) | (intro _; refine flat_tup ?_; (repeat (first | exact flatl_nil | (refine flatl_cons (by first | (first | exact flat_is _ | exact flat_ik _ _ | exact flat_bool _ | exact flat_str _ | exact flat_nils) | (refine flat_agg ?_; (repeat (first | exact flatl_nil | (refine flatl_cons (by first | exact flat_is _ | exact flat_ik _ _ | exact flat_bool _ | exact flat_str _ | exact flat_nils) ?_))))) ?_))); done) | (intro _; refine flat_agg ?_; (repeat (first | exact flatl_nil | (refine flatl_cons (by first | exact flat_is _ | exact flat_ik _ _ | exact flat_bool _ | exact flat_str _ | exact flat_nils) ?_))); done) | ((repeat (first | exact flatO_nil | (refine flatO_cons (flatO_box ?_) ?_; (repeat (first | exact flatl_nil | (refine flatl_cons (by first | exact flat_is _ | exact flat_ik _ _ | exact flat_bool _ | exact flat_str _ | exact flat_nils) ?_)))) | (refine flatO_cons (flatO_arr ?_) ?_; (repeat (first | exact flate_nil | (refine flate_map (fun _ => ?_); (first | exact TWrite.flat _ | exact TFeedItem.flat _ | exact TIdx.flat _ | exact TVer.flat _ | (repeat (first | exact flatl_nil | (refine flatl_cons (by first | exact flat_is _ | exact flat_ik _ _ | exact flat_bool _ | exact flat_str _ | exact flat_nils) ?_))))) | (refine flate_rep ?_; (first | exact TWrite.flat _ | exact TFeedItem.flat _ | exact TIdx.flat _ | exact TVer.flat _ | (repeat (first | exact flatl_nil | (refine flatl_cons (by first | exact flat_is _ | exact flat_ik _ _ | exact flat_bool _ | exact flat_str _ | exact flat_nils) ?_))))) | (refine flate_cons ?_ ?_; (first | exact TWrite.flat _ | exact TFeedItem.flat _ | exact TIdx.flat _ | exact TVer.flat _ | (repeat (first | exact flatl_nil | (refine flatl_cons (by first | exact flat_is _ | exact flat_ik _ _ | exact flat_bool _ | exact flat_str _ | exact flat_nils) ?_))))) | refine flate_app ?_ ?_))))); done) | (intro _; (repeat (first | exact flatO_nil | (refine flatO_cons (flatO_box ?_) ?_; (repeat (first | exact flatl_nil | (refine flatl_cons (by first | exact flat_is _ | exact flat_ik _ _ | exact flat_bool _ | exact flat_str _ | exact flat_nils) ?_)))) | (refine flatO_cons (flatO_arr ?_) ?_; (repeat (first | exact flate_nil | (refine flate_map (fun _ => ?_); (first | exact TWrite.flat _ | exact TFeedItem.flat _ | exact TIdx.flat _ | exact TVer.flat _ | (repeat (first | exact flatl_nil | (refine flatl_cons (by first | exact flat_is _ | exact flat_ik _ _ | exact flat_bool _ | exact flat_str _ | exact flat_nils) ?_))))) | (refine flate_rep ?_; (first | exact TWrite.flat _ | exact TFeedItem.flat _ | exact TIdx.flat _ | exact TVer.flat _ | (repeat (first | exact flatl_nil | (refine flatl_cons (by first | exact flat_is _ | exact flat_ik _ _ | exact flat_bool _ | exact flat_str _ | exact flat_nils) ?_))))) | (refine flate_cons ?_ ?_; (first | exact TWrite.flat _ | exact TFeedItem.flat _ | exact TIdx.flat _ | exact TVer.flat _ | (repeat (first | exact flatl_nil | (refine flatl_cons (by first | exact flat_is _ | exact flat_ik _ _ | exact flat_bool _ | exact flat_str _ | exact flat_nils) ?_))))) | refine flate_app ?_ ?_))))); done))) (fun a _ => (by first | exact invx_mk rfl | exact invx_mk (List.append_assoc _ _ _) | exact invx_all)) ?_
        intro x23 ok23
        refine bt_plain rfl rfl rfl (fun ext => w_move rfl (ev_tmp rfl)) ?_
        refine bt_plain rfl rfl rfl (fun ext => w_extract rfl (ev_tmp rfl) rfl) ?_
        refine bt_plain rfl rfl rfl (fun ext => w_extract rfl (ev_tmp rfl) rfl) ?_
        refine bt_e1 ?_
        refine eff_s rfl rfl rfl (opE_alloc rfl Tryz.zeroValue26 rfl) (fun a _ => (by first | exact invx_mk rfl | exact invx_mk (List.append_assoc _ _ _) | exact invx_all)) ?_
        intro b5 _
        refine bt_e1 ?_
        refine eff_s0 rfl rfl rfl (opE_storeB0 7 rfl rfl (ev_tmp rfl) (ev_tmp rfl) (as_agg _) rfl Tryz.sizeOf26 rfl) (fun a _ => (by first | exact invx_mk rfl | exact invx_mk (List.append_assoc _ _ _) | exact invx_all)) ?_
        intro _ _
        refine bt_nil ?_
        refine sq_plain rfl rfl rfl (w_assign rfl (ev_tmp rfl)) ?_
        refine sq_nil ?_
        refine awp_seq ?_
        refine awp_own (by first | (simp only [TPlaces.ow, TPlaces.ocs, pick, List.eraseIdx_cons_zero, List.eraseIdx_cons_succ, List.set_cons_zero, List.set_cons_succ, List.cons_append, List.nil_append, List.getElem?_cons_zero, List.getElem?_cons_succ, List.append_nil, List.take_succ_cons, List.take_zero, List.drop_succ_cons, List.drop_zero]; exact rfl) | exact rfl) ?_
        refine awp_region ?_
        refine sq_plain rfl rfl rfl (w_move rfl (ev_tmp rfl)) ?_
        refine sq_nil ?_
        refine awp_cond (ev_tmp rfl) ?_ ?_
        · intro h26
          have hsz := splitAt_size p x22.2
          have hgd := (splitAt_ok (p := p) (key := x22.2) (by rw [splitAt_eq]; exact h26)).2.1
          rw [splitAt_eq] at hsz hgd
          have hgl := (good_facts hgd).2.2.2.1
          have hpl := places_lens hsz
          refine awp_seq ?_
          refine awp_own (by first | (simp only [TPlaces.ow, TPlaces.ocs, pick, List.eraseIdx_cons_zero, List.eraseIdx_cons_succ, List.set_cons_zero, List.set_cons_succ, List.cons_append, List.nil_append, List.getElem?_cons_zero, List.getElem?_cons_succ, List.append_nil, List.take_succ_cons, List.take_zero, List.drop_succ_cons, List.drop_zero]; exact rfl) | exact rfl) ?_
          refine awp_region ?_
          refine sq_plain rfl rfl rfl (w_loadA 7 rfl (ev_tmp rfl) rfl Tryz.isAgg26 Tryz.sizeOf26 rfl) ?_
          refine sq_storeB0 0 rfl rfl rfl (ev_tmp rfl) (ev_tmp rfl) (as_agg _) rfl Tryz.sizeOf26 rfl ?_
          refine sq_nil ?_
          refine awp_own (by first | (simp only [TPlaces.ow, TPlaces.ocs, pick, List.eraseIdx_cons_zero, List.eraseIdx_cons_succ, List.set_cons_zero, List.set_cons_succ, List.cons_append, List.nil_append, List.getElem?_cons_zero, List.getElem?_cons_succ, List.append_nil, List.take_succ_cons, List.take_zero, List.drop_succ_cons, List.drop_zero]; exact rfl) | exact rfl) ?_
          refine AWP.le (le_pick [0, 4, 4] rfl) ?_
          refine awp_region_mix _ [(0, false), (1, false), (2, false), (3, false), (4, false), (5, false), (7, false), (6, true), (8, true)] (by kernel_rfl) (by kernel_rfl) rfl (invx_take 3) ?_
          refine bc_plain rfl rfl rfl (fun ext => w_fldBn 2 rfl Tryz.underlying26 rfl Tryz.sizeOf24 (ev_tmp rfl) rfl) ?_
          refine bc_plain rfl rfl rfl (fun ext => w_loadB1 0 rfl (ev_tmp rfl) rfl Tryz.isAgg24 rfl) ?_
          refine bc_plain rfl rfl rfl (fun ext => w_move rfl (ev_tmp rfl)) ?_
          refine bc_plain rfl rfl rfl (fun ext => w_fldBn 2 rfl Tryz.underlying26 rfl Tryz.sizeOf24 (ev_tmp rfl) rfl) ?_
          refine bc_plain rfl rfl rfl (fun ext => w_loadB1 0 rfl (ev_tmp rfl) rfl Tryz.isAgg24 rfl) ?_
          refine bc_plain rfl rfl rfl (fun ext => w_alen 2 rfl Tryz.underlying24 (ev_tmp rfl) rfl) ?_
          refine bc_plain rfl rfl rfl (fun ext => w_move rfl (ev_tmp rfl)) ?_
          refine bc_eff rfl rfl rfl (opE_call [6] rfl Tryz.call30 rfl (curPick_own _ _ hcode _ _ (by simp only [List.length_map]; omega) (by omega)) (evl_cons (ev_tmp rfl) (evl_cons (ev_tmp rfl) evl_nil)) rfl) (fun a _ => (by first | exact invx_mk rfl | exact invx_mk (List.append_assoc _ _ _) | exact invx_all)) ?_
          intro x34 ok34
          refine bc_eff rfl rfl rfl (opE_call [7] rfl Tryz.call30 rfl (curPick_own _ _ hcode _ _ (by omega) (by omega)) (evl_cons (ev_tmp rfl) (evl_cons ev_ci evl_nil)) rfl) (fun a _ => (by first | exact invx_mk rfl | exact invx_mk (List.append_assoc _ _ _) | exact invx_all)) ?_
          intro x36 ok36
          refine bc_nil ?_
          refine sq_plain rfl rfl rfl (w_aidx 2 rfl Tryz.underlying24 Tryz.sizeOf3 (ev_tmp rfl) rfl (ev_tmp rfl) (by first | omega | ((try simp only [List.length_map, List.length_take, List.length_cons, List.length_nil, chunks_len, szR] at *); omega) | (have hc2 := hc; simp only [Bool.and_eq_true, Bool.or_eq_true, Bool.or_eq_false_iff, Bool.and_eq_false_iff, Bool.not_eq_true', Bool.not_eq_false', decide_eq_true_eq, decide_eq_false_iff_not, beq_iff_eq, bne_iff_ne, List.length_map, List.length_take] at hc2; omega)) (by first | omega | ((try simp only [List.length_map, List.length_take, List.length_cons, List.length_nil, chunks_len, szR] at *); omega) | (have hc2 := hc; simp only [Bool.and_eq_true, Bool.or_eq_true, Bool.or_eq_false_iff, Bool.and_eq_false_iff, Bool.not_eq_true', Bool.not_eq_false', decide_eq_true_eq, decide_eq_false_iff_not, beq_iff_eq, bne_iff_ne, List.length_map, List.length_take] at hc2; omega))) ?_
          refine sq_storeA 2 rfl rfl rfl (ev_tmp rfl) (ev_tmp rfl) (as_ik _ _) rfl Tryz.sizeOf3 rfl (by first | omega | ((try simp only [List.length_map, List.length_take, List.length_cons, List.length_nil, chunks_len, szR] at *); omega) | (have hc2 := hc; simp only [Bool.and_eq_true, Bool.or_eq_true, Bool.or_eq_false_iff, Bool.and_eq_false_iff, Bool.not_eq_true', Bool.not_eq_false', decide_eq_true_eq, decide_eq_false_iff_not, beq_iff_eq, bne_iff_ne, List.length_map, List.length_take] at hc2; omega)) ?_
          refine sq_nil ?_
          refine awp_own (by first | (simp only [TPlaces.ow, TPlaces.ocs, pick, List.eraseIdx_cons_zero, List.eraseIdx_cons_succ, List.set_cons_zero, List.set_cons_succ, List.cons_append, List.nil_append, List.getElem?_cons_zero, List.getElem?_cons_succ, List.append_nil, List.take_succ_cons, List.take_zero, List.drop_succ_cons, List.drop_zero]; exact rfl) | exact rfl) ?_
          refine awp_region ?_
          refine sq_plain rfl rfl rfl (w_move rfl (ev_tmp rfl)) ?_
          refine sq_plain rfl rfl rfl (w_subi rfl (ev_tmp rfl) ev_ci (by first | omega | ((try simp only [List.length_map, List.length_take, List.length_cons, List.length_nil, chunks_len, szR] at *); omega) | (have hc2 := hc; simp only [Bool.and_eq_true, Bool.or_eq_true, Bool.or_eq_false_iff, Bool.and_eq_false_iff, Bool.not_eq_true', Bool.not_eq_false', decide_eq_true_eq, decide_eq_false_iff_not, beq_iff_eq, bne_iff_ne, List.length_map, List.length_take] at hc2; omega))) ?_
          refine sq_plain rfl rfl rfl (w_assign rfl (ev_tmp rfl)) ?_
          refine sq_nil ?_
          refine round_end4 n cc p y (n - 1) (x36.1) (⟨(splitAtS p x22.2).1.Ver, (splitAtS p x22.2).1.Cuts, (splitAtS p x22.2).1.Groups.set x34.2.toNat x36.2⟩) ((x23.1, x23.2)) ?_ ?_ (Le.trans (le_pick [3, 3, 4, 0, 0, 0, 1] rfl) (le_dropeq 3 (by first | rfl | (rw [List.map_set]; rfl)) ⟨rfl, rfl, rfl, rfl, trivial⟩))
          · exact ⟨by omega, by omega, good_set hgd (by omega)⟩
          · omega
        · intro h26
          refine awp_skip ?_
          refine awp_own (by first | (simp only [TPlaces.ow, TPlaces.ocs, pick, List.eraseIdx_cons_zero, List.eraseIdx_cons_succ, List.set_cons_zero, List.set_cons_succ, List.cons_append, List.nil_append, List.getElem?_cons_zero, List.getElem?_cons_succ, List.append_nil, List.take_succ_cons, List.take_zero, List.drop_succ_cons, List.drop_zero]; exact rfl) | exact rfl) ?_
          refine awp_region ?_
          refine sq_plain rfl rfl rfl (w_move rfl (ev_tmp rfl)) ?_
          refine sq_plain rfl rfl rfl (w_subi rfl (ev_tmp rfl) ev_ci (by first | omega | ((try simp only [List.length_map, List.length_take, List.length_cons, List.length_nil, chunks_len, szR] at *); omega) | (have hc2 := hc; simp only [Bool.and_eq_true, Bool.or_eq_true, Bool.or_eq_false_iff, Bool.and_eq_false_iff, Bool.not_eq_true', Bool.not_eq_false', decide_eq_true_eq, decide_eq_false_iff_not, beq_iff_eq, bne_iff_ne, List.length_map, List.length_take] at hc2; omega))) ?_
          refine sq_plain rfl rfl rfl (w_assign rfl (ev_tmp rfl)) ?_
          refine sq_nil ?_
          refine round_end4 n cc p y (n - 1) (x22.1) (p) (y) ?_ ?_ (Le.trans (le_pick [5, 5, 5, 0, 0, 0, 1] rfl) (le_dropeq 3 (by first | rfl | (rw [List.map_set]; rfl)) ⟨rfl, rfl, rfl, rfl, trivial⟩))
          · exact ⟨by omega, by omega, hinv.2.2⟩
          · omega
      · refine eff_s rfl rfl rfl (opE_alloc rfl Tryz.zeroValue26 rfl) (fun a _ => (by first | exact invx_mk rfl | exact invx_mk (List.append_assoc _ _ _) | exact invx_all)) ?_
        intro b5 _
        refine bt_e1 ?_
        refine eff_s rfl rfl rfl (opE_callB [] rfl Tryz.call53 rfl (splitAtS_own p x22.2 (by omega) (by omega)) rfl (evlb_cons (evb_lt (ev_tmp rfl) (lt_agg (lc_cons lt_refl (lc_cons (lt_arr (List.mem_of_getElem? (i := 1) rfl) le_refl_e) (lc_cons (lt_arr (List.mem_of_getElem? (i := 2) rfl) le_refl_e) lc_nil))))) (evlb_cons (evb (ev_tmp rfl)) evlb_nil)) (by first | exact flatO_nil | (intro _; exact flatO_nil) | (intro _; first | exact flat_is _ | exact flat_ik _ _ | exact flat_bool _ | exact flat_str _ | exact flat_nils) | (intro _; refine flat_tup ?_; (repeat (first | exact flatl_nil | (refine flatl_cons (by first | (first | exact flat_is _ | exact flat_ik _ _ | exact flat_bool _ | exact flat_str _ | exact flat_nils) | (refine flat_agg ?_; (repeat (first | exact flatl_nil | (refine flatl_cons (by first | exact flat_is _ | exact flat_ik _ _ | exact flat_bool _ | exact flat_str _ | exact flat_nils) ?_))))) ?_))); done) | (intro _; refine flat_agg ?_; (repeat (first | exact flatl_nil | (refine flatl_cons (by first | exact flat_is _ | exact flat_ik _ _ | exact flat_bool _ | exact flat_str _ | exact flat_nils) ?_))); done) | ((repeat (first | exact flatO_nil | (refine flatO_cons (flatO_box ?_) ?_; (repeat (first | exact flatl_nil | (refine flatl_cons (by first | exact flat_is _ | exact flat_ik _ _ | exact flat_bool _ | exact flat_str _ | exact flat_nils) ?_)))) | (refine flatO_cons (flatO_arr ?_) ?_; (repeat (first | exact flate_nil | (refine flate_map (fun _ => ?_); (first | exact TWrite.flat _ | exact TFeedItem.flat _ | exact TIdx.flat _ | exact TVer.flat _ | (repeat (first | exact flatl_nil | (refine flatl_cons (by first | exact flat_is _ | exact flat_ik _ _ | exact flat_bool _ | exact flat_str _ | exact flat_nils) ?_))))) | (refine flate_rep ?_; (first | exact TWrite.flat _ | exact TFeedItem.flat _ | exact TIdx.flat _ | exact TVer.flat _ | (repeat (first | exact flatl_nil | (refine flatl_cons (by first | exact flat_is _ | exact flat_ik _ _ | exact flat_bool _ | exact flat_str _ | exact flat_nils) ?_))))) | (refine flate_cons ?_ ?_; (first | exact TWrite.flat _ | exact TFeedItem.flat _ | exact TIdx.flat _ | exact TVer.flat _ | (repeat (first | exact flatl_nil | (refine flatl_cons (by first | exact flat_is _ | exact flat_ik _ _ | exact flat_bool _ | exact flat_str _ | exact flat_nils) ?_))))) | refine flate_app ?_ ?_))))); done) | (intro _; (repeat (first | exact flatO_nil | (refine flatO_cons (flatO_box ?_) ?_; (repeat (first | exact flatl_nil | (refine flatl_cons (by first | exact flat_is _ | exact flat_ik _ _ | exact flat_bool _ | exact flat_str _ | exact flat_nils) ?_)))) | (refine flatO_cons (flatO_arr ?_) ?_; (repeat (first | exact flate_nil | (refine flate_map (fun _ => ?_); (first | exact TWrite.flat _ | exact TFeedItem.flat _ | exact TIdx.flat _ | exact TVer.flat _ | (repeat (first | exact flatl_nil | (refine flatl_cons (by first | exact flat_is _ | exact flat_ik _ _ | exact flat_bool _ | exact flat_str _ | exact flat_nils) ?_))))) | (refine flate_rep ?_; (first | exact TWrite.flat _ | exact TFeedItem.flat _ | exact TIdx.flat _ | exact TVer.flat _ | (repeat (first | exact flatl_nil | (refine flatl_cons (by first | exact flat_is _ | exact flat_ik _ _ | exact flat_bool _ | exact flat_str _ | exact flat_nils) ?_))))) | (refine flate_cons ?_ ?_; (first | exact TWrite.flat _ | exact TFeedItem.flat _ | exact TIdx.flat _ | exact TVer.flat _ | (repeat (first | exact flatl_nil | (refine flatl_cons (by first | exact flat_is _ | exact flat_ik _ _ | exact flat_bool _ | exact flat_str _ | exact flat_nils) ?_))))) | refine flate_app ?_ ?_))))); done)) (by first | exact flatO_nil | (intro _; exact flatO_nil) | (intro _; first | exact flat_is _ | exact flat_ik _ _ | exact flat_bool _ | exact flat_str _ | exact flat_nils) | (intro _; refine flat_tup ?_; (repeat (first | exact flatl_nil | (refine flatl_cons (by first | (first | exact flat_is _ | exact flat_ik _ _ | exact flat_bool _ | exact flat_str _ | exact flat_nils) | (refine flat_agg ?_; (repeat (first | exact flatl_nil | (refine flatl_cons (by first | exact flat_is _ | exact flat_ik _ _ | exact flat_bool _ | exact flat_str _ | exact flat_nils) ?_))))) ?_))); done) | (intro _; refine flat_agg ?_; (repeat (first | exact flatl_nil | (refine flatl_cons (by first | exact flat_is _ | exact flat_ik _ _ | exact flat_bool _ | exact flat_str _ | exact flat_nils) ?_))); done) | ((repeat (first | exact flatO_nil | (refine flatO_cons (flatO_box ?_) ?_; (repeat (first | exact flatl_nil | (refine flatl_cons (by first | exact flat_is _ | exact flat_ik _ _ | exact flat_bool _ | exact flat_str _ | exact flat_nils) ?_)))) | (refine flatO_cons (flatO_arr ?_) ?_; (repeat (first | exact flate_nil | (refine flate_map (fun _ => ?_); (first | exact TWrite.flat _ | exact TFeedItem.flat _ | exact TIdx.flat _ | exact TVer.flat _ | (repeat (first | exact flatl_nil | (refine flatl_cons (by first | exact flat_is _ | exact flat_ik _ _ | exact flat_bool _ | exact flat_str _ | exact flat_nils) ?_))))) | (refine flate_rep ?_; (first | exact TWrite.flat _ | exact TFeedItem.flat _ | exact TIdx.flat _ | exact TVer.flat _ | (repeat (first | exact flatl_nil | (refine flatl_cons (by first | exact flat_is _ | exact flat_ik _ _ | exact flat_bool _ | exact flat_str _ | exact flat_nils) ?_))))) | (refine flate_cons ?_ ?_; (first | exact TWrite.flat _ | exact TFeedItem.flat _ | exact TIdx.flat _ | exact TVer.flat _ | (repeat (first | exact flatl_nil | (refine flatl_cons (by first | exact flat_is _ | exact flat_ik _ _ | exact flat_bool _ | exact flat_str _ | exact flat_nils) ?_))))) | refine flate_app ?_ ?_))))); done) | (intro _; (repeat (first | exact flatO_nil | (refine flatO_cons (flatO_box ?_) ?_; (repeat (first | exact flatl_nil | (refine flatl_cons (by first | exact flat_is _ | exact flat_ik _ _ | exact flat_bool _ | exact flat_str _ | exact flat_nils) ?_)))) | (refine flatO_cons (flatO_arr ?_) ?_; (repeat (first | exact flate_nil | (refine flate_map (fun _ => ?_); (first | exact TWrite.flat _ | exact TFeedItem.flat _ | exact TIdx.flat _ | exact TVer.flat _ | (repeat (first | exact flatl_nil | (refine flatl_cons (by first | exact flat_is _ | exact flat_ik _ _ | exact flat_bool _ | exact flat_str _ | exact flat_nils) ?_))))) | (refine flate_rep ?_; (first | exact TWrite.flat _ | exact TFeedItem.flat _ | exact TIdx.flat _ | exact TVer.flat _ | (repeat (first | exact flatl_nil | (refine flatl_cons (by first | exact flat_is _ | exact flat_ik _ _ | exact flat_bool _ | exact flat_str _ | exact flat_nils) ?_))))) | (refine flate_cons ?_ ?_; (first | exact TWrite.flat _ | exact TFeedItem.flat _ | exact TIdx.flat _ | exact TVer.flat _ | (repeat (first | exact flatl_nil | (refine flatl_cons (by first | exact flat_is _ | exact flat_ik _ _ | exact flat_bool _ | exact flat_str _ | exact flat_nils) ?_))))) | refine flate_app ?_ ?_))))); done)) (by first | exact flatO_nil | (intro _; exact flatO_nil) | (intro _; first | exact flat_is _ | exact flat_ik _ _ | exact flat_bool _ | exact flat_str _ | exact flat_nils) | (intro _; refine flat_tup ?_; (repeat (first | exact flatl_nil | (refine flatl_cons (by first | (first | exact flat_is _ | exact flat_ik _ _ | exact flat_bool _ | exact flat_str _ | exact flat_nils) | (refine flat_agg ?_; (repeat (first | exact flatl_nil | (refine flatl_cons (by first | exact flat_is _ | exact flat_ik _ _ | exact flat_bool _ | exact flat_str _ | exact flat_nils) ?_))))) ?_))); done) | (intro _; refine flat_agg ?_; (repeat (first | exact flatl_nil | (refine flatl_cons (by first | exact flat_is _ | exact flat_ik _ _ | exact flat_bool _ | exact flat_str _ | exact flat_nils) ?_))); done) | ((repeat (first | exact flatO_nil | (refine flatO_cons (flatO_box ?_) ?_; (repeat (first | exact flatl_nil | (refine flatl_cons (by first | exact flat_is _ | exact flat_ik _ _ | exact flat_bool _ | exact flat_str _ | exact flat_nils) ?_)))) | (refine flatO_cons (flatO_arr ?_) ?_; (repeat (first | exact flate_nil | (refine flate_map (fun _ => ?_); (first | exact TWrite.flat _ | exact TFeedItem.flat _ | exact TIdx.flat _ | exact TVer.flat _ | (repeat (first | exact flatl_nil | (refine flatl_cons (by first | exact flat_is _ | exact flat_ik _ _ | exact flat_bool _ | exact flat_str _ | exact flat_nils) ?_))))) | (refine flate_rep ?_; (first | exact TWrite.flat _ | exact TFeedItem.flat _ | exact TIdx.flat _ | exact TVer.flat _ | (repeat (first | exact flatl_nil | (refine flatl_cons (by first | exact flat_is _ | exact flat_ik _ _ | exact flat_bool _ | exact flat_str _ | exact flat_nils) ?_))))) | (refine flate_cons ?_ ?_; (first | exact TWrite.flat _ | exact TFeedItem.flat _ | exact TIdx.flat _ | exact TVer.flat _ | (repeat (first | exact flatl_nil | (refine flatl_cons (by first | exact flat_is _ | exact flat_ik _ _ | exact flat_bool _ | exact flat_str _ | exact flat_nils) ?_))))) | refine flate_app ?_ ?_))))); done) | (intro _; (repeat (first | exact flatO_nil | (refine flatO_cons (flatO_box ?_) ?_; (repeat (first | exact flatl_nil | (refine flatl_cons (by first | exact flat_is _ | exact flat_ik _ _ | exact flat_bool _ | exact flat_str _ | exact flat_nils) ?_)))) | (refine flatO_cons (flatO_arr ?_) ?_; (repeat (first | exact flate_nil | (refine flate_map (fun _ => ?_); (first | exact TWrite.flat _ | exact TFeedItem.flat _ | exact TIdx.flat _ | exact TVer.flat _ | (repeat (first | exact flatl_nil | (refine flatl_cons (by first | exact flat_is _ | exact flat_ik _ _ | exact flat_bool _ | exact flat_str _ | exact flat_nils) ?_))))) | (refine flate_rep ?_; (first | exact TWrite.flat _ | exact TFeedItem.flat _ | exact TIdx.flat _ | exact TVer.flat _ | (repeat (first | exact flatl_nil | (refine flatl_cons (by first | exact flat_is _ | exact flat_ik _ _ | exact flat_bool _ | exact flat_str _ | exact flat_nils) ?_))))) | (refine flate_cons ?_ ?_; (first | exact TWrite.flat _ | exact TFeedItem.flat _ | exact TIdx.flat _ | exact TVer.flat _ | (repeat (first | exact flatl_nil | (refine flatl_cons (by first | exact flat_is _ | exact flat_ik _ _ | exact flat_bool _ | exact flat_str _ | exact flat_nils) ?_))))) | refine flate_app ?_ ?_))))); done))) (fun a _ => (by first | exact invx_mk rfl | exact invx_mk (List.append_assoc _ _ _) | exact invx_all)) ?_
        intro x23 ok23
        refine bt_plain rfl rfl rfl (fun ext => w_move rfl (ev_tmp rfl)) ?_
        refine bt_plain rfl rfl rfl (fun ext => w_extract rfl (ev_tmp rfl) rfl) ?_
        refine bt_plain rfl rfl rfl (fun ext => w_extract rfl (ev_tmp rfl) rfl) ?_
        refine bt_e1 ?_
        refine eff_s0 rfl rfl rfl (opE_storeB0 5 rfl rfl (ev_tmp rfl) (ev_tmp rfl) (as_agg _) rfl Tryz.sizeOf26 rfl) (fun a _ => (by first | exact invx_mk rfl | exact invx_mk (List.append_assoc _ _ _) | exact invx_all)) ?_
        intro _ _
        refine bt_nil ?_
        refine sq_plain rfl rfl rfl (w_assign rfl (ev_tmp rfl)) ?_
        refine sq_nil ?_
        refine awp_seq ?_
        refine awp_own (by first | (simp only [TPlaces.ow, TPlaces.ocs, pick, List.eraseIdx_cons_zero, List.eraseIdx_cons_succ, List.set_cons_zero, List.set_cons_succ, List.cons_append, List.nil_append, List.getElem?_cons_zero, List.getElem?_cons_succ, List.append_nil, List.take_succ_cons, List.take_zero, List.drop_succ_cons, List.drop_zero]; exact rfl) | exact rfl) ?_
        refine awp_region ?_
        refine sq_plain rfl rfl rfl (w_move rfl (ev_tmp rfl)) ?_
        refine sq_nil ?_
        refine awp_cond (ev_tmp rfl) ?_ ?_
        · intro h26
          have hsz := splitAt_size p x22.2
          have hgd := (splitAt_ok (p := p) (key := x22.2) (by rw [splitAt_eq]; exact h26)).2.1
          rw [splitAt_eq] at hsz hgd
          have hgl := (good_facts hgd).2.2.2.1
          have hpl := places_lens hsz
          refine awp_seq ?_
          refine awp_own (by first | (simp only [TPlaces.ow, TPlaces.ocs, pick, List.eraseIdx_cons_zero, List.eraseIdx_cons_succ, List.set_cons_zero, List.set_cons_succ, List.cons_append, List.nil_append, List.getElem?_cons_zero, List.getElem?_cons_succ, List.append_nil, List.take_succ_cons, List.take_zero, List.drop_succ_cons, List.drop_zero]; exact rfl) | exact rfl) ?_
          refine awp_region ?_
          refine sq_plain rfl rfl rfl (w_loadA 5 rfl (ev_tmp rfl) rfl Tryz.isAgg26 Tryz.sizeOf26 rfl) ?_
          refine sq_storeB0 0 rfl rfl rfl (ev_tmp rfl) (ev_tmp rfl) (as_agg _) rfl Tryz.sizeOf26 rfl ?_
          refine sq_nil ?_
          refine awp_own (by first | (simp only [TPlaces.ow, TPlaces.ocs, pick, List.eraseIdx_cons_zero, List.eraseIdx_cons_succ, List.set_cons_zero, List.set_cons_succ, List.cons_append, List.nil_append, List.getElem?_cons_zero, List.getElem?_cons_succ, List.append_nil, List.take_succ_cons, List.take_zero, List.drop_succ_cons, List.drop_zero]; exact rfl) | exact rfl) ?_
          refine AWP.le (le_pick [0, 5, 5] rfl) ?_
          refine awp_region_mix _ [(0, false), (1, false), (2, false), (3, false), (4, false), (5, false), (7, false), (6, true), (8, true)] (by kernel_rfl) (by kernel_rfl) rfl (invx_take 3) ?_
          refine bc_plain rfl rfl rfl (fun ext => w_fldBn 2 rfl Tryz.underlying26 rfl Tryz.sizeOf24 (ev_tmp rfl) rfl) ?_
          refine bc_plain rfl rfl rfl (fun ext => w_loadB1 0 rfl (ev_tmp rfl) rfl Tryz.isAgg24 rfl) ?_
          refine bc_plain rfl rfl rfl (fun ext => w_move rfl (ev_tmp rfl)) ?_
          refine bc_plain rfl rfl rfl (fun ext => w_fldBn 2 rfl Tryz.underlying26 rfl Tryz.sizeOf24 (ev_tmp rfl) rfl) ?_
          refine bc_plain rfl rfl rfl (fun ext => w_loadB1 0 rfl (ev_tmp rfl) rfl Tryz.isAgg24 rfl) ?_
          refine bc_plain rfl rfl rfl (fun ext => w_alen 2 rfl Tryz.underlying24 (ev_tmp rfl) rfl) ?_
          refine bc_plain rfl rfl rfl (fun ext => w_move rfl (ev_tmp rfl)) ?_
          refine bc_eff rfl rfl rfl (opE_call [6] rfl Tryz.call30 rfl (curPick_own _ _ hcode _ _ (by simp only [List.length_map]; omega) (by omega)) (evl_cons (ev_tmp rfl) (evl_cons (ev_tmp rfl) evl_nil)) rfl) (fun a _ => (by first | exact invx_mk rfl | exact invx_mk (List.append_assoc _ _ _) | exact invx_all)) ?_
          intro x34 ok34
          refine bc_eff rfl rfl rfl (opE_call [7] rfl Tryz.call30 rfl (curPick_own _ _ hcode _ _ (by omega) (by omega)) (evl_cons (ev_tmp rfl) (evl_cons ev_ci evl_nil)) rfl) (fun a _ => (by first | exact invx_mk rfl | exact invx_mk (List.append_assoc _ _ _) | exact invx_all)) ?_
          intro x36 ok36
          refine bc_nil ?_
          refine sq_plain rfl rfl rfl (w_aidx 2 rfl Tryz.underlying24 Tryz.sizeOf3 (ev_tmp rfl) rfl (ev_tmp rfl) (by first | omega | ((try simp only [List.length_map, List.length_take, List.length_cons, List.length_nil, chunks_len, szR] at *); omega) | (have hc2 := hc; simp only [Bool.and_eq_true, Bool.or_eq_true, Bool.or_eq_false_iff, Bool.and_eq_false_iff, Bool.not_eq_true', Bool.not_eq_false', decide_eq_true_eq, decide_eq_false_iff_not, beq_iff_eq, bne_iff_ne, List.length_map, List.length_take] at hc2; omega)) (by first | omega | ((try simp only [List.length_map, List.length_take, List.length_cons, List.length_nil, chunks_len, szR] at *); omega) | (have hc2 := hc; simp only [Bool.and_eq_true, Bool.or_eq_true, Bool.or_eq_false_iff, Bool.and_eq_false_iff, Bool.not_eq_true', Bool.not_eq_false', decide_eq_true_eq, decide_eq_false_iff_not, beq_iff_eq, bne_iff_ne, List.length_map, List.length_take] at hc2; omega))) ?_
          refine sq_storeA 2 rfl rfl rfl (ev_tmp rfl) (ev_tmp rfl) (as_ik _ _) rfl Tryz.sizeOf3 rfl (by first | omega | ((try simp only [List.length_map, List.length_take, List.length_cons, List.length_nil, chunks_len, szR] at *); omega) | (have hc2 := hc; simp only [Bool.and_eq_true, Bool.or_eq_true, Bool.or_eq_false_iff, Bool.and_eq_false_iff, Bool.not_eq_true', Bool.not_eq_false', decide_eq_true_eq, decide_eq_false_iff_not, beq_iff_eq, bne_iff_ne, List.length_map, List.length_take] at hc2; omega)) ?_
          refine sq_nil ?_
          refine awp_own (by first | (simp only [TPlaces.ow, TPlaces.ocs, pick, List.eraseIdx_cons_zero, List.eraseIdx_cons_succ, List.set_cons_zero, List.set_cons_succ, List.cons_append, List.nil_append, List.getElem?_cons_zero, List.getElem?_cons_succ, List.append_nil, List.take_succ_cons, List.take_zero, List.drop_succ_cons, List.drop_zero]; exact rfl) | exact rfl) ?_
          refine awp_region ?_
          refine sq_plain rfl rfl rfl (w_move rfl (ev_tmp rfl)) ?_
          refine sq_plain rfl rfl rfl (w_subi rfl (ev_tmp rfl) ev_ci (by first | omega | ((try simp only [List.length_map, List.length_take, List.length_cons, List.length_nil, chunks_len, szR] at *); omega) | (have hc2 := hc; simp only [Bool.and_eq_true, Bool.or_eq_true, Bool.or_eq_false_iff, Bool.and_eq_false_iff, Bool.not_eq_true', Bool.not_eq_false', decide_eq_true_eq, decide_eq_false_iff_not, beq_iff_eq, bne_iff_ne, List.length_map, List.length_take] at hc2; omega))) ?_
          refine sq_plain rfl rfl rfl (w_assign rfl (ev_tmp rfl)) ?_
          refine sq_nil ?_
          refine round_end4 n cc p y (n - 1) (x36.1) (⟨(splitAtS p x22.2).1.Ver, (splitAtS p x22.2).1.Cuts, (splitAtS p x22.2).1.Groups.set x34.2.toNat x36.2⟩) ((x23.1, x23.2)) ?_ ?_ (Le.trans (le_pick [3, 3, 4, 0, 0, 0, 1] rfl) (le_dropeq 3 (by first | rfl | (rw [List.map_set]; rfl)) ⟨rfl, rfl, rfl, rfl, trivial⟩))
          · exact ⟨by omega, by omega, good_set hgd (by omega)⟩
          · omega
        · intro h26
          refine awp_skip ?_
          refine awp_own (by first | (simp only [TPlaces.ow, TPlaces.ocs, pick, List.eraseIdx_cons_zero, List.eraseIdx_cons_succ, List.set_cons_zero, List.set_cons_succ, List.cons_append, List.nil_append, List.getElem?_cons_zero, List.getElem?_cons_succ, List.append_nil, List.take_succ_cons, List.take_zero, List.drop_succ_cons, List.drop_zero]; exact rfl) | exact rfl) ?_
          refine awp_region ?_
          refine sq_plain rfl rfl rfl (w_move rfl (ev_tmp rfl)) ?_
          refine sq_plain rfl rfl rfl (w_subi rfl (ev_tmp rfl) ev_ci (by first | omega | ((try simp only [List.length_map, List.length_take, List.length_cons, List.length_nil, chunks_len, szR] at *); omega) | (have hc2 := hc; simp only [Bool.and_eq_true, Bool.or_eq_true, Bool.or_eq_false_iff, Bool.and_eq_false_iff, Bool.not_eq_true', Bool.not_eq_false', decide_eq_true_eq, decide_eq_false_iff_not, beq_iff_eq, bne_iff_ne, List.length_map, List.length_take] at hc2; omega))) ?_
          refine sq_plain rfl rfl rfl (w_assign rfl (ev_tmp rfl)) ?_
          refine sq_nil ?_
          refine round_end4 n cc p y (n - 1) (x22.1) (p) (y) ?_ ?_ (Le.trans (le_pick [5, 5, 5, 0, 0, 0, 1] rfl) (le_dropeq 3 (by first | rfl | (rw [List.map_set]; rfl)) ⟨rfl, rfl, rfl, rfl, trivial⟩))
          · exact ⟨by omega, by omega, hinv.2.2⟩
          · omega
    · refine eff_s rfl rfl rfl (opE_alloc rfl Tryz.zeroValue26 rfl) (fun a _ => (by first | exact invx_mk rfl | exact invx_mk (List.append_assoc _ _ _) | exact invx_all)) ?_
      intro b5 _
      refine bt_e1 ?_
      refine eff_s rfl rfl rfl (opE_call [3] rfl Tryz.call54 rfl (curKey_own _ _ hcode _ (by omega)) (evl_cons (ev_tmp rfl) evl_nil) rfl) (fun a _ => (by first | exact invx_mk rfl | exact invx_mk (List.append_assoc _ _ _) | exact invx_all)) ?_
      intro x22 ok22
      refine bt_e1 ?_
      refine eff_s rfl rfl rfl (opE_callB [] rfl Tryz.call53 rfl (splitAtS_own p x22.2 (by omega) (by omega)) rfl (evlb_cons (evb_lt (ev_tmp rfl) (lt_agg (lc_cons lt_refl (lc_cons (lt_arr (List.mem_of_getElem? (i := 1) rfl) le_refl_e) (lc_cons (lt_arr (List.mem_of_getElem? (i := 2) rfl) le_refl_e) lc_nil))))) (evlb_cons (evb (ev_tmp rfl)) evlb_nil)) (by first | exact flatO_nil | (intro _; exact flatO_nil) | (intro _; first | exact flat_is _ | exact flat_ik _ _ | exact flat_bool _ | exact flat_str _ | exact flat_nils) | (intro _; refine flat_tup ?_; (repeat (first | exact flatl_nil | (refine flatl_cons (by first | (first | exact flat_is _ | exact flat_ik _ _ | exact flat_bool _ | exact flat_str _ | exact flat_nils) | (refine flat_agg ?_; (repeat (first | exact flatl_nil | (refine flatl_cons (by first | exact flat_is _ | exact flat_ik _ _ | exact flat_bool _ | exact flat_str _ | exact flat_nils) ?_))))) ?_))); done) | (intro _; refine flat_agg ?_; (repeat (first | exact flatl_nil | (refine flatl_cons (by first | exact flat_is _ | exact flat_ik _ _ | exact flat_bool _ | exact flat_str _ | exact flat_nils) ?_))); done) | ((repeat (first | exact flatO_nil | (refine flatO_cons (flatO_box ?_) ?_; (repeat (first | exact flatl_nil | (refine flatl_cons (by first | exact flat_is _ | exact flat_ik _ _ | exact flat_bool _ | exact flat_str _ | exact flat_nils) ?_)))) | (refine flatO_cons (flatO_arr ?_) ?_; (repeat (first | exact flate_nil | (refine flate_map (fun _ => ?_); (first | exact TWrite.flat _ | exact TFeedItem.flat _ | exact TIdx.flat _ | exact TVer.flat _ | (repeat (first | exact flatl_nil | (refine flatl_cons (by first | exact flat_is _ | exact flat_ik _ _ | exact flat_bool _ | exact flat_str _ | exact flat_nils) ?_))))) | (refine flate_rep ?_; (first | exact TWrite.flat _ | exact TFeedItem.flat _ | exact TIdx.flat _ | exact TVer.flat _ | (repeat (first | exact flatl_nil | (refine flatl_cons (by first | exact flat_is _ | exact flat_ik _ _ | exact flat_bool _ | exact flat_str _ | exact flat_nils) ?_))))) | (refine flate_cons ?_ ?_; (first | exact TWrite.flat _ | exact TFeedItem.flat _ | exact TIdx.flat _ | exact TVer.flat _ | (repeat (first | exact flatl_nil | (refine flatl_cons (by first | exact flat_is _ | exact flat_ik _ _ | exact flat_bool _ | exact flat_str _ | exact flat_nils) ?_))))) | refine flate_app ?_ ?_))))); done) | (intro _; (repeat (first | exact flatO_nil | (refine flatO_cons (flatO_box ?_) ?_; (repeat (first | exact flatl_nil | (refine flatl_cons (by first | exact flat_is _ | exact flat_ik _ _ | exact flat_bool _ | exact flat_str _ | exact flat_nils) ?_)))) | (refine flatO_cons (flatO_arr ?_) ?_; (repeat (first | exact flate_nil | (refine flate_map (fun _ => ?_); (first | exact TWrite.flat _ | exact TFeedItem.flat _ | exact TIdx.flat _ | exact TVer.flat _ | (repeat (first | exact flatl_nil | (refine flatl_cons (by first | exact flat_is _ | exact flat_ik _ _ | exact flat_bool _ | exact flat_str _ | exact flat_nils) ?_))))) | (refine flate_rep ?_; (first | exact TWrite.flat _ | exact TFeedItem.flat _ | exact TIdx.flat _ | exact TVer.flat _ | (repeat (first | exact flatl_nil | (refine flatl_cons (by first | exact flat_is _ | exact flat_ik _ _ | exact flat_bool _ | exact flat_str _ | exact flat_nils) ?_))))) | (refine flate_cons ?_ ?_; (first | exact TWrite.flat _ | exact TFeedItem.flat _ | exact TIdx.flat _ | exact TVer.flat _ | (repeat (first | exact flatl_nil | (refine flatl_cons (by first | exact flat_is _ | exact flat_ik _ _ | exact flat_bool _ | exact flat_str _ | exact flat_nils) ?_))))) | refine flate_app ?_ ?_))))); done)) (by first | exact flatO_nil | (intro _; exact flatO_nil) | (intro _; first | exact flat_is _ | exact flat_ik _ _ | exact flat_bool _ | exact flat_str _ | exact flat_nils) | (intro _; refine flat_tup ?_; (repeat (first | exact flatl_nil | (refine flatl_cons (by first | (first | exact flat_is _ | exact flat_ik _ _ | exact flat_bool _ | exact flat_str _ | exact flat_nils) | (refine flat_agg ?_; (repeat (first | exact flatl_nil | (refine flatl_cons (by first | exact flat_is _ | exact flat_ik _ _ | exact flat_bool _ | exact flat_str _ | exact flat_nils) ?_))))) ?_))); done) | (intro _; refine flat_agg ?_; (repeat (first | exact flatl_nil | (refine flatl_cons (by first | exact flat_is _ | exact flat_ik _ _ | exact flat_bool _ | exact flat_str _ | exact flat_nils) ?_))); done) | ((repeat (first | exact flatO_nil | (refine flatO_cons (flatO_box ?_) ?_; (repeat (first | exact flatl_nil | (refine flatl_cons (by first | exact flat_is _ | exact flat_ik _ _ | exact flat_bool _ | exact flat_str _ | exact flat_nils) ?_)))) | (refine flatO_cons (flatO_arr ?_) ?_; (repeat (first | exact flate_nil | (refine flate_map (fun _ => ?_); (first | exact TWrite.flat _ | exact TFeedItem.flat _ | exact TIdx.flat _ | exact TVer.flat _ | (repeat (first | exact flatl_nil | (refine flatl_cons (by first | exact flat_is _ | exact flat_ik _ _ | exact flat_bool _ | exact flat_str _ | exact flat_nils) ?_))))) | (refine flate_rep ?_; (first | exact TWrite.flat _ | exact TFeedItem.flat _ | exact TIdx.flat _ | exact TVer.flat _ | (repeat (first | exact flatl_nil | (refine flatl_cons (by first | exact flat_is _ | exact flat_ik _ _ | exact flat_bool _ | exact flat_str _ | exact flat_nils) ?_))))) | (refine flate_cons ?_ ?_; (first | exact TWrite.flat _ | exact TFeedItem.flat _ | exact TIdx.flat _ | exact TVer.flat _ | (repeat (first | exact flatl_nil | (refine flatl_cons (by first | exact flat_is _ | exact flat_ik _ _ | exact flat_bool _ | exact flat_str _ | exact flat_nils) ?_))))) | refine flate_app ?_ ?_))))); done) | (intro _; (repeat (first | exact flatO_nil | (refine flatO_cons (flatO_box ?_) ?_; (repeat (first | exact flatl_nil | (refine flatl_cons (by first | exact flat_is _ | exact flat_ik _ _ | exact flat_bool _ | exact flat_str _ | exact flat_nils) ?_)))) | (refine flatO_cons (flatO_arr ?_) ?_; (repeat (first | exact flate_nil | (refine flate_map (fun _ => ?_); (first | exact TWrite.flat _ | exact TFeedItem.flat _ | exact TIdx.flat _ | exact TVer.flat _ | (repeat (first | exact flatl_nil | (refine flatl_cons (by first | exact flat_is _ | exact flat_ik _ _ | exact flat_bool _ | exact flat_str _ | exact flat_nils) ?_))))) | (refine flate_rep ?_; (first | exact TWrite.flat _ | exact TFeedItem.flat _ | exact TIdx.flat _ | exact TVer.flat _ | (repeat (first | exact flatl_nil | (refine flatl_cons (by first | exact flat_is _ | exact flat_ik _ _ | exact flat_bool _ | exact flat_str _ | exact flat_nils) ?_))))) | (refine flate_cons ?_ ?_; (first | exact TWrite.flat _ | exact TFeedItem.flat _ | exact TIdx.flat _ | exact TVer.flat _ | (repeat (first | exact flatl_nil | (refine flatl_cons (by first | exact flat_is _ | exact flat_ik _ _ | exact flat_bool _ | exact flat_str _ | exact flat_nils) ?_))))) | refine flate_app ?_ ?_))))); done)) (by first | exact flatO_nil | (intro _; exact flatO_nil) | (intro _; first | exact flat_is _ | exact flat_ik _ _ | exact flat_bool _ | exact flat_str _ | exact flat_nils) | (intro _; refine flat_tup ?_; (repeat (first | exact flatl_nil | (refine flatl_cons (by first | (first | exact flat_is _ | exact flat_ik _ _ | exact flat_bool _ | exact flat_str _ | exact flat_nils) | (refine flat_agg ?_; (repeat (first | exact flatl_nil | (refine flatl_cons (by first | exact flat_is _ | exact flat_ik _ _ | exact flat_bool _ | exact flat_str _ | exact flat_nils) ?_))))) ?_))); done) | (intro _; refine flat_agg ?_; (repeat (first | exact flatl_nil | (refine flatl_cons (by first | exact flat_is _ | exact flat_ik _ _ | exact flat_bool _ | exact flat_str _ | exact flat_nils) ?_))); done) | ((repeat (first | exact flatO_nil | (refine flatO_cons (flatO_box ?_) ?_; (repeat (first | exact flatl_nil | (refine flatl_cons (by first | exact flat_is _ | exact flat_ik _ _ | exact flat_bool _ | exact flat_str _ | exact flat_nils) ?_)))) | (refine flatO_cons (flatO_arr ?_) ?_; (repeat (first | exact flate_nil | (refine flate_map (fun _ => ?_); (first | exact TWrite.flat _ | exact TFeedItem.flat _ | exact TIdx.flat _ | exact TVer.flat _ | (repeat (first | exact flatl_nil | (refine flatl_cons (by first | exact flat_is _ | exact flat_ik _ _ | exact flat_bool _ | exact flat_str _ | exact flat_nils) ?_))))) | (refine flate_rep ?_; (first | exact TWrite.flat _ | exact TFeedItem.flat _ | exact TIdx.flat _ | exact TVer.flat _ | (repeat (first | exact flatl_nil | (refine flatl_cons (by first | exact flat_is _ | exact flat_ik _ _ | exact flat_bool _ | exact flat_str _ | exact flat_nils) ?_))))) | (refine flate_cons ?_ ?_; (first | exact TWrite.flat _ | exact TFeedItem.flat _ | exact TIdx.flat _ | exact TVer.flat _ | (repeat (first | exact flatl_nil | (refine flatl_cons (by first | exact flat_is _ | exact flat_ik _ _ | exact flat_bool _ | exact flat_str _ | exact flat_nils) ?_))))) | refine flate_app ?_ ?_))))); done) | (intro _; (repeat (first | exact flatO_nil | (refine flatO_cons (flatO_box ?_) ?_; (repeat (first | exact flatl_nil | (refine flatl_cons (by first | exact flat_is _ | exact flat_ik _ _ | exact flat_bool _ | exact flat_str _ | exact flat_nils) ?_)))) | (refine flatO_cons (flatO_arr ?_) ?_; (repeat (first | exact flate_nil | (refine flate_map (fun _ => ?_); (first | exact TWrite.flat _ | exact TFeedItem.flat _ | exact TIdx.flat _ | exact TVer.flat _ | (repeat (first | exact flatl_nil | (refine flatl_cons (by first | exact flat_is _ | exact flat_ik _ _ | exact flat_bool _ | exact flat_str _ | exact flat_nils) ?_))))) | (refine flate_rep ?_; (first | exact TWrite.flat _ | exact TFeedItem.flat _ | exact TIdx.flat _ | exact TVer.flat _ | (repeat (first | exact flatl_nil | (refine flatl_cons (by first | exact flat_is _ | exact flat_ik _ _ | exact flat_bool _ | exact flat_str _ | exact flat_nils) ?_))))) | (refine flate_cons ?_ ?_; (first | exact TWrite.flat _ | exact TFeedItem.flat _ | exact TIdx.flat _ | exact TVer.flat _ | (repeat (first | exact flatl_nil | (refine flatl_cons (by first | exact flat_is _ | exact flat_ik _ _ | exact flat_bool _ | exact flat_str _ | exact flat_nils) ?_))))) | refine flate_app ?_ ?_))))); done))) (fun a _ => (by first | exact invx_mk rfl | exact invx_mk (List.append_assoc _ _ _) | exact invx_all)) ?_
      intro x23 ok23
      refine bt_plain rfl rfl rfl (fun ext => w_move rfl (ev_tmp rfl)) ?_
      refine bt_plain rfl rfl rfl (fun ext => w_extract rfl (ev_tmp rfl) rfl) ?_
      refine bt_plain rfl rfl rfl (fun ext => w_extract rfl (ev_tmp rfl) rfl) ?_
      refine bt_e1 ?_
      refine eff_s0 rfl rfl rfl (opE_storeB0 4 rfl rfl (ev_tmp rfl) (ev_tmp rfl) (as_agg _) rfl Tryz.sizeOf26 rfl) (fun a _ => (by first | exact invx_mk rfl | exact invx_mk (List.append_assoc _ _ _) | exact invx_all)) ?_
      intro _ _
      refine bt_nil ?_
      refine sq_plain rfl rfl rfl (w_assign rfl (ev_tmp rfl)) ?_
      refine sq_nil ?_
      refine awp_seq ?_
      refine awp_own (by first | (simp only [TPlaces.ow, TPlaces.ocs, pick, List.eraseIdx_cons_zero, List.eraseIdx_cons_succ, List.set_cons_zero, List.set_cons_succ, List.cons_append, List.nil_append, List.getElem?_cons_zero, List.getElem?_cons_succ, List.append_nil, List.take_succ_cons, List.take_zero, List.drop_succ_cons, List.drop_zero]; exact rfl) | exact rfl) ?_
      refine awp_region ?_
      refine sq_plain rfl rfl rfl (w_move rfl (ev_tmp rfl)) ?_
      refine sq_nil ?_
      refine awp_cond (ev_tmp rfl) ?_ ?_
      · intro h26
        have hsz := splitAt_size p x22.2
        have hgd := (splitAt_ok (p := p) (key := x22.2) (by rw [splitAt_eq]; exact h26)).2.1
        rw [splitAt_eq] at hsz hgd
        have hgl := (good_facts hgd).2.2.2.1
        have hpl := places_lens hsz
        refine awp_seq ?_
        refine awp_own (by first | (simp only [TPlaces.ow, TPlaces.ocs, pick, List.eraseIdx_cons_zero, List.eraseIdx_cons_succ, List.set_cons_zero, List.set_cons_succ, List.cons_append, List.nil_append, List.getElem?_cons_zero, List.getElem?_cons_succ, List.append_nil, List.take_succ_cons, List.take_zero, List.drop_succ_cons, List.drop_zero]; exact rfl) | exact rfl) ?_
        refine awp_region ?_
        refine sq_plain rfl rfl rfl (w_loadA 4 rfl (ev_tmp rfl) rfl Tryz.isAgg26 Tryz.sizeOf26 rfl) ?_
        refine sq_storeB0 0 rfl rfl rfl (ev_tmp rfl) (ev_tmp rfl) (as_agg _) rfl Tryz.sizeOf26 rfl ?_
        refine sq_nil ?_
        refine awp_own (by first | (simp only [TPlaces.ow, TPlaces.ocs, pick, List.eraseIdx_cons_zero, List.eraseIdx_cons_succ, List.set_cons_zero, List.set_cons_succ, List.cons_append, List.nil_append, List.getElem?_cons_zero, List.getElem?_cons_succ, List.append_nil, List.take_succ_cons, List.take_zero, List.drop_succ_cons, List.drop_zero]; exact rfl) | exact rfl) ?_
        refine AWP.le (le_pick [0, 5, 5] rfl) ?_
        refine awp_region_mix _ [(0, false), (1, false), (2, false), (3, false), (4, false), (5, false), (7, false), (6, true), (8, true)] (by kernel_rfl) (by kernel_rfl) rfl (invx_take 3) ?_
        refine bc_plain rfl rfl rfl (fun ext => w_fldBn 2 rfl Tryz.underlying26 rfl Tryz.sizeOf24 (ev_tmp rfl) rfl) ?_
        refine bc_plain rfl rfl rfl (fun ext => w_loadB1 0 rfl (ev_tmp rfl) rfl Tryz.isAgg24 rfl) ?_
        refine bc_plain rfl rfl rfl (fun ext => w_move rfl (ev_tmp rfl)) ?_
        refine bc_plain rfl rfl rfl (fun ext => w_fldBn 2 rfl Tryz.underlying26 rfl Tryz.sizeOf24 (ev_tmp rfl) rfl) ?_
        refine bc_plain rfl rfl rfl (fun ext => w_loadB1 0 rfl (ev_tmp rfl) rfl Tryz.isAgg24 rfl) ?_
        refine bc_plain rfl rfl rfl (fun ext => w_alen 2 rfl Tryz.underlying24 (ev_tmp rfl) rfl) ?_
        refine bc_plain rfl rfl rfl (fun ext => w_move rfl (ev_tmp rfl)) ?_
        refine bc_eff rfl rfl rfl (opE_call [7] rfl Tryz.call30 rfl (curPick_own _ _ hcode _ _ (by simp only [List.length_map]; omega) (by omega)) (evl_cons (ev_tmp rfl) (evl_cons (ev_tmp rfl) evl_nil)) rfl) (fun a _ => (by first | exact invx_mk rfl | exact invx_mk (List.append_assoc _ _ _) | exact invx_all)) ?_
        intro x34 ok34
        refine bc_eff rfl rfl rfl (opE_call [7] rfl Tryz.call30 rfl (curPick_own _ _ hcode _ _ (by omega) (by omega)) (evl_cons (ev_tmp rfl) (evl_cons ev_ci evl_nil)) rfl) (fun a _ => (by first | exact invx_mk rfl | exact invx_mk (List.append_assoc _ _ _) | exact invx_all)) ?_
        intro x36 ok36
        refine bc_nil ?_
        refine sq_plain rfl rfl rfl (w_aidx 2 rfl Tryz.underlying24 Tryz.sizeOf3 (ev_tmp rfl) rfl (ev_tmp rfl) (by first | omega | ((try simp only [List.length_map, List.length_take, List.length_cons, List.length_nil, chunks_len, szR] at *); omega) | (have hc2 := hc; simp only [Bool.and_eq_true, Bool.or_eq_true, Bool.or_eq_false_iff, Bool.and_eq_false_iff, Bool.not_eq_true', Bool.not_eq_false', decide_eq_true_eq, decide_eq_false_iff_not, beq_iff_eq, bne_iff_ne, List.length_map, List.length_take] at hc2; omega)) (by first | omega | ((try simp only [List.length_map, List.length_take, List.length_cons, List.length_nil, chunks_len, szR] at *); omega) | (have hc2 := hc; simp only [Bool.and_eq_true, Bool.or_eq_true, Bool.or_eq_false_iff, Bool.and_eq_false_iff, Bool.not_eq_true', Bool.not_eq_false', decide_eq_true_eq, decide_eq_false_iff_not, beq_iff_eq, bne_iff_ne, List.length_map, List.length_take] at hc2; omega))) ?_
        refine sq_storeA 2 rfl rfl rfl (ev_tmp rfl) (ev_tmp rfl) (as_ik _ _) rfl Tryz.sizeOf3 rfl (by first | omega | ((try simp only [List.length_map, List.length_take, List.length_cons, List.length_nil, chunks_len, szR] at *); omega) | (have hc2 := hc; simp only [Bool.and_eq_true, Bool.or_eq_true, Bool.or_eq_false_iff, Bool.and_eq_false_iff, Bool.not_eq_true', Bool.not_eq_false', decide_eq_true_eq, decide_eq_false_iff_not, beq_iff_eq, bne_iff_ne, List.length_map, List.length_take] at hc2; omega)) ?_
        refine sq_nil ?_
        refine awp_own (by first | (simp only [TPlaces.ow, TPlaces.ocs, pick, List.eraseIdx_cons_zero, List.eraseIdx_cons_succ, List.set_cons_zero, List.set_cons_succ, List.cons_append, List.nil_append, List.getElem?_cons_zero, List.getElem?_cons_succ, List.append_nil, List.take_succ_cons, List.take_zero, List.drop_succ_cons, List.drop_zero]; exact rfl) | exact rfl) ?_
        refine awp_region ?_
        refine sq_plain rfl rfl rfl (w_move rfl (ev_tmp rfl)) ?_
        refine sq_plain rfl rfl rfl (w_subi rfl (ev_tmp rfl) ev_ci (by first | omega | ((try simp only [List.length_map, List.length_take, List.length_cons, List.length_nil, chunks_len, szR] at *); omega) | (have hc2 := hc; simp only [Bool.and_eq_true, Bool.or_eq_true, Bool.or_eq_false_iff, Bool.and_eq_false_iff, Bool.not_eq_true', Bool.not_eq_false', decide_eq_true_eq, decide_eq_false_iff_not, beq_iff_eq, bne_iff_ne, List.length_map, List.length_take] at hc2; omega))) ?_
        refine sq_plain rfl rfl rfl (w_assign rfl (ev_tmp rfl)) ?_
        refine sq_nil ?_
        refine round_end4 n cc p y (n - 1) (x36.1) (⟨(splitAtS p x22.2).1.Ver, (splitAtS p x22.2).1.Cuts, (splitAtS p x22.2).1.Groups.set x34.2.toNat x36.2⟩) ((x23.1, x23.2)) ?_ ?_ (Le.trans (le_pick [3, 3, 4, 0, 0, 0, 1] rfl) (le_dropeq 3 (by first | rfl | (rw [List.map_set]; rfl)) ⟨rfl, rfl, rfl, rfl, trivial⟩))
        · exact ⟨by omega, by omega, good_set hgd (by omega)⟩
        · omega
      · intro h26
        refine awp_skip ?_
        refine awp_own (by first | (simp only [TPlaces.ow, TPlaces.ocs, pick, List.eraseIdx_cons_zero, List.eraseIdx_cons_succ, List.set_cons_zero, List.set_cons_succ, List.cons_append, List.nil_append, List.getElem?_cons_zero, List.getElem?_cons_succ, List.append_nil, List.take_succ_cons, List.take_zero, List.drop_succ_cons, List.drop_zero]; exact rfl) | exact rfl) ?_
        refine awp_region ?_
        refine sq_plain rfl rfl rfl (w_move rfl (ev_tmp rfl)) ?_
        refine sq_plain rfl rfl rfl (w_subi rfl (ev_tmp rfl) ev_ci (by first | omega | ((try simp only [List.length_map, List.length_take, List.length_cons, List.length_nil, chunks_len, szR] at *); omega) | (have hc2 := hc; simp only [Bool.and_eq_true, Bool.or_eq_true, Bool.or_eq_false_iff, Bool.and_eq_false_iff, Bool.not_eq_true', Bool.not_eq_false', decide_eq_true_eq, decide_eq_false_iff_not, beq_iff_eq, bne_iff_ne, List.length_map, List.length_take] at hc2; omega))) ?_
        refine sq_plain rfl rfl rfl (w_assign rfl (ev_tmp rfl)) ?_
        refine sq_nil ?_
        refine round_end4 n cc p y (n - 1) (x22.1) (p) (y) ?_ ?_ (Le.trans (le_pick [4, 5, 5, 0, 0, 0, 1] rfl) (le_dropeq 3 (by first | rfl | (rw [List.map_set]; rfl)) ⟨rfl, rfl, rfl, rfl, trivial⟩))
        · exact ⟨by omega, by omega, hinv.2.2⟩
        · omega
  · intro h16
    have k16 := of_decide_eq_false h16; try simp only [List.length_map] at k16
    refine awp_exit ?_
    refine awp_seq ?_
    refine awp_region ?_
    refine sq_plain rfl rfl rfl (w_loadA 0 rfl (ev_tmp rfl) rfl Tryz.isAgg26 Tryz.sizeOf26 rfl) ?_
    refine sq_storeB0 4 rfl rfl rfl (ev_tmp rfl) (ev_tmp rfl) (as_agg _) rfl Tryz.sizeOf26 rfl ?_
    refine sq_nil ?_
    refine awp_ret ?_
    (refine retG [3, 1, 1] ((cc, p, y)) ?_ rfl (by first | (dsimp only; rfl) | rfl) (resR rfl (rv_cell (ys := _) 4 rfl rfl Tryz.isAgg26 Tryz.sizeOf26 rfl)); exact ⟨show cc.p ≤ _ by omega, hinv.2.2⟩)
theorem curBentPlaces_own (b : Nat) (code : List Int) (hcode : ByteL code) (c : TCur) (hp : c.p ≤ 1500000) : GSpec Tryz.prog 15 [AV.ptr b 0] [.box b 45 (curC code c)] (fun x : TCur × TPlaces × Value × Value => x.1.p ≤ c.p + 50 ∧ x.2.1.size ≤ 600) (fun x => .box b 45 (curC code x.1) :: TPlaces.ow x.2.1 x.2.2) (fun x => AV.agg (TPlaces.ocs x.2.1 x.2.2)) := by
  refine gspec_of_awp Tryz.func15 rfl Tryz.ntmps15 rfl ?_
  refine awp_seq ?_
  refine awp_region ?_
  refine sq_alloc rfl rfl rfl rfl Tryz.zeroValue26 rfl ?_
  intro b2
  refine sq_nil ?_
  refine awp_seq ?_
  refine awp_region ?_
  refine sq_plain rfl rfl rfl (w_move rfl (ev_tmp rfl)) ?_
  refine sq_callG [1] rfl rfl rfl rfl Tryz.call33 rfl (curPlaces_own _ _ hcode _ (by omega)) (evl_cons (ev_tmp rfl) evl_nil) rfl ?_
  intro x5 ok5
  have hs5 := good_size ok5.2
  have hg5 := (good_facts ok5.2).2.2.2.1
  have hl5 := places_lens hs5
  unfold TPlaces.size at hs5
  refine sq_alloc rfl rfl rfl rfl Tryz.zeroValue26 rfl ?_
  intro b3
  refine sq_storeB0 0 rfl rfl rfl (ev_tmp rfl) (ev_tmp rfl) (as_agg _) rfl Tryz.sizeOf26 rfl ?_
  refine sq_nil ?_
  refine awp_seq ?_
  refine awp_seq ?_
  refine awp_own (by first | (simp only [TPlaces.ow, TPlaces.ocs, pick, List.eraseIdx_cons_zero, List.eraseIdx_cons_succ, List.set_cons_zero, List.set_cons_succ, List.cons_append, List.nil_append, List.getElem?_cons_zero, List.getElem?_cons_succ, List.append_nil, List.take_succ_cons, List.take_zero, List.drop_succ_cons, List.drop_zero]; exact rfl) | exact rfl) ?_
  refine awp_region ?_
  refine sq_plain rfl rfl rfl (w_move rfl (ev_tmp rfl)) ?_
  refine sq_callG [1] rfl rfl rfl rfl Tryz.call30 rfl (curPick_own _ _ hcode _ _ (by omega) (by omega)) (evl_cons (ev_tmp rfl) (evl_cons ev_ci evl_nil)) rfl ?_
  intro x7 ok7
  refine sq_nil ?_
  refine awp_block ?_
  refine awp_seq ?_
  refine awp_region ?_
  refine sq_plain rfl rfl rfl (w_eql rfl (ev_tmp rfl) ev_ci) ?_
  refine sq_plain rfl rfl rfl (w_assign rfl (ev_tmp rfl)) ?_
  refine sq_nil ?_
  refine awp_cond (ev_tmp rfl) ?_ ?_
  · intro h8
    have k8 := eq_of_beqt h8; try simp only [List.length_map] at k8
    refine awp_region ?_
    refine sq_plain rfl rfl rfl (w_move rfl (ev_tmp rfl)) ?_
    refine sq_plain rfl rfl rfl (w_bslice rfl Tryz.underlying24 Tryz.sizeOf3 Tryz.zeroValue3 rfl rfl rfl rfl (bp_cons ev_ci (as_ik _ _) (bp_cons ev_ci (as_ik _ _) (bp_cons ev_ci (as_ik _ _) bp_nil))) rfl rfl) ?_
    refine sq_callG [0] rfl rfl rfl rfl Tryz.call38 rfl (curAmong_own _ _ hcode _ ([(-1), (50), (51)] : List Int) (by decide) (by omega)) (evl_cons (ev_tmp rfl) (evl_cons (ev_tmp rfl) evl_nil)) rfl ?_
    intro x12 ok12
    refine sq_plain rfl rfl rfl (w_fldBn 0 rfl Tryz.underlying26 rfl Tryz.sizeOf3 (ev_tmp rfl) rfl) ?_
    refine sq_storeB1 1 rfl rfl rfl (ev_tmp rfl) (ev_tmp rfl) (as_ik _ _) rfl Tryz.sizeOf3 rfl ?_
    refine sq_nil ?_
    refine awp_seq ?_
    refine awp_own (by first | (simp only [TPlaces.ow, TPlaces.ocs, pick, List.eraseIdx_cons_zero, List.eraseIdx_cons_succ, List.set_cons_zero, List.set_cons_succ, List.cons_append, List.nil_append, List.getElem?_cons_zero, List.getElem?_cons_succ, List.append_nil, List.take_succ_cons, List.take_zero, List.drop_succ_cons, List.drop_zero]; exact rfl) | exact rfl) ?_
    refine awp_region ?_
    refine sq_plain rfl rfl rfl (w_loadA 1 rfl (ev_tmp rfl) rfl Tryz.isAgg26 Tryz.sizeOf26 rfl) ?_
    refine sq_storeB0 4 rfl rfl rfl (ev_tmp rfl) (ev_tmp rfl) (as_agg _) rfl Tryz.sizeOf26 rfl ?_
    refine sq_nil ?_
    refine awp_ret ?_
    (refine retG [0, 1, 1] ((x12.1, ⟨x12.2, x5.2.1.Cuts, x5.2.1.Groups⟩, x5.2.2.1, x5.2.2.2)) ?_ rfl (by first | (dsimp only; rfl) | (dsimp only [TPlaces.ow]; rw [List.map_append]; rfl) | (dsimp only [TPlaces.ow]; rw [List.map_set]; rfl)) (resR rfl (rv_cell (ys := _) 4 rfl rfl Tryz.isAgg26 Tryz.sizeOf26 rfl)); (dsimp only [TPlaces.size]; first | exact ⟨by omega, by omega⟩ | (rw [sizeL_snoc]; exact ⟨by omega, by omega⟩) | (rw [List.length_append]; exact ⟨by omega, by simp only [List.length_cons, List.length_nil]; omega⟩) | (rw [List.length_set]; exact ⟨by omega, by omega⟩) | exact ⟨by omega, by simp [sizeL]⟩))
  · intro h8
    have k8 := ne_of_beqf h8; try simp only [List.length_map] at k8
    refine awp_seq ?_
    refine awp_region ?_
    refine sq_plain rfl rfl rfl (w_eql rfl (ev_tmp rfl) ev_ci) ?_
    refine sq_plain rfl rfl rfl (w_assign rfl (ev_tmp rfl)) ?_
    refine sq_nil ?_
    refine awp_cond (ev_tmp rfl) ?_ ?_
    · intro h14
      have k14 := eq_of_beqt h14; try simp only [List.length_map] at k14
      refine AWP.le (le_pick [1, 3, 2] rfl) ?_
      refine awp_region_mix _ [(0, false), (1, false), (2, false), (3, false), (4, true), (5, false), (6, true)] (by kernel_rfl) (by kernel_rfl) rfl (invx_take 3) ?_
      refine bc_plain rfl rfl rfl (fun ext => w_fldBn 1 rfl Tryz.underlying26 rfl Tryz.sizeOf23 (ev_tmp rfl) rfl) ?_
      refine bc_plain rfl rfl rfl (fun ext => w_loadB1 0 rfl (ev_tmp rfl) rfl Tryz.isAgg23 rfl) ?_
      refine bc_plain rfl rfl rfl (fun ext => w_move rfl (ev_tmp rfl)) ?_
      refine bc_plain rfl rfl rfl (fun ext => w_bslice rfl Tryz.underlying23 Tryz.sizeOf9 Tryz.zeroValue9 rfl rfl rfl rfl (bp_cons (ev_cs' (l := []) rfl) (as_str _) (bp_cons (ev_cs' (l := [65]) rfl) (as_str _) (bp_cons (ev_cs' (l := [97]) rfl) (as_str _) (bp_cons (ev_cs' (l := [122, 122]) rfl) (as_str _) bp_nil)))) rfl rfl) ?_
      refine bc_eff rfl rfl rfl (opE_call [3] rfl Tryz.call16 rfl (curOf_own _ _ hcode _ ([[], [65], [97], [122, 122]] : List Str) (by decide) (by omega)) (evl_cons (ev_tmp rfl) (evl_cons (ev_tmp rfl) evl_nil)) rfl) (fun a _ => (by first | exact invx_mk rfl | exact invx_mk (List.append_assoc _ _ _) | exact invx_all)) ?_
      intro x20 ok20
      refine bc_plain rfl rfl rfl (fun ext => w_bslice rfl Tryz.underlying23 Tryz.sizeOf9 Tryz.zeroValue9 rfl rfl rfl rfl (bp_cons (ev_tmp rfl) (as_str _) bp_nil) rfl rfl) ?_
      refine bc_eff rfl rfl rfl (opE_append (by' := 16) 3 rfl Tryz.underlying23 Tryz.type9 rfl rfl rfl rfl rfl rfl (ev_tmp rfl) (ev_tmp rfl) rfl (by first | omega | ((try simp only [List.length_map, List.length_take, List.length_cons, List.length_nil, chunks_len, szR] at *); omega) | (have hc2 := hc; simp only [Bool.and_eq_true, Bool.or_eq_true, Bool.or_eq_false_iff, Bool.and_eq_false_iff, Bool.not_eq_true', Bool.not_eq_false', decide_eq_true_eq, decide_eq_false_iff_not, beq_iff_eq, bne_iff_ne, List.length_map, List.length_take] at hc2; omega))) (fun a _ => (by first | exact invx_mk rfl | exact invx_mk (List.append_assoc _ _ _) | exact invx_all)) ?_
      intro v22_1 _
      refine bc_nil ?_
      refine sq_plain rfl rfl rfl (w_fldBn 1 rfl Tryz.underlying26 rfl Tryz.sizeOf23 (ev_tmp rfl) rfl) ?_
      refine sq_fact 3 rfl fun one_v22_1 => ?_
      refine sq_storeB1 0 rfl rfl rfl (ev_tmp rfl) (ev_tmp rfl) (as_is one_v22_1) rfl Tryz.sizeOf23 rfl ?_
      refine sq_nil ?_
      refine awp_seq ?_
      refine awp_own (by first | (simp only [TPlaces.ow, TPlaces.ocs, pick, List.eraseIdx_cons_zero, List.eraseIdx_cons_succ, List.set_cons_zero, List.set_cons_succ, List.cons_append, List.nil_append, List.getElem?_cons_zero, List.getElem?_cons_succ, List.append_nil, List.take_succ_cons, List.take_zero, List.drop_succ_cons, List.drop_zero]; exact rfl) | exact rfl) ?_
      refine awp_region ?_
      refine sq_plain rfl rfl rfl (w_loadA 0 rfl (ev_tmp rfl) rfl Tryz.isAgg26 Tryz.sizeOf26 rfl) ?_
      refine sq_storeB0 1 rfl rfl rfl (ev_tmp rfl) (ev_tmp rfl) (as_agg _) rfl Tryz.sizeOf26 rfl ?_
      refine sq_nil ?_
      refine awp_ret ?_
      (refine retG [4, 3, 2] ((x20.1, ⟨x5.2.1.Ver, x5.2.1.Cuts ++ [x20.2], x5.2.1.Groups⟩, v22_1, x5.2.2.2)) ?_ rfl (by first | (dsimp only; rfl) | (dsimp only [TPlaces.ow]; rw [List.map_append]; rfl) | (dsimp only [TPlaces.ow]; rw [List.map_set]; rfl)) (resR rfl (rv_cell (ys := _) 1 rfl rfl Tryz.isAgg26 Tryz.sizeOf26 rfl)); (dsimp only [TPlaces.size]; first | exact ⟨by omega, by omega⟩ | (rw [sizeL_snoc]; exact ⟨by omega, by omega⟩) | (rw [List.length_append]; exact ⟨by omega, by simp only [List.length_cons, List.length_nil]; omega⟩) | (rw [List.length_set]; exact ⟨by omega, by omega⟩) | exact ⟨by omega, by simp [sizeL]⟩))
    · intro h14
      have k14 := ne_of_beqf h14; try simp only [List.length_map] at k14
      refine awp_seq ?_
      refine awp_region ?_
      refine sq_plain rfl rfl rfl (w_eql rfl (ev_tmp rfl) ev_ci) ?_
      refine sq_plain rfl rfl rfl (w_assign rfl (ev_tmp rfl)) ?_
      refine sq_nil ?_
      refine awp_cond (ev_tmp rfl) ?_ ?_
      · intro h24
        have k24 := eq_of_beqt h24; try simp only [List.length_map] at k24
        refine AWP.le (le_pick [1, 3, 1] rfl) ?_
        refine awp_region_mix _ [(0, false), (1, false), (2, false), (3, true), (4, false), (5, false), (6, true)] (by kernel_rfl) (by kernel_rfl) rfl (invx_take 3) ?_
        refine bc_plain rfl rfl rfl (fun ext => w_fldBn 2 rfl Tryz.underlying26 rfl Tryz.sizeOf24 (ev_tmp rfl) rfl) ?_
        refine bc_plain rfl rfl rfl (fun ext => w_loadB1 0 rfl (ev_tmp rfl) rfl Tryz.isAgg24 rfl) ?_
        refine bc_plain rfl rfl rfl (fun ext => w_move rfl (ev_tmp rfl)) ?_
        refine bc_eff rfl rfl rfl (opE_call [3] rfl Tryz.call30 rfl (curPick_own _ _ hcode _ _ (by omega) (by omega)) (evl_cons (ev_tmp rfl) (evl_cons ev_ci evl_nil)) rfl) (fun a _ => (by first | exact invx_mk rfl | exact invx_mk (List.append_assoc _ _ _) | exact invx_all)) ?_
        intro x29 ok29
        refine bc_plain rfl rfl rfl (fun ext => w_subi rfl (ev_tmp rfl) ev_ci (by first | omega | ((try simp only [List.length_map, List.length_take, List.length_cons, List.length_nil, chunks_len, szR] at *); omega) | (have hc2 := hc; simp only [Bool.and_eq_true, Bool.or_eq_true, Bool.or_eq_false_iff, Bool.and_eq_false_iff, Bool.not_eq_true', Bool.not_eq_false', decide_eq_true_eq, decide_eq_false_iff_not, beq_iff_eq, bne_iff_ne, List.length_map, List.length_take] at hc2; omega))) ?_
        refine bc_plain rfl rfl rfl (fun ext => w_bslice rfl Tryz.underlying24 Tryz.sizeOf3 Tryz.zeroValue3 rfl rfl rfl rfl (bp_cons (ev_tmp rfl) (as_ik _ _) bp_nil) rfl rfl) ?_
        refine bc_eff rfl rfl rfl (opE_append (by' := 8) 3 rfl Tryz.underlying24 Tryz.type3 rfl rfl rfl rfl rfl rfl (ev_tmp rfl) (ev_tmp rfl) rfl (by first | omega | ((try simp only [List.length_map, List.length_take, List.length_cons, List.length_nil, chunks_len, szR] at *); omega) | (have hc2 := hc; simp only [Bool.and_eq_true, Bool.or_eq_true, Bool.or_eq_false_iff, Bool.and_eq_false_iff, Bool.not_eq_true', Bool.not_eq_false', decide_eq_true_eq, decide_eq_false_iff_not, beq_iff_eq, bne_iff_ne, List.length_map, List.length_take] at hc2; omega))) (fun a _ => (by first | exact invx_mk rfl | exact invx_mk (List.append_assoc _ _ _) | exact invx_all)) ?_
        intro v32_2 _
        refine bc_nil ?_
        refine sq_plain rfl rfl rfl (w_fldBn 2 rfl Tryz.underlying26 rfl Tryz.sizeOf24 (ev_tmp rfl) rfl) ?_
        refine sq_fact 3 rfl fun one_v32_2 => ?_
        refine sq_storeB1 0 rfl rfl rfl (ev_tmp rfl) (ev_tmp rfl) (as_is one_v32_2) rfl Tryz.sizeOf24 rfl ?_
        refine sq_nil ?_
        refine awp_seq ?_
        refine awp_own (by first | (simp only [TPlaces.ow, TPlaces.ocs, pick, List.eraseIdx_cons_zero, List.eraseIdx_cons_succ, List.set_cons_zero, List.set_cons_succ, List.cons_append, List.nil_append, List.getElem?_cons_zero, List.getElem?_cons_succ, List.append_nil, List.take_succ_cons, List.take_zero, List.drop_succ_cons, List.drop_zero]; exact rfl) | exact rfl) ?_
        refine awp_region ?_
        refine sq_plain rfl rfl rfl (w_loadA 0 rfl (ev_tmp rfl) rfl Tryz.isAgg26 Tryz.sizeOf26 rfl) ?_
        refine sq_storeB0 1 rfl rfl rfl (ev_tmp rfl) (ev_tmp rfl) (as_agg _) rfl Tryz.sizeOf26 rfl ?_
        refine sq_nil ?_
        refine awp_ret ?_
        (refine retG [4, 2, 2] ((x29.1, ⟨x5.2.1.Ver, x5.2.1.Cuts, x5.2.1.Groups ++ [x29.2 - 1]⟩, x5.2.2.1, v32_2)) ?_ rfl (by first | (dsimp only; rfl) | (dsimp only [TPlaces.ow]; rw [List.map_append]; rfl) | (dsimp only [TPlaces.ow]; rw [List.map_set]; rfl)) (resR rfl (rv_cell (ys := _) 1 rfl rfl Tryz.isAgg26 Tryz.sizeOf26 rfl)); (dsimp only [TPlaces.size]; first | exact ⟨by omega, by omega⟩ | (rw [sizeL_snoc]; exact ⟨by omega, by omega⟩) | (rw [List.length_append]; exact ⟨by omega, by simp only [List.length_cons, List.length_nil]; omega⟩) | (rw [List.length_set]; exact ⟨by omega, by omega⟩) | exact ⟨by omega, by simp [sizeL]⟩))
      · intro h24
        have k24 := ne_of_beqf h24; try simp only [List.length_map] at k24
        refine awp_seq ?_
        refine awp_region ?_
        refine sq_plain rfl rfl rfl (w_eql rfl (ev_tmp rfl) ev_ci) ?_
        refine sq_plain rfl rfl rfl (w_assign rfl (ev_tmp rfl)) ?_
        refine sq_nil ?_
        refine awp_cond (ev_tmp rfl) ?_ ?_
        · intro h34
          have k34 := eq_of_beqt h34; try simp only [List.length_map] at k34
          refine AWP.le (le_pick [1, 3, 1, 1] rfl) ?_
          refine awp_region_mix _ [(0, false), (1, false), (2, false), (3, false), (4, true)] (by kernel_rfl) (by kernel_rfl) rfl (invx_take 4) ?_
          refine bc_plain rfl rfl rfl (fun ext => w_fldBn 2 rfl Tryz.underlying26 rfl Tryz.sizeOf24 (ev_tmp rfl) rfl) ?_
          refine bc_plain rfl rfl rfl (fun ext => w_loadB1 0 rfl (ev_tmp rfl) rfl Tryz.isAgg24 rfl) ?_
          refine bc_plain rfl rfl rfl (fun ext => w_move rfl (ev_tmp rfl)) ?_
          refine bc_plain rfl rfl rfl (fun ext => w_bslice rfl Tryz.underlying24 Tryz.sizeOf3 Tryz.zeroValue3 rfl rfl rfl rfl (bp_cons ev_ci (as_ik _ _) (bp_cons ev_ci (as_ik _ _) bp_nil)) rfl rfl) ?_
          refine bc_eff rfl rfl rfl (opE_call [4] rfl Tryz.call38 rfl (curAmong_own _ _ hcode _ ([(-1), (4)] : List Int) (by decide) (by omega)) (evl_cons (ev_tmp rfl) (evl_cons (ev_tmp rfl) evl_nil)) rfl) (fun a _ => (by first | exact invx_mk rfl | exact invx_mk (List.append_assoc _ _ _) | exact invx_all)) ?_
          intro x40 ok40
          refine bc_nil ?_
          refine sq_plain rfl rfl rfl (w_aidx 3 rfl Tryz.underlying24 Tryz.sizeOf3 (ev_tmp rfl) rfl ev_ci (by first | omega | ((try simp only [List.length_map, List.length_take, List.length_cons, List.length_nil, chunks_len, szR] at *); omega) | (have hc2 := hc; simp only [Bool.and_eq_true, Bool.or_eq_true, Bool.or_eq_false_iff, Bool.and_eq_false_iff, Bool.not_eq_true', Bool.not_eq_false', decide_eq_true_eq, decide_eq_false_iff_not, beq_iff_eq, bne_iff_ne, List.length_map, List.length_take] at hc2; omega)) (by first | omega | ((try simp only [List.length_map, List.length_take, List.length_cons, List.length_nil, chunks_len, szR] at *); omega) | (have hc2 := hc; simp only [Bool.and_eq_true, Bool.or_eq_true, Bool.or_eq_false_iff, Bool.and_eq_false_iff, Bool.not_eq_true', Bool.not_eq_false', decide_eq_true_eq, decide_eq_false_iff_not, beq_iff_eq, bne_iff_ne, List.length_map, List.length_take] at hc2; omega))) ?_
          refine sq_storeA 3 rfl rfl rfl (ev_tmp rfl) (ev_tmp rfl) (as_ik _ _) rfl Tryz.sizeOf3 rfl (by first | omega | ((try simp only [List.length_map, List.length_take, List.length_cons, List.length_nil, chunks_len, szR] at *); omega) | (have hc2 := hc; simp only [Bool.and_eq_true, Bool.or_eq_true, Bool.or_eq_false_iff, Bool.and_eq_false_iff, Bool.not_eq_true', Bool.not_eq_false', decide_eq_true_eq, decide_eq_false_iff_not, beq_iff_eq, bne_iff_ne, List.length_map, List.length_take] at hc2; omega)) ?_
          refine sq_nil ?_
          refine awp_seq ?_
          refine awp_own (by first | (simp only [TPlaces.ow, TPlaces.ocs, pick, List.eraseIdx_cons_zero, List.eraseIdx_cons_succ, List.set_cons_zero, List.set_cons_succ, List.cons_append, List.nil_append, List.getElem?_cons_zero, List.getElem?_cons_succ, List.append_nil, List.take_succ_cons, List.take_zero, List.drop_succ_cons, List.drop_zero]; exact rfl) | exact rfl) ?_
          refine awp_region ?_
          refine sq_plain rfl rfl rfl (w_loadA 0 rfl (ev_tmp rfl) rfl Tryz.isAgg26 Tryz.sizeOf26 rfl) ?_
          refine sq_storeB0 1 rfl rfl rfl (ev_tmp rfl) (ev_tmp rfl) (as_agg _) rfl Tryz.sizeOf26 rfl ?_
          refine sq_nil ?_
          refine awp_ret ?_
          (refine retG [4, 2, 2] ((x40.1, ⟨x5.2.1.Ver, x5.2.1.Cuts, x5.2.1.Groups.set 0 x40.2⟩, x5.2.2.1, x5.2.2.2)) ?_ rfl (by first | (dsimp only; rfl) | (dsimp only [TPlaces.ow]; rw [List.map_append]; rfl) | (dsimp only [TPlaces.ow]; rw [List.map_set]; rfl)) (resR rfl (rv_cell (ys := _) 1 rfl rfl Tryz.isAgg26 Tryz.sizeOf26 rfl)); (dsimp only [TPlaces.size]; first | exact ⟨by omega, by omega⟩ | (rw [sizeL_snoc]; exact ⟨by omega, by omega⟩) | (rw [List.length_append]; exact ⟨by omega, by simp only [List.length_cons, List.length_nil]; omega⟩) | (rw [List.length_set]; exact ⟨by omega, by omega⟩) | exact ⟨by omega, by simp [sizeL]⟩))
        · intro h34
          have k34 := ne_of_beqf h34; try simp only [List.length_map] at k34
          refine awp_seq ?_
          refine awp_region ?_
          refine sq_plain rfl rfl rfl (w_eql rfl (ev_tmp rfl) ev_ci) ?_
          refine sq_plain rfl rfl rfl (w_assign rfl (ev_tmp rfl)) ?_
          refine sq_nil ?_
          refine awp_cond (ev_tmp rfl) ?_ ?_
          · intro h42
            have k42 := eq_of_beqt h42; try simp only [List.length_map] at k42
            refine awp_region ?_
            refine sq_plain rfl rfl rfl (w_build (places := #[(0, 1), (1, 1), (2, 1)]) rfl Tryz.underlying26 Tryz.zeroValue26 (fun w => by kernel_rfl) rfl bp_nil rfl) ?_
            refine sq_storeB0 1 rfl rfl rfl (ev_tmp rfl) (ev_tmp rfl) (as_agg _) rfl Tryz.sizeOf26 rfl ?_
            refine sq_nil ?_
            refine awp_seq ?_
            refine awp_own (by first | (simp only [TPlaces.ow, TPlaces.ocs, pick, List.eraseIdx_cons_zero, List.eraseIdx_cons_succ, List.set_cons_zero, List.set_cons_succ, List.cons_append, List.nil_append, List.getElem?_cons_zero, List.getElem?_cons_succ, List.append_nil, List.take_succ_cons, List.take_zero, List.drop_succ_cons, List.drop_zero]; exact rfl) | exact rfl) ?_
            refine awp_region ?_
            refine sq_plain rfl rfl rfl (w_loadA 1 rfl (ev_tmp rfl) rfl Tryz.isAgg26 Tryz.sizeOf26 rfl) ?_
            refine sq_storeB0 4 rfl rfl rfl (ev_tmp rfl) (ev_tmp rfl) (as_agg _) rfl Tryz.sizeOf26 rfl ?_
            refine sq_nil ?_
            refine awp_ret ?_
            refine retG_nil 9 1 ?_
            refine retG_nil 3 1 ?_
            (refine retG [2, 1, 0] ((x7.1, ⟨0, [], []⟩, (Value.slice none 0 0), (Value.slice none 0 0))) ?_ rfl (by first | (dsimp only; rfl) | (dsimp only [TPlaces.ow]; rw [List.map_append]; rfl) | (dsimp only [TPlaces.ow]; rw [List.map_set]; rfl)) (resR rfl (rv_cell (ys := _) 6 rfl rfl Tryz.isAgg26 Tryz.sizeOf26 rfl)); (dsimp only [TPlaces.size]; first | exact ⟨by omega, by omega⟩ | (rw [sizeL_snoc]; exact ⟨by omega, by omega⟩) | (rw [List.length_append]; exact ⟨by omega, by simp only [List.length_cons, List.length_nil]; omega⟩) | (rw [List.length_set]; exact ⟨by omega, by omega⟩) | exact ⟨by omega, by simp [sizeL]⟩))
          · intro h42
            have k42 := ne_of_beqf h42; try simp only [List.length_map] at k42
            refine awp_skip ?_
            refine awp_seq ?_
            refine awp_own (by first | (simp only [TPlaces.ow, TPlaces.ocs, pick, List.eraseIdx_cons_zero, List.eraseIdx_cons_succ, List.set_cons_zero, List.set_cons_succ, List.cons_append, List.nil_append, List.getElem?_cons_zero, List.getElem?_cons_succ, List.append_nil, List.take_succ_cons, List.take_zero, List.drop_succ_cons, List.drop_zero]; exact rfl) | exact rfl) ?_
            refine awp_region ?_
            refine sq_plain rfl rfl rfl (w_loadA 1 rfl (ev_tmp rfl) rfl Tryz.isAgg26 Tryz.sizeOf26 rfl) ?_
            refine sq_storeB0 4 rfl rfl rfl (ev_tmp rfl) (ev_tmp rfl) (as_agg _) rfl Tryz.sizeOf26 rfl ?_
            refine sq_nil ?_
            refine awp_ret ?_
            (refine retG [0, 1, 1] ((x7.1, ⟨x5.2.1.Ver, x5.2.1.Cuts, x5.2.1.Groups⟩, x5.2.2.1, x5.2.2.2)) ?_ rfl (by first | (dsimp only; rfl) | (dsimp only [TPlaces.ow]; rw [List.map_append]; rfl) | (dsimp only [TPlaces.ow]; rw [List.map_set]; rfl)) (resR rfl (rv_cell (ys := _) 4 rfl rfl Tryz.isAgg26 Tryz.sizeOf26 rfl)); (dsimp only [TPlaces.size]; first | exact ⟨by omega, by omega⟩ | (rw [sizeL_snoc]; exact ⟨by omega, by omega⟩) | (rw [List.length_append]; exact ⟨by omega, by simp only [List.length_cons, List.length_nil]; omega⟩) | (rw [List.length_set]; exact ⟨by omega, by omega⟩) | exact ⟨by omega, by simp [sizeL]⟩))
theorem drawRangeOf_own (code : List Int) (hcode : ByteL code) : GSpec Tryz.prog 4 [bytesI code] [] (fun x : TPlaces × Str => x.1.size ≤ 600 ∧ x.2.length ≤ 64) (fun x => []) (fun x => AV.tup [AV.agg x.1.cs, AV.str x.2]) := by
  refine gspec_of_awp Tryz.func4 rfl Tryz.ntmps4 rfl ?_
  refine awp_seq ?_
  refine awp_region ?_
  refine sq_alloc rfl rfl rfl rfl Tryz.zeroValue26 rfl ?_
  intro b2
  refine sq_plain rfl rfl rfl (w_assign rfl (ev_cs' (l := []) rfl)) ?_
  refine sq_nil ?_
  refine awp_seq ?_
  refine awp_region ?_
  refine sq_plain rfl rfl rfl (w_move rfl (ev_tmp rfl)) ?_
  refine sq_plain rfl rfl rfl (w_build (places := #[(0, 1), (1, 1), (2, 1)]) rfl Tryz.underlying45 Tryz.zeroValue45 (fun w => by kernel_rfl) rfl (bp_cons (ev_tmp rfl) (as_list _ _) bp_nil) rfl) ?_
  refine sq_box rfl rfl rfl rfl (ev_tmp rfl) ?_
  intro b8
  refine sq_plain rfl rfl rfl (w_assign rfl (ev_tmp rfl)) ?_
  refine sq_nil ?_
  refine awp_seq ?_
  refine awp_region ?_
  refine sq_plain rfl rfl rfl (w_move rfl (ev_tmp rfl)) ?_
  refine sq_callG [0] rfl rfl rfl rfl Tryz.call15 rfl (curBentPlaces_own _ _ hcode ⟨0, 0⟩ (by decide)) (evl_cons (ev_tmp rfl) evl_nil) rfl ?_
  intro x10 ok10
  have hp10 : x10.1.p ≤ 50 := ok10.1
  refine sq_le (le_sealD [1, 1] 10 rfl rfl (lt_agg (lc_cons lt_refl (lc_cons (lt_arr (List.mem_of_getElem? (i := 0) rfl) le_refl_e) (lc_cons (lt_arr (List.mem_of_getElem? (i := 1) rfl) le_refl_e) lc_nil)))) gin_nil) ?_
  refine sq_alloc rfl rfl rfl rfl Tryz.zeroValue26 rfl ?_
  intro b5
  refine sq_storeB0 0 rfl rfl rfl (ev_tmp rfl) (ev_tmp rfl) (as_agg _) rfl Tryz.sizeOf26 rfl ?_
  refine sq_nil ?_
  refine awp_seq ?_
  refine AWP.le (le_pick [0] rfl) ?_
  refine awp_region_mix _ [(0, false), (1, false), (2, false), (3, true)] (by kernel_rfl) (by kernel_rfl) rfl (invx_take 1) ?_
  refine bc_plain rfl rfl rfl (fun ext => w_loadA 0 rfl (ev_tmp rfl) rfl Tryz.isAgg26 Tryz.sizeOf26 rfl) ?_
  refine bc_plain rfl rfl rfl (fun ext => w_move rfl (ev_tmp rfl)) ?_
  refine bc_plain rfl rfl rfl (fun ext => w_bslice rfl Tryz.underlying23 Tryz.sizeOf9 Tryz.zeroValue9 rfl rfl rfl rfl (bp_cons (ev_cs' (l := [97]) rfl) (as_str _) (bp_cons (ev_cs' (l := [98]) rfl) (as_str _) (bp_cons (ev_cs' (l := [99]) rfl) (as_str _) (bp_cons (ev_cs' (l := [109]) rfl) (as_str _) (bp_cons (ev_cs' (l := [110]) rfl) (as_str _) (bp_cons (ev_cs' (l := [122]) rfl) (as_str _) (bp_cons (ev_cs' (l := [114, 47, 49]) rfl) (as_str _) (bp_cons (ev_cs' (l := [105, 47, 120, 47, 49]) rfl) (as_str _) (bp_cons (ev_cs' (l := []) rfl) (as_str _) (bp_cons (ev_cs' (l := [48]) rfl) (as_str _) (bp_cons (ev_cs' (l := [122, 122]) rfl) (as_str _) bp_nil))))))))))) rfl rfl) ?_
  refine bc_eff rfl rfl rfl (opE_call [1] rfl Tryz.call16 rfl (curOf_own _ _ hcode _ ([[97], [98], [99], [109], [110], [122], [114, 47, 49], [105, 47, 120, 47, 49], [], [48], [122, 122]] : List Str) (by decide) (by omega)) (evl_cons (ev_tmp rfl) (evl_cons (ev_tmp rfl) evl_nil)) rfl) (fun a _ => (by first | exact invx_mk rfl | exact invx_mk (List.append_assoc _ _ _) | exact invx_all)) ?_
  intro x14 ok14
  refine bc_nil ?_
  refine sq_storeB0 1 rfl rfl rfl (ev_tmp rfl) (ev_tmp rfl) (as_agg _) rfl Tryz.sizeOf26 rfl ?_
  refine sq_plain rfl rfl rfl (w_assign rfl (ev_tmp rfl)) ?_
  refine sq_nil ?_
  refine awp_ret ?_
  (refine retG [] ((x10.2.1, x14.2)) ?_ rfl (by first | (dsimp only; rfl) | rfl) (resN rfl (by decide) (rv_cons (rv_cell (ys := _) 1 rfl rfl Tryz.isAgg26 Tryz.sizeOf26 rfl) (rv_cons (rv_tmp' rfl (by rfl)) rv_nil))); exact ⟨ok10.2, ok14.2⟩)
end Go.Proofs.YtdgoejkijpllpaaGreatDoor

set_option linter.unusedVariables false
set_option linter.unusedSimpArgs false
namespace Go.M
structure TSrc where
  at' : Nat
  bad : Bool
end Go.M

set_option linter.unusedVariables false
set_option linter.unusedSimpArgs false
set_option maxRecDepth 100000
namespace Go.M
open Go.AV
end Go.M
namespace Go.Proofs.YtdgoejkijpllpaaGreatDoor
open Go Go.AV Go.M
attribute [local irreducible] OpW OpA OpS AWP FSpec ESpec GSpec OpE RetOk RetOkG RvDen Le Ev GuardIs SrcIs Int.tmod Int.tdiv IntKind.wrap
end Go.Proofs.YtdgoejkijpllpaaGreatDoor

set_option linter.unusedVariables false
set_option linter.unusedSimpArgs false
set_option maxRecDepth 100000
namespace Go.M
open Go.AV
end Go.M
namespace Go.Proofs.YtdgoejkijpllpaaGreatDoor
open Go Go.AV Go.M
attribute [local irreducible] OpW OpA OpS AWP FSpec ESpec GSpec OpE RetOk RetOkG RvDen Le Ev GuardIs SrcIs Int.tmod Int.tdiv IntKind.wrap
end Go.Proofs.YtdgoejkijpllpaaGreatDoor

set_option linter.unusedVariables false
set_option linter.unusedSimpArgs false
set_option maxRecDepth 100000
namespace Go.M
open Go.AV
end Go.M
namespace Go.Proofs.YtdgoejkijpllpaaGreatDoor
open Go Go.AV Go.M
attribute [local irreducible] OpW OpA OpS AWP FSpec ESpec GSpec OpE RetOk RetOkG RvDen Le Ev GuardIs SrcIs Int.tmod Int.tdiv IntKind.wrap
end Go.Proofs.YtdgoejkijpllpaaGreatDoor

set_option linter.unusedVariables false
set_option linter.unusedSimpArgs false
set_option maxRecDepth 100000
namespace Go.Proofs.YtdgoejkijpllpaaGreatDoor
open Go Go.AV Go.M
attribute [local irreducible] OpW OpA OpS AWP FSpec ESpec GSpec OpE RetOk RetOkG RvDen Le Ev GuardIs SrcIs
end Go.Proofs.YtdgoejkijpllpaaGreatDoor

set_option linter.unusedVariables false
set_option linter.unusedSimpArgs false
set_option maxRecDepth 100000
namespace Go.Proofs.YtdgoejkijpllpaaGreatDoor
open Go Go.AV Go.M
attribute [local irreducible] OpW OpA OpS AWP FSpec ESpec GSpec OpE RetOk RetOkG RvDen Le Ev GuardIs SrcIs Int.tmod Int.tdiv IntKind.wrap bandI
end Go.Proofs.YtdgoejkijpllpaaGreatDoor

set_option linter.unusedVariables false
set_option linter.unusedSimpArgs false
set_option maxRecDepth 100000
namespace Go.M
open Go.AV
theorem spoil_a (t : Str) (i : Nat) (y : UInt8) : ((t.take i ++ [y]) ++ t.drop i).length = t.length + 1 := by
  simp only [List.length_append, List.length_cons, List.length_nil, List.length_take, List.length_drop]; omega
theorem spoil_b (t : Str) (i : Nat) (y : UInt8) : ((t.take i ++ [y]) ++ t.drop (i + 1)).length ≤ t.length + 1 := by
  simp only [List.length_append, List.length_cons, List.length_nil, List.length_take, List.length_drop]; omega
theorem spoil_c (t : Str) (i : Nat) : (t.take i ++ t.drop (i + 1)).length ≤ t.length + 1 := by
  simp only [List.length_append, List.length_take, List.length_drop]; omega
end Go.M
namespace Go.Proofs.YtdgoejkijpllpaaGreatDoor
open Go Go.AV Go.M
attribute [local irreducible] OpW OpA OpS AWP FSpec ESpec GSpec OpE RetOk RetOkG RvDen Le Ev GuardIs SrcIs Int.tmod Int.tdiv IntKind.wrap bandI
theorem curSpoilt_own (b : Nat) (code : List Int) (hcode : ByteL code) (c : TCur) (t w : Str) (ht : t.length ≤ 500000) (hw : 1 ≤ w.length ∧ w.length ≤ 1000) (hp : c.p ≤ 5000000) : GSpec Tryz.prog 35 [AV.ptr b 0, AV.str t, AV.str w] [.box b 45 (curC code c)] (fun x : TCur × Str => x.1.p ≤ c.p + 20 ∧ x.2.length ≤ t.length + 2) (fun x => [.box b 45 (curC code x.1)]) (fun x => AV.str x.2) := by
  refine gspec_of_awp Tryz.func35 rfl Tryz.ntmps35 rfl ?_
  refine awp_seq ?_
  refine awp_region ?_
  refine sq_plain rfl rfl rfl (w_assign rfl (ev_cs' (l := []) rfl)) ?_
  refine sq_nil ?_
  refine awp_seq ?_
  refine awp_seq ?_
  refine awp_region ?_
  refine sq_plain rfl rfl rfl (w_move rfl (ev_tmp rfl)) ?_
  refine sq_callG [0] rfl rfl rfl rfl Tryz.call30 rfl (curPick_own _ _ hcode _ _ (by omega) (by omega)) (evl_cons (ev_tmp rfl) (evl_cons ev_ci evl_nil)) rfl ?_
  intro x11 ok11
  refine sq_plain rfl rfl rfl (w_addi rfl ev_ci (ev_tmp rfl) (by first | omega | ((try simp only [List.length_map, List.length_take, List.length_cons, List.length_nil, chunks_len, szR] at *); omega) | (have hc2 := hc; simp only [Bool.and_eq_true, Bool.or_eq_true, Bool.or_eq_false_iff, Bool.and_eq_false_iff, Bool.not_eq_true', Bool.not_eq_false', decide_eq_true_eq, decide_eq_false_iff_not, beq_iff_eq, bne_iff_ne, List.length_map, List.length_take] at hc2; omega))) ?_
  refine sq_plain rfl rfl rfl (w_assign rfl (ev_tmp rfl)) ?_
  refine sq_nil ?_
  refine awp_block ?_
  refine awp_loop_i3 [(0, _), (2, _), (6, _)] _ (fun (n : Int) (cc : TCur) (u : Str) => (0 ≤ n ∧ n ≤ 2) ∧ cc.p + 6 * n ≤ c.p + 16 ∧ (u.length : Int) + n ≤ t.length + 2) (fun (n : Int) (cc : TCur) (u : Str) => [.box b 45 (curC code cc)]) (fun (n : Int) (cc : TCur) (u : Str) => [(1, AV.str u), (7, AV.int n)]) (fun (n : Int) (cc : TCur) (u : Str) => n.toNat) (1 + x11.2) (x11.1) (t) ?_ (le_eq (by rfl) ⟨rfl, rfl, rfl, rfl, rfl, trivial⟩) ?_
  · exact ⟨by omega, by omega, by omega⟩
  intro n cc u hinv
  refine awp_seq ?_
  refine awp_seq ?_
  refine awp_region ?_
  refine sq_plain rfl rfl rfl (w_move rfl (ev_tmp rfl)) ?_
  refine sq_plain rfl rfl rfl (w_gtr rfl (ev_tmp rfl) ev_ci) ?_
  refine sq_plain rfl rfl rfl (w_move rfl (ev_tmp rfl)) ?_
  refine sq_grd rfl rfl (guard_t rfl rfl rfl) (fun hc => w_move rfl (ev_tmp rfl)) ?_
  refine sq_grd rfl rfl (guard_t rfl rfl rfl) (fun hc => w_slen rfl Tryz.underlying9 (ev_whn rfl hc)) ?_
  refine sq_grd rfl rfl (guard_t rfl rfl rfl) (fun hc => w_gtr rfl (ev_whn rfl hc) ev_ci) ?_
  refine sq_plain rfl rfl rfl (w_and rfl (ev_tmp rfl) (evif_w rfl)) ?_
  refine sq_nil ?_
  refine awp_cond (ev_tmp rfl) ?_ ?_
  · intro h19
    simp only [Bool.and_eq_true, decide_eq_true_eq] at h19
    obtain ⟨hn0, hu0⟩ := h19
    refine awp_skip ?_
    refine awp_seq ?_
    refine awp_block ?_
    refine awp_seq ?_
    refine awp_region ?_
    refine sq_plain rfl rfl rfl (w_move rfl (ev_tmp rfl)) ?_
    refine sq_plain rfl rfl rfl (w_move rfl (ev_tmp rfl)) ?_
    refine sq_plain rfl rfl rfl (w_slen rfl Tryz.underlying9 (ev_tmp rfl)) ?_
    refine sq_callG [0] rfl rfl rfl rfl Tryz.call30 rfl (curPick_own _ _ hcode _ _ (by omega) (by omega)) (evl_cons (ev_tmp rfl) (evl_cons (ev_tmp rfl) evl_nil)) rfl ?_
    intro x25 ok25
    refine sq_plain rfl rfl rfl (w_assign rfl (ev_tmp rfl)) ?_
    refine sq_nil ?_
    refine awp_seq ?_
    refine awp_region ?_
    refine sq_plain rfl rfl rfl (w_move rfl (ev_tmp rfl)) ?_
    refine sq_plain rfl rfl rfl (w_move rfl (ev_tmp rfl)) ?_
    refine sq_plain rfl rfl rfl (w_move rfl (ev_tmp rfl)) ?_
    refine sq_plain rfl rfl rfl (w_slen rfl Tryz.underlying9 (ev_tmp rfl)) ?_
    refine sq_callG [0] rfl rfl rfl rfl Tryz.call30 rfl (curPick_own _ _ hcode _ _ (by omega) (by omega)) (evl_cons (ev_tmp rfl) (evl_cons (ev_tmp rfl) evl_nil)) rfl ?_
    intro x30 ok30
    obtain ⟨y, hy⟩ := get_some (show x30.2.toNat < w.length by omega)
    refine sq_plain rfl rfl rfl (w_sidx rfl Tryz.underlying9 (ev_tmp rfl) (ev_tmp rfl) (by omega) hy) ?_
    refine sq_plain rfl rfl rfl (w_bslice rfl Tryz.underlying22 Tryz.sizeOf5 Tryz.zeroValue5 rfl rfl rfl rfl (bp_cons (ev_tmp rfl) (as_ik _ _) bp_nil) rfl rfl) ?_
    refine sq_plain rfl rfl rfl (w_convB (bs := [y]) rfl Tryz.underlying22 Tryz.underlying5 Tryz.underlying9 (ev_tmp rfl)) ?_
    refine sq_plain rfl rfl rfl (w_assign rfl (ev_tmp rfl)) ?_
    refine sq_nil ?_
    refine awp_seq ?_
    refine awp_region ?_
    refine sq_plain rfl rfl rfl (w_move rfl (ev_tmp rfl)) ?_
    refine sq_callG [0] rfl rfl rfl rfl Tryz.call30 rfl (curPick_own _ _ hcode _ _ (by omega) (by omega)) (evl_cons (ev_tmp rfl) (evl_cons ev_ci evl_nil)) rfl ?_
    intro x35 ok35
    refine sq_nil ?_
    refine awp_block ?_
    refine awp_seq ?_
    refine awp_region ?_
    refine sq_plain rfl rfl rfl (w_eql rfl (ev_tmp rfl) ev_ci) ?_
    refine sq_plain rfl rfl rfl (w_assign rfl (ev_tmp rfl)) ?_
    refine sq_nil ?_
    refine awp_cond (ev_tmp rfl) ?_ ?_
    · intro h44
      have k44 := eq_of_beqt h44; try simp only [List.length_map] at k44
      refine awp_region_any (by kernel_rfl) (by kernel_rfl) rfl ?_
      refine ch_plain rfl rfl (w_move rfl (ev_tmp rfl)) ?_
      refine ch_plain rfl rfl (w_move rfl (ev_tmp rfl)) ?_
      refine ch_plain rfl rfl (w_ssl_hi rfl Tryz.underlying9 (ev_tmp rfl) (ev_tmp rfl) (by first | omega | ((try simp only [List.length_map, List.length_take, List.length_cons, List.length_nil, chunks_len, szR] at *); omega) | (have hc2 := hc; simp only [Bool.and_eq_true, Bool.or_eq_true, Bool.or_eq_false_iff, Bool.and_eq_false_iff, Bool.not_eq_true', Bool.not_eq_false', decide_eq_true_eq, decide_eq_false_iff_not, beq_iff_eq, bne_iff_ne, List.length_map, List.length_take] at hc2; omega)) (by first | omega | ((try simp only [List.length_map, List.length_take, List.length_cons, List.length_nil, chunks_len, szR] at *); omega) | (have hc2 := hc; simp only [Bool.and_eq_true, Bool.or_eq_true, Bool.or_eq_false_iff, Bool.and_eq_false_iff, Bool.not_eq_true', Bool.not_eq_false', decide_eq_true_eq, decide_eq_false_iff_not, beq_iff_eq, bne_iff_ne, List.length_map, List.length_take] at hc2; omega))) ?_
      refine ch_plain rfl rfl (w_move rfl (ev_tmp rfl)) ?_
      refine ch_plain rfl rfl (w_cat rfl (ev_tmp rfl) (ev_tmp rfl) (by first | omega | (simp only [List.length_append, List.length_take, List.length_drop, List.length_cons, List.length_nil]; omega))) ?_
      refine ch_plain rfl rfl (w_move rfl (ev_tmp rfl)) ?_
      refine ch_plain rfl rfl (w_move rfl (ev_tmp rfl)) ?_
      refine ch_plain rfl rfl (w_ssl_lo rfl Tryz.underlying9 (ev_tmp rfl) (ev_tmp rfl) (by first | omega | ((try simp only [List.length_map, List.length_take, List.length_cons, List.length_nil, chunks_len, szR] at *); omega) | (have hc2 := hc; simp only [Bool.and_eq_true, Bool.or_eq_true, Bool.or_eq_false_iff, Bool.and_eq_false_iff, Bool.not_eq_true', Bool.not_eq_false', decide_eq_true_eq, decide_eq_false_iff_not, beq_iff_eq, bne_iff_ne, List.length_map, List.length_take] at hc2; omega)) (by first | omega | ((try simp only [List.length_map, List.length_take, List.length_cons, List.length_nil, chunks_len, szR] at *); omega) | (have hc2 := hc; simp only [Bool.and_eq_true, Bool.or_eq_true, Bool.or_eq_false_iff, Bool.and_eq_false_iff, Bool.not_eq_true', Bool.not_eq_false', decide_eq_true_eq, decide_eq_false_iff_not, beq_iff_eq, bne_iff_ne, List.length_map, List.length_take] at hc2; omega))) ?_
      refine ch_plain rfl rfl (w_cat rfl (ev_tmp rfl) (ev_tmp rfl) (by first | omega | (simp only [List.length_append, List.length_take, List.length_drop, List.length_cons, List.length_nil]; omega))) ?_
      refine ch_plain rfl rfl (w_assign rfl (ev_tmp rfl)) ?_
      refine ch_nil ?_
      refine awp_region ?_
      refine sq_plain rfl rfl rfl (w_move rfl (ev_tmp rfl)) ?_
      refine sq_plain rfl rfl rfl (w_subi rfl (ev_tmp rfl) ev_ci (by first | omega | ((try simp only [List.length_map, List.length_take, List.length_cons, List.length_nil, chunks_len, szR] at *); omega) | (have hc2 := hc; simp only [Bool.and_eq_true, Bool.or_eq_true, Bool.or_eq_false_iff, Bool.and_eq_false_iff, Bool.not_eq_true', Bool.not_eq_false', decide_eq_true_eq, decide_eq_false_iff_not, beq_iff_eq, bne_iff_ne, List.length_map, List.length_take] at hc2; omega))) ?_
      refine sq_plain rfl rfl rfl (w_assign rfl (ev_tmp rfl)) ?_
      refine sq_nil ?_
      refine round_end3 n cc u (n - 1) (x35.1) ((u.take x25.2.toNat ++ [y]) ++ u.drop x25.2.toNat) ?_ ?_ (le_eq (by rfl) ⟨rfl, rfl, rfl, rfl, rfl, trivial⟩)
      · exact ⟨by omega, by omega, by (have := spoil_a u x25.2.toNat y; omega)⟩
      · omega
    · intro h44
      have k44 := ne_of_beqf h44; try simp only [List.length_map] at k44
      refine awp_seq ?_
      refine awp_region ?_
      refine sq_plain rfl rfl rfl (w_eql rfl (ev_tmp rfl) ev_ci) ?_
      refine sq_plain rfl rfl rfl (w_assign rfl (ev_tmp rfl)) ?_
      refine sq_nil ?_
      refine awp_cond (ev_tmp rfl) ?_ ?_
      · intro h55
        have k55 := eq_of_beqt h55; try simp only [List.length_map] at k55
        refine awp_region_any (by kernel_rfl) (by kernel_rfl) rfl ?_
        refine ch_plain rfl rfl (w_move rfl (ev_tmp rfl)) ?_
        refine ch_plain rfl rfl (w_move rfl (ev_tmp rfl)) ?_
        refine ch_plain rfl rfl (w_ssl_hi rfl Tryz.underlying9 (ev_tmp rfl) (ev_tmp rfl) (by first | omega | ((try simp only [List.length_map, List.length_take, List.length_cons, List.length_nil, chunks_len, szR] at *); omega) | (have hc2 := hc; simp only [Bool.and_eq_true, Bool.or_eq_true, Bool.or_eq_false_iff, Bool.and_eq_false_iff, Bool.not_eq_true', Bool.not_eq_false', decide_eq_true_eq, decide_eq_false_iff_not, beq_iff_eq, bne_iff_ne, List.length_map, List.length_take] at hc2; omega)) (by first | omega | ((try simp only [List.length_map, List.length_take, List.length_cons, List.length_nil, chunks_len, szR] at *); omega) | (have hc2 := hc; simp only [Bool.and_eq_true, Bool.or_eq_true, Bool.or_eq_false_iff, Bool.and_eq_false_iff, Bool.not_eq_true', Bool.not_eq_false', decide_eq_true_eq, decide_eq_false_iff_not, beq_iff_eq, bne_iff_ne, List.length_map, List.length_take] at hc2; omega))) ?_
        refine ch_plain rfl rfl (w_move rfl (ev_tmp rfl)) ?_
        refine ch_plain rfl rfl (w_cat rfl (ev_tmp rfl) (ev_tmp rfl) (by first | omega | (simp only [List.length_append, List.length_take, List.length_drop, List.length_cons, List.length_nil]; omega))) ?_
        refine ch_plain rfl rfl (w_move rfl (ev_tmp rfl)) ?_
        refine ch_plain rfl rfl (w_move rfl (ev_tmp rfl)) ?_
        refine ch_plain rfl rfl (w_addi rfl (ev_tmp rfl) ev_ci (by first | omega | ((try simp only [List.length_map, List.length_take, List.length_cons, List.length_nil, chunks_len, szR] at *); omega) | (have hc2 := hc; simp only [Bool.and_eq_true, Bool.or_eq_true, Bool.or_eq_false_iff, Bool.and_eq_false_iff, Bool.not_eq_true', Bool.not_eq_false', decide_eq_true_eq, decide_eq_false_iff_not, beq_iff_eq, bne_iff_ne, List.length_map, List.length_take] at hc2; omega))) ?_
        refine ch_plain rfl rfl (w_ssl_lo rfl Tryz.underlying9 (ev_tmp rfl) (ev_tmp rfl) (by first | omega | ((try simp only [List.length_map, List.length_take, List.length_cons, List.length_nil, chunks_len, szR] at *); omega) | (have hc2 := hc; simp only [Bool.and_eq_true, Bool.or_eq_true, Bool.or_eq_false_iff, Bool.and_eq_false_iff, Bool.not_eq_true', Bool.not_eq_false', decide_eq_true_eq, decide_eq_false_iff_not, beq_iff_eq, bne_iff_ne, List.length_map, List.length_take] at hc2; omega)) (by first | omega | ((try simp only [List.length_map, List.length_take, List.length_cons, List.length_nil, chunks_len, szR] at *); omega) | (have hc2 := hc; simp only [Bool.and_eq_true, Bool.or_eq_true, Bool.or_eq_false_iff, Bool.and_eq_false_iff, Bool.not_eq_true', Bool.not_eq_false', decide_eq_true_eq, decide_eq_false_iff_not, beq_iff_eq, bne_iff_ne, List.length_map, List.length_take] at hc2; omega))) ?_
        refine ch_plain rfl rfl (w_cat rfl (ev_tmp rfl) (ev_tmp rfl) (by first | omega | (simp only [List.length_append, List.length_take, List.length_drop, List.length_cons, List.length_nil]; omega))) ?_
        refine ch_plain rfl rfl (w_assign rfl (ev_tmp rfl)) ?_
        refine ch_nil ?_
        refine awp_region ?_
        refine sq_plain rfl rfl rfl (w_move rfl (ev_tmp rfl)) ?_
        refine sq_plain rfl rfl rfl (w_subi rfl (ev_tmp rfl) ev_ci (by first | omega | ((try simp only [List.length_map, List.length_take, List.length_cons, List.length_nil, chunks_len, szR] at *); omega) | (have hc2 := hc; simp only [Bool.and_eq_true, Bool.or_eq_true, Bool.or_eq_false_iff, Bool.and_eq_false_iff, Bool.not_eq_true', Bool.not_eq_false', decide_eq_true_eq, decide_eq_false_iff_not, beq_iff_eq, bne_iff_ne, List.length_map, List.length_take] at hc2; omega))) ?_
        refine sq_plain rfl rfl rfl (w_assign rfl (ev_tmp rfl)) ?_
        refine sq_nil ?_
        refine round_end3 n cc u (n - 1) (x35.1) ((u.take x25.2.toNat ++ [y]) ++ u.drop (x25.2 + 1).toNat) ?_ ?_ (le_eq (by rfl) ⟨rfl, rfl, rfl, rfl, rfl, trivial⟩)
        · exact ⟨by omega, by omega, by (rw [show (x25.2 + 1).toNat = x25.2.toNat + 1 by omega]; have := spoil_b u x25.2.toNat y; omega)⟩
        · omega
      · intro h55
        have k55 := ne_of_beqf h55; try simp only [List.length_map] at k55
        refine awp_region_any (by kernel_rfl) (by kernel_rfl) rfl ?_
        refine ch_plain rfl rfl (w_move rfl (ev_tmp rfl)) ?_
        refine ch_plain rfl rfl (w_move rfl (ev_tmp rfl)) ?_
        refine ch_plain rfl rfl (w_ssl_hi rfl Tryz.underlying9 (ev_tmp rfl) (ev_tmp rfl) (by first | omega | ((try simp only [List.length_map, List.length_take, List.length_cons, List.length_nil, chunks_len, szR] at *); omega) | (have hc2 := hc; simp only [Bool.and_eq_true, Bool.or_eq_true, Bool.or_eq_false_iff, Bool.and_eq_false_iff, Bool.not_eq_true', Bool.not_eq_false', decide_eq_true_eq, decide_eq_false_iff_not, beq_iff_eq, bne_iff_ne, List.length_map, List.length_take] at hc2; omega)) (by first | omega | ((try simp only [List.length_map, List.length_take, List.length_cons, List.length_nil, chunks_len, szR] at *); omega) | (have hc2 := hc; simp only [Bool.and_eq_true, Bool.or_eq_true, Bool.or_eq_false_iff, Bool.and_eq_false_iff, Bool.not_eq_true', Bool.not_eq_false', decide_eq_true_eq, decide_eq_false_iff_not, beq_iff_eq, bne_iff_ne, List.length_map, List.length_take] at hc2; omega))) ?_
        refine ch_plain rfl rfl (w_move rfl (ev_tmp rfl)) ?_
        refine ch_plain rfl rfl (w_move rfl (ev_tmp rfl)) ?_
        refine ch_plain rfl rfl (w_addi rfl (ev_tmp rfl) ev_ci (by first | omega | ((try simp only [List.length_map, List.length_take, List.length_cons, List.length_nil, chunks_len, szR] at *); omega) | (have hc2 := hc; simp only [Bool.and_eq_true, Bool.or_eq_true, Bool.or_eq_false_iff, Bool.and_eq_false_iff, Bool.not_eq_true', Bool.not_eq_false', decide_eq_true_eq, decide_eq_false_iff_not, beq_iff_eq, bne_iff_ne, List.length_map, List.length_take] at hc2; omega))) ?_
        refine ch_plain rfl rfl (w_ssl_lo rfl Tryz.underlying9 (ev_tmp rfl) (ev_tmp rfl) (by first | omega | ((try simp only [List.length_map, List.length_take, List.length_cons, List.length_nil, chunks_len, szR] at *); omega) | (have hc2 := hc; simp only [Bool.and_eq_true, Bool.or_eq_true, Bool.or_eq_false_iff, Bool.and_eq_false_iff, Bool.not_eq_true', Bool.not_eq_false', decide_eq_true_eq, decide_eq_false_iff_not, beq_iff_eq, bne_iff_ne, List.length_map, List.length_take] at hc2; omega)) (by first | omega | ((try simp only [List.length_map, List.length_take, List.length_cons, List.length_nil, chunks_len, szR] at *); omega) | (have hc2 := hc; simp only [Bool.and_eq_true, Bool.or_eq_true, Bool.or_eq_false_iff, Bool.and_eq_false_iff, Bool.not_eq_true', Bool.not_eq_false', decide_eq_true_eq, decide_eq_false_iff_not, beq_iff_eq, bne_iff_ne, List.length_map, List.length_take] at hc2; omega))) ?_
        refine ch_plain rfl rfl (w_cat rfl (ev_tmp rfl) (ev_tmp rfl) (by first | omega | (simp only [List.length_append, List.length_take, List.length_drop, List.length_cons, List.length_nil]; omega))) ?_
        refine ch_plain rfl rfl (w_assign rfl (ev_tmp rfl)) ?_
        refine ch_nil ?_
        refine awp_region ?_
        refine sq_plain rfl rfl rfl (w_move rfl (ev_tmp rfl)) ?_
        refine sq_plain rfl rfl rfl (w_subi rfl (ev_tmp rfl) ev_ci (by first | omega | ((try simp only [List.length_map, List.length_take, List.length_cons, List.length_nil, chunks_len, szR] at *); omega) | (have hc2 := hc; simp only [Bool.and_eq_true, Bool.or_eq_true, Bool.or_eq_false_iff, Bool.and_eq_false_iff, Bool.not_eq_true', Bool.not_eq_false', decide_eq_true_eq, decide_eq_false_iff_not, beq_iff_eq, bne_iff_ne, List.length_map, List.length_take] at hc2; omega))) ?_
        refine sq_plain rfl rfl rfl (w_assign rfl (ev_tmp rfl)) ?_
        refine sq_nil ?_
        refine round_end3 n cc u (n - 1) (x35.1) (u.take x25.2.toNat ++ u.drop (x25.2 + 1).toNat) ?_ ?_ (le_eq (by rfl) ⟨rfl, rfl, rfl, rfl, rfl, trivial⟩)
        · exact ⟨by omega, by omega, by (rw [show (x25.2 + 1).toNat = x25.2.toNat + 1 by omega]; have := spoil_c u x25.2.toNat; omega)⟩
        · omega
  · intro h19
    refine awp_exit ?_
    refine awp_seq ?_
    refine awp_region ?_
    refine sq_plain rfl rfl rfl (w_move rfl (ev_tmp rfl)) ?_
    refine sq_plain rfl rfl rfl (w_assign rfl (ev_tmp rfl)) ?_
    refine sq_nil ?_
    refine awp_ret ?_
    (refine retG [0] ((cc, u)) ?_ rfl (by first | (dsimp only; rfl) | rfl) (resR rfl (rv_tmp' rfl (by rfl))); exact ⟨show cc.p ≤ _ by omega, show u.length ≤ _ by omega⟩)
end Go.Proofs.YtdgoejkijpllpaaGreatDoor

set_option linter.unusedVariables false
set_option linter.unusedSimpArgs false
set_option maxRecDepth 100000
namespace Go.Proofs.YtdgoejkijpllpaaGreatDoor
open Go Go.AV Go.M
attribute [local irreducible] OpW OpA OpS AWP FSpec ESpec GSpec OpE RetOk RetOkG RvDen Le Ev GuardIs
theorem qSameS_spec (a b : List Str) : FSpec Tryz.prog 28 [strs a, strs b] (AV.bool (decide (a = b))) := by
  refine spec_of_awp Tryz.func28 rfl Tryz.ntmps28 rfl ?_
  refine awp_len (t := 0) rfl fun hl => ?_
  try simp only [List.length_map] at hl
  refine awp_seq ?_
  refine awp_region ?_
  refine sq_plain rfl rfl rfl (w_assign rfl ev_cb) ?_
  refine sq_nil ?_
  refine awp_seq ?_
  refine awp_seq ?_
  refine awp_region ?_
  refine sq_plain rfl rfl rfl (w_move rfl (ev_tmp rfl)) ?_
  refine sq_plain rfl rfl rfl (w_llen rfl Tryz.underlying23 (ev_tmp rfl)) ?_
  refine sq_plain rfl rfl rfl (w_move rfl (ev_tmp rfl)) ?_
  refine sq_plain rfl rfl rfl (w_llen rfl Tryz.underlying23 (ev_tmp rfl)) ?_
  refine sq_plain rfl rfl rfl (w_neq rfl (ev_tmp rfl) (ev_tmp rfl)) ?_
  refine sq_nil ?_
  refine awp_cond (ev_tmp rfl) ?_ ?_
  · intro h10
    have k10 := ne_of_bne h10; try simp only [List.length_map] at k10
    have hab : a ≠ b := by intro hc; subst hc; exact k10 rfl
    refine awp_seq ?_
    refine awp_region ?_
    refine sq_plain rfl rfl rfl (w_assign rfl ev_cb) ?_
    refine sq_nil ?_
    refine awp_ret ?_
    exact retR rfl (rv_tmp' rfl (by exact congrArg AV.bool (by simp [hab])))
  · intro h10
    have k10 := eq_of_bne_false h10; try simp only [List.length_map] at k10
    have heq : a.length = b.length := by omega
    refine awp_skip ?_
    refine awp_seq ?_
    refine awp_seq ?_
    refine awp_region ?_
    refine sq_plain rfl rfl rfl (w_move rfl (ev_tmp rfl)) ?_
    refine sq_plain rfl rfl rfl (w_llen rfl Tryz.underlying23 (ev_tmp rfl)) ?_
    refine sq_plain rfl rfl rfl (w_move rfl ev_ci) ?_
    refine sq_nil ?_
    refine awp_block ?_
    refine awp_loop_i [(0, _), (1, _), (12, _)] _ (fun (i : Nat) => i ≤ a.length ∧ a.take i = b.take i) (fun (i : Nat) => []) (fun (i : Nat) => [(13, AV.int i)]) (fun (i : Nat) => a.length - i) (0) ?_ (le_env ⟨rfl, rfl, rfl, rfl, trivial⟩) ?_
    · exact ⟨Nat.zero_le _, rfl⟩
    intro i hinv
    refine awp_seq ?_
    refine awp_region ?_
    refine sq_plain rfl rfl rfl (w_lss rfl (ev_tmp rfl) (ev_tmp rfl)) ?_
    refine sq_nil ?_
    refine awp_seq ?_
    refine awp_cond (ev_tmp rfl) ?_ ?_
    · intro h14
      have k14 := of_decide_eq_true h14; try simp only [List.length_map] at k14
      have hlt : i < a.length := by omega
      obtain ⟨x, hx⟩ := get_some hlt
      obtain ⟨y, hy⟩ := get_some (show i < b.length by omega)
      refine awp_skip ?_
      refine awp_seq ?_
      refine awp_block ?_
      refine awp_seq ?_
      refine awp_region ?_
      refine sq_plain rfl rfl rfl (w_move rfl (ev_tmp rfl)) ?_
      refine sq_plain rfl rfl rfl (w_assign rfl (ev_tmp rfl)) ?_
      refine sq_nil ?_
      refine awp_seq ?_
      refine awp_region_any (by kernel_rfl) (by kernel_rfl) rfl ?_
      refine ch_plain rfl rfl (w_move rfl (ev_tmp rfl)) ?_
      refine ch_plain rfl rfl (w_move rfl (ev_tmp rfl)) ?_
      refine ch_plain rfl rfl (w_idxm rfl Tryz.underlying23 Tryz.sizeOf9 (ev_tmp rfl) (ev_tmp rfl) hx (by first | omega | ((try simp only [List.length_map, List.length_take, List.length_cons, List.length_nil, chunks_len, szR] at *); omega) | (have hc2 := hc; simp only [Bool.and_eq_true, Bool.or_eq_true, Bool.or_eq_false_iff, Bool.and_eq_false_iff, Bool.not_eq_true', Bool.not_eq_false', decide_eq_true_eq, decide_eq_false_iff_not, beq_iff_eq, bne_iff_ne, List.length_map, List.length_take] at hc2; omega))) ?_
      refine ch_plain rfl rfl (w_loadE1 rfl (ev_tmp rfl) Tryz.isAgg9 rfl) ?_
      refine ch_plain rfl rfl (w_move rfl (ev_tmp rfl)) ?_
      refine ch_plain rfl rfl (w_move rfl (ev_tmp rfl)) ?_
      refine ch_plain rfl rfl (w_idxm rfl Tryz.underlying23 Tryz.sizeOf9 (ev_tmp rfl) (ev_tmp rfl) hy (by first | omega | ((try simp only [List.length_map, List.length_take, List.length_cons, List.length_nil, chunks_len, szR] at *); omega) | (have hc2 := hc; simp only [Bool.and_eq_true, Bool.or_eq_true, Bool.or_eq_false_iff, Bool.and_eq_false_iff, Bool.not_eq_true', Bool.not_eq_false', decide_eq_true_eq, decide_eq_false_iff_not, beq_iff_eq, bne_iff_ne, List.length_map, List.length_take] at hc2; omega))) ?_
      refine ch_plain rfl rfl (w_loadE1 rfl (ev_tmp rfl) Tryz.isAgg9 rfl) ?_
      refine ch_plain rfl rfl (w_sneq rfl (ev_tmp rfl) (ev_tmp rfl)) ?_
      refine ch_nil ?_
      refine awp_cond (ev_tmp rfl) ?_ ?_
      · intro h24
        have hab : a ≠ b := by intro hc; subst hc; rw [hx] at hy; injection hy with hy; subst hy; simp at h24
        refine awp_seq ?_
        refine awp_region ?_
        refine sq_plain rfl rfl rfl (w_assign rfl ev_cb) ?_
        refine sq_nil ?_
        refine awp_ret ?_
        exact retR rfl (rv_tmp' rfl (by exact congrArg AV.bool (by simp [hab])))
      · intro h24
        refine awp_skip ?_
        refine awp_region ?_
        refine sq_plain rfl rfl rfl (w_addi rfl (ev_tmp rfl) ev_ci (by first | omega | ((try simp only [List.length_map, List.length_take, List.length_cons, List.length_nil, chunks_len, szR] at *); omega) | (have hc2 := hc; simp only [Bool.and_eq_true, Bool.or_eq_true, Bool.or_eq_false_iff, Bool.and_eq_false_iff, Bool.not_eq_true', Bool.not_eq_false', decide_eq_true_eq, decide_eq_false_iff_not, beq_iff_eq, bne_iff_ne, List.length_map, List.length_take] at hc2; omega))) ?_
        refine sq_plain rfl rfl rfl (w_move rfl (ev_tmp rfl)) ?_
        refine sq_nil ?_
        refine round_end i (i + 1) ?_ ?_ (le_env ⟨rfl, rfl, rfl, rfl, trivial⟩)
        · exact ⟨by omega, take_eq_succ hinv.2 hx (by rw [hy]; congr 1; simp_all)⟩
        · omega
    · intro h14
      have k14 := of_decide_eq_false h14; try simp only [List.length_map] at k14
      have hge : a.length ≤ i := by omega
      have hab : a = b := take_eq_of heq hinv.2 hge
      refine awp_exit ?_
      refine awp_seq ?_
      refine awp_region ?_
      refine sq_plain rfl rfl rfl (w_assign rfl ev_cb) ?_
      refine sq_nil ?_
      refine awp_ret ?_
      exact retR rfl (rv_tmp' rfl (by exact congrArg AV.bool (by simp [hab])))
theorem qSameN_spec (a b : List Int) : FSpec Tryz.prog 29 [ints a, ints b] (AV.bool (decide (a = b))) := by
  refine spec_of_awp Tryz.func29 rfl Tryz.ntmps29 rfl ?_
  refine awp_len (t := 0) rfl fun hl => ?_
  try simp only [List.length_map] at hl
  refine awp_seq ?_
  refine awp_region ?_
  refine sq_plain rfl rfl rfl (w_assign rfl ev_cb) ?_
  refine sq_nil ?_
  refine awp_seq ?_
  refine awp_seq ?_
  refine awp_region ?_
  refine sq_plain rfl rfl rfl (w_move rfl (ev_tmp rfl)) ?_
  refine sq_plain rfl rfl rfl (w_llen rfl Tryz.underlying24 (ev_tmp rfl)) ?_
  refine sq_plain rfl rfl rfl (w_move rfl (ev_tmp rfl)) ?_
  refine sq_plain rfl rfl rfl (w_llen rfl Tryz.underlying24 (ev_tmp rfl)) ?_
  refine sq_plain rfl rfl rfl (w_neq rfl (ev_tmp rfl) (ev_tmp rfl)) ?_
  refine sq_nil ?_
  refine awp_cond (ev_tmp rfl) ?_ ?_
  · intro h10
    have k10 := ne_of_bne h10; try simp only [List.length_map] at k10
    have hab : a ≠ b := by intro hc; subst hc; exact k10 rfl
    refine awp_seq ?_
    refine awp_region ?_
    refine sq_plain rfl rfl rfl (w_assign rfl ev_cb) ?_
    refine sq_nil ?_
    refine awp_ret ?_
    exact retR rfl (rv_tmp' rfl (by exact congrArg AV.bool (by simp [hab])))
  · intro h10
    have k10 := eq_of_bne_false h10; try simp only [List.length_map] at k10
    have heq : a.length = b.length := by omega
    refine awp_skip ?_
    refine awp_seq ?_
    refine awp_seq ?_
    refine awp_region ?_
    refine sq_plain rfl rfl rfl (w_move rfl (ev_tmp rfl)) ?_
    refine sq_plain rfl rfl rfl (w_llen rfl Tryz.underlying24 (ev_tmp rfl)) ?_
    refine sq_plain rfl rfl rfl (w_move rfl ev_ci) ?_
    refine sq_nil ?_
    refine awp_block ?_
    refine awp_loop_i [(0, _), (1, _), (12, _)] _ (fun (i : Nat) => i ≤ a.length ∧ a.take i = b.take i) (fun (i : Nat) => []) (fun (i : Nat) => [(13, AV.int i)]) (fun (i : Nat) => a.length - i) (0) ?_ (le_env ⟨rfl, rfl, rfl, rfl, trivial⟩) ?_
    · exact ⟨Nat.zero_le _, rfl⟩
    intro i hinv
    refine awp_seq ?_
    refine awp_region ?_
    refine sq_plain rfl rfl rfl (w_lss rfl (ev_tmp rfl) (ev_tmp rfl)) ?_
    refine sq_nil ?_
    refine awp_seq ?_
    refine awp_cond (ev_tmp rfl) ?_ ?_
    · intro h14
      have k14 := of_decide_eq_true h14; try simp only [List.length_map] at k14
      have hlt : i < a.length := by omega
      obtain ⟨x, hx⟩ := get_some hlt
      obtain ⟨y, hy⟩ := get_some (show i < b.length by omega)
      refine awp_skip ?_
      refine awp_seq ?_
      refine awp_block ?_
      refine awp_seq ?_
      refine awp_region ?_
      refine sq_plain rfl rfl rfl (w_move rfl (ev_tmp rfl)) ?_
      refine sq_plain rfl rfl rfl (w_assign rfl (ev_tmp rfl)) ?_
      refine sq_nil ?_
      refine awp_seq ?_
      refine awp_region_any (by kernel_rfl) (by kernel_rfl) rfl ?_
      refine ch_plain rfl rfl (w_move rfl (ev_tmp rfl)) ?_
      refine ch_plain rfl rfl (w_move rfl (ev_tmp rfl)) ?_
      refine ch_plain rfl rfl (w_idxm rfl Tryz.underlying24 Tryz.sizeOf3 (ev_tmp rfl) (ev_tmp rfl) hx (by first | omega | ((try simp only [List.length_map, List.length_take, List.length_cons, List.length_nil, chunks_len, szR] at *); omega) | (have hc2 := hc; simp only [Bool.and_eq_true, Bool.or_eq_true, Bool.or_eq_false_iff, Bool.and_eq_false_iff, Bool.not_eq_true', Bool.not_eq_false', decide_eq_true_eq, decide_eq_false_iff_not, beq_iff_eq, bne_iff_ne, List.length_map, List.length_take] at hc2; omega))) ?_
      refine ch_plain rfl rfl (w_loadE1 rfl (ev_tmp rfl) Tryz.isAgg3 rfl) ?_
      refine ch_plain rfl rfl (w_move rfl (ev_tmp rfl)) ?_
      refine ch_plain rfl rfl (w_move rfl (ev_tmp rfl)) ?_
      refine ch_plain rfl rfl (w_idxm rfl Tryz.underlying24 Tryz.sizeOf3 (ev_tmp rfl) (ev_tmp rfl) hy (by first | omega | ((try simp only [List.length_map, List.length_take, List.length_cons, List.length_nil, chunks_len, szR] at *); omega) | (have hc2 := hc; simp only [Bool.and_eq_true, Bool.or_eq_true, Bool.or_eq_false_iff, Bool.and_eq_false_iff, Bool.not_eq_true', Bool.not_eq_false', decide_eq_true_eq, decide_eq_false_iff_not, beq_iff_eq, bne_iff_ne, List.length_map, List.length_take] at hc2; omega))) ?_
      refine ch_plain rfl rfl (w_loadE1 rfl (ev_tmp rfl) Tryz.isAgg3 rfl) ?_
      refine ch_plain rfl rfl (w_neq rfl (ev_tmp rfl) (ev_tmp rfl)) ?_
      refine ch_nil ?_
      refine awp_cond (ev_tmp rfl) ?_ ?_
      · intro h24
        have k24 := ne_of_bne h24; try simp only [List.length_map] at k24
        have hab : a ≠ b := by intro hc; subst hc; rw [hx] at hy; injection hy with hy; subst hy; simp at h24
        refine awp_seq ?_
        refine awp_region ?_
        refine sq_plain rfl rfl rfl (w_assign rfl ev_cb) ?_
        refine sq_nil ?_
        refine awp_ret ?_
        exact retR rfl (rv_tmp' rfl (by exact congrArg AV.bool (by simp [hab])))
      · intro h24
        have k24 := eq_of_bne_false h24; try simp only [List.length_map] at k24
        refine awp_skip ?_
        refine awp_region ?_
        refine sq_plain rfl rfl rfl (w_addi rfl (ev_tmp rfl) ev_ci (by first | omega | ((try simp only [List.length_map, List.length_take, List.length_cons, List.length_nil, chunks_len, szR] at *); omega) | (have hc2 := hc; simp only [Bool.and_eq_true, Bool.or_eq_true, Bool.or_eq_false_iff, Bool.and_eq_false_iff, Bool.not_eq_true', Bool.not_eq_false', decide_eq_true_eq, decide_eq_false_iff_not, beq_iff_eq, bne_iff_ne, List.length_map, List.length_take] at hc2; omega))) ?_
        refine sq_plain rfl rfl rfl (w_move rfl (ev_tmp rfl)) ?_
        refine sq_nil ?_
        refine round_end i (i + 1) ?_ ?_ (le_env ⟨rfl, rfl, rfl, rfl, trivial⟩)
        · exact ⟨by omega, take_eq_succ hinv.2 hx (by rw [hy]; congr 1; simp_all)⟩
        · omega
    · intro h14
      have k14 := of_decide_eq_false h14; try simp only [List.length_map] at k14
      have hge : a.length ≤ i := by omega
      have hab : a = b := take_eq_of heq hinv.2 hge
      refine awp_exit ?_
      refine awp_seq ?_
      refine awp_region ?_
      refine sq_plain rfl rfl rfl (w_assign rfl ev_cb) ?_
      refine sq_nil ?_
      refine awp_ret ?_
      exact retR rfl (rv_tmp' rfl (by exact congrArg AV.bool (by simp [hab])))
theorem qSameP_spec (a b : TPlaces) : FSpec Tryz.prog 10 [AV.agg a.cs, AV.agg b.cs] (AV.bool (decide (a = b))) := by
  refine spec_of_awp Tryz.func10 rfl Tryz.ntmps10 rfl ?_
  refine awp_seq ?_
  refine awp_region ?_
  refine sq_box rfl rfl rfl rfl (ev_tmp rfl) ?_
  intro b2
  refine sq_box rfl rfl rfl rfl (ev_tmp rfl) ?_
  intro b3
  refine sq_plain rfl rfl rfl (w_assign rfl ev_cb) ?_
  refine sq_nil ?_
  refine awp_seq ?_
  refine awp_region ?_
  refine sq_plain rfl rfl rfl (w_fldBn 0 rfl Tryz.underlying26 rfl Tryz.sizeOf3 (ev_tmp rfl) rfl) ?_
  refine sq_plain rfl rfl rfl (w_loadB1 1 rfl (ev_tmp rfl) rfl Tryz.isAgg3 rfl) ?_
  refine sq_plain rfl rfl rfl (w_fldBn 0 rfl Tryz.underlying26 rfl Tryz.sizeOf3 (ev_tmp rfl) rfl) ?_
  refine sq_plain rfl rfl rfl (w_loadB1 0 rfl (ev_tmp rfl) rfl Tryz.isAgg3 rfl) ?_
  refine sq_plain rfl rfl rfl (w_eql rfl (ev_tmp rfl) (ev_tmp rfl)) ?_
  refine sq_plain rfl rfl rfl (w_move rfl (ev_tmp rfl)) ?_
  refine sq_grd rfl rfl (guard_t rfl rfl rfl) (fun hc => w_fldBn 1 rfl Tryz.underlying26 rfl Tryz.sizeOf23 (ev_tmp rfl) rfl) ?_
  refine sq_grd rfl rfl (guard_t rfl rfl rfl) (fun hc => w_loadB1 1 rfl (ev_whn rfl hc) rfl Tryz.isAgg23 rfl) ?_
  refine sq_grd rfl rfl (guard_t rfl rfl rfl) (fun hc => w_fldBn 1 rfl Tryz.underlying26 rfl Tryz.sizeOf23 (ev_tmp rfl) rfl) ?_
  refine sq_grd rfl rfl (guard_t rfl rfl rfl) (fun hc => w_loadB1 0 rfl (ev_whn rfl hc) rfl Tryz.isAgg23 rfl) ?_
  refine sq_grd rfl rfl (guard_t rfl rfl rfl) (fun hc => w_call rfl Tryz.call28 rfl (qSameS_spec _ _) (evl_cons (ev_whn rfl hc) (evl_cons (ev_whn rfl hc) evl_nil))) ?_
  refine sq_plain rfl rfl rfl (w_and rfl (ev_tmp rfl) (evif_w rfl)) ?_
  refine sq_plain rfl rfl rfl (w_move rfl (ev_tmp rfl)) ?_
  refine sq_grd rfl rfl (guard_t rfl rfl rfl) (fun hc => w_fldBn 2 rfl Tryz.underlying26 rfl Tryz.sizeOf24 (ev_tmp rfl) rfl) ?_
  refine sq_grd rfl rfl (guard_t rfl rfl rfl) (fun hc => w_loadB1 1 rfl (ev_whn rfl hc) rfl Tryz.isAgg24 rfl) ?_
  refine sq_grd rfl rfl (guard_t rfl rfl rfl) (fun hc => w_fldBn 2 rfl Tryz.underlying26 rfl Tryz.sizeOf24 (ev_tmp rfl) rfl) ?_
  refine sq_grd rfl rfl (guard_t rfl rfl rfl) (fun hc => w_loadB1 0 rfl (ev_whn rfl hc) rfl Tryz.isAgg24 rfl) ?_
  refine sq_grd rfl rfl (guard_t rfl rfl rfl) (fun hc => w_call rfl Tryz.call29 rfl (qSameN_spec _ _) (evl_cons (ev_whn rfl hc) (evl_cons (ev_whn rfl hc) evl_nil))) ?_
  refine sq_plain rfl rfl rfl (w_and rfl (ev_tmp rfl) (evif_w rfl)) ?_
  refine sq_plain rfl rfl rfl (w_assign rfl (ev_tmp rfl)) ?_
  refine sq_nil ?_
  refine awp_ret ?_
  exact retR rfl (rv_tmp' rfl (by (refine congrArg AV.bool ?_; cases a; cases b; simp only [TPlaces.mk.injEq]; rw [Bool.eq_iff_iff]; simp only [Bool.and_eq_true, beq_iff_eq, decide_eq_true_eq]; constructor <;> (intro h; simp_all))))
end Go.Proofs.YtdgoejkijpllpaaGreatDoor

set_option linter.unusedVariables false
set_option linter.unusedSimpArgs false
namespace Go.M
open Go.AV
def TAtlas.ocs (a : TAtlas) (x : Value × Value × List (Value × Value)) : List AV := [AV.is x.1, AV.is x.2.1]
end Go.M

set_option linter.unusedVariables false
set_option linter.unusedSimpArgs false
set_option maxRecDepth 100000
namespace Go.Proofs.YtdgoejkijpllpaaGreatDoor
open Go Go.AV Go.M
attribute [local irreducible] OpW OpA OpS AWP FSpec ESpec GSpec OpE RetOk RetOkG RvDen Le Ev GuardIs
theorem TPlaces.lcM {own : List Own} (p : TPlaces) (x : Value × Value) (h : ∀ o ∈ TPlaces.ow p x, o ∈ own) : LendC own (TPlaces.ocs p x) p.cs := lc_cons lt_refl (lc_cons (lt_arr (h _ (List.mem_of_getElem? (i := 0) rfl)) le_refl_e) (lc_cons (lt_arr (h _ (List.mem_of_getElem? (i := 1) rfl)) le_refl_e) lc_nil))
def TAtlas.ow (a : TAtlas) (x : Value × Value × List (Value × Value)) : List Own := .arr x.1 26 3 (nrows TPlaces.ocs a.Maps x.2.2) :: .arr x.2.1 3 1 (a.Knows.map (fun x => [AV.int x])) :: nin TPlaces.ow a.Maps x.2.2
theorem TAtlas.lcM {own : List Own} (a : TAtlas) (x : Value × Value × List (Value × Value)) (hl : x.2.2.length = a.Maps.length) (h : ∀ o ∈ TAtlas.ow a x, o ∈ own) : LendC own (TAtlas.ocs a x) a.cs := by
  have h1 := h _ (List.mem_of_getElem? (i := 0) rfl)
  have h2 := h _ (List.mem_of_getElem? (i := 1) rfl)
  obtain ⟨i, hi⟩ := List.getElem?_of_mem h1
  exact lc_cons (nin_lend TPlaces.lcM hl i hi fun o ho => h o (List.mem_cons_of_mem _ (List.mem_cons_of_mem _ ho))) (lc_cons (lt_arr h2 le_refl_e) lc_nil)
end Go.Proofs.YtdgoejkijpllpaaGreatDoor

set_option linter.unusedVariables false
set_option linter.unusedSimpArgs false
set_option maxRecDepth 100000
set_option maxHeartbeats 1000000
namespace Go.M
open Go.AV
def lowB (p : TPlaces) (k : Nat) : Str := if 0 < k then (p.Cuts[k - 1]?).getD [] else []
def highB (p : TPlaces) (k : Nat) : Str := if k < p.Cuts.length then (p.Cuts[k]?).getD [] else []
def endsOf (p : TPlaces) (i : Int) : Str × Str × Bool := if (!isRange p i) = true then ([], [], false) else (lowB p i.toNat, highB p i.toNat, true)
theorem low_ok {p : TPlaces} (h : goodPlaces p = true) (key : Str) : Op.bytesLess key (lowB p (partOf p.Cuts key)) = false := by
  have ha := (good_facts h).2.2.2.2.1
  have hle := partOf_le p.Cuts key
  unfold lowB
  split
  · rename_i h0
    have hx : p.Cuts[partOf p.Cuts key - 1]? = some p.Cuts[partOf p.Cuts key - 1] := List.getElem?_eq_getElem (by omega)
    rw [hx]
    have h1 : partOf p.Cuts key - 1 < (p.Cuts.takeWhile fun c => sle c key).length := by
      have := partOf_eq key ha; unfold rangeS at this; omega
    have h2 := tw_lt h1 hx
    have h3 := bytesLess_tri key p.Cuts[partOf p.Cuts key - 1]
    show Op.bytesLess key p.Cuts[partOf p.Cuts key - 1] = false
    rw [h3]
    unfold sle at h2
    rw [h2]; rfl
  · cases key <;> rfl
theorem high_ok {p : TPlaces} (h : goodPlaces p = true) (key : Str) : ((highB p (partOf p.Cuts key) != []) && !Op.bytesLess key (highB p (partOf p.Cuts key))) = false := by
  have ha := (good_facts h).2.2.2.2.1
  unfold highB
  split
  · rename_i h0
    have hx : p.Cuts[partOf p.Cuts key]? = some p.Cuts[partOf p.Cuts key] := List.getElem?_eq_getElem h0
    have h1 : (p.Cuts.takeWhile fun c => sle c key).length = partOf p.Cuts key := (partOf_eq key ha).symm
    have h2 := tw_at h1 hx
    have h3 := bytesLess_tri key p.Cuts[partOf p.Cuts key]
    rw [hx]
    show ((p.Cuts[partOf p.Cuts key] != []) && !Op.bytesLess key p.Cuts[partOf p.Cuts key]) = false
    rw [h3]
    unfold sle at h2
    rw [h2]; simp
  · rfl
theorem ends_of {p : TPlaces} {key : Str} (h : goodPlaces p = true) : endsOf p (partOf p.Cuts key : Nat) = (lowB p (partOf p.Cuts key), highB p (partOf p.Cuts key), true) := by
  have hle := partOf_le p.Cuts key
  have hf := good_facts h
  have hr : isRange p (partOf p.Cuts key : Nat) = true := by
    unfold isRange within
    rw [h]; simp; omega
  unfold endsOf
  rw [hr]; rfl
theorem placesB_len {p : TPlaces} (h : goodPlaces p = true) : (placesB p).length ≤ 400 := by
  have hf := good_facts h
  have hk : ∀ c ∈ p.Cuts, c.length ≤ 12 := fun c hc => by
    have h1 := List.all_eq_true.1 hf.2.2.2.2.2 c hc
    unfold goodKey within at h1
    simp at h1; omega
  have hb : ∀ i, (plB p i).length ≤ 10 + i * 25 := by
    intro i
    induction i with
    | zero =>
      have := decD_len (k := 7) (n := p.Ver.toNat) (by omega) (by decide)
      show (decD p.Ver.toNat ++ [32]).length ≤ _
      rw [List.length_append]; simp only [List.length_cons, List.length_nil]; omega
    | succ i ih =>
      have h1 : ((p.Cuts[i - 1]?).getD []).length ≤ 12 := by
        cases hx : p.Cuts[i - 1]? with
        | none => simp
        | some c => exact hk c (List.mem_of_getElem? hx)
      have h2 : (decD ((p.Groups[i]?).getD 0).toNat).length ≤ 7 := by
        cases hx : p.Groups[i]? with
        | none => exact decD_len (by decide) (by decide)
        | some g =>
          have := pg_groups h g (List.mem_of_getElem? hx)
          exact decD_len (show g.toNat < _ by omega) (by decide)
      show ((if 0 < i then plB p i ++ (([124] ++ (p.Cuts[i - 1]?).getD []) ++ [124]) else plB p i) ++ decD ((p.Groups[i]?).getD 0).toNat).length ≤ _
      rw [List.length_append]
      split
      · rw [List.length_append, List.length_append, List.length_append]; simp only [List.length_cons, List.length_nil]; omega
      · omega
  have := hb p.Groups.length
  unfold placesB
  omega
end Go.M
namespace Go.Proofs.YtdgoejkijpllpaaGreatDoor
open Go Go.AV Go.M
attribute [local irreducible] OpW OpA OpS AWP FSpec ESpec GSpec OpE RetOk RetOkG RvDen Le Ev GuardIs SrcIs Int.tmod Int.tdiv IntKind.wrap bandI
theorem endsOf_spec (p : TPlaces) (i : Int) (hs : p.size ≤ 4194304) : FSpec Tryz.prog 7 [AV.agg p.cs, AV.int i] (AV.tup [AV.str (endsOf p i).1, AV.str (endsOf p i).2.1, AV.bool (endsOf p i).2.2]) := by
  refine spec_of_awp Tryz.func7 rfl Tryz.ntmps7 rfl ?_
  refine awp_seq ?_
  refine awp_region ?_
  refine sq_box rfl rfl rfl rfl (ev_tmp rfl) ?_
  intro b2
  refine sq_plain rfl rfl rfl (w_assign rfl (ev_cs' (l := []) rfl)) ?_
  refine sq_plain rfl rfl rfl (w_assign rfl (ev_cs' (l := []) rfl)) ?_
  refine sq_plain rfl rfl rfl (w_assign rfl ev_cb) ?_
  refine sq_nil ?_
  refine awp_seq ?_
  refine awp_seq ?_
  refine awp_region ?_
  refine sq_plain rfl rfl rfl (w_loadA 0 rfl (ev_tmp rfl) rfl Tryz.isAgg26 Tryz.sizeOf26 rfl) ?_
  refine sq_plain rfl rfl rfl (w_move rfl (ev_tmp rfl)) ?_
  refine sq_plain rfl rfl rfl (w_call rfl Tryz.call23 rfl (isRange_spec p i hs) (evl_cons (ev_tmp rfl) (evl_cons (ev_tmp rfl) evl_nil))) ?_
  refine sq_plain rfl rfl rfl (w_not rfl (ev_tmp rfl)) ?_
  refine sq_nil ?_
  refine awp_cond (ev_tmp rfl) ?_ ?_
  · intro h12
    have he : endsOf p i = ([], [], false) := if_pos h12
    rw [he]
    refine awp_seq ?_
    refine awp_region ?_
    refine sq_plain rfl rfl rfl (w_assign rfl (ev_cs' (l := []) rfl)) ?_
    refine sq_plain rfl rfl rfl (w_assign rfl (ev_cs' (l := []) rfl)) ?_
    refine sq_plain rfl rfl rfl (w_assign rfl ev_cb) ?_
    refine sq_nil ?_
    refine awp_ret ?_
    exact retN rfl (by decide) (rv_cons (rv_tmp' rfl (by rfl)) (rv_cons (rv_tmp' rfl (by rfl)) (rv_cons (rv_tmp' rfl (by rfl)) rv_nil)))
  · intro h12
    have hr : isRange p i = true := (by simpa using h12)
    obtain ⟨hg, hi0, hi1⟩ := isRange_facts hr
    obtain ⟨k, rfl⟩ : ∃ k : Nat, i = (k : Int) := ⟨i.toNat, by omega⟩
    have hf := good_facts hg
    have he : endsOf p (k : Int) = (lowB p k, highB p k, true) := if_neg (by rw [h12]; decide)
    rw [he]
    refine awp_skip ?_
    refine awp_seq ?_
    refine awp_region ?_
    refine sq_plain rfl rfl rfl (w_assign rfl (ev_cs' (l := []) rfl)) ?_
    refine sq_plain rfl rfl rfl (w_assign rfl (ev_cs' (l := []) rfl)) ?_
    refine sq_nil ?_
    refine awp_seq ?_
    refine awp_seq ?_
    refine awp_region ?_
    refine sq_plain rfl rfl rfl (w_move rfl (ev_tmp rfl)) ?_
    refine sq_plain rfl rfl rfl (w_gtr rfl (ev_tmp rfl) ev_ci) ?_
    refine sq_nil ?_
    refine awp_cond (ev_tmp rfl) ?_ ?_
    · intro h14
      have k14 := of_decide_eq_true h14; try simp only [List.length_map] at k14
      obtain ⟨c, hcx⟩ := get_some (show k - 1 < p.Cuts.length by omega)
      have hlow : lowB p k = c := (by unfold lowB; rw [if_pos (by omega), hcx]; rfl)
      rw [hlow]
      refine awp_region ?_
      refine sq_plain rfl rfl rfl (w_fldBn 1 rfl Tryz.underlying26 rfl Tryz.sizeOf23 (ev_tmp rfl) rfl) ?_
      refine sq_plain rfl rfl rfl (w_loadB1 0 rfl (ev_tmp rfl) rfl Tryz.isAgg23 rfl) ?_
      refine sq_plain rfl rfl rfl (w_move rfl (ev_tmp rfl)) ?_
      refine sq_plain rfl rfl rfl (w_subi rfl (ev_tmp rfl) ev_ci (by first | omega | ((try simp only [List.length_map, List.length_take, List.length_cons, List.length_nil, chunks_len, szR] at *); omega) | (have hc2 := hc; simp only [Bool.and_eq_true, Bool.or_eq_true, Bool.or_eq_false_iff, Bool.and_eq_false_iff, Bool.not_eq_true', Bool.not_eq_false', decide_eq_true_eq, decide_eq_false_iff_not, beq_iff_eq, bne_iff_ne, List.length_map, List.length_take] at hc2; omega))) ?_
      refine sq_plain rfl rfl rfl (w_idxm rfl Tryz.underlying23 Tryz.sizeOf9 (ev_tmp rfl) (ev_tmp rfl) hcx (by omega)) ?_
      refine sq_plain rfl rfl rfl (w_loadE1 rfl (ev_tmp rfl) Tryz.isAgg9 rfl) ?_
      refine sq_plain rfl rfl rfl (w_assign rfl (ev_tmp rfl)) ?_
      refine sq_nil ?_
      refine awp_seq ?_
      refine awp_seq ?_
      refine awp_region ?_
      refine sq_plain rfl rfl rfl (w_move rfl (ev_tmp rfl)) ?_
      refine sq_plain rfl rfl rfl (w_fldBn 1 rfl Tryz.underlying26 rfl Tryz.sizeOf23 (ev_tmp rfl) rfl) ?_
      refine sq_plain rfl rfl rfl (w_loadB1 0 rfl (ev_tmp rfl) rfl Tryz.isAgg23 rfl) ?_
      refine sq_plain rfl rfl rfl (w_llen rfl Tryz.underlying23 (ev_tmp rfl)) ?_
      refine sq_plain rfl rfl rfl (w_lss rfl (ev_tmp rfl) (ev_tmp rfl)) ?_
      refine sq_nil ?_
      refine awp_cond (ev_tmp rfl) ?_ ?_
      · intro h25
        have k25 := of_decide_eq_true h25; try simp only [List.length_map] at k25
        obtain ⟨d, hdx⟩ := get_some (show k < p.Cuts.length by omega)
        have hhigh : highB p k = d := (by unfold highB; rw [if_pos (by omega), hdx]; rfl)
        rw [hhigh]
        refine awp_region ?_
        refine sq_plain rfl rfl rfl (w_fldBn 1 rfl Tryz.underlying26 rfl Tryz.sizeOf23 (ev_tmp rfl) rfl) ?_
        refine sq_plain rfl rfl rfl (w_loadB1 0 rfl (ev_tmp rfl) rfl Tryz.isAgg23 rfl) ?_
        refine sq_plain rfl rfl rfl (w_move rfl (ev_tmp rfl)) ?_
        refine sq_plain rfl rfl rfl (w_idxm rfl Tryz.underlying23 Tryz.sizeOf9 (ev_tmp rfl) (ev_tmp rfl) hdx (by first | omega | ((try simp only [List.length_map, List.length_take, List.length_cons, List.length_nil, chunks_len, szR] at *); omega) | (have hc2 := hc; simp only [Bool.and_eq_true, Bool.or_eq_true, Bool.or_eq_false_iff, Bool.and_eq_false_iff, Bool.not_eq_true', Bool.not_eq_false', decide_eq_true_eq, decide_eq_false_iff_not, beq_iff_eq, bne_iff_ne, List.length_map, List.length_take] at hc2; omega))) ?_
        refine sq_plain rfl rfl rfl (w_loadE1 rfl (ev_tmp rfl) Tryz.isAgg9 rfl) ?_
        refine sq_plain rfl rfl rfl (w_assign rfl (ev_tmp rfl)) ?_
        refine sq_nil ?_
        refine awp_seq ?_
        refine awp_region ?_
        refine sq_plain rfl rfl rfl (w_move rfl (ev_tmp rfl)) ?_
        refine sq_plain rfl rfl rfl (w_move rfl (ev_tmp rfl)) ?_
        refine sq_plain rfl rfl rfl (w_assign rfl (ev_tmp rfl)) ?_
        refine sq_plain rfl rfl rfl (w_assign rfl (ev_tmp rfl)) ?_
        refine sq_plain rfl rfl rfl (w_assign rfl ev_cb) ?_
        refine sq_nil ?_
        refine awp_ret ?_
        exact retN rfl (by decide) (rv_cons (rv_tmp' rfl (by rfl)) (rv_cons (rv_tmp' rfl (by rfl)) (rv_cons (rv_tmp' rfl (by rfl)) rv_nil)))
      · intro h25
        have k25 := of_decide_eq_false h25; try simp only [List.length_map] at k25
        have hhigh : highB p k = [] := (by unfold highB; rw [if_neg (by omega)])
        rw [hhigh]
        refine awp_skip ?_
        refine awp_seq ?_
        refine awp_region ?_
        refine sq_plain rfl rfl rfl (w_move rfl (ev_tmp rfl)) ?_
        refine sq_plain rfl rfl rfl (w_move rfl (ev_tmp rfl)) ?_
        refine sq_plain rfl rfl rfl (w_assign rfl (ev_tmp rfl)) ?_
        refine sq_plain rfl rfl rfl (w_assign rfl (ev_tmp rfl)) ?_
        refine sq_plain rfl rfl rfl (w_assign rfl ev_cb) ?_
        refine sq_nil ?_
        refine awp_ret ?_
        exact retN rfl (by decide) (rv_cons (rv_tmp' rfl (by rfl)) (rv_cons (rv_tmp' rfl (by rfl)) (rv_cons (rv_tmp' rfl (by rfl)) rv_nil)))
    · intro h14
      have k14 := of_decide_eq_false h14; try simp only [List.length_map] at k14
      have hlow : lowB p k = [] := (by unfold lowB; rw [if_neg (by omega)])
      rw [hlow]
      refine awp_skip ?_
      refine awp_seq ?_
      refine awp_seq ?_
      refine awp_region ?_
      refine sq_plain rfl rfl rfl (w_move rfl (ev_tmp rfl)) ?_
      refine sq_plain rfl rfl rfl (w_fldBn 1 rfl Tryz.underlying26 rfl Tryz.sizeOf23 (ev_tmp rfl) rfl) ?_
      refine sq_plain rfl rfl rfl (w_loadB1 0 rfl (ev_tmp rfl) rfl Tryz.isAgg23 rfl) ?_
      refine sq_plain rfl rfl rfl (w_llen rfl Tryz.underlying23 (ev_tmp rfl)) ?_
      refine sq_plain rfl rfl rfl (w_lss rfl (ev_tmp rfl) (ev_tmp rfl)) ?_
      refine sq_nil ?_
      refine awp_cond (ev_tmp rfl) ?_ ?_
      · intro h25
        have k25 := of_decide_eq_true h25; try simp only [List.length_map] at k25
        obtain ⟨d, hdx⟩ := get_some (show k < p.Cuts.length by omega)
        have hhigh : highB p k = d := (by unfold highB; rw [if_pos (by omega), hdx]; rfl)
        rw [hhigh]
        refine awp_region ?_
        refine sq_plain rfl rfl rfl (w_fldBn 1 rfl Tryz.underlying26 rfl Tryz.sizeOf23 (ev_tmp rfl) rfl) ?_
        refine sq_plain rfl rfl rfl (w_loadB1 0 rfl (ev_tmp rfl) rfl Tryz.isAgg23 rfl) ?_
        refine sq_plain rfl rfl rfl (w_move rfl (ev_tmp rfl)) ?_
        refine sq_plain rfl rfl rfl (w_idxm rfl Tryz.underlying23 Tryz.sizeOf9 (ev_tmp rfl) (ev_tmp rfl) hdx (by first | omega | ((try simp only [List.length_map, List.length_take, List.length_cons, List.length_nil, chunks_len, szR] at *); omega) | (have hc2 := hc; simp only [Bool.and_eq_true, Bool.or_eq_true, Bool.or_eq_false_iff, Bool.and_eq_false_iff, Bool.not_eq_true', Bool.not_eq_false', decide_eq_true_eq, decide_eq_false_iff_not, beq_iff_eq, bne_iff_ne, List.length_map, List.length_take] at hc2; omega))) ?_
        refine sq_plain rfl rfl rfl (w_loadE1 rfl (ev_tmp rfl) Tryz.isAgg9 rfl) ?_
        refine sq_plain rfl rfl rfl (w_assign rfl (ev_tmp rfl)) ?_
        refine sq_nil ?_
        refine awp_seq ?_
        refine awp_region ?_
        refine sq_plain rfl rfl rfl (w_move rfl (ev_tmp rfl)) ?_
        refine sq_plain rfl rfl rfl (w_move rfl (ev_tmp rfl)) ?_
        refine sq_plain rfl rfl rfl (w_assign rfl (ev_tmp rfl)) ?_
        refine sq_plain rfl rfl rfl (w_assign rfl (ev_tmp rfl)) ?_
        refine sq_plain rfl rfl rfl (w_assign rfl ev_cb) ?_
        refine sq_nil ?_
        refine awp_ret ?_
        exact retN rfl (by decide) (rv_cons (rv_tmp' rfl (by rfl)) (rv_cons (rv_tmp' rfl (by rfl)) (rv_cons (rv_tmp' rfl (by rfl)) rv_nil)))
      · intro h25
        have k25 := of_decide_eq_false h25; try simp only [List.length_map] at k25
        have hhigh : highB p k = [] := (by unfold highB; rw [if_neg (by omega)])
        rw [hhigh]
        refine awp_skip ?_
        refine awp_seq ?_
        refine awp_region ?_
        refine sq_plain rfl rfl rfl (w_move rfl (ev_tmp rfl)) ?_
        refine sq_plain rfl rfl rfl (w_move rfl (ev_tmp rfl)) ?_
        refine sq_plain rfl rfl rfl (w_assign rfl (ev_tmp rfl)) ?_
        refine sq_plain rfl rfl rfl (w_assign rfl (ev_tmp rfl)) ?_
        refine sq_plain rfl rfl rfl (w_assign rfl ev_cb) ?_
        refine sq_nil ?_
        refine awp_ret ?_
        exact retN rfl (by decide) (rv_cons (rv_tmp' rfl (by rfl)) (rv_cons (rv_tmp' rfl (by rfl)) (rv_cons (rv_tmp' rfl (by rfl)) rv_nil)))
theorem endsOfS_spec (p : TPlaces) (i : Int) (hs : p.size ≤ 4194304) : FSpec Tryz.prog 12 [AV.agg p.cs, AV.int i] (AV.tup [AV.str (endsOf p i).1, AV.str (endsOf p i).2.1, AV.bool (endsOf p i).2.2]) := by
  have hs' := hs; unfold TPlaces.size at hs'
  refine spec_of_awp Tryz.func12 rfl Tryz.ntmps12 rfl ?_
  refine awp_seq ?_
  refine awp_region ?_
  refine sq_box rfl rfl rfl rfl (ev_tmp rfl) ?_
  intro b2
  refine sq_plain rfl rfl rfl (w_assign rfl (ev_cs' (l := []) rfl)) ?_
  refine sq_plain rfl rfl rfl (w_assign rfl (ev_cs' (l := []) rfl)) ?_
  refine sq_plain rfl rfl rfl (w_assign rfl ev_cb) ?_
  refine sq_nil ?_
  refine awp_seq ?_
  refine awp_seq ?_
  refine awp_region ?_
  refine sq_plain rfl rfl rfl (w_loadA 0 rfl (ev_tmp rfl) rfl Tryz.isAgg26 Tryz.sizeOf26 rfl) ?_
  refine sq_plain rfl rfl rfl (w_call rfl Tryz.call20 rfl (goodPlacesS_spec p hs) (evl_cons (ev_tmp rfl) evl_nil)) ?_
  refine sq_plain rfl rfl rfl (w_not rfl (ev_tmp rfl)) ?_
  refine sq_plain rfl rfl rfl (w_move rfl (ev_tmp rfl)) ?_
  refine sq_grd rfl rfl (guard_f rfl rfl rfl) (fun hc => w_move rfl (ev_tmp rfl)) ?_
  refine sq_grd rfl rfl (guard_f rfl rfl rfl) (fun hc => w_fldBn 2 rfl Tryz.underlying26 rfl Tryz.sizeOf24 (ev_tmp rfl) rfl) ?_
  refine sq_grd rfl rfl (guard_f rfl rfl rfl) (fun hc => w_loadB1 0 rfl (ev_whn rfl hc) rfl Tryz.isAgg24 rfl) ?_
  refine sq_grd rfl rfl (guard_f rfl rfl rfl) (fun hc => w_llen rfl Tryz.underlying24 (ev_whn rfl hc)) ?_
  refine sq_grd rfl rfl (guard_f rfl rfl rfl) (fun hc => w_subi rfl (ev_whn rfl hc) ev_ci (by first | omega | ((try simp only [List.length_map, List.length_take, List.length_cons, List.length_nil, chunks_len, szR] at *); omega) | (have hc2 := hc; simp only [Bool.and_eq_true, Bool.or_eq_true, Bool.or_eq_false_iff, Bool.and_eq_false_iff, Bool.not_eq_true', Bool.not_eq_false', decide_eq_true_eq, decide_eq_false_iff_not, beq_iff_eq, bne_iff_ne, List.length_map, List.length_take] at hc2; omega))) ?_
  refine sq_grd rfl rfl (guard_f rfl rfl rfl) (fun hc => w_call rfl Tryz.call31 rfl (l1In_spec _ _ _) (evl_cons (ev_whn rfl hc) (evl_cons ev_ci (evl_cons (ev_whn rfl hc) evl_nil)))) ?_
  refine sq_grd rfl rfl (guard_f rfl rfl rfl) (fun hc => w_not rfl (ev_whn rfl hc)) ?_
  refine sq_plain rfl rfl rfl (w_or rfl (ev_tmp rfl) (evif_w rfl)) ?_
  refine sq_nil ?_
  refine awp_cond (ev_tmp rfl) ?_ ?_
  · intro h20
    have hr : (!isRange p i) = true := (by unfold isRange; rw [goodPlaces_eq]; simpa [List.length_map, Bool.not_and] using h20)
    have he : endsOf p i = ([], [], false) := if_pos hr
    rw [he]
    refine awp_seq ?_
    refine awp_region ?_
    refine sq_plain rfl rfl rfl (w_assign rfl (ev_cs' (l := []) rfl)) ?_
    refine sq_plain rfl rfl rfl (w_assign rfl (ev_cs' (l := []) rfl)) ?_
    refine sq_plain rfl rfl rfl (w_assign rfl ev_cb) ?_
    refine sq_nil ?_
    refine awp_ret ?_
    exact retN rfl (by decide) (rv_cons (rv_tmp' rfl (by rfl)) (rv_cons (rv_tmp' rfl (by rfl)) (rv_cons (rv_tmp' rfl (by rfl)) rv_nil)))
  · intro h20
    have hr0 : (!isRange p i) = false := (by unfold isRange; rw [goodPlaces_eq]; simpa [List.length_map, Bool.not_and] using h20)
    have hr : isRange p i = true := (by simpa using hr0)
    obtain ⟨hg, hi0, hi1⟩ := isRange_facts hr
    obtain ⟨k, rfl⟩ : ∃ k : Nat, i = (k : Int) := ⟨i.toNat, by omega⟩
    have hf := good_facts hg
    have he : endsOf p (k : Int) = (lowB p k, highB p k, true) := if_neg (by rw [hr0]; decide)
    rw [he]
    refine awp_skip ?_
    refine awp_seq ?_
    refine awp_region ?_
    refine sq_plain rfl rfl rfl (w_assign rfl (ev_cs' (l := []) rfl)) ?_
    refine sq_plain rfl rfl rfl (w_assign rfl (ev_cs' (l := []) rfl)) ?_
    refine sq_nil ?_
    refine awp_seq ?_
    refine awp_seq ?_
    refine awp_region ?_
    refine sq_plain rfl rfl rfl (w_move rfl (ev_tmp rfl)) ?_
    refine sq_plain rfl rfl rfl (w_gtr rfl (ev_tmp rfl) ev_ci) ?_
    refine sq_nil ?_
    refine awp_cond (ev_tmp rfl) ?_ ?_
    · intro h22
      have k22 := of_decide_eq_true h22; try simp only [List.length_map] at k22
      obtain ⟨c, hcx⟩ := get_some (show k - 1 < p.Cuts.length by omega)
      have hlow : lowB p k = c := (by unfold lowB; rw [if_pos (by omega), hcx]; rfl)
      rw [hlow]
      refine awp_region ?_
      refine sq_plain rfl rfl rfl (w_fldBn 1 rfl Tryz.underlying26 rfl Tryz.sizeOf23 (ev_tmp rfl) rfl) ?_
      refine sq_plain rfl rfl rfl (w_loadB1 0 rfl (ev_tmp rfl) rfl Tryz.isAgg23 rfl) ?_
      refine sq_plain rfl rfl rfl (w_move rfl (ev_tmp rfl)) ?_
      refine sq_plain rfl rfl rfl (w_subi rfl (ev_tmp rfl) ev_ci (by first | omega | ((try simp only [List.length_map, List.length_take, List.length_cons, List.length_nil, chunks_len, szR] at *); omega) | (have hc2 := hc; simp only [Bool.and_eq_true, Bool.or_eq_true, Bool.or_eq_false_iff, Bool.and_eq_false_iff, Bool.not_eq_true', Bool.not_eq_false', decide_eq_true_eq, decide_eq_false_iff_not, beq_iff_eq, bne_iff_ne, List.length_map, List.length_take] at hc2; omega))) ?_
      refine sq_plain rfl rfl rfl (w_idxm rfl Tryz.underlying23 Tryz.sizeOf9 (ev_tmp rfl) (ev_tmp rfl) hcx (by omega)) ?_
      refine sq_plain rfl rfl rfl (w_loadE1 rfl (ev_tmp rfl) Tryz.isAgg9 rfl) ?_
      refine sq_plain rfl rfl rfl (w_assign rfl (ev_tmp rfl)) ?_
      refine sq_nil ?_
      refine awp_seq ?_
      refine awp_seq ?_
      refine awp_region ?_
      refine sq_plain rfl rfl rfl (w_move rfl (ev_tmp rfl)) ?_
      refine sq_plain rfl rfl rfl (w_fldBn 1 rfl Tryz.underlying26 rfl Tryz.sizeOf23 (ev_tmp rfl) rfl) ?_
      refine sq_plain rfl rfl rfl (w_loadB1 0 rfl (ev_tmp rfl) rfl Tryz.isAgg23 rfl) ?_
      refine sq_plain rfl rfl rfl (w_llen rfl Tryz.underlying23 (ev_tmp rfl)) ?_
      refine sq_plain rfl rfl rfl (w_lss rfl (ev_tmp rfl) (ev_tmp rfl)) ?_
      refine sq_nil ?_
      refine awp_cond (ev_tmp rfl) ?_ ?_
      · intro h33
        have k33 := of_decide_eq_true h33; try simp only [List.length_map] at k33
        obtain ⟨d, hdx⟩ := get_some (show k < p.Cuts.length by omega)
        have hhigh : highB p k = d := (by unfold highB; rw [if_pos (by omega), hdx]; rfl)
        rw [hhigh]
        refine awp_region ?_
        refine sq_plain rfl rfl rfl (w_fldBn 1 rfl Tryz.underlying26 rfl Tryz.sizeOf23 (ev_tmp rfl) rfl) ?_
        refine sq_plain rfl rfl rfl (w_loadB1 0 rfl (ev_tmp rfl) rfl Tryz.isAgg23 rfl) ?_
        refine sq_plain rfl rfl rfl (w_move rfl (ev_tmp rfl)) ?_
        refine sq_plain rfl rfl rfl (w_idxm rfl Tryz.underlying23 Tryz.sizeOf9 (ev_tmp rfl) (ev_tmp rfl) hdx (by first | omega | ((try simp only [List.length_map, List.length_take, List.length_cons, List.length_nil, chunks_len, szR] at *); omega) | (have hc2 := hc; simp only [Bool.and_eq_true, Bool.or_eq_true, Bool.or_eq_false_iff, Bool.and_eq_false_iff, Bool.not_eq_true', Bool.not_eq_false', decide_eq_true_eq, decide_eq_false_iff_not, beq_iff_eq, bne_iff_ne, List.length_map, List.length_take] at hc2; omega))) ?_
        refine sq_plain rfl rfl rfl (w_loadE1 rfl (ev_tmp rfl) Tryz.isAgg9 rfl) ?_
        refine sq_plain rfl rfl rfl (w_assign rfl (ev_tmp rfl)) ?_
        refine sq_nil ?_
        refine awp_seq ?_
        refine awp_region ?_
        refine sq_plain rfl rfl rfl (w_move rfl (ev_tmp rfl)) ?_
        refine sq_plain rfl rfl rfl (w_move rfl (ev_tmp rfl)) ?_
        refine sq_plain rfl rfl rfl (w_assign rfl (ev_tmp rfl)) ?_
        refine sq_plain rfl rfl rfl (w_assign rfl (ev_tmp rfl)) ?_
        refine sq_plain rfl rfl rfl (w_assign rfl ev_cb) ?_
        refine sq_nil ?_
        refine awp_ret ?_
        exact retN rfl (by decide) (rv_cons (rv_tmp' rfl (by rfl)) (rv_cons (rv_tmp' rfl (by rfl)) (rv_cons (rv_tmp' rfl (by rfl)) rv_nil)))
      · intro h33
        have k33 := of_decide_eq_false h33; try simp only [List.length_map] at k33
        have hhigh : highB p k = [] := (by unfold highB; rw [if_neg (by omega)])
        rw [hhigh]
        refine awp_skip ?_
        refine awp_seq ?_
        refine awp_region ?_
        refine sq_plain rfl rfl rfl (w_move rfl (ev_tmp rfl)) ?_
        refine sq_plain rfl rfl rfl (w_move rfl (ev_tmp rfl)) ?_
        refine sq_plain rfl rfl rfl (w_assign rfl (ev_tmp rfl)) ?_
        refine sq_plain rfl rfl rfl (w_assign rfl (ev_tmp rfl)) ?_
        refine sq_plain rfl rfl rfl (w_assign rfl ev_cb) ?_
        refine sq_nil ?_
        refine awp_ret ?_
        exact retN rfl (by decide) (rv_cons (rv_tmp' rfl (by rfl)) (rv_cons (rv_tmp' rfl (by rfl)) (rv_cons (rv_tmp' rfl (by rfl)) rv_nil)))
    · intro h22
      have k22 := of_decide_eq_false h22; try simp only [List.length_map] at k22
      have hlow : lowB p k = [] := (by unfold lowB; rw [if_neg (by omega)])
      rw [hlow]
      refine awp_skip ?_
      refine awp_seq ?_
      refine awp_seq ?_
      refine awp_region ?_
      refine sq_plain rfl rfl rfl (w_move rfl (ev_tmp rfl)) ?_
      refine sq_plain rfl rfl rfl (w_fldBn 1 rfl Tryz.underlying26 rfl Tryz.sizeOf23 (ev_tmp rfl) rfl) ?_
      refine sq_plain rfl rfl rfl (w_loadB1 0 rfl (ev_tmp rfl) rfl Tryz.isAgg23 rfl) ?_
      refine sq_plain rfl rfl rfl (w_llen rfl Tryz.underlying23 (ev_tmp rfl)) ?_
      refine sq_plain rfl rfl rfl (w_lss rfl (ev_tmp rfl) (ev_tmp rfl)) ?_
      refine sq_nil ?_
      refine awp_cond (ev_tmp rfl) ?_ ?_
      · intro h33
        have k33 := of_decide_eq_true h33; try simp only [List.length_map] at k33
        obtain ⟨d, hdx⟩ := get_some (show k < p.Cuts.length by omega)
        have hhigh : highB p k = d := (by unfold highB; rw [if_pos (by omega), hdx]; rfl)
        rw [hhigh]
        refine awp_region ?_
        refine sq_plain rfl rfl rfl (w_fldBn 1 rfl Tryz.underlying26 rfl Tryz.sizeOf23 (ev_tmp rfl) rfl) ?_
        refine sq_plain rfl rfl rfl (w_loadB1 0 rfl (ev_tmp rfl) rfl Tryz.isAgg23 rfl) ?_
        refine sq_plain rfl rfl rfl (w_move rfl (ev_tmp rfl)) ?_
        refine sq_plain rfl rfl rfl (w_idxm rfl Tryz.underlying23 Tryz.sizeOf9 (ev_tmp rfl) (ev_tmp rfl) hdx (by first | omega | ((try simp only [List.length_map, List.length_take, List.length_cons, List.length_nil, chunks_len, szR] at *); omega) | (have hc2 := hc; simp only [Bool.and_eq_true, Bool.or_eq_true, Bool.or_eq_false_iff, Bool.and_eq_false_iff, Bool.not_eq_true', Bool.not_eq_false', decide_eq_true_eq, decide_eq_false_iff_not, beq_iff_eq, bne_iff_ne, List.length_map, List.length_take] at hc2; omega))) ?_
        refine sq_plain rfl rfl rfl (w_loadE1 rfl (ev_tmp rfl) Tryz.isAgg9 rfl) ?_
        refine sq_plain rfl rfl rfl (w_assign rfl (ev_tmp rfl)) ?_
        refine sq_nil ?_
        refine awp_seq ?_
        refine awp_region ?_
        refine sq_plain rfl rfl rfl (w_move rfl (ev_tmp rfl)) ?_
        refine sq_plain rfl rfl rfl (w_move rfl (ev_tmp rfl)) ?_
        refine sq_plain rfl rfl rfl (w_assign rfl (ev_tmp rfl)) ?_
        refine sq_plain rfl rfl rfl (w_assign rfl (ev_tmp rfl)) ?_
        refine sq_plain rfl rfl rfl (w_assign rfl ev_cb) ?_
        refine sq_nil ?_
        refine awp_ret ?_
        exact retN rfl (by decide) (rv_cons (rv_tmp' rfl (by rfl)) (rv_cons (rv_tmp' rfl (by rfl)) (rv_cons (rv_tmp' rfl (by rfl)) rv_nil)))
      · intro h33
        have k33 := of_decide_eq_false h33; try simp only [List.length_map] at k33
        have hhigh : highB p k = [] := (by unfold highB; rw [if_neg (by omega)])
        rw [hhigh]
        refine awp_skip ?_
        refine awp_seq ?_
        refine awp_region ?_
        refine sq_plain rfl rfl rfl (w_move rfl (ev_tmp rfl)) ?_
        refine sq_plain rfl rfl rfl (w_move rfl (ev_tmp rfl)) ?_
        refine sq_plain rfl rfl rfl (w_assign rfl (ev_tmp rfl)) ?_
        refine sq_plain rfl rfl rfl (w_assign rfl (ev_tmp rfl)) ?_
        refine sq_plain rfl rfl rfl (w_assign rfl ev_cb) ?_
        refine sq_nil ?_
        refine awp_ret ?_
        exact retN rfl (by decide) (rv_cons (rv_tmp' rfl (by rfl)) (rv_cons (rv_tmp' rfl (by rfl)) (rv_cons (rv_tmp' rfl (by rfl)) rv_nil)))
theorem rangeOfE_spec (p : TPlaces) (key : Str) (hs : p.size ≤ 4194304) (hk : key.length ≤ 4194304) : FSpec Tryz.prog 6 [AV.agg p.cs, AV.str key] (AV.tup [AV.int (rangeOf p key).1, AV.bool (rangeOf p key).2]) := by
  refine spec_of_awp Tryz.func6 rfl Tryz.ntmps6 rfl ?_
  refine awp_seq ?_
  refine awp_region ?_
  refine sq_box rfl rfl rfl rfl (ev_tmp rfl) ?_
  intro b2
  refine sq_plain rfl rfl rfl (w_assign rfl ev_ci) ?_
  refine sq_plain rfl rfl rfl (w_assign rfl ev_cb) ?_
  refine sq_nil ?_
  refine awp_seq ?_
  refine awp_seq ?_
  refine awp_region ?_
  refine sq_plain rfl rfl rfl (w_loadA 0 rfl (ev_tmp rfl) rfl Tryz.isAgg26 Tryz.sizeOf26 rfl) ?_
  refine sq_plain rfl rfl rfl (w_call rfl Tryz.call20 rfl (goodPlacesS_spec p hs) (evl_cons (ev_tmp rfl) evl_nil)) ?_
  refine sq_plain rfl rfl rfl (w_not rfl (ev_tmp rfl)) ?_
  refine sq_plain rfl rfl rfl (w_move rfl (ev_tmp rfl)) ?_
  refine sq_grd rfl rfl (guard_f rfl rfl rfl) (fun hc => w_move rfl (ev_tmp rfl)) ?_
  refine sq_grd rfl rfl (guard_f rfl rfl rfl) (fun hc => w_call rfl Tryz.call21 rfl (l3Key_spec _ (by omega)) (evl_cons (ev_whn rfl hc) evl_nil)) ?_
  refine sq_grd rfl rfl (guard_f rfl rfl rfl) (fun hc => w_not rfl (ev_whn rfl hc)) ?_
  refine sq_plain rfl rfl rfl (w_or rfl (ev_tmp rfl) (evif_w rfl)) ?_
  refine sq_nil ?_
  refine awp_cond (ev_tmp rfl) ?_ ?_
  · intro h13
    have he : rangeOf p key = (0, false) := if_pos (by rw [goodPlaces_eq, goodKey_eq]; exact h13)
    rw [he]
    refine awp_seq ?_
    refine awp_region ?_
    refine sq_plain rfl rfl rfl (w_assign rfl ev_ci) ?_
    refine sq_plain rfl rfl rfl (w_assign rfl ev_cb) ?_
    refine sq_nil ?_
    refine awp_ret ?_
    exact retN rfl (by decide) (rv_cons (rv_tmp' rfl (by rfl)) (rv_cons (rv_tmp' rfl (by rfl)) rv_nil))
  · intro h13
    have hgk : (!goodPlaces p || !goodKey key) = false := (by rw [goodPlaces_eq, goodKey_eq]; exact h13)
    have hg : goodPlaces p = true := (by simp only [Bool.or_eq_false_iff, Bool.not_eq_false'] at hgk; exact hgk.1)
    have hf := good_facts hg
    have he : rangeOf p key = ((rangeS p.Cuts key : Int), true) := (by rw [← partOf_eq key hf.2.2.2.2.1]; exact if_neg (by rw [hgk]; decide))
    rw [he]
    refine awp_skip ?_
    refine awp_seq ?_
    refine awp_region ?_
    refine sq_plain rfl rfl rfl (w_loadA 0 rfl (ev_tmp rfl) rfl Tryz.isAgg26 Tryz.sizeOf26 rfl) ?_
    refine sq_plain rfl rfl rfl (w_move rfl (ev_tmp rfl)) ?_
    refine sq_plain rfl rfl rfl (w_call rfl Tryz.call22 rfl (l20Range_spec p key (by omega)) (evl_cons (ev_tmp rfl) (evl_cons (ev_tmp rfl) evl_nil))) ?_
    refine sq_plain rfl rfl rfl (w_assign rfl (ev_tmp rfl)) ?_
    refine sq_plain rfl rfl rfl (w_assign rfl ev_cb) ?_
    refine sq_nil ?_
    refine awp_ret ?_
    exact retN rfl (by decide) (rv_cons (rv_tmp' rfl (by rfl)) (rv_cons (rv_tmp' rfl (by rfl)) rv_nil))
theorem bentSealed_own (b : Nat) (code : List Int) (hcode : ByteL code) (c : TCur) (hp : c.p ≤ 1500000) : GSpec Tryz.prog 15 [AV.ptr b 0] [.box b 45 (curC code c)] (fun x : TCur × TPlaces => x.1.p ≤ c.p + 50 ∧ x.2.size ≤ 600) (fun x => [.box b 45 (curC code x.1)]) (fun x => AV.agg x.2.cs) :=
  gspec_sealC (fun x => (x.1, x.2.1)) (fun x => TPlaces.ow x.2.1 x.2.2) (fun x => [.box b 45 (curC code x.1)]) (curBentPlaces_own b code hcode c hp) (fun _ h => h) (fun x _ => lt_agg (TPlaces.lcM _ _ fun _ ho => ho)) (fun x _ => List.perm_append_comm (l₁ := [_])) (fun _ _ => gin_cons 0 rfl rfl gin_nil) (fun x _ => oc_cons ⟨rfl, rfl, lc_refl⟩ oc_nil)
theorem placesSealed_own (b : Nat) (code : List Int) (hcode : ByteL code) (c : TCur) (hp : c.p ≤ 2000000) : GSpec Tryz.prog 33 [AV.ptr b 0] [.box b 45 (curC code c)] (fun x : TCur × TPlaces => x.1.p ≤ c.p + 40 ∧ goodPlaces x.2 = true) (fun x => [.box b 45 (curC code x.1)]) (fun x => AV.agg x.2.cs) :=
  gspec_sealC (fun x => (x.1, x.2.1)) (fun x => TPlaces.ow x.2.1 x.2.2) (fun x => [.box b 45 (curC code x.1)]) (curPlaces_own b code hcode c hp) (fun _ h => h) (fun x _ => lt_agg (TPlaces.lcM _ _ fun _ ho => ho)) (fun x _ => List.perm_append_comm (l₁ := [_])) (fun _ _ => gin_cons 0 rfl rfl gin_nil) (fun x _ => oc_cons ⟨rfl, rfl, lc_refl⟩ oc_nil)
theorem drawEndsOf_own (code : List Int) (hcode : ByteL code) : GSpec Tryz.prog 11 [bytesI code] [] (fun x : TPlaces × Int => x.1.size ≤ 600) (fun x => []) (fun x => AV.tup [AV.agg x.1.cs, AV.int x.2]) := by
  refine gspec_of_awp Tryz.func11 rfl Tryz.ntmps11 rfl ?_
  refine awp_seq ?_
  refine awp_region ?_
  refine sq_alloc rfl rfl rfl rfl Tryz.zeroValue26 rfl ?_
  intro b2
  refine sq_plain rfl rfl rfl (w_assign rfl ev_ci) ?_
  refine sq_nil ?_
  refine awp_seq ?_
  refine awp_region ?_
  refine sq_plain rfl rfl rfl (w_move rfl (ev_tmp rfl)) ?_
  refine sq_plain rfl rfl rfl (w_build (places := #[(0, 1), (1, 1), (2, 1)]) rfl Tryz.underlying45 Tryz.zeroValue45 (fun w => by kernel_rfl) rfl (bp_cons (ev_tmp rfl) (as_list _ _) bp_nil) rfl) ?_
  refine sq_box rfl rfl rfl rfl (ev_tmp rfl) ?_
  intro b8
  refine sq_plain rfl rfl rfl (w_assign rfl (ev_tmp rfl)) ?_
  refine sq_nil ?_
  refine awp_seq ?_
  refine awp_region ?_
  refine sq_plain rfl rfl rfl (w_move rfl (ev_tmp rfl)) ?_
  refine sq_callG [0] rfl rfl rfl rfl Tryz.call15 rfl (bentSealed_own _ _ hcode ⟨0, 0⟩ (by decide)) (evl_cons (ev_tmp rfl) evl_nil) rfl ?_
  intro x10 ok10
  have hp10 : x10.1.p ≤ 50 := ok10.1
  have hl10 := places_lens ok10.2
  refine sq_alloc rfl rfl rfl rfl Tryz.zeroValue26 rfl ?_
  intro b5
  refine sq_storeB0 0 rfl rfl rfl (ev_tmp rfl) (ev_tmp rfl) (as_agg _) rfl Tryz.sizeOf26 rfl ?_
  refine sq_nil ?_
  refine awp_seq ?_
  refine awp_region_tree0 [] 10 (.pure 1 (.pure 2 (.e2 0 (.e1 3 (.pure 4 (.pure 5 (.e1 6 (.pure 7 (.e1 8 (.pure 9 .nil))))))) 3 (.pure 4 (.pure 5 (.e2 0 (.e1 6 (.pure 7 (.e1 8 (.pure 9 .nil)))) 6 (.pure 7 (.e1 0 (.e1 8 (.pure 9 .nil)))))))))) (by kernel_rfl) (by kernel_rfl) rfl invx_all ?_
  refine bt_plain rfl rfl rfl (fun ext => w_move rfl (ev_tmp rfl)) ?_
  refine bt_plain rfl rfl rfl (fun ext => w_fldBn 2 rfl Tryz.underlying26 rfl Tryz.sizeOf24 (ev_tmp rfl) rfl) ?_
  refine bt_e2 ?_ ?_
  · refine eff_s rfl rfl rfl (opE_pure (w_loadA 0 rfl (ev_tmp rfl) rfl Tryz.isAgg26 Tryz.sizeOf26 rfl)) (fun a _ => (by first | exact invx_mk rfl | exact invx_mk (List.append_assoc _ _ _) | exact invx_all)) ?_
    intro _ _
    refine bt_e1 ?_
    refine eff_s rfl rfl rfl (opE_pure (w_loadB1 0 rfl (ev_tmp rfl) rfl Tryz.isAgg24 rfl)) (fun a _ => (by first | exact invx_mk rfl | exact invx_mk (List.append_assoc _ _ _) | exact invx_all)) ?_
    intro _ _
    refine bt_plain rfl rfl rfl (fun ext => w_llen rfl Tryz.underlying24 (ev_tmp rfl)) ?_
    refine bt_plain rfl rfl rfl (fun ext => w_addi rfl (ev_tmp rfl) ev_ci (by first | omega | ((try simp only [List.length_map, List.length_take, List.length_cons, List.length_nil, chunks_len, szR] at *); omega) | (have hc2 := hc; simp only [Bool.and_eq_true, Bool.or_eq_true, Bool.or_eq_false_iff, Bool.and_eq_false_iff, Bool.not_eq_true', Bool.not_eq_false', decide_eq_true_eq, decide_eq_false_iff_not, beq_iff_eq, bne_iff_ne, List.length_map, List.length_take] at hc2; omega))) ?_
    refine bt_e1 ?_
    refine eff_s rfl rfl rfl (opE_call [1] rfl Tryz.call30 rfl (curPick_own _ _ hcode _ _ (by first | omega | (simp only [List.length_map]; omega)) (by omega)) (evl_cons (ev_tmp rfl) (evl_cons (ev_tmp rfl) evl_nil)) rfl) (fun a _ => (by first | exact invx_mk rfl | exact invx_mk (List.append_assoc _ _ _) | exact invx_all)) ?_
    intro x17 ok17
    refine bt_plain rfl rfl rfl (fun ext => w_subi rfl (ev_tmp rfl) ev_ci (by first | omega | ((try simp only [List.length_map, List.length_take, List.length_cons, List.length_nil, chunks_len, szR] at *); omega) | (have hc2 := hc; simp only [Bool.and_eq_true, Bool.or_eq_true, Bool.or_eq_false_iff, Bool.and_eq_false_iff, Bool.not_eq_true', Bool.not_eq_false', decide_eq_true_eq, decide_eq_false_iff_not, beq_iff_eq, bne_iff_ne, List.length_map, List.length_take] at hc2; omega))) ?_
    refine bt_e1 ?_
    refine eff_s0 rfl rfl rfl (opE_storeB0 1 rfl rfl (ev_tmp rfl) (ev_tmp rfl) (as_agg _) rfl Tryz.sizeOf26 rfl) (fun a _ => (by first | exact invx_mk rfl | exact invx_mk (List.append_assoc _ _ _) | exact invx_all)) ?_
    intro _ _
    refine bt_plain rfl rfl rfl (fun ext => w_assign rfl (ev_tmp rfl)) ?_
    refine bt_nil ?_
    refine sq_nil ?_
    refine awp_ret ?_
    (refine retG [] ((x10.2, x17.2 - 1)) ?_ rfl (by first | (dsimp only; rfl) | rfl) (resN rfl (by decide) (rv_cons (rv_cell (ys := _) 1 rfl rfl Tryz.isAgg26 Tryz.sizeOf26 rfl) (rv_cons (rv_tmp' rfl (by rfl)) rv_nil))); exact ok10.2)
  · refine eff_s rfl rfl rfl (opE_pure (w_loadB1 0 rfl (ev_tmp rfl) rfl Tryz.isAgg24 rfl)) (fun a _ => (by first | exact invx_mk rfl | exact invx_mk (List.append_assoc _ _ _) | exact invx_all)) ?_
    intro _ _
    refine bt_plain rfl rfl rfl (fun ext => w_llen rfl Tryz.underlying24 (ev_tmp rfl)) ?_
    refine bt_plain rfl rfl rfl (fun ext => w_addi rfl (ev_tmp rfl) ev_ci (by first | omega | ((try simp only [List.length_map, List.length_take, List.length_cons, List.length_nil, chunks_len, szR] at *); omega) | (have hc2 := hc; simp only [Bool.and_eq_true, Bool.or_eq_true, Bool.or_eq_false_iff, Bool.and_eq_false_iff, Bool.not_eq_true', Bool.not_eq_false', decide_eq_true_eq, decide_eq_false_iff_not, beq_iff_eq, bne_iff_ne, List.length_map, List.length_take] at hc2; omega))) ?_
    refine bt_e2 ?_ ?_
    · refine eff_s rfl rfl rfl (opE_pure (w_loadA 0 rfl (ev_tmp rfl) rfl Tryz.isAgg26 Tryz.sizeOf26 rfl)) (fun a _ => (by first | exact invx_mk rfl | exact invx_mk (List.append_assoc _ _ _) | exact invx_all)) ?_
      intro _ _
      refine bt_e1 ?_
      refine eff_s rfl rfl rfl (opE_call [1] rfl Tryz.call30 rfl (curPick_own _ _ hcode _ _ (by first | omega | (simp only [List.length_map]; omega)) (by omega)) (evl_cons (ev_tmp rfl) (evl_cons (ev_tmp rfl) evl_nil)) rfl) (fun a _ => (by first | exact invx_mk rfl | exact invx_mk (List.append_assoc _ _ _) | exact invx_all)) ?_
      intro x17 ok17
      refine bt_plain rfl rfl rfl (fun ext => w_subi rfl (ev_tmp rfl) ev_ci (by first | omega | ((try simp only [List.length_map, List.length_take, List.length_cons, List.length_nil, chunks_len, szR] at *); omega) | (have hc2 := hc; simp only [Bool.and_eq_true, Bool.or_eq_true, Bool.or_eq_false_iff, Bool.and_eq_false_iff, Bool.not_eq_true', Bool.not_eq_false', decide_eq_true_eq, decide_eq_false_iff_not, beq_iff_eq, bne_iff_ne, List.length_map, List.length_take] at hc2; omega))) ?_
      refine bt_e1 ?_
      refine eff_s0 rfl rfl rfl (opE_storeB0 1 rfl rfl (ev_tmp rfl) (ev_tmp rfl) (as_agg _) rfl Tryz.sizeOf26 rfl) (fun a _ => (by first | exact invx_mk rfl | exact invx_mk (List.append_assoc _ _ _) | exact invx_all)) ?_
      intro _ _
      refine bt_plain rfl rfl rfl (fun ext => w_assign rfl (ev_tmp rfl)) ?_
      refine bt_nil ?_
      refine sq_nil ?_
      refine awp_ret ?_
      (refine retG [] ((x10.2, x17.2 - 1)) ?_ rfl (by first | (dsimp only; rfl) | rfl) (resN rfl (by decide) (rv_cons (rv_cell (ys := _) 1 rfl rfl Tryz.isAgg26 Tryz.sizeOf26 rfl) (rv_cons (rv_tmp' rfl (by rfl)) rv_nil))); exact ok10.2)
    · refine eff_s rfl rfl rfl (opE_call [1] rfl Tryz.call30 rfl (curPick_own _ _ hcode _ _ (by first | omega | (simp only [List.length_map]; omega)) (by omega)) (evl_cons (ev_tmp rfl) (evl_cons (ev_tmp rfl) evl_nil)) rfl) (fun a _ => (by first | exact invx_mk rfl | exact invx_mk (List.append_assoc _ _ _) | exact invx_all)) ?_
      intro x17 ok17
      refine bt_plain rfl rfl rfl (fun ext => w_subi rfl (ev_tmp rfl) ev_ci (by first | omega | ((try simp only [List.length_map, List.length_take, List.length_cons, List.length_nil, chunks_len, szR] at *); omega) | (have hc2 := hc; simp only [Bool.and_eq_true, Bool.or_eq_true, Bool.or_eq_false_iff, Bool.and_eq_false_iff, Bool.not_eq_true', Bool.not_eq_false', decide_eq_true_eq, decide_eq_false_iff_not, beq_iff_eq, bne_iff_ne, List.length_map, List.length_take] at hc2; omega))) ?_
      refine bt_e1 ?_
      refine eff_s rfl rfl rfl (opE_pure (w_loadA 0 rfl (ev_tmp rfl) rfl Tryz.isAgg26 Tryz.sizeOf26 rfl)) (fun a _ => (by first | exact invx_mk rfl | exact invx_mk (List.append_assoc _ _ _) | exact invx_all)) ?_
      intro _ _
      refine bt_e1 ?_
      refine eff_s0 rfl rfl rfl (opE_storeB0 1 rfl rfl (ev_tmp rfl) (ev_tmp rfl) (as_agg _) rfl Tryz.sizeOf26 rfl) (fun a _ => (by first | exact invx_mk rfl | exact invx_mk (List.append_assoc _ _ _) | exact invx_all)) ?_
      intro _ _
      refine bt_plain rfl rfl rfl (fun ext => w_assign rfl (ev_tmp rfl)) ?_
      refine bt_nil ?_
      refine sq_nil ?_
      refine awp_ret ?_
      (refine retG [] ((x10.2, x17.2 - 1)) ?_ rfl (by first | (dsimp only; rfl) | rfl) (resN rfl (by decide) (rv_cons (rv_cell (ys := _) 1 rfl rfl Tryz.isAgg26 Tryz.sizeOf26 rfl) (rv_cons (rv_tmp' rfl (by rfl)) rv_nil))); exact ok10.2)
theorem drawReadPlaces_own (code : List Int) (hcode : ByteL code) : GSpec Tryz.prog 13 [bytesI code] [] (fun x : Str => x.length ≤ 402) (fun x => []) (fun x => AV.str x) := by
  refine gspec_of_awp Tryz.func13 rfl Tryz.ntmps13 rfl ?_
  refine awp_seq ?_
  refine awp_region ?_
  refine sq_plain rfl rfl rfl (w_assign rfl (ev_cs' (l := []) rfl)) ?_
  refine sq_nil ?_
  refine awp_seq ?_
  refine awp_region ?_
  refine sq_plain rfl rfl rfl (w_move rfl (ev_tmp rfl)) ?_
  refine sq_plain rfl rfl rfl (w_build (places := #[(0, 1), (1, 1), (2, 1)]) rfl Tryz.underlying45 Tryz.zeroValue45 (fun w => by kernel_rfl) rfl (bp_cons (ev_tmp rfl) (as_list _ _) bp_nil) rfl) ?_
  refine sq_box rfl rfl rfl rfl (ev_tmp rfl) ?_
  intro b7
  refine sq_plain rfl rfl rfl (w_assign rfl (ev_tmp rfl)) ?_
  refine sq_nil ?_
  refine awp_seq ?_
  refine awp_region ?_
  refine sq_plain rfl rfl rfl (w_move rfl (ev_tmp rfl)) ?_
  refine sq_callG [0] rfl rfl rfl rfl Tryz.call33 rfl (placesSealed_own _ _ hcode ⟨0, 0⟩ (by decide)) (evl_cons (ev_tmp rfl) evl_nil) rfl ?_
  intro x9 ok9
  obtain ⟨⟨c9, p⟩, hx9⟩ : ∃ z, x9 = z := ⟨_, rfl⟩
  subst hx9
  obtain ⟨hp9, hg9⟩ := ok9
  dsimp only at hp9 hg9 ⊢
  have hp9' : c9.p ≤ 40 := hp9
  have hpl := placesB_len hg9
  have hgz := good_size hg9
  refine sq_plain rfl rfl rfl (w_call rfl Tryz.call32 rfl (l20Text_spec p (by omega) hg9) (evl_cons (ev_tmp rfl) evl_nil)) ?_
  refine sq_plain rfl rfl rfl (w_assign rfl (ev_tmp rfl)) ?_
  refine sq_nil ?_
  refine awp_seq ?_
  refine awp_seq ?_
  refine awp_region ?_
  refine sq_plain rfl rfl rfl (w_move rfl (ev_tmp rfl)) ?_
  refine sq_callG [0] rfl rfl rfl rfl Tryz.call34 rfl (curOne_own _ _ hcode _ _ (by omega) (by omega)) (evl_cons (ev_tmp rfl) (evl_cons ev_ci evl_nil)) rfl ?_
  intro x12 ok12
  refine sq_nil ?_
  refine awp_cond (ev_tmp rfl) ?_ ?_
  · intro h12
    refine awp_region ?_
    refine sq_plain rfl rfl rfl (w_move rfl (ev_tmp rfl)) ?_
    refine sq_plain rfl rfl rfl (w_move rfl (ev_tmp rfl)) ?_
    refine sq_callG [0] rfl rfl rfl rfl Tryz.call35 rfl (curSpoilt_own _ _ hcode _ (placesB p) _ (by omega) (by decide) (by omega)) (evl_cons (ev_tmp rfl) (evl_cons (ev_tmp rfl) (evl_cons (ev_cs' (l := [97, 124, 48, 32, 49]) rfl) evl_nil))) rfl ?_
    intro x15 ok15
    refine sq_plain rfl rfl rfl (w_assign rfl (ev_tmp rfl)) ?_
    refine sq_nil ?_
    refine awp_seq ?_
    refine awp_region ?_
    refine sq_plain rfl rfl rfl (w_move rfl (ev_tmp rfl)) ?_
    refine sq_plain rfl rfl rfl (w_assign rfl (ev_tmp rfl)) ?_
    refine sq_nil ?_
    refine awp_ret ?_
    (refine retG [] (x15.2) ?_ rfl (by first | (dsimp only; rfl) | rfl) (resR rfl (rv_tmp' rfl (by rfl))); first | omega | (have h9 := ok15.2; omega))
  · intro h12
    refine awp_skip ?_
    refine awp_seq ?_
    refine awp_region ?_
    refine sq_plain rfl rfl rfl (w_move rfl (ev_tmp rfl)) ?_
    refine sq_plain rfl rfl rfl (w_assign rfl (ev_tmp rfl)) ?_
    refine sq_nil ?_
    refine awp_ret ?_
    (refine retG [] (placesB p) ?_ rfl (by first | (dsimp only; rfl) | rfl) (resR rfl (rv_tmp' rfl (by rfl))); first | omega | (have h9 := ok15.2; omega))
end Go.Proofs.YtdgoejkijpllpaaGreatDoor

set_option linter.unusedVariables false
set_option linter.unusedSimpArgs false
set_option maxRecDepth 100000
namespace Go.Proofs.YtdgoejkijpllpaaGreatDoor
open Go Go.AV Go.M
open Go.ChangeShapes Go.WideShapes Go.ChangeAt Go.RowKit
theorem star : "*" ++ "errors.errorString" = "*errors.errorString" := by decide
theorem errRow (u : TypeId) (h : Tryz.prog.typeName? 3 u = some "*errors.errorString") : u = 117 :=
  typeName_ptr_named (nm := "errors.errorString") (by rw [star]; kernel_rfl) (by kernel_rfl) (by decide) u (by rw [star]; exact h)
theorem readW_of {W : World} (hL : laidMet Tryz.prog Rows.fnEndsRow.laid W) (hsh : W.ShapedOpen Tryz.prog) : readW W := by
  refine ⟨tabW_head (laidMet.tail (laidMet.tail hL)), ?_, ?_, ?_⟩
  · exact cell_of_shapedOpen_int (t := 3) (k := .i64) (zero := #[.int .i64 0]) hsh (of_decide_eq_true (by kernel_rfl)) (by kernel_rfl) rfl (by kernel_rfl) (by kernel_rfl) Tryz.underlying3
  · have h5 := laidMet.tail (laidMet.tail (laidMet.tail (laidMet.tail (laidMet.tail hL))))
    obtain ⟨a, s, h, _⟩ := laid_sentinel (n := "strconv.ErrSyntax") (g := 1) (ti := 72) h5 (by kernel_rfl) (by kernel_rfl) Tryz.underlying72 errRow Tryz.underlying117 Tryz.underlying119 rfl rfl Tryz.underlying9 (by kernel_rfl) (by kernel_rfl)
    exact ⟨_, _, h⟩
  · have h4 := laidMet.tail (laidMet.tail (laidMet.tail (laidMet.tail hL)))
    obtain ⟨a, s, h, _⟩ := laid_sentinel (n := "strconv.ErrRange") (g := 2) (ti := 72) h4 (by kernel_rfl) (by kernel_rfl) Tryz.underlying72 errRow Tryz.underlying117 Tryz.underlying119 rfl rfl Tryz.underlying9 (by kernel_rfl) (by kernel_rfl)
    exact ⟨_, _, h⟩
end Go.Proofs.YtdgoejkijpllpaaGreatDoor
