/- Texts of the claim, part 7. -/
import Derived.Test.YtcfkbhnpfjjmjaaGreatZSeen6
set_option linter.unusedVariables false
set_option linter.unusedSimpArgs false
set_option maxRecDepth 100000
set_option maxHeartbeats 4000000
namespace Go.M
open Go.AV
theorem Am7 {P : Str → Prop} {got : List G5} : ∀ {l : List TOp} {buf : List A9}, (∀ o ∈ l, P o.Key) → (∀ w ∈ buf, P w.Key) → ∀ w ∈ (stepFrom got buf l).2.2, P w.Key
  | [], buf, _, hb => hb
  | o :: l, buf, ho, hb => by
    unfold stepFrom
    split
    · intro w hw; cases hw
    · split
      · intro w hw; cases hw
      · refine Am7 (fun x hx => ho x (List.mem_cons_of_mem _ hx)) fun w hw => ?_
        have hm : w.Key ∈ O8 (opPut o (E1 buf got o.Key).1 (E1 buf got o.Key).2.1 buf) := List.mem_map.2 ⟨w, hw, rfl⟩
        rcases Bz4 hm with e | e
        · rw [e]; exact ho o List.mem_cons_self
        · obtain ⟨z, hz, e⟩ := List.mem_map.1 e
          rw [← e]; exact hb z hz
theorem Ak7 {l : List TOp} {got : List G5} (h : ∀ o ∈ l, o.Key ∈ keyD) : ∀ w ∈ (N0 l got).2.2, w.Key ∈ keyD := Am7 h fun w hw => by cases hw
theorem BY3 : ∀ {got : List G5} {a : List Str}, sizeL (fun s : Str => s.length) (got.foldl (fun a g => putS a g.Key) a) ≤ sizeL (fun s : Str => s.length) a + sizeL G5.size got
  | [], a => by simp [sizeL]
  | g :: got, a => by
    rw [List.foldl_cons, P7]
    have h1 := BY3 (got := got) (a := putS a g.Key)
    have h2 := BW8 g.Key a
    have h3 : g.Key.length ≤ g.size := by unfold G5.size; omega
    omega
theorem At2.sizes {n : Nat} {c : Int} {t : A3} (h : At2 n c t) : sizeL (fun s : Str => s.length) (readsR t.Got) + sizeL A9.size (N0 t.Ops t.Got).2.2 ≤ 1000 := by
  have h1 := BY3 (got := t.Got) (a := [])
  have h2 := c4 (f := G5.size) (c := 64) (l := t.Got) h.got.2
  have h3 : t.Got.length * (64 + 1) ≤ 8 * 65 := Nat.mul_le_mul_right _ h.got.1
  have hr := ran (got := t.Got) (n := 36) D3 (AF6 h.ops.1)
  have h4 := c4 (f := A9.size) (c := 36) (l := (N0 t.Ops t.Got).2.2) hr.size
  have h5 : t.Ops.length ≤ 8 := by have h9 := h.ops.1; unfold goodOps at h9; rw [Bool.and_eq_true, decide_eq_true_eq] at h9; have := h9.1; omega
  have h6 : (N0 t.Ops t.Got).2.2.length * (36 + 1) ≤ 8 * 37 := Nat.mul_le_mul_right _ (by have := hr.len; omega)
  have h7 : sizeL (fun s : Str => s.length) (readsR t.Got) ≤ sizeL G5.size t.Got := by unfold readsR; have h8 : sizeL (fun s : Str => s.length) ([] : List Str) = 0 := rfl; omega
  omega
theorem BD1 {w : TWorld} (hw : WI w) {p : Int} (h : 0 ≤ p ∧ p ≤ w.Cuts.length) : ∃ gi, w.Groups[p.toNat]? = some gi := get_some (by have := hw.cuts.1; omega)
def BL8 (t : A3) (c : Int) : A3 := { t with End := c }
theorem wf_end {w : TWorld} (hw : WI w) {i : Nat} {t : A3} (ht : w.Txns[i]? = some t) (hq : 0 ≤ t.Begin ∧ t.Begin < w.Count) : WF w (wTxn w i (BL8 t w.Count)) := by
  have h := hw.txns.2 t (C4 ht)
  have h2 := AS0 hw (i := i) (t := BL8 t w.Count) ⟨h.terms, h.ops, h.got, h.span.1, .inr ⟨hq.1, hq.2, Int.le_refl _⟩⟩
  exact ⟨h2.1, h2.2, rfl, rfl⟩
end Go.M
namespace Go.Proofs.YtcfkbhnpfjjmjaaGreat
open Go Go.AV Go.M
attribute [local irreducible] OpW OpA OpS AWP B9 J2 C9 OpE RetOk H0 I6 Le Ev F1 J8 V9 Int.tmod Int.tdiv IntKind.wrap bandI
theorem CD4 (b : Nat) (w : TWorld) (X : WX) (T : List (Value × Value)) (L : List Value) (t : Int) (hw : WI w) (hq : ∀ tx, w.Txns[(t - 1).toNat]? = some tx → 0 ≤ tx.Begin ∧ tx.Begin < w.Count) (hT : T.length = w.Txns.length) (ht : 1 ≤ t ∧ (t - 1).toNat < w.Txns.length) : C9 Tryz.prog 213 [AV.ptr b 0, AV.int t] (WB b w X T L) (fun v : TWorld × Bool => WI v.1 ∧ WS w v.1) (fun v => WB b v.1 X T L) (fun v => AV.bool v.2) := by
 have hng := hw.n
 have htn := hw.txns.1
 obtain ⟨tx, htx⟩ := get_some ht.2
 obtain ⟨y, hy⟩ := get_some (show (t - 1).toNat < T.length by omega)
 have htk := hw.txns.2 tx (C4 htx)
 have hz := htk.sizes
 have hk := Ak7 (got := tx.Got) htk.ops.2
 have hgl1 := htk.got.1
 have hpl : (o8 w.Cuts tx).length ≤ 1000 := by
  have h1 := BI9 w.Cuts (keysI (readsR tx.Got ++ O8 (N0 tx.Ops tx.Got).2.2))
  have h2 := AZ8 (readsR tx.Got ++ O8 (N0 tx.Ops tx.Got).2.2)
  have h3 := AN4 (f := fun s : Str => s.length) (l := readsR tx.Got)
  have h4 := AN4 (f := A9.size) (l := (N0 tx.Ops tx.Got).2.2)
  rw [G3, show (O8 (N0 tx.Ops tx.Got).2.2).length = (N0 tx.Ops tx.Got).2.2.length from A5 ..] at h2
  unfold o8
  omega
 refine C6 Tryz.func213 rfl Tryz.ntmps213 rfl ?_
 refine R5 ?_
 refine AWP.le (N4 7 (t := ([Go.AV.Own.arr y.1 45 3 (tx.Got.map G5.cs), Go.AV.Own.arr y.2 3 1 (tx.Terms.map fun n => [AV.int n])]) ++ (nin A3.ow (w.Txns.eraseIdx (t - 1).toNat) (T.eraseIdx (t - 1).toNat) ++ nin A2.ow w.Looks L)) (r6 htx hy)) ?_
 refine M3 _ [(0, false), (1, false), (2, false), (3, false), (4, false), (5, false), (6, false), (7, false), (8, false), (9, false), (10, false), (11, false), (12, false), (13, false), (14, true), (15, false), (16, false), (17, false), (18, false), (19, false), (20, false), (21, false), (22, false)] F2 F2 rfl (O2 7) ?_
 refine R12 ?_
 refine M4 rfl rfl rfl (fun ext => E8 5 rfl K0 N7 (A0 rfl) rfl (A0 rfl) qz8 AL7) ?_
 refine M4 rfl rfl rfl (fun ext => W9 5 rfl (A0 rfl) rfl Tryz.isAgg143 N7 qz2 D3) ?_
 refine Q0 rfl rfl rfl (Y2 7 (O3 [7, 7] rfl Tryz.call128 rfl (BY2 w.Cuts tx y htk.sb) (A1 (A0 rfl) (A1 (A0 rfl) A7)) rfl)) (fun a _ => qz4) ?_
 intro x31 ok31
 refine R13 ?_
 refine AWP.le (C1 [0, 0, 0, 0, 0, 0, 0, 0, 0] rfl) ?_
 refine AWP.le (N4 7 (t := nin A3.ow w.Txns T ++ nin A2.ow w.Looks L) ((r6 htx hy).symm)) ?_
 refine I3 t6 ?_
 refine R4 ?_
 refine A6 (A0 rfl) ?_ ?_
 ·intro h37
  refine R5 ?_
  exact H3 [0, 0, 0, 0, 0, 0, 0] 0 (nin A3.ow w.Txns T ++ nin A2.ow w.Looks L) [] ((w, false)) (qz74) rfl (show List.Perm (nin A3.ow w.Txns T ++ nin A2.ow w.Looks L) ((nin A3.ow w.Txns T ++ nin A2.ow w.Looks L) ++ []) from B5) B0 (E4 rfl (A8 rfl B0))
 intro h37
 have hso : AH9 tx = true := (by simpa using h37)
 obtain ⟨p0, hp0⟩ := BY1 (cuts := w.Cuts) hso
 have hpr := BQ3 (C4 hp0)
 obtain ⟨g0, hx0⟩ := BD1 hw hpr
 refine R7 ?_
 refine A4 rfl (C7 rfl B4 B6 (A0 rfl) D8 hp0 qz3) ?_
 refine R1 ?_
 refine I1 [0, 0, 0, 0, 0, 0, 0] 0 7 (nin A3.ow w.Txns T ++ nin A2.ow w.Looks L) ([]) (fun zz => nin A3.ow zz.1.Txns T ++ nin A2.ow zz.1.Looks L) rfl rfl rfl rfl Tryz.call228 rfl rfl (show List.Perm (nin A3.ow w.Txns T ++ nin A2.ow w.Looks L) ((nin A3.ow w.Txns T ++ nin A2.ow w.Looks L) ++ ([])) from B5) (Bl1 b w X T L t p0 g0 hw hq hT ht hpr.1 hx0) (A1 (A0 rfl) (A1 (A0 rfl) (A1 (A0 rfl) A7))) (fun a => J7) ?_
 intro x44 ok44
 refine R7 ?_
 refine I3 t6 ?_
 refine R3 ?_
 refine A6 (A0 rfl) ?_ ?_
 ·intro h47
  refine R6 ?_
  exact H3 [0, 0, 0, 0, 0, 0, 0] 0 (nin A3.ow x44.1.Txns T ++ nin A2.ow x44.1.Looks L) [] ((x44.1, x44.2.1)) (qz74) rfl (show List.Perm (nin A3.ow x44.1.Txns T ++ nin A2.ow x44.1.Looks L) ((nin A3.ow x44.1.Txns T ++ nin A2.ow x44.1.Looks L) ++ []) from B5) B0 (E4 rfl (A8 rfl B0))
 intro h47
 refine R3 ?_
 refine P1 3 1 rfl rfl rfl rfl G8 ?_
 intro v11
 refine R9 ?_
 refine AWP.le (C1 [0] rfl) ?_
 refine Q4 [(0, _), (1, _), (5, _), (6, _), (7, _), (49, _), (50, _)] _ (fun (i : Nat) (tm : List Int) (u : Value) => i ≤ (o8 w.Cuts tx).length ∧ tm.length = i) (fun (i : Nat) (tm : List Int) (u : Value) => [.arr u 3 1 (tm.map fun n => [AV.int n])]) (fun (i : Nat) (tm : List Int) (u : Value) => [(11, AV.is u), (51, AV.int i)]) (fun (i : Nat) (tm : List Int) (u : Value) => (o8 w.Cuts tx).length - i) (0) ([]) (v11) ?_ (H7 B0 ⟨rfl, rfl, rfl, rfl, rfl, rfl, rfl, rfl, rfl, trivial⟩) ?_
 ·exact ⟨Nat.zero_le _, rfl⟩
 intro i tm u hinv
 refine R5 ?_
 refine A6 (A0 rfl) ?_ ?_
 ·intro h52
  have k52 := of_decide_eq_true h52; try simp only [A5] at k52
  have hlt : i < (o8 w.Cuts tx).length := (by simpa using h52)
  obtain ⟨p, hp⟩ := get_some hlt
  have hpi := BQ3 (C4 hp)
  obtain ⟨gp, hxp⟩ := BD1 ok44.wi (by rw [ok44.ws.cuts]; exact hpi)
  have hgp := ok44.wi.groups gp (C4 hxp)
  have hgpl := (List.getElem?_eq_some_iff.1 hxp).1
  have hsh := (BU8 hgp.good).hlen
  have hTv : T.length = x44.1.Txns.length := hT.trans ok44.ws.txns.symm
  have htv : (t - 1).toNat < x44.1.Txns.length := qz8
  refine R5 ?_
  refine A4 rfl (C7 rfl B4 B6 (A0 rfl) (A0 rfl) hp qz3) ?_
  refine R11 ?_
  refine A4 rfl (E8 3 rfl G7 C8 (A0 rfl) rfl (A0 rfl) qz8 AL7) ?_
  refine A4 rfl (W9 3 rfl (A0 rfl) rfl J9 C8 (by first | exact (L9 hxp) | exact B3 ((L9 hxp)) | exact B3 (B3 ((L9 hxp))) | exact B3 (B3 (B3 ((L9 hxp)))) | exact B3 (B3 (B3 (B3 ((L9 hxp))))) | exact B3 (B3 (B3 (B3 (B3 ((L9 hxp))))))) D3) ?_
  refine A4 rfl (B2 rfl Tryz.call146 rfl (As0 gp hgp.good) (A1 (A0 rfl) A7)) ?_
  refine R1 ?_
  refine A4 rfl (B2 rfl Tryz.call219 rfl (AE0 (AH8 gp) t qz8) (A1 (A0 rfl) (A1 (A0 rfl) A7))) ?_
  refine R4 ?_
  intro b14
  refine R9 ?_
  refine A6 (A0 rfl) ?_ ?_
  ·intro h70
   refine R6 ?_
   refine A4 rfl (C7 rfl B4 B6 (A0 rfl) D8 hp0 qz3) ?_
   refine R3 ?_
   refine I1 [2, 2, 2, 2, 2, 2, 2] 2 7 (nin A3.ow x44.1.Txns T ++ nin A2.ow x44.1.Looks L) ([]) (fun zz => nin A3.ow zz.1.Txns T ++ nin A2.ow zz.1.Looks L) rfl rfl rfl rfl Tryz.call232 rfl rfl (show List.Perm (nin A3.ow x44.1.Txns T ++ nin A2.ow x44.1.Looks L) ((nin A3.ow x44.1.Txns T ++ nin A2.ow x44.1.Looks L) ++ ([])) from B5) (Bs1 b x44.1 X T L t p p0 (readsR tx.Got) (N0 tx.Ops tx.Got).2.2 gp ok44.wi hTv ⟨ht.1, htv⟩ hpi.1 hxp hz hk) (A1 (A0 rfl) (A1 (A0 rfl) (A1 (A0 rfl) (A1 (A0 rfl) (A1 (A0 rfl) (A1 (A0 rfl) A7)))))) (fun a => J7) ?_
   intro x79 ok79
   refine R3 ?_
   exact H3 [0, 0, 0, 0, 0, 0, 0] 2 (nin A3.ow x79.1.Txns T ++ nin A2.ow x79.1.Looks L) [] ((x79.1, x79.2)) (qz74) rfl (show List.Perm (nin A3.ow x79.1.Txns T ++ nin A2.ow x79.1.Looks L) ((nin A3.ow x79.1.Txns T ++ nin A2.ow x79.1.Looks L) ++ []) from B5) B0 (E4 rfl (A8 rfl B0))
  intro h70
  refine R6 ?_
  refine F6 (by' := 8) 1 rfl rfl rfl rfl B4 Tryz.type3 rfl rfl rfl rfl rfl rfl (A0 rfl) (A0 rfl) rfl AV6 ?_
  intro v84_1
  refine R6 ?_
  refine L7 i tm u (i + 1) (tm ++ [(heldFO (AH8 gp).Held t).1.Time]) (v84_1) ?_ ?_ (Le.trans (C1 [0, 0] rfl) (E0 1 AY2 ⟨rfl, rfl, rfl, rfl, rfl, rfl, rfl, rfl, rfl, trivial⟩))
  ·exact ⟨by omega, by rw [G3, hinv.2]; rfl⟩
  omega
 intro h52
 have k52 := of_decide_eq_false h52; try simp only [A5] at k52
 refine R2 ?_
 refine I3 t6 ?_
 refine R4 ?_
 refine A4 rfl (C7 rfl B4 B6 (A0 rfl) D8 hp0 qz3) ?_
 refine R2 ?_
 refine I1 [0, 0, 0, 0, 0, 0, 0, 0] 0 8 (nin A3.ow x44.1.Txns T ++ nin A2.ow x44.1.Looks L) ([]) (fun zz => nin A3.ow x44.1.Txns T ++ nin A2.ow x44.1.Looks L) rfl rfl rfl rfl Tryz.call229 rfl rfl (show List.Perm (nin A3.ow x44.1.Txns T ++ nin A2.ow x44.1.Looks L) ((nin A3.ow x44.1.Txns T ++ nin A2.ow x44.1.Looks L) ++ ([])) from B5) (Bs2 u b x44.1 X T L t p0 true tm g0 qz8 ok44.wi hpr.1 (by rw [ok44.gr]; exact hx0)) (A1 (A0 rfl) (A1 (A0 rfl) (A1 (A0 rfl) (A1 t0 (A1 (A0 rfl) A7))))) (fun a => J7) ?_
 intro x92 ok92
 refine R3 ?_
 exact H3 [1, 1, 1, 1, 1, 1, 1] 1 (nin A3.ow x44.1.Txns T ++ nin A2.ow x44.1.Looks L) [] ((wGroup x44.1 p0.toNat x92.1, x92.2)) (qz74) rfl (show List.Perm (nin A3.ow x44.1.Txns T ++ nin A2.ow x44.1.Looks L) ((nin A3.ow x44.1.Txns T ++ nin A2.ow x44.1.Looks L) ++ []) from B5) B0 (E4 rfl (A8 rfl B0))
theorem dead_own (b : Nat) (w : TWorld) (X : WX) (T : List (Value × Value)) (L : List Value) (t : Int) (hw : WI w) (hq : ∀ tx, w.Txns[(t - 1).toNat]? = some tx → 0 ≤ tx.Begin ∧ tx.Begin < w.Count) (hT : T.length = w.Txns.length) (ht : 1 ≤ t ∧ (t - 1).toNat < w.Txns.length) : C9 Tryz.prog 210 [AV.ptr b 0, AV.int t] (WB b w X T L) (fun v : TWorld × Bool => WI v.1 ∧ WS w v.1) (fun v => WB b v.1 X T L) (fun v => AV.bool v.2) := by
 have hng := hw.n
 have htn := hw.txns.1
 obtain ⟨tx, htx⟩ := get_some ht.2
 obtain ⟨y, hy⟩ := get_some (show (t - 1).toNat < T.length by omega)
 have htk := hw.txns.2 tx (C4 htx)
 have hwf := wf_end hw htx (hq tx htx)
 obtain ⟨W', hW⟩ : ∃ W', wTxn w (t - 1).toNat (BL8 tx w.Count) = W' := ⟨_, rfl⟩
 rw [hW] at hwf
 have hfr := Ak5 b W' X T L t hwf.wi
 refine C6 Tryz.func210 rfl Tryz.ntmps210 rfl ?_
 refine R13 ?_
 refine A4 rfl (E8 5 rfl K0 N7 (A0 rfl) rfl (A0 rfl) qz8 AL7) ?_
 refine R6 ?_
 refine A4 rfl (S8 5 rfl (A0 rfl) rfl qz2 rfl) ?_
 refine A4 rfl (I9 5 rfl H6 rfl N9 (A0 rfl) rfl rfl qz2) ?_
 refine A4 rfl (K1 5 rfl (A0 rfl) rfl g9 qz2 rfl) ?_
 refine R2 ?_
 refine A6 (A0 rfl) ?_ ?_
 ·intro h24
  refine R8 ?_
  refine A4 rfl (S8 5 rfl (A0 rfl) rfl qz2 rfl) ?_
  refine A4 rfl (I9 5 rfl H6 rfl B6 (A0 rfl) rfl rfl qz2) ?_
  refine T1 5 rfl rfl rfl (A0 rfl) (A0 rfl) (Q1 _ _) rfl B6 qz2 rfl ?_
  refine R2 ?_
  refine I3 (show _ = WB b W' X T L from (by rw [← hW]; unfold WB wTxn; dsimp only; rw [j7 htx hy, AE4 (p' := BL8 tx w.Count) htx (fun _ => rfl)]; rfl)) ?_
  refine R3 ?_
  refine I1 [0, 0, 0, 0, 0, 0, 0] 0 7 (nin A3.ow W'.Txns T ++ nin A2.ow W'.Looks L) ([]) (fun zz => nin A3.ow W'.Txns T ++ nin A2.ow W'.Looks L) rfl rfl rfl rfl Tryz.call198 rfl rfl (show List.Perm (nin A3.ow W'.Txns T ++ nin A2.ow W'.Looks L) ((nin A3.ow W'.Txns T ++ nin A2.ow W'.Looks L) ++ ([])) from B5) (hfr) (A1 (A0 rfl) (A1 (A0 rfl) A7)) (fun a => J7) ?_
  intro x35 ok35
  refine R6 ?_
  exact H3 [0, 0, 0, 0, 0, 0, 0] 0 (nin A3.ow W'.Txns T ++ nin A2.ow W'.Looks L) [] ((r9 W' x35, true)) (qz68) rfl (show List.Perm (nin A3.ow W'.Txns T ++ nin A2.ow W'.Looks L) ((nin A3.ow W'.Txns T ++ nin A2.ow W'.Looks L) ++ []) from B5) B0 (E4 rfl (A8 rfl B0))
 intro h24
 refine R2 ?_
 refine AWP.le (N4 7 (t := ([Go.AV.Own.arr y.1 45 3 (tx.Got.map G5.cs), Go.AV.Own.arr y.2 3 1 (tx.Terms.map fun n => [AV.int n])]) ++ (nin A3.ow (w.Txns.eraseIdx (t - 1).toNat) (T.eraseIdx (t - 1).toNat) ++ nin A2.ow w.Looks L)) (r6 htx hy)) ?_
 refine M3 _ [(0, false), (1, false), (2, false), (3, false), (4, false), (5, false), (6, false), (7, false), (8, true), (9, false), (10, false), (11, false), (12, false), (13, false), (14, false), (15, false), (16, false)] F2 F2 rfl (O2 7) ?_
 refine R6 ?_
 refine M4 rfl rfl rfl (fun ext => S8 5 rfl (A0 rfl) rfl qz2 rfl) ?_
 refine M4 rfl rfl rfl (fun ext => W9 5 rfl (A0 rfl) rfl Tryz.isAgg143 N7 qz2 D3) ?_
 refine Q0 rfl rfl rfl (Y2 7 (O3 [7, 7] rfl Tryz.call128 rfl (BY2 w.Cuts tx y htk.sb) (A1 (A0 rfl) (A1 (A0 rfl) A7)) rfl)) (fun a _ => qz4) ?_
 intro x45 ok45
 refine R13 ?_
 refine AWP.le (C1 [0, 0, 0, 0, 0, 0, 0, 0, 0] rfl) ?_
 refine AWP.le (N4 7 (t := nin A3.ow w.Txns T ++ nin A2.ow w.Looks L) ((r6 htx hy).symm)) ?_
 refine I3 t6 ?_
 refine R4 ?_
 refine A6 (A0 rfl) ?_ ?_
 ·intro h51
  refine R5 ?_
  exact H3 [0, 0, 0, 0, 0, 0, 0] 0 (nin A3.ow w.Txns T ++ nin A2.ow w.Looks L) [] ((w, false)) (qz68) rfl (show List.Perm (nin A3.ow w.Txns T ++ nin A2.ow w.Looks L) ((nin A3.ow w.Txns T ++ nin A2.ow w.Looks L) ++ []) from B5) B0 (E4 rfl (A8 rfl B0))
 intro h51
 have hso : AH9 tx = true := (by simpa using h51)
 obtain ⟨p0, hp0⟩ := BY1 (cuts := w.Cuts) hso
 have hpr := BQ3 (C4 hp0)
 obtain ⟨g0, hx0⟩ := BD1 hw hpr
 refine R7 ?_
 refine A4 rfl (C7 rfl B4 B6 (A0 rfl) D8 hp0 qz3) ?_
 refine R1 ?_
 refine I1 [0, 0, 0, 0, 0, 0, 0] 0 7 (nin A3.ow w.Txns T ++ nin A2.ow w.Looks L) ([]) (fun zz => nin A3.ow zz.1.Txns T ++ nin A2.ow zz.1.Looks L) rfl rfl rfl rfl Tryz.call228 rfl rfl (show List.Perm (nin A3.ow w.Txns T ++ nin A2.ow w.Looks L) ((nin A3.ow w.Txns T ++ nin A2.ow w.Looks L) ++ ([])) from B5) (Bl1 b w X T L t p0 g0 hw hq hT ht hpr.1 hx0) (A1 (A0 rfl) (A1 (A0 rfl) (A1 (A0 rfl) A7))) (fun a => J7) ?_
 intro x58 ok58
 refine R7 ?_
 refine I3 t6 ?_
 refine R3 ?_
 refine A6 (A0 rfl) ?_ ?_
 ·intro h61
  refine R6 ?_
  exact H3 [0, 0, 0, 0, 0, 0, 0] 0 (nin A3.ow x58.1.Txns T ++ nin A2.ow x58.1.Looks L) [] ((x58.1, x58.2.1)) (qz68) rfl (show List.Perm (nin A3.ow x58.1.Txns T ++ nin A2.ow x58.1.Looks L) ((nin A3.ow x58.1.Txns T ++ nin A2.ow x58.1.Looks L) ++ []) from B5) B0 (E4 rfl (A8 rfl B0))
 intro h61
 refine R6 ?_
 refine A4 rfl (C7 rfl B4 B6 (A0 rfl) D8 hp0 qz3) ?_
 refine R1 ?_
 refine I1 [0, 0, 0, 0, 0, 0, 0] 0 7 (nin A3.ow x58.1.Txns T ++ nin A2.ow x58.1.Looks L) ([]) (fun zz => nin A3.ow x58.1.Txns T ++ nin A2.ow x58.1.Looks L) rfl rfl rfl rfl Tryz.call229 rfl rfl (show List.Perm (nin A3.ow x58.1.Txns T ++ nin A2.ow x58.1.Looks L) ((nin A3.ow x58.1.Txns T ++ nin A2.ow x58.1.Looks L) ++ ([])) from B5) (CD3 b x58.1 X T L t p0 false [] g0 ok58.wi hpr.1 (by rw [ok58.gr]; exact hx0)) (A1 (A0 rfl) (A1 (A0 rfl) (A1 (A0 rfl) (A1 t0 (A1 O6 A7))))) (fun a => J7) ?_
 intro x68 ok68
 refine R3 ?_
 exact H3 [0, 0, 0, 0, 0, 0, 0] 0 (nin A3.ow x58.1.Txns T ++ nin A2.ow x58.1.Looks L) [] ((wGroup x58.1 p0.toNat x68.1, x68.2)) (qz68) rfl (show List.Perm (nin A3.ow x58.1.Txns T ++ nin A2.ow x58.1.Looks L) ((nin A3.ow x58.1.Txns T ++ nin A2.ow x58.1.Looks L) ++ []) from B5) B0 (E4 rfl (A8 rfl B0))
end Go.Proofs.YtcfkbhnpfjjmjaaGreat
namespace Go.M
open Go.AV
theorem CD5 {s : G2} (g : GS s) (n : Int) : 0 ≤ (heldFO s.Held n).1.Lead ∧ (heldFO s.Held n).1.Lead ≤ 3 := by
  unfold heldFO
  cases hf : findH s.Held n with
  | none => exact ⟨Int.le_refl 0, by decide⟩
  | some h =>
    have h1 := (g.good h (AT8 hf).1).1
    unfold goodRec good1 hRec at h1
    rw [if_pos rfl] at h1
    simp only [Bool.and_eq_true] at h1
    have h2 := h1.1.1.1.1.1.1.2
    unfold within at h2
    rw [Bool.and_eq_true, decide_eq_true_eq, decide_eq_true_eq] at h2
    exact h2
end Go.M
namespace Go.Proofs.YtcfkbhnpfjjmjaaGreat
open Go Go.AV Go.M
attribute [local irreducible] OpW OpA OpS AWP B9 J2 C9 OpE RetOk H0 I6 Le Ev F1 J8 V9 Int.tmod Int.tdiv IntKind.wrap bandI
theorem Bl2 (b : Nat) (w : TWorld) (X : WX) (T : List (Value × Value)) (L : List Value) (g t : Int) (gi : TGroup) (hw : WI w) (h0 : 0 ≤ g) (hx : w.Groups[g.toNat]? = some gi) : C9 Tryz.prog 214 [AV.ptr b 0, AV.int g, AV.int t] (WB b w X T L) (fun v : TWorld × Bool => WI v.1 ∧ WS w v.1) (fun v => WB b v.1 X T L) (fun v => AV.bool v.2) := by
 have hng := hw.n
 have hgi := hw.groups gi (C4 hx)
 have hgl := (List.getElem?_eq_some_iff.1 hx).1
 refine C6 Tryz.func214 rfl Tryz.ntmps214 rfl ?_
 refine R13 ?_
 refine A4 rfl (E8 2 rfl G7 C8 (A0 rfl) rfl (A0 rfl) AC2 (by first | (simp only [A5]; omega) | (simp at hc ⊢; omega))) ?_
 refine A4 rfl (W9 2 rfl (A0 rfl) rfl J9 C8 qz96 D3) ?_
 refine A4 rfl (B2 rfl Tryz.call200 rfl (i7 gi hgi.good) (A1 (A0 rfl) A7)) ?_
 refine R2 ?_
 refine A6 (A0 rfl) ?_ ?_
 ·intro h22
  refine R5 ?_
  exact H3 [0, 0, 0, 0, 0, 0, 0] 0 (nin A3.ow w.Txns T ++ nin A2.ow w.Looks L) [] ((w, false)) (BN1) rfl (show List.Perm (nin A3.ow w.Txns T ++ nin A2.ow w.Looks L) ((nin A3.ow w.Txns T ++ nin A2.ow w.Looks L) ++ []) from B5) B0 (E4 rfl (A8 rfl B0))
 intro h22
 have hrd : o6 gi = true := Af1
 have hl := j6 hrd
 have hgs := m9 hgi.good hl
 have htl := hgs.tlen
 have hhl := hgs.hlen
 have hhs := AE0 (leadFull gi) t qz8
 have hld := CD5 hgs t
 obtain ⟨H, hH⟩ : ∃ H, heldFO (leadFull gi).Held t = H := ⟨_, rfl⟩
 rw [hH] at hhs hld
 obtain ⟨gl, hgx⟩ : ∃ gl : TGroup, H.1.Lead.toNat < w.Groups.length → w.Groups[H.1.Lead.toNat]? = some gl := ⟨(w.Groups[H.1.Lead.toNat]?).getD gi, fun h9 => by rw [List.getElem?_eq_getElem h9]; rfl⟩
 refine R5 ?_
 refine A4 rfl (X0 [0, 0, 0, 0, 0, 0, 0] 0 (nin A3.ow w.Txns T ++ nin A2.ow w.Looks L) ([]) rfl Tryz.call180 rfl rfl (B5) (y7 b w X T L g gi hx h0 hgi.good hl) (A1 (A0 rfl) (A1 (A0 rfl) A7))) ?_
 refine R1 ?_
 refine A4 rfl (B2 rfl Tryz.call219 rfl (hhs) (A1 (A0 rfl) (A1 (A0 rfl) A7))) ?_
 refine R4 ?_
 intro b7
 refine R5 ?_
 refine I3 t6 ?_
 refine R22 ?_
 refine L2 rfl (S2 rfl rfl rfl) (fun hc => E8 3 rfl G7 C8 (B1 rfl hc) rfl (B1 rfl hc) AC2 (by first | (simp only [A5]; omega) | (simp at hc ⊢; omega))) ?_
 refine L2 rfl (S2 rfl rfl rfl) (fun hc => W9 3 rfl (B1 rfl hc) rfl J9 C8 qz96 D3) ?_
 refine L2 rfl (S2 rfl rfl rfl) (fun hc => B2 rfl Tryz.call200 rfl (i7 gl (hw.groups gl (C4 (hgx (by simp at hc; omega)))).good) (A1 (B1 rfl hc) A7)) ?_
 refine R3 ?_
 refine A6 (A0 rfl) ?_ ?_
 ·intro h56
  refine R5 ?_
  exact H3 [1, 1, 1, 1, 1, 1, 1] 1 (nin A3.ow w.Txns T ++ nin A2.ow w.Looks L) [] ((w, false)) (BN1) rfl (show List.Perm (nin A3.ow w.Txns T ++ nin A2.ow w.Looks L) ((nin A3.ow w.Txns T ++ nin A2.ow w.Looks L) ++ []) from B5) B0 (E4 rfl (A8 rfl B0))
 intro h56
 have hfa : H.2 = true ∧ H.1.Lead.toNat < w.Groups.length ∧ o6 gl = true := (by simp at h56; exact ⟨h56.1.1, by omega, h56.2⟩)
 have hxl := hgx hfa.2.1
 have hgg := hw.groups gl (C4 hxl)
 have hll := j6 hfa.2.2
 have hsl := AI2 hgg.good hll
 have hfl := m9 hgg.good hll
 have hst := hsl.tlen
 have hft := hfl.tlen
 have hput := AF9 b w X T L g ⟨2, t, 0, 0, [], [], false⟩ gi hx h0 hgi (show (0 : Nat) ≤ 1000 from by decide) (fun w9 hw9 => by cases hw9)
 have hput2 := AF9 b w X T L g ⟨3, t, (toldFO (leadSure gl).Told t).1.Time, 0, [], [], (toldFO (leadSure gl).Told t).1.Yes⟩ gi hx h0 hgi (show (0 : Nat) ≤ 1000 from by decide) (fun w9 hw9 => by cases hw9)
 have hput3 := AF9 b w X T L H.1.Lead ⟨2, t, 0, 0, [], [], false⟩ gl hxl hld.1 hgg (show (0 : Nat) ≤ 1000 from by decide) (fun w9 hw9 => by cases hw9)
 refine R9 ?_
 refine A6 (A0 rfl) ?_ ?_
 ·intro h60
  have k60 := D1 h60; try simp only [A5] at k60
  refine R6 ?_
  refine I1 [1, 1, 1, 1, 1, 1, 1] 1 7 (nin A3.ow w.Txns T ++ nin A2.ow w.Looks L) ([]) (fun zz => nin A3.ow w.Txns T ++ nin A2.ow w.Looks L) rfl rfl rfl rfl Tryz.call178 rfl rfl (show List.Perm (nin A3.ow w.Txns T ++ nin A2.ow w.Looks L) ((nin A3.ow w.Txns T ++ nin A2.ow w.Looks L) ++ ([])) from B5) (hput) (A1 (A0 rfl) (A1 (A0 rfl) (A1 (q7 (A0 rfl) AL0) A7))) (fun a => J7) ?_
  intro x65 ok65
  refine R3 ?_
  exact H3 [0, 0, 0, 0, 0, 0, 0] 1 (nin A3.ow w.Txns T ++ nin A2.ow w.Looks L) [] ((wGroup w g.toNat x65.1, x65.2)) (BN1) rfl (show List.Perm (nin A3.ow w.Txns T ++ nin A2.ow w.Looks L) ((nin A3.ow w.Txns T ++ nin A2.ow w.Looks L) ++ []) from B5) B0 (E4 rfl (A8 rfl B0))
 intro h60
 have k60 := D5 h60; try simp only [A5] at k60
 refine R7 ?_
 refine A4 rfl (X0 [1, 1, 1, 1, 1, 1, 1] 1 (nin A3.ow w.Txns T ++ nin A2.ow w.Looks L) ([]) rfl Tryz.call202 rfl rfl (B5) (AK9 b w X T L H.1.Lead gl hxl hld.1 hgg.good hll) (A1 (A0 rfl) (A1 (A0 rfl) A7))) ?_
 refine R1 ?_
 refine A4 rfl (B2 rfl Tryz.call147 rfl (l7 (leadSure gl) t qz8) (A1 (A0 rfl) (A1 (A0 rfl) A7))) ?_
 refine R4 ?_
 intro b9
 refine R4 ?_
 refine I3 t6 ?_
 refine R3 ?_
 refine A6 (A0 rfl) ?_ ?_
 ·intro h75
  refine R10 ?_
  refine I1 [2, 2, 2, 2, 2, 2, 2] 2 7 (nin A3.ow w.Txns T ++ nin A2.ow w.Looks L) ([]) (fun zz => nin A3.ow w.Txns T ++ nin A2.ow w.Looks L) rfl rfl rfl rfl Tryz.call178 rfl rfl (show List.Perm (nin A3.ow w.Txns T ++ nin A2.ow w.Looks L) ((nin A3.ow w.Txns T ++ nin A2.ow w.Looks L) ++ ([])) from B5) (hput2) (A1 (A0 rfl) (A1 (A0 rfl) (A1 (q7 (A0 rfl) AL0) A7))) (fun a => J7) ?_
  intro x84 ok84
  refine R3 ?_
  exact H3 [0, 0, 0, 0, 0, 0, 0] 2 (nin A3.ow w.Txns T ++ nin A2.ow w.Looks L) [] ((wGroup w g.toNat x84.1, x84.2)) (BN1) rfl (show List.Perm (nin A3.ow w.Txns T ++ nin A2.ow w.Looks L) ((nin A3.ow w.Txns T ++ nin A2.ow w.Looks L) ++ []) from B5) B0 (E4 rfl (A8 rfl B0))
 intro h75
 refine R7 ?_
 refine A4 rfl (X0 [2, 2, 2, 2, 2, 2, 2] 2 (nin A3.ow w.Txns T ++ nin A2.ow w.Looks L) ([]) rfl Tryz.call180 rfl rfl (B5) (y7 b w X T L H.1.Lead gl hxl hld.1 hgg.good hll) (A1 (A0 rfl) (A1 (A0 rfl) A7))) ?_
 refine R1 ?_
 refine A4 rfl (B2 rfl Tryz.call147 rfl (l7 (leadFull gl) t qz8) (A1 (A0 rfl) (A1 (A0 rfl) A7))) ?_
 refine R4 ?_
 intro b11
 refine R7 ?_
 refine A6 (A0 rfl) ?_ ?_
 ·intro h94
  refine R5 ?_
  refine I1 [3, 3, 3, 3, 3, 3, 3] 3 7 (nin A3.ow w.Txns T ++ nin A2.ow w.Looks L) ([]) (fun zz => nin A3.ow w.Txns T ++ nin A2.ow w.Looks L) rfl rfl rfl rfl Tryz.call184 rfl rfl (show List.Perm (nin A3.ow w.Txns T ++ nin A2.ow w.Looks L) ((nin A3.ow w.Txns T ++ nin A2.ow w.Looks L) ++ ([])) from B5) (AF8 b w X T L H.1.Lead gl hxl hld.1 hgg) (A1 (A0 rfl) (A1 (A0 rfl) A7)) (fun a => J7) ?_
  intro x98 ok98
  refine R6 ?_
  exact H3 [0, 0, 0, 0, 0, 0, 0] 3 (nin A3.ow w.Txns T ++ nin A2.ow w.Looks L) [] ((wGroup w H.1.Lead.toNat x98, true)) (BN1) rfl (show List.Perm (nin A3.ow w.Txns T ++ nin A2.ow w.Looks L) ((nin A3.ow w.Txns T ++ nin A2.ow w.Looks L) ++ []) from B5) B0 (E4 rfl (A8 rfl B0))
 intro h94
 refine R8 ?_
 refine I1 [3, 3, 3, 3, 3, 3, 3] 3 7 (nin A3.ow w.Txns T ++ nin A2.ow w.Looks L) ([]) (fun zz => nin A3.ow w.Txns T ++ nin A2.ow w.Looks L) rfl rfl rfl rfl Tryz.call178 rfl rfl (show List.Perm (nin A3.ow w.Txns T ++ nin A2.ow w.Looks L) ((nin A3.ow w.Txns T ++ nin A2.ow w.Looks L) ++ ([])) from B5) (hput3) (A1 (A0 rfl) (A1 (A0 rfl) (A1 (q7 (A0 rfl) AL0) A7))) (fun a => J7) ?_
 intro x104 ok104
 refine R3 ?_
 exact H3 [0, 0, 0, 0, 0, 0, 0] 3 (nin A3.ow w.Txns T ++ nin A2.ow w.Looks L) [] ((wGroup w H.1.Lead.toNat x104.1, x104.2)) (BN1) rfl (show List.Perm (nin A3.ow w.Txns T ++ nin A2.ow w.Looks L) ((nin A3.ow w.Txns T ++ nin A2.ow w.Looks L) ++ []) from B5) B0 (E4 rfl (A8 rfl B0))
theorem BJ8 (b : Nat) (w : TWorld) (X : WX) (T : List (Value × Value)) (L : List Value) (t : Int) (hw : WI w) : C9 Tryz.prog 197 [AV.ptr b 0, AV.int t] (WB b w X T L) (fun v : TWorld × Bool => WI v.1 ∧ WS w v.1) (fun v => WB b v.1 X T L) (fun v => AV.bool v.2) := by
 have hng := hw.n
 refine C6 Tryz.func197 rfl Tryz.ntmps197 rfl ?_
 refine R16 ?_
 refine AWP.le (C1 [0, 0, 0, 0, 0, 0, 0] rfl) ?_
 refine J0 [(0, _), (1, _), (11, _)] [] (fun (i : Nat) (v : TWorld) => i ≤ w.Groups.length ∧ WI v ∧ WS w v) (fun (i : Nat) (v : TWorld) => [.box b 199 [AV.int v.Now, AV.int v.Count, AV.is X.cl, strs v.Cuts, AV.is X.gr, AV.is X.lo, AV.is X.pr, AV.is X.tx, AV.is X.lk], .arr X.cl 234 1 (v.Clocks.map V6.cs), .arr X.gr 178 3 (v.Groups.map TGroup.cs), .arr X.lo 203 1 (v.Locks.map fun l => [AV.list 3 (l.map H8.cs)]), .arr X.pr 3 1 (v.Promised.map fun n => [AV.int n]), .arr X.tx 143 10 (nrows A3.ocs v.Txns T), .arr X.lk 152 6 (nrows A2.ocs v.Looks L)] ++ (nin A3.ow v.Txns T ++ nin A2.ow v.Looks L)) (fun (i : Nat) (v : TWorld) => [(12, AV.int i)]) (fun (i : Nat) (v : TWorld) => w.Groups.length - i) (0) (w) ?_ (H7 (by (rw [List.append_nil]; rfl)) ⟨rfl, rfl, rfl, rfl, trivial⟩) ?_
 ·exact ⟨Nat.zero_le _, hw, WS.refl w⟩
 intro i v hinv
 refine I3 (List.append_nil _) ?_
 refine R5 ?_
 refine A6 (A0 rfl) ?_ ?_
 ·intro h13
  have k13 := of_decide_eq_true h13; try simp only [A5] at k13
  have hlt : i < w.Groups.length := (by simpa using h13)
  obtain ⟨gi, hgi⟩ := get_some (show ((i : Nat) : Int).toNat < v.Groups.length by rw [hinv.2.2.groups]; omega)
  refine R13 ?_
  refine I1 [0, 0, 0, 0, 0, 0, 0] 0 7 (nin A3.ow v.Txns T ++ nin A2.ow v.Looks L) ([]) (fun zz => nin A3.ow zz.1.Txns T ++ nin A2.ow zz.1.Looks L) rfl rfl rfl rfl Tryz.call214 rfl rfl (show List.Perm (nin A3.ow v.Txns T ++ nin A2.ow v.Looks L) ((nin A3.ow v.Txns T ++ nin A2.ow v.Looks L) ++ ([])) from B5) (Bl2 b v X T L (i : Int) t gi hinv.2.1 qz8 hgi) (A1 (A0 rfl) (A1 (A0 rfl) (A1 (A0 rfl) A7))) (fun a => J7) ?_
  intro x18 ok18
  refine R1 ?_
  refine A6 (A0 rfl) ?_ ?_
  ·intro h18
   refine R5 ?_
   exact H3 [0, 0, 0, 0, 0, 0, 0] 0 (nin A3.ow x18.1.Txns T ++ nin A2.ow x18.1.Looks L) [] ((x18.1, true)) ((by first | exact ⟨ok18.1, hinv.2.2.trans ok18.2⟩ | exact hinv.2)) rfl (show List.Perm (nin A3.ow x18.1.Txns T ++ nin A2.ow x18.1.Looks L) ((nin A3.ow x18.1.Txns T ++ nin A2.ow x18.1.Looks L) ++ []) from B5) B0 (E4 rfl (A8 rfl B0))
  intro h18
  refine R5 ?_
  refine G4 i v (i + 1) (x18.1) ?_ ?_ (H7 (Eq.trans B0 (List.append_nil _).symm) ⟨rfl, rfl, rfl, rfl, trivial⟩)
  ·exact ⟨by omega, ok18.1, hinv.2.2.trans ok18.2⟩
  omega
 intro h13
 have k13 := of_decide_eq_false h13; try simp only [A5] at k13
 refine R6 ?_
 exact H3 [0, 0, 0, 0, 0, 0, 0] 0 (nin A3.ow v.Txns T ++ nin A2.ow v.Looks L) [] ((v, false)) ((by first | exact ⟨ok18.1, hinv.2.2.trans ok18.2⟩ | exact hinv.2)) rfl (show List.Perm (nin A3.ow v.Txns T ++ nin A2.ow v.Looks L) ((nin A3.ow v.Txns T ++ nin A2.ow v.Looks L) ++ []) from B5) B0 (E4 rfl (A8 rfl B0))
end Go.Proofs.YtcfkbhnpfjjmjaaGreat
namespace Go.M
open Go.AV
def BL9 (t : A3) (c : Int) : A3 := { t with Begin := c }
theorem wf_beg {w : TWorld} (hw : WI w) {i : Nat} {t : A3} (ht : w.Txns[i]? = some t) (hb : t.Begin < 0) : WF w (wTxn w i (BL9 t w.Count)) := by
  have h := hw.txns.2 t (C4 ht)
  have hs := h.span
  have h2 := AS0 hw (i := i) (t := BL9 t w.Count) ⟨h.terms, h.ops, h.got, Int.le_refl _, .inl (by show t.End = -1; omega)⟩
  exact ⟨h2.1, h2.2, rfl, rfl⟩
theorem step_ask {n : Nat} {c : Int} {t : A3} (h : At2 n c t) (e : (N0 t.Ops t.Got).1 = 1) : (N0 t.Ops t.Got).2.1.length ≤ 12 := by
  have hr := ran (got := t.Got) (n := 36) D3 (AF6 h.ops.1)
  obtain ⟨⟨o, ho, ek⟩, _⟩ := hr.ask e
  have := (r5 (h.ops.2 o ho)).2
  rw [← ek]; omega
end Go.M
namespace Go.Proofs.YtcfkbhnpfjjmjaaGreat
open Go Go.AV Go.M
attribute [local irreducible] OpW OpA OpS AWP B9 J2 C9 OpE RetOk H0 I6 Le Ev F1 J8 V9 Int.tmod Int.tdiv IntKind.wrap bandI
theorem goOn_own (b : Nat) (w : TWorld) (X : WX) (T : List (Value × Value)) (L : List Value) (t : Int) (hw : WI w) (hc : ∀ x ∈ w.Txns, x.Begin < w.Count) (hT : T.length = w.Txns.length) (ht : 1 ≤ t ∧ (t - 1).toNat < w.Txns.length) : C9 Tryz.prog 196 [AV.ptr b 0, AV.int t] (WB b w X T L) (fun v : (TWorld × Bool) × List (Value × Value) => (WI v.1.1 ∧ WS w v.1.1) ∧ v.2.length = T.length) (fun v => WB b v.1.1 X v.2 L) (fun v => AV.bool v.1.2) := by
 have hng := hw.n
 have htn := hw.txns.1
 obtain ⟨tx, htx⟩ := get_some ht.2
 obtain ⟨y, hy⟩ := get_some (show (t - 1).toNat < T.length by omega)
 have htk := hw.txns.2 tx (C4 htx)
 have hsb := htk.sb
 have hstep := Ad2 tx.Ops y.1 tx.Got hsb.len hsb.ops hsb.got.2
 refine C6 Tryz.func196 rfl Tryz.ntmps196 rfl ?_
 refine R13 ?_
 refine A4 rfl (E8 5 rfl K0 N7 (A0 rfl) rfl (A0 rfl) qz8 AL7) ?_
 refine R7 ?_
 refine A4 rfl (S8 5 rfl (A0 rfl) rfl qz2 rfl) ?_
 refine A4 rfl (I9 5 rfl H6 rfl N9 (A0 rfl) rfl rfl qz2) ?_
 refine A4 rfl (K1 5 rfl (A0 rfl) rfl g9 qz2 rfl) ?_
 refine R2 ?_
 refine A6 (A0 rfl) ?_ ?_
 ·intro h17
  refine R5 ?_
  exact H3 [0, 0, 0, 0, 0, 0, 0] 0 (nin A3.ow w.Txns T ++ nin A2.ow w.Looks L) [] (((w, false), T)) (BA5) rfl (show List.Perm (nin A3.ow w.Txns T ++ nin A2.ow w.Looks L) ((nin A3.ow w.Txns T ++ nin A2.ow w.Looks L) ++ []) from B5) B0 (E4 rfl (A8 rfl B0))
 intro h17
 refine R3 ?_
 refine A4 rfl (S8 5 rfl (A0 rfl) rfl qz2 rfl) ?_
 refine A4 rfl (I9 5 rfl H6 rfl B6 (A0 rfl) rfl rfl qz2) ?_
 refine A4 rfl (K1 5 rfl (A0 rfl) rfl I7 qz2 rfl) ?_
 refine R3 ?_
 refine A6 (A0 rfl) ?_ ?_
 ·intro h22
  have k22 := of_decide_eq_true h22; try simp only [A5] at k22
  have hwf := wf_beg hw htx Af1
  obtain ⟨W', hW⟩ : ∃ W', wTxn w (t - 1).toNat (BL9 tx w.Count) = W' := ⟨_, rfl⟩
  rw [hW] at hwf
  refine R8 ?_
  refine A4 rfl (S8 5 rfl (A0 rfl) rfl qz2 rfl) ?_
  refine A4 rfl (I9 5 rfl H6 rfl B6 (A0 rfl) rfl rfl qz2) ?_
  refine T1 5 rfl rfl rfl (A0 rfl) (A0 rfl) (Q1 _ _) rfl B6 qz2 rfl ?_
  refine R2 ?_
  refine I3 (show _ = WB b W' X T L from (by rw [← hW]; unfold WB wTxn; dsimp only; rw [j7 htx hy, AE4 (p' := BL9 tx w.Count) htx (fun _ => rfl)]; rfl)) ?_
  refine R4 ?_
  exact H3 [0, 0, 0, 0, 0, 0, 0] 0 (nin A3.ow W'.Txns T ++ nin A2.ow W'.Looks L) [] (((W', true), T)) (BA5) rfl (show List.Perm (nin A3.ow W'.Txns T ++ nin A2.ow W'.Looks L) ((nin A3.ow W'.Txns T ++ nin A2.ow W'.Looks L) ++ []) from B5) B0 (E4 rfl (A8 rfl B0))
 intro h22
 have k22 := of_decide_eq_false h22; try simp only [A5] at k22
 have hbg : 0 ≤ tx.Begin := (by simp at h22; omega)
 have hq : ∀ tx, w.Txns[(t - 1).toNat]? = some tx → 0 ≤ tx.Begin ∧ tx.Begin < w.Count := (fun z hz => by rw [htx] at hz; injection hz with hz; subst hz; exact ⟨hbg, hc _ (C4 htx)⟩)
 refine R3 ?_
 refine A4 rfl (S8 5 rfl (A0 rfl) rfl qz2 rfl) ?_
 refine A4 rfl (I9 5 rfl H6 rfl B6 (A0 rfl) rfl rfl qz2) ?_
 refine A4 rfl (K1 5 rfl (A0 rfl) rfl I7 qz2 rfl) ?_
 refine R3 ?_
 refine A6 (A0 rfl) ?_ ?_
 ·intro h36
  have k36 := of_decide_eq_true h36; try simp only [A5] at k36
  refine R4 ?_
  refine I1 [0, 0, 0, 0, 0, 0, 0] 0 7 (nin A3.ow w.Txns T ++ nin A2.ow w.Looks L) ([]) (fun zz => nin A3.ow zz.1.Txns T ++ nin A2.ow zz.1.Looks L) rfl rfl rfl rfl Tryz.call197 rfl rfl (show List.Perm (nin A3.ow w.Txns T ++ nin A2.ow w.Looks L) ((nin A3.ow w.Txns T ++ nin A2.ow w.Looks L) ++ ([])) from B5) (BJ8 b w X T L t hw) (A1 (A0 rfl) (A1 (A0 rfl) A7)) (fun a => J7) ?_
  intro x44 ok44
  refine R3 ?_
  exact H3 [0, 0, 0, 0, 0, 0, 0] 0 (nin A3.ow x44.1.Txns T ++ nin A2.ow x44.1.Looks L) [] (((x44.1, x44.2), T)) (BA5) rfl (show List.Perm (nin A3.ow x44.1.Txns T ++ nin A2.ow x44.1.Looks L) ((nin A3.ow x44.1.Txns T ++ nin A2.ow x44.1.Looks L) ++ []) from B5) B0 (E4 rfl (A8 rfl B0))
 intro h36
 have k36 := of_decide_eq_false h36; try simp only [A5] at k36
 refine R3 ?_
 refine A4 rfl (S8 5 rfl (A0 rfl) rfl qz2 rfl) ?_
 refine A4 rfl (I9 5 rfl H6 rfl N9 (A0 rfl) rfl rfl qz2) ?_
 refine A4 rfl (K1 5 rfl (A0 rfl) rfl g9 qz2 rfl) ?_
 refine R2 ?_
 refine A6 (A0 rfl) ?_ ?_
 ·intro h45
  refine R4 ?_
  refine I1 [0, 0, 0, 0, 0, 0, 0] 0 7 (nin A3.ow w.Txns T ++ nin A2.ow w.Looks L) ([]) (fun zz => nin A3.ow zz.1.Txns T ++ nin A2.ow zz.1.Looks L) rfl rfl rfl rfl Tryz.call210 rfl rfl (show List.Perm (nin A3.ow w.Txns T ++ nin A2.ow w.Looks L) ((nin A3.ow w.Txns T ++ nin A2.ow w.Looks L) ++ ([])) from B5) (dead_own b w X T L t hw hq hT ht) (A1 (A0 rfl) (A1 (A0 rfl) A7)) (fun a => J7) ?_
  intro x52 ok52
  refine R3 ?_
  exact H3 [0, 0, 0, 0, 0, 0, 0] 0 (nin A3.ow x52.1.Txns T ++ nin A2.ow x52.1.Looks L) [] (((x52.1, x52.2), T)) (BA5) rfl (show List.Perm (nin A3.ow x52.1.Txns T ++ nin A2.ow x52.1.Looks L) ((nin A3.ow x52.1.Txns T ++ nin A2.ow x52.1.Looks L) ++ []) from B5) B0 (E4 rfl (A8 rfl B0))
 intro h45
 refine R2 ?_
 refine AWP.le (N4 7 (t := ([Go.AV.Own.arr y.1 45 3 (tx.Got.map G5.cs), Go.AV.Own.arr y.2 3 1 (tx.Terms.map fun n => [AV.int n])]) ++ (nin A3.ow (w.Txns.eraseIdx (t - 1).toNat) (T.eraseIdx (t - 1).toNat) ++ nin A2.ow w.Looks L)) (r6 htx hy)) ?_
 refine M3 _ [(0, false), (1, false), (2, false), (3, false), (4, false), (5, false), (6, false), (7, false), (8, true), (9, false), (10, false), (11, false), (12, false), (13, false), (14, false)] F2 F2 rfl (O2 7) ?_
 refine R1 ?_
 refine M4 rfl rfl rfl (fun ext => S8 5 rfl (A0 rfl) rfl qz2 rfl) ?_
 refine M4 rfl rfl rfl (fun ext => I9 5 rfl H6 rfl Tryz.sizeOf121 (A0 rfl) rfl rfl qz2) ?_
 refine M4 rfl rfl rfl (fun ext => K1 5 rfl (A0 rfl) rfl Tryz.isAgg121 qz2 rfl) ?_
 refine R1 ?_
 refine M4 rfl rfl rfl (fun ext => S8 5 rfl (A0 rfl) rfl qz2 rfl) ?_
 refine M4 rfl rfl rfl (fun ext => I9 5 rfl H6 rfl N1 (A0 rfl) rfl rfl qz2) ?_
 refine M4 rfl rfl rfl (fun ext => K1 5 rfl (A0 rfl) rfl Y5 qz2 rfl) ?_
 refine Q0 rfl rfl rfl (Y2 8 (O3 [7] rfl Tryz.call129 rfl (hstep) (A1 (A0 rfl) (A1 (A0 rfl) A7)) rfl)) (fun a _ => qz4) ?_
 intro x62 ok62
 refine R11 ?_
 refine AWP.le (C1 [0, 0, 0, 0, 0, 0, 0, 1, 0] rfl) ?_
 refine AWP.le (N4 7 (t := nin A3.ow w.Txns T ++ nin A2.ow w.Looks L) ((r6 htx hy).symm)) ?_
 refine I3 t6 ?_
 refine R9 ?_
 refine A6 (A0 rfl) ?_ ?_
 ·intro h67
  have k67 := D1 h67; try simp only [A5] at k67
  have hkl := step_ask htk (by simpa using h67)
  refine R5 ?_
  refine I1 [0, 0, 0, 0, 0, 0, 0] 0 7 (nin A3.ow w.Txns T ++ nin A2.ow w.Looks L) ([]) (fun zz => nin A3.ow zz.1.1.Txns zz.2 ++ nin A2.ow zz.1.1.Looks L) rfl rfl rfl rfl Tryz.call211 rfl rfl (show List.Perm (nin A3.ow w.Txns T ++ nin A2.ow w.Looks L) ((nin A3.ow w.Txns T ++ nin A2.ow w.Looks L) ++ ([])) from B5) (read_own b w X T L t _ hw hT ht hkl) (A1 (A0 rfl) (A1 (A0 rfl) (A1 (A0 rfl) A7))) (fun a => J7) ?_
  intro x72 ok72
  refine R3 ?_
  exact H3 [0, 0, 0, 0, 0, 0, 0] 0 (nin A3.ow x72.1.1.Txns x72.2 ++ nin A2.ow x72.1.1.Looks L) [] (((x72.1.1, x72.1.2), x72.2)) (BA5) rfl (show List.Perm (nin A3.ow x72.1.1.Txns x72.2 ++ nin A2.ow x72.1.1.Looks L) ((nin A3.ow x72.1.1.Txns x72.2 ++ nin A2.ow x72.1.1.Looks L) ++ []) from B5) B0 (E4 rfl (A8 rfl B0))
 intro h67
 have k67 := D5 h67; try simp only [A5] at k67
 refine R5 ?_
 refine A6 (A0 rfl) ?_ ?_
 ·intro h73
  have k73 := D1 h73; try simp only [A5] at k73
  refine R4 ?_
  refine I1 [0, 0, 0, 0, 0, 0, 0] 0 7 (nin A3.ow w.Txns T ++ nin A2.ow w.Looks L) ([]) (fun zz => nin A3.ow zz.Txns T ++ nin A2.ow zz.Looks L) rfl rfl rfl rfl Tryz.call212 rfl rfl (show List.Perm (nin A3.ow w.Txns T ++ nin A2.ow w.Looks L) ((nin A3.ow w.Txns T ++ nin A2.ow w.Looks L) ++ ([])) from B5) (AV3 b w X T L t hw hT qz8) (A1 (A0 rfl) (A1 (A0 rfl) A7)) (fun a => J7) ?_
  intro x77 ok77
  refine R6 ?_
  exact H3 [0, 0, 0, 0, 0, 0, 0] 0 (nin A3.ow x77.Txns T ++ nin A2.ow x77.Looks L) [] (((x77, true), T)) (BA5) rfl (show List.Perm (nin A3.ow x77.Txns T ++ nin A2.ow x77.Looks L) ((nin A3.ow x77.Txns T ++ nin A2.ow x77.Looks L) ++ []) from B5) B0 (E4 rfl (A8 rfl B0))
 intro h73
 have k73 := D5 h73; try simp only [A5] at k73
 refine R5 ?_
 refine I1 [0, 0, 0, 0, 0, 0, 0] 0 7 (nin A3.ow w.Txns T ++ nin A2.ow w.Looks L) ([]) (fun zz => nin A3.ow zz.1.Txns T ++ nin A2.ow zz.1.Looks L) rfl rfl rfl rfl Tryz.call213 rfl rfl (show List.Perm (nin A3.ow w.Txns T ++ nin A2.ow w.Looks L) ((nin A3.ow w.Txns T ++ nin A2.ow w.Looks L) ++ ([])) from B5) (CD4 b w X T L t hw hq hT ht) (A1 (A0 rfl) (A1 (A0 rfl) A7)) (fun a => J7) ?_
 intro x80 ok80
 refine R3 ?_
 exact H3 [0, 0, 0, 0, 0, 0, 0] 0 (nin A3.ow x80.1.Txns T ++ nin A2.ow x80.1.Looks L) [] (((x80.1, x80.2), T)) (BA5) rfl (show List.Perm (nin A3.ow x80.1.Txns T ++ nin A2.ow x80.1.Looks L) ((nin A3.ow x80.1.Txns T ++ nin A2.ow x80.1.Looks L) ++ []) from B5) B0 (E4 rfl (A8 rfl B0))
end Go.Proofs.YtcfkbhnpfjjmjaaGreat
namespace Go.M
open Go.AV
theorem lead_any {g : TGroup} (h : GG g) : GS (leadSure g) ∧ GS (leadFull g) := by
  unfold leadSure leadFull
  by_cases e : ∃ r, g.Reps[g.Lead.toNat]? = some r
  · obtain ⟨r, hr⟩ := e
    have hm := h.reps r (C4 hr)
    rw [repAt_of hr]
    exact ⟨AM7 hm _, AM7 hm _⟩
  · have he : repAt g g.Lead = ⟨false, [], 0⟩ := by
      unfold repAt
      cases hc : g.Reps[g.Lead.toNat]? with
      | none => rfl
      | some r => exact absurd ⟨r, hc⟩ e
    rw [he]
    exact ⟨Av6, Av6⟩
def AV5 (l : A2) (t c : Int) : A2 := { l with Time := t, Begin := c }
def w7 (l : A2) (c : Int) : A2 := { l with End := c }
def j4 (l : A2) (g : G5) : A2 := { l with Got := l.Got ++ [g] }
theorem CD6 {w : TWorld} (hw : WI w) {l : A2} (h : LkOk w.Groups.length w.Count l) : ∃ c, w.Clocks[l.Node.toNat]? = some c ∧ goodClock c = true ∧ M.isTrue w.Now = true ∧ -1000000 ≤ (e8 c w.Now).High ∧ (e8 c w.Now).High ≤ 1000000 := by
  have hn := h.node
  obtain ⟨c, hc⟩ := get_some (show l.Node.toNat < w.Clocks.length by rw [hw.clocks.1]; omega)
  have h9 := hw.clocks.2 c (C4 hc)
  have h8 := hw.now
  refine ⟨c, hc, ?_, ?_, ?_, ?_⟩
  · unfold goodClock within; rw [Bool.and_eq_true, decide_eq_true_eq, decide_eq_true_eq]; exact h9
  · unfold M.isTrue within; rw [Bool.and_eq_true, decide_eq_true_eq, decide_eq_true_eq]; exact h8
  · show -1000000 ≤ w.Now + c.Off + 5; omega
  · show w.Now + c.Off + 5 ≤ 1000000; omega
theorem wv_begL {w : TWorld} (hw : WI w) {i : Nat} {l : A2} (hl : w.Looks[i]? = some l) (hb : l.Begin < 0) {t : Int} (ht : 0 ≤ t ∧ t ≤ 1000000) : WI (wLook w i (AV5 l t w.Count)) ∧ WS w (wLook w i (AV5 l t w.Count)) := by
  have h := hw.looks.2 l (C4 hl)
  have hs := h.span
  exact BP0 hw (i := i) (t := AV5 l t w.Count) ⟨h.node, h.keys, h.got, ⟨Int.le_refl _, .inl (by show l.End = -1; omega)⟩, ht⟩
theorem wv_endL {w : TWorld} (hw : WI w) {i : Nat} {l : A2} (hl : w.Looks[i]? = some l) (hb : 0 ≤ l.Begin ∧ l.Begin < w.Count) : WI (wLook w i (w7 l w.Count)) ∧ WS w (wLook w i (w7 l w.Count)) := by
  have h := hw.looks.2 l (C4 hl)
  exact BP0 hw (i := i) (t := w7 l w.Count) ⟨h.node, h.keys, h.got, ⟨h.span.1, .inr ⟨hb.1, hb.2, Int.le_refl _⟩⟩, h.time⟩
theorem Bw0 {w : TWorld} (hw : WI w) {i : Nat} {l : A2} (hl : w.Looks[i]? = some l) {g : G5} (hlt : l.Got.length < l.Keys.length) (hg : g.size ≤ 64) : WI (wLook w i (j4 l g)) ∧ WS w (wLook w i (j4 l g)) := by
  have h := hw.looks.2 l (C4 hl)
  refine BP0 hw (i := i) (t := j4 l g) ⟨h.node, h.keys, ⟨?_, fun x hx => ?_⟩, h.span, h.time⟩
  · show (l.Got ++ [g]).length ≤ l.Keys.length; rw [G3]; simp; omega
  · rcases List.mem_append.1 (show x ∈ l.Got ++ [g] from hx) with hx | hx
    · exact h.got.2 x hx
    · rw [List.mem_singleton.1 hx]; exact hg
end Go.M
namespace Go.Proofs.YtcfkbhnpfjjmjaaGreat
open Go Go.AV Go.M
attribute [local irreducible] OpW OpA OpS AWP B9 J2 C9 OpE RetOk H0 I6 Le Ev F1 J8 V9 Int.tmod Int.tdiv IntKind.wrap bandI
theorem Bl3 (s : AN5) : B9 Tryz.prog 199 [AV.agg s.cs] (AV.int (W5 1 s.High)) := by
  refine B7 Tryz.func199 rfl Tryz.ntmps199 rfl ?_
  refine R3 ?_
  intro b1
  refine R6 ?_
  refine A4 rfl (B2 rfl Tryz.call23 rfl (Z9 _ _) (A1 D8 (A1 (A0 rfl) A7))) ?_
  refine R3 ?_
  exact D4 rfl (A8 rfl B0)
theorem look_own (b : Nat) (w : TWorld) (X : WX) (T : List (Value × Value)) (L : List Value) (n : Int) (hw : WI w) (hc9 : ∀ x ∈ w.Looks, x.Begin < w.Count) (hL : L.length = w.Looks.length) (hn : 0 ≤ n ∧ n.toNat < w.Looks.length) : C9 Tryz.prog 186 [AV.ptr b 0, AV.int n] (WB b w X T L) (fun v : (TWorld × Bool) × List Value => (WI v.1.1 ∧ WS w v.1.1) ∧ v.2.length = L.length) (fun v => WB b v.1.1 X T v.2) (fun v => AV.bool v.1.2) := by
 have hng := hw.n
 have hln := hw.looks.1
 obtain ⟨lk, hlk⟩ := get_some hn.2
 obtain ⟨z, hz⟩ := get_some (show n.toNat < L.length by omega)
 have hlo := hw.looks.2 lk (C4 hlk)
 obtain ⟨c, hcx, hcg, hnow, hsl, hsh⟩ := CD6 hw hlo
 have hnd := hlo.node
 have hsp := Aa4 b w X T L lk.Node c hcx hnd.1 hcg hnow
 have hsp2 := Aa4 b (wLook w n.toNat (w7 lk w.Count)) X T L lk.Node c hcx hnd.1 hcg hnow
 have hkl := hlo.keys.1
 have hgl8 := hlo.got.1
 have hmx : 0 ≤ W5 1 (e8 c w.Now).High ∧ W5 1 (e8 c w.Now).High ≤ 1000000 := by unfold W5; split <;> omega
 refine C6 Tryz.func186 rfl Tryz.ntmps186 rfl ?_
 refine R12 ?_
 refine A4 rfl (E8 6 rfl i4 Tryz.sizeOf152 (A0 rfl) rfl (A0 rfl) qz8 Bc7) ?_
 refine R7 ?_
 refine A4 rfl (S8 6 rfl (A0 rfl) rfl qz1 rfl) ?_
 refine A4 rfl (I9 6 rfl K6 rfl B6 (A0 rfl) rfl rfl qz1) ?_
 refine A4 rfl (K1 6 rfl (A0 rfl) rfl I7 qz1 rfl) ?_
 refine R3 ?_
 refine A6 (A0 rfl) ?_ ?_
 ·intro h17
  have k17 := of_decide_eq_true h17; try simp only [A5] at k17
  refine R5 ?_
  exact H3 [0, 0, 0, 0, 0, 0, 0] 0 (nin A3.ow w.Txns T ++ nin A2.ow w.Looks L) [] (((w, false), L)) (BN4) rfl (show List.Perm (nin A3.ow w.Txns T ++ nin A2.ow w.Looks L) ((nin A3.ow w.Txns T ++ nin A2.ow w.Looks L) ++ []) from B5) BN5 (E4 rfl (A8 rfl B0))
 intro h17
 have k17 := of_decide_eq_false h17; try simp only [A5] at k17
 refine R3 ?_
 refine A4 rfl (S8 6 rfl (A0 rfl) rfl qz1 rfl) ?_
 refine A4 rfl (I9 6 rfl K6 rfl B6 (A0 rfl) rfl rfl qz1) ?_
 refine A4 rfl (K1 6 rfl (A0 rfl) rfl I7 qz1 rfl) ?_
 refine R3 ?_
 refine A6 (A0 rfl) ?_ ?_
 ·intro h23
  have k23 := of_decide_eq_true h23; try simp only [A5] at k23
  refine R5 ?_
  refine A4 rfl (S8 6 rfl (A0 rfl) rfl qz1 rfl) ?_
  refine A4 rfl (I9 6 rfl K6 rfl B6 (A0 rfl) rfl rfl qz1) ?_
  refine A4 rfl (K1 6 rfl (A0 rfl) rfl I7 qz1 rfl) ?_
  refine A4 rfl (X0 [0, 0, 0, 0, 0, 0, 0] 0 (nin A3.ow w.Txns T ++ nin A2.ow w.Looks L) ([]) rfl Tryz.call181 rfl rfl (B5) (hsp) (A1 (A0 rfl) (A1 (A0 rfl) A7))) ?_
  refine A4 rfl (B2 rfl Tryz.call199 rfl (Bl3 _) (A1 (A0 rfl) A7)) ?_
  refine A4 rfl (S8 6 rfl (A0 rfl) rfl qz1 rfl) ?_
  refine A4 rfl (I9 6 rfl K6 rfl B6 (A0 rfl) rfl rfl qz1) ?_
  refine T1 6 rfl rfl rfl (A0 rfl) (A0 rfl) (Q1 _ _) rfl B6 qz1 rfl ?_
  refine R9 ?_
  refine A4 rfl (S8 6 rfl (A0 rfl) rfl qz1 rfl) ?_
  refine A4 rfl (I9 6 rfl K6 rfl B6 (A0 rfl) rfl rfl qz1) ?_
  refine T1 6 rfl rfl rfl (A0 rfl) (A0 rfl) (Q1 _ _) rfl B6 qz1 rfl ?_
  refine R4 ?_
  refine A4 rfl (S8 6 rfl (A0 rfl) rfl qz1 rfl) ?_
  refine A4 rfl (I9 6 rfl K6 rfl B6 (A0 rfl) rfl rfl qz1) ?_
  refine A4 rfl (K1 6 rfl (A0 rfl) rfl I7 qz1 rfl) ?_
  refine R4 ?_
  exact H3 [0, 0, 0, 0, 0, 0, 0] 0 (nin A3.ow w.Txns T ++ nin A2.ow w.Looks L) [] (((wLook w n.toNat (AV5 lk (W5 1 (e8 c w.Now).High) w.Count), _), L)) (BN4) rfl (show List.Perm (nin A3.ow w.Txns T ++ nin A2.ow w.Looks L) ((nin A3.ow w.Txns T ++ nin A2.ow w.Looks L) ++ []) from B5) BN5 (E4 rfl (A8 rfl B0))
 intro h23
 have k23 := of_decide_eq_false h23; try simp only [A5] at k23
 have hbg : 0 ≤ lk.Begin := (by simp at h23; omega)
 have hbc := hc9 lk (C4 hlk)
 refine R1 ?_
 refine AWP.le (N4 7 (t := ([Go.AV.Own.arr z 45 3 (lk.Got.map G5.cs)]) ++ (nin A2.ow (w.Looks.eraseIdx n.toNat) (L.eraseIdx n.toNat) ++ nin A3.ow w.Txns T)) (As2 hlk hz)) ?_
 refine R2 ?_
 refine C3 rfl rfl (S8 6 rfl (A0 rfl) rfl qz1 rfl) ?_
 refine C3 rfl rfl (I9 6 rfl K6 rfl N1 (A0 rfl) rfl rfl qz1) ?_
 refine C3 rfl rfl (K1 6 rfl (A0 rfl) rfl Y5 qz1 rfl) ?_
 refine R2 ?_
 refine C3 rfl rfl (S8 6 rfl (A0 rfl) rfl qz1 rfl) ?_
 refine C3 rfl rfl (I9 6 rfl K6 rfl c9 (A0 rfl) rfl rfl qz1) ?_
 refine C3 rfl rfl (K1 6 rfl (A0 rfl) rfl Tryz.isAgg79 qz1 rfl) ?_
 refine R4 ?_
 refine A6 (A0 rfl) ?_ ?_
 ·intro h52
  have k52 := D1 h52; try simp only [A5] at k52
  refine AWP.le (C1 [0, 0, 0, 0, 0, 0, 0, 0] rfl) ?_
  refine AWP.le (N4 7 (t := nin A3.ow w.Txns T ++ nin A2.ow w.Looks L) ((As2 hlk hz).symm)) ?_
  refine I3 t6 ?_
  refine R8 ?_
  refine A4 rfl (S8 6 rfl (A0 rfl) rfl qz1 rfl) ?_
  refine A4 rfl (I9 6 rfl K6 rfl B6 (A0 rfl) rfl rfl qz1) ?_
  refine T1 6 rfl rfl rfl (A0 rfl) (A0 rfl) (Q1 _ _) rfl B6 qz1 rfl ?_
  refine R2 ?_
  refine I3 (show _ = WB b (wLook w n.toNat (w7 lk w.Count)) X T L from (by unfold WB wLook; dsimp only; rw [j7 hlk hz, AE4 (p' := w7 lk w.Count) hlk (fun _ => rfl)]; rfl)) ?_
  refine R2 ?_
  refine C3 rfl rfl (S8 6 rfl (A0 rfl) rfl qz1 rfl) ?_
  refine C3 rfl rfl (I9 6 rfl K6 rfl B6 (A0 rfl) rfl rfl qz1) ?_
  refine C3 rfl rfl (K1 6 rfl (A0 rfl) rfl I7 qz1 rfl) ?_
  refine R2 ?_
  refine C3 rfl rfl (S8 6 rfl (A0 rfl) rfl qz1 rfl) ?_
  refine C3 rfl rfl (I9 6 rfl K6 rfl B6 (A0 rfl) rfl rfl qz1) ?_
  refine C3 rfl rfl (K1 6 rfl (A0 rfl) rfl I7 qz1 rfl) ?_
  refine C3 rfl rfl (X0 [0, 0, 0, 0, 0, 0, 0] 0 (nin A3.ow w.Txns T ++ nin A2.ow (w.Looks.set n.toNat (w7 lk w.Count)) L) ([]) rfl Tryz.call181 rfl rfl (B5) (hsp2) (A1 (A0 rfl) (A1 (A0 rfl) A7))) ?_
  refine C3 rfl rfl (BE4 rfl Tryz.underlying218 rfl I7 (A0 rfl) rfl) ?_
  refine R4 ?_
  exact H3 [0, 0, 0, 0, 0, 0, 0] 0 (nin A3.ow w.Txns T ++ nin A2.ow (w.Looks.set n.toNat (w7 lk w.Count)) L) [] (((wLook w n.toNat (w7 lk w.Count), _), L)) (BN4) rfl (show List.Perm (nin A3.ow w.Txns T ++ nin A2.ow (w.Looks.set n.toNat (w7 lk w.Count)) L) ((nin A3.ow w.Txns T ++ nin A2.ow (w.Looks.set n.toNat (w7 lk w.Count)) L) ++ []) from B5) BN5 (E4 rfl (A8 rfl B0))
 intro h52
 have k52 := D5 h52; try simp only [A5] at k52
 have hlt : lk.Got.length < lk.Keys.length := (by simp only [A5] at h52; have h9 := D5 h52; omega)
 obtain ⟨k, hk⟩ := get_some hlt
 have hk12 := hlo.keys.2 k (C4 hk)
 obtain ⟨p, hp⟩ : ∃ p : Nat, partW w.Cuts k = p := ⟨_, rfl⟩
 obtain ⟨gi, hx, hgl⟩ := BJ7 hw k
 rw [hp] at hx hgl
 have hgi := hw.groups gi (C4 hx)
 have hla := lead_any hgi.good
 have hs1 := AP0 (AB0.2 hla.1)
 have hs2 := AP0 (AB0.2 hla.2)
 have hcs := Ap0 hla.1.cells
 have hcl := BJ6 hla.1.cells k lk.Time
 have hpart : B9 Tryz.prog 170 [strs w.Cuts, AV.str k] (AV.int ((p : Nat) : Int)) := (by rw [← hp]; exact AE2 w.Cuts k)
 obtain ⟨pr, hpx⟩ := get_some (show ((p : Nat) : Int).toNat < w.Promised.length by rw [hw.promised.1]; omega)
 have hprl := (List.getElem?_eq_some_iff.1 hpx).1
 have hprb := hw.promised.2 pr (C4 hpx)
 have htm := hlo.time
 have hmy : 0 ≤ W5 pr lk.Time ∧ W5 pr lk.Time ≤ 1000000 := (by unfold W5; split <;> omega)
 have hwp := Bu8 hw (i := ((p : Nat) : Int).toNat) hmy
 have hsk := AK9 b (AC8 w ((p : Nat) : Int).toNat (W5 pr lk.Time)) X T L (p : Int) gi hx qz8 hgi.good
 refine R4 ?_
 refine C3 rfl rfl (S8 6 rfl (A0 rfl) rfl qz1 rfl) ?_
 refine C3 rfl rfl (I9 6 rfl K6 rfl c9 (A0 rfl) rfl rfl qz1) ?_
 refine C3 rfl rfl (K1 6 rfl (A0 rfl) rfl Tryz.isAgg79 qz1 rfl) ?_
 refine R1 ?_
 refine C3 rfl rfl (S8 6 rfl (A0 rfl) rfl qz1 rfl) ?_
 refine C3 rfl rfl (I9 6 rfl K6 rfl N1 (A0 rfl) rfl rfl qz1) ?_
 refine C3 rfl rfl (K1 6 rfl (A0 rfl) rfl Y5 qz1 rfl) ?_
 refine R1 ?_
 refine C3 rfl rfl (t3 rfl F9 K3 (A0 rfl) (A0 rfl) (by rw [A5]; omega) (by rw [A5, Int.toNat_natCast]; exact L9 hk)) ?_
 refine R4 ?_
 refine AWP.le (C1 [0, 0, 0, 0, 0, 0, 0, 0] rfl) ?_
 refine AWP.le (N4 7 (t := nin A3.ow w.Txns T ++ nin A2.ow w.Looks L) ((As2 hlk hz).symm)) ?_
 refine I3 t6 ?_
 refine R7 ?_
 refine A4 rfl (B2 rfl Tryz.call170 rfl (hpart) (A1 (A0 rfl) (A1 (A0 rfl) A7))) ?_
 refine R11 ?_
 refine C3 rfl rfl (E8 2 rfl G7 C8 (A0 rfl) rfl (A0 rfl) qz8 Bc7) ?_
 refine C3 rfl rfl (W9 2 rfl (A0 rfl) rfl J9 C8 qz6 D3) ?_
 refine C3 rfl rfl (B2 rfl Tryz.call200 rfl (i7 gi hgi.good) (A1 (A0 rfl) A7)) ?_
 refine R4 ?_
 refine L2 rfl (S2 rfl rfl rfl) (fun hc => X0 [0, 0, 0, 0, 0, 0, 0] 0 (nin A3.ow w.Txns T ++ nin A2.ow w.Looks L) ([]) rfl Tryz.call202 rfl rfl (B5) (AK9 b w X T L (p : Int) gi hx qz8 hgi.good (j6 (by simpa using hc))) (A1 (B1 rfl hc) (A1 (B1 rfl hc) A7))) ?_
 refine R2 ?_
 refine L2 rfl (S2 rfl rfl rfl) (fun hc => S8 6 rfl (B1 rfl hc) rfl qz1 rfl) ?_
 refine L2 rfl (S2 rfl rfl rfl) (fun hc => I9 6 rfl K6 rfl B6 (B1 rfl hc) rfl rfl qz1) ?_
 refine L2 rfl (S2 rfl rfl rfl) (fun hc => K1 6 rfl (B1 rfl hc) rfl I7 qz1 rfl) ?_
 refine L2 rfl (S2 rfl rfl rfl) (fun hc => B2 rfl Tryz.call201 rfl (Ar6 (leadSure gi) k lk.Time qz8) (A1 (B1 rfl hc) (A1 (B1 rfl hc) (A1 (B1 rfl hc) A7)))) ?_
 refine R6 ?_
 refine L2 rfl (S2 rfl rfl rfl) (fun hc => X0 [0, 0, 0, 0, 0, 0, 0] 0 (nin A3.ow w.Txns T ++ nin A2.ow w.Looks L) ([]) rfl Tryz.call180 rfl rfl (B5) (y7 b w X T L (p : Int) gi hx qz8 hgi.good (j6 (by simp at hc; exact hc.1))) (A1 (B1 rfl hc) (A1 (B1 rfl hc) A7))) ?_
 refine R2 ?_
 refine L2 rfl (S2 rfl rfl rfl) (fun hc => S8 6 rfl (B1 rfl hc) rfl qz1 rfl) ?_
 refine L2 rfl (S2 rfl rfl rfl) (fun hc => I9 6 rfl K6 rfl B6 (B1 rfl hc) rfl rfl qz1) ?_
 refine L2 rfl (S2 rfl rfl rfl) (fun hc => K1 6 rfl (B1 rfl hc) rfl I7 qz1 rfl) ?_
 refine L2 rfl (S2 rfl rfl rfl) (fun hc => B2 rfl Tryz.call201 rfl (Ar6 (leadFull gi) k lk.Time qz8) (A1 (B1 rfl hc) (A1 (B1 rfl hc) (A1 (B1 rfl hc) A7)))) ?_
 refine R4 ?_
 refine A6 (A0 rfl) ?_ ?_
 ·intro h137
  refine R5 ?_
  exact H3 [0, 0, 0, 0, 0, 0, 0] 0 (nin A3.ow w.Txns T ++ nin A2.ow w.Looks L) [] (((w, false), L)) (BN4) rfl (show List.Perm (nin A3.ow w.Txns T ++ nin A2.ow w.Looks L) ((nin A3.ow w.Txns T ++ nin A2.ow w.Looks L) ++ []) from B5) BN5 (E4 rfl (A8 rfl B0))
 intro h137
 have hrd : o6 gi = true := (by simp at h137; exact h137.1.1)
 have hl := j6 hrd
 have hsk := hsk hl
 refine R2 ?_
 refine L8 20 F2 F2 rfl ?_
 refine R12 ?_
 refine C3 rfl rfl (E8 4 rfl B4 B6 (A0 rfl) rfl (A0 rfl) qz8 Bc7) ?_
 refine C3 rfl rfl (U7 4 rfl (A0 rfl) rfl I7 (As1 (g := AV.int) hpx)) ?_
 refine R1 ?_
 refine C3 rfl rfl (S8 6 rfl (A0 rfl) rfl qz1 rfl) ?_
 refine C3 rfl rfl (I9 6 rfl K6 rfl B6 (A0 rfl) rfl rfl qz1) ?_
 refine C3 rfl rfl (K1 6 rfl (A0 rfl) rfl I7 qz1 rfl) ?_
 refine C3 rfl rfl (B2 rfl Tryz.call23 rfl (Z9 _ _) (A1 (A0 rfl) (A1 (A0 rfl) A7))) ?_
 refine C3 rfl rfl (E8 4 rfl B4 B6 (A0 rfl) rfl (A0 rfl) qz8 Bc7) ?_
 refine R1 ?_
 refine S9 4 rfl rfl rfl (A0 rfl) (A0 rfl) (Q1 _ _) rfl B6 rfl qz3 ?_
 refine R2 ?_
 refine I3 (show _ = WB b (AC8 w ((p : Nat) : Int).toNat (W5 pr lk.Time)) X T L from (by unfold WB AC8; dsimp only; rw [List.map_set]; rfl)) ?_
 refine R3 ?_
 refine C3 rfl rfl (X0 [0, 0, 0, 0, 0, 0, 0] 0 (nin A3.ow w.Txns T ++ nin A2.ow w.Looks L) ([]) rfl Tryz.call202 rfl rfl (B5) (hsk) (A1 (A0 rfl) (A1 (A0 rfl) A7))) ?_
 refine C3 rfl rfl (BE4 rfl c0 rfl Tryz.isAgg179 (A0 rfl) rfl) ?_
 refine R2 ?_
 refine C3 rfl rfl (S8 6 rfl (A0 rfl) rfl qz1 rfl) ?_
 refine C3 rfl rfl (I9 6 rfl K6 rfl B6 (A0 rfl) rfl rfl qz1) ?_
 refine C3 rfl rfl (K1 6 rfl (A0 rfl) rfl I7 qz1 rfl) ?_
 refine C3 rfl rfl (B2 rfl Tryz.call203 rfl (Az3 (leadSure gi).Cells k lk.Time qz8) (A1 (A0 rfl) (A1 (A0 rfl) (A1 (A0 rfl) A7)))) ?_
 refine R12 ?_
 refine A6 (A0 rfl) ?_ ?_
 ·intro h172
  obtain ⟨G, hG⟩ : ∃ G : G5, G = ⟨k, [], (cellAt (leadSure gi).Cells k lk.Time).2⟩ := ⟨_, rfl⟩
  have hGs : G.size ≤ 64 := (by rw [hG]; unfold G5.size; simp only [M6]; omega)
  refine R1 ?_
  refine A4 rfl (D6 rfl (L5 (l := []) rfl)) ?_
  refine R2 ?_
  refine AWP.le (N4 7 (t := ([Go.AV.Own.arr z 45 3 (lk.Got.map G5.cs)]) ++ (nin A2.ow (w.Looks.eraseIdx n.toNat) (L.eraseIdx n.toNat) ++ nin A3.ow w.Txns T)) (As2 hlk hz)) ?_
  refine R3 ?_
  refine A4 rfl (S8 6 rfl (A0 rfl) rfl qz1 rfl) ?_
  refine A4 rfl (I9 6 rfl K6 rfl N1 (A0 rfl) rfl rfl qz1) ?_
  refine A4 rfl (K1 6 rfl (A0 rfl) rfl Y5 qz1 rfl) ?_
  refine R5 ?_
  refine F6 (by' := 40) 7 rfl rfl rfl rfl J3 Tryz.type45 rfl rfl rfl rfl rfl rfl (A0 rfl) (A0 rfl) rfl qz3 ?_
  intro v183_1
  refine A4 rfl (S8 6 rfl (A0 rfl) rfl qz1 rfl) ?_
  refine A4 rfl (I9 6 rfl K6 rfl N1 (A0 rfl) rfl rfl qz1) ?_
  refine Q5 7 rfl fun one_v183_1 => ?_
  refine T1 6 rfl rfl rfl (A0 rfl) (A0 rfl) (M0 one_v183_1) rfl N1 qz1 rfl ?_
  refine R2 ?_
  refine I3 t6 ?_
  refine AWP.le (C1 [0, 0, 0, 0, 0, 0, 0, 0] rfl) ?_
  refine AWP.le (N4 7 (t := nin A3.ow w.Txns T ++ nin A2.ow (w.Looks.set n.toNat (j4 lk G)) (L.set n.toNat v183_1)) ((AG0 (b := [Go.AV.Own.arr v183_1 45 3 ((lk.Got ++ [G]).map G5.cs)] ++ (nin A2.ow (w.Looks.eraseIdx n.toNat) (L.eraseIdx n.toNat) ++ nin A3.ow w.Txns T)) Bc2 (lk_put (w := w) (T := T) (p' := j4 lk G) (y' := v183_1) hlk hz)))) ?_
  refine R4 ?_
  exact H3 [0, 0, 0, 0, 0, 0, 0] 0 (nin A3.ow w.Txns T ++ nin A2.ow (w.Looks.set n.toNat (j4 lk G)) (L.set n.toNat v183_1)) [] (((wLook (AC8 w ((p : Nat) : Int).toNat (W5 pr lk.Time)) n.toNat (j4 lk G), true), L.set n.toNat v183_1)) (BN4) rfl (show List.Perm (nin A3.ow w.Txns T ++ nin A2.ow (w.Looks.set n.toNat (j4 lk G)) (L.set n.toNat v183_1)) ((nin A3.ow w.Txns T ++ nin A2.ow (w.Looks.set n.toNat (j4 lk G)) (L.set n.toNat v183_1)) ++ []) from B5) BN5 (E4 rfl (A8 rfl B0))
 intro h172
 obtain ⟨G, hG⟩ : ∃ G : G5, G = ⟨k, (cellAt (leadSure gi).Cells k lk.Time).1, (cellAt (leadSure gi).Cells k lk.Time).2⟩ := ⟨_, rfl⟩
 have hGs : G.size ≤ 64 := (by rw [hG]; unfold G5.size; dsimp only; omega)
 refine R2 ?_
 refine AWP.le (N4 7 (t := ([Go.AV.Own.arr z 45 3 (lk.Got.map G5.cs)]) ++ (nin A2.ow (w.Looks.eraseIdx n.toNat) (L.eraseIdx n.toNat) ++ nin A3.ow w.Txns T)) (As2 hlk hz)) ?_
 refine R3 ?_
 refine A4 rfl (S8 6 rfl (A0 rfl) rfl qz1 rfl) ?_
 refine A4 rfl (I9 6 rfl K6 rfl N1 (A0 rfl) rfl rfl qz1) ?_
 refine A4 rfl (K1 6 rfl (A0 rfl) rfl Y5 qz1 rfl) ?_
 refine R5 ?_
 refine F6 (by' := 40) 7 rfl rfl rfl rfl J3 Tryz.type45 rfl rfl rfl rfl rfl rfl (A0 rfl) (A0 rfl) rfl qz3 ?_
 intro v183_2
 refine A4 rfl (S8 6 rfl (A0 rfl) rfl qz1 rfl) ?_
 refine A4 rfl (I9 6 rfl K6 rfl N1 (A0 rfl) rfl rfl qz1) ?_
 refine Q5 7 rfl fun one_v183_2 => ?_
 refine T1 6 rfl rfl rfl (A0 rfl) (A0 rfl) (M0 one_v183_2) rfl N1 qz1 rfl ?_
 refine R2 ?_
 refine I3 t6 ?_
 refine AWP.le (C1 [0, 0, 0, 0, 0, 0, 0, 0] rfl) ?_
 refine AWP.le (N4 7 (t := nin A3.ow w.Txns T ++ nin A2.ow (w.Looks.set n.toNat (j4 lk G)) (L.set n.toNat v183_2)) ((AG0 (b := [Go.AV.Own.arr v183_2 45 3 ((lk.Got ++ [G]).map G5.cs)] ++ (nin A2.ow (w.Looks.eraseIdx n.toNat) (L.eraseIdx n.toNat) ++ nin A3.ow w.Txns T)) Bc2 (lk_put (w := w) (T := T) (p' := j4 lk G) (y' := v183_2) hlk hz)))) ?_
 refine R4 ?_
 exact H3 [0, 0, 0, 0, 0, 0, 0] 0 (nin A3.ow w.Txns T ++ nin A2.ow (w.Looks.set n.toNat (j4 lk G)) (L.set n.toNat v183_2)) [] (((wLook (AC8 w ((p : Nat) : Int).toNat (W5 pr lk.Time)) n.toNat (j4 lk G), true), L.set n.toNat v183_2)) (BN4) rfl (show List.Perm (nin A3.ow w.Txns T ++ nin A2.ow (w.Looks.set n.toNat (j4 lk G)) (L.set n.toNat v183_2)) ((nin A3.ow w.Txns T ++ nin A2.ow (w.Looks.set n.toNat (j4 lk G)) (L.set n.toNat v183_2)) ++ []) from B5) BN5 (E4 rfl (A8 rfl B0))
end Go.Proofs.YtcfkbhnpfjjmjaaGreat
namespace Go.M
open Go.AV
def Aw1 (t : A3) : A3 := { t with Stopped := true }
theorem wf_stop {w : TWorld} (hw : WI w) {i : Nat} {t : A3} (ht : w.Txns[i]? = some t) : WF w (wTxn w i (Aw1 t)) := by
  have h := hw.txns.2 t (C4 ht)
  have h2 := AS0 hw (i := i) (t := Aw1 t) ⟨h.terms, h.ops, h.got, h.span⟩
  exact ⟨h2.1, h2.2, rfl, rfl⟩
def X7 (a : Q7) : Prop := (-1000 ≤ a.At ∧ a.At ≤ 1000) ∧ -1000 ≤ a.By ∧ a.By ≤ 1000
end Go.M
namespace Go.Proofs.YtcfkbhnpfjjmjaaGreat
open Go Go.AV Go.M
attribute [local irreducible] OpW OpA OpS AWP B9 J2 C9 OpE RetOk H0 I6 Le Ev F1 J8 V9 Int.tmod Int.tdiv IntKind.wrap bandI
theorem Ak8 (b : Nat) (w : TWorld) (X : WX) (T : List (Value × Value)) (L : List Value) (a : Q7) (hw : WI w) (ha : X7 a) : C9 Tryz.prog 183 [AV.ptr b 0, AV.agg a.cs] (WB b w X T L) (fun v : TWorld × Bool => v.2 = true → WI v.1 ∧ WS w v.1) (fun v => WB b v.1 X T L) (fun v => AV.bool v.2) := by
 have hng := hw.n
 have hcl := hw.clocks.1
 obtain ⟨⟨ha1, ha2⟩, hb1, hb2⟩ := ha
 refine C6 Tryz.func183 rfl Tryz.ntmps183 rfl ?_
 refine R3 ?_
 intro b3
 refine R14 ?_
 refine C3 rfl rfl (B2 rfl Tryz.call30 rfl (M9 _ _ _) (A1 (A0 rfl) (A1 D8 (A1 (A0 rfl) A7)))) ?_
 refine R2 ?_
 refine A6 (A0 rfl) ?_ ?_
 ·intro h22
  refine R5 ?_
  exact H3 [1, 1, 1, 1, 1, 1, 1] 1 (nin A3.ow w.Txns T ++ nin A2.ow w.Looks L) [] ((w, false)) (qz20) rfl (show List.Perm (nin A3.ow w.Txns T ++ nin A2.ow w.Looks L) ((nin A3.ow w.Txns T ++ nin A2.ow w.Looks L) ++ []) from B5) qz63 (E4 rfl (A8 rfl B0))
 intro h22
 have hin : 0 ≤ a.At ∧ a.At < 3 * (w.Groups.length : Int) := (by simp only [A5] at h22; have h9 : within a.At 0 ((w.Clocks.length : Int) - 1) = true := Af1; unfold within at h9; rw [Bool.and_eq_true, decide_eq_true_eq, decide_eq_true_eq] at h9; omega)
 obtain ⟨q, hq⟩ : ∃ q : Int, Int.tdiv a.At 3 = q := ⟨_, rfl⟩
 obtain ⟨m, hm⟩ : ∃ m : Int, Int.tmod a.At 3 = m := ⟨_, rfl⟩
 obtain ⟨h0, hql, hm0, hm3, hnq⟩ := third hin hq hm
 obtain ⟨gi, hx⟩ := get_some (show q.toNat < w.Groups.length by omega)
 have hgi := hw.groups gi (C4 hx)
 have hvs := Ae7 hgi.good
 have hwq : IntKind.i64.wrap q = q := AV8 qz8
 obtain ⟨c, hcx⟩ := get_some (show a.At.toNat < w.Clocks.length by omega)
 refine R5 ?_
 refine A4 rfl (Bd0 rfl (A0 rfl) D8 qz3) ?_
 refine R3 ?_
 simp only [hq, hwq]
 refine R2 ?_
 intro b6
 refine R17 ?_
 refine A6 (A0 rfl) ?_ ?_
 ·intro h45
  have k45 := D1 h45; try simp only [A5] at k45
  refine R1 ?_
  refine L8 12 F2 F2 rfl ?_
  refine R11 ?_
  refine C3 rfl rfl (E8 3 rfl S4 p8 (A0 rfl) rfl (A0 rfl) qz8 f6) ?_
  refine R1 ?_
  refine S9 3 rfl rfl rfl (A0 rfl) (A0 rfl) (V2 _) rfl p8 rfl qz3 ?_
  refine R5 ?_
  refine A4 rfl (B2 rfl Tryz.call30 rfl (M9 _ _ _) (A1 (A0 rfl) (A1 D8 (A1 D8 A7)))) ?_
  refine R3 ?_
  exact H3 [2, 2, 2, 2, 2, 2, 2] 2 (nin A3.ow w.Txns T ++ nin A2.ow w.Looks L) [] ((BL5 w a.At.toNat ⟨a.By - 5⟩, within a.By 0 10)) (qz20) rfl (show List.Perm (nin A3.ow w.Txns T ++ nin A2.ow w.Looks L) ((nin A3.ow w.Txns T ++ nin A2.ow w.Looks L) ++ []) from B5) qz63 (E4 rfl (A8 rfl B0))
 intro h45
 have k45 := D5 h45; try simp only [A5] at k45
 refine R5 ?_
 refine A6 (A0 rfl) ?_ ?_
 ·intro h62
  have k62 := D1 h62; try simp only [A5] at k62
  refine R5 ?_
  refine I1 [2, 2, 2, 2, 2, 2, 2] 2 7 (nin A3.ow w.Txns T ++ nin A2.ow w.Looks L) ([]) (fun zz => nin A3.ow zz.1.Txns T ++ nin A2.ow zz.1.Looks L) rfl rfl rfl rfl Tryz.call165 rfl rfl (show List.Perm (nin A3.ow w.Txns T ++ nin A2.ow w.Looks L) ((nin A3.ow w.Txns T ++ nin A2.ow w.Looks L) ++ ([])) from B5) (BX2 b w X T L a.At hw hin) (A1 (A0 rfl) (A1 (A0 rfl) A7)) (fun a => J7) ?_
  intro x67 ok67
  refine R3 ?_
  exact H3 [0, 0, 0, 0, 0, 0, 0] 2 (nin A3.ow x67.1.Txns T ++ nin A2.ow x67.1.Looks L) [] ((x67.1, x67.2)) (qz20) rfl (show List.Perm (nin A3.ow x67.1.Txns T ++ nin A2.ow x67.1.Looks L) ((nin A3.ow x67.1.Txns T ++ nin A2.ow x67.1.Looks L) ++ []) from B5) qz63 (E4 rfl (A8 rfl B0))
 intro h62
 have k62 := D5 h62; try simp only [A5] at k62
 refine R5 ?_
 refine A6 (A0 rfl) ?_ ?_
 ·intro h68
  have k68 := D1 h68; try simp only [A5] at k68
  refine R1 ?_
  refine Q8 _ 17 (.pure 0 (.pure 1 (.pure 2 (.pure 3 (.pure 4 (.pure 5 (.pure 6 (.pure 7 (.pure 8 (.pure 9 (.pure 10 (.pure 11 (.pure 12 (.pure 13 (.pure 14 (.e1 15 (.e1 16 .nil))))))))))))))))) F2 F2 rfl (O2 9) ?_
  refine R6 ?_
  refine K4 rfl rfl rfl (fun ext => E8 4 rfl G7 C8 (A0 rfl) rfl (A0 rfl) qz8 f6) ?_
  refine K4 rfl rfl rfl (fun ext => W9 4 rfl (A0 rfl) rfl J9 C8 qz6 D3) ?_
  refine R2 ?_
  refine K4 rfl rfl rfl (fun ext => Ag3 rfl (A0 rfl) D8 qz3) ?_
  simp only [hm]
  refine K4 rfl rfl rfl (fun ext => B2 rfl Tryz.call192 rfl (Ba5 gi m qz8) (A1 (A0 rfl) (A1 (A0 rfl) A7))) ?_
  refine R4 ?_
  refine F7 rfl rfl rfl (Y2 9 <| T2 rfl Tryz.zeroValue178 rfl) (fun a _ => qz4) ?_
  intro b8 _
  refine R1 ?_
  refine c8 rfl rfl rfl (W8 9 rfl rfl (A0 rfl) (A0 rfl) (V2 _) rfl C8 rfl) (fun a _ => qz4) ?_
  intro _ _
  refine R13 ?_
  refine L8 8 F2 F2 rfl ?_
  refine R7 ?_
  refine C3 rfl rfl (E8 4 rfl G7 C8 (A0 rfl) rfl (A0 rfl) qz8 f6) ?_
  refine R1 ?_
  refine S9 4 rfl rfl rfl (A0 rfl) (A0 rfl) (V2 _) rfl C8 rfl qz3 ?_
  refine R7 ?_
  exact H3 [2, 2, 2, 2, 2, 2, 2] 3 (nin A3.ow w.Txns T ++ nin A2.ow w.Looks L) [] ((wGroup w q.toNat (crashR gi m).1, (crashR gi m).2)) (qz20) rfl (show List.Perm (nin A3.ow w.Txns T ++ nin A2.ow w.Looks L) ((nin A3.ow w.Txns T ++ nin A2.ow w.Looks L) ++ []) from B5) qz63 (E4 rfl (A8 rfl B0))
 intro h68
 have k68 := D5 h68; try simp only [A5] at k68
 refine R1 ?_
 refine Q8 _ 17 (.pure 0 (.pure 1 (.pure 2 (.pure 3 (.pure 4 (.pure 5 (.pure 6 (.pure 7 (.pure 8 (.pure 9 (.pure 10 (.pure 11 (.pure 12 (.pure 13 (.pure 14 (.e1 15 (.e1 16 .nil))))))))))))))))) F2 F2 rfl (O2 9) ?_
 refine R6 ?_
 refine K4 rfl rfl rfl (fun ext => E8 4 rfl G7 C8 (A0 rfl) rfl (A0 rfl) qz8 f6) ?_
 refine K4 rfl rfl rfl (fun ext => W9 4 rfl (A0 rfl) rfl J9 C8 qz6 D3) ?_
 refine R2 ?_
 refine K4 rfl rfl rfl (fun ext => Ag3 rfl (A0 rfl) D8 qz3) ?_
 simp only [hm]
 refine K4 rfl rfl rfl (fun ext => B2 rfl Tryz.call193 rfl (Ba6 gi m qz8) (A1 (A0 rfl) (A1 (A0 rfl) A7))) ?_
 refine R4 ?_
 refine F7 rfl rfl rfl (Y2 9 <| T2 rfl Tryz.zeroValue178 rfl) (fun a _ => qz4) ?_
 intro b10 _
 refine R1 ?_
 refine c8 rfl rfl rfl (W8 9 rfl rfl (A0 rfl) (A0 rfl) (V2 _) rfl C8 rfl) (fun a _ => qz4) ?_
 intro _ _
 refine R13 ?_
 refine L8 8 F2 F2 rfl ?_
 refine R7 ?_
 refine C3 rfl rfl (E8 4 rfl G7 C8 (A0 rfl) rfl (A0 rfl) qz8 f6) ?_
 refine R1 ?_
 refine S9 4 rfl rfl rfl (A0 rfl) (A0 rfl) (V2 _) rfl C8 rfl qz3 ?_
 refine R7 ?_
 exact H3 [2, 2, 2, 2, 2, 2, 2] 3 (nin A3.ow w.Txns T ++ nin A2.ow w.Looks L) [] ((wGroup w q.toNat (startR gi m).1, (startR gi m).2)) (qz20) rfl (show List.Perm (nin A3.ow w.Txns T ++ nin A2.ow w.Looks L) ((nin A3.ow w.Txns T ++ nin A2.ow w.Looks L) ++ []) from B5) qz63 (E4 rfl (A8 rfl B0))
theorem BQ5 (b : Nat) (w : TWorld) (X : WX) (T : List (Value × Value)) (L : List Value) (a : Q7) (hw : WI w) (hc9 : ∀ x ∈ w.Txns, x.Begin < w.Count) (hT : T.length = w.Txns.length) (ha : X7 a) : C9 Tryz.prog 185 [AV.ptr b 0, AV.agg a.cs] (WB b w X T L) (fun v : (TWorld × Bool) × List (Value × Value) => (WI v.1.1 ∧ WS w v.1.1) ∧ v.2.length = T.length) (fun v => WB b v.1.1 X v.2 L) (fun v => AV.bool v.1.2) := by
 have hng := hw.n
 have htn := hw.txns.1
 obtain ⟨⟨ha1, ha2⟩, hb1, hb2⟩ := ha
 have hnl := S6 (ocs := A3.ocs) hT
 refine C6 Tryz.func185 rfl Tryz.ntmps185 rfl ?_
 refine R3 ?_
 intro b3
 refine R14 ?_
 refine C3 rfl rfl (B2 rfl Tryz.call30 rfl (M9 _ _ _) (A1 (A0 rfl) (A1 D8 (A1 (A0 rfl) A7)))) ?_
 refine R2 ?_
 refine A6 (A0 rfl) ?_ ?_
 ·intro h16
  refine R5 ?_
  exact H3 [1, 1, 1, 1, 1, 1, 1] 1 (nin A3.ow w.Txns T ++ nin A2.ow w.Looks L) [] (((w, false), T)) (qz52) rfl (show List.Perm (nin A3.ow w.Txns T ++ nin A2.ow w.Looks L) ((nin A3.ow w.Txns T ++ nin A2.ow w.Looks L) ++ []) from B5) B0 (E4 rfl (A8 rfl B0))
 intro h16
 have hin : 0 ≤ a.At ∧ a.At.toNat < w.Txns.length := (by rw [S6 hT] at h16; have h9 : within a.At 0 ((w.Txns.length : Int) - 1) = true := At4; unfold within at h9; rw [Bool.and_eq_true, decide_eq_true_eq, decide_eq_true_eq] at h9; omega)
 obtain ⟨tx, htx⟩ := get_some hin.2
 obtain ⟨y, hy⟩ := get_some (show a.At.toNat < T.length by omega)
 have hat : 1 ≤ a.At + 1 ∧ (a.At + 1 - 1).toNat < w.Txns.length := ⟨by omega, by rw [show a.At + 1 - 1 = a.At by omega]; exact hin.2⟩
 refine R10 ?_
 refine C3 rfl rfl (E8 6 rfl K0 N7 (A0 rfl) rfl (A0 rfl) qz8 (by rw [S6 hT]; omega)) ?_
 refine R14 ?_
 refine A6 (A0 rfl) ?_ ?_
 ·intro h27
  have k27 := D1 h27; try simp only [A5] at k27
  refine R6 ?_
  refine I1 [1, 1, 1, 1, 1, 1, 1] 1 7 (nin A3.ow w.Txns T ++ nin A2.ow w.Looks L) ([]) (fun zz => nin A3.ow zz.1.1.Txns zz.2 ++ nin A2.ow zz.1.1.Looks L) rfl rfl rfl rfl Tryz.call196 rfl rfl (show List.Perm (nin A3.ow w.Txns T ++ nin A2.ow w.Looks L) ((nin A3.ow w.Txns T ++ nin A2.ow w.Looks L) ++ ([])) from B5) (goOn_own b w X T L (a.At + 1) hw hc9 hT hat) (A1 (A0 rfl) (A1 (A0 rfl) A7)) (fun a => J7) ?_
  intro x33 ok33
  refine R3 ?_
  exact H3 [0, 0, 0, 0, 0, 0, 0] 1 (nin A3.ow x33.1.1.Txns x33.2 ++ nin A2.ow x33.1.1.Looks L) [] (((x33.1.1, x33.1.2), x33.2)) (qz52) rfl (show List.Perm (nin A3.ow x33.1.1.Txns x33.2 ++ nin A2.ow x33.1.1.Looks L) ((nin A3.ow x33.1.1.Txns x33.2 ++ nin A2.ow x33.1.1.Looks L) ++ []) from B5) B0 (E4 rfl (A8 rfl B0))
 intro h27
 have k27 := D5 h27; try simp only [A5] at k27
 refine R5 ?_
 refine A6 (A0 rfl) ?_ ?_
 ·intro h34
  have k34 := D1 h34; try simp only [A5] at k34
  refine R6 ?_
  refine I1 [1, 1, 1, 1, 1, 1, 1] 1 7 (nin A3.ow w.Txns T ++ nin A2.ow w.Looks L) ([]) (fun zz => nin A3.ow zz.1.Txns T ++ nin A2.ow zz.1.Looks L) rfl rfl rfl rfl Tryz.call197 rfl rfl (show List.Perm (nin A3.ow w.Txns T ++ nin A2.ow w.Looks L) ((nin A3.ow w.Txns T ++ nin A2.ow w.Looks L) ++ ([])) from B5) (BJ8 b w X T L (a.At + 1) hw) (A1 (A0 rfl) (A1 (A0 rfl) A7)) (fun a => J7) ?_
  intro x40 ok40
  refine R3 ?_
  exact H3 [0, 0, 0, 0, 0, 0, 0] 1 (nin A3.ow x40.1.Txns T ++ nin A2.ow x40.1.Looks L) [] (((x40.1, x40.2), T)) (qz52) rfl (show List.Perm (nin A3.ow x40.1.Txns T ++ nin A2.ow x40.1.Looks L) ((nin A3.ow x40.1.Txns T ++ nin A2.ow x40.1.Looks L) ++ []) from B5) B0 (E4 rfl (A8 rfl B0))
 intro h34
 have k34 := D5 h34; try simp only [A5] at k34
 refine R5 ?_
 refine A4 rfl (S8 6 rfl (A0 rfl) rfl qz2 rfl) ?_
 refine A4 rfl (I9 6 rfl H6 rfl N9 (A0 rfl) rfl rfl qz2) ?_
 refine A4 rfl (K1 6 rfl (A0 rfl) rfl g9 qz2 rfl) ?_
 refine R2 ?_
 refine U1 rfl (fun hc => S8 6 rfl (B1 rfl hc) rfl qz2 rfl) ?_
 refine U1 rfl (fun hc => I9 6 rfl H6 rfl B6 (B1 rfl hc) rfl rfl qz2) ?_
 refine U1 rfl (fun hc => K1 6 rfl (B1 rfl hc) rfl I7 qz2 rfl) ?_
 refine R3 ?_
 refine A6 (A0 rfl) ?_ ?_
 ·intro h51
  refine R5 ?_
  exact H3 [1, 1, 1, 1, 1, 1, 1] 1 (nin A3.ow w.Txns T ++ nin A2.ow w.Looks L) [] (((w, false), T)) (qz52) rfl (show List.Perm (nin A3.ow w.Txns T ++ nin A2.ow w.Looks L) ((nin A3.ow w.Txns T ++ nin A2.ow w.Looks L) ++ []) from B5) B0 (E4 rfl (A8 rfl B0))
 intro h51
 have hwf := wf_stop hw htx
 obtain ⟨W', hW⟩ : ∃ W', wTxn w a.At.toNat (Aw1 tx) = W' := ⟨_, rfl⟩
 rw [hW] at hwf
 have hfr := Ak5 b W' X T L (a.At + 1) hwf.wi
 refine R4 ?_
 refine A4 rfl (S8 6 rfl (A0 rfl) rfl qz2 rfl) ?_
 refine A4 rfl (I9 6 rfl H6 rfl N9 (A0 rfl) rfl rfl qz2) ?_
 refine T1 6 rfl rfl rfl (A0 rfl) t0 (u4 _) rfl N9 qz2 rfl ?_
 refine R2 ?_
 refine I3 (show _ = Go.AV.Own.box b3 173 a.cs :: WB b W' X T L from (by rw [← hW]; unfold WB wTxn; dsimp only; rw [j7 htx hy, AE4 (p' := Aw1 tx) htx (fun _ => rfl)]; rfl)) ?_
 refine R5 ?_
 refine I1 [1, 1, 1, 1, 1, 1, 1] 1 7 (nin A3.ow W'.Txns T ++ nin A2.ow W'.Looks L) ([]) (fun zz => nin A3.ow W'.Txns T ++ nin A2.ow W'.Looks L) rfl rfl rfl rfl Tryz.call198 rfl rfl (show List.Perm (nin A3.ow W'.Txns T ++ nin A2.ow W'.Looks L) ((nin A3.ow W'.Txns T ++ nin A2.ow W'.Looks L) ++ ([])) from B5) (hfr) (A1 (A0 rfl) (A1 (A0 rfl) A7)) (fun a => J7) ?_
 intro x59 ok59
 refine R6 ?_
 exact H3 [0, 0, 0, 0, 0, 0, 0] 1 (nin A3.ow W'.Txns T ++ nin A2.ow W'.Looks L) [] (((r9 W' x59, true), T)) (qz52) rfl (show List.Perm (nin A3.ow W'.Txns T ++ nin A2.ow W'.Looks L) ((nin A3.ow W'.Txns T ++ nin A2.ow W'.Looks L) ++ []) from B5) B0 (E4 rfl (A8 rfl B0))
end Go.Proofs.YtcfkbhnpfjjmjaaGreat
namespace Go.M
open Go.AV
theorem CD7 (b : Bool) : ¬ (b && false) = true := by cases b <;> decide
def DoOk (w v : TWorld) (T' : List (Value × Value)) (L' : List Value) : Prop := WI v ∧ (v.Count = w.Count ∧ w.Count < 1000000) ∧ T'.length = v.Txns.length ∧ L'.length = v.Looks.length
end Go.M
namespace Go.Proofs.YtcfkbhnpfjjmjaaGreat
open Go Go.AV Go.M
attribute [local irreducible] OpW OpA OpS AWP B9 J2 C9 OpE RetOk H0 I6 Le Ev F1 J8 V9 Int.tmod Int.tdiv IntKind.wrap bandI
theorem Bd2 {w v : TWorld} {T T' : List (Value × Value)} {L L' : List Value} (hT : T.length = w.Txns.length) (hL : L.length = w.Looks.length) (h : WI v ∧ WS w v) (h1 : T'.length = T.length) (h2 : L'.length = L.length) (hc : w.Count < 1000000) : DoOk w v T' L' := ⟨h.1, ⟨h.2.count, hc⟩, by rw [h1, hT, h.2.txns], by rw [h2, hL, h.2.looks]⟩
theorem do_own (b : Nat) (w : TWorld) (X : WX) (T : List (Value × Value)) (L : List Value) (a : Q7) (hw : WI w) (hq : WQ w) (hT : T.length = w.Txns.length) (hL : L.length = w.Looks.length) (ha : X7 a) : C9 Tryz.prog 167 [AV.ptr b 0, AV.agg a.cs] (WB b w X T L) (fun v : (TWorld × Bool) × List (Value × Value) × List Value => v.1.2 = true → DoOk w v.1.1 v.2.1 v.2.2) (fun v => WB b v.1.1 X v.2.1 v.2.2) (fun v => AV.bool v.1.2) := by
 have hng := hw.n
 have hnw := hw.now
 obtain ⟨⟨ha1, ha2⟩, hb1, hb2⟩ := id ha
 have hln := hw.looks.1
 have hnL := S6 (ocs := A2.ocs) hL
 have hself : WI w ∧ WS w w := ⟨hw, WS.refl w⟩
 refine C6 Tryz.func167 rfl Tryz.ntmps167 rfl ?_
 refine R3 ?_
 intro b3
 refine R22 ?_
 refine A6 (A0 rfl) ?_ ?_
 ·intro h20
  refine R5 ?_
  exact H3 [1, 1, 1, 1, 1, 1, 1] 1 (nin A3.ow w.Txns T ++ nin A2.ow w.Looks L) [] (((w, false), T, L)) (qz7) rfl (show List.Perm (nin A3.ow w.Txns T ++ nin A2.ow w.Looks L) ((nin A3.ow w.Txns T ++ nin A2.ow w.Looks L) ++ []) from B5) B0 (E4 rfl (A8 rfl B0))
 intro h20
 have hcn : w.Count < 1000000 := (by have h9 := hw.count.2; simp at h20; omega)
 refine R13 ?_
 refine A6 (A0 rfl) ?_ ?_
 ·intro h23
  have k23 := D1 h23; try simp only [A5] at k23
  refine R1 ?_
  refine L8 11 F2 F2 rfl ?_
  refine R18 ?_
  refine A4 rfl (B2 rfl Tryz.call30 rfl (M9 _ _ _) (A1 (A0 rfl) (A1 D8 (A1 D8 A7)))) ?_
  refine R11 ?_
  exact H3 [1, 1, 1, 1, 1, 1, 1] 1 (nin A3.ow w.Txns T ++ nin A2.ow w.Looks L) [] ((({ w with Now := w.Now + a.At }, within a.At 1 20 && decide (w.Now + a.At ≤ 100000)), T, L)) (qz7) rfl (show List.Perm (nin A3.ow w.Txns T ++ nin A2.ow w.Looks L) ((nin A3.ow w.Txns T ++ nin A2.ow w.Looks L) ++ []) from B5) B0 (E4 rfl (A8 rfl B0))
 intro h23
 have k23 := D5 h23; try simp only [A5] at k23
 refine R6 ?_
 refine A6 (A0 rfl) ?_ ?_
 ·intro h47
  have k47 := D1 h47; try simp only [A5] at k47
  refine R1 ?_
  refine A6 (A0 rfl) ?_ ?_
  ·intro h47
   have k47 := D1 h47; try simp only [A5] at k47
   refine R4 ?_
   refine I1 [1, 1, 1, 1, 1, 1, 1] 1 7 (nin A3.ow w.Txns T ++ nin A2.ow w.Looks L) ([]) (fun zz => nin A3.ow zz.1.Txns T ++ nin A2.ow zz.1.Looks L) rfl rfl rfl rfl Tryz.call183 rfl rfl (show List.Perm (nin A3.ow w.Txns T ++ nin A2.ow w.Looks L) ((nin A3.ow w.Txns T ++ nin A2.ow w.Looks L) ++ ([])) from B5) (Ak8 b w X T L a hw ha) (A1 (A0 rfl) (A1 (A0 rfl) A7)) (fun a => J7) ?_
   intro x54 ok54
   refine R3 ?_
   exact H3 [0, 0, 0, 0, 0, 0, 0] 1 (nin A3.ow x54.1.Txns T ++ nin A2.ow x54.1.Looks L) [] (((x54.1, x54.2), T, L)) (qz7) rfl (show List.Perm (nin A3.ow x54.1.Txns T ++ nin A2.ow x54.1.Looks L) ((nin A3.ow x54.1.Txns T ++ nin A2.ow x54.1.Looks L) ++ []) from B5) B0 (E4 rfl (A8 rfl B0))
  intro hz9; rw [h47] at hz9; cases hz9
 intro h47
 have k47 := D5 h47; try simp only [A5] at k47
 refine R5 ?_
 refine A6 (A0 rfl) ?_ ?_
 ·intro h47
  have k47 := D1 h47; try simp only [A5] at k47
  refine R1 ?_
  refine A6 (A0 rfl) ?_ ?_
  ·intro h47
   have k47 := D1 h47; try simp only [A5] at k47
   refine R4 ?_
   refine I1 [1, 1, 1, 1, 1, 1, 1] 1 7 (nin A3.ow w.Txns T ++ nin A2.ow w.Looks L) ([]) (fun zz => nin A3.ow zz.1.Txns T ++ nin A2.ow zz.1.Looks L) rfl rfl rfl rfl Tryz.call183 rfl rfl (show List.Perm (nin A3.ow w.Txns T ++ nin A2.ow w.Looks L) ((nin A3.ow w.Txns T ++ nin A2.ow w.Looks L) ++ ([])) from B5) (Ak8 b w X T L a hw ha) (A1 (A0 rfl) (A1 (A0 rfl) A7)) (fun a => J7) ?_
   intro x54 ok54
   refine R3 ?_
   exact H3 [0, 0, 0, 0, 0, 0, 0] 1 (nin A3.ow x54.1.Txns T ++ nin A2.ow x54.1.Looks L) [] (((x54.1, x54.2), T, L)) (qz7) rfl (show List.Perm (nin A3.ow x54.1.Txns T ++ nin A2.ow x54.1.Looks L) ((nin A3.ow x54.1.Txns T ++ nin A2.ow x54.1.Looks L) ++ []) from B5) B0 (E4 rfl (A8 rfl B0))
  intro hz9; rw [h47] at hz9; cases hz9
 intro h47
 have k47 := D5 h47; try simp only [A5] at k47
 refine R5 ?_
 refine A6 (A0 rfl) ?_ ?_
 ·intro h47
  have k47 := D1 h47; try simp only [A5] at k47
  refine R1 ?_
  refine A6 (A0 rfl) ?_ ?_
  ·intro h47
   have k47 := D1 h47; try simp only [A5] at k47
   refine R4 ?_
   refine I1 [1, 1, 1, 1, 1, 1, 1] 1 7 (nin A3.ow w.Txns T ++ nin A2.ow w.Looks L) ([]) (fun zz => nin A3.ow zz.1.Txns T ++ nin A2.ow zz.1.Looks L) rfl rfl rfl rfl Tryz.call183 rfl rfl (show List.Perm (nin A3.ow w.Txns T ++ nin A2.ow w.Looks L) ((nin A3.ow w.Txns T ++ nin A2.ow w.Looks L) ++ ([])) from B5) (Ak8 b w X T L a hw ha) (A1 (A0 rfl) (A1 (A0 rfl) A7)) (fun a => J7) ?_
   intro x54 ok54
   refine R3 ?_
   exact H3 [0, 0, 0, 0, 0, 0, 0] 1 (nin A3.ow x54.1.Txns T ++ nin A2.ow x54.1.Looks L) [] (((x54.1, x54.2), T, L)) (qz7) rfl (show List.Perm (nin A3.ow x54.1.Txns T ++ nin A2.ow x54.1.Looks L) ((nin A3.ow x54.1.Txns T ++ nin A2.ow x54.1.Looks L) ++ []) from B5) B0 (E4 rfl (A8 rfl B0))
  intro hz9; rw [h47] at hz9; cases hz9
 intro h47
 have k47 := D5 h47; try simp only [A5] at k47
 refine R4 ?_
 refine A6 (A0 rfl) ?_ ?_
 ·intro h47
  have k47 := D1 h47; try simp only [A5] at k47
  refine R4 ?_
  refine I1 [1, 1, 1, 1, 1, 1, 1] 1 7 (nin A3.ow w.Txns T ++ nin A2.ow w.Looks L) ([]) (fun zz => nin A3.ow zz.1.Txns T ++ nin A2.ow zz.1.Looks L) rfl rfl rfl rfl Tryz.call183 rfl rfl (show List.Perm (nin A3.ow w.Txns T ++ nin A2.ow w.Looks L) ((nin A3.ow w.Txns T ++ nin A2.ow w.Looks L) ++ ([])) from B5) (Ak8 b w X T L a hw ha) (A1 (A0 rfl) (A1 (A0 rfl) A7)) (fun a => J7) ?_
  intro x54 ok54
  refine R3 ?_
  exact H3 [0, 0, 0, 0, 0, 0, 0] 1 (nin A3.ow x54.1.Txns T ++ nin A2.ow x54.1.Looks L) [] (((x54.1, x54.2), T, L)) (qz7) rfl (show List.Perm (nin A3.ow x54.1.Txns T ++ nin A2.ow x54.1.Looks L) ((nin A3.ow x54.1.Txns T ++ nin A2.ow x54.1.Looks L) ++ []) from B5) B0 (E4 rfl (A8 rfl B0))
 intro h47
 have k47 := D5 h47; try simp only [A5] at k47
 refine R5 ?_
 refine A6 (A0 rfl) ?_ ?_
 ·intro h55
  have k55 := D1 h55; try simp only [A5] at k55
  obtain ⟨gi, hgx⟩ : ∃ gi : TGroup, a.At.toNat < w.Groups.length → w.Groups[a.At.toNat]? = some gi := ⟨(w.Groups[a.At.toNat]?).getD zGroup, fun h9 => by rw [List.getElem?_eq_getElem h9]; rfl⟩
  refine R12 ?_
  refine C3 rfl rfl (B2 rfl Tryz.call30 rfl (M9 _ _ _) (A1 (A0 rfl) (A1 D8 (A1 (A0 rfl) A7)))) ?_
  refine R9 ?_
  refine L2 rfl (S2 rfl rfl rfl) (fun hc => E8 3 rfl G7 C8 (B1 rfl hc) rfl (B1 rfl hc) (by first | omega | (simp at hc; unfold within at hc; simp at hc; omega)) (by simp only [A5] at *; first | omega | (simp at hc; unfold within at hc; simp at hc; omega))) ?_
  refine L2 rfl (S2 rfl rfl rfl) (fun hc => I9 3 rfl Q2 rfl B6 (B1 rfl hc) rfl rfl qz97) ?_
  refine L2 rfl (S2 rfl rfl rfl) (fun hc => K1 3 rfl (B1 rfl hc) rfl I7 qz97 rfl) ?_
  refine R3 ?_
  refine A6 (A0 rfl) ?_ ?_
  ·intro h80
   refine R5 ?_
   exact H3 [1, 1, 1, 1, 1, 1, 1] 1 (nin A3.ow w.Txns T ++ nin A2.ow w.Looks L) [] (((w, false), T, L)) (qz7) rfl (show List.Perm (nin A3.ow w.Txns T ++ nin A2.ow w.Looks L) ((nin A3.ow w.Txns T ++ nin A2.ow w.Looks L) ++ []) from B5) B0 (E4 rfl (A8 rfl B0))
  intro h80
  have hin : 0 ≤ a.At ∧ a.At.toNat < w.Groups.length := (by simp only [A5] at h80; have h9 : within a.At 0 ((w.Groups.length : Int) - 1) = true := (by simp at h80; exact h80.1); unfold within at h9; rw [Bool.and_eq_true, decide_eq_true_eq, decide_eq_true_eq] at h9; omega)
  have hx := hgx hin.2
  refine R6 ?_
  refine I1 [1, 1, 1, 1, 1, 1, 1] 1 7 (nin A3.ow w.Txns T ++ nin A2.ow w.Looks L) ([]) (fun zz => nin A3.ow w.Txns T ++ nin A2.ow w.Looks L) rfl rfl rfl rfl Tryz.call184 rfl rfl (show List.Perm (nin A3.ow w.Txns T ++ nin A2.ow w.Looks L) ((nin A3.ow w.Txns T ++ nin A2.ow w.Looks L) ++ ([])) from B5) (AF8 b w X T L a.At gi hx hin.1 (hw.groups gi (C4 hx))) (A1 (A0 rfl) (A1 (A0 rfl) A7)) (fun a => J7) ?_
  intro x84 ok84
  refine R6 ?_
  exact H3 [0, 0, 0, 0, 0, 0, 0] 1 (nin A3.ow w.Txns T ++ nin A2.ow w.Looks L) [] (((wGroup w a.At.toNat x84, true), T, L)) (qz7) rfl (show List.Perm (nin A3.ow w.Txns T ++ nin A2.ow w.Looks L) ((nin A3.ow w.Txns T ++ nin A2.ow w.Looks L) ++ []) from B5) B0 (E4 rfl (A8 rfl B0))
 intro h55
 have k55 := D5 h55; try simp only [A5] at k55
 refine R6 ?_
 refine A6 (A0 rfl) ?_ ?_
 ·intro h85
  have k85 := D1 h85; try simp only [A5] at k85
  refine R1 ?_
  refine A6 (A0 rfl) ?_ ?_
  ·intro h85
   have k85 := D1 h85; try simp only [A5] at k85
   refine R4 ?_
   refine I1 [1, 1, 1, 1, 1, 1, 1] 1 7 (nin A3.ow w.Txns T ++ nin A2.ow w.Looks L) ([]) (fun zz => nin A3.ow zz.1.1.Txns zz.2 ++ nin A2.ow zz.1.1.Looks L) rfl rfl rfl rfl Tryz.call185 rfl rfl (show List.Perm (nin A3.ow w.Txns T ++ nin A2.ow w.Looks L) ((nin A3.ow w.Txns T ++ nin A2.ow w.Looks L) ++ ([])) from B5) (BQ5 b w X T L a hw hq.txns hT ha) (A1 (A0 rfl) (A1 (A0 rfl) A7)) (fun a => J7) ?_
   intro x91 ok91
   refine R3 ?_
   exact H3 [0, 0, 0, 0, 0, 0, 0] 1 (nin A3.ow x91.1.1.Txns x91.2 ++ nin A2.ow x91.1.1.Looks L) [] (((x91.1.1, x91.1.2), x91.2, L)) (qz7) rfl (show List.Perm (nin A3.ow x91.1.1.Txns x91.2 ++ nin A2.ow x91.1.1.Looks L) ((nin A3.ow x91.1.1.Txns x91.2 ++ nin A2.ow x91.1.1.Looks L) ++ []) from B5) B0 (E4 rfl (A8 rfl B0))
  intro hz9; rw [h85] at hz9; cases hz9
 intro h85
 have k85 := D5 h85; try simp only [A5] at k85
 refine R5 ?_
 refine A6 (A0 rfl) ?_ ?_
 ·intro h85
  have k85 := D1 h85; try simp only [A5] at k85
  refine R1 ?_
  refine A6 (A0 rfl) ?_ ?_
  ·intro h85
   have k85 := D1 h85; try simp only [A5] at k85
   refine R4 ?_
   refine I1 [1, 1, 1, 1, 1, 1, 1] 1 7 (nin A3.ow w.Txns T ++ nin A2.ow w.Looks L) ([]) (fun zz => nin A3.ow zz.1.1.Txns zz.2 ++ nin A2.ow zz.1.1.Looks L) rfl rfl rfl rfl Tryz.call185 rfl rfl (show List.Perm (nin A3.ow w.Txns T ++ nin A2.ow w.Looks L) ((nin A3.ow w.Txns T ++ nin A2.ow w.Looks L) ++ ([])) from B5) (BQ5 b w X T L a hw hq.txns hT ha) (A1 (A0 rfl) (A1 (A0 rfl) A7)) (fun a => J7) ?_
   intro x91 ok91
   refine R3 ?_
   exact H3 [0, 0, 0, 0, 0, 0, 0] 1 (nin A3.ow x91.1.1.Txns x91.2 ++ nin A2.ow x91.1.1.Looks L) [] (((x91.1.1, x91.1.2), x91.2, L)) (qz7) rfl (show List.Perm (nin A3.ow x91.1.1.Txns x91.2 ++ nin A2.ow x91.1.1.Looks L) ((nin A3.ow x91.1.1.Txns x91.2 ++ nin A2.ow x91.1.1.Looks L) ++ []) from B5) B0 (E4 rfl (A8 rfl B0))
  intro hz9; rw [h85] at hz9; cases hz9
 intro h85
 have k85 := D5 h85; try simp only [A5] at k85
 refine R4 ?_
 refine A6 (A0 rfl) ?_ ?_
 ·intro h85
  have k85 := D1 h85; try simp only [A5] at k85
  refine R4 ?_
  refine I1 [1, 1, 1, 1, 1, 1, 1] 1 7 (nin A3.ow w.Txns T ++ nin A2.ow w.Looks L) ([]) (fun zz => nin A3.ow zz.1.1.Txns zz.2 ++ nin A2.ow zz.1.1.Looks L) rfl rfl rfl rfl Tryz.call185 rfl rfl (show List.Perm (nin A3.ow w.Txns T ++ nin A2.ow w.Looks L) ((nin A3.ow w.Txns T ++ nin A2.ow w.Looks L) ++ ([])) from B5) (BQ5 b w X T L a hw hq.txns hT ha) (A1 (A0 rfl) (A1 (A0 rfl) A7)) (fun a => J7) ?_
  intro x91 ok91
  refine R3 ?_
  exact H3 [0, 0, 0, 0, 0, 0, 0] 1 (nin A3.ow x91.1.1.Txns x91.2 ++ nin A2.ow x91.1.1.Looks L) [] (((x91.1.1, x91.1.2), x91.2, L)) (qz7) rfl (show List.Perm (nin A3.ow x91.1.1.Txns x91.2 ++ nin A2.ow x91.1.1.Looks L) ((nin A3.ow x91.1.1.Txns x91.2 ++ nin A2.ow x91.1.1.Looks L) ++ []) from B5) B0 (E4 rfl (A8 rfl B0))
 intro h85
 have k85 := D5 h85; try simp only [A5] at k85
 refine R5 ?_
 refine A6 (A0 rfl) ?_ ?_
 ·intro h92
  have k92 := D1 h92; try simp only [A5] at k92
  refine R1 ?_
  refine L8 14 F2 F2 rfl ?_
  refine R9 ?_
  refine C3 rfl rfl (B2 rfl Tryz.call30 rfl (M9 _ _ _) (A1 (A0 rfl) (A1 D8 (A1 (A0 rfl) A7)))) ?_
  refine R5 ?_
  refine AW4 rfl rfl (O5 rfl rfl rfl) ?_ ?_
  ·intro gh108
   refine I1 [1, 1, 1, 1, 1, 1, 1] 1 7 (nin A3.ow w.Txns T ++ nin A2.ow w.Looks L) ([]) (fun zz => nin A3.ow zz.1.1.Txns T ++ nin A2.ow zz.1.1.Looks zz.2) rfl rfl rfl rfl Tryz.call186 rfl rfl (show List.Perm (nin A3.ow w.Txns T ++ nin A2.ow w.Looks L) ((nin A3.ow w.Txns T ++ nin A2.ow w.Looks L) ++ ([])) from B5) (look_own b w X T L a.At hw hq.looks hL (by rw [S6 hL] at gh108; have h9 : within a.At 0 ((w.Looks.length : Int) - 1) = true := gh108; unfold within at h9; rw [Bool.and_eq_true, decide_eq_true_eq, decide_eq_true_eq] at h9; omega)) (A1 (B1 rfl gh108) (A1 (B1 rfl gh108) A7)) (fun a => J7) ?_
   intro x108 ok108
   refine R4 ?_
   exact H3 [0, 0, 0, 0, 0, 0, 0] 1 (nin A3.ow x108.1.1.Txns T ++ nin A2.ow x108.1.1.Looks x108.2) [] (((x108.1.1, within a.At 0 ((((nrows A2.ocs w.Looks L).length : Nat) : Int) - 1) && x108.1.2), T, x108.2)) (qz7) rfl (show List.Perm (nin A3.ow x108.1.1.Txns T ++ nin A2.ow x108.1.1.Looks x108.2) ((nin A3.ow x108.1.1.Txns T ++ nin A2.ow x108.1.1.Looks x108.2) ++ []) from B5) B0 (E4 rfl (A8 rfl B0))
  intro gh108
  refine A4 rfl (w_and rfl (A0 rfl) (BO3 (x := AV.bool false) gh108)) ?_
  refine R3 ?_
  exact H3 [1, 1, 1, 1, 1, 1, 1] 1 (nin A3.ow w.Txns T ++ nin A2.ow w.Looks L) [] (((w, within a.At 0 ((((nrows A2.ocs w.Looks L).length : Nat) : Int) - 1) && false), T, L)) (qz7) rfl (show List.Perm (nin A3.ow w.Txns T ++ nin A2.ow w.Looks L) ((nin A3.ow w.Txns T ++ nin A2.ow w.Looks L) ++ []) from B5) B0 (E4 rfl (A8 rfl B0))
 intro h92
 have k92 := D5 h92; try simp only [A5] at k92
 refine R6 ?_
 exact H3 [1, 1, 1, 1, 1, 1, 1] 1 (nin A3.ow w.Txns T ++ nin A2.ow w.Looks L) [] (((w, false), T, L)) (qz7) rfl (show List.Perm (nin A3.ow w.Txns T ++ nin A2.ow w.Looks L) ((nin A3.ow w.Txns T ++ nin A2.ow w.Looks L) ++ []) from B5) B0 (E4 rfl (A8 rfl B0))
def WA (w : TWorld) (X : WX) (T : List (Value × Value)) (L : List Value) : List Go.AV.Own :=
  .arr X.cl 234 1 (w.Clocks.map V6.cs) :: .arr X.gr 178 3 (w.Groups.map TGroup.cs) :: .arr X.lo 203 1 (w.Locks.map fun l => [AV.list 3 (l.map H8.cs)]) ::
  .arr X.pr 3 1 (w.Promised.map fun n => [AV.int n]) :: .arr X.tx 143 10 (nrows A3.ocs w.Txns T) :: .arr X.lk 152 6 (nrows A2.ocs w.Looks L) ::
  (nin A3.ow w.Txns T ++ nin A2.ow w.Looks L)
def WV (w : TWorld) (X : WX) : List AV := [AV.int w.Now, AV.int w.Count, AV.is X.cl, strs w.Cuts, AV.is X.gr, AV.is X.lo, AV.is X.pr, AV.is X.tx, AV.is X.lk]
theorem Bl4 (g : TGroup) (hs : g.size ≤ 1048576) : B9 Tryz.prog 166 [AV.agg g.cs] (AV.agg g.cs) :=
  K2 (AK8 g hs) fun v _ => AW2 (D0 (J5 (List.mem_singleton.2 rfl) F4) i3)
theorem Bl5 {A : List Go.AV.Own} {l : List A2} {xs : List Value} {p : A2} {x : Value} {i : Nat} (hp : l[i]? = some p) (h : xs.length = i) : (A2.ow p x ++ (A ++ nin A2.ow (l.take i) xs)).Perm (A ++ nin A2.ow (l.take (i + 1)) (xs ++ [x])) :=
  (List.perm_append_comm_assoc _ _ _).trans ((AI8 (ow := A2.ow) (x := x) hp h).append_left _)
theorem As5 (w : TWorld) (hw : WI w) : C9 Tryz.prog 143 [AV.agg w.cs] [] (fun x : WX × List (Value × Value) × List Value => x.2.1.length = w.Txns.length ∧ x.2.2.length = w.Looks.length) (fun x => WA w x.1 x.2.1 x.2.2) (fun x => AV.agg (WV w x.1)) := by
 have hng := hw.n
 have htl := hw.txns.1
 have hll := hw.looks.1
 have hcl := hw.clocks.1
 have hcu := hw.cuts.1
 have hpr := hw.promised.1
 have hlo := hw.locks.1
 refine C6 Tryz.func143 rfl Tryz.ntmps143 rfl ?_
 refine R3 ?_
 intro b1
 refine R1 ?_
 intro b2
 refine R2 ?_
 refine awp_cut3 [(1, _), (2, _)] ⟨rfl, rfl, trivial⟩ (fun (b3 : Nat) (cv : Value) (pv : Value) => [.box b3 116 [AV.int w.Now, AV.int w.Count, AV.is cv, strs w.Cuts, AV.nils, AV.nils, AV.is pv, AV.nils, AV.nils], .box b1 116 w.cs, .box b2 116 (List.map zeroA (Value.agg #[Value.int IntKind.i64 0, Value.int IntKind.i64 0, Value.slice none 0 0, Value.slice none 0 0, Value.slice none 0 0, Value.slice none 0 0, Value.slice none 0 0, Value.slice none 0 0, Value.slice none 0 0]).cells.toList), .arr cv 234 1 (w.Clocks.map V6.cs), .arr pv 3 1 (w.Promised.map fun n => [AV.int n])]) (fun (b3 : Nat) (cv : Value) (pv : Value) => [(3, AV.ptr b3 0)]) ?_ ?_
 ·skip
  refine AWP.le (C1 [1] rfl) ?_
  refine Q8 _ 16 (.pure 0 (.pure 1 (.pure 2 (.pure 3 (.pure 5 (.pure 6 (.pure 8 (.pure 9 (.pure 11 (.pure 12 (.e2 4 (.e2 7 (.pure 10 (.e2 13 (.pure 14 (.e1 15 .nil)) 15 (.e1 13 (.pure 14 .nil)))) 15 (.e1 7 (.pure 10 (.e1 13 (.pure 14 .nil))))) 15 (.e1 4 (.e1 7 (.pure 10 (.e1 13 (.pure 14 .nil)))))))))))))))) F2 F2 rfl (O2 1) ?_
  refine R10 ?_
  refine j5 ?_ ?_
  ·refine F7 rfl rfl rfl (Z4 rfl S4 p8) (fun a _ => qz4) ?_
   intro v14 _
   refine j5 ?_ ?_
   ·refine F7 rfl rfl rfl (S3 2 (fun _ => rfl) (J6 (by' := 8) 2 rfl S4 Tryz.type234 rfl rfl rfl rfl rfl rfl (A0 rfl) (A0 rfl) rfl qz3)) (fun a _ => qz4) ?_
    intro v17_1 hone_v17_1
    have one_v17_1 := hone_v17_1.2
    refine K4 rfl rfl rfl (fun ext => B2 rfl Tryz.call163 rfl (o4 _ qz8) (A1 (A0 rfl) A7)) ?_
    refine j5 ?_ ?_
    ·refine F7 rfl rfl rfl (S3 3 (fun _ => rfl) (O3 [] rfl Tryz.call33 rfl (AE1 w.Promised qz8) (A1 (A0 rfl) A7) rfl)) (fun a _ => qz4) ?_
     intro x23 ok23
     have one_x23 := ok23.2
     replace ok23 := ok23.1
     refine K4 rfl rfl rfl (fun ext => W0 (places := #[(0, 1), (1, 1), (2, 1), (3, 1), (4, 1), (5, 1), (6, 1), (7, 1), (8, 1)]) rfl T6 Tryz.zeroValue116 (fun w => by kernel_rfl) rfl (D7 (A0 rfl) (Q1 _ _) (D7 (A0 rfl) (Q1 _ _) (D7 (A0 rfl) (M0 one_v17_1) (D7 (A0 rfl) (Y1 _ _) (D7 (A0 rfl) (M0 one_x23) T7))))) rfl) ?_
     refine R1 ?_
     refine F7 rfl rfl rfl (T2 rfl Tryz.zeroValue116 rfl) (fun a _ => qz4) ?_
     intro b3 _
     refine R3 ?_
     exact ⟨b3, v17_1, x23, Le.trans (C1 [4, 0, 0, 0, 0] rfl) (E0 0 B0 ⟨rfl, rfl, rfl, trivial⟩)⟩
    refine F7 rfl rfl rfl (T2 rfl Tryz.zeroValue116 rfl) (fun a _ => qz4) ?_
    intro b3 _
    refine R1 ?_
    refine F7 rfl rfl rfl (S3 4 (fun _ => rfl) (O3 [] rfl Tryz.call33 rfl (AE1 w.Promised qz8) (A1 (A0 rfl) A7) rfl)) (fun a _ => qz4) ?_
    intro x23 ok23
    have one_x23 := ok23.2
    replace ok23 := ok23.1
    refine K4 rfl rfl rfl (fun ext => W0 (places := #[(0, 1), (1, 1), (2, 1), (3, 1), (4, 1), (5, 1), (6, 1), (7, 1), (8, 1)]) rfl T6 Tryz.zeroValue116 (fun w => by kernel_rfl) rfl (D7 (A0 rfl) (Q1 _ _) (D7 (A0 rfl) (Q1 _ _) (D7 (A0 rfl) (M0 one_v17_1) (D7 (A0 rfl) (Y1 _ _) (D7 (A0 rfl) (M0 one_x23) T7))))) rfl) ?_
    refine R3 ?_
    exact ⟨b3, v17_1, x23, Le.trans (C1 [3, 0, 0, 0, 0] rfl) (E0 0 B0 ⟨rfl, rfl, rfl, trivial⟩)⟩
   refine F7 rfl rfl rfl (T2 rfl Tryz.zeroValue116 rfl) (fun a _ => qz4) ?_
   intro b3 _
   refine R1 ?_
   refine F7 rfl rfl rfl (S3 2 (fun _ => rfl) (J6 (by' := 8) 2 rfl S4 Tryz.type234 rfl rfl rfl rfl rfl rfl (A0 rfl) (A0 rfl) rfl qz3)) (fun a _ => qz4) ?_
   intro v17_2 hone_v17_2
   have one_v17_2 := hone_v17_2.2
   refine K4 rfl rfl rfl (fun ext => B2 rfl Tryz.call163 rfl (o4 _ qz8) (A1 (A0 rfl) A7)) ?_
   refine R1 ?_
   refine F7 rfl rfl rfl (S3 4 (fun _ => rfl) (O3 [] rfl Tryz.call33 rfl (AE1 w.Promised qz8) (A1 (A0 rfl) A7) rfl)) (fun a _ => qz4) ?_
   intro x23 ok23
   have one_x23 := ok23.2
   replace ok23 := ok23.1
   refine K4 rfl rfl rfl (fun ext => W0 (places := #[(0, 1), (1, 1), (2, 1), (3, 1), (4, 1), (5, 1), (6, 1), (7, 1), (8, 1)]) rfl T6 Tryz.zeroValue116 (fun w => by kernel_rfl) rfl (D7 (A0 rfl) (Q1 _ _) (D7 (A0 rfl) (Q1 _ _) (D7 (A0 rfl) (M0 one_v17_2) (D7 (A0 rfl) (Y1 _ _) (D7 (A0 rfl) (M0 one_x23) T7))))) rfl) ?_
   refine R3 ?_
   exact ⟨b3, v17_2, x23, Le.trans (C1 [3, 0, 0, 0, 0] rfl) (E0 0 B0 ⟨rfl, rfl, rfl, trivial⟩)⟩
  refine F7 rfl rfl rfl (T2 rfl Tryz.zeroValue116 rfl) (fun a _ => qz4) ?_
  intro b3 _
  refine R1 ?_
  refine F7 rfl rfl rfl (Z4 rfl S4 p8) (fun a _ => qz4) ?_
  intro v14 _
  refine R1 ?_
  refine F7 rfl rfl rfl (S3 3 (fun _ => rfl) (J6 (by' := 8) 3 rfl S4 Tryz.type234 rfl rfl rfl rfl rfl rfl (A0 rfl) (A0 rfl) rfl qz3)) (fun a _ => qz4) ?_
  intro v17_3 hone_v17_3
  have one_v17_3 := hone_v17_3.2
  refine K4 rfl rfl rfl (fun ext => B2 rfl Tryz.call163 rfl (o4 _ qz8) (A1 (A0 rfl) A7)) ?_
  refine R1 ?_
  refine F7 rfl rfl rfl (S3 4 (fun _ => rfl) (O3 [] rfl Tryz.call33 rfl (AE1 w.Promised qz8) (A1 (A0 rfl) A7) rfl)) (fun a _ => qz4) ?_
  intro x23 ok23
  have one_x23 := ok23.2
  replace ok23 := ok23.1
  refine K4 rfl rfl rfl (fun ext => W0 (places := #[(0, 1), (1, 1), (2, 1), (3, 1), (4, 1), (5, 1), (6, 1), (7, 1), (8, 1)]) rfl T6 Tryz.zeroValue116 (fun w => by kernel_rfl) rfl (D7 (A0 rfl) (Q1 _ _) (D7 (A0 rfl) (Q1 _ _) (D7 (A0 rfl) (M0 one_v17_3) (D7 (A0 rfl) (Y1 _ _) (D7 (A0 rfl) (M0 one_x23) T7))))) rfl) ?_
  refine R3 ?_
  exact ⟨b3, v17_3, x23, Le.trans (C1 [2, 0, 0, 0, 0] rfl) (E0 0 B0 ⟨rfl, rfl, rfl, trivial⟩)⟩
 intro b3 cv pv
 refine R9 ?_
 refine Z1 178 3 ?_
 refine Z1 203 1 ?_
 refine AWP.le (C1 [2, 1, 0] rfl) ?_
 refine Q4 [(1, _), (2, _), (3, _), (26, _), (27, _)] _ (fun (i : Nat) (gv : Value) (lv : Value) => i ≤ w.Groups.length) (fun (i : Nat) (gv : Value) (lv : Value) => [.box b3 116 [AV.int w.Now, AV.int w.Count, AV.is cv, strs w.Cuts, AV.is gv, AV.is lv, AV.is pv, AV.nils, AV.nils], .arr gv 178 3 ((w.Groups.take i).map TGroup.cs), .arr lv 203 1 ((w.Locks.take i).map fun l => [AV.list 3 (l.map H8.cs)])]) (fun (i : Nat) (gv : Value) (lv : Value) => [(28, AV.int i)]) (fun (i : Nat) (gv : Value) (lv : Value) => w.Groups.length - i) (0) (Value.slice none 0 0) (Value.slice none 0 0) ?_ (H7 B0 ⟨rfl, rfl, rfl, rfl, rfl, rfl, trivial⟩) ?_
 ·exact Nat.zero_le _
 intro i gv lv hinv
 refine R5 ?_
 refine A6 (A0 rfl) ?_ ?_
 ·intro h29
  have k29 := of_decide_eq_true h29; try simp only [A5] at k29
  have hlt : i < w.Groups.length := (by simpa using h29)
  obtain ⟨g, hg⟩ := get_some hlt
  have hgs := Ae7 (hw.groups g (C4 hg)).good
  obtain ⟨k, hk⟩ := get_some (show i < w.Locks.length by omega)
  have hk60 := (hw.locks.2 k (C4 hk)).1
  refine R6 ?_
  refine A4 rfl (C7 rfl G7 C8 (A0 rfl) (A0 rfl) hg qz3) ?_
  refine R2 ?_
  intro b5
  refine R4 ?_
  refine I3 AC3 ?_
  refine AWP.le (C1 [1, 0] rfl) ?_
  refine L8 5 F2 F2 rfl ?_
  refine R3 ?_
  refine C3 rfl rfl (B2 rfl Tryz.call166 rfl (Bl4 g qz8) (A1 (A0 rfl) A7)) ?_
  refine R2 ?_
  refine F6 (by' := 40) 2 rfl rfl rfl rfl G7 Tryz.type178 rfl rfl rfl rfl rfl rfl (A0 rfl) (A0 rfl) rfl qz3 ?_
  intro v38_4
  refine R1 ?_
  refine Q5 2 rfl fun one_v38_4 => ?_
  refine O1 0 rfl rfl rfl (A0 rfl) (A0 rfl) (M0 one_v38_4) rfl Tryz.sizeOf111 rfl ?_
  refine R1 ?_
  refine I3 AC3 ?_
  refine AWP.le (C1 [0, 3] rfl) ?_
  refine M3 _ [(0, false), (1, false), (3, false), (4, false), (5, false), (6, false), (7, false), (2, true), (8, true), (9, false), (10, true)] F2 F2 rfl (O2 2) ?_
  refine R5 ?_
  refine M4 rfl rfl rfl (fun ext => C7 rfl Q3 Y4 (A0 rfl) (A0 rfl) hk qz3) ?_
  refine R1 ?_
  refine Q0 rfl rfl rfl (Z4 rfl U4 i8) (fun a _ => qz4) ?_
  intro v42 _
  refine Q0 rfl rfl rfl (AD5 [8] (fun _ => rfl) (fun _ => J5 (C4 (i := 0) rfl) F4) (fun _ => O0) (J6 (by' := 32) 8 rfl U4 Tryz.type277 rfl rfl rfl rfl rfl rfl (A0 rfl) (A0 rfl) rfl qz3)) (fun a _ => qz4) ?_
  intro v48_5 _
  refine R1 ?_
  refine Q0 rfl rfl rfl (J6 (by' := 24) 4 rfl Q3 Tryz.type203 rfl rfl rfl rfl rfl rfl (A0 rfl) (A0 rfl) rfl qz3) (fun a _ => qz4) ?_
  intro v50_6 _
  refine R2 ?_
  refine Q5 4 rfl fun one_v50_6 => ?_
  refine O1 0 rfl rfl rfl (A0 rfl) (A0 rfl) (M0 one_v50_6) rfl Tryz.sizeOf112 rfl ?_
  refine R1 ?_
  refine I3 AC3 ?_
  refine R4 ?_
  refine L7 i gv lv (i + 1) (v38_4) (v50_6) ?_ ?_ (Le.trans (C1 [2, 0, 1, 1] rfl) (E0 1 (by (rw [List.take_add_one, hg, List.map_append, List.take_add_one, hk, List.map_append]; rfl)) ⟨rfl, rfl, rfl, rfl, rfl, rfl, trivial⟩))
  ·exact qz8
  omega
 intro h29
 have k29 := of_decide_eq_false h29; try simp only [A5] at k29
 have hge : w.Groups.length ≤ i := (by simpa using h29)
 rw [show w.Groups.take i = w.Groups from List.take_of_length_le qz8, show w.Locks.take i = w.Locks from List.take_of_length_le qz8]
 refine R10 ?_
 refine Z1 143 10 ?_
 refine AWP.le (C1 [1, 4, 3, 3, 3, 1, 1, 0] rfl) ?_
 refine Q4 [(1, _), (2, _), (3, _), (54, _), (55, _)] [] (fun (j : Nat) (tv : Value) (T : List (Value × Value)) => j ≤ w.Txns.length ∧ T.length = j) (fun (j : Nat) (tv : Value) (T : List (Value × Value)) => [.box b3 116 [AV.int w.Now, AV.int w.Count, AV.is cv, strs w.Cuts, AV.is gv, AV.is lv, AV.is pv, AV.is tv, AV.nils], .box b2 116 (List.map zeroA (Value.agg #[Value.int IntKind.i64 0, Value.int IntKind.i64 0, Value.slice none 0 0, Value.slice none 0 0, Value.slice none 0 0, Value.slice none 0 0, Value.slice none 0 0, Value.slice none 0 0, Value.slice none 0 0]).cells.toList), .box b1 116 w.cs, .arr cv 234 1 (w.Clocks.map V6.cs), .arr pv 3 1 (w.Promised.map fun n => [AV.int n]), .arr gv 178 3 (w.Groups.map TGroup.cs), .arr lv 203 1 (w.Locks.map fun l => [AV.list 3 (l.map H8.cs)]), .arr tv 143 10 (nrows A3.ocs (w.Txns.take j) T)] ++ (nin A3.ow (w.Txns.take j) T)) (fun (j : Nat) (tv : Value) (T : List (Value × Value)) => [(56, AV.int j)]) (fun (j : Nat) (tv : Value) (T : List (Value × Value)) => w.Txns.length - j) (0) (Value.slice none 0 0) ([]) ?_ (H7 B0 ⟨rfl, rfl, rfl, rfl, rfl, rfl, trivial⟩) ?_
 ·exact ⟨Nat.zero_le _, rfl⟩
 intro j tv T hinv
 refine I3 (List.append_nil _) ?_
 refine R5 ?_
 refine A6 (A0 rfl) ?_ ?_
 ·intro h57
  have k57 := of_decide_eq_true h57; try simp only [A5] at k57
  have hltj : j < w.Txns.length := (by simpa using h57)
  obtain ⟨t, ht⟩ := get_some hltj
  have htk := hw.txns.2 t (C4 ht)
  have hol := htk.sb.len
  have hgl := htk.got.1
  have htm := htk.terms
  refine R5 ?_
  refine A4 rfl (C7 rfl K0 N7 (A0 rfl) (A0 rfl) ht qz3) ?_
  refine R2 ?_
  intro b7
  refine R4 ?_
  refine N3 rfl rfl rfl rfl P3 S7 ?_
  intro v60
  refine R2 ?_
  refine F6 (by' := 48) 0 rfl rfl rfl rfl P3 Tryz.type156 rfl rfl rfl rfl rfl rfl (A0 rfl) (A0 rfl) rfl qz3 ?_
  intro v63_7
  refine R1 ?_
  refine Q5 0 rfl fun one_v63_7 => ?_
  refine O1 1 rfl rfl rfl (A0 rfl) (A0 rfl) (M0 one_v63_7) rfl Tryz.sizeOf121 rfl ?_
  refine R2 ?_
  refine AWP.le (AO3 [0] 0 (.box b7 143 t.cs) rfl rfl ⟨rfl, rfl, (D0 (J5 (C4 (i := 0) rfl) F4) (D0 H2 (D0 H2 (D0 H2 (D0 H2 (D0 H2 (D0 H2 (D0 H2 (D0 H2 (D0 H2 U9))))))))))⟩ O0) ?_
  refine I3 AC3 ?_
  refine R1 ?_
  refine N3 rfl rfl rfl rfl J3 N5 ?_
  intro v65
  refine R2 ?_
  refine F6 (by' := 40) 0 rfl rfl rfl rfl J3 Tryz.type45 rfl rfl rfl rfl rfl rfl (A0 rfl) (A0 rfl) rfl qz3 ?_
  intro v68_8
  refine R1 ?_
  refine Q5 0 rfl fun one_v68_8 => ?_
  refine O1 1 rfl rfl rfl (A0 rfl) (A0 rfl) (M0 one_v68_8) rfl N1 rfl ?_
  refine R2 ?_
  refine I3 AC3 ?_
  refine R3 ?_
  refine F0 [] rfl rfl rfl rfl Tryz.call33 rfl (AE1 t.Terms qz8) (A1 (A0 rfl) A7) rfl ?_
  intro x72 ok72
  refine R1 ?_
  refine Q5 0 rfl fun one_x72 => ?_
  refine O1 2 rfl rfl rfl (A0 rfl) (A0 rfl) (M0 one_x72) rfl Tryz.sizeOf25 rfl ?_
  refine R1 ?_
  refine I3 AC3 ?_
  refine R5 ?_
  refine F6 (by' := 112) 10 rfl rfl rfl rfl K0 Tryz.type143 rfl rfl rfl rfl rfl rfl (A0 rfl) (A0 rfl) rfl BA1 ?_
  intro v78_9
  refine R1 ?_
  refine Q5 10 rfl fun one_v78_9 => ?_
  refine O1 3 rfl rfl rfl (A0 rfl) (A0 rfl) (M0 one_v78_9) rfl Tryz.sizeOf113 rfl ?_
  refine R1 ?_
  refine I3 AC3 ?_
  refine AWP.le (C1 [2, 2, 2, 2, 2, 2, 2, 2, 2, 1, 0] rfl) ?_
  refine AWP.le (N4 9 (t := nin A3.ow (w.Txns.take (j + 1)) (T ++ [(v68_8, x72)])) (AI8 (ow := A3.ow) (x := (v68_8, x72)) ht hinv.2)) ?_
  refine R4 ?_
  refine L7 j tv T (j + 1) (v78_9) (T ++ [(v68_8, x72)]) ?_ ?_ (Le.trans (C1 [0, 0, 0, 0, 0, 0, 0, 0, 0] rfl) (E0 1 (Eq.trans (by (rw [← AF1 (ocs := A3.ocs) (x := (v68_8, x72)) ht hinv.2]; rfl)) (List.append_nil _).symm) ⟨rfl, rfl, rfl, rfl, rfl, rfl, trivial⟩))
  ·exact ⟨by omega, by rw [G3, hinv.2]; rfl⟩
  omega
 intro h57
 have k57 := of_decide_eq_false h57; try simp only [A5] at k57
 have hxT : T.length = w.Txns.length := (by have h9 : w.Txns.length ≤ j := (by simpa using h57); omega)
 rw [show w.Txns.take j = w.Txns from List.take_of_length_le qz8]
 refine R10 ?_
 refine Z1 152 6 ?_
 refine AWP.le (C1 [1, 1, 1, 1, 1, 1, 1, 1, 0] rfl) ?_
 refine Q4 [(2, _), (3, _), (82, _), (83, _)] [] (fun (m : Nat) (kv : Value) (L : List Value) => m ≤ w.Looks.length ∧ L.length = m) (fun (m : Nat) (kv : Value) (L : List Value) => [.box b3 116 [AV.int w.Now, AV.int w.Count, AV.is cv, strs w.Cuts, AV.is gv, AV.is lv, AV.is pv, AV.is tv, AV.is kv], .box b2 116 (List.map zeroA (Value.agg #[Value.int IntKind.i64 0, Value.int IntKind.i64 0, Value.slice none 0 0, Value.slice none 0 0, Value.slice none 0 0, Value.slice none 0 0, Value.slice none 0 0, Value.slice none 0 0, Value.slice none 0 0]).cells.toList), .box b1 116 w.cs, .arr cv 234 1 (w.Clocks.map V6.cs), .arr pv 3 1 (w.Promised.map fun n => [AV.int n]), .arr gv 178 3 (w.Groups.map TGroup.cs), .arr lv 203 1 (w.Locks.map fun l => [AV.list 3 (l.map H8.cs)]), .arr tv 143 10 (nrows A3.ocs w.Txns T), .arr kv 152 6 (nrows A2.ocs (w.Looks.take m) L)] ++ (nin A3.ow w.Txns T ++ nin A2.ow (w.Looks.take m) L)) (fun (m : Nat) (kv : Value) (L : List Value) => [(84, AV.int m)]) (fun (m : Nat) (kv : Value) (L : List Value) => w.Looks.length - m) (0) (Value.slice none 0 0) ([]) ?_ (H7 (by (rw [show nin A2.ow (w.Looks.take 0) ([] : List Value) = [] from rfl, List.append_nil (nin A3.ow w.Txns T), List.append_nil]; rfl)) ⟨rfl, rfl, rfl, rfl, rfl, trivial⟩) ?_
 ·exact ⟨Nat.zero_le _, rfl⟩
 intro m kv L hinv
 refine I3 (List.append_nil _) ?_
 refine R5 ?_
 refine A6 (A0 rfl) ?_ ?_
 ·intro h85
  have k85 := of_decide_eq_true h85; try simp only [A5] at k85
  have hltm : m < w.Looks.length := (by simpa using h85)
  obtain ⟨q, hk9⟩ := get_some hltm
  have hqk := hw.looks.2 q (C4 hk9)
  have hqg := hqk.got.1
  have hqn := hqk.keys.1
  refine R5 ?_
  refine A4 rfl (C7 rfl i4 Tryz.sizeOf152 (A0 rfl) (A0 rfl) hk9 qz3) ?_
  refine R2 ?_
  intro b9
  refine R6 ?_
  refine A4 rfl (B2 rfl Tryz.call163 rfl (o4 _ qz8) (A1 (A0 rfl) A7)) ?_
  refine R5 ?_
  refine N3 rfl rfl rfl rfl J3 N5 ?_
  intro v92
  refine R2 ?_
  refine F6 (by' := 40) 0 rfl rfl rfl rfl J3 Tryz.type45 rfl rfl rfl rfl rfl rfl (A0 rfl) (A0 rfl) rfl qz3 ?_
  intro v95_10
  refine R1 ?_
  refine Q5 0 rfl fun one_v95_10 => ?_
  refine O1 1 rfl rfl rfl (A0 rfl) (A0 rfl) (M0 one_v95_10) rfl N1 rfl ?_
  refine R1 ?_
  refine I3 AC3 ?_
  refine R5 ?_
  refine F6 (by' := 80) 10 rfl rfl rfl rfl i4 Tryz.type152 rfl rfl rfl rfl rfl rfl (A0 rfl) (A0 rfl) rfl BA1 ?_
  intro v101_11
  refine R1 ?_
  refine Q5 10 rfl fun one_v101_11 => ?_
  refine O1 2 rfl rfl rfl (A0 rfl) (A0 rfl) (M0 one_v101_11) rfl Tryz.sizeOf114 rfl ?_
  refine R1 ?_
  refine I3 AC3 ?_
  refine AWP.le (C1 [1, 1, 1, 1, 1, 1, 1, 1, 1, 1, 0] rfl) ?_
  refine AWP.le (N4 10 (t := nin A3.ow w.Txns T ++ nin A2.ow (w.Looks.take (m + 1)) (L ++ [v95_10])) (Bl5 (x := v95_10) hk9 hinv.2)) ?_
  refine R4 ?_
  refine L7 m kv L (m + 1) (v101_11) (L ++ [v95_10]) ?_ ?_ (Le.trans (C1 [0, 0, 0, 0, 0, 0, 0, 0, 0, 0] rfl) (E0 1 (Eq.trans (by (rw [← AF1 (ocs := A2.ocs) (x := v95_10) hk9 hinv.2]; rfl)) (List.append_nil _).symm) ⟨rfl, rfl, rfl, rfl, rfl, trivial⟩))
  ·exact ⟨by omega, by rw [G3, hinv.2]; rfl⟩
  omega
 intro h85
 have k85 := of_decide_eq_false h85; try simp only [A5] at k85
 have hxL : L.length = w.Looks.length := (by have h9 : w.Looks.length ≤ m := (by simpa using h85); omega)
 rw [show w.Looks.take m = w.Looks from List.take_of_length_le qz8]
 refine R7 ?_
 exact H3 [3, 4, 4, 3, 3, 3] 3 (nin A3.ow w.Txns T ++ nin A2.ow w.Looks L) [] ((⟨cv, gv, lv, pv, tv, kv⟩, T, L)) (⟨hxT, hxL⟩) rfl (show List.Perm (nin A3.ow w.Txns T ++ nin A2.ow w.Looks L) ((nin A3.ow w.Txns T ++ nin A2.ow w.Looks L) ++ []) from B5) B0 (E4 rfl (H1 (ys := _) 1 rfl rfl V5 N2 rfl))
end Go.Proofs.YtcfkbhnpfjjmjaaGreat
namespace Go.M
open Go.AV
def zWorld : TWorld := ⟨0, 0, [], [], [], [], [], [], []⟩
end Go.M
namespace Go.Proofs.YtcfkbhnpfjjmjaaGreat
open Go Go.AV Go.M
attribute [local irreducible] OpW OpA OpS AWP B9 J2 C9 OpE RetOk H0 I6 Le Ev F1 J8 V9 Int.tmod Int.tdiv IntKind.wrap bandI
theorem Ak9 {own : List Go.AV.Own} {w : TWorld} {X : WX} {T : List (Value × Value)} {L : List Value} (hT : T.length = w.Txns.length) (hL : L.length = w.Looks.length) (h : ∀ o ∈ WA w X T L, o ∈ own) : X9 own (WV w X) w.cs :=
  D0 H2 (D0 H2 (D0 (J5 (h _ (C4 (i := 0) rfl)) F4) (D0 H2 (D0 (J5 (h _ (C4 (i := 1) rfl)) F4) (D0 (J5 (h _ (C4 (i := 2) rfl)) F4) (D0 (J5 (h _ (C4 (i := 3) rfl)) F4)
    (D0 (J5 (h _ (C4 (i := 4) rfl)) (AZ4 A3.lcM hT fun o ho => h o (by unfold WA; exact List.mem_cons_of_mem _ (List.mem_cons_of_mem _ (List.mem_cons_of_mem _ (List.mem_cons_of_mem _ (List.mem_cons_of_mem _ (List.mem_cons_of_mem _ (List.mem_append_left _ ho)))))))))
    (D0 (J5 (h _ (C4 (i := 5) rfl)) (AZ4 A2.lcM hL fun o ho => h o (by unfold WA; exact List.mem_cons_of_mem _ (List.mem_cons_of_mem _ (List.mem_cons_of_mem _ (List.mem_cons_of_mem _ (List.mem_cons_of_mem _ (List.mem_cons_of_mem _ (List.mem_append_right _ ho))))))))) U9))))))))
theorem Ae9 (w : TWorld) (hw : WI w) : B9 Tryz.prog 143 [AV.agg w.cs] (AV.agg w.cs) :=
  K2 (As5 w hw) fun x hx => AW2 (Ak9 hx.1 hx.2 fun _ ho => ho)
theorem CK7 (w : TWorld) (a : Q7) (hw : WI w) (hq : WQ w) (ha : X7 a) : C9 Tryz.prog 144 [AV.agg w.cs, AV.agg a.cs] [] (fun v : (TWorld × Bool) × WX × List (Value × Value) × List Value => (v.2.2.1.length = v.1.1.Txns.length ∧ v.2.2.2.length = v.1.1.Looks.length) ∧ (v.1.2 = true → WI v.1.1 ∧ WQ v.1.1)) (fun v => WA v.1.1 v.2.1 v.2.2.1 v.2.2.2) (fun v => AV.tup [AV.agg (WV v.1.1 v.2.1), AV.bool v.1.2]) := by
 refine C6 Tryz.func144 rfl Tryz.ntmps144 rfl ?_
 refine R3 ?_
 intro b2
 refine R1 ?_
 intro b3
 refine R1 ?_
 intro b4
 refine R5 ?_
 refine I1 [] 3 6 ([]) ([]) (fun zz => nin A3.ow w.Txns zz.2.1 ++ nin A2.ow w.Looks zz.2.2) rfl rfl rfl rfl Tryz.call143 rfl rfl (show List.Perm ([]) (([]) ++ ([])) from List.Perm.refl _) (As5 w hw) (A1 (A0 rfl) A7) (fun a => J7) ?_
 intro x8 ok8
 refine R2 ?_
 intro b10
 refine R7 ?_
 refine I1 [0, 0, 0, 0, 0, 0, 0] 3 7 (nin A3.ow w.Txns x8.2.1 ++ nin A2.ow w.Looks x8.2.2) ([]) (fun zz => nin A3.ow zz.1.1.Txns zz.2.1 ++ nin A2.ow zz.1.1.Looks zz.2.2) rfl rfl rfl rfl Tryz.call167 rfl rfl (show List.Perm (nin A3.ow w.Txns x8.2.1 ++ nin A2.ow w.Looks x8.2.2) ((nin A3.ow w.Txns x8.2.1 ++ nin A2.ow w.Looks x8.2.2) ++ ([])) from B5) (do_own b10 w x8.1 x8.2.1 x8.2.2 a hw hq ok8.1 ok8.2 ha) (A1 (A0 rfl) (A1 (A0 rfl) A7)) (fun a => J7) ?_
 intro x13 ok13
 refine R2 ?_
 refine A6 (A0 rfl) ?_ ?_
 ·intro h14
  refine R7 ?_
  refine Bf4 7 3 1 rfl rfl O0 ?_
  refine a9 234 1 ?_
  refine a9 178 3 ?_
  refine a9 203 1 ?_
  refine a9 3 1 ?_
  refine a9 143 10 ?_
  refine a9 152 6 ?_
  first | exact I0 [5, 4, 3, 2, 1, 0] (((zWorld, false), ⟨Value.slice none 0 0, Value.slice none 0 0, Value.slice none 0 0, Value.slice none 0 0, Value.slice none 0 0, Value.slice none 0 0⟩, [], [])) (qz103) rfl B0 (U3 rfl D3 (B8 (H1 (ys := _) 13 rfl rfl V5 N2 rfl) (B8 (A8 rfl B0) G6))) | exact H3 [5, 4, 3, 2, 1, 0] 10 (nin A3.ow x13.1.1.Txns x13.2.1 ++ nin A2.ow x13.1.1.Looks x13.2.2) [] (((zWorld, false), ⟨Value.slice none 0 0, Value.slice none 0 0, Value.slice none 0 0, Value.slice none 0 0, Value.slice none 0 0, Value.slice none 0 0⟩, [], [])) (qz103) rfl (show List.Perm (nin A3.ow x13.1.1.Txns x13.2.1 ++ nin A2.ow x13.1.1.Looks x13.2.2) ((nin A3.ow x13.1.1.Txns x13.2.1 ++ nin A2.ow x13.1.1.Looks x13.2.2) ++ []) from B5) B0 (U3 rfl D3 (B8 (H1 (ys := _) 13 rfl rfl V5 N2 rfl) (B8 (A8 rfl B0) G6)))
 intro h14
 have hdo := ok13 (by simpa using h14)
 have hcb := hdo.1.count
 have hwc := wi_count hdo.1 (by rw [hdo.2.1.1]; exact hdo.2.1.2)
 refine R24 ?_
 exact H3 [1, 1, 1, 1, 1, 1] 4 (nin A3.ow x13.1.1.Txns x13.2.1 ++ nin A2.ow x13.1.1.Looks x13.2.2) [] ((({ x13.1.1 with Count := x13.1.1.Count + 1 }, true), x8.1, x13.2.1, x13.2.2)) (qz103) rfl (show List.Perm (nin A3.ow x13.1.1.Txns x13.2.1 ++ nin A2.ow x13.1.1.Looks x13.2.2) ((nin A3.ow x13.1.1.Txns x13.2.1 ++ nin A2.ow x13.1.1.Looks x13.2.2) ++ []) from B5) B0 (U3 rfl D3 (B8 (H1 (ys := _) 7 rfl rfl V5 N2 rfl) (B8 (A8 rfl B0) G6)))
theorem CK8 (w : TWorld) (a : Q7) (hw : WI w) (hq : WQ w) (ha : X7 a) : C9 Tryz.prog 144 [AV.agg w.cs, AV.agg a.cs] [] (fun v : TWorld × Bool => v.2 = true → WI v.1 ∧ WQ v.1) (fun _ => []) (fun v => AV.tup [AV.agg v.1.cs, AV.bool v.2]) :=
  AB5 (fun x => x.1) (fun v => WA v.1.1 v.2.1 v.2.2.1 v.2.2.2) (fun _ => []) (CK7 w a hw hq ha) (fun _ h => h.2) (fun x h => u9 (D0 (AW2 (Ak9 h.1.1 h.1.2 fun _ ho => ho)) (D0 H2 U9))) (fun x _ => by rw [List.append_nil]) (fun _ _ => O0) (fun x _ => Ae0)
theorem BD2 (w : TWorld) (acts : List Q7) (hw : WI w) (hq : WQ w) (ha : ∀ a ∈ acts, X7 a) (hl : acts.length ≤ 1000) : C9 Tryz.prog 124 [AV.agg w.cs, AV.list 3 (acts.map Q7.cs)] [] (fun v : (TWorld × List Bool) × Value => WI v.1.1 ∧ WQ v.1.1) (fun v => [.arr v.2 4 1 (v.1.2.map fun b => [AV.bool b])]) (fun v => AV.tup [AV.agg v.1.1.cs, AV.is v.2]) := by
 refine C6 Tryz.func124 rfl Tryz.ntmps124 rfl ?_
 refine R3 ?_
 intro b2
 refine R1 ?_
 intro b4
 refine A4 rfl (D6 rfl G8) ?_
 refine R4 ?_
 refine A4 rfl (B2 rfl Tryz.call143 rfl (Ae9 w hw) (A1 (A0 rfl) A7)) ?_
 refine R1 ?_
 intro b6
 refine R4 ?_
 refine P1 4 1 rfl rfl rfl rfl G8 ?_
 intro v7
 refine R9 ?_
 refine AWP.le (C1 [1, 0] rfl) ?_
 refine s3 [(4, _), (5, _), (6, _), (14, _), (15, _)] _ (fun (i : Nat) (v : TWorld) (d : List Bool) (u : Value) => (i ≤ acts.length ∧ d.length = i) ∧ WI v ∧ WQ v) (fun (i : Nat) (v : TWorld) (d : List Bool) (u : Value) => [.box b6 116 v.cs, .arr u 4 1 (d.map fun b => [AV.bool b])]) (fun (i : Nat) (v : TWorld) (d : List Bool) (u : Value) => [(7, AV.is u), (16, AV.int i)]) (fun (i : Nat) (v : TWorld) (d : List Bool) (u : Value) => acts.length - i) (0) (w) ([]) (v7) ?_ (H7 B0 ⟨rfl, rfl, rfl, rfl, rfl, rfl, rfl, trivial⟩) ?_
 ·exact ⟨⟨Nat.zero_le _, rfl⟩, hw, hq⟩
 intro i v d u hinv
 refine R5 ?_
 refine A6 (A0 rfl) ?_ ?_
 ·intro h17
  have k17 := of_decide_eq_true h17; try simp only [A5] at k17
  have hlt : i < acts.length := At5
  obtain ⟨a, hax⟩ := get_some hlt
  have hsa := ha a (C4 hax)
  refine R5 ?_
  refine A4 rfl (C7 rfl Tryz.underlying138 X5 (A0 rfl) (A0 rfl) hax qz3) ?_
  refine R2 ?_
  intro b9
  refine R6 ?_
  refine F0 [] rfl rfl rfl rfl Tryz.call144 rfl (CK8 v a hinv.2.1 hinv.2.2 hsa) (A1 (A0 rfl) (A1 (A0 rfl) A7)) rfl ?_
  intro x23 ok23
  refine R4 ?_
  intro b10
  refine R8 ?_
  refine A6 (A0 rfl) ?_ ?_
  ·intro h26
   refine R8 ?_
   refine F6 (by' := 1) 3 rfl rfl rfl rfl Tryz.underlying135 Tryz.type4 rfl rfl rfl rfl rfl rfl (A0 rfl) (A0 rfl) rfl AV6 ?_
   intro v31_1
   refine R6 ?_
   refine Z0 i v d u (i + 1) (x23.1) (d ++ [x23.2]) (v31_1) ?_ ?_ (Le.trans (C1 [0, 0, 0, 0] rfl) (E0 2 AY2 ⟨rfl, rfl, rfl, rfl, rfl, rfl, rfl, trivial⟩))
   ·exact ⟨⟨by omega, by rw [G3, hinv.1.2]; rfl⟩, ok23 h26⟩
   omega
  intro h26
  refine R5 ?_
  refine F6 (by' := 1) 3 rfl rfl rfl rfl Tryz.underlying135 Tryz.type4 rfl rfl rfl rfl rfl rfl (A0 rfl) (A0 rfl) rfl AV6 ?_
  intro v31_2
  refine R6 ?_
  refine Z0 i v d u (i + 1) (v) (d ++ [x23.2]) (v31_2) ?_ ?_ (Le.trans (C1 [0, 0, 0, 0] rfl) (E0 2 AY2 ⟨rfl, rfl, rfl, rfl, rfl, rfl, rfl, trivial⟩))
  ·exact ⟨⟨by omega, by rw [G3, hinv.1.2]; rfl⟩, hinv.2⟩
  omega
 intro h17
 have k17 := of_decide_eq_false h17; try simp only [A5] at k17
 refine R9 ?_
 exact I0 [1] (((v, d), u)) (hinv.2) rfl B0 (U3 rfl D3 (B8 (H1 (ys := _) 2 rfl rfl V5 N2 rfl) (B8 (A8 rfl B0) G6)))
end Go.Proofs.YtcfkbhnpfjjmjaaGreat
