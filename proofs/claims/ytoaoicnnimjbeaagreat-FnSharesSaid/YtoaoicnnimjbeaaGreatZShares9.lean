/- FnShares: for all drawn cuts, orders and deals, every key belongs to one group, the groups of an order are those of its keys, and the rows of a deal combine those of its groups; the program answers what the reference answers. No condition. -/
import Derived.Test.YtoaoicnnimjbeaaGreatZShares8

set_option linter.unusedVariables false
set_option linter.unusedSimpArgs false
set_option maxRecDepth 100000
set_option maxHeartbeats 2000000
namespace Go.M
open Go.AV
theorem Ax9 (c : TCell) (t : Int) : c.Key.length + (cellVal c t).1.length ≤ c.size := by
  show _ ≤ c.Key.length + sizeL TVer.size c.Vers
  unfold cellVal
  split
  · rename_i v hv
    have h1 := List.mem_reverse.1 (List.mem_of_find?_eq_some hv)
    have h2 := o7 (f := TVer.size) h1
    have h3 : v.size = v.Val.length := rfl
    dsimp only; omega
  · simp
theorem AV7 (t : Int) : ∀ l : List TCell, sizeL TWrite.size (cellsAt l t) ≤ sizeL TCell.size l
  | [] => Nat.le_refl _
  | c :: l => by
    have ih := AV7 t l
    have h1 := Ax9 c t
    rw [Av1, N7, o9]
    split
    · rw [N7, show sizeL TWrite.size [] = 0 from rfl]
      show 1 + (c.Key.length + (cellVal c t).1.length) + 0 + sizeL TWrite.size (cellsAt l t) ≤ 1 + c.size + sizeL TCell.size l
      omega
    · rw [show sizeL TWrite.size [] = 0 from rfl]; omega
theorem Ay0 {w : TWrite} : ∀ {l : List TWrite}, sizeL TWrite.size (ins l w) ≤ sizeL TWrite.size l + w.size + 1
  | [] => by unfold ins; rw [N7]; simp [sizeL]; omega
  | y :: l => by
    have ih := Ay0 (w := w) (l := l)
    unfold ins
    split
    · rw [N7, N7]; omega
    · split
      · rw [N7, N7]; omega
      · rw [N7, N7]; omega
theorem AZ9 : ∀ {ws l : List TWrite}, sizeL TWrite.size (insAll l ws) ≤ sizeL TWrite.size l + sizeL TWrite.size ws
  | [], _ => Nat.le_add_right _ _
  | w :: ws, l => by
    have h1 := AZ9 (ws := ws) (l := ins l w)
    have h2 := Ay0 (w := w) (l := l)
    show sizeL TWrite.size (insAll (ins l w) ws) ≤ _
    rw [N7]; omega
theorem BK2 {t : Int} {m : Nat} {ss : List TState} (h : ∀ s ∈ ss, s.size ≤ m) : sizeL TWrite.size (rowsL ss t) ≤ ss.length * m := by
  have key : ∀ (ss : List TState) (a : List TWrite), (∀ s ∈ ss, s.size ≤ m) → sizeL TWrite.size (ss.foldl (fun a s => insAll a (cellsAt s.Cells t)) a) ≤ sizeL TWrite.size a + ss.length * m := by
    intro ss
    induction ss with
    | nil => intro a _; simp
    | cons s ss ih =>
      intro a h
      have h1 := ih (insAll a (cellsAt s.Cells t)) fun x hx => h x (List.mem_cons_of_mem _ hx)
      have h2 := AZ9 (ws := cellsAt s.Cells t) (l := a)
      have h3 := AV7 t s.Cells
      have h4 := (m2 (h s List.mem_cons_self)).2
      rw [List.foldl_cons, I5, Nat.succ_mul]; omega
  have := key ss [] h
  unfold rowsL; simpa [sizeL] using this
theorem BK3 {l : List TOrder} (h : goodOs l = true) : ∀ o ∈ l, orderR o = true := by
  unfold goodOs at h
  simp only [Bool.and_eq_true, List.all_eq_true] at h
  exact h.1.1
theorem BK4 {l : List Str} (h : l ∈ cutsD) : l15Cuts l = true := by
  have : ∀ l ∈ cutsD, l15Cuts l = true := by decide
  exact this l h
theorem BK5 {cuts : List Str} {os : List TOrder} (hc : cuts ∈ cutsD) (hg : goodOs os = true) : newDealR cuts os = (emptyDeal cuts os, true) := by
  unfold newDealR; rw [BK4 hc, hg]; rfl
end Go.M
namespace Go.Proofs.YtoaoicnnimjbeaaGreat
open Go Go.AV Go.M
structure DF (d : TDeal) : Prop where
  clen : d.Cuts.length ≤ 2
  ckey : ∀ k ∈ d.Cuts, k.length ≤ 64
  slen : d.States.length ≤ 3
  st : ∀ s ∈ d.States, s.size ≤ 33045
  os : ∀ o ∈ d.Orders, o.size ≤ 1000
  olen : d.Orders.length ≤ 4
theorem DF.b {d : TDeal} (v : DF d) : DealB d where
  cuts := fun k hk => Nat.le_trans (v.ckey k hk) (by decide)
  clen := Nat.le_trans v.clen (by decide)
  slen := Nat.le_trans v.slen (by decide)
  olen := Nat.le_trans v.olen (by decide)
  states := fun s hs => Nat.le_trans (v.st s hs) (by decide)
  orders := fun o ho => Nat.le_trans (v.os o ho) (by decide)
theorem DF.rows {d : TDeal} (v : DF d) (t : Int) : sizeL TWrite.size (rowsL d.States t) ≤ 1048576 := by
  have h1 := BK2 (t := t) v.st
  have h2 : d.States.length * 33045 ≤ 3 * 33045 := Nat.mul_le_mul_right _ v.slen
  omega
theorem DV.df {d : TDeal} (v : DV d) : DF d := ⟨v.clen, v.ckey, by have := v.slen; have := v.clen; omega, fun s hs => Nat.le_trans (v.st s hs) (by decide), fun o ho => (v.os o ho).2, v.olen⟩
theorem empty_dv {cuts : List Str} {os : List TOrder} (hc : cuts ∈ cutsD) (hl : os.length ≤ 4) (hs : ∀ o ∈ os, o.size ≤ 1000) (hg : goodOs os = true) : DV (emptyDeal cuts os) where
  clen := (f4 hc).2
  ckey := fun k hk => Nat.le_trans ((f4 hc).1 k hk) (by decide)
  slen := List.length_replicate
  st := fun s h => by rw [(List.mem_replicate.1 h).2]; decide
  os := fun o ho => ⟨BK3 hg o ho, hs o ho⟩
  olen := hl
attribute [local irreducible] OpW OpA OpS AWP FSpec ESpec GSpec OpE RetOk RetOkG RvDen Le Ev GuardIs SrcIs SrcE Int.tmod Int.tdiv IntKind.wrap bandI
theorem Ar0 (cuts : List Str) (os : List TOrder) (hc : cuts ∈ cutsD) (ho : ∀ o ∈ os, o.size ≤ 1000) (hg : goodOs os = true) : FSpec Tryz.prog 22 [strs cuts, AV.list 3 (os.map TOrder.cs)] (AV.tup [AV.agg (emptyDeal cuts os).cs, AV.bool true]) := by
  have h := AQ6 cuts os (fun k hk => Nat.le_trans ((f4 hc).1 k hk) (by decide)) (by have h9 := (f4 hc).2; omega) (fun o h => Nat.le_trans (ho o h) (by decide))
  rw [BK5 hc hg] at h; exact h
theorem Ay1 (b : Nat) (code : List Int) (hcode : ByteL code) (c : TCur) (hp : c.p ≤ 700000) : GSpec Tryz.prog 76 [AV.ptr b 0] [.box b 64 (curC code c)] (fun x : TCur × (TDeal × List TDealAct) × Value => x.1.p ≤ c.p + 700 ∧ DV x.2.1.1 ∧ x.2.1.2.length ≤ 24) (fun x => [.box b 64 (curC code x.1), .arr x.2.2 146 4 (x.2.1.2.map TDealAct.cs)]) (fun x => AV.tup [AV.agg x.2.1.1.cs, AV.is x.2.2]) := by
 refine H3 Tryz.func76 rfl Tryz.ntmps76 rfl ?_
 refine A3 (A2 ?_)
 refine F5 rfl rfl rfl rfl Tryz.zeroValue43 rfl ?_
 intro b2
 refine A1 rfl (B6 rfl L4) ?_
 refine A4 (A3 (A2 ?_))
 refine A5 rfl ?_
 refine H9 [1] rfl rfl rfl rfl Tryz.call25 rfl (i7 _ _ hcode _ (by omega)) (A6 (A0 rfl) C0) rfl ?_
 intro x10 ok10
 refine A5 rfl ?_
 refine H9 [0] rfl rfl rfl rfl Tryz.call33 rfl (AH8 _ _ hcode _ (by omega)) (A6 (A0 rfl) C0) rfl ?_
 intro x12 ok12
 have hdv := empty_dv ok10.2 ok12.2.1 ok12.2.2.1 ok12.2.2.2
 refine A1 rfl (D7 rfl Tryz.call22 rfl (Ar0 x10.2 x12.2 ok10.2 ok12.2.2.1 ok12.2.2.2) (A6 (A0 rfl) (A6 (A0 rfl) C0))) ?_
 refine A5 rfl ?_
 refine A1 rfl (G6 rfl (A0 rfl) rfl) ?_
 refine A1 rfl (G6 rfl (A0 rfl) rfl) ?_
 refine F5 rfl rfl rfl rfl Tryz.zeroValue43 rfl ?_
 intro b4
 refine D2 0 rfl rfl rfl (A0 rfl) (A0 rfl) (D6 _) rfl F4 rfl ?_
 refine B3 rfl ?_
 refine A4 (A3 (A2 ?_))
 refine S0 146 4 rfl rfl rfl rfl L4 ?_
 intro v6
 refine A4 (A3 (A3 (A2 ?_)))
 refine A5 rfl ?_
 refine H9 [2] rfl rfl rfl rfl Tryz.call34 rfl (R4 _ _ hcode _ _ (by omega) (by omega)) (A6 (A0 rfl) (A6 B4 C0)) rfl ?_
 intro x17 ok17
 refine B3 rfl ?_
 refine A4 (C7 ?_)
 refine AWP.le (F8 [2, 0, 0] rfl) ?_
 refine d8 [(0, _), (2, _), (3, _), (4, _)] _ (fun (n : Int) (cc : TCur) (l : List TDealAct) (v : Value) => (0 ≤ n ∧ n + l.length ≤ 24) ∧ cc.p + 10 * n ≤ c.p + 690) (fun (n : Int) (cc : TCur) (l : List TDealAct) (v : Value) => [.box b4 43 (emptyDeal x10.2 x12.2).cs, .box b 64 (curC code cc), .arr v 146 4 (l.map TDealAct.cs)]) (fun (n : Int) (cc : TCur) (l : List TDealAct) (v : Value) => [(6, AV.is v), (7, AV.int n)]) (fun (n : Int) (cc : TCur) (l : List TDealAct) (v : Value) => n.toNat) (x17.2) (x17.1) ([]) (v6) ?_ (O8 (by rfl) ⟨rfl, rfl, rfl, rfl, rfl, rfl, trivial⟩) ?_
 ·exact ⟨⟨by omega, by simp; omega⟩, by omega⟩
 intro n cc l v hinv
 refine A3 (A3 (A2 ?_))
 refine A5 rfl ?_
 refine A1 rfl (R8 rfl (A0 rfl) B4) ?_
 refine A4 ?_
 refine B9 (A0 rfl) ?_ ?_
 ·intro h19
  have k19 := of_decide_eq_true h19; try simp only [A8] at k19
  refine C3 (A3 (C7 (A2 ?_)))
  refine A5 rfl ?_
  refine A5 rfl ?_
  refine A1 rfl (F1 0 rfl (A0 rfl) rfl K5 F4 rfl) ?_
  refine H9 [1] rfl rfl rfl rfl Tryz.call107 rfl (Aj4 _ _ hcode _ (emptyDeal x10.2 x12.2) hdv (by omega)) (A6 (A0 rfl) (A6 (A0 rfl) C0)) rfl ?_
  intro x25 ok25
  refine A1 rfl (K9 rfl Tryz.underlying106 S7 Tryz.zeroValue146 rfl rfl rfl rfl (D0 (A0 rfl) (D6 _) G9) rfl rfl) ?_
  refine L2 (by' := 32) 2 rfl rfl rfl rfl Tryz.underlying106 Tryz.type146 rfl rfl rfl rfl rfl rfl (A0 rfl) (A0 rfl) rfl (by simp only [A8, A7]; omega) ?_
  intro v27_1
  refine B3 rfl ?_
  refine A4 (A2 ?_)
  refine A5 rfl ?_
  refine A1 rfl (R7 rfl (A0 rfl) B4 (by first | omega | (simp only [C8, A7, szR] at *; omega))) ?_
  refine B3 rfl ?_
  refine A4 ?_
  refine V9 n cc l v (n - 1) (x25.1) (l ++ [x25.2]) (v27_1) ?_ ?_ (Le.trans (F8 [1, 0, 0] rfl) (O8 (by (rw [List.map_append]; rfl)) ⟨rfl, rfl, rfl, rfl, rfl, rfl, trivial⟩))
  ·exact ⟨⟨by omega, by rw [J6]; simp only [I5, N4]; omega⟩, by omega⟩
  omega
 intro h19
 have k19 := of_decide_eq_false h19; try simp only [A8] at k19
 refine G1 ?_
 refine A3 (A2 ?_)
 refine A1 rfl (F1 0 rfl (A0 rfl) rfl K5 F4 rfl) ?_
 refine A5 rfl ?_
 refine D2 3 rfl rfl rfl (A0 rfl) (A0 rfl) (D6 _) rfl F4 rfl ?_
 refine B3 rfl ?_
 refine A4 ?_
 refine C2 ?_
 (refine L5 [1, 1] ((cc, (emptyDeal x10.2 x12.2, l), v)) ?_ rfl (by first | (dsimp only; rfl) | rfl) (V5 rfl (by decide) (E7 (J9 (ys := _) 3 rfl rfl K5 F4 rfl) (E7 (C1 rfl (by rfl)) M0))); exact ⟨(by dsimp only; omega), hdv, (by dsimp only; omega)⟩)
theorem BB5 (b : Nat) (code : List Int) (hcode : ByteL code) (c : TCur) (hp : c.p ≤ 600000) : GSpec Tryz.prog 39 [AV.ptr b 0] [.box b 64 (curC code c)] (fun x : TCur × TDeal => x.1.p ≤ c.p + 2100 ∧ DF x.2) (fun x => [.box b 64 (curC code x.1)]) (fun x => AV.agg x.2.cs) := by
 refine H3 Tryz.func39 rfl Tryz.ntmps39 rfl ?_
 refine A3 (A2 ?_)
 refine F5 rfl rfl rfl rfl Tryz.zeroValue43 rfl ?_
 intro b2
 refine A4 (A3 (A2 ?_))
 refine A5 rfl ?_
 refine H9 [1] rfl rfl rfl rfl Tryz.call76 rfl (Ay1 _ _ hcode _ (by omega)) (A6 (A0 rfl) C0) rfl ?_
 intro x9 ok9
 refine A5 rfl ?_
 refine A1 rfl (G6 rfl (A0 rfl) rfl) ?_
 refine A1 rfl (G6 rfl (A0 rfl) rfl) ?_
 refine F5 rfl rfl rfl rfl Tryz.zeroValue43 rfl ?_
 intro b3
 refine D2 0 rfl rfl rfl (A0 rfl) (A0 rfl) (D6 _) rfl F4 rfl ?_
 refine B3 rfl ?_
 refine A4 (A3 ?_)
 refine AWP.le (X6 [2] 4 rfl rfl (M8 (F9 (i := 0) rfl) I7) (O0 1 rfl rfl O3)) ?_
 refine A2 ?_
 refine A1 rfl (F1 0 rfl (A0 rfl) rfl K5 F4 rfl) ?_
 refine A5 rfl ?_
 refine H9 [] rfl rfl rfl rfl Tryz.call77 rfl (Ax8 x9.2.1.1 x9.2.1.2 ok9.2.1 (by omega)) (A6 (A0 rfl) (A6 (A0 rfl) C0)) rfl ?_
 intro x15 ok15
 have hdf := ok15.df
 have hsl1 := ok15.slen
 obtain ⟨s0, sr, hst⟩ : ∃ s0 sr, x15.1.1.States = s0 :: sr := by (cases hm : x15.1.1.States with | nil => (have h9 := ok15.slen; rw [hm] at h9; simp at h9) | cons y q => exact ⟨y, q, rfl⟩)
 have hA : ([] : List (List AV)).length = (0 : Int).toNat := rfl
 refine A5 rfl ?_
 refine A1 rfl (G6 rfl (A0 rfl) rfl) ?_
 refine A1 rfl (G6 rfl (A0 rfl) rfl) ?_
 refine F5 rfl rfl rfl rfl Tryz.zeroValue43 rfl ?_
 intro b5
 refine D2 0 rfl rfl rfl (A0 rfl) (A0 rfl) (D6 _) rfl F4 rfl ?_
 refine B3 rfl ?_
 refine A4 (A3 (A3 (A2 ?_)))
 refine A5 rfl ?_
 refine H9 [4] rfl rfl rfl rfl Tryz.call34 rfl (R4 _ _ hcode _ _ (by omega) (by omega)) (A6 (A0 rfl) (A6 B4 C0)) rfl ?_
 intro x19 ok19
 refine A4 (C7 (A3 (A2 ?_)))
 refine A1 rfl (O1 rfl (A0 rfl) B4) ?_
 refine B3 rfl ?_
 refine A4 ?_
 refine B9 (A0 rfl) ?_ ?_
 ·intro h20
  have k20 := M7 h20; try simp only [A8] at k20
  rw [show x15.1.1.States.map TState.cs = [] ++ s0.cs :: sr.map TState.cs from by rw [hst]; rfl]
  refine AWP.le (F8 [1, 1] rfl) ?_
  refine Q2 _ 5 (.pure 0 (.pure 2 (.e2 1 (.e1 3 (.e1 4 .nil)) 3 (.e1 1 (.e1 4 .nil))))) (by kernel_rfl) (by kernel_rfl) rfl (V2 2) ?_
  refine D4 rfl rfl rfl (fun ext => B1 1 rfl E8 rfl N8 (A0 rfl) rfl) ?_
  refine D4 rfl rfl rfl (fun ext => B8 rfl (A0 rfl)) ?_
  refine AD3 ?_ ?_
  ·refine S6 rfl rfl rfl (AO5 (B0 0 rfl (A0 rfl) rfl Q6 rfl)) (fun a _ => (by first | exact E1 rfl | exact E1 (List.append_assoc _ _ _) | exact H6)) ?_
   intro _ _
   refine T9 ?_
   refine S6 rfl rfl rfl (Y0 [2] rfl Tryz.call78 rfl (AH9 _ _ hcode _ (by omega)) (A6 (A0 rfl) C0) rfl) (fun a _ => (by first | exact E1 rfl | exact E1 (List.append_assoc _ _ _) | exact H6)) ?_
   intro x25 ok25
   refine T9 ?_
   refine S6 rfl rfl rfl (AO5 (U7 1 rfl J2 C5 (A0 rfl) rfl B4 (by omega) (by simp))) (fun a _ => (by first | exact E1 rfl | exact E1 (List.append_assoc _ _ _) | exact H6)) ?_
   intro _ _
   refine W1 ?_
   refine AD0 1 rfl rfl rfl (A0 rfl) (A0 rfl) (D6 _) rfl C5 rfl hA ?_
   refine A4 (A3 ?_)
   refine AWP.le (i0 [1] 0 (.box b5 43 [_, _, _]) rfl rfl ⟨rfl, rfl, (G4 M4 (G4 (M8 (F9 (i := 0) rfl) I7) (G4 M4 U3)))⟩ (O0 4 rfl rfl O3)) ?_
   refine A2 ?_
   refine A1 rfl (F1 0 rfl (A0 rfl) rfl K5 F4 rfl) ?_
   refine D2 3 rfl rfl rfl (A0 rfl) (A0 rfl) (D6 _) rfl F4 rfl ?_
   refine A4 ?_
   refine C2 ?_
   (refine L5 [4] ((x25.1, ⟨x15.1.1.Cuts, x25.2 :: sr, x15.1.1.Orders⟩)) ?_ rfl (by first | (dsimp only; rfl) | rfl) (P0 rfl (J9 (ys := _) 3 rfl rfl K5 F4 rfl)); first | exact ⟨(by dsimp only; omega), hdf⟩ | exact ⟨(by dsimp only; omega), ⟨hdf.clen, hdf.ckey, (by have h9 := hdf.slen; rw [hst, I5] at h9; dsimp only; rw [I5]; exact h9), fun s hs => (by (rcases List.mem_cons.1 hs with hs | hs; (rw [hs]; exact ok25.2.1); (exact hdf.st s (by rw [hst]; exact List.mem_cons_of_mem _ hs)))), hdf.os, hdf.olen⟩⟩ | exact ⟨(by dsimp only; omega), ⟨(show (2 : Nat) ≤ 2 from Nat.le_refl 2), (show ∀ k ∈ ([[122], [97]] : List Str), k.length ≤ 64 by decide), hdf.slen, hdf.st, hdf.os, hdf.olen⟩⟩ | exact ⟨(by dsimp only; omega), ⟨hdf.clen, hdf.ckey, (by have h9 := hdf.slen; dsimp only; rw [List.length_drop]; omega), fun s hs => hdf.st s (List.mem_of_mem_drop hs), hdf.os, hdf.olen⟩⟩)
  refine S6 rfl rfl rfl (Y0 [2] rfl Tryz.call78 rfl (AH9 _ _ hcode _ (by omega)) (A6 (A0 rfl) C0) rfl) (fun a _ => (by first | exact E1 rfl | exact E1 (List.append_assoc _ _ _) | exact H6)) ?_
  intro x25 ok25
  refine T9 ?_
  refine S6 rfl rfl rfl (AO5 (B0 0 rfl (A0 rfl) rfl Q6 rfl)) (fun a _ => (by first | exact E1 rfl | exact E1 (List.append_assoc _ _ _) | exact H6)) ?_
  intro _ _
  refine T9 ?_
  refine S6 rfl rfl rfl (AO5 (U7 1 rfl J2 C5 (A0 rfl) rfl B4 (by omega) (by simp))) (fun a _ => (by first | exact E1 rfl | exact E1 (List.append_assoc _ _ _) | exact H6)) ?_
  intro _ _
  refine W1 ?_
  refine AD0 1 rfl rfl rfl (A0 rfl) (A0 rfl) (D6 _) rfl C5 rfl hA ?_
  refine A4 (A3 ?_)
  refine AWP.le (i0 [1] 0 (.box b5 43 [_, _, _]) rfl rfl ⟨rfl, rfl, (G4 M4 (G4 (M8 (F9 (i := 0) rfl) I7) (G4 M4 U3)))⟩ (O0 4 rfl rfl O3)) ?_
  refine A2 ?_
  refine A1 rfl (F1 0 rfl (A0 rfl) rfl K5 F4 rfl) ?_
  refine D2 3 rfl rfl rfl (A0 rfl) (A0 rfl) (D6 _) rfl F4 rfl ?_
  refine A4 ?_
  refine C2 ?_
  (refine L5 [4] ((x25.1, ⟨x15.1.1.Cuts, x25.2 :: sr, x15.1.1.Orders⟩)) ?_ rfl (by first | (dsimp only; rfl) | rfl) (P0 rfl (J9 (ys := _) 3 rfl rfl K5 F4 rfl)); first | exact ⟨(by dsimp only; omega), hdf⟩ | exact ⟨(by dsimp only; omega), ⟨hdf.clen, hdf.ckey, (by have h9 := hdf.slen; rw [hst, I5] at h9; dsimp only; rw [I5]; exact h9), fun s hs => (by (rcases List.mem_cons.1 hs with hs | hs; (rw [hs]; exact ok25.2.1); (exact hdf.st s (by rw [hst]; exact List.mem_cons_of_mem _ hs)))), hdf.os, hdf.olen⟩⟩ | exact ⟨(by dsimp only; omega), ⟨(show (2 : Nat) ≤ 2 from Nat.le_refl 2), (show ∀ k ∈ ([[122], [97]] : List Str), k.length ≤ 64 by decide), hdf.slen, hdf.st, hdf.os, hdf.olen⟩⟩ | exact ⟨(by dsimp only; omega), ⟨hdf.clen, hdf.ckey, (by have h9 := hdf.slen; dsimp only; rw [List.length_drop]; omega), fun s hs => hdf.st s (List.mem_of_mem_drop hs), hdf.os, hdf.olen⟩⟩)
 intro h20
 have k20 := M6 h20; try simp only [A8] at k20
 refine A3 (A2 ?_)
 refine A1 rfl (O1 rfl (A0 rfl) B4) ?_
 refine B3 rfl ?_
 refine A4 ?_
 refine B9 (A0 rfl) ?_ ?_
 ·intro h27
  have k27 := M7 h27; try simp only [A8] at k27
  refine A2 ?_
  refine A1 rfl (K9 rfl C9 E3 Tryz.zeroValue9 rfl rfl rfl rfl (D0 (N0 (l := [122]) rfl) (L7 _) (D0 (N0 (l := [97]) rfl) (L7 _) G9)) rfl rfl) ?_
  refine A1 rfl (B1 0 rfl E8 rfl H5 (A0 rfl) rfl) ?_
  refine K8 1 rfl rfl rfl (A0 rfl) (A0 rfl) (O9 _ _) rfl H5 rfl ?_
  refine A4 (A3 ?_)
  refine AWP.le (i0 [2] 1 (.box b5 43 [_, _, _]) rfl rfl ⟨rfl, rfl, (G4 M4 (G4 (M8 (F9 (i := 0) rfl) I7) (G4 M4 U3)))⟩ (O0 0 rfl rfl O3)) ?_
  refine A2 ?_
  refine A1 rfl (F1 1 rfl (A0 rfl) rfl K5 F4 rfl) ?_
  refine D2 4 rfl rfl rfl (A0 rfl) (A0 rfl) (D6 _) rfl F4 rfl ?_
  refine A4 ?_
  refine C2 ?_
  (refine L5 [0] ((x19.1, ⟨[[122], [97]], x15.1.1.States, x15.1.1.Orders⟩)) ?_ rfl (by first | (dsimp only; rfl) | rfl) (P0 rfl (J9 (ys := _) 4 rfl rfl K5 F4 rfl)); first | exact ⟨(by dsimp only; omega), hdf⟩ | exact ⟨(by dsimp only; omega), ⟨hdf.clen, hdf.ckey, (by have h9 := hdf.slen; rw [hst, I5] at h9; dsimp only; rw [I5]; exact h9), fun s hs => (by (rcases List.mem_cons.1 hs with hs | hs; (rw [hs]; exact ok25.2.1); (exact hdf.st s (by rw [hst]; exact List.mem_cons_of_mem _ hs)))), hdf.os, hdf.olen⟩⟩ | exact ⟨(by dsimp only; omega), ⟨(show (2 : Nat) ≤ 2 from Nat.le_refl 2), (show ∀ k ∈ ([[122], [97]] : List Str), k.length ≤ 64 by decide), hdf.slen, hdf.st, hdf.os, hdf.olen⟩⟩ | exact ⟨(by dsimp only; omega), ⟨hdf.clen, hdf.ckey, (by have h9 := hdf.slen; dsimp only; rw [List.length_drop]; omega), fun s hs => hdf.st s (List.mem_of_mem_drop hs), hdf.os, hdf.olen⟩⟩)
 intro h27
 have k27 := M6 h27; try simp only [A8] at k27
 refine A3 (A2 ?_)
 refine A1 rfl (O1 rfl (A0 rfl) B4) ?_
 refine B3 rfl ?_
 refine A4 ?_
 refine B9 (A0 rfl) ?_ ?_
 ·intro h31
  have k31 := M7 h31; try simp only [A8] at k31
  refine AWP.le (i0 [2] 1 (.box b5 43 [_, _, _]) rfl rfl ⟨rfl, rfl, (G4 M4 (G4 (M8 (F9 (i := 0) rfl) I7) (G4 M4 U3)))⟩ (O0 0 rfl rfl O3)) ?_
  refine A2 ?_
  refine A1 rfl (B1 1 rfl E8 rfl N8 (A0 rfl) rfl) ?_
  refine A1 rfl (B0 1 rfl (A0 rfl) rfl Q6 rfl) ?_
  refine A1 rfl (AB5 rfl J2 C5 (A0 rfl) B4 (by first | omega | (simp only [C8, A7, szR] at *; omega)) (by first | omega | (simp only [C8, A7, szR] at *; omega))) ?_
  refine A1 rfl (B1 1 rfl E8 rfl N8 (A0 rfl) rfl) ?_
  refine K8 1 rfl rfl rfl (A0 rfl) (A0 rfl) (O9 _ _) rfl N8 rfl ?_
  refine A4 (A3 (A2 ?_))
  refine A1 rfl (F1 1 rfl (A0 rfl) rfl K5 F4 rfl) ?_
  refine D2 4 rfl rfl rfl (A0 rfl) (A0 rfl) (D6 _) rfl F4 rfl ?_
  refine A4 ?_
  refine C2 ?_
  (refine L5 [0] ((x19.1, ⟨x15.1.1.Cuts, x15.1.1.States.drop 1, x15.1.1.Orders⟩)) ?_ rfl (by first | (dsimp only; rfl) | rfl) (P0 rfl (J9 (ys := _) 4 rfl rfl K5 F4 rfl)); first | exact ⟨(by dsimp only; omega), hdf⟩ | exact ⟨(by dsimp only; omega), ⟨hdf.clen, hdf.ckey, (by have h9 := hdf.slen; rw [hst, I5] at h9; dsimp only; rw [I5]; exact h9), fun s hs => (by (rcases List.mem_cons.1 hs with hs | hs; (rw [hs]; exact ok25.2.1); (exact hdf.st s (by rw [hst]; exact List.mem_cons_of_mem _ hs)))), hdf.os, hdf.olen⟩⟩ | exact ⟨(by dsimp only; omega), ⟨(show (2 : Nat) ≤ 2 from Nat.le_refl 2), (show ∀ k ∈ ([[122], [97]] : List Str), k.length ≤ 64 by decide), hdf.slen, hdf.st, hdf.os, hdf.olen⟩⟩ | exact ⟨(by dsimp only; omega), ⟨hdf.clen, hdf.ckey, (by have h9 := hdf.slen; dsimp only; rw [List.length_drop]; omega), fun s hs => hdf.st s (List.mem_of_mem_drop hs), hdf.os, hdf.olen⟩⟩)
 intro h31
 have k31 := M6 h31; try simp only [A8] at k31
 refine C3 (A3 ?_)
 refine AWP.le (i0 [2] 1 (.box b5 43 [_, _, _]) rfl rfl ⟨rfl, rfl, (G4 M4 (G4 (M8 (F9 (i := 0) rfl) I7) (G4 M4 U3)))⟩ (O0 0 rfl rfl O3)) ?_
 refine A2 ?_
 refine A1 rfl (F1 1 rfl (A0 rfl) rfl K5 F4 rfl) ?_
 refine D2 4 rfl rfl rfl (A0 rfl) (A0 rfl) (D6 _) rfl F4 rfl ?_
 refine A4 ?_
 refine C2 ?_
 (refine L5 [0] ((x19.1, x15.1.1)) ?_ rfl (by first | (dsimp only; rfl) | rfl) (P0 rfl (J9 (ys := _) 4 rfl rfl K5 F4 rfl)); first | exact ⟨(by dsimp only; omega), hdf⟩ | exact ⟨(by dsimp only; omega), ⟨hdf.clen, hdf.ckey, (by have h9 := hdf.slen; rw [hst, I5] at h9; dsimp only; rw [I5]; exact h9), fun s hs => (by (rcases List.mem_cons.1 hs with hs | hs; (rw [hs]; exact ok25.2.1); (exact hdf.st s (by rw [hst]; exact List.mem_cons_of_mem _ hs)))), hdf.os, hdf.olen⟩⟩ | exact ⟨(by dsimp only; omega), ⟨(show (2 : Nat) ≤ 2 from Nat.le_refl 2), (show ∀ k ∈ ([[122], [97]] : List Str), k.length ≤ 64 by decide), hdf.slen, hdf.st, hdf.os, hdf.olen⟩⟩ | exact ⟨(by dsimp only; omega), ⟨hdf.clen, hdf.ckey, (by have h9 := hdf.slen; dsimp only; rw [List.length_drop]; omega), fun s hs => hdf.st s (List.mem_of_mem_drop hs), hdf.os, hdf.olen⟩⟩)
theorem Ac0 (code : List Int) (hcode : ByteL code) : GSpec Tryz.prog 15 [bytesI code] [] (fun x : TDeal × Int => DF x.1) (fun x => []) (fun x => AV.tup [AV.agg x.1.cs, AV.int x.2]) := by
 refine H3 Tryz.func15 rfl Tryz.ntmps15 rfl ?_
 refine A3 (A2 ?_)
 refine F5 rfl rfl rfl rfl Tryz.zeroValue43 rfl ?_
 intro b2
 refine A1 rfl (B6 rfl B4) ?_
 refine A4 (A3 (A2 ?_))
 refine A5 rfl ?_
 refine A1 rfl (N5 (places := #[(0, 1), (1, 1), (2, 1)]) rfl P1 Tryz.zeroValue64 (fun w => by kernel_rfl) rfl (D0 (A0 rfl) (O9 _ _) G9) rfl) ?_
 refine N1 rfl rfl rfl rfl (A0 rfl) ?_
 intro b7
 refine B3 rfl ?_
 refine A4 (A3 (A2 ?_))
 refine A5 rfl ?_
 refine H9 [0] rfl rfl rfl rfl Tryz.call39 rfl (BB5 _ _ hcode ⟨0, 0⟩ (by decide)) (A6 (A0 rfl) C0) rfl ?_
 intro x9 ok9
 have hp9 : x9.1.p ≤ 2100 := by (have h9 := ok9.1; dsimp only at h9; omega)
 refine A5 rfl ?_
 refine H9 [0] rfl rfl rfl rfl Tryz.call34 rfl (R4 _ _ hcode _ _ (by omega) (by omega)) (A6 (A0 rfl) (A6 B4 C0)) rfl ?_
 intro x11 ok11
 refine A5 rfl ?_
 refine H9 [0] rfl rfl rfl rfl Tryz.call34 rfl (R4 _ _ hcode _ _ (by omega) (by omega)) (A6 (A0 rfl) (A6 B4 C0)) rfl ?_
 intro x13 ok13
 have h13q : 0 ≤ Int.tdiv x13.2 19 ∧ Int.tdiv x13.2 19 ≤ 2 := by (rw [Int.tdiv_eq_ediv_of_nonneg (by omega)]; omega)
 have h13w : IntKind.i64.wrap (Int.tdiv x13.2 19) = Int.tdiv x13.2 19 := AO7 (by omega)
 refine A1 rfl (w_quo rfl (A0 rfl) B4 (by first | omega | (simp only [C8, A7, szR] at *; omega))) ?_
 refine A1 rfl (R7 rfl (A0 rfl) (A0 rfl) (by rw [h13w]; omega)) ?_
 refine D2 1 rfl rfl rfl (A0 rfl) (A0 rfl) (D6 _) rfl F4 rfl ?_
 refine B3 rfl ?_
 refine A4 ?_
 refine C2 ?_
 (refine L5 [] ((x9.2, _)) ?_ rfl (by first | (dsimp only; rfl) | rfl) (V5 rfl (by decide) (E7 (J9 (ys := _) 1 rfl rfl K5 F4 rfl) (E7 (C1 rfl (by rfl)) M0))); exact ok9.2)
end Go.Proofs.YtoaoicnnimjbeaaGreat

namespace Go.Proofs.YtoaoicnnimjbeaaGreat
open Go Go.AV Go.M
attribute [local irreducible] OpW OpA OpS AWP FSpec ESpec GSpec OpE RetOk RetOkG RvDen Le Ev GuardIs SrcIs SrcE Int.tmod IntKind.wrap bandI
theorem Ac1 (code : List Int) (hcode : ByteL code) : GSpec Tryz.prog 10 [bytesI code] [] (fun x : List Str × TOrder => x.1 ∈ cutsD ∧ x.2.size ≤ 1000) (fun x => []) (fun x => AV.tup [strs x.1, AV.agg x.2.cs]) := by
 refine H3 Tryz.func10 rfl Tryz.ntmps10 rfl ?_
 refine A3 (A2 ?_)
 refine A1 rfl (B6 rfl L4) ?_
 refine F5 rfl rfl rfl rfl Tryz.zeroValue32 rfl ?_
 intro b3
 refine A4 (A3 (A2 ?_))
 refine A5 rfl ?_
 refine A1 rfl (N5 (places := #[(0, 1), (1, 1), (2, 1)]) rfl P1 Tryz.zeroValue64 (fun w => by kernel_rfl) rfl (D0 (A0 rfl) (O9 _ _) G9) rfl) ?_
 refine N1 rfl rfl rfl rfl (A0 rfl) ?_
 intro b8
 refine B3 rfl ?_
 refine A4 (A3 (A2 ?_))
 refine A5 rfl ?_
 refine H9 [0] rfl rfl rfl rfl Tryz.call33 rfl (AH8 _ _ hcode ⟨0, 0⟩ (by decide)) (A6 (A0 rfl) C0) rfl ?_
 intro x10 ok10
 have hp10 : x10.1.p ≤ 402 := by (have h9 := ok10.1; dsimp only at h9; omega)
 refine B3 rfl ?_
 refine A4 (A3 (A3 (A2 ?_)))
 refine A5 rfl ?_
 refine A1 rfl (F6 rfl I0 (A0 rfl)) ?_
 refine A1 rfl (O1 rfl (A0 rfl) B4) ?_
 refine A4 ?_
 refine B9 (A0 rfl) ?_ ?_
 ·intro h13
  have k13 := M7 h13; try simp only [A8] at k13
  refine A3 (A2 ?_)
  refine A5 rfl ?_
  refine H9 [0] rfl rfl rfl rfl Tryz.call25 rfl (i7 _ _ hcode _ (by omega)) (A6 (A0 rfl) C0) rfl ?_
  intro x15 ok15
  refine A5 rfl ?_
  refine H9 [0] rfl rfl rfl rfl Tryz.call34 rfl (R4 _ _ hcode _ _ (by omega) (by omega)) (A6 (A0 rfl) (A6 B4 C0)) rfl ?_
  intro x17 ok17
  refine A1 rfl (K9 rfl C9 E3 Tryz.zeroValue9 rfl rfl rfl rfl (D0 (N0 (l := [109]) rfl) (L7 _) G9) rfl rfl) ?_
  refine A1 rfl (N5 (places := #[(0, 1), (1, 1), (2, 1)]) rfl H1 Tryz.zeroValue32 (fun w => by kernel_rfl) rfl (D0 (A0 rfl) (L8 _ _) (D0 (A0 rfl) (O9 _ _) G9)) rfl) ?_
  refine B3 rfl ?_
  refine D2 1 rfl rfl rfl (A0 rfl) (A0 rfl) (D6 _) rfl H4 rfl ?_
  refine A4 ?_
  refine C2 ?_
  refine Q7 1 2 3 rfl rfl O3 ?_
  (refine L5 [] ((x15.2, ⟨x17.2, [[109]], []⟩)) ?_ rfl (by first | (dsimp only; rfl) | rfl) (V5 rfl (by decide) (E7 (C1 rfl (by rfl)) (E7 (J9 (ys := _) 1 rfl rfl Q4 H4 rfl) M0))); first | exact ⟨ok15.2, by show sizeL (fun x : Str => x.length) [[109]] + sizeL TWrite.size [] ≤ 1000; decide⟩ | exact ⟨ok21.2, ok10.2.2.1 o (F9 ho)⟩)
 intro h13
 have k13 := M6 h13; try simp only [A8] at k13
 obtain ⟨o, ho⟩ := get_some (show 0 < x10.2.length by (have h9 : ¬ ((x10.2.map TOrder.cs).length : Int) = 0 := by simpa using h13); simp only [A8] at h9; omega)
 refine C3 (A3 ?_)
 refine P2 (by first | (simp only [splice, pick, U0, T6, T2, S4, S2, List.nil_append, U1, T7, List.append_nil, S5, List.take_zero, S8, List.drop_zero]; exact rfl) | exact rfl) ?_
 refine AWP.le (F8 [0, 0] rfl) ?_
 refine V3 [] [(0, false), (2, false), (3, false), (4, false), (1, true), (5, false)] (by kernel_rfl) (by kernel_rfl) rfl H6 ?_
 refine H7 rfl rfl rfl (fun ext => B8 rfl (A0 rfl)) ?_
 refine H7 rfl rfl rfl (fun ext => B8 rfl (A0 rfl)) ?_
 refine H7 rfl rfl rfl (fun ext => I2 rfl I0 H4 (A0 rfl) B4 ho (by first | omega | (simp only [C8, A7, szR] at *; omega))) ?_
 refine H7 rfl rfl rfl (fun ext => K6 rfl (A0 rfl) Q4 H4) ?_
 refine V4 rfl rfl rfl (Y0 [0] rfl Tryz.call25 rfl (i7 _ _ hcode _ (by omega)) (A6 (A0 rfl) C0) rfl) (fun a _ => (by first | exact E1 rfl | exact E1 (List.append_assoc _ _ _) | exact H6)) ?_
 intro x21 ok21
 refine H7 rfl rfl rfl (fun ext => B6 rfl (A0 rfl)) ?_
 refine l4 ?_
 refine D2 0 rfl rfl rfl (A0 rfl) (A0 rfl) (D6 _) rfl H4 rfl ?_
 refine A4 ?_
 refine C2 ?_
 (refine L5 [] ((x21.2, o)) ?_ rfl (by first | (dsimp only; rfl) | rfl) (V5 rfl (by decide) (E7 (C1 rfl (by rfl)) (E7 (J9 (ys := _) 0 rfl rfl Q4 H4 rfl) M0))); first | exact ⟨ok15.2, by show sizeL (fun x : Str => x.length) [[109]] + sizeL TWrite.size [] ≤ 1000; decide⟩ | exact ⟨ok21.2, ok10.2.2.1 o (F9 ho)⟩)
theorem AX4 (code : List Int) (hcode : ByteL code) : GSpec Tryz.prog 20 [bytesI code] [] (fun x : (List Str × List TOrder) × Value => x.1.1 ∈ cutsD ∧ x.1.2.length ≤ 5 ∧ ∀ o ∈ x.1.2, o.size ≤ 1000) (fun x => [.arr x.2 32 3 (x.1.2.map TOrder.cs)]) (fun x => AV.tup [strs x.1.1, AV.is x.2]) := by
 refine H3 Tryz.func20 rfl Tryz.ntmps20 rfl ?_
 refine A3 (A2 ?_)
 refine A1 rfl (B6 rfl L4) ?_
 refine A1 rfl (B6 rfl L4) ?_
 refine A4 (A3 (A2 ?_))
 refine A5 rfl ?_
 refine A1 rfl (N5 (places := #[(0, 1), (1, 1), (2, 1)]) rfl P1 Tryz.zeroValue64 (fun w => by kernel_rfl) rfl (D0 (A0 rfl) (O9 _ _) G9) rfl) ?_
 refine N1 rfl rfl rfl rfl (A0 rfl) ?_
 intro b8
 refine B3 rfl ?_
 refine A4 (A3 (A2 ?_))
 refine A5 rfl ?_
 refine H9 [0] rfl rfl rfl rfl Tryz.call33 rfl (AL8 _ _ hcode ⟨0, 0⟩ (by decide)) (A6 (A0 rfl) C0) rfl ?_
 intro x10 ok10
 have hp10 : x10.1.p ≤ 402 := by (have h9 := ok10.1; dsimp only at h9; omega)
 refine B3 rfl ?_
 refine A4 (A3 (A3 (A2 ?_)))
 refine A5 rfl ?_
 refine A1 rfl (W4 1 rfl I0 (A0 rfl) rfl) ?_
 refine A1 rfl (R8 rfl (A0 rfl) B4) ?_
 refine A5 rfl ?_
 refine D3 rfl (fun hc => B8 rfl (A0 rfl)) ?_
 refine AA1 rfl rfl (I9 rfl rfl rfl) ?_ ?_
 ·intro gh16
  refine H9 [0] rfl rfl rfl rfl Tryz.call49 rfl (n6 _ _ hcode _ _ (by omega) (by omega)) (A6 (A9 rfl gh16) (A6 B4 C0)) rfl ?_
  intro x16 ok16
  refine A1 rfl (J5 rfl (A0 rfl) (evif (A0 rfl))) ?_
  refine A4 ?_
  refine B9 (A0 rfl) ?_ ?_
  ·intro h17
   have hl0 : 0 < x10.2.1.length := by (simp only [Bool.and_eq_true, decide_eq_true_eq, A8] at h17; omega)
   obtain ⟨o, ho⟩ := get_some hl0
   refine A2 ?_
   refine A5 rfl ?_
   refine A5 rfl ?_
   refine A1 rfl (U7 1 rfl I0 H4 (A0 rfl) rfl B4 (by omega) (by simp only [A8]; omega)) ?_
   refine A1 rfl (c0 1 rfl (A0 rfl) rfl Q4 H4 (show (x10.2.1.map TOrder.cs)[(0 : Int).toNat]? = some o.cs by rw [List.getElem?_map]; show (x10.2.1[0]?).map _ = _; rw [ho]; rfl) (by decide)) ?_
   refine A1 rfl (K9 rfl I0 H4 Tryz.zeroValue32 rfl rfl rfl rfl (D0 (A0 rfl) (D6 _) G9) rfl rfl) ?_
   refine L2 (by' := 56) 1 rfl rfl rfl rfl I0 Tryz.type32 rfl rfl rfl rfl rfl rfl (A0 rfl) (A0 rfl) rfl (by first | omega | (simp only [C8, A7, szR] at *; omega)) ?_
   intro v23_1
   refine B3 rfl ?_
   refine A4 (A3 (A2 ?_))
   refine A5 rfl ?_
   refine H9 [0] rfl rfl rfl rfl Tryz.call25 rfl (i7 _ _ hcode _ (by omega)) (A6 (A0 rfl) C0) rfl ?_
   intro x25 ok25
   refine A5 rfl ?_
   refine B3 rfl ?_
   refine B3 rfl ?_
   refine A4 ?_
   refine C2 ?_
   (refine L5 [1] (((x25.2, x10.2.1 ++ [o]), v23_1)) ?_ rfl (by first | rfl | (dsimp only; rw [List.map_append]; rfl)) (V5 rfl (by decide) (E7 (C1 rfl (by rfl)) (E7 (C1 rfl (by rfl)) M0))); first | exact ⟨ok25.2, (by dsimp only; omega), ok10.2.2.1⟩ | exact ⟨ok25.2, (by dsimp only; rw [J6]; simp only [I5, N4]; omega), fun q hq => by (rcases List.mem_append.1 hq with hq | hq; (exact ok10.2.2.1 q hq); (rw [List.mem_singleton.1 hq]; exact ok10.2.2.1 o (F9 ho)))⟩)
  intro h17
  refine C3 (A3 (A2 ?_))
  refine A5 rfl ?_
  refine H9 [0] rfl rfl rfl rfl Tryz.call25 rfl (i7 _ _ hcode _ (by omega)) (A6 (A0 rfl) C0) rfl ?_
  intro x25 ok25
  refine A5 rfl ?_
  refine B3 rfl ?_
  refine B3 rfl ?_
  refine A4 ?_
  refine C2 ?_
  (refine L5 [1] (((x25.2, x10.2.1), x10.2.2)) ?_ rfl (by first | rfl | (dsimp only; rw [List.map_append]; rfl)) (V5 rfl (by decide) (E7 (C1 rfl (by rfl)) (E7 (C1 rfl (by rfl)) M0))); first | exact ⟨ok25.2, (by dsimp only; omega), ok10.2.2.1⟩ | exact ⟨ok25.2, (by dsimp only; rw [J6]; simp only [I5, N4]; omega), fun q hq => by (rcases List.mem_append.1 hq with hq | hq; (exact ok10.2.2.1 q hq); (rw [List.mem_singleton.1 hq]; exact ok10.2.2.1 o (F9 ho)))⟩)
 intro gh16
 refine A1 rfl (J5 rfl (A0 rfl) (Ah9 (x := AV.bool false) gh16)) ?_
 refine A4 ?_
 refine B9 (A0 rfl) ?_ ?_
 ·intro h17
  have hl0 : 0 < x10.2.1.length := by (simp only [Bool.and_eq_true, decide_eq_true_eq, A8] at h17; omega)
  obtain ⟨o, ho⟩ := get_some hl0
  refine A2 ?_
  refine A5 rfl ?_
  refine A5 rfl ?_
  refine A1 rfl (U7 1 rfl I0 H4 (A0 rfl) rfl B4 (by omega) (by simp only [A8]; omega)) ?_
  refine A1 rfl (c0 1 rfl (A0 rfl) rfl Q4 H4 (show (x10.2.1.map TOrder.cs)[(0 : Int).toNat]? = some o.cs by rw [List.getElem?_map]; show (x10.2.1[0]?).map _ = _; rw [ho]; rfl) (by decide)) ?_
  refine A1 rfl (K9 rfl I0 H4 Tryz.zeroValue32 rfl rfl rfl rfl (D0 (A0 rfl) (D6 _) G9) rfl rfl) ?_
  refine L2 (by' := 56) 1 rfl rfl rfl rfl I0 Tryz.type32 rfl rfl rfl rfl rfl rfl (A0 rfl) (A0 rfl) rfl (by first | omega | (simp only [C8, A7, szR] at *; omega)) ?_
  intro v23_2
  refine B3 rfl ?_
  refine A4 (A3 (A2 ?_))
  refine A5 rfl ?_
  refine H9 [0] rfl rfl rfl rfl Tryz.call25 rfl (i7 _ _ hcode _ (by omega)) (A6 (A0 rfl) C0) rfl ?_
  intro x25 ok25
  refine A5 rfl ?_
  refine B3 rfl ?_
  refine B3 rfl ?_
  refine A4 ?_
  refine C2 ?_
  (refine L5 [1] (((x25.2, x10.2.1 ++ [o]), v23_2)) ?_ rfl (by first | rfl | (dsimp only; rw [List.map_append]; rfl)) (V5 rfl (by decide) (E7 (C1 rfl (by rfl)) (E7 (C1 rfl (by rfl)) M0))); first | exact ⟨ok25.2, (by dsimp only; omega), ok10.2.2.1⟩ | exact ⟨ok25.2, (by dsimp only; rw [J6]; simp only [I5, N4]; omega), fun q hq => by (rcases List.mem_append.1 hq with hq | hq; (exact ok10.2.2.1 q hq); (rw [List.mem_singleton.1 hq]; exact ok10.2.2.1 o (F9 ho)))⟩)
 intro h17
 refine C3 (A3 (A2 ?_))
 refine A5 rfl ?_
 refine H9 [0] rfl rfl rfl rfl Tryz.call25 rfl (i7 _ _ hcode _ (by omega)) (A6 (A0 rfl) C0) rfl ?_
 intro x25 ok25
 refine A5 rfl ?_
 refine B3 rfl ?_
 refine B3 rfl ?_
 refine A4 ?_
 refine C2 ?_
 (refine L5 [1] (((x25.2, x10.2.1), x10.2.2)) ?_ rfl (by first | rfl | (dsimp only; rw [List.map_append]; rfl)) (V5 rfl (by decide) (E7 (C1 rfl (by rfl)) (E7 (C1 rfl (by rfl)) M0))); first | exact ⟨ok25.2, (by dsimp only; omega), ok10.2.2.1⟩ | exact ⟨ok25.2, (by dsimp only; rw [J6]; simp only [I5, N4]; omega), fun q hq => by (rcases List.mem_append.1 hq with hq | hq; (exact ok10.2.2.1 q hq); (rw [List.mem_singleton.1 hq]; exact ok10.2.2.1 o (F9 ho)))⟩)
theorem Ac2 (code : List Int) (hcode : ByteL code) : GSpec Tryz.prog 20 [bytesI code] [] (fun x : List Str × List TOrder => x.1 ∈ cutsD ∧ x.2.length ≤ 5 ∧ ∀ o ∈ x.2, o.size ≤ 1000) (fun x => []) (fun x => AV.tup [strs x.1, AV.list 3 (x.2.map TOrder.cs)]) :=
  AI7 (fun x => x.1) (fun x => [.arr x.2 32 3 (x.1.2.map TOrder.cs)]) (fun x => []) (AX4 code hcode) (fun _ h => h) (fun x _ => AJ7 (G4 M4 (G4 (M8 (List.mem_singleton.2 rfl) I7) U3))) (fun x _ => List.Perm.refl _) (fun _ _ => O3) (fun x _ => Au2)
end Go.Proofs.YtoaoicnnimjbeaaGreat

namespace Go.AV
theorem Ac3 {P : Program} {G : Nat → Prop} {n : Nat} {x y : Code} {Q : Exit → AState → Prop} {own : List Own} {env : List (Nat × AV)} (base : List (Nat × AV)) (h0 : AllIn env base) (hx : AWP P G n x (seqQ (fun s' => Le G n s' ⟨own, base⟩) Q) ⟨own, env⟩) (k : AWP P G n y Q ⟨own, base⟩) : AWP P G n x (seqQ (AWP P G n y Q) Q) ⟨own, env⟩ :=
 (hx.mono fun e s q => by
  cases e with
  | normal => exact AWP.le q k
  | _ => exact q)
end Go.AV

namespace Go.M
open Go.AV
theorem partR_ok {l : List Str} {k : Str} (h : (partR l k).2 = true) : partR l k = ((partW l k : Int), true) := by
  unfold partR at h ⊢
  split at h
  · rename_i hg; rw [if_pos hg]
  · cases h
theorem BB6 {l : List Str} {k : Str} (h : 0 < partW l k) : leS (l.getD (partW l k - 1) []) k = true := by
  have hl := AE9 l k
  exact (AF0 (k := k) (AP0 (l := l) (i := partW l k - 1) (by omega))).1 (by omega)
theorem BB7 {l : List Str} {k : Str} (h : partW l k < l.length) : leS (l.getD (partW l k) []) k = false :=
  (AF0 (k := k) (AP0 (l := l) h)).2 rfl
theorem BN9 {l : List Str} {o : TOrder} (h : (partsR l o).2 = true) : partsR l o = (partsL l (keysO o), true) ∧ l15Cuts l = true ∧ orderR o = true := by
  unfold partsR at h ⊢
  split at h
  · rename_i hg; rw [if_pos hg]; simp only [Bool.and_eq_true] at hg; exact ⟨rfl, hg⟩
  · cases h
theorem BO0 {o : TOrder} {k : Str} (h : orderR o = true) (hk : k ∈ o.Reads) : l3Key k = true := by
  unfold orderR goodRec good1 at h
  rw [if_pos rfl] at h
  simp only [Bool.and_eq_true, decide_eq_true_eq] at h
  have h0 := h.1.1.1.1.2
  unfold areRising at h0
  simp only [Bool.and_eq_true, List.all_eq_true] at h0
  rw [← l5]; exact h0.1 k hk
theorem BO1 {l : List Str} {o : TOrder} {k : Str} (hk : k ∈ o.Reads) : ((partsL l (keysO o)).any fun x => x == (partW l k : Int)) = true := by
  have h1 : k ∈ keysO o := (AB7 _ _).2 (List.mem_append_left _ hk)
  have h2 := ((r7 (cuts := l) (ks := keysO o) (a := []) List.Pairwise.nil).2 (partW l k)).2 (.inr ⟨k, h1, rfl⟩)
  exact List.any_eq_true.2 ⟨_, h2, by simp⟩
def sumC (ss : List TState) (t : Int) : Nat := (ss.map fun s => (cellsAt s.Cells t).length).sum
theorem BO2 {ss : List TState} {t : Int} {i : Nat} {s : TState} (h : ss[i]? = some s) : sumC (ss.take (i + 1)) t = sumC (ss.take i) t + (cellsAt s.Cells t).length := by
  unfold sumC; rw [List.take_add_one, h, List.map_append, List.sum_append]; simp
theorem BO3 {t : Int} (ss : List TState) : (rowsL ss t).length ≤ sumC ss t := by
  have key : ∀ (ss : List TState) (a : List TWrite), (ss.foldl (fun a s => insAll a (cellsAt s.Cells t)) a).length ≤ a.length + sumC ss t := by
    intro ss
    induction ss with
    | nil => intro a; simp
    | cons s ss ih =>
      intro a
      have h1 := ih (insAll a (cellsAt s.Cells t))
      have h2 := w6 (ws := cellsAt s.Cells t) (l := a)
      have h3 : sumC (s :: ss) t = (cellsAt s.Cells t).length + sumC ss t := by unfold sumC; simp
      rw [List.foldl_cons]; omega
  have := key ss []
  unfold rowsL; simpa using this
theorem sumC_le {ss : List TState} {t : Int} {m : Nat} (h : ∀ s ∈ ss, s.Cells.length ≤ m) : sumC ss t ≤ ss.length * m := by
  induction ss with
  | nil => simp [sumC]
  | cons s ss ih =>
    have h1 := ih fun x hx => h x (List.mem_cons_of_mem _ hx)
    have h2 := h s List.mem_cons_self
    have h3 := l9 s.Cells t
    have h4 : sumC (s :: ss) t = (cellsAt s.Cells t).length + sumC ss t := by unfold sumC; simp
    rw [I5, Nat.succ_mul]; omega
theorem BK6 {l : List TCell} {t : Int} (h1 : goodCells l = true) (h2 : M.isTrue t = true) : cellsAtR l t = (cellsAt l t, true) := by
  unfold cellsAtR; rw [h1, h2]; rfl
theorem AV8 {cuts : List Str} {os : List TOrder} : (!(newDealR cuts os).2 || goodDealR (newDealR cuts os).1) = true := by
  unfold newDealR
  split
  · rename_i h; rw [AA2, h]; rfl
  · rfl
end Go.M
namespace Go.Proofs.YtoaoicnnimjbeaaGreat
open Go Go.AV Go.M
theorem BB8 {d : TDeal} {t : Int} (h : (dealRowsR d t).2 = true) : dealRowsR d t = (rowsL d.States t, true) ∧ (∀ s ∈ d.States, goodCells s.Cells = true) ∧ M.isTrue t = true := by
  unfold dealRowsR at h ⊢
  split at h
  · rename_i hg
    rw [if_pos hg]
    unfold rowsR at h ⊢
    split at h
    · rename_i h2
      rw [if_pos h2]
      simp only [Bool.and_eq_true] at hg
      refine ⟨rfl, fun s hs => ?_, hg.2⟩
      have h3 := hg.1
      unfold goodDealR at h3
      simp only [Bool.and_eq_true, List.all_eq_true] at h3
      exact (g9.1 (by first | exact h3.1.1.2 s hs | exact h3.1.2 s hs | exact h3.1.1.1 s hs | exact h3.1.1.1.2 s hs | exact h3.2.1 s hs)).cells
    · cases h
  · cases h
theorem empty_b {cuts : List Str} {os : List TOrder} (hc : cuts ∈ cutsD) (hl : os.length ≤ 5) (hs : ∀ o ∈ os, o.size ≤ 1000) : DealB (emptyDeal cuts os) where
  cuts := fun k hk => Nat.le_trans ((f4 hc).1 k hk) (by decide)
  clen := Nat.le_trans (f4 hc).2 (by decide)
  slen := by show (List.replicate (cuts.length + 1) zState).length ≤ 10; rw [List.length_replicate]; have := (f4 hc).2; omega
  states := fun s h => by rw [(List.mem_replicate.1 h).2]; decide
  orders := fun o ho => Nat.le_trans (hs o ho) (by decide)
  olen := Nat.le_trans hl (by decide)
theorem BO4 {cuts : List Str} {os : List TOrder} (b : DealB (emptyDeal cuts os)) : DealB (newDealR cuts os).1 := by
  unfold newDealR
  split
  · exact b
  · exact ⟨fun k hk => (by cases hk), by decide, by decide, by decide, fun s hs => (by cases hs), fun o ho => (by cases ho)⟩
open Go.ChangeShapes Go.WideShapes Go.ChangeAt Go.RowKit
section
attribute [local irreducible] OpW OpA OpS AWP FSpec ESpec GSpec OpE RetOk RetOkG RvDen Le Ev GuardIs SrcIs SrcE Int.tdiv IntKind.wrap
theorem Ar1 (code : List Int) (hc : ∀ x ∈ code, (Lit.int .u8 x).wf = true) (more : List Int) (hm : ∀ x ∈ more, (Lit.int .u8 x).wf = true) : FSpec Tryz.prog 3 [bytesI code, bytesI more] (AV.bool true) := by
 refine E2 Tryz.func3 rfl Tryz.ntmps3 rfl ?_
 refine A3 (A2 ?_)
 refine A1 rfl (B6 rfl E9) ?_
 refine A4 (A3 (A3 (A2 ?_)))
 refine A5 rfl ?_
 refine A5 rfl ?_
 refine A1 rfl (D7 rfl Tryz.call4 rfl (big_spec _ _) (A6 (A0 rfl) (A6 (A0 rfl) C0))) ?_
 refine A4 ?_
 refine B9 (A0 rfl) ?_ ?_
 ·intro h40
  refine A3 (A2 ?_)
  refine A1 rfl (B6 rfl E9) ?_
  refine A4 ?_
  refine C2 ?_
  exact I3 rfl (C1 rfl (by first | rfl | exact congrArg AV.bool (by rw [AV8]; simp)))
 intro h40
 have hb0 : ByteL code := Au3 hc
 have hb1 : ByteL more := Au3 hm
 refine C3 (A3 (A2 ?_))
 refine A5 rfl ?_
 refine H9 [] rfl rfl rfl rfl Tryz.call5 rfl (Ai4 code hb0) (A6 (A0 rfl) C0) rfl ?_
 intro x43 ok43
 obtain ⟨⟨cuts, key⟩, hx43⟩ : ∃ z, x43 = z := ⟨_, rfl⟩
 subst hx43
 obtain ⟨hcd, hkl⟩ := ok43
 dsimp only at hcd hkl ⊢
 have hck : ∀ k ∈ cuts, k.length ≤ 4611686018427387904 := fun k hk => Nat.le_trans ((f4 hcd).1 k hk) (by decide)
 have hcl := (f4 hcd).2
 refine A5 rfl ?_
 refine A1 rfl (G6 rfl (A0 rfl) rfl) ?_
 refine A1 rfl (G6 rfl (A0 rfl) rfl) ?_
 refine B3 rfl ?_
 refine B3 rfl ?_
 refine A4 (A3 (A2 ?_))
 refine A5 rfl ?_
 refine A5 rfl ?_
 refine A1 rfl (D7 rfl Tryz.call6 rfl (AU7 cuts key hck (by omega)) (A6 (A0 rfl) (A6 (A0 rfl) C0))) ?_
 refine A5 rfl ?_
 refine A1 rfl (G6 rfl (A0 rfl) rfl) ?_
 refine A1 rfl (G6 rfl (A0 rfl) rfl) ?_
 refine B3 rfl ?_
 refine B3 rfl ?_
 refine A4 (A3 (A2 ?_))
 refine A5 rfl ?_
 refine A5 rfl ?_
 refine A1 rfl (D7 rfl Tryz.call7 rfl (Av4 cuts key hck (by omega)) (A6 (A0 rfl) (A6 (A0 rfl) C0))) ?_
 refine A5 rfl ?_
 refine A1 rfl (G6 rfl (A0 rfl) rfl) ?_
 refine A1 rfl (G6 rfl (A0 rfl) rfl) ?_
 refine B3 rfl ?_
 refine B3 rfl ?_
 refine A4 (A3 (A3 (A2 ?_)))
 refine A5 rfl ?_
 refine A5 rfl ?_
 refine A1 rfl (Ac9 rfl V8 (A0 rfl) (A0 rfl)) ?_
 refine A5 rfl ?_
 refine F3 rfl (fun hc => B8 rfl (A0 rfl)) ?_
 refine F3 rfl (fun hc => B8 rfl (A0 rfl)) ?_
 refine F3 rfl (fun hc => Z7 rfl (A9 rfl hc) (A9 rfl hc)) ?_
 refine A1 rfl (Q8 rfl (A0 rfl) (F7 rfl)) ?_
 refine A5 rfl ?_
 refine F3 rfl (fun hc => B8 rfl (A0 rfl)) ?_
 refine F3 rfl (fun hc => D7 rfl Tryz.call8 rfl (s3 cuts hck) (A6 (A9 rfl hc) C0)) ?_
 refine F3 rfl (fun hc => B8 rfl (A0 rfl)) ?_
 refine F3 rfl (fun hc => D7 rfl Tryz.call9 rfl (Ai2 cuts hck) (A6 (A9 rfl hc) C0)) ?_
 refine F3 rfl (fun hc => Ac9 rfl V8 (A9 rfl hc) (A9 rfl hc)) ?_
 refine A1 rfl (Q8 rfl (A0 rfl) (F7 rfl)) ?_
 refine A4 ?_
 refine B9 (A0 rfl) ?_ ?_
 ·intro h72
  exfalso; simp at h72
 intro h72
 refine C3 (A3 (A3 (A2 ?_)))
 refine A5 rfl ?_
 refine A4 ?_
 refine Ac3 [(1, _)] ⟨rfl, trivial⟩ ?_ ?_
 ·skip
  refine B9 (A0 rfl) ?_ ?_
  ·intro h73
   have hpr := partR_ok h73
   have hpl := AE9 cuts key
   rw [hpr]
   refine A3 (A2 ?_)
   refine A5 rfl ?_
   refine A1 rfl (J8 rfl (A0 rfl) B4) ?_
   refine A5 rfl ?_
   refine F3 rfl (fun hc => B8 rfl (A0 rfl)) ?_
   refine F3 rfl (fun hc => B8 rfl (A0 rfl)) ?_
   refine F3 rfl (fun hc => F6 rfl C9 (A9 rfl hc)) ?_
   refine F3 rfl (fun hc => R8 rfl (A9 rfl hc) (A9 rfl hc)) ?_
   refine A1 rfl (Q8 rfl (A0 rfl) (F7 rfl)) ?_
   refine A5 rfl ?_
   refine F3 rfl (fun hc => B8 rfl (A0 rfl)) ?_
   refine F3 rfl (fun hc => R8 rfl (A9 rfl hc) B4) ?_
   refine F3 rfl (fun hc => B8 rfl (A9 rfl hc)) ?_
   refine J7 rfl rfl (E6 rfl rfl rfl) (fun hc => B8 rfl (A0 rfl)) ?_
   refine J7 rfl rfl (E6 rfl rfl rfl) (fun hc => B8 rfl (A0 rfl)) ?_
   refine J7 rfl rfl (E6 rfl rfl rfl) (fun hc => R7 rfl (A9 rfl hc) B4 (by omega)) ?_
   refine J7 rfl rfl (E6 rfl rfl rfl) (fun hc => n4 rfl C9 E3 (A9 rfl hc) (A9 rfl hc) (by (simp only [Bool.and_eq_true, Bool.not_eq_true', Bool.or_eq_false_iff, decide_eq_true_eq, decide_eq_false_iff_not] at hc; omega)) (by (simp only [Bool.and_eq_true, Bool.not_eq_true', Bool.or_eq_false_iff, decide_eq_true_eq, decide_eq_false_iff_not] at hc; rw [show ((partW cuts key : Nat) : Int) - 1 = ((partW cuts key - 1 : Nat) : Int) from by omega]; exact Ab6 (by omega)))) ?_
   refine J7 rfl rfl (E6 rfl rfl rfl) (fun hc => L6 rfl (A9 rfl hc) G3 rfl) ?_
   refine J7 rfl rfl (E6 rfl rfl rfl) (fun hc => B8 rfl (A0 rfl)) ?_
   refine J7 rfl rfl (E6 rfl rfl rfl) (fun hc => AR2 rfl (A9 rfl hc) (A9 rfl hc)) ?_
   refine F3 rfl (fun hc => J5 rfl (A9 rfl hc) (T1 rfl hc)) ?_
   refine A1 rfl (Q8 rfl (A0 rfl) (F7 rfl)) ?_
   refine A5 rfl ?_
   refine F3 rfl (fun hc => B8 rfl (A0 rfl)) ?_
   refine F3 rfl (fun hc => B8 rfl (A0 rfl)) ?_
   refine F3 rfl (fun hc => F6 rfl C9 (A9 rfl hc)) ?_
   refine F3 rfl (fun hc => J8 rfl (A9 rfl hc) (A9 rfl hc)) ?_
   refine F3 rfl (fun hc => B8 rfl (A9 rfl hc)) ?_
   refine J7 rfl rfl (E6 rfl rfl rfl) (fun hc => B8 rfl (A0 rfl)) ?_
   refine J7 rfl rfl (E6 rfl rfl rfl) (fun hc => B8 rfl (A0 rfl)) ?_
   refine J7 rfl rfl (E6 rfl rfl rfl) (fun hc => n4 rfl C9 E3 (A9 rfl hc) (A9 rfl hc) (by (simp only [Bool.and_eq_true, Bool.not_eq_true', Bool.or_eq_false_iff, decide_eq_true_eq, decide_eq_false_iff_not, A8] at hc; omega)) (by (simp only [Bool.and_eq_true, Bool.not_eq_true', Bool.or_eq_false_iff, decide_eq_true_eq, decide_eq_false_iff_not, A8] at hc; exact Ab6 (by omega)))) ?_
   refine J7 rfl rfl (E6 rfl rfl rfl) (fun hc => L6 rfl (A9 rfl hc) G3 rfl) ?_
   refine J7 rfl rfl (E6 rfl rfl rfl) (fun hc => B8 rfl (A0 rfl)) ?_
   refine J7 rfl rfl (E6 rfl rfl rfl) (fun hc => Ad0 rfl (A9 rfl hc) (A9 rfl hc)) ?_
   refine F3 rfl (fun hc => J5 rfl (A9 rfl hc) (T1 rfl hc)) ?_
   refine A1 rfl (Q8 rfl (A0 rfl) (F7 rfl)) ?_
   refine A4 ?_
   refine B9 (A0 rfl) ?_ ?_
   ·intro h108
    exfalso; simp only [Bool.or_eq_true, Bool.and_eq_true, decide_eq_true_eq, A8] at h108; rcases h108 with ((h9 | h9) | h9) | h9; omega; omega; (have h8 := BB6 (l := cuts) (k := key) (by omega); unfold leS at h8; rw [h8] at h9; cases h9.2); (have h8 := BB7 (l := cuts) (k := key) (by omega); unfold leS at h8; rw [Bool.or_eq_false_iff] at h8; have h7 := h9.2; simp_all)
   intro h108
   refine C3 ?_
   exact Le.trans (F8 [] rfl) (K0 0 (by rfl) ⟨rfl, trivial⟩)
  intro h73
  refine C3 ?_
  exact Le.trans (F8 [] rfl) (K0 0 (by rfl) ⟨rfl, trivial⟩)
 refine A3 (A2 ?_)
 refine A5 rfl ?_
 refine H9 [] rfl rfl rfl rfl Tryz.call10 rfl (Ac1 more hb1) (A6 (A0 rfl) C0) rfl ?_
 intro x111 ok111
 obtain ⟨⟨cu, o⟩, hx111⟩ : ∃ z, x111 = z := ⟨_, rfl⟩
 subst hx111
 obtain ⟨hcu, hos⟩ := ok111
 dsimp only at hcu hos ⊢
 have hcuk : ∀ k ∈ cu, k.length ≤ 4611686018427387904 := fun k hk => Nat.le_trans ((f4 hcu).1 k hk) (by decide)
 refine A5 rfl ?_
 refine A1 rfl (G6 rfl (A0 rfl) rfl) ?_
 refine A1 rfl (G6 rfl (A0 rfl) rfl) ?_
 refine F5 rfl rfl rfl rfl Tryz.zeroValue32 rfl ?_
 intro b12
 refine B3 rfl ?_
 refine D2 0 rfl rfl rfl (A0 rfl) (A0 rfl) (D6 _) rfl H4 rfl ?_
 refine A4 (A3 (A2 ?_))
 refine A5 rfl ?_
 refine A1 rfl (F1 0 rfl (A0 rfl) rfl Q4 H4 rfl) ?_
 refine A1 rfl (D7 rfl Tryz.call11 rfl (Aq0 cu o hcuk (by omega)) (A6 (A0 rfl) (A6 (A0 rfl) C0))) ?_
 refine A5 rfl ?_
 refine A1 rfl (G6 rfl (A0 rfl) rfl) ?_
 refine A1 rfl (G6 rfl (A0 rfl) rfl) ?_
 refine B3 rfl ?_
 refine B3 rfl ?_
 refine A4 (A3 (A2 ?_))
 refine A5 rfl ?_
 refine A1 rfl (F1 0 rfl (A0 rfl) rfl Q4 H4 rfl) ?_
 refine A1 rfl (D7 rfl Tryz.call12 rfl (Ap8 cu o hcuk (by omega)) (A6 (A0 rfl) (A6 (A0 rfl) C0))) ?_
 refine A5 rfl ?_
 refine A1 rfl (G6 rfl (A0 rfl) rfl) ?_
 refine A1 rfl (G6 rfl (A0 rfl) rfl) ?_
 refine B3 rfl ?_
 refine B3 rfl ?_
 refine A4 (A3 (A3 (A2 ?_)))
 refine A5 rfl ?_
 refine A5 rfl ?_
 refine A1 rfl (Ac9 rfl V8 (A0 rfl) (A0 rfl)) ?_
 refine A5 rfl ?_
 refine F3 rfl (fun hc => B8 rfl (A0 rfl)) ?_
 refine F3 rfl (fun hc => B8 rfl (A0 rfl)) ?_
 refine F3 rfl (fun hc => D7 rfl Tryz.call13 rfl (Aq8 _ _) (A6 (A9 rfl hc) (A6 (A9 rfl hc) C0))) ?_
 refine F3 rfl (fun hc => M2 rfl (A9 rfl hc)) ?_
 refine A1 rfl (Q8 rfl (A0 rfl) (F7 rfl)) ?_
 refine A4 ?_
 refine B9 (A0 rfl) ?_ ?_
 ·intro h134
  exfalso; simp at h134
 intro h134
 refine C3 (A3 (A3 (A2 ?_)))
 refine A5 rfl ?_
 refine A4 ?_
 refine Ac3 [(1, _)] ⟨rfl, trivial⟩ ?_ ?_
 ·skip
  refine B9 (A0 rfl) ?_ ?_
  ·intro h135
   obtain ⟨hpo, hcg, hog⟩ := BN9 h135
   rw [hpo]
   refine A3 (A2 ?_)
   refine A1 rfl (B1 1 rfl H1 rfl H5 (A0 rfl) rfl) ?_
   refine A1 rfl (B0 0 rfl (A0 rfl) rfl K7 rfl) ?_
   refine A1 rfl (F6 rfl C9 (A0 rfl)) ?_
   refine A1 rfl (B8 rfl B4) ?_
   refine A4 (C7 ?_)
   refine AWP.le (F8 [0] rfl) ?_
   refine J0 [(1, _), (11, _), (13, _), (137, _), (138, _)] _ (fun (i : Nat) => i ≤ o.Reads.length) (fun (i : Nat) => [.box b12 32 o.cs]) (fun (i : Nat) => [(139, AV.int i)]) (fun (i : Nat) => o.Reads.length - i) (0) ?_ (O8 (by rfl) ⟨rfl, rfl, rfl, rfl, rfl, rfl, trivial⟩) ?_
   ·exact Nat.zero_le _
   intro i hinv
   refine A3 (A2 ?_)
   refine A1 rfl (J8 rfl (A0 rfl) (A0 rfl)) ?_
   refine A4 (A3 ?_)
   refine B9 (A0 rfl) ?_ ?_
   ·intro h140
    have k140 := of_decide_eq_true h140; try simp only [A8] at k140
    have hlt : i < o.Reads.length := by (simpa using h140)
    obtain ⟨k, hk⟩ := get_some hlt
    have hkm := F9 hk
    have hkg := BO0 hog hkm
    have hkz := o7 (f := fun x : Str => x.length) hkm
    have hoz : o.size = sizeL (fun x : Str => x.length) o.Reads + sizeL TWrite.size o.Writes := rfl
    have hrl := O4 (f := fun x : Str => x.length) (l := o.Reads)
    have hpk : partR cu k = ((partW cu k : Int), true) := by (unfold partR; rw [hcg, hkg]; rfl)
    refine C3 (A3 (C7 (A3 (A2 ?_))))
    refine A1 rfl (I2 rfl C9 E3 (A0 rfl) (A0 rfl) hk (by first | omega | (simp only [C8, A7, szR] at *; omega))) ?_
    refine A1 rfl (L6 rfl (A0 rfl) G3 rfl) ?_
    refine B3 rfl ?_
    refine A4 (A3 (A2 ?_))
    refine A5 rfl ?_
    refine A5 rfl ?_
    refine A1 rfl (D7 rfl Tryz.call6 rfl (AU7 cu k hcuk (by omega)) (A6 (A0 rfl) (A6 (A0 rfl) C0))) ?_
    refine A5 rfl ?_
    refine A1 rfl (G6 rfl (A0 rfl) rfl) ?_
    refine A1 rfl (G6 rfl (A0 rfl) rfl) ?_
    refine B3 rfl ?_
    refine B3 rfl ?_
    refine A4 (A3 (A2 ?_))
    refine A5 rfl ?_
    refine A1 rfl (M2 rfl (A0 rfl)) ?_
    refine A5 rfl ?_
    refine F3 rfl (fun hc => B8 rfl (A0 rfl)) ?_
    refine F3 rfl (fun hc => B8 rfl (A0 rfl)) ?_
    refine F3 rfl (fun hc => D7 rfl Tryz.call14 rfl (has_spec _ _) (A6 (A9 rfl hc) (A6 (A9 rfl hc) C0))) ?_
    refine F3 rfl (fun hc => M2 rfl (A9 rfl hc)) ?_
    refine A1 rfl (Q8 rfl (A0 rfl) (F7 rfl)) ?_
    refine A4 ?_
    refine B9 (A0 rfl) ?_ ?_
    ·intro h156
     exfalso; rw [hpk] at h156; dsimp only at h156; rw [BO1 hkm] at h156; simp at h156
    intro h156
    refine C3 (A2 ?_)
    refine A1 rfl (G0 rfl (A0 rfl) B4 (by first | omega | (simp only [C8, A7, szR] at *; omega))) ?_
    refine A5 rfl ?_
    refine A4 ?_
    refine K4 i (i + 1) ?_ ?_ (Le.trans (F8 [0] rfl) (O8 (by rfl) ⟨rfl, rfl, rfl, rfl, rfl, rfl, trivial⟩))
    ·exact (by omega)
    omega
   intro h140
   have k140 := of_decide_eq_false h140; try simp only [A8] at k140
   refine G1 ?_
   exact Le.trans (F8 [0] rfl) (K0 0 (by rfl) ⟨rfl, trivial⟩)
  intro h135
  refine C3 ?_
  exact Le.trans (F8 [0] rfl) (K0 0 (by rfl) ⟨rfl, trivial⟩)
 refine A3 (A2 ?_)
 refine A5 rfl ?_
 refine H9 [] rfl rfl rfl rfl Tryz.call15 rfl (Ac0 more hb1) (A6 (A0 rfl) C0) rfl ?_
 intro x160 ok160
 obtain ⟨⟨d, t⟩, hx160⟩ : ∃ z, x160 = z := ⟨_, rfl⟩
 subst hx160
 have hdf : DF d := ok160
 have hsl := hdf.slen
 dsimp only
 refine A5 rfl ?_
 refine A1 rfl (G6 rfl (A0 rfl) rfl) ?_
 refine A1 rfl (G6 rfl (A0 rfl) rfl) ?_
 refine F5 rfl rfl rfl rfl Tryz.zeroValue43 rfl ?_
 intro b21
 refine D2 0 rfl rfl rfl (A0 rfl) (A0 rfl) (D6 _) rfl F4 rfl ?_
 refine B3 rfl ?_
 refine A4 (A3 (A2 ?_))
 refine A1 rfl (F1 0 rfl (A0 rfl) rfl K5 F4 rfl) ?_
 refine A5 rfl ?_
 refine A1 rfl (D7 rfl Tryz.call16 rfl (Aq4 d t hdf.b (hdf.rows t)) (A6 (A0 rfl) (A6 (A0 rfl) C0))) ?_
 refine A5 rfl ?_
 refine A1 rfl (G6 rfl (A0 rfl) rfl) ?_
 refine A1 rfl (G6 rfl (A0 rfl) rfl) ?_
 refine B3 rfl ?_
 refine B3 rfl ?_
 refine A4 (A3 (A2 ?_))
 refine A1 rfl (F1 0 rfl (A0 rfl) rfl K5 F4 rfl) ?_
 refine A5 rfl ?_
 refine A1 rfl (D7 rfl Tryz.call17 rfl (Ai9 d t hdf.b (hdf.rows t)) (A6 (A0 rfl) (A6 (A0 rfl) C0))) ?_
 refine A5 rfl ?_
 refine A1 rfl (G6 rfl (A0 rfl) rfl) ?_
 refine A1 rfl (G6 rfl (A0 rfl) rfl) ?_
 refine B3 rfl ?_
 refine B3 rfl ?_
 refine A4 (A3 (A3 (A2 ?_)))
 refine A5 rfl ?_
 refine A5 rfl ?_
 refine A1 rfl (Ac9 rfl V8 (A0 rfl) (A0 rfl)) ?_
 refine A5 rfl ?_
 refine F3 rfl (fun hc => B8 rfl (A0 rfl)) ?_
 refine F3 rfl (fun hc => B8 rfl (A0 rfl)) ?_
 refine F3 rfl (fun hc => D7 rfl Tryz.call18 rfl (AF7 _ _) (A6 (A9 rfl hc) (A6 (A9 rfl hc) C0))) ?_
 refine F3 rfl (fun hc => M2 rfl (A9 rfl hc)) ?_
 refine A1 rfl (Q8 rfl (A0 rfl) (F7 rfl)) ?_
 refine A4 ?_
 refine B9 (A0 rfl) ?_ ?_
 ·intro h183
  exfalso; simp at h183
 intro h183
 refine C3 (A3 (A3 (A2 ?_)))
 refine A5 rfl ?_
 refine A4 ?_
 refine Ac3 [(1, _)] ⟨rfl, trivial⟩ ?_ ?_
 ·skip
  refine B9 (A0 rfl) ?_ ?_
  ·intro h184
   obtain ⟨hdo, hgc, hti⟩ := BB8 h184
   rw [hdo]
   refine A3 (A2 ?_)
   refine A1 rfl (B6 rfl B4) ?_
   refine A4 (A3 (A3 (A2 ?_)))
   refine A1 rfl (B1 1 rfl E8 rfl N8 (A0 rfl) rfl) ?_
   refine A1 rfl (B0 0 rfl (A0 rfl) rfl Q6 rfl) ?_
   refine A1 rfl (F6 rfl J2 (A0 rfl)) ?_
   refine A1 rfl (B8 rfl B4) ?_
   refine A4 (C7 ?_)
   refine AWP.le (F8 [0] rfl) ?_
   refine J0 [(1, _), (22, _), (23, _), (186, _), (187, _)] _ (fun (j : Nat) => j ≤ d.States.length) (fun (j : Nat) => [.box b21 43 d.cs]) (fun (j : Nat) => [(27, AV.int ((sumC (d.States.take j) t : Nat) : Int)), (188, AV.int j)]) (fun (j : Nat) => d.States.length - j) (0) ?_ (O8 (by rfl) ⟨rfl, rfl, rfl, rfl, rfl, rfl, rfl, trivial⟩) ?_
   ·exact Nat.zero_le _
   intro j hinv
   refine A3 (A2 ?_)
   refine A1 rfl (J8 rfl (A0 rfl) (A0 rfl)) ?_
   refine A4 (A3 ?_)
   refine B9 (A0 rfl) ?_ ?_
   ·intro h189
    have k189 := of_decide_eq_true h189; try simp only [A8] at k189
    have hltj : j < d.States.length := by (simpa using h189)
    obtain ⟨s, hs⟩ := get_some hltj
    have hsm := F9 hs
    have hss := hdf.st s hsm
    have hcc := BK6 (t := t) (hgc s hsm) hti
    have hsc := m2 hss
    have hcl2 := l9 s.Cells t
    have hsum := sumC_le (ss := d.States.take j) (t := t) (m := 33045) (fun x hx => (m2 (hdf.st x (List.mem_of_mem_take hx))).1)
    have hsum2 : (d.States.take j).length * 33045 ≤ 3 * 33045 := Nat.mul_le_mul_right _ (by rw [D9]; omega)
    refine C3 (A3 (C7 (A3 (A2 ?_))))
    refine A1 rfl (I2 rfl J2 C5 (A0 rfl) (A0 rfl) hs (by first | omega | (simp only [C8, A7, szR] at *; omega))) ?_
    refine A1 rfl (K6 rfl (A0 rfl) F0 C5) ?_
    refine F5 rfl rfl rfl rfl Tryz.zeroValue53 rfl ?_
    intro b29
    refine D2 0 rfl rfl rfl (A0 rfl) (A0 rfl) (D6 _) rfl C5 rfl ?_
    refine A4 (A3 (A2 ?_))
    refine A1 rfl (B1 1 rfl C4 rfl P6 (A0 rfl) rfl) ?_
    refine A1 rfl (B0 0 rfl (A0 rfl) rfl S1 rfl) ?_
    refine A5 rfl ?_
    refine A1 rfl (D7 rfl Tryz.call19 rfl (Aq3 s.Cells t (by omega)) (A6 (A0 rfl) (A6 (A0 rfl) C0))) ?_
    refine A5 rfl ?_
    refine A1 rfl (G6 rfl (A0 rfl) rfl) ?_
    refine A1 rfl (G6 rfl (A0 rfl) rfl) ?_
    refine B3 rfl ?_
    refine B3 rfl ?_
    refine A4 (A3 (A3 (A2 ?_)))
    refine A5 rfl ?_
    refine A1 rfl (M2 rfl (A0 rfl)) ?_
    refine A4 ?_
    refine B9 (A0 rfl) ?_ ?_
    ·intro h200
     exfalso; rw [hcc] at h200; simp at h200
    intro h200
    rw [hcc]
    refine C3 (A2 ?_)
    refine A5 rfl ?_
    refine A5 rfl ?_
    refine A1 rfl (F6 rfl D1 (A0 rfl)) ?_
    refine A1 rfl (G0 rfl (A0 rfl) (A0 rfl) (by rw [A8]; dsimp only; omega)) ?_
    refine B3 rfl ?_
    refine A4 (A2 ?_)
    refine A1 rfl (G0 rfl (A0 rfl) B4 (by first | omega | (simp only [C8, A7, szR] at *; omega))) ?_
    refine A5 rfl ?_
    refine A4 ?_
    refine K4 j (j + 1) ?_ ?_ (Le.trans (F8 [0, 0] rfl) (K0 1 (by rfl) ⟨(congrArg (fun z => some (AV.int z)) (by rw [BO2 hs, A8]; dsimp only; omega)), rfl, rfl, rfl, rfl, rfl, rfl, trivial⟩))
    ·exact (by omega)
    omega
   intro h189
   have k189 := of_decide_eq_false h189; try simp only [A8] at k189
   have hgej : d.States.length ≤ j := by (simpa using h189)
   rw [List.take_of_length_le hgej]
   refine G1 ?_
   refine A3 (A2 ?_)
   refine A5 rfl ?_
   refine A5 rfl ?_
   refine A1 rfl (F6 rfl D1 (A0 rfl)) ?_
   refine A1 rfl (J8 rfl (A0 rfl) (A0 rfl)) ?_
   refine A4 ?_
   refine B9 (A0 rfl) ?_ ?_
   ·intro h209
    have k209 := of_decide_eq_true h209; try simp only [A8] at k209
    exfalso; have h9 := BO3 (t := t) d.States; simp only [decide_eq_true_eq, A8] at h209; omega
   intro h209
   have k209 := of_decide_eq_false h209; try simp only [A8] at k209
   refine C3 ?_
   exact Le.trans (F8 [0, 0] rfl) (K0 0 (by rfl) ⟨rfl, trivial⟩)
  intro h184
  refine C3 ?_
  exact Le.trans (F8 [0, 0] rfl) (K0 0 (by rfl) ⟨rfl, trivial⟩)
 refine A3 (A2 ?_)
 refine A5 rfl ?_
 refine H9 [] rfl rfl rfl rfl Tryz.call20 rfl (Ac2 more hb1) (A6 (A0 rfl) C0) rfl ?_
 intro x212 ok212
 obtain ⟨⟨e, os⟩, hx212⟩ : ∃ z, x212 = z := ⟨_, rfl⟩
 subst hx212
 obtain ⟨hed, hol, hoz2⟩ := ok212
 dsimp only at hed hol hoz2 ⊢
 have heb := empty_b hed hol hoz2
 have hnb := BO4 heb
 refine A5 rfl ?_
 refine A1 rfl (G6 rfl (A0 rfl) rfl) ?_
 refine A1 rfl (G6 rfl (A0 rfl) rfl) ?_
 refine B3 rfl ?_
 refine B3 rfl ?_
 refine A4 (A3 (A2 ?_))
 refine A5 rfl ?_
 refine A5 rfl ?_
 refine A1 rfl (D7 rfl Tryz.call21 rfl (Ax7 e os heb) (A6 (A0 rfl) (A6 (A0 rfl) C0))) ?_
 refine A5 rfl ?_
 refine A1 rfl (G6 rfl (A0 rfl) rfl) ?_
 refine A1 rfl (G6 rfl (A0 rfl) rfl) ?_
 refine F5 rfl rfl rfl rfl Tryz.zeroValue43 rfl ?_
 intro b34
 refine D2 0 rfl rfl rfl (A0 rfl) (A0 rfl) (D6 _) rfl F4 rfl ?_
 refine B3 rfl ?_
 refine A4 (A3 (A2 ?_))
 refine A5 rfl ?_
 refine A5 rfl ?_
 refine A1 rfl (D7 rfl Tryz.call22 rfl (AQ6 e os heb.cuts (by have h9 := (f4 hed).2; omega) (fun o ho => Nat.le_trans (hoz2 o ho) (by decide))) (A6 (A0 rfl) (A6 (A0 rfl) C0))) ?_
 refine A5 rfl ?_
 refine A1 rfl (G6 rfl (A0 rfl) rfl) ?_
 refine A1 rfl (G6 rfl (A0 rfl) rfl) ?_
 refine F5 rfl rfl rfl rfl Tryz.zeroValue43 rfl ?_
 intro b36
 refine D2 0 rfl rfl rfl (A0 rfl) (A0 rfl) (D6 _) rfl F4 rfl ?_
 refine B3 rfl ?_
 refine A4 (A3 (A2 ?_))
 refine A5 rfl ?_
 refine A5 rfl ?_
 refine A1 rfl (w_beql rfl V8 (A0 rfl) (A0 rfl)) ?_
 refine A5 rfl ?_
 refine D3 rfl (fun hc => F1 1 rfl (A0 rfl) rfl K5 F4 rfl) ?_
 refine D3 rfl (fun hc => F1 0 rfl (A0 rfl) rfl K5 F4 rfl) ?_
 refine D3 rfl (fun hc => D7 rfl Tryz.call23 rfl (Aj0 _ _ (fun s hs => Nat.le_trans (hnb.states s hs) (by decide)) ⟨Nat.le_trans hnb.slen (by decide), hnb.olen⟩) (A6 (A9 rfl hc) (A6 (A9 rfl hc) C0))) ?_
 refine A1 rfl (J5 rfl (A0 rfl) (F7 rfl)) ?_
 refine A5 rfl ?_
 refine D3 rfl (fun hc => B8 rfl (A0 rfl)) ?_
 refine D3 rfl (fun hc => M2 rfl (A9 rfl hc)) ?_
 refine D3 rfl (fun hc => B8 rfl (A9 rfl hc)) ?_
 refine J7 rfl rfl (R6 rfl rfl rfl) (fun hc => F1 1 rfl (A0 rfl) rfl K5 F4 rfl) ?_
 refine J7 rfl rfl (R6 rfl rfl rfl) (fun hc => D7 rfl Tryz.call24 rfl (AC4 _ hnb) (A6 (A9 rfl hc) C0)) ?_
 refine D3 rfl (fun hc => Q8 rfl (A9 rfl hc) (T1 rfl hc)) ?_
 refine A1 rfl (J5 rfl (A0 rfl) (F7 rfl)) ?_
 refine B3 rfl ?_
 refine A4 ?_
 refine C2 ?_
 exact I3 rfl (C1 rfl (by first | rfl | exact congrArg AV.bool (by rw [AV8]; simp)))
end
theorem Aa0 : Opens Tryz.prog 22 (List Int) (fun l => [bytesI l]) (fun l => ∀ x ∈ l, (Lit.int .u8 x).wf = true) := BB4 (sz := 1) W8 (by kernel_rfl) (BN7 Tryz.underlying5) (fun _ => rfl)
set_option maxRecDepth 100000 in
theorem fnShares_lifted (os : Os) (started : os.Started) (H : Type) (enc : TypeId × Value → H) :
    ReturnsInHanded {} Tryz.checked os 3 .any (Rows.fnSharesSpec.pre6 enc Tryz.prog Tryz.f3 Rows.fnSharesRow.domain false) (Rows.fnSharesSpec.post enc Tryz.prog Tryz.f3 false true false false) := by
  refine returnsInHanded_of_change (C := Tryz.checked) (by kernel_rfl) started (by kernel_rfl) Tryz.func3
    (ChangeSpec.witness6 (enc := enc) (C := Tryz.checked) false ⟨#[], #[.slice none 0 0, .slice none 0 0], []⟩ 8 (by kernel_rfl) (by kernel_rfl) (by kernel_rfl) (by kernel_rfl)) ?_
  intro W base args ds gs before hval0 hW hcnd _
  have hval : ∀ (j : Nat) t v, Tryz.f3.params[j]? = some t → args[j]? = some v → Value.okWide Tryz.prog W .any base t v := hval0
  have hW2 := hW
  obtain ⟨p, q, hA0, hV, rfl, hfz, hnd⟩ := hW
  have hA : DataW.TrodAll enc Tryz.prog W 0 (fun _ => true) true Tryz.f3.params.toList args.toList ds p := hA0
  rw [Tryz.params3] at hA hval
  obtain ⟨v0, vs0, d0, ds0, p0, q0, hargs, rfl, rfl, h0, r0⟩ := trodAll_cons hA
  obtain ⟨v1, vs1, d1, ds1, p1, q1, rfl, rfl, rfl, h1, r1⟩ := trodAll_cons r0
  obtain ⟨rfl, rfl, rfl⟩ := trodAll_nil r1
  obtain rfl : args = #[v0, v1] := by cases args; simp_all
  obtain ⟨rfl, rfl⟩ := trodVars_none hV
  have lt0 : ∀ x ∈ p0, x.block < W.heap.size := by obtain ⟨m, hm⟩ := h0; exact DataW.trod_lt m _ _ _ hm
  obtain ⟨a0, w0, g0⟩ := BE6 (Aa0) (by obtain ⟨y1, y2, y3, rfl⟩ := okWide_slice W8 (hval 0 22 v0 rfl rfl); rfl) h0
  have lt1 : ∀ x ∈ p1, x.block < W.heap.size := by obtain ⟨m, hm⟩ := h1; exact DataW.trod_lt m _ _ _ hm
  obtain ⟨a1, w1, g1⟩ := BE6 (Aa0) (by obtain ⟨y1, y2, y3, rfl⟩ := okWide_slice W8 (hval 1 22 v1 rfl rfl); rfl) h1
  have hcall := BN8 (Ar1 a0 w0 a1 w1) (DenV.cons g0 (DenV.cons g1 (DenV.nil _)))
  clear hA0 hval0
  refine Calls.mono hcall fun e W2 ⟨he, bel⟩ => ?_
  subst he
  exact ⟨_, rfl, _, _, _, [], _, [], hW2, trodAll_mk1 (shut_bool V8 _), (trodAll_cons_mk (Below.trod (by kernel_rfl : laidOutB Tryz.prog = true) (by kernel_rfl) (of_decide_eq_true (by kernel_rfl)) h0 bel lt0) (trodAll_cons_mk (Below.trod (by kernel_rfl : laidOutB Tryz.prog = true) (by kernel_rfl) (of_decide_eq_true (by kernel_rfl)) h1 bel lt1) trodAll_mk0)), rfl, bel.frame _, fun h => by cases h⟩
theorem Ay2 {a b : Bool} (h : a = true) (k : b = true) : (a && b) = true := by rw [h, k]; rfl
set_option maxRecDepth 100000 in
theorem Aj5 : joinedFacts Tryz.pinned.checked.prog 3 Tryz.f3 Rows.fnSharesSpec Rows.fnSharesRow = true := by
  unfold joinedFacts
  iterate 18 (rw [Bool.and_assoc])
  refine Ay2 ?_ ?_
  · as_aux_lemma => kernel_rfl
  · as_aux_lemma => kernel_rfl
theorem fnShares_proved : Rows.FnSharesSaid :=
  OpenClaim.holds_of_wide 3 Tryz.f3 rfl rfl rfl rfl rfl rfl rfl ⟨rfl, rfl, rfl, rfl, rfl⟩ rfl rfl rfl rfl rfl (by kernel_rfl) Tryz.func3 Aj5
    (of_decide_eq_true (by kernel_rfl)) (by unfold Func.isWrapper; first | (rw [if_pos (by decide +kernel)]; kernel_rfl) | (rw [if_neg (by decide +kernel)]; exact ⟨rfl, rfl⟩))
    (fun os started H enc _ => fnShares_lifted os started H enc)
end Go.Proofs.YtoaoicnnimjbeaaGreat
