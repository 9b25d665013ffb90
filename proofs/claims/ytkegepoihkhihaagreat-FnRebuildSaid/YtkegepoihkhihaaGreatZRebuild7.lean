/- FnRebuild: for every drawn state, applying the complete feed restores the cells; another group's cells stay. No condition. -/
import Derived.RangeFuncNested
import Derived.RangeFuncBound
import Derived.RangeFuncCalls
import Derived.RangeFuncLeaves
import Derived.RangeFuncBox
import Derived.Shelf.Abstract
import Derived.Shelf.RegionOpen
import Derived.WalkKit
import Derived.OwnWalkIn
import Derived.TacticsInMore
import Derived.LoopNIn
import Derived.LoopIn
import Derived.ProofKit
import Derived.OpenShut
import Derived.ShutString
import Derived.ChangeOld
import Derived.Sort.Grow
import Derived.Lib.LaidTab
import Derived.Lib.ItoaNum
import Derived.Lib.Split
import Derived.Lib.SplitLaws
import Derived.Lib.ConvBytes
import Derived.WideLaws
import Derived.SizedLaws
import Derived.StillTailTactics
import Derived.Deep.QuietTactic
import Derived.Shelf.SlSortCmp.WholeK
import Derived.Shelf.SlSortCmp.NoneTotal
import Derived.Test.YtkegepoihkhihaaGreatProg
import Derived.Test.YtkegepoihkhihaaGreatZRebuild6

set_option linter.unusedVariables false
set_option linter.unusedSimpArgs false
set_option maxRecDepth 100000
set_option maxHeartbeats 1000000
namespace Go.Proofs.YtkegepoihkhihaaGreat
open Go Go.AV Go.M
attribute [local irreducible] OpW OpA OpS AWP FSpec ESpec GSpec OpE RetOk RetOkG RvDen Le Ev GuardIs SrcIs
theorem wOf_size {c : TFeedItem} (h : goodItem c = true) : sizeL TWrite.size (wOf c) ≤ 1048576 := by
  unfold goodItem at h
  simp only [Bool.and_eq_true] at h
  have h1 := AE5 h.1.2
  have h2 := AW2 h.2
  unfold wOf sizeL TWrite.size
  simp; omega
theorem Ai4 (l : List TCell) (w : List TFeedItem) (g : Int) (hs : sizeL TCell.size l ≤ 1048576) (hw : sizeL TFeedItem.size w ≤ 1048576) : GSpec Tryz.prog 35 [AV.list 2 (l.map TCell.cs), AV.list 5 (w.map TFeedItem.cs), AV.int g] [] (fun x : Value × List Value => x.2.length = (feedCells l w g).1.length) (fun x => .arr x.1 125 2 (nrows TCell.ocs (feedCells l w g).1 x.2) :: nin TCell.ow (feedCells l w g).1 x.2) (fun x => AV.tup [AV.is x.1, AV.bool (feedCells l w g).2]) := by
 have hwl : w.length ≤ 1048576 := Nat.le_trans O2 hw
 refine I9 Tryz.func35 rfl Tryz.ntmps35 rfl ?_
 refine A3 (A2 ?_)
 refine A1 rfl (B7 rfl M4) ?_
 refine A1 rfl (B7 rfl F8) ?_
 refine A4 (A3 (A3 (A2 ?_)))
 refine A5 rfl ?_
 refine A1 rfl (E8 rfl Tryz.call77 rfl (t1 _ (by first | assumption | omega)) (A7 (A0 rfl) C6)) ?_
 refine A1 rfl (M5 rfl (A0 rfl)) ?_
 refine A5 rfl ?_
 refine H8 rfl (fun hc => B9 rfl (A0 rfl)) ?_
 refine H8 rfl (fun hc => E8 rfl Tryz.call32 rfl (Ah0 _ (by assumption)) (A7 (A6 rfl hc) C6)) ?_
 refine H8 rfl (fun hc => M5 rfl (A6 rfl hc)) ?_
 refine A1 rfl (R5 rfl (A0 rfl) (F9 rfl)) ?_
 refine A5 rfl ?_
 refine H8 rfl (fun hc => B9 rfl (A0 rfl)) ?_
 refine H8 rfl (fun hc => E8 rfl Tryz.call51 rfl (AB8 _) (A7 (A6 rfl hc) C6)) ?_
 refine H8 rfl (fun hc => M5 rfl (A6 rfl hc)) ?_
 refine A1 rfl (R5 rfl (A0 rfl) (F9 rfl)) ?_
 refine A4 ?_
 refine C4 (A0 rfl) ?_ ?_
 ·intro h25
  have he : feedCells l w g = ([], false) := by unfold feedCells; rw [if_pos h25]
  rw [he]
  refine A3 (A2 ?_)
  refine A1 rfl (B7 rfl M4) ?_
  refine A1 rfl (B7 rfl F8) ?_
  refine A4 ?_
  refine C5 ?_
  refine Y2 125 2 ?_
  first | exact M3 [0] ((Value.slice none 0 0), []) (rfl) rfl (by rfl) (T2 rfl (by decide) (F2 (B8 rfl (by rfl)) (F2 (B8 rfl (by rfl)) L7))) | exact M3 [0] ((Value.slice none 0 0), xs) (hinv.2.1) rfl (by rfl) (T2 rfl (by decide) (F2 (B8 rfl (by rfl)) (F2 (B8 rfl (by rfl)) L7)))
 intro h25
 have hg := h25
 simp only [Bool.or_eq_false_iff, Bool.not_eq_false'] at hg
 have he : feedCells l w g = feedRes l g w := by unfold feedCells; rw [if_neg (by rw [h25]; decide)]
 refine C8 (A3 (A2 ?_))
 refine A5 rfl ?_
 refine AL5 [] 0 1 ([]) ([]) (fun zz => nin TCell.ow l zz.2) rfl rfl rfl rfl Tryz.call78 rfl rfl (show List.Perm ([]) (([]) ++ ([])) from List.Perm.refl _) (AJ7 l (by omega)) (A7 (A0 rfl) C6) (fun a => AS9) ?_
 intro x27 ok27
 refine B5 rfl ?_
 refine A4 (A3 (A3 (A2 ?_)))
 refine A5 rfl ?_
 refine A1 rfl (H2 rfl I6 (A0 rfl)) ?_
 refine A1 rfl (B9 rfl B6) ?_
 refine A4 (D1 ?_)
 refine d9 [(2, _), (28, _), (29, _)] [] (fun (i : Nat) (v : Value) (q : List TCell) (xs : List Value) => i ≤ w.length ∧ xs.length = q.length ∧ goodCells q = true ∧ feedRes l g w = feedRes q g (w.drop i)) (fun (i : Nat) (v : Value) (q : List TCell) (xs : List Value) => [.arr v 125 2 (nrows TCell.ocs q xs)] ++ (nin TCell.ow q xs)) (fun (i : Nat) (v : Value) (q : List TCell) (xs : List Value) => [(8, AV.is v), (30, AV.int i)]) (fun (i : Nat) (v : Value) (q : List TCell) (xs : List Value) => w.length - i) (0) (x27.1) (l) (x27.2) ?_ (S6 (by rw [List.append_nil]; rfl) ⟨rfl, rfl, rfl, rfl, rfl, trivial⟩) ?_
 ·exact ⟨Nat.zero_le _, ok27, hg.1.1, rfl⟩
 intro i v q xs hinv
 have hlen := hinv.2.1
 have hqs := Az5 hinv.2.2.1
 refine N7 (List.append_nil _) ?_
 refine A3 (A2 ?_)
 refine A1 rfl (K5 rfl (A0 rfl) (A0 rfl)) ?_
 refine A4 (A3 ?_)
 refine C4 (A0 rfl) ?_ ?_
 ·intro h31
  have k31 := of_decide_eq_true h31; try simp only [A9] at k31
  have hlt : i < w.length := by omega
  obtain ⟨x, hx⟩ := get_some hlt
  have hgi := Az6 hg.1.2 hx
  have hws := wOf_size hgi
  refine C8 (A3 (D1 (A3 (A2 ?_))))
  refine A1 rfl (J4 rfl I6 L3 (A0 rfl) (A0 rfl) hx (by first | omega | (simp only [C9, A8, szR] at *; omega))) ?_
  refine A1 rfl (L4 rfl (A0 rfl) U1 L3) ?_
  refine G3 rfl rfl rfl rfl Tryz.zeroValue63 rfl ?_
  intro b10
  refine D7 0 rfl rfl rfl (A0 rfl) (A0 rfl) (F0 _) rfl L3 rfl ?_
  refine A4 (A3 (A3 (A2 ?_)))
  refine A1 rfl (B1 1 rfl J0 rfl B4 (A0 rfl) rfl) ?_
  refine A1 rfl (B0 0 rfl (A0 rfl) rfl C2 rfl) ?_
  refine A5 rfl ?_
  refine A1 rfl (n4 rfl (A0 rfl) (A0 rfl)) ?_
  refine A4 ?_
  refine C4 (A0 rfl) ?_ ?_
  ·intro h37
   have k37 := k6 h37; try simp only [A9] at k37
   refine G9 ?_
   refine A2 ?_
   refine A1 rfl (G7 rfl (A0 rfl) B6 (by first | omega | (simp only [C9, A8, szR] at *; omega))) ?_
   refine A5 rfl ?_
   refine A4 ?_
   refine T8 i v q xs (i + 1) (v) (q) (xs) ?_ ?_ (Le.trans (H4 [0, 0] rfl) (L5 1 (Eq.trans (by rfl) (List.append_nil _).symm) ⟨rfl, rfl, rfl, rfl, rfl, trivial⟩))
   ·exact ⟨by omega, hlen, hinv.2.2.1, Al4 hinv.2.2.2 hx k37⟩
   omega
  intro h37
  have k37 := X9 h37; try simp only [A9] at k37
  refine C8 (A3 (A2 ?_))
  refine A5 rfl ?_
  refine A1 rfl (B1 2 rfl J0 rfl E5 (A0 rfl) rfl) ?_
  refine A1 rfl (B0 0 rfl (A0 rfl) rfl F7 rfl) ?_
  refine A1 rfl (B1 3 rfl J0 rfl E5 (A0 rfl) rfl) ?_
  refine A1 rfl (B0 0 rfl (A0 rfl) rfl F7 rfl) ?_
  refine A1 rfl (B1 4 rfl J0 rfl J1 (A0 rfl) rfl) ?_
  refine A1 rfl (B0 0 rfl (A0 rfl) rfl K9 rfl) ?_
  refine A1 rfl (P0 (places := #[(0, 1), (1, 1), (2, 1)]) rfl H0 Tryz.zeroValue101 (fun w => by kernel_rfl) rfl (D3 (A0 rfl) (O5 _) (D3 (A0 rfl) (O5 _) (D3 (A0 rfl) (W7 _) I2))) rfl) ?_
  refine A1 rfl (L2 rfl G0 H6 Tryz.zeroValue101 rfl rfl rfl rfl (D3 (A0 rfl) (F0 _) I2) rfl rfl) ?_
  refine A1 rfl (B1 0 rfl J0 rfl B4 (A0 rfl) rfl) ?_
  refine A1 rfl (B0 0 rfl (A0 rfl) rfl C2 rfl) ?_
  refine AC9 [] rfl rfl rfl rfl Tryz.call79 rfl (Am9 q (wOf x) x.Time (W9 hinv.2.2.1) (by omega) hws) rfl (P3 (q6 (A0 rfl) (j0 TCell.lcM (by first | exact hlen | exact hlen.trans (j3 _ _).symm) 1 rfl (fun o ho => List.mem_of_mem_drop (i := 2) (show o ∈ nin TCell.ow q xs from by first | exact ho | exact List.mem_append_left _ ho | exact List.mem_append_right _ ho | exact List.mem_append_right _ (List.mem_append_left _ ho) | exact List.mem_append_right _ (List.mem_append_right _ ho))))) (P3 (evb (A0 rfl)) (P3 (evb (A0 rfl)) X3))) (by first | exact M0 | (intro _; exact M0) | (intro _; first | exact F6 _ | exact D8 _ _ | exact D5 _ | exact D9 _ | exact E3) | (intro _; refine Z2 ?_; (repeat (first | exact D6 | (refine C1 (by first | (first | exact F6 _ | exact D8 _ _ | exact D5 _ | exact D9 _ | exact E3) | (refine U0 ?_; (repeat (first | exact D6 | (refine C1 (by first | exact F6 _ | exact D8 _ _ | exact D5 _ | exact D9 _ | exact E3) ?_))))) ?_))); done) | (intro _; refine U0 ?_; (repeat (first | exact D6 | (refine C1 (by first | exact F6 _ | exact D8 _ _ | exact D5 _ | exact D9 _ | exact E3) ?_))); done) | ((repeat (first | exact M0 | (refine K6 (S8 ?_) ?_; (repeat (first | exact D6 | (refine C1 (by first | exact F6 _ | exact D8 _ _ | exact D5 _ | exact D9 _ | exact E3) ?_)))) | (refine K6 (R6 ?_) ?_; (repeat (first | exact S9 | (refine S2 (fun _ => ?_); (first | exact TWrite.flat _ | exact TFeedItem.flat _ | exact TIdx.flat _ | exact TVer.flat _ | (repeat (first | exact D6 | (refine C1 (by first | exact F6 _ | exact D8 _ _ | exact D5 _ | exact D9 _ | exact E3) ?_))))) | (refine T1 ?_; (first | exact TWrite.flat _ | exact TFeedItem.flat _ | exact TIdx.flat _ | exact TVer.flat _ | (repeat (first | exact D6 | (refine C1 (by first | exact F6 _ | exact D8 _ _ | exact D5 _ | exact D9 _ | exact E3) ?_))))) | (refine Q6 ?_ ?_; (first | exact TWrite.flat _ | exact TFeedItem.flat _ | exact TIdx.flat _ | exact TVer.flat _ | (repeat (first | exact D6 | (refine C1 (by first | exact F6 _ | exact D8 _ _ | exact D5 _ | exact D9 _ | exact E3) ?_))))) | refine T0 ?_ ?_))))); done) | (intro _; (repeat (first | exact M0 | (refine K6 (S8 ?_) ?_; (repeat (first | exact D6 | (refine C1 (by first | exact F6 _ | exact D8 _ _ | exact D5 _ | exact D9 _ | exact E3) ?_)))) | (refine K6 (R6 ?_) ?_; (repeat (first | exact S9 | (refine S2 (fun _ => ?_); (first | exact TWrite.flat _ | exact TFeedItem.flat _ | exact TIdx.flat _ | exact TVer.flat _ | (repeat (first | exact D6 | (refine C1 (by first | exact F6 _ | exact D8 _ _ | exact D5 _ | exact D9 _ | exact E3) ?_))))) | (refine T1 ?_; (first | exact TWrite.flat _ | exact TFeedItem.flat _ | exact TIdx.flat _ | exact TVer.flat _ | (repeat (first | exact D6 | (refine C1 (by first | exact F6 _ | exact D8 _ _ | exact D5 _ | exact D9 _ | exact E3) ?_))))) | (refine Q6 ?_ ?_; (first | exact TWrite.flat _ | exact TFeedItem.flat _ | exact TIdx.flat _ | exact TVer.flat _ | (repeat (first | exact D6 | (refine C1 (by first | exact F6 _ | exact D8 _ _ | exact D5 _ | exact D9 _ | exact E3) ?_))))) | refine T0 ?_ ?_))))); done)) (fun x => Z2 (i9 (F6 _) (i9 (D5 _) AL7))) (fun x => K6 (R6 (Av2 TCell.flatC _ _)) (nin_flat TCell.flatW _ _)) ?_
  intro x50 ok50
  refine u7 (le_mid (NT := nin TCell.ow (putCells q (wOf x) x.Time).1 x50.2 ++ (nin TCell.ow q xs)) 1 2 (List.Perm.refl _)) ?_
  refine A5 rfl ?_
  refine A1 rfl (I8 rfl (A0 rfl) rfl) ?_
  refine A1 rfl (I8 rfl (A0 rfl) rfl) ?_
  refine B5 rfl ?_
  refine B5 rfl ?_
  refine A4 (A3 (A3 (A2 ?_)))
  refine A5 rfl ?_
  refine A1 rfl (M5 rfl (A0 rfl)) ?_
  refine A4 ?_
  refine C4 (A0 rfl) ?_ ?_
  ·intro h54
   rw [he, Al3 hinv.2.2.2 hx k37 (by simpa using h54)]
   refine A3 (A2 ?_)
   refine A1 rfl (B7 rfl M4) ?_
   refine A1 rfl (B7 rfl F8) ?_
   refine A4 ?_
   refine C5 ?_
   refine Y2 125 2 ?_
   first | exact M3 [0] ((Value.slice none 0 0), []) (rfl) rfl (by rfl) (T2 rfl (by decide) (F2 (B8 rfl (by rfl)) (F2 (B8 rfl (by rfl)) L7))) | exact f4 [0] 3 (nin TCell.ow q xs) [] ((Value.slice none 0 0), []) (rfl) rfl (show List.Perm (nin TCell.ow q xs) ((nin TCell.ow q xs) ++ []) from W6) (by rfl) (T2 rfl (by decide) (F2 (B8 rfl (by rfl)) (F2 (B8 rfl (by rfl)) L7))) | exact M3 [0] ((Value.slice none 0 0), xs) (hinv.2.1) rfl (by rfl) (T2 rfl (by decide) (F2 (B8 rfl (by rfl)) (F2 (B8 rfl (by rfl)) L7))) | exact f4 [0] 3 (nin TCell.ow q xs) [] ((Value.slice none 0 0), xs) (hinv.2.1) rfl (show List.Perm (nin TCell.ow q xs) ((nin TCell.ow q xs) ++ []) from W6) (by rfl) (T2 rfl (by decide) (F2 (B8 rfl (by rfl)) (F2 (B8 rfl (by rfl)) L7)))
  intro h54
  have h54' : (putCells q (wOf x) x.Time).2 = true := by simpa using h54
  refine C8 ?_
  refine AWP.le (le_cut 3 (t := nin TCell.ow (putCells q (wOf x) x.Time).1 x50.2) (r := nin TCell.ow q xs) (List.Perm.refl _)) ?_
  refine A2 ?_
  refine A5 rfl ?_
  refine B5 rfl ?_
  refine A4 (A2 ?_)
  refine A1 rfl (G7 rfl (A0 rfl) B6 (by first | omega | (simp only [C9, A8, szR] at *; omega))) ?_
  refine A5 rfl ?_
  refine A4 ?_
  refine T8 i v q xs (i + 1) (x50.1) ((putCells q (wOf x) x.Time).1) (x50.2) ?_ ?_ (Le.trans (H4 [1, 1, 0] rfl) (L5 2 (Eq.trans (by rfl) (List.append_nil _).symm) ⟨rfl, rfl, rfl, rfl, rfl, trivial⟩))
  ·exact ⟨by omega, ok50, put_good h54', Ap1 hinv.2.2.2 hx k37 h54'⟩
  omega
 intro h31
 have k31 := of_decide_eq_false h31; try simp only [A9] at k31
 have hge : w.length ≤ i := by omega
 have hr := Ap2 hinv.2.2.2 hge
 rw [he, hr]
 refine G9 ?_
 refine A3 (A2 ?_)
 refine A5 rfl ?_
 refine B5 rfl ?_
 refine A1 rfl (B7 rfl F8) ?_
 refine A4 ?_
 refine C5 ?_
 first | exact M3 [0] (v, []) (rfl) rfl (by rfl) (T2 rfl (by decide) (F2 (B8 rfl (by rfl)) (F2 (B8 rfl (by rfl)) L7))) | exact f4 [0] 0 (nin TCell.ow q xs) [] (v, []) (rfl) rfl (show List.Perm (nin TCell.ow q xs) ((nin TCell.ow q xs) ++ []) from W6) (by rfl) (T2 rfl (by decide) (F2 (B8 rfl (by rfl)) (F2 (B8 rfl (by rfl)) L7))) | exact f4 [0] 0 (nin TCell.ow q xs) [] (v, xs) (hinv.2.1) rfl (show List.Perm (nin TCell.ow q xs) ((nin TCell.ow q xs) ++ []) from W6) (by rfl) (T2 rfl (by decide) (F2 (B8 rfl (by rfl)) (F2 (B8 rfl (by rfl)) L7)))
end Go.Proofs.YtkegepoihkhihaaGreat

namespace Go.Proofs.YtkegepoihkhihaaGreat
open Go Go.AV Go.M
attribute [local irreducible] OpW OpA OpS AWP FSpec ESpec GSpec OpE RetOk RetOkG RvDen Le Ev GuardIs SrcIs
end Go.Proofs.YtkegepoihkhihaaGreat

namespace Go.Proofs.YtkegepoihkhihaaGreat
open Go Go.Proofs Go.RowKit Go.Shelf Go.M
attribute [local go_sem] Oper.semAt_some
end Go.Proofs.YtkegepoihkhihaaGreat

namespace Go.Proofs.YtkegepoihkhihaaGreat
open Go Go.Proofs Go.RowKit Go.Shelf Go.M
attribute [local go_sem] Oper.semAt_some
end Go.Proofs.YtkegepoihkhihaaGreat

namespace Go.Proofs.YtkegepoihkhihaaGreat
open Go Go.AV Go.M
attribute [local irreducible] OpW OpA OpS AWP FSpec ESpec RetOk RvDen Le Ev GuardIs
end Go.Proofs.YtkegepoihkhihaaGreat

namespace Go.Proofs.YtkegepoihkhihaaGreat
open Go Go.AV Go.M
attribute [local irreducible] OpW OpA OpS AWP FSpec ESpec GSpec OpE RetOk RetOkG RvDen Le Ev GuardIs SrcIs Int.tmod IntKind.wrap bandI
end Go.Proofs.YtkegepoihkhihaaGreat

set_option maxHeartbeats 2000000
namespace Go.M
open Go.AV
theorem told_row {l : List TTold} (h : 0 < l.length) : ∃ t, l[0]? = some t ∧ (l.map TTold.cs)[(0 : Int).toNat]? = some t.cs := by
  obtain ⟨t, ht⟩ := get_some h
  exact ⟨t, ht, by show (l.map TTold.cs)[0]? = _; rw [List.getElem?_map, ht]; rfl⟩
end Go.M
namespace Go.Proofs.YtkegepoihkhihaaGreat
open Go Go.AV Go.M
attribute [local irreducible] OpW OpA OpS AWP FSpec ESpec GSpec OpE RetOk RetOkG RvDen Le Ev GuardIs SrcIs SrcE Int.tmod Int.tdiv IntKind.wrap bandI
theorem AX5 (b : Nat) (code : List Int) (hcode : ByteL code) (c : TCur) (hp : c.p ≤ 800000) : GSpec Tryz.prog 115 [AV.ptr b 0] [.box b 114 (curC code c)] (fun x : TCur × TState => x.1.p ≤ c.p + 1310 ∧ x.2.size ≤ 33045 ∧ SB 100001 x.2) (fun x => [.box b 114 (curC code x.1)]) (fun x => AV.agg x.2.cs) := by
 refine I9 Tryz.func115 rfl Tryz.ntmps115 rfl ?_
 refine A3 (A2 ?_)
 refine G3 rfl rfl rfl rfl Tryz.zeroValue43 rfl ?_
 intro b2
 refine A4 (A3 (A2 ?_))
 refine A5 rfl ?_
 refine J9 [1] rfl rfl rfl rfl Tryz.call168 rfl (An5 _ _ hcode _ (by omega)) (A7 (A0 rfl) C6) rfl ?_
 intro x5 ok5
 obtain ⟨hp5, hso, ⟨hf5, hl5⟩, hs5⟩ := ok5
 obtain ⟨q1, q2, q3, q4, q5⟩ := W1 hs5
 refine G3 rfl rfl rfl rfl Tryz.zeroValue43 rfl ?_
 intro b3
 refine D7 0 rfl rfl rfl (A0 rfl) (A0 rfl) (F0 _) rfl C3 rfl ?_
 refine A4 (A3 (A3 ?_))
 refine N7 (by first | (simp only [TState.ow, TState.ocs, pick, S4, S0, R7, Q4, R8, List.nil_append, S5, S1, List.append_nil, Q3, List.take_zero, Q5, List.drop_zero]; exact rfl) | exact rfl) ?_
 refine A2 ?_
 refine A5 rfl ?_
 refine J9 [1] rfl rfl rfl rfl Tryz.call76 rfl (R4 _ _ hcode _ _ (by omega) (by omega)) (A7 (A0 rfl) (A7 B6 C6)) rfl ?_
 intro x7 ok7
 refine A4 (D1 (A3 (A2 ?_)))
 refine A1 rfl (O7 rfl (A0 rfl) B6) ?_
 refine B5 rfl ?_
 refine A4 ?_
 refine C4 (A0 rfl) ?_ ?_
 ·intro h8
  have k8 := O1 h8; try simp only [A9] at k8
  refine A2 ?_
  refine A5 rfl ?_
  refine A1 rfl (L2 rfl T3 B4 Tryz.zeroValue3 rfl rfl rfl rfl (D3 B6 (K4 _ _) (D3 B6 (K4 _ _) (D3 B6 (K4 _ _) (D3 B6 (K4 _ _) I2)))) rfl rfl) ?_
  refine J9 [0] rfl rfl rfl rfl Tryz.call74 rfl (m1 _ _ hcode _ ([(0), (1), (100000), (100001)] : List Int) (by decide) (by omega)) (A7 (A0 rfl) (A7 (A0 rfl) C6)) rfl ?_
  intro x12 ok12
  refine A1 rfl (B1 0 rfl C0 rfl B4 (A0 rfl) rfl) ?_
  refine K3 1 rfl rfl rfl (A0 rfl) (A0 rfl) (K4 _ _) rfl B4 rfl ?_
  refine A4 (A3 ?_)
  refine N7 (by first | (simp only [TState.ow, TState.ocs, pick, S4, S0, R7, Q4, R8, List.nil_append, S5, S1, List.append_nil, Q3, List.take_zero, Q5, List.drop_zero]; exact rfl) | exact rfl) ?_
  refine A2 ?_
  refine A1 rfl (G5 1 rfl (A0 rfl) rfl E6 C3 rfl) ?_
  refine u7 (Z3 [2, 2] 42 rfl rfl (l6 (H7 M9 (H7 M9 (H7 (N8 (G2 (i := 0) rfl) J7) (H7 (N8 (G2 (i := 1) rfl) J7) V9))))) (T6 0 rfl rfl Q1)) ?_
  refine D7 2 rfl rfl rfl (A0 rfl) (A0 rfl) (F0 _) rfl C3 rfl ?_
  refine A4 ?_
  refine C5 ?_
  (refine M3 [0] ((x12.1, ⟨x12.2, x5.2.1.Cells, x5.2.1.Held, x5.2.1.Told⟩)) ?_ rfl (by first | (dsimp only; rfl) | rfl) (P7 rfl (M2 (ys := _) 2 rfl rfl E6 C3 (by first | rfl | (dsimp only [TState.cs]; rw [List.map_append]; rfl)))); (have hsz9 : sizeL TCell.size x5.2.1.Cells + sizeL THeld.size x5.2.1.Held + x5.2.1.Told.length ≤ 33044 := hs5; first | exact ⟨by dsimp only; omega, by show sizeL TCell.size _ + sizeL THeld.size _ + _ ≤ 33045; dsimp only; omega, ⟨⟨by dsimp only; omega, by dsimp only; omega⟩, hl5⟩⟩ | exact ⟨by dsimp only; omega, by show sizeL TCell.size _ + sizeL THeld.size _ + _ ≤ 33045; dsimp only; rw [H5]; simp only [I5, L6]; omega, ⟨⟨by dsimp only; omega, by dsimp only; omega⟩, hl5⟩⟩ | exact ⟨by dsimp only; omega, by show sizeL TCell.size _ + sizeL THeld.size _ + _ ≤ 33045; dsimp only; exact Nat.le_trans hsz9 (by decide), ⟨⟨by have h9 := ok12.2; simp at h9; dsimp only; omega, by have h9 := ok12.2; simp at h9; dsimp only; omega⟩, hl5⟩⟩ | exact ⟨by dsimp only; omega, by show sizeL TCell.size _ + sizeL THeld.size _ + _ ≤ 33045; (rw [hh0, N6] at hsz9; dsimp only; rw [N6]; exact Nat.le_trans hsz9 (by decide)), ⟨⟨by dsimp only; omega, by dsimp only; omega⟩, fun k hk => by (rcases List.mem_cons.1 hk with rfl | hk; (exact hl5 h0 (by rw [hh0]; exact List.mem_cons_self)); (exact hl5 k (by rw [hh0]; exact List.mem_cons_of_mem _ hk)))⟩⟩))
 intro h8
 have k8 := O0 h8; try simp only [A9] at k8
 refine A3 (A2 ?_)
 refine A1 rfl (O7 rfl (A0 rfl) B6) ?_
 refine B5 rfl ?_
 refine A4 ?_
 refine C4 (A0 rfl) ?_ ?_
 ·intro h14
  have k14 := O1 h14; try simp only [A9] at k14
  refine A3 (A2 ?_)
  refine A1 rfl (B1 2 rfl C0 rfl G4 (A0 rfl) rfl) ?_
  refine A1 rfl (B0 1 rfl (A0 rfl) rfl L8 rfl) ?_
  refine A1 rfl (V8 2 rfl E0 (A0 rfl) rfl) ?_
  refine A1 rfl (O8 rfl (A0 rfl) B6) ?_
  refine A4 ?_
  refine C4 (A0 rfl) ?_ ?_
  ·intro h19
   have k19 := of_decide_eq_true h19; try simp only [A9] at k19
   obtain ⟨h0, hs0, hh0⟩ : ∃ h0 hs0, x5.2.1.Held = h0 :: hs0 := by (cases hm : x5.2.1.Held with | nil => (rw [hm] at h19; simp at h19) | cons y q => exact ⟨y, q, rfl⟩)
   have hA : ([] : List (List AV)).length = (0 : Int).toNat := rfl
   rw [show x5.2.1.Held.map THeld.cs = [] ++ h0.cs :: hs0.map THeld.cs from by rw [hh0]; rfl]
   refine AWP.le (H4 [1, 1] rfl) ?_
   refine S3 _ [(0, false), (1, false), (2, false), (3, false), (4, true)] (by kernel_rfl) (by kernel_rfl) rfl (V3 2) ?_
   refine F1 rfl rfl rfl (fun ext => B1 2 rfl C0 rfl G4 (A0 rfl) rfl) ?_
   refine F1 rfl rfl rfl (fun ext => B0 0 rfl (A0 rfl) rfl L8 rfl) ?_
   refine F1 rfl rfl rfl (fun ext => B9 rfl (A0 rfl)) ?_
   refine F1 rfl rfl rfl (fun ext => L2 rfl T3 B4 Tryz.zeroValue3 rfl rfl rfl rfl (D3 B6 (K4 _ _) (D3 B6 (K4 _ _) (D3 B6 (K4 _ _) I2))) rfl rfl) ?_
   refine T5 rfl rfl rfl (l8 [2] rfl Tryz.call74 rfl (m1 _ _ hcode _ ([(0), (1), (100)] : List Int) (by decide) (by omega)) (A7 (A0 rfl) (A7 (A0 rfl) C6)) rfl) (fun a _ => (by first | exact F3 rfl | exact F3 (List.append_assoc _ _ _) | exact I3)) ?_
   intro x24 ok24
   refine g6 ?_
   refine A1 rfl (U2 1 rfl E0 D4 (A0 rfl) rfl B6 (by omega) (by simp)) ?_
   refine A1 rfl (l7 1 rfl F5 rfl B4 (A0 rfl) rfl rfl (c0 hA)) ?_
   refine q7 1 rfl rfl rfl (A0 rfl) (A0 rfl) (K4 _ _) rfl B4 hA rfl ?_
   refine A4 (A3 ?_)
   refine N7 (by first | (simp only [TState.ow, TState.ocs, pick, S4, S0, R7, Q4, R8, List.nil_append, S5, S1, List.append_nil, Q3, List.take_zero, Q5, List.drop_zero]; exact rfl) | exact rfl) ?_
   refine A2 ?_
   refine A1 rfl (G5 0 rfl (A0 rfl) rfl E6 C3 rfl) ?_
   refine u7 (Z3 [1, 1] 42 rfl rfl (l6 (H7 M9 (H7 M9 (H7 (N8 (G2 (i := 0) rfl) J7) (H7 (N8 (G2 (i := 1) rfl) J7) V9))))) (T6 2 rfl rfl Q1)) ?_
   refine D7 1 rfl rfl rfl (A0 rfl) (A0 rfl) (F0 _) rfl C3 rfl ?_
   refine A4 ?_
   refine C5 ?_
   (refine M3 [2] ((x24.1, ⟨x5.2.1.Floor, x5.2.1.Cells, ⟨h0.Txn, x24.2, h0.Lead, h0.Reads, h0.Writes⟩ :: hs0, x5.2.1.Told⟩)) ?_ rfl (by first | (dsimp only; rfl) | rfl) (P7 rfl (M2 (ys := _) 1 rfl rfl E6 C3 (by first | rfl | (dsimp only [TState.cs]; rw [List.map_append]; rfl)))); (have hsz9 : sizeL TCell.size x5.2.1.Cells + sizeL THeld.size x5.2.1.Held + x5.2.1.Told.length ≤ 33044 := hs5; first | exact ⟨by dsimp only; omega, by show sizeL TCell.size _ + sizeL THeld.size _ + _ ≤ 33045; dsimp only; omega, ⟨⟨by dsimp only; omega, by dsimp only; omega⟩, hl5⟩⟩ | exact ⟨by dsimp only; omega, by show sizeL TCell.size _ + sizeL THeld.size _ + _ ≤ 33045; dsimp only; rw [H5]; simp only [I5, L6]; omega, ⟨⟨by dsimp only; omega, by dsimp only; omega⟩, hl5⟩⟩ | exact ⟨by dsimp only; omega, by show sizeL TCell.size _ + sizeL THeld.size _ + _ ≤ 33045; dsimp only; exact Nat.le_trans hsz9 (by decide), ⟨⟨by have h9 := ok12.2; simp at h9; dsimp only; omega, by have h9 := ok12.2; simp at h9; dsimp only; omega⟩, hl5⟩⟩ | exact ⟨by dsimp only; omega, by show sizeL TCell.size _ + sizeL THeld.size _ + _ ≤ 33045; (rw [hh0, N6] at hsz9; dsimp only; rw [N6]; exact Nat.le_trans hsz9 (by decide)), ⟨⟨by dsimp only; omega, by dsimp only; omega⟩, fun k hk => by (rcases List.mem_cons.1 hk with rfl | hk; (exact hl5 h0 (by rw [hh0]; exact List.mem_cons_self)); (exact hl5 k (by rw [hh0]; exact List.mem_cons_of_mem _ hk)))⟩⟩))
  intro h19
  have k19 := of_decide_eq_false h19; try simp only [A9] at k19
  refine C8 (A3 ?_)
  refine N7 (by first | (simp only [TState.ow, TState.ocs, pick, S4, S0, R7, Q4, R8, List.nil_append, S5, S1, List.append_nil, Q3, List.take_zero, Q5, List.drop_zero]; exact rfl) | exact rfl) ?_
  refine A2 ?_
  refine A1 rfl (G5 1 rfl (A0 rfl) rfl E6 C3 rfl) ?_
  refine u7 (Z3 [2, 2] 42 rfl rfl (l6 (H7 M9 (H7 M9 (H7 (N8 (G2 (i := 0) rfl) J7) (H7 (N8 (G2 (i := 1) rfl) J7) V9))))) (T6 0 rfl rfl Q1)) ?_
  refine D7 2 rfl rfl rfl (A0 rfl) (A0 rfl) (F0 _) rfl C3 rfl ?_
  refine A4 ?_
  refine C5 ?_
  (refine M3 [0] ((x7.1, x5.2.1)) ?_ rfl (by first | (dsimp only; rfl) | rfl) (P7 rfl (M2 (ys := _) 2 rfl rfl E6 C3 (by first | rfl | (dsimp only [TState.cs]; rw [List.map_append]; rfl)))); (have hsz9 : sizeL TCell.size x5.2.1.Cells + sizeL THeld.size x5.2.1.Held + x5.2.1.Told.length ≤ 33044 := hs5; first | exact ⟨by dsimp only; omega, by show sizeL TCell.size _ + sizeL THeld.size _ + _ ≤ 33045; dsimp only; omega, ⟨⟨by dsimp only; omega, by dsimp only; omega⟩, hl5⟩⟩ | exact ⟨by dsimp only; omega, by show sizeL TCell.size _ + sizeL THeld.size _ + _ ≤ 33045; dsimp only; rw [H5]; simp only [I5, L6]; omega, ⟨⟨by dsimp only; omega, by dsimp only; omega⟩, hl5⟩⟩ | exact ⟨by dsimp only; omega, by show sizeL TCell.size _ + sizeL THeld.size _ + _ ≤ 33045; dsimp only; exact Nat.le_trans hsz9 (by decide), ⟨⟨by have h9 := ok12.2; simp at h9; dsimp only; omega, by have h9 := ok12.2; simp at h9; dsimp only; omega⟩, hl5⟩⟩ | exact ⟨by dsimp only; omega, by show sizeL TCell.size _ + sizeL THeld.size _ + _ ≤ 33045; (rw [hh0, N6] at hsz9; dsimp only; rw [N6]; exact Nat.le_trans hsz9 (by decide)), ⟨⟨by dsimp only; omega, by dsimp only; omega⟩, fun k hk => by (rcases List.mem_cons.1 hk with rfl | hk; (exact hl5 h0 (by rw [hh0]; exact List.mem_cons_self)); (exact hl5 k (by rw [hh0]; exact List.mem_cons_of_mem _ hk)))⟩⟩))
 intro h14
 have k14 := O0 h14; try simp only [A9] at k14
 refine A3 (A2 ?_)
 refine A1 rfl (O7 rfl (A0 rfl) B6) ?_
 refine B5 rfl ?_
 refine A4 ?_
 refine C4 (A0 rfl) ?_ ?_
 ·intro h27
  have k27 := O1 h27; try simp only [A9] at k27
  refine A3 (A2 ?_)
  refine A1 rfl (B1 3 rfl C0 rfl N4 (A0 rfl) rfl) ?_
  refine A1 rfl (B0 1 rfl (A0 rfl) rfl T4 rfl) ?_
  refine A1 rfl (V8 3 rfl I0 (A0 rfl) rfl) ?_
  refine A1 rfl (O8 rfl (A0 rfl) B6) ?_
  refine A4 ?_
  refine C4 (A0 rfl) ?_ ?_
  ·intro h32
   have k32 := of_decide_eq_true h32; try simp only [A9] at k32
   obtain ⟨t0, ht0, htrow⟩ := told_row (l := x5.2.1.Told) (by simpa using h32)
   refine V5 7 (by kernel_rfl) (by kernel_rfl) rfl ?_
   refine B2 rfl rfl (B1 3 rfl C0 rfl N4 (A0 rfl) rfl) ?_
   refine B2 rfl rfl (B0 1 rfl (A0 rfl) rfl T4 rfl) ?_
   refine B2 rfl rfl (B1 3 rfl C0 rfl N4 (A0 rfl) rfl) ?_
   refine B2 rfl rfl (B0 1 rfl (A0 rfl) rfl T4 rfl) ?_
   refine B2 rfl rfl (U2 3 rfl I0 K7 (A0 rfl) rfl B6 (by omega) (by have h9 := (List.getElem?_eq_some_iff.1 ht0).1; first | omega | (simp only [A9]; omega))) ?_
   refine B2 rfl rfl (f9 3 rfl (A0 rfl) rfl a7 K7 htrow (by decide)) ?_
   refine B2 rfl rfl (L2 rfl I0 K7 Tryz.zeroValue144 rfl rfl rfl rfl (D3 (A0 rfl) (F0 _) I2) rfl rfl) ?_
   refine P2 ?_
   refine N3 (by' := 24) 3 rfl rfl rfl rfl I0 Tryz.type144 rfl rfl rfl rfl rfl rfl (A0 rfl) (A0 rfl) rfl (by first | omega | (simp only [C9, A8, szR] at *; omega)) ?_
   intro v40_1
   refine A1 rfl (B1 3 rfl C0 rfl N4 (A0 rfl) rfl) ?_
   refine V2 3 rfl fun one_v40_1 => ?_
   refine K3 1 rfl rfl rfl (A0 rfl) (A0 rfl) (U9 one_v40_1) rfl N4 rfl ?_
   refine A4 (A3 ?_)
   refine N7 (by first | (simp only [TState.ow, TState.ocs, pick, S4, S0, R7, Q4, R8, List.nil_append, S5, S1, List.append_nil, Q3, List.take_zero, Q5, List.drop_zero]; exact rfl) | exact rfl) ?_
   refine A2 ?_
   refine A1 rfl (G5 1 rfl (A0 rfl) rfl E6 C3 rfl) ?_
   refine u7 (Z3 [2, 2] 42 rfl rfl (l6 (H7 M9 (H7 M9 (H7 (N8 (G2 (i := 0) rfl) J7) (H7 (N8 (G2 (i := 1) rfl) J7) V9))))) (T6 0 rfl rfl Q1)) ?_
   refine D7 2 rfl rfl rfl (A0 rfl) (A0 rfl) (F0 _) rfl C3 rfl ?_
   refine A4 ?_
   refine C5 ?_
   (refine M3 [0] ((x7.1, ⟨x5.2.1.Floor, x5.2.1.Cells, x5.2.1.Held, x5.2.1.Told ++ [t0]⟩)) ?_ rfl (by first | (dsimp only; rfl) | rfl) (P7 rfl (M2 (ys := _) 2 rfl rfl E6 C3 (by first | rfl | (dsimp only [TState.cs]; rw [List.map_append]; rfl)))); (have hsz9 : sizeL TCell.size x5.2.1.Cells + sizeL THeld.size x5.2.1.Held + x5.2.1.Told.length ≤ 33044 := hs5; first | exact ⟨by dsimp only; omega, by show sizeL TCell.size _ + sizeL THeld.size _ + _ ≤ 33045; dsimp only; omega, ⟨⟨by dsimp only; omega, by dsimp only; omega⟩, hl5⟩⟩ | exact ⟨by dsimp only; omega, by show sizeL TCell.size _ + sizeL THeld.size _ + _ ≤ 33045; dsimp only; rw [H5]; simp only [I5, L6]; omega, ⟨⟨by dsimp only; omega, by dsimp only; omega⟩, hl5⟩⟩ | exact ⟨by dsimp only; omega, by show sizeL TCell.size _ + sizeL THeld.size _ + _ ≤ 33045; dsimp only; exact Nat.le_trans hsz9 (by decide), ⟨⟨by have h9 := ok12.2; simp at h9; dsimp only; omega, by have h9 := ok12.2; simp at h9; dsimp only; omega⟩, hl5⟩⟩ | exact ⟨by dsimp only; omega, by show sizeL TCell.size _ + sizeL THeld.size _ + _ ≤ 33045; (rw [hh0, N6] at hsz9; dsimp only; rw [N6]; exact Nat.le_trans hsz9 (by decide)), ⟨⟨by dsimp only; omega, by dsimp only; omega⟩, fun k hk => by (rcases List.mem_cons.1 hk with rfl | hk; (exact hl5 h0 (by rw [hh0]; exact List.mem_cons_self)); (exact hl5 k (by rw [hh0]; exact List.mem_cons_of_mem _ hk)))⟩⟩))
  intro h32
  have k32 := of_decide_eq_false h32; try simp only [A9] at k32
  refine C8 (A3 ?_)
  refine N7 (by first | (simp only [TState.ow, TState.ocs, pick, S4, S0, R7, Q4, R8, List.nil_append, S5, S1, List.append_nil, Q3, List.take_zero, Q5, List.drop_zero]; exact rfl) | exact rfl) ?_
  refine A2 ?_
  refine A1 rfl (G5 1 rfl (A0 rfl) rfl E6 C3 rfl) ?_
  refine u7 (Z3 [2, 2] 42 rfl rfl (l6 (H7 M9 (H7 M9 (H7 (N8 (G2 (i := 0) rfl) J7) (H7 (N8 (G2 (i := 1) rfl) J7) V9))))) (T6 0 rfl rfl Q1)) ?_
  refine D7 2 rfl rfl rfl (A0 rfl) (A0 rfl) (F0 _) rfl C3 rfl ?_
  refine A4 ?_
  refine C5 ?_
  (refine M3 [0] ((x7.1, x5.2.1)) ?_ rfl (by first | (dsimp only; rfl) | rfl) (P7 rfl (M2 (ys := _) 2 rfl rfl E6 C3 (by first | rfl | (dsimp only [TState.cs]; rw [List.map_append]; rfl)))); (have hsz9 : sizeL TCell.size x5.2.1.Cells + sizeL THeld.size x5.2.1.Held + x5.2.1.Told.length ≤ 33044 := hs5; first | exact ⟨by dsimp only; omega, by show sizeL TCell.size _ + sizeL THeld.size _ + _ ≤ 33045; dsimp only; omega, ⟨⟨by dsimp only; omega, by dsimp only; omega⟩, hl5⟩⟩ | exact ⟨by dsimp only; omega, by show sizeL TCell.size _ + sizeL THeld.size _ + _ ≤ 33045; dsimp only; rw [H5]; simp only [I5, L6]; omega, ⟨⟨by dsimp only; omega, by dsimp only; omega⟩, hl5⟩⟩ | exact ⟨by dsimp only; omega, by show sizeL TCell.size _ + sizeL THeld.size _ + _ ≤ 33045; dsimp only; exact Nat.le_trans hsz9 (by decide), ⟨⟨by have h9 := ok12.2; simp at h9; dsimp only; omega, by have h9 := ok12.2; simp at h9; dsimp only; omega⟩, hl5⟩⟩ | exact ⟨by dsimp only; omega, by show sizeL TCell.size _ + sizeL THeld.size _ + _ ≤ 33045; (rw [hh0, N6] at hsz9; dsimp only; rw [N6]; exact Nat.le_trans hsz9 (by decide)), ⟨⟨by dsimp only; omega, by dsimp only; omega⟩, fun k hk => by (rcases List.mem_cons.1 hk with rfl | hk; (exact hl5 h0 (by rw [hh0]; exact List.mem_cons_self)); (exact hl5 k (by rw [hh0]; exact List.mem_cons_of_mem _ hk)))⟩⟩))
 intro h27
 have k27 := O0 h27; try simp only [A9] at k27
 refine C8 (A3 ?_)
 refine N7 (by first | (simp only [TState.ow, TState.ocs, pick, S4, S0, R7, Q4, R8, List.nil_append, S5, S1, List.append_nil, Q3, List.take_zero, Q5, List.drop_zero]; exact rfl) | exact rfl) ?_
 refine A2 ?_
 refine A1 rfl (G5 1 rfl (A0 rfl) rfl E6 C3 rfl) ?_
 refine u7 (Z3 [2, 2] 42 rfl rfl (l6 (H7 M9 (H7 M9 (H7 (N8 (G2 (i := 0) rfl) J7) (H7 (N8 (G2 (i := 1) rfl) J7) V9))))) (T6 0 rfl rfl Q1)) ?_
 refine D7 2 rfl rfl rfl (A0 rfl) (A0 rfl) (F0 _) rfl C3 rfl ?_
 refine A4 ?_
 refine C5 ?_
 (refine M3 [0] ((x7.1, x5.2.1)) ?_ rfl (by first | (dsimp only; rfl) | rfl) (P7 rfl (M2 (ys := _) 2 rfl rfl E6 C3 (by first | rfl | (dsimp only [TState.cs]; rw [List.map_append]; rfl)))); (have hsz9 : sizeL TCell.size x5.2.1.Cells + sizeL THeld.size x5.2.1.Held + x5.2.1.Told.length ≤ 33044 := hs5; first | exact ⟨by dsimp only; omega, by show sizeL TCell.size _ + sizeL THeld.size _ + _ ≤ 33045; dsimp only; omega, ⟨⟨by dsimp only; omega, by dsimp only; omega⟩, hl5⟩⟩ | exact ⟨by dsimp only; omega, by show sizeL TCell.size _ + sizeL THeld.size _ + _ ≤ 33045; dsimp only; rw [H5]; simp only [I5, L6]; omega, ⟨⟨by dsimp only; omega, by dsimp only; omega⟩, hl5⟩⟩ | exact ⟨by dsimp only; omega, by show sizeL TCell.size _ + sizeL THeld.size _ + _ ≤ 33045; dsimp only; exact Nat.le_trans hsz9 (by decide), ⟨⟨by have h9 := ok12.2; simp at h9; dsimp only; omega, by have h9 := ok12.2; simp at h9; dsimp only; omega⟩, hl5⟩⟩ | exact ⟨by dsimp only; omega, by show sizeL TCell.size _ + sizeL THeld.size _ + _ ≤ 33045; (rw [hh0, N6] at hsz9; dsimp only; rw [N6]; exact Nat.le_trans hsz9 (by decide)), ⟨⟨by dsimp only; omega, by dsimp only; omega⟩, fun k hk => by (rcases List.mem_cons.1 hk with rfl | hk; (exact hl5 h0 (by rw [hh0]; exact List.mem_cons_self)); (exact hl5 k (by rw [hh0]; exact List.mem_cons_of_mem _ hk)))⟩⟩))
end Go.Proofs.YtkegepoihkhihaaGreat

namespace Go.AV
open Go.ChangeShapes Go.WideShapes Go.ChangeAt Go.RowKit

def heapR (w : World) : RHeap := fun b => w.heap[b]?
theorem heapR_le (w : World) : RLe (heapR w) w := fun _ _ h => h
theorem Ax2 {w : World} {a : Addr} {v : Value} (h : w.cell? a = some v) : rcell (heapR w) a = some v := h

def Opens (P : Program) (t : TypeId) (α : Type) (enc : α → List AV) (ok : α → Prop) : Prop :=
  ∀ (H : Type) (en : TypeId × Value → H) (w : World) (base : Nat) (spare : Nat → Bool) (held : Bool) (fuel : Nat) (cs : List Value) (x : DataW H × List MemPlace),
    DataW.trod en P w base spare held fuel t cs = some x → ∃ a : α, ok a ∧ DenC (heapR w) cs (enc a)
theorem AT8 {R : RHeap} {v : Value} {x : AV} (h : x.den R v) (h1 : v.oneCell' = true) : DenC R [v] [x] :=
  ⟨rfl, fun i u y hu hy => by
    cases i with
    | zero => simp at hu hy; subst hu; subst hy; exact ⟨h, h1⟩
    | succ i => simp at hu⟩
section
variable {P : Program} {t e : TypeId}
theorem BA9 {k : IntKind} (ht : P.underlying t = some (.int k)) : Opens P t Int (fun n => [AV.ik k n]) (fun n => (Lit.int k n).wf = true) := fun H en w base spare held fuel cs x h => by
  obtain ⟨n, rfl, _, hw⟩ := DataW.trod_int ht h
  exact ⟨n, hw, AT8 rfl rfl⟩
theorem At6 {α : Type} {p : Nat → α → Prop} : ∀ n, (∀ i, i < n → ∃ a, p i a) → ∃ l : List α, l.length = n ∧ ∀ (i : Nat) (a : α), l[i]? = some a → p i a
  | 0, _ => ⟨[], rfl, fun i a h => by simp at h⟩
  | n + 1, h => by
    obtain ⟨l, h1, h2⟩ := At6 n fun i hi => h i (by omega)
    obtain ⟨a, ha⟩ := h n (by omega)
    refine ⟨l ++ [a], by simp [h1], fun i b hb => ?_⟩
    by_cases hi : i < l.length
    · rw [List.getElem?_append_left hi] at hb; exact h2 i b hb
    · rw [List.getElem?_append_right (by omega)] at hb
      have hin : i = n := by
        have := (List.getElem?_eq_some_iff.1 hb).1
        simp at this; omega
      subst hin
      rw [h1] at hb; simp at hb; subst hb; exact ha
theorem Aq6 {α : Type} {enc : α → List AV} {ok : α → Prop} {sz : Nat} (ht : P.underlying t = some (.slice e)) (hc : P.cellsOf e = sz) (h : Opens P e α enc ok) (hl : ∀ a, (enc a).length = sz) :
    Opens P t (List α) (fun l => [AV.list sz (l.map enc)]) (fun l => ∀ a ∈ l, ok a) := fun H en w base spare held fuel cs x hx => by
  rcases DataW.trod_slice ht hx with ⟨rfl, _⟩ | ⟨a, len, cap, elems, rest, n, _, rfl, _, _, hlc, hcm, hel, hi, _, _⟩
  · exact ⟨[], by simp, AT8 ⟨none, 0, rfl, Nat.le_refl _, Nat.zero_le _, by simp, fun h => absurd rfl h⟩ rfl⟩
  · obtain ⟨l, h1, h2⟩ := At6 (p := fun i b => ok b ∧ ∃ cs', w.cells? base (a.add (i * sz)) sz = some cs' ∧ DenC (heapR w) cs' (enc b)) len fun i hil => by
      have := hi i hil
      rw [hc, List.getElem?_eq_getElem (by omega)] at this
      obtain ⟨cs', hcs, htr⟩ := Option.bind_eq_some_iff.1 this
      obtain ⟨b, hb, hd⟩ := h H en w base spare held n cs' _ htr
      exact ⟨b, hb, cs', hcs, hd⟩
    refine ⟨l, fun b hb => ?_, AT8 ⟨some a, cap, by rw [A9, h1], by rw [A9, h1]; exact hlc, hcm, fun ec he => ?_, fun _ => ⟨a, rfl, fun j y hy => ?_⟩⟩ rfl⟩
    · obtain ⟨i, hib⟩ := List.getElem?_of_mem hb
      exact (h2 i b hib).1
    · obtain ⟨b, _, rfl⟩ := List.mem_map.1 he
      exact hl b
    · have hun : ∀ ec ∈ l.map enc, ec.length = sz := fun ec he => by
        obtain ⟨b, _, rfl⟩ := List.mem_map.1 he
        exact hl b
      have hjl : j < l.length * sz := by
        have := (List.getElem?_eq_some_iff.1 hy).1
        rwa [V1 hun, A9] at this
      have hsz : 0 < sz := by
        rcases Nat.eq_zero_or_pos sz with h0 | h0
        · subst h0; omega
        · exact h0
      have hij : j / sz < l.length := Nat.div_lt_of_lt_mul (by rw [Nat.mul_comm]; exact hjl)
      have hkm : j % sz < sz := Nat.mod_lt _ hsz
      have hjj : j / sz * sz + j % sz = j := by rw [Nat.mul_comm]; exact Nat.div_add_mod j sz
      have hb : l[j / sz]? = some l[j / sz] := List.getElem?_eq_getElem hij
      obtain ⟨_, cs', hcs, hd⟩ := h2 _ _ hb
      obtain ⟨_, hcl, hat⟩ := World.cells?_some hcs
      have hk : (enc l[j / sz])[j % sz]? = some ((enc l[j / sz])[j % sz]'(by rw [hl]; exact hkm)) := List.getElem?_eq_getElem _
      have hyk := c8 hun (i := j / sz) (e := enc l[j / sz]) (by rw [List.getElem?_map, hb]; rfl) hk
      rw [hjj, hy] at hyk
      injection hyk with hyk
      have hv : cs'[j % sz]? = some (cs'[j % sz]'(by rw [hcl]; exact hkm)) := List.getElem?_eq_getElem _
      have hcell := hat (j % sz) hkm
      rw [hv, AF6, hjj] at hcell
      refine ⟨_, Ax2 hcell, ?_⟩
      have := hd.2 _ _ _ hv hk
      rw [hyk]; exact this
theorem arg_one {H : Type} {en : TypeId × Value → H} {W : World} {base : Nat} {spare : Nat → Bool} {held : Bool} {α : Type} {enc : α → AV} {ok : α → Prop} {v : Value} {d : DataW H} {p : List MemPlace}
    (h : Opens P t α (fun a => [enc a]) ok) (h1 : v.cells = #[v]) (hd : DataW.Trod en P W base spare held t v d p) : ∃ a, ok a ∧ (enc a).den (heapR W) v := by
  obtain ⟨fuel, hf⟩ := hd
  rw [h1] at hf
  obtain ⟨a, h2, h3⟩ := h H en W base spare held fuel _ _ hf
  exact ⟨a, h2, (h3.2 0 v _ rfl rfl).1⟩
theorem BB0 {f : FuncId} {xs : List AV} {b : Bool} {W : World} {vs : List Value} (h : FSpec P f xs (AV.bool b)) (hd : DenV (heapR W) vs xs) :
    Calls P f vs.toArray W fun e w' => e = .returned (.bool b) ∧ Below W.heap.size W w' :=
  (h (heapR W) W vs (heapR_le W) hd).mono fun e w' ⟨v, R', h1, h2, _, _, h5⟩ => ⟨by rw [h1]; exact congrArg Ending.returned h2, h5⟩
end
end Go.AV

namespace Go.AV
section
variable {P : Program} {G : Nat → Prop} {n : Nat} {own : List Own} {o : Oper} {E : EnvF}
end
end Go.AV

namespace Go.AV
open Go.RowKit (Below)
section
variable {P : Program} {G : Nat → Prop} {n : Nat} {own : List Own} {o : Oper} {E : EnvF}
end
end Go.AV

namespace Go.Proofs.YtkegepoihkhihaaGreat
open Go Go.AV Go.M
attribute [local irreducible] OpW OpA OpS AWP FSpec ESpec GSpec OpE RetOk RetOkG RvDen Le Ev GuardIs SrcIs SrcE Int.tmod Int.tdiv IntKind.wrap bandI
end Go.Proofs.YtkegepoihkhihaaGreat

namespace Go.Proofs.YtkegepoihkhihaaGreat
open Go Go.Sort Go.Shelf Go.RowKit
theorem An6 (x : Int) (W : World) : Calls Tryz.prog 159 #[.int .i64 x] W fun e w' => e = .returned (.bool false) ∧ w' = W := by
  go_enter Tryz.func159, Tryz.ntmps159
  go_wp2
  go_ret
  exact ⟨by simp, rfl⟩
theorem An7 (x : ByteArray) (W : World) : Calls Tryz.prog 160 #[.string x] W fun e w' => e = .returned (.bool false) ∧ w' = W := by
  go_enter Tryz.func160, Tryz.ntmps160
  go_wp2
  go_ret
  exact ⟨by simp, rfl⟩
set_option maxHeartbeats 1000000 in
theorem AN3 (x y : Int) (W : World) : Calls Tryz.prog 104 #[.int .i64 x, .int .i64 y] W fun e w' => e = .returned (.int .i64 (M.cmpInt x y)) ∧ w' = W := by
  go_enter Tryz.func104, Tryz.ntmps104
  go_wp2_with (go_at_call 159; refine (An6 _ _).mono ?_; rintro e w' ⟨rfl, hw⟩; rw [hw])
  all_goals (go_ret; refine ⟨?_, rfl⟩; unfold M.cmpInt; (repeat' split) <;> first | rfl | (exfalso; omega))
set_option maxHeartbeats 1000000 in
theorem An8 (x y : List UInt8) (W : World) : Calls Tryz.prog 105 #[.string ⟨x.toArray⟩, .string ⟨y.toArray⟩] W fun e w' => e = .returned (.int .i64 (M.cmpStr x y)) ∧ w' = W := by
  have htri := M.bytesLess_tri y x
  go_enter Tryz.func105, Tryz.ntmps105
  go_wp2_with (go_at_call 160; refine (An7 _ _).mono ?_; rintro e w' ⟨rfl, hw⟩; rw [hw])
  all_goals (go_ret; refine ⟨?_, rfl⟩; unfold M.cmpStr; simp_all)
set_option maxHeartbeats 1000000 in
theorem Aq7 (x y z : Int) (b : Nat) (W : World) (h0 : W.cell? ⟨b, 0, none⟩ = some (.int .i64 x)) (h1 : W.cell? ⟨b, 1, none⟩ = some (.int .i64 y)) (h2 : W.cell? ⟨b, 2, none⟩ = some (.int .i64 z)) :
    Calls Tryz.prog 103 #[.slice (some ⟨b, 0, none⟩) 3 3] W fun e w' => e = .returned (.int .i64 (M.orInt [x, y, z])) ∧ w' = W := by
  have hc : ∀ k : Nat, k < 3 → W.cell? ⟨b, 0 + k, none⟩ = some (.int .i64 ([x, y, z].getD k 0)) := fun k hk => by
    rcases k with _ | _ | _ | k
    · exact h0
    · exact h1
    · exact h2
    · omega
  obtain ⟨l, hl⟩ : ∃ l, [x, y, z] = l := ⟨_, rfl⟩
  have hlen : l.length = 3 := by rw [← hl]; rfl
  rw [hl] at hc ⊢
  obtain ⟨r, hres⟩ : ∃ r, M.orInt l = r := ⟨_, rfl⟩
  rw [hres]
  go_enter Tryz.func103, Tryz.ntmps103
  go_wp2
  go_loop [8] (fun i => ∃ k : Nat, k ≤ 3 ∧ i = .int .i64 k ∧ r = M.orInt (l.drop k)) (fun i => 3 - (intOf i).toNat)
  case atStart => exact ⟨0, Nat.zero_le _, rfl, hres.symm⟩
  case round =>
    obtain ⟨k, hk, rfl, hr⟩ := hrel
    have hcell : (k : Int) < 3 → W.cell? ⟨b, k, none⟩ = some (.int .i64 (l.getD k 0)) := fun h => by have := hc k (by omega); rwa [Nat.zero_add] at this
    have hstep : (k : Int) < 3 → M.orInt (l.drop k) = if l.getD k 0 = 0 then M.orInt (l.drop (k + 1)) else l.getD k 0 := fun h => by
      have hk3 : k < l.length := by omega
      rw [AV.drop_some (List.getElem?_eq_getElem hk3), M.orInt, List.getD_eq_getElem?_getD, List.getElem?_eq_getElem hk3]; rfl
    have hend : ¬ (k : Int) < 3 → M.orInt (l.drop k) = 0 := fun h => by rw [List.drop_eq_nil_of_le (by omega)]; rfl
    generalize l.getD k 0 = v at hcell hstep
    clear hc h0 h1 h2
    obtain ⟨t, ht⟩ : ∃ t, M.orInt (l.drop k) = t := ⟨_, rfl⟩
    rw [ht] at hr hstep hend
    clear hres
    subst hr
    go_wp2
    · exfalso; have h9 : (v != 0) = true := by assumption
      simp_all
    · go_ret; exact ⟨rfl, rfl⟩
    case roundEnd =>
      have h8 : (k : Int) < 3 := by assumption
      have h9 : (v != 0) = false := by assumption
      have hv : v = 0 := by simpa using h9
      refine ⟨⟨k + 1, by omega, by simp, ?_⟩, by simp [intOf]; omega⟩
      rw [hstep h8, if_pos hv]
    · go_ret; exact ⟨rfl, rfl⟩
def encItem (x : Go.M.TFeedItem) : List Value := [.int .i64 x.Time, .int .i64 x.Group, .string ⟨x.Key.toArray⟩, .string ⟨x.Val.toArray⟩, .bool x.Gone]
theorem j5 (W : World) (vs : Array Value) (t : TypeId) (j : Nat) : (W.alloc (.cells vs t)).cell? ⟨W.heap.size, j, none⟩ = vs[j]? := by
  unfold World.cell?
  dsimp only
  rw [show (W.alloc (.cells vs t)).heap[W.heap.size]? = some (.cells vs t) from heap_alloc_new W _]
  rfl
theorem AI9 (W : World) (o : Obj) (k j : Nat) (h : k < W.heap.size) : (W.alloc o).cell? ⟨k, j, none⟩ = W.cell? ⟨k, j, none⟩ := by
  unfold World.cell?
  dsimp only
  rw [show (W.alloc o).heap[k]? = W.heap[k]? from Below.heap_alloc W o k h]
theorem m7 (W : World) (o : Obj) : (W.alloc o).heap.size = W.heap.size + 1 := by simp
theorem BB1 (W w2 : World) (a b : Go.M.TFeedItem) (t : TypeId) (h : (W.alloc (.cells #[.int .i64 a.Time, .int .i64 a.Group, .string ⟨a.Key.toArray⟩, .string ⟨a.Val.toArray⟩, .bool a.Gone] t)).alloc (.cells #[.int .i64 b.Time, .int .i64 b.Group, .string ⟨b.Key.toArray⟩, .string ⟨b.Val.toArray⟩, .bool b.Gone] t) = w2) :
    w2.cell? ⟨W.heap.size, 0, none⟩ = some (.int .i64 a.Time) ∧ w2.cell? ⟨W.heap.size, 1, none⟩ = some (.int .i64 a.Group) ∧ w2.cell? ⟨W.heap.size, 2, none⟩ = some (.string ⟨a.Key.toArray⟩) ∧
    w2.cell? ⟨W.heap.size + 1, 0, none⟩ = some (.int .i64 b.Time) ∧ w2.cell? ⟨W.heap.size + 1, 1, none⟩ = some (.int .i64 b.Group) ∧ w2.cell? ⟨W.heap.size + 1, 2, none⟩ = some (.string ⟨b.Key.toArray⟩) ∧
    ∃ os, w2 = grow W os := by
  subst h
  refine ⟨?_, ?_, ?_, ?_, ?_, ?_, _, by rw [alloc_eq_grow, alloc_eq_grow, grow_grow]⟩
  · rw [AI9 _ _ _ _ (by rw [m7]; omega), j5]; rfl
  · rw [AI9 _ _ _ _ (by rw [m7]; omega), j5]; rfl
  · rw [AI9 _ _ _ _ (by rw [m7]; omega), j5]; rfl
  · rw [← m7 W (.cells #[.int .i64 a.Time, .int .i64 a.Group, .string ⟨a.Key.toArray⟩, .string ⟨a.Val.toArray⟩, .bool a.Gone] t), j5]; rfl
  · rw [← m7 W (.cells #[.int .i64 a.Time, .int .i64 a.Group, .string ⟨a.Key.toArray⟩, .string ⟨a.Val.toArray⟩, .bool a.Gone] t), j5]; rfl
  · rw [← m7 W (.cells #[.int .i64 a.Time, .int .i64 a.Group, .string ⟨a.Key.toArray⟩, .string ⟨a.Val.toArray⟩, .bool a.Gone] t), j5]; rfl
theorem Ax3 (W : World) (x y z : Int) (t : TypeId) : (W.alloc (.cells #[.int .i64 x, .int .i64 y, .int .i64 z] t)).cell? ⟨W.heap.size, 0, none⟩ = some (.int .i64 x) ∧ (W.alloc (.cells #[.int .i64 x, .int .i64 y, .int .i64 z] t)).cell? ⟨W.heap.size, 1, none⟩ = some (.int .i64 y) ∧ (W.alloc (.cells #[.int .i64 x, .int .i64 y, .int .i64 z] t)).cell? ⟨W.heap.size, 2, none⟩ = some (.int .i64 z) := by
  refine ⟨?_, ?_, ?_⟩ <;> (rw [j5]; rfl)
set_option maxHeartbeats 4000000 in
theorem AN4 (a b : Go.M.TFeedItem) (W : World) : Calls Tryz.prog 64 #[.agg (encItem a).toArray, .agg (encItem b).toArray] W fun e w' => e = .returned (.int .i64 (M.compareItems a b)) ∧ ∃ q os', w' = grow (W.drewN q) os' := by
  obtain ⟨r, hr⟩ : ∃ r, M.compareItems a b = r := ⟨_, rfl⟩
  have h1 := AN3 a.Time b.Time
  have h2 := AN3 a.Group b.Group
  have h3 := An8 a.Key b.Key
  have hr2 : M.orInt [M.cmpInt a.Time b.Time, M.cmpInt a.Group b.Group, M.cmpStr a.Key b.Key] = r := hr
  rw [hr]
  clear hr
  generalize M.cmpInt a.Time b.Time = x at h1 hr2
  generalize M.cmpInt a.Group b.Group = y at h2 hr2
  generalize M.cmpStr a.Key b.Key = z at h3 hr2
  unfold encItem
  go_enter Tryz.func64, Tryz.ntmps64
  go_wp2
  generalize hw2 : (W.alloc (.cells #[.int .i64 a.Time, .int .i64 a.Group, .string ⟨a.Key.toArray⟩, .string ⟨a.Val.toArray⟩, .bool a.Gone] 63)).alloc (.cells #[.int .i64 b.Time, .int .i64 b.Group, .string ⟨b.Key.toArray⟩, .string ⟨b.Val.toArray⟩, .bool b.Gone] 63) = w2
  obtain ⟨fa0, fa1, fa2, fb0, fb1, fb2, hex⟩ := BB1 W w2 a b 63 hw2
  clear hw2
  refine wp_region_still_tail 15 (by kernel_rfl) (by kernel_rfl) ?_
  simp only [Q3, List.take_zero, Q5, List.drop_zero]
  have hex3 : ∃ os, w2.drew = grow (W.drewN 1) os := by
    obtain ⟨os, h⟩ := hex
    exact ⟨os, by rw [h]; rfl⟩
  clear hex
  repeat still_step
  still_call (h1 _)
  repeat still_step
  still_call (h2 _)
  repeat still_step
  still_call (h3 _)
  repeat still_step
  try refine wpStill_nil ?_
  clear fa0 fa1 fa2 fb0 fb1 fb2
  change wpList _ _ _ _ _ w2.drew
  generalize w2.drew = w3 at hex3 ⊢
  have h4 := Ax3 w3 x y z 3
  have h5 := Aq7 x y z w3.heap.size (w3.alloc (.cells #[.int .i64 x, .int .i64 y, .int .i64 z] 3)) h4.1 h4.2.1 h4.2.2
  rw [hr2] at h5
  clear h4 hr2 h1 h2 h3
  go_wp2_with (go_at_call 103; refine h5.mono ?_; rintro e w' ⟨rfl, hw⟩; rw [hw])
  go_ret
  obtain ⟨os, h⟩ := hex3
  exact ⟨rfl, 1, os ++ #[_], by rw [h, alloc_eq_grow, grow_grow]⟩
end Go.Proofs.YtkegepoihkhihaaGreat

set_option maxHeartbeats 1000000
namespace Go.Proofs.YtkegepoihkhihaaGreat
open Go Go.AV Go.M
attribute [local irreducible] OpW OpA OpS AWP FSpec ESpec GSpec OpE RetOk RetOkG RvDen Le Ev GuardIs SrcIs Int.tmod Int.tdiv IntKind.wrap
end Go.Proofs.YtkegepoihkhihaaGreat

namespace Go.M
open Go.AV
theorem AD9 (a b : TFeedItem) : l23Ahead a b = true ↔ a.Time < b.Time ∨ (a.Time = b.Time ∧ (a.Group < b.Group ∨ (a.Group = b.Group ∧ Op.bytesLess a.Key b.Key = true))) := by
  unfold l23Ahead
  by_cases h1 : a.Time = b.Time
  · by_cases h2 : a.Group = b.Group
    · simp [h1, h2]
    · simp [h1, h2]
  · simp [h1]
theorem y8 (a : TFeedItem) : l23Ahead a a = false := by
  cases h : l23Ahead a a with
  | false => rfl
  | true =>
    rw [AD9] at h
    rcases h with h | ⟨_, h | ⟨_, h⟩⟩
    · omega
    · omega
    · rw [L0] at h; cases h
theorem n3 (a b c : TFeedItem) (h : l23Ahead a b = true) (k : l23Ahead b c = true) : l23Ahead a c = true := by
  rw [AD9] at h k ⊢
  rcases h with h | ⟨h1, h | ⟨h2, h⟩⟩
  · rcases k with k | ⟨k1, k⟩
    · exact .inl (by omega)
    · exact .inl (by omega)
  · rcases k with k | ⟨k1, k | ⟨k2, k⟩⟩
    · exact .inl (by omega)
    · exact .inr ⟨by omega, .inl (by omega)⟩
    · exact .inr ⟨by omega, .inl (by omega)⟩
  · rcases k with k | ⟨k1, k | ⟨k2, k⟩⟩
    · exact .inl (by omega)
    · exact .inr ⟨by omega, .inl (by omega)⟩
    · exact .inr ⟨by omega, .inr ⟨by omega, Q7 h k⟩⟩
def sameKey (a b : TFeedItem) : Prop := a.Time = b.Time ∧ a.Group = b.Group ∧ a.Key = b.Key
theorem Af6 (a b : TFeedItem) : l23Ahead a b = true ∨ sameKey a b ∨ l23Ahead b a = true := by
  rw [AD9, AD9]; unfold sameKey
  by_cases h1 : a.Time = b.Time
  · by_cases h2 : a.Group = b.Group
    · rcases AD3 a.Key b.Key with h | h | h
      · exact .inl (.inr ⟨h1, .inr ⟨h2, h⟩⟩)
      · exact .inr (.inl ⟨h1, h2, h⟩)
      · exact .inr (.inr (.inr ⟨h1.symm, .inr ⟨h2.symm, h⟩⟩))
    · by_cases h3 : a.Group < b.Group
      · exact .inl (.inr ⟨h1, .inl h3⟩)
      · exact .inr (.inr (.inr ⟨h1.symm, .inl (by omega)⟩))
  · by_cases h3 : a.Time < b.Time
    · exact .inl (.inl h3)
    · exact .inr (.inr (.inl (by omega)))
theorem Ax4 {a b : TFeedItem} (h : sameKey a b) (c : TFeedItem) : l23Ahead a c = l23Ahead b c := by
  obtain ⟨h1, h2, h3⟩ := h
  unfold l23Ahead; rw [h1, h2, h3]
theorem AX6 {a b : TFeedItem} (h : l23Ahead a b = true) : l23Ahead b a = false := by
  cases e : l23Ahead b a with
  | false => rfl
  | true => have := n3 _ _ _ h e; rw [y8] at this; cases this
theorem BB2 : Swo l23Ahead where
  asym a b h := AX6 h
  ntr a b c h k := by
    cases e : l23Ahead c a with
    | false => rfl
    | true =>
      rcases Af6 b c with f | f | f
      · rw [n3 _ _ _ f e] at h; cases h
      · rw [Ax4 f, e] at h; cases h
      · rw [f] at k; cases k
theorem lt_ahead : (fun x y : TFeedItem => decide (compareItems x y < 0)) = l23Ahead := by
  funext x y
  rw [← AJ2]
  by_cases h : compareItems x y < 0
  · simp [h]
  · simp [h]; omega
def Srt (l : List TFeedItem) : Prop := l.Pairwise fun a b => l23Ahead a b = true
theorem srt_adj {l : List TFeedItem} : adj l23Ahead l = true ↔ Srt l := Ak6 n3
theorem AR2 (l : List TFeedItem) : l23Feed l = true ↔ (∀ x ∈ l, l23Good x = true) ∧ Srt l ∧ l.length ≤ 400 := by
  unfold l23Feed
  rw [Bool.and_eq_true, Bool.and_eq_true, srt_adj, decide_eq_true_eq, List.all_eq_true]
  constructor
  · exact fun h => ⟨h.1.1, h.1.2, by have := h.2; omega⟩
  · exact fun h => ⟨⟨h.1, h.2.1⟩, by have := h.2.2; omega⟩
theorem Aa8 : ∀ {a b : List TFeedItem}, Srt a → Srt b → (∀ x, x ∈ a ↔ x ∈ b) → a = b
  | [], [], _, _, _ => rfl
  | [], y :: b, _, _, h => by have := (h y).2 List.mem_cons_self; cases this
  | x :: a, [], _, _, h => by have := (h x).1 List.mem_cons_self; cases this
  | x :: a, y :: b, ha, hb, h => by
    obtain ⟨a1, a2⟩ := List.pairwise_cons.1 ha
    obtain ⟨b1, b2⟩ := List.pairwise_cons.1 hb
    have e : x = y := by
      rcases List.mem_cons.1 ((h x).1 List.mem_cons_self) with e | e
      · exact e
      · rcases List.mem_cons.1 ((h y).2 List.mem_cons_self) with f | f
        · exact f.symm
        · have := AX6 (b1 x e); rw [a1 y f] at this; cases this
    subst e
    rw [Aa8 a2 b2 fun z => ?_]
    constructor
    · intro hz
      rcases List.mem_cons.1 ((h z).1 (List.mem_cons_of_mem _ hz)) with e | e
      · subst e; have := a1 z hz; rw [y8] at this; cases this
      · exact e
    · intro hz
      rcases List.mem_cons.1 ((h z).2 (List.mem_cons_of_mem _ hz)) with e | e
      · subst e; have := b1 z hz; rw [y8] at this; cases this
      · exact e
def putR : List TFeedItem → TFeedItem → List TFeedItem × Bool
  | [], x => ([x], true)
  | y :: l, x => if l23Ahead y x = true then (y :: (putR l x).1, (putR l x).2) else if l23Ahead x y = true then (x :: y :: l, true) else (y :: l, decide (y = x))
theorem Aa9 {x : TFeedItem} : ∀ {l : List TFeedItem} {k : Nat}, k ≤ l.length → (∀ i y, i < k → l[i]? = some y → l23Ahead y x = true) → putR l x = (l.take k ++ (putR (l.drop k) x).1, (putR (l.drop k) x).2)
  | l, 0, _, _ => by simp
  | [], k + 1, h, _ => by simp at h
  | y :: l, k + 1, h, g => by
    rw [putR, if_pos (g 0 y (by omega) rfl), Aa9 (l := l) (k := k) (by simpa using h) fun i z hi hz => g (i + 1) z (by omega) (by simpa using hz)]
    rfl
theorem putR_end {x : TFeedItem} {l : List TFeedItem} {k : Nat} (h : k ≤ l.length) (g : ∀ i y, i < k → l[i]? = some y → l23Ahead y x = true) (he : ∀ y, l[k]? = some y → l23Ahead x y = true) (hn : ∀ y, l[k]? = some y → l23Ahead y x = false) : putR l x = (l.take k ++ x :: l.drop k, true) := by
  rw [Aa9 h g]
  by_cases hk : k < l.length
  · obtain ⟨y, hy⟩ := get_some hk
    rw [drop_some hy, putR, if_neg (by rw [hn y hy]; decide), if_pos (he y hy)]
  · rw [List.drop_eq_nil_of_le (by omega)]; rfl
theorem BB3 {x y : TFeedItem} {l : List TFeedItem} {k : Nat} (h : k ≤ l.length) (g : ∀ i y, i < k → l[i]? = some y → l23Ahead y x = true) (hy : l[k]? = some y) (he : l23Ahead x y = false) (hn : l23Ahead y x = false) : putR l x = (l, decide (y = x)) := by
  rw [Aa9 h g, drop_some hy, putR, if_neg (by rw [hn]; decide), if_neg (by rw [he]; decide)]
  show (l.take k ++ (y :: l.drop (k + 1)), decide (y = x)) = _
  rw [← drop_some hy, List.take_append_drop]
theorem An9 (x : TFeedItem) : ∀ l : List TFeedItem, (putR l x).1.length ≤ l.length + 1
  | [] => Nat.le_refl _
  | y :: l => by
    have := An9 x l
    rw [putR]
    split
    · show (putR l x).1.length + 1 ≤ l.length + 1 + 1; omega
    · split
      · exact Nat.le_refl _
      · exact Nat.le_succ _
theorem At7 {x : TFeedItem} : ∀ {l : List TFeedItem}, Srt l → (putR l x).2 = true → Srt (putR l x).1 ∧ ∀ z, z ∈ (putR l x).1 ↔ z ∈ l ∨ z = x
  | [], _, _ => ⟨by unfold Srt putR; simp, fun z => by simp [putR]⟩
  | y :: l, h, g => by
    obtain ⟨k1, k2⟩ := List.pairwise_cons.1 h
    rw [putR] at g ⊢
    by_cases h1 : l23Ahead y x = true
    · rw [if_pos h1] at g ⊢
      obtain ⟨i1, i2⟩ := At7 k2 g
      refine ⟨List.pairwise_cons.2 ⟨fun z hz => ?_, i1⟩, fun z => ?_⟩
      · rcases (i2 z).1 hz with hz | rfl
        · exact k1 z hz
        · exact h1
      · show z ∈ y :: (putR l x).1 ↔ _
        rw [List.mem_cons, i2, List.mem_cons, or_assoc]
    · rw [if_neg h1] at g ⊢
      by_cases h2 : l23Ahead x y = true
      · rw [if_pos h2] at g ⊢
        refine ⟨List.pairwise_cons.2 ⟨fun z hz => ?_, h⟩, fun z => ?_⟩
        · rcases List.mem_cons.1 hz with rfl | hz
          · exact h2
          · exact n3 _ _ _ h2 (k1 z hz)
        · show z ∈ x :: y :: l ↔ _
          rw [List.mem_cons, or_comm]
      · rw [if_neg h2] at g ⊢
        have e : y = x := by simpa using g
        subst e
        refine ⟨h, fun z => ?_⟩
        show z ∈ y :: l ↔ _
        constructor
        · exact .inl
        · rintro (hz | rfl)
          · exact hz
          · exact List.mem_cons_self
theorem At8 {x : TFeedItem} : ∀ {l : List TFeedItem}, (putR l x).2 = false → ∃ y ∈ l, y ≠ x ∧ l23Ahead y x = false ∧ l23Ahead x y = false
  | [], g => by simp [putR] at g
  | y :: l, g => by
    rw [putR] at g
    by_cases h1 : l23Ahead y x = true
    · rw [if_pos h1] at g
      obtain ⟨z, z1, z2⟩ := At8 (l := l) g
      exact ⟨z, List.mem_cons_of_mem _ z1, z2⟩
    · rw [if_neg h1] at g
      by_cases h2 : l23Ahead x y = true
      · rw [if_pos h2] at g; cases g
      · rw [if_neg h2] at g
        exact ⟨y, List.mem_cons_self, by simpa using g, by simpa using h1, by simpa using h2⟩
end Go.M

namespace Go.Proofs
open Go.Shelf
def Tryz.sortItemsF_ren : Go.Shelf.Ren := ⟨fun | 6 => 63 | 15 => 102 | 14 => 101 | 28 => 157 | 29 => 158 | 20 => 149 | 21 => 150 | 22 => 151 | 23 => 152 | 24 => 153 | 25 => 154 | 26 => 155 | 27 => 156 | 46 => 193 | 47 => 194 | 48 => 195 | 49 => 196 | 50 => 197 | 57 => 222 | n => n, fun | 22 => 36 | 24 => 63 | 25 => 96 | 3 => 3 | 39 => 158 | 0 => 0 | 53 => 200 | 55 => 112 | 4 => 4 | 46 => 194 | 45 => 193 | 50 => 24 | 5 => 5 | 9 => 9 | 66 => 228 | 70 => 232 | 76 => 251 | 77 => 252 | n => n, fun | n => n⟩
theorem Tryz.sortItemsF : Go.Proofs.SlLaysF0.n6 Tryz.prog Tryz.sortItemsF_ren := {
  mixed := by kernel_rfl
  f6 := ⟨Tryz.f63.name, by decide, Tryz.func63.trans (congrArg some (by kernel_rfl))⟩
  f14 := ⟨Tryz.f101.name, by decide, Tryz.func101.trans (congrArg some (by kernel_rfl))⟩
  f15 := Tryz.func102.trans (congrArg some (by kernel_rfl))
  f20 := ⟨Tryz.f149.name, by decide, Tryz.func149.trans (congrArg some (by kernel_rfl))⟩
  f21 := ⟨Tryz.f150.name, by decide, Tryz.func150.trans (congrArg some (by kernel_rfl))⟩
  f22 := ⟨Tryz.f151.name, by decide, Tryz.func151.trans (congrArg some (by kernel_rfl))⟩
  f23 := ⟨Tryz.f152.name, by decide, Tryz.func152.trans (congrArg some (by kernel_rfl))⟩
  f24 := ⟨Tryz.f153.name, by decide, Tryz.func153.trans (congrArg some (by kernel_rfl))⟩
  f25 := ⟨Tryz.f154.name, by decide, Tryz.func154.trans (congrArg some (by kernel_rfl))⟩
  f26 := ⟨Tryz.f155.name, by decide, Tryz.func155.trans (congrArg some (by kernel_rfl))⟩
  f27 := ⟨Tryz.f156.name, by decide, Tryz.func156.trans (congrArg some (by kernel_rfl))⟩
  f28 := Tryz.func157.trans (congrArg some (by kernel_rfl))
  f29 := Tryz.func158.trans (congrArg some (by kernel_rfl))
  f46 := ⟨Tryz.f193.name, by decide, Tryz.func193.trans (congrArg some (by kernel_rfl))⟩
  f47 := Tryz.func194.trans (congrArg some (by kernel_rfl))
  f48 := Tryz.func195.trans (congrArg some (by kernel_rfl))
  f49 := ⟨Tryz.f196.name, by decide, Tryz.func196.trans (congrArg some (by kernel_rfl))⟩
  f50 := ⟨Tryz.f197.name, by decide, Tryz.func197.trans (congrArg some (by kernel_rfl))⟩
  f57 := ⟨Tryz.f222.name, by decide, Tryz.func222.trans (congrArg some (by kernel_rfl))⟩
  t0 := Tryz.underlying0
  a0 := Tryz.isAgg0
  z0 := Tryz.sizeOf0
  v0 := Tryz.zeroValue0
  t3 := P8
  a3 := C2
  z3 := B4
  v3 := Tryz.zeroValue3
  t4 := Y5
  a4 := K9
  z4 := J1
  v4 := Tryz.zeroValue4
  t5 := Tryz.underlying5
  a5 := Tryz.isAgg5
  z5 := Tryz.sizeOf5
  v5 := Tryz.zeroValue5
  t9 := M6
  a9 := F7
  z9 := E5
  v9 := Tryz.zeroValue9
  t22 := I6
  a22 := Tryz.isAgg36
  z22 := Tryz.sizeOf36
  v22 := Tryz.zeroValue36
  t25 := Tryz.underlying96
  a25 := Tryz.isAgg96
  z25 := Tryz.sizeOf96
  v25 := Tryz.zeroValue96
  t39 := Tryz.underlying158
  a39 := Tryz.isAgg158
  z39 := Tryz.sizeOf158
  v39 := Tryz.zeroValue158
  t45 := Tryz.underlying193
  a45 := Tryz.isAgg193
  z45 := Tryz.sizeOf193
  v45 := Tryz.zeroValue193
  t46 := Tryz.underlying194
  a46 := Tryz.isAgg194
  z46 := Tryz.sizeOf194
  v46 := Tryz.zeroValue194
  t50 := Tryz.underlying24
  a50 := Tryz.isAgg24
  z50 := Tryz.sizeOf24
  v50 := Tryz.zeroValue24
  t53 := Tryz.underlying200
  a53 := Tryz.isAgg200
  z53 := Tryz.sizeOf200
  v53 := Tryz.zeroValue200
  t55 := Tryz.underlying112
  a55 := g9
  z55 := W3
  v55 := Tryz.zeroValue112
  t66 := Tryz.underlying228
  a66 := Tryz.isAgg228
  z66 := Tryz.sizeOf228
  v66 := Tryz.zeroValue228
  t70 := Tryz.underlying232
  a70 := Tryz.isAgg232
  z70 := Tryz.sizeOf232
  v70 := Tryz.zeroValue232
  t76 := Tryz.underlying251
  a76 := Tryz.isAgg251
  z76 := Tryz.sizeOf251
  v76 := Tryz.zeroValue251
  t77 := Tryz.underlying252
  a77 := Tryz.isAgg252
  z77 := Tryz.sizeOf252
  v77 := Tryz.zeroValue252 }
end Go.Proofs

namespace Go.AV
open Go.Sort Go.Shelf Go.Proofs
theorem AX7 {α : Type} {k : Nat} (hk0 : 0 < k) {enc : α → List Value} (hk : ∀ x, (enc x).length = k) : ∀ (l : List α) (t : Nat), ((l.map enc).flatten)[t]? = (l[t / k]?).bind fun x => (enc x)[t % k]?
  | [], t => by simp
  | x :: l, t => by
    rw [List.map_cons, List.flatten_cons]
    by_cases ht : t < k
    · rw [List.getElem?_append_left (by rw [hk]; exact ht), Nat.div_eq_of_lt ht, Nat.mod_eq_of_lt ht]; rfl
    · rw [List.getElem?_append_right (by rw [hk]; omega), hk, AX7 hk0 hk l (t - k)]
      have h1 : t / k = (t - k) / k + 1 := Nat.div_eq_sub_div hk0 (by omega)
      have h2 : t % k = (t - k) % k := Nat.mod_eq_sub_mod (by omega)
      rw [h1, h2, S1]
theorem r7 {α : Type} {k : Nat} {enc : α → List Value} (hk : ∀ x, (enc x).length = k) : ∀ l : List α, ((l.map enc).flatten).length = l.length * k
  | [] => by simp
  | x :: l => by rw [List.map_cons, List.flatten_cons, H5, hk, r7 hk l, I5, Nat.succ_mul]; omega
theorem AX8 {α : Type} [Inhabited α] {k : Nat} (hk0 : 0 < k) {enc : α → List Value} (hk : ∀ x, (enc x).length = k) (l : List α) : flatK enc k l.toArray = ((l.map enc).flatten).toArray := by
  apply Array.ext
  · rw [size_flatK]; simp only [List.size_toArray]; rw [r7 hk]
  · intro t h1 h2
    rw [size_flatK] at h1
    simp only [List.size_toArray] at h1 h2
    have e1 := get_flatK enc k l.toArray t (by simpa using h1)
    have hd : t / k < l.length := (Nat.div_lt_iff_lt_mul hk0).2 h1
    have e2 := AX7 hk0 hk l t
    rw [List.getElem?_eq_getElem hd] at e2
    have hm : t % k < (enc l[t / k]).length := by rw [hk]; exact Nat.mod_lt _ hk0
    rw [Option.bind_some, List.getElem?_eq_getElem hm] at e2
    rw [getElem!_pos _ t (by rw [size_flatK]; simpa using h1)] at e1
    rw [e1]
    have e3 : l.toArray[t / k]! = l[t / k] := by rw [getElem!_pos _ _ (by simpa using hd)]; simp
    have e5 : (enc l[t / k])[t % k]! = (enc l[t / k])[t % k] := getElem!_pos (enc l[t / k]) (t % k) hm
    rw [e3, e5]
    have e4 : ((l.map enc).flatten).toArray[t] = ((l.map enc).flatten)[t] := by simp
    rw [e4]
    rw [List.getElem?_eq_getElem h2] at e2
    injection e2 with e2; exact e2.symm
section
variable {P : Program} {f : FuncId} {t : TypeId} {α : Type} [Inhabited α]
theorem row_ownK (k : Nat) (hk0 : 0 < k) (enc : α → List Value) (hk : ∀ x, (enc x).length = k) (h1c : ∀ x, ∀ v ∈ enc x, v.oneCell' = true) (c : α → List AV) (hc : ∀ x, c x = (enc x).map AV.is) (fv : Value) (Post : List α → List α → Prop) (hlen : ∀ l l', Post l l' → l'.length = l.length)
    (v : Value) (l : List α) (hl : l.length < 4611686018427387904) (hnil : l = [] → Post [] [])
    (h1 : ∀ (blk cap : Nat) (w : World), HoldsK enc k w blk 0 l.toArray → blk < w.heap.size →
      Calls P f #[.slice (some ⟨blk, 0, none⟩) l.length cap, fv] w fun e w' => e = .returned (.tuple #[]) ∧ ∃ (l' : List α) (n : Nat) (os : Array Obj), Post l l' ∧ w' = sortWorldK enc k w blk 0 n l'.toArray os)
    (h0 : ∀ (p : Option Addr) (cap : Nat) (w : World), Calls P f #[.slice p 0 cap, fv] w fun e w' => e = .returned (.tuple #[]) ∧ w' = w) :
    GSpec P f [AV.is v, AV.is fv] [.arr v t k (l.map c)] (fun l' => Post l l') (fun l' => [.arr v t k (l'.map c)]) (fun _ => AV.tup []) := by
  intro R w vs hr hd hok hnd
  have hvs : vs = [v, fv] := by
    obtain ⟨hlen, hval⟩ := hd
    match vs, hlen, hval with
    | [a, b], _, hval => rw [show a = v from hval 0 a (AV.is v) rfl rfl, show b = fv from hval 1 b (AV.is fv) rfl rfl]
  subst hvs
  have ho := hok _ (List.mem_singleton.2 rfl)
  obtain ⟨hR, hsz, xs, hown, hden⟩ := ho
  have hxs : xs = (l.map enc).flatten := by
    rw [At1 hc] at hden
    exact As9 hden
  rw [A9] at hown
  rcases hown.2 with ⟨hv, hn⟩ | ⟨g, cap, cur, hv, _, hg, hnc, hcm, hcs, htk⟩
  · have hl0 : l = [] := List.length_eq_zero_iff.1 hn
    subst hv; subst hl0
    refine (h0 none 0 w).mono ?_
    rintro e w' ⟨rfl, rfl⟩
    exact ⟨[], _, R, hnil rfl, rfl, ⟨[], rfl, DenV.nil _⟩, Ae7 hr (hok _ (List.mem_singleton.2 rfl))⟩
  · subst hv
    have hgl : g < w.heap.size := (Array.getElem?_eq_some_iff.1 hg).1
    have hfl := AX8 hk0 hk l
    have hfs := r7 hk l
    have hH : HoldsK enc k w g 0 l.toArray := fun j hj => by
      rw [size_flatK] at hj
      have hj' : j < ((l.map enc).flatten).length := by rw [hfs]; simpa using hj
      have h9 : cur.toList[j]? = some ((l.map enc).flatten)[j] := by
        rw [← List.getElem?_take_of_lt (by rw [hfs] at hj'; exact hj'), htk, hxs, List.getElem?_eq_getElem hj']
      refine ⟨?_, by simp [World.frozen?, hg]⟩
      simp only [World.cell?, hg, Nat.zero_add]
      simp only [Option.isSome_none, Bool.false_eq_true, if_false]
      rw [← Array.getElem?_toList, h9, hfl]
      refine congrArg some ?_
      show _ = ((l.map enc).flatten).toArray[j]!
      rw [getElem!_pos _ j (by simpa using hj')]
      simp
    refine (h1 g cap w hH hgl).mono ?_
    rintro e w' ⟨rfl, l', n, os, hp, rfl⟩
    have hll := hlen l l' hp
    have hfl' := AX8 hk0 hk l'
    have hfs' := r7 hk l'
    refine ⟨l', _, R, hp, rfl, ⟨[], rfl, DenV.nil _⟩, ?_⟩
    have hgb : w.grownBy (sortWorldK enc k w g 0 n l'.toArray os) (some g) := by
      refine ⟨rfl, rfl, rfl, by simp [sortWorldK, putRowK], fun q hq hne => ?_⟩
      unfold sortWorldK
      rw [heap_grow_old _ _ (by simpa [putRowK] using hq)]
      have h9 : g ≠ q := fun e => hne (by rw [e])
      simp [putRowK, putRow, mapBlock, Sort.ahead, Array.getElem?_modify, h9]
    have hheap : (sortWorldK enc k w g 0 n l'.toArray os).heap[g]? = some (.cells (putCells id 0 ((l'.map enc).flatten).toArray cur) t (0, 0)) := by
      unfold sortWorldK
      rw [heap_grow_old _ _ (by simpa [putRowK] using hgl)]
      simp [putRowK, putRow, mapBlock, Sort.ahead, Array.getElem?_modify, hg, onCells, hfl']
    refine Am0 (g := g) (xs := (l'.map enc).flatten) rfl hr (hR g rfl) hgb ?_ ?_ ?_
    · rw [A9, hll]
      refine ⟨by rw [hfs', hll], .inr ⟨g, cap, _, rfl, Nat.zero_le _, hheap, hnc, hcm, by simp [putCells, hcs], ?_⟩⟩
      apply List.ext_getElem?
      intro j
      by_cases hj : j < l.length * k
      · rw [List.getElem?_take_of_lt (by omega), Array.getElem?_toList]
        have h8 : j < ((l'.map enc).flatten).length := by rw [hfs', hll]; exact hj
        have h7 : j < cur.size := by
          have := congrArg List.length htk
          have h6 : cur.toList.length = cur.size := Array.length_toList
          rw [E4, hxs, hfs] at this; omega
        simp only [putCells, Array.getElem?_mapIdx, Array.getElem?_eq_getElem h7, Option.map_some, Nat.zero_le, true_and, Nat.zero_add, List.size_toArray, h8, if_true, Nat.sub_zero]
        rw [getElem!_pos _ j (by simpa using h8), List.getElem?_eq_getElem h8]; simp
      · rw [List.getElem?_take_eq_none (by omega), List.getElem?_eq_none (by rw [hfs', hll]; omega)]
    · rw [At1 hc]
      exact At0 fun y hy => by
        obtain ⟨m, hm, hy⟩ := List.mem_flatten.1 hy
        obtain ⟨x, _, rfl⟩ := List.mem_map.1 hm
        exact h1c x y hy
    · intro e he; obtain ⟨x, _, rfl⟩ := List.mem_map.1 he; rw [hc, A9, hk]
end
end Go.AV
namespace Go.Proofs.YtkegepoihkhihaaGreat
open Go Go.AV Go.M
open Go.Sort Go.Shelf Go.Proofs
theorem AB0 (x y : TFeedItem) : ltOf M.compareItems x y = l23Ahead x y := congrFun (congrFun lt_ahead x) y
theorem BB4 : SWO (ltOf M.compareItems) where
  irrefl x := by rw [AB0]; exact y8 x
  trans x y z h1 h2 := by rw [AB0] at *; exact n3 _ _ _ h1 h2
  ntrans x y z h1 h2 := by rw [AB0] at *; exact BB2.ntr z y x h2 h1
theorem BB5 {l : List TFeedItem} {d : Array TFeedItem} (h : PermIn 0 l.toArray.size l.toArray d) : d.toList.Perm l := by
  obtain ⟨h1, _, h3⟩ := h
  have e1 : d.extract 0 l.toArray.size = d := by rw [← h1]; simp
  have e2 : l.toArray.extract 0 l.toArray.size = l.toArray := by simp
  rw [e1, e2] at h3
  simpa using h3
theorem Aq8 {l : List TFeedItem} {d : Array TFeedItem} (hs : d.size = l.toArray.size) (h : SortedIn (ltOf M.compareItems) 0 l.toArray.size d) : SortedOn l23Ahead d.toList 0 d.toList.length := by
  intro i j x y _ hij hj hx hy
  have hj2 : j < d.size := by simpa using hj
  have h9 := h i j (Nat.zero_le _) hij (by rw [← hs]; exact hj2)
  rw [AB0, getElem!_pos d i (by omega), getElem!_pos d j hj2] at h9
  rw [Array.getElem?_toList, Array.getElem?_eq_getElem (by omega)] at hx
  rw [Array.getElem?_toList, Array.getElem?_eq_getElem hj2] at hy
  injection hx with hx; injection hy with hy
  rw [← hx, ← hy]; exact h9
theorem Ab0 (v : Value) (l : List TFeedItem) (hl : l.length ≤ 1048576) : GSpec Tryz.prog 63 [AV.is v, AV.fn 64] [.arr v 63 5 (l.map TFeedItem.cs)]
    (fun l' : List TFeedItem => l'.Perm l ∧ SortedOn l23Ahead l' 0 l'.length) (fun l' => [.arr v 63 5 (l'.map TFeedItem.cs)]) (fun _ => AV.tup []) :=
  row_ownK 5 (by decide) encItem (fun _ => rfl) (fun x v hv => by
      simp only [encItem, List.mem_cons, List.not_mem_nil, or_false] at hv
      rcases hv with rfl | rfl | rfl | rfl | rfl <;> rfl) TFeedItem.cs (fun _ => rfl) (.func (.func 64) #[] #[]) (fun l l' => l'.Perm l ∧ SortedOn l23Ahead l' 0 l'.length) (fun l l' h => h.1.length_eq) v l (by omega)
    (fun _ => ⟨List.Perm.refl _, fun i j x y _ _ hj => by simp at hj⟩)
    (fun blk cap w hH hblk => by
      have eg : ∀ args w, (callFunc 64 args).run Tryz.prog w = .ok (.enter 64 args) w := enters_of Tryz.func64 (by kernel_rfl) rfl
      have hcon := AnyQ.slices_SortFunc Tryz.sortItemsF 5 U1 L3 encItem (fun _ => rfl) (fun x v hv => by
        simp only [encItem, List.mem_cons, List.not_mem_nil, or_false] at hv
        rcases hv with rfl | rfl | rfl | rfl | rfl <;> rfl) M.compareItems BB4 64 #[] blk 0 cap l.toArray w eg (fun _ _ _ _ x y => AN4 x y _) hH hblk (by simp; omega)
      refine Calls.mono (show Calls Tryz.prog 63 _ _ _ from hcon) ?_
      rintro e w' ⟨rfl, d', n, os, hp, hs, rfl⟩
      exact ⟨rfl, d'.toList, n, os, ⟨BB5 hp, Aq8 hp.1 hs⟩, rfl⟩)
    (fun p cap w => AnyF.slices_SortFunc_none { Tryz.sortItemsF with } p cap _ w)
end Go.Proofs.YtkegepoihkhihaaGreat

namespace Go.M
open Go.AV
def inTime (a u : Int) (v : TVer) : Bool := decide (a < v.Time) && decide (v.Time ≤ u)
def itemOf (g : Int) (k : Str) (v : TVer) : TFeedItem := ⟨v.Time, g, k, v.Val, v.Gone⟩
def cellItems (g a u : Int) (c : TCell) : List TFeedItem := (c.Vers.filter (inTime a u)).map (itemOf g c.Key)
def rawItems (l : List TCell) (g a u : Int) : List TFeedItem := (l.map (cellItems g a u)).flatten
def Cmb (x y : TFeedItem) : Prop := l23Ahead x y = true ∨ l23Ahead y x = true
def Dist (l : List TFeedItem) : Prop := l.Pairwise Cmb
theorem Cmb.symm {x y : TFeedItem} (h : Cmb x y) : Cmb y x := Or.symm h
theorem cmb_ne {x y : TFeedItem} (h : Cmb x y) : x ≠ y := fun e => by
  subst e
  rcases h with h | h <;> (rw [y8] at h; cases h)
theorem cmb_of {x y : TFeedItem} (h : ¬ sameKey x y) : Cmb x y := by
  rcases Af6 x y with k | k | k
  · exact .inl k
  · exact (h k).elim
  · exact .inr k
theorem AX9 {l : List TFeedItem} (h : Dist l) : l.Nodup := h.imp fun {a b} hab => cmb_ne hab
theorem srt_dist {l : List TFeedItem} (h : Srt l) : Dist l := h.imp fun {a b} hab => .inl hab
def insAll (o : List TFeedItem) (l : List TFeedItem) : List TFeedItem := l.foldl (fun o x => (putR o x).1) o
def feedIn (l : List TCell) (g a u : Int) : List TFeedItem := insAll [] (rawItems l g a u)
theorem n7 {g a u : Int} {c : TCell} {x : TFeedItem} : x ∈ cellItems g a u c ↔ ∃ v ∈ c.Vers, (a < v.Time ∧ v.Time ≤ u) ∧ x = itemOf g c.Key v := by
  unfold cellItems inTime
  simp only [List.mem_map, List.mem_filter, Bool.and_eq_true, decide_eq_true_eq]
  constructor
  · rintro ⟨v, ⟨h1, h2⟩, rfl⟩; exact ⟨v, h1, h2, rfl⟩
  · rintro ⟨v, h1, h2, rfl⟩; exact ⟨v, ⟨h1, h2⟩, rfl⟩
theorem r8 {l : List TCell} {g a u : Int} {x : TFeedItem} : x ∈ rawItems l g a u ↔ ∃ c ∈ l, ∃ v ∈ c.Vers, (a < v.Time ∧ v.Time ≤ u) ∧ x = itemOf g c.Key v := by
  unfold rawItems
  simp only [List.mem_flatten, List.mem_map]
  constructor
  · rintro ⟨_, ⟨c, hc, rfl⟩, hx⟩; exact ⟨c, hc, n7.1 hx⟩
  · rintro ⟨c, hc, hx⟩; exact ⟨_, ⟨c, hc, rfl⟩, n7.2 hx⟩
theorem AT9 {l : List TCell} (ha : adj cLess l = true) (hv : ∀ c ∈ l, adj verLess c.Vers = true) (g a u : Int) : Dist (rawItems l g a u) := by
  unfold Dist rawItems
  rw [List.pairwise_flatten, List.pairwise_map]
  refine ⟨fun m hm => ?_, ((c9 W0).1 ha).imp fun {c d} hcd x hx y hy => ?_⟩
  · obtain ⟨c, hc, rfl⟩ := List.mem_map.1 hm
    unfold cellItems
    rw [List.pairwise_map]
    refine (List.Pairwise.sublist List.filter_sublist ((c9 n5).1 (hv c hc))).imp fun {v w} hvw => cmb_of fun hs => ?_
    have := hs.1
    unfold verLess at hvw
    have := of_decide_eq_true hvw
    unfold itemOf at hs
    have := hs.1
    dsimp only at this
    omega
  · obtain ⟨v, _, _, rfl⟩ := n7.1 hx
    obtain ⟨w, _, _, rfl⟩ := n7.1 hy
    refine cmb_of fun hs => ?_
    have h2 : c.Key = d.Key := hs.2.2
    unfold cLess at hcd
    rw [h2, L0] at hcd; cases hcd
theorem Af7 : ∀ {l o : List TFeedItem}, Srt o → (∀ x ∈ l, ∀ y ∈ o, Cmb x y) → Dist l → Srt (insAll o l) ∧ ∀ z, z ∈ insAll o l ↔ z ∈ o ∨ z ∈ l
  | [], o, h, _, _ => ⟨h, fun z => by unfold insAll; simp⟩
  | x :: l, o, h, hc, hd => by
    obtain ⟨d1, d2⟩ := List.pairwise_cons.1 hd
    have hp : (putR o x).2 = true := by
      cases e : (putR o x).2 with
      | true => rfl
      | false =>
        obtain ⟨y, hy, _, h3, h4⟩ := At8 e
        rcases hc x List.mem_cons_self y hy with k | k
        · rw [h4] at k; cases k
        · rw [h3] at k; cases k
    obtain ⟨p1, p2⟩ := At7 h hp
    obtain ⟨i1, i2⟩ := Af7 (l := l) (o := (putR o x).1) p1 (fun z hz y hy => by
      rcases (p2 y).1 hy with hy | rfl
      · exact hc z (List.mem_cons_of_mem _ hz) y hy
      · exact (d1 z hz).symm) d2
    refine ⟨i1, fun z => ?_⟩
    show z ∈ insAll (putR o x).1 l ↔ _
    rw [i2, p2, List.mem_cons, or_assoc]
theorem i5 {l : List TCell} (ha : adj cLess l = true) (hv : ∀ c ∈ l, adj verLess c.Vers = true) (g a u : Int) : Srt (feedIn l g a u) ∧ ∀ z, z ∈ feedIn l g a u ↔ z ∈ rawItems l g a u := by
  obtain ⟨h1, h2⟩ := Af7 (l := rawItems l g a u) (o := []) List.Pairwise.nil (fun _ _ y hy => by cases hy) (AT9 ha hv g a u)
  exact ⟨h1, fun z => by unfold feedIn; rw [h2]; simp⟩
theorem BB6 {a b : List TFeedItem} (ha : a.Nodup) (hb : b.Nodup) (h : ∀ z, z ∈ a ↔ z ∈ b) : a.length = b.length :=
  Nat.le_antisymm (AH9 ha fun x hx => (h x).1 hx) (AH9 hb fun x hx => (h x).2 hx)
theorem Ax5 {l : List TCell} (ha : adj cLess l = true) (hv : ∀ c ∈ l, adj verLess c.Vers = true) (g a u : Int) : (feedIn l g a u).length = (rawItems l g a u).length :=
  BB6 (AX9 (srt_dist (i5 ha hv g a u).1)) (AX9 (AT9 ha hv g a u)) (i5 ha hv g a u).2
theorem Ax6 {l l' : List TFeedItem} (hp : l'.Perm l) (hd : Dist l) (hs : SortedOn l23Ahead l' 0 l'.length) : Srt l' := by
  have hd2 : Dist l' := (hp.pairwise_iff (fun {x y} h => Cmb.symm h)).2 hd
  unfold Srt
  rw [List.pairwise_iff_getElem]
  intro i j hi hj hij
  rcases List.pairwise_iff_getElem.1 hd2 i j hi hj hij with h | h
  · exact h
  · have := hs i j _ _ (Nat.zero_le _) hij hj (List.getElem?_eq_getElem hi) (List.getElem?_eq_getElem hj)
    rw [h] at this; cases this
theorem BB7 {l : List TCell} (ha : adj cLess l = true) (hv : ∀ c ∈ l, adj verLess c.Vers = true) {g a u : Int} {l' : List TFeedItem} (hp : l'.Perm (rawItems l g a u)) (hs : SortedOn l23Ahead l' 0 l'.length) : l' = feedIn l g a u :=
  Aa8 (Ax6 hp (AT9 ha hv g a u) hs) (i5 ha hv g a u).1 fun z => by rw [hp.mem_iff, (i5 ha hv g a u).2]
theorem p6 {l : List TCell} (h : goodCells l = true) : adj cLess l = true ∧ ∀ c ∈ l, adj verLess c.Vers = true := ⟨(Q8 h).2.1, fun c hc => ((Q8 h).2.2 c hc).2.2.2.1⟩
theorem Ab1 : ∀ {l : List TCell} {g a u : Int}, (∀ c ∈ l, c.Vers.length ≤ 16) → (rawItems l g a u).length ≤ 16 * l.length
  | [], g, a, u, _ => by unfold rawItems; simp
  | c :: l, g, a, u, h => by
    have ih := Ab1 (g := g) (a := a) (u := u) fun d hd => h d (List.mem_cons_of_mem _ hd)
    have h1 := h c List.mem_cons_self
    unfold rawItems at ih ⊢
    rw [List.map_cons, List.flatten_cons, H5, I5]
    have h2 : (cellItems g a u c).length ≤ c.Vers.length := by unfold cellItems; rw [A9]; exact List.length_filter_le _ _
    omega
theorem w6 {l : List TCell} (h : goodCells l = true) {g : Int} (hg : isGroup g = true) (a u : Int) : l23Feed (feedIn l g a u) = true ∧ (feedIn l g a u).length ≤ 384 ∧ (feedIn l g a u).length = (rawItems l g a u).length := by
  obtain ⟨f1, f2, f3⟩ := Q8 h
  obtain ⟨c1, c2⟩ := p6 h
  obtain ⟨k1, k2⟩ := i5 c1 c2 g a u
  have hl := Ax5 c1 c2 g a u
  have hr := Ab1 (g := g) (a := a) (u := u) fun c hc => (f3 c hc).2.2.1
  refine ⟨(AR2 _).2 ⟨fun x hx => ?_, k1, by omega⟩, by omega, hl⟩
  obtain ⟨c, hc, v, hv, _, rfl⟩ := r8.1 ((k2 x).1 hx)
  have h1 := (f3 c hc).1
  have h2 := (f3 c hc).2.2.2.2 v hv
  rw [← AE3]
  unfold goodItem itemOf
  unfold verGood at h2
  simp only [Bool.and_eq_true] at h2 ⊢
  exact ⟨⟨⟨h2.1, hg⟩, h1⟩, h2.2⟩
theorem AC3 {l : List TCell} (h : goodCells l = true) {g a u : Int} {x : TFeedItem} (hx : x ∈ feedIn l g a u) : x.Group = g ∧ a < x.Time ∧ x.Time ≤ u := by
  obtain ⟨c1, c2⟩ := p6 h
  obtain ⟨c, hc, v, hv, ht, rfl⟩ := r8.1 (((i5 c1 c2 g a u).2 x).1 hx)
  exact ⟨rfl, ht⟩
def allItems (a u : Int) : Nat → List TState → List TFeedItem
  | _, [] => []
  | i, s :: l => feedIn s.Cells i a u ++ allItems a u (i + 1) l
end Go.M

namespace Go.M
open Go.AV
theorem Ao0 {α : Type} {r : α → α → Prop} (asym : ∀ x y, r x y → ¬ r y x) : ∀ {a b : List α}, a.Pairwise r → b.Pairwise r → (∀ x, x ∈ a ↔ x ∈ b) → a = b
  | [], [], _, _, _ => rfl
  | [], y :: b, _, _, h => by have := (h y).2 List.mem_cons_self; cases this
  | x :: a, [], _, _, h => by have := (h x).1 List.mem_cons_self; cases this
  | x :: a, y :: b, ha, hb, h => by
    obtain ⟨a1, a2⟩ := List.pairwise_cons.1 ha
    obtain ⟨b1, b2⟩ := List.pairwise_cons.1 hb
    have hxy : x = y := by
      rcases List.mem_cons.1 ((h x).1 List.mem_cons_self) with e | e
      · exact e
      · rcases List.mem_cons.1 ((h y).2 List.mem_cons_self) with e2 | e2
        · exact e2.symm
        · exact (asym _ _ (a1 y e2) (b1 x e)).elim
    subst hxy
    congr 1
    refine Ao0 asym a2 b2 fun z => ⟨fun hz => ?_, fun hz => ?_⟩
    · rcases List.mem_cons.1 ((h z).1 (List.mem_cons_of_mem _ hz)) with e | e
      · subst e; exact (asym _ _ (a1 z hz) (a1 z hz)).elim
      · exact e
    · rcases List.mem_cons.1 ((h z).2 (List.mem_cons_of_mem _ hz)) with e | e
      · subst e; exact (asym _ _ (b1 z hz) (b1 z hz)).elim
      · exact e
def verI (x : TFeedItem) : TVer := ⟨x.Time, x.Val, x.Gone⟩
def ofKey (l : List TFeedItem) (k : Str) : List TFeedItem := l.filter fun x => x.Key == k
theorem ver_time {v : TVer} (h : verGood v = true) : 1 ≤ v.Time ∧ v.Time ≤ 100000 := by
  unfold verGood isTime within at h
  simp only [Bool.and_eq_true, decide_eq_true_eq] at h
  exact h.1
theorem Ax7 {l : List TCell} {k : Str} {v : TVer} (h : v ∈ versOf l k) : ∃ c ∈ l, c.Key = k ∧ v ∈ c.Vers := by
  unfold versOf at h
  cases e : findC l k with
  | none => rw [e] at h; cases h
  | some c =>
    rw [e] at h
    exact ⟨c, (m0 e).1, (m0 e).2, h⟩
theorem AF5 {l : List TCell} (ha : adj cLess l = true) {c : TCell} (hc : c ∈ l) : versOf l c.Key = c.Vers := by
  obtain ⟨i, hi⟩ := List.getElem?_of_mem hc
  unfold versOf; rw [Ak8 ha hi]
theorem feed_key {l : List TCell} (h : goodCells l = true) (g : Int) (k : Str) : ofKey (feedIn l g 0 100000) k = (versOf l k).map (itemOf g k) := by
  obtain ⟨c1, c2⟩ := p6 h
  obtain ⟨_, _, f3⟩ := Q8 h
  obtain ⟨k1, k2⟩ := i5 c1 c2 g 0 100000
  refine Aa8 (List.Pairwise.sublist List.filter_sublist k1) ?_ fun z => ?_
  · unfold Srt
    rw [List.pairwise_map]
    have hp : (versOf l k).Pairwise fun a b => verLess a b = true := by
      unfold versOf
      cases e : findC l k with
      | none => exact List.Pairwise.nil
      | some c => exact (c9 n5).1 (c2 c (m0 e).1)
    refine hp.imp fun {v w} hvw => ?_
    unfold verLess at hvw
    have hlt := of_decide_eq_true hvw
    unfold l23Ahead itemOf
    dsimp only
    rw [if_pos (by omega)]
    simpa using hlt
  · unfold ofKey
    rw [List.mem_filter, k2, r8, List.mem_map]
    constructor
    · rintro ⟨⟨c, hc, v, hv, ht, rfl⟩, hk⟩
      have hk2 : c.Key = k := by simpa [itemOf] using hk
      subst hk2
      exact ⟨v, by rw [AF5 c1 hc]; exact hv, rfl⟩
    · rintro ⟨v, hv, rfl⟩
      obtain ⟨c, hc, e, hv2⟩ := Ax7 hv
      have ht := ver_time ((f3 c hc).2.2.2.2 v hv2)
      exact ⟨⟨c, hc, v, hv2, ⟨by omega, ht.2⟩, by rw [e]⟩, by simp [itemOf]⟩
theorem BB8 {a b : List TCell} (ha : adj cLess a = true) (hb : adj cLess b = true) (na : ∀ c ∈ a, 1 ≤ c.Vers.length) (nb : ∀ c ∈ b, 1 ≤ c.Vers.length) (h : ∀ k, versOf a k = versOf b k) : a = b := by
  have key : ∀ {a b : List TCell}, adj cLess a = true → (∀ c ∈ a, 1 ≤ c.Vers.length) → (∀ k, versOf a k = versOf b k) → ∀ c ∈ a, c ∈ b := by
    intro a b ha na h c hc
    have h1 := AF5 ha hc
    have h2 := na c hc
    have h3 := h c.Key
    rw [h1] at h3
    unfold versOf at h3
    cases e : findC b c.Key with
    | none => rw [e] at h3; rw [h3] at h2; simp at h2
    | some d =>
      rw [e] at h3
      obtain ⟨d1, d2⟩ := m0 e
      have : c = d := by cases c; cases d; simp_all
      rw [this]; exact d1
  refine Ao0 (r := fun x y => cLess x y = true) (fun x y h1 h2 => ?_) ((c9 W0).1 ha) ((c9 W0).1 hb) fun c => ⟨key ha na h c, key hb nb (fun k => (h k).symm) c⟩
  have h3 := W0 _ _ _ h1 h2
  unfold cLess at h3
  rw [L0] at h3; cases h3
theorem Af8 (a b : List TFeedItem) (k : Str) : ofKey (a ++ b) k = ofKey a k ++ ofKey b k := List.filter_append ..
theorem feed_all {cs : List TCell} (h : goodCells cs = true) (g : Int) : ∀ (r p : List TFeedItem) (q : List TCell), p ++ r = feedIn cs g 0 100000 → adj cLess q = true → (∀ c ∈ q, 1 ≤ c.Vers.length) → (∀ k, versOf q k = (ofKey p k).map verI) → feedAll q g r = some cs := by
  obtain ⟨c1, c2⟩ := p6 h
  obtain ⟨f1, _, f3⟩ := Q8 h
  obtain ⟨k1, k2⟩ := i5 c1 c2 g 0 100000
  have hfull : ∀ k, (ofKey (feedIn cs g 0 100000) k).map verI = versOf cs k := fun k => by
    rw [feed_key h, List.map_map]
    have : (verI ∘ itemOf g k) = id := by funext v; cases v; rfl
    rw [this, List.map_id]
  intro r
  induction r with
  | nil =>
    intro p q e ha hn hv
    rw [List.append_nil] at e
    unfold feedAll
    refine congrArg some (BB8 ha c1 hn (fun c hc => (f3 c hc).2.1) fun k => ?_)
    rw [hv, e, hfull]
  | cons x r ih =>
    intro p q e ha hn hv
    have hxm : x ∈ feedIn cs g 0 100000 := by rw [← e]; simp
    have hxg := (AC3 h hxm).1
    obtain ⟨c, hc, v, hvv, ht, rfl⟩ := r8.1 ((k2 x).1 hxm)
    have hxk : (itemOf g c.Key v).Key = c.Key := rfl
    have e2 : (p ++ [itemOf g c.Key v]) ++ r = feedIn cs g 0 100000 := by rw [← e]; simp
    have hpre : ∀ k, ((ofKey (p ++ [itemOf g c.Key v]) k).map verI) <+: versOf cs k := fun k => by
      rw [← hfull k, ← e2, Af8 (p ++ [itemOf g c.Key v]) r, List.map_append]
      exact List.prefix_append _ _
    have hlast : lastTime q c.Key < v.Time := by
      cases el : (versOf q c.Key).getLast? with
      | none =>
        have hnil : versOf q c.Key = [] := List.getLast?_eq_none_iff.1 el
        have : lastTime q c.Key = 0 := by
          unfold lastTime
          unfold versOf at hnil
          cases ef : findC q c.Key with
          | none => rfl
          | some d => rw [ef] at hnil; dsimp only at hnil; have := hn d (m0 ef).1; rw [hnil] at this; simp at this
        rw [this]; exact ht.1
      | some u =>
        rw [Aq0 el]
        have hu : u ∈ versOf q c.Key := List.mem_of_getLast? el
        rw [hv] at hu
        obtain ⟨y, hy, rfl⟩ := List.mem_map.1 hu
        unfold ofKey at hy
        obtain ⟨hyp, hyk⟩ := List.mem_filter.1 hy
        have hyk2 : y.Key = c.Key := by simpa using hyk
        have hyg := (AC3 h (show y ∈ feedIn cs g 0 100000 by rw [← e]; exact List.mem_append_left _ hyp)).1
        unfold Srt at k1
        rw [← e] at k1
        have h9 := (List.pairwise_append.1 k1).2.2 y hyp _ List.mem_cons_self
        unfold l23Ahead at h9
        show y.Time < v.Time
        by_cases h8 : y.Time = (itemOf g c.Key v).Time
        · rw [if_neg (by omega)] at h9
          rw [if_neg (by rw [hyg]; simp [itemOf])] at h9
          rw [hyk2, hxk, L0] at h9; cases h9
        · rw [if_pos h8] at h9
          exact of_decide_eq_true h9
    have hput : putAll q (wOf (itemOf g c.Key v)) v.Time = some (insC q c.Key v) := by
      unfold wOf putAll
      rw [if_neg (by intro hd; have h9 := of_decide_eq_true hd; have h8 : (itemOf g c.Key v).Key = c.Key := rfl; dsimp only at h9; rw [h8] at h9; omega)]
      rfl
    have hq2 := AS8 c.Key v ha
    have hn2 := AL4 c.Key v hn
    have hv2 : ∀ k, versOf (insC q c.Key v) k = (ofKey (p ++ [itemOf g c.Key v]) k).map verI := fun k => by
      rw [Af8, List.map_append, ← hv k]
      by_cases hk : k = c.Key
      · subst hk
        have h9 := Al6 (k := c.Key) (v := v) ha
        unfold versOf at h9 ⊢
        rw [h9]
        dsimp only
        unfold ofKey
        simp [itemOf, verI]
      · unfold versOf
        rw [AG3 hk]
        unfold ofKey
        rw [List.filter_cons_of_neg (by simp [itemOf]; exact fun e => hk e.symm)]
        simp
    have hgood : goodCells (insC q c.Key v) = true := by
      have hcell : ∀ d ∈ insC q c.Key v, ∃ d' ∈ cs, d'.Key = d.Key ∧ d.Vers <+: d'.Vers := fun d hd => by
        have h9 := AF5 hq2 hd
        rw [hv2] at h9
        have h8 := hpre d.Key
        rw [h9] at h8
        have h7 := hn2 d hd
        have h6 := h8.length_le
        unfold versOf at h8 h6
        cases ef : findC cs d.Key with
        | none => rw [ef] at h6; have h5 : d.Vers.length ≤ 0 := h6; omega
        | some d' => rw [ef] at h8; exact ⟨d', (m0 ef).1, (m0 ef).2, h8⟩
      refine Al5 ?_ hq2 fun d hd => ?_
      · have hs : SrtS (cKeys (insC q c.Key v)) := by
          unfold cKeys SrtS
          rw [List.pairwise_map]
          exact (c9 W0).1 hq2
        have : (cKeys (insC q c.Key v)).length ≤ (cKeys cs).length := As6 hs fun k hk => by
          unfold cKeys at hk ⊢
          obtain ⟨d, hd, rfl⟩ := List.mem_map.1 hk
          obtain ⟨d', h1, h2, _⟩ := hcell d hd
          exact List.mem_map.2 ⟨d', h1, h2⟩
        unfold cKeys at this
        rw [A9, A9] at this
        omega
      · obtain ⟨d', h1, h2, h3⟩ := hcell d hd
        obtain ⟨g1, g2, g3, g4, g5⟩ := f3 d' h1
        refine ⟨h2 ▸ g1, hn2 d hd, Nat.le_trans h3.length_le g3, (c9 n5).2 (List.Pairwise.sublist h3.sublist ((c9 n5).1 g4)), fun w hw => g5 w (h3.sublist.subset hw)⟩
    unfold feedAll
    rw [if_neg (by rw [hxg]; simp)]
    have hpc : putCells q (wOf (itemOf g c.Key v)) (itemOf g c.Key v).Time = (insC q c.Key v, true) := by
      unfold putCells
      rw [show (itemOf g c.Key v).Time = v.Time from rfl, hput]
      dsimp only
      rw [hgood]; rfl
    rw [hpc, if_neg (by simp)]
    exact ih (p ++ [itemOf g c.Key v]) _ e2 hq2 hn2 hv2
theorem AY0 {q : List TCell} {g : Int} : ∀ {l : List TFeedItem}, (∀ x ∈ l, x.Group ≠ g) → feedAll q g l = some q
  | [], _ => rfl
  | x :: l, h => by
    unfold feedAll
    rw [if_pos (h x List.mem_cons_self)]
    exact AY0 fun y hy => h y (List.mem_cons_of_mem _ hy)
theorem rebuild {cs : List TCell} (h : goodCells cs = true) {g : Int} (hg : isGroup g = true) : feedCells [] (feedIn cs g 0 100000) g = (cs, true) := by
  obtain ⟨f1, _, _⟩ := w6 h hg 0 100000
  unfold feedCells
  rw [if_neg (by rw [show goodCells [] = true from rfl, AP8, f1, hg]; simp)]
  unfold feedRes
  rw [feed_all h g (feedIn cs g 0 100000) [] [] rfl rfl (fun c hc => by cases hc) fun k => rfl]
theorem Ai5 {cs q : List TCell} (h : goodCells cs = true) (hq : goodCells q = true) {g g' : Int} (hg : isGroup g = true) (hg' : isGroup g' = true) (hne : g ≠ g') : feedCells q (feedIn cs g 0 100000) g' = (q, true) := by
  obtain ⟨f1, _, _⟩ := w6 h hg 0 100000
  unfold feedCells
  rw [if_neg (by rw [hq, AP8, f1, hg']; simp)]
  unfold feedRes
  rw [AY0 fun x hx => by rw [(AC3 h hx).1]; exact hne]
end Go.M

namespace Go.M
open Go.AV
structure Fed (A : List TFeedItem) (F : Int) (p q : TState) : Prop where
  srt : Srt A
  mem : ∀ z, z ∈ A ↔ z ∈ allItems 0 F 0 [p, q]
  pos : 0 ≤ F
end Go.M

set_option maxHeartbeats 2000000
namespace Go.M
open Go.AV
end Go.M
namespace Go.Proofs.YtkegepoihkhihaaGreat
open Go Go.AV Go.M
attribute [local irreducible] OpW OpA OpS AWP FSpec ESpec GSpec OpE RetOk RetOkG RvDen Le Ev GuardIs SrcIs SrcE Int.tmod IntKind.wrap bandI
end Go.Proofs.YtkegepoihkhihaaGreat

set_option maxHeartbeats 1000000
namespace Go.Proofs.YtkegepoihkhihaaGreat
open Go Go.AV Go.M
attribute [local irreducible] OpW OpA OpS AWP FSpec ESpec GSpec OpE RetOk RetOkG RvDen Le Ev GuardIs SrcIs
theorem t7 (x y : TFeedItem) : (x.Time == y.Time && (x.Group == y.Group && (x.Key == y.Key && (x.Val == y.Val && (x.Gone == y.Gone && true))))) = decide (x = y) := by
  cases x; cases y
  rw [Bool.eq_iff_iff]
  simp
end Go.Proofs.YtkegepoihkhihaaGreat

set_option linter.unusedSectionVars false
namespace Go.M
open Go.AV
section
variable {α : Type} [Inhabited α]
structure Rot (l t : List α) (a m b : Nat) : Prop where
  out : ∀ k, k < a ∨ b ≤ k → t[k]? = l[k]?
  fst : ∀ k, k < b - m → t[a + k]? = l[m + k]?
  snd : ∀ k, k < m - a → t[a + (b - m) + k]? = l[a + k]?
end
end Go.M

namespace Go.M
open Go.AV
section
variable {α : Type} [Inhabited α] {lt : α → α → Bool}
section
variable {l t : List α} {a p m q b c : Nat}
end
end
end Go.M

namespace Go.M
open Go.AV
section
variable {α : Type} [Inhabited α] {lt : α → α → Bool}
end
end Go.M

namespace Go.M
open Go.AV
section
variable {α : Type} [Inhabited α] {lt : α → α → Bool}
end
end Go.M

namespace Go.Proofs.YtkegepoihkhihaaGreat
open Go Go.AV Go.M
attribute [local irreducible] OpW OpA OpS AWP FSpec ESpec GSpec OpE RetOk RetOkG RvDen Le Ev GuardIs SrcIs Int.tmod Int.tdiv IntKind.wrap
end Go.Proofs.YtkegepoihkhihaaGreat

namespace Go.Proofs.YtkegepoihkhihaaGreat
open Go Go.AV Go.M
attribute [local irreducible] OpW OpA OpS AWP FSpec ESpec GSpec OpE RetOk RetOkG RvDen Le Ev GuardIs SrcIs Int.tmod Int.tdiv IntKind.wrap
end Go.Proofs.YtkegepoihkhihaaGreat

namespace Go.Proofs.YtkegepoihkhihaaGreat
open Go Go.AV Go.M
attribute [local irreducible] OpW OpA OpS AWP FSpec ESpec GSpec OpE RetOk RetOkG RvDen Le Ev GuardIs SrcIs Int.tmod Int.tdiv IntKind.wrap
end Go.Proofs.YtkegepoihkhihaaGreat

namespace Go.Proofs.YtkegepoihkhihaaGreat
open Go Go.AV Go.M
attribute [local irreducible] OpW OpA OpS AWP FSpec ESpec GSpec OpE RetOk RetOkG RvDen Le Ev GuardIs SrcIs
theorem Af9 (l : List TFeedItem) (k : Nat) (x : TFeedItem) : (l.take k ++ x :: l.drop k).map TFeedItem.cs = ([] ++ (l.map TFeedItem.cs).take (k : Int).toNat ++ [x.cs]) ++ (l.map TFeedItem.cs).drop (k : Int).toNat := by simp
theorem Ax8 (v : Value) (l : List TFeedItem) (x : TFeedItem) (hl : l.length ≤ 2097152) : GSpec Tryz.prog 69 [AV.is v, AV.agg x.cs] [.arr v 63 5 (l.map TFeedItem.cs)]
   (fun _ : Value => True) (fun v' => [.arr v' 63 5 ((putR l x).1.map TFeedItem.cs)]) (fun v' => AV.tup [AV.is v', AV.bool (putR l x).2]) := by
 refine I9 Tryz.func69 rfl Tryz.ntmps69 rfl ?_
 refine A3 (A2 ?_)
 refine O3 rfl rfl rfl rfl (A0 rfl) ?_
 intro b3
 refine A1 rfl (B7 rfl M4) ?_
 refine A1 rfl (B7 rfl F8) ?_
 refine A4 (A3 (A2 ?_))
 refine A1 rfl (B7 rfl B6) ?_
 refine A4 (A3 (D1 ?_))
 refine J6 [(0, _), (3, _), (4, _), (5, _)] _ (fun (k : Nat) => k ≤ l.length ∧ ∀ i y, i < k → l[i]? = some y → l23Ahead y x = true) (fun (k : Nat) => []) (fun (k : Nat) => [(6, AV.int k)]) (fun (k : Nat) => l.length - k) (0) ?_ (K0 ⟨rfl, rfl, rfl, rfl, rfl, trivial⟩) ?_
 ·exact ⟨Nat.zero_le _, fun i y h => by omega⟩
 intro k hinv
 obtain ⟨y, hy0⟩ := AB1 l k
 refine A3 (A3 ?_)
 refine J5 (by kernel_rfl) (by kernel_rfl) rfl ?_
 refine B2 rfl rfl (B9 rfl (A0 rfl)) ?_
 refine B2 rfl rfl (B9 rfl (A0 rfl)) ?_
 refine B2 rfl rfl (V8 1 rfl I6 (A0 rfl) rfl) ?_
 refine B2 rfl rfl (K5 rfl (A0 rfl) (A0 rfl)) ?_
 refine B2 rfl rfl (B9 rfl (A0 rfl)) ?_
 refine D2 rfl (H1 rfl rfl rfl) (fun hc => B9 rfl (A0 rfl)) ?_
 refine D2 rfl (H1 rfl rfl rfl) (fun hc => B9 rfl (A0 rfl)) ?_
 refine D2 rfl (H1 rfl rfl rfl) (fun hc => U2 1 rfl I6 L3 (A6 rfl hc) rfl (A6 rfl hc) (by omega) (by have := of_decide_eq_true hc; simpa using this)) ?_
 refine D2 rfl (H1 rfl rfl rfl) (fun hc => f9 1 rfl (A6 rfl hc) rfl U1 L3 (by have h9 := of_decide_eq_true hc; simp only [Int.toNat_natCast, List.getElem?_map]; rw [hy0 (by simpa using h9)]; rfl) (by decide)) ?_
 refine D2 rfl (H1 rfl rfl rfl) (fun hc => G5 0 rfl (A0 rfl) rfl U1 L3 rfl) ?_
 refine D2 rfl (H1 rfl rfl rfl) (fun hc => E8 rfl Tryz.call109 rfl (AJ6 _ _) (A7 (A6 rfl hc) (A7 (A6 rfl hc) C6))) ?_
 refine B2 rfl rfl (I1 rfl (A0 rfl) (F9 rfl)) ?_
 refine P2 ?_
 refine C4 (A0 rfl) ?_ ?_
 ·intro h18
  have hkt : k < l.length ∧ l23Ahead y x = true := by simpa using h18
  refine C8 (D1 (A2 ?_))
  refine A5 rfl ?_
  refine A1 rfl (G7 rfl (A0 rfl) B6 (by first | omega | (simp only [C9, A8, szR] at *; omega))) ?_
  refine B5 rfl ?_
  refine A4 ?_
  refine k0 ?_
  refine L9 k (k + 1) ?_ ?_ (K0 ⟨rfl, rfl, rfl, rfl, rfl, trivial⟩)
  ·exact ⟨by have := hkt.1; omega, fun i z hi hz => if e : i = k then (by subst e; rw [hy0 hkt.1] at hz; injection hz with hz; subst hz; exact hkt.2) else hinv.2 i z (by omega) hz⟩
  omega
 intro h18
 have hng : k < l.length → l23Ahead y x = false := fun h => by simpa [h] using h18
 refine G9 ?_
 refine A3 (A3 ?_)
 refine J5 (by kernel_rfl) (by kernel_rfl) rfl ?_
 refine B2 rfl rfl (B9 rfl (A0 rfl)) ?_
 refine B2 rfl rfl (B9 rfl (A0 rfl)) ?_
 refine B2 rfl rfl (V8 1 rfl I6 (A0 rfl) rfl) ?_
 refine B2 rfl rfl (K5 rfl (A0 rfl) (A0 rfl)) ?_
 refine B2 rfl rfl (B9 rfl (A0 rfl)) ?_
 refine D2 rfl (H1 rfl rfl rfl) (fun hc => G5 0 rfl (A0 rfl) rfl U1 L3 rfl) ?_
 refine D2 rfl (H1 rfl rfl rfl) (fun hc => B9 rfl (A0 rfl)) ?_
 refine D2 rfl (H1 rfl rfl rfl) (fun hc => B9 rfl (A0 rfl)) ?_
 refine D2 rfl (H1 rfl rfl rfl) (fun hc => U2 1 rfl I6 L3 (A6 rfl hc) rfl (A6 rfl hc) (by omega) (by have := of_decide_eq_true hc; simpa using this)) ?_
 refine D2 rfl (H1 rfl rfl rfl) (fun hc => f9 1 rfl (A6 rfl hc) rfl U1 L3 (by have h9 := of_decide_eq_true hc; simp only [Int.toNat_natCast, List.getElem?_map]; rw [hy0 (by simpa using h9)]; rfl) (by decide)) ?_
 refine D2 rfl (H1 rfl rfl rfl) (fun hc => E8 rfl Tryz.call109 rfl (AJ6 _ _) (A7 (A6 rfl hc) (A7 (A6 rfl hc) C6))) ?_
 refine D2 rfl (H1 rfl rfl rfl) (fun hc => M5 rfl (A6 rfl hc)) ?_
 refine B2 rfl rfl (I1 rfl (A0 rfl) (F9 rfl)) ?_
 refine P2 ?_
 refine C4 (A0 rfl) ?_ ?_
 ·intro h33
  have hk2 : k < l.length ∧ l23Ahead x y = false := by simpa using h33
  rw [BB3 hinv.1 hinv.2 (hy0 hk2.1) hk2.2 (hng hk2.1)]
  refine A3 ?_
  refine J5 (by kernel_rfl) (by kernel_rfl) rfl ?_
  refine B2 rfl rfl (B9 rfl (A0 rfl)) ?_
  refine B2 rfl rfl (B9 rfl (A0 rfl)) ?_
  refine B2 rfl rfl (B9 rfl (A0 rfl)) ?_
  refine B2 rfl rfl (U2 1 rfl I6 L3 (A0 rfl) rfl (A0 rfl) (by omega) (by simp only [A9]; omega)) ?_
  refine B2 rfl rfl (f9 1 rfl (A0 rfl) rfl U1 L3 (by simp only [Int.toNat_natCast, List.getElem?_map]; rw [hy0 hk2.1]; rfl) (by decide)) ?_
  refine B2 rfl rfl (G5 0 rfl (A0 rfl) rfl U1 L3 rfl) ?_
  refine B2 rfl rfl (w_aeql rfl J0 (by kernel_rfl) (by kernel_rfl) (A0 rfl) (A0 rfl) (Z0 (by kernel_rfl) C2 rfl rfl (AF8 P8) (Z0 (by kernel_rfl) C2 rfl rfl (AF8 P8) (Z0 (by kernel_rfl) F7 rfl rfl (AF9 M6) (Z0 (by kernel_rfl) F7 rfl rfl (AF9 M6) (Z0 (by kernel_rfl) K9 rfl rfl (AS1 Y5) AY8)))))) ?_
  refine B2 rfl rfl (B7 rfl (A0 rfl)) ?_
  refine B2 rfl rfl (B7 rfl (A0 rfl)) ?_
  refine P2 ?_
  refine C5 ?_
  exact M3 [1] v (trivial) rfl (by first | rfl | exact congrArg (fun z => [Own.arr _ 63 5 z]) (Af9 _ _ _)) (T2 rfl (by decide) (F2 (B8 rfl (by first | rfl | exact congrArg AV.bool (t7 _ _))) (F2 (B8 rfl (by first | rfl | exact congrArg AV.bool (t7 _ _))) L7)))
 intro h33
 rw [putR_end hinv.1 hinv.2 (fun z hz => by (have h7 := (List.getElem?_eq_some_iff.1 hz).1; rw [hy0 h7] at hz; injection hz with hz; subst hz; simpa [h7] using h33)) (fun z hz => by (have h7 := (List.getElem?_eq_some_iff.1 hz).1; rw [hy0 h7] at hz; injection hz with hz; subst hz; exact hng h7))]
 refine C8 (A3 ?_)
 refine S3 _ [(1, false), (2, false), (3, false), (5, false), (6, false), (8, false), (9, false), (10, false), (0, true), (4, true), (7, true), (11, true)] (by kernel_rfl) (by kernel_rfl) rfl o8 ?_
 refine F1 rfl rfl rfl (fun ext => B9 rfl (A0 rfl)) ?_
 refine F1 rfl rfl rfl (fun ext => B9 rfl (A0 rfl)) ?_
 refine F1 rfl rfl rfl (fun ext => w_ahiT 1 rfl I6 L3 (A0 rfl) rfl (A0 rfl) (by omega) (by simp only [A9]; omega)) ?_
 refine F1 rfl rfl rfl (fun ext => G5 0 rfl (A0 rfl) rfl U1 L3 rfl) ?_
 refine F1 rfl rfl rfl (fun ext => L2 rfl I6 L3 Tryz.zeroValue63 rfl rfl rfl rfl (D3 (A0 rfl) (F0 _) I2) rfl rfl) ?_
 refine F1 rfl rfl rfl (fun ext => B9 rfl (A0 rfl)) ?_
 refine F1 rfl rfl rfl (fun ext => B9 rfl (A0 rfl)) ?_
 refine F1 rfl rfl rfl (fun ext => AV1 1 rfl I6 L3 (A0 rfl) rfl (A0 rfl) (by omega) (by simp only [A9]; omega)) ?_
 refine T5 rfl rfl rfl (Y7 rfl I6 L3) (fun a _ => (by first | exact F3 rfl | exact F3 (List.append_assoc _ _ _) | exact I3)) ?_
 intro v41 _
 refine T5 rfl rfl rfl (n2 (by' := 56) 2 rfl I6 Tryz.type63 rfl rfl rfl rfl rfl rfl (A0 rfl) (BA0 1 rfl (A0 rfl) (by simp only [A9, Int.toNat_natCast]; omega)) rfl (by simp only [L6, List.nil_append, H5, E4, List.length_drop, A9, I5, A8]; omega)) (fun a _ => (by first | exact F3 rfl | exact F3 (List.append_assoc _ _ _) | exact I3)) ?_
 intro v45_1 _
 refine T5 rfl rfl rfl (O4 (by' := 56) 2 rfl I6 Tryz.type63 rfl rfl rfl rfl rfl rfl (A0 rfl) (A0 rfl) rfl (by simp only [L6, List.nil_append, H5, E4, List.length_drop, A9, I5, A8]; omega)) (fun a _ => (by first | exact F3 rfl | exact F3 (List.append_assoc _ _ _) | exact I3)) ?_
 intro v48_2 _
 refine T5 rfl rfl rfl (n2 (by' := 56) 2 rfl I6 Tryz.type63 rfl rfl rfl rfl rfl rfl (A0 rfl) (Az9 1 rfl (A0 rfl) (by simp only [A9, Int.toNat_natCast]; omega)) rfl (by simp only [L6, List.nil_append, H5, E4, List.length_drop, A9, I5, A8]; omega)) (fun a _ => (by first | exact F3 rfl | exact F3 (List.append_assoc _ _ _) | exact I3)) ?_
 intro v52_3 _
 refine g6 ?_
 refine B5 rfl ?_
 refine A1 rfl (B7 rfl F8) ?_
 refine A4 ?_
 refine C5 ?_
 exact M3 [2] v52_3 (trivial) rfl (by first | rfl | exact congrArg (fun z => [Own.arr _ 63 5 z]) (Af9 _ _ _)) (T2 rfl (by decide) (F2 (B8 rfl (by first | rfl | exact congrArg AV.bool (t7 _ _))) (F2 (B8 rfl (by first | rfl | exact congrArg AV.bool (t7 _ _))) L7)))

end Go.Proofs.YtkegepoihkhihaaGreat

set_option maxHeartbeats 2000000
namespace Go.M
open Go.AV
theorem AN5 {α : Type} {p : α → Bool} {l : List α} {i : Nat} {x : α} (h : l[i]? = some x) : (l.take (i + 1)).filter p = (l.take i).filter p ++ (if p x = true then [x] else []) := by
  rw [List.take_add_one, h, List.filter_append]
  cases hp : p x <;> simp [hp]
theorem raw_take {l : List TCell} {i : Nat} {c : TCell} {g a u : Int} (h : l[i]? = some c) : rawItems (l.take (i + 1)) g a u = rawItems (l.take i) g a u ++ cellItems g a u c := by
  unfold rawItems; rw [List.take_add_one, h, List.map_append, List.flatten_append]; simp
def partItems (l : List TCell) (i : Nat) (c : TCell) (j : Nat) (g a u : Int) : List TFeedItem := rawItems (l.take i) g a u ++ ((c.Vers.take j).filter (inTime a u)).map (itemOf g c.Key)
theorem AN6 (l : List TCell) (i : Nat) (c : TCell) (g a u : Int) : partItems l i c 0 g a u = rawItems (l.take i) g a u := by unfold partItems; simp
theorem Ag0 {l : List TCell} {i : Nat} {c : TCell} {g a u : Int} {j : Nat} (h : l[i]? = some c) (hj : c.Vers.length ≤ j) : partItems l i c j g a u = rawItems (l.take (i + 1)) g a u := by
  unfold partItems; rw [raw_take h, List.take_of_length_le hj]; rfl
theorem AJ0 {l : List TCell} {i : Nat} {c : TCell} {g a u : Int} {j : Nat} {v : TVer} (h : c.Vers[j]? = some v) (hp : inTime a u v = true) : partItems l i c (j + 1) g a u = partItems l i c j g a u ++ [itemOf g c.Key v] := by
  unfold partItems; rw [AN5 h, if_pos hp, List.map_append, List.append_assoc]; rfl
theorem AO8 {l : List TCell} {i : Nat} {c : TCell} {g a u : Int} {j : Nat} {v : TVer} (h : c.Vers[j]? = some v) (hp : inTime a u v = false) : partItems l i c (j + 1) g a u = partItems l i c j g a u := by
  unfold partItems; rw [AN5 h, if_neg (by rw [hp]; decide), List.append_nil]
theorem AU0 {l : List TCell} (h : goodCells l = true) {i : Nat} {c : TCell} {g a u : Int} {j : Nat} (hj : j ≤ 16) : (partItems l i c j g a u).length ≤ 1000 := by
  obtain ⟨f1, f2, f3⟩ := Q8 h
  have h1 := Ab1 (l := l.take i) (g := g) (a := a) (u := u) fun c hc => (f3 c (List.mem_of_mem_take hc)).2.2.1
  have h2 : ((c.Vers.take j).filter (inTime a u)).length ≤ j := Nat.le_trans (List.length_filter_le _ _) (List.length_take_le _ _)
  have h3 : (l.take i).length ≤ l.length := List.length_take_le' _ _
  unfold partItems
  rw [H5, A9]; omega
theorem AY1 {o l : List TFeedItem} {x : TFeedItem} : M.insAll o (l ++ [x]) = (putR (M.insAll o l) x).1 := by unfold M.insAll; rw [List.foldl_append]; rfl
theorem AR3 : ∀ {l o : List TFeedItem}, (M.insAll o l).length ≤ o.length + l.length
  | [], o => Nat.le_refl _
  | x :: l, o => by
    have h1 := AR3 (l := l) (o := (putR o x).1)
    have h2 := An9 x o
    show (M.insAll (putR o x).1 l).length ≤ _
    rw [I5]; omega
def itemsR (s : TState) (g a u : Int) : List TFeedItem × Bool := if (((goodState s && isGroup g) && isTrue a) && isTrue u) && decide (a ≤ u) = true then (feedIn s.Cells g a u, true) else ([], false)
end Go.M
namespace Go.Proofs.YtkegepoihkhihaaGreat
open Go Go.AV Go.M
attribute [local irreducible] OpW OpA OpS AWP FSpec ESpec GSpec OpE RetOk RetOkG RvDen Le Ev GuardIs SrcIs SrcE Int.tmod IntKind.wrap bandI
theorem Aq9 (s : TState) (g a u : Int) (hg : goodCells s.Cells = true) : GSpec Tryz.prog 53 [AV.agg s.cs, AV.int g, AV.int a, AV.int u] [] (fun _ : Value => True) (fun v => [.arr v 63 5 ((feedIn s.Cells g a u).map TFeedItem.cs)]) (fun v => AV.is v) := by
 obtain ⟨f1, f2, f3⟩ := Q8 hg
 refine I9 Tryz.func53 rfl Tryz.ntmps53 rfl ?_
 refine A3 (A2 ?_)
 refine O3 rfl rfl rfl rfl (A0 rfl) ?_
 intro b4
 refine A1 rfl (B7 rfl M4) ?_
 refine A4 (A3 (A2 ?_))
 refine U3 rfl rfl rfl rfl I6 L3 ?_
 intro v14
 refine B5 rfl ?_
 refine A4 (A3 (A3 (A2 ?_)))
 refine A1 rfl (B1 1 rfl C0 rfl N2 (A0 rfl) rfl) ?_
 refine A1 rfl (B0 1 rfl (A0 rfl) rfl O9 rfl) ?_
 refine A1 rfl (H2 rfl C7 (A0 rfl)) ?_
 refine A1 rfl (B9 rfl B6) ?_
 refine A4 (D1 ?_)
 refine AWP.le (H4 [0] rfl) ?_
 refine Q9 [(1, _), (2, _), (3, _), (8, _), (16, _), (17, _)] _ (fun (i : Nat) (v : Value) => i ≤ s.Cells.length) (fun (i : Nat) (v : Value) => [.arr v 63 5 ((rawItems (s.Cells.take i) g a u).map TFeedItem.cs)]) (fun (i : Nat) (v : Value) => [(9, AV.is v), (18, AV.int i)]) (fun (i : Nat) (v : Value) => s.Cells.length - i) (0) (v14) ?_ (S6 (by rfl) ⟨rfl, rfl, rfl, rfl, rfl, rfl, rfl, rfl, trivial⟩) ?_
 ·exact Nat.zero_le _
 intro i v hinv
 refine A3 (A2 ?_)
 refine A1 rfl (K5 rfl (A0 rfl) (A0 rfl)) ?_
 refine A4 (A3 ?_)
 refine C4 (A0 rfl) ?_ ?_
 ·intro h19
  have k19 := of_decide_eq_true h19; try simp only [A9] at k19
  have hlt : i < s.Cells.length := by (simpa using h19)
  obtain ⟨c, hx⟩ := get_some hlt
  have hcf := f3 c (G2 hx)
  refine C8 (A3 (D1 (A3 (A2 ?_))))
  refine A1 rfl (J4 rfl C7 E2 (A0 rfl) (A0 rfl) hx (by first | omega | (simp only [C9, A8, szR] at *; omega))) ?_
  refine A1 rfl (L4 rfl (A0 rfl) S7 E2) ?_
  refine G3 rfl rfl rfl rfl Tryz.zeroValue125 rfl ?_
  intro b11
  refine D7 0 rfl rfl rfl (A0 rfl) (A0 rfl) (F0 _) rfl E2 rfl ?_
  refine A4 (A3 (A2 ?_))
  refine A1 rfl (B1 1 rfl F4 rfl K1 (A0 rfl) rfl) ?_
  refine A1 rfl (B0 0 rfl (A0 rfl) rfl N5 rfl) ?_
  refine A1 rfl (H2 rfl G8 (A0 rfl)) ?_
  refine A1 rfl (B9 rfl B6) ?_
  refine A4 (D1 ?_)
  refine AWP.le (H4 [1, 0] rfl) ?_
  refine Q9 [(1, _), (2, _), (3, _), (8, _), (11, _), (16, _), (17, _), (18, _), (19, _), (20, _), (21, _), (22, _), (23, _), (24, _)] _ (fun (j : Nat) (w : Value) => j ≤ c.Vers.length) (fun (j : Nat) (w : Value) => [.arr w 63 5 ((partItems s.Cells i c j g a u).map TFeedItem.cs), .box b11 125 c.cs]) (fun (j : Nat) (w : Value) => [(9, AV.is w), (25, AV.int j)]) (fun (j : Nat) (w : Value) => c.Vers.length - j) (0) (v) ?_ (S6 (by (rw [AN6]; rfl)) ⟨rfl, rfl, rfl, rfl, rfl, rfl, rfl, rfl, rfl, rfl, rfl, rfl, rfl, rfl, rfl, rfl, trivial⟩) ?_
  ·exact Nat.zero_le _
  intro j w hinv
  refine A3 (A2 ?_)
  refine A1 rfl (K5 rfl (A0 rfl) (A0 rfl)) ?_
  refine A4 (A3 ?_)
  refine C4 (A0 rfl) ?_ ?_
  ·intro h26
   have k26 := of_decide_eq_true h26; try simp only [A9] at k26
   have hlt1 : j < c.Vers.length := by (simpa using h26)
   obtain ⟨y, hy⟩ := get_some hlt1
   have hpl := AU0 hg (i := i) (c := c) (g := g) (a := a) (u := u) (j := j) (by omega)
   refine C8 (A3 (D1 (A3 (A2 ?_))))
   refine A1 rfl (J4 rfl G8 L1 (A0 rfl) (A0 rfl) hy (by first | omega | (simp only [C9, A8, szR] at *; omega))) ?_
   refine A1 rfl (L4 rfl (A0 rfl) a6 L1) ?_
   refine G3 rfl rfl rfl rfl Tryz.zeroValue127 rfl ?_
   intro b13
   refine D7 0 rfl rfl rfl (A0 rfl) (A0 rfl) (F0 _) rfl L1 rfl ?_
   refine A4 (A3 (A2 ?_))
   refine A1 rfl (B1 0 rfl J8 rfl B4 (A0 rfl) rfl) ?_
   refine A1 rfl (B0 0 rfl (A0 rfl) rfl C2 rfl) ?_
   refine A5 rfl ?_
   refine A1 rfl (O8 rfl (A0 rfl) (A0 rfl)) ?_
   refine A5 rfl ?_
   refine D0 rfl (fun hc => B1 0 rfl J8 rfl B4 (A0 rfl) rfl) ?_
   refine D0 rfl (fun hc => B0 0 rfl (A6 rfl hc) rfl C2 rfl) ?_
   refine D0 rfl (fun hc => B9 rfl (A0 rfl)) ?_
   refine D0 rfl (fun hc => V0 rfl (A6 rfl hc) (A6 rfl hc)) ?_
   refine A1 rfl (I1 rfl (A0 rfl) (F9 rfl)) ?_
   refine A4 ?_
   refine C4 (A0 rfl) ?_ ?_
   ·intro h38
    refine A2 ?_
    refine A5 rfl ?_
    refine A1 rfl (B1 0 rfl J8 rfl B4 (A0 rfl) rfl) ?_
    refine A1 rfl (B0 0 rfl (A0 rfl) rfl C2 rfl) ?_
    refine A5 rfl ?_
    refine A1 rfl (B1 0 rfl F4 rfl E5 (A0 rfl) rfl) ?_
    refine A1 rfl (B0 2 rfl (A0 rfl) rfl F7 rfl) ?_
    refine A1 rfl (B1 1 rfl J8 rfl E5 (A0 rfl) rfl) ?_
    refine A1 rfl (B0 0 rfl (A0 rfl) rfl F7 rfl) ?_
    refine A1 rfl (B1 2 rfl J8 rfl J1 (A0 rfl) rfl) ?_
    refine A1 rfl (B0 0 rfl (A0 rfl) rfl K9 rfl) ?_
    refine A1 rfl (P0 (places := #[(0, 1), (1, 1), (2, 1), (3, 1), (4, 1)]) rfl J0 Tryz.zeroValue63 (fun w => by kernel_rfl) rfl (D3 (A0 rfl) (K4 _ _) (D3 (A0 rfl) (K4 _ _) (D3 (A0 rfl) (O5 _) (D3 (A0 rfl) (O5 _) (D3 (A0 rfl) (W7 _) I2))))) rfl) ?_
    refine A1 rfl (L2 rfl I6 L3 Tryz.zeroValue63 rfl rfl rfl rfl (D3 (A0 rfl) (F0 _) I2) rfl rfl) ?_
    refine N3 (by' := 56) 1 rfl rfl rfl rfl I6 Tryz.type63 rfl rfl rfl rfl rfl rfl (A0 rfl) (A0 rfl) rfl (by simp only [A9, A8]; omega) ?_
    intro v51_1
    refine B5 rfl ?_
    refine A4 (A2 ?_)
    refine A1 rfl (G7 rfl (A0 rfl) B6 (by first | omega | (simp only [C9, A8, szR] at *; omega))) ?_
    refine A5 rfl ?_
    refine A4 ?_
    refine P6 j w (j + 1) (v51_1) ?_ ?_ (Le.trans (H4 [0, 0, 0] rfl) (L5 1 (by first | (rw [AJ0 hy h38, List.map_append]; rfl) | (rw [AO8 hy h38]; rfl)) ⟨rfl, rfl, rfl, rfl, rfl, rfl, rfl, rfl, rfl, rfl, rfl, rfl, rfl, rfl, rfl, rfl, trivial⟩))
    ·exact (by omega)
    omega
   intro h38
   refine C8 (A2 ?_)
   refine A1 rfl (G7 rfl (A0 rfl) B6 (by first | omega | (simp only [C9, A8, szR] at *; omega))) ?_
   refine A5 rfl ?_
   refine A4 ?_
   refine P6 j w (j + 1) (w) ?_ ?_ (Le.trans (H4 [0, 0, 0] rfl) (L5 1 (by first | (rw [AJ0 hy h38, List.map_append]; rfl) | (rw [AO8 hy h38]; rfl)) ⟨rfl, rfl, rfl, rfl, rfl, rfl, rfl, rfl, rfl, rfl, rfl, rfl, rfl, rfl, rfl, rfl, trivial⟩))
   ·exact (by omega)
   omega
  intro h26
  have k26 := of_decide_eq_false h26; try simp only [A9] at k26
  have hge1 : c.Vers.length ≤ j := by (simpa using h26)
  refine G9 ?_
  refine A2 ?_
  refine A1 rfl (G7 rfl (A0 rfl) B6 (by first | omega | (simp only [C9, A8, szR] at *; omega))) ?_
  refine A5 rfl ?_
  refine A4 ?_
  refine P6 i v (i + 1) (w) ?_ ?_ (Le.trans (H4 [1, 0] rfl) (L5 1 (by (rw [Ag0 hx hge1]; rfl)) ⟨rfl, rfl, rfl, rfl, rfl, rfl, rfl, rfl, trivial⟩))
  ·exact (by omega)
  omega
 intro h19
 have k19 := of_decide_eq_false h19; try simp only [A9] at k19
 have hge : s.Cells.length ≤ i := by (simpa using h19)
 rw [List.take_of_length_le hge]
 refine G9 ?_
 refine A3 (A2 ?_)
 refine A5 rfl ?_
 refine AC9 [0] rfl rfl rfl rfl Tryz.call63 rfl (Ab0 v (rawItems s.Cells g a u) (by have h9 := AU0 hg (i := s.Cells.length) (c := ⟨[], []⟩) (g := g) (a := a) (u := u) (j := 0) (by omega); rw [AN6, List.take_of_length_le (Nat.le_refl _)] at h9; omega)) rfl (P3 (evb (A0 rfl)) (P3 (evb ev_func) X3)) (by first | exact M0 | (intro _; exact M0) | (intro _; first | exact F6 _ | exact D8 _ _ | exact D5 _ | exact D9 _ | exact E3) | (intro _; refine Z2 ?_; (repeat (first | exact D6 | (refine C1 (by first | (first | exact F6 _ | exact D8 _ _ | exact D5 _ | exact D9 _ | exact E3) | (refine U0 ?_; (repeat (first | exact D6 | (refine C1 (by first | exact F6 _ | exact D8 _ _ | exact D5 _ | exact D9 _ | exact E3) ?_))))) ?_))); done) | (intro _; refine U0 ?_; (repeat (first | exact D6 | (refine C1 (by first | exact F6 _ | exact D8 _ _ | exact D5 _ | exact D9 _ | exact E3) ?_))); done) | ((repeat (first | exact M0 | (refine K6 (S8 ?_) ?_; (repeat (first | exact D6 | (refine C1 (by first | exact F6 _ | exact D8 _ _ | exact D5 _ | exact D9 _ | exact E3) ?_)))) | (refine K6 (R6 ?_) ?_; (repeat (first | exact S9 | (refine S2 (fun _ => ?_); (first | exact TWrite.flat _ | exact TFeedItem.flat _ | exact TIdx.flat _ | exact TVer.flat _ | (repeat (first | exact D6 | (refine C1 (by first | exact F6 _ | exact D8 _ _ | exact D5 _ | exact D9 _ | exact E3) ?_))))) | (refine T1 ?_; (first | exact TWrite.flat _ | exact TFeedItem.flat _ | exact TIdx.flat _ | exact TVer.flat _ | (repeat (first | exact D6 | (refine C1 (by first | exact F6 _ | exact D8 _ _ | exact D5 _ | exact D9 _ | exact E3) ?_))))) | (refine Q6 ?_ ?_; (first | exact TWrite.flat _ | exact TFeedItem.flat _ | exact TIdx.flat _ | exact TVer.flat _ | (repeat (first | exact D6 | (refine C1 (by first | exact F6 _ | exact D8 _ _ | exact D5 _ | exact D9 _ | exact E3) ?_))))) | refine T0 ?_ ?_))))); done) | (intro _; (repeat (first | exact M0 | (refine K6 (S8 ?_) ?_; (repeat (first | exact D6 | (refine C1 (by first | exact F6 _ | exact D8 _ _ | exact D5 _ | exact D9 _ | exact E3) ?_)))) | (refine K6 (R6 ?_) ?_; (repeat (first | exact S9 | (refine S2 (fun _ => ?_); (first | exact TWrite.flat _ | exact TFeedItem.flat _ | exact TIdx.flat _ | exact TVer.flat _ | (repeat (first | exact D6 | (refine C1 (by first | exact F6 _ | exact D8 _ _ | exact D5 _ | exact D9 _ | exact E3) ?_))))) | (refine T1 ?_; (first | exact TWrite.flat _ | exact TFeedItem.flat _ | exact TIdx.flat _ | exact TVer.flat _ | (repeat (first | exact D6 | (refine C1 (by first | exact F6 _ | exact D8 _ _ | exact D5 _ | exact D9 _ | exact E3) ?_))))) | (refine Q6 ?_ ?_; (first | exact TWrite.flat _ | exact TFeedItem.flat _ | exact TIdx.flat _ | exact TVer.flat _ | (repeat (first | exact D6 | (refine C1 (by first | exact F6 _ | exact D8 _ _ | exact D5 _ | exact D9 _ | exact E3) ?_))))) | refine T0 ?_ ?_))))); done)) (by first | exact M0 | (intro _; exact M0) | (intro _; first | exact F6 _ | exact D8 _ _ | exact D5 _ | exact D9 _ | exact E3) | (intro _; refine Z2 ?_; (repeat (first | exact D6 | (refine C1 (by first | (first | exact F6 _ | exact D8 _ _ | exact D5 _ | exact D9 _ | exact E3) | (refine U0 ?_; (repeat (first | exact D6 | (refine C1 (by first | exact F6 _ | exact D8 _ _ | exact D5 _ | exact D9 _ | exact E3) ?_))))) ?_))); done) | (intro _; refine U0 ?_; (repeat (first | exact D6 | (refine C1 (by first | exact F6 _ | exact D8 _ _ | exact D5 _ | exact D9 _ | exact E3) ?_))); done) | ((repeat (first | exact M0 | (refine K6 (S8 ?_) ?_; (repeat (first | exact D6 | (refine C1 (by first | exact F6 _ | exact D8 _ _ | exact D5 _ | exact D9 _ | exact E3) ?_)))) | (refine K6 (R6 ?_) ?_; (repeat (first | exact S9 | (refine S2 (fun _ => ?_); (first | exact TWrite.flat _ | exact TFeedItem.flat _ | exact TIdx.flat _ | exact TVer.flat _ | (repeat (first | exact D6 | (refine C1 (by first | exact F6 _ | exact D8 _ _ | exact D5 _ | exact D9 _ | exact E3) ?_))))) | (refine T1 ?_; (first | exact TWrite.flat _ | exact TFeedItem.flat _ | exact TIdx.flat _ | exact TVer.flat _ | (repeat (first | exact D6 | (refine C1 (by first | exact F6 _ | exact D8 _ _ | exact D5 _ | exact D9 _ | exact E3) ?_))))) | (refine Q6 ?_ ?_; (first | exact TWrite.flat _ | exact TFeedItem.flat _ | exact TIdx.flat _ | exact TVer.flat _ | (repeat (first | exact D6 | (refine C1 (by first | exact F6 _ | exact D8 _ _ | exact D5 _ | exact D9 _ | exact E3) ?_))))) | refine T0 ?_ ?_))))); done) | (intro _; (repeat (first | exact M0 | (refine K6 (S8 ?_) ?_; (repeat (first | exact D6 | (refine C1 (by first | exact F6 _ | exact D8 _ _ | exact D5 _ | exact D9 _ | exact E3) ?_)))) | (refine K6 (R6 ?_) ?_; (repeat (first | exact S9 | (refine S2 (fun _ => ?_); (first | exact TWrite.flat _ | exact TFeedItem.flat _ | exact TIdx.flat _ | exact TVer.flat _ | (repeat (first | exact D6 | (refine C1 (by first | exact F6 _ | exact D8 _ _ | exact D5 _ | exact D9 _ | exact E3) ?_))))) | (refine T1 ?_; (first | exact TWrite.flat _ | exact TFeedItem.flat _ | exact TIdx.flat _ | exact TVer.flat _ | (repeat (first | exact D6 | (refine C1 (by first | exact F6 _ | exact D8 _ _ | exact D5 _ | exact D9 _ | exact E3) ?_))))) | (refine Q6 ?_ ?_; (first | exact TWrite.flat _ | exact TFeedItem.flat _ | exact TIdx.flat _ | exact TVer.flat _ | (repeat (first | exact D6 | (refine C1 (by first | exact F6 _ | exact D8 _ _ | exact D5 _ | exact D9 _ | exact E3) ?_))))) | refine T0 ?_ ?_))))); done)) (by first | exact M0 | (intro _; exact M0) | (intro _; first | exact F6 _ | exact D8 _ _ | exact D5 _ | exact D9 _ | exact E3) | (intro _; refine Z2 ?_; (repeat (first | exact D6 | (refine C1 (by first | (first | exact F6 _ | exact D8 _ _ | exact D5 _ | exact D9 _ | exact E3) | (refine U0 ?_; (repeat (first | exact D6 | (refine C1 (by first | exact F6 _ | exact D8 _ _ | exact D5 _ | exact D9 _ | exact E3) ?_))))) ?_))); done) | (intro _; refine U0 ?_; (repeat (first | exact D6 | (refine C1 (by first | exact F6 _ | exact D8 _ _ | exact D5 _ | exact D9 _ | exact E3) ?_))); done) | ((repeat (first | exact M0 | (refine K6 (S8 ?_) ?_; (repeat (first | exact D6 | (refine C1 (by first | exact F6 _ | exact D8 _ _ | exact D5 _ | exact D9 _ | exact E3) ?_)))) | (refine K6 (R6 ?_) ?_; (repeat (first | exact S9 | (refine S2 (fun _ => ?_); (first | exact TWrite.flat _ | exact TFeedItem.flat _ | exact TIdx.flat _ | exact TVer.flat _ | (repeat (first | exact D6 | (refine C1 (by first | exact F6 _ | exact D8 _ _ | exact D5 _ | exact D9 _ | exact E3) ?_))))) | (refine T1 ?_; (first | exact TWrite.flat _ | exact TFeedItem.flat _ | exact TIdx.flat _ | exact TVer.flat _ | (repeat (first | exact D6 | (refine C1 (by first | exact F6 _ | exact D8 _ _ | exact D5 _ | exact D9 _ | exact E3) ?_))))) | (refine Q6 ?_ ?_; (first | exact TWrite.flat _ | exact TFeedItem.flat _ | exact TIdx.flat _ | exact TVer.flat _ | (repeat (first | exact D6 | (refine C1 (by first | exact F6 _ | exact D8 _ _ | exact D5 _ | exact D9 _ | exact E3) ?_))))) | refine T0 ?_ ?_))))); done) | (intro _; (repeat (first | exact M0 | (refine K6 (S8 ?_) ?_; (repeat (first | exact D6 | (refine C1 (by first | exact F6 _ | exact D8 _ _ | exact D5 _ | exact D9 _ | exact E3) ?_)))) | (refine K6 (R6 ?_) ?_; (repeat (first | exact S9 | (refine S2 (fun _ => ?_); (first | exact TWrite.flat _ | exact TFeedItem.flat _ | exact TIdx.flat _ | exact TVer.flat _ | (repeat (first | exact D6 | (refine C1 (by first | exact F6 _ | exact D8 _ _ | exact D5 _ | exact D9 _ | exact E3) ?_))))) | (refine T1 ?_; (first | exact TWrite.flat _ | exact TFeedItem.flat _ | exact TIdx.flat _ | exact TVer.flat _ | (repeat (first | exact D6 | (refine C1 (by first | exact F6 _ | exact D8 _ _ | exact D5 _ | exact D9 _ | exact E3) ?_))))) | (refine Q6 ?_ ?_; (first | exact TWrite.flat _ | exact TFeedItem.flat _ | exact TIdx.flat _ | exact TVer.flat _ | (repeat (first | exact D6 | (refine C1 (by first | exact F6 _ | exact D8 _ _ | exact D5 _ | exact D9 _ | exact E3) ?_))))) | refine T0 ?_ ?_))))); done)) ?_
 intro x55 ok55
 have he := BB7 (p6 hg).1 (p6 hg).2 ok55.1 ok55.2
 subst he
 refine A4 (A3 (A2 ?_))
 refine A5 rfl ?_
 refine B5 rfl ?_
 refine A4 ?_
 refine C5 ?_
 exact M3 [0] v (trivial) rfl (by rfl) (P7 rfl (B8 rfl (by rfl)))
theorem Ao1 (s : TState) (g a u : Int) (hs : s.size ≤ 1048576) : GSpec Tryz.prog 17 [AV.agg s.cs, AV.int g, AV.int a, AV.int u] [] (fun _ : Value => True) (fun v => [.arr v 63 5 ((itemsR s g a u).1.map TFeedItem.cs)]) (fun v => AV.tup [AV.is v, AV.bool (itemsR s g a u).2]) := by
 refine I9 Tryz.func17 rfl Tryz.ntmps17 rfl ?_
 refine A3 (A2 ?_)
 refine O3 rfl rfl rfl rfl (A0 rfl) ?_
 intro b4
 refine A1 rfl (B7 rfl M4) ?_
 refine A1 rfl (B7 rfl F8) ?_
 refine A4 (A3 (A3 (A2 ?_)))
 refine A1 rfl (G5 0 rfl (A0 rfl) rfl E6 C3 rfl) ?_
 refine A1 rfl (E8 rfl Tryz.call50 rfl (Aa4 _ (by first | assumption | omega)) (A7 (A0 rfl) C6)) ?_
 refine A1 rfl (M5 rfl (A0 rfl)) ?_
 refine A5 rfl ?_
 refine H8 rfl (fun hc => B9 rfl (A0 rfl)) ?_
 refine H8 rfl (fun hc => E8 rfl Tryz.call51 rfl (AB8 _) (A7 (A6 rfl hc) C6)) ?_
 refine H8 rfl (fun hc => M5 rfl (A6 rfl hc)) ?_
 refine A1 rfl (R5 rfl (A0 rfl) (F9 rfl)) ?_
 refine A5 rfl ?_
 refine H8 rfl (fun hc => B9 rfl (A0 rfl)) ?_
 refine H8 rfl (fun hc => E8 rfl Tryz.call52 rfl (AF1 _) (A7 (A6 rfl hc) C6)) ?_
 refine H8 rfl (fun hc => M5 rfl (A6 rfl hc)) ?_
 refine A1 rfl (R5 rfl (A0 rfl) (F9 rfl)) ?_
 refine A5 rfl ?_
 refine H8 rfl (fun hc => B9 rfl (A0 rfl)) ?_
 refine H8 rfl (fun hc => E8 rfl Tryz.call52 rfl (AF1 _) (A7 (A6 rfl hc) C6)) ?_
 refine H8 rfl (fun hc => M5 rfl (A6 rfl hc)) ?_
 refine A1 rfl (R5 rfl (A0 rfl) (F9 rfl)) ?_
 refine A5 rfl ?_
 refine H8 rfl (fun hc => B9 rfl (A0 rfl)) ?_
 refine H8 rfl (fun hc => B9 rfl (A0 rfl)) ?_
 refine H8 rfl (fun hc => O8 rfl (A6 rfl hc) (A6 rfl hc)) ?_
 refine A1 rfl (R5 rfl (A0 rfl) (F9 rfl)) ?_
 refine A4 ?_
 refine C4 (A0 rfl) ?_ ?_
 ·intro h32
  have he : itemsR s g a u = ([], false) := (by unfold itemsR; rw [if_neg (by intro hc; simp only [Bool.and_eq_true, decide_eq_true_eq] at hc; simp [hc.1.1.1.1, hc.1.1.1.2, hc.1.1.2, hc.1.2] at h32; omega)])
  rw [he]
  refine A3 (A2 ?_)
  refine A1 rfl (B7 rfl M4) ?_
  refine A1 rfl (B7 rfl F8) ?_
  refine A4 ?_
  refine C5 ?_
  refine Y2 63 5 ?_
  exact M3 [0] (Value.slice none 0 0) (trivial) rfl (by rfl) (T2 rfl (by decide) (F2 (B8 rfl (by rfl)) (F2 (B8 rfl (by rfl)) L7)))
 intro h32
 have hgs : goodState s = true := (by cases hb : goodState s with | true => rfl | false => (rw [hb] at h32; simp at h32))
 have he : itemsR s g a u = (feedIn s.Cells g a u, true) := (by unfold itemsR; rw [if_pos (by simp only [Bool.or_eq_false_iff, Bool.not_eq_false', decide_eq_false_iff_not] at h32; simp only [Bool.and_eq_true, decide_eq_true_eq]; exact ⟨h32.1, by omega⟩)])
 rw [he]
 refine C8 (A3 (A2 ?_))
 refine A1 rfl (G5 0 rfl (A0 rfl) rfl E6 C3 rfl) ?_
 refine A5 rfl ?_
 refine A5 rfl ?_
 refine A5 rfl ?_
 refine J9 [] rfl rfl rfl rfl Tryz.call53 rfl (Aq9 s g a u (y9.1 hgs).cells) (A7 (A0 rfl) (A7 (A0 rfl) (A7 (A0 rfl) (A7 (A0 rfl) C6)))) rfl ?_
 intro x37 ok37
 refine B5 rfl ?_
 refine A1 rfl (B7 rfl F8) ?_
 refine A4 ?_
 refine C5 ?_
 exact M3 [0] x37 (trivial) rfl (by rfl) (T2 rfl (by decide) (F2 (B8 rfl (by rfl)) (F2 (B8 rfl (by rfl)) L7)))
end Go.Proofs.YtkegepoihkhihaaGreat

namespace Go.M
open Go.AV
theorem Ao2 {l : List TCell} (h : goodCells l = true) {i : Nat} {c : TCell} {g a u : Int} {j : Nat} (hj : j ≤ 16) : (M.insAll [] (partItems l i c j g a u)).length ≤ 1000 := by
  have h1 := AU0 h (i := i) (c := c) (g := g) (a := a) (u := u) hj
  have h2 := AR3 (l := partItems l i c j g a u) (o := [])
  rw [L6] at h2; omega
theorem Ag1 (s : TState) (g a u : Int) : ((((!goodState s || !within g 0 3) || !within a 0 u) || decide (u > 100000)) = true → itemsR s g a u = ([], false)) ∧ ((((!goodState s || !within g 0 3) || !within a 0 u) || decide (u > 100000)) = false → goodState s = true ∧ itemsR s g a u = (feedIn s.Cells g a u, true)) := by
  unfold itemsR isGroup isTrue within
  cases hg : goodState s with
  | false => simp
  | true =>
    constructor
    · intro h
      rw [if_neg]
      intro hc
      simp only [Bool.and_eq_true, decide_eq_true_eq, Bool.true_and] at hc
      simp [hc.1.1.1, hc.1.1.2, hc.1.2, hc.2] at h
      omega
    · intro h
      refine ⟨rfl, ?_⟩
      rw [if_pos]
      simp only [Bool.or_eq_false_iff, Bool.not_eq_false', decide_eq_false_iff_not, Bool.and_eq_true, decide_eq_true_eq] at h
      simp only [Bool.and_eq_true, decide_eq_true_eq, Bool.true_and]
      omega
theorem BB9 {x : TFeedItem} (h : l23Good x = true) : x.size ≤ 36 := by
  rw [← AE3] at h
  unfold goodItem isStored goodVal at h
  simp only [Bool.and_eq_true, decide_eq_true_eq] at h
  have h1 := AE5 h.1.2
  have h2 := h.2.1.1
  show x.Key.length + x.Val.length ≤ 36
  omega
theorem Ag2 {l : List TFeedItem} (h : l23Feed l = true) : sizeL TFeedItem.size l ≤ 20000 := by
  obtain ⟨h1, _, h3⟩ := (AR2 l).1 h
  have h4 := p5 (f := TFeedItem.size) (c := 36) (l := l) fun x hx => BB9 (h1 x hx)
  have h5 : l.length * (36 + 1) ≤ 400 * 37 := Nat.mul_le_mul_right _ h3
  omega
end Go.M
namespace Go.Proofs.YtkegepoihkhihaaGreat
open Go Go.AV Go.M
attribute [local irreducible] OpW OpA OpS AWP FSpec ESpec GSpec OpE RetOk RetOkG RvDen Le Ev GuardIs SrcIs SrcE Int.tmod IntKind.wrap bandI
theorem BC0 (l : List TCell) (g a u : Int) (hg : goodCells l = true) : GSpec Tryz.prog 46 [AV.list 2 (l.map TCell.cs), AV.int g, AV.int a, AV.int u] [] (fun _ : Value => True) (fun v => [.arr v 63 5 ((feedIn l g a u).map TFeedItem.cs)]) (fun v => AV.is v) := by
 obtain ⟨f1, f2, f3⟩ := Q8 hg
 refine I9 Tryz.func46 rfl Tryz.ntmps46 rfl ?_
 refine A3 (A2 ?_)
 refine A1 rfl (B7 rfl M4) ?_
 refine A4 (A3 (A2 ?_))
 refine U3 rfl rfl rfl rfl I6 L3 ?_
 intro v13
 refine B5 rfl ?_
 refine A4 (A3 (A3 (A2 ?_)))
 refine A1 rfl (B7 rfl B6) ?_
 refine A4 (D1 ?_)
 refine AWP.le (H4 [0] rfl) ?_
 refine Q9 [(0, _), (1, _), (2, _), (3, _), (8, _)] _ (fun (i : Nat) (v : Value) => i ≤ l.length) (fun (i : Nat) (v : Value) => [.arr v 63 5 ((M.insAll [] (rawItems (l.take i) g a u)).map TFeedItem.cs)]) (fun (i : Nat) (v : Value) => [(9, AV.is v), (10, AV.int i)]) (fun (i : Nat) (v : Value) => l.length - i) (0) (v13) ?_ (S6 (by rfl) ⟨rfl, rfl, rfl, rfl, rfl, rfl, rfl, trivial⟩) ?_
 ·exact Nat.zero_le _
 intro i v hinv
 refine A3 (A3 (A2 ?_))
 refine A5 rfl ?_
 refine A5 rfl ?_
 refine A1 rfl (H2 rfl C7 (A0 rfl)) ?_
 refine A1 rfl (K5 rfl (A0 rfl) (A0 rfl)) ?_
 refine A4 ?_
 refine C4 (A0 rfl) ?_ ?_
 ·intro h17
  have k17 := of_decide_eq_true h17; try simp only [A9] at k17
  have hlt : i < l.length := by (simpa using h17)
  obtain ⟨c, hx⟩ := get_some hlt
  have hcf := f3 c (G2 hx)
  refine C8 (A3 (D1 (A3 (A2 ?_))))
  refine A1 rfl (B7 rfl B6) ?_
  refine A4 (D1 ?_)
  refine AWP.le (H4 [0] rfl) ?_
  refine Q9 [(0, _), (1, _), (2, _), (3, _), (8, _), (10, _), (14, _), (15, _), (16, _), (17, _)] _ (fun (j : Nat) (w : Value) => j ≤ c.Vers.length) (fun (j : Nat) (w : Value) => [.arr w 63 5 ((M.insAll [] (partItems l i c j g a u)).map TFeedItem.cs)]) (fun (j : Nat) (w : Value) => [(9, AV.is w), (11, AV.int j)]) (fun (j : Nat) (w : Value) => c.Vers.length - j) (0) (v) ?_ (S6 (by (rw [AN6]; rfl)) ⟨rfl, rfl, rfl, rfl, rfl, rfl, rfl, rfl, rfl, rfl, rfl, rfl, trivial⟩) ?_
  ·exact Nat.zero_le _
  intro j w hinv
  refine A3 (A3 (A2 ?_))
  refine A5 rfl ?_
  refine A5 rfl ?_
  refine A5 rfl ?_
  refine A1 rfl (J4 rfl C7 E2 (A0 rfl) (A0 rfl) hx (by first | omega | (simp only [C9, A8, szR] at *; omega))) ?_
  refine A1 rfl (V7 rfl F4 rfl K1 (A0 rfl) rfl) ?_
  refine A1 rfl (N9 rfl (A0 rfl) N5 rfl) ?_
  refine A1 rfl (H2 rfl G8 (A0 rfl)) ?_
  refine A1 rfl (K5 rfl (A0 rfl) (A0 rfl)) ?_
  refine A4 ?_
  refine C4 (A0 rfl) ?_ ?_
  ·intro h27
   have k27 := of_decide_eq_true h27; try simp only [A9] at k27
   have hlt1 : j < c.Vers.length := by (simpa using h27)
   obtain ⟨y, hy⟩ := get_some hlt1
   have hpl := Ao2 hg (i := i) (c := c) (g := g) (a := a) (u := u) (j := j) (by omega)
   refine C8 (A3 (D1 (A3 (A2 ?_))))
   refine A5 rfl ?_
   refine A5 rfl ?_
   refine A1 rfl (J4 rfl C7 E2 (A0 rfl) (A0 rfl) hx (by first | omega | (simp only [C9, A8, szR] at *; omega))) ?_
   refine A1 rfl (V7 rfl F4 rfl K1 (A0 rfl) rfl) ?_
   refine A1 rfl (N9 rfl (A0 rfl) N5 rfl) ?_
   refine A5 rfl ?_
   refine A1 rfl (J4 rfl G8 L1 (A0 rfl) (A0 rfl) hy (by first | omega | (simp only [C9, A8, szR] at *; omega))) ?_
   refine A1 rfl (L4 rfl (A0 rfl) a6 L1) ?_
   refine G3 rfl rfl rfl rfl Tryz.zeroValue127 rfl ?_
   intro b12
   refine D7 0 rfl rfl rfl (A0 rfl) (A0 rfl) (F0 _) rfl L1 rfl ?_
   refine A4 (A3 (A2 ?_))
   refine A1 rfl (B1 0 rfl J8 rfl B4 (A0 rfl) rfl) ?_
   refine A1 rfl (B0 0 rfl (A0 rfl) rfl C2 rfl) ?_
   refine A5 rfl ?_
   refine A1 rfl (O8 rfl (A0 rfl) (A0 rfl)) ?_
   refine A5 rfl ?_
   refine D0 rfl (fun hc => B1 0 rfl J8 rfl B4 (A0 rfl) rfl) ?_
   refine D0 rfl (fun hc => B0 0 rfl (A6 rfl hc) rfl C2 rfl) ?_
   refine D0 rfl (fun hc => B9 rfl (A0 rfl)) ?_
   refine D0 rfl (fun hc => V0 rfl (A6 rfl hc) (A6 rfl hc)) ?_
   refine A1 rfl (I1 rfl (A0 rfl) (F9 rfl)) ?_
   refine A4 ?_
   refine C4 (A0 rfl) ?_ ?_
   ·intro h47
    refine AWP.le (H4 [0] rfl) ?_
    refine AC0 _ 19 (.pure 0 (.pure 1 (.pure 2 (.pure 3 (.pure 4 (.pure 5 (.pure 6 (.pure 7 (.pure 8 (.pure 9 (.pure 10 (.pure 11 (.pure 12 (.pure 13 (.e1 14 (.pure 15 (.pure 16 (.pure 17 (.pure 18 .nil))))))))))))))))))) (by kernel_rfl) (by kernel_rfl) rfl (V3 1) ?_
    refine G6 rfl rfl rfl (fun ext => B9 rfl (A0 rfl)) ?_
    refine G6 rfl rfl rfl (fun ext => B1 0 rfl J8 rfl B4 (A0 rfl) rfl) ?_
    refine G6 rfl rfl rfl (fun ext => B0 0 rfl (A0 rfl) rfl C2 rfl) ?_
    refine G6 rfl rfl rfl (fun ext => B9 rfl (A0 rfl)) ?_
    refine G6 rfl rfl rfl (fun ext => B9 rfl (A0 rfl)) ?_
    refine G6 rfl rfl rfl (fun ext => B9 rfl (A0 rfl)) ?_
    refine G6 rfl rfl rfl (fun ext => J4 rfl C7 E2 (A0 rfl) (A0 rfl) hx (by first | omega | (simp only [C9, A8, szR] at *; omega))) ?_
    refine G6 rfl rfl rfl (fun ext => V7 rfl F4 rfl E5 (A0 rfl) rfl) ?_
    refine G6 rfl rfl rfl (fun ext => N9 rfl (A0 rfl) F7 rfl) ?_
    refine G6 rfl rfl rfl (fun ext => B1 1 rfl J8 rfl E5 (A0 rfl) rfl) ?_
    refine G6 rfl rfl rfl (fun ext => B0 0 rfl (A0 rfl) rfl F7 rfl) ?_
    refine G6 rfl rfl rfl (fun ext => B1 2 rfl J8 rfl J1 (A0 rfl) rfl) ?_
    refine G6 rfl rfl rfl (fun ext => B0 0 rfl (A0 rfl) rfl K9 rfl) ?_
    refine G6 rfl rfl rfl (fun ext => P0 (places := #[(0, 1), (1, 1), (2, 1), (3, 1), (4, 1)]) rfl J0 Tryz.zeroValue63 (fun w => by kernel_rfl) rfl (D3 (A0 rfl) (K4 _ _) (D3 (A0 rfl) (K4 _ _) (D3 (A0 rfl) (O5 _) (D3 (A0 rfl) (O5 _) (D3 (A0 rfl) (W7 _) I2))))) rfl) ?_
    refine X1 ?_
    refine U4 rfl rfl rfl (l8 [1] rfl Tryz.call69 rfl (Ax8 w (M.insAll [] (partItems l i c j g a u)) (itemOf g c.Key y) (by omega)) (A7 (A0 rfl) (A7 (A0 rfl) C6)) rfl) (fun a _ => (by first | exact F3 rfl | exact F3 (List.append_assoc _ _ _) | exact I3)) ?_
    intro x63 ok63
    refine G6 rfl rfl rfl (fun ext => B9 rfl (A0 rfl)) ?_
    refine G6 rfl rfl rfl (fun ext => I8 rfl (A0 rfl) rfl) ?_
    refine G6 rfl rfl rfl (fun ext => I8 rfl (A0 rfl) rfl) ?_
    refine G6 rfl rfl rfl (fun ext => B7 rfl (A0 rfl)) ?_
    refine d7 ?_
    refine A4 (A2 ?_)
    refine A5 rfl ?_
    refine A1 rfl (G7 rfl (A0 rfl) B6 (by first | omega | (simp only [C9, A8, szR] at *; omega))) ?_
    refine B5 rfl ?_
    refine A4 ?_
    refine P6 j w (j + 1) (x63) ?_ ?_ (Le.trans (H4 [0, 0] rfl) (L5 1 (by first | (rw [AJ0 hy h47, AY1]; rfl) | (rw [AO8 hy h47]; rfl)) ⟨rfl, rfl, rfl, rfl, rfl, rfl, rfl, rfl, rfl, rfl, rfl, rfl, trivial⟩))
    ·exact (by omega)
    omega
   intro h47
   refine C8 (A2 ?_)
   refine A5 rfl ?_
   refine A1 rfl (G7 rfl (A0 rfl) B6 (by first | omega | (simp only [C9, A8, szR] at *; omega))) ?_
   refine B5 rfl ?_
   refine A4 ?_
   refine P6 j w (j + 1) (w) ?_ ?_ (Le.trans (H4 [0, 0] rfl) (L5 1 (by first | (rw [AJ0 hy h47, AY1]; rfl) | (rw [AO8 hy h47]; rfl)) ⟨rfl, rfl, rfl, rfl, rfl, rfl, rfl, rfl, rfl, rfl, rfl, rfl, trivial⟩))
   ·exact (by omega)
   omega
  intro h27
  have k27 := of_decide_eq_false h27; try simp only [A9] at k27
  have hge1 : c.Vers.length ≤ j := by (simpa using h27)
  refine G9 ?_
  refine A2 ?_
  refine A5 rfl ?_
  refine A1 rfl (G7 rfl (A0 rfl) B6 (by first | omega | (simp only [C9, A8, szR] at *; omega))) ?_
  refine B5 rfl ?_
  refine A4 ?_
  refine P6 i v (i + 1) (w) ?_ ?_ (Le.trans (H4 [0] rfl) (S6 (by (rw [Ag0 hx hge1]; rfl)) ⟨rfl, rfl, rfl, rfl, rfl, rfl, rfl, trivial⟩))
  ·exact (by omega)
  omega
 intro h17
 have k17 := of_decide_eq_false h17; try simp only [A9] at k17
 have hge : l.length ≤ i := by (simpa using h17)
 rw [List.take_of_length_le hge]
 refine G9 ?_
 refine A3 (A2 ?_)
 refine A5 rfl ?_
 refine B5 rfl ?_
 refine A4 ?_
 refine C5 ?_
 exact M3 [0] v (trivial) rfl (by rfl) (P7 rfl (B8 rfl (by rfl)))
theorem Ax9 (l : List TCell) (g a u : Int) (hg : goodCells l = true) : FSpec Tryz.prog 46 [AV.list 2 (l.map TCell.cs), AV.int g, AV.int a, AV.int u] (AV.list 5 ((feedIn l g a u).map TFeedItem.cs)) :=
  T7 (BC0 l g a u hg) fun v _ => N8 (List.mem_singleton.2 rfl) J7
theorem Ai6 (s : TState) (g a u : Int) (hs : s.size ≤ 1048576) : FSpec Tryz.prog 15 [AV.agg s.cs, AV.int g, AV.int a, AV.int u] (AV.tup [AV.list 5 ((itemsR s g a u).1.map TFeedItem.cs), AV.bool (itemsR s g a u).2]) := by
 refine E9 Tryz.func15 rfl Tryz.ntmps15 rfl ?_
 refine A3 (A2 ?_)
 refine O3 rfl rfl rfl rfl (A0 rfl) ?_
 intro b4
 refine A1 rfl (B7 rfl (AY5 (sz := 5))) ?_
 refine A1 rfl (B7 rfl F8) ?_
 refine A4 (A3 (A3 (A2 ?_)))
 refine A1 rfl (G5 0 rfl (A0 rfl) rfl E6 C3 rfl) ?_
 refine A1 rfl (E8 rfl Tryz.call45 rfl (AT7 s hs) (A7 (A0 rfl) C6)) ?_
 refine A1 rfl (M5 rfl (A0 rfl)) ?_
 refine A5 rfl ?_
 refine H8 rfl (fun hc => B9 rfl (A0 rfl)) ?_
 refine H8 rfl (fun hc => E8 rfl Tryz.call39 rfl (X7 _ _ _) (A7 (A6 rfl hc) (A7 B6 (A7 B6 C6)))) ?_
 refine H8 rfl (fun hc => M5 rfl (A6 rfl hc)) ?_
 refine A1 rfl (R5 rfl (A0 rfl) (F9 rfl)) ?_
 refine A5 rfl ?_
 refine H8 rfl (fun hc => B9 rfl (A0 rfl)) ?_
 refine H8 rfl (fun hc => B9 rfl (A0 rfl)) ?_
 refine H8 rfl (fun hc => E8 rfl Tryz.call39 rfl (X7 _ _ _) (A7 (A6 rfl hc) (A7 B6 (A7 (A6 rfl hc) C6)))) ?_
 refine H8 rfl (fun hc => M5 rfl (A6 rfl hc)) ?_
 refine A1 rfl (R5 rfl (A0 rfl) (F9 rfl)) ?_
 refine A5 rfl ?_
 refine H8 rfl (fun hc => B9 rfl (A0 rfl)) ?_
 refine H8 rfl (fun hc => O8 rfl (A6 rfl hc) B6) ?_
 refine A1 rfl (R5 rfl (A0 rfl) (F9 rfl)) ?_
 refine A4 ?_
 refine C4 (A0 rfl) ?_ ?_
 ·intro h27
  have he := (Ag1 s g a u).1 h27
  rw [he]
  refine A3 (A2 ?_)
  refine A1 rfl (L2 rfl I6 L3 Tryz.zeroValue63 rfl rfl rfl rfl I2 rfl rfl) ?_
  refine B5 rfl ?_
  refine A1 rfl (B7 rfl F8) ?_
  refine A4 ?_
  refine C5 ?_
  exact i6 rfl (by decide) (F2 (B8 rfl (by rfl)) (F2 (B8 rfl (by rfl)) L7))
 intro h27
 obtain ⟨hgs, he⟩ := (Ag1 s g a u).2 h27
 rw [he]
 refine C8 (A3 (A2 ?_))
 refine A1 rfl (B1 1 rfl C0 rfl N2 (A0 rfl) rfl) ?_
 refine A1 rfl (B0 0 rfl (A0 rfl) rfl O9 rfl) ?_
 refine A5 rfl ?_
 refine A5 rfl ?_
 refine A5 rfl ?_
 refine A1 rfl (E8 rfl Tryz.call46 rfl (Ax9 s.Cells g a u (y9.1 hgs).cells) (A7 (A0 rfl) (A7 (A0 rfl) (A7 (A0 rfl) (A7 (A0 rfl) C6))))) ?_
 refine B5 rfl ?_
 refine A1 rfl (B7 rfl F8) ?_
 refine A4 ?_
 refine C5 ?_
 exact i6 rfl (by decide) (F2 (B8 rfl (by rfl)) (F2 (B8 rfl (by rfl)) L7))
end Go.Proofs.YtkegepoihkhihaaGreat

namespace Go.AV
def LA (x y : AV) : Prop := ∀ R v, x.den R v → y.den R v
theorem j9 {x : AV} : LA x x := fun _ _ h => h
theorem AO9 {sz : Nat} : LA AV.nils (AV.list sz []) := fun _ _ h => Ab5 _ _ h
def LAs (xs ys : List AV) : Prop := xs.length = ys.length ∧ ∀ (i : Nat) (x y : AV), xs[i]? = some x → ys[i]? = some y → LA x y
theorem At9 : LAs [] [] := ⟨rfl, fun i x y h => by simp at h⟩
theorem Y4 {x y : AV} {xs ys : List AV} (h : LA x y) (k : LAs xs ys) : LAs (x :: xs) (y :: ys) := ⟨by simp [k.1], fun i u v hu hv => by
  cases i with
  | zero => simp at hu hv; subst hu; subst hv; exact h
  | succ i => exact k.2 i u v (by simpa using hu) (by simpa using hv)⟩
theorem la_agg {xs ys : List AV} (h : LAs xs ys) : LA (AV.agg xs) (AV.agg ys) := fun R v ⟨vs, e, hl, hd⟩ =>
  ⟨vs, e, hl.trans h.1, fun i u y hu hy => by
    have hi : i < xs.length := by rw [h.1]; exact (List.getElem?_eq_some_iff.1 hy).1
    have hx := List.getElem?_eq_getElem hi
    obtain ⟨h1, h2⟩ := hd i u _ hu hx
    exact ⟨h.2 i _ _ hx hy R u h1, h2⟩⟩
theorem w_la {P : Program} {G : Nat → Prop} {n : Nat} {own : List Own} {o : Oper} {E : EnvF} {x y : AV} (h : OpW P G n own o E x) (l : LA x y) : OpW P G n own o E y := fun w0 R0 R a w h1 h2 h3 => Oper.wp_mono2 (fun _ _ ⟨v, R', e1, e2, e3, e4⟩ => ⟨v, R', e1, e2, e3, l _ _ e4⟩) (fun _ _ _ h => h) (h w0 R0 R a w h1 h2 h3)
end Go.AV
namespace Go.M
open Go.AV
theorem AA0 {l : List TRec} {n : Nat} (hl : l.length ≤ n) (h : ∀ r ∈ l, r.size ≤ 1000) : (stateOfR l).1.size ≤ n * 3004 := by
  unfold stateOfR
  split
  · have h1 := AI6 (stFrom zState l)
    have h2 := AC2 (m := 1000) (s := zState) (l := l) h
    have h3 : phi zState = 0 := rfl
    have h5 : l.length * (3 * (1 + 1000) + 1) ≤ n * 3004 := Nat.mul_le_mul hl (by decide)
    dsimp only; omega
  · exact Nat.zero_le _
end Go.M
namespace Go.Proofs.YtkegepoihkhihaaGreat
open Go Go.AV Go.M
attribute [local irreducible] OpW OpA OpS AWP FSpec ESpec GSpec OpE RetOk RetOkG RvDen Le Ev GuardIs SrcIs SrcE Int.tmod Int.tdiv IntKind.wrap bandI
theorem Ao3 (b : Nat) (code : List Int) (hcode : ByteL code) (c : TCur) (hp : c.p ≤ 700000) : GSpec Tryz.prog 75 [AV.ptr b 0] [.box b 114 (curC code c)] (fun x : TCur × TState => x.1.p ≤ c.p + 1500 ∧ x.2.size ≤ 40000) (fun x => [.box b 114 (curC code x.1)]) (fun x => AV.agg x.2.cs) := by
 refine I9 Tryz.func75 rfl Tryz.ntmps75 rfl ?_
 refine A3 (A2 ?_)
 refine G3 rfl rfl rfl rfl Tryz.zeroValue43 rfl ?_
 intro b2
 refine A4 (A3 (A3 (A2 ?_)))
 refine A5 rfl ?_
 refine J9 [1] rfl rfl rfl rfl Tryz.call114 rfl (r4 _ _ hcode _ _ (by omega) (by omega)) (A7 (A0 rfl) (A7 B6 C6)) rfl ?_
 intro x11 ok11
 refine A4 ?_
 refine C4 (A0 rfl) ?_ ?_
 ·intro h11
  refine A3 (A2 ?_)
  refine A5 rfl ?_
  refine J9 [0] rfl rfl rfl rfl Tryz.call115 rfl (AX5 _ _ hcode _ (by omega)) (A7 (A0 rfl) C6) rfl ?_
  intro x13 ok13
  refine D7 1 rfl rfl rfl (A0 rfl) (A0 rfl) (F0 _) rfl C3 rfl ?_
  refine A4 ?_
  refine C5 ?_
  (refine M3 [0] ((x13.1, x13.2)) ?_ rfl (by first | (dsimp only; rfl) | rfl) (P7 rfl (M2 (ys := _) 1 rfl rfl E6 C3 rfl)); (first | exact ⟨by dsimp only; omega, Nat.le_trans ok13.2.1 (by decide)⟩ | (have h9 := AA0 (n := 12) (l := l) (by omega) hinv.2.2.2; exact ⟨by dsimp only; omega, Nat.le_trans h9 (by decide)⟩)))
 intro h11
 refine C8 (A3 (A2 ?_))
 refine U3 rfl rfl rfl rfl I7 G1 ?_
 intro v14
 refine B5 rfl ?_
 refine A4 (A3 (A2 ?_))
 refine A5 rfl ?_
 refine J9 [1] rfl rfl rfl rfl Tryz.call76 rfl (R4 _ _ hcode _ _ (by omega) (by omega)) (A7 (A0 rfl) (A7 B6 C6)) rfl ?_
 intro x16 ok16
 refine B5 rfl ?_
 refine A4 (A3 (A3 (A2 ?_)))
 refine A1 rfl (B7 rfl B6) ?_
 refine A4 (D1 ?_)
 refine AWP.le (H4 [0, 0] rfl) ?_
 refine d9 [(0, _), (2, _), (4, _)] _ (fun (i : Nat) (cc : TCur) (l : List TRec) (v : Value) => i ≤ 6 ∧ cc.p ≤ c.p + 4 + 104 * i ∧ l.length ≤ 2 * i ∧ ∀ r ∈ l, r.size ≤ 1000) (fun (i : Nat) (cc : TCur) (l : List TRec) (v : Value) => [.box b 114 (curC code cc), .arr v 104 7 (l.map TRec.cs)]) (fun (i : Nat) (cc : TCur) (l : List TRec) (v : Value) => [(3, AV.is v), (5, AV.int i)]) (fun (i : Nat) (cc : TCur) (l : List TRec) (v : Value) => 6 - i) (0) (x16.1) ([]) (v14) ?_ (S6 (by rfl) ⟨rfl, rfl, rfl, rfl, rfl, trivial⟩) ?_
 ·exact ⟨by omega, by omega, by simp, fun r hr => by cases hr⟩
 intro i cc l v hinv
 refine A3 (A3 (A2 ?_))
 refine A5 rfl ?_
 refine A5 rfl ?_
 refine A1 rfl (K5 rfl (A0 rfl) (A0 rfl)) ?_
 refine A4 ?_
 refine C4 (A0 rfl) ?_ ?_
 ·intro h19
  have k19 := of_decide_eq_true h19; try simp only [A9] at k19
  refine C8 (A3 (D1 (A3 (A2 ?_))))
  refine A5 rfl ?_
  refine J9 [0] rfl rfl rfl rfl Tryz.call116 rfl (AR1 _ _ hcode _ (by omega)) (A7 (A0 rfl) C6) rfl ?_
  intro x23 ok23
  refine G3 rfl rfl rfl rfl Tryz.zeroValue104 rfl ?_
  intro b6
  refine D7 0 rfl rfl rfl (A0 rfl) (A0 rfl) (F0 _) rfl G1 rfl ?_
  refine A4 (A3 (A2 ?_))
  refine A5 rfl ?_
  refine A1 rfl (G5 0 rfl (A0 rfl) rfl N1 G1 rfl) ?_
  refine A1 rfl (L2 rfl I7 G1 Tryz.zeroValue104 rfl rfl rfl rfl (D3 (A0 rfl) (F0 _) I2) rfl rfl) ?_
  refine N3 (by' := 88) 2 rfl rfl rfl rfl I7 Tryz.type104 rfl rfl rfl rfl rfl rfl (A0 rfl) (A0 rfl) rfl (by first | omega | (simp only [C9, A8, szR] at *; omega)) ?_
  intro v27_1
  refine B5 rfl ?_
  refine A4 (A3 (A2 ?_))
  refine A1 rfl (B1 0 rfl B3 rfl B4 (A0 rfl) rfl) ?_
  refine A1 rfl (B0 0 rfl (A0 rfl) rfl C2 rfl) ?_
  refine A1 rfl (O7 rfl (A0 rfl) B6) ?_
  refine A5 rfl ?_
  refine D0 rfl (fun hc => B9 rfl (A0 rfl)) ?_
  refine AB9 rfl rfl (H1 rfl rfl rfl) ?_ ?_
  ·intro gh33
   refine J9 [1] rfl rfl rfl rfl Tryz.call76 rfl (R4 _ _ hcode _ _ (by omega) (by omega)) (A7 (A6 rfl gh33) (A7 B6 C6)) rfl ?_
   intro x33 ok33
   refine D0 rfl (fun hc => O8 rfl (A0 rfl) B6) ?_
   refine A1 rfl (I1 rfl (A0 rfl) (F9 rfl)) ?_
   refine A4 ?_
   refine C4 (A0 rfl) ?_ ?_
   ·intro h35
    refine N7 (by first | (simp only [splice, pick, S4, S0, R7, Q4, R8, List.nil_append, S5, S1, List.append_nil, Q3, List.take_zero, Q5, List.drop_zero]; exact rfl) | exact rfl) ?_
    refine AWP.le (H4 [1] rfl) ?_
    refine S3 _ [(0, false), (1, false), (2, false), (3, false), (4, false), (5, false), (6, true), (7, false), (8, false), (9, false), (10, true)] (by kernel_rfl) (by kernel_rfl) rfl (V3 1) ?_
    refine F1 rfl rfl rfl (fun ext => B9 rfl (A0 rfl)) ?_
    refine F1 rfl rfl rfl (fun ext => B1 1 rfl B3 rfl B4 (A0 rfl) rfl) ?_
    refine F1 rfl rfl rfl (fun ext => B0 0 rfl (A0 rfl) rfl C2 rfl) ?_
    refine F1 rfl rfl rfl (fun ext => B1 2 rfl B3 rfl B4 (A0 rfl) rfl) ?_
    refine F1 rfl rfl rfl (fun ext => B0 0 rfl (A0 rfl) rfl C2 rfl) ?_
    refine F1 rfl rfl rfl (fun ext => B9 rfl (A0 rfl)) ?_
    refine T5 rfl rfl rfl (l8 [1] rfl Tryz.call76 rfl (R4 _ _ hcode _ _ (by omega) (by omega)) (A7 (A0 rfl) (A7 B6 C6)) rfl) (fun a _ => (by first | exact F3 rfl | exact F3 (List.append_assoc _ _ _) | exact I3)) ?_
    intro x42 ok42
    refine F1 rfl rfl rfl (fun ext => G7 rfl (A0 rfl) (A0 rfl) (by first | omega | (simp only [C9, A8, szR] at *; omega))) ?_
    refine F1 rfl rfl rfl (fun ext => (w_la (P0 (places := #[(0, 1), (1, 1), (2, 1), (3, 1), (4, 1), (5, 1), (6, 1)]) rfl B3 Tryz.zeroValue104 (fun w => by kernel_rfl) rfl (D3 B6 (K4 _ _) (D3 (A0 rfl) (K4 _ _) (D3 (A0 rfl) (K4 _ _) (D3 F8 (W7 _) I2)))) rfl) (la_agg (Y4 j9 (Y4 j9 (Y4 j9 (Y4 j9 (Y4 (AO9 (sz := 1)) (Y4 (AO9 (sz := 3)) (Y4 j9 At9)))))))))) ?_
    refine F1 rfl rfl rfl (fun ext => L2 rfl I7 G1 Tryz.zeroValue104 rfl rfl rfl rfl (D3 (A0 rfl) (F0 _) I2) rfl rfl) ?_
    refine T5 rfl rfl rfl (O4 (by' := 88) 1 rfl I7 Tryz.type104 rfl rfl rfl rfl rfl rfl (A0 rfl) (A0 rfl) rfl (by simp only [H5, A9, A8, I5, L6]; omega)) (fun a _ => (by first | exact F3 rfl | exact F3 (List.append_assoc _ _ _) | exact I3)) ?_
    intro v46_2 _
    refine g6 ?_
    refine B5 rfl ?_
    refine A4 (A2 ?_)
    refine A5 rfl ?_
    refine A1 rfl (G7 rfl (A0 rfl) B6 (by first | omega | (simp only [C9, A8, szR] at *; omega))) ?_
    refine B5 rfl ?_
    refine A4 ?_
    refine T8 i cc l v (i + 1) (x42.1) (l ++ [x23.2] ++ [⟨2, x23.2.Txn, x23.2.Time + x42.2, 0, [], [], true⟩]) (v46_2) ?_ ?_ (Le.trans (H4 [0, 2, 0] rfl) (L5 1 (by (first | rfl | (simp only [List.map_append]; rfl))) ⟨rfl, rfl, rfl, rfl, rfl, trivial⟩))
    ·exact ⟨by omega, by omega, by simp only [H5, I5, L6]; omega, fun q hq => by (rcases List.mem_append.1 hq with hq | hq; (first | exact hinv.2.2.2 q hq | (rcases List.mem_append.1 hq with hq | hq; (exact hinv.2.2.2 q hq); (rw [List.mem_singleton.1 hq]; exact ok23.2.1))); (rw [List.mem_singleton.1 hq]; first | exact ok23.2.1 | exact Nat.le_of_ble_eq_true rfl))⟩
    omega
   intro h35
   refine C8 (A2 ?_)
   refine A5 rfl ?_
   refine A1 rfl (G7 rfl (A0 rfl) B6 (by first | omega | (simp only [C9, A8, szR] at *; omega))) ?_
   refine B5 rfl ?_
   refine A4 ?_
   refine T8 i cc l v (i + 1) (x33.1) (l ++ [x23.2]) (v27_1) ?_ ?_ (Le.trans (H4 [1, 0, 0] rfl) (L5 1 (by (first | rfl | (simp only [List.map_append]; rfl))) ⟨rfl, rfl, rfl, rfl, rfl, trivial⟩))
   ·exact ⟨by omega, by omega, by simp only [H5, I5, L6]; omega, fun q hq => by (rcases List.mem_append.1 hq with hq | hq; (first | exact hinv.2.2.2 q hq | (rcases List.mem_append.1 hq with hq | hq; (exact hinv.2.2.2 q hq); (rw [List.mem_singleton.1 hq]; exact ok23.2.1))); (rw [List.mem_singleton.1 hq]; first | exact ok23.2.1 | exact Nat.le_of_ble_eq_true rfl))⟩
   omega
  intro gh33
  refine AB9 rfl rfl (H1 rfl rfl rfl) (fun hq => by rw [gh33] at hq; cases hq) (fun _ => ?_)
  refine A1 rfl (I1 rfl (A0 rfl) (As8 (x := AV.bool false) gh33)) ?_
  refine A4 ?_
  refine C4 (A0 rfl) ?_ ?_
  ·intro h35
   refine N7 (by first | (simp only [splice, pick, S4, S0, R7, Q4, R8, List.nil_append, S5, S1, List.append_nil, Q3, List.take_zero, Q5, List.drop_zero]; exact rfl) | exact rfl) ?_
   refine AWP.le (H4 [0] rfl) ?_
   refine S3 _ [(0, false), (1, false), (2, false), (3, false), (4, false), (5, false), (6, true), (7, false), (8, false), (9, false), (10, true)] (by kernel_rfl) (by kernel_rfl) rfl (V3 1) ?_
   refine F1 rfl rfl rfl (fun ext => B9 rfl (A0 rfl)) ?_
   refine F1 rfl rfl rfl (fun ext => B1 1 rfl B3 rfl B4 (A0 rfl) rfl) ?_
   refine F1 rfl rfl rfl (fun ext => B0 0 rfl (A0 rfl) rfl C2 rfl) ?_
   refine F1 rfl rfl rfl (fun ext => B1 2 rfl B3 rfl B4 (A0 rfl) rfl) ?_
   refine F1 rfl rfl rfl (fun ext => B0 0 rfl (A0 rfl) rfl C2 rfl) ?_
   refine F1 rfl rfl rfl (fun ext => B9 rfl (A0 rfl)) ?_
   refine T5 rfl rfl rfl (l8 [1] rfl Tryz.call76 rfl (R4 _ _ hcode _ _ (by omega) (by omega)) (A7 (A0 rfl) (A7 B6 C6)) rfl) (fun a _ => (by first | exact F3 rfl | exact F3 (List.append_assoc _ _ _) | exact I3)) ?_
   intro x42 ok42
   refine F1 rfl rfl rfl (fun ext => G7 rfl (A0 rfl) (A0 rfl) (by first | omega | (simp only [C9, A8, szR] at *; omega))) ?_
   refine F1 rfl rfl rfl (fun ext => (w_la (P0 (places := #[(0, 1), (1, 1), (2, 1), (3, 1), (4, 1), (5, 1), (6, 1)]) rfl B3 Tryz.zeroValue104 (fun w => by kernel_rfl) rfl (D3 B6 (K4 _ _) (D3 (A0 rfl) (K4 _ _) (D3 (A0 rfl) (K4 _ _) (D3 F8 (W7 _) I2)))) rfl) (la_agg (Y4 j9 (Y4 j9 (Y4 j9 (Y4 j9 (Y4 (AO9 (sz := 1)) (Y4 (AO9 (sz := 3)) (Y4 j9 At9)))))))))) ?_
   refine F1 rfl rfl rfl (fun ext => L2 rfl I7 G1 Tryz.zeroValue104 rfl rfl rfl rfl (D3 (A0 rfl) (F0 _) I2) rfl rfl) ?_
   refine T5 rfl rfl rfl (O4 (by' := 88) 1 rfl I7 Tryz.type104 rfl rfl rfl rfl rfl rfl (A0 rfl) (A0 rfl) rfl (by simp only [H5, A9, A8, I5, L6]; omega)) (fun a _ => (by first | exact F3 rfl | exact F3 (List.append_assoc _ _ _) | exact I3)) ?_
   intro v46_3 _
   refine g6 ?_
   refine B5 rfl ?_
   refine A4 (A2 ?_)
   refine A5 rfl ?_
   refine A1 rfl (G7 rfl (A0 rfl) B6 (by first | omega | (simp only [C9, A8, szR] at *; omega))) ?_
   refine B5 rfl ?_
   refine A4 ?_
   refine T8 i cc l v (i + 1) (x42.1) (l ++ [x23.2] ++ [⟨2, x23.2.Txn, x23.2.Time + x42.2, 0, [], [], true⟩]) (v46_3) ?_ ?_ (Le.trans (H4 [0, 2, 0] rfl) (L5 1 (by (first | rfl | (simp only [List.map_append]; rfl))) ⟨rfl, rfl, rfl, rfl, rfl, trivial⟩))
   ·exact ⟨by omega, by omega, by simp only [H5, I5, L6]; omega, fun q hq => by (rcases List.mem_append.1 hq with hq | hq; (first | exact hinv.2.2.2 q hq | (rcases List.mem_append.1 hq with hq | hq; (exact hinv.2.2.2 q hq); (rw [List.mem_singleton.1 hq]; exact ok23.2.1))); (rw [List.mem_singleton.1 hq]; first | exact ok23.2.1 | exact Nat.le_of_ble_eq_true rfl))⟩
   omega
  intro h35
  refine C8 (A2 ?_)
  refine A5 rfl ?_
  refine A1 rfl (G7 rfl (A0 rfl) B6 (by first | omega | (simp only [C9, A8, szR] at *; omega))) ?_
  refine B5 rfl ?_
  refine A4 ?_
  refine T8 i cc l v (i + 1) (x23.1) (l ++ [x23.2]) (v27_1) ?_ ?_ (Le.trans (H4 [0, 0, 0] rfl) (L5 1 (by (first | rfl | (simp only [List.map_append]; rfl))) ⟨rfl, rfl, rfl, rfl, rfl, trivial⟩))
  ·exact ⟨by omega, by omega, by simp only [H5, I5, L6]; omega, fun q hq => by (rcases List.mem_append.1 hq with hq | hq; (first | exact hinv.2.2.2 q hq | (rcases List.mem_append.1 hq with hq | hq; (exact hinv.2.2.2 q hq); (rw [List.mem_singleton.1 hq]; exact ok23.2.1))); (rw [List.mem_singleton.1 hq]; first | exact ok23.2.1 | exact Nat.le_of_ble_eq_true rfl))⟩
  omega
 intro h19
 have k19 := of_decide_eq_false h19; try simp only [A9] at k19
 refine G9 ?_
 refine A3 (A2 ?_)
 refine A5 rfl ?_
 refine u7 (Z3 [1] 48 rfl rfl (N8 (G2 (i := 0) rfl) J7) (T6 0 rfl rfl Q1)) ?_
 refine A1 rfl (E8 rfl Tryz.call67 rfl (Aa7 l (by omega) (fun r hr => Nat.le_trans (hinv.2.2.2 r hr) (by decide))) (A7 (A0 rfl) C6)) ?_
 refine A5 rfl ?_
 refine A1 rfl (I8 rfl (A0 rfl) rfl) ?_
 refine A1 rfl (I8 rfl (A0 rfl) rfl) ?_
 refine A1 rfl (I8 rfl (A0 rfl) rfl) ?_
 refine G3 rfl rfl rfl rfl Tryz.zeroValue43 rfl ?_
 intro b7
 refine D7 0 rfl rfl rfl (A0 rfl) (A0 rfl) (F0 _) rfl C3 rfl ?_
 refine B5 rfl ?_
 refine B5 rfl ?_
 refine A4 (A3 (A3 (A2 ?_)))
 refine A5 rfl ?_
 refine J9 [1] rfl rfl rfl rfl Tryz.call114 rfl (r4 _ _ hcode _ _ (by omega) (by omega)) (A7 (A0 rfl) (A7 B6 C6)) rfl ?_
 intro x54 ok54
 refine A4 ?_
 refine C4 (A0 rfl) ?_ ?_
 ·intro h54
  refine A2 ?_
  refine A5 rfl ?_
  refine A1 rfl (L2 rfl T3 B4 Tryz.zeroValue3 rfl rfl rfl rfl (D3 B6 (K4 _ _) (D3 B6 (K4 _ _) (D3 B6 (K4 _ _) I2))) rfl rfl) ?_
  refine J9 [0] rfl rfl rfl rfl Tryz.call74 rfl (m1 _ _ hcode _ ([(-1), (0), (1)] : List Int) (by decide) (by omega)) (A7 (A0 rfl) (A7 (A0 rfl) C6)) rfl ?_
  intro x57 ok57
  refine A1 rfl (B1 0 rfl C0 rfl B4 (A0 rfl) rfl) ?_
  refine K3 1 rfl rfl rfl (A0 rfl) (A0 rfl) (K4 _ _) rfl B4 rfl ?_
  refine A4 (A3 (A2 ?_))
  refine A1 rfl (G5 1 rfl (A0 rfl) rfl E6 C3 rfl) ?_
  refine D7 2 rfl rfl rfl (A0 rfl) (A0 rfl) (F0 _) rfl C3 rfl ?_
  refine A4 ?_
  refine C5 ?_
  (refine M3 [0] ((x57.1, ⟨x57.2, (stateOfR l).1.Cells, (stateOfR l).1.Held, (stateOfR l).1.Told⟩)) ?_ rfl (by first | (dsimp only; rfl) | rfl) (P7 rfl (M2 (ys := _) 2 rfl rfl E6 C3 rfl)); (first | exact ⟨by dsimp only; omega, Nat.le_trans ok13.2.1 (by decide)⟩ | (have h9 := AA0 (n := 12) (l := l) (by omega) hinv.2.2.2; exact ⟨by dsimp only; omega, Nat.le_trans h9 (by decide)⟩)))
 intro h54
 refine C8 (A3 (A2 ?_))
 refine A1 rfl (G5 1 rfl (A0 rfl) rfl E6 C3 rfl) ?_
 refine D7 2 rfl rfl rfl (A0 rfl) (A0 rfl) (F0 _) rfl C3 rfl ?_
 refine A4 ?_
 refine C5 ?_
 (refine M3 [0] ((x54.1, (stateOfR l).1)) ?_ rfl (by first | (dsimp only; rfl) | rfl) (P7 rfl (M2 (ys := _) 2 rfl rfl E6 C3 rfl)); (first | exact ⟨by dsimp only; omega, Nat.le_trans ok13.2.1 (by decide)⟩ | (have h9 := AA0 (n := 12) (l := l) (by omega) hinv.2.2.2; exact ⟨by dsimp only; omega, Nat.le_trans h9 (by decide)⟩)))
theorem AY2 (code : List Int) (hcode : ByteL code) : GSpec Tryz.prog 34 [bytesI code] [] (fun x : TState × Int × Int × Int => x.1.size ≤ 40000 ∧ -1 ≤ x.2.1 ∧ x.2.1 ≤ 4) (fun x => []) (fun x => AV.tup [AV.agg x.1.cs, AV.int x.2.1, AV.int x.2.2.1, AV.int x.2.2.2]) := by
 refine I9 Tryz.func34 rfl Tryz.ntmps34 rfl ?_
 refine A3 (A2 ?_)
 refine G3 rfl rfl rfl rfl Tryz.zeroValue43 rfl ?_
 intro b2
 refine A1 rfl (B7 rfl B6) ?_
 refine A1 rfl (B7 rfl B6) ?_
 refine A1 rfl (B7 rfl B6) ?_
 refine A4 (A3 (A2 ?_))
 refine A5 rfl ?_
 refine A1 rfl (P0 (places := #[(0, 1), (1, 1), (2, 1)]) rfl M8 Tryz.zeroValue114 (fun w => by kernel_rfl) rfl (D3 (A0 rfl) (U8 _ _) I2) rfl) ?_
 refine O3 rfl rfl rfl rfl (A0 rfl) ?_
 intro b12
 refine B5 rfl ?_
 refine A4 (A3 (A2 ?_))
 refine A5 rfl ?_
 refine J9 [0] rfl rfl rfl rfl Tryz.call75 rfl (Ao3 _ _ hcode ⟨0, 0⟩ (by decide)) (A7 (A0 rfl) C6) rfl ?_
 intro x14 ok14
 have hp14 : x14.1.p ≤ 1500 := by (have h9 := ok14.1; dsimp only at h9; omega)
 refine G3 rfl rfl rfl rfl Tryz.zeroValue43 rfl ?_
 intro b7
 refine D7 0 rfl rfl rfl (A0 rfl) (A0 rfl) (F0 _) rfl C3 rfl ?_
 refine A4 (A3 (A2 ?_))
 refine A5 rfl ?_
 refine J9 [1] rfl rfl rfl rfl Tryz.call76 rfl (R4 _ _ hcode _ _ (by omega) (by omega)) (A7 (A0 rfl) (A7 B6 C6)) rfl ?_
 intro x16 ok16
 refine A1 rfl (P9 rfl (A0 rfl) B6 (by first | omega | (simp only [C9, A8, szR] at *; omega))) ?_
 refine B5 rfl ?_
 refine A4 (A3 (A2 ?_))
 refine A5 rfl ?_
 refine A1 rfl (L2 rfl T3 B4 Tryz.zeroValue3 rfl rfl rfl rfl (D3 B6 (K4 _ _) (D3 B6 (K4 _ _) (D3 B6 (K4 _ _) (D3 B6 (K4 _ _) (D3 B6 (K4 _ _) I2))))) rfl rfl) ?_
 refine J9 [0] rfl rfl rfl rfl Tryz.call74 rfl (m1 _ _ hcode _ ([(0), (0), (3), (10), (-1)] : List Int) (by decide) (by omega)) (A7 (A0 rfl) (A7 (A0 rfl) C6)) rfl ?_
 intro x20 ok20
 refine B5 rfl ?_
 refine A4 (A3 ?_)
 refine AWP.le (H4 [1] rfl) ?_
 refine AC0 _ 11 (.pure 0 (.pure 1 (.pure 2 (.pure 3 (.pure 4 (.pure 5 (.e1 6 (.e1 7 (.pure 8 (.pure 9 (.pure 10 .nil))))))))))) (by kernel_rfl) (by kernel_rfl) rfl (V3 1) ?_
 refine G6 rfl rfl rfl (fun ext => G5 0 rfl (A0 rfl) rfl E6 C3 rfl) ?_
 refine G6 rfl rfl rfl (fun ext => B9 rfl (A0 rfl)) ?_
 refine G6 rfl rfl rfl (fun ext => B9 rfl (A0 rfl)) ?_
 refine G6 rfl rfl rfl (fun ext => B9 rfl (A0 rfl)) ?_
 refine G6 rfl rfl rfl (fun ext => B9 rfl (A0 rfl)) ?_
 refine G6 rfl rfl rfl (fun ext => L2 rfl T3 B4 Tryz.zeroValue3 rfl rfl rfl rfl (D3 B6 (K4 _ _) (D3 B6 (K4 _ _) (D3 B6 (K4 _ _) (D3 (A0 rfl) (K4 _ _) (D3 B6 (K4 _ _) I2))))) rfl rfl) ?_
 refine X1 ?_
 refine U4 rfl rfl rfl (l8 [1] rfl Tryz.call74 rfl (m1 _ _ hcode _ [100000, 20, 7, x20.2, 100001] (show 1 ≤ 5 ∧ 5 ≤ 1000 by decide) (by omega)) (A7 (A0 rfl) (A7 (A0 rfl) C6)) rfl) (fun a _ => (by first | exact F3 rfl | exact F3 (List.append_assoc _ _ _) | exact I3)) ?_
 intro x27 ok27
 refine X1 ?_
 refine AL6 rfl rfl rfl (n1 1 rfl rfl (A0 rfl) (A0 rfl) (F0 _) rfl C3 rfl) (fun a _ => (by first | exact F3 rfl | exact F3 (List.append_assoc _ _ _) | exact I3)) ?_
 intro _ _
 refine G6 rfl rfl rfl (fun ext => B7 rfl (A0 rfl)) ?_
 refine G6 rfl rfl rfl (fun ext => B7 rfl (A0 rfl)) ?_
 refine G6 rfl rfl rfl (fun ext => B7 rfl (A0 rfl)) ?_
 refine d7 ?_
 refine A4 ?_
 refine C5 ?_
 (refine M3 [] ((x14.2, x16.2 - 1, x20.2, x27.2)) ?_ rfl (by first | (dsimp only; rfl) | rfl) (T2 rfl (by decide) (F2 (M2 (ys := _) 1 rfl rfl E6 C3 rfl) (F2 (B8 rfl (by rfl)) (F2 (B8 rfl (by rfl)) (F2 (B8 rfl (by rfl)) L7))))); exact ⟨ok14.2, by dsimp only; omega, by dsimp only; omega⟩)
end Go.Proofs.YtkegepoihkhihaaGreat

set_option maxHeartbeats 1000000
namespace Go.Proofs.YtkegepoihkhihaaGreat
open Go Go.AV Go.M
attribute [local irreducible] OpW OpA OpS AWP FSpec ESpec GSpec OpE RetOk RetOkG RvDen Le Ev GuardIs SrcIs Int.tmod Int.tdiv IntKind.wrap bandI
end Go.Proofs.YtkegepoihkhihaaGreat

namespace Go.Proofs.YtkegepoihkhihaaGreat
open Go Go.AV Go.M
attribute [local irreducible] OpW OpA OpS AWP FSpec ESpec GSpec OpE RetOk RetOkG RvDen Le Ev GuardIs SrcIs Int.tmod Int.tdiv IntKind.wrap bandI
theorem BC1 (code : List Int) : FSpec Tryz.prog 28 [bytesI code] (AV.bool (decide (65536 < (code.length : Int)))) := by
 refine E9 Tryz.func28 rfl Tryz.ntmps28 rfl ?_
 refine U6 (t := 0) rfl fun hl0 => ?_
 try simp only [A9] at hl0
 refine A3 (A2 ?_)
 refine A1 rfl (B7 rfl F8) ?_
 refine A4 (A3 (A2 ?_))
 refine A5 rfl ?_
 refine A1 rfl (H2 rfl X4 (A0 rfl)) ?_
 refine A1 rfl (O8 rfl (A0 rfl) B6) ?_
 refine B5 rfl ?_
 refine A4 ?_
 refine C5 ?_
 exact H9 rfl (B8 rfl (by (refine congrArg AV.bool ?_; simp only [A9])))
theorem Ar0 (a b : List TFeedItem) : FSpec Tryz.prog 30 [AV.list 5 (a.map TFeedItem.cs), AV.list 5 (b.map TFeedItem.cs)] (AV.bool (decide (a = b))) := by
 refine E9 Tryz.func30 rfl Tryz.ntmps30 rfl ?_
 refine U6 (t := 0) rfl fun hl => ?_
 try simp only [A9] at hl
 refine U6 (t := 1) rfl fun hl2 => ?_
 try simp only [A9] at hl2
 refine A3 (A2 ?_)
 refine A1 rfl (B7 rfl F8) ?_
 refine A4 (A3 (A3 (A2 ?_)))
 refine A5 rfl ?_
 refine A1 rfl (H2 rfl I6 (A0 rfl)) ?_
 refine A5 rfl ?_
 refine A1 rfl (H2 rfl I6 (A0 rfl)) ?_
 refine A1 rfl (n4 rfl (A0 rfl) (A0 rfl)) ?_
 refine A4 ?_
 refine C4 (A0 rfl) ?_ ?_
 ·intro h10
  have k10 := k6 h10; try simp only [A9] at k10
  have hne : decide (a = b) = false := decide_eq_false fun e => by (subst e; omega)
  rw [hne]
  refine A3 (A2 ?_)
  refine A1 rfl (B7 rfl F8) ?_
  refine A4 ?_
  refine C5 ?_
  exact H9 rfl (B8 rfl (by rfl))
 intro h10
 have k10 := X9 h10; try simp only [A9] at k10
 refine C8 (A3 (A3 (A2 ?_)))
 refine A1 rfl (B7 rfl B6) ?_
 refine A4 (D1 ?_)
 refine J6 [(0, _), (1, _)] _ (fun (i : Nat) => i ≤ a.length ∧ a.take i = b.take i) (fun (i : Nat) => []) (fun (i : Nat) => [(5, AV.int i)]) (fun (i : Nat) => a.length - i) (0) ?_ (K0 ⟨rfl, rfl, rfl, trivial⟩) ?_
 ·exact ⟨Nat.zero_le _, rfl⟩
 intro i hinv
 refine A3 (A3 (A2 ?_))
 refine A5 rfl ?_
 refine A5 rfl ?_
 refine A1 rfl (H2 rfl I6 (A0 rfl)) ?_
 refine A1 rfl (K5 rfl (A0 rfl) (A0 rfl)) ?_
 refine A4 ?_
 refine C4 (A0 rfl) ?_ ?_
 ·intro h14
  have k14 := of_decide_eq_true h14; try simp only [A9] at k14
  have hlt : i < a.length := by omega
  obtain ⟨x, hx⟩ := get_some hlt
  obtain ⟨y, hy⟩ := get_some (show i < b.length by omega)
  refine C8 (A3 (D1 (A3 ?_)))
  refine J5 (by kernel_rfl) (by kernel_rfl) rfl ?_
  refine B2 rfl rfl (B9 rfl (A0 rfl)) ?_
  refine B2 rfl rfl (B9 rfl (A0 rfl)) ?_
  refine B2 rfl rfl (J4 rfl I6 L3 (A0 rfl) (A0 rfl) hx (by first | omega | (simp only [C9, A8, szR] at *; omega))) ?_
  refine B2 rfl rfl (L4 rfl (A0 rfl) U1 L3) ?_
  refine B2 rfl rfl (B9 rfl (A0 rfl)) ?_
  refine B2 rfl rfl (B9 rfl (A0 rfl)) ?_
  refine B2 rfl rfl (J4 rfl I6 L3 (A0 rfl) (A0 rfl) hy (by first | omega | (simp only [C9, A8, szR] at *; omega))) ?_
  refine B2 rfl rfl (L4 rfl (A0 rfl) U1 L3) ?_
  refine B2 rfl rfl (w_aneq rfl J0 (by kernel_rfl) (by kernel_rfl) (A0 rfl) (A0 rfl) (Z0 (by kernel_rfl) C2 rfl rfl (AF8 P8) (Z0 (by kernel_rfl) C2 rfl rfl (AF8 P8) (Z0 (by kernel_rfl) F7 rfl rfl (AF9 M6) (Z0 (by kernel_rfl) F7 rfl rfl (AF9 M6) (Z0 (by kernel_rfl) K9 rfl rfl (AS1 Y5) AY8)))))) ?_
  refine P2 ?_
  refine C4 (A0 rfl) ?_ ?_
  ·intro h25
   have hne : decide (a = b) = false := decide_eq_false fun e => by (subst e; rw [hx] at hy; injection hy with hy; rw [t7] at h25; simp [hy] at h25)
   rw [hne]
   refine A3 (A2 ?_)
   refine A1 rfl (B7 rfl F8) ?_
   refine A4 ?_
   refine C5 ?_
   exact H9 rfl (B8 rfl (by rfl))
  intro h25
  refine C8 (A2 ?_)
  refine A5 rfl ?_
  refine A1 rfl (G7 rfl (A0 rfl) B6 (by first | omega | (simp only [C9, A8, szR] at *; omega))) ?_
  refine B5 rfl ?_
  refine A4 ?_
  refine L9 i (i + 1) ?_ ?_ (K0 ⟨rfl, rfl, rfl, trivial⟩)
  ·exact ⟨by omega, by rw [List.take_add_one, List.take_add_one, hinv.2, hx, hy]; congr 2; rw [t7] at h25; simpa using h25⟩
  omega
 intro h14
 have k14 := of_decide_eq_false h14; try simp only [A9] at k14
 have hyes : decide (a = b) = true := decide_eq_true (by have h9 := hinv.2; rw [List.take_of_length_le (by omega), List.take_of_length_le (by omega)] at h9; exact h9)
 rw [hyes]
 refine G9 ?_
 refine A3 (A2 ?_)
 refine A1 rfl (B7 rfl F8) ?_
 refine A4 ?_
 refine C5 ?_
 exact H9 rfl (B8 rfl (by rfl))
end Go.Proofs.YtkegepoihkhihaaGreat

namespace Go.M
open Go.AV
theorem AN7 (s : TState) (g : Int) : itemsR s g 0 100000 = ([], false) ∨ (goodCells s.Cells = true ∧ isGroup g = true ∧ itemsR s g 0 100000 = (feedIn s.Cells g 0 100000, true)) := by
  unfold itemsR
  split
  · rename_i h
    simp only [Bool.and_eq_true] at h
    exact .inr ⟨(y9.1 h.1.1.1.1).cells, h.1.1.1.2, rfl⟩
  · exact .inl rfl
theorem Ag3 {g : Int} (h : isGroup g = true) : isGroup (Int.tmod (g + 1) 4) = true ∧ g ≠ Int.tmod (g + 1) 4 := by
  unfold isGroup within at h ⊢
  simp only [Bool.and_eq_true, decide_eq_true_eq] at h ⊢
  rw [Int.tmod_eq_emod_of_nonneg (by omega)]
  omega
end Go.M
namespace Go.Proofs.YtkegepoihkhihaaGreat
open Go Go.AV Go.M
open Go.ChangeShapes Go.WideShapes Go.ChangeAt Go.RowKit
section
attribute [local irreducible] OpW OpA OpS AWP FSpec ESpec GSpec OpE RetOk RetOkG RvDen Le Ev GuardIs SrcIs Int.tmod
theorem Ai7 (s : TState) (g a u : Int) (hs : s.size ≤ 1048576) : FSpec Tryz.prog 17 [AV.agg s.cs, AV.int g, AV.int a, AV.int u] (AV.tup [AV.list 5 ((itemsR s g a u).1.map TFeedItem.cs), AV.bool (itemsR s g a u).2]) :=
  T7 (Ao1 s g a u hs) fun v _ => AV0 (H7 (N8 (List.mem_singleton.2 rfl) J7) (H7 M9 V9))
theorem AE0 (l : List TCell) (w : List TFeedItem) (g : Int) (hs : sizeL TCell.size l ≤ 1048576) (hw : sizeL TFeedItem.size w ≤ 1048576) : FSpec Tryz.prog 35 [AV.list 2 (l.map TCell.cs), AV.list 5 (w.map TFeedItem.cs), AV.int g] (AV.tup [AV.list 2 ((feedCells l w g).1.map TCell.cs), AV.bool (feedCells l w g).2]) :=
  T7 (Ai4 l w g hs hw) fun x h => AV0 (H7 (j0 TCell.lcM h 0 rfl fun o ho => List.mem_cons_of_mem _ ho) (H7 M9 V9))
theorem Ai8 {l : List TCell} {g : Int} (h : goodCells l = true) (hg : isGroup g = true) : FSpec Tryz.prog 35 [AV.list 2 [], AV.list 5 ((feedIn l g 0 100000).map TFeedItem.cs), AV.int g] (AV.tup [AV.list 2 (l.map TCell.cs), AV.bool true]) := by
  have h1 := AE0 [] (feedIn l g 0 100000) g (by decide) (Nat.le_trans (Ag2 (w6 h hg 0 100000).1) (by decide))
  rw [rebuild h hg] at h1
  exact h1
theorem Ai9 {l : List TCell} {g : Int} (h : goodCells l = true) (hg : isGroup g = true) (hs : sizeL TCell.size l ≤ 1048576) : FSpec Tryz.prog 35 [AV.list 2 (l.map TCell.cs), AV.list 5 ((feedIn l g 0 100000).map TFeedItem.cs), AV.int (Int.tmod (g + 1) 4)] (AV.tup [AV.list 2 (l.map TCell.cs), AV.bool true]) := by
  have h1 := AE0 l (feedIn l g 0 100000) (Int.tmod (g + 1) 4) hs (Nat.le_trans (Ag2 (w6 h hg 0 100000).1) (by decide))
  rw [Ai5 h h hg (Ag3 hg).1 (Ag3 hg).2] at h1
  exact h1
theorem Ab2 (code : List Int) (hc : ∀ x ∈ code, (Lit.int .u8 x).wf = true) : FSpec Tryz.prog 8 [bytesI code] (AV.bool true) := by
 refine E9 Tryz.func8 rfl Tryz.ntmps8 rfl ?_
 refine A3 (A2 ?_)
 refine A1 rfl (B7 rfl F8) ?_
 refine A4 (A3 (A3 (A2 ?_)))
 refine A5 rfl ?_
 refine A1 rfl (E8 rfl Tryz.call28 rfl (BC1 _) (A7 (A0 rfl) C6)) ?_
 refine A4 ?_
 refine C4 (A0 rfl) ?_ ?_
 ·intro h16
  refine A3 (A2 ?_)
  refine A1 rfl (B7 rfl F8) ?_
  refine A4 ?_
  refine C5 ?_
  exact H9 rfl (B8 rfl (by first | rfl | exact congrArg AV.bool (by simp)))
 intro h16
 have hb0 : ByteL code := byteL_of hc
 refine C8 (A3 (A2 ?_))
 refine A5 rfl ?_
 refine J9 [] rfl rfl rfl rfl Tryz.call34 rfl (AY2 code hb0) (A7 (A0 rfl) C6) rfl ?_
 intro x19 ok19
 obtain ⟨⟨s, g, a, u⟩, hx19⟩ : ∃ z, x19 = z := ⟨_, rfl⟩
 subst hx19
 obtain ⟨hs, hg1, hg2⟩ := ok19
 dsimp only at hs hg1 hg2 ⊢
 have hsc : sizeL TCell.size s.Cells ≤ 40000 := (by unfold TState.size at hs; omega)
 refine A5 rfl ?_
 refine A1 rfl (I8 rfl (A0 rfl) rfl) ?_
 refine A1 rfl (I8 rfl (A0 rfl) rfl) ?_
 refine A1 rfl (I8 rfl (A0 rfl) rfl) ?_
 refine A1 rfl (I8 rfl (A0 rfl) rfl) ?_
 refine G3 rfl rfl rfl rfl Tryz.zeroValue43 rfl ?_
 intro b3
 refine D7 0 rfl rfl rfl (A0 rfl) (A0 rfl) (F0 _) rfl C3 rfl ?_
 refine B5 rfl ?_
 refine B5 rfl ?_
 refine B5 rfl ?_
 refine A4 (A3 (A2 ?_))
 refine A1 rfl (G5 0 rfl (A0 rfl) rfl E6 C3 rfl) ?_
 refine A5 rfl ?_
 refine A1 rfl (E8 rfl Tryz.call17 rfl (Ai7 s g 0 100000 (by omega)) (A7 (A0 rfl) (A7 (A0 rfl) (A7 B6 (A7 B6 C6))))) ?_
 refine A5 rfl ?_
 refine A1 rfl (I8 rfl (A0 rfl) rfl) ?_
 refine A1 rfl (I8 rfl (A0 rfl) rfl) ?_
 refine B5 rfl ?_
 refine B5 rfl ?_
 refine A4 (A3 (A3 (A2 ?_)))
 refine A1 rfl (G5 0 rfl (A0 rfl) rfl E6 C3 rfl) ?_
 refine A5 rfl ?_
 refine A1 rfl (E8 rfl Tryz.call15 rfl (Ai6 s g 0 100000 (by omega)) (A7 (A0 rfl) (A7 (A0 rfl) (A7 B6 (A7 B6 C6))))) ?_
 refine A5 rfl ?_
 refine A1 rfl (I8 rfl (A0 rfl) rfl) ?_
 refine A1 rfl (I8 rfl (A0 rfl) rfl) ?_
 refine B5 rfl ?_
 refine B5 rfl ?_
 refine A4 (A3 (A2 ?_))
 refine A5 rfl ?_
 refine A5 rfl ?_
 refine A1 rfl (w_bneq rfl Y5 (A0 rfl) (A0 rfl)) ?_
 refine A5 rfl ?_
 refine H8 rfl (fun hc => B9 rfl (A0 rfl)) ?_
 refine H8 rfl (fun hc => B9 rfl (A0 rfl)) ?_
 refine H8 rfl (fun hc => E8 rfl Tryz.call30 rfl (Ar0 _ _) (A7 (A6 rfl hc) (A7 (A6 rfl hc) C6))) ?_
 refine H8 rfl (fun hc => M5 rfl (A6 rfl hc)) ?_
 refine A1 rfl (R5 rfl (A0 rfl) (F9 rfl)) ?_
 refine A4 ?_
 refine C4 (A0 rfl) ?_ ?_
 ·intro h44
  exfalso; simp at h44
 intro h44
 refine C8 (A3 (A3 (A2 ?_)))
 refine A5 rfl ?_
 refine A1 rfl (M5 rfl (A0 rfl)) ?_
 refine A4 ?_
 refine C4 (A0 rfl) ?_ ?_
 ·intro h46
  have he : itemsR s g 0 100000 = ([], false) := (AN7 s g).elim id (fun ⟨_, _, h⟩ => by rw [h] at h46; cases h46)
  rw [he]
  refine A3 (A2 ?_)
  refine A5 rfl ?_
  refine A1 rfl (H2 rfl I6 (A0 rfl)) ?_
  refine A1 rfl (O7 rfl (A0 rfl) B6) ?_
  refine B5 rfl ?_
  refine A4 ?_
  refine C5 ?_
  exact H9 rfl (B8 rfl (by first | rfl | exact congrArg AV.bool (by simp)))
 intro h46
 obtain ⟨hgc, hgg, he⟩ := (AN7 s g).elim (fun h => by rw [h] at h46; cases h46) id
 rw [he]
 refine C8 (A3 (A2 ?_))
 refine A1 rfl (L2 rfl C7 E2 Tryz.zeroValue125 rfl rfl rfl rfl I2 rfl rfl) ?_
 refine A5 rfl ?_
 refine A5 rfl ?_
 refine A1 rfl (E8 rfl Tryz.call35 rfl (Ai8 hgc hgg) (A7 (A0 rfl) (A7 (A0 rfl) (A7 (A0 rfl) C6)))) ?_
 refine A5 rfl ?_
 refine A1 rfl (I8 rfl (A0 rfl) rfl) ?_
 refine A1 rfl (I8 rfl (A0 rfl) rfl) ?_
 refine B5 rfl ?_
 refine B5 rfl ?_
 refine A4 (A3 (A2 ?_))
 refine A1 rfl (B1 1 rfl C0 rfl N2 (A0 rfl) rfl) ?_
 refine A1 rfl (B0 0 rfl (A0 rfl) rfl O9 rfl) ?_
 refine A5 rfl ?_
 refine A5 rfl ?_
 refine A1 rfl (G7 rfl (A0 rfl) B6 (by first | omega | (simp only [C9, A8, szR] at *; omega))) ?_
 refine A1 rfl (w_rem rfl (A0 rfl) B6 (by first | omega | (simp only [C9, A8, szR] at *; omega))) ?_
 refine A1 rfl (E8 rfl Tryz.call35 rfl (Ai9 hgc hgg (by omega)) (A7 (A0 rfl) (A7 (A0 rfl) (A7 (A0 rfl) C6)))) ?_
 refine A5 rfl ?_
 refine A1 rfl (I8 rfl (A0 rfl) rfl) ?_
 refine A1 rfl (I8 rfl (A0 rfl) rfl) ?_
 refine B5 rfl ?_
 refine B5 rfl ?_
 refine A4 (A3 (A2 ?_))
 refine A5 rfl ?_
 refine A5 rfl ?_
 refine D0 rfl (fun hc => B9 rfl (A0 rfl)) ?_
 refine D0 rfl (fun hc => B1 1 rfl C0 rfl N2 (A0 rfl) rfl) ?_
 refine D0 rfl (fun hc => B0 0 rfl (A6 rfl hc) rfl O9 rfl) ?_
 refine D0 rfl (fun hc => E8 rfl Tryz.call36 rfl (AD5 s.Cells s.Cells (by omega)) (A7 (A6 rfl hc) (A7 (A6 rfl hc) C6))) ?_
 refine A1 rfl (I1 rfl (A0 rfl) (F9 rfl)) ?_
 refine A5 rfl ?_
 refine D0 rfl (fun hc => B9 rfl (A0 rfl)) ?_
 refine A1 rfl (I1 rfl (A0 rfl) (F9 rfl)) ?_
 refine A5 rfl ?_
 refine D0 rfl (fun hc => B9 rfl (A0 rfl)) ?_
 refine D0 rfl (fun hc => B1 1 rfl C0 rfl N2 (A0 rfl) rfl) ?_
 refine D0 rfl (fun hc => B0 0 rfl (A6 rfl hc) rfl O9 rfl) ?_
 refine D0 rfl (fun hc => E8 rfl Tryz.call36 rfl (AD5 s.Cells s.Cells (by omega)) (A7 (A6 rfl hc) (A7 (A6 rfl hc) C6))) ?_
 refine A1 rfl (I1 rfl (A0 rfl) (F9 rfl)) ?_
 refine B5 rfl ?_
 refine A4 ?_
 refine C5 ?_
 exact H9 rfl (B8 rfl (by first | rfl | exact congrArg AV.bool (by simp)))
end
theorem Ar1 : Opens Tryz.prog 59 (List Int) (fun l => [bytesI l]) (fun l => ∀ x ∈ l, (Lit.int .u8 x).wf = true) := Aq6 (sz := 1) X4 (by kernel_rfl) (BA9 Tryz.underlying5) (fun _ => rfl)
set_option maxRecDepth 100000 in
theorem fnRebuild_lifted (os : Os) (started : os.Started) (H : Type) (enc : TypeId × Value → H) :
    ReturnsInHanded {} Tryz.checked os 8 .any (Rows.fnRebuildSpec.pre6 enc Tryz.prog Tryz.f8 Rows.fnRebuildRow.domain false) (Rows.fnRebuildSpec.post enc Tryz.prog Tryz.f8 false true false false) := by
  refine returnsInHanded_of_change (C := Tryz.checked) (by kernel_rfl) started (by kernel_rfl) Tryz.func8
    (ChangeSpec.witness6 (enc := enc) (C := Tryz.checked) false ⟨#[], #[.slice none 0 0], []⟩ 8 (by kernel_rfl) (by kernel_rfl) (by kernel_rfl) (by kernel_rfl)) ?_
  intro W base args ds gs before hval0 hW hcnd _
  have hval : ∀ (j : Nat) t v, Tryz.f8.params[j]? = some t → args[j]? = some v → Value.okWide Tryz.prog W .any base t v := hval0
  have hW2 := hW
  obtain ⟨p, q, hA0, hV, rfl, hfz, hnd⟩ := hW
  have hA : DataW.TrodAll enc Tryz.prog W 0 (fun _ => true) true Tryz.f8.params.toList args.toList ds p := hA0
  rw [Tryz.params8] at hA hval
  obtain ⟨v0, vs0, d0, ds0, p0, q0, hargs, rfl, rfl, h0, r0⟩ := trodAll_cons hA
  obtain ⟨rfl, rfl, rfl⟩ := trodAll_nil r0
  obtain rfl : args = #[v0] := by cases args; simp_all
  obtain ⟨rfl, rfl⟩ := trodVars_none hV
  have lt0 : ∀ x ∈ p0, x.block < W.heap.size := by obtain ⟨m, hm⟩ := h0; exact DataW.trod_lt m _ _ _ hm
  obtain ⟨a0, w0, g0⟩ := arg_one (Ar1) (by obtain ⟨y1, y2, y3, rfl⟩ := okWide_slice X4 (hval 0 59 v0 rfl rfl); rfl) h0
  have hcall := BB0 (Ab2 a0 w0) (DenV.cons g0 (DenV.nil _))
  clear hA0 hval0
  refine Calls.mono hcall fun e W2 ⟨he, bel⟩ => ?_
  subst he
  exact ⟨_, rfl, _, _, _, [], _, [], hW2, trodAll_mk1 (shut_bool Y5 _), (trodAll_cons_mk (Below.trod (by kernel_rfl : laidOutB Tryz.prog = true) (by kernel_rfl) (of_decide_eq_true (by kernel_rfl)) h0 bel lt0) trodAll_mk0), rfl, bel.frame _, fun h => by cases h⟩
theorem Aj0 {a b : Bool} (h : a = true) (k : b = true) : (a && b) = true := by rw [h, k]; rfl
set_option maxRecDepth 100000 in
theorem AY3 : joinedFacts Tryz.pinned.checked.prog 8 Tryz.f8 Rows.fnRebuildSpec Rows.fnRebuildRow = true := by
  unfold joinedFacts
  iterate 18 (rw [Bool.and_assoc])
  refine Aj0 ?_ ?_
  · as_aux_lemma => kernel_rfl
  · as_aux_lemma => kernel_rfl
theorem fnRebuild_proved : Rows.FnRebuildSaid :=
  OpenClaim.holds_of_wide 8 Tryz.f8 rfl rfl rfl rfl rfl rfl rfl ⟨rfl, rfl, rfl, rfl, rfl⟩ rfl rfl rfl rfl rfl (by kernel_rfl) Tryz.func8 AY3
    (of_decide_eq_true (by kernel_rfl)) (by unfold Func.isWrapper; first | (rw [if_pos (by decide +kernel)]; kernel_rfl) | (rw [if_neg (by decide +kernel)]; exact ⟨rfl, rfl⟩))
    (fun os started H enc _ => fnRebuild_lifted os started H enc)
end Go.Proofs.YtkegepoihkhihaaGreat
