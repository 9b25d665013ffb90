/- Texts of the claim, part 11. -/
import Derived.Test.YtmggojkfhodjbaaGreatDoorZHistories10
set_option linter.defProp false
set_option linter.unusedVariables false
set_option linter.unusedSimpArgs false
set_option maxRecDepth 100000
set_option maxHeartbeats 4000000
namespace Go.M
open Go.AV
def AT0 (a b : E0) : Bool × Bool := if (Q7 a && Q7 b) = true then (ahead a b, true) else (false, false)
theorem DQ2 {a b : E0} : (AT0 b a).2 = (AT0 a b).2 ∧ ((AT0 a b).1 && (AT0 b a).1) = false := by
  unfold AT0;by_cases h : (Q7 a && Q7 b) = true
  · have h' : (Q7 b && Q7 a) = true := by rw [Bool.and_comm]; exact h
    rw [D3 h, D3 h'];rw [D8] at h;exact ⟨rfl, DL0 h.1 h.2⟩
  · have h' : ¬ (Q7 b && Q7 a) = true := by rw [Bool.and_comm]; exact h
    rw [C5 h, C5 h']; exact ⟨rfl, rfl⟩
theorem Da3 {buf : List A5} {got : List F9} {k : Str} {w : A5} (ha : adj T9 buf = true) (hw : buf[Ae0 buf k]? = some w) (hk : w.Key = k) : C4 buf got k = (w.Val, !w.Gone, true) := by
  have h := DU7 ha (C2 hw);rw [hk] at h;unfold lookW at h;unfold C4; rw [h]
theorem DQ3 {buf : List A5} {k : Str} (ha : adj T9 buf = true) (h : BC0 buf k = false) : buf.find? (fun w => w.Key == k) = none := by
  cases hl : buf.find? (fun w => w.Key == k) with
  | none => rfl
  | some w =>
    have h1 := Be9 (l := buf) (k := k) hl;have h2 : BC0 buf k = true := by rw [Cb0 ha]; exact Ab1.2 ⟨w, h1.1, h1.2⟩
    rw [h] at h2; cases h2
theorem Cd8 {l : List G7} {n : Int} (h : (AG5 l n).2 = true) : (Ac2 l n).toList = [(AG5 l n).1] := by
  unfold AG5 at h ⊢
  cases hf : Ac2 l n with
  | none => rw [hf] at h; cases h
  | some x => rfl
theorem Cv6 {l : List G7} {n : Int} (h : (AG5 l n).2 = false) : (Ac2 l n).toList = [] := by
  unfold AG5 at h
  cases hf : Ac2 l n with
  | none => rfl
  | some x => rw [hf] at h; cases h
theorem DG9 {w : D1} {t : B5} (h : AM7 w t = true) : SetB t ∧ t.Ops.length ≤ 8 ∧ AC4 t.Got = true := by
  unfold AM7 at h;simp only [D8] at h;obtain ⟨⟨⟨⟨⟨⟨⟨t1, t2⟩, t3⟩, t4⟩, t5⟩, t6⟩, t7⟩, t8⟩ := h;have h8 : t.Ops.length ≤ 8 := by have h9 := t1; unfold AB9 at h9; rw [D8, H5] at h9; have := h9.1; omega
  have hg := Au0 t3;exact ⟨⟨by omega, fun o ho => by have h9 := AT5 t1 o ho; exact ⟨L4 h9.size D4, h9.by', h9.key⟩, ⟨by have := hg.1; omega, fun g hm => L4 (hg.2 g hm) D4⟩⟩, h8, t3⟩
theorem Cd9 {w : D1} {l : B9} (h : w8 w l = true) : l.Got.length ≤ 8 := by
  unfold w8 at h;simp only [D8] at h;obtain ⟨⟨⟨⟨⟨⟨⟨l1, l2⟩, l3⟩, l4⟩, l5⟩, l6⟩, l7⟩, l8⟩ := h;exact (Au0 l4).1
end Go.M
namespace Go.Proofs.YtmggojkfhodjbaaGreatDoor
open Go.PQ
open Go Go.AV Go.M
attribute [local irreducible] OpW OpA OpS AWP K6 L8 K8 OpE K7 I7 L1 Le Ev G4 M7 j0 Int.tmod Int.tdiv IntKind.wrap T3
theorem Ci1 (l : List F9) : E1 27 [AV.list 3 (l.map F9.cs), AV.list 3 (l.map F9.cs)] (AV.bool true) := by
 refine B2 Tryz.func27 rfl Tryz.ntmps27 rfl ?_;refine m2 (t := 0) rfl fun hl => ?_;try simp only [A7] at hl
 refine zC ?_ ?_
 ·intro h10;exfalso; simp at h10
 intro h10;refine R9 ?_;refine F8 [(0, _), (1, _), (12, _)] _ (fun (i : Nat) => i ≤ l.length) (fun i => []) (fun i => [(13, AV.int i)]) (fun i => l.length - i) (0) ?_ (H0 A4) ?_
 ·exact E2 _
 intro i hinv;refine zK ?_ ?_
 ·intro h14 k14;have hlt : i < l.length := Ba9;obtain ⟨x, hx⟩ := B3 hlt;refine R12 ?_;refine zq168 ?_;refine R3 ?_;refine zq168 ?_;refine R1 ?_;refine B7 rfl rfl (BX4 rfl Tryz.underlying71 E6 E6 zA zA (AE0 E6 AB8 rfl rfl (BL7 O3) (AE0 E6 AB8 rfl rfl (BL7 O3) (AE0 E6 AE5 rfl rfl (BA6 W4) BL5)))) ?_;refine zC ?_ ?_
  ·intro h24;exfalso; rw [got_ne] at h24; simp at h24
  intro h24;refine R5 ?_;refine G5 i (i + 1) ?_ ?_ (H0 A4)
  ·exact qz8
  omega
 intro h14 k14;exact zq151
theorem CD7 (h : List E0) : E1 8 [AV.list 8 (h.map E0.cs), AV.list 8 (h.map E0.cs)] (AV.bool true) := by
 refine B2 Tryz.func8 rfl Tryz.ntmps8 rfl ?_;refine m2 (t := 0) rfl fun hl => ?_;try simp only [A7] at hl
 refine zC ?_ ?_
 ·intro h12;exfalso; simp at h12
 intro h12;refine R9 ?_;refine F8 [(1, _), (13, _), (14, _)] _ (fun (i : Nat) => i ≤ h.length) (fun i => []) (fun i => [(15, AV.int i)]) (fun i => h.length - i) (0) ?_ (K5 B8 A4) ?_
 ·exact E2 _
 intro i hinv;refine zK ?_ ?_
 ·intro h16 k16;have hlt : i < h.length := BI0;obtain ⟨x, hx⟩ := B3 hlt;refine zq23 ?_;intro b6;refine R7 ?_;refine A1 rfl (zX hx) ?_;refine R2 ?_;intro b7;refine R28 ?_;refine T6 rfl (fun hc => CF2 rfl W4 (A9 rfl hc) (A9 rfl hc)) ?_;refine R6 ?_;refine T6 rfl (fun hc => CF2 rfl W4 (A9 rfl hc) (A9 rfl hc)) ?_;refine R13 ?_;refine T6 rfl (fun hc => zG rfl Tryz.call27 (Ci1 x.Got) zS) ?_;refine R7 ?_;refine T6 rfl (fun hc => zG rfl Tryz.call28 (CC9 x.Writes x.Writes) zS) ?_;refine zC ?_ ?_
  ·intro h79;exfalso; simp at h79
  intro h79;refine R5 ?_;refine G5 i (i + 1) ?_ ?_ (Le.trans (B4 [0, 0] rfl) (C7 2 B8 A4))
  ·exact qz8
  omega
 intro h16 k16;exact zq151
theorem BZ9 (a b : E0) (ha : a.size ≤ 1048576) (hb : b.size ≤ 1048576) : E1 15 [AV.agg a.cs, AV.agg b.cs] (AV.tup [AV.bool (AT0 a b).1, AV.bool (AT0 a b).2]) := by
 refine B2 Tryz.func15 rfl Tryz.ntmps15 rfl ?_;refine R3 ?_;intro b2;refine R1 ?_;intro b3;refine R7 ?_;refine zF rfl Tryz.call33 (BW3 a ha) I4 ?_;refine R3 ?_;refine T6 rfl (fun hc => zG rfl Tryz.call33 (BW3 b hb) zS) ?_;refine zC ?_ ?_
 ·intro h13;have he : AT0 a b = (false, false) := qz199;rw [he];refine R6 ?_;exact zq66
 intro h13;have he : AT0 a b = (Go.M.ahead a b, true) := (by unfold AT0; rw [D3]; cases h1 : Q7 a <;> cases h2 : Q7 b <;> rw [h1, h2] at h13 <;> first | rfl | cases h13);rw [he];refine R5 ?_;refine zF rfl Tryz.call37 (DM9 a b) F4 ?_;refine R4 ?_;exact zq66
theorem CN1 (a b : E0) (ha : a.size ≤ 1048576) (hb : b.size ≤ 1048576) : E1 16 [AV.agg a.cs, AV.agg b.cs] (AV.tup [AV.bool (AT0 a b).1, AV.bool (AT0 a b).2]) := by
 refine B2 Tryz.func16 rfl Tryz.ntmps16 rfl ?_;refine R3 ?_;intro b2;refine R1 ?_;intro b3;refine R7 ?_;refine zF rfl Tryz.call38 (BO3 a ha) I4 ?_;refine R3 ?_;refine T6 rfl (fun hc => zG rfl Tryz.call38 (BO3 b hb) zS) ?_;refine zC ?_ ?_
 ·intro h13;have he : AT0 a b = (false, false) := qz199;rw [he];refine R6 ?_;exact zq66
 intro h13;have hab : Q7 a = true ∧ Q7 b = true := (by cases h1 : Q7 a <;> cases h2 : Q7 b <;> rw [h1, h2] at h13 <;> first | exact ⟨rfl, rfl⟩ | cases h13);have he : AT0 a b = (Go.M.ahead a b, true) := (by unfold AT0; rw [D3 (by rw [hab.1, hab.2]; rfl)]);rw [he];refine R5 ?_;refine zF rfl Tryz.call39 (Cf4 a b (by have h9 := (BF9 hab.1).2.2.1; omega)) F4 ?_;refine R4 ?_;exact zq66
theorem Bv4 (code : List Int) (hcode : AB3 code) : L7 17 [An4 code] [] (fun x : D1 => WZ x) (fun _ => []) (fun x => AV.agg x.cs) := by
  refine C6 Tryz.func17 rfl Tryz.ntmps17 rfl ?_;refine R3 ?_;intro b2;refine R6 ?_;intro b6;refine R5 ?_;refine zI [0] rfl Tryz.call40 (CD6 _ _ hcode ⟨0, 0⟩ D4) (A2 (A0 rfl) B0) rfl ?_;intro x8 ok8;refine R3 ?_;exact I5 [] (x8.2) (ok8.2) rfl B8 (N4 rfl (F5 (ys := _) 1 rfl rfl S9 M3 rfl))
theorem Bv5 (code : List Int) (hcode : AB3 code) : L7 5 [An4 code] [] (fun x : D1 => WZ x) (fun _ => []) (fun x => AV.agg x.cs) := by
  refine C6 Tryz.func5 rfl Tryz.ntmps5 rfl ?_;refine R3 ?_;intro b2;refine R4 ?_;refine zI [] rfl Tryz.call17 (Bv4 code hcode) I4 rfl ?_;intro x4 ok4;refine R3 ?_;exact I5 [] (x4) (ok4) rfl B8 (N4 rfl (F5 (ys := _) 0 rfl rfl S9 M3 rfl))
theorem Bg9 (code : List Int) (hcode : AB3 code) : L7 34 [An4 code] [] (fun x : List E0 => x.length ≤ 10 ∧ AN0 x) (fun _ => []) (fun x => AV.list 8 (x.map E0.cs)) := by
  refine C6 Tryz.func34 rfl Tryz.ntmps34 rfl ?_;refine zq48 ?_;refine R6 ?_;intro b6;refine R5 ?_;refine zI [0] rfl Tryz.call36 (BG2 _ _ hcode ⟨0, 0⟩ D4) (A2 (A0 rfl) B0) rfl ?_;intro x8 ok8;refine R3 ?_;exact I5 [] (x8.2) (ok8.2) rfl B8 M9
theorem Bk0 (code : List Int) (hcode : AB3 code) : L7 12 [An4 code] [] (fun x : List E0 => x.length ≤ 10 ∧ AN0 x) (fun _ => []) (fun x => AV.list 8 (x.map E0.cs)) := by
  refine C6 Tryz.func12 rfl Tryz.ntmps12 rfl ?_;refine zq48 ?_;refine R4 ?_;refine zI [] rfl Tryz.call34 (Bg9 code hcode) I4 rfl ?_;intro x4 ok4;refine R3 ?_;exact I5 [] (x4) (ok4) rfl B8 M9
theorem BH9 (h : List E0) (hs : ∀ d ∈ h, d.size ≤ 1048576) : E1 9 [AV.list 8 (h.map E0.cs)] (AV.bool (AG4 h)) := by
  refine B2 Tryz.func9 rfl Tryz.ntmps9 rfl ?_;refine R7 ?_;refine zF rfl Tryz.call29 (Bp1 _ AK2) (A2 (A0 rfl) B0) ?_;refine R3 ?_;exact zq5
theorem DQ4 (r : F7) (h : 0 ≤ r.Sure ∧ r.Sure ≤ r.Log.length) : E1 108 [AV.agg r.cs] (AV.list 8 ((r.Log.take r.Sure.toNat).map K4.cs)) := by
  refine B2 Tryz.func108 rfl Tryz.ntmps108 rfl ?_;refine R3 ?_;intro b1;refine A1 rfl (E3 rfl (X1 (sz := 8))) ?_;refine R7 ?_;refine A1 rfl (AN5 rfl P8 X2 zA zA qz8 (by (try simp only [A7]); omega)) ?_;refine R3 ?_;exact D5 rfl (A8 rfl (by first | rfl | exact E5 (AV.list 8) (by rw [List.map_take])))
theorem Da4 (g : D0) (gg : GG g) : E1 107 [AV.agg g.cs] (AV.agg (AY4 g).cs) := by
 have h0l : 0 < g.Reps.length ∧ g.Reps.length ≤ 5 := by have := gg.many; omega
 have hr0 := AC3 (g := g) (r := 0) ⟨Int.le_refl _, by omega⟩;refine B2 Tryz.func107 rfl Tryz.ntmps107 rfl ?_;refine R3 ?_;intro b1;refine R1 ?_;intro b2;refine R5 ?_;refine A1 rfl (C8 rfl I0 L0 zA J4 hr0 qz3) ?_;refine R2 ?_;intro b3;refine R11 ?_;refine zL [0] ?_;refine J5 [(2, _), (3, _), (11, _), (12, _)] _ (fun (i : Nat) (p : F7) => i ≤ g.Reps.length ∧ (g.Reps.take i).foldl (fun b r => if b.Sure < r.Sure then r else b) (P0 g 0) = p) (fun i p => [.box b3 141 p.cs]) (fun i p => [(13, AV.int i)]) (fun i p => g.Reps.length - i) (0) (P0 g 0) ?_ (K5 B8 A4) ?_
 ·exact zq8
 intro i p hinv;refine zK ?_ ?_
 ·intro h14 k14;have hlt : i < g.Reps.length := Ba9;obtain ⟨x, hx⟩ := B3 hlt;refine zq0 ?_;intro b5;refine zK ?_ ?_
  ·intro h21 k21;refine R8 ?_;refine G0 i p (i + 1) (x) ?_ ?_ (Le.trans (B4 [0, 0] rfl) (C7 1 B8 A4))
   ·exact ⟨by omega, by rw [BS7 hx, hinv.2, D3 qz8]⟩
   omega
  intro h21 k21;refine R5 ?_;refine G0 i p (i + 1) (p) ?_ ?_ (Le.trans (B4 [0, 0] rfl) (C7 1 B8 A4))
  ·exact ⟨by omega, by rw [BS7 hx, hinv.2, C5 qz8]⟩
  omega
 intro h14 k14;have hge : g.Reps.length ≤ i := Ba9;have hb : AY4 g = p := (by have h9 := hinv.2; rw [T4 hge] at h9; exact h9);rw [hb];refine R7 ?_;exact D5 rfl (F5 (ys := _) 1 rfl rfl Tryz.isAgg141 L0 rfl)
theorem Cv7 (l : List K4) (hl : l.length ≤ 60) (hg : ∀ e ∈ l, T2 e.Rec = true) : E1 106 [AV.list 8 (l.map K4.cs)] (AV.agg (Y3 U9 (AK8 l)).cs) := by
 have hgr : ∀ r ∈ AK8 l, T2 r = true := fun r hr => by obtain ⟨e, he, rfl⟩ := m1.1 hr; exact hg e he
 have hrl : (AK8 l).length ≤ 60 := by unfold AK8; rw [A7]; exact hl
 refine B2 Tryz.func106 rfl Tryz.ntmps106 rfl ?_;refine R3 ?_;intro b2;refine R3 ?_;refine P4 rfl rfl rfl rfl AN3 AJ7 ?_;intro v8;refine R10 ?_;refine zL [0] ?_;refine J5 [(2, _), (9, _), (10, _)] _ (fun (i : Nat) (v : Value) => i ≤ l.length) (fun i v => [.arr v 190 7 ((AK8 (l.take i)).map N9.cs)]) (fun i v => [(3, AV.is v), (11, AV.int i)]) (fun i v => l.length - i) (0) (v8) ?_ (K5 B8 A4) ?_
 ·exact E2 _
 intro i v hinv;refine zK ?_ ?_
 ·intro h12 k12;have hlt : i < l.length := (by simpa using h12);obtain ⟨x, hx⟩ := B3 hlt;have hri : (AK8 (l.take i)).length ≤ 60 := qz195;refine zq0 ?_;intro b5;refine R5 ?_;refine A1 rfl (Bz9 _ 0 rfl zA rfl Ad3 AJ7 rfl rfl) ?_;refine R1 ?_;refine G1 (by' := 88) 1 rfl rfl rfl rfl AN3 Tryz.type190 rfl rfl rfl rfl rfl rfl zA zA rfl (by simp only [A7, W7]; omega) ?_;intro v19_1;refine R6 ?_;refine G0 i v (i + 1) (v19_1) ?_ ?_ (Le.trans (B4 [0, 0] rfl) (C7 1 (by (rw [Cc3 hx, X8]; rfl)) A4))
  ·exact qz8
  omega
 intro h12 k12;have hge : l.length ≤ i := (by simpa using h12);rw [T4 hge];refine R4 ?_;refine BD6 (AL9 [0] 22 rfl rfl (K3 (C2 (i := 0) rfl) F6) AU4) ?_;refine zI [] rfl Tryz.call152 (Cz4 (AK8 l) hgr hrl) I4 rfl ?_;intro x23 ok23;refine R4 ?_;intro b6;refine R9 ?_;exact D5 rfl (F5 (ys := _) 2 rfl rfl Q1 M2 rfl)
theorem CV5 (g : D0) (gg : GG g) : E1 55 [AV.agg g.cs] (AV.agg (AV9 g).cs) := by
  have hgr := gg.reps _ (Bt8 gg);have htl : ((AY4 g).Log.take (AY4 g).Sure.toNat).length ≤ 60 := by have := hgr.len; rw [H4]; omega
  refine B2 Tryz.func55 rfl Tryz.ntmps55 rfl ?_;refine R3 ?_;intro b1;refine R1 ?_;intro b2;refine R4 ?_;refine zF rfl Tryz.call107 (Da4 g gg) I4 ?_;refine zF rfl Tryz.call108 (DQ4 (AY4 g) hgr.sure) I4 ?_;refine zF rfl Tryz.call106 (Cv7 _ htl (fun e he => (hgr.ents e (AW6 he)).2.2)) I4 ?_;refine R3 ?_;exact D5 rfl (F5 (ys := _) 0 rfl rfl Q1 M2 rfl)
theorem CV6 (w : D1) (hl : w.Groups.length ≤ 3) (hg : ∀ g ∈ w.Groups, GG g) : L7 19 [AV.agg w.cs] [] (fun _ : Value => True) (fun v => [.arr v 60 4 ((W8 w).map E9.cs)]) (fun v => AV.is v) := by
 refine C6 Tryz.func19 rfl Tryz.ntmps19 rfl ?_;refine R3 ?_;intro b1;refine zq7 ?_;refine R3 ?_;refine P4 rfl rfl rfl rfl AC6 M2 ?_;intro v6;refine R11 ?_;refine zL [0] ?_;refine J5 [(2, _), (8, _), (9, _)] _ (fun (i : Nat) (v : Value) => i ≤ w.Groups.length) (fun i v => [.arr v 60 4 (((w.Groups.take i).map AV9).map E9.cs)]) (fun i v => [(3, AV.is v), (10, AV.int i)]) (fun i v => w.Groups.length - i) (0) (v6) ?_ (K5 B8 A4) ?_
 ·exact E2 _
 intro i v hinv;refine zK ?_ ?_
 ·intro h11 k11;have hlt : i < w.Groups.length := (by simpa using h11);obtain ⟨g, hgx⟩ := B3 hlt;have hgg := hg g (C2 hgx);refine R5 ?_;refine A1 rfl (zX hgx) ?_;refine R2 ?_;intro b5;refine R5 ?_;refine zF rfl Tryz.call55 (CV5 g hgg) I4 ?_;refine R1 ?_;refine G1 (by' := 80) 1 rfl rfl rfl rfl AC6 Tryz.type60 rfl rfl rfl rfl rfl rfl zA zA rfl qz165 ?_;intro v18_1;refine R6 ?_;refine G0 i v (i + 1) (v18_1) ?_ ?_ (Le.trans (B4 [0, 0] rfl) (C7 1 (by (rw [W1, hgx, X8, X8]; rfl)) A4))
  ·exact qz8
  omega
 intro h11 k11;have hge : w.Groups.length ≤ i := (by simpa using h11);rw [T4 hge];exact zq82
theorem CN2 (w : D1) (hl : w.Groups.length ≤ 3) (hg : ∀ g ∈ w.Groups, GG g) : E1 19 [AV.agg w.cs] (AV.list 4 ((W8 w).map E9.cs)) :=
  N1 (CV6 w hl hg) fun v _ => K3 (X9.2 rfl) F6
theorem BP2 {w : D1} (z : WZ w) (h : o9 w = true) : (∀ g ∈ w.Groups, GG g) ∧ GoodSs (W8 w) ∧ (W8 w).length ≤ 10 ∧ ∀ s ∈ W8 w, ∀ c ∈ s.Cells, c.Key ∈ AD0 := by
  have hp := Ar7.1 h;have hg : ∀ g ∈ w.Groups, GG g := fun g hgm => AN7.1 (hp.2.1.1 g hgm).1;refine ⟨hg, fun s hsm => ?_, ?_, fun s hsm => ?_⟩
  · obtain ⟨g, hgm, rfl⟩ := m1.1 hsm; exact (Av3 (hg g hgm)).cells
  · have := z.groups.1; unfold W8; rw [A7]; omega
  · obtain ⟨g, hgm, rfl⟩ := m1.1 hsm; exact (DU6 (hg g hgm) (z.groups.2 g hgm).2).cells
end Go.Proofs.YtmggojkfhodjbaaGreatDoor
namespace Go.Proofs.YtmggojkfhodjbaaGreatDoor
open Go.PQ
open Go Go.AV Go.M
attribute [local irreducible] OpW OpA OpS AWP K6 L8 K8 OpE K7 I7 L1 Le Ev G4 M7 j0 Int.tmod Int.tdiv IntKind.wrap T3
theorem Ba0 (s : Str) (hs : s.length ≤ 1048576) : E1 61 [AV.wt BA4 (AV.str s)] (AV.tup [AV.int (l5N s).1, AV.bool (l5N s).2]) := by
  rw [← DU3];refine B2 Tryz.func61 rfl Tryz.ntmps61 rfl ?_;refine zq129 ?_;refine R8 ?_;refine A1 rfl (Ac7 0 rfl rfl Tryz.call114 rfl (Cu3 _ _ _ W5) (A2 (A0 rfl) (A2 J4 (A2 J4 B0))) Ap6) ?_;refine R6 ?_;exact zq66
end Go.Proofs.YtmggojkfhodjbaaGreatDoor
namespace Go.Proofs.YtmggojkfhodjbaaGreatDoor
open Go.PQ
open Go Go.AV Go.M
attribute [local irreducible] OpW OpA OpS AWP K6 L8 K8 OpE K7 I7 L1 Le Ev G4 M7 j0 Int.tmod Int.tdiv IntKind.wrap T3
theorem Cv8 (k : Str) (buf : List A5) (got : List F9) (ha : adj T9 buf = true) (hb : buf.length ≤ 1000) : E1 59 [AV.str k, AV.list 3 (buf.map A5.cs), AV.list 3 (got.map F9.cs)] (AV.tup [AV.str (C4 buf got k).1, AV.bool (C4 buf got k).2.1, AV.bool (C4 buf got k).2.2]) := by
 refine B2 Tryz.func59 rfl Tryz.ntmps59 rfl ?_;refine m2 (t := 2) rfl fun hlg => ?_;try simp only [A7] at hlg
 refine zq149 ?_;refine R8 ?_;refine zF rfl Tryz.call112 (BB5 buf k qz8) F4 ?_;refine zC ?_ ?_
 ·intro h19;obtain ⟨w, hw, hwk⟩ := BN3.1 (show BC0 buf k = true by simpa using h19);rw [Da3 ha hw hwk];refine R4 ?_;refine B7 rfl rfl (zX hw) ?_;refine R4 ?_;refine B7 rfl rfl (zX hw) ?_;refine R8 ?_;exact zq159
 intro h19;have hnb := DQ3 ha (show BC0 buf k = false by simpa using h19);refine R9 ?_;refine F8 [(0, _), (31, _), (32, _)] _ (fun (j : Nat) => j ≤ got.length ∧ got.find? (fun g => g.Key == k) = (got.drop j).find? (fun g => g.Key == k)) (fun j => []) (fun j => [(33, AV.int j)]) (fun j => got.length - j) (0) ?_ (H0 A4) ?_
 ·exact zq8
 intro j hinv;refine zK ?_ ?_
 ·intro h34 k34;have hlt1 : j < got.length := Br8;obtain ⟨y, hy⟩ := B3 hlt1;refine zq106 ?_;intro b12;refine zC ?_ ?_
  ·intro h40;have he : C4 buf got k = (y.Val, y.There, true) := (by unfold C4; rw [hnb, hinv.2, Af4 hy, D3 h40]);rw [he];refine R11 ?_;exact zq159
  intro h40;refine R5 ?_;refine G5 j (j + 1) ?_ ?_ (S4 1 A4)
  ·exact ⟨by omega, by rw [hinv.2, Af4 hy, C5 (by rw [h40]; decide)]⟩
  omega
 intro h34 k34;have hge1 : got.length ≤ j := Br8;have he : C4 buf got k = ([], false, false) := (by unfold C4; rw [hnb, hinv.2, n5 hge1]; rfl);rw [he];refine R3 ?_;refine zq3 ?_;refine R4 ?_;exact zq159
theorem DQ5 (o : TOp) (val : Str) (there : Bool) (hv : val.length ≤ 1048576) (hb : -10000 ≤ o.By ∧ o.By ≤ 10000) : E1 60 [AV.wt BA4 (AV.agg o.cs), AV.str val, AV.bool there] (AV.bool (AS8 o val there)) := by
 have hr := Cc8 val;refine B2 Tryz.func60 rfl Tryz.ntmps60 rfl ?_;refine zq129 ?_;refine R3 ?_;intro b3;refine R5 ?_;refine A1 rfl (Ac7 1 rfl rfl Tryz.call61 rfl (Ba0 val hv) I4 Ap6) ?_;refine zC ?_ ?_
 ·intro h16;have k16 := J3 h16;(try simp only [A7] at k16);rw [holds4 k16];refine R11 ?_;refine AC2 rfl rfl (Z4 rfl rfl rfl) (fun hc => zG rfl Tryz.call45 (Z2 _ _ _) (A2 (A9 rfl hc) AP3)) ?_;exact zq63
 intro h16;have k16 := J0 h16;(try simp only [A7] at k16);refine zC ?_ ?_
 ·intro h30;have k30 := J3 h30;(try simp only [A7] at k30);rw [holds5 k30];refine R15 ?_;exact zq5
 intro h30;have k30 := J0 h30;(try simp only [A7] at k30);refine zC ?_ ?_
 ·intro h42;have k42 := J3 h42;(try simp only [A7] at k42);rw [holds6 k42];refine R7 ?_;exact zq5
 intro h42;have k42 := J0 h42;(try simp only [A7] at k42);refine zC ?_ ?_
 ·intro h46;have k46 := J3 h46;(try simp only [A7] at k46);rw [holds7 k46];refine R12 ?_;exact zq5
 intro h46;have k46 := J0 h46;(try simp only [A7] at k46);rw [holds0 ⟨k16, k30, k42, k46⟩];exact zq151
theorem Cv9 (l : List TOp) (got : List F9) (hl : l.length ≤ 900) (ho : ∀ o ∈ l, Aj0 1000 o) (hgot : ∀ g ∈ got, g.size ≤ 1000) (hcg : CO3 got) : E1 23 [AV.wt BA4 (AV.list 4 (l.map TOp.cs)), AV.list 3 (got.map F9.cs)] (AV.tup [AV.int (Q2 l got).1, AV.str (Q2 l got).2.1, AV.list 3 ((Q2 l got).2.2.map A5.cs)]) := by
 refine B2 Tryz.func23 rfl Tryz.ntmps23 rfl ?_;refine zq129 ?_;refine zq174 ?_;refine R3 ?_;refine zq171 ?_;intro v15;refine R10 ?_;refine V8 [(1, _), (16, _), (17, _)] _ (fun (i : Nat) (buf : List A5) (v : Value) => i ≤ l.length ∧ Q2 l got = e8 got buf (l.drop i) ∧ adj T9 buf = true ∧ (∀ w ∈ buf, w.size ≤ 1000) ∧ buf.length ≤ i ∧ Bh5 buf) (fun i buf v => [.arr v 82 3 (buf.map A5.cs)]) (fun i buf v => [(7, AV.is v), (18, AV.int i)]) (fun i buf v => l.length - i) (0) ([]) (v15) ?_ (K5 B8 A4) ?_
 ·exact ⟨E2 _, rfl, rfl, fun w hw => absurd hw List.not_mem_nil, N2 _, calm_nil⟩
 intro i buf v hinv;refine zK ?_ ?_
 ·intro h19 k19;have hlt : i < l.length := Br5;obtain ⟨x, hx⟩ := B3 hlt;have hso := ho x (C2 hx);have hsv := BW6 (k := x.Key) hinv.2.2.2.1 hgot;refine zq0 ?_;intro b9;refine zC ?_ ?_
  ·intro h24;have k24 := J3 h24;(try simp only [A7] at k24);have hop := opPut2 (v := (C4 buf got x.Key).1) (t := (C4 buf got x.Key).2.1) (buf := buf) k24;have hgv := Ca4 (v := (C4 buf got x.Key).1) (t := (C4 buf got x.Key).2.1) (.inl k24);have hnx : Q2 l got = e8 got (U1 x (C4 buf got x.Key).1 (C4 buf got x.Key).2.1 buf) (l.drop (i + 1)) := (by rw [hinv.2.1, J7 hx, Ca3 (.inl k24)]);refine R8 ?_;refine zI [1] rfl Tryz.call58 (BO0 v buf ⟨x.Key, x.Val, false⟩ qz8) F4 rfl ?_;intro x32 ok32;refine R7 ?_;refine P6 i buf v (i + 1) (U1 x (C4 buf got x.Key).1 (C4 buf got x.Key).2.1 buf) (x32) ?_ ?_ (Le.trans (B4 [1, 0] rfl) (C7 1 Cj5 A4))
   ·exact ⟨by omega, hnx, AF4 hinv.2.2.1, AF6 hso.size D4 hso.by' (.inl hso.key) hgv hinv.2.2.2.1, by have h9 := AF5 (o := x) (v := (C4 buf got x.Key).1) (t := (C4 buf got x.Key).2.1) (buf := buf); omega, BJ3 hinv.2.2.2.2.2⟩
   omega
  intro h24;have k24 := J0 h24;(try simp only [A7] at k24);refine zC ?_ ?_
  ·intro h33;have k33 := J3 h33;(try simp only [A7] at k33);have hop := opPut3 (v := (C4 buf got x.Key).1) (t := (C4 buf got x.Key).2.1) (buf := buf) k33;have hgv := Ca4 (v := (C4 buf got x.Key).1) (t := (C4 buf got x.Key).2.1) (.inr k33);have hnx : Q2 l got = e8 got (U1 x (C4 buf got x.Key).1 (C4 buf got x.Key).2.1 buf) (l.drop (i + 1)) := (by rw [hinv.2.1, J7 hx, Ca3 (.inr k33)]);refine R6 ?_;refine zI [1] rfl Tryz.call58 (BO0 v buf ⟨x.Key, [], true⟩ qz8) F4 rfl ?_;intro x39 ok39;refine R7 ?_;refine P6 i buf v (i + 1) (U1 x (C4 buf got x.Key).1 (C4 buf got x.Key).2.1 buf) (x39) ?_ ?_ (Le.trans (B4 [1, 0] rfl) (C7 1 Cj5 A4))
   ·exact ⟨by omega, hnx, AF4 hinv.2.2.1, AF6 hso.size D4 hso.by' (.inl hso.key) hgv hinv.2.2.2.1, by have h9 := AF5 (o := x) (v := (C4 buf got x.Key).1) (t := (C4 buf got x.Key).2.1) (buf := buf); omega, BJ3 hinv.2.2.2.2.2⟩
   omega
  intro h33;have k33 := J0 h33;(try simp only [A7] at k33);refine R7 ?_;refine A1 rfl (m5 rfl Tryz.call59 rfl (Cv8 x.Key buf got hinv.2.2.1 qz8) (Aa8 (I6 (AA8 _) (I6 (U2 _) (I6 (U2 _) V6)))) (O6 (evb zA) (O6 (Au7 1 zA rfl) Aw3))) ?_;refine zC ?_ ?_
  ·intro h50;have he : Q2 l got = (1, x.Key, []) := (by rw [hinv.2.1, J7 hx, DV3 k24 k33 (by simpa using h50)]);rw [he];refine R6 ?_;refine B7 rfl rfl (E3 rfl (X1 (sz := 3))) ?_;refine R2 ?_;exact zq159
  intro h50;have hkn : (C4 buf got x.Key).2.2 = true := (by simpa using h50);refine R7 ?_;refine A1 rfl (Ac7 2 rfl rfl Tryz.call60 rfl (DQ5 x (C4 buf got x.Key).1 (C4 buf got x.Key).2.1 qz8 hso.by') AJ2 Ap6) ?_;refine zC ?_ ?_
  ·intro h57;have he : Q2 l got = (2, [], []) := (by rw [hinv.2.1, J7 hx, DL1 hkn (by simpa using h57)]);rw [he];refine zq174 ?_;refine R2 ?_;exact zq159
  intro h57;obtain ⟨hnx0, hgv⟩ := stepI_on (l := l.drop (i + 1)) hkn (show AS8 x (C4 buf got x.Key).1 (C4 buf got x.Key).2.1 = true by simpa using h57);have hnx : Q2 l got = e8 got (U1 x (C4 buf got x.Key).1 (C4 buf got x.Key).2.1 buf) (l.drop (i + 1)) := (by rw [hinv.2.1, J7 hx]; exact hnx0);refine zC ?_ ?_
  ·intro h60;have hop := opPut4 (k := x.Key) hinv.2.2.2.2.2 hcg (by simpa using h60);have har := Ax5 (by simpa using h60) hso.by' hgv;rw [CI0 hinv.2.2.2.2.2 hcg] at har;refine R3 ?_;refine A1 rfl (Ac7 2 rfl rfl Tryz.call61 rfl (Ba0 (C4 buf got x.Key).1 qz8) I4 Ap6) ?_;refine R6 ?_;refine M6 9 E6 E6 rfl ?_;refine R7 ?_;refine B7 rfl rfl (Ac7 2 rfl rfl Tryz.call62 rfl (Av5 ((l5N (C4 buf got x.Key).1).1 + x.By) qz8) I4 Ap6) ?_;refine R2 ?_;refine zI [1] rfl Tryz.call58 (BO0 v buf ⟨x.Key, Z6 ((l5N (C4 buf got x.Key).1).1 + x.By), false⟩ qz8) F4 rfl ?_;intro x75 ok75;refine R6 ?_;refine P6 i buf v (i + 1) (U1 x (C4 buf got x.Key).1 (C4 buf got x.Key).2.1 buf) (x75) ?_ ?_ (Le.trans (B4 [1, 0] rfl) (C7 1 Cj5 A4))
   ·exact ⟨by omega, hnx, AF4 hinv.2.2.1, AF6 hso.size D4 hso.by' (.inl hso.key) hgv hinv.2.2.2.1, by have h9 := AF5 (o := x) (v := (C4 buf got x.Key).1) (t := (C4 buf got x.Key).2.1) (buf := buf); omega, BJ3 hinv.2.2.2.2.2⟩
   omega
  intro h60;have hop := opPut0 (v := (C4 buf got x.Key).1) (t := (C4 buf got x.Key).2.1) (buf := buf) k24 k33 (by simpa using h60);refine R5 ?_;refine P6 i buf v (i + 1) (U1 x (C4 buf got x.Key).1 (C4 buf got x.Key).2.1 buf) (v) ?_ ?_ (Le.trans (B4 [0, 0] rfl) (C7 1 Cj5 A4))
  ·exact ⟨by omega, hnx, AF4 hinv.2.2.1, AF6 hso.size D4 hso.by' (.inl hso.key) hgv hinv.2.2.2.1, by have h9 := AF5 (o := x) (v := (C4 buf got x.Key).1) (t := (C4 buf got x.Key).2.1) (buf := buf); omega, BJ3 hinv.2.2.2.2.2⟩
  omega
 intro h19 k19;have hge : l.length ≤ i := Br5;have he : Q2 l got = (3, [], buf) := (by rw [hinv.2.1, n5 hge]; rfl);rw [he];refine R5 ?_;refine zq3 ?_;refine R3 ?_;refine Ak7 0 6 rfl rfl ?_;exact zq159
end Go.Proofs.YtmggojkfhodjbaaGreatDoor
namespace Go.Proofs.YtmggojkfhodjbaaGreatDoor
open Go.PQ
open Go Go.AV Go.M
attribute [local irreducible] OpW OpA OpS AWP K6 L8 K8 OpE K7 I7 L1 Le Ev G4 M7 j0 Int.tmod Int.tdiv IntKind.wrap T3
theorem Ci2 (s : E9) (n : Int) (hs : s.Told.length ≤ 1048576) (hp : s.Told.Pairwise fun a b => a.Txn < b.Txn) : E1 20 [AV.agg s.cs, AV.int n] (AV.tup [AV.agg (AG5 s.Told n).1.cs, AV.bool (AG5 s.Told n).2]) := by
 refine B2 Tryz.func20 rfl Tryz.ntmps20 rfl ?_;refine R3 ?_;intro b2;refine R1 ?_;intro b4;refine R6 ?_;refine zF rfl Tryz.call56 (Bi9 s n hs) F4 ?_;refine zC ?_ ?_
 ·intro h15;have he : AG5 s.Told n = (zTold, false) := by (unfold AG5; rw [CJ4.2 (by rw [← BZ3 hp]; simpa using h15)])
  rw [he];refine R7 ?_;exact zq160
 intro h15;obtain ⟨t, ht, htn⟩ := DW8 Bb0;have he : AG5 s.Told n = (t, true) := by (have h9 := DT4 hp (C2 ht); rw [htn] at h9; unfold AG5; rw [h9])
 rw [he];refine R6 ?_;refine A1 rfl (zX ht) ?_;refine R5 ?_;exact zq160
theorem Ba1 (l : List F9) (hl : l.length ≤ 4194304) : E1 24 [AV.list 3 (l.map F9.cs)] (AV.list 3 (l.map F9.cs)) :=
  N1 (Ce7 l hl) fun v _ => K3 (X9.2 rfl) F6
theorem CV7 (ss : List E9) (n : Int) (hl : ss.length ≤ 10) (hs : ∀ s ∈ ss, s.Told.length ≤ 100) : E1 73 [AV.list 4 (ss.map E9.cs), AV.int n] (AV.tup [AV.list 3 ((Az9 (y5 ss n)).1.map G7.cs), AV.bool (Az9 (y5 ss n)).2]) := by
 refine B2 Tryz.func73 rfl Tryz.ntmps73 rfl ?_;refine R2 ?_;refine zq35 ?_;refine R4 ?_;refine V0 62 3 rfl rfl rfl rfl I2 ?_;intro v6;refine R9 ?_;refine zL [0] ?_;refine J5 [(1, _), (4, _), (5, _), (13, _), (14, _)] _ (fun (i : Nat) (v : Value) => i ≤ ss.length) (fun i v => [.arr v 62 3 ((y5 (ss.take i) n).map G7.cs)]) (fun i v => [(6, AV.is v), (15, AV.int i)]) (fun i v => ss.length - i) (0) (v6) ?_ (K5 B8 A4) ?_
 ·exact E2 _
 intro i v hinv;refine zK ?_ ?_
 ·intro h16 k16;have hlt : i < ss.length := BI0;obtain ⟨s, hsx⟩ := B3 hlt;have hst := hs s (C2 hsx);have htl := BV4 (ss := ss.take i) (n := n);rw [H4] at htl;refine R5 ?_;refine A1 rfl (zX hsx) ?_;refine R2 ?_;intro b8;refine R6 ?_;refine zF rfl Tryz.call123 (AM1 s n qz8) F4 ?_;refine R4 ?_;intro b9;refine zC ?_ ?_
  ·intro h25;refine R4 ?_;refine G1 (by' := 24) 2 rfl rfl rfl rfl J2 Tryz.type62 rfl rfl rfl rfl rfl rfl zA zA rfl Aa6 ?_;intro v29_1;refine R6 ?_;refine G0 i v (i + 1) (v29_1) ?_ ?_ (Le.trans (B4 [0, 0, 0] rfl) (C7 2 qz178 A4))
   ·exact qz8
   omega
  intro h25;refine R5 ?_;refine G0 i v (i + 1) (v) ?_ ?_ (Le.trans (B4 [0, 0, 0] rfl) (C7 2 qz178 A4))
  ·exact qz8
  omega
 intro h16 k16;have hge : ss.length ≤ i := BI0;rw [T4 hge];have htl := BV4 (ss := ss) (n := n);refine R9 ?_;refine zL [0] ?_;refine F8 [(6, _), (31, _), (32, _)] _ (fun (j : Nat) => j ≤ (y5 ss n).length ∧ (∀ (k : Nat) (y : G7), k < j → (y5 ss n)[k]? = some y → (y5 ss n)[0]? = some y)) (fun j => [.arr v 62 3 ((y5 ss n).map G7.cs)]) (fun j => [(33, AV.int j)]) (fun j => (y5 ss n).length - j) (0) ?_ (K5 B8 A4) ?_
 ·exact ⟨E2 _, fun k y hk => absurd hk (Nat.not_lt_zero _)⟩
 intro j hinv;refine zK ?_ ?_
 ·intro h34 k34;have hlt1 : j < (y5 ss n).length := Br8;obtain ⟨x, hx⟩ := B3 hlt1;obtain ⟨x0, hx0⟩ := B3 (show 0 < (y5 ss n).length by omega);refine R5 ?_;refine A1 rfl (I3 0 rfl J2 O0 zA rfl zA qz8 AF3) ?_;refine A1 rfl (w5 0 rfl zA rfl AQ0 O0 qz25 D4) ?_;refine R1 ?_;intro b12;refine R6 ?_;refine B7 rfl rfl (I3 1 rfl J2 O0 zA rfl J4 qz8 AF3) ?_;refine B7 rfl rfl (w5 1 rfl zA rfl AQ0 O0 qz25 D4) ?_;refine zq146 ?_;refine zC ?_ ?_
  ·intro h41;rw [CS2] at h41;rw [DV4 hx0 hx (by simpa using h41)];refine R2 ?_;refine zq35 ?_;refine R3 ?_;exact zq66
  intro h41;rw [CS2] at h41;have hxe : x = x0 := (by simpa using h41);refine R5 ?_;refine G5 j (j + 1) ?_ ?_ (Le.trans (B4 [0, 0] rfl) (C7 1 B8 A4))
  ·exact ⟨by omega, fun k y hk hy => by by_cases hkj : k < j; exact hinv.2 k y hkj hy; have hke : k = j := qz8; subst hke; rw [hx] at hy; injection hy with hy; rw [← hy, hxe]; exact hx0⟩
  omega
 intro h34 k34;rw [sameL_ok (fun k y hy => hinv.2 k y (by have h9 := (G2.1 hy).1; omega) hy)];refine R8 ?_;refine Ak7 0 4 rfl rfl ?_;exact zq66
theorem CV8 (w : D1) (hl : w.Groups.length ≤ 3) (hgg : ∀ g ∈ w.Groups, GG g) : L7 72 [AV.agg w.cs] [] (fun _ : Value => True) (fun v => [.arr v 60 4 ((W8 w).map E9.cs)]) (fun v => AV.is v) := by
 refine C6 Tryz.func72 rfl Tryz.ntmps72 rfl ?_;refine R3 ?_;intro b1;refine zq7 ?_;refine R3 ?_;refine V0 60 4 rfl rfl rfl rfl I2 ?_;intro v3;refine R10 ?_;refine zL [0] ?_;refine J5 [(2, _), (7, _), (8, _)] _ (fun (i : Nat) (v : Value) => i ≤ w.Groups.length) (fun i v => [.arr v 60 4 (((w.Groups.take i).map AV9).map E9.cs)]) (fun i v => [(3, AV.is v), (9, AV.int i)]) (fun i v => w.Groups.length - i) (0) (v3) ?_ (K5 B8 A4) ?_
 ·exact E2 _
 intro i v hinv;refine zK ?_ ?_
 ·intro h10 k10;have hlt : i < w.Groups.length := Ab9;obtain ⟨g, hg⟩ := B3 hlt;have hgx := hgg g (C2 hg);refine R5 ?_;refine zq193 ?_;intro b5;refine R5 ?_;refine zF rfl Tryz.call122 (BO6 g hgx) I4 ?_;refine R1 ?_;refine G1 (by' := 80) 1 rfl rfl rfl rfl AC6 Tryz.type60 rfl rfl rfl rfl rfl rfl zA zA rfl qz165 ?_;intro v17_1;refine R6 ?_;refine G0 i v (i + 1) (v17_1) ?_ ?_ (Le.trans (B4 [0, 0] rfl) (C7 1 (by (rw [W1, hg, X8, X8]; rfl)) A4))
  ·exact qz8
  omega
 intro h10 k10;have hge : w.Groups.length ≤ i := Ab9;rw [T4 hge];exact zq82
theorem CN3 (w : D1) (hl : w.Groups.length ≤ 3) (hgg : ∀ g ∈ w.Groups, GG g) : E1 72 [AV.agg w.cs] (AV.list 4 ((W8 w).map E9.cs)) :=
  N1 (CV8 w hl hgg) fun v _ => K3 (X9.2 rfl) F6
theorem DQ6 (w : D1) (z : WZ w) (hgw : o9 w = true) : L7 26 [AV.agg w.cs] [] (fun _ : Value => True) (fun v => [.arr v 45 8 ((An3 w).map E0.cs)]) (fun v => AV.is v) := by
 have hgl := z.groups.1;obtain ⟨ws1, ws2, ws3, ws4⟩ := BP2 z hgw;have gw := BN7 hgw;have htl := gw.txns.1;have hll := gw.looks.1;have hst : ∀ s ∈ W8 w, s.Told.length ≤ 100 := fun s hs => by
  obtain ⟨g, hg, rfl⟩ := m1.1 hs;exact L4 (Av3 (ws1 g hg)).tlen D4
 have hdl : (r8 (W8 w) w.Txns w.Txns.length).length ≤ 6 := L4 Ax7 htl;refine C6 Tryz.func26 rfl Tryz.ntmps26 rfl ?_;refine R3 ?_;intro b1;refine zq7 ?_;refine R3 ?_;refine V0 45 8 rfl rfl rfl rfl I2 ?_;intro v3;refine R4 ?_;refine zF rfl Tryz.call72 (CN3 w hgl ws1) I4 ?_;refine R11 ?_;refine zL [0] ?_;refine J5 [(1, _), (2, _), (4, _), (19, _), (20, _)] _ (fun (i : Nat) (v : Value) => i ≤ w.Txns.length) (fun i v => [.arr v 45 8 ((r8 (W8 w) w.Txns i).map E0.cs)]) (fun i v => [(3, AV.is v), (21, AV.int i)]) (fun i v => w.Txns.length - i) (0) (v3) ?_ (K5 B8 A4) ?_
 ·exact E2 _
 intro i v hinv;refine zK ?_ ?_
 ·intro h22 k22;have hlt : i < w.Txns.length := BI1;obtain ⟨t, ht⟩ := B3 hlt;obtain ⟨hsb, hop8, hgk⟩ := DG9 (gw.txns.2 t (C2 ht));have hgl8 := (Au0 hgk).1;have hdi := Ax7 (ss := W8 w) (l := w.Txns) (n := i);refine R6 ?_;refine zq192 ?_;intro b6;refine zC ?_ ?_
  ·intro h28;have hdn := Bx1 (CH6 (ss := W8 w) ht (by simpa using h28));refine R5 ?_;refine G0 i v (i + 1) (v) ?_ ?_ (Le.trans (B4 [0, 0] rfl) (C7 1 Bs4 A4))
   ·exact qz8
   omega
  intro h28;obtain ⟨td, htd⟩ := Ai2 (Az9 (y5 (W8 w) ((i : Int) + 1))).1 0;have htk := CH7 (ss := W8 w) ht (by simpa using h28);refine R11 ?_;intro b7;refine R3 ?_;refine AWP.le (AG9 0 6 3 rfl rfl N7) ?_;refine AWP.le (AG9 0 7 3 rfl rfl N7) ?_;refine R4 ?_;refine zF rfl Tryz.call73 (CV7 (W8 w) ((i : Int) + 1) ws3 hst) F4 ?_;refine R14 ?_;refine J6 rfl (fun hc => C8 rfl J2 O0 (A9 rfl hc) J4 (htd (by simp at hc; omega)) qz6) ?_;refine zC ?_ ?_
  ·intro h51;have htd1 := htd (by simp at h51; have h9 := h51.1; omega);have hty : td.Yes = true := (by simp at h51; exact h51.2);rw [Ca2 (DV5 htd1 hty)] at htk;have hdn := BD7 htk;refine R5 ?_;refine zF rfl Tryz.call74 (CN0 w.Cuts t hsb) F4 ?_;refine R18 ?_;refine A1 rfl (C8 rfl J2 O0 zA J4 htd1 qz3) ?_;refine R7 ?_;refine P4 rfl rfl rfl rfl I8 S2 ?_;intro v67;refine R2 ?_;refine G1 (by' := 40) 0 rfl rfl rfl rfl I8 Tryz.type71 rfl rfl rfl rfl rfl rfl zA zA rfl qz3 ?_;intro v70_1;refine R1 ?_;refine O4 0 rfl fun one_v70_1 => ?_;refine zq28 ?_;refine G1 (by' := 88) 2 rfl rfl rfl rfl N6 Tryz.type45 rfl rfl rfl rfl rfl rfl zA zA rfl Aa6 ?_;intro v77_2;refine R6 ?_;refine G0 i v (i + 1) (v77_2) ?_ ?_ (Le.trans (B4 [0, 0, 0] rfl) (C7 2 Bs4 A4))
   ·exact qz8
   omega
  intro h51;have hsn : AN4 (y5 (W8 w) ((i : Int) + 1)) = none := sameL_no (fun x hx => by have hl0 := (G2.1 hx).1; have h9 := htd hl0; rw [h9] at hx; injection hx with hx; rw [← hx]; have h8 := h51; simp only [A7, Bool.and_eq_false_iff, AH1] at h8; rcases h8 with h8 | h8 <;> first | exact h8 | (exfalso; omega));rw [Cp7 hsn] at htk;have hdn := BD7 htk;refine R5 ?_;refine G1 (by' := 88) 2 rfl rfl rfl rfl N6 Tryz.type45 rfl rfl rfl rfl rfl rfl zA zA rfl Aa6 ?_;intro v77_3;refine R6 ?_;refine G0 i v (i + 1) (v77_3) ?_ ?_ (Le.trans (B4 [0, 0, 0] rfl) (C7 2 Bs4 A4))
  ·exact qz8
  omega
 intro h22 k22;have hil : i = w.Txns.length := (by have h9 : w.Txns.length ≤ i := BI1; omega);subst hil;rw [CI1 (x := r8 (W8 w) w.Txns w.Txns.length) (l := w.Looks)];refine R10 ?_;refine zL [0] ?_;refine J5 [(2, _), (80, _), (81, _)] _ (fun (j : Nat) (u : Value) => j ≤ w.Looks.length) (fun j u => [.arr u 45 8 ((r8 (W8 w) w.Txns w.Txns.length ++ AH8 w.Looks j).map E0.cs)]) (fun j u => [(3, AV.is u), (82, AV.int j)]) (fun j u => w.Looks.length - j) (0) (v) ?_ (K5 B8 A4) ?_
 ·exact E2 _
 intro j u hinv;refine zK ?_ ?_
 ·intro h83 k83;have hlt1 : j < w.Looks.length := (by simpa using h83);obtain ⟨q, hq⟩ := B3 hlt1;have hqg := (gw.looks.2 q (C2 hq));have hql := Cd9 hqg;have hdj := Bf0 (l := w.Looks) (n := j);have hdk : (r8 (W8 w) w.Txns w.Txns.length ++ AH8 w.Looks j).length ≤ 10 := (by rw [G3]; omega);refine R6 ?_;refine A1 rfl (zX hq) ?_;refine R2 ?_;intro b15;refine zC ?_ ?_
  ·intro h98;have hdn2 := Bx3 (x := r8 (W8 w) w.Txns w.Txns.length) (CH8 hq (by simp at h98; omega));refine zq44 ?_;intro v108 _;refine S8 rfl rfl rfl (AZ2 [3] (fun _ => rfl) (fun _ => K3 (C2 (i := 0) rfl) F6) (fun _ => N7) (L9 (by' := 40) 3 rfl I8 Tryz.type71 rfl rfl rfl rfl rfl rfl zA zA rfl qz3)) (fun a _ => qz4) ?_;intro v111_4 _;refine R2 ?_;refine S8 rfl rfl rfl (L9 (by' := 88) 1 rfl N6 Tryz.type45 rfl rfl rfl rfl rfl rfl zA zA rfl Aa6) (fun a _ => qz4) ?_;intro v114_5 _;refine R3 ?_;refine AWP.le (AV3 3 1 (.arr v114_5 45 8 (_)) rfl (⟨rfl, rfl, rfl, by first | exact Av9 (h := r8 (W8 w) w.Txns w.Txns.length ++ AH8 w.Looks j) (d := BT2 j q) (C1 E4 (C1 E4 (C1 E4 (C1 E4 (C1 E4 (C1 E4 (C1 E4 (C1 Au8 Y2)))))))) | exact F6⟩) N7) ?_;refine R4 ?_;refine G0 j u (j + 1) (v114_5) ?_ ?_ (Le.trans (B4 [0, 0] rfl) (C7 1 (by (rw [hdn2]; rfl)) A4))
   ·exact qz8
   omega
  intro h98;have hdn2 := Bx2 (x := r8 (W8 w) w.Txns w.Txns.length) (CH9 hq (by simp at h98; omega));refine R1 ?_;refine AWP.le (AV3 3 1 (.arr u 45 8 (_)) rfl (⟨rfl, rfl, rfl, by first | exact Av9 (h := r8 (W8 w) w.Txns w.Txns.length ++ AH8 w.Looks j) (d := BT2 j q) (C1 E4 (C1 E4 (C1 E4 (C1 E4 (C1 E4 (C1 E4 (C1 E4 (C1 Au8 Y2)))))))) | exact F6⟩) N7) ?_;refine R4 ?_;refine G0 j u (j + 1) (u) ?_ ?_ (Le.trans (B4 [0, 0] rfl) (C7 1 (by (rw [hdn2]; rfl)) A4))
  ·exact qz8
  omega
 intro h83 k83;have hjl : j = w.Looks.length := (by have h9 : w.Looks.length ≤ j := (by simpa using h83); omega);subst hjl;rw [show r8 (W8 w) w.Txns w.Txns.length ++ AH8 w.Looks w.Looks.length = An3 w from rfl];refine R7 ?_;exact I5 [0] u (trivial) rfl B8 M9
theorem DD2 (w : D1) (z : WZ w) (hgw : o9 w = true) : E1 26 [AV.agg w.cs] (AV.list 8 ((An3 w).map E0.cs)) :=
  N1 (DQ6 w z hgw) fun v _ => K3 (X9.2 rfl) F6
theorem Ci3 (w : D1) (z : WZ w) : E1 7 [AV.agg w.cs] (AV.tup [AV.list 8 ((AL2 w).1.map E0.cs), AV.bool (AL2 w).2]) := by
 refine B2 Tryz.func7 rfl Tryz.ntmps7 rfl ?_;refine R3 ?_;intro b1;refine A1 rfl (E3 rfl (X1 (sz := 8))) ?_;refine R6 ?_;refine zF rfl Tryz.call25 (Cv2 _ AK2) (A2 (A0 rfl) B0) ?_;refine zC ?_ ?_
 ·intro h6;have he : AL2 w = ([], false) := (by unfold AL2; exact C5 (by simpa using h6));rw [he];refine R2 ?_;refine A1 rfl (E3 rfl (X1 (sz := 8))) ?_;refine R3 ?_;exact zq66
 intro h6;have hgw : o9 w = true := (by simpa using h6);have he : AL2 w = (An3 w, true) := D3 hgw;rw [he];refine R4 ?_;refine zF rfl Tryz.call26 (DD2 w z hgw) I4 ?_;refine R4 ?_;exact zq66
theorem DQ7 (t : G7) (l : List G7) (x : G7) (hx : 0 < l.length → l[0]? = some x) (h : t ∈ l) : E1 22 [AV.agg t.cs, AV.eptr [AV.list 3 (l.map G7.cs)]] (AV.bool (!decide (t = x))) := by
  have hl0 : 0 < l.length := List.length_pos_of_mem h;have hx0 := hx hl0;refine B2 Tryz.func22 rfl Tryz.ntmps22 rfl ?_;refine R3 ?_;intro b2;refine R6 ?_;refine B7 rfl rfl (C8 rfl J2 O0 zA J4 hx0 qz3) ?_;refine R1 ?_;refine zq146 ?_;refine R3 ?_;exact D5 rfl (A8 rfl (by exact E5 AV.bool (CS2 _ _)))
theorem Cw0 (w : D1) (z : WZ w) : E1 6 [AV.wt BA4 (AV.agg w.cs)] (AV.tup [AV.list 8 ((AL2 w).1.map E0.cs), AV.bool (AL2 w).2]) := by
 have hgl := z.groups.1;refine B2 Tryz.func6 rfl Tryz.ntmps6 rfl ?_;refine zq129 ?_;refine R3 ?_;intro b1;refine A1 rfl (E3 rfl (X1 (sz := 8))) ?_;refine R6 ?_;refine zF rfl Tryz.call18 (CM4 _ AK2) (A2 (A0 rfl) B0) ?_;refine zC ?_ ?_
 ·intro h21;have he : AL2 w = ([], false) := (by unfold AL2; exact C5 (by simpa using h21));rw [he];refine R2 ?_;refine A1 rfl (E3 rfl (X1 (sz := 8))) ?_;refine R3 ?_;exact zq66
 intro h21;have hgw : o9 w = true := (by simpa using h21);obtain ⟨ws1, ws2, ws3, ws4⟩ := BP2 z hgw;have gw := BN7 hgw;have htl := gw.txns.1;have hll := gw.looks.1;have hgs : ∀ s ∈ W8 w, GS s := (fun s hs => by obtain ⟨g, hg, rfl⟩ := m1.1 hs; exact Av3 (ws1 g hg));have hhg := Ca0 hgw hgs ⟨z.ends.1, z.ends.2⟩;have hdl : (r8 (W8 w) w.Txns w.Txns.length).length ≤ 6 := L4 Ax7 htl;have hhs : ∀ d ∈ An3 w, d.size ≤ 1048576 := (fun d hd => by have h9 := hhg; unfold AG4 at h9; rw [D8, Y6] at h9; exact L4 (Bx0 (h9.2 d hd)) D4);have he : AL2 w = (An3 w, true) := D3 hgw;rw [he];refine R3 ?_;refine P4 rfl rfl rfl rfl N6 V7 ?_;intro v22;refine R5 ?_;refine zF rfl Tryz.call19 (CN2 w hgl ws1) I4 ?_;refine R11 ?_;refine zL [0] ?_;refine J5 [(1, _), (2, _), (3, _), (5, _), (26, _), (27, _)] _ (fun (i : Nat) (v : Value) => i ≤ w.Txns.length) (fun i v => [.arr v 45 8 ((r8 (W8 w) w.Txns i).map E0.cs)]) (fun i v => [(4, AV.is v), (28, AV.int i)]) (fun i v => w.Txns.length - i) (0) (v22) ?_ (K5 B8 A4) ?_
 ·exact E2 _
 intro i v hinv;refine zK ?_ ?_
 ·intro h29 k29;have hlt : i < w.Txns.length := Br7;obtain ⟨t, ht⟩ := B3 hlt;obtain ⟨hsb, hop8, hgk⟩ := DG9 (gw.txns.2 t (C2 ht));have hgl8 := (Au0 hgk).1;have hdi := Ax7 (ss := W8 w) (l := w.Txns) (n := i);refine R6 ?_;refine zq192 ?_;intro b7;refine zC ?_ ?_
  ·intro h35;have hdn := Bx1 (CH6 (ss := W8 w) ht (by simpa using h35));refine R5 ?_;refine G0 i v (i + 1) (v) ?_ ?_ (Le.trans (B4 [0, 0] rfl) (C7 1 Bs4 A4))
   ·exact qz8
   omega
  intro h35;have htk := CH7 (ss := W8 w) ht (by simpa using h35);refine R11 ?_;intro b8;refine R3 ?_;refine AWP.le (AG9 0 6 3 rfl rfl AU4) ?_;refine AWP.le (AG9 0 7 3 rfl rfl AU4) ?_;refine R1 ?_;refine P4 rfl rfl rfl rfl J2 O0 ?_;intro v43;refine R1 ?_;intro b9;refine O4 1 rfl fun one_v43 => ?_;refine M4 0 rfl rfl rfl zA zA (L2 one_v43) rfl AV5 rfl ?_;refine R9 ?_;refine zL [0, 0] ?_;refine J5 [(1, _), (2, _), (3, _), (4, _), (5, _), (6, _), (7, _), (8, _), (9, _), (26, _), (27, _), (28, _), (29, _), (30, _), (31, _), (32, _), (33, _), (34, _), (35, _), (36, _), (37, _), (38, _), (39, _), (40, _), (41, _), (42, _), (43, _), (44, _), (45, _)] _ (fun (j : Nat) (u : Value) => j ≤ (W8 w).length) (fun j u => [.box b9 56 [AV.is u], .arr u 62 3 ((y5 ((W8 w).take j) ((i : Int) + 1)).map G7.cs)]) (fun j u => [(46, AV.int j)]) (fun j u => (W8 w).length - j) (0) (v43) ?_ (K5 B8 A4) ?_
  ·exact E2 _
  intro j u hinv;refine zK ?_ ?_
  ·intro h47 k47;have hlt1 : j < (W8 w).length := (by simpa using h47);obtain ⟨s, hsx⟩ := B3 hlt1;have hsg := hgs s (C2 hsx);have hst := hsg.tlen;have htl2 := BV4 (ss := (W8 w).take j) (n := (i : Int) + 1);rw [H4] at htl2;refine R5 ?_;refine A1 rfl (zX hsx) ?_;refine R2 ?_;intro b11;refine R7 ?_;refine zF rfl Tryz.call20 (Ci2 s ((i : Int) + 1) qz8 hsg.tsort) F4 ?_;refine R4 ?_;intro b12;refine zC ?_ ?_
   ·intro h57;refine R4 ?_;refine G1 (by' := 24) 3 rfl rfl rfl rfl J2 Tryz.type62 rfl rfl rfl rfl rfl rfl zA zA rfl Aa6 ?_;intro v61_1;refine O4 3 rfl fun one_v61_1 => ?_;refine M4 2 rfl rfl rfl zA zA (L2 one_v61_1) rfl AV5 rfl ?_;refine R5 ?_;refine G0 j u (j + 1) (v61_1) ?_ ?_ (Le.trans (B4 [0, 0, 0, 0] rfl) (C7 2 qz177 A4))
    ·exact qz8
    omega
   intro h57;refine R5 ?_;refine G0 j u (j + 1) (u) ?_ ?_ (Le.trans (B4 [0, 0, 0, 0] rfl) (C7 2 qz177 A4))
   ·exact qz8
   omega
  intro h47 k47;have hgej : (W8 w).length ≤ j := (by simpa using h47);rw [T4 hgej];obtain ⟨td, htd⟩ := Ai2 (y5 (W8 w) ((i : Int) + 1)) 0;refine R3 ?_;refine AWP.le (Ag2 [1] 0 (.box b9 56 [AV.list 3 ((y5 (W8 w) ((i : Int) + 1)).map G7.cs)]) rfl rfl ⟨rfl, rfl, (C1 (K3 (C2 (i := 0) rfl) F6) Y2)⟩ AU4) ?_;refine R6 ?_;refine J6 rfl (fun hc => C8 rfl J2 O0 (A9 rfl hc) J4 (htd (by simp at hc; omega)) qz6) ?_;refine R5 ?_;refine J6 rfl (fun hc => BR2 rfl rfl I4) ?_;refine J6 rfl (fun hc => m5 rfl Tryz.call21 rfl (BY5 (y5 (W8 w) ((i : Int) + 1)) (fun t => t ∈ y5 (W8 w) ((i : Int) + 1)) (fun t => !decide (t = td)) (fun t h => h)) (U2 _) (O6 (evb (A9 rfl hc)) (O6 (AY7 (At4 0 (A9 rfl hc) rfl) (Ak5 Tryz.call22 (fun t h => DQ7 t _ _ htd h))) o0))) ?_;refine zC ?_ ?_
  ·intro h77;rw [A7] at h77;have hon := DL2 htd h77;have htd1 := htd hon.2;rw [Ca2 hon.1] at htk;have hdn := BD7 htk;refine R6 ?_;refine A1 rfl (Ac7 5 rfl rfl Tryz.call23 rfl (Cv9 t.Ops t.Got qz8 hsb.ops hsb.got.2 (DV2 hgk)) F4 Ap6) ?_;refine R8 ?_;refine zL [2, 0] ?_;refine V9 _ 15 (.pure 0 (.pure 1 (.pure 2 (.pure 3 (.pure 4 (.pure 5 (.pure 6 (.pure 7 (.pure 8 (.e1 9 (.pure 10 (.e1 11 (.pure 12 (.e1 13 (.pure 14 .nil))))))))))))))) E6 E6 rfl (S1 2) ?_;refine R1 ?_;refine M0 rfl rfl rfl (fun ext => C8 rfl J2 O0 zA J4 htd1 qz3) ?_;refine R4 ?_;refine M0 rfl rfl rfl (fun ext => zG rfl Tryz.call24 (Ba1 _ qz8) (A2 (A0 rfl) B0)) ?_;refine R3 ?_;refine AK5 rfl rfl rfl (BU7 2 rfl rfl zA Af6 (AX3 _) rfl T7 rfl) (fun a _ => qz4) ?_;intro _ _;refine R2 ?_;refine AK5 rfl rfl rfl (BU7 2 rfl rfl zA zA (W9 _ _) rfl F2 rfl) (fun a _ => qz4) ?_;intro _ _;refine R2 ?_;refine AK5 rfl rfl rfl (BU7 2 rfl rfl zA zA (m4 _ _) rfl S3 rfl) (fun a _ => qz4) ?_;intro _ _;refine R8 ?_;refine G1 (by' := 88) 3 rfl rfl rfl rfl N6 Tryz.type45 rfl rfl rfl rfl rfl rfl zA zA rfl Aa6 ?_;intro v102_2;refine R6 ?_;refine G0 i v (i + 1) (v102_2) ?_ ?_ (Le.trans (B4 [0, 0, 0, 0] rfl) (C7 3 Bs4 A4))
   ·exact qz8
   omega
  intro h77;rw [A7] at h77;rw [Cp7 (Cy3 htd h77)] at htk;have hdn := BD7 htk;refine R5 ?_;refine G1 (by' := 88) 3 rfl rfl rfl rfl N6 Tryz.type45 rfl rfl rfl rfl rfl rfl zA zA rfl Aa6 ?_;intro v102_3;refine R6 ?_;refine G0 i v (i + 1) (v102_3) ?_ ?_ (Le.trans (B4 [0, 0, 0, 0] rfl) (C7 3 Bs4 A4))
  ·exact qz8
  omega
 intro h29 k29;have hil : i = w.Txns.length := (by have h9 : w.Txns.length ≤ i := Br7; omega);subst hil;rw [CI1 (x := r8 (W8 w) w.Txns w.Txns.length) (l := w.Looks)];refine R10 ?_;refine zL [0] ?_;refine J5 [(2, _), (3, _), (105, _), (106, _)] _ (fun (k : Nat) (u : Value) => k ≤ w.Looks.length) (fun k u => [.arr u 45 8 ((r8 (W8 w) w.Txns w.Txns.length ++ AH8 w.Looks k).map E0.cs)]) (fun k u => [(4, AV.is u), (107, AV.int k)]) (fun k u => w.Looks.length - k) (0) (v) ?_ (K5 B8 A4) ?_
 ·exact E2 _
 intro k u hinv;refine zK ?_ ?_
 ·intro h108 k108;have hlt2 : k < w.Looks.length := (by simpa using h108);obtain ⟨q, hq⟩ := B3 hlt2;have hqg := (gw.looks.2 q (C2 hq));have hql := Cd9 hqg;have hdj := Bf0 (l := w.Looks) (n := k);have hdk : (r8 (W8 w) w.Txns w.Txns.length ++ AH8 w.Looks k).length ≤ 10 := (by rw [G3]; omega);refine R6 ?_;refine A1 rfl (zX hq) ?_;refine R2 ?_;intro b18;refine zC ?_ ?_
  ·intro h123;have hdn2 := Bx3 (x := r8 (W8 w) w.Txns w.Txns.length) (CH8 hq (by simp at h123; omega));refine zL [0] ?_;refine M6 14 E6 E6 rfl ?_;refine R11 ?_;refine B7 rfl rfl (zG rfl Tryz.call24 (Ba1 _ qz8) (A2 (A0 rfl) B0)) ?_;refine R3 ?_;refine G1 (by' := 88) 1 rfl rfl rfl rfl N6 Tryz.type45 rfl rfl rfl rfl rfl rfl zA zA rfl Aa6 ?_;intro v138_4;refine R2 ?_;refine AWP.le (AV3 4 1 (.arr v138_4 45 8 (_)) rfl (⟨rfl, rfl, rfl, by first | exact Av9 (h := r8 (W8 w) w.Txns w.Txns.length ++ AH8 w.Looks k) (d := BT2 k q) (C1 E4 (C1 E4 (C1 E4 (C1 E4 (C1 E4 (C1 E4 (C1 E4 (C1 Au8 Y2)))))))) | exact F6⟩) AU4) ?_;refine R4 ?_;refine G0 k u (k + 1) (v138_4) ?_ ?_ (Le.trans (B4 [0, 0] rfl) (C7 1 (by (rw [hdn2]; rfl)) A4))
   ·exact qz8
   omega
  intro h123;have hdn2 := Bx2 (x := r8 (W8 w) w.Txns w.Txns.length) (CH9 hq (by simp at h123; omega));refine R1 ?_;refine AWP.le (AV3 4 1 (.arr u 45 8 (_)) rfl (⟨rfl, rfl, rfl, by first | exact Av9 (h := r8 (W8 w) w.Txns w.Txns.length ++ AH8 w.Looks k) (d := BT2 k q) (C1 E4 (C1 E4 (C1 E4 (C1 E4 (C1 E4 (C1 E4 (C1 E4 (C1 Au8 Y2)))))))) | exact F6⟩) AU4) ?_;refine R4 ?_;refine G0 k u (k + 1) (u) ?_ ?_ (Le.trans (B4 [0, 0] rfl) (C7 1 (by (rw [hdn2]; rfl)) A4))
  ·exact qz8
  omega
 intro h108 k108;have hjl : k = w.Looks.length := (by have h9 : w.Looks.length ≤ k := (by simpa using h108); omega);subst hjl;rw [show r8 (W8 w) w.Txns w.Txns.length ++ AH8 w.Looks w.Looks.length = An3 w from rfl];refine R5 ?_;refine A1 rfl (m5 rfl Tryz.call11 rfl (Ag8 (An3 w) hhs) (U2 _) (O6 (Au7 0 zA rfl) o0)) ?_;refine zC ?_ ?_
 ·intro h142;exfalso; rw [hhg] at h142; cases h142
 intro h142;refine R8 ?_;refine Ak7 0 2 rfl rfl ?_;exact zq66
end Go.Proofs.YtmggojkfhodjbaaGreatDoor
namespace Go.Proofs.YtmggojkfhodjbaaGreatDoor
open Go.PQ
open Go Go.AV Go.M
open Go.ChangeShapes Go.WideShapes Go.ChangeAt Go.RowKit
theorem DQ8 {w : D1} (z : WZ w) : (∀ d ∈ (AL2 w).1, d.size ≤ 1048576) ∧ ((AL2 w).2 = true → AG4 (AL2 w).1 = true) := by
  unfold AL2;split
  · rename_i hgw
    obtain ⟨ws1, ws2, ws3, ws4⟩ := BP2 z hgw;have hg := Ca0 hgw (fun s hs => by obtain ⟨g, hg, rfl⟩ := m1.1 hs; exact Av3 (ws1 g hg)) ⟨z.ends.1, z.ends.2⟩;exact ⟨fun d hd => L4 (Bx0 ((Ax9 hg).1 d hd)) D4, fun _ => hg⟩
  · exact ⟨fun d hd => (by cases hd), fun h => Ab8⟩
section
attribute [local irreducible] OpW OpA OpS AWP K6 L8 K8 OpE K7 I7 L1 Le Ev G4 M7 Int.tmod Int.tdiv IntKind.wrap T3
theorem CD8 (code : List Int) (hc : ∀ x ∈ code, (Lit.int .u8 x).wf = true) (more : List Int) (hm : ∀ x ∈ more, (Lit.int .u8 x).wf = true) : E1 3 [AV.wt BA4 (An4 code), An4 more] (AV.bool true) := by
 refine B2 Tryz.func3 rfl Tryz.ntmps3 rfl ?_;refine zq129 ?_;refine R9 ?_;refine zF rfl Tryz.call4 (big_spec code more) F4 ?_;refine zC ?_ ?_
 ·intro h29;refine R5 ?_;exact D5 rfl (A8 rfl (by first | rfl | exact E5 AV.bool (by simp [hab.1, hab.2])))
 intro h29;have hb0 : AB3 code := Cq0 hc;have hb1 : AB3 more := Cq0 hm;refine R4 ?_;refine zI [] rfl Tryz.call5 (Bv5 code hb0) I4 rfl ?_;intro x31 ok31;obtain ⟨w, hx31⟩ : ∃ z, z = x31 := ⟨_, rfl⟩;subst hx31;have hz : WZ w := ok31;obtain ⟨hrs, hrg⟩ := DQ8 hz;refine R1 ?_;intro b5;refine R5 ?_;refine A1 rfl (Ac7 1 rfl rfl Tryz.call6 rfl (Cw0 w hz) I4 Ap6) ?_;refine R9 ?_;refine zF rfl Tryz.call7 (Ci3 w hz) I4 ?_;refine R11 ?_;refine A1 rfl (CF2 rfl W4 zA zA) ?_;refine R3 ?_;refine T6 rfl (fun hc => zG rfl Tryz.call8 (CD7 (AL2 w).1) zS) ?_;refine zC ?_ ?_
 ·intro h50;exfalso; simp at h50
 intro h50;refine R7 ?_;refine J6 rfl (fun hc => zG rfl Tryz.call9 (BH9 (AL2 w).1 hrs) zS) ?_;refine R2 ?_;refine awp_join [(1, _)] A4 ?_ ?_
 ·skip
  refine zC ?_ ?_
  ·intro h55;have hgh : AG4 (AL2 w).1 = true := (by simp at h55; exact h55.2);obtain ⟨hda, hl10⟩ := Ax9 hgh;have hte : BA1 (AL2 w).1 = (AH9 (AL2 w).1, true) := D3 hgh;have htl := Bf4 hda hl10 (AL2 w).1.length;rw [AM2] at htl;have hln := Bn4 hda;refine R3 ?_;refine A1 rfl (Ac7 1 rfl rfl Tryz.call10 rfl (BO4 (AL2 w).1 hrs) I4 Ap6) ?_;refine R7 ?_;rw [hte];refine R4 ?_;refine DA0 [(1, _), (4, _), (6, _), (10, _), (11, _)] A4 (fun k => [(12, AV.int (Aa4 ((AH9 (AL2 w).1).take k) : Nat))]) rfl rfl rfl rfl rfl rfl rfl rfl O3 rfl rfl rfl rfl rfl rfl rfl rfl zA (DL4 hda) (fun r => A4) ?_ ?_
   ·intro r k c hc;have hlb := lines_le (s := (AH9 (AL2 w).1).take k);rw [H4] at hlb;refine R10 ?_;refine A1 rfl (AY6 rfl O3 zA zA qz8 hc) ?_;refine zC ?_ ?_
    ·intro h69;have k69 := J3 h69;(try simp only [A7] at k69);have hcq : c.toNat = 10 := (by have h9 := h69; simp at h9; omega);refine R5 ?_;exact ⟨rfl, ⟨rfl, (E5 (fun z : Nat => some (AV.int z)) (by first | exact (Ca5 hc hcq).symm | exact (Cp9 hc hcn).symm)), rfl, rfl, rfl, rfl, rfl, trivial⟩⟩
    intro h69;have k69 := J0 h69;(try simp only [A7] at k69);have hcn : c.toNat ≠ 10 := (by have h9 := h69; simp at h9; omega);refine R1 ?_;exact ⟨rfl, ⟨rfl, (E5 (fun z : Nat => some (AV.int z)) (by first | exact (Ca5 hc hcq).symm | exact (Cp9 hc hcn).symm)), rfl, rfl, rfl, rfl, rfl, trivial⟩⟩
   intro r;rw [AM2, hln];refine R3 ?_;refine zF rfl Tryz.call11 (Ag8 (AL2 w).1 hrs) I4 ?_;refine zC ?_ ?_
   ·intro h84;exfalso; rw [hgh] at h84; simp at h84
   intro h84;refine R1 ?_;exact Le.trans (B4 [0, 0] rfl) (C7 0 B8 A4)
  intro h55;refine R1 ?_;exact Le.trans (B4 [0, 0] rfl) (C7 0 B8 A4)
 refine R3 ?_;refine zI [] rfl Tryz.call12 (Bk0 more hb1) I4 rfl ?_;intro x86 ok86;obtain ⟨g, hx86⟩ : ∃ z, z = x86 := ⟨_, rfl⟩;subst hx86;have hgs : ∀ d ∈ g, d.size ≤ 1048576 := (fun d hd => L4 (ok86.2.2 d hd) D4);refine R5 ?_;refine A1 rfl (Ac7 1 rfl rfl Tryz.call10 rfl (BO4 g hgs) I4 Ap6) ?_;refine R9 ?_;refine zF rfl Tryz.call13 (Bv0 g hgs) I4 ?_;refine R9 ?_;refine zI [] rfl Tryz.call14 (Bv3 more hb1) I4 rfl ?_;intro x99 ok99;obtain ⟨⟨a, b⟩, hx99⟩ : ∃ z, x99 = z := ⟨_, rfl⟩;subst hx99;have has : a.size ≤ 1048576 := L4 ok99.1 D4;have hbs : b.size ≤ 1048576 := L4 ok99.2 D4;have hab := DQ2 (a := a) (b := b);dsimp only;refine R4 ?_;intro b19;refine R1 ?_;intro b20;refine R7 ?_;refine zF rfl Tryz.call15 (BZ9 a b has hbs) F4 ?_;refine R10 ?_;refine zF rfl Tryz.call16 (CN1 a b has hbs) F4 ?_;refine R10 ?_;refine zF rfl Tryz.call15 (BZ9 b a hbs has) F4 ?_;refine R10 ?_;refine A1 rfl (BM7 rfl W4 zA zA) ?_;refine R7 ?_;refine J6 rfl (fun hc => zG rfl Tryz.call11 (Ag8 g hgs) zS) ?_;refine R1 ?_;refine J6 rfl (fun hc => zG rfl Tryz.call9 (BH9 g hgs) zS) ?_;refine zq57 ?_;refine R4 ?_;refine zq57 ?_;refine R11 ?_;exact D5 rfl (A8 rfl (by first | rfl | exact E5 AV.bool (by simp [hab.1, hab.2])))
end
theorem Bz1 : CN8 Tryz.prog 22 (List Int) (fun l => [An4 l]) (fun l => ∀ x ∈ l, (Lit.int .u8 x).wf = true) := Cw8 (sz := 1) AF9 E6 (DR3 AR5) (fun _ => rfl)
set_option maxRecDepth 100000 in
theorem fnHistories_lifted (os : Os) (started : os.Started) (H : Type) (enc : TypeId × Value → H) :
    ReturnsInHanded {} Tryz.checked os 3 .any (fun w args => (Rows.fnHistoriesSpec.pre enc Tryz.prog Tryz.f3 [] false w args ∧ laidMetH Tryz.prog Rows.fnHistoriesRow.laid w) ∧ sizedMet enc Tryz.prog Tryz.f3 (OpenSpec.ofChange Rows.fnHistoriesSpec) false w args) (Rows.fnHistoriesSpec.post enc Tryz.prog Tryz.f3 false true false false) := by
  refine Go.AV.Ce3 (C := Tryz.checked) (X := fun w _ => laidMetH Tryz.prog Rows.fnHistoriesRow.laid w) (fun _ _ _ hh h => h.of_heap hh) E6 started E6 Tryz.func3
    (ChangeSpec.witness_shaped (enc := enc) (C := Tryz.checked) (os := os) (X := fun w _ => laidMetH Tryz.prog Rows.fnHistoriesRow.laid w) false (World.laidAll Tryz.prog os Rows.fnHistoriesRow.laid) #[.slice none 0 0, .slice none 0 0] 8 (World.laidAll_os _ _ _)
      (World.shaped_of_ZipB E6 E6) E6 E6 E6
      (by rw [MakeChecks.laidMetH_plain _ _ _ E6]; exact laidMet_laidAll _ E6 E6)) ?_
  intro W base args ds gs before hval0 hW hsh _ hL _;rw [MakeChecks.laidMetH_plain _ _ _ E6] at hL;have hT : BA4 W := readW_of hL hsh;have hval : ∀ (j : Nat) t v, Tryz.f3.params[j]? = some t → args[j]? = some v → Value.okWide Tryz.prog W .any base t v := hval0;have hW2 := hW;obtain ⟨p, q, hA0, hV, rfl, hfz, hnd⟩ := hW;have hA : DataW.TrodAll enc Tryz.prog W 0 (fun _ => true) true Tryz.f3.params.toList args.toList ds p := hA0;rw [Tryz.params3] at hA hval;obtain ⟨v0, vs0, d0, ds0, p0, q0, hargs, rfl, rfl, h0, r0⟩ := trodAll_cons hA;obtain ⟨v1, vs1, d1, ds1, p1, q1, rfl, rfl, rfl, h1, r1⟩ := trodAll_cons r0;obtain ⟨rfl, rfl, rfl⟩ := trodAll_nil r1;obtain rfl : args = #[v0, v1] := by cases args; simp_all
  obtain ⟨rfl, rfl⟩ := trodVars_none hV;have lt0 : ∀ x ∈ p0, x.block < W.heap.size := by obtain ⟨m, hm⟩ := h0; exact DataW.trod_lt m _ _ _ hm
  obtain ⟨a0, w0, g0⟩ := DD8 (Bz1) (by obtain ⟨y1, y2, y3, rfl⟩ := okWide_slice AF9 (hval 0 22 v0 rfl rfl); rfl) h0;have lt1 : ∀ x ∈ p1, x.block < W.heap.size := by obtain ⟨m, hm⟩ := h1; exact DataW.trod_lt m _ _ _ hm
  obtain ⟨a1, w1, g1⟩ := DD8 (Bz1) (by obtain ⟨y1, y2, y3, rfl⟩ := okWide_slice AF9 (hval 1 22 v1 rfl rfl); rfl) h1;have hcall := DR4 (CD8 a0 w0 a1 w1) (i4.cons ⟨g0, fun w2 hw2 => DO7 hT hw2⟩ (i4.cons g1 (i4.nil _)));clear hA0 hval0;refine Calls.mono hcall fun e W2 ⟨he, bel⟩ => ?_;subst he;exact ⟨_, rfl, _, _, _, [], _, [], hW2, trodAll_mk1 (shut_bool W4 _), (trodAll_cons_mk (Below.trod (by kernel_rfl : laidOutB Tryz.prog = true) E6 (AD2 E6) h0 bel lt0) (trodAll_cons_mk (Below.trod (by kernel_rfl : laidOutB Tryz.prog = true) E6 (AD2 E6) h1 bel lt1) trodAll_mk0)), rfl, bel.frame _, fun h => by cases h⟩
end Go.Proofs.YtmggojkfhodjbaaGreatDoor
