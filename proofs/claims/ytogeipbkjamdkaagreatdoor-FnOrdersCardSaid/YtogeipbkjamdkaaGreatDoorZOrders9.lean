/- FnOrders: for every drawn history, an order that the program finds is the reference's, keeps what is AF8 and explains what was read, and orders are counted alike. -/
import Derived.Test.YtogeipbkjamdkaaGreatDoorCards
import Derived.Test.YtogeipbkjamdkaaGreatDoorTie
import Derived.Lay
import Derived.Stop.LaidErr
import Derived.SevenTiedAt
import Derived.Test.YtogeipbkjamdkaaGreatDoorZOrders8
set_option linter.defProp false
set_option linter.unusedVariables false
set_option linter.unusedSimpArgs false
set_option maxRecDepth 100000
set_option maxHeartbeats 4000000
namespace Go.M
open Go.AV
theorem most9 (n : Nat) (h : n ≤ 9) : 1 ≤ m8 1 (n : Int) ∧ m8 1 (n : Int) ≤ 9 := by unfold m8; split <;> omega
theorem putS_pos (s : Str) (l : List Str) : 1 ≤ (AA6 l s).length := by
  cases l with
  | nil => simp [AA6]
  | cons x l => unfold AA6; split <;> (try split) <;> simp
def CY7 (p : List TOp) : Prop := (AF2 p = true ∧ ∀ o ∈ p, o.Key ∈ AA7) ∧ 1 ≤ p.length
def CA0 (l : List Str) : Prop := (1 ≤ l.length ∧ l.length ≤ 8) ∧ AO2 l ∧ ∀ k ∈ l, k ∈ AA7
def Bu4 (rows : List A4) : Prop := (adj T1 rows = true ∧ ∀ w ∈ rows, w.size ≤ 64) ∧ rows.length ≤ 1000000
theorem Cy7 {rows ws : List A4} (h : Bu4 rows) (hw : ∀ w ∈ ws, w.size ≤ 64) (hl : rows.length + ws.length ≤ 1000000) : Bu4 (a7 rows ws) := by
  refine ⟨⟨BP8 h.1.1, fun w hm => ?_⟩, ?_⟩
  · unfold a7 Ag6 at hm
    rcases BO8 (List.mem_filter.1 hm).1 with hm | hm
    · exact hw w hm
    · exact h.1.2 w hm
  · have h1 := Bj6 (ws := ws) (l := rows)
    have h2 : (a7 rows ws).length ≤ (Aq8 rows ws).length := List.length_filter_le _ _;omega
theorem putD_len {rows ws : List A4} : (a7 rows ws).length ≤ rows.length + ws.length := by
  have h1 := Bj6 (ws := ws) (l := rows);have h2 : (a7 rows ws).length ≤ (Aq8 rows ws).length := List.length_filter_le _ _;omega
theorem Cy8 {l : List TOp} {got : List H4} (hl : l.length ≤ 4) (ho : ∀ o ∈ l, OpD o) : (∀ w ∈ (Q4 l got).2.2, w.size ≤ 64) ∧ (Q4 l got).2.2.length ≤ 4 ∧ ∀ w ∈ (Q4 l got).2.2, w.Key ∈ AA7 := by
  have hr := ran (got := got) (n := 64) D5 fun o h => CG3 (ho o h);exact ⟨hr.size, by have := hr.len; omega, BR0 fun o h => (ho o h).2.1⟩
theorem Cq3 {l : List TOp} {got : List H4} (hl : l.length ≤ 4) (ha : Ai3 l got) {ws : List A4} (hw : (∀ w ∈ ws, w.size ≤ 64) ∧ ws.length ≤ 4) {a b e tm : Int} {y k : Bool} : (B4.mk a b e y k tm got ws).size ≤ 2000 := by
  have h1 := y6 (f := H4.size) (c := 200) (l := got) ha.size;have h2 : got.length * (200 + 1) ≤ 4 * 201 := AE3 _ (L4 ha.len hl);have h3 := y6 (f := A4.size) (c := 64) (l := ws) hw.1;show D2 H4.size got + D2 A4.size ws ≤ 2000
  omega
def BC7 (h : List B4) : Prop := Be0 h ∧ ∀ d ∈ h, d.size ≤ 2000
theorem BC7.snoc {h : List B4} {d : B4} (H : BC7 h) (hk : ∀ w ∈ d.Writes, w.Key ∈ AA7) (hs : d.size ≤ 2000) : BC7 (h ++ [d]) := ⟨fun x hx => by
  rcases Z7.1 hx with hx | hx
  · exact H.1 x hx
  · rw [V8.1 hx]; exact hk, fun x hx => by
  rcases Z7.1 hx with hx | hx
  · exact H.2 x hx
  · rw [V8.1 hx]; exact hs⟩
theorem BC7.big {h : List B4} (H : BC7 h) : r4 h := ⟨H.1, fun d hd => L4 (H.2 d hd) D5⟩
def yesLook (d : B4) : B4 := { d with Yes := d.Look }
def CY8 (d : B4) (v : Str) : B4 := { d with Yes := d.Look, Got := match d.Got with | [] => [] | g :: r => ⟨g.Key, v, g.There⟩ :: r }
theorem CH2 {h : List B4} (H : BC7 h) {k : Nat} {d d' : B4} (hd : h[k]? = some d) (hw : d'.Writes = d.Writes) (hs : d'.size ≤ d.size + 64) : r4 (h.set k d') := ⟨AN8 (P := fun d : B4 => ∀ w ∈ d.Writes, w.Key ∈ AA7) H.1 (by rw [hw]; exact H.1 d (C3 hd)), AN8 (P := fun d : B4 => d.size ≤ 5000) (fun x hx => L4 (H.2 x hx) D5) (by have := H.2 d (C3 hd); omega)⟩
theorem Ce2 (d : B4) {v : Str} (h : v.length ≤ 64) : (CY8 d v).size ≤ d.size + 64 := by
  obtain ⟨a, b, c, y, k, t, got, ws⟩ := d
  cases got with
  | nil => show D2 H4.size [] + D2 A4.size ws ≤ D2 H4.size [] + D2 A4.size ws + 64; omega
  | cons g r =>
    show D2 H4.size (⟨g.Key, v, g.There⟩ :: r) + D2 A4.size ws ≤ D2 H4.size (g :: r) + D2 A4.size ws + 64
    rw [U5, U5];have : H4.size ⟨g.Key, v, g.There⟩ ≤ g.size + 64 := by unfold H4.size; dsimp only; omega
    omega
def WsD (ws : List A4) : Prop := (∀ w ∈ ws, w.size ≤ 64) ∧ ws.length ≤ 4 ∧ ∀ w ∈ ws, w.Key ∈ AA7
theorem Bz0 : WsD [] := ⟨fun w h => (by cases h), D6 _, fun w h => (by cases h)⟩
end Go.M
namespace Go.Proofs.YtogeipbkjamdkaaGreatDoor
open Go.PQ
open Go Go.AV Go.M
attribute [local irreducible] OpW OpA OpS AWP J3 K8 K0 OpE J6 H5 J9 Le Ev F8 L6 Z8 Int.tmod Int.tdiv IntKind.wrap Q7
theorem Bs7 (b : Nat) (code : List Int) (hcode : q6 code) (c : V2) (w : E0) (hw : WI w) (hp : c.p ≤ 5000000) : M7 125 [AV.ptr b 0, AV.agg w.cs] [.box b 62 (U4 code c)] (fun x : V2 × Z1 => x.1.p ≤ c.p + 6 ∧ o8 x.2) (fun x => [.box b 62 (U4 code x.1)]) (fun x => AV.agg x.2.cs) := by
 have hng := hw.n;have hcl := hw.clocks.1;have htl := hw.txns.1;have hll := hw.looks.1;refine C5 Tryz.func125 rfl Tryz.ntmps125 rfl ?_;refine R3 ?_;intro b3;refine R1 ?_;intro b4;refine R12 ?_;refine E6 [2] rfl rfl rfl rfl Tryz.call59 rfl (O4 _ _ hcode _ _ AZ6 qz8) (A3 (A0 rfl) (A3 I7 B2)) rfl ?_;intro x10 ok10;refine R7 ?_;refine A2 ?_ ?_
 ·intro h11;refine R4 ?_;refine E6 [0] rfl rfl rfl rfl Tryz.call59 rfl (O4 _ _ hcode _ _ AZ6 qz8) (A3 (A0 rfl) (A3 (A0 rfl) B2)) rfl ?_;intro x15 ok15;refine R1 ?_;refine E6 [0] rfl rfl rfl rfl Tryz.call59 rfl (O4 _ _ hcode _ _ AZ6 qz8) (A3 (A0 rfl) (A3 I7 B2)) rfl ?_;intro x17 ok17;refine R4 ?_
  (refine I2 [0] ((x17.1, ⟨2, x15.2, x17.2⟩)) ?_ rfl j8 (N6 rfl (H8 (ys := _) 1 rfl rfl AB7 o0 rfl)); (simp only [A6] at *; unfold o8; dsimp only; exact ⟨by omega, ⟨⟨by omega, by omega⟩, by omega, by omega⟩⟩))
 intro h11;refine R5 ?_;refine A2 ?_ ?_
 ·intro h19;refine R4 ?_;refine E6 [0] rfl rfl rfl rfl Tryz.call136 rfl (AK4 _ _ hcode _ ([(3), (3), (4)] : List Int) D5 qz8) (A3 (A0 rfl) (A3 (A0 rfl) B2)) rfl ?_;intro x23 ok23;refine R2 ?_;refine E6 [0] rfl rfl rfl rfl Tryz.call59 rfl (O4 _ _ hcode _ _ AZ6 qz8) (A3 (A0 rfl) (A3 (A0 rfl) B2)) rfl ?_;intro x26 ok26;refine R4 ?_
  (refine I2 [0] ((x26.1, ⟨x23.2, x26.2, 0⟩)) ?_ rfl j8 (N6 rfl (H8 (ys := _) 1 rfl rfl AB7 o0 rfl)); (simp only [A6] at *; unfold o8; dsimp only; exact ⟨by omega, ⟨⟨by omega, by omega⟩, by omega, by omega⟩⟩))
 intro h19;refine R5 ?_;refine A2 ?_ ?_
 ·intro h28;refine R4 ?_;refine E6 [0] rfl rfl rfl rfl Tryz.call136 rfl (AK4 _ _ hcode _ ([(4), (5)] : List Int) D5 qz8) (A3 (A0 rfl) (A3 (A0 rfl) B2)) rfl ?_;intro x32 ok32;refine R2 ?_;refine E6 [0] rfl rfl rfl rfl Tryz.call59 rfl (O4 _ _ hcode _ _ AZ6 qz8) (A3 (A0 rfl) (A3 (A0 rfl) B2)) rfl ?_;intro x35 ok35;refine R4 ?_
  (refine I2 [0] ((x35.1, ⟨x32.2, x35.2, 0⟩)) ?_ rfl j8 (N6 rfl (H8 (ys := _) 1 rfl rfl AB7 o0 rfl)); (simp only [A6] at *; unfold o8; dsimp only; exact ⟨by omega, ⟨⟨by omega, by omega⟩, by omega, by omega⟩⟩))
 intro h28;refine R5 ?_;refine A2 ?_ ?_
 ·intro h37;refine R1 ?_;refine AWP.le (B9 [2] rfl) ?_;refine P3 _ [(0, false), (1, false), (3, false), (4, false), (5, false), (6, false), (2, true), (7, true)] E3 E3 rfl (S8 1) ?_;refine R6 ?_;refine U2 rfl rfl rfl (S5 [1] rfl Tryz.call136 rfl (AK4 _ _ hcode _ ([(5), (6)] : List Int) D5 qz8) (A3 (A0 rfl) (A3 (A0 rfl) B2)) rfl) (fun a _ => qz4) ?_;intro x41 ok41;refine U2 rfl rfl rfl (S5 [2] rfl Tryz.call59 rfl (O4 _ _ hcode _ _ AZ6 qz8) (A3 (A0 rfl) (A3 (A0 rfl) B2)) rfl) (fun a _ => qz4) ?_;intro x46 ok46;refine R5 ?_
  (refine I2 [2] ((x46.1, ⟨x41.2, x46.2, 0⟩)) ?_ rfl j8 (N6 rfl (H8 (ys := _) 1 rfl rfl AB7 o0 rfl)); (simp only [A6] at *; unfold o8; dsimp only; exact ⟨by omega, ⟨⟨by omega, by omega⟩, by omega, by omega⟩⟩))
 intro h37;refine R6 ?_;refine A2 ?_ ?_
 ·intro h48;refine R1 ?_;refine A2 ?_ ?_
  ·intro h48;refine R3 ?_;refine E6 [0] rfl rfl rfl rfl Tryz.call59 rfl (O4 _ _ hcode _ _ AZ6 qz8) (A3 (A0 rfl) (A3 I7 B2)) rfl ?_;intro x52 ok52;refine R5 ?_
   (refine I2 [0] ((x52.1, ⟨1, 1 + x52.2, 0⟩)) ?_ rfl j8 (N6 rfl (H8 (ys := _) 1 rfl rfl AB7 o0 rfl)); (simp only [A6] at *; unfold o8; dsimp only; exact ⟨by omega, ⟨⟨by omega, by omega⟩, by omega, by omega⟩⟩))
  intro hz9; rw [h48] at hz9; cases hz9
 intro h48;refine R4 ?_;refine A2 ?_ ?_
 ·intro h48;refine R3 ?_;refine E6 [0] rfl rfl rfl rfl Tryz.call59 rfl (O4 _ _ hcode _ _ AZ6 qz8) (A3 (A0 rfl) (A3 I7 B2)) rfl ?_;intro x52 ok52;refine R5 ?_
  (refine I2 [0] ((x52.1, ⟨1, 1 + x52.2, 0⟩)) ?_ rfl j8 (N6 rfl (H8 (ys := _) 1 rfl rfl AB7 o0 rfl)); (simp only [A6] at *; unfold o8; dsimp only; exact ⟨by omega, ⟨⟨by omega, by omega⟩, by omega, by omega⟩⟩))
 intro h48;refine R5 ?_;refine A2 ?_ ?_
 ·intro h55;refine R1 ?_;refine AWP.le (B9 [2] rfl) ?_;refine P3 _ [(0, false), (1, false), (3, false), (4, false), (5, false), (6, false), (2, true), (7, false), (8, true)] E3 E3 rfl (S8 1) ?_;refine R6 ?_;refine U2 rfl rfl rfl (S5 [1] rfl Tryz.call136 rfl (AK4 _ _ hcode _ ([(8), (9), (9), (9)] : List Int) D5 qz8) (A3 (A0 rfl) (A3 (A0 rfl) B2)) rfl) (fun a _ => qz4) ?_;intro x59 ok59;refine P1 rfl rfl rfl (fun ext => A9 rfl Tryz.call153 rfl (AC3 _ _) (A3 I7 L2)) ?_;refine U2 rfl rfl rfl (S5 [2] rfl Tryz.call59 rfl (O4 _ _ hcode _ _ AZ6 qz8) (A3 (A0 rfl) (A3 (A0 rfl) B2)) rfl) (fun a _ => qz4) ?_;intro x65 ok65;refine R5 ?_
  (refine I2 [2] ((x65.1, ⟨x59.2, x65.2, 0⟩)) ?_ rfl j8 (N6 rfl (H8 (ys := _) 1 rfl rfl AB7 o0 rfl)); (simp only [A6] at *; unfold o8; dsimp only; exact ⟨by omega, ⟨⟨by omega, by omega⟩, by omega, by omega⟩⟩))
 intro h55;refine R6 ?_;refine A2 ?_ ?_
 ·intro h67;refine R1 ?_;refine A2 ?_ ?_
  ·intro h67;refine R6 ?_;refine A1 rfl (A9 rfl Tryz.call153 rfl (AC3 _ _) (A3 I7 L2)) ?_;refine E6 [0] rfl rfl rfl rfl Tryz.call59 rfl (O4 _ _ hcode _ _ AZ6 qz8) (A3 (A0 rfl) (A3 (A0 rfl) B2)) rfl ?_;intro x75 ok75;refine R4 ?_
   (refine I2 [0] ((x75.1, ⟨10, x75.2, 0⟩)) ?_ rfl j8 (N6 rfl (H8 (ys := _) 1 rfl rfl AB7 o0 rfl)); (simp only [A6] at *; unfold o8; dsimp only; exact ⟨by omega, ⟨⟨by omega, by omega⟩, by omega, by omega⟩⟩))
  intro hz9; rw [h67] at hz9; cases hz9
 intro h67;refine R4 ?_;refine A2 ?_ ?_
 ·intro h67;refine R6 ?_;refine A1 rfl (A9 rfl Tryz.call153 rfl (AC3 _ _) (A3 I7 L2)) ?_;refine E6 [0] rfl rfl rfl rfl Tryz.call59 rfl (O4 _ _ hcode _ _ AZ6 qz8) (A3 (A0 rfl) (A3 (A0 rfl) B2)) rfl ?_;intro x75 ok75;refine R4 ?_
  (refine I2 [0] ((x75.1, ⟨10, x75.2, 0⟩)) ?_ rfl j8 (N6 rfl (H8 (ys := _) 1 rfl rfl AB7 o0 rfl)); (simp only [A6] at *; unfold o8; dsimp only; exact ⟨by omega, ⟨⟨by omega, by omega⟩, by omega, by omega⟩⟩))
 intro h67;refine R7 ?_;refine A1 rfl (A9 rfl Tryz.call153 rfl (AC3 _ _) (A3 I7 L2)) ?_;refine E6 [0] rfl rfl rfl rfl Tryz.call59 rfl (O4 _ _ hcode _ _ AZ6 qz8) (A3 (A0 rfl) (A3 (A0 rfl) B2)) rfl ?_;intro x82 ok82;refine R4 ?_
 (refine I2 [0] ((x82.1, ⟨7, x82.2, 0⟩)) ?_ rfl j8 (N6 rfl (H8 (ys := _) 1 rfl rfl AB7 o0 rfl)); (simp only [A6] at *; unfold o8; dsimp only; exact ⟨by omega, ⟨⟨by omega, by omega⟩, by omega, by omega⟩⟩))
theorem Ce3 (b : Nat) (code : List Int) (hcode : q6 code) (c : V2) (w : E0) (most : Int) (hw : WI w) (hm : 0 ≤ most ∧ most ≤ 100) (hp : c.p ≤ 4000000) : M7 104 [AV.ptr b 0, AV.agg w.cs, AV.int most] [.box b 62 (U4 code c)] (fun x : V2 × List Z1 × Value => x.1.p ≤ c.p + 1000 ∧ x.2.1.length ≤ 101 ∧ ∀ a ∈ x.2.1, o8 a) (fun x => [.box b 62 (U4 code x.1), .arr x.2.2 163 3 (x.2.1.map Z1.cs)]) (fun x => AV.is x.2.2) := by
 refine C5 Tryz.func104 rfl Tryz.ntmps104 rfl ?_;refine R3 ?_;intro b4;refine A1 rfl (D8 rfl H3) ?_;refine R3 ?_;refine T6 163 3 rfl rfl rfl rfl H3 ?_;intro v7;refine R7 ?_;refine E6 [2] rfl rfl rfl rfl Tryz.call59 rfl (O4 _ _ hcode _ _ qz8 qz8) (A3 (A0 rfl) (A3 (A0 rfl) B2)) rfl ?_;intro x12 ok12;obtain ⟨n0, hn0⟩ : ∃ n0 : Nat, x12.2 = n0 := ⟨x12.2.toNat, by omega⟩;refine R3 ?_;refine AWP.le (B9 [0, 0] rfl) ?_;refine AN1 [(0, _), (4, _), (6, _)] _ (fun (n : Nat) (cc : V2) (l : List Z1) (v : Value) => n + l.length = n0 ∧ cc.p ≤ c.p + 2 + 6 * l.length ∧ ∀ a ∈ l, o8 a) (fun n cc l v => [.box b 62 (U4 code cc), .arr v 163 3 (l.map Z1.cs)]) (fun n cc l v => [(7, AV.is v), (8, AV.int n)]) (fun n cc l v => n) (n0) (x12.1) ([]) (v7) ?_ (I6 B7 ⟨rfl, D7 (fun z => some (AV.int z)) qz8, rfl, rfl, rfl, trivial⟩) ?_
 ·exact ⟨by simp, by omega, fun a h => by cases h⟩
 intro n cc l v hinv;refine R6 ?_;refine A2 ?_ ?_
 ·intro h14;have k14 := C6 h14;refine R7 ?_;refine E6 [0] rfl rfl rfl rfl Tryz.call125 rfl (Bs7 _ _ hcode _ w hw qz8) (A3 (A0 rfl) (A3 (A0 rfl) B2)) rfl ?_;intro x20 ok20;refine R1 ?_;refine H0 (by' := 24) 1 rfl rfl rfl rfl Tryz.underlying127 Tryz.type163 rfl rfl rfl rfl rfl rfl (A0 rfl) (A0 rfl) rfl Az6 ?_;intro v22_1;refine R7 ?_;refine u4 n cc l v (n - 1) (x20.1) (l ++ [x20.2]) (v22_1) ?_ ?_ (Le.trans (B9 [0, 0] rfl) (I6 BC8 ⟨rfl, D7 (fun z => some (AV.int z)) qz8, rfl, rfl, rfl, trivial⟩))
  ·exact ⟨by rw [G3, H1, P6]; omega, by rw [G3, H1, P6]; omega, fun a ha => (Z7.1 ha).elim (hinv.2.2 a) fun e => by (rw [V8.1 e]; exact ok20.2)⟩
  omega
 intro h14;have k14 := C2 h14;refine R7 ?_
 (refine I2 [0, 0] ((cc, l, v)) ?_ rfl j8 K5; exact ⟨show cc.p ≤ _ by omega, show l.length ≤ 101 by omega, hinv.2.2⟩)
theorem BZ8 (b : Nat) (code : List Int) (hcode : q6 code) (c : V2) (w : E0) (most : Int) (hw : WI w) (hm : 0 ≤ most ∧ most ≤ 100) (hp : c.p ≤ 4000000) : M7 104 [AV.ptr b 0, AV.agg w.cs, AV.int most] [.box b 62 (U4 code c)] (fun x : V2 × List Z1 => x.1.p ≤ c.p + 1000 ∧ x.2.length ≤ 101 ∧ ∀ a ∈ x.2, o8 a) (fun x => [.box b 62 (U4 code x.1)]) (fun x => AV.list 3 (x.2.map Z1.cs)) :=
  AS2 (fun x => (x.1, x.2.1)) (fun x => [.arr x.2.2 163 3 (x.2.1.map Z1.cs)]) (fun x => [.box b 62 (U4 code x.1)]) (Ce3 b code hcode c w most hw hm hp) (fun _ h => h) (fun x _ => M1 (V8.2 rfl) G6) (fun x _ => AM5 (l₁ := [_])) (fun _ _ => z7 0 rfl rfl Q2) (fun x _ => BJ1 ⟨rfl, rfl, AE9⟩ BA6)
theorem Bs8 (b : Nat) (code : List Int) (hcode : q6 code) (c : V2) (hp : c.p ≤ 3000000) : M7 121 [AV.ptr b 0] [.box b 62 (U4 code c)] (fun x : V2 × List (List TOp) × Value => x.1.p ≤ c.p + 500 ∧ x.2.1.length ≤ 4 ∧ ∀ p ∈ x.2.1, CY7 p) (fun x => [.box b 62 (U4 code x.1), .arr x.2.2 109 1 (x.2.1.map fun l => [AV.list 4 (l.map TOp.cs)])]) (fun x => AV.is x.2.2) := by
 refine C5 Tryz.func121 rfl Tryz.ntmps121 rfl ?_;refine R2 ?_;refine A1 rfl (D8 rfl H3) ?_;refine R3 ?_;refine T6 109 1 rfl rfl rfl rfl H3 ?_;intro v3;refine R5 ?_;refine E6 [1] rfl rfl rfl rfl Tryz.call59 rfl (O4 _ _ hcode _ _ qz8 qz8) (A3 (A0 rfl) (A3 I7 B2)) rfl ?_;intro x6 ok6;obtain ⟨n0, hn0⟩ : ∃ n0 : Nat, x6.2 = n0 := ⟨x6.2.toNat, by omega⟩;refine R4 ?_;refine AWP.le (B9 [0, 0] rfl) ?_;refine AN1 [(0, _), (2, _)] _ (fun (n : Nat) (cc : V2) (l : List (List TOp)) (v : Value) => n + l.length = 1 + n0 ∧ cc.p ≤ c.p + 2 + 100 * l.length ∧ ∀ p ∈ l, CY7 p) (fun n cc l v => [.box b 62 (U4 code cc), .arr v 109 1 (l.map fun l => [AV.list 4 (l.map TOp.cs)])]) (fun n cc l v => [(3, AV.is v), (4, AV.int n)]) (fun n cc l v => n) (1 + n0) (x6.1) ([]) (v3) ?_ (I6 B7 ⟨rfl, D7 (fun z => some (AV.int z)) qz8, rfl, rfl, trivial⟩) ?_
 ·exact ⟨by simp, by simp; omega, fun a h => by cases h⟩
 intro n cc l v hinv;refine R6 ?_;refine A2 ?_ ?_
 ·intro h9;have k9 := C6 h9;refine R6 ?_;refine E6 [0] rfl rfl rfl rfl Tryz.call83 rfl (Bh3 _ _ hcode _ qz8) (A3 (A0 rfl) B2) rfl ?_;intro x14 ok14;refine V0 1 rfl fun one_x14_2_2 => ?_;refine Aa4 (z8 [1] 14 rfl rfl (M1 (C3 (i := 0) rfl) G6) (z7 0 rfl rfl Q2)) ?_;refine R1 ?_;refine H0 (by' := 24) 1 rfl rfl rfl rfl Tryz.underlying158 Tryz.type109 rfl rfl rfl rfl rfl rfl (A0 rfl) (A0 rfl) rfl Az6 ?_;intro v16_1;refine R7 ?_;refine u4 n cc l v (n - 1) (x14.1) (l ++ [x14.2.1]) (v16_1) ?_ ?_ (Le.trans (B9 [0, 0] rfl) (I6 BC8 ⟨rfl, D7 (fun z => some (AV.int z)) qz8, rfl, rfl, trivial⟩))
  ·exact ⟨by rw [G3, H1, P6]; omega, by rw [G3, H1, P6]; omega, fun a ha => (Z7.1 ha).elim (hinv.2.2 a) fun e => by (rw [V8.1 e]; exact ⟨Cw0 qz8 ok14.2.2, ok14.2.1.1⟩)⟩
  omega
 intro h9;have k9 := C2 h9;refine R7 ?_
 (refine I2 [0, 0] ((cc, l, v)) ?_ rfl j8 K5; exact ⟨show cc.p ≤ _ by omega, show l.length ≤ 4 by omega, hinv.2.2⟩)
theorem Aj3 (b : Nat) (code : List Int) (hcode : q6 code) (c : V2) (hp : c.p ≤ 3000000) : M7 121 [AV.ptr b 0] [.box b 62 (U4 code c)] (fun x : V2 × List (List TOp) => x.1.p ≤ c.p + 500 ∧ x.2.length ≤ 4 ∧ ∀ p ∈ x.2, CY7 p) (fun x => [.box b 62 (U4 code x.1)]) (fun x => AV.list 1 (x.2.map fun l => [AV.list 4 (l.map TOp.cs)])) :=
  AS2 (fun x => (x.1, x.2.1)) (fun x => [.arr x.2.2 109 1 (x.2.1.map fun l => [AV.list 4 (l.map TOp.cs)])]) (fun x => [.box b 62 (U4 code x.1)]) (Bs8 b code hcode c hp) (fun _ h => h) (fun x _ => M1 (V8.2 rfl) G6) (fun x _ => AM5 (l₁ := [_])) (fun _ _ => z7 0 rfl rfl Q2) (fun x _ => BJ1 ⟨rfl, rfl, AE9⟩ BA6)
theorem Bs9 (b : Nat) (code : List Int) (hcode : q6 code) (c : V2) (hp : c.p ≤ 3000000) : M7 122 [AV.ptr b 0] [.box b 62 (U4 code c)] (fun x : V2 × List (List Str) × Value => x.1.p ≤ c.p + 100 ∧ x.2.1.length ≤ 4 ∧ ∀ p ∈ x.2.1, CA0 p) (fun x => [.box b 62 (U4 code x.1), .arr x.2.2 98 1 (x.2.1.map fun l => [strs l])]) (fun x => AV.is x.2.2) := by
 refine C5 Tryz.func122 rfl Tryz.ntmps122 rfl ?_;refine R2 ?_;refine A1 rfl (D8 rfl H3) ?_;refine R3 ?_;refine T6 98 1 rfl rfl rfl rfl H3 ?_;intro v3;refine R5 ?_;refine E6 [1] rfl rfl rfl rfl Tryz.call59 rfl (O4 _ _ hcode _ _ qz8 qz8) (A3 (A0 rfl) (A3 I7 B2)) rfl ?_;intro x8 ok8;obtain ⟨n0, hn0⟩ : ∃ n0 : Nat, x8.2 = n0 := ⟨x8.2.toNat, by omega⟩;refine R3 ?_;refine AWP.le (B9 [0, 0] rfl) ?_;refine AN1 [(0, _), (2, _)] _ (fun (n : Nat) (cc : V2) (l : List (List Str)) (v : Value) => (n + l.length = n0 ∧ n0 ≤ 2) ∧ cc.p ≤ c.p + 2 + 20 * l.length ∧ ∀ p ∈ l, CA0 p) (fun n cc l v => [.box b 62 (U4 code cc), .arr v 98 1 (l.map fun l => [strs l])]) (fun n cc l v => [(3, AV.is v), (4, AV.int n)]) (fun n cc l v => n) (n0) (x8.1) ([]) (v3) ?_ (I6 B7 ⟨rfl, D7 (fun z => some (AV.int z)) qz8, rfl, rfl, trivial⟩) ?_
 ·exact ⟨⟨by simp, by omega⟩, by simp; omega, fun a h => by cases h⟩
 intro n cc l v hinv;refine R6 ?_;refine A2 ?_ ?_
 ·intro h10;have k10 := C6 h10;have hinv0 := hinv;refine R5 ?_;refine T6 9 1 rfl rfl rfl rfl H3 ?_;intro v5;refine R5 ?_;refine E6 [1] rfl rfl rfl rfl Tryz.call59 rfl (O4 _ _ hcode _ _ qz8 qz8) (A3 (A0 rfl) (A3 I7 B2)) rfl ?_;intro x14 ok14;obtain ⟨m0, hm0⟩ : ∃ m0 : Nat, x14.2 = m0 := ⟨x14.2.toNat, by omega⟩;refine R4 ?_;refine AWP.le (B9 [0, 0, 0] rfl) ?_;refine AN1 [(0, _), (2, _), (3, _), (4, _), (9, _), (10, _), (13, _), (14, _), (15, _)] _ (fun (m : Nat) (c2 : V2) (rs : List Str) (u : Value) => (m + rs.length ≤ 1 + m0 ∧ (m = 1 + m0 ∨ 1 ≤ rs.length)) ∧ c2.p + 2 * m ≤ cc.p + 4 + 2 * m0 ∧ AO2 rs ∧ ∀ k ∈ rs, k ∈ AA7) (fun m c2 rs u => [.box b 62 (U4 code c2), .arr u 9 1 (rs.map fun t => [AV.str t]), .arr v 98 1 (l.map fun l => [strs l])]) (fun m c2 rs u => [(5, AV.is u), (6, AV.int m)]) (fun m c2 rs u => m) (1 + m0) (x14.1) ([]) (v5) ?_ (I6 B7 ⟨rfl, D7 (fun z => some (AV.int z)) qz8, rfl, rfl, rfl, rfl, rfl, rfl, rfl, rfl, rfl, trivial⟩) ?_
  ·exact ⟨⟨by simp, .inl rfl⟩, by omega, List.Pairwise.nil, fun k hk => by cases hk⟩
  intro m c2 rs u hinv;refine R6 ?_;refine A2 ?_ ?_
  ·intro h17;have k17 := C6 h17;refine R6 ?_;refine E6 [0] rfl rfl rfl rfl Tryz.call135 rfl (Bh1 _ _ hcode _ qz8) (A3 (A0 rfl) B2) rfl ?_;intro x22 ok22;refine E6 [1] rfl rfl rfl rfl Tryz.call128 rfl (AW8 u rs x22.2 hinv.2.2.1 qz8) E4 rfl ?_;intro x23 ok23;refine R7 ?_;refine u4 m c2 rs u (m - 1) (x22.1) (AA6 rs x22.2) (x23) ?_ ?_ (Le.trans (B9 [1, 0, 0] rfl) (I6 B7 ⟨rfl, D7 (fun z => some (AV.int z)) qz8, rfl, rfl, rfl, rfl, rfl, rfl, rfl, rfl, rfl, trivial⟩))
   ·(have h9 := BO9 x22.2 rs; have h6 : 1 ≤ (AA6 rs x22.2).length := putS_pos x22.2 rs; exact ⟨⟨by omega, .inr h6⟩, by omega, (BB0 hinv.2.2.1).1, fun k hk => by (rcases ((BB0 hinv.2.2.1).2 k).1 hk with hk | hk; (exact hinv.2.2.2 k hk); (rw [hk]; exact ok22.2))⟩)
   omega
  intro h17;have k17 := C2 h17;refine R4 ?_;refine V0 1 rfl fun one_u => ?_;refine Aa4 (z8 [1] 25 rfl rfl (M1 (C3 (i := 0) rfl) G6) (z7 0 rfl rfl Q2)) ?_;refine R1 ?_;refine H0 (by' := 24) 1 rfl rfl rfl rfl AH4 Tryz.type98 rfl rfl rfl rfl rfl rfl (A0 rfl) (A0 rfl) rfl Az6 ?_;intro v27_1;refine R7 ?_;refine u4 n cc l v (n - 1) (c2) (l ++ [rs]) (v27_1) ?_ ?_ (Le.trans (B9 [0, 0] rfl) (I6 BC8 ⟨rfl, D7 (fun z => some (AV.int z)) qz8, rfl, rfl, trivial⟩))
  ·exact ⟨⟨by rw [G3, H1, P6]; omega, by omega⟩, by rw [G3, H1, P6]; omega, fun a ha => (Z7.1 ha).elim (hinv0.2.2 a) fun e => by (rw [V8.1 e]; exact ⟨⟨by omega, by omega⟩, hinv.2.2.1, hinv.2.2.2⟩)⟩
  omega
 intro h10;have k10 := C2 h10;refine R7 ?_
 (refine I2 [0, 0] ((cc, l, v)) ?_ rfl j8 K5; exact ⟨show cc.p ≤ _ by omega, show l.length ≤ 4 by omega, hinv.2.2⟩)
theorem AX1 (b : Nat) (code : List Int) (hcode : q6 code) (c : V2) (hp : c.p ≤ 3000000) : M7 122 [AV.ptr b 0] [.box b 62 (U4 code c)] (fun x : V2 × List (List Str) => x.1.p ≤ c.p + 100 ∧ x.2.length ≤ 4 ∧ ∀ p ∈ x.2, CA0 p) (fun x => [.box b 62 (U4 code x.1)]) (fun x => AV.list 1 (x.2.map fun l => [strs l])) :=
  AS2 (fun x => (x.1, x.2.1)) (fun x => [.arr x.2.2 98 1 (x.2.1.map fun l => [strs l])]) (fun x => [.box b 62 (U4 code x.1)]) (Bs9 b code hcode c hp) (fun _ h => h) (fun x _ => M1 (V8.2 rfl) G6) (fun x _ => AM5 (l₁ := [_])) (fun _ _ => z7 0 rfl rfl Q2) (fun x _ => BJ1 ⟨rfl, rfl, AE9⟩ BA6)
def CN5 : List (List Str) := [[[109]], [[99]], [], [[98], [110]]]
theorem CX9 {l : List Str} (h : l ∈ CN5) : Ar3 l = true ∧ l.length ≤ 2 ∧ ∀ k ∈ l, k.length ≤ 12 := by
  have : ∀ l ∈ CN5, Ar3 l = true ∧ l.length ≤ 2 ∧ ∀ k ∈ l, k.length ≤ 12 := by decide
  exact this l h
theorem Bt0 (b : Nat) (code : List Int) (hcode : q6 code) (c : V2) (hp : c.p ≤ 2000000) : M7 102 [AV.ptr b 0] [.box b 62 (U4 code c)] (fun x : V2 × E0 => x.1.p ≤ c.p + 700 ∧ WI x.2 ∧ WQ x.2) (fun x => [.box b 62 (U4 code x.1)]) (fun x => AV.agg x.2.cs) := by
 refine C5 Tryz.func102 rfl Tryz.ntmps102 rfl ?_;refine R3 ?_;intro b2;refine R2 ?_;refine Y7 _ 19 (.pure 0 (.pure 1 (.pure 2 (.pure 3 (.pure 4 (.pure 5 (.pure 9 (.pure 11 (.e2 6 (.pure 7 (.pure 8 (.e2 10 (.e2 12 (.e2 13 (.pure 14 (.pure 15 (.pure 16 (.e1 17 (.e1 18 .nil))))) 17 (.e1 13 (.pure 14 (.pure 15 (.pure 16 (.e1 18 .nil)))))) 17 (.e1 12 (.e1 13 (.pure 14 (.pure 15 (.pure 16 (.e1 18 .nil))))))) 17 (.e1 10 (.e1 12 (.e1 13 (.pure 14 (.pure 15 (.pure 16 (.e1 18 .nil)))))))))) 17 (.e1 6 (.pure 7 (.pure 8 (.e1 10 (.e1 12 (.e1 13 (.pure 14 (.pure 15 (.pure 16 (.e1 18 .nil))))))))))))))))))) E3 E3 rfl (S8 1) ?_;refine N5 rfl rfl rfl (fun ext => Ai4 rfl G9 M4 Tryz.zeroValue9 rfl rfl rfl rfl (E1 (N9 (l := [109]) rfl) (a8 _) X0) rfl rfl) ?_;refine N5 rfl rfl rfl (fun ext => Ai4 rfl G9 M4 Tryz.zeroValue9 rfl rfl rfl rfl (E1 (N9 (l := [99]) rfl) (a8 _) X0) rfl rfl) ?_;refine R1 ?_;refine N5 rfl rfl rfl (fun ext => Ai4 rfl G9 M4 Tryz.zeroValue9 rfl rfl rfl rfl (E1 (N9 (l := [98]) rfl) (a8 _) (E1 (N9 (l := [110]) rfl) (a8 _) X0)) rfl rfl) ?_;refine R4 ?_;refine AW3 ?_ ?_
 ·refine L1 rfl rfl rfl (S5 [1] rfl Tryz.call59 rfl (O4 _ _ hcode _ _ qz8 qz8) (A3 (A0 rfl) (A3 I7 B2)) rfl) (fun a _ => qz4) ?_;intro x12 ok12;obtain ⟨cu, hcu⟩ := B3 (show x12.2.toNat < CN5.length from (show x12.2.toNat < 4 by omega));have hco := CX9 (C3 hcu);refine N5 rfl rfl rfl (fun ext => AW0 rfl AH4 AD9 (A0 rfl) (A0 rfl) qz8 (P0 (f := fun l : List Str => [strs l]) hcu)) ?_;refine R1 ?_;refine AW3 ?_ ?_
  ·refine L1 rfl rfl rfl (S5 [1] rfl Tryz.call121 rfl (Aj3 _ _ hcode _ qz8) (A3 (A0 rfl) B2) rfl) (fun a _ => qz4) ?_;intro x16 ok16;refine AW3 ?_ ?_
   ·refine L1 rfl rfl rfl (S5 [1] rfl Tryz.call122 rfl (AX1 _ _ hcode _ qz8) (A3 (A0 rfl) B2) rfl) (fun a _ => qz4) ?_;intro x18 ok18;refine AW3 ?_ ?_
    ·refine L1 rfl rfl rfl (S5 [] rfl Tryz.call120 rfl (Ac6 cu x16.2 x18.2 ⟨hco, ⟨ok16.2.1, ok16.2.2⟩, ⟨ok18.2.1, ok18.2.2⟩⟩) AD6 rfl) (fun a _ => qz4) ?_;intro x19 ok19;refine R4 ?_;refine L1 rfl rfl rfl (j7 rfl Tryz.zeroValue104 rfl) (fun a _ => qz4) ?_;intro b3 _;refine R1 ?_;refine AU1 rfl rfl rfl (w6 2 rfl rfl (A0 rfl) (A0 rfl) (m3 _) rfl Q5 rfl) (fun a _ => qz4) ?_;intro _ _;refine R9 ?_
     (refine I2 [1] ((_, x19)) ?_ rfl j8 (N6 rfl (H8 (ys := _) 0 rfl rfl j0 Q5 rfl)); exact ⟨by dsimp only; omega, ok19⟩)
    refine L1 rfl rfl rfl (j7 rfl Tryz.zeroValue104 rfl) (fun a _ => qz4) ?_;intro b3 _;refine R1 ?_;refine L1 rfl rfl rfl (S5 [] rfl Tryz.call120 rfl (Ac6 cu x16.2 x18.2 ⟨hco, ⟨ok16.2.1, ok16.2.2⟩, ⟨ok18.2.1, ok18.2.2⟩⟩) AD6 rfl) (fun a _ => qz4) ?_;intro x19 ok19;refine R4 ?_;refine AU1 rfl rfl rfl (w6 2 rfl rfl (A0 rfl) (A0 rfl) (m3 _) rfl Q5 rfl) (fun a _ => qz4) ?_;intro _ _;refine R9 ?_
    (refine I2 [1] ((_, x19)) ?_ rfl j8 (N6 rfl (H8 (ys := _) 0 rfl rfl j0 Q5 rfl)); exact ⟨by dsimp only; omega, ok19⟩)
   refine L1 rfl rfl rfl (j7 rfl Tryz.zeroValue104 rfl) (fun a _ => qz4) ?_;intro b3 _;refine R1 ?_;refine L1 rfl rfl rfl (S5 [1] rfl Tryz.call122 rfl (AX1 _ _ hcode _ qz8) (A3 (A0 rfl) B2) rfl) (fun a _ => qz4) ?_;intro x18 ok18;refine R1 ?_;refine L1 rfl rfl rfl (S5 [] rfl Tryz.call120 rfl (Ac6 cu x16.2 x18.2 ⟨hco, ⟨ok16.2.1, ok16.2.2⟩, ⟨ok18.2.1, ok18.2.2⟩⟩) AD6 rfl) (fun a _ => qz4) ?_;intro x19 ok19;refine R4 ?_;refine AU1 rfl rfl rfl (w6 1 rfl rfl (A0 rfl) (A0 rfl) (m3 _) rfl Q5 rfl) (fun a _ => qz4) ?_;intro _ _;refine R9 ?_
   (refine I2 [2] ((_, x19)) ?_ rfl j8 (N6 rfl (H8 (ys := _) 0 rfl rfl j0 Q5 rfl)); exact ⟨by dsimp only; omega, ok19⟩)
  refine L1 rfl rfl rfl (j7 rfl Tryz.zeroValue104 rfl) (fun a _ => qz4) ?_;intro b3 _;refine R1 ?_;refine L1 rfl rfl rfl (S5 [1] rfl Tryz.call121 rfl (Aj3 _ _ hcode _ qz8) (A3 (A0 rfl) B2) rfl) (fun a _ => qz4) ?_;intro x16 ok16;refine R1 ?_;refine L1 rfl rfl rfl (S5 [2] rfl Tryz.call122 rfl (AX1 _ _ hcode _ qz8) (A3 (A0 rfl) B2) rfl) (fun a _ => qz4) ?_;intro x18 ok18;refine R1 ?_;refine L1 rfl rfl rfl (S5 [] rfl Tryz.call120 rfl (Ac6 cu x16.2 x18.2 ⟨hco, ⟨ok16.2.1, ok16.2.2⟩, ⟨ok18.2.1, ok18.2.2⟩⟩) AD6 rfl) (fun a _ => qz4) ?_;intro x19 ok19;refine R4 ?_;refine AU1 rfl rfl rfl (w6 1 rfl rfl (A0 rfl) (A0 rfl) (m3 _) rfl Q5 rfl) (fun a _ => qz4) ?_;intro _ _;refine R9 ?_
  (refine I2 [2] ((_, x19)) ?_ rfl j8 (N6 rfl (H8 (ys := _) 0 rfl rfl j0 Q5 rfl)); exact ⟨by dsimp only; omega, ok19⟩)
 refine L1 rfl rfl rfl (j7 rfl Tryz.zeroValue104 rfl) (fun a _ => qz4) ?_;intro b3 _;refine R1 ?_;refine L1 rfl rfl rfl (S5 [1] rfl Tryz.call59 rfl (O4 _ _ hcode _ _ qz8 qz8) (A3 (A0 rfl) (A3 I7 B2)) rfl) (fun a _ => qz4) ?_;intro x12 ok12;obtain ⟨cu, hcu⟩ := B3 (show x12.2.toNat < CN5.length from (show x12.2.toNat < 4 by omega));have hco := CX9 (C3 hcu);refine N5 rfl rfl rfl (fun ext => AW0 rfl AH4 AD9 (A0 rfl) (A0 rfl) qz8 (P0 (f := fun l : List Str => [strs l]) hcu)) ?_;refine R2 ?_;refine L1 rfl rfl rfl (S5 [2] rfl Tryz.call121 rfl (Aj3 _ _ hcode _ qz8) (A3 (A0 rfl) B2) rfl) (fun a _ => qz4) ?_;intro x16 ok16;refine R1 ?_;refine L1 rfl rfl rfl (S5 [2] rfl Tryz.call122 rfl (AX1 _ _ hcode _ qz8) (A3 (A0 rfl) B2) rfl) (fun a _ => qz4) ?_;intro x18 ok18;refine R1 ?_;refine L1 rfl rfl rfl (S5 [] rfl Tryz.call120 rfl (Ac6 cu x16.2 x18.2 ⟨hco, ⟨ok16.2.1, ok16.2.2⟩, ⟨ok18.2.1, ok18.2.2⟩⟩) AD6 rfl) (fun a _ => qz4) ?_;intro x19 ok19;refine R4 ?_;refine AU1 rfl rfl rfl (w6 1 rfl rfl (A0 rfl) (A0 rfl) (m3 _) rfl Q5 rfl) (fun a _ => qz4) ?_;intro _ _;refine R9 ?_
 (refine I2 [2] ((_, x19)) ?_ rfl j8 (N6 rfl (H8 (ys := _) 0 rfl rfl j0 Q5 rfl)); exact ⟨by dsimp only; omega, ok19⟩)
theorem CY0 (b : Nat) (code : List Int) (hcode : q6 code) (c : V2) (hp : c.p ≤ 1000000) : M7 80 [AV.ptr b 0] [.box b 62 (U4 code c)] (fun x : V2 × E0 => x.1.p ≤ c.p + 2000 ∧ WI x.2 ∧ WQ x.2) (fun x => [.box b 62 (U4 code x.1)]) (fun x => AV.agg x.2.cs) := by
 refine C5 Tryz.func80 rfl Tryz.ntmps80 rfl ?_;refine R3 ?_;intro b2;refine R4 ?_;refine E6 [1] rfl rfl rfl rfl Tryz.call102 rfl (Bt0 _ _ hcode _ qz8) (A3 (A0 rfl) B2) rfl ?_;intro x7 ok7;refine R1 ?_;intro b3;refine R3 ?_;refine Y7 _ 10 (.pure 0 (.pure 1 (.pure 2 (.e2 3 (.e2 4 (.pure 5 (.pure 6 (.pure 7 (.e1 8 (.e1 9 .nil))))) 8 (.e1 4 (.pure 5 (.pure 6 (.pure 7 (.e1 9 .nil)))))) 8 (.e1 3 (.e1 4 (.pure 5 (.pure 6 (.pure 7 (.e1 9 .nil)))))))))) E3 E3 rfl (S8 1) ?_;refine R3 ?_;refine AW3 ?_ ?_
 ·refine L1 rfl rfl rfl (S5 [1] rfl Tryz.call104 rfl (BZ8 _ _ hcode _ x7.2 _ ok7.2.1 D5 qz8) (A3 (A0 rfl) (A3 (A0 rfl) (A3 I7 B2))) rfl) (fun a _ => qz4) ?_;intro x12 ok12;refine AW3 ?_ ?_
  ·refine L1 rfl rfl rfl (S5 [] rfl Tryz.call103 rfl (Bl7 x7.2 x12.2 ok7.2.1 ok7.2.2 ok12.2.2 qz8) E4 rfl) (fun a _ => qz4) ?_;intro x13 ok13;refine R4 ?_;refine L1 rfl rfl rfl (j7 rfl Tryz.zeroValue104 rfl) (fun a _ => qz4) ?_;intro b4 _;refine R1 ?_;refine AU1 rfl rfl rfl (w6 4 rfl rfl (A0 rfl) (A0 rfl) (m3 _) rfl Q5 rfl) (fun a _ => qz4) ?_;intro _ _;refine R9 ?_
   (refine I2 [2] ((x12.1, x13.1.1)) ?_ rfl j8 (N6 rfl (H8 (ys := _) 1 rfl rfl j0 Q5 rfl)); exact ⟨by dsimp only; omega, ok13⟩)
  refine L1 rfl rfl rfl (j7 rfl Tryz.zeroValue104 rfl) (fun a _ => qz4) ?_;intro b4 _;refine R1 ?_;refine L1 rfl rfl rfl (S5 [] rfl Tryz.call103 rfl (Bl7 x7.2 x12.2 ok7.2.1 ok7.2.2 ok12.2.2 qz8) E4 rfl) (fun a _ => qz4) ?_;intro x13 ok13;refine R4 ?_;refine AU1 rfl rfl rfl (w6 3 rfl rfl (A0 rfl) (A0 rfl) (m3 _) rfl Q5 rfl) (fun a _ => qz4) ?_;intro _ _;refine R9 ?_
  (refine I2 [2] ((x12.1, x13.1.1)) ?_ rfl j8 (N6 rfl (H8 (ys := _) 1 rfl rfl j0 Q5 rfl)); exact ⟨by dsimp only; omega, ok13⟩)
 refine L1 rfl rfl rfl (j7 rfl Tryz.zeroValue104 rfl) (fun a _ => qz4) ?_;intro b4 _;refine R1 ?_;refine L1 rfl rfl rfl (S5 [1] rfl Tryz.call104 rfl (BZ8 _ _ hcode _ x7.2 _ ok7.2.1 D5 qz8) (A3 (A0 rfl) (A3 (A0 rfl) (A3 I7 B2))) rfl) (fun a _ => qz4) ?_;intro x12 ok12;refine R1 ?_;refine L1 rfl rfl rfl (S5 [] rfl Tryz.call103 rfl (Bl7 x7.2 x12.2 ok7.2.1 ok7.2.2 ok12.2.2 qz8) E4 rfl) (fun a _ => qz4) ?_;intro x13 ok13;refine R4 ?_;refine AU1 rfl rfl rfl (w6 2 rfl rfl (A0 rfl) (A0 rfl) (m3 _) rfl Q5 rfl) (fun a _ => qz4) ?_;intro _ _;refine R9 ?_
 (refine I2 [3] ((x12.1, x13.1.1)) ?_ rfl j8 (N6 rfl (H8 (ys := _) 1 rfl rfl j0 Q5 rfl)); exact ⟨by dsimp only; omega, ok13⟩)
end Go.Proofs.YtogeipbkjamdkaaGreatDoor
namespace Go.Proofs.YtogeipbkjamdkaaGreatDoor
open Go.PQ
open Go Go.AV Go.M
attribute [local irreducible] OpW OpA OpS AWP J3 K8 K0 OpE J6 H5 J9 Le Ev F8 L6 Z8 Int.tmod Int.tdiv IntKind.wrap Q7
def B4.ocs (d : B4) (y : Value) : List AV := [AV.int d.Txn, AV.int d.Begin, AV.int d.End, AV.bool d.Yes, AV.bool d.Look, AV.int d.Time, AV.is y, AV.list 3 (d.Writes.map A4.cs)]
def B4.ow (d : B4) (y : Value) : List Go.AV.Own := [.arr y 80 3 (d.Got.map H4.cs)]
theorem B4.lcM {own : List Go.AV.Own} (d : B4) (y : Value) (h : ∀ o ∈ B4.ow d y, o ∈ own) : AD0 own (B4.ocs d y) d.cs := E2 J0 (E2 J0 (E2 J0 (E2 J0 (E2 J0 (E2 J0 (E2 (M1 (h _ (C3 (i := 0) rfl)) G6) AE9))))))
theorem Bh8 {d : B4} {g : H4} {v : Str} (h : d.Got[0]? = some g) : (CY8 d v).Got.map H4.cs = (d.Got.map H4.cs).set 0 [AV.str g.Key, AV.str v, AV.bool g.There] := by
  obtain ⟨a, b, c, y, k, t, got, ws⟩ := d
  cases got with
  | nil => simp at h
  | cons x r => simp at h; subst h; rfl
theorem lend_l9 {own : List Go.AV.Own} {a b c : List (List AV)} (e : a = b) (h : As9 own b c) : As9 own a c := e ▸ h
theorem CK6 (rows ws : List A4) (h : Bu4 rows) (hw : ws.length ≤ 1000) : F6 36 [AV.list 3 (rows.map A4.cs), AV.list 3 (ws.map A4.cs)] (AV.list 3 ((a7 rows ws).map A4.cs)) := by
  have h1 := BK0 rows ws (by have := h.2; omega) qz8;rw [BV9 h.1.1] at h1;exact h1
theorem Bz1 (b : Nat) (code : List Int) (hcode : q6 code) (c : V2) (hp : c.p ≤ 900000) : M7 58 [AV.ptr b 0] [.box b 62 (U4 code c)] (fun x : V2 × List B4 × Value => x.1.p ≤ c.p + 3000 ∧ x.2.1.length ≤ 10 ∧ r4 x.2.1) (fun x => [.box b 62 (U4 code x.1), .arr x.2.2 51 8 (x.2.1.map B4.cs)]) (fun x => AV.is x.2.2) := by
 refine C5 Tryz.func58 rfl Tryz.ntmps58 rfl ?_;refine R2 ?_;refine A1 rfl (D8 rfl H3) ?_;refine R5 ?_;refine E6 [0] rfl rfl rfl rfl Tryz.call32 rfl (AW7 _ _ hcode _ _ qz8 qz8) (A3 (A0 rfl) (A3 I7 B2)) rfl ?_;intro x13 ok13;refine R1 ?_;refine A2 ?_ ?_
 ·intro h13;refine R3 ?_;refine E6 [0] rfl rfl rfl rfl Tryz.call80 rfl (CY0 _ _ hcode _ qz8) (A3 (A0 rfl) B2) rfl ?_;intro x15 ok15;refine R1 ?_;intro b3;refine R5 ?_;refine E6 [] rfl rfl rfl rfl Tryz.call81 rfl (Cy4 x15.2 ok15.2.1) L2 rfl ?_;intro x17 ok17;refine R3 ?_;exact I2 [2, 0] ((x15.1, x17.1, x17.2)) (qz80) rfl B7 K5
 intro h13;refine R3 ?_;refine T6 51 8 rfl rfl rfl rfl H3 ?_;intro v4;refine R3 ?_;refine A1 rfl (D8 rfl (O2 (sz := 3))) ?_;refine R5 ?_;refine E6 [1] rfl rfl rfl rfl Tryz.call59 rfl (O4 _ _ hcode _ _ qz8 qz8) (A3 (A0 rfl) (A3 I7 B2)) rfl ?_;intro x19 ok19;obtain ⟨n0, hn0⟩ : ∃ n0 : Nat, x19.2 = n0 := ⟨x19.2.toNat, by omega⟩;refine R4 ?_;refine AWP.le (B9 [0, 0] rfl) ?_;refine CZ0 [(0, _), (2, _)] [] (fun (n : Nat) (S : V2 × List A4) (h : List B4) (Y : List Value) (v : Value) => ((n + h.length = 1 + n0 ∧ n0 ≤ 4) ∧ S.1.p ≤ c.p + 10 + 150 * h.length) ∧ Y.length = h.length ∧ BC7 h ∧ Bu4 S.2 ∧ S.2.length ≤ 4 * h.length) (fun n S h Y v => [.box b 62 (U4 code S.1), .arr v 51 8 (L7 B4.ocs h Y)] ++ (nin B4.ow h Y)) (fun n S h Y v => [(4, AV.is v), (5, AV.list 3 (S.2.map A4.cs)), (6, AV.int n)]) (fun n S h Y v => n) (1 + n0) ((x19.1, [])) ([]) ([]) (v4) ?_ (I6 B7 ⟨rfl, rfl, D7 (fun z => some (AV.int z)) qz8, rfl, rfl, trivial⟩) ?_
 ·exact ⟨⟨⟨by simp, by omega⟩, by simp; omega⟩, rfl, ⟨fun d hd => (by cases hd), fun d hd => (by cases hd)⟩, ⟨⟨rfl, fun w hw => (by cases hw)⟩, D6 _⟩, D6 _⟩
 intro n S h Y v hinv;refine K2 (S1 _) ?_;refine R6 ?_;refine A2 ?_ ?_
 ·intro h22;have k22 := C6 h22;have hrw := hinv.2.2.2.1;have hhl : h.length ≤ 5 := qz8;have hYl := hinv.2.1;have hnl := W7 (ocs := B4.ocs) hYl;refine R9 ?_;refine E6 [0] rfl rfl rfl rfl Tryz.call59 rfl (O4 _ _ hcode _ _ qz8 qz8) (A3 (A0 rfl) (A3 I7 B2)) rfl ?_;intro x29 ok29;refine R1 ?_;refine E6 [0] rfl rfl rfl rfl Tryz.call59 rfl (O4 _ _ hcode _ _ qz8 qz8) (A3 (A0 rfl) (A3 I7 B2)) rfl ?_;intro x31 ok31;refine R3 ?_;intro b7;refine R3 ?_;refine AWP.le (Ad4 0 7 3 rfl rfl (z7 1 rfl rfl Q2)) ?_;refine R3 ?_;refine E6 [1] rfl rfl rfl rfl Tryz.call83 rfl (Bh3 _ _ hcode _ qz8) (A3 (A0 rfl) B2) rfl ?_;intro x37 ok37;refine Aa4 (z8 [1] 37 rfl rfl (M1 (C3 (i := 0) rfl) G6) (z7 0 rfl rfl Q2)) ?_;refine E6 [] rfl rfl rfl rfl Tryz.call82 rfl (Cd8 S.2 x37.2.1 hrw.1.2 qz8 ok37.2.2) E4 rfl ?_;intro x38 ok38;have har := Cy8 (got := x38.1.1) ok37.2.1.2 ok37.2.2;refine R12 ?_;refine V0 0 rfl fun one_x38_2 => ?_;refine T2 2 rfl rfl rfl (A0 rfl) (A0 rfl) (O8 one_x38_2) rfl Q6 rfl ?_;refine R6 ?_;refine BV3 [(0, _), (2, _), (4, _), (6, _), (7, _), (8, _), (9, _), (10, _), (21, _), (22, _), (25, _), (26, _), (27, _), (28, _), (29, _), (30, _), (31, _), (32, _), (33, _), (34, _), (35, _), (36, _), (37, _), (38, _), (39, _), (40, _), (41, _), (42, _), (43, _), (44, _)] A5 (fun (ws : List A4) (r2 : List A4) => WsD ws ∧ Bu4 r2 ∧ r2.length ≤ S.2.length + 4) (fun (ws : List A4) (r2 : List A4) => [.box b 62 (U4 code x37.1), .box b7 51 [AV.int (((L7 B4.ocs h Y).length : Int) + 1), AV.int x29.2, AV.int (-1), AV.bool true, AV.bool false, AV.int (1 + x31.2), AV.is x38.2, AV.list 3 (ws.map A4.cs)], .arr v 51 8 (L7 B4.ocs h Y), .arr x38.2 80 3 (x38.1.1.map H4.cs)] ++ (nin B4.ow h Y)) (fun (ws : List A4) (r2 : List A4) => [(5, AV.list 3 (r2.map A4.cs))]) ?_ ?_
  ·skip
   refine A2 ?_ ?_
   ·intro h44;refine R9 ?_;refine A1 rfl (A9 rfl Tryz.call36 rfl (CK6 S.2 (Q4 x37.2.1 x38.1.1).2.2 hrw qz8) E4) ?_;refine R2 ?_;exact ⟨(Q4 x37.2.1 x38.1.1).2.2, a7 S.2 (Q4 x37.2.1 x38.1.1).2.2, qz159, Le.trans (B9 [1, 1, 1, 0] rfl) (E8 0 B7 A5)⟩
   intro h44;refine R1 ?_;exact ⟨[], S.2, qz159, Le.trans (B9 [1, 1, 1, 0] rfl) (E8 0 B7 A5)⟩
  intro ws r2 hIC44;refine R4 ?_;refine E6 [0] rfl rfl rfl rfl Tryz.call32 rfl (AW7 _ _ hcode _ _ qz8 qz8) (A3 (A0 rfl) (A3 I7 B2)) rfl ?_;intro x51 ok51;refine R1 ?_;refine BV3 [(0, _), (2, _), (4, _), (5, _), (6, _), (7, _), (8, _), (9, _), (10, _), (21, _), (22, _), (25, _), (26, _), (27, _), (28, _), (29, _), (30, _), (31, _), (32, _), (33, _), (34, _), (35, _), (36, _), (37, _), (38, _), (39, _), (40, _), (41, _), (42, _), (43, _), (44, _), (50, _), (51, _)] A5 (fun (lk : Bool) (w2 : List A4) => WsD w2) (fun (lk : Bool) (w2 : List A4) => [.box b 62 (U4 code x51.1), .box b7 51 [AV.int (((L7 B4.ocs h Y).length : Int) + 1), AV.int x29.2, AV.int (-1), AV.bool true, AV.bool lk, AV.int (1 + x31.2), AV.is x38.2, AV.list 3 (w2.map A4.cs)], .arr v 51 8 (L7 B4.ocs h Y), .arr x38.2 80 3 (x38.1.1.map H4.cs)] ++ (nin B4.ow h Y)) (fun (lk : Bool) (w2 : List A4) => []) ?_ ?_
  ·skip
   refine A2 ?_ ?_
   ·intro h51;refine R7 ?_;refine T2 1 rfl rfl rfl (A0 rfl) (O2 (sz := 3)) (n1 _ _) rfl Tryz.sizeOf32 rfl ?_;refine R1 ?_;exact ⟨true, [], (by first | exact hIC44.1 | exact Bz0), Le.trans (B9 [0, 0, 0, 0] rfl) (E8 0 B7 A5)⟩
   intro h51;refine R1 ?_;exact ⟨false, ws, (by first | exact hIC44.1 | exact Bz0), Le.trans (B9 [0, 0, 0, 0] rfl) (E8 0 B7 A5)⟩
  intro lk w2 hIC51;refine R4 ?_;refine E6 [0] rfl rfl rfl rfl Tryz.call32 rfl (AW7 _ _ hcode _ _ qz8 qz8) (A3 (A0 rfl) (A3 I7 B2)) rfl ?_;intro x55 ok55;refine R2 ?_;refine BV3 [(0, _), (2, _), (4, _), (5, _), (6, _), (7, _), (8, _), (9, _), (10, _), (21, _), (22, _), (25, _), (26, _), (27, _), (28, _), (29, _), (30, _), (31, _), (32, _), (33, _), (34, _), (35, _), (36, _), (37, _), (38, _), (39, _), (40, _), (41, _), (42, _), (43, _), (44, _), (50, _), (51, _), (54, _), (55, _), (56, _)] A5 (fun (cu : V2) (e : Int) => cu.p ≤ x55.1.p + 2) (fun (cu : V2) (e : Int) => [.box b 62 (U4 code cu), .box b7 51 [AV.int (((L7 B4.ocs h Y).length : Int) + 1), AV.int x29.2, AV.int (e), AV.bool true, AV.bool lk, AV.int (1 + x31.2), AV.is x38.2, AV.list 3 (w2.map A4.cs)], .arr v 51 8 (L7 B4.ocs h Y), .arr x38.2 80 3 (x38.1.1.map H4.cs)] ++ (nin B4.ow h Y)) (fun (cu : V2) (e : Int) => []) ?_ ?_
  ·skip
   refine A2 ?_ ?_
   ·intro h56;refine AWP.le (B9 [1, 0] rfl) ?_;refine P3 _ [(0, false), (1, false), (2, false), (3, false), (4, true)] E3 E3 rfl (S8 1) ?_;refine R4 ?_;refine U2 rfl rfl rfl (r6 3 (S5 [1] rfl Tryz.call59 rfl (O4 _ _ hcode _ _ qz8 qz8) (A3 (A0 rfl) (A3 I7 B2)) rfl)) (fun a _ => qz4) ?_;intro x61 ok61;refine R5 ?_;exact ⟨x61.1, x29.2 + 1 + x61.2, (by first | exact ok61.1 | exact Nat.le_add_right _ _), Le.trans (B9 [3, 0, 0, 0] rfl) (E8 0 B7 A5)⟩
   intro h56;refine R1 ?_;exact ⟨x55.1, -1, (by first | exact ok61.1 | exact Nat.le_add_right _ _), Le.trans (B9 [0, 0, 0, 0] rfl) (E8 0 B7 A5)⟩
  intro cu e hIC56;refine R4 ?_;refine H0 (by' := 88) 2 rfl rfl rfl rfl G2 Tryz.type51 rfl rfl rfl rfl rfl rfl (A0 rfl) (A0 rfl) rfl (by rw [W7 hYl]; simp only [S2]; omega) ?_;intro v67_1;refine R2 ?_;refine AWP.le (B9 [0, 0, 0, 0] rfl) ?_;refine AWP.le (Q8 3 (t := nin B4.ow (h ++ [(B4.mk (((L7 B4.ocs h Y).length : Int) + 1) x29.2 e true lk (1 + x31.2) x38.1.1 w2)]) (Y ++ [x38.2])) (CP5 (ow := B4.ow) (p := (B4.mk (((L7 B4.ocs h Y).length : Int) + 1) x29.2 e true lk (1 + x31.2) x38.1.1 w2)) (x := x38.2) hYl)) ?_;refine R5 ?_;refine Ci9 n S h Y v (n - 1) ((cu, r2)) (h ++ [⟨((L7 B4.ocs h Y).length : Int) + 1, x29.2, e, true, lk, 1 + x31.2, x38.1.1, w2⟩]) (Y ++ [x38.2]) (v67_1) ?_ ?_ (Le.trans (B9 [1, 0, 0] rfl) (E8 1 (Eq.trans (by (rw [Bn5 (ocs := B4.ocs) hinv.2.1]; rfl)) (S1 _).symm) ⟨rfl, rfl, D7 (fun z => some (AV.int z)) qz8, rfl, rfl, trivial⟩))
  ·exact ⟨⟨⟨by rw [G3]; simp; omega, by omega⟩, by rw [G3]; simp; omega⟩, by rw [G3, G3, hYl]; rfl, hinv.2.2.1.snoc hIC51.2.2 (Cq3 ok37.2.1.2 ok38 ⟨hIC51.1, hIC51.2.1⟩), hIC44.2.1, by rw [G3]; simp; omega⟩
  omega
 intro h22;have k22 := C2 h22;refine R5 ?_;refine E6 [0] rfl rfl rfl rfl Tryz.call32 rfl (AW7 _ _ hcode _ _ qz8 qz8) (A3 (A0 rfl) (A3 I7 B2)) rfl ?_;intro x69 ok69;refine R1 ?_;refine A2 ?_ ?_
 ·intro h69;refine R5 ?_;refine E6 [0] rfl rfl rfl rfl Tryz.call59 rfl (O4 _ _ hcode _ _ (by rw [W7 hinv.2.1]; omega) qz8) (A3 (A0 rfl) (A3 (A0 rfl) B2)) rfl ?_;intro x73 ok73;have hkl : x73.2.toNat < h.length := (by have h9 := W7 (ocs := B4.ocs) hinv.2.1; omega);obtain ⟨d, hd⟩ := B3 hkl;obtain ⟨y, hy⟩ := B3 (show x73.2.toNat < Y.length by rw [hinv.2.1]; exact hkl);obtain ⟨g0, hg0⟩ := Ap6 d.Got 0;refine R8 ?_;refine A1 rfl (H6 1 rfl G2 L3 (A0 rfl) rfl (A0 rfl) qz8 Bi3) ?_;refine A1 rfl (L0 1 rfl i8 rfl S0 (A0 rfl) rfl rfl BG4) ?_;refine A1 rfl (M6 1 rfl (A0 rfl) rfl AA3 BG4 rfl) ?_;refine A1 rfl (H6 1 rfl G2 L3 (A0 rfl) rfl (A0 rfl) qz8 Bi3) ?_;refine A1 rfl (L0 1 rfl i8 rfl S0 (A0 rfl) rfl rfl BG4) ?_;refine X3 1 rfl rfl rfl (A0 rfl) (A0 rfl) (AT6 _) rfl S0 BG4 rfl ?_;refine R2 ?_;refine AWP.le (Q8 2 (t := ([Go.AV.Own.arr y 80 3 (d.Got.map H4.cs)]) ++ (nin B4.ow (h.eraseIdx x73.2.toNat) (Y.eraseIdx x73.2.toNat))) (AU2 (ow := B4.ow) hd hy)) ?_;refine R3 ?_;refine A1 rfl (H6 1 rfl G2 L3 (A0 rfl) rfl (A0 rfl) qz8 Bi3) ?_;refine A1 rfl (L0 1 rfl i8 rfl Q6 (A0 rfl) rfl rfl BG4) ?_;refine A1 rfl (M6 1 rfl (A0 rfl) rfl w7 BG4 rfl) ?_;refine R5 ?_;refine N4 rfl (fun hc => H6 1 rfl G2 L3 (A8 rfl hc) rfl (A8 rfl hc) qz8 Bi3) ?_;refine N4 rfl (fun hc => L0 1 rfl i8 rfl Q6 (A8 rfl hc) rfl rfl BG4) ?_;refine N4 rfl (fun hc => M6 1 rfl (A8 rfl hc) rfl w7 BG4 rfl) ?_;refine N4 rfl (fun hc => H6 2 rfl M9 U3 (A8 rfl hc) rfl I7 qz8 Bi3) ?_;refine N4 rfl (fun hc => L0 2 rfl AI6 rfl S0 (A8 rfl hc) rfl rfl qz17) ?_;refine N4 rfl (fun hc => M6 2 rfl (A8 rfl hc) rfl AA3 qz17 rfl) ?_;refine R2 ?_;refine A2 ?_ ?_
  ·intro h99;have hgp : 0 < d.Got.length := (by simp only [A6] at h99; simp at h99; exact h99.1);refine AWP.le (B9 [1] rfl) ?_;refine P3 _ [(0, false), (1, false), (2, false), (3, false), (4, false), (5, false), (6, true)] E3 E3 rfl (S8 1) ?_;refine R2 ?_;refine P1 rfl rfl rfl (fun ext => H6 0 rfl G2 L3 (A0 rfl) rfl (A0 rfl) qz8 Bi3) ?_;refine P1 rfl rfl rfl (fun ext => L0 0 rfl i8 rfl Q6 (A0 rfl) rfl rfl BG4) ?_;refine P1 rfl rfl rfl (fun ext => M6 0 rfl (A0 rfl) rfl w7 BG4 rfl) ?_;refine R1 ?_;refine U2 rfl rfl rfl (r6 2 (S5 [1] rfl Tryz.call84 rfl (Cn4 _ _ hcode _ qz8) (A3 (A0 rfl) B2) rfl)) (fun a _ => qz4) ?_;intro x106 ok106;obtain ⟨D9, hD9⟩ : ∃ D9, D9 = CY8 d x106.2 := ⟨_, rfl⟩;obtain ⟨H9, hH9⟩ : ∃ H9, H9 = h.set x73.2.toNat D9 := ⟨_, rfl⟩;have hH1 : r4 H9 ∧ H9.length ≤ 10 := (by rw [hH9, hD9]; exact ⟨CH2 hinv.2.2.1 hd rfl (Ce2 d ok106.2), by rw [V4]; omega⟩);refine R1 ?_;refine A1 rfl (H6 1 rfl M9 U3 (A0 rfl) rfl I7 qz8 Bi3) ?_;refine A1 rfl (L0 1 rfl AI6 rfl M4 (A0 rfl) rfl rfl qz17) ?_;refine X3 1 rfl rfl rfl (A0 rfl) (A0 rfl) (a8 _) rfl M4 qz17 rfl ?_;refine R2 ?_;refine K2 AZ7 ?_;refine AWP.le (B9 [0, 1, 0] rfl) ?_;refine AWP.le (Q8 2 (t := nin B4.ow (h.set x73.2.toNat D9) Y) ((Ae1 (b := B4.ow D9 y ++ nin B4.ow (h.eraseIdx x73.2.toNat) (Y.eraseIdx x73.2.toNat)) (by subst hD9; first | rfl | (unfold B4.ow; rw [Bh8 (hg0 hgp)]; rfl)) (Cf4 hd hy)))) ?_;refine R2 ?_;refine Aa4 (Ai7 2 0 (.arr v 51 8 (H9.map B4.cs)) rfl (⟨rfl, rfl, rfl, qz52⟩) (z7 1 rfl rfl Q2)) ?_;refine R3 ?_;exact I2 [1, 0] ((x106.1, H9, v)) (qz80) rfl B7 K5
  intro h99;obtain ⟨D9, hD9⟩ : ∃ D9, D9 = yesLook d := ⟨_, rfl⟩;obtain ⟨H9, hH9⟩ : ∃ H9, H9 = h.set x73.2.toNat D9 := ⟨_, rfl⟩;have hH1 : r4 H9 ∧ H9.length ≤ 10 := (by rw [hH9, hD9]; exact ⟨CH2 hinv.2.2.1 hd rfl (Nat.le_add_right _ _), by rw [V4]; omega⟩);refine R2 ?_;refine K2 AZ7 ?_;refine AWP.le (B9 [0, 0, 0] rfl) ?_;refine AWP.le (Q8 2 (t := nin B4.ow (h.set x73.2.toNat D9) Y) ((Ae1 (b := B4.ow D9 y ++ nin B4.ow (h.eraseIdx x73.2.toNat) (Y.eraseIdx x73.2.toNat)) (by subst hD9; first | rfl | (unfold B4.ow; rw [Bh8 (hg0 hgp)]; rfl)) (Cf4 hd hy)))) ?_;refine R2 ?_;refine Aa4 (Ai7 2 1 (.arr v 51 8 (H9.map B4.cs)) rfl (⟨rfl, rfl, rfl, qz52⟩) (z7 0 rfl rfl Q2)) ?_;refine R3 ?_;exact I2 [0, 0] ((x73.1, H9, v)) (qz80) rfl B7 K5
 intro h69;obtain ⟨H9, hH9⟩ : ∃ H9, H9 = h := ⟨_, rfl⟩;have hH1 : r4 H9 ∧ H9.length ≤ 10 := (by rw [hH9]; exact ⟨hinv.2.2.1.big, by omega⟩);refine R2 ?_;refine K2 AZ7 ?_;refine R2 ?_;refine Aa4 (Ai7 2 1 (.arr v 51 8 (H9.map B4.cs)) rfl (⟨rfl, rfl, rfl, qz52⟩) (z7 0 rfl rfl Q2)) ?_;refine R3 ?_;exact I2 [0, 0] ((x69.1, H9, v)) (qz80) rfl B7 K5
end Go.Proofs.YtogeipbkjamdkaaGreatDoor
namespace Go.M
open Go.AV
theorem Cq4 {h : List B4} (H : r4 h) {k : Nat} {d d' : B4} (hd : h[k]? = some d) (hw : d'.Writes = d.Writes) (hg : d'.Got = d.Got) : r4 (h.set k d') := ⟨AN8 (P := fun d : B4 => ∀ w ∈ d.Writes, w.Key ∈ AA7) H.1 (by rw [hw]; exact H.1 d (C3 hd)), AN8 (P := fun d : B4 => d.size ≤ 5000) H.2 (by have := H.2 d (C3 hd); unfold B4.size at *; rw [hw, hg]; exact this)⟩
theorem Cq5 {h : List B4} (hk : Be0 h) (h1 : (AH2 h).2.2 = true) (h2 : (AH2 h).2.1 = true) : AV0 h (AH2 h).1 = (true, true) ∧ (AJ7 h (AH2 h).1).2 = (true, true) ∧ ((AO9 h).2 = true → 1 ≤ (AO9 h).1) := by
  unfold AH2 at h1 h2 ⊢;split at h1
  · rename_i hg
    rw [D1 hg] at h2 ⊢;obtain ⟨l, e⟩ := Option.isSome_iff_exists.1 h2;obtain ⟨i1, i2, i3, ⟨x, i4⟩, i5⟩ := CD6 hg hk (I1 h).length 0 [] l (Ak7 h) Au6 e;rw [e];have ho : AD5 h l = true := Ag3.2 ⟨fun n hn => AR1 (i2 n hn).1, i1, hg⟩;refine ⟨?_, ?_, fun hc => ?_⟩
    · show AV0 h l = _
      unfold AV0; rw [D1 ho, i3]
    · show (AJ7 h l).2 = _
      rw [BQ6 ho i4]
    · unfold AO9 at hc ⊢
      split at hc
      · rename_i hc2; rw [D1 hc2]; exact i5
      · cases hc
  · cases h1
end Go.M
namespace Go.Proofs.YtogeipbkjamdkaaGreatDoor
open Go.PQ
open Go Go.AV Go.M
attribute [local irreducible] OpW OpA OpS AWP J3 K8 K0 OpE J6 H5 J9 Le Ev F8 L6 Z8 Int.tmod Int.tdiv IntKind.wrap Q7
theorem Bf0 (b : Nat) (code : List Int) (hcode : q6 code) (c : V2) (hp : c.p ≤ 800000) : M7 31 [AV.ptr b 0] [.box b 62 (U4 code c)] (fun x : V2 × List B4 × Value => x.1.p ≤ c.p + 3010 ∧ x.2.1.length ≤ 10 ∧ r4 x.2.1) (fun x => [.box b 62 (U4 code x.1), .arr x.2.2 51 8 (x.2.1.map B4.cs)]) (fun x => AV.is x.2.2) := by
 refine C5 Tryz.func31 rfl Tryz.ntmps31 rfl ?_;refine R2 ?_;refine A1 rfl (D8 rfl H3) ?_;refine R4 ?_;refine E6 [0] rfl rfl rfl rfl Tryz.call58 rfl (Bz1 _ _ hcode _ qz8) (A3 (A0 rfl) B2) rfl ?_;intro x5 ok5;refine R9 ?_;refine A2 ?_ ?_
 ·intro h8;have k8 := C6 h8;have hpos : 0 < x5.2.1.length := (by simp only [A6] at h8; simp at h8; omega);obtain ⟨d, hd⟩ := B3 hpos;refine R3 ?_;refine E6 [0] rfl rfl rfl rfl Tryz.call59 rfl (O4 _ _ hcode _ _ qz8 qz8) (A3 (A0 rfl) (A3 I7 B2)) rfl ?_;intro x10 ok10;refine R7 ?_;refine A2 ?_ ?_
  ·intro h11;refine R3 ?_;refine A1 rfl (H6 1 rfl G2 L3 (A0 rfl) rfl I7 qz8 AG2) ?_;refine A1 rfl (L0 1 rfl i8 rfl D0 (A0 rfl) rfl rfl BU2) ?_;refine A1 rfl (M6 1 rfl (A0 rfl) rfl P4 BU2 rfl) ?_;refine A1 rfl (H6 1 rfl G2 L3 (A0 rfl) rfl I7 qz8 AG2) ?_;refine A1 rfl (L0 1 rfl i8 rfl D0 (A0 rfl) rfl rfl BU2) ?_;refine X3 1 rfl rfl rfl (A0 rfl) (A0 rfl) (Z2 _ _) rfl D0 BU2 rfl ?_;refine R7 ?_;exact I2 [0, 0] ((x10.1, x5.2.1.set 0 { d with End := d.Begin }, x5.2.2)) (qz41) rfl BT9 K5
  intro h11;refine R5 ?_;refine A2 ?_ ?_
  ·intro h20;refine R2 ?_;refine A1 rfl (H6 1 rfl G2 L3 (A0 rfl) rfl I7 qz8 AG2) ?_;refine A1 rfl (L0 1 rfl i8 rfl D0 (A0 rfl) rfl rfl BU2) ?_;refine X3 1 rfl rfl rfl (A0 rfl) I7 (Z2 _ _) rfl D0 BU2 rfl ?_;refine R7 ?_;exact I2 [0, 0] ((x10.1, x5.2.1.set 0 { d with Txn := 0 }, x5.2.2)) (qz41) rfl BT9 K5
  intro h20;refine R5 ?_;refine A2 ?_ ?_
  ·intro h25;refine R2 ?_;refine A1 rfl (H6 1 rfl G2 L3 (A0 rfl) rfl I7 qz8 AG2) ?_;refine A1 rfl (L0 1 rfl i8 rfl S0 (A0 rfl) rfl rfl BU2) ?_;refine X3 1 rfl rfl rfl (A0 rfl) AV9 (AT6 _) rfl S0 BU2 rfl ?_;refine R7 ?_;exact I2 [0, 0] ((x10.1, x5.2.1.set 0 { d with Look := true }, x5.2.2)) (qz41) rfl BT9 K5
  intro h25;refine R7 ?_;exact I2 [0, 0] ((x10.1, x5.2.1, x5.2.2)) (qz41) rfl BT9 K5
 intro h8;have k8 := C2 h8;refine R7 ?_;exact I2 [0, 0] ((x5.1, x5.2.1, x5.2.2)) (qz41) rfl BT9 K5
theorem Au9 (b : Nat) (code : List Int) (hcode : q6 code) (c : V2) (hp : c.p ≤ 800000) : M7 31 [AV.ptr b 0] [.box b 62 (U4 code c)] (fun x : V2 × List B4 => x.1.p ≤ c.p + 3010 ∧ x.2.length ≤ 10 ∧ r4 x.2) (fun x => [.box b 62 (U4 code x.1)]) (fun x => AV.list 8 (x.2.map B4.cs)) :=
  AS2 (fun x => (x.1, x.2.1)) (fun x => [.arr x.2.2 51 8 (x.2.1.map B4.cs)]) (fun x => [.box b 62 (U4 code x.1)]) (Bf0 b code hcode c hp) (fun _ h => h) (fun x _ => M1 (V8.2 rfl) G6) (fun x _ => AM5 (l₁ := [_])) (fun _ _ => z7 0 rfl rfl Q2) (fun x _ => BJ1 ⟨rfl, rfl, AE9⟩ BA6)
theorem Cy9 {l : List Int} {k : Nat} : (l.map fun n => [AV.int n]).take k = (l.take k).map fun n => [AV.int n] := List.map_take.symm
theorem Bz2 (b : Nat) (code : List Int) (hcode : q6 code) (c : V2) (n : Nat) (hn : n ≤ 20) (hp : c.p ≤ 4000000) : M7 33 [AV.ptr b 0, AV.int n] [.box b 62 (U4 code c)] (fun x : V2 × List Int × Value => x.2.1.length ≤ 20) (fun x => [.box b 62 (U4 code x.1), .arr x.2.2 3 1 (x.2.1.map fun n => [AV.int n])]) (fun x => AV.is x.2.2) := by
 refine C5 Tryz.func33 rfl Tryz.ntmps33 rfl ?_;refine R2 ?_;refine A1 rfl (D8 rfl H3) ?_;refine R3 ?_;refine T6 3 1 rfl rfl rfl rfl H3 ?_;intro v5;refine R7 ?_;refine AWP.le (B9 [1, 0] rfl) ?_;refine AN1 [(0, _), (1, _), (4, _)] _ (fun (k : Nat) (cc : V2) (l : List Int) (v : Value) => k ≤ n ∧ l.length = k ∧ cc.p ≤ c.p + 4 * k) (fun k cc l v => [.box b 62 (U4 code cc), .arr v 3 1 (l.map fun n => [AV.int n])]) (fun k cc l v => [(5, AV.is v), (6, AV.int k)]) (fun k cc l v => n - k) (0) (c) ([]) (v5) ?_ (I6 B7 A5) ?_
 ·exact ⟨D6 _, rfl, by omega⟩
 intro k cc l v hinv;refine R7 ?_;refine A2 ?_ ?_
 ·intro h11;have k11 := C6 h11;refine R9 ?_;refine E6 [0] rfl rfl rfl rfl Tryz.call59 rfl (O4 _ _ hcode _ _ BL5 qz8) (A3 (A0 rfl) (A3 (A0 rfl) B2)) rfl ?_;intro x18 ok18;rw [A6] at ok18;refine R6 ?_;refine A1 rfl (CL8 1 rfl C9 D0 (A0 rfl) rfl (A0 rfl) qz3 qz3) ?_;refine At8 [] rfl rfl rfl rfl Tryz.call45 rfl (AN3 (l.drop x18.2.toNat) (by rw [w4]; omega)) rfl (Z0 (Bn1 (A0 rfl) (CP7 (C3 (i := 1) rfl) qz8 qz8)) AI5) qz0 qz0 qz0 ?_;intro x22 ok22;refine R3 ?_;refine Aa4 (z8 [0] 8 rfl rfl (M1 (C3 (i := 0) rfl) G6) (z7 0 rfl rfl Q2)) ?_;refine R2 ?_;refine CP1 1 rfl rfl rfl rfl C9 D0 (A0 rfl) rfl (A0 rfl) qz3 qz3 ?_;intro v25_1;refine sq_own (by first | (simp only [Cy9, pick, Bb5, BM1, Aw6, Ar6, Ah2, AF5, BM2, BD0, S1]; exact rfl) | exact rfl) ?_;refine At8 [] rfl rfl rfl rfl Tryz.call45 rfl (AN3 (l.take x18.2.toNat) Ba9) rfl (Z0 (Ay9 1 (A0 rfl) rfl) AI5) qz0 qz0 qz0 ?_;intro x26 ok26;refine R2 ?_;refine H0 (by' := 8) 0 rfl rfl rfl rfl C9 Tryz.type3 rfl rfl rfl rfl rfl rfl (A0 rfl) (A0 rfl) rfl qz3 ?_;intro v29_2;refine R1 ?_;refine H0 (by' := 8) 0 rfl rfl rfl rfl C9 Tryz.type3 rfl rfl rfl rfl rfl rfl (A0 rfl) (A0 rfl) rfl (by simp only [G3, A6, I5, w4, S2]; omega) ?_;intro v31_3;refine R7 ?_;refine u4 k cc l v (k + 1) (x18.1) ((l.take x18.2.toNat ++ [(k : Int)]) ++ l.drop x18.2.toNat) (v31_3) ?_ ?_ (Le.trans (B9 [2, 1, 0] rfl) (E8 1 (by (rw [V1, V1, List.map_take, List.map_drop]; rfl)) A5))
  ·exact ⟨by omega, by rw [G3, G3, I5, w4]; simp; omega, by omega⟩
  omega
 intro h11;have k11 := C2 h11;refine R9 ?_;refine Ai6 rfl rfl (P8 rfl rfl rfl) ?_ ?_
 ·intro gh37;refine E6 [0] rfl rfl rfl rfl Tryz.call32 rfl (AW7 _ _ hcode _ _ D5 qz8) (A3 (A8 rfl gh37) (A3 I7 B2)) rfl ?_;intro x37 ok37;refine R2 ?_;refine A2 ?_ ?_
  ·intro h38;have hl0 : 0 < l.length := (by simp only [A6] at h38; simp at h38; omega);obtain ⟨x0, hx0⟩ := B3 hl0;refine R3 ?_;refine A1 rfl (H6 1 rfl C9 D0 (A0 rfl) rfl I7 qz8 AG1) ?_;refine m4 1 rfl rfl rfl (A0 rfl) (A0 rfl) (Z2 _ _) rfl D0 rfl qz3 ?_;refine R7 ?_;exact I2 [0, 0] ((x37.1, l.set 0 (n : Int), v)) (qz108) rfl BT9 K5
  intro h38;refine R7 ?_;exact I2 [0, 0] ((x37.1, l, v)) (qz108) rfl BT9 K5
 intro gh37;refine A1 rfl (Bm4 rfl (A0 rfl) (BJ0 (x := AV.bool false) gh37)) ?_;refine R1 ?_;refine A2 ?_ ?_
 ·intro h38
  (exfalso; have h9 := gh37; simp at h9 h38 <;> omega)
 intro h38;refine R7 ?_;exact I2 [0, 0] ((cc, l, v)) (qz108) rfl BT9 K5
theorem BF4 (b : Nat) (code : List Int) (hcode : q6 code) (c : V2) (n : Nat) (hn : n ≤ 20) (hp : c.p ≤ 4000000) : M7 33 [AV.ptr b 0, AV.int n] [.box b 62 (U4 code c)] (fun x : V2 × List Int => x.2.length ≤ 20) (fun x => [.box b 62 (U4 code x.1)]) (fun x => ints x.2) :=
  AS2 (fun x => (x.1, x.2.1)) (fun x => [.arr x.2.2 3 1 (x.2.1.map fun n => [AV.int n])]) (fun x => [.box b 62 (U4 code x.1)]) (Bz2 b code hcode c n hn hp) (fun _ h => h) (fun x _ => M1 (V8.2 rfl) G6) (fun x _ => AM5 (l₁ := [_])) (fun _ _ => z7 0 rfl rfl Q2) (fun x _ => BJ1 ⟨rfl, rfl, AE9⟩ BA6)
theorem Bf1 (code : List Int) (hcode : q6 code) : M7 14 [Ag9 code] [] (fun x : List B4 × List Int => (x.1.length ≤ 10 ∧ r4 x.1) ∧ x.2.length ≤ 20) (fun _ => []) (fun x => AV.tup [AV.list 8 (x.1.map B4.cs), ints x.2]) := by
 refine C5 Tryz.func14 rfl Tryz.ntmps14 rfl ?_;refine R2 ?_;refine A1 rfl (D8 rfl H3) ?_;refine A1 rfl (D8 rfl H3) ?_;refine R6 ?_;intro b11;refine R5 ?_;refine E6 [0] rfl rfl rfl rfl Tryz.call31 rfl (Au9 _ _ hcode ⟨0, 0⟩ D5) (A3 (A0 rfl) B2) rfl ?_;intro x13 ok13;have hp13 : x13.1.p ≤ 3010 := ok13.1;refine R6 ?_;refine E6 [] rfl rfl rfl rfl Tryz.call7 rfl (CK1 x13.2 ok13.2.1 ok13.2.2) L2 rfl ?_;intro x16 ok16;refine R16 ?_;refine Ai6 rfl rfl (P8 rfl rfl rfl) ?_ ?_
 ·intro gh26;refine E6 [0] rfl rfl rfl rfl Tryz.call32 rfl (AW7 _ _ hcode _ _ D5 qz8) (A3 (A8 rfl gh26) (A3 I7 B2)) rfl ?_;intro x26 ok26;refine R2 ?_;refine A2 ?_ ?_
  ·intro h27;refine R8 ?_;exact I2 [] ((x13.2, x16.1)) (qz86) rfl B7 AJ2
  intro h27;refine R7 ?_;refine E6 [0] rfl rfl rfl rfl Tryz.call33 rfl (BF4 _ _ hcode _ (x13.2.map B4.cs).length BL5 (by have h9 : True := trivial; first | omega | (have h8 := ok26; omega))) (A3 (A0 rfl) (A3 (A0 rfl) B2)) rfl ?_;intro x34 ok34;refine R4 ?_;exact I2 [] ((x13.2, x34.2)) (qz86) rfl B7 AJ2
 intro gh26;refine A1 rfl (Bm4 rfl (A0 rfl) (BJ0 (x := AV.bool false) gh26)) ?_;refine R1 ?_;refine A2 ?_ ?_
 ·intro h27;refine R8 ?_;exact I2 [] ((x13.2, x16.1)) (qz86) rfl B7 AJ2
 intro h27;refine R7 ?_;refine E6 [0] rfl rfl rfl rfl Tryz.call33 rfl (BF4 _ _ hcode _ (x13.2.map B4.cs).length BL5 (by have h9 : True := trivial; first | omega | (have h8 := ok26; omega))) (A3 (A0 rfl) (A3 (A0 rfl) B2)) rfl ?_;intro x34 ok34;refine R4 ?_;exact I2 [] ((x13.2, x34.2)) (qz86) rfl B7 AJ2
end Go.Proofs.YtogeipbkjamdkaaGreatDoor
namespace Go.Proofs.YtogeipbkjamdkaaGreatDoor
open Go.PQ
open Go Go.AV Go.M
open Go.ChangeShapes Go.WideShapes Go.ChangeAt Go.RowKit
section
attribute [local irreducible] OpW OpA OpS AWP J3 K8 K0 OpE J6 H5 J9 Le Ev F8 L6 Int.tdiv IntKind.wrap
theorem quo19O {x : Int} (h0 : 0 ≤ x) (h1 : x < 20 ∨ x = 0) : 0 ≤ IntKind.i64.wrap (x.tdiv 19) ∧ IntKind.i64.wrap (x.tdiv 19) ≤ 1 := by
  have e : x.tdiv 19 = x / 19 := Int.tdiv_eq_ediv_of_nonneg h0;have h : 0 ≤ x.tdiv 19 ∧ x.tdiv 19 ≤ 1 := by rw [e]; omega
  rw [Am1 ⟨by omega, by omega⟩]; exact h
theorem Ap1 (code : List Int) (hcode : q6 code) : M7 18 [Ag9 code] [] (fun x : List B4 => x.length ≤ 10 ∧ r4 x) (fun _ => []) (fun x => AV.list 8 (x.map B4.cs)) := by
  refine C5 Tryz.func18 rfl Tryz.ntmps18 rfl ?_;refine R2 ?_;refine A1 rfl (D8 rfl H3) ?_;refine R6 ?_;intro b6;refine R5 ?_;refine E6 [0] rfl rfl rfl rfl Tryz.call31 rfl (Au9 _ _ hcode ⟨0, 0⟩ D5) (A3 (A0 rfl) B2) rfl ?_;intro x8 ok8;refine R3 ?_;exact I2 [] (x8.2) (ok8.2) rfl B7 K5
theorem Bf2 (code : List Int) (hcode : q6 code) : M7 5 [Ag9 code] [] (fun x : List B4 => x.length ≤ 10 ∧ r4 x) (fun _ => []) (fun x => AV.list 8 (x.map B4.cs)) := by
  refine C5 Tryz.func5 rfl Tryz.ntmps5 rfl ?_;refine R2 ?_;refine A1 rfl (D8 rfl H3) ?_;refine R4 ?_;refine E6 [] rfl rfl rfl rfl Tryz.call18 rfl (Ap1 code hcode) L2 rfl ?_;intro x4 ok4;refine R3 ?_;exact I2 [] (x4) (ok4) rfl B7 K5
theorem BT7 (code : List Int) (hcode : q6 code) : M7 12 [Ag9 code] [] (fun x : List B4 => x.length ≤ 10 ∧ r4 x) (fun _ => []) (fun x => AV.list 8 (x.map B4.cs)) := by
  refine C5 Tryz.func12 rfl Tryz.ntmps12 rfl ?_;refine R2 ?_;refine A1 rfl (D8 rfl H3) ?_;refine R4 ?_;refine E6 [] rfl rfl rfl rfl Tryz.call18 rfl (Ap1 code hcode) L2 rfl ?_;intro x4 ok4;refine R3 ?_;exact I2 [] (x4) (ok4) rfl B7 K5
theorem CK7 (code : List Int) (hc : ∀ x ∈ code, (Lit.int .u8 x).wf = true) (more : List Int) (hm : ∀ x ∈ more, (Lit.int .u8 x).wf = true) : F6 3 [AV.wt BI1 (Ag9 code), Ag9 more] (AV.bool true) := by
 refine B8 Tryz.func3 rfl Tryz.ntmps3 rfl ?_;refine AWP.le (le_tab (t := 0) rfl) ?_;refine R9 ?_;refine A1 rfl (A9 rfl Tryz.call4 rfl (big_spec code more) E4) ?_;refine R1 ?_;refine A2 ?_ ?_
 ·intro h38;refine R5 ?_;exact E5 rfl (A7 rfl (by first | rfl | exact D7 AV.bool Y2))
 intro h38;have hb0 : q6 code := CT1 hc;have hb1 : q6 more := CT1 hm;refine R4 ?_;refine E6 [] rfl rfl rfl rfl Tryz.call5 rfl (Bf2 code hb0) L2 rfl ?_;intro x40 ok40;obtain ⟨h, hx40⟩ : ∃ z, z = x40 := ⟨_, rfl⟩;subst hx40;obtain ⟨hhl, hdr⟩ := ok40;have hds : ∀ d ∈ h, d.size ≤ 1048576 := fun d hd => L4 (hdr.2 d hd) D5;refine R5 ?_;refine A1 rfl (Cf5 0 rfl rfl Tryz.call6 rfl (By7 h hhl hdr.1 hdr.2) L2 (by first | exact fun _ h => h | exact fun _ h => h.1)) ?_;refine R11 ?_;refine A1 rfl (A9 rfl Tryz.call7 rfl (Bs4 h hhl hdr) L2) ?_;refine R13 ?_;refine A1 rfl (CO1 rfl T9 (A0 rfl) (A0 rfl)) ?_;refine R3 ?_;refine W9 rfl (fun hc => CO1 rfl T9 (A8 rfl hc) (A8 rfl hc)) ?_;refine R4 ?_;refine W9 rfl (fun hc => A9 rfl Tryz.call8 rfl (CJ6 (AH2 h).1 (AH2 h).1) (A3 (A8 rfl hc) (A3 (A8 rfl hc) B2))) ?_;refine R3 ?_;refine A2 ?_ ?_
 ·intro h66;exfalso; simp at h66
 intro h66;refine R9 ?_;refine awp_join [(1, _)] A5 ?_ ?_
 ·skip
  refine A2 ?_ ?_
  ·intro h70;have h70b : (AH2 h).2.2 = true ∧ (AH2 h).2.1 = true := (by rw [F0] at h70; exact h70);obtain ⟨hf1, hf2, hf3⟩ := Cq5 hdr.1 h70b.1 h70b.2;have hf4 := D7 Prod.fst hf1;have hf5 := D7 Prod.snd hf1;have hf6 := D7 Prod.fst hf2;have hf7 := D7 Prod.snd hf2;dsimp only at hf4 hf5 hf6 hf7;refine R4 ?_;refine A1 rfl (A9 rfl Tryz.call9 rfl (BF3 h (AH2 h).1 hds qz8) E4) ?_;refine R10 ?_;refine A1 rfl (A9 rfl Tryz.call10 rfl (BK5 h (AH2 h).1 hds qz8) E4) ?_;refine R26 ?_;refine A2 ?_ ?_
   ·intro h97;exfalso; rw [hf4, hf5, hf6, hf7] at h97; cases h97
   intro h97;refine R4 ?_;refine A1 rfl (A9 rfl Tryz.call11 rfl (BB9 h hhl hdr.2) L2) ?_;refine R14 ?_;refine A2 ?_ ?_
   ·intro h107;exfalso; rw [F0, I4] at h107; have h9 := hf3 h107.1; have h8 := h107.2; omega
   intro h107;refine R1 ?_;exact Le.trans (B9 [0] rfl) (E8 0 B7 A5)
  intro h70;refine R1 ?_;exact Le.trans (B9 [0] rfl) (E8 0 B7 A5)
 refine R3 ?_;refine E6 [] rfl rfl rfl rfl Tryz.call12 rfl (BT7 more hb1) L2 rfl ?_;intro x109 ok109;obtain ⟨g, hx109⟩ : ∃ z, z = x109 := ⟨_, rfl⟩;subst hx109;obtain ⟨hgl, hgr⟩ := ok109;refine R5 ?_;refine A1 rfl (A9 rfl Tryz.call11 rfl (BB9 g hgl hgr.2) L2) ?_;refine R9 ?_;refine A1 rfl (A9 rfl Tryz.call13 rfl (Be9 g hgl hgr.2) L2) ?_;refine R9 ?_;refine E6 [] rfl rfl rfl rfl Tryz.call14 rfl (Bf1 more hb1) L2 rfl ?_;intro x122 ok122;obtain ⟨⟨a, o⟩, hx122⟩ : ∃ z, x122 = z := ⟨_, rfl⟩;subst hx122;obtain ⟨⟨hal, har⟩, hol⟩ := ok122;dsimp only at hal har hol ⊢;have has : ∀ d ∈ a, d.size ≤ 1048576 := fun d hd => L4 (har.2 d hd) D5;refine R10 ?_;refine A1 rfl (A9 rfl Tryz.call10 rfl (BK5 a o has qz8) E4) ?_;refine R12 ?_;refine A1 rfl (A9 rfl Tryz.call15 rfl (Bs5 a o hal har) E4) ?_;refine R12 ?_;refine A1 rfl (A9 rfl Tryz.call9 rfl (BF3 a o has qz8) E4) ?_;refine R10 ?_;refine A1 rfl (A9 rfl Tryz.call16 rfl (Bl6 a o has qz8) E4) ?_;refine R10 ?_;refine A1 rfl (Az8 rfl T9 (A0 rfl) (A0 rfl)) ?_;refine R8 ?_;refine N4 rfl (fun hc => Az8 rfl T9 (A8 rfl hc) (A8 rfl hc)) ?_;refine R4 ?_;refine N4 rfl (fun hc => Az8 rfl T9 (A8 rfl hc) (A8 rfl hc)) ?_;refine R4 ?_;refine N4 rfl (fun hc => A9 rfl Tryz.call17 rfl (Bl1 (AJ7 a o).1 (AJ7 a o).1) (A3 (A8 rfl hc) (A3 (A8 rfl hc) B2))) ?_;refine R4 ?_;refine N4 rfl (fun hc => Az8 rfl T9 (A8 rfl hc) (A8 rfl hc)) ?_;refine R4 ?_;refine N4 rfl (fun hc => Az8 rfl T9 (A8 rfl hc) (A8 rfl hc)) ?_;refine R4 ?_;exact E5 rfl (A7 rfl (by first | rfl | exact D7 AV.bool Y2))
end
theorem Bh9 : Bt3 Tryz.prog 22 (List Int) (fun l => [Ag9 l]) (fun l => ∀ x ∈ l, (Lit.int .u8 x).wf = true) := CZ2 (sz := 1) AB8 E3 (Cr0 AL3) (fun _ => rfl)
set_option maxRecDepth 100000 in
theorem fnOrders_lifted (os : Os) (started : os.Started) (H : Type) (enc : TypeId × Value → H) :
    ReturnsInHanded {} Tryz.checked os 3 .any (fun w args => (Rows.fnOrdersSpec.pre enc Tryz.prog Tryz.f3 [] false w args ∧ laidMetH Tryz.prog Rows.fnOrdersRow.laid w) ∧ sizedMet enc Tryz.prog Tryz.f3 (OpenSpec.ofChange Rows.fnOrdersSpec) false w args) (Rows.fnOrdersSpec.post enc Tryz.prog Tryz.f3 false true false false) := by
  refine Go.AV.CH6 (C := Tryz.checked) (X := fun w _ => laidMetH Tryz.prog Rows.fnOrdersRow.laid w) (fun _ _ _ hh h => h.of_heap hh) E3 started E3 Tryz.func3
    (ChangeSpec.witness_shaped (enc := enc) (C := Tryz.checked) (os := os) (X := fun w _ => laidMetH Tryz.prog Rows.fnOrdersRow.laid w) false (World.laidAll Tryz.prog os Rows.fnOrdersRow.laid) #[.slice none 0 0, .slice none 0 0] 8 (World.laidAll_os _ _ _)
      (World.shaped_of_ZipB E3 E3) E3 E3 E3
      (by rw [MakeChecks.laidMetH_plain _ _ _ E3]; exact laidMet_laidAll _ E3 E3)) ?_
  intro W base args ds gs before hval0 hW hsh _ hL _;rw [MakeChecks.laidMetH_plain _ _ _ E3] at hL;have hT : BI1 W := Cw7 (laidMet.tail (laidMet.tail hL));have hval : ∀ (j : Nat) t v, Tryz.f3.params[j]? = some t → args[j]? = some v → Value.okWide Tryz.prog W .any base t v := hval0;have hW2 := hW;obtain ⟨p, q, hA0, hV, rfl, hfz, hnd⟩ := hW;have hA : DataW.TrodAll enc Tryz.prog W 0 (fun _ => true) true Tryz.f3.params.toList args.toList ds p := hA0;rw [Tryz.params3] at hA hval;obtain ⟨v0, vs0, d0, ds0, p0, q0, hargs, rfl, rfl, h0, r0⟩ := trodAll_cons hA;obtain ⟨v1, vs1, d1, ds1, p1, q1, rfl, rfl, rfl, h1, r1⟩ := trodAll_cons r0;obtain ⟨rfl, rfl, rfl⟩ := trodAll_nil r1;obtain rfl : args = #[v0, v1] := by cases args; simp_all
  obtain ⟨rfl, rfl⟩ := trodVars_none hV;have lt0 : ∀ x ∈ p0, x.block < W.heap.size := by obtain ⟨m, hm⟩ := h0; exact DataW.trod_lt m _ _ _ hm
  obtain ⟨a0, w0, g0⟩ := Ce8 (Bh9) (by obtain ⟨y1, y2, y3, rfl⟩ := okWide_slice AB8 (hval 0 22 v0 rfl rfl); rfl) h0;have lt1 : ∀ x ∈ p1, x.block < W.heap.size := by obtain ⟨m, hm⟩ := h1; exact DataW.trod_lt m _ _ _ hm
  obtain ⟨a1, w1, g1⟩ := Ce8 (Bh9) (by obtain ⟨y1, y2, y3, rfl⟩ := okWide_slice AB8 (hval 1 22 v1 rfl rfl); rfl) h1;have hcall := Cr1 (CK7 a0 w0 a1 w1) (o6.cons ⟨g0, fun w2 hw2 => Cw6 hT hw2⟩ (o6.cons g1 (o6.nil _)));clear hA0 hval0;refine Calls.mono hcall fun e W2 ⟨he, bel⟩ => ?_;subst he;exact ⟨_, rfl, _, _, _, [], _, [], hW2, trodAll_mk1 (shut_bool T9 _), (trodAll_cons_mk (Below.trod (by kernel_rfl : laidOutB Tryz.prog = true) E3 (AA2 E3) h0 bel lt0) (trodAll_cons_mk (Below.trod (by kernel_rfl : laidOutB Tryz.prog = true) E3 (AA2 E3) h1 bel lt1) trodAll_mk0)), rfl, bel.frame _, fun h => by cases h⟩
theorem CY1 {a b : Bool} (h : a = true) (k : b = true) : (a && b) = true := by rw [h, k]; rfl
set_option maxRecDepth 100000 in
theorem Bz3 : joinedFacts Tryz.pinned.checked.prog 3 Tryz.f3 Rows.fnOrdersSpec Rows.fnOrdersRow = true := by
  unfold joinedFacts
  iterate 18 (rw [Bool.and_assoc])
  refine CY1 ?_ ?_
  · as_aux_lemma => kernel_rfl
  · as_aux_lemma => kernel_rfl
theorem CY2 : Rows.FnOrdersSaid :=
  OpenClaim.holds_of_wide 3 Tryz.f3 rfl rfl rfl rfl rfl rfl rfl ⟨rfl, rfl, rfl, rfl, rfl⟩ rfl rfl rfl rfl rfl E3 Tryz.func3 Bz3
    (AA2 E3) (by unfold Func.isWrapper; first | (rw [D1 (by decide +kernel)]; kernel_rfl) | (rw [D4 (by decide +kernel)]; exact ⟨rfl, rfl⟩))
    (fun os started H enc _ => fnOrders_lifted os started H enc)
theorem fnOrders_proved : Rows.FnOrdersCardSaid :=
  Claim7.holds_tied_plain_at .later [] [.data, .data, .data] true (true, "77e161ff594c7b4735f3e8d80f0a62474549f2cd752dadc0658c25615dca7356") false
    CY2 (fun _ h => by cases h) E3 (fun _ h => by cases h) fnOrders_row_tie rfl ⟨rfl, rfl⟩ E3 rfl
    (fun f fn hf hfn => by
      obtain rfl : f = 3 := Option.some.inj ((show Tryz.prog.funcNamed "loop.example/g00850/laws.FnOrders" = some 3 by kernel_rfl).symm.trans hf) |>.symm
      obtain rfl : fn = Tryz.f3 := (Option.some.inj (Tryz.func3.symm.trans hfn)).symm;exact ⟨by kernel_rfl, fun j t ht => by
        rw [Tryz.params3] at ht;have hm : t ∈ [22, 22] := by simpa using Array.mem_of_getElem? ht
        have hall : ([22, 22].all fun u => !Tryz.prog.wantsStandIn u) = true := by kernel_rfl
        exact (show Tryz.prog.wantsStandIn t = false by simpa using l8.1 hall t hm)⟩)
    E3
end Go.Proofs.YtogeipbkjamdkaaGreatDoor
