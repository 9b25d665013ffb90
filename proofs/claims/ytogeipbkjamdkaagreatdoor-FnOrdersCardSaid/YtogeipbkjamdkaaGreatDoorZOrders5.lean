/- Texts of the claim, part 5. -/
import Derived.Shelf.Strconv.Itoa3
import Derived.Test.YtogeipbkjamdkaaGreatDoorProg
import Derived.Test.YtogeipbkjamdkaaGreatDoorZOrders4
set_option linter.defProp false
set_option linter.unusedVariables false
set_option linter.unusedSimpArgs false
set_option maxRecDepth 100000
set_option maxHeartbeats 4000000
namespace Go.M
open Go.AV
theorem CE6 (s : Str) : ∀ l : List Str, D2 (fun x : Str => x.length) (AA6 l s) ≤ D2 (fun x : Str => x.length) l + s.length + 1
  | [] => by unfold AA6 D2; simp; omega
  | y :: l => by
    have ih := CE6 s l;have hc : ∀ (z : Str) (q : List Str), D2 (fun x : Str => x.length) (z :: q) = D2 (fun x : Str => x.length) q + z.length + 1 := fun z q => by unfold D2; simp; omega
    unfold AA6;split
    · rw [hc s]; omega
    · split
      · omega
      · rw [hc, hc]; omega
theorem BY5 {α : Type} {f : α → Nat} {c : Nat} : ∀ {l : List α}, (∀ x ∈ l, f x ≤ c) → D2 f l ≤ l.length * (c + 1)
  | [], _ => D6 _
  | x :: l, h => by
    have h1 := BY5 (l := l) fun y hy => h y (S7 _ hy);have h2 := h x W6;unfold D2 at h1 ⊢;simp only [H1, T3, List.sum_cons];have : (l.length + 1) * (c + 1) = l.length * (c + 1) + (c + 1) := Nat.succ_mul _ _;omega
theorem gr_size {r : F3} {t : Int} (h : GR r t) : r.size ≤ 60 * 401 := by
  unfold F3.size;refine L4 (BY5 (c := 400) fun e he => ?_) (AE3 _ h.len);exact Ah6 (h.ents e he).2.2
theorem BK1 {g : C8} (h : GG g) : g.size ≤ 5 * 24061 := by
  unfold C8.size;refine L4 (BY5 (c := 24060) fun r hr => gr_size (h.reps r hr)) (AE3 _ ?_);rcases h.many with k | k <;> omega
theorem Cc1 {a b : List K1} {i : Nat} {x y : K1} (h : a.take i = b.take i) (hx : a[i]? = some x) (hy : b[i]? = some y) (he : x = y) : a.take (i + 1) = b.take (i + 1) := by
  rw [V7, V7, h, hx, hy, he]
theorem Cv5 {a b : List K1} {i n : Nat} {x y : K1} (hi : i < n) (hx : a[i]? = some x) (hy : b[i]? = some y) (he : x ≠ y) : AR5 a b n = false := by
  unfold AR5;refine AM4 fun h => he ?_;have h1 := D7 (fun l => l[i]?) h.2.2;rw [AI0 hi, AI0 hi, hx, hy] at h1;injection h1
theorem entry_eq {x y : K1} : (x.Term != y.Term || !decide (x.Rec = y.Rec)) = !decide (x = y) := by
  cases x; cases y
  rw [AP2];simp only [AD7, Bd4, ne_eq, l7, AP0, K1.mk.injEq, not_and];exact ⟨fun h e1 e2 => h.elim (fun k => k e1) (fun k => k e2), fun h => Classical.byCases (fun e1 => .inr (h e1)) .inl⟩
theorem Aa5 {α : Type} {p : α → Bool} {l : List α} {i : Nat} {x : α} (h : l[i]? = some x) : ((l.take (i + 1)).filter p).length = ((l.take i).filter p).length + (if p x = true then 1 else 0) := by
  rw [V7, h, List.filter_append, G3];congr 1
  show ([x].filter p).length = _
  by_cases hp : p x = true
  · rw [List.filter_cons_of_pos hp, D1 hp]; rfl
  · rw [List.filter_cons_of_neg hp, D4 hp]; rfl
theorem Cv6 {l : List K1} {e : K1} (h : l[l.length - 1]? = some e) : AS7 l = e.Term := by
  unfold AS7;rw [List.getLast?_eq_getElem?, h]
theorem Cn5 {l : List K1} (h : l.length = 0) : AS7 l = 0 := by
  rw [As7 h]; rfl
theorem Bq3 {t : Int} {l : List K1} {i : Nat} {p : Int} {e : K1} (hx : l[i]? = some e) : At1 t p (l.drop i) = ((within e.Term p t && U7 e.Rec) && At1 t e.Term (l.drop (i + 1))) := by
  rw [J2 hx]; rfl
end Go.M
namespace Go.PQ
open Go.Proofs
open Go Go.AV Go.M
attribute [local irreducible] OpW OpA OpS AWP J3 K8 K0 OpE J6 H5 J9 Le Ev F8 L6 Int.tmod Int.tdiv IntKind.wrap Q7
theorem AC3 (a b : Int) : F6 153 [AV.int a, AV.int b] (AV.int (if b < a then a else b)) := by
 refine B8 Tryz.func153 rfl Tryz.ntmps153 rfl ?_;refine R11 ?_;refine A2 ?_ ?_
 ·intro h7;rw [D1 (AA2 h7)];refine R6 ?_;exact E5 rfl (A7 rfl B7)
 intro h7;rw [D4 (Ay0 h7)];refine R7 ?_;exact E5 rfl (A7 rfl B7)
end Go.PQ
namespace Go.PQ
open Go.Proofs
open Go Go.AV Go.M
attribute [local irreducible] OpW OpA OpS AWP J3 K8 K0 OpE J6 H5 J9 Le Ev F8 L6 Z8 Int.tmod Int.tdiv IntKind.wrap Q7
theorem Cc2 (a b : O0) (hs : a.size ≤ 1048576) : F6 229 [AV.agg a.cs, AV.agg b.cs] (AV.bool (decide (a = b))) := by
 have hl1 := P7 (f := fun s : Str => s.length) (l := a.Reads);have hl2 := P7 (f := A4.size) (l := a.Writes);have hs9 : D2 (fun s : Str => s.length) a.Reads + D2 A4.size a.Writes ≤ 1048576 := hs;refine B8 Tryz.func229 rfl Tryz.ntmps229 rfl ?_;refine R3 ?_;intro b2;refine R1 ?_;intro b3;refine R36 ?_;refine W9 rfl (fun hc => CO1 rfl T9 (A8 rfl hc) (A8 rfl hc)) ?_;refine R20 ?_;refine A2 ?_ ?_
 ·intro h57;have hne : a ≠ b := fun e => (by subst e; simp at h57);rw [AM4 hne];refine R5 ?_;exact E5 rfl (A7 rfl B7)
 intro h57;have hh := h57;simp only [AL2, bne_eq_false_iff_eq, A6] at hh;refine R7 ?_;refine E9 [(2, _), (3, _)] _ (fun (i : Nat) => i ≤ a.Reads.length ∧ a.Reads.take i = b.Reads.take i) (fun i => []) (fun i => [(5, AV.int i)]) (fun i => a.Reads.length - i) (0) ?_ (F5 A5) ?_
 ·exact ⟨D6 _, rfl⟩
 intro i hinv;refine R9 ?_;refine A2 ?_ ?_
 ·intro h62;have k62 := C6 h62;have hlt : i < a.Reads.length := (by simpa using h62);obtain ⟨x, hx⟩ := B3 hlt;obtain ⟨y, hy⟩ := B3 (show i < b.Reads.length by omega);refine R8 ?_;refine C1 rfl rfl (C7 rfl G9 M4 (A0 rfl) (A0 rfl) hx qz3) ?_;refine R4 ?_;refine C1 rfl rfl (C7 rfl G9 M4 (A0 rfl) (A0 rfl) hy qz3) ?_;refine R3 ?_;refine A2 ?_ ?_
  ·intro h75;have hne : a ≠ b := fun e => (by subst e; rw [hx] at hy; injection hy with hy; simp [hy] at h75);rw [AM4 hne];refine R5 ?_;exact E5 rfl (A7 rfl B7)
  intro h75;refine R6 ?_;refine F7 i (i + 1) ?_ ?_ (F5 A5)
  ·exact ⟨by omega, by rw [V7, V7, hinv.2, hx, hy]; congr 2; simpa using h75⟩
  omega
 intro h62;have k62 := C2 h62;have hge : a.Reads.length ≤ i := (by simpa using h62);have hreads : a.Reads = b.Reads := (by have h9 := hinv.2; rw [U1 qz8, U1 qz8] at h9; exact h9);refine R7 ?_;refine E9 [(2, _), (3, _)] _ (fun (j : Nat) => j ≤ a.Writes.length ∧ a.Writes.take j = b.Writes.take j) (fun j => []) (fun j => [(6, AV.int j)]) (fun j => a.Writes.length - j) (0) ?_ (F5 A5) ?_
 ·exact ⟨D6 _, rfl⟩
 intro j hinv;refine R9 ?_;refine A2 ?_ ?_
 ·intro h80;have k80 := C6 h80;have hlt1 : j < a.Writes.length := (by simpa using h80);obtain ⟨u, hu⟩ := B3 hlt1;obtain ⟨v, hv⟩ := B3 (show j < b.Writes.length by omega);refine R8 ?_;refine C1 rfl rfl (C7 rfl C0 F2 (A0 rfl) (A0 rfl) hu qz3) ?_;refine R4 ?_;refine C1 rfl rfl (C7 rfl C0 F2 (A0 rfl) (A0 rfl) hv qz3) ?_;refine R1 ?_;refine C1 rfl rfl (BU9 rfl Tryz.underlying69 E3 E3 (A0 rfl) (A0 rfl) (AE7 E3 AA4 rfl rfl (Ak1 M2) (AE7 E3 AA4 rfl rfl (Ak1 M2) (AE7 E3 AA3 rfl rfl (BA2 T9) BI7)))) ?_;refine R1 ?_;refine A2 ?_ ?_
  ·intro h93;have hne : a ≠ b := fun e => (by subst e; rw [hu] at hv; injection hv with hv; rw [CD9] at h93; simp [hv] at h93);rw [AM4 hne];refine R5 ?_;exact E5 rfl (A7 rfl B7)
  intro h93;refine R6 ?_;refine F7 j (j + 1) ?_ ?_ (F5 A5)
  ·exact ⟨by omega, by rw [V7, V7, hinv.2, hu, hv]; congr 2; rw [CD9] at h93; simpa using h93⟩
  omega
 intro h80;have k80 := C2 h80;have hge1 : a.Writes.length ≤ j := (by simpa using h80);have hwrites : a.Writes = b.Writes := (by have h9 := hinv.2; rw [U1 qz8, U1 qz8] at h9; exact h9);have hyes : a = b := (by cases a; cases b; simp_all);rw [AB1 hyes];refine R6 ?_;exact E5 rfl (A7 rfl B7)
theorem Bx7 (a b : List K1) (n : Nat) (hs : ∀ e ∈ a, e.size ≤ 1048576) (hn : n ≤ 1048576) : F6 215 [AV.list 8 (a.map K1.cs), AV.list 8 (b.map K1.cs), AV.int (n : Int)] (AV.bool (AR5 a b n)) := by
 refine B8 Tryz.func215 rfl Tryz.ntmps215 rfl ?_;refine R18 ?_;refine A2 ?_ ?_
 ·intro h17;have he : AR5 a b n = false := (by unfold AR5; refine AM4 fun hc => ?_; simp only [A6, AD7, I4] at h17; omega);rw [he];refine R5 ?_;exact E5 rfl (A7 rfl B7)
 intro h17;have hh := h17;simp only [A6, AL2, AP0] at hh;refine R7 ?_;refine E9 [(0, _), (1, _), (2, _)] _ (fun (i : Nat) => i ≤ n ∧ a.take i = b.take i) (fun i => []) (fun i => [(7, AV.int i)]) (fun i => n - i) (0) ?_ (F5 A5) ?_
 ·exact ⟨D6 _, rfl⟩
 intro i hinv;refine R7 ?_;refine A2 ?_ ?_
 ·intro h20;have k20 := C6 h20;have hlt : i < n := by omega
  obtain ⟨x, hx⟩ := B3 (show i < a.length by omega);obtain ⟨y, hy⟩ := B3 (show i < b.length by omega);have hxs : x.Rec.size ≤ 1048576 := hs x (C3 hx);refine R7 ?_;refine C1 rfl rfl (C7 rfl Q0 Y0 (A0 rfl) (A0 rfl) hx qz3) ?_;refine R4 ?_;refine C1 rfl rfl (C7 rfl Q0 Y0 (A0 rfl) (A0 rfl) hy qz3) ?_;refine R6 ?_;refine O6 rfl (j5 rfl rfl rfl) (fun hc => C7 rfl Q0 Y0 (A8 rfl hc) (A8 rfl hc) hx qz6) ?_;refine R4 ?_;refine O6 rfl (j5 rfl rfl rfl) (fun hc => C7 rfl Q0 Y0 (A8 rfl hc) (A8 rfl hc) hy qz6) ?_;refine R2 ?_;refine O6 rfl (j5 rfl rfl rfl) (fun hc => A9 rfl Tryz.call229 rfl (Cc2 _ _ q7) (A3 (A8 rfl hc) (A3 (A8 rfl hc) B2))) ?_;refine R3 ?_;refine A2 ?_ ?_
  ·intro h47;have he : AR5 a b n = false := Cv5 hlt hx hy (by rw [entry_eq] at h47; simpa using h47);rw [he];refine R5 ?_;exact E5 rfl (A7 rfl B7)
  intro h47;refine R6 ?_;refine F7 i (i + 1) ?_ ?_ (F5 A5)
  ·exact ⟨by omega, Cc1 hinv.2 hx hy (by rw [entry_eq] at h47; simpa using h47)⟩
  omega
 intro h20;have k20 := C2 h20;have hge : i = n := by omega
 subst hge;have he : AR5 a b i = true := (by unfold AR5; exact AB1 ⟨by omega, by omega, hinv.2⟩);rw [he];refine R6 ?_;exact E5 rfl (A7 rfl B7)
theorem CI6 (a b : List K1) (n : Nat) (hs : D2 K1.size a ≤ 1048576) (hn : n ≤ 1048576) : F6 215 [AV.list 8 (a.map K1.cs), AV.list 8 (b.map K1.cs), AV.int (n : Int)] (AV.bool (AR5 a b n)) :=
  Bx7 a b n (fun e he => by obtain ⟨i, hi⟩ := j4 he; exact L4 (m6 (f := K1.size) hi) hs) hn
theorem BY6 (l : List K1) (hs : D2 K1.size l ≤ 1048576) : M7 168 [AV.list 8 (l.map K1.cs)] [] (fun _ : Value => True) (fun v => [.arr v 225 8 (l.map K1.cs)]) (fun v => AV.is v) := by
 have hll : l.length ≤ 1048576 := L4 P7 hs;refine C5 Tryz.func168 rfl Tryz.ntmps168 rfl ?_;refine R2 ?_;refine A1 rfl (D8 rfl H3) ?_;refine R3 ?_;refine S9 rfl rfl rfl rfl Q0 Y0 ?_;intro v6;refine R8 ?_;refine AWP.le (B9 [0] rfl) ?_;refine K3 [(0, _), (2, _)] _ (fun (i : Nat) (v : Value) => i ≤ l.length) (fun i v => [.arr v 225 8 ((l.take i).map K1.cs)]) (fun i v => [(3, AV.is v), (4, AV.int i)]) (fun i v => l.length - i) (0) (v6) ?_ (I6 B7 A5) ?_
 ·exact D6 _
 intro i v hinv;refine R8 ?_;refine A2 ?_ ?_
 ·intro h10;have k10 := C6 h10;have hlt : i < l.length := Aa1;obtain ⟨x, hx⟩ := B3 hlt;have hsx : K1.size x ≤ 1048576 := L4 (m6 hx) hs;have hsr : D2 (fun s : Str => s.length) x.Rec.Reads + D2 A4.size x.Rec.Writes ≤ 1048576 := hsx;have hl1 := P7 (f := fun s : Str => s.length) (l := x.Rec.Reads);have hl2 := P7 (f := A4.size) (l := x.Rec.Writes);refine R7 ?_;refine A1 rfl (C7 rfl Q0 Y0 (A0 rfl) (A0 rfl) hx qz3) ?_;refine R2 ?_;intro b5;refine R4 ?_;refine S9 rfl rfl rfl rfl G9 M4 ?_;intro v17;refine R3 ?_;refine H0 (by' := 16) 0 rfl rfl rfl rfl G9 Tryz.type9 rfl rfl rfl rfl rfl rfl (A0 rfl) (A0 rfl) rfl (by simp only [A6, P6]; omega) ?_;intro v21_1;refine R2 ?_;refine V0 0 rfl fun one_v21_1 => ?_;refine T2 1 rfl rfl rfl (A0 rfl) (A0 rfl) (O8 one_v21_1) rfl AD9 rfl ?_;refine R3 ?_;refine S9 rfl rfl rfl rfl C0 F2 ?_;intro v24;refine R3 ?_;refine H0 (by' := 40) 0 rfl rfl rfl rfl C0 Tryz.type69 rfl rfl rfl rfl rfl rfl (A0 rfl) (A0 rfl) rfl (by simp only [A6, P6]; omega) ?_;intro v28_2;refine R2 ?_;refine V0 0 rfl fun one_v28_2 => ?_;refine T2 2 rfl rfl rfl (A0 rfl) (A0 rfl) (O8 one_v28_2) rfl Tryz.sizeOf32 rfl ?_;refine R1 ?_;refine AWP.le (Ap5 [1, 0] 0 (.box b5 225 x.cs) rfl rfl ⟨rfl, rfl, (E2 J0 (E2 J0 (E2 J0 (E2 J0 (E2 J0 (E2 (M1 (C3 (i := 0) rfl) G6) (E2 (M1 (C3 (i := 1) rfl) G6) (E2 J0 o5))))))))⟩ Q2) ?_;refine R4 ?_;refine H0 (by' := 96) 1 rfl rfl rfl rfl Q0 Tryz.type225 rfl rfl rfl rfl rfl rfl (A0 rfl) (A0 rfl) rfl Bu5 ?_;intro v34_3;refine R7 ?_;refine G8 i v (i + 1) (v34_3) ?_ ?_ (Le.trans (B9 [0, 0] rfl) (E8 1 (by (rw [BD9 hx, V1]; rfl)) A5))
  ·exact qz8
  omega
 intro h10;have k10 := C2 h10;have hge : l.length ≤ i := Aa1;rw [U1 hge];refine R7 ?_;exact I2 [0] v (trivial) rfl B7 K5
theorem Av6 (l : List K1) (hs : D2 K1.size l ≤ 1048576) : F6 168 [AV.list 8 (l.map K1.cs)] (AV.list 8 (l.map K1.cs)) :=
  N7 (BY6 l hs) fun x _ => M1 (C3 (i := 0) rfl) G6
def C8.fcs (g : C8) (v : Value) : List AV := [AV.is v, AV.int g.Term, AV.int g.Lead]
def C8.fow (g : C8) (v : Value) : List Own := [.arr v 205 3 (g.Reps.map F3.cs)]
theorem C8.fl (g : C8) (v : Value) : AO0 (C8.fow g v) (AV.agg (C8.fcs g v)) (AV.agg g.cs) := BA4 (E2 (M1 (C3 (i := 0) rfl) G6) (E2 J0 (E2 J0 o5)))
theorem Ak9 (g : C8) (hs : g.size ≤ 1048576) : M7 151 [AV.agg g.cs] [] (fun _ : Value => True) (fun v => C8.fow g v) (fun v => AV.agg (C8.fcs g v)) := by
 have hrs : D2 F3.size g.Reps ≤ 1048576 := hs;have hll : g.Reps.length ≤ 1048576 := L4 P7 hrs;refine C5 Tryz.func151 rfl Tryz.ntmps151 rfl ?_;refine R3 ?_;intro b1;refine R1 ?_;intro b2;refine R3 ?_;refine S9 rfl rfl rfl rfl G1 K4 ?_;intro v5;refine R4 ?_;refine V0 0 rfl fun one_v5 => ?_;refine A1 rfl (j6 (places := #[(0, 1), (1, 1), (2, 1)]) rfl U9 Tryz.zeroValue168 (fun w => by kernel_rfl) rfl (E1 (A0 rfl) (O8 one_v5) (E1 (A0 rfl) (Z2 _ _) (E1 (A0 rfl) (Z2 _ _) X0))) rfl) ?_;refine R1 ?_;intro b3;refine R8 ?_;refine AWP.le (B9 [0, 0] rfl) ?_;refine K3 [(1, _), (2, _), (3, _)] _ (fun (i : Nat) (v : Value) => i ≤ g.Reps.length) (fun i v => [.box b3 168 (C8.fcs g v), .arr v 205 3 ((g.Reps.take i).map F3.cs)]) (fun i v => [(4, AV.int i)]) (fun i v => g.Reps.length - i) (0) (v5) ?_ (I6 B7 A5) ?_
 ·exact D6 _
 intro i v hinv;refine R9 ?_;refine A2 ?_ ?_
 ·intro h15;have k15 := C6 h15;have hlt : i < g.Reps.length := Ba6;obtain ⟨x, hx⟩ := B3 hlt;have hsx : D2 K1.size x.Log ≤ 1048576 := L4 (m6 (f := F3.size) hx) hrs;refine R3 ?_;refine O7 23 E3 E3 rfl ?_;refine R5 ?_;refine C1 rfl rfl (C7 rfl G1 K4 (A0 rfl) (A0 rfl) hx qz3) ?_;refine R5 ?_;refine C1 rfl rfl (C7 rfl G1 K4 (A0 rfl) (A0 rfl) hx qz3) ?_;refine R2 ?_;refine C1 rfl rfl (A9 rfl Tryz.call168 rfl (Av6 x.Log hsx) L2) ?_;refine R3 ?_;refine C1 rfl rfl (C7 rfl G1 K4 (A0 rfl) (A0 rfl) hx qz3) ?_;refine R5 ?_;refine H0 (by' := 40) 1 rfl rfl rfl rfl G1 Tryz.type205 rfl rfl rfl rfl rfl rfl (A0 rfl) (A0 rfl) rfl Bu5 ?_;intro v41_1;refine R1 ?_;refine V0 1 rfl fun one_v41_1 => ?_;refine T2 0 rfl rfl rfl (A0 rfl) (A0 rfl) (O8 one_v41_1) rfl AP9 rfl ?_;refine R6 ?_;refine G8 i v (i + 1) (v41_1) ?_ ?_ (Le.trans (B9 [0, 0] rfl) (I6 (by (rw [BD9 hx, V1]; rfl)) A5))
  ·exact qz8
  omega
 intro h15;have k15 := C2 h15;have hge : g.Reps.length ≤ i := Ba6;rw [U1 hge];refine R7 ?_;exact I2 [1] v (trivial) rfl B7 (N6 rfl (H8 (ys := _) 2 rfl rfl M3 D3 rfl))
theorem Bq4 (r : F3) (t : Int) (hll : r.Log.length ≤ 1048576) (hs : ∀ e ∈ r.Log, e.size ≤ 1048576) : F6 213 [AV.agg r.cs, AV.int t] (AV.bool (AH6 r t)) := by
 refine B8 Tryz.func213 rfl Tryz.ntmps213 rfl ?_;refine R3 ?_;intro b2;refine R19 ?_;refine W9 rfl (fun hc => A9 rfl Tryz.call60 rfl (Q3 _ _ _) (A3 (A8 rfl hc) (A3 I7 (A3 (A8 rfl hc) B2)))) ?_;refine R3 ?_;refine A2 ?_ ?_
 ·intro h19;have he : AH6 r t = false := (by unfold AH6; simp only [A6, AD7, I4, l7] at h19; rcases h19 with k | k; (rw [AM4 qz8]; rfl); (rw [k]; simp));rw [he];refine R5 ?_;exact E5 rfl (A7 rfl B7)
 intro h19;have hh := h19;simp only [A6, AL2, AP0, Ae3] at hh;have hg : AH6 r t = At1 t 1 r.Log := (by unfold AH6; rw [AB1 qz8, hh.2]; rfl);refine R7 ?_;refine K3 [(1, _), (2, _)] _ (fun (i : Nat) (p : Int) => i ≤ r.Log.length ∧ At1 t 1 r.Log = At1 t p (r.Log.drop i)) (fun i p => []) (fun i p => [(5, AV.int p), (6, AV.int i)]) (fun i p => r.Log.length - i) (0) (1) ?_ (F5 A5) ?_
 ·exact ⟨D6 _, rfl⟩
 intro i p hinv;refine R9 ?_;refine A2 ?_ ?_
 ·intro h24;have k24 := C6 h24;have hlt : i < r.Log.length := (by simpa using h24);obtain ⟨x, hx⟩ := B3 hlt;have hsx : x.Rec.size ≤ 1048576 := hs x (C3 hx);refine R9 ?_;refine A1 rfl (C7 rfl Q0 Y0 (A0 rfl) (A0 rfl) hx qz3) ?_;refine R4 ?_;refine A1 rfl (A9 rfl Tryz.call60 rfl (Q3 _ _ _) AD6) ?_;refine R5 ?_;refine W9 rfl (fun hc => C7 rfl Q0 Y0 (A8 rfl hc) (A8 rfl hc) hx qz6) ?_;refine R2 ?_;refine W9 rfl (fun hc => A9 rfl Tryz.call194 rfl (BB5 _ q7) (A3 (A8 rfl hc) B2)) ?_;refine R3 ?_;refine A2 ?_ ?_
  ·intro h46;have he : AH6 r t = false := (by rw [hg, hinv.2, Bq3 hx]; simp only [AD7, l7] at h46; rcases h46 with k | k; (rw [k]; rfl); (rw [Am3, k]; simp));rw [he];refine R5 ?_;exact E5 rfl (A7 rfl B7)
  intro h46;refine R5 ?_;refine A1 rfl (C7 rfl Q0 Y0 (A0 rfl) (A0 rfl) hx qz3) ?_;refine R9 ?_;refine G8 i p (i + 1) (x.Term) ?_ ?_ (F5 A5)
  ·exact ⟨by omega, by rw [hinv.2, Bq3 hx]; simp only [AL2, Ae3] at h46; rw [h46.1, Am3, h46.2]; rfl⟩
  omega
 intro h24;have k24 := C2 h24;have hge : r.Log.length ≤ i := (by simpa using h24);rw [hg, hinv.2, l6 hge];refine R6 ?_;exact E5 rfl (A7 rfl B7)
theorem Bx8 (r : F3) (t : Int) (hs : r.size ≤ 1048576) : F6 213 [AV.agg r.cs, AV.int t] (AV.bool (AH6 r t)) :=
  Bq4 r t (L4 (P7 (f := K1.size)) hs) fun e he => by obtain ⟨i, hi⟩ := j4 he; exact L4 (m6 (f := K1.size) hi) hs
theorem CI7 {g : C8} (h : ¬ (((Ac8 g.Reps.length && within g.Term 0 200) && within g.Lead (-1) ((g.Reps.length : Int) - 1)) = true)) : AF1 g = false := by
  rw [← Bool.not_eq_true, AP8];intro k;apply h
  have h1 := k.term;have h3 : within g.Lead (-1) ((g.Reps.length : Int) - 1) = true := by
    unfold within; rw [F0, I4, I4]
    rcases k.lead with e | ⟨a, b, _⟩
    · have := k.many; omega
    · omega
  have h4 : Ac8 g.Reps.length = true := by unfold Ac8; rw [AD7, e8, e8]; have := k.many; omega
  have h5 : within g.Term 0 200 = true := by unfold within; rw [F0, I4, I4]; omega
  rw [h3, h4, h5]; rfl
theorem Aa6 (g : C8) (hs : g.size ≤ 1048576) : F6 192 [AV.agg g.cs] (AV.bool (AF1 g)) := by
 have hrs : D2 F3.size g.Reps ≤ 1048576 := hs;have hll : g.Reps.length ≤ 1048576 := L4 P7 hrs;refine B8 Tryz.func192 rfl Tryz.ntmps192 rfl ?_;refine R3 ?_;intro b1;refine R18 ?_;refine W9 rfl (fun hc => A9 rfl Tryz.call60 rfl (Q3 _ _ _) (A3 (A8 rfl hc) Ah1)) ?_;refine R9 ?_;refine W9 rfl (fun hc => A9 rfl Tryz.call60 rfl (Q3 _ _ _) (A3 (A8 rfl hc) (A3 I7 (A3 (A8 rfl hc) B2)))) ?_;refine R3 ?_;refine A2 ?_ ?_
 ·intro h29;have he : AF1 g = false := CI7 (by intro hc; simp only [Ac8, F0, AD7, e8] at hc; simp only [A6, AD7, F0, Bd4, l7] at h29; rcases h29 with (k | k) | k; (omega); (rw [hc.1.2] at k; cases k); (rw [hc.2] at k; cases k));rw [he];refine R5 ?_;exact E5 rfl (A7 rfl qz58)
 intro h29;have hh := h29;simp only [A6, AL2, Ae3] at hh;have hlead : -1 ≤ g.Lead ∧ g.Lead ≤ (g.Reps.length : Int) - 1 := (by have h9 := hh.2; unfold within at h9; simpa using h9);have hm : Ac8 g.Reps.length = true := (by have h9 := hh.1.1; unfold Ac8; simp only [Bool.and_eq_false_iff, bne_eq_false_iff_eq] at h9; rw [AD7, e8, e8]; exact h9);have hg : AF1 g = ((g.Lead == -1 || (BS1 g g.Lead && (N8 g g.Lead).Up)) && g.Reps.all fun r => AH6 r g.Term) := (by unfold AF1; rw [hm, hh.1.2]; rfl);refine R7 ?_;refine E9 [(1, _)] _ (fun (i : Nat) => i ≤ g.Reps.length ∧ (g.Reps.all fun r => AH6 r g.Term) = ((g.Reps.drop i).all fun r => AH6 r g.Term)) (fun i => []) (fun i => [(3, AV.int i)]) (fun i => g.Reps.length - i) (0) ?_ (F5 A5) ?_
 ·exact ⟨D6 _, rfl⟩
 intro i hinv;refine R9 ?_;refine A2 ?_ ?_
 ·intro h34;have k34 := C6 h34;have hlt : i < g.Reps.length := (by simpa using h34);obtain ⟨x, hx⟩ := B3 hlt;have hsx : x.size ≤ 1048576 := L4 (m6 hx) hrs;refine R8 ?_;refine C1 rfl rfl (C7 rfl G1 K4 (A0 rfl) (A0 rfl) hx qz3) ?_;refine R3 ?_;refine C1 rfl rfl (A9 rfl Tryz.call213 rfl (Bx8 _ _ q7) (A3 (A0 rfl) (A3 (A0 rfl) B2))) ?_;refine R2 ?_;refine A2 ?_ ?_
  ·intro h45;have he : AF1 g = false := (by rw [hg, hinv.2, J2 hx, w5, show AH6 x g.Term = false by simpa using h45]; simp);rw [he];refine R5 ?_;exact E5 rfl (A7 rfl qz58)
  intro h45;refine R6 ?_;refine F7 i (i + 1) ?_ ?_ (F5 A5)
  ·exact ⟨by omega, by rw [hinv.2, J2 hx, w5, show AH6 x g.Term = true by simpa using h45]; rfl⟩
  omega
 intro h34;have k34 := C2 h34;have hge : g.Reps.length ≤ i := (by simpa using h34);have hall : (g.Reps.all fun r => AH6 r g.Term) = true := BT8;rw [hall, Bool.and_true] at hg;refine R11 ?_;refine W9 rfl (fun hc => C7 rfl G1 K4 (A8 rfl hc) (A8 rfl hc) (AB5 (g := g) (r := g.Lead) ⟨by have h9 : ¬ g.Lead < 0 := (by simpa using hc); omega, by omega⟩) (by have h9 : ¬ g.Lead < 0 := (by simpa using hc); omega)) ?_;refine R6 ?_;exact E5 rfl (A7 rfl qz58)
end Go.PQ
namespace Go.M
open Go.AV
def AN5 (many : Int) : C8 × Bool := if Ac8 many = true then (⟨List.replicate many.toNat ⟨true, [], 0⟩, 0, -1⟩, true) else (AI3, false)
theorem CU2 {p : Nat → Bool} {lo n : Nat} (h : lo < n) (hp : p n = true) : AD4 p lo n = some n := by
  cases n with
  | zero => omega
  | succ k => unfold AD4; rw [D4 qz8, D1 hp]
theorem Cc3 {p : Nat → Bool} {lo n : Nat} (h : lo < n) (hp : ¬ p n = true) : AD4 p lo n = AD4 p lo (n - 1) := by
  cases n with
  | zero => omega
  | succ k => conv => { lhs; unfold AD4 }; rw [D4 qz8, D4 hp]; rfl
theorem Cn6 (a b c : Int) : BC3 a (if b < c then c else b) = min a (max b c) := by
  unfold BC3; rw [Int.min_def, Int.max_def]; split <;> split <;> split <;> omega
structure SB (m : Int) (s : H2) : Prop where
  floor : 0 ≤ s.Floor ∧ s.Floor ≤ m
  leads : ∀ h ∈ s.Held, 0 ≤ h.Lead ∧ h.Lead ≤ 3
theorem Cv7 {g : C8} {r : O0} (h : (AE5 g r).2 = true) : 0 ≤ g.Lead := by
  unfold AE5 at h;split at h
  · rename_i hc
    rw [F0] at hc;exact (Ag2.1 hc.1.1).2.1
  · cases h
theorem put_in {g : C8} {r : O0} (hc : (!((!AF1 g || decide (g.Lead < 0)) || !Av0 r)) = true) : 0 ≤ g.Lead ∧ g.Lead < g.Reps.length := by
  simp only [l7, AL2, Ae3, AP0] at hc;have gg := AP8.1 hc.1.1;rcases gg.lead with e | ⟨a, b, _⟩
  · have := hc.1.2; omega
  · exact ⟨a, b⟩
theorem Cn7 {g : C8} {r : O0} (hno : (AE5 g r).2 = false) (h : (((!AF1 g || decide (g.Lead < 0)) || !Av0 r) || decide ((((N8 g g.Lead).Log.map K1.cs).length : Int) ≥ 60)) = false) : False := by
  rw [A6] at h;simp only [AL2, Ae3, AP0] at h;have hl : AZ5 g = true := by unfold AZ5; rw [h.1.1.1, AB1 (by have := h.1.1.2; omega)]; rfl
  unfold AE5 at hno;rw [D1 ⟨by rw [hl, Am3, h.1.2]; rfl, by have := h.2; omega⟩] at hno
  cases hno
theorem BQ5 {α : Type} {l : List α} {i : Nat} {x : α} (hx : l[i]? = some x) : l.drop i = x :: l.drop (i + 1) := by
  obtain ⟨h, e⟩ := F4.1 hx;rw [← e]; exact List.drop_eq_getElem_cons h
theorem takeX {α : Type} {l : List α} {i : Nat} {x : α} (hx : l[i]? = some x) : l.take (i + 1) = l.take i ++ [x] := by rw [V7, hx]; rfl
theorem CE7 {l : List H4} {i : Nat} {x : H4} (hx : l[i]? = some x) : AX9 (l.take i) (l.drop i) = ((BF7 x && !((l.take i).any fun h => h.Key == x.Key)) && AX9 (l.take (i + 1)) (l.drop (i + 1))) := by rw [BQ5 hx, takeX hx]; rfl
theorem CU3 {l : List H4} {i : Nat} (h : l.length ≤ i) : AX9 (l.take i) (l.drop i) = true := by rw [l6 h]; rfl
theorem idx_step {m : Int} {o : List Int} {i : Nat} {n : Int} (hx : o[i]? = some n) : At3 m (o.take i) (o.drop i) = ((within n 0 (m - 1) && !((o.take i).any fun x => n == x)) && At3 m (o.take (i + 1)) (o.drop (i + 1))) := by rw [BQ5 hx, takeX hx]; rfl
theorem idx_end {m : Int} {o : List Int} {i : Nat} (h : o.length ≤ i) : At3 m (o.take i) (o.drop i) = true := by rw [l6 h]; rfl
theorem As2 {h : List B4} {o : List Int} {i : Nat} {n : Int} (hx : o[i]? = some n) : AL0 h (o.drop i) = (((o.drop (i + 1)).all fun m => !AF8 (G7 h m) (G7 h n)) && AL0 h (o.drop (i + 1))) := by rw [BQ5 hx]; rfl
theorem Bq5 {h : List B4} {o : List Int} {i : Nat} (hh : o.length ≤ i) : AL0 h (o.drop i) = true := by rw [l6 hh]; rfl
theorem CE8 {α : Type} {p : α → Bool} {l : List α} {i : Nat} {x : α} (hx : l[i]? = some x) : (l.drop i).any p = (p x || (l.drop (i + 1)).any p) := by rw [BQ5 hx, AX4]
theorem Au8 {α : Type} {p : α → Bool} {l : List α} {i : Nat} {x : α} (hx : l[i]? = some x) : (l.drop i).all p = (p x && (l.drop (i + 1)).all p) := by rw [BQ5 hx, w5]
theorem kcomm (a b : Str) : (a == b) = (b == a) := by rw [AP2, e8, e8]; exact eq_comm
theorem BY7 {d : B4} (h : d.size ≤ 1048576) : D2 H4.size d.Got ≤ 1048576 ∧ D2 A4.size d.Writes ≤ 1048576 ∧ d.Got.length ≤ 1048576 ∧ d.Writes.length ≤ 1048576 := by
  have h1 := P7 (f := H4.size) (l := d.Got);have h2 := P7 (f := A4.size) (l := d.Writes);unfold B4.size at h;omega
theorem CU4 {l : List H4} {i : Nat} {x : H4} (hx : l[i]? = some x) : x.Key.length ≤ D2 H4.size l ∧ x.Val.length ≤ D2 H4.size l := by
  have h := m6 (f := H4.size) hx;have h2 : x.size = x.Key.length + x.Val.length := rfl;omega
theorem getD_row {l : List Str} {i : Nat} (h : i < l.length) : (l.map fun s => [AV.str s])[((i : Nat) : Int).toNat]? = some [AV.str (l.getD i [])] := by
  rw [AC6, Y6, O1 h, AB2, List.getD_eq_getElem?_getD, O1 h]; rfl
theorem CU5 {l : List Str} {i : Nat} (h : i < l.length) : l[i]? = some (l.getD i []) := by
  rw [O1 h, List.getD_eq_getElem?_getD, O1 h]; rfl
theorem CE9 {l : List Str} {k : Str} {i : Nat} (hi : i ≤ u6 l k) (h : (decide ((i : Int) < (l.length : Int)) && leS (l.getD i []) k) = true) : i < l.length ∧ i + 1 ≤ u6 l k := by
  simp only [F0, I4] at h;have hl : i < l.length := by omega
  refine ⟨hl, ?_⟩;rcases Nat.lt_or_ge i (u6 l k) with h1 | h1
  · exact h1
  · have := (Bk8 (k := k) (CU5 hl)).2 qz8
    rw [h.2] at this; cases this
theorem Cv8 {l : List Str} {k : Str} {i : Nat} (hi : i ≤ u6 l k) (h : (decide ((i : Int) < (l.length : Int)) && leS (l.getD i []) k) = false) : i = u6 l k := by
  have hle := Bk7 l k;rcases Nat.lt_or_ge i (u6 l k) with h1 | h1
  · have hl : i < l.length := by omega
    rw [(Bk8 (k := k) (CU5 hl)).1 h1, AB1 qz8] at h; cases h
  · omega
def AH1 : List Int → Int → List Int
  | [], n => [n]
  | x :: l, n => if x < n then x :: AH1 l n else if x = n then x :: l else n :: x :: l
theorem CF0 {l : List Int} {n x : Int} : x ∈ AH1 l n ↔ x = n ∨ x ∈ l := by
  induction l with
  | nil => simp [AH1]
  | cons y l ih =>
    unfold AH1;split
    · simp only [O5, ih]; constructor <;> rintro (h | h | h) <;> simp [h]
    · split
      · rename_i h; subst h; simp
      · simp
theorem CU6 {l : List Int} {n : Int} (h : l.Pairwise (· < ·)) : (AH1 l n).Pairwise (· < ·) := by
  induction l with
  | nil => simp [AH1]
  | cons y l ih =>
    obtain ⟨h1, h2⟩ := AC7.1 h;unfold AH1;split
    · rename_i hy
      refine AC7.2 ⟨fun z hz => ?_, ih h2⟩;rcases CF0.1 hz with rfl | hz
      · exact hy
      · exact h1 z hz
    · split
      · exact h
      · rename_i h3 h4
        refine AC7.2 ⟨fun z hz => ?_, h⟩;rcases O5.1 hz with rfl | hz
        · omega
        · have := h1 z hz; omega
def Ao9 (cuts ks : List Str) : List Int := ks.foldl (fun a k => AH1 a (u6 cuts k)) []
theorem BH4 {cuts : List Str} : ∀ {ks : List Str} {a : List Int}, a.Pairwise (· < ·) → (ks.foldl (fun a k => AH1 a (u6 cuts k)) a).Pairwise (· < ·) ∧ ∀ z, z ∈ ks.foldl (fun a k => AH1 a (u6 cuts k)) a ↔ z ∈ a ∨ ∃ k ∈ ks, z = (u6 cuts k : Int)
  | [], a, h => ⟨h, fun z => by simp⟩
  | k :: ks, a, h => by
    obtain ⟨h1, h2⟩ := BH4 (cuts := cuts) (ks := ks) (CU6 (n := (u6 cuts k : Int)) h);refine ⟨h1, fun z => ?_⟩;show z ∈ ks.foldl (fun a k => AH1 a (u6 cuts k)) (AH1 a (u6 cuts k)) ↔ _
    rw [h2, CF0];simp only [O5, exists_eq_or_imp];constructor
    · rintro ((h | h) | h)
      · exact .inr (.inl h)
      · exact .inl h
      · exact .inr (.inr h)
    · rintro (h | h | h)
      · exact .inl (.inr h)
      · exact .inl (.inl h)
      · exact .inr h
def orderR (o : AY4) : Bool := U7 ⟨1, o.Txn, 1, 0, o.Reads, o.Writes, false⟩
theorem Bq6 {n : Int} : ∀ {l : List Int} {i : Nat}, (∀ j x, j < i → l[j]? = some x → x < n) → i ≤ l.length → (∀ x, l[i]? = some x → ¬ x < n) →
    (∀ x, l[i]? = some x → x = n → AH1 l n = l) ∧ ((∀ x, l[i]? = some x → x ≠ n) → AH1 l n = l.take i ++ n :: l.drop i)
  | [], i, _, hi, _ => by simp at hi; subst hi; exact ⟨fun x hx => by simp at hx, fun _ => rfl⟩
  | y :: l, 0, _, _, h2 => by
    have h := h2 y rfl;unfold AH1;rw [D4 h];refine ⟨fun x hx hn => ?_, fun hn => ?_⟩
    · simp at hx; subst hx; rw [D1 hn]
    · rw [D4 (hn y rfl)]; rfl
  | y :: l, i + 1, h1, hi, h2 => by
    have hy := h1 0 y qz8 rfl;obtain ⟨k1, k2⟩ := Bq6 (n := n) (l := l) (i := i) (fun j x hj hx => h1 (j + 1) x qz8 AS0) (by simpa using hi) (fun x hx => h2 x AS0);unfold AH1;rw [D1 hy];refine ⟨fun x hx hn => by rw [k1 x AS0 hn], fun hn => by rw [k2 fun x hx => hn x AS0]; rfl⟩
theorem Cv9 (l : List Int) (n : Int) : (AH1 l n).length ≤ l.length + 1 := by
  induction l with
  | nil => simp [AH1]
  | cons y l ih =>
    unfold AH1;split
    · rw [H1, H1]; omega
    · split <;> simp
theorem Cc4 {l ks : List Str} {i : Nat} {k : Str} (h : ks[i]? = some k) : Ao9 l (ks.take (i + 1)) = AH1 (Ao9 l (ks.take i)) (u6 l k) := by
  unfold Ao9;rw [V7, h, List.foldl_append]; rfl
theorem Bq7 (l : List Str) : ∀ (ks : List Str), (Ao9 l ks).length ≤ ks.length := by
  have key : ∀ (ks : List Str) (a : List Int), (ks.foldl (fun a k => AH1 a (u6 l k)) a).length ≤ a.length + ks.length := by
    intro ks;induction ks with
    | nil => intro a; exact L5 _
    | cons k ks ih =>
      intro a;have h1 := ih (AH1 a (u6 l k));have h2 := Cv9 a (u6 l k);rw [List.foldl_cons, H1]; omega
  intro ks;have := key ks [];unfold Ao9; simpa using this
def OpD (o : TOp) : Prop := BI0 o = true ∧ o.Key ∈ AA7 ∧ o.size ≤ 64
theorem valD_gv {v : Str} (h : v ∈ valD) : AZ2 v = true ∧ v.length ≤ 10 := by
  have : ∀ v ∈ valD, AZ2 v = true ∧ v.length ≤ 10 := by decide
  exact this v h
theorem AZ0 {K : Int} {k v : Str} (h1 : 1 ≤ K ∧ K ≤ 7) (hv : Af2 K = true) (hk : k ∈ AA7) (h : v ∈ valD) : OpD ⟨K, k, v, 0⟩ := by
  obtain ⟨k1, k2⟩ := AK0 hk;obtain ⟨v1, v2⟩ := valD_gv h;refine ⟨?_, hk, by unfold TOp.size; dsimp only; omega⟩;unfold BI0 within
  dsimp only;rw [AB1 h1.1, AB1 h1.2, k1, v1, hv]
  cases Ao6 K <;> rfl
theorem Ac3 {K n : Int} {k : Str} (h1 : 1 ≤ K ∧ K ≤ 7) (hb : Ao6 K = true) (hk : k ∈ AA7) (h : -9999 ≤ n ∧ n ≤ 9999) : OpD ⟨K, k, [], n⟩ := by
  obtain ⟨k1, k2⟩ := AK0 hk;refine ⟨?_, hk, by unfold TOp.size; simp only [P6]; omega⟩;unfold BI0 within
  dsimp only;rw [AB1 h1.1, AB1 h1.2, k1, hb, AB1 h.1, AB1 h.2]
  cases Af2 K <;> rfl
theorem Ag4 {K : Int} {k : Str} (h1 : 1 ≤ K ∧ K ≤ 7) (hk : k ∈ AA7) : OpD ⟨K, k, [], 0⟩ := by
  obtain ⟨k1, k2⟩ := AK0 hk;refine ⟨?_, hk, by unfold TOp.size; simp only [P6]; omega⟩;unfold BI0 within
  dsimp only;rw [AB1 h1.1, AB1 h1.2, k1]
  cases Af2 K <;> cases Ao6 K <;> rfl
theorem Cw0 {l : List TOp} (hl : l.length ≤ 8) (h : ∀ o ∈ l, OpD o) : AF2 l = true ∧ ∀ o ∈ l, o.Key ∈ AA7 := by
  refine ⟨?_, fun o ho => (h o ho).2.1⟩;unfold AF2;rw [AB1 qz8, Bool.true_and, l7, List.any_eq_false];intro o ho;rw [(h o ho).1]; decide
def At4 (h : List B4) (i : Nat) : List Int := (List.range i).filterMap fun j : Nat => if (G7 h (Int.ofNat j)).Yes = true then some (Int.ofNat j) else none
theorem Cw1 (h : List B4) : At4 h h.length = I1 h := rfl
theorem Bg8 {h : List B4} {i : Nat} {d : B4} (hx : h[i]? = some d) : G7 h (i : Int) = d := by unfold G7; rw [AC6, hx]; rfl
theorem CF1 {h : List B4} {i : Nat} {d : B4} (hx : h[i]? = some d) (hy : d.Yes = true) : At4 h (i + 1) = At4 h i ++ [(i : Int)] := by
  unfold At4;rw [List.range_succ, List.filterMap_append, AM3, List.filterMap_nil];rw [show G7 h (Int.ofNat i) = d from Bg8 hx, D1 hy]; rfl
theorem CU7 {h : List B4} {i : Nat} {d : B4} (hx : h[i]? = some d) (hy : d.Yes = false) : At4 h (i + 1) = At4 h i := by
  unfold At4;rw [List.range_succ, List.filterMap_append, AM3, List.filterMap_nil];rw [show G7 h (Int.ofNat i) = d from Bg8 hx, D4 (by rw [hy]; decide)]; exact S1 _
theorem Cw2 (h : List B4) (i : Nat) : (At4 h i).length ≤ i := by
  unfold At4;have := List.length_filterMap_le (fun j : Nat => if (G7 h (Int.ofNat j)).Yes = true then some (Int.ofNat j) else none) (List.range i);rw [List.length_range] at this;exact this
theorem hist_all {h : List B4} : (h.any fun d => !r3 d) = !(h.all r3) := by rw [List.not_all_eq_any_not]
theorem CF2 {h : List B4} {i : Nat} {d : B4} (hx : h[i]? = some d) : (h.drop i).all r3 = (r3 d && (h.drop (i + 1)).all r3) := Au8 hx
theorem Av7 {a : B4} (h : r3 a = true) : adj T1 a.Writes = true ∧ -1 ≤ a.End := by
  refine ⟨(AY8 h).2.2, ?_⟩;unfold r3 at h;simp only [F0, AD7, e8] at h;have h1 := h.1.1.1.1.1.2;have h2 := h.1.1.1.1.2;unfold within at h1 h2
  simp only [F0, I4] at h1 h2;omega
theorem AA1 {h : List B4} {n : Int} (hn : 0 ≤ n ∧ n < (h.length : Int)) : h[n.toNat]? = some (G7 h n) := (An0 hn).2
theorem Cn8 {l : List A4} (ha : adj T1 l = true) (k : Str) : BR8 l k = Aa0 l k := by
  unfold BR8 Aa0
  cases hl : lookW l k with
  | some w =>
    obtain ⟨hw, hk⟩ := BP7 hl;obtain ⟨i, hi⟩ := j4 hw;have h1 : Ao0 l k = true := by rw [Cu8 ha]; exact AS3.2 ⟨w, hw, hk⟩
    rw [D1 h1];obtain ⟨y, hy, hyk⟩ := Ap8.1 h1;rw [hy];have := Ct8 ha (C3 hy);rw [hyk, hl] at this;injection this with this
    subst this; rfl
  | none =>
    rw [D4];intro h1;obtain ⟨y, hy, hyk⟩ := Ap8.1 h1;exact Bp0 hl y (C3 hy) hyk
theorem got_ne (a b : H4) : (!(a.Key == b.Key && (a.Val == b.Val && (a.There == b.There && true)))) = !decide (a = b) := by
  congr 1
  cases a; cases b
  rw [AP2];simp only [F0, e8, I4, H4.mk.injEq, and_true]
end Go.M
namespace Go.PQ
open Go.Proofs
open Go Go.AV Go.M
attribute [local irreducible] OpW OpA OpS AWP J3 K8 K0 OpE J6 H5 J9 Le Ev F8 L6 Z8 Int.tmod Int.tdiv IntKind.wrap Q7
theorem BF0 (g : C8) (r : Int) (up : Bool) (hs : g.size ≤ 1048576) : F6 175 [AV.agg g.cs, AV.int r, AV.bool up] (AV.bool (BC4 g r up)) := by
  have hrs : D2 F3.size g.Reps ≤ 1048576 := hs;have hll : g.Reps.length ≤ 1048576 := L4 P7 hrs;have hir : within r 0 (((g.Reps.map F3.cs).length : Int) - 1) = BS1 g r := by unfold BS1; rw [A6]
  refine B8 Tryz.func175 rfl Tryz.ntmps175 rfl ?_;refine R3 ?_;intro b3;refine R5 ?_;refine A1 rfl (A9 rfl Tryz.call192 rfl (Aa6 _ q7) (A3 (A0 rfl) B2)) ?_;refine R6 ?_;refine N4 rfl (fun hc => A9 rfl Tryz.call60 rfl (Q3 _ _ _) (A3 (A8 rfl hc) (A3 I7 (A3 (A8 rfl hc) B2)))) ?_;refine R5 ?_;refine N4 rfl (fun hc => C7 rfl G1 K4 (A8 rfl hc) (A8 rfl hc) (AB5 (Au2.1 (hir ▸ Bb6 hc))) (by have h9 := (Au2.1 (hir ▸ Bb6 hc)).1; omega)) ?_;refine R3 ?_;refine N4 rfl (fun hc => Az8 rfl T9 (A8 rfl hc) (A8 rfl hc)) ?_;refine R4 ?_;exact E5 rfl (A7 rfl (by exact D7 AV.bool (by rw [hir]; rfl)))
theorem CU8 (g : C8) (r : Int) (hs : g.size ≤ 1048576) : M7 179 [AV.agg g.cs, AV.int r] [] (fun _ : Value => True) (fun v => C8.fow (w3 g r).1 v) (fun v => AV.tup [AV.agg (C8.fcs (w3 g r).1 v), AV.bool (w3 g r).2]) := by
 refine C5 Tryz.func179 rfl Tryz.ntmps179 rfl ?_;refine R3 ?_;intro b2;refine R1 ?_;intro b4;refine R7 ?_;refine A1 rfl (A9 rfl Tryz.call175 rfl (BF0 _ _ _ q7) (A3 (A0 rfl) (A3 (A0 rfl) (A3 AV9 B2)))) ?_;refine R2 ?_;refine A2 ?_ ?_
 ·intro h10;have he : w3 g r = (AI3, false) := (by unfold w3; rw [D4 Aa1]);rw [he];refine R7 ?_;refine AD1 205 3 ?_;exact I2 [0] (F9) (trivial) rfl qz90 (q8 rfl D5 (H7 (H8 (ys := _) 1 rfl rfl M3 D3 rfl) u3))
 intro h10;have hu : BC4 g r true = true := Aa1;obtain ⟨gg, hr, hup⟩ := Ab8.1 hu;have hx := AB5 hr;have he : w3 g r = (⟨g.Reps.set r.toNat ⟨false, (N8 g r).Log, (N8 g r).Sure⟩, g.Term, if g.Lead = r then -1 else g.Lead⟩, true) := D1 hu;rw [he];refine R4 ?_;refine E6 [] rfl rfl rfl rfl Tryz.call151 rfl (Ak9 g hs) L2 rfl ?_;intro x13 ok13;refine R1 ?_;intro b6;refine R7 ?_;refine A1 rfl (H6 1 rfl G1 K4 (A0 rfl) rfl (A0 rfl) qz8 AG2) ?_;refine A1 rfl (L0 1 rfl y7 rfl S0 (A0 rfl) rfl rfl qz5) ?_;refine X3 1 rfl rfl rfl (A0 rfl) AV9 (AT6 _) rfl S0 qz5 rfl ?_;refine R9 ?_;refine A2 ?_ ?_
 ·intro h22;have k22 := K6 h22;(try simp only [A6] at k22);rw [D1 k22];refine R11 ?_;exact I2 [1] x13 (trivial) rfl qz90 (q8 rfl D5 (H7 (H8 (ys := _) 2 rfl rfl M3 D3 rfl) u3))
 intro h22;have k22 := J4 h22;(try simp only [A6] at k22);rw [D4 k22];refine R8 ?_;exact I2 [1] x13 (trivial) rfl qz90 (q8 rfl D5 (H7 (H8 (ys := _) 2 rfl rfl M3 D3 rfl) u3))
theorem CI8 (g : C8) (r : Int) (hs : g.size ≤ 1048576) : F6 179 [AV.agg g.cs, AV.int r] (AV.tup [AV.agg (w3 g r).1.cs, AV.bool (w3 g r).2]) :=
  N7 (CU8 g r hs) fun v _ => AU0 (E2 (C8.fl _ v) (E2 J0 o5))
theorem CU9 (g : C8) (r : Int) (hs : g.size ≤ 1048576) : M7 180 [AV.agg g.cs, AV.int r] [] (fun _ : Value => True) (fun v => C8.fow (AA5 g r).1 v) (fun v => AV.tup [AV.agg (C8.fcs (AA5 g r).1 v), AV.bool (AA5 g r).2]) := by
 refine C5 Tryz.func180 rfl Tryz.ntmps180 rfl ?_;refine R3 ?_;intro b2;refine R1 ?_;intro b4;refine R7 ?_;refine A1 rfl (A9 rfl Tryz.call175 rfl (BF0 _ _ _ q7) (A3 (A0 rfl) (A3 (A0 rfl) (A3 AV9 B2)))) ?_;refine R2 ?_;refine A2 ?_ ?_
 ·intro h10;have he : AA5 g r = (AI3, false) := (by unfold AA5; rw [D4 Aa1]);rw [he];refine R7 ?_;refine AD1 205 3 ?_;exact I2 [0] (F9) (trivial) rfl qz90 (q8 rfl D5 (H7 (H8 (ys := _) 1 rfl rfl M3 D3 rfl) u3))
 intro h10;have hu : BC4 g r false = true := Aa1;obtain ⟨gg, hr, hup⟩ := Ab8.1 hu;have hx := AB5 hr;have he : AA5 g r = (⟨g.Reps.set r.toNat ⟨true, (N8 g r).Log, (N8 g r).Sure⟩, g.Term, g.Lead⟩, true) := D1 hu;rw [he];refine R4 ?_;refine E6 [] rfl rfl rfl rfl Tryz.call151 rfl (Ak9 g hs) L2 rfl ?_;intro x13 ok13;refine R1 ?_;intro b6;refine R7 ?_;refine A1 rfl (H6 1 rfl G1 K4 (A0 rfl) rfl (A0 rfl) qz8 AG2) ?_;refine A1 rfl (L0 1 rfl y7 rfl S0 (A0 rfl) rfl rfl qz5) ?_;refine X3 1 rfl rfl rfl (A0 rfl) AV9 (AT6 _) rfl S0 qz5 rfl ?_;refine R8 ?_;exact I2 [1] x13 (trivial) rfl qz90 (q8 rfl D5 (H7 (H8 (ys := _) 2 rfl rfl M3 D3 rfl) u3))
theorem CI9 (g : C8) (r : Int) (hs : g.size ≤ 1048576) : F6 180 [AV.agg g.cs, AV.int r] (AV.tup [AV.agg (AA5 g r).1.cs, AV.bool (AA5 g r).2]) :=
  N7 (CU9 g r hs) fun v _ => AU0 (E2 (C8.fl _ v) (E2 J0 o5))
theorem As3 (l : List K1) : F6 193 [AV.list 8 (l.map K1.cs)] (AV.int (AS7 l)) := by
 refine B8 Tryz.func193 rfl Tryz.ntmps193 rfl ?_;refine W4 (t := 0) rfl fun hl => ?_;try simp only [A6] at hl
 refine R11 ?_;refine A2 ?_ ?_
 ·intro h5;have k5 := K6 h5;(try simp only [A6] at k5);rw [Cn5 (show l.length = 0 by omega)];refine R5 ?_;exact E5 rfl (A7 rfl B7)
 intro h5;have k5 := J4 h5;(try simp only [A6] at k5);obtain ⟨e, hx⟩ := B3 (show l.length - 1 < l.length by omega);have hx2 : l[(((l.map K1.cs).length : Int) - 1).toNat]? = some e := (by rw [A6, show ((l.length : Int) - 1).toNat = l.length - 1 by omega]; exact hx);rw [Cv6 hx];refine R7 ?_;refine A1 rfl (C7 rfl Q0 Y0 (A0 rfl) (A0 rfl) hx2 BL5) ?_;refine R5 ?_;exact E5 rfl (A7 rfl B7)
theorem CV0 (a b : List K1) : F6 176 [AV.list 8 (a.map K1.cs), AV.list 8 (b.map K1.cs)] (AV.bool (Ar0 a b)) := by
 refine B8 Tryz.func176 rfl Tryz.ntmps176 rfl ?_;refine R8 ?_;refine A1 rfl (A9 rfl Tryz.call193 rfl (As3 _) L2) ?_;refine R1 ?_;refine A1 rfl (A9 rfl Tryz.call193 rfl (As3 _) L2) ?_;refine R2 ?_;refine A2 ?_ ?_
 ·intro h9;have k9 := BD4 h9;(try simp only [A6] at k9);have he : Ar0 a b = decide (AS7 b < AS7 a) := (by unfold Ar0; rw [beq_eq_false_iff_ne.2 k9]; simp);rw [he];refine R3 ?_;refine A1 rfl (A9 rfl Tryz.call193 rfl (As3 _) L2) ?_;refine R1 ?_;refine A1 rfl (A9 rfl Tryz.call193 rfl (As3 _) L2) ?_;refine R4 ?_;exact E5 rfl (A7 rfl (by first | rfl | (rw [A6, A6])))
 intro h9;have k9 := Aa3 h9;(try simp only [A6] at k9);have he : Ar0 a b = decide ((b.length : Int) < (a.length : Int)) := (by unfold Ar0; rw [k9]; simp);rw [he];refine R11 ?_;exact E5 rfl (A7 rfl (by first | rfl | (rw [A6, A6])))
theorem CV1 (g : C8) (r : Int) (hs : g.size ≤ 1048576) : M7 163 [AV.agg g.cs, AV.int r] [] (fun _ : Value => True) (fun v => C8.fow (X8 g r).1 v) (fun v => AV.tup [AV.agg (C8.fcs (X8 g r).1 v), AV.bool (X8 g r).2]) := by
 refine C5 Tryz.func163 rfl Tryz.ntmps163 rfl ?_;refine R3 ?_;intro b2;refine R1 ?_;intro b4;refine R7 ?_;refine A1 rfl (A9 rfl Tryz.call175 rfl (BF0 _ _ _ q7) (A3 (A0 rfl) (A3 (A0 rfl) (A3 AV9 B2)))) ?_;refine R7 ?_;refine A2 ?_ ?_
 ·intro h17;have he : X8 g r = (AI3, false) := (by unfold X8; rw [D4 (by rintro ⟨a, b⟩; simp only [F0, l7] at a; rw [a.1, a.2] at h17; cases h17)]);rw [he];refine R7 ?_;refine AD1 205 3 ?_;exact I2 [0] (F9) (trivial) rfl B7 (q8 rfl D5 (H7 (H8 (ys := _) 1 rfl rfl M3 D3 rfl) u3))
 intro h17;have hh := h17;simp only [AL2, Ae3] at hh;obtain ⟨hu, ht⟩ := hh;obtain ⟨gg, hr, hup⟩ := Ab8.1 hu;have hxr := AB5 hr;have hll : g.Reps.length ≤ 5 := (by have h9 := gg.many; omega);have htm := gg.term;refine R11 ?_;refine K3 [(1, _), (2, _), (4, _), (5, _)] _ (fun (i : Nat) (m : Nat) => i ≤ g.Reps.length ∧ m ≤ i ∧ m = ((g.Reps.take i).filter fun x => x.Up && !Ar0 x.Log (N8 g r).Log).length) (fun i m => []) (fun i m => [(6, AV.int m), (7, AV.int i)]) (fun i m => g.Reps.length - i) (0) (0) ?_ (F5 A5) ?_
 ·exact ⟨D6 _, L5 _, rfl⟩
 intro i m hinv;refine R9 ?_;refine A2 ?_ ?_
 ·intro h23;have k23 := C6 h23;have hlt : i < g.Reps.length := Aw5;obtain ⟨x, hx⟩ := B3 hlt;refine R8 ?_;refine C1 rfl rfl (C7 rfl G1 K4 (A0 rfl) (A0 rfl) hx qz3) ?_;refine R6 ?_;refine O6 rfl (P8 rfl rfl rfl) (fun hc => C7 rfl G1 K4 (A8 rfl hc) (A8 rfl hc) hx qz6) ?_;refine R5 ?_;refine O6 rfl (P8 rfl rfl rfl) (fun hc => C7 rfl G1 K4 (A8 rfl hc) (A8 rfl hc) hxr qz8) ?_;refine R2 ?_;refine O6 rfl (P8 rfl rfl rfl) (fun hc => A9 rfl Tryz.call176 rfl (CV0 _ _) (A3 (A8 rfl hc) (A3 (A8 rfl hc) B2))) ?_;refine R3 ?_;refine A2 ?_ ?_
  ·intro h47;refine R10 ?_;refine G8 i m (i + 1) (m + 1) ?_ ?_ (F5 A5)
   ·exact ⟨by omega, by omega, by rw [Aa5 hx, D1 h47, hinv.2.2]⟩
   omega
  intro h47;refine R6 ?_;refine G8 i m (i + 1) (m) ?_ ?_ (F5 A5)
  ·exact ⟨by omega, by omega, by rw [Aa5 hx, D4 (by rw [h47]; decide), Nat.add_zero]; exact hinv.2.2⟩
  omega
 intro h23;have k23 := C2 h23;have hge : g.Reps.length ≤ i := Aw5;have hm := hinv.2.2;rw [U1 hge] at hm;refine R5 ?_;refine A1 rfl (At6 rfl I7 (A0 rfl) qz3) ?_;refine R5 ?_;refine A2 ?_ ?_
 ·intro h55;have k55 := C6 h55;have he : X8 g r = (AI3, false) := (by unfold X8; rw [D4 (by rintro ⟨a, b⟩; unfold Ba2 at b; have h9 := AA2 b; rw [← hm] at h9; omega)]);rw [he];refine R7 ?_;refine AD1 205 3 ?_;exact I2 [0] (F9) (trivial) rfl B7 (q8 rfl D5 (H7 (H8 (ys := _) 1 rfl rfl M3 D3 rfl) u3))
 intro h55;have k55 := C2 h55;have he : X8 g r = (⟨g.Reps, g.Term + 1, r⟩, true) := (by unfold X8; rw [D1 ⟨by rw [hu, ht]; rfl, by unfold Ba2; rw [← hm]; exact AB1 qz8⟩]);rw [he];refine R4 ?_;refine E6 [] rfl rfl rfl rfl Tryz.call151 rfl (Ak9 g hs) L2 rfl ?_;intro x58 ok58;refine R1 ?_;intro b8;refine R23 ?_;exact I2 [1] x58 (trivial) rfl B7 (q8 rfl D5 (H7 (H8 (ys := _) 2 rfl rfl M3 D3 rfl) u3))
theorem CJ0 (g : C8) (r : Int) (hs : g.size ≤ 1048576) : F6 163 [AV.agg g.cs, AV.int r] (AV.tup [AV.agg (X8 g r).1.cs, AV.bool (X8 g r).2]) :=
  N7 (CV1 g r hs) fun v _ => AU0 (E2 (C8.fl _ v) (E2 J0 o5))
theorem Cn9 (g : C8) (r : Int) (hs : g.size ≤ 1048576) : M7 181 [AV.agg g.cs, AV.int r] [] (fun _ : Value => True) (fun v => C8.fow (AI1 g r).1 v) (fun v => AV.tup [AV.agg (C8.fcs (AI1 g r).1 v), AV.bool (AI1 g r).2]) := by
 refine C5 Tryz.func181 rfl Tryz.ntmps181 rfl ?_;refine R3 ?_;intro b2;refine R1 ?_;intro b4;refine R7 ?_;refine A1 rfl (A9 rfl Tryz.call175 rfl (BF0 _ _ _ q7) (A3 (A0 rfl) (A3 (A0 rfl) (A3 AV9 B2)))) ?_;refine R13 ?_;refine A2 ?_ ?_
 ·intro h22;have he : AI1 g r = (AI3, false) := (by unfold AI1; rw [D4 (by rintro ⟨a, b⟩; simp only [F0, I4] at a; rw [a.1, AM4 (show ¬ g.Lead < 0 by omega), beq_eq_false_iff_ne.2 b] at h22; cases h22)]);rw [he];refine R7 ?_;refine AD1 205 3 ?_;exact I2 [0] (F9) (trivial) rfl qz172 (q8 rfl D5 (H7 (H8 (ys := _) 1 rfl rfl M3 D3 rfl) u3))
 intro h22;have hh := h22;simp only [AL2, Ae3, AP0, beq_eq_false_iff_ne] at hh;obtain ⟨⟨hu, hl0⟩, hne⟩ := hh;obtain ⟨gg, hr, hup⟩ := Ab8.1 hu;have hld : 0 ≤ g.Lead ∧ g.Lead < g.Reps.length := (by rcases gg.lead with e | ⟨a, b, _⟩; omega; exact ⟨a, b⟩);have hxr := AB5 hr;have hxl := AB5 hld;have hls : D2 K1.size (N8 g g.Lead).Log ≤ 1048576 := L4 (m6 (f := F3.size) hxl) hs;have he : AI1 g r = (AU9 g r ⟨true, (N8 g g.Lead).Log, min ((N8 g g.Lead).Log.length : Int) (max (N8 g r).Sure (N8 g g.Lead).Sure)⟩, true) := (by unfold AI1; rw [D1 ⟨by rw [hu, AB1 qz8]; rfl, hne⟩]);rw [he, ← Cn6];refine R4 ?_;refine E6 [] rfl rfl rfl rfl Tryz.call151 rfl (Ak9 g hs) L2 rfl ?_;intro x25 ok25;refine R1 ?_;intro b6;refine R8 ?_;refine A1 rfl (C7 rfl G1 K4 (A0 rfl) (A0 rfl) hxl qz8) ?_;refine R2 ?_;refine A1 rfl (A9 rfl Tryz.call168 rfl (Av6 _ hls) L2) ?_;refine R3 ?_;refine O7 23 E3 E3 rfl ?_;refine R9 ?_;refine C1 rfl rfl (C7 rfl G1 K4 (A0 rfl) (A0 rfl) hxr qz8) ?_;refine R6 ?_;refine C1 rfl rfl (C7 rfl G1 K4 (A0 rfl) (A0 rfl) hxl qz8) ?_;refine R2 ?_;refine C1 rfl rfl (A9 rfl Tryz.call153 rfl (BY3 _ _) E4) ?_;refine C1 rfl rfl (A9 rfl Tryz.call195 rfl (CT9 _ _) E4) ?_;refine R1 ?_;refine C1 rfl rfl (H6 1 rfl G1 K4 (A0 rfl) rfl (A0 rfl) qz8 AG2) ?_;refine R1 ?_;refine m4 1 rfl rfl rfl (A0 rfl) (A0 rfl) (m3 _) rfl K4 rfl AG1 ?_;refine R8 ?_;exact I2 [1] x25 (trivial) rfl qz172 (q8 rfl D5 (H7 (H8 (ys := _) 2 rfl rfl M3 D3 rfl) u3))
theorem Cc5 (g : C8) (r : Int) (hs : g.size ≤ 1048576) : F6 181 [AV.agg g.cs, AV.int r] (AV.tup [AV.agg (AI1 g r).1.cs, AV.bool (AI1 g r).2]) :=
  N7 (Cn9 g r hs) fun v _ => AU0 (E2 (C8.fl _ v) (E2 J0 o5))
theorem Cc6 (g : C8) (l : List K1) (n : Nat) (hs : g.size ≤ 1048576) (hn : n ≤ 1048576) : F6 196 [AV.agg g.cs, AV.list 8 (l.map K1.cs), AV.int (n : Int)] (AV.int ((g.Reps.filter fun x => AR5 x.Log l n).length : Nat)) := by
 have hll : g.Reps.length ≤ 1048576 := L4 (P7 (f := F3.size)) hs;refine B8 Tryz.func196 rfl Tryz.ntmps196 rfl ?_;refine R3 ?_;intro b3;refine R12 ?_;refine K3 [(1, _), (2, _), (3, _), (6, _)] _ (fun (i : Nat) (m : Nat) => i ≤ g.Reps.length ∧ m ≤ i ∧ m = ((g.Reps.take i).filter fun x => AR5 x.Log l n).length) (fun i m => []) (fun i m => [(7, AV.int m), (8, AV.int i)]) (fun i m => g.Reps.length - i) (0) (0) ?_ (F5 A5) ?_
 ·exact ⟨D6 _, L5 _, rfl⟩
 intro i m hinv;refine R9 ?_;refine A2 ?_ ?_
 ·intro h13;have k13 := C6 h13;have hlt : i < g.Reps.length := (by simpa using h13);obtain ⟨x, hx⟩ := B3 hlt;refine R8 ?_;refine A1 rfl (C7 rfl G1 K4 (A0 rfl) (A0 rfl) hx qz3) ?_;refine R4 ?_;refine A1 rfl (A9 rfl Tryz.call215 rfl (CI6 x.Log l n (L4 (m6 (f := F3.size) hx) hs) hn) AD6) ?_;refine R1 ?_;refine A2 ?_ ?_
  ·intro h24;refine R10 ?_;refine G8 i m (i + 1) (m + 1) ?_ ?_ (F5 A5)
   ·exact ⟨by omega, by omega, by rw [Aa5 hx, D1 h24, hinv.2.2]⟩
   omega
  intro h24;refine R6 ?_;refine G8 i m (i + 1) (m) ?_ ?_ (F5 A5)
  ·exact ⟨by omega, by omega, by rw [Aa5 hx, D4 (by rw [h24]; decide), Nat.add_zero]; exact hinv.2.2⟩
  omega
 intro h13;have k13 := C2 h13;have hge : g.Reps.length ≤ i := (by simpa using h13);have hm := hinv.2.2;rw [U1 hge] at hm;rw [← hm];refine R7 ?_;exact E5 rfl (A7 rfl B7)
theorem Cc7 (g : C8) (hs : g.size ≤ 1048576) : M7 182 [AV.agg g.cs] [] (fun _ : Value => True) (fun v => C8.fow (AN0 g).1 v) (fun v => AV.tup [AV.agg (C8.fcs (AN0 g).1 v), AV.bool (AN0 g).2]) := by
 refine C5 Tryz.func182 rfl Tryz.ntmps182 rfl ?_;refine R3 ?_;intro b1;refine R1 ?_;intro b2;refine R6 ?_;refine A1 rfl (A9 rfl Tryz.call192 rfl (Aa6 _ q7) (A3 (A0 rfl) B2)) ?_;refine R7 ?_;refine A2 ?_ ?_
 ·intro h14;have he : AN0 g = (AI3, false) := (by unfold AN0; rw [D4 (by unfold AZ5; intro a; simp only [F0, I4] at a; rw [a.1, AM4 (show ¬ g.Lead < 0 by omega)] at h14; cases h14)]);rw [he];refine R7 ?_;refine AD1 205 3 ?_;exact I2 [0] (F9) (trivial) rfl qz137 (q8 rfl D5 (H7 (H8 (ys := _) 1 rfl rfl M3 D3 rfl) u3))
 intro h14;have hh := h14;simp only [AL2, Ae3, AP0] at hh;have hlead : AZ5 g = true := (by unfold AZ5; rw [hh.1, AB1 qz8]; rfl);obtain ⟨gg, l0, l1, hup⟩ := Ag2.1 hlead;have hxl := AB5 ⟨l0, l1⟩;have hgr := gg.reps _ (AF0 ⟨l0, l1⟩);obtain ⟨L, hL⟩ : ∃ L, N8 g g.Lead = L := ⟨_, rfl⟩;rw [hL] at hxl hgr;have hsr := hgr.sure;have hl6 := hgr.len;have hm5 : g.Reps.length ≤ 5 := (by have h9 := gg.many; omega);refine R4 ?_;refine E6 [] rfl rfl rfl rfl Tryz.call151 rfl (Ak9 g hs) L2 rfl ?_;intro x17 ok17;refine R1 ?_;intro b4;refine R8 ?_;refine A1 rfl (C7 rfl G1 K4 (A0 rfl) (A0 rfl) hxl qz8) ?_;refine R2 ?_;intro b5;refine R8 ?_;try rw [show AV.ik IntKind.i64 ((n : Int) - 1) = AV.int ((n - 1 : Nat) : Int) from D7 AV.int (show (n : Int) - 1 = ((n - 1 : Nat) : Int) by omega)]
 refine R3 ?_;rw [show (List.map K1.cs L.Log).length = L.Log.length from A6 _];refine E9 [(1, _), (2, _), (4, _), (5, _)] _ (fun (n : Nat) => n ≤ L.Log.length ∧ AD4 (Ao5 g) L.Sure.toNat L.Log.length = AD4 (Ao5 g) L.Sure.toNat n) (fun n => []) (fun n => [(6, AV.int n)]) (fun n => n) (L.Log.length) ?_ (F5 A5) ?_
 ·exact ⟨L5 _, rfl⟩
 intro n hinv;refine R8 ?_;refine A2 ?_ ?_
 ·intro h30;have k30 := C6 h30;have hgt : L.Sure.toNat < n := by omega
  obtain ⟨x, hx⟩ := B3 (show n - 1 < L.Log.length by omega);have hx2 : L.Log[((n : Int) - 1).toNat]? = some x := (by rw [show ((n : Int) - 1).toNat = n - 1 by omega]; exact hx);have hadv : Ao5 g n = ((x.Term == g.Term) && decide ((g.Reps.length : Int) < 2 * ((g.Reps.filter fun x => AR5 x.Log L.Log n).length : Int))) := (by unfold Ao5 Ba2; rw [hL, hx, AB2]; congr 1; rw [AP2, I4, e8]; exact ⟨fun e => by injection e, fun e => by rw [e]⟩);have hcnt := List.length_filter_le (fun x => AR5 x.Log L.Log n) g.Reps;refine R9 ?_;refine C1 rfl rfl (C7 rfl Q0 Y0 (A0 rfl) (A0 rfl) hx2 qz8) ?_;refine R10 ?_;refine O6 rfl (P8 rfl rfl rfl) (fun hc => A9 rfl Tryz.call196 rfl (Cc6 _ _ _ q7 q7) (A3 (A8 rfl hc) (A3 (A8 rfl hc) (A3 (A8 rfl hc) B2)))) ?_;refine O6 rfl (P8 rfl rfl rfl) (fun hc => At6 rfl I7 (A8 rfl hc) qz6) ?_;refine R6 ?_;refine A2 ?_ ?_
  ·intro h54;have hp : Ao5 g n = true := (by rw [hadv]; simpa using h54);have hfin : AD4 (Ao5 g) L.Sure.toNat L.Log.length = some n := (by rw [hinv.2]; exact CU2 hgt hp);have he : AN0 g = (AU9 g g.Lead ⟨L.Up, L.Log, (n : Int)⟩, true) := (by unfold AN0; rw [D1 hlead, hL, hfin]);rw [he];refine R7 ?_;refine A1 rfl (H6 2 rfl G1 K4 (A0 rfl) rfl (A0 rfl) qz8 AG2) ?_;refine A1 rfl (L0 2 rfl y7 rfl D0 (A0 rfl) rfl rfl qz83) ?_;refine X3 2 rfl rfl rfl (A0 rfl) (A0 rfl) (Z2 _ _) rfl D0 qz83 rfl ?_;refine R8 ?_;exact I2 [2] x17 (trivial) rfl qz137 (q8 rfl D5 (H7 (H8 (ys := _) 3 rfl rfl M3 D3 rfl) u3))
  intro h54;have hp : ¬ Ao5 g n = true := (by rw [hadv]; simpa using h54);have hdown : AD4 (Ao5 g) L.Sure.toNat L.Log.length = AD4 (Ao5 g) L.Sure.toNat (n - 1) := (by rw [hinv.2]; exact Cc3 hgt hp);refine R4 ?_;try rw [show AV.ik IntKind.i64 ((n : Int) - 1) = AV.int ((n - 1 : Nat) : Int) from D7 AV.int (show (n : Int) - 1 = ((n - 1 : Nat) : Int) by omega)]
  refine R2 ?_;refine F7 n (n - 1) ?_ ?_ (F5 A5)
  ·exact ⟨by omega, hdown⟩
  omega
 intro h30;have k30 := C2 h30;have hfin : AD4 (Ao5 g) L.Sure.toNat L.Log.length = none := (by rw [hinv.2]; cases n with | zero => rfl | succ k => (unfold AD4; rw [D1 qz8]));have he : AN0 g = (g, true) := (by unfold AN0; rw [D1 hlead, hL, hfin]);rw [he];refine R8 ?_;exact I2 [2] x17 (trivial) rfl qz137 (q8 rfl D5 (H7 (H8 (ys := _) 3 rfl rfl M3 D3 rfl) u3))
theorem CV2 (g : C8) (hs : g.size ≤ 1048576) : F6 182 [AV.agg g.cs] (AV.tup [AV.agg (AN0 g).1.cs, AV.bool (AN0 g).2]) :=
  N7 (Cc7 g hs) fun v _ => AU0 (E2 (C8.fl _ v) (E2 J0 o5))
theorem CV3 (many : Int) : M7 149 [AV.int many] [] (fun _ : Value => True) (fun v => C8.fow (AN5 many).1 v) (fun v => AV.tup [AV.agg (C8.fcs (AN5 many).1 v), AV.bool (AN5 many).2]) := by
 refine C5 Tryz.func149 rfl Tryz.ntmps149 rfl ?_;refine R3 ?_;intro b2;refine R12 ?_;refine A2 ?_ ?_
 ·intro h11;have he : AN5 many = (AI3, false) := (by unfold AN5 Ac8; rw [D4 (by simp only [F0, Bd4] at h11; simp [h11.1, h11.2])]);rw [he];refine R7 ?_;refine AD1 205 3 ?_;exact I2 [0] (F9) (trivial) rfl B7 (q8 rfl D5 (H7 (H8 (ys := _) 1 rfl rfl M3 D3 rfl) u3))
 intro h11;have hm : many = 3 ∨ many = 5 := (by simp only [Bool.and_eq_false_iff, bne_eq_false_iff_eq] at h11; exact h11);obtain ⟨n, rfl⟩ : ∃ n : Nat, many = (n : Int) := ⟨many.toNat, by omega⟩;have he : AN5 (n : Int) = (⟨List.replicate n ⟨true, [], 0⟩, 0, -1⟩, true) := (by unfold AN5 Ac8; rw [D1 (by rw [AD7, e8, e8]; exact hm)]; rfl);rw [he];refine R3 ?_;refine S9 rfl rfl rfl rfl G1 K4 ?_;intro v13;refine V0 0 rfl fun one_v13 => ?_;refine A1 rfl (j6 (places := #[(0, 1), (1, 1), (2, 1)]) rfl U9 Tryz.zeroValue168 (fun w => by kernel_rfl) rfl (E1 (A0 rfl) (O8 one_v13) (E1 I7 (Z2 _ _) X0)) rfl) ?_;refine R1 ?_;intro b4;refine R8 ?_;refine AWP.le (B9 [0, 0] rfl) ?_;refine K3 [(0, _), (2, _), (3, _), (4, _)] _ (fun (i : Nat) (v : Value) => i ≤ n) (fun i v => [.box b4 168 [AV.is v, AV.int 0, AV.int (-1)], .arr v 205 3 ((List.replicate i (⟨true, [], 0⟩ : F3)).map F3.cs)]) (fun i v => [(5, AV.int i)]) (fun i v => n - i) (0) (v13) ?_ (I6 B7 A5) ?_
 ·exact D6 _
 intro i v hinv;refine R7 ?_;refine A2 ?_ ?_
 ·intro h17;have k17 := C6 h17;refine R9 ?_;refine H0 (by' := 40) 1 rfl rfl rfl rfl G1 Tryz.type205 rfl rfl rfl rfl rfl rfl (A0 rfl) (A0 rfl) rfl (by simp only [A6, AX3, S2]; omega) ?_;intro v25_2;refine R1 ?_;refine V0 1 rfl fun one_v25_2 => ?_;refine T2 0 rfl rfl rfl (A0 rfl) (A0 rfl) (O8 one_v25_2) rfl AP9 rfl ?_;refine R6 ?_;refine G8 i v (i + 1) (v25_2) ?_ ?_ (Le.trans (B9 [0, 0] rfl) (I6 (by (rw [List.replicate_succ', V1]; rfl)) A5))
  ·exact qz8
  omega
 intro h17;have k17 := C2 h17;have hge : i = n := by omega
 subst hge;refine R8 ?_;exact I2 [1] v (trivial) rfl B7 (q8 rfl D5 (H7 (H8 (ys := _) 2 rfl rfl M3 D3 rfl) u3))
theorem CJ1 (many : Int) : F6 149 [AV.int many] (AV.tup [AV.agg (AN5 many).1.cs, AV.bool (AN5 many).2]) :=
  N7 (CV3 many) fun v _ => AU0 (E2 (C8.fl _ v) (E2 J0 o5))
end Go.PQ
namespace Go.PQ
open Go.Proofs
open Go Go.AV Go.M
attribute [local irreducible] OpW OpA OpS AWP J3 K8 K0 OpE J6 H5 J9 Le Ev F8 L6 Z8 Int.tmod Int.tdiv IntKind.wrap Q7
end Go.PQ
namespace Go.PQ
open Go.Proofs
open Go Go.AV Go.M
attribute [local irreducible] OpW OpA OpS AWP J3 K8 K0 OpE J6 H5 J9 Le Ev F8 L6
end Go.PQ
namespace Go.PQ
open Go.Proofs
open Go Go.AV Go.M
attribute [local irreducible] OpW OpA OpS AWP J3 K8 K0 OpE J6 H5 J9 Le Ev F8 L6 Int.tmod IntKind.wrap Q7
end Go.PQ
namespace Go.PQ
open Go.Proofs
open Go Go.AV Go.M
attribute [local irreducible] OpW OpA OpS AWP J3 K8 K0 OpE J6 H5 J9 Le Ev F8 L6
end Go.PQ
namespace Go.PQ
open Go.Proofs
open Go Go.AV Go.M
attribute [local irreducible] OpW OpA OpS AWP J3 K8 K0 OpE J6 H5 J9 Le Ev F8 L6
theorem AN3 (l : List Int) (hl : l.length ≤ 4194304) : M7 45 [ints l] [] (fun _ : Value => True) (fun v => [.arr v 3 1 (l.map fun x => [AV.int x])]) (fun v => AV.is v) := by
  refine C5 Tryz.func45 rfl Tryz.ntmps45 rfl ?_;refine R2 ?_;refine A1 rfl (D8 rfl H3) ?_;refine R3 ?_;refine S9 rfl rfl rfl rfl C9 D0 ?_;intro v3;refine R1 ?_;refine H0 (by' := 8) 0 rfl rfl rfl rfl C9 Tryz.type3 rfl rfl rfl rfl rfl rfl (A0 rfl) (A0 rfl) rfl qz3 ?_;intro v5_1;refine R3 ?_;exact I2 [0] v5_1 (trivial) rfl B7 (N6 rfl (A7 rfl m9))
end Go.PQ
namespace Go.PQ
open Go.Proofs
open Go Go.AV Go.M
attribute [local irreducible] OpW OpA OpS AWP J3 K8 K0 OpE J6 H5 J9 Le Ev F8 L6 Z8 Int.tmod Int.tdiv IntKind.wrap Q7
def F3.ocs (r : F3) (y : Value) : List AV := [AV.bool r.Up, AV.is y, AV.int r.Sure]
def F3.ow (r : F3) (y : Value) : List Go.AV.Own := [.arr y 225 8 (r.Log.map K1.cs)]
theorem F3.lcM {own : List Go.AV.Own} (r : F3) (y : Value) (h : ∀ o ∈ F3.ow r y, o ∈ own) : AD0 own (F3.ocs r y) r.cs := E2 J0 (E2 (M1 (h _ (C3 (i := 0) rfl)) G6) AE9)
theorem Co0 (g : C8) (hs : g.size ≤ 1048576) : M7 151 [AV.agg g.cs] [] (fun x : Value × List Value => x.2.length = g.Reps.length) (fun x => .arr x.1 205 3 (L7 F3.ocs g.Reps x.2) :: nin F3.ow g.Reps x.2) (fun x => AV.agg [AV.is x.1, AV.int g.Term, AV.int g.Lead]) := by
 have hrs : D2 F3.size g.Reps ≤ 1048576 := hs;have hll : g.Reps.length ≤ 1048576 := L4 P7 hrs;refine C5 Tryz.func151 rfl Tryz.ntmps151 rfl ?_;refine R3 ?_;intro b1;refine R1 ?_;intro b2;refine R3 ?_;refine S9 rfl rfl rfl rfl G1 K4 ?_;intro v5;refine R4 ?_;refine V0 0 rfl fun one_v5 => ?_;refine A1 rfl (j6 (places := #[(0, 1), (1, 1), (2, 1)]) rfl U9 Tryz.zeroValue168 (fun w => by kernel_rfl) rfl (E1 (A0 rfl) (O8 one_v5) (E1 (A0 rfl) (Z2 _ _) (E1 (A0 rfl) (Z2 _ _) X0))) rfl) ?_;refine R1 ?_;intro b3;refine R8 ?_;refine AWP.le (B9 [0, 1, 1, 0] rfl) ?_;refine V5 [(1, _), (2, _), (3, _)] [] (fun (i : Nat) (v : Value) (xs : List Value) => i ≤ g.Reps.length ∧ xs.length = i) (fun i v xs => [.box b3 168 [AV.is v, AV.int g.Term, AV.int g.Lead], .box b2 168 (List.map n4 (Value.agg #[F9, Value.int IntKind.i64 0, Value.int IntKind.i64 0]).cells.toList), .box b1 168 g.cs, .arr v 205 3 (L7 F3.ocs (g.Reps.take i) xs)] ++ (nin F3.ow (g.Reps.take i) xs)) (fun i v xs => [(4, AV.int i)]) (fun i v xs => g.Reps.length - i) (0) (v5) ([]) ?_ (I6 B7 A5) ?_
 ·exact ⟨D6 _, rfl⟩
 intro i v xs hinv;refine K2 (S1 _) ?_;refine R9 ?_;refine A2 ?_ ?_
 ·intro h15;have k15 := C6 h15;have hlt : i < g.Reps.length := Ba6;obtain ⟨x, hx⟩ := B3 hlt;have hsx : D2 K1.size x.Log ≤ 1048576 := L4 (m6 (f := F3.size) hx) hrs;refine R3 ?_;refine P3 _ [(0, false), (1, false), (2, false), (3, false), (4, false), (5, false), (6, false), (7, false), (8, false), (9, false), (10, false), (11, false), (12, false), (13, false), (15, false), (16, false), (17, false), (18, false), (19, false), (20, false), (14, true), (21, false), (22, false), (23, true)] E3 E3 rfl (S8 3) ?_;refine R5 ?_;refine P1 rfl rfl rfl (fun ext => C7 rfl G1 K4 (A0 rfl) (A0 rfl) hx qz3) ?_;refine R5 ?_;refine P1 rfl rfl rfl (fun ext => C7 rfl G1 K4 (A0 rfl) (A0 rfl) hx qz3) ?_;refine R5 ?_;refine P1 rfl rfl rfl (fun ext => C7 rfl G1 K4 (A0 rfl) (A0 rfl) hx qz3) ?_;refine R2 ?_;refine U2 rfl rfl rfl (W5 4 (fun _ => rfl) (r6 4 (S5 [] rfl Tryz.call168 rfl (BY6 x.Log hsx) L2 rfl))) (fun a _ => qz4) ?_;intro x32 ok32;have one_x32 := ok32.2
  replace ok32 := ok32.1
  refine P1 rfl rfl rfl (fun ext => j6 (places := #[(0, 1), (1, 1), (2, 1)]) rfl y7 Tryz.zeroValue205 (fun w => by kernel_rfl) rfl (E1 (A0 rfl) (AT6 _) (E1 (A0 rfl) (O8 one_x32) (E1 (A0 rfl) (Z2 _ _) X0))) rfl) ?_;refine R1 ?_;refine U2 rfl rfl rfl (L8 (by' := 40) 3 rfl G1 Tryz.type205 rfl rfl rfl rfl rfl rfl (A0 rfl) (A0 rfl) rfl Bi1) (fun a _ => qz4) ?_;intro v41_1 _;refine R2 ?_;refine V0 3 rfl fun one_v41_1 => ?_;refine T2 0 rfl rfl rfl (A0 rfl) (A0 rfl) (O8 one_v41_1) rfl AP9 rfl ?_;refine R1 ?_;refine AWP.le (B9 [0, 0, 0, 0, 0] rfl) ?_;refine AWP.le (Q8 4 (t := nin F3.ow (g.Reps.take (i + 1)) (xs ++ [x32])) (Ai5 (ow := F3.ow) (x := x32) hx hinv.2)) ?_;refine R5 ?_;refine P2 i v xs (i + 1) (v41_1) (xs ++ [x32]) ?_ ?_ (Le.trans (B9 [0, 0, 0, 0] rfl) (I6 (Eq.trans (by exact D7 (fun z => Go.AV.Own.box _ _ _ :: Go.AV.Own.box _ _ _ :: Go.AV.Own.box _ _ _ :: Go.AV.Own.arr _ _ _ z :: _) (Ad3 hx hinv.2)) (S1 _).symm) A5))
  ·exact ⟨by omega, by rw [G3, hinv.2]; rfl⟩
  omega
 intro h15;have k15 := C2 h15;have hge : i = g.Reps.length := (by have h9 : g.Reps.length ≤ i := Ba6; omega);have hxs := hinv.2.trans hge;rw [show g.Reps.take i = g.Reps from U1 qz8];refine R7 ?_;exact I3 [3] 3 (nin F3.ow g.Reps xs) [] (v, xs) (hxs) rfl (show List.Perm (nin F3.ow g.Reps xs) ((nin F3.ow g.Reps xs) ++ []) from B6) B7 (N6 rfl (H8 (ys := _) 1 rfl rfl M3 D3 rfl))
theorem Cw3 {own : List Go.AV.Own} {l : List F3} {xs : List Value} {k : Nat} (hm : ∀ o ∈ nin F3.ow (l.eraseIdx k) (xs.eraseIdx k), o ∈ own) {j : Nat} {p : F3} {x : Value} (hp : l[j]? = some p) (hx : xs[j]? = some x) (hj : j ≠ k) : ∀ o ∈ F3.ow p x, o ∈ own := fun o ho => by
  by_cases h : j < k
  · exact hm o (Bc3 (i := j) (by rw [List.getElem?_eraseIdx, D1 h]; exact hp) (by rw [List.getElem?_eraseIdx, D1 h]; exact hx) o ho)
  · exact hm o (Bc3 (i := j - 1) (by rw [List.getElem?_eraseIdx, D4 qz8, show j - 1 + 1 = j by omega]; exact hp) (by rw [List.getElem?_eraseIdx, D4 qz8, show j - 1 + 1 = j by omega]; exact hx) o ho)
theorem Cw4 {own : List Go.AV.Own} {l : List F3} {xs : List Value} {k : Nat} {p p' : F3} {y : Value} (hlen : xs.length = l.length) (hp : l[k]? = some p) (hy : xs[k]? = some y) (hm : ∀ o ∈ nin F3.ow (l.eraseIdx k) (xs.eraseIdx k), o ∈ own) : As9 own (L7 F3.ocs (l.take k) (xs.take k) ++ p'.cs :: L7 F3.ocs (l.drop (k + 1)) (xs.drop (k + 1))) ((l.set k p').map F3.cs) := by
  have hk := (F4.1 hp).1;have ht := AQ7 (ocs := F3.ocs) hp hy;refine ⟨by rw [BO1 hp hy hlen, A6, V4], fun j a b ha hb => ?_⟩;rw [Y6] at hb;by_cases hj : j = k
  · subst hj
    rw [AR3 hk] at hb;rw [Ae4 qz8, ht, Nat.sub_self, BM2] at ha;injection ha with ha; injection hb with hb; subst ha; subst hb
    exact AE9
  · rw [Aa8 (fun e => hj e.symm)] at hb
    cases hq : l[j]? with
    | none => rw [hq] at hb; cases hb
    | some q =>
      rw [hq] at hb;injection hb with hb
      have hjl := (F4.1 hq).1;obtain ⟨x, hx⟩ : ∃ x, xs[j]? = some x := ⟨_, O1 qz8⟩;have ha2 : (L7 F3.ocs l xs)[j]? = some a := by
        rw [AS1 hp hy];by_cases h : j < k
        · rw [Ah8 qz8] at ha ⊢; exact ha
        · rw [Ae4 qz8] at ha ⊢
          obtain ⟨m, hm9⟩ : ∃ m, j - (L7 F3.ocs (l.take k) (xs.take k)).length = m + 1 := ⟨j - k - 1, by omega⟩;rw [hm9] at ha ⊢;rw [BD0] at ha ⊢;exact ha
      rw [T7 hq hx] at ha2;injection ha2 with ha2
      subst ha2; subst hb;exact F3.lcM q x (Cw3 hm hq hx hj)
theorem Cc8 (R : List F3) (tm : Int) (k : Nat) (L : F3) (r : O0) (hL : R[k]? = some L) (hs : (C8.mk R tm k).size ≤ 1000000) (hrs : r.size ≤ 1000) (hg : AF1 ⟨R, tm, k⟩ = true) (hgr : U7 r = true) (hlen : L.Log.length < 60) : M7 177 [AV.agg (C8.mk R tm k).cs, AV.agg r.cs] [] (fun x : Value × List Value => x.2.length = R.length) (fun x => .arr x.1 205 3 (L7 F3.ocs (R.take k) (x.2.take k) ++ (F3.mk L.Up (L.Log ++ [⟨tm, r⟩]) L.Sure).cs :: L7 F3.ocs (R.drop (k + 1)) (x.2.drop (k + 1))) :: nin F3.ow (R.eraseIdx k) (x.2.eraseIdx k)) (fun x => AV.tup [AV.agg [AV.is x.1, AV.int tm, AV.int (k : Int)], AV.bool true]) := by
 have hrsz : D2 F3.size R ≤ 1000000 := hs;have hkl := (F4.1 hL).1;have hlsz : D2 K1.size L.Log ≤ 1000000 := L4 (m6 (f := F3.size) hL) hrsz;have hnew : D2 K1.size (L.Log ++ [⟨tm, r⟩]) ≤ 1048576 := by
  have e : D2 K1.size (L.Log ++ [⟨tm, r⟩]) = D2 K1.size L.Log + (1 + r.size) := by
   unfold D2; rw [V1, List.sum_append]; simp [K1.size]; omega
  omega
 have hld : (C8.mk R tm (k : Int)).Lead = (k : Int) := rfl;have hrl : (C8.mk R tm (k : Int)).Reps.length = R.length := rfl;have hcall : F6 168 [AV.list 8 (L.Log.map K1.cs ++ [K1.cs (K1.mk tm r)])] (AV.list 8 ((L.Log ++ [K1.mk tm r]).map K1.cs)) := by
  have h := Av6 (L.Log ++ [⟨tm, r⟩]) hnew;rw [V1] at h ⊢;exact h
 refine C5 Tryz.func177 rfl Tryz.ntmps177 rfl ?_;refine R3 ?_;intro b2;refine R1 ?_;intro b3;refine R1 ?_;intro b4;refine R6 ?_;refine A1 rfl (A9 rfl Tryz.call192 rfl (Aa6 _ q7) (A3 (A0 rfl) B2)) ?_;refine R8 ?_;refine W9 rfl (fun hc => A9 rfl Tryz.call194 rfl (BB5 _ q7) (A3 (A8 rfl hc) B2)) ?_;refine R7 ?_;refine W9 rfl (fun hc => C7 rfl G1 K4 (A8 rfl hc) (A8 rfl hc) hL qz6) ?_;refine R6 ?_;refine A2 ?_ ?_
 ·intro h30;exfalso; rw [hg, ← Am3, hgr] at h30; simp at h30; omega
 intro h30;refine R4 ?_;refine J7 [] 3 1 ([]) ([]) (fun zz => nin F3.ow R zz.2) rfl rfl rfl rfl Tryz.call151 rfl rfl (show List.Perm ([]) (([]) ++ ([])) from List.Perm.refl _) (Co0 ⟨R, tm, k⟩ qz8) L2 (fun a => L9) ?_;intro x33 ok33;refine R1 ?_;intro b6;refine R3 ?_;have hln : x33.2.length = R.length := ok33;obtain ⟨y, hy⟩ := B3 (show k < x33.2.length by omega);rw [AS1 hL hy];refine AWP.le (Q8 5 (t := ([Go.AV.Own.arr y 225 8 (L.Log.map K1.cs)]) ++ (nin F3.ow (R.eraseIdx k) (x33.2.eraseIdx k))) (AU2 (ow := F3.ow) hL hy)) ?_;refine P3 _ [(0, false), (1, false), (2, false), (3, false), (4, false), (5, false), (6, false), (7, false), (8, false), (9, false), (10, false), (11, false), (12, false), (13, false), (14, false), (15, false), (16, true), (17, false)] E3 E3 rfl (S8 5) ?_;refine R8 ?_;refine P1 rfl rfl rfl (fun ext => H6 1 rfl G1 K4 (A0 rfl) rfl (A0 rfl) qz8 (by rw [BO1 hL hy hln]; omega)) ?_;refine P1 rfl rfl rfl (fun ext => L0 1 rfl y7 rfl Tryz.sizeOf203 (A0 rfl) rfl rfl (Ak3 (AQ7 hL hy))) ?_;refine P1 rfl rfl rfl (fun ext => M6 1 rfl (A0 rfl) rfl Tryz.isAgg203 (Ak3 (AQ7 hL hy)) rfl) ?_;refine R5 ?_;refine U2 rfl rfl rfl (Ab5 [5] (fun _ => rfl) (fun _ => M1 (C3 (i := 0) rfl) G6) (fun _ => Q2) (L8 (by' := 96) 5 rfl Q0 Tryz.type225 rfl rfl rfl rfl rfl rfl (A0 rfl) (A0 rfl) rfl qz3)) (fun a _ => qz4) ?_;intro v50_1 _;refine P1 rfl rfl rfl (fun ext => A9 rfl Tryz.call168 rfl (hcall) L2) ?_;refine R1 ?_;refine A1 rfl (H6 1 rfl G1 K4 (A0 rfl) rfl (A0 rfl) qz8 (by rw [BO1 hL hy hln]; omega)) ?_;refine A1 rfl (L0 1 rfl y7 rfl Tryz.sizeOf203 (A0 rfl) rfl rfl (Ak3 (AQ7 hL hy))) ?_;refine BN6 1 rfl rfl rfl (A0 rfl) (A0 rfl) (n1 _ _) rfl Tryz.sizeOf203 (AQ7 hL hy) rfl ?_;refine R8 ?_;exact I3 [1] 4 (nin F3.ow (R.eraseIdx k) (x33.2.eraseIdx k)) [] (x33.1, x33.2) (ok33) rfl (show List.Perm (nin F3.ow (R.eraseIdx k) (x33.2.eraseIdx k)) ((nin F3.ow (R.eraseIdx k) (x33.2.eraseIdx k)) ++ []) from B6) B7 (q8 rfl D5 (H7 (H8 (ys := _) 2 rfl rfl M3 D3 rfl) u3))
end Go.PQ
namespace Go.PQ
open Go.Proofs
open Go Go.AV Go.M
attribute [local irreducible] OpW OpA OpS AWP J3 K8 K0 OpE J6 H5 J9 Le Ev F8 L6 Z8 Int.tmod Int.tdiv IntKind.wrap Q7
theorem Cc9 (g : C8) (r : O0) (hs : g.size ≤ 1048576) (hrs : r.size ≤ 1000) (hno : (AE5 g r).2 = false) : F6 177 [AV.agg g.cs, AV.agg r.cs] (AV.tup [AV.agg AI3.cs, AV.bool false]) := by
 refine B8 Tryz.func177 rfl Tryz.ntmps177 rfl ?_;refine R3 ?_;intro b2;refine R1 ?_;intro b3;refine R1 ?_;intro b4;refine R6 ?_;refine A1 rfl (A9 rfl Tryz.call192 rfl (Aa6 _ q7) (A3 (A0 rfl) B2)) ?_;refine R8 ?_;refine W9 rfl (fun hc => A9 rfl Tryz.call194 rfl (BB5 _ q7) (A3 (A8 rfl hc) B2)) ?_;refine R7 ?_;refine W9 rfl (fun hc => C7 rfl G1 K4 (A8 rfl hc) (A8 rfl hc) (AB5 (put_in hc)) (by have h9 := (put_in hc).1; omega)) ?_;refine R6 ?_;refine A2 ?_ ?_
 ·intro h30;refine R7 ?_;refine BG5 0 0 3 rfl rfl ?_;exact X5 rfl D5 (H7 (H8 (ys := _) 0 rfl rfl M3 D3 rfl) u3)
 intro h30;exact (Cn7 hno h30).elim
theorem CJ2 (g : C8) (r : O0) (hs : g.size ≤ 1000000) (hrs : r.size ≤ 1000) : F6 177 [AV.agg g.cs, AV.agg r.cs] (AV.tup [AV.agg (AE5 g r).1.cs, AV.bool (AE5 g r).2]) := by
  by_cases h : (AZ5 g && U7 r) = true ∧ (N8 g g.Lead).Log.length < 60
  · have he : AE5 g r = (AU9 g g.Lead ⟨(N8 g g.Lead).Up, (N8 g g.Lead).Log ++ [⟨g.Term, r⟩], (N8 g g.Lead).Sure⟩, true) := D1 h
    have hh := h.1;rw [F0] at hh;obtain ⟨gg, l0, l1, hup⟩ := Ag2.1 hh.1;have hL := AB5 (g := g) (r := g.Lead) ⟨l0, l1⟩;rw [he];obtain ⟨R, tm, ld⟩ := g;obtain ⟨k, hk⟩ : ∃ k : Nat, ld = (k : Int) := ⟨ld.toNat, (Int.toNat_of_nonneg l0).symm⟩;subst hk;refine N7 (Cc8 R tm k (N8 ⟨R, tm, k⟩ k) r hL hs hrs (AP8.2 gg) hh.2 h.2) fun x hx => ?_;have hkl := (F4.1 hL).1;have hxl : x.2.length = R.length := hx;obtain ⟨y, hy⟩ : ∃ y, x.2[k]? = some y := ⟨_, O1 (show k < x.2.length by rw [hxl]; exact hkl)⟩;exact AU0 (E2 (BA4 (E2 (M1 W6 (Cw4 hxl hL hy fun o ho => S7 _ ho)) AE9)) (E2 J0 o5))
  · have he : AE5 g r = (AI3, false) := D4 h
    rw [he];exact Cc9 g r qz8 hrs (by rw [he])
end Go.PQ
namespace Go.PQ
open Go.Proofs
open Go Go.AV Go.M
attribute [local irreducible] OpW OpA OpS AWP J3 K8 K0 OpE J6 H5 J9 Le Ev F8 L6
theorem Cd0 (n : Int) : F6 67 [AV.int n] (AV.bool (isTxn n)) := by
  refine B8 Tryz.func67 rfl Tryz.ntmps67 rfl ?_;refine R7 ?_;refine A1 rfl (A9 rfl Tryz.call46 rfl (AY9 _ _ _) Aa2) ?_;refine R3 ?_;exact E5 rfl (A7 rfl m9)
theorem Ch8 {p : Prop} (h : p := by
 refine B8 Tryz.func61 rfl Tryz.ntmps61 rfl ?_;refine W4 (t := 0) rfl fun hl => ?_;try simp only [A6] at hl
 refine R12 ?_;refine E9 [(1, _), (7, _), (8, _)] _ (fun (i : Nat) => i ≤ l.length ∧ (l.any fun y => n == y) = ((l.drop i).any fun y => n == y)) (fun i => []) (fun i => [(9, AV.int i)]) (fun i => l.length - i) (0) ?_ (F5 A5) ?_
 ·exact ⟨D6 _, rfl⟩
 intro i hinv;refine R5 ?_;refine A2 ?_ ?_
 ·intro h10;have k10 := C6 h10;have hlt : i < l.length := by omega
  obtain ⟨x, hx⟩ := B3 hlt;refine R5 ?_;refine A1 rfl (C7 rfl C9 D0 (A0 rfl) (A0 rfl) hx qz3) ?_;refine R9 ?_;refine A2 ?_ ?_
  ·intro h15;have k15 := K6 h15;(try simp only [A6] at k15);refine R5 ?_;exact E5 rfl (A7 rfl qz165)
  intro h15;have k15 := J4 h15;(try simp only [A6] at k15);refine R5 ?_;refine F7 i (i + 1) ?_ ?_ (F5 A5)
  ·exact ⟨by omega, by rw [hinv.2, tw3x0 hx, AX4, show (n == x) = false from by simpa using Ne.symm k15]; rfl⟩
  omega
 intro h10;have k10 := C2 h10;have hge : l.length ≤ i := by omega
 refine R6 ?_;exact E5 rfl (A7 rfl qz165)) : p := h
namespace tw3n0
def tw3x0 := @BQ5
end tw3n0
open tw3n0 in
theorem CF3 (l : List Int) (n : Int) : F6 61 [ints l, AV.int n] (AV.bool (l.any fun y => n == y)) := Ch8
theorem CV4 (g h : H4) : F6 89 [AV.agg h.cs, AV.eptr g.cs] (AV.bool (h.Key == g.Key)) := by
  refine B8 Tryz.func89 rfl Tryz.ntmps89 rfl ?_;refine R3 ?_;intro b2;refine R12 ?_;exact E5 rfl (A7 rfl m9)
theorem Cd1 (l : List H4) (hs : D2 H4.size l ≤ 4194304) : F6 69 [AV.list 3 (l.map H4.cs)] (AV.bool (AY5 l)) := by
 have hl := P7 (f := H4.size) (l := l);refine B8 Tryz.func69 rfl Tryz.ntmps69 rfl ?_;refine R12 ?_;refine E9 [(0, _), (5, _), (6, _)] _ (fun (i : Nat) => i ≤ l.length ∧ AX9 [] l = AX9 (l.take i) (l.drop i)) (fun i => []) (fun i => [(7, AV.int i)]) (fun i => l.length - i) (0) ?_ (I6 B7 A5) ?_
 ·exact ⟨D6 _, rfl⟩
 intro i hinv;refine R5 ?_;refine A2 ?_ ?_
 ·intro h8;have k8 := C6 h8;have hlt : i < l.length := by (simpa using h8)
  obtain ⟨x, hx⟩ := B3 hlt;have hxs := CU4 hx;have hgs := CE7 hx;refine R6 ?_;refine A1 rfl (C7 rfl M9 U3 (A0 rfl) (A0 rfl) hx qz3) ?_;refine R2 ?_;intro b4;refine R7 ?_;refine A1 rfl (A9 rfl Tryz.call87 rfl (BX5 _ qz8) (A3 (A0 rfl) B2)) ?_;refine R7 ?_;refine W9 rfl (fun hc => A9 rfl Tryz.call88 rfl (BS6 _ _ qz8) (A3 (A8 rfl hc) (A3 (A8 rfl hc) B2))) ?_;refine R5 ?_;refine W9 rfl (fun hc => AN2 rfl M9 U3 (A8 rfl hc) (A8 rfl hc) qz6 qz6) ?_;refine W9 rfl (fun hc => w_clo rfl rfl L2) ?_;refine W9 rfl (fun hc => Ak0 rfl Tryz.call49 rfl (An1 (l.take i) (fun _ => True) (fun h => h.Key == x.Key) (fun _ _ => trivial)) (y5 _) (Z0 (evb (A8 rfl hc)) (Z0 (BN0 (CO7 0 (A8 rfl hc) rfl) (Bi8 Tryz.call89 (fun g (_ : True) => CV4 _ g))) AI5))) ?_;refine R2 ?_;refine A2 ?_ ?_
  ·intro h31;have hn : (BF7 x && !((l.take i).any fun h => h.Key == x.Key)) = false := qz130;have he : AY5 l = false := (by unfold AY5; rw [hinv.2, hgs, hn]; rfl);rw [he];refine R5 ?_;exact E5 rfl (A7 rfl qz81)
  intro h31;have hy : (BF7 x && !((l.take i).any fun h => h.Key == x.Key)) = true := qz130;refine R5 ?_;refine F7 i (i + 1) ?_ ?_ (Le.trans (B9 [0] rfl) (E8 1 B7 A5))
  ·exact ⟨by omega, by rw [hinv.2, hgs, hy, Bool.true_and]⟩
  omega
 intro h8;have k8 := C2 h8;have hge : l.length ≤ i := by (simpa using h8)
 have hfin := hinv.2;rw [CU3 hge] at hfin;refine R9 ?_;exact E5 rfl (A7 rfl qz81)
theorem Cd2 (l : List H4) (hs : D2 H4.size l ≤ 4194304) : F6 73 [AV.list 3 (l.map H4.cs)] (AV.bool (AY5 l)) := by
 have hl := P7 (f := H4.size) (l := l);refine B8 Tryz.func73 rfl Tryz.ntmps73 rfl ?_;refine R12 ?_;refine E9 [(0, _), (7, _), (8, _)] _ (fun (i : Nat) => i ≤ l.length ∧ AX9 [] l = AX9 (l.take i) (l.drop i)) (fun i => []) (fun i => [(9, AV.int i)]) (fun i => l.length - i) (0) ?_ (I6 B7 A5) ?_
 ·exact ⟨D6 _, rfl⟩
 intro i hinv;refine R5 ?_;refine A2 ?_ ?_
 ·intro h10;have k10 := C6 h10;have hlt : i < l.length := by (simpa using h10)
  obtain ⟨x, hx⟩ := B3 hlt;have hxs := CU4 hx;have hgs := CE7 hx;have hi0 := hinv.2;refine R6 ?_;refine A1 rfl (C7 rfl M9 U3 (A0 rfl) (A0 rfl) hx qz3) ?_;refine R2 ?_;intro b4;refine R8 ?_;refine A1 rfl (A9 rfl Tryz.call95 rfl (AW6 _ qz8) (A3 (A0 rfl) B2)) ?_;refine R4 ?_;refine W9 rfl (fun hc => A9 rfl Tryz.call96 rfl (Ax3 _ qz8) (A3 (A8 rfl hc) B2)) ?_;refine R9 ?_;refine AE8 rfl rfl (i7 rfl rfl rfl) (fun hc => CO2 rfl (A8 rfl hc) (N9 (l := []) rfl)) ?_;refine R3 ?_;refine A2 ?_ ?_
  ·intro h33;have hn : BF7 x = false := qz144;have he : AY5 l = false := (by unfold AY5; rw [hinv.2, hgs, hn]; rfl);rw [he];refine R5 ?_;exact E5 rfl (A7 rfl qz81)
  intro h33;have hy : BF7 x = true := qz144;refine R5 ?_;refine A1 rfl (AN2 rfl M9 U3 (A0 rfl) (A0 rfl) qz3 qz3) ?_;refine R4 ?_;refine E9 [(0, _), (3, _), (4, _), (7, _), (8, _), (9, _), (10, _), (11, _), (12, _), (13, _), (14, _), (15, _), (16, _), (17, _), (18, _), (23, _), (24, _), (33, _), (34, _), (35, _), (36, _), (37, _)] _ (fun (j : Nat) => j ≤ (l.take i).length ∧ ((l.take i).any fun h => h.Key == x.Key) = (((l.take i).drop j).any fun h => h.Key == x.Key)) (fun j => []) (fun j => [(38, AV.int j)]) (fun j => (l.take i).length - j) (0) ?_ (I6 B7 A5) ?_
  ·exact ⟨D6 _, rfl⟩
  intro j hinv;refine R5 ?_;refine A2 ?_ ?_
  ·intro h39;have k39 := C6 h39;have hlt1 : j < (l.take i).length := by (simpa using h39)
   obtain ⟨z, hz⟩ := B3 hlt1;refine R5 ?_;refine A1 rfl (C7 rfl M9 U3 (A0 rfl) (A0 rfl) hz qz3) ?_;refine R2 ?_;intro b6;refine R10 ?_;refine A2 ?_ ?_
   ·intro h46;have he : AY5 l = false := (by unfold AY5; rw [hi0, hgs, hinv.2, CE8 hz, kcomm z.Key, h46, Bool.true_or, Bool.not_true, Bool.and_false]; rfl);rw [he];refine R5 ?_;exact E5 rfl (A7 rfl qz81)
   intro h46;refine R5 ?_;refine F7 j (j + 1) ?_ ?_ (Le.trans (B9 [0] rfl) (E8 1 B7 A5))
   ·exact ⟨by omega, by rw [hinv.2, CE8 hz, kcomm z.Key, h46]; rfl⟩
   omega
  intro h39;have k39 := C2 h39;have hge1 : (l.take i).length ≤ j := by (simpa using h39)
  have hj3 : ((l.take i).any fun h => h.Key == x.Key) = false := (by rw [hinv.2, l6 hge1]; rfl);refine R5 ?_;refine F7 i (i + 1) ?_ ?_ (Le.trans (B9 [0] rfl) (E8 1 B7 A5))
  ·exact ⟨by omega, by rw [hi0, hgs, hy, hj3]; rfl⟩
  omega
 intro h10;have k10 := C2 h10;have hge : l.length ≤ i := by (simpa using h10)
 have hfin := hinv.2;rw [CU3 hge] at hfin;refine R9 ?_;exact E5 rfl (A7 rfl qz81)
theorem Cd3 (d : B4) (hs : d.size ≤ 1048576) : F6 41 [AV.agg d.cs] (AV.bool (r3 d)) := by
  obtain ⟨hs1, hs2, hs3, hs4⟩ := BY7 hs;refine B8 Tryz.func41 rfl Tryz.ntmps41 rfl ?_;refine R3 ?_;intro b1;refine R6 ?_;refine A1 rfl (A9 rfl Tryz.call67 rfl (Cd0 _) L2) ?_;refine R3 ?_;refine N4 rfl (fun hc => A9 rfl Tryz.call46 rfl (AY9 _ _ _) (A3 (A8 rfl hc) Ah1)) ?_;refine R10 ?_;refine AE8 rfl rfl (BM4 rfl rfl rfl) (fun hc => BI5 rfl (A8 rfl hc) I7 (by have hc2 := hc; simp [within] at hc2; omega)) ?_;refine AE8 rfl rfl (BM4 rfl rfl rfl) (fun hc => A9 rfl Tryz.call46 rfl (AY9 _ _ _) (A3 (A8 rfl hc) (A3 (A8 rfl hc) (A3 I7 B2)))) ?_;refine R20 ?_;refine N4 rfl (fun hc => A9 rfl Tryz.call68 rfl (Ca7 _) (A3 (A8 rfl hc) B2)) ?_;refine R4 ?_;refine N4 rfl (fun hc => A9 rfl Tryz.call69 rfl (Cd1 _ q7) (A3 (A8 rfl hc) B2)) ?_;refine R4 ?_;refine N4 rfl (fun hc => A9 rfl Tryz.call70 rfl (Bp5 _ q7) (A3 (A8 rfl hc) B2)) ?_;refine R4 ?_;exact E5 rfl (A7 rfl (by exact D7 AV.bool (by unfold r3; simp only [A6])))
theorem CV5 (d : B4) (hs : d.size ≤ 1048576) : F6 43 [AV.agg d.cs] (AV.bool (r3 d)) := by
 obtain ⟨hs1, hs2, hs3, hs4⟩ := BY7 hs;have hw : within d.End (d.Begin + 1) 1000000 = (decide (d.End > d.Begin) && decide (d.End ≤ 1000000)) := by unfold within; congr 1
 refine B8 Tryz.func43 rfl Tryz.ntmps43 rfl ?_;refine R3 ?_;intro b1;refine R19 ?_;refine A2 ?_ ?_
 ·intro h15;simp only [A6] at h15;have hq : (!d.Look || (d.Yes && ((d.Writes.length : Int) == 0))) = false := (by cases h1 : d.Look <;> cases h2 : d.Yes <;> simp_all <;> (first | omega | (intro e; rw [e] at h15; simp at h15)));have he : r3 d = false := (by unfold r3; simp only [hq, Bool.and_false, Bool.false_and]);rw [he];refine R5 ?_;exact E5 rfl (A7 rfl qz164)
 intro h15;simp only [A6] at h15;have hq : (!d.Look || (d.Yes && ((d.Writes.length : Int) == 0))) = true := (by cases h1 : d.Look <;> cases h2 : d.Yes <;> simp_all; try omega);refine R5 ?_;refine A1 rfl (A9 rfl Tryz.call60 rfl (Q3 _ _ _) Aa2) ?_;refine R3 ?_;refine N4 rfl (fun hc => A9 rfl Tryz.call60 rfl (Q3 _ _ _) (A3 (A8 rfl hc) Ah1)) ?_;refine R21 ?_;refine N4 rfl (fun hc => A9 rfl Tryz.call72 rfl (BH2 _) (A3 (A8 rfl hc) B2)) ?_;refine R4 ?_;refine N4 rfl (fun hc => A9 rfl Tryz.call73 rfl (Cd2 _ q7) (A3 (A8 rfl hc) B2)) ?_;refine R4 ?_;refine N4 rfl (fun hc => A9 rfl Tryz.call64 rfl (Av5 _ q7) (A3 (A8 rfl hc) B2)) ?_;refine R4 ?_;exact E5 rfl (A7 rfl qz164)
theorem Bq8 (a b : B4) : F6 48 [AV.agg a.cs, AV.agg b.cs] (AV.bool (Go.M.AF8 a b)) := by
  refine B8 Tryz.func48 rfl Tryz.ntmps48 rfl ?_;refine R3 ?_;intro b2;refine R1 ?_;intro b3;refine R17 ?_;exact E5 rfl (A7 rfl B7)
end Go.PQ
namespace Go.PQ
open Go.Proofs
open Go Go.AV Go.M
attribute [local irreducible] OpW OpA OpS AWP J3 K8 K0 OpE J6 H5 J9 Le Ev F8 L6 Int.tmod Int.tdiv IntKind.wrap
theorem Bx9 (x y : J5) : F6 242 [AV.agg x.cs, AV.agg y.cs] (AV.bool (Av3 x y)) := by
  refine B8 Tryz.func242 rfl Tryz.ntmps242 rfl ?_;refine R3 ?_;intro b2;refine R1 ?_;intro b3;refine R27 ?_;exact E5 rfl (A7 rfl m9)
theorem Cw5 (l : List Int) (n : Int) : (AO4 l n).length ≤ l.length + 1 := by
  induction l with
  | nil => simp [AO4]
  | cons y l ih =>
    unfold AO4;split
    · rw [H1, H1]; omega
    · split <;> simp
theorem CV6 {l : List J5} {x y : J5} {i : Nat} (hy : l[i]? = some y) : AC2 (l.take (i + 1)) x = if Av3 x y = true then AO4 (AC2 (l.take i) x) y.Txn else AC2 (l.take i) x := by
  unfold AC2;rw [V7, hy, List.filter_append, List.foldl_append]
  cases h : Av3 x y <;> simp [h]
theorem CV7 (l : List J5) (a : List Int) : (l.foldl (fun a y => AO4 a y.Txn) a).length ≤ a.length + l.length := by
  induction l generalizing a with
  | nil => simp
  | cons y l ih => rw [List.foldl_cons]; have := ih (AO4 a y.Txn); have := Cw5 a y.Txn; rw [H1]; omega
theorem Bg9 (l : List J5) (x : J5) : (AC2 l x).length ≤ l.length := by
  unfold AC2;have h1 := CV7 (l.filter (Av3 x)) [];have h2 := List.length_filter_le (Av3 x) l;rw [P6] at h1; omega
theorem Bq9 {n : Int} : ∀ {l : List Int} {i : Nat}, (∀ j x, j < i → l[j]? = some x → x < n) → i ≤ l.length → (∀ x, l[i]? = some x → ¬ x < n) →
    (∀ x, l[i]? = some x → x = n → AO4 l n = l) ∧ ((∀ x, l[i]? = some x → x ≠ n) → AO4 l n = l.take i ++ n :: l.drop i)
  | [], i, _, hi, _ => by simp at hi; subst hi; exact ⟨fun x hx => by simp at hx, fun _ => rfl⟩
  | y :: l, 0, _, _, h2 => by
    have h := h2 y rfl;unfold AO4;rw [D4 h];refine ⟨fun x hx hn => ?_, fun hn => ?_⟩
    · simp at hx; subst hx; rw [D1 hn]
    · rw [D4 (hn y rfl)]; rfl
  | y :: l, i + 1, h1, hi, h2 => by
    have hy := h1 0 y qz8 rfl;obtain ⟨k1, k2⟩ := Bq9 (n := n) (l := l) (i := i) (fun j x hj hx => h1 (j + 1) x qz8 AS0) (by simpa using hi) (fun x hx => h2 x AS0);unfold AO4;rw [D1 hy];refine ⟨fun x hx hn => by rw [k1 x AS0 hn], fun hn => by rw [k2 fun x hx => hn x AS0]; rfl⟩
theorem Ch9 {p : Prop} (h : p := by
 refine B8 Tryz.func155 rfl Tryz.ntmps155 rfl ?_;refine R2 ?_;refine A1 rfl (D8 rfl (O2 (sz := 1))) ?_;refine R7 ?_;refine E9 [(0, _), (1, _), (4, _)] _ (fun (i : Nat) => i ≤ l.length ∧ ∀ j x, j < i → l[j]? = some x → x < n) (fun i => []) (fun i => [(5, AV.int i)]) (fun i => l.length - i) (0) ?_ (F5 A5) ?_
 ·exact ⟨D6 _, fun j x h => by omega⟩
 intro i hinv;obtain ⟨x, hx⟩ := Ap6 l i;have hx0 : i < l.length → l[i]? = some x := hx;refine R10 ?_;refine N4 rfl (fun hc => C7 rfl C9 D0 (A8 rfl hc) (A8 rfl hc) (hx qz6) qz6) ?_;refine R5 ?_;refine A2 ?_ ?_
 ·intro h18;have hb : i < l.length ∧ x < n := by simpa using h18
  refine R7 ?_;refine Ab1 ?_;refine F7 i (i + 1) ?_ ?_ (F5 A5)
  ·exact ⟨by omega, fun j y hj hy => (Nat.lt_or_ge j i).elim (fun h => hinv.2 j y h hy) (fun h => by (obtain rfl : j = i := by omega); rw [hx0 hb.1] at hy; injection hy with hy; omega)⟩
  omega
 intro h18;have hb : i < l.length → ¬ x < n := fun h => by simpa [h] using h18
 obtain ⟨hs1, hs2⟩ := tw4x0 hinv.2 hinv.1 (fun z hz => by (have hzl := (F4.1 hz).1; rw [hx0 hzl] at hz; injection hz with hz; subst hz; exact hb hzl));refine R11 ?_;refine N4 rfl (fun hc => C7 rfl C9 D0 (A8 rfl hc) (A8 rfl hc) (hx qz6) qz6) ?_;refine R5 ?_;refine A2 ?_ ?_
 ·intro h32;have hc : i < l.length ∧ x = n := by simpa using h32
  have he := hs1 x (hx0 hc.1) hc.2;rw [he];refine R6 ?_;exact E5 rfl (A7 rfl qz171)
 intro h32;have hc : i < l.length → x ≠ n := fun h => by simpa [h] using h32
 have he := hs2 (fun z hz => by (have hzl := (F4.1 hz).1; rw [hx0 hzl] at hz; injection hz with hz; subst hz; exact hc hzl));rw [he];refine R3 ?_;refine S9 rfl rfl rfl rfl C9 D0 ?_;intro v34;refine R2 ?_;refine A1 rfl (AN2 rfl C9 D0 (A0 rfl) (A0 rfl) qz3 qz3) ?_;refine H0 (by' := 8) 0 rfl rfl rfl rfl C9 Tryz.type3 rfl rfl rfl rfl rfl rfl (A0 rfl) (A0 rfl) rfl (by simp only [A6, I5, P6]; omega) ?_;intro v38_1;refine R7 ?_;refine H0 (by' := 8) 0 rfl rfl rfl rfl C9 Tryz.type3 rfl rfl rfl rfl rfl rfl (A0 rfl) (A0 rfl) rfl Bv1 ?_;intro v42_2;refine R7 ?_;refine A1 rfl (Ak2 rfl C9 D0 (A0 rfl) (A0 rfl) qz3 qz3) ?_;refine H0 (by' := 8) 0 rfl rfl rfl rfl C9 Tryz.type3 rfl rfl rfl rfl rfl rfl (A0 rfl) (A0 rfl) rfl Bv1 ?_;intro v47_3;refine R3 ?_;refine BA3 0 4 rfl rfl ?_;exact E5 rfl (A7 rfl qz171)) : p := h
namespace tw4n0
def tw4x0 := @Bq9
end tw4n0
open tw4n0 in
theorem Co1 (l : List Int) (n : Int) (hl : l.length ≤ 4194303) : F6 155 [ints l, AV.int n] (ints (AO4 l n)) := Ch9
theorem CV8 (l : List J5) (x : J5) (hl : l.length ≤ 4194303) : F6 240 [AV.list 3 (l.map J5.cs), AV.agg x.cs] (ints (AC2 l x)) := by
 refine B8 Tryz.func240 rfl Tryz.ntmps240 rfl ?_;refine R3 ?_;intro b3;refine A1 rfl (D8 rfl (O2 (sz := 1))) ?_;refine R3 ?_;refine A1 rfl (D8 rfl (O2 (sz := 1))) ?_;refine R9 ?_;refine E9 [(3, _), (4, _), (8, _), (9, _)] _ (fun (i : Nat) => i ≤ l.length) (fun i => []) (fun i => [(5, ints (AC2 (l.take i) x)), (10, AV.int i)]) (fun i => l.length - i) (0) ?_ (F5 A5) ?_
 ·exact D6 _
 intro i hinv;refine R5 ?_;refine A2 ?_ ?_
 ·intro h11;have k11 := C6 h11;have hlt : i < l.length := by omega
  obtain ⟨y, hy⟩ := B3 hlt;have hwt := CV6 (x := x) hy;have hwl := Bg9 (l.take i) x;rw [I5] at hwl;refine R5 ?_;refine A1 rfl (C7 rfl Z6 AH8 (A0 rfl) (A0 rfl) hy qz3) ?_;refine R2 ?_;intro b7;refine R6 ?_;refine A1 rfl (A9 rfl Tryz.call242 rfl (Bx9 _ _) E4) ?_;refine R1 ?_;refine A2 ?_ ?_
  ·intro h16;have hout : AO4 (AC2 (l.take i) x) y.Txn = AC2 (l.take (i + 1)) x := by rw [hwt, D1 h16]
   refine R4 ?_;refine A1 rfl (A9 rfl Tryz.call155 rfl (Co1 _ _ q7) (A3 (A0 rfl) (A3 (A0 rfl) B2))) ?_;refine R6 ?_;refine F7 i (i + 1) ?_ ?_ (Q1 1 ⟨D7 (fun z => some (ints z)) hout, rfl, rfl, rfl, rfl, rfl, trivial⟩)
   ·omega
   omega
  intro h16;have hout : AC2 (l.take i) x = AC2 (l.take (i + 1)) x := by rw [hwt, D4 (by rw [h16]; decide)]
  refine R5 ?_;refine F7 i (i + 1) ?_ ?_ (Q1 1 ⟨D7 (fun z => some (ints z)) hout, rfl, rfl, rfl, rfl, rfl, trivial⟩)
  ·omega
  omega
 intro h11;have k11 := C2 h11;have hge : l.length ≤ i := by omega
 rw [U1 hge];refine R7 ?_;exact E5 rfl (A7 rfl B7)
theorem CV9 (l : List J5) (fixed : List Int) (x : J5) (hl : l.length ≤ 4194303) : F6 234 [AV.list 3 (l.map J5.cs), ints fixed, AV.agg x.cs] (AV.tup [AV.int (Ao8 l fixed x (AC2 l x)).1, ints (Ao8 l fixed x (AC2 l x)).2]) := by
 obtain ⟨w, hw⟩ : ∃ w, AC2 l x = w := ⟨_, rfl⟩;have hwl := Bg9 l x;rw [hw] at hwl;refine B8 Tryz.func234 rfl Tryz.ntmps234 rfl ?_;refine R3 ?_;intro b5;refine R1 ?_;refine A1 rfl (D8 rfl (O2 (sz := 1))) ?_;refine R5 ?_;refine A1 rfl (A9 rfl Tryz.call240 rfl (CV8 _ _ q7) (A3 (A0 rfl) (A3 (A0 rfl) B2))) ?_;refine R4 ?_;rw [hw];refine R5 ?_;refine A2 ?_ ?_
 ·intro h16;have k16 := K6 h16;(try simp only [A6] at k16);have he : Ao8 l fixed x w = (1, []) := by (unfold Ao8; rw [D1 qz8])
  rw [he];refine R3 ?_;refine A1 rfl (D8 rfl (O2 (sz := 1))) ?_;refine R2 ?_;exact X5 rfl D5 AQ4
 intro h16;have k16 := J4 h16;(try simp only [A6] at k16);refine R9 ?_;refine E9 [(1, _), (5, _), (8, _), (17, _), (18, _)] _ (fun (i : Nat) => i ≤ w.length ∧ (w.any fun t => decide (t < x.Txn) || fixed.any fun y => t == y) = ((w.drop i).any fun t => decide (t < x.Txn) || fixed.any fun y => t == y)) (fun i => []) (fun i => [(19, AV.int i)]) (fun i => w.length - i) (0) ?_ (F5 A5) ?_
 ·exact ⟨D6 _, rfl⟩
 intro i hinv;refine R5 ?_;refine A2 ?_ ?_
 ·intro h20;have k20 := C6 h20;have hlt : i < w.length := by omega
  obtain ⟨y, hx⟩ := B3 hlt;refine R5 ?_;refine A1 rfl (C7 rfl C9 D0 (A0 rfl) (A0 rfl) hx qz3) ?_;refine R12 ?_;refine W9 rfl (fun hc => A9 rfl Tryz.call61 rfl (CF3 _ _) (A3 (A8 rfl hc) (A3 (A8 rfl hc) B2))) ?_;refine R2 ?_;refine A2 ?_ ?_
  ·intro h31;have hany : (w.any fun t => decide (t < x.Txn) || fixed.any fun y => t == y) = true := by (rw [hinv.2, J2 hx, AX4, h31]; rfl)
   have he : Ao8 l fixed x w = (2, []) := by (unfold Ao8; rw [D4 qz8, D1 hany])
   rw [he];refine R3 ?_;refine A1 rfl (D8 rfl (O2 (sz := 1))) ?_;refine R2 ?_;exact X5 rfl D5 AQ4
  intro h31;refine R5 ?_;refine F7 i (i + 1) ?_ ?_ (F5 A5)
  ·exact ⟨by omega, by rw [hinv.2, J2 hx, AX4, h31]; rfl⟩
  omega
 intro h20;have k20 := C2 h20;have hge : w.length ≤ i := by omega
 have hany : (w.any fun t => decide (t < x.Txn) || fixed.any fun y => t == y) = false := by (rw [hinv.2, l6 hge]; rfl)
 have he : Ao8 l fixed x w = (3, w) := by (unfold Ao8; rw [D4 qz8, D4 (by rw [hany]; decide)])
 rw [he];refine R8 ?_;exact X5 rfl D5 AQ4
theorem Br0 {α β : Type} {c : α → β} : ∀ {l : List α} {k : Nat} {y : α}, l[k]? = some y → l.map c = (l.take k).map c ++ c y :: (l.drop (k + 1)).map c
  | [], k, y, h => by simp at h
  | x :: l, 0, y, h => by simp at h; subst h; rfl
  | x :: l, k + 1, y, h => by
    rw [T3, Br0 (c := c) (l := l) (k := k) (y := y) Al3]; rfl
theorem map_len9 {α β : Type} {c : α → β} {l : List α} {k : Nat} {y : α} (h : l[k]? = some y) : ((l.take k).map c).length = k := by
  have := (F4.1 h).1;rw [A6, I5]; omega
theorem Bh0 {l : List J5} {x : J5} {i : Nat} (h : AI2 l x = l.take i ++ AI2 (l.drop i) x) {y : J5} (hy : l[i]? = some y) :
    (((y.Key == x.Key) && (y.Txn == x.Txn)) = true → AI2 l x = l.take i ++ ⟨y.Key, y.Txn, y.Write || x.Write⟩ :: l.drop (i + 1)) ∧ (((y.Key == x.Key) && (y.Txn == x.Txn)) = false → AI2 l x = l.take (i + 1) ++ AI2 (l.drop (i + 1)) x) := by
  rw [J2 hy] at h;constructor
  · intro hc
    rw [h]; unfold AI2; rw [hc, D1 rfl]
  · intro hc
    rw [h, V7, hy]; rw [AI2, hc, D4 D5]; simp
theorem CJ3 (l : List J5) (x : J5) (hl : l.length ≤ 4194303) : F6 235 [AV.list 3 (l.map J5.cs), AV.agg x.cs] (AV.list 3 ((AI2 l x).map J5.cs)) := by
 refine B8 Tryz.func235 rfl Tryz.ntmps235 rfl ?_;refine R3 ?_;intro b3;refine A1 rfl (D8 rfl (O2 (sz := 3))) ?_;refine R3 ?_;refine S9 rfl rfl rfl rfl Z6 AH8 ?_;intro v8;refine R1 ?_;refine H0 (by' := 32) 0 rfl rfl rfl rfl Z6 Tryz.type279 rfl rfl rfl rfl rfl rfl (A0 rfl) (A0 rfl) rfl qz3 ?_;intro v10_1;refine R10 ?_;refine K2 (D7 (fun z => Own.arr v10_1 279 3 z :: _) (AF5 _)) ?_;refine E9 [(3, _), (5, _), (11, _), (12, _)] _ (fun (i : Nat) => i ≤ l.length ∧ AI2 l x = l.take i ++ AI2 (l.drop i) x) (fun i => []) (fun i => [(13, AV.int i)]) (fun i => l.length - i) (0) ?_ (F5 A5) ?_
 ·exact ⟨D6 _, rfl⟩
 intro i hinv;refine R5 ?_;refine A2 ?_ ?_
 ·intro h14;have k14 := C6 h14;have hlt : i < l.length := by (simp only [G3, P6, A6, S2] at k14; omega)
  obtain ⟨y, hy⟩ := B3 hlt;refine R6 ?_;refine A1 rfl (H6 0 rfl Z6 AH8 (A0 rfl) rfl (A0 rfl) qz8 qz166) ?_;refine A1 rfl (n2 0 rfl (A0 rfl) rfl Tryz.isAgg279 AH8 (by rw [AC6, Y6, hy]; rfl) D5) ?_;refine R1 ?_;intro b7;refine R18 ?_;refine A2 ?_ ?_
  ·intro h29;have he := (Bh0 hinv.2 hy).1 h29;have hA := map_len9 (c := J5.cs) hy;rw [he, V1, T3];refine K2 (D7 (fun z => _ :: Own.arr v10_1 279 3 z :: _) (Br0 hy)) ?_;refine R10 ?_;refine A1 rfl (H6 1 rfl Z6 AH8 (A0 rfl) rfl (A0 rfl) qz8 qz166) ?_;refine A1 rfl (L0 1 rfl Tryz.underlying279 rfl S0 (A0 rfl) rfl rfl (Ak3 qz3)) ?_;refine BN6 1 rfl rfl rfl (A0 rfl) (A0 rfl) (AT6 _) rfl S0 qz3 rfl ?_;refine R7 ?_;refine BA3 1 4 rfl rfl ?_;exact E5 rfl (A7 rfl B7)
  intro h29;refine R5 ?_;refine F7 i (i + 1) ?_ ?_ (Q1 1 A5)
  ·exact ⟨by omega, (Bh0 hinv.2 hy).2 h29⟩
  omega
 intro h14;have k14 := C2 h14;have hge : l.length ≤ i := by (simp only [G3, P6, A6, S2] at k14; omega)
 have he : AI2 l x = l ++ [x] := by (have := hinv.2; rwa [U1 hge, l6 hge] at this)
 rw [he, V1, T3];refine R6 ?_;refine H0 (by' := 32) 0 rfl rfl rfl rfl Z6 Tryz.type279 rfl rfl rfl rfl rfl rfl (A0 rfl) (A0 rfl) rfl (by rw [A6, S2]; omega) ?_;intro v45_2;refine R3 ?_;refine BA3 0 4 rfl rfl ?_;exact E5 rfl (A7 rfl B7)
def AV1 (l : List J5) (t : Int) (of : Bool) : List J5 := l.filter fun y => ((y.Txn == t) == of)
theorem Cd4 {l : List J5} {t : Int} {of : Bool} {i : Nat} {y : J5} (hy : l[i]? = some y) : (AV1 (l.take (i + 1)) t of).map J5.cs = (AV1 (l.take i) t of).map J5.cs ++ (if ((y.Txn == t) == of) = true then [J5.cs y] else []) := by
  unfold AV1;rw [V7, hy, List.filter_append, V1]
  cases h : ((y.Txn == t) == of) <;> simp [h]
theorem Co2 (l : List J5) (t : Int) (of : Bool) : (AV1 l t of).length ≤ l.length := List.length_filter_le _ _
theorem Cd5 (l : List J5) (t : Int) (of : Bool) (hl : l.length ≤ 4194303) : F6 202 [AV.list 3 (l.map J5.cs), AV.int t, AV.bool of] (AV.list 3 ((AV1 l t of).map J5.cs)) := by
 refine B8 Tryz.func202 rfl Tryz.ntmps202 rfl ?_;refine R2 ?_;refine A1 rfl (D8 rfl (O2 (sz := 3))) ?_;refine R3 ?_;refine T6 279 3 rfl rfl rfl rfl H3 ?_;intro v7;refine R9 ?_;refine K3 [(1, _), (2, _), (6, _), (10, _), (11, _)] _ (fun (i : Nat) (v : Value) => i ≤ l.length) (fun i v => [.arr v 279 3 ((AV1 (l.take i) t of).map J5.cs)]) (fun i v => [(7, AV.is v), (12, AV.int i)]) (fun i v => l.length - i) (0) (v7) ?_ (I6 B7 A5) ?_
 ·exact D6 _
 intro i v hinv;refine R5 ?_;refine A2 ?_ ?_
 ·intro h13;have k13 := C6 h13;have hlt : i < l.length := by omega
  obtain ⟨y, hy⟩ := B3 hlt;have hst := Cd4 (t := t) (of := of) hy;have hpl := Co2 (l.take i) t of;rw [I5] at hpl;refine R5 ?_;refine A1 rfl (C7 rfl Z6 AH8 (A0 rfl) (A0 rfl) hy qz3) ?_;refine R2 ?_;intro b9;refine R9 ?_;refine A1 rfl (Az8 rfl T9 (A0 rfl) (A0 rfl)) ?_;refine R1 ?_;refine A2 ?_ ?_
  ·intro h21;have hout : (AV1 (l.take i) t of).map J5.cs ++ [J5.cs y] = (AV1 (l.take (i + 1)) t of).map J5.cs := by rw [hst, D1 h21]
   refine R4 ?_;refine H0 (by' := 32) 1 rfl rfl rfl rfl Z6 Tryz.type279 rfl rfl rfl rfl rfl rfl (A0 rfl) (A0 rfl) rfl (by rw [A6, S2]; omega) ?_;intro v25_1;refine R6 ?_;refine G8 i v (i + 1) (v25_1) ?_ ?_ (Le.trans (B9 [0, 0] rfl) (E8 1 (by exact D7 (fun z => [Own.arr _ 279 3 z]) hout) A5))
   ·omega
   omega
  intro h21;have hout : (AV1 (l.take i) t of).map J5.cs = (AV1 (l.take (i + 1)) t of).map J5.cs := by rw [hst, D4 (by rw [h21]; decide), S1]
  refine R5 ?_;refine G8 i v (i + 1) (v) ?_ ?_ (Le.trans (B9 [0, 0] rfl) (E8 1 (by exact D7 (fun z => [Own.arr _ 279 3 z]) hout) A5))
  ·omega
  omega
 intro h13;have k13 := C2 h13;have hge : l.length ≤ i := by omega
 rw [U1 hge];refine R7 ?_;refine BA3 0 6 rfl rfl ?_;exact E5 rfl (A7 rfl B7)
end Go.PQ
namespace Go.Proofs
open Go.Shelf
def Tryz.itoa_ren : Go.Shelf.Ren := ⟨fun | 171 => 42 | 243 => 71 | 246 => 94 | 283 => 113 | 284 => 114 | 285 => 115 | 286 => 116 | 129 => 140 | 317 => 139 | 318 => 141 | 319 => 142 | 320 => 143 | 337 => 160 | 338 => 161 | n => n, fun | 3 => 3 | 9 => 9 | 2 => 2 | 4 => 4 | 171 => 150 | 0 => 0 | 53 => 60 | 37 => 22 | 5 => 5 | 173 => 153 | 212 => 187 | 51 => 188 | 20 => 20 | 213 => 189 | 46 => 148 | 232 => 228 | 233 => 229 | n => n, fun | 17 => 0 | 18 => 1 | 19 => 2 | n => n⟩
theorem Tryz.itoa : Go.Proofs.LaysM.n171 Tryz.prog Tryz.itoa_ren := {
  mixed := by kernel_rfl
  f129 := Tryz.func140.trans (D7 some E3)
  f171 := Tryz.func42.trans (D7 some E3)
  f243 := Tryz.func71.trans (D7 some E3)
  f246 := Tryz.func94.trans (D7 some E3)
  f283 := Tryz.func113.trans (D7 some E3)
  f284 := Tryz.func114.trans (D7 some E3)
  f285 := Tryz.func115.trans (D7 some E3)
  f286 := Tryz.func116.trans (D7 some E3)
  f317 := Tryz.func139.trans (D7 some E3)
  f318 := Tryz.func141.trans (D7 some E3)
  f319 := Tryz.func142.trans (D7 some E3)
  f320 := Tryz.func143.trans (D7 some E3)
  f337 := Tryz.func160.trans (D7 some E3)
  f338 := Tryz.func161.trans (D7 some E3)
  t0 := Tryz.underlying0
  a0 := Tryz.isAgg0
  z0 := Tryz.sizeOf0
  v0 := Tryz.zeroValue0
  t2 := Tryz.underlying2
  a2 := Tryz.isAgg2
  z2 := Tryz.sizeOf2
  v2 := Tryz.zeroValue2
  t3 := i6
  a3 := P4
  z3 := D0
  v3 := Tryz.zeroValue3
  t4 := T9
  a4 := AA3
  z4 := S0
  v4 := Tryz.zeroValue4
  t5 := AL3
  a5 := Tryz.isAgg5
  z5 := Tryz.sizeOf5
  v5 := Tryz.zeroValue5
  t9 := M2
  a9 := AA4
  z9 := M4
  v9 := Tryz.zeroValue9
  t20 := Tryz.underlying20
  a20 := Tryz.isAgg20
  z20 := Tryz.sizeOf20
  v20 := Tryz.zeroValue20
  t37 := AB8
  a37 := Tryz.isAgg22
  z37 := Tryz.sizeOf22
  v37 := Tryz.zeroValue22
  t46 := Tryz.underlying148
  a46 := Tryz.isAgg148
  z46 := Tryz.sizeOf148
  v46 := Tryz.zeroValue148
  t51 := Tryz.underlying188
  a51 := Tryz.isAgg188
  z51 := Tryz.sizeOf188
  v51 := Tryz.zeroValue188
  t53 := Tryz.underlying60
  a53 := Tryz.isAgg60
  z53 := Tryz.sizeOf60
  v53 := Tryz.zeroValue60
  t171 := Tryz.underlying150
  a171 := Tryz.isAgg150
  z171 := Tryz.sizeOf150
  v171 := Tryz.zeroValue150
  t173 := Tryz.underlying153
  a173 := Tryz.isAgg153
  z173 := Tryz.sizeOf153
  v173 := Tryz.zeroValue153
  t212 := Tryz.underlying187
  a212 := Tryz.isAgg187
  z212 := Tryz.sizeOf187
  v212 := Tryz.zeroValue187
  t213 := Tryz.underlying189
  a213 := Tryz.isAgg189
  z213 := Tryz.sizeOf189
  t232 := Tryz.underlying228
  a232 := Tryz.isAgg228
  z232 := Tryz.sizeOf228
  v232 := Tryz.zeroValue228
  t233 := Tryz.underlying229
  a233 := Tryz.isAgg229
  z233 := Tryz.sizeOf229
  v233 := Tryz.zeroValue229
  g17 := by kernel_rfl
  g18 := by kernel_rfl
  g19 := by kernel_rfl
  i0 := by kernel_rfl
  i2 := by kernel_rfl
  i3 := by kernel_rfl
  i4 := by kernel_rfl
  i5 := by kernel_rfl
  i9 := by kernel_rfl
  i20 := by kernel_rfl
  i37 := by kernel_rfl
  i46 := by kernel_rfl
  i51 := by kernel_rfl
  i53 := by kernel_rfl
  i171 := by kernel_rfl
  i173 := by kernel_rfl
  i212 := by kernel_rfl
  i232 := by kernel_rfl
  i233 := by kernel_rfl
  m17 := by kernel_rfl
  m18 := by kernel_rfl
  m19 := by kernel_rfl }
end Go.Proofs
namespace Go.PQ
open Go.Proofs
open Go Go.AV Go.M
attribute [local irreducible] OpW OpA OpS AWP J3 K8 K0 OpE J6 H5 J9 Le Ev F8 L6 Int.tmod Int.tdiv IntKind.wrap
def BI1 (w : World) : Prop := Lib.TabIs Tryz.prog w "internal/strconv.uint64pow10" .u64 Lib.pow10Tab
theorem Cw6 {W w' : World} (h : BI1 W) (hw : RLe (Ay2 W) w') : BI1 w' := Ck0 h hw
theorem Cw7 {W : World} {rest : List (String × DataW Unit)} (h : laidMet Tryz.prog (("internal/strconv.uint64pow10", Lib.tabData .u64 Lib.pow10Tab) :: rest) W) : BI1 W :=
  Lib.tabIs_of_head (g := 0) (t := 187) E3 E3 Tryz.underlying187 Tryz.underlying60 E3 E3 h
theorem Cw8 (n : Int) (h : -9223372036854775808 ≤ n ∧ n ≤ 9223372036854775807) : F6 42 [AV.wt BI1 (AV.int n)] (AV.str (AH0 n)) :=
  fspec_wt fun R w v hr hv hT => by
    rw [show v = Value.int .i64 n from hv];refine (Any.strconv_Itoa Tryz.itoa n h.1 h.2 w hT).mono ?_
    rintro e w' ⟨rfl, k, os, rfl⟩
    exact ⟨_, rfl, rfl, CZ8 w k os⟩
theorem Br1 (n : Nat) : n ≤ 1000000000000 → F6 158 [AV.int n] (AV.str (AG9 n)) := by
 induction n using Nat.strongRecOn with
 | ind n ih =>
  intro hn;refine B8 Tryz.func158 rfl Tryz.ntmps158 rfl ?_;refine R2 ?_;refine A1 rfl (D8 rfl (N9 (l := []) rfl)) ?_;refine R7 ?_;refine A2 ?_ ?_
  ·intro h4;have k4 := C6 h4;have hn10 : n < 10 := by omega
   refine R4 ?_;refine A1 rfl (Af5 rfl E3 AL3 (A0 rfl)) ?_;rw [dig1];refine R1 ?_;refine A1 rfl (Cf6 (bs := [UInt8.ofNat (48 + n)]) rfl AB8 AL3 M2 (A0 rfl)) ?_;refine R3 ?_;exact E5 rfl (A7 rfl qz170)
  intro h4;have k4 := C2 h4;have hn10 : ¬ n < 10 := by omega
  have hdl := Ac0 (k := 12) (n := n / 10) qz8 D5;refine R4 ?_;refine C1 rfl rfl (w_quo rfl (A0 rfl) I7 D5) ?_;rw [quo10 hn];refine C1 rfl rfl (A9 rfl Tryz.call158 rfl (ih (n / 10) qz8 qz8) L2) ?_;refine R1 ?_;refine C1 rfl rfl (BM6 rfl (A0 rfl) I7 D5) ?_;refine C1 rfl rfl (BI5 rfl I7 (A0 rfl) (by rw [tmod10T]; omega)) ?_;refine C1 rfl rfl (Af5 rfl E3 AL3 (A0 rfl)) ?_;rw [dig2];refine R1 ?_;refine C1 rfl rfl (Cf6 (bs := [UInt8.ofNat (48 + n % 10)]) rfl AB8 AL3 M2 (A0 rfl)) ?_;refine C1 rfl rfl (Bb7 rfl (A0 rfl) (A0 rfl) Bv0) ?_;refine R3 ?_;exact E5 rfl (A7 rfl qz170)
theorem Cw9 (b : UInt8) (r : Str) : Av2 (b :: r) = (!within ((b :: r).length : Nat) 1 6 || (((b.toNat : Int) == 48) && decide ((1 : Int) < ((b :: r).length : Nat)))) := by
  unfold Av2;have : (b == 48) = ((b.toNat : Int) == 48) := by
    by_cases h : b = 48
    · subst h; rfl
    · have h2 : b.toNat ≠ 48 := fun e => h (UInt8.toNat_inj.1 e)
      have h3 : (b == 48) = false := by simpa using h
      rw [h3]; symm; simp; omega
  simp [this]
theorem dig_val9 {x : UInt8} (h : 48 ≤ x.toNat ∧ x.toNat ≤ 57) : IntKind.i64.wrap (IntKind.u8.wrap ((x.toNat : Int) - 48)) = ((x.toNat - 48 : Nat) : Int) := by
  have e : IntKind.u8.wrap ((x.toNat : Int) - 48) = ((x.toNat - 48 : Nat) : Int) := by
    simp [IntKind.wrap, IntKind.bits, IntKind.signed]; omega
  rw [e, Am1 qz8]
theorem rd_next9 {n i : Nat} {s : Str} {x : UInt8} (hx : s[i]? = some x) (h : 48 ≤ x.toNat ∧ x.toNat ≤ 57) : V9 n (s.drop i) = V9 (10 * n + (x.toNat - 48)) (s.drop (i + 1)) := by
  have hlt := (F4.1 hx).1;rw [List.drop_eq_getElem_cons hlt, (F4.1 hx).2];conv => lhs; unfold V9
  rw [D1 (by unfold At2; simp; omega)]
theorem rd_stop9 {n i : Nat} {s : Str} {x : UInt8} (hx : s[i]? = some x) (h : x.toNat < 48 ∨ 57 < x.toNat) : V9 n (s.drop i) = -1 := by
  have hlt := (F4.1 hx).1;rw [List.drop_eq_getElem_cons hlt, (F4.1 hx).2];conv => lhs; unfold V9
  rw [D4 (by unfold At2; simp; omega)]
theorem pow69 {i : Nat} (h : i ≤ 6) : 10 ^ i ≤ 1000000 := Nat.pow_le_pow_right D5 h
theorem pow_nx9 {n i d : Nat} (h : n + 1 ≤ 10 ^ i) (hd : d ≤ 9) : (10 * n + d) + 1 ≤ 10 ^ (i + 1) := by rw [Nat.pow_succ]; omega
theorem Cd6 : F6 157 [AV.str []] (AV.int (l1R [])) := by
 refine B8 Tryz.func157 rfl Tryz.ntmps157 rfl ?_;refine R9 ?_;refine A1 rfl (A9 rfl Tryz.call60 rfl (Q3 _ _ _) Aa2) ?_;refine R3 ?_;refine W9 rfl (fun hc => (show OpW _ _ _ _ _ _ (AV.byte 0) from (by exfalso; revert hc; decide))) ?_;refine R8 ?_;refine A2 ?_ ?_
 ·intro h18;refine R5 ?_;exact E5 rfl (A7 rfl B7)
 intro h18;exfalso; revert h18; decide
theorem CW0 (b : UInt8) (r : Str) (hs : (b :: r).length ≤ 1048576) : F6 157 [AV.str (b :: r)] (AV.int (l1R (b :: r))) := by
 have hb0 : (b :: r)[0]? = some b := rfl;obtain ⟨s, hse⟩ : ∃ s, b :: r = s := ⟨_, rfl⟩;have hbad := Cw9 b r;rw [hse] at hs hb0 hbad ⊢;refine B8 Tryz.func157 rfl Tryz.ntmps157 rfl ?_;refine R9 ?_;refine A1 rfl (A9 rfl Tryz.call60 rfl (Q3 _ _ _) Aa2) ?_;refine R3 ?_;refine W9 rfl (fun hc => AT5 rfl M2 (A8 rfl hc) I7 (by have := (F4.1 hb0).1; omega) hb0) ?_;refine R8 ?_;refine A2 ?_ ?_
 ·intro h18;have he : l1R s = -1 := D1 (by rw [hbad]; exact h18);rw [he];refine R5 ?_;exact E5 rfl (A7 rfl B7)
 intro h18;have he : l1R s = V9 0 s := D4 (by rw [hbad, h18]; decide);rw [he];have hl6 : s.length ≤ 6 := (by simp only [AL2, Ae3] at h18; have h9 := h18.1; unfold within at h9; simp at h9; omega);refine R11 ?_;refine K3 [(0, _)] _ (fun (i : Nat) (n : Nat) => i ≤ s.length ∧ V9 0 s = V9 n (s.drop i) ∧ n + 1 ≤ 10 ^ i) (fun i n => []) (fun i n => [(3, AV.int n), (4, AV.int i)]) (fun i n => s.length - i) (0) (0) ?_ (F5 A5) ?_
 ·exact ⟨D6 _, rfl, by decide⟩
 intro i n hinv;have hp6 := pow69 (i := i) qz8;refine R8 ?_;refine A2 ?_ ?_
 ·intro h22;have k22 := C6 h22;obtain ⟨x, hx⟩ := B3 (show i < s.length by omega);refine R8 ?_;refine A1 rfl (AT5 rfl M2 (A0 rfl) (A0 rfl) qz8 hx) ?_;refine R4 ?_;refine W9 rfl (fun hc => AT5 rfl M2 (A8 rfl hc) (A8 rfl hc) qz8 hx) ?_;refine R3 ?_;refine A2 ?_ ?_
  ·intro h34;have hst := rd_stop9 (n := n) hx (by simp only [AD7, I4] at h34; omega);rw [hinv.2.1, hst];refine R5 ?_;exact E5 rfl (A7 rfl B7)
  intro h34;have hdig : 48 ≤ x.toNat ∧ x.toNat ≤ 57 := (by simp only [AL2, AP0] at h34; omega);refine R3 ?_;refine A1 rfl (At6 rfl I7 (A0 rfl) qz3) ?_;refine R2 ?_;refine A1 rfl (AT5 rfl M2 (A0 rfl) (A0 rfl) qz8 hx) ?_;refine A1 rfl (w_sub rfl (A0 rfl) I7) ?_;refine A1 rfl (Af5 rfl E3 i6 (A0 rfl)) ?_;rw [dig_val9 hdig];refine R8 ?_;refine G8 i n (i + 1) (10 * n + (x.toNat - 48)) ?_ ?_ (F5 ⟨D7 (fun z => some (AV.int z)) qz8, rfl, rfl, trivial⟩)
  ·exact ⟨by omega, hinv.2.1.trans (rd_next9 hx hdig), pow_nx9 hinv.2.2 qz8⟩
  omega
 intro h22;have k22 := C2 h22;have hend : V9 0 s = (n : Int) := (by rw [hinv.2.1, List.drop_of_length_le qz8]; rfl);rw [hend];refine R7 ?_;exact E5 rfl (A7 rfl B7)
theorem BY8 (s : Str) (hs : s.length ≤ 1048576) : F6 157 [AV.str s] (AV.int (l1R s)) := by
  cases s with
  | nil => exact Cd6
  | cons b r => exact CW0 b r hs
theorem CW1 (s : Str) : -1 ≤ l1R s := by
  have h : ∀ (s : Str) (n : Nat), -1 ≤ V9 n s := by
    intro s;induction s with
    | nil => intro n; unfold V9; omega
    | cons b s ih => intro n; unfold V9; split; exact ih _; omega
  unfold l1R; split
  · omega
  · exact h s 0
theorem rd_up9 : ∀ (s : Str) (n k : Nat), n + 1 ≤ 10 ^ k → V9 n s + 1 ≤ 10 ^ (k + s.length)
  | [], n, k, h => by
    have : ((n + 1 : Nat) : Int) ≤ ((10 ^ k : Nat) : Int) := Int.ofNat_le.2 h;simp only [V9, P6, Nat.add_zero]
    push_cast at this ⊢; exact this
  | b :: s, n, k, h => by
    unfold V9;split
    · rename_i hd
      have h2 : b.toNat - 48 ≤ 9 := by unfold At2 at hd; simp at hd; omega
      have := rd_up9 s (10 * n + (b.toNat - 48)) (k + 1) (by rw [Nat.pow_succ]; omega);rw [H1, show k + (s.length + 1) = k + 1 + s.length by omega]; exact this
    · have : (0 : Int) ≤ 10 ^ (k + (b :: s).length) := Int.pow_nonneg D5
      omega
theorem Ci0 (s : Str) : l1R s ≤ 999999 := by
  unfold l1R; split
  · omega
  · rename_i h
    have hl : s.length ≤ 6 := by
      unfold Av2 within at h
      simp only [AD7, not_or] at h;have := h.1; simp at this; omega
    have h1 := rd_up9 s 0 0 D5;have h2 : (10 : Int) ^ (0 + s.length) ≤ 10 ^ 6 := by
      have := Nat.pow_le_pow_right (n := 10) D5 (show 0 + s.length ≤ 6 by omega)
      exact_mod_cast this
    omega
theorem BH5 (s : Str) (hs : s.length ≤ 1048576) : F6 133 [AV.str s] (AV.tup [AV.int (l5N s).1, AV.bool (l5N s).2]) := by
 have hlo1 := CW1 s;have hlo2 := CW1 (s.drop 1);have hup1 := Ci0 s;have hup2 := Ci0 (s.drop 1);have hd1 : (s.drop 1).length ≤ 1048576 := by rw [w4]; omega
 obtain ⟨b0, hb0⟩ := Ap6 s 0;have hneg : (decide ((0 : Int) < (s.length : Int)) && ((b0.toNat : Int) == 45)) = decide (s.head? = some 45) := by
  cases s with
  | nil => rfl
  | cons c r =>
   have e := hb0 Y2;simp at e; subst e;rw [AP2];simp only [H1, F0, I4, e8, List.head?_cons, Option.some.injEq];constructor
   ·intro h; exact UInt8.toNat_inj.1 (by have := h.2; simp; omega)
   intro h; subst h; exact ⟨by omega, rfl⟩
 refine B8 Tryz.func133 rfl Tryz.ntmps133 rfl ?_;refine R12 ?_;refine N4 rfl (fun hc => AT5 rfl M2 (A8 rfl hc) I7 qz8 (hb0 BL6)) ?_;refine R5 ?_;rw [hneg];refine R9 ?_;refine A2 ?_ ?_
 ·intro h16;have hh : s.head? = some 45 := AA2 h16;have hbody : (if s.head? = some 45 then s.drop 1 else s) = s.drop 1 := D1 hh;have hl1 : 1 ≤ s.length := by (cases s with | nil => cases hh | cons c r => simp)
  refine R2 ?_;refine A1 rfl (w_ssl_lo rfl M2 (A0 rfl) I7 qz3 qz3) ?_;refine R5 ?_;refine A1 rfl (A9 rfl Tryz.call157 rfl (BY8 _ (by first | exact hs | exact hd1)) (A3 (A0 rfl) B2)) ?_;refine R15 ?_;refine A2 ?_ ?_
  ·intro h29;have he : l5N s = (0, false) := by (unfold l5N; rw [hbody]; exact D1 h29)
   rw [he];refine R6 ?_;exact X5 rfl D5 (H7 (A7 rfl Av4) (H7 (A7 rfl Av4) l9))
  intro h29;have he : l5N s = if s.head? = some 45 then (-(l1R (s.drop 1)), true) else (l1R s, true) := by (unfold l5N; rw [hbody]; exact D4 (fun e => Bool.noConfusion (e.symm.trans h29)))
  rw [he];refine R6 ?_;refine A2 ?_ ?_
  ·intro h30;rw [D1 (AA2 h30)];refine R3 ?_;refine A1 rfl (w_neg rfl (A0 rfl)) ?_;refine R4 ?_;exact X5 rfl D5 (H7 (A7 rfl Av4) (H7 (A7 rfl Av4) l9))
  intro h30;rw [D4 (Ay0 h30)];refine R8 ?_;exact X5 rfl D5 (H7 (A7 rfl Av4) (H7 (A7 rfl Av4) l9))
 intro h16;have hh : ¬ s.head? = some 45 := Ay0 h16;have hbody : (if s.head? = some 45 then s.drop 1 else s) = s := D4 hh;refine R4 ?_;refine A1 rfl (A9 rfl Tryz.call157 rfl (BY8 _ (by first | exact hs | exact hd1)) (A3 (A0 rfl) B2)) ?_;refine R15 ?_;refine A2 ?_ ?_
 ·intro h29;have he : l5N s = (0, false) := by (unfold l5N; rw [hbody]; exact D1 h29)
  rw [he];refine R6 ?_;exact X5 rfl D5 (H7 (A7 rfl Av4) (H7 (A7 rfl Av4) l9))
 intro h29;have he : l5N s = if s.head? = some 45 then (-(l1R (s.drop 1)), true) else (l1R s, true) := by (unfold l5N; rw [hbody]; exact D4 (fun e => Bool.noConfusion (e.symm.trans h29)))
 rw [he];refine R6 ?_;refine A2 ?_ ?_
 ·intro h30;rw [D1 (AA2 h30)];refine R3 ?_;refine A1 rfl (w_neg rfl (A0 rfl)) ?_;refine R4 ?_;exact X5 rfl D5 (H7 (A7 rfl Av4) (H7 (A7 rfl Av4) l9))
 intro h30;rw [D4 (Ay0 h30)];refine R8 ?_;exact X5 rfl D5 (H7 (A7 rfl Av4) (H7 (A7 rfl Av4) l9))
theorem Co3 (o : TOp) (hs : o.size ≤ 1048576) : F6 162 [AV.agg o.cs] (AV.bool (Ba3 o)) := by
 have hs' := hs; unfold TOp.size at hs';refine B8 Tryz.func162 rfl Tryz.ntmps162 rfl ?_;refine R3 ?_;intro b1;refine R7 ?_;refine A1 rfl (A9 rfl Tryz.call95 rfl (AW6 _ qz8) (A3 (A0 rfl) B2)) ?_;refine R2 ?_;refine A2 ?_ ?_
 ·intro h6;refine R5 ?_;exact E5 rfl (A7 rfl Az7)
 intro h6;refine R14 ?_;refine A2 ?_ ?_
 ·intro h9;have k9 := K6 h9;(try simp only [A6] at k9);refine R1 ?_;refine A2 ?_ ?_
  ·intro h9;have k9 := K6 h9;(try simp only [A6] at k9);refine R4 ?_;refine A1 rfl (A9 rfl Tryz.call96 rfl (Ax3 _ qz8) (A3 (A0 rfl) B2)) ?_;refine R8 ?_;exact E5 rfl (A7 rfl Az7)
  intro h9;have k9 := J4 h9;(try simp only [A6] at k9);refine R6 ?_;refine A2 ?_ ?_
  ·intro h20;have k20 := K6 h20;(try simp only [A6] at k20);refine R1 ?_;refine A2 ?_ ?_
   ·intro h20;have k20 := K6 h20;(try simp only [A6] at k20);refine R4 ?_;refine A1 rfl (Af6 rfl (A0 rfl) (N9 (l := []) rfl)) ?_;refine R3 ?_;refine N4 rfl (fun hc => A9 rfl Tryz.call60 rfl (Q3 _ _ _) (A3 (A8 rfl hc) Ah1)) ?_;refine R4 ?_;exact E5 rfl (A7 rfl Az7)
   intro h20;have k20 := J4 h20;(try simp only [A6] at k20);refine R19 ?_;refine N4 rfl (fun hc => Af6 rfl (A8 rfl hc) (N9 (l := []) rfl)) ?_;refine R9 ?_;exact E5 rfl (A7 rfl Az7)
  intro h20;have k20 := J4 h20;(try simp only [A6] at k20);refine R4 ?_;refine A2 ?_ ?_
  ·intro h20;have k20 := K6 h20;(try simp only [A6] at k20);refine R4 ?_;refine A1 rfl (Af6 rfl (A0 rfl) (N9 (l := []) rfl)) ?_;refine R3 ?_;refine N4 rfl (fun hc => A9 rfl Tryz.call60 rfl (Q3 _ _ _) (A3 (A8 rfl hc) Ah1)) ?_;refine R4 ?_;exact E5 rfl (A7 rfl Az7)
  intro h20;have k20 := J4 h20;(try simp only [A6] at k20);refine R19 ?_;refine N4 rfl (fun hc => Af6 rfl (A8 rfl hc) (N9 (l := []) rfl)) ?_;refine R9 ?_;exact E5 rfl (A7 rfl Az7)
 intro h9;have k9 := J4 h9;(try simp only [A6] at k9);refine R4 ?_;refine A2 ?_ ?_
 ·intro h9;have k9 := K6 h9;(try simp only [A6] at k9);refine R4 ?_;refine A1 rfl (A9 rfl Tryz.call96 rfl (Ax3 _ qz8) (A3 (A0 rfl) B2)) ?_;refine R8 ?_;exact E5 rfl (A7 rfl Az7)
 intro h9;have k9 := J4 h9;(try simp only [A6] at k9);refine R6 ?_;refine A2 ?_ ?_
 ·intro h20;have k20 := K6 h20;(try simp only [A6] at k20);refine R1 ?_;refine A2 ?_ ?_
  ·intro h20;have k20 := K6 h20;(try simp only [A6] at k20);refine R4 ?_;refine A1 rfl (Af6 rfl (A0 rfl) (N9 (l := []) rfl)) ?_;refine R3 ?_;refine N4 rfl (fun hc => A9 rfl Tryz.call60 rfl (Q3 _ _ _) (A3 (A8 rfl hc) Ah1)) ?_;refine R4 ?_;exact E5 rfl (A7 rfl Az7)
  intro h20;have k20 := J4 h20;(try simp only [A6] at k20);refine R19 ?_;refine N4 rfl (fun hc => Af6 rfl (A8 rfl hc) (N9 (l := []) rfl)) ?_;refine R9 ?_;exact E5 rfl (A7 rfl Az7)
 intro h20;have k20 := J4 h20;(try simp only [A6] at k20);refine R4 ?_;refine A2 ?_ ?_
 ·intro h20;have k20 := K6 h20;(try simp only [A6] at k20);refine R4 ?_;refine A1 rfl (Af6 rfl (A0 rfl) (N9 (l := []) rfl)) ?_;refine R3 ?_;refine N4 rfl (fun hc => A9 rfl Tryz.call60 rfl (Q3 _ _ _) (A3 (A8 rfl hc) Ah1)) ?_;refine R4 ?_;exact E5 rfl (A7 rfl Az7)
 intro h20;have k20 := J4 h20;(try simp only [A6] at k20);refine R19 ?_;refine N4 rfl (fun hc => Af6 rfl (A8 rfl hc) (N9 (l := []) rfl)) ?_;refine R9 ?_;exact E5 rfl (A7 rfl Az7)
theorem CW2 (l : List TOp) (hs : D2 TOp.size l ≤ 1048576) : F6 146 [AV.list 4 (l.map TOp.cs)] (AV.bool (Ao7 l)) := by
 refine B8 Tryz.func146 rfl Tryz.ntmps146 rfl ?_;refine W4 (t := 0) rfl fun hl => ?_;try simp only [A6] at hl
 refine R12 ?_;refine E9 [(0, _), (5, _), (6, _)] _ (fun (i : Nat) => i ≤ l.length ∧ l.all Ba3 = (l.drop i).all Ba3) (fun i => []) (fun i => [(7, AV.int i)]) (fun i => l.length - i) (0) ?_ (F5 A5) ?_
 ·exact ⟨D6 _, rfl⟩
 intro i hinv;refine R5 ?_;refine A2 ?_ ?_
 ·intro h8;have k8 := C6 h8;have hlt : i < l.length := by omega
  obtain ⟨x, hx⟩ := B3 hlt;have hsx : x.size ≤ 1048576 := L4 (m6 hx) hs;refine R5 ?_;refine A1 rfl (C7 rfl T5 W8 (A0 rfl) (A0 rfl) hx qz3) ?_;refine R2 ?_;intro b4;refine R5 ?_;refine A1 rfl (A9 rfl Tryz.call162 rfl (Co3 _ q7) (A3 (A0 rfl) B2)) ?_;refine R2 ?_;refine A2 ?_ ?_
  ·intro h13;have hno : Ao7 l = false := by (unfold Ao7; rw [hinv.2, J2 hx, w5]; simp_all)
   rw [hno];refine R5 ?_;exact E5 rfl (A7 rfl (by first | rfl | exact D7 AV.bool (by unfold Ao7; rw [hall]; simp)))
  intro h13;refine R5 ?_;refine F7 i (i + 1) ?_ ?_ (Q1 1 A5)
  ·exact ⟨by omega, by rw [hinv.2, J2 hx, w5]; simp_all⟩
  omega
 intro h8;have k8 := C2 h8;have hge : l.length ≤ i := by omega
 have hall : l.all Ba3 = true := by (rw [hinv.2, l6 hge]; rfl)
 refine R9 ?_;exact E5 rfl (A7 rfl (by first | rfl | exact D7 AV.bool (by unfold Ao7; rw [hall]; simp)))
end Go.PQ
namespace Go.PQ
open Go.Proofs
open Go Go.AV Go.M
attribute [local irreducible] OpW OpA OpS AWP J3 K8 K0 OpE J6 H5 J9 Le Ev F8 L6 Z8 Int.tmod Int.tdiv IntKind.wrap Q7
theorem CW3 (l : List Str) (hs : ∀ k ∈ l, k.length ≤ 4611686018427387904) : F6 145 [strs l] (AV.bool (Ar3 l)) := by
 refine B8 Tryz.func145 rfl Tryz.ntmps145 rfl ?_;refine W4 (t := 0) rfl fun hl => ?_;try simp only [A6] at hl
 refine R12 ?_;refine E9 [(0, _), (5, _), (6, _)] _ (fun (i : Nat) => i ≤ l.length ∧ (l.all m7 && adj Op.bytesLess l) = ((l.drop i).all m7 && adj Op.bytesLess (l.drop (i - 1)))) (fun i => []) (fun i => [(7, AV.int i)]) (fun i => l.length - i) (0) ?_ (F5 A5) ?_
 ·exact ⟨D6 _, rfl⟩
 intro i hinv;refine R5 ?_;refine A2 ?_ ?_
 ·intro h8;have k8 := C6 h8;have hlt : i < l.length := by omega
  obtain ⟨x, hx⟩ := B3 hlt;obtain ⟨y, hy⟩ := B3 (show i - 1 < l.length by omega);have hsx := hs x (C3 hx);refine R6 ?_;refine A1 rfl (AW0 rfl G9 M4 (A0 rfl) (A0 rfl) qz8 qz173) ?_;refine R7 ?_;refine A1 rfl (A9 rfl Tryz.call95 rfl (AW6 _ qz8) (A3 (A0 rfl) B2)) ?_;refine R8 ?_;refine AE8 rfl rfl (i7 rfl rfl rfl) (fun hc => AW0 rfl G9 M4 (A8 rfl hc) (A8 rfl hc) (by have := AA2 (Bb6 hc); omega) qz96) ?_;refine R2 ?_;refine AE8 rfl rfl (i7 rfl rfl rfl) (fun hc => BU5 rfl (A8 rfl hc) (A8 rfl hc)) ?_;refine R3 ?_;refine A2 ?_ ?_
  ·intro h27;have hfin : (l.all m7 && adj Op.bytesLess l) = false := by rw [hinv.2, J2 hx, w5]; cases hg : m7 x with | false => simp | true => (simp only [hg, Bool.not_true, Bool.false_or, F0, I4, l7] at h27; rw [Ai9 hx hy qz8 h27.2]; simp)
   refine R5 ?_;exact E5 rfl (A7 rfl qz131)
  intro h27;refine R5 ?_;refine F7 i (i + 1) ?_ ?_ (F5 A5)
  ·exact ⟨by omega, by rw [hinv.2, J2 hx, w5, Ai8 hx hy (fun h0 => by simp_all), show m7 x = true by simp_all]; simp⟩
  omega
 intro h8;have k8 := C2 h8;have hge : l.length ≤ i := by omega
 refine R9 ?_;exact E5 rfl (A7 rfl qz131)
theorem Ac4 (l : List Str) (k : Str) : F6 156 [strs l, AV.str k] (AV.int (u6 l k)) := by
 refine B8 Tryz.func156 rfl Tryz.ntmps156 rfl ?_;refine W4 (t := 0) rfl fun hl => ?_;try simp only [A6] at hl
 refine R10 ?_;refine E9 [(0, _), (1, _), (4, _)] _ (fun (i : Nat) => i ≤ u6 l k) (fun i => []) (fun i => [(5, AV.int i)]) (fun i => l.length - i) (0) ?_ (F5 A5) ?_
 ·exact D6 _
 intro i hinv;refine R10 ?_;refine N4 rfl (fun hc => AW0 rfl G9 M4 (A8 rfl hc) (A8 rfl hc) qz8 (getD_row (by have h9 := AA2 hc; simp only [A6] at h9; omega))) ?_;refine R2 ?_;refine N4 rfl (fun hc => w_sleq rfl (A8 rfl hc) (A8 rfl hc)) ?_;refine R2 ?_;refine A2 ?_ ?_
 ·intro h17;have h17m : (decide ((i : Int) < (l.length : Int)) && leS (l.getD i []) k) = true := by (have h9 := h17; rw [A6] at h9; exact h9)
  have hlt := (CE9 hinv h17m).1;refine R7 ?_;refine Ab1 ?_;refine F7 i (i + 1) ?_ ?_ (F5 A5)
  ·exact (CE9 hinv h17m).2
  omega
 intro h17;have h17m : (decide ((i : Int) < (l.length : Int)) && leS (l.getD i []) k) = false := by (have h9 := h17; rw [A6] at h9; exact h9)
 rw [Cv8 hinv h17m];refine R7 ?_;exact E5 rfl (A7 rfl B7)
end Go.PQ
namespace Go.PQ
open Go.Proofs
open Go Go.AV Go.M
attribute [local irreducible] OpW OpA OpS AWP J3 K8 K0 OpE J6 H5 J9 Le Ev F8 L6
namespace tw4n1
def tw4x0 := @Bq6
end tw4n1
open tw4n1 in
theorem Co4 (l : List Int) (n : Int) (hl : l.length ≤ 4194303) : F6 155 [ints l, AV.int n] (ints (AH1 l n)) := Ch9
end Go.PQ
namespace Go.PQ
open Go.Proofs
open Go Go.AV Go.M
attribute [local irreducible] OpW OpA OpS AWP J3 K8 K0 OpE J6 H5 J9 Le Ev F8 L6 Z8
theorem BS8 (r : List Str) (w : List A4) (hr : r.length ≤ 400000) (hw : w.length ≤ 400000) : F6 130 [strs r, AV.list 3 (w.map A4.cs)] (strs (Ai2 (r ++ U0 w))) := by
  rw [CC0];exact N7 (CT7 r w hr hw) fun v _ => M1 (V8.2 rfl) G6
theorem BS9 (l ks : List Str) (hk : ks.length ≤ 1000000) : F6 129 [strs l, strs ks] (ints (Ao9 l ks)) := by
 refine B8 Tryz.func129 rfl Tryz.ntmps129 rfl ?_;refine R2 ?_;refine A1 rfl (D8 rfl (O2 (sz := 1))) ?_;refine R3 ?_;refine A1 rfl (D8 rfl (O2 (sz := 1))) ?_;refine R9 ?_;refine E9 [(0, _), (4, _), (8, _), (9, _)] _ (fun (i : Nat) => i ≤ ks.length) (fun i => []) (fun i => [(5, ints (Ao9 l (ks.take i))), (10, AV.int i)]) (fun i => ks.length - i) (0) ?_ (F5 A5) ?_
 ·exact D6 _
 intro i hinv;refine R5 ?_;refine A2 ?_ ?_
 ·intro h11;have k11 := C6 h11;have hlt : i < ks.length := by omega
  obtain ⟨x, hx⟩ := B3 hlt;have hle := Bq7 l (ks.take i);rw [I5] at hle;refine R5 ?_;refine A1 rfl (C7 rfl G9 M4 (A0 rfl) (A0 rfl) hx qz3) ?_;refine R7 ?_;refine A1 rfl (A9 rfl Tryz.call156 rfl (Ac4 _ _) E4) ?_;refine A1 rfl (A9 rfl Tryz.call155 rfl (Co4 _ _ qz8) (A3 (A0 rfl) (A3 (A0 rfl) B2))) ?_;refine R6 ?_;refine F7 i (i + 1) ?_ ?_ (F5 ⟨(D7 (fun z => some (ints z)) (Cc4 hx).symm), rfl, rfl, rfl, rfl, rfl, trivial⟩)
  ·exact qz8
  omega
 intro h11;have k11 := C2 h11;have hge : ks.length ≤ i := by omega
 rw [U1 hge];refine R7 ?_;exact E5 rfl (A7 rfl B7)
end Go.PQ
namespace Go.PQ
open Go.Proofs
open Go Go.AV Go.M
attribute [local irreducible] OpW OpA OpS AWP J3 K8 K0 OpE J6 H5 J9 Le Ev F8 L6 Z8 Int.tmod IntKind.wrap Q7
end Go.PQ
namespace Go.PQ
open Go.Proofs
open Go Go.AV Go.M
attribute [local irreducible] OpW OpA OpS AWP J3 K8 K0 OpE J6 H5 J9 Le Ev F8 L6 Z8 Int.tmod IntKind.wrap Q7
end Go.PQ
namespace Go.PQ
open Go.Proofs
open Go Go.AV Go.M
attribute [local irreducible] OpW OpA OpS AWP J3 K8 K0 OpE J6 H5 J9 Le Ev F8 L6 Z8 Int.tmod IntKind.wrap Q7
end Go.PQ
namespace Go.PQ
open Go.Proofs
open Go Go.AV Go.M
attribute [local irreducible] OpW OpA OpS AWP J3 K8 K0 OpE J6 H5 J9 Le Ev F8 L6 Z8 Int.tmod IntKind.wrap Q7
end Go.PQ
namespace Go.PQ
open Go.Proofs
open Go Go.AV Go.M
attribute [local irreducible] OpW OpA OpS AWP J3 K8 K0 OpE J6 H5 J9 Le Ev F8 L6 Int.tmod IntKind.wrap Q7
theorem Br2 (b : Nat) (code : List Int) (hcode : q6 code) (c : V2) (l : List Str) (hl : 1 ≤ l.length ∧ l.length ≤ 1000) (hp : c.p ≤ 7000000) : M7 110 [AV.ptr b 0, strs l] [.box b 62 (U4 code c)] (fun x : V2 × Str => x.1.p ≤ c.p + 2 ∧ x.2 ∈ l) (fun x => [.box b 62 (U4 code x.1)]) (fun x => AV.str x.2) := by
  obtain ⟨hl1, hl2⟩ := hl;refine C5 Tryz.func110 rfl Tryz.ntmps110 rfl ?_;refine R2 ?_;refine A1 rfl (D8 rfl (N9 (l := []) rfl)) ?_;refine R7 ?_;refine E6 [0] rfl rfl rfl rfl Tryz.call59 rfl (O4 _ _ hcode _ _ AG1 qz8) (A3 (A0 rfl) (A3 (A0 rfl) B2)) rfl ?_;intro x9 ok9;simp only [A6] at ok9;obtain ⟨y, hy⟩ := B3 (show x9.2.toNat < l.length by omega);refine A1 rfl (C7 rfl G9 M4 (A0 rfl) (A0 rfl) hy qz8) ?_;refine R4 ?_
  (refine I2 [0] ((_, _)) ?_ rfl j8 K5; exact ⟨ok9.1, C3 hy⟩)
theorem Bh1 (b : Nat) (code : List Int) (hcode : q6 code) (c : V2) (hp : c.p ≤ 6000000) : M7 135 [AV.ptr b 0] [.box b 62 (U4 code c)] (fun x : V2 × Str => x.1.p ≤ c.p + 2 ∧ x.2 ∈ AA7) (fun x => [.box b 62 (U4 code x.1)]) (fun x => AV.str x.2) := by
  refine C5 Tryz.func135 rfl Tryz.ntmps135 rfl ?_;refine R2 ?_;refine A1 rfl (D8 rfl (N9 (l := []) rfl)) ?_;refine R4 ?_;refine A1 rfl (Ai4 rfl G9 M4 Tryz.zeroValue9 rfl rfl rfl rfl (E1 (N9 (l := [97]) rfl) (a8 _) (E1 (N9 (l := [98]) rfl) (a8 _) (E1 (N9 (l := [99]) rfl) (a8 _) (E1 (N9 (l := [109]) rfl) (a8 _) (E1 (N9 (l := [110]) rfl) (a8 _) (E1 (N9 (l := [122]) rfl) (a8 _) (E1 (N9 (l := [114, 47, 49]) rfl) (a8 _) (E1 (N9 (l := [105, 47, 120, 47, 49]) rfl) (a8 _) X0)))))))) rfl rfl) ?_;refine E6 [0] rfl rfl rfl rfl Tryz.call110 rfl (Br2 _ _ hcode _ AA7 D5 qz8) (A3 (A0 rfl) (A3 (A0 rfl) B2)) rfl ?_;intro x5 ok5;refine R3 ?_
  (refine I2 [0] ((_, _)) ?_ rfl j8 K5; exact ok5)
theorem Bh2 (b : Nat) (code : List Int) (hcode : q6 code) (c : V2) (hp : c.p ≤ 6000000) : M7 84 [AV.ptr b 0] [.box b 62 (U4 code c)] (fun x : V2 × Str => x.1.p ≤ c.p + 2 ∧ x.2 ∈ valD) (fun x => [.box b 62 (U4 code x.1)]) (fun x => AV.str x.2) := by
  refine C5 Tryz.func84 rfl Tryz.ntmps84 rfl ?_;refine R2 ?_;refine A1 rfl (D8 rfl (N9 (l := []) rfl)) ?_;refine R4 ?_;refine A1 rfl (Ai4 rfl G9 M4 Tryz.zeroValue9 rfl rfl rfl rfl (E1 (N9 (l := []) rfl) (a8 _) (E1 (N9 (l := [49]) rfl) (a8 _) (E1 (N9 (l := [55]) rfl) (a8 _) (E1 (N9 (l := [49, 48]) rfl) (a8 _) (E1 (N9 (l := [45, 51]) rfl) (a8 _) (E1 (N9 (l := [120]) rfl) (a8 _) (E1 (N9 (l := [97, 44, 98, 95, 99]) rfl) (a8 _) X0))))))) rfl rfl) ?_;refine E6 [0] rfl rfl rfl rfl Tryz.call110 rfl (Br2 _ _ hcode _ valD D5 qz8) (A3 (A0 rfl) (A3 (A0 rfl) B2)) rfl ?_;intro x5 ok5;refine R3 ?_
  (refine I2 [0] ((_, _)) ?_ rfl j8 K5; exact ok5)
end Go.PQ
namespace Go.PQ
open Go.Proofs
open Go Go.AV Go.M
attribute [local irreducible] OpW OpA OpS AWP J3 K8 K0 OpE J6 H5 J9 Le Ev F8 L6 Int.tmod Int.tdiv IntKind.wrap Q7
theorem Co5 (b : Nat) (code : List Int) (hcode : q6 code) (c : V2) (hp : c.p ≤ 5000000) : M7 109 [AV.ptr b 0] [.box b 62 (U4 code c)] (fun x : V2 × TOp => x.1.p ≤ c.p + 10 ∧ OpD x.2) (fun x => [.box b 62 (U4 code x.1)]) (fun x => AV.agg x.2.cs) := by
 refine C5 Tryz.func109 rfl Tryz.ntmps109 rfl ?_;refine R3 ?_;intro b2;refine R4 ?_;refine E6 [1] rfl rfl rfl rfl Tryz.call59 rfl (O4 _ _ hcode _ _ qz8 qz8) (A3 (A0 rfl) (A3 I7 B2)) rfl ?_;intro x5 ok5;refine R2 ?_;refine E6 [0] rfl rfl rfl rfl Tryz.call135 rfl (Bh1 _ _ hcode _ qz8) (A3 (A0 rfl) B2) rfl ?_;intro x8 ok8;refine R2 ?_;intro b3;refine R15 ?_;refine A2 ?_ ?_
 ·intro h12;have k12 := K6 h12;(try simp only [A6] at k12);refine R1 ?_;refine A2 ?_ ?_
  ·intro h12;have k12 := K6 h12;(try simp only [A6] at k12);refine R2 ?_;refine E6 [1] rfl rfl rfl rfl Tryz.call84 rfl (Bh2 _ _ hcode _ qz8) (A3 (A0 rfl) B2) rfl ?_;intro x16 ok16;refine R9 ?_
   (refine I2 [0] ((x16.1, ⟨1 + x5.2, x8.2, x16.2, 0⟩)) ?_ rfl j8 (N6 rfl (H8 (ys := _) 2 rfl rfl AB9 W8 rfl)); (dsimp only; first | exact ⟨by omega, AZ0 ⟨by omega, by omega⟩ BG2 ok8.2 ok16.2⟩ | exact ⟨by omega, Ac3 ⟨by omega, by omega⟩ BF9 ok8.2 BG1⟩ | exact ⟨by omega, Ag4 ⟨by omega, by omega⟩ ok8.2⟩))
  intro h12;have k12 := J4 h12;(try simp only [A6] at k12);refine R6 ?_;refine A2 ?_ ?_
  ·intro h18;have k18 := K6 h18;(try simp only [A6] at k18);refine R1 ?_;refine A2 ?_ ?_
   ·intro h18;have k18 := K6 h18;(try simp only [A6] at k18);refine R3 ?_;refine E6 [1] rfl rfl rfl rfl Tryz.call136 rfl (AK4 _ _ hcode _ ([(1), (2), (5), (-3), (0), (100)] : List Int) D5 qz8) (A3 (A0 rfl) (A3 (A0 rfl) B2)) rfl ?_;intro x23 ok23;refine R9 ?_
    (refine I2 [0] ((x23.1, ⟨1 + x5.2, x8.2, [], x23.2⟩)) ?_ rfl j8 (N6 rfl (H8 (ys := _) 2 rfl rfl AB9 W8 rfl)); (dsimp only; first | exact ⟨by omega, AZ0 ⟨by omega, by omega⟩ BG2 ok8.2 ok16.2⟩ | exact ⟨by omega, Ac3 ⟨by omega, by omega⟩ BF9 ok8.2 BG1⟩ | exact ⟨by omega, Ag4 ⟨by omega, by omega⟩ ok8.2⟩))
   intro h18;have k18 := J4 h18;(try simp only [A6] at k18);refine R7 ?_
   (refine I2 [1] ((x8.1, ⟨1 + x5.2, x8.2, [], 0⟩)) ?_ rfl j8 (N6 rfl (H8 (ys := _) 2 rfl rfl AB9 W8 rfl)); (dsimp only; first | exact ⟨by omega, AZ0 ⟨by omega, by omega⟩ BG2 ok8.2 ok16.2⟩ | exact ⟨by omega, Ac3 ⟨by omega, by omega⟩ BF9 ok8.2 BG1⟩ | exact ⟨by omega, Ag4 ⟨by omega, by omega⟩ ok8.2⟩))
  intro h18;have k18 := J4 h18;(try simp only [A6] at k18);refine R4 ?_;refine A2 ?_ ?_
  ·intro h18;have k18 := K6 h18;(try simp only [A6] at k18);refine R3 ?_;refine E6 [1] rfl rfl rfl rfl Tryz.call136 rfl (AK4 _ _ hcode _ ([(1), (2), (5), (-3), (0), (100)] : List Int) D5 qz8) (A3 (A0 rfl) (A3 (A0 rfl) B2)) rfl ?_;intro x23 ok23;refine R9 ?_
   (refine I2 [0] ((x23.1, ⟨1 + x5.2, x8.2, [], x23.2⟩)) ?_ rfl j8 (N6 rfl (H8 (ys := _) 2 rfl rfl AB9 W8 rfl)); (dsimp only; first | exact ⟨by omega, AZ0 ⟨by omega, by omega⟩ BG2 ok8.2 ok16.2⟩ | exact ⟨by omega, Ac3 ⟨by omega, by omega⟩ BF9 ok8.2 BG1⟩ | exact ⟨by omega, Ag4 ⟨by omega, by omega⟩ ok8.2⟩))
  intro h18;have k18 := J4 h18;(try simp only [A6] at k18);refine R7 ?_
  (refine I2 [1] ((x8.1, ⟨1 + x5.2, x8.2, [], 0⟩)) ?_ rfl j8 (N6 rfl (H8 (ys := _) 2 rfl rfl AB9 W8 rfl)); (dsimp only; first | exact ⟨by omega, AZ0 ⟨by omega, by omega⟩ BG2 ok8.2 ok16.2⟩ | exact ⟨by omega, Ac3 ⟨by omega, by omega⟩ BF9 ok8.2 BG1⟩ | exact ⟨by omega, Ag4 ⟨by omega, by omega⟩ ok8.2⟩))
 intro h12;have k12 := J4 h12;(try simp only [A6] at k12);refine R4 ?_;refine A2 ?_ ?_
 ·intro h12;have k12 := K6 h12;(try simp only [A6] at k12);refine R2 ?_;refine E6 [1] rfl rfl rfl rfl Tryz.call84 rfl (Bh2 _ _ hcode _ qz8) (A3 (A0 rfl) B2) rfl ?_;intro x16 ok16;refine R9 ?_
  (refine I2 [0] ((x16.1, ⟨1 + x5.2, x8.2, x16.2, 0⟩)) ?_ rfl j8 (N6 rfl (H8 (ys := _) 2 rfl rfl AB9 W8 rfl)); (dsimp only; first | exact ⟨by omega, AZ0 ⟨by omega, by omega⟩ BG2 ok8.2 ok16.2⟩ | exact ⟨by omega, Ac3 ⟨by omega, by omega⟩ BF9 ok8.2 BG1⟩ | exact ⟨by omega, Ag4 ⟨by omega, by omega⟩ ok8.2⟩))
 intro h12;have k12 := J4 h12;(try simp only [A6] at k12);refine R6 ?_;refine A2 ?_ ?_
 ·intro h18;have k18 := K6 h18;(try simp only [A6] at k18);refine R1 ?_;refine A2 ?_ ?_
  ·intro h18;have k18 := K6 h18;(try simp only [A6] at k18);refine R3 ?_;refine E6 [1] rfl rfl rfl rfl Tryz.call136 rfl (AK4 _ _ hcode _ ([(1), (2), (5), (-3), (0), (100)] : List Int) D5 qz8) (A3 (A0 rfl) (A3 (A0 rfl) B2)) rfl ?_;intro x23 ok23;refine R9 ?_
   (refine I2 [0] ((x23.1, ⟨1 + x5.2, x8.2, [], x23.2⟩)) ?_ rfl j8 (N6 rfl (H8 (ys := _) 2 rfl rfl AB9 W8 rfl)); (dsimp only; first | exact ⟨by omega, AZ0 ⟨by omega, by omega⟩ BG2 ok8.2 ok16.2⟩ | exact ⟨by omega, Ac3 ⟨by omega, by omega⟩ BF9 ok8.2 BG1⟩ | exact ⟨by omega, Ag4 ⟨by omega, by omega⟩ ok8.2⟩))
  intro h18;have k18 := J4 h18;(try simp only [A6] at k18);refine R7 ?_
  (refine I2 [1] ((x8.1, ⟨1 + x5.2, x8.2, [], 0⟩)) ?_ rfl j8 (N6 rfl (H8 (ys := _) 2 rfl rfl AB9 W8 rfl)); (dsimp only; first | exact ⟨by omega, AZ0 ⟨by omega, by omega⟩ BG2 ok8.2 ok16.2⟩ | exact ⟨by omega, Ac3 ⟨by omega, by omega⟩ BF9 ok8.2 BG1⟩ | exact ⟨by omega, Ag4 ⟨by omega, by omega⟩ ok8.2⟩))
 intro h18;have k18 := J4 h18;(try simp only [A6] at k18);refine R4 ?_;refine A2 ?_ ?_
 ·intro h18;have k18 := K6 h18;(try simp only [A6] at k18);refine R3 ?_;refine E6 [1] rfl rfl rfl rfl Tryz.call136 rfl (AK4 _ _ hcode _ ([(1), (2), (5), (-3), (0), (100)] : List Int) D5 qz8) (A3 (A0 rfl) (A3 (A0 rfl) B2)) rfl ?_;intro x23 ok23;refine R9 ?_
  (refine I2 [0] ((x23.1, ⟨1 + x5.2, x8.2, [], x23.2⟩)) ?_ rfl j8 (N6 rfl (H8 (ys := _) 2 rfl rfl AB9 W8 rfl)); (dsimp only; first | exact ⟨by omega, AZ0 ⟨by omega, by omega⟩ BG2 ok8.2 ok16.2⟩ | exact ⟨by omega, Ac3 ⟨by omega, by omega⟩ BF9 ok8.2 BG1⟩ | exact ⟨by omega, Ag4 ⟨by omega, by omega⟩ ok8.2⟩))
 intro h18;have k18 := J4 h18;(try simp only [A6] at k18);refine R7 ?_
 (refine I2 [1] ((x8.1, ⟨1 + x5.2, x8.2, [], 0⟩)) ?_ rfl j8 (N6 rfl (H8 (ys := _) 2 rfl rfl AB9 W8 rfl)); (dsimp only; first | exact ⟨by omega, AZ0 ⟨by omega, by omega⟩ BG2 ok8.2 ok16.2⟩ | exact ⟨by omega, Ac3 ⟨by omega, by omega⟩ BF9 ok8.2 BG1⟩ | exact ⟨by omega, Ag4 ⟨by omega, by omega⟩ ok8.2⟩))
theorem Bh3 (b : Nat) (code : List Int) (hcode : q6 code) (c : V2) (hp : c.p ≤ 4000000) : M7 83 [AV.ptr b 0] [.box b 62 (U4 code c)] (fun x : V2 × List TOp × Value => x.1.p ≤ c.p + 100 ∧ (1 ≤ x.2.1.length ∧ x.2.1.length ≤ 4) ∧ ∀ o ∈ x.2.1, OpD o) (fun x => [.box b 62 (U4 code x.1), .arr x.2.2 145 4 (x.2.1.map TOp.cs)]) (fun x => AV.is x.2.2) := by
 refine C5 Tryz.func83 rfl Tryz.ntmps83 rfl ?_;refine R2 ?_;refine A1 rfl (D8 rfl H3) ?_;refine R3 ?_;refine T6 145 4 rfl rfl rfl rfl H3 ?_;intro v3;refine R5 ?_;refine E6 [1] rfl rfl rfl rfl Tryz.call59 rfl (O4 _ _ hcode _ _ qz8 qz8) (A3 (A0 rfl) (A3 I7 B2)) rfl ?_;intro x7 ok7;obtain ⟨n0, hn0⟩ : ∃ n0 : Nat, x7.2 = n0 := ⟨x7.2.toNat, by omega⟩;refine R4 ?_;refine AWP.le (B9 [0, 0] rfl) ?_;refine AN1 [(0, _), (2, _)] _ (fun (n : Nat) (cc : V2) (l : List TOp) (v : Value) => n + l.length = 1 + n0 ∧ cc.p ≤ c.p + 2 + 14 * l.length ∧ ∀ o ∈ l, OpD o) (fun n cc l v => [.box b 62 (U4 code cc), .arr v 145 4 (l.map TOp.cs)]) (fun n cc l v => [(3, AV.is v), (4, AV.int n)]) (fun n cc l v => n) (1 + n0) (x7.1) ([]) (v3) ?_ (I6 B7 ⟨rfl, D7 (fun z => some (AV.int z)) qz8, rfl, rfl, trivial⟩) ?_
 ·exact ⟨rfl, by simp; omega, fun o h => by cases h⟩
 intro n cc l v hinv;refine R6 ?_;refine A2 ?_ ?_
 ·intro h10;have k10 := C6 h10;have hll : l.length ≤ 4 := by omega
  refine R6 ?_;refine E6 [0] rfl rfl rfl rfl Tryz.call109 rfl (Co5 _ _ hcode _ qz8) (A3 (A0 rfl) B2) rfl ?_;intro x14 ok14;refine R1 ?_;intro b5;refine R20 ?_;refine Ai6 rfl rfl (P8 rfl rfl rfl) ?_ ?_
  ·intro gh30;refine E6 [1] rfl rfl rfl rfl Tryz.call32 rfl (AW7 _ _ hcode _ _ qz8 qz8) (A3 (A8 rfl gh30) (A3 I7 B2)) rfl ?_;intro x30 ok30;refine R3 ?_;refine A2 ?_ ?_
   ·intro h32;refine AWP.le (B9 [1, 1, 0] rfl) ?_;refine P3 _ [(0, false), (1, false), (2, false), (3, true), (4, false)] E3 E3 rfl (S8 2) ?_;refine R3 ?_;refine U2 rfl rfl rfl (S5 [2] rfl Tryz.call59 rfl (O4 _ _ hcode _ _ qz8 qz8) (A3 (A0 rfl) (A3 I7 B2)) rfl) (fun a _ => qz4) ?_;intro x36 ok36;refine R9 ?_;refine H0 (by' := 48) 1 rfl rfl rfl rfl T5 Tryz.type145 rfl rfl rfl rfl rfl rfl (A0 rfl) (A0 rfl) rfl qz3 ?_;intro v42_1;refine R7 ?_;refine u4 n cc l v (n - 1) (x36.1) (l ++ [⟨4, x14.2.Key, [], 1 + x36.2⟩]) (v42_1) ?_ ?_ (Le.trans (B9 [0, 1, 0] rfl) (E8 1 qz75 ⟨rfl, D7 (fun z => some (AV.int z)) qz8, rfl, rfl, trivial⟩))
    ·exact ⟨by rw [G3, H1, P6]; omega, by rw [G3, H1, P6]; omega, fun o ho => (Z7.1 ho).elim (hinv.2.2 o) fun e => by (rw [V8.1 e]; exact Ac3 ⟨by decide, by decide⟩ rfl ok14.2.2.1 ⟨by omega, by omega⟩)⟩
    omega
   intro h32;refine R5 ?_;refine H0 (by' := 48) 2 rfl rfl rfl rfl T5 Tryz.type145 rfl rfl rfl rfl rfl rfl (A0 rfl) (A0 rfl) rfl qz3 ?_;intro v42_2;refine R7 ?_;refine u4 n cc l v (n - 1) (x30.1) (l ++ [x14.2]) (v42_2) ?_ ?_ (Le.trans (B9 [1, 0, 0] rfl) (E8 1 qz75 ⟨rfl, D7 (fun z => some (AV.int z)) qz8, rfl, rfl, trivial⟩))
   ·exact ⟨by rw [G3, H1, P6]; omega, by rw [G3, H1, P6]; omega, fun o ho => (Z7.1 ho).elim (hinv.2.2 o) fun e => by rw [V8.1 e]; exact ok14.2⟩
   omega
  intro gh30;refine Ai6 rfl rfl (P8 rfl rfl rfl) (fun hq => by rw [gh30] at hq; cases hq) (fun _ => ?_);refine A1 rfl (Bm4 rfl (A0 rfl) (BJ0 (x := AV.bool false) gh30)) ?_;refine R1 ?_;refine A2 ?_ ?_
  ·intro h32;refine AWP.le (B9 [0, 1, 0] rfl) ?_;refine P3 _ [(0, false), (1, false), (2, false), (3, true), (4, false)] E3 E3 rfl (S8 2) ?_;refine R3 ?_;refine U2 rfl rfl rfl (S5 [2] rfl Tryz.call59 rfl (O4 _ _ hcode _ _ qz8 qz8) (A3 (A0 rfl) (A3 I7 B2)) rfl) (fun a _ => qz4) ?_;intro x36 ok36;refine R9 ?_;refine H0 (by' := 48) 1 rfl rfl rfl rfl T5 Tryz.type145 rfl rfl rfl rfl rfl rfl (A0 rfl) (A0 rfl) rfl qz3 ?_;intro v42_3;refine R7 ?_;refine u4 n cc l v (n - 1) (x14.1) (l ++ [x14.2]) (v42_3) ?_ ?_ (Le.trans (B9 [0, 1, 0] rfl) (E8 1 qz75 ⟨rfl, D7 (fun z => some (AV.int z)) qz8, rfl, rfl, trivial⟩))
   ·exact ⟨by rw [G3, H1, P6]; omega, by rw [G3, H1, P6]; omega, fun o ho => (Z7.1 ho).elim (hinv.2.2 o) fun e => by rw [V8.1 e]; exact ok14.2⟩
   omega
  intro h32;refine R5 ?_;refine H0 (by' := 48) 2 rfl rfl rfl rfl T5 Tryz.type145 rfl rfl rfl rfl rfl rfl (A0 rfl) (A0 rfl) rfl qz3 ?_;intro v42_4;refine R7 ?_;refine u4 n cc l v (n - 1) (x14.1) (l ++ [x14.2]) (v42_4) ?_ ?_ (Le.trans (B9 [0, 0, 0] rfl) (E8 1 qz75 ⟨rfl, D7 (fun z => some (AV.int z)) qz8, rfl, rfl, trivial⟩))
  ·exact ⟨by rw [G3, H1, P6]; omega, by rw [G3, H1, P6]; omega, fun o ho => (Z7.1 ho).elim (hinv.2.2 o) fun e => by rw [V8.1 e]; exact ok14.2⟩
  omega
 intro h10;have k10 := C2 h10;refine R7 ?_
 (refine I2 [0, 0] ((cc, l, v)) ?_ rfl j8 K5; exact ⟨show cc.p ≤ _ by omega, ⟨show 1 ≤ l.length by omega, show l.length ≤ 4 by omega⟩, hinv.2.2⟩)
end Go.PQ
namespace Go.PQ
open Go.Proofs
open Go Go.AV Go.M
attribute [local irreducible] OpW OpA OpS AWP J3 K8 K0 OpE J6 H5 J9 Le Ev F8 L6
theorem By0 (d : B4) (hs : d.size ≤ 1048576) : F6 40 [AV.agg d.cs] (AV.bool (!r3 d)) := by
  refine B8 Tryz.func40 rfl Tryz.ntmps40 rfl ?_;refine R3 ?_;intro b1;refine R5 ?_;refine A1 rfl (A9 rfl Tryz.call41 rfl (Cd3 _ q7) (A3 (A0 rfl) B2)) ?_;refine R4 ?_;exact E5 rfl (A7 rfl m9)
theorem Aj2 (h : List B4) (hs : ∀ d ∈ h, d.size ≤ 1048576) : F6 19 [AV.list 8 (h.map B4.cs)] (AV.bool (X7 h)) := by
  refine B8 Tryz.func19 rfl Tryz.ntmps19 rfl ?_;refine R11 ?_;refine N4 rfl (fun hc => A9 rfl Tryz.call39 rfl (BJ7 h (fun d => d.size ≤ 1048576) (fun d => !r3 d) hs) (A3 (A8 rfl hc) (A3 (Bw2 Tryz.call40 (fun d (p : d.size ≤ 1048576) => By0 d p)) B2))) ?_;refine R5 ?_;exact E5 rfl (A7 rfl (by exact D7 AV.bool (by unfold X7; rw [hist_all, Bool.not_not, A6])))
theorem An2 (h : List B4) (hs : ∀ d ∈ h, d.size ≤ 1048576) : F6 22 [AV.list 8 (h.map B4.cs)] (AV.bool (X7 h)) := by
 refine B8 Tryz.func22 rfl Tryz.ntmps22 rfl ?_;refine W4 (t := 0) rfl fun hl => ?_;try simp only [A6] at hl
 refine R12 ?_;refine E9 [(0, _), (5, _), (6, _)] _ (fun (i : Nat) => i ≤ h.length ∧ h.all r3 = (h.drop i).all r3) (fun i => []) (fun i => [(7, AV.int i)]) (fun i => h.length - i) (0) ?_ (I6 B7 A5) ?_
 ·exact ⟨D6 _, rfl⟩
 intro i hinv;refine R5 ?_;refine A2 ?_ ?_
 ·intro h8;have k8 := C6 h8;have hlt : i < h.length := by (simpa using h8)
  obtain ⟨x, hx⟩ := B3 hlt;have hxs := hs x (C3 hx);refine R5 ?_;refine A1 rfl (C7 rfl G2 L3 (A0 rfl) (A0 rfl) hx qz3) ?_;refine R2 ?_;intro b4;refine R5 ?_;refine A1 rfl (A9 rfl Tryz.call43 rfl (CV5 _ q7) (A3 (A0 rfl) B2)) ?_;refine R2 ?_;refine A2 ?_ ?_
  ·intro h13;have he : X7 h = false := (by unfold X7; rw [hinv.2, CF2 hx, show r3 x = false by simpa using h13, Bool.false_and, Bool.and_false]);rw [he];refine R5 ?_;exact E5 rfl (A7 rfl qz181)
  intro h13;have hd1 : r3 x = true := (by simpa using h13);refine R5 ?_;refine F7 i (i + 1) ?_ ?_ (Le.trans (B9 [0] rfl) (E8 1 B7 A5))
  ·exact ⟨by omega, by rw [hinv.2, CF2 hx, hd1, Bool.true_and]⟩
  omega
 intro h8;have k8 := C2 h8;have hge : h.length ≤ i := by (simpa using h8)
 have hfin := hinv.2;rw [l6 hge] at hfin;refine R9 ?_;exact E5 rfl (A7 rfl qz181)
theorem Ci1 {p : Prop} (h : p := by
 refine B8 tw5x0 rfl tw5x1 rfl ?_;refine W4 (t := 1) rfl fun hol => ?_;try simp only [A6] at hol
 refine R12 ?_;refine E9 [(0, _), (1, _), (7, _), (8, _)] _ (fun (i : Nat) => i ≤ o.length ∧ At3 (h.length : Int) [] o = At3 (h.length : Int) (o.take i) (o.drop i)) (fun i => []) (fun i => [(9, AV.int i)]) (fun i => o.length - i) (0) ?_ (I6 B7 A5) ?_
 ·exact ⟨D6 _, rfl⟩
 intro i hinv;refine R5 ?_;refine A2 ?_ ?_
 ·intro h10;have k10 := C6 h10;have hlt : i < o.length := by (simpa using h10)
  obtain ⟨x, hx⟩ := B3 hlt;have hst := idx_step (m := (h.length : Int)) hx;refine R6 ?_;refine A1 rfl (C7 rfl C9 D0 (A0 rfl) (A0 rfl) hx qz3) ?_;refine R10 ?_;refine A1 rfl (A9 rfl tw5x2 rfl (tw5x3 _ _ _) BI3) ?_;refine R4 ?_;refine W9 rfl (fun hc => AN2 rfl C9 D0 (A8 rfl hc) (A8 rfl hc) qz6 qz6) ?_;refine R1 ?_;refine W9 rfl (fun hc => A9 rfl tw5x4 rfl (tw5x5 (o.take i) x) (A3 (A8 rfl hc) (A3 (A8 rfl hc) B2))) ?_;refine R2 ?_;refine A2 ?_ ?_
  ·intro h26;have hn : (within x 0 ((h.length : Int) - 1) && !((o.take i).any fun y => x == y)) = false := qz140;have he : AD5 h o = false := (by unfold AD5; rw [hinv.2, hst, hn, Bool.false_and, Bool.false_and]);rw [he];refine R5 ?_;exact E5 rfl (A7 rfl qz180)
  intro h26;have hy : (within x 0 ((h.length : Int) - 1) && !((o.take i).any fun y => x == y)) = true := qz140;refine R5 ?_;refine F7 i (i + 1) ?_ ?_ (I6 B7 A5)
  ·exact ⟨by omega, by rw [hinv.2, hst, hy, Bool.true_and]⟩
  omega
 intro h10;have k10 := C2 h10;have hge : o.length ≤ i := by (simpa using h10)
 have hfin := hinv.2;rw [idx_end hge] at hfin;refine R4 ?_;refine A1 rfl (A9 rfl tw5x6 rfl (tw5x7 _ AQ3) (A3 (A0 rfl) B2)) ?_;refine R3 ?_;exact E5 rfl (A7 rfl qz180)) : p := h
namespace tw5n0
def tw5x0 := @Tryz.func24
def tw5x1 := @Tryz.ntmps24
def tw5x2 := @Tryz.call46
def tw5x3 := @AY9
def tw5x4 := @Tryz.call47
def tw5x5 := @Bk9
def tw5x6 := @Tryz.call19
def tw5x7 := @Aj2
end tw5n0
open tw5n0 in
theorem BK2 (h : List B4) (o : List Int) (hs : ∀ d ∈ h, d.size ≤ 1048576) (hl : h.length ≤ 4611686018427387904) : F6 24 [AV.list 8 (h.map B4.cs), ints o] (AV.bool (AD5 h o)) := Ci1
namespace tw5n1
def tw5x0 := @Tryz.func34
def tw5x1 := @Tryz.ntmps34
def tw5x2 := @Tryz.call60
def tw5x3 := @Q3
def tw5x4 := @Tryz.call61
def tw5x5 := @CF3
def tw5x6 := @Tryz.call22
def tw5x7 := @An2
end tw5n1
open tw5n1 in
theorem BT0 (h : List B4) (o : List Int) (hs : ∀ d ∈ h, d.size ≤ 1048576) (hl : h.length ≤ 4611686018427387904) : F6 34 [AV.list 8 (h.map B4.cs), ints o] (AV.bool (AD5 h o)) := Ci1
theorem Av8 (a b : B4) (hE : -1 ≤ a.End) : F6 65 [AV.agg a.cs, AV.agg b.cs] (AV.bool (Go.M.AF8 a b)) := by
  have he : (a.End != -1) = decide (a.End ≥ 0) := by rw [AP2, Bd4, I4]; omega
  refine B8 Tryz.func65 rfl Tryz.ntmps65 rfl ?_;refine R3 ?_;intro b2;refine R1 ?_;intro b3;refine R17 ?_;exact E5 rfl (A7 rfl (by exact D7 AV.bool (by unfold Go.M.AF8; rw [he])))
end Go.PQ
namespace Go.PQ
open Go.Proofs
open Go Go.AV Go.M
attribute [local irreducible] OpW OpA OpS AWP J3 K8 K0 OpE J6 H5 J9 Le Ev F8 L6
theorem CJ4 (h : List B4) (hl : h.length ≤ 1000) : M7 20 [AV.list 8 (h.map B4.cs)] [] (fun _ : Value => True) (fun v => [.arr v 3 1 ((I1 h).map fun n => [AV.int n])]) (fun v => AV.is v) := by
 refine C5 Tryz.func20 rfl Tryz.ntmps20 rfl ?_;refine R2 ?_;refine A1 rfl (D8 rfl H3) ?_;refine R3 ?_;refine S9 rfl rfl rfl rfl C9 D0 ?_;intro v6;refine R10 ?_;refine AWP.le (B9 [0] rfl) ?_;refine V5 [(2, _), (7, _), (8, _)] _ (fun (i : Nat) (v : Value) (ns : List Int) => i ≤ h.length ∧ ns = At4 h i) (fun i v ns => [.arr v 3 1 (ns.map fun n => [AV.int n])]) (fun i v ns => [(3, AV.is v), (9, AV.int i)]) (fun i v ns => h.length - i) (0) (v6) ([]) ?_ (I6 B7 A5) ?_
 ·exact ⟨D6 _, rfl⟩
 intro i v ns hinv;refine R5 ?_;refine A2 ?_ ?_
 ·intro h10;have k10 := C6 h10;have hlt : i < h.length := Aa1;obtain ⟨x, hx⟩ := B3 hlt;have hnl : ns.length ≤ 1000 := (by rw [hinv.2]; have := Cw2 h i; omega);refine R6 ?_;refine A1 rfl (C7 rfl G2 L3 (A0 rfl) (A0 rfl) hx qz3) ?_;refine R2 ?_;intro b5;refine R8 ?_;refine A2 ?_ ?_
  ·intro h15;refine R4 ?_;refine H0 (by' := 8) 1 rfl rfl rfl rfl C9 Tryz.type3 rfl rfl rfl rfl rfl rfl (A0 rfl) (A0 rfl) rfl (by simp only [A6, S2]; omega) ?_;intro v19_1;refine R6 ?_;refine P2 i v ns (i + 1) (v19_1) (ns ++ [(i : Int)]) ?_ ?_ (Le.trans (B9 [0, 0] rfl) (E8 1 Az5 A5))
   ·first | exact ⟨by omega, by rw [CF1 hx h15, hinv.2]⟩ | exact ⟨by omega, by rw [CU7 hx h15, hinv.2]⟩
   omega
  intro h15;refine R5 ?_;refine P2 i v ns (i + 1) (v) (ns) ?_ ?_ (Le.trans (B9 [0, 0] rfl) (E8 1 Az5 A5))
  ·first | exact ⟨by omega, by rw [CF1 hx h15, hinv.2]⟩ | exact ⟨by omega, by rw [CU7 hx h15, hinv.2]⟩
  omega
 intro h10;have k10 := C2 h10;have hge : i = h.length := (by have h9 : h.length ≤ i := Aa1; omega);have hns := hinv.2;rw [hge, Cw1] at hns;rw [← hns];refine R7 ?_;exact I2 [0] v (trivial) rfl B7 K5
theorem BK3 (h : List B4) (hl : h.length ≤ 1000) : F6 20 [AV.list 8 (h.map B4.cs)] (ints (I1 h)) :=
  N7 (CJ4 h hl) fun x _ => M1 (V8.2 rfl) G6
theorem By1 (g : H4) (rows : List A4) (ha : adj T1 rows = true) (hs : rows.length ≤ 1048576) : F6 50 [AV.agg g.cs, AV.eptr [AV.list 3 (rows.map A4.cs)]] (AV.bool (!decide (Aa0 rows g.Key = g))) := by
  refine B8 Tryz.func50 rfl Tryz.ntmps50 rfl ?_;refine R3 ?_;intro b2;refine R7 ?_;refine C1 rfl rfl (A9 rfl Tryz.call51 rfl (Cm3 _ _ qz8) (A3 (A0 rfl) (A3 (A0 rfl) B2))) ?_;refine R1 ?_;refine C1 rfl rfl (BU9 rfl AI6 E3 E3 (A0 rfl) (A0 rfl) (AE7 E3 AA4 rfl rfl (Ak1 M2) (AE7 E3 AA4 rfl rfl (Ak1 M2) (AE7 E3 AA3 rfl rfl (BA2 T9) BI7)))) ?_;refine R3 ?_;exact E5 rfl (A7 rfl (by exact D7 AV.bool (by rw [← Cn8 ha, ← got_ne])))
theorem BT1 (d : B4) (rows : List A4) (ha : adj T1 rows = true) (hs : rows.length ≤ 1048576) : F6 26 [AV.agg d.cs, AV.list 3 (rows.map A4.cs)] (AV.bool (j3 rows d)) := by
  refine B8 Tryz.func26 rfl Tryz.ntmps26 rfl ?_;refine R3 ?_;intro b2;refine Bb8 rfl rfl rfl rfl (A0 rfl) (Bi6 _ _) ?_;intro b3;refine R6 ?_;refine A1 rfl (w_clo rfl rfl L2) ?_;refine A1 rfl (Ak0 rfl Tryz.call49 rfl (An1 d.Got (fun _ => True) (fun g => !decide (Aa0 rows g.Key = g)) (fun _ _ => trivial)) (y5 _) (Z0 (evb (A0 rfl)) (Z0 (BN0 (CO7 0 (A0 rfl) rfl) (Bi8 Tryz.call50 (fun g (_ : True) => By1 g _ AQ3 q7))) AI5))) ?_;refine R4 ?_;exact E5 rfl (A7 rfl (by exact D7 AV.bool (by unfold j3; rw [List.not_any_eq_all_not]; congr 1; funext g; rw [Bool.not_not])))
theorem Co6 (h : List B4) (o : List Int) (ho : ∀ n ∈ o, 0 ≤ n ∧ n < (h.length : Int)) : F6 25 [AV.list 8 (h.map B4.cs), ints o] (AV.bool (AL0 h o)) := by
 refine B8 Tryz.func25 rfl Tryz.ntmps25 rfl ?_;refine W4 (t := 1) rfl fun hol => ?_;try simp only [A6] at hol
 refine R12 ?_;refine E9 [(0, _), (1, _), (9, _), (10, _)] _ (fun (i : Nat) => i ≤ o.length ∧ AL0 h o = AL0 h (o.drop i)) (fun i => []) (fun i => [(11, AV.int i)]) (fun i => o.length - i) (0) ?_ (I6 B7 A5) ?_
 ·exact ⟨D6 _, rfl⟩
 intro i hinv;refine R5 ?_;refine A2 ?_ ?_
 ·intro h12;have k12 := C6 h12;have hlt : i < o.length := (by simpa using h12);obtain ⟨x, hx⟩ := B3 hlt;have hi0 := hinv.2;have hxr := ho x (C3 hx);have hdl : (o.drop (i + 1)).length ≤ o.length := (by rw [w4]; omega);refine R6 ?_;refine A1 rfl (C7 rfl C9 D0 (A0 rfl) (A0 rfl) hx qz3) ?_;refine R9 ?_;refine A1 rfl (Ak2 rfl C9 D0 (A0 rfl) (A0 rfl) qz3 qz3) ?_;refine R4 ?_;refine E9 [(0, _), (1, _), (5, _), (6, _), (9, _), (10, _), (11, _), (12, _), (13, _), (14, _), (15, _), (16, _), (17, _), (18, _), (19, _), (20, _)] _ (fun (j : Nat) => j ≤ (o.drop (i + 1)).length ∧ ((o.drop (i + 1)).all fun m => !Go.M.AF8 (G7 h m) (G7 h x)) = (((o.drop (i + 1)).drop j).all fun m => !Go.M.AF8 (G7 h m) (G7 h x))) (fun j => []) (fun j => [(21, AV.int j)]) (fun j => (o.drop (i + 1)).length - j) (0) ?_ (I6 B7 A5) ?_
  ·exact ⟨D6 _, rfl⟩
  intro j hinv;refine R5 ?_;refine A2 ?_ ?_
  ·intro h22;have k22 := C6 h22;have hlt1 : j < (o.drop (i + 1)).length := (Int.ofNat_lt.1 k22);obtain ⟨z, hz⟩ := B3 hlt1;have hzr := ho z (List.mem_of_mem_drop (C3 hz));refine R5 ?_;refine A1 rfl (C7 rfl C9 D0 (A0 rfl) (A0 rfl) hz qz3) ?_;refine R7 ?_;refine C1 rfl rfl (C7 rfl G2 L3 (A0 rfl) (A0 rfl) (AA1 hzr) qz8) ?_;refine R3 ?_;refine C1 rfl rfl (C7 rfl G2 L3 (A0 rfl) (A0 rfl) (AA1 hxr) qz8) ?_;refine R1 ?_;refine C1 rfl rfl (A9 rfl Tryz.call48 rfl (Bq8 _ _) E4) ?_;refine R1 ?_;refine A2 ?_ ?_
   ·intro h33;have he : AL0 h o = false := (by rw [hi0, As2 hx, hinv.2, Au8 hz, h33]; rfl);rw [he];refine R5 ?_;exact E5 rfl (A7 rfl CL4)
   intro h33;refine R5 ?_;refine F7 j (j + 1) ?_ ?_ (I6 B7 A5)
   ·exact ⟨by omega, by rw [hinv.2, Au8 hz, h33]; rfl⟩
   omega
  intro h22;have k22 := C2 h22;have hge1 : (o.drop (i + 1)).length ≤ j := (Nat.le_of_not_lt fun h9 => k22 (Int.ofNat_lt.2 h9));have hj3 : ((o.drop (i + 1)).all fun m => !Go.M.AF8 (G7 h m) (G7 h x)) = true := (by rw [hinv.2, l6 hge1]; rfl);refine R5 ?_;refine F7 i (i + 1) ?_ ?_ (I6 B7 A5)
  ·exact ⟨by omega, by rw [hi0, As2 hx, hj3, Bool.true_and]⟩
  omega
 intro h12;have k12 := C2 h12;have hge : o.length ≤ i := (by simpa using h12);have hfin := hinv.2;rw [Bq5 hge] at hfin;refine R6 ?_;exact E5 rfl (A7 rfl CL4)
end Go.PQ