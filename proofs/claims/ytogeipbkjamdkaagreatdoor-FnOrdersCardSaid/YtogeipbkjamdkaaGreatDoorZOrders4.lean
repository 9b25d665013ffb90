/- Texts of the claim, part 4. -/
import Derived.Test.YtogeipbkjamdkaaGreatDoorProg
import GoSem.ClaimJoined
import GoSem.ClaimMapViews
import Derived.JoinedTies
import Derived.KernelRfl
import Derived.RowKit
import Derived.Sort.OwnSortedInts
import Derived.Sort.EncStr
import Derived.Shelf.GgSortFunc.RowK
import Derived.Shelf.Sort.Plain
import Derived.Shelf.Slices.In.SortNone
import Derived.Test.YtogeipbkjamdkaaGreatDoorZOrders3
set_option linter.defProp false
set_option linter.unusedVariables false
set_option linter.unusedSimpArgs false
set_option maxRecDepth 100000
set_option maxHeartbeats 4000000
namespace Go.PQ
open Go.Proofs
open Go Go.AV Go.M
attribute [local irreducible] OpW OpA OpS AWP J3 K8 K0 OpE J6 H5 J9 Le Ev F8 L6 Int.tmod IntKind.wrap Q7
theorem Bg5 (b : Nat) (code : List Int) (hcode : q6 code) (c : V2) (hp : c.p ≤ 8000000) : M7 85 [AV.ptr b 0] [.box b 62 (U4 code c)] (fun x : V2 × Int => x.1.p ≤ c.p + 1 ∧ 0 ≤ x.2 ∧ x.2 ≤ 255) (fun x => [.box b 62 (U4 code x.1)]) (fun x => AV.int x.2) := by
 have hcb := hcode;refine C5 Tryz.func85 rfl Tryz.ntmps85 rfl ?_;refine R6 ?_;try rw [Bd0 hzb]
 refine R16 ?_;refine A2 ?_ ?_
 ·intro h13;have k13 := C6 h13;obtain ⟨z, hz⟩ := B3 (show c.p < code.length by omega);have hzb := hcb z (C3 hz);refine R9 ?_;refine C1 rfl rfl (C7 rfl AB8 Tryz.sizeOf5 (A0 rfl) (A0 rfl) hz rfl) ?_;refine R1 ?_;refine C1 rfl rfl (Af5 rfl E3 i6 (A0 rfl)) ?_;try rw [Bd0 hzb]
  refine R20 ?_;refine A1 rfl (w_mul rfl (A0 rfl) I7) ?_;refine R1 ?_;refine A1 rfl (Af5 rfl E3 Tryz.underlying60 (A0 rfl)) ?_;refine A1 rfl (Bm5 rfl (A0 rfl) (A0 rfl)) ?_;refine A1 rfl (Bm5 rfl (A0 rfl) I7) ?_;refine R18 ?_;refine A2 ?_ ?_
  ·intro h53;refine R6 ?_
   (refine I2 [0] ((⟨c.p + 1, _⟩, _)) ?_ rfl j8 (N6 rfl (A7 rfl m9)); first | exact ⟨L5 _, hzb⟩ | exact ⟨L5 _, Int.le_refl 0, (show (0 : Int) ≤ 255 by decide)⟩ | (rw [Bd0 (AV5 _)]; exact ⟨L5 _, AV5 _⟩))
  intro h53;refine R7 ?_;refine A1 rfl (CL7 rfl (A0 rfl) I7 D5 D5) ?_;refine A1 rfl (w_band rfl (A0 rfl) I7) ?_;refine A1 rfl (Af5 rfl E3 i6 (A0 rfl)) ?_;refine R3 ?_
  (refine I2 [0] ((⟨c.p + 1, _⟩, _)) ?_ rfl j8 (N6 rfl (A7 rfl m9)); first | exact ⟨L5 _, hzb⟩ | exact ⟨L5 _, Int.le_refl 0, (show (0 : Int) ≤ 255 by decide)⟩ | (rw [Bd0 (AV5 _)]; exact ⟨L5 _, AV5 _⟩))
 intro h13;have k13 := C2 h13;refine R19 ?_;refine A1 rfl (w_mul rfl (A0 rfl) I7) ?_;refine R1 ?_;refine A1 rfl (Af5 rfl E3 Tryz.underlying60 (A0 rfl)) ?_;refine A1 rfl (Bm5 rfl (A0 rfl) (A0 rfl)) ?_;refine A1 rfl (Bm5 rfl (A0 rfl) I7) ?_;refine R18 ?_;refine A2 ?_ ?_
 ·intro h53;refine R6 ?_
  (refine I2 [0] ((⟨c.p + 1, _⟩, _)) ?_ rfl j8 (N6 rfl (A7 rfl m9)); first | exact ⟨L5 _, hzb⟩ | exact ⟨L5 _, Int.le_refl 0, (show (0 : Int) ≤ 255 by decide)⟩ | (rw [Bd0 (AV5 _)]; exact ⟨L5 _, AV5 _⟩))
 intro h53;refine R7 ?_;refine A1 rfl (CL7 rfl (A0 rfl) I7 D5 D5) ?_;refine A1 rfl (w_band rfl (A0 rfl) I7) ?_;refine A1 rfl (Af5 rfl E3 i6 (A0 rfl)) ?_;refine R3 ?_
 (refine I2 [0] ((⟨c.p + 1, _⟩, _)) ?_ rfl j8 (N6 rfl (A7 rfl m9)); first | exact ⟨L5 _, hzb⟩ | exact ⟨L5 _, Int.le_refl 0, (show (0 : Int) ≤ 255 by decide)⟩ | (rw [Bd0 (AV5 _)]; exact ⟨L5 _, AV5 _⟩))
theorem O4 (b : Nat) (code : List Int) (hcode : q6 code) (c : V2) (n : Int) (hn : n ≤ 1000000) (hp : c.p ≤ 7000000) : M7 59 [AV.ptr b 0, AV.int n] [.box b 62 (U4 code c)] (fun x : V2 × Int => x.1.p ≤ c.p + 2 ∧ 0 ≤ x.2 ∧ (x.2 < n ∨ x.2 = 0)) (fun x => [.box b 62 (U4 code x.1)]) (fun x => AV.int x.2) := by
 refine C5 Tryz.func59 rfl Tryz.ntmps59 rfl ?_;refine R10 ?_;refine A2 ?_ ?_
 ·intro h7;have k7 := C6 h7;refine R5 ?_
  (refine I2 [0] ((_, _)) ?_ rfl j8 (N6 rfl (A7 rfl m9)); (dsimp only; first | omega | exact ⟨by omega, Int.tmod_nonneg _ qz8, .inl (Int.tmod_lt_of_pos _ qz8)⟩))
 intro h7;have k7 := C2 h7;refine R4 ?_;refine E6 [0] rfl rfl rfl rfl Tryz.call85 rfl (Bg5 _ _ hcode _ qz8) (A3 (A0 rfl) B2) rfl ?_;intro x9 ok9;refine R8 ?_;refine A2 ?_ ?_
 ·intro h11;have k11 := C6 h11;refine R2 ?_;refine A1 rfl (At6 rfl (A0 rfl) I7 qz3) ?_;refine R1 ?_;refine E6 [0] rfl rfl rfl rfl Tryz.call85 rfl (Bg5 _ _ hcode _ qz8) (A3 (A0 rfl) B2) rfl ?_;intro x15 ok15;refine R7 ?_;refine A1 rfl (BM6 rfl (A0 rfl) (A0 rfl) qz8) ?_;refine R3 ?_
  (refine I2 [0] ((_, _)) ?_ rfl j8 (N6 rfl (A7 rfl m9)); (dsimp only; first | omega | exact ⟨by omega, Int.tmod_nonneg _ qz8, .inl (Int.tmod_lt_of_pos _ qz8)⟩))
 intro h11;have k11 := C2 h11;refine R5 ?_;refine A1 rfl (BM6 rfl (A0 rfl) (A0 rfl) qz8) ?_;refine R3 ?_
 (refine I2 [0] ((_, _)) ?_ rfl j8 (N6 rfl (A7 rfl m9)); (dsimp only; first | omega | exact ⟨by omega, Int.tmod_nonneg _ qz8, .inl (Int.tmod_lt_of_pos _ qz8)⟩))
theorem AW7 (b : Nat) (code : List Int) (hcode : q6 code) (c : V2) (n : Int) (hn : n ≤ 1000000) (hp : c.p ≤ 7000000) : M7 32 [AV.ptr b 0, AV.int n] [.box b 62 (U4 code c)] (fun x : V2 × Bool => x.1.p ≤ c.p + 2) (fun x => [.box b 62 (U4 code x.1)]) (fun x => AV.bool x.2) := by
  refine C5 Tryz.func32 rfl Tryz.ntmps32 rfl ?_;refine R8 ?_;refine E6 [0] rfl rfl rfl rfl Tryz.call59 rfl (O4 _ _ hcode _ _ qz8 qz8) (A3 (A0 rfl) (A3 (A0 rfl) B2)) rfl ?_;intro x7 ok7;refine R4 ?_
  (refine I2 [0] ((_, _)) ?_ rfl j8 K5; exact ok7.1)
theorem Cu6 (b : Nat) (code : List Int) (hcode : q6 code) (c : V2) (l : List Str) (hl : (∀ s ∈ l, s.length ≤ 64) ∧ 1 ≤ l.length ∧ l.length ≤ 1000) (hp : c.p ≤ 7000000) : M7 110 [AV.ptr b 0, strs l] [.box b 62 (U4 code c)] (fun x : V2 × Str => x.1.p ≤ c.p + 2 ∧ x.2.length ≤ 64) (fun x => [.box b 62 (U4 code x.1)]) (fun x => AV.str x.2) := by
  obtain ⟨hls, hl1, hl2⟩ := hl;refine C5 Tryz.func110 rfl Tryz.ntmps110 rfl ?_;refine R2 ?_;refine A1 rfl (D8 rfl (N9 (l := []) rfl)) ?_;refine R7 ?_;refine E6 [0] rfl rfl rfl rfl Tryz.call59 rfl (O4 _ _ hcode _ _ AG1 qz8) (A3 (A0 rfl) (A3 (A0 rfl) B2)) rfl ?_;intro x9 ok9;simp only [A6] at ok9;obtain ⟨y, hy⟩ := B3 (show x9.2.toNat < l.length by omega);refine A1 rfl (C7 rfl G9 M4 (A0 rfl) (A0 rfl) hy qz8) ?_;refine R4 ?_
  (refine I2 [0] ((_, _)) ?_ rfl j8 K5; exact ⟨ok9.1, hls _ (C3 hy)⟩)
theorem AK4 (b : Nat) (code : List Int) (hcode : q6 code) (c : V2) (l : List Int) (hl : 1 ≤ l.length ∧ l.length ≤ 1000) (hp : c.p ≤ 7000000) : M7 136 [AV.ptr b 0, ints l] [.box b 62 (U4 code c)] (fun x : V2 × Int => x.1.p ≤ c.p + 2 ∧ x.2 ∈ l) (fun x => [.box b 62 (U4 code x.1)]) (fun x => AV.int x.2) := by
  obtain ⟨hl1, hl2⟩ := hl;refine C5 Tryz.func136 rfl Tryz.ntmps136 rfl ?_;refine R10 ?_;refine E6 [0] rfl rfl rfl rfl Tryz.call59 rfl (O4 _ _ hcode _ _ AG1 qz8) (A3 (A0 rfl) (A3 (A0 rfl) B2)) rfl ?_;intro x9 ok9;simp only [A6] at ok9;obtain ⟨y, hy⟩ := B3 (show x9.2.toNat < l.length by omega);refine A1 rfl (C7 rfl C9 D0 (A0 rfl) (A0 rfl) hy qz8) ?_;refine R4 ?_
  (refine I2 [0] ((_, _)) ?_ rfl j8 K5; exact ⟨ok9.1, C3 hy⟩)
end Go.PQ
namespace Go.PQ
open Go.Proofs
open Go Go.AV Go.M
attribute [local irreducible] OpW OpA OpS AWP J3 K8 K0 OpE J6 H5 J9 Le Ev F8 L6
theorem big_spec (code more : List Int) : F6 4 [Ag9 code, Ag9 more] (AV.bool (bigB code more)) := by
 refine B8 Tryz.func4 rfl Tryz.ntmps4 rfl ?_;refine W4 (t := 0) rfl fun hl0 => ?_;try simp only [A6] at hl0
 refine W4 (t := 1) rfl fun hl1 => ?_;try simp only [A6] at hl1
 refine R14 ?_;refine W9 rfl (fun hc => w_subi rfl I7 (A8 rfl hc) AG1) ?_;refine R5 ?_;exact E5 rfl (A7 rfl (by (refine D7 AV.bool ?_; unfold bigB; simp only [A6])))
end Go.PQ
namespace Go.PQ
open Go.Proofs
open Go Go.AV Go.M
attribute [local irreducible] OpW OpA OpS AWP J3 K8 K0 OpE J6 H5 J9 Le Ev F8 L6 Int.tmod Int.tdiv IntKind.wrap Q7
end Go.PQ
namespace Go.PQ
open Go.Proofs
open Go Go.AV Go.M
attribute [local irreducible] OpW OpA OpS AWP J3 K8 K0 OpE J6 H5 J9 Le Ev F8 L6 Int.tmod Int.tdiv IntKind.wrap
namespace tw2n3
def CN1 := @Tryz.func227
def CN2 := @Tryz.ntmps227
def CN3 := @Tryz.call60
def CN4 := @Q3
end tw2n3
open tw2n3 in
theorem Ac1 (t : Int) : F6 227 [AV.int t] (AV.bool (within t 1 100000)) := Bd3
theorem Cu7 {r : O0} (hs : r.size ≤ 1048576) : (∀ k ∈ r.Reads, k.length ≤ 4611686018427387904) ∧ D2 A4.size r.Writes ≤ 1048576 ∧ r.Reads.length ≤ 1048576 ∧ r.Writes.length ≤ 1048576 := by
  unfold O0.size at hs;have h1 := P7 (f := fun x : Str => x.length) (l := r.Reads);have h2 := P7 (f := A4.size) (l := r.Writes);exact ⟨fun k hk => by have := BE2 (f := fun x : Str => x.length) hk; omega, by omega, by omega, by omega⟩
theorem Cb0 (l : List Str) (hs : ∀ k ∈ l, k.length ≤ 4611686018427387904) : F6 228 [strs l] (AV.bool (BL1 l)) := by
 refine B8 Tryz.func228 rfl Tryz.ntmps228 rfl ?_;refine W4 (t := 0) rfl fun hl => ?_;try simp only [A6] at hl
 refine R12 ?_;refine E9 [(0, _), (5, _), (6, _)] _ (fun (i : Nat) => i ≤ l.length ∧ (l.all m7 && adj Op.bytesLess l) = ((l.drop i).all m7 && adj Op.bytesLess (l.drop (i - 1)))) (fun i => []) (fun i => [(7, AV.int i)]) (fun i => l.length - i) (0) ?_ (F5 A5) ?_
 ·exact ⟨D6 _, rfl⟩
 intro i hinv;refine R5 ?_;refine A2 ?_ ?_
 ·intro h8;have k8 := C6 h8;have hlt : i < l.length := by omega
  obtain ⟨x, hx⟩ := B3 hlt;obtain ⟨y, hy⟩ := B3 (show i - 1 < l.length by omega);have hsx := hs x (C3 hx);refine R6 ?_;refine A1 rfl (AW0 rfl G9 M4 (A0 rfl) (A0 rfl) qz8 qz173) ?_;refine R7 ?_;refine A1 rfl (A9 rfl Tryz.call95 rfl (AW6 _ qz8) (A3 (A0 rfl) B2)) ?_;refine R8 ?_;refine AE8 rfl rfl (i7 rfl rfl rfl) (fun hc => AW0 rfl G9 M4 (A8 rfl hc) (A8 rfl hc) (by have := AA2 (Bb6 hc); omega) qz96) ?_;refine R2 ?_;refine AE8 rfl rfl (i7 rfl rfl rfl) (fun hc => BU5 rfl (A8 rfl hc) (A8 rfl hc)) ?_;refine R3 ?_;refine A2 ?_ ?_
  ·intro h27;have hfin : (l.all m7 && adj Op.bytesLess l) = false := by rw [hinv.2, J2 hx, w5]; cases hg : m7 x with | false => simp | true => (simp only [hg, Bool.not_true, Bool.false_or, F0, I4, l7] at h27; rw [Ai9 hx hy qz8 h27.2]; simp)
   refine R5 ?_;exact E5 rfl (A7 rfl qz132)
  intro h27;refine R5 ?_;refine F7 i (i + 1) ?_ ?_ (F5 A5)
  ·exact ⟨by omega, by rw [hinv.2, J2 hx, w5, Ai8 hx hy (fun h0 => by simp_all), show m7 x = true by simp_all, Bool.true_and]⟩
  omega
 intro h8;have k8 := C2 h8;have hge : l.length ≤ i := by omega
 refine R9 ?_;exact E5 rfl (A7 rfl qz132)
theorem Bg6 (r : O0) (hs : r.size ≤ 1048576) : F6 214 [AV.agg r.cs] (AV.bool (Av0 r)) := by
 obtain ⟨hr1, hr2, hr3, hr4⟩ := Cu7 hs;refine B8 Tryz.func214 rfl Tryz.ntmps214 rfl ?_;refine R3 ?_;intro b1;refine R24 ?_;refine A2 ?_ ?_
 ·intro h20;have ho : Aw2 r = true := by (unfold Aw2; simpa using h20)
  refine R5 ?_;exact E5 rfl (A7 rfl Bv4)
 intro h20;have ho : Aw2 r = false := by (unfold Aw2; simpa using h20)
 refine R13 ?_;refine A2 ?_ ?_
 ·intro h23;have k23 := K6 h23;(try simp only [A6] at k23);refine R4 ?_;refine A1 rfl (A9 rfl Tryz.call60 rfl (Q3 _ _ _) Aa2) ?_;refine R3 ?_;refine N4 rfl (fun hc => A9 rfl Tryz.call227 rfl (Ac1 _) (A3 (A8 rfl hc) B2)) ?_;refine R4 ?_;refine N4 rfl (fun hc => A9 rfl Tryz.call60 rfl (Q3 _ _ _) (A3 (A8 rfl hc) Ah1)) ?_;refine R4 ?_;refine N4 rfl (fun hc => A9 rfl Tryz.call228 rfl (Cb0 r.Reads hr1) (A3 (A8 rfl hc) B2)) ?_;refine R4 ?_;refine N4 rfl (fun hc => A9 rfl Tryz.call64 rfl (Av5 r.Writes qz8) (A3 (A8 rfl hc) B2)) ?_;refine R5 ?_;refine N4 rfl (fun hc => A9 rfl Tryz.call60 rfl (Q3 _ _ _) (A3 (A8 rfl hc) Ah1)) ?_;refine R19 ?_;exact E5 rfl (A7 rfl Bv4)
 intro h23;have k23 := J4 h23;(try simp only [A6] at k23);refine R6 ?_;refine A2 ?_ ?_
 ·intro h69;have k69 := K6 h69;(try simp only [A6] at k69);refine R1 ?_;refine A2 ?_ ?_
  ·intro h69;have k69 := K6 h69;(try simp only [A6] at k69);refine R4 ?_;refine A1 rfl (A9 rfl Tryz.call60 rfl (Q3 _ _ _) Aa2) ?_;refine R6 ?_;refine AE8 rfl rfl (i7 rfl rfl rfl) (fun hc => A9 rfl Tryz.call227 rfl (Ac1 _) (A3 (A8 rfl hc) B2)) ?_;refine R15 ?_;exact E5 rfl (A7 rfl Bv4)
  intro h69;have k69 := J4 h69;(try simp only [A6] at k69);refine R14 ?_;refine N4 rfl (fun hc => A9 rfl Tryz.call227 rfl (Ac1 _) (A3 (A8 rfl hc) B2)) ?_;refine R9 ?_;exact E5 rfl (A7 rfl Bv4)
 intro h69;have k69 := J4 h69;(try simp only [A6] at k69);refine R4 ?_;refine A2 ?_ ?_
 ·intro h69;have k69 := K6 h69;(try simp only [A6] at k69);refine R4 ?_;refine A1 rfl (A9 rfl Tryz.call60 rfl (Q3 _ _ _) Aa2) ?_;refine R6 ?_;refine AE8 rfl rfl (i7 rfl rfl rfl) (fun hc => A9 rfl Tryz.call227 rfl (Ac1 _) (A3 (A8 rfl hc) B2)) ?_;refine R15 ?_;exact E5 rfl (A7 rfl Bv4)
 intro h69;have k69 := J4 h69;(try simp only [A6] at k69);refine R14 ?_;refine N4 rfl (fun hc => A9 rfl Tryz.call227 rfl (Ac1 _) (A3 (A8 rfl hc) B2)) ?_;refine R9 ?_;exact E5 rfl (A7 rfl Bv4)
theorem BB5 (r : O0) (hs : r.size ≤ 1048576) : F6 194 [AV.agg r.cs] (AV.bool (Av0 r)) := by
  refine B8 Tryz.func194 rfl Tryz.ntmps194 rfl ?_;refine R3 ?_;intro b1;refine R5 ?_;refine A1 rfl (A9 rfl Tryz.call214 rfl (Bg6 _ q7) (A3 (A0 rfl) B2)) ?_;refine R3 ?_;exact E5 rfl (A7 rfl m9)
end Go.PQ
namespace Go.AV
open Go.Sort
section ordered
variable {P : Program} {f : FuncId} {t : TypeId} {α : Type} [Inhabited α]
end ordered
end Go.AV
namespace Go.Proofs
open Go.Shelf
end Go.Proofs
namespace Go.PQ
open Go.Proofs
open Go Go.AV Go.M
attribute [local irreducible] OpW OpA OpS AWP J3 K8 K0 OpE J6 H5 J9 Le Ev F8 L6 Int.tmod Int.tdiv IntKind.wrap
theorem CD9 (x y : A4) : (x.Key == y.Key && (x.Val == y.Val && (x.Gone == y.Gone && true))) = decide (x = y) := by
  cases x; cases y
  rw [AP2];simp
theorem str_at {l : List Str} {i j : Nat} {s : Str} (h : l[i]? = some s) (hj : j = i * 1) : ((l.map fun s => [AV.str s]).flatten)[j]? = some (AV.str s) := by
  rw [hj, Nat.mul_one];have e : (l.map fun s => [AV.str s]).flatten = l.map AV.str := by
    clear h;induction l with
    | nil => rfl
    | cons x l ih => simp [ih]
  rw [e, Y6, h]; rfl
end Go.PQ
namespace Go.M
open Go.AV
theorem Cu8 {l : List A4} (h : adj T1 l = true) (k : Str) : Ao0 l k = AP6 l k := by
  have e := findW_eq h k
  cases hw : Ao0 l k with
  | true =>
    obtain ⟨x, hx, hk⟩ := Ap8.1 hw;exact (AS3.2 ⟨x, C3 hx, hk⟩).symm
  | false =>
    rw [hw] at e;simp only [Bool.false_eq_true, if_false] at e;unfold findW at e;rw [List.find?_eq_none] at e
    cases hk : AP6 l k with
    | false => rfl
    | true => obtain ⟨x, hx, hxk⟩ := AS3.1 hk; have := e x hx; simp [hxk] at this
theorem Cm4 {w : List A4} (h : AE4 w = true) : adj T1 w = true := by
  unfold AE4 n7 U0 at h;simp only [F0] at h;have := h.1.2.2;rw [Bc4] at this;exact this
theorem Ak8 {l : List F1} {i : Nat} {h : F1} {n : Nat} (hs : D2 F1.size l ≤ n) (hx : l[i]? = some h) : h.size ≤ n ∧ D2 A4.size h.Writes ≤ n ∧ h.Writes.length ≤ n ∧ h.Reads.length ≤ n ∧ (AX8 h).size ≤ n := by
  have h1 := L4 (m6 hx) hs;have h2 : h.size = D2 (fun x => x.length) h.Reads + D2 A4.size h.Writes := rfl;have h3 := P7 (f := fun x : Str => x.length) (l := h.Reads);have h4 := P7 (f := A4.size) (l := h.Writes);have h5 : (AX8 h).size = D2 (fun x => x.length) h.Reads + D2 A4.size h.Writes := rfl;exact ⟨by omega, by omega, by omega, by omega, by omega⟩
theorem CI0 {α : Type} {f : α → Nat} {l : List α} (i : Nat) : D2 f (l.take i) ≤ D2 f l := by
  have := Am5 (f := f) (l := l.take i) (r := l.drop i);rw [Aa7] at this; omega
theorem Bx6 : ∀ {l : List F1}, (hWs l).length ≤ D2 F1.size l
  | [] => D6 _
  | h :: l => by
    have ih := Bx6 (l := l);have h4 := P7 (f := A4.size) (l := h.Writes);have h2 : h.size = D2 (fun x => x.length) h.Reads + D2 A4.size h.Writes := rfl;rw [Bk0, G3, U5]; omega
theorem hWs_take {l : List F1} {i : Nat} {h : F1} (hx : l[i]? = some h) : hWs (l.take (i + 1)) = hWs (l.take i) ++ h.Writes := by
  rw [V7, hx, Bo2];show _ ++ hWs [h] = _
  rw [Bk0]; simp [hWs]
theorem Ch5 {α : Type} {f : α → Int} {l : List α} (h : l.Pairwise fun a b => f a < f b) {i j : Nat} {x y : α} (hij : i < j) (hx : l[i]? = some x) (hy : l[j]? = some y) : f x < f y := by
  obtain ⟨i1, i2⟩ := F4.1 hx;obtain ⟨j1, j2⟩ := F4.1 hy;have := List.pairwise_iff_getElem.1 h i j i1 j1 hij;rw [i2, j2] at this; exact this
theorem AS4 {s : H2} {n : Nat} (h : s.size ≤ n) : D2 C4.size s.Cells ≤ n ∧ D2 F1.size s.Held ≤ n ∧ s.Told.length ≤ n ∧ s.Cells.length ≤ n ∧ s.Held.length ≤ n := by
  have h1 : s.size = D2 C4.size s.Cells + D2 F1.size s.Held + s.Told.length := rfl;have h2 := P7 (f := C4.size) (l := s.Cells);have h3 := P7 (f := F1.size) (l := s.Held);exact ⟨by omega, by omega, by omega, by omega, by omega⟩
theorem Cu9 {s : H2} {i : Nat} {h y : F1} (hx : s.Held[i]? = some h) (hy : s.Held[i - 1]? = some y) : Ag7 s i = (!(((!U7 (AX8 h) || decide (s.Floor < h.Time)) || (decide ((0 : Int) < (i : Int)) && decide (h.Txn ≤ y.Txn)))) && (!((s.Held.take i).any fun g => BR9 h g) && !(h.Writes.any fun w => decide (h.Time ≤ O3 s.Cells w.Key)))) := by
  unfold Ag7;rw [hx];have h1 : Bt5 s.Held i h.Txn = !(decide ((0 : Int) < (i : Int)) && decide (h.Txn ≤ y.Txn)) := by
    unfold Bt5; rw [hy]; dsimp only;congr 2
    rw [decide_eq_decide]; omega
  have h2 : ((s.Held.take i).all fun g => apart g h.Reads h.Writes) = !((s.Held.take i).any fun g => BR9 h g) := by
    rw [List.not_any_eq_all_not]; congr 1; funext g; rw [Bg0, Bool.not_not]
  have h3 : (h.Writes.all fun w => decide (O3 s.Cells w.Key < h.Time)) = !(h.Writes.any fun w => decide (h.Time ≤ O3 s.Cells w.Key)) := by
    rw [List.not_any_eq_all_not]; congr 1; funext w; rw [← decide_not, decide_eq_decide]; omega
  dsimp only;rw [h1, h2, h3];simp only [Bool.not_or, Bool.not_not, Bool.and_assoc]
theorem good_adj {h : F1} (hg : U7 (AX8 h) = true) : adj T1 h.Writes = true := by
  unfold U7 AX8 at hg;rw [D1 rfl] at hg;unfold Ay5 at hg;simp only [F0] at hg;exact Cm4 hg.1.1.2
theorem Cv0 {s : H2} {i : Nat} {t y : P5} (hx : s.Told[i]? = some t) (hy : s.Told[i - 1]? = some y) : Ao4 s i = (!((!AO1 t.Txn || !((t.Yes && within t.Time 1 s.Floor) || (!t.Yes && (t.Time == 0)))) || (decide ((0 : Int) < (i : Int)) && decide (t.Txn ≤ y.Txn))) && !AU7 s.Held t.Txn) := by
  unfold Ao4;rw [hx];have h1 : Bt6 s.Told i t.Txn = !(decide ((0 : Int) < (i : Int)) && decide (t.Txn ≤ y.Txn)) := by
    unfold Bt6; rw [hy]; dsimp only;congr 2
    rw [decide_eq_decide]; omega
  have h2 : Ay6 s t = ((t.Yes && within t.Time 1 s.Floor) || (!t.Yes && (t.Time == 0))) := by
    unfold Ay6; cases t.Yes <;> simp
  dsimp only;rw [h1, h2];generalize ((t.Yes && within t.Time 1 s.Floor) || (!t.Yes && (t.Time == 0))) = b
  simp only [Bool.not_or, Bool.not_not, Bool.and_assoc]
end Go.M
namespace Go.PQ
open Go.Proofs
open Go Go.AV Go.M
attribute [local irreducible] OpW OpA OpS AWP J3 K8 K0 OpE J6 H5 J9 Le Ev F8 L6 Int.tmod Int.tdiv IntKind.wrap
theorem Aq3 {l : List C4} {h : List F1} (a b : Nat) (hl : D2 C4.size l ≤ 1048576) (hh : D2 F1.size h ≤ 1048576) : (AF7 (l.take a) ++ U0 (hWs (h.take b))).length ≤ 2097152 := by
  have h1 := P7 (f := C4.size) (l := l);have h2 := Bx6 (l := h.take b);have h3 := CI0 (f := F1.size) (l := h) b;unfold AF7 U0;simp only [G3, A6, I5];omega
end Go.PQ
namespace Go.PQ
open Go.Proofs
open Go Go.AV Go.M
attribute [local irreducible] OpW OpA OpS AWP J3 K8 K0 OpE J6 H5 J9 Le Ev F8
def O0.ow (c : O0) (x : Value × Value) : List Own := [.arr x.1 9 1 (c.Reads.map (fun x => [AV.str x])), .arr x.2 69 3 (c.Writes.map A4.cs)]
theorem O0.lc (c : O0) (x : Value × Value) : AD0 (O0.ow c x) (O0.ocs c x) c.cs := (E2 J0 (E2 J0 (E2 J0 (E2 J0 (E2 (M1 (C3 (i := 0) rfl) G6) (E2 (M1 (C3 (i := 1) rfl) G6) (E2 J0 o5)))))))
end Go.PQ
namespace Go.AV
section
variable {T X : Type} {cs : T → List AV} {ocs : T → X → List AV} {ow : T → X → List Own}
theorem Cv1 {l : List T} {xs : List X} {i : Nat} {p : T} {x : X} (hi : i ≤ l.length) (h : xs.length = l.length) : (L7 ocs l xs).take i ++ ocs p x :: (L7 ocs l xs).drop i = L7 ocs (l.take i ++ p :: l.drop i) (xs.take i ++ x :: xs.drop i) := by
  unfold L7;rw [List.zipWith_append (by rw [I5, I5]; omega), List.zipWith_cons_cons, List.take_zipWith, List.drop_zipWith]
theorem nin_ins {l : List T} {xs : List X} {i : Nat} {p : T} {x : X} (hi : i ≤ l.length) (h : xs.length = l.length) : (ow p x ++ nin ow l xs).Perm (nin ow (l.take i ++ p :: l.drop i) (xs.take i ++ x :: xs.drop i)) := by
  have e : nin ow l xs = nin ow (l.take i) (xs.take i) ++ nin ow (l.drop i) (xs.drop i) := by
    unfold nin;rw [← Ae5, ← List.zipWith_append (by rw [I5, I5]; omega), Aa7, Aa7]
  have e2 : nin ow (l.take i ++ p :: l.drop i) (xs.take i ++ x :: xs.drop i) = nin ow (l.take i) (xs.take i) ++ (ow p x ++ nin ow (l.drop i) (xs.drop i)) := by
    unfold nin;rw [List.zipWith_append (by rw [I5, I5]; omega), List.zipWith_cons_cons, Ae5, AT1]
  rw [e, e2, ← e6, ← e6];exact List.Perm.append_right _ AM5
theorem CT3 {X : Type} {xs : List X} {i : Nat} {x : X} (hi : i ≤ xs.length) : (xs.take i ++ x :: xs.drop i).length = xs.length + 1 := by
  rw [G3, H1, I5, w4]; omega
end
end Go.AV
namespace Go.PQ
open Go.Proofs
open Go Go.AV Go.M
attribute [local irreducible] OpW OpA OpS AWP J3 K8 K0 OpE J6 H5 J9 Le Ev F8 L6
def C4.ow (c : C4) (x : Value) : List Own := [.arr x 257 3 (c.Vers.map Y3.cs)]
theorem C4.lcM {own : List Own} (c : C4) (x : Value) (h : ∀ o ∈ C4.ow c x, o ∈ own) : AD0 own (C4.ocs c x) c.cs := E2 J0 (E2 (M1 (h _ (C3 (i := 0) rfl)) G6) o5)
theorem CE0 (l : List C4) (hs : D2 C4.size l ≤ 4194304) : M7 221 [AV.list 2 (l.map C4.cs)] [] (fun x : Value × List Value => x.2.length = l.length) (fun x => .arr x.1 262 2 (L7 C4.ocs l x.2) :: nin C4.ow l x.2) (fun x => AV.is x.1) := by
 have hl : l.length ≤ 4194304 := L4 P7 hs;refine C5 Tryz.func221 rfl Tryz.ntmps221 rfl ?_;refine R2 ?_;refine A1 rfl (D8 rfl H3) ?_;refine R3 ?_;refine T6 262 2 rfl rfl rfl rfl H3 ?_;intro v3;refine R9 ?_;refine V5 [(2, _), (6, _), (7, _)] [] (fun (i : Nat) (v : Value) (xs : List Value) => i ≤ l.length ∧ xs.length = i) (fun i v xs => [.arr v 262 2 (L7 C4.ocs (l.take i) xs)] ++ (nin C4.ow (l.take i) xs)) (fun i v xs => [(3, AV.is v), (8, AV.int i)]) (fun i v xs => l.length - i) (0) (v3) ([]) ?_ (I6 B7 A5) ?_
 ·exact ⟨D6 _, rfl⟩
 intro i v xs hinv;refine K2 (S1 _) ?_;refine R5 ?_;refine A2 ?_ ?_
 ·intro h9;have k9 := C6 h9;have hlt : i < l.length := by omega
  obtain ⟨x, hx⟩ := B3 hlt;have hsx := BB4 (L4 (m6 hx) hs);refine R5 ?_;refine A1 rfl (C7 rfl I9 T4 (A0 rfl) (A0 rfl) hx qz3) ?_;refine R2 ?_;intro b5;refine R2 ?_;refine P3 _ [(0, false), (1, false), (2, false), (4, false), (5, false), (3, true), (6, true), (7, false), (8, false), (9, true)] E3 E3 rfl (S8 1) ?_;refine R5 ?_;refine U2 rfl rfl rfl (r6 2 <| AB4 rfl Z5 AC4) (fun a _ => qz4) ?_;intro v15 _;refine U2 rfl rfl rfl (W5 2 (fun _ => rfl) (L8 (by' := 32) 2 rfl Z5 Tryz.type257 rfl rfl rfl rfl rfl rfl (A0 rfl) (A0 rfl) rfl qz3)) (fun a _ => qz4) ?_;intro v18_1 hone_v18_1;have one_v18_1 := hone_v18_1.2;refine P1 rfl rfl rfl (fun ext => j6 (places := #[(0, 1), (1, 1)]) rfl n9 Tryz.zeroValue262 (fun w => by kernel_rfl) rfl (E1 (A0 rfl) (a8 _) (E1 (A0 rfl) (O8 one_v18_1) X0)) rfl) ?_;refine R1 ?_;refine U2 rfl rfl rfl (L8 (by' := 40) 1 rfl I9 Tryz.type262 rfl rfl rfl rfl rfl rfl (A0 rfl) (A0 rfl) rfl (by rw [W7 (by rw [hinv.2, I5]; omega), S2, I5]; omega)) (fun a _ => qz4) ?_;intro v21_2 _;refine R3 ?_;refine AWP.le (B9 [0, 0, 0] rfl) ?_;refine AWP.le (Q8 2 (t := nin C4.ow (l.take (i + 1)) (xs ++ [v18_1])) (Ai5 (ow := C4.ow) (x := v18_1) hx hinv.2)) ?_;refine R4 ?_;refine P2 i v xs (i + 1) (v21_2) (xs ++ [v18_1]) ?_ ?_ (E8 1 (Eq.trans (by exact D7 (fun z => Own.arr _ _ _ z :: _) (Ad3 hx hinv.2)) (S1 _).symm) A5)
  ·exact ⟨by omega, by rw [G3, hinv.2]; rfl⟩
  omega
 intro h9;have k9 := C2 h9;have hge : i = l.length := by omega
 have hxs := hinv.2.trans hge;rw [show l.take i = l from U1 qz8];refine R7 ?_;exact I3 [0] 0 (nin C4.ow l xs) [] (v, xs) (hxs) rfl (show List.Perm (nin C4.ow l xs) ((nin C4.ow l xs) ++ []) from B6) B7 (N6 rfl (A7 rfl m9))
theorem BX9 {α : Type} {f : α → Nat} {l : List α} (i : Nat) : D2 f (l.take i) ≤ D2 f l := by
  have := Am5 (f := f) (l := l.take i) (r := l.drop i);rw [Aa7] at this; omega
theorem Ad8 {α : Type} {f : α → Nat} {l : List α} {i : Nat} {x : α} (h : l[i]? = some x) : D2 f (l.take (i + 1)) = D2 f (l.take i) + (1 + f x) := by
  rw [V7, h, Am5];show _ + D2 f [x] = _
  rw [U5]; rfl
def Bu0 (A : List (List AV)) (k : Str) (vs : List (List AV)) (B : List (List AV)) (D : List Own) (o2 : List C4) (f : Value → List Value) : Prop :=
  ∀ y : Value, (f y).length = o2.length ∧ A ++ [AV.str k, AV.is y] :: B = L7 C4.ocs o2 (f y) ∧ (Own.arr y 257 3 vs :: D).Perm (nin C4.ow o2 (f y))
theorem Cm5 {o : List C4} {xs : List Value} {p : Nat} {c : C4} {y0 : Value} (hc : o[p]? = some c) (hy : xs[p]? = some y0) (hl : xs.length = o.length) (nv : Y3) :
    Bu0 (L7 C4.ocs (o.take p) (xs.take p)) c.Key (c.Vers.map Y3.cs ++ [Y3.cs nv]) (L7 C4.ocs (o.drop (p + 1)) (xs.drop (p + 1))) (nin C4.ow (o.eraseIdx p) (xs.eraseIdx p)) (o.set p ⟨c.Key, c.Vers ++ [nv]⟩) (fun y => xs.set p y) := fun y => by
  have hp := (F4.1 hc).1;have hx := (F4.1 hy).1;have hc' : (o.set p ⟨c.Key, c.Vers ++ [nv]⟩)[p]? = some ⟨c.Key, c.Vers ++ [nv]⟩ := AR3 hp;have hy' : (xs.set p y)[p]? = some y := AR3 hx;refine ⟨by rw [V4, V4, hl], ?_, ?_⟩
  · rw [AS1 hc' hy', List.take_set_of_le (L5 _), List.take_set_of_le (L5 _), List.drop_set_of_lt qz8, List.drop_set_of_lt qz8]
    rfl
  · have h := AU2 (ow := C4.ow) hc' hy'
    rw [List.eraseIdx_set_eq, List.eraseIdx_set_eq] at h;refine List.Perm.trans ?_ h.symm;unfold C4.ow;simp only [V1, T3, List.map_nil];exact List.Perm.refl _
theorem Cm6 {o : List C4} {xs : List Value} {p : Nat} (hp : p ≤ o.length) (hl : xs.length = o.length) (k : Str) (nv : Y3) :
    Bu0 ((L7 C4.ocs o xs).take p) k [Y3.cs nv] ((L7 C4.ocs o xs).drop p) (nin C4.ow o xs) (o.take p ++ ⟨k, [nv]⟩ :: o.drop p) (fun y => xs.take p ++ y :: xs.drop p) := fun y =>
  ⟨by rw [CT3 qz8, CT3 hp, hl], Cv1 (ocs := C4.ocs) (p := ⟨k, [nv]⟩) hp hl, nin_ins (ow := C4.ow) (p := ⟨k, [nv]⟩) hp hl⟩
theorem BQ2 {l o : List C4} {w : List A4} {t : Int} {i : Nat} {x : A4} (h : j9 l w t = j9 o (w.drop i) t) (hx : w[i]? = some x) (ht : ¬ t ≤ O3 o x.Key) : j9 l w t = j9 (AM9 o x t) (w.drop (i + 1)) t := by
  rw [h, J2 hx];unfold j9;rw [D4 (by simpa using ht)]
  cases w.drop (i + 1) <;> rfl
theorem put_stop {l o : List C4} {w : List A4} {t : Int} {i : Nat} {x : A4} (h : j9 l w t = j9 o (w.drop i) t) (hx : w[i]? = some x) (ht : t ≤ O3 o x.Key) : j9 l w t = none := by
  rw [h, J2 hx];unfold j9;rw [D1 (by simpa using ht)]
theorem put_end {l o : List C4} {w : List A4} {t : Int} {i : Nat} (h : j9 l w t = j9 o (w.drop i) t) (hi : w.length ≤ i) : j9 l w t = some o := by
  rw [h, l6 hi]; rfl
theorem Cv2 (l : List C4) (w : List A4) (t : Int) (ho : AU6 l) (hs : D2 C4.size l ≤ 1048576) (hw : D2 A4.size w ≤ 1048576) (ht1 : 1 ≤ t) : M7 210 [AV.list 2 (l.map C4.cs), AV.list 3 (w.map A4.cs), AV.int t] [] (fun x : Value × List Value => x.2.length = (AS6 l w t).1.length) (fun x => .arr x.1 262 2 (L7 C4.ocs (AS6 l w t).1 x.2) :: nin C4.ow (AS6 l w t).1 x.2) (fun x => AV.tup [AV.is x.1, AV.bool (AS6 l w t).2]) := by
 have hwl : w.length ≤ 1048576 := L4 P7 hw;refine C5 Tryz.func210 rfl Tryz.ntmps210 rfl ?_;refine R2 ?_;refine A1 rfl (D8 rfl H3) ?_;refine R5 ?_;refine J7 [] 0 1 ([]) ([]) (fun zz => nin C4.ow l zz.2) rfl rfl rfl rfl Tryz.call221 rfl rfl (show List.Perm ([]) (([]) ++ ([])) from List.Perm.refl _) (CE0 l qz8) L2 (fun a => L9) ?_;intro x15 ok15;refine R10 ?_;refine AN1 [(2, _), (16, _), (17, _)] [] (fun (i : Nat) (v : Value) (q : List C4) (xs : List Value) => i ≤ w.length ∧ xs.length = q.length ∧ AU6 q ∧ D2 C4.size q ≤ 1048576 + 2 * D2 A4.size (w.take i) ∧ j9 l w t = j9 q (w.drop i) t) (fun i v q xs => [.arr v 262 2 (L7 C4.ocs q xs)] ++ (nin C4.ow q xs)) (fun i v q xs => [(8, AV.is v), (18, AV.int i)]) (fun i v q xs => w.length - i) (0) (x15.1) (l) (x15.2) ?_ (I6 (by rw [S1]; rfl) A5) ?_
 ·exact ⟨D6 _, ok15, ho, by omega, rfl⟩
 intro i v q xs hinv;have hlen := hinv.2.1;have hinvo := hinv;have hrl : (L7 C4.ocs q xs).length = q.length := W7 hlen;refine K2 (S1 _) ?_;refine R5 ?_;refine A2 ?_ ?_
 ·intro h19;have k19 := C6 h19;have hlt : i < w.length := by omega
  obtain ⟨x, hx⟩ := B3 hlt;have htk := BX9 (f := A4.size) (l := w) i;have hso : D2 C4.size q ≤ 4194304 := by omega
  have hql : q.length ≤ 4194304 := L4 P7 hso;refine R5 ?_;refine A1 rfl (C7 rfl C0 F2 (A0 rfl) (A0 rfl) hx qz3) ?_;refine R2 ?_;intro b10;refine R11 ?_;intro b11;refine R10 ?_;refine E9 [(2, _), (8, _), (10, _), (11, _), (16, _), (17, _), (18, _), (19, _), (20, _), (21, _), (22, _), (23, _), (24, _), (25, _), (26, _), (27, _), (28, _), (29, _)] _ (fun (j : Nat) => j ≤ q.length ∧ ∀ (a : Nat) (c : C4), j ≤ a → q[a]? = some c → Op.bytesLess x.Key c.Key = true) (fun j => []) (fun j => [(12, AV.int j)]) (fun j => j) (q.length) ?_ (F5 ⟨D7 (fun z : Nat => some (AV.int z)) hrl, rfl, rfl, rfl, rfl, rfl, rfl, rfl, rfl, rfl, rfl, rfl, rfl, rfl, rfl, rfl, rfl, rfl, rfl, trivial⟩) ?_
  ·exact ⟨L5 _, fun a c ha hc => by have := (F4.1 hc).1; omega⟩
  intro j hinv;obtain ⟨c, hc0⟩ := Ap6 q (j - 1);obtain ⟨y, hy0⟩ : ∃ y, j - 1 < xs.length → xs[j - 1]? = some y := ⟨xs[j - 1]?.getD (.int .i64 0), fun h => by rw [O1 h]; rfl⟩;have hj1 : 0 < j → ((j : Int) - 1).toNat = j - 1 := fun _ => by omega
  have hrow0 : 0 < j → (L7 C4.ocs q xs)[((j : Int) - 1).toNat]? = some (C4.ocs c y) := fun h => by rw [hj1 h]; exact T7 (hc0 qz8) (hy0 qz8)
  refine R9 ?_;refine O6 rfl (P8 rfl rfl rfl) (fun hc => H6 2 rfl I9 T4 (A8 rfl hc) rfl (A8 rfl hc) qz6 qz6) ?_;refine O6 rfl (P8 rfl rfl rfl) (fun hc => L0 2 rfl n9 rfl M4 (A8 rfl hc) rfl rfl (hrow0 qz6)) ?_;refine O6 rfl (P8 rfl rfl rfl) (fun hc => M6 2 rfl (A8 rfl hc) rfl AA4 (hrow0 qz6) rfl) ?_;refine R2 ?_;refine O6 rfl (P8 rfl rfl rfl) (fun hc => Bm6 rfl (A8 rfl hc) (A8 rfl hc)) ?_;refine R2 ?_;refine A2 ?_ ?_
  ·intro h42;have hgt : 0 < j ∧ Op.bytesLess x.Key c.Key = true := by rw [X9]; simpa using h42
   refine R7 ?_;refine Ab1 ?_;refine F7 j (j - 1) ?_ ?_ (F5 ⟨D7 (fun z : Int => some (AV.int z)) qz8, rfl, rfl, rfl, rfl, rfl, rfl, rfl, rfl, rfl, rfl, rfl, rfl, rfl, rfl, rfl, rfl, rfl, rfl, trivial⟩)
   ·exact ⟨by omega, fun a c' ha hc' => if h9 : j ≤ a then hinv.2 a c' h9 hc' else (by have e : a = j - 1 := qz8; subst e; rw [hc0 qz8] at hc'; injection hc' with hc'; subst hc'; exact hgt.2)⟩
   omega
  intro h42;have hng : 0 < j → Op.bytesLess x.Key c.Key = false := fun h => by rw [X9]; simpa [h] using h42
  refine R10 ?_;refine O6 rfl (P8 rfl rfl rfl) (fun hc => H6 2 rfl I9 T4 (A8 rfl hc) rfl (A8 rfl hc) qz6 qz6) ?_;refine O6 rfl (P8 rfl rfl rfl) (fun hc => L0 2 rfl n9 rfl M4 (A8 rfl hc) rfl rfl (hrow0 qz6)) ?_;refine O6 rfl (P8 rfl rfl rfl) (fun hc => M6 2 rfl (A8 rfl hc) rfl AA4 (hrow0 qz6) rfl) ?_;refine R5 ?_;refine A2 ?_ ?_
  ·intro h57;have hf : 0 < j ∧ c.Key = x.Key := by simpa using h57
   have hc := hc0 qz8;have hy := hy0 qz8;have hins := scan_has hinvo.2.2.1.1 hc hf.2 ⟨t, x.Val, x.Gone⟩;refine R6 ?_;refine A1 rfl (Ak0 rfl Tryz.call225 rfl (BH3 q x.Key hinvo.2.2.1 hso) (r5 _ _) (Z0 (Bn1 (A0 rfl) (BO2 C4.lcM (by first | exact hlen | exact hlen.trans (BO3 _ _).symm) 2 rfl (fun o ho => List.mem_of_mem_drop (i := 3) (show o ∈ nin C4.ow q xs from by first | exact ho | exact AS9 _ ho | exact AS8 _ ho | exact AS8 _ (AS9 _ ho) | exact AS8 _ (AS8 _ ho))))) (Z0 (evb (A0 rfl)) AI5))) ?_;refine R3 ?_;refine A2 ?_ ?_
   ·intro h63;have k63 := C6 h63;have he : AS6 l w t = ([], false) := by unfold AS6; rw [put_stop hinvo.2.2.2.2 hx k63]
    rw [he];refine R2 ?_;refine A1 rfl (D8 rfl H3) ?_;refine R3 ?_;refine AD1 262 2 ?_;first | exact I2 [0] ((F9), []) (rfl) rfl B7 AJ2 | exact I3 [0] 3 (nin C4.ow q xs) [] ((F9), []) (rfl) rfl (show List.Perm (nin C4.ow q xs) ((nin C4.ow q xs) ++ []) from B6) B7 AJ2 | exact I2 [0] ((F9), xs) (hinv.2.1) rfl B7 AJ2 | exact I3 [0] 3 (nin C4.ow q xs) [] ((F9), xs) (hinv.2.1) rfl (show List.Perm (nin C4.ow q xs) ((nin C4.ow q xs) ++ []) from B6) B7 AJ2
   intro h63;have k63 := C2 h63;have hnt : ¬ t ≤ O3 q x.Key := k63;have hA : (L7 C4.ocs (q.take (j - 1)) (xs.take (j - 1))).length = ((j : Int) - 1).toNat := (AQ7 (ocs := C4.ocs) hc hy).trans (hj1 hf.1).symm;obtain ⟨fx, hto⟩ : ∃ fx, Bu0 (L7 C4.ocs (q.take (j - 1)) (xs.take (j - 1))) c.Key (c.Vers.map Y3.cs ++ [Y3.cs ⟨t, x.Val, x.Gone⟩]) (L7 C4.ocs (q.drop (j - 1 + 1)) (xs.drop (j - 1 + 1))) (nin C4.ow (q.eraseIdx (j - 1)) (xs.eraseIdx (j - 1))) (AM9 q x t) fx := ⟨_, by have h7 := Cm5 hc hy hlen ⟨t, x.Val, x.Gone⟩; unfold AM9; rw [hins]; rw [hf.2] at h7 ⊢; exact h7⟩;have hcs := BB4 (L4 (m6 hc) hso);rw [AS1 hc hy];refine AWP.le (Q8 3 (t := (C4.ow c y) ++ (nin C4.ow (q.eraseIdx (j - 1)) (xs.eraseIdx (j - 1)))) (AU2 (ow := C4.ow) hc hy)) ?_;refine R2 ?_;refine AWP.le (B9 [0, 1, 1] rfl) ?_;refine P3 _ [(0, false), (1, false), (2, false), (3, false), (4, false), (5, false), (6, false), (7, false), (8, false), (9, false), (10, false), (11, true)] E3 E3 rfl (S8 2) ?_;refine R6 ?_;refine P1 rfl rfl rfl (fun ext => H6 1 rfl I9 T4 (A0 rfl) rfl (A0 rfl) qz8 (by rw [G3, H1]; omega)) ?_;refine P1 rfl rfl rfl (fun ext => L0 1 rfl n9 rfl Tryz.sizeOf260 (A0 rfl) rfl rfl (Ak3 hA)) ?_;refine P1 rfl rfl rfl (fun ext => M6 1 rfl (A0 rfl) rfl Tryz.isAgg260 (Ak3 hA) rfl) ?_;refine R2 ?_;refine U2 rfl rfl rfl (L8 (by' := 32) 2 rfl Z5 Tryz.type257 rfl rfl rfl rfl rfl rfl (A0 rfl) (A0 rfl) rfl qz3) (fun a _ => qz4) ?_;intro v75_2 _;refine R1 ?_;refine A1 rfl (H6 1 rfl I9 T4 (A0 rfl) rfl (A0 rfl) qz8 (by rw [G3, H1]; omega)) ?_;refine A1 rfl (L0 1 rfl n9 rfl Tryz.sizeOf260 (A0 rfl) rfl rfl (Ak3 hA)) ?_;refine V0 2 rfl fun one_v75_2 => ?_;refine BN6 1 rfl rfl rfl (A0 rfl) (A0 rfl) (O8 one_v75_2) rfl Tryz.sizeOf260 hA rfl ?_;refine R2 ?_;refine K2 qz49 ?_;refine AWP.le (B9 [0, 0, 1, 0] rfl) ?_;refine AWP.le (Q8 3 (t := nin C4.ow (AM9 q x t) (fx v75_2)) ((hto v75_2).2.2)) ?_;refine R4 ?_;refine u4 i v q xs (i + 1) (v) (AM9 q x t) (fx v75_2) ?_ ?_ (Le.trans (B9 [0, 1, 0] rfl) (E8 2 (Eq.trans (by first | exact D7 (fun z => Own.arr _ _ _ z :: _) (hto v75_2).2.1 | exact D7 (fun z => Own.arr _ _ _ z :: _) (by first | (rw [AF5, e6]; exact (hto v75_2).2.1) | (rw [e6]; exact (hto v75_2).2.1))) (S1 _).symm) A5))
   ·exact ⟨by omega, (hto _).1, Ag1 hinvo.2.2.1 _ _, by have h8 := Am6 q x t; have h9 := Ad8 (f := A4.size) hx; omega, BQ2 hinvo.2.2.2.2 hx hnt⟩
   omega
  intro h57;have hnf : 0 < j → c.Key ≠ x.Key := fun h => by simpa [h] using h57
  obtain ⟨hins, hl0⟩ := scan_new hinvo.2.2.1.1 hinv.1 hinv.2 (fun z hz hzz => by rw [hc0 qz8] at hzz; injection hzz with hzz; subst hzz; rw [X9, hng hz]; simpa using fun e => hnf hz e.symm) ⟨t, x.Val, x.Gone⟩;have hnt : ¬ t ≤ O3 q x.Key := by rw [hl0]; omega
  obtain ⟨fx, hto⟩ : ∃ fx, Bu0 ((L7 C4.ocs q xs).take j) x.Key [Y3.cs ⟨t, x.Val, x.Gone⟩] ((L7 C4.ocs q xs).drop j) (nin C4.ow q xs) (AM9 q x t) fx := ⟨_, by unfold AM9; rw [hins]; exact Cm6 hinv.1 hlen _ _⟩;refine R2 ?_;refine AWP.le (z8 [2] 8 rfl rfl (M1 (C3 (i := 0) rfl) G6) Q2) ?_;refine R1 ?_;refine S9 rfl rfl rfl rfl I9 T4 ?_;intro v78;refine R2 ?_;refine A1 rfl (CP0 rfl I9 T4 (A0 rfl) (A0 rfl) qz8 (by rw [hrl]; omega)) ?_;refine H0 (by' := 40) 0 rfl rfl rfl rfl I9 Tryz.type262 rfl rfl rfl rfl rfl rfl (A0 rfl) (A0 rfl) rfl BG3 ?_;intro v82_3;refine R2 ?_;refine AWP.le (z8 [0] 13 rfl rfl (M1 (C3 (i := 0) rfl) G6) Q2) ?_;refine AWP.le (B9 [0, 0] rfl) ?_;refine Y7 _ 14 (.pure 1 (.pure 2 (.pure 3 (.pure 5 (.pure 6 (.pure 7 (.pure 12 (.e2 0 (.e2 4 (.e1 8 (.pure 9 (.pure 10 (.e1 11 (.e1 13 .nil))))) 8 (.pure 9 (.pure 10 (.e1 4 (.e1 11 (.e1 13 .nil)))))) 8 (.pure 9 (.pure 10 (.e1 0 (.e1 4 (.e1 11 (.e1 13 .nil)))))))))))))) E3 E3 rfl (S8 2) ?_;refine R2 ?_;refine N5 rfl rfl rfl (fun ext => CO9 rfl I9 T4 (A0 rfl) (A0 rfl) qz8 (by rw [hrl]; omega)) ?_;refine R4 ?_;refine AW3 ?_ ?_
  ·refine L1 rfl rfl rfl (r6 2 <| AB4 rfl I9 T4) (fun a _ => qz4) ?_;intro v83 _;refine AW3 ?_ ?_
   ·refine L1 rfl rfl rfl (L8 (by' := 40) 2 rfl I9 Tryz.type262 rfl rfl rfl rfl rfl rfl (A0 rfl) (A0 rfl) rfl BG3) (fun a _ => qz4) ?_;intro v87_4 _;refine R1 ?_;refine L1 rfl rfl rfl (W5 3 (fun _ => rfl) (r6 3 <| BN9 rfl Z5 AC4 Tryz.zeroValue257 rfl rfl rfl rfl (E1 (A0 rfl) (m3 _) X0) rfl rfl)) (fun a _ => qz4) ?_;intro v91 hone_v91;have one_v91 := hone_v91.2;refine N5 rfl rfl rfl (fun ext => j6 (places := #[(0, 1), (1, 1)]) rfl n9 Tryz.zeroValue262 (fun w => by kernel_rfl) rfl (E1 (A0 rfl) (a8 _) (E1 (A0 rfl) (O8 one_v91) X0)) rfl) ?_;refine R2 ?_;refine L1 rfl rfl rfl (L8 (by' := 40) 2 rfl I9 Tryz.type262 rfl rfl rfl rfl rfl rfl (A0 rfl) (A0 rfl) rfl BG3) (fun a _ => qz4) ?_;intro v94_5 _;refine R1 ?_;refine L1 rfl rfl rfl (L8 (by' := 40) 2 rfl I9 Tryz.type262 rfl rfl rfl rfl rfl rfl (A0 rfl) (A0 rfl) rfl BG3) (fun a _ => qz4) ?_;intro v96_6 _;refine R3 ?_;refine K2 qz49 ?_;refine AWP.le (B9 [0, 0, 0, 0] rfl) ?_;refine AWP.le (Q8 3 (t := nin C4.ow (AM9 q x t) (fx v91)) ((hto v91).2.2)) ?_;refine R4 ?_;refine u4 i v q xs (i + 1) (v96_6) (AM9 q x t) (fx v91) ?_ ?_ (Le.trans (B9 [0, 0, 0] rfl) (E8 2 (Eq.trans qz68 (S1 _).symm) A5))
    ·exact ⟨by omega, (hto _).1, Ag1 hinvo.2.2.1 _ _, by have h8 := Am6 q x t; have h9 := Ad8 (f := A4.size) hx; omega, BQ2 hinvo.2.2.2.2 hx hnt⟩
    omega
   refine L1 rfl rfl rfl (W5 3 (fun _ => rfl) (r6 3 <| BN9 rfl Z5 AC4 Tryz.zeroValue257 rfl rfl rfl rfl (E1 (A0 rfl) (m3 _) X0) rfl rfl)) (fun a _ => qz4) ?_;intro v91 hone_v91;have one_v91 := hone_v91.2;refine N5 rfl rfl rfl (fun ext => j6 (places := #[(0, 1), (1, 1)]) rfl n9 Tryz.zeroValue262 (fun w => by kernel_rfl) rfl (E1 (A0 rfl) (a8 _) (E1 (A0 rfl) (O8 one_v91) X0)) rfl) ?_;refine R2 ?_;refine L1 rfl rfl rfl (L8 (by' := 40) 2 rfl I9 Tryz.type262 rfl rfl rfl rfl rfl rfl (A0 rfl) (A0 rfl) rfl BG3) (fun a _ => qz4) ?_;intro v87_7 _;refine R1 ?_;refine L1 rfl rfl rfl (L8 (by' := 40) 2 rfl I9 Tryz.type262 rfl rfl rfl rfl rfl rfl (A0 rfl) (A0 rfl) rfl BG3) (fun a _ => qz4) ?_;intro v94_8 _;refine R1 ?_;refine L1 rfl rfl rfl (L8 (by' := 40) 2 rfl I9 Tryz.type262 rfl rfl rfl rfl rfl rfl (A0 rfl) (A0 rfl) rfl BG3) (fun a _ => qz4) ?_;intro v96_9 _;refine R3 ?_;refine K2 qz49 ?_;refine AWP.le (B9 [0, 0, 0, 0] rfl) ?_;refine AWP.le (Q8 3 (t := nin C4.ow (AM9 q x t) (fx v91)) ((hto v91).2.2)) ?_;refine R4 ?_;refine u4 i v q xs (i + 1) (v96_9) (AM9 q x t) (fx v91) ?_ ?_ (Le.trans (B9 [0, 0, 0] rfl) (E8 2 (Eq.trans qz68 (S1 _).symm) A5))
   ·exact ⟨by omega, (hto _).1, Ag1 hinvo.2.2.1 _ _, by have h8 := Am6 q x t; have h9 := Ad8 (f := A4.size) hx; omega, BQ2 hinvo.2.2.2.2 hx hnt⟩
   omega
  refine L1 rfl rfl rfl (W5 2 (fun _ => rfl) (r6 2 <| BN9 rfl Z5 AC4 Tryz.zeroValue257 rfl rfl rfl rfl (E1 (A0 rfl) (m3 _) X0) rfl rfl)) (fun a _ => qz4) ?_;intro v91 hone_v91;have one_v91 := hone_v91.2;refine N5 rfl rfl rfl (fun ext => j6 (places := #[(0, 1), (1, 1)]) rfl n9 Tryz.zeroValue262 (fun w => by kernel_rfl) rfl (E1 (A0 rfl) (a8 _) (E1 (A0 rfl) (O8 one_v91) X0)) rfl) ?_;refine R2 ?_;refine L1 rfl rfl rfl (r6 3 <| AB4 rfl I9 T4) (fun a _ => qz4) ?_;intro v83 _;refine R1 ?_;refine L1 rfl rfl rfl (L8 (by' := 40) 3 rfl I9 Tryz.type262 rfl rfl rfl rfl rfl rfl (A0 rfl) (A0 rfl) rfl BG3) (fun a _ => qz4) ?_;intro v87_10 _;refine R1 ?_;refine L1 rfl rfl rfl (L8 (by' := 40) 3 rfl I9 Tryz.type262 rfl rfl rfl rfl rfl rfl (A0 rfl) (A0 rfl) rfl BG3) (fun a _ => qz4) ?_;intro v94_11 _;refine R1 ?_;refine L1 rfl rfl rfl (L8 (by' := 40) 3 rfl I9 Tryz.type262 rfl rfl rfl rfl rfl rfl (A0 rfl) (A0 rfl) rfl BG3) (fun a _ => qz4) ?_;intro v96_12 _;refine R3 ?_;refine K2 qz49 ?_;refine AWP.le (B9 [0, 0, 1, 0] rfl) ?_;refine AWP.le (Q8 3 (t := nin C4.ow (AM9 q x t) (fx v91)) ((hto v91).2.2)) ?_;refine R4 ?_;refine u4 i v q xs (i + 1) (v96_12) (AM9 q x t) (fx v91) ?_ ?_ (Le.trans (B9 [0, 0, 0] rfl) (E8 2 (Eq.trans qz68 (S1 _).symm) A5))
  ·exact ⟨by omega, (hto _).1, Ag1 hinvo.2.2.1 _ _, by have h8 := Am6 q x t; have h9 := Ad8 (f := A4.size) hx; omega, BQ2 hinvo.2.2.2.2 hx hnt⟩
  omega
 intro h19;have k19 := C2 h19;have hge : w.length ≤ i := by omega
 have hpe := put_end hinv.2.2.2.2 hge;have htk := BX9 (f := A4.size) (l := w) i;have hso : D2 C4.size q ≤ 4194304 := by omega
 have he : AS6 l w t = (q, Ao2 q) := by unfold AS6; rw [hpe]
 rw [he];refine R5 ?_;refine A1 rfl (Ak0 rfl Tryz.call226 rfl (Bg4 q hso) (y5 _) (Z0 (Bn1 (A0 rfl) (BO2 C4.lcM (by first | exact hlen | exact hlen.trans (BO3 _ _).symm) 0 rfl (fun o ho => List.mem_of_mem_drop (i := 1) (show o ∈ nin C4.ow q xs from by first | exact ho | exact AS9 _ ho | exact AS8 _ ho | exact AS8 _ (AS9 _ ho) | exact AS8 _ (AS8 _ ho))))) AI5)) ?_;refine R4 ?_;first | exact I2 [0] (v, []) (rfl) rfl B7 AJ2 | exact I3 [0] 0 (nin C4.ow q xs) [] (v, []) (rfl) rfl (show List.Perm (nin C4.ow q xs) ((nin C4.ow q xs) ++ []) from B6) B7 AJ2 | exact I3 [0] 0 (nin C4.ow q xs) [] (v, xs) (hinv.2.1) rfl (show List.Perm (nin C4.ow q xs) ((nin C4.ow q xs) ++ []) from B6) B7 AJ2
end Go.PQ
namespace Go.M
open Go.AV
theorem CE1 {h : F1} : ∀ {l : List F1} {p : Nat}, p ≤ l.length → (∀ i x, i < p → l[i]? = some x → x.Txn ≤ h.Txn) → (∀ x, l[p]? = some x → h.Txn < x.Txn) → AZ9 h l = l.take p ++ h :: l.drop p
  | [], p, hp, _, _ => by simp at hp; subst hp; rfl
  | g :: l, 0, _, _, h2 => by unfold AZ9; rw [D1 (h2 g rfl)]; rfl
  | g :: l, p + 1, hp, h1, h2 => by
    unfold AZ9;rw [D4 (by have := h1 0 g qz8 rfl; omega), CE1 (by simpa using hp) (fun i x hi hx => h1 (i + 1) x qz8 AS0) (fun x hx => h2 x AS0)];rfl
theorem CE2 {h : P5} : ∀ {l : List P5} {p : Nat}, p ≤ l.length → (∀ i x, i < p → l[i]? = some x → x.Txn ≤ h.Txn) → (∀ x, l[p]? = some x → h.Txn < x.Txn) → AU8 h l = l.take p ++ h :: l.drop p
  | [], p, hp, _, _ => by simp at hp; subst hp; rfl
  | g :: l, 0, _, _, h2 => by unfold AU8; rw [D1 (h2 g rfl)]; rfl
  | g :: l, p + 1, hp, h1, h2 => by
    unfold AU8;rw [D4 (by have := h1 0 g qz8 rfl; omega), CE2 (by simpa using hp) (fun i x hi hx => h1 (i + 1) x qz8 AS0) (fun x hx => h2 x AS0)];rfl
def F1.ocs (h : F1) (x : Value × Value) : List AV := [AV.int h.Txn, AV.int h.Time, AV.int h.Lead, AV.is x.1, AV.is x.2]
def H2.ocs (s : H2) (x : Value × Value) : List AV := [AV.int s.Floor, AV.list 2 (s.Cells.map C4.cs), AV.is x.1, AV.is x.2]
end Go.M
namespace Go.PQ
open Go.Proofs
open Go Go.AV Go.M
def F1.ow (h : F1) (x : Value × Value) : List Own := [.arr x.1 9 1 (h.Reads.map fun k => [AV.str k]), .arr x.2 69 3 (h.Writes.map A4.cs)]
def H2.ow (s : H2) (x : Value × Value) : List Own := [.arr x.1 253 5 (s.Held.map F1.cs), .arr x.2 137 3 (s.Told.map P5.cs)]
theorem F1.lc (h : F1) (x : Value × Value) : AD0 (F1.ow h x) (F1.ocs h x) h.cs :=
  E2 J0 (E2 J0 (E2 J0 (E2 (M1 (C3 (i := 0) rfl) G6) (E2 (M1 (C3 (i := 1) rfl) G6) o5))))
theorem H2.lc (s : H2) (x : Value × Value) : AD0 (H2.ow s x) (H2.ocs s x) s.cs :=
  E2 J0 (E2 J0 (E2 (M1 (C3 (i := 0) rfl) G6) (E2 (M1 (C3 (i := 1) rfl) G6) o5)))
attribute [local irreducible] OpW OpA OpS AWP J3 K8 K0 OpE J6 H5 J9 Le Ev F8 L6 Int.tmod Int.tdiv IntKind.wrap
end Go.PQ
namespace Go.M
open Go.AV
theorem Bg7 {s : H2} {l : List O0} {i : Nat} {r : O0} (h : l[i]? = some r) : o7 s (l.take (i + 1)) = AP3 (o7 s (l.take i)) r := by
  unfold o7;rw [V7, h, List.foldl_append]; rfl
theorem BJ9 : ∀ {l : List O0} {s : H2} {r : O0}, Af1 s (l ++ [r]) = Af1 s l ++ [(l4 (o7 s l) r).2]
  | [], s, r => rfl
  | x :: l, s, r => by
    show _ :: Af1 (AP3 s x) (l ++ [r]) = _
    rw [BJ9]; rfl
theorem BY0 {s : H2} {l : List O0} {i : Nat} {r : O0} (h : l[i]? = some r) : Af1 s (l.take (i + 1)) = Af1 s (l.take i) ++ [(l4 (o7 s (l.take i)) r).2] := by
  rw [V7, h]; exact BJ9
def phi (s : H2) : Nat := D2 C4.size s.Cells + 3 * D2 F1.size s.Held + s.Told.length
theorem size_phi (s : H2) : s.size ≤ phi s := by
  have h1 : s.size = D2 C4.size s.Cells + D2 F1.size s.Held + s.Told.length := rfl;unfold phi; omega
theorem Cm7 {α : Type} {f : α → Nat} {a b : List α} (h : a.Perm b) : D2 f a = D2 f b := by
  unfold D2; rw [h.length_eq, (h.map f).sum_nat]
theorem CT4 {t : Int} : ∀ {w : List A4} {l q : List C4}, j9 l w t = some q → D2 C4.size q ≤ D2 C4.size l + 2 * D2 A4.size w
  | [], l, q, h => by simp [j9] at h; subst h; omega
  | x :: w, l, q, h => by
    unfold j9 at h;split at h
    · cases h
    · have h1 := CT4 h
      have h2 := Am6 l x t;rw [U5]; omega
theorem Cm8 {l : List F1} {n : Int} {h : F1} (hf : AL5 l n = some h) : D2 F1.size (AJ6 l n) + (1 + h.size) ≤ D2 F1.size l := by
  induction l with
  | nil => simp [AL5] at hf
  | cons g l ih =>
    unfold AL5 at hf ih;rw [List.find?_cons] at hf;unfold AJ6 at ih ⊢;by_cases e : g.Txn = n
    · rw [e8.2 e] at hf
      injection hf with hf; subst hf
      rw [List.filter_cons_of_neg (by simp [e]), U5];have : D2 F1.size (l.filter fun h => h.Txn != n) ≤ D2 F1.size l := by
        clear ih;induction l with
        | nil => exact L5 _
        | cons y l ih =>
          rw [List.filter_cons];split
          · rw [U5, U5]; omega
          · rw [U5]; omega
      omega
    · rw [beq_eq_false_iff_ne.2 e] at hf
      rw [List.filter_cons_of_pos (by simp [e]), U5, U5];have := ih hf; omega
theorem Cb1 (l : List F1) (n : Int) : D2 F1.size (AJ6 l n) ≤ D2 F1.size l := by
  induction l with
  | nil => exact L5 _
  | cons y l ih =>
    unfold AJ6 at ih ⊢;rw [List.filter_cons];split
    · rw [U5, U5]; omega
    · rw [U5]; omega
theorem Cv3 (s : H2) (r : O0) : phi (l4 s r).1 ≤ phi s + 3 * (1 + r.size) + 1 := by
  have hh : (hOf r).size = r.size := rfl;have hins : D2 F1.size (AZ9 (hOf r) s.Held) = 1 + r.size + D2 F1.size s.Held := by rw [Cm7 (Au1 _ _), U5, hh]
  have htl : ∀ t : P5, (AU8 t s.Told).length = s.Told.length + 1 := fun t => by rw [(BW6 _ _).length_eq]; rfl
  have h2 := Cb1 s.Held r.Txn;unfold l4;split
  · unfold phi; dsimp only; omega
  · split
    · dsimp only; omega
    · split
      · unfold phi; dsimp only; rw [hins]; omega
      · split
        · cases hf : AL5 s.Held r.Txn with
          | none => dsimp only; omega
          | some h =>
            dsimp only;split
            · dsimp only; omega
            · split
              · rename_i hp
                have h3 := CT4 (Bw9 hp).1;have h4 := Cm8 hf;have h5 : h.size = D2 (fun x => x.length) h.Reads + D2 A4.size h.Writes := rfl;unfold Af0 phi; dsimp only; rw [htl]; omega
              · dsimp only; omega
        · unfold Af0 phi; dsimp only; rw [htl]; omega
theorem phi_step (s : H2) (r : O0) : phi (AP3 s r) ≤ phi s + 3 * (1 + r.size) + 1 := by
  unfold AP3;split
  · exact Cv3 s r
  · omega
theorem CT5 {m : Nat} : ∀ {l : List O0} {s : H2}, (∀ r ∈ l, r.size ≤ m) → phi (o7 s l) ≤ phi s + l.length * (3 * (1 + m) + 1)
  | [], s, _ => by simp [o7]
  | r :: l, s, h => by
    have h1 := phi_step s r;have h2 := CT5 (l := l) (s := AP3 s r) fun x hx => h x (S7 _ hx);have h3 := h r W6;have h4 : o7 s (r :: l) = o7 (AP3 s r) l := rfl;rw [h4, H1, Nat.add_mul, Nat.one_mul];omega
theorem Ah6 {r : O0} (h : U7 r = true) : r.size ≤ 400 := by
  have g := goodR h;have h1 : D2 (fun x : Str => x.length) r.Reads ≤ r.Reads.length * 13 := y6 fun x hx => Bn9 (g.reads.2 x hx);have h2 : D2 A4.size r.Writes ≤ r.Writes.length * 37 := y6 (f := A4.size) fun x hx => by
    have := g.writes.2 x hx;have k1 := Bn9 this.1;have k2 := Ck2 this.2.1;show x.Key.length + x.Val.length ≤ 36
    omega
  have h3 : r.size = D2 (fun x : Str => x.length) r.Reads + D2 A4.size r.Writes := rfl;have := g.reads.1;have := g.writes.1;omega
def AO7 (l : List F1) (k : Str) (t : Int) : List Int := (l.filter fun h => AP6 h.Writes k && decide (h.Time ≤ t)).map F1.Txn
def zTold : P5 := ⟨0, false, 0⟩
def zHeld : F1 := ⟨0, 0, 0, [], []⟩
theorem Cm9 {l : List P5} {n : Int} : BS0 l n = none ↔ Aj5 l n = false := by
  unfold BS0 Aj5; rw [List.find?_eq_none, List.any_eq_false]
theorem Bp7 {l : List F1} {i : Nat} {h : F1} {k : Str} {t : Int} (hx : l[i]? = some h) (hc : (AP6 h.Writes k && decide (h.Time ≤ t)) = true) : AO7 (l.take (i + 1)) k t = AO7 (l.take i) k t ++ [h.Txn] := by
  unfold AO7; rw [V7, hx, List.filter_append, V1];show _ ++ List.map _ (List.filter _ [h]) = _
  rw [List.filter_cons_of_pos (p := fun h : F1 => AP6 h.Writes k && decide (h.Time ≤ t)) hc]; rfl
theorem CE3 {l : List F1} {i : Nat} {h : F1} {k : Str} {t : Int} (hx : l[i]? = some h) (hc : (AP6 h.Writes k && decide (h.Time ≤ t)) = false) : AO7 (l.take (i + 1)) k t = AO7 (l.take i) k t := by
  unfold AO7; rw [V7, hx, List.filter_append, V1];show _ ++ List.map _ (List.filter _ [h]) = _
  rw [List.filter_cons_of_neg (p := fun h : F1 => AP6 h.Writes k && decide (h.Time ≤ t)) (by rw [hc]; decide)]; simp
theorem Cn0 (l : List F1) (k : Str) (t : Int) : (AO7 l k t).length ≤ l.length := by unfold AO7; rw [A6]; exact List.length_filter_le _ _
theorem Cn1 {s : H2} (g : GS s) {h : F1} (hm : h ∈ s.Held) : 1 ≤ h.Time ∧ h.Time ≤ 100000 ∧ adj T1 h.Writes = true := by
  obtain ⟨g1, g2, g3⟩ := g.good h hm;have h1 := g1;unfold U7 AX8 at h1;rw [D1 rfl] at h1;unfold Ay5 AU5 within at h1
  simp only [F0, I4] at h1;exact ⟨by omega, by omega, good_adj g1⟩
theorem fullC_at {l : List C4} {k : Str} {c : C4} (hc : ¬ atC l k < 0 → Z9 l k = some c) : At0 l k = (decide ((0 : Int) ≤ atC l k) && decide ((16 : Int) ≤ (c.Vers.length : Int))) := by
  unfold At0;by_cases h : atC l k < 0
  · rw [Bw6 h, AM4 qz8]; rfl
  · rw [hc h, AB1 qz8, Bool.true_and]
    dsimp only;rw [decide_eq_decide]; omega
theorem at_some (l : List C4) (k : Str) : ∃ c : C4, ¬ atC l k < 0 → (∃ p : Nat, atC l k = (p : Int) ∧ l[p]? = some c) ∧ Z9 l k = some c := by
  by_cases h : atC l k < 0
  · exact ⟨⟨[], []⟩, fun k => absurd h k⟩
  · obtain ⟨p, c, h1, h2, h3⟩ := Bw7 h
    exact ⟨c, fun _ => ⟨⟨p, h1, h2⟩, h3⟩⟩
theorem Ax4 {s : H2} {i : Nat} {h y : F1} (hx : s.Held[i]? = some h) (hy : s.Held[i - 1]? = some y) : Ag7 s i = (!((!Av0 (AX8 h) || decide (s.Floor < h.Time)) || (decide ((0 : Int) < (i : Int)) && decide (h.Txn ≤ y.Txn))) && ((s.Held.take i).all (fun g => apart g h.Reads h.Writes) && h.Writes.all fun w => decide (O3 s.Cells w.Key < h.Time))) := by
  rw [Cu9 hx hy, Am3];have h2 : ((s.Held.take i).all fun g => apart g h.Reads h.Writes) = !((s.Held.take i).any fun g => BR9 h g) := by
    rw [List.not_any_eq_all_not]; congr 1; funext g; rw [Bg0, Bool.not_not]
  have h3 : (h.Writes.all fun w => decide (O3 s.Cells w.Key < h.Time)) = !(h.Writes.any fun w => decide (h.Time ≤ O3 s.Cells w.Key)) := by
    rw [List.not_any_eq_all_not]; congr 1; funext w; rw [← decide_not, decide_eq_decide]; omega
  rw [h2, h3]
theorem BQ3 {s : H2} {i : Nat} {t y : P5} (hx : s.Told[i]? = some t) (hy : s.Told[i - 1]? = some y) : Ao4 s i = (!((((!within t.Txn 1 60 || (decide ((0 : Int) < (i : Int)) && decide (t.Txn ≤ y.Txn))) || (t.Yes && !within t.Time 1 s.Floor)) || (!t.Yes && (t.Time != 0)))) && !AU7 s.Held t.Txn) := by
  rw [Cv0 hx hy];congr 2
  show ((!within t.Txn 1 60 || _) || _) = _
  have e : (!((t.Yes && within t.Time 1 s.Floor) || (!t.Yes && (t.Time == 0)))) = ((t.Yes && !within t.Time 1 s.Floor) || (!t.Yes && (t.Time != 0))) := by
    show _ = ((t.Yes && !within t.Time 1 s.Floor) || (!t.Yes && !(t.Time == 0)))
    cases t.Yes <;> simp
  rw [e]
  cases within t.Txn 1 60 <;> cases (decide ((0 : Int) < (i : Int)) && decide (t.Txn ≤ y.Txn)) <;> cases (t.Yes && !within t.Time 1 s.Floor) <;> cases (!t.Yes && (t.Time != 0)) <;> rfl
def AM1 (l : List F1) (n : Int) : F1 × Bool := match AL5 l n with | some h => (h, true) | none => (zHeld, false)
def AY6 (l : List P5) (n : Int) : P5 × Bool := match BS0 l n with | some h => (h, true) | none => (zTold, false)
theorem BY1 (l : List F1) (n : Int) : (AM1 l n).2 = AU7 l n := by
  unfold AM1
  cases h : AL5 l n with
  | none => exact (Bo7.1 h).symm
  | some x => obtain ⟨h1, h2⟩ := Ax0 h; exact (hasH_iff.2 ⟨x, h1, h2⟩).symm
theorem Cv4 (l : List P5) (n : Int) : (AY6 l n).2 = Aj5 l n := by
  unfold AY6
  cases h : BS0 l n with
  | none => exact (Cm9.1 h).symm
  | some x =>
    unfold BS0 at h;exact (hasT_iff.2 ⟨x, An5 h, by simpa using List.find?_some h⟩).symm
theorem BQ4 {α : Type} {p : α → Bool} : ∀ {l : List α} {i : Nat} {x : α}, l[i]? = some x → p x = true → (∀ j y, j < i → l[j]? = some y → p y = false) → l.find? p = some x
  | [], i, x, h, _, _ => by simp at h
  | y :: l, 0, x, h, hp, _ => by simp at h; subst h; rw [List.find?_cons, hp]
  | y :: l, i + 1, x, h, hp, hn => by
    rw [List.find?_cons, hn 0 y qz8 rfl];exact BQ4 Al3 hp fun j z hj hz => hn (j + 1) z qz8 (by simpa using hz)
theorem CT6 {α : Type} {p : α → Bool} {l : List α} (hn : ∀ (j : Nat) (y : α), l[j]? = some y → p y = false) : l.find? p = none := by
  rw [List.find?_eq_none];intro x hx;obtain ⟨j, hj⟩ := j4 hx;rw [hn j x hj]; decide
structure SO (s : H2) : Prop where
  floor : 0 ≤ s.Floor
  cells : AU6 s.Cells
  hsort : s.Held.Pairwise fun a b => a.Txn < b.Txn
  tsort : s.Told.Pairwise fun a b => a.Txn < b.Txn
  times : ∀ h ∈ s.Held, 1 ≤ h.Time
theorem gs_so {s : H2} (g : GS s) : SO s := ⟨g.floor.1, Ab6 g.cells, g.hsort, g.tsort, fun h hm => (Cn1 g hm).1⟩
theorem Ch6 {t : Int} : ∀ {w : List A4} {l q : List C4}, AU6 l → j9 l w t = some q → AU6 q
  | [], l, q, h, e => by simp [j9] at e; subst e; exact h
  | x :: w, l, q, h, e => by
    unfold j9 at e;split at e
    · cases e
    · exact Ch6 (Ag1 h _ _) e
theorem so_apply {s : H2} (g : SO s) {r : O0} (h : (l4 s r).2 = true) : SO (l4 s r).1 := by
  have h0 := g.floor;have hless : SO ⟨s.Floor, s.Cells, AJ6 s.Held r.Txn, s.Told⟩ := ⟨h0, g.cells, g.hsort.sublist List.filter_sublist, g.tsort, fun k hk => g.times k (Ab7.1 hk).1⟩;unfold l4 at h ⊢;by_cases h4 : r.Kind = 4
  · rw [D1 h4] at h ⊢
    have := AA2 h;exact ⟨by dsimp only; omega, g.cells, g.hsort, g.tsort, g.times⟩
  · rw [D4 h4] at h ⊢
    by_cases hT : Aj5 s.Told r.Txn = true
    · rw [D1 hT] at h; cases h
    · rw [D4 hT] at h ⊢
      rw [Bool.not_eq_true] at hT;have htn := Bk2.1 hT;have htl : (AU8 ⟨r.Txn, r.Yes, r.Time⟩ s.Told).Pairwise fun a b => a.Txn < b.Txn := BW8 g.tsort htn;by_cases h1 : r.Kind = 1
      · rw [D1 h1] at h ⊢
        simp only [F0, l7, I4] at h;refine ⟨by dsimp only; omega, g.cells, BW7 g.hsort (Aj1.1 h.1.1), g.tsort, fun k hk => ?_⟩;rcases Aj0.1 hk with rfl | hk
        · show 1 ≤ r.Time; omega
        · exact g.times k hk
      · rw [D4 h1] at h ⊢
        by_cases hy : r.Yes = true
        · rw [D1 hy] at h ⊢
          cases hf : AL5 s.Held r.Txn with
          | none => rw [hf] at h; cases h
          | some k =>
            rw [hf] at h;dsimp only at h ⊢;by_cases hlt : r.Time < k.Time
            · rw [D1 hlt] at h; cases h
            · rw [D4 hlt] at h ⊢
              by_cases hp : (AS6 s.Cells k.Writes r.Time).2 = true
              · rw [D1 hp]
                exact ⟨by unfold Af0; dsimp only; split <;> omega, Ch6 g.cells (Bw9 hp).1, hless.hsort, htl, hless.times⟩
              · rw [D4 hp] at h; cases h
        · rw [D4 hy]
          exact ⟨h0, g.cells, hless.hsort, htl, hless.times⟩
theorem so_step {s : H2} (g : SO s) (r : O0) : SO (AP3 s r) := by
  unfold AP3;split
  · exact so_apply g ‹_›
  · exact g
theorem so_zero : SO AE0 := gs_so Bc7
theorem Ch7 : ∀ {l : List O0} {s : H2}, SO s → SO (o7 s l)
  | [], s, g => g
  | r :: l, s, g => by
    show SO (o7 (AP3 s r) l)
    exact Ch7 (so_step g r)
theorem BE9 {l : List F1} {i : Nat} {h : F1} {n : Int} (hx : l[i]? = some h) : AJ6 (l.take (i + 1)) n = if (h.Txn != n) = true then AJ6 (l.take i) n ++ [h] else AJ6 (l.take i) n := by
  unfold AJ6;rw [V7, hx, List.filter_append];show _ ++ List.filter _ [h] = _
  split
  · rename_i e; rw [List.filter_cons_of_pos (p := fun h : F1 => h.Txn != n) e]; rfl
  · rename_i e; rw [List.filter_cons_of_neg (p := fun h : F1 => h.Txn != n) e]; simp
end Go.M
namespace Go.PQ
open Go.Proofs
open Go Go.AV Go.M
attribute [local irreducible] OpW OpA OpS AWP J3 K8 K0 OpE J6 H5 J9 Le Ev F8 L6 Int.tmod Int.tdiv IntKind.wrap
end Go.PQ
namespace Go.PQ
open Go.Proofs
open Go Go.AV Go.M
attribute [local irreducible] OpW OpA OpS AWP J3 K8 K0 OpE J6 H5 J9 Le Ev F8 L6 Int.tmod Int.tdiv IntKind.wrap
theorem Ax5 (l : List Str) (hl : l.length ≤ 4194304) : M7 148 [strs l] [] (fun _ : Value => True) (fun v => [.arr v 9 1 (l.map fun s => [AV.str s])]) (fun v => AV.is v) := by
  refine C5 Tryz.func148 rfl Tryz.ntmps148 rfl ?_;refine R2 ?_;refine A1 rfl (D8 rfl H3) ?_;refine R3 ?_;refine S9 rfl rfl rfl rfl G9 M4 ?_;intro v3;refine R1 ?_;refine H0 (by' := 16) 0 rfl rfl rfl rfl G9 Tryz.type9 rfl rfl rfl rfl rfl rfl (A0 rfl) (A0 rfl) rfl BL9 ?_;intro v5_1;refine R3 ?_;exact I2 [0] v5_1 (trivial) rfl B7 K5
theorem AW8 (v : Value) (l : List Str) (s : Str) (hs : AO2 l) (hl : l.length ≤ 1000000) : M7 128 [AV.is v, AV.str s] [.arr v 9 1 (l.map fun s => [AV.str s])] (fun _ : Value => True) (fun v' => [.arr v' 9 1 ((AA6 l s).map fun s => [AV.str s])]) (fun v' => AV.is v') := by
 refine C5 Tryz.func128 rfl Tryz.ntmps128 rfl ?_;refine R2 ?_;refine A1 rfl (D8 rfl H3) ?_;refine R9 ?_;refine E9 [(0, _), (1, _), (4, _)] _ (fun (k : Nat) => k ≤ l.length ∧ ∀ i y, k ≤ i → l[i]? = some y → Op.bytesLess s y = true) (fun k => []) (fun k => [(5, AV.int k)]) (fun k => k) (l.length) ?_ (F5 ⟨D7 (fun z => some (AV.int z)) (by rw [A6]), rfl, rfl, rfl, trivial⟩) ?_
 ·exact ⟨L5 _, fun i y h1 h2 => by (have := (F4.1 h2).1; omega)⟩
 intro k hinv;obtain ⟨y, hy0⟩ : ∃ y, 0 < k → l[k - 1]? = some y := by (by_cases h9 : 0 < k; (have h8 := hinv.1; exact ⟨_, fun _ => O1 (show k - 1 < l.length by omega)⟩); exact ⟨[], fun h8 => absurd h8 h9⟩)
 refine R9 ?_;refine N4 rfl (fun hc => H6 0 rfl G9 M4 (A8 rfl hc) rfl (A8 rfl hc) BL6 (by have := AA2 hc; have := hinv.1; simp only [A6]; omega)) ?_;refine N4 rfl (fun hc => AW1 0 rfl (A8 rfl hc) rfl AA4 (str_at (hy0 BL6) BL6)) ?_;refine R1 ?_;refine N4 rfl (fun hc => Bm6 rfl (A8 rfl hc) (A8 rfl hc)) ?_;refine R2 ?_;refine A2 ?_ ?_
 ·intro h19;have hkt : 0 < k ∧ Op.bytesLess s y = true := by (rw [Bc6] at h19; simpa using h19)
  refine R7 ?_;refine Ab1 ?_;refine F7 k (k - 1) ?_ ?_ (F5 ⟨D7 (fun z => some (AV.int z)) qz8, rfl, rfl, rfl, trivial⟩)
  ·exact ⟨by omega, fun i z hi hz => if e : k ≤ i then hinv.2 i z e hz else qz105⟩
  omega
 intro h19;have hng : 0 < k → Op.bytesLess s y = false := fun h => by (rw [Bc6] at h19; simpa [h] using h19)
 refine R10 ?_;refine N4 rfl (fun hc => H6 0 rfl G9 M4 (A8 rfl hc) rfl (A8 rfl hc) BL6 (by have := AA2 hc; have := hinv.1; simp only [A6]; omega)) ?_;refine N4 rfl (fun hc => AW1 0 rfl (A8 rfl hc) rfl AA4 (str_at (hy0 BL6) BL6)) ?_;refine R4 ?_;refine A2 ?_ ?_
 ·intro h32;have hke : 0 < k ∧ y = s := by simpa using h32
  rw [Bo1 hs (by rw [← hke.2]; exact hy0 hke.1)];refine R6 ?_;exact I2 [0] v (trivial) rfl qz94 (N6 rfl (A7 rfl B7))
 intro h32;have hne : 0 < k → y ≠ s := fun h e => by simp [h, e] at h32
 rw [CC1 hs hinv.1 hinv.2 (fun z hz hzz => by rw [hy0 hz] at hzz; injection hzz with hzz; subst hzz; exact ⟨hng hz, hne hz⟩)];refine R5 ?_;refine A1 rfl (CL8 0 rfl G9 M4 (A0 rfl) rfl (A0 rfl) qz8 AG1) ?_;refine At8 [] rfl rfl rfl rfl Tryz.call148 rfl (Ax5 (l.drop k) (by rw [w4]; omega)) rfl (Z0 (Bn1 (A0 rfl) (CP7 (C3 (i := 0) rfl) qz8 qz8)) AI5) qz0 qz0 qz0 ?_;intro x37 ok37;refine R3 ?_;refine AWP.le (z8 [0] 6 rfl rfl (M1 (C3 (i := 0) rfl) G6) (z7 0 rfl rfl Q2)) ?_;refine R3 ?_;refine CP1 0 rfl rfl rfl rfl G9 M4 (A0 rfl) rfl (A0 rfl) qz8 AG1 ?_;intro v40_1;rw [AC6, ← List.map_take];refine At8 [] rfl rfl rfl rfl Tryz.call148 rfl (Ax5 (l.take k) Ba9) rfl (Z0 (Ay9 0 (A0 rfl) rfl) AI5) qz0 qz0 qz0 ?_;intro x41 ok41;refine R2 ?_;refine H0 (by' := 16) 0 rfl rfl rfl rfl G9 Tryz.type9 rfl rfl rfl rfl rfl rfl (A0 rfl) (A0 rfl) rfl Bu5 ?_;intro v44_2;refine R1 ?_;refine H0 (by' := 16) 0 rfl rfl rfl rfl G9 Tryz.type9 rfl rfl rfl rfl rfl rfl (A0 rfl) (A0 rfl) rfl (by simp only [A6, I5, w4, G3, S2]; omega) ?_;intro v46_3;refine R3 ?_;exact I2 [0] v46_3 (trivial) rfl qz94 (N6 rfl (A7 rfl B7))
theorem CT7 (r : List Str) (w : List A4) (hr : r.length ≤ 400000) (hw : w.length ≤ 400000) : M7 130 [strs r, AV.list 3 (w.map A4.cs)] [] (fun _ : Value => True) (fun v => [.arr v 9 1 ((AB0 (r ++ U0 w) []).map fun s => [AV.str s])]) (fun v => AV.is v) := by
 refine C5 Tryz.func130 rfl Tryz.ntmps130 rfl ?_;refine R2 ?_;refine A1 rfl (D8 rfl H3) ?_;refine R3 ?_;refine T6 9 1 rfl rfl rfl rfl H3 ?_;intro v5;refine R9 ?_;refine K3 [(1, _), (4, _), (10, _), (11, _)] _ (fun (i : Nat) (v : Value) => i ≤ r.length) (fun i v => [.arr v 9 1 ((AB0 (r.take i) []).map fun s => [AV.str s])]) (fun i v => [(5, AV.is v), (12, AV.int i)]) (fun i v => r.length - i) (0) (v5) ?_ (I6 B7 A5) ?_
 ·exact D6 _
 intro i v hinv;refine R5 ?_;refine A2 ?_ ?_
 ·intro h13;have k13 := C6 h13;have hlt : i < r.length := by omega
  obtain ⟨x, hx⟩ := B3 hlt;have hpl := Af9 (r.take i) [];rw [I5] at hpl;refine R5 ?_;refine A1 rfl (C7 rfl G9 M4 (A0 rfl) (A0 rfl) hx qz3) ?_;refine R6 ?_;refine E6 [0] rfl rfl rfl rfl Tryz.call128 rfl (AW8 v (AB0 (r.take i) []) x (AY7 List.Pairwise.nil).1 (by simp only [P6] at hpl; omega)) E4 rfl ?_;intro x18 ok18;refine R6 ?_;refine G8 i v (i + 1) (x18) ?_ ?_ (I6 (by exact D7 (fun z => [Own.arr _ 9 1 (List.map (fun s => [AV.str s]) z)]) (by rw [V7, hx]; exact (Am4 _ _ _).symm)) A5)
  ·omega
  omega
 intro h13;have k13 := C2 h13;have hge : i = r.length := by omega
 rw [hge, As8];refine R9 ?_;refine K3 [(4, _), (20, _), (21, _)] _ (fun (j : Nat) (u : Value) => j ≤ w.length) (fun j u => [.arr u 9 1 ((AB0 (r ++ U0 (w.take j)) []).map fun s => [AV.str s])]) (fun j u => [(5, AV.is u), (22, AV.int j)]) (fun j u => w.length - j) (0) (v) ?_ (I6 (by (show [_] = [_]; simp [U0])) A5) ?_
 ·exact D6 _
 intro j u hinv;refine R5 ?_;refine A2 ?_ ?_
 ·intro h23;have k23 := C6 h23;have hlt : j < w.length := by omega
  obtain ⟨x, hx⟩ := B3 hlt;have hpl := Af9 (r ++ U0 (w.take j)) [];simp only [G3, U0, A6, I5, P6] at hpl;refine R5 ?_;refine A1 rfl (C7 rfl C0 F2 (A0 rfl) (A0 rfl) hx qz3) ?_;refine R2 ?_;intro b9;refine R6 ?_;refine E6 [1] rfl rfl rfl rfl Tryz.call128 rfl (AW8 u (AB0 (r ++ U0 (w.take j)) []) x.Key (AY7 List.Pairwise.nil).1 (by simp only [U0] at hpl ⊢; omega)) E4 rfl ?_;intro x29 ok29;refine R6 ?_;refine G8 j u (j + 1) (x29) ?_ ?_ (Le.trans (B9 [1, 0] rfl) (E8 1 (by exact D7 (fun z => [Own.arr _ 9 1 (List.map (fun s => [AV.str s]) z)]) (by rw [V7, hx]; simp only [U0, V1, ← e6]; exact (Am4 _ _ _).symm)) A5))
  ·omega
  omega
 intro h23;have k23 := C2 h23;have hge : j = w.length := by omega
 rw [hge, As8];refine R7 ?_;exact I2 [0] u (trivial) rfl B7 K5
end Go.PQ
namespace Go.PQ
open Go.Proofs
open Go Go.AV Go.M
attribute [local irreducible] OpW OpA OpS AWP J3 K8 K0 OpE J6 H5 J9 Le Ev F8 L6 Int.tmod Int.tdiv IntKind.wrap
theorem CI1 (h : F1) : F6 244 [AV.agg h.cs] (AV.agg (AX8 h).cs) := by
  refine B8 Tryz.func244 rfl Tryz.ntmps244 rfl ?_;refine R3 ?_;intro b1;refine R1 ?_;intro b2;refine R17 ?_;exact E5 rfl (H8 (ys := _) 0 rfl rfl Tryz.isAgg220 Tryz.sizeOf220 rfl)
theorem Ax6 (l : List A4) (k : Str) : F6 203 [AV.list 3 (l.map A4.cs), AV.str k] (AV.bool (AP6 l k)) := by
 refine B8 Tryz.func203 rfl Tryz.ntmps203 rfl ?_;refine W4 (t := 0) rfl fun hl => ?_;try simp only [A6] at hl
 refine R12 ?_;refine E9 [(1, _), (7, _), (8, _)] _ (fun (i : Nat) => i ≤ l.length ∧ AP6 l k = (l.drop i).any (fun w => w.Key == k)) (fun i => []) (fun i => [(9, AV.int i)]) (fun i => l.length - i) (0) ?_ (F5 A5) ?_
 ·exact ⟨D6 _, rfl⟩
 intro i hinv;refine R5 ?_;refine A2 ?_ ?_
 ·intro h10;have k10 := C6 h10;have hlt : i < l.length := by omega
  obtain ⟨x, hx⟩ := B3 hlt;refine R5 ?_;refine A1 rfl (C7 rfl C0 F2 (A0 rfl) (A0 rfl) hx qz3) ?_;refine R2 ?_;intro b6;refine R9 ?_;refine A2 ?_ ?_
  ·intro h16;refine R5 ?_;exact E5 rfl (A7 rfl qz162)
  intro h16;refine R5 ?_;refine F7 i (i + 1) ?_ ?_ (Q1 1 A5)
  ·exact ⟨by omega, by rw [hinv.2, J2 hx, AX4, h16]; rfl⟩
  omega
 intro h10;have k10 := C2 h10;have hge : l.length ≤ i := by omega
 refine R6 ?_;exact E5 rfl (A7 rfl qz162)
theorem Bp8 (l : List Str) (k : Str) : F6 238 [strs l, AV.str k] (AV.bool (BH8 l k)) := by
 refine B8 Tryz.func238 rfl Tryz.ntmps238 rfl ?_;refine W4 (t := 0) rfl fun hl => ?_;try simp only [A6] at hl
 refine R12 ?_;refine E9 [(1, _), (7, _), (8, _)] _ (fun (i : Nat) => i ≤ l.length ∧ BH8 l k = (l.drop i).any (fun x => k == x)) (fun i => []) (fun i => [(9, AV.int i)]) (fun i => l.length - i) (0) ?_ (F5 A5) ?_
 ·exact ⟨D6 _, rfl⟩
 intro i hinv;refine R5 ?_;refine A2 ?_ ?_
 ·intro h10;have k10 := C6 h10;have hlt : i < l.length := by omega
  obtain ⟨x, hx⟩ := B3 hlt;refine R5 ?_;refine A1 rfl (C7 rfl G9 M4 (A0 rfl) (A0 rfl) hx qz3) ?_;refine R9 ?_;refine A2 ?_ ?_
  ·intro h15;refine R5 ?_;exact E5 rfl (A7 rfl qz155)
  intro h15;refine R5 ?_;refine F7 i (i + 1) ?_ ?_ (F5 A5)
  ·exact ⟨by omega, by rw [hinv.2, J2 hx, AX4, show (k == x) = false from by have h9 := h15; simp at h9 ⊢; exact fun e => h9 e.symm]; rfl⟩
  omega
 intro h10;have k10 := C2 h10;have hge : l.length ≤ i := by omega
 refine R6 ?_;exact E5 rfl (A7 rfl qz155)
theorem apart_spec (h : F1) (rs : List Str) (ws : List A4) : F6 223 [AV.agg h.cs, strs rs, AV.list 3 (ws.map A4.cs)] (AV.bool (apart h rs ws)) := by
 refine B8 Tryz.func223 rfl Tryz.ntmps223 rfl ?_;refine W4 (t := 1) rfl fun hl1 => ?_;try simp only [A6] at hl1
 refine W4 (t := 2) rfl fun hl2 => ?_;try simp only [A6] at hl2
 refine R3 ?_;intro b3;refine R10 ?_;refine E9 [(2, _), (3, _), (11, _), (12, _)] _ (fun (i : Nat) => i ≤ rs.length ∧ (rs.all fun k => !AP6 h.Writes k) = ((rs.drop i).all fun k => !AP6 h.Writes k)) (fun i => []) (fun i => [(13, AV.int i)]) (fun i => rs.length - i) (0) ?_ (F5 A5) ?_
 ·exact ⟨D6 _, rfl⟩
 intro i hinv;refine R5 ?_;refine A2 ?_ ?_
 ·intro h14;have k14 := C6 h14;have hlt : i < rs.length := by omega
  obtain ⟨x, hx⟩ := B3 hlt;refine R5 ?_;refine A1 rfl (C7 rfl G9 M4 (A0 rfl) (A0 rfl) hx qz3) ?_;refine R8 ?_;refine A1 rfl (A9 rfl Tryz.call203 rfl (Ax6 _ _) E4) ?_;refine R1 ?_;refine A2 ?_ ?_
  ·intro h20;have hfin : apart h rs ws = false := by (unfold apart; rw [hinv.2, J2 hx, w5, h20]; rfl)
   refine R5 ?_;exact E5 rfl (A7 rfl BC9)
  intro h20;refine R5 ?_;refine F7 i (i + 1) ?_ ?_ (F5 A5)
  ·exact ⟨by omega, by rw [hinv.2, J2 hx, w5, h20]; rfl⟩
  omega
 intro h14;have k14 := C2 h14;have hge : rs.length ≤ i := by omega
 have hr : (rs.all fun k => !AP6 h.Writes k) = true := by (rw [hinv.2, l6 hge]; rfl)
 refine R9 ?_;refine E9 [(3, _), (22, _), (23, _)] _ (fun (q : Nat) => q ≤ ws.length ∧ (ws.all fun w => !(AP6 h.Writes w.Key || BH8 h.Reads w.Key)) = ((ws.drop q).all fun w => !(AP6 h.Writes w.Key || BH8 h.Reads w.Key))) (fun q => []) (fun q => [(24, AV.int q)]) (fun q => ws.length - q) (0) ?_ (F5 A5) ?_
 ·exact ⟨D6 _, rfl⟩
 intro q hinv;refine R5 ?_;refine A2 ?_ ?_
 ·intro h25;have k25 := C6 h25;have hlt : q < ws.length := by omega
  obtain ⟨x, hx⟩ := B3 hlt;refine R5 ?_;refine A1 rfl (C7 rfl C0 F2 (A0 rfl) (A0 rfl) hx qz3) ?_;refine R2 ?_;intro b10;refine R8 ?_;refine A1 rfl (A9 rfl Tryz.call203 rfl (Ax6 _ _) E4) ?_;refine R5 ?_;refine W9 rfl (fun hc => A9 rfl Tryz.call238 rfl (Bp8 _ _) (A3 (A8 rfl hc) (A3 (A8 rfl hc) B2))) ?_;refine R2 ?_;refine A2 ?_ ?_
  ·intro h39;have hfin : apart h rs ws = false := by (unfold apart; rw [hinv.2, J2 hx, w5, h39]; simp)
   refine R5 ?_;exact E5 rfl (A7 rfl BC9)
  intro h39;refine R5 ?_;refine F7 q (q + 1) ?_ ?_ (Q1 1 A5)
  ·exact ⟨by omega, by rw [hinv.2, J2 hx, w5, h39]; rfl⟩
  omega
 intro h25;have k25 := C2 h25;have hge : ws.length ≤ q := by omega
 have hfin : apart h rs ws = true := by (unfold apart; rw [hr, hinv.2, l6 hge]; rfl)
 refine R6 ?_;exact E5 rfl (A7 rfl BC9)
theorem Cb2 (l : List F1) (q : Nat) : (hWs (l.take q)).length ≤ (hWs l).length := by
  have h := Bo2 (l.take q) (l.drop q);rw [Aa7] at h;rw [h, G3]; omega
theorem Bp9 (s : H2) (ws : List A4) (hs : s.size ≤ 1048576) (hb : s.Cells.length + ws.length + (hWs s.Held).length ≤ 800000) : F6 224 [AV.agg s.cs, AV.list 3 (ws.map A4.cs)] (AV.bool (room s.Cells (ws ++ hWs s.Held))) := by
 obtain ⟨hs1, hs2, hs3, hs4, hs5⟩ := AS4 hs;obtain ⟨p, hp⟩ : ∃ p : A4 → Bool, p = fun w => !At0 s.Cells w.Key := ⟨_, rfl⟩;obtain ⟨al, hal⟩ : ∃ al, ws ++ hWs s.Held = al := ⟨_, rfl⟩;have hall : al.length ≤ 800000 - s.Cells.length := by rw [← hal, G3]; omega
 rw [hal];refine B8 Tryz.func224 rfl Tryz.ntmps224 rfl ?_;refine R3 ?_;intro b2;refine R4 ?_;refine T6 9 1 rfl rfl rfl rfl H3 ?_;intro v5;refine R10 ?_;refine K3 [(1, _), (2, _), (4, _), (15, _), (16, _)] _ (fun (i : Nat) (v : Value) => i ≤ s.Cells.length) (fun i v => [.arr v 9 1 ((AB0 (AF7 (s.Cells.take i)) []).map fun s => [AV.str s])]) (fun i v => [(5, AV.is v), (17, AV.int i)]) (fun i v => s.Cells.length - i) (0) (v5) ?_ (I6 B7 A5) ?_
 ·exact D6 _
 intro i v hinv;refine R5 ?_;refine A2 ?_ ?_
 ·intro h18;have k18 := C6 h18;have hlt : i < s.Cells.length := by omega
  obtain ⟨c, hx⟩ := B3 hlt;have hpl := Af9 (AF7 (s.Cells.take i)) [];unfold AF7 at hpl;simp only [A6, I5, P6] at hpl;refine R5 ?_;refine A1 rfl (C7 rfl I9 T4 (A0 rfl) (A0 rfl) hx qz3) ?_;refine R2 ?_;intro b7;refine R6 ?_;refine E6 [1] rfl rfl rfl rfl Tryz.call128 rfl (AW8 v (AB0 (AF7 (s.Cells.take i)) []) c.Key (AY7 List.Pairwise.nil).1 (by unfold AF7; omega)) E4 rfl ?_;intro x24 ok24;refine R6 ?_;refine G8 i v (i + 1) (x24) ?_ ?_ (Le.trans (B9 [1, 0] rfl) (E8 1 (by exact D7 (fun z => Own.arr _ 9 1 (List.map (fun s => [AV.str s]) z) :: _) (by unfold AF7; rw [V7, hx, V1]; exact (Am4 _ _ _).symm)) A5))
  ·omega
  omega
 intro h18;have k18 := C2 h18;have hge : s.Cells.length ≤ i := by omega
 rw [U1 hge];refine R3 ?_;refine S9 rfl rfl rfl rfl C0 F2 ?_;intro v26;refine R1 ?_;refine H0 (by' := 40) 0 rfl rfl rfl rfl C0 Tryz.type69 rfl rfl rfl rfl rfl rfl (A0 rfl) (A0 rfl) rfl BL9 ?_;intro v28_1;refine R11 ?_;refine V5 [(2, _), (4, _), (5, _), (30, _), (31, _)] _ (fun (q : Nat) (u : Value) (a : List A4) => q ≤ s.Held.length ∧ a = ws ++ hWs (s.Held.take q)) (fun q u a => [.arr u 69 3 (a.map A4.cs)]) (fun q u a => [(8, AV.is u), (32, AV.int q)]) (fun q u a => s.Held.length - q) (0) (v28_1) (ws) ?_ (I6 B7 A5) ?_
 ·exact ⟨D6 _, by rw [List.take_zero]; exact (S1 _).symm⟩
 intro q u a hinv;refine R5 ?_;refine A2 ?_ ?_
 ·intro h33;have k33 := C6 h33;have hlt : q < s.Held.length := by omega
  obtain ⟨h, hx⟩ := B3 hlt;obtain ⟨g1, g2, g3, g4, g5⟩ := Ak8 hs2 hx;have hwt := Cb2 s.Held q;have hal9 : a.length ≤ 800000 := by (rw [hinv.2, G3]; omega)
  refine R5 ?_;refine A1 rfl (C7 rfl K9 S3 (A0 rfl) (A0 rfl) hx qz3) ?_;refine R2 ?_;intro b10;refine R6 ?_;refine H0 (by' := 40) 1 rfl rfl rfl rfl C0 Tryz.type69 rfl rfl rfl rfl rfl rfl (A0 rfl) (A0 rfl) rfl (by simp only [G3, A6]; omega) ?_;intro v39_2;refine R6 ?_;refine P2 q u a (q + 1) (v39_2) (a ++ h.Writes) ?_ ?_ (Le.trans (B9 [0, 0] rfl) (E8 1 BC8 A5))
  ·exact ⟨by omega, by rw [hinv.2, hWs_take hx, e6]⟩
  omega
 intro h33;have k33 := C2 h33;have hge : s.Held.length ≤ q := by omega
 have ha9 : a = al := by (rw [hinv.2, U1 hge, hal])
 subst ha9;refine R9 ?_;refine AWP.le (B9 [1] rfl) ?_;refine V5 [(2, _), (41, _), (42, _)] _ (fun (r : Nat) (v2 : Value) (ks : List Str) => r ≤ a.length ∧ a.all p = (a.drop r).all p ∧ ks = AB0 (AF7 s.Cells ++ U0 (a.take r)) []) (fun r v2 ks => [.arr v2 9 1 (ks.map fun s => [AV.str s])]) (fun r v2 ks => [(5, AV.is v2), (43, AV.int r)]) (fun r v2 ks => a.length - r) (0) (v) (AB0 (AF7 s.Cells) []) ?_ (I6 B7 A5) ?_
 ·exact ⟨D6 _, rfl, by rw [List.take_zero]; exact D7 (fun z => AB0 z []) (S1 _).symm⟩
 intro r v2 ks hinv;refine R5 ?_;refine A2 ?_ ?_
 ·intro h44;have k44 := C6 h44;have hlt : r < a.length := by omega
  obtain ⟨w, hx⟩ := B3 hlt;obtain ⟨c, hc0⟩ := at_some s.Cells w.Key;have hfu := fullC_at (l := s.Cells) (k := w.Key) (c := c) (fun h9 => (hc0 h9).2);have hpl := Af9 (AF7 s.Cells ++ U0 (a.take r)) [];unfold AF7 U0 at hpl;simp only [G3, A6, I5, P6] at hpl;refine R5 ?_;refine A1 rfl (H6 1 rfl C0 F2 (A0 rfl) rfl (A0 rfl) qz8 (by try simp only [A6]; omega)) ?_;refine A1 rfl (n2 1 rfl (A0 rfl) rfl Tryz.isAgg69 F2 (by rw [AC6, Y6, hx]; rfl) D5) ?_;refine R1 ?_;intro b12;refine R7 ?_;refine E6 [1] rfl rfl rfl rfl Tryz.call128 rfl (AW8 v2 ks w.Key (by rw [hinv.2.2]; exact (AY7 List.Pairwise.nil).1) (by rw [hinv.2.2]; unfold AF7 U0; omega)) E4 rfl ?_;intro x50 ok50;refine R8 ?_;refine A1 rfl (A9 rfl Tryz.call204 rfl (BX8 _ _) E4) ?_;refine R10 ?_;refine N4 rfl (fun hc => AW0 rfl I9 T4 (A8 rfl hc) (A8 rfl hc) (by have h9 := AA2 hc; obtain ⟨⟨p9, e1, e2⟩, _⟩ := hc0 qz8; have := (F4.1 e2).1; omega) (by have h9 := AA2 hc; obtain ⟨⟨p9, e1, e2⟩, _⟩ := hc0 qz8; rw [e1, AC6, Y6, e2]; rfl)) ?_;refine R6 ?_;refine A2 ?_ ?_
  ·intro h67;have hpw : p w = false := by (rw [hp]; simp only [Ae3]; rw [hfu]; rw [A6] at h67; exact h67)
   have hro : room s.Cells a = false := by (unfold room; rw [show (a.all fun w => !At0 s.Cells w.Key) = false from by rw [← hp, hinv.2.1, J2 hx, w5, hpw]; rfl]; rfl)
   refine R5 ?_;exact E5 rfl (A7 rfl qz150)
  intro h67;have hpw : p w = true := by (rw [hp]; simp only [l7]; rw [hfu]; rw [A6] at h67; exact h67)
  refine R5 ?_;refine P2 r v2 ks (r + 1) (x50) (AA6 ks w.Key) ?_ ?_ (Le.trans (B9 [1, 0] rfl) (E8 1 B7 A5))
  ·exact ⟨by omega, by rw [hinv.2.1, J2 hx, w5, hpw]; rfl, by rw [hinv.2.2]; unfold U0; rw [V7, hx, V1, ← e6]; exact (Am4 _ _ _).symm⟩
  omega
 intro h44;have k44 := C2 h44;have hge : a.length ≤ r := by omega
 have hks := hinv.2.2;rw [U1 hge] at hks;have hro : room s.Cells a = decide (ks.length ≤ 24) := by (unfold room Ao3; rw [← hp, hinv.2.1, l6 hge, CC0, ← hks]; rfl)
 refine R9 ?_;exact E5 rfl (A7 rfl qz150)
theorem Cn2 (s : H2) (ws : List A4) (hs : s.size ≤ 400000) (hw : D2 A4.size ws ≤ 400000) : F6 224 [AV.agg s.cs, AV.list 3 (ws.map A4.cs)] (AV.bool (room s.Cells (ws ++ hWs s.Held))) := by
  have hsum : D2 C4.size s.Cells + D2 F1.size s.Held ≤ 400000 := by have h9 : s.size = D2 C4.size s.Cells + D2 F1.size s.Held + s.Told.length := rfl; omega
  have hcl := P7 (f := C4.size) (l := s.Cells);have hwl := P7 (f := A4.size) (l := ws);have hhl := Bx6 (l := s.Held);exact Bp9 s ws qz8 qz8
theorem CE4 : ∀ {l : List F1}, (∀ h ∈ l, U7 (AX8 h) = true) → (hWs l).length ≤ 400 * l.length
  | [], _ => L5 _
  | h :: l, hg => by
    have ih := CE4 fun k hk => hg k (S7 h hk);have h1 := Ah6 (hg h W6);have h4 := P7 (f := A4.size) (l := h.Writes);have h2 : (AX8 h).size = D2 (fun x => x.length) h.Reads + D2 A4.size h.Writes := rfl;rw [Bk0, G3, H1]; omega
theorem Cn3 {s : H2} (h : BH9 s.Held.length (Ag7 s) = true) : ∀ k ∈ s.Held, U7 (AX8 k) = true := fun k hk => by
  obtain ⟨i, hi⟩ := j4 hk;have h9 := BB1.1 h i (F4.1 hi).1;unfold Ag7 at h9;rw [hi] at h9;simp only [F0] at h9;exact h9.1.1.1.1
theorem Ac2 (s : H2) (n : Int) (hlen : s.Held.length ≤ 1048576) : F6 207 [AV.agg s.cs, AV.int n] (AV.tup [AV.agg (AM1 s.Held n).1.cs, AV.bool (AM1 s.Held n).2]) := by
 obtain ⟨l, hl⟩ : ∃ l, s.Held = l := ⟨_, rfl⟩;have hcs : s.cs = [AV.int s.Floor, AV.list 2 (s.Cells.map C4.cs), AV.list 5 (l.map F1.cs), AV.list 3 (s.Told.map P5.cs)] := by rw [← hl]; rfl
 rw [hl] at hlen;rw [hl, hcs];refine B8 Tryz.func207 rfl Tryz.ntmps207 rfl ?_;refine R3 ?_;intro b2;refine R1 ?_;intro b4;refine R11 ?_;refine E9 [(1, _), (4, _), (9, _), (10, _)] _ (fun (i : Nat) => i ≤ l.length ∧ ∀ j y, j < i → l[j]? = some y → (y.Txn == n) = false) (fun i => []) (fun i => [(11, AV.int i)]) (fun i => l.length - i) (0) ?_ (F5 A5) ?_
 ·exact ⟨D6 _, fun j y hj => by omega⟩
 intro i hinv;refine R5 ?_;refine A2 ?_ ?_
 ·intro h12;have k12 := C6 h12;have hlt : i < l.length := by omega
  obtain ⟨x, hx⟩ := B3 hlt;refine R5 ?_;refine A1 rfl (C7 rfl K9 S3 (A0 rfl) (A0 rfl) hx qz3) ?_;refine R2 ?_;intro b7;refine R9 ?_;refine A2 ?_ ?_
  ·intro h18;have he : AM1 l n = (x, true) := by (unfold AM1 AL5; rw [BQ4 hx h18 hinv.2])
   rw [he];refine R7 ?_;exact X5 rfl D5 (H7 (H8 (ys := _) 1 rfl rfl Tryz.isAgg253 S3 rfl) u3)
  intro h18;refine R5 ?_;refine F7 i (i + 1) ?_ ?_ (Q1 1 A5)
  ·exact ⟨by omega, fun j y hj hy => if hji : j < i then hinv.2 j y hji hy else qz176⟩
  omega
 intro h12;have k12 := C2 h12;have hge : l.length ≤ i := by omega
 have he : AM1 l n = (zHeld, false) := by (unfold AM1 AL5; rw [CT6 fun j y hy => hinv.2 j y (Nat.lt_of_lt_of_le (F4.1 hy).1 hge) hy])
 rw [he];refine R8 ?_;refine BG5 0 3 1 rfl rfl ?_;refine BG5 0 4 3 rfl rfl ?_;exact X5 rfl D5 (H7 (H8 (ys := _) 0 rfl rfl Tryz.isAgg253 S3 rfl) u3)
theorem AK5 (s : H2) (n : Int) (hlen : s.Told.length ≤ 1048576) : F6 127 [AV.agg s.cs, AV.int n] (AV.tup [AV.agg (AY6 s.Told n).1.cs, AV.bool (AY6 s.Told n).2]) := by
 obtain ⟨l, hl⟩ : ∃ l, s.Told = l := ⟨_, rfl⟩;have hcs : s.cs = [AV.int s.Floor, AV.list 2 (s.Cells.map C4.cs), AV.list 5 (s.Held.map F1.cs), AV.list 3 (l.map P5.cs)] := by rw [← hl]; rfl
 rw [hl] at hlen;rw [hl, hcs];refine B8 Tryz.func127 rfl Tryz.ntmps127 rfl ?_;refine R3 ?_;intro b2;refine R1 ?_;intro b4;refine R11 ?_;refine E9 [(1, _), (4, _), (9, _), (10, _)] _ (fun (i : Nat) => i ≤ l.length ∧ ∀ j y, j < i → l[j]? = some y → (y.Txn == n) = false) (fun i => []) (fun i => [(11, AV.int i)]) (fun i => l.length - i) (0) ?_ (F5 A5) ?_
 ·exact ⟨D6 _, fun j y hj => by omega⟩
 intro i hinv;refine R5 ?_;refine A2 ?_ ?_
 ·intro h12;have k12 := C6 h12;have hlt : i < l.length := by omega
  obtain ⟨x, hx⟩ := B3 hlt;refine R5 ?_;refine A1 rfl (C7 rfl N3 U6 (A0 rfl) (A0 rfl) hx qz3) ?_;refine R2 ?_;intro b7;refine R9 ?_;refine A2 ?_ ?_
  ·intro h18;have he : AY6 l n = (x, true) := by (unfold AY6 BS0; rw [BQ4 hx h18 hinv.2])
   rw [he];refine R7 ?_;exact X5 rfl D5 (H7 (H8 (ys := _) 1 rfl rfl Tryz.isAgg137 U6 rfl) u3)
  intro h18;refine R5 ?_;refine F7 i (i + 1) ?_ ?_ (Q1 1 A5)
  ·exact ⟨by omega, fun j y hj hy => if hji : j < i then hinv.2 j y hji hy else qz176⟩
  omega
 intro h12;have k12 := C2 h12;have hge : l.length ≤ i := by omega
 have he : AY6 l n = (zTold, false) := by (unfold AY6 BS0; rw [CT6 fun j y hy => hinv.2 j y (Nat.lt_of_lt_of_le (F4.1 hy).1 hge) hy])
 rw [he];refine R8 ?_;exact X5 rfl D5 (H7 (H8 (ys := _) 0 rfl rfl Tryz.isAgg137 U6 rfl) u3)
theorem CI2 (s : H2) (ho : AU6 s.Cells) (hcl : s.Cells.length ≤ 400000) (hs : s.size ≤ 1048576) : F6 243 [AV.agg s.cs] (AV.bool (AZ4 s)) := by
 obtain ⟨hs1, hs2, hs3, hs4, hs5⟩ := AS4 hs;refine B8 Tryz.func243 rfl Tryz.ntmps243 rfl ?_;refine R3 ?_;intro b1;refine R11 ?_;refine E9 [(1, _), (10, _), (11, _)] _ (fun (i : Nat) => i ≤ s.Held.length ∧ ∀ j, j < i → Ag7 s j = true) (fun i => []) (fun i => [(12, AV.int i)]) (fun i => s.Held.length - i) (0) ?_ (F5 A5) ?_
 ·exact ⟨D6 _, fun j hj => by omega⟩
 intro i hinv;refine R5 ?_;refine A2 ?_ ?_
 ·intro h13;have k13 := C6 h13;have hlt : i < s.Held.length := by omega
  obtain ⟨h, hx⟩ := B3 hlt;obtain ⟨y, hy⟩ := B3 (show i - 1 < s.Held.length by omega);obtain ⟨g1, g2, g3, g4, g5⟩ := Ak8 hs2 hx;have hinv0 := hinv;refine R6 ?_;refine A1 rfl (C7 rfl K9 S3 (A0 rfl) (A0 rfl) hx qz3) ?_;refine R2 ?_;intro b4;refine R7 ?_;refine C1 rfl rfl (A9 rfl Tryz.call244 rfl (CI1 _) L2) ?_;refine C1 rfl rfl (A9 rfl Tryz.call214 rfl (Bg6 _ q7) (A3 (A0 rfl) B2)) ?_;refine R16 ?_;refine O6 rfl (i7 rfl rfl rfl) (fun hc => C7 rfl K9 S3 (A8 rfl hc) (A8 rfl hc) hy qz6) ?_;refine R8 ?_;refine A2 ?_ ?_
  ·intro h43;have hfin : AZ4 s = false := by (unfold AZ4; rw [Am7 hlt (by rw [Ax4 hx hy, h43]; rfl)]; rfl)
   refine R5 ?_;exact E5 rfl (A7 rfl qz57)
  intro h43;refine R7 ?_;refine A1 rfl (AN2 rfl K9 S3 (A0 rfl) (A0 rfl) qz3 qz3) ?_;refine R4 ?_;refine E9 [(1, _), (3, _), (4, _), (10, _), (11, _), (12, _), (13, _), (14, _), (15, _), (16, _), (17, _), (18, _), (19, _), (20, _), (21, _), (27, _), (28, _), (43, _), (44, _), (45, _), (46, _), (47, _), (48, _)] _ (fun (q : Nat) => q ≤ (s.Held.take i).length ∧ ((s.Held.take i).all fun g => apart g h.Reads h.Writes) = (((s.Held.take i).drop q).all fun g => apart g h.Reads h.Writes)) (fun q => []) (fun q => [(49, AV.int q)]) (fun q => (s.Held.take i).length - q) (0) ?_ (F5 A5) ?_
  ·exact ⟨D6 _, rfl⟩
  intro q hinv;refine R5 ?_;refine A2 ?_ ?_
  ·intro h50;have k50 := C6 h50;have hlt2 : q < (s.Held.take i).length := by (simp only [I5, A6, AC6] at k50 ⊢; omega)
   obtain ⟨k, hx2⟩ := B3 hlt2;refine R5 ?_;refine A1 rfl (C7 rfl K9 S3 (A0 rfl) (A0 rfl) hx2 qz3) ?_;refine R2 ?_;intro b6;refine R9 ?_;refine A1 rfl (A9 rfl Tryz.call223 rfl (apart_spec _ _ _) AD6) ?_;refine R2 ?_;refine A2 ?_ ?_
   ·intro h59;have hfin : AZ4 s = false := by (unfold AZ4; rw [Am7 hlt (by rw [Ax4 hx hy, hinv.2, J2 hx2, w5, show apart k h.Reads h.Writes = false by simpa using h59]; simp)]; rfl)
    refine R5 ?_;exact E5 rfl (A7 rfl qz57)
   intro h59;refine R5 ?_;refine F7 q (q + 1) ?_ ?_ (Q1 1 A5)
   ·exact ⟨by omega, by rw [hinv.2, J2 hx2, w5, show apart k h.Reads h.Writes = true by simpa using h59]; rfl⟩
   omega
  intro h50;have k50 := C2 h50;have hge2 : (s.Held.take i).length ≤ q := by (simp only [I5, A6, AC6] at k50 ⊢; omega)
  have hap : ((s.Held.take i).all fun g => apart g h.Reads h.Writes) = true := by (rw [hinv.2, l6 hge2]; rfl)
  refine R9 ?_;refine E9 [(1, _), (3, _), (4, _), (10, _), (11, _), (12, _), (13, _), (14, _), (15, _), (16, _), (17, _), (18, _), (19, _), (20, _), (21, _), (27, _), (28, _), (43, _), (44, _), (45, _), (46, _), (47, _), (48, _), (49, _), (50, _), (61, _), (62, _), (63, _)] _ (fun (r : Nat) => r ≤ h.Writes.length ∧ (h.Writes.all fun w => decide (O3 s.Cells w.Key < h.Time)) = ((h.Writes.drop r).all fun w => decide (O3 s.Cells w.Key < h.Time))) (fun r => []) (fun r => [(64, AV.int r)]) (fun r => h.Writes.length - r) (0) ?_ (F5 A5) ?_
  ·exact ⟨D6 _, rfl⟩
  intro r hinv;refine R5 ?_;refine A2 ?_ ?_
  ·intro h65;have k65 := C6 h65;have hlt3 : r < h.Writes.length := by omega
   obtain ⟨w, hw⟩ := B3 hlt3;refine R5 ?_;refine A1 rfl (C7 rfl C0 F2 (A0 rfl) (A0 rfl) hw qz3) ?_;refine R2 ?_;intro b8;refine R8 ?_;refine C1 rfl rfl (A9 rfl Tryz.call225 rfl (BH3 _ _ (by first | assumption | exact Ab6 (by rw [AG4]; assumption)) q7) (A3 (A0 rfl) (A3 (A0 rfl) B2))) ?_;refine R4 ?_;refine A2 ?_ ?_
   ·intro h75;have k75 := C6 h75;have hfin : AZ4 s = false := by (unfold AZ4; rw [Am7 hlt (by rw [Ax4 hx hy, hinv.2, J2 hw, w5, AM4 (show ¬ O3 s.Cells w.Key < h.Time by omega)]; simp)]; rfl)
    refine R5 ?_;exact E5 rfl (A7 rfl qz57)
   intro h75;have k75 := C2 h75;refine R5 ?_;refine F7 r (r + 1) ?_ ?_ (Q1 1 A5)
   ·exact ⟨by omega, by rw [hinv.2, J2 hw, w5, AB1 (show O3 s.Cells w.Key < h.Time by omega)]; rfl⟩
   omega
  intro h65;have k65 := C2 h65;have hge3 : h.Writes.length ≤ r := by omega
  have hlw : (h.Writes.all fun w => decide (O3 s.Cells w.Key < h.Time)) = true := by (rw [hinv.2, l6 hge3]; rfl)
  refine R5 ?_;refine F7 i (i + 1) ?_ ?_ (Q1 1 A5)
  ·exact ⟨by omega, fun j hj => if hji : j < i then hinv0.2 j hji else (by have e : j = i := qz8; subst e; rw [Ax4 hx hy, h43, hap, hlw]; rfl)⟩
  omega
 intro h13;have k13 := C2 h13;have hall : BH9 s.Held.length (Ag7 s) = true := BB1.2 fun j hj => hinv.2 j qz8;refine R9 ?_;refine N4 rfl (fun hc => A9 rfl Tryz.call224 rfl (Bp9 s [] hs (by (have h9 := CE4 (Cn3 hall); have h8 := AA2 hc; simp only [A6] at h8; simp only [P6]; omega))) (A3 (A8 rfl hc) (A3 O2 B2))) ?_;refine R4 ?_;exact E5 rfl (A7 rfl qz57)
theorem Bq0 (s : H2) (hs : s.size ≤ 1048576) : F6 241 [AV.agg s.cs] (AV.bool (q9 s)) := by
 obtain ⟨hs1, hs2, hs3, hs4, hs5⟩ := AS4 hs;refine B8 Tryz.func241 rfl Tryz.ntmps241 rfl ?_;refine R3 ?_;intro b1;refine R7 ?_;refine A1 rfl (A9 rfl Tryz.call72 rfl (BH2 _) L2) ?_;refine R4 ?_;refine W9 rfl (fun hc => A9 rfl Tryz.call226 rfl (Bg4 _ q7) (A3 (A8 rfl hc) B2)) ?_;refine R4 ?_;refine W9 rfl (fun hc => A9 rfl Tryz.call243 rfl (CI2 s (Ab6 (by have h9 := hc; simp at h9; rw [AG4]; exact h9.2)) (by have h9 := hc; simp at h9; have h8 := (AG5 (by rw [AG4]; exact h9.2)).1; omega) hs) (A3 (A8 rfl hc) B2)) ?_;refine R9 ?_;refine A2 ?_ ?_
 ·intro h29;have hfin : q9 s = false := by (unfold q9; simp only [AD7, l7, I4, A6] at h29; rcases h29 with ((h | h) | h) | h; (rw [h]; rfl); (rw [AG4, h]; simp); (rw [h]; simp); (rw [AM4 (show ¬ s.Told.length ≤ 60 by omega)]; simp))
  refine R5 ?_;exact E5 rfl (A7 rfl BC9)
 intro h29;simp only [AL2, Ae3, AP0, A6] at h29;obtain ⟨⟨⟨q1, q2⟩, q3⟩, q4⟩ := h29;have hco := Ab6 (by rw [AG4]; exact q2);have hgs : q9 s = ((s.Cells.all fun c => decide (O3 s.Cells c.Key ≤ s.Floor)) && BH9 s.Told.length (Ao4 s)) := by (unfold q9; rw [q1, AG4, q2, q3, AB1 (show s.Told.length ≤ 60 by omega)]; simp)
 refine R10 ?_;refine E9 [(1, _), (31, _), (32, _)] _ (fun (i : Nat) => i ≤ s.Cells.length ∧ (s.Cells.all fun c => decide (O3 s.Cells c.Key ≤ s.Floor)) = ((s.Cells.drop i).all fun c => decide (O3 s.Cells c.Key ≤ s.Floor))) (fun i => []) (fun i => [(33, AV.int i)]) (fun i => s.Cells.length - i) (0) ?_ (F5 A5) ?_
 ·exact ⟨D6 _, rfl⟩
 intro i hinv;refine R5 ?_;refine A2 ?_ ?_
 ·intro h34;have k34 := C6 h34;have hlt : i < s.Cells.length := by omega
  obtain ⟨c, hx⟩ := B3 hlt;refine R5 ?_;refine A1 rfl (C7 rfl I9 T4 (A0 rfl) (A0 rfl) hx qz3) ?_;refine R2 ?_;intro b4;refine R8 ?_;refine C1 rfl rfl (A9 rfl Tryz.call225 rfl (BH3 _ _ (by first | assumption | exact Ab6 (by rw [AG4]; assumption)) q7) (A3 (A0 rfl) (A3 (A0 rfl) B2))) ?_;refine R4 ?_;refine A2 ?_ ?_
  ·intro h44;have k44 := C6 h44;have hfin : q9 s = false := by (rw [hgs, hinv.2, J2 hx, w5, AM4 (show ¬ O3 s.Cells c.Key ≤ s.Floor by omega)]; rfl)
   refine R5 ?_;exact E5 rfl (A7 rfl BC9)
  intro h44;have k44 := C2 h44;refine R5 ?_;refine F7 i (i + 1) ?_ ?_ (Q1 1 A5)
  ·exact ⟨by omega, by rw [hinv.2, J2 hx, w5, AB1 (show O3 s.Cells c.Key ≤ s.Floor by omega)]; rfl⟩
  omega
 intro h34;have k34 := C2 h34;have hge : s.Cells.length ≤ i := by omega
 have hgs2 : q9 s = BH9 s.Told.length (Ao4 s) := by (rw [hgs, hinv.2, l6 hge]; rfl)
 refine R10 ?_;refine E9 [(1, _), (47, _), (48, _)] _ (fun (q : Nat) => q ≤ s.Told.length ∧ ∀ j, j < q → Ao4 s j = true) (fun q => []) (fun q => [(49, AV.int q)]) (fun q => s.Told.length - q) (0) ?_ (F5 A5) ?_
 ·exact ⟨D6 _, fun j hj => by omega⟩
 intro q hinv;refine R5 ?_;refine A2 ?_ ?_
 ·intro h50;have k50 := C6 h50;have hlt : q < s.Told.length := by omega
  obtain ⟨t, hx⟩ := B3 hlt;obtain ⟨y, hy⟩ := B3 (show q - 1 < s.Told.length by omega);refine R6 ?_;refine A1 rfl (C7 rfl N3 U6 (A0 rfl) (A0 rfl) hx qz3) ?_;refine R2 ?_;intro b6;refine R8 ?_;refine C1 rfl rfl (A9 rfl Tryz.call60 rfl (Q3 _ _ _) Aa2) ?_;refine R9 ?_;refine O6 rfl (i7 rfl rfl rfl) (fun hc => C7 rfl N3 U6 (A8 rfl hc) (A8 rfl hc) hy qz6) ?_;refine R15 ?_;refine O6 rfl (i7 rfl rfl rfl) (fun hc => A9 rfl Tryz.call60 rfl (Q3 _ _ _) (A3 (A8 rfl hc) (A3 I7 (A3 (A8 rfl hc) B2)))) ?_;refine R14 ?_;refine A2 ?_ ?_
  ·intro h95;have hfin : q9 s = false := by (rw [hgs2]; exact Am7 hlt (by rw [BQ3 hx hy, h95]; rfl))
   refine R5 ?_;exact E5 rfl (A7 rfl BC9)
  intro h95;refine R6 ?_;refine A1 rfl (A9 rfl Tryz.call207 rfl (Ac2 _ _ q7) (A3 (A0 rfl) (A3 (A0 rfl) B2))) ?_;refine R4 ?_;intro b7;refine R7 ?_;refine A2 ?_ ?_
  ·intro h103;have hfin : q9 s = false := by (rw [hgs2]; exact Am7 hlt (by rw [BQ3 hx hy, ← BY1, h103]; simp))
   refine R5 ?_;exact E5 rfl (A7 rfl BC9)
  intro h103;refine R5 ?_;refine F7 q (q + 1) ?_ ?_ (Q1 2 A5)
  ·exact ⟨by omega, fun j hj => if hji : j < q then hinv.2 j hji else (by have e : j = q := qz8; subst e; rw [BQ3 hx hy, h95, ← BY1, h103]; rfl)⟩
  omega
 intro h50;have k50 := C2 h50;have hge : s.Told.length ≤ q := by omega
 have hfin : q9 s = true := by (rw [hgs2]; exact BB1.2 fun j hj => hinv.2 j qz8)
 refine R6 ?_;exact E5 rfl (A7 rfl BC9)
end Go.PQ
namespace Go.PQ
open Go.Proofs
open Go Go.AV Go.M
attribute [local irreducible] OpW OpA OpS AWP J3 K8 K0 OpE J6 H5 J9 Le Ev F8 L6
theorem CI3 (w : A4) : F6 55 [AV.agg w.cs] (AV.bool w.Gone) := by
  refine B8 Tryz.func55 rfl Tryz.ntmps55 rfl ?_;refine R3 ?_;intro b1;refine R9 ?_;exact E5 rfl (A7 rfl m9)
theorem CT8 (v : Value) (l : List A4) (w : A4) (hl : l.length ≤ 4194303) : M7 53 [AV.is v, AV.agg w.cs] [.arr v 69 3 (l.map A4.cs)] (fun _ : Value => True) (fun v => [.arr v 69 3 ((Aj4 l w).map A4.cs)]) (fun v => AV.is v) := by
 have hle := Cf8 l w.Key;refine C5 Tryz.func53 rfl Tryz.ntmps53 rfl ?_;refine R3 ?_;intro b3;refine A1 rfl (D8 rfl H3) ?_;refine R6 ?_;refine A1 rfl (Ak0 rfl Tryz.call76 rfl (BJ8 l w.Key qz8) (Bj1 (J8 (r5 _ _) (J8 (y5 _) X2))) (Z0 (Ay9 1 (A0 rfl) rfl) (Z0 (evb (A0 rfl)) AI5))) ?_;refine R11 ?_;refine A2 ?_ ?_
 ·intro h14;obtain ⟨y, hy, _⟩ := Ap8.1 h14;have hlt := (F4.1 hy).1;have he : Aj4 l w = l.set (AP5 l w.Key) w := by unfold Aj4; rw [D1 h14]
  rw [he];refine R5 ?_;refine A1 rfl (H6 1 rfl C0 F2 (A0 rfl) rfl (A0 rfl) qz8 CL2) ?_;refine m4 1 rfl rfl rfl (A0 rfl) (A0 rfl) (m3 _) rfl F2 rfl CL2 ?_;refine R7 ?_;exact I2 [1] v (trivial) rfl (by first | rfl | exact D7 (fun z => [Own.arr _ 69 3 z]) AF6) (N6 rfl (A7 rfl m9))
 intro h14;have he : Aj4 l w = l.take (AP5 l w.Key) ++ w :: l.drop (AP5 l w.Key) := by unfold Aj4; rw [D4 (by rw [h14]; decide)]
 rw [he];refine R6 ?_;refine Bn3 rfl rfl rfl rfl C0 F2 Tryz.zeroValue69 rfl rfl rfl rfl (E1 (A0 rfl) (m3 _) X0) rfl rfl ?_;intro v23;refine E6 [2, 0] rfl rfl rfl rfl Tryz.call77 rfl (Bp4 _ _ l w (AP5 l w.Key) hle qz8) (A3 (A0 rfl) (A3 (A0 rfl) (A3 (A0 rfl) B2))) rfl ?_;intro x24 ok24;refine R3 ?_;exact I2 [0] x24 (trivial) rfl (by first | rfl | exact D7 (fun z => [Own.arr _ 69 3 z]) AF6) (N6 rfl (A7 rfl m9))
theorem Cb3 (l ws : List A4) (hl : l.length ≤ 2097151) (hw : ws.length ≤ 2097152) : M7 27 [AV.list 3 (l.map A4.cs), AV.list 3 (ws.map A4.cs)] [] (fun _ : Value => True) (fun v => [.arr v 69 3 ((AZ3 l ws).1.map A4.cs)]) (fun v => AV.tup [AV.is v, AV.bool (AZ3 l ws).2]) := by
 refine C5 Tryz.func27 rfl Tryz.ntmps27 rfl ?_;refine R2 ?_;refine A1 rfl (D8 rfl H3) ?_;refine R5 ?_;refine E6 [] rfl rfl rfl rfl Tryz.call52 rfl (Bp3 l qz8) L2 rfl ?_;intro x10 ok10;refine R10 ?_;refine K3 [(4, _), (5, _), (11, _), (12, _)] _ (fun (i : Nat) (v : Value) => i ≤ ws.length) (fun i v => [.arr v 69 3 ((Ao1 l (ws.take i)).map A4.cs)]) (fun i v => [(6, AV.is v), (13, AV.int i)]) (fun i v => ws.length - i) (0) (x10) ?_ (I6 B7 A5) ?_
 ·exact D6 _
 intro i v hinv;refine R5 ?_;refine A2 ?_ ?_
 ·intro h14;have k14 := C6 h14;have hlt : i < ws.length := by omega
  obtain ⟨x, hx⟩ := B3 hlt;have hpl := Bj7 (ws.take i) l;rw [I5] at hpl;refine R5 ?_;refine A1 rfl (C7 rfl C0 F2 (A0 rfl) (A0 rfl) hx qz3) ?_;refine R2 ?_;intro b8;refine R5 ?_;refine E6 [1] rfl rfl rfl rfl Tryz.call53 rfl (CT8 _ _ x qz8) (A3 (A0 rfl) (A3 (A0 rfl) B2)) rfl ?_;intro x19 ok19;refine R6 ?_;refine G8 i v (i + 1) (x19) ?_ ?_ (Le.trans (B9 [1] rfl) (E8 1 (by rw [show Ao1 l (ws.take (i + 1)) = Aj4 (Ao1 l (ws.take i)) x from by rw [V7, hx]; exact Cs1 _ _ _]; rfl) A5))
  ·omega
  omega
 intro h14;have k14 := C2 h14;have hge : ws.length ≤ i := by omega
 rw [U1 hge];have hpl := Bj7 ws l;refine R4 ?_;refine E6 [0] rfl rfl rfl rfl Tryz.call54 rfl (BT6 _ _ _ _ (fun _ _ => trivial) qz8) (A3 (A0 rfl) (A3 (Bw2 Tryz.call55 (fun w (_ : True) => CI3 w)) B2)) rfl ?_;intro x22 ok22;refine R9 ?_;refine A2 ?_ ?_
 ·intro h25;have k25 := C6 h25;have he : AZ3 l ws = ([], false) := by unfold AZ3 Ag6; rw [D1 (by simpa using k25)]
  rw [he];refine R2 ?_;refine A1 rfl (D8 rfl H3) ?_;refine R3 ?_;refine AD1 69 3 ?_;exact I2 [0] (F9) (trivial) rfl B7 AJ2
 intro h25;have k25 := C2 h25;have he : AZ3 l ws = (Ag6 (Ao1 l ws), true) := by unfold AZ3 Ag6; rw [D4 (by simpa using k25)]
 rw [he];refine R8 ?_;exact I2 [0] x22 (trivial) rfl B7 AJ2
theorem Bq1 (l : List A4) (w : A4) (hl : l.length ≤ 4194303) : M7 63 [AV.list 3 (l.map A4.cs), AV.agg w.cs] [] (fun _ : Value => True) (fun v => [.arr v 69 3 ((AX6 l w).map A4.cs)]) (fun v => AV.is v) := by
 refine C5 Tryz.func63 rfl Tryz.ntmps63 rfl ?_;refine R3 ?_;intro b3;refine A1 rfl (D8 rfl H3) ?_;refine R9 ?_;rw [show (List.map A4.cs l).length = l.length from A6 _];refine E9 [(0, _), (3, _), (4, _)] _ (fun (i : Int) => 0 ≤ i ∧ i ≤ l.length ∧ AG8 l w.Key l.length = AG8 l w.Key i.toNat) (fun i => []) (fun i => [(5, AV.int i)]) (fun i => i.toNat) (l.length) ?_ (F5 A5) ?_
 ·exact ⟨by omega, by omega, rfl⟩
 intro i hinv;obtain ⟨y, hy⟩ := Ap6 l (i - 1).toNat;refine R9 ?_;refine O6 rfl (P8 rfl rfl rfl) (fun hc => C7 rfl C0 F2 (A8 rfl hc) (A8 rfl hc) (hy qz6) qz6) ?_;refine R4 ?_;refine O6 rfl (P8 rfl rfl rfl) (fun hc => Bm6 rfl (A8 rfl hc) (A8 rfl hc)) ?_;refine R2 ?_;refine A2 ?_ ?_
 ·intro h22;have hb : 0 < i ∧ Op.bytesLess w.Key y.Key = true := by rw [Bc6] at h22; simpa using h22
  have hst : AG8 l w.Key l.length = AG8 l w.Key (i - 1).toNat := by rw [hinv.2.2]; obtain ⟨n, rfl⟩ : ∃ n : Nat, i = n + 1 := ⟨(i - 1).toNat, by omega⟩; rw [show ((n : Int) + 1).toNat = n + 1 by omega, show ((n : Int) + 1 - 1).toNat = n by omega]; exact Ck4 (by have := hy qz8; rwa [show ((n : Int) + 1 - 1).toNat = n by omega] at this) hb.2
  refine R7 ?_;refine Ab1 ?_;refine F7 i (i - 1) ?_ ?_ (F5 A5)
  ·exact ⟨by omega, by omega, hst⟩
  omega
 intro h22;obtain ⟨k, rfl⟩ : ∃ k : Nat, i = k := ⟨i.toNat, by omega⟩;have hk : AG8 l w.Key l.length = k := by rw [hinv.2.2, AC6]; rw [Bc6] at h22; rcases Nat.eq_zero_or_pos k with h0 | h0; subst h0; rfl; (obtain ⟨n, rfl⟩ : ∃ n, k = n + 1 := ⟨k - 1, by omega⟩; exact Ck5 (by have := hy qz8; rwa [show (((n + 1 : Nat) : Int) - 1).toNat = n by omega] at this) BL4)
 have hh : Bz7 l w.Key k = (decide (0 < k) && (y.Key == w.Key)) := by rcases Nat.eq_zero_or_pos k with h0 | h0; subst h0; rfl; (obtain ⟨n, rfl⟩ : ∃ n, k = n + 1 := ⟨k - 1, by omega⟩; have h9 := hy qz8; rw [show (((n + 1 : Nat) : Int) - 1).toNat = n by omega] at h9; simp [Bz7, h9])
 refine R10 ?_;refine O6 rfl (P8 rfl rfl rfl) (fun hc => C7 rfl C0 F2 (A8 rfl hc) (A8 rfl hc) (hy qz6) qz6) ?_;refine R7 ?_;refine A2 ?_ ?_
 ·intro h37;have hb : 0 < k ∧ y.Key = w.Key := by simpa using h37
  have he : AX6 l w = l.set (k - 1) w := by unfold AX6; rw [hk, D1 (by rw [hh]; simp [hb])]
  rw [he];refine R2 ?_;refine S9 rfl rfl rfl rfl C0 F2 ?_;intro v38;refine R1 ?_;refine H0 (by' := 40) 0 rfl rfl rfl rfl C0 Tryz.type69 rfl rfl rfl rfl rfl rfl (A0 rfl) (A0 rfl) rfl qz3 ?_;intro v40_1;refine R8 ?_;refine A1 rfl (H6 0 rfl C0 F2 (A0 rfl) rfl (A0 rfl) qz8 (by simp only [AF5, A6]; omega)) ?_;refine m4 0 rfl rfl rfl (A0 rfl) (A0 rfl) (m3 _) rfl F2 rfl (by simp only [AF5, A6]; omega) ?_;refine R7 ?_;exact I2 [0] v40_1 (trivial) rfl qz121 (N6 rfl (A7 rfl m9))
 intro h37;have he : AX6 l w = l.take k ++ w :: l.drop k := by unfold AX6; rw [hk, D4 (by rw [hh]; simpa using h37)]
 rw [he];refine R3 ?_;refine S9 rfl rfl rfl rfl C0 F2 ?_;intro v47;refine R2 ?_;refine A1 rfl (Ak2 rfl C0 F2 (A0 rfl) (A0 rfl) qz3 qz3) ?_;refine H0 (by' := 40) 0 rfl rfl rfl rfl C0 Tryz.type69 rfl rfl rfl rfl rfl rfl (A0 rfl) (A0 rfl) rfl Bv1 ?_;intro v51_2;refine Aa4 (z8 [0] 51 rfl rfl (M1 (C3 (i := 0) rfl) G6) Q2) ?_;refine R3 ?_;refine P3 _ [(1, false), (2, false), (3, false), (5, false), (6, false), (8, false), (0, true), (4, true), (7, true), (9, true)] E3 E3 rfl Ak4 ?_;refine R2 ?_;refine P1 rfl rfl rfl (fun ext => AN2 rfl C0 F2 (A0 rfl) (A0 rfl) qz3 qz3) ?_;refine R3 ?_;refine U2 rfl rfl rfl (AB4 rfl C0 F2) (fun a _ => qz4) ?_;intro v52 _;refine U2 rfl rfl rfl (L8 (by' := 40) 1 rfl C0 Tryz.type69 rfl rfl rfl rfl rfl rfl (A0 rfl) (A0 rfl) rfl Bv1) (fun a _ => qz4) ?_;intro v56_3 _;refine U2 rfl rfl rfl (L8 (by' := 40) 1 rfl C0 Tryz.type69 rfl rfl rfl rfl rfl rfl (A0 rfl) (A0 rfl) rfl Bv1) (fun a _ => qz4) ?_;intro v59_4 _;refine U2 rfl rfl rfl (L8 (by' := 40) 1 rfl C0 Tryz.type69 rfl rfl rfl rfl rfl rfl (A0 rfl) (A0 rfl) rfl Bv1) (fun a _ => qz4) ?_;intro v61_5 _;refine R4 ?_;exact I2 [1] v61_5 (trivial) rfl qz121 (N6 rfl (A7 rfl m9))
theorem CI4 (l ws : List A4) (hl : l.length ≤ 2097151) (hw : ws.length ≤ 2097152) : M7 36 [AV.list 3 (l.map A4.cs), AV.list 3 (ws.map A4.cs)] [] (fun _ : Value => True) (fun v => [.arr v 69 3 ((Ag6 (AL4 l ws)).map A4.cs)]) (fun v => AV.is v) := by
 refine C5 Tryz.func36 rfl Tryz.ntmps36 rfl ?_;refine R2 ?_;refine A1 rfl (D8 rfl H3) ?_;refine R3 ?_;refine S9 rfl rfl rfl rfl C0 F2 ?_;intro v11;refine R1 ?_;refine H0 (by' := 40) 0 rfl rfl rfl rfl C0 Tryz.type69 rfl rfl rfl rfl rfl rfl (A0 rfl) (A0 rfl) rfl qz3 ?_;intro v13_1;refine R10 ?_;refine K3 [(4, _), (14, _), (15, _)] _ (fun (i : Nat) (v : Value) => i ≤ ws.length) (fun i v => [.arr v 69 3 ((AL4 l (ws.take i)).map A4.cs)]) (fun i v => [(5, AV.is v), (16, AV.int i)]) (fun i v => ws.length - i) (0) (v13_1) ?_ (I6 B7 A5) ?_
 ·exact D6 _
 intro i v hinv;refine R5 ?_;refine A2 ?_ ?_
 ·intro h17;have k17 := C6 h17;have hlt : i < ws.length := by omega
  obtain ⟨x, hx⟩ := B3 hlt;have hpl := BW0 (ws.take i) l;rw [I5] at hpl;refine R5 ?_;refine A1 rfl (C7 rfl C0 F2 (A0 rfl) (A0 rfl) hx qz3) ?_;refine R2 ?_;intro b7;refine R5 ?_;refine At8 [] rfl rfl rfl rfl Tryz.call63 rfl (Bq1 (AL4 l (ws.take i)) x qz8) rfl (Z0 (Ay9 1 (A0 rfl) rfl) (Z0 (evb (A0 rfl)) AI5)) qz0 qz0 qz0 ?_;intro x22 ok22;refine R6 ?_;refine G8 i v (i + 1) (x22) ?_ ?_ (Le.trans (B9 [1, 1] rfl) (E8 2 (by rw [show AL4 l (ws.take (i + 1)) = AX6 (AL4 l (ws.take i)) x from by rw [V7, hx]; exact Ck6 _ _ _]; rfl) A5))
  ·omega
  omega
 intro h17;have k17 := C2 h17;have hge : ws.length ≤ i := by omega
 rw [U1 hge];have hpl := BW0 ws l;refine R2 ?_;refine AWP.le (z8 [0] 5 rfl rfl (M1 (C3 (i := 0) rfl) G6) Q2) ?_;refine R1 ?_;refine T6 69 3 rfl rfl rfl rfl H3 ?_;intro v8;refine R9 ?_;refine K3 [(4, _), (24, _), (25, _)] _ (fun (i : Nat) (v : Value) => i ≤ (AL4 l ws).length) (fun i v => [.arr v 69 3 (((AL4 l ws).take i).filter (fun w => !w.Gone) |>.map A4.cs)]) (fun i v => [(8, AV.is v), (26, AV.int i)]) (fun i v => (AL4 l ws).length - i) (0) (v8) ?_ (I6 B7 A5) ?_
 ·exact D6 _
 intro i v hinv;refine R5 ?_;refine A2 ?_ ?_
 ·intro h27;have k27 := C6 h27;have hlt : i < (AL4 l ws).length := by omega
  obtain ⟨x, hx⟩ := B3 hlt;have hfl : (((AL4 l ws).take i).filter (fun w : A4 => !w.Gone)).length ≤ 4194304 := L4 (List.length_filter_le _ _) AN6;refine R5 ?_;refine A1 rfl (C7 rfl C0 F2 (A0 rfl) (A0 rfl) hx qz3) ?_;refine R2 ?_;intro b10;refine R8 ?_;refine A2 ?_ ?_
  ·intro h32;refine R4 ?_;refine H0 (by' := 40) 1 rfl rfl rfl rfl C0 Tryz.type69 rfl rfl rfl rfl rfl rfl (A0 rfl) (A0 rfl) rfl qz3 ?_;intro v36_2;refine R6 ?_;refine G8 i v (i + 1) (v36_2) ?_ ?_ (Le.trans (B9 [0] rfl) (E8 1 qz106 A5))
   ·omega
   omega
  intro h32;refine R5 ?_;refine G8 i v (i + 1) (v) ?_ ?_ (Le.trans (B9 [0] rfl) (E8 1 qz106 A5))
  ·omega
  omega
 intro h27;have k27 := C2 h27;have hge : (AL4 l ws).length ≤ i := by omega
 rw [U1 hge];refine R7 ?_;exact I2 [0] (v) (trivial) rfl B7 K5
theorem BK0 (l ws : List A4) (hl : l.length ≤ 2097151) (hw : ws.length ≤ 2097152) : F6 36 [AV.list 3 (l.map A4.cs), AV.list 3 (ws.map A4.cs)] (AV.list 3 ((Ag6 (AL4 l ws)).map A4.cs)) :=
  N7 (CI4 l ws hl hw) fun x _ => M1 (C3 (i := 0) rfl) G6
end Go.PQ
namespace Go.PQ
open Go.Proofs
open Go Go.AV Go.M
attribute [local irreducible] OpW OpA OpS AWP J3 K8 K0 OpE J6 H5 J9 Le Ev F8
end Go.PQ
namespace Go.PQ
open Go.Proofs
open Go Go.AV Go.M
attribute [local irreducible] OpW OpA OpS AWP J3 K8 K0 OpE J6 H5 J9 Le Ev F8 L6
theorem CT9 (a b : Int) : F6 195 [AV.int a, AV.int b] (AV.int (BC3 a b)) := by
 refine B8 Tryz.func195 rfl Tryz.ntmps195 rfl ?_;refine R11 ?_;refine A2 ?_ ?_
 ·intro h7;have k7 := C6 h7;have he : BC3 a b = a := by unfold BC3; rw [D1 k7]
  rw [he];refine R6 ?_;exact E5 rfl (A7 rfl m9)
 intro h7;have k7 := C2 h7;have he : BC3 a b = b := by unfold BC3; rw [D4 k7]
 rw [he];refine R7 ?_;exact E5 rfl (A7 rfl m9)
end Go.PQ
namespace Go.PQ
open Go.Proofs
open Go Go.AV Go.M
attribute [local irreducible] OpW OpA OpS AWP J3 K8 K0 OpE J6 H5 J9 Le Ev F8 L6 Int.tmod Int.tdiv IntKind.wrap
theorem Bq2 (s : H2) (rs : List Str) (ws : List A4) (hs : s.size ≤ 400000) (hw : D2 A4.size ws ≤ 400000) : F6 209 [AV.agg s.cs, strs rs, AV.list 3 (ws.map A4.cs)] (AV.bool (fits s rs ws)) := by
 obtain ⟨hs1, hs2, hs3, hs4, hs5⟩ := AS4 hs;have hrm : room s.Cells (ws ++ hWs s.Held) = room s.Cells (hWs s.Held ++ ws) := CC4 fun w => by rw [Z7, Z7, or_comm]
 refine B8 Tryz.func209 rfl Tryz.ntmps209 rfl ?_;refine R3 ?_;intro b3;refine R11 ?_;refine E9 [(1, _), (2, _), (3, _), (10, _), (11, _)] _ (fun (i : Nat) => i ≤ s.Held.length ∧ (s.Held.all fun h => apart h rs ws) = ((s.Held.drop i).all fun h => apart h rs ws)) (fun i => []) (fun i => [(12, AV.int i)]) (fun i => s.Held.length - i) (0) ?_ (F5 A5) ?_
 ·exact ⟨D6 _, rfl⟩
 intro i hinv;refine R5 ?_;refine A2 ?_ ?_
 ·intro h13;have k13 := C6 h13;have hlt : i < s.Held.length := by omega
  obtain ⟨h, hx⟩ := B3 hlt;refine R5 ?_;refine A1 rfl (C7 rfl K9 S3 (A0 rfl) (A0 rfl) hx qz3) ?_;refine R2 ?_;intro b8;refine R7 ?_;refine A1 rfl (A9 rfl Tryz.call223 rfl (apart_spec _ _ _) AD6) ?_;refine R2 ?_;refine A2 ?_ ?_
  ·intro h20;have hfin : fits s rs ws = false := by (unfold fits; rw [hinv.2, J2 hx, w5, show apart h rs ws = false by simpa using h20]; rfl)
   refine R5 ?_;exact E5 rfl (A7 rfl qz125)
  intro h20;refine R5 ?_;refine F7 i (i + 1) ?_ ?_ (Q1 1 A5)
  ·exact ⟨by omega, by rw [hinv.2, J2 hx, w5, show apart h rs ws = true by simpa using h20]; rfl⟩
  omega
 intro h13;have k13 := C2 h13;have hge : s.Held.length ≤ i := by omega
 have hap : (s.Held.all fun h => apart h rs ws) = true := by (rw [hinv.2, l6 hge]; rfl)
 refine R10 ?_;refine N4 rfl (fun hc => A9 rfl Tryz.call224 rfl (Cn2 _ _ q7 q7) (A3 (A8 rfl hc) (A3 (A8 rfl hc) B2))) ?_;refine R4 ?_;exact E5 rfl (A7 rfl qz125)
theorem Cb4 (h : F1) (hs : h.size ≤ 1048576) : M7 222 [AV.agg h.cs] [] (fun _ : Value × Value => True) (fun x => F1.ow h x) (fun x => AV.agg (F1.ocs h x)) := by
  have h3 := P7 (f := fun x : Str => x.length) (l := h.Reads);have h4 := P7 (f := A4.size) (l := h.Writes);have h5 : h.size = D2 (fun x => x.length) h.Reads + D2 A4.size h.Writes := rfl;refine C5 Tryz.func222 rfl Tryz.ntmps222 rfl ?_;refine R3 ?_;intro b1;refine R1 ?_;intro b2;refine R5 ?_;refine E6 [] rfl rfl rfl rfl Tryz.call148 rfl (Ax5 h.Reads qz8) L2 rfl ?_;intro x5 ok5;refine R1 ?_;refine V0 0 rfl fun one_x5 => ?_;refine T2 2 rfl rfl rfl (A0 rfl) (A0 rfl) (O8 one_x5) rfl AD9 rfl ?_;refine R3 ?_;refine S9 rfl rfl rfl rfl C0 F2 ?_;intro v7;refine R2 ?_;refine H0 (by' := 40) 0 rfl rfl rfl rfl C0 Tryz.type69 rfl rfl rfl rfl rfl rfl (A0 rfl) (A0 rfl) rfl BL9 ?_;intro v10_1;refine R1 ?_;refine V0 0 rfl fun one_v10_1 => ?_;refine T2 3 rfl rfl rfl (A0 rfl) (A0 rfl) (O8 one_v10_1) rfl Tryz.sizeOf32 rfl ?_;refine R7 ?_;exact I2 [1, 0] (x5, v10_1) (trivial) rfl B7 (N6 rfl (H8 (ys := _) 2 rfl rfl Tryz.isAgg253 S3 rfl))
theorem BB6 (h : F1) (hs : h.size ≤ 1048576) : F6 222 [AV.agg h.cs] (AV.agg h.cs) :=
  N7 (Cb4 h hs) fun x _ => BA4 (F1.lc h x)
theorem Cb5 (l : List C4) (hs : D2 C4.size l ≤ 4194304) : F6 221 [AV.list 2 (l.map C4.cs)] (AV.list 2 (l.map C4.cs)) :=
  N7 (CE0 l hs) fun x h => BO2 C4.lcM h 0 rfl fun o ho => S7 _ ho
theorem CU0 (s : H2) (hs : s.size ≤ 1048576) : M7 206 [AV.agg s.cs] [] (fun _ : Value × Value => True) (fun x => H2.ow s x) (fun x => AV.agg (H2.ocs s x)) := by
 obtain ⟨hs1, hs2, hs3, hs4, hs5⟩ := AS4 hs;refine C5 Tryz.func206 rfl Tryz.ntmps206 rfl ?_;refine R3 ?_;intro b1;refine R1 ?_;intro b2;refine R2 ?_;refine Y7 _ 11 (.pure 0 (.pure 1 (.pure 2 (.pure 3 (.pure 4 (.pure 6 (.pure 7 (.e2 5 (.e2 8 (.pure 9 (.e1 10 .nil)) 10 (.e1 8 (.pure 9 .nil))) 10 (.e1 5 (.e1 8 (.pure 9 .nil))))))))))) E3 E3 rfl Ak4 ?_;refine R4 ?_;refine N5 rfl rfl rfl (fun ext => A9 rfl Tryz.call221 rfl (Cb5 s.Cells qz8) L2) ?_;refine R2 ?_;refine AW3 ?_ ?_
 ·refine L1 rfl rfl rfl (AB4 rfl N3 U6) (fun a _ => qz4) ?_;intro v11 _;refine AW3 ?_ ?_
  ·refine L1 rfl rfl rfl (W5 2 (fun _ => rfl) (L8 (by' := 24) 2 rfl N3 Tryz.type137 rfl rfl rfl rfl rfl rfl (A0 rfl) (A0 rfl) rfl BL9)) (fun a _ => qz4) ?_;intro v14_1 hone_v14_1;have one_v14_1 := hone_v14_1.2;refine N5 rfl rfl rfl (fun ext => j6 (places := #[(0, 1), (1, 1), (2, 1), (3, 1)]) rfl AD3 Tryz.zeroValue172 (fun w => by kernel_rfl) rfl (E1 (A0 rfl) (Z2 _ _) (E1 (A0 rfl) (n1 _ _) (E1 (A0 rfl) (O8 one_v14_1) X0))) rfl) ?_;refine R1 ?_;refine L1 rfl rfl rfl (j7 rfl Tryz.zeroValue172 rfl) (fun a _ => qz4) ?_;intro b3 _;refine R12 ?_;refine AA0 253 5 ?_;refine AWP.le (B9 [4, 0] rfl) ?_;refine K3 [(2, _), (3, _), (17, _), (18, _)] _ (fun (i : Nat) (v : Value) => i ≤ s.Held.length) (fun i v => [.box b3 172 [AV.int s.Floor, AV.list 2 (s.Cells.map C4.cs), AV.is v, AV.is v14_1], .arr v 253 5 ((s.Held.take i).map F1.cs)]) (fun i v => [(19, AV.int i)]) (fun i v => s.Held.length - i) (0) ((F9)) ?_ (I6 B7 A5) ?_
   ·exact D6 _
   intro i v hinv;refine R5 ?_;refine A2 ?_ ?_
   ·intro h20;have k20 := C6 h20;have hlt : i < s.Held.length := by omega
    obtain ⟨h, hx⟩ := B3 hlt;obtain ⟨g1, g2, g3, g4, g5⟩ := Ak8 hs2 hx;refine R5 ?_;refine A1 rfl (C7 rfl K9 S3 (A0 rfl) (A0 rfl) hx qz3) ?_;refine R2 ?_;intro b5;refine R2 ?_;refine O7 5 E3 E3 rfl ?_;refine R3 ?_;refine C1 rfl rfl (A9 rfl Tryz.call222 rfl (BB6 _ q7) (A3 (A0 rfl) B2)) ?_;refine R2 ?_;refine H0 (by' := 72) 2 rfl rfl rfl rfl K9 Tryz.type253 rfl rfl rfl rfl rfl rfl (A0 rfl) (A0 rfl) rfl Bu5 ?_;intro v28_2;refine R1 ?_;refine V0 2 rfl fun one_v28_2 => ?_;refine T2 1 rfl rfl rfl (A0 rfl) (A0 rfl) (O8 one_v28_2) rfl Tryz.sizeOf170 rfl ?_;refine R5 ?_;refine G8 i v (i + 1) (v28_2) ?_ ?_ (Le.trans (B9 [0, 0, 0] rfl) (E8 1 (by exact D7 (fun z => Own.box b3 172 [AV.int s.Floor, AV.list 2 (s.Cells.map C4.cs), AV.is v28_2, AV.is v14_1] :: Own.arr v28_2 253 5 z :: _) (Ah3 (f := F1.cs) hx)) A5))
    ·omega
    omega
   intro h20;have k20 := C2 h20;have hge : i = s.Held.length := by omega
   rw [hge, As8];refine R7 ?_;exact I2 [1, 3] (v, v14_1) (trivial) rfl B7 (N6 rfl (H8 (ys := _) 2 rfl rfl Y4 T0 rfl))
  refine L1 rfl rfl rfl (j7 rfl Tryz.zeroValue172 rfl) (fun a _ => qz4) ?_;intro b3 _;refine R1 ?_;refine L1 rfl rfl rfl (W5 2 (fun _ => rfl) (L8 (by' := 24) 2 rfl N3 Tryz.type137 rfl rfl rfl rfl rfl rfl (A0 rfl) (A0 rfl) rfl BL9)) (fun a _ => qz4) ?_;intro v14_3 hone_v14_3;have one_v14_3 := hone_v14_3.2;refine N5 rfl rfl rfl (fun ext => j6 (places := #[(0, 1), (1, 1), (2, 1), (3, 1)]) rfl AD3 Tryz.zeroValue172 (fun w => by kernel_rfl) rfl (E1 (A0 rfl) (Z2 _ _) (E1 (A0 rfl) (n1 _ _) (E1 (A0 rfl) (O8 one_v14_3) X0))) rfl) ?_;refine R12 ?_;refine AA0 253 5 ?_;refine AWP.le (B9 [4, 0] rfl) ?_;refine K3 [(2, _), (3, _), (17, _), (18, _)] _ (fun (i : Nat) (v : Value) => i ≤ s.Held.length) (fun i v => [.box b3 172 [AV.int s.Floor, AV.list 2 (s.Cells.map C4.cs), AV.is v, AV.is v14_3], .arr v 253 5 ((s.Held.take i).map F1.cs)]) (fun i v => [(19, AV.int i)]) (fun i v => s.Held.length - i) (0) ((F9)) ?_ (I6 B7 A5) ?_
  ·exact D6 _
  intro i v hinv;refine R5 ?_;refine A2 ?_ ?_
  ·intro h20;have k20 := C6 h20;have hlt : i < s.Held.length := by omega
   obtain ⟨h, hx⟩ := B3 hlt;obtain ⟨g1, g2, g3, g4, g5⟩ := Ak8 hs2 hx;refine R5 ?_;refine A1 rfl (C7 rfl K9 S3 (A0 rfl) (A0 rfl) hx qz3) ?_;refine R2 ?_;intro b5;refine R2 ?_;refine O7 5 E3 E3 rfl ?_;refine R3 ?_;refine C1 rfl rfl (A9 rfl Tryz.call222 rfl (BB6 _ q7) (A3 (A0 rfl) B2)) ?_;refine R2 ?_;refine H0 (by' := 72) 2 rfl rfl rfl rfl K9 Tryz.type253 rfl rfl rfl rfl rfl rfl (A0 rfl) (A0 rfl) rfl Bu5 ?_;intro v28_4;refine R1 ?_;refine V0 2 rfl fun one_v28_4 => ?_;refine T2 1 rfl rfl rfl (A0 rfl) (A0 rfl) (O8 one_v28_4) rfl Tryz.sizeOf170 rfl ?_;refine R5 ?_;refine G8 i v (i + 1) (v28_4) ?_ ?_ (Le.trans (B9 [0, 0, 0] rfl) (E8 1 (by exact D7 (fun z => Own.box b3 172 [AV.int s.Floor, AV.list 2 (s.Cells.map C4.cs), AV.is v28_4, AV.is v14_3] :: Own.arr v28_4 253 5 z :: _) (Ah3 (f := F1.cs) hx)) A5))
   ·omega
   omega
  intro h20;have k20 := C2 h20;have hge : i = s.Held.length := by omega
  rw [hge, As8];refine R7 ?_;exact I2 [1, 3] (v, v14_3) (trivial) rfl B7 (N6 rfl (H8 (ys := _) 2 rfl rfl Y4 T0 rfl))
 refine L1 rfl rfl rfl (j7 rfl Tryz.zeroValue172 rfl) (fun a _ => qz4) ?_;intro b3 _;refine R1 ?_;refine L1 rfl rfl rfl (AB4 rfl N3 U6) (fun a _ => qz4) ?_;intro v11 _;refine R1 ?_;refine L1 rfl rfl rfl (W5 3 (fun _ => rfl) (L8 (by' := 24) 3 rfl N3 Tryz.type137 rfl rfl rfl rfl rfl rfl (A0 rfl) (A0 rfl) rfl BL9)) (fun a _ => qz4) ?_;intro v14_5 hone_v14_5;have one_v14_5 := hone_v14_5.2;refine N5 rfl rfl rfl (fun ext => j6 (places := #[(0, 1), (1, 1), (2, 1), (3, 1)]) rfl AD3 Tryz.zeroValue172 (fun w => by kernel_rfl) rfl (E1 (A0 rfl) (Z2 _ _) (E1 (A0 rfl) (n1 _ _) (E1 (A0 rfl) (O8 one_v14_5) X0))) rfl) ?_;refine R12 ?_;refine AA0 253 5 ?_;refine AWP.le (B9 [3, 0] rfl) ?_;refine K3 [(2, _), (3, _), (17, _), (18, _)] _ (fun (i : Nat) (v : Value) => i ≤ s.Held.length) (fun i v => [.box b3 172 [AV.int s.Floor, AV.list 2 (s.Cells.map C4.cs), AV.is v, AV.is v14_5], .arr v 253 5 ((s.Held.take i).map F1.cs)]) (fun i v => [(19, AV.int i)]) (fun i v => s.Held.length - i) (0) ((F9)) ?_ (I6 B7 A5) ?_
 ·exact D6 _
 intro i v hinv;refine R5 ?_;refine A2 ?_ ?_
 ·intro h20;have k20 := C6 h20;have hlt : i < s.Held.length := by omega
  obtain ⟨h, hx⟩ := B3 hlt;obtain ⟨g1, g2, g3, g4, g5⟩ := Ak8 hs2 hx;refine R5 ?_;refine A1 rfl (C7 rfl K9 S3 (A0 rfl) (A0 rfl) hx qz3) ?_;refine R2 ?_;intro b5;refine R2 ?_;refine O7 5 E3 E3 rfl ?_;refine R3 ?_;refine C1 rfl rfl (A9 rfl Tryz.call222 rfl (BB6 _ q7) (A3 (A0 rfl) B2)) ?_;refine R2 ?_;refine H0 (by' := 72) 2 rfl rfl rfl rfl K9 Tryz.type253 rfl rfl rfl rfl rfl rfl (A0 rfl) (A0 rfl) rfl Bu5 ?_;intro v28_6;refine R1 ?_;refine V0 2 rfl fun one_v28_6 => ?_;refine T2 1 rfl rfl rfl (A0 rfl) (A0 rfl) (O8 one_v28_6) rfl Tryz.sizeOf170 rfl ?_;refine R5 ?_;refine G8 i v (i + 1) (v28_6) ?_ ?_ (Le.trans (B9 [0, 0, 0] rfl) (E8 1 (by exact D7 (fun z => Own.box b3 172 [AV.int s.Floor, AV.list 2 (s.Cells.map C4.cs), AV.is v28_6, AV.is v14_5] :: Own.arr v28_6 253 5 z :: _) (Ah3 (f := F1.cs) hx)) A5))
  ·omega
  omega
 intro h20;have k20 := C2 h20;have hge : i = s.Held.length := by omega
 rw [hge, As8];refine R7 ?_;exact I2 [1, 3] (v, v14_5) (trivial) rfl B7 (N6 rfl (H8 (ys := _) 2 rfl rfl Y4 T0 rfl))
theorem CI5 (s : H2) (hs : s.size ≤ 1048576) : F6 206 [AV.agg s.cs] (AV.agg s.cs) :=
  N7 (CU0 s hs) fun x _ => BA4 (H2.lc s x)
theorem less_own (l : List F1) (n : Int) (hl : l.length ≤ 1048576) : M7 211 [AV.list 5 (l.map F1.cs), AV.int n] [] (fun _ : Value => True) (fun v => [.arr v 253 5 ((AJ6 l n).map F1.cs)]) (fun v => AV.is v) := by
 refine C5 Tryz.func211 rfl Tryz.ntmps211 rfl ?_;refine R2 ?_;refine A1 rfl (D8 rfl H3) ?_;refine R3 ?_;refine T6 253 5 rfl rfl rfl rfl H3 ?_;intro v5;refine R9 ?_;refine V5 [(1, _), (4, _), (8, _), (9, _)] _ (fun (i : Nat) (v : Value) (q : List F1) => i ≤ l.length ∧ q = AJ6 (l.take i) n ∧ q.length ≤ i) (fun i v q => [.arr v 253 5 (q.map F1.cs)]) (fun i v q => [(5, AV.is v), (10, AV.int i)]) (fun i v q => l.length - i) (0) (v5) ([]) ?_ (I6 B7 A5) ?_
 ·exact ⟨D6 _, rfl, L5 _⟩
 intro i v q hinv;refine R5 ?_;refine A2 ?_ ?_
 ·intro h11;have k11 := C6 h11;have hlt : i < l.length := by omega
  obtain ⟨h, hx⟩ := B3 hlt;refine R5 ?_;refine A1 rfl (C7 rfl K9 S3 (A0 rfl) (A0 rfl) hx qz3) ?_;refine R2 ?_;intro b7;refine R9 ?_;refine A2 ?_ ?_
  ·intro h17;refine R4 ?_;refine H0 (by' := 72) 1 rfl rfl rfl rfl K9 Tryz.type253 rfl rfl rfl rfl rfl rfl (A0 rfl) (A0 rfl) rfl qz3 ?_;intro v21_1;refine R6 ?_;refine P2 i v q (i + 1) (v21_1) (q ++ [h]) ?_ ?_ (Le.trans (B9 [0, 0] rfl) (E8 1 Az5 A5))
   ·first | exact ⟨by omega, by rw [BE9 hx, D1 h17, hinv.2.1], by rw [G3]; simp; omega⟩ | exact ⟨by omega, by rw [BE9 hx, D4 (by rw [h17]; decide), hinv.2.1], by omega⟩
   omega
  intro h17;refine R5 ?_;refine P2 i v q (i + 1) (v) (q) ?_ ?_ (Le.trans (B9 [0, 0] rfl) (E8 1 Az5 A5))
  ·first | exact ⟨by omega, by rw [BE9 hx, D1 h17, hinv.2.1], by rw [G3]; simp; omega⟩ | exact ⟨by omega, by rw [BE9 hx, D4 (by rw [h17]; decide), hinv.2.1], by omega⟩
  omega
 intro h11;have k11 := C2 h11;have hge : l.length ≤ i := by omega
 have hq := hinv.2.1;rw [U1 hge] at hq;rw [← hq];refine R7 ?_;exact I2 [0] v (trivial) rfl B7 K5
theorem CE5 (l : List F1) (n : Int) (hl : l.length ≤ 1048576) : F6 211 [AV.list 5 (l.map F1.cs), AV.int n] (AV.list 5 ((AJ6 l n).map F1.cs)) :=
  N7 (less_own l n hl) fun x _ => M1 (V8.2 rfl) G6
theorem put_csH (l : List F1) (k : Nat) (x : F1) : (l.take k ++ x :: l.drop k).map F1.cs = [] ++ (l.take (k : Int).toNat).map F1.cs ++ [x.cs] ++ ([] ++ (l.drop (k : Int).toNat).map F1.cs) := by simp
theorem Cb6 (l : List F1) (h : F1) (hs : l.Pairwise fun a b => a.Txn < b.Txn) (hl : l.length ≤ 1048576) : M7 208 [AV.list 5 (l.map F1.cs), AV.agg h.cs] [] (fun _ : Value => True) (fun v => [.arr v 253 5 ((AZ9 h l).map F1.cs)]) (fun v => AV.is v) := by
 refine C5 Tryz.func208 rfl Tryz.ntmps208 rfl ?_;refine R3 ?_;intro b3;refine A1 rfl (D8 rfl H3) ?_;refine R9 ?_;refine E9 [(0, _), (3, _), (4, _)] _ (fun (k : Nat) => k ≤ l.length ∧ ∀ i y, k ≤ i → l[i]? = some y → h.Txn < y.Txn) (fun k => []) (fun k => [(5, AV.int k)]) (fun k => k) (l.length) ?_ (F5 ⟨D7 (fun z => some (AV.int z)) (by rw [A6]), rfl, rfl, rfl, trivial⟩) ?_
 ·exact ⟨L5 _, fun i y h1 h2 => by (have := (F4.1 h2).1; omega)⟩
 intro k hinv;obtain ⟨y, hy0⟩ : ∃ y : F1, 0 < k → l[k - 1]? = some y := by (by_cases h9 : 0 < k; (have h8 := hinv.1; exact ⟨_, fun _ => O1 (show k - 1 < l.length by omega)⟩); exact ⟨h, fun h8 => absurd h8 h9⟩)
 have hk1 : 0 < k → ((k : Int) - 1).toNat = k - 1 := fun _ => by omega
 refine R9 ?_;refine O6 rfl (P8 rfl rfl rfl) (fun hc => AW0 rfl K9 S3 (A8 rfl hc) (A8 rfl hc) (by have := AA2 hc; have := hinv.1; omega) (by have h9 := AA2 hc; rw [hk1 qz8, Y6, hy0 qz8]; rfl)) ?_;refine R7 ?_;refine A2 ?_ ?_
 ·intro h21;have hkt : 0 < k ∧ h.Txn < y.Txn := by simpa using h21
  refine R7 ?_;refine Ab1 ?_;refine F7 k (k - 1) ?_ ?_ (F5 ⟨D7 (fun z => some (AV.int z)) qz8, rfl, rfl, rfl, trivial⟩)
  ·exact ⟨by omega, fun i z hi hz => if e : k ≤ i then hinv.2 i z e hz else qz105⟩
  omega
 intro h21;have hng : 0 < k → ¬ h.Txn < y.Txn := fun h9 => by simpa [h9] using h21
 have hput : AZ9 h l = l.take k ++ h :: l.drop k := CE1 hinv.1 (fun i x hi hx => by have h7 := hy0 qz8; have h8 := hng qz8; rcases Nat.lt_or_ge i (k - 1) with h6 | h6; (have := Ch5 (f := F1.Txn) hs h6 hx h7; omega); (have : i = k - 1 := qz8; subst this; rw [hx] at h7; injection h7 with h7; subst h7; omega)) (fun x hx => hinv.2 k x (L5 _) hx);rw [hput];refine R3 ?_;refine S9 rfl rfl rfl rfl K9 S3 ?_;intro v24;refine R2 ?_;refine A1 rfl (Ak2 rfl K9 S3 (A0 rfl) (A0 rfl) qz8 AZ6) ?_;refine H0 (by' := 72) 0 rfl rfl rfl rfl K9 Tryz.type253 rfl rfl rfl rfl rfl rfl (A0 rfl) (A0 rfl) rfl (by simp only [P6, A6, w4]; omega) ?_;intro v28_1;refine R3 ?_;refine AWP.le (z8 [0] 6 rfl rfl (M1 (C3 (i := 0) rfl) G6) Q2) ?_;refine P3 _ [(1, false), (2, false), (3, false), (5, false), (6, false), (8, false), (0, true), (4, true), (7, true), (9, true)] E3 E3 rfl Ak4 ?_;refine R2 ?_;refine P1 rfl rfl rfl (fun ext => AN2 rfl K9 S3 (A0 rfl) (A0 rfl) qz8 AZ6) ?_;refine R3 ?_;refine U2 rfl rfl rfl (AB4 rfl K9 S3) (fun a _ => qz4) ?_;intro v29 _;refine U2 rfl rfl rfl (L8 (by' := 72) 1 rfl K9 Tryz.type253 rfl rfl rfl rfl rfl rfl (A0 rfl) (A0 rfl) rfl Bv2) (fun a _ => qz4) ?_;intro v33_2 _;refine U2 rfl rfl rfl (L8 (by' := 72) 1 rfl K9 Tryz.type253 rfl rfl rfl rfl rfl rfl (A0 rfl) (A0 rfl) rfl Bv2) (fun a _ => qz4) ?_;intro v36_3 _;refine U2 rfl rfl rfl (L8 (by' := 72) 1 rfl K9 Tryz.type253 rfl rfl rfl rfl rfl rfl (A0 rfl) (A0 rfl) rfl Bv2) (fun a _ => qz4) ?_;intro v38_4 _;refine R4 ?_;exact I2 [1] v38_4 (trivial) rfl (by first | rfl | exact D7 (fun z => [Own.arr _ 253 5 z]) (put_csH _ _ _)) (N6 rfl (A7 rfl B7))
theorem CU1 (l : List F1) (h : F1) (hs : l.Pairwise fun a b => a.Txn < b.Txn) (hl : l.length ≤ 1048576) : F6 208 [AV.list 5 (l.map F1.cs), AV.agg h.cs] (AV.list 5 ((AZ9 h l).map F1.cs)) :=
  N7 (Cb6 l h hs hl) fun x _ => M1 (V8.2 rfl) G6
theorem put_csT (l : List P5) (k : Nat) (x : P5) : (l.take k ++ x :: l.drop k).map P5.cs = [] ++ (l.take (k : Int).toNat).map P5.cs ++ [x.cs] ++ ([] ++ (l.drop (k : Int).toNat).map P5.cs) := by simp
theorem Cb7 (l : List P5) (h : P5) (hs : l.Pairwise fun a b => a.Txn < b.Txn) (hl : l.length ≤ 1048576) : M7 212 [AV.list 3 (l.map P5.cs), AV.agg h.cs] [] (fun _ : Value => True) (fun v => [.arr v 137 3 ((AU8 h l).map P5.cs)]) (fun v => AV.is v) := by
 refine C5 Tryz.func212 rfl Tryz.ntmps212 rfl ?_;refine R3 ?_;intro b3;refine A1 rfl (D8 rfl H3) ?_;refine R9 ?_;refine E9 [(0, _), (3, _), (4, _)] _ (fun (k : Nat) => k ≤ l.length ∧ ∀ i y, k ≤ i → l[i]? = some y → h.Txn < y.Txn) (fun k => []) (fun k => [(5, AV.int k)]) (fun k => k) (l.length) ?_ (F5 ⟨D7 (fun z => some (AV.int z)) (by rw [A6]), rfl, rfl, rfl, trivial⟩) ?_
 ·exact ⟨L5 _, fun i y h1 h2 => by (have := (F4.1 h2).1; omega)⟩
 intro k hinv;obtain ⟨y, hy0⟩ : ∃ y : P5, 0 < k → l[k - 1]? = some y := by (by_cases h9 : 0 < k; (have h8 := hinv.1; exact ⟨_, fun _ => O1 (show k - 1 < l.length by omega)⟩); exact ⟨h, fun h8 => absurd h8 h9⟩)
 have hk1 : 0 < k → ((k : Int) - 1).toNat = k - 1 := fun _ => by omega
 refine R9 ?_;refine O6 rfl (P8 rfl rfl rfl) (fun hc => AW0 rfl N3 U6 (A8 rfl hc) (A8 rfl hc) (by have := AA2 hc; have := hinv.1; omega) (by have h9 := AA2 hc; rw [hk1 qz8, Y6, hy0 qz8]; rfl)) ?_;refine R7 ?_;refine A2 ?_ ?_
 ·intro h21;have hkt : 0 < k ∧ h.Txn < y.Txn := by simpa using h21
  refine R7 ?_;refine Ab1 ?_;refine F7 k (k - 1) ?_ ?_ (F5 ⟨D7 (fun z => some (AV.int z)) qz8, rfl, rfl, rfl, trivial⟩)
  ·exact ⟨by omega, fun i z hi hz => if e : k ≤ i then hinv.2 i z e hz else qz105⟩
  omega
 intro h21;have hng : 0 < k → ¬ h.Txn < y.Txn := fun h9 => by simpa [h9] using h21
 have hput : AU8 h l = l.take k ++ h :: l.drop k := CE2 hinv.1 (fun i x hi hx => by have h7 := hy0 qz8; have h8 := hng qz8; rcases Nat.lt_or_ge i (k - 1) with h6 | h6; (have := Ch5 (f := P5.Txn) hs h6 hx h7; omega); (have : i = k - 1 := qz8; subst this; rw [hx] at h7; injection h7 with h7; subst h7; omega)) (fun x hx => hinv.2 k x (L5 _) hx);rw [hput];refine R3 ?_;refine S9 rfl rfl rfl rfl N3 U6 ?_;intro v24;refine R2 ?_;refine A1 rfl (Ak2 rfl N3 U6 (A0 rfl) (A0 rfl) qz8 AZ6) ?_;refine H0 (by' := 24) 0 rfl rfl rfl rfl N3 Tryz.type137 rfl rfl rfl rfl rfl rfl (A0 rfl) (A0 rfl) rfl (by simp only [P6, A6, w4]; omega) ?_;intro v28_1;refine R3 ?_;refine AWP.le (z8 [0] 6 rfl rfl (M1 (C3 (i := 0) rfl) G6) Q2) ?_;refine P3 _ [(1, false), (2, false), (3, false), (5, false), (6, false), (8, false), (0, true), (4, true), (7, true), (9, true)] E3 E3 rfl Ak4 ?_;refine R2 ?_;refine P1 rfl rfl rfl (fun ext => AN2 rfl N3 U6 (A0 rfl) (A0 rfl) qz8 AZ6) ?_;refine R3 ?_;refine U2 rfl rfl rfl (AB4 rfl N3 U6) (fun a _ => qz4) ?_;intro v29 _;refine U2 rfl rfl rfl (L8 (by' := 24) 1 rfl N3 Tryz.type137 rfl rfl rfl rfl rfl rfl (A0 rfl) (A0 rfl) rfl Bv2) (fun a _ => qz4) ?_;intro v33_2 _;refine U2 rfl rfl rfl (L8 (by' := 24) 1 rfl N3 Tryz.type137 rfl rfl rfl rfl rfl rfl (A0 rfl) (A0 rfl) rfl Bv2) (fun a _ => qz4) ?_;intro v36_3 _;refine U2 rfl rfl rfl (L8 (by' := 24) 1 rfl N3 Tryz.type137 rfl rfl rfl rfl rfl rfl (A0 rfl) (A0 rfl) rfl Bv2) (fun a _ => qz4) ?_;intro v38_4 _;refine R4 ?_;exact I2 [1] v38_4 (trivial) rfl (by first | rfl | exact D7 (fun z => [Own.arr _ 137 3 z]) (put_csT _ _ _)) (N6 rfl (A7 rfl B7))
theorem BY2 (l : List P5) (h : P5) (hs : l.Pairwise fun a b => a.Txn < b.Txn) (hl : l.length ≤ 1048576) : F6 212 [AV.list 3 (l.map P5.cs), AV.agg h.cs] (AV.list 3 ((AU8 h l).map P5.cs)) :=
  N7 (Cb7 l h hs hl) fun x _ => M1 (V8.2 rfl) G6
theorem Cb8 (l : List C4) (w : List A4) (t : Int) (ho : AU6 l) (hs : D2 C4.size l ≤ 1048576) (hw : D2 A4.size w ≤ 1048576) (ht1 : 1 ≤ t) : F6 210 [AV.list 2 (l.map C4.cs), AV.list 3 (w.map A4.cs), AV.int t] (AV.tup [AV.list 2 ((AS6 l w t).1.map C4.cs), AV.bool (AS6 l w t).2]) :=
  N7 (Cv2 l w t ho hs hw ht1) fun x h => AU0 (E2 (BO2 C4.lcM h 0 rfl fun o ho => S7 _ ho) (E2 J0 o5))
theorem AN9 (l : List Str) (hl : l.length ≤ 4194304) : F6 148 [strs l] (strs l) :=
  N7 (Ax5 l hl) fun x _ => M1 (V8.2 rfl) G6
theorem BY3 (a b : Int) : F6 153 [AV.int a, AV.int b] (AV.int (if a < b then b else a)) := by
 refine B8 Tryz.func153 rfl Tryz.ntmps153 rfl ?_;refine R11 ?_;refine A2 ?_ ?_
 ·intro h7;have k7 := C6 h7;refine R6 ?_;exact E5 rfl (A7 rfl (by exact D7 AV.int (by split <;> omega)))
 intro h7;have k7 := C2 h7;refine R7 ?_;exact E5 rfl (A7 rfl (by exact D7 AV.int (by split <;> omega)))
theorem Cb9 (s : H2) (r : O0) (g : SO s) (hs : s.size ≤ 300000) (hrs : r.size ≤ 300000) : F6 191 [AV.agg s.cs, AV.agg r.cs] (AV.tup [AV.agg (l4 s r).1.cs, AV.bool (l4 s r).2]) := by
 obtain ⟨hs1, hs2, hs3, hs4, hs5⟩ := AS4 hs;have hgc := g.cells;have hgh := g.hsort;have hgt := g.tsort;have hr2 : r.size = D2 (fun x : Str => x.length) r.Reads + D2 A4.size r.Writes := rfl;have hr3 := P7 (f := fun x : Str => x.length) (l := r.Reads);have hr4 := P7 (f := A4.size) (l := r.Writes);have hho := BY1 s.Held r.Txn;have hto := Cv4 s.Told r.Txn;obtain ⟨h, hh⟩ : ∃ h, (AM1 s.Held r.Txn).1 = h := ⟨_, rfl⟩;have hf1 : AU7 s.Held r.Txn = true → AL5 s.Held r.Txn = some h := fun e => by
  rw [← hho] at e;unfold AM1 at hh e
  cases hf : AL5 s.Held r.Txn with
  | none => rw [hf] at e; cases e
  | some x => rw [hf] at hh; exact D7 some hh
 have hf0 : AU7 s.Held r.Txn = false → AL5 s.Held r.Txn = none := fun e => Bo7.2 e;have hhs : AU7 s.Held r.Txn = true → h.size ≤ 300000 ∧ 1 ≤ h.Time := fun e => by
  obtain ⟨h1, h2⟩ := Ax0 (hf1 e);obtain ⟨i, hi⟩ := j4 h1;exact ⟨(Ak8 hs2 hi).1, g.times h h1⟩
 refine B8 Tryz.func191 rfl Tryz.ntmps191 rfl ?_;refine R3 ?_;intro b2;refine R1 ?_;intro b3;refine R1 ?_;intro b4;refine R5 ?_;refine A1 rfl (A9 rfl Tryz.call206 rfl (CI5 s qz8) L2) ?_;refine R1 ?_;intro b6;refine R7 ?_;refine A1 rfl (A9 rfl Tryz.call207 rfl (Ac2 s r.Txn qz8) E4) ?_;refine R4 ?_;intro b7;refine R8 ?_;refine A1 rfl (A9 rfl Tryz.call127 rfl (AK5 s r.Txn qz8) E4) ?_;refine R4 ?_;intro b9;refine R6 ?_;rw [hh];rw [hho, hto];refine R6 ?_;refine A2 ?_ ?_
 ·intro h29;have hk : r.Kind = 4 := by simpa using h29
  have he : l4 s r = (⟨r.Time, s.Cells, s.Held, s.Told⟩, decide (s.Floor < r.Time)) := by (unfold l4; rw [D1 hk])
  rw [he];refine R8 ?_;refine AWP.le (B9 [2, 3, 3] rfl) ?_;refine Y7 _ 7 (.pure 0 (.pure 1 (.pure 2 (.pure 3 (.pure 4 (.pure 5 (.e1 6 .nil))))))) E3 E3 rfl (S8 3) ?_;refine R7 ?_;refine AU1 rfl rfl rfl (w6 5 rfl rfl (A0 rfl) (A0 rfl) (m3 _) rfl T0 rfl) (fun a _ => qz4) ?_;intro _ _;refine R4 ?_;exact X5 rfl D5 (H7 (H8 (ys := _) 5 rfl rfl Y4 T0 rfl) u3)
 intro h29;have hk4 : r.Kind ≠ 4 := by simpa using h29
 refine R5 ?_;refine A2 ?_ ?_
 ·intro h42;have he : l4 s r = (s, false) := by (unfold l4; rw [D4 hk4, D1 h42])
  rw [he];refine R7 ?_;exact X5 rfl D5 (H7 (H8 (ys := _) 3 rfl rfl Y4 T0 rfl) u3)
 intro h42;have hT : Aj5 s.Told r.Txn = false := h42;have hnT : ¬ Aj5 s.Told r.Txn = true := by (rw [hT]; decide)
 refine R7 ?_;refine A2 ?_ ?_
 ·intro h45;have hk1 : r.Kind = 1 := by simpa using h45
  have he : l4 s r = (⟨r.Time, s.Cells, AZ9 (hOf r) s.Held, s.Told⟩, (!AU7 s.Held r.Txn && decide (s.Floor < r.Time)) && fits s r.Reads r.Writes) := by (unfold l4; rw [D4 hk4, D4 hnT, D1 hk1])
  rw [he];refine R1 ?_;refine P3 _ [(0, false), (1, false), (2, false), (3, false), (4, false), (5, false), (6, false), (7, false), (8, false), (9, false), (10, false), (12, false), (13, false), (11, true), (14, true), (15, false)] E3 E3 rfl Ak4 ?_;refine R10 ?_;refine P1 rfl rfl rfl (fun ext => A9 rfl Tryz.call148 rfl (AN9 _ qz8) (A3 (A0 rfl) B2)) ?_;refine R2 ?_;refine U2 rfl rfl rfl (AB4 rfl C0 F2) (fun a _ => qz4) ?_;intro v60 _;refine U2 rfl rfl rfl (Ab5 [6] (fun _ => rfl) (fun _ => M1 (C3 (i := 0) rfl) G6) (fun _ => Ak5) (L8 (by' := 40) 6 rfl C0 Tryz.type69 rfl rfl rfl rfl rfl rfl (A0 rfl) (A0 rfl) rfl BL9)) (fun a _ => qz4) ?_;intro v63_1 _;refine R2 ?_;refine A1 rfl (A9 rfl Tryz.call208 rfl (CU1 s.Held (hOf r) hgh qz8) E4) ?_;refine R11 ?_;refine AWP.le (B9 [2, 3, 3] rfl) ?_;refine Y7 _ 19 (.pure 0 (.pure 1 (.pure 2 (.pure 3 (.pure 4 (.pure 5 (.pure 6 (.pure 7 (.pure 8 (.pure 9 (.pure 10 (.pure 11 (.pure 12 (.pure 13 (.pure 14 (.pure 15 (.pure 16 (.pure 17 (.e1 18 .nil))))))))))))))))))) E3 E3 rfl (S8 3) ?_;refine R4 ?_;refine Ab4 rfl rfl (P8 rfl rfl rfl) (fun hc ext => BI9 2 rfl Tryz.underlying220 rfl D0 (A0 rfl) rfl) ?_;refine Ab4 rfl rfl (P8 rfl rfl rfl) (fun hc ext => Az9 1 rfl (A8 rfl hc) rfl P4 rfl) ?_;refine Ab4 rfl rfl (P8 rfl rfl rfl) (fun hc ext => BI9 0 rfl AD3 rfl D0 (A0 rfl) rfl) ?_;refine Ab4 rfl rfl (P8 rfl rfl rfl) (fun hc ext => Az9 2 rfl (A8 rfl hc) rfl P4 rfl) ?_;refine Ab4 rfl rfl (P8 rfl rfl rfl) (fun hc ext => w_gtr rfl (A8 rfl hc) (A8 rfl hc)) ?_;refine R2 ?_;refine Ab4 rfl rfl (P8 rfl rfl rfl) (fun hc ext => Ce6 2 rfl (A0 rfl) rfl Y4 T0 rfl) ?_;refine Ab4 rfl rfl (P8 rfl rfl rfl) (fun hc ext => BI9 4 rfl Tryz.underlying220 rfl AD9 (A0 rfl) rfl) ?_;refine Ab4 rfl rfl (P8 rfl rfl rfl) (fun hc ext => Az9 1 rfl (A8 rfl hc) rfl Tryz.isAgg98 rfl) ?_;refine Ab4 rfl rfl (P8 rfl rfl rfl) (fun hc ext => BI9 5 rfl Tryz.underlying220 rfl Tryz.sizeOf32 (A0 rfl) rfl) ?_;refine Ab4 rfl rfl (P8 rfl rfl rfl) (fun hc ext => Az9 1 rfl (A8 rfl hc) rfl Tryz.isAgg32 rfl) ?_;refine Ab4 rfl rfl (P8 rfl rfl rfl) (fun hc ext => A9 rfl Tryz.call209 rfl (Bq2 s r.Reads r.Writes qz8 qz8) (A3 (A8 rfl hc) (A3 (A8 rfl hc) (A3 (A8 rfl hc) B2)))) ?_;refine R2 ?_;refine AU1 rfl rfl rfl (w6 5 rfl rfl (A0 rfl) (A0 rfl) (m3 _) rfl T0 rfl) (fun a _ => qz4) ?_;intro _ _;refine R4 ?_;exact X5 rfl D5 (H7 (H8 (ys := _) 5 rfl rfl Y4 T0 rfl) u3)
 intro h45;have hk1 : r.Kind ≠ 1 := by simpa using h45
 have hap : l4 s r = (if r.Yes = true then (match AL5 s.Held r.Txn with | none => (s, false) | some h => if r.Time < h.Time then (s, false) else if (AS6 s.Cells h.Writes r.Time).2 = true then (Af0 s r (if s.Floor < r.Time then r.Time else s.Floor) (AS6 s.Cells h.Writes r.Time).1, true) else (s, false)) else (Af0 s r s.Floor s.Cells, true)) := by (unfold l4; rw [D4 hk4, D4 hnT, D4 hk1]; rfl)
 refine R6 ?_;refine A2 ?_ ?_
 ·intro h88;refine R13 ?_;refine A2 ?_ ?_
  ·intro h99;have he : l4 s r = (s, false) := by (rw [hap, D1 h88]; cases e : AU7 s.Held r.Txn with | false => (rw [hf0 e]) | true => (rw [hf1 e]; dsimp only; rw [D1 (by rw [e] at h99; simpa using h99)]))
   rw [he];refine R7 ?_;exact X5 rfl D5 (H7 (H8 (ys := _) 3 rfl rfl Y4 T0 rfl) u3)
  intro h99;simp only [AL2, Ae3, AP0] at h99;obtain ⟨hhas, hnlt⟩ := h99;obtain ⟨hz1, hz2⟩ := hhs hhas;have hz3 : h.size = D2 (fun x => x.length) h.Reads + D2 A4.size h.Writes := rfl;refine R9 ?_;refine A1 rfl (A9 rfl Tryz.call210 rfl (Cb8 s.Cells h.Writes r.Time hgc qz8 qz8 qz8) AD6) ?_;refine R12 ?_;refine A2 ?_ ?_
  ·intro h112;have he : l4 s r = (s, false) := by (rw [hap, D1 h88, hf1 hhas]; dsimp only; rw [D4 qz8, D4 (by simpa using h112)])
   rw [he];refine R7 ?_;exact X5 rfl D5 (H7 (H8 (ys := _) 3 rfl rfl Y4 T0 rfl) u3)
  intro h112;have he : l4 s r = (Af0 s r (if s.Floor < r.Time then r.Time else s.Floor) (AS6 s.Cells h.Writes r.Time).1, true) := by (rw [hap, D1 h88, hf1 hhas]; dsimp only; rw [D4 qz8, D1 (by simpa using h112)])
  rw [he];unfold Af0;refine R12 ?_;refine A1 rfl (A9 rfl Tryz.call153 rfl (BY3 _ _) E4) ?_;refine R9 ?_;refine A1 rfl (A9 rfl Tryz.call211 rfl (CE5 s.Held r.Txn qz8) E4) ?_;refine R14 ?_;refine A1 rfl (A9 rfl Tryz.call212 rfl (BY2 s.Told ⟨r.Txn, r.Yes, r.Time⟩ hgt qz8) E4) ?_;refine R10 ?_;exact X5 rfl D5 (H7 (H8 (ys := _) 3 rfl rfl Y4 T0 rfl) u3)
 intro h88;have he : l4 s r = (Af0 s r s.Floor s.Cells, true) := by (rw [hap, D4 (by rw [h88]; decide)])
 rw [he];unfold Af0;refine R7 ?_;refine A1 rfl (A9 rfl Tryz.call211 rfl (CE5 s.Held r.Txn qz8) E4) ?_;refine R14 ?_;refine A1 rfl (A9 rfl Tryz.call212 rfl (BY2 s.Told ⟨r.Txn, r.Yes, r.Time⟩ hgt qz8) E4) ?_;refine R10 ?_;exact X5 rfl D5 (H7 (H8 (ys := _) 3 rfl rfl Y4 T0 rfl) u3)
end Go.PQ
namespace Go.PQ
open Go.Proofs
open Go Go.AV Go.M
attribute [local irreducible] OpW OpA OpS AWP J3 K8 K0 OpE J6 H5 J9 Le Ev F8 L6 Int.tmod Int.tdiv IntKind.wrap
theorem Cc0 (s : H2) (k : Str) (t : Int) (hs : s.size ≤ 1048576) : M7 188 [AV.agg s.cs, AV.str k, AV.int t] [] (fun _ : Value => True) (fun x => [.arr x 3 1 ((AO7 s.Held k t).map fun n => [AV.int n])]) (fun x => AV.is x) := by
 obtain ⟨hs1, hs2, hs3, hs4, hs5⟩ := AS4 hs;refine C5 Tryz.func188 rfl Tryz.ntmps188 rfl ?_;refine R3 ?_;intro b3;refine A1 rfl (D8 rfl H3) ?_;refine R3 ?_;refine T6 3 1 rfl rfl rfl rfl H3 ?_;intro v7;refine R10 ?_;refine V5 [(1, _), (2, _), (6, _), (11, _), (12, _)] _ (fun (i : Nat) (v : Value) (ns : List Int) => i ≤ s.Held.length ∧ ns = AO7 (s.Held.take i) k t) (fun i v ns => [.arr v 3 1 (ns.map fun n => [AV.int n])]) (fun i v ns => [(7, AV.is v), (13, AV.int i)]) (fun i v ns => s.Held.length - i) (0) (v7) ([]) ?_ (I6 B7 A5) ?_
 ·exact ⟨D6 _, rfl⟩
 intro i v ns hinv;refine R5 ?_;refine A2 ?_ ?_
 ·intro h14;have k14 := C6 h14;have hlt : i < s.Held.length := by omega
  obtain ⟨h, hx⟩ := B3 hlt;have hnl : ns.length ≤ 1048576 := by (rw [hinv.2]; have h9 := Cn0 (s.Held.take i) k t; rw [I5] at h9; omega)
  refine R5 ?_;refine A1 rfl (C7 rfl K9 S3 (A0 rfl) (A0 rfl) hx qz3) ?_;refine R2 ?_;intro b9;refine R12 ?_;refine N4 rfl (fun hc => A9 rfl Tryz.call203 rfl (Ax6 _ _) (A3 (A8 rfl hc) (A3 (A8 rfl hc) B2))) ?_;refine R2 ?_;refine A2 ?_ ?_
  ·intro h26;refine R5 ?_;refine H0 (by' := 8) 1 rfl rfl rfl rfl C9 Tryz.type3 rfl rfl rfl rfl rfl rfl (A0 rfl) (A0 rfl) rfl qz3 ?_;intro v31_1;refine R6 ?_;refine P2 i v ns (i + 1) (v31_1) (ns ++ [h.Txn]) ?_ ?_ (Le.trans (B9 [0, 0] rfl) (E8 1 Az5 A5))
   ·first | exact ⟨by omega, by rw [Bp7 hx CL0, hinv.2]⟩ | exact ⟨by omega, by rw [CE3 hx CL0, hinv.2]⟩
   omega
  intro h26;refine R5 ?_;refine P2 i v ns (i + 1) (v) (ns) ?_ ?_ (Le.trans (B9 [0, 0] rfl) (E8 1 Az5 A5))
  ·first | exact ⟨by omega, by rw [Bp7 hx CL0, hinv.2]⟩ | exact ⟨by omega, by rw [CE3 hx CL0, hinv.2]⟩
  omega
 intro h14;have k14 := C2 h14;have hge : s.Held.length ≤ i := by omega
 have hns := hinv.2;rw [U1 hge] at hns;rw [← hns];refine R7 ?_;exact I2 [0] v (trivial) rfl B7 K5
theorem BY4 (s : H2) (k : Str) (t : Int) (hs : s.size ≤ 1048576) : F6 188 [AV.agg s.cs, AV.str k, AV.int t] (ints (AO7 s.Held k t)) :=
  N7 (Cc0 s k t hs) fun x _ => M1 (V8.2 rfl) G6
theorem of_own (l : List O0) (hl : l.length ≤ 60) (hr : ∀ r ∈ l, r.size ≤ 1100) : M7 173 [AV.list 7 (l.map O0.cs)] [] (fun _ : Value => True) (fun x => [.arr x 4 1 ((Af1 AE0 l).map fun b => [AV.bool b])]) (fun x => AV.tup [AV.agg (o7 AE0 l).cs, AV.is x]) := by
 have hgs : ∀ i, SO (o7 AE0 (l.take i)) := fun i => Ch7 so_zero;have hsz : ∀ i, (o7 AE0 (l.take i)).size ≤ 300000 := fun i => by
  have h1 := size_phi (o7 AE0 (l.take i));have h2 := CT5 (m := 1100) (s := AE0) (l := l.take i) fun r hr2 => hr r (An6 hr2);have h3 : phi AE0 = 0 := rfl;have h4 : (l.take i).length ≤ 60 := by rw [I5]; omega
  omega
 refine C5 Tryz.func173 rfl Tryz.ntmps173 rfl ?_;refine R3 ?_;intro b2;refine A1 rfl (D8 rfl H3) ?_;refine R4 ?_;intro b4;refine R3 ?_;refine T6 4 1 rfl rfl rfl rfl H3 ?_;intro v5;refine R3 ?_;refine AWP.le (Ad4 1 1 2 rfl rfl Q2) ?_;refine AWP.le (Ad4 1 2 5 rfl rfl Q2) ?_;refine AWP.le (Ad4 1 3 3 rfl rfl Q2) ?_;refine R6 ?_;refine AWP.le (B9 [1, 0] rfl) ?_;refine V5 [(2, _), (3, _), (4, _), (10, _), (11, _)] _ (fun (i : Nat) (v : Value) (bs : List Bool) => i ≤ l.length ∧ bs = Af1 AE0 (l.take i) ∧ bs.length ≤ i) (fun i v bs => [.box b4 172 (o7 AE0 (l.take i)).cs, .arr v 4 1 (bs.map fun b => [AV.bool b])]) (fun i v bs => [(5, AV.is v), (12, AV.int i)]) (fun i v bs => l.length - i) (0) (v5) ([]) ?_ (I6 B7 A5) ?_
 ·exact ⟨D6 _, rfl, L5 _⟩
 intro i v bs hinv;refine R5 ?_;refine A2 ?_ ?_
 ·intro h13;have k13 := C6 h13;have hlt : i < l.length := by omega
  obtain ⟨r, hx⟩ := B3 hlt;have hgr := hr r (C3 hx);have hgi := hgs i;have hsi := hsz i;refine R5 ?_;refine A1 rfl (C7 rfl Tryz.underlying223 Tryz.sizeOf220 (A0 rfl) (A0 rfl) hx qz3) ?_;refine R2 ?_;intro b7;refine R6 ?_;refine A1 rfl (A9 rfl Tryz.call191 rfl (Cb9 (o7 AE0 (l.take i)) r hgi qz8 qz8) E4) ?_;refine R4 ?_;intro b8;refine R8 ?_;refine A2 ?_ ?_
  ·intro h22;have hstep : (l4 (o7 AE0 (l.take i)) r).1 = AP3 (o7 AE0 (l.take i)) r := by (unfold AP3; rw [D1 h22])
   refine R8 ?_;refine H0 (by' := 1) 3 rfl rfl rfl rfl Tryz.underlying124 Tryz.type4 rfl rfl rfl rfl rfl rfl (A0 rfl) (A0 rfl) rfl qz3 ?_;intro v27_1;refine R6 ?_;refine P2 i v bs (i + 1) (v27_1) (bs ++ [(l4 (o7 AE0 (l.take i)) r).2]) ?_ ?_ (Le.trans (B9 [0, 0, 0, 0] rfl) (E8 2 (by first | (rw [V1, Bg7 hx, ← hstep]; rfl) | rfl) A5))
   ·exact ⟨by omega, by rw [BY0 hx, hinv.2.1], by rw [G3]; simp; omega⟩
   omega
  intro h22;have hstep : o7 AE0 (l.take i) = AP3 (o7 AE0 (l.take i)) r := by (conv => rhs; unfold AP3; rw [D4 (by rw [h22]; decide)])
  refine R5 ?_;refine H0 (by' := 1) 3 rfl rfl rfl rfl Tryz.underlying124 Tryz.type4 rfl rfl rfl rfl rfl rfl (A0 rfl) (A0 rfl) rfl qz3 ?_;intro v27_2;refine R6 ?_;refine P2 i v bs (i + 1) (v27_2) (bs ++ [(l4 (o7 AE0 (l.take i)) r).2]) ?_ ?_ (Le.trans (B9 [0, 0, 0, 0] rfl) (E8 2 (by first | (rw [V1, Bg7 hx, ← hstep]; rfl) | rfl) A5))
  ·exact ⟨by omega, by rw [BY0 hx, hinv.2.1], by rw [G3]; simp; omega⟩
  omega
 intro h13;have k13 := C2 h13;have hge : i = l.length := by omega
 have hbs := hinv.2.1;rw [hge, As8] at hbs;rw [hge, As8, ← hbs];refine R9 ?_;exact I2 [1] v (trivial) rfl B7 (q8 rfl D5 (H7 (H8 (ys := _) 2 rfl rfl Y4 T0 rfl) u3))
theorem ofF_spec (l : List O0) (hl : l.length ≤ 60) (hr : ∀ r ∈ l, r.size ≤ 1100) : F6 173 [AV.list 7 (l.map O0.cs)] (AV.tup [AV.agg (o7 AE0 l).cs, AV.list 1 ((Af1 AE0 l).map fun b => [AV.bool b])]) :=
  N7 (of_own l hl hr) fun x _ => AU0 (E2 J0 (E2 (M1 (C3 (i := 0) rfl) G6) o5))
end Go.PQ
namespace Go.PQ
open Go.Proofs
open Go Go.AV Go.M
attribute [local irreducible] OpW OpA OpS AWP J3 K8 K0 OpE J6 H5 J9 Le Ev F8 L6 Int.tmod IntKind.wrap Q7
theorem Cn4 (b : Nat) (code : List Int) (hcode : q6 code) (c : V2) (hp : c.p ≤ 6000000) : M7 84 [AV.ptr b 0] [.box b 62 (U4 code c)] (fun x : V2 × Str => x.1.p ≤ c.p + 2 ∧ x.2.length ≤ 64) (fun x => [.box b 62 (U4 code x.1)]) (fun x => AV.str x.2) := by
  refine C5 Tryz.func84 rfl Tryz.ntmps84 rfl ?_;refine R2 ?_;refine A1 rfl (D8 rfl (N9 (l := []) rfl)) ?_;refine R4 ?_;refine A1 rfl (Ai4 rfl G9 M4 Tryz.zeroValue9 rfl rfl rfl rfl (E1 (N9 (l := []) rfl) (a8 _) (E1 (N9 (l := [49]) rfl) (a8 _) (E1 (N9 (l := [55]) rfl) (a8 _) (E1 (N9 (l := [49, 48]) rfl) (a8 _) (E1 (N9 (l := [45, 51]) rfl) (a8 _) (E1 (N9 (l := [120]) rfl) (a8 _) (E1 (N9 (l := [97, 44, 98, 95, 99]) rfl) (a8 _) X0))))))) rfl rfl) ?_;refine E6 [0] rfl rfl rfl rfl Tryz.call110 rfl (Cu6 _ _ hcode _ ([[], [49], [55], [49, 48], [45, 51], [120], [97, 44, 98, 95, 99]] : List Str) D5 qz8) (A3 (A0 rfl) (A3 (A0 rfl) B2)) rfl ?_;intro x5 ok5;refine R3 ?_
  (refine I2 [0] ((_, _)) ?_ rfl j8 K5; exact ok5)
end Go.PQ