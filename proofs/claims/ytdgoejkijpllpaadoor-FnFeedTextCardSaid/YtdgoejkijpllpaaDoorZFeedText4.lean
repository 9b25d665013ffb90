/- FnFeedText: for every drawn feed item its line is parsed back, and the program answers what the reference answers. The card ties variables of Go's library (tables, two sentinel errors) to their texts. -/
import Derived.Shelf.Strings.Split
import Derived.Shelf.Strings.Cut
import Derived.Shelf.Strings.Prefix
import Derived.Shelf.Strconv.ErrVarAll
import Derived.Test.YtdgoejkijpllpaaDoorProg
import Derived.Shelf.Vars
import Derived.Stop.LaidErr
import Derived.Test.YtdgoejkijpllpaaDoorRows
import Derived.Test.YtdgoejkijpllpaaDoorCards
import Derived.Test.YtdgoejkijpllpaaDoorTie
import Derived.Lay
import Derived.SevenTiedAt
import Derived.Test.YtdgoejkijpllpaaDoorZFeedText3

namespace Go.Proofs
open Go.Shelf
set_option linter.unusedVariables false
def Tryd.split_ren : Go.Shelf.Ren := ⟨fun | 146 => 43 | 221 => 69 | 268 => 84 | 138 => 85 | 143 => 86 | 195 => 97 | 197 => 98 | 218 => 99 | 219 => 89 | 260 => 113 | 217 => 105 | 225 => 106 | 224 => 107 | 267 => 108 | 266 => 117 | 314 => 118 | n => n, fun | 9 => 9 | 31 => 30 | 3 => 3 | 4 => 4 | 0 => 0 | 105 => 103 | 21 => 21 | 5 => 5 | 46 => 111 | 119 => 130 | 139 => 133 | 138 => 132 | 146 => 124 | 51 => 123 | n => n, fun | 1 => 0 | 3 => 4 | 4 => 5 | n => n⟩
theorem Tryd.split : Go.Proofs.Lays.n146 Tryd.prog Tryd.split_ren := {
  mixed := by kernel_rfl
  f138 := Tryd.func85.trans (congrArg some (by kernel_rfl))
  f143 := Tryd.func86.trans (congrArg some (by kernel_rfl))
  f146 := Tryd.func43.trans (congrArg some (by kernel_rfl))
  f195 := Tryd.func97.trans (congrArg some (by kernel_rfl))
  f197 := Tryd.func98.trans (congrArg some (by kernel_rfl))
  f217 := Tryd.func105.trans (congrArg some (by kernel_rfl))
  f218 := Tryd.func99.trans (congrArg some (by kernel_rfl))
  f219 := Tryd.func89.trans (congrArg some (by kernel_rfl))
  f221 := Tryd.func69.trans (congrArg some (by kernel_rfl))
  f224 := Tryd.func107.trans (congrArg some (by kernel_rfl))
  f225 := Tryd.func106.trans (congrArg some (by kernel_rfl))
  f260 := Tryd.func113.trans (congrArg some (by kernel_rfl))
  f266 := Tryd.func117.trans (congrArg some (by kernel_rfl))
  f267 := Tryd.func108.trans (congrArg some (by kernel_rfl))
  f268 := Tryd.func84.trans (congrArg some (by kernel_rfl))
  f314 := Tryd.func118.trans (congrArg some (by kernel_rfl))
  t0 := Tryd.underlying0
  a0 := Tryd.isAgg0
  z0 := Tryd.sizeOf0
  v0 := Tryd.zeroValue0
  t3 := Tryd.underlying3
  a3 := Tryd.isAgg3
  z3 := Tryd.sizeOf3
  v3 := Tryd.zeroValue3
  t4 := Tryd.underlying4
  a4 := Tryd.isAgg4
  z4 := Tryd.sizeOf4
  v4 := Tryd.zeroValue4
  t5 := Tryd.underlying5
  a5 := Tryd.isAgg5
  z5 := Tryd.sizeOf5
  v5 := Tryd.zeroValue5
  t9 := Tryd.underlying9
  a9 := Tryd.isAgg9
  z9 := Tryd.sizeOf9
  v9 := Tryd.zeroValue9
  t21 := Tryd.underlying21
  a21 := Tryd.isAgg21
  z21 := Tryd.sizeOf21
  v21 := Tryd.zeroValue21
  t31 := Tryd.underlying30
  a31 := Tryd.isAgg30
  z31 := Tryd.sizeOf30
  v31 := Tryd.zeroValue30
  t46 := Tryd.underlying111
  a46 := Tryd.isAgg111
  z46 := Tryd.sizeOf111
  v46 := Tryd.zeroValue111
  t51 := Tryd.underlying123
  a51 := Tryd.isAgg123
  z51 := Tryd.sizeOf123
  v51 := Tryd.zeroValue123
  t105 := Tryd.underlying103
  a105 := Tryd.isAgg103
  z105 := Tryd.sizeOf103
  v105 := Tryd.zeroValue103
  t119 := Tryd.underlying130
  a119 := Tryd.isAgg130
  z119 := Tryd.sizeOf130
  t138 := Tryd.underlying132
  a138 := Tryd.isAgg132
  z138 := Tryd.sizeOf132
  v138 := Tryd.zeroValue132
  t139 := Tryd.underlying133
  a139 := Tryd.isAgg133
  z139 := Tryd.sizeOf133
  v139 := Tryd.zeroValue133
  t146 := Tryd.underlying124
  a146 := Tryd.isAgg124
  z146 := Tryd.sizeOf124
  v146 := Tryd.zeroValue124
  g1 := by kernel_rfl
  g3 := by kernel_rfl
  g4 := by kernel_rfl }
def Tryd.cut_ren : Go.Shelf.Ren := ⟨fun | 145 => 45 | 220 => 71 | 219 => 89 | 217 => 105 | 225 => 106 | 224 => 107 | 267 => 108 | 266 => 117 | 314 => 118 | n => n, fun | 9 => 9 | 4 => 4 | 59 => 66 | 3 => 3 | 5 => 5 | 46 => 111 | 146 => 124 | 51 => 123 | n => n, fun | 1 => 0 | n => n⟩
theorem Tryd.cut : Go.Proofs.Lays.n145 Tryd.prog Tryd.cut_ren := {
  mixed := by kernel_rfl
  f145 := Tryd.func45.trans (congrArg some (by kernel_rfl))
  f217 := Tryd.func105.trans (congrArg some (by kernel_rfl))
  f219 := Tryd.func89.trans (congrArg some (by kernel_rfl))
  f220 := Tryd.func71.trans (congrArg some (by kernel_rfl))
  f224 := Tryd.func107.trans (congrArg some (by kernel_rfl))
  f225 := Tryd.func106.trans (congrArg some (by kernel_rfl))
  f266 := Tryd.func117.trans (congrArg some (by kernel_rfl))
  f267 := Tryd.func108.trans (congrArg some (by kernel_rfl))
  f314 := Tryd.func118.trans (congrArg some (by kernel_rfl))
  t3 := Tryd.underlying3
  a3 := Tryd.isAgg3
  z3 := Tryd.sizeOf3
  v3 := Tryd.zeroValue3
  t4 := Tryd.underlying4
  a4 := Tryd.isAgg4
  z4 := Tryd.sizeOf4
  v4 := Tryd.zeroValue4
  t5 := Tryd.underlying5
  a5 := Tryd.isAgg5
  z5 := Tryd.sizeOf5
  v5 := Tryd.zeroValue5
  t9 := Tryd.underlying9
  a9 := Tryd.isAgg9
  z9 := Tryd.sizeOf9
  v9 := Tryd.zeroValue9
  t46 := Tryd.underlying111
  a46 := Tryd.isAgg111
  z46 := Tryd.sizeOf111
  v46 := Tryd.zeroValue111
  t51 := Tryd.underlying123
  a51 := Tryd.isAgg123
  z51 := Tryd.sizeOf123
  v51 := Tryd.zeroValue123
  t59 := Tryd.underlying66
  a59 := Tryd.isAgg66
  z59 := Tryd.sizeOf66
  v59 := Tryd.zeroValue66
  t146 := Tryd.underlying124
  a146 := Tryd.isAgg124
  z146 := Tryd.sizeOf124
  v146 := Tryd.zeroValue124
  g1 := by kernel_rfl }
def Tryd.trimSuffix_ren : Go.Shelf.Ren := ⟨fun | 102 => 46 | 209 => 72 | 207 => 90 | n => n, fun | 9 => 9 | 4 => 4 | 3 => 3 | n => n, fun | n => n⟩
theorem Tryd.trimSuffix : Go.Proofs.Lays.n102 Tryd.prog Tryd.trimSuffix_ren := {
  mixed := by kernel_rfl
  f102 := Tryd.func46.trans (congrArg some (by kernel_rfl))
  f207 := Tryd.func90.trans (congrArg some (by kernel_rfl))
  f209 := Tryd.func72.trans (congrArg some (by kernel_rfl))
  t3 := Tryd.underlying3
  a3 := Tryd.isAgg3
  z3 := Tryd.sizeOf3
  v3 := Tryd.zeroValue3
  t4 := Tryd.underlying4
  a4 := Tryd.isAgg4
  z4 := Tryd.sizeOf4
  v4 := Tryd.zeroValue4
  t9 := Tryd.underlying9
  a9 := Tryd.isAgg9
  z9 := Tryd.sizeOf9
  v9 := Tryd.zeroValue9 }
def Tryd.atoi_ren : Go.Shelf.Ren := ⟨fun | 172 => 70 | 244 => 87 | 245 => 88 | 247 => 100 | 279 => 101 | 280 => 102 | 281 => 103 | 282 => 104 | 287 => 114 | 316 => 115 | 171 => 62 | 205 => 116 | 321 => 124 | 322 => 125 | 243 => 81 | 246 => 96 | 283 => 109 | 284 => 110 | 285 => 111 | 286 => 112 | 129 => 120 | 317 => 119 | 318 => 121 | 319 => 122 | 320 => 123 | 337 => 126 | 338 => 127 | n => n, fun | 9 => 9 | 3 => 3 | 75 => 84 | 76 => 85 | 4 => 4 | 5 => 5 | 167 => 105 | 37 => 44 | 0 => 0 | 85 => 106 | 2 => 2 | 168 => 108 | 53 => 70 | 175 => 117 | 46 => 111 | 210 => 121 | 127 => 135 | 145 => 138 | 143 => 136 | 21 => 21 | 171 => 112 | 173 => 115 | 212 => 127 | 51 => 123 | 20 => 20 | 213 => 128 | 232 => 140 | 233 => 141 | 80 => 92 | n => n, fun | 15 => 1 | 16 => 2 | 17 => 3 | 18 => 6 | 19 => 7 | n => n⟩
theorem Tryd.atoi : Go.Proofs.LaysC.n172 Tryd.prog Tryd.atoi_ren := {
  mixed := by kernel_rfl
  f129 := Tryd.func120.trans (congrArg some (by kernel_rfl))
  f171 := Tryd.func62.trans (congrArg some (by kernel_rfl))
  f172 := Tryd.func70.trans (congrArg some (by kernel_rfl))
  f205 := Tryd.func116.trans (congrArg some (by kernel_rfl))
  f243 := Tryd.func81.trans (congrArg some (by kernel_rfl))
  f244 := Tryd.func87.trans (congrArg some (by kernel_rfl))
  f245 := Tryd.func88.trans (congrArg some (by kernel_rfl))
  f246 := Tryd.func96.trans (congrArg some (by kernel_rfl))
  f247 := Tryd.func100.trans (congrArg some (by kernel_rfl))
  f279 := Tryd.func101.trans (congrArg some (by kernel_rfl))
  f280 := Tryd.func102.trans (congrArg some (by kernel_rfl))
  f281 := Tryd.func103.trans (congrArg some (by kernel_rfl))
  f282 := Tryd.func104.trans (congrArg some (by kernel_rfl))
  f283 := Tryd.func109.trans (congrArg some (by kernel_rfl))
  f284 := Tryd.func110.trans (congrArg some (by kernel_rfl))
  f285 := Tryd.func111.trans (congrArg some (by kernel_rfl))
  f286 := Tryd.func112.trans (congrArg some (by kernel_rfl))
  f287 := Tryd.func114.trans (congrArg some (by kernel_rfl))
  f316 := Tryd.func115.trans (congrArg some (by kernel_rfl))
  f317 := Tryd.func119.trans (congrArg some (by kernel_rfl))
  f318 := Tryd.func121.trans (congrArg some (by kernel_rfl))
  f319 := Tryd.func122.trans (congrArg some (by kernel_rfl))
  f320 := Tryd.func123.trans (congrArg some (by kernel_rfl))
  f321 := Tryd.func124.trans (congrArg some (by kernel_rfl))
  f322 := Tryd.func125.trans (congrArg some (by kernel_rfl))
  f337 := Tryd.func126.trans (congrArg some (by kernel_rfl))
  f338 := Tryd.func127.trans (congrArg some (by kernel_rfl))
  t0 := Tryd.underlying0
  a0 := Tryd.isAgg0
  z0 := Tryd.sizeOf0
  v0 := Tryd.zeroValue0
  t2 := Tryd.underlying2
  a2 := Tryd.isAgg2
  z2 := Tryd.sizeOf2
  v2 := Tryd.zeroValue2
  t3 := Tryd.underlying3
  a3 := Tryd.isAgg3
  z3 := Tryd.sizeOf3
  v3 := Tryd.zeroValue3
  t4 := Tryd.underlying4
  a4 := Tryd.isAgg4
  z4 := Tryd.sizeOf4
  v4 := Tryd.zeroValue4
  t5 := Tryd.underlying5
  a5 := Tryd.isAgg5
  z5 := Tryd.sizeOf5
  v5 := Tryd.zeroValue5
  t9 := Tryd.underlying9
  a9 := Tryd.isAgg9
  z9 := Tryd.sizeOf9
  v9 := Tryd.zeroValue9
  t20 := Tryd.underlying20
  a20 := Tryd.isAgg20
  z20 := Tryd.sizeOf20
  v20 := Tryd.zeroValue20
  t21 := Tryd.underlying21
  a21 := Tryd.isAgg21
  z21 := Tryd.sizeOf21
  v21 := Tryd.zeroValue21
  t37 := Tryd.underlying44
  a37 := Tryd.isAgg44
  z37 := Tryd.sizeOf44
  v37 := Tryd.zeroValue44
  t46 := Tryd.underlying111
  a46 := Tryd.isAgg111
  z46 := Tryd.sizeOf111
  v46 := Tryd.zeroValue111
  t51 := Tryd.underlying123
  a51 := Tryd.isAgg123
  z51 := Tryd.sizeOf123
  v51 := Tryd.zeroValue123
  t53 := Tryd.underlying70
  a53 := Tryd.isAgg70
  z53 := Tryd.sizeOf70
  v53 := Tryd.zeroValue70
  t75 := Tryd.underlying84
  a75 := Tryd.isAgg84
  z75 := Tryd.sizeOf84
  v75 := Tryd.zeroValue84
  t76 := Tryd.underlying85
  a76 := Tryd.isAgg85
  z76 := Tryd.sizeOf85
  v76 := Tryd.zeroValue85
  t85 := Tryd.underlying106
  a85 := Tryd.isAgg106
  z85 := Tryd.sizeOf106
  v85 := Tryd.zeroValue106
  t127 := Tryd.underlying135
  a127 := Tryd.isAgg135
  z127 := Tryd.sizeOf135
  v127 := Tryd.zeroValue135
  t143 := Tryd.underlying136
  a143 := Tryd.isAgg136
  z143 := Tryd.sizeOf136
  v143 := Tryd.zeroValue136
  t145 := Tryd.underlying138
  a145 := Tryd.isAgg138
  z145 := Tryd.sizeOf138
  v145 := Tryd.zeroValue138
  t167 := Tryd.underlying105
  a167 := Tryd.isAgg105
  z167 := Tryd.sizeOf105
  v167 := Tryd.zeroValue105
  t168 := Tryd.underlying108
  a168 := Tryd.isAgg108
  z168 := Tryd.sizeOf108
  v168 := Tryd.zeroValue108
  t171 := Tryd.underlying112
  a171 := Tryd.isAgg112
  z171 := Tryd.sizeOf112
  v171 := Tryd.zeroValue112
  t173 := Tryd.underlying115
  a173 := Tryd.isAgg115
  z173 := Tryd.sizeOf115
  v173 := Tryd.zeroValue115
  t175 := Tryd.underlying117
  a175 := Tryd.isAgg117
  z175 := Tryd.sizeOf117
  v175 := Tryd.zeroValue117
  t210 := Tryd.underlying121
  a210 := Tryd.isAgg121
  z210 := Tryd.sizeOf121
  v210 := Tryd.zeroValue121
  t212 := Tryd.underlying127
  a212 := Tryd.isAgg127
  z212 := Tryd.sizeOf127
  v212 := Tryd.zeroValue127
  t213 := Tryd.underlying128
  a213 := Tryd.isAgg128
  z213 := Tryd.sizeOf128
  t232 := Tryd.underlying140
  a232 := Tryd.isAgg140
  z232 := Tryd.sizeOf140
  v232 := Tryd.zeroValue140
  t233 := Tryd.underlying141
  a233 := Tryd.isAgg141
  z233 := Tryd.sizeOf141
  v233 := Tryd.zeroValue141
  g15 := by kernel_rfl
  g16 := by kernel_rfl
  g17 := by kernel_rfl
  g18 := by kernel_rfl
  g19 := by kernel_rfl
  t80 := Tryd.underlying92
  a80 := Tryd.isAgg92
  z80 := Tryd.sizeOf92
  v80 := Tryd.zeroValue92
  i0 := by kernel_rfl
  i2 := by kernel_rfl
  i3 := by kernel_rfl
  i4 := by kernel_rfl
  i5 := by kernel_rfl
  i9 := by kernel_rfl
  i20 := by kernel_rfl
  i21 := by kernel_rfl
  i37 := by kernel_rfl
  i46 := by kernel_rfl
  i51 := by kernel_rfl
  i53 := by kernel_rfl
  i75 := by kernel_rfl
  i76 := by kernel_rfl
  i80 := by kernel_rfl
  i85 := by kernel_rfl
  i127 := by kernel_rfl
  i143 := by kernel_rfl
  i145 := by kernel_rfl
  i167 := by kernel_rfl
  i168 := by kernel_rfl
  i171 := by kernel_rfl
  i173 := by kernel_rfl
  i175 := by kernel_rfl
  i210 := by kernel_rfl
  i212 := by kernel_rfl
  i232 := by kernel_rfl
  i233 := by kernel_rfl
  m15 := by kernel_rfl
  m16 := by kernel_rfl
  m17 := by kernel_rfl
  m18 := by kernel_rfl
  m19 := by kernel_rfl
  c0 := by kernel_rfl
  c2 := by kernel_rfl
  c3 := by kernel_rfl
  c4 := by kernel_rfl
  c5 := by kernel_rfl
  c9 := by kernel_rfl
  c20 := by kernel_rfl
  c21 := by kernel_rfl
  c37 := by kernel_rfl
  c46 := by kernel_rfl
  c51 := by kernel_rfl
  c53 := by kernel_rfl
  c75 := by kernel_rfl
  c76 := by kernel_rfl
  c80 := by kernel_rfl
  c85 := by kernel_rfl
  c127 := by kernel_rfl
  c143 := by kernel_rfl
  c145 := by kernel_rfl
  c167 := by kernel_rfl
  c168 := by kernel_rfl
  c171 := by kernel_rfl
  c173 := by kernel_rfl
  c175 := by kernel_rfl
  c210 := by kernel_rfl
  c212 := by kernel_rfl
  c213 := by kernel_rfl
  c232 := by kernel_rfl
  c233 := by kernel_rfl }
end Go.Proofs

set_option linter.unusedVariables false
set_option linter.unusedSimpArgs false
set_option maxRecDepth 100000
namespace Go.Proofs.YtdgoejkijpllpaaDoor
open Go Go.AV Go.M
attribute [local irreducible] OpW OpA OpS AWP FSpec ESpec GSpec OpE RetOk RetOkG RvDen Le Ev GuardIs SrcIs Int.tmod Int.tdiv IntKind.wrap
def readW (w : World) : Prop := tabW w ∧ (∃ m, w.cell? ⟨0, 0, none⟩ = some (.int .i64 m)) ∧ (∃ tp p, w.var? Tryd.prog "strconv.ErrSyntax" = some #[.iface tp p]) ∧ (∃ tp p, w.var? Tryd.prog "strconv.ErrRange" = some #[.iface tp p])
theorem readW_heap {W w' : World} (h : readW W) (hw : RLe (heapR W) w') : readW w' :=
  let ⟨h1, ⟨m, h2⟩, ⟨t3, p3, h3⟩, ⟨t4, p4, h4⟩⟩ := h
  ⟨tabW_heap h1 hw, ⟨m, cell_heap h2 hw⟩, ⟨t3, p3, var_heap h3 hw⟩, ⟨t4, p4, var_heap h4 hw⟩⟩
theorem split_spec (s : Str) (c : UInt8) (hs : s.length ≤ 1048576) : FSpec Tryd.prog 43 [AV.wt readW (AV.str s), AV.str [c]] (strs (splitC c s)) := by
  have hsz : (ByteArray.mk s.toArray).size = s.length := size_mk s
  have hle := Lib.countB_le ⟨#[c]⟩ (Nat.le_refl 1) _ ⟨s.toArray⟩ (Nat.le_refl _)
  have hlen := Lib.splitB_all ⟨#[c]⟩ (Nat.le_refl 1) 0 _ ⟨s.toArray⟩ rfl
  refine fspec_of_gspec (pieces_own (T := readW) (t := 9) (s := s) (c := c) (ps := Lib.splitB ⟨#[c]⟩ 0 (Lib.countB ⟨s.toArray⟩ ⟨#[c]⟩) ⟨s.toArray⟩) ?_ ?_ fun w hT => ?_) fun v _ => lt_arr (List.mem_singleton.2 rfl) le_refl_e
  · rw [Lib.splitB_data]
    show Lib.splitK [c] 0 (Lib.count s [c]) s = _
    rw [Lib.count_one]
    exact split_rec c s _ rfl
  · rw [hlen]; unfold maxLen; omega
  · obtain ⟨_, ⟨m, hm⟩, _⟩ := hT
    refine (Any.strings_Split Tryd.split (by kernel_rfl) ⟨s.toArray⟩ ⟨#[c]⟩ m w (by rw [hsz]; omega) hm (Nat.le_refl 1)).mono fun e w' ⟨e1, e2⟩ => ?_
    rw [hlen]
    exact ⟨e1, e2⟩
theorem cut_spec (s : Str) (c : UInt8) (hs : s.length ≤ 1048576) : FSpec Tryd.prog 45 [AV.wt readW (AV.str s), AV.str [c]] (AV.tup [AV.str (Lib.cut s [c]).1, AV.str (Lib.cut s [c]).2.1, AV.bool (Lib.cut s [c]).2.2]) :=
  fspec_wtL fun R w v vs hr hx hd hT => by
    match vs, hd.1 with
    | [u], _ =>
      obtain ⟨_, ⟨m, hm⟩, _⟩ := hT
      have hsz : (ByteArray.mk s.toArray).size = s.length := size_mk s
      rw [show v = Value.string ⟨s.toArray⟩ from hx, show u = Value.string ⟨#[c]⟩ from hd.2 1 u _ rfl rfl]
      refine (Any.strings_Cut Tryd.cut ⟨s.toArray⟩ ⟨#[c]⟩ m w (by rw [hsz]; omega) hm).mono ?_
      rintro e w' ⟨rfl, n, rfl⟩
      exact ⟨_, rfl, ⟨_, rfl, DenV.cons rfl (DenV.cons rfl (DenV.cons rfl (DenV.nil _)))⟩, below_drew w n⟩
theorem trimSuffix_spec (s p : Str) (hs : s.length ≤ 1048576) : FSpec Tryd.prog 46 [AV.str s, AV.str p] (AV.str (Lib.trimSuffix s p)) :=
  fspec_lib2 fun R w u v hu hv => by
    have hsz : (ByteArray.mk s.toArray).size = s.length := size_mk s
    rw [show u = Value.string ⟨s.toArray⟩ from hu, show v = Value.string ⟨p.toArray⟩ from hv]
    refine (Any.strings_TrimSuffix Tryd.trimSuffix ⟨s.toArray⟩ ⟨p.toArray⟩ w (by rw [hsz]; omega)).mono ?_
    rintro e w' ⟨rfl, rfl⟩
    exact ⟨_, rfl, rfl, below_same w'⟩
theorem atoi_spec (s : Str) (hs : s.length ≤ 1048576) : FSpec Tryd.prog 70 [AV.wt readW (AV.str s)] (AV.tup [AV.int (atoiV s), AV.errB (atoiBad s)]) :=
  fspec_wt fun R w v hr hx hT => by
    have hsz : (ByteArray.mk s.toArray).size = s.length := size_mk s
    obtain ⟨_, _, ⟨t3, p3, h3⟩, ⟨t4, p4, h4⟩⟩ := hT
    rw [show v = Value.string ⟨s.toArray⟩ from hx]
    cases ha : Lib.atoiAll s with
    | ok n =>
      have e1 : atoiV s = n := by unfold atoiV; rw [ha]
      have e2 : atoiBad s = false := by unfold atoiBad; rw [ha]
      rw [e1, e2]
      refine (Any.strconv_Atoi_ok Tryd.atoi ⟨s.toArray⟩ (by rw [hsz]; omega) n ha w).mono ?_
      rintro e w' ⟨rfl, hw⟩
      exact ⟨_, rfl, ⟨_, rfl, DenV.cons rfl (DenV.cons ⟨fun _ => rfl, fun h => (by cases h)⟩ (DenV.nil _))⟩, by (rcases hw with rfl | ⟨t, rfl⟩); exact below_same _; exact below_bytes _ _ _⟩
    | «syntax» =>
      have e1 : atoiV s = 0 := by unfold atoiV; rw [ha]
      have e2 : atoiBad s = true := by unfold atoiBad; rw [ha]
      rw [e1, e2]
      refine (Any.strconv_Atoi_syntax_var Tryd.atoi ⟨s.toArray⟩ (by rw [hsz]; omega) ha t3 p3 w h3).mono ?_
      rintro e w' ⟨N, rfl, _, _, hb⟩
      exact ⟨_, rfl, ⟨_, rfl, DenV.cons rfl (DenV.cons ⟨fun h => (by cases h), fun _ => ⟨_, _, rfl⟩⟩ (DenV.nil _))⟩, hb⟩
    | range =>
      have e1 : atoiV s = Lib.atoiSat s := by unfold atoiV; rw [ha]
      have e2 : atoiBad s = true := by unfold atoiBad; rw [ha]
      rw [e1, e2]
      refine (Any.strconv_Atoi_range_var Tryd.atoi ⟨s.toArray⟩ (by rw [hsz]; omega) ha t4 p4 w h4).mono ?_
      rintro e w' ⟨N, rfl, _, _, hb⟩
      exact ⟨_, rfl, ⟨_, rfl, DenV.cons rfl (DenV.cons ⟨fun h => (by cases h), fun _ => ⟨_, _, rfl⟩⟩ (DenV.nil _))⟩, hb⟩
end Go.Proofs.YtdgoejkijpllpaaDoor

set_option linter.unusedVariables false
set_option linter.unusedSimpArgs false
set_option maxRecDepth 100000
set_option maxHeartbeats 1000000
namespace Go.M
open Go.AV
theorem atoiV_rng (s : Str) : -9223372036854775808 ≤ atoiV s ∧ atoiV s ≤ 9223372036854775807 := by
  unfold atoiV
  split
  · rename_i h; exact Lib.atoiAll_bounds h
  · omega
  · unfold Lib.atoiSat; split <;> omega
theorem bad_cons (b : UInt8) (r : Str) : l1BadB (b :: r) = (!within ((b :: r).length : Nat) 1 6 || (((b.toNat : Int) == 48) && decide ((1 : Int) < ((b :: r).length : Nat)))) := by
  unfold l1BadB
  have : (b == 48) = ((b.toNat : Int) == 48) := by
    by_cases h : b = 48
    · subst h; rfl
    · have h2 : b.toNat ≠ 48 := fun e => h (UInt8.toNat_inj.1 e)
      have h3 : (b == 48) = false := by simpa using h
      rw [h3]; symm; simp; omega
  simp [this]
theorem dig_val {x : UInt8} (h : 48 ≤ x.toNat ∧ x.toNat ≤ 57) : IntKind.i64.wrap (IntKind.u8.wrap ((x.toNat : Int) - 48)) = ((x.toNat - 48 : Nat) : Int) := by
  have e : IntKind.u8.wrap ((x.toNat : Int) - 48) = ((x.toNat - 48 : Nat) : Int) := by
    simp [IntKind.wrap, IntKind.bits, IntKind.signed]; omega
  rw [e, in64 (by omega)]
theorem rd_next {n i : Nat} {s : Str} {x : UInt8} (hx : s[i]? = some x) (h : 48 ≤ x.toNat ∧ x.toNat ≤ 57) : rdFrom n (s.drop i) = rdFrom (10 * n + (x.toNat - 48)) (s.drop (i + 1)) := by
  have hlt := (List.getElem?_eq_some_iff.1 hx).1
  rw [List.drop_eq_getElem_cons hlt, (List.getElem?_eq_some_iff.1 hx).2]
  conv => lhs; unfold rdFrom
  rw [if_pos (by unfold isDig; simp; omega)]
theorem rd_stop {n i : Nat} {s : Str} {x : UInt8} (hx : s[i]? = some x) (h : x.toNat < 48 ∨ 57 < x.toNat) : rdFrom n (s.drop i) = -1 := by
  have hlt := (List.getElem?_eq_some_iff.1 hx).1
  rw [List.drop_eq_getElem_cons hlt, (List.getElem?_eq_some_iff.1 hx).2]
  conv => lhs; unfold rdFrom
  rw [if_neg (by unfold isDig; simp; omega)]
theorem pow6 {i : Nat} (h : i ≤ 6) : 10 ^ i ≤ 1000000 := Nat.pow_le_pow_right (by decide) h
theorem pow_nx {n i d : Nat} (h : n + 1 ≤ 10 ^ i) (hd : d ≤ 9) : (10 * n + d) + 1 ≤ 10 ^ (i + 1) := by rw [Nat.pow_succ]; omega
end Go.M
namespace Go.Proofs.YtdgoejkijpllpaaDoor
open Go Go.AV Go.M
attribute [local irreducible] OpW OpA OpS AWP FSpec ESpec GSpec OpE RetOk RetOkG RvDen Le Ev GuardIs SrcIs Int.tmod Int.tdiv IntKind.wrap
theorem readInt_spec (s : Str) (lo hi : Int) (hs : s.length ≤ 1048576) : FSpec Tryd.prog 44 [AV.wt readW (AV.str s), AV.int lo, AV.int hi] (AV.tup [AV.int (readI s lo hi).1, AV.bool (readI s lo hi).2]) := by
  refine spec_of_awp Tryd.func44 rfl Tryd.ntmps44 rfl ?_
  refine AWP.le (le_tab (t := 0) rfl) ?_
  refine awp_seq ?_
  refine awp_region ?_
  refine sq_plain rfl rfl rfl (w_assign rfl ev_ci) ?_
  refine sq_plain rfl rfl rfl (w_assign rfl ev_cb) ?_
  refine sq_nil ?_
  refine awp_seq ?_
  refine awp_region ?_
  refine sq_plain rfl rfl rfl (w_move rfl (ev_tmp rfl)) ?_
  refine sq_plain rfl rfl rfl (w_callT 0 rfl rfl Tryd.call70 rfl (atoi_spec s hs) (evl_cons (ev_tmp rfl) evl_nil) (by first | exact fun _ h => h | exact fun _ h => h.1)) ?_
  refine sq_plain rfl rfl rfl (w_move rfl (ev_tmp rfl)) ?_
  refine sq_plain rfl rfl rfl (w_extract rfl (ev_tmp rfl) rfl) ?_
  refine sq_plain rfl rfl rfl (w_extract rfl (ev_tmp rfl) rfl) ?_
  refine sq_plain rfl rfl rfl (w_assign rfl (ev_tmp rfl)) ?_
  refine sq_plain rfl rfl rfl (w_assign rfl (ev_tmp rfl)) ?_
  refine sq_nil ?_
  refine awp_seq ?_
  refine awp_seq ?_
  refine awp_region ?_
  refine sq_plain rfl rfl rfl (w_move rfl (ev_tmp rfl)) ?_
  refine sq_plain rfl rfl rfl (w_errneq rfl (by kernel_rfl) (ev_tmp rfl)) ?_
  refine sq_plain rfl rfl rfl (w_move rfl (ev_tmp rfl)) ?_
  refine sq_grd rfl rfl (guard_f rfl rfl rfl) (fun hc => w_move rfl (ev_tmp rfl)) ?_
  refine sq_grd rfl rfl (guard_f rfl rfl rfl) (fun hc => w_move rfl (ev_tmp rfl)) ?_
  refine sq_grd rfl rfl (guard_f rfl rfl rfl) (fun hc => w_move rfl (ev_tmp rfl)) ?_
  refine sq_grd rfl rfl (guard_f rfl rfl rfl) (fun hc => w_call rfl Tryd.call65 rfl (within_spec _ _ _) (evl_cons (ev_whn rfl hc) (evl_cons (ev_whn rfl hc) (evl_cons (ev_whn rfl hc) evl_nil)))) ?_
  refine sq_grd rfl rfl (guard_f rfl rfl rfl) (fun hc => w_not rfl (ev_whn rfl hc)) ?_
  refine sq_plain rfl rfl rfl (w_or rfl (ev_tmp rfl) (evif_w rfl)) ?_
  refine sq_plain rfl rfl rfl (w_move rfl (ev_tmp rfl)) ?_
  refine sq_grd rfl rfl (guard_f rfl rfl rfl) (fun hc => w_move rfl (ev_tmp rfl)) ?_
  refine sq_grd rfl rfl (guard_f rfl rfl rfl) (fun hc => w_callT 0 rfl rfl Tryd.call62 rfl (itoa_spec (atoiV s) (atoiV_rng s)) (evl_cons (ev_whn rfl hc) evl_nil) (by first | exact fun _ h => h | exact fun _ h => h.1)) ?_
  refine sq_grd rfl rfl (guard_f rfl rfl rfl) (fun hc => w_move rfl (ev_tmp rfl)) ?_
  refine sq_grd rfl rfl (guard_f rfl rfl rfl) (fun hc => w_sneq rfl (ev_whn rfl hc) (ev_whn rfl hc)) ?_
  refine sq_plain rfl rfl rfl (w_or rfl (ev_tmp rfl) (evif_w rfl)) ?_
  refine sq_nil ?_
  refine awp_cond (ev_tmp rfl) ?_ ?_
  · intro h29
    have he : readI s lo hi = (0, false) := if_pos h29
    rw [he]
    refine awp_seq ?_
    refine awp_region ?_
    refine sq_plain rfl rfl rfl (w_assign rfl ev_ci) ?_
    refine sq_plain rfl rfl rfl (w_assign rfl ev_cb) ?_
    refine sq_nil ?_
    refine awp_ret ?_
    exact retN rfl (by decide) (rv_cons (rv_tmp' rfl (by rfl)) (rv_cons (rv_tmp' rfl (by rfl)) rv_nil))
  · intro h29
    have he : readI s lo hi = (atoiV s, true) := if_neg (by rw [h29]; decide)
    rw [he]
    refine awp_skip ?_
    refine awp_seq ?_
    refine awp_region ?_
    refine sq_plain rfl rfl rfl (w_move rfl (ev_tmp rfl)) ?_
    refine sq_plain rfl rfl rfl (w_assign rfl (ev_tmp rfl)) ?_
    refine sq_plain rfl rfl rfl (w_assign rfl ev_cb) ?_
    refine sq_nil ?_
    refine awp_ret ?_
    exact retN rfl (by decide) (rv_cons (rv_tmp' rfl (by rfl)) (rv_cons (rv_tmp' rfl (by rfl)) rv_nil))
theorem l1Read_nil : FSpec Tryd.prog 42 [AV.str []] (AV.int (l1R [])) := by
  refine spec_of_awp Tryd.func42 rfl Tryd.ntmps42 rfl ?_
  refine awp_seq ?_
  refine awp_region ?_
  refine sq_plain rfl rfl rfl (w_assign rfl ev_ci) ?_
  refine sq_nil ?_
  refine awp_seq ?_
  refine awp_seq ?_
  refine awp_region ?_
  refine sq_plain rfl rfl rfl (w_move rfl (ev_tmp rfl)) ?_
  refine sq_plain rfl rfl rfl (w_slen rfl Tryd.underlying9 (ev_tmp rfl)) ?_
  refine sq_plain rfl rfl rfl (w_call rfl Tryd.call55 rfl (l1In_spec _ _ _) (evl_cons (ev_tmp rfl) (evl_cons ev_ci (evl_cons ev_ci evl_nil)))) ?_
  refine sq_plain rfl rfl rfl (w_not rfl (ev_tmp rfl)) ?_
  refine sq_plain rfl rfl rfl (w_move rfl (ev_tmp rfl)) ?_
  refine sq_grd rfl rfl (guard_f rfl rfl rfl) (fun hc => w_move rfl (ev_tmp rfl)) ?_
  refine sq_grd rfl rfl (guard_f rfl rfl rfl) (fun hc => (show OpW _ _ _ _ _ _ (AV.byte 0) from (by exfalso; revert hc; decide))) ?_
  refine sq_grd rfl rfl (guard_f rfl rfl rfl) (fun hc => w_eql rfl (ev_whn rfl hc) ev_ci) ?_
  refine sq_grd rfl rfl (guard_f rfl rfl rfl) (fun hc => w_move rfl (ev_whn rfl hc)) ?_
  refine sq_grd rfl rfl (guard_wt rfl rfl rfl) (fun hc => w_move rfl (ev_tmp rfl)) ?_
  refine sq_grd rfl rfl (guard_wt rfl rfl rfl) (fun hc => w_slen rfl Tryd.underlying9 (ev_whn rfl hc)) ?_
  refine sq_grd rfl rfl (guard_wt rfl rfl rfl) (fun hc => w_gtr rfl (ev_whn rfl hc) ev_ci) ?_
  refine sq_grd rfl rfl (guard_f rfl rfl rfl) (fun hc => w_and rfl (ev_whn rfl hc) (evif_w2 rfl hc)) ?_
  refine sq_plain rfl rfl rfl (w_or rfl (ev_tmp rfl) (evif_w rfl)) ?_
  refine sq_nil ?_
  refine awp_cond (ev_tmp rfl) ?_ ?_
  · intro h18
    refine awp_seq ?_
    refine awp_region ?_
    refine sq_plain rfl rfl rfl (w_assign rfl ev_ci) ?_
    refine sq_nil ?_
    refine awp_ret ?_
    exact retR rfl (rv_tmp' rfl (by rfl))
  · intro h18
    exfalso; revert h18; decide
theorem l1Read_cons (b : UInt8) (r : Str) (hs : (b :: r).length ≤ 1048576) : FSpec Tryd.prog 42 [AV.str (b :: r)] (AV.int (l1R (b :: r))) := by
  have hb0 : (b :: r)[0]? = some b := rfl
  obtain ⟨s, hse⟩ : ∃ s, b :: r = s := ⟨_, rfl⟩
  have hbad := bad_cons b r
  rw [hse] at hs hb0 hbad ⊢
  refine spec_of_awp Tryd.func42 rfl Tryd.ntmps42 rfl ?_
  refine awp_seq ?_
  refine awp_region ?_
  refine sq_plain rfl rfl rfl (w_assign rfl ev_ci) ?_
  refine sq_nil ?_
  refine awp_seq ?_
  refine awp_seq ?_
  refine awp_region ?_
  refine sq_plain rfl rfl rfl (w_move rfl (ev_tmp rfl)) ?_
  refine sq_plain rfl rfl rfl (w_slen rfl Tryd.underlying9 (ev_tmp rfl)) ?_
  refine sq_plain rfl rfl rfl (w_call rfl Tryd.call55 rfl (l1In_spec _ _ _) (evl_cons (ev_tmp rfl) (evl_cons ev_ci (evl_cons ev_ci evl_nil)))) ?_
  refine sq_plain rfl rfl rfl (w_not rfl (ev_tmp rfl)) ?_
  refine sq_plain rfl rfl rfl (w_move rfl (ev_tmp rfl)) ?_
  refine sq_grd rfl rfl (guard_f rfl rfl rfl) (fun hc => w_move rfl (ev_tmp rfl)) ?_
  refine sq_grd rfl rfl (guard_f rfl rfl rfl) (fun hc => w_sidx rfl Tryd.underlying9 (ev_whn rfl hc) ev_ci (by have := (List.getElem?_eq_some_iff.1 hb0).1; omega) hb0) ?_
  refine sq_grd rfl rfl (guard_f rfl rfl rfl) (fun hc => w_eql rfl (ev_whn rfl hc) ev_ci) ?_
  refine sq_grd rfl rfl (guard_f rfl rfl rfl) (fun hc => w_move rfl (ev_whn rfl hc)) ?_
  refine sq_grd rfl rfl (guard_wt rfl rfl rfl) (fun hc => w_move rfl (ev_tmp rfl)) ?_
  refine sq_grd rfl rfl (guard_wt rfl rfl rfl) (fun hc => w_slen rfl Tryd.underlying9 (ev_whn rfl hc)) ?_
  refine sq_grd rfl rfl (guard_wt rfl rfl rfl) (fun hc => w_gtr rfl (ev_whn rfl hc) ev_ci) ?_
  refine sq_grd rfl rfl (guard_f rfl rfl rfl) (fun hc => w_and rfl (ev_whn rfl hc) (evif_w2 rfl hc)) ?_
  refine sq_plain rfl rfl rfl (w_or rfl (ev_tmp rfl) (evif_w rfl)) ?_
  refine sq_nil ?_
  refine awp_cond (ev_tmp rfl) ?_ ?_
  · intro h18
    have he : l1R s = -1 := if_pos (by rw [hbad]; exact h18)
    rw [he]
    refine awp_seq ?_
    refine awp_region ?_
    refine sq_plain rfl rfl rfl (w_assign rfl ev_ci) ?_
    refine sq_nil ?_
    refine awp_ret ?_
    exact retR rfl (rv_tmp' rfl (by rfl))
  · intro h18
    have he : l1R s = rdFrom 0 s := if_neg (by rw [hbad, h18]; decide)
    rw [he]
    have hl6 : s.length ≤ 6 := (by simp only [Bool.or_eq_false_iff, Bool.not_eq_false'] at h18; have h9 := h18.1; unfold within at h9; simp at h9; omega)
    refine awp_skip ?_
    refine awp_seq ?_
    refine awp_region ?_
    refine sq_plain rfl rfl rfl (w_assign rfl ev_ci) ?_
    refine sq_nil ?_
    refine awp_seq ?_
    refine awp_seq ?_
    refine awp_region ?_
    refine sq_plain rfl rfl rfl (w_assign rfl ev_ci) ?_
    refine sq_nil ?_
    refine awp_block ?_
    refine awp_loop_i2 [(0, _)] _ (fun (i : Nat) (n : Nat) => i ≤ s.length ∧ rdFrom 0 s = rdFrom n (s.drop i) ∧ n + 1 ≤ 10 ^ i) (fun (i : Nat) (n : Nat) => []) (fun (i : Nat) (n : Nat) => [(3, AV.int n), (4, AV.int i)]) (fun (i : Nat) (n : Nat) => s.length - i) (0) (0) ?_ (le_env ⟨rfl, rfl, rfl, trivial⟩) ?_
    · exact ⟨Nat.zero_le _, rfl, by decide⟩
    intro i n hinv
    have hp6 := pow6 (i := i) (by omega)
    have hn6 := hinv.2.2
    refine awp_seq ?_
    refine awp_seq ?_
    refine awp_region ?_
    refine sq_plain rfl rfl rfl (w_move rfl (ev_tmp rfl)) ?_
    refine sq_plain rfl rfl rfl (w_move rfl (ev_tmp rfl)) ?_
    refine sq_plain rfl rfl rfl (w_slen rfl Tryd.underlying9 (ev_tmp rfl)) ?_
    refine sq_plain rfl rfl rfl (w_lss rfl (ev_tmp rfl) (ev_tmp rfl)) ?_
    refine sq_nil ?_
    refine awp_cond (ev_tmp rfl) ?_ ?_
    · intro h22
      have k22 := of_decide_eq_true h22; try simp only [List.length_map] at k22
      obtain ⟨x, hx⟩ := get_some (show i < s.length by omega)
      refine awp_skip ?_
      refine awp_seq ?_
      refine awp_block ?_
      refine awp_seq ?_
      refine awp_seq ?_
      refine awp_region ?_
      refine sq_plain rfl rfl rfl (w_move rfl (ev_tmp rfl)) ?_
      refine sq_plain rfl rfl rfl (w_move rfl (ev_tmp rfl)) ?_
      refine sq_plain rfl rfl rfl (w_sidx rfl Tryd.underlying9 (ev_tmp rfl) (ev_tmp rfl) (by omega) hx) ?_
      refine sq_plain rfl rfl rfl (w_lss rfl (ev_tmp rfl) ev_ci) ?_
      refine sq_plain rfl rfl rfl (w_move rfl (ev_tmp rfl)) ?_
      refine sq_grd rfl rfl (guard_f rfl rfl rfl) (fun hc => w_move rfl (ev_tmp rfl)) ?_
      refine sq_grd rfl rfl (guard_f rfl rfl rfl) (fun hc => w_move rfl (ev_tmp rfl)) ?_
      refine sq_grd rfl rfl (guard_f rfl rfl rfl) (fun hc => w_sidx rfl Tryd.underlying9 (ev_whn rfl hc) (ev_whn rfl hc) (by omega) hx) ?_
      refine sq_grd rfl rfl (guard_f rfl rfl rfl) (fun hc => w_gtr rfl (ev_whn rfl hc) ev_ci) ?_
      refine sq_plain rfl rfl rfl (w_or rfl (ev_tmp rfl) (evif_w rfl)) ?_
      refine sq_nil ?_
      refine awp_cond (ev_tmp rfl) ?_ ?_
      · intro h34
        have hst := rd_stop (n := n) hx (by simp only [Bool.or_eq_true, decide_eq_true_eq] at h34; omega)
        rw [hinv.2.1, hst]
        refine awp_seq ?_
        refine awp_region ?_
        refine sq_plain rfl rfl rfl (w_assign rfl ev_ci) ?_
        refine sq_nil ?_
        refine awp_ret ?_
        exact retR rfl (rv_tmp' rfl (by rfl))
      · intro h34
        have hdig : 48 ≤ x.toNat ∧ x.toNat ≤ 57 := (by simp only [Bool.or_eq_false_iff, decide_eq_false_iff_not] at h34; omega)
        refine awp_skip ?_
        refine awp_region ?_
        refine sq_plain rfl rfl rfl (w_move rfl (ev_tmp rfl)) ?_
        refine sq_plain rfl rfl rfl (w_muli rfl ev_ci (ev_tmp rfl) (by first | omega | ((try simp only [List.length_map, List.length_take, List.length_cons, List.length_nil, chunks_len, szR] at *); omega) | (have hc2 := hc; simp only [Bool.and_eq_true, Bool.or_eq_true, Bool.or_eq_false_iff, Bool.and_eq_false_iff, Bool.not_eq_true', Bool.not_eq_false', decide_eq_true_eq, decide_eq_false_iff_not, beq_iff_eq, bne_iff_ne, List.length_map, List.length_take] at hc2; omega))) ?_
        refine sq_plain rfl rfl rfl (w_move rfl (ev_tmp rfl)) ?_
        refine sq_plain rfl rfl rfl (w_move rfl (ev_tmp rfl)) ?_
        refine sq_plain rfl rfl rfl (w_sidx rfl Tryd.underlying9 (ev_tmp rfl) (ev_tmp rfl) (by omega) hx) ?_
        refine sq_plain rfl rfl rfl (w_sub rfl (ev_tmp rfl) ev_ci) ?_
        refine sq_plain rfl rfl rfl (w_conv rfl (by kernel_rfl) Tryd.underlying3 (ev_tmp rfl)) ?_
        rw [dig_val hdig]
        refine sq_plain rfl rfl rfl (w_addi rfl (ev_tmp rfl) (ev_tmp rfl) (by first | omega | ((try simp only [List.length_map, List.length_take, List.length_cons, List.length_nil, chunks_len, szR] at *); omega) | (have hc2 := hc; simp only [Bool.and_eq_true, Bool.or_eq_true, Bool.or_eq_false_iff, Bool.and_eq_false_iff, Bool.not_eq_true', Bool.not_eq_false', decide_eq_true_eq, decide_eq_false_iff_not, beq_iff_eq, bne_iff_ne, List.length_map, List.length_take] at hc2; omega))) ?_
        refine sq_plain rfl rfl rfl (w_assign rfl (ev_tmp rfl)) ?_
        refine sq_nil ?_
        refine awp_region ?_
        refine sq_plain rfl rfl rfl (w_move rfl (ev_tmp rfl)) ?_
        refine sq_plain rfl rfl rfl (w_addi rfl (ev_tmp rfl) ev_ci (by first | omega | ((try simp only [List.length_map, List.length_take, List.length_cons, List.length_nil, chunks_len, szR] at *); omega) | (have hc2 := hc; simp only [Bool.and_eq_true, Bool.or_eq_true, Bool.or_eq_false_iff, Bool.and_eq_false_iff, Bool.not_eq_true', Bool.not_eq_false', decide_eq_true_eq, decide_eq_false_iff_not, beq_iff_eq, bne_iff_ne, List.length_map, List.length_take] at hc2; omega))) ?_
        refine sq_plain rfl rfl rfl (w_assign rfl (ev_tmp rfl)) ?_
        refine sq_nil ?_
        refine round_end2 i n (i + 1) (10 * n + (x.toNat - 48)) ?_ ?_ (le_env ⟨congrArg (fun z => some (AV.int z)) (by omega), rfl, rfl, trivial⟩)
        · exact ⟨by omega, hinv.2.1.trans (rd_next hx hdig), pow_nx hinv.2.2 (by omega)⟩
        · omega
    · intro h22
      have k22 := of_decide_eq_false h22; try simp only [List.length_map] at k22
      have hend : rdFrom 0 s = (n : Int) := (by rw [hinv.2.1, List.drop_of_length_le (by omega)]; rfl)
      rw [hend]
      refine awp_exit ?_
      refine awp_seq ?_
      refine awp_region ?_
      refine sq_plain rfl rfl rfl (w_move rfl (ev_tmp rfl)) ?_
      refine sq_plain rfl rfl rfl (w_assign rfl (ev_tmp rfl)) ?_
      refine sq_nil ?_
      refine awp_ret ?_
      exact retR rfl (rv_tmp' rfl (by rfl))
theorem l1Read_spec (s : Str) (hs : s.length ≤ 1048576) : FSpec Tryd.prog 42 [AV.str s] (AV.int (l1R s)) := by
  cases s with
  | nil => exact l1Read_nil
  | cons b r => exact l1Read_cons b r hs
theorem l1Split_spec (s : Str) (c : UInt8) (hs : s.length ≤ 1048576) : FSpec Tryd.prog 41 [AV.str s, AV.ik .u8 (c.toNat : Int)] (strs (splitC c s)) := by
  refine spec_of_awp Tryd.func41 rfl Tryd.ntmps41 rfl ?_
  refine awp_seq ?_
  refine awp_region ?_
  refine sq_plain rfl rfl rfl (w_assign rfl (ev_cnil (sz := 1))) ?_
  refine sq_nil ?_
  refine awp_seq ?_
  refine awp_region ?_
  refine sq_nilarr 9 1 rfl rfl rfl rfl ev_cnils ?_
  intro v5
  refine sq_nil ?_
  refine awp_seq ?_
  refine awp_region ?_
  refine sq_plain rfl rfl rfl (w_assign rfl ev_ci) ?_
  refine sq_nil ?_
  refine awp_seq ?_
  refine awp_seq ?_
  refine awp_region ?_
  refine sq_plain rfl rfl rfl (w_assign rfl ev_ci) ?_
  refine sq_nil ?_
  refine awp_block ?_
  refine awp_loop_i4 [(0, _), (1, _), (4, _)] _ (fun (i : Nat) (fr : Nat) (acc : List Str) (v : Value) => SpOk c s acc fr i) (fun (i : Nat) (fr : Nat) (acc : List Str) (v : Value) => [.arr v 9 1 (acc.map fun t => [AV.str t])]) (fun (i : Nat) (fr : Nat) (acc : List Str) (v : Value) => [(5, AV.is v), (6, AV.int fr), (7, AV.int i)]) (fun (i : Nat) (fr : Nat) (acc : List Str) (v : Value) => s.length - i) (0) (0) ([]) (v5) ?_ (le_eq (by rfl) ⟨rfl, rfl, rfl, rfl, rfl, rfl, trivial⟩) ?_
  · exact spOk_start c s
  intro i fr acc v hinv
  have hk1 := hinv.2.1
  have hk2 := hinv.2.2.1
  have hk3 := hinv.2.2.2
  refine awp_seq ?_
  refine awp_seq ?_
  refine awp_region ?_
  refine sq_plain rfl rfl rfl (w_move rfl (ev_tmp rfl)) ?_
  refine sq_plain rfl rfl rfl (w_move rfl (ev_tmp rfl)) ?_
  refine sq_plain rfl rfl rfl (w_slen rfl Tryd.underlying9 (ev_tmp rfl)) ?_
  refine sq_plain rfl rfl rfl (w_lss rfl (ev_tmp rfl) (ev_tmp rfl)) ?_
  refine sq_nil ?_
  refine awp_cond (ev_tmp rfl) ?_ ?_
  · intro h11
    have k11 := of_decide_eq_true h11; try simp only [List.length_map] at k11
    obtain ⟨x, hx⟩ := get_some (show i < s.length by omega)
    refine awp_skip ?_
    refine awp_seq ?_
    refine awp_block ?_
    refine awp_seq ?_
    refine awp_region ?_
    refine sq_plain rfl rfl rfl (w_move rfl (ev_tmp rfl)) ?_
    refine sq_plain rfl rfl rfl (w_move rfl (ev_tmp rfl)) ?_
    refine sq_plain rfl rfl rfl (w_sidx rfl Tryd.underlying9 (ev_tmp rfl) (ev_tmp rfl) (by omega) hx) ?_
    refine sq_plain rfl rfl rfl (w_move rfl (ev_tmp rfl)) ?_
    refine sq_plain rfl rfl rfl (w_eql rfl (ev_tmp rfl) (ev_tmp rfl)) ?_
    refine sq_nil ?_
    refine awp_cond (ev_tmp rfl) ?_ ?_
    · intro h18
      have k18 := eq_of_beqt h18; try simp only [List.length_map] at k18
      have hxc : s[i]? = some c := (by rw [hx]; congr 1; exact UInt8.toNat_inj.1 (by omega))
      refine awp_seq ?_
      refine awp_region ?_
      refine sq_plain rfl rfl rfl (w_move rfl (ev_tmp rfl)) ?_
      refine sq_plain rfl rfl rfl (w_move rfl (ev_tmp rfl)) ?_
      refine sq_plain rfl rfl rfl (w_move rfl (ev_tmp rfl)) ?_
      refine sq_plain rfl rfl rfl (w_move rfl (ev_tmp rfl)) ?_
      refine sq_plain rfl rfl rfl (w_ssl_lohi rfl Tryd.underlying9 (ev_tmp rfl) (ev_tmp rfl) (ev_tmp rfl) (by first | omega | ((try simp only [List.length_map, List.length_take, List.length_cons, List.length_nil, chunks_len, szR] at *); omega) | (have hc2 := hc; simp only [Bool.and_eq_true, Bool.or_eq_true, Bool.or_eq_false_iff, Bool.and_eq_false_iff, Bool.not_eq_true', Bool.not_eq_false', decide_eq_true_eq, decide_eq_false_iff_not, beq_iff_eq, bne_iff_ne, List.length_map, List.length_take] at hc2; omega)) (by first | omega | ((try simp only [List.length_map, List.length_take, List.length_cons, List.length_nil, chunks_len, szR] at *); omega) | (have hc2 := hc; simp only [Bool.and_eq_true, Bool.or_eq_true, Bool.or_eq_false_iff, Bool.and_eq_false_iff, Bool.not_eq_true', Bool.not_eq_false', decide_eq_true_eq, decide_eq_false_iff_not, beq_iff_eq, bne_iff_ne, List.length_map, List.length_take] at hc2; omega)) (by first | omega | ((try simp only [List.length_map, List.length_take, List.length_cons, List.length_nil, chunks_len, szR] at *); omega) | (have hc2 := hc; simp only [Bool.and_eq_true, Bool.or_eq_true, Bool.or_eq_false_iff, Bool.and_eq_false_iff, Bool.not_eq_true', Bool.not_eq_false', decide_eq_true_eq, decide_eq_false_iff_not, beq_iff_eq, bne_iff_ne, List.length_map, List.length_take] at hc2; omega))) ?_
      refine sq_plain rfl rfl rfl (w_bslice rfl Tryd.underlying30 Tryd.sizeOf9 Tryd.zeroValue9 rfl rfl rfl rfl (bp_cons (ev_tmp rfl) (as_str _) bp_nil) rfl rfl) ?_
      refine sq_append (by' := 16) 0 rfl rfl rfl rfl Tryd.underlying30 Tryd.type9 rfl rfl rfl rfl rfl rfl (ev_tmp rfl) (ev_tmp rfl) rfl (by first | omega | ((try simp only [List.length_map, List.length_take, List.length_cons, List.length_nil, chunks_len, szR] at *); omega) | (have hc2 := hc; simp only [Bool.and_eq_true, Bool.or_eq_true, Bool.or_eq_false_iff, Bool.and_eq_false_iff, Bool.not_eq_true', Bool.not_eq_false', decide_eq_true_eq, decide_eq_false_iff_not, beq_iff_eq, bne_iff_ne, List.length_map, List.length_take] at hc2; omega)) ?_
      intro v25_1
      refine sq_plain rfl rfl rfl (w_assign rfl (ev_tmp rfl)) ?_
      refine sq_nil ?_
      refine awp_region ?_
      refine sq_plain rfl rfl rfl (w_move rfl (ev_tmp rfl)) ?_
      refine sq_plain rfl rfl rfl (w_addi rfl (ev_tmp rfl) ev_ci (by first | omega | ((try simp only [List.length_map, List.length_take, List.length_cons, List.length_nil, chunks_len, szR] at *); omega) | (have hc2 := hc; simp only [Bool.and_eq_true, Bool.or_eq_true, Bool.or_eq_false_iff, Bool.and_eq_false_iff, Bool.not_eq_true', Bool.not_eq_false', decide_eq_true_eq, decide_eq_false_iff_not, beq_iff_eq, bne_iff_ne, List.length_map, List.length_take] at hc2; omega))) ?_
      refine sq_plain rfl rfl rfl (w_assign rfl (ev_tmp rfl)) ?_
      refine sq_nil ?_
      refine awp_region ?_
      refine sq_plain rfl rfl rfl (w_move rfl (ev_tmp rfl)) ?_
      refine sq_plain rfl rfl rfl (w_addi rfl (ev_tmp rfl) ev_ci (by first | omega | ((try simp only [List.length_map, List.length_take, List.length_cons, List.length_nil, chunks_len, szR] at *); omega) | (have hc2 := hc; simp only [Bool.and_eq_true, Bool.or_eq_true, Bool.or_eq_false_iff, Bool.and_eq_false_iff, Bool.not_eq_true', Bool.not_eq_false', decide_eq_true_eq, decide_eq_false_iff_not, beq_iff_eq, bne_iff_ne, List.length_map, List.length_take] at hc2; omega))) ?_
      refine sq_plain rfl rfl rfl (w_assign rfl (ev_tmp rfl)) ?_
      refine sq_nil ?_
      refine round_end4 i fr acc v (i + 1) (i + 1) (acc ++ [(s.take i).drop fr]) (v25_1) ?_ ?_ (le_eq (by first | rfl | (rw [List.map_append]; rfl)) ⟨rfl, rfl, rfl, rfl, rfl, rfl, trivial⟩)
      · exact spOk_hit hinv hxc
      · omega
    · intro h18
      have k18 := ne_of_beqf h18; try simp only [List.length_map] at k18
      have hxc : x ≠ c := (by intro e; subst e; simp at h18)
      refine awp_skip ?_
      refine awp_region ?_
      refine sq_plain rfl rfl rfl (w_move rfl (ev_tmp rfl)) ?_
      refine sq_plain rfl rfl rfl (w_addi rfl (ev_tmp rfl) ev_ci (by first | omega | ((try simp only [List.length_map, List.length_take, List.length_cons, List.length_nil, chunks_len, szR] at *); omega) | (have hc2 := hc; simp only [Bool.and_eq_true, Bool.or_eq_true, Bool.or_eq_false_iff, Bool.and_eq_false_iff, Bool.not_eq_true', Bool.not_eq_false', decide_eq_true_eq, decide_eq_false_iff_not, beq_iff_eq, bne_iff_ne, List.length_map, List.length_take] at hc2; omega))) ?_
      refine sq_plain rfl rfl rfl (w_assign rfl (ev_tmp rfl)) ?_
      refine sq_nil ?_
      refine round_end4 i fr acc v (i + 1) (fr) (acc) (v) ?_ ?_ (le_eq (by first | rfl | (rw [List.map_append]; rfl)) ⟨rfl, rfl, rfl, rfl, rfl, rfl, trivial⟩)
      · exact spOk_miss hinv hx hxc
      · omega
  · intro h11
    have k11 := of_decide_eq_false h11; try simp only [List.length_map] at k11
    have hend := spOk_end hinv (by omega)
    rw [hend]
    refine awp_exit ?_
    refine awp_seq ?_
    refine awp_region ?_
    refine sq_plain rfl rfl rfl (w_move rfl (ev_tmp rfl)) ?_
    refine sq_plain rfl rfl rfl (w_move rfl (ev_tmp rfl)) ?_
    refine sq_plain rfl rfl rfl (w_move rfl (ev_tmp rfl)) ?_
    refine sq_plain rfl rfl rfl (w_ssl_lo rfl Tryd.underlying9 (ev_tmp rfl) (ev_tmp rfl) (by first | omega | ((try simp only [List.length_map, List.length_take, List.length_cons, List.length_nil, chunks_len, szR] at *); omega) | (have hc2 := hc; simp only [Bool.and_eq_true, Bool.or_eq_true, Bool.or_eq_false_iff, Bool.and_eq_false_iff, Bool.not_eq_true', Bool.not_eq_false', decide_eq_true_eq, decide_eq_false_iff_not, beq_iff_eq, bne_iff_ne, List.length_map, List.length_take] at hc2; omega)) (by first | omega | ((try simp only [List.length_map, List.length_take, List.length_cons, List.length_nil, chunks_len, szR] at *); omega) | (have hc2 := hc; simp only [Bool.and_eq_true, Bool.or_eq_true, Bool.or_eq_false_iff, Bool.and_eq_false_iff, Bool.not_eq_true', Bool.not_eq_false', decide_eq_true_eq, decide_eq_false_iff_not, beq_iff_eq, bne_iff_ne, List.length_map, List.length_take] at hc2; omega))) ?_
    refine sq_plain rfl rfl rfl (w_bslice rfl Tryd.underlying30 Tryd.sizeOf9 Tryd.zeroValue9 rfl rfl rfl rfl (bp_cons (ev_tmp rfl) (as_str _) bp_nil) rfl rfl) ?_
    refine sq_append (by' := 16) 0 rfl rfl rfl rfl Tryd.underlying30 Tryd.type9 rfl rfl rfl rfl rfl rfl (ev_tmp rfl) (ev_tmp rfl) rfl (by first | omega | ((try simp only [List.length_map, List.length_take, List.length_cons, List.length_nil, chunks_len, szR] at *); omega) | (have hc2 := hc; simp only [Bool.and_eq_true, Bool.or_eq_true, Bool.or_eq_false_iff, Bool.and_eq_false_iff, Bool.not_eq_true', Bool.not_eq_false', decide_eq_true_eq, decide_eq_false_iff_not, beq_iff_eq, bne_iff_ne, List.length_map, List.length_take] at hc2; omega)) ?_
    intro v33_2
    refine sq_plain rfl rfl rfl (w_assign rfl (ev_tmp rfl)) ?_
    refine sq_nil ?_
    refine awp_ret ?_
    refine ret_seal 0 4 rfl rfl ?_
    exact retR rfl (rv_tmp' rfl (by first | rfl | (unfold strs; rw [List.map_append]; rfl)))
end Go.Proofs.YtdgoejkijpllpaaDoor

set_option linter.unusedVariables false
set_option linter.unusedSimpArgs false
set_option maxRecDepth 100000
set_option maxHeartbeats 1000000
namespace Go.M
open Go.AV
theorem three_of {l : List Str} (h : l.length = 3) : ∃ a b k, l = [a, b, k] := by
  match l, h with
  | [a, b, k], _ => exact ⟨a, b, k, rfl⟩
theorem two_of {l : List Str} (h : l.length = 2) : ∃ a b, l = [a, b] := by
  match l, h with
  | [a, b], _ => exact ⟨a, b, rfl⟩
theorem get2 {l : List Str} (h : l.length = 3) : l[2]? = some ((l[2]?).getD []) := by
  obtain ⟨a, b, k, rfl⟩ := three_of h; rfl
theorem parseF_not {s : Str} (h : (splitC 32 s).length ≠ 3) : parseF s = (emptyF, false) := by
  unfold parseF
  split
  · rename_i e; rw [e] at h; exact absurd rfl h
  · rfl
theorem parseF_three {s a b k : Str} (h : splitC 32 s = [a, b, k]) : parseF s = parse3 s a b k := by unfold parseF; rw [h]
theorem parseFS_not {s : Str} (h : (splitC 32 s).length ≠ 3) : parseFS s = (emptyF, false) := by
  unfold parseFS
  split
  · rename_i e; rw [e] at h; exact absurd rfl h
  · rfl
theorem parseFS_three {s a b k : Str} (h : splitC 32 s = [a, b, k]) : parseFS s = if k.length < 2 then (emptyF, false) else parse3S s a b k := by unfold parseFS; rw [h]
theorem itemS_two {a b k x y : Str} (h : splitC 61 k = [x, y]) : itemS a b k = ⟨l1R a, l1R b, x, y, false⟩ := by unfold itemS; rw [h]
theorem itemS_not {a b k : Str} (h : (splitC 61 k).length ≠ 2) : itemS a b k = ⟨l1R a, l1R b, k.take (k.length - 1), [], true⟩ := by
  unfold itemS
  split
  · rename_i e; rw [e] at h; exact absurd rfl h
  · rfl
theorem splitC_sum {c : UInt8} : ∀ s : Str, ((splitC c s).map List.length).sum ≤ s.length
  | [] => by simp [splitC]
  | b :: s => by
    have ih := splitC_sum (c := c) s
    rw [splitC_cons]
    split
    · simp; omega
    · cases hs : splitC c s with
      | nil => exact absurd hs (splitC_ne c s)
      | cons w ws =>
        rw [hs] at ih
        simp [addP] at ih ⊢
        omega
theorem split2_len {c : UInt8} {k x y : Str} (h : splitC c k = [x, y]) : x.length + y.length ≤ k.length := by
  have h1 := splitC_sum (c := c) k
  rw [h] at h1
  simp at h1
  omega
end Go.M
namespace Go.Proofs.YtdgoejkijpllpaaDoor
open Go Go.AV Go.M
attribute [local irreducible] OpW OpA OpS AWP FSpec ESpec GSpec OpE RetOk RetOkG RvDen Le Ev GuardIs SrcIs Int.tmod Int.tdiv IntKind.wrap
theorem readFeedLine_spec (s : Str) (hs : s.length ≤ 1048576) : FSpec Tryd.prog 18 [AV.wt readW (AV.str s)] (AV.tup [AV.agg (parseF s).1.cs, AV.bool (parseF s).2]) := by
  refine spec_of_awp Tryd.func18 rfl Tryd.ntmps18 rfl ?_
  refine AWP.le (le_tab (t := 0) rfl) ?_
  refine awp_seq ?_
  refine awp_region ?_
  refine sq_alloc rfl rfl rfl rfl Tryd.zeroValue27 rfl ?_
  intro b2
  refine sq_plain rfl rfl rfl (w_assign rfl ev_cb) ?_
  refine sq_nil ?_
  refine awp_seq ?_
  refine awp_region ?_
  refine sq_plain rfl rfl rfl (w_move rfl (ev_tmp rfl)) ?_
  refine sq_plain rfl rfl rfl (w_callT 1 rfl rfl Tryd.call43 rfl (split_spec s 32 hs) (evl_cons (ev_tmp rfl) (evl_cons (ev_cs' (l := [32]) rfl) evl_nil)) (by first | exact fun _ h => h | exact fun _ h => h.1)) ?_
  refine sq_plain rfl rfl rfl (w_assign rfl (ev_tmp rfl)) ?_
  refine sq_nil ?_
  refine awp_seq ?_
  refine awp_seq ?_
  refine awp_region ?_
  refine sq_plain rfl rfl rfl (w_move rfl (ev_tmp rfl)) ?_
  refine sq_plain rfl rfl rfl (w_llen rfl Tryd.underlying30 (ev_tmp rfl)) ?_
  refine sq_plain rfl rfl rfl (w_neq rfl (ev_tmp rfl) ev_ci) ?_
  refine sq_nil ?_
  refine awp_cond (ev_tmp rfl) ?_ ?_
  · intro h17
    have k17 := ne_of_bne h17; try simp only [List.length_map] at k17
    have he := parseF_not (s := s) (by omega)
    rw [he]
    refine awp_seq ?_
    refine awp_region ?_
    refine sq_plain rfl rfl rfl (w_build (places := #[(0, 1), (1, 1), (2, 1), (3, 1), (4, 1)]) rfl Tryd.underlying27 Tryd.zeroValue27 (fun w => by kernel_rfl) rfl bp_nil rfl) ?_
    refine sq_storeB0 0 rfl rfl rfl (ev_tmp rfl) (ev_tmp rfl) (as_agg _) rfl Tryd.sizeOf27 rfl ?_
    refine sq_plain rfl rfl rfl (w_assign rfl ev_cb) ?_
    refine sq_nil ?_
    refine awp_ret ?_
    exact retN rfl (by decide) (rv_cons (rv_cell (ys := _) 0 rfl rfl Tryd.isAgg27 Tryd.sizeOf27 rfl) (rv_cons (rv_tmp' rfl (by rfl)) rv_nil))
  · intro h17
    have k17 := eq_of_bne_false h17; try simp only [List.length_map] at k17
    obtain ⟨a, b, k, hw⟩ := three_of (l := splitC 32 s) (by omega)
    have he := parseF_three hw
    rw [he, hw]
    have hla : a.length ≤ s.length := splitC_len (c := 32) (by rw [hw]; exact List.mem_cons_self)
    have hlb : b.length ≤ s.length := splitC_len (c := 32) (by rw [hw]; exact List.mem_cons_of_mem _ List.mem_cons_self)
    have hlk : k.length ≤ s.length := splitC_len (c := 32) (by rw [hw]; exact List.mem_cons_of_mem _ (List.mem_cons_of_mem _ List.mem_cons_self))
    have hsz := itemOf_size (a := a) (b := b) (k := k)
    have hcl := cutL_len k 61
    refine awp_skip ?_
    refine awp_seq ?_
    refine awp_region ?_
    refine sq_plain rfl rfl rfl (w_move rfl (ev_tmp rfl)) ?_
    refine sq_plain rfl rfl rfl (w_idxm rfl Tryd.underlying30 Tryd.sizeOf9 (ev_tmp rfl) ev_ci (show [a, b, k][0]? = some a from rfl) (by first | omega | ((try simp only [List.length_map, List.length_take, List.length_cons, List.length_nil, chunks_len, szR] at *); omega) | (have hc2 := hc; simp only [Bool.and_eq_true, Bool.or_eq_true, Bool.or_eq_false_iff, Bool.and_eq_false_iff, Bool.not_eq_true', Bool.not_eq_false', decide_eq_true_eq, decide_eq_false_iff_not, beq_iff_eq, bne_iff_ne, List.length_map, List.length_take] at hc2; omega))) ?_
    refine sq_plain rfl rfl rfl (w_loadE1 rfl (ev_tmp rfl) Tryd.isAgg9 rfl) ?_
    refine sq_plain rfl rfl rfl (w_callT 1 rfl rfl Tryd.call44 rfl (readInt_spec a 1 100000 (by omega)) (evl_cons (ev_tmp rfl) (evl_cons ev_ci (evl_cons ev_ci evl_nil))) (by first | exact fun _ h => h | exact fun _ h => h.1)) ?_
    refine sq_plain rfl rfl rfl (w_move rfl (ev_tmp rfl)) ?_
    refine sq_plain rfl rfl rfl (w_extract rfl (ev_tmp rfl) rfl) ?_
    refine sq_plain rfl rfl rfl (w_extract rfl (ev_tmp rfl) rfl) ?_
    refine sq_plain rfl rfl rfl (w_assign rfl (ev_tmp rfl)) ?_
    refine sq_plain rfl rfl rfl (w_assign rfl (ev_tmp rfl)) ?_
    refine sq_nil ?_
    refine awp_seq ?_
    refine awp_region ?_
    refine sq_plain rfl rfl rfl (w_move rfl (ev_tmp rfl)) ?_
    refine sq_plain rfl rfl rfl (w_idxm rfl Tryd.underlying30 Tryd.sizeOf9 (ev_tmp rfl) ev_ci (show [a, b, k][1]? = some b from rfl) (by first | omega | ((try simp only [List.length_map, List.length_take, List.length_cons, List.length_nil, chunks_len, szR] at *); omega) | (have hc2 := hc; simp only [Bool.and_eq_true, Bool.or_eq_true, Bool.or_eq_false_iff, Bool.and_eq_false_iff, Bool.not_eq_true', Bool.not_eq_false', decide_eq_true_eq, decide_eq_false_iff_not, beq_iff_eq, bne_iff_ne, List.length_map, List.length_take] at hc2; omega))) ?_
    refine sq_plain rfl rfl rfl (w_loadE1 rfl (ev_tmp rfl) Tryd.isAgg9 rfl) ?_
    refine sq_plain rfl rfl rfl (w_callT 1 rfl rfl Tryd.call44 rfl (readInt_spec b 0 3 (by omega)) (evl_cons (ev_tmp rfl) (evl_cons ev_ci (evl_cons ev_ci evl_nil))) (by first | exact fun _ h => h | exact fun _ h => h.1)) ?_
    refine sq_plain rfl rfl rfl (w_move rfl (ev_tmp rfl)) ?_
    refine sq_plain rfl rfl rfl (w_extract rfl (ev_tmp rfl) rfl) ?_
    refine sq_plain rfl rfl rfl (w_extract rfl (ev_tmp rfl) rfl) ?_
    refine sq_plain rfl rfl rfl (w_assign rfl (ev_tmp rfl)) ?_
    refine sq_plain rfl rfl rfl (w_assign rfl (ev_tmp rfl)) ?_
    refine sq_nil ?_
    refine awp_seq ?_
    refine awp_region ?_
    refine sq_plain rfl rfl rfl (w_move rfl (ev_tmp rfl)) ?_
    refine sq_plain rfl rfl rfl (w_idxm rfl Tryd.underlying30 Tryd.sizeOf9 (ev_tmp rfl) ev_ci (show [a, b, k][2]? = some k from rfl) (by first | omega | ((try simp only [List.length_map, List.length_take, List.length_cons, List.length_nil, chunks_len, szR] at *); omega) | (have hc2 := hc; simp only [Bool.and_eq_true, Bool.or_eq_true, Bool.or_eq_false_iff, Bool.and_eq_false_iff, Bool.not_eq_true', Bool.not_eq_false', decide_eq_true_eq, decide_eq_false_iff_not, beq_iff_eq, bne_iff_ne, List.length_map, List.length_take] at hc2; omega))) ?_
    refine sq_plain rfl rfl rfl (w_loadE1 rfl (ev_tmp rfl) Tryd.isAgg9 rfl) ?_
    refine sq_plain rfl rfl rfl (w_callT 1 rfl rfl Tryd.call45 rfl (cut_spec k 61 (by omega)) (evl_cons (ev_tmp rfl) (evl_cons (ev_cs' (l := [61]) rfl) evl_nil)) (by first | exact fun _ h => h | exact fun _ h => h.1)) ?_
    refine sq_plain rfl rfl rfl (w_move rfl (ev_tmp rfl)) ?_
    refine sq_plain rfl rfl rfl (w_extract rfl (ev_tmp rfl) rfl) ?_
    refine sq_plain rfl rfl rfl (w_extract rfl (ev_tmp rfl) rfl) ?_
    refine sq_plain rfl rfl rfl (w_extract rfl (ev_tmp rfl) rfl) ?_
    refine sq_plain rfl rfl rfl (w_assign rfl (ev_tmp rfl)) ?_
    refine sq_plain rfl rfl rfl (w_assign rfl (ev_tmp rfl)) ?_
    refine sq_plain rfl rfl rfl (w_assign rfl (ev_tmp rfl)) ?_
    refine sq_nil ?_
    refine awp_seq ?_
    refine awp_region ?_
    refine sq_plain rfl rfl rfl (w_move rfl (ev_tmp rfl)) ?_
    refine sq_plain rfl rfl rfl (w_move rfl (ev_tmp rfl)) ?_
    refine sq_plain rfl rfl rfl (w_move rfl (ev_tmp rfl)) ?_
    refine sq_plain rfl rfl rfl (w_move rfl (ev_tmp rfl)) ?_
    refine sq_plain rfl rfl rfl (w_build (places := #[(0, 1), (1, 1), (2, 1), (3, 1), (4, 1)]) rfl Tryd.underlying27 Tryd.zeroValue27 (fun w => by kernel_rfl) rfl (bp_cons (ev_tmp rfl) (as_ik _ _) (bp_cons (ev_tmp rfl) (as_ik _ _) (bp_cons (ev_tmp rfl) (as_str _) (bp_cons (ev_tmp rfl) (as_str _) bp_nil)))) rfl) ?_
    refine sq_alloc rfl rfl rfl rfl Tryd.zeroValue27 rfl ?_
    intro b12
    refine sq_storeB0 0 rfl rfl rfl (ev_tmp rfl) (ev_tmp rfl) (as_agg _) rfl Tryd.sizeOf27 rfl ?_
    refine sq_nil ?_
    refine awp_seq ?_
    refine awp_seq ?_
    refine awp_region ?_
    refine sq_plain rfl rfl rfl (w_move rfl (ev_tmp rfl)) ?_
    refine sq_plain rfl rfl rfl (w_not rfl (ev_tmp rfl)) ?_
    refine sq_nil ?_
    refine awp_cond (ev_tmp rfl) ?_ ?_
    · intro h47
      have hi : itemOf a b k = ⟨(readI a 1 100000).1, (readI b 0 3).1, Lib.trimSuffix (Lib.cut k [61]).1 [33], (Lib.cut k [61]).2.1, true⟩ := if_pos h47
      rw [hi] at hsz
      refine awp_region ?_
      refine sq_plain rfl rfl rfl (w_move rfl (ev_tmp rfl)) ?_
      refine sq_plain rfl rfl rfl (w_call rfl Tryd.call46 rfl (trimSuffix_spec _ _ (by omega)) (evl_cons (ev_tmp rfl) (evl_cons (ev_cs' (l := [33]) rfl) evl_nil))) ?_
      refine sq_plain rfl rfl rfl (w_fldBn 2 rfl Tryd.underlying27 rfl Tryd.sizeOf9 (ev_tmp rfl) rfl) ?_
      refine sq_storeB1 0 rfl rfl rfl (ev_tmp rfl) (ev_tmp rfl) (as_str _) rfl Tryd.sizeOf9 rfl ?_
      refine sq_plain rfl rfl rfl (w_fldBn 4 rfl Tryd.underlying27 rfl Tryd.sizeOf4 (ev_tmp rfl) rfl) ?_
      refine sq_storeB1 0 rfl rfl rfl (ev_tmp rfl) ev_cb (as_bool _) rfl Tryd.sizeOf4 rfl ?_
      refine sq_nil ?_
      refine awp_seq ?_
      refine awp_seq ?_
      refine awp_region ?_
      refine sq_plain rfl rfl rfl (w_move rfl (ev_tmp rfl)) ?_
      refine sq_plain rfl rfl rfl (w_not rfl (ev_tmp rfl)) ?_
      refine sq_plain rfl rfl rfl (w_move rfl (ev_tmp rfl)) ?_
      refine sq_grd rfl rfl (guard_f rfl rfl rfl) (fun hc => w_move rfl (ev_tmp rfl)) ?_
      refine sq_grd rfl rfl (guard_f rfl rfl rfl) (fun hc => w_not rfl (ev_whn rfl hc)) ?_
      refine sq_plain rfl rfl rfl (w_or rfl (ev_tmp rfl) (evif_w rfl)) ?_
      refine sq_plain rfl rfl rfl (w_move rfl (ev_tmp rfl)) ?_
      refine sq_grd rfl rfl (guard_f rfl rfl rfl) (fun hc => w_loadA 0 rfl (ev_tmp rfl) rfl Tryd.isAgg27 Tryd.sizeOf27 rfl) ?_
      refine sq_grd rfl rfl (guard_f rfl rfl rfl) (fun hc => w_call rfl Tryd.call29 rfl ((by first | exact goodItem_spec ⟨(readI a 1 100000).1, (readI b 0 3).1, Lib.trimSuffix (Lib.cut k [61]).1 [33], (Lib.cut k [61]).2.1, true⟩ (by omega) | exact goodItem_spec ⟨(readI a 1 100000).1, (readI b 0 3).1, (Lib.cut k [61]).1, (Lib.cut k [61]).2.1, false⟩ (by omega))) (evl_cons (ev_whn rfl hc) evl_nil)) ?_
      refine sq_grd rfl rfl (guard_f rfl rfl rfl) (fun hc => w_not rfl (ev_whn rfl hc)) ?_
      refine sq_plain rfl rfl rfl (w_or rfl (ev_tmp rfl) (evif_w rfl)) ?_
      refine sq_plain rfl rfl rfl (w_move rfl (ev_tmp rfl)) ?_
      refine sq_grd rfl rfl (guard_f rfl rfl rfl) (fun hc => w_loadA 0 rfl (ev_tmp rfl) rfl Tryd.isAgg27 Tryd.sizeOf27 rfl) ?_
      refine sq_grd rfl rfl (guard_f rfl rfl rfl) (fun hc => w_callT 2 rfl rfl Tryd.call30 rfl ((by first | exact feedLine_spec ⟨(readI a 1 100000).1, (readI b 0 3).1, Lib.trimSuffix (Lib.cut k [61]).1 [33], (Lib.cut k [61]).2.1, true⟩ (by omega) (by simp only [Bool.not_eq_true', Bool.or_eq_false_iff, Bool.not_eq_false'] at hc; exact hc.2) | exact feedLine_spec ⟨(readI a 1 100000).1, (readI b 0 3).1, (Lib.cut k [61]).1, (Lib.cut k [61]).2.1, false⟩ (by omega) (by simp only [Bool.not_eq_true', Bool.or_eq_false_iff, Bool.not_eq_false'] at hc; exact hc.2))) (evl_cons (ev_whn rfl hc) evl_nil) (by first | exact fun _ h => h | exact fun _ h => h.1)) ?_
      refine sq_grd rfl rfl (guard_f rfl rfl rfl) (fun hc => w_move rfl (ev_tmp rfl)) ?_
      refine sq_grd rfl rfl (guard_f rfl rfl rfl) (fun hc => w_sneq rfl (ev_whn rfl hc) (ev_whn rfl hc)) ?_
      refine sq_plain rfl rfl rfl (w_or rfl (ev_tmp rfl) (evif_w rfl)) ?_
      refine sq_nil ?_
      refine awp_cond (ev_tmp rfl) ?_ ?_
      · intro h68
        have hp3 : parse3 s a b k = (emptyF, false) := if_pos (by unfold bad3; rw [hi]; exact h68)
        rw [hp3]
        refine awp_seq ?_
        refine awp_region ?_
        refine sq_plain rfl rfl rfl (w_build (places := #[(0, 1), (1, 1), (2, 1), (3, 1), (4, 1)]) rfl Tryd.underlying27 Tryd.zeroValue27 (fun w => by kernel_rfl) rfl bp_nil rfl) ?_
        refine sq_storeB0 1 rfl rfl rfl (ev_tmp rfl) (ev_tmp rfl) (as_agg _) rfl Tryd.sizeOf27 rfl ?_
        refine sq_plain rfl rfl rfl (w_assign rfl ev_cb) ?_
        refine sq_nil ?_
        refine awp_ret ?_
        exact retN rfl (by decide) (rv_cons (rv_cell (ys := _) 1 rfl rfl Tryd.isAgg27 Tryd.sizeOf27 rfl) (rv_cons (rv_tmp' rfl (by rfl)) rv_nil))
      · intro h68
        have hp3 : parse3 s a b k = (itemOf a b k, true) := if_neg (by unfold bad3; rw [hi, h68]; decide)
        rw [hp3, hi]
        refine awp_skip ?_
        refine awp_seq ?_
        refine awp_region ?_
        refine sq_plain rfl rfl rfl (w_loadA 0 rfl (ev_tmp rfl) rfl Tryd.isAgg27 Tryd.sizeOf27 rfl) ?_
        refine sq_storeB0 1 rfl rfl rfl (ev_tmp rfl) (ev_tmp rfl) (as_agg _) rfl Tryd.sizeOf27 rfl ?_
        refine sq_plain rfl rfl rfl (w_assign rfl ev_cb) ?_
        refine sq_nil ?_
        refine awp_ret ?_
        exact retN rfl (by decide) (rv_cons (rv_cell (ys := _) 1 rfl rfl Tryd.isAgg27 Tryd.sizeOf27 rfl) (rv_cons (rv_tmp' rfl (by rfl)) rv_nil))
    · intro h47
      have hi : itemOf a b k = ⟨(readI a 1 100000).1, (readI b 0 3).1, (Lib.cut k [61]).1, (Lib.cut k [61]).2.1, false⟩ := if_neg (by rw [h47]; decide)
      rw [hi] at hsz
      refine awp_skip ?_
      refine awp_seq ?_
      refine awp_seq ?_
      refine awp_region ?_
      refine sq_plain rfl rfl rfl (w_move rfl (ev_tmp rfl)) ?_
      refine sq_plain rfl rfl rfl (w_not rfl (ev_tmp rfl)) ?_
      refine sq_plain rfl rfl rfl (w_move rfl (ev_tmp rfl)) ?_
      refine sq_grd rfl rfl (guard_f rfl rfl rfl) (fun hc => w_move rfl (ev_tmp rfl)) ?_
      refine sq_grd rfl rfl (guard_f rfl rfl rfl) (fun hc => w_not rfl (ev_whn rfl hc)) ?_
      refine sq_plain rfl rfl rfl (w_or rfl (ev_tmp rfl) (evif_w rfl)) ?_
      refine sq_plain rfl rfl rfl (w_move rfl (ev_tmp rfl)) ?_
      refine sq_grd rfl rfl (guard_f rfl rfl rfl) (fun hc => w_loadA 0 rfl (ev_tmp rfl) rfl Tryd.isAgg27 Tryd.sizeOf27 rfl) ?_
      refine sq_grd rfl rfl (guard_f rfl rfl rfl) (fun hc => w_call rfl Tryd.call29 rfl ((by first | exact goodItem_spec ⟨(readI a 1 100000).1, (readI b 0 3).1, Lib.trimSuffix (Lib.cut k [61]).1 [33], (Lib.cut k [61]).2.1, true⟩ (by omega) | exact goodItem_spec ⟨(readI a 1 100000).1, (readI b 0 3).1, (Lib.cut k [61]).1, (Lib.cut k [61]).2.1, false⟩ (by omega))) (evl_cons (ev_whn rfl hc) evl_nil)) ?_
      refine sq_grd rfl rfl (guard_f rfl rfl rfl) (fun hc => w_not rfl (ev_whn rfl hc)) ?_
      refine sq_plain rfl rfl rfl (w_or rfl (ev_tmp rfl) (evif_w rfl)) ?_
      refine sq_plain rfl rfl rfl (w_move rfl (ev_tmp rfl)) ?_
      refine sq_grd rfl rfl (guard_f rfl rfl rfl) (fun hc => w_loadA 0 rfl (ev_tmp rfl) rfl Tryd.isAgg27 Tryd.sizeOf27 rfl) ?_
      refine sq_grd rfl rfl (guard_f rfl rfl rfl) (fun hc => w_callT 2 rfl rfl Tryd.call30 rfl ((by first | exact feedLine_spec ⟨(readI a 1 100000).1, (readI b 0 3).1, Lib.trimSuffix (Lib.cut k [61]).1 [33], (Lib.cut k [61]).2.1, true⟩ (by omega) (by simp only [Bool.not_eq_true', Bool.or_eq_false_iff, Bool.not_eq_false'] at hc; exact hc.2) | exact feedLine_spec ⟨(readI a 1 100000).1, (readI b 0 3).1, (Lib.cut k [61]).1, (Lib.cut k [61]).2.1, false⟩ (by omega) (by simp only [Bool.not_eq_true', Bool.or_eq_false_iff, Bool.not_eq_false'] at hc; exact hc.2))) (evl_cons (ev_whn rfl hc) evl_nil) (by first | exact fun _ h => h | exact fun _ h => h.1)) ?_
      refine sq_grd rfl rfl (guard_f rfl rfl rfl) (fun hc => w_move rfl (ev_tmp rfl)) ?_
      refine sq_grd rfl rfl (guard_f rfl rfl rfl) (fun hc => w_sneq rfl (ev_whn rfl hc) (ev_whn rfl hc)) ?_
      refine sq_plain rfl rfl rfl (w_or rfl (ev_tmp rfl) (evif_w rfl)) ?_
      refine sq_nil ?_
      refine awp_cond (ev_tmp rfl) ?_ ?_
      · intro h68
        have hp3 : parse3 s a b k = (emptyF, false) := if_pos (by unfold bad3; rw [hi]; exact h68)
        rw [hp3]
        refine awp_seq ?_
        refine awp_region ?_
        refine sq_plain rfl rfl rfl (w_build (places := #[(0, 1), (1, 1), (2, 1), (3, 1), (4, 1)]) rfl Tryd.underlying27 Tryd.zeroValue27 (fun w => by kernel_rfl) rfl bp_nil rfl) ?_
        refine sq_storeB0 1 rfl rfl rfl (ev_tmp rfl) (ev_tmp rfl) (as_agg _) rfl Tryd.sizeOf27 rfl ?_
        refine sq_plain rfl rfl rfl (w_assign rfl ev_cb) ?_
        refine sq_nil ?_
        refine awp_ret ?_
        exact retN rfl (by decide) (rv_cons (rv_cell (ys := _) 1 rfl rfl Tryd.isAgg27 Tryd.sizeOf27 rfl) (rv_cons (rv_tmp' rfl (by rfl)) rv_nil))
      · intro h68
        have hp3 : parse3 s a b k = (itemOf a b k, true) := if_neg (by unfold bad3; rw [hi, h68]; decide)
        rw [hp3, hi]
        refine awp_skip ?_
        refine awp_seq ?_
        refine awp_region ?_
        refine sq_plain rfl rfl rfl (w_loadA 0 rfl (ev_tmp rfl) rfl Tryd.isAgg27 Tryd.sizeOf27 rfl) ?_
        refine sq_storeB0 1 rfl rfl rfl (ev_tmp rfl) (ev_tmp rfl) (as_agg _) rfl Tryd.sizeOf27 rfl ?_
        refine sq_plain rfl rfl rfl (w_assign rfl ev_cb) ?_
        refine sq_nil ?_
        refine awp_ret ?_
        exact retN rfl (by decide) (rv_cons (rv_cell (ys := _) 1 rfl rfl Tryd.isAgg27 Tryd.sizeOf27 rfl) (rv_cons (rv_tmp' rfl (by rfl)) rv_nil))
theorem readFeedLineS_spec (s : Str) (hs : s.length ≤ 1048576) : FSpec Tryd.prog 17 [AV.str s] (AV.tup [AV.agg (parseFS s).1.cs, AV.bool (parseFS s).2]) := by
  refine spec_of_awp Tryd.func17 rfl Tryd.ntmps17 rfl ?_
  refine awp_seq ?_
  refine awp_region ?_
  refine sq_alloc rfl rfl rfl rfl Tryd.zeroValue27 rfl ?_
  intro b2
  refine sq_plain rfl rfl rfl (w_assign rfl ev_cb) ?_
  refine sq_nil ?_
  refine awp_seq ?_
  refine awp_region ?_
  refine sq_plain rfl rfl rfl (w_move rfl (ev_tmp rfl)) ?_
  refine sq_plain rfl rfl rfl (w_call rfl Tryd.call41 rfl (l1Split_spec s 32 hs) (evl_cons (ev_tmp rfl) (evl_cons ev_ci evl_nil))) ?_
  refine sq_plain rfl rfl rfl (w_assign rfl (ev_tmp rfl)) ?_
  refine sq_nil ?_
  refine awp_seq ?_
  refine awp_seq ?_
  refine awp_region ?_
  refine sq_plain rfl rfl rfl (w_move rfl (ev_tmp rfl)) ?_
  refine sq_plain rfl rfl rfl (w_llen rfl Tryd.underlying30 (ev_tmp rfl)) ?_
  refine sq_plain rfl rfl rfl (w_neq rfl (ev_tmp rfl) ev_ci) ?_
  refine sq_plain rfl rfl rfl (w_move rfl (ev_tmp rfl)) ?_
  refine sq_grd rfl rfl (guard_f rfl rfl rfl) (fun hc => w_move rfl (ev_tmp rfl)) ?_
  refine sq_grd rfl rfl (guard_f rfl rfl rfl) (fun hc => w_idxm rfl Tryd.underlying30 Tryd.sizeOf9 (ev_whn rfl hc) ev_ci (get2 (by (have h9 := hc; simp [List.length_map] at h9; omega))) (by first | omega | ((try simp only [List.length_map, List.length_take, List.length_cons, List.length_nil, chunks_len, szR] at *); omega) | (have hc2 := hc; simp only [Bool.and_eq_true, Bool.or_eq_true, Bool.or_eq_false_iff, Bool.and_eq_false_iff, Bool.not_eq_true', Bool.not_eq_false', decide_eq_true_eq, decide_eq_false_iff_not, beq_iff_eq, bne_iff_ne, List.length_map, List.length_take] at hc2; omega))) ?_
  refine sq_grd rfl rfl (guard_f rfl rfl rfl) (fun hc => w_loadE1 rfl (ev_whn rfl hc) Tryd.isAgg9 rfl) ?_
  refine sq_grd rfl rfl (guard_f rfl rfl rfl) (fun hc => w_slen rfl Tryd.underlying9 (ev_whn rfl hc)) ?_
  refine sq_grd rfl rfl (guard_f rfl rfl rfl) (fun hc => w_lss rfl (ev_whn rfl hc) ev_ci) ?_
  refine sq_plain rfl rfl rfl (w_or rfl (ev_tmp rfl) (evif_w rfl)) ?_
  refine sq_nil ?_
  refine awp_cond (ev_tmp rfl) ?_ ?_
  · intro h18
    have he : parseFS s = (emptyF, false) := (by (by_cases h3 : (splitC 32 s).length = 3); (obtain ⟨a, b, k, hw⟩ := three_of h3; rw [parseFS_three hw, if_pos]; rw [hw] at h18; simp at h18; omega); exact parseFS_not h3)
    rw [he]
    refine awp_seq ?_
    refine awp_region ?_
    refine sq_plain rfl rfl rfl (w_build (places := #[(0, 1), (1, 1), (2, 1), (3, 1), (4, 1)]) rfl Tryd.underlying27 Tryd.zeroValue27 (fun w => by kernel_rfl) rfl bp_nil rfl) ?_
    refine sq_storeB0 0 rfl rfl rfl (ev_tmp rfl) (ev_tmp rfl) (as_agg _) rfl Tryd.sizeOf27 rfl ?_
    refine sq_plain rfl rfl rfl (w_assign rfl ev_cb) ?_
    refine sq_nil ?_
    refine awp_ret ?_
    exact retN rfl (by decide) (rv_cons (rv_cell (ys := _) 0 rfl rfl Tryd.isAgg27 Tryd.sizeOf27 rfl) (rv_cons (rv_tmp' rfl (by rfl)) rv_nil))
  · intro h18
    simp only [Bool.or_eq_false_iff] at h18
    obtain ⟨h18a, h18b⟩ := h18
    obtain ⟨a, b, k, hw⟩ := three_of (l := splitC 32 s) (by (simp [List.length_map] at h18a; omega))
    rw [hw] at h18b
    have hk2 : ¬ k.length < 2 := (by simp at h18b; omega)
    have he := (parseFS_three hw).trans (if_neg hk2)
    rw [he, hw]
    have hla : a.length ≤ s.length := splitC_len (c := 32) (by rw [hw]; exact List.mem_cons_self)
    have hlb : b.length ≤ s.length := splitC_len (c := 32) (by rw [hw]; exact List.mem_cons_of_mem _ List.mem_cons_self)
    have hlk : k.length ≤ s.length := splitC_len (c := 32) (by rw [hw]; exact List.mem_cons_of_mem _ (List.mem_cons_of_mem _ List.mem_cons_self))
    refine awp_skip ?_
    refine awp_seq ?_
    refine awp_region_tree _ 19 (.pure 0 (.pure 1 (.pure 2 (.pure 3 (.pure 4 (.pure 5 (.pure 6 (.pure 7 (.pure 8 (.pure 9 (.pure 10 (.pure 11 (.pure 12 (.pure 13 (.pure 14 (.pure 15 (.pure 16 (.pure 17 (.e1 18 .nil))))))))))))))))))) (by kernel_rfl) (by kernel_rfl) rfl invx_self ?_
    refine bt_plain rfl rfl rfl (fun ext => w_move rfl (ev_tmp rfl)) ?_
    refine bt_plain rfl rfl rfl (fun ext => w_idxm rfl Tryd.underlying30 Tryd.sizeOf9 (ev_tmp rfl) ev_ci (show [a, b, k][0]? = some a from rfl) (by first | omega | ((try simp only [List.length_map, List.length_take, List.length_cons, List.length_nil, chunks_len, szR] at *); omega) | (have hc2 := hc; simp only [Bool.and_eq_true, Bool.or_eq_true, Bool.or_eq_false_iff, Bool.and_eq_false_iff, Bool.not_eq_true', Bool.not_eq_false', decide_eq_true_eq, decide_eq_false_iff_not, beq_iff_eq, bne_iff_ne, List.length_map, List.length_take] at hc2; omega))) ?_
    refine bt_plain rfl rfl rfl (fun ext => w_loadE1 rfl (ev_tmp rfl) Tryd.isAgg9 rfl) ?_
    refine bt_plain rfl rfl rfl (fun ext => w_call rfl Tryd.call42 rfl (l1Read_spec a (by omega)) (evl_cons (ev_tmp rfl) evl_nil)) ?_
    refine bt_plain rfl rfl rfl (fun ext => w_move rfl (ev_tmp rfl)) ?_
    refine bt_plain rfl rfl rfl (fun ext => w_idxm rfl Tryd.underlying30 Tryd.sizeOf9 (ev_tmp rfl) ev_ci (show [a, b, k][1]? = some b from rfl) (by first | omega | ((try simp only [List.length_map, List.length_take, List.length_cons, List.length_nil, chunks_len, szR] at *); omega) | (have hc2 := hc; simp only [Bool.and_eq_true, Bool.or_eq_true, Bool.or_eq_false_iff, Bool.and_eq_false_iff, Bool.not_eq_true', Bool.not_eq_false', decide_eq_true_eq, decide_eq_false_iff_not, beq_iff_eq, bne_iff_ne, List.length_map, List.length_take] at hc2; omega))) ?_
    refine bt_plain rfl rfl rfl (fun ext => w_loadE1 rfl (ev_tmp rfl) Tryd.isAgg9 rfl) ?_
    refine bt_plain rfl rfl rfl (fun ext => w_call rfl Tryd.call42 rfl (l1Read_spec b (by omega)) (evl_cons (ev_tmp rfl) evl_nil)) ?_
    refine bt_plain rfl rfl rfl (fun ext => w_move rfl (ev_tmp rfl)) ?_
    refine bt_plain rfl rfl rfl (fun ext => w_idxm rfl Tryd.underlying30 Tryd.sizeOf9 (ev_tmp rfl) ev_ci (show [a, b, k][2]? = some k from rfl) (by first | omega | ((try simp only [List.length_map, List.length_take, List.length_cons, List.length_nil, chunks_len, szR] at *); omega) | (have hc2 := hc; simp only [Bool.and_eq_true, Bool.or_eq_true, Bool.or_eq_false_iff, Bool.and_eq_false_iff, Bool.not_eq_true', Bool.not_eq_false', decide_eq_true_eq, decide_eq_false_iff_not, beq_iff_eq, bne_iff_ne, List.length_map, List.length_take] at hc2; omega))) ?_
    refine bt_plain rfl rfl rfl (fun ext => w_loadE1 rfl (ev_tmp rfl) Tryd.isAgg9 rfl) ?_
    refine bt_plain rfl rfl rfl (fun ext => w_move rfl (ev_tmp rfl)) ?_
    refine bt_plain rfl rfl rfl (fun ext => w_idxm rfl Tryd.underlying30 Tryd.sizeOf9 (ev_tmp rfl) ev_ci (show [a, b, k][2]? = some k from rfl) (by first | omega | ((try simp only [List.length_map, List.length_take, List.length_cons, List.length_nil, chunks_len, szR] at *); omega) | (have hc2 := hc; simp only [Bool.and_eq_true, Bool.or_eq_true, Bool.or_eq_false_iff, Bool.and_eq_false_iff, Bool.not_eq_true', Bool.not_eq_false', decide_eq_true_eq, decide_eq_false_iff_not, beq_iff_eq, bne_iff_ne, List.length_map, List.length_take] at hc2; omega))) ?_
    refine bt_plain rfl rfl rfl (fun ext => w_loadE1 rfl (ev_tmp rfl) Tryd.isAgg9 rfl) ?_
    refine bt_plain rfl rfl rfl (fun ext => w_slen rfl Tryd.underlying9 (ev_tmp rfl)) ?_
    refine bt_plain rfl rfl rfl (fun ext => w_subi rfl (ev_tmp rfl) ev_ci (by first | omega | ((try simp only [List.length_map, List.length_take, List.length_cons, List.length_nil, chunks_len, szR] at *); omega) | (have hc2 := hc; simp only [Bool.and_eq_true, Bool.or_eq_true, Bool.or_eq_false_iff, Bool.and_eq_false_iff, Bool.not_eq_true', Bool.not_eq_false', decide_eq_true_eq, decide_eq_false_iff_not, beq_iff_eq, bne_iff_ne, List.length_map, List.length_take] at hc2; omega))) ?_
    refine bt_plain rfl rfl rfl (fun ext => w_ssl_hi rfl Tryd.underlying9 (ev_tmp rfl) (ev_tmp rfl) (by first | omega | ((try simp only [List.length_map, List.length_take, List.length_cons, List.length_nil, chunks_len, szR] at *); omega) | (have hc2 := hc; simp only [Bool.and_eq_true, Bool.or_eq_true, Bool.or_eq_false_iff, Bool.and_eq_false_iff, Bool.not_eq_true', Bool.not_eq_false', decide_eq_true_eq, decide_eq_false_iff_not, beq_iff_eq, bne_iff_ne, List.length_map, List.length_take] at hc2; omega)) (by first | omega | ((try simp only [List.length_map, List.length_take, List.length_cons, List.length_nil, chunks_len, szR] at *); omega) | (have hc2 := hc; simp only [Bool.and_eq_true, Bool.or_eq_true, Bool.or_eq_false_iff, Bool.and_eq_false_iff, Bool.not_eq_true', Bool.not_eq_false', decide_eq_true_eq, decide_eq_false_iff_not, beq_iff_eq, bne_iff_ne, List.length_map, List.length_take] at hc2; omega))) ?_
    rw [show ((k.length : Int) - 1).toNat = k.length - 1 by omega]
    refine bt_plain rfl rfl rfl (fun ext => w_build (places := #[(0, 1), (1, 1), (2, 1), (3, 1), (4, 1)]) rfl Tryd.underlying27 Tryd.zeroValue27 (fun w => by kernel_rfl) rfl (bp_cons (ev_tmp rfl) (as_ik _ _) (bp_cons (ev_tmp rfl) (as_ik _ _) (bp_cons (ev_tmp rfl) (as_str _) (bp_cons ev_cb (as_bool _) bp_nil)))) rfl) ?_
    refine bt_e1 ?_
    refine eff_s rfl rfl rfl (opE_alloc rfl Tryd.zeroValue27 rfl) (fun a _ => (by first | exact invx_mk rfl | exact invx_mk (List.append_assoc _ _ _) | exact invx_all)) ?_
    intro b5 _
    refine bt_nil ?_
    refine sq_storeB0 1 rfl rfl rfl (ev_tmp rfl) (ev_tmp rfl) (as_agg _) rfl Tryd.sizeOf27 rfl ?_
    refine sq_nil ?_
    refine awp_seq ?_
    refine awp_seq ?_
    refine awp_region ?_
    refine sq_plain rfl rfl rfl (w_move rfl (ev_tmp rfl)) ?_
    refine sq_plain rfl rfl rfl (w_idxm rfl Tryd.underlying30 Tryd.sizeOf9 (ev_tmp rfl) ev_ci (show [a, b, k][2]? = some k from rfl) (by first | omega | ((try simp only [List.length_map, List.length_take, List.length_cons, List.length_nil, chunks_len, szR] at *); omega) | (have hc2 := hc; simp only [Bool.and_eq_true, Bool.or_eq_true, Bool.or_eq_false_iff, Bool.and_eq_false_iff, Bool.not_eq_true', Bool.not_eq_false', decide_eq_true_eq, decide_eq_false_iff_not, beq_iff_eq, bne_iff_ne, List.length_map, List.length_take] at hc2; omega))) ?_
    refine sq_plain rfl rfl rfl (w_loadE1 rfl (ev_tmp rfl) Tryd.isAgg9 rfl) ?_
    refine sq_plain rfl rfl rfl (w_call rfl Tryd.call41 rfl (l1Split_spec k 61 (by omega)) (evl_cons (ev_tmp rfl) (evl_cons ev_ci evl_nil))) ?_
    refine sq_plain rfl rfl rfl (w_assign rfl (ev_tmp rfl)) ?_
    refine sq_nil ?_
    refine awp_seq ?_
    refine awp_region ?_
    refine sq_plain rfl rfl rfl (w_move rfl (ev_tmp rfl)) ?_
    refine sq_plain rfl rfl rfl (w_llen rfl Tryd.underlying30 (ev_tmp rfl)) ?_
    refine sq_plain rfl rfl rfl (w_eql rfl (ev_tmp rfl) ev_ci) ?_
    refine sq_nil ?_
    refine awp_cond (ev_tmp rfl) ?_ ?_
    · intro h44
      have k44 := eq_of_beqt h44; try simp only [List.length_map] at k44
      obtain ⟨x, y, hxy⟩ := two_of (l := splitC 61 k) (by omega)
      have hi := itemS_two (a := a) (b := b) hxy
      rw [hxy]
      have hl2 := split2_len hxy
      refine awp_seq ?_
      refine awp_region ?_
      refine sq_plain rfl rfl rfl (w_move rfl (ev_tmp rfl)) ?_
      refine sq_plain rfl rfl rfl (w_idxm rfl Tryd.underlying30 Tryd.sizeOf9 (ev_tmp rfl) ev_ci (show [x, y][0]? = some x from rfl) (by first | omega | ((try simp only [List.length_map, List.length_take, List.length_cons, List.length_nil, chunks_len, szR] at *); omega) | (have hc2 := hc; simp only [Bool.and_eq_true, Bool.or_eq_true, Bool.or_eq_false_iff, Bool.and_eq_false_iff, Bool.not_eq_true', Bool.not_eq_false', decide_eq_true_eq, decide_eq_false_iff_not, beq_iff_eq, bne_iff_ne, List.length_map, List.length_take] at hc2; omega))) ?_
      refine sq_plain rfl rfl rfl (w_loadE1 rfl (ev_tmp rfl) Tryd.isAgg9 rfl) ?_
      refine sq_plain rfl rfl rfl (w_fldBn 2 rfl Tryd.underlying27 rfl Tryd.sizeOf9 (ev_tmp rfl) rfl) ?_
      refine sq_storeB1 1 rfl rfl rfl (ev_tmp rfl) (ev_tmp rfl) (as_str _) rfl Tryd.sizeOf9 rfl ?_
      refine sq_nil ?_
      refine awp_seq ?_
      refine awp_region ?_
      refine sq_plain rfl rfl rfl (w_move rfl (ev_tmp rfl)) ?_
      refine sq_plain rfl rfl rfl (w_idxm rfl Tryd.underlying30 Tryd.sizeOf9 (ev_tmp rfl) ev_ci (show [x, y][1]? = some y from rfl) (by first | omega | ((try simp only [List.length_map, List.length_take, List.length_cons, List.length_nil, chunks_len, szR] at *); omega) | (have hc2 := hc; simp only [Bool.and_eq_true, Bool.or_eq_true, Bool.or_eq_false_iff, Bool.and_eq_false_iff, Bool.not_eq_true', Bool.not_eq_false', decide_eq_true_eq, decide_eq_false_iff_not, beq_iff_eq, bne_iff_ne, List.length_map, List.length_take] at hc2; omega))) ?_
      refine sq_plain rfl rfl rfl (w_loadE1 rfl (ev_tmp rfl) Tryd.isAgg9 rfl) ?_
      refine sq_plain rfl rfl rfl (w_fldBn 3 rfl Tryd.underlying27 rfl Tryd.sizeOf9 (ev_tmp rfl) rfl) ?_
      refine sq_storeB1 1 rfl rfl rfl (ev_tmp rfl) (ev_tmp rfl) (as_str _) rfl Tryd.sizeOf9 rfl ?_
      refine sq_nil ?_
      refine awp_region ?_
      refine sq_plain rfl rfl rfl (w_fldBn 4 rfl Tryd.underlying27 rfl Tryd.sizeOf4 (ev_tmp rfl) rfl) ?_
      refine sq_storeB1 1 rfl rfl rfl (ev_tmp rfl) ev_cb (as_bool _) rfl Tryd.sizeOf4 rfl ?_
      refine sq_nil ?_
      refine awp_seq ?_
      refine awp_seq ?_
      refine awp_region ?_
      refine sq_plain rfl rfl rfl (w_loadA 1 rfl (ev_tmp rfl) rfl Tryd.isAgg27 Tryd.sizeOf27 rfl) ?_
      refine sq_plain rfl rfl rfl (w_call rfl Tryd.call27 rfl ((by first | exact l23Good_spec ⟨l1R a, l1R b, x, y, false⟩ (by simp only [TFeedItem.size]; omega) | exact l23Good_spec ⟨l1R a, l1R b, k.take (k.length - 1), [], true⟩ (by simp only [TFeedItem.size, List.length_nil]; omega))) (evl_cons (ev_tmp rfl) evl_nil)) ?_
      refine sq_plain rfl rfl rfl (w_not rfl (ev_tmp rfl)) ?_
      refine sq_plain rfl rfl rfl (w_move rfl (ev_tmp rfl)) ?_
      refine sq_grd rfl rfl (guard_f rfl rfl rfl) (fun hc => w_loadA 1 rfl (ev_tmp rfl) rfl Tryd.isAgg27 Tryd.sizeOf27 rfl) ?_
      refine sq_grd rfl rfl (guard_f rfl rfl rfl) (fun hc => w_call rfl Tryd.call28 rfl ((by first | exact l23Line_spec ⟨l1R a, l1R b, x, y, false⟩ (by simp only [TFeedItem.size]; omega) (by rw [goodItem_eq]; simpa using hc) | exact l23Line_spec ⟨l1R a, l1R b, k.take (k.length - 1), [], true⟩ (by simp only [TFeedItem.size, List.length_nil]; omega) (by rw [goodItem_eq]; simpa using hc))) (evl_cons (ev_whn rfl hc) evl_nil)) ?_
      refine sq_grd rfl rfl (guard_f rfl rfl rfl) (fun hc => w_move rfl (ev_tmp rfl)) ?_
      refine sq_grd rfl rfl (guard_f rfl rfl rfl) (fun hc => w_sneq rfl (ev_whn rfl hc) (ev_whn rfl hc)) ?_
      refine sq_plain rfl rfl rfl (w_or rfl (ev_tmp rfl) (evif_w rfl)) ?_
      refine sq_nil ?_
      refine awp_cond (ev_tmp rfl) ?_ ?_
      · intro h62
        have hp3 : parse3S s a b k = (emptyF, false) := if_pos (by rw [hi]; exact h62)
        rw [hp3]
        refine awp_seq ?_
        refine awp_region ?_
        refine sq_plain rfl rfl rfl (w_build (places := #[(0, 1), (1, 1), (2, 1), (3, 1), (4, 1)]) rfl Tryd.underlying27 Tryd.zeroValue27 (fun w => by kernel_rfl) rfl bp_nil rfl) ?_
        refine sq_storeB0 0 rfl rfl rfl (ev_tmp rfl) (ev_tmp rfl) (as_agg _) rfl Tryd.sizeOf27 rfl ?_
        refine sq_plain rfl rfl rfl (w_assign rfl ev_cb) ?_
        refine sq_nil ?_
        refine awp_ret ?_
        exact retN rfl (by decide) (rv_cons (rv_cell (ys := _) 0 rfl rfl Tryd.isAgg27 Tryd.sizeOf27 rfl) (rv_cons (rv_tmp' rfl (by rfl)) rv_nil))
      · intro h62
        have hp3 : parse3S s a b k = (itemS a b k, true) := if_neg (by rw [hi, h62]; decide)
        rw [hp3, hi]
        refine awp_skip ?_
        refine awp_seq ?_
        refine awp_region ?_
        refine sq_plain rfl rfl rfl (w_loadA 1 rfl (ev_tmp rfl) rfl Tryd.isAgg27 Tryd.sizeOf27 rfl) ?_
        refine sq_storeB0 0 rfl rfl rfl (ev_tmp rfl) (ev_tmp rfl) (as_agg _) rfl Tryd.sizeOf27 rfl ?_
        refine sq_plain rfl rfl rfl (w_assign rfl ev_cb) ?_
        refine sq_nil ?_
        refine awp_ret ?_
        exact retN rfl (by decide) (rv_cons (rv_cell (ys := _) 0 rfl rfl Tryd.isAgg27 Tryd.sizeOf27 rfl) (rv_cons (rv_tmp' rfl (by rfl)) rv_nil))
    · intro h44
      have k44 := ne_of_beqf h44; try simp only [List.length_map] at k44
      have hi := itemS_not (a := a) (b := b) (k := k) (by omega)
      have htk : (k.take (k.length - 1)).length ≤ k.length := by (rw [List.length_take]; omega)
      refine awp_skip ?_
      refine awp_seq ?_
      refine awp_seq ?_
      refine awp_region ?_
      refine sq_plain rfl rfl rfl (w_loadA 1 rfl (ev_tmp rfl) rfl Tryd.isAgg27 Tryd.sizeOf27 rfl) ?_
      refine sq_plain rfl rfl rfl (w_call rfl Tryd.call27 rfl ((by first | exact l23Good_spec ⟨l1R a, l1R b, x, y, false⟩ (by simp only [TFeedItem.size]; omega) | exact l23Good_spec ⟨l1R a, l1R b, k.take (k.length - 1), [], true⟩ (by simp only [TFeedItem.size, List.length_nil]; omega))) (evl_cons (ev_tmp rfl) evl_nil)) ?_
      refine sq_plain rfl rfl rfl (w_not rfl (ev_tmp rfl)) ?_
      refine sq_plain rfl rfl rfl (w_move rfl (ev_tmp rfl)) ?_
      refine sq_grd rfl rfl (guard_f rfl rfl rfl) (fun hc => w_loadA 1 rfl (ev_tmp rfl) rfl Tryd.isAgg27 Tryd.sizeOf27 rfl) ?_
      refine sq_grd rfl rfl (guard_f rfl rfl rfl) (fun hc => w_call rfl Tryd.call28 rfl ((by first | exact l23Line_spec ⟨l1R a, l1R b, x, y, false⟩ (by simp only [TFeedItem.size]; omega) (by rw [goodItem_eq]; simpa using hc) | exact l23Line_spec ⟨l1R a, l1R b, k.take (k.length - 1), [], true⟩ (by simp only [TFeedItem.size, List.length_nil]; omega) (by rw [goodItem_eq]; simpa using hc))) (evl_cons (ev_whn rfl hc) evl_nil)) ?_
      refine sq_grd rfl rfl (guard_f rfl rfl rfl) (fun hc => w_move rfl (ev_tmp rfl)) ?_
      refine sq_grd rfl rfl (guard_f rfl rfl rfl) (fun hc => w_sneq rfl (ev_whn rfl hc) (ev_whn rfl hc)) ?_
      refine sq_plain rfl rfl rfl (w_or rfl (ev_tmp rfl) (evif_w rfl)) ?_
      refine sq_nil ?_
      refine awp_cond (ev_tmp rfl) ?_ ?_
      · intro h62
        have hp3 : parse3S s a b k = (emptyF, false) := if_pos (by rw [hi]; exact h62)
        rw [hp3]
        refine awp_seq ?_
        refine awp_region ?_
        refine sq_plain rfl rfl rfl (w_build (places := #[(0, 1), (1, 1), (2, 1), (3, 1), (4, 1)]) rfl Tryd.underlying27 Tryd.zeroValue27 (fun w => by kernel_rfl) rfl bp_nil rfl) ?_
        refine sq_storeB0 0 rfl rfl rfl (ev_tmp rfl) (ev_tmp rfl) (as_agg _) rfl Tryd.sizeOf27 rfl ?_
        refine sq_plain rfl rfl rfl (w_assign rfl ev_cb) ?_
        refine sq_nil ?_
        refine awp_ret ?_
        exact retN rfl (by decide) (rv_cons (rv_cell (ys := _) 0 rfl rfl Tryd.isAgg27 Tryd.sizeOf27 rfl) (rv_cons (rv_tmp' rfl (by rfl)) rv_nil))
      · intro h62
        have hp3 : parse3S s a b k = (itemS a b k, true) := if_neg (by rw [hi, h62]; decide)
        rw [hp3, hi]
        refine awp_skip ?_
        refine awp_seq ?_
        refine awp_region ?_
        refine sq_plain rfl rfl rfl (w_loadA 1 rfl (ev_tmp rfl) rfl Tryd.isAgg27 Tryd.sizeOf27 rfl) ?_
        refine sq_storeB0 0 rfl rfl rfl (ev_tmp rfl) (ev_tmp rfl) (as_agg _) rfl Tryd.sizeOf27 rfl ?_
        refine sq_plain rfl rfl rfl (w_assign rfl ev_cb) ?_
        refine sq_nil ?_
        refine awp_ret ?_
        exact retN rfl (by decide) (rv_cons (rv_cell (ys := _) 0 rfl rfl Tryd.isAgg27 Tryd.sizeOf27 rfl) (rv_cons (rv_tmp' rfl (by rfl)) rv_nil))
end Go.Proofs.YtdgoejkijpllpaaDoor

set_option linter.unusedVariables false
set_option linter.unusedSimpArgs false
namespace Go.M
/-- The bytes of a number: seven bits each, the least first; the last one is below 128. -/
def numB (n : Nat) : Str := if h : 128 ≤ n then UInt8.ofNat (n % 128 + 128) :: numB (n / 128) else [UInt8.ofNat n]
termination_by n
decreasing_by omega
theorem numB_small {n : Nat} (h : n < 128) : numB n = [UInt8.ofNat n] := by rw [numB, dif_neg (by omega)]
theorem numB_big {n : Nat} (h : 128 ≤ n) : numB n = UInt8.ofNat (n % 128 + 128) :: numB (n / 128) := by rw [numB, dif_pos h]
theorem u8_nat {n : Nat} (h : n < 256) : (UInt8.ofNat n).toNat = n := by rw [UInt8.toNat_ofNat']; exact Nat.mod_eq_of_lt h
/-- The bytes up to the first one below 128. -/
def vpre : Str → Option Str
  | [] => none
  | b :: s => if b.toNat < 128 then some [b] else (vpre s).map (b :: ·)
def vval : Str → Nat
  | [] => 0
  | b :: s => b.toNat % 128 + 128 * vval s
/-- A number at the front of bytes, and how many bytes it has. -/
def numP (s : Str) : Option (Nat × Nat) := match vpre s with
  | none => none
  | some p => if vval p ≤ 1000000000 ∧ numB (vval p) = p then some (vval p, p.length) else none
def Cont (s : Str) : Prop := ∀ b ∈ s, 128 ≤ b.toNat
theorem vpre_cont : ∀ {p : Str} {s : Str}, Cont p → vpre (p ++ s) = (vpre s).map (p ++ ·)
  | [], s, _ => by rw [List.nil_append]; cases vpre s <;> rfl
  | b :: p, s, h => by
    have hb := h b List.mem_cons_self
    show (if b.toNat < 128 then some [b] else (vpre (p ++ s)).map (b :: ·)) = _
    rw [if_neg (by omega), vpre_cont fun c hc => h c (List.mem_cons_of_mem _ hc), Option.map_map]
    rfl
theorem vpre_stop {p : Str} {b : UInt8} {s : Str} (h : Cont p) (hb : b.toNat < 128) : vpre (p ++ b :: s) = some (p ++ [b]) := by
  rw [vpre_cont h]
  show ((if b.toNat < 128 then some [b] else (vpre s).map (b :: ·)).map (p ++ ·)) = _
  rw [if_pos hb]; rfl
theorem vpre_none {p : Str} (h : Cont p) : vpre p = none := by
  have := vpre_cont (s := []) h
  rw [List.append_nil] at this; exact this
theorem vval_app : ∀ (p s : Str), vval (p ++ s) = vval p + 128 ^ p.length * vval s
  | [], s => by simp [vval]
  | b :: p, s => by
    show b.toNat % 128 + 128 * vval (p ++ s) = b.toNat % 128 + 128 * vval p + 128 ^ (p.length + 1) * vval s
    rw [vval_app p s, Nat.mul_add, Nat.pow_succ, ← Nat.mul_assoc, Nat.mul_comm (128 ^ p.length) 128]; omega
theorem vval_snoc (p : Str) (b : UInt8) : vval (p ++ [b]) = vval p + b.toNat % 128 * 128 ^ p.length := by
  rw [vval_app]; show vval p + 128 ^ p.length * (b.toNat % 128 + 128 * 0) = _; rw [Nat.mul_zero, Nat.add_zero, Nat.mul_comm]
theorem numB_form (n : Nat) : ∃ (p : Str) (b : UInt8), numB n = p ++ [b] ∧ Cont p ∧ b.toNat < 128 := by
  induction n using Nat.strongRecOn with
  | _ n ih =>
    rcases Nat.lt_or_ge n 128 with h | h
    · exact ⟨[], _, numB_small h, fun b hb => by simp at hb, by rw [u8_nat (by omega)]; exact h⟩
    · obtain ⟨p, b, h1, h2, h3⟩ := ih (n / 128) (by omega)
      refine ⟨UInt8.ofNat (n % 128 + 128) :: p, b, by rw [numB_big h, h1]; rfl, fun c hc => ?_, h3⟩
      rcases List.mem_cons.1 hc with rfl | hc
      · rw [u8_nat (by omega)]; omega
      · exact h2 c hc
theorem vpre_numB (n : Nat) (s : Str) : vpre (numB n ++ s) = some (numB n) := by
  obtain ⟨p, b, h1, h2, h3⟩ := numB_form n
  rw [h1, List.append_assoc]
  exact vpre_stop h2 h3
theorem vval_numB (n : Nat) : vval (numB n) = n := by
  induction n using Nat.strongRecOn with
  | _ n ih =>
    rcases Nat.lt_or_ge n 128 with h | h
    · rw [numB_small h]; show (UInt8.ofNat n).toNat % 128 + 128 * 0 = n; rw [u8_nat (by omega)]; omega
    · rw [numB_big h]
      show (UInt8.ofNat (n % 128 + 128)).toNat % 128 + 128 * vval (numB (n / 128)) = n
      rw [u8_nat (by omega), ih (n / 128) (by omega)]; omega
theorem numB_pos (n : Nat) : 1 ≤ (numB n).length := by
  obtain ⟨p, b, h1, _⟩ := numB_form n
  rw [h1]; simp
theorem numB_len {k : Nat} : ∀ {n : Nat}, n < 128 ^ k → 1 ≤ k → (numB n).length ≤ k := by
  induction k with
  | zero => intro n _ h; omega
  | succ k ih =>
    intro n h _
    rcases Nat.lt_or_ge n 128 with h1 | h1
    · rw [numB_small h1]; simp
    · rw [numB_big h1, List.length_cons]
      have hk : 1 ≤ k := by
        rcases Nat.eq_zero_or_pos k with h0 | h0
        · subst h0; simp at h; omega
        · exact h0
      have := ih (n := n / 128) (by rw [Nat.pow_succ] at h; omega) hk
      omega
theorem numB_len5 {n : Nat} (h : n ≤ 1000000000) : (numB n).length ≤ 5 := numB_len (k := 5) (by omega) (by decide)
theorem numP_numB {n : Nat} (h : n ≤ 1000000000) (s : Str) : numP (numB n ++ s) = some (n, (numB n).length) := by
  unfold numP
  rw [vpre_numB]
  simp only [vval_numB]
  rw [if_pos ⟨h, trivial⟩]
theorem vpre_split : ∀ {s p : Str}, vpre s = some p → ∃ q b t, p = q ++ [b] ∧ s = p ++ t ∧ Cont q ∧ b.toNat < 128
  | [], p, h => by cases h
  | c :: s, p, h => by
    unfold vpre at h
    split at h
    · rename_i hc
      injection h with h; subst h
      exact ⟨[], c, s, rfl, rfl, fun b hb => by simp at hb, hc⟩
    · rename_i hc
      cases hs : vpre s with
      | none => rw [hs] at h; cases h
      | some p' =>
        rw [hs] at h
        injection h with h; subst h
        obtain ⟨q, b, t, h1, h2, h3, h4⟩ := vpre_split hs
        refine ⟨c :: q, b, t, by rw [h1]; rfl, by rw [h2]; rfl, fun x hx => ?_, h4⟩
        rcases List.mem_cons.1 hx with rfl | hx
        · omega
        · exact h3 x hx
theorem numP_some {s : Str} {n k : Nat} (h : numP s = some (n, k)) : n ≤ 1000000000 ∧ k = (numB n).length ∧ ∃ t, s = numB n ++ t := by
  unfold numP at h
  cases hs : vpre s with
  | none => rw [hs] at h; cases h
  | some p =>
    rw [hs] at h
    simp only at h
    split at h
    · rename_i hh
      injection h with h
      injection h with h1 h2
      obtain ⟨q, b, t, g1, g2, _⟩ := vpre_split hs
      subst h1
      exact ⟨hh.1, by rw [hh.2, h2], t, by rw [hh.2]; exact g2⟩
    · cases h
theorem numP_len {s : Str} {n k : Nat} (h : numP s = some (n, k)) : k ≤ s.length ∧ 1 ≤ k ∧ k ≤ 5 := by
  obtain ⟨h1, h2, t, h3⟩ := numP_some h
  have := numB_pos n
  have := numB_len5 h1
  rw [h3, List.length_append]; omega
/-- While all bytes read go on: no number if the bytes end, if the value is too great, or if there are more than five. -/
theorem numP_end {p : Str} (h : Cont p) : numP p = none := by unfold numP; rw [vpre_none h]
theorem numP_stop {p : Str} {b : UInt8} {s : Str} (h : Cont p) (hb : b.toNat < 128) : numP (p ++ b :: s) = if vval (p ++ [b]) ≤ 1000000000 ∧ numB (vval (p ++ [b])) = p ++ [b] then some (vval (p ++ [b]), p.length + 1) else none := by
  unfold numP; rw [vpre_stop h hb]
  simp only [List.length_append, List.length_cons, List.length_nil, Nat.zero_add]
theorem numP_great {p : Str} {s : Str} (h : Cont p) (hv : 1000000000 < vval p) : numP (p ++ s) = none := by
  unfold numP
  rw [vpre_cont h]
  cases vpre s with
  | none => rfl
  | some q =>
    simp only [Option.map_some]
    rw [if_neg]
    intro hc
    have := hc.1
    rw [vval_app] at this
    omega
theorem numP_long {p : Str} {s : Str} (h : Cont p) (hl : 5 ≤ p.length) : numP (p ++ s) = none := by
  unfold numP
  rw [vpre_cont h]
  cases hs : vpre s with
  | none => rfl
  | some q =>
    simp only [Option.map_some]
    rw [if_neg]
    intro hc
    obtain ⟨q', b, t, h1, _⟩ := vpre_split hs
    have h2 := numB_len5 hc.1
    rw [hc.2, h1] at h2
    simp only [List.length_append, List.length_cons, List.length_nil] at h2
    omega
theorem cont_ne {p : Str} (h : Cont p) (n : Nat) : numB n ≠ p := by
  intro hc
  obtain ⟨q, b, h1, _, h3⟩ := numB_form n
  have := h b (by rw [← hc, h1]; simp)
  omega
theorem cont_snoc {p : Str} {b : UInt8} (h : Cont p) (hb : 128 ≤ b.toNat) : Cont (p ++ [b]) := fun c hc => by
  rcases List.mem_append.1 hc with hc | hc
  · exact h c hc
  · rw [List.mem_singleton.1 hc]; exact hb
/-! ### A reader: where it is, whether it failed -/
structure TSrc where
  at' : Nat
  bad : Bool
open Go.AV in
def srcC (b : Str) (s : TSrc) : List AV := [AV.str b, AV.int s.at', AV.bool s.bad]
def numA (b : Str) (s : TSrc) : Option (Nat × Nat) := if s.bad = true then none else numP (b.drop s.at')
/-- What a reader of numbers leaves. -/
def NumOk (b : Str) (s : TSrc) (x : TSrc × Nat) : Prop := (s.at' ≤ x.1.at' ∧ x.1.at' ≤ b.length) ∧ x.2 ≤ 1000000000 ∧ match numA b s with
  | some (n, k) => x = (⟨s.at' + k, false⟩, n)
  | none => x.1.bad = true ∧ x.2 = 0
/-- A text at the front of bytes. -/
def textP (s : Str) : Option (Str × Nat) := match numP s with
  | none => none
  | some (n, k) => if n ≤ 60 ∧ k + n ≤ s.length then some ((s.drop k).take n, k + n) else none
def textA (b : Str) (s : TSrc) : Option (Str × Nat) := if s.bad = true then none else textP (b.drop s.at')
def TextOk (b : Str) (s : TSrc) (x : TSrc × Str) : Prop := (s.at' ≤ x.1.at' ∧ x.1.at' ≤ b.length) ∧ x.2.length ≤ 60 ∧ match textA b s with
  | some (t, k) => x = (⟨s.at' + k, false⟩, t)
  | none => x.1.bad = true ∧ x.2 = []
def textB (s : Str) : Str := numB s.length ++ s
theorem textP_textB {t : Str} (h : t.length ≤ 60) (s : Str) : textP (textB t ++ s) = some (t, (textB t).length) := by
  unfold textP textB
  rw [List.append_assoc, numP_numB (by omega)]
  simp only [List.length_append]
  rw [if_pos ⟨h, by omega⟩, List.drop_left, List.take_left]
theorem textP_some {s t : Str} {k : Nat} (h : textP s = some (t, k)) : t.length ≤ 60 ∧ k = (textB t).length ∧ k ≤ s.length ∧ ∃ r, s = textB t ++ r := by
  unfold textP at h
  cases hn : numP s with
  | none => rw [hn] at h; cases h
  | some x =>
    obtain ⟨n, j⟩ := x
    rw [hn] at h
    simp only at h
    split at h
    · rename_i hh
      injection h with h
      injection h with h1 h2
      obtain ⟨g1, g2, r, g3⟩ := numP_some hn
      have hd : s.drop j = r := by rw [g3, g2, List.drop_left]
      rw [hd] at h1
      have hlr : n ≤ r.length := by rw [g3, List.length_append] at hh; omega
      have hl : t.length = n := by rw [← h1, List.length_take]; omega
      refine ⟨by omega, ?_, by omega, r.drop n, ?_⟩
      · unfold textB; rw [List.length_append, hl]; omega
      · unfold textB; rw [hl, ← h1, List.append_assoc, List.take_append_drop]; exact g3
    · cases h
/-- Some texts, one behind the other. -/
def textsN : Nat → Str → Option (List Str × Nat)
  | 0, _ => some ([], 0)
  | n + 1, s => match textP s with
    | none => none
    | some (t, k) => (textsN n (s.drop k)).map fun r => (t :: r.1, k + r.2)
def textsP (s : Str) : Option (List Str × Nat) := match numP s with
  | none => none
  | some (n, k) => if n ≤ 40 then (textsN n (s.drop k)).map fun r => (r.1, k + r.2) else none
def textsA (b : Str) (s : TSrc) : Option (List Str × Nat) := if s.bad = true then none else textsP (b.drop s.at')
def textsB (l : List Str) : Str := numB l.length ++ (l.map textB).flatten
theorem textsN_textsB : ∀ {l : List Str} (s : Str), (∀ t ∈ l, t.length ≤ 60) → textsN l.length ((l.map textB).flatten ++ s) = some (l, (l.map textB).flatten.length)
  | [], s, _ => rfl
  | t :: l, s, h => by
    have hf : ((t :: l).map textB).flatten ++ s = textB t ++ ((l.map textB).flatten ++ s) := by rw [List.map_cons, List.flatten_cons, List.append_assoc]
    rw [hf, List.length_cons]
    unfold textsN
    rw [textP_textB (h t List.mem_cons_self)]
    simp only
    rw [List.drop_left, textsN_textsB s fun x hx => h x (List.mem_cons_of_mem _ hx)]
    simp
theorem textsP_textsB {l : List Str} (h : ∀ t ∈ l, t.length ≤ 60) (hl : l.length ≤ 40) (s : Str) : textsP (textsB l ++ s) = some (l, (textsB l).length) := by
  unfold textsP textsB
  rw [List.append_assoc, numP_numB (by omega)]
  simp only
  rw [if_pos hl, List.drop_left, textsN_textsB s h]
  simp [List.length_append]
theorem numOk_bad {b : Str} {s : TSrc} {x : TSrc × Nat} (h : NumOk b s x) (hb : x.1.bad = true) : numA b s = none := by
  obtain ⟨_, _, h3⟩ := h
  cases hn : numA b s with
  | none => rfl
  | some y => obtain ⟨n, k⟩ := y; rw [hn] at h3; simp only at h3; rw [h3] at hb; cases hb
theorem numOk_good {b : Str} {s : TSrc} {x : TSrc × Nat} (h : NumOk b s x) (hb : x.1.bad = false) : ∃ n k, numA b s = some (n, k) ∧ x = (⟨s.at' + k, false⟩, n) := by
  obtain ⟨_, _, h3⟩ := h
  cases hn : numA b s with
  | none => rw [hn] at h3; rw [h3.1] at hb; cases hb
  | some y => obtain ⟨n, k⟩ := y; rw [hn] at h3; exact ⟨n, k, rfl, h3⟩
theorem numOk_zero {b : Str} {s : TSrc} {x : TSrc × Nat} (h : NumOk b s x) (hb : x.1.bad = true) : x.2 = 0 := by
  have hn := numOk_bad h hb
  obtain ⟨_, _, h3⟩ := h
  rw [hn] at h3; exact h3.2
theorem textOk_bad {b : Str} {s : TSrc} {x : TSrc × Str} (h : TextOk b s x) (hb : x.1.bad = true) : textA b s = none := by
  obtain ⟨_, _, h3⟩ := h
  cases hn : textA b s with
  | none => rfl
  | some y => obtain ⟨n, k⟩ := y; rw [hn] at h3; simp only at h3; rw [h3] at hb; cases hb
theorem textOk_good {b : Str} {s : TSrc} {x : TSrc × Str} (h : TextOk b s x) (hb : x.1.bad = false) : ∃ t k, textA b s = some (t, k) ∧ x = (⟨s.at' + k, false⟩, t) := by
  obtain ⟨_, _, h3⟩ := h
  cases hn : textA b s with
  | none => rw [hn] at h3; rw [h3.1] at hb; cases hb
  | some y => obtain ⟨n, k⟩ := y; rw [hn] at h3; exact ⟨n, k, rfl, h3⟩
def TextsOk (b : Str) (s : TSrc) (t : TSrc) (l : List Str) : Prop := (s.at' ≤ t.at' ∧ t.at' ≤ b.length) ∧ match textsA b s with
  | some (r, k) => t = ⟨s.at' + k, false⟩ ∧ l = r
  | none => t.bad = true
/-- The next bytes, if there are so many. -/
def takeR (b : Str) (s : TSrc) (n : Nat) : TSrc × Str := if (s.bad || decide ((b.length : Int) - (s.at' : Int) < (n : Int))) = true then (⟨s.at', true⟩, []) else (⟨s.at' + n, false⟩, (b.drop s.at').take n)
theorem takeR_bad {b : Str} {s : TSrc} {n : Nat} (h : s.bad = true) : takeR b s n = (⟨s.at', true⟩, []) := by unfold takeR; rw [if_pos (by rw [h]; rfl)]
theorem takeR_one {b : Str} {s : TSrc} (h : s.bad = false) (hs : s.at' ≤ b.length) : (b.drop s.at' = [] ∧ takeR b s 1 = (⟨s.at', true⟩, [])) ∨ ∃ c r, b.drop s.at' = c :: r ∧ takeR b s 1 = (⟨s.at' + 1, false⟩, [c]) := by
  have hl : (b.drop s.at').length = b.length - s.at' := List.length_drop
  unfold takeR
  rw [h, Bool.false_or]
  cases hd : b.drop s.at' with
  | nil =>
    rw [hd] at hl
    simp only [List.length_nil] at hl
    exact .inl ⟨rfl, by rw [if_pos (decide_eq_true (by omega))]⟩
  | cons c r =>
    rw [hd] at hl
    simp only [List.length_cons] at hl
    exact .inr ⟨c, r, rfl, by rw [if_neg (by rw [decide_eq_true_eq]; omega)]; rfl⟩
theorem textA_take {b : Str} {s : TSrc} {n k : Nat} (h : numA b s = some (n, k)) (hs : s.at' ≤ b.length) : textA b s = if n ≤ 60 ∧ k + n ≤ (b.drop s.at').length then some (((b.drop s.at').drop k).take n, k + n) else none := by
  unfold numA at h
  unfold textA textP
  cases hb : s.bad with
  | true => rw [hb] at h; cases h
  | false => rw [hb] at h; simp only [Bool.false_eq_true, if_false] at h ⊢; rw [h]
theorem textA_none {b : Str} {s : TSrc} (h : numA b s = none) : textA b s = none := by
  unfold numA at h
  unfold textA textP
  cases hb : s.bad with
  | true => rfl
  | false => rw [hb] at h; simp only [Bool.false_eq_true, if_false] at h ⊢; rw [h]
theorem textsA_num {b : Str} {s : TSrc} {n k : Nat} (h : numA b s = some (n, k)) : textsA b s = if n ≤ 40 then (textsN n ((b.drop s.at').drop k)).map (fun r => (r.1, k + r.2)) else none := by
  unfold numA at h
  unfold textsA textsP
  cases hb : s.bad with
  | true => rw [hb] at h; cases h
  | false => rw [hb] at h; simp only [Bool.false_eq_true, if_false] at h ⊢; rw [h]
theorem textsA_none {b : Str} {s : TSrc} (h : numA b s = none) : textsA b s = none := by
  unfold numA at h
  unfold textsA textsP
  cases hb : s.bad with
  | true => rfl
  | false => rw [hb] at h; simp only [Bool.false_eq_true, if_false] at h ⊢; rw [h]
/-- What holds while texts are read: m are still to come. -/
def RunOk (b : Str) (s : TSrc) (t : TSrc) (l : List Str) (m : Nat) : Prop := (s.at' ≤ t.at' ∧ t.at' ≤ b.length) ∧ ((t.bad = true ∧ textsA b s = none) ∨ (t.bad = false ∧ textsA b s = (textsN m (b.drop t.at')).map fun r => (l ++ r.1, (t.at' - s.at') + r.2)))
theorem runOk_end {b : Str} {s t : TSrc} {l : List Str} (h : RunOk b s t l 0) : TextsOk b s t l := by
  obtain ⟨h1, h2⟩ := h
  refine ⟨h1, ?_⟩
  rcases h2 with ⟨h2, h3⟩ | ⟨h2, h3⟩
  · rw [h3]; exact h2
  · rw [h3]
    show t = ⟨s.at' + ((t.at' - s.at') + 0), false⟩ ∧ l = l ++ []
    refine ⟨?_, by rw [List.append_nil]⟩
    obtain ⟨ta, tb⟩ := t
    simp only at h2 h1
    rw [h2]
    show (⟨ta, false⟩ : TSrc) = ⟨s.at' + ((ta - s.at') + 0), false⟩
    rw [show s.at' + ((ta - s.at') + 0) = ta by omega]
theorem runOk_bad {b : Str} {s t : TSrc} {l : List Str} {m : Nat} (h : RunOk b s t l m) (hb : t.bad = true) : TextsOk b s t l := by
  obtain ⟨h1, h2⟩ := h
  refine ⟨h1, ?_⟩
  rcases h2 with ⟨h2, h3⟩ | ⟨h2, h3⟩
  · rw [h3]; exact h2
  · rw [h2] at hb; cases hb
theorem runOk_step {b : Str} {s t : TSrc} {l : List Str} {m : Nat} {x : TSrc × Str} (h : RunOk b s t l (m + 1)) (hb : t.bad = false) (hx : TextOk b t x) : RunOk b s x.1 (l ++ [x.2]) m := by
  obtain ⟨h1, h2⟩ := h
  have hxx := hx
  obtain ⟨g1, g2, g3⟩ := hx
  refine ⟨by omega, ?_⟩
  rcases h2 with ⟨h2, h3⟩ | ⟨h2, h3⟩
  · rw [h2] at hb; cases hb
  · have ht : textA b t = textP (b.drop t.at') := by unfold textA; rw [hb]; rfl
    cases hq : textP (b.drop t.at') with
    | none =>
      rw [ht, hq] at g3
      refine .inl ⟨g3.1, ?_⟩
      rw [h3]; unfold textsN; rw [hq]; rfl
    | some y =>
      obtain ⟨u, k⟩ := y
      rw [ht, hq] at g3
      simp only at g3
      subst g3
      refine .inr ⟨rfl, ?_⟩
      rw [h3]
      conv => lhs; unfold textsN
      rw [hq]
      simp only [Option.map_map, List.drop_drop]
      congr 1
      funext r
      simp only [Function.comp_apply, List.append_assoc, List.singleton_append]
      rw [show t.at' - s.at' + (k + r.2) = t.at' + k - s.at' + r.2 by omega]
theorem numP_over {p r : Str} {c : UInt8} (hcp : Cont p) (h : 1000000000 < vval (p ++ [c]) ∨ 5 ≤ p.length) : numP (p ++ c :: r) = none := by
  rcases Nat.lt_or_ge c.toNat 128 with hc | hc
  · rw [numP_stop hcp hc, if_neg]
    intro hh
    rcases h with h | h
    · omega
    · have h5 := numB_len5 hh.1
      rw [hh.2, List.length_append] at h5
      simp only [List.length_cons, List.length_nil] at h5
      omega
  · rcases h with h | h
    · have := numP_great (s := r) (cont_snoc hcp hc) h
      rwa [List.append_assoc] at this
    · exact numP_long hcp h
theorem vval_lt : ∀ (p : Str), vval p < 128 ^ p.length
  | [] => by decide
  | c :: p => by
    have := vval_lt p
    show c.toNat % 128 + 128 * vval p < 128 ^ (p.length + 1)
    rw [Nat.pow_succ]; omega
def oneR (b : Str) (s : TSrc) : TSrc × Nat := if (s.bad || decide ((b.length : Int) ≤ (s.at' : Int))) = true then (⟨s.at', true⟩, 0) else (⟨s.at' + 1, false⟩, (b.getD s.at' 0).toNat)
theorem oneR_bad {b : Str} {s : TSrc} (h : s.bad = true) : oneR b s = (⟨s.at', true⟩, 0) := by unfold oneR; rw [if_pos (by rw [h]; rfl)]
theorem oneR_one {b : Str} {s : TSrc} (h : s.bad = false) (hs : s.at' ≤ b.length) : (b.drop s.at' = [] ∧ oneR b s = (⟨s.at', true⟩, 0)) ∨ ∃ c r, b.drop s.at' = c :: r ∧ oneR b s = (⟨s.at' + 1, false⟩, c.toNat) := by
  have hl : (b.drop s.at').length = b.length - s.at' := List.length_drop
  unfold oneR
  rw [h, Bool.false_or]
  cases hd : b.drop s.at' with
  | nil =>
    rw [hd] at hl
    simp only [List.length_nil] at hl
    exact .inl ⟨rfl, by rw [if_pos (decide_eq_true (by omega))]⟩
  | cons c r =>
    rw [hd] at hl
    simp only [List.length_cons] at hl
    refine .inr ⟨c, r, rfl, ?_⟩
    rw [if_neg (by rw [decide_eq_true_eq]; omega)]
    have : b[s.at']? = some c := by
      have h9 : (b.drop s.at')[0]? = some c := by rw [hd]; rfl
      rwa [List.getElem?_drop, Nat.add_zero] at h9
    rw [List.getD_eq_getElem?_getD, this]; rfl
theorem runOk_start {b : Str} {s : TSrc} {x : TSrc × Nat} (h : NumOk b s x) (hn : x.2 ≤ 40) : RunOk b s x.1 [] x.2 := by
  refine ⟨h.1, ?_⟩
  cases hb : x.1.bad with
  | true => exact .inl ⟨rfl, textsA_none (numOk_bad h hb)⟩
  | false =>
    obtain ⟨n, k, h1, h2⟩ := numOk_good h hb
    subst h2
    refine .inr ⟨rfl, ?_⟩
    rw [textsA_num h1, if_pos hn, List.drop_drop]
    simp only [List.nil_append, Nat.add_sub_cancel_left]
theorem runOk_big {b : Str} {s : TSrc} {x : TSrc × Nat} (h : NumOk b s x) (hn : 40 < x.2) (m : Nat) : RunOk b s ⟨x.1.at', true⟩ [] m := by
  refine ⟨h.1, .inl ⟨rfl, ?_⟩⟩
  cases hb : x.1.bad with
  | true => have := numOk_zero h hb; omega
  | false =>
    obtain ⟨n, k, h1, h2⟩ := numOk_good h hb
    subst h2
    rw [textsA_num h1, if_neg (by simp only at hn; omega)]
theorem textsOk_bad {b : Str} {s t : TSrc} {l : List Str} (h : TextsOk b s t l) (hb : t.bad = true) : textsA b s = none := by
  obtain ⟨_, h2⟩ := h
  cases hn : textsA b s with
  | none => rfl
  | some y => obtain ⟨n, k⟩ := y; rw [hn] at h2; simp only at h2; rw [h2.1] at hb; cases hb
theorem textsOk_good {b : Str} {s t : TSrc} {l : List Str} (h : TextsOk b s t l) (hb : t.bad = false) : ∃ k, textsA b s = some (l, k) ∧ t = ⟨s.at' + k, false⟩ := by
  obtain ⟨_, h2⟩ := h
  cases hn : textsA b s with
  | none => rw [hn] at h2; rw [h2] at hb; cases hb
  | some y => obtain ⟨n, k⟩ := y; rw [hn] at h2; simp only at h2; rw [h2.2]; exact ⟨k, rfl, h2.1⟩
def placeB (b : Str) (at' : Int) : Bool := decide ((b.length : Int) ≤ 6000) && within at' 0 b.length
def readNumR (b : Str) (at' : Int) : Int × Int × Bool := if (!placeB b at') = true then (0, 0, false) else match numP (b.drop at'.toNat) with
  | some (n, k) => ((n : Int), at' + k, true)
  | none => (0, 0, false)
def readTextR (b : Str) (at' : Int) : Str × Int × Bool := if (!placeB b at') = true then ([], 0, false) else match textP (b.drop at'.toNat) with
  | some (t, k) => (t, at' + k, true)
  | none => ([], 0, false)
def readTextsR (b : Str) (at' : Int) : List Str × Int × Bool := if (!placeB b at') = true then ([], 0, false) else match textsP (b.drop at'.toNat) with
  | some (l, k) => (l, at' + k, true)
  | none => ([], 0, false)
theorem placeB_nat {b : Str} {at' : Int} (h : placeB b at' = true) : b.length ≤ 6000 ∧ 0 ≤ at' ∧ at' ≤ b.length := by
  unfold placeB at h
  simp only [Bool.and_eq_true, decide_eq_true_eq] at h
  have h2 := h.2
  unfold within at h2
  simp at h2
  omega
theorem readNumR_of {b : Str} {k : Nat} (h : placeB b k = true) : readNumR b k = match numP (b.drop k) with
  | some (n, j) => ((n : Int), (k : Int) + j, true)
  | none => (0, 0, false) := by unfold readNumR; rw [h]; rfl
theorem readTextR_of {b : Str} {k : Nat} (h : placeB b k = true) : readTextR b k = match textP (b.drop k) with
  | some (n, j) => (n, (k : Int) + j, true)
  | none => ([], 0, false) := by unfold readTextR; rw [h]; rfl
theorem readTextsR_of {b : Str} {k : Nat} (h : placeB b k = true) : readTextsR b k = match textsP (b.drop k) with
  | some (n, j) => (n, (k : Int) + j, true)
  | none => ([], 0, false) := by unfold readTextsR; rw [h]; rfl
def numBytesR (n : Int) : Str × Bool := if (!within n 0 1000000000) = true then ([], false) else (numB n.toNat, true)
def textBytesR (s : Str) : Str × Bool := if decide ((60 : Int) < s.length) = true then ([], false) else (textB s, true)
def longT (t : Str) : Bool := decide ((60 : Int) < t.length)
def textsBytesR (l : List Str) : Str × Bool := if (decide ((40 : Int) < l.length) || l.any longT) = true then ([], false) else (textsB l, true)
theorem textOk_s {b : Str} {s : TSrc} {x : TSrc × Nat} (hs : s.at' ≤ b.length) (h : NumOk b s x) :
    (((x.1.bad || decide ((60 : Int) < (x.2 : Int))) || decide ((b.length : Int) < (x.1.at' : Int) + (x.2 : Int))) = true → TextOk b s (⟨x.1.at', true⟩, [])) ∧
    (((x.1.bad || decide ((60 : Int) < (x.2 : Int))) || decide ((b.length : Int) < (x.1.at' : Int) + (x.2 : Int))) = false → TextOk b s (⟨x.1.at' + x.2, false⟩, (b.drop x.1.at').take x.2) ∧ x.1.bad = false ∧ x.1.at' + x.2 ≤ b.length ∧ x.2 ≤ 60) := by
  have h0 := h.1
  cases hb : x.1.bad with
  | true =>
    refine ⟨fun _ => ⟨h0, Nat.zero_le _, by rw [textA_none (numOk_bad h hb)]; exact ⟨rfl, rfl⟩⟩, fun hc => by simp at hc⟩
  | false =>
    obtain ⟨n, k, h1, h2⟩ := numOk_good h hb
    subst h2
    simp only at h0 ⊢
    have hl : (b.drop s.at').length = b.length - s.at' := List.length_drop
    have ht := textA_take h1 hs
    refine ⟨fun hc => ⟨h0, Nat.zero_le _, ?_⟩, fun hc => ?_⟩
    · rw [if_neg] at ht
      · rw [ht]; exact ⟨rfl, rfl⟩
      · intro hh
        simp only [Bool.false_or, Bool.or_eq_true, decide_eq_true_eq] at hc
        omega
    · simp only [Bool.false_or, Bool.or_eq_false_iff, decide_eq_false_iff_not] at hc
      rw [if_pos (by omega), List.drop_drop] at ht
      refine ⟨⟨⟨by show s.at' ≤ s.at' + k + n; omega, by show s.at' + k + n ≤ b.length; omega⟩, ?_, ?_⟩, by trivial, by omega, by omega⟩
      · show ((b.drop (s.at' + k)).take n).length ≤ 60
        rw [List.length_take]; omega
      · rw [ht]
        show ((⟨s.at' + k + n, false⟩ : TSrc), (b.drop (s.at' + k)).take n) = (⟨s.at' + (k + n), false⟩, (b.drop (s.at' + k)).take n)
        rw [Nat.add_assoc]
theorem numA_new {b : Str} {k : Nat} : numA b ⟨k, false⟩ = numP (b.drop k) := rfl
theorem textA_new {b : Str} {k : Nat} : textA b ⟨k, false⟩ = textP (b.drop k) := rfl
theorem textsA_new {b : Str} {k : Nat} : textsA b ⟨k, false⟩ = textsP (b.drop k) := rfl
end Go.M

set_option linter.unusedVariables false
set_option linter.unusedSimpArgs false
set_option maxRecDepth 100000
namespace Go.M
open Go.AV
theorem wrap_u8 (m : Nat) : IntKind.u8.wrap (m : Int) = ((UInt8.ofNat m).toNat : Int) := by
  rw [UInt8.toNat_ofNat']
  unfold IntKind.wrap
  simp [IntKind.bits, IntKind.signed]
theorem tmod_nat (m k : Nat) : ((m : Int).tmod (k : Int)) = ((m % k : Nat) : Int) := (Int.ofNat_tmod m k).symm
theorem tdiv_nat (m k : Nat) : ((m : Int).tdiv (k : Int)) = ((m / k : Nat) : Int) := (Int.ofNat_tdiv m k).symm
theorem wrap_nat {m : Nat} (h : m ≤ 9223372036854775807) : IntKind.i64.wrap (m : Int) = (m : Int) := in64 (by omega)
theorem byte_hi (m : Nat) : IntKind.u8.wrap (IntKind.u8.wrap ((m : Int).tmod 128) + 128) = ((UInt8.ofNat (m % 128 + 128)).toNat : Int) := by
  have h1 := tmod_nat m 128
  rw [show ((128 : Nat) : Int) = 128 from rfl] at h1
  rw [h1, wrap_u8, u8_nat (by omega)]
  have := wrap_u8 (m % 128 + 128)
  rw [← this]; simp
theorem byte_hi2 (m : Nat) : IntKind.u8.wrap ((m : Int).tmod 128 + 128) = ((UInt8.ofNat (m % 128 + 128)).toNat : Int) := by
  have h1 := tmod_nat m 128
  rw [show ((128 : Nat) : Int) = 128 from rfl] at h1
  rw [h1]
  have := wrap_u8 (m % 128 + 128)
  rw [← this]; simp
theorem quo_nat {m : Nat} (h : m ≤ 9223372036854775807) : IntKind.i64.wrap ((m : Int).tdiv 128) = ((m / 128 : Nat) : Int) := by
  have h1 := tdiv_nat m 128
  rw [show ((128 : Nat) : Int) = 128 from rfl] at h1
  rw [h1, wrap_nat (by omega)]
theorem numB_len9 {n : Nat} (h : n ≤ 4611686018427387904) : (numB n).length ≤ 9 := numB_len (k := 9) (by omega) (by decide)
end Go.M
namespace Go.Proofs.YtdgoejkijpllpaaDoor
open Go Go.AV Go.M
attribute [local irreducible] OpW OpA OpS AWP FSpec ESpec GSpec OpE RetOk RetOkG RvDen Le Ev GuardIs SrcIs Int.tmod Int.tdiv IntKind.wrap
end Go.Proofs.YtdgoejkijpllpaaDoor

set_option linter.unusedVariables false
set_option linter.unusedSimpArgs false
set_option maxRecDepth 100000
namespace Go.M
open Go.AV
theorem rem_byte (c : UInt8) : IntKind.i64.wrap ((c.toNat : Int).tmod 128) = ((c.toNat % 128 : Nat) : Int) := by
  have h1 := tmod_nat c.toNat 128
  rw [show ((128 : Nat) : Int) = 128 from rfl] at h1
  rw [h1]; exact wrap_nat (by omega)
theorem vval_next (p : Str) (c : UInt8) : ((vval p : Nat) : Int) + ((c.toNat % 128 : Nat) : Int) * ((128 ^ p.length : Nat) : Int) = ((vval (p ++ [c]) : Nat) : Int) := by
  rw [vval_snoc]; simp
theorem pow_le5 {p : Str} (h : p.length ≤ 5) : 128 ^ p.length ≤ 34359738368 := Nat.le_trans (Nat.pow_le_pow_right (by decide) h) (by decide)
theorem mul_bd {a b : Nat} (ha : a ≤ 127) (hb : b ≤ 34359738368) : -9223372036854775808 ≤ ((a : Nat) : Int) * ((b : Nat) : Int) ∧ ((a : Nat) : Int) * ((b : Nat) : Int) ≤ 4363686772736 := by
  have h := Nat.mul_le_mul ha hb
  have h2 : ((a : Nat) : Int) * ((b : Nat) : Int) = ((a * b : Nat) : Int) := by simp
  rw [h2]; omega
theorem pow_next (p : Str) (c : UInt8) : ((128 ^ p.length : Nat) : Int) * 128 = ((128 ^ (p ++ [c]).length : Nat) : Int) := by
  rw [List.length_append, List.length_cons, List.length_nil, Nat.zero_add, Nat.pow_succ]; simp
theorem drop_more {b p r : Str} {a : Nat} {c : UInt8} (h : b.drop a = p ++ c :: r) : b.drop a = (p ++ [c]) ++ r := by rw [h, List.append_assoc]; rfl
theorem drop_at {b p r : Str} {a : Nat} (h : b.drop a = p ++ r) : b.drop (a + p.length) = r := by rw [← List.drop_drop, h, List.drop_left]
theorem take_drop_at {b p r : Str} {a : Nat} (h : b.drop a = p ++ r) : (b.take (a + p.length)).drop a = p := by
  rw [List.drop_take, h, Nat.add_sub_cancel_left, List.take_left]
/-- The number read so far ends here: what the reader says of it. -/
theorem numOk_none {b : Str} {s t : TSrc} (h1 : s.at' ≤ t.at' ∧ t.at' ≤ b.length) (h2 : t.bad = true) (h3 : numA b s = none) : NumOk b s (t, 0) := ⟨h1, Nat.zero_le _, by rw [h3]; exact ⟨h2, rfl⟩⟩
theorem numA_good {b : Str} {s : TSrc} (h : s.bad = false) : numA b s = numP (b.drop s.at') := by unfold numA; rw [h]; rfl
theorem numA_bad {b : Str} {s : TSrc} (h : s.bad = true) : numA b s = none := by unfold numA; rw [h]; rfl
theorem textOk_big {b : Str} {s : TSrc} {x : TSrc × Nat} (hs : s.at' ≤ b.length) (h : NumOk b s x) (hn : 60 < x.2) : TextOk b s (⟨x.1.at', true⟩, []) := by
  refine ⟨h.1, Nat.zero_le _, ?_⟩
  have hb : x.1.bad = false := by
    cases hb : x.1.bad with
    | false => rfl
    | true => have := numOk_zero h hb; omega
  obtain ⟨n, k, h1, h2⟩ := numOk_good h hb
  rw [textA_take h1 hs, if_neg (by rw [h2] at hn; simp only at hn; omega)]
  exact ⟨rfl, rfl⟩
theorem textOk_take {b : Str} {s : TSrc} {x : TSrc × Nat} (hs : s.at' ≤ b.length) (h : NumOk b s x) (hn : x.2 ≤ 60) : TextOk b s (takeR b x.1 x.2) := by
  have h0 := h.1
  cases hb : x.1.bad with
  | true =>
    rw [takeR_bad hb]
    exact ⟨h0, Nat.zero_le _, by rw [textA_none (numOk_bad h hb)]; exact ⟨rfl, rfl⟩⟩
  | false =>
    obtain ⟨n, k, h1, h2⟩ := numOk_good h hb
    subst h2
    simp only at hn h0 ⊢
    have hl : (b.drop s.at').length = b.length - s.at' := List.length_drop
    have ht := textA_take h1 hs
    unfold takeR
    by_cases hc : k + n ≤ (b.drop s.at').length
    · rw [if_pos ⟨hn, hc⟩, List.drop_drop] at ht
      rw [if_neg (by rw [Bool.false_or, decide_eq_true_eq]; simp only; omega)]
      refine ⟨⟨by show s.at' ≤ s.at' + k + n; omega, by show s.at' + k + n ≤ b.length; omega⟩, ?_, ?_⟩
      · show ((b.drop (s.at' + k)).take n).length ≤ 60
        rw [List.length_take]; omega
      · rw [ht]
        show ((⟨s.at' + k + n, false⟩ : TSrc), (b.drop (s.at' + k)).take n) = (⟨s.at' + (k + n), false⟩, (b.drop (s.at' + k)).take n)
        rw [Nat.add_assoc]
    · rw [if_neg (fun hh => hc hh.2)] at ht
      rw [if_pos (by rw [Bool.false_or, decide_eq_true_eq]; simp only; omega)]
      exact ⟨h0, Nat.zero_le _, by rw [ht]; exact ⟨rfl, rfl⟩⟩
theorem one_case {b p r0 : Str} {s t : TSrc} {xv : Nat} (hcp : Cont p) (hr0 : b.drop s.at' = p ++ r0) (hpl2 : s.at' + p.length ≤ b.length) (ht : (oneR b ⟨s.at' + p.length, s.bad⟩).1 = t) (hxv : (oneR b ⟨s.at' + p.length, s.bad⟩).2 = xv) :
    (t = ⟨s.at' + p.length, true⟩ ∧ xv = 0 ∧ numA b s = none) ∨ ∃ c r, r0 = c :: r ∧ t = ⟨s.at' + p.length + 1, false⟩ ∧ xv = c.toNat ∧ s.bad = false := by
  cases hsb : s.bad with
  | true =>
    rw [hsb, oneR_bad rfl] at ht hxv
    exact .inl ⟨ht.symm, hxv.symm, numA_bad hsb⟩
  | false =>
    rw [hsb] at ht hxv
    rcases oneR_one (b := b) (s := ⟨s.at' + p.length, false⟩) rfl hpl2 with ⟨g1, g2⟩ | ⟨c, r, g1, g2⟩
    · rw [g2] at ht hxv
      rw [drop_at hr0] at g1
      exact .inl ⟨ht.symm, hxv.symm, by rw [numA_good hsb, hr0, g1, List.append_nil]; exact numP_end hcp⟩
    · rw [g2] at ht hxv
      rw [drop_at hr0] at g1
      exact .inr ⟨c, r, g1, ht.symm, hxv.symm, rfl⟩
theorem one_bounds {b p r0 : Str} {s t : TSrc} {xv : Nat} (hpl2 : s.at' + p.length ≤ b.length) (hcase : (t = ⟨s.at' + p.length, true⟩ ∧ xv = 0 ∧ numA b s = none) ∨ ∃ c r, r0 = c :: r ∧ t = ⟨s.at' + p.length + 1, false⟩ ∧ xv = c.toNat ∧ s.bad = false) (hr0 : b.drop s.at' = p ++ r0) : s.at' ≤ t.at' ∧ t.at' ≤ b.length := by
  rcases hcase with ⟨h1, _⟩ | ⟨c, r, h1, h2, _⟩
  · rw [h1]; exact ⟨by show s.at' ≤ s.at' + p.length; omega, hpl2⟩
  · have h9 := congrArg List.length hr0
    rw [h1, List.length_drop, List.length_append, List.length_cons] at h9
    rw [h2]
    exact ⟨by show s.at' ≤ s.at' + p.length + 1; omega, by show s.at' + p.length + 1 ≤ b.length; omega⟩
theorem num_case {b p r0 : Str} {s t : TSrc} {xv V : Nat} (hcp : Cont p) (hr0 : b.drop s.at' = p ++ r0) (hcase : (t = ⟨s.at' + p.length, true⟩ ∧ xv = 0 ∧ numA b s = none) ∨ ∃ c r, r0 = c :: r ∧ t = ⟨s.at' + p.length + 1, false⟩ ∧ xv = c.toNat ∧ s.bad = false) (hx : xv < 128) (hV : vval p + xv % 128 * 128 ^ p.length = V) (htb : s.at' ≤ t.at' ∧ t.at' ≤ b.length) :
    (((t.bad || decide ((1000000000 : Int) < (V : Int))) || (numB V != (b.take t.at').drop s.at')) = true → numA b s = none) ∧ (((t.bad || decide ((1000000000 : Int) < (V : Int))) || (numB V != (b.take t.at').drop s.at')) = false → NumOk b s (t, V)) := by
  rcases hcase with ⟨h1, _, h3⟩ | ⟨c, r, h1, h2, h3, h4⟩
  · exact ⟨fun _ => h3, fun h => by rw [h1] at h; simp at h⟩
  · have hd1 : b.drop s.at' = p ++ c :: r := by rw [hr0, h1]
    have hd2 := drop_more hd1
    have hVc : V = vval (p ++ [c]) := by rw [← hV, h3, vval_snoc]
    have hsl : (b.take t.at').drop s.at' = p ++ [c] := by
      rw [h2]
      show (b.take (s.at' + p.length + 1)).drop s.at' = _
      rw [show s.at' + p.length + 1 = s.at' + (p ++ [c]).length by simp; omega]
      exact take_drop_at hd2
    have hst := numP_stop (s := r) hcp (show c.toNat < 128 by omega)
    rw [← hd1, ← numA_good h4, ← hVc] at hst
    rw [hsl]
    have hbad : t.bad = false := by rw [h2]
    rw [hbad, Bool.false_or]
    refine ⟨fun h => ?_, fun h => ?_⟩
    · rw [hst, if_neg]
      intro hh
      rw [hh.2] at h
      simp at h; omega
    · simp only [Bool.or_eq_false_iff, decide_eq_false_iff_not, bne_eq_false_iff_eq] at h
      rw [if_pos ⟨by omega, h.2⟩] at hst
      exact ⟨htb, by show V ≤ _; omega, by rw [hst, h2]; rfl⟩
theorem num_five {b p r0 : Str} {s t : TSrc} {V : Nat} (hcp : Cont p) (hr0 : b.drop s.at' = p ++ r0) (h5 : p.length = 5) (hpb : p ≠ [] → s.bad = false) (ht : (⟨s.at' + p.length, s.bad⟩ : TSrc) = t) (hV : vval p = V) :
    (((t.bad || decide ((1000000000 : Int) < (V : Int))) || (numB V != (b.take t.at').drop s.at')) = true → numA b s = none) ∧ (((t.bad || decide ((1000000000 : Int) < (V : Int))) || (numB V != (b.take t.at').drop s.at')) = false → NumOk b s (t, V)) := by
  have hsb := hpb (by intro hc; rw [hc] at h5; cases h5)
  refine ⟨fun _ => by rw [numA_good hsb, hr0]; exact numP_long hcp (by omega), fun h => ?_⟩
  exfalso
  have hsl : (b.take t.at').drop s.at' = p := by rw [← ht]; exact take_drop_at hr0
  rw [hsl] at h
  simp only [Bool.or_eq_false_iff, bne_eq_false_iff_eq] at h
  exact cont_ne hcp V h.2
end Go.M
namespace Go.Proofs.YtdgoejkijpllpaaDoor
open Go Go.AV Go.M
attribute [local irreducible] OpW OpA OpS AWP FSpec ESpec GSpec OpE RetOk RetOkG RvDen Le Ev GuardIs SrcIs Int.tmod Int.tdiv IntKind.wrap
end Go.Proofs.YtdgoejkijpllpaaDoor

set_option linter.unusedVariables false
set_option linter.unusedSimpArgs false
set_option maxRecDepth 100000
namespace Go.M
open Go.AV
theorem textB_len {t : Str} (h : t.length ≤ 4611686018427387904) : (textB t).length ≤ 9 + t.length := by
  unfold textB; rw [List.length_append]; have := numB_len9 h; omega
theorem flatB_len : ∀ {l : List Str}, (∀ t ∈ l, t.length ≤ 1048576) → ((l.map textB).flatten).length ≤ 10 * sizeL (fun x : Str => x.length) l
  | [], _ => Nat.zero_le _
  | t :: l, h => by
    have h1 := flatB_len (l := l) fun x hx => h x (List.mem_cons_of_mem _ hx)
    have h2 := h t List.mem_cons_self
    have h3 := textB_len (t := t) (by omega)
    unfold sizeL at h1 ⊢
    simp only [List.map_cons, List.flatten_cons, List.length_append, List.length_cons, List.sum_cons] at h1 ⊢
    omega
theorem takeB_next {l : List Str} {i : Nat} {x : Str} (h : l[i]? = some x) : ((l.take (i + 1)).map textB).flatten = ((l.take i).map textB).flatten ++ textB x := by
  rw [List.take_add_one, h]; simp
theorem sizeT_take {l : List Str} (i : Nat) : sizeL (fun x : Str => x.length) (l.take i) ≤ sizeL (fun x : Str => x.length) l := by
  have h : l = l.take i ++ l.drop i := (List.take_append_drop i l).symm
  unfold sizeL
  conv => rhs; rw [h]
  simp only [List.length_append, List.map_append, List.sum_append]
  omega
theorem sizeT_mem {l : List Str} {x : Str} (h : x ∈ l) : x.length ≤ sizeL (fun x : Str => x.length) l := sizeL_mem (f := fun x : Str => x.length) h
theorem textsB_len {l : List Str} (h : sizeL (fun x : Str => x.length) l ≤ 1048576) (i : Nat) : (numB l.length ++ ((l.take i).map textB).flatten).length ≤ 9 + 10485760 := by
  have h1 := sizeL_len (f := fun x : Str => x.length) (l := l)
  have h2 := numB_len9 (n := l.length) (by omega)
  have h3 := flatB_len (l := l.take i) fun t ht => Nat.le_trans (sizeT_mem (List.mem_of_mem_take ht)) h
  have h4 := sizeT_take (l := l) i
  rw [List.length_append]; omega
end Go.M
namespace Go.Proofs.YtdgoejkijpllpaaDoor
open Go Go.AV Go.M
attribute [local irreducible] OpW OpA OpS AWP FSpec ESpec GSpec OpE RetOk RetOkG RvDen Le Ev GuardIs SrcIs Int.tmod Int.tdiv IntKind.wrap
end Go.Proofs.YtdgoejkijpllpaaDoor

set_option linter.unusedVariables false
set_option linter.unusedSimpArgs false
namespace Go.M
open Go.AV
/-- What a reader of choices holds: where it is, its seed. -/
structure TCur where
  p : Nat
  seed : Int
def bytesI (l : List Int) : AV := AV.list 1 (l.map fun x => [AV.ik .u8 x])
def curC (code : List Int) (c : TCur) : List AV := [bytesI code, AV.int c.p, AV.ik .u64 c.seed]
def ByteL (code : List Int) : Prop := ∀ x ∈ code, 0 ≤ x ∧ x ≤ 255
theorem byteL_of {l : List Int} (h : ∀ x ∈ l, (Lit.int .u8 x).wf = true) : ByteL l := fun x hx => by
  have := h x hx
  simp only [Lit.wf, IntKind.min, IntKind.max, IntKind.signed, IntKind.bits] at this
  simp at this
  omega
theorem wrapS {x : Int} (h : 0 ≤ x ∧ x ≤ 255) : IntKind.i64.wrap x = x := in64 (by omega)
theorem bandI_255 (x : Int) : 0 ≤ bandI x 255 ∧ bandI x 255 ≤ 255 := by
  unfold bandI
  have h1 : (BitVec.ofInt IntKind.u64.bits x &&& BitVec.ofInt IntKind.u64.bits 255).toNat ≤ 255 := by
    rw [BitVec.toNat_and]
    exact Nat.le_trans Nat.and_le_right (by decide)
  generalize (BitVec.ofInt IntKind.u64.bits x &&& BitVec.ofInt IntKind.u64.bits 255).toNat = n at h1
  unfold IntKind.wrap
  simp [IntKind.bits, IntKind.signed]
  omega
def bigB (code more : List Int) : Bool := decide ((1048576 : Int) < code.length) || decide ((1048576 : Int) - code.length < more.length)
end Go.M

set_option linter.unusedVariables false
set_option linter.unusedSimpArgs false
set_option maxRecDepth 100000
namespace Go.Proofs.YtdgoejkijpllpaaDoor
open Go Go.AV Go.M
attribute [local irreducible] OpW OpA OpS AWP FSpec ESpec GSpec OpE RetOk RetOkG RvDen Le Ev GuardIs SrcIs Int.tmod IntKind.wrap bandI
theorem curNext_own (b : Nat) (code : List Int) (hcode : ByteL code) (c : TCur) (hp : c.p ≤ 8000000) : GSpec Tryd.prog 91 [AV.ptr b 0] [.box b 72 (curC code c)] (fun x : TCur × Int => x.1.p ≤ c.p + 1 ∧ 0 ≤ x.2 ∧ x.2 ≤ 255) (fun x => [.box b 72 (curC code x.1)]) (fun x => AV.int x.2) := by
  have hcb := hcode
  refine gspec_of_awp Tryd.func91 rfl Tryd.ntmps91 rfl ?_
  refine awp_seq ?_
  refine awp_region ?_
  refine sq_plain rfl rfl rfl (w_assign rfl ev_ci) ?_
  refine sq_nil ?_
  refine awp_seq ?_
  refine awp_region ?_
  try rw [wrapS hzb]
  refine sq_plain rfl rfl rfl (w_assign rfl ev_ci) ?_
  refine sq_nil ?_
  refine awp_seq ?_
  refine awp_seq ?_
  refine awp_region_any (by kernel_rfl) (by kernel_rfl) rfl ?_
  refine ch_plain rfl rfl (w_move rfl (ev_tmp rfl)) ?_
  refine ch_plain rfl rfl (w_nilB rfl (ev_tmp rfl)) ?_
  refine ch_plain rfl rfl (w_fldBn 1 rfl Tryd.underlying72 rfl Tryd.sizeOf3 (ev_tmp rfl) rfl) ?_
  refine ch_plain rfl rfl (w_loadB1 0 rfl (ev_tmp rfl) rfl Tryd.isAgg3 rfl) ?_
  refine ch_plain rfl rfl (w_move rfl (ev_tmp rfl)) ?_
  refine ch_plain rfl rfl (w_nilB rfl (ev_tmp rfl)) ?_
  refine ch_plain rfl rfl (w_fldBn 0 rfl Tryd.underlying72 rfl Tryd.sizeOf44 (ev_tmp rfl) rfl) ?_
  refine ch_plain rfl rfl (w_loadB1 0 rfl (ev_tmp rfl) rfl Tryd.isAgg44 rfl) ?_
  refine ch_plain rfl rfl (w_llen rfl Tryd.underlying44 (ev_tmp rfl)) ?_
  refine ch_plain rfl rfl (w_lss rfl (ev_tmp rfl) (ev_tmp rfl)) ?_
  refine ch_nil ?_
  refine awp_cond (ev_tmp rfl) ?_ ?_
  · intro h13
    have k13 := of_decide_eq_true h13; try simp only [List.length_map] at k13
    obtain ⟨z, hz⟩ := get_some (show c.p < code.length by omega)
    have hzb := hcb z (List.mem_of_getElem? hz)
    refine awp_region_any (by kernel_rfl) (by kernel_rfl) rfl ?_
    refine ch_plain rfl rfl (w_move rfl (ev_tmp rfl)) ?_
    refine ch_plain rfl rfl (w_nilB rfl (ev_tmp rfl)) ?_
    refine ch_plain rfl rfl (w_fldBn 0 rfl Tryd.underlying72 rfl Tryd.sizeOf44 (ev_tmp rfl) rfl) ?_
    refine ch_plain rfl rfl (w_loadB1 0 rfl (ev_tmp rfl) rfl Tryd.isAgg44 rfl) ?_
    refine ch_plain rfl rfl (w_move rfl (ev_tmp rfl)) ?_
    refine ch_plain rfl rfl (w_nilB rfl (ev_tmp rfl)) ?_
    refine ch_plain rfl rfl (w_fldBn 1 rfl Tryd.underlying72 rfl Tryd.sizeOf3 (ev_tmp rfl) rfl) ?_
    refine ch_plain rfl rfl (w_loadB1 0 rfl (ev_tmp rfl) rfl Tryd.isAgg3 rfl) ?_
    refine ch_plain rfl rfl (w_idxm rfl Tryd.underlying44 Tryd.sizeOf5 (ev_tmp rfl) (ev_tmp rfl) hz rfl) ?_
    refine ch_plain rfl rfl (w_loadE1 rfl (ev_tmp rfl) Tryd.isAgg5 rfl) ?_
    refine ch_plain rfl rfl (w_conv rfl (by kernel_rfl) Tryd.underlying3 (ev_tmp rfl)) ?_
    try rw [wrapS hzb]
    refine ch_plain rfl rfl (w_assign rfl (ev_tmp rfl)) ?_
    refine ch_nil ?_
    refine awp_seq ?_
    refine awp_region ?_
    refine sq_plain rfl rfl rfl (w_move rfl (ev_tmp rfl)) ?_
    refine sq_plain rfl rfl rfl (w_nilB rfl (ev_tmp rfl)) ?_
    refine sq_plain rfl rfl rfl (w_fldBn 1 rfl Tryd.underlying72 rfl Tryd.sizeOf3 (ev_tmp rfl) rfl) ?_
    refine sq_plain rfl rfl rfl (w_loadB1 0 rfl (ev_tmp rfl) rfl Tryd.isAgg3 rfl) ?_
    refine sq_plain rfl rfl rfl (w_addi rfl (ev_tmp rfl) ev_ci (by first | omega | ((try simp only [List.length_map, List.length_take, List.length_cons, List.length_nil, chunks_len, szR] at *); omega) | (have hc2 := hc; simp only [Bool.and_eq_true, Bool.or_eq_true, Bool.or_eq_false_iff, Bool.and_eq_false_iff, Bool.not_eq_true', Bool.not_eq_false', decide_eq_true_eq, decide_eq_false_iff_not, beq_iff_eq, bne_iff_ne, List.length_map, List.length_take] at hc2; omega))) ?_
    refine sq_plain rfl rfl rfl (w_nilB rfl (ev_tmp rfl)) ?_
    refine sq_plain rfl rfl rfl (w_fldBn 1 rfl Tryd.underlying72 rfl Tryd.sizeOf3 (ev_tmp rfl) rfl) ?_
    refine sq_storeB1 0 rfl rfl rfl (ev_tmp rfl) (ev_tmp rfl) (as_ik _ _) rfl Tryd.sizeOf3 rfl ?_
    refine sq_nil ?_
    refine awp_seq ?_
    refine awp_region ?_
    refine sq_plain rfl rfl rfl (w_move rfl (ev_tmp rfl)) ?_
    refine sq_plain rfl rfl rfl (w_move rfl (ev_tmp rfl)) ?_
    refine sq_plain rfl rfl rfl (w_nilB rfl (ev_tmp rfl)) ?_
    refine sq_plain rfl rfl rfl (w_fldBn 2 rfl Tryd.underlying72 rfl Tryd.sizeOf70 (ev_tmp rfl) rfl) ?_
    refine sq_plain rfl rfl rfl (w_loadB1 0 rfl (ev_tmp rfl) rfl Tryd.isAgg70 rfl) ?_
    refine sq_plain rfl rfl rfl (w_mul rfl (ev_tmp rfl) ev_ci) ?_
    refine sq_plain rfl rfl rfl (w_move rfl (ev_tmp rfl)) ?_
    refine sq_plain rfl rfl rfl (w_conv rfl (by kernel_rfl) Tryd.underlying70 (ev_tmp rfl)) ?_
    refine sq_plain rfl rfl rfl (w_add rfl (ev_tmp rfl) (ev_tmp rfl)) ?_
    refine sq_plain rfl rfl rfl (w_add rfl (ev_tmp rfl) ev_ci) ?_
    refine sq_plain rfl rfl rfl (w_nilB rfl (ev_tmp rfl)) ?_
    refine sq_plain rfl rfl rfl (w_fldBn 2 rfl Tryd.underlying72 rfl Tryd.sizeOf70 (ev_tmp rfl) rfl) ?_
    refine sq_storeB1 0 rfl rfl rfl (ev_tmp rfl) (ev_tmp rfl) (as_ik _ _) rfl Tryd.sizeOf70 rfl ?_
    refine sq_nil ?_
    refine awp_seq ?_
    refine awp_seq ?_
    refine awp_region_any (by kernel_rfl) (by kernel_rfl) rfl ?_
    refine ch_plain rfl rfl (w_move rfl (ev_tmp rfl)) ?_
    refine ch_plain rfl rfl (w_nilB rfl (ev_tmp rfl)) ?_
    refine ch_plain rfl rfl (w_fldBn 1 rfl Tryd.underlying72 rfl Tryd.sizeOf3 (ev_tmp rfl) rfl) ?_
    refine ch_plain rfl rfl (w_loadB1 0 rfl (ev_tmp rfl) rfl Tryd.isAgg3 rfl) ?_
    refine ch_plain rfl rfl (w_move rfl (ev_tmp rfl)) ?_
    refine ch_plain rfl rfl (w_nilB rfl (ev_tmp rfl)) ?_
    refine ch_plain rfl rfl (w_fldBn 0 rfl Tryd.underlying72 rfl Tryd.sizeOf44 (ev_tmp rfl) rfl) ?_
    refine ch_plain rfl rfl (w_loadB1 0 rfl (ev_tmp rfl) rfl Tryd.isAgg44 rfl) ?_
    refine ch_plain rfl rfl (w_llen rfl Tryd.underlying44 (ev_tmp rfl)) ?_
    refine ch_plain rfl rfl (w_leq rfl (ev_tmp rfl) (ev_tmp rfl)) ?_
    refine ch_nil ?_
    refine awp_cond (ev_tmp rfl) ?_ ?_
    · intro h53
      have k53 := of_decide_eq_true h53; try simp only [List.length_map] at k53
      refine awp_seq ?_
      refine awp_region ?_
      refine sq_plain rfl rfl rfl (w_move rfl (ev_tmp rfl)) ?_
      refine sq_plain rfl rfl rfl (w_assign rfl (ev_tmp rfl)) ?_
      refine sq_nil ?_
      refine awp_ret ?_
      (refine retG [0] ((⟨c.p + 1, _⟩, _)) ?_ rfl (by first | (dsimp only; rfl) | rfl) (resR rfl (rv_tmp' rfl (by first | rfl | (refine congrArg AV.bool ?_; simp_all; done)))); first | exact ⟨Nat.le_refl _, hzb⟩ | exact ⟨Nat.le_refl _, Int.le_refl 0, (show (0 : Int) ≤ 255 by decide)⟩ | (rw [wrapS (bandI_255 _)]; exact ⟨Nat.le_refl _, bandI_255 _⟩))
    · intro h53
      have k53 := of_decide_eq_false h53; try simp only [List.length_map] at k53
      refine awp_skip ?_
      refine awp_seq ?_
      refine awp_region ?_
      refine sq_plain rfl rfl rfl (w_move rfl (ev_tmp rfl)) ?_
      refine sq_plain rfl rfl rfl (w_nilB rfl (ev_tmp rfl)) ?_
      refine sq_plain rfl rfl rfl (w_fldBn 2 rfl Tryd.underlying72 rfl Tryd.sizeOf70 (ev_tmp rfl) rfl) ?_
      refine sq_plain rfl rfl rfl (w_loadB1 0 rfl (ev_tmp rfl) rfl Tryd.isAgg70 rfl) ?_
      refine sq_plain rfl rfl rfl (w_shr rfl (ev_tmp rfl) ev_ci (by decide) (by decide)) ?_
      refine sq_plain rfl rfl rfl (w_band rfl (ev_tmp rfl) ev_ci) ?_
      refine sq_plain rfl rfl rfl (w_conv rfl (by kernel_rfl) Tryd.underlying3 (ev_tmp rfl)) ?_
      refine sq_plain rfl rfl rfl (w_assign rfl (ev_tmp rfl)) ?_
      refine sq_nil ?_
      refine awp_ret ?_
      (refine retG [0] ((⟨c.p + 1, _⟩, _)) ?_ rfl (by first | (dsimp only; rfl) | rfl) (resR rfl (rv_tmp' rfl (by first | rfl | (refine congrArg AV.bool ?_; simp_all; done)))); first | exact ⟨Nat.le_refl _, hzb⟩ | exact ⟨Nat.le_refl _, Int.le_refl 0, (show (0 : Int) ≤ 255 by decide)⟩ | (rw [wrapS (bandI_255 _)]; exact ⟨Nat.le_refl _, bandI_255 _⟩))
  · intro h13
    have k13 := of_decide_eq_false h13; try simp only [List.length_map] at k13
    refine awp_skip ?_
    refine awp_seq ?_
    refine awp_region ?_
    refine sq_plain rfl rfl rfl (w_move rfl (ev_tmp rfl)) ?_
    refine sq_plain rfl rfl rfl (w_nilB rfl (ev_tmp rfl)) ?_
    refine sq_plain rfl rfl rfl (w_fldBn 1 rfl Tryd.underlying72 rfl Tryd.sizeOf3 (ev_tmp rfl) rfl) ?_
    refine sq_plain rfl rfl rfl (w_loadB1 0 rfl (ev_tmp rfl) rfl Tryd.isAgg3 rfl) ?_
    refine sq_plain rfl rfl rfl (w_addi rfl (ev_tmp rfl) ev_ci (by first | omega | ((try simp only [List.length_map, List.length_take, List.length_cons, List.length_nil, chunks_len, szR] at *); omega) | (have hc2 := hc; simp only [Bool.and_eq_true, Bool.or_eq_true, Bool.or_eq_false_iff, Bool.and_eq_false_iff, Bool.not_eq_true', Bool.not_eq_false', decide_eq_true_eq, decide_eq_false_iff_not, beq_iff_eq, bne_iff_ne, List.length_map, List.length_take] at hc2; omega))) ?_
    refine sq_plain rfl rfl rfl (w_nilB rfl (ev_tmp rfl)) ?_
    refine sq_plain rfl rfl rfl (w_fldBn 1 rfl Tryd.underlying72 rfl Tryd.sizeOf3 (ev_tmp rfl) rfl) ?_
    refine sq_storeB1 0 rfl rfl rfl (ev_tmp rfl) (ev_tmp rfl) (as_ik _ _) rfl Tryd.sizeOf3 rfl ?_
    refine sq_nil ?_
    refine awp_seq ?_
    refine awp_region ?_
    refine sq_plain rfl rfl rfl (w_move rfl (ev_tmp rfl)) ?_
    refine sq_plain rfl rfl rfl (w_move rfl (ev_tmp rfl)) ?_
    refine sq_plain rfl rfl rfl (w_nilB rfl (ev_tmp rfl)) ?_
    refine sq_plain rfl rfl rfl (w_fldBn 2 rfl Tryd.underlying72 rfl Tryd.sizeOf70 (ev_tmp rfl) rfl) ?_
    refine sq_plain rfl rfl rfl (w_loadB1 0 rfl (ev_tmp rfl) rfl Tryd.isAgg70 rfl) ?_
    refine sq_plain rfl rfl rfl (w_mul rfl (ev_tmp rfl) ev_ci) ?_
    refine sq_plain rfl rfl rfl (w_move rfl (ev_tmp rfl)) ?_
    refine sq_plain rfl rfl rfl (w_conv rfl (by kernel_rfl) Tryd.underlying70 (ev_tmp rfl)) ?_
    refine sq_plain rfl rfl rfl (w_add rfl (ev_tmp rfl) (ev_tmp rfl)) ?_
    refine sq_plain rfl rfl rfl (w_add rfl (ev_tmp rfl) ev_ci) ?_
    refine sq_plain rfl rfl rfl (w_nilB rfl (ev_tmp rfl)) ?_
    refine sq_plain rfl rfl rfl (w_fldBn 2 rfl Tryd.underlying72 rfl Tryd.sizeOf70 (ev_tmp rfl) rfl) ?_
    refine sq_storeB1 0 rfl rfl rfl (ev_tmp rfl) (ev_tmp rfl) (as_ik _ _) rfl Tryd.sizeOf70 rfl ?_
    refine sq_nil ?_
    refine awp_seq ?_
    refine awp_seq ?_
    refine awp_region_any (by kernel_rfl) (by kernel_rfl) rfl ?_
    refine ch_plain rfl rfl (w_move rfl (ev_tmp rfl)) ?_
    refine ch_plain rfl rfl (w_nilB rfl (ev_tmp rfl)) ?_
    refine ch_plain rfl rfl (w_fldBn 1 rfl Tryd.underlying72 rfl Tryd.sizeOf3 (ev_tmp rfl) rfl) ?_
    refine ch_plain rfl rfl (w_loadB1 0 rfl (ev_tmp rfl) rfl Tryd.isAgg3 rfl) ?_
    refine ch_plain rfl rfl (w_move rfl (ev_tmp rfl)) ?_
    refine ch_plain rfl rfl (w_nilB rfl (ev_tmp rfl)) ?_
    refine ch_plain rfl rfl (w_fldBn 0 rfl Tryd.underlying72 rfl Tryd.sizeOf44 (ev_tmp rfl) rfl) ?_
    refine ch_plain rfl rfl (w_loadB1 0 rfl (ev_tmp rfl) rfl Tryd.isAgg44 rfl) ?_
    refine ch_plain rfl rfl (w_llen rfl Tryd.underlying44 (ev_tmp rfl)) ?_
    refine ch_plain rfl rfl (w_leq rfl (ev_tmp rfl) (ev_tmp rfl)) ?_
    refine ch_nil ?_
    refine awp_cond (ev_tmp rfl) ?_ ?_
    · intro h53
      have k53 := of_decide_eq_true h53; try simp only [List.length_map] at k53
      refine awp_seq ?_
      refine awp_region ?_
      refine sq_plain rfl rfl rfl (w_move rfl (ev_tmp rfl)) ?_
      refine sq_plain rfl rfl rfl (w_assign rfl (ev_tmp rfl)) ?_
      refine sq_nil ?_
      refine awp_ret ?_
      (refine retG [0] ((⟨c.p + 1, _⟩, _)) ?_ rfl (by first | (dsimp only; rfl) | rfl) (resR rfl (rv_tmp' rfl (by first | rfl | (refine congrArg AV.bool ?_; simp_all; done)))); first | exact ⟨Nat.le_refl _, hzb⟩ | exact ⟨Nat.le_refl _, Int.le_refl 0, (show (0 : Int) ≤ 255 by decide)⟩ | (rw [wrapS (bandI_255 _)]; exact ⟨Nat.le_refl _, bandI_255 _⟩))
    · intro h53
      have k53 := of_decide_eq_false h53; try simp only [List.length_map] at k53
      refine awp_skip ?_
      refine awp_seq ?_
      refine awp_region ?_
      refine sq_plain rfl rfl rfl (w_move rfl (ev_tmp rfl)) ?_
      refine sq_plain rfl rfl rfl (w_nilB rfl (ev_tmp rfl)) ?_
      refine sq_plain rfl rfl rfl (w_fldBn 2 rfl Tryd.underlying72 rfl Tryd.sizeOf70 (ev_tmp rfl) rfl) ?_
      refine sq_plain rfl rfl rfl (w_loadB1 0 rfl (ev_tmp rfl) rfl Tryd.isAgg70 rfl) ?_
      refine sq_plain rfl rfl rfl (w_shr rfl (ev_tmp rfl) ev_ci (by decide) (by decide)) ?_
      refine sq_plain rfl rfl rfl (w_band rfl (ev_tmp rfl) ev_ci) ?_
      refine sq_plain rfl rfl rfl (w_conv rfl (by kernel_rfl) Tryd.underlying3 (ev_tmp rfl)) ?_
      refine sq_plain rfl rfl rfl (w_assign rfl (ev_tmp rfl)) ?_
      refine sq_nil ?_
      refine awp_ret ?_
      (refine retG [0] ((⟨c.p + 1, _⟩, _)) ?_ rfl (by first | (dsimp only; rfl) | rfl) (resR rfl (rv_tmp' rfl (by first | rfl | (refine congrArg AV.bool ?_; simp_all; done)))); first | exact ⟨Nat.le_refl _, hzb⟩ | exact ⟨Nat.le_refl _, Int.le_refl 0, (show (0 : Int) ≤ 255 by decide)⟩ | (rw [wrapS (bandI_255 _)]; exact ⟨Nat.le_refl _, bandI_255 _⟩))
theorem curPick_own (b : Nat) (code : List Int) (hcode : ByteL code) (c : TCur) (n : Int) (hn : n ≤ 1000000) (hp : c.p ≤ 7000000) : GSpec Tryd.prog 73 [AV.ptr b 0, AV.int n] [.box b 72 (curC code c)] (fun x : TCur × Int => x.1.p ≤ c.p + 2 ∧ 0 ≤ x.2 ∧ (x.2 < n ∨ x.2 = 0)) (fun x => [.box b 72 (curC code x.1)]) (fun x => AV.int x.2) := by
  refine gspec_of_awp Tryd.func73 rfl Tryd.ntmps73 rfl ?_
  refine awp_seq ?_
  refine awp_region ?_
  refine sq_plain rfl rfl rfl (w_assign rfl ev_ci) ?_
  refine sq_nil ?_
  refine awp_seq ?_
  refine awp_seq ?_
  refine awp_region ?_
  refine sq_plain rfl rfl rfl (w_move rfl (ev_tmp rfl)) ?_
  refine sq_plain rfl rfl rfl (w_leq rfl (ev_tmp rfl) ev_ci) ?_
  refine sq_nil ?_
  refine awp_cond (ev_tmp rfl) ?_ ?_
  · intro h7
    have k7 := of_decide_eq_true h7; try simp only [List.length_map] at k7
    refine awp_seq ?_
    refine awp_region ?_
    refine sq_plain rfl rfl rfl (w_assign rfl ev_ci) ?_
    refine sq_nil ?_
    refine awp_ret ?_
    (refine retG [0] ((_, _)) ?_ rfl (by first | (dsimp only; rfl) | rfl) (resR rfl (rv_tmp' rfl (by first | rfl | (refine congrArg AV.bool ?_; simp_all; done)))); (dsimp only; first | omega | exact ⟨by omega, Int.tmod_nonneg _ (by omega), .inl (Int.tmod_lt_of_pos _ (by omega))⟩))
  · intro h7
    have k7 := of_decide_eq_false h7; try simp only [List.length_map] at k7
    refine awp_skip ?_
    refine awp_seq ?_
    refine awp_region ?_
    refine sq_plain rfl rfl rfl (w_move rfl (ev_tmp rfl)) ?_
    refine sq_callG [0] rfl rfl rfl rfl Tryd.call91 rfl (curNext_own _ _ hcode _ (by omega)) (evl_cons (ev_tmp rfl) evl_nil) rfl ?_
    intro x9 ok9
    refine sq_plain rfl rfl rfl (w_assign rfl (ev_tmp rfl)) ?_
    refine sq_nil ?_
    refine awp_seq ?_
    refine awp_seq ?_
    refine awp_region ?_
    refine sq_plain rfl rfl rfl (w_move rfl (ev_tmp rfl)) ?_
    refine sq_plain rfl rfl rfl (w_gtr rfl (ev_tmp rfl) ev_ci) ?_
    refine sq_nil ?_
    refine awp_cond (ev_tmp rfl) ?_ ?_
    · intro h11
      have k11 := of_decide_eq_true h11; try simp only [List.length_map] at k11
      refine awp_region ?_
      refine sq_plain rfl rfl rfl (w_move rfl (ev_tmp rfl)) ?_
      refine sq_plain rfl rfl rfl (w_muli rfl (ev_tmp rfl) ev_ci (by first | omega | ((try simp only [List.length_map, List.length_take, List.length_cons, List.length_nil, chunks_len, szR] at *); omega) | (have hc2 := hc; simp only [Bool.and_eq_true, Bool.or_eq_true, Bool.or_eq_false_iff, Bool.and_eq_false_iff, Bool.not_eq_true', Bool.not_eq_false', decide_eq_true_eq, decide_eq_false_iff_not, beq_iff_eq, bne_iff_ne, List.length_map, List.length_take] at hc2; omega))) ?_
      refine sq_plain rfl rfl rfl (w_move rfl (ev_tmp rfl)) ?_
      refine sq_callG [0] rfl rfl rfl rfl Tryd.call91 rfl (curNext_own _ _ hcode _ (by omega)) (evl_cons (ev_tmp rfl) evl_nil) rfl ?_
      intro x15 ok15
      refine sq_plain rfl rfl rfl (w_addi rfl (ev_tmp rfl) (ev_tmp rfl) (by first | omega | ((try simp only [List.length_map, List.length_take, List.length_cons, List.length_nil, chunks_len, szR] at *); omega) | (have hc2 := hc; simp only [Bool.and_eq_true, Bool.or_eq_true, Bool.or_eq_false_iff, Bool.and_eq_false_iff, Bool.not_eq_true', Bool.not_eq_false', decide_eq_true_eq, decide_eq_false_iff_not, beq_iff_eq, bne_iff_ne, List.length_map, List.length_take] at hc2; omega))) ?_
      refine sq_plain rfl rfl rfl (w_assign rfl (ev_tmp rfl)) ?_
      refine sq_nil ?_
      refine awp_seq ?_
      refine awp_region ?_
      refine sq_plain rfl rfl rfl (w_move rfl (ev_tmp rfl)) ?_
      refine sq_plain rfl rfl rfl (w_move rfl (ev_tmp rfl)) ?_
      refine sq_plain rfl rfl rfl (w_rem rfl (ev_tmp rfl) (ev_tmp rfl) (by omega)) ?_
      refine sq_plain rfl rfl rfl (w_assign rfl (ev_tmp rfl)) ?_
      refine sq_nil ?_
      refine awp_ret ?_
      (refine retG [0] ((_, _)) ?_ rfl (by first | (dsimp only; rfl) | rfl) (resR rfl (rv_tmp' rfl (by first | rfl | (refine congrArg AV.bool ?_; simp_all; done)))); (dsimp only; first | omega | exact ⟨by omega, Int.tmod_nonneg _ (by omega), .inl (Int.tmod_lt_of_pos _ (by omega))⟩))
    · intro h11
      have k11 := of_decide_eq_false h11; try simp only [List.length_map] at k11
      refine awp_skip ?_
      refine awp_seq ?_
      refine awp_region ?_
      refine sq_plain rfl rfl rfl (w_move rfl (ev_tmp rfl)) ?_
      refine sq_plain rfl rfl rfl (w_move rfl (ev_tmp rfl)) ?_
      refine sq_plain rfl rfl rfl (w_rem rfl (ev_tmp rfl) (ev_tmp rfl) (by omega)) ?_
      refine sq_plain rfl rfl rfl (w_assign rfl (ev_tmp rfl)) ?_
      refine sq_nil ?_
      refine awp_ret ?_
      (refine retG [0] ((_, _)) ?_ rfl (by first | (dsimp only; rfl) | rfl) (resR rfl (rv_tmp' rfl (by first | rfl | (refine congrArg AV.bool ?_; simp_all; done)))); (dsimp only; first | omega | exact ⟨by omega, Int.tmod_nonneg _ (by omega), .inl (Int.tmod_lt_of_pos _ (by omega))⟩))
theorem curOne_own (b : Nat) (code : List Int) (hcode : ByteL code) (c : TCur) (n : Int) (hn : n ≤ 1000000) (hp : c.p ≤ 7000000) : GSpec Tryd.prog 49 [AV.ptr b 0, AV.int n] [.box b 72 (curC code c)] (fun x : TCur × Bool => x.1.p ≤ c.p + 2) (fun x => [.box b 72 (curC code x.1)]) (fun x => AV.bool x.2) := by
  refine gspec_of_awp Tryd.func49 rfl Tryd.ntmps49 rfl ?_
  refine awp_seq ?_
  refine awp_region ?_
  refine sq_plain rfl rfl rfl (w_assign rfl ev_cb) ?_
  refine sq_nil ?_
  refine awp_seq ?_
  refine awp_region ?_
  refine sq_plain rfl rfl rfl (w_move rfl (ev_tmp rfl)) ?_
  refine sq_plain rfl rfl rfl (w_move rfl (ev_tmp rfl)) ?_
  refine sq_callG [0] rfl rfl rfl rfl Tryd.call73 rfl (curPick_own _ _ hcode _ _ (by omega) (by omega)) (evl_cons (ev_tmp rfl) (evl_cons (ev_tmp rfl) evl_nil)) rfl ?_
  intro x7 ok7
  refine sq_plain rfl rfl rfl (w_eql rfl (ev_tmp rfl) ev_ci) ?_
  refine sq_plain rfl rfl rfl (w_assign rfl (ev_tmp rfl)) ?_
  refine sq_nil ?_
  refine awp_ret ?_
  (refine retG [0] ((_, _)) ?_ rfl (by first | (dsimp only; rfl) | rfl) (resR rfl (rv_tmp' rfl (by rfl))); exact ok7.1)
theorem curOf_own (b : Nat) (code : List Int) (hcode : ByteL code) (c : TCur) (l : List Str) (hl : (∀ s ∈ l, s.length ≤ 64) ∧ 1 ≤ l.length ∧ l.length ≤ 1000) (hp : c.p ≤ 7000000) : GSpec Tryd.prog 93 [AV.ptr b 0, strs l] [.box b 72 (curC code c)] (fun x : TCur × Str => x.1.p ≤ c.p + 2 ∧ x.2.length ≤ 64) (fun x => [.box b 72 (curC code x.1)]) (fun x => AV.str x.2) := by
  obtain ⟨hls, hl1, hl2⟩ := hl
  refine gspec_of_awp Tryd.func93 rfl Tryd.ntmps93 rfl ?_
  refine awp_seq ?_
  refine awp_region ?_
  refine sq_plain rfl rfl rfl (w_assign rfl (ev_cs' (l := []) rfl)) ?_
  refine sq_nil ?_
  refine awp_seq ?_
  refine awp_region ?_
  refine sq_plain rfl rfl rfl (w_move rfl (ev_tmp rfl)) ?_
  refine sq_plain rfl rfl rfl (w_move rfl (ev_tmp rfl)) ?_
  refine sq_plain rfl rfl rfl (w_move rfl (ev_tmp rfl)) ?_
  refine sq_plain rfl rfl rfl (w_llen rfl Tryd.underlying30 (ev_tmp rfl)) ?_
  refine sq_callG [0] rfl rfl rfl rfl Tryd.call73 rfl (curPick_own _ _ hcode _ _ (by simp only [List.length_map]; omega) (by omega)) (evl_cons (ev_tmp rfl) (evl_cons (ev_tmp rfl) evl_nil)) rfl ?_
  intro x9 ok9
  simp only [List.length_map] at ok9
  obtain ⟨y, hy⟩ := get_some (show x9.2.toNat < l.length by omega)
  refine sq_plain rfl rfl rfl (w_idxm rfl Tryd.underlying30 Tryd.sizeOf9 (ev_tmp rfl) (ev_tmp rfl) hy (by omega)) ?_
  refine sq_plain rfl rfl rfl (w_loadE1 rfl (ev_tmp rfl) Tryd.isAgg9 rfl) ?_
  refine sq_plain rfl rfl rfl (w_assign rfl (ev_tmp rfl)) ?_
  refine sq_nil ?_
  refine awp_ret ?_
  (refine retG [0] ((_, _)) ?_ rfl (by first | (dsimp only; rfl) | rfl) (resR rfl (rv_tmp' rfl (by rfl))); exact ⟨ok9.1, hls _ (List.mem_of_getElem? hy)⟩)
theorem curAmong_own (b : Nat) (code : List Int) (hcode : ByteL code) (c : TCur) (l : List Int) (hl : 1 ≤ l.length ∧ l.length ≤ 1000) (hp : c.p ≤ 7000000) : GSpec Tryd.prog 74 [AV.ptr b 0, ints l] [.box b 72 (curC code c)] (fun x : TCur × Int => x.1.p ≤ c.p + 2 ∧ x.2 ∈ l) (fun x => [.box b 72 (curC code x.1)]) (fun x => AV.int x.2) := by
  obtain ⟨hl1, hl2⟩ := hl
  refine gspec_of_awp Tryd.func74 rfl Tryd.ntmps74 rfl ?_
  refine awp_seq ?_
  refine awp_region ?_
  refine sq_plain rfl rfl rfl (w_assign rfl ev_ci) ?_
  refine sq_nil ?_
  refine awp_seq ?_
  refine awp_region ?_
  refine sq_plain rfl rfl rfl (w_move rfl (ev_tmp rfl)) ?_
  refine sq_plain rfl rfl rfl (w_move rfl (ev_tmp rfl)) ?_
  refine sq_plain rfl rfl rfl (w_move rfl (ev_tmp rfl)) ?_
  refine sq_plain rfl rfl rfl (w_llen rfl Tryd.underlying31 (ev_tmp rfl)) ?_
  refine sq_callG [0] rfl rfl rfl rfl Tryd.call73 rfl (curPick_own _ _ hcode _ _ (by simp only [List.length_map]; omega) (by omega)) (evl_cons (ev_tmp rfl) (evl_cons (ev_tmp rfl) evl_nil)) rfl ?_
  intro x9 ok9
  simp only [List.length_map] at ok9
  obtain ⟨y, hy⟩ := get_some (show x9.2.toNat < l.length by omega)
  refine sq_plain rfl rfl rfl (w_idxm rfl Tryd.underlying31 Tryd.sizeOf3 (ev_tmp rfl) (ev_tmp rfl) hy (by omega)) ?_
  refine sq_plain rfl rfl rfl (w_loadE1 rfl (ev_tmp rfl) Tryd.isAgg3 rfl) ?_
  refine sq_plain rfl rfl rfl (w_assign rfl (ev_tmp rfl)) ?_
  refine sq_nil ?_
  refine awp_ret ?_
  (refine retG [0] ((_, _)) ?_ rfl (by first | (dsimp only; rfl) | rfl) (resR rfl (rv_tmp' rfl (by rfl))); exact ⟨ok9.1, List.mem_of_getElem? hy⟩)
theorem curKey_own (b : Nat) (code : List Int) (hcode : ByteL code) (c : TCur) (hp : c.p ≤ 6000000) : GSpec Tryd.prog 76 [AV.ptr b 0] [.box b 72 (curC code c)] (fun x : TCur × Str => x.1.p ≤ c.p + 2 ∧ x.2.length ≤ 64) (fun x => [.box b 72 (curC code x.1)]) (fun x => AV.str x.2) := by
  refine gspec_of_awp Tryd.func76 rfl Tryd.ntmps76 rfl ?_
  refine awp_seq ?_
  refine awp_region ?_
  refine sq_plain rfl rfl rfl (w_assign rfl (ev_cs' (l := []) rfl)) ?_
  refine sq_nil ?_
  refine awp_seq ?_
  refine awp_region ?_
  refine sq_plain rfl rfl rfl (w_move rfl (ev_tmp rfl)) ?_
  refine sq_plain rfl rfl rfl (w_bslice rfl Tryd.underlying30 Tryd.sizeOf9 Tryd.zeroValue9 rfl rfl rfl rfl (bp_cons (ev_cs' (l := [97]) rfl) (as_str _) (bp_cons (ev_cs' (l := [98]) rfl) (as_str _) (bp_cons (ev_cs' (l := [99]) rfl) (as_str _) (bp_cons (ev_cs' (l := [109]) rfl) (as_str _) (bp_cons (ev_cs' (l := [110]) rfl) (as_str _) (bp_cons (ev_cs' (l := [122]) rfl) (as_str _) (bp_cons (ev_cs' (l := [114, 47, 49]) rfl) (as_str _) (bp_cons (ev_cs' (l := [105, 47, 120, 47, 49]) rfl) (as_str _) bp_nil)))))))) rfl rfl) ?_
  refine sq_callG [0] rfl rfl rfl rfl Tryd.call93 rfl (curOf_own _ _ hcode _ ([[97], [98], [99], [109], [110], [122], [114, 47, 49], [105, 47, 120, 47, 49]] : List Str) (by decide) (by omega)) (evl_cons (ev_tmp rfl) (evl_cons (ev_tmp rfl) evl_nil)) rfl ?_
  intro x5 ok5
  refine sq_plain rfl rfl rfl (w_assign rfl (ev_tmp rfl)) ?_
  refine sq_nil ?_
  refine awp_ret ?_
  (refine retG [0] ((_, _)) ?_ rfl (by first | (dsimp only; rfl) | rfl) (resR rfl (rv_tmp' rfl (by rfl))); exact ok5)
end Go.Proofs.YtdgoejkijpllpaaDoor

set_option linter.unusedVariables false
set_option linter.unusedSimpArgs false
set_option maxRecDepth 100000
namespace Go.Proofs.YtdgoejkijpllpaaDoor
open Go Go.AV Go.M
attribute [local irreducible] OpW OpA OpS AWP FSpec ESpec GSpec OpE RetOk RetOkG RvDen Le Ev GuardIs SrcIs
end Go.Proofs.YtdgoejkijpllpaaDoor

set_option linter.unusedVariables false
set_option linter.unusedSimpArgs false
set_option maxRecDepth 100000
namespace Go.Proofs.YtdgoejkijpllpaaDoor
open Go Go.AV Go.M
attribute [local irreducible] OpW OpA OpS AWP FSpec ESpec GSpec OpE RetOk RetOkG RvDen Le Ev GuardIs SrcIs Int.tmod Int.tdiv IntKind.wrap bandI
end Go.Proofs.YtdgoejkijpllpaaDoor

set_option linter.unusedVariables false
set_option linter.unusedSimpArgs false
set_option maxRecDepth 100000
namespace Go.M
open Go.AV
theorem spoil_a (t : Str) (i : Nat) (y : UInt8) : ((t.take i ++ [y]) ++ t.drop i).length = t.length + 1 := by
  simp only [List.length_append, List.length_cons, List.length_nil, List.length_take, List.length_drop]; omega
theorem spoil_b (t : Str) (i : Nat) (y : UInt8) : ((t.take i ++ [y]) ++ t.drop (i + 1)).length ≤ t.length + 1 := by
  simp only [List.length_append, List.length_cons, List.length_nil, List.length_take, List.length_drop]; omega
theorem spoil_c (t : Str) (i : Nat) : (t.take i ++ t.drop (i + 1)).length ≤ t.length + 1 := by
  simp only [List.length_append, List.length_take, List.length_drop]; omega
theorem sizeT_snoc (l : List Str) (x : Str) : sizeL (fun x : Str => x.length) (l ++ [x]) = sizeL (fun x : Str => x.length) l + x.length + 1 := by
  unfold sizeL; simp only [List.length_append, List.map_append, List.sum_append, List.length_cons, List.length_nil, List.map_cons, List.map_nil, List.sum_cons, List.sum_nil]; omega
theorem sizeT_rep (n : Nat) : sizeL (fun x : Str => x.length) (List.replicate n ([] : Str)) = n := by
  unfold sizeL; simp
theorem among_rd {x : Int} (h : x ∈ [0, 1, 127, 128, 16384, 1000000000]) : 0 ≤ x ∧ x ≤ 1000000000 := by
  simp at h; omega
theorem textsB_len2 {l : List Str} (h : sizeL (fun x : Str => x.length) l ≤ 1048576) : (textsB l).length ≤ 9 + 10 * sizeL (fun x : Str => x.length) l := by
  have h1 := sizeL_len (f := fun x : Str => x.length) (l := l)
  have h2 := numB_len9 (n := l.length) (by omega)
  have h3 := flatB_len (l := l) fun t ht => Nat.le_trans (sizeT_mem ht) h
  unfold textsB
  rw [List.length_append]; omega
end Go.M
namespace Go.Proofs.YtdgoejkijpllpaaDoor
open Go Go.AV Go.M
attribute [local irreducible] OpW OpA OpS AWP FSpec ESpec GSpec OpE RetOk RetOkG RvDen Le Ev GuardIs SrcIs Int.tmod Int.tdiv IntKind.wrap bandI
theorem curSpoilt_own (b : Nat) (code : List Int) (hcode : ByteL code) (c : TCur) (t w : Str) (ht : t.length ≤ 500000) (hw : 1 ≤ w.length ∧ w.length ≤ 1000) (hp : c.p ≤ 5000000) : GSpec Tryd.prog 50 [AV.ptr b 0, AV.str t, AV.str w] [.box b 72 (curC code c)] (fun x : TCur × Str => x.1.p ≤ c.p + 20 ∧ x.2.length ≤ t.length + 2) (fun x => [.box b 72 (curC code x.1)]) (fun x => AV.str x.2) := by
  refine gspec_of_awp Tryd.func50 rfl Tryd.ntmps50 rfl ?_
  refine awp_seq ?_
  refine awp_region ?_
  refine sq_plain rfl rfl rfl (w_assign rfl (ev_cs' (l := []) rfl)) ?_
  refine sq_nil ?_
  refine awp_seq ?_
  refine awp_seq ?_
  refine awp_region ?_
  refine sq_plain rfl rfl rfl (w_move rfl (ev_tmp rfl)) ?_
  refine sq_callG [0] rfl rfl rfl rfl Tryd.call73 rfl (curPick_own _ _ hcode _ _ (by omega) (by omega)) (evl_cons (ev_tmp rfl) (evl_cons ev_ci evl_nil)) rfl ?_
  intro x11 ok11
  refine sq_plain rfl rfl rfl (w_addi rfl ev_ci (ev_tmp rfl) (by first | omega | ((try simp only [List.length_map, List.length_take, List.length_cons, List.length_nil, chunks_len, szR] at *); omega) | (have hc2 := hc; simp only [Bool.and_eq_true, Bool.or_eq_true, Bool.or_eq_false_iff, Bool.and_eq_false_iff, Bool.not_eq_true', Bool.not_eq_false', decide_eq_true_eq, decide_eq_false_iff_not, beq_iff_eq, bne_iff_ne, List.length_map, List.length_take] at hc2; omega))) ?_
  refine sq_plain rfl rfl rfl (w_assign rfl (ev_tmp rfl)) ?_
  refine sq_nil ?_
  refine awp_block ?_
  refine awp_loop_i3 [(0, _), (2, _), (6, _)] _ (fun (n : Int) (cc : TCur) (u : Str) => (0 ≤ n ∧ n ≤ 2) ∧ cc.p + 6 * n ≤ c.p + 16 ∧ (u.length : Int) + n ≤ t.length + 2) (fun (n : Int) (cc : TCur) (u : Str) => [.box b 72 (curC code cc)]) (fun (n : Int) (cc : TCur) (u : Str) => [(1, AV.str u), (7, AV.int n)]) (fun (n : Int) (cc : TCur) (u : Str) => n.toNat) (1 + x11.2) (x11.1) (t) ?_ (le_eq (by rfl) ⟨rfl, rfl, rfl, rfl, rfl, trivial⟩) ?_
  · exact ⟨by omega, by omega, by omega⟩
  intro n cc u hinv
  refine awp_seq ?_
  refine awp_seq ?_
  refine awp_region ?_
  refine sq_plain rfl rfl rfl (w_move rfl (ev_tmp rfl)) ?_
  refine sq_plain rfl rfl rfl (w_gtr rfl (ev_tmp rfl) ev_ci) ?_
  refine sq_plain rfl rfl rfl (w_move rfl (ev_tmp rfl)) ?_
  refine sq_grd rfl rfl (guard_t rfl rfl rfl) (fun hc => w_move rfl (ev_tmp rfl)) ?_
  refine sq_grd rfl rfl (guard_t rfl rfl rfl) (fun hc => w_slen rfl Tryd.underlying9 (ev_whn rfl hc)) ?_
  refine sq_grd rfl rfl (guard_t rfl rfl rfl) (fun hc => w_gtr rfl (ev_whn rfl hc) ev_ci) ?_
  refine sq_plain rfl rfl rfl (w_and rfl (ev_tmp rfl) (evif_w rfl)) ?_
  refine sq_nil ?_
  refine awp_cond (ev_tmp rfl) ?_ ?_
  · intro h19
    simp only [Bool.and_eq_true, decide_eq_true_eq] at h19
    obtain ⟨hn0, hu0⟩ := h19
    refine awp_skip ?_
    refine awp_seq ?_
    refine awp_block ?_
    refine awp_seq ?_
    refine awp_region ?_
    refine sq_plain rfl rfl rfl (w_move rfl (ev_tmp rfl)) ?_
    refine sq_plain rfl rfl rfl (w_move rfl (ev_tmp rfl)) ?_
    refine sq_plain rfl rfl rfl (w_slen rfl Tryd.underlying9 (ev_tmp rfl)) ?_
    refine sq_callG [0] rfl rfl rfl rfl Tryd.call73 rfl (curPick_own _ _ hcode _ _ (by omega) (by omega)) (evl_cons (ev_tmp rfl) (evl_cons (ev_tmp rfl) evl_nil)) rfl ?_
    intro x25 ok25
    refine sq_plain rfl rfl rfl (w_assign rfl (ev_tmp rfl)) ?_
    refine sq_nil ?_
    refine awp_seq ?_
    refine awp_region ?_
    refine sq_plain rfl rfl rfl (w_move rfl (ev_tmp rfl)) ?_
    refine sq_plain rfl rfl rfl (w_move rfl (ev_tmp rfl)) ?_
    refine sq_plain rfl rfl rfl (w_move rfl (ev_tmp rfl)) ?_
    refine sq_plain rfl rfl rfl (w_slen rfl Tryd.underlying9 (ev_tmp rfl)) ?_
    refine sq_callG [0] rfl rfl rfl rfl Tryd.call73 rfl (curPick_own _ _ hcode _ _ (by omega) (by omega)) (evl_cons (ev_tmp rfl) (evl_cons (ev_tmp rfl) evl_nil)) rfl ?_
    intro x30 ok30
    obtain ⟨y, hy⟩ := get_some (show x30.2.toNat < w.length by omega)
    refine sq_plain rfl rfl rfl (w_sidx rfl Tryd.underlying9 (ev_tmp rfl) (ev_tmp rfl) (by omega) hy) ?_
    refine sq_plain rfl rfl rfl (w_bslice rfl Tryd.underlying44 Tryd.sizeOf5 Tryd.zeroValue5 rfl rfl rfl rfl (bp_cons (ev_tmp rfl) (as_ik _ _) bp_nil) rfl rfl) ?_
    refine sq_plain rfl rfl rfl (w_convB (bs := [y]) rfl Tryd.underlying44 Tryd.underlying5 Tryd.underlying9 (ev_tmp rfl)) ?_
    refine sq_plain rfl rfl rfl (w_assign rfl (ev_tmp rfl)) ?_
    refine sq_nil ?_
    refine awp_seq ?_
    refine awp_region ?_
    refine sq_plain rfl rfl rfl (w_move rfl (ev_tmp rfl)) ?_
    refine sq_callG [0] rfl rfl rfl rfl Tryd.call73 rfl (curPick_own _ _ hcode _ _ (by omega) (by omega)) (evl_cons (ev_tmp rfl) (evl_cons ev_ci evl_nil)) rfl ?_
    intro x35 ok35
    refine sq_nil ?_
    refine awp_block ?_
    refine awp_seq ?_
    refine awp_region ?_
    refine sq_plain rfl rfl rfl (w_eql rfl (ev_tmp rfl) ev_ci) ?_
    refine sq_plain rfl rfl rfl (w_assign rfl (ev_tmp rfl)) ?_
    refine sq_nil ?_
    refine awp_cond (ev_tmp rfl) ?_ ?_
    · intro h44
      have k44 := eq_of_beqt h44; try simp only [List.length_map] at k44
      refine awp_region_any (by kernel_rfl) (by kernel_rfl) rfl ?_
      refine ch_plain rfl rfl (w_move rfl (ev_tmp rfl)) ?_
      refine ch_plain rfl rfl (w_move rfl (ev_tmp rfl)) ?_
      refine ch_plain rfl rfl (w_ssl_hi rfl Tryd.underlying9 (ev_tmp rfl) (ev_tmp rfl) (by first | omega | ((try simp only [List.length_map, List.length_take, List.length_cons, List.length_nil, chunks_len, szR] at *); omega) | (have hc2 := hc; simp only [Bool.and_eq_true, Bool.or_eq_true, Bool.or_eq_false_iff, Bool.and_eq_false_iff, Bool.not_eq_true', Bool.not_eq_false', decide_eq_true_eq, decide_eq_false_iff_not, beq_iff_eq, bne_iff_ne, List.length_map, List.length_take] at hc2; omega)) (by first | omega | ((try simp only [List.length_map, List.length_take, List.length_cons, List.length_nil, chunks_len, szR] at *); omega) | (have hc2 := hc; simp only [Bool.and_eq_true, Bool.or_eq_true, Bool.or_eq_false_iff, Bool.and_eq_false_iff, Bool.not_eq_true', Bool.not_eq_false', decide_eq_true_eq, decide_eq_false_iff_not, beq_iff_eq, bne_iff_ne, List.length_map, List.length_take] at hc2; omega))) ?_
      refine ch_plain rfl rfl (w_move rfl (ev_tmp rfl)) ?_
      refine ch_plain rfl rfl (w_cat rfl (ev_tmp rfl) (ev_tmp rfl) (by first | omega | (simp only [List.length_append, List.length_take, List.length_drop, List.length_cons, List.length_nil]; omega))) ?_
      refine ch_plain rfl rfl (w_move rfl (ev_tmp rfl)) ?_
      refine ch_plain rfl rfl (w_move rfl (ev_tmp rfl)) ?_
      refine ch_plain rfl rfl (w_ssl_lo rfl Tryd.underlying9 (ev_tmp rfl) (ev_tmp rfl) (by first | omega | ((try simp only [List.length_map, List.length_take, List.length_cons, List.length_nil, chunks_len, szR] at *); omega) | (have hc2 := hc; simp only [Bool.and_eq_true, Bool.or_eq_true, Bool.or_eq_false_iff, Bool.and_eq_false_iff, Bool.not_eq_true', Bool.not_eq_false', decide_eq_true_eq, decide_eq_false_iff_not, beq_iff_eq, bne_iff_ne, List.length_map, List.length_take] at hc2; omega)) (by first | omega | ((try simp only [List.length_map, List.length_take, List.length_cons, List.length_nil, chunks_len, szR] at *); omega) | (have hc2 := hc; simp only [Bool.and_eq_true, Bool.or_eq_true, Bool.or_eq_false_iff, Bool.and_eq_false_iff, Bool.not_eq_true', Bool.not_eq_false', decide_eq_true_eq, decide_eq_false_iff_not, beq_iff_eq, bne_iff_ne, List.length_map, List.length_take] at hc2; omega))) ?_
      refine ch_plain rfl rfl (w_cat rfl (ev_tmp rfl) (ev_tmp rfl) (by first | omega | (simp only [List.length_append, List.length_take, List.length_drop, List.length_cons, List.length_nil]; omega))) ?_
      refine ch_plain rfl rfl (w_assign rfl (ev_tmp rfl)) ?_
      refine ch_nil ?_
      refine awp_region ?_
      refine sq_plain rfl rfl rfl (w_move rfl (ev_tmp rfl)) ?_
      refine sq_plain rfl rfl rfl (w_subi rfl (ev_tmp rfl) ev_ci (by first | omega | ((try simp only [List.length_map, List.length_take, List.length_cons, List.length_nil, chunks_len, szR] at *); omega) | (have hc2 := hc; simp only [Bool.and_eq_true, Bool.or_eq_true, Bool.or_eq_false_iff, Bool.and_eq_false_iff, Bool.not_eq_true', Bool.not_eq_false', decide_eq_true_eq, decide_eq_false_iff_not, beq_iff_eq, bne_iff_ne, List.length_map, List.length_take] at hc2; omega))) ?_
      refine sq_plain rfl rfl rfl (w_assign rfl (ev_tmp rfl)) ?_
      refine sq_nil ?_
      refine round_end3 n cc u (n - 1) (x35.1) ((u.take x25.2.toNat ++ [y]) ++ u.drop x25.2.toNat) ?_ ?_ (le_eq (by rfl) ⟨rfl, rfl, rfl, rfl, rfl, trivial⟩)
      · exact ⟨by omega, by omega, by (have := spoil_a u x25.2.toNat y; omega)⟩
      · omega
    · intro h44
      have k44 := ne_of_beqf h44; try simp only [List.length_map] at k44
      refine awp_seq ?_
      refine awp_region ?_
      refine sq_plain rfl rfl rfl (w_eql rfl (ev_tmp rfl) ev_ci) ?_
      refine sq_plain rfl rfl rfl (w_assign rfl (ev_tmp rfl)) ?_
      refine sq_nil ?_
      refine awp_cond (ev_tmp rfl) ?_ ?_
      · intro h55
        have k55 := eq_of_beqt h55; try simp only [List.length_map] at k55
        refine awp_region_any (by kernel_rfl) (by kernel_rfl) rfl ?_
        refine ch_plain rfl rfl (w_move rfl (ev_tmp rfl)) ?_
        refine ch_plain rfl rfl (w_move rfl (ev_tmp rfl)) ?_
        refine ch_plain rfl rfl (w_ssl_hi rfl Tryd.underlying9 (ev_tmp rfl) (ev_tmp rfl) (by first | omega | ((try simp only [List.length_map, List.length_take, List.length_cons, List.length_nil, chunks_len, szR] at *); omega) | (have hc2 := hc; simp only [Bool.and_eq_true, Bool.or_eq_true, Bool.or_eq_false_iff, Bool.and_eq_false_iff, Bool.not_eq_true', Bool.not_eq_false', decide_eq_true_eq, decide_eq_false_iff_not, beq_iff_eq, bne_iff_ne, List.length_map, List.length_take] at hc2; omega)) (by first | omega | ((try simp only [List.length_map, List.length_take, List.length_cons, List.length_nil, chunks_len, szR] at *); omega) | (have hc2 := hc; simp only [Bool.and_eq_true, Bool.or_eq_true, Bool.or_eq_false_iff, Bool.and_eq_false_iff, Bool.not_eq_true', Bool.not_eq_false', decide_eq_true_eq, decide_eq_false_iff_not, beq_iff_eq, bne_iff_ne, List.length_map, List.length_take] at hc2; omega))) ?_
        refine ch_plain rfl rfl (w_move rfl (ev_tmp rfl)) ?_
        refine ch_plain rfl rfl (w_cat rfl (ev_tmp rfl) (ev_tmp rfl) (by first | omega | (simp only [List.length_append, List.length_take, List.length_drop, List.length_cons, List.length_nil]; omega))) ?_
        refine ch_plain rfl rfl (w_move rfl (ev_tmp rfl)) ?_
        refine ch_plain rfl rfl (w_move rfl (ev_tmp rfl)) ?_
        refine ch_plain rfl rfl (w_addi rfl (ev_tmp rfl) ev_ci (by first | omega | ((try simp only [List.length_map, List.length_take, List.length_cons, List.length_nil, chunks_len, szR] at *); omega) | (have hc2 := hc; simp only [Bool.and_eq_true, Bool.or_eq_true, Bool.or_eq_false_iff, Bool.and_eq_false_iff, Bool.not_eq_true', Bool.not_eq_false', decide_eq_true_eq, decide_eq_false_iff_not, beq_iff_eq, bne_iff_ne, List.length_map, List.length_take] at hc2; omega))) ?_
        refine ch_plain rfl rfl (w_ssl_lo rfl Tryd.underlying9 (ev_tmp rfl) (ev_tmp rfl) (by first | omega | ((try simp only [List.length_map, List.length_take, List.length_cons, List.length_nil, chunks_len, szR] at *); omega) | (have hc2 := hc; simp only [Bool.and_eq_true, Bool.or_eq_true, Bool.or_eq_false_iff, Bool.and_eq_false_iff, Bool.not_eq_true', Bool.not_eq_false', decide_eq_true_eq, decide_eq_false_iff_not, beq_iff_eq, bne_iff_ne, List.length_map, List.length_take] at hc2; omega)) (by first | omega | ((try simp only [List.length_map, List.length_take, List.length_cons, List.length_nil, chunks_len, szR] at *); omega) | (have hc2 := hc; simp only [Bool.and_eq_true, Bool.or_eq_true, Bool.or_eq_false_iff, Bool.and_eq_false_iff, Bool.not_eq_true', Bool.not_eq_false', decide_eq_true_eq, decide_eq_false_iff_not, beq_iff_eq, bne_iff_ne, List.length_map, List.length_take] at hc2; omega))) ?_
        refine ch_plain rfl rfl (w_cat rfl (ev_tmp rfl) (ev_tmp rfl) (by first | omega | (simp only [List.length_append, List.length_take, List.length_drop, List.length_cons, List.length_nil]; omega))) ?_
        refine ch_plain rfl rfl (w_assign rfl (ev_tmp rfl)) ?_
        refine ch_nil ?_
        refine awp_region ?_
        refine sq_plain rfl rfl rfl (w_move rfl (ev_tmp rfl)) ?_
        refine sq_plain rfl rfl rfl (w_subi rfl (ev_tmp rfl) ev_ci (by first | omega | ((try simp only [List.length_map, List.length_take, List.length_cons, List.length_nil, chunks_len, szR] at *); omega) | (have hc2 := hc; simp only [Bool.and_eq_true, Bool.or_eq_true, Bool.or_eq_false_iff, Bool.and_eq_false_iff, Bool.not_eq_true', Bool.not_eq_false', decide_eq_true_eq, decide_eq_false_iff_not, beq_iff_eq, bne_iff_ne, List.length_map, List.length_take] at hc2; omega))) ?_
        refine sq_plain rfl rfl rfl (w_assign rfl (ev_tmp rfl)) ?_
        refine sq_nil ?_
        refine round_end3 n cc u (n - 1) (x35.1) ((u.take x25.2.toNat ++ [y]) ++ u.drop (x25.2 + 1).toNat) ?_ ?_ (le_eq (by rfl) ⟨rfl, rfl, rfl, rfl, rfl, trivial⟩)
        · exact ⟨by omega, by omega, by (rw [show (x25.2 + 1).toNat = x25.2.toNat + 1 by omega]; have := spoil_b u x25.2.toNat y; omega)⟩
        · omega
      · intro h55
        have k55 := ne_of_beqf h55; try simp only [List.length_map] at k55
        refine awp_region_any (by kernel_rfl) (by kernel_rfl) rfl ?_
        refine ch_plain rfl rfl (w_move rfl (ev_tmp rfl)) ?_
        refine ch_plain rfl rfl (w_move rfl (ev_tmp rfl)) ?_
        refine ch_plain rfl rfl (w_ssl_hi rfl Tryd.underlying9 (ev_tmp rfl) (ev_tmp rfl) (by first | omega | ((try simp only [List.length_map, List.length_take, List.length_cons, List.length_nil, chunks_len, szR] at *); omega) | (have hc2 := hc; simp only [Bool.and_eq_true, Bool.or_eq_true, Bool.or_eq_false_iff, Bool.and_eq_false_iff, Bool.not_eq_true', Bool.not_eq_false', decide_eq_true_eq, decide_eq_false_iff_not, beq_iff_eq, bne_iff_ne, List.length_map, List.length_take] at hc2; omega)) (by first | omega | ((try simp only [List.length_map, List.length_take, List.length_cons, List.length_nil, chunks_len, szR] at *); omega) | (have hc2 := hc; simp only [Bool.and_eq_true, Bool.or_eq_true, Bool.or_eq_false_iff, Bool.and_eq_false_iff, Bool.not_eq_true', Bool.not_eq_false', decide_eq_true_eq, decide_eq_false_iff_not, beq_iff_eq, bne_iff_ne, List.length_map, List.length_take] at hc2; omega))) ?_
        refine ch_plain rfl rfl (w_move rfl (ev_tmp rfl)) ?_
        refine ch_plain rfl rfl (w_move rfl (ev_tmp rfl)) ?_
        refine ch_plain rfl rfl (w_addi rfl (ev_tmp rfl) ev_ci (by first | omega | ((try simp only [List.length_map, List.length_take, List.length_cons, List.length_nil, chunks_len, szR] at *); omega) | (have hc2 := hc; simp only [Bool.and_eq_true, Bool.or_eq_true, Bool.or_eq_false_iff, Bool.and_eq_false_iff, Bool.not_eq_true', Bool.not_eq_false', decide_eq_true_eq, decide_eq_false_iff_not, beq_iff_eq, bne_iff_ne, List.length_map, List.length_take] at hc2; omega))) ?_
        refine ch_plain rfl rfl (w_ssl_lo rfl Tryd.underlying9 (ev_tmp rfl) (ev_tmp rfl) (by first | omega | ((try simp only [List.length_map, List.length_take, List.length_cons, List.length_nil, chunks_len, szR] at *); omega) | (have hc2 := hc; simp only [Bool.and_eq_true, Bool.or_eq_true, Bool.or_eq_false_iff, Bool.and_eq_false_iff, Bool.not_eq_true', Bool.not_eq_false', decide_eq_true_eq, decide_eq_false_iff_not, beq_iff_eq, bne_iff_ne, List.length_map, List.length_take] at hc2; omega)) (by first | omega | ((try simp only [List.length_map, List.length_take, List.length_cons, List.length_nil, chunks_len, szR] at *); omega) | (have hc2 := hc; simp only [Bool.and_eq_true, Bool.or_eq_true, Bool.or_eq_false_iff, Bool.and_eq_false_iff, Bool.not_eq_true', Bool.not_eq_false', decide_eq_true_eq, decide_eq_false_iff_not, beq_iff_eq, bne_iff_ne, List.length_map, List.length_take] at hc2; omega))) ?_
        refine ch_plain rfl rfl (w_cat rfl (ev_tmp rfl) (ev_tmp rfl) (by first | omega | (simp only [List.length_append, List.length_take, List.length_drop, List.length_cons, List.length_nil]; omega))) ?_
        refine ch_plain rfl rfl (w_assign rfl (ev_tmp rfl)) ?_
        refine ch_nil ?_
        refine awp_region ?_
        refine sq_plain rfl rfl rfl (w_move rfl (ev_tmp rfl)) ?_
        refine sq_plain rfl rfl rfl (w_subi rfl (ev_tmp rfl) ev_ci (by first | omega | ((try simp only [List.length_map, List.length_take, List.length_cons, List.length_nil, chunks_len, szR] at *); omega) | (have hc2 := hc; simp only [Bool.and_eq_true, Bool.or_eq_true, Bool.or_eq_false_iff, Bool.and_eq_false_iff, Bool.not_eq_true', Bool.not_eq_false', decide_eq_true_eq, decide_eq_false_iff_not, beq_iff_eq, bne_iff_ne, List.length_map, List.length_take] at hc2; omega))) ?_
        refine sq_plain rfl rfl rfl (w_assign rfl (ev_tmp rfl)) ?_
        refine sq_nil ?_
        refine round_end3 n cc u (n - 1) (x35.1) (u.take x25.2.toNat ++ u.drop (x25.2 + 1).toNat) ?_ ?_ (le_eq (by rfl) ⟨rfl, rfl, rfl, rfl, rfl, trivial⟩)
        · exact ⟨by omega, by omega, by (rw [show (x25.2 + 1).toNat = x25.2.toNat + 1 by omega]; have := spoil_c u x25.2.toNat; omega)⟩
        · omega
  · intro h19
    refine awp_exit ?_
    refine awp_seq ?_
    refine awp_region ?_
    refine sq_plain rfl rfl rfl (w_move rfl (ev_tmp rfl)) ?_
    refine sq_plain rfl rfl rfl (w_assign rfl (ev_tmp rfl)) ?_
    refine sq_nil ?_
    refine awp_ret ?_
    (refine retG [0] ((cc, u)) ?_ rfl (by first | (dsimp only; rfl) | rfl) (resR rfl (rv_tmp' rfl (by rfl))); exact ⟨show cc.p ≤ _ by omega, show u.length ≤ _ by omega⟩)
end Go.Proofs.YtdgoejkijpllpaaDoor

set_option linter.unusedVariables false
set_option linter.unusedSimpArgs false
namespace Go.M
def cpDel (m : TMove) (w : TWrite) : Bool := !m.Over && !(Op.bytesLess w.Key m.Last || w.Key == m.Last)
def cpWant (m : TMove) (w : TWrite) : Bool := m.Over || (Op.bytesLess w.Key m.Last || w.Key == m.Last)
def isCopied (m : TMove) : Bool × Bool := if (!goodMove m) = true then (false, false) else ((m.Phase == 2) || decide (m.From.filter (fun w => !cpDel m w) = m.To), true)
def l22Copied (m : TMove) : Bool := if m.Phase = 2 then true else decide (m.From.filter (cpWant m) = m.To)
def isCopiedS (m : TMove) : Bool × Bool := if (!goodMoveS m) = true then (false, false) else (l22Copied m, true)
theorem cpDel_eq (m : TMove) : (fun w => !cpDel m w) = cpWant m := by
  funext w; unfold cpDel cpWant
  cases m.Over <;> cases Op.bytesLess w.Key m.Last <;> cases (w.Key == m.Last) <;> rfl
theorem isCopied_eq (m : TMove) : isCopied m = isCopiedS m := by
  unfold isCopied isCopiedS l22Copied
  rw [goodMove_eq, cpDel_eq]
  by_cases h : m.Phase = 2
  · simp [h]
  · have e : (m.Phase == 2) = false := beq_false_of_ne h
    simp [h, e]
def mkMove (low high : Str) (rows : List TWrite) : TMove := ⟨low, high, 1, rows, [], [], false⟩
def noMove : TMove := ⟨[], [], 0, [], [], [], false⟩
def newMove (low high : Str) (rows : List TWrite) : TMove × Bool := if (!goodMove (mkMove low high rows)) = true then (noMove, false) else (mkMove low high rows, true)
def newMoveS (low high : Str) (rows : List TWrite) : TMove × Bool := if (!l22Ends low high || !l22Rows low high rows) = true then (noMove, false) else (mkMove low high rows, true)
theorem newMove_eq (low high : Str) (rows : List TWrite) : newMove low high rows = newMoveS low high rows := by
  unfold newMove newMoveS
  have h : goodMove (mkMove low high rows) = (l22Ends low high && l22Rows low high rows) := by
    rw [goodMove_eq]
    unfold goodMoveS mkMove
    have h1 : l22Rows low high [] = true := rfl
    have h2 : within 1 1 2 = true := rfl
    simp only [h1, h2]
    cases l22Ends low high <;> cases l22Rows low high rows <;> rfl
  rw [h]
  cases l22Ends low high <;> cases l22Rows low high rows <;> rfl
theorem newMove_len (low high : Str) (rows : List TWrite) : (newMove low high rows).1.From.length ≤ rows.length ∧ (newMove low high rows).1.To.length = 0 := by
  unfold newMove; split
  · exact ⟨Nat.zero_le _, rfl⟩
  · exact ⟨Nat.le_refl _, rfl⟩
end Go.M

set_option linter.unusedVariables false
set_option linter.unusedSimpArgs false
namespace Go.M
/-- A write put into rising rows, in the place of one of its key. -/
def ins : List TWrite → TWrite → List TWrite
  | [], w => [w]
  | x :: l, w => if Op.bytesLess x.Key w.Key = true then x :: ins l w else if x.Key = w.Key then w :: l else w :: x :: l
theorem ins_at {w : TWrite} : ∀ {l : List TWrite} {p : Nat}, p ≤ l.length → (∀ i x, i < p → l[i]? = some x → Op.bytesLess x.Key w.Key = true) → (∀ x, l[p]? = some x → Op.bytesLess x.Key w.Key = false) →
    ins l w = if (∃ x, l[p]? = some x ∧ x.Key = w.Key) then l.set p w else l.take p ++ w :: l.drop p
  | [], p, hp, _, _ => by simp at hp; subst hp; simp [ins]
  | x :: l, 0, _, _, h2 => by
    have h := h2 x rfl
    unfold ins
    rw [h]
    by_cases hk : x.Key = w.Key
    · rw [if_neg (by decide), if_pos hk, if_pos ⟨x, rfl, hk⟩]; rfl
    · rw [if_neg (by decide), if_neg hk, if_neg (fun ⟨y, hy, hyk⟩ => by simp at hy; subst hy; exact hk hyk)]; rfl
  | x :: l, p + 1, hp, h1, h2 => by
    have h := h1 0 x (by omega) rfl
    unfold ins
    rw [if_pos h, ins_at (l := l) (p := p) (by simpa using hp) (fun i y hi hy => h1 (i + 1) y (by omega) (by simpa using hy)) (fun y hy => h2 y (by simpa using hy))]
    simp only [List.getElem?_cons_succ, List.set_cons_succ, List.take_succ_cons, List.drop_succ_cons]
    split <;> simp
def putW (l : List TWrite) (w : TWrite) : List TWrite := if wHas l w.Key = true then l.set (wPos l w.Key) w else l.take (wPos l w.Key) ++ w :: l.drop (wPos l w.Key)
theorem bs_le {α : Type} (f : α → Int) (l : List α) : ∀ (d i j : Nat), j - i = d → i ≤ j → j ≤ l.length → bs f l i j ≤ j := by
  intro d
  induction d using Nat.strongRecOn with
  | _ d ih =>
    intro i j hd hij hjl
    by_cases h : i < j
    · obtain ⟨x, hx⟩ := Go.AV.get_some (show (i + j) / 2 < l.length by omega)
      by_cases hf : f x < 0
      · rw [bs_lo h hx hf]
        exact ih (j - ((i + j) / 2 + 1)) (by omega) _ _ rfl (by omega) hjl
      · rw [bs_hi h hx hf]
        exact Nat.le_trans (ih ((i + j) / 2 - i) (by omega) _ _ rfl (by omega) (by omega)) (by omega)
    · rw [bs_end h]; exact hij
theorem wPos_le (l : List TWrite) (k : Str) : wPos l k ≤ l.length := bs_le _ _ _ _ _ rfl (Nat.zero_le _) (Nat.le_refl _)
theorem wHas_iff {l : List TWrite} {k : Str} : wHas l k = true ↔ ∃ x, l[wPos l k]? = some x ∧ x.Key = k := by
  unfold wHas bsAt
  cases h : l[wPos l k]? with
  | none => simp
  | some x => simp [wCmp, cmpStr_zero]
theorem putW_ins {l : List TWrite} (h : adj wLess l = true) (w : TWrite) : putW l w = ins l w := by
  obtain ⟨h1, h2⟩ := wPos_spec h w.Key
  rw [ins_at (wPos_le l w.Key) h1 h2]
  unfold putW
  by_cases hw : wHas l w.Key = true
  · rw [if_pos hw, if_pos (wHas_iff.1 hw)]
  · rw [if_neg hw, if_neg (fun h => hw (wHas_iff.2 h))]
/-- Where the reference's search from behind stops. -/
def scanW (l : List TWrite) (k : Str) : Nat → Nat
  | 0 => 0
  | n + 1 => match l[n]? with
    | some x => if Op.bytesLess k x.Key = true then scanW l k n else n + 1
    | none => n + 1
def hitW (l : List TWrite) (k : Str) : Nat → Bool
  | 0 => false
  | n + 1 => match l[n]? with
    | some x => x.Key == k
    | none => false
def putWS (l : List TWrite) (w : TWrite) : List TWrite :=
  if hitW l w.Key (scanW l w.Key l.length) = true then l.set (scanW l w.Key l.length - 1) w else l.take (scanW l w.Key l.length) ++ w :: l.drop (scanW l w.Key l.length)
theorem scanW_le (l : List TWrite) (k : Str) : ∀ n, scanW l k n ≤ n
  | 0 => Nat.le_refl _
  | n + 1 => by
    unfold scanW
    split
    · split
      · exact Nat.le_succ_of_le (scanW_le l k n)
      · exact Nat.le_refl _
    · exact Nat.le_refl _
theorem scanW_spec (l : List TWrite) (k : Str) : ∀ n, n ≤ l.length → (∀ i x, scanW l k n ≤ i → i < n → l[i]? = some x → Op.bytesLess k x.Key = true) ∧ (∀ x, 0 < scanW l k n → l[scanW l k n - 1]? = some x → Op.bytesLess k x.Key = false)
  | 0, _ => ⟨fun i x h1 h2 => by omega, fun x h => by simp [scanW] at h⟩
  | n + 1, hn => by
    obtain ⟨x, hx⟩ := Go.AV.get_some (show n < l.length by omega)
    have ih := scanW_spec l k n (by omega)
    unfold scanW
    simp only [hx]
    by_cases hb : Op.bytesLess k x.Key = true
    · rw [if_pos hb]
      refine ⟨fun i y h1 h2 hy => ?_, ih.2⟩
      rcases Nat.lt_or_ge i n with h3 | h3
      · exact ih.1 i y h1 h3 hy
      · have : i = n := by omega
        subst this
        rw [hx] at hy; injection hy with hy; subst hy; exact hb
    · rw [if_neg hb]
      refine ⟨fun i y h1 h2 hy => by omega, fun y _ hy => ?_⟩
      rw [Nat.add_sub_cancel, hx] at hy; injection hy with hy; subst hy
      simpa using hb
theorem putWS_ins {l : List TWrite} (h : adj wLess l = true) (w : TWrite) : putWS l w = ins l w := by
  obtain ⟨h1, h2⟩ := scanW_spec l w.Key l.length (Nat.le_refl _)
  have hle := scanW_le l w.Key l.length
  unfold putWS
  generalize scanW l w.Key l.length = k at *
  cases k with
  | zero =>
    rw [if_neg (by simp [hitW]), ins_at (l := l) (p := 0) (Nat.zero_le _) (fun i x h => by omega) (fun x hx => by
      have h3 := h1 0 x (Nat.le_refl _) (List.getElem?_eq_some_iff.1 hx).1 hx
      cases hb : Op.bytesLess x.Key w.Key with
      | false => rfl
      | true => have := bytesLess_trans h3 hb; rw [bytesLess_irrefl] at this; cases this)]
    rw [if_neg]
    intro ⟨x, hx, hk⟩
    have h3 := h1 0 x (Nat.le_refl _) (List.getElem?_eq_some_iff.1 hx).1 hx
    rw [hk, bytesLess_irrefl] at h3; cases h3
  | succ n =>
    obtain ⟨x, hx⟩ := Go.AV.get_some (show n < l.length by omega)
    have h3 := h2 x (by omega) (by simpa using hx)
    have htri := bytesLess_tri x.Key w.Key
    by_cases hk : x.Key = w.Key
    · rw [if_pos (by simp [hitW, hx, hk]), Nat.add_sub_cancel]
      rw [ins_at (l := l) (p := n) (by omega) (fun i y hi hy => by have := adj_get wLess_trans h hi hy hx; unfold wLess at this; rw [hk] at this; exact this) (fun y hy => by rw [hx] at hy; injection hy with hy; subst hy; rw [hk, bytesLess_irrefl])]
      rw [if_pos ⟨x, hx, hk⟩]
    · have hlt : Op.bytesLess x.Key w.Key = true := by rw [h3] at htri; cases hb : Op.bytesLess x.Key w.Key with | true => rfl | false => (rw [hb] at htri; simp at htri; exact absurd htri.symm hk)
      rw [if_neg (by simp [hitW, hx, hk])]
      have hno : ∀ y, l[n + 1]? = some y → Op.bytesLess w.Key y.Key = true := fun y hy => h1 (n + 1) y (Nat.le_refl _) (List.getElem?_eq_some_iff.1 hy).1 hy
      rw [ins_at (l := l) (p := n + 1) hle (fun i y hi hy => by
        rcases Nat.lt_or_ge i n with h4 | h4
        · have := adj_get wLess_trans h h4 hy hx
          exact bytesLess_trans this hlt
        · have : i = n := by omega
          subst this
          rw [hx] at hy; injection hy with hy; subst hy; exact hlt) (fun y hy => by
        cases hb : Op.bytesLess y.Key w.Key with
        | false => rfl
        | true => have := bytesLess_trans (hno y hy) hb; rw [bytesLess_irrefl] at this; cases this)]
      rw [if_neg]
      intro ⟨y, hy, hyk⟩
      have := hno y hy
      rw [hyk, bytesLess_irrefl] at this; cases this
theorem putW_eq {l : List TWrite} (h : adj wLess l = true) (w : TWrite) : putW l w = putWS l w := (putW_ins h w).trans (putWS_ins h w).symm
/-! ### What putting in keeps -/
theorem adj_pair {α : Type} {p : α → α → Bool} (tr : ∀ a b c, p a b = true → p b c = true → p a c = true) : ∀ {l : List α}, adj p l = true ↔ l.Pairwise fun a b => p a b = true
  | [] => by simp [adj]
  | [x] => by simp [adj]
  | x :: y :: l => by
    rw [adj, Bool.and_eq_true, adj_pair tr, List.pairwise_cons (a := x)]
    constructor
    · intro ⟨h1, h2⟩
      refine ⟨fun z hz => ?_, h2⟩
      rcases List.mem_cons.1 hz with rfl | hz
      · exact h1
      · exact tr _ _ _ h1 (List.rel_of_pairwise_cons h2 hz)
    · intro ⟨h1, h2⟩
      exact ⟨h1 y List.mem_cons_self, h2⟩
theorem adj_filter {l : List TWrite} (q : TWrite → Bool) (h : adj wLess l = true) : adj wLess (l.filter q) = true :=
  (adj_pair wLess_trans).2 (((adj_pair wLess_trans).1 h).filter q)
theorem adj_take {l : List TWrite} (n : Nat) (h : adj wLess l = true) : adj wLess (l.take n) = true :=
  (adj_pair wLess_trans).2 (((adj_pair wLess_trans).1 h).sublist (List.take_sublist n l))
theorem ins_mem {w x : TWrite} : ∀ {l : List TWrite}, x ∈ ins l w → x = w ∨ x ∈ l
  | [], h => by simp [ins] at h; exact .inl h
  | y :: l, h => by
    unfold ins at h
    split at h
    · rcases List.mem_cons.1 h with rfl | h
      · exact .inr List.mem_cons_self
      · exact (ins_mem h).imp id (List.mem_cons_of_mem _)
    · split at h
      · rcases List.mem_cons.1 h with rfl | h
        · exact .inl rfl
        · exact .inr (List.mem_cons_of_mem _ h)
      · rcases List.mem_cons.1 h with rfl | h
        · exact .inl rfl
        · exact .inr h
theorem ins_adj {w : TWrite} : ∀ {l : List TWrite}, adj wLess l = true → adj wLess (ins l w) = true
  | [], _ => rfl
  | y :: l, h => by
    have hp := (adj_pair wLess_trans).1 h
    refine (adj_pair wLess_trans).2 ?_
    unfold ins
    split
    · rename_i hlt
      have ih := (adj_pair wLess_trans).1 (ins_adj (w := w) (adj_tail h))
      refine List.pairwise_cons.2 ⟨fun z hz => ?_, ih⟩
      rcases ins_mem hz with rfl | hz
      · exact hlt
      · exact List.rel_of_pairwise_cons hp hz
    · rename_i hnlt
      split
      · rename_i hk
        refine List.pairwise_cons.2 ⟨fun z hz => ?_, (List.pairwise_cons.1 hp).2⟩
        have := List.rel_of_pairwise_cons hp hz
        unfold wLess at this ⊢
        rw [← hk]; exact this
      · rename_i hk
        have hgt : Op.bytesLess w.Key y.Key = true := by
          have := bytesLess_tri y.Key w.Key
          cases hb : Op.bytesLess w.Key y.Key with
          | true => rfl
          | false => rw [hb] at this; simp at hnlt; rw [hnlt] at this; simp at this; exact absurd this.symm hk
        refine List.pairwise_cons.2 ⟨fun z hz => ?_, hp⟩
        rcases List.mem_cons.1 hz with rfl | hz
        · exact hgt
        · exact bytesLess_trans hgt (List.rel_of_pairwise_cons hp hz)
theorem ins_len {w : TWrite} : ∀ {l : List TWrite}, l.length ≤ (ins l w).length ∧ (ins l w).length ≤ l.length + 1
  | [] => by simp [ins]
  | y :: l => by
    unfold ins
    have ih := ins_len (w := w) (l := l)
    split
    · simp; omega
    · split <;> simp
theorem gt_less (a b : Str) : (!(Op.bytesLess a b || a == b)) = Op.bytesLess b a := by
  have h := bytesLess_tri a b
  cases h1 : Op.bytesLess a b
  · cases h2 : Op.bytesLess b a
    · rw [h1, h2] at h; simp at h; simp [h]
    · simp; intro hc; subst hc; rw [bytesLess_irrefl] at h2; cases h2
  · simp; cases h2 : Op.bytesLess b a with
    | false => rfl
    | true => have := bytesLess_trans h1 h2; rw [bytesLess_irrefl] at this; cases this
theorem scanW_step {l : List TWrite} {k : Str} {n : Nat} {x : TWrite} (hx : l[n]? = some x) (h : Op.bytesLess k x.Key = true) : scanW l k (n + 1) = scanW l k n := by
  conv => lhs; unfold scanW
  simp only [hx, h, if_true]
theorem scanW_stop {l : List TWrite} {k : Str} {n : Nat} {x : TWrite} (hx : l[n]? = some x) (h : Op.bytesLess k x.Key = false) : scanW l k (n + 1) = n + 1 := by
  unfold scanW
  simp only [hx, h, Bool.false_eq_true, if_false]
def insL (l ws : List TWrite) : List TWrite := ws.foldl ins l
theorem insL_adj : ∀ {ws l : List TWrite}, adj wLess l = true → adj wLess (insL l ws) = true
  | [], _, h => h
  | w :: ws, l, h => insL_adj (ws := ws) (ins_adj h)
theorem insL_mem {x : TWrite} : ∀ {ws l : List TWrite}, x ∈ insL l ws → x ∈ ws ∨ x ∈ l
  | [], _, h => .inr h
  | w :: ws, l, h => by
    rcases insL_mem (ws := ws) (l := ins l w) h with h | h
    · exact .inl (List.mem_cons_of_mem _ h)
    · rcases ins_mem h with rfl | h
      · exact .inl List.mem_cons_self
      · exact .inr h
theorem insL_len : ∀ {ws l : List TWrite}, (insL l ws).length ≤ l.length + ws.length
  | [], l => by simp [insL]
  | w :: ws, l => by
    have h1 := insL_len (ws := ws) (l := ins l w)
    have h2 := (ins_len (w := w) (l := l)).2
    show (insL (ins l w) ws).length ≤ _
    simp only [List.length_cons]; omega
def putL (l ws : List TWrite) : List TWrite := ws.foldl putW l
def putLS (l ws : List TWrite) : List TWrite := ws.foldl putWS l
theorem putL_ins : ∀ {ws l : List TWrite}, adj wLess l = true → putL l ws = insL l ws
  | [], _, _ => rfl
  | w :: ws, l, h => by
    show putL (putW l w) ws = insL (ins l w) ws
    rw [putW_ins h, putL_ins (ins_adj h)]
theorem putLS_ins : ∀ {ws l : List TWrite}, adj wLess l = true → putLS l ws = insL l ws
  | [], _, _ => rfl
  | w :: ws, l, h => by
    show putLS (putWS l w) ws = insL (ins l w) ws
    rw [putWS_ins h, putLS_ins (ins_adj h)]
theorem putWS_len (l : List TWrite) (w : TWrite) : (putWS l w).length ≤ l.length + 1 := by
  unfold putWS; split
  · simp
  · simp; omega
theorem putW_len (l : List TWrite) (w : TWrite) : (putW l w).length ≤ l.length + 1 := by
  unfold putW; split
  · simp
  · simp; omega
theorem putLS_len : ∀ (ws l : List TWrite), (putLS l ws).length ≤ l.length + ws.length
  | [], l => by simp [putLS]
  | w :: ws, l => by
    have h1 := putLS_len ws (putWS l w)
    have h2 := putWS_len l w
    show (putLS (putWS l w) ws).length ≤ _
    simp only [List.length_cons]; omega
theorem putL_len : ∀ (ws l : List TWrite), (putL l ws).length ≤ l.length + ws.length
  | [], l => by simp [putL]
  | w :: ws, l => by
    have h1 := putL_len ws (putW l w)
    have h2 := putW_len l w
    show (putL (putW l w) ws).length ≤ _
    simp only [List.length_cons]; omega
theorem putL_snoc (l ws : List TWrite) (w : TWrite) : putL l (ws ++ [w]) = putW (putL l ws) w := by unfold putL; rw [List.foldl_append]; rfl
theorem putLS_snoc (l ws : List TWrite) (w : TWrite) : putLS l (ws ++ [w]) = putWS (putLS l ws) w := by unfold putLS; rw [List.foldl_append]; rfl
def livesL (l : List TWrite) : List TWrite := l.filter fun w => !w.Gone
/-- The program's putRows. -/
def putRows (rows ws : List TWrite) : List TWrite × Bool := if (24 : Int) < ((livesL (putL rows ws)).length : Int) then ([], false) else (livesL (putL rows ws), true)
/-- The reference's PutRows. -/
def putRowsS (rows ws : List TWrite) : List TWrite × Bool := if (!l5Rows rows || !l3Writes ws || !l5Rows (livesL (putLS rows ws))) = true then ([], false) else (livesL (putLS rows ws), true)
theorem l5_adj {l : List TWrite} (h : l5Rows l = true) : adj wLess l = true := by
  unfold l5Rows l3Writes at h; simp only [Bool.and_eq_true] at h; exact h.2.1.2
theorem l5_all {l : List TWrite} (h : l5Rows l = true) : ∀ w ∈ l, w.Gone = false ∧ wGood w = true := by
  unfold l5Rows l3Writes at h; simp only [Bool.and_eq_true, List.all_eq_true] at h
  exact fun w hw => ⟨by simpa using h.1 w hw, h.2.1.1 w hw⟩
theorem l5_len {l : List TWrite} (h : l5Rows l = true) : l.length ≤ 24 := by
  unfold l5Rows l3Writes at h; simp only [Bool.and_eq_true, decide_eq_true_eq] at h; omega
theorem l5_mk {l : List TWrite} (h1 : adj wLess l = true) (h2 : ∀ w ∈ l, w.Gone = false ∧ wGood w = true) : l5Rows l = decide ((l.length : Int) ≤ 24) := by
  unfold l5Rows l3Writes
  have h3 : (l.all fun w => !w.Gone) = true := List.all_eq_true.2 fun w hw => by simp [(h2 w hw).1]
  have h4 : l.all wGood = true := List.all_eq_true.2 fun w hw => (h2 w hw).2
  rw [h1, h3, h4]; simp
theorem live_all {rows ws : List TWrite} (hr : l5Rows rows = true) (hw : ∀ w ∈ ws, wGood w = true) : ∀ w ∈ livesL (insL rows ws), w.Gone = false ∧ wGood w = true := fun w h => by
  obtain ⟨h1, h2⟩ := List.mem_filter.1 h
  refine ⟨by simpa using h2, ?_⟩
  rcases insL_mem h1 with h3 | h3
  · exact hw w h3
  · exact (l5_all hr w h3).2
theorem putRows_eq {rows ws : List TWrite} (hr : l5Rows rows = true) (hw : l3Writes ws = true) : putRows rows ws = putRowsS rows ws := by
  have ha := l5_adj hr
  have hg : ∀ w ∈ ws, wGood w = true := by unfold l3Writes at hw; simp only [Bool.and_eq_true, List.all_eq_true] at hw; exact hw.1.1
  unfold putRows putRowsS
  rw [putL_ins ha, putLS_ins ha, hr, hw, l5_mk (l := livesL (insL rows ws)) (adj_filter _ (insL_adj ha)) (live_all hr hg)]
  by_cases h : (24 : Int) < ((livesL (insL rows ws)).length : Int)
  · rw [if_pos h, if_pos (by simp; omega)]
  · rw [if_neg h, if_neg (by simp; omega)]
theorem sizeW_app {α : Type} (f : α → Nat) (a b : List α) : sizeL f (a ++ b) = sizeL f a + sizeL f b := by
  unfold sizeL; simp only [List.length_append, List.map_append, List.sum_append]; omega
theorem sizeW_cons {α : Type} (f : α → Nat) (x : α) (b : List α) : sizeL f (x :: b) = f x + 1 + sizeL f b := by
  unfold sizeL; simp only [List.length_cons, List.map_cons, List.sum_cons]; omega
theorem sizeW_ins {α : Type} (f : α → Nat) (l : List α) (n : Nat) (x : α) : sizeL f (l.take n ++ x :: l.drop n) = sizeL f l + f x + 1 := by
  have h := congrArg (sizeL f) (List.take_append_drop n l)
  rw [sizeW_app] at h
  rw [sizeW_app, sizeW_cons]; omega
theorem sizeW_set {α : Type} (f : α → Nat) (x : α) : ∀ (l : List α) (n : Nat), sizeL f (l.set n x) ≤ sizeL f l + f x
  | [], n => by simp
  | y :: l, 0 => by rw [List.set_cons_zero, sizeW_cons, sizeW_cons]; omega
  | y :: l, n + 1 => by rw [List.set_cons_succ, sizeW_cons, sizeW_cons]; have := sizeW_set f x l n; omega
theorem sizeW_sub {α : Type} {f : α → Nat} {l m : List α} (h : List.Sublist m l) : sizeL f m ≤ sizeL f l := by
  induction h with
  | slnil => exact Nat.le_refl _
  | cons x h ih => rw [sizeW_cons]; omega
  | cons_cons x h ih => rw [sizeW_cons, sizeW_cons]; omega
theorem putWS_size (l : List TWrite) (w : TWrite) : sizeL TWrite.size (putWS l w) ≤ sizeL TWrite.size l + w.size + 1 := by
  unfold putWS; split
  · have := sizeW_set TWrite.size w l (scanW l w.Key l.length - 1); omega
  · rw [sizeW_ins]; omega
theorem putLS_size : ∀ (ws l : List TWrite), sizeL TWrite.size (putLS l ws) ≤ sizeL TWrite.size l + sizeL TWrite.size ws
  | [], l => by simp [putLS]
  | w :: ws, l => by
    have h1 := putLS_size ws (putWS l w)
    have h2 := putWS_size l w
    show sizeL TWrite.size (putLS (putWS l w) ws) ≤ _
    rw [sizeW_cons]; omega
theorem livesL_size (l : List TWrite) : sizeL TWrite.size (livesL l) ≤ sizeL TWrite.size l := sizeW_sub (List.filter_sublist)
theorem livesL_id {l : List TWrite} (h : ∀ w ∈ l, w.Gone = false) : livesL l = l := by
  unfold livesL; rw [List.filter_eq_self]; intro w hw; simp [h w hw]
end Go.M

set_option linter.unusedVariables false
set_option linter.unusedSimpArgs false
namespace Go.M
def sleM (a b : Str) : Bool := Op.bytesLess a b || a == b
def putR1 (m : TMove) (w : TWrite) : List TWrite × Bool := if m.Phase = 1 then putRows m.From [w] else (m.From, true)
def putR2 (m : TMove) (w : TWrite) : List TWrite × Bool := if (m.Phase == 2 || m.Over || sleM w.Key m.Last) = true then putRows m.To [w] else (m.To, true)
def putM (m : TMove) (w : TWrite) : TMove × Bool := if ((putR1 m w).2 && (putR2 m w).2) = true then (⟨m.Low, m.High, m.Phase, (putR1 m w).1, (putR2 m w).1, m.Last, m.Over⟩, true) else (m, false)
def restM (m : TMove) : List TWrite := m.From.filter fun w => !sleM w.Key m.Last
def minI (a b : Int) : Int := if b < a then b else a
def pieceOf (m : TMove) (many : Int) : List TWrite := (restM m).take (minI many (restM m).length).toNat
def lastKey (l : List TWrite) (d : Str) : Str := match l.getLast? with
  | some w => w.Key
  | none => d
theorem lastKey_some {l : List TWrite} {d : Str} {y : TWrite} (h : l[l.length - 1]? = some y) : lastKey l d = y.Key := by
  unfold lastKey; rw [List.getLast?_eq_getElem?, h]
theorem lastKey_take {l : List TWrite} {d : Str} {y : TWrite} {i : Nat} (h : l[i]? = some y) : lastKey (l.take (i + 1)) d = y.Key := by
  unfold lastKey; rw [List.take_add_one, h]; simp
theorem lastKey_none {l : List TWrite} {d : Str} (h : l.length = 0) : lastKey l d = d := by
  rw [List.eq_nil_of_length_eq_zero h]; rfl
def pieceM (m : TMove) (many : Int) : TMove × Bool :=
  if (putRows m.To (pieceOf m many)).2 = false then (m, false)
  else (⟨m.Low, m.High, m.Phase, m.From, (putRows m.To (pieceOf m many)).1, lastKey (pieceOf m many) m.Last, m.Over || (((pieceOf m many).length : Int) == ((restM m).length : Int))⟩, true)
def stepM (m : TMove) (a : TMoveAct) : TMove × Bool :=
  if a.Kind = 1 then putM m a.Write
  else if m.Phase ≠ 1 then (m, false)
  else if a.Kind = 2 then pieceM m a.Many
  else if ((a.Kind == 3) && m.Over) = true then (⟨m.Low, m.High, 2, [], m.To, [], false⟩, true)
  else if a.Kind = 4 then (⟨m.Low, m.High, m.Phase, m.From, [], [], false⟩, true)
  else (m, false)
def stepMove (m : TMove) (a : TMoveAct) : TMove × Bool × Bool := if (goodMove m && isMoveAct m a) = true then ((stepM m a).1, (stepM m a).2, true) else (noMove, false, false)
/-! ### The reference -/
def putBoth (m : TMove) (w : TWrite) : Bool := m.Phase == 2 || m.Over || sleM w.Key m.Last
def putBad (m : TMove) (w : TWrite) : Bool := ((m.Phase == 1) && !(putRowsS m.From [w]).2) || (putBoth m w && !(putRowsS m.To [w]).2)
def putMS (m : TMove) (w : TWrite) : TMove × Bool :=
  if putBad m w = true then (m, false)
  else (⟨m.Low, m.High, m.Phase, if m.Phase = 1 then (putRowsS m.From [w]).1 else m.From, if putBoth m w = true then (putRowsS m.To [w]).1 else m.To, m.Last, m.Over⟩, true)
def leastI (a b : Int) : Int := if a < b then a else b
def gtLast (m : TMove) (w : TWrite) : Bool := !(Op.bytesLess w.Key m.Last || w.Key == m.Last)
def leftM (m : TMove) : List TWrite := m.From.filter (gtLast m)
def pieceS (m : TMove) (many : Int) : List TWrite := (leftM m).take (leastI many (leftM m).length).toNat
def pieceMS (m : TMove) (many : Int) : TMove :=
  ⟨m.Low, m.High, m.Phase, m.From, putLS m.To (pieceS m many), lastKey (pieceS m many) m.Last, m.Over || (leastI many (leftM m).length == ((leftM m).length : Int))⟩
def doS (m : TMove) (a : TMoveAct) : TMove × Bool :=
  if a.Kind = 1 then putMS m a.Write
  else if ((m.Phase != 1) || ((a.Kind == 3) && !m.Over)) = true then (m, false)
  else if a.Kind = 2 then (pieceMS m a.Many, goodMoveS (pieceMS m a.Many))
  else if a.Kind = 3 then (⟨m.Low, m.High, 2, [], m.To, [], false⟩, true)
  else (⟨m.Low, m.High, 1, m.From, [], [], false⟩, true)
def stepMS (m : TMove) (a : TMoveAct) : TMove × Bool := if (doS m a).2 = true then ((doS m a).1, true) else (m, false)
def stepMoveS (m : TMove) (a : TMoveAct) : TMove × Bool × Bool := if (goodMoveS m && l22Good m a) = true then ((stepMS m a).1, (stepMS m a).2, true) else (noMove, false, false)
end Go.M

set_option linter.unusedVariables false
set_option linter.unusedSimpArgs false
namespace Go.M
theorem lastKey_len (l : List TWrite) (d : Str) : (lastKey l d).length ≤ sizeL TWrite.size l + d.length := by
  unfold lastKey
  split
  · rename_i w hw
    have h := sizeL_mem (f := TWrite.size) (List.mem_of_getLast? hw)
    have h2 : w.Key.length ≤ w.size := Nat.le_add_right _ _
    omega
  · omega
theorem pieceS_size (m : TMove) (many : Int) : sizeL TWrite.size (pieceS m many) ≤ sizeL TWrite.size m.From :=
  sizeW_sub ((List.take_sublist _ _).trans List.filter_sublist)
theorem pieceMS_size (m : TMove) (many : Int) : (pieceMS m many).size ≤ 3 * m.size := by
  have h1 := pieceS_size m many
  have h2 := lastKey_len (pieceS m many) m.Last
  have h3 := putLS_size (pieceS m many) m.To
  unfold TMove.size pieceMS
  simp only
  omega
/-! ### A good migration is small -/
theorem within_iff {n a b : Int} : within n a b = true ↔ a ≤ n ∧ n ≤ b := by unfold within; simp
theorem goodKey_len {k : Str} (h : goodKey k = true) : k.length ≤ 12 := by
  unfold goodKey at h; simp only [Bool.and_eq_true, within_iff] at h; omega
theorem l3Key_len {k : Str} (h : l3Key k = true) : k.length ≤ 12 := by
  unfold l3Key at h; simp only [Bool.and_eq_true, within_iff] at h; omega
theorem wGood_size {w : TWrite} (h : wGood w = true) : w.size ≤ 36 := by
  unfold wGood l3Write at h
  simp only [Bool.and_eq_true] at h
  have h1 := l3Key_len h.1.1
  have h2 := h.1.2
  unfold l3Val at h2
  simp only [Bool.and_eq_true, decide_eq_true_eq] at h2
  unfold TWrite.size; omega
theorem sizeL_le {α : Type} {f : α → Nat} {c : Nat} : ∀ {l : List α}, (∀ x ∈ l, f x ≤ c) → sizeL f l ≤ l.length * (c + 1)
  | [], _ => by simp [sizeL]
  | x :: l, h => by
    rw [sizeW_cons]
    have h1 := h x List.mem_cons_self
    have h2 := sizeL_le (l := l) (f := f) (c := c) fun y hy => h y (List.mem_cons_of_mem _ hy)
    simp only [List.length_cons, Nat.add_mul, Nat.one_mul]; omega
theorem rows_size {l : List TWrite} (h : l5Rows l = true) : sizeL TWrite.size l ≤ 888 := by
  have h1 := sizeL_le (f := TWrite.size) (c := 36) fun w hw => wGood_size (l5_all h w hw).2
  have h2 := l5_len h
  omega
theorem goodMove_l5 {m : TMove} (h : goodMove m = true) : l5Rows m.From = true ∧ l5Rows m.To = true := by
  obtain ⟨_, h1, h2⟩ := goodMove_rows h
  unfold areInRange at h1 h2
  simp only [Bool.and_eq_true] at h1 h2
  rw [isRows_eq] at h1 h2
  exact ⟨h1.1, h2.1⟩
theorem goodMove_parts {m : TMove} (h : goodMove m = true) : m.Low.length ≤ 12 ∧ m.High.length ≤ 12 ∧ m.Last.length ≤ 12 := by
  have h0 := goodMove_rows h
  have h1 := h0.1
  unfold areEnds at h1
  simp only [Bool.and_eq_true, Bool.or_eq_true, beq_iff_eq] at h1
  refine ⟨?_, ?_, ?_⟩
  · rcases h1.1 with h2 | h2
    · rw [h2]; decide
    · exact goodKey_len h2
  · rcases h1.2 with h2 | h2
    · rw [h2]; decide
    · exact goodKey_len h2.1
  · rw [goodMove_eq] at h
    unfold goodMoveS at h
    split at h
    · cases h
    · rename_i hh
      simp only [Bool.or_eq_true, not_or, Bool.and_eq_true, not_and, bne_iff_ne, ne_eq] at hh
      by_cases hl : m.Last = []
      · rw [hl]; decide
      · have := hh.2 hl
        exact l3Key_len (by simpa using this)
theorem goodMove_size {m : TMove} (h : goodMove m = true) : m.size ≤ 2048 := by
  obtain ⟨h1, h2⟩ := goodMove_l5 h
  obtain ⟨h3, h4, h5⟩ := goodMove_parts h
  have h6 := rows_size h1
  have h7 := rows_size h2
  unfold TMove.size; omega
theorem isMoveAct_w {m : TMove} {a : TMoveAct} (h : isMoveAct m a = true) : a.Write.size ≤ 36 := by
  rw [isMoveAct_eq] at h
  unfold l22Good at h
  split at h
  · simp only [Bool.and_eq_true] at h
    exact wGood_size h.1.1
  · split at h
    · simp only [Bool.and_eq_true, wEq_dec, decide_eq_true_eq] at h
      rw [h.1]; decide
    · split at h
      · simp only [Bool.and_eq_true, wEq_dec, decide_eq_true_eq] at h
        rw [h.1]; decide
      · cases h
theorem act_kind {m : TMove} {a : TMoveAct} (h : isMoveAct m a = true) : a.Kind = 1 ∨ a.Kind = 2 ∨ a.Kind = 3 ∨ a.Kind = 4 := by
  unfold isMoveAct at h
  split at h
  · omega
  · split at h
    · omega
    · split at h
      · omega
      · cases h
theorem act_put {m : TMove} {a : TMoveAct} (h : isMoveAct m a = true) (k : a.Kind = 1) : l3Writes [a.Write] = true ∧ inRange m.Low m.High a.Write.Key = true ∧ a.Many = 0 := by
  unfold isMoveAct at h
  rw [if_pos k] at h
  simp only [Bool.and_eq_true, beq_iff_eq] at h
  rw [goodWrites_eq] at h
  exact ⟨h.1.2, h.2, h.1.1⟩
theorem act_many0 {m : TMove} {a : TMoveAct} (h : isMoveAct m a = true) (k : a.Kind = 2) : 0 ≤ a.Many := by
  unfold isMoveAct at h
  rw [if_neg (by omega), if_pos k] at h
  simp only [Bool.and_eq_true, within_iff] at h
  omega
theorem putM_eq {m : TMove} {w : TWrite} (hg : goodMove m = true) (hw : l3Writes [w] = true) : putM m w = if (putMS m w).2 = true then ((putMS m w).1, true) else (m, false) := by
  obtain ⟨h1, h2⟩ := goodMove_l5 hg
  have e1 := putRows_eq h1 hw
  have e2 := putRows_eq h2 hw
  have r1 : putR1 m w = if m.Phase = 1 then putRowsS m.From [w] else (m.From, true) := by unfold putR1; rw [e1]
  have r2 : putR2 m w = if putBoth m w = true then putRowsS m.To [w] else (m.To, true) := by unfold putR2 putBoth; rw [e2]
  unfold putM putMS putBad
  rw [r1, r2]
  generalize putRowsS m.From [w] = A
  generalize putRowsS m.To [w] = B
  obtain ⟨A1, A2⟩ := A
  obtain ⟨B1, B2⟩ := B
  generalize putBoth m w = t
  by_cases hp : m.Phase = 1
  · have hb : (m.Phase == 1) = true := by simp [hp]
    simp only [hp, if_true]
    cases A2 <;> cases B2 <;> cases t <;> simp
  · have hb : (m.Phase == 1) = false := beq_false_of_ne hp
    simp only [hp, if_false, hb]
    cases B2 <;> cases t <;> simp
theorem minI_eq (a b : Int) : minI a b = leastI a b := by unfold minI leastI; split <;> split <;> omega
theorem pieceOf_eq (m : TMove) (many : Int) : pieceOf m many = pieceS m many := by
  unfold pieceOf pieceS; rw [minI_eq]; rfl
theorem pieceS_len (m : TMove) {many : Int} (h : 0 ≤ many) : ((pieceS m many).length : Int) = leastI many (leftM m).length := by
  unfold pieceS; rw [List.length_take]
  unfold leastI; split <;> omega
theorem lastKey_or (l : List TWrite) (d : Str) : lastKey l d = d ∨ ∃ w ∈ l, lastKey l d = w.Key := by
  unfold lastKey
  split
  · rename_i w hw; exact .inr ⟨w, List.mem_of_getLast? hw, rfl⟩
  · exact .inl rfl
theorem piece_mem {m : TMove} {many : Int} {w : TWrite} (h : w ∈ pieceS m many) : w ∈ m.From := (List.mem_filter.1 (List.mem_of_mem_take h)).1
theorem inRow {m : TMove} {l : List TWrite} (h : areInRange m l = true) : l5Rows l = true ∧ ∀ w ∈ l, inRange m.Low m.High w.Key = true := by
  rw [areInRange_eq] at h
  unfold l22Rows at h
  simp only [Bool.and_eq_true, List.all_eq_true] at h
  exact ⟨h.2, h.1⟩
theorem pieceMS_good {m : TMove} (hg : goodMove m = true) (hp : m.Phase = 1) (many : Int) : goodMoveS (pieceMS m many) = decide (((insL m.To (pieceS m many)).length : Int) ≤ 24) := by
  obtain ⟨h0, h1, h2⟩ := goodMove_rows hg
  obtain ⟨h3, h4⟩ := inRow h1
  obtain ⟨h5, h6⟩ := inRow h2
  have hl := (goodMove_parts hg).2.2
  have hadj := insL_adj (ws := pieceS m many) (l5_adj h5)
  have hall : ∀ w ∈ insL m.To (pieceS m many), w.Gone = false ∧ wGood w = true := fun w hw => by
    rcases insL_mem hw with h | h
    · exact l5_all h3 w (piece_mem h)
    · exact l5_all h5 w h
  have hin : (insL m.To (pieceS m many)).all (fun w => inRange m.Low m.High w.Key) = true := List.all_eq_true.2 fun w hw => by
    rcases insL_mem hw with h | h
    · exact h4 w (piece_mem h)
    · exact h6 w h
  have hrow : l22Rows m.Low m.High (insL m.To (pieceS m many)) = decide (((insL m.To (pieceS m many)).length : Int) ≤ 24) := by
    unfold l22Rows; rw [hin, l5_mk hadj hall, Bool.true_and]
  have hlast : (lastKey (pieceS m many) m.Last != [] && !l3Key (lastKey (pieceS m many) m.Last)) = false := by
    rcases lastKey_or (pieceS m many) m.Last with h | ⟨w, hw, h⟩
    · rw [h]
      rw [goodMove_eq] at hg
      unfold goodMoveS at hg
      split at hg
      · cases hg
      · rename_i hh
        simp only [Bool.or_eq_true, not_or] at hh
        simpa using hh.2
    · rw [h]
      have := (l5_all h3 w (piece_mem hw)).2
      unfold wGood l3Write at this
      simp only [Bool.and_eq_true] at this
      rw [this.1.1]; simp
  unfold goodMoveS pieceMS
  simp only
  rw [putLS_ins (l5_adj h5), hrow, hlast, ← areInRange_eq, h1, ← areEnds_eq, h0, hp]
  by_cases hn : ((insL m.To (pieceS m many)).length : Int) ≤ 24
  · simp [hn, within]
  · simp [hn, within]
theorem stepMS_of {m n : TMove} {a : TMoveAct} {b : Bool} (h : doS m a = (n, b)) : stepMS m a = if b = true then (n, true) else (m, false) := by unfold stepMS; rw [h]
theorem stepM_eq {m : TMove} {a : TMoveAct} (hg : goodMove m = true) (ha : isMoveAct m a = true) : stepM m a = stepMS m a := by
  by_cases h1 : a.Kind = 1
  · have hd : doS m a = putMS m a.Write := by unfold doS; rw [if_pos h1]
    unfold stepM stepMS
    rw [if_pos h1, hd, putM_eq hg (act_put ha h1).1]
  · by_cases hp : m.Phase = 1
    · have hb : (m.Phase != 1) = false := by simp [hp]
      by_cases h2 : a.Kind = 2
      · have h3 : (a.Kind == 3) = false := beq_false_of_ne (by omega)
        have hd : doS m a = (pieceMS m a.Many, goodMoveS (pieceMS m a.Many)) := by unfold doS; rw [if_neg h1, hb, h3, if_neg (by simp), if_pos h2]
        have hs : stepM m a = pieceM m a.Many := by unfold stepM; rw [if_neg h1, if_neg (by omega), if_pos h2]
        rw [stepMS_of hd, hs]
        obtain ⟨h5, h6⟩ := goodMove_l5 hg
        have hadj := l5_adj h6
        have hlive : livesL (insL m.To (pieceS m a.Many)) = insL m.To (pieceS m a.Many) := livesL_id fun w hw => by
          rcases insL_mem hw with h | h
          · exact (l5_all h5 w (piece_mem h)).1
          · exact (l5_all h6 w h).1
        unfold pieceM
        rw [pieceOf_eq, pieceMS_good hg hp, pieceS_len m (act_many0 ha h2)]
        unfold putRows
        rw [putL_ins hadj, hlive]
        by_cases hn : ((insL m.To (pieceS m a.Many)).length : Int) ≤ 24
        · have hn2 : ¬ (24 : Int) < ((insL m.To (pieceS m a.Many)).length : Int) := by omega
          have hn3 : decide (((insL m.To (pieceS m a.Many)).length : Int) ≤ 24) = true := decide_eq_true hn
          rw [if_neg hn2, hn3, if_pos rfl, if_neg (by simp)]
          unfold pieceMS
          rw [putLS_ins hadj]
          rfl
        · have hn2 : (24 : Int) < ((insL m.To (pieceS m a.Many)).length : Int) := by omega
          have hn3 : decide (((insL m.To (pieceS m a.Many)).length : Int) ≤ 24) = false := decide_eq_false hn
          rw [if_pos hn2, hn3, if_pos rfl, if_neg (by decide)]
      · by_cases h3 : a.Kind = 3
        · have hb3 : (a.Kind == 3) = true := by simp [h3]
          cases ho : m.Over
          · have hd : doS m a = (m, false) := by unfold doS; rw [if_neg h1, hb3, ho, if_pos (by simp)]
            have hs : stepM m a = (m, false) := by unfold stepM; rw [if_neg h1, if_neg (by omega), if_neg h2, hb3, ho, if_neg (by simp), if_neg (by omega)]
            rw [stepMS_of hd, hs]; rfl
          · have hd : doS m a = (⟨m.Low, m.High, 2, [], m.To, [], false⟩, true) := by unfold doS; rw [if_neg h1, hb, ho, if_neg (by simp), if_neg h2, if_pos h3]
            have hs : stepM m a = (⟨m.Low, m.High, 2, [], m.To, [], false⟩, true) := by unfold stepM; rw [if_neg h1, if_neg (by omega), if_neg h2, hb3, ho, if_pos (by simp)]
            rw [stepMS_of hd, hs]; rfl
        · have hb3 : (a.Kind == 3) = false := beq_false_of_ne h3
          have h4 : a.Kind = 4 := by have := act_kind ha; omega
          have hd : doS m a = (⟨m.Low, m.High, 1, m.From, [], [], false⟩, true) := by unfold doS; rw [if_neg h1, hb, hb3, if_neg (by simp), if_neg h2, if_neg h3]
          have hs : stepM m a = (⟨m.Low, m.High, 1, m.From, [], [], false⟩, true) := by unfold stepM; rw [if_neg h1, if_neg (by omega), if_neg h2, hb3, if_neg (by simp), if_pos h4, hp]
          rw [stepMS_of hd, hs]; rfl
    · have hb : (m.Phase != 1) = true := by simpa using hp
      have hd : doS m a = (m, false) := by unfold doS; rw [if_neg h1, hb, if_pos (by simp)]
      have hs : stepM m a = (m, false) := by unfold stepM; rw [if_neg h1, if_pos hp]
      rw [stepMS_of hd, hs]; rfl
theorem move_lens {m : TMove} (h : m.size ≤ 1048576) : m.From.length ≤ 1048576 ∧ m.To.length ≤ 1048576 := by
  have h1 := sizeL_len (f := TWrite.size) (l := m.From)
  have h2 := sizeL_len (f := TWrite.size) (l := m.To)
  unfold TMove.size at h; omega
theorem putMS_len (m : TMove) (w : TWrite) : (putMS m w).1.From.length ≤ m.From.length + 1 ∧ (putMS m w).1.To.length ≤ m.To.length + 1 := by
  have hp : ∀ l : List TWrite, (putRowsS l [w]).1.length ≤ l.length + 1 := fun l => by
    unfold putRowsS
    split
    · simp
    · have := putLS_len [w] l
      have h2 := List.length_filter_le (fun w : TWrite => !w.Gone) (putLS l [w])
      simp only [List.length_cons, List.length_nil] at this
      unfold livesL; simp only; omega
  unfold putMS
  split
  · simp
  · simp only
    constructor
    · split
      · exact hp _
      · omega
    · split
      · exact hp _
      · omega
theorem stepMS_len {m : TMove} {a : TMoveAct} : (stepMS m a).1.From.length ≤ m.From.length + 1 ∧ (stepMS m a).1.To.length ≤ m.To.length + m.From.length + 1 := by
  unfold stepMS
  split
  · simp only
    unfold doS
    split
    · have := putMS_len m a.Write; omega
    · split
      · simp only; omega
      · split
        · have h1 := putLS_len (pieceS m a.Many) m.To
          have h2 : (pieceS m a.Many).length ≤ m.From.length := ((List.take_sublist _ _).trans List.filter_sublist).length_le
          unfold pieceMS; simp only; omega
        · split <;> simp <;> omega
  · simp only; omega
theorem stepMove_len (m : TMove) (a : TMoveAct) : (stepMove m a).1.From.length ≤ m.From.length + 1 ∧ (stepMove m a).1.To.length ≤ m.To.length + m.From.length + 1 := by
  unfold stepMove
  split
  · rename_i h
    simp only [Bool.and_eq_true] at h
    rw [stepM_eq h.1 h.2]
    exact stepMS_len
  · exact ⟨Nat.zero_le _, Nat.zero_le _⟩
theorem stepMove_eq (m : TMove) (a : TMoveAct) : stepMove m a = stepMoveS m a := by
  unfold stepMove stepMoveS
  rw [← goodMove_eq, ← isMoveAct_eq]
  split
  · rename_i h
    simp only [Bool.and_eq_true] at h
    rw [stepM_eq h.1 h.2]
  · rfl
end Go.M

set_option linter.unusedVariables false
set_option linter.unusedSimpArgs false
namespace Go.M
def oneI (m : TMove) (a : TMoveAct) : TMove × Bool := if isMoveAct m a = true then stepM m a else (m, false)
def oneS (m : TMove) (a : TMoveAct) : TMove × Bool := if l22Good m a = true then stepMS m a else (m, false)
def runI (m : TMove) (l : List TMoveAct) : TMove × List Bool := l.foldl (fun r a => ((oneI r.1 a).1, r.2 ++ [(oneI r.1 a).2])) (m, [])
def runS (m : TMove) (l : List TMoveAct) : TMove × List Bool := l.foldl (fun r a => ((oneS r.1 a).1, r.2 ++ [(oneS r.1 a).2])) (m, [])
theorem runI_snoc (m : TMove) (l : List TMoveAct) (a : TMoveAct) : runI m (l ++ [a]) = ((oneI (runI m l).1 a).1, (runI m l).2 ++ [(oneI (runI m l).1 a).2]) := by unfold runI; rw [List.foldl_append]; rfl
theorem runS_snoc (m : TMove) (l : List TMoveAct) (a : TMoveAct) : runS m (l ++ [a]) = ((oneS (runS m l).1 a).1, (runS m l).2 ++ [(oneS (runS m l).1 a).2]) := by unfold runS; rw [List.foldl_append]; rfl
theorem runI_next {m : TMove} {l : List TMoveAct} {i : Nat} {a : TMoveAct} (h : l[i]? = some a) : runI m (l.take (i + 1)) = ((oneI (runI m (l.take i)).1 a).1, (runI m (l.take i)).2 ++ [(oneI (runI m (l.take i)).1 a).2]) := by
  rw [List.take_add_one, h]; exact runI_snoc _ _ _
theorem runS_next {m : TMove} {l : List TMoveAct} {i : Nat} {a : TMoveAct} (h : l[i]? = some a) : runS m (l.take (i + 1)) = ((oneS (runS m (l.take i)).1 a).1, (runS m (l.take i)).2 ++ [(oneS (runS m (l.take i)).1 a).2]) := by
  rw [List.take_add_one, h]; exact runS_snoc _ _ _
def playMove (m : TMove) (l : List TMoveAct) : TMove × List Bool × Bool := if (!goodMove m || decide ((30 : Int) < (l.length : Int))) = true then (noMove, [], false) else ((runI m l).1, (runI m l).2, true)
def playMoveS (m : TMove) (l : List TMoveAct) : TMove × List Bool × Bool := if (!goodMoveS m || decide ((30 : Int) < (l.length : Int))) = true then (noMove, [], false) else ((runS m l).1, (runS m l).2, true)
/-! ### A step keeps a migration good -/
theorem goodMove_mk {m : TMove} (h0 : areEnds m.Low m.High = true) (h1 : areInRange m m.From = true) (h2 : areInRange m m.To = true) (h3 : (m.Phase = 2 ∧ m.From = [] ∧ m.Last = [] ∧ m.Over = false) ∨ (m.Phase = 1 ∧ (m.Last = [] ∨ goodKey m.Last = true))) : goodMove m = true := by
  unfold goodMove
  rw [h0, h1, h2]
  rcases h3 with ⟨p, q, r, s⟩ | ⟨p, q⟩
  · rw [if_neg (by decide), if_pos p, q, r, s]; rfl
  · rw [if_neg (by decide), if_neg (by omega), p]
    rcases q with q | q
    · simp [q]
    · simp [q]
theorem goodMove_phase {m : TMove} (h : goodMove m = true) : (m.Phase = 2 ∧ m.From = [] ∧ m.Last = [] ∧ m.Over = false) ∨ (m.Phase = 1 ∧ (m.Last = [] ∨ goodKey m.Last = true)) := by
  unfold goodMove at h
  split at h
  · cases h
  · split at h
    · rename_i hp
      refine .inl ⟨hp, ?_⟩
      simpa [and_assoc] using h
    · refine .inr ?_
      simpa using h
theorem inRow_mk {m : TMove} {l : List TWrite} (h1 : l5Rows l = true) (h2 : ∀ w ∈ l, inRange m.Low m.High w.Key = true) : areInRange m l = true := by
  rw [areInRange_eq]; unfold l22Rows; rw [h1, Bool.and_true, List.all_eq_true]; exact h2
theorem inRange_same {m n : TMove} {l : List TWrite} (h : areInRange m l = true) (h1 : n.Low = m.Low) (h2 : n.High = m.High) : areInRange n l = true := by
  obtain ⟨h3, h4⟩ := inRow h
  exact inRow_mk h3 (by rw [h1, h2]; exact h4)
theorem putRowsS_in {m : TMove} {l : List TWrite} {w : TWrite} (h : areInRange m l = true) (hw : l3Writes [w] = true) (hi : inRange m.Low m.High w.Key = true) (ho : (putRowsS l [w]).2 = true) : areInRange m (putRowsS l [w]).1 = true := by
  obtain ⟨h1, h2⟩ := inRow h
  unfold putRowsS at ho ⊢
  split at ho
  · cases ho
  · rename_i hh
    rw [if_neg hh]
    simp only [Bool.or_eq_true, Bool.not_eq_true', not_or, Bool.not_eq_false] at hh
    refine inRow_mk hh.2 fun x hx => ?_
    rw [putLS_ins (l5_adj h1)] at hx
    rcases insL_mem (List.mem_filter.1 hx).1 with h3 | h3
    · rw [List.mem_singleton.1 h3]; exact hi
    · exact h2 x h3
theorem stepMS_good {m : TMove} {a : TMoveAct} (hg : goodMove m = true) (ha : isMoveAct m a = true) : goodMove (stepMS m a).1 = true := by
  obtain ⟨g0, g1, g2⟩ := goodMove_rows hg
  have gp := goodMove_phase hg
  unfold stepMS
  split
  · rename_i hd
    simp only
    by_cases k1 : a.Kind = 1
    · obtain ⟨w1, w2, _⟩ := act_put ha k1
      have he : doS m a = putMS m a.Write := by unfold doS; rw [if_pos k1]
      rw [he] at hd ⊢
      unfold putMS at hd ⊢
      split at hd
      · cases hd
      · rename_i hb
        rw [if_neg hb]
        have hb2 : ((m.Phase == 1) && !(putRowsS m.From [a.Write]).2) = false ∧ (putBoth m a.Write && !(putRowsS m.To [a.Write]).2) = false := by
          simpa [putBad] using hb
        have f1 : areInRange m (if m.Phase = 1 then (putRowsS m.From [a.Write]).1 else m.From) = true := by
          by_cases hp : m.Phase = 1
          · rw [if_pos hp]
            have ho : (putRowsS m.From [a.Write]).2 = true := by
              have h9 := hb2.1
              rw [hp] at h9
              simpa using h9
            exact putRowsS_in g1 w1 w2 ho
          · rw [if_neg hp]; exact g1
        have f2 : areInRange m (if putBoth m a.Write = true then (putRowsS m.To [a.Write]).1 else m.To) = true := by
          by_cases hp : putBoth m a.Write = true
          · rw [if_pos hp]
            have ho : (putRowsS m.To [a.Write]).2 = true := by
              have h9 := hb2.2
              rw [hp, Bool.true_and] at h9
              simpa using h9
            exact putRowsS_in g2 w1 w2 ho
          · rw [if_neg hp]; exact g2
        refine goodMove_mk g0 (inRange_same f1 rfl rfl) (inRange_same f2 rfl rfl) ?_
        · rcases gp with ⟨p1, p2, p3, p4⟩ | ⟨p1, p2⟩
          · exact .inl ⟨p1, by show (if m.Phase = 1 then _ else m.From) = []; rw [if_neg (by omega)]; exact p2, p3, p4⟩
          · exact .inr ⟨p1, p2⟩
    · by_cases hp : ((m.Phase != 1) || ((a.Kind == 3) && !m.Over)) = true
      · have he : doS m a = (m, false) := by unfold doS; rw [if_neg k1, if_pos hp]
        rw [he] at hd; cases hd
      · have hph : m.Phase = 1 := by
          by_cases h : m.Phase = 1
          · exact h
          · exact absurd (by simp [h]) hp
        by_cases k2 : a.Kind = 2
        · have he : doS m a = (pieceMS m a.Many, goodMoveS (pieceMS m a.Many)) := by unfold doS; rw [if_neg k1, if_neg hp, if_pos k2]
          rw [he] at hd ⊢
          rw [goodMove_eq]; exact hd
        · by_cases k3 : a.Kind = 3
          · have he : doS m a = (⟨m.Low, m.High, 2, [], m.To, [], false⟩, true) := by unfold doS; rw [if_neg k1, if_neg hp, if_neg k2, if_pos k3]
            rw [he]
            exact goodMove_mk g0 rfl (inRange_same g2 rfl rfl) (.inl ⟨rfl, rfl, rfl, rfl⟩)
          · have he : doS m a = (⟨m.Low, m.High, 1, m.From, [], [], false⟩, true) := by unfold doS; rw [if_neg k1, if_neg hp, if_neg k2, if_neg k3]
            rw [he]
            exact goodMove_mk g0 (inRange_same g1 rfl rfl) rfl (.inr ⟨rfl, .inl rfl⟩)
  · exact hg
theorem oneI_eq {m : TMove} (hg : goodMove m = true) (a : TMoveAct) : oneI m a = oneS m a := by
  unfold oneI oneS
  rw [← isMoveAct_eq]
  split
  · rename_i h; exact stepM_eq hg h
  · rfl
theorem oneS_good {m : TMove} (hg : goodMove m = true) (a : TMoveAct) : goodMove (oneS m a).1 = true := by
  unfold oneS
  rw [← isMoveAct_eq]
  split
  · rename_i h; exact stepMS_good hg h
  · exact hg
def stI (r : TMove × List Bool) (a : TMoveAct) : TMove × List Bool := ((oneI r.1 a).1, r.2 ++ [(oneI r.1 a).2])
def stS (r : TMove × List Bool) (a : TMoveAct) : TMove × List Bool := ((oneS r.1 a).1, r.2 ++ [(oneS r.1 a).2])
theorem foldS_good : ∀ (l : List TMoveAct) (r : TMove × List Bool), goodMove r.1 = true → goodMove (l.foldl stS r).1 = true
  | [], _, h => h
  | a :: l, r, h => foldS_good l (stS r a) (oneS_good h a)
theorem foldI_eq : ∀ (l : List TMoveAct) (r : TMove × List Bool), goodMove r.1 = true → l.foldl stI r = l.foldl stS r
  | [], _, _ => rfl
  | a :: l, r, h => by
    have e : stI r a = stS r a := by unfold stI stS; rw [oneI_eq h]
    simp only [List.foldl_cons]
    rw [e]
    exact foldI_eq l (stS r a) (oneS_good h a)
theorem foldI_len : ∀ (l : List TMoveAct) (r : TMove × List Bool), (l.foldl stI r).2.length = r.2.length + l.length
  | [], _ => rfl
  | a :: l, r => by
    simp only [List.foldl_cons, List.length_cons]
    rw [foldI_len l (stI r a)]
    unfold stI; simp only [List.length_append, List.length_cons, List.length_nil]; omega
theorem foldS_len : ∀ (l : List TMoveAct) (r : TMove × List Bool), (l.foldl stS r).2.length = r.2.length + l.length
  | [], _ => rfl
  | a :: l, r => by
    simp only [List.foldl_cons, List.length_cons]
    rw [foldS_len l (stS r a)]
    unfold stS; simp only [List.length_append, List.length_cons, List.length_nil]; omega
theorem runS_good {m : TMove} (hg : goodMove m = true) (l : List TMoveAct) : goodMove (runS m l).1 = true := foldS_good l (m, []) hg
theorem runI_eq {m : TMove} (hg : goodMove m = true) (l : List TMoveAct) : runI m l = runS m l := foldI_eq l (m, []) hg
theorem runI_good {m : TMove} (hg : goodMove m = true) (l : List TMoveAct) : goodMove (runI m l).1 = true := by rw [runI_eq hg]; exact runS_good hg l
theorem runI_len (m : TMove) (l : List TMoveAct) : (runI m l).2.length = l.length := (foldI_len l (m, [])).trans (Nat.zero_add _)
theorem runS_len (m : TMove) (l : List TMoveAct) : (runS m l).2.length = l.length := (foldS_len l (m, [])).trans (Nat.zero_add _)
theorem playMove_eq (m : TMove) (l : List TMoveAct) : playMove m l = playMoveS m l := by
  unfold playMove playMoveS
  rw [← goodMove_eq]
  split
  · rfl
  · rename_i h
    have hg : goodMove m = true := by cases hg : goodMove m with | true => rfl | false => (rw [hg] at h; simp at h)
    rw [runI_eq hg]
end Go.M

set_option linter.unusedVariables false
set_option linter.unusedSimpArgs false
set_option maxRecDepth 100000
namespace Go.Proofs.YtdgoejkijpllpaaDoor
open Go Go.AV Go.M
attribute [local irreducible] OpW OpA OpS AWP FSpec ESpec RetOk RvDen Le Ev GuardIs
end Go.Proofs.YtdgoejkijpllpaaDoor

set_option linter.unusedVariables false
set_option linter.unusedSimpArgs false
set_option maxRecDepth 100000
namespace Go.Proofs.YtdgoejkijpllpaaDoor
open Go Go.AV Go.M
attribute [local irreducible] OpW OpA OpS AWP FSpec ESpec GSpec OpE RetOk RetOkG RvDen Le Ev GuardIs SrcIs
end Go.Proofs.YtdgoejkijpllpaaDoor

set_option linter.unusedVariables false
set_option linter.unusedSimpArgs false
set_option maxRecDepth 100000
namespace Go.Proofs.YtdgoejkijpllpaaDoor
open Go Go.AV Go.M
attribute [local irreducible] OpW OpA OpS AWP FSpec ESpec GSpec OpE RetOk RetOkG RvDen Le Ev GuardIs
end Go.Proofs.YtdgoejkijpllpaaDoor

set_option linter.unusedVariables false
set_option linter.unusedSimpArgs false
set_option maxRecDepth 100000
namespace Go.Proofs.YtdgoejkijpllpaaDoor
open Go Go.AV Go.M
attribute [local irreducible] OpW OpA OpS AWP FSpec ESpec GSpec OpE RetOk RetOkG RvDen Le Ev GuardIs SrcIs
theorem act_many {m : TMove} {a : TMoveAct} (h : isMoveAct m a = true) (k : a.Kind = 2) : 0 ≤ a.Many := by
  unfold isMoveAct at h
  rw [if_neg (by omega), if_pos k] at h
  simp only [within, Bool.and_eq_true, decide_eq_true_eq] at h
  omega
end Go.Proofs.YtdgoejkijpllpaaDoor

set_option linter.unusedVariables false
set_option linter.unusedSimpArgs false
set_option maxRecDepth 100000
namespace Go.Proofs.YtdgoejkijpllpaaDoor
open Go Go.AV Go.M
attribute [local irreducible] OpW OpA OpS AWP FSpec ESpec GSpec OpE RetOk RetOkG RvDen Le Ev GuardIs SrcIs
end Go.Proofs.YtdgoejkijpllpaaDoor

set_option linter.unusedVariables false
set_option linter.unusedSimpArgs false
set_option maxRecDepth 100000
namespace Go.Proofs.YtdgoejkijpllpaaDoor
open Go Go.AV Go.M
attribute [local irreducible] OpW OpA OpS AWP FSpec ESpec GSpec OpE RetOk RetOkG RvDen Le Ev GuardIs SrcIs
def boolO (v : Value) (l : List Bool) : Own := .arr v 4 1 (l.map fun b => [AV.bool b])
end Go.Proofs.YtdgoejkijpllpaaDoor

set_option linter.unusedVariables false
set_option linter.unusedSimpArgs false
set_option maxRecDepth 100000
namespace Go.Proofs.YtdgoejkijpllpaaDoor
open Go Go.AV Go.M
attribute [local irreducible] OpW OpA OpS AWP FSpec ESpec GSpec OpE RetOk RetOkG RvDen Le Ev GuardIs SrcIs Int.tmod IntKind.wrap bandI
theorem curVal_own (b : Nat) (code : List Int) (hcode : ByteL code) (c : TCur) (hp : c.p ≤ 6000000) : GSpec Tryd.prog 92 [AV.ptr b 0] [.box b 72 (curC code c)] (fun x : TCur × Str => x.1.p ≤ c.p + 2 ∧ x.2.length ≤ 64) (fun x => [.box b 72 (curC code x.1)]) (fun x => AV.str x.2) := by
  refine gspec_of_awp Tryd.func92 rfl Tryd.ntmps92 rfl ?_
  refine awp_seq ?_
  refine awp_region ?_
  refine sq_plain rfl rfl rfl (w_assign rfl (ev_cs' (l := []) rfl)) ?_
  refine sq_nil ?_
  refine awp_seq ?_
  refine awp_region ?_
  refine sq_plain rfl rfl rfl (w_move rfl (ev_tmp rfl)) ?_
  refine sq_plain rfl rfl rfl (w_bslice rfl Tryd.underlying30 Tryd.sizeOf9 Tryd.zeroValue9 rfl rfl rfl rfl (bp_cons (ev_cs' (l := []) rfl) (as_str _) (bp_cons (ev_cs' (l := [49]) rfl) (as_str _) (bp_cons (ev_cs' (l := [55]) rfl) (as_str _) (bp_cons (ev_cs' (l := [49, 48]) rfl) (as_str _) (bp_cons (ev_cs' (l := [45, 51]) rfl) (as_str _) (bp_cons (ev_cs' (l := [120]) rfl) (as_str _) (bp_cons (ev_cs' (l := [97, 44, 98, 95, 99]) rfl) (as_str _) bp_nil))))))) rfl rfl) ?_
  refine sq_callG [0] rfl rfl rfl rfl Tryd.call93 rfl (curOf_own _ _ hcode _ ([[], [49], [55], [49, 48], [45, 51], [120], [97, 44, 98, 95, 99]] : List Str) (by decide) (by omega)) (evl_cons (ev_tmp rfl) (evl_cons (ev_tmp rfl) evl_nil)) rfl ?_
  intro x5 ok5
  refine sq_plain rfl rfl rfl (w_assign rfl (ev_tmp rfl)) ?_
  refine sq_nil ?_
  refine awp_ret ?_
  (refine retG [0] ((_, _)) ?_ rfl (by first | (dsimp only; rfl) | rfl) (resR rfl (rv_tmp' rfl (by rfl))); exact ok5)
theorem curWrite_own (b : Nat) (code : List Int) (hcode : ByteL code) (c : TCur) (key : Str) (hp : c.p ≤ 5000000) : GSpec Tryd.prog 75 [AV.ptr b 0, AV.str key] [.box b 72 (curC code c)] (fun x : TCur × TWrite => x.1.p ≤ c.p + 4 ∧ x.2.Key = key ∧ x.2.Val.length ≤ 64) (fun x => [.box b 72 (curC code x.1)]) (fun x => AV.agg x.2.cs) := by
  refine gspec_of_awp Tryd.func75 rfl Tryd.ntmps75 rfl ?_
  refine awp_seq ?_
  refine awp_region ?_
  refine sq_alloc rfl rfl rfl rfl Tryd.zeroValue90 rfl ?_
  intro b4
  refine sq_nil ?_
  refine awp_seq ?_
  refine awp_seq ?_
  refine awp_region ?_
  refine sq_plain rfl rfl rfl (w_move rfl (ev_tmp rfl)) ?_
  refine sq_callG [1] rfl rfl rfl rfl Tryd.call49 rfl (curOne_own _ _ hcode _ _ (by omega) (by omega)) (evl_cons (ev_tmp rfl) (evl_cons ev_ci evl_nil)) rfl ?_
  intro x6 ok6
  refine sq_nil ?_
  refine awp_cond (ev_tmp rfl) ?_ ?_
  · intro h6
    refine awp_seq ?_
    refine awp_region ?_
    refine sq_plain rfl rfl rfl (w_move rfl (ev_tmp rfl)) ?_
    refine sq_plain rfl rfl rfl (w_build (places := #[(0, 1), (1, 1), (2, 1)]) rfl Tryd.underlying90 Tryd.zeroValue90 (fun w => by kernel_rfl) rfl (bp_cons (ev_tmp rfl) (as_str _) (bp_cons ev_cb (as_bool _) bp_nil)) rfl) ?_
    refine sq_storeB0 1 rfl rfl rfl (ev_tmp rfl) (ev_tmp rfl) (as_agg _) rfl Tryd.sizeOf90 rfl ?_
    refine sq_nil ?_
    refine awp_ret ?_
    (refine retG [0] ((_, ⟨_, _, _⟩)) ?_ rfl (by first | (dsimp only; rfl) | rfl) (resR rfl (rv_cell (ys := _) 1 rfl rfl Tryd.isAgg90 Tryd.sizeOf90 rfl)); (dsimp only; first | exact ⟨by omega, rfl, by simp⟩ | exact ⟨by omega, rfl, ok11.2⟩))
  · intro h6
    refine awp_skip ?_
    refine awp_seq ?_
    refine awp_region ?_
    refine sq_plain rfl rfl rfl (w_move rfl (ev_tmp rfl)) ?_
    refine sq_plain rfl rfl rfl (w_move rfl (ev_tmp rfl)) ?_
    refine sq_callG [0] rfl rfl rfl rfl Tryd.call92 rfl (curVal_own _ _ hcode _ (by omega)) (evl_cons (ev_tmp rfl) evl_nil) rfl ?_
    intro x11 ok11
    refine sq_plain rfl rfl rfl (w_build (places := #[(0, 1), (1, 1), (2, 1)]) rfl Tryd.underlying90 Tryd.zeroValue90 (fun w => by kernel_rfl) rfl (bp_cons (ev_tmp rfl) (as_str _) (bp_cons (ev_tmp rfl) (as_str _) bp_nil)) rfl) ?_
    refine sq_storeB0 1 rfl rfl rfl (ev_tmp rfl) (ev_tmp rfl) (as_agg _) rfl Tryd.sizeOf90 rfl ?_
    refine sq_nil ?_
    refine awp_ret ?_
    (refine retG [0] ((_, ⟨_, _, _⟩)) ?_ rfl (by first | (dsimp only; rfl) | rfl) (resR rfl (rv_cell (ys := _) 1 rfl rfl Tryd.isAgg90 Tryd.sizeOf90 rfl)); (dsimp only; first | exact ⟨by omega, rfl, by simp⟩ | exact ⟨by omega, rfl, ok11.2⟩))
theorem newMoveS_size (a b : Str) (l : List TWrite) : (newMoveS a b l).1.size ≤ a.length + b.length + sizeL TWrite.size l := by
  unfold newMoveS; split
  · exact Nat.zero_le _
  · unfold mkMove TMove.size; simp [sizeL]
theorem playMoveS_size (m : TMove) (l : List TMoveAct) : (playMoveS m l).1.size ≤ 2048 := by
  unfold playMoveS; split
  · exact Nat.zero_le _
  · rename_i h
    rw [← goodMove_eq] at h
    have hg : goodMove m = true := by cases hg : goodMove m with | true => rfl | false => (rw [hg] at h; simp at h)
    exact goodMove_size (runS_good hg l)
end Go.Proofs.YtdgoejkijpllpaaDoor

set_option linter.unusedVariables false
set_option linter.unusedSimpArgs false
set_option maxRecDepth 100000
set_option maxHeartbeats 1000000
namespace Go.M
open Go.AV
theorem lineB_len {c : TFeedItem} (h1 : 0 ≤ c.Time ∧ c.Time ≤ 100000) (h2 : 0 ≤ c.Group ∧ c.Group ≤ 3) : (lineB c).length ≤ 20 + c.size := by
  have e1 := itoa_len (n := c.Time) (by omega)
  have e2 := itoa_len (n := c.Group) (by omega)
  unfold lineB TFeedItem.size
  split
  · simp only [List.length_append, List.length_cons, List.length_nil]; omega
  · simp only [List.length_append, List.length_cons, List.length_nil]; omega
end Go.M
namespace Go.Proofs.YtdgoejkijpllpaaDoor
open Go Go.AV Go.M
attribute [local irreducible] OpW OpA OpS AWP FSpec ESpec GSpec OpE RetOk RetOkG RvDen Le Ev GuardIs SrcIs Int.tmod Int.tdiv IntKind.wrap bandI
theorem l23Item_own (b : Nat) (code : List Int) (hcode : ByteL code) (c : TCur) (hp : c.p ≤ 4000000) : GSpec Tryd.prog 48 [AV.ptr b 0] [.box b 72 (curC code c)] (fun x : TCur × TFeedItem => x.1.p ≤ c.p + 20 ∧ x.2.size ≤ 128 ∧ (1 ≤ x.2.Time ∧ x.2.Time ≤ 30) ∧ (0 ≤ x.2.Group ∧ x.2.Group ≤ 2)) (fun x => [.box b 72 (curC code x.1)]) (fun x => AV.agg x.2.cs) := by
  refine gspec_of_awp Tryd.func48 rfl Tryd.ntmps48 rfl ?_
  refine awp_seq ?_
  refine awp_region ?_
  refine sq_alloc rfl rfl rfl rfl Tryd.zeroValue27 rfl ?_
  intro b2
  refine sq_nil ?_
  refine awp_seq ?_
  refine awp_region ?_
  refine sq_plain rfl rfl rfl (w_move rfl (ev_tmp rfl)) ?_
  refine sq_plain rfl rfl rfl (w_move rfl (ev_tmp rfl)) ?_
  refine sq_callG [1] rfl rfl rfl rfl Tryd.call76 rfl (curKey_own _ _ hcode _ (by omega)) (evl_cons (ev_tmp rfl) evl_nil) rfl ?_
  intro x6 ok6
  refine sq_callG [0] rfl rfl rfl rfl Tryd.call75 rfl (curWrite_own _ _ hcode _ _ (by omega)) (evl_cons (ev_tmp rfl) (evl_cons (ev_tmp rfl) evl_nil)) rfl ?_
  intro x7 ok7
  refine sq_alloc rfl rfl rfl rfl Tryd.zeroValue90 rfl ?_
  intro b3
  refine sq_storeB0 0 rfl rfl rfl (ev_tmp rfl) (ev_tmp rfl) (as_agg _) rfl Tryd.sizeOf90 rfl ?_
  refine sq_nil ?_
  refine awp_seq ?_
  refine awp_own (by first | (simp only [id, pick, List.eraseIdx_cons_zero, List.eraseIdx_cons_succ, List.set_cons_zero, List.set_cons_succ, List.cons_append, List.nil_append, List.getElem?_cons_zero, List.getElem?_cons_succ, List.append_nil, List.take_succ_cons, List.take_zero, List.drop_succ_cons, List.drop_zero]; exact rfl) | exact rfl) ?_
  refine AWP.le (le_pick [0, 0, 0] rfl) ?_
  refine awp_region_mix _ [(0, false), (3, false), (5, false), (6, false), (7, false), (8, false), (9, false), (10, false), (1, true), (2, false), (4, true)] (by kernel_rfl) (by kernel_rfl) rfl (invx_take 1) ?_
  refine bc_plain rfl rfl rfl (fun ext => w_move rfl (ev_tmp rfl)) ?_
  refine bc_plain rfl rfl rfl (fun ext => w_move rfl (ev_tmp rfl)) ?_
  refine bc_plain rfl rfl rfl (fun ext => w_fldBn 0 rfl Tryd.underlying90 rfl Tryd.sizeOf9 (ev_tmp rfl) rfl) ?_
  refine bc_plain rfl rfl rfl (fun ext => w_loadB1 0 rfl (ev_tmp rfl) rfl Tryd.isAgg9 rfl) ?_
  refine bc_plain rfl rfl rfl (fun ext => w_fldBn 1 rfl Tryd.underlying90 rfl Tryd.sizeOf9 (ev_tmp rfl) rfl) ?_
  refine bc_plain rfl rfl rfl (fun ext => w_loadB1 0 rfl (ev_tmp rfl) rfl Tryd.isAgg9 rfl) ?_
  refine bc_plain rfl rfl rfl (fun ext => w_fldBn 2 rfl Tryd.underlying90 rfl Tryd.sizeOf4 (ev_tmp rfl) rfl) ?_
  refine bc_plain rfl rfl rfl (fun ext => w_loadB1 0 rfl (ev_tmp rfl) rfl Tryd.isAgg4 rfl) ?_
  refine bc_eff rfl rfl rfl (opE_call [1] rfl Tryd.call73 rfl (curPick_own _ _ hcode _ _ (by omega) (by omega)) (evl_cons (ev_tmp rfl) (evl_cons ev_ci evl_nil)) rfl) (fun a _ => (by first | exact invx_mk rfl | exact invx_mk (List.append_assoc _ _ _) | exact invx_all)) ?_
  intro x9 ok9
  refine bc_plain rfl rfl rfl (fun ext => w_addi rfl ev_ci (ev_tmp rfl) (by first | omega | ((try simp only [List.length_map, List.length_take, List.length_cons, List.length_nil, chunks_len, szR] at *); omega) | (have hc2 := hc; simp only [Bool.and_eq_true, Bool.or_eq_true, Bool.or_eq_false_iff, Bool.and_eq_false_iff, Bool.not_eq_true', Bool.not_eq_false', decide_eq_true_eq, decide_eq_false_iff_not, beq_iff_eq, bne_iff_ne, List.length_map, List.length_take] at hc2; omega))) ?_
  refine bc_eff rfl rfl rfl (opE_call [2] rfl Tryd.call73 rfl (curPick_own _ _ hcode _ _ (by omega) (by omega)) (evl_cons (ev_tmp rfl) (evl_cons ev_ci evl_nil)) rfl) (fun a _ => (by first | exact invx_mk rfl | exact invx_mk (List.append_assoc _ _ _) | exact invx_all)) ?_
  intro x12 ok12
  refine bc_nil ?_
  refine sq_plain rfl rfl rfl (w_build (places := #[(0, 1), (1, 1), (2, 1), (3, 1), (4, 1)]) rfl Tryd.underlying27 Tryd.zeroValue27 (fun w => by kernel_rfl) rfl (bp_cons (ev_tmp rfl) (as_ik _ _) (bp_cons (ev_tmp rfl) (as_ik _ _) (bp_cons (ev_tmp rfl) (as_str _) (bp_cons (ev_tmp rfl) (as_str _) (bp_cons (ev_tmp rfl) (as_bool _) bp_nil))))) rfl) ?_
  refine sq_storeB0 1 rfl rfl rfl (ev_tmp rfl) (ev_tmp rfl) (as_agg _) rfl Tryd.sizeOf27 rfl ?_
  refine sq_nil ?_
  refine awp_ret ?_
  (refine retG [2] ((_, ⟨1 + x9.2, x12.2, x7.2.Key, x7.2.Val, x7.2.Gone⟩)) ?_ rfl (by first | (dsimp only; rfl) | rfl) (resR rfl (rv_cell (ys := _) 1 rfl rfl Tryd.isAgg27 Tryd.sizeOf27 rfl)); (have hk9 : x7.2.Key.length ≤ 64 := (by rw [ok7.2.1]; omega); dsimp only [TFeedItem.size]; exact ⟨by omega, by omega, ⟨by omega, by omega⟩, by omega, by omega⟩))
theorem drawGoodItem_own (code : List Int) (hcode : ByteL code) : GSpec Tryd.prog 47 [bytesI code] [] (fun x : TFeedItem => x.size ≤ 128) (fun x => []) (fun x => AV.agg x.cs) := by
  refine gspec_of_awp Tryd.func47 rfl Tryd.ntmps47 rfl ?_
  refine awp_seq ?_
  refine awp_region ?_
  refine sq_alloc rfl rfl rfl rfl Tryd.zeroValue27 rfl ?_
  intro b2
  refine sq_nil ?_
  refine awp_seq ?_
  refine awp_region ?_
  refine sq_plain rfl rfl rfl (w_move rfl (ev_tmp rfl)) ?_
  refine sq_plain rfl rfl rfl (w_build (places := #[(0, 1), (1, 1), (2, 1)]) rfl Tryd.underlying72 Tryd.zeroValue72 (fun w => by kernel_rfl) rfl (bp_cons (ev_tmp rfl) (as_list _ _) bp_nil) rfl) ?_
  refine sq_box rfl rfl rfl rfl (ev_tmp rfl) ?_
  intro b7
  refine sq_plain rfl rfl rfl (w_assign rfl (ev_tmp rfl)) ?_
  refine sq_nil ?_
  refine awp_seq ?_
  refine awp_region ?_
  refine sq_plain rfl rfl rfl (w_move rfl (ev_tmp rfl)) ?_
  refine sq_callG [0] rfl rfl rfl rfl Tryd.call48 rfl (l23Item_own _ _ hcode ⟨0, 0⟩ (by decide)) (evl_cons (ev_tmp rfl) evl_nil) rfl ?_
  intro x9 ok9
  obtain ⟨⟨c9, it⟩, hx9⟩ : ∃ z, x9 = z := ⟨_, rfl⟩
  subst hx9
  obtain ⟨hp9, hz9, _⟩ := ok9
  dsimp only at hp9 hz9 ⊢
  have hp9' : c9.p ≤ 20 := hp9
  refine sq_alloc rfl rfl rfl rfl Tryd.zeroValue27 rfl ?_
  intro b4
  refine sq_storeB0 0 rfl rfl rfl (ev_tmp rfl) (ev_tmp rfl) (as_agg _) rfl Tryd.sizeOf27 rfl ?_
  refine sq_nil ?_
  refine awp_seq ?_
  refine awp_seq ?_
  refine awp_region ?_
  refine sq_plain rfl rfl rfl (w_move rfl (ev_tmp rfl)) ?_
  refine sq_callG [1] rfl rfl rfl rfl Tryd.call73 rfl (curPick_own _ _ hcode _ _ (by omega) (by omega)) (evl_cons (ev_tmp rfl) (evl_cons ev_ci evl_nil)) rfl ?_
  intro x11 ok11
  refine sq_nil ?_
  refine awp_block ?_
  refine awp_seq ?_
  refine awp_region ?_
  refine sq_plain rfl rfl rfl (w_eql rfl (ev_tmp rfl) ev_ci) ?_
  refine sq_plain rfl rfl rfl (w_assign rfl (ev_tmp rfl)) ?_
  refine sq_nil ?_
  refine awp_cond (ev_tmp rfl) ?_ ?_
  · intro h12
    have k12 := eq_of_beqt h12; try simp only [List.length_map] at k12
    refine awp_region ?_
    refine sq_plain rfl rfl rfl (w_move rfl (ev_tmp rfl)) ?_
    refine sq_plain rfl rfl rfl (w_bslice rfl Tryd.underlying31 Tryd.sizeOf3 Tryd.zeroValue3 rfl rfl rfl rfl (bp_cons ev_ci (as_ik _ _) (bp_cons ev_ci (as_ik _ _) (bp_cons ev_ci (as_ik _ _) bp_nil))) rfl rfl) ?_
    refine sq_callG [0] rfl rfl rfl rfl Tryd.call74 rfl (curAmong_own _ _ hcode _ ([(0), (100000), (100001)] : List Int) (by decide) (by omega)) (evl_cons (ev_tmp rfl) (evl_cons (ev_tmp rfl) evl_nil)) rfl ?_
    intro x16 ok16
    refine sq_plain rfl rfl rfl (w_fldBn 0 rfl Tryd.underlying27 rfl Tryd.sizeOf3 (ev_tmp rfl) rfl) ?_
    refine sq_storeB1 1 rfl rfl rfl (ev_tmp rfl) (ev_tmp rfl) (as_ik _ _) rfl Tryd.sizeOf3 rfl ?_
    refine sq_nil ?_
    refine awp_seq ?_
    refine awp_region ?_
    refine sq_plain rfl rfl rfl (w_loadA 1 rfl (ev_tmp rfl) rfl Tryd.isAgg27 Tryd.sizeOf27 rfl) ?_
    refine sq_storeB0 2 rfl rfl rfl (ev_tmp rfl) (ev_tmp rfl) (as_agg _) rfl Tryd.sizeOf27 rfl ?_
    refine sq_nil ?_
    refine awp_ret ?_
    (refine retG [] (⟨x16.2, it.Group, it.Key, it.Val, it.Gone⟩) ?_ rfl (by first | (dsimp only; rfl) | rfl) (resR rfl (rv_cell (ys := _) 2 rfl rfl Tryd.isAgg27 Tryd.sizeOf27 rfl)); exact hz9)
  · intro h12
    have k12 := ne_of_beqf h12; try simp only [List.length_map] at k12
    refine awp_seq ?_
    refine awp_region ?_
    refine sq_plain rfl rfl rfl (w_eql rfl (ev_tmp rfl) ev_ci) ?_
    refine sq_plain rfl rfl rfl (w_assign rfl (ev_tmp rfl)) ?_
    refine sq_nil ?_
    refine awp_cond (ev_tmp rfl) ?_ ?_
    · intro h18
      have k18 := eq_of_beqt h18; try simp only [List.length_map] at k18
      refine awp_region ?_
      refine sq_plain rfl rfl rfl (w_move rfl (ev_tmp rfl)) ?_
      refine sq_plain rfl rfl rfl (w_bslice rfl Tryd.underlying31 Tryd.sizeOf3 Tryd.zeroValue3 rfl rfl rfl rfl (bp_cons ev_ci (as_ik _ _) (bp_cons ev_ci (as_ik _ _) (bp_cons ev_ci (as_ik _ _) bp_nil))) rfl rfl) ?_
      refine sq_callG [0] rfl rfl rfl rfl Tryd.call74 rfl (curAmong_own _ _ hcode _ ([(-1), (3), (4)] : List Int) (by decide) (by omega)) (evl_cons (ev_tmp rfl) (evl_cons (ev_tmp rfl) evl_nil)) rfl ?_
      intro x22 ok22
      refine sq_plain rfl rfl rfl (w_fldBn 1 rfl Tryd.underlying27 rfl Tryd.sizeOf3 (ev_tmp rfl) rfl) ?_
      refine sq_storeB1 1 rfl rfl rfl (ev_tmp rfl) (ev_tmp rfl) (as_ik _ _) rfl Tryd.sizeOf3 rfl ?_
      refine sq_nil ?_
      refine awp_seq ?_
      refine awp_region ?_
      refine sq_plain rfl rfl rfl (w_loadA 1 rfl (ev_tmp rfl) rfl Tryd.isAgg27 Tryd.sizeOf27 rfl) ?_
      refine sq_storeB0 2 rfl rfl rfl (ev_tmp rfl) (ev_tmp rfl) (as_agg _) rfl Tryd.sizeOf27 rfl ?_
      refine sq_nil ?_
      refine awp_ret ?_
      (refine retG [] (⟨it.Time, x22.2, it.Key, it.Val, it.Gone⟩) ?_ rfl (by first | (dsimp only; rfl) | rfl) (resR rfl (rv_cell (ys := _) 2 rfl rfl Tryd.isAgg27 Tryd.sizeOf27 rfl)); exact hz9)
    · intro h18
      have k18 := ne_of_beqf h18; try simp only [List.length_map] at k18
      refine awp_seq ?_
      refine awp_region ?_
      refine sq_plain rfl rfl rfl (w_eql rfl (ev_tmp rfl) ev_ci) ?_
      refine sq_plain rfl rfl rfl (w_assign rfl (ev_tmp rfl)) ?_
      refine sq_nil ?_
      refine awp_cond (ev_tmp rfl) ?_ ?_
      · intro h24
        have k24 := eq_of_beqt h24; try simp only [List.length_map] at k24
        refine awp_region ?_
        refine sq_plain rfl rfl rfl (w_fldBn 4 rfl Tryd.underlying27 rfl Tryd.sizeOf4 (ev_tmp rfl) rfl) ?_
        refine sq_plain rfl rfl rfl (w_loadB1 1 rfl (ev_tmp rfl) rfl Tryd.isAgg4 rfl) ?_
        refine sq_plain rfl rfl rfl (w_not rfl (ev_tmp rfl)) ?_
        refine sq_plain rfl rfl rfl (w_fldBn 4 rfl Tryd.underlying27 rfl Tryd.sizeOf4 (ev_tmp rfl) rfl) ?_
        refine sq_storeB1 1 rfl rfl rfl (ev_tmp rfl) (ev_tmp rfl) (as_bool _) rfl Tryd.sizeOf4 rfl ?_
        refine sq_nil ?_
        refine awp_seq ?_
        refine awp_region ?_
        refine sq_plain rfl rfl rfl (w_loadA 1 rfl (ev_tmp rfl) rfl Tryd.isAgg27 Tryd.sizeOf27 rfl) ?_
        refine sq_storeB0 2 rfl rfl rfl (ev_tmp rfl) (ev_tmp rfl) (as_agg _) rfl Tryd.sizeOf27 rfl ?_
        refine sq_nil ?_
        refine awp_ret ?_
        (refine retG [] (⟨it.Time, it.Group, it.Key, it.Val, !it.Gone⟩) ?_ rfl (by first | (dsimp only; rfl) | rfl) (resR rfl (rv_cell (ys := _) 2 rfl rfl Tryd.isAgg27 Tryd.sizeOf27 rfl)); exact hz9)
      · intro h24
        have k24 := ne_of_beqf h24; try simp only [List.length_map] at k24
        refine awp_skip ?_
        refine awp_seq ?_
        refine awp_region ?_
        refine sq_plain rfl rfl rfl (w_loadA 1 rfl (ev_tmp rfl) rfl Tryd.isAgg27 Tryd.sizeOf27 rfl) ?_
        refine sq_storeB0 2 rfl rfl rfl (ev_tmp rfl) (ev_tmp rfl) (as_agg _) rfl Tryd.sizeOf27 rfl ?_
        refine sq_nil ?_
        refine awp_ret ?_
        (refine retG [] (it) ?_ rfl (by first | (dsimp only; rfl) | rfl) (resR rfl (rv_cell (ys := _) 2 rfl rfl Tryd.isAgg27 Tryd.sizeOf27 rfl)); exact hz9)
theorem drawFeedLine_own (code : List Int) (hcode : ByteL code) : GSpec Tryd.prog 21 [bytesI code] [] (fun x : TFeedItem => x.size ≤ 128) (fun x => []) (fun x => AV.agg x.cs) := by
  refine gspec_of_awp Tryd.func21 rfl Tryd.ntmps21 rfl ?_
  refine awp_seq ?_
  refine awp_region ?_
  refine sq_alloc rfl rfl rfl rfl Tryd.zeroValue27 rfl ?_
  intro b2
  refine sq_nil ?_
  refine awp_seq ?_
  refine awp_region ?_
  refine sq_plain rfl rfl rfl (w_move rfl (ev_tmp rfl)) ?_
  refine sq_callG [] rfl rfl rfl rfl Tryd.call47 rfl (drawGoodItem_own code hcode) (evl_cons (ev_tmp rfl) evl_nil) rfl ?_
  intro x4 ok4
  refine sq_storeB0 0 rfl rfl rfl (ev_tmp rfl) (ev_tmp rfl) (as_agg _) rfl Tryd.sizeOf27 rfl ?_
  refine sq_nil ?_
  refine awp_ret ?_
  (refine retG [] (x4) ?_ rfl (by first | (dsimp only; rfl) | rfl) (resR rfl (rv_cell (ys := _) 0 rfl rfl Tryd.isAgg27 Tryd.sizeOf27 rfl)); exact ok4)
theorem drawReadFeedLine_own (code : List Int) (hcode : ByteL code) : GSpec Tryd.prog 22 [bytesI code] [] (fun x : Str => x.length ≤ 200) (fun x => []) (fun x => AV.str x) := by
  refine gspec_of_awp Tryd.func22 rfl Tryd.ntmps22 rfl ?_
  refine awp_seq ?_
  refine awp_region ?_
  refine sq_plain rfl rfl rfl (w_assign rfl (ev_cs' (l := []) rfl)) ?_
  refine sq_nil ?_
  refine awp_seq ?_
  refine awp_region ?_
  refine sq_plain rfl rfl rfl (w_move rfl (ev_tmp rfl)) ?_
  refine sq_plain rfl rfl rfl (w_build (places := #[(0, 1), (1, 1), (2, 1)]) rfl Tryd.underlying72 Tryd.zeroValue72 (fun w => by kernel_rfl) rfl (bp_cons (ev_tmp rfl) (as_list _ _) bp_nil) rfl) ?_
  refine sq_box rfl rfl rfl rfl (ev_tmp rfl) ?_
  intro b7
  refine sq_plain rfl rfl rfl (w_assign rfl (ev_tmp rfl)) ?_
  refine sq_nil ?_
  refine awp_seq ?_
  refine awp_region ?_
  refine sq_plain rfl rfl rfl (w_move rfl (ev_tmp rfl)) ?_
  refine sq_callG [0] rfl rfl rfl rfl Tryd.call48 rfl (l23Item_own _ _ hcode ⟨0, 0⟩ (by decide)) (evl_cons (ev_tmp rfl) evl_nil) rfl ?_
  intro x9 ok9
  obtain ⟨⟨c9, it⟩, hx9⟩ : ∃ z, x9 = z := ⟨_, rfl⟩
  subst hx9
  obtain ⟨hp9, hz9, ht9, hg9⟩ := ok9
  dsimp only at hp9 hz9 ht9 hg9 ⊢
  have hp9' : c9.p ≤ 20 := hp9
  have hll := lineB_len (c := it) (by omega) (by omega)
  refine sq_plain rfl rfl rfl (w_call rfl Tryd.call28 rfl (l23LineG_spec it (by omega) (by omega) (by omega)) (evl_cons (ev_tmp rfl) evl_nil)) ?_
  refine sq_plain rfl rfl rfl (w_assign rfl (ev_tmp rfl)) ?_
  refine sq_nil ?_
  refine awp_seq ?_
  refine awp_seq ?_
  refine awp_region ?_
  refine sq_plain rfl rfl rfl (w_move rfl (ev_tmp rfl)) ?_
  refine sq_callG [0] rfl rfl rfl rfl Tryd.call49 rfl (curOne_own _ _ hcode _ _ (by omega) (by omega)) (evl_cons (ev_tmp rfl) (evl_cons ev_ci evl_nil)) rfl ?_
  intro x12 ok12
  refine sq_nil ?_
  refine awp_cond (ev_tmp rfl) ?_ ?_
  · intro h12
    refine awp_seq ?_
    refine awp_region ?_
    refine sq_plain rfl rfl rfl (w_move rfl (ev_tmp rfl)) ?_
    refine sq_plain rfl rfl rfl (w_move rfl (ev_tmp rfl)) ?_
    refine sq_callG [0] rfl rfl rfl rfl Tryd.call50 rfl (curSpoilt_own _ _ hcode _ (lineB it) _ (by omega) (by decide) (by omega)) (evl_cons (ev_tmp rfl) (evl_cons (ev_tmp rfl) (evl_cons (ev_cs' (l := [32, 61, 33, 48, 49, 97]) rfl) evl_nil))) rfl ?_
    intro x15 ok15
    refine sq_plain rfl rfl rfl (w_assign rfl (ev_tmp rfl)) ?_
    refine sq_nil ?_
    refine awp_ret ?_
    (refine retG [] (x15.2) ?_ rfl (by first | (dsimp only; rfl) | rfl) (resR rfl (rv_tmp' rfl (by rfl))); first | omega | (have h9 := ok15.2; omega))
  · intro h12
    refine awp_skip ?_
    refine awp_seq ?_
    refine awp_region ?_
    refine sq_plain rfl rfl rfl (w_move rfl (ev_tmp rfl)) ?_
    refine sq_plain rfl rfl rfl (w_assign rfl (ev_tmp rfl)) ?_
    refine sq_nil ?_
    refine awp_ret ?_
    (refine retG [] (lineB it) ?_ rfl (by first | (dsimp only; rfl) | rfl) (resR rfl (rv_tmp' rfl (by rfl))); first | omega | (have h9 := ok15.2; omega))
theorem vBigT_spec (code : List Int) : FSpec Tryd.prog 20 [bytesI code] (AV.bool (decide (65536 < (code.length : Int)))) := by
  refine spec_of_awp Tryd.func20 rfl Tryd.ntmps20 rfl ?_
  refine awp_len (t := 0) rfl fun hl0 => ?_
  try simp only [List.length_map] at hl0
  refine awp_seq ?_
  refine awp_region ?_
  refine sq_plain rfl rfl rfl (w_assign rfl ev_cb) ?_
  refine sq_nil ?_
  refine awp_seq ?_
  refine awp_region ?_
  refine sq_plain rfl rfl rfl (w_move rfl (ev_tmp rfl)) ?_
  refine sq_plain rfl rfl rfl (w_llen rfl Tryd.underlying44 (ev_tmp rfl)) ?_
  refine sq_plain rfl rfl rfl (w_gtr rfl (ev_tmp rfl) ev_ci) ?_
  refine sq_plain rfl rfl rfl (w_assign rfl (ev_tmp rfl)) ?_
  refine sq_nil ?_
  refine awp_ret ?_
  exact retR rfl (rv_tmp' rfl (by (refine congrArg AV.bool ?_; simp only [List.length_map])))
end Go.Proofs.YtdgoejkijpllpaaDoor

set_option linter.unusedVariables false
set_option linter.unusedSimpArgs false
set_option maxRecDepth 100000
namespace Go.Proofs.YtdgoejkijpllpaaDoor
open Go Go.AV Go.M
open Go.ChangeShapes Go.WideShapes Go.ChangeAt Go.RowKit
theorem star : "*" ++ "errors.errorString" = "*errors.errorString" := by decide
theorem errRow (u : TypeId) (h : Tryd.prog.typeName? 3 u = some "*errors.errorString") : u = 136 :=
  typeName_ptr_named (nm := "errors.errorString") (by rw [star]; kernel_rfl) (by kernel_rfl) (by decide) u (by rw [star]; exact h)
theorem readW_of {W : World} (hL : laidMet Tryd.prog Rows.fnExactReadFeedLineRow.laid W) (hsh : W.ShapedOpen Tryd.prog) : readW W := by
  refine ⟨tabW_head (laidMet.tail (laidMet.tail hL)), ?_, ?_, ?_⟩
  · exact cell_of_shapedOpen_int (t := 3) (k := .i64) (zero := #[.int .i64 0]) hsh (of_decide_eq_true (by kernel_rfl)) (by kernel_rfl) rfl (by kernel_rfl) (by kernel_rfl) Tryd.underlying3
  · have h5 := laidMet.tail (laidMet.tail (laidMet.tail (laidMet.tail (laidMet.tail hL))))
    obtain ⟨a, s, h, _⟩ := laid_sentinel (n := "strconv.ErrSyntax") (g := 1) (ti := 84) h5 (by kernel_rfl) (by kernel_rfl) Tryd.underlying84 errRow Tryd.underlying136 Tryd.underlying138 rfl rfl Tryd.underlying9 (by kernel_rfl) (by kernel_rfl)
    exact ⟨_, _, h⟩
  · have h4 := laidMet.tail (laidMet.tail (laidMet.tail (laidMet.tail hL)))
    obtain ⟨a, s, h, _⟩ := laid_sentinel (n := "strconv.ErrRange") (g := 2) (ti := 84) h4 (by kernel_rfl) (by kernel_rfl) Tryd.underlying84 errRow Tryd.underlying136 Tryd.underlying138 rfl rfl Tryd.underlying9 (by kernel_rfl) (by kernel_rfl)
    exact ⟨_, _, h⟩
end Go.Proofs.YtdgoejkijpllpaaDoor

set_option linter.unusedVariables false
set_option linter.unusedSimpArgs false
set_option maxRecDepth 100000
set_option maxHeartbeats 1000000
namespace Go.M
open Go.AV
theorem parseF_nil : parseF [] = (emptyF, false) := rfl
theorem feed_bad {c : TFeedItem} (h : (feedLineR c).2 = false) : feedLineR c = ([], false) := by
  unfold feedLineR at h ⊢
  split
  · rfl
  · rename_i hh; rw [if_neg hh] at h; cases h
theorem feed_good {c : TFeedItem} (h : (feedLineR c).2 = true) : feedLineR c = (lineB c, true) ∧ parseF (lineB c) = (c, true) := by
  unfold feedLineR at h ⊢
  split
  · rename_i hh; rw [if_pos hh] at h; cases h
  · rename_i hh; exact ⟨rfl, parseF_line (by simpa using hh)⟩
theorem feed_len {c : TFeedItem} (h : c.size ≤ 128) : (feedLineR c).1.length ≤ 200 := by
  unfold feedLineR
  split
  · simp
  · rename_i hh
    have hg := goodItem_nums (c := c) (by simpa using hh)
    have := lineB_len hg.1 hg.2
    dsimp only; omega
theorem feed_back (c : TFeedItem) : (parseF (feedLineR c).1).2 = (feedLineR c).2 ∧ ((feedLineR c).2 = true → (parseF (feedLineR c).1).1 = c) := by
  cases h : (feedLineR c).2 with
  | false => rw [feed_bad h]; exact ⟨by rw [parseF_nil], fun e => by cases e⟩
  | true => obtain ⟨h1, h2⟩ := feed_good h; rw [h1, h2]; exact ⟨rfl, fun _ => rfl⟩
end Go.M
namespace Go.Proofs.YtdgoejkijpllpaaDoor
open Go Go.AV Go.M
open Go.ChangeShapes Go.WideShapes Go.ChangeAt Go.RowKit
section
attribute [local irreducible] OpW OpA OpS AWP FSpec ESpec GSpec OpE RetOk RetOkG RvDen Le Ev GuardIs SrcIs
theorem fnFeedText_spec (code : List Int) (hc : ∀ x ∈ code, (Lit.int .u8 x).wf = true) : FSpec Tryd.prog 6 [AV.wt readW (bytesI code)] (AV.bool true) := by
  refine spec_of_awp Tryd.func6 rfl Tryd.ntmps6 rfl ?_
  refine AWP.le (le_tab (t := 0) rfl) ?_
  refine awp_seq ?_
  refine awp_region ?_
  refine sq_plain rfl rfl rfl (w_assign rfl ev_cb) ?_
  refine sq_nil ?_
  refine awp_seq ?_
  refine awp_seq ?_
  refine awp_region ?_
  refine sq_plain rfl rfl rfl (w_move rfl (ev_tmp rfl)) ?_
  refine sq_plain rfl rfl rfl (w_call rfl Tryd.call20 rfl (vBigT_spec code) (evl_cons (ev_tmp rfl) evl_nil)) ?_
  refine sq_nil ?_
  refine awp_cond (ev_tmp rfl) ?_ ?_
  · intro h16
    refine awp_seq ?_
    refine awp_region ?_
    refine sq_plain rfl rfl rfl (w_assign rfl ev_cb) ?_
    refine sq_nil ?_
    refine awp_ret ?_
    exact retR rfl (rv_tmp' rfl (by first | rfl | exact congrArg AV.bool (by have hb := feed_back x18; cases h9 : (feedLineR x18).2 with | false => (rw [h9] at hb; simp [hb.1]) | true => (rw [h9] at hb; simp [hb.1, hb.2 rfl]))))
  · intro h16
    have hcode : ByteL code := byteL_of hc
    refine awp_skip ?_
    refine awp_seq ?_
    refine awp_region ?_
    refine sq_plain rfl rfl rfl (w_move rfl (ev_tmp rfl)) ?_
    refine sq_callG [] rfl rfl rfl rfl Tryd.call21 rfl (drawFeedLine_own code hcode) (evl_cons (ev_tmp rfl) evl_nil) rfl ?_
    intro x18 ok18
    obtain ⟨c, hc18⟩ : ∃ c, x18 = c := ⟨_, rfl⟩
    subst hc18
    have hz : x18.size ≤ 128 := ok18
    have hfl := feed_len hz
    refine sq_alloc rfl rfl rfl rfl Tryd.zeroValue27 rfl ?_
    intro b3
    refine sq_storeB0 0 rfl rfl rfl (ev_tmp rfl) (ev_tmp rfl) (as_agg _) rfl Tryd.sizeOf27 rfl ?_
    refine sq_nil ?_
    refine awp_seq ?_
    refine awp_region ?_
    refine sq_plain rfl rfl rfl (w_loadA 0 rfl (ev_tmp rfl) rfl Tryd.isAgg27 Tryd.sizeOf27 rfl) ?_
    refine sq_plain rfl rfl rfl (w_callT 1 rfl rfl Tryd.call11 rfl (feedLineR_spec x18 (by omega)) (evl_cons (ev_tmp rfl) evl_nil) (by first | exact fun _ h => h | exact fun _ h => h.1)) ?_
    refine sq_plain rfl rfl rfl (w_move rfl (ev_tmp rfl)) ?_
    refine sq_plain rfl rfl rfl (w_extract rfl (ev_tmp rfl) rfl) ?_
    refine sq_plain rfl rfl rfl (w_extract rfl (ev_tmp rfl) rfl) ?_
    refine sq_plain rfl rfl rfl (w_assign rfl (ev_tmp rfl)) ?_
    refine sq_plain rfl rfl rfl (w_assign rfl (ev_tmp rfl)) ?_
    refine sq_nil ?_
    refine awp_seq ?_
    refine awp_region ?_
    refine sq_plain rfl rfl rfl (w_loadA 0 rfl (ev_tmp rfl) rfl Tryd.isAgg27 Tryd.sizeOf27 rfl) ?_
    refine sq_plain rfl rfl rfl (w_call rfl Tryd.call9 rfl (feedLineS_spec x18 (by omega)) (evl_cons (ev_tmp rfl) evl_nil)) ?_
    refine sq_plain rfl rfl rfl (w_move rfl (ev_tmp rfl)) ?_
    refine sq_plain rfl rfl rfl (w_extract rfl (ev_tmp rfl) rfl) ?_
    refine sq_plain rfl rfl rfl (w_extract rfl (ev_tmp rfl) rfl) ?_
    refine sq_plain rfl rfl rfl (w_assign rfl (ev_tmp rfl)) ?_
    refine sq_plain rfl rfl rfl (w_assign rfl (ev_tmp rfl)) ?_
    refine sq_nil ?_
    refine awp_seq ?_
    refine awp_region ?_
    refine sq_plain rfl rfl rfl (w_move rfl (ev_tmp rfl)) ?_
    refine sq_callG [] rfl rfl rfl rfl Tryd.call22 rfl (drawReadFeedLine_own code hcode) (evl_cons (ev_tmp rfl) evl_nil) rfl ?_
    intro x30 ok30
    refine sq_plain rfl rfl rfl (w_assign rfl (ev_tmp rfl)) ?_
    refine sq_nil ?_
    refine awp_seq ?_
    refine awp_region ?_
    refine sq_plain rfl rfl rfl (w_move rfl (ev_tmp rfl)) ?_
    refine sq_plain rfl rfl rfl (w_callT 1 rfl rfl Tryd.call18 rfl (readFeedLine_spec x30 (by omega)) (evl_cons (ev_tmp rfl) evl_nil) (by first | exact fun _ h => h | exact fun _ h => h.1)) ?_
    refine sq_plain rfl rfl rfl (w_move rfl (ev_tmp rfl)) ?_
    refine sq_plain rfl rfl rfl (w_extract rfl (ev_tmp rfl) rfl) ?_
    refine sq_plain rfl rfl rfl (w_extract rfl (ev_tmp rfl) rfl) ?_
    refine sq_alloc rfl rfl rfl rfl Tryd.zeroValue27 rfl ?_
    intro b9
    refine sq_storeB0 0 rfl rfl rfl (ev_tmp rfl) (ev_tmp rfl) (as_agg _) rfl Tryd.sizeOf27 rfl ?_
    refine sq_plain rfl rfl rfl (w_assign rfl (ev_tmp rfl)) ?_
    refine sq_nil ?_
    refine awp_seq ?_
    refine awp_region ?_
    refine sq_plain rfl rfl rfl (w_move rfl (ev_tmp rfl)) ?_
    refine sq_plain rfl rfl rfl (w_call rfl Tryd.call17 rfl (readFeedLineS_spec x30 (by omega)) (evl_cons (ev_tmp rfl) evl_nil)) ?_
    refine sq_plain rfl rfl rfl (w_move rfl (ev_tmp rfl)) ?_
    refine sq_plain rfl rfl rfl (w_extract rfl (ev_tmp rfl) rfl) ?_
    refine sq_plain rfl rfl rfl (w_extract rfl (ev_tmp rfl) rfl) ?_
    refine sq_alloc rfl rfl rfl rfl Tryd.zeroValue27 rfl ?_
    intro b11
    refine sq_storeB0 0 rfl rfl rfl (ev_tmp rfl) (ev_tmp rfl) (as_agg _) rfl Tryd.sizeOf27 rfl ?_
    refine sq_plain rfl rfl rfl (w_assign rfl (ev_tmp rfl)) ?_
    refine sq_nil ?_
    refine awp_seq ?_
    refine awp_seq ?_
    refine awp_region ?_
    refine sq_plain rfl rfl rfl (w_move rfl (ev_tmp rfl)) ?_
    refine sq_plain rfl rfl rfl (w_move rfl (ev_tmp rfl)) ?_
    refine sq_plain rfl rfl rfl (w_sneq rfl (ev_tmp rfl) (ev_tmp rfl)) ?_
    refine sq_plain rfl rfl rfl (w_move rfl (ev_tmp rfl)) ?_
    refine sq_grd rfl rfl (guard_f rfl rfl rfl) (fun hc => w_move rfl (ev_tmp rfl)) ?_
    refine sq_grd rfl rfl (guard_f rfl rfl rfl) (fun hc => w_move rfl (ev_tmp rfl)) ?_
    refine sq_grd rfl rfl (guard_f rfl rfl rfl) (fun hc => w_bneq rfl Tryd.underlying4 (ev_whn rfl hc) (ev_whn rfl hc)) ?_
    refine sq_plain rfl rfl rfl (w_or rfl (ev_tmp rfl) (evif_w rfl)) ?_
    refine sq_plain rfl rfl rfl (w_move rfl (ev_tmp rfl)) ?_
    refine sq_grd rfl rfl (guard_f rfl rfl rfl) (fun hc => w_loadA 1 rfl (ev_tmp rfl) rfl Tryd.isAgg27 Tryd.sizeOf27 rfl) ?_
    refine sq_grd rfl rfl (guard_f rfl rfl rfl) (fun hc => w_loadA 0 rfl (ev_tmp rfl) rfl Tryd.isAgg27 Tryd.sizeOf27 rfl) ?_
    refine sq_grd rfl rfl (guard_f rfl rfl rfl) (fun hc => w_aneq rfl Tryd.underlying27 (by kernel_rfl) (by kernel_rfl) (ev_whn rfl hc) (ev_whn rfl hc) (eqf_cons (by kernel_rfl) Tryd.isAgg3 rfl rfl (eqf_int Tryd.underlying3) (eqf_cons (by kernel_rfl) Tryd.isAgg3 rfl rfl (eqf_int Tryd.underlying3) (eqf_cons (by kernel_rfl) Tryd.isAgg9 rfl rfl (eqf_str Tryd.underlying9) (eqf_cons (by kernel_rfl) Tryd.isAgg9 rfl rfl (eqf_str Tryd.underlying9) (eqf_cons (by kernel_rfl) Tryd.isAgg4 rfl rfl (eqf_bool Tryd.underlying4) eqf_nil)))))) ?_
    refine sq_plain rfl rfl rfl (w_or rfl (ev_tmp rfl) (evif_w rfl)) ?_
    refine sq_plain rfl rfl rfl (w_move rfl (ev_tmp rfl)) ?_
    refine sq_grd rfl rfl (guard_f rfl rfl rfl) (fun hc => w_move rfl (ev_tmp rfl)) ?_
    refine sq_grd rfl rfl (guard_f rfl rfl rfl) (fun hc => w_move rfl (ev_tmp rfl)) ?_
    refine sq_grd rfl rfl (guard_f rfl rfl rfl) (fun hc => w_bneq rfl Tryd.underlying4 (ev_whn rfl hc) (ev_whn rfl hc)) ?_
    refine sq_plain rfl rfl rfl (w_or rfl (ev_tmp rfl) (evif_w rfl)) ?_
    refine sq_nil ?_
    refine awp_cond (ev_tmp rfl) ?_ ?_
    · intro h58
      exfalso; rw [parse_eq] at h58; simp at h58
    · intro h58
      refine awp_skip ?_
      refine awp_seq ?_
      refine awp_region ?_
      refine sq_plain rfl rfl rfl (w_move rfl (ev_tmp rfl)) ?_
      refine sq_plain rfl rfl rfl (w_callT 3 rfl rfl Tryd.call18 rfl (readFeedLine_spec (feedLineR x18).1 (by omega)) (evl_cons (ev_tmp rfl) evl_nil) (by first | exact fun _ h => h | exact fun _ h => h.1)) ?_
      refine sq_plain rfl rfl rfl (w_move rfl (ev_tmp rfl)) ?_
      refine sq_plain rfl rfl rfl (w_extract rfl (ev_tmp rfl) rfl) ?_
      refine sq_plain rfl rfl rfl (w_extract rfl (ev_tmp rfl) rfl) ?_
      refine sq_alloc rfl rfl rfl rfl Tryd.zeroValue27 rfl ?_
      intro b13
      refine sq_storeB0 0 rfl rfl rfl (ev_tmp rfl) (ev_tmp rfl) (as_agg _) rfl Tryd.sizeOf27 rfl ?_
      refine sq_plain rfl rfl rfl (w_assign rfl (ev_tmp rfl)) ?_
      refine sq_nil ?_
      refine awp_seq ?_
      refine awp_region ?_
      refine sq_plain rfl rfl rfl (w_move rfl (ev_tmp rfl)) ?_
      refine sq_plain rfl rfl rfl (w_move rfl (ev_tmp rfl)) ?_
      refine sq_plain rfl rfl rfl (w_beql rfl Tryd.underlying4 (ev_tmp rfl) (ev_tmp rfl)) ?_
      refine sq_plain rfl rfl rfl (w_move rfl (ev_tmp rfl)) ?_
      refine sq_grd rfl rfl (guard_t rfl rfl rfl) (fun hc => w_move rfl (ev_tmp rfl)) ?_
      refine sq_grd rfl rfl (guard_t rfl rfl rfl) (fun hc => w_not rfl (ev_whn rfl hc)) ?_
      refine sq_grd rfl rfl (guard_t rfl rfl rfl) (fun hc => w_move rfl (ev_whn rfl hc)) ?_
      refine sq_grd rfl rfl (guard_wf rfl rfl rfl) (fun hc => w_loadA 0 rfl (ev_tmp rfl) rfl Tryd.isAgg27 Tryd.sizeOf27 rfl) ?_
      refine sq_grd rfl rfl (guard_wf rfl rfl rfl) (fun hc => w_loadA 3 rfl (ev_tmp rfl) rfl Tryd.isAgg27 Tryd.sizeOf27 rfl) ?_
      refine sq_grd rfl rfl (guard_wf rfl rfl rfl) (fun hc => w_aeql rfl Tryd.underlying27 (by kernel_rfl) (by kernel_rfl) (ev_whn rfl hc) (ev_whn rfl hc) (eqf_cons (by kernel_rfl) Tryd.isAgg3 rfl rfl (eqf_int Tryd.underlying3) (eqf_cons (by kernel_rfl) Tryd.isAgg3 rfl rfl (eqf_int Tryd.underlying3) (eqf_cons (by kernel_rfl) Tryd.isAgg9 rfl rfl (eqf_str Tryd.underlying9) (eqf_cons (by kernel_rfl) Tryd.isAgg9 rfl rfl (eqf_str Tryd.underlying9) (eqf_cons (by kernel_rfl) Tryd.isAgg4 rfl rfl (eqf_bool Tryd.underlying4) eqf_nil)))))) ?_
      refine sq_grd rfl rfl (guard_t rfl rfl rfl) (fun hc => w_or rfl (ev_whn rfl hc) (evif_w2 rfl hc)) ?_
      refine sq_plain rfl rfl rfl (w_and rfl (ev_tmp rfl) (evif_w rfl)) ?_
      refine sq_plain rfl rfl rfl (w_assign rfl (ev_tmp rfl)) ?_
      refine sq_nil ?_
      refine awp_ret ?_
      exact retR rfl (rv_tmp' rfl (by first | rfl | exact congrArg AV.bool (by have hb := feed_back x18; cases h9 : (feedLineR x18).2 with | false => (rw [h9] at hb; simp [hb.1]) | true => (rw [h9] at hb; simp [hb.1, hb.2 rfl]))))
end
theorem opens_bytes : Opens Tryd.prog 44 (List Int) (fun l => [bytesI l]) (fun l => ∀ x ∈ l, (Lit.int .u8 x).wf = true) := opens_slice (sz := 1) Tryd.underlying44 (by kernel_rfl) (opens_int Tryd.underlying5) (fun _ => rfl)
set_option maxRecDepth 100000 in
theorem fnFeedText_lifted (os : Os) (started : os.Started) (H : Type) (enc : TypeId × Value → H) :
    ReturnsInHanded {} Tryd.checked os 6 .any (fun w args => (Rows.fnFeedTextSpec.pre enc Tryd.prog Tryd.f6 [] false w args ∧ laidMetH Tryd.prog Rows.fnFeedTextRow.laid w) ∧ sizedMet enc Tryd.prog Tryd.f6 (OpenSpec.ofChange Rows.fnFeedTextSpec) false w args) (Rows.fnFeedTextSpec.post enc Tryd.prog Tryd.f6 false true false false) := by
  refine Go.AV.handed_shaped (C := Tryd.checked) (X := fun w _ => laidMetH Tryd.prog Rows.fnFeedTextRow.laid w) (fun _ _ _ hh h => h.of_heap hh) (by kernel_rfl) started (by kernel_rfl) Tryd.func6
    (ChangeSpec.witness_shaped (enc := enc) (C := Tryd.checked) (os := os) (X := fun w _ => laidMetH Tryd.prog Rows.fnFeedTextRow.laid w) false (World.laidAll Tryd.prog os Rows.fnFeedTextRow.laid) #[.slice none 0 0] 8 (World.laidAll_os _ _ _)
      (World.shaped_of_ZipB (by kernel_rfl) (by kernel_rfl)) (by kernel_rfl) (by kernel_rfl) (by kernel_rfl)
      (by rw [MakeChecks.laidMetH_plain _ _ _ (by kernel_rfl)]; exact laidMet_laidAll _ (by kernel_rfl) (by kernel_rfl))) ?_
  intro W base args ds gs before hval0 hW hsh _ hL _
  rw [MakeChecks.laidMetH_plain _ _ _ (by kernel_rfl)] at hL
  have hT : readW W := readW_of hL hsh
  have hval : ∀ (j : Nat) t v, Tryd.f6.params[j]? = some t → args[j]? = some v → Value.okWide Tryd.prog W .any base t v := hval0
  have hW2 := hW
  obtain ⟨p, q, hA0, hV, rfl, hfz, hnd⟩ := hW
  have hA : DataW.TrodAll enc Tryd.prog W 0 (fun _ => true) true Tryd.f6.params.toList args.toList ds p := hA0
  rw [Tryd.params6] at hA hval
  obtain ⟨v0, vs0, d0, ds0, p0, q0, hargs, rfl, rfl, h0, r0⟩ := trodAll_cons hA
  obtain ⟨rfl, rfl, rfl⟩ := trodAll_nil r0
  obtain rfl : args = #[v0] := by cases args; simp_all
  obtain ⟨rfl, rfl⟩ := trodVars_none hV
  have lt0 : ∀ x ∈ p0, x.block < W.heap.size := by obtain ⟨m, hm⟩ := h0; exact DataW.trod_lt m _ _ _ hm
  obtain ⟨a0, w0, g0⟩ := arg_one (opens_bytes) (by obtain ⟨y1, y2, y3, rfl⟩ := okWide_slice Tryd.underlying44 (hval 0 44 v0 rfl rfl); rfl) h0
  have hcall := law_calls (fnFeedText_spec a0 w0) (DenV.cons ⟨g0, fun w2 hw2 => readW_heap hT hw2⟩ (DenV.nil _))
  clear hA0 hval0
  refine Calls.mono hcall fun e W2 ⟨he, bel⟩ => ?_
  subst he
  exact ⟨_, rfl, _, _, _, [], _, [], hW2, trodAll_mk1 (shut_bool Tryd.underlying4 _), (trodAll_cons_mk (Below.trod (by kernel_rfl : laidOutB Tryd.prog = true) (by kernel_rfl) (of_decide_eq_true (by kernel_rfl)) h0 bel lt0) trodAll_mk0), rfl, bel.frame _, fun h => by cases h⟩
theorem fnFeedText_and {a b : Bool} (h : a = true) (k : b = true) : (a && b) = true := by rw [h, k]; rfl
set_option maxRecDepth 100000 in
theorem fnFeedText_facts : joinedFacts Tryd.pinned.checked.prog 6 Tryd.f6 Rows.fnFeedTextSpec Rows.fnFeedTextRow = true := by
  unfold joinedFacts
  iterate 18 (rw [Bool.and_assoc])
  refine fnFeedText_and ?_ ?_
  · as_aux_lemma => kernel_rfl
  · as_aux_lemma => kernel_rfl
/-- The statement. -/
theorem fnFeedText_row : Rows.FnFeedTextSaid :=
  OpenClaim.holds_of_wide 6 Tryd.f6 rfl rfl rfl rfl rfl rfl rfl ⟨rfl, rfl, rfl, rfl, rfl⟩ rfl rfl rfl rfl rfl (by kernel_rfl) Tryd.func6 fnFeedText_facts
    (of_decide_eq_true (by kernel_rfl)) (by unfold Func.isWrapper; first | (rw [if_pos (by decide +kernel)]; kernel_rfl) | (rw [if_neg (by decide +kernel)]; exact ⟨rfl, rfl⟩))
    (fun os started H enc _ => fnFeedText_lifted os started H enc)
theorem fnFeedText_proved : Rows.FnFeedTextCardSaid :=
  Claim7.holds_tied_plain_at .later [] [.data, .data, .data, .data, .sentinel, .sentinel, .pinned] true (true, "7903b55ea66cd87d87188c1d3c70bfe37397061c8a9aa84cbe02af628d36de52") true
    fnFeedText_row (fun _ h => by cases h) (by kernel_rfl) (fun _ h => by cases h) fnFeedText_row_tie rfl ⟨rfl, rfl⟩ (by kernel_rfl) rfl
    (fun f fn hf hfn => by
      obtain rfl : f = 6 := Option.some.inj ((show Tryd.prog.funcNamed "loop.example/g00850/laws.FnFeedText" = some 6 by kernel_rfl).symm.trans hf) |>.symm
      obtain rfl : fn = Tryd.f6 := (Option.some.inj (Tryd.func6.symm.trans hfn)).symm
      exact ⟨by kernel_rfl, fun j t ht => by
        rw [Tryd.params6] at ht
        have hm : t ∈ [44] := by simpa using Array.mem_of_getElem? ht
        have hall : ([44].all fun u => !Tryd.prog.wantsStandIn u) = true := by kernel_rfl
        exact (show Tryd.prog.wantsStandIn t = false by simpa using List.all_eq_true.1 hall t hm)⟩)
    (by kernel_rfl)
end Go.Proofs.YtdgoejkijpllpaaDoor
