/- Contracts of the library's functions, laid at this program by the kit's tool, in plain words; Contracts of the library's functions, laid at this program by the kit's tool, in plain words; Integers as words: the plain words of this claim. No program in sight; A symbolic run of Go code (regions, tests, calls by contract, local variables in memory), and that it tells the truth; The symbolic run: states, operations; The symbolic run of an operation tells the truth: moves of the state; The symbolic run of each operation tells the truth; The symbolic run of each operation tells the truth, the others; all together; The symbolic run of each operation tells the truth: slices and arrays. -/
import Derived.Shelf.Small.Wraps
import Derived.Shelf.Strings.OnBuilder
import Derived.Shelf.Strings.Trim
import Derived.Shelf.Strings.SlTrimAscii
import Derived.Shelf.Pu.ParseUintPublic10
import Derived.Shelf.Slices.Cells
import Derived.Test.YtkfdnpbpebmhaaaGreatDoorProg
import Derived.Shelf.Small.Bits
import Derived.Below
import Derived.Orders
import Derived.Laws.Rows
import Derived.Laws.Tables
import Derived.KernelRfl
import Derived.WalkKit
namespace Go.Proofs
open Go.Shelf
def Tryz.lays156_ren : Go.Shelf.Ren := ⟨fun | 156 => 65 | 165 => 102 | 166 => 103 | 169 => 104 | 240 => 123 | 241 => 124 | 276 => 135 | 277 => 136 | n => n, fun | 31 => 49 | 9 => 9 | 3 => 3 | 4 => 4 | 0 => 0 | 20 => 20 | 72 => 111 | 76 => 113 | 70 => 109 | 37 => 74 | 75 => 81 | 127 => 131 | 164 => 140 | 5 => 5 | 80 => 115 | n => n, fun | n => n⟩
theorem Tryz.lays156 : Go.Proofs.Lays.n156 Tryz.prog Tryz.lays156_ren := {
  mixed := by kernel_rfl
  f156 := Tryz.func65.trans (congrArg some (by kernel_rfl))
  f165 := Tryz.func102.trans (congrArg some (by kernel_rfl))
  f166 := Tryz.func103.trans (congrArg some (by kernel_rfl))
  f169 := Tryz.func104.trans (congrArg some (by kernel_rfl))
  f240 := Tryz.func123.trans (congrArg some (by kernel_rfl))
  f241 := Tryz.func124.trans (congrArg some (by kernel_rfl))
  f276 := Tryz.func135.trans (congrArg some (by kernel_rfl))
  f277 := Tryz.func136.trans (congrArg some (by kernel_rfl))
  t0 := Tryz.underlying0
  a0 := Tryz.isAgg0
  z0 := Tryz.sizeOf0
  v0 := Tryz.zeroValue0
  t3 := Tryz.underlying3
  a3 := Tryz.isAgg3
  z3 := Tryz.sizeOf3
  v3 := Tryz.zeroValue3
  t4 := Tryz.underlying4
  a4 := Tryz.isAgg4
  z4 := Tryz.sizeOf4
  v4 := Tryz.zeroValue4
  t9 := Tryz.underlying9
  a9 := Tryz.isAgg9
  z9 := Tryz.sizeOf9
  v9 := Tryz.zeroValue9
  t20 := Tryz.underlying20
  a20 := Tryz.isAgg20
  z20 := Tryz.sizeOf20
  v20 := Tryz.zeroValue20
  t31 := Tryz.underlying49
  a31 := Tryz.isAgg49
  z31 := Tryz.sizeOf49
  v31 := Tryz.zeroValue49
  t37 := Tryz.underlying74
  a37 := Tryz.isAgg74
  z37 := Tryz.sizeOf74
  v37 := Tryz.zeroValue74
  t70 := Tryz.underlying109
  a70 := Tryz.isAgg109
  z70 := Tryz.sizeOf109
  v70 := Tryz.zeroValue109
  t72 := Tryz.underlying111
  a72 := Tryz.isAgg111
  z72 := Tryz.sizeOf111
  v72 := Tryz.zeroValue111
  t75 := Tryz.underlying81
  a75 := Tryz.isAgg81
  z75 := Tryz.sizeOf81
  v75 := Tryz.zeroValue81
  t76 := Tryz.underlying113
  a76 := Tryz.isAgg113
  z76 := Tryz.sizeOf113
  v76 := Tryz.zeroValue113
  t127 := Tryz.underlying131
  a127 := Tryz.isAgg131
  z127 := Tryz.sizeOf131
  v127 := Tryz.zeroValue131
  t164 := Tryz.underlying140
  a164 := Tryz.isAgg140
  z164 := Tryz.sizeOf140
  v164 := Tryz.zeroValue140 }
theorem Tryz.Builder_Extra_156 : Builder.Extra Tryz.prog Tryz.lays156_ren := {
  sizeBuilder := by kernel_rfl
  liesBuilder := by kernel_rfl
  t5 := Tryz.underlying5
  a5 := Tryz.isAgg5
  z5 := Tryz.sizeOf5
  v5 := Tryz.zeroValue5
  infoByte := by kernel_rfl
  cellsByte := by kernel_rfl
  sizeByte := by kernel_rfl
  neB5 := by decide }
open Go.RowKit in
theorem Tryz.strings_Join_none (a : Option Addr) (c : Nat) (sep : ByteArray) (w : World) :
    Calls Tryz.prog 65 #[.slice a 0 c, .string sep] w fun e w' => e = .returned (.string ⟨#[]⟩) ∧ w' = w := Any.strings_Join_none Tryz.lays156 Tryz.Builder_Extra_156 a c sep w
open Go.RowKit in
theorem Tryz.strings_Join (bk o c : Nat) (xs : List ByteArray) (sep : ByteArray) (w : World) (hcells : ∀ (j : Nat) x, xs[j]? = some x → w.cell? ⟨bk, o + j, none⟩ = some (.string x)) (hbk : bk < w.heap.size) (hN : xs.length ≤ 140737488355328) (hcap : xs.length ≤ c) (hlen : (Lib.join (xs.map (·.data.toList)) sep.data.toList).length ≤ 140737488355328) :
    Calls Tryz.prog 65 #[.slice (some ⟨bk, o, none⟩) xs.length c, .string sep] w fun e w' => e = .returned (.string ⟨(Lib.join (xs.map (·.data.toList)) sep.data.toList).toArray⟩) ∧ Below w.heap.size w w' := Any.strings_Join Tryz.lays156 Tryz.Builder_Extra_156 bk o c xs sep w hcells hbk hN hcap hlen
def Tryz.lays161_ren : Go.Shelf.Ren := ⟨fun | 161 => 64 | 231 => 98 | 227 => 99 | 233 => 100 | 235 => 101 | 228 => 120 | 197 => 121 | 151 => 122 | 260 => 133 | 152 => 134 | 137 => 141 | 119 => 142 | 224 => 143 | 225 => 144 | 217 => 146 | 266 => 148 | n => n, fun | 9 => 9 | 4 => 4 | 3 => 3 | 5 => 5 | 117 => 105 | 116 => 104 | 0 => 0 | 124 => 108 | 105 => 128 | 21 => 21 | 119 => 148 | 46 => 87 | 139 => 151 | 138 => 150 | n => n, fun | 3 => 3 | 4 => 4 | n => n⟩
theorem Tryz.lays161 : Go.Proofs.Lays.n161 Tryz.prog Tryz.lays161_ren := {
  mixed := by kernel_rfl
  f119 := Tryz.func142.trans (congrArg some (by kernel_rfl))
  f137 := Tryz.func141.trans (congrArg some (by kernel_rfl))
  f151 := Tryz.func122.trans (congrArg some (by kernel_rfl))
  f152 := Tryz.func134.trans (congrArg some (by kernel_rfl))
  f161 := Tryz.func64.trans (congrArg some (by kernel_rfl))
  f197 := Tryz.func121.trans (congrArg some (by kernel_rfl))
  f217 := Tryz.func146.trans (congrArg some (by kernel_rfl))
  f224 := Tryz.func143.trans (congrArg some (by kernel_rfl))
  f225 := Tryz.func144.trans (congrArg some (by kernel_rfl))
  f227 := Tryz.func99.trans (congrArg some (by kernel_rfl))
  f228 := Tryz.func120.trans (congrArg some (by kernel_rfl))
  f231 := Tryz.func98.trans (congrArg some (by kernel_rfl))
  f233 := Tryz.func100.trans (congrArg some (by kernel_rfl))
  f235 := Tryz.func101.trans (congrArg some (by kernel_rfl))
  f260 := Tryz.func133.trans (congrArg some (by kernel_rfl))
  f266 := Tryz.func148.trans (congrArg some (by kernel_rfl))
  t0 := Tryz.underlying0
  a0 := Tryz.isAgg0
  z0 := Tryz.sizeOf0
  v0 := Tryz.zeroValue0
  t3 := Tryz.underlying3
  a3 := Tryz.isAgg3
  z3 := Tryz.sizeOf3
  v3 := Tryz.zeroValue3
  t4 := Tryz.underlying4
  a4 := Tryz.isAgg4
  z4 := Tryz.sizeOf4
  v4 := Tryz.zeroValue4
  t5 := Tryz.underlying5
  a5 := Tryz.isAgg5
  z5 := Tryz.sizeOf5
  v5 := Tryz.zeroValue5
  t9 := Tryz.underlying9
  a9 := Tryz.isAgg9
  z9 := Tryz.sizeOf9
  v9 := Tryz.zeroValue9
  t21 := Tryz.underlying21
  a21 := Tryz.isAgg21
  z21 := Tryz.sizeOf21
  v21 := Tryz.zeroValue21
  t46 := Tryz.underlying87
  a46 := Tryz.isAgg87
  z46 := Tryz.sizeOf87
  v46 := Tryz.zeroValue87
  t105 := Tryz.underlying128
  a105 := Tryz.isAgg128
  z105 := Tryz.sizeOf128
  v105 := Tryz.zeroValue128
  t116 := Tryz.underlying104
  a116 := Tryz.isAgg104
  z116 := Tryz.sizeOf104
  t117 := Tryz.underlying105
  a117 := Tryz.isAgg105
  z117 := Tryz.sizeOf105
  v117 := Tryz.zeroValue105
  t119 := Tryz.underlying148
  a119 := Tryz.isAgg148
  z119 := Tryz.sizeOf148
  t124 := Tryz.underlying108
  a124 := Tryz.isAgg108
  z124 := Tryz.sizeOf108
  v124 := Tryz.zeroValue108
  t138 := Tryz.underlying150
  a138 := Tryz.isAgg150
  z138 := Tryz.sizeOf150
  v138 := Tryz.zeroValue150
  t139 := Tryz.underlying151
  a139 := Tryz.isAgg151
  z139 := Tryz.sizeOf151
  v139 := Tryz.zeroValue151
  g3 := by kernel_rfl
  g4 := by kernel_rfl }
open Go.RowKit in
theorem Tryz.strings_TrimLeft_one (s : ByteArray) (c : UInt8) (hc : c.toNat < 128) (w : World) :
    Calls Tryz.prog 64 #[.string s, .string ⟨#[c]⟩] w fun e w' => e = .returned (.string ⟨(Lib.trimLeftB s.data.toList c).toArray⟩) ∧ w' = w := Any.strings_TrimLeft_one Tryz.lays161 s c hc w
def Tryz.lays160_ren : Go.Shelf.Ren := ⟨fun | 160 => 67 | 232 => 106 | 231 => 98 | 227 => 99 | 234 => 107 | 233 => 100 | 236 => 108 | 235 => 101 | 228 => 120 | 271 => 126 | 151 => 122 | 197 => 121 | 120 => 137 | 152 => 134 | 260 => 133 | 137 => 141 | 119 => 142 | 224 => 143 | 225 => 144 | 217 => 146 | 266 => 148 | n => n, fun | 9 => 9 | 4 => 4 | 3 => 3 | 5 => 5 | 117 => 105 | 116 => 104 | 0 => 0 | 124 => 108 | 21 => 21 | 105 => 128 | 46 => 87 | 119 => 148 | 139 => 151 | 138 => 150 | n => n, fun | 3 => 3 | 4 => 4 | n => n⟩
theorem Tryz.lays160 : Go.Proofs.Lays.n160 Tryz.prog Tryz.lays160_ren := {
  mixed := by kernel_rfl
  f119 := Tryz.func142.trans (congrArg some (by kernel_rfl))
  f120 := Tryz.func137.trans (congrArg some (by kernel_rfl))
  f137 := Tryz.func141.trans (congrArg some (by kernel_rfl))
  f151 := Tryz.func122.trans (congrArg some (by kernel_rfl))
  f152 := Tryz.func134.trans (congrArg some (by kernel_rfl))
  f160 := Tryz.func67.trans (congrArg some (by kernel_rfl))
  f197 := Tryz.func121.trans (congrArg some (by kernel_rfl))
  f217 := Tryz.func146.trans (congrArg some (by kernel_rfl))
  f224 := Tryz.func143.trans (congrArg some (by kernel_rfl))
  f225 := Tryz.func144.trans (congrArg some (by kernel_rfl))
  f227 := Tryz.func99.trans (congrArg some (by kernel_rfl))
  f228 := Tryz.func120.trans (congrArg some (by kernel_rfl))
  f231 := Tryz.func98.trans (congrArg some (by kernel_rfl))
  f232 := Tryz.func106.trans (congrArg some (by kernel_rfl))
  f233 := Tryz.func100.trans (congrArg some (by kernel_rfl))
  f234 := Tryz.func107.trans (congrArg some (by kernel_rfl))
  f235 := Tryz.func101.trans (congrArg some (by kernel_rfl))
  f236 := Tryz.func108.trans (congrArg some (by kernel_rfl))
  f260 := Tryz.func133.trans (congrArg some (by kernel_rfl))
  f266 := Tryz.func148.trans (congrArg some (by kernel_rfl))
  f271 := Tryz.func126.trans (congrArg some (by kernel_rfl))
  t0 := Tryz.underlying0
  a0 := Tryz.isAgg0
  z0 := Tryz.sizeOf0
  v0 := Tryz.zeroValue0
  t3 := Tryz.underlying3
  a3 := Tryz.isAgg3
  z3 := Tryz.sizeOf3
  v3 := Tryz.zeroValue3
  t4 := Tryz.underlying4
  a4 := Tryz.isAgg4
  z4 := Tryz.sizeOf4
  v4 := Tryz.zeroValue4
  t5 := Tryz.underlying5
  a5 := Tryz.isAgg5
  z5 := Tryz.sizeOf5
  v5 := Tryz.zeroValue5
  t9 := Tryz.underlying9
  a9 := Tryz.isAgg9
  z9 := Tryz.sizeOf9
  v9 := Tryz.zeroValue9
  t21 := Tryz.underlying21
  a21 := Tryz.isAgg21
  z21 := Tryz.sizeOf21
  v21 := Tryz.zeroValue21
  t46 := Tryz.underlying87
  a46 := Tryz.isAgg87
  z46 := Tryz.sizeOf87
  v46 := Tryz.zeroValue87
  t105 := Tryz.underlying128
  a105 := Tryz.isAgg128
  z105 := Tryz.sizeOf128
  v105 := Tryz.zeroValue128
  t116 := Tryz.underlying104
  a116 := Tryz.isAgg104
  z116 := Tryz.sizeOf104
  t117 := Tryz.underlying105
  a117 := Tryz.isAgg105
  z117 := Tryz.sizeOf105
  v117 := Tryz.zeroValue105
  t119 := Tryz.underlying148
  a119 := Tryz.isAgg148
  z119 := Tryz.sizeOf148
  t124 := Tryz.underlying108
  a124 := Tryz.isAgg108
  z124 := Tryz.sizeOf108
  v124 := Tryz.zeroValue108
  t138 := Tryz.underlying150
  a138 := Tryz.isAgg150
  z138 := Tryz.sizeOf150
  v138 := Tryz.zeroValue150
  t139 := Tryz.underlying151
  a139 := Tryz.isAgg151
  z139 := Tryz.sizeOf151
  v139 := Tryz.zeroValue151
  g3 := by kernel_rfl
  g4 := by kernel_rfl }
open Go.RowKit in
theorem Tryz.strings_Trim_one (s : ByteArray) (c : UInt8) (hc : c.toNat < 128) (w : World) (hs : s.size ≤ 9223372036854775807) :
    Calls Tryz.prog 67 #[.string s, .string ⟨#[c]⟩] w fun e w' => e = .returned (.string ⟨(Lib.trimB s.data.toList c).toArray⟩) ∧ (w' = w ∨ w' = w.drew) := Any.strings_Trim_one Tryz.lays160 s c hc w hs
def Tryz.lays103_ren : Go.Shelf.Ren := ⟨fun | 103 => 66 | 210 => 105 | 206 => 125 | n => n, fun | 9 => 9 | 4 => 4 | 24 => 78 | 3 => 3 | n => n, fun | n => n⟩
theorem Tryz.lays103 : Go.Proofs.Lays.n103 Tryz.prog Tryz.lays103_ren := {
  mixed := by kernel_rfl
  f103 := Tryz.func66.trans (congrArg some (by kernel_rfl))
  f206 := Tryz.func125.trans (congrArg some (by kernel_rfl))
  f210 := Tryz.func105.trans (congrArg some (by kernel_rfl))
  t3 := Tryz.underlying3
  a3 := Tryz.isAgg3
  z3 := Tryz.sizeOf3
  v3 := Tryz.zeroValue3
  t4 := Tryz.underlying4
  a4 := Tryz.isAgg4
  z4 := Tryz.sizeOf4
  v4 := Tryz.zeroValue4
  t9 := Tryz.underlying9
  a9 := Tryz.isAgg9
  z9 := Tryz.sizeOf9
  v9 := Tryz.zeroValue9
  t24 := Tryz.underlying78
  a24 := Tryz.isAgg78
  z24 := Tryz.sizeOf78
  v24 := Tryz.zeroValue78 }
open Go.RowKit in
theorem Tryz.strings_CutPrefix (s p : ByteArray) (w : World) :
    Calls Tryz.prog 66 #[.string s, .string p] w fun e w' => e = .returned (.tuple #[.string ⟨(Lib.trimPrefix s.data.toList p.data.toList).toArray⟩, .bool (Lib.hasPrefix s.data.toList p.data.toList)]) ∧ w' = w := Any.strings_CutPrefix Tryz.lays103 s p w
def Tryz.laysPu14_ren : Go.Shelf.Ren := ⟨fun | 14 => 68 | 16 => 109 | 17 => 110 | 19 => 127 | 20 => 128 | 21 => 129 | 22 => 130 | 23 => 131 | 24 => 132 | 25 => 138 | 27 => 140 | 26 => 139 | 28 => 145 | 29 => 147 | 30 => 149 | 31 => 150 | 32 => 151 | 33 => 152 | 35 => 119 | 34 => 153 | 36 => 154 | 37 => 155 | 38 => 156 | 39 => 157 | 40 => 158 | n => n, fun | 9 => 9 | 3 => 3 | 22 => 69 | 24 => 81 | 25 => 82 | 4 => 4 | 34 => 133 | 5 => 5 | 36 => 87 | 37 => 74 | 0 => 0 | 39 => 136 | 21 => 21 | 44 => 145 | 47 => 131 | 50 => 158 | 48 => 156 | 2 => 2 | 52 => 160 | 55 => 162 | 59 => 165 | 60 => 27 | 20 => 20 | 61 => 166 | 65 => 167 | 66 => 168 | 67 => 115 | n => n, fun | 0 => 1 | 1 => 2 | 2 => 6 | 3 => 7 | 4 => 8 | n => n⟩
theorem Tryz.laysPu14 : Go.Proofs.LaysPu.n14 Tryz.prog Tryz.laysPu14_ren := {
  mixed := by kernel_rfl
  f14 := Tryz.func68.trans (congrArg some (by kernel_rfl))
  f16 := Tryz.func109.trans (congrArg some (by kernel_rfl))
  f17 := Tryz.func110.trans (congrArg some (by kernel_rfl))
  f19 := Tryz.func127.trans (congrArg some (by kernel_rfl))
  f20 := Tryz.func128.trans (congrArg some (by kernel_rfl))
  f21 := Tryz.func129.trans (congrArg some (by kernel_rfl))
  f22 := Tryz.func130.trans (congrArg some (by kernel_rfl))
  f23 := Tryz.func131.trans (congrArg some (by kernel_rfl))
  f24 := Tryz.func132.trans (congrArg some (by kernel_rfl))
  f25 := Tryz.func138.trans (congrArg some (by kernel_rfl))
  f26 := Tryz.func139.trans (congrArg some (by kernel_rfl))
  f27 := Tryz.func140.trans (congrArg some (by kernel_rfl))
  f28 := Tryz.func145.trans (congrArg some (by kernel_rfl))
  f29 := Tryz.func147.trans (congrArg some (by kernel_rfl))
  f30 := Tryz.func149.trans (congrArg some (by kernel_rfl))
  f31 := Tryz.func150.trans (congrArg some (by kernel_rfl))
  f32 := Tryz.func151.trans (congrArg some (by kernel_rfl))
  f33 := Tryz.func152.trans (congrArg some (by kernel_rfl))
  f34 := Tryz.func153.trans (congrArg some (by kernel_rfl))
  f35 := Tryz.func119.trans (congrArg some (by kernel_rfl))
  f36 := Tryz.func154.trans (congrArg some (by kernel_rfl))
  f37 := Tryz.func155.trans (congrArg some (by kernel_rfl))
  f38 := Tryz.func156.trans (congrArg some (by kernel_rfl))
  f39 := Tryz.func157.trans (congrArg some (by kernel_rfl))
  f40 := Tryz.func158.trans (congrArg some (by kernel_rfl))
  t0 := Tryz.underlying0
  a0 := Tryz.isAgg0
  z0 := Tryz.sizeOf0
  v0 := Tryz.zeroValue0
  i0 := by kernel_rfl
  t2 := Tryz.underlying2
  a2 := Tryz.isAgg2
  z2 := Tryz.sizeOf2
  v2 := Tryz.zeroValue2
  i2 := by kernel_rfl
  t3 := Tryz.underlying3
  a3 := Tryz.isAgg3
  z3 := Tryz.sizeOf3
  v3 := Tryz.zeroValue3
  i3 := by kernel_rfl
  t4 := Tryz.underlying4
  a4 := Tryz.isAgg4
  z4 := Tryz.sizeOf4
  v4 := Tryz.zeroValue4
  i4 := by kernel_rfl
  t5 := Tryz.underlying5
  a5 := Tryz.isAgg5
  z5 := Tryz.sizeOf5
  v5 := Tryz.zeroValue5
  i5 := by kernel_rfl
  t9 := Tryz.underlying9
  a9 := Tryz.isAgg9
  z9 := Tryz.sizeOf9
  v9 := Tryz.zeroValue9
  i9 := by kernel_rfl
  t20 := Tryz.underlying20
  a20 := Tryz.isAgg20
  z20 := Tryz.sizeOf20
  v20 := Tryz.zeroValue20
  i20 := by kernel_rfl
  t21 := Tryz.underlying21
  a21 := Tryz.isAgg21
  z21 := Tryz.sizeOf21
  v21 := Tryz.zeroValue21
  i21 := by kernel_rfl
  t22 := Tryz.underlying69
  a22 := Tryz.isAgg69
  z22 := Tryz.sizeOf69
  v22 := Tryz.zeroValue69
  i22 := by kernel_rfl
  t24 := Tryz.underlying81
  a24 := Tryz.isAgg81
  z24 := Tryz.sizeOf81
  v24 := Tryz.zeroValue81
  i24 := by kernel_rfl
  t25 := Tryz.underlying82
  a25 := Tryz.isAgg82
  z25 := Tryz.sizeOf82
  v25 := Tryz.zeroValue82
  i25 := by kernel_rfl
  t34 := Tryz.underlying133
  a34 := Tryz.isAgg133
  z34 := Tryz.sizeOf133
  v34 := Tryz.zeroValue133
  i34 := by kernel_rfl
  c34 := by kernel_rfl
  t36 := Tryz.underlying87
  a36 := Tryz.isAgg87
  z36 := Tryz.sizeOf87
  v36 := Tryz.zeroValue87
  i36 := by kernel_rfl
  t37 := Tryz.underlying74
  a37 := Tryz.isAgg74
  z37 := Tryz.sizeOf74
  v37 := Tryz.zeroValue74
  i37 := by kernel_rfl
  t39 := Tryz.underlying136
  a39 := Tryz.isAgg136
  z39 := Tryz.sizeOf136
  v39 := Tryz.zeroValue136
  i39 := by kernel_rfl
  t44 := Tryz.underlying145
  a44 := Tryz.isAgg145
  z44 := Tryz.sizeOf145
  v44 := Tryz.zeroValue145
  i44 := by kernel_rfl
  t47 := Tryz.underlying131
  a47 := Tryz.isAgg131
  z47 := Tryz.sizeOf131
  v47 := Tryz.zeroValue131
  i47 := by kernel_rfl
  t48 := Tryz.underlying156
  a48 := Tryz.isAgg156
  z48 := Tryz.sizeOf156
  v48 := Tryz.zeroValue156
  i48 := by kernel_rfl
  t50 := Tryz.underlying158
  a50 := Tryz.isAgg158
  z50 := Tryz.sizeOf158
  v50 := Tryz.zeroValue158
  i50 := by kernel_rfl
  t52 := Tryz.underlying160
  a52 := Tryz.isAgg160
  z52 := Tryz.sizeOf160
  v52 := Tryz.zeroValue160
  i52 := by kernel_rfl
  t55 := Tryz.underlying162
  a55 := Tryz.isAgg162
  z55 := Tryz.sizeOf162
  v55 := Tryz.zeroValue162
  i55 := by kernel_rfl
  t59 := Tryz.underlying165
  a59 := Tryz.isAgg165
  z59 := Tryz.sizeOf165
  v59 := Tryz.zeroValue165
  i59 := by kernel_rfl
  t60 := Tryz.underlying27
  a60 := Tryz.isAgg27
  z60 := Tryz.sizeOf27
  v60 := Tryz.zeroValue27
  i60 := by kernel_rfl
  t61 := Tryz.underlying166
  a61 := Tryz.isAgg166
  z61 := Tryz.sizeOf166
  t65 := Tryz.underlying167
  a65 := Tryz.isAgg167
  z65 := Tryz.sizeOf167
  v65 := Tryz.zeroValue167
  i65 := by kernel_rfl
  t66 := Tryz.underlying168
  a66 := Tryz.isAgg168
  z66 := Tryz.sizeOf168
  v66 := Tryz.zeroValue168
  i66 := by kernel_rfl
  t67 := Tryz.underlying115
  a67 := Tryz.isAgg115
  z67 := Tryz.sizeOf115
  v67 := Tryz.zeroValue115
  i67 := by kernel_rfl
  g0 := by kernel_rfl
  m0 := by kernel_rfl
  g1 := by kernel_rfl
  m1 := by kernel_rfl
  g2 := by kernel_rfl
  m2 := by kernel_rfl
  g3 := by kernel_rfl
  m3 := by kernel_rfl
  g4 := by kernel_rfl
  m4 := by kernel_rfl }
open Go.RowKit in
theorem Tryz.strconv_ParseUint_10_at32_ok (s : ByteArray) (hmax : s.size ≤ 9223372036854775806) (u : Nat) (h : Lib.parseUintB 32 s.data.toList = .ok u) (w : World) :
    Calls Tryz.prog 68 #[.string s, .int .i64 10, .int .i64 32] w fun e w' => e = .returned (.tuple #[.int .u64 u, .nilIface]) ∧ (w' = w ∨ w' = Lib.bytesWorld w 5 s) := Any.strconv_ParseUint_10_at32_ok Tryz.laysPu14 s hmax u h w
def Tryz.laysNm217_ren : Go.Shelf.Ren := ⟨fun | 17 => 63 | n => n, fun | 24 => 49 | 9 => 9 | 3 => 3 | 4 => 4 | 0 => 0 | n => n, fun | n => n⟩
theorem Tryz.laysNm217 : Go.Proofs.Lays2.n17 Tryz.prog Tryz.laysNm217_ren := {
  mixed := by kernel_rfl
  f17 := Tryz.func63.trans (congrArg some (by kernel_rfl))
  t0 := Tryz.underlying0
  a0 := Tryz.isAgg0
  z0 := Tryz.sizeOf0
  v0 := Tryz.zeroValue0
  t3 := Tryz.underlying3
  a3 := Tryz.isAgg3
  z3 := Tryz.sizeOf3
  v3 := Tryz.zeroValue3
  t4 := Tryz.underlying4
  a4 := Tryz.isAgg4
  z4 := Tryz.sizeOf4
  v4 := Tryz.zeroValue4
  t9 := Tryz.underlying9
  a9 := Tryz.isAgg9
  z9 := Tryz.sizeOf9
  v9 := Tryz.zeroValue9
  t24 := Tryz.underlying49
  a24 := Tryz.isAgg49
  z24 := Tryz.sizeOf49
  v24 := Tryz.zeroValue49 }
open Go.RowKit Go.Lib Go.Sort in
theorem Tryz.slices_Reverse_string_empty (a : Option Addr) (cap : Nat) (w : World) :
    Calls Tryz.prog 63 #[.slice a 0 cap] w fun e w' => e = .returned (.tuple #[]) ∧ w' = w := Any.slices_Reverse_string_empty Tryz.laysNm217 a cap w
open Go.RowKit Go.Lib Go.Sort in
theorem Tryz.slices_Reverse_string_cells (b off n c : Nat) (Sx : Nat → ByteArray) (w : World) (hbig : n ≤ 9223372036854775807) (hc : ∀ i, i < n → w.cell? ⟨b, off + i, none⟩ = some (.string (Sx i))) (hf : ∀ j, j < n → w.frozen? ⟨b, off + j, none⟩ = false) :
    Calls Tryz.prog 63 #[.slice (some ⟨b, off, none⟩) n c] w fun e w' => e = .returned (.tuple #[]) ∧ ∃ q, w' = (w.drewN q).setCells b off ((Lib.strsOf Sx n).reverse.map encStr) := Any.slices_Reverse_string_cells Tryz.laysNm217 b off n c Sx w hbig hc hf
end Go.Proofs
namespace Go.Proofs
open Go.Shelf
def Tryz.lays128_ren : Go.Shelf.Ren := ⟨fun | 128 => 73 | n => n, fun | 51 => 27 | 3 => 3 | 4 => 4 | 46 => 87 | 5 => 5 | 9 => 9 | n => n, fun | n => n⟩
theorem Tryz.lays128 : Go.Proofs.Lays.n128 Tryz.prog Tryz.lays128_ren := {
  mixed := by kernel_rfl
  f128 := Tryz.func73.trans (congrArg some (by kernel_rfl))
  t3 := Tryz.underlying3
  a3 := Tryz.isAgg3
  z3 := Tryz.sizeOf3
  v3 := Tryz.zeroValue3
  t4 := Tryz.underlying4
  a4 := Tryz.isAgg4
  z4 := Tryz.sizeOf4
  v4 := Tryz.zeroValue4
  t5 := Tryz.underlying5
  a5 := Tryz.isAgg5
  z5 := Tryz.sizeOf5
  v5 := Tryz.zeroValue5
  t9 := Tryz.underlying9
  a9 := Tryz.isAgg9
  z9 := Tryz.sizeOf9
  v9 := Tryz.zeroValue9
  t46 := Tryz.underlying87
  a46 := Tryz.isAgg87
  z46 := Tryz.sizeOf87
  v46 := Tryz.zeroValue87
  t51 := Tryz.underlying27
  a51 := Tryz.isAgg27
  z51 := Tryz.sizeOf27
  v51 := Tryz.zeroValue27 }
theorem Tryz.bits_Len32 (x : Int) (w : World) (h0 : 0 ≤ x) (h1 : x ≤ 4294967295) :
    Calls Tryz.prog 73 #[.int .u32 x] w fun e w' => e = .returned (.int .i64 (Lib.bitLen x.toNat)) ∧ w' = w := Any.bits_Len32 Tryz.lays128 x w h0 h1
def Tryz.lays125_ren : Go.Shelf.Ren := ⟨fun | 125 => 96 | 128 => 73 | 129 => 119 | n => n, fun | 46 => 87 | 3 => 3 | 51 => 27 | 53 => 69 | 4 => 4 | 5 => 5 | 9 => 9 | n => n, fun | n => n⟩
theorem Tryz.lays125 : Go.Proofs.Lays.n125 Tryz.prog Tryz.lays125_ren := {
  mixed := by kernel_rfl
  f125 := Tryz.func96.trans (congrArg some (by kernel_rfl))
  f128 := Tryz.func73.trans (congrArg some (by kernel_rfl))
  f129 := Tryz.func119.trans (congrArg some (by kernel_rfl))
  t3 := Tryz.underlying3
  a3 := Tryz.isAgg3
  z3 := Tryz.sizeOf3
  v3 := Tryz.zeroValue3
  t4 := Tryz.underlying4
  a4 := Tryz.isAgg4
  z4 := Tryz.sizeOf4
  v4 := Tryz.zeroValue4
  t5 := Tryz.underlying5
  a5 := Tryz.isAgg5
  z5 := Tryz.sizeOf5
  v5 := Tryz.zeroValue5
  t9 := Tryz.underlying9
  a9 := Tryz.isAgg9
  z9 := Tryz.sizeOf9
  v9 := Tryz.zeroValue9
  t46 := Tryz.underlying87
  a46 := Tryz.isAgg87
  z46 := Tryz.sizeOf87
  v46 := Tryz.zeroValue87
  t51 := Tryz.underlying27
  a51 := Tryz.isAgg27
  z51 := Tryz.sizeOf27
  v51 := Tryz.zeroValue27
  t53 := Tryz.underlying69
  a53 := Tryz.isAgg69
  z53 := Tryz.sizeOf69
  v53 := Tryz.zeroValue69 }
theorem Tryz.bits_Len (x : Int) (w : World) (h0 : 0 ≤ x) (h1 : x ≤ 18446744073709551615) :
    Calls Tryz.prog 96 #[.int .u64 x] w fun e w' => e = .returned (.int .i64 (Lib.bitLen x.toNat)) ∧ w' = w := Any.bits_Len Tryz.lays125 x w h0 h1
def Tryz.lays133_ren : Go.Shelf.Ren := ⟨fun | 133 => 92 | 128 => 73 | n => n, fun | 51 => 27 | 3 => 3 | 4 => 4 | 46 => 87 | 5 => 5 | 9 => 9 | n => n, fun | n => n⟩
theorem Tryz.lays133 : Go.Proofs.Lays.n133 Tryz.prog Tryz.lays133_ren := {
  mixed := by kernel_rfl
  f128 := Tryz.func73.trans (congrArg some (by kernel_rfl))
  f133 := Tryz.func92.trans (congrArg some (by kernel_rfl))
  t3 := Tryz.underlying3
  a3 := Tryz.isAgg3
  z3 := Tryz.sizeOf3
  v3 := Tryz.zeroValue3
  t4 := Tryz.underlying4
  a4 := Tryz.isAgg4
  z4 := Tryz.sizeOf4
  v4 := Tryz.zeroValue4
  t5 := Tryz.underlying5
  a5 := Tryz.isAgg5
  z5 := Tryz.sizeOf5
  v5 := Tryz.zeroValue5
  t9 := Tryz.underlying9
  a9 := Tryz.isAgg9
  z9 := Tryz.sizeOf9
  v9 := Tryz.zeroValue9
  t46 := Tryz.underlying87
  a46 := Tryz.isAgg87
  z46 := Tryz.sizeOf87
  v46 := Tryz.zeroValue87
  t51 := Tryz.underlying27
  a51 := Tryz.isAgg27
  z51 := Tryz.sizeOf27
  v51 := Tryz.zeroValue27 }
theorem Tryz.bits_LeadingZeros32 (x : Int) (w : World) (h0 : 0 ≤ x) (h1 : x ≤ 4294967295) :
    Calls Tryz.prog 92 #[.int .u32 x] w fun e w' => e = .returned (.int .i64 (32 - (Lib.bitLen x.toNat : Int))) ∧ w' = w := Any.bits_LeadingZeros32 Tryz.lays133 x w h0 h1
end Go.Proofs
namespace Go.Proofs.YtkfdnpbpebmhaaaGreatDoor.Num

abbrev B : Nat := 4294967296
/-- The words of a number. -/
def encF : Nat → Nat → List Int
  | 0, _ => []
  | f + 1, n => if n = 0 then [] else ((n % B : Nat) : Int) :: encF f (n / B)
def enc (n : Nat) : List Int := encF n n
def val : List Int → Int
  | [] => 0
  | x :: xs => x + 4294967296 * val xs
def Words (xs : List Int) : Prop := ∀ x, x ∈ xs → 0 ≤ x ∧ x < 4294967296
def Canon (xs : List Int) : Prop := Words xs ∧ xs.getLast? ≠ some 0
def toI (s : Bool) (xs : List Int) : Int := if s = true then - val xs else val xs
/-- A valid integer of at most n words. -/
def OkI (n : Nat) (s : Bool) (xs : List Int) : Prop := Canon xs ∧ (xs = [] → s = false) ∧ xs.length ≤ n

theorem encF_eq : ∀ (f n : Nat), n ≤ f → encF f n = if n = 0 then [] else ((n % B : Nat) : Int) :: enc (n / B)
  | f, n, h => by
    have key : ∀ (f g n : Nat), n ≤ f → n ≤ g → encF f n = encF g n := by
      intro f
      induction f with
      | zero => intro g n h1 h2; have : n = 0 := by omega
                subst this; cases g <;> simp [encF]
      | succ f ih =>
        intro g n h1 h2
        by_cases hn : n = 0
        · subst hn; cases g <;> simp [encF]
        · cases g with
          | zero => omega
          | succ g =>
            simp only [encF, if_neg hn]
            have hd : n / B < n := Nat.div_lt_self (by omega) (by decide)
            rw [ih g (n / B) (by omega) (by omega)]
    by_cases hn : n = 0
    · subst hn; cases f <;> simp [encF]
    · cases f with
      | zero => omega
      | succ f =>
        simp only [encF, if_neg hn]
        have hd : n / B < n := Nat.div_lt_self (by omega) (by decide)
        rw [enc, key f (n / B) (n / B) (by omega) (Nat.le_refl _)]
theorem enc_zero : enc 0 = [] := rfl
theorem enc_pos {n : Nat} (h : n ≠ 0) : enc n = ((n % B : Nat) : Int) :: enc (n / B) := by
  rw [enc, encF_eq n n (Nat.le_refl _), if_neg h]
theorem enc_eq (n : Nat) : enc n = if n = 0 then [] else ((n % B : Nat) : Int) :: enc (n / B) := by
  by_cases h : n = 0
  · subst h; rfl
  · rw [if_neg h, enc_pos h]

theorem val_nonneg : ∀ {xs : List Int}, Words xs → 0 ≤ val xs
  | [], _ => by simp [val]
  | x :: xs, h => by
    have h1 := h x (List.mem_cons_self ..)
    have h2 := val_nonneg (xs := xs) fun y hy => h y (List.mem_cons_of_mem _ hy)
    simp only [val]; omega
theorem val_enc (n : Nat) : val (enc n) = n := by
  induction n using Nat.strongRecOn with
  | _ n ih =>
    by_cases h : n = 0
    · subst h; simp [enc_zero, val]
    · rw [enc_pos h, val, ih (n / B) (Nat.div_lt_self (by omega) (by decide))]
      have := Nat.div_add_mod n B
      unfold B at *
      omega
theorem words_enc (n : Nat) : Words (enc n) := by
  induction n using Nat.strongRecOn with
  | _ n ih =>
    by_cases h : n = 0
    · subst h; intro x hx; simp [enc_zero] at hx
    · rw [enc_pos h]
      intro x hx
      cases hx with
      | head => have := Nat.mod_lt n (show B > 0 by decide); unfold B at *; omega
      | tail _ hm => exact ih (n / B) (Nat.div_lt_self (by omega) (by decide)) x hm
theorem canon_enc (n : Nat) : Canon (enc n) := by
  refine ⟨words_enc n, ?_⟩
  induction n using Nat.strongRecOn with
  | _ n ih =>
    by_cases h : n = 0
    · subst h; simp [enc_zero]
    · rw [enc_pos h]
      by_cases h2 : n / B = 0
      · rw [h2, enc_zero]
        have hlt : n < B := by
          rcases Nat.lt_or_ge n B with h3 | h3
          · exact h3
          · have := Nat.div_pos h3 (by decide); omega
        rw [Nat.mod_eq_of_lt hlt]
        simp; omega
      · have := ih (n / B) (Nat.div_lt_self (by omega) (by decide))
        rw [enc_pos h2] at this ⊢
        rw [List.getLast?_cons_cons]
        exact this
theorem enc_len (n k : Nat) : (enc n).length ≤ k ↔ n < B ^ k := by
  induction k generalizing n with
  | zero =>
    by_cases h : n = 0
    · subst h; simp [enc_zero]
    · rw [enc_pos h]; simp; omega
  | succ k ih =>
    by_cases h : n = 0
    · subst h; simp [enc_zero, Nat.pow_pos]
    · rw [enc_pos h, List.length_cons, Nat.add_le_add_iff_right, ih, Nat.pow_succ, Nat.div_lt_iff_lt_mul (by decide)]
/-- The only words of a number. -/
theorem enc_val : ∀ {xs : List Int}, Canon xs → enc (val xs).toNat = xs
  | [], _ => by simp [val, enc_zero]
  | x :: xs, h => by
    have h1 := h.1 x (List.mem_cons_self ..)
    have hw : Words xs := fun y hy => h.1 y (List.mem_cons_of_mem _ hy)
    have hv := val_nonneg hw
    have hc : Canon xs := by
      refine ⟨hw, ?_⟩
      cases xs with
      | nil => simp
      | cons y ys => have := h.2; rwa [List.getLast?_cons_cons] at this
    have hne : (val (x :: xs)).toNat ≠ 0 := by
      intro h0
      have : val (x :: xs) = 0 := by
        have := val_nonneg h.1; omega
      simp only [val] at this
      have hx : x = 0 := by omega
      have hvx : val xs = 0 := by omega
      cases xs with
      | nil => have := h.2; rw [hx] at this; simp at this
      | cons y ys =>
        have h3 := enc_val hc
        rw [hvx] at h3
        simp [enc_zero] at h3
    rw [enc_pos hne]
    have e1 : (val (x :: xs)).toNat % B = x.toNat := by
      simp only [val]; unfold B; omega
    have e2 : (val (x :: xs)).toNat / B = (val xs).toNat := by
      simp only [val]; unfold B; omega
    rw [e1, e2, enc_val hc]
    congr 1
    omega
theorem canon_inj {xs ys : List Int} (hx : Canon xs) (hy : Canon ys) (h : val xs = val ys) : xs = ys := by
  rw [← enc_val hx, ← enc_val hy, h]

theorem toI_mk (z : Int) : toI (decide (z < 0)) (enc z.natAbs) = z := by
  unfold toI
  rw [val_enc]
  by_cases h : z < 0
  · rw [if_pos (by simp [h])]; omega
  · rw [if_neg (by simp [h])]; omega
theorem okI_mk {n : Nat} {z : Int} : OkI n (decide (z < 0)) (enc z.natAbs) ↔ z.natAbs < B ^ n := by
  unfold OkI
  rw [enc_len]
  refine ⟨fun h => h.2.2, fun h => ⟨canon_enc _, fun he => ?_, h⟩⟩
  have : z.natAbs = 0 := by
    by_cases hz : z.natAbs = 0
    · exact hz
    · rw [enc_pos hz] at he; cases he
  simp; omega
theorem toI_val {n : Nat} {s : Bool} {xs : List Int} (h : OkI n s xs) : s = decide (toI s xs < 0) ∧ xs = enc (toI s xs).natAbs := by
  obtain ⟨hc, hs, _⟩ := h
  have hv := val_nonneg hc.1
  have he := enc_val hc
  unfold toI
  cases s with
  | false =>
    simp only [Bool.false_eq_true, if_false]
    exact ⟨by simp; omega, by rw [show (val xs).natAbs = (val xs).toNat by omega, he]⟩
  | true =>
    simp only [if_true]
    have hne : val xs ≠ 0 := by
      intro h0
      rw [h0] at he
      have : xs = [] := by rw [← he]; rfl
      have := hs this
      cases this
    exact ⟨by simp; omega, by rw [show (- val xs).natAbs = (val xs).toNat by omega, he]⟩
theorem toI_inj {n : Nat} {s t : Bool} {xs ys : List Int} (h : OkI n s xs) (k : OkI n t ys) (e : toI s xs = toI t ys) : s = t ∧ xs = ys := by
  have h1 := toI_val h
  have k1 := toI_val k
  rw [e] at h1
  exact ⟨h1.1.trans k1.1.symm, h1.2.trans k1.2.symm⟩

def cmpI (x y : Int) : Int := if x < y then -1 else if x = y then 0 else 1
def sgnI (x : Int) : Int := if x < 0 then -1 else if x = 0 then 0 else 1

end Go.Proofs.YtkfdnpbpebmhaaaGreatDoor.Num
namespace Go.Proofs.YtkfdnpbpebmhaaaGreatDoor.Sx
open Go Go.RowKit

/-! ### kinds of elements: numbers, and strings by a number each -/
inductive EK where
  | i8 | i16 | i32 | i64 | u8 | u16 | u32 | u64 | str
def ofK : IntKind → EK
  | .i8 => .i8 | .i16 => .i16 | .i32 => .i32 | .i64 => .i64 | .u8 => .u8 | .u16 => .u16 | .u32 => .u32 | .u64 => .u64
def strL : List UInt8 → Nat
  | [] => 0
  | b :: l => b.toNat + 1 + 257 * strL l
def unL : Nat → Nat → List UInt8
  | 0, _ => []
  | f + 1, n => if n = 0 then [] else UInt8.ofNat (n % 257 - 1) :: unL f (n / 257)
def o_stri (s : ByteArray) : Int := (strL s.data.toList : Nat)
def o_str (n : Int) : ByteArray := ⟨(unL n.toNat n.toNat).toArray⟩
theorem unL_strL : ∀ (l : List UInt8) (f : Nat), strL l ≤ f → unL f (strL l) = l
  | [], f, _ => by cases f <;> simp [strL, unL]
  | b :: l, f, h => by
    have hb : b.toNat < 256 := UInt8.toNat_lt b
    cases f with
    | zero => simp [strL] at h
    | succ f =>
      simp only [strL] at h ⊢
      have h1 : (b.toNat + 1 + 257 * strL l) % 257 = b.toNat + 1 := by omega
      have h2 : (b.toNat + 1 + 257 * strL l) / 257 = strL l := by omega
      simp only [unL]
      rw [if_neg (by omega), h1, h2, unL_strL l f (by omega), Nat.add_sub_cancel]
      simp
theorem str_stri (s : ByteArray) : o_str (o_stri s) = s := by
  unfold o_str o_stri
  rw [Int.toNat_natCast, unL_strL _ _ (Nat.le_refl _)]
def mkV : EK → Int → Value
  | .i8, n => .int .i8 n
  | .i16, n => .int .i16 n
  | .i32, n => .int .i32 n
  | .i64, n => .int .i64 n
  | .u8, n => .int .u8 n
  | .u16, n => .int .u16 n
  | .u32, n => .int .u32 n
  | .u64, n => .int .u64 n
  | .str, n => .string (o_str n)
def unV : Value → Option (EK × Int)
  | .int k n => some (ofK k, n)
  | .string s => some (.str, o_stri s)
  | _ => none
theorem mkV_ofK (k : IntKind) (n : Int) : mkV (ofK k) n = .int k n := by cases k <;> rfl
theorem unV_mk {v : Value} {k : EK} {n : Int} (h : unV v = some (k, n)) : v = mkV k n := by
  unfold unV at h
  split at h
  · simp only [Option.some.injEq, Prod.mk.injEq] at h; obtain ⟨rfl, rfl⟩ := h; rw [mkV_ofK]
  · simp only [Option.some.injEq, Prod.mk.injEq] at h; obtain ⟨rfl, rfl⟩ := h; simp only [mkV, str_stri]
  · cases h
theorem mkV_one (k : EK) (n : Int) : (mkV k n).oneCell' = true := by cases k <;> rfl
theorem mkV_cells (k : EK) (n : Int) : (mkV k n).cells = #[mkV k n] := by cases k <;> rfl
theorem str_zero : o_str 0 = ByteArray.empty := rfl
def eEq (a b : EK) : Bool := Nat.beq a.ctorIdx b.ctorIdx
theorem eEq_iff {a b : EK} : eEq a b = true ↔ a = b := by
  cases a <;> cases b <;> first | exact ⟨fun _ => rfl, fun _ => rfl⟩ | exact ⟨fun h => absurd h (by decide), fun h => by cases h⟩

/-! ### strings -/
def o_cat (a b : ByteArray) : ByteArray := a ++ b
def o_sub (s : ByteArray) (l h : Nat) : ByteArray := s.extract l h
def o_seq (a b : ByteArray) : Bool := a.toList == b.toList
def o_byte (s : ByteArray) (n : Nat) : Int := (((s[n]?).map UInt8.toNat).getD 0 : Nat)
def o_bytes (xs : List Int) : ByteArray := ⟨(xs.map fun x => UInt8.ofNat x.toNat).toArray⟩

/-! ### values -/
/-- What one cell (or one slot) holds. -/
inductive LV where
  | v (x : Value)
  | row (k : EK) (xs : List Int)
  | ptr (id off : Nat)
  | cp (x : Value)
  | sl (id off len cap : Nat)
  | gsl (id len : Nat)
/-- Integers one after the other, each a sign and words. -/
def absL : List Int → List LV
  | [] => []
  | z :: zs => .v (.bool (decide (z < 0))) :: .row .u32 (Num.enc z.natAbs) :: absL zs
/-- abs: a struct of integers. -/
inductive SV where
  | one (l : LV)
  | agg (ls : List LV)
  | abs (zs : List Int)
inductive AV where
  | s (x : SV)
  | tup (xs : List SV)

/-- What a block holds: cells, or numbers of one kind. -/
inductive BC where
  | cells (ls : List LV)
  | ints (k : EK) (xs : List Int)
  | gi (k : EK) (xs : List Int)
/-- A block of one's own: mut_: it may still be written. -/
structure Box where
  ty : TypeId
  bc : BC
  mut_ : Bool

/-- Looking up in a list of pairs: the first one counts. -/
def lk {α : Type} : List (Nat × α) → Nat → Option α
  | [], _ => none
  | (s, x) :: r, t => bif Nat.beq s t then some x else lk r t
theorem lk_cons {α : Type} (s t : Nat) (x : α) (r : List (Nat × α)) : lk ((s, x) :: r) t = if s = t then some x else lk r t := by
  simp only [lk, Bool.cond_eq_ite]
  by_cases e : s = t
  · subst e; simp
  · rw [if_neg e, if_neg (by intro h; exact e (Nat.eq_of_beq_eq_true h))]
theorem lk_append {α : Type} (l r : List (Nat × α)) (t : Nat) : lk (l ++ r) t = (lk l t).or (lk r t) := by
  induction l with
  | nil => rfl
  | cons p l ih =>
    obtain ⟨s, x⟩ := p
    rw [List.cons_append, lk_cons, lk_cons, ih]
    split <;> rfl
def liv {α : Type} (bs : List (Nat × α)) (i : Nat) : Bool := (lk bs i).isSome

/-- W' has w's blocks outside of M. -/
def Agree (M : Nat → Prop) (w W' : World) : Prop := ∀ b, ¬ M b → b < w.heap.size → W'.heap[b]? = w.heap[b]?
def RdI (M : Nat → Prop) (w : World) (k : EK) (xs : List Int) (u : Value) : Prop :=
  ∃ A c, u = .slice A xs.length c ∧ xs.length ≤ c ∧ xs.length ≤ 9223372036854775807 ∧
    ∀ W', Agree M w W' → 0 < xs.length → ∃ ad, A = some ad ∧ ∀ j, j < xs.length → W'.cell? (ad.add j) = some (mkV k (xs.getD j 0))
def CpI (M : Nat → Prop) (w : World) (x u : Value) : Prop := ∃ ad, u = .pointer (some ad) ∧ ∀ W', Agree M w W' → W'.cell? ad = some x

def gL (M : Nat → Prop) (β : Nat → Nat) (w : World) : LV → Value → Prop
  | .v x, u => u = x
  | .row k xs, u => RdI M w k xs u
  | .ptr id off, u => u = .pointer (some ⟨β id, off, none⟩)
  | .cp x, u => CpI M w x u
  | .sl id off len cap, u => u = .slice (some ⟨β id, off, none⟩) len cap
  | .gsl id len, u => ∃ (cap : Nat) (cur : Array Value) (ty : TypeId), u = .slice (some ⟨β id, 0, none⟩) len cap ∧ w.heap[β id]? = some (.cells cur ty (0, 0)) ∧ cur.size = cap ∧ len ≤ cap ∧ cap ≤ maxLen
def gLs (M : Nat → Prop) (β : Nat → Nat) (w : World) : List LV → List Value → Prop
  | [], [] => True
  | l :: ls, u :: us => gL M β w l u ∧ gLs M β w ls us
  | _, _ => False
def gS (M : Nat → Prop) (β : Nat → Nat) (w : World) : SV → Value → Prop
  | .one l, u => gL M β w l u
  | .agg ls, u => ∃ arr, u = .agg arr ∧ gLs M β w ls arr.toList
  | .abs zs, u => ∃ arr, u = .agg arr ∧ gLs M β w (absL zs) arr.toList
def gSs (M : Nat → Prop) (β : Nat → Nat) (w : World) : List SV → List Value → Prop
  | [], [] => True
  | l :: ls, u :: us => gS M β w l u ∧ gSs M β w ls us
  | _, _ => False
def gA (M : Nat → Prop) (β : Nat → Nat) (w : World) : AV → Value → Prop
  | .s x, u => gS M β w x u
  | .tup xs, u => ∃ arr, u = .tuple arr ∧ gSs M β w xs arr.toList

/-- A move of the world that keeps what is known: M may grow by new blocks, and may lose blocks; β is kept on the ids below n. -/
structure Moves (M M' : Nat → Prop) (w w' : World) : Prop where
  size : w.heap.size ≤ w'.heap.size
  keep : ∀ b, b < w.heap.size → ¬ M b → w'.heap[b]? = w.heap[b]? ∧ ¬ M' b
  len : ∀ (b : Nat) (cur : Array Value) (ty : TypeId), w.heap[b]? = some (.cells cur ty (0, 0)) → ∃ cur' : Array Value, w'.heap[b]? = some (.cells cur' ty (0, 0)) ∧ cur'.size = cur.size

theorem Moves.refl (M : Nat → Prop) (w : World) : Moves M M w w := ⟨Nat.le_refl _, fun _ _ h => ⟨rfl, h⟩, fun _ cur _ h => ⟨cur, h, rfl⟩⟩
theorem Moves.trans {M M' M'' : Nat → Prop} {w w' w'' : World} (h : Moves M M' w w') (k : Moves M' M'' w' w'') : Moves M M'' w w'' :=
  ⟨Nat.le_trans h.size k.size, fun b hb hm => by
    obtain ⟨h1, h2⟩ := h.keep b hb hm
    obtain ⟨k1, k2⟩ := k.keep b (Nat.lt_of_lt_of_le hb h.size) h2
    exact ⟨k1.trans h1, k2⟩, fun b cur ty hb => by
    obtain ⟨c1, h1, h2⟩ := h.len b cur ty hb
    obtain ⟨c2, k1, k2⟩ := k.len b c1 ty h1
    exact ⟨c2, k1, k2.trans h2⟩⟩
theorem Moves.agree {M M' : Nat → Prop} {w w' W' : World} (h : Moves M M' w w') (ha : Agree M' w' W') : Agree M w W' := fun b hm hb => by
  obtain ⟨h1, h2⟩ := h.keep b hb hm
  exact (ha b h2 (Nat.lt_of_lt_of_le hb h.size)).trans h1
theorem Moves.of_below {M : Nat → Prop} {w w' : World} (_hM : ∀ b, M b → b < w.heap.size) (h : Below w.heap.size w w') : Moves M M w w' :=
  ⟨h.size, fun b hb hm => ⟨h.block b hb, hm⟩, fun b cur _ty hb => ⟨cur, (h.block b (Array.getElem?_eq_some_iff.1 hb).1).trans hb, rfl⟩⟩

/-- The ids that occur are living ones. -/
def LV.okB (n : Nat → Bool) : LV → Bool
  | .ptr id _ => n id
  | .sl id _ _ _ => n id
  | .gsl id _ => n id
  | _ => true

theorem RdI.moves {M M' : Nat → Prop} {w w' : World} {k : EK} {xs : List Int} {u : Value} (h : RdI M w k xs u) (hm : Moves M M' w w') : RdI M' w' k xs u := by
  obtain ⟨A, c, e, h1, h2, h3⟩ := h
  exact ⟨A, c, e, h1, h2, fun W' hW => h3 W' (hm.agree hW)⟩
theorem CpI.moves {M M' : Nat → Prop} {w w' : World} {x u : Value} (h : CpI M w x u) (hm : Moves M M' w w') : CpI M' w' x u := by
  obtain ⟨ad, e, h1⟩ := h
  exact ⟨ad, e, fun W' hW => h1 W' (hm.agree hW)⟩

theorem gL.moves {M M' : Nat → Prop} {β β' : Nat → Nat} {w w' : World} {n : Nat → Bool} {l : LV} {u : Value} (h : gL M β w l u) (hm : Moves M M' w w') (hl : l.okB n = true) (hβ : ∀ i, n i = true → β' i = β i) : gL M' β' w' l u := by
  cases l with
  | v x => exact h
  | row k xs => exact RdI.moves h hm
  | ptr id off => simp only [gL] at h ⊢; rw [hβ id hl]; exact h
  | cp x => exact CpI.moves h hm
  | sl id off len cap => simp only [gL] at h ⊢; rw [hβ id hl]; exact h
  | gsl id len =>
    obtain ⟨cap, cur, ty, h1, h2, h3, h4, h5⟩ := h
    obtain ⟨cur', k1, k2⟩ := hm.len _ _ _ h2
    refine ⟨cap, cur', ty, ?_, ?_, k2.trans h3, h4, h5⟩
    · rw [hβ id hl]; exact h1
    · rw [hβ id hl]; exact k1
def okLs (n : Nat → Bool) (ls : List LV) : Bool := ls.all (·.okB n)
def SV.okB (n : Nat → Bool) : SV → Bool
  | .one l => l.okB n
  | .agg ls => okLs n ls
  | .abs _ => true
def AV.okB (n : Nat → Bool) : AV → Bool
  | .s x => x.okB n
  | .tup xs => xs.all (·.okB n)
theorem okLs_abs (n : Nat → Bool) : ∀ zs, okLs n (absL zs) = true
  | [] => rfl
  | z :: zs => by
    have := okLs_abs n zs
    simp only [okLs, absL, List.all_cons, LV.okB, Bool.true_and] at this ⊢
    exact this
theorem gLs.moves {M M' : Nat → Prop} {β β' : Nat → Nat} {w w' : World} {n : Nat → Bool} (hm : Moves M M' w w') (hβ : ∀ i, n i = true → β' i = β i) : ∀ {ls : List LV} {us : List Value}, gLs M β w ls us → okLs n ls = true → gLs M' β' w' ls us
  | [], [], _, _ => trivial
  | l :: ls, u :: us, h, hl => by
    simp only [okLs, List.all_cons, Bool.and_eq_true] at hl
    exact ⟨h.1.moves hm hl.1 hβ, gLs.moves hm hβ h.2 hl.2⟩
  | [], _ :: _, h, _ => h.elim
  | _ :: _, [], h, _ => h.elim
theorem gS.moves {M M' : Nat → Prop} {β β' : Nat → Nat} {w w' : World} {n : Nat → Bool} {l : SV} {u : Value} (h : gS M β w l u) (hm : Moves M M' w w') (hl : l.okB n = true) (hβ : ∀ i, n i = true → β' i = β i) : gS M' β' w' l u := by
  cases l with
  | one l => exact gL.moves h hm hl hβ
  | agg ls => obtain ⟨arr, e, h⟩ := h; exact ⟨arr, e, h.moves hm hβ hl⟩
  | abs zs => obtain ⟨arr, e, h⟩ := h; exact ⟨arr, e, h.moves hm hβ (okLs_abs n zs)⟩
theorem gSs.moves {M M' : Nat → Prop} {β β' : Nat → Nat} {w w' : World} {n : Nat → Bool} (hm : Moves M M' w w') (hβ : ∀ i, n i = true → β' i = β i) : ∀ {ls : List SV} {us : List Value}, gSs M β w ls us → ls.all (·.okB n) = true → gSs M' β' w' ls us
  | [], [], _, _ => trivial
  | l :: ls, u :: us, h, hl => by
    simp only [List.all_cons, Bool.and_eq_true] at hl
    exact ⟨h.1.moves hm hl.1 hβ, gSs.moves hm hβ h.2 hl.2⟩
  | [], _ :: _, h, _ => h.elim
  | _ :: _, [], h, _ => h.elim
theorem gA.moves {M M' : Nat → Prop} {β β' : Nat → Nat} {w w' : World} {n : Nat → Bool} {l : AV} {u : Value} (h : gA M β w l u) (hm : Moves M M' w w') (hl : l.okB n = true) (hβ : ∀ i, n i = true → β' i = β i) : gA M' β' w' l u := by
  cases l with
  | s l => exact gS.moves h hm hl hβ
  | tup ls => obtain ⟨arr, e, h⟩ := h; exact ⟨arr, e, h.moves hm hβ hl⟩

theorem gLs.length {M : Nat → Prop} {β : Nat → Nat} {w : World} : ∀ {ls : List LV} {us : List Value}, gLs M β w ls us → us.length = ls.length
  | [], [], _ => rfl
  | l :: ls, u :: us, h => by simp [gLs.length h.2]
  | [], _ :: _, h => h.elim
  | _ :: _, [], h => h.elim
theorem gLs.get {M : Nat → Prop} {β : Nat → Nat} {w : World} : ∀ {ls : List LV} {us : List Value}, gLs M β w ls us → ∀ (j : Nat) l, ls[j]? = some l → ∃ u, us[j]? = some u ∧ gL M β w l u
  | [], [], _, j, l, hj => by simp at hj
  | l :: ls, u :: us, h, 0, l', hj => by simp at hj; subst hj; exact ⟨u, by simp, h.1⟩
  | l :: ls, u :: us, h, j + 1, l', hj => by simpa using gLs.get h.2 j l' (by simpa using hj)
  | [], _ :: _, h, _, _, _ => h.elim
  | _ :: _, [], h, _, _, _ => h.elim
theorem gLs.take {M : Nat → Prop} {β : Nat → Nat} {w : World} : ∀ {ls : List LV} {us : List Value} (n : Nat), gLs M β w ls us → gLs M β w (ls.take n) (us.take n)
  | [], [], n, _ => by simp [gLs]
  | l :: ls, u :: us, 0, h => by simp [gLs]
  | l :: ls, u :: us, n + 1, h => ⟨h.1, gLs.take n h.2⟩
  | [], _ :: _, _, h => h.elim
  | _ :: _, [], _, h => h.elim
theorem gLs.drop {M : Nat → Prop} {β : Nat → Nat} {w : World} : ∀ {ls : List LV} {us : List Value} (n : Nat), gLs M β w ls us → gLs M β w (ls.drop n) (us.drop n)
  | [], [], n, _ => by simp [gLs]
  | l :: ls, u :: us, 0, h => h
  | l :: ls, u :: us, n + 1, h => gLs.drop n h.2
  | [], _ :: _, _, h => h.elim
  | _ :: _, [], _, h => h.elim
theorem gLs.append {M : Nat → Prop} {β : Nat → Nat} {w : World} {ls' : List LV} {us' : List Value} (h' : gLs M β w ls' us') : ∀ {ls : List LV} {us : List Value}, gLs M β w ls us → gLs M β w (ls ++ ls') (us ++ us')
  | [], [], _ => h'
  | _l :: _ls, _u :: _us, h => ⟨h.1, gLs.append h' h.2⟩
  | [], _ :: _, h => h.elim
  | _ :: _, [], h => h.elim
theorem gSs.get {M : Nat → Prop} {β : Nat → Nat} {w : World} : ∀ {ls : List SV} {us : List Value}, gSs M β w ls us → ∀ (j : Nat) l, ls[j]? = some l → ∃ u, us[j]? = some u ∧ gS M β w l u
  | [], [], _, j, l, hj => by simp at hj
  | l :: ls, u :: us, h, 0, l', hj => by simp at hj; subst hj; exact ⟨u, by simp, h.1⟩
  | l :: ls, u :: us, h, j + 1, l', hj => by simpa using gSs.get h.2 j l' (by simpa using hj)
  | [], _ :: _, h, _, _, _ => h.elim
  | _ :: _, [], h, _, _, _ => h.elim

def BC.okB (n : Nat → Bool) : BC → Bool
  | .cells ls => okLs n ls
  | .ints _ _ => true
  | .gi _ _ => true
def gBC (M : Nat → Prop) (β : Nat → Nat) (w : World) : BC → List Value → Prop
  | .cells ls, us => gLs M β w ls us
  | .ints k xs, us => us = xs.map (mkV k)
  | .gi k xs, us => ∃ rest, us = xs.map (mkV k) ++ rest
theorem gBC.moves {M M' : Nat → Prop} {β β' : Nat → Nat} {w w' : World} {n : Nat → Bool} (hm : Moves M M' w w') (hβ : ∀ i, n i = true → β' i = β i) {b : BC} {us : List Value} (h : gBC M β w b us) (hl : b.okB n = true) : gBC M' β' w' b us := by
  cases b with
  | cells ls => exact gLs.moves hm hβ h hl
  | ints k xs => exact h
  | gi k xs => exact h

/-- Below base, and outside of X, the world is as it was. -/
structure Bel (base : Nat) (X : Nat → Prop) (w w' : World) : Prop where
  os : w'.os = w.os
  tape : w'.tape = w.tape
  output : w'.output = w.output
  size : w.heap.size ≤ w'.heap.size
  block : ∀ k, k < base → ¬ X k → w'.heap[k]? = w.heap[k]?
theorem Bel.refl (B : Nat) (X : Nat → Prop) (w : World) : Bel B X w w := ⟨rfl, rfl, rfl, Nat.le_refl _, fun _ _ _ => rfl⟩
theorem Bel.trans {B : Nat} {X : Nat → Prop} {a b c : World} (h : Bel B X a b) (k : Bel B X b c) : Bel B X a c :=
  ⟨k.os.trans h.os, k.tape.trans h.tape, k.output.trans h.output, Nat.le_trans h.size k.size, fun i hi hx => (k.block i hi hx).trans (h.block i hi hx)⟩
theorem Bel.of_below {B B' : Nat} {X : Nat → Prop} {w w' : World} (h : Below B' w w') (hB : B ≤ B') : Bel B X w w' := ⟨h.os, h.tape, h.output, h.size, fun k hk _ => h.block k (Nat.lt_of_lt_of_le hk hB)⟩
theorem Bel.below {B : Nat} {X : Nat → Prop} {w w' : World} (h : Bel B X w w') (hX : ∀ b, ¬ X b) : Below B w w' := ⟨h.os, h.tape, h.output, h.size, fun k hk => h.block k hk (hX k)⟩

/-! ### operations that touch no memory: the model's own text, run without a world -/
def pureRun (P : Program) {α : Type} : Sem α → Option α
  | .pure a => some a
  | .program k => pureRun P (k P)
  | _ => none
theorem pureRun_run {P : Program} {α : Type} : ∀ {s : Sem α} {a : α}, pureRun P s = some a → ∀ w, s.run P w = .ok a w
  | .pure a, b, h, w => by simp only [pureRun, Option.some.injEq] at h; subst h; rfl
  | .program k, b, h, w => by simp only [pureRun] at h; simp only [Sem.run]; exact pureRun_run h w
  | .load .., _, h, _ => by simp [pureRun] at h
  | .store .., _, h, _ => by simp [pureRun] at h
  | .new .., _, h, _ => by simp [pureRun] at h
  | .shape .., _, h, _ => by simp [pureRun] at h
  | .freeze .., _, h, _ => by simp [pureRun] at h
  | .frozen .., _, h, _ => by simp [pureRun] at h
  | .getObj .., _, h, _ => by simp [pureRun] at h
  | .setObj .., _, h, _ => by simp [pureRun] at h
  | .choose .., _, h, _ => by simp [pureRun] at h
  | .sys .., _, h, _ => by simp [pureRun] at h
  | .mark .., _, h, _ => by simp [pureRun] at h
  | .halt .., _, h, _ => by simp [pureRun] at h

end Go.Proofs.YtkfdnpbpebmhaaaGreatDoor.Sx
namespace Go.Proofs.YtkfdnpbpebmhaaaGreatDoor.Sx
open Go Go.RowKit

structure St where
  tmps : List (Nat × AV)
  boxes : List (Nat × Box)

/-- M: what may change: what the caller says, and one's own boxes. -/
def Mof (M0 : Nat → Prop) (β : Nat → Nat) (bs : List (Nat × Box)) : Nat → Prop := fun b => M0 b ∨ ∃ i x, lk bs i = some x ∧ x.mut_ = true ∧ b = β i

structure Gm (M0 : Nat → Prop) (base : Nat) (X : Nat → Prop) (nt : Nat) (β : Nat → Nat) (st : St) (a : Act) (w : World) : Prop where
  def_ : a.defers = []
  size : a.tmps.size = nt
  tmps : ∀ t x, lk st.tmps t = some x → t < nt ∧ x.okB (liv st.boxes) = true ∧ gA (Mof M0 β st.boxes) β w x (a.tmps.getD t undef)
  boxes : ∀ i b, lk st.boxes i = some b → b.bc.okB (liv st.boxes) = true ∧ ∃ arr, w.heap[β i]? = some (.cells arr b.ty (0, 0)) ∧ gBC (Mof M0 β st.boxes) β w b.bc arr.toList
  inj : ∀ i j, liv st.boxes i = true → liv st.boxes j = true → β i = β j → i = j
  ge : ∀ i, liv st.boxes i = true → base ≤ β i ∨ X (β i)
  M0lt : ∀ b, M0 b → b < base
  M0X : ∀ b, M0 b → ¬ X b
  pin : ∀ g, X g → liv st.boxes 0 = true ∧ β 0 = g
  base_le : base ≤ w.heap.size

section
variable {P : Program}

def ofVal : Value → SV
  | .agg cs => .agg (cs.toList.map .v)
  | x => .one (.v x)
def avOf : Value → AV
  | .tuple vs => .tup (vs.toList.map ofVal)
  | r => .s (ofVal r)
def ev (ρ : Nat → Option AV) : Operand → Option AV
  | .tmp t => ρ t
  | .const x => some (.s (ofVal x))
  | .func f => some (.s (.one (.v (.func (.func f) #[] #[]))))
  | .global _ => none
def scal : AV → Option Value
  | .s (.one (.v x)) => some x
  | _ => none
def sc (ρ : Nat → Option AV) (x : Operand) : Option Value := (ev ρ x).bind scal
def svOf : AV → Option SV
  | .s x => some x
  | _ => none

theorem gLs_vals {M : Nat → Prop} {β : Nat → Nat} {w : World} : ∀ (l : List Value), gLs M β w (l.map .v) l
  | [] => trivial
  | _ :: l => ⟨rfl, gLs_vals l⟩
theorem okLs_vals (n : Nat → Bool) (l : List Value) : okLs n (l.map .v) = true := by
  induction l with
  | nil => rfl
  | cons x l ih => simp only [okLs, List.map_cons, List.all_cons, LV.okB, Bool.true_and] at ih ⊢; exact ih
theorem gS_ofVal {M : Nat → Prop} {β : Nat → Nat} {w : World} (x : Value) : gS M β w (ofVal x) x := by
  unfold ofVal
  split
  · exact ⟨_, rfl, gLs_vals _⟩
  · rfl
theorem okB_ofVal (n : Nat → Bool) (x : Value) : (ofVal x).okB n = true := by
  unfold ofVal
  split
  · exact okLs_vals _ _
  · rfl

/-- What is looked up holds in the state. -/
def Low {α : Type} (ρ : Nat → Option α) (l : List (Nat × α)) : Prop := ∀ t x, ρ t = some x → lk l t = some x

theorem Gm.ev {M0 X : Nat → Prop} {base nt : Nat} {β : Nat → Nat} {st : St} {a : Act} {w : World} (h : Gm M0 base X nt β st a w) {ρ : Nat → Option AV} (hρ : Low ρ st.tmps) {x : Operand} {v : AV} (hv : ev ρ x = some v) :
    v.okB (liv st.boxes) = true ∧ gA (Mof M0 β st.boxes) β w v (a.eval x) := by
  cases x with
  | tmp t => exact (h.tmps t v (hρ t v hv)).2
  | const x => simp only [Sx.ev, Option.some.injEq] at hv; subst hv; exact ⟨okB_ofVal _ _, gS_ofVal x⟩
  | global g => simp [Sx.ev] at hv
  | func f => simp only [Sx.ev, Option.some.injEq] at hv; subst hv; exact ⟨rfl, rfl⟩
theorem Gm.sc {M0 X : Nat → Prop} {base nt : Nat} {β : Nat → Nat} {st : St} {a : Act} {w : World} (h : Gm M0 base X nt β st a w) {ρ : Nat → Option AV} (hρ : Low ρ st.tmps) {x : Operand} {v : Value} (hv : sc ρ x = some v) : a.eval x = v := by
  unfold Sx.sc at hv
  cases he : Sx.ev ρ x with
  | none => simp [he] at hv
  | some y =>
    have := (h.ev hρ he).2
    simp only [he, Option.bind_some] at hv
    unfold scal at hv
    split at hv
    · simp only [Option.some.injEq] at hv; subst hv; exact this
    · cases hv

def kEq (a b : IntKind) : Bool := Nat.beq a.ctorIdx b.ctorIdx
theorem kEq_iff {a b : IntKind} : kEq a b = true ↔ a = b := by cases a <;> cases b <;> decide

abbrev Sp := List SV → Option (AV × List Prop)
/-- A function that writes into its first argument, a slice: kind, the block's numbers, place, length, capacity; the other arguments; its answer, the block's new numbers, what is owed. -/
abbrev SpM := EK → List Int → Nat → Nat → Nat → List SV → Option (AV × List Int × List Prop)
/-- A function that turns its only argument, a growing slice, in place. -/
abbrev SpG := EK → List Int → Option (List Int × List Prop)
/-- A function that answers with a new slice, all of its block: the block's type, kind, numbers. -/
abbrev SpF := List SV → Option (TypeId × EK × List Int × List Prop)
inductive Ctr where
  | fn (sp : Sp)
  | mu (sm : SpM)
  | mg (sg : SpG)
  | nf (sf : SpF)

def noB : Nat → Bool := fun _ => false

/-- A contract: what a function of values answers, if what it owes holds. -/
structure Con (P : Program) (f : FuncId) (sp : Sp) : Prop where
  enters : ∀ args : Array Value, pureRun P (callFunc f args) = some (.enter f args)
  calls : ∀ avs r ps, sp avs = some (r, ps) → (∀ p, p ∈ ps → p) → ∀ (M : Nat → Prop) (β : Nat → Nat) (w : World) (vs : Array Value), (∀ b, M b → b < w.heap.size) → gSs M β w avs vs.toList →
    Calls P f vs w fun e w' => ∃ u, e = .returned u ∧ r.okB noB = true ∧ gA M β w' r u ∧ Below w.heap.size w w'
structure ConM (P : Program) (f : FuncId) (sm : SpM) : Prop where
  enters : ∀ args : Array Value, pureRun P (callFunc f args) = some (.enter f args)
  calls : ∀ k xs off len cap avs r xs' ps, sm k xs off len cap avs = some (r, xs', ps) → (∀ p, p ∈ ps → p) → ∀ (M : Nat → Prop) (β : Nat → Nat) (w : World) (g : Nat) (ty : TypeId) (arr : Array Value) (vs : List Value), (∀ b, M b → b < w.heap.size) → M g →
    w.heap[g]? = some (.cells arr ty (0, 0)) → arr.toList = xs.map (mkV k) → gSs M β w avs vs →
    Calls P f (Value.slice (some ⟨g, off, none⟩) len cap :: vs).toArray w fun e w' => ∃ u, e = .returned u ∧ r.okB noB = true ∧ gA M β w' r u ∧ Bel w.heap.size (· = g) w w' ∧
      ∃ arr' : Array Value, w'.heap[g]? = some (.cells arr' ty (0, 0)) ∧ arr'.toList = xs'.map (mkV k)
  len : ∀ k xs off len cap avs r xs' ps, sm k xs off len cap avs = some (r, xs', ps) → (∀ p, p ∈ ps → p) → xs'.length = xs.length
structure ConG (P : Program) (f : FuncId) (sg : SpG) : Prop where
  enters : ∀ args : Array Value, pureRun P (callFunc f args) = some (.enter f args)
  calls : ∀ k xs xs' ps, sg k xs = some (xs', ps) → (∀ p, p ∈ ps → p) → ∀ (w : World) (g : Nat) (ty : TypeId) (arr : Array Value) (cap : Nat) (rest : List Value), w.heap[g]? = some (.cells arr ty (0, 0)) → arr.toList = xs.map (mkV k) ++ rest → arr.size = cap → cap ≤ maxLen →
    Calls P f #[Value.slice (some ⟨g, 0, none⟩) xs.length cap] w fun e w' => e = .returned (.tuple #[]) ∧ Bel w.heap.size (· = g) w w' ∧ ∃ arr' : Array Value, w'.heap[g]? = some (.cells arr' ty (0, 0)) ∧ arr'.toList = xs'.map (mkV k) ++ rest
  nil : ∀ w : World, Calls P f #[Value.slice none 0 0] w fun e w' => e = .returned (.tuple #[]) ∧ Below w.heap.size w w'
  len : ∀ k xs xs' ps, sg k xs = some (xs', ps) → (∀ p, p ∈ ps → p) → xs'.length = xs.length
structure ConF (P : Program) (f : FuncId) (sf : SpF) : Prop where
  enters : ∀ args : Array Value, pureRun P (callFunc f args) = some (.enter f args)
  calls : ∀ avs ty k xs ps, sf avs = some (ty, k, xs, ps) → (∀ p, p ∈ ps → p) → ∀ (M : Nat → Prop) (β : Nat → Nat) (w : World) (vs : Array Value), (∀ b, M b → b < w.heap.size) → gSs M β w avs vs.toList →
    Calls P f vs w fun e w' => ∃ (g : Nat) (arr : Array Value), e = .returned (.slice (some ⟨g, 0, none⟩) xs.length xs.length) ∧ w.heap.size ≤ g ∧ w'.heap[g]? = some (.cells arr ty (0, 0)) ∧ arr.toList = xs.map (mkV k) ∧ Below w.heap.size w w'
def Cn (P : Program) (f : FuncId) : Ctr → Prop
  | .nf sf => ConF P f sf
  | .fn sp => Con P f sp
  | .mu sm => ConM P f sm
  | .mg sg => ConG P f sg

/-! ### one operation -/
def isAgg (P : Program) (t : TypeId) : Option Bool := (P.underlying t).map fun d => match d with | .struct _ | .array _ _ => true | _ => false
def szOf (P : Program) (t : TypeId) : Option Nat := (P.info? t).map (·.size)
def cellsOf : SV → List LV
  | .one l => [l]
  | .agg ls => ls
  | .abs zs => absL zs
def oneC : LV → Bool
  | .v x => x.oneCell'
  | _ => true
def partOf (P : Program) (t : TypeId) (ls : List LV) (off : Nat) : Option SV :=
  match isAgg P t, szOf P t with
  | some true, some n => bif Nat.ble (off + n) ls.length then some (.agg ((ls.drop off).take n)) else none
  | some false, _ => (ls[off]?).map .one
  | _, _ => none
def absAt : List Int → Nat → Option Int
  | z :: _, 0 => some z
  | _ :: zs, n + 2 => absAt zs n
  | _, _ => none
def partAbs (P : Program) (t : TypeId) (zs : List Int) (off : Nat) : Option SV :=
  match isAgg P t, szOf P t with
  | some true, some 2 => (absAt zs off).map fun z => .abs [z]
  | _, _ => partOf P t (absL zs) off
def evs (ρ : Nat → Option AV) : List Operand → Option (List SV)
  | [] => some []
  | x :: xs => match (ev ρ x).bind svOf, evs ρ xs with
    | some y, some ys => some (y :: ys)
    | _, _ => none
def plainL : LV → Bool
  | .v _ => true
  | _ => false
def plainS : SV → Bool
  | .one l => plainL l
  | .agg ls => ls.all plainL
  | .abs _ => false
def plainA : AV → Bool
  | .s x => plainS x
  | .tup xs => xs.all plainS

/-- Own slices become rows; their blocks are written no more. -/
def frzL (B : Nat → Option Box) : LV → Option (LV × List (Nat × Box) × List Prop)
  | .sl id off len cap => match B id with
    | some ⟨ty, .ints k xs, _⟩ => some (.row k ((xs.drop off).take len), [(id, ⟨ty, .ints k xs, false⟩)], [off + len ≤ xs.length ∧ len ≤ cap ∧ len ≤ 9223372036854775807])
    | _ => none
  | .gsl id len => match B id with
    | some ⟨ty, .gi k xs, _⟩ => some (.row k (xs.take len), [(id, ⟨ty, .gi k xs, false⟩)], [len ≤ xs.length ∧ len ≤ 9223372036854775807])
    | _ => none
  | l => some (l, [], [])
def frzLs (B : Nat → Option Box) : List LV → Option (List LV × List (Nat × Box) × List Prop)
  | [] => some ([], [], [])
  | l :: ls => match frzL B l, frzLs B ls with
    | some (x, f, p), some (xs, fs, ps) => some (x :: xs, f ++ fs, p ++ ps)
    | _, _ => none
def frzS (B : Nat → Option Box) : SV → Option (SV × List (Nat × Box) × List Prop)
  | .one l => (frzL B l).map fun (x, r) => (.one x, r)
  | .agg ls => (frzLs B ls).map fun (x, r) => (.agg x, r)
  | .abs zs => some (.abs zs, [], [])
def frzSs (B : Nat → Option Box) : List SV → Option (List SV × List (Nat × Box) × List Prop)
  | [] => some ([], [], [])
  | l :: ls => match frzS B l, frzSs B ls with
    | some (x, f, p), some (xs, fs, ps) => some (x :: xs, f ++ fs, p ++ ps)
    | _, _ => none

/-- The answer, the boxes that are new or changed, what is owed. -/
structure Out where
  r : AV
  wr : List (Nat × Box)
  obs : List Prop

def fillEx (P : Program) (fields : Array Field) (ρ : Nat → Option AV) (ls : List LV) : List (Nat × Operand) → Option (List LV)
  | [] => some ls
  | (i, x) :: rest => match fields[i]?, ev ρ x with
    | some fd, some (.s y) => match szOf P fd.type with
      | some n => bif (cellsOf y).all oneC && Nat.beq (cellsOf y).length n && Nat.ble (fd.offset + n) ls.length then fillEx P fields ρ (ls.take fd.offset ++ cellsOf y ++ ls.drop (fd.offset + n)) rest else none
      | none => none
    | _, _ => none
/-- The same in an array: places of one size. -/
def fillArr (size : Nat) (ρ : Nat → Option AV) (ls : List LV) : List (Nat × Operand) → Option (List LV)
  | [] => some ls
  | (i, x) :: rest => match ev ρ x with
    | some (.s y) => bif (cellsOf y).all oneC && Nat.beq (cellsOf y).length size && Nat.ble (i * size + size) ls.length then fillArr size ρ (ls.take (i * size) ++ cellsOf y ++ ls.drop (i * size + size)) rest else none
    | _ => none
/-- A slice of numbers, written out. -/
def partInts (k : EK) (ρ : Nat → Option AV) : Nat → List (Nat × Operand) → Option (List Int)
  | _, [] => some []
  | n, (i, x) :: rest => match (sc ρ x).bind unV, partInts k ρ (n + 1) rest with
    | some (k', v), some vs => bif Nat.beq i n && eEq k' k then some (v :: vs) else none
    | _, _ => none

def pureEx (P : Program) (ρ : Nat → Option AV) (o : Oper) : Option Out :=
  bif o.op.operands.toList.all fun x => (sc ρ x).isSome then
    match pureRun P (execOp (fun x => (sc ρ x).getD undef) o) with
    | some (.value r) => some ⟨avOf r, [], []⟩
    | _ => none
  else none
def intElem (P : Program) (t : TypeId) : Option (TypeId × EK) :=
  match P.underlying t with
  | some (.slice e) => match P.underlying e, (P.info? e).bind (·.zero), szOf P e with
    | some (.int k), some (.int k' (.ofNat n)), some 1 => bif kEq k' k && Nat.beq n 0 then some (e, ofK k) else none
    | some .string, some (.string ⟨⟨[]⟩⟩), some 1 => some (e, .str)
    | _, _, _ => none
  | _ => none

/-- The cells of an array's zero, where they are numbers of one kind. -/
def unVs (k : EK) : List Value → Option (List Int)
  | [] => some []
  | x :: xs => match unV x, unVs k xs with
    | some (k', v), some vs => bif eEq k' k then some (v :: vs) else none
    | _, _ => none
def arrInts (P : Program) (t : TypeId) (z : Value) : Option (EK × List Int) :=
  match P.underlying t, z.cells.toList with
  | some (.array _ _), x :: xs => match unV x with
    | some (k, _) => (unVs k (x :: xs)).map fun vs => (k, vs)
    | none => none
  | _, _ => none

def opEx (P : Program) (S : FuncId → Option Ctr) (G : Nat → Bool) (ρ : Nat → Option AV) (B : Nat → Option Box) (o : Oper) : Option Out :=
  match o.op with
  | .move x | .assign x => (ev ρ x).map fun v => ⟨v, [], []⟩
  | .pick (.tmp c) x y =>
    match sc ρ (.tmp c) with
    | some (.bool b) => (ev ρ (bif G c then x else y)).map fun v => ⟨v, [], [b = G c]⟩
    | _ => none
  | .alloc t =>
    match (P.info? t).bind (·.zero), o.dst with
    | some z, some d => match arrInts P t z with
     | some (k, xs) => bif (B d).isNone then some ⟨.s (.one (.ptr d 0)), [(d, ⟨t, .ints k xs, true⟩)], []⟩ else none
     | none => let ls := z.cells.toList.map LV.v; bif ls.all oneC && (B d).isNone then some ⟨.s (.one (.ptr d 0)), [(d, ⟨t, .cells ls, true⟩)], []⟩ else none
    | _, _ => none
  | .box t x =>
    match ev ρ x, o.dst with
    | some (.s y), some d => bif (cellsOf y).all oneC && (B d).isNone then some ⟨.s (.one (.ptr d 0)), [(d, ⟨t, .cells (cellsOf y), true⟩)], []⟩ else none
    | _, _ => none
  | .load t x =>
    match ev ρ x with
    | some (.s (.one (.ptr id off))) =>
      match B id with
      | some ⟨_, .cells ls, _⟩ => (partOf P t ls off).map fun r => ⟨.s r, [], []⟩
      | some ⟨_, .ints k xs, _⟩ => match isAgg P t with
        | some false => some ⟨.s (.one (.v (mkV k (xs.getD off 0)))), [], [off < xs.length]⟩
        | _ => none
      | _ => none
    | some (.s (.one (.cp x))) => match isAgg P t with
      | some false => some ⟨.s (.one (.v x)), [], []⟩
      | _ => none
    | _ => none
  | .store t x y =>
    match ev ρ x, ev ρ y with
    | some (.s (.one (.ptr id off))), some (.s z) =>
      match B id, szOf P t with
      | some ⟨ty, .cells ls, true⟩, some n =>
        bif (cellsOf z).all oneC && Nat.beq (cellsOf z).length n && Nat.ble (off + n) ls.length then
          some ⟨.s (.one (.v undef)), [(id, ⟨ty, .cells (ls.take off ++ cellsOf z ++ ls.drop (off + n)), true⟩)], []⟩ else none
      | some ⟨ty, .ints k xs, true⟩, some 1 => match (match z with | .one (.v q) => unV q | _ => none) with
        | some (k', v) => bif eEq k' k then some ⟨.s (.one (.v undef)), [(id, ⟨ty, .ints k (xs.set off v), true⟩)], [off < xs.length]⟩ else none
        | _ => none
      | _, _ => none
    | _, _ => none
  | .fieldAddr s x f =>
    match ev ρ x, P.underlying s with
    | some (.s (.one (.ptr id off))), some (.struct fields) =>
      match fields[f]? with
      | some fd => match szOf P fd.type with
        | some (_ + 1) => some ⟨.s (.one (.ptr id (off + fd.offset))), [], []⟩
        | _ => none
      | none => none
    | _, _ => none
  | .field s x f =>
    match ev ρ x, P.underlying s with
    | some (.s (.agg ls)), some (.struct fields) =>
      match fields[f]? with
      | some fd => (partOf P fd.type ls fd.offset).map fun r => ⟨.s r, [], []⟩
      | none => none
    | some (.s (.abs zs)), some (.struct fields) =>
      match fields[f]? with
      | some fd => (partAbs P fd.type zs fd.offset).map fun r => ⟨.s r, [], []⟩
      | none => none
    | _, _ => none
  | .indexAddr t x i =>
    match ev ρ x, sc ρ i with
    | some (.s (.one (.row k xs))), some (.int _ n) =>
      match P.underlying t with
      | some (.slice e) => match szOf P e with
        | some 1 => some ⟨.s (.one (.cp (mkV k (xs.getD n.toNat 0)))), [], [0 ≤ n ∧ n < xs.length]⟩
        | _ => none
      | _ => none
    | some (.s (.one (.sl id off len _))), some (.int _ n) =>
      match P.underlying t with
      | some (.slice e) => match szOf P e with
        | some 1 => some ⟨.s (.one (.ptr id (off + n.toNat))), [], [0 ≤ n ∧ n < len]⟩
        | _ => none
      | _ => none
    | some (.s (.one (.ptr id off))), some (.int _ n) =>
      match P.underlying t with
      | some (.array len e) => match szOf P e with
        | some m => some ⟨.s (.one (.ptr id (off + n.toNat * m))), [], [0 ≤ n ∧ n < len]⟩
        | _ => none
      | _ => none
    | _, _ => none
  | .index t x i =>
    match ev ρ x, sc ρ i with
    | some (.s (.agg ls)), some (.int _ n) =>
      match P.underlying t with
      | some (.array len e) => match szOf P e with
        | some m => (partOf P e ls (n.toNat * m)).map fun r => ⟨.s r, [], [0 ≤ n ∧ n < len]⟩
        | _ => none
      | _ => none
    | some (.s (.one (.v (.string s)))), some (.int _ n) =>
      match P.underlying t with
      | some .string => some ⟨.s (.one (.v (.int .u8 (o_byte s n.toNat)))), [], [0 ≤ n ∧ n < s.size]⟩
      | _ => none
    | _, _ => none
  | .slice t x lo hi mx =>
    match ev ρ x with
    | some (.s (.one (.row k xs))) =>
      match P.underlying t, lo, hi with
      | some (.slice e), none, some h => match sc ρ h, mx.map (sc ρ), szOf P e with
        | some (.int _ n), none, some _ => some ⟨.s (.one (.row k (xs.take n.toNat))), [], [0 ≤ n ∧ n ≤ xs.length]⟩
        | some (.int _ n), some (some (.int _ m)), some _ => some ⟨.s (.one (.row k (xs.take n.toNat))), [], [0 ≤ n ∧ n ≤ m ∧ m ≤ xs.length]⟩
        | _, _, _ => none
      | _, _, _ => none
    | some (.s (.one (.sl id off _len cap))) =>
      match P.underlying t, lo, hi, mx with
      | some (.slice e), some l, some h, none => match sc ρ l, sc ρ h, szOf P e with
        | some (.int _ l), some (.int _ h), some 1 => some ⟨.s (.one (.sl id (off + l.toNat) (h.toNat - l.toNat) (cap - l.toNat))), [], [0 ≤ l ∧ l ≤ h ∧ h ≤ cap ∧ l < cap]⟩
        | _, _, _ => none
      | _, _, _, _ => none
    | some (.s (.one (.v (.string s)))) =>
      match P.underlying t, lo, hi, mx with
      | some .string, none, some h, none => match sc ρ h with
        | some (.int _ h) => some ⟨.s (.one (.v (.string (o_sub s 0 h.toNat)))), [], [0 ≤ h ∧ h ≤ s.size]⟩
        | _ => none
      | some .string, some l, none, none => match sc ρ l with
        | some (.int _ l) => some ⟨.s (.one (.v (.string (o_sub s l.toNat s.size)))), [], [0 ≤ l ∧ l ≤ s.size]⟩
        | _ => none
      | some .string, some l, some h, none => match sc ρ l, sc ρ h with
        | some (.int _ l), some (.int _ h) => some ⟨.s (.one (.v (.string (o_sub s l.toNat h.toNat)))), [], [0 ≤ l ∧ l ≤ h ∧ h ≤ s.size]⟩
        | _, _ => none
      | _, _, _, _ => none
    | some (.s (.one (.ptr id off))) =>
      match P.underlying t, lo, hi, mx with
      | some (.array n e), none, none, none => match szOf P e with
        | some 1 => some ⟨.s (.one (.sl id off n n)), [], []⟩
        | _ => none
      | _, _, _, _ => none
    | _ => pureEx P ρ o
  | .makeSlice t n c =>
    match intElem P t, sc ρ n, sc ρ c, o.dst with
    | some (e, k), some (.int .i64 n), some (.int .i64 c), some d =>
      match P.info? e with
      | some i => bif (B d).isNone && Nat.ble i.bytes 16 then some ⟨.s (.one (.sl d 0 n.toNat c.toNat)), [(d, ⟨e, .ints k (List.replicate c.toNat 0), true⟩)], [0 ≤ n ∧ n ≤ c ∧ c ≤ 1099511627776]⟩ else none
      | none => none
    | _, _, _, _ => none
  | .buildSlice t n parts =>
    match intElem P t, o.dst with
    | some (e, k), some d => match partInts k ρ 0 parts.toList with
      | some vs => bif (B d).isNone && Nat.beq vs.length n && Nat.ble n 1000 then some ⟨.s (.one (.sl d 0 n n)), [(d, ⟨e, .ints k vs, true⟩)], []⟩ else none
      | none => none
    | _, _ => none
  | .extract x i =>
    match ev ρ x with
    | some (.tup xs) => (xs[i]?).map fun r => ⟨.s r, [], []⟩
    | _ => none
  | .build t parts =>
    match (P.info? t).bind (·.zero), P.underlying t with
    | some z, some (.struct fields) =>
      bif fields.toList.all (fun fd => (szOf P fd.type).isSome) then (fillEx P fields ρ (z.cells.toList.map LV.v) parts.toList).map fun ls => ⟨.s (.agg ls), [], []⟩ else none
    | some z, some (.array _ e) => match szOf P e with
      | some n => (fillArr n ρ (z.cells.toList.map LV.v) parts.toList).map fun ls => ⟨.s (.agg ls), [], []⟩
      | none => none
    | _, _ => none
  | .call { callee := .value (.func f), args, .. } =>
    match S f, evs ρ args.toList with
    | some (.fn sp), some avs => match frzSs B avs with
      | some (avs', fz, qs) => (sp avs').map fun (r, ps) => ⟨r, bif plainA r then [] else fz, qs ++ ps⟩
      | none => none
    | some (.mu sm), some (.one (.sl id off len cap) :: avs) =>
      match B id, frzSs B avs with
      | some ⟨ty, .ints k xs, true⟩, some (avs', fz, qs) =>
        match sm k xs off len cap avs' with
        | some (r, xs', ps) => bif plainA r && fz.all (fun p => !(Nat.beq p.1 id)) then some ⟨r, [(id, ⟨ty, .ints k xs', true⟩)], qs ++ ps⟩ else none
        | none => none
      | _, _ => none
    | some (.mg sg), some [.one (.gsl id len)] =>
      match B id with
      | some ⟨ty, .gi k xs, true⟩ => (sg k xs).map fun (xs', ps) => ⟨.tup [], [(id, ⟨ty, .gi k xs', true⟩)], (len = xs.length) :: ps⟩
      | _ => none
    | some (.mg _), some [.one (.v (.slice none 0 0))] => some ⟨.tup [], [], []⟩
    | some (.nf sf), some avs => match frzSs B avs, o.dst with
      | some (avs', _, qs), some d => match sf avs' with
        | some (ty, k, xs, ps) => bif (B d).isNone then some ⟨.s (.one (.sl d 0 xs.length xs.length)), [(d, ⟨ty, .ints k xs, true⟩)], qs ++ ps⟩ else none
        | none => none
      | _, _ => none
    | _, _ => none
  | .call { callee := .builtin .len, args := args, argTypes } =>
    match args.toList, argTypes.toList with
    | [x], [t] => match ev ρ x, P.underlying t with
      | some (.s (.one (.row _ xs))), some (.slice _) => some ⟨.s (.one (.v (goInt xs.length))), [], []⟩
      | some (.s (.one (.gsl _ n))), some (.slice _) => some ⟨.s (.one (.v (goInt n))), [], []⟩
      | some (.s (.one (.sl _ _ n _))), some (.slice _) => some ⟨.s (.one (.v (goInt n))), [], []⟩
      | some (.s (.one (.v (.string s)))), some .string => some ⟨.s (.one (.v (goInt s.size))), [], []⟩
      | some (.s (.one (.v (.slice _ n _)))), some (.slice _) => some ⟨.s (.one (.v (goInt n))), [], []⟩
      | _, _ => none
    | _, _ => none
  | .call { callee := .builtin .copy, args := args, argTypes } =>
    match args.toList, argTypes.toList with
    | [x, y], [t, _] => match ev ρ x, ev ρ y, P.underlying t with
      | some (.s (.one (.sl id off len _))), some (.s (.one (.row k ys))), some (.slice e) => match B id, szOf P e with
        | some ⟨ty, .ints k' xs, true⟩, some 1 => bif eEq k k' then
            some ⟨.s (.one (.v (goInt ((min ys.length len : Nat) : Int)))), [(id, ⟨ty, .ints k' (xs.take off ++ (ys.take len ++ xs.drop (off + min ys.length len))), true⟩)], [off + len ≤ xs.length]⟩ else none
        | _, _ => none
      | _, _, _ => none
    | _, _ => none
  | .convert t t' x =>
    match ev ρ x with
    | some (.s (.one (.sl id off len _))) => match B id, P.underlying t, P.underlying t' with
      | some ⟨_, .ints .u8 xs, _⟩, some (.slice e), some .string => match P.underlying e with
        | some (.int .u8) => some ⟨.s (.one (.v (.string (o_bytes ((xs.drop off).take len))))), [], [off + len ≤ xs.length]⟩
        | _ => none
      | _, _, _ => none
    | _ => pureEx P ρ o
  | .binOp .add _ x y _ =>
    match sc ρ x, sc ρ y with
    | some (.string a), some (.string b) => some ⟨.s (.one (.v (.string (o_cat a b)))), [], [a.size + b.size ≤ 9223372036854775807]⟩
    | _, _ => pureEx P ρ o
  | .binOp .neq _ x y _ =>
    match sc ρ x, sc ρ y with
    | some (.string a), some (.string b) => some ⟨.s (.one (.v (.bool (!(o_seq a b))))), [], []⟩
    | _, _ => pureEx P ρ o
  | .binOp .shl _ x y _ =>
    match sc ρ x, sc ρ y with
    | some (.int k a), some (.int _ b) => some ⟨.s (.one (.v (.int k (k.wrap (a * 2 ^ min b.toNat k.bits))))), [], [0 ≤ b]⟩
    | _, _ => none
  | .binOp .shr _ x y _ =>
    match sc ρ x, sc ρ y with
    | some (.int k a), some (.int _ b) => some ⟨.s (.one (.v (.int k (a.fdiv (2 ^ min b.toNat k.bits))))), [], [0 ≤ b]⟩
    | _, _ => none
  | .binOp .quo _ x y _ =>
    match sc ρ x, sc ρ y with
    | some (.int k a), some (.int k' b) => bif kEq k k' then some ⟨.s (.one (.v (.int k (k.wrap (a.tdiv b))))), [], [b ≠ 0]⟩ else none
    | _, _ => none
  | .binOp .rem _ x y _ =>
    match sc ρ x, sc ρ y with
    | some (.int k a), some (.int k' b) => bif kEq k k' then some ⟨.s (.one (.v (.int k (a.tmod b)))), [], [b ≠ 0]⟩ else none
    | _, _ => none
  | .binOp .eql t x (.const (.slice none 0 0)) _ =>
    match ev ρ x, P.underlying t with
    | some (.s (.one (.row _ xs))), some (.slice _) => some ⟨.s (.one (.v (.bool false))), [], [0 < xs.length]⟩
    | _, _ => pureEx P ρ o
  | .binOp .eql _ x y _ =>
    match sc ρ x, sc ρ y with
    | some (.string a), some (.string b) => some ⟨.s (.one (.v (.bool (o_seq a b)))), [], []⟩
    | _, _ => pureEx P ρ o
  | .select .. => none
  | _ => pureEx P ρ o

def isApp (o : Oper) : Bool := match o.op with
  | .call { callee := .builtin .append, .. } => true
  | _ => false
/-- append to a slice of one's own: what it held, its box, what is owed. -/
def appBase (B : Nat → Option Box) (e : TypeId) (k : EK) : LV → Option (List Int × Nat × List Prop)
  | .sl id 0 len cap => match B id with
    | some ⟨ty, .ints k' xs, true⟩ => bif eEq k' k && Nat.beq ty e then some (xs, id, [len = xs.length ∧ cap = xs.length]) else none
    | _ => none
  | .gsl id len => match B id with
    | some ⟨ty, .gi k' xs, true⟩ => bif eEq k' k && Nat.beq ty e then some (xs, id, [len = xs.length]) else none
    | _ => none
  | _ => none
def appNews (B : Nat → Option Box) (k : EK) (l : LV) : Option (List Int × List Prop) := match frzL B l with
  | some (.row k' ys, _, qs) => bif eEq k' k then some (ys, qs) else none
  | some (.v (.slice _ 0 _), _, _) => some ([], [])
  | _ => none

/-- The boxes that an operation asks about, reads or writes. -/
def isNewOp : Op → Bool
  | .alloc _ | .box .. | .makeSlice .. | .buildSlice .. => true
  | .call { callee := .value _, .. } => true
  | _ => false
def fpR (ρ : Nat → Option AV) (o : Oper) : List Nat :=
  match o.op with
  | .alloc _ | .box .. | .makeSlice .. | .buildSlice .. => o.dst.toList
  | .load _ x | .store _ x _ => match ev ρ x with
    | some (.s (.one (.ptr id _))) => [id]
    | _ => []
  | .call { args, .. } => o.dst.toList ++ args.toList.flatMap fun x => match ev ρ x with
    | some (.s (.one (.sl id ..))) => [id]
    | some (.s (.one (.gsl id _))) => [id]
    | some (.s (.agg ls)) => ls.filterMap fun | .sl id .. => some id | .gsl id _ => some id | _ => none
    | _ => []
  | .convert _ _ x => match ev ρ x with
    | some (.s (.one (.sl id ..))) => [id]
    | _ => []
  | _ => []

end
end Go.Proofs.YtkfdnpbpebmhaaaGreatDoor.Sx
namespace Go.Proofs.YtkfdnpbpebmhaaaGreatDoor.Sx
open Go Go.RowKit
section
variable {P : Program} {S : FuncId → Option Ctr} {G : Nat → Bool} {M0 X : Nat → Prop} {base nt : Nat} {β : Nat → Nat} {st : St} {a : Act} {w : World} {o : Oper} {K : Act → World → Prop} {Q : Exit → Act → World → Prop}

theorem wp_value {u : Value} {w' : World} (h : (execOp a.eval o).run P w = .ok (.value u) w') (hK : K (a.put o.dst u) w') : o.wp P a w K Q := by
  unfold Oper.wp; rw [h]; exact hK
theorem wp_skip' {w' : World} (h : (execOp a.eval o).run P w = .ok .skip w') (hK : K (a.put o.dst undef) w') : o.wp P a w K Q := by
  unfold Oper.wp; rw [h]; exact hK
theorem wp_enter {f : FuncId} {args : Array Value} {w' : World} (h : (execOp a.eval o).run P w = .ok (.enter f args) w')
    (hc : Calls P f args w' fun e w'' => ∃ u, e = .returned u ∧ K (a.put o.dst u) w'') : o.wp P a w K Q := by
  unfold Oper.wp; rw [h]
  refine Calls.mono hc ?_
  rintro e w'' ⟨u, rfl, hK⟩
  exact hK

theorem addr_add (g off j : Nat) : (⟨g, off, none⟩ : Addr).add j = ⟨g, off + j, none⟩ := by
  unfold Addr.add; split <;> simp_all

theorem okB_mono_L {n m : Nat → Bool} (h : ∀ i, n i = true → m i = true) {l : LV} (hl : l.okB n = true) : l.okB m = true := by
  cases l <;> simp_all [LV.okB]
theorem okB_mono_Ls {n m : Nat → Bool} (h : ∀ i, n i = true → m i = true) {ls : List LV} (hl : okLs n ls = true) : okLs m ls = true := by
  simp only [okLs, List.all_eq_true] at hl ⊢
  exact fun l hm => okB_mono_L h (hl l hm)
theorem okB_mono_S {n m : Nat → Bool} (h : ∀ i, n i = true → m i = true) {l : SV} (hl : l.okB n = true) : l.okB m = true := by
  cases l with
  | one l => exact okB_mono_L h hl
  | agg ls => exact okB_mono_Ls h hl
  | abs zs => rfl
theorem okB_mono_A {n m : Nat → Bool} (h : ∀ i, n i = true → m i = true) {l : AV} (hl : l.okB n = true) : l.okB m = true := by
  cases l with
  | s l => exact okB_mono_S h hl
  | tup ls =>
    simp only [AV.okB, List.all_eq_true] at hl ⊢
    exact fun l hm => okB_mono_S h (hl l hm)
theorem okB_mono_B {n m : Nat → Bool} (h : ∀ i, n i = true → m i = true) {l : BC} (hl : l.okB n = true) : l.okB m = true := by
  cases l with
  | cells ls => exact okB_mono_Ls h hl
  | ints k xs => rfl
  | gi k xs => rfl

theorem liv_iff {bs : List (Nat × Box)} {i : Nat} : liv bs i = true ↔ ∃ b, lk bs i = some b := by
  unfold liv; rw [Option.isSome_iff_exists]

theorem Gm.lt (h : Gm M0 base X nt β st a w) {i : Nat} (hi : liv st.boxes i = true) : β i < w.heap.size := by
  obtain ⟨b, hb⟩ := liv_iff.1 hi
  obtain ⟨_, arr, ha, _⟩ := h.boxes i b hb
  exact (Array.getElem?_eq_some_iff.1 ha).1
theorem Gm.Mlt (h : Gm M0 base X nt β st a w) : ∀ b, Mof M0 β st.boxes b → b < w.heap.size := by
  rintro b (h1 | ⟨i, x, hi, _, rfl⟩)
  · exact Nat.lt_of_lt_of_le (h.M0lt b h1) h.base_le
  · exact h.lt (liv_iff.2 ⟨x, hi⟩)

/-- The state moves on. -/
theorem Gm.upd (h : Gm M0 base X nt β st a w) {bs' : List (Nat × Box)} {β' : Nat → Nat} {w' : World} (hm : Moves (Mof M0 β st.boxes) (Mof M0 β' bs') w w') (hl : ∀ i, liv st.boxes i = true → liv bs' i = true) (hβ : ∀ i, liv st.boxes i = true → β' i = β i)
    (hb : ∀ i b, lk bs' i = some b → (lk st.boxes i = some b ∧ w'.heap[β i]? = w.heap[β i]?) ∨ (b.bc.okB (liv bs') = true ∧ ∃ arr, w'.heap[β' i]? = some (.cells arr b.ty (0, 0)) ∧ gBC (Mof M0 β' bs') β' w' b.bc arr.toList))
    (hi : ∀ i j, liv bs' i = true → liv bs' j = true → β' i = β' j → i = j) (hg : ∀ i, liv bs' i = true → base ≤ β' i ∨ X (β' i)) : Gm M0 base X nt β' ⟨st.tmps, bs'⟩ a w' := by
  refine ⟨h.def_, h.size, fun t x hx => ?_, fun i b hib => ?_, hi, hg, h.M0lt, h.M0X, fun g hx => ⟨hl 0 (h.pin g hx).1, (hβ 0 (h.pin g hx).1).trans (h.pin g hx).2⟩, Nat.le_trans h.base_le hm.size⟩
  · obtain ⟨h1, h2, h3⟩ := h.tmps t x hx
    exact ⟨h1, okB_mono_A hl h2, h3.moves hm h2 hβ⟩
  · rcases hb i b hib with ⟨e1, e2⟩ | e
    · obtain ⟨h1, arr, h2, h3⟩ := h.boxes i b e1
      refine ⟨okB_mono_B hl h1, arr, ?_, h3.moves hm hβ h1⟩
      rw [hβ i (liv_iff.2 ⟨b, e1⟩), e2]; exact h2
    · exact e
/-- The boxes as they are, in a world that moved on. -/
theorem Gm.below (h : Gm M0 base X nt β st a w) {w' : World} (hb : Below w.heap.size w w') : Gm M0 base X nt β st a w' :=
  h.upd (Moves.of_below h.Mlt hb) (fun _ h => h) (fun _ _ => rfl) (fun _i b hi => .inl ⟨hi, hb.block _ (h.lt (liv_iff.2 ⟨b, hi⟩))⟩) h.inj h.ge
/-- Less is known. -/
theorem Gm.weaken {st' : St} (h : Gm M0 base X nt β st a w) (h1 : ∀ t x, lk st'.tmps t = some x → lk st.tmps t = some x ∧ x.okB (liv st'.boxes) = true) (h2 : ∀ i b, lk st'.boxes i = some b → lk st.boxes i = some b ∧ b.bc.okB (liv st'.boxes) = true) (h3 : liv st.boxes 0 = true → liv st'.boxes 0 = true) : Gm M0 base X nt β st' a w := by
  have hm : Moves (Mof M0 β st.boxes) (Mof M0 β st'.boxes) w w := ⟨Nat.le_refl _, fun b _ hb => ⟨rfl, by
    rintro (h3 | ⟨i, x, hi, hx, rfl⟩)
    · exact hb (.inl h3)
    · exact hb (.inr ⟨i, x, (h2 i x hi).1, hx, rfl⟩)⟩, fun _ cur _ h => ⟨cur, h, rfl⟩⟩
  have hl : ∀ i, liv st'.boxes i = true → liv st.boxes i = true := fun i hi => by
    obtain ⟨b, hb⟩ := liv_iff.1 hi
    exact liv_iff.2 ⟨b, (h2 i b hb).1⟩
  refine ⟨h.def_, h.size, fun t x hx => ?_, fun i b hi => ?_, fun i j hi hj => h.inj i j (hl i hi) (hl j hj), fun i hi => h.ge i (hl i hi), h.M0lt, h.M0X, fun g hx => ⟨h3 (h.pin g hx).1, (h.pin g hx).2⟩, h.base_le⟩
  · obtain ⟨e1, e2⟩ := h1 t x hx
    obtain ⟨e3, e4, e5⟩ := h.tmps t x e1
    exact ⟨e3, e2, e5.moves hm e4 (fun _ _ => rfl)⟩
  · obtain ⟨e1, e2⟩ := h2 i b hi
    obtain ⟨e3, arr, e4, e5⟩ := h.boxes i b e1
    exact ⟨e2, arr, e4, e5.moves hm (fun _ _ => rfl) e3⟩

/-- A new block becomes a box. -/
theorem Gm.alloc (h : Gm M0 base X nt β st a w) {d : Nat} (hd : lk st.boxes d = none) (t : TypeId) (bc : BC) (arr : Array Value) (hok : bc.okB (liv st.boxes) = true) (hg : gBC (Mof M0 β st.boxes) β w bc arr.toList) :
    ∃ β', β' d = w.heap.size ∧ Gm M0 base X nt β' ⟨st.tmps, (d, ⟨t, bc, true⟩) :: st.boxes⟩ a (w.alloc (.cells arr t (0, 0))) := by
  obtain ⟨β', hβ0⟩ : ∃ β' : Nat → Nat, ∀ i, β' i = if i = d then w.heap.size else β i := ⟨_, fun _ => rfl⟩
  have hne : ∀ i, liv st.boxes i = true → i ≠ d := fun i hi e => by subst e; obtain ⟨b, hb⟩ := liv_iff.1 hi; rw [hd] at hb; cases hb
  have hβ : ∀ i, liv st.boxes i = true → β' i = β i := fun i hi => by rw [hβ0, if_neg (hne i hi)]
  have hβn : β' d = w.heap.size := by rw [hβ0, if_pos rfl]
  have hl : ∀ i, liv st.boxes i = true → liv ((d, ⟨t, bc, true⟩) :: st.boxes : List (Nat × Box)) i = true := fun i hi => by
    obtain ⟨b, hb⟩ := liv_iff.1 hi
    exact liv_iff.2 ⟨b, by rw [lk_cons, if_neg (Ne.symm (hne i hi))]; exact hb⟩
  have hr : ∀ i, liv ((d, ⟨t, bc, true⟩) :: st.boxes : List (Nat × Box)) i = true → i = d ∨ liv st.boxes i = true := fun i hi => by
    obtain ⟨b, hb⟩ := liv_iff.1 hi
    rw [lk_cons] at hb
    split at hb
    · rename_i e; exact .inl e.symm
    · exact .inr (liv_iff.2 ⟨b, hb⟩)
  have hm : Moves (Mof M0 β st.boxes) (Mof M0 β' ((d, ⟨t, bc, true⟩) :: st.boxes)) w (w.alloc (.cells arr t (0, 0))) := by
    refine ⟨by simp, fun b hb hm => ⟨Below.heap_alloc _ _ _ hb, ?_⟩, fun b cur ty hb => ⟨cur, (Below.heap_alloc _ _ _ (Array.getElem?_eq_some_iff.1 hb).1).trans hb, rfl⟩⟩
    rintro (h1 | ⟨i, x, hi, hx, rfl⟩)
    · exact hm (.inl h1)
    · rw [lk_cons] at hi
      split at hi
      · rename_i e; subst e; omega
      · exact hm (.inr ⟨i, x, hi, hx, hβ i (liv_iff.2 ⟨x, hi⟩)⟩)
  refine ⟨β', hβn, h.upd hm hl hβ (fun i b hi => ?_) (fun i j hi hj he => ?_) (fun i hi => ?_)⟩
  · rw [lk_cons] at hi
    split at hi
    · rename_i e
      subst e
      simp only [Option.some.injEq] at hi
      subst hi
      refine .inr ⟨okB_mono_B hl hok, arr, ?_, hg.moves hm hβ hok⟩
      rw [hβn]
      show (w.heap.push (.cells arr t (0, 0)))[w.heap.size]? = _
      simp
    · exact .inl ⟨hi, Below.heap_alloc _ _ _ (h.lt (liv_iff.2 ⟨b, hi⟩))⟩
  · rcases hr i hi with e1 | e1 <;> rcases hr j hj with e2 | e2
    · rw [e1, e2]
    · subst e1; rw [hβn, hβ j e2] at he; have := h.lt e2; omega
    · subst e2; rw [hβn, hβ i e1] at he; have := h.lt e1; omega
    · rw [hβ i e1, hβ j e2] at he; exact h.inj i j e1 e2 he
  · rcases hr i hi with e1 | e1
    · subst e1; rw [hβn]; exact .inl h.base_le
    · rw [hβ i e1]; exact h.ge i e1

theorem Gm.allocAt (h : Gm M0 base X nt β st a w) {d g : Nat} {w' : World} (hd : lk st.boxes d = none) (t : TypeId) (bc : BC) (arr : Array Value) (hbel : Below w.heap.size w w') (hgs : w.heap.size ≤ g) (hhp : w'.heap[g]? = some (.cells arr t (0, 0))) (hok : bc.okB (liv st.boxes) = true) (hg : gBC (Mof M0 β st.boxes) β w bc arr.toList) :
    ∃ β', β' d = g ∧ Gm M0 base X nt β' ⟨st.tmps, (d, ⟨t, bc, true⟩) :: st.boxes⟩ a w' := by
  obtain ⟨β', hβ0⟩ : ∃ β' : Nat → Nat, ∀ i, β' i = if i = d then g else β i := ⟨_, fun _ => rfl⟩
  have hne : ∀ i, liv st.boxes i = true → i ≠ d := fun i hi e => by subst e; obtain ⟨b, hb⟩ := liv_iff.1 hi; rw [hd] at hb; cases hb
  have hβ : ∀ i, liv st.boxes i = true → β' i = β i := fun i hi => by rw [hβ0, if_neg (hne i hi)]
  have hβn : β' d = g := by rw [hβ0, if_pos rfl]
  have hl : ∀ i, liv st.boxes i = true → liv ((d, ⟨t, bc, true⟩) :: st.boxes : List (Nat × Box)) i = true := fun i hi => by
    obtain ⟨b, hb⟩ := liv_iff.1 hi
    exact liv_iff.2 ⟨b, by rw [lk_cons, if_neg (Ne.symm (hne i hi))]; exact hb⟩
  have hr : ∀ i, liv ((d, ⟨t, bc, true⟩) :: st.boxes : List (Nat × Box)) i = true → i = d ∨ liv st.boxes i = true := fun i hi => by
    obtain ⟨b, hb⟩ := liv_iff.1 hi
    rw [lk_cons] at hb
    split at hb
    · rename_i e; exact .inl e.symm
    · exact .inr (liv_iff.2 ⟨b, hb⟩)
  have hm : Moves (Mof M0 β st.boxes) (Mof M0 β' ((d, ⟨t, bc, true⟩) :: st.boxes)) w w' := by
    refine ⟨hbel.size, fun b hb hm => ⟨hbel.block b hb, ?_⟩, fun b cur ty hb => ⟨cur, (hbel.block b (Array.getElem?_eq_some_iff.1 hb).1).trans hb, rfl⟩⟩
    rintro (h1 | ⟨i, x, hi, hx, rfl⟩)
    · exact hm (.inl h1)
    · rw [lk_cons] at hi
      split at hi
      · rename_i e; subst e; rw [hβn] at hb; omega
      · exact hm (.inr ⟨i, x, hi, hx, hβ i (liv_iff.2 ⟨x, hi⟩)⟩)
  refine ⟨β', hβn, h.upd hm hl hβ (fun i b hi => ?_) (fun i j hi hj he => ?_) (fun i hi => ?_)⟩
  · rw [lk_cons] at hi
    split at hi
    · rename_i e
      subst e
      simp only [Option.some.injEq] at hi
      subst hi
      refine .inr ⟨okB_mono_B hl hok, arr, ?_, hg.moves hm hβ hok⟩
      rw [hβn]
      exact hhp
    · exact .inl ⟨hi, hbel.block _ (h.lt (liv_iff.2 ⟨b, hi⟩))⟩
  · rcases hr i hi with e1 | e1 <;> rcases hr j hj with e2 | e2
    · rw [e1, e2]
    · subst e1; rw [hβn, hβ j e2] at he; have := h.lt e2; omega
    · subst e2; rw [hβn, hβ i e1] at he; have := h.lt e1; omega
    · rw [hβ i e1, hβ j e2] at he; exact h.inj i j e1 e2 he
  · rcases hr i hi with e1 | e1
    · subst e1; rw [hβn]; exact .inl (Nat.le_trans h.base_le hgs)
    · rw [hβ i e1]; exact h.ge i e1

/-- A box's block is written. -/
theorem Gm.wrote (h : Gm M0 base X nt β st a w) {id : Nat} {b : Box} (hb : lk st.boxes id = some b) (hmu : b.mut_ = true) {w' : World} (hsz : w.heap.size ≤ w'.heap.size) (hoth : ∀ k, k < w.heap.size → k ≠ β id → w'.heap[k]? = w.heap[k]?)
    {bc : BC} {arr : Array Value} (hok : bc.okB (liv st.boxes) = true) (harr : w'.heap[β id]? = some (.cells arr b.ty (0, 0))) (hal : ∀ arr0, w.heap[β id]? = some (.cells arr0 b.ty (0, 0)) → arr.size = arr0.size) (hg : ∀ M', Moves (Mof M0 β st.boxes) M' w w' → gBC M' β w' bc arr.toList) :
    Gm M0 base X nt β ⟨st.tmps, (id, ⟨b.ty, bc, true⟩) :: st.boxes⟩ a w' := by
  have hid : liv st.boxes id = true := liv_iff.2 ⟨b, hb⟩
  have hlv : ∀ i, liv ((id, ⟨b.ty, bc, true⟩) :: st.boxes : List (Nat × Box)) i = liv st.boxes i := fun i => by
    unfold liv
    rw [lk_cons]
    split
    · rename_i e; subst e; rw [hb]; rfl
    · rfl
  have hlf : liv ((id, ⟨b.ty, bc, true⟩) :: st.boxes : List (Nat × Box)) = liv st.boxes := funext hlv
  have hm : Moves (Mof M0 β st.boxes) (Mof M0 β ((id, ⟨b.ty, bc, true⟩) :: st.boxes)) w w' := by
    refine ⟨hsz, fun k hk hnk => ⟨hoth k hk fun e => hnk (.inr ⟨id, b, hb, hmu, e⟩), ?_⟩, fun q cur ty hq => ?_⟩
    rintro (h1 | ⟨i, x, hi, hx, rfl⟩)
    · exact hnk (.inl h1)
    · rw [lk_cons] at hi
      split at hi
      · rename_i e; subst e; exact hnk (.inr ⟨_, b, hb, hmu, rfl⟩)
      · exact hnk (.inr ⟨i, x, hi, hx, rfl⟩)
    · by_cases e : q = β id
      · subst e
        obtain ⟨_, arr0, h0, _⟩ := h.boxes id b hb
        rw [h0] at hq
        simp only [Option.some.injEq, Obj.cells.injEq] at hq
        obtain ⟨rfl, rfl, -⟩ := hq
        exact ⟨arr, harr, hal _ h0⟩
      · exact ⟨cur, (hoth q (Array.getElem?_eq_some_iff.1 hq).1 e).trans hq, rfl⟩
  refine h.upd hm (fun i hi => by rw [hlv]; exact hi) (fun _ _ => rfl) (fun i b' hi => ?_) (fun i j hi hj => ?_) (fun i hi => ?_)
  · by_cases e : id = i
    · subst e
      rw [lk_cons, if_pos rfl, Option.some.injEq] at hi
      subst hi
      exact .inr ⟨by rw [hlf]; exact hok, arr, harr, hg _ hm⟩
    · rw [lk_cons, if_neg e] at hi
      refine .inl ⟨hi, hoth _ (h.lt (liv_iff.2 ⟨b', hi⟩)) fun e' => e (h.inj i id (liv_iff.2 ⟨b', hi⟩) hid e').symm⟩
  · rw [hlv] at hi hj; exact h.inj i j hi hj
  · rw [hlv] at hi; exact h.ge i hi

theorem frz_moves {M0 : Nat → Prop} {w : World} {bs fz : List (Nat × Box)} (hf : ∀ i b, lk fz i = some b → b.mut_ = false ∧ ∃ b', lk bs i = some b' ∧ b'.ty = b.ty ∧ b'.bc = b.bc) : Moves (Mof M0 β bs) (Mof M0 β (fz ++ bs)) w w :=
  ⟨Nat.le_refl _, fun k _ hnk => ⟨rfl, by
    rintro (h1 | ⟨i, x, hi, hx, rfl⟩)
    · exact hnk (.inl h1)
    · rw [lk_append] at hi
      cases hz : lk fz i with
      | none => rw [hz, Option.none_or] at hi; exact hnk (.inr ⟨i, x, hi, hx, rfl⟩)
      | some b1 =>
        rw [hz, Option.some_or, Option.some.injEq] at hi
        subst hi
        rw [(hf i b1 hz).1] at hx
        cases hx⟩, fun _ cur _ h => ⟨cur, h, rfl⟩⟩
/-- Boxes are written no more. -/
theorem Gm.freeze (h : Gm M0 base X nt β st a w) {fz : List (Nat × Box)} (hf : ∀ i b, lk fz i = some b → b.mut_ = false ∧ ∃ b', lk st.boxes i = some b' ∧ b'.ty = b.ty ∧ b'.bc = b.bc) : Gm M0 base X nt β ⟨st.tmps, fz ++ st.boxes⟩ a w := by
  have hk : ∀ i b, lk (fz ++ st.boxes) i = some b → ∃ b', lk st.boxes i = some b' ∧ b'.ty = b.ty ∧ b'.bc = b.bc ∧ (b.mut_ = true → b'.mut_ = true) := by
    intro i b hb
    rw [lk_append] at hb
    cases hz : lk fz i with
    | none => rw [hz, Option.none_or] at hb; exact ⟨b, hb, rfl, rfl, id⟩
    | some b1 =>
      rw [hz, Option.some_or, Option.some.injEq] at hb
      subst hb
      obtain ⟨e1, b', e2, e3, e4⟩ := hf i b1 hz
      exact ⟨b', e2, e3, e4, fun e => by rw [e1] at e; cases e⟩
  have hlv : ∀ i, liv (fz ++ st.boxes) i = liv st.boxes i := fun i => by
    rw [Bool.eq_iff_iff, liv_iff, liv_iff]
    constructor
    · rintro ⟨b, hb⟩; obtain ⟨b', e, _⟩ := hk i b hb; exact ⟨b', e⟩
    · rintro ⟨b, hb⟩
      rw [lk_append]
      cases hz : lk fz i with
      | none => exact ⟨b, by rw [Option.none_or]; exact hb⟩
      | some b1 => exact ⟨b1, rfl⟩
  have hlf : liv (fz ++ st.boxes) = liv st.boxes := funext hlv
  have hm : Moves (Mof M0 β st.boxes) (Mof M0 β (fz ++ st.boxes)) w w := ⟨Nat.le_refl _, fun k _ hnk => ⟨rfl, by
    rintro (h1 | ⟨i, x, hi, hx, rfl⟩)
    · exact hnk (.inl h1)
    · obtain ⟨b', e1, _, _, e2⟩ := hk i x hi
      exact hnk (.inr ⟨i, b', e1, e2 hx, rfl⟩)⟩, fun _ cur _ h => ⟨cur, h, rfl⟩⟩
  refine h.upd hm (fun i hi => by rw [hlv]; exact hi) (fun _ _ => rfl) (fun i b hi => ?_) (fun i j hi hj => ?_) (fun i hi => ?_)
  · obtain ⟨b', e1, e2, e3, _⟩ := hk i b hi
    obtain ⟨h1, arr, h2, h3⟩ := h.boxes i b' e1
    refine .inr ⟨by rw [hlf, ← e3]; exact h1, arr, by rw [← e2]; exact h2, ?_⟩
    rw [← e3]
    exact h3.moves hm (fun _ _ => rfl) h1
  · rw [hlv] at hi hj; exact h.inj i j hi hj
  · rw [hlv] at hi; exact h.ge i hi

/-- A store into a part of a block. -/
theorem storeCells_run (g : Nat) (ty : TypeId) : ∀ (vs : List Value) (off i : Nat) (w : World) (arr : Array Value), w.heap[g]? = some (.cells arr ty (0, 0)) → (∀ v ∈ vs, v.oneCell' = true) → off + i + vs.length ≤ arr.size →
    ∃ w', (storeCells ⟨g, off, none⟩ vs i).run P w = .ok () w' ∧ Below g w w' ∧ (∀ b, b ≠ g → w'.heap[b]? = w.heap[b]?) ∧ w'.heap.size = w.heap.size ∧
      ∃ arr' : Array Value, w'.heap[g]? = some (.cells arr' ty (0, 0)) ∧ arr'.toList = arr.toList.take (off + i) ++ vs ++ arr.toList.drop (off + i + vs.length)
  | [], off, i, w, arr, hg, _, _ => ⟨w, rfl, Below.refl _ _, fun _ _ => rfl, rfl, arr, hg, by simp⟩
  | v :: vs, off, i, w, arr, hg, h1, hl => by
    simp only [List.length_cons] at hl
    have hgl : g < w.heap.size := (Array.getElem?_eq_some_iff.1 hg).1
    have hc : w.cell? ⟨g, off + i, none⟩ = some (arr.getD (off + i) undef) := by
      rw [cell_of_row w g (off + i) arr ty _ hg, Array.getElem?_eq_getElem (by omega)]
      simp [Array.getD, show off + i < arr.size by omega]
    have hf : w.frozen? ⟨g, off + i, none⟩ = false := by simp [World.frozen?, hg]
    have hheap : (w.setCell ⟨g, off + i, none⟩ v).heap[g]? = some (.cells (arr.setIfInBounds (off + i) v) ty (0, 0)) := by
      simp only [World.setCell, Array.getElem?_modify]
      rw [if_pos trivial, hg]; simp
    obtain ⟨w', hr, hb, ho, hs, arr', ha, hal⟩ := storeCells_run g ty vs off (i + 1) (w.setCell ⟨g, off + i, none⟩ v) _ hheap (fun x hx => h1 x (List.mem_cons_of_mem _ hx)) (by simp; omega)
    refine ⟨w', ?_, ?_, fun b hb' => (ho b hb').trans (Below.heap_setCell _ _ _ _ hb'), by rw [hs]; simp [World.setCell], arr', ha, ?_⟩
    · unfold storeCells
      rw [addr_add, Sem.run_bind, run_store P w _ _ _ (h1 v (List.mem_cons_self ..)), hc]
      simp only [hf, Bool.false_eq_true, if_false, Result.andThen_ok]
      exact hr
    · have hb0 : Below g w (w.setCell ⟨g, off + i, none⟩ v) := ⟨rfl, rfl, rfl, by simp [World.setCell], fun k hk => Below.heap_setCell _ _ _ _ (by show k ≠ g; omega)⟩
      exact hb0.trans hb
    · rw [hal]
      have hli : off + i < arr.toList.length := by simp; omega
      rw [Array.toList_setIfInBounds]
      apply List.ext_getElem?
      intro j
      simp only [List.append_assoc, List.getElem?_append, List.length_take, List.length_set, List.getElem?_take, List.getElem?_set, List.getElem?_drop, List.length_cons, List.getElem?_cons]
      have e1 : min (off + (i + 1)) arr.toList.length = off + i + 1 := by omega
      have e2 : min (off + i) arr.toList.length = off + i := by omega
      simp only [e1, e2]
      by_cases c1 : j < off + i
      · simp [c1, show j < off + i + 1 by omega, show ¬ off + i = j by omega, show j < off + (i + 1) by omega]
      · by_cases c2 : j = off + i
        · subst c2; simp [show off + i < off + (i + 1) by omega]; omega
        · simp only [c1, if_false, show ¬ j < off + i + 1 by omega]
          have e3 : j - (off + i) ≠ 0 := by omega
          obtain ⟨k, hk⟩ : ∃ k, j - (off + i) = k + 1 := ⟨j - (off + i) - 1, by omega⟩
          have e4 : j - (off + i + 1) = k := by omega
          rw [hk, e4]
          simp only [Nat.add_lt_add_iff_right, Nat.add_sub_cancel, Nat.succ_ne_zero, if_false]
          by_cases c3 : k < vs.length
          · simp [c3]
          · simp only [c3, if_false]
            rw [if_neg (by omega)]
            congr 1
            omega

end
end Go.Proofs.YtkfdnpbpebmhaaaGreatDoor.Sx
namespace Go.Proofs.YtkfdnpbpebmhaaaGreatDoor.Sx
open Go Go.RowKit
section
variable {P : Program} {S : FuncId → Option Ctr} {G : Nat → Bool} {M0 X : Nat → Prop} {base nt : Nat} {β : Nat → Nat} {st : St} {a : Act} {w : World} {ρ : Nat → Option AV} {B : Nat → Option Box} {o : Oper} {K : Act → World → Prop} {Q : Exit → Act → World → Prop}

/-- What an operation's answer is worth. -/
def Goes (M0 : Nat → Prop) (base : Nat) (X : Nat → Prop) (nt : Nat) (st : St) (a : Act) (w : World) (o : Oper) (out : Out) (K : Act → World → Prop) : Prop :=
  ∀ u w' β', Bel base X w w' → out.r.okB (liv (out.wr ++ st.boxes)) = true → gA (Mof M0 β' (out.wr ++ st.boxes)) β' w' out.r u → Gm M0 base X nt β' ⟨st.tmps, out.wr ++ st.boxes⟩ a w' → K (a.put o.dst u) w'

theorem Goes.same (h : Gm M0 base X nt β st a w) {r : AV} {ps : List Prop} {u : Value} (hr : r.okB (liv st.boxes) = true) (hg : gA (Mof M0 β st.boxes) β w r u) (hK : Goes M0 base X nt st a w o ⟨r, [], ps⟩ K) : K (a.put o.dst u) w :=
  hK u w β (Bel.refl _ _ _) hr hg h

theorem isAgg_run {t : TypeId} {b : Bool} (h : isAgg P t = some b) (w : World) : (Go.isAgg t).run P w = .ok b w := by
  unfold Sx.isAgg at h
  cases hu : P.underlying t with
  | none => simp [hu] at h
  | some d =>
    simp only [hu, Option.map_some, Option.some.injEq] at h
    unfold Go.isAgg
    rw [Sem.run_bind, run_underlying hu w]
    cases d <;> simp_all
theorem szOf_run {t : TypeId} {n : Nat} (h : szOf P t = some n) (w : World) : (Go.sizeOf t).run P w = .ok n w := by
  unfold szOf at h
  cases hi : P.info? t with
  | none => simp [hi] at h
  | some i =>
    simp only [hi, Option.map_some, Option.some.injEq] at h
    simp [Go.sizeOf, typeInfo, hi, h]

theorem gLs.arr_get {M : Nat → Prop} {ls : List LV} {arr : Array Value} (h : gLs M β w ls arr.toList) : arr.size = ls.length := by
  have := h.length; simpa using this

/-- A part of a block is read. -/
theorem load_part {t : TypeId} {g ty off : Nat} {arr : Array Value} {fr : Nat × Nat} {M : Nat → Prop} {ls : List LV} {r : SV} (hg : w.heap[g]? = some (.cells arr ty fr)) (hl : gLs M β w ls arr.toList) (h : partOf P t ls off = some r) :
    ∃ u, (loadVar t ⟨g, off, none⟩).run P w = .ok u w ∧ gS M β w r u ∧ ∀ n, okLs n ls = true → r.okB n = true := by
  unfold partOf at h
  split at h
  · rename_i n ha hs
    rw [Bool.cond_eq_ite] at h
    split at h
    · rename_i hle
      have hle : off + n ≤ ls.length := Nat.le_of_ble_eq_true hle
      simp only [Option.some.injEq] at h
      subst h
      have hsz := hl.arr_get
      have hrun : (loadCells ⟨g, off, none⟩ ((arr.toList.drop off).take n).length).run P w = .ok ((arr.toList.drop off).take n).toArray w :=
        run_loadCells_list (P := P) w ⟨g, off, none⟩ _ (fun j v hv => by
          rw [addr_add, cell_of_row w g _ arr ty fr hg]
          rw [List.getElem?_take] at hv
          split at hv
          · rw [List.getElem?_drop] at hv; simpa using hv
          · cases hv)
      have hlen : ((arr.toList.drop off).take n).length = n := by simp; omega
      rw [hlen] at hrun
      refine ⟨.agg ((arr.toList.drop off).take n).toArray, ?_, ⟨_, rfl, by simpa using (hl.drop off).take n⟩, fun m hm => ?_⟩
      · unfold loadVar
        rw [Sem.run_bind, isAgg_run ha w]
        simp only [Result.andThen_ok, if_true]
        rw [Sem.run_bind, szOf_run hs w]
        simp only [Result.andThen_ok, Sem.run_bind, hrun, Sem.run_pure]
      · simp only [SV.okB, okLs, List.all_eq_true] at hm ⊢
        exact fun l hl' => hm l (List.mem_of_mem_drop (List.mem_of_mem_take hl'))
    · cases h
  · rename_i ha
    obtain ⟨l, hl1, hl2⟩ := Option.map_eq_some_iff.1 h
    subst hl2
    obtain ⟨u, hu, hgu⟩ := hl.get off l hl1
    refine ⟨u, ?_, hgu, fun m hm => ?_⟩
    · unfold loadVar
      rw [Sem.run_bind, isAgg_run ha w]
      simp only [Result.andThen_ok, Bool.false_eq_true, if_false]
      rw [run_load, cell_of_row w g off arr ty fr hg]
      have : arr[off]? = some u := by simpa using hu
      rw [this]
    · simp only [okLs, List.all_eq_true] at hm
      exact hm l (List.mem_of_getElem? hl1)
  · cases h

theorem oneC_gL {M : Nat → Prop} {l : LV} {u : Value} (h : gL M β w l u) (hc : oneC l = true) : u.oneCell' = true := by
  cases l with
  | v x => simp only [gL] at h; subst h; exact hc
  | row k xs => obtain ⟨_, _, rfl, _⟩ := h; rfl
  | ptr id off => simp only [gL] at h; subst h; rfl
  | cp x => obtain ⟨_, rfl, _⟩ := h; rfl
  | sl id off len cap => simp only [gL] at h; subst h; rfl
  | gsl id len => obtain ⟨_, _, _, rfl, _⟩ := h; rfl
theorem oneC_gLs {M : Nat → Prop} : ∀ {ls : List LV} {us : List Value}, gLs M β w ls us → ls.all oneC = true → ∀ u ∈ us, u.oneCell' = true
  | [], [], _, _, u, hu => by cases hu
  | l :: ls, v :: us, h, hc, u, hu => by
    simp only [List.all_cons, Bool.and_eq_true] at hc
    cases hu with
    | head => exact oneC_gL h.1 hc.1
    | tail _ hm => exact oneC_gLs h.2 hc.2 u hm
  | [], _ :: _, h, _, _, _ => h.elim
  | _ :: _, [], h, _, _, _ => h.elim
/-- A value's cells, told. -/
theorem gS_cells {M : Nat → Prop} {y : SV} {u : Value} (h : gS M β w y u) (h1 : (cellsOf y).all oneC = true) : gLs M β w (cellsOf y) u.cells.toList := by
  cases y with
  | one l =>
    simp only [cellsOf, List.all_cons, List.all_nil, Bool.and_true] at h1
    have := oneC_gL h h1
    have hc : u.cells = #[u] := by cases u <;> first | rfl | (simp [Value.oneCell'] at this)
    rw [hc]
    exact ⟨h, trivial⟩
  | agg ls => obtain ⟨arr, rfl, hl⟩ := h; exact hl
  | abs zs => obtain ⟨arr, rfl, hl⟩ := h; exact hl
theorem okLs_cells {n : Nat → Bool} {y : SV} (h : y.okB n = true) : okLs n (cellsOf y) = true := by
  cases y with
  | one l =>
    have h' : l.okB n = true := h
    simp [cellsOf, okLs, h']
  | agg ls => exact h
  | abs zs => exact okLs_abs _ zs

theorem op_alloc {t : TypeId} {z : Value} {d : Nat} (hop : o.op = .alloc t) (hz : (P.info? t).bind (·.zero) = some z) (hd : lk st.boxes d = none) (h : Gm M0 base X nt β st a w)
    (hK : Goes M0 base X nt st a w o ⟨.s (.one (.ptr d 0)), [(d, ⟨t, .cells (z.cells.toList.map LV.v), true⟩)], []⟩ K) : o.wp P a w K Q := by
  obtain ⟨β', hβn, hΓ⟩ := h.alloc hd t (.cells (z.cells.toList.map LV.v)) z.cells (okLs_vals _ _) (gLs_vals _)
  have hrun : (execOp a.eval o).run P w = .ok (.value (.pointer (some ⟨w.heap.size, 0, none⟩))) (w.alloc (.cells z.cells t (0, 0))) := by
    cases hi : P.info? t with
    | none => simp [hi] at hz
    | some i =>
      simp only [hi, Option.bind_some] at hz
      unfold execOp
      simp [hop, Instr.alloc, zeroValue, typeInfo, hi, hz, newVar, newRow]
  refine wp_value hrun (hK _ _ β' (Bel.of_below ((Below.refl _ _).alloc h.base_le _) (Nat.le_refl _)) ?_ ?_ hΓ)
  · simp [AV.okB, SV.okB, LV.okB, liv, lk_cons]
  · simp only [gA, gS, gL, hβn]
theorem op_box {t : TypeId} {x : Operand} {y : SV} {d : Nat} (hop : o.op = .box t x) (hρ : Low ρ st.tmps) (hy : ev ρ x = some (.s y)) (hc : (cellsOf y).all oneC = true) (hd : lk st.boxes d = none) (h : Gm M0 base X nt β st a w)
    (hK : Goes M0 base X nt st a w o ⟨.s (.one (.ptr d 0)), [(d, ⟨t, .cells (cellsOf y), true⟩)], []⟩ K) : o.wp P a w K Q := by
  obtain ⟨hok, hgy⟩ := h.ev hρ hy
  obtain ⟨β', hβn, hΓ⟩ := h.alloc hd t (.cells (cellsOf y)) (a.eval x).cells (okLs_cells hok) (gS_cells hgy hc)
  have hrun : (execOp a.eval o).run P w = .ok (.value (.pointer (some ⟨w.heap.size, 0, none⟩))) (w.alloc (.cells (a.eval x).cells t (0, 0))) := by
    unfold execOp
    simp [hop, Instr.box, newVar, newRow]
  refine wp_value hrun (hK _ _ β' (Bel.of_below ((Below.refl _ _).alloc h.base_le _) (Nat.le_refl _)) ?_ ?_ hΓ)
  · simp [AV.okB, SV.okB, LV.okB, liv, lk_cons]
  · simp only [gA, gS, gL, hβn]
theorem op_load {t : TypeId} {x : Operand} {id off : Nat} {ty : TypeId} {ls : List LV} {m : Bool} {r : SV} (hop : o.op = .load t x) (hρ : Low ρ st.tmps) (hx : ev ρ x = some (.s (.one (.ptr id off)))) (hb : lk st.boxes id = some ⟨ty, .cells ls, m⟩) (hr : partOf P t ls off = some r) (h : Gm M0 base X nt β st a w)
    (hK : Goes M0 base X nt st a w o ⟨.s r, [], []⟩ K) : o.wp P a w K Q := by
  obtain ⟨hok, hgx⟩ := h.ev hρ hx
  simp only [gA, gS, gL] at hgx
  obtain ⟨hokb, arr, harr, hl⟩ := h.boxes id _ hb
  obtain ⟨u, hrun, hgu, hoku⟩ := load_part harr hl hr
  refine wp_value (u := u) (w' := w) ?_ (Goes.same (r := .s r) h (hoku _ hokb) hgu hK)
  unfold execOp
  simp only [hop, Instr.loadAt, Instr.sureAddr, hgx, Sem.run_bind, Sem.run_pure, Result.andThen_ok, hrun]
theorem op_loadI {t : TypeId} {x : Operand} {id off : Nat} {ty : TypeId} {k : EK} {xs : List Int} {m : Bool} (hop : o.op = .load t x) (hρ : Low ρ st.tmps) (hx : ev ρ x = some (.s (.one (.ptr id off)))) (hb : lk st.boxes id = some ⟨ty, .ints k xs, m⟩) (ht : isAgg P t = some false) (hlt : off < xs.length) (h : Gm M0 base X nt β st a w)
    (hK : Goes M0 base X nt st a w o ⟨.s (.one (.v (mkV k (xs.getD off 0)))), [], [off < xs.length]⟩ K) : o.wp P a w K Q := by
  obtain ⟨hok, hgx⟩ := h.ev hρ hx
  simp only [gA, gS, gL] at hgx
  obtain ⟨hokb, arr, harr, hl⟩ := h.boxes id _ hb
  have hl : arr.toList = xs.map (mkV k) := hl
  refine wp_value (u := mkV k (xs.getD off 0)) (w' := w) ?_ (Goes.same (r := .s (.one (.v (mkV k (xs.getD off 0))))) h rfl rfl hK)
  have hcell : w.cell? ⟨β id, off, none⟩ = some (mkV k (xs.getD off 0)) := by
    rw [cell_of_row w _ off arr ty _ harr]
    have : arr[off]? = (xs.map (mkV k))[off]? := by rw [← hl]; simp
    rw [this, List.getElem?_map, List.getElem?_eq_getElem hlt]
    simp [List.getD, List.getElem?_eq_getElem hlt]
  unfold execOp
  simp only [hop, Instr.loadAt, Instr.sureAddr, hgx, Sem.run_bind, Sem.run_pure, Result.andThen_ok, loadVar, isAgg_run ht w, Bool.false_eq_true, if_false, run_load, hcell]
theorem op_loadcp {t : TypeId} {x : Operand} {y : Value} (hop : o.op = .load t x) (hρ : Low ρ st.tmps) (hx : ev ρ x = some (.s (.one (.cp y)))) (ht : isAgg P t = some false) (h : Gm M0 base X nt β st a w)
    (hK : Goes M0 base X nt st a w o ⟨.s (.one (.v y)), [], []⟩ K) : o.wp P a w K Q := by
  obtain ⟨hok, hgx⟩ := h.ev hρ hx
  obtain ⟨ad, he, hc⟩ := hgx
  have hcell := hc w (fun _ _ _ => rfl)
  refine wp_value (u := y) (w' := w) ?_ (Goes.same (r := .s (.one (.v y))) h rfl rfl hK)
  unfold execOp
  simp only [hop, Instr.loadAt, Instr.sureAddr, he, Sem.run_bind, Sem.run_pure, Result.andThen_ok, loadVar, isAgg_run ht w, Bool.false_eq_true, if_false, run_load, hcell]

theorem gLs.put {M : Nat → Prop} {ls ls' : List LV} {us us' : List Value} (off n : Nat) (h : gLs M β w ls us) (h' : gLs M β w ls' us') : gLs M β w (ls.take off ++ ls' ++ ls.drop n) (us.take off ++ us' ++ us.drop n) :=
  gLs.append (h.drop n) (gLs.append h' (h.take off))

theorem Bel.of_store {g : Nat} {w' : World} (h : Gm M0 base X nt β st a w) {id : Nat} (hid : liv st.boxes id = true) (hg : g = β id) (hb : Below g w w') (ho : ∀ b, b ≠ g → w'.heap[b]? = w.heap[b]?) : Bel base X w w' :=
  ⟨hb.os, hb.tape, hb.output, hb.size, fun k hk hx => ho k fun e => by
    subst hg
    rcases h.ge id hid with e1 | e1
    · omega
    · subst e; exact hx e1⟩

theorem op_store {t : TypeId} {x y : Operand} {id off n : Nat} {ty : TypeId} {ls : List LV} {z : SV} (hop : o.op = .store t x y) (hρ : Low ρ st.tmps) (hx : ev ρ x = some (.s (.one (.ptr id off)))) (hy : ev ρ y = some (.s z)) (hb : lk st.boxes id = some ⟨ty, .cells ls, true⟩) (hn : szOf P t = some n)
    (h1 : (cellsOf z).all oneC = true) (h2 : (cellsOf z).length = n) (h3 : off + n ≤ ls.length) (h : Gm M0 base X nt β st a w)
    (hK : Goes M0 base X nt st a w o ⟨.s (.one (.v undef)), [(id, ⟨ty, .cells (ls.take off ++ cellsOf z ++ ls.drop (off + n)), true⟩)], []⟩ K) : o.wp P a w K Q := by
  obtain ⟨_, hgx⟩ := h.ev hρ hx
  obtain ⟨hoky, hgy⟩ := h.ev hρ hy
  simp only [gA, gS, gL] at hgx
  obtain ⟨hokb, arr, harr, hl⟩ := h.boxes id _ hb
  have hl : gLs (Mof M0 β st.boxes) β w ls arr.toList := hl
  have hokb : okLs (liv st.boxes) ls = true := hokb
  have hcells := gS_cells hgy h1
  have hlen : (a.eval y).cells.toList.length = n := by rw [hcells.length, h2]
  have hsz := hl.arr_get
  obtain ⟨w', hrun, hbel, hoth, hsize, arr', harr', hal⟩ := storeCells_run (P := P) (β id) ty (a.eval y).cells.toList off 0 w arr harr (oneC_gLs hcells h1) (by rw [hlen]; omega)
  have hrun' : (execOp a.eval o).run P w = .ok .skip w' := by
    unfold execOp
    have hne : ¬ ((a.eval y).cells.size ≠ n) := by simpa using hlen
    simp only [hop, Instr.storeAt, Instr.sureAddr, hgx, Sem.run_bind, Sem.run_pure, Result.andThen_ok, storeVar, szOf_run hn w, hne, if_false, hrun]
  refine wp_skip' hrun' (hK undef w' β (Bel.of_store h (liv_iff.2 ⟨_, hb⟩) rfl hbel hoth) rfl rfl ?_)
  refine h.wrote hb rfl (by omega) (fun k _ hk => hoth k hk) (arr := arr') ?_ harr' (fun arr0 h0 => ?_) fun M' hm => ?_
  · show okLs _ _ = true
    simp only [okLs, List.all_append, Bool.and_eq_true]
    simp only [okLs, List.all_eq_true] at hokb ⊢
    have hz := okLs_cells hoky
    simp only [okLs, List.all_eq_true] at hz
    exact ⟨⟨fun l hl => hokb l (List.mem_of_mem_take hl), hz⟩, fun l hl => hokb l (List.mem_of_mem_drop hl)⟩
  · rw [harr] at h0
    simp only [Option.some.injEq, Obj.cells.injEq] at h0
    obtain ⟨rfl, -⟩ := h0
    rw [← Array.length_toList, hal, hlen]
    simp only [List.length_append, List.length_take, List.length_drop, hlen, Array.length_toList]
    omega
  · show gLs _ _ _ _ _
    rw [hal, hlen, Nat.add_zero]
    exact gLs.put off (off + n) (gLs.moves hm (fun _ _ => rfl) hl hokb) (gLs.moves hm (fun _ _ => rfl) hcells (okLs_cells hoky))

theorem op_storeI {t : TypeId} {x y : Operand} {id off : Nat} {ty : TypeId} {k : EK} {xs : List Int} {q : Value} {v : Int} (hop : o.op = .store t x y) (hρ : Low ρ st.tmps) (hx : ev ρ x = some (.s (.one (.ptr id off)))) (hy : ev ρ y = some (.s (.one (.v q)))) (hq : unV q = some (k, v)) (hb : lk st.boxes id = some ⟨ty, .ints k xs, true⟩) (hn : szOf P t = some 1)
    (h3 : off < xs.length) (h : Gm M0 base X nt β st a w)
    (hK : Goes M0 base X nt st a w o ⟨.s (.one (.v undef)), [(id, ⟨ty, .ints k (xs.set off v), true⟩)], [off < xs.length]⟩ K) : o.wp P a w K Q := by
  obtain ⟨_, hgx⟩ := h.ev hρ hx
  obtain ⟨hoky, hgy⟩ := h.ev hρ hy
  simp only [gA, gS, gL] at hgx
  have hgy : a.eval y = mkV k v := (show a.eval y = q from hgy).trans (unV_mk hq)
  obtain ⟨hokb, arr, harr, hl⟩ := h.boxes id _ hb
  have hl : arr.toList = xs.map (mkV k) := hl
  have hsz : arr.size = xs.length := by rw [← Array.length_toList, hl, List.length_map]
  obtain ⟨w', hrun, hbel, hoth, hsize, arr', harr', hal⟩ := storeCells_run (P := P) (β id) ty [mkV k v] off 0 w arr harr (by intro x hx; simp at hx; subst hx; exact mkV_one k v) (by simp; omega)
  have hrun' : (execOp a.eval o).run P w = .ok .skip w' := by
    unfold execOp
    simp only [hop, Instr.storeAt, Instr.sureAddr, hgx, hgy, mkV_cells, Sem.run_bind, Sem.run_pure, Result.andThen_ok, storeVar, szOf_run hn w]
    simp [hrun]
  refine wp_skip' hrun' (hK undef w' β (Bel.of_store h (liv_iff.2 ⟨_, hb⟩) rfl hbel hoth) rfl rfl ?_)
  refine h.wrote hb rfl (by omega) (fun k _ hk => hoth k hk) (arr := arr') rfl harr' (fun arr0 h0 => ?_) fun M' hm => ?_
  · rw [harr] at h0
    simp only [Option.some.injEq, Obj.cells.injEq] at h0
    obtain ⟨rfl, -⟩ := h0
    rw [← Array.length_toList, hal]
    simp only [List.length_append, List.length_take, List.length_drop, List.length_cons, List.length_nil, Array.length_toList]
    omega
  show arr'.toList = _
  rw [hal, hl, Nat.add_zero]
  simp only [List.length_cons, List.length_nil, Nat.zero_add, List.append_assoc]
  rw [List.set_eq_take_append_cons_drop, if_pos h3]
  simp

end
end Go.Proofs.YtkfdnpbpebmhaaaGreatDoor.Sx
namespace Go.Proofs.YtkfdnpbpebmhaaaGreatDoor.Sx
open Go Go.RowKit
section
variable {P : Program} {S : FuncId → Option Ctr} {G : Nat → Bool} {M0 X : Nat → Prop} {base nt : Nat} {β : Nat → Nat} {st : St} {a : Act} {w : World} {ρ : Nat → Option AV} {B : Nat → Option Box} {o : Oper} {K : Act → World → Prop} {Q : Exit → Act → World → Prop}

theorem op_fieldAddr {s : TypeId} {x : Operand} {f id off m : Nat} {fields : Array Field} {fd : Field} (hop : o.op = .fieldAddr s x f) (hx : ev ρ x = some (.s (.one (.ptr id off)))) (hs : P.underlying s = some (.struct fields)) (hf : fields[f]? = some fd) (hz : szOf P fd.type = some (m + 1)) (hρ : Low ρ st.tmps) (h : Gm M0 base X nt β st a w)
    (hK : Goes M0 base X nt st a w o ⟨.s (.one (.ptr id (off + fd.offset))), [], []⟩ K) : o.wp P a w K Q := by
  obtain ⟨hok, hgx⟩ := h.ev hρ hx
  have hgx' : a.eval x = .pointer (some ⟨β id, off, none⟩) := hgx
  refine wp_value (u := .pointer (some ⟨β id, off + fd.offset, none⟩)) (w' := w) ?_ (Goes.same (r := .s (.one (.ptr id (off + fd.offset)))) h hok rfl hK)
  unfold execOp
  simp only [hop, Instr.fieldAt, Instr.sureAddr, hgx', Sem.run_bind, Sem.run_pure, Result.andThen_ok, run_underlying hs, hf, fieldPlace, szOf_run hz w, Nat.succ_ne_zero, if_false, addr_add]

theorem part_run {t : TypeId} {off : Nat} {arr : Array Value} {M : Nat → Prop} {ls : List LV} {r : SV} (hl : gLs M β w ls arr.toList) (h : partOf P t ls off = some r) :
    ∃ u, (part t arr off).run P w = .ok u w ∧ gS M β w r u ∧ ∀ n, okLs n ls = true → r.okB n = true := by
  unfold partOf at h
  split at h
  · rename_i n ha hs
    rw [Bool.cond_eq_ite] at h
    split at h
    · rename_i hle
      have hle : off + n ≤ ls.length := Nat.le_of_ble_eq_true hle
      simp only [Option.some.injEq] at h
      subst h
      have hsz := hl.arr_get
      refine ⟨.agg (arr.extract off (off + n)), ?_, ⟨_, rfl, ?_⟩, fun m hm => ?_⟩
      · unfold part
        rw [Sem.run_bind, isAgg_run ha w]
        simp [szOf_run hs w]
      · have e : (arr.extract off (off + n)).toList = (arr.toList.drop off).take n := by
          simp [Array.toList_extract, List.extract]
        rw [e]
        exact (hl.drop off).take n
      · simp only [SV.okB, okLs, List.all_eq_true] at hm ⊢
        exact fun l hl' => hm l (List.mem_of_mem_drop (List.mem_of_mem_take hl'))
    · cases h
  · rename_i ha
    obtain ⟨l, hl1, hl2⟩ := Option.map_eq_some_iff.1 h
    subst hl2
    obtain ⟨u, hu, hgu⟩ := hl.get off l hl1
    refine ⟨u, ?_, hgu, fun m hm => ?_⟩
    · unfold part
      rw [Sem.run_bind, isAgg_run ha w]
      have : arr[off]? = some u := by simpa using hu
      simp [this]
    · simp only [okLs, List.all_eq_true] at hm
      exact hm l (List.mem_of_getElem? hl1)
  · cases h

theorem absL_drop : ∀ (zs : List Int) (off : Nat) (z : Int), absAt zs off = some z → ((absL zs).drop off).take 2 = absL [z] ∧ off + 2 ≤ (absL zs).length
  | z :: zs, 0, y, h => by simp only [absAt, Option.some.injEq] at h; subst h; simp [absL]
  | z :: zs, n + 2, y, h => by
    simp only [absAt] at h
    obtain ⟨h1, h2⟩ := absL_drop zs n y h
    simp only [absL, List.drop_succ_cons, List.length_cons]
    exact ⟨h1, by omega⟩
  | z :: zs, 1, y, h => by simp [absAt] at h
  | [], _, y, h => by simp [absAt] at h
theorem partAbs_run {t : TypeId} {off : Nat} {arr : Array Value} {M : Nat → Prop} {zs : List Int} {r : SV} (hl : gLs M β w (absL zs) arr.toList) (h : partAbs P t zs off = some r) :
    ∃ u, (part t arr off).run P w = .ok u w ∧ gS M β w r u ∧ ∀ n, r.okB n = true := by
  unfold partAbs at h
  split at h
  · rename_i ha hs
    obtain ⟨z, hz, rfl⟩ := Option.map_eq_some_iff.1 h
    obtain ⟨h1, h2⟩ := absL_drop zs off z hz
    have hp : partOf P t (absL zs) off = some (.agg (absL [z])) := by
      unfold partOf
      rw [ha, hs]
      simp only
      rw [show Nat.ble (off + 2) (absL zs).length = true from Nat.ble_eq_true_of_le h2, cond_true, h1]
    obtain ⟨u, e1, e2, _⟩ := part_run hl hp
    exact ⟨u, e1, e2, fun _ => rfl⟩
  · obtain ⟨u, e1, e2, e3⟩ := part_run hl h
    exact ⟨u, e1, e2, fun n => e3 n (okLs_abs n zs)⟩
theorem op_fieldA {s : TypeId} {x : Operand} {f : Nat} {fields : Array Field} {fd : Field} {zs : List Int} {r : SV} (hop : o.op = .field s x f) (hx : ev ρ x = some (.s (.abs zs))) (hs : P.underlying s = some (.struct fields)) (hf : fields[f]? = some fd) (hr : partAbs P fd.type zs fd.offset = some r) (hρ : Low ρ st.tmps) (h : Gm M0 base X nt β st a w)
    (hK : Goes M0 base X nt st a w o ⟨.s r, [], []⟩ K) : o.wp P a w K Q := by
  obtain ⟨hok, arr, he, hl⟩ := h.ev hρ hx
  obtain ⟨u, hrun, hgu, hoku⟩ := partAbs_run hl hr
  refine wp_value (u := u) (w' := w) ?_ (Goes.same (r := .s r) h (hoku _) hgu hK)
  unfold execOp
  simp only [hop, Instr.field, he, asAgg, Sem.run_bind, Sem.run_pure, Result.andThen_ok, run_underlying hs, hf, hrun]

theorem op_field {s : TypeId} {x : Operand} {f : Nat} {fields : Array Field} {fd : Field} {ls : List LV} {r : SV} (hop : o.op = .field s x f) (hx : ev ρ x = some (.s (.agg ls))) (hs : P.underlying s = some (.struct fields)) (hf : fields[f]? = some fd) (hr : partOf P fd.type ls fd.offset = some r) (hρ : Low ρ st.tmps) (h : Gm M0 base X nt β st a w)
    (hK : Goes M0 base X nt st a w o ⟨.s r, [], []⟩ K) : o.wp P a w K Q := by
  obtain ⟨hok, arr, he, hl⟩ := h.ev hρ hx
  obtain ⟨u, hrun, hgu, hoku⟩ := part_run hl hr
  refine wp_value (u := u) (w' := w) ?_ (Goes.same (r := .s r) h (hoku _ hok) hgu hK)
  unfold execOp
  simp only [hop, Instr.field, he, asAgg, Sem.run_bind, Sem.run_pure, Result.andThen_ok, run_underlying hs, hf, hrun]

theorem op_indexAddr {t e : TypeId} {x i : Operand} {k : EK} {k' : IntKind} {xs : List Int} {n : Int} (hop : o.op = .indexAddr t x i) (hx : ev ρ x = some (.s (.one (.row k xs)))) (hi : sc ρ i = some (.int k' n)) (ht : P.underlying t = some (.slice e)) (hz : szOf P e = some 1) (h0 : 0 ≤ n) (h1 : n < xs.length) (hρ : Low ρ st.tmps) (h : Gm M0 base X nt β st a w)
    (hK : Goes M0 base X nt st a w o ⟨.s (.one (.cp (mkV k (xs.getD n.toNat 0)))), [], [0 ≤ n ∧ n < xs.length]⟩ K) : o.wp P a w K Q := by
  obtain ⟨hok, A, c, he, hc, hmx, hrd⟩ := h.ev hρ hx
  have hi' := h.sc hρ hi
  obtain ⟨ad, rfl, hcell⟩ := hrd w (fun _ _ _ => rfl) (by omega)
  refine wp_value (u := .pointer (some (ad.add (n.toNat * 1)))) (w' := w) ?_ (Goes.same (r := .s (.one (.cp (mkV k (xs.getD n.toNat 0))))) h rfl ⟨_, rfl, fun W' hW => ?_⟩ hK)
  · unfold execOp
    simp only [hop, Instr.indexAt, he, hi', asIntOf, Sem.run_bind, Sem.run_pure, Result.andThen_ok, run_underlying ht]
    simp only [h0, h1, and_self, if_true, Sem.run_bind, Sem.run_pure, Result.andThen_ok, szOf_run hz w]
  · obtain ⟨ad', e1, h2⟩ := hrd W' hW (by omega)
    cases e1
    rw [Nat.mul_one]
    exact h2 n.toNat (by omega)

theorem op_extract {x : Operand} {i : Nat} {xs : List SV} {r : SV} (hop : o.op = .extract x i) (hx : ev ρ x = some (.tup xs)) (hi : xs[i]? = some r) (hρ : Low ρ st.tmps) (h : Gm M0 base X nt β st a w)
    (hK : Goes M0 base X nt st a w o ⟨.s r, [], []⟩ K) : o.wp P a w K Q := by
  obtain ⟨hok, arr, he, hl⟩ := h.ev hρ hx
  obtain ⟨u, hu, hgu⟩ := hl.get i r hi
  have hoks : r.okB (liv st.boxes) = true := by
    simp only [AV.okB, List.all_eq_true] at hok
    exact hok r (List.mem_of_getElem? hi)
  refine wp_value (u := u) (w' := w) ?_ (Goes.same (r := .s r) h hoks hgu hK)
  unfold execOp
  have : arr[i]? = some u := by simpa using hu
  simp only [hop, Instr.extract, he, this, Sem.run_bind, Sem.run_pure, Result.andThen_ok]

theorem op_same {x : Operand} {v : AV} (hop : o.op = .move x ∨ o.op = .assign x) (hx : ev ρ x = some v) (hρ : Low ρ st.tmps) (h : Gm M0 base X nt β st a w)
    (hK : Goes M0 base X nt st a w o ⟨v, [], []⟩ K) : o.wp P a w K Q := by
  obtain ⟨hok, hg⟩ := h.ev hρ hx
  refine wp_value (u := a.eval x) (w' := w) ?_ (Goes.same h hok hg hK)
  unfold execOp
  rcases hop with hop | hop <;> simp [hop]

theorem op_pick {c x y : Operand} {b : Bool} {v : AV} {ps : List Prop} (hop : o.op = .pick c x y) (hc : sc ρ c = some (.bool b)) (hx : ev ρ (bif b then x else y) = some v) (hρ : Low ρ st.tmps) (h : Gm M0 base X nt β st a w)
    (hK : Goes M0 base X nt st a w o ⟨v, [], ps⟩ K) : o.wp P a w K Q := by
  obtain ⟨hok, hg⟩ := h.ev hρ hx
  have hc' := h.sc hρ hc
  refine wp_value (u := a.eval (bif b then x else y)) (w' := w) ?_ (Goes.same (r := v) (ps := ps) h hok hg hK)
  unfold execOp
  cases b <;> simp [hop, hc', asBool]

theorem evs_gSs (hρ : Low ρ st.tmps) (h : Gm M0 base X nt β st a w) : ∀ {xs : List Operand} {ys : List SV}, evs ρ xs = some ys → gSs (Mof M0 β st.boxes) β w ys (xs.map a.eval)
  | [], ys, hy => by simp only [evs, Option.some.injEq] at hy; subst hy; trivial
  | x :: xs, ys, hy => by
    simp only [evs] at hy
    split at hy
    · rename_i y ys' e1 e2
      simp only [Option.some.injEq] at hy
      subst hy
      refine ⟨?_, evs_gSs hρ h e2⟩
      cases hv : ev ρ x with
      | none => simp [hv] at e1
      | some v =>
        simp only [hv, Option.bind_some] at e1
        have := (h.ev hρ hv).2
        unfold svOf at e1
        split at e1
        · simp only [Option.some.injEq] at e1; subst e1; exact this
        · cases e1
    · cases hy

theorem frzL_run (h : Gm M0 base X nt β st a w) (hB : Low B st.boxes) {l l' : LV} {u : Value} {f : List (Nat × Box)} {ps : List Prop} (hf : frzL B l = some (l', f, ps)) (hps : ∀ p, p ∈ ps → p) (hg : gL (Mof M0 β st.boxes) β w l u) (hok : l.okB (liv st.boxes) = true) :
    (∀ i b, lk f i = some b → b.mut_ = false ∧ ∃ b', lk st.boxes i = some b' ∧ b'.ty = b.ty ∧ b'.bc = b.bc) ∧
    (∀ M', Moves (Mof M0 β st.boxes) M' w w → (∀ i b, lk f i = some b → ¬ M' (β i)) → gL M' β w l' u) := by
  cases l with
  | sl id off len cap =>
    simp only [frzL] at hf
    split at hf
    · rename_i ty k xs m hb
      simp only [Option.some.injEq, Prod.mk.injEq] at hf
      obtain ⟨rfl, rfl, rfl⟩ := hf
      have hb' := hB _ _ hb
      obtain ⟨_, arr, harr, hl⟩ := h.boxes id _ hb'
      have hl : arr.toList = xs.map (mkV k) := hl
      obtain ⟨h1, h2, h3⟩ := hps _ (List.mem_singleton.2 rfl)
      refine ⟨fun i b hi => ?_, fun M' hm hM => ?_⟩
      · rw [lk_cons] at hi
        split at hi
        · rename_i e; subst e; simp only [Option.some.injEq] at hi; subst hi; exact ⟨rfl, _, hb', rfl, rfl⟩
        · cases hi
      · have hlen : ((xs.drop off).take len).length = len := by simp; omega
        have hnM : ¬ M' (β id) := hM id _ (by rw [lk_cons, if_pos rfl])
        have hlt : β id < w.heap.size := (Array.getElem?_eq_some_iff.1 harr).1
        refine ⟨some ⟨β id, off, none⟩, cap, by rw [hlen]; exact hg, by rw [hlen]; exact h2, by rw [hlen]; exact h3, fun W' hW _ => ⟨_, rfl, fun j hj => ?_⟩⟩
        rw [hlen] at hj
        rw [addr_add, cell_of_row W' _ (off + j) arr ty (0, 0) (by rw [hW _ hnM hlt]; exact harr)]
        have : arr[off + j]? = (xs.map (mkV k))[off + j]? := by rw [← hl]; simp
        rw [this, List.getElem?_map, List.getElem?_eq_getElem (by omega)]
        simp [List.getD, hj, List.getElem?_drop, List.getElem?_eq_getElem (show off + j < xs.length by omega)]
    · cases hf
  | gsl id len =>
    simp only [frzL] at hf
    split at hf
    · rename_i ty k xs m hb
      simp only [Option.some.injEq, Prod.mk.injEq] at hf
      obtain ⟨rfl, rfl, rfl⟩ := hf
      have hb' := hB _ _ hb
      obtain ⟨_, arr, harr, rest, hl⟩ := h.boxes id _ hb'
      obtain ⟨h1, h2⟩ := hps _ (List.mem_singleton.2 rfl)
      obtain ⟨cap, cur, ty', hu, hc1, hc2, hc3, hc4⟩ := hg
      refine ⟨fun i b hi => ?_, fun M' hm hM => ?_⟩
      · rw [lk_cons] at hi
        split at hi
        · rename_i e; subst e; simp only [Option.some.injEq] at hi; subst hi; exact ⟨rfl, _, hb', rfl, rfl⟩
        · cases hi
      · have hlen : (xs.take len).length = len := by simp; omega
        have hnM : ¬ M' (β id) := hM id _ (by rw [lk_cons, if_pos rfl])
        have hlt : β id < w.heap.size := (Array.getElem?_eq_some_iff.1 harr).1
        refine ⟨some ⟨β id, 0, none⟩, cap, by rw [hlen]; exact hu, by rw [hlen]; exact hc3, by rw [hlen]; exact h2, fun W' hW _ => ⟨_, rfl, fun j hj => ?_⟩⟩
        rw [hlen] at hj
        rw [addr_add, cell_of_row W' _ (0 + j) arr ty (0, 0) (by rw [hW _ hnM hlt]; exact harr)]
        have : arr[0 + j]? = (xs.map (mkV k) ++ rest)[j]? := by rw [← hl]; simp
        rw [this, List.getElem?_append_left (by simp; omega), List.getElem?_map, List.getElem?_eq_getElem (by omega)]
        simp [List.getD, hj, List.getElem?_eq_getElem (show j < xs.length by omega)]
    · cases hf
  | v x =>
    simp only [frzL, Option.some.injEq, Prod.mk.injEq] at hf
    obtain ⟨rfl, rfl, rfl⟩ := hf
    exact ⟨fun i b hi => (by simp [lk] at hi), fun M' hm _ => gL.moves hg hm hok (fun _ _ => rfl)⟩
  | row k xs =>
    simp only [frzL, Option.some.injEq, Prod.mk.injEq] at hf
    obtain ⟨rfl, rfl, rfl⟩ := hf
    exact ⟨fun i b hi => (by simp [lk] at hi), fun M' hm _ => gL.moves hg hm hok (fun _ _ => rfl)⟩
  | ptr id off =>
    simp only [frzL, Option.some.injEq, Prod.mk.injEq] at hf
    obtain ⟨rfl, rfl, rfl⟩ := hf
    exact ⟨fun i b hi => (by simp [lk] at hi), fun M' hm _ => gL.moves hg hm hok (fun _ _ => rfl)⟩
  | cp x =>
    simp only [frzL, Option.some.injEq, Prod.mk.injEq] at hf
    obtain ⟨rfl, rfl, rfl⟩ := hf
    exact ⟨fun i b hi => (by simp [lk] at hi), fun M' hm _ => gL.moves hg hm hok (fun _ _ => rfl)⟩
theorem lk_app_some {α : Type} {l r : List (Nat × α)} {i : Nat} {b : α} (h : lk (l ++ r) i = some b) : lk l i = some b ∨ lk r i = some b := by
  rw [lk_append] at h
  cases hl : lk l i with
  | none => rw [hl, Option.none_or] at h; exact .inr h
  | some x => rw [hl, Option.some_or] at h; exact .inl h
theorem lk_app_live {α : Type} {l r : List (Nat × α)} {i : Nat} (h : (lk l i).isSome = true ∨ (lk r i).isSome = true) : (lk (l ++ r) i).isSome = true := by
  rw [lk_append]
  cases hl : lk l i with
  | none => rw [Option.none_or]; rcases h with h | h; rw [hl] at h; cases h; exact h
  | some x => rfl
theorem frzLs_run (h : Gm M0 base X nt β st a w) (hB : Low B st.boxes) : ∀ {ls ls' : List LV} {us : List Value} {f : List (Nat × Box)} {ps : List Prop}, frzLs B ls = some (ls', f, ps) → (∀ p, p ∈ ps → p) → gLs (Mof M0 β st.boxes) β w ls us → okLs (liv st.boxes) ls = true →
    (∀ i b, lk f i = some b → b.mut_ = false ∧ ∃ b', lk st.boxes i = some b' ∧ b'.ty = b.ty ∧ b'.bc = b.bc) ∧
    (∀ M', Moves (Mof M0 β st.boxes) M' w w → (∀ i b, lk f i = some b → ¬ M' (β i)) → gLs M' β w ls' us)
  | [], ls', [], f, ps, hf, _, _, _ => by
    simp only [frzLs, Option.some.injEq, Prod.mk.injEq] at hf
    obtain ⟨rfl, rfl, rfl⟩ := hf
    exact ⟨fun i b hi => (by simp [lk] at hi), fun _ _ _ => trivial⟩
  | l :: ls, ls', u :: us, f, ps, hf, hps, hg, hok => by
    simp only [frzLs] at hf
    split at hf
    · rename_i x f1 p1 xs f2 p2 e1 e2
      simp only [Option.some.injEq, Prod.mk.injEq] at hf
      obtain ⟨rfl, rfl, rfl⟩ := hf
      simp only [okLs, List.all_cons, Bool.and_eq_true] at hok
      obtain ⟨a1, a2⟩ := frzL_run h hB e1 (fun p hp => hps p (List.mem_append.2 (.inl hp))) hg.1 hok.1
      obtain ⟨b1, b2⟩ := frzLs_run h hB e2 (fun p hp => hps p (List.mem_append.2 (.inr hp))) hg.2 hok.2
      refine ⟨fun i b hi => (lk_app_some hi).elim (a1 i b) (b1 i b), fun M' hm hM => ⟨a2 M' hm fun i b hi => ?_, b2 M' hm fun i b hi => ?_⟩⟩
      · obtain ⟨b', hb'⟩ := Option.isSome_iff_exists.1 (lk_app_live (r := f2) (.inl (show (lk f1 i).isSome = true by rw [hi]; rfl)))
        exact hM i b' hb'
      · obtain ⟨b', hb'⟩ := Option.isSome_iff_exists.1 (lk_app_live (l := f1) (.inr (show (lk f2 i).isSome = true by rw [hi]; rfl)))
        exact hM i b' hb'
    · cases hf
  | [], _, _ :: _, _, _, _, _, h, _ => h.elim
  | _ :: _, _, [], _, _, _, _, h, _ => h.elim
theorem frzS_run (h : Gm M0 base X nt β st a w) (hB : Low B st.boxes) {l l' : SV} {u : Value} {f : List (Nat × Box)} {ps : List Prop} (hf : frzS B l = some (l', f, ps)) (hps : ∀ p, p ∈ ps → p) (hg : gS (Mof M0 β st.boxes) β w l u) (hok : l.okB (liv st.boxes) = true) :
    (∀ i b, lk f i = some b → b.mut_ = false ∧ ∃ b', lk st.boxes i = some b' ∧ b'.ty = b.ty ∧ b'.bc = b.bc) ∧
    (∀ M', Moves (Mof M0 β st.boxes) M' w w → (∀ i b, lk f i = some b → ¬ M' (β i)) → gS M' β w l' u) := by
  cases l with
  | one l =>
    obtain ⟨⟨x, f', p'⟩, e1, e2⟩ := Option.map_eq_some_iff.1 hf
    simp only [Prod.mk.injEq] at e2
    obtain ⟨rfl, rfl, rfl⟩ := e2
    exact frzL_run h hB e1 hps hg hok
  | agg ls =>
    obtain ⟨⟨x, f', p'⟩, e1, e2⟩ := Option.map_eq_some_iff.1 hf
    simp only [Prod.mk.injEq] at e2
    obtain ⟨rfl, rfl, rfl⟩ := e2
    obtain ⟨arr, rfl, hl⟩ := hg
    obtain ⟨a1, a2⟩ := frzLs_run h hB e1 hps hl hok
    exact ⟨a1, fun M' hm hM => ⟨arr, rfl, a2 M' hm hM⟩⟩
  | abs zs =>
    simp only [frzS, Option.some.injEq, Prod.mk.injEq] at hf
    obtain ⟨rfl, rfl, rfl⟩ := hf
    exact ⟨fun i b hi => (by simp [lk] at hi), fun M' hm _ => gS.moves hg hm hok (fun _ _ => rfl)⟩
theorem frzSs_run (h : Gm M0 base X nt β st a w) (hB : Low B st.boxes) : ∀ {ls ls' : List SV} {us : List Value} {f : List (Nat × Box)} {ps : List Prop}, frzSs B ls = some (ls', f, ps) → (∀ p, p ∈ ps → p) → gSs (Mof M0 β st.boxes) β w ls us → ls.all (·.okB (liv st.boxes)) = true →
    (∀ i b, lk f i = some b → b.mut_ = false ∧ ∃ b', lk st.boxes i = some b' ∧ b'.ty = b.ty ∧ b'.bc = b.bc) ∧
    (∀ M', Moves (Mof M0 β st.boxes) M' w w → (∀ i b, lk f i = some b → ¬ M' (β i)) → gSs M' β w ls' us)
  | [], ls', [], f, ps, hf, _, _, _ => by
    simp only [frzSs, Option.some.injEq, Prod.mk.injEq] at hf
    obtain ⟨rfl, rfl, rfl⟩ := hf
    exact ⟨fun i b hi => (by simp [lk] at hi), fun _ _ _ => trivial⟩
  | l :: ls, ls', u :: us, f, ps, hf, hps, hg, hok => by
    simp only [frzSs] at hf
    split at hf
    · rename_i x f1 p1 xs f2 p2 e1 e2
      simp only [Option.some.injEq, Prod.mk.injEq] at hf
      obtain ⟨rfl, rfl, rfl⟩ := hf
      simp only [List.all_cons, Bool.and_eq_true] at hok
      obtain ⟨a1, a2⟩ := frzS_run h hB e1 (fun p hp => hps p (List.mem_append.2 (.inl hp))) hg.1 hok.1
      obtain ⟨b1, b2⟩ := frzSs_run h hB e2 (fun p hp => hps p (List.mem_append.2 (.inr hp))) hg.2 hok.2
      refine ⟨fun i b hi => (lk_app_some hi).elim (a1 i b) (b1 i b), fun M' hm hM => ⟨a2 M' hm fun i b hi => ?_, b2 M' hm fun i b hi => ?_⟩⟩
      · obtain ⟨b', hb'⟩ := Option.isSome_iff_exists.1 (lk_app_live (r := f2) (.inl (show (lk f1 i).isSome = true by rw [hi]; rfl)))
        exact hM i b' hb'
      · obtain ⟨b', hb'⟩ := Option.isSome_iff_exists.1 (lk_app_live (l := f1) (.inr (show (lk f2 i).isSome = true by rw [hi]; rfl)))
        exact hM i b' hb'
    · cases hf
  | [], _, _ :: _, _, _, _, _, h, _ => h.elim
  | _ :: _, _, [], _, _, _, _, h, _ => h.elim

theorem evs_ok (hρ : Low ρ st.tmps) (h : Gm M0 base X nt β st a w) : ∀ {xs : List Operand} {ys : List SV}, evs ρ xs = some ys → ys.all (·.okB (liv st.boxes)) = true
  | [], ys, hy => by simp only [evs, Option.some.injEq] at hy; subst hy; rfl
  | x :: xs, ys, hy => by
    simp only [evs] at hy
    split at hy
    · rename_i y ys' e1 e2
      simp only [Option.some.injEq] at hy
      subst hy
      simp only [List.all_cons, Bool.and_eq_true]
      refine ⟨?_, evs_ok hρ h e2⟩
      cases hv : ev ρ x with
      | none => simp [hv] at e1
      | some v =>
        simp only [hv, Option.bind_some] at e1
        have := (h.ev hρ hv).1
        unfold svOf at e1
        split at e1
        · simp only [Option.some.injEq] at e1; subst e1; exact this
        · cases e1
    · cases hy

theorem plainL_g {l : LV} {u : Value} {M M' : Nat → Prop} {w w' : World} (hp : plainL l = true) (h : gL M β w l u) : gL M' β w' l u := by
  cases l with
  | v x => exact h
  | row | ptr | cp | sl | gsl => simp [plainL] at hp
theorem plainLs_g {M M' : Nat → Prop} {w w' : World} : ∀ {ls : List LV} {us : List Value}, ls.all plainL = true → gLs M β w ls us → gLs M' β w' ls us
  | [], [], _, _ => trivial
  | l :: ls, u :: us, hp, h => by
    simp only [List.all_cons, Bool.and_eq_true] at hp
    exact ⟨plainL_g hp.1 h.1, plainLs_g hp.2 h.2⟩
  | [], _ :: _, _, h => h.elim
  | _ :: _, [], _, h => h.elim
theorem plainS_g {l : SV} {u : Value} {M M' : Nat → Prop} {w w' : World} (hp : plainS l = true) (h : gS M β w l u) : gS M' β w' l u := by
  cases l with
  | one l => exact plainL_g hp h
  | agg ls => obtain ⟨arr, e, h⟩ := h; exact ⟨arr, e, plainLs_g hp h⟩
  | abs zs => cases hp
theorem plainSs_g {M M' : Nat → Prop} {w w' : World} : ∀ {ls : List SV} {us : List Value}, ls.all plainS = true → gSs M β w ls us → gSs M' β w' ls us
  | [], [], _, _ => trivial
  | l :: ls, u :: us, hp, h => by
    simp only [List.all_cons, Bool.and_eq_true] at hp
    exact ⟨plainS_g hp.1 h.1, plainSs_g hp.2 h.2⟩
  | [], _ :: _, _, h => h.elim
  | _ :: _, [], _, h => h.elim
theorem plainA_g {l : AV} {u : Value} {M M' : Nat → Prop} {w w' : World} (hp : plainA l = true) (h : gA M β w l u) : gA M' β w' l u := by
  cases l with
  | s l => exact plainS_g hp h
  | tup ls => obtain ⟨arr, e, h⟩ := h; exact ⟨arr, e, plainSs_g hp h⟩

/-- Frozen boxes are not among what may change. -/
theorem frz_notM (h : Gm M0 base X nt β st a w) {fz : List (Nat × Box)} (hf : ∀ i b, lk fz i = some b → b.mut_ = false ∧ ∃ b', lk st.boxes i = some b' ∧ b'.ty = b.ty ∧ b'.bc = b.bc) : ∀ i b, lk fz i = some b → ¬ Mof M0 β (fz ++ st.boxes) (β i) := by
  intro i b hi
  have hli : liv st.boxes i = true := by obtain ⟨_, b', e', _⟩ := hf i b hi; exact liv_iff.2 ⟨b', e'⟩
  rintro (h1 | ⟨j, x, hj, hx, e⟩)
  · rcases h.ge i hli with e | e
    · have := h.M0lt _ h1; omega
    · exact h.M0X _ h1 e
  · have hlj : liv st.boxes j = true := by
      rcases lk_app_some hj with e1 | e1
      · obtain ⟨_, b', e', _⟩ := hf j x e1; exact liv_iff.2 ⟨b', e'⟩
      · exact liv_iff.2 ⟨x, e1⟩
    have hij := h.inj i j hli hlj e
    subst hij
    rw [lk_append, hi, Option.some_or, Option.some.injEq] at hj
    subst hj
    rw [(hf i b hi).1] at hx
    cases hx

theorem op_call {f : FuncId} {args : Array Operand} {ats : Array TypeId} {sp : Sp} {avs avs' : List SV} {fz : List (Nat × Box)} {r : AV} {qs ps : List Prop} (hop : o.op = .call { callee := .value (.func f), args, argTypes := ats }) (hsp : Con P f sp) (hρ : Low ρ st.tmps) (hB : Low B st.boxes) (hav : evs ρ args.toList = some avs) (hfz : frzSs B avs = some (avs', fz, qs)) (hr : sp avs' = some (r, ps)) (hqs : ∀ p, p ∈ qs → p) (hps : ∀ p, p ∈ ps → p) (h : Gm M0 base X nt β st a w)
    (hK : Goes M0 base X nt st a w o ⟨r, bif plainA r then [] else fz, qs ++ ps⟩ K) : o.wp P a w K Q := by
  have hargs : (args.map a.eval).toList = args.toList.map a.eval := by simp
  have hrun : (execOp a.eval o).run P w = .ok (.enter f (args.map a.eval)) w := by
    unfold execOp
    simp only [hop, resolve, Deferred.ofValue, Act.eval, Sem.run_bind, Sem.run_pure, Result.andThen_ok, invoke, Array.empty_append, Array.append_empty, pureRun_run (hsp.enters _) w]
  obtain ⟨hf1, hf2⟩ := frzSs_run h hB hfz hqs (evs_gSs hρ h hav) (evs_ok hρ h hav)
  have hΓz := h.freeze hf1
  refine wp_enter hrun ?_
  refine Calls.mono (hsp.calls avs' r ps hr hps (Mof M0 β (fz ++ st.boxes)) β w (args.map a.eval) hΓz.Mlt (by rw [hargs]; exact hf2 _ (frz_moves hf1) (frz_notM h hf1))) ?_
  rintro e w' ⟨u, rfl, hok, hg, hb⟩
  have hok' : ∀ n : Nat → Bool, r.okB n = true := fun n => okB_mono_A (fun i hi => by cases hi) hok
  cases hpl : plainA r with
  | true =>
    rw [hpl] at hK
    exact ⟨u, rfl, hK u w' β (Bel.of_below hb h.base_le) (hok' _) (plainA_g hpl hg) (h.below hb)⟩
  | false =>
    rw [hpl] at hK
    exact ⟨u, rfl, hK u w' β (Bel.of_below hb h.base_le) (hok' _) hg (hΓz.below hb)⟩

theorem op_callMu {f : FuncId} {args : Array Operand} {ats : Array TypeId} {sm : SpM} {id off len cap : Nat} {ty : TypeId} {k : EK} {xs xs' : List Int} {avs avs' : List SV} {fz : List (Nat × Box)} {r : AV} {qs ps : List Prop} (hop : o.op = .call { callee := .value (.func f), args, argTypes := ats }) (hsp : ConM P f sm) (hρ : Low ρ st.tmps) (hB : Low B st.boxes) (hav : evs ρ args.toList = some (.one (.sl id off len cap) :: avs)) (hb : lk st.boxes id = some ⟨ty, .ints k xs, true⟩) (hfz : frzSs B avs = some (avs', fz, qs)) (hr : sm k xs off len cap avs' = some (r, xs', ps)) (hpl : plainA r = true) (hne : (fz.all fun p => !(Nat.beq p.1 id)) = true) (hqs : ∀ p, p ∈ qs → p) (hps : ∀ p, p ∈ ps → p) (h : Gm M0 base X nt β st a w)
    (hK : Goes M0 base X nt st a w o ⟨r, [(id, ⟨ty, .ints k xs', true⟩)], qs ++ ps⟩ K) : o.wp P a w K Q := by
  have hargs : (args.map a.eval).toList = args.toList.map a.eval := by simp
  have hrun : (execOp a.eval o).run P w = .ok (.enter f (args.map a.eval)) w := by
    unfold execOp
    simp only [hop, resolve, Deferred.ofValue, Act.eval, Sem.run_bind, Sem.run_pure, Result.andThen_ok, invoke, Array.empty_append, Array.append_empty, pureRun_run (hsp.enters _) w]
  have hev := evs_gSs hρ h hav
  have hevo := evs_ok hρ h hav
  obtain ⟨v0, vs, hvs⟩ : ∃ v0 vs, args.toList.map a.eval = v0 :: vs := by
    cases hq : args.toList.map a.eval with
    | nil => rw [hq] at hev; exact hev.elim
    | cons v0 vs => exact ⟨v0, vs, rfl⟩
  rw [hvs] at hev
  have hv0 : v0 = .slice (some ⟨β id, off, none⟩) len cap := hev.1
  simp only [List.all_cons, Bool.and_eq_true] at hevo
  obtain ⟨hf1, hf2⟩ := frzSs_run h hB hfz hqs hev.2 hevo.2
  have hΓz := h.freeze hf1
  obtain ⟨_, arr, harr, hl⟩ := h.boxes id _ hb
  have hnz : lk fz id = none := by
    cases hz : lk fz id with
    | none => rfl
    | some b =>
      exfalso
      have : ∀ (l : List (Nat × Box)), (l.all fun p => !(Nat.beq p.1 id)) = true → lk l id = none := by
        intro l hl
        induction l with
        | nil => rfl
        | cons p l ih =>
          simp only [List.all_cons, Bool.and_eq_true, Bool.not_eq_true'] at hl
          obtain ⟨s, x⟩ := p
          rw [lk_cons, if_neg]
          · exact ih hl.2
          · intro e; subst e; simp at hl
      rw [this fz hne] at hz
      cases hz
  have hbz : lk (fz ++ st.boxes) id = some ⟨ty, .ints k xs, true⟩ := by rw [lk_append, hnz, Option.none_or]; exact hb
  have hargs2 : args.map a.eval = (Value.slice (some ⟨β id, off, none⟩) len cap :: vs).toArray := by
    apply Array.toList_inj.1; rw [hargs, hvs, hv0]
  rw [hargs2] at hrun
  refine wp_enter hrun ?_
  refine Calls.mono (hsp.calls k xs off len cap avs' r xs' ps hr hps (Mof M0 β (fz ++ st.boxes)) β w (β id) ty arr vs hΓz.Mlt (.inr ⟨id, _, hbz, rfl, rfl⟩) harr hl (hf2 _ (frz_moves hf1) (frz_notM h hf1))) ?_
  rintro e w' ⟨u, rfl, hok, hg, hbel, arr', harr', hl'⟩
  have hok' : ∀ n : Nat → Bool, r.okB n = true := fun n => okB_mono_A (fun i hi => by cases hi) hok
  refine ⟨u, rfl, hK u w' β ?_ (hok' _) (plainA_g hpl hg) (h.wrote hb rfl hbel.size (fun k hk hne => hbel.block k hk hne) (arr := arr') rfl harr' (fun arr0 h0 => by
    rw [harr] at h0
    simp only [Option.some.injEq, Obj.cells.injEq] at h0
    obtain ⟨rfl, -⟩ := h0
    rw [← Array.length_toList, ← Array.length_toList, hl', hl, List.length_map, List.length_map]
    exact hsp.len k xs off len cap avs' r xs' ps hr hps) fun M' hm => hl')⟩
  refine ⟨hbel.os, hbel.tape, hbel.output, hbel.size, fun q hq hx => hbel.block q (Nat.lt_of_lt_of_le hq h.base_le) fun e => ?_⟩
  subst e
  rcases h.ge id (liv_iff.2 ⟨_, hb⟩) with e1 | e1
  · omega
  · exact hx e1

theorem op_len {x : Operand} {t : TypeId} {args : Array Operand} {ats : Array TypeId} {n : Int} (hop : o.op = .call { callee := .builtin .len, args, argTypes := ats }) (_ha : args.toList = [x]) (_ht : ats.toList = [t])
    (hrun : (Builtin.len_ ats o.type (args.map a.eval)).run P w = .ok (goInt n) w) (h : Gm M0 base X nt β st a w)
    (hK : Goes M0 base X nt st a w o ⟨.s (.one (.v (goInt n))), [], []⟩ K) : o.wp P a w K Q := by
  refine wp_value (u := goInt n) (w' := w) ?_ (Goes.same (r := .s (.one (.v (goInt n)))) h rfl rfl hK)
  unfold execOp
  simp only [hop, resolve, invoke, builtin, Sem.run_bind, Sem.run_pure, Result.andThen_ok, hrun]

theorem op_pure {u : Value} (hs : ∀ cs b, o.op ≠ .select cs b) (hops : ∀ x ∈ o.op.operands, (sc ρ x).isSome = true) (hr : pureRun P (execOp (fun x => (sc ρ x).getD undef) o) = some (.value u)) (hρ : Low ρ st.tmps) (h : Gm M0 base X nt β st a w) {r : AV}
    (hr' : r = avOf u)
    (hK : Goes M0 base X nt st a w o ⟨r, [], []⟩ K) : o.wp P a w K Q := by
  have he : execOp a.eval o = execOp (fun x => (sc ρ x).getD undef) o := execOp_congr o hs fun x hx => by
    have := hops x hx
    cases hx' : sc ρ x with
    | none => simp [hx'] at this
    | some v => rw [h.sc hρ hx', Option.getD_some]
  have hg : ∀ (n : Nat → Bool) (M : Nat → Prop), r.okB n = true ∧ gA M β w r u := by
    intro n M
    subst hr'
    unfold avOf
    split
    · rename_i vs
      refine ⟨?_, _, rfl, ?_⟩
      · simp only [AV.okB, List.all_map, List.all_eq_true]
        exact fun x _ => okB_ofVal n x
      · have : ∀ l : List Value, gSs M β w (l.map ofVal) l := by
          intro l
          induction l with
          | nil => trivial
          | cons x l ih => exact ⟨gS_ofVal x, ih⟩
        exact this _
    · exact ⟨okB_ofVal n _, gS_ofVal _⟩
  exact wp_value (he ▸ pureRun_run hr w) (Goes.same h (hg (liv st.boxes) (Mof M0 β st.boxes)).1 (hg (liv st.boxes) (Mof M0 β st.boxes)).2 hK)

theorem foldl_put (arr cells : Array Value) (off : Nat) (h : off + cells.size ≤ arr.size) :
    (cells.zipIdx.foldl (fun cs (c, j) => cs.setIfInBounds (off + j) c) arr).toList = arr.toList.take off ++ cells.toList ++ arr.toList.drop (off + cells.size) := by
  have key : ∀ (l : List Value) (k : Nat) (arr : Array Value), off + k + l.length ≤ arr.size →
      ((l.zipIdx k).foldl (fun (cs : Array Value) (c, j) => cs.setIfInBounds (off + j) c) arr).toList = arr.toList.take (off + k) ++ l ++ arr.toList.drop (off + k + l.length) := by
    intro l
    induction l with
    | nil => intro k arr _; simp
    | cons c l ih =>
      intro k arr hl
      simp only [List.length_cons] at hl
      simp only [List.zipIdx_cons, List.foldl_cons]
      rw [ih (k + 1) _ (by simp; omega)]
      rw [Array.toList_setIfInBounds]
      apply List.ext_getElem?
      intro j
      simp only [List.append_assoc, List.getElem?_append, List.length_take, List.length_set, List.getElem?_take, List.getElem?_set, List.getElem?_drop, List.length_cons, List.getElem?_cons]
      have hli : off + k < arr.toList.length := by simp; omega
      have e1 : min (off + (k + 1)) arr.toList.length = off + k + 1 := by omega
      have e2 : min (off + k) arr.toList.length = off + k := by omega
      simp only [e1, e2]
      by_cases c1 : j < off + k
      · simp [c1, show j < off + k + 1 by omega, show ¬ off + k = j by omega, show j < off + (k + 1) by omega]
      · by_cases c2 : j = off + k
        · subst c2; simp [show off + k < off + (k + 1) by omega]; omega
        · simp only [c1, if_false, show ¬ j < off + k + 1 by omega]
          obtain ⟨q, hq⟩ : ∃ q, j - (off + k) = q + 1 := ⟨j - (off + k) - 1, by omega⟩
          have e4 : j - (off + k + 1) = q := by omega
          rw [hq, e4]
          simp only [Nat.add_lt_add_iff_right, Nat.add_sub_cancel, Nat.succ_ne_zero, if_false]
          by_cases c3 : q < l.length
          · simp [c3]
          · simp only [c3, if_false]
            rw [if_neg (by omega)]
            congr 1
            omega
  have := key cells.toList 0 arr (by simpa using h)
  rw [← Array.foldl_toList, Array.toList_zipIdx]
  simpa using this

theorem fill_run {fields : Array Field} {places : Array (Nat × Nat)} (hpl : ∀ (i : Nat) (fd : Field) (n : Nat), fields[i]? = some fd → szOf P fd.type = some n → places[i]? = some (fd.offset, n)) (hρ : Low ρ st.tmps) (h : Gm M0 base X nt β st a w) :
    ∀ {parts : List (Nat × Operand)} {ls ls' : List LV} {arr : Array Value}, fillEx P fields ρ ls parts = some ls' → gLs (Mof M0 β st.boxes) β w ls arr.toList → okLs (liv st.boxes) ls = true →
      ∃ arr', Instr.fill (places[·]?) arr (parts.map fun (i, x) => (i, a.eval x)) = some arr' ∧ gLs (Mof M0 β st.boxes) β w ls' arr'.toList ∧ okLs (liv st.boxes) ls' = true
  | [], ls, ls', arr, hf, hl, hok => by
    simp only [fillEx, Option.some.injEq] at hf
    subst hf
    exact ⟨arr, rfl, hl, hok⟩
  | (i, x) :: rest, ls, ls', arr, hf, hl, hok => by
    simp only [fillEx] at hf
    split at hf
    · rename_i fd y e1 e2
      split at hf
      · rename_i n e3
        rw [Bool.cond_eq_ite] at hf
        split at hf
        · rename_i hc
          simp only [Bool.and_eq_true] at hc
          obtain ⟨⟨hc0, hc1⟩, hc2⟩ := hc
          have hc1 : (cellsOf y).length = n := Nat.eq_of_beq_eq_true hc1
          have hc2 : fd.offset + n ≤ ls.length := Nat.le_of_ble_eq_true hc2
          obtain ⟨hoky, hgy⟩ := h.ev hρ e2
          have hcells := gS_cells hgy hc0
          have hlen : (a.eval x).cells.size = n := by have := hcells.length; simp at this; omega
          have hsz := hl.arr_get
          have hx1 : gLs (Mof M0 β st.boxes) β w (ls.take fd.offset ++ cellsOf y ++ ls.drop (fd.offset + n)) ((a.eval x).cells.zipIdx.foldl (fun cs (c, j) => cs.setIfInBounds (fd.offset + j) c) arr).toList := by
            rw [foldl_put arr (a.eval x).cells fd.offset (by omega), hlen]
            exact gLs.put fd.offset (fd.offset + n) hl hcells
          have hx2 : okLs (liv st.boxes) (ls.take fd.offset ++ cellsOf y ++ ls.drop (fd.offset + n)) = true := by
            have hz := okLs_cells hoky
            simp only [okLs, List.all_append, Bool.and_eq_true]
            simp only [okLs, List.all_eq_true] at hz hok ⊢
            exact ⟨⟨fun l hl => hok l (List.mem_of_mem_take hl), hz⟩, fun l hl => hok l (List.mem_of_mem_drop hl)⟩
          obtain ⟨arr', h1, h2, h3⟩ := fill_run hpl hρ h hf hx1 hx2
          refine ⟨arr', ?_, h2, h3⟩
          simp only [List.map_cons, Instr.fill, hpl i fd n e1 e3]
          rw [if_neg (by simp [hlen]; omega)]
          exact h1
        · cases hf
      · cases hf
    · cases hf

theorem op_build {t : TypeId} {parts : Array (Nat × Operand)} {z : Value} {fields : Array Field} {ls : List LV} (hop : o.op = .build t parts) (hz : (P.info? t).bind (·.zero) = some z) (ht : P.underlying t = some (.struct fields)) (hsz : (fields.toList.all fun fd => (szOf P fd.type).isSome) = true)
    (hf : fillEx P fields ρ (z.cells.toList.map LV.v) parts.toList = some ls) (hρ : Low ρ st.tmps) (h : Gm M0 base X nt β st a w)
    (hK : Goes M0 base X nt st a w o ⟨.s (.agg ls), [], []⟩ K) : o.wp P a w K Q := by
  let places : Array (Nat × Nat) := fields.map fun f => (f.offset, (szOf P f.type).getD 0)
  have hpl : ∀ (i : Nat) (fd : Field) (n : Nat), fields[i]? = some fd → szOf P fd.type = some n → places[i]? = some (fd.offset, n) := by
    intro i fd n h1 h2
    simp [places, h1, h2]
  have hplaces : (fields.mapM fun f => (do pure (f.offset, ← Go.sizeOf f.type) : Sem (Nat × Nat))).run P w = .ok places w := by
    have key : ∀ l : List Field, (∀ f ∈ l, (szOf P f.type).isSome = true) → (l.mapM fun f => (do pure (f.offset, ← Go.sizeOf f.type) : Sem (Nat × Nat))).run P w = .ok (l.map fun f => (f.offset, (szOf P f.type).getD 0)) w := by
      intro l
      induction l with
      | nil => intro _; rfl
      | cons f l ih =>
        intro hall
        obtain ⟨n, hn⟩ := Option.isSome_iff_exists.1 (hall f (List.mem_cons_self ..))
        simp only [List.mapM_cons, Sem.run_bind, szOf_run hn w, Result.andThen_ok, Sem.run_pure, ih (fun f' hf' => hall f' (List.mem_cons_of_mem _ hf')), hn, List.map_cons, Option.getD_some]
    obtain ⟨l⟩ := fields
    rw [List.mapM_toArray]
    simp only [Sem.run_map]
    rw [key l (fun f hf => by
      exact List.all_eq_true.1 hsz f (by simpa using hf))]
    simp [places]
  obtain ⟨arr', h1, h2, h3⟩ := fill_run hpl hρ h hf (arr := z.cells) (gLs_vals _) (okLs_vals _ _)
  refine wp_value (u := .agg arr') (w' := w) ?_ (Goes.same (r := .s (.agg ls)) h h3 ⟨_, rfl, h2⟩ hK)
  cases hi : P.info? t with
  | none => simp [hi] at hz
  | some i =>
    simp only [hi, Option.bind_some] at hz
    have hp : (parts.map fun (i, x) => (i, a.eval x)).toList = parts.toList.map fun (i, x) => (i, a.eval x) := by simp
    unfold execOp
    simp only [hop, Instr.build, zeroValue, typeInfo, Sem.run_bind, run_program, Result.andThen_ok, hi, hz, Sem.run_pure, run_underlying ht, hplaces, hp, h1]

end
end Go.Proofs.YtkfdnpbpebmhaaaGreatDoor.Sx
namespace Go.Proofs.YtkfdnpbpebmhaaaGreatDoor.Sx
open Go Go.RowKit
section
variable {P : Program} {S : FuncId → Option Ctr} {G : Nat → Bool} {M0 X : Nat → Prop} {base nt : Nat} {β : Nat → Nat} {st : St} {a : Act} {w : World} {ρ : Nat → Option AV} {B : Nat → Option Box} {o : Oper} {K : Act → World → Prop} {Q : Exit → Act → World → Prop}

theorem op_indexSl {t e : TypeId} {x i : Operand} {k' : IntKind} {id off len cap : Nat} {n : Int} (hop : o.op = .indexAddr t x i) (hρ : Low ρ st.tmps) (hx : ev ρ x = some (.s (.one (.sl id off len cap)))) (hi : sc ρ i = some (.int k' n)) (ht : P.underlying t = some (.slice e)) (hz : szOf P e = some 1) (h0 : 0 ≤ n) (h1 : n < len) (h : Gm M0 base X nt β st a w)
    (hK : Goes M0 base X nt st a w o ⟨.s (.one (.ptr id (off + n.toNat))), [], [0 ≤ n ∧ n < len]⟩ K) : o.wp P a w K Q := by
  obtain ⟨hok, he⟩ := h.ev hρ hx
  have he : a.eval x = .slice (some ⟨β id, off, none⟩) len cap := he
  have hi' := h.sc hρ hi
  refine wp_value (u := .pointer (some ⟨β id, off + n.toNat, none⟩)) (w' := w) ?_ (Goes.same (r := .s (.one (.ptr id (off + n.toNat)))) h hok rfl hK)
  unfold execOp
  simp only [hop, Instr.indexAt, he, hi', asIntOf, Sem.run_bind, Sem.run_pure, Result.andThen_ok, run_underlying ht]
  simp only [h0, h1, and_self, if_true, Sem.run_bind, Sem.run_pure, Result.andThen_ok, szOf_run hz w, Nat.mul_one, addr_add]

theorem op_indexArr {t e : TypeId} {x i : Operand} {k' : IntKind} {id off len m : Nat} {n : Int} (hop : o.op = .indexAddr t x i) (hρ : Low ρ st.tmps) (hx : ev ρ x = some (.s (.one (.ptr id off)))) (hi : sc ρ i = some (.int k' n)) (ht : P.underlying t = some (.array len e)) (hz : szOf P e = some m) (h0 : 0 ≤ n) (h1 : n < len) (h : Gm M0 base X nt β st a w)
    (hK : Goes M0 base X nt st a w o ⟨.s (.one (.ptr id (off + n.toNat * m))), [], [0 ≤ n ∧ n < len]⟩ K) : o.wp P a w K Q := by
  obtain ⟨hok, he⟩ := h.ev hρ hx
  have he : a.eval x = .pointer (some ⟨β id, off, none⟩) := he
  have hi' := h.sc hρ hi
  refine wp_value (u := .pointer (some ⟨β id, off + n.toNat * m, none⟩)) (w' := w) ?_ (Goes.same (r := .s (.one (.ptr id (off + n.toNat * m)))) h hok rfl hK)
  unfold execOp
  simp only [hop, Instr.indexAt, Instr.sureAddr, he, hi', asIntOf, Sem.run_bind, Sem.run_pure, Result.andThen_ok, run_underlying ht]
  simp only [h0, h1, and_self, if_true, Sem.run_bind, Sem.run_pure, Result.andThen_ok, szOf_run hz w, addr_add]

theorem op_indexVal {t e : TypeId} {x i : Operand} {k' : IntKind} {len m : Nat} {n : Int} {ls : List LV} {r : SV} (hop : o.op = .index t x i) (hρ : Low ρ st.tmps) (hx : ev ρ x = some (.s (.agg ls))) (hi : sc ρ i = some (.int k' n)) (ht : P.underlying t = some (.array len e)) (hz : szOf P e = some m) (hr : partOf P e ls (n.toNat * m) = some r) (h0 : 0 ≤ n) (h1 : n < len) (h : Gm M0 base X nt β st a w)
    (hK : Goes M0 base X nt st a w o ⟨.s r, [], [0 ≤ n ∧ n < len]⟩ K) : o.wp P a w K Q := by
  obtain ⟨hok, arr, he, hl⟩ := h.ev hρ hx
  have hi' := h.sc hρ hi
  obtain ⟨u, hrun, hgu, hoku⟩ := part_run hl hr
  refine wp_value (u := u) (w' := w) ?_ (Goes.same (r := .s r) h (hoku _ hok) hgu hK)
  unfold execOp
  simp only [hop, Instr.index, he, hi', asIntOf, Sem.run_bind, Sem.run_pure, Result.andThen_ok, run_underlying ht]
  simp only [h0, h1, and_self, if_true, Sem.run_bind, Result.andThen_ok, szOf_run hz w, hrun]

theorem op_indexStr {t : TypeId} {x i : Operand} {k' : IntKind} {n : Int} {s : ByteArray} (hop : o.op = .index t x i) (hρ : Low ρ st.tmps) (hx : ev ρ x = some (.s (.one (.v (.string s))))) (hi : sc ρ i = some (.int k' n)) (ht : P.underlying t = some .string) (h0 : 0 ≤ n) (h1 : n < s.size) (h : Gm M0 base X nt β st a w)
    (hK : Goes M0 base X nt st a w o ⟨.s (.one (.v (.int .u8 (o_byte s n.toNat)))), [], [0 ≤ n ∧ n < s.size]⟩ K) : o.wp P a w K Q := by
  obtain ⟨hok, he⟩ := h.ev hρ hx
  have he : a.eval x = .string s := he
  have hi' := h.sc hρ hi
  obtain ⟨b, hb⟩ : ∃ b, s[n.toNat]? = some b := ⟨s[n.toNat]'(by omega), by rw [getElem?_pos]⟩
  refine wp_value (u := .int .u8 (o_byte s n.toNat)) (w' := w) ?_ (Goes.same (r := .s (.one (.v (.int .u8 (o_byte s n.toNat))))) h rfl rfl hK)
  unfold execOp o_byte
  simp only [hop, Instr.index, he, hi', asIntOf, Sem.run_bind, Sem.run_pure, Result.andThen_ok, run_underlying ht, h0, if_true, hb, Option.map_some, Option.getD_some]

theorem op_bin {bop : BinOp} {xt yt : TypeId} {x y : Operand} {k k' : IntKind} {m n r : Int} {ps : List Prop} (hop : o.op = .binOp bop xt x y yt) (hρ : Low ρ st.tmps) (hx : sc ρ x = some (.int k m)) (hy : sc ρ y = some (.int k' n))
    (hrun : (do eqGuard bop xt x y (.int k m) (.int k' n); binOp bop xt (.int k m) (.int k' n) : Sem Value).run P w = .ok (.int k r) w) (h : Gm M0 base X nt β st a w)
    (hK : Goes M0 base X nt st a w o ⟨.s (.one (.v (.int k r))), [], ps⟩ K) : o.wp P a w K Q := by
  have hx' := h.sc hρ hx
  have hy' := h.sc hρ hy
  refine wp_value (u := .int k r) (w' := w) ?_ (Goes.same (r := .s (.one (.v (.int k r)))) h rfl rfl hK)
  unfold execOp
  simp only [hop, hx', hy']
  rw [Sem.run_bind, hrun]
  simp

theorem eqNil_run {t e : TypeId} (ht : P.underlying t = some (.slice e)) (ad : Addr) (n c : Nat) : (Op.equal t (.slice (some ad) n c) (.slice none 0 0)).run P w = .ok false w := by
  have h : ∀ d, (Op.equalIn (d + 1) t (.slice (some ad) n c) (.slice none 0 0)).run P w = .ok false w := by
    intro d
    unfold Op.equalIn
    rw [Sem.run_bind, run_underlying ht]
    rfl
  obtain ⟨d, hd⟩ : ∃ d, Op.maxDepth = d + 1 := ⟨Op.maxDepth - 1, by decide⟩
  unfold Op.equal
  rw [hd]
  exact h d
theorem binEqNil {t e : TypeId} (ht : P.underlying t = some (.slice e)) (ad : Addr) (n c : Nat) (x y : Operand) : (do eqGuard .eql t x y (.slice (some ad) n c) (.slice none 0 0); binOp .eql t (.slice (some ad) n c) (.slice none 0 0) : Sem Value).run P w = .ok (.bool false) w := by
  have h1 : (eqGuard .eql t x y (.slice (some ad) n c) (.slice none 0 0)).run P w = .ok () w := rfl
  have h2 : binOp .eql t (.slice (some ad) n c) (.slice none 0 0) = (do pure (.bool (← Op.equal t (.slice (some ad) n c) (.slice none 0 0)))) := rfl
  rw [Sem.run_bind, h1, h2]
  simp only [Result.andThen_ok, Sem.run_bind, eqNil_run ht, Sem.run_pure]
theorem op_eqNil {t yt e : TypeId} {x : Operand} {k : EK} {xs : List Int} (hop : o.op = .binOp .eql t x (.const (.slice none 0 0)) yt) (hρ : Low ρ st.tmps) (hx : ev ρ x = some (.s (.one (.row k xs)))) (ht : P.underlying t = some (.slice e)) (h0 : 0 < xs.length) (h : Gm M0 base X nt β st a w)
    (hK : Goes M0 base X nt st a w o ⟨.s (.one (.v (.bool false))), [], [0 < xs.length]⟩ K) : o.wp P a w K Q := by
  obtain ⟨hok, A, c, he, hc, hmx, hrd⟩ := h.ev hρ hx
  obtain ⟨ad, rfl, _⟩ := hrd w (fun _ _ _ => rfl) h0
  refine wp_value (u := .bool false) (w' := w) ?_ (Goes.same (r := .s (.one (.v (.bool false)))) h rfl rfl hK)
  unfold execOp
  simp only [hop, he]
  rw [Sem.run_bind]
  have := binEqNil (w := w) ht ad xs.length c x (.const (.slice none 0 0))
  rw [show a.eval (.const (.slice none 0 0)) = .slice none 0 0 from rfl, this]
  rfl

theorem RdI.take {M : Nat → Prop} {k : EK} {xs : List Int} {A : Option Addr} {c n m : Nat} (h : RdI M w k xs (.slice A xs.length c)) (hn : n ≤ xs.length) (hnm : n ≤ m) : RdI M w k (xs.take n) (.slice A n m) := by
  obtain ⟨A', c', e, h1, h2, h3⟩ := h
  simp only [Value.slice.injEq] at e
  obtain ⟨rfl, -, rfl⟩ := e
  have hl : (xs.take n).length = n := by simp; omega
  refine ⟨A, m, by rw [hl], by rw [hl]; exact hnm, by rw [hl]; omega, fun W' hW h0 => ?_⟩
  rw [hl] at h0
  obtain ⟨ad, e1, e2⟩ := h3 W' hW (by omega)
  refine ⟨ad, e1, fun j hj => ?_⟩
  rw [hl] at hj
  rw [e2 j (by omega)]
  simp [List.getD, hj]

theorem op_sliceRow {t e : TypeId} {x hi : Operand} {k : EK} {k' : IntKind} {xs : List Int} {n : Int} (hop : o.op = .slice t x none (some hi) none) (hρ : Low ρ st.tmps) (hx : ev ρ x = some (.s (.one (.row k xs)))) (hh : sc ρ hi = some (.int k' n)) (ht : P.underlying t = some (.slice e)) {sz : Nat} (hz : szOf P e = some sz) (h0 : 0 ≤ n) (h1 : n ≤ xs.length) (h : Gm M0 base X nt β st a w)
    (hK : Goes M0 base X nt st a w o ⟨.s (.one (.row k (xs.take n.toNat))), [], [0 ≤ n ∧ n ≤ xs.length]⟩ K) : o.wp P a w K Q := by
  obtain ⟨hok, hrd⟩ := h.ev hρ hx
  have hrd : RdI (Mof M0 β st.boxes) w k xs (a.eval x) := hrd
  have hh' := h.sc hρ hh
  obtain ⟨A, c, he, hc, _, _⟩ := hrd
  have h2 : (n.toNat : Int) = n := by omega
  refine wp_value (u := .slice A n.toNat c) (w' := w) ?_ (Goes.same (r := .s (.one (.row k (xs.take n.toNat)))) h rfl (RdI.take (A := A) (c := c) (he ▸ (h.ev hρ hx).2) (by omega) (by omega)) hK)
  have hnc : n ≤ (c : Int) := by omega
  unfold execOp
  simp only [hop, Option.map_some, Option.map_none, Instr.sliceAt, Instr.slice, he, hh', Instr.sliceBounds, Instr.sliceBound, asIntOf, Sem.run_bind, Sem.run_pure, Result.andThen_ok, run_underlying ht, Sem.run_ite, h0, hnc, and_self, if_true, szOf_run hz w, Nat.sub_zero, Nat.zero_mul]
  congr 2
  split
  · rfl
  · cases A with
    | none => rfl
    | some ad => simp [Addr.add]

theorem op_sliceRow3 {t e : TypeId} {x hi mx : Operand} {k : EK} {k' k'' : IntKind} {xs : List Int} {n m : Int} (hop : o.op = .slice t x none (some hi) (some mx)) (hρ : Low ρ st.tmps) (hx : ev ρ x = some (.s (.one (.row k xs)))) (hh : sc ρ hi = some (.int k' n)) (hm : sc ρ mx = some (.int k'' m)) (ht : P.underlying t = some (.slice e)) {sz : Nat} (hz : szOf P e = some sz) (h0 : 0 ≤ n) (h1 : n ≤ m) (h1' : m ≤ xs.length) (h : Gm M0 base X nt β st a w)
    (hK : Goes M0 base X nt st a w o ⟨.s (.one (.row k (xs.take n.toNat))), [], [0 ≤ n ∧ n ≤ m ∧ m ≤ xs.length]⟩ K) : o.wp P a w K Q := by
  obtain ⟨hok, hrd⟩ := h.ev hρ hx
  have hrd : RdI (Mof M0 β st.boxes) w k xs (a.eval x) := hrd
  have hh' := h.sc hρ hh
  have hm' := h.sc hρ hm
  obtain ⟨A, c, he, hc, _, _⟩ := hrd
  refine wp_value (u := .slice A n.toNat m.toNat) (w' := w) ?_ (Goes.same (r := .s (.one (.row k (xs.take n.toNat)))) h rfl (RdI.take (A := A) (c := c) (he ▸ (h.ev hρ hx).2) (by omega) (by omega)) hK)
  have hmc : 0 ≤ m ∧ m ≤ (c : Int) := by omega
  have hnm : 0 ≤ n ∧ n ≤ (m.toNat : Int) := by omega
  unfold execOp
  simp only [hop, Option.map_some, Option.map_none, Instr.sliceAt, Instr.slice, he, hh', hm', Instr.sliceBounds, Instr.sliceBound, asIntOf, Sem.run_bind, Sem.run_pure, Result.andThen_ok, run_underlying ht, Sem.run_ite, hmc, hnm, and_self, if_true, szOf_run hz w, Nat.sub_zero, Nat.zero_mul]
  congr 2
  split
  · rfl
  · cases A with
    | none => rfl
    | some ad => simp [Addr.add]

theorem op_sliceSl {t e : TypeId} {x lo hi : Operand} {k1 k2 : IntKind} {id off len cap : Nat} {l n : Int} (hop : o.op = .slice t x (some lo) (some hi) none) (hρ : Low ρ st.tmps) (hx : ev ρ x = some (.s (.one (.sl id off len cap)))) (hl : sc ρ lo = some (.int k1 l)) (hh : sc ρ hi = some (.int k2 n)) (ht : P.underlying t = some (.slice e)) (hz : szOf P e = some 1) (h0 : 0 ≤ l) (h1 : l ≤ n) (h2 : n ≤ cap) (h3 : l < cap) (h : Gm M0 base X nt β st a w)
    (hK : Goes M0 base X nt st a w o ⟨.s (.one (.sl id (off + l.toNat) (n.toNat - l.toNat) (cap - l.toNat))), [], [0 ≤ l ∧ l ≤ n ∧ n ≤ cap ∧ l < cap]⟩ K) : o.wp P a w K Q := by
  obtain ⟨hok, he⟩ := h.ev hρ hx
  have he : a.eval x = .slice (some ⟨β id, off, none⟩) len cap := he
  have hh' := h.sc hρ hh
  have hl' := h.sc hρ hl
  refine wp_value (u := .slice (some ⟨β id, off + l.toNat, none⟩) (n.toNat - l.toNat) (cap - l.toNat)) (w' := w) ?_ (Goes.same (r := .s (.one (.sl id (off + l.toNat) (n.toNat - l.toNat) (cap - l.toNat)))) h hok rfl hK)
  have hn : 0 ≤ n ∧ n ≤ (cap : Int) := by omega
  have hln : 0 ≤ l ∧ l ≤ (n.toNat : Int) := by omega
  have hne : ¬ cap = l.toNat := by omega
  unfold execOp
  simp only [hop, Option.map_some, Option.map_none, Option.isSome_none, Bool.false_eq_true, Instr.sliceAt, Instr.slice, he, hh', hl', Instr.sliceBounds, Instr.sliceBound, asIntOf, Sem.run_bind, Sem.run_pure, Result.andThen_ok, run_underlying ht, Sem.run_ite, hn, hln, and_self, if_true, szOf_run hz w, hne, if_false, Option.map_some, Nat.mul_one, addr_add]

theorem intElem_some {t e : TypeId} {k : EK} (h : intElem P t = some (e, k)) : P.underlying t = some (.slice e) ∧ True ∧ (∃ i, P.info? e = some i ∧ i.zero = some (mkV k 0) ∧ i.size = 1) := by
  unfold intElem at h
  split at h
  · rename_i e' hu
    split at h
    · rename_i k1 k2 n h1 h2 h3
      rw [Bool.cond_eq_ite] at h
      split at h
      · rename_i hk
        rw [Bool.and_eq_true, kEq_iff] at hk
        obtain ⟨hk, hn⟩ := hk
        have hn := Nat.eq_of_beq_eq_true hn
        subst hn
        simp only [Option.some.injEq, Prod.mk.injEq] at h
        obtain ⟨rfl, rfl⟩ := h
        subst hk
        refine ⟨hu, trivial, ?_⟩
        rw [mkV_ofK]
        unfold szOf at h3
        cases hi : P.info? e' with
        | none => simp [hi] at h2
        | some i => exact ⟨i, rfl, by simpa [hi] using h2, by simpa [hi] using h3⟩
      · cases h
    · rename_i h1 h2 h3
      simp only [Option.some.injEq, Prod.mk.injEq] at h
      obtain ⟨rfl, rfl⟩ := h
      refine ⟨hu, trivial, ?_⟩
      unfold szOf at h3
      cases hi : P.info? e' with
      | none => simp [hi] at h2
      | some i =>
        have hz : i.zero = some (.string ⟨⟨[]⟩⟩) := by simpa [hi] using h2
        exact ⟨i, rfl, by rw [hz]; rfl, by simpa [hi] using h3⟩
    · cases h
  · cases h
theorem op_makeSlice {t e : TypeId} {ln cp : Operand} {k : EK} {n c : Int} {d : Nat} {i : TypeInfo} (hop : o.op = .makeSlice t ln cp) (hρ : Low ρ st.tmps) (he : intElem P t = some (e, k)) (hn : sc ρ ln = some (.int .i64 n)) (hc : sc ρ cp = some (.int .i64 c)) (hi : P.info? e = some i) (hd : lk st.boxes d = none)
    (h0 : 0 ≤ n) (h1 : n ≤ c) (h2' : i.bytes ≤ 16) (h3 : c ≤ 1099511627776) (h : Gm M0 base X nt β st a w)
    (hK : Goes M0 base X nt st a w o ⟨.s (.one (.sl d 0 n.toNat c.toNat)), [(d, ⟨e, .ints k (List.replicate c.toNat 0), true⟩)], [0 ≤ n ∧ n ≤ c ∧ c ≤ 1099511627776]⟩ K) : o.wp P a w K Q := by
  have h2 : c * i.bytes ≤ 17592186044416 := by
    have : c * (i.bytes : Int) ≤ c * 16 := Int.mul_le_mul_of_nonneg_left (by omega) (by omega)
    omega
  obtain ⟨ht, _, i', hi', hz, hs⟩ := intElem_some he
  rw [hi] at hi'
  cases hi'
  have hn' := h.sc hρ hn
  have hc' := h.sc hρ hc
  obtain ⟨arr, harr⟩ : ∃ arr : Array Value, arr = (List.replicate c.toNat (mkV k 0)).toArray := ⟨_, rfl⟩
  have hl : arr.toList = (List.replicate c.toNat 0).map (mkV k) := by rw [harr]; simp
  obtain ⟨β', hβn, hΓ⟩ := h.alloc hd e (.ints k (List.replicate c.toNat 0)) arr rfl hl
  have hrun : (execOp a.eval o).run P w = .ok (.value (.slice (some ⟨w.heap.size, 0, none⟩) n.toNat c.toNat)) (w.alloc (.cells arr e (0, 0))) := by
    have wl : IntKind.i64.wrap n = n := by rw [IntKind.wrap_i64]; omega
    have wc : IntKind.i64.wrap c = c := by rw [IntKind.wrap_i64]; omega
    have hcomm : (i.bytes : Int) * c = c * i.bytes := Int.mul_comm _ _
    have n1 : ¬ c < 0 := by omega
    have n2 : ¬ (281474976710656 < (i.bytes : Int) * c) := by omega
    have n3 : ¬ n < 0 := by omega
    have n4 : ¬ c < n := by omega
    have n5 : ¬ (140737488355328 < c.toNat * i.bytes) := by
      have : ((c.toNat * i.bytes : Nat) : Int) = c * i.bytes := by rw [Int.natCast_mul, Int.toNat_of_nonneg (by omega)]
      omega
    unfold execOp
    by_cases hn0 : c.toNat = 0
    · have ea : arr = #[] := by rw [harr, hn0]; rfl
      have er : ∀ g : Nat → Value, Array.map g (Array.range 0) = #[] := fun _ => Array.eq_empty_of_size_eq_zero (by simp)
      simp [hop, hn', hc', Instr.makeSlice, run_underlying ht, asInt, asIntOf, typeInfo, hi, sizeOf, wl, wc, n1, n2, n3, n4, hn0, newRow, askRoom, roomBytes, ea, er]
    · have ea : (Array.range (c.toNat * 1)).map ((fun x => (#[mkV k 0] : Array Value)[x % (#[mkV k 0] : Array Value).size]!)) = arr := by
        rw [harr]
        apply Array.toList_inj.1
        simp
        apply List.ext_getElem
        · simp
        · intro j h1 h2; simp [Nat.mod_one]
      simp [hop, hn', hc', Instr.makeSlice, run_underlying ht, asInt, asIntOf, typeInfo, hi, sizeOf, zeroValue, hz, hs, mkV_cells, wl, wc, n1, n2, n3, n4, hn0, newRow, askRoom, roomBytes] at ea ⊢
      rw [ea]
  refine wp_value hrun (hK _ _ β' (Bel.of_below ((Below.refl _ _).alloc h.base_le _) (Nat.le_refl _)) ?_ ?_ hΓ)
  · simp [AV.okB, SV.okB, LV.okB, liv, lk_cons]
  · simp only [gA, gS, gL, hβn]

theorem partInts_fill (hρ : Low ρ st.tmps) (h : Gm M0 base X nt β st a w) {k : EK} : ∀ {parts : List (Nat × Operand)} {n : Nat} {vs : List Int} {cells : Array Value}, partInts k ρ n parts = some vs → n + vs.length ≤ cells.size →
    ∃ cells', Instr.fill (fun i => some (i * 1, 1)) cells (parts.map fun (i, x) => (i, a.eval x)) = some cells' ∧ cells'.toList = cells.toList.take n ++ vs.map (mkV k) ++ cells.toList.drop (n + vs.length)
  | [], n, vs, cells, hp, hl => by
    simp only [partInts, Option.some.injEq] at hp
    subst hp
    exact ⟨cells, rfl, by simp⟩
  | (i, x) :: rest, n, vs, cells, hp, hl => by
    simp only [partInts] at hp
    split at hp
    · rename_i k' v vs' e1 e2
      rw [Bool.cond_eq_ite] at hp
      split at hp
      · rename_i hc
        simp only [Bool.and_eq_true, eEq_iff] at hc
        obtain ⟨hc1, rfl⟩ := hc
        have hin := Nat.eq_of_beq_eq_true hc1
        subst hin
        simp only [Option.some.injEq] at hp
        subst hp
        simp only [List.length_cons] at hl
        obtain ⟨q, hq1, hq2⟩ := Option.bind_eq_some_iff.1 e1
        have hx := (h.sc hρ hq1).trans (unV_mk hq2)
        obtain ⟨cells', h1, h2⟩ := partInts_fill hρ h (cells := cells.setIfInBounds i (mkV k' v)) e2 (by simp; omega)
        refine ⟨cells', ?_, ?_⟩
        · have hs1 : (a.eval x).cells.size = 1 := by rw [hx, mkV_cells]; rfl
          simp only [List.map_cons, Instr.fill]
          rw [if_neg (by simp [hs1]; omega), hx]
          simpa [mkV_cells] using h1
        · rw [h2, Array.toList_setIfInBounds]
          apply List.ext_getElem?
          intro j
          have hli : i < cells.toList.length := by simp; omega
          simp only [List.append_assoc, List.getElem?_append, List.length_take, List.length_set, List.getElem?_take, List.getElem?_set, List.getElem?_drop, List.length_map, List.map_cons, List.length_cons, List.getElem?_cons]
          have e3 : min (i + 1) cells.toList.length = i + 1 := by omega
          have e4 : min i cells.toList.length = i := by omega
          simp only [e3, e4]
          by_cases c1 : j < i
          · simp [c1, show j < i + 1 by omega, show ¬ i = j by omega]
          · by_cases c2 : j = i
            · subst c2; simp; omega
            · simp only [c1, if_false, show ¬ j < i + 1 by omega]
              obtain ⟨q, hq⟩ : ∃ q, j - i = q + 1 := ⟨j - i - 1, by omega⟩
              have e5 : j - (i + 1) = q := by omega
              rw [hq, e5]
              simp only [Nat.add_lt_add_iff_right, Nat.add_sub_cancel, Nat.succ_ne_zero, if_false]
              by_cases c3 : q < vs'.length
              · simp [c3]
              · simp only [c3, if_false]
                rw [if_neg (by omega)]
                congr 1
                omega
      · cases hp
    · cases hp

theorem op_buildSlice {t e : TypeId} {k : EK} {n d : Nat} {parts : Array (Nat × Operand)} {vs : List Int} (hop : o.op = .buildSlice t n parts) (hρ : Low ρ st.tmps) (he : intElem P t = some (e, k)) (hp : partInts k ρ 0 parts.toList = some vs) (hd : lk st.boxes d = none) (hn : vs.length = n) (hn' : n ≤ 1000) (h : Gm M0 base X nt β st a w)
    (hK : Goes M0 base X nt st a w o ⟨.s (.one (.sl d 0 n n)), [(d, ⟨e, .ints k vs, true⟩)], []⟩ K) : o.wp P a w K Q := by
  obtain ⟨ht, _, i, hi, hz, hs⟩ := intElem_some he
  obtain ⟨arr, harr⟩ : ∃ arr : Array Value, arr = (List.map (mkV k) vs).toArray := ⟨_, rfl⟩
  have hl : arr.toList = vs.map (mkV k) := by rw [harr]
  obtain ⟨β', hβn, hΓ⟩ := h.alloc hd e (.ints k vs) arr rfl hl
  have hpl : (parts.map fun (i, x) => (i, a.eval x)).toList = parts.toList.map fun (i, x) => (i, a.eval x) := by simp
  have hfill : ∀ cells : Array Value, cells.size = n → Instr.fill (fun i => some (i * 1, 1)) cells (parts.toList.map fun (i, x) => (i, a.eval x)) = some arr := by
    intro cells hsz
    obtain ⟨cells', h1, h2⟩ := partInts_fill hρ h (cells := cells) hp (by omega)
    rw [h1]
    congr 1
    apply Array.toList_inj.1
    rw [h2, hl]
    simp
    omega
  have hrun : (execOp a.eval o).run P w = .ok (.value (.slice (some ⟨w.heap.size, 0, none⟩) n n)) (w.alloc (.cells arr e (0, 0))) := by
    have n1 : ¬ (16777216 < n) := by omega
    unfold execOp
    by_cases hn0 : n = 0
    · have := hfill #[] (by simp [hn0])
      have er : ∀ g : Nat → Value, Array.map g (Array.range 0) = #[] := fun _ => Array.eq_empty_of_size_eq_zero (by simp)
      simp [er, hop, Instr.buildSlice, run_underlying ht, sizeOf, typeInfo, hi, hs, hn0, newRow] at this ⊢
      rw [this]
      simp []
    · have := hfill ((Array.range n).map ((fun x => (#[mkV k 0] : Array Value)[x % (#[mkV k 0] : Array Value).size]!))) (by simp)
      simp [hop, Instr.buildSlice, run_underlying ht, sizeOf, typeInfo, hi, hs, hn0, n1, zeroValue, hz, mkV_cells, newRow] at this ⊢
      rw [this]
      simp []
  refine wp_value hrun (hK _ _ β' (Bel.of_below ((Below.refl _ _).alloc h.base_le _) (Nat.le_refl _)) ?_ ?_ hΓ)
  · simp [AV.okB, SV.okB, LV.okB, liv, lk_cons]
  · simp only [gA, gS, gL, hβn]

theorem fillArr_run (hρ : Low ρ st.tmps) (h : Gm M0 base X nt β st a w) {size : Nat} :
    ∀ {parts : List (Nat × Operand)} {ls ls' : List LV} {arr : Array Value}, fillArr size ρ ls parts = some ls' → gLs (Mof M0 β st.boxes) β w ls arr.toList → okLs (liv st.boxes) ls = true →
      ∃ arr', Instr.fill (fun i => some (i * size, size)) arr (parts.map fun (i, x) => (i, a.eval x)) = some arr' ∧ gLs (Mof M0 β st.boxes) β w ls' arr'.toList ∧ okLs (liv st.boxes) ls' = true
  | [], ls, ls', arr, hf, hl, hok => by
    simp only [fillArr, Option.some.injEq] at hf
    subst hf
    exact ⟨arr, rfl, hl, hok⟩
  | (i, x) :: rest, ls, ls', arr, hf, hl, hok => by
    simp only [fillArr] at hf
    split at hf
    · rename_i y e2
      rw [Bool.cond_eq_ite] at hf
      split at hf
      · rename_i hc
        simp only [Bool.and_eq_true] at hc
        obtain ⟨⟨hc0, hc1⟩, hc2⟩ := hc
        have hc1 : (cellsOf y).length = size := Nat.eq_of_beq_eq_true hc1
        have hc2 : i * size + size ≤ ls.length := Nat.le_of_ble_eq_true hc2
        obtain ⟨hoky, hgy⟩ := h.ev hρ e2
        have hcells := gS_cells hgy hc0
        have hlen : (a.eval x).cells.size = size := by have := hcells.length; simp at this; omega
        have hsz := hl.arr_get
        have hx1 : gLs (Mof M0 β st.boxes) β w (ls.take (i * size) ++ cellsOf y ++ ls.drop (i * size + size)) ((a.eval x).cells.zipIdx.foldl (fun cs (c, j) => cs.setIfInBounds (i * size + j) c) arr).toList := by
          rw [foldl_put arr (a.eval x).cells (i * size) (by omega), hlen]
          exact gLs.put (i * size) (i * size + size) hl hcells
        have hx2 : okLs (liv st.boxes) (ls.take (i * size) ++ cellsOf y ++ ls.drop (i * size + size)) = true := by
          have hz := okLs_cells hoky
          simp only [okLs, List.all_append, Bool.and_eq_true]
          simp only [okLs, List.all_eq_true] at hz hok ⊢
          exact ⟨⟨fun l hl => hok l (List.mem_of_mem_take hl), hz⟩, fun l hl => hok l (List.mem_of_mem_drop hl)⟩
        obtain ⟨arr', h1, h2, h3⟩ := fillArr_run hρ h hf hx1 hx2
        refine ⟨arr', ?_, h2, h3⟩
        simp only [List.map_cons, Instr.fill]
        rw [if_neg (by simp [hlen]; omega)]
        exact h1
      · cases hf
    · cases hf

theorem op_buildArr {t e : TypeId} {parts : Array (Nat × Operand)} {z : Value} {len n : Nat} {ls : List LV} (hop : o.op = .build t parts) (hz : (P.info? t).bind (·.zero) = some z) (ht : P.underlying t = some (.array len e)) (hs : szOf P e = some n)
    (hf : fillArr n ρ (z.cells.toList.map LV.v) parts.toList = some ls) (hρ : Low ρ st.tmps) (h : Gm M0 base X nt β st a w)
    (hK : Goes M0 base X nt st a w o ⟨.s (.agg ls), [], []⟩ K) : o.wp P a w K Q := by
  obtain ⟨arr', h1, h2, h3⟩ := fillArr_run hρ h hf (arr := z.cells) (gLs_vals _) (okLs_vals _ _)
  refine wp_value (u := .agg arr') (w' := w) ?_ (Goes.same (r := .s (.agg ls)) h h3 ⟨_, rfl, h2⟩ hK)
  cases hi : P.info? t with
  | none => simp [hi] at hz
  | some i =>
    simp only [hi, Option.bind_some] at hz
    have hp : (parts.map fun (i, x) => (i, a.eval x)).toList = parts.toList.map fun (i, x) => (i, a.eval x) := by simp
    unfold execOp
    simp only [hop, Instr.build, zeroValue, typeInfo, Sem.run_bind, run_program, Result.andThen_ok, hi, hz, Sem.run_pure, run_underlying ht, szOf_run hs w, hp, h1]

end
end Go.Proofs.YtkfdnpbpebmhaaaGreatDoor.Sx
