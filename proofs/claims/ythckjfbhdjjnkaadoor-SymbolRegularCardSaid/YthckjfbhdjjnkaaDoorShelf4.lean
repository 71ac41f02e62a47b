/-
 DERIVED: THE SHELF's CONTRACTS AT THIS DUMP, IN PLAIN WORDS (tools/lay-plain.mjs out of 'TrydShelf.lean', which tools/lay-shelf.mjs wrote): THE SAME DECLARATIONS UNDER THE SAME NAMES: 'import', 'namespace', 'open', 'def', 'theorem' AND NOTHING ELSE: no command of the shelf's: FOR A HAND-IN. Each laying: the table of numbers ('.._ren') and one theorem, a field a fact of the dump's own or the kernel's comparison; each contract: ONE APPLICATION.
-/
import Derived.Shelf.Strings.Builder1
import Derived.Shelf.Strings.Builder2
import Derived.Shelf.Strings.OnBuilder
import Derived.Shelf.Strconv.Itoa0
import Derived.Shelf.Strconv.Itoa1
import Derived.Shelf.LaysM
import Derived.Shelf.Strconv.Itoa2
import Derived.Shelf.Strconv.Itoa3
import Derived.Ground.Names2Prog
import Derived.Shelf.Slices.Clone
import Derived.Ground.SlgnProg
import Derived.Shelf.SlicesE.Clone
import Derived.Test.YthckjfbhdjjnkaaDoorProg
namespace Go.Proofs
open Go.Shelf
def Tryd.lays156_ren : Go.Shelf.Ren := ⟨fun | 156 => 115 | 165 => 132 | 166 => 133 | 169 => 134 | 240 => 143 | 241 => 144 | 276 => 153 | 277 => 154 | n => n, fun | 31 => 141 | 9 => 9 | 3 => 3 | 4 => 4 | 0 => 0 | 20 => 20 | 72 => 162 | 76 => 166 | 70 => 159 | 37 => 160 | 75 => 165 | 127 => 177 | 164 => 184 | 5 => 5 | 80 => 168 | n => n, fun | n => n⟩
theorem Tryd.lays156 : Go.Proofs.Lays.n156 Tryd.prog Tryd.lays156_ren := {
 mixed := by kernel_rfl
 f156 := Tryd.func115.trans (congrArg some (by kernel_rfl))
 f165 := Tryd.func132.trans (congrArg some (by kernel_rfl))
 f166 := Tryd.func133.trans (congrArg some (by kernel_rfl))
 f169 := Tryd.func134.trans (congrArg some (by kernel_rfl))
 f240 := Tryd.func143.trans (congrArg some (by kernel_rfl))
 f241 := Tryd.func144.trans (congrArg some (by kernel_rfl))
 f276 := Tryd.func153.trans (congrArg some (by kernel_rfl))
 f277 := Tryd.func154.trans (congrArg some (by kernel_rfl))
 t0 := Tryd.underlying0
 a0 := Tryd.isAgg0
 z0 := Tryd.sizeOf0
 v0 := Tryd.zeroValue0
 t3 := Tryd.underlying3
 a3 := Tryd.isAgg3
 z3 := Tryd.sizeOf3
 v3 := Tryd.zeroValue3
 t4 := Tryd.underlying4
 a4 := Tryd.isAgg4
 z4 := Tryd.sizeOf4
 v4 := Tryd.zeroValue4
 t9 := Tryd.underlying9
 a9 := Tryd.isAgg9
 z9 := Tryd.sizeOf9
 v9 := Tryd.zeroValue9
 t20 := Tryd.underlying20
 a20 := Tryd.isAgg20
 z20 := Tryd.sizeOf20
 v20 := Tryd.zeroValue20
 t31 := Tryd.underlying141
 a31 := Tryd.isAgg141
 z31 := Tryd.sizeOf141
 v31 := Tryd.zeroValue141
 t37 := Tryd.underlying160
 a37 := Tryd.isAgg160
 z37 := Tryd.sizeOf160
 v37 := Tryd.zeroValue160
 t70 := Tryd.underlying159
 a70 := Tryd.isAgg159
 z70 := Tryd.sizeOf159
 v70 := Tryd.zeroValue159
 t72 := Tryd.underlying162
 a72 := Tryd.isAgg162
 z72 := Tryd.sizeOf162
 v72 := Tryd.zeroValue162
 t75 := Tryd.underlying165
 a75 := Tryd.isAgg165
 z75 := Tryd.sizeOf165
 v75 := Tryd.zeroValue165
 t76 := Tryd.underlying166
 a76 := Tryd.isAgg166
 z76 := Tryd.sizeOf166
 v76 := Tryd.zeroValue166
 t127 := Tryd.underlying177
 a127 := Tryd.isAgg177
 z127 := Tryd.sizeOf177
 v127 := Tryd.zeroValue177
 t164 := Tryd.underlying184
 a164 := Tryd.isAgg184
 z164 := Tryd.sizeOf184
 v164 := Tryd.zeroValue184 }
theorem Tryd.Builder_Extra_156 : Builder.Extra Tryd.prog Tryd.lays156_ren := {
 sizeBuilder := by kernel_rfl
 liesBuilder := by kernel_rfl
 t5 := Tryd.underlying5
 a5 := Tryd.isAgg5
 z5 := Tryd.sizeOf5
 v5 := Tryd.zeroValue5
 infoByte := by kernel_rfl
 cellsByte := by kernel_rfl
 sizeByte := by kernel_rfl
 neB5 := by decide }
open Go.RowKit in
theorem Tryd.strings_Join (bk o c : Nat) (xs : List ByteArray) (sep : ByteArray) (w : World) (hcells : ∀ (j : Nat) x, xs[j]? = some x → w.cell? ⟨bk, o + j, none⟩ = some (.string x)) (hbk : bk < w.heap.size) (hN : xs.length ≤ 140737488355328) (hcap : xs.length ≤ c) (hlen : (Lib.join (xs.map (·.data.toList)) sep.data.toList).length ≤ 140737488355328) :
 Calls Tryd.prog 115 #[.slice (some ⟨bk, o, none⟩) xs.length c, .string sep] w fun e w' => e = .returned (.string ⟨(Lib.join (xs.map (·.data.toList)) sep.data.toList).toArray⟩) ∧ Below w.heap.size w w' := Any.strings_Join Tryd.lays156 Tryd.Builder_Extra_156 bk o c xs sep w hcells hbk hN hcap hlen
def Tryd.laysM171_ren : Go.Shelf.Ren := ⟨fun | 171 => 114 | 243 => 131 | 246 => 142 | 283 => 149 | 284 => 150 | 285 => 151 | 286 => 152 | 129 => 159 | 317 => 158 | 318 => 160 | 319 => 161 | 320 => 162 | 337 => 164 | 338 => 165 | n => n, fun | 3 => 3 | 9 => 9 | 2 => 2 | 4 => 4 | 171 => 180 | 0 => 0 | 53 => 175 | 37 => 160 | 5 => 5 | 173 => 182 | 212 => 192 | 51 => 173 | 20 => 20 | 213 => 193 | 46 => 157 | 232 => 194 | 233 => 195 | n => n, fun | 17 => 0 | 18 => 2 | 19 => 3 | n => n⟩
theorem Tryd.laysM171 : Go.Proofs.LaysM.n171 Tryd.prog Tryd.laysM171_ren := {
 mixed := by kernel_rfl
 f129 := Tryd.func159.trans (congrArg some (by kernel_rfl))
 f171 := Tryd.func114.trans (congrArg some (by kernel_rfl))
 f243 := Tryd.func131.trans (congrArg some (by kernel_rfl))
 f246 := Tryd.func142.trans (congrArg some (by kernel_rfl))
 f283 := Tryd.func149.trans (congrArg some (by kernel_rfl))
 f284 := Tryd.func150.trans (congrArg some (by kernel_rfl))
 f285 := Tryd.func151.trans (congrArg some (by kernel_rfl))
 f286 := Tryd.func152.trans (congrArg some (by kernel_rfl))
 f317 := Tryd.func158.trans (congrArg some (by kernel_rfl))
 f318 := Tryd.func160.trans (congrArg some (by kernel_rfl))
 f319 := Tryd.func161.trans (congrArg some (by kernel_rfl))
 f320 := Tryd.func162.trans (congrArg some (by kernel_rfl))
 f337 := Tryd.func164.trans (congrArg some (by kernel_rfl))
 f338 := Tryd.func165.trans (congrArg some (by kernel_rfl))
 t0 := Tryd.underlying0
 a0 := Tryd.isAgg0
 z0 := Tryd.sizeOf0
 v0 := Tryd.zeroValue0
 t2 := Tryd.underlying2
 a2 := Tryd.isAgg2
 z2 := Tryd.sizeOf2
 v2 := Tryd.zeroValue2
 t3 := Tryd.underlying3
 a3 := Tryd.isAgg3
 z3 := Tryd.sizeOf3
 v3 := Tryd.zeroValue3
 t4 := Tryd.underlying4
 a4 := Tryd.isAgg4
 z4 := Tryd.sizeOf4
 v4 := Tryd.zeroValue4
 t5 := Tryd.underlying5
 a5 := Tryd.isAgg5
 z5 := Tryd.sizeOf5
 v5 := Tryd.zeroValue5
 t9 := Tryd.underlying9
 a9 := Tryd.isAgg9
 z9 := Tryd.sizeOf9
 v9 := Tryd.zeroValue9
 t20 := Tryd.underlying20
 a20 := Tryd.isAgg20
 z20 := Tryd.sizeOf20
 v20 := Tryd.zeroValue20
 t37 := Tryd.underlying160
 a37 := Tryd.isAgg160
 z37 := Tryd.sizeOf160
 v37 := Tryd.zeroValue160
 t46 := Tryd.underlying157
 a46 := Tryd.isAgg157
 z46 := Tryd.sizeOf157
 v46 := Tryd.zeroValue157
 t51 := Tryd.underlying173
 a51 := Tryd.isAgg173
 z51 := Tryd.sizeOf173
 v51 := Tryd.zeroValue173
 t53 := Tryd.underlying175
 a53 := Tryd.isAgg175
 z53 := Tryd.sizeOf175
 v53 := Tryd.zeroValue175
 t171 := Tryd.underlying180
 a171 := Tryd.isAgg180
 z171 := Tryd.sizeOf180
 v171 := Tryd.zeroValue180
 t173 := Tryd.underlying182
 a173 := Tryd.isAgg182
 z173 := Tryd.sizeOf182
 v173 := Tryd.zeroValue182
 t212 := Tryd.underlying192
 a212 := Tryd.isAgg192
 z212 := Tryd.sizeOf192
 v212 := Tryd.zeroValue192
 t213 := Tryd.underlying193
 a213 := Tryd.isAgg193
 z213 := Tryd.sizeOf193
 t232 := Tryd.underlying194
 a232 := Tryd.isAgg194
 z232 := Tryd.sizeOf194
 v232 := Tryd.zeroValue194
 t233 := Tryd.underlying195
 a233 := Tryd.isAgg195
 z233 := Tryd.sizeOf195
 v233 := Tryd.zeroValue195
 g17 := by kernel_rfl
 g18 := by kernel_rfl
 g19 := by kernel_rfl
 i0 := by kernel_rfl
 i2 := by kernel_rfl
 i3 := by kernel_rfl
 i4 := by kernel_rfl
 i5 := by kernel_rfl
 i9 := by kernel_rfl
 i20 := by kernel_rfl
 i37 := by kernel_rfl
 i46 := by kernel_rfl
 i51 := by kernel_rfl
 i53 := by kernel_rfl
 i171 := by kernel_rfl
 i173 := by kernel_rfl
 i212 := by kernel_rfl
 i232 := by kernel_rfl
 i233 := by kernel_rfl
 m17 := by kernel_rfl
 m18 := by kernel_rfl
 m19 := by kernel_rfl }
open Go.RowKit Go.Sort Go.Lib in
theorem Tryd.strconv_Itoa (n : Int) (h0 : -9223372036854775808 ≤ n) (h1 : n ≤ 9223372036854775807) (w : World) (htab : Lib.TabIs Tryd.prog w "internal/strconv.uint64pow10" .u64 Lib.pow10Tab) :
 Calls Tryd.prog 114 #[.int .i64 n] w fun e w' => e = .returned (.string ⟨(Lib.itoa n).toArray⟩) ∧ ∃ k os, w' = grow (w.drewN k) os := Any.strconv_Itoa Tryd.laysM171 n h0 h1 w htab
def Tryd.laysNm215_ren : Go.Shelf.Ren := ⟨fun | 15 => 101 | n => n, fun | 22 => 22 | 3 => 3 | 4 => 4 | n => n, fun | n => n⟩
theorem Tryd.laysNm215 : Go.Proofs.Lays2.n15 Tryd.prog Tryd.laysNm215_ren := {
 mixed := by kernel_rfl
 f15 := Tryd.func101.trans (congrArg some (by kernel_rfl))
 t3 := Tryd.underlying3
 a3 := Tryd.isAgg3
 z3 := Tryd.sizeOf3
 v3 := Tryd.zeroValue3
 t4 := Tryd.underlying4
 a4 := Tryd.isAgg4
 z4 := Tryd.sizeOf4
 v4 := Tryd.zeroValue4
 t22 := Tryd.underlying22
 a22 := Tryd.isAgg22
 z22 := Tryd.sizeOf22
 v22 := Tryd.zeroValue22
 i3 := by kernel_rfl }
open Go.RowKit Go.Lib in
theorem Tryd.slices_Clone_int (b off n c : Nat) (zs : List Int) (w : World) (hz : n ≤ zs.length) (hbig : n * 8 ≤ 140737488355328) (hc : ∀ j, j < zs.length → w.cell? ⟨b, off + j, none⟩ = some (.int .i64 (zs.getD j 0))) :
 Calls Tryd.prog 101 #[.slice (some ⟨b, off, none⟩) n c] w fun e w' => ∃ v', e = .returned v' ∧ w'.ownsRow w.heap.size 3 1 v' n ((zs.take n).map (Value.int .i64)) ∧ v' ≠ .slice none 0 0 ∧ Below w.heap.size w w' := Any.slices_Clone_int Tryd.laysNm215 b off n c zs w hz hbig hc
open Go.RowKit Go.Lib in
theorem Tryd.slices_Clone_int_nil (n c : Nat) (w : World) :
 Calls Tryd.prog 101 #[.slice none n c] w fun e w' => e = .returned (.slice none 0 0) ∧ w' = w := Any.slices_Clone_int_nil Tryd.laysNm215 n c w
open Go.RowKit Go.Lib in
theorem Tryd.slices_Clone_int_zero (a : Addr) (c : Nat) (w : World) :
 Calls Tryd.prog 101 #[.slice (some a) 0 c] w fun e w' => ∃ v', e = .returned v' ∧ w'.ownsRow w.heap.size 3 1 v' 0 [] ∧ v' ≠ .slice none 0 0 ∧ Below w.heap.size w w' := Any.slices_Clone_int_zero Tryd.laysNm215 a c w
end Go.Proofs
