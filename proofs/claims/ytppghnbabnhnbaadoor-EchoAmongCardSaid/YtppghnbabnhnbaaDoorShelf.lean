/-
  The contracts of the library that this seat takes (laid by the kit's tool over this dump).
-/
import Derived.Shelf.Strings.Builder1
import Derived.Shelf.Strings.Builder2
import Derived.Shelf.Strings.OnBuilder
import Derived.Shelf.Small.Bits
import Derived.Shelf.Strconv.Itoa0
import Derived.Shelf.Strconv.Itoa1
import Derived.Shelf.LaysM
import Derived.Shelf.Strconv.Itoa2
import Derived.Shelf.Strconv.Itoa3
import Derived.Ground.Names2Prog
import Derived.Shelf.Slices.SearchI
import Derived.Test.YtppghnbabnhnbaaDoorProg
namespace Go.Proofs.YtppghnbabnhnbaaDoor
open Go.Shelf
def shf_lays156_ren : Go.Shelf.Ren := ⟨fun | 156 => 128 | 165 => 136 | 166 => 137 | 169 => 138 | 240 => 143 | 241 => 144 | 276 => 146 | 277 => 147 | n => n, fun | 31 => 179 | 9 => 9 | 3 => 3 | 4 => 4 | 0 => 0 | 20 => 20 | 72 => 194 | 76 => 198 | 70 => 191 | 37 => 192 | 75 => 197 | 127 => 205 | 164 => 207 | 5 => 5 | 80 => 200 | n => n, fun | n => n⟩
theorem shf_lays156 : Go.Proofs.Lays.n156 Tryd.prog shf_lays156_ren := {
  mixed := by kernel_rfl
  f156 := Tryd.func128.trans (congrArg some (by kernel_rfl))
  f165 := Tryd.func136.trans (congrArg some (by kernel_rfl))
  f166 := Tryd.func137.trans (congrArg some (by kernel_rfl))
  f169 := Tryd.func138.trans (congrArg some (by kernel_rfl))
  f240 := Tryd.func143.trans (congrArg some (by kernel_rfl))
  f241 := Tryd.func144.trans (congrArg some (by kernel_rfl))
  f276 := Tryd.func146.trans (congrArg some (by kernel_rfl))
  f277 := Tryd.func147.trans (congrArg some (by kernel_rfl))
  t0 := Tryd.underlying0
  a0 := Tryd.isAgg0
  z0 := Tryd.sizeOf0
  v0 := Tryd.zeroValue0
  t3 := Tryd.underlying3
  a3 := Tryd.isAgg3
  z3 := Tryd.sizeOf3
  v3 := Tryd.zeroValue3
  t4 := Tryd.underlying4
  a4 := Tryd.isAgg4
  z4 := Tryd.sizeOf4
  v4 := Tryd.zeroValue4
  t9 := Tryd.underlying9
  a9 := Tryd.isAgg9
  z9 := Tryd.sizeOf9
  v9 := Tryd.zeroValue9
  t20 := Tryd.underlying20
  a20 := Tryd.isAgg20
  z20 := Tryd.sizeOf20
  v20 := Tryd.zeroValue20
  t31 := Tryd.underlying179
  a31 := Tryd.isAgg179
  z31 := Tryd.sizeOf179
  v31 := Tryd.zeroValue179
  t37 := Tryd.underlying192
  a37 := Tryd.isAgg192
  z37 := Tryd.sizeOf192
  v37 := Tryd.zeroValue192
  t70 := Tryd.underlying191
  a70 := Tryd.isAgg191
  z70 := Tryd.sizeOf191
  v70 := Tryd.zeroValue191
  t72 := Tryd.underlying194
  a72 := Tryd.isAgg194
  z72 := Tryd.sizeOf194
  v72 := Tryd.zeroValue194
  t75 := Tryd.underlying197
  a75 := Tryd.isAgg197
  z75 := Tryd.sizeOf197
  v75 := Tryd.zeroValue197
  t76 := Tryd.underlying198
  a76 := Tryd.isAgg198
  z76 := Tryd.sizeOf198
  v76 := Tryd.zeroValue198
  t127 := Tryd.underlying205
  a127 := Tryd.isAgg205
  z127 := Tryd.sizeOf205
  v127 := Tryd.zeroValue205
  t164 := Tryd.underlying207
  a164 := Tryd.isAgg207
  z164 := Tryd.sizeOf207
  v164 := Tryd.zeroValue207 }
theorem shf_Builder_Extra_156 : Builder.Extra Tryd.prog shf_lays156_ren := {
  sizeBuilder := by kernel_rfl
  liesBuilder := by kernel_rfl
  t5 := Tryd.underlying5
  a5 := Tryd.isAgg5
  z5 := Tryd.sizeOf5
  v5 := Tryd.zeroValue5
  infoByte := by kernel_rfl
  cellsByte := by kernel_rfl
  sizeByte := by kernel_rfl
  neB5 := by decide }
open Go.RowKit in
theorem shf_strings_Join_none (a : Option Addr) (c : Nat) (sep : ByteArray) (w : World) :
    Calls Tryd.prog 128 #[.slice a 0 c, .string sep] w fun e w' => e = .returned (.string ⟨#[]⟩) ∧ w' = w := Any.strings_Join_none shf_lays156 shf_Builder_Extra_156 a c sep w
open Go.RowKit in
theorem shf_strings_Join (bk o c : Nat) (xs : List ByteArray) (sep : ByteArray) (w : World) (hcells : ∀ (j : Nat) x, xs[j]? = some x → w.cell? ⟨bk, o + j, none⟩ = some (.string x)) (hbk : bk < w.heap.size) (hN : xs.length ≤ 140737488355328) (hcap : xs.length ≤ c) (hlen : (Lib.join (xs.map (·.data.toList)) sep.data.toList).length ≤ 140737488355328) :
    Calls Tryd.prog 128 #[.slice (some ⟨bk, o, none⟩) xs.length c, .string sep] w fun e w' => e = .returned (.string ⟨(Lib.join (xs.map (·.data.toList)) sep.data.toList).toArray⟩) ∧ Below w.heap.size w w' := Any.strings_Join shf_lays156 shf_Builder_Extra_156 bk o c xs sep w hcells hbk hN hcap hlen
def shf_laysM171_ren : Go.Shelf.Ren := ⟨fun | 171 => 135 | 243 => 142 | 246 => 145 | 283 => 148 | 284 => 149 | 285 => 150 | 286 => 151 | 129 => 140 | 317 => 152 | 318 => 153 | 319 => 154 | 320 => 155 | 337 => 156 | 338 => 157 | n => n, fun | 3 => 3 | 9 => 9 | 2 => 2 | 4 => 4 | 171 => 210 | 0 => 0 | 53 => 204 | 37 => 192 | 5 => 5 | 173 => 212 | 212 => 215 | 51 => 202 | 20 => 20 | 213 => 216 | 46 => 153 | 232 => 217 | 233 => 218 | n => n, fun | 17 => 1 | 18 => 2 | 19 => 3 | n => n⟩
theorem shf_laysM171 : Go.Proofs.LaysM.n171 Tryd.prog shf_laysM171_ren := {
  mixed := by kernel_rfl
  f129 := Tryd.func140.trans (congrArg some (by kernel_rfl))
  f171 := Tryd.func135.trans (congrArg some (by kernel_rfl))
  f243 := Tryd.func142.trans (congrArg some (by kernel_rfl))
  f246 := Tryd.func145.trans (congrArg some (by kernel_rfl))
  f283 := Tryd.func148.trans (congrArg some (by kernel_rfl))
  f284 := Tryd.func149.trans (congrArg some (by kernel_rfl))
  f285 := Tryd.func150.trans (congrArg some (by kernel_rfl))
  f286 := Tryd.func151.trans (congrArg some (by kernel_rfl))
  f317 := Tryd.func152.trans (congrArg some (by kernel_rfl))
  f318 := Tryd.func153.trans (congrArg some (by kernel_rfl))
  f319 := Tryd.func154.trans (congrArg some (by kernel_rfl))
  f320 := Tryd.func155.trans (congrArg some (by kernel_rfl))
  f337 := Tryd.func156.trans (congrArg some (by kernel_rfl))
  f338 := Tryd.func157.trans (congrArg some (by kernel_rfl))
  t0 := Tryd.underlying0
  a0 := Tryd.isAgg0
  z0 := Tryd.sizeOf0
  v0 := Tryd.zeroValue0
  t2 := Tryd.underlying2
  a2 := Tryd.isAgg2
  z2 := Tryd.sizeOf2
  v2 := Tryd.zeroValue2
  t3 := Tryd.underlying3
  a3 := Tryd.isAgg3
  z3 := Tryd.sizeOf3
  v3 := Tryd.zeroValue3
  t4 := Tryd.underlying4
  a4 := Tryd.isAgg4
  z4 := Tryd.sizeOf4
  v4 := Tryd.zeroValue4
  t5 := Tryd.underlying5
  a5 := Tryd.isAgg5
  z5 := Tryd.sizeOf5
  v5 := Tryd.zeroValue5
  t9 := Tryd.underlying9
  a9 := Tryd.isAgg9
  z9 := Tryd.sizeOf9
  v9 := Tryd.zeroValue9
  t20 := Tryd.underlying20
  a20 := Tryd.isAgg20
  z20 := Tryd.sizeOf20
  v20 := Tryd.zeroValue20
  t37 := Tryd.underlying192
  a37 := Tryd.isAgg192
  z37 := Tryd.sizeOf192
  v37 := Tryd.zeroValue192
  t46 := Tryd.underlying153
  a46 := Tryd.isAgg153
  z46 := Tryd.sizeOf153
  v46 := Tryd.zeroValue153
  t51 := Tryd.underlying202
  a51 := Tryd.isAgg202
  z51 := Tryd.sizeOf202
  v51 := Tryd.zeroValue202
  t53 := Tryd.underlying204
  a53 := Tryd.isAgg204
  z53 := Tryd.sizeOf204
  v53 := Tryd.zeroValue204
  t171 := Tryd.underlying210
  a171 := Tryd.isAgg210
  z171 := Tryd.sizeOf210
  v171 := Tryd.zeroValue210
  t173 := Tryd.underlying212
  a173 := Tryd.isAgg212
  z173 := Tryd.sizeOf212
  v173 := Tryd.zeroValue212
  t212 := Tryd.underlying215
  a212 := Tryd.isAgg215
  z212 := Tryd.sizeOf215
  v212 := Tryd.zeroValue215
  t213 := Tryd.underlying216
  a213 := Tryd.isAgg216
  z213 := Tryd.sizeOf216
  t232 := Tryd.underlying217
  a232 := Tryd.isAgg217
  z232 := Tryd.sizeOf217
  v232 := Tryd.zeroValue217
  t233 := Tryd.underlying218
  a233 := Tryd.isAgg218
  z233 := Tryd.sizeOf218
  v233 := Tryd.zeroValue218
  g17 := by kernel_rfl
  g18 := by kernel_rfl
  g19 := by kernel_rfl
  i0 := by kernel_rfl
  i2 := by kernel_rfl
  i3 := by kernel_rfl
  i4 := by kernel_rfl
  i5 := by kernel_rfl
  i9 := by kernel_rfl
  i20 := by kernel_rfl
  i37 := by kernel_rfl
  i46 := by kernel_rfl
  i51 := by kernel_rfl
  i53 := by kernel_rfl
  i171 := by kernel_rfl
  i173 := by kernel_rfl
  i212 := by kernel_rfl
  i232 := by kernel_rfl
  i233 := by kernel_rfl
  m17 := by kernel_rfl
  m18 := by kernel_rfl
  m19 := by kernel_rfl }
open Go.RowKit Go.Sort Go.Lib in
theorem shf_strconv_Itoa (n : Int) (h0 : -9223372036854775808 ≤ n) (h1 : n ≤ 9223372036854775807) (w : World) (htab : Lib.TabIs Tryd.prog w "internal/strconv.uint64pow10" .u64 Lib.pow10Tab) :
    Calls Tryd.prog 135 #[.int .i64 n] w fun e w' => e = .returned (.string ⟨(Lib.itoa n).toArray⟩) ∧ ∃ k os, w' = grow (w.drewN k) os := Any.strconv_Itoa shf_laysM171 n h0 h1 w htab
end Go.Proofs.YtppghnbabnhnbaaDoor
