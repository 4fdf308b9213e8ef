/-
  DERIVED: THE SHELF's CONTRACTS AT THIS DUMP, IN PLAIN WORDS (tools/lay-plain.mjs out of 'TrydShelf.lean', which tools/lay-shelf.mjs wrote): THE SAME DECLARATIONS UNDER THE SAME NAMES: 'import', 'namespace', 'open', 'def', 'theorem' AND NOTHING ELSE: no command of the shelf's: FOR A HAND-IN. Each laying: the table of numbers ('.._ren') and one theorem, a field a fact of the dump's own or the kernel's comparison; each contract: ONE APPLICATION.
-/
import Derived.Shelf.Strconv.Itoa0
import Derived.Shelf.Strconv.Itoa1
import Derived.Shelf.LaysM
import Derived.Shelf.Strconv.Itoa2
import Derived.Shelf.Strconv.Itoa3
import Derived.Shelf.Strconv.Itoa4
import Derived.Test.YtpcinbogdlhndaaDoorProg
namespace Go.Proofs
open Go.Shelf
def Tryd.laysM171_ren : Go.Shelf.Ren := ⟨fun | 171 => 12 | 243 => 20 | 246 => 21 | 283 => 36 | 284 => 37 | 285 => 38 | 286 => 39 | 129 => 54 | 317 => 53 | 318 => 55 | 319 => 56 | 320 => 57 | 337 => 69 | 338 => 70 | n => n, fun | 3 => 3 | 9 => 9 | 2 => 2 | 4 => 4 | 171 => 78 | 0 => 0 | 53 => 79 | 37 => 82 | 5 => 5 | 173 => 83 | 212 => 100 | 51 => 101 | 20 => 20 | 213 => 102 | 46 => 104 | 232 => 122 | 233 => 123 | n => n, fun | 17 => 1 | 18 => 2 | 19 => 3 | n => n⟩
theorem Tryd.laysM171 : Go.Proofs.LaysM.n171 Tryd.prog Tryd.laysM171_ren := {
  mixed := by kernel_rfl
  f129 := Tryd.func54.trans (congrArg some (by kernel_rfl))
  f171 := Tryd.func12.trans (congrArg some (by kernel_rfl))
  f243 := Tryd.func20.trans (congrArg some (by kernel_rfl))
  f246 := Tryd.func21.trans (congrArg some (by kernel_rfl))
  f283 := Tryd.func36.trans (congrArg some (by kernel_rfl))
  f284 := Tryd.func37.trans (congrArg some (by kernel_rfl))
  f285 := Tryd.func38.trans (congrArg some (by kernel_rfl))
  f286 := Tryd.func39.trans (congrArg some (by kernel_rfl))
  f317 := Tryd.func53.trans (congrArg some (by kernel_rfl))
  f318 := Tryd.func55.trans (congrArg some (by kernel_rfl))
  f319 := Tryd.func56.trans (congrArg some (by kernel_rfl))
  f320 := Tryd.func57.trans (congrArg some (by kernel_rfl))
  f337 := Tryd.func69.trans (congrArg some (by kernel_rfl))
  f338 := Tryd.func70.trans (congrArg some (by kernel_rfl))
  t0 := Tryd.underlying0
  a0 := Tryd.isAgg0
  z0 := Tryd.sizeOf0
  v0 := Tryd.zeroValue0
  t2 := Tryd.underlying2
  a2 := Tryd.isAgg2
  z2 := Tryd.sizeOf2
  v2 := Tryd.zeroValue2
  t3 := Tryd.underlying3
  a3 := Tryd.isAgg3
  z3 := Tryd.sizeOf3
  v3 := Tryd.zeroValue3
  t4 := Tryd.underlying4
  a4 := Tryd.isAgg4
  z4 := Tryd.sizeOf4
  v4 := Tryd.zeroValue4
  t5 := Tryd.underlying5
  a5 := Tryd.isAgg5
  z5 := Tryd.sizeOf5
  v5 := Tryd.zeroValue5
  t9 := Tryd.underlying9
  a9 := Tryd.isAgg9
  z9 := Tryd.sizeOf9
  v9 := Tryd.zeroValue9
  t20 := Tryd.underlying20
  a20 := Tryd.isAgg20
  z20 := Tryd.sizeOf20
  v20 := Tryd.zeroValue20
  t37 := Tryd.underlying82
  a37 := Tryd.isAgg82
  z37 := Tryd.sizeOf82
  v37 := Tryd.zeroValue82
  t46 := Tryd.underlying104
  a46 := Tryd.isAgg104
  z46 := Tryd.sizeOf104
  v46 := Tryd.zeroValue104
  t51 := Tryd.underlying101
  a51 := Tryd.isAgg101
  z51 := Tryd.sizeOf101
  v51 := Tryd.zeroValue101
  t53 := Tryd.underlying79
  a53 := Tryd.isAgg79
  z53 := Tryd.sizeOf79
  v53 := Tryd.zeroValue79
  t171 := Tryd.underlying78
  a171 := Tryd.isAgg78
  z171 := Tryd.sizeOf78
  v171 := Tryd.zeroValue78
  t173 := Tryd.underlying83
  a173 := Tryd.isAgg83
  z173 := Tryd.sizeOf83
  v173 := Tryd.zeroValue83
  t212 := Tryd.underlying100
  a212 := Tryd.isAgg100
  z212 := Tryd.sizeOf100
  v212 := Tryd.zeroValue100
  t213 := Tryd.underlying102
  a213 := Tryd.isAgg102
  z213 := Tryd.sizeOf102
  t232 := Tryd.underlying122
  a232 := Tryd.isAgg122
  z232 := Tryd.sizeOf122
  v232 := Tryd.zeroValue122
  t233 := Tryd.underlying123
  a233 := Tryd.isAgg123
  z233 := Tryd.sizeOf123
  v233 := Tryd.zeroValue123
  g17 := by kernel_rfl
  g18 := by kernel_rfl
  g19 := by kernel_rfl
  i0 := by kernel_rfl
  i2 := by kernel_rfl
  i3 := by kernel_rfl
  i4 := by kernel_rfl
  i5 := by kernel_rfl
  i9 := by kernel_rfl
  i20 := by kernel_rfl
  i37 := by kernel_rfl
  i46 := by kernel_rfl
  i51 := by kernel_rfl
  i53 := by kernel_rfl
  i171 := by kernel_rfl
  i173 := by kernel_rfl
  i212 := by kernel_rfl
  i232 := by kernel_rfl
  i233 := by kernel_rfl
  m17 := by kernel_rfl
  m18 := by kernel_rfl
  m19 := by kernel_rfl }
open Go.RowKit Go.Sort Go.Lib in
/-- strconv.Itoa: "Itoa is equivalent to FormatInt(int64(i), 10).": i's DECIMAL NUMERAL ('Lib.itoa': a '-' where i is negative, then the digits), FOR EVERY int. The world behind the call: the world before it, new blocks behind the heap (the library's 'var a [24]byte'), draws. (LAID: no walk: one application.) -/
theorem Tryd.strconv_Itoa (n : Int) (h0 : -9223372036854775808 ≤ n) (h1 : n ≤ 9223372036854775807) (w : World) (htab : Lib.TabIs Tryd.prog w "internal/strconv.uint64pow10" .u64 Lib.pow10Tab) :
    Calls Tryd.prog 12 #[.int .i64 n] w fun e w' => e = .returned (.string ⟨(Lib.itoa n).toArray⟩) ∧ ∃ k os, w' = grow (w.drewN k) os := Any.strconv_Itoa Tryd.laysM171 n h0 h1 w htab
def Tryd.laysM173_ren : Go.Shelf.Ren := ⟨fun | 173 => 13 | 246 => 21 | 283 => 36 | 284 => 37 | 285 => 38 | 286 => 39 | 129 => 54 | 317 => 53 | 318 => 55 | 319 => 56 | 320 => 57 | 337 => 69 | 338 => 70 | n => n, fun | 2 => 2 | 3 => 3 | 9 => 9 | 4 => 4 | 171 => 78 | 0 => 0 | 53 => 79 | 37 => 82 | 5 => 5 | 173 => 83 | 212 => 100 | 51 => 101 | 20 => 20 | 213 => 102 | 46 => 104 | 232 => 122 | 233 => 123 | n => n, fun | 17 => 1 | 18 => 2 | 19 => 3 | n => n⟩
theorem Tryd.laysM173 : Go.Proofs.LaysM.n173 Tryd.prog Tryd.laysM173_ren := {
  mixed := by kernel_rfl
  f129 := Tryd.func54.trans (congrArg some (by kernel_rfl))
  f173 := Tryd.func13.trans (congrArg some (by kernel_rfl))
  f246 := Tryd.func21.trans (congrArg some (by kernel_rfl))
  f283 := Tryd.func36.trans (congrArg some (by kernel_rfl))
  f284 := Tryd.func37.trans (congrArg some (by kernel_rfl))
  f285 := Tryd.func38.trans (congrArg some (by kernel_rfl))
  f286 := Tryd.func39.trans (congrArg some (by kernel_rfl))
  f317 := Tryd.func53.trans (congrArg some (by kernel_rfl))
  f318 := Tryd.func55.trans (congrArg some (by kernel_rfl))
  f319 := Tryd.func56.trans (congrArg some (by kernel_rfl))
  f320 := Tryd.func57.trans (congrArg some (by kernel_rfl))
  f337 := Tryd.func69.trans (congrArg some (by kernel_rfl))
  f338 := Tryd.func70.trans (congrArg some (by kernel_rfl))
  t0 := Tryd.underlying0
  a0 := Tryd.isAgg0
  z0 := Tryd.sizeOf0
  v0 := Tryd.zeroValue0
  t2 := Tryd.underlying2
  a2 := Tryd.isAgg2
  z2 := Tryd.sizeOf2
  v2 := Tryd.zeroValue2
  t3 := Tryd.underlying3
  a3 := Tryd.isAgg3
  z3 := Tryd.sizeOf3
  v3 := Tryd.zeroValue3
  t4 := Tryd.underlying4
  a4 := Tryd.isAgg4
  z4 := Tryd.sizeOf4
  v4 := Tryd.zeroValue4
  t5 := Tryd.underlying5
  a5 := Tryd.isAgg5
  z5 := Tryd.sizeOf5
  v5 := Tryd.zeroValue5
  t9 := Tryd.underlying9
  a9 := Tryd.isAgg9
  z9 := Tryd.sizeOf9
  v9 := Tryd.zeroValue9
  t20 := Tryd.underlying20
  a20 := Tryd.isAgg20
  z20 := Tryd.sizeOf20
  v20 := Tryd.zeroValue20
  t37 := Tryd.underlying82
  a37 := Tryd.isAgg82
  z37 := Tryd.sizeOf82
  v37 := Tryd.zeroValue82
  t46 := Tryd.underlying104
  a46 := Tryd.isAgg104
  z46 := Tryd.sizeOf104
  v46 := Tryd.zeroValue104
  t51 := Tryd.underlying101
  a51 := Tryd.isAgg101
  z51 := Tryd.sizeOf101
  v51 := Tryd.zeroValue101
  t53 := Tryd.underlying79
  a53 := Tryd.isAgg79
  z53 := Tryd.sizeOf79
  v53 := Tryd.zeroValue79
  t171 := Tryd.underlying78
  a171 := Tryd.isAgg78
  z171 := Tryd.sizeOf78
  v171 := Tryd.zeroValue78
  t173 := Tryd.underlying83
  a173 := Tryd.isAgg83
  z173 := Tryd.sizeOf83
  v173 := Tryd.zeroValue83
  t212 := Tryd.underlying100
  a212 := Tryd.isAgg100
  z212 := Tryd.sizeOf100
  v212 := Tryd.zeroValue100
  t213 := Tryd.underlying102
  a213 := Tryd.isAgg102
  z213 := Tryd.sizeOf102
  t232 := Tryd.underlying122
  a232 := Tryd.isAgg122
  z232 := Tryd.sizeOf122
  v232 := Tryd.zeroValue122
  t233 := Tryd.underlying123
  a233 := Tryd.isAgg123
  z233 := Tryd.sizeOf123
  v233 := Tryd.zeroValue123
  g17 := by kernel_rfl
  g18 := by kernel_rfl
  g19 := by kernel_rfl
  i0 := by kernel_rfl
  i2 := by kernel_rfl
  i3 := by kernel_rfl
  i4 := by kernel_rfl
  i5 := by kernel_rfl
  i9 := by kernel_rfl
  i20 := by kernel_rfl
  i37 := by kernel_rfl
  i46 := by kernel_rfl
  i51 := by kernel_rfl
  i53 := by kernel_rfl
  i171 := by kernel_rfl
  i173 := by kernel_rfl
  i212 := by kernel_rfl
  i232 := by kernel_rfl
  i233 := by kernel_rfl
  m17 := by kernel_rfl
  m18 := by kernel_rfl
  m19 := by kernel_rfl }
open Go.RowKit Go.Sort Go.Lib in
/-- strconv.FormatInt: "FormatInt returns the string representation of i in the given base": AT BASE 10: i's decimal numeral, for every int64. (LAID: no walk: one application.) -/
theorem Tryd.strconv_FormatInt_10 (n : Int) (h0 : -9223372036854775808 ≤ n) (h1 : n ≤ 9223372036854775807) (w : World) (htab : Lib.TabIs Tryd.prog w "internal/strconv.uint64pow10" .u64 Lib.pow10Tab) :
    Calls Tryd.prog 13 #[.int .i64 n, .int .i64 10] w fun e w' => e = .returned (.string ⟨(Lib.itoa n).toArray⟩) ∧ ∃ k os, w' = grow (w.drewN k) os := Any.strconv_FormatInt_10 Tryd.laysM173 n h0 h1 w htab
end Go.Proofs
