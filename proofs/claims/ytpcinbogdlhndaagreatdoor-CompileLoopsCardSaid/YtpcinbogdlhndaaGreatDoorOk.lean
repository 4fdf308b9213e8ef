/-
  Each function's code in the evaluator's form is the program's. Printed by a program.
-/
import Derived.Test.YtpcinbogdlhndaaGreatDoorIr
import Derived.Test.YtpcinbogdlhndaaGreatDoorRows
import Derived.KernelRfl
import Derived.Laws.Externs
namespace Go.Proofs.YtpcinbogdlhndaaGreatDoor.Ai
open Go
set_option maxRecDepth 100000
theorem ok_4 : okFun id gls (some 273) Tryz.prog 4 f4 = true := by kernel_rfl
theorem ok_8 : okFun id gls (some 273) Tryz.prog 8 f8 = true := by kernel_rfl
theorem ok_9 : okFun id gls (some 273) Tryz.prog 9 f9 = true := by kernel_rfl
theorem ok_15 : okFun id gls (some 273) Tryz.prog 15 f15 = true := by kernel_rfl
theorem ok_16 : okFun id gls (some 273) Tryz.prog 16 f16 = true := by kernel_rfl
theorem ok_17 : okFun id gls (some 273) Tryz.prog 17 f17 = true := by kernel_rfl
theorem ok_19 : okFun id gls (some 273) Tryz.prog 19 f19 = true := by kernel_rfl
theorem ok_20 : okFun id gls (some 273) Tryz.prog 20 f20 = true := by kernel_rfl
theorem ok_21 : okFun id gls (some 273) Tryz.prog 21 f21 = true := by kernel_rfl
theorem ok_22 : okFun id gls (some 273) Tryz.prog 22 f22 = true := by kernel_rfl
theorem ok_23 : okFun id gls (some 273) Tryz.prog 23 f23 = true := by kernel_rfl
theorem ok_24 : okFun id gls (some 273) Tryz.prog 24 f24 = true := by kernel_rfl
theorem ok_25 : okFun id gls (some 273) Tryz.prog 25 f25 = true := by kernel_rfl
theorem ok_26 : okFun id gls (some 273) Tryz.prog 26 f26 = true := by kernel_rfl
theorem ok_43 : okFun id gls (some 273) Tryz.prog 43 f43 = true := by kernel_rfl
theorem ok_44 : okFun id gls (some 273) Tryz.prog 44 f44 = true := by kernel_rfl
theorem ok_45 : okFun id gls (some 273) Tryz.prog 45 f45 = true := by kernel_rfl
theorem ok_47 : okFun id gls (some 273) Tryz.prog 47 f47 = true := by kernel_rfl
theorem ok_50 : okFun id gls (some 273) Tryz.prog 50 f50 = true := by kernel_rfl
theorem ok_51 : okFun id gls (some 273) Tryz.prog 51 f51 = true := by kernel_rfl
theorem ok_52 : okFun id gls (some 273) Tryz.prog 52 f52 = true := by kernel_rfl
theorem ok_53 : okFun id gls (some 273) Tryz.prog 53 f53 = true := by kernel_rfl
theorem ok_54 : okFun id gls (some 273) Tryz.prog 54 f54 = true := by kernel_rfl
theorem ok_55 : okFun id gls (some 273) Tryz.prog 55 f55 = true := by kernel_rfl
theorem ok_57 : okFun id gls (some 273) Tryz.prog 57 f57 = true := by kernel_rfl
theorem ok_58 : okFun id gls (some 273) Tryz.prog 58 f58 = true := by kernel_rfl
theorem ok_59 : okFun id gls (some 273) Tryz.prog 59 f59 = true := by kernel_rfl
theorem ok_100 : okFun id gls (some 273) Tryz.prog 100 f100 = true := by kernel_rfl
theorem ok_101 : okFun id gls (some 273) Tryz.prog 101 f101 = true := by kernel_rfl
theorem ok_102 : okFun id gls (some 273) Tryz.prog 102 f102 = true := by kernel_rfl
theorem ok_103 : okFun id gls (some 273) Tryz.prog 103 f103 = true := by kernel_rfl
theorem ok_104 : okFun id gls (some 273) Tryz.prog 104 f104 = true := by kernel_rfl
theorem ok_105 : okFun id gls (some 273) Tryz.prog 105 f105 = true := by kernel_rfl
theorem ok_107 : okFun id gls (some 273) Tryz.prog 107 f107 = true := by kernel_rfl
theorem ok_108 : okFun id gls (some 273) Tryz.prog 108 f108 = true := by kernel_rfl
theorem ok_109 : okFun id gls (some 273) Tryz.prog 109 f109 = true := by kernel_rfl
theorem ok_111 : okFun id gls (some 273) Tryz.prog 111 f111 = true := by kernel_rfl
theorem ok_114 : okFun id gls (some 273) Tryz.prog 114 f114 = true := by kernel_rfl
theorem ok_115 : okFun id gls (some 273) Tryz.prog 115 f115 = true := by kernel_rfl
theorem ok_116 : okFun id gls (some 273) Tryz.prog 116 f116 = true := by kernel_rfl
theorem ok_117 : okFun id gls (some 273) Tryz.prog 117 f117 = true := by kernel_rfl
theorem ok_119 : okFun id gls (some 273) Tryz.prog 119 f119 = true := by kernel_rfl
theorem ok_121 : okFun id gls (some 273) Tryz.prog 121 f121 = true := by kernel_rfl
theorem ok_163 : okFun id gls (some 273) Tryz.prog 163 f163 = true := by kernel_rfl
theorem ok_164 : okFun id gls (some 273) Tryz.prog 164 f164 = true := by kernel_rfl
theorem ok_165 : okFun id gls (some 273) Tryz.prog 165 f165 = true := by kernel_rfl
theorem ok_166 : okFun id gls (some 273) Tryz.prog 166 f166 = true := by kernel_rfl
theorem ok_167 : okFun id gls (some 273) Tryz.prog 167 f167 = true := by kernel_rfl
theorem ok_168 : okFun id gls (some 273) Tryz.prog 168 f168 = true := by kernel_rfl
theorem ok_169 : okFun id gls (some 273) Tryz.prog 169 f169 = true := by kernel_rfl
theorem ok_170 : okFun id gls (some 273) Tryz.prog 170 f170 = true := by kernel_rfl
theorem ok_171 : okFun id gls (some 273) Tryz.prog 171 f171 = true := by kernel_rfl
theorem ok_172 : okFun id gls (some 273) Tryz.prog 172 f172 = true := by kernel_rfl
theorem ok_173 : okFun id gls (some 273) Tryz.prog 173 f173 = true := by kernel_rfl
theorem ok_174 : okFun id gls (some 273) Tryz.prog 174 f174 = true := by kernel_rfl
theorem ok_175 : okFun id gls (some 273) Tryz.prog 175 f175 = true := by kernel_rfl
theorem ok_176 : okFun id gls (some 273) Tryz.prog 176 f176 = true := by kernel_rfl
theorem ok_177 : okFun id gls (some 273) Tryz.prog 177 f177 = true := by kernel_rfl
theorem ok_178 : okFun id gls (some 273) Tryz.prog 178 f178 = true := by kernel_rfl
theorem ok_179 : okFun id gls (some 273) Tryz.prog 179 f179 = true := by kernel_rfl
theorem ok_180 : okFun id gls (some 273) Tryz.prog 180 f180 = true := by kernel_rfl
theorem ok_181 : okFun id gls (some 273) Tryz.prog 181 f181 = true := by kernel_rfl
theorem ok_183 : okFun id gls (some 273) Tryz.prog 183 f183 = true := by kernel_rfl
theorem ok_186 : okFun id gls (some 273) Tryz.prog 186 f186 = true := by kernel_rfl
theorem ok_188 : okFun id gls (some 273) Tryz.prog 188 f188 = true := by kernel_rfl
theorem ok_189 : okFun id gls (some 273) Tryz.prog 189 f189 = true := by kernel_rfl
theorem ok_216 : okFun id gls (some 273) Tryz.prog 216 f216 = true := by kernel_rfl
theorem ok_217 : okFun id gls (some 273) Tryz.prog 217 f217 = true := by kernel_rfl
theorem ok_218 : okFun id gls (some 273) Tryz.prog 218 f218 = true := by kernel_rfl
theorem ok_220 : okFun id gls (some 273) Tryz.prog 220 f220 = true := by kernel_rfl
theorem ok_223 : okFun id gls (some 273) Tryz.prog 223 f223 = true := by kernel_rfl
theorem ok_227 : okFun id gls (some 273) Tryz.prog 227 f227 = true := by kernel_rfl
theorem ok_229 : okFun id gls (some 273) Tryz.prog 229 f229 = true := by kernel_rfl
theorem ok_230 : okFun id gls (some 273) Tryz.prog 230 f230 = true := by kernel_rfl
theorem ok_237 : okFun id gls (some 273) Tryz.prog 237 f237 = true := by kernel_rfl
theorem ok_274 : okFun id gls (some 273) Tryz.prog 274 f274 = true := by kernel_rfl
theorem ok_279 : okFun id gls (some 273) Tryz.prog 279 f279 = true := by kernel_rfl
theorem ok_280 : okFun id gls (some 273) Tryz.prog 280 f280 = true := by kernel_rfl
theorem ok_281 : okFun id gls (some 273) Tryz.prog 281 f281 = true := by kernel_rfl
theorem ok_282 : okFun id gls (some 273) Tryz.prog 282 f282 = true := by kernel_rfl
theorem ok_287 : okFun id gls (some 273) Tryz.prog 287 f287 = true := by kernel_rfl
theorem ok_308 : okFun id gls (some 273) Tryz.prog 308 f308 = true := by kernel_rfl
theorem ok_309 : okFun id gls (some 273) Tryz.prog 309 f309 = true := by kernel_rfl
theorem ok_310 : okFun id gls (some 273) Tryz.prog 310 f310 = true := by kernel_rfl
theorem ok_311 : okFun id gls (some 273) Tryz.prog 311 f311 = true := by kernel_rfl
theorem ok (f : Nat) (F : Fun) (h : fns f = some F) : okFun id gls (some 273) Tryz.prog f F = true := by
  unfold fns at h
  split at h
  · cases h; exact ok_4
  · cases h; exact ok_8
  · cases h; exact ok_9
  · cases h; exact ok_15
  · cases h; exact ok_16
  · cases h; exact ok_17
  · cases h; exact ok_19
  · cases h; exact ok_20
  · cases h; exact ok_21
  · cases h; exact ok_22
  · cases h; exact ok_23
  · cases h; exact ok_24
  · cases h; exact ok_25
  · cases h; exact ok_26
  · cases h; exact ok_43
  · cases h; exact ok_44
  · cases h; exact ok_45
  · cases h; exact ok_47
  · cases h; exact ok_50
  · cases h; exact ok_51
  · cases h; exact ok_52
  · cases h; exact ok_53
  · cases h; exact ok_54
  · cases h; exact ok_55
  · cases h; exact ok_57
  · cases h; exact ok_58
  · cases h; exact ok_59
  · cases h; exact ok_100
  · cases h; exact ok_101
  · cases h; exact ok_102
  · cases h; exact ok_103
  · cases h; exact ok_104
  · cases h; exact ok_105
  · cases h; exact ok_107
  · cases h; exact ok_108
  · cases h; exact ok_109
  · cases h; exact ok_111
  · cases h; exact ok_114
  · cases h; exact ok_115
  · cases h; exact ok_116
  · cases h; exact ok_117
  · cases h; exact ok_119
  · cases h; exact ok_121
  · cases h; exact ok_163
  · cases h; exact ok_164
  · cases h; exact ok_165
  · cases h; exact ok_166
  · cases h; exact ok_167
  · cases h; exact ok_168
  · cases h; exact ok_169
  · cases h; exact ok_170
  · cases h; exact ok_171
  · cases h; exact ok_172
  · cases h; exact ok_173
  · cases h; exact ok_174
  · cases h; exact ok_175
  · cases h; exact ok_176
  · cases h; exact ok_177
  · cases h; exact ok_178
  · cases h; exact ok_179
  · cases h; exact ok_180
  · cases h; exact ok_181
  · cases h; exact ok_183
  · cases h; exact ok_186
  · cases h; exact ok_188
  · cases h; exact ok_189
  · cases h; exact ok_216
  · cases h; exact ok_217
  · cases h; exact ok_218
  · cases h; exact ok_220
  · cases h; exact ok_223
  · cases h; exact ok_227
  · cases h; exact ok_229
  · cases h; exact ok_230
  · cases h; exact ok_237
  · cases h; exact ok_274
  · cases h; exact ok_279
  · cases h; exact ok_280
  · cases h; exact ok_281
  · cases h; exact ok_282
  · cases h; exact ok_287
  · cases h; exact ok_308
  · cases h; exact ok_309
  · cases h; exact ok_310
  · cases h; exact ok_311
  · cases h
theorem hix (f : Nat) (h : (some 273) = some f) (args : Array Value) (w : World) : (callFunc f args).run Tryz.prog w = ((Extern.BytealgIndexByte.indexByte args).run Tryz.prog w).andThen fun v w' => .ok (.value v) w' := by
  cases h
  exact run_callFunc_extern Tryz.func273 (by kernel_rfl) (by kernel_rfl) (by kernel_rfl) (by kernel_rfl) args w
end Go.Proofs.YtpcinbogdlhndaaGreatDoor.Ai
