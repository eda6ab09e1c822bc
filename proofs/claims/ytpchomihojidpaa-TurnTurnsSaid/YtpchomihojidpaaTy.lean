/- Facts about the program's types, by kernel_rfl, printed by gtypes.py. -/
import Derived.Test.YtpchomihojidpaaProg
import Derived.Test.YtpchomihojidpaaSlB
import Derived.KernelRfl
namespace Go.Proofs.Ytpchomihojidpaa
open Go.SL
theorem Ty.follows : Try.prog.follows .mixedOrders = true := by kernel_rfl
theorem Ty.some2 : someU Try.prog 2 = true := by kernel_rfl
theorem Ty.agg2 : aggB Try.prog 2 = false := by kernel_rfl
theorem Ty.size2 : sizeB Try.prog 2 = some 1 := by kernel_rfl
theorem Ty.bytes2 : bytesB Try.prog 2 = some 8 := by kernel_rfl
theorem Ty.zero2 : zeroB Try.prog 2 = some (.int .i64 0) := by kernel_rfl
theorem Ty.kind2 : kindB Try.prog 2 = some .i64 := by kernel_rfl
theorem Ty.some3 : someU Try.prog 3 = true := by kernel_rfl
theorem Ty.agg3 : aggB Try.prog 3 = false := by kernel_rfl
theorem Ty.size3 : sizeB Try.prog 3 = some 1 := by kernel_rfl
theorem Ty.kind3 : kindB Try.prog 3 = some .i64 := by kernel_rfl
theorem Ty.isbool4 : boolB Try.prog 4 = true := by kernel_rfl
theorem Ty.some21 : someU Try.prog 21 = true := by kernel_rfl
theorem Ty.agg21 : aggB Try.prog 21 = false := by kernel_rfl
theorem Ty.size21 : sizeB Try.prog 21 = some 1 := by kernel_rfl
theorem Ty.bytes21 : bytesB Try.prog 21 = some 4 := by kernel_rfl
theorem Ty.zero21 : zeroB Try.prog 21 = some (.int .i32 0) := by kernel_rfl
theorem Ty.kind21 : kindB Try.prog 21 = some .i32 := by kernel_rfl
theorem Ty.some22 : someU Try.prog 22 = true := by kernel_rfl
theorem Ty.agg22 : aggB Try.prog 22 = false := by kernel_rfl
theorem Ty.size22 : sizeB Try.prog 22 = some 1 := by kernel_rfl
theorem Ty.elem22 : elemB Try.prog 22 = some 2 := by kernel_rfl
theorem Ty.some25 : someU Try.prog 25 = true := by kernel_rfl
theorem Ty.agg25 : aggB Try.prog 25 = true := by kernel_rfl
theorem Ty.size25 : sizeB Try.prog 25 = some 3 := by kernel_rfl
theorem Ty.zero25 : zeroB Try.prog 25 = some (.agg #[(.int .i64 0), (.int .i64 0), (.slice none 0 0)]) := by kernel_rfl
theorem Ty.fs25 : fsB Try.prog 25 = true := by kernel_rfl
theorem Ty.fld25_0 : fieldB Try.prog 25 0 = some (0, 2) := by kernel_rfl
theorem Ty.fld25_1 : fieldB Try.prog 25 1 = some (1, 2) := by kernel_rfl
theorem Ty.fld25_2 : fieldB Try.prog 25 2 = some (2, 22) := by kernel_rfl
theorem Ty.ptr28 : ptrB Try.prog 28 = true := by kernel_rfl
theorem Ty.elem35 : elemB Try.prog 35 = some 46 := by kernel_rfl
theorem Ty.some46 : someU Try.prog 46 = true := by kernel_rfl
theorem Ty.agg46 : aggB Try.prog 46 = true := by kernel_rfl
theorem Ty.size46 : sizeB Try.prog 46 = some 2 := by kernel_rfl
theorem Ty.bytes46 : bytesB Try.prog 46 = some 16 := by kernel_rfl
theorem Ty.zero46 : zeroB Try.prog 46 = some (.agg #[(.int .i64 0), (.int .i64 0)]) := by kernel_rfl
theorem Ty.fs46 : fsB Try.prog 46 = true := by kernel_rfl
theorem Ty.fld46_0 : fieldB Try.prog 46 0 = some (0, 2) := by kernel_rfl
theorem Ty.fld46_1 : fieldB Try.prog 46 1 = some (1, 2) := by kernel_rfl
theorem Ty.some58 : someU Try.prog 58 = true := by kernel_rfl
theorem Ty.agg58 : aggB Try.prog 58 = true := by kernel_rfl
theorem Ty.size58 : sizeB Try.prog 58 = some 4 := by kernel_rfl
theorem Ty.bytes58 : bytesB Try.prog 58 = some 32 := by kernel_rfl
theorem Ty.zero58 : zeroB Try.prog 58 = some (.agg #[(.int .i64 0), (.int .i64 0), (.int .i64 0), (.int .i64 0)]) := by kernel_rfl
theorem Ty.fs58 : fsB Try.prog 58 = true := by kernel_rfl
theorem Ty.fld58_0 : fieldB Try.prog 58 0 = some (0, 2) := by kernel_rfl
theorem Ty.fld58_1 : fieldB Try.prog 58 1 = some (1, 2) := by kernel_rfl
theorem Ty.fld58_2 : fieldB Try.prog 58 2 = some (2, 2) := by kernel_rfl
theorem Ty.fld58_3 : fieldB Try.prog 58 3 = some (3, 2) := by kernel_rfl
theorem Ty.some165 : someU Try.prog 165 = true := by kernel_rfl
theorem Ty.agg165 : aggB Try.prog 165 = true := by kernel_rfl
theorem Ty.size165 : sizeB Try.prog 165 = some 2 := by kernel_rfl
theorem Ty.zero165 : zeroB Try.prog 165 = some (.agg #[(.int .i64 0), (.slice none 0 0)]) := by kernel_rfl
theorem Ty.fs165 : fsB Try.prog 165 = true := by kernel_rfl
theorem Ty.fld165_0 : fieldB Try.prog 165 0 = some (0, 3) := by kernel_rfl
theorem Ty.fld165_1 : fieldB Try.prog 165 1 = some (1, 22) := by kernel_rfl
theorem Ty.zero176 : zeroB Try.prog 176 = some (.agg #[(.int .i64 0), (.int .i64 0)]) := by kernel_rfl
theorem Ty.some194 : someU Try.prog 194 = true := by kernel_rfl
theorem Ty.agg194 : aggB Try.prog 194 = false := by kernel_rfl
theorem Ty.size194 : sizeB Try.prog 194 = some 1 := by kernel_rfl
theorem Ty.elem194 : elemB Try.prog 194 = some 198 := by kernel_rfl
theorem Ty.zero196 : zeroB Try.prog 196 = some (.agg #[(.int .i64 0), (.int .i64 0), (.int .i64 0), (.slice none 0 0)]) := by kernel_rfl
theorem Ty.fs196 : fsB Try.prog 196 = true := by kernel_rfl
theorem Ty.fld196_0 : fieldB Try.prog 196 0 = some (0, 2) := by kernel_rfl
theorem Ty.fld196_1 : fieldB Try.prog 196 1 = some (1, 2) := by kernel_rfl
theorem Ty.fld196_2 : fieldB Try.prog 196 2 = some (2, 2) := by kernel_rfl
theorem Ty.fld196_3 : fieldB Try.prog 196 3 = some (3, 194) := by kernel_rfl
theorem Ty.some198 : someU Try.prog 198 = true := by kernel_rfl
theorem Ty.agg198 : aggB Try.prog 198 = false := by kernel_rfl
theorem Ty.size198 : sizeB Try.prog 198 = some 1 := by kernel_rfl
theorem Ty.bytes198 : bytesB Try.prog 198 = some 8 := by kernel_rfl
theorem Ty.zero198 : zeroB Try.prog 198 = some (.pointer none) := by kernel_rfl
theorem Ty.ptr198 : ptrB Try.prog 198 = true := by kernel_rfl
theorem Ty.elem277 : elemB Try.prog 277 = some 58 := by kernel_rfl
theorem Ty.kind282 : kindB Try.prog 282 = some .u64 := by kernel_rfl
theorem Ty.some292 : someU Try.prog 292 = true := by kernel_rfl
theorem Ty.agg292 : aggB Try.prog 292 = false := by kernel_rfl
theorem Ty.size292 : sizeB Try.prog 292 = some 1 := by kernel_rfl
theorem Ty.zero294 : zeroB Try.prog 294 = some (.agg #[(.int .i64 0), (.int .i64 0), .nilIface]) := by kernel_rfl
theorem Ty.fs294 : fsB Try.prog 294 = true := by kernel_rfl
theorem Ty.fld294_0 : fieldB Try.prog 294 0 = some (0, 2) := by kernel_rfl
theorem Ty.fld294_1 : fieldB Try.prog 294 1 = some (1, 2) := by kernel_rfl
theorem Ty.fld294_2 : fieldB Try.prog 294 2 = some (2, 292) := by kernel_rfl
theorem Ty.zero335 : zeroB Try.prog 335 = some (.int .i32 0) := by kernel_rfl
theorem Ty.kind335 : kindB Try.prog 335 = some .i32 := by kernel_rfl
theorem Ty.val335 : valB Try.prog 335 = true := by kernel_rfl
theorem Ty.some344 : someU Try.prog 344 = true := by kernel_rfl
theorem Ty.agg344 : aggB Try.prog 344 = false := by kernel_rfl
theorem Ty.size344 : sizeB Try.prog 344 = some 1 := by kernel_rfl
theorem Ty.zero344 : zeroB Try.prog 344 = some (.slice none 0 0) := by kernel_rfl
theorem Ty.val344 : valB Try.prog 344 = true := by kernel_rfl
theorem Ty.elem344 : elemB Try.prog 344 = some 21 := by kernel_rfl
theorem Ty.meth335 : methB Try.prog 335 "hachure/slab.at" = some 336 := by kernel_rfl
theorem Ty.meth344 : methB Try.prog 344 "hachure/slab.at" = some 337 := by kernel_rfl
theorem Fn.call31 : callB Try.prog 31 = true := by kernel_rfl
theorem Fn.call32 : callB Try.prog 32 = true := by kernel_rfl
theorem Fn.call33 : callB Try.prog 33 = true := by kernel_rfl
theorem Fn.call34 : callB Try.prog 34 = true := by kernel_rfl
theorem Fn.call40 : callB Try.prog 40 = true := by kernel_rfl
theorem Fn.call42 : callB Try.prog 42 = true := by kernel_rfl
theorem Fn.call43 : callB Try.prog 43 = true := by kernel_rfl
theorem Fn.call44 : callB Try.prog 44 = true := by kernel_rfl
theorem Fn.call53 : callB Try.prog 53 = true := by kernel_rfl
theorem Fn.call54 : callB Try.prog 54 = true := by kernel_rfl
theorem Fn.call55 : callB Try.prog 55 = true := by kernel_rfl
theorem Fn.call56 : callB Try.prog 56 = true := by kernel_rfl
theorem Fn.call84 : callB Try.prog 84 = true := by kernel_rfl
theorem Fn.call85 : callB Try.prog 85 = true := by kernel_rfl
theorem Fn.call116 : callB Try.prog 116 = true := by kernel_rfl
theorem Fn.call117 : callB Try.prog 117 = true := by kernel_rfl
theorem Fn.call118 : callB Try.prog 118 = true := by kernel_rfl
theorem Fn.call119 : callB Try.prog 119 = true := by kernel_rfl
theorem Fn.call120 : callB Try.prog 120 = true := by kernel_rfl
theorem Fn.call121 : callB Try.prog 121 = true := by kernel_rfl
theorem Fn.call122 : callB Try.prog 122 = true := by kernel_rfl
theorem Fn.call125 : callB Try.prog 125 = true := by kernel_rfl
theorem Fn.call127 : callB Try.prog 127 = true := by kernel_rfl
theorem Fn.call128 : callB Try.prog 128 = true := by kernel_rfl
theorem Fn.call137 : callB Try.prog 137 = true := by kernel_rfl
theorem Fn.call138 : callB Try.prog 138 = true := by kernel_rfl
theorem Fn.call139 : callB Try.prog 139 = true := by kernel_rfl
theorem Fn.call161 : callB Try.prog 161 = true := by kernel_rfl
theorem Fn.call162 : callB Try.prog 162 = true := by kernel_rfl
theorem Fn.call163 : callB Try.prog 163 = true := by kernel_rfl
theorem Fn.call164 : callB Try.prog 164 = true := by kernel_rfl
theorem Fn.call165 : callB Try.prog 165 = true := by kernel_rfl
theorem Fn.call198 : callB Try.prog 198 = true := by kernel_rfl
theorem Fn.call199 : callB Try.prog 199 = true := by kernel_rfl
theorem Fn.call200 : callB Try.prog 200 = true := by kernel_rfl
theorem Fn.call201 : callB Try.prog 201 = true := by kernel_rfl
theorem Fn.call202 : callB Try.prog 202 = true := by kernel_rfl
theorem Fn.call203 : callB Try.prog 203 = true := by kernel_rfl
theorem Fn.call204 : callB Try.prog 204 = true := by kernel_rfl
theorem Fn.call205 : callB Try.prog 205 = true := by kernel_rfl
theorem Fn.call212 : callB Try.prog 212 = true := by kernel_rfl
theorem Fn.call231 : callB Try.prog 231 = true := by kernel_rfl
theorem Fn.call232 : callB Try.prog 232 = true := by kernel_rfl
theorem Fn.call233 : callB Try.prog 233 = true := by kernel_rfl
theorem Fn.call251 : callB Try.prog 251 = true := by kernel_rfl
theorem Fn.call252 : callB Try.prog 252 = true := by kernel_rfl
theorem Fn.call253 : callB Try.prog 253 = true := by kernel_rfl
theorem Fn.call254 : callB Try.prog 254 = true := by kernel_rfl
theorem Fn.call255 : callB Try.prog 255 = true := by kernel_rfl
theorem Fn.call256 : callB Try.prog 256 = true := by kernel_rfl
theorem Fn.call257 : callB Try.prog 257 = true := by kernel_rfl
theorem Fn.call258 : callB Try.prog 258 = true := by kernel_rfl
theorem Fn.call259 : callB Try.prog 259 = true := by kernel_rfl
theorem Fn.call261 : callB Try.prog 261 = true := by kernel_rfl
theorem Fn.call289 : callB Try.prog 289 = true := by kernel_rfl
theorem Fn.call290 : callB Try.prog 290 = true := by kernel_rfl
theorem Fn.call291 : callB Try.prog 291 = true := by kernel_rfl
theorem Fn.call292 : callB Try.prog 292 = true := by kernel_rfl
theorem Fn.call293 : callB Try.prog 293 = true := by kernel_rfl
theorem Fn.call305 : callB Try.prog 305 = true := by kernel_rfl
theorem Fn.call306 : callB Try.prog 306 = true := by kernel_rfl
theorem Fn.call336 : callB Try.prog 336 = true := by kernel_rfl
theorem Fn.call337 : callB Try.prog 337 = true := by kernel_rfl
end Go.Proofs.Ytpchomihojidpaa
