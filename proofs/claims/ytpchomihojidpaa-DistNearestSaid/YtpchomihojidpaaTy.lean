/- Facts about the program's types, by kernel_rfl, printed by gtypes.py. -/
import Derived.Test.YtpchomihojidpaaProg
import Derived.Test.YtpchomihojidpaaSl13
import Derived.KernelRfl
namespace Go.Proofs.Ytpchomihojidpaa
open Go.SL
theorem Ty.follows : Try.prog.follows .mixedOrders = true := by kernel_rfl
theorem Ty.some0 : someU Try.prog 0 = true := by kernel_rfl
theorem Ty.agg0 : aggB Try.prog 0 = false := by kernel_rfl
theorem Ty.size0 : sizeB Try.prog 0 = some 1 := by kernel_rfl
theorem Ty.bytes0 : bytesB Try.prog 0 = some 0 := by kernel_rfl
theorem Ty.zero0 : zeroB Try.prog 0 = some (.tuple #[]) := by kernel_rfl
theorem Ty.val0 : valB Try.prog 0 = true := by kernel_rfl
theorem Ty.some2 : someU Try.prog 2 = true := by kernel_rfl
theorem Ty.agg2 : aggB Try.prog 2 = false := by kernel_rfl
theorem Ty.size2 : sizeB Try.prog 2 = some 1 := by kernel_rfl
theorem Ty.bytes2 : bytesB Try.prog 2 = some 8 := by kernel_rfl
theorem Ty.zero2 : zeroB Try.prog 2 = some (.int .i64 0) := by kernel_rfl
theorem Ty.kind2 : kindB Try.prog 2 = some .i64 := by kernel_rfl
theorem Ty.val2 : valB Try.prog 2 = true := by kernel_rfl
theorem Ty.some3 : someU Try.prog 3 = true := by kernel_rfl
theorem Ty.agg3 : aggB Try.prog 3 = false := by kernel_rfl
theorem Ty.size3 : sizeB Try.prog 3 = some 1 := by kernel_rfl
theorem Ty.bytes3 : bytesB Try.prog 3 = some 8 := by kernel_rfl
theorem Ty.zero3 : zeroB Try.prog 3 = some (.int .i64 0) := by kernel_rfl
theorem Ty.kind3 : kindB Try.prog 3 = some .i64 := by kernel_rfl
theorem Ty.val3 : valB Try.prog 3 = true := by kernel_rfl
theorem Ty.some4 : someU Try.prog 4 = true := by kernel_rfl
theorem Ty.agg4 : aggB Try.prog 4 = false := by kernel_rfl
theorem Ty.size4 : sizeB Try.prog 4 = some 1 := by kernel_rfl
theorem Ty.bytes4 : bytesB Try.prog 4 = some 1 := by kernel_rfl
theorem Ty.zero4 : zeroB Try.prog 4 = some (.bool false) := by kernel_rfl
theorem Ty.val4 : valB Try.prog 4 = true := by kernel_rfl
theorem Ty.isbool4 : boolB Try.prog 4 = true := by kernel_rfl
theorem Ty.some5 : someU Try.prog 5 = true := by kernel_rfl
theorem Ty.agg5 : aggB Try.prog 5 = false := by kernel_rfl
theorem Ty.size5 : sizeB Try.prog 5 = some 1 := by kernel_rfl
theorem Ty.bytes5 : bytesB Try.prog 5 = some 1 := by kernel_rfl
theorem Ty.zero5 : zeroB Try.prog 5 = some (.int .u8 0) := by kernel_rfl
theorem Ty.kind5 : kindB Try.prog 5 = some .u8 := by kernel_rfl
theorem Ty.val5 : valB Try.prog 5 = true := by kernel_rfl
theorem Ty.some6 : someU Try.prog 6 = true := by kernel_rfl
theorem Ty.agg6 : aggB Try.prog 6 = false := by kernel_rfl
theorem Ty.size6 : sizeB Try.prog 6 = some 1 := by kernel_rfl
theorem Ty.bytes6 : bytesB Try.prog 6 = some 1 := by kernel_rfl
theorem Ty.zero6 : zeroB Try.prog 6 = some (.int .u8 0) := by kernel_rfl
theorem Ty.kind6 : kindB Try.prog 6 = some .u8 := by kernel_rfl
theorem Ty.val6 : valB Try.prog 6 = true := by kernel_rfl
theorem Ty.some7 : someU Try.prog 7 = true := by kernel_rfl
theorem Ty.agg7 : aggB Try.prog 7 = true := by kernel_rfl
theorem Ty.size7 : sizeB Try.prog 7 = some 4 := by kernel_rfl
theorem Ty.bytes7 : bytesB Try.prog 7 = some 24 := by kernel_rfl
theorem Ty.zero7 : zeroB Try.prog 7 = some (.agg #[(.int .i64 0), (.int .i64 0), (.bool false), (.int .u8 0)]) := by kernel_rfl
theorem Ty.val7 : valB Try.prog 7 = true := by kernel_rfl
theorem Ty.fs7 : fsB Try.prog 7 = true := by kernel_rfl
theorem Ty.fld7_0 : fieldB Try.prog 7 0 = some (0, 2) := by kernel_rfl
theorem Ty.fld7_1 : fieldB Try.prog 7 1 = some (1, 3) := by kernel_rfl
theorem Ty.fld7_2 : fieldB Try.prog 7 2 = some (2, 4) := by kernel_rfl
theorem Ty.fld7_3 : fieldB Try.prog 7 3 = some (3, 6) := by kernel_rfl
theorem Ty.some8 : someU Try.prog 8 = true := by kernel_rfl
theorem Ty.agg8 : aggB Try.prog 8 = true := by kernel_rfl
theorem Ty.size8 : sizeB Try.prog 8 = some 4 := by kernel_rfl
theorem Ty.bytes8 : bytesB Try.prog 8 = some 24 := by kernel_rfl
theorem Ty.zero8 : zeroB Try.prog 8 = some (.agg #[(.int .i64 0), (.int .i64 0), (.bool false), (.int .u8 0)]) := by kernel_rfl
theorem Ty.val8 : valB Try.prog 8 = true := by kernel_rfl
theorem Ty.fs8 : fsB Try.prog 8 = true := by kernel_rfl
theorem Ty.fld8_0 : fieldB Try.prog 8 0 = some (0, 2) := by kernel_rfl
theorem Ty.fld8_1 : fieldB Try.prog 8 1 = some (1, 3) := by kernel_rfl
theorem Ty.fld8_2 : fieldB Try.prog 8 2 = some (2, 4) := by kernel_rfl
theorem Ty.fld8_3 : fieldB Try.prog 8 3 = some (3, 6) := by kernel_rfl
theorem Ty.some9 : someU Try.prog 9 = true := by kernel_rfl
theorem Ty.agg9 : aggB Try.prog 9 = false := by kernel_rfl
theorem Ty.size9 : sizeB Try.prog 9 = some 1 := by kernel_rfl
theorem Ty.bytes9 : bytesB Try.prog 9 = some 16 := by kernel_rfl
theorem Ty.zero9 : zeroB Try.prog 9 = some (.string ByteArray.empty) := by kernel_rfl
theorem Ty.val9 : valB Try.prog 9 = true := by kernel_rfl
theorem Ty.some10 : someU Try.prog 10 = true := by kernel_rfl
theorem Ty.agg10 : aggB Try.prog 10 = false := by kernel_rfl
theorem Ty.size10 : sizeB Try.prog 10 = some 1 := by kernel_rfl
theorem Ty.bytes10 : bytesB Try.prog 10 = some 16 := by kernel_rfl
theorem Ty.zero10 : zeroB Try.prog 10 = some (.string ByteArray.empty) := by kernel_rfl
theorem Ty.val10 : valB Try.prog 10 = true := by kernel_rfl
theorem Ty.some11 : someU Try.prog 11 = true := by kernel_rfl
theorem Ty.agg11 : aggB Try.prog 11 = false := by kernel_rfl
theorem Ty.size11 : sizeB Try.prog 11 = some 1 := by kernel_rfl
theorem Ty.bytes11 : bytesB Try.prog 11 = some 16 := by kernel_rfl
theorem Ty.zero11 : zeroB Try.prog 11 = some (.string ByteArray.empty) := by kernel_rfl
theorem Ty.val11 : valB Try.prog 11 = true := by kernel_rfl
theorem Ty.some12 : someU Try.prog 12 = true := by kernel_rfl
theorem Ty.agg12 : aggB Try.prog 12 = false := by kernel_rfl
theorem Ty.size12 : sizeB Try.prog 12 = some 1 := by kernel_rfl
theorem Ty.bytes12 : bytesB Try.prog 12 = some 8 := by kernel_rfl
theorem Ty.zero12 : zeroB Try.prog 12 = some (.int .u64 0) := by kernel_rfl
theorem Ty.kind12 : kindB Try.prog 12 = some .u64 := by kernel_rfl
theorem Ty.val12 : valB Try.prog 12 = true := by kernel_rfl
theorem Ty.some13 : someU Try.prog 13 = true := by kernel_rfl
theorem Ty.agg13 : aggB Try.prog 13 = true := by kernel_rfl
theorem Ty.size13 : sizeB Try.prog 13 = some 2 := by kernel_rfl
theorem Ty.bytes13 : bytesB Try.prog 13 = some 24 := by kernel_rfl
theorem Ty.zero13 : zeroB Try.prog 13 = some (.agg #[(.string ByteArray.empty), (.int .u64 0)]) := by kernel_rfl
theorem Ty.val13 : valB Try.prog 13 = true := by kernel_rfl
theorem Ty.fs13 : fsB Try.prog 13 = true := by kernel_rfl
theorem Ty.fld13_0 : fieldB Try.prog 13 0 = some (0, 9) := by kernel_rfl
theorem Ty.fld13_1 : fieldB Try.prog 13 1 = some (1, 12) := by kernel_rfl
theorem Ty.some14 : someU Try.prog 14 = true := by kernel_rfl
theorem Ty.agg14 : aggB Try.prog 14 = true := by kernel_rfl
theorem Ty.size14 : sizeB Try.prog 14 = some 2 := by kernel_rfl
theorem Ty.bytes14 : bytesB Try.prog 14 = some 24 := by kernel_rfl
theorem Ty.zero14 : zeroB Try.prog 14 = some (.agg #[(.string ByteArray.empty), (.int .u64 0)]) := by kernel_rfl
theorem Ty.val14 : valB Try.prog 14 = true := by kernel_rfl
theorem Ty.fs14 : fsB Try.prog 14 = true := by kernel_rfl
theorem Ty.fld14_0 : fieldB Try.prog 14 0 = some (0, 9) := by kernel_rfl
theorem Ty.fld14_1 : fieldB Try.prog 14 1 = some (1, 12) := by kernel_rfl
theorem Ty.some15 : someU Try.prog 15 = true := by kernel_rfl
theorem Ty.agg15 : aggB Try.prog 15 = false := by kernel_rfl
theorem Ty.size15 : sizeB Try.prog 15 = some 1 := by kernel_rfl
theorem Ty.bytes15 : bytesB Try.prog 15 = some 8 := by kernel_rfl
theorem Ty.zero15 : zeroB Try.prog 15 = some (.pointer none) := by kernel_rfl
theorem Ty.val15 : valB Try.prog 15 = true := by kernel_rfl
theorem Ty.ptr15 : ptrB Try.prog 15 = true := by kernel_rfl
theorem Ty.some16 : someU Try.prog 16 = true := by kernel_rfl
theorem Ty.agg16 : aggB Try.prog 16 = false := by kernel_rfl
theorem Ty.size16 : sizeB Try.prog 16 = some 1 := by kernel_rfl
theorem Ty.bytes16 : bytesB Try.prog 16 = some 8 := by kernel_rfl
theorem Ty.zero16 : zeroB Try.prog 16 = some (.pointer none) := by kernel_rfl
theorem Ty.val16 : valB Try.prog 16 = true := by kernel_rfl
theorem Ty.ptr16 : ptrB Try.prog 16 = true := by kernel_rfl
theorem Ty.some17 : someU Try.prog 17 = true := by kernel_rfl
theorem Ty.agg17 : aggB Try.prog 17 = false := by kernel_rfl
theorem Ty.size17 : sizeB Try.prog 17 = some 1 := by kernel_rfl
theorem Ty.bytes17 : bytesB Try.prog 17 = some 8 := by kernel_rfl
theorem Ty.zero17 : zeroB Try.prog 17 = some (.pointer none) := by kernel_rfl
theorem Ty.val17 : valB Try.prog 17 = true := by kernel_rfl
theorem Ty.ptr17 : ptrB Try.prog 17 = true := by kernel_rfl
theorem Ty.some18 : someU Try.prog 18 = true := by kernel_rfl
theorem Ty.agg18 : aggB Try.prog 18 = true := by kernel_rfl
theorem Ty.size18 : sizeB Try.prog 18 = some 1 := by kernel_rfl
theorem Ty.bytes18 : bytesB Try.prog 18 = some 8 := by kernel_rfl
theorem Ty.zero18 : zeroB Try.prog 18 = some (.agg #[(.pointer none)]) := by kernel_rfl
theorem Ty.val18 : valB Try.prog 18 = true := by kernel_rfl
theorem Ty.fs18 : fsB Try.prog 18 = true := by kernel_rfl
theorem Ty.fld18_0 : fieldB Try.prog 18 0 = some (0, 17) := by kernel_rfl
theorem Ty.some19 : someU Try.prog 19 = true := by kernel_rfl
theorem Ty.agg19 : aggB Try.prog 19 = true := by kernel_rfl
theorem Ty.size19 : sizeB Try.prog 19 = some 1 := by kernel_rfl
theorem Ty.bytes19 : bytesB Try.prog 19 = some 8 := by kernel_rfl
theorem Ty.zero19 : zeroB Try.prog 19 = some (.agg #[(.pointer none)]) := by kernel_rfl
theorem Ty.val19 : valB Try.prog 19 = true := by kernel_rfl
theorem Ty.fs19 : fsB Try.prog 19 = true := by kernel_rfl
theorem Ty.fld19_0 : fieldB Try.prog 19 0 = some (0, 17) := by kernel_rfl
theorem Ty.some20 : someU Try.prog 20 = true := by kernel_rfl
theorem Ty.agg20 : aggB Try.prog 20 = false := by kernel_rfl
theorem Ty.size20 : sizeB Try.prog 20 = some 1 := by kernel_rfl
theorem Ty.bytes20 : bytesB Try.prog 20 = some 16 := by kernel_rfl
theorem Ty.zero20 : zeroB Try.prog 20 = some .nilIface := by kernel_rfl
theorem Ty.some21 : someU Try.prog 21 = true := by kernel_rfl
theorem Ty.agg21 : aggB Try.prog 21 = false := by kernel_rfl
theorem Ty.size21 : sizeB Try.prog 21 = some 1 := by kernel_rfl
theorem Ty.bytes21 : bytesB Try.prog 21 = some 4 := by kernel_rfl
theorem Ty.zero21 : zeroB Try.prog 21 = some (.int .i32 0) := by kernel_rfl
theorem Ty.kind21 : kindB Try.prog 21 = some .i32 := by kernel_rfl
theorem Ty.val21 : valB Try.prog 21 = true := by kernel_rfl
theorem Ty.some22 : someU Try.prog 22 = true := by kernel_rfl
theorem Ty.agg22 : aggB Try.prog 22 = false := by kernel_rfl
theorem Ty.size22 : sizeB Try.prog 22 = some 1 := by kernel_rfl
theorem Ty.bytes22 : bytesB Try.prog 22 = some 24 := by kernel_rfl
theorem Ty.zero22 : zeroB Try.prog 22 = some (.slice none 0 0) := by kernel_rfl
theorem Ty.val22 : valB Try.prog 22 = true := by kernel_rfl
theorem Ty.elem22 : elemB Try.prog 22 = some 2 := by kernel_rfl
theorem Ty.some24 : someU Try.prog 24 = true := by kernel_rfl
theorem Ty.agg24 : aggB Try.prog 24 = true := by kernel_rfl
theorem Ty.size24 : sizeB Try.prog 24 = some 3 := by kernel_rfl
theorem Ty.bytes24 : bytesB Try.prog 24 = some 40 := by kernel_rfl
theorem Ty.zero24 : zeroB Try.prog 24 = some (.agg #[(.int .i64 0), (.int .i64 0), (.slice none 0 0)]) := by kernel_rfl
theorem Ty.val24 : valB Try.prog 24 = true := by kernel_rfl
theorem Ty.fs24 : fsB Try.prog 24 = true := by kernel_rfl
theorem Ty.fld24_0 : fieldB Try.prog 24 0 = some (0, 2) := by kernel_rfl
theorem Ty.fld24_1 : fieldB Try.prog 24 1 = some (1, 2) := by kernel_rfl
theorem Ty.fld24_2 : fieldB Try.prog 24 2 = some (2, 22) := by kernel_rfl
theorem Ty.some25 : someU Try.prog 25 = true := by kernel_rfl
theorem Ty.agg25 : aggB Try.prog 25 = true := by kernel_rfl
theorem Ty.size25 : sizeB Try.prog 25 = some 3 := by kernel_rfl
theorem Ty.bytes25 : bytesB Try.prog 25 = some 40 := by kernel_rfl
theorem Ty.zero25 : zeroB Try.prog 25 = some (.agg #[(.int .i64 0), (.int .i64 0), (.slice none 0 0)]) := by kernel_rfl
theorem Ty.val25 : valB Try.prog 25 = true := by kernel_rfl
theorem Ty.fs25 : fsB Try.prog 25 = true := by kernel_rfl
theorem Ty.fld25_0 : fieldB Try.prog 25 0 = some (0, 2) := by kernel_rfl
theorem Ty.fld25_1 : fieldB Try.prog 25 1 = some (1, 2) := by kernel_rfl
theorem Ty.fld25_2 : fieldB Try.prog 25 2 = some (2, 22) := by kernel_rfl
theorem Ty.some26 : someU Try.prog 26 = true := by kernel_rfl
theorem Ty.agg26 : aggB Try.prog 26 = false := by kernel_rfl
theorem Ty.size26 : sizeB Try.prog 26 = some 1 := by kernel_rfl
theorem Ty.bytes26 : bytesB Try.prog 26 = some 0 := by kernel_rfl
theorem Ty.zero26 : zeroB Try.prog 26 = some (.tuple #[(.agg #[(.int .i64 0), (.int .i64 0), (.slice none 0 0)]), (.bool false)]) := by kernel_rfl
theorem Ty.val26 : valB Try.prog 26 = true := by kernel_rfl
theorem Ty.some28 : someU Try.prog 28 = true := by kernel_rfl
theorem Ty.agg28 : aggB Try.prog 28 = false := by kernel_rfl
theorem Ty.size28 : sizeB Try.prog 28 = some 1 := by kernel_rfl
theorem Ty.bytes28 : bytesB Try.prog 28 = some 8 := by kernel_rfl
theorem Ty.zero28 : zeroB Try.prog 28 = some (.pointer none) := by kernel_rfl
theorem Ty.val28 : valB Try.prog 28 = true := by kernel_rfl
theorem Ty.ptr28 : ptrB Try.prog 28 = true := by kernel_rfl
theorem Ty.some29 : someU Try.prog 29 = true := by kernel_rfl
theorem Ty.agg29 : aggB Try.prog 29 = false := by kernel_rfl
theorem Ty.size29 : sizeB Try.prog 29 = some 1 := by kernel_rfl
theorem Ty.bytes29 : bytesB Try.prog 29 = some 0 := by kernel_rfl
theorem Ty.zero29 : zeroB Try.prog 29 = some (.tuple #[(.pointer none), (.bool false)]) := by kernel_rfl
theorem Ty.val29 : valB Try.prog 29 = true := by kernel_rfl
theorem Ty.some31 : someU Try.prog 31 = true := by kernel_rfl
theorem Ty.agg31 : aggB Try.prog 31 = false := by kernel_rfl
theorem Ty.size31 : sizeB Try.prog 31 = some 1 := by kernel_rfl
theorem Ty.bytes31 : bytesB Try.prog 31 = some 8 := by kernel_rfl
theorem Ty.zero31 : zeroB Try.prog 31 = some (.int .i64 0) := by kernel_rfl
theorem Ty.kind31 : kindB Try.prog 31 = some .i64 := by kernel_rfl
theorem Ty.val31 : valB Try.prog 31 = true := by kernel_rfl
theorem Ty.some32 : someU Try.prog 32 = true := by kernel_rfl
theorem Ty.agg32 : aggB Try.prog 32 = false := by kernel_rfl
theorem Ty.size32 : sizeB Try.prog 32 = some 1 := by kernel_rfl
theorem Ty.bytes32 : bytesB Try.prog 32 = some 0 := by kernel_rfl
theorem Ty.zero32 : zeroB Try.prog 32 = some (.tuple #[(.slice none 0 0), (.int .i64 0)]) := by kernel_rfl
theorem Ty.val32 : valB Try.prog 32 = true := by kernel_rfl
theorem Ty.some35 : someU Try.prog 35 = true := by kernel_rfl
theorem Ty.agg35 : aggB Try.prog 35 = false := by kernel_rfl
theorem Ty.size35 : sizeB Try.prog 35 = some 1 := by kernel_rfl
theorem Ty.bytes35 : bytesB Try.prog 35 = some 24 := by kernel_rfl
theorem Ty.zero35 : zeroB Try.prog 35 = some (.slice none 0 0) := by kernel_rfl
theorem Ty.val35 : valB Try.prog 35 = true := by kernel_rfl
theorem Ty.elem35 : elemB Try.prog 35 = some 46 := by kernel_rfl
theorem Ty.some36 : someU Try.prog 36 = true := by kernel_rfl
theorem Ty.agg36 : aggB Try.prog 36 = false := by kernel_rfl
theorem Ty.size36 : sizeB Try.prog 36 = some 1 := by kernel_rfl
theorem Ty.bytes36 : bytesB Try.prog 36 = some 0 := by kernel_rfl
theorem Ty.zero36 : zeroB Try.prog 36 = some (.tuple #[(.pointer none), (.slice none 0 0), (.int .i64 0)]) := by kernel_rfl
theorem Ty.val36 : valB Try.prog 36 = true := by kernel_rfl
theorem Ty.some38 : someU Try.prog 38 = true := by kernel_rfl
theorem Ty.agg38 : aggB Try.prog 38 = false := by kernel_rfl
theorem Ty.size38 : sizeB Try.prog 38 = some 1 := by kernel_rfl
theorem Ty.bytes38 : bytesB Try.prog 38 = some 0 := by kernel_rfl
theorem Ty.zero38 : zeroB Try.prog 38 = some (.tuple #[(.pointer none), (.int .i64 0)]) := by kernel_rfl
theorem Ty.val38 : valB Try.prog 38 = true := by kernel_rfl
theorem Ty.some45 : someU Try.prog 45 = true := by kernel_rfl
theorem Ty.agg45 : aggB Try.prog 45 = true := by kernel_rfl
theorem Ty.size45 : sizeB Try.prog 45 = some 2 := by kernel_rfl
theorem Ty.bytes45 : bytesB Try.prog 45 = some 16 := by kernel_rfl
theorem Ty.zero45 : zeroB Try.prog 45 = some (.agg #[(.int .i64 0), (.int .i64 0)]) := by kernel_rfl
theorem Ty.val45 : valB Try.prog 45 = true := by kernel_rfl
theorem Ty.fs45 : fsB Try.prog 45 = true := by kernel_rfl
theorem Ty.fld45_0 : fieldB Try.prog 45 0 = some (0, 2) := by kernel_rfl
theorem Ty.fld45_1 : fieldB Try.prog 45 1 = some (1, 2) := by kernel_rfl
theorem Ty.some46 : someU Try.prog 46 = true := by kernel_rfl
theorem Ty.agg46 : aggB Try.prog 46 = true := by kernel_rfl
theorem Ty.size46 : sizeB Try.prog 46 = some 2 := by kernel_rfl
theorem Ty.bytes46 : bytesB Try.prog 46 = some 16 := by kernel_rfl
theorem Ty.zero46 : zeroB Try.prog 46 = some (.agg #[(.int .i64 0), (.int .i64 0)]) := by kernel_rfl
theorem Ty.val46 : valB Try.prog 46 = true := by kernel_rfl
theorem Ty.fs46 : fsB Try.prog 46 = true := by kernel_rfl
theorem Ty.fld46_0 : fieldB Try.prog 46 0 = some (0, 2) := by kernel_rfl
theorem Ty.fld46_1 : fieldB Try.prog 46 1 = some (1, 2) := by kernel_rfl
theorem Ty.some47 : someU Try.prog 47 = true := by kernel_rfl
theorem Ty.agg47 : aggB Try.prog 47 = false := by kernel_rfl
theorem Ty.size47 : sizeB Try.prog 47 = some 1 := by kernel_rfl
theorem Ty.bytes47 : bytesB Try.prog 47 = some 0 := by kernel_rfl
theorem Ty.zero47 : zeroB Try.prog 47 = some (.tuple #[(.agg #[(.int .i64 0), (.int .i64 0)]), (.int .i64 0), (.bool false), (.int .i64 0)]) := by kernel_rfl
theorem Ty.val47 : valB Try.prog 47 = true := by kernel_rfl
theorem Ty.some49 : someU Try.prog 49 = true := by kernel_rfl
theorem Ty.agg49 : aggB Try.prog 49 = false := by kernel_rfl
theorem Ty.size49 : sizeB Try.prog 49 = some 1 := by kernel_rfl
theorem Ty.bytes49 : bytesB Try.prog 49 = some 0 := by kernel_rfl
theorem Ty.zero49 : zeroB Try.prog 49 = some (.tuple #[(.int .i64 0), (.int .i64 0)]) := by kernel_rfl
theorem Ty.val49 : valB Try.prog 49 = true := by kernel_rfl
theorem Ty.some51 : someU Try.prog 51 = true := by kernel_rfl
theorem Ty.agg51 : aggB Try.prog 51 = false := by kernel_rfl
theorem Ty.size51 : sizeB Try.prog 51 = some 1 := by kernel_rfl
theorem Ty.bytes51 : bytesB Try.prog 51 = some 0 := by kernel_rfl
theorem Ty.zero51 : zeroB Try.prog 51 = some (.tuple #[(.agg #[(.int .i64 0), (.int .i64 0)]), (.int .i64 0), (.bool false)]) := by kernel_rfl
theorem Ty.val51 : valB Try.prog 51 = true := by kernel_rfl
theorem Ty.some54 : someU Try.prog 54 = true := by kernel_rfl
theorem Ty.agg54 : aggB Try.prog 54 = false := by kernel_rfl
theorem Ty.size54 : sizeB Try.prog 54 = some 1 := by kernel_rfl
theorem Ty.bytes54 : bytesB Try.prog 54 = some 24 := by kernel_rfl
theorem Ty.zero54 : zeroB Try.prog 54 = some (.slice none 0 0) := by kernel_rfl
theorem Ty.val54 : valB Try.prog 54 = true := by kernel_rfl
theorem Ty.elem54 : elemB Try.prog 54 = some 60 := by kernel_rfl
theorem Ty.some55 : someU Try.prog 55 = true := by kernel_rfl
theorem Ty.agg55 : aggB Try.prog 55 = false := by kernel_rfl
theorem Ty.size55 : sizeB Try.prog 55 = some 1 := by kernel_rfl
theorem Ty.bytes55 : bytesB Try.prog 55 = some 0 := by kernel_rfl
theorem Ty.zero55 : zeroB Try.prog 55 = some (.tuple #[(.slice none 0 0), (.slice none 0 0), (.int .i64 0)]) := by kernel_rfl
theorem Ty.val55 : valB Try.prog 55 = true := by kernel_rfl
theorem Ty.some57 : someU Try.prog 57 = true := by kernel_rfl
theorem Ty.agg57 : aggB Try.prog 57 = true := by kernel_rfl
theorem Ty.size57 : sizeB Try.prog 57 = some 4 := by kernel_rfl
theorem Ty.bytes57 : bytesB Try.prog 57 = some 32 := by kernel_rfl
theorem Ty.zero57 : zeroB Try.prog 57 = some (.agg #[(.int .i64 0), (.int .i64 0), (.int .i64 0), (.int .i64 0)]) := by kernel_rfl
theorem Ty.val57 : valB Try.prog 57 = true := by kernel_rfl
theorem Ty.fs57 : fsB Try.prog 57 = true := by kernel_rfl
theorem Ty.fld57_0 : fieldB Try.prog 57 0 = some (0, 2) := by kernel_rfl
theorem Ty.fld57_1 : fieldB Try.prog 57 1 = some (1, 2) := by kernel_rfl
theorem Ty.fld57_2 : fieldB Try.prog 57 2 = some (2, 2) := by kernel_rfl
theorem Ty.fld57_3 : fieldB Try.prog 57 3 = some (3, 2) := by kernel_rfl
theorem Ty.some58 : someU Try.prog 58 = true := by kernel_rfl
theorem Ty.agg58 : aggB Try.prog 58 = true := by kernel_rfl
theorem Ty.size58 : sizeB Try.prog 58 = some 4 := by kernel_rfl
theorem Ty.bytes58 : bytesB Try.prog 58 = some 32 := by kernel_rfl
theorem Ty.zero58 : zeroB Try.prog 58 = some (.agg #[(.int .i64 0), (.int .i64 0), (.int .i64 0), (.int .i64 0)]) := by kernel_rfl
theorem Ty.val58 : valB Try.prog 58 = true := by kernel_rfl
theorem Ty.fs58 : fsB Try.prog 58 = true := by kernel_rfl
theorem Ty.fld58_0 : fieldB Try.prog 58 0 = some (0, 2) := by kernel_rfl
theorem Ty.fld58_1 : fieldB Try.prog 58 1 = some (1, 2) := by kernel_rfl
theorem Ty.fld58_2 : fieldB Try.prog 58 2 = some (2, 2) := by kernel_rfl
theorem Ty.fld58_3 : fieldB Try.prog 58 3 = some (3, 2) := by kernel_rfl
theorem Ty.some59 : someU Try.prog 59 = true := by kernel_rfl
theorem Ty.agg59 : aggB Try.prog 59 = true := by kernel_rfl
theorem Ty.size59 : sizeB Try.prog 59 = some 8 := by kernel_rfl
theorem Ty.bytes59 : bytesB Try.prog 59 = some 64 := by kernel_rfl
theorem Ty.zero59 : zeroB Try.prog 59 = some (.agg #[(.int .i64 0), (.int .i64 0), (.int .i64 0), (.int .i64 0), (.int .i64 0), (.int .i64 0), (.int .i64 0), (.int .i64 0)]) := by kernel_rfl
theorem Ty.val59 : valB Try.prog 59 = true := by kernel_rfl
theorem Ty.fs59 : fsB Try.prog 59 = true := by kernel_rfl
theorem Ty.fld59_0 : fieldB Try.prog 59 0 = some (0, 2) := by kernel_rfl
theorem Ty.fld59_1 : fieldB Try.prog 59 1 = some (1, 2) := by kernel_rfl
theorem Ty.fld59_2 : fieldB Try.prog 59 2 = some (2, 46) := by kernel_rfl
theorem Ty.fld59_3 : fieldB Try.prog 59 3 = some (4, 58) := by kernel_rfl
theorem Ty.some60 : someU Try.prog 60 = true := by kernel_rfl
theorem Ty.agg60 : aggB Try.prog 60 = true := by kernel_rfl
theorem Ty.size60 : sizeB Try.prog 60 = some 8 := by kernel_rfl
theorem Ty.bytes60 : bytesB Try.prog 60 = some 64 := by kernel_rfl
theorem Ty.zero60 : zeroB Try.prog 60 = some (.agg #[(.int .i64 0), (.int .i64 0), (.int .i64 0), (.int .i64 0), (.int .i64 0), (.int .i64 0), (.int .i64 0), (.int .i64 0)]) := by kernel_rfl
theorem Ty.val60 : valB Try.prog 60 = true := by kernel_rfl
theorem Ty.fs60 : fsB Try.prog 60 = true := by kernel_rfl
theorem Ty.fld60_0 : fieldB Try.prog 60 0 = some (0, 2) := by kernel_rfl
theorem Ty.fld60_1 : fieldB Try.prog 60 1 = some (1, 2) := by kernel_rfl
theorem Ty.fld60_2 : fieldB Try.prog 60 2 = some (2, 46) := by kernel_rfl
theorem Ty.fld60_3 : fieldB Try.prog 60 3 = some (4, 58) := by kernel_rfl
theorem Ty.some63 : someU Try.prog 63 = true := by kernel_rfl
theorem Ty.agg63 : aggB Try.prog 63 = false := by kernel_rfl
theorem Ty.size63 : sizeB Try.prog 63 = some 1 := by kernel_rfl
theorem Ty.bytes63 : bytesB Try.prog 63 = some 0 := by kernel_rfl
theorem Ty.zero63 : zeroB Try.prog 63 = some (.tuple #[(.agg #[(.int .i64 0), (.int .i64 0), (.slice none 0 0)]), (.int .i64 0)]) := by kernel_rfl
theorem Ty.val63 : valB Try.prog 63 = true := by kernel_rfl
theorem Ty.some68 : someU Try.prog 68 = true := by kernel_rfl
theorem Ty.agg68 : aggB Try.prog 68 = false := by kernel_rfl
theorem Ty.size68 : sizeB Try.prog 68 = some 1 := by kernel_rfl
theorem Ty.bytes68 : bytesB Try.prog 68 = some 0 := by kernel_rfl
theorem Ty.zero68 : zeroB Try.prog 68 = some (.tuple #[(.slice none 0 0), (.int .i64 0)]) := by kernel_rfl
theorem Ty.val68 : valB Try.prog 68 = true := by kernel_rfl
theorem Ty.some80 : someU Try.prog 80 = true := by kernel_rfl
theorem Ty.agg80 : aggB Try.prog 80 = false := by kernel_rfl
theorem Ty.size80 : sizeB Try.prog 80 = some 1 := by kernel_rfl
theorem Ty.bytes80 : bytesB Try.prog 80 = some 0 := by kernel_rfl
theorem Ty.zero80 : zeroB Try.prog 80 = some (.tuple #[(.int .i64 0), (.slice none 0 0), (.int .i64 0)]) := by kernel_rfl
theorem Ty.val80 : valB Try.prog 80 = true := by kernel_rfl
theorem Ty.some83 : someU Try.prog 83 = true := by kernel_rfl
theorem Ty.agg83 : aggB Try.prog 83 = false := by kernel_rfl
theorem Ty.size83 : sizeB Try.prog 83 = some 1 := by kernel_rfl
theorem Ty.bytes83 : bytesB Try.prog 83 = some 0 := by kernel_rfl
theorem Ty.zero83 : zeroB Try.prog 83 = some (.tuple #[(.int .i64 0), (.slice none 0 0)]) := by kernel_rfl
theorem Ty.val83 : valB Try.prog 83 = true := by kernel_rfl
theorem Ty.some89 : someU Try.prog 89 = true := by kernel_rfl
theorem Ty.agg89 : aggB Try.prog 89 = false := by kernel_rfl
theorem Ty.size89 : sizeB Try.prog 89 = some 1 := by kernel_rfl
theorem Ty.bytes89 : bytesB Try.prog 89 = some 24 := by kernel_rfl
theorem Ty.zero89 : zeroB Try.prog 89 = some (.slice none 0 0) := by kernel_rfl
theorem Ty.val89 : valB Try.prog 89 = true := by kernel_rfl
theorem Ty.elem89 : elemB Try.prog 89 = some 91 := by kernel_rfl
theorem Ty.some90 : someU Try.prog 90 = true := by kernel_rfl
theorem Ty.agg90 : aggB Try.prog 90 = true := by kernel_rfl
theorem Ty.size90 : sizeB Try.prog 90 = some 6 := by kernel_rfl
theorem Ty.bytes90 : bytesB Try.prog 90 = some 80 := by kernel_rfl
theorem Ty.zero90 : zeroB Try.prog 90 = some (.agg #[(.int .i64 0), (.int .i64 0), (.int .i64 0), (.int .i64 0), (.slice none 0 0), (.slice none 0 0)]) := by kernel_rfl
theorem Ty.val90 : valB Try.prog 90 = true := by kernel_rfl
theorem Ty.fs90 : fsB Try.prog 90 = true := by kernel_rfl
theorem Ty.fld90_0 : fieldB Try.prog 90 0 = some (0, 58) := by kernel_rfl
theorem Ty.fld90_1 : fieldB Try.prog 90 1 = some (4, 22) := by kernel_rfl
theorem Ty.fld90_2 : fieldB Try.prog 90 2 = some (5, 22) := by kernel_rfl
theorem Ty.some91 : someU Try.prog 91 = true := by kernel_rfl
theorem Ty.agg91 : aggB Try.prog 91 = true := by kernel_rfl
theorem Ty.size91 : sizeB Try.prog 91 = some 6 := by kernel_rfl
theorem Ty.bytes91 : bytesB Try.prog 91 = some 80 := by kernel_rfl
theorem Ty.zero91 : zeroB Try.prog 91 = some (.agg #[(.int .i64 0), (.int .i64 0), (.int .i64 0), (.int .i64 0), (.slice none 0 0), (.slice none 0 0)]) := by kernel_rfl
theorem Ty.val91 : valB Try.prog 91 = true := by kernel_rfl
theorem Ty.fs91 : fsB Try.prog 91 = true := by kernel_rfl
theorem Ty.fld91_0 : fieldB Try.prog 91 0 = some (0, 58) := by kernel_rfl
theorem Ty.fld91_1 : fieldB Try.prog 91 1 = some (4, 22) := by kernel_rfl
theorem Ty.fld91_2 : fieldB Try.prog 91 2 = some (5, 22) := by kernel_rfl
theorem Ty.some92 : someU Try.prog 92 = true := by kernel_rfl
theorem Ty.agg92 : aggB Try.prog 92 = false := by kernel_rfl
theorem Ty.size92 : sizeB Try.prog 92 = some 1 := by kernel_rfl
theorem Ty.bytes92 : bytesB Try.prog 92 = some 0 := by kernel_rfl
theorem Ty.zero92 : zeroB Try.prog 92 = some (.tuple #[(.pointer none), (.int .i64 0), (.int .i64 0)]) := by kernel_rfl
theorem Ty.val92 : valB Try.prog 92 = true := by kernel_rfl
theorem Ty.some94 : someU Try.prog 94 = true := by kernel_rfl
theorem Ty.agg94 : aggB Try.prog 94 = false := by kernel_rfl
theorem Ty.size94 : sizeB Try.prog 94 = some 1 := by kernel_rfl
theorem Ty.bytes94 : bytesB Try.prog 94 = some 0 := by kernel_rfl
theorem Ty.zero94 : zeroB Try.prog 94 = some (.tuple #[(.agg #[(.int .i64 0), (.int .i64 0), (.slice none 0 0)]), (.int .i64 0), (.int .i64 0)]) := by kernel_rfl
theorem Ty.val94 : valB Try.prog 94 = true := by kernel_rfl
theorem Ty.some109 : someU Try.prog 109 = true := by kernel_rfl
theorem Ty.agg109 : aggB Try.prog 109 = false := by kernel_rfl
theorem Ty.size109 : sizeB Try.prog 109 = some 1 := by kernel_rfl
theorem Ty.bytes109 : bytesB Try.prog 109 = some 0 := by kernel_rfl
theorem Ty.zero109 : zeroB Try.prog 109 = some (.tuple #[(.slice none 0 0), (.slice none 0 0), (.int .i64 0)]) := by kernel_rfl
theorem Ty.val109 : valB Try.prog 109 = true := by kernel_rfl
theorem Ty.some111 : someU Try.prog 111 = true := by kernel_rfl
theorem Ty.agg111 : aggB Try.prog 111 = false := by kernel_rfl
theorem Ty.size111 : sizeB Try.prog 111 = some 1 := by kernel_rfl
theorem Ty.bytes111 : bytesB Try.prog 111 = some 0 := by kernel_rfl
theorem Ty.zero111 : zeroB Try.prog 111 = some (.tuple #[(.slice none 0 0), (.slice none 0 0)]) := by kernel_rfl
theorem Ty.val111 : valB Try.prog 111 = true := by kernel_rfl
theorem Ty.some113 : someU Try.prog 113 = true := by kernel_rfl
theorem Ty.agg113 : aggB Try.prog 113 = false := by kernel_rfl
theorem Ty.size113 : sizeB Try.prog 113 = some 1 := by kernel_rfl
theorem Ty.bytes113 : bytesB Try.prog 113 = some 0 := by kernel_rfl
theorem Ty.zero113 : zeroB Try.prog 113 = some (.tuple #[(.agg #[(.int .i64 0), (.int .i64 0)]), (.bool false), (.int .i64 0)]) := by kernel_rfl
theorem Ty.val113 : valB Try.prog 113 = true := by kernel_rfl
theorem Ty.some116 : someU Try.prog 116 = true := by kernel_rfl
theorem Ty.agg116 : aggB Try.prog 116 = false := by kernel_rfl
theorem Ty.size116 : sizeB Try.prog 116 = some 1 := by kernel_rfl
theorem Ty.bytes116 : bytesB Try.prog 116 = some 0 := by kernel_rfl
theorem Ty.zero116 : zeroB Try.prog 116 = some (.tuple #[(.agg #[(.int .i64 0), (.int .i64 0)]), (.bool false)]) := by kernel_rfl
theorem Ty.val116 : valB Try.prog 116 = true := by kernel_rfl
theorem Ty.some121 : someU Try.prog 121 = true := by kernel_rfl
theorem Ty.agg121 : aggB Try.prog 121 = false := by kernel_rfl
theorem Ty.size121 : sizeB Try.prog 121 = some 1 := by kernel_rfl
theorem Ty.bytes121 : bytesB Try.prog 121 = some 24 := by kernel_rfl
theorem Ty.zero121 : zeroB Try.prog 121 = some (.slice none 0 0) := by kernel_rfl
theorem Ty.val121 : valB Try.prog 121 = true := by kernel_rfl
theorem Ty.elem121 : elemB Try.prog 121 = some 127 := by kernel_rfl
theorem Ty.some122 : someU Try.prog 122 = true := by kernel_rfl
theorem Ty.agg122 : aggB Try.prog 122 = false := by kernel_rfl
theorem Ty.size122 : sizeB Try.prog 122 = some 1 := by kernel_rfl
theorem Ty.bytes122 : bytesB Try.prog 122 = some 0 := by kernel_rfl
theorem Ty.zero122 : zeroB Try.prog 122 = some (.tuple #[(.slice none 0 0), (.int .i64 0)]) := by kernel_rfl
theorem Ty.val122 : valB Try.prog 122 = true := by kernel_rfl
theorem Ty.some125 : someU Try.prog 125 = true := by kernel_rfl
theorem Ty.agg125 : aggB Try.prog 125 = false := by kernel_rfl
theorem Ty.size125 : sizeB Try.prog 125 = some 1 := by kernel_rfl
theorem Ty.bytes125 : bytesB Try.prog 125 = some 24 := by kernel_rfl
theorem Ty.zero125 : zeroB Try.prog 125 = some (.slice none 0 0) := by kernel_rfl
theorem Ty.val125 : valB Try.prog 125 = true := by kernel_rfl
theorem Ty.elem125 : elemB Try.prog 125 = some 4 := by kernel_rfl
theorem Ty.some126 : someU Try.prog 126 = true := by kernel_rfl
theorem Ty.agg126 : aggB Try.prog 126 = true := by kernel_rfl
theorem Ty.size126 : sizeB Try.prog 126 = some 5 := by kernel_rfl
theorem Ty.bytes126 : bytesB Try.prog 126 = some 40 := by kernel_rfl
theorem Ty.zero126 : zeroB Try.prog 126 = some (.agg #[(.int .i64 0), (.int .i64 0), (.int .i64 0), (.int .i64 0), (.int .i64 0)]) := by kernel_rfl
theorem Ty.val126 : valB Try.prog 126 = true := by kernel_rfl
theorem Ty.fs126 : fsB Try.prog 126 = true := by kernel_rfl
theorem Ty.fld126_0 : fieldB Try.prog 126 0 = some (0, 46) := by kernel_rfl
theorem Ty.fld126_1 : fieldB Try.prog 126 1 = some (2, 2) := by kernel_rfl
theorem Ty.fld126_2 : fieldB Try.prog 126 2 = some (3, 2) := by kernel_rfl
theorem Ty.fld126_3 : fieldB Try.prog 126 3 = some (4, 2) := by kernel_rfl
theorem Ty.some127 : someU Try.prog 127 = true := by kernel_rfl
theorem Ty.agg127 : aggB Try.prog 127 = true := by kernel_rfl
theorem Ty.size127 : sizeB Try.prog 127 = some 5 := by kernel_rfl
theorem Ty.bytes127 : bytesB Try.prog 127 = some 40 := by kernel_rfl
theorem Ty.zero127 : zeroB Try.prog 127 = some (.agg #[(.int .i64 0), (.int .i64 0), (.int .i64 0), (.int .i64 0), (.int .i64 0)]) := by kernel_rfl
theorem Ty.val127 : valB Try.prog 127 = true := by kernel_rfl
theorem Ty.fs127 : fsB Try.prog 127 = true := by kernel_rfl
theorem Ty.fld127_0 : fieldB Try.prog 127 0 = some (0, 46) := by kernel_rfl
theorem Ty.fld127_1 : fieldB Try.prog 127 1 = some (2, 2) := by kernel_rfl
theorem Ty.fld127_2 : fieldB Try.prog 127 2 = some (3, 2) := by kernel_rfl
theorem Ty.fld127_3 : fieldB Try.prog 127 3 = some (4, 2) := by kernel_rfl
theorem Ty.some128 : someU Try.prog 128 = true := by kernel_rfl
theorem Ty.agg128 : aggB Try.prog 128 = false := by kernel_rfl
theorem Ty.size128 : sizeB Try.prog 128 = some 1 := by kernel_rfl
theorem Ty.bytes128 : bytesB Try.prog 128 = some 0 := by kernel_rfl
theorem Ty.zero128 : zeroB Try.prog 128 = some (.tuple #[(.slice none 0 0), (.int .i64 0)]) := by kernel_rfl
theorem Ty.val128 : valB Try.prog 128 = true := by kernel_rfl
theorem Ty.some133 : someU Try.prog 133 = true := by kernel_rfl
theorem Ty.agg133 : aggB Try.prog 133 = false := by kernel_rfl
theorem Ty.size133 : sizeB Try.prog 133 = some 1 := by kernel_rfl
theorem Ty.bytes133 : bytesB Try.prog 133 = some 24 := by kernel_rfl
theorem Ty.zero133 : zeroB Try.prog 133 = some (.slice none 0 0) := by kernel_rfl
theorem Ty.val133 : valB Try.prog 133 = true := by kernel_rfl
theorem Ty.elem133 : elemB Try.prog 133 = some 135 := by kernel_rfl
theorem Ty.some135 : someU Try.prog 135 = true := by kernel_rfl
theorem Ty.agg135 : aggB Try.prog 135 = true := by kernel_rfl
theorem Ty.size135 : sizeB Try.prog 135 = some 5 := by kernel_rfl
theorem Ty.bytes135 : bytesB Try.prog 135 = some 40 := by kernel_rfl
theorem Ty.zero135 : zeroB Try.prog 135 = some (.agg #[(.int .i64 0), (.int .i64 0), (.int .i64 0), (.int .i64 0), (.int .i64 0)]) := by kernel_rfl
theorem Ty.val135 : valB Try.prog 135 = true := by kernel_rfl
theorem Ty.fs135 : fsB Try.prog 135 = true := by kernel_rfl
theorem Ty.fld135_0 : fieldB Try.prog 135 0 = some (0, 46) := by kernel_rfl
theorem Ty.fld135_1 : fieldB Try.prog 135 1 = some (2, 2) := by kernel_rfl
theorem Ty.fld135_2 : fieldB Try.prog 135 2 = some (3, 2) := by kernel_rfl
theorem Ty.fld135_3 : fieldB Try.prog 135 3 = some (4, 2) := by kernel_rfl
theorem Ty.some139 : someU Try.prog 139 = true := by kernel_rfl
theorem Ty.agg139 : aggB Try.prog 139 = false := by kernel_rfl
theorem Ty.size139 : sizeB Try.prog 139 = some 1 := by kernel_rfl
theorem Ty.bytes139 : bytesB Try.prog 139 = some 0 := by kernel_rfl
theorem Ty.zero139 : zeroB Try.prog 139 = some (.tuple #[(.slice none 0 0), (.slice none 0 0)]) := by kernel_rfl
theorem Ty.val139 : valB Try.prog 139 = true := by kernel_rfl
theorem Ty.some142 : someU Try.prog 142 = true := by kernel_rfl
theorem Ty.agg142 : aggB Try.prog 142 = false := by kernel_rfl
theorem Ty.size142 : sizeB Try.prog 142 = some 1 := by kernel_rfl
theorem Ty.bytes142 : bytesB Try.prog 142 = some 24 := by kernel_rfl
theorem Ty.zero142 : zeroB Try.prog 142 = some (.slice none 0 0) := by kernel_rfl
theorem Ty.val142 : valB Try.prog 142 = true := by kernel_rfl
theorem Ty.elem142 : elemB Try.prog 142 = some 149 := by kernel_rfl
theorem Ty.some143 : someU Try.prog 143 = true := by kernel_rfl
theorem Ty.agg143 : aggB Try.prog 143 = false := by kernel_rfl
theorem Ty.size143 : sizeB Try.prog 143 = some 1 := by kernel_rfl
theorem Ty.bytes143 : bytesB Try.prog 143 = some 0 := by kernel_rfl
theorem Ty.zero143 : zeroB Try.prog 143 = some (.tuple #[(.slice none 0 0), (.int .i64 0)]) := by kernel_rfl
theorem Ty.val143 : valB Try.prog 143 = true := by kernel_rfl
theorem Ty.some146 : someU Try.prog 146 = true := by kernel_rfl
theorem Ty.agg146 : aggB Try.prog 146 = false := by kernel_rfl
theorem Ty.size146 : sizeB Try.prog 146 = some 1 := by kernel_rfl
theorem Ty.bytes146 : bytesB Try.prog 146 = some 24 := by kernel_rfl
theorem Ty.zero146 : zeroB Try.prog 146 = some (.slice none 0 0) := by kernel_rfl
theorem Ty.val146 : valB Try.prog 146 = true := by kernel_rfl
theorem Ty.elem146 : elemB Try.prog 146 = some 265 := by kernel_rfl
theorem Ty.some148 : someU Try.prog 148 = true := by kernel_rfl
theorem Ty.agg148 : aggB Try.prog 148 = true := by kernel_rfl
theorem Ty.size148 : sizeB Try.prog 148 = some 7 := by kernel_rfl
theorem Ty.bytes148 : bytesB Try.prog 148 = some 56 := by kernel_rfl
theorem Ty.zero148 : zeroB Try.prog 148 = some (.agg #[(.int .i64 0), (.int .i64 0), (.int .i64 0), (.int .i64 0), (.int .i64 0), (.int .i64 0), (.int .i64 0)]) := by kernel_rfl
theorem Ty.val148 : valB Try.prog 148 = true := by kernel_rfl
theorem Ty.fs148 : fsB Try.prog 148 = true := by kernel_rfl
theorem Ty.fld148_0 : fieldB Try.prog 148 0 = some (0, 2) := by kernel_rfl
theorem Ty.fld148_1 : fieldB Try.prog 148 1 = some (1, 2) := by kernel_rfl
theorem Ty.fld148_2 : fieldB Try.prog 148 2 = some (2, 2) := by kernel_rfl
theorem Ty.fld148_3 : fieldB Try.prog 148 3 = some (3, 2) := by kernel_rfl
theorem Ty.fld148_4 : fieldB Try.prog 148 4 = some (4, 2) := by kernel_rfl
theorem Ty.fld148_5 : fieldB Try.prog 148 5 = some (5, 46) := by kernel_rfl
theorem Ty.some149 : someU Try.prog 149 = true := by kernel_rfl
theorem Ty.agg149 : aggB Try.prog 149 = true := by kernel_rfl
theorem Ty.size149 : sizeB Try.prog 149 = some 7 := by kernel_rfl
theorem Ty.bytes149 : bytesB Try.prog 149 = some 56 := by kernel_rfl
theorem Ty.zero149 : zeroB Try.prog 149 = some (.agg #[(.int .i64 0), (.int .i64 0), (.int .i64 0), (.int .i64 0), (.int .i64 0), (.int .i64 0), (.int .i64 0)]) := by kernel_rfl
theorem Ty.val149 : valB Try.prog 149 = true := by kernel_rfl
theorem Ty.fs149 : fsB Try.prog 149 = true := by kernel_rfl
theorem Ty.fld149_0 : fieldB Try.prog 149 0 = some (0, 2) := by kernel_rfl
theorem Ty.fld149_1 : fieldB Try.prog 149 1 = some (1, 2) := by kernel_rfl
theorem Ty.fld149_2 : fieldB Try.prog 149 2 = some (2, 2) := by kernel_rfl
theorem Ty.fld149_3 : fieldB Try.prog 149 3 = some (3, 2) := by kernel_rfl
theorem Ty.fld149_4 : fieldB Try.prog 149 4 = some (4, 2) := by kernel_rfl
theorem Ty.fld149_5 : fieldB Try.prog 149 5 = some (5, 46) := by kernel_rfl
theorem Ty.some151 : someU Try.prog 151 = true := by kernel_rfl
theorem Ty.agg151 : aggB Try.prog 151 = false := by kernel_rfl
theorem Ty.size151 : sizeB Try.prog 151 = some 1 := by kernel_rfl
theorem Ty.bytes151 : bytesB Try.prog 151 = some 24 := by kernel_rfl
theorem Ty.zero151 : zeroB Try.prog 151 = some (.slice none 0 0) := by kernel_rfl
theorem Ty.val151 : valB Try.prog 151 = true := by kernel_rfl
theorem Ty.elem151 : elemB Try.prog 151 = some 157 := by kernel_rfl
theorem Ty.some152 : someU Try.prog 152 = true := by kernel_rfl
theorem Ty.agg152 : aggB Try.prog 152 = false := by kernel_rfl
theorem Ty.size152 : sizeB Try.prog 152 = some 1 := by kernel_rfl
theorem Ty.bytes152 : bytesB Try.prog 152 = some 0 := by kernel_rfl
theorem Ty.zero152 : zeroB Try.prog 152 = some (.tuple #[(.slice none 0 0), (.int .i64 0)]) := by kernel_rfl
theorem Ty.val152 : valB Try.prog 152 = true := by kernel_rfl
theorem Ty.some156 : someU Try.prog 156 = true := by kernel_rfl
theorem Ty.agg156 : aggB Try.prog 156 = true := by kernel_rfl
theorem Ty.size156 : sizeB Try.prog 156 = some 3 := by kernel_rfl
theorem Ty.bytes156 : bytesB Try.prog 156 = some 24 := by kernel_rfl
theorem Ty.zero156 : zeroB Try.prog 156 = some (.agg #[(.int .i64 0), (.int .i64 0), (.int .i64 0)]) := by kernel_rfl
theorem Ty.val156 : valB Try.prog 156 = true := by kernel_rfl
theorem Ty.fs156 : fsB Try.prog 156 = true := by kernel_rfl
theorem Ty.fld156_0 : fieldB Try.prog 156 0 = some (0, 2) := by kernel_rfl
theorem Ty.fld156_1 : fieldB Try.prog 156 1 = some (1, 2) := by kernel_rfl
theorem Ty.fld156_2 : fieldB Try.prog 156 2 = some (2, 2) := by kernel_rfl
theorem Ty.some157 : someU Try.prog 157 = true := by kernel_rfl
theorem Ty.agg157 : aggB Try.prog 157 = true := by kernel_rfl
theorem Ty.size157 : sizeB Try.prog 157 = some 3 := by kernel_rfl
theorem Ty.bytes157 : bytesB Try.prog 157 = some 24 := by kernel_rfl
theorem Ty.zero157 : zeroB Try.prog 157 = some (.agg #[(.int .i64 0), (.int .i64 0), (.int .i64 0)]) := by kernel_rfl
theorem Ty.val157 : valB Try.prog 157 = true := by kernel_rfl
theorem Ty.fs157 : fsB Try.prog 157 = true := by kernel_rfl
theorem Ty.fld157_0 : fieldB Try.prog 157 0 = some (0, 2) := by kernel_rfl
theorem Ty.fld157_1 : fieldB Try.prog 157 1 = some (1, 2) := by kernel_rfl
theorem Ty.fld157_2 : fieldB Try.prog 157 2 = some (2, 2) := by kernel_rfl
theorem Ty.some164 : someU Try.prog 164 = true := by kernel_rfl
theorem Ty.agg164 : aggB Try.prog 164 = true := by kernel_rfl
theorem Ty.size164 : sizeB Try.prog 164 = some 2 := by kernel_rfl
theorem Ty.bytes164 : bytesB Try.prog 164 = some 32 := by kernel_rfl
theorem Ty.zero164 : zeroB Try.prog 164 = some (.agg #[(.int .i64 0), (.slice none 0 0)]) := by kernel_rfl
theorem Ty.val164 : valB Try.prog 164 = true := by kernel_rfl
theorem Ty.fs164 : fsB Try.prog 164 = true := by kernel_rfl
theorem Ty.fld164_0 : fieldB Try.prog 164 0 = some (0, 3) := by kernel_rfl
theorem Ty.fld164_1 : fieldB Try.prog 164 1 = some (1, 22) := by kernel_rfl
theorem Ty.some165 : someU Try.prog 165 = true := by kernel_rfl
theorem Ty.agg165 : aggB Try.prog 165 = true := by kernel_rfl
theorem Ty.size165 : sizeB Try.prog 165 = some 2 := by kernel_rfl
theorem Ty.bytes165 : bytesB Try.prog 165 = some 32 := by kernel_rfl
theorem Ty.zero165 : zeroB Try.prog 165 = some (.agg #[(.int .i64 0), (.slice none 0 0)]) := by kernel_rfl
theorem Ty.val165 : valB Try.prog 165 = true := by kernel_rfl
theorem Ty.fs165 : fsB Try.prog 165 = true := by kernel_rfl
theorem Ty.fld165_0 : fieldB Try.prog 165 0 = some (0, 3) := by kernel_rfl
theorem Ty.fld165_1 : fieldB Try.prog 165 1 = some (1, 22) := by kernel_rfl
theorem Ty.some166 : someU Try.prog 166 = true := by kernel_rfl
theorem Ty.agg166 : aggB Try.prog 166 = false := by kernel_rfl
theorem Ty.size166 : sizeB Try.prog 166 = some 1 := by kernel_rfl
theorem Ty.bytes166 : bytesB Try.prog 166 = some 0 := by kernel_rfl
theorem Ty.zero166 : zeroB Try.prog 166 = some (.tuple #[(.agg #[(.int .i64 0), (.slice none 0 0)]), (.int .i64 0)]) := by kernel_rfl
theorem Ty.val166 : valB Try.prog 166 = true := by kernel_rfl
theorem Ty.some171 : someU Try.prog 171 = true := by kernel_rfl
theorem Ty.agg171 : aggB Try.prog 171 = false := by kernel_rfl
theorem Ty.size171 : sizeB Try.prog 171 = some 1 := by kernel_rfl
theorem Ty.bytes171 : bytesB Try.prog 171 = some 8 := by kernel_rfl
theorem Ty.zero171 : zeroB Try.prog 171 = some .nilFunc := by kernel_rfl
theorem Ty.val171 : valB Try.prog 171 = true := by kernel_rfl
theorem Ty.some173 : someU Try.prog 173 = true := by kernel_rfl
theorem Ty.agg173 : aggB Try.prog 173 = false := by kernel_rfl
theorem Ty.size173 : sizeB Try.prog 173 = some 1 := by kernel_rfl
theorem Ty.bytes173 : bytesB Try.prog 173 = some 0 := by kernel_rfl
theorem Ty.zero173 : zeroB Try.prog 173 = some (.tuple #[(.int .i64 0), (.int .i64 0)]) := by kernel_rfl
theorem Ty.val173 : valB Try.prog 173 = true := by kernel_rfl
theorem Ty.some176 : someU Try.prog 176 = true := by kernel_rfl
theorem Ty.agg176 : aggB Try.prog 176 = true := by kernel_rfl
theorem Ty.size176 : sizeB Try.prog 176 = some 2 := by kernel_rfl
theorem Ty.bytes176 : bytesB Try.prog 176 = some 16 := by kernel_rfl
theorem Ty.zero176 : zeroB Try.prog 176 = some (.agg #[(.int .i64 0), (.int .i64 0)]) := by kernel_rfl
theorem Ty.val176 : valB Try.prog 176 = true := by kernel_rfl
theorem Ty.arr176 : arrB Try.prog 176 = some (2, 2) := by kernel_rfl
theorem Ty.some178 : someU Try.prog 178 = true := by kernel_rfl
theorem Ty.agg178 : aggB Try.prog 178 = true := by kernel_rfl
theorem Ty.size178 : sizeB Try.prog 178 = some 3 := by kernel_rfl
theorem Ty.bytes178 : bytesB Try.prog 178 = some 40 := by kernel_rfl
theorem Ty.zero178 : zeroB Try.prog 178 = some (.agg #[(.int .i64 0), (.int .i64 0), (.slice none 0 0)]) := by kernel_rfl
theorem Ty.val178 : valB Try.prog 178 = true := by kernel_rfl
theorem Ty.fs178 : fsB Try.prog 178 = true := by kernel_rfl
theorem Ty.fld178_0 : fieldB Try.prog 178 0 = some (0, 3) := by kernel_rfl
theorem Ty.fld178_1 : fieldB Try.prog 178 1 = some (1, 3) := by kernel_rfl
theorem Ty.fld178_2 : fieldB Try.prog 178 2 = some (2, 22) := by kernel_rfl
theorem Ty.some179 : someU Try.prog 179 = true := by kernel_rfl
theorem Ty.agg179 : aggB Try.prog 179 = true := by kernel_rfl
theorem Ty.size179 : sizeB Try.prog 179 = some 3 := by kernel_rfl
theorem Ty.bytes179 : bytesB Try.prog 179 = some 40 := by kernel_rfl
theorem Ty.zero179 : zeroB Try.prog 179 = some (.agg #[(.int .i64 0), (.int .i64 0), (.slice none 0 0)]) := by kernel_rfl
theorem Ty.val179 : valB Try.prog 179 = true := by kernel_rfl
theorem Ty.fs179 : fsB Try.prog 179 = true := by kernel_rfl
theorem Ty.fld179_0 : fieldB Try.prog 179 0 = some (0, 3) := by kernel_rfl
theorem Ty.fld179_1 : fieldB Try.prog 179 1 = some (1, 3) := by kernel_rfl
theorem Ty.fld179_2 : fieldB Try.prog 179 2 = some (2, 22) := by kernel_rfl
theorem Ty.some180 : someU Try.prog 180 = true := by kernel_rfl
theorem Ty.agg180 : aggB Try.prog 180 = false := by kernel_rfl
theorem Ty.size180 : sizeB Try.prog 180 = some 1 := by kernel_rfl
theorem Ty.bytes180 : bytesB Try.prog 180 = some 0 := by kernel_rfl
theorem Ty.zero180 : zeroB Try.prog 180 = some (.tuple #[(.agg #[(.int .i64 0), (.int .i64 0), (.slice none 0 0)]), (.int .i64 0)]) := by kernel_rfl
theorem Ty.val180 : valB Try.prog 180 = true := by kernel_rfl
theorem Ty.some182 : someU Try.prog 182 = true := by kernel_rfl
theorem Ty.agg182 : aggB Try.prog 182 = false := by kernel_rfl
theorem Ty.size182 : sizeB Try.prog 182 = some 1 := by kernel_rfl
theorem Ty.bytes182 : bytesB Try.prog 182 = some 24 := by kernel_rfl
theorem Ty.zero182 : zeroB Try.prog 182 = some (.slice none 0 0) := by kernel_rfl
theorem Ty.val182 : valB Try.prog 182 = true := by kernel_rfl
theorem Ty.elem182 : elemB Try.prog 182 = some 3 := by kernel_rfl
theorem Ty.some183 : someU Try.prog 183 = true := by kernel_rfl
theorem Ty.agg183 : aggB Try.prog 183 = false := by kernel_rfl
theorem Ty.size183 : sizeB Try.prog 183 = some 1 := by kernel_rfl
theorem Ty.bytes183 : bytesB Try.prog 183 = some 24 := by kernel_rfl
theorem Ty.zero183 : zeroB Try.prog 183 = some (.slice none 0 0) := by kernel_rfl
theorem Ty.val183 : valB Try.prog 183 = true := by kernel_rfl
theorem Ty.elem183 : elemB Try.prog 183 = some 3 := by kernel_rfl
theorem Ty.some187 : someU Try.prog 187 = true := by kernel_rfl
theorem Ty.agg187 : aggB Try.prog 187 = false := by kernel_rfl
theorem Ty.size187 : sizeB Try.prog 187 = some 1 := by kernel_rfl
theorem Ty.bytes187 : bytesB Try.prog 187 = some 8 := by kernel_rfl
theorem Ty.zero187 : zeroB Try.prog 187 = some (.pointer none) := by kernel_rfl
theorem Ty.val187 : valB Try.prog 187 = true := by kernel_rfl
theorem Ty.ptr187 : ptrB Try.prog 187 = true := by kernel_rfl
theorem Ty.some194 : someU Try.prog 194 = true := by kernel_rfl
theorem Ty.agg194 : aggB Try.prog 194 = false := by kernel_rfl
theorem Ty.size194 : sizeB Try.prog 194 = some 1 := by kernel_rfl
theorem Ty.bytes194 : bytesB Try.prog 194 = some 24 := by kernel_rfl
theorem Ty.zero194 : zeroB Try.prog 194 = some (.slice none 0 0) := by kernel_rfl
theorem Ty.val194 : valB Try.prog 194 = true := by kernel_rfl
theorem Ty.elem194 : elemB Try.prog 194 = some 198 := by kernel_rfl
theorem Ty.some195 : someU Try.prog 195 = true := by kernel_rfl
theorem Ty.agg195 : aggB Try.prog 195 = true := by kernel_rfl
theorem Ty.size195 : sizeB Try.prog 195 = some 4 := by kernel_rfl
theorem Ty.bytes195 : bytesB Try.prog 195 = some 48 := by kernel_rfl
theorem Ty.zero195 : zeroB Try.prog 195 = some (.agg #[(.int .i64 0), (.int .i64 0), (.int .i64 0), (.slice none 0 0)]) := by kernel_rfl
theorem Ty.val195 : valB Try.prog 195 = true := by kernel_rfl
theorem Ty.fs195 : fsB Try.prog 195 = true := by kernel_rfl
theorem Ty.fld195_0 : fieldB Try.prog 195 0 = some (0, 2) := by kernel_rfl
theorem Ty.fld195_1 : fieldB Try.prog 195 1 = some (1, 2) := by kernel_rfl
theorem Ty.fld195_2 : fieldB Try.prog 195 2 = some (2, 2) := by kernel_rfl
theorem Ty.fld195_3 : fieldB Try.prog 195 3 = some (3, 194) := by kernel_rfl
theorem Ty.some196 : someU Try.prog 196 = true := by kernel_rfl
theorem Ty.agg196 : aggB Try.prog 196 = true := by kernel_rfl
theorem Ty.size196 : sizeB Try.prog 196 = some 4 := by kernel_rfl
theorem Ty.bytes196 : bytesB Try.prog 196 = some 48 := by kernel_rfl
theorem Ty.zero196 : zeroB Try.prog 196 = some (.agg #[(.int .i64 0), (.int .i64 0), (.int .i64 0), (.slice none 0 0)]) := by kernel_rfl
theorem Ty.val196 : valB Try.prog 196 = true := by kernel_rfl
theorem Ty.fs196 : fsB Try.prog 196 = true := by kernel_rfl
theorem Ty.fld196_0 : fieldB Try.prog 196 0 = some (0, 2) := by kernel_rfl
theorem Ty.fld196_1 : fieldB Try.prog 196 1 = some (1, 2) := by kernel_rfl
theorem Ty.fld196_2 : fieldB Try.prog 196 2 = some (2, 2) := by kernel_rfl
theorem Ty.fld196_3 : fieldB Try.prog 196 3 = some (3, 194) := by kernel_rfl
theorem Ty.some198 : someU Try.prog 198 = true := by kernel_rfl
theorem Ty.agg198 : aggB Try.prog 198 = false := by kernel_rfl
theorem Ty.size198 : sizeB Try.prog 198 = some 1 := by kernel_rfl
theorem Ty.bytes198 : bytesB Try.prog 198 = some 8 := by kernel_rfl
theorem Ty.zero198 : zeroB Try.prog 198 = some (.pointer none) := by kernel_rfl
theorem Ty.val198 : valB Try.prog 198 = true := by kernel_rfl
theorem Ty.ptr198 : ptrB Try.prog 198 = true := by kernel_rfl
theorem Ty.some202 : someU Try.prog 202 = true := by kernel_rfl
theorem Ty.agg202 : aggB Try.prog 202 = true := by kernel_rfl
theorem Ty.size202 : sizeB Try.prog 202 = some 2 := by kernel_rfl
theorem Ty.bytes202 : bytesB Try.prog 202 = some 32 := by kernel_rfl
theorem Ty.zero202 : zeroB Try.prog 202 = some (.agg #[(.int .i64 0), (.slice none 0 0)]) := by kernel_rfl
theorem Ty.val202 : valB Try.prog 202 = true := by kernel_rfl
theorem Ty.fs202 : fsB Try.prog 202 = true := by kernel_rfl
theorem Ty.fld202_0 : fieldB Try.prog 202 0 = some (0, 3) := by kernel_rfl
theorem Ty.fld202_1 : fieldB Try.prog 202 1 = some (1, 22) := by kernel_rfl
theorem Ty.some203 : someU Try.prog 203 = true := by kernel_rfl
theorem Ty.agg203 : aggB Try.prog 203 = true := by kernel_rfl
theorem Ty.size203 : sizeB Try.prog 203 = some 2 := by kernel_rfl
theorem Ty.bytes203 : bytesB Try.prog 203 = some 32 := by kernel_rfl
theorem Ty.zero203 : zeroB Try.prog 203 = some (.agg #[(.int .i64 0), (.slice none 0 0)]) := by kernel_rfl
theorem Ty.val203 : valB Try.prog 203 = true := by kernel_rfl
theorem Ty.fs203 : fsB Try.prog 203 = true := by kernel_rfl
theorem Ty.fld203_0 : fieldB Try.prog 203 0 = some (0, 3) := by kernel_rfl
theorem Ty.fld203_1 : fieldB Try.prog 203 1 = some (1, 22) := by kernel_rfl
theorem Ty.some204 : someU Try.prog 204 = true := by kernel_rfl
theorem Ty.agg204 : aggB Try.prog 204 = false := by kernel_rfl
theorem Ty.size204 : sizeB Try.prog 204 = some 1 := by kernel_rfl
theorem Ty.bytes204 : bytesB Try.prog 204 = some 0 := by kernel_rfl
theorem Ty.zero204 : zeroB Try.prog 204 = some (.tuple #[(.agg #[(.int .i64 0), (.slice none 0 0)]), (.slice none 0 0), (.int .i64 0)]) := by kernel_rfl
theorem Ty.val204 : valB Try.prog 204 = true := by kernel_rfl
theorem Ty.some213 : someU Try.prog 213 = true := by kernel_rfl
theorem Ty.agg213 : aggB Try.prog 213 = false := by kernel_rfl
theorem Ty.size213 : sizeB Try.prog 213 = some 1 := by kernel_rfl
theorem Ty.bytes213 : bytesB Try.prog 213 = some 8 := by kernel_rfl
theorem Ty.zero213 : zeroB Try.prog 213 = some (.pointer none) := by kernel_rfl
theorem Ty.val213 : valB Try.prog 213 = true := by kernel_rfl
theorem Ty.ptr213 : ptrB Try.prog 213 = true := by kernel_rfl
theorem Ty.some214 : someU Try.prog 214 = true := by kernel_rfl
theorem Ty.agg214 : aggB Try.prog 214 = false := by kernel_rfl
theorem Ty.size214 : sizeB Try.prog 214 = some 1 := by kernel_rfl
theorem Ty.bytes214 : bytesB Try.prog 214 = some 0 := by kernel_rfl
theorem Ty.zero214 : zeroB Try.prog 214 = some (.tuple #[(.pointer none), (.int .i64 0)]) := by kernel_rfl
theorem Ty.val214 : valB Try.prog 214 = true := by kernel_rfl
theorem Ty.some216 : someU Try.prog 216 = true := by kernel_rfl
theorem Ty.agg216 : aggB Try.prog 216 = false := by kernel_rfl
theorem Ty.size216 : sizeB Try.prog 216 = some 1 := by kernel_rfl
theorem Ty.bytes216 : bytesB Try.prog 216 = some 24 := by kernel_rfl
theorem Ty.zero216 : zeroB Try.prog 216 = some (.slice none 0 0) := by kernel_rfl
theorem Ty.val216 : valB Try.prog 216 = true := by kernel_rfl
theorem Ty.elem216 : elemB Try.prog 216 = some 314 := by kernel_rfl
theorem Ty.some217 : someU Try.prog 217 = true := by kernel_rfl
theorem Ty.agg217 : aggB Try.prog 217 = false := by kernel_rfl
theorem Ty.size217 : sizeB Try.prog 217 = some 1 := by kernel_rfl
theorem Ty.bytes217 : bytesB Try.prog 217 = some 24 := by kernel_rfl
theorem Ty.zero217 : zeroB Try.prog 217 = some (.slice none 0 0) := by kernel_rfl
theorem Ty.val217 : valB Try.prog 217 = true := by kernel_rfl
theorem Ty.elem217 : elemB Try.prog 217 = some 314 := by kernel_rfl
theorem Ty.some218 : someU Try.prog 218 = true := by kernel_rfl
theorem Ty.agg218 : aggB Try.prog 218 = true := by kernel_rfl
theorem Ty.size218 : sizeB Try.prog 218 = some 5 := by kernel_rfl
theorem Ty.bytes218 : bytesB Try.prog 218 = some 104 := by kernel_rfl
theorem Ty.zero218 : zeroB Try.prog 218 = some (.agg #[(.int .i64 0), (.slice none 0 0), (.slice none 0 0), (.slice none 0 0), (.slice none 0 0)]) := by kernel_rfl
theorem Ty.val218 : valB Try.prog 218 = true := by kernel_rfl
theorem Ty.fs218 : fsB Try.prog 218 = true := by kernel_rfl
theorem Ty.fld218_0 : fieldB Try.prog 218 0 = some (0, 3) := by kernel_rfl
theorem Ty.fld218_1 : fieldB Try.prog 218 1 = some (1, 22) := by kernel_rfl
theorem Ty.fld218_2 : fieldB Try.prog 218 2 = some (2, 22) := by kernel_rfl
theorem Ty.fld218_3 : fieldB Try.prog 218 3 = some (3, 125) := by kernel_rfl
theorem Ty.fld218_4 : fieldB Try.prog 218 4 = some (4, 217) := by kernel_rfl
theorem Ty.some219 : someU Try.prog 219 = true := by kernel_rfl
theorem Ty.agg219 : aggB Try.prog 219 = true := by kernel_rfl
theorem Ty.size219 : sizeB Try.prog 219 = some 5 := by kernel_rfl
theorem Ty.bytes219 : bytesB Try.prog 219 = some 104 := by kernel_rfl
theorem Ty.zero219 : zeroB Try.prog 219 = some (.agg #[(.int .i64 0), (.slice none 0 0), (.slice none 0 0), (.slice none 0 0), (.slice none 0 0)]) := by kernel_rfl
theorem Ty.val219 : valB Try.prog 219 = true := by kernel_rfl
theorem Ty.fs219 : fsB Try.prog 219 = true := by kernel_rfl
theorem Ty.fld219_0 : fieldB Try.prog 219 0 = some (0, 3) := by kernel_rfl
theorem Ty.fld219_1 : fieldB Try.prog 219 1 = some (1, 22) := by kernel_rfl
theorem Ty.fld219_2 : fieldB Try.prog 219 2 = some (2, 22) := by kernel_rfl
theorem Ty.fld219_3 : fieldB Try.prog 219 3 = some (3, 125) := by kernel_rfl
theorem Ty.fld219_4 : fieldB Try.prog 219 4 = some (4, 217) := by kernel_rfl
theorem Ty.some223 : someU Try.prog 223 = true := by kernel_rfl
theorem Ty.agg223 : aggB Try.prog 223 = true := by kernel_rfl
theorem Ty.size223 : sizeB Try.prog 223 = some 3 := by kernel_rfl
theorem Ty.bytes223 : bytesB Try.prog 223 = some 56 := by kernel_rfl
theorem Ty.zero223 : zeroB Try.prog 223 = some (.agg #[(.int .i64 0), (.slice none 0 0), (.slice none 0 0)]) := by kernel_rfl
theorem Ty.val223 : valB Try.prog 223 = true := by kernel_rfl
theorem Ty.fs223 : fsB Try.prog 223 = true := by kernel_rfl
theorem Ty.fld223_0 : fieldB Try.prog 223 0 = some (0, 3) := by kernel_rfl
theorem Ty.fld223_1 : fieldB Try.prog 223 1 = some (1, 22) := by kernel_rfl
theorem Ty.fld223_2 : fieldB Try.prog 223 2 = some (2, 182) := by kernel_rfl
theorem Ty.some224 : someU Try.prog 224 = true := by kernel_rfl
theorem Ty.agg224 : aggB Try.prog 224 = true := by kernel_rfl
theorem Ty.size224 : sizeB Try.prog 224 = some 3 := by kernel_rfl
theorem Ty.bytes224 : bytesB Try.prog 224 = some 56 := by kernel_rfl
theorem Ty.zero224 : zeroB Try.prog 224 = some (.agg #[(.int .i64 0), (.slice none 0 0), (.slice none 0 0)]) := by kernel_rfl
theorem Ty.val224 : valB Try.prog 224 = true := by kernel_rfl
theorem Ty.fs224 : fsB Try.prog 224 = true := by kernel_rfl
theorem Ty.fld224_0 : fieldB Try.prog 224 0 = some (0, 3) := by kernel_rfl
theorem Ty.fld224_1 : fieldB Try.prog 224 1 = some (1, 22) := by kernel_rfl
theorem Ty.fld224_2 : fieldB Try.prog 224 2 = some (2, 182) := by kernel_rfl
theorem Ty.some225 : someU Try.prog 225 = true := by kernel_rfl
theorem Ty.agg225 : aggB Try.prog 225 = false := by kernel_rfl
theorem Ty.size225 : sizeB Try.prog 225 = some 1 := by kernel_rfl
theorem Ty.bytes225 : bytesB Try.prog 225 = some 0 := by kernel_rfl
theorem Ty.zero225 : zeroB Try.prog 225 = some (.tuple #[(.agg #[(.int .i64 0), (.slice none 0 0), (.slice none 0 0)]), (.int .i64 0)]) := by kernel_rfl
theorem Ty.val225 : valB Try.prog 225 = true := by kernel_rfl
theorem Ty.some228 : someU Try.prog 228 = true := by kernel_rfl
theorem Ty.agg228 : aggB Try.prog 228 = false := by kernel_rfl
theorem Ty.size228 : sizeB Try.prog 228 = some 1 := by kernel_rfl
theorem Ty.bytes228 : bytesB Try.prog 228 = some 8 := by kernel_rfl
theorem Ty.zero228 : zeroB Try.prog 228 = some (.map none) := by kernel_rfl
theorem Ty.val228 : valB Try.prog 228 = true := by kernel_rfl
theorem Ty.some229 : someU Try.prog 229 = true := by kernel_rfl
theorem Ty.agg229 : aggB Try.prog 229 = false := by kernel_rfl
theorem Ty.size229 : sizeB Try.prog 229 = some 1 := by kernel_rfl
theorem Ty.bytes229 : bytesB Try.prog 229 = some 0 := by kernel_rfl
theorem Ty.zero229 : zeroB Try.prog 229 = some (.tuple #[(.agg #[(.int .i64 0), (.slice none 0 0), (.slice none 0 0)]), (.int .i64 0), (.int .i64 0)]) := by kernel_rfl
theorem Ty.val229 : valB Try.prog 229 = true := by kernel_rfl
theorem Ty.some232 : someU Try.prog 232 = true := by kernel_rfl
theorem Ty.agg232 : aggB Try.prog 232 = false := by kernel_rfl
theorem Ty.size232 : sizeB Try.prog 232 = some 1 := by kernel_rfl
theorem Ty.bytes232 : bytesB Try.prog 232 = some 8 := by kernel_rfl
theorem Ty.zero232 : zeroB Try.prog 232 = some .nilFunc := by kernel_rfl
theorem Ty.val232 : valB Try.prog 232 = true := by kernel_rfl
theorem Ty.some234 : someU Try.prog 234 = true := by kernel_rfl
theorem Ty.agg234 : aggB Try.prog 234 = true := by kernel_rfl
theorem Ty.size234 : sizeB Try.prog 234 = some 2 := by kernel_rfl
theorem Ty.bytes234 : bytesB Try.prog 234 = some 32 := by kernel_rfl
theorem Ty.zero234 : zeroB Try.prog 234 = some (.agg #[(.int .i64 0), (.slice none 0 0)]) := by kernel_rfl
theorem Ty.val234 : valB Try.prog 234 = true := by kernel_rfl
theorem Ty.fs234 : fsB Try.prog 234 = true := by kernel_rfl
theorem Ty.fld234_0 : fieldB Try.prog 234 0 = some (0, 3) := by kernel_rfl
theorem Ty.fld234_1 : fieldB Try.prog 234 1 = some (1, 22) := by kernel_rfl
theorem Ty.some235 : someU Try.prog 235 = true := by kernel_rfl
theorem Ty.agg235 : aggB Try.prog 235 = true := by kernel_rfl
theorem Ty.size235 : sizeB Try.prog 235 = some 2 := by kernel_rfl
theorem Ty.bytes235 : bytesB Try.prog 235 = some 32 := by kernel_rfl
theorem Ty.zero235 : zeroB Try.prog 235 = some (.agg #[(.int .i64 0), (.slice none 0 0)]) := by kernel_rfl
theorem Ty.val235 : valB Try.prog 235 = true := by kernel_rfl
theorem Ty.fs235 : fsB Try.prog 235 = true := by kernel_rfl
theorem Ty.fld235_0 : fieldB Try.prog 235 0 = some (0, 3) := by kernel_rfl
theorem Ty.fld235_1 : fieldB Try.prog 235 1 = some (1, 22) := by kernel_rfl
theorem Ty.some236 : someU Try.prog 236 = true := by kernel_rfl
theorem Ty.agg236 : aggB Try.prog 236 = false := by kernel_rfl
theorem Ty.size236 : sizeB Try.prog 236 = some 1 := by kernel_rfl
theorem Ty.bytes236 : bytesB Try.prog 236 = some 8 := by kernel_rfl
theorem Ty.zero236 : zeroB Try.prog 236 = some (.map none) := by kernel_rfl
theorem Ty.val236 : valB Try.prog 236 = true := by kernel_rfl
theorem Ty.some237 : someU Try.prog 237 = true := by kernel_rfl
theorem Ty.agg237 : aggB Try.prog 237 = false := by kernel_rfl
theorem Ty.size237 : sizeB Try.prog 237 = some 1 := by kernel_rfl
theorem Ty.bytes237 : bytesB Try.prog 237 = some 0 := by kernel_rfl
theorem Ty.zero237 : zeroB Try.prog 237 = some (.tuple #[(.int .i64 0), (.bool false)]) := by kernel_rfl
theorem Ty.val237 : valB Try.prog 237 = true := by kernel_rfl
theorem Ty.some245 : someU Try.prog 245 = true := by kernel_rfl
theorem Ty.agg245 : aggB Try.prog 245 = true := by kernel_rfl
theorem Ty.size245 : sizeB Try.prog 245 = some 2 := by kernel_rfl
theorem Ty.bytes245 : bytesB Try.prog 245 = some 16 := by kernel_rfl
theorem Ty.zero245 : zeroB Try.prog 245 = some (.agg #[(.int .i64 0), (.int .i64 0)]) := by kernel_rfl
theorem Ty.val245 : valB Try.prog 245 = true := by kernel_rfl
theorem Ty.fs245 : fsB Try.prog 245 = true := by kernel_rfl
theorem Ty.fld245_0 : fieldB Try.prog 245 0 = some (0, 2) := by kernel_rfl
theorem Ty.fld245_1 : fieldB Try.prog 245 1 = some (1, 2) := by kernel_rfl
theorem Ty.some246 : someU Try.prog 246 = true := by kernel_rfl
theorem Ty.agg246 : aggB Try.prog 246 = true := by kernel_rfl
theorem Ty.size246 : sizeB Try.prog 246 = some 2 := by kernel_rfl
theorem Ty.bytes246 : bytesB Try.prog 246 = some 16 := by kernel_rfl
theorem Ty.zero246 : zeroB Try.prog 246 = some (.agg #[(.int .i64 0), (.int .i64 0)]) := by kernel_rfl
theorem Ty.val246 : valB Try.prog 246 = true := by kernel_rfl
theorem Ty.fs246 : fsB Try.prog 246 = true := by kernel_rfl
theorem Ty.fld246_0 : fieldB Try.prog 246 0 = some (0, 2) := by kernel_rfl
theorem Ty.fld246_1 : fieldB Try.prog 246 1 = some (1, 2) := by kernel_rfl
theorem Ty.some250 : someU Try.prog 250 = true := by kernel_rfl
theorem Ty.agg250 : aggB Try.prog 250 = true := by kernel_rfl
theorem Ty.size250 : sizeB Try.prog 250 = some 4 := by kernel_rfl
theorem Ty.bytes250 : bytesB Try.prog 250 = some 32 := by kernel_rfl
theorem Ty.zero250 : zeroB Try.prog 250 = some (.agg #[(.int .i64 0), (.int .i64 0), (.int .i64 0), (.int .i64 0)]) := by kernel_rfl
theorem Ty.val250 : valB Try.prog 250 = true := by kernel_rfl
theorem Ty.arr250 : arrB Try.prog 250 = some (2, 46) := by kernel_rfl
theorem Ty.some258 : someU Try.prog 258 = true := by kernel_rfl
theorem Ty.agg258 : aggB Try.prog 258 = false := by kernel_rfl
theorem Ty.size258 : sizeB Try.prog 258 = some 1 := by kernel_rfl
theorem Ty.bytes258 : bytesB Try.prog 258 = some 0 := by kernel_rfl
theorem Ty.zero258 : zeroB Try.prog 258 = some (.tuple #[(.slice none 0 0), (.int .i64 0), (.int .i64 0)]) := by kernel_rfl
theorem Ty.val258 : valB Try.prog 258 = true := by kernel_rfl
theorem Ty.some260 : someU Try.prog 260 = true := by kernel_rfl
theorem Ty.agg260 : aggB Try.prog 260 = false := by kernel_rfl
theorem Ty.size260 : sizeB Try.prog 260 = some 1 := by kernel_rfl
theorem Ty.bytes260 : bytesB Try.prog 260 = some 8 := by kernel_rfl
theorem Ty.zero260 : zeroB Try.prog 260 = some (.map none) := by kernel_rfl
theorem Ty.val260 : valB Try.prog 260 = true := by kernel_rfl
theorem Ty.some261 : someU Try.prog 261 = true := by kernel_rfl
theorem Ty.agg261 : aggB Try.prog 261 = false := by kernel_rfl
theorem Ty.size261 : sizeB Try.prog 261 = some 1 := by kernel_rfl
theorem Ty.bytes261 : bytesB Try.prog 261 = some 0 := by kernel_rfl
theorem Ty.zero261 : zeroB Try.prog 261 = some (.tuple #[(.int .i64 0), (.bool false)]) := by kernel_rfl
theorem Ty.val261 : valB Try.prog 261 = true := by kernel_rfl
theorem Ty.some262 : someU Try.prog 262 = true := by kernel_rfl
theorem Ty.agg262 : aggB Try.prog 262 = false := by kernel_rfl
theorem Ty.size262 : sizeB Try.prog 262 = some 1 := by kernel_rfl
theorem Ty.bytes262 : bytesB Try.prog 262 = some 8 := by kernel_rfl
theorem Ty.zero262 : zeroB Try.prog 262 = some (.pointer none) := by kernel_rfl
theorem Ty.val262 : valB Try.prog 262 = true := by kernel_rfl
theorem Ty.ptr262 : ptrB Try.prog 262 = true := by kernel_rfl
theorem Ty.some265 : someU Try.prog 265 = true := by kernel_rfl
theorem Ty.agg265 : aggB Try.prog 265 = true := by kernel_rfl
theorem Ty.size265 : sizeB Try.prog 265 = some 7 := by kernel_rfl
theorem Ty.bytes265 : bytesB Try.prog 265 = some 56 := by kernel_rfl
theorem Ty.zero265 : zeroB Try.prog 265 = some (.agg #[(.int .i64 0), (.int .i64 0), (.int .i64 0), (.int .i64 0), (.int .i64 0), (.int .i64 0), (.int .i64 0)]) := by kernel_rfl
theorem Ty.val265 : valB Try.prog 265 = true := by kernel_rfl
theorem Ty.fs265 : fsB Try.prog 265 = true := by kernel_rfl
theorem Ty.fld265_0 : fieldB Try.prog 265 0 = some (0, 2) := by kernel_rfl
theorem Ty.fld265_1 : fieldB Try.prog 265 1 = some (1, 2) := by kernel_rfl
theorem Ty.fld265_2 : fieldB Try.prog 265 2 = some (2, 2) := by kernel_rfl
theorem Ty.fld265_3 : fieldB Try.prog 265 3 = some (3, 2) := by kernel_rfl
theorem Ty.fld265_4 : fieldB Try.prog 265 4 = some (4, 2) := by kernel_rfl
theorem Ty.fld265_5 : fieldB Try.prog 265 5 = some (5, 46) := by kernel_rfl
theorem Ty.some266 : someU Try.prog 266 = true := by kernel_rfl
theorem Ty.agg266 : aggB Try.prog 266 = false := by kernel_rfl
theorem Ty.size266 : sizeB Try.prog 266 = some 1 := by kernel_rfl
theorem Ty.bytes266 : bytesB Try.prog 266 = some 8 := by kernel_rfl
theorem Ty.zero266 : zeroB Try.prog 266 = some (.map none) := by kernel_rfl
theorem Ty.val266 : valB Try.prog 266 = true := by kernel_rfl
theorem Ty.some267 : someU Try.prog 267 = true := by kernel_rfl
theorem Ty.agg267 : aggB Try.prog 267 = false := by kernel_rfl
theorem Ty.size267 : sizeB Try.prog 267 = some 1 := by kernel_rfl
theorem Ty.bytes267 : bytesB Try.prog 267 = some 8 := by kernel_rfl
theorem Ty.zero267 : zeroB Try.prog 267 = some (.map none) := by kernel_rfl
theorem Ty.val267 : valB Try.prog 267 = true := by kernel_rfl
theorem Ty.some270 : someU Try.prog 270 = true := by kernel_rfl
theorem Ty.agg270 : aggB Try.prog 270 = false := by kernel_rfl
theorem Ty.size270 : sizeB Try.prog 270 = some 1 := by kernel_rfl
theorem Ty.bytes270 : bytesB Try.prog 270 = some 8 := by kernel_rfl
theorem Ty.zero270 : zeroB Try.prog 270 = some .nilFunc := by kernel_rfl
theorem Ty.val270 : valB Try.prog 270 = true := by kernel_rfl
theorem Ty.some277 : someU Try.prog 277 = true := by kernel_rfl
theorem Ty.agg277 : aggB Try.prog 277 = false := by kernel_rfl
theorem Ty.size277 : sizeB Try.prog 277 = some 1 := by kernel_rfl
theorem Ty.bytes277 : bytesB Try.prog 277 = some 24 := by kernel_rfl
theorem Ty.zero277 : zeroB Try.prog 277 = some (.slice none 0 0) := by kernel_rfl
theorem Ty.val277 : valB Try.prog 277 = true := by kernel_rfl
theorem Ty.elem277 : elemB Try.prog 277 = some 58 := by kernel_rfl
theorem Ty.some279 : someU Try.prog 279 = true := by kernel_rfl
theorem Ty.agg279 : aggB Try.prog 279 = false := by kernel_rfl
theorem Ty.size279 : sizeB Try.prog 279 = some 1 := by kernel_rfl
theorem Ty.bytes279 : bytesB Try.prog 279 = some 0 := by kernel_rfl
theorem Ty.zero279 : zeroB Try.prog 279 = some (.tuple #[(.pointer none), (.int .i64 0)]) := by kernel_rfl
theorem Ty.val279 : valB Try.prog 279 = true := by kernel_rfl
theorem Ty.some282 : someU Try.prog 282 = true := by kernel_rfl
theorem Ty.agg282 : aggB Try.prog 282 = false := by kernel_rfl
theorem Ty.size282 : sizeB Try.prog 282 = some 1 := by kernel_rfl
theorem Ty.bytes282 : bytesB Try.prog 282 = some 8 := by kernel_rfl
theorem Ty.zero282 : zeroB Try.prog 282 = some (.int .u64 0) := by kernel_rfl
theorem Ty.kind282 : kindB Try.prog 282 = some .u64 := by kernel_rfl
theorem Ty.val282 : valB Try.prog 282 = true := by kernel_rfl
theorem Ty.some283 : someU Try.prog 283 = true := by kernel_rfl
theorem Ty.agg283 : aggB Try.prog 283 = false := by kernel_rfl
theorem Ty.size283 : sizeB Try.prog 283 = some 1 := by kernel_rfl
theorem Ty.bytes283 : bytesB Try.prog 283 = some 0 := by kernel_rfl
theorem Ty.zero283 : zeroB Try.prog 283 = some (.tuple #[(.int .u64 0), (.int .u64 0)]) := by kernel_rfl
theorem Ty.val283 : valB Try.prog 283 = true := by kernel_rfl
theorem Ty.some285 : someU Try.prog 285 = true := by kernel_rfl
theorem Ty.agg285 : aggB Try.prog 285 = false := by kernel_rfl
theorem Ty.size285 : sizeB Try.prog 285 = some 1 := by kernel_rfl
theorem Ty.bytes285 : bytesB Try.prog 285 = some 24 := by kernel_rfl
theorem Ty.zero285 : zeroB Try.prog 285 = some (.slice none 0 0) := by kernel_rfl
theorem Ty.val285 : valB Try.prog 285 = true := by kernel_rfl
theorem Ty.elem285 : elemB Try.prog 285 = some 22 := by kernel_rfl
theorem Ty.some286 : someU Try.prog 286 = true := by kernel_rfl
theorem Ty.agg286 : aggB Try.prog 286 = false := by kernel_rfl
theorem Ty.size286 : sizeB Try.prog 286 = some 1 := by kernel_rfl
theorem Ty.bytes286 : bytesB Try.prog 286 = some 0 := by kernel_rfl
theorem Ty.zero286 : zeroB Try.prog 286 = some (.tuple #[(.slice none 0 0), (.int .i64 0)]) := by kernel_rfl
theorem Ty.val286 : valB Try.prog 286 = true := by kernel_rfl
theorem Ty.some290 : someU Try.prog 290 = true := by kernel_rfl
theorem Ty.agg290 : aggB Try.prog 290 = false := by kernel_rfl
theorem Ty.size290 : sizeB Try.prog 290 = some 1 := by kernel_rfl
theorem Ty.bytes290 : bytesB Try.prog 290 = some 8 := by kernel_rfl
theorem Ty.zero290 : zeroB Try.prog 290 = some .nilFunc := by kernel_rfl
theorem Ty.val290 : valB Try.prog 290 = true := by kernel_rfl
theorem Ty.some291 : someU Try.prog 291 = true := by kernel_rfl
theorem Ty.agg291 : aggB Try.prog 291 = false := by kernel_rfl
theorem Ty.size291 : sizeB Try.prog 291 = some 1 := by kernel_rfl
theorem Ty.bytes291 : bytesB Try.prog 291 = some 16 := by kernel_rfl
theorem Ty.zero291 : zeroB Try.prog 291 = some .nilIface := by kernel_rfl
theorem Ty.some292 : someU Try.prog 292 = true := by kernel_rfl
theorem Ty.agg292 : aggB Try.prog 292 = false := by kernel_rfl
theorem Ty.size292 : sizeB Try.prog 292 = some 1 := by kernel_rfl
theorem Ty.bytes292 : bytesB Try.prog 292 = some 16 := by kernel_rfl
theorem Ty.zero292 : zeroB Try.prog 292 = some .nilIface := by kernel_rfl
theorem Ty.some293 : someU Try.prog 293 = true := by kernel_rfl
theorem Ty.agg293 : aggB Try.prog 293 = true := by kernel_rfl
theorem Ty.size293 : sizeB Try.prog 293 = some 3 := by kernel_rfl
theorem Ty.bytes293 : bytesB Try.prog 293 = some 32 := by kernel_rfl
theorem Ty.zero293 : zeroB Try.prog 293 = some (.agg #[(.int .i64 0), (.int .i64 0), .nilIface]) := by kernel_rfl
theorem Ty.val293 : valB Try.prog 293 = true := by kernel_rfl
theorem Ty.fs293 : fsB Try.prog 293 = true := by kernel_rfl
theorem Ty.fld293_0 : fieldB Try.prog 293 0 = some (0, 2) := by kernel_rfl
theorem Ty.fld293_1 : fieldB Try.prog 293 1 = some (1, 2) := by kernel_rfl
theorem Ty.fld293_2 : fieldB Try.prog 293 2 = some (2, 292) := by kernel_rfl
theorem Ty.some294 : someU Try.prog 294 = true := by kernel_rfl
theorem Ty.agg294 : aggB Try.prog 294 = true := by kernel_rfl
theorem Ty.size294 : sizeB Try.prog 294 = some 3 := by kernel_rfl
theorem Ty.bytes294 : bytesB Try.prog 294 = some 32 := by kernel_rfl
theorem Ty.zero294 : zeroB Try.prog 294 = some (.agg #[(.int .i64 0), (.int .i64 0), .nilIface]) := by kernel_rfl
theorem Ty.val294 : valB Try.prog 294 = true := by kernel_rfl
theorem Ty.fs294 : fsB Try.prog 294 = true := by kernel_rfl
theorem Ty.fld294_0 : fieldB Try.prog 294 0 = some (0, 2) := by kernel_rfl
theorem Ty.fld294_1 : fieldB Try.prog 294 1 = some (1, 2) := by kernel_rfl
theorem Ty.fld294_2 : fieldB Try.prog 294 2 = some (2, 292) := by kernel_rfl
theorem Ty.some298 : someU Try.prog 298 = true := by kernel_rfl
theorem Ty.agg298 : aggB Try.prog 298 = false := by kernel_rfl
theorem Ty.size298 : sizeB Try.prog 298 = some 1 := by kernel_rfl
theorem Ty.bytes298 : bytesB Try.prog 298 = some 8 := by kernel_rfl
theorem Ty.zero298 : zeroB Try.prog 298 = some (.pointer none) := by kernel_rfl
theorem Ty.val298 : valB Try.prog 298 = true := by kernel_rfl
theorem Ty.ptr298 : ptrB Try.prog 298 = true := by kernel_rfl
theorem Ty.some299 : someU Try.prog 299 = true := by kernel_rfl
theorem Ty.agg299 : aggB Try.prog 299 = true := by kernel_rfl
theorem Ty.size299 : sizeB Try.prog 299 = some 2 := by kernel_rfl
theorem Ty.bytes299 : bytesB Try.prog 299 = some 16 := by kernel_rfl
theorem Ty.zero299 : zeroB Try.prog 299 = some (.agg #[(.int .i64 0), (.int .i64 0)]) := by kernel_rfl
theorem Ty.val299 : valB Try.prog 299 = true := by kernel_rfl
theorem Ty.fs299 : fsB Try.prog 299 = true := by kernel_rfl
theorem Ty.fld299_0 : fieldB Try.prog 299 0 = some (0, 2) := by kernel_rfl
theorem Ty.fld299_1 : fieldB Try.prog 299 1 = some (1, 3) := by kernel_rfl
theorem Ty.some300 : someU Try.prog 300 = true := by kernel_rfl
theorem Ty.agg300 : aggB Try.prog 300 = true := by kernel_rfl
theorem Ty.size300 : sizeB Try.prog 300 = some 2 := by kernel_rfl
theorem Ty.bytes300 : bytesB Try.prog 300 = some 16 := by kernel_rfl
theorem Ty.zero300 : zeroB Try.prog 300 = some (.agg #[(.int .i64 0), (.int .i64 0)]) := by kernel_rfl
theorem Ty.val300 : valB Try.prog 300 = true := by kernel_rfl
theorem Ty.fs300 : fsB Try.prog 300 = true := by kernel_rfl
theorem Ty.fld300_0 : fieldB Try.prog 300 0 = some (0, 2) := by kernel_rfl
theorem Ty.fld300_1 : fieldB Try.prog 300 1 = some (1, 3) := by kernel_rfl
theorem Ty.some301 : someU Try.prog 301 = true := by kernel_rfl
theorem Ty.agg301 : aggB Try.prog 301 = false := by kernel_rfl
theorem Ty.size301 : sizeB Try.prog 301 = some 1 := by kernel_rfl
theorem Ty.bytes301 : bytesB Try.prog 301 = some 24 := by kernel_rfl
theorem Ty.zero301 : zeroB Try.prog 301 = some (.slice none 0 0) := by kernel_rfl
theorem Ty.val301 : valB Try.prog 301 = true := by kernel_rfl
theorem Ty.elem301 : elemB Try.prog 301 = some 300 := by kernel_rfl
theorem Ty.some302 : someU Try.prog 302 = true := by kernel_rfl
theorem Ty.agg302 : aggB Try.prog 302 = false := by kernel_rfl
theorem Ty.size302 : sizeB Try.prog 302 = some 1 := by kernel_rfl
theorem Ty.bytes302 : bytesB Try.prog 302 = some 24 := by kernel_rfl
theorem Ty.zero302 : zeroB Try.prog 302 = some (.slice none 0 0) := by kernel_rfl
theorem Ty.val302 : valB Try.prog 302 = true := by kernel_rfl
theorem Ty.elem302 : elemB Try.prog 302 = some 300 := by kernel_rfl
theorem Ty.some309 : someU Try.prog 309 = true := by kernel_rfl
theorem Ty.agg309 : aggB Try.prog 309 = true := by kernel_rfl
theorem Ty.size309 : sizeB Try.prog 309 = some 3 := by kernel_rfl
theorem Ty.bytes309 : bytesB Try.prog 309 = some 24 := by kernel_rfl
theorem Ty.zero309 : zeroB Try.prog 309 = some (.agg #[(.pointer none), (.int .i64 0), (.int .i64 0)]) := by kernel_rfl
theorem Ty.val309 : valB Try.prog 309 = true := by kernel_rfl
theorem Ty.fs309 : fsB Try.prog 309 = true := by kernel_rfl
theorem Ty.fld309_0 : fieldB Try.prog 309 0 = some (0, 28) := by kernel_rfl
theorem Ty.fld309_1 : fieldB Try.prog 309 1 = some (1, 46) := by kernel_rfl
theorem Ty.some310 : someU Try.prog 310 = true := by kernel_rfl
theorem Ty.agg310 : aggB Try.prog 310 = true := by kernel_rfl
theorem Ty.size310 : sizeB Try.prog 310 = some 6 := by kernel_rfl
theorem Ty.bytes310 : bytesB Try.prog 310 = some 48 := by kernel_rfl
theorem Ty.zero310 : zeroB Try.prog 310 = some (.agg #[(.pointer none), (.int .i64 0), (.int .i64 0), (.pointer none), (.int .i64 0), (.int .i64 0)]) := by kernel_rfl
theorem Ty.val310 : valB Try.prog 310 = true := by kernel_rfl
theorem Ty.arr310 : arrB Try.prog 310 = some (2, 309) := by kernel_rfl
theorem Ty.some313 : someU Try.prog 313 = true := by kernel_rfl
theorem Ty.agg313 : aggB Try.prog 313 = true := by kernel_rfl
theorem Ty.size313 : sizeB Try.prog 313 = some 2 := by kernel_rfl
theorem Ty.bytes313 : bytesB Try.prog 313 = some 16 := by kernel_rfl
theorem Ty.zero313 : zeroB Try.prog 313 = some (.agg #[(.int .i64 0), (.int .i64 0)]) := by kernel_rfl
theorem Ty.val313 : valB Try.prog 313 = true := by kernel_rfl
theorem Ty.fs313 : fsB Try.prog 313 = true := by kernel_rfl
theorem Ty.fld313_0 : fieldB Try.prog 313 0 = some (0, 2) := by kernel_rfl
theorem Ty.fld313_1 : fieldB Try.prog 313 1 = some (1, 3) := by kernel_rfl
theorem Ty.some314 : someU Try.prog 314 = true := by kernel_rfl
theorem Ty.agg314 : aggB Try.prog 314 = true := by kernel_rfl
theorem Ty.size314 : sizeB Try.prog 314 = some 2 := by kernel_rfl
theorem Ty.bytes314 : bytesB Try.prog 314 = some 16 := by kernel_rfl
theorem Ty.zero314 : zeroB Try.prog 314 = some (.agg #[(.int .i64 0), (.int .i64 0)]) := by kernel_rfl
theorem Ty.val314 : valB Try.prog 314 = true := by kernel_rfl
theorem Ty.fs314 : fsB Try.prog 314 = true := by kernel_rfl
theorem Ty.fld314_0 : fieldB Try.prog 314 0 = some (0, 2) := by kernel_rfl
theorem Ty.fld314_1 : fieldB Try.prog 314 1 = some (1, 3) := by kernel_rfl
theorem Ty.some315 : someU Try.prog 315 = true := by kernel_rfl
theorem Ty.agg315 : aggB Try.prog 315 = false := by kernel_rfl
theorem Ty.size315 : sizeB Try.prog 315 = some 1 := by kernel_rfl
theorem Ty.bytes315 : bytesB Try.prog 315 = some 8 := by kernel_rfl
theorem Ty.zero315 : zeroB Try.prog 315 = some (.pointer none) := by kernel_rfl
theorem Ty.val315 : valB Try.prog 315 = true := by kernel_rfl
theorem Ty.ptr315 : ptrB Try.prog 315 = true := by kernel_rfl
theorem Ty.some316 : someU Try.prog 316 = true := by kernel_rfl
theorem Ty.agg316 : aggB Try.prog 316 = true := by kernel_rfl
theorem Ty.size316 : sizeB Try.prog 316 = some 4 := by kernel_rfl
theorem Ty.bytes316 : bytesB Try.prog 316 = some 32 := by kernel_rfl
theorem Ty.zero316 : zeroB Try.prog 316 = some (.agg #[(.int .i64 0), (.int .i64 0), (.int .i64 0), (.int .i64 0)]) := by kernel_rfl
theorem Ty.val316 : valB Try.prog 316 = true := by kernel_rfl
theorem Ty.arr316 : arrB Try.prog 316 = some (4, 3) := by kernel_rfl
theorem Ty.some319 : someU Try.prog 319 = true := by kernel_rfl
theorem Ty.agg319 : aggB Try.prog 319 = false := by kernel_rfl
theorem Ty.size319 : sizeB Try.prog 319 = some 1 := by kernel_rfl
theorem Ty.bytes319 : bytesB Try.prog 319 = some 24 := by kernel_rfl
theorem Ty.zero319 : zeroB Try.prog 319 = some (.slice none 0 0) := by kernel_rfl
theorem Ty.val319 : valB Try.prog 319 = true := by kernel_rfl
theorem Ty.elem319 : elemB Try.prog 319 = some 320 := by kernel_rfl
theorem Ty.some320 : someU Try.prog 320 = true := by kernel_rfl
theorem Ty.agg320 : aggB Try.prog 320 = false := by kernel_rfl
theorem Ty.size320 : sizeB Try.prog 320 = some 1 := by kernel_rfl
theorem Ty.bytes320 : bytesB Try.prog 320 = some 8 := by kernel_rfl
theorem Ty.zero320 : zeroB Try.prog 320 = some (.pointer none) := by kernel_rfl
theorem Ty.val320 : valB Try.prog 320 = true := by kernel_rfl
theorem Ty.ptr320 : ptrB Try.prog 320 = true := by kernel_rfl
theorem Ty.some321 : someU Try.prog 321 = true := by kernel_rfl
theorem Ty.agg321 : aggB Try.prog 321 = true := by kernel_rfl
theorem Ty.size321 : sizeB Try.prog 321 = some 3 := by kernel_rfl
theorem Ty.bytes321 : bytesB Try.prog 321 = some 40 := by kernel_rfl
theorem Ty.zero321 : zeroB Try.prog 321 = some (.agg #[(.pointer none), (.int .i64 0), (.slice none 0 0)]) := by kernel_rfl
theorem Ty.val321 : valB Try.prog 321 = true := by kernel_rfl
theorem Ty.fs321 : fsB Try.prog 321 = true := by kernel_rfl
theorem Ty.fld321_0 : fieldB Try.prog 321 0 = some (0, 320) := by kernel_rfl
theorem Ty.fld321_1 : fieldB Try.prog 321 1 = some (1, 2) := by kernel_rfl
theorem Ty.fld321_2 : fieldB Try.prog 321 2 = some (2, 182) := by kernel_rfl
theorem Ty.some322 : someU Try.prog 322 = true := by kernel_rfl
theorem Ty.agg322 : aggB Try.prog 322 = true := by kernel_rfl
theorem Ty.size322 : sizeB Try.prog 322 = some 3 := by kernel_rfl
theorem Ty.bytes322 : bytesB Try.prog 322 = some 40 := by kernel_rfl
theorem Ty.zero322 : zeroB Try.prog 322 = some (.agg #[(.pointer none), (.int .i64 0), (.slice none 0 0)]) := by kernel_rfl
theorem Ty.val322 : valB Try.prog 322 = true := by kernel_rfl
theorem Ty.fs322 : fsB Try.prog 322 = true := by kernel_rfl
theorem Ty.fld322_0 : fieldB Try.prog 322 0 = some (0, 320) := by kernel_rfl
theorem Ty.fld322_1 : fieldB Try.prog 322 1 = some (1, 2) := by kernel_rfl
theorem Ty.fld322_2 : fieldB Try.prog 322 2 = some (2, 182) := by kernel_rfl
theorem Ty.some335 : someU Try.prog 335 = true := by kernel_rfl
theorem Ty.agg335 : aggB Try.prog 335 = false := by kernel_rfl
theorem Ty.size335 : sizeB Try.prog 335 = some 1 := by kernel_rfl
theorem Ty.bytes335 : bytesB Try.prog 335 = some 4 := by kernel_rfl
theorem Ty.zero335 : zeroB Try.prog 335 = some (.int .i32 0) := by kernel_rfl
theorem Ty.kind335 : kindB Try.prog 335 = some .i32 := by kernel_rfl
theorem Ty.val335 : valB Try.prog 335 = true := by kernel_rfl
theorem Ty.some336 : someU Try.prog 336 = true := by kernel_rfl
theorem Ty.agg336 : aggB Try.prog 336 = false := by kernel_rfl
theorem Ty.size336 : sizeB Try.prog 336 = some 1 := by kernel_rfl
theorem Ty.bytes336 : bytesB Try.prog 336 = some 4 := by kernel_rfl
theorem Ty.zero336 : zeroB Try.prog 336 = some (.int .u32 0) := by kernel_rfl
theorem Ty.kind336 : kindB Try.prog 336 = some .u32 := by kernel_rfl
theorem Ty.val336 : valB Try.prog 336 = true := by kernel_rfl
theorem Ty.some337 : someU Try.prog 337 = true := by kernel_rfl
theorem Ty.agg337 : aggB Try.prog 337 = false := by kernel_rfl
theorem Ty.size337 : sizeB Try.prog 337 = some 1 := by kernel_rfl
theorem Ty.bytes337 : bytesB Try.prog 337 = some 0 := by kernel_rfl
theorem Ty.zero337 : zeroB Try.prog 337 = some (.tuple #[(.int .u32 0), (.int .u32 0)]) := by kernel_rfl
theorem Ty.val337 : valB Try.prog 337 = true := by kernel_rfl
theorem Ty.some339 : someU Try.prog 339 = true := by kernel_rfl
theorem Ty.agg339 : aggB Try.prog 339 = false := by kernel_rfl
theorem Ty.size339 : sizeB Try.prog 339 = some 1 := by kernel_rfl
theorem Ty.bytes339 : bytesB Try.prog 339 = some 8 := by kernel_rfl
theorem Ty.zero339 : zeroB Try.prog 339 = some (.int .u64 0) := by kernel_rfl
theorem Ty.kind339 : kindB Try.prog 339 = some .u64 := by kernel_rfl
theorem Ty.val339 : valB Try.prog 339 = true := by kernel_rfl
theorem Ty.some340 : someU Try.prog 340 = true := by kernel_rfl
theorem Ty.agg340 : aggB Try.prog 340 = false := by kernel_rfl
theorem Ty.size340 : sizeB Try.prog 340 = some 1 := by kernel_rfl
theorem Ty.bytes340 : bytesB Try.prog 340 = some 0 := by kernel_rfl
theorem Ty.zero340 : zeroB Try.prog 340 = some (.tuple #[(.int .u64 0), (.int .u64 0)]) := by kernel_rfl
theorem Ty.val340 : valB Try.prog 340 = true := by kernel_rfl
theorem Ty.some342 : someU Try.prog 342 = true := by kernel_rfl
theorem Ty.agg342 : aggB Try.prog 342 = false := by kernel_rfl
theorem Ty.size342 : sizeB Try.prog 342 = some 1 := by kernel_rfl
theorem Ty.bytes342 : bytesB Try.prog 342 = some 24 := by kernel_rfl
theorem Ty.zero342 : zeroB Try.prog 342 = some (.slice none 0 0) := by kernel_rfl
theorem Ty.val342 : valB Try.prog 342 = true := by kernel_rfl
theorem Ty.elem342 : elemB Try.prog 342 = some 28 := by kernel_rfl
theorem Ty.some343 : someU Try.prog 343 = true := by kernel_rfl
theorem Ty.agg343 : aggB Try.prog 343 = false := by kernel_rfl
theorem Ty.size343 : sizeB Try.prog 343 = some 1 := by kernel_rfl
theorem Ty.bytes343 : bytesB Try.prog 343 = some 24 := by kernel_rfl
theorem Ty.zero343 : zeroB Try.prog 343 = some (.slice none 0 0) := by kernel_rfl
theorem Ty.val343 : valB Try.prog 343 = true := by kernel_rfl
theorem Ty.elem343 : elemB Try.prog 343 = some 21 := by kernel_rfl
theorem Ty.some344 : someU Try.prog 344 = true := by kernel_rfl
theorem Ty.agg344 : aggB Try.prog 344 = false := by kernel_rfl
theorem Ty.size344 : sizeB Try.prog 344 = some 1 := by kernel_rfl
theorem Ty.bytes344 : bytesB Try.prog 344 = some 24 := by kernel_rfl
theorem Ty.zero344 : zeroB Try.prog 344 = some (.slice none 0 0) := by kernel_rfl
theorem Ty.val344 : valB Try.prog 344 = true := by kernel_rfl
theorem Ty.elem344 : elemB Try.prog 344 = some 21 := by kernel_rfl
theorem Ty.some345 : someU Try.prog 345 = true := by kernel_rfl
theorem Ty.agg345 : aggB Try.prog 345 = false := by kernel_rfl
theorem Ty.size345 : sizeB Try.prog 345 = some 1 := by kernel_rfl
theorem Ty.bytes345 : bytesB Try.prog 345 = some 0 := by kernel_rfl
theorem Ty.zero345 : zeroB Try.prog 345 = some (.tuple #[(.slice none 0 0), (.bool false)]) := by kernel_rfl
theorem Ty.val345 : valB Try.prog 345 = true := by kernel_rfl
theorem Ty.some347 : someU Try.prog 347 = true := by kernel_rfl
theorem Ty.agg347 : aggB Try.prog 347 = false := by kernel_rfl
theorem Ty.size347 : sizeB Try.prog 347 = some 1 := by kernel_rfl
theorem Ty.bytes347 : bytesB Try.prog 347 = some 16 := by kernel_rfl
theorem Ty.zero347 : zeroB Try.prog 347 = some .nilIface := by kernel_rfl
theorem Ty.some348 : someU Try.prog 348 = true := by kernel_rfl
theorem Ty.agg348 : aggB Try.prog 348 = false := by kernel_rfl
theorem Ty.size348 : sizeB Try.prog 348 = some 1 := by kernel_rfl
theorem Ty.bytes348 : bytesB Try.prog 348 = some 16 := by kernel_rfl
theorem Ty.zero348 : zeroB Try.prog 348 = some .nilIface := by kernel_rfl
theorem Ty.some354 : someU Try.prog 354 = true := by kernel_rfl
theorem Ty.agg354 : aggB Try.prog 354 = true := by kernel_rfl
theorem Ty.size354 : sizeB Try.prog 354 = some 2 := by kernel_rfl
theorem Ty.bytes354 : bytesB Try.prog 354 = some 16 := by kernel_rfl
theorem Ty.zero354 : zeroB Try.prog 354 = some (.agg #[(.bool false), (.int .i64 0)]) := by kernel_rfl
theorem Ty.val354 : valB Try.prog 354 = true := by kernel_rfl
theorem Ty.fs354 : fsB Try.prog 354 = true := by kernel_rfl
theorem Ty.fld354_0 : fieldB Try.prog 354 0 = some (0, 4) := by kernel_rfl
theorem Ty.fld354_1 : fieldB Try.prog 354 1 = some (1, 3) := by kernel_rfl
theorem Ty.some355 : someU Try.prog 355 = true := by kernel_rfl
theorem Ty.agg355 : aggB Try.prog 355 = true := by kernel_rfl
theorem Ty.size355 : sizeB Try.prog 355 = some 8 := by kernel_rfl
theorem Ty.bytes355 : bytesB Try.prog 355 = some 64 := by kernel_rfl
theorem Ty.zero355 : zeroB Try.prog 355 = some (.agg #[(.bool false), (.int .i64 0), (.bool false), (.int .i64 0), (.bool false), (.int .i64 0), (.bool false), (.int .i64 0)]) := by kernel_rfl
theorem Ty.val355 : valB Try.prog 355 = true := by kernel_rfl
theorem Ty.arr355 : arrB Try.prog 355 = some (4, 354) := by kernel_rfl
theorem Ty.some356 : someU Try.prog 356 = true := by kernel_rfl
theorem Ty.agg356 : aggB Try.prog 356 = true := by kernel_rfl
theorem Ty.size356 : sizeB Try.prog 356 = some 2 := by kernel_rfl
theorem Ty.bytes356 : bytesB Try.prog 356 = some 16 := by kernel_rfl
theorem Ty.zero356 : zeroB Try.prog 356 = some (.agg #[(.bool false), (.int .i64 0)]) := by kernel_rfl
theorem Ty.val356 : valB Try.prog 356 = true := by kernel_rfl
theorem Ty.fs356 : fsB Try.prog 356 = true := by kernel_rfl
theorem Ty.fld356_0 : fieldB Try.prog 356 0 = some (0, 4) := by kernel_rfl
theorem Ty.fld356_1 : fieldB Try.prog 356 1 = some (1, 3) := by kernel_rfl
theorem Ty.some357 : someU Try.prog 357 = true := by kernel_rfl
theorem Ty.agg357 : aggB Try.prog 357 = true := by kernel_rfl
theorem Ty.size357 : sizeB Try.prog 357 = some 8 := by kernel_rfl
theorem Ty.bytes357 : bytesB Try.prog 357 = some 64 := by kernel_rfl
theorem Ty.zero357 : zeroB Try.prog 357 = some (.agg #[(.bool false), (.int .i64 0), (.bool false), (.int .i64 0), (.bool false), (.int .i64 0), (.bool false), (.int .i64 0)]) := by kernel_rfl
theorem Ty.val357 : valB Try.prog 357 = true := by kernel_rfl
theorem Ty.arr357 : arrB Try.prog 357 = some (4, 356) := by kernel_rfl
theorem Ty.some363 : someU Try.prog 363 = true := by kernel_rfl
theorem Ty.agg363 : aggB Try.prog 363 = false := by kernel_rfl
theorem Ty.size363 : sizeB Try.prog 363 = some 1 := by kernel_rfl
theorem Ty.bytes363 : bytesB Try.prog 363 = some 8 := by kernel_rfl
theorem Ty.zero363 : zeroB Try.prog 363 = some (.int .i64 0) := by kernel_rfl
theorem Ty.kind363 : kindB Try.prog 363 = some .i64 := by kernel_rfl
theorem Ty.val363 : valB Try.prog 363 = true := by kernel_rfl
theorem Ty.some364 : someU Try.prog 364 = true := by kernel_rfl
theorem Ty.agg364 : aggB Try.prog 364 = false := by kernel_rfl
theorem Ty.size364 : sizeB Try.prog 364 = some 1 := by kernel_rfl
theorem Ty.bytes364 : bytesB Try.prog 364 = some 0 := by kernel_rfl
theorem Ty.zero364 : zeroB Try.prog 364 = some (.tuple #[(.int .i64 0), (.int .i64 0)]) := by kernel_rfl
theorem Ty.val364 : valB Try.prog 364 = true := by kernel_rfl
theorem Ty.some378 : someU Try.prog 378 = true := by kernel_rfl
theorem Ty.agg378 : aggB Try.prog 378 = false := by kernel_rfl
theorem Ty.size378 : sizeB Try.prog 378 = some 1 := by kernel_rfl
theorem Ty.bytes378 : bytesB Try.prog 378 = some 0 := by kernel_rfl
theorem Ty.zero378 : zeroB Try.prog 378 = some (.tuple #[(.int .i32 0), (.bool false)]) := by kernel_rfl
theorem Ty.val378 : valB Try.prog 378 = true := by kernel_rfl
theorem Ty.some382 : someU Try.prog 382 = true := by kernel_rfl
theorem Ty.agg382 : aggB Try.prog 382 = false := by kernel_rfl
theorem Ty.size382 : sizeB Try.prog 382 = some 1 := by kernel_rfl
theorem Ty.bytes382 : bytesB Try.prog 382 = some 8 := by kernel_rfl
theorem Ty.zero382 : zeroB Try.prog 382 = some (.int .u64 0) := by kernel_rfl
theorem Ty.kind382 : kindB Try.prog 382 = some .u64 := by kernel_rfl
theorem Ty.val382 : valB Try.prog 382 = true := by kernel_rfl
theorem Ty.some386 : someU Try.prog 386 = true := by kernel_rfl
theorem Ty.agg386 : aggB Try.prog 386 = false := by kernel_rfl
theorem Ty.size386 : sizeB Try.prog 386 = some 1 := by kernel_rfl
theorem Ty.bytes386 : bytesB Try.prog 386 = some 8 := by kernel_rfl
theorem Ty.zero386 : zeroB Try.prog 386 = some (.pointer none) := by kernel_rfl
theorem Ty.val386 : valB Try.prog 386 = true := by kernel_rfl
theorem Ty.ptr386 : ptrB Try.prog 386 = true := by kernel_rfl
theorem Ty.some392 : someU Try.prog 392 = true := by kernel_rfl
theorem Ty.agg392 : aggB Try.prog 392 = false := by kernel_rfl
theorem Ty.size392 : sizeB Try.prog 392 = some 1 := by kernel_rfl
theorem Ty.bytes392 : bytesB Try.prog 392 = some 8 := by kernel_rfl
theorem Ty.zero392 : zeroB Try.prog 392 = some (.pointer none) := by kernel_rfl
theorem Ty.val392 : valB Try.prog 392 = true := by kernel_rfl
theorem Ty.ptr392 : ptrB Try.prog 392 = true := by kernel_rfl
theorem Ty.some393 : someU Try.prog 393 = true := by kernel_rfl
theorem Ty.agg393 : aggB Try.prog 393 = false := by kernel_rfl
theorem Ty.size393 : sizeB Try.prog 393 = some 1 := by kernel_rfl
theorem Ty.bytes393 : bytesB Try.prog 393 = some 0 := by kernel_rfl
theorem Ty.zero393 : zeroB Try.prog 393 = some (.tuple #[(.int .i64 0), (.int .i64 0)]) := by kernel_rfl
theorem Ty.val393 : valB Try.prog 393 = true := by kernel_rfl
theorem Ty.some397 : someU Try.prog 397 = true := by kernel_rfl
theorem Ty.agg397 : aggB Try.prog 397 = true := by kernel_rfl
theorem Ty.size397 : sizeB Try.prog 397 = some 4 := by kernel_rfl
theorem Ty.bytes397 : bytesB Try.prog 397 = some 40 := by kernel_rfl
theorem Ty.zero397 : zeroB Try.prog 397 = some (.agg #[(.pointer none), (.pointer none), (.pointer none), (.string ByteArray.empty)]) := by kernel_rfl
theorem Ty.val397 : valB Try.prog 397 = true := by kernel_rfl
theorem Ty.fs397 : fsB Try.prog 397 = true := by kernel_rfl
theorem Ty.fld397_0 : fieldB Try.prog 397 0 = some (0, 17) := by kernel_rfl
theorem Ty.fld397_1 : fieldB Try.prog 397 1 = some (1, 17) := by kernel_rfl
theorem Ty.fld397_2 : fieldB Try.prog 397 2 = some (2, 17) := by kernel_rfl
theorem Ty.fld397_3 : fieldB Try.prog 397 3 = some (3, 9) := by kernel_rfl
theorem Ty.some398 : someU Try.prog 398 = true := by kernel_rfl
theorem Ty.agg398 : aggB Try.prog 398 = true := by kernel_rfl
theorem Ty.size398 : sizeB Try.prog 398 = some 4 := by kernel_rfl
theorem Ty.bytes398 : bytesB Try.prog 398 = some 40 := by kernel_rfl
theorem Ty.zero398 : zeroB Try.prog 398 = some (.agg #[(.pointer none), (.pointer none), (.pointer none), (.string ByteArray.empty)]) := by kernel_rfl
theorem Ty.val398 : valB Try.prog 398 = true := by kernel_rfl
theorem Ty.fs398 : fsB Try.prog 398 = true := by kernel_rfl
theorem Ty.fld398_0 : fieldB Try.prog 398 0 = some (0, 17) := by kernel_rfl
theorem Ty.fld398_1 : fieldB Try.prog 398 1 = some (1, 17) := by kernel_rfl
theorem Ty.fld398_2 : fieldB Try.prog 398 2 = some (2, 17) := by kernel_rfl
theorem Ty.fld398_3 : fieldB Try.prog 398 3 = some (3, 9) := by kernel_rfl
theorem Ty.some399 : someU Try.prog 399 = true := by kernel_rfl
theorem Ty.agg399 : aggB Try.prog 399 = true := by kernel_rfl
theorem Ty.size399 : sizeB Try.prog 399 = some 0 := by kernel_rfl
theorem Ty.bytes399 : bytesB Try.prog 399 = some 0 := by kernel_rfl
theorem Ty.zero399 : zeroB Try.prog 399 = some (.agg #[]) := by kernel_rfl
theorem Ty.val399 : valB Try.prog 399 = true := by kernel_rfl
theorem Ty.arr399 : arrB Try.prog 399 = some (0, 16) := by kernel_rfl
theorem Ty.some400 : someU Try.prog 400 = true := by kernel_rfl
theorem Ty.agg400 : aggB Try.prog 400 = true := by kernel_rfl
theorem Ty.size400 : sizeB Try.prog 400 = some 0 := by kernel_rfl
theorem Ty.bytes400 : bytesB Try.prog 400 = some 0 := by kernel_rfl
theorem Ty.zero400 : zeroB Try.prog 400 = some (.agg #[]) := by kernel_rfl
theorem Ty.val400 : valB Try.prog 400 = true := by kernel_rfl
theorem Ty.fs400 : fsB Try.prog 400 = true := by kernel_rfl
theorem Ty.fld400_0 : fieldB Try.prog 400 0 = some (0, 399) := by kernel_rfl
theorem Ty.some401 : someU Try.prog 401 = true := by kernel_rfl
theorem Ty.agg401 : aggB Try.prog 401 = true := by kernel_rfl
theorem Ty.size401 : sizeB Try.prog 401 = some 0 := by kernel_rfl
theorem Ty.bytes401 : bytesB Try.prog 401 = some 0 := by kernel_rfl
theorem Ty.zero401 : zeroB Try.prog 401 = some (.agg #[]) := by kernel_rfl
theorem Ty.val401 : valB Try.prog 401 = true := by kernel_rfl
theorem Ty.fs401 : fsB Try.prog 401 = true := by kernel_rfl
theorem Ty.fld401_0 : fieldB Try.prog 401 0 = some (0, 399) := by kernel_rfl
theorem Ty.some402 : someU Try.prog 402 = true := by kernel_rfl
theorem Ty.agg402 : aggB Try.prog 402 = false := by kernel_rfl
theorem Ty.size402 : sizeB Try.prog 402 = some 1 := by kernel_rfl
theorem Ty.bytes402 : bytesB Try.prog 402 = some 1 := by kernel_rfl
theorem Ty.zero402 : zeroB Try.prog 402 = some (.int .u8 0) := by kernel_rfl
theorem Ty.kind402 : kindB Try.prog 402 = some .u8 := by kernel_rfl
theorem Ty.val402 : valB Try.prog 402 = true := by kernel_rfl
theorem Ty.some403 : someU Try.prog 403 = true := by kernel_rfl
theorem Ty.agg403 : aggB Try.prog 403 = false := by kernel_rfl
theorem Ty.size403 : sizeB Try.prog 403 = some 1 := by kernel_rfl
theorem Ty.bytes403 : bytesB Try.prog 403 = some 1 := by kernel_rfl
theorem Ty.zero403 : zeroB Try.prog 403 = some (.int .u8 0) := by kernel_rfl
theorem Ty.kind403 : kindB Try.prog 403 = some .u8 := by kernel_rfl
theorem Ty.val403 : valB Try.prog 403 = true := by kernel_rfl
theorem Ty.some405 : someU Try.prog 405 = true := by kernel_rfl
theorem Ty.agg405 : aggB Try.prog 405 = false := by kernel_rfl
theorem Ty.size405 : sizeB Try.prog 405 = some 1 := by kernel_rfl
theorem Ty.bytes405 : bytesB Try.prog 405 = some 8 := by kernel_rfl
theorem Ty.zero405 : zeroB Try.prog 405 = some (.pointer none) := by kernel_rfl
theorem Ty.val405 : valB Try.prog 405 = true := by kernel_rfl
theorem Ty.ptr405 : ptrB Try.prog 405 = true := by kernel_rfl
theorem Ty.some406 : someU Try.prog 406 = true := by kernel_rfl
theorem Ty.agg406 : aggB Try.prog 406 = false := by kernel_rfl
theorem Ty.size406 : sizeB Try.prog 406 = some 1 := by kernel_rfl
theorem Ty.bytes406 : bytesB Try.prog 406 = some 4 := by kernel_rfl
theorem Ty.zero406 : zeroB Try.prog 406 = some (.int .i32 0) := by kernel_rfl
theorem Ty.kind406 : kindB Try.prog 406 = some .i32 := by kernel_rfl
theorem Ty.val406 : valB Try.prog 406 = true := by kernel_rfl
theorem Ty.some407 : someU Try.prog 407 = true := by kernel_rfl
theorem Ty.agg407 : aggB Try.prog 407 = false := by kernel_rfl
theorem Ty.size407 : sizeB Try.prog 407 = some 1 := by kernel_rfl
theorem Ty.bytes407 : bytesB Try.prog 407 = some 4 := by kernel_rfl
theorem Ty.zero407 : zeroB Try.prog 407 = some (.int .i32 0) := by kernel_rfl
theorem Ty.kind407 : kindB Try.prog 407 = some .i32 := by kernel_rfl
theorem Ty.val407 : valB Try.prog 407 = true := by kernel_rfl
theorem Ty.some408 : someU Try.prog 408 = true := by kernel_rfl
theorem Ty.agg408 : aggB Try.prog 408 = true := by kernel_rfl
theorem Ty.size408 : sizeB Try.prog 408 = some 11 := by kernel_rfl
theorem Ty.bytes408 : bytesB Try.prog 408 = some 48 := by kernel_rfl
theorem Ty.zero408 : zeroB Try.prog 408 = some (.agg #[(.int .u64 0), (.int .u64 0), (.int .u32 0), (.int .u8 0), (.int .u8 0), (.int .u8 0), (.int .u8 0), .nilFunc, (.pointer none), (.int .i32 0), (.int .i32 0)]) := by kernel_rfl
theorem Ty.val408 : valB Try.prog 408 = true := by kernel_rfl
theorem Ty.fs408 : fsB Try.prog 408 = true := by kernel_rfl
theorem Ty.fld408_0 : fieldB Try.prog 408 0 = some (0, 12) := by kernel_rfl
theorem Ty.fld408_1 : fieldB Try.prog 408 1 = some (1, 12) := by kernel_rfl
theorem Ty.fld408_2 : fieldB Try.prog 408 2 = some (2, 336) := by kernel_rfl
theorem Ty.fld408_3 : fieldB Try.prog 408 3 = some (3, 402) := by kernel_rfl
theorem Ty.fld408_4 : fieldB Try.prog 408 4 = some (4, 5) := by kernel_rfl
theorem Ty.fld408_5 : fieldB Try.prog 408 5 = some (5, 5) := by kernel_rfl
theorem Ty.fld408_6 : fieldB Try.prog 408 6 = some (6, 403) := by kernel_rfl
theorem Ty.fld408_7 : fieldB Try.prog 408 7 = some (7, 404) := by kernel_rfl
theorem Ty.fld408_8 : fieldB Try.prog 408 8 = some (8, 405) := by kernel_rfl
theorem Ty.fld408_9 : fieldB Try.prog 408 9 = some (9, 406) := by kernel_rfl
theorem Ty.fld408_10 : fieldB Try.prog 408 10 = some (10, 407) := by kernel_rfl
theorem Ty.some409 : someU Try.prog 409 = true := by kernel_rfl
theorem Ty.agg409 : aggB Try.prog 409 = true := by kernel_rfl
theorem Ty.size409 : sizeB Try.prog 409 = some 11 := by kernel_rfl
theorem Ty.bytes409 : bytesB Try.prog 409 = some 48 := by kernel_rfl
theorem Ty.zero409 : zeroB Try.prog 409 = some (.agg #[(.int .u64 0), (.int .u64 0), (.int .u32 0), (.int .u8 0), (.int .u8 0), (.int .u8 0), (.int .u8 0), .nilFunc, (.pointer none), (.int .i32 0), (.int .i32 0)]) := by kernel_rfl
theorem Ty.val409 : valB Try.prog 409 = true := by kernel_rfl
theorem Ty.fs409 : fsB Try.prog 409 = true := by kernel_rfl
theorem Ty.fld409_0 : fieldB Try.prog 409 0 = some (0, 12) := by kernel_rfl
theorem Ty.fld409_1 : fieldB Try.prog 409 1 = some (1, 12) := by kernel_rfl
theorem Ty.fld409_2 : fieldB Try.prog 409 2 = some (2, 336) := by kernel_rfl
theorem Ty.fld409_3 : fieldB Try.prog 409 3 = some (3, 402) := by kernel_rfl
theorem Ty.fld409_4 : fieldB Try.prog 409 4 = some (4, 5) := by kernel_rfl
theorem Ty.fld409_5 : fieldB Try.prog 409 5 = some (5, 5) := by kernel_rfl
theorem Ty.fld409_6 : fieldB Try.prog 409 6 = some (6, 403) := by kernel_rfl
theorem Ty.fld409_7 : fieldB Try.prog 409 7 = some (7, 404) := by kernel_rfl
theorem Ty.fld409_8 : fieldB Try.prog 409 8 = some (8, 405) := by kernel_rfl
theorem Ty.fld409_9 : fieldB Try.prog 409 9 = some (9, 406) := by kernel_rfl
theorem Ty.fld409_10 : fieldB Try.prog 409 10 = some (10, 407) := by kernel_rfl
theorem Ty.some411 : someU Try.prog 411 = true := by kernel_rfl
theorem Ty.agg411 : aggB Try.prog 411 = false := by kernel_rfl
theorem Ty.size411 : sizeB Try.prog 411 = some 1 := by kernel_rfl
theorem Ty.bytes411 : bytesB Try.prog 411 = some 0 := by kernel_rfl
theorem Ty.zero411 : zeroB Try.prog 411 = some (.tuple #[(.agg #[(.int .i64 0), (.int .i64 0)]), (.bool false)]) := by kernel_rfl
theorem Ty.val411 : valB Try.prog 411 = true := by kernel_rfl
theorem Ty.meth335 : methB Try.prog 335 "hachure/slab.at" = some 336 := by kernel_rfl
theorem Ty.meth344 : methB Try.prog 344 "hachure/slab.at" = some 337 := by kernel_rfl
theorem Fn.call2 : callB Try.prog 2 = true := by kernel_rfl
theorem Fn.call3 : callB Try.prog 3 = true := by kernel_rfl
theorem Fn.call4 : callB Try.prog 4 = true := by kernel_rfl
theorem Fn.call5 : callB Try.prog 5 = true := by kernel_rfl
theorem Fn.call6 : callB Try.prog 6 = true := by kernel_rfl
theorem Fn.call7 : callB Try.prog 7 = true := by kernel_rfl
theorem Fn.call8 : callB Try.prog 8 = true := by kernel_rfl
theorem Fn.call9 : callB Try.prog 9 = true := by kernel_rfl
theorem Fn.call10 : callB Try.prog 10 = true := by kernel_rfl
theorem Fn.call11 : callB Try.prog 11 = true := by kernel_rfl
theorem Fn.call12 : callB Try.prog 12 = true := by kernel_rfl
theorem Fn.call13 : callB Try.prog 13 = true := by kernel_rfl
theorem Fn.call14 : callB Try.prog 14 = true := by kernel_rfl
theorem Fn.call15 : callB Try.prog 15 = true := by kernel_rfl
theorem Fn.call16 : callB Try.prog 16 = true := by kernel_rfl
theorem Fn.call17 : callB Try.prog 17 = true := by kernel_rfl
theorem Fn.call18 : callB Try.prog 18 = true := by kernel_rfl
theorem Fn.call19 : callB Try.prog 19 = true := by kernel_rfl
theorem Fn.call20 : callB Try.prog 20 = true := by kernel_rfl
theorem Fn.call21 : callB Try.prog 21 = true := by kernel_rfl
theorem Fn.call22 : callB Try.prog 22 = true := by kernel_rfl
theorem Fn.call23 : callB Try.prog 23 = true := by kernel_rfl
theorem Fn.call24 : callB Try.prog 24 = true := by kernel_rfl
theorem Fn.call25 : callB Try.prog 25 = true := by kernel_rfl
theorem Fn.call26 : callB Try.prog 26 = true := by kernel_rfl
theorem Fn.call27 : callB Try.prog 27 = true := by kernel_rfl
theorem Fn.call28 : callB Try.prog 28 = true := by kernel_rfl
theorem Fn.call29 : callB Try.prog 29 = true := by kernel_rfl
theorem Fn.call30 : callB Try.prog 30 = true := by kernel_rfl
theorem Fn.call31 : callB Try.prog 31 = true := by kernel_rfl
theorem Fn.call32 : callB Try.prog 32 = true := by kernel_rfl
theorem Fn.call33 : callB Try.prog 33 = true := by kernel_rfl
theorem Fn.call34 : callB Try.prog 34 = true := by kernel_rfl
theorem Fn.call35 : callB Try.prog 35 = true := by kernel_rfl
theorem Fn.call36 : callB Try.prog 36 = true := by kernel_rfl
theorem Fn.call37 : callB Try.prog 37 = true := by kernel_rfl
theorem Fn.call38 : callB Try.prog 38 = true := by kernel_rfl
theorem Fn.call39 : callB Try.prog 39 = true := by kernel_rfl
theorem Fn.call40 : callB Try.prog 40 = true := by kernel_rfl
theorem Fn.call41 : callB Try.prog 41 = true := by kernel_rfl
theorem Fn.call42 : callB Try.prog 42 = true := by kernel_rfl
theorem Fn.call43 : callB Try.prog 43 = true := by kernel_rfl
theorem Fn.call44 : callB Try.prog 44 = true := by kernel_rfl
theorem Fn.call45 : callB Try.prog 45 = true := by kernel_rfl
theorem Fn.call46 : callB Try.prog 46 = true := by kernel_rfl
theorem Fn.call47 : callB Try.prog 47 = true := by kernel_rfl
theorem Fn.call48 : callB Try.prog 48 = true := by kernel_rfl
theorem Fn.call49 : callB Try.prog 49 = true := by kernel_rfl
theorem Fn.call50 : callB Try.prog 50 = true := by kernel_rfl
theorem Fn.call51 : callB Try.prog 51 = true := by kernel_rfl
theorem Fn.call52 : callB Try.prog 52 = true := by kernel_rfl
theorem Fn.call53 : callB Try.prog 53 = true := by kernel_rfl
theorem Fn.call54 : callB Try.prog 54 = true := by kernel_rfl
theorem Fn.call55 : callB Try.prog 55 = true := by kernel_rfl
theorem Fn.call56 : callB Try.prog 56 = true := by kernel_rfl
theorem Fn.call57 : callB Try.prog 57 = true := by kernel_rfl
theorem Fn.call58 : callB Try.prog 58 = true := by kernel_rfl
theorem Fn.call59 : callB Try.prog 59 = true := by kernel_rfl
theorem Fn.call60 : callB Try.prog 60 = true := by kernel_rfl
theorem Fn.call61 : callB Try.prog 61 = true := by kernel_rfl
theorem Fn.call62 : callB Try.prog 62 = true := by kernel_rfl
theorem Fn.call63 : callB Try.prog 63 = true := by kernel_rfl
theorem Fn.call64 : callB Try.prog 64 = true := by kernel_rfl
theorem Fn.call65 : callB Try.prog 65 = true := by kernel_rfl
theorem Fn.call66 : callB Try.prog 66 = true := by kernel_rfl
theorem Fn.call67 : callB Try.prog 67 = true := by kernel_rfl
theorem Fn.call68 : callB Try.prog 68 = true := by kernel_rfl
theorem Fn.call69 : callB Try.prog 69 = true := by kernel_rfl
theorem Fn.call70 : callB Try.prog 70 = true := by kernel_rfl
theorem Fn.call71 : callB Try.prog 71 = true := by kernel_rfl
theorem Fn.call72 : callB Try.prog 72 = true := by kernel_rfl
theorem Fn.call73 : callB Try.prog 73 = true := by kernel_rfl
theorem Fn.call74 : callB Try.prog 74 = true := by kernel_rfl
theorem Fn.call75 : callB Try.prog 75 = true := by kernel_rfl
theorem Fn.call76 : callB Try.prog 76 = true := by kernel_rfl
theorem Fn.call77 : callB Try.prog 77 = true := by kernel_rfl
theorem Fn.call78 : callB Try.prog 78 = true := by kernel_rfl
theorem Fn.call79 : callB Try.prog 79 = true := by kernel_rfl
theorem Fn.call80 : callB Try.prog 80 = true := by kernel_rfl
theorem Fn.call81 : callB Try.prog 81 = true := by kernel_rfl
theorem Fn.call82 : callB Try.prog 82 = true := by kernel_rfl
theorem Fn.call83 : callB Try.prog 83 = true := by kernel_rfl
theorem Fn.call84 : callB Try.prog 84 = true := by kernel_rfl
theorem Fn.call85 : callB Try.prog 85 = true := by kernel_rfl
theorem Fn.call86 : callB Try.prog 86 = true := by kernel_rfl
theorem Fn.call87 : callB Try.prog 87 = true := by kernel_rfl
theorem Fn.call88 : callB Try.prog 88 = true := by kernel_rfl
theorem Fn.call89 : callB Try.prog 89 = true := by kernel_rfl
theorem Fn.call90 : callB Try.prog 90 = true := by kernel_rfl
theorem Fn.call91 : callB Try.prog 91 = true := by kernel_rfl
theorem Fn.call92 : callB Try.prog 92 = true := by kernel_rfl
theorem Fn.call93 : callB Try.prog 93 = true := by kernel_rfl
theorem Fn.call94 : callB Try.prog 94 = true := by kernel_rfl
theorem Fn.call95 : callB Try.prog 95 = true := by kernel_rfl
theorem Fn.call96 : callB Try.prog 96 = true := by kernel_rfl
theorem Fn.call97 : callB Try.prog 97 = true := by kernel_rfl
theorem Fn.call98 : callB Try.prog 98 = true := by kernel_rfl
theorem Fn.call99 : callB Try.prog 99 = true := by kernel_rfl
theorem Fn.call100 : callB Try.prog 100 = true := by kernel_rfl
theorem Fn.call101 : callB Try.prog 101 = true := by kernel_rfl
theorem Fn.call102 : callB Try.prog 102 = true := by kernel_rfl
theorem Fn.call103 : callB Try.prog 103 = true := by kernel_rfl
theorem Fn.call104 : callB Try.prog 104 = true := by kernel_rfl
theorem Fn.call105 : callB Try.prog 105 = true := by kernel_rfl
theorem Fn.call106 : callB Try.prog 106 = true := by kernel_rfl
theorem Fn.call107 : callB Try.prog 107 = true := by kernel_rfl
theorem Fn.call108 : callB Try.prog 108 = true := by kernel_rfl
theorem Fn.call109 : callB Try.prog 109 = true := by kernel_rfl
theorem Fn.call110 : callB Try.prog 110 = true := by kernel_rfl
theorem Fn.call111 : callB Try.prog 111 = true := by kernel_rfl
theorem Fn.call112 : callB Try.prog 112 = true := by kernel_rfl
theorem Fn.call113 : callB Try.prog 113 = true := by kernel_rfl
theorem Fn.call114 : callB Try.prog 114 = true := by kernel_rfl
theorem Fn.call115 : callB Try.prog 115 = true := by kernel_rfl
theorem Fn.call116 : callB Try.prog 116 = true := by kernel_rfl
theorem Fn.call117 : callB Try.prog 117 = true := by kernel_rfl
theorem Fn.call118 : callB Try.prog 118 = true := by kernel_rfl
theorem Fn.call119 : callB Try.prog 119 = true := by kernel_rfl
theorem Fn.call120 : callB Try.prog 120 = true := by kernel_rfl
theorem Fn.call121 : callB Try.prog 121 = true := by kernel_rfl
theorem Fn.call122 : callB Try.prog 122 = true := by kernel_rfl
theorem Fn.call123 : callB Try.prog 123 = true := by kernel_rfl
theorem Fn.call124 : callB Try.prog 124 = true := by kernel_rfl
theorem Fn.call125 : callB Try.prog 125 = true := by kernel_rfl
theorem Fn.call126 : callB Try.prog 126 = true := by kernel_rfl
theorem Fn.call127 : callB Try.prog 127 = true := by kernel_rfl
theorem Fn.call128 : callB Try.prog 128 = true := by kernel_rfl
theorem Fn.call129 : callB Try.prog 129 = true := by kernel_rfl
theorem Fn.call130 : callB Try.prog 130 = true := by kernel_rfl
theorem Fn.call131 : callB Try.prog 131 = true := by kernel_rfl
theorem Fn.call132 : callB Try.prog 132 = true := by kernel_rfl
theorem Fn.call133 : callB Try.prog 133 = true := by kernel_rfl
theorem Fn.call134 : callB Try.prog 134 = true := by kernel_rfl
theorem Fn.call135 : callB Try.prog 135 = true := by kernel_rfl
theorem Fn.call136 : callB Try.prog 136 = true := by kernel_rfl
theorem Fn.call137 : callB Try.prog 137 = true := by kernel_rfl
theorem Fn.call138 : callB Try.prog 138 = true := by kernel_rfl
theorem Fn.call139 : callB Try.prog 139 = true := by kernel_rfl
theorem Fn.call140 : callB Try.prog 140 = true := by kernel_rfl
theorem Fn.call141 : callB Try.prog 141 = true := by kernel_rfl
theorem Fn.call142 : callB Try.prog 142 = true := by kernel_rfl
theorem Fn.call143 : callB Try.prog 143 = true := by kernel_rfl
theorem Fn.call144 : callB Try.prog 144 = true := by kernel_rfl
theorem Fn.call145 : callB Try.prog 145 = true := by kernel_rfl
theorem Fn.call146 : callB Try.prog 146 = true := by kernel_rfl
theorem Fn.call147 : callB Try.prog 147 = true := by kernel_rfl
theorem Fn.call148 : callB Try.prog 148 = true := by kernel_rfl
theorem Fn.call149 : callB Try.prog 149 = true := by kernel_rfl
theorem Fn.call150 : callB Try.prog 150 = true := by kernel_rfl
theorem Fn.call151 : callB Try.prog 151 = true := by kernel_rfl
theorem Fn.call152 : callB Try.prog 152 = true := by kernel_rfl
theorem Fn.call153 : callB Try.prog 153 = true := by kernel_rfl
theorem Fn.call154 : callB Try.prog 154 = true := by kernel_rfl
theorem Fn.call155 : callB Try.prog 155 = true := by kernel_rfl
theorem Fn.call156 : callB Try.prog 156 = true := by kernel_rfl
theorem Fn.call157 : callB Try.prog 157 = true := by kernel_rfl
theorem Fn.call158 : callB Try.prog 158 = true := by kernel_rfl
theorem Fn.call159 : callB Try.prog 159 = true := by kernel_rfl
theorem Fn.call160 : callB Try.prog 160 = true := by kernel_rfl
theorem Fn.call161 : callB Try.prog 161 = true := by kernel_rfl
theorem Fn.call162 : callB Try.prog 162 = true := by kernel_rfl
theorem Fn.call163 : callB Try.prog 163 = true := by kernel_rfl
theorem Fn.call164 : callB Try.prog 164 = true := by kernel_rfl
theorem Fn.call165 : callB Try.prog 165 = true := by kernel_rfl
theorem Fn.call166 : callB Try.prog 166 = true := by kernel_rfl
theorem Fn.call167 : callB Try.prog 167 = true := by kernel_rfl
theorem Fn.call168 : callB Try.prog 168 = true := by kernel_rfl
theorem Fn.call169 : callB Try.prog 169 = true := by kernel_rfl
theorem Fn.call170 : callB Try.prog 170 = true := by kernel_rfl
theorem Fn.call171 : callB Try.prog 171 = true := by kernel_rfl
theorem Fn.call172 : callB Try.prog 172 = true := by kernel_rfl
theorem Fn.call173 : callB Try.prog 173 = true := by kernel_rfl
theorem Fn.call174 : callB Try.prog 174 = true := by kernel_rfl
theorem Fn.call175 : callB Try.prog 175 = true := by kernel_rfl
theorem Fn.call176 : callB Try.prog 176 = true := by kernel_rfl
theorem Fn.call177 : callB Try.prog 177 = true := by kernel_rfl
theorem Fn.call178 : callB Try.prog 178 = true := by kernel_rfl
theorem Fn.call179 : callB Try.prog 179 = true := by kernel_rfl
theorem Fn.call180 : callB Try.prog 180 = true := by kernel_rfl
theorem Fn.call181 : callB Try.prog 181 = true := by kernel_rfl
theorem Fn.call182 : callB Try.prog 182 = true := by kernel_rfl
theorem Fn.call183 : callB Try.prog 183 = true := by kernel_rfl
theorem Fn.call184 : callB Try.prog 184 = true := by kernel_rfl
theorem Fn.call185 : callB Try.prog 185 = true := by kernel_rfl
theorem Fn.call186 : callB Try.prog 186 = true := by kernel_rfl
theorem Fn.call187 : callB Try.prog 187 = true := by kernel_rfl
theorem Fn.call188 : callB Try.prog 188 = true := by kernel_rfl
theorem Fn.call189 : callB Try.prog 189 = true := by kernel_rfl
theorem Fn.call190 : callB Try.prog 190 = true := by kernel_rfl
theorem Fn.call191 : callB Try.prog 191 = true := by kernel_rfl
theorem Fn.call192 : callB Try.prog 192 = true := by kernel_rfl
theorem Fn.call193 : callB Try.prog 193 = true := by kernel_rfl
theorem Fn.call194 : callB Try.prog 194 = true := by kernel_rfl
theorem Fn.call195 : callB Try.prog 195 = true := by kernel_rfl
theorem Fn.call196 : callB Try.prog 196 = true := by kernel_rfl
theorem Fn.call197 : callB Try.prog 197 = true := by kernel_rfl
theorem Fn.call198 : callB Try.prog 198 = true := by kernel_rfl
theorem Fn.call199 : callB Try.prog 199 = true := by kernel_rfl
theorem Fn.call200 : callB Try.prog 200 = true := by kernel_rfl
theorem Fn.call201 : callB Try.prog 201 = true := by kernel_rfl
theorem Fn.call202 : callB Try.prog 202 = true := by kernel_rfl
theorem Fn.call203 : callB Try.prog 203 = true := by kernel_rfl
theorem Fn.call204 : callB Try.prog 204 = true := by kernel_rfl
theorem Fn.call205 : callB Try.prog 205 = true := by kernel_rfl
theorem Fn.call206 : callB Try.prog 206 = true := by kernel_rfl
theorem Fn.call207 : callB Try.prog 207 = true := by kernel_rfl
theorem Fn.call208 : callB Try.prog 208 = true := by kernel_rfl
theorem Fn.call209 : callB Try.prog 209 = true := by kernel_rfl
theorem Fn.call210 : callB Try.prog 210 = true := by kernel_rfl
theorem Fn.call211 : callB Try.prog 211 = true := by kernel_rfl
theorem Fn.call212 : callB Try.prog 212 = true := by kernel_rfl
theorem Fn.call213 : callB Try.prog 213 = true := by kernel_rfl
theorem Fn.call214 : callB Try.prog 214 = true := by kernel_rfl
theorem Fn.call215 : callB Try.prog 215 = true := by kernel_rfl
theorem Fn.call216 : callB Try.prog 216 = true := by kernel_rfl
theorem Fn.call217 : callB Try.prog 217 = true := by kernel_rfl
theorem Fn.call218 : callB Try.prog 218 = true := by kernel_rfl
theorem Fn.call219 : callB Try.prog 219 = true := by kernel_rfl
theorem Fn.call220 : callB Try.prog 220 = true := by kernel_rfl
theorem Fn.call221 : callB Try.prog 221 = true := by kernel_rfl
theorem Fn.call222 : callB Try.prog 222 = true := by kernel_rfl
theorem Fn.call223 : callB Try.prog 223 = true := by kernel_rfl
theorem Fn.call224 : callB Try.prog 224 = true := by kernel_rfl
theorem Fn.call225 : callB Try.prog 225 = true := by kernel_rfl
theorem Fn.call226 : callB Try.prog 226 = true := by kernel_rfl
theorem Fn.call227 : callB Try.prog 227 = true := by kernel_rfl
theorem Fn.call228 : callB Try.prog 228 = true := by kernel_rfl
theorem Fn.call229 : callB Try.prog 229 = true := by kernel_rfl
theorem Fn.call230 : callB Try.prog 230 = true := by kernel_rfl
theorem Fn.call231 : callB Try.prog 231 = true := by kernel_rfl
theorem Fn.call232 : callB Try.prog 232 = true := by kernel_rfl
theorem Fn.call233 : callB Try.prog 233 = true := by kernel_rfl
theorem Fn.call234 : callB Try.prog 234 = true := by kernel_rfl
theorem Fn.call235 : callB Try.prog 235 = true := by kernel_rfl
theorem Fn.call236 : callB Try.prog 236 = true := by kernel_rfl
theorem Fn.call237 : callB Try.prog 237 = true := by kernel_rfl
theorem Fn.call238 : callB Try.prog 238 = true := by kernel_rfl
theorem Fn.call239 : callB Try.prog 239 = true := by kernel_rfl
theorem Fn.call240 : callB Try.prog 240 = true := by kernel_rfl
theorem Fn.call241 : callB Try.prog 241 = true := by kernel_rfl
theorem Fn.call242 : callB Try.prog 242 = true := by kernel_rfl
theorem Fn.call243 : callB Try.prog 243 = true := by kernel_rfl
theorem Fn.call244 : callB Try.prog 244 = true := by kernel_rfl
theorem Fn.call245 : callB Try.prog 245 = true := by kernel_rfl
theorem Fn.call246 : callB Try.prog 246 = true := by kernel_rfl
theorem Fn.call247 : callB Try.prog 247 = true := by kernel_rfl
theorem Fn.call248 : callB Try.prog 248 = true := by kernel_rfl
theorem Fn.call249 : callB Try.prog 249 = true := by kernel_rfl
theorem Fn.call250 : callB Try.prog 250 = true := by kernel_rfl
theorem Fn.call251 : callB Try.prog 251 = true := by kernel_rfl
theorem Fn.call252 : callB Try.prog 252 = true := by kernel_rfl
theorem Fn.call253 : callB Try.prog 253 = true := by kernel_rfl
theorem Fn.call254 : callB Try.prog 254 = true := by kernel_rfl
theorem Fn.call255 : callB Try.prog 255 = true := by kernel_rfl
theorem Fn.call256 : callB Try.prog 256 = true := by kernel_rfl
theorem Fn.call257 : callB Try.prog 257 = true := by kernel_rfl
theorem Fn.call258 : callB Try.prog 258 = true := by kernel_rfl
theorem Fn.call259 : callB Try.prog 259 = true := by kernel_rfl
theorem Fn.call260 : callB Try.prog 260 = true := by kernel_rfl
theorem Fn.call261 : callB Try.prog 261 = true := by kernel_rfl
theorem Fn.call262 : callB Try.prog 262 = true := by kernel_rfl
theorem Fn.call263 : callB Try.prog 263 = true := by kernel_rfl
theorem Fn.call264 : callB Try.prog 264 = true := by kernel_rfl
theorem Fn.call265 : callB Try.prog 265 = true := by kernel_rfl
theorem Fn.call266 : callB Try.prog 266 = true := by kernel_rfl
theorem Fn.call267 : callB Try.prog 267 = true := by kernel_rfl
theorem Fn.call268 : callB Try.prog 268 = true := by kernel_rfl
theorem Fn.call269 : callB Try.prog 269 = true := by kernel_rfl
theorem Fn.call270 : callB Try.prog 270 = true := by kernel_rfl
theorem Fn.call271 : callB Try.prog 271 = true := by kernel_rfl
theorem Fn.call272 : callB Try.prog 272 = true := by kernel_rfl
theorem Fn.call273 : callB Try.prog 273 = true := by kernel_rfl
theorem Fn.call274 : callB Try.prog 274 = true := by kernel_rfl
theorem Fn.call275 : callB Try.prog 275 = true := by kernel_rfl
theorem Fn.call276 : callB Try.prog 276 = true := by kernel_rfl
theorem Fn.call277 : callB Try.prog 277 = true := by kernel_rfl
theorem Fn.call278 : callB Try.prog 278 = true := by kernel_rfl
theorem Fn.call279 : callB Try.prog 279 = true := by kernel_rfl
theorem Fn.call280 : callB Try.prog 280 = true := by kernel_rfl
theorem Fn.call281 : callB Try.prog 281 = true := by kernel_rfl
theorem Fn.call282 : callB Try.prog 282 = true := by kernel_rfl
theorem Fn.call283 : callB Try.prog 283 = true := by kernel_rfl
theorem Fn.call284 : callB Try.prog 284 = true := by kernel_rfl
theorem Fn.call285 : callB Try.prog 285 = true := by kernel_rfl
theorem Fn.call286 : callB Try.prog 286 = true := by kernel_rfl
theorem Fn.call287 : callB Try.prog 287 = true := by kernel_rfl
theorem Fn.call288 : callB Try.prog 288 = true := by kernel_rfl
theorem Fn.call289 : callB Try.prog 289 = true := by kernel_rfl
theorem Fn.call290 : callB Try.prog 290 = true := by kernel_rfl
theorem Fn.call291 : callB Try.prog 291 = true := by kernel_rfl
theorem Fn.call292 : callB Try.prog 292 = true := by kernel_rfl
theorem Fn.call293 : callB Try.prog 293 = true := by kernel_rfl
theorem Fn.call294 : callB Try.prog 294 = true := by kernel_rfl
theorem Fn.call295 : callB Try.prog 295 = true := by kernel_rfl
theorem Fn.call296 : callB Try.prog 296 = true := by kernel_rfl
theorem Fn.call297 : callB Try.prog 297 = true := by kernel_rfl
theorem Fn.call298 : callB Try.prog 298 = true := by kernel_rfl
theorem Fn.call299 : callB Try.prog 299 = true := by kernel_rfl
theorem Fn.call300 : callB Try.prog 300 = true := by kernel_rfl
theorem Fn.call301 : callB Try.prog 301 = true := by kernel_rfl
theorem Fn.call302 : callB Try.prog 302 = true := by kernel_rfl
theorem Fn.call303 : callB Try.prog 303 = true := by kernel_rfl
theorem Fn.call304 : callB Try.prog 304 = true := by kernel_rfl
theorem Fn.call305 : callB Try.prog 305 = true := by kernel_rfl
theorem Fn.call306 : callB Try.prog 306 = true := by kernel_rfl
theorem Fn.call307 : callB Try.prog 307 = true := by kernel_rfl
theorem Fn.call308 : callB Try.prog 308 = true := by kernel_rfl
theorem Fn.call309 : callB Try.prog 309 = true := by kernel_rfl
theorem Fn.call310 : callB Try.prog 310 = true := by kernel_rfl
theorem Fn.call328 : callB Try.prog 328 = true := by kernel_rfl
theorem Fn.call329 : callB Try.prog 329 = true := by kernel_rfl
theorem Fn.call330 : callB Try.prog 330 = true := by kernel_rfl
theorem Fn.call331 : callB Try.prog 331 = true := by kernel_rfl
theorem Fn.call332 : callB Try.prog 332 = true := by kernel_rfl
theorem Fn.call333 : callB Try.prog 333 = true := by kernel_rfl
theorem Fn.call334 : callB Try.prog 334 = true := by kernel_rfl
theorem Fn.call335 : callB Try.prog 335 = true := by kernel_rfl
theorem Fn.call336 : callB Try.prog 336 = true := by kernel_rfl
theorem Fn.call337 : callB Try.prog 337 = true := by kernel_rfl
end Go.Proofs.Ytpchomihojidpaa
