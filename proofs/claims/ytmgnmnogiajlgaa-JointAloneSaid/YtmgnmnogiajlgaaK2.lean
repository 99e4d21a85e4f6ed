/- Steps shared by the proofs of this seat's statements (part 2). -/
import Derived.Test.YtmgnmnogiajlgaaK1
import Derived.Test.YtmgnmnogiajlgaaProg
import Derived.KernelRfl
import Derived.Sort.Grow
import Derived.Shelf.Sort.Plain
import Derived.Deep.Slices
import Derived.ChangeArms
import Derived.ChangeSame
import Derived.SizedLaws
import Derived.WideShapes
import Derived.WalkKit
import Derived.ProofKit
import Derived.OpenShut
import Derived.ShutString
import Derived.ChangeOld
import Derived.Below
import Derived.Shelf.Small.Strs
import Derived.Shelf.Small.Wraps
import Derived.Shelf.Slices.In.SortNone
import Derived.Ground.Names2Prog
import Derived.Shelf.GgSortFunc.InsertionK
import Derived.Lib.Bytealg
import Derived.Laws.BitsAllLaws
section
/- Closed facts of this seat's types and functions. -/
namespace Go.Proofs.YtmgnmnogiajlgaaF
open Go Go.Proofs.Vm
@[simp] theorem ld2 : ldOf Try.prog 2 = some none := by kernel_rfl
@[simp] theorem z2 : zOf Try.prog 2 = some [.int .i64 0] := by kernel_rfl
@[simp] theorem el2 : elOf Try.prog 2 = some (1, 8, [.v (.int .i64 0)]) := by kernel_rfl
@[simp] theorem st2 : isSliceT Try.prog 2 = false := by kernel_rfl
@[simp] theorem sz2 : pv Try.prog (sizeOf 2) = some 1 := by kernel_rfl
@[simp] theorem u82 : isU8 Try.prog 2 = false := by kernel_rfl
@[simp] theorem mt2 : isMapT Try.prog 2 = false := by kernel_rfl
@[simp] theorem ik2 : ikOf Try.prog 2 = some .i64 := by kernel_rfl
@[simp] theorem ld3 : ldOf Try.prog 3 = some none := by kernel_rfl
@[simp] theorem z3 : zOf Try.prog 3 = some [.int .i64 0] := by kernel_rfl
@[simp] theorem el3 : elOf Try.prog 3 = some (1, 8, [.v (.int .i64 0)]) := by kernel_rfl
@[simp] theorem st3 : isSliceT Try.prog 3 = false := by kernel_rfl
@[simp] theorem sz3 : pv Try.prog (sizeOf 3) = some 1 := by kernel_rfl
@[simp] theorem u83 : isU8 Try.prog 3 = false := by kernel_rfl
@[simp] theorem mt3 : isMapT Try.prog 3 = false := by kernel_rfl
@[simp] theorem ik3 : ikOf Try.prog 3 = some .i64 := by kernel_rfl
@[simp] theorem ld4 : ldOf Try.prog 4 = some none := by kernel_rfl
@[simp] theorem z4 : zOf Try.prog 4 = some [.bool false] := by kernel_rfl
@[simp] theorem el4 : elOf Try.prog 4 = some (1, 1, [.v (.bool false)]) := by kernel_rfl
@[simp] theorem st4 : isSliceT Try.prog 4 = false := by kernel_rfl
@[simp] theorem sz4 : pv Try.prog (sizeOf 4) = some 1 := by kernel_rfl
@[simp] theorem u84 : isU8 Try.prog 4 = false := by kernel_rfl
@[simp] theorem mt4 : isMapT Try.prog 4 = false := by kernel_rfl
@[simp] theorem ik4 : ikOf Try.prog 4 = none := by kernel_rfl
@[simp] theorem ub4 : pv Try.prog (underlying 4) = some .bool := by kernel_rfl
@[simp] theorem ld5 : ldOf Try.prog 5 = some none := by kernel_rfl
@[simp] theorem z5 : zOf Try.prog 5 = some [.int .u8 0] := by kernel_rfl
@[simp] theorem el5 : elOf Try.prog 5 = some (1, 1, [.v (.int .u8 0)]) := by kernel_rfl
@[simp] theorem st5 : isSliceT Try.prog 5 = false := by kernel_rfl
@[simp] theorem sz5 : pv Try.prog (sizeOf 5) = some 1 := by kernel_rfl
@[simp] theorem u85 : isU8 Try.prog 5 = false := by kernel_rfl
@[simp] theorem mt5 : isMapT Try.prog 5 = false := by kernel_rfl
@[simp] theorem ik5 : ikOf Try.prog 5 = some .u8 := by kernel_rfl
@[simp] theorem ld9 : ldOf Try.prog 9 = some none := by kernel_rfl
@[simp] theorem z9 : zOf Try.prog 9 = some [.string ByteArray.empty] := by kernel_rfl
@[simp] theorem el9 : elOf Try.prog 9 = some (1, 16, [.v (.string ByteArray.empty)]) := by kernel_rfl
@[simp] theorem st9 : isSliceT Try.prog 9 = false := by kernel_rfl
@[simp] theorem sz9 : pv Try.prog (sizeOf 9) = some 1 := by kernel_rfl
@[simp] theorem u89 : isU8 Try.prog 9 = false := by kernel_rfl
@[simp] theorem mt9 : isMapT Try.prog 9 = false := by kernel_rfl
@[simp] theorem sr9 : isStrT Try.prog 9 = true := by kernel_rfl
@[simp] theorem ik9 : ikOf Try.prog 9 = none := by kernel_rfl
@[simp] theorem us9 : pv Try.prog (underlying 9) = some .string := by kernel_rfl
@[simp] theorem lns9 {H : Hp} {ty : TypeId} {s : ByteArray} : vlen Try.prog H #[9] ty (vS s) = qa (vI .i64 s.size) := len_str us9
@[simp] theorem ld12 : ldOf Try.prog 12 = some none := by kernel_rfl
@[simp] theorem z12 : zOf Try.prog 12 = some [.int .u64 0] := by kernel_rfl
@[simp] theorem el12 : elOf Try.prog 12 = some (1, 8, [.v (.int .u64 0)]) := by kernel_rfl
@[simp] theorem st12 : isSliceT Try.prog 12 = false := by kernel_rfl
@[simp] theorem sz12 : pv Try.prog (sizeOf 12) = some 1 := by kernel_rfl
@[simp] theorem u812 : isU8 Try.prog 12 = false := by kernel_rfl
@[simp] theorem mt12 : isMapT Try.prog 12 = false := by kernel_rfl
@[simp] theorem ik12 : ikOf Try.prog 12 = some .u64 := by kernel_rfl
@[simp] theorem ld21 : ldOf Try.prog 21 = some none := by kernel_rfl
@[simp] theorem z21 : zOf Try.prog 21 = some [.int .i32 0] := by kernel_rfl
@[simp] theorem el21 : elOf Try.prog 21 = some (1, 4, [.v (.int .i32 0)]) := by kernel_rfl
@[simp] theorem st21 : isSliceT Try.prog 21 = false := by kernel_rfl
@[simp] theorem sz21 : pv Try.prog (sizeOf 21) = some 1 := by kernel_rfl
@[simp] theorem u821 : isU8 Try.prog 21 = false := by kernel_rfl
@[simp] theorem mt21 : isMapT Try.prog 21 = false := by kernel_rfl
@[simp] theorem ik21 : ikOf Try.prog 21 = some .i32 := by kernel_rfl
@[simp] theorem ld22 : ldOf Try.prog 22 = some none := by kernel_rfl
@[simp] theorem z22 : zOf Try.prog 22 = some [.int .u64 0] := by kernel_rfl
@[simp] theorem el22 : elOf Try.prog 22 = some (1, 8, [.v (.int .u64 0)]) := by kernel_rfl
@[simp] theorem st22 : isSliceT Try.prog 22 = false := by kernel_rfl
@[simp] theorem sz22 : pv Try.prog (sizeOf 22) = some 1 := by kernel_rfl
@[simp] theorem u822 : isU8 Try.prog 22 = false := by kernel_rfl
@[simp] theorem mt22 : isMapT Try.prog 22 = false := by kernel_rfl
@[simp] theorem ik22 : ikOf Try.prog 22 = some .u64 := by kernel_rfl
@[simp] theorem ld23 : ldOf Try.prog 23 = some (some 5) := by kernel_rfl
@[simp] theorem z23 : zOf Try.prog 23 = some [.int .u64 0, .int .i64 0, .int .i64 0, .int .i64 0, .int .i64 0] := by kernel_rfl
@[simp] theorem el23 : elOf Try.prog 23 = some (5, 40, [.v (.int .u64 0), .v (.int .i64 0), .v (.int .i64 0), .v (.int .i64 0), .v (.int .i64 0)]) := by kernel_rfl
@[simp] theorem st23 : isSliceT Try.prog 23 = false := by kernel_rfl
@[simp] theorem sz23 : pv Try.prog (sizeOf 23) = some 5 := by kernel_rfl
@[simp] theorem u823 : isU8 Try.prog 23 = false := by kernel_rfl
@[simp] theorem mt23 : isMapT Try.prog 23 = false := by kernel_rfl
@[simp] theorem ik23 : ikOf Try.prog 23 = none := by kernel_rfl
@[simp] theorem bld23 : bldOf Try.prog 23 = some ([.int .u64 0, .int .i64 0, .int .i64 0, .int .i64 0, .int .i64 0], [(0, 1), (1, 1), (2, 1), (3, 1), (4, 1)]) := by kernel_rfl
@[simp] theorem off23_0 : offOf Try.prog 23 0 = some 0 := by kernel_rfl
@[simp] theorem fld23_0 : fldOf Try.prog 23 0 = some (0, none) := by kernel_rfl
@[simp] theorem off23_1 : offOf Try.prog 23 1 = some 1 := by kernel_rfl
@[simp] theorem fld23_1 : fldOf Try.prog 23 1 = some (1, none) := by kernel_rfl
@[simp] theorem off23_2 : offOf Try.prog 23 2 = some 2 := by kernel_rfl
@[simp] theorem fld23_2 : fldOf Try.prog 23 2 = some (2, none) := by kernel_rfl
@[simp] theorem off23_3 : offOf Try.prog 23 3 = some 3 := by kernel_rfl
@[simp] theorem fld23_3 : fldOf Try.prog 23 3 = some (3, none) := by kernel_rfl
@[simp] theorem off23_4 : offOf Try.prog 23 4 = some 4 := by kernel_rfl
@[simp] theorem fld23_4 : fldOf Try.prog 23 4 = some (4, none) := by kernel_rfl
@[simp] theorem ld24 : ldOf Try.prog 24 = some (some 5) := by kernel_rfl
@[simp] theorem z24 : zOf Try.prog 24 = some [.int .u64 0, .int .i64 0, .int .i64 0, .int .i64 0, .int .i64 0] := by kernel_rfl
@[simp] theorem el24 : elOf Try.prog 24 = some (5, 40, [.v (.int .u64 0), .v (.int .i64 0), .v (.int .i64 0), .v (.int .i64 0), .v (.int .i64 0)]) := by kernel_rfl
@[simp] theorem st24 : isSliceT Try.prog 24 = false := by kernel_rfl
@[simp] theorem sz24 : pv Try.prog (sizeOf 24) = some 5 := by kernel_rfl
@[simp] theorem u824 : isU8 Try.prog 24 = false := by kernel_rfl
@[simp] theorem mt24 : isMapT Try.prog 24 = false := by kernel_rfl
@[simp] theorem ik24 : ikOf Try.prog 24 = none := by kernel_rfl
@[simp] theorem bld24 : bldOf Try.prog 24 = some ([.int .u64 0, .int .i64 0, .int .i64 0, .int .i64 0, .int .i64 0], [(0, 1), (1, 1), (2, 1), (3, 1), (4, 1)]) := by kernel_rfl
@[simp] theorem off24_0 : offOf Try.prog 24 0 = some 0 := by kernel_rfl
@[simp] theorem fld24_0 : fldOf Try.prog 24 0 = some (0, none) := by kernel_rfl
@[simp] theorem off24_1 : offOf Try.prog 24 1 = some 1 := by kernel_rfl
@[simp] theorem fld24_1 : fldOf Try.prog 24 1 = some (1, none) := by kernel_rfl
@[simp] theorem off24_2 : offOf Try.prog 24 2 = some 2 := by kernel_rfl
@[simp] theorem fld24_2 : fldOf Try.prog 24 2 = some (2, none) := by kernel_rfl
@[simp] theorem off24_3 : offOf Try.prog 24 3 = some 3 := by kernel_rfl
@[simp] theorem fld24_3 : fldOf Try.prog 24 3 = some (3, none) := by kernel_rfl
@[simp] theorem off24_4 : offOf Try.prog 24 4 = some 4 := by kernel_rfl
@[simp] theorem fld24_4 : fldOf Try.prog 24 4 = some (4, none) := by kernel_rfl
@[simp] theorem ld25 : ldOf Try.prog 25 = some none := by kernel_rfl
@[simp] theorem z25 : zOf Try.prog 25 = some [.slice none 0 0] := by kernel_rfl
@[simp] theorem el25 : elOf Try.prog 25 = some (1, 24, [.arr []]) := by kernel_rfl
@[simp] theorem st25 : isSliceT Try.prog 25 = true := by kernel_rfl
@[simp] theorem sz25 : pv Try.prog (sizeOf 25) = some 1 := by kernel_rfl
@[simp] theorem u825 : isU8 Try.prog 25 = false := by kernel_rfl
@[simp] theorem mt25 : isMapT Try.prog 25 = false := by kernel_rfl
@[simp] theorem ik25 : ikOf Try.prog 25 = none := by kernel_rfl
@[simp] theorem sR25 : strRowsT Try.prog 25 = false := by kernel_rfl
@[simp] theorem es25 : elemOfSlice Try.prog 25 = some 38 := by kernel_rfl
@[simp] theorem ld26 : ldOf Try.prog 26 = some none := by kernel_rfl
@[simp] theorem z26 : zOf Try.prog 26 = some [.slice none 0 0] := by kernel_rfl
@[simp] theorem el26 : elOf Try.prog 26 = some (1, 24, [.arr []]) := by kernel_rfl
@[simp] theorem st26 : isSliceT Try.prog 26 = true := by kernel_rfl
@[simp] theorem sz26 : pv Try.prog (sizeOf 26) = some 1 := by kernel_rfl
@[simp] theorem u826 : isU8 Try.prog 26 = false := by kernel_rfl
@[simp] theorem mt26 : isMapT Try.prog 26 = false := by kernel_rfl
@[simp] theorem ik26 : ikOf Try.prog 26 = none := by kernel_rfl
@[simp] theorem sR26 : strRowsT Try.prog 26 = false := by kernel_rfl
@[simp] theorem es26 : elemOfSlice Try.prog 26 = some 4 := by kernel_rfl
@[simp] theorem ld27 : ldOf Try.prog 27 = some (some 3) := by kernel_rfl
@[simp] theorem z27 : zOf Try.prog 27 = some [.int .u64 0, .int .i64 0, .slice none 0 0] := by kernel_rfl
@[simp] theorem el27 : elOf Try.prog 27 = some (3, 40, [.v (.int .u64 0), .v (.int .i64 0), .arr []]) := by kernel_rfl
@[simp] theorem st27 : isSliceT Try.prog 27 = false := by kernel_rfl
@[simp] theorem sz27 : pv Try.prog (sizeOf 27) = some 3 := by kernel_rfl
@[simp] theorem u827 : isU8 Try.prog 27 = false := by kernel_rfl
@[simp] theorem mt27 : isMapT Try.prog 27 = false := by kernel_rfl
@[simp] theorem ik27 : ikOf Try.prog 27 = none := by kernel_rfl
@[simp] theorem bld27 : bldOf Try.prog 27 = some ([.int .u64 0, .int .i64 0, .slice none 0 0], [(0, 1), (1, 1), (2, 1)]) := by kernel_rfl
@[simp] theorem off27_0 : offOf Try.prog 27 0 = some 0 := by kernel_rfl
@[simp] theorem fld27_0 : fldOf Try.prog 27 0 = some (0, none) := by kernel_rfl
@[simp] theorem off27_1 : offOf Try.prog 27 1 = some 1 := by kernel_rfl
@[simp] theorem fld27_1 : fldOf Try.prog 27 1 = some (1, none) := by kernel_rfl
@[simp] theorem off27_2 : offOf Try.prog 27 2 = some 2 := by kernel_rfl
@[simp] theorem fld27_2 : fldOf Try.prog 27 2 = some (2, none) := by kernel_rfl
@[simp] theorem ld28 : ldOf Try.prog 28 = some (some 3) := by kernel_rfl
@[simp] theorem z28 : zOf Try.prog 28 = some [.int .u64 0, .int .i64 0, .slice none 0 0] := by kernel_rfl
@[simp] theorem el28 : elOf Try.prog 28 = some (3, 40, [.v (.int .u64 0), .v (.int .i64 0), .arr []]) := by kernel_rfl
@[simp] theorem st28 : isSliceT Try.prog 28 = false := by kernel_rfl
@[simp] theorem sz28 : pv Try.prog (sizeOf 28) = some 3 := by kernel_rfl
@[simp] theorem u828 : isU8 Try.prog 28 = false := by kernel_rfl
@[simp] theorem mt28 : isMapT Try.prog 28 = false := by kernel_rfl
@[simp] theorem ik28 : ikOf Try.prog 28 = none := by kernel_rfl
@[simp] theorem bld28 : bldOf Try.prog 28 = some ([.int .u64 0, .int .i64 0, .slice none 0 0], [(0, 1), (1, 1), (2, 1)]) := by kernel_rfl
@[simp] theorem off28_0 : offOf Try.prog 28 0 = some 0 := by kernel_rfl
@[simp] theorem fld28_0 : fldOf Try.prog 28 0 = some (0, none) := by kernel_rfl
@[simp] theorem off28_1 : offOf Try.prog 28 1 = some 1 := by kernel_rfl
@[simp] theorem fld28_1 : fldOf Try.prog 28 1 = some (1, none) := by kernel_rfl
@[simp] theorem off28_2 : offOf Try.prog 28 2 = some 2 := by kernel_rfl
@[simp] theorem fld28_2 : fldOf Try.prog 28 2 = some (2, none) := by kernel_rfl
@[simp] theorem ld29 : ldOf Try.prog 29 = some none := by kernel_rfl
@[simp] theorem z29 : zOf Try.prog 29 = some [.slice none 0 0] := by kernel_rfl
@[simp] theorem el29 : elOf Try.prog 29 = some (1, 24, [.arr []]) := by kernel_rfl
@[simp] theorem st29 : isSliceT Try.prog 29 = true := by kernel_rfl
@[simp] theorem sz29 : pv Try.prog (sizeOf 29) = some 1 := by kernel_rfl
@[simp] theorem u829 : isU8 Try.prog 29 = false := by kernel_rfl
@[simp] theorem mt29 : isMapT Try.prog 29 = false := by kernel_rfl
@[simp] theorem ik29 : ikOf Try.prog 29 = none := by kernel_rfl
@[simp] theorem sR29 : strRowsT Try.prog 29 = false := by kernel_rfl
@[simp] theorem es29 : elemOfSlice Try.prog 29 = some 70 := by kernel_rfl
@[simp] theorem ld30 : ldOf Try.prog 30 = some (some 5) := by kernel_rfl
@[simp] theorem z30 : zOf Try.prog 30 = some [.int .u64 0, .int .u64 0, .int .i64 0, .slice none 0 0, .slice none 0 0] := by kernel_rfl
@[simp] theorem el30 : elOf Try.prog 30 = some (5, 72, [.v (.int .u64 0), .v (.int .u64 0), .v (.int .i64 0), .arr [], .arr []]) := by kernel_rfl
@[simp] theorem st30 : isSliceT Try.prog 30 = false := by kernel_rfl
@[simp] theorem sz30 : pv Try.prog (sizeOf 30) = some 5 := by kernel_rfl
@[simp] theorem u830 : isU8 Try.prog 30 = false := by kernel_rfl
@[simp] theorem mt30 : isMapT Try.prog 30 = false := by kernel_rfl
@[simp] theorem ik30 : ikOf Try.prog 30 = none := by kernel_rfl
@[simp] theorem bld30 : bldOf Try.prog 30 = some ([.int .u64 0, .int .u64 0, .int .i64 0, .slice none 0 0, .slice none 0 0], [(0, 1), (1, 3), (4, 1)]) := by kernel_rfl
@[simp] theorem off30_0 : offOf Try.prog 30 0 = some 0 := by kernel_rfl
@[simp] theorem fld30_0 : fldOf Try.prog 30 0 = some (0, none) := by kernel_rfl
@[simp] theorem off30_1 : offOf Try.prog 30 1 = some 1 := by kernel_rfl
@[simp] theorem fld30_1 : fldOf Try.prog 30 1 = some (1, some 3) := by kernel_rfl
@[simp] theorem off30_2 : offOf Try.prog 30 2 = some 4 := by kernel_rfl
@[simp] theorem fld30_2 : fldOf Try.prog 30 2 = some (4, none) := by kernel_rfl
@[simp] theorem ld31 : ldOf Try.prog 31 = some (some 5) := by kernel_rfl
@[simp] theorem z31 : zOf Try.prog 31 = some [.int .u64 0, .int .u64 0, .int .i64 0, .slice none 0 0, .slice none 0 0] := by kernel_rfl
@[simp] theorem el31 : elOf Try.prog 31 = some (5, 72, [.v (.int .u64 0), .v (.int .u64 0), .v (.int .i64 0), .arr [], .arr []]) := by kernel_rfl
@[simp] theorem st31 : isSliceT Try.prog 31 = false := by kernel_rfl
@[simp] theorem sz31 : pv Try.prog (sizeOf 31) = some 5 := by kernel_rfl
@[simp] theorem u831 : isU8 Try.prog 31 = false := by kernel_rfl
@[simp] theorem mt31 : isMapT Try.prog 31 = false := by kernel_rfl
@[simp] theorem ik31 : ikOf Try.prog 31 = none := by kernel_rfl
@[simp] theorem bld31 : bldOf Try.prog 31 = some ([.int .u64 0, .int .u64 0, .int .i64 0, .slice none 0 0, .slice none 0 0], [(0, 1), (1, 3), (4, 1)]) := by kernel_rfl
@[simp] theorem off31_0 : offOf Try.prog 31 0 = some 0 := by kernel_rfl
@[simp] theorem fld31_0 : fldOf Try.prog 31 0 = some (0, none) := by kernel_rfl
@[simp] theorem off31_1 : offOf Try.prog 31 1 = some 1 := by kernel_rfl
@[simp] theorem fld31_1 : fldOf Try.prog 31 1 = some (1, some 3) := by kernel_rfl
@[simp] theorem off31_2 : offOf Try.prog 31 2 = some 4 := by kernel_rfl
@[simp] theorem fld31_2 : fldOf Try.prog 31 2 = some (4, none) := by kernel_rfl
@[simp] theorem ld32 : ldOf Try.prog 32 = some none := by kernel_rfl
@[simp] theorem z32 : zOf Try.prog 32 = some [.int .i64 0] := by kernel_rfl
@[simp] theorem el32 : elOf Try.prog 32 = some (1, 8, [.v (.int .i64 0)]) := by kernel_rfl
@[simp] theorem st32 : isSliceT Try.prog 32 = false := by kernel_rfl
@[simp] theorem sz32 : pv Try.prog (sizeOf 32) = some 1 := by kernel_rfl
@[simp] theorem u832 : isU8 Try.prog 32 = false := by kernel_rfl
@[simp] theorem mt32 : isMapT Try.prog 32 = false := by kernel_rfl
@[simp] theorem ik32 : ikOf Try.prog 32 = some .i64 := by kernel_rfl
@[simp] theorem ld36 : ldOf Try.prog 36 = some none := by kernel_rfl
@[simp] theorem z36 : zOf Try.prog 36 = some [.slice none 0 0] := by kernel_rfl
@[simp] theorem el36 : elOf Try.prog 36 = some (1, 24, [.arr []]) := by kernel_rfl
@[simp] theorem st36 : isSliceT Try.prog 36 = true := by kernel_rfl
@[simp] theorem sz36 : pv Try.prog (sizeOf 36) = some 1 := by kernel_rfl
@[simp] theorem u836 : isU8 Try.prog 36 = false := by kernel_rfl
@[simp] theorem mt36 : isMapT Try.prog 36 = false := by kernel_rfl
@[simp] theorem ik36 : ikOf Try.prog 36 = none := by kernel_rfl
@[simp] theorem sR36 : strRowsT Try.prog 36 = false := by kernel_rfl
@[simp] theorem es36 : elemOfSlice Try.prog 36 = some 31 := by kernel_rfl
@[simp] theorem ld37 : ldOf Try.prog 37 = some (some 3) := by kernel_rfl
@[simp] theorem z37 : zOf Try.prog 37 = some [.int .i64 0, .string ByteArray.empty, .int .i64 0] := by kernel_rfl
@[simp] theorem el37 : elOf Try.prog 37 = some (3, 32, [.v (.int .i64 0), .v (.string ByteArray.empty), .v (.int .i64 0)]) := by kernel_rfl
@[simp] theorem st37 : isSliceT Try.prog 37 = false := by kernel_rfl
@[simp] theorem sz37 : pv Try.prog (sizeOf 37) = some 3 := by kernel_rfl
@[simp] theorem u837 : isU8 Try.prog 37 = false := by kernel_rfl
@[simp] theorem mt37 : isMapT Try.prog 37 = false := by kernel_rfl
@[simp] theorem ik37 : ikOf Try.prog 37 = none := by kernel_rfl
@[simp] theorem bld37 : bldOf Try.prog 37 = some ([.int .i64 0, .string ByteArray.empty, .int .i64 0], [(0, 1), (1, 1), (2, 1)]) := by kernel_rfl
@[simp] theorem off37_0 : offOf Try.prog 37 0 = some 0 := by kernel_rfl
@[simp] theorem fld37_0 : fldOf Try.prog 37 0 = some (0, none) := by kernel_rfl
@[simp] theorem off37_1 : offOf Try.prog 37 1 = some 1 := by kernel_rfl
@[simp] theorem fld37_1 : fldOf Try.prog 37 1 = some (1, none) := by kernel_rfl
@[simp] theorem off37_2 : offOf Try.prog 37 2 = some 2 := by kernel_rfl
@[simp] theorem fld37_2 : fldOf Try.prog 37 2 = some (2, none) := by kernel_rfl
@[simp] theorem ld38 : ldOf Try.prog 38 = some (some 3) := by kernel_rfl
@[simp] theorem z38 : zOf Try.prog 38 = some [.int .i64 0, .string ByteArray.empty, .int .i64 0] := by kernel_rfl
@[simp] theorem el38 : elOf Try.prog 38 = some (3, 32, [.v (.int .i64 0), .v (.string ByteArray.empty), .v (.int .i64 0)]) := by kernel_rfl
@[simp] theorem st38 : isSliceT Try.prog 38 = false := by kernel_rfl
@[simp] theorem sz38 : pv Try.prog (sizeOf 38) = some 3 := by kernel_rfl
@[simp] theorem u838 : isU8 Try.prog 38 = false := by kernel_rfl
@[simp] theorem mt38 : isMapT Try.prog 38 = false := by kernel_rfl
@[simp] theorem ik38 : ikOf Try.prog 38 = none := by kernel_rfl
@[simp] theorem bld38 : bldOf Try.prog 38 = some ([.int .i64 0, .string ByteArray.empty, .int .i64 0], [(0, 1), (1, 1), (2, 1)]) := by kernel_rfl
@[simp] theorem off38_0 : offOf Try.prog 38 0 = some 0 := by kernel_rfl
@[simp] theorem fld38_0 : fldOf Try.prog 38 0 = some (0, none) := by kernel_rfl
@[simp] theorem off38_1 : offOf Try.prog 38 1 = some 1 := by kernel_rfl
@[simp] theorem fld38_1 : fldOf Try.prog 38 1 = some (1, none) := by kernel_rfl
@[simp] theorem off38_2 : offOf Try.prog 38 2 = some 2 := by kernel_rfl
@[simp] theorem fld38_2 : fldOf Try.prog 38 2 = some (2, none) := by kernel_rfl
@[simp] theorem ld41 : ldOf Try.prog 41 = some none := by kernel_rfl
@[simp] theorem z41 : zOf Try.prog 41 = some [.slice none 0 0] := by kernel_rfl
@[simp] theorem el41 : elOf Try.prog 41 = some (1, 24, [.arr []]) := by kernel_rfl
@[simp] theorem st41 : isSliceT Try.prog 41 = true := by kernel_rfl
@[simp] theorem sz41 : pv Try.prog (sizeOf 41) = some 1 := by kernel_rfl
@[simp] theorem u841 : isU8 Try.prog 41 = false := by kernel_rfl
@[simp] theorem mt41 : isMapT Try.prog 41 = false := by kernel_rfl
@[simp] theorem ik41 : ikOf Try.prog 41 = none := by kernel_rfl
@[simp] theorem sR41 : strRowsT Try.prog 41 = false := by kernel_rfl
@[simp] theorem es41 : elemOfSlice Try.prog 41 = some 46 := by kernel_rfl
@[simp] theorem ld44 : ldOf Try.prog 44 = some none := by kernel_rfl
@[simp] theorem z44 : zOf Try.prog 44 = some [.slice none 0 0] := by kernel_rfl
@[simp] theorem el44 : elOf Try.prog 44 = some (1, 24, [.arr []]) := by kernel_rfl
@[simp] theorem st44 : isSliceT Try.prog 44 = true := by kernel_rfl
@[simp] theorem sz44 : pv Try.prog (sizeOf 44) = some 1 := by kernel_rfl
@[simp] theorem u844 : isU8 Try.prog 44 = false := by kernel_rfl
@[simp] theorem mt44 : isMapT Try.prog 44 = false := by kernel_rfl
@[simp] theorem ik44 : ikOf Try.prog 44 = none := by kernel_rfl
@[simp] theorem sR44 : strRowsT Try.prog 44 = false := by kernel_rfl
@[simp] theorem es44 : elemOfSlice Try.prog 44 = some 49 := by kernel_rfl
@[simp] theorem ld45 : ldOf Try.prog 45 = some (some 2) := by kernel_rfl
@[simp] theorem z45 : zOf Try.prog 45 = some [.slice none 0 0, .bool false] := by kernel_rfl
@[simp] theorem el45 : elOf Try.prog 45 = some (2, 32, [.arr [], .v (.bool false)]) := by kernel_rfl
@[simp] theorem st45 : isSliceT Try.prog 45 = false := by kernel_rfl
@[simp] theorem sz45 : pv Try.prog (sizeOf 45) = some 2 := by kernel_rfl
@[simp] theorem u845 : isU8 Try.prog 45 = false := by kernel_rfl
@[simp] theorem mt45 : isMapT Try.prog 45 = false := by kernel_rfl
@[simp] theorem ik45 : ikOf Try.prog 45 = none := by kernel_rfl
@[simp] theorem bld45 : bldOf Try.prog 45 = some ([.slice none 0 0, .bool false], [(0, 1), (1, 1)]) := by kernel_rfl
@[simp] theorem off45_0 : offOf Try.prog 45 0 = some 0 := by kernel_rfl
@[simp] theorem fld45_0 : fldOf Try.prog 45 0 = some (0, none) := by kernel_rfl
@[simp] theorem off45_1 : offOf Try.prog 45 1 = some 1 := by kernel_rfl
@[simp] theorem fld45_1 : fldOf Try.prog 45 1 = some (1, none) := by kernel_rfl
@[simp] theorem ld46 : ldOf Try.prog 46 = some (some 2) := by kernel_rfl
@[simp] theorem z46 : zOf Try.prog 46 = some [.slice none 0 0, .bool false] := by kernel_rfl
@[simp] theorem el46 : elOf Try.prog 46 = some (2, 32, [.arr [], .v (.bool false)]) := by kernel_rfl
@[simp] theorem st46 : isSliceT Try.prog 46 = false := by kernel_rfl
@[simp] theorem sz46 : pv Try.prog (sizeOf 46) = some 2 := by kernel_rfl
@[simp] theorem u846 : isU8 Try.prog 46 = false := by kernel_rfl
@[simp] theorem mt46 : isMapT Try.prog 46 = false := by kernel_rfl
@[simp] theorem ik46 : ikOf Try.prog 46 = none := by kernel_rfl
@[simp] theorem bld46 : bldOf Try.prog 46 = some ([.slice none 0 0, .bool false], [(0, 1), (1, 1)]) := by kernel_rfl
@[simp] theorem off46_0 : offOf Try.prog 46 0 = some 0 := by kernel_rfl
@[simp] theorem fld46_0 : fldOf Try.prog 46 0 = some (0, none) := by kernel_rfl
@[simp] theorem off46_1 : offOf Try.prog 46 1 = some 1 := by kernel_rfl
@[simp] theorem fld46_1 : fldOf Try.prog 46 1 = some (1, none) := by kernel_rfl
@[simp] theorem ld48 : ldOf Try.prog 48 = some (some 3) := by kernel_rfl
@[simp] theorem z48 : zOf Try.prog 48 = some [.string ByteArray.empty, .int .i64 0, .int .i64 0] := by kernel_rfl
@[simp] theorem el48 : elOf Try.prog 48 = some (3, 32, [.v (.string ByteArray.empty), .v (.int .i64 0), .v (.int .i64 0)]) := by kernel_rfl
@[simp] theorem st48 : isSliceT Try.prog 48 = false := by kernel_rfl
@[simp] theorem sz48 : pv Try.prog (sizeOf 48) = some 3 := by kernel_rfl
@[simp] theorem u848 : isU8 Try.prog 48 = false := by kernel_rfl
@[simp] theorem mt48 : isMapT Try.prog 48 = false := by kernel_rfl
@[simp] theorem ik48 : ikOf Try.prog 48 = none := by kernel_rfl
@[simp] theorem bld48 : bldOf Try.prog 48 = some ([.string ByteArray.empty, .int .i64 0, .int .i64 0], [(0, 1), (1, 1), (2, 1)]) := by kernel_rfl
@[simp] theorem off48_0 : offOf Try.prog 48 0 = some 0 := by kernel_rfl
@[simp] theorem fld48_0 : fldOf Try.prog 48 0 = some (0, none) := by kernel_rfl
@[simp] theorem off48_1 : offOf Try.prog 48 1 = some 1 := by kernel_rfl
@[simp] theorem fld48_1 : fldOf Try.prog 48 1 = some (1, none) := by kernel_rfl
@[simp] theorem off48_2 : offOf Try.prog 48 2 = some 2 := by kernel_rfl
@[simp] theorem fld48_2 : fldOf Try.prog 48 2 = some (2, none) := by kernel_rfl
@[simp] theorem ld49 : ldOf Try.prog 49 = some (some 3) := by kernel_rfl
@[simp] theorem z49 : zOf Try.prog 49 = some [.string ByteArray.empty, .int .i64 0, .int .i64 0] := by kernel_rfl
@[simp] theorem el49 : elOf Try.prog 49 = some (3, 32, [.v (.string ByteArray.empty), .v (.int .i64 0), .v (.int .i64 0)]) := by kernel_rfl
@[simp] theorem st49 : isSliceT Try.prog 49 = false := by kernel_rfl
@[simp] theorem sz49 : pv Try.prog (sizeOf 49) = some 3 := by kernel_rfl
@[simp] theorem u849 : isU8 Try.prog 49 = false := by kernel_rfl
@[simp] theorem mt49 : isMapT Try.prog 49 = false := by kernel_rfl
@[simp] theorem ik49 : ikOf Try.prog 49 = none := by kernel_rfl
@[simp] theorem bld49 : bldOf Try.prog 49 = some ([.string ByteArray.empty, .int .i64 0, .int .i64 0], [(0, 1), (1, 1), (2, 1)]) := by kernel_rfl
@[simp] theorem off49_0 : offOf Try.prog 49 0 = some 0 := by kernel_rfl
@[simp] theorem fld49_0 : fldOf Try.prog 49 0 = some (0, none) := by kernel_rfl
@[simp] theorem off49_1 : offOf Try.prog 49 1 = some 1 := by kernel_rfl
@[simp] theorem fld49_1 : fldOf Try.prog 49 1 = some (1, none) := by kernel_rfl
@[simp] theorem off49_2 : offOf Try.prog 49 2 = some 2 := by kernel_rfl
@[simp] theorem fld49_2 : fldOf Try.prog 49 2 = some (2, none) := by kernel_rfl
@[simp] theorem ld51 : ldOf Try.prog 51 = some none := by kernel_rfl
@[simp] theorem z51 : zOf Try.prog 51 = some [.slice none 0 0] := by kernel_rfl
@[simp] theorem el51 : elOf Try.prog 51 = some (1, 24, [.arr []]) := by kernel_rfl
@[simp] theorem st51 : isSliceT Try.prog 51 = true := by kernel_rfl
@[simp] theorem sz51 : pv Try.prog (sizeOf 51) = some 1 := by kernel_rfl
@[simp] theorem u851 : isU8 Try.prog 51 = false := by kernel_rfl
@[simp] theorem mt51 : isMapT Try.prog 51 = false := by kernel_rfl
@[simp] theorem ik51 : ikOf Try.prog 51 = none := by kernel_rfl
@[simp] theorem sR51 : strRowsT Try.prog 51 = false := by kernel_rfl
@[simp] theorem es51 : elemOfSlice Try.prog 51 = some 66 := by kernel_rfl
@[simp] theorem ld55 : ldOf Try.prog 55 = some none := by kernel_rfl
@[simp] theorem z55 : zOf Try.prog 55 = some [.slice none 0 0] := by kernel_rfl
@[simp] theorem el55 : elOf Try.prog 55 = some (1, 24, [.arr []]) := by kernel_rfl
@[simp] theorem st55 : isSliceT Try.prog 55 = true := by kernel_rfl
@[simp] theorem sz55 : pv Try.prog (sizeOf 55) = some 1 := by kernel_rfl
@[simp] theorem u855 : isU8 Try.prog 55 = false := by kernel_rfl
@[simp] theorem mt55 : isMapT Try.prog 55 = false := by kernel_rfl
@[simp] theorem ik55 : ikOf Try.prog 55 = none := by kernel_rfl
@[simp] theorem sR55 : strRowsT Try.prog 55 = true := by kernel_rfl
@[simp] theorem es55 : elemOfSlice Try.prog 55 = some 58 := by kernel_rfl
@[simp] theorem ld58 : ldOf Try.prog 58 = some none := by kernel_rfl
@[simp] theorem z58 : zOf Try.prog 58 = some [.slice none 0 0] := by kernel_rfl
@[simp] theorem el58 : elOf Try.prog 58 = some (1, 24, [.arr []]) := by kernel_rfl
@[simp] theorem st58 : isSliceT Try.prog 58 = true := by kernel_rfl
@[simp] theorem sz58 : pv Try.prog (sizeOf 58) = some 1 := by kernel_rfl
@[simp] theorem u858 : isU8 Try.prog 58 = false := by kernel_rfl
@[simp] theorem mt58 : isMapT Try.prog 58 = false := by kernel_rfl
@[simp] theorem ik58 : ikOf Try.prog 58 = none := by kernel_rfl
@[simp] theorem sR58 : strRowsT Try.prog 58 = false := by kernel_rfl
@[simp] theorem es58 : elemOfSlice Try.prog 58 = some 9 := by kernel_rfl
@[simp] theorem ld63 : ldOf Try.prog 63 = some (some 3) := by kernel_rfl
@[simp] theorem z63 : zOf Try.prog 63 = some [.int .u64 0, .int .i64 0, .slice none 0 0] := by kernel_rfl
@[simp] theorem el63 : elOf Try.prog 63 = some (3, 40, [.v (.int .u64 0), .v (.int .i64 0), .arr []]) := by kernel_rfl
@[simp] theorem st63 : isSliceT Try.prog 63 = false := by kernel_rfl
@[simp] theorem sz63 : pv Try.prog (sizeOf 63) = some 3 := by kernel_rfl
@[simp] theorem u863 : isU8 Try.prog 63 = false := by kernel_rfl
@[simp] theorem mt63 : isMapT Try.prog 63 = false := by kernel_rfl
@[simp] theorem ik63 : ikOf Try.prog 63 = none := by kernel_rfl
@[simp] theorem bld63 : bldOf Try.prog 63 = some ([.int .u64 0, .int .i64 0, .slice none 0 0], [(0, 1), (1, 1), (2, 1)]) := by kernel_rfl
@[simp] theorem off63_0 : offOf Try.prog 63 0 = some 0 := by kernel_rfl
@[simp] theorem fld63_0 : fldOf Try.prog 63 0 = some (0, none) := by kernel_rfl
@[simp] theorem off63_1 : offOf Try.prog 63 1 = some 1 := by kernel_rfl
@[simp] theorem fld63_1 : fldOf Try.prog 63 1 = some (1, none) := by kernel_rfl
@[simp] theorem off63_2 : offOf Try.prog 63 2 = some 2 := by kernel_rfl
@[simp] theorem fld63_2 : fldOf Try.prog 63 2 = some (2, none) := by kernel_rfl
@[simp] theorem ld64 : ldOf Try.prog 64 = some none := by kernel_rfl
@[simp] theorem z64 : zOf Try.prog 64 = some [.slice none 0 0] := by kernel_rfl
@[simp] theorem el64 : elOf Try.prog 64 = some (1, 24, [.arr []]) := by kernel_rfl
@[simp] theorem st64 : isSliceT Try.prog 64 = true := by kernel_rfl
@[simp] theorem sz64 : pv Try.prog (sizeOf 64) = some 1 := by kernel_rfl
@[simp] theorem u864 : isU8 Try.prog 64 = false := by kernel_rfl
@[simp] theorem mt64 : isMapT Try.prog 64 = false := by kernel_rfl
@[simp] theorem ik64 : ikOf Try.prog 64 = none := by kernel_rfl
@[simp] theorem sR64 : strRowsT Try.prog 64 = false := by kernel_rfl
@[simp] theorem es64 : elemOfSlice Try.prog 64 = some 85 := by kernel_rfl
@[simp] theorem ld65 : ldOf Try.prog 65 = some (some 5) := by kernel_rfl
@[simp] theorem z65 : zOf Try.prog 65 = some [.int .u64 0, .int .u64 0, .int .i64 0, .slice none 0 0, .slice none 0 0] := by kernel_rfl
@[simp] theorem el65 : elOf Try.prog 65 = some (5, 72, [.v (.int .u64 0), .v (.int .u64 0), .v (.int .i64 0), .arr [], .arr []]) := by kernel_rfl
@[simp] theorem st65 : isSliceT Try.prog 65 = false := by kernel_rfl
@[simp] theorem sz65 : pv Try.prog (sizeOf 65) = some 5 := by kernel_rfl
@[simp] theorem u865 : isU8 Try.prog 65 = false := by kernel_rfl
@[simp] theorem mt65 : isMapT Try.prog 65 = false := by kernel_rfl
@[simp] theorem ik65 : ikOf Try.prog 65 = none := by kernel_rfl
@[simp] theorem bld65 : bldOf Try.prog 65 = some ([.int .u64 0, .int .u64 0, .int .i64 0, .slice none 0 0, .slice none 0 0], [(0, 1), (1, 3), (4, 1)]) := by kernel_rfl
@[simp] theorem off65_0 : offOf Try.prog 65 0 = some 0 := by kernel_rfl
@[simp] theorem fld65_0 : fldOf Try.prog 65 0 = some (0, none) := by kernel_rfl
@[simp] theorem off65_1 : offOf Try.prog 65 1 = some 1 := by kernel_rfl
@[simp] theorem fld65_1 : fldOf Try.prog 65 1 = some (1, some 3) := by kernel_rfl
@[simp] theorem off65_2 : offOf Try.prog 65 2 = some 4 := by kernel_rfl
@[simp] theorem fld65_2 : fldOf Try.prog 65 2 = some (4, none) := by kernel_rfl
@[simp] theorem ld66 : ldOf Try.prog 66 = some (some 5) := by kernel_rfl
@[simp] theorem z66 : zOf Try.prog 66 = some [.int .u64 0, .int .u64 0, .int .i64 0, .slice none 0 0, .slice none 0 0] := by kernel_rfl
@[simp] theorem el66 : elOf Try.prog 66 = some (5, 72, [.v (.int .u64 0), .v (.int .u64 0), .v (.int .i64 0), .arr [], .arr []]) := by kernel_rfl
@[simp] theorem st66 : isSliceT Try.prog 66 = false := by kernel_rfl
@[simp] theorem sz66 : pv Try.prog (sizeOf 66) = some 5 := by kernel_rfl
@[simp] theorem u866 : isU8 Try.prog 66 = false := by kernel_rfl
@[simp] theorem mt66 : isMapT Try.prog 66 = false := by kernel_rfl
@[simp] theorem ik66 : ikOf Try.prog 66 = none := by kernel_rfl
@[simp] theorem bld66 : bldOf Try.prog 66 = some ([.int .u64 0, .int .u64 0, .int .i64 0, .slice none 0 0, .slice none 0 0], [(0, 1), (1, 3), (4, 1)]) := by kernel_rfl
@[simp] theorem off66_0 : offOf Try.prog 66 0 = some 0 := by kernel_rfl
@[simp] theorem fld66_0 : fldOf Try.prog 66 0 = some (0, none) := by kernel_rfl
@[simp] theorem off66_1 : offOf Try.prog 66 1 = some 1 := by kernel_rfl
@[simp] theorem fld66_1 : fldOf Try.prog 66 1 = some (1, some 3) := by kernel_rfl
@[simp] theorem off66_2 : offOf Try.prog 66 2 = some 4 := by kernel_rfl
@[simp] theorem fld66_2 : fldOf Try.prog 66 2 = some (4, none) := by kernel_rfl
@[simp] theorem ld70 : ldOf Try.prog 70 = some none := by kernel_rfl
@[simp] theorem z70 : zOf Try.prog 70 = some [.slice none 0 0] := by kernel_rfl
@[simp] theorem el70 : elOf Try.prog 70 = some (1, 24, [.arr []]) := by kernel_rfl
@[simp] theorem st70 : isSliceT Try.prog 70 = true := by kernel_rfl
@[simp] theorem sz70 : pv Try.prog (sizeOf 70) = some 1 := by kernel_rfl
@[simp] theorem u870 : isU8 Try.prog 70 = false := by kernel_rfl
@[simp] theorem mt70 : isMapT Try.prog 70 = false := by kernel_rfl
@[simp] theorem ik70 : ikOf Try.prog 70 = none := by kernel_rfl
@[simp] theorem sR70 : strRowsT Try.prog 70 = false := by kernel_rfl
@[simp] theorem es70 : elemOfSlice Try.prog 70 = some 73 := by kernel_rfl
@[simp] theorem ld72 : ldOf Try.prog 72 = some (some 4) := by kernel_rfl
@[simp] theorem z72 : zOf Try.prog 72 = some [.string ByteArray.empty, .int .i64 0, .int .i64 0, .int .i64 0] := by kernel_rfl
@[simp] theorem el72 : elOf Try.prog 72 = some (4, 40, [.v (.string ByteArray.empty), .v (.int .i64 0), .v (.int .i64 0), .v (.int .i64 0)]) := by kernel_rfl
@[simp] theorem st72 : isSliceT Try.prog 72 = false := by kernel_rfl
@[simp] theorem sz72 : pv Try.prog (sizeOf 72) = some 4 := by kernel_rfl
@[simp] theorem u872 : isU8 Try.prog 72 = false := by kernel_rfl
@[simp] theorem mt72 : isMapT Try.prog 72 = false := by kernel_rfl
@[simp] theorem ik72 : ikOf Try.prog 72 = none := by kernel_rfl
@[simp] theorem bld72 : bldOf Try.prog 72 = some ([.string ByteArray.empty, .int .i64 0, .int .i64 0, .int .i64 0], [(0, 1), (1, 1), (2, 1), (3, 1)]) := by kernel_rfl
@[simp] theorem off72_0 : offOf Try.prog 72 0 = some 0 := by kernel_rfl
@[simp] theorem fld72_0 : fldOf Try.prog 72 0 = some (0, none) := by kernel_rfl
@[simp] theorem off72_1 : offOf Try.prog 72 1 = some 1 := by kernel_rfl
@[simp] theorem fld72_1 : fldOf Try.prog 72 1 = some (1, none) := by kernel_rfl
@[simp] theorem off72_2 : offOf Try.prog 72 2 = some 2 := by kernel_rfl
@[simp] theorem fld72_2 : fldOf Try.prog 72 2 = some (2, none) := by kernel_rfl
@[simp] theorem off72_3 : offOf Try.prog 72 3 = some 3 := by kernel_rfl
@[simp] theorem fld72_3 : fldOf Try.prog 72 3 = some (3, none) := by kernel_rfl
@[simp] theorem ld73 : ldOf Try.prog 73 = some (some 4) := by kernel_rfl
@[simp] theorem z73 : zOf Try.prog 73 = some [.string ByteArray.empty, .int .i64 0, .int .i64 0, .int .i64 0] := by kernel_rfl
@[simp] theorem el73 : elOf Try.prog 73 = some (4, 40, [.v (.string ByteArray.empty), .v (.int .i64 0), .v (.int .i64 0), .v (.int .i64 0)]) := by kernel_rfl
@[simp] theorem st73 : isSliceT Try.prog 73 = false := by kernel_rfl
@[simp] theorem sz73 : pv Try.prog (sizeOf 73) = some 4 := by kernel_rfl
@[simp] theorem u873 : isU8 Try.prog 73 = false := by kernel_rfl
@[simp] theorem mt73 : isMapT Try.prog 73 = false := by kernel_rfl
@[simp] theorem ik73 : ikOf Try.prog 73 = none := by kernel_rfl
@[simp] theorem bld73 : bldOf Try.prog 73 = some ([.string ByteArray.empty, .int .i64 0, .int .i64 0, .int .i64 0], [(0, 1), (1, 1), (2, 1), (3, 1)]) := by kernel_rfl
@[simp] theorem off73_0 : offOf Try.prog 73 0 = some 0 := by kernel_rfl
@[simp] theorem fld73_0 : fldOf Try.prog 73 0 = some (0, none) := by kernel_rfl
@[simp] theorem off73_1 : offOf Try.prog 73 1 = some 1 := by kernel_rfl
@[simp] theorem fld73_1 : fldOf Try.prog 73 1 = some (1, none) := by kernel_rfl
@[simp] theorem off73_2 : offOf Try.prog 73 2 = some 2 := by kernel_rfl
@[simp] theorem fld73_2 : fldOf Try.prog 73 2 = some (2, none) := by kernel_rfl
@[simp] theorem off73_3 : offOf Try.prog 73 3 = some 3 := by kernel_rfl
@[simp] theorem fld73_3 : fldOf Try.prog 73 3 = some (3, none) := by kernel_rfl
@[simp] theorem ld85 : ldOf Try.prog 85 = some none := by kernel_rfl
@[simp] theorem z85 : zOf Try.prog 85 = some [.slice none 0 0] := by kernel_rfl
@[simp] theorem el85 : elOf Try.prog 85 = some (1, 24, [.arr []]) := by kernel_rfl
@[simp] theorem st85 : isSliceT Try.prog 85 = true := by kernel_rfl
@[simp] theorem sz85 : pv Try.prog (sizeOf 85) = some 1 := by kernel_rfl
@[simp] theorem u885 : isU8 Try.prog 85 = false := by kernel_rfl
@[simp] theorem mt85 : isMapT Try.prog 85 = false := by kernel_rfl
@[simp] theorem ik85 : ikOf Try.prog 85 = none := by kernel_rfl
@[simp] theorem sR85 : strRowsT Try.prog 85 = false := by kernel_rfl
@[simp] theorem es85 : elemOfSlice Try.prog 85 = some 86 := by kernel_rfl
@[simp] theorem ld86 : ldOf Try.prog 86 = some (some 4) := by kernel_rfl
@[simp] theorem z86 : zOf Try.prog 86 = some [.string ByteArray.empty, .int .i64 0, .int .i64 0, .int .i64 0] := by kernel_rfl
@[simp] theorem el86 : elOf Try.prog 86 = some (4, 40, [.v (.string ByteArray.empty), .v (.int .i64 0), .v (.int .i64 0), .v (.int .i64 0)]) := by kernel_rfl
@[simp] theorem st86 : isSliceT Try.prog 86 = false := by kernel_rfl
@[simp] theorem sz86 : pv Try.prog (sizeOf 86) = some 4 := by kernel_rfl
@[simp] theorem u886 : isU8 Try.prog 86 = false := by kernel_rfl
@[simp] theorem mt86 : isMapT Try.prog 86 = false := by kernel_rfl
@[simp] theorem ik86 : ikOf Try.prog 86 = none := by kernel_rfl
@[simp] theorem bld86 : bldOf Try.prog 86 = some ([.string ByteArray.empty, .int .i64 0, .int .i64 0, .int .i64 0], [(0, 1), (1, 1), (2, 1), (3, 1)]) := by kernel_rfl
@[simp] theorem off86_0 : offOf Try.prog 86 0 = some 0 := by kernel_rfl
@[simp] theorem fld86_0 : fldOf Try.prog 86 0 = some (0, none) := by kernel_rfl
@[simp] theorem off86_1 : offOf Try.prog 86 1 = some 1 := by kernel_rfl
@[simp] theorem fld86_1 : fldOf Try.prog 86 1 = some (1, none) := by kernel_rfl
@[simp] theorem off86_2 : offOf Try.prog 86 2 = some 2 := by kernel_rfl
@[simp] theorem fld86_2 : fldOf Try.prog 86 2 = some (2, none) := by kernel_rfl
@[simp] theorem off86_3 : offOf Try.prog 86 3 = some 3 := by kernel_rfl
@[simp] theorem fld86_3 : fldOf Try.prog 86 3 = some (3, none) := by kernel_rfl
@[simp] theorem ld101 : ldOf Try.prog 101 = some none := by kernel_rfl
@[simp] theorem z101 : zOf Try.prog 101 = some [.int .u64 0] := by kernel_rfl
@[simp] theorem el101 : elOf Try.prog 101 = some (1, 8, [.v (.int .u64 0)]) := by kernel_rfl
@[simp] theorem st101 : isSliceT Try.prog 101 = false := by kernel_rfl
@[simp] theorem sz101 : pv Try.prog (sizeOf 101) = some 1 := by kernel_rfl
@[simp] theorem u8101 : isU8 Try.prog 101 = false := by kernel_rfl
@[simp] theorem mt101 : isMapT Try.prog 101 = false := by kernel_rfl
@[simp] theorem ik101 : ikOf Try.prog 101 = some .u64 := by kernel_rfl
@[simp] theorem ld105 : ldOf Try.prog 105 = some none := by kernel_rfl
@[simp] theorem z105 : zOf Try.prog 105 = some [.slice none 0 0] := by kernel_rfl
@[simp] theorem el105 : elOf Try.prog 105 = some (1, 24, [.arr []]) := by kernel_rfl
@[simp] theorem st105 : isSliceT Try.prog 105 = true := by kernel_rfl
@[simp] theorem sz105 : pv Try.prog (sizeOf 105) = some 1 := by kernel_rfl
@[simp] theorem u8105 : isU8 Try.prog 105 = false := by kernel_rfl
@[simp] theorem mt105 : isMapT Try.prog 105 = false := by kernel_rfl
@[simp] theorem ik105 : ikOf Try.prog 105 = none := by kernel_rfl
@[simp] theorem sR105 : strRowsT Try.prog 105 = false := by kernel_rfl
@[simp] theorem es105 : elemOfSlice Try.prog 105 = some 3 := by kernel_rfl
@[simp] theorem ld110 : ldOf Try.prog 110 = some none := by kernel_rfl
@[simp] theorem z110 : zOf Try.prog 110 = some [.slice none 0 0] := by kernel_rfl
@[simp] theorem el110 : elOf Try.prog 110 = some (1, 24, [.arr []]) := by kernel_rfl
@[simp] theorem st110 : isSliceT Try.prog 110 = true := by kernel_rfl
@[simp] theorem sz110 : pv Try.prog (sizeOf 110) = some 1 := by kernel_rfl
@[simp] theorem u8110 : isU8 Try.prog 110 = true := by kernel_rfl
@[simp] theorem mt110 : isMapT Try.prog 110 = false := by kernel_rfl
@[simp] theorem sr110 : isStrT Try.prog 110 = false := by kernel_rfl
@[simp] theorem ik110 : ikOf Try.prog 110 = none := by kernel_rfl
@[simp] theorem sR110 : strRowsT Try.prog 110 = false := by kernel_rfl
@[simp] theorem es110 : elemOfSlice Try.prog 110 = some 5 := by kernel_rfl
@[simp] theorem ld111 : ldOf Try.prog 111 = some none := by kernel_rfl
@[simp] theorem z111 : zOf Try.prog 111 = some [.slice none 0 0] := by kernel_rfl
@[simp] theorem el111 : elOf Try.prog 111 = some (1, 24, [.arr []]) := by kernel_rfl
@[simp] theorem st111 : isSliceT Try.prog 111 = true := by kernel_rfl
@[simp] theorem sz111 : pv Try.prog (sizeOf 111) = some 1 := by kernel_rfl
@[simp] theorem u8111 : isU8 Try.prog 111 = false := by kernel_rfl
@[simp] theorem mt111 : isMapT Try.prog 111 = false := by kernel_rfl
@[simp] theorem ik111 : ikOf Try.prog 111 = none := by kernel_rfl
@[simp] theorem sR111 : strRowsT Try.prog 111 = false := by kernel_rfl
@[simp] theorem es111 : elemOfSlice Try.prog 111 = some 112 := by kernel_rfl
@[simp] theorem ld112 : ldOf Try.prog 112 = some none := by kernel_rfl
@[simp] theorem z112 : zOf Try.prog 112 = some [.slice none 0 0] := by kernel_rfl
@[simp] theorem el112 : elOf Try.prog 112 = some (1, 24, [.arr []]) := by kernel_rfl
@[simp] theorem st112 : isSliceT Try.prog 112 = true := by kernel_rfl
@[simp] theorem sz112 : pv Try.prog (sizeOf 112) = some 1 := by kernel_rfl
@[simp] theorem u8112 : isU8 Try.prog 112 = false := by kernel_rfl
@[simp] theorem mt112 : isMapT Try.prog 112 = false := by kernel_rfl
@[simp] theorem ik112 : ikOf Try.prog 112 = none := by kernel_rfl
@[simp] theorem sR112 : strRowsT Try.prog 112 = false := by kernel_rfl
@[simp] theorem es112 : elemOfSlice Try.prog 112 = some 22 := by kernel_rfl
@[simp] theorem ld124 : ldOf Try.prog 124 = some none := by kernel_rfl
@[simp] theorem z124 : zOf Try.prog 124 = some [.int .u32 0] := by kernel_rfl
@[simp] theorem el124 : elOf Try.prog 124 = some (1, 4, [.v (.int .u32 0)]) := by kernel_rfl
@[simp] theorem st124 : isSliceT Try.prog 124 = false := by kernel_rfl
@[simp] theorem sz124 : pv Try.prog (sizeOf 124) = some 1 := by kernel_rfl
@[simp] theorem u8124 : isU8 Try.prog 124 = false := by kernel_rfl
@[simp] theorem mt124 : isMapT Try.prog 124 = false := by kernel_rfl
@[simp] theorem ik124 : ikOf Try.prog 124 = some .u32 := by kernel_rfl
@[simp] theorem ld135 : ldOf Try.prog 135 = some none := by kernel_rfl
@[simp] theorem z135 : zOf Try.prog 135 = some [.int .i64 0] := by kernel_rfl
@[simp] theorem el135 : elOf Try.prog 135 = some (1, 8, [.v (.int .i64 0)]) := by kernel_rfl
@[simp] theorem st135 : isSliceT Try.prog 135 = false := by kernel_rfl
@[simp] theorem sz135 : pv Try.prog (sizeOf 135) = some 1 := by kernel_rfl
@[simp] theorem u8135 : isU8 Try.prog 135 = false := by kernel_rfl
@[simp] theorem mt135 : isMapT Try.prog 135 = false := by kernel_rfl
@[simp] theorem ik135 : ikOf Try.prog 135 = some .i64 := by kernel_rfl
@[simp] theorem ld149 : ldOf Try.prog 149 = some none := by kernel_rfl
@[simp] theorem z149 : zOf Try.prog 149 = some [.int .u64 0] := by kernel_rfl
@[simp] theorem el149 : elOf Try.prog 149 = some (1, 8, [.v (.int .u64 0)]) := by kernel_rfl
@[simp] theorem st149 : isSliceT Try.prog 149 = false := by kernel_rfl
@[simp] theorem sz149 : pv Try.prog (sizeOf 149) = some 1 := by kernel_rfl
@[simp] theorem u8149 : isU8 Try.prog 149 = false := by kernel_rfl
@[simp] theorem mt149 : isMapT Try.prog 149 = false := by kernel_rfl
@[simp] theorem ik149 : ikOf Try.prog 149 = some .u64 := by kernel_rfl
@[simp] theorem ld153 : ldOf Try.prog 153 = some none := by kernel_rfl
@[simp] theorem z153 : zOf Try.prog 153 = some [.pointer none] := by kernel_rfl
@[simp] theorem el153 : elOf Try.prog 153 = some (1, 8, [.v (.pointer none)]) := by kernel_rfl
@[simp] theorem st153 : isSliceT Try.prog 153 = false := by kernel_rfl
@[simp] theorem sz153 : pv Try.prog (sizeOf 153) = some 1 := by kernel_rfl
@[simp] theorem u8153 : isU8 Try.prog 153 = false := by kernel_rfl
@[simp] theorem mt153 : isMapT Try.prog 153 = false := by kernel_rfl
@[simp] theorem ik153 : ikOf Try.prog 153 = none := by kernel_rfl
@[simp] theorem up153 : pv Try.prog (underlying 153) = some (.pointer 3) := by kernel_rfl
@[simp] theorem ld157 : ldOf Try.prog 157 = some none := by kernel_rfl
@[simp] theorem z157 : zOf Try.prog 157 = some [.pointer none] := by kernel_rfl
@[simp] theorem el157 : elOf Try.prog 157 = some (1, 8, [.v (.pointer none)]) := by kernel_rfl
@[simp] theorem st157 : isSliceT Try.prog 157 = false := by kernel_rfl
@[simp] theorem sz157 : pv Try.prog (sizeOf 157) = some 1 := by kernel_rfl
@[simp] theorem u8157 : isU8 Try.prog 157 = false := by kernel_rfl
@[simp] theorem mt157 : isMapT Try.prog 157 = false := by kernel_rfl
@[simp] theorem ik157 : ikOf Try.prog 157 = none := by kernel_rfl
@[simp] theorem up157 : pv Try.prog (underlying 157) = some (.pointer 149) := by kernel_rfl
@[simp] theorem ld170 : ldOf Try.prog 170 = some none := by kernel_rfl
@[simp] theorem z170 : zOf Try.prog 170 = some [.pointer none] := by kernel_rfl
@[simp] theorem el170 : elOf Try.prog 170 = some (1, 8, [.v (.pointer none)]) := by kernel_rfl
@[simp] theorem st170 : isSliceT Try.prog 170 = false := by kernel_rfl
@[simp] theorem sz170 : pv Try.prog (sizeOf 170) = some 1 := by kernel_rfl
@[simp] theorem u8170 : isU8 Try.prog 170 = false := by kernel_rfl
@[simp] theorem mt170 : isMapT Try.prog 170 = false := by kernel_rfl
@[simp] theorem ik170 : ikOf Try.prog 170 = none := by kernel_rfl
@[simp] theorem up170 : pv Try.prog (underlying 170) = some (.pointer 5) := by kernel_rfl
@[simp] theorem ld173 : ldOf Try.prog 173 = some (some 11) := by kernel_rfl
@[simp] theorem z173 : zOf Try.prog 173 = some [.int .u64 0, .int .u64 0, .int .u32 0, .int .u8 0, .int .u8 0, .int .u8 0, .int .u8 0, .nilFunc, .pointer none, .int .i32 0, .int .i32 0] := by kernel_rfl
@[simp] theorem el173 : elOf Try.prog 173 = some (11, 48, [.v (.int .u64 0), .v (.int .u64 0), .v (.int .u32 0), .v (.int .u8 0), .v (.int .u8 0), .v (.int .u8 0), .v (.int .u8 0), .v (.nilFunc), .v (.pointer none), .v (.int .i32 0), .v (.int .i32 0)]) := by kernel_rfl
@[simp] theorem st173 : isSliceT Try.prog 173 = false := by kernel_rfl
@[simp] theorem sz173 : pv Try.prog (sizeOf 173) = some 11 := by kernel_rfl
@[simp] theorem u8173 : isU8 Try.prog 173 = false := by kernel_rfl
@[simp] theorem mt173 : isMapT Try.prog 173 = false := by kernel_rfl
@[simp] theorem ik173 : ikOf Try.prog 173 = none := by kernel_rfl
@[simp] theorem bld173 : bldOf Try.prog 173 = some ([.int .u64 0, .int .u64 0, .int .u32 0, .int .u8 0, .int .u8 0, .int .u8 0, .int .u8 0, .nilFunc, .pointer none, .int .i32 0, .int .i32 0], [(0, 1), (1, 1), (2, 1), (3, 1), (4, 1), (5, 1), (6, 1), (7, 1), (8, 1), (9, 1), (10, 1)]) := by kernel_rfl
@[simp] theorem off173_0 : offOf Try.prog 173 0 = some 0 := by kernel_rfl
@[simp] theorem fld173_0 : fldOf Try.prog 173 0 = some (0, none) := by kernel_rfl
@[simp] theorem off173_1 : offOf Try.prog 173 1 = some 1 := by kernel_rfl
@[simp] theorem fld173_1 : fldOf Try.prog 173 1 = some (1, none) := by kernel_rfl
@[simp] theorem off173_2 : offOf Try.prog 173 2 = some 2 := by kernel_rfl
@[simp] theorem fld173_2 : fldOf Try.prog 173 2 = some (2, none) := by kernel_rfl
@[simp] theorem off173_3 : offOf Try.prog 173 3 = some 3 := by kernel_rfl
@[simp] theorem fld173_3 : fldOf Try.prog 173 3 = some (3, none) := by kernel_rfl
@[simp] theorem off173_4 : offOf Try.prog 173 4 = some 4 := by kernel_rfl
@[simp] theorem fld173_4 : fldOf Try.prog 173 4 = some (4, none) := by kernel_rfl
@[simp] theorem off173_5 : offOf Try.prog 173 5 = some 5 := by kernel_rfl
@[simp] theorem fld173_5 : fldOf Try.prog 173 5 = some (5, none) := by kernel_rfl
@[simp] theorem off173_6 : offOf Try.prog 173 6 = some 6 := by kernel_rfl
@[simp] theorem fld173_6 : fldOf Try.prog 173 6 = some (6, none) := by kernel_rfl
@[simp] theorem off173_7 : offOf Try.prog 173 7 = some 7 := by kernel_rfl
@[simp] theorem fld173_7 : fldOf Try.prog 173 7 = some (7, none) := by kernel_rfl
@[simp] theorem off173_8 : offOf Try.prog 173 8 = some 8 := by kernel_rfl
@[simp] theorem fld173_8 : fldOf Try.prog 173 8 = some (8, none) := by kernel_rfl
@[simp] theorem off173_9 : offOf Try.prog 173 9 = some 9 := by kernel_rfl
@[simp] theorem fld173_9 : fldOf Try.prog 173 9 = some (9, none) := by kernel_rfl
@[simp] theorem off173_10 : offOf Try.prog 173 10 = some 10 := by kernel_rfl
@[simp] theorem fld173_10 : fldOf Try.prog 173 10 = some (10, none) := by kernel_rfl
@[simp] theorem lna25 {H : Hp} {ty : TypeId} {l : List (List CV)} : vlen Try.prog H #[25] ty (.one (.c (.arr l))) = qa (vI .i64 l.length) := len_arr es25
@[simp] theorem lnl25 {H : Hp} {ty : TypeId} {id o n tot : Nat} : vlen Try.prog H #[25] ty (.one (.sl id o n tot)) = if lenIs H id tot = true then qa (vI .i64 n) else none := len_sl es25
@[simp] theorem iaa25 {H : Hp} {k : IntKind} {l : List (List CV)} {i : Int} : vindexAddr Try.prog H 25 (.one (.c (.arr l))) (vI k i) = if 0 ≤ i then (match l[i.toNat]? with | some x => if x.length = 3 then qa (.one (.c (.cptr x))) else none | none => none) else none := ia_arr es25 sz38
@[simp] theorem ial25 {H : Hp} {k : IntKind} {id o n tot : Nat} {i : Int} : vindexAddr Try.prog H 25 (.one (.sl id o n tot)) (vI k i) = if 0 ≤ i then (if i.toNat < n then (if elAt H id tot (o + i.toNat) = some 3 then qa (.one (.ptr ⟨id, o + i.toNat, 0, tot⟩)) else none) else none) else none := ia_sl es25 sz38
@[simp] theorem lna26 {H : Hp} {ty : TypeId} {l : List (List CV)} : vlen Try.prog H #[26] ty (.one (.c (.arr l))) = qa (vI .i64 l.length) := len_arr es26
@[simp] theorem lnl26 {H : Hp} {ty : TypeId} {id o n tot : Nat} : vlen Try.prog H #[26] ty (.one (.sl id o n tot)) = if lenIs H id tot = true then qa (vI .i64 n) else none := len_sl es26
@[simp] theorem iaa26 {H : Hp} {k : IntKind} {l : List (List CV)} {i : Int} : vindexAddr Try.prog H 26 (.one (.c (.arr l))) (vI k i) = if 0 ≤ i then (match l[i.toNat]? with | some x => if x.length = 1 then qa (.one (.c (.cptr x))) else none | none => none) else none := ia_arr es26 sz4
@[simp] theorem ial26 {H : Hp} {k : IntKind} {id o n tot : Nat} {i : Int} : vindexAddr Try.prog H 26 (.one (.sl id o n tot)) (vI k i) = if 0 ≤ i then (if i.toNat < n then (if elAt H id tot (o + i.toNat) = some 1 then qa (.one (.ptr ⟨id, o + i.toNat, 0, tot⟩)) else none) else none) else none := ia_sl es26 sz4
@[simp] theorem lna29 {H : Hp} {ty : TypeId} {l : List (List CV)} : vlen Try.prog H #[29] ty (.one (.c (.arr l))) = qa (vI .i64 l.length) := len_arr es29
@[simp] theorem lnl29 {H : Hp} {ty : TypeId} {id o n tot : Nat} : vlen Try.prog H #[29] ty (.one (.sl id o n tot)) = if lenIs H id tot = true then qa (vI .i64 n) else none := len_sl es29
@[simp] theorem iaa29 {H : Hp} {k : IntKind} {l : List (List CV)} {i : Int} : vindexAddr Try.prog H 29 (.one (.c (.arr l))) (vI k i) = if 0 ≤ i then (match l[i.toNat]? with | some x => if x.length = 1 then qa (.one (.c (.cptr x))) else none | none => none) else none := ia_arr es29 sz70
@[simp] theorem ial29 {H : Hp} {k : IntKind} {id o n tot : Nat} {i : Int} : vindexAddr Try.prog H 29 (.one (.sl id o n tot)) (vI k i) = if 0 ≤ i then (if i.toNat < n then (if elAt H id tot (o + i.toNat) = some 1 then qa (.one (.ptr ⟨id, o + i.toNat, 0, tot⟩)) else none) else none) else none := ia_sl es29 sz70
@[simp] theorem lna36 {H : Hp} {ty : TypeId} {l : List (List CV)} : vlen Try.prog H #[36] ty (.one (.c (.arr l))) = qa (vI .i64 l.length) := len_arr es36
@[simp] theorem lnl36 {H : Hp} {ty : TypeId} {id o n tot : Nat} : vlen Try.prog H #[36] ty (.one (.sl id o n tot)) = if lenIs H id tot = true then qa (vI .i64 n) else none := len_sl es36
@[simp] theorem iaa36 {H : Hp} {k : IntKind} {l : List (List CV)} {i : Int} : vindexAddr Try.prog H 36 (.one (.c (.arr l))) (vI k i) = if 0 ≤ i then (match l[i.toNat]? with | some x => if x.length = 5 then qa (.one (.c (.cptr x))) else none | none => none) else none := ia_arr es36 sz31
@[simp] theorem ial36 {H : Hp} {k : IntKind} {id o n tot : Nat} {i : Int} : vindexAddr Try.prog H 36 (.one (.sl id o n tot)) (vI k i) = if 0 ≤ i then (if i.toNat < n then (if elAt H id tot (o + i.toNat) = some 5 then qa (.one (.ptr ⟨id, o + i.toNat, 0, tot⟩)) else none) else none) else none := ia_sl es36 sz31
@[simp] theorem lna41 {H : Hp} {ty : TypeId} {l : List (List CV)} : vlen Try.prog H #[41] ty (.one (.c (.arr l))) = qa (vI .i64 l.length) := len_arr es41
@[simp] theorem lnl41 {H : Hp} {ty : TypeId} {id o n tot : Nat} : vlen Try.prog H #[41] ty (.one (.sl id o n tot)) = if lenIs H id tot = true then qa (vI .i64 n) else none := len_sl es41
@[simp] theorem iaa41 {H : Hp} {k : IntKind} {l : List (List CV)} {i : Int} : vindexAddr Try.prog H 41 (.one (.c (.arr l))) (vI k i) = if 0 ≤ i then (match l[i.toNat]? with | some x => if x.length = 2 then qa (.one (.c (.cptr x))) else none | none => none) else none := ia_arr es41 sz46
@[simp] theorem ial41 {H : Hp} {k : IntKind} {id o n tot : Nat} {i : Int} : vindexAddr Try.prog H 41 (.one (.sl id o n tot)) (vI k i) = if 0 ≤ i then (if i.toNat < n then (if elAt H id tot (o + i.toNat) = some 2 then qa (.one (.ptr ⟨id, o + i.toNat, 0, tot⟩)) else none) else none) else none := ia_sl es41 sz46
@[simp] theorem lna44 {H : Hp} {ty : TypeId} {l : List (List CV)} : vlen Try.prog H #[44] ty (.one (.c (.arr l))) = qa (vI .i64 l.length) := len_arr es44
@[simp] theorem lnl44 {H : Hp} {ty : TypeId} {id o n tot : Nat} : vlen Try.prog H #[44] ty (.one (.sl id o n tot)) = if lenIs H id tot = true then qa (vI .i64 n) else none := len_sl es44
@[simp] theorem iaa44 {H : Hp} {k : IntKind} {l : List (List CV)} {i : Int} : vindexAddr Try.prog H 44 (.one (.c (.arr l))) (vI k i) = if 0 ≤ i then (match l[i.toNat]? with | some x => if x.length = 3 then qa (.one (.c (.cptr x))) else none | none => none) else none := ia_arr es44 sz49
@[simp] theorem ial44 {H : Hp} {k : IntKind} {id o n tot : Nat} {i : Int} : vindexAddr Try.prog H 44 (.one (.sl id o n tot)) (vI k i) = if 0 ≤ i then (if i.toNat < n then (if elAt H id tot (o + i.toNat) = some 3 then qa (.one (.ptr ⟨id, o + i.toNat, 0, tot⟩)) else none) else none) else none := ia_sl es44 sz49
@[simp] theorem lna51 {H : Hp} {ty : TypeId} {l : List (List CV)} : vlen Try.prog H #[51] ty (.one (.c (.arr l))) = qa (vI .i64 l.length) := len_arr es51
@[simp] theorem lnl51 {H : Hp} {ty : TypeId} {id o n tot : Nat} : vlen Try.prog H #[51] ty (.one (.sl id o n tot)) = if lenIs H id tot = true then qa (vI .i64 n) else none := len_sl es51
@[simp] theorem iaa51 {H : Hp} {k : IntKind} {l : List (List CV)} {i : Int} : vindexAddr Try.prog H 51 (.one (.c (.arr l))) (vI k i) = if 0 ≤ i then (match l[i.toNat]? with | some x => if x.length = 5 then qa (.one (.c (.cptr x))) else none | none => none) else none := ia_arr es51 sz66
@[simp] theorem ial51 {H : Hp} {k : IntKind} {id o n tot : Nat} {i : Int} : vindexAddr Try.prog H 51 (.one (.sl id o n tot)) (vI k i) = if 0 ≤ i then (if i.toNat < n then (if elAt H id tot (o + i.toNat) = some 5 then qa (.one (.ptr ⟨id, o + i.toNat, 0, tot⟩)) else none) else none) else none := ia_sl es51 sz66
@[simp] theorem lna55 {H : Hp} {ty : TypeId} {l : List (List CV)} : vlen Try.prog H #[55] ty (.one (.c (.arr l))) = qa (vI .i64 l.length) := len_arr es55
@[simp] theorem lnl55 {H : Hp} {ty : TypeId} {id o n tot : Nat} : vlen Try.prog H #[55] ty (.one (.sl id o n tot)) = if lenIs H id tot = true then qa (vI .i64 n) else none := len_sl es55
@[simp] theorem iaa55 {H : Hp} {k : IntKind} {l : List (List CV)} {i : Int} : vindexAddr Try.prog H 55 (.one (.c (.arr l))) (vI k i) = if 0 ≤ i then (match l[i.toNat]? with | some x => if x.length = 1 then qa (.one (.c (.cptr x))) else none | none => none) else none := ia_arr es55 sz58
@[simp] theorem ial55 {H : Hp} {k : IntKind} {id o n tot : Nat} {i : Int} : vindexAddr Try.prog H 55 (.one (.sl id o n tot)) (vI k i) = if 0 ≤ i then (if i.toNat < n then (if elAt H id tot (o + i.toNat) = some 1 then qa (.one (.ptr ⟨id, o + i.toNat, 0, tot⟩)) else none) else none) else none := ia_sl es55 sz58
@[simp] theorem lna58 {H : Hp} {ty : TypeId} {l : List (List CV)} : vlen Try.prog H #[58] ty (.one (.c (.arr l))) = qa (vI .i64 l.length) := len_arr es58
@[simp] theorem lnl58 {H : Hp} {ty : TypeId} {id o n tot : Nat} : vlen Try.prog H #[58] ty (.one (.sl id o n tot)) = if lenIs H id tot = true then qa (vI .i64 n) else none := len_sl es58
@[simp] theorem iaa58 {H : Hp} {k : IntKind} {l : List (List CV)} {i : Int} : vindexAddr Try.prog H 58 (.one (.c (.arr l))) (vI k i) = if 0 ≤ i then (match l[i.toNat]? with | some x => if x.length = 1 then qa (.one (.c (.cptr x))) else none | none => none) else none := ia_arr es58 sz9
@[simp] theorem ial58 {H : Hp} {k : IntKind} {id o n tot : Nat} {i : Int} : vindexAddr Try.prog H 58 (.one (.sl id o n tot)) (vI k i) = if 0 ≤ i then (if i.toNat < n then (if elAt H id tot (o + i.toNat) = some 1 then qa (.one (.ptr ⟨id, o + i.toNat, 0, tot⟩)) else none) else none) else none := ia_sl es58 sz9
@[simp] theorem lna64 {H : Hp} {ty : TypeId} {l : List (List CV)} : vlen Try.prog H #[64] ty (.one (.c (.arr l))) = qa (vI .i64 l.length) := len_arr es64
@[simp] theorem lnl64 {H : Hp} {ty : TypeId} {id o n tot : Nat} : vlen Try.prog H #[64] ty (.one (.sl id o n tot)) = if lenIs H id tot = true then qa (vI .i64 n) else none := len_sl es64
@[simp] theorem iaa64 {H : Hp} {k : IntKind} {l : List (List CV)} {i : Int} : vindexAddr Try.prog H 64 (.one (.c (.arr l))) (vI k i) = if 0 ≤ i then (match l[i.toNat]? with | some x => if x.length = 1 then qa (.one (.c (.cptr x))) else none | none => none) else none := ia_arr es64 sz85
@[simp] theorem ial64 {H : Hp} {k : IntKind} {id o n tot : Nat} {i : Int} : vindexAddr Try.prog H 64 (.one (.sl id o n tot)) (vI k i) = if 0 ≤ i then (if i.toNat < n then (if elAt H id tot (o + i.toNat) = some 1 then qa (.one (.ptr ⟨id, o + i.toNat, 0, tot⟩)) else none) else none) else none := ia_sl es64 sz85
@[simp] theorem lna70 {H : Hp} {ty : TypeId} {l : List (List CV)} : vlen Try.prog H #[70] ty (.one (.c (.arr l))) = qa (vI .i64 l.length) := len_arr es70
@[simp] theorem lnl70 {H : Hp} {ty : TypeId} {id o n tot : Nat} : vlen Try.prog H #[70] ty (.one (.sl id o n tot)) = if lenIs H id tot = true then qa (vI .i64 n) else none := len_sl es70
@[simp] theorem iaa70 {H : Hp} {k : IntKind} {l : List (List CV)} {i : Int} : vindexAddr Try.prog H 70 (.one (.c (.arr l))) (vI k i) = if 0 ≤ i then (match l[i.toNat]? with | some x => if x.length = 4 then qa (.one (.c (.cptr x))) else none | none => none) else none := ia_arr es70 sz73
@[simp] theorem ial70 {H : Hp} {k : IntKind} {id o n tot : Nat} {i : Int} : vindexAddr Try.prog H 70 (.one (.sl id o n tot)) (vI k i) = if 0 ≤ i then (if i.toNat < n then (if elAt H id tot (o + i.toNat) = some 4 then qa (.one (.ptr ⟨id, o + i.toNat, 0, tot⟩)) else none) else none) else none := ia_sl es70 sz73
@[simp] theorem lna85 {H : Hp} {ty : TypeId} {l : List (List CV)} : vlen Try.prog H #[85] ty (.one (.c (.arr l))) = qa (vI .i64 l.length) := len_arr es85
@[simp] theorem lnl85 {H : Hp} {ty : TypeId} {id o n tot : Nat} : vlen Try.prog H #[85] ty (.one (.sl id o n tot)) = if lenIs H id tot = true then qa (vI .i64 n) else none := len_sl es85
@[simp] theorem iaa85 {H : Hp} {k : IntKind} {l : List (List CV)} {i : Int} : vindexAddr Try.prog H 85 (.one (.c (.arr l))) (vI k i) = if 0 ≤ i then (match l[i.toNat]? with | some x => if x.length = 4 then qa (.one (.c (.cptr x))) else none | none => none) else none := ia_arr es85 sz86
@[simp] theorem ial85 {H : Hp} {k : IntKind} {id o n tot : Nat} {i : Int} : vindexAddr Try.prog H 85 (.one (.sl id o n tot)) (vI k i) = if 0 ≤ i then (if i.toNat < n then (if elAt H id tot (o + i.toNat) = some 4 then qa (.one (.ptr ⟨id, o + i.toNat, 0, tot⟩)) else none) else none) else none := ia_sl es85 sz86
@[simp] theorem lna105 {H : Hp} {ty : TypeId} {l : List (List CV)} : vlen Try.prog H #[105] ty (.one (.c (.arr l))) = qa (vI .i64 l.length) := len_arr es105
@[simp] theorem lnl105 {H : Hp} {ty : TypeId} {id o n tot : Nat} : vlen Try.prog H #[105] ty (.one (.sl id o n tot)) = if lenIs H id tot = true then qa (vI .i64 n) else none := len_sl es105
@[simp] theorem iaa105 {H : Hp} {k : IntKind} {l : List (List CV)} {i : Int} : vindexAddr Try.prog H 105 (.one (.c (.arr l))) (vI k i) = if 0 ≤ i then (match l[i.toNat]? with | some x => if x.length = 1 then qa (.one (.c (.cptr x))) else none | none => none) else none := ia_arr es105 sz3
@[simp] theorem ial105 {H : Hp} {k : IntKind} {id o n tot : Nat} {i : Int} : vindexAddr Try.prog H 105 (.one (.sl id o n tot)) (vI k i) = if 0 ≤ i then (if i.toNat < n then (if elAt H id tot (o + i.toNat) = some 1 then qa (.one (.ptr ⟨id, o + i.toNat, 0, tot⟩)) else none) else none) else none := ia_sl es105 sz3
@[simp] theorem lna110 {H : Hp} {ty : TypeId} {l : List (List CV)} : vlen Try.prog H #[110] ty (.one (.c (.arr l))) = qa (vI .i64 l.length) := len_arr es110
@[simp] theorem lnl110 {H : Hp} {ty : TypeId} {id o n tot : Nat} : vlen Try.prog H #[110] ty (.one (.sl id o n tot)) = if lenIs H id tot = true then qa (vI .i64 n) else none := len_sl es110
@[simp] theorem iaa110 {H : Hp} {k : IntKind} {l : List (List CV)} {i : Int} : vindexAddr Try.prog H 110 (.one (.c (.arr l))) (vI k i) = if 0 ≤ i then (match l[i.toNat]? with | some x => if x.length = 1 then qa (.one (.c (.cptr x))) else none | none => none) else none := ia_arr es110 sz5
@[simp] theorem ial110 {H : Hp} {k : IntKind} {id o n tot : Nat} {i : Int} : vindexAddr Try.prog H 110 (.one (.sl id o n tot)) (vI k i) = if 0 ≤ i then (if i.toNat < n then (if elAt H id tot (o + i.toNat) = some 1 then qa (.one (.ptr ⟨id, o + i.toNat, 0, tot⟩)) else none) else none) else none := ia_sl es110 sz5
@[simp] theorem lna111 {H : Hp} {ty : TypeId} {l : List (List CV)} : vlen Try.prog H #[111] ty (.one (.c (.arr l))) = qa (vI .i64 l.length) := len_arr es111
@[simp] theorem lnl111 {H : Hp} {ty : TypeId} {id o n tot : Nat} : vlen Try.prog H #[111] ty (.one (.sl id o n tot)) = if lenIs H id tot = true then qa (vI .i64 n) else none := len_sl es111
@[simp] theorem iaa111 {H : Hp} {k : IntKind} {l : List (List CV)} {i : Int} : vindexAddr Try.prog H 111 (.one (.c (.arr l))) (vI k i) = if 0 ≤ i then (match l[i.toNat]? with | some x => if x.length = 1 then qa (.one (.c (.cptr x))) else none | none => none) else none := ia_arr es111 sz112
@[simp] theorem ial111 {H : Hp} {k : IntKind} {id o n tot : Nat} {i : Int} : vindexAddr Try.prog H 111 (.one (.sl id o n tot)) (vI k i) = if 0 ≤ i then (if i.toNat < n then (if elAt H id tot (o + i.toNat) = some 1 then qa (.one (.ptr ⟨id, o + i.toNat, 0, tot⟩)) else none) else none) else none := ia_sl es111 sz112
@[simp] theorem lna112 {H : Hp} {ty : TypeId} {l : List (List CV)} : vlen Try.prog H #[112] ty (.one (.c (.arr l))) = qa (vI .i64 l.length) := len_arr es112
@[simp] theorem lnl112 {H : Hp} {ty : TypeId} {id o n tot : Nat} : vlen Try.prog H #[112] ty (.one (.sl id o n tot)) = if lenIs H id tot = true then qa (vI .i64 n) else none := len_sl es112
@[simp] theorem iaa112 {H : Hp} {k : IntKind} {l : List (List CV)} {i : Int} : vindexAddr Try.prog H 112 (.one (.c (.arr l))) (vI k i) = if 0 ≤ i then (match l[i.toNat]? with | some x => if x.length = 1 then qa (.one (.c (.cptr x))) else none | none => none) else none := ia_arr es112 sz22
@[simp] theorem ial112 {H : Hp} {k : IntKind} {id o n tot : Nat} {i : Int} : vindexAddr Try.prog H 112 (.one (.sl id o n tot)) (vI k i) = if 0 ≤ i then (if i.toNat < n then (if elAt H id tot (o + i.toNat) = some 1 then qa (.one (.ptr ⟨id, o + i.toNat, 0, tot⟩)) else none) else none) else none := ia_sl es112 sz22
theorem mixed : Try.prog.follows .mixedOrders = true := by kernel_rfl
theorem ok3 : FnOk Try.prog 3 := ⟨Try.f3, Try.func3, by kernel_rfl, by kernel_rfl⟩ -- rillmeter/rillmeterlaw17.JointTrue
theorem ok4 : FnOk Try.prog 4 := ⟨Try.f4, Try.func4, by kernel_rfl, by kernel_rfl⟩ -- rillmeter/rillmeterlaw17.JointAlone
theorem ok5 : FnOk Try.prog 5 := ⟨Try.f5, Try.func5, by kernel_rfl, by kernel_rfl⟩ -- rillmeter/radar.New
theorem ok6 : FnOk Try.prog 6 := ⟨Try.f6, Try.func6, by kernel_rfl, by kernel_rfl⟩ -- rillmeter/rillmeterlaw17.awake
theorem ok7 : FnOk Try.prog 7 := ⟨Try.f7, Try.func7, by kernel_rfl, by kernel_rfl⟩ -- rillmeter/radar.Add
theorem ok8 : FnOk Try.prog 8 := ⟨Try.f8, Try.func8, by kernel_rfl, by kernel_rfl⟩ -- rillmeter/rillmeterlaw17.faithful
theorem ok9 : FnOk Try.prog 9 := ⟨Try.f9, Try.func9, by kernel_rfl, by kernel_rfl⟩ -- rillmeter/joint.Reports
theorem ok10 : FnOk Try.prog 10 := ⟨Try.f10, Try.func10, by kernel_rfl, by kernel_rfl⟩ -- rillmeter/rillmeterlaw17.plain
theorem ok11 : FnOk Try.prog 11 := ⟨Try.f11, Try.func11, by kernel_rfl, by kernel_rfl⟩ -- rillmeter/rillmeterlaw17.ref
theorem ok12 : FnOk Try.prog 12 := ⟨Try.f12, Try.func12, by kernel_rfl, by kernel_rfl⟩ -- rillmeter/radar.Right
theorem ok13 : FnOk Try.prog 13 := ⟨Try.f13, Try.func13, by kernel_rfl, by kernel_rfl⟩ -- rillmeter/joint.Decode
theorem ok14 : FnOk Try.prog 14 := ⟨Try.f14, Try.func14, by kernel_rfl, by kernel_rfl⟩ -- rillmeter/radar.Peel
theorem ok15 : FnOk Try.prog 15 := ⟨Try.f15, Try.func15, by kernel_rfl, by kernel_rfl⟩ -- rillmeter/rillmeterref16.Same
theorem ok16 : FnOk Try.prog 16 := ⟨Try.f16, Try.func16, by kernel_rfl, by kernel_rfl⟩ -- rillmeter/rillmeterref16.Equal
theorem ok17 : FnOk Try.prog 17 := ⟨Try.f17, Try.func17, by kernel_rfl, by kernel_rfl⟩ -- rillmeter/bloom.New
theorem ok18 : FnOk Try.prog 18 := ⟨Try.f18, Try.func18, by kernel_rfl, by kernel_rfl⟩ -- rillmeter/hash.Row
theorem ok19 : FnOk Try.prog 19 := ⟨Try.f19, Try.func19, by kernel_rfl, by kernel_rfl⟩ -- slices.Repeat[[]rillmeter/radar.Cell,rillmeter/radar.Cell]
theorem ok20 : FnOk Try.prog 20 := ⟨Try.f20, Try.func20, by kernel_rfl, by kernel_rfl⟩ -- rillmeter/radar.fits
theorem ok21 : FnOk Try.prog 21 := ⟨Try.f21, Try.func21, by kernel_rfl, by kernel_rfl⟩ -- rillmeter/bloom.Has
theorem ok22 : FnOk Try.prog 22 := ⟨Try.f22, Try.func22, by kernel_rfl, by kernel_rfl⟩ -- rillmeter/radar.clone
theorem ok23 : FnOk Try.prog 23 := ⟨Try.f23, Try.func23, by kernel_rfl, by kernel_rfl⟩ -- rillmeter/bloom.Add
theorem ok24 : FnOk Try.prog 24 := ⟨Try.f24, Try.func24, by kernel_rfl, by kernel_rfl⟩ -- (rillmeter/radar.Radar).place
theorem ok25 : FnOk Try.prog 25 := ⟨Try.f25, Try.func25, by kernel_rfl, by kernel_rfl⟩ -- rillmeter/radar.xor
theorem ok26 : FnOk Try.prog 26 := ⟨Try.f26, Try.func26, by kernel_rfl, by kernel_rfl⟩ -- rillmeter/radar.wrong
theorem ok27 : FnOk Try.prog 27 := ⟨Try.f27, Try.func27, by kernel_rfl, by kernel_rfl⟩ -- rillmeter/joint.Counts
theorem ok28 : FnOk Try.prog 28 := ⟨Try.f28, Try.func28, by kernel_rfl, by kernel_rfl⟩ -- rillmeter/radar.Empty
theorem ok29 : FnOk Try.prog 29 := ⟨Try.f29, Try.func29, by kernel_rfl, by kernel_rfl⟩ -- rillmeter/rillmeterref16.In
theorem ok30 : FnOk Try.prog 30 := ⟨Try.f30, Try.func30, by kernel_rfl, by kernel_rfl⟩ -- rillmeter/rillmeterref16.Put
theorem ok31 : FnOk Try.prog 31 := ⟨Try.f31, Try.func31, by kernel_rfl, by kernel_rfl⟩ -- rillmeter/rillmeterref16.Small
theorem ok32 : FnOk Try.prog 32 := ⟨Try.f32, Try.func32, by kernel_rfl, by kernel_rfl⟩ -- rillmeter/bloom.Right
theorem ok33 : FnOk Try.prog 33 := ⟨Try.f33, Try.func33, by kernel_rfl, by kernel_rfl⟩ -- slices.ContainsFunc[[][]rillmeter/radar.Cell,[]rillmeter/radar.Cell]
theorem ok34 : FnOk Try.prog 34 := ⟨Try.f34, Try.func34, by kernel_rfl, by kernel_rfl⟩ -- rillmeter/radar.Right$1
theorem ok35 : FnOk Try.prog 35 := ⟨Try.f35, Try.func35, by kernel_rfl, by kernel_rfl⟩ -- slices.ContainsFunc[[]rillmeter/radar.Cell,rillmeter/radar.Cell]
theorem ok36 : FnOk Try.prog 36 := ⟨Try.f36, Try.func36, by kernel_rfl, by kernel_rfl⟩ -- slices.ContainsFunc[[]rillmeter/radar.Radar,rillmeter/radar.Radar]
theorem ok37 : FnOk Try.prog 37 := ⟨Try.f37, Try.func37, by kernel_rfl, by kernel_rfl⟩ -- rillmeter/joint.wrong
theorem ok38 : FnOk Try.prog 38 := ⟨Try.f38, Try.func38, by kernel_rfl, by kernel_rfl⟩ -- slices.Clone[[]rillmeter/radar.Radar,rillmeter/radar.Radar]
theorem ok39 : FnOk Try.prog 39 := ⟨Try.f39, Try.func39, by kernel_rfl, by kernel_rfl⟩ -- rillmeter/joint.round
theorem ok40 : FnOk Try.prog 40 := ⟨Try.f40, Try.func40, by kernel_rfl, by kernel_rfl⟩ -- slices.Sort[[]string,string]
theorem ok41 : FnOk Try.prog 41 := ⟨Try.f41, Try.func41, by kernel_rfl, by kernel_rfl⟩ -- rillmeter/radar.Pure
theorem ok42 : FnOk Try.prog 42 := ⟨Try.f42, Try.func42, by kernel_rfl, by kernel_rfl⟩ -- rillmeter/radar.Remove
theorem ok43 : FnOk Try.prog 43 := ⟨Try.f43, Try.func43, by kernel_rfl, by kernel_rfl⟩ -- rillmeter/rillmeterref10.Equal
theorem ok44 : FnOk Try.prog 44 := ⟨Try.f44, Try.func44, by kernel_rfl, by kernel_rfl⟩ -- rillmeter/field.Add
theorem ok45 : FnOk Try.prog 45 := ⟨Try.f45, Try.func45, by kernel_rfl, by kernel_rfl⟩ -- rillmeter/field.Mul
theorem ok46 : FnOk Try.prog 46 := ⟨Try.f46, Try.func46, by kernel_rfl, by kernel_rfl⟩ -- math/bits.Mul
theorem ok47 : FnOk Try.prog 47 := ⟨Try.f47, Try.func47, by kernel_rfl, by kernel_rfl⟩ -- slices.ContainsFunc[[]int,int]
theorem ok48 : FnOk Try.prog 48 := ⟨Try.f48, Try.func48, by kernel_rfl, by kernel_rfl⟩ -- rillmeter/bloom.Places
theorem ok49 : FnOk Try.prog 49 := ⟨Try.f49, Try.func49, by kernel_rfl, by kernel_rfl⟩ -- rillmeter/bloom.Has$1
theorem ok50 : FnOk Try.prog 50 := ⟨Try.f50, Try.func50, by kernel_rfl, by kernel_rfl⟩ -- slices.Clone[[]rillmeter/radar.Cell,rillmeter/radar.Cell]
theorem ok51 : FnOk Try.prog 51 := ⟨Try.f51, Try.func51, by kernel_rfl, by kernel_rfl⟩ -- slices.Clone[[]bool,bool]
theorem ok52 : FnOk Try.prog 52 := ⟨Try.f52, Try.func52, by kernel_rfl, by kernel_rfl⟩ -- rillmeter/hash.Cell
theorem ok53 : FnOk Try.prog 53 := ⟨Try.f53, Try.func53, by kernel_rfl, by kernel_rfl⟩ -- rillmeter/radar.Place
theorem ok54 : FnOk Try.prog 54 := ⟨Try.f54, Try.func54, by kernel_rfl, by kernel_rfl⟩ -- rillmeter/solve.Solve
theorem ok55 : FnOk Try.prog 55 := ⟨Try.f55, Try.func55, by kernel_rfl, by kernel_rfl⟩ -- rillmeter/radar.Empty$1
theorem ok56 : FnOk Try.prog 56 := ⟨Try.f56, Try.func56, by kernel_rfl, by kernel_rfl⟩ -- rillmeter/radar.Empty$1$1
theorem ok57 : FnOk Try.prog 57 := ⟨Try.f57, Try.func57, by kernel_rfl, by kernel_rfl⟩ -- slices.IndexFunc[[][]rillmeter/radar.Cell,[]rillmeter/radar.Cell]
theorem ok58 : FnOk Try.prog 58 := ⟨Try.f58, Try.func58, by kernel_rfl, by kernel_rfl⟩ -- slices.IndexFunc[[]rillmeter/radar.Cell,rillmeter/radar.Cell]
theorem ok59 : FnOk Try.prog 59 := ⟨Try.f59, Try.func59, by kernel_rfl, by kernel_rfl⟩ -- slices.IndexFunc[[]rillmeter/radar.Radar,rillmeter/radar.Radar]
theorem ok60 : FnOk Try.prog 60 := ⟨Try.f60, Try.func60, by kernel_rfl, by kernel_rfl⟩ -- slices.Contains[[]string,string]
theorem ok61 : FnOk Try.prog 61 := ⟨Try.f61, Try.func61, by kernel_rfl, by kernel_rfl⟩ -- slices.pdqsortOrdered[string]
theorem ok62 : FnOk Try.prog 62 := ⟨Try.f62, Try.func62, by kernel_rfl, by kernel_rfl⟩ -- math/bits.Len
theorem ok63 : FnOk Try.prog 63 := ⟨Try.f63, Try.func63, by kernel_rfl, by kernel_rfl⟩ -- rillmeter/field.Of
theorem ok64 : FnOk Try.prog 64 := ⟨Try.f64, Try.func64, by kernel_rfl, by kernel_rfl⟩ -- math/bits.Mul64
theorem ok65 : FnOk Try.prog 65 := ⟨Try.f65, Try.func65, by kernel_rfl, by kernel_rfl⟩ -- math/bits.Mul32
theorem ok66 : FnOk Try.prog 66 := ⟨Try.f66, Try.func66, by kernel_rfl, by kernel_rfl⟩ -- slices.IndexFunc[[]int,int]
theorem ok67 : FnOk Try.prog 67 := ⟨Try.f67, Try.func67, by kernel_rfl, by kernel_rfl⟩ -- rillmeter/hash.Sum
theorem ok68 : FnOk Try.prog 68 := ⟨Try.f68, Try.func68, by kernel_rfl, by kernel_rfl⟩ -- rillmeter/solve.even
theorem ok69 : FnOk Try.prog 69 := ⟨Try.f69, Try.func69, by kernel_rfl, by kernel_rfl⟩ -- slices.Clone[[]uint64,uint64]
theorem ok70 : FnOk Try.prog 70 := ⟨Try.f70, Try.func70, by kernel_rfl, by kernel_rfl⟩ -- rillmeter/solve.clear
theorem ok71 : FnOk Try.prog 71 := ⟨Try.f71, Try.func71, by kernel_rfl, by kernel_rfl⟩ -- slices.Index[[]string,string]
theorem ok72 : FnOk Try.prog 72 := ⟨Try.f72, Try.func72, by kernel_rfl, by kernel_rfl⟩ -- slices.insertionSortOrdered[string]
theorem ok73 : FnOk Try.prog 73 := ⟨Try.f73, Try.func73, by kernel_rfl, by kernel_rfl⟩ -- slices.heapSortOrdered[string]
theorem ok74 : FnOk Try.prog 74 := ⟨Try.f74, Try.func74, by kernel_rfl, by kernel_rfl⟩ -- slices.breakPatternsOrdered[string]
theorem ok75 : FnOk Try.prog 75 := ⟨Try.f75, Try.func75, by kernel_rfl, by kernel_rfl⟩ -- slices.choosePivotOrdered[string]
theorem ok76 : FnOk Try.prog 76 := ⟨Try.f76, Try.func76, by kernel_rfl, by kernel_rfl⟩ -- slices.reverseRangeOrdered[string]
theorem ok77 : FnOk Try.prog 77 := ⟨Try.f77, Try.func77, by kernel_rfl, by kernel_rfl⟩ -- slices.partialInsertionSortOrdered[string]
theorem ok78 : FnOk Try.prog 78 := ⟨Try.f78, Try.func78, by kernel_rfl, by kernel_rfl⟩ -- cmp.Less[string]
theorem ok79 : FnOk Try.prog 79 := ⟨Try.f79, Try.func79, by kernel_rfl, by kernel_rfl⟩ -- slices.partitionEqualOrdered[string]
theorem ok80 : FnOk Try.prog 80 := ⟨Try.f80, Try.func80, by kernel_rfl, by kernel_rfl⟩ -- slices.partitionOrdered[string]
theorem ok81 : FnOk Try.prog 81 := ⟨Try.f81, Try.func81, by kernel_rfl, by kernel_rfl⟩ -- math/bits.Len32
theorem ok82 : FnOk Try.prog 82 := ⟨Try.f82, Try.func82, by kernel_rfl, by kernel_rfl⟩ -- math/bits.Len64
theorem ok83 : FnOk Try.prog 83 := ⟨Try.f83, Try.func83, by kernel_rfl, by kernel_rfl⟩ -- rillmeter/field.Pow
theorem ok84 : FnOk Try.prog 84 := ⟨Try.f84, Try.func84, by kernel_rfl, by kernel_rfl⟩ -- slices.ContainsFunc[[][]uint64,[]uint64]
theorem ok85 : FnOk Try.prog 85 := ⟨Try.f85, Try.func85, by kernel_rfl, by kernel_rfl⟩ -- rillmeter/solve.even$1
theorem ok86 : FnOk Try.prog 86 := ⟨Try.f86, Try.func86, by kernel_rfl, by kernel_rfl⟩ -- rillmeter/field.Inv
theorem ok87 : FnOk Try.prog 87 := ⟨Try.f87, Try.func87, by kernel_rfl, by kernel_rfl⟩ -- rillmeter/field.Sub
theorem ok88 : FnOk Try.prog 88 := ⟨Try.f88, Try.func88, by kernel_rfl, by kernel_rfl⟩ -- slices.siftDownOrdered[string]
theorem ok89 : FnOk Try.prog 89 := ⟨Try.f89, Try.func89, by kernel_rfl, by kernel_rfl⟩ -- slices.nextPowerOfTwo
theorem ok90 : FnOk Try.prog 90 := ⟨Try.f90, Try.func90, by kernel_rfl, by kernel_rfl⟩ -- (*slices.xorshift).Next
theorem ok91 : FnOk Try.prog 91 := ⟨Try.f91, Try.func91, by kernel_rfl, by kernel_rfl⟩ -- slices.medianAdjacentOrdered[string]
theorem ok92 : FnOk Try.prog 92 := ⟨Try.f92, Try.func92, by kernel_rfl, by kernel_rfl⟩ -- slices.medianOrdered[string]
theorem ok93 : FnOk Try.prog 93 := ⟨Try.f93, Try.func93, by kernel_rfl, by kernel_rfl⟩ -- cmp.isNaN[string]
theorem ok94 : FnOk Try.prog 94 := ⟨Try.f94, Try.func94, by kernel_rfl, by kernel_rfl⟩ -- slices.IndexFunc[[][]uint64,[]uint64]
theorem ok95 : FnOk Try.prog 95 := ⟨Try.f95, Try.func95, by kernel_rfl, by kernel_rfl⟩ -- slices.order2Ordered[string]
end Go.Proofs.YtmgnmnogiajlgaaF
end

section
/- Sorting in place, from the shelf's contract. -/
namespace Go.Proofs.Vm
open Go

variable {P : Program}

def SortsInt (P : Program) (g : FuncId) : Prop := ∀ (blk off cap : Nat) (zs : List Int) (w : World), Sort.Holds (Value.int .i64) w blk off zs.toArray → blk < w.heap.size → zs.length < 4611686018427387904 →
  Calls P g #[.slice (some ⟨blk, off, none⟩) zs.length cap] w fun e w' => e = .returned (.tuple #[]) ∧ ∃ n os, w' = Sort.grow (Sort.putRow (Value.int .i64) (Sort.ahead w n) blk off (zs.mergeSort fun x y => decide (x ≤ y)).toArray) os
def SortsNone (P : Program) (g : FuncId) : Prop := ∀ (p : Option Addr) (cap : Nat) (w : World), Calls P g #[.slice p 0 cap] w fun e w' => e = .returned (.tuple #[]) ∧ w' = w

theorem mapO_int_inv : ∀ {l : List (List CV)} {xs : List Int}, mapO intOf l = some xs → l = xs.map cInt
  | [], xs, h => by cases h; rfl
  | e :: l, xs, h => by
    simp only [mapO] at h
    split at h
    · rename_i y m h1 h2
      cases h
      rw [List.map_cons, mapO_int_inv h2]
      congr 1
      unfold intOf at h1
      split at h1
      · cases h1; rfl
      · cases h1
    · cases h

theorem sortTab_ok {g : FuncId} (hnc : isCl P g = false) (hf : FnOk P g) (h1 : SortsInt P g) (h2 : SortsNone P g) : TOk P (sortTab g) := by
  refine ⟨fun f args r h => (by cases h), fun f args H r H' h => ?_⟩
  simp only [sortTab] at h
  split at h
  case isFalse => cases h
  rename_i hfg
  subst hfg
  unfold sortRun at h
  split at h
  case h_2 => cases h
  rename_i id n tot
  split at h
  case h_2 => cases h
  rename_i l hl
  split at h
  case h_2 => cases h
  rename_i xs hxs
  split at h
  case isFalse => cases h
  rename_i hc
  obtain ⟨rfl, hlt, hsz⟩ := hc
  cases h
  have hlx := mapO_int_inv hxs
  have hxl : xs.length = n := by rw [← hlt, hlx, List.length_map]
  refine ⟨⟨by simp, fun h => by rw [hnc] at h; cases h⟩, hf, ?_⟩
  intro X S M hX hD vals hv
  subst hX
  have hv1 : vals.length = 1 := by rw [← hv.1]; rfl
  match vals, hv1 with
  | [v], _ =>
  have hr : RCell X (.sl id 0 n n) v := hv.2 0 _ v rfl rfl
  obtain ⟨_, hd, e0, he0, _, _, hp⟩ := hr
  rw [hl] at he0
  cases he0
  obtain ⟨ad, cap, rfl, hcap, hne, _⟩ := hp hlt
  have hent := S.ent _ _ hd hl
  have hlen' : (xs.mergeSort fun x y => decide (x ≤ y)).length = xs.length := List.length_mergeSort _
  have hylen : ((xs.mergeSort fun x y => decide (x ≤ y)).map cInt).length = l.length := by rw [List.length_map, hlen', hlx, List.length_map]
  by_cases h0 : n = 0
  · subst h0
    have hxe : xs = [] := List.length_eq_zero_iff.1 hxl
    subst hxe
    refine (h2 ad cap X.w).mono fun e w' hh => ?_
    obtain ⟨rfl, rfl⟩ := hh
    refine ⟨_, X, rfl, rfl, .refl S M, ?_, fun id => by rw [hD]; simp, ⟨[], rfl, rfl, fun j p y hp => by simp at hp⟩⟩
    rw [List.mergeSort_nil]
    simp only [List.map_nil] at hlx ⊢
    rw [hlx] at hl
    exact (set_same hl).symm
  · obtain ⟨b, hb, rfl⟩ := hne h0
    rcases hent.2 with ⟨h3, _⟩ | ⟨b', c, ty, fr, g1, g2, g3, g4, g5, g6, g7, g8, g9, g10⟩
    · exact absurd (hlt.symm.trans h3) h0
    rw [hb] at g1
    cases g1
    have hsz1 : (X.σ id).sz = 1 := by
      cases l with
      | nil => exact absurd hlt.symm h0
      | cons e l =>
        have := hent.1 e List.mem_cons_self
        cases xs with
        | nil => simp at hlx
        | cons x xs =>
          rw [List.map_cons] at hlx
          cases hlx
          exact this.symm
    rw [hsz1] at g5 g10
    have hblk := S.blk M id b hd hb
    have hcell : ∀ j, ∀ hj : j < xs.length, c[j]? = some (.int .i64 xs[j]) := by
      intro j hj
      obtain ⟨v, h3, e, x, h4, h5, h6⟩ := g10 j 0 (by omega) (by omega)
      rw [hlx, List.getElem?_map, List.getElem?_eq_getElem hj] at h4
      cases h4
      cases h5
      cases h6
      rw [← h3, Nat.mul_one, Nat.add_zero]
    have hH : Sort.Holds (Value.int .i64) X.w b 0 xs.toArray := by
      intro j hj
      have hj : j < xs.length := by simpa using hj
      refine ⟨?_, g4 _ ?_⟩
      · unfold World.cell?
        simp only [g3]
        rw [if_neg (by simp), Nat.zero_add, hcell j hj]
        simp [hj]
      · have := (Array.getElem?_eq_some_iff.1 (hcell j hj)).1
        omega
    rw [Nat.zero_mul, ← hxl]
    refine (h1 b 0 cap xs X.w hH hblk.1 (by omega)).mono fun e w' hh => ?_
    obtain ⟨rfl, m, os, rfl⟩ := hh
    generalize hys : (xs.mergeSort fun x y => decide (x ≤ y)) = ys at hlen' hylen
    let w' := Sort.grow (Sort.putRow (Value.int .i64) (Sort.ahead X.w m) b 0 ys.toArray) os
    have hms : (X.w.heap.modify b (Sort.onCells (Sort.putCells (Value.int .i64) 0 ys.toArray))).size = X.w.heap.size := by simp
    have hheap : ∀ k, k < X.w.heap.size → w'.heap[k]? = (X.w.heap.modify b (Sort.onCells (Sort.putCells (Value.int .i64) 0 ys.toArray)))[k]? := by
      intro k hk
      show (X.w.heap.modify b _ ++ os)[k]? = _
      rw [Array.getElem?_append_left (by simpa using hk)]
    have hself : w'.heap[b]? = some (.cells (Sort.putCells (Value.int .i64) 0 ys.toArray c) ty fr) := by
      rw [hheap b hblk.1, Array.getElem?_modify, if_pos rfl, g3]
      rfl
    have hoth : ∀ k, k < X.w.heap.size → k ≠ b → w'.heap[k]? = X.w.heap[k]? := by
      intro k hk hkb
      rw [hheap k hk, Array.getElem?_modify, if_neg (fun e => hkb e.symm)]
    let Y : Cx := { X with H := X.H.set id (.clo (ys.map cInt) false), w := w' }
    have W : Wrote X Y id := ⟨rfl, rfl, fun _ => Iff.rfl, fun _ _ _ => rfl, rfl, fun i hi => set_get hi, by
      show X.w.heap.size ≤ (X.w.heap.modify b _ ++ os).size
      rw [Array.size_append, hms]
      exact Nat.le_add_right _ _, fun k hk hkb => hoth k hk (hkb b hb), ⟨_, _, hl, set_self hl, by simp only [Ent.len]; omega, fun _ => rfl, fun l h => by cases h⟩, hd, ⟨⟨rfl, rfl⟩, rfl, Nat.le_add_right _ _⟩, fun k hk => by rw [hb] at hk; cases hk; exact g9 rfl⟩
    have SY : SR Y := W.sr S M (fun e h => by
      have : Y.H[id]? = some (.clo (ys.map cInt) false) := set_self hl
      rw [this] at h
      cases h
      refine ⟨fun e he => ?_, .inr ⟨b, _, ty, fr, hb, g2, hself, fun o ho => ?_, ?_, by rw [hylen]; exact g6, g7, (fun h => by cases h), g9, fun i j hi hj => ?_⟩⟩
      · obtain ⟨y, _, rfl⟩ := List.mem_map.1 he
        show 1 = (X.σ id).sz
        rw [hsz1]
      · have := g4 o (by simpa [Sort.putCells] using ho)
        unfold World.frozen? at this ⊢
        rw [g3] at this
        rw [hself]
        exact this
      · show (Sort.putCells (Value.int .i64) 0 ys.toArray c).size = (X.σ id).cap * (X.σ id).sz
        rw [hsz1, ← g5]
        simp [Sort.putCells]
      · have hj : j < (X.σ id).sz := hj
        rw [hsz1] at hj
        have hi' : i < ys.length := by simpa using hi
        have hic : i < c.size := by rw [g5]; have := g6.2; rw [hylen] at hi; omega
        refine ⟨.int .i64 ys[i], ?_, cInt ys[i], .v (.int .i64 ys[i]), by rw [List.getElem?_map, List.getElem?_eq_getElem hi']; rfl, by rw [show j = 0 by omega]; rfl, .v _ rfl⟩
        show (Sort.putCells (Value.int .i64) 0 ys.toArray c)[i * (X.σ id).sz + j]? = _
        rw [hsz1, show i * 1 + j = i by omega, Sort.putCells, Array.getElem?_mapIdx, Array.getElem?_eq_getElem hic, Option.map_some, if_pos ⟨Nat.zero_le _, by simpa using hi'⟩]
        simp [hi']) (fun b' h => .inl h)
    exact ⟨_, Y, rfl, rfl, W.nxt S M SY, rfl, fun id => by rw [show Y.D = X.D from rfl, hD]; simp, ⟨[], rfl, rfl, fun j p y hp => by simp at hp⟩⟩

end Go.Proofs.Vm
end

section
/- Sorting strings in place, from the shelf's contract. -/
namespace Go.Proofs.Vm
open Go Go.Sort

variable {P : Program}

def ssort (l : List ByteArray) : List ByteArray := l.mergeSort fun x y => decide (x.data.toList ≤ y.data.toList)
def strOf1 : List CV → Option ByteArray
  | [.v (.string n)] => some n
  | _ => none
def cStr1 (n : ByteArray) : List CV := [.v (.string n)]
def sortSRun (args : List AV) (H : Hp) : Option (AV × Hp) :=
  match args with
  | [.one (.sl id 0 n tot)] => match H[id]? with
    | some (.clo l false) => match mapO strOf1 l with
      | some xs => if n = tot ∧ l.length = tot ∧ tot < 4611686018427387904 then some (und, H.set id (.clo ((ssort xs).map cStr1) false)) else none
      | none => none
    | _ => none
  | _ => none
def strTab (g : FuncId) : Tab := ⟨fun _ _ => none, fun f args H => if f = g then sortSRun args H else none, false⟩
theorem mapO_strOf1 : ∀ xs : List ByteArray, mapO strOf1 (xs.map cStr1) = some xs
  | [] => rfl
  | x :: xs => by
    rw [List.map_cons]
    simp only [mapO, mapO_strOf1 xs]
    rfl

def SortsStr (P : Program) (g : FuncId) : Prop := ∀ (blk off cap : Nat) (zs : List ByteArray) (w : World), Sort.Holds encStr w blk off (zs.map (·.data.toList)).toArray → blk < w.heap.size → zs.length < 4611686018427387904 →
  Calls P g #[.slice (some ⟨blk, off, none⟩) zs.length cap] w fun e w' => e = .returned (.tuple #[]) ∧ ∃ n os, w' = Sort.grow (Sort.putRow encStr (Sort.ahead w n) blk off ((ssort zs).map (·.data.toList)).toArray) os
def SortsSNone (P : Program) (g : FuncId) : Prop := ∀ (p : Option Addr) (cap : Nat) (w : World), Calls P g #[.slice p 0 cap] w fun e w' => e = .returned (.tuple #[]) ∧ w' = w

theorem mapO_str_inv : ∀ {l : List (List CV)} {xs : List ByteArray}, mapO strOf1 l = some xs → l = xs.map cStr1
  | [], xs, h => by cases h; rfl
  | e :: l, xs, h => by
    simp only [mapO] at h
    split at h
    · rename_i y m h1 h2
      cases h
      rw [List.map_cons, mapO_str_inv h2]
      congr 1
      unfold strOf1 at h1
      split at h1
      · cases h1; rfl
      · cases h1
    · cases h

theorem strTab_ok {g : FuncId} (hnc : isCl P g = false) (hf : FnOk P g) (h1 : SortsStr P g) (h2 : SortsSNone P g) : TOk P (strTab g) := by
  refine ⟨fun f args r h => (by cases h), fun f args H r H' h => ?_⟩
  simp only [strTab] at h
  split at h
  case isFalse => cases h
  rename_i hfg
  subst hfg
  unfold sortSRun at h
  split at h
  case h_2 => cases h
  rename_i id n tot
  split at h
  case h_2 => cases h
  rename_i l hl
  split at h
  case h_2 => cases h
  rename_i xs hxs
  split at h
  case isFalse => cases h
  rename_i hc
  obtain ⟨rfl, hlt, hsz⟩ := hc
  cases h
  have hlx := mapO_str_inv hxs
  have hxl : xs.length = n := by rw [← hlt, hlx, List.length_map]
  refine ⟨⟨by simp, fun h => by rw [hnc] at h; cases h⟩, hf, ?_⟩
  intro X S M hX hD vals hv
  subst hX
  have hv1 : vals.length = 1 := by rw [← hv.1]; rfl
  match vals, hv1 with
  | [v], _ =>
  have hr : RCell X (.sl id 0 n n) v := hv.2 0 _ v rfl rfl
  obtain ⟨_, hd, e0, he0, _, _, hp⟩ := hr
  rw [hl] at he0
  cases he0
  obtain ⟨ad, cap, rfl, hcap, hne, _⟩ := hp hlt
  have hent := S.ent _ _ hd hl
  have hlen' : (ssort xs).length = xs.length := List.length_mergeSort _
  have hylen : ((ssort xs).map cStr1).length = l.length := by rw [List.length_map, hlen', hlx, List.length_map]
  by_cases h0 : n = 0
  · subst h0
    have hxe : xs = [] := List.length_eq_zero_iff.1 hxl
    subst hxe
    refine (h2 ad cap X.w).mono fun e w' hh => ?_
    obtain ⟨rfl, rfl⟩ := hh
    refine ⟨_, X, rfl, rfl, .refl S M, ?_, fun id => by rw [hD]; simp, ⟨[], rfl, rfl, fun j p y hp => by simp at hp⟩⟩
    rw [ssort, List.mergeSort_nil]
    simp only [List.map_nil] at hlx ⊢
    rw [hlx] at hl
    exact (set_same hl).symm
  · obtain ⟨b, hb, rfl⟩ := hne h0
    rcases hent.2 with ⟨h3, _⟩ | ⟨b', c, ty, fr, g1, g2, g3, g4, g5, g6, g7, g8, g9, g10⟩
    · exact absurd (hlt.symm.trans h3) h0
    rw [hb] at g1
    cases g1
    have hsz1 : (X.σ id).sz = 1 := by
      cases l with
      | nil => exact absurd hlt.symm h0
      | cons e l =>
        have := hent.1 e List.mem_cons_self
        cases xs with
        | nil => simp at hlx
        | cons x xs =>
          rw [List.map_cons] at hlx
          cases hlx
          exact this.symm
    rw [hsz1] at g5 g10
    have hblk := S.blk M id b hd hb
    have hcell : ∀ j, ∀ hj : j < xs.length, c[j]? = some (.string xs[j]) := by
      intro j hj
      obtain ⟨v, h3, e, x, h4, h5, h6⟩ := g10 j 0 (by omega) (by omega)
      rw [hlx, List.getElem?_map, List.getElem?_eq_getElem hj] at h4
      cases h4
      cases h5
      cases h6
      rw [← h3, Nat.mul_one, Nat.add_zero]
    have hH : Sort.Holds encStr X.w b 0 (xs.map (·.data.toList)).toArray := by
      intro j hj
      have hj : j < xs.length := by simpa using hj
      refine ⟨?_, g4 _ ?_⟩
      · unfold World.cell?
        simp only [g3]
        rw [if_neg (by simp), Nat.zero_add, hcell j hj]
        simp [hj]
      · have := (Array.getElem?_eq_some_iff.1 (hcell j hj)).1
        omega
    rw [Nat.zero_mul, ← hxl]
    refine (h1 b 0 cap xs X.w hH hblk.1 (by omega)).mono fun e w' hh => ?_
    obtain ⟨rfl, m, os, rfl⟩ := hh
    generalize hys : ssort xs = ys at hlen' hylen
    let w' := Sort.grow (Sort.putRow encStr (Sort.ahead X.w m) b 0 (ys.map (·.data.toList)).toArray) os
    have hms : (X.w.heap.modify b (Sort.onCells (Sort.putCells encStr 0 (ys.map (·.data.toList)).toArray))).size = X.w.heap.size := by simp
    have hheap : ∀ k, k < X.w.heap.size → w'.heap[k]? = (X.w.heap.modify b (Sort.onCells (Sort.putCells encStr 0 (ys.map (·.data.toList)).toArray)))[k]? := by
      intro k hk
      show (X.w.heap.modify b _ ++ os)[k]? = _
      rw [Array.getElem?_append_left (by simpa using hk)]
    have hself : w'.heap[b]? = some (.cells (Sort.putCells encStr 0 (ys.map (·.data.toList)).toArray c) ty fr) := by
      rw [hheap b hblk.1, Array.getElem?_modify, if_pos rfl, g3]
      rfl
    have hoth : ∀ k, k < X.w.heap.size → k ≠ b → w'.heap[k]? = X.w.heap[k]? := by
      intro k hk hkb
      rw [hheap k hk, Array.getElem?_modify, if_neg (fun e => hkb e.symm)]
    let Y : Cx := { X with H := X.H.set id (.clo (ys.map cStr1) false), w := w' }
    have W : Wrote X Y id := ⟨rfl, rfl, fun _ => Iff.rfl, fun _ _ _ => rfl, rfl, fun i hi => set_get hi, by
      show X.w.heap.size ≤ (X.w.heap.modify b _ ++ os).size
      rw [Array.size_append, hms]
      exact Nat.le_add_right _ _, fun k hk hkb => hoth k hk (hkb b hb), ⟨_, _, hl, set_self hl, by simp only [Ent.len]; omega, fun _ => rfl, fun l h => by cases h⟩, hd, ⟨⟨rfl, rfl⟩, rfl, Nat.le_add_right _ _⟩, fun k hk => by rw [hb] at hk; cases hk; exact g9 rfl⟩
    have SY : SR Y := W.sr S M (fun e h => by
      have : Y.H[id]? = some (.clo (ys.map cStr1) false) := set_self hl
      rw [this] at h
      cases h
      refine ⟨fun e he => ?_, .inr ⟨b, _, ty, fr, hb, g2, hself, fun o ho => ?_, ?_, by rw [hylen]; exact g6, g7, (fun h => by cases h), g9, fun i j hi hj => ?_⟩⟩
      · obtain ⟨y, _, rfl⟩ := List.mem_map.1 he
        show 1 = (X.σ id).sz
        rw [hsz1]
      · have := g4 o (by simpa [Sort.putCells] using ho)
        unfold World.frozen? at this ⊢
        rw [g3] at this
        rw [hself]
        exact this
      · show (Sort.putCells encStr 0 (ys.map (·.data.toList)).toArray c).size = (X.σ id).cap * (X.σ id).sz
        rw [hsz1, ← g5]
        simp [Sort.putCells]
      · have hj : j < (X.σ id).sz := hj
        rw [hsz1] at hj
        have hi' : i < ys.length := by simpa using hi
        have hic : i < c.size := by rw [g5]; have := g6.2; rw [hylen] at hi; omega
        refine ⟨.string ys[i], ?_, cStr1 ys[i], .v (.string ys[i]), by rw [List.getElem?_map, List.getElem?_eq_getElem hi']; rfl, by rw [show j = 0 by omega]; rfl, .v _ rfl⟩
        show (Sort.putCells encStr 0 (ys.map (·.data.toList)).toArray c)[i * (X.σ id).sz + j]? = _
        rw [hsz1, show i * 1 + j = i by omega, Sort.putCells, Array.getElem?_mapIdx, Array.getElem?_eq_getElem hic, Option.map_some, if_pos ⟨Nat.zero_le _, by simpa using hi'⟩]
        simp [hi']) (fun b' h => .inl h)
    exact ⟨_, Y, rfl, rfl, W.nxt S M SY, rfl, fun id => by rw [show Y.D = X.D from rfl, hD]; simp, ⟨[], rfl, rfl, fun j p y hp => by simp at hp⟩⟩

end Go.Proofs.Vm
end

section
/- Rewriting rules of regions in which reads stand beside writes. -/
namespace Go.Proofs.Vm
open Go

variable {P : Program} {T : Tab} {N : Fx} {H : Hp}

theorem late_pu : (late T).pu = T.pu := rfl
theorem late_S : (late T).S = T.S := rfl
theorem late_cb : (late T).cb = true := rfl
def wpW (P : Program) (T : Tab) (N : Fx) (ops : Array Oper) (fl : List Nat) (i : Nat) (os : List Oper) (hs : List Hp) (rs : List LateR) (K : St → Prop) (s : St) : Prop := ∃ s', runW P T N ops fl i os hs rs s = some s' ∧ K s'
theorem e_regionW {K : Ex → St → Prop} {s : St} {id : Nat} {ops : Array Oper} {d : Bool} (hf : N.fl id ≠ []) : wpV P T N (.region id ops d) K s ↔ wpW P (late T) N ops (N.fl id) 0 ops.toList [] [] (K .normal) s := by
  rw [wpV_iff]
  constructor
  · rintro ⟨n, ex, s', h, hk⟩
    simp only [vcode, runR, if_neg hf] at h
    split at h
    · rename_i s1 h1
      cases h
      exact ⟨_, h1, hk⟩
    · cases h
  · rintro ⟨s', h, hk⟩
    exact ⟨0, .normal, s', by simp only [vcode, runR, if_neg hf, h], hk⟩
section
variable {ops : Array Oper} {fl : List Nat} {i : Nat} {os : List Oper} {hs : List Hp} {rs : List LateR} {K : St → Prop} {s : St} {o : Oper}
theorem w_nil : wpW P T N ops fl i [] hs rs K s ↔ okRs P T N.nest s.H rs ∧ K s := by
  unfold wpW runW
  constructor
  · rintro ⟨s', h, hk⟩
    split at h
    · rename_i hr; cases h; exact ⟨hr, hk⟩
    · cases h
  · rintro ⟨hr, hk⟩
    exact ⟨s, by rw [if_pos hr], hk⟩
theorem w_rd (h1 : i ∉ fl) (h2 : isWr P N o = false) : wpW P T N ops fl i (o :: os) hs rs K s ↔ wpS P T N ops o (wpW P T N ops fl (i + 1) os hs rs K) s := by
  have h2' : ¬ isWr P N o = true := by rw [h2]; decide
  constructor
  · rintro ⟨s', h, hk⟩
    unfold runW at h
    rw [if_neg h1, if_neg h2'] at h
    split at h
    · rename_i s1 hs1; exact ⟨s1, hs1, s', h, hk⟩
    · cases h
  · rintro ⟨s1, hs1, s', h, hk⟩
    refine ⟨s', ?_, hk⟩
    unfold runW
    rw [if_neg h1, if_neg h2', hs1]
    exact h
theorem w_wr (h1 : i ∉ fl) (h2 : isWr P N o = true) : wpW P T N ops fl i (o :: os) hs rs K s ↔ okRs P T N.nest s.H rs ∧ wpS P T N ops o (wpW P T N ops fl (i + 1) os (s.H :: hs) rs K) s := by
  constructor
  · rintro ⟨s', h, hk⟩
    unfold runW at h
    rw [if_neg h1, if_pos h2] at h
    split at h
    case isFalse => cases h
    rename_i hr
    split at h
    · rename_i s1 hs1; exact ⟨hr, s1, hs1, s', h, hk⟩
    · cases h
  · rintro ⟨hr, s1, hs1, s', h, hk⟩
    refine ⟨s', ?_, hk⟩
    unfold runW
    rw [if_neg h1, if_pos h2, if_pos hr, hs1]
    exact h
theorem w_go (h1 : i ∉ fl) : wpW P T N ops fl i (o :: os) hs rs K s ↔ if isWr P N o = true then okRs P T N.nest s.H rs ∧ wpS P T N ops o (wpW P T N ops fl (i + 1) os (s.H :: hs) rs K) s else wpS P T N ops o (wpW P T N ops fl (i + 1) os hs rs K) s := by
  by_cases h : isWr P N o = true
  · rw [if_pos h]; exact w_wr h1 h
  · rw [if_neg h]; exact w_rd h1 (by simpa using h)
theorem putK_iff {N : Fx} {d : Option Tmp} {s : St} {a : AV} {K : St → Prop} : putK N d s.env s.H a K ↔ ∃ s', putV N s d a = some s' ∧ K s' := by
  obtain ⟨e, H⟩ := s
  cases d with
  | none => exact ⟨fun h => ⟨_, rfl, h⟩, fun ⟨s', h, k⟩ => by cases h; exact k⟩
  | some d =>
    constructor
    · rintro ⟨h1, h2⟩
      exact ⟨_, by unfold putV; dsimp only; rw [if_pos h1], h2⟩
    · rintro ⟨s', h, k⟩
      unfold putV at h
      dsimp only at h
      split at h
      · rename_i h1; cases h; exact ⟨h1, k⟩
      · cases h
theorem w_lt {d : Option Tmp} {op : Op} {ty : TypeId} {pos : String} {aft : Array Edge} (h1 : i ∈ fl) (h2 : lateOp ⟨d, op, ty, pos, aft, none⟩ = true) : wpW P T N ops fl i (⟨d, op, ty, pos, aft, none⟩ :: os) hs rs K s ↔
    ∃ a, vrd P T N.nest s.H s.H.length (evo s.env) ⟨d, op, ty, pos, aft, none⟩ = some (a, [], []) ∧ okHs P T N.nest ⟨d, op, ty, pos, aft, none⟩ s.env s.H.length a hs ∧ putK N d s.env s.H a (wpW P T N ops fl (i + 1) os hs ((⟨d, op, ty, pos, aft, none⟩, s.env, s.H.length, a) :: rs) K) := by
  have hw : wantV s.env ops ⟨d, op, ty, pos, aft, none⟩ = some true := by simp [wantV]
  constructor
  · rintro ⟨s', h, hk⟩
    unfold runW at h
    rw [if_pos h1, if_pos h2, hw] at h
    dsimp only at h
    split at h
    case h_2 => cases h
    rename_i a hv
    split at h
    case isFalse => cases h
    rename_i hh
    split at h
    case h_2 => cases h
    rename_i s1 hp
    exact ⟨a, hv, hh, putK_iff.2 ⟨s1, hp, s', h, hk⟩⟩
  · rintro ⟨a, hv, hh, hpk⟩
    obtain ⟨s1, hp, s', h, hk⟩ := putK_iff.1 hpk
    refine ⟨s', ?_, hk⟩
    unfold runW
    rw [if_pos h1, if_pos h2, hw]
    dsimp only
    rw [hv]
    dsimp only
    rw [if_pos hh, hp]
    exact h
theorem w_late {d : Option Tmp} {op : Op} {ty : TypeId} {pos : String} {aft : Array Edge} (h1 : i ∈ fl) : wpW P T N ops fl i (⟨d, op, ty, pos, aft, none⟩ :: os) hs rs K s ↔ if lateOp ⟨d, op, ty, pos, aft, none⟩ = true then
    (∃ a, vrd P T N.nest s.H s.H.length (evo s.env) ⟨d, op, ty, pos, aft, none⟩ = some (a, [], []) ∧ okHs P T N.nest ⟨d, op, ty, pos, aft, none⟩ s.env s.H.length a hs ∧ putK N d s.env s.H a (wpW P T N ops fl (i + 1) os hs ((⟨d, op, ty, pos, aft, none⟩, s.env, s.H.length, a) :: rs) K))
    else wpW P T N ops fl i (⟨d, op, ty, pos, aft, none⟩ :: os) hs rs K s := by
  by_cases h : lateOp ⟨d, op, ty, pos, aft, none⟩ = true
  · rw [if_pos h]; exact w_lt h1 h
  · rw [if_neg h]
end
section
variable {b : Bool} {n : Nat} {ρ : Operand → Option AV} {d : Option Tmp} {ty : TypeId} {pos : String} {aft : Array Edge} {g : Option (Nat × Bool)}
theorem v_load {t : TypeId} {x : Operand} : vrd P T b H n ρ ⟨d, .load t x, ty, pos, aft, g⟩ = on1 (ρ x) (vload P H t) := by unfold on1; rfl
theorem v_fieldAddr {t : TypeId} {x : Operand} {f : Nat} : vrd P T b H n ρ ⟨d, .fieldAddr t x f, ty, pos, aft, g⟩ = on1 (ρ x) (vfieldAddr P H t f) := by unfold on1; rfl
theorem v_indexAddr {t : TypeId} {x y : Operand} : vrd P T b H n ρ ⟨d, .indexAddr t x y, ty, pos, aft, g⟩ = on2 (ρ x) (ρ y) (vindexAddr P H t) := by unfold on2; rfl
theorem v_buildSlice {t : TypeId} {k : Nat} {ps : Array (Nat × Operand)} : vrd P T b H n ρ ⟨d, .buildSlice t k ps, ty, pos, aft, g⟩ = vbuildN P b T.cb H n ρ t k ps.toList := rfl
theorem lt_load {t : TypeId} {x : Operand} : lateOp ⟨d, .load t x, ty, pos, aft, g⟩ = true := rfl
theorem lt_fieldAddr {t : TypeId} {x : Operand} {f : Nat} : lateOp ⟨d, .fieldAddr t x f, ty, pos, aft, g⟩ = true := rfl
theorem lt_indexAddr {t : TypeId} {x y : Operand} : lateOp ⟨d, .indexAddr t x y, ty, pos, aft, g⟩ = true := rfl
theorem lt_buildSlice {t : TypeId} {k : Nat} {ps : Array (Nat × Operand)} : lateOp ⟨d, .buildSlice t k ps, ty, pos, aft, g⟩ = true := rfl
end
theorem vbuildT_yes {nid : Nat} {ρ : Operand → Option AV} {t : TypeId} {len : Nat} {ps : List (Nat × Operand)} : vbuildT P true H nid ρ t len ps = if clParts H ρ ps = true then vbuildC P H ρ t len ps else vbuildSlice P H nid ρ t len ps := by
  unfold vbuildT
  simp
theorem vbuildC_eq {ρ : Operand → Option AV} {t e : TypeId} {len : Nat} {ps : List (Nat × Operand)} {sz b : Nat} {z : List CV} (he : elemOfSlice P t = some e) (hel : elOf P e = some (sz, b, z)) :
    vbuildC P H ρ t len ps = match partsOf ρ ps with
      | some ps => match fzParts H ps with
        | some qs => if len * sz ≤ 16777216 ∧ len * sz ≠ 0 ∧ qs.all (fun p => p.1 < len && p.2.length == sz) = true then
            some (.one (.c (.arr (setAll (List.replicate len z) qs))), [], []) else none
        | none => none
      | none => none := by
  obtain ⟨i, v, h1, h2, h3, h4, h5, h6, h7⟩ := elOf_facts hel
  unfold vbuildC
  simp only [he]
  cases partsOf ρ ps with
  | none => rfl
  | some ps =>
    simp only [h1, h2]
    cases fzParts H ps with
    | none => rfl
    | some qs =>
      simp only [h3, h5, h6, h7, true_and]
theorem qa_eq {a b : AV} : qa a = some (b, [], []) ↔ a = b := by simp [qa]
@[congr] theorem wpW_congr {ops : Array Oper} {fl : List Nat} {i : Nat} {os : List Oper} {hs : List Hp} {rs : List LateR} {K : St → Prop} {s s' : St} (h : s = s') : wpW P T N ops fl i os hs rs K s = wpW P T N ops fl i os hs rs K s' := by rw [h]
attribute [simp] late_pu late_S late_cb e_regionW w_nil w_go w_late v_load v_fieldAddr v_indexAddr v_buildSlice lt_load lt_fieldAddr lt_indexAddr lt_buildSlice vbuildT_yes qa_eq okRs okHs isWr clParts
end Go.Proofs.Vm
end

section
/- A base that also tells what a clone of nothing is: nothing, in memory of its own. -/
namespace Go.Proofs.Vm
open Go

variable {P : Program}

def cloRun (args : List AV) (H : Hp) : Option (AV × Hp) :=
  match args with
  | [.one (.c (.arr []))] => some (.one (.sl H.length 0 0 0), H ++ [.clo [] false])
  | _ => none
def strCloTab (s : FuncId) (cs : List FuncId) : Tab := ⟨fun _ _ => none, fun f args H => if f = s then sortSRun args H else if f ∈ cs then cloRun args H else none, false⟩
/-- A clone of a slice without elements is one without room, and turns nothing that is there. -/
def CloS (P : Program) (g : FuncId) : Prop := ∀ (a : Option Addr) (c : Nat) (w : World), Tabs w.heap.size w →
  Calls P g #[.slice a 0 c] w fun e w' => ∃ a', e = .returned (.slice a' 0 0) ∧ w.heap.size ≤ w'.heap.size ∧ (∀ b, b < w.heap.size → w'.heap[b]? = w.heap[b]?) ∧ Stl w w'
theorem cloS_of {g : FuncId} (h : ∀ a c, ∃ k H' fz, H'[k]? = some (.clo [] fz) ∧ SCtr P g [.one (.c (.v (.slice a 0 c)))] [] (.one (.sl k 0 0 0)) H') : CloS P g := fun a c w hT => by
  obtain ⟨k, H', fz, hk, hS⟩ := h a c
  let X : Cx := ⟨w.heap.size, w, fun _ => False, [], fun _ => ⟨none, none, 0, 0⟩, fun _ => False, w⟩
  have S : SR X := ⟨fun id e hd => hd.elim, fun i j b hi => hi.elim, Nat.le_refl _, fun _ _ => rfl, fun b hb => hb.elim, .refl w, hT⟩
  have M : Dom X := fun id hd => hd.elim
  refine (hS X S M rfl (fun id => ⟨fun h => h.elim, fun h => by simp at h⟩) [.slice a 0 c] ⟨rfl, fun j x y hx hy => ?_⟩).mono fun e w' hh => ?_
  · match j, hx, hy with
    | 0, hx, hy => cases hx; cases hy; exact .v _ rfl
  · obtain ⟨v, Y, rfl, rfl, N, hH, hD, hr⟩ := hh
    have hb : Y.base = w.heap.size := N.base
    have hw : Y.w0 = w := N.w0
    obtain ⟨_, hd, e0, he0, _, _, hp⟩ := hr
    rw [hH, hk] at he0
    cases he0
    obtain ⟨ad, cap, rfl, _, _, hc⟩ := hp rfl
    obtain ⟨_, hcap⟩ := hc rfl rfl
    have hent := N.sr.ent k _ hd (by rw [hH]; exact hk)
    have h0 : (Y.σ k).cap = 0 := by
      rcases hent.2 with h | ⟨b, c, ty, fr, _, _, _, _, _, h6, _⟩
      · exact h.2.2
      · exact absurd h6.1 (by simp)
    rw [h0] at hcap
    subst hcap
    refine ⟨ad, rfl, ?_, fun b hb' => ?_, ?_⟩
    · rw [← hb]; exact N.sr.size
    · have := N.sr.old b (by rw [hb]; exact hb')
      rw [hw] at this
      exact this
    · have := N.sr.kp
      rw [hw] at this
      exact this
theorem strCloTab_ok {s : FuncId} {cs : List FuncId} (hS : TOk P (strTab s)) (hC : ∀ g ∈ cs, FnOk P g ∧ CloS P g) : TOk P (strCloTab s cs) := by
  refine ⟨fun f args r h => (by cases h), fun f args H r H' h => ?_⟩
  simp only [strCloTab] at h
  split at h
  · rename_i hfs
    refine hS.2 f args H r H' ?_
    show (if f = s then sortSRun args H else none) = _
    rw [if_pos hfs]; exact h
  · split at h
    case isFalse => cases h
    rename_i hm
    unfold cloRun at h
    split at h
    case h_2 => cases h
    cases h
    obtain ⟨hf, hc⟩ := hC f hm
    refine ⟨⟨by simp, fun _ => List.prefix_append _ _⟩, hf, ?_⟩
    intro X S M hX hD vals hv
    have hv1 : vals.length = 1 := by rw [← hv.1]; rfl
    match vals, hv1 with
    | [v], _ =>
    have hr : RCell X (.c (.arr [])) v := hv.2 0 _ v rfl rfl
    cases hr with
    | arr l a c sz f hc' hs ha hr =>
    subst hX
    refine (hc a c X.w S.tabs).mono fun e w' hh => ?_
    obtain ⟨a', rfl, h1, h2, h3⟩ := hh
    have hK : ∀ (id : Nat) e, X.H[id]? = some e → (X.H ++ [Ent.clo [] false])[id]? = some e := fun id e he => by
      rw [List.getElem?_append_left (List.getElem?_eq_some_iff.1 he).1]; exact he
    have N1 := longer_nxt S M hK
    have hn : ¬ (longer X (X.H ++ [Ent.clo [] false])).D X.H.length := fun h => by
      have := (hD _).1 h
      omega
    obtain ⟨Y, rfl, hY, hs, _⟩ := SR.nil' N1.sr N1.dom X.H.length hn (f := false) (by show (X.H ++ [Ent.clo [] false])[X.H.length]? = _; simp) a' w' h1 h2 h3
    have hYH : Y.H = X.H ++ [Ent.clo [] false] := hY.ext.H
    have hYD : ∀ id, Y.D id ↔ id < (X.H ++ [Ent.clo [] false]).length := fun id => by
      rw [hY.D]
      show X.D id ∨ _ ↔ _
      rw [hD, List.length_append, List.length_singleton]
      omega
    refine ⟨_, Y, rfl, rfl, N1.trans (hY.nxt N1.sr), hYH, hYD, rfl, ?_, .clo [] false, ?_, Nat.le_refl _, Nat.zero_le _, fun _ => ⟨a', 0, rfl, Nat.le_refl _, fun h => absurd rfl h, fun _ _ => ⟨?_, ?_⟩⟩⟩
    · rw [hYD]; simp
    · rw [hYH]; simp
    · rw [hs]
    · rw [hs]
end Go.Proofs.Vm
end

section
/- Each function's run over the program's whole table. -/
namespace Go.Proofs.YtmgnmnogiajlgaaF
open Go Go.Proofs.Vm
def shF (g : FuncId) : Bool := g == 22 || g == 38 || g == 39 || g == 48 || g == 50 || g == 51 || g == 69 || g == 40
def neF (g : FuncId) : Bool := g == 22 || g == 13 || g == 39 || g == 70
def lt10 : Nat → List Nat := fun r => if r = 17 then [5, 6] else []
@[simp] theorem lt10_17 : lt10 17 = [5, 6] := by decide
@[simp] theorem lt10_no {r : Nat} (h : ¬ r = 17) : lt10 r = [] := by unfold lt10; simp [h]
def lt27 : Nat → List Nat := fun r => if r = 27 then [7, 8, 10] else []
@[simp] theorem lt27_27 : lt27 27 = [7, 8, 10] := by decide
@[simp] theorem lt27_no {r : Nat} (h : ¬ r = 27) : lt27 r = [] := by unfold lt27; simp [h]
def lt54 : Nat → List Nat := fun r => if r = 10 then [5, 6, 7] else []
@[simp] theorem lt54_10 : lt54 10 = [5, 6, 7] := by decide
@[simp] theorem lt54_no {r : Nat} (h : ¬ r = 10) : lt54 r = [] := by unfold lt54; simp [h]
def ltF (f : FuncId) : Nat → List Nat := if f = 10 then lt10 else if f = 27 then lt27 else if f = 54 then lt54 else noLate
def cfg : Cfg := ⟨shF, neF, (strCloTab 40 [69, 38]), ltF⟩
noncomputable def TV : Tab := TT Try.prog cfg
@[simp] theorem TV_cb : TV.cb = false := rfl
@[simp] theorem sh40 : shF 40 = true := by decide
@[simp] theorem sh3 : shF 3 = false := by decide
theorem run3 {args : List CA} {r : CA} (hl : args.length ≤ 161) (h : wpV Try.prog TV ⟨161, shF, false, noLate⟩ (Try.f3.body.getD .skip) (endK Try.prog Try.f3.results.toList r) ⟨env0 args, []⟩) : TV.pu 3 args = some r := TT_go (N := ⟨161, shF, false, noLate⟩) Try.func3 (by kernel_rfl) ok3 (by kernel_rfl) (by kernel_rfl) (fun _ => rfl) hl h -- rillmeter/rillmeterlaw17.JointTrue
@[simp] theorem sh4 : shF 4 = false := by decide
theorem run4 {args : List CA} {r : CA} (hl : args.length ≤ 93) (h : wpV Try.prog TV ⟨93, shF, false, noLate⟩ (Try.f4.body.getD .skip) (endK Try.prog Try.f4.results.toList r) ⟨env0 args, []⟩) : TV.pu 4 args = some r := TT_go (N := ⟨93, shF, false, noLate⟩) Try.func4 (by kernel_rfl) ok4 (by kernel_rfl) (by kernel_rfl) (fun _ => rfl) hl h -- rillmeter/rillmeterlaw17.JointAlone
@[simp] theorem sh5 : shF 5 = false := by decide
theorem run5 {args : List CA} {r : CA} (hl : args.length ≤ 59) (h : wpV Try.prog TV ⟨59, shF, false, noLate⟩ (Try.f5.body.getD .skip) (endK Try.prog Try.f5.results.toList r) ⟨env0 args, []⟩) : TV.pu 5 args = some r := TT_go (N := ⟨59, shF, false, noLate⟩) Try.func5 (by kernel_rfl) ok5 (by kernel_rfl) (by kernel_rfl) (fun _ => rfl) hl h -- rillmeter/radar.New
@[simp] theorem sh6 : shF 6 = false := by decide
theorem run6 {args : List CA} {r : CA} (hl : args.length ≤ 60) (h : wpV Try.prog TV ⟨60, shF, false, noLate⟩ (Try.f6.body.getD .skip) (endK Try.prog Try.f6.results.toList r) ⟨env0 args, []⟩) : TV.pu 6 args = some r := TT_go (N := ⟨60, shF, false, noLate⟩) Try.func6 (by kernel_rfl) ok6 (by kernel_rfl) (by kernel_rfl) (fun _ => rfl) hl h -- rillmeter/rillmeterlaw17.awake
@[simp] theorem sh7 : shF 7 = false := by decide
theorem run7 {args : List CA} {r : CA} (hl : args.length ≤ 89) (h : wpV Try.prog TV ⟨89, shF, false, noLate⟩ (Try.f7.body.getD .skip) (endK Try.prog Try.f7.results.toList r) ⟨env0 args, []⟩) : TV.pu 7 args = some r := TT_go (N := ⟨89, shF, false, noLate⟩) Try.func7 (by kernel_rfl) ok7 (by kernel_rfl) (by kernel_rfl) (fun _ => rfl) hl h -- rillmeter/radar.Add
@[simp] theorem sh8 : shF 8 = false := by decide
theorem run8 {args : List CA} {r : CA} (hl : args.length ≤ 42) (h : wpV Try.prog TV ⟨42, shF, false, noLate⟩ (Try.f8.body.getD .skip) (endK Try.prog Try.f8.results.toList r) ⟨env0 args, []⟩) : TV.pu 8 args = some r := TT_go (N := ⟨42, shF, false, noLate⟩) Try.func8 (by kernel_rfl) ok8 (by kernel_rfl) (by kernel_rfl) (fun _ => rfl) hl h -- rillmeter/rillmeterlaw17.faithful
@[simp] theorem sh9 : shF 9 = false := by decide
theorem run9 {args : List CA} {r : CA} (hl : args.length ≤ 56) (h : wpV Try.prog TV ⟨56, shF, false, noLate⟩ (Try.f9.body.getD .skip) (endK Try.prog Try.f9.results.toList r) ⟨env0 args, []⟩) : TV.pu 9 args = some r := TT_go (N := ⟨56, shF, false, noLate⟩) Try.func9 (by kernel_rfl) ok9 (by kernel_rfl) (by kernel_rfl) (fun _ => rfl) hl h -- rillmeter/joint.Reports
@[simp] theorem sh10 : shF 10 = false := by decide
theorem run10 {args : List CA} {r : CA} (hl : args.length ≤ 77) (h : wpV Try.prog TV ⟨77, shF, false, lt10⟩ (Try.f10.body.getD .skip) (endK Try.prog Try.f10.results.toList r) ⟨env0 args, []⟩) : TV.pu 10 args = some r := TT_go (N := ⟨77, shF, false, lt10⟩) Try.func10 (by kernel_rfl) ok10 (by kernel_rfl) (by kernel_rfl) (fun _ => rfl) hl h -- rillmeter/rillmeterlaw17.plain
@[simp] theorem sh11 : shF 11 = false := by decide
theorem run11 {args : List CA} {r : CA} (hl : args.length ≤ 61) (h : wpV Try.prog TV ⟨61, shF, false, noLate⟩ (Try.f11.body.getD .skip) (endK Try.prog Try.f11.results.toList r) ⟨env0 args, []⟩) : TV.pu 11 args = some r := TT_go (N := ⟨61, shF, false, noLate⟩) Try.func11 (by kernel_rfl) ok11 (by kernel_rfl) (by kernel_rfl) (fun _ => rfl) hl h -- rillmeter/rillmeterlaw17.ref
@[simp] theorem sh12 : shF 12 = false := by decide
theorem run12 {args : List CA} {r : CA} (hl : args.length ≤ 33) (h : wpV Try.prog TV ⟨33, shF, false, noLate⟩ (Try.f12.body.getD .skip) (endK Try.prog Try.f12.results.toList r) ⟨env0 args, []⟩) : TV.pu 12 args = some r := TT_go (N := ⟨33, shF, false, noLate⟩) Try.func12 (by kernel_rfl) ok12 (by kernel_rfl) (by kernel_rfl) (fun _ => rfl) hl h -- rillmeter/radar.Right
@[simp] theorem sh13 : shF 13 = false := by decide
theorem run13 {args : List CA} {r : CA} (hl : args.length ≤ 35) (h : wpV Try.prog TV ⟨35, shF, true, noLate⟩ (Try.f13.body.getD .skip) (endK Try.prog Try.f13.results.toList r) ⟨env0 args, []⟩) : TV.pu 13 args = some r := TT_go (N := ⟨35, shF, true, noLate⟩) Try.func13 (by kernel_rfl) ok13 (by kernel_rfl) (by kernel_rfl) (fun _ => rfl) hl h -- rillmeter/joint.Decode
@[simp] theorem sh14 : shF 14 = false := by decide
theorem run14 {args : List CA} {r : CA} (hl : args.length ≤ 26) (h : wpV Try.prog TV ⟨26, shF, false, noLate⟩ (Try.f14.body.getD .skip) (endK Try.prog Try.f14.results.toList r) ⟨env0 args, []⟩) : TV.pu 14 args = some r := TT_go (N := ⟨26, shF, false, noLate⟩) Try.func14 (by kernel_rfl) ok14 (by kernel_rfl) (by kernel_rfl) (fun _ => rfl) hl h -- rillmeter/radar.Peel
@[simp] theorem sh15 : shF 15 = false := by decide
theorem run15 {args : List CA} {r : CA} (hl : args.length ≤ 26) (h : wpV Try.prog TV ⟨26, shF, false, noLate⟩ (Try.f15.body.getD .skip) (endK Try.prog Try.f15.results.toList r) ⟨env0 args, []⟩) : TV.pu 15 args = some r := TT_go (N := ⟨26, shF, false, noLate⟩) Try.func15 (by kernel_rfl) ok15 (by kernel_rfl) (by kernel_rfl) (fun _ => rfl) hl h -- rillmeter/rillmeterref16.Same
@[simp] theorem sh16 : shF 16 = false := by decide
theorem run16 {args : List CA} {r : CA} (hl : args.length ≤ 76) (h : wpV Try.prog TV ⟨76, shF, false, noLate⟩ (Try.f16.body.getD .skip) (endK Try.prog Try.f16.results.toList r) ⟨env0 args, []⟩) : TV.pu 16 args = some r := TT_go (N := ⟨76, shF, false, noLate⟩) Try.func16 (by kernel_rfl) ok16 (by kernel_rfl) (by kernel_rfl) (fun _ => rfl) hl h -- rillmeter/rillmeterref16.Equal
@[simp] theorem sh17 : shF 17 = false := by decide
theorem run17 {args : List CA} {r : CA} (hl : args.length ≤ 26) (h : wpV Try.prog TV ⟨26, shF, false, noLate⟩ (Try.f17.body.getD .skip) (endK Try.prog Try.f17.results.toList r) ⟨env0 args, []⟩) : TV.pu 17 args = some r := TT_go (N := ⟨26, shF, false, noLate⟩) Try.func17 (by kernel_rfl) ok17 (by kernel_rfl) (by kernel_rfl) (fun _ => rfl) hl h -- rillmeter/bloom.New
@[simp] theorem sh18 : shF 18 = false := by decide
theorem run18 {args : List CA} {r : CA} (hl : args.length ≤ 17) (h : wpV Try.prog TV ⟨17, shF, false, noLate⟩ (Try.f18.body.getD .skip) (endK Try.prog Try.f18.results.toList r) ⟨env0 args, []⟩) : TV.pu 18 args = some r := TT_go (N := ⟨17, shF, false, noLate⟩) Try.func18 (by kernel_rfl) ok18 (by kernel_rfl) (by kernel_rfl) (fun _ => rfl) hl h -- rillmeter/hash.Row
@[simp] theorem sh19 : shF 19 = false := by decide
theorem run19 {args : List CA} {r : CA} (hl : args.length ≤ 48) (h : wpV Try.prog TV ⟨48, shF, false, noLate⟩ (Try.f19.body.getD .skip) (endK Try.prog Try.f19.results.toList r) ⟨env0 args, []⟩) : TV.pu 19 args = some r := TT_go (N := ⟨48, shF, false, noLate⟩) Try.func19 (by kernel_rfl) ok19 (by kernel_rfl) (by kernel_rfl) (fun _ => rfl) hl h -- slices.Repeat[[]rillmeter/radar.Cell,rillmeter/radar.Cell]
@[simp] theorem sh20 : shF 20 = false := by decide
theorem run20 {args : List CA} {r : CA} (hl : args.length ≤ 9) (h : wpV Try.prog TV ⟨9, shF, false, noLate⟩ (Try.f20.body.getD .skip) (endK Try.prog Try.f20.results.toList r) ⟨env0 args, []⟩) : TV.pu 20 args = some r := TT_go (N := ⟨9, shF, false, noLate⟩) Try.func20 (by kernel_rfl) ok20 (by kernel_rfl) (by kernel_rfl) (fun _ => rfl) hl h -- rillmeter/radar.fits
@[simp] theorem sh21 : shF 21 = false := by decide
theorem run21 {args : List CA} {r : CA} (hl : args.length ≤ 15) (h : wpV Try.prog TV ⟨15, shF, false, noLate⟩ (Try.f21.body.getD .skip) (endK Try.prog Try.f21.results.toList r) ⟨env0 args, []⟩) : TV.pu 21 args = some r := TT_go (N := ⟨15, shF, false, noLate⟩) Try.func21 (by kernel_rfl) ok21 (by kernel_rfl) (by kernel_rfl) (fun _ => rfl) hl h -- rillmeter/bloom.Has
@[simp] theorem sh22 : shF 22 = true := by decide
@[simp] theorem cl22 : isCl Try.prog 22 = false := by kernel_rfl
theorem runX22 {args : List AV} {H : Hp} {Q : AV → Hp → Prop} (hl : args.length ≤ 27) (hQ : ∀ a K, Q a K → H.length ≤ K.length) (h : wpV Try.prog TV ⟨27, shF, true, noLate⟩ (Try.f22.body.getD .skip) (endX Try.prog Try.f22.results.toList Q) ⟨envS args, H⟩) : ∃ a K, TV.S 22 args H = some (a, K) ∧ Q a K := TT_goX (N := ⟨27, shF, true, noLate⟩) Try.func22 (by kernel_rfl) ok22 (by kernel_rfl) (by kernel_rfl) rfl hl (by kernel_rfl) hQ h -- rillmeter/radar.clone
theorem run22 {args : List AV} {r : AV} {H H' : Hp} (hl : args.length ≤ 27) (hH : Gr Try.prog 22 H H') (h : wpV Try.prog TV ⟨27, shF, true, noLate⟩ (Try.f22.body.getD .skip) (endS Try.prog Try.f22.results.toList r H') ⟨envS args, H⟩) : TV.S 22 args H = some (r, H') := TT_goS (N := ⟨27, shF, true, noLate⟩) Try.func22 (by kernel_rfl) ok22 (by kernel_rfl) (by kernel_rfl) rfl hl hH h -- rillmeter/radar.clone
@[simp] theorem sh23 : shF 23 = false := by decide
theorem run23 {args : List CA} {r : CA} (hl : args.length ≤ 25) (h : wpV Try.prog TV ⟨25, shF, false, noLate⟩ (Try.f23.body.getD .skip) (endK Try.prog Try.f23.results.toList r) ⟨env0 args, []⟩) : TV.pu 23 args = some r := TT_go (N := ⟨25, shF, false, noLate⟩) Try.func23 (by kernel_rfl) ok23 (by kernel_rfl) (by kernel_rfl) (fun _ => rfl) hl h -- rillmeter/bloom.Add
@[simp] theorem sh24 : shF 24 = false := by decide
theorem run24 {args : List CA} {r : CA} (hl : args.length ≤ 20) (h : wpV Try.prog TV ⟨20, shF, false, noLate⟩ (Try.f24.body.getD .skip) (endK Try.prog Try.f24.results.toList r) ⟨env0 args, []⟩) : TV.pu 24 args = some r := TT_go (N := ⟨20, shF, false, noLate⟩) Try.func24 (by kernel_rfl) ok24 (by kernel_rfl) (by kernel_rfl) (fun _ => rfl) hl h -- (rillmeter/radar.Radar).place
@[simp] theorem sh25 : shF 25 = false := by decide
theorem run25 {args : List CA} {r : CA} (hl : args.length ≤ 26) (h : wpV Try.prog TV ⟨26, shF, false, noLate⟩ (Try.f25.body.getD .skip) (endK Try.prog Try.f25.results.toList r) ⟨env0 args, []⟩) : TV.pu 25 args = some r := TT_go (N := ⟨26, shF, false, noLate⟩) Try.func25 (by kernel_rfl) ok25 (by kernel_rfl) (by kernel_rfl) (fun _ => rfl) hl h -- rillmeter/radar.xor
@[simp] theorem sh26 : shF 26 = false := by decide
theorem run26 {args : List CA} {r : CA} (hl : args.length ≤ 29) (h : wpV Try.prog TV ⟨29, shF, false, noLate⟩ (Try.f26.body.getD .skip) (endK Try.prog Try.f26.results.toList r) ⟨env0 args, []⟩) : TV.pu 26 args = some r := TT_go (N := ⟨29, shF, false, noLate⟩) Try.func26 (by kernel_rfl) ok26 (by kernel_rfl) (by kernel_rfl) (fun _ => rfl) hl h -- rillmeter/radar.wrong
@[simp] theorem sh27 : shF 27 = false := by decide
theorem run27 {args : List CA} {r : CA} (hl : args.length ≤ 172) (h : wpV Try.prog TV ⟨172, shF, false, lt27⟩ (Try.f27.body.getD .skip) (endK Try.prog Try.f27.results.toList r) ⟨env0 args, []⟩) : TV.pu 27 args = some r := TT_go (N := ⟨172, shF, false, lt27⟩) Try.func27 (by kernel_rfl) ok27 (by kernel_rfl) (by kernel_rfl) (fun _ => rfl) hl h -- rillmeter/joint.Counts
@[simp] theorem sh28 : shF 28 = false := by decide
theorem run28 {args : List CA} {r : CA} (hl : args.length ≤ 11) (h : wpV Try.prog TV ⟨11, shF, false, noLate⟩ (Try.f28.body.getD .skip) (endK Try.prog Try.f28.results.toList r) ⟨env0 args, []⟩) : TV.pu 28 args = some r := TT_go (N := ⟨11, shF, false, noLate⟩) Try.func28 (by kernel_rfl) ok28 (by kernel_rfl) (by kernel_rfl) (fun _ => rfl) hl h -- rillmeter/radar.Empty
@[simp] theorem sh29 : shF 29 = false := by decide
theorem run29 {args : List CA} {r : CA} (hl : args.length ≤ 18) (h : wpV Try.prog TV ⟨18, shF, false, noLate⟩ (Try.f29.body.getD .skip) (endK Try.prog Try.f29.results.toList r) ⟨env0 args, []⟩) : TV.pu 29 args = some r := TT_go (N := ⟨18, shF, false, noLate⟩) Try.func29 (by kernel_rfl) ok29 (by kernel_rfl) (by kernel_rfl) (fun _ => rfl) hl h -- rillmeter/rillmeterref16.In
@[simp] theorem sh30 : shF 30 = false := by decide
theorem run30 {args : List CA} {r : CA} (hl : args.length ≤ 42) (h : wpV Try.prog TV ⟨42, shF, false, noLate⟩ (Try.f30.body.getD .skip) (endK Try.prog Try.f30.results.toList r) ⟨env0 args, []⟩) : TV.pu 30 args = some r := TT_go (N := ⟨42, shF, false, noLate⟩) Try.func30 (by kernel_rfl) ok30 (by kernel_rfl) (by kernel_rfl) (fun _ => rfl) hl h -- rillmeter/rillmeterref16.Put
@[simp] theorem sh31 : shF 31 = false := by decide
theorem run31 {args : List CA} {r : CA} (hl : args.length ≤ 52) (h : wpV Try.prog TV ⟨52, shF, false, noLate⟩ (Try.f31.body.getD .skip) (endK Try.prog Try.f31.results.toList r) ⟨env0 args, []⟩) : TV.pu 31 args = some r := TT_go (N := ⟨52, shF, false, noLate⟩) Try.func31 (by kernel_rfl) ok31 (by kernel_rfl) (by kernel_rfl) (fun _ => rfl) hl h -- rillmeter/rillmeterref16.Small
@[simp] theorem sh32 : shF 32 = false := by decide
theorem run32 {args : List CA} {r : CA} (hl : args.length ≤ 23) (h : wpV Try.prog TV ⟨23, shF, false, noLate⟩ (Try.f32.body.getD .skip) (endK Try.prog Try.f32.results.toList r) ⟨env0 args, []⟩) : TV.pu 32 args = some r := TT_go (N := ⟨23, shF, false, noLate⟩) Try.func32 (by kernel_rfl) ok32 (by kernel_rfl) (by kernel_rfl) (fun _ => rfl) hl h -- rillmeter/bloom.Right
@[simp] theorem sh33 : shF 33 = false := by decide
theorem run33 {args : List CA} {r : CA} (hl : args.length ≤ 9) (h : wpV Try.prog TV ⟨9, shF, false, noLate⟩ (Try.f33.body.getD .skip) (endK Try.prog Try.f33.results.toList r) ⟨env0 args, []⟩) : TV.pu 33 args = some r := TT_go (N := ⟨9, shF, false, noLate⟩) Try.func33 (by kernel_rfl) ok33 (by kernel_rfl) (by kernel_rfl) (fun _ => rfl) hl h -- slices.ContainsFunc[[][]rillmeter/radar.Cell,[]rillmeter/radar.Cell]
@[simp] theorem sh34 : shF 34 = false := by decide
theorem run34 {args : List CA} {r : CA} (hl : args.length ≤ 26) (h : wpV Try.prog TV ⟨26, shF, false, noLate⟩ (Try.f34.body.getD .skip) (endK Try.prog Try.f34.results.toList r) ⟨env0 args, []⟩) : TV.pu 34 args = some r := TT_go (N := ⟨26, shF, false, noLate⟩) Try.func34 (by kernel_rfl) ok34 (by kernel_rfl) (by kernel_rfl) (fun _ => rfl) hl h -- rillmeter/radar.Right$1
@[simp] theorem sh35 : shF 35 = false := by decide
theorem run35 {args : List CA} {r : CA} (hl : args.length ≤ 9) (h : wpV Try.prog TV ⟨9, shF, false, noLate⟩ (Try.f35.body.getD .skip) (endK Try.prog Try.f35.results.toList r) ⟨env0 args, []⟩) : TV.pu 35 args = some r := TT_go (N := ⟨9, shF, false, noLate⟩) Try.func35 (by kernel_rfl) ok35 (by kernel_rfl) (by kernel_rfl) (fun _ => rfl) hl h -- slices.ContainsFunc[[]rillmeter/radar.Cell,rillmeter/radar.Cell]
@[simp] theorem sh36 : shF 36 = false := by decide
theorem run36 {args : List CA} {r : CA} (hl : args.length ≤ 9) (h : wpV Try.prog TV ⟨9, shF, false, noLate⟩ (Try.f36.body.getD .skip) (endK Try.prog Try.f36.results.toList r) ⟨env0 args, []⟩) : TV.pu 36 args = some r := TT_go (N := ⟨9, shF, false, noLate⟩) Try.func36 (by kernel_rfl) ok36 (by kernel_rfl) (by kernel_rfl) (fun _ => rfl) hl h -- slices.ContainsFunc[[]rillmeter/radar.Radar,rillmeter/radar.Radar]
@[simp] theorem sh37 : shF 37 = false := by decide
theorem run37 {args : List CA} {r : CA} (hl : args.length ≤ 6) (h : wpV Try.prog TV ⟨6, shF, false, noLate⟩ (Try.f37.body.getD .skip) (endK Try.prog Try.f37.results.toList r) ⟨env0 args, []⟩) : TV.pu 37 args = some r := TT_go (N := ⟨6, shF, false, noLate⟩) Try.func37 (by kernel_rfl) ok37 (by kernel_rfl) (by kernel_rfl) (fun _ => rfl) hl h -- rillmeter/joint.wrong
@[simp] theorem sh38 : shF 38 = true := by decide
@[simp] theorem cl38 : isCl Try.prog 38 = true := by kernel_rfl
theorem run38 {args : List AV} {r : AV} {H H' : Hp} (hb : cfg.base.S 38 args H = none) (hl : args.length ≤ 8) (hH : Gr Try.prog 38 H H') (h : wpV Try.prog TV ⟨8, shF, false, noLate⟩ (Try.f38.body.getD .skip) (endS Try.prog Try.f38.results.toList r H') ⟨envS args, H⟩) : TV.S 38 args H = some (r, H') := TT_goS (N := ⟨8, shF, false, noLate⟩) Try.func38 (by kernel_rfl) ok38 (by kernel_rfl) (by kernel_rfl) hb hl hH h -- slices.Clone[[]rillmeter/radar.Radar,rillmeter/radar.Radar]
@[simp] theorem sh39 : shF 39 = true := by decide
@[simp] theorem cl39 : isCl Try.prog 39 = false := by kernel_rfl
theorem runX39 {args : List AV} {H : Hp} {Q : AV → Hp → Prop} (hl : args.length ≤ 72) (hQ : ∀ a K, Q a K → H.length ≤ K.length) (h : wpV Try.prog TV ⟨72, shF, true, noLate⟩ (Try.f39.body.getD .skip) (endX Try.prog Try.f39.results.toList Q) ⟨envS args, H⟩) : ∃ a K, TV.S 39 args H = some (a, K) ∧ Q a K := TT_goX (N := ⟨72, shF, true, noLate⟩) Try.func39 (by kernel_rfl) ok39 (by kernel_rfl) (by kernel_rfl) rfl hl (by kernel_rfl) hQ h -- rillmeter/joint.round
theorem run39 {args : List AV} {r : AV} {H H' : Hp} (hl : args.length ≤ 72) (hH : Gr Try.prog 39 H H') (h : wpV Try.prog TV ⟨72, shF, true, noLate⟩ (Try.f39.body.getD .skip) (endS Try.prog Try.f39.results.toList r H') ⟨envS args, H⟩) : TV.S 39 args H = some (r, H') := TT_goS (N := ⟨72, shF, true, noLate⟩) Try.func39 (by kernel_rfl) ok39 (by kernel_rfl) (by kernel_rfl) rfl hl hH h -- rillmeter/joint.round
@[simp] theorem sh41 : shF 41 = false := by decide
theorem run41 {args : List CA} {r : CA} (hl : args.length ≤ 58) (h : wpV Try.prog TV ⟨58, shF, false, noLate⟩ (Try.f41.body.getD .skip) (endK Try.prog Try.f41.results.toList r) ⟨env0 args, []⟩) : TV.pu 41 args = some r := TT_go (N := ⟨58, shF, false, noLate⟩) Try.func41 (by kernel_rfl) ok41 (by kernel_rfl) (by kernel_rfl) (fun _ => rfl) hl h -- rillmeter/radar.Pure
@[simp] theorem sh42 : shF 42 = false := by decide
theorem run42 {args : List CA} {r : CA} (hl : args.length ≤ 57) (h : wpV Try.prog TV ⟨57, shF, false, noLate⟩ (Try.f42.body.getD .skip) (endK Try.prog Try.f42.results.toList r) ⟨env0 args, []⟩) : TV.pu 42 args = some r := TT_go (N := ⟨57, shF, false, noLate⟩) Try.func42 (by kernel_rfl) ok42 (by kernel_rfl) (by kernel_rfl) (fun _ => rfl) hl h -- rillmeter/radar.Remove
@[simp] theorem sh43 : shF 43 = false := by decide
theorem run43 {args : List CA} {r : CA} (hl : args.length ≤ 45) (h : wpV Try.prog TV ⟨45, shF, false, noLate⟩ (Try.f43.body.getD .skip) (endK Try.prog Try.f43.results.toList r) ⟨env0 args, []⟩) : TV.pu 43 args = some r := TT_go (N := ⟨45, shF, false, noLate⟩) Try.func43 (by kernel_rfl) ok43 (by kernel_rfl) (by kernel_rfl) (fun _ => rfl) hl h -- rillmeter/rillmeterref10.Equal
@[simp] theorem sh44 : shF 44 = false := by decide
theorem run44 {args : List CA} {r : CA} (hl : args.length ≤ 11) (h : wpV Try.prog TV ⟨11, shF, false, noLate⟩ (Try.f44.body.getD .skip) (endK Try.prog Try.f44.results.toList r) ⟨env0 args, []⟩) : TV.pu 44 args = some r := TT_go (N := ⟨11, shF, false, noLate⟩) Try.func44 (by kernel_rfl) ok44 (by kernel_rfl) (by kernel_rfl) (fun _ => rfl) hl h -- rillmeter/field.Add
@[simp] theorem sh45 : shF 45 = false := by decide
theorem run45 {args : List CA} {r : CA} (hl : args.length ≤ 24) (h : wpV Try.prog TV ⟨24, shF, false, noLate⟩ (Try.f45.body.getD .skip) (endK Try.prog Try.f45.results.toList r) ⟨env0 args, []⟩) : TV.pu 45 args = some r := TT_go (N := ⟨24, shF, false, noLate⟩) Try.func45 (by kernel_rfl) ok45 (by kernel_rfl) (by kernel_rfl) (fun _ => rfl) hl h -- rillmeter/field.Mul
@[simp] theorem sh46 : shF 46 = false := by decide
theorem run46 {args : List CA} {r : CA} (hl : args.length ≤ 30) (h : wpV Try.prog TV ⟨30, shF, false, noLate⟩ (Try.f46.body.getD .skip) (endK Try.prog Try.f46.results.toList r) ⟨env0 args, []⟩) : TV.pu 46 args = some r := TT_go (N := ⟨30, shF, false, noLate⟩) Try.func46 (by kernel_rfl) ok46 (by kernel_rfl) (by kernel_rfl) (fun _ => rfl) hl h -- math/bits.Mul
@[simp] theorem sh47 : shF 47 = false := by decide
theorem run47 {args : List CA} {r : CA} (hl : args.length ≤ 9) (h : wpV Try.prog TV ⟨9, shF, false, noLate⟩ (Try.f47.body.getD .skip) (endK Try.prog Try.f47.results.toList r) ⟨env0 args, []⟩) : TV.pu 47 args = some r := TT_go (N := ⟨9, shF, false, noLate⟩) Try.func47 (by kernel_rfl) ok47 (by kernel_rfl) (by kernel_rfl) (fun _ => rfl) hl h -- slices.ContainsFunc[[]int,int]
@[simp] theorem sh48 : shF 48 = true := by decide
@[simp] theorem cl48 : isCl Try.prog 48 = false := by kernel_rfl
theorem runX48 {args : List AV} {H : Hp} {Q : AV → Hp → Prop} (hl : args.length ≤ 29) (hQ : ∀ a K, Q a K → H.length ≤ K.length) (h : wpV Try.prog TV ⟨29, shF, false, noLate⟩ (Try.f48.body.getD .skip) (endX Try.prog Try.f48.results.toList Q) ⟨envS args, H⟩) : ∃ a K, TV.S 48 args H = some (a, K) ∧ Q a K := TT_goX (N := ⟨29, shF, false, noLate⟩) Try.func48 (by kernel_rfl) ok48 (by kernel_rfl) (by kernel_rfl) rfl hl (by kernel_rfl) hQ h -- rillmeter/bloom.Places
theorem run48 {args : List AV} {r : AV} {H H' : Hp} (hl : args.length ≤ 29) (hH : Gr Try.prog 48 H H') (h : wpV Try.prog TV ⟨29, shF, false, noLate⟩ (Try.f48.body.getD .skip) (endS Try.prog Try.f48.results.toList r H') ⟨envS args, H⟩) : TV.S 48 args H = some (r, H') := TT_goS (N := ⟨29, shF, false, noLate⟩) Try.func48 (by kernel_rfl) ok48 (by kernel_rfl) (by kernel_rfl) rfl hl hH h -- rillmeter/bloom.Places
@[simp] theorem sh49 : shF 49 = false := by decide
theorem run49 {args : List CA} {r : CA} (hl : args.length ≤ 10) (h : wpV Try.prog TV ⟨10, shF, false, noLate⟩ (Try.f49.body.getD .skip) (endK Try.prog Try.f49.results.toList r) ⟨env0 args, []⟩) : TV.pu 49 args = some r := TT_go (N := ⟨10, shF, false, noLate⟩) Try.func49 (by kernel_rfl) ok49 (by kernel_rfl) (by kernel_rfl) (fun _ => rfl) hl h -- rillmeter/bloom.Has$1
@[simp] theorem sh50 : shF 50 = true := by decide
@[simp] theorem cl50 : isCl Try.prog 50 = true := by kernel_rfl
theorem run50 {args : List AV} {r : AV} {H H' : Hp} (hl : args.length ≤ 8) (hH : Gr Try.prog 50 H H') (h : wpV Try.prog TV ⟨8, shF, false, noLate⟩ (Try.f50.body.getD .skip) (endS Try.prog Try.f50.results.toList r H') ⟨envS args, H⟩) : TV.S 50 args H = some (r, H') := TT_goS (N := ⟨8, shF, false, noLate⟩) Try.func50 (by kernel_rfl) ok50 (by kernel_rfl) (by kernel_rfl) rfl hl hH h -- slices.Clone[[]rillmeter/radar.Cell,rillmeter/radar.Cell]
@[simp] theorem sh51 : shF 51 = true := by decide
@[simp] theorem cl51 : isCl Try.prog 51 = true := by kernel_rfl
theorem run51 {args : List AV} {r : AV} {H H' : Hp} (hl : args.length ≤ 8) (hH : Gr Try.prog 51 H H') (h : wpV Try.prog TV ⟨8, shF, false, noLate⟩ (Try.f51.body.getD .skip) (endS Try.prog Try.f51.results.toList r H') ⟨envS args, H⟩) : TV.S 51 args H = some (r, H') := TT_goS (N := ⟨8, shF, false, noLate⟩) Try.func51 (by kernel_rfl) ok51 (by kernel_rfl) (by kernel_rfl) rfl hl hH h -- slices.Clone[[]bool,bool]
@[simp] theorem sh52 : shF 52 = false := by decide
theorem run52 {args : List CA} {r : CA} (hl : args.length ≤ 16) (h : wpV Try.prog TV ⟨16, shF, false, noLate⟩ (Try.f52.body.getD .skip) (endK Try.prog Try.f52.results.toList r) ⟨env0 args, []⟩) : TV.pu 52 args = some r := TT_go (N := ⟨16, shF, false, noLate⟩) Try.func52 (by kernel_rfl) ok52 (by kernel_rfl) (by kernel_rfl) (fun _ => rfl) hl h -- rillmeter/hash.Cell
@[simp] theorem sh53 : shF 53 = false := by decide
theorem run53 {args : List CA} {r : CA} (hl : args.length ≤ 30) (h : wpV Try.prog TV ⟨30, shF, false, noLate⟩ (Try.f53.body.getD .skip) (endK Try.prog Try.f53.results.toList r) ⟨env0 args, []⟩) : TV.pu 53 args = some r := TT_go (N := ⟨30, shF, false, noLate⟩) Try.func53 (by kernel_rfl) ok53 (by kernel_rfl) (by kernel_rfl) (fun _ => rfl) hl h -- rillmeter/radar.Place
@[simp] theorem sh54 : shF 54 = false := by decide
theorem run54 {args : List CA} {r : CA} (hl : args.length ≤ 93) (h : wpV Try.prog TV ⟨93, shF, false, lt54⟩ (Try.f54.body.getD .skip) (endK Try.prog Try.f54.results.toList r) ⟨env0 args, []⟩) : TV.pu 54 args = some r := TT_go (N := ⟨93, shF, false, lt54⟩) Try.func54 (by kernel_rfl) ok54 (by kernel_rfl) (by kernel_rfl) (fun _ => rfl) hl h -- rillmeter/solve.Solve
@[simp] theorem sh55 : shF 55 = false := by decide
theorem run55 {args : List CA} {r : CA} (hl : args.length ≤ 5) (h : wpV Try.prog TV ⟨5, shF, false, noLate⟩ (Try.f55.body.getD .skip) (endK Try.prog Try.f55.results.toList r) ⟨env0 args, []⟩) : TV.pu 55 args = some r := TT_go (N := ⟨5, shF, false, noLate⟩) Try.func55 (by kernel_rfl) ok55 (by kernel_rfl) (by kernel_rfl) (fun _ => rfl) hl h -- rillmeter/radar.Empty$1
@[simp] theorem sh56 : shF 56 = false := by decide
theorem run56 {args : List CA} {r : CA} (hl : args.length ≤ 11) (h : wpV Try.prog TV ⟨11, shF, false, noLate⟩ (Try.f56.body.getD .skip) (endK Try.prog Try.f56.results.toList r) ⟨env0 args, []⟩) : TV.pu 56 args = some r := TT_go (N := ⟨11, shF, false, noLate⟩) Try.func56 (by kernel_rfl) ok56 (by kernel_rfl) (by kernel_rfl) (fun _ => rfl) hl h -- rillmeter/radar.Empty$1$1
@[simp] theorem sh57 : shF 57 = false := by decide
theorem run57 {args : List CA} {r : CA} (hl : args.length ≤ 19) (h : wpV Try.prog TV ⟨19, shF, false, noLate⟩ (Try.f57.body.getD .skip) (endK Try.prog Try.f57.results.toList r) ⟨env0 args, []⟩) : TV.pu 57 args = some r := TT_go (N := ⟨19, shF, false, noLate⟩) Try.func57 (by kernel_rfl) ok57 (by kernel_rfl) (by kernel_rfl) (fun _ => rfl) hl h -- slices.IndexFunc[[][]rillmeter/radar.Cell,[]rillmeter/radar.Cell]
@[simp] theorem sh58 : shF 58 = false := by decide
theorem run58 {args : List CA} {r : CA} (hl : args.length ≤ 19) (h : wpV Try.prog TV ⟨19, shF, false, noLate⟩ (Try.f58.body.getD .skip) (endK Try.prog Try.f58.results.toList r) ⟨env0 args, []⟩) : TV.pu 58 args = some r := TT_go (N := ⟨19, shF, false, noLate⟩) Try.func58 (by kernel_rfl) ok58 (by kernel_rfl) (by kernel_rfl) (fun _ => rfl) hl h -- slices.IndexFunc[[]rillmeter/radar.Cell,rillmeter/radar.Cell]
@[simp] theorem sh59 : shF 59 = false := by decide
theorem run59 {args : List CA} {r : CA} (hl : args.length ≤ 19) (h : wpV Try.prog TV ⟨19, shF, false, noLate⟩ (Try.f59.body.getD .skip) (endK Try.prog Try.f59.results.toList r) ⟨env0 args, []⟩) : TV.pu 59 args = some r := TT_go (N := ⟨19, shF, false, noLate⟩) Try.func59 (by kernel_rfl) ok59 (by kernel_rfl) (by kernel_rfl) (fun _ => rfl) hl h -- slices.IndexFunc[[]rillmeter/radar.Radar,rillmeter/radar.Radar]
@[simp] theorem sh60 : shF 60 = false := by decide
theorem run60 {args : List CA} {r : CA} (hl : args.length ≤ 9) (h : wpV Try.prog TV ⟨9, shF, false, noLate⟩ (Try.f60.body.getD .skip) (endK Try.prog Try.f60.results.toList r) ⟨env0 args, []⟩) : TV.pu 60 args = some r := TT_go (N := ⟨9, shF, false, noLate⟩) Try.func60 (by kernel_rfl) ok60 (by kernel_rfl) (by kernel_rfl) (fun _ => rfl) hl h -- slices.Contains[[]string,string]
@[simp] theorem sh61 : shF 61 = false := by decide
@[simp] theorem sh62 : shF 62 = false := by decide
@[simp] theorem sh63 : shF 63 = false := by decide
theorem run63 {args : List CA} {r : CA} (hl : args.length ≤ 13) (h : wpV Try.prog TV ⟨13, shF, false, noLate⟩ (Try.f63.body.getD .skip) (endK Try.prog Try.f63.results.toList r) ⟨env0 args, []⟩) : TV.pu 63 args = some r := TT_go (N := ⟨13, shF, false, noLate⟩) Try.func63 (by kernel_rfl) ok63 (by kernel_rfl) (by kernel_rfl) (fun _ => rfl) hl h -- rillmeter/field.Of
@[simp] theorem sh64 : shF 64 = false := by decide
theorem run64 {args : List CA} {r : CA} (hl : args.length ≤ 51) (h : wpV Try.prog TV ⟨51, shF, false, noLate⟩ (Try.f64.body.getD .skip) (endK Try.prog Try.f64.results.toList r) ⟨env0 args, []⟩) : TV.pu 64 args = some r := TT_go (N := ⟨51, shF, false, noLate⟩) Try.func64 (by kernel_rfl) ok64 (by kernel_rfl) (by kernel_rfl) (fun _ => rfl) hl h -- math/bits.Mul64
@[simp] theorem sh65 : shF 65 = false := by decide
theorem run65 {args : List CA} {r : CA} (hl : args.length ≤ 17) (h : wpV Try.prog TV ⟨17, shF, false, noLate⟩ (Try.f65.body.getD .skip) (endK Try.prog Try.f65.results.toList r) ⟨env0 args, []⟩) : TV.pu 65 args = some r := TT_go (N := ⟨17, shF, false, noLate⟩) Try.func65 (by kernel_rfl) ok65 (by kernel_rfl) (by kernel_rfl) (fun _ => rfl) hl h -- math/bits.Mul32
@[simp] theorem sh66 : shF 66 = false := by decide
theorem run66 {args : List CA} {r : CA} (hl : args.length ≤ 19) (h : wpV Try.prog TV ⟨19, shF, false, noLate⟩ (Try.f66.body.getD .skip) (endK Try.prog Try.f66.results.toList r) ⟨env0 args, []⟩) : TV.pu 66 args = some r := TT_go (N := ⟨19, shF, false, noLate⟩) Try.func66 (by kernel_rfl) ok66 (by kernel_rfl) (by kernel_rfl) (fun _ => rfl) hl h -- slices.IndexFunc[[]int,int]
@[simp] theorem sh67 : shF 67 = false := by decide
theorem run67 {args : List CA} {r : CA} (hl : args.length ≤ 51) (h : wpV Try.prog TV ⟨51, shF, false, noLate⟩ (Try.f67.body.getD .skip) (endK Try.prog Try.f67.results.toList r) ⟨env0 args, []⟩) : TV.pu 67 args = some r := TT_go (N := ⟨51, shF, false, noLate⟩) Try.func67 (by kernel_rfl) ok67 (by kernel_rfl) (by kernel_rfl) (fun _ => rfl) hl h -- rillmeter/hash.Sum
@[simp] theorem sh68 : shF 68 = false := by decide
theorem run68 {args : List CA} {r : CA} (hl : args.length ≤ 12) (h : wpV Try.prog TV ⟨12, shF, false, noLate⟩ (Try.f68.body.getD .skip) (endK Try.prog Try.f68.results.toList r) ⟨env0 args, []⟩) : TV.pu 68 args = some r := TT_go (N := ⟨12, shF, false, noLate⟩) Try.func68 (by kernel_rfl) ok68 (by kernel_rfl) (by kernel_rfl) (fun _ => rfl) hl h -- rillmeter/solve.even
@[simp] theorem sh69 : shF 69 = true := by decide
@[simp] theorem cl69 : isCl Try.prog 69 = true := by kernel_rfl
theorem run69 {args : List AV} {r : AV} {H H' : Hp} (hb : cfg.base.S 69 args H = none) (hl : args.length ≤ 8) (hH : Gr Try.prog 69 H H') (h : wpV Try.prog TV ⟨8, shF, false, noLate⟩ (Try.f69.body.getD .skip) (endS Try.prog Try.f69.results.toList r H') ⟨envS args, H⟩) : TV.S 69 args H = some (r, H') := TT_goS (N := ⟨8, shF, false, noLate⟩) Try.func69 (by kernel_rfl) ok69 (by kernel_rfl) (by kernel_rfl) hb hl hH h -- slices.Clone[[]uint64,uint64]
@[simp] theorem sh70 : shF 70 = false := by decide
theorem run70 {args : List CA} {r : CA} (hl : args.length ≤ 197) (h : wpV Try.prog TV ⟨197, shF, true, noLate⟩ (Try.f70.body.getD .skip) (endK Try.prog Try.f70.results.toList r) ⟨env0 args, []⟩) : TV.pu 70 args = some r := TT_go (N := ⟨197, shF, true, noLate⟩) Try.func70 (by kernel_rfl) ok70 (by kernel_rfl) (by kernel_rfl) (fun _ => rfl) hl h -- rillmeter/solve.clear
@[simp] theorem sh71 : shF 71 = false := by decide
theorem run71 {args : List CA} {r : CA} (hl : args.length ≤ 19) (h : wpV Try.prog TV ⟨19, shF, false, noLate⟩ (Try.f71.body.getD .skip) (endK Try.prog Try.f71.results.toList r) ⟨env0 args, []⟩) : TV.pu 71 args = some r := TT_go (N := ⟨19, shF, false, noLate⟩) Try.func71 (by kernel_rfl) ok71 (by kernel_rfl) (by kernel_rfl) (fun _ => rfl) hl h -- slices.Index[[]string,string]
@[simp] theorem sh72 : shF 72 = false := by decide
@[simp] theorem sh73 : shF 73 = false := by decide
@[simp] theorem sh74 : shF 74 = false := by decide
@[simp] theorem sh75 : shF 75 = false := by decide
@[simp] theorem sh76 : shF 76 = false := by decide
@[simp] theorem sh77 : shF 77 = false := by decide
@[simp] theorem sh78 : shF 78 = false := by decide
@[simp] theorem sh79 : shF 79 = false := by decide
@[simp] theorem sh80 : shF 80 = false := by decide
@[simp] theorem sh81 : shF 81 = false := by decide
@[simp] theorem sh82 : shF 82 = false := by decide
@[simp] theorem sh83 : shF 83 = false := by decide
theorem run83 {args : List CA} {r : CA} (hl : args.length ≤ 22) (h : wpV Try.prog TV ⟨22, shF, false, noLate⟩ (Try.f83.body.getD .skip) (endK Try.prog Try.f83.results.toList r) ⟨env0 args, []⟩) : TV.pu 83 args = some r := TT_go (N := ⟨22, shF, false, noLate⟩) Try.func83 (by kernel_rfl) ok83 (by kernel_rfl) (by kernel_rfl) (fun _ => rfl) hl h -- rillmeter/field.Pow
@[simp] theorem sh84 : shF 84 = false := by decide
theorem run84 {args : List CA} {r : CA} (hl : args.length ≤ 9) (h : wpV Try.prog TV ⟨9, shF, false, noLate⟩ (Try.f84.body.getD .skip) (endK Try.prog Try.f84.results.toList r) ⟨env0 args, []⟩) : TV.pu 84 args = some r := TT_go (N := ⟨9, shF, false, noLate⟩) Try.func84 (by kernel_rfl) ok84 (by kernel_rfl) (by kernel_rfl) (fun _ => rfl) hl h -- slices.ContainsFunc[[][]uint64,[]uint64]
@[simp] theorem sh85 : shF 85 = false := by decide
theorem run85 {args : List CA} {r : CA} (hl : args.length ≤ 16) (h : wpV Try.prog TV ⟨16, shF, false, noLate⟩ (Try.f85.body.getD .skip) (endK Try.prog Try.f85.results.toList r) ⟨env0 args, []⟩) : TV.pu 85 args = some r := TT_go (N := ⟨16, shF, false, noLate⟩) Try.func85 (by kernel_rfl) ok85 (by kernel_rfl) (by kernel_rfl) (fun _ => rfl) hl h -- rillmeter/solve.even$1
@[simp] theorem sh86 : shF 86 = false := by decide
theorem run86 {args : List CA} {r : CA} (hl : args.length ≤ 9) (h : wpV Try.prog TV ⟨9, shF, false, noLate⟩ (Try.f86.body.getD .skip) (endK Try.prog Try.f86.results.toList r) ⟨env0 args, []⟩) : TV.pu 86 args = some r := TT_go (N := ⟨9, shF, false, noLate⟩) Try.func86 (by kernel_rfl) ok86 (by kernel_rfl) (by kernel_rfl) (fun _ => rfl) hl h -- rillmeter/field.Inv
@[simp] theorem sh87 : shF 87 = false := by decide
theorem run87 {args : List CA} {r : CA} (hl : args.length ≤ 12) (h : wpV Try.prog TV ⟨12, shF, false, noLate⟩ (Try.f87.body.getD .skip) (endK Try.prog Try.f87.results.toList r) ⟨env0 args, []⟩) : TV.pu 87 args = some r := TT_go (N := ⟨12, shF, false, noLate⟩) Try.func87 (by kernel_rfl) ok87 (by kernel_rfl) (by kernel_rfl) (fun _ => rfl) hl h -- rillmeter/field.Sub
@[simp] theorem sh88 : shF 88 = false := by decide
@[simp] theorem sh89 : shF 89 = false := by decide
@[simp] theorem sh90 : shF 90 = false := by decide
@[simp] theorem sh91 : shF 91 = false := by decide
@[simp] theorem sh92 : shF 92 = false := by decide
@[simp] theorem sh93 : shF 93 = false := by decide
@[simp] theorem sh94 : shF 94 = false := by decide
theorem run94 {args : List CA} {r : CA} (hl : args.length ≤ 19) (h : wpV Try.prog TV ⟨19, shF, false, noLate⟩ (Try.f94.body.getD .skip) (endK Try.prog Try.f94.results.toList r) ⟨env0 args, []⟩) : TV.pu 94 args = some r := TT_go (N := ⟨19, shF, false, noLate⟩) Try.func94 (by kernel_rfl) ok94 (by kernel_rfl) (by kernel_rfl) (fun _ => rfl) hl h -- slices.IndexFunc[[][]uint64,[]uint64]
@[simp] theorem sh95 : shF 95 = false := by decide
end Go.Proofs.YtmgnmnogiajlgaaF
end

section
/- A law's arguments, read as data, are closed values; and what a law tells of them stands in the statement's form. -/
namespace Go.Proofs.Vm
open Go Go.RowKit Go.ChangeShapes Go.WideShapes

def All (w : World) : Nat → Prop := fun b => b < w.heap.size

/-- Whatever reads as data of type T is so many closed cells, that are good. -/
def Opens (P : Program) (T : TypeId) (sz : Nat) (good : List CV → Prop) : Prop :=
  ∀ (H : Type) (enc : TypeId × Value → H) (W : World) (spare : Nat → Bool) (held : Bool) (fuel : Nat) (cs : List Value) (x : DataW H × List MemPlace),
    DataW.trod enc P W 0 spare held fuel T cs = some x → (∀ q ∈ DataW.weights P T x.1, q ≤ 140737488351232) → ∃ l : List CV, RKs (All W) W l cs ∧ l.length = sz ∧ good l

variable {P : Program}

theorem rks_one {I : Nat → Prop} {w : World} {x : CV} {v : Value} (h : RC I w x v) : RKs I w [x] [v] := by
  refine ⟨rfl, fun j y z hy hz => ?_⟩
  cases j with
  | zero => cases hy; cases hz; exact h
  | succ j => simp at hy
theorem rks_append {I : Nat → Prop} {w : World} {l m : List CV} {vs us : List Value} (h : RKs I w l vs) (k : RKs I w m us) : RKs I w (l ++ m) (vs ++ us) := by
  refine ⟨by simp [h.1, k.1], fun j x y hx hy => ?_⟩
  by_cases hj : j < l.length
  · rw [List.getElem?_append_left hj] at hx
    rw [List.getElem?_append_left (by rw [← h.1]; exact hj)] at hy
    exact h.2 j x y hx hy
  · rw [List.getElem?_append_right (by omega)] at hx
    rw [List.getElem?_append_right (by rw [← h.1]; omega), ← h.1] at hy
    exact k.2 _ x y hx hy

def isI (k : IntKind) (l : List CV) : Prop := ∃ n, l = [.v (.int k n)] ∧ (Lit.int k n).wf = true
def isB (l : List CV) : Prop := ∃ b, l = [.v (.bool b)]
def isS (l : List CV) : Prop := ∃ s : ByteArray, l = [.v (.string s)] ∧ s.size ≤ 140737488351232
def isL (sz bytes : Nat) (good : List CV → Prop) (l : List CV) : Prop := ∃ L : List (List CV), l = [.arr L] ∧ (∀ e ∈ L, e.length = sz ∧ good e) ∧ L.length * bytes ≤ 140737488351232
def isP (good good' : List CV → Prop) (l : List CV) : Prop := ∃ a b, l = a ++ b ∧ good a ∧ good' b

theorem opens_int {T : TypeId} {k : IntKind} (ht : P.underlying T = some (.int k)) : Opens P T 1 (isI k) := by
  intro H enc W spare held fuel cs x h _
  obtain ⟨n, rfl, _, hw⟩ := DataW.trod_int ht h
  exact ⟨_, rks_one (.v _ rfl), rfl, n, rfl, hw⟩
theorem opens_bool {T : TypeId} (ht : P.underlying T = some .bool) : Opens P T 1 isB := by
  intro H enc W spare held fuel cs x h _
  obtain ⟨n, rfl, _⟩ := DataW.trod_bool ht h
  exact ⟨_, rks_one (.v _ rfl), rfl, n, rfl⟩
theorem opens_string {T : TypeId} (ht : P.underlying T = some .string) : Opens P T 1 isS := by
  intro H enc W spare held fuel cs x h hq
  obtain ⟨s, rfl, rfl, _⟩ := DataW.trod_string ht h
  have h1 := hq s.data.toList.length (by simp [DataW.weights])
  rw [Array.length_toList] at h1
  exact ⟨_, rks_one (.v _ rfl), rfl, s, rfl, h1⟩
theorem cells_at {W : World} {a : Addr} {n : Nat} {cs : List Value} (h : W.cells? 0 a n = some cs) : cs.length = n ∧ ∀ i u, cs[i]? = some u → W.cell? (a.add i) = some u := by
  unfold World.cells? at h
  rw [if_pos (Nat.zero_le _)] at h
  have hl : cs.length = n := by have := mapM_some_length h; simpa using this
  refine ⟨hl, fun i u hu => ?_⟩
  have hi : i < n := by have := (List.getElem?_eq_some_iff.1 hu).1; omega
  have h1 := mapM_some_get h i i (by simp [hi])
  rw [h1, hu]
theorem weights_all {H : Type} {e : TypeId} {l : List (DataW H)} {d : DataW H} (hd : d ∈ l) : ∀ q ∈ DataW.weights P e d, q ∈ DataW.weightsAll P e l := by
  induction l with
  | nil => cases hd
  | cons y t ih =>
    intro q hq
    simp only [DataW.weightsAll, List.mem_append]
    rcases List.mem_cons.1 hd with rfl | h
    · exact .inl hq
    · exact .inr (ih h q hq)
theorem opens_slice {T e : TypeId} {sz bytes : Nat} {good : List CV → Prop} (ht : P.underlying T = some (.slice e)) (hc : P.cellsOf e = sz) (hz : 0 < sz) (hb : P.bytesOf e = bytes) (he : Opens P e sz good) : Opens P T 1 (isL sz bytes good) := by
  intro H enc W spare held fuel cs x h hq
  rcases Go.Deep.open_slice ht h with ⟨rfl, rfl⟩ | ⟨a, len, cap, m, n, D, Pl, rfl, _, hlc, hcap, hm, rfl, hel⟩
  · refine ⟨[.arr []], rks_one (.arr [] none 0 0 (fun _ _ => .bool false) (Nat.le_refl _) (by simp) (by simp) (by simp)), rfl, [], rfl, by simp, by simp⟩
  · have hlm : len ≤ m := by rw [hm]; split <;> omega
    simp only [DataW.weights, ht, List.mem_cons, List.mem_append] at hq
    obtain ⟨F, hF⟩ := Go.Deep.choose_lt (α := List CV × List Value) (n := len) (p := fun i y => W.cells? 0 (a.add (i * P.cellsOf e)) (P.cellsOf e) = some y.2 ∧ RKs (All W) W y.1 y.2 ∧ y.1.length = sz ∧ good y.1) (fun i hi => by
      obtain ⟨cs', h1, h2⟩ := hel i (by omega)
      obtain ⟨l, hl, hs, hg⟩ := he H enc W spare held n cs' (D i, Pl i) h2 (fun q hq1 => hq q (.inr (.inl (weights_all (List.mem_map.2 ⟨i, List.mem_range.2 hi, rfl⟩) q hq1))))
      exact ⟨(l, cs'), h1, hl, hs, hg⟩)
    have hw : len * bytes ≤ 140737488351232 := by
      have h1 := hq _ (.inl rfl)
      rw [hb] at h1
      refine Nat.le_trans (Nat.mul_le_mul_right _ ?_) h1
      simp
    have hlen : ((List.range len).map fun i => (F i).1).length = len := by simp
    have get : ∀ (i : Nat) e, ((List.range len).map fun i => (F i).1)[i]? = some e → i < len ∧ e = (F i).1 := by
      intro i e hi
      have hl := (List.getElem?_eq_some_iff.1 hi).1
      rw [hlen] at hl
      rw [List.getElem?_map, List.getElem?_range hl] at hi
      cases hi
      exact ⟨hl, rfl⟩
    have cell : ∀ i j, i < len → j < sz → W.cell? ((a.add (i * sz)).add j) = some ((F i).2.getD j (.bool false)) := by
      intro i j hi hj
      obtain ⟨h1, h2, h3, _⟩ := hF i hi
      obtain ⟨k1, k2⟩ := cells_at h1
      rw [hc] at k1 k2
      refine k2 j _ ?_
      rw [List.getD_eq_getElem?_getD, List.getElem?_eq_getElem (by omega)]
      rfl
    have key : RC (All W) W (.arr ((List.range len).map fun i => (F i).1)) (.slice (some a) ((List.range len).map fun i => (F i).1).length cap) := by
      refine .arr _ (some a) cap sz (fun i j => (F i).2.getD j (.bool false)) (by rw [hlen]; exact hlc) (fun e he => ?_) (fun hn => ?_) (fun i j e x hi hx => ?_)
      · obtain ⟨i, hi⟩ := List.getElem?_of_mem he
        obtain ⟨hl, rfl⟩ := get i e hi
        exact (hF i hl).2.2.1
      · have hp : 0 < len := by
          rcases Nat.eq_zero_or_pos len with h0 | h0
          · subst h0; exact absurd rfl hn
          · exact h0
        have c0 := cell 0 0 hp hz
        have hadd : ∀ k, a.spot = none → a.add k = ⟨a.block, a.off + k, none⟩ := fun k hs => by
          obtain ⟨b, o, s⟩ := a
          cases hs
          simp [Addr.add]
        have hs : a.spot = none := by
          simp only [Nat.zero_mul] at c0
          rw [show (a.add 0).add 0 = a by simp [Addr.add]] at c0
          unfold World.cell? at c0
          split at c0
          · split at c0
            · cases c0
            · rename_i h0; simpa using h0
          · cases c0
        refine ⟨a.block, a.off, by obtain ⟨b, o, s⟩ := a; cases hs; rfl, ?_, fun i j hi hj => ?_⟩
        · simp only [Nat.zero_mul] at c0
          rw [show (a.add 0).add 0 = a by simp [Addr.add]] at c0
          show a.block < W.heap.size
          unfold World.cell? at c0
          rcases Nat.lt_or_ge a.block W.heap.size with h0 | h0
          · exact h0
          · rw [Array.getElem?_eq_none h0] at c0; cases c0
        · have := cell i j (by rw [hlen] at hi; exact hi) hj
          rw [Addr.add_add, hadd _ hs] at this
          rw [← this]
      · obtain ⟨hl, rfl⟩ := get i e hi
        obtain ⟨h1, h2, h3, _⟩ := hF i hl
        have hj : j < (F i).1.length := (List.getElem?_eq_some_iff.1 hx).1
        have hj2 : j < (F i).2.length := by rw [← h2.1]; exact hj
        refine h2.2 j x _ hx ?_
        rw [List.getD_eq_getElem?_getD, List.getElem?_eq_getElem hj2]
        rfl
    rw [hlen] at key
    refine ⟨_, rks_one key, rfl, _, rfl, fun e he => ?_, by rw [hlen]; exact hw⟩
    obtain ⟨i, hi⟩ := List.getElem?_of_mem he
    obtain ⟨hl, rfl⟩ := get i e hi
    exact (hF i hl).2.2
/-- The fields of a struct, from a place on. -/
def OpensAt (P : Program) (fs : List Field) (o sz : Nat) (good : List CV → Prop) : Prop :=
  ∀ (H : Type) (enc : TypeId × Value → H) (W : World) (spare : Nat → Bool) (held : Bool) (n : Nat) (cs : List Value), cs.length = o + sz →
    (∀ f ∈ fs, ∃ y : DataW H × List MemPlace, DataW.trod enc P W 0 spare held n f.type ((cs.drop f.offset).take (P.cellsOf f.type)) = some y ∧ ∀ q ∈ DataW.weights P f.type y.1, q ≤ 140737488351232) →
    ∃ l : List CV, RKs (All W) W l (cs.drop o) ∧ l.length = sz ∧ good l
theorem at_one {f : Field} {o sz : Nat} {good : List CV → Prop} (ho : f.offset = o) (hc : P.cellsOf f.type = sz) (hf : Opens P f.type sz good) : OpensAt P [f] o sz good := by
  intro H enc W spare held n cs hl h
  obtain ⟨y, hy, hq⟩ := h f List.mem_cons_self
  obtain ⟨a, hK, hg⟩ := hf H enc W spare held n _ y hy hq
  rw [ho, hc, List.take_of_length_le (by rw [List.length_drop]; omega)] at hK
  exact ⟨a, hK, hg⟩
theorem at_cons {f : Field} {fs : List Field} {o sz sz' : Nat} {good good' : List CV → Prop} (ho : f.offset = o) (hc : P.cellsOf f.type = sz) (hf : Opens P f.type sz good) (hfs : OpensAt P fs (o + sz) sz' good') :
    OpensAt P (f :: fs) o (sz + sz') (isP good good') := by
  intro H enc W spare held n cs hl h
  obtain ⟨y, hy, hq⟩ := h f List.mem_cons_self
  obtain ⟨a, hK, hs, hg⟩ := hf H enc W spare held n _ y hy hq
  obtain ⟨b, hK', hs', hg'⟩ := hfs H enc W spare held n cs (by rw [hl]; omega) (fun f' hf' => h f' (List.mem_cons_of_mem _ hf'))
  rw [ho, hc] at hK
  refine ⟨a ++ b, ?_, by simp [hs, hs'], a, b, rfl, hg, hg'⟩
  have := rks_append hK hK'
  rwa [← List.drop_drop, List.take_append_drop] at this
theorem opens_struct {T : TypeId} {fs : Array Field} {sz : Nat} {good : List CV → Prop} (ht : P.underlying T = some (.struct fs)) (hc : P.cellsOf T = sz) (hf : OpensAt P fs.toList 0 sz good) : Opens P T sz good := by
  intro H enc W spare held fuel cs x h hq
  obtain ⟨xs, n, _, rfl, hl, hlen, hget⟩ := DataW.trod_struct ht h
  obtain ⟨a, hK, hg⟩ := hf H enc W spare held n cs (by rw [hl, hc, Nat.zero_add]) (fun f hfm => by
    obtain ⟨i, hi, rfl⟩ := List.getElem_of_mem hfm
    have hi' : i < fs.size := by simpa using hi
    have h1 := hget i fs[i] (by simp [hi'])
    have hi2 : i < xs.length := by omega
    refine ⟨xs[i], by rw [← List.getElem?_eq_getElem hi2, ← h1]; simp, fun q hq1 => hq q ?_⟩
    simp only [DataW.weights, ht]
    refine DataW.weights_mem_each (j := i) (t := fs[i].type) (d := xs[i].1) ?_ ?_ q (by simpa using hq1)
    · simp [hi']
    · simp [hi2])
  exact ⟨a, by simpa using hK, hg⟩

/-- An argument of type T is a closed value that is good. -/
def OpA (P : Program) (T : TypeId) (good : CA → Prop) : Prop :=
  ∀ (H : Type) (enc : TypeId × Value → H) (W : World) (base : Nat) (v : Value) (d : DataW H) (ps : List MemPlace), DataW.Trod enc P W 0 (fun _ => true) true T v d ps → Value.okWide P W .any base T v → (∀ q ∈ DataW.weights P T d, q ≤ 140737488351232) →
    ∃ a : CA, RK (All W) W a v ∧ good a

theorem opA_one {T : TypeId} {good : List CV → Prop} (hn : ∀ fs, P.underlying T ≠ some (.struct fs)) (hn2 : ∀ n e, P.underlying T ≠ some (.array n e)) (h : Opens P T 1 good) : OpA P T (fun a => ∃ x, a = .one x ∧ good [x]) := by
  intro H enc W base v d ps ⟨fuel, hf⟩ hok hq
  obtain ⟨l, hl, hs, hg⟩ := h H enc W _ _ fuel _ _ hf hq
  match l, hs with
  | [x], _ =>
    refine ⟨.one x, ?_, x, rfl, hg⟩
    have hl1 : v.cells.toList.length = 1 := by rw [← hl.1]; rfl
    have hv : v.cells = #[v] := by
      unfold Value.okWide at hok
      split at hok
      · rename_i fs h0; exact absurd h0 (hn fs)
      · rename_i n e h0; exact absurd h0 (hn2 _ _)
      · unfold Cell.okWide Cell.ok at hok
        cases v <;> first | rfl | (exfalso; revert hok; split <;> simp_all)
    rw [hv] at hl
    exact hl.2 0 x v rfl rfl
theorem opA_agg {T : TypeId} {fs : Array Field} {sz : Nat} {good : List CV → Prop} (ht : P.underlying T = some (.struct fs)) (h : Opens P T sz good) : OpA P T (fun a => ∃ l, a = .agg l ∧ l.length = sz ∧ good l) := by
  intro H enc W base v d ps ⟨fuel, hf⟩ hok hq
  obtain ⟨l, hl, hs, hg⟩ := h H enc W _ _ fuel _ _ hf hq
  refine ⟨.agg l, ?_, l, rfl, hs, hg⟩
  obtain ⟨cs, rfl, _⟩ := okWide_struct ht hok
  exact ⟨cs.toList, by simp, hl⟩

/-- The arguments of a function. -/
def OpAll (P : Program) (ts : List TypeId) (good : List CA → Prop) : Prop :=
  ∀ (H : Type) (enc : TypeId × Value → H) (W : World) (base : Nat) (vs : List Value) (ds : List (DataW H)) (ps : List MemPlace), DataW.TrodAll enc P W 0 (fun _ => true) true ts vs ds ps →
    (∀ (j : Nat) t v, ts[j]? = some t → vs[j]? = some v → Value.okWide P W .any base t v) → (∀ (j : Nat) t d, ts[j]? = some t → ds[j]? = some d → ∀ q ∈ DataW.weights P t d, q ≤ 140737488351232) →
    ∃ l : List CA, RKL (All W) W l vs ∧ good l
theorem opAll_nil : OpAll P [] (fun l => l = []) := by
  intro H enc W base vs ds ps h _ _
  obtain ⟨rfl, _, _⟩ := trodAll_nil h
  exact ⟨[], ⟨rfl, fun j x y hx => by simp at hx⟩, rfl⟩
theorem opAll_cons {T : TypeId} {ts : List TypeId} {g : CA → Prop} {gs : List CA → Prop} (h : OpA P T g) (hs : OpAll P ts gs) : OpAll P (T :: ts) (fun l => ∃ a r, l = a :: r ∧ g a ∧ gs r) := by
  intro H enc W base vs ds ps ht hok hq
  obtain ⟨v, vs, d, ds, p, q, rfl, rfl, rfl, h0, r0⟩ := trodAll_cons ht
  obtain ⟨a, hK, hg⟩ := h H enc W base v d p h0 (hok 0 T v rfl rfl) (hq 0 T d rfl rfl)
  obtain ⟨l, hL, hgs⟩ := hs H enc W base vs ds q r0 (fun j t v h1 h2 => hok (j + 1) t v h1 h2) (fun j t v h1 h2 => hq (j + 1) t v h1 h2)
  refine ⟨a :: l, ⟨by simp [hL.1], fun j x y hx hy => ?_⟩, a, l, rfl, hg, hgs⟩
  cases j with
  | zero => cases hx; cases hy; exact hK
  | succ j => exact hL.2 j x y hx hy

/-- Old memory reads as it did. -/
theorem trodAll_stays {H : Type} {enc : TypeId × Value → H} (hl : laidOutB P = true) {W W' : World} (hb : ∀ b, b < W.heap.size → W'.heap[b]? = W.heap[b]?) :
    ∀ {ts : List TypeId} {vs : List Value} {ds : List (DataW H)} {ps : List MemPlace}, ts.all (fun t => P.readableRec t && decide (t < P.types.size)) = true → DataW.TrodAll enc P W 0 (fun _ => true) true ts vs ds ps →
      DataW.TrodAll enc P W' 0 (fun b => decide (b < W.heap.size)) true ts vs ds ps
  | [], vs, ds, ps, _, h => by
    obtain ⟨rfl, rfl, rfl⟩ := trodAll_nil h
    exact trodAll_mk0
  | t :: ts, vs, ds, ps, hr, h => by
    obtain ⟨v, vs, d, ds, p, q, rfl, rfl, rfl, h0, r0⟩ := trodAll_cons h
    simp only [List.all_cons, Bool.and_eq_true, decide_eq_true_eq] at hr
    have lt0 : ∀ x ∈ p, x.block < W.heap.size := by obtain ⟨m, hm⟩ := h0; exact DataW.trod_lt m _ _ _ hm
    refine trodAll_cons_mk (WideElems.Trod_stays hl hr.1.1 hr.1.2 h0 (fun x hx => ?_) (fun x hx => by simpa using lt0 x hx)) (trodAll_stays hl hb hr.2 r0)
    have hlt := lt0 x hx
    exact (Below.same (W := W) (w' := { W with heap := W'.heap }) ⟨rfl, rfl, rfl, by
      rcases Nat.lt_or_ge W'.heap.size W.heap.size with h1 | h1
      · have := hb W'.heap.size h1
        rw [Array.getElem?_eq_none (Nat.le_refl _), Array.getElem?_eq_getElem h1] at this
        cases this
      · exact h1, hb⟩ hlt : W.sameAt { W with heap := W'.heap } x)

theorem kept_of {W W' : World} (hk : Stl W W') (hb : ∀ b, b < W.heap.size → W'.heap[b]? = W.heap[b]?) (may : MemPlace → Prop) : W.keptBut W' may := by
  refine ⟨hk.1.1, hk.2.1, fun i hi => ?_⟩
  rw [hb i hi]
  split <;> simp_all

/-- WHAT A FUNCTION TELLS of whatever arguments. -/
theorem lift_law {T : Tab} (hT : PuOk P T) {f : FuncId} {ts : List TypeId} {good : List CA → Prop} (hl : laidOutB P = true) (hr : ts.all (fun t => P.readableRec t && decide (t < P.types.size)) = true) (ho : OpAll P ts good)
    {r : CA} (hp : ∀ l, good l → T.pu f l = some r) {H : Type} {enc : TypeId × Value → H} {W : World} {base : Nat} {args : Array Value} {ds : List (DataW H)} {ps : List MemPlace} (ht : DataW.TrodAll enc P W 0 (fun _ => true) true ts args.toList ds ps)
    (hok : ∀ (j : Nat) t v, ts[j]? = some t → args[j]? = some v → Value.okWide P W .any base t v) (hq : ∀ (j : Nat) t d, ts[j]? = some t → ds[j]? = some d → ∀ q ∈ DataW.weights P t d, q ≤ 140737488351232) (hTb : Tabs W.heap.size W) :
    Calls P f args W fun e W' => ∃ v I', e = .returned v ∧ RK I' W' r v ∧ Stl W W' ∧ (∀ b, b < W.heap.size → W'.heap[b]? = W.heap[b]?) ∧ DataW.TrodAll enc P W' 0 (fun b => decide (b < W.heap.size)) true ts args.toList ds ps := by
  obtain ⟨l, hL, hg⟩ := ho H enc W base args.toList ds ps ht (fun j t v h1 h2 => hok j t v h1 (by simpa using h2)) hq
  obtain ⟨_, hc⟩ := hT f l r (hp l hg)
  have := hc (All W) W args.toList (fun _ h => h) hTb hL
  refine (show Calls P f args W _ from this).mono fun e W' he => ?_
  obtain ⟨v, I', rfl, _, _, _, _, hb, hk, hR⟩ := he
  exact ⟨v, I', rfl, hR, hk, hb, trodAll_stays hl hb hr ht⟩

theorem trodAll_len {H : Type} {enc : TypeId × Value → H} {W : World} {base : Nat} {spare : Nat → Bool} {held : Bool} : ∀ {ts : List TypeId} {vs : List Value} {ds : List (DataW H)} {ps : List MemPlace}, DataW.TrodAll enc P W base spare held ts vs ds ps → ds.length = ts.length
  | [], vs, ds, ps, h => by
    obtain ⟨_, rfl, _⟩ := trodAll_nil h
    rfl
  | t :: ts, vs, ds, ps, h => by
    obtain ⟨v, vs, d, ds, p, q, rfl, rfl, rfl, _, r0⟩ := trodAll_cons h
    rw [List.length_cons, List.length_cons, trodAll_len r0]
theorem weights_of {H : Type} {ts us : List TypeId} {ds gs : List (DataW H)} (hsz : (DataW.weightsEach P (ts ++ us) (ds ++ gs)).all (· ≤ reachBytes) = true) (j : Nat) (t : TypeId) (d : DataW H) (ht : ts[j]? = some t) (hd : ds[j]? = some d) :
    ∀ q ∈ DataW.weights P t d, q ≤ 140737488351232 := by
  intro q hq
  have h1 : (ts ++ us)[j]? = some t := by rw [List.getElem?_append_left (List.getElem?_eq_some_iff.1 ht).1]; exact ht
  have h2 : (ds ++ gs)[j]? = some d := by rw [List.getElem?_append_left (List.getElem?_eq_some_iff.1 hd).1]; exact hd
  have h3 := of_decide_eq_true (List.all_eq_true.1 hsz q (DataW.weights_mem_each h1 h2 q hq))
  simpa [reachBytes] using h3

/-- A list of good parts is the list of what they tell. -/
theorem map_of {α : Type} {f : α → List CV} {g : α → Prop} : ∀ {L : List (List CV)}, (∀ e ∈ L, ∃ a, e = f a ∧ g a) → ∃ xs : List α, L = xs.map f ∧ ∀ x ∈ xs, g x
  | [], _ => ⟨[], rfl, by simp⟩
  | e :: L, h => by
    obtain ⟨a, rfl, ha⟩ := h e List.mem_cons_self
    obtain ⟨xs, rfl, hx⟩ := map_of (L := L) fun e he => h e (List.mem_cons_of_mem _ he)
    exact ⟨a :: xs, rfl, fun x hx' => (List.mem_cons.1 hx').elim (fun h => h ▸ ha) (hx x)⟩

end Go.Proofs.Vm
end

section
/- How data of the laws' parameter types open as closed values. -/
namespace Go.Proofs.YtmgnmnogiajlgaaF
open Go Go.Proofs.Vm
def good24 : List CV → Prop := isP (isI .u64) (isP (isI .i64) (isP (isI .i64) (isP (isI .i64) ((isI .i64)))))
theorem opens24 : Opens Try.prog 24 5 good24 := opens_struct Try.underlying24 (by kernel_rfl) (at_cons (sz := 1) (sz' := 4) rfl (by kernel_rfl) (opens_int Try.underlying22) (at_cons (sz := 1) (sz' := 3) rfl (by kernel_rfl) (opens_int Try.underlying3) (at_cons (sz := 1) (sz' := 2) rfl (by kernel_rfl) (opens_int Try.underlying3) (at_cons (sz := 1) (sz' := 1) rfl (by kernel_rfl) (opens_int Try.underlying3) (at_one (sz := 1) rfl (by kernel_rfl) (opens_int Try.underlying3))))))
def good38 : List CV → Prop := isP (isI .i64) (isP (isS) ((isI .i64)))
theorem opens38 : Opens Try.prog 38 3 good38 := opens_struct Try.underlying38 (by kernel_rfl) (at_cons (sz := 1) (sz' := 2) rfl (by kernel_rfl) (opens_int Try.underlying3) (at_cons (sz := 1) (sz' := 1) rfl (by kernel_rfl) (opens_string Try.underlying9) (at_one (sz := 1) rfl (by kernel_rfl) (opens_int Try.underlying3))))
def good25 : List CV → Prop := isL 3 32 (good38)
theorem opens25 : Opens Try.prog 25 1 good25 := opens_slice Try.underlying25 (by kernel_rfl) (by decide) (by kernel_rfl) opens38
def good26 : List CV → Prop := isL 1 1 (isB)
theorem opens26 : Opens Try.prog 26 1 good26 := opens_slice Try.underlying26 (by kernel_rfl) (by decide) (by kernel_rfl) (opens_bool Try.underlying4)
def good28 : List CV → Prop := isP (isI .u64) (isP (isI .i64) ((good26)))
theorem opens28 : Opens Try.prog 28 3 good28 := opens_struct Try.underlying28 (by kernel_rfl) (at_cons (sz := 1) (sz' := 2) rfl (by kernel_rfl) (opens_int Try.underlying22) (at_cons (sz := 1) (sz' := 1) rfl (by kernel_rfl) (opens_int Try.underlying3) (at_one (sz := 1) rfl (by kernel_rfl) opens26)))
def good73 : List CV → Prop := isP (isS) (isP (isI .i64) (isP (isI .i64) ((isI .i64))))
theorem opens73 : Opens Try.prog 73 4 good73 := opens_struct Try.underlying73 (by kernel_rfl) (at_cons (sz := 1) (sz' := 3) rfl (by kernel_rfl) (opens_string Try.underlying9) (at_cons (sz := 1) (sz' := 2) rfl (by kernel_rfl) (opens_int Try.underlying3) (at_cons (sz := 1) (sz' := 1) rfl (by kernel_rfl) (opens_int Try.underlying3) (at_one (sz := 1) rfl (by kernel_rfl) (opens_int Try.underlying3)))))
def good70 : List CV → Prop := isL 4 40 (good73)
theorem opens70 : Opens Try.prog 70 1 good70 := opens_slice Try.underlying70 (by kernel_rfl) (by decide) (by kernel_rfl) opens73
def good29 : List CV → Prop := isL 1 24 (good70)
theorem opens29 : Opens Try.prog 29 1 good29 := opens_slice Try.underlying29 (by kernel_rfl) (by decide) (by kernel_rfl) opens70
def good31 : List CV → Prop := isP (isI .u64) (isP (good28) ((good29)))
theorem opens31 : Opens Try.prog 31 5 good31 := opens_struct Try.underlying31 (by kernel_rfl) (at_cons (sz := 1) (sz' := 4) rfl (by kernel_rfl) (opens_int Try.underlying22) (at_cons (sz := 3) (sz' := 1) rfl (by kernel_rfl) opens28 (at_one (sz := 1) rfl (by kernel_rfl) opens29)))
def goodsJointTrue : List CA → Prop := (fun l => ∃ a r, l = a :: r ∧ (fun a => ∃ l, a = .agg l ∧ l.length = 5 ∧ good24 l) a ∧ (fun l => ∃ a r, l = a :: r ∧ (fun a => ∃ x, a = .one x ∧ good25 [x]) a ∧ (fun l => l = []) r) r)
theorem opensJointTrue : OpAll Try.prog [24, 25] goodsJointTrue := (opAll_cons (opA_agg Try.underlying24 opens24) (opAll_cons (opA_one (fun _ h => by rw [Try.underlying25] at h; cases h) (fun _ _ h => by rw [Try.underlying25] at h; cases h) opens25) opAll_nil))
def goodsJointAlone : List CA → Prop := (fun l => ∃ a r, l = a :: r ∧ (fun a => ∃ l, a = .agg l ∧ l.length = 5 ∧ good31 l) a ∧ (fun l => l = []) r)
theorem opensJointAlone : OpAll Try.prog [31] goodsJointAlone := (opAll_cons (opA_agg Try.underlying31 opens31) opAll_nil)
end Go.Proofs.YtmgnmnogiajlgaaF
end

section
/-
  DERIVED: THE SHELF's CONTRACTS AT THIS DUMP, IN PLAIN WORDS (tools/lay-plain.mjs out of 'YtmgnmnogiajlgaaShelfSrc.lean', which tools/lay-shelf.mjs wrote): THE SAME DECLARATIONS UNDER THE SAME NAMES: 'import', 'namespace', 'open', 'def', 'theorem' AND NOTHING ELSE: no command of the shelf's: FOR A HAND-IN. Each laying: the table of numbers ('.._ren') and one theorem, a field a fact of the dump's own or the kernel's comparison; each contract: ONE APPLICATION.
-/
namespace Go.Proofs
open Go.Shelf
def Try.lays190_ren : Go.Shelf.Ren := ⟨fun | 190 => 40 | 125 => 62 | 258 => 61 | 128 => 81 | 129 => 82 | 302 => 72 | 303 => 73 | 304 => 74 | 305 => 75 | 306 => 76 | 307 => 77 | 308 => 78 | 309 => 79 | 310 => 80 | 333 => 88 | 329 => 89 | 330 => 90 | 334 => 91 | 335 => 92 | 336 => 93 | 344 => 95 | n => n, fun | 31 => 58 | 9 => 9 | 3 => 3 | 46 => 101 | 0 => 0 | 51 => 124 | 53 => 22 | 4 => 4 | 183 => 136 | 182 => 135 | 131 => 141 | 5 => 5 | 218 => 149 | 222 => 153 | 228 => 157 | 229 => 158 | n => n, fun | n => n⟩
theorem Try.lays190 : Go.Proofs.Lays.n190 Try.prog Try.lays190_ren := {
  mixed := by kernel_rfl
  f125 := Try.func62.trans (congrArg some (by kernel_rfl))
  f128 := Try.func81.trans (congrArg some (by kernel_rfl))
  f129 := Try.func82.trans (congrArg some (by kernel_rfl))
  f190 := Try.func40.trans (congrArg some (by kernel_rfl))
  f258 := Try.func61.trans (congrArg some (by kernel_rfl))
  f302 := Try.func72.trans (congrArg some (by kernel_rfl))
  f303 := Try.func73.trans (congrArg some (by kernel_rfl))
  f304 := Try.func74.trans (congrArg some (by kernel_rfl))
  f305 := Try.func75.trans (congrArg some (by kernel_rfl))
  f306 := Try.func76.trans (congrArg some (by kernel_rfl))
  f307 := Try.func77.trans (congrArg some (by kernel_rfl))
  f308 := Try.func78.trans (congrArg some (by kernel_rfl))
  f309 := Try.func79.trans (congrArg some (by kernel_rfl))
  f310 := Try.func80.trans (congrArg some (by kernel_rfl))
  f329 := Try.func89.trans (congrArg some (by kernel_rfl))
  f330 := Try.func90.trans (congrArg some (by kernel_rfl))
  f333 := Try.func88.trans (congrArg some (by kernel_rfl))
  f334 := Try.func91.trans (congrArg some (by kernel_rfl))
  f335 := Try.func92.trans (congrArg some (by kernel_rfl))
  f336 := Try.func93.trans (congrArg some (by kernel_rfl))
  f344 := Try.func95.trans (congrArg some (by kernel_rfl))
  t0 := Try.underlying0
  a0 := Try.isAgg0
  z0 := Try.sizeOf0
  v0 := Try.zeroValue0
  t3 := Try.underlying3
  a3 := Try.isAgg3
  z3 := Try.sizeOf3
  v3 := Try.zeroValue3
  t4 := Try.underlying4
  a4 := Try.isAgg4
  z4 := Try.sizeOf4
  v4 := Try.zeroValue4
  t5 := Try.underlying5
  a5 := Try.isAgg5
  z5 := Try.sizeOf5
  v5 := Try.zeroValue5
  t9 := Try.underlying9
  a9 := Try.isAgg9
  z9 := Try.sizeOf9
  v9 := Try.zeroValue9
  t31 := Try.underlying58
  a31 := Try.isAgg58
  z31 := Try.sizeOf58
  v31 := Try.zeroValue58
  t46 := Try.underlying101
  a46 := Try.isAgg101
  z46 := Try.sizeOf101
  v46 := Try.zeroValue101
  t51 := Try.underlying124
  a51 := Try.isAgg124
  z51 := Try.sizeOf124
  v51 := Try.zeroValue124
  t53 := Try.underlying22
  a53 := Try.isAgg22
  z53 := Try.sizeOf22
  v53 := Try.zeroValue22
  t131 := Try.underlying141
  a131 := Try.isAgg141
  z131 := Try.sizeOf141
  v131 := Try.zeroValue141
  t182 := Try.underlying135
  a182 := Try.isAgg135
  z182 := Try.sizeOf135
  v182 := Try.zeroValue135
  t183 := Try.underlying136
  a183 := Try.isAgg136
  z183 := Try.sizeOf136
  v183 := Try.zeroValue136
  t218 := Try.underlying149
  a218 := Try.isAgg149
  z218 := Try.sizeOf149
  v218 := Try.zeroValue149
  t222 := Try.underlying153
  a222 := Try.isAgg153
  z222 := Try.sizeOf153
  v222 := Try.zeroValue153
  t228 := Try.underlying157
  a228 := Try.isAgg157
  z228 := Try.sizeOf157
  v228 := Try.zeroValue157
  t229 := Try.underlying158
  a229 := Try.isAgg158
  z229 := Try.sizeOf158
  v229 := Try.zeroValue158 }
open Go.Sort Go.RowKit in
theorem Try.slices_Sort_string (blk off cap : Nat) (ss : List (List UInt8)) (w : World) (hH : Holds encStr w blk off ss.toArray) (hblk : blk < w.heap.size) (hsz : ss.length < 4611686018427387904) :
    Calls Try.prog 40 #[.slice (some ⟨blk, off, none⟩) ss.length cap] w fun e w' =>
      e = .returned (.tuple #[]) ∧ ∃ n os, w' = grow (putRow encStr (Sort.ahead w n) blk off (ss.mergeSort fun x y => decide (x ≤ y)).toArray) os := Any.slices_Sort_string Try.lays190 blk off cap ss w hH hblk hsz
open Go.RowKit Go.Sort in
/-- .. and plain. (LAID: no walk: one application.) -/
theorem Try.slices_Sort_string_none (p : Option Addr) (cap : Nat) (w : World) :
    Calls Try.prog 40 #[.slice p 0 cap] w fun e w' => e = .returned (.tuple #[]) ∧ w' = w := Any.slices_Sort_string_none Try.lays190 p cap w
end Go.Proofs
end

section
/- What the library tells of items sorted by a function, and of strings compared. -/
namespace Go.Proofs.Vm
open Go

variable {P : Program}

abbrev Itm := ByteArray × Int
def encI (x : Itm) : List Value := [.string x.1, .int .i64 x.2]
def cItm (x : Itm) : List CV := [.v (.string x.1), .v (.int .i64 x.2)]
def itmOf : List CV → Option Itm
  | [.v (.string s), .v (.int .i64 n)] => some (s, n)
  | _ => none
def isort (cf : Itm → Itm → Int) (l : List Itm) : List Itm := l.mergeSort fun x y => decide (cf x y ≤ 0)

theorem mapO_itm : ∀ xs : List Itm, mapO itmOf (xs.map cItm) = some xs
  | [] => rfl
  | x :: xs => by
    rw [List.map_cons]
    simp only [mapO, mapO_itm xs]
    rfl
theorem mapO_itm_inv : ∀ {l : List (List CV)} {xs : List Itm}, mapO itmOf l = some xs → l = xs.map cItm
  | [], xs, h => by cases h; rfl
  | e :: l, xs, h => by
    simp only [mapO] at h
    split at h
    · rename_i y m h1 h2
      cases h
      rw [List.map_cons, mapO_itm_inv h2]
      congr 1
      unfold itmOf at h1
      split at h1
      · cases h1; rfl
      · cases h1
    · cases h

def sortFRun (go : FuncId) (cf : Itm → Itm → Int) (args : List AV) (H : Hp) : Option (AV × Hp) :=
  match args with
  | [.one (.sl id 0 n tot), .one (.fn g [])] => if g = go then match H[id]? with
    | some (.clo l false) => match mapO itmOf l with
      | some xs => if n = tot ∧ l.length = tot ∧ tot < 4611686018427387904 then some (und, H.set id (.clo ((isort cf xs).map cItm) false)) else none
      | none => none
    | _ => none
    else none
  | _ => none

def cmpB (a b : ByteArray) : Int := Lib.compareBytes a.data.toList b.data.toList
def cmpRun (args : List CA) : Option CA :=
  match args with
  | [.one (.v (.string a)), .one (.v (.string b))] => some (cI .i64 (cmpB a b))
  | _ => none

/-- A clone of an own slice of none, whether it is nil or not. -/
def clone0Run (args : List AV) (H : Hp) : Option (AV × Hp) :=
  match args with
  | [.one (.sl id 0 0 0)] => if lenIs H id 0 = true then some (.one (.sl (H.length + 1) 0 0 0), H ++ [.clo [] false, .clo [] false]) else none
  | _ => none
def itmTab (gs go gc gl : FuncId) (cf : Itm → Itm → Int) : Tab := ⟨fun f args => if f = gc then cmpRun args else none, fun f args H => if f = gs then sortFRun go cf args H else if f = gl then clone0Run args H else none, false⟩
/-- The same of a function's slices of none as they are. -/
def Clone0 (P : Program) (gl : FuncId) : Prop := ∀ (ad : Option Addr) (cap : Nat) (H : Hp), SCtr P gl [.one (.c (.v (.slice ad 0 cap)))] H (.one (.sl (H.length + 1) 0 0 0)) (H ++ [.clo [] false, .clo [] false])

def SortsF (P : Program) (gs go : FuncId) (cf : Itm → Itm → Int) : Prop := ∀ (blk off cap : Nat) (d : List Itm) (w : World), (∃ n, n ≤ blk ∧ n ≤ w.heap.size ∧ Tabs n w) → Sort.HoldsK encI 2 w blk off d.toArray → blk < w.heap.size → d.length < 4611686018427387904 →
  Calls P gs #[.slice (some ⟨blk, off, none⟩) d.length cap, .func (.func go) #[] #[]] w fun e w' => e = .returned (.tuple #[]) ∧ ∃ n os, w' = sortWorldK encI 2 w blk off n (isort cf d).toArray os
def SortsF0 (P : Program) (gs go : FuncId) : Prop := ∀ (p : Option Addr) (cap : Nat) (w : World), Calls P gs #[.slice p 0 cap, .func (.func go) #[] #[]] w fun e w' => e = .returned (.tuple #[]) ∧ w' = w
def CmpS (P : Program) (gc : FuncId) : Prop := ∀ (a b : ByteArray) (w : World), Calls P gc #[.string a, .string b] w fun e w' => e = .returned (.int .i64 (cmpB a b)) ∧ w' = w

def cmpTab (gc : FuncId) : Tab := ⟨fun f args => if f = gc then cmpRun args else none, fun _ _ _ => none, false⟩
theorem cmpPu_ok {gc : FuncId} (hfc : FnOk P gc) (hc : CmpS P gc) : PuOk P (cmpTab gc) := by
  intro f args r h
  simp only [cmpTab] at h
  split at h
  case isFalse => cases h
  rename_i hfg
  subst hfg
  unfold cmpRun at h
  split at h
  case h_2 => cases h
  rename_i a b
  cases h
  refine ⟨hfc, fun I w vals hI _ hv => ?_⟩
  have hl : vals.length = 2 := by rw [← hv.1]; rfl
  match vals, hl with
  | [x, y], _ =>
  have hx : RK I w (.one (.v (.string a))) x := hv.2 0 _ _ rfl rfl
  have hy : RK I w (.one (.v (.string b))) y := hv.2 1 _ _ rfl rfl
  have ex : x = .string a := by cases hx; rfl
  have ey : y = .string b := by cases hy; rfl
  subst ex; subst ey
  refine (hc a b w).mono fun e w' hh => ?_
  obtain ⟨rfl, rfl⟩ := hh
  exact ⟨_, I, rfl, fun _ h => h, fun _ h => .inl h, hI, Nat.le_refl _, fun _ _ => rfl, .refl _, .v _ rfl⟩
theorem cmpTab_ok {gc : FuncId} (hfc : FnOk P gc) (hc : CmpS P gc) : TOk P (cmpTab gc) := ⟨cmpPu_ok hfc hc, fun f args H r H' h => (by cases h)⟩

theorem flat_get (d : List Itm) (i j : Nat) (hi : i < d.length) (hj : j < 2) : (Sort.flatK encI 2 d.toArray)[i * 2 + j]! = (encI d[i])[j]'(by simpa [encI] using hj) := by
  rw [Sort.get_flatK _ _ _ _ (by simp; omega), show (i * 2 + j) / 2 = i by omega, show (i * 2 + j) % 2 = j by omega]
  have : d.toArray[i]! = d[i] := by simp [hi]
  rw [this, getElem!_pos (encI d[i]) j (by simpa [encI] using hj)]

theorem itmTab_ok {gs go gc gl : FuncId} {cf : Itm → Itm → Int} (hnc : isCl P gs = false) (hfc : FnOk P gc) (hc : CmpS P gc) (hf : FnOk P gs) (h1 : SortsF P gs go cf) (h2 : SortsF0 P gs go) (hfl : FnOk P gl) (h3 : Clone0 P gl) : TOk P (itmTab gs go gc gl cf) := by
  refine ⟨fun f args r h => cmpPu_ok hfc hc f args r h, fun f args H r H' h => ?_⟩
  simp only [itmTab] at h
  split at h
  case isFalse =>
    split at h
    case isFalse => cases h
    rename_i hfg
    subst hfg
    unfold clone0Run at h
    split at h
    case h_2 => cases h
    rename_i id
    split at h
    case isFalse => cases h
    rename_i hlen
    cases h
    refine ⟨by simp, hfl, ?_⟩
    intro X S M hX hD vals hv
    subst hX
    have hv1 : vals.length = 1 := by rw [← hv.1]; rfl
    match vals, hv1 with
    | [v], _ =>
    have hr : RCell X (.sl id 0 0 0) v := hv.2 0 _ v rfl rfl
    obtain ⟨h1', hd, e0, he0, _, _, hp⟩ := hr
    have hl0 : e0.len = 0 := by
      unfold lenIs at hlen
      rw [he0] at hlen
      simpa using hlen
    obtain ⟨ad, cap, rfl, _⟩ := hp hl0
    exact h3 ad cap X.H X S M rfl hD _ ⟨rfl, fun j p y hj hy => by
      cases j with
      | zero =>
        cases hj; cases hy
        exact .v _ h1'
      | succ j => cases hj⟩
  rename_i hfg
  subst hfg
  unfold sortFRun at h
  split at h
  case h_2 => cases h
  rename_i id n tot g
  split at h
  case isFalse => cases h
  rename_i hgg
  subst hgg
  split at h
  case h_2 => cases h
  rename_i l hl
  split at h
  case h_2 => cases h
  rename_i xs hxs
  split at h
  case isFalse => cases h
  rename_i hcc
  obtain ⟨rfl, hlt, hsz⟩ := hcc
  cases h
  have hlx := mapO_itm_inv hxs
  have hxl : xs.length = n := by rw [← hlt, hlx, List.length_map]
  refine ⟨⟨by simp, fun h => by rw [hnc] at h; cases h⟩, hf, ?_⟩
  intro X S M hX hD vals hv
  subst hX
  have hv1 : vals.length = 2 := by rw [← hv.1]; rfl
  match vals, hv1 with
  | [v, fv], _ =>
  have hr : RCell X (.sl id 0 n n) v := hv.2 0 _ v rfl rfl
  have hfv : RCell X (.fn g []) fv := hv.2 1 _ fv rfl rfl
  obtain ⟨vs, rfl, hvs, _⟩ := hfv
  have hvs0 : vs = [] := List.length_eq_zero_iff.1 hvs.symm
  subst hvs0
  obtain ⟨_, hd, e0, he0, _, _, hp⟩ := hr
  rw [hl] at he0
  cases he0
  obtain ⟨ad, cap, rfl, hcap, hne, _⟩ := hp hlt
  have hent := S.ent _ _ hd hl
  have hlen' : (isort cf xs).length = xs.length := List.length_mergeSort _
  have hylen : ((isort cf xs).map cItm).length = l.length := by rw [List.length_map, hlen', hlx, List.length_map]
  by_cases h0 : n = 0
  · subst h0
    have hxe : xs = [] := List.length_eq_zero_iff.1 hxl
    subst hxe
    refine (h2 ad cap X.w).mono fun e w' hh => ?_
    obtain ⟨rfl, rfl⟩ := hh
    refine ⟨_, X, rfl, rfl, .refl S M, ?_, fun id => by rw [hD]; simp, ⟨[], rfl, rfl, fun j p y hp => by simp at hp⟩⟩
    rw [isort, List.mergeSort_nil]
    simp only [List.map_nil] at hlx ⊢
    rw [hlx] at hl
    exact (set_same hl).symm
  · obtain ⟨b, hb, rfl⟩ := hne h0
    rcases hent.2 with ⟨h3, _⟩ | ⟨b', c, ty, fr, g1, g2, g3, g4, g5, g6, g7, g8, g9, g10⟩
    · exact absurd (hlt.symm.trans h3) h0
    rw [hb] at g1
    cases g1
    have hsz1 : (X.σ id).sz = 2 := by
      cases l with
      | nil => exact absurd hlt.symm h0
      | cons e l =>
        have := hent.1 e List.mem_cons_self
        cases xs with
        | nil => simp at hlx
        | cons x xs =>
          rw [List.map_cons] at hlx
          cases hlx
          exact this.symm
    rw [hsz1] at g5 g10
    have hblk := S.blk M id b hd hb
    have hcell : ∀ i j, ∀ hi : i < xs.length, ∀ hj : j < 2, c[i * 2 + j]? = some ((encI xs[i])[j]'(by simpa [encI] using hj)) := by
      intro i j hi hj
      obtain ⟨v, h3, e, x, h4, h5, h6⟩ := g10 i j (by omega) hj
      rw [hlx, List.getElem?_map, List.getElem?_eq_getElem hi] at h4
      cases h4
      rw [h3]
      match j, hj with
      | 0, _ => cases h5; cases h6; rfl
      | 1, _ => cases h5; cases h6; rfl
    have hH : Sort.HoldsK encI 2 X.w b 0 xs.toArray := by
      intro j hj
      have hj : j < xs.length * 2 := by simpa using hj
      have hc1 := hcell (j / 2) (j % 2) (by omega) (by omega)
      have hf1 := flat_get xs (j / 2) (j % 2) (by omega) (by omega)
      rw [show j / 2 * 2 + j % 2 = j by omega] at hc1 hf1
      refine ⟨?_, g4 _ ?_⟩
      · unfold World.cell?
        simp only [g3]
        rw [if_neg (by simp), Nat.zero_add, hc1, hf1]
        rfl
      · have := (Array.getElem?_eq_some_iff.1 hc1).1
        omega
    rw [Nat.zero_mul, ← hxl]
    refine (h1 b 0 cap xs X.w ⟨X.base, g7, S.size, S.tab.mono S.old (Nat.le_refl _)⟩ hH hblk.1 (by omega)).mono fun e w' hh => ?_
    obtain ⟨rfl, m, os, rfl⟩ := hh
    generalize hys : isort cf xs = ys at hlen' hylen
    let F := Sort.flatK encI 2 ys.toArray
    have hFs : F.size = ys.length * 2 := by simp [F]
    let w' := sortWorldK encI 2 X.w b 0 m ys.toArray os
    have hms : (X.w.heap.modify b (Sort.onCells (Sort.putCells _root_.id 0 F))).size = X.w.heap.size := by simp
    have hheap : ∀ k, k < X.w.heap.size → w'.heap[k]? = (X.w.heap.modify b (Sort.onCells (Sort.putCells _root_.id 0 F)))[k]? := by
      intro k hk
      show (X.w.heap.modify b _ ++ os)[k]? = _
      rw [Array.getElem?_append_left (by simpa using hk)]
    have hself : w'.heap[b]? = some (.cells (Sort.putCells _root_.id 0 F c) ty fr) := by
      rw [hheap b hblk.1, Array.getElem?_modify, if_pos rfl, g3]
      rfl
    have hoth : ∀ k, k < X.w.heap.size → k ≠ b → w'.heap[k]? = X.w.heap[k]? := by
      intro k hk hkb
      rw [hheap k hk, Array.getElem?_modify, if_neg (fun e => hkb e.symm)]
    let Y : Cx := { X with H := X.H.set id (.clo (ys.map cItm) false), w := w' }
    have W : Wrote X Y id := ⟨rfl, rfl, fun _ => Iff.rfl, fun _ _ _ => rfl, rfl, fun i hi => set_get hi, by
      show X.w.heap.size ≤ (X.w.heap.modify b _ ++ os).size
      rw [Array.size_append, Array.size_modify]
      exact Nat.le_add_right _ _, fun k hk hkb => hoth k hk (hkb b hb), ⟨_, _, hl, set_self hl, by simp only [Ent.len]; omega, fun _ => rfl, fun l h => by cases h⟩, hd, ⟨⟨rfl, rfl⟩, rfl, Nat.le_add_right _ _⟩, fun k hk => by rw [hb] at hk; cases hk; exact g9 rfl⟩
    have SY : SR Y := W.sr S M (fun e h => by
      have : Y.H[id]? = some (.clo (ys.map cItm) false) := set_self hl
      rw [this] at h
      cases h
      refine ⟨fun e he => ?_, .inr ⟨b, _, ty, fr, hb, g2, hself, fun o ho => ?_, ?_, by rw [hylen]; exact g6, g7, (fun h => by cases h), g9, fun i j hi hj => ?_⟩⟩
      · obtain ⟨y, _, rfl⟩ := List.mem_map.1 he
        show 2 = (X.σ id).sz
        rw [hsz1]
      · have := g4 o (by simpa [Sort.putCells] using ho)
        unfold World.frozen? at this ⊢
        rw [g3] at this
        rw [hself]
        exact this
      · show (Sort.putCells _root_.id 0 F c).size = (X.σ id).cap * (X.σ id).sz
        rw [hsz1, ← g5]
        simp [Sort.putCells]
      · have hj : j < (X.σ id).sz := hj
        rw [hsz1] at hj
        have hi' : i < ys.length := by simpa using hi
        have hic : i * 2 + j < c.size := by rw [g5]; have := g6.2; rw [hylen] at hi; omega
        have hfg := flat_get ys i j hi' hj
        refine ⟨(encI ys[i])[j]'(by simpa [encI] using hj), ?_, cItm ys[i], .v ((encI ys[i])[j]'(by simpa [encI] using hj)), by rw [List.getElem?_map, List.getElem?_eq_getElem hi']; rfl, ?_, ?_⟩
        · show (Sort.putCells _root_.id 0 F c)[i * (X.σ id).sz + j]? = _
          rw [hsz1, Sort.putCells, Array.getElem?_mapIdx, Array.getElem?_eq_getElem hic, Option.map_some, if_pos ⟨Nat.zero_le _, by rw [hFs]; omega⟩]
          show some (_root_.id F[i * 2 + j - 0]!) = _
          rw [Nat.sub_zero, hfg]
          rfl
        · match j, hj with
          | 0, _ => rfl
          | 1, _ => rfl
        · match j, hj with
          | 0, _ => exact .v _ rfl
          | 1, _ => exact .v _ rfl) (fun b' h => .inl h)
    exact ⟨_, Y, rfl, rfl, W.nxt S M SY, rfl, fun id => by rw [show Y.D = X.D from rfl, hD]; simp, ⟨[], rfl, rfl, fun j p y hp => by simp at hp⟩⟩

end Go.Proofs.Vm
end

section
/- How items stand: the greater count first, of one count the lesser key. -/
namespace Go.Proofs.Vm
open Go

def cmpI (x y : Int) : Int := if x < y then -1 else if x > y then 1 else 0
def ordI (a b : Itm) : Int := if cmpI b.2 a.2 ≠ 0 then cmpI b.2 a.2 else cmpB a.1 b.1

theorem cb_eq : ∀ a b : List UInt8, Lib.compareBytes a b = 0 ↔ a = b
  | [], [] => by simp [Lib.compareBytes]
  | [], _ :: _ => by simp [Lib.compareBytes]
  | _ :: _, [] => by simp [Lib.compareBytes]
  | a :: ar, b :: br => by
    unfold Lib.compareBytes
    by_cases h1 : a < b
    · rw [if_pos h1]
      refine ⟨fun h => absurd h (by decide), fun h => ?_⟩
      cases h
      exact absurd h1 (UInt8.lt_irrefl _)
    · rw [if_neg h1]
      by_cases h2 : b < a
      · rw [if_pos h2]
        refine ⟨fun h => absurd h (by decide), fun h => ?_⟩
        cases h
        exact absurd h2 (UInt8.lt_irrefl _)
      · rw [if_neg h2, cb_eq ar br]
        have : a = b := UInt8.le_antisymm (UInt8.not_lt.1 h2) (UInt8.not_lt.1 h1)
        subst this
        simp
theorem cb_neg : ∀ a b : List UInt8, Lib.compareBytes b a = - Lib.compareBytes a b
  | [], [] => by simp [Lib.compareBytes]
  | [], _ :: _ => by simp [Lib.compareBytes]
  | _ :: _, [] => by simp [Lib.compareBytes]
  | a :: ar, b :: br => by
    unfold Lib.compareBytes
    by_cases h1 : a < b
    · rw [if_neg (UInt8.lt_asymm h1), if_pos h1, if_pos h1]; rfl
    · rw [if_neg h1, if_neg h1]
      by_cases h2 : b < a
      · rw [if_pos h2, if_pos h2]
      · rw [if_neg h2, if_neg h2]
        exact cb_neg ar br
theorem cb_trans : ∀ a b c : List UInt8, Lib.compareBytes a b < 0 → Lib.compareBytes b c < 0 → Lib.compareBytes a c < 0
  | [], _, [], h1, h2 => by
    rename_i b
    cases b with
    | nil => simp [Lib.compareBytes] at h1
    | cons x b => simp [Lib.compareBytes] at h2
  | [], _, _ :: _, _, _ => by simp [Lib.compareBytes]
  | _ :: _, [], _, h1, _ => by simp [Lib.compareBytes] at h1
  | _ :: _, _ :: _, [], _, h2 => by simp [Lib.compareBytes] at h2
  | a :: ar, b :: br, c :: cr, h1, h2 => by
    unfold Lib.compareBytes at h1 h2 ⊢
    by_cases a1 : a < b
    · by_cases b1 : b < c
      · rw [if_pos (UInt8.lt_trans a1 b1)]; decide
      · rw [if_neg b1] at h2
        by_cases b2 : c < b
        · rw [if_pos b2] at h2; exact absurd h2 (by decide)
        · have : b = c := UInt8.le_antisymm (UInt8.not_lt.1 b2) (UInt8.not_lt.1 b1)
          subst this
          rw [if_pos a1]; decide
    · rw [if_neg a1] at h1
      by_cases a2 : b < a
      · rw [if_pos a2] at h1; exact absurd h1 (by decide)
      · have : a = b := UInt8.le_antisymm (UInt8.not_lt.1 a2) (UInt8.not_lt.1 a1)
        subst this
        rw [if_neg (UInt8.lt_irrefl _)] at h1
        by_cases b1 : a < c
        · rw [if_pos b1]; decide
        · rw [if_neg b1] at h2 ⊢
          by_cases b2 : c < a
          · rw [if_pos b2] at h2; exact absurd h2 (by decide)
          · rw [if_neg b2] at h2 ⊢
            exact cb_trans ar br cr (by simpa using h1) h2

theorem cmpB_eq {a b : ByteArray} : cmpB a b = 0 ↔ a = b := by
  unfold cmpB
  rw [cb_eq]
  constructor
  · intro h
    have := Array.toList_inj.1 h
    cases a; cases b; simp_all
  · intro h; rw [h]
theorem cmpB_neg (a b : ByteArray) : cmpB b a = - cmpB a b := cb_neg _ _
theorem cmpI_neg (x y : Int) : cmpI y x = - cmpI x y := by
  unfold cmpI; split <;> split <;> (try split) <;> omega
theorem ordI_neg (a b : Itm) : ordI b a = - ordI a b := by
  unfold ordI
  rw [cmpI_neg b.2 a.2, cmpB_neg a.1 b.1]
  split <;> split <;> omega
theorem ordI_eq {a b : Itm} : ordI a b = 0 ↔ a = b := by
  unfold ordI
  constructor
  · intro h
    split at h
    · contradiction
    · rename_i h1
      have h2 : cmpI b.2 a.2 = 0 := by omega
      have h3 : b.2 = a.2 := by unfold cmpI at h2; split at h2; · omega
                                split at h2 <;> omega
      exact Prod.ext (cmpB_eq.1 h) h3.symm
  · intro h
    subst h
    have : cmpI a.2 a.2 = 0 := by unfold cmpI; rw [if_neg (by omega), if_neg (by omega)]
    rw [this]
    simp only [ne_eq, not_true_eq_false, if_false]
    exact cmpB_eq.2 rfl
/-- One stands ahead of another. -/
theorem ordI_lt {a b : Itm} : ordI a b < 0 ↔ b.2 < a.2 ∨ b.2 = a.2 ∧ cmpB a.1 b.1 < 0 := by
  unfold ordI cmpI
  by_cases h1 : b.2 < a.2
  · simp [h1]
  · by_cases h2 : b.2 > a.2
    · rw [if_neg h1, if_pos h2]
      simp; omega
    · rw [if_neg h1, if_neg h2]
      have : b.2 = a.2 := by omega
      simp [this]
theorem ordI_trans {a b c : Itm} (h1 : ordI a b < 0) (h2 : ordI b c < 0) : ordI a c < 0 := by
  rw [ordI_lt] at *
  rcases h1 with h1 | ⟨h1, k1⟩
  · rcases h2 with h2 | ⟨h2, _⟩
    · left; omega
    · left; omega
  · rcases h2 with h2 | ⟨h2, k2⟩
    · left; omega
    · right
      exact ⟨by omega, cb_trans _ _ _ k1 k2⟩
theorem ordI_le_trans (a b c : Itm) (h1 : ordI a b ≤ 0) (h2 : ordI b c ≤ 0) : ordI a c ≤ 0 := by
  by_cases e1 : ordI a b = 0
  · rw [ordI_eq] at e1; subst e1; exact h2
  · by_cases e2 : ordI b c = 0
    · rw [ordI_eq] at e2; subst e2; exact h1
    · have := ordI_trans (show ordI a b < 0 by omega) (show ordI b c < 0 by omega)
      omega
theorem ordI_total (a b : Itm) : ordI a b ≤ 0 ∨ ordI b a ≤ 0 := by
  have := ordI_neg a b
  omega

theorem bl_cb : ∀ a b : List UInt8, Op.bytesLess a b = decide (Lib.compareBytes a b < 0)
  | [], [] => by simp [Op.bytesLess, Lib.compareBytes]
  | _ :: _, [] => by simp [Op.bytesLess, Lib.compareBytes]
  | [], _ :: _ => by simp [Op.bytesLess, Lib.compareBytes]
  | a :: x, b :: y => by
    unfold Op.bytesLess Lib.compareBytes
    by_cases h1 : a < b
    · simp [h1]
    · by_cases h2 : b < a
      · have : ¬ a = b := fun e => by subst e; exact absurd h2 (UInt8.lt_irrefl _)
        simp [h1, h2, this]
      · have : a = b := UInt8.le_antisymm (UInt8.not_lt.1 h2) (UInt8.not_lt.1 h1)
        subst this
        simp [h1, bl_cb x y]
theorem bl_cmpB (a b : ByteArray) : Op.bytesLess a.toList b.toList = decide (cmpB a b < 0) := by
  rw [bl_cb, toList_eq, toList_eq]; rfl

end Go.Proofs.Vm
end

section
/- Maps from strings to numbers, with their stamps, told as they are used. -/
namespace Go.Proofs.Vm
open Go

variable {P : Program}

/-! Maps from strings to numbers. -/
def mget (k : ByteArray) : SM → Option Int
  | [] => none
  | p :: r => if k = p.1 then some p.2 else mget k r
def mput (k : ByteArray) (v : Int) (m : SM) : SM := match mIx k m with
  | some j => m.set j (k, v)
  | none => m ++ [(k, v)]
def mdel (k : ByteArray) (m : SM) : SM := match mIx k m with
  | some j => m.eraseIdx j
  | none => m

/-- A map with its stamps, and the next stamp. -/
structure MS where
  m : SM
  b : List Int
  ck : Nat
structure MS.Ok (M : MS) : Prop where
  len : M.b.length = M.m.length
  nd : M.b.Nodup
  lt : ∀ x ∈ M.b, x < (M.ck : Int)
def MS.ent (M : MS) : Ent := .mp (M.ck, cM M.m M.b)
def MS.put (M : MS) (k : ByteArray) (v : Int) : MS := match mIx k M.m with
  | some _ => ⟨mput k v M.m, M.b, M.ck⟩
  | none => ⟨mput k v M.m, M.b ++ [(M.ck : Int)], M.ck + 1⟩
def MS.del (M : MS) (k : ByteArray) : MS := match mIx k M.m with
  | some j => ⟨mdel k M.m, M.b.eraseIdx j, M.ck⟩
  | none => M
def MS.stamp (M : MS) (k : ByteArray) : Int := match mIx k M.m with
  | some j => M.b[j]?.getD 0
  | none => 0
def MS.empty : MS := ⟨[], [], 0⟩
theorem MS.empty_ok : MS.empty.Ok := ⟨rfl, List.nodup_nil, fun x h => by cases h⟩
theorem MS.empty_ent : MS.empty.ent = .mp (0, []) := rfl
@[simp] theorem MS.put_m (M : MS) (k : ByteArray) (v : Int) : (M.put k v).m = mput k v M.m := by unfold MS.put; split <;> rfl
@[simp] theorem MS.del_m (M : MS) (k : ByteArray) : (M.del k).m = mdel k M.m := by
  unfold MS.del
  split
  · rfl
  · rename_i h; unfold mdel; rw [h]

theorem mIx_lt {k : ByteArray} : ∀ {m : SM} {j : Nat}, mIx k m = some j → ∃ h : j < m.length, m[j].1 = k ∧ mget k m = some m[j].2
  | [], j, h => by cases h
  | p :: r, j, h => by
    unfold mIx at h
    by_cases hk : k = p.1
    · rw [if_pos hk] at h
      cases h
      exact ⟨Nat.succ_pos _, hk.symm, by show mget k (p :: r) = some p.2; unfold mget; rw [if_pos hk]⟩
    · rw [if_neg hk] at h
      cases hr : mIx k r with
      | none => rw [hr] at h; cases h
      | some i =>
        rw [hr] at h
        cases h
        obtain ⟨h1, h2, h3⟩ := mIx_lt hr
        exact ⟨Nat.succ_lt_succ h1, h2, by unfold mget; rw [if_neg hk]; exact h3⟩
theorem mIx_no {k : ByteArray} : ∀ {m : SM}, mIx k m = none → mget k m = none
  | [], _ => rfl
  | p :: r, h => by
    unfold mIx at h
    by_cases hk : k = p.1
    · rw [if_pos hk] at h; cases h
    · rw [if_neg hk] at h
      unfold mget
      rw [if_neg hk]
      exact mIx_no (Option.map_eq_none_iff.1 h)

theorem MS.put_ok {M : MS} (h : M.Ok) (k : ByteArray) (v : Int) : (M.put k v).Ok := by
  unfold MS.put
  split
  · rename_i j hj
    exact ⟨by show M.b.length = (mput k v M.m).length; unfold mput; rw [hj]; simp [h.len], h.nd, h.lt⟩
  · rename_i hj
    refine ⟨by show (M.b ++ [(M.ck : Int)]).length = (mput k v M.m).length; unfold mput; rw [hj]; simp [h.len], ?_, ?_⟩
    · refine List.nodup_append.2 ⟨h.nd, by simp, ?_⟩
      intro x hx y hy
      have hy : y = (M.ck : Int) := by simpa using hy
      have := h.lt x hx
      omega
    · intro x hx
      show x < ((M.ck + 1 : Nat) : Int)
      rcases List.mem_append.1 hx with hx | hx
      · have := h.lt x hx; omega
      · have : x = (M.ck : Int) := by simpa using hx
        omega
theorem MS.del_ok {M : MS} (h : M.Ok) (k : ByteArray) : (M.del k).Ok := by
  unfold MS.del
  split
  · rename_i j hj
    obtain ⟨hl, _, _⟩ := mIx_lt hj
    refine ⟨?_, h.nd.sublist (List.eraseIdx_sublist _ _), fun x hx => h.lt x ((List.eraseIdx_sublist _ _).subset hx)⟩
    show (M.b.eraseIdx j).length = (mdel k M.m).length
    unfold mdel
    rw [hj]
    show (M.b.eraseIdx j).length = (M.m.eraseIdx j).length
    rw [List.length_eraseIdx, List.length_eraseIdx, h.len]
  · exact h

theorem cM_set : ∀ {m : SM} {b : List Int} {j : Nat} (k : ByteArray) (v : Int), b.length = m.length → ∀ h : j < m.length, m[j].1 = k →
    (cM m b).modify j (fun p => (.string k, .v (.int .i64 v) :: p.2.drop 1)) = cM (m.set j (k, v)) b ∧ (cM m b).modify j (fun p => (p.1, .v (.int .i64 v) :: p.2.drop 1)) = cM (m.set j (k, v)) b ∧ (cM m b).modify j (fun p => (.string k, p.2)) = cM m b
  | [], _, _, _, _, _, h, _ => by simp at h
  | p :: r, [], _, _, _, h, _, _ => by simp at h
  | p :: r, b :: bs, 0, k, v, _, _, hk => by
    have hk : p.1 = k := hk
    subst hk
    exact ⟨rfl, rfl, rfl⟩
  | p :: r, b :: bs, j + 1, k, v, hl, h, hk => by
    obtain ⟨h1, h2, h3⟩ := cM_set (m := r) (b := bs) (j := j) k v (by simpa using hl) (by simpa using h) hk
    refine ⟨?_, ?_, ?_⟩
    · show _ :: (cM r bs).modify j _ = _; rw [h1]; rfl
    · show _ :: (cM r bs).modify j _ = _; rw [h2]; rfl
    · show _ :: (cM r bs).modify j _ = _; rw [h3]; rfl
theorem cM_app : ∀ {m : SM} {b : List Int} (k : ByteArray) (v x : Int), b.length = m.length → cM m b ++ [(.string k, [.v (.int .i64 v), .v (.int .i64 x)])] = cM (m ++ [(k, v)]) (b ++ [x])
  | [], [], _, _, _, _ => rfl
  | [], b :: bs, _, _, _, h => by simp at h
  | p :: r, [], _, _, _, h => by simp at h
  | p :: r, b :: bs, k, v, x, h => by
    show _ :: (cM r bs ++ _) = _
    rw [cM_app k v x (by simpa using h)]
    rfl
theorem cM_erase : ∀ {m : SM} {b : List Int} (j : Nat), b.length = m.length → (cM m b).eraseIdx j = cM (m.eraseIdx j) (b.eraseIdx j)
  | [], [], _, _ => rfl
  | [], b :: bs, _, h => by simp at h
  | p :: r, [], _, h => by simp at h
  | p :: r, b :: bs, 0, _ => rfl
  | p :: r, b :: bs, j + 1, h => by
    show _ :: (cM r bs).eraseIdx j = _
    rw [cM_erase j (by simpa using h)]
    rfl
theorem cM_stamp : ∀ {m : SM} {b : List Int} {j : Nat} (_hl : b.length = m.length) (_ : b.Nodup) (h : j < b.length), (cM m b).findIdx? (stampIs b[j]) = some j
  | [], b, j, hl, _, h => by simp at hl; subst hl; simp at h
  | p :: r, [], j, _, _, h => by simp at h
  | p :: r, b :: bs, 0, _, _, _ => by
    show ((Value.string p.1, [CV.v (.int .i64 p.2), .v (.int .i64 b)]) :: cM r bs).findIdx? _ = _
    rw [List.findIdx?_cons, if_pos (by show (b == b) = true; simp)]
  | p :: r, b :: bs, j + 1, hl, hn, h => by
    have hj : j < bs.length := by simpa using h
    have hne : b ≠ bs[j] := fun e => (List.nodup_cons.1 hn).1 (e ▸ List.getElem_mem hj)
    show ((Value.string p.1, [CV.v (.int .i64 p.2), .v (.int .i64 b)]) :: cM r bs).findIdx? (stampIs bs[j]) = _
    rw [List.findIdx?_cons, if_neg (by show ¬ (b == bs[j]) = true; simpa using hne), cM_stamp (by simpa using hl) (List.nodup_cons.1 hn).2 hj]
    rfl

section
variable {H : Hp} {t : TypeId} {mi : Nat} {M : MS} {k : ByteArray} {v : Int}

theorem mapAt_eq (h : H[mi]? = some M.ent) : mapAt H (.one (.mp mi)) = some (mi, (M.ck, cM M.m M.b)) := by simp only [mapAt, h, MS.ent]
theorem lk_eq (ht : mapTy P t = some (.string, .int .i64 0)) (ok : M.Ok) (h : H[mi]? = some M.ent) :
    vlookup P H t (.one (.mp mi)) (.one (.c (.v (.string k)))) true = qa (.tup [(false, [.c (.v (.int .i64 ((mget k M.m).getD 0)))]), (false, [.c (.v (.bool (mget k M.m).isSome))])]) := by
  unfold vlookup
  rw [ht, mapAt_eq h]
  have sc : (AV.one (.c (.v (.string k)))).sc = some (.string k) := rfl
  have kd : kindOk .string (.string k) = true := rfl
  simp only [sc, kd, if_true]
  rw [find_cM k M.m M.b ok.len]
  cases hj : mIx k M.m with
  | none => simp only [mIx_no hj]; rfl
  | some j =>
    obtain ⟨hl, _, hg⟩ := mIx_lt hj
    simp only [cM_get M.m M.b j hl (by rw [ok.len]; exact hl), hg]
    rfl
theorem mu_eq (ht : mapTy P t = some (.string, .int .i64 0)) (ok : M.Ok) (h : H[mi]? = some M.ent) :
    vmapUpdate P H t (.one (.mp mi)) (.one (.c (.v (.string k)))) (.one (.c (.v (.int .i64 v)))) = some (und, H.set mi (M.put k v).ent) := by
  unfold vmapUpdate
  rw [ht, mapAt_eq h]
  have sc : (AV.one (.c (.v (.string k)))).sc = some (.string k) := rfl
  have kd : kindOk .string (.string k) = true := rfl
  simp only [sc, kd, if_true]
  rw [find_cM k M.m M.b ok.len]
  simp only [MS.put, mput, MS.ent]
  cases hj : mIx k M.m with
  | none =>
    simp only [putM, cM_app k v M.ck ok.len]
  | some j =>
    obtain ⟨hl, hk, _⟩ := mIx_lt hj
    simp only [putM, (cM_set k v ok.len hl hk).1]
theorem md_eq (ht : mapTy P t = some (.string, .int .i64 0)) (ok : M.Ok) (h : H[mi]? = some M.ent) :
    vdelete P H t (.one (.mp mi)) (.one (.c (.v (.string k)))) = some (und, H.set mi (M.del k).ent) := by
  unfold vdelete
  rw [ht, mapAt_eq h]
  have sc : (AV.one (.c (.v (.string k)))).sc = some (.string k) := rfl
  have kd : kindOk .string (.string k) = true := rfl
  simp only [sc, kd, if_true]
  rw [find_cM k M.m M.b ok.len]
  cases hj : mIx k M.m with
  | none => simp only [MS.del, hj, MS.ent]
  | some j =>
    simp only [MS.del, hj, mdel, MS.ent, cM_erase j ok.len]
theorem me_eq (ht : mapTy P t = some (.string, .int .i64 0)) (ok : M.Ok) (h : H[mi]? = some M.ent) (hg : (mget k M.m).isSome = true) :
    vmapEntry P H t (.one (.mp mi)) (.one (.c (.v (.string k)))) = some (.tup [(false, [.c (.v (.int .i64 ((mget k M.m).getD 0)))]), (false, [.c (.v (.int .i64 (M.stamp k)))])], H) := by
  unfold vmapEntry
  rw [ht, mapAt_eq h]
  have sc : (AV.one (.c (.v (.string k)))).sc = some (.string k) := rfl
  have kd : kindOk .string (.string k) = true := rfl
  simp only [sc, kd, if_true]
  rw [find_cM k M.m M.b ok.len]
  cases hj : mIx k M.m with
  | none => rw [mIx_no hj] at hg; cases hg
  | some j =>
    obtain ⟨hl, hk, hg'⟩ := mIx_lt hj
    have hb : j < M.b.length := by rw [ok.len]; exact hl
    simp only [cM_get M.m M.b j hl hb, (cM_set k 0 ok.len hl hk).2.2, hg', MS.stamp, hj, List.getElem?_eq_getElem hb]
    rw [set_same (e := .mp (M.ck, cM M.m M.b)) h]
    rfl
theorem es_eq (ok : M.Ok) (h : H[mi]? = some M.ent) (hg : (mget k M.m).isSome = true) :
    ventryStore H (.one (.mp mi)) (.one (.c (.v (.int .i64 (M.stamp k))))) (.one (.c (.v (.int .i64 v)))) = some (und, H.set mi (M.put k v).ent) := by
  unfold ventryStore
  rw [mapAt_eq h]
  cases hj : mIx k M.m with
  | none => rw [mIx_no hj] at hg; cases hg
  | some j =>
    obtain ⟨hl, hk, hg'⟩ := mIx_lt hj
    have hb : j < M.b.length := by rw [ok.len]; exact hl
    have hs : M.stamp k = M.b[j] := by simp only [MS.stamp, hj, List.getElem?_eq_getElem hb]; rfl
    simp only [MS.ent, hs, cM_stamp ok.len ok.nd hb, (cM_set k v ok.len hl hk).2.1, MS.put, mput, hj]
theorem ml_eq {ty : TypeId} (ht : isMapT P t = true) (ok : M.Ok) (h : H[mi]? = some M.ent) : vlen P H #[t] ty (.one (.mp mi)) = qa (.one (.c (.v (.int .i64 M.m.length)))) := by
  have e1 := mapAt_eq h
  unfold vlen
  simp only [show (#[t] : Array TypeId)[0]? = some t from rfl, e1, ht, if_true, cM_len M.m M.b ok.len]
  rfl
end

end Go.Proofs.Vm
end

section
/- Small laws of the machine's numbers. -/
namespace Go.Proofs.Vm
open Go

variable {P : Program} {H : Hp}

theorem w64_id {x : Int} (h0 : -9223372036854775808 ≤ x) (h1 : x < 9223372036854775808) : IntKind.i64.wrap x = x := by rw [IntKind.wrap_i64]; omega
theorem bin_half {t : TypeId} {x y : Operand} {k : Nat} (h : k < 9223372036854775808) : vbin P H .quo t x y (vI .i64 (k : Int)) (vI .i64 2) = qa (vI .i64 ((k / 2 : Nat) : Int)) := by
  rw [bin_quo (by decide)]
  have e : (k : Int).tdiv 2 = ((k / 2 : Nat) : Int) := by rw [Int.tdiv_eq_ediv_of_nonneg (by omega)]; omega
  rw [e, w64_id (by omega) (by omega)]
theorem hq_gete (K : Hp) (a b c : Nat) (x y z : Ent) (L : Hp) (j : Nat) (h : K.length + j < (hq K a b c x y z L).length) : (hq K a b c x y z L)[K.length + j]'h = L[j]'(by rw [hq_len] at h; omega) := by
  have h1 := hq_get K a b c x y z L j
  have hj : j < L.length := by rw [hq_len] at h; omega
  rw [List.getElem?_eq_getElem h, List.getElem?_eq_getElem hj] at h1
  exact Option.some.inj h1
@[simp] theorem isNil_ptr {p : Option Addr} : isNil (.const (.pointer p)) = false := rfl
theorem bin_pne {t e : TypeId} (hu : pv P (underlying t) = some (.pointer e)) {x y : Operand} {p : Pt} (hl : lenIs H p.id p.tot = true) : vbin P H .eql t x y (.one (.ptr p)) (.one (.c (.v (.pointer none)))) = qa (vB false) := by
  simp [-lenIs, vbin, vbin0, neSl, isNils, isPtr, isNilp, fresh, hl, hu, one?, Value.oneCell']
theorem bin_slo {t e : TypeId} (he : elemOfSlice P t = some e) {x y : Operand} {id o n tot : Nat} (hn : n ≠ 0) (hl : lenIs H id tot = true) : vbin P H .eql t x y (.one (.sl id o n tot)) (.one (.c (.v (.slice none 0 0)))) = qa (vB false) := by
  have hu : ∃ d, pv P (underlying t) = some (.slice d) := by
    unfold elemOfSlice at he
    split at he
    · rename_i d hd; exact ⟨_, hd⟩
    · cases he
  obtain ⟨d, hd⟩ := hu
  simp [-lenIs, vbin, neSl, isNils, okSl, hl, hn, hd, one?, Value.oneCell']
theorem eq_sl {t e : TypeId} (hu : pv P (underlying t) = some (.slice e)) (ad : Option Addr) (n c : Nat) (d : Nat) : pv P (Op.equalIn (d + 1) t (.slice ad n c) (.slice none 0 0)) = some ad.isNone := by
  unfold Op.equalIn
  cases ad <;> simp [hu]
theorem bin_slr {t e : TypeId} (he : elemOfSlice P t = some e) {x y : Operand} {ad : Option Addr} {n c : Nat} : vbin P H .eql t x y (.one (.c (.v (.slice ad n c)))) (.one (.c (.v (.slice none 0 0)))) = qa (vB ad.isNone) := by
  have hu : ∃ d, pv P (underlying t) = some (.slice d) := by
    unfold elemOfSlice at he
    split at he
    · rename_i d hd; exact ⟨_, hd⟩
    · cases he
  obtain ⟨d, hd⟩ := hu
  simp [vbin, vbin0, neSl, isNils, isPtr, isNilp, fresh, AV.sc, Cell.sc, eqGuard, binOp, ofPv, one?, Value.oneCell', Op.equal, Op.maxDepth, eq_sl hd ad n c 9999]
theorem eq_bool {t : TypeId} (hu : pv P (underlying t) = some .bool) (a b : Bool) (d : Nat) : pv P (Op.equalIn (d + 1) t (.bool a) (.bool b)) = some (a == b) := by
  unfold Op.equalIn
  simp [hu]
theorem eq_nil {t e : TypeId} (hu : pv P (underlying t) = some (.pointer e)) (d : Nat) : pv P (Op.equalIn (d + 1) t (.pointer none) (.pointer none)) = some true := by
  unfold Op.equalIn
  simp [hu]
theorem bin_pee {t e : TypeId} (hu : pv P (underlying t) = some (.pointer e)) {x y : Operand} : vbin P H .eql t x y (.one (.c (.v (.pointer none)))) (.one (.c (.v (.pointer none)))) = qa (vB true) := by
  simp [vbin, vbin0, neSl, isNils, isPtr, isNilp, fresh, AV.sc, Cell.sc, eqGuard, binOp, ofPv, one?, Value.oneCell', Op.equal, Op.maxDepth, eq_nil hu 9999]
theorem bin_bne {t : TypeId} (hu : pv P (underlying t) = some .bool) {x y : Operand} {a b : Bool} : vbin P H .neq t x y (vB a) (vB b) = qa (vB (a != b)) := by
  simp [vbin, vbin0, neSl, isNils, isPtr, isNilp, fresh, AV.sc, Cell.sc, eqGuard, binOp, ofPv, one?, Value.oneCell', Op.equal, Op.maxDepth, eq_bool hu a b 9999]
  rfl
theorem bin_beq {t : TypeId} (hu : pv P (underlying t) = some .bool) {x y : Operand} {a b : Bool} : vbin P H .eql t x y (vB a) (vB b) = qa (vB (a == b)) := by
  simp [vbin, vbin0, neSl, isNils, isPtr, isNilp, fresh, AV.sc, Cell.sc, eqGuard, binOp, ofPv, one?, Value.oneCell', Op.equal, Op.maxDepth, eq_bool hu a b 9999]
/-- The first so many of a row that does not change. -/
theorem slc_to {t e sz : Nat} (he : elemOfSlice P t = some e) (hs : pv P (sizeOf e) = some sz) {xs : List (List CV)} {nid k : Nat} (h1 : k ≤ xs.length) (hx : AllLen xs sz) : vslice P H nid t (.one (.c (.arr xs))) none (some (vI .i64 (k : Int))) none = qa (.one (.c (.arr (xs.take k)))) := by
  have h2 : (k : Int) ≤ xs.length := by omega
  unfold vslice
  simp only [he, hs, optInt, Option.getD_none, Option.getD_some]
  rw [if_pos ⟨Int.le_refl _, by omega, h2, hx⟩]
  simp
end Go.Proofs.Vm
end

section
/- The whole table tells the truth of the program. -/
namespace Go.Proofs.YtmgnmnogiajlgaaF
open Go Go.Proofs.Vm
theorem fnOkS : FnOk Try.prog 40 := ⟨Try.f40, Try.func40, by kernel_rfl, by kernel_rfl⟩
theorem sortsS : SortsStr Try.prog 40 := fun blk off cap zs w h1 h2 h3 => by
  have h := Try.slices_Sort_string blk off cap (zs.map (·.data.toList)) w h1 h2 (by rw [List.length_map]; exact h3)
  rw [List.length_map] at h
  rw [ssort, List.map_mergeSort (s := fun x y : List UInt8 => decide (x ≤ y)) (fun a _ b _ => rfl)]
  exact h
theorem strOk : TOk Try.prog (strTab 40) := strTab_ok (by kernel_rfl) fnOkS sortsS (fun p cap w => Try.slices_Sort_string_none p cap w)
def sh0 (g : FuncId) : Bool := g == 69 || g == 38
def cfg0 : Cfg := ⟨sh0, fun _ => false, strTab 40, fun _ => noLate⟩
theorem t0Ok : TOk Try.prog (TT Try.prog cfg0) := TT_ok mixed strOk
@[simp] theorem t0_cb : (TT Try.prog cfg0).cb = false := rfl
theorem run0_u64 {args : List AV} {r : AV} {H H' : Hp} (hb : cfg0.base.S 69 args H = none) (hl : args.length ≤ 8) (hH : Gr Try.prog 69 H H') (h : wpV Try.prog (TT Try.prog cfg0) ⟨8, sh0, false, noLate⟩ (Try.f69.body.getD .skip) (endS Try.prog Try.f69.results.toList r H') ⟨envS args, H⟩) : (TT Try.prog cfg0).S 69 args H = some (r, H') :=
  TT_goS (N := ⟨8, sh0, false, noLate⟩) Try.func69 (by kernel_rfl) ok69 (by kernel_rfl) (by kernel_rfl) hb hl hH h
theorem clo_u64 : CloS Try.prog 69 := cloS_of fun a c => by
  refine ⟨1, [.clo [] false, .clo [] false], false, rfl, ?_⟩
  refine (t0Ok.2 _ _ _ _ _ (run0_u64 rfl (by simp) (by simp) ?_)).2.2
  cases a with
  | none => simp [Try.f69, vmove, isNil, bin_slr es112]
  | some x =>
    have ha := vappend_eq (P := Try.prog) (H := [.clo [] false, .clo [] false]) (t := 112) (tx := 112) (id := 1) (n := 0) (l := []) (xs := []) (x := .one (.c (.v (.slice (some x) 0 c)))) es112 es112 el22
      (by simp) rfl rfl (by simp) (by simp) (by simp) (by simp)
    simp at ha
    simp [Try.f69, vmove, isNil, bin_slr es112, bs_zero es112 el22, ha]
theorem run0_rad {args : List AV} {r : AV} {H H' : Hp} (hb : cfg0.base.S 38 args H = none) (hl : args.length ≤ 8) (hH : Gr Try.prog 38 H H') (h : wpV Try.prog (TT Try.prog cfg0) ⟨8, sh0, false, noLate⟩ (Try.f38.body.getD .skip) (endS Try.prog Try.f38.results.toList r H') ⟨envS args, H⟩) : (TT Try.prog cfg0).S 38 args H = some (r, H') :=
  TT_goS (N := ⟨8, sh0, false, noLate⟩) Try.func38 (by kernel_rfl) ok38 (by kernel_rfl) (by kernel_rfl) hb hl hH h
theorem clo_rad : CloS Try.prog 38 := cloS_of fun a c => by
  refine ⟨1, [.clo [] false, .clo [] false], false, rfl, ?_⟩
  refine (t0Ok.2 _ _ _ _ _ (run0_rad rfl (by simp) (by simp) ?_)).2.2
  cases a with
  | none => simp [Try.f38, vmove, isNil, bin_slr es36]
  | some x =>
    have ha := vappend_eq (P := Try.prog) (H := [.clo [] false, .clo [] false]) (t := 36) (tx := 36) (id := 1) (n := 0) (l := []) (xs := []) (x := .one (.c (.v (.slice (some x) 0 c)))) es36 es36 el31
      (by simp) rfl rfl (by simp) (by simp) (by simp) (by simp)
    simp at ha
    simp [Try.f38, vmove, isNil, bin_slr es36, bs_zero es36 el31, ha]
theorem tvOk : TOk Try.prog TV := TT_ok mixed (strCloTab_ok strOk fun g hg => by
  rcases List.mem_cons.1 hg with rfl | hg
  · exact ⟨ok69, clo_u64⟩
  · rw [List.mem_singleton.1 hg]
    exact ⟨ok38, clo_rad⟩)
end Go.Proofs.YtmgnmnogiajlgaaF
end

section
/- Structs of strings and numbers, compared. -/
namespace Go.Proofs.Vm
open Go

variable {P : Program} {H : Hp}

theorem eq_strD {t : TypeId} (hu : pv P (underlying t) = some .string) (a b : ByteArray) (d : Nat) : pv P (Op.equalIn (d + 1) t (.string a) (.string b)) = some (a == b) := by
  unfold Op.equalIn
  simp [hu]
theorem eq_intD {t : TypeId} {k : IntKind} (hu : pv P (underlying t) = some (.int k)) (a b : Int) (d : Nat) : pv P (Op.equalIn (d + 1) t (.int k a) (.int k b)) = some (a == b) := by
  unfold Op.equalIn
  simp [hu]

theorem pv_of {t : TypeId} {d : TypeDesc} (h : P.underlying t = some d) : pv P (underlying t) = some d := by
  unfold underlying
  simp [h]
/-- Of one string and one number. -/
theorem eq_st2 {t : TypeId} {f0 f1 : Field} {k : IntKind} (hu : pv P (underlying t) = some (.struct #[f0, f1])) (hs : P.stoodInHeld t = false) (n0 : (f0.name == "_") = false) (n1 : (f1.name == "_") = false) (o0 : f0.offset = 0) (o1 : f1.offset = 1)
    (a0 : pv P (isAgg f0.type) = some false) (a1 : pv P (isAgg f1.type) = some false) (u0 : pv P (underlying f0.type) = some .string) (u1 : pv P (underlying f1.type) = some (.int k)) (a b : ByteArray) (x y : Int) (d : Nat) :
    pv P (Op.equalIn (d + 2) t (.agg #[.string a, .int k x]) (.agg #[.string b, .int k y])) = some (a == b && x == y) := by
  have m0 : ¬ f0.name = "_" := fun h => by rw [h] at n0; simp at n0
  have m1 : ¬ f1.name = "_" := fun h => by rw [h] at n1; simp at n1
  unfold Op.equalIn
  cases h0 : a == b <;> cases h1 : x == y <;> simp [hu, hs, m0, m1, o0, o1, part, a0, a1, eq_strD u0, eq_intD u1, h0, h1]

theorem bin_st2 {t : TypeId} {f0 f1 : Field} {k : IntKind} (hu : pv P (underlying t) = some (.struct #[f0, f1])) (hs : P.stoodInHeld t = false) (hg : P.eqGuardType P.depth t = false) (n0 : (f0.name == "_") = false) (n1 : (f1.name == "_") = false) (o0 : f0.offset = 0) (o1 : f1.offset = 1)
    (a0 : pv P (isAgg f0.type) = some false) (a1 : pv P (isAgg f1.type) = some false) (u0 : pv P (underlying f0.type) = some .string) (u1 : pv P (underlying f1.type) = some (.int k)) {a b : ByteArray} {x y : Int} {p q : Operand} :
    vbin P H .eql t p q (.agg [.c (.v (.string a)), .c (.v (.int k x))]) (.agg [.c (.v (.string b)), .c (.v (.int k y))]) = qa (vB (a == b && x == y)) ∧
    vbin P H .neq t p q (.agg [.c (.v (.string a)), .c (.v (.int k x))]) (.agg [.c (.v (.string b)), .c (.v (.int k y))]) = qa (vB (!(a == b && x == y))) := by
  have h := eq_st2 hu hs n0 n1 o0 o1 a0 a1 u0 u1 a b x y 9998
  constructor <;> simp [vbin, vbin0, neSl, isNils, isPtr, isNilp, fresh, AV.sc, scs, Cell.sc, eqGuard, hg, binOp, ofPv, one?, Value.oneCell', Op.equal, Op.maxDepth, h]
/-- A pointer that is none, and one that is not. -/
theorem bin_pnn {t e : TypeId} (hu : pv P (underlying t) = some (.pointer e)) {x y : Operand} {p : Pt} (hl : lenIs H p.id p.tot = true) : vbin P H .neq t x y (.one (.ptr p)) (.one (.c (.v (.pointer none)))) = qa (vB true) := by
  simp [-lenIs, vbin, vbin0, neSl, isNils, isPtr, isNilp, fresh, hl, hu, one?, Value.oneCell']
theorem bin_pen {t e : TypeId} (hu : pv P (underlying t) = some (.pointer e)) {x y : Operand} : vbin P H .neq t x y (.one (.c (.v (.pointer none)))) (.one (.c (.v (.pointer none)))) = qa (vB false) := by
  simp [vbin, vbin0, neSl, isNils, isPtr, isNilp, fresh, AV.sc, Cell.sc, eqGuard, binOp, ofPv, one?, Value.oneCell', Op.equal, Op.maxDepth, eq_nil hu 9999]
end Go.Proofs.Vm
end

section
/- Numbers of the field, sums and cells of keys. -/
namespace Go.Proofs.YtmgnmnogiajlgaaF
open Go Go.Proofs.Vm

theorem u64w (x : Int) : IntKind.u64.wrap x = x % 18446744073709551616 := by simp [IntKind.wrap, IntKind.bits, IntKind.signed]
theorem u64_id {x : Int} (h0 : 0 ≤ x) (h1 : x < 18446744073709551616) : IntKind.u64.wrap x = x := by rw [u64w]; omega
theorem and_low (x : Int) (n : Nat) (hn : n ≤ 63) (h0 : 0 ≤ x) (h1 : x < 18446744073709551616) : Go.bits .and .u64 x ((2 ^ n - 1 : Nat) : Int) = x % ((2 ^ n : Nat) : Int) := by
  have hp : 2 ^ n ≤ 2 ^ 63 := Nat.pow_le_pow_right (by omega) hn
  have hq : 2 ^ 63 = 9223372036854775808 := by decide
  rw [u64_and x _ h0 h1 (by omega) (by omega)]
  rw [show ((2 ^ n - 1 : Nat) : Int).toNat = 2 ^ n - 1 by omega, Nat.and_two_pow_sub_one_eq_mod]
  obtain ⟨m, rfl⟩ := Int.eq_ofNat_of_zero_le h0
  simp
theorem and_P (x : Int) (h0 : 0 ≤ x) (h1 : x < 18446744073709551616) : Go.bits .and .u64 x 2305843009213693951 = x % 2305843009213693952 := and_low x 61 (by omega) h0 h1
theorem and_32 (x : Int) (h0 : 0 ≤ x) (h1 : x < 18446744073709551616) : Go.bits .and .u64 x 4294967295 = x % 4294967296 := and_low x 32 (by omega) h0 h1
theorem and_1 (x : Int) (h0 : 0 ≤ x) (h1 : x < 18446744073709551616) : Go.bits .and .u64 x 1 = x % 2 := and_low x 1 (by omega) h0 h1

theorem or_join' (x y : Int) (n : Nat) (hx0 : 0 ≤ x) (hx1 : x < 18446744073709551616) (hx : x % ((2 ^ n : Nat) : Int) = 0) (hy0 : 0 ≤ y) (hy1 : y < ((2 ^ n : Nat) : Int)) (hy2 : y < 18446744073709551616) : Go.bits .or .u64 y x = y + x := by
  rw [u64_or y x hy0 hy2 hx0 hx1]
  obtain ⟨a, rfl⟩ := Int.eq_ofNat_of_zero_le hx0
  obtain ⟨b, rfl⟩ := Int.eq_ofNat_of_zero_le hy0
  have h := nat_join n a b (by omega) (by omega)
  simp only [Int.toNat_natCast]
  rw [Nat.or_comm, h]
  simp; omega
theorem mul_bound {x y : Int} (n : Int) (h0 : 0 ≤ x) (h1 : x ≤ n) (h2 : 0 ≤ y) (h3 : y ≤ n) : 0 ≤ x * y ∧ x * y ≤ n * n :=
  ⟨Int.mul_nonneg h0 h2, Int.mul_le_mul h1 h3 h2 (by omega)⟩

theorem field_Of {a : Int} (h0 : 0 ≤ a) (h1 : a < 18446744073709551616) : TV.pu 63 [cI .u64 a] = some (cI .u64 (a % 2305843009213693951)) := by
  refine run63 (by simp) ?_
  simp [Try.f63, bin_shr, and_P a h0 h1, IntKind.bits]
  rw [u64_id (x := a % 2305843009213693952 + a / 2305843009213693952) (by omega) (by omega)]
  split
  · rw [u64_id (by omega) (by omega)]; omega
  · omega

theorem field_Add {a b : Int} (h0 : 0 ≤ a) (h1 : a < 18446744073709551616) (h2 : 0 ≤ b) (h3 : b < 18446744073709551616) : TV.pu 44 [cI .u64 a, cI .u64 b] = some (cI .u64 ((a + b) % 2305843009213693951)) := by
  refine run44 (by simp) ?_
  have e : IntKind.u64.wrap (a % 2305843009213693951 + b % 2305843009213693951) = a % 2305843009213693951 + b % 2305843009213693951 := u64_id (by omega) (by omega)
  simp [Try.f44, field_Of h0 h1, field_Of h2 h3, e, field_Of (a := a % 2305843009213693951 + b % 2305843009213693951) (by omega) (by omega)]

theorem Mul64 {x y : Int} (h0 : 0 ≤ x) (h1 : x < 18446744073709551616) (h2 : 0 ≤ y) (h3 : y < 18446744073709551616) : TV.pu 64 [cI .u64 x, cI .u64 y] = some (.tup [(false, [.v (.int .u64 (x * y / 18446744073709551616))]), (false, [.v (.int .u64 (x * y % 18446744073709551616))])]) := by
  refine run64 (by simp) ?_
  simp [Try.f64, bin_shr, IntKind.bits, and_32 x h0 h1, and_32 y h2 h3]
  obtain ⟨x1, hx1⟩ : ∃ z, z = x / 4294967296 := ⟨_, rfl⟩
  obtain ⟨x0, hx0⟩ : ∃ z, z = x % 4294967296 := ⟨_, rfl⟩
  obtain ⟨y1, hy1⟩ : ∃ z, z = y / 4294967296 := ⟨_, rfl⟩
  obtain ⟨y0, hy0⟩ : ∃ z, z = y % 4294967296 := ⟨_, rfl⟩
  rw [← hx1, ← hx0, ← hy1, ← hy0]
  have ex : x = x1 * 4294967296 + x0 := by omega
  have ey : y = y1 * 4294967296 + y0 := by omega
  have b11 := mul_bound (x := x1) (y := y1) 4294967295 (by omega) (by omega) (by omega) (by omega)
  have b10 := mul_bound (x := x1) (y := y0) 4294967295 (by omega) (by omega) (by omega) (by omega)
  have b01 := mul_bound (x := x0) (y := y1) 4294967295 (by omega) (by omega) (by omega) (by omega)
  have b00 := mul_bound (x := x0) (y := y0) 4294967295 (by omega) (by omega) (by omega) (by omega)
  have exy : x * y = x1 * y1 * 18446744073709551616 + (x1 * y0 + x0 * y1) * 4294967296 + x0 * y0 := by rw [ex, ey]; grind
  rw [exy]
  generalize x1 * y1 = p11 at *
  generalize x1 * y0 = p10 at *
  generalize x0 * y1 = p01 at *
  generalize x0 * y0 = p00 at *
  clear hx1 hx0 hy1 hy0 ex ey exy h0 h1 h2 h3
  rw [u64_id (x := p11) (by omega) (by omega), u64_id (x := p10) (by omega) (by omega), u64_id (x := p01) (by omega) (by omega), u64_id (x := p00) (by omega) (by omega)]
  rw [u64_id (x := p10 + p00 / 4294967296) (by omega) (by omega)]
  rw [and_32 _ (by omega) (by omega)]
  rw [u64_id (x := (p10 + p00 / 4294967296) % 4294967296 + p01) (by omega) (by omega)]
  rw [u64_id (x := p11 + (p10 + p00 / 4294967296) / 4294967296) (by omega) (by omega)]
  rw [u64_id (x := p11 + (p10 + p00 / 4294967296) / 4294967296 + ((p10 + p00 / 4294967296) % 4294967296 + p01) / 4294967296) (by omega) (by omega)]
  rw [u64w]
  omega

theorem field_Mul {a b : Int} (h0 : 0 ≤ a) (h1 : a < 18446744073709551616) (h2 : 0 ≤ b) (h3 : b < 18446744073709551616) : TV.pu 45 [cI .u64 a, cI .u64 b] = some (cI .u64 (a * b % 2305843009213693951)) := by
  refine run45 (by simp) ?_
  have hb := mul_bound (x := a % 2305843009213693951) (y := b % 2305843009213693951) 2305843009213693950 (by omega) (by omega) (by omega) (by omega)
  have hm := Mul64 (x := a % 2305843009213693951) (y := b % 2305843009213693951) (by omega) (by omega) (by omega) (by omega)
  rw [Int.mul_emod a b]
  generalize a % 2305843009213693951 * (b % 2305843009213693951) = N at hb hm ⊢
  simp [Try.f45, field_Of h0 h1, field_Of h2 h3, hm, bin_shr, bin_shl, IntKind.bits]
  rw [and_P _ (by omega) (by omega)]
  rw [u64_id (x := N / 18446744073709551616 * 8) (by omega) (by omega)]
  rw [or_join' (N / 18446744073709551616 * 8) (N % 18446744073709551616 / 2305843009213693952) 3 (by omega) (by omega) (by omega) (by omega) (by omega) (by omega)]
  rw [u64_id (by omega) (by omega), field_Of (by omega) (by omega)]
  simp
  omega
theorem int_sq (x : Int) : x ^ 2 = x * x := by rw [Int.pow_succ, Int.pow_succ, Int.pow_zero, Int.one_mul]
theorem emod_pow (a n : Int) (k : Nat) : (a % n) ^ k % n = a ^ k % n := by
  induction k with
  | zero => simp
  | succ k ih => rw [Int.pow_succ, Int.pow_succ, Int.mul_emod, ih, Int.emod_emod_of_dvd _ (Int.dvd_refl n), ← Int.mul_emod]

theorem field_Pow {x : Int} {n : Nat} (h0 : 0 ≤ x) (h1 : x < 18446744073709551616) (hn : (n : Int) < 18446744073709551616) : TV.pu 83 [cI .u64 x, cI .u64 n] = some (cI .u64 (x ^ n % 2305843009213693951)) := by
  refine run83 (by simp) ?_
  simp [Try.f83, field_Of h0 h1]
  obtain ⟨I, hI⟩ : ∃ I : Nat → St → Prop, ∀ k s, I k s ↔ (∃ e y o, s = ⟨e, []⟩ ∧ e 0 = vI .u64 y ∧ e 1 = vI .u64 (k : Nat) ∧ e 5 = vI .u64 o ∧ 0 ≤ y ∧ y < 2305843009213693951 ∧ 0 ≤ o ∧ o < 2305843009213693951 ∧ (k : Int) < 18446744073709551616 ∧ o * y ^ k % 2305843009213693951 = x ^ n % 2305843009213693951) := ⟨_, fun _ _ => Iff.rfl⟩
  refine wpL_ind I ?_ n _ ((hI _ _).2 ⟨_, x % 2305843009213693951, 1, rfl, by simp, by simp, by simp, by omega, by omega, by omega, by omega, hn, by rw [Int.one_mul, emod_pow]⟩)
  intro k s hs
  obtain ⟨e, y, o, rfl, e0, e1, e5, y0, y1, o0, o1, k1, hk⟩ := (hI _ _).1 hs
  have hm := field_Mul (a := y) (b := y) y0 (by omega) y0 (by omega)
  have ho := field_Mul (a := o) (b := y) o0 (by omega) y0 (by omega)
  have key : ∀ o : Int, (o * (y * y % 2305843009213693951) ^ (k / 2)) % 2305843009213693951 = (o * y ^ (2 * (k / 2))) % 2305843009213693951 := by
    intro o
    rw [Int.mul_emod, emod_pow, ← Int.mul_emod, ← int_sq, ← Int.pow_mul]
  simp [e0, e1, e5, hm, ho, bin_shr, IntKind.bits, and_1 (k : Int) (by omega) (by omega)]
  by_cases hz : k = 0
  · subst hz
    rw [if_neg (by omega)]
    simp at hk
    rw [← hk]
    omega
  · rw [if_pos (by omega)]
    split
    · refine ⟨k / 2, by omega, (hI _ _).2 ⟨_, y * y % 2305843009213693951, o * y % 2305843009213693951, rfl, by simp, by simp, by simp, by omega, by omega, by omega, by omega, by omega, ?_⟩⟩
      rw [key, ← hk]
      have e2 : y ^ k = y * y ^ (2 * (k / 2)) := by
        rw [Int.mul_comm, ← Int.pow_succ]; congr 1; omega
      rw [e2, ← Int.mul_assoc, Int.mul_emod, Int.emod_emod_of_dvd _ (Int.dvd_refl _), ← Int.mul_emod]
    · refine ⟨k / 2, by omega, (hI _ _).2 ⟨_, y * y % 2305843009213693951, o, rfl, by simp, by simp, by simp [e5], by omega, by omega, by omega, by omega, by omega, ?_⟩⟩
      rw [key, ← hk, show 2 * (k / 2) = k by omega]
theorem byt_range (s : ByteArray) (i : Int) : 0 ≤ byt s i ∧ byt s i < 256 := by
  unfold byt
  split
  · rename_i b _
    have := b.toNat_lt
    omega
  · omega
theorem byt_out (s : ByteArray) (i : Int) (h0 : 0 ≤ i) (h : (s.size : Int) ≤ i) : byt s i = 0 := by
  unfold byt
  have : s[i.toNat]? = none := by simp; omega
  rw [this]
def fP : Int := 2305843009213693951
/-- Four bytes as a number; noughts behind the end. -/
def hword (s : ByteArray) (i : Int) : Int := ((byt s i * 256 + byt s (i + 1)) * 256 + byt s (i + 2)) * 256 + byt s (i + 3)
/-- What is reckoned of the first n words. -/
def hpoly (a : Int) (s : ByteArray) : Nat → Int
  | 0 => (s.size : Int) % 2305843009213693951
  | n + 1 => (hpoly a s n * a + (hword s (4 * (n : Int)) + 1)) % 2305843009213693951
def nwords (s : ByteArray) : Nat := (s.size + 3) / 4
def hsum (seed : Int) (s : ByteArray) : Int := (hpoly ((seed + 2) % 2305843009213693951) s (nwords s) * ((seed + 2) % 2305843009213693951) % 2305843009213693951) ^ 17 % 2305843009213693951
def hrow (seed i : Int) : Int := (((seed + 3) * ((if i < 0 then 0 else i) + 2) + 5) % 2305843009213693951) ^ 2 % 2305843009213693951
def hcell (seed : Int) (s : ByteArray) (n : Int) : Int := if n < 1 then 0 else hsum seed s % n
def hsign (seed : Int) (s : ByteArray) : Int := hsum seed s % 2 * 2 - 1

theorem hsum_range (seed : Int) (s : ByteArray) : 0 ≤ hsum seed s ∧ hsum seed s < 2305843009213693951 := by
  unfold hsum; omega
theorem hrow_range (seed i : Int) : 0 ≤ hrow seed i ∧ hrow seed i < 2305843009213693951 := by
  unfold hrow; omega
theorem hcell_range (seed : Int) (s : ByteArray) (n : Int) (h : 1 ≤ n) : 0 ≤ hcell seed s n ∧ hcell seed s n < n := by
  unfold hcell
  rw [if_neg (by omega)]
  exact ⟨Int.emod_nonneg _ (by omega), Int.emod_lt_of_pos _ (by omega)⟩
theorem hsign_or (seed : Int) (s : ByteArray) : hsign seed s = 1 ∨ hsign seed s = -1 := by
  unfold hsign; omega
theorem hword_range (s : ByteArray) (i : Int) : 0 ≤ hword s i ∧ hword s i < 4294967296 := by
  have a := byt_range s i; have b := byt_range s (i + 1); have c := byt_range s (i + 2); have d := byt_range s (i + 3)
  unfold hword; omega
theorem hpoly_range (a : Int) (s : ByteArray) (n : Nat) : 0 ≤ hpoly a s n ∧ hpoly a s n < 2305843009213693951 := by
  cases n with
  | zero => unfold hpoly; omega
  | succ n => unfold hpoly; omega

theorem or_join (x y : Int) (n : Nat) (hx0 : 0 ≤ x) (hx1 : x < 18446744073709551616) (hx : x % ((2 ^ n : Nat) : Int) = 0) (hy0 : 0 ≤ y) (hy1 : y < ((2 ^ n : Nat) : Int)) (hy2 : y < 18446744073709551616) : Go.bits .or .u64 x y = x + y := by
  rw [u64_or x y hx0 hx1 hy0 hy2]
  obtain ⟨a, rfl⟩ := Int.eq_ofNat_of_zero_le hx0
  obtain ⟨b, rfl⟩ := Int.eq_ofNat_of_zero_le hy0
  have h := nat_join n a b (by omega) (by omega)
  simp only [Int.toNat_natCast]
  rw [h]
  simp

theorem hash_Row {s i : Int} (h0 : 0 ≤ s) (h1 : s < 18446744073709551616) (h2 : i < 9223372036854775808) (h3 : -9223372036854775808 ≤ i) : TV.pu 18 [cI .u64 s, cI .i64 i] = some (cI .u64 (hrow s i)) := by
  refine run18 (by simp) ?_
  obtain ⟨j, hj⟩ : ∃ j, j = if i < 0 then 0 else i := ⟨_, rfl⟩
  have hj0 : 0 ≤ j := by rw [hj]; split <;> omega
  have hj1 : j < 9223372036854775808 := by rw [hj]; split <;> omega
  obtain ⟨v1, h1'⟩ : ∃ v, v = (s + 3) % 2305843009213693951 := ⟨_, rfl⟩
  obtain ⟨v2, h2'⟩ : ∃ v, v = (j + 2) % 2305843009213693951 := ⟨_, rfl⟩
  obtain ⟨v3, h3'⟩ : ∃ v, v = v1 * v2 % 2305843009213693951 := ⟨_, rfl⟩
  obtain ⟨v4, h4'⟩ : ∃ v, v = (v3 + 5) % 2305843009213693951 := ⟨_, rfl⟩
  have e1 := field_Add (a := s) (b := 3) h0 h1 (by omega) (by omega)
  have e2 := field_Add (a := j) (b := 2) hj0 (by omega) (by omega) (by omega)
  have e3 := field_Mul (a := v1) (b := v2) (by omega) (by omega) (by omega) (by omega)
  have e4 := field_Add (a := v3) (b := 5) (by omega) (by omega) (by omega) (by omega)
  have e5 := field_Mul (a := v4) (b := v4) (by omega) (by omega) (by omega) (by omega)
  rw [← h1'] at e1
  rw [← h2'] at e2
  rw [← h3'] at e3
  rw [← h4'] at e4
  have ew : IntKind.u64.wrap j = j := u64_id hj0 (by omega)
  have em : (if i < 0 then 0 else i) = j := hj.symm
  simp [Try.f18, e1, em, ew, e2, e3, e4, e5]
  unfold hrow
  rw [em, int_sq]
  have hv : v4 = ((s + 3) * (j + 2) + 5) % 2305843009213693951 := by
    have : v3 = (s + 3) * (j + 2) % 2305843009213693951 := by rw [h3', h1', h2', ← Int.mul_emod]
    omega
  rw [hv]

/-- The first bytes of a word. -/
def hwp (s : ByteArray) (i : Int) : Nat → Int
  | 0 => 0
  | j + 1 => hwp s i j * 256 + byt s (i + j)
theorem hwp_range (s : ByteArray) (i : Int) : ∀ j : Nat, 0 ≤ hwp s i j ∧ hwp s i j < 256 ^ j
  | 0 => by simp [hwp]
  | j + 1 => by
    have := hwp_range s i j
    have := byt_range s (i + j)
    simp only [hwp]
    rw [Int.pow_succ]
    omega
theorem hwp_word (s : ByteArray) (i : Int) : hwp s i 4 = hword s i := by
  simp [hwp, hword]

theorem hash_Sum {seed : Int} {s : ByteArray} (h0 : 0 ≤ seed) (h1 : seed < 18446744073709551616) (hs : s.size ≤ 140737488351232) : TV.pu 67 [cI .u64 seed, cS s] = some (cI .u64 (hsum seed s)) := by
  refine run67 (by simp) ?_
  have ha := field_Add (a := seed) (b := 2) h0 h1 (by omega) (by omega)
  have ew : IntKind.u64.wrap (s.size : Int) = s.size := u64_id (by omega) (by omega)
  obtain ⟨a, hae⟩ : ∃ a, a = (seed + 2) % 2305843009213693951 := ⟨_, rfl⟩
  have ha0 : 0 ≤ a := by omega
  have ha1 : a < 2305843009213693951 := by omega
  rw [← hae] at ha
  simp [Try.f67, ha, ew]
  obtain ⟨I, hI⟩ : ∃ I : Nat → St → Prop, ∀ k s', I k s' ↔ (∃ e n, s' = ⟨e, []⟩ ∧ e 1 = vS s ∧ e 5 = vI .u64 a ∧ e 6 = vI .u64 (hpoly a s n) ∧ e 7 = vI .i64 (4 * (n : Nat) : Int) ∧ n + k = nwords s) := ⟨_, fun _ _ => Iff.rfl⟩
  have e0 : hpoly a s 0 = (s.size : Int) := by
    show (s.size : Int) % 2305843009213693951 = _
    omega
  refine wpL_ind I ?_ (nwords s) _ ((hI _ _).2 ⟨_, 0, rfl, by simp, by simp, by simp [e0], by simp, by omega⟩)
  intro k st hst
  obtain ⟨e, n, rfl, e1, e5, e6, e7, hk⟩ := (hI _ _).1 hst
  have hp := hpoly_range a s n
  simp [e1, e5, e6, e7]
  by_cases c : k = 0
  · have hsz : ¬ 4 * (n : Int) < (s.size : Int) := by unfold nwords at hk; omega
    have hn : n = nwords s := by omega
    rw [if_neg hsz]
    have hm := field_Mul (a := hpoly a s n) (b := a) hp.1 (by omega) ha0 (by omega)
    have hw := field_Pow (x := hpoly a s n * a % 2305843009213693951) (n := 17) (by omega) (by omega) (by omega)
    simp at hw
    simp [hm, hw]
    unfold hsum
    rw [← hae, ← hn]
  · have hsz : 4 * (n : Int) < (s.size : Int) := by unfold nwords at hk; omega
    rw [if_pos hsz]
    obtain ⟨J, hJ⟩ : ∃ J : Nat → St → Prop, ∀ k s', J k s' ↔ (∃ e j, s' = ⟨e, []⟩ ∧ e 1 = vS s ∧ e 5 = vI .u64 a ∧ e 6 = vI .u64 (hpoly a s n) ∧ e 7 = vI .i64 (4 * (n : Nat) : Int) ∧ e 8 = vI .u64 (hwp s (4 * (n : Nat) : Int) j) ∧ e 21 = vI .i64 (j : Nat) ∧ j + k = 4) := ⟨_, fun _ _ => Iff.rfl⟩
    refine wpL_ind J ?_ 4 _ ((hJ _ _).2 ⟨_, 0, rfl, by simp [e1], by simp [e5], by simp [e6], by simp [e7], by simp [hwp], by simp, by omega⟩)
    intro q st hst
    obtain ⟨e', j, rfl, f1, f5, f6, f7, f8, f21, hq⟩ := (hJ _ _).1 hst
    have hr := hwp_range s (4 * (n : Int)) j
    have hb := byt_range s (4 * (n : Int) + j)
    have w1 : IntKind.i64.wrap (4 * (n : Int) + j) = 4 * (n : Int) + j := w64_id (by omega) (by omega)
    have w2 : IntKind.u64.wrap (byt s (4 * (n : Int) + j)) = byt s (4 * (n : Int) + j) := u64_id hb.1 (by omega)
    have w3 : IntKind.i64.wrap ((j : Int) + 1) = ((j + 1 : Nat) : Int) := by rw [w64_id (by omega) (by omega)]; omega
    by_cases hj : j < 4
    · have hr2 : hwp s (4 * (n : Int)) j < 16777216 := by
        have : (256 : Int) ^ j ≤ 256 ^ 3 := by
          have : j = 0 ∨ j = 1 ∨ j = 2 ∨ j = 3 := by omega
          rcases this with rfl | rfl | rfl | rfl <;> decide
        omega
      have w4 : IntKind.u64.wrap (hwp s (4 * (n : Int)) j * 256) = hwp s (4 * (n : Int)) j * 256 := u64_id (by omega) (by omega)
      have hj' : ((j : Int) < 4) := by omega
      by_cases hc : 4 * (n : Int) + j < s.size
      · have hx := idx_str us9 (s := s) (k := .i64) (i := 4 * (n : Int) + j) (by omega) hc
        have ho := or_join (hwp s (4 * (n : Int)) j * 256) (byt s (4 * (n : Int) + j)) 8 (by omega) (by omega) (by omega) (by omega) (by omega) (by omega)
        simp [f1, f5, f6, f7, f8, f21, bin_shl, IntKind.bits, w1, w2, w3, w4, hj', hc, hx, ho]
        exact ⟨q - 1, by omega, (hJ _ _).2 ⟨_, j + 1, rfl, by simp [f1], by simp [f5], by simp [f6], by simp [f7], by simp [hwp], by simp, by omega⟩⟩
      · have hx := byt_out s (4 * (n : Int) + j) (by omega) (by omega)
        simp [f1, f5, f6, f7, f8, f21, bin_shl, IntKind.bits, w1, w3, w4, hj', hc]
        exact ⟨q - 1, by omega, (hJ _ _).2 ⟨_, j + 1, rfl, by simp [f1], by simp [f5], by simp [f6], by simp [f7], by simp [hwp, hx], by simp, by omega⟩⟩
    · have hj4 : j = 4 := by omega
      subst hj4
      have hw := hword_range s (4 * (n : Int))
      rw [hwp_word] at f8
      have w5 : IntKind.u64.wrap (hword s (4 * (n : Int)) + 1) = hword s (4 * (n : Int)) + 1 := u64_id (by omega) (by omega)
      have hm := field_Mul (a := hpoly a s n) (b := a) hp.1 (by omega) ha0 (by omega)
      obtain ⟨v, hv⟩ : ∃ v, v = hpoly a s n * a % 2305843009213693951 := ⟨_, rfl⟩
      rw [← hv] at hm
      have had := field_Add (a := v) (b := hword s (4 * (n : Int)) + 1) (by omega) (by omega) (by omega) (by omega)
      have w6 : IntKind.i64.wrap (4 * (n : Int) + 4) = 4 * (n : Int) + 4 := w64_id (by omega) (by omega)
      simp [f5, f6, f7, f8, f21, hm, w5, had, w6]
      refine ⟨k - 1, by omega, (hI _ _).2 ⟨_, n + 1, rfl, by simp [f1], by simp [f5], ?_, ?_, by omega⟩⟩
      · simp [hpoly, hv]
      · simp; omega

theorem hash_Cell {seed n : Int} {s : ByteArray} (h0 : 0 ≤ seed) (h1 : seed < 18446744073709551616) (hs : s.size ≤ 140737488351232) (hn : n < 9223372036854775808) : TV.pu 52 [cI .u64 seed, cS s, cI .i64 n] = some (cI .i64 (hcell seed s n)) := by
  refine run52 (by simp) ?_
  have hr := hsum_range seed s
  by_cases c : n < 1
  · simp [Try.f52, c, hcell]
  · have h2 := Int.emod_nonneg (hsum seed s) (show n ≠ 0 by omega)
    have h3 := Int.emod_lt_of_pos (hsum seed s) (show 0 < n by omega)
    have e1 : IntKind.u64.wrap n = n := u64_id (by omega) (by omega)
    have e2 : (hsum seed s).tmod n = hsum seed s % n := Int.tmod_eq_emod_of_nonneg hr.1
    have e3 : IntKind.i64.wrap (hsum seed s % n) = hsum seed s % n := w64_id (by omega) (by omega)
    have e4 : n ≠ 0 := by omega
    simp [Try.f52, c, hcell, hash_Sum h0 h1 hs, e1, bin_rem e4, e2, e3]

end Go.Proofs.YtmgnmnogiajlgaaF
end

section
/- The document's numbers of the field, sums and cells of keys. -/
namespace Go.Proofs.YtmgnmnogiajlgaaF
open Go Go.Proofs.Vm

theorem sbin_add {P : Program} {H : Hp} {t : TypeId} {x y : Operand} {u v : ByteArray} (h : u.size + v.size ≤ 9223372036854775807) : vbin P H .add t x y (vS u) (vS v) = qa (vS (u ++ v)) := by
  have h' : ¬ 9223372036854775807 < (u.size : Int) + (v.size : Int) := by omega
  simp [vbin, vbin0, neSl, isNils, isPtr, isNilp, AV.sc, Cell.sc, eqGuard, binOp, Op.stringOp, ofPv, one?, Value.oneCell', h']
theorem byt_app (a b : ByteArray) (i : Int) (h0 : 0 ≤ i) : byt (a ++ b) i = if i < a.size then byt a i else byt b (i - a.size) := by
  obtain ⟨n, rfl⟩ := Int.eq_ofNat_of_zero_le h0
  by_cases h : (n : Int) < a.size
  · have h' : n < a.size := by omega
    have e : (a ++ b)[(n : Int).toNat]? = a[(n : Int).toNat]? := by
      simp only [Int.toNat_natCast]
      rw [getElem?_pos (a ++ b) n (by simp; omega), getElem?_pos a n h']
      congr 1
      exact ByteArray.getElem_append_left h'
    rw [if_pos h]
    unfold byt
    rw [e]
  · have h' : a.size ≤ n := by omega
    have e : (a ++ b)[(n : Int).toNat]? = b[((n : Int) - a.size).toNat]? := by
      rw [show ((n : Int) - a.size).toNat = n - a.size by omega, Int.toNat_natCast]
      by_cases hb : n < a.size + b.size
      · rw [getElem?_pos (a ++ b) n (by simp; omega), getElem?_pos b (n - a.size) (by omega)]
        congr 1
        exact ByteArray.getElem_append_right h'
      · rw [getElem?_neg (a ++ b) n (by simp; omega), getElem?_neg b (n - a.size) (by omega)]
    rw [if_neg h]
    unfold byt
    rw [e]

def cU (n : Int) : List CV := [.v (.int .u64 n)]
def hwords (s : ByteArray) : List Int := (List.range (nwords s)).map fun (q : Nat) => hword s (4 * (q : Int))
theorem hwords_len (s : ByteArray) : (hwords s).length = nwords s := by simp [hwords]

end Go.Proofs.YtmgnmnogiajlgaaF
end

section
/- Filters of keys: the program's and the document's. -/
namespace Go.Proofs.YtmgnmnogiajlgaaF
open Go Go.Proofs.Vm

def cB1 (b : Bool) : List CV := [.v (.bool b)]
def cF (seed h : Int) (bits : List Bool) : List CV := [.v (.int .u64 seed), .v (.int .i64 h), .arr (bits.map cB1)]
def fOk (h : Int) (bits : List Bool) : Bool := decide (1 ≤ h) && decide (h ≤ 7) && decide (1 ≤ bits.length) && decide (bits.length ≤ 256)
/-- A key's places. -/
def plc (seed h : Int) (key : ByteArray) (n : Nat) : List Int := (List.range h.toNat).map fun (i : Nat) => hcell (hrow seed (i : Int)) key (n : Int)
theorem plc_len (seed h : Int) (key : ByteArray) (n : Nat) : (plc seed h key n).length = h.toNat := by simp [plc]
theorem plc_mem {seed h : Int} {key : ByteArray} {n : Nat} (hn : 1 ≤ n) {p : Int} (hp : p ∈ plc seed h key n) : 0 ≤ p ∧ p < n := by
  obtain ⟨i, _, rfl⟩ := List.mem_map.1 hp
  exact hcell_range _ _ _ (by omega)
def addB (bits : List Bool) (ps : List Int) : List Bool := ps.foldl (fun b p => b.set p.toNat true) bits
theorem addB_len (ps : List Int) : ∀ bits, (addB bits ps).length = bits.length := by
  induction ps with
  | nil => intro b; rfl
  | cons p r ih => intro b; show (addB (b.set p.toNat true) r).length = _; rw [ih]; simp
theorem addB_snoc (bits : List Bool) (ps : List Int) (p : Int) : addB bits (ps ++ [p]) = (addB bits ps).set p.toNat true := by simp [addB]
theorem addB_get (ps : List Int) (hp : ∀ p ∈ ps, 0 ≤ p) : ∀ (bits : List Bool) (j : Nat) (h : j < bits.length), (addB bits ps)[j]? = some (bits[j] || ps.any fun p => decide (p = (j : Int))) := by
  induction ps with
  | nil => intro b j h; simp [addB, h]
  | cons p r ih =>
    intro b j h
    have h0 := hp p (by simp)
    show (addB (b.set p.toNat true) r)[j]? = _
    rw [ih (fun q hq => hp q (by simp [hq])) _ j (by simpa using h), List.getElem_set]
    congr 1
    by_cases c : p.toNat = j
    · have : p = (j : Int) := by omega
      simp [this]
    · have : ¬ p = (j : Int) := by omega
      simp [c, this]
def hasB (seed h : Int) (bits : List Bool) (key : ByteArray) : Bool := (plc seed h key bits.length).all fun p => bits.getD p.toNat false

theorem cB1_all (l : List Bool) : AllLen (l.map cB1) 1 := by intro x hx; obtain ⟨y, _, rfl⟩ := List.mem_map.1 hx; rfl
theorem take_b (l : List Bool) : (l.map cB1).take l.length = l.map cB1 := List.take_of_length_le (by simp)
theorem wr_bit (l : List Bool) (i : Nat) (b : Bool) : Ent.wrC (l.map cB1) i 0 [.v (.bool b)] = (l.set i b).map cB1 := by
  unfold Ent.wrC
  apply List.ext_getElem?
  intro j
  rw [List.getElem?_modify, List.getElem?_map, List.getElem?_map, List.getElem?_set]
  by_cases h : i = j
  · subst h
    cases hl : l[i]? with
    | none =>
      have := List.getElem?_eq_none_iff.1 hl
      simp; omega
    | some x =>
      have := (List.getElem?_eq_some_iff.1 hl).1
      simp [cB1, wr, this]
  · simp [h]

theorem bloom_Right (seed h : Int) (bits : List Bool) : TV.pu 32 [.agg (cF seed h bits)] = some (cB (fOk h bits)) := by
  refine run32 (by simp) ?_
  unfold fOk
  by_cases h1 : 1 ≤ h
  · by_cases h2 : h ≤ 7
    · by_cases h3 : 1 ≤ bits.length
      · have h3' : 1 ≤ (bits.length : Int) := by omega
        by_cases h4 : bits.length ≤ 256
        · have h4' : (bits.length : Int) ≤ 256 := by omega
          simp -implicitDefEqProofs [Try.f32, cF, h1, h2, h3, h3', h4, h4']
        · have h4' : ¬ (bits.length : Int) ≤ 256 := by omega
          simp -implicitDefEqProofs [Try.f32, cF, h1, h2, h3, h3', h4, h4']
      · have h3' : ¬ 1 ≤ (bits.length : Int) := by omega
        simp -implicitDefEqProofs [Try.f32, cF, h1, h2, h3, h3']
    · simp -implicitDefEqProofs [Try.f32, cF, h1, h2]
  · simp -implicitDefEqProofs [Try.f32, cF, h1]
theorem fOk_iff {h : Int} {bits : List Bool} : fOk h bits = true ↔ 1 ≤ h ∧ h ≤ 7 ∧ 1 ≤ bits.length ∧ bits.length ≤ 256 := by
  unfold fOk; simp [and_assoc]

/-! A heap with more behind it. -/
theorem ap_get (H L : Hp) (j : Nat) : (H ++ L)[H.length + j]? = L[j]? := by rw [List.getElem?_append_right (by omega), Nat.add_sub_cancel_left]
theorem ap_get0 (H L : Hp) : (H ++ L)[H.length]? = L[0]? := ap_get H L 0
theorem ap_gete (H L : Hp) (j : Nat) (h : H.length + j < (H ++ L).length) : (H ++ L)[H.length + j]'h = L[j]'(by rw [List.length_append] at h; omega) := by
  rw [List.getElem_append_right (by omega)]; congr 1; omega
theorem ap_gete0 (H L : Hp) (h : H.length < (H ++ L).length) : (H ++ L)[H.length]'h = L[0]'(by rw [List.length_append] at h; omega) := ap_gete H L 0 h
theorem ap_set (H L : Hp) (j : Nat) (u : Ent) : (H ++ L).set (H.length + j) u = H ++ L.set j u := by rw [List.set_append_right _ _ (by omega), Nat.add_sub_cancel_left]
theorem ap_set0 (H L : Hp) (u : Ent) : (H ++ L).set H.length u = H ++ L.set 0 u := ap_set H L 0 u

set_option maxRecDepth 10000 in
theorem bloom_Places {seed h : Int} {bits : List Bool} {key : ByteArray} {H : Hp} {bc : Cell} (h0 : 0 ≤ seed) (h1 : seed < 18446744073709551616) (hs : key.size ≤ 140737488351232) (hf : fOk h bits = true)
    (hlen : ∀ L ty, vlen Try.prog (H ++ L) #[26] ty (.one bc) = qa (vI .i64 bits.length)) (hfz : ∀ L, fzc 5 (H ++ L) bc = some (.arr (bits.map cB1))) :
    ∃ a K, TV.S 48 [.agg [.c (.v (.int .u64 seed)), .c (.v (.int .i64 h)), bc], vS key] H = some (a, K) ∧ ∃ B E L, a = .one (.sl (H.length + 2) 0 h.toNat h.toNat) ∧ K = H ++ B :: E :: .clo ((plc seed h key bits.length).map cInt) false :: L := by
  refine runX48 (by simp) (by rintro a K ⟨B, E, L, -, rfl⟩; simp) ?_
  have hr := bloom_Right seed h bits
  simp only [cF] at hr
  obtain ⟨a1, a2, a3, a4⟩ := fOk_iff.1 hf
  rw [hf] at hr
  obtain ⟨m, rfl⟩ := Int.eq_ofNat_of_zero_le (show 0 ≤ h by omega)
  simp -implicitDefEqProofs [-fzc, fz_v, Try.f48, hr, vmove, isNil, hfz]
  obtain ⟨I, hI⟩ : ∃ I : Nat → St → Prop, ∀ k s', I k s' ↔ (∃ e i E L, s' = ⟨e, H ++ .opn [[.c (.v (.int .u64 seed)), .c (.v (.int .i64 m)), bc]] false :: E :: .clo (tk cInt (plc seed m key bits.length) i) false :: L⟩ ∧ e 1 = vS key ∧ e 2 = .one (.ptr ⟨H.length, 0, 0, 1⟩) ∧ e 5 = .one (.sl (H.length + 2) 0 i i) ∧ e 11 = vI .i64 (m : Nat) ∧ e 12 = vI .i64 (i : Nat) ∧ i + k = m) := ⟨_, fun _ _ => Iff.rfl⟩
  refine wpL_ind I ?_ m _ ((hI _ _).2 ⟨_, 0, _, _, by rw [tk_zero], by simp, by simp, by simp, by simp, by simp, by omega⟩)
  intro k st hst
  obtain ⟨e, i, E, L, rfl, e1, e2, e5, e11, e12, hk⟩ := (hI _ _).1 hst
  have hpl : (plc seed m key bits.length).length = m := by rw [plc_len]; rfl
  by_cases c : i < m
  · have w1 : IntKind.i64.wrap ((i : Int) + 1) = ((i + 1 : Nat) : Int) := by rw [w64_id (by omega) (by omega)]; omega
    have hrw := hash_Row (s := seed) (i := (i : Int)) h0 h1 (by omega) (by omega)
    have hrr := hrow_range seed (i : Int)
    have hcl := hash_Cell (seed := hrow seed (i : Int)) (s := key) (n := (bits.length : Int)) hrr.1 (by omega) hs (by omega)
    have il : i < (plc seed m key bits.length).length := by rw [hpl]; exact c
    have hat : (plc seed m key bits.length)[i] = hcell (hrow seed (i : Int)) key bits.length := by simp [plc]
    have htl : (tk cInt (plc seed m key bits.length) i).length = i := tk_len (by omega)
    have htm : AllLen (tk cInt (plc seed m key bits.length) i) 1 := tk_allLen fun _ => rfl
    have htk : tk cInt (plc seed m key bits.length) i ++ [[.v (.int .i64 (hcell (hrow seed (i : Int)) key bits.length))]] = tk cInt (plc seed m key bits.length) (i + 1) := by
      rw [← tk_succ il, hat]; rfl
    have b1 : 8 * (i + 1) ≤ 140737488355328 := by omega
    have b2 : i + 1 ≤ 4611686018427387904 := by omega
    simp -implicitDefEqProofs [-fzc, fz_v, e1, e2, e5, e11, e12, c, hrw, hcl, w1, hlen, vmove, isNil, vappend_sp es105 es105 el3, vbuildSlice_eq es105 el3, cellsOf?, fzParts, setAll, rchParts, rch, elemsOf, htl, htm, htk, b1, b2]
    exact ⟨k - 1, by omega, (hI _ _).2 ⟨_, i + 1, _, _, rfl, by simp [e1], by simp [e2], by simp, by simp [e11], by simp, by omega⟩⟩
  · have hi : i = m := by omega
    subst hi
    have hta := tk_all (f := cInt) (l := plc seed i key bits.length) (i := i) (by omega)
    rw [hta]
    simp -implicitDefEqProofs [e5, e11, e12, vmove, isNil]
/-- Of a filter that is not right there are none. -/
theorem bloom_Places_no {seed h : Int} {bits : List Bool} {key : ByteArray} {H : Hp} (hf : fOk h bits = false) : ∃ id L, TV.S 48 [.agg ((cF seed h bits).map .c), vS key] H = some (.one (.sl id 0 0 0), H ++ L) ∧ (H ++ L)[id]? = some (.clo [] false) := by
  have hr := bloom_Right seed h bits
  rw [hf] at hr
  simp only [cF] at hr
  refine ⟨H.length + 2, [.opn [(cF seed h bits).map .c] false, .clo [] false, .clo [] false], run48 (by simp) (by simp) ?_, by rw [ap_get]; rfl⟩
  simp -implicitDefEqProofs [Try.f48, cF, hr, vmove, isNil]

theorem index_ints {g : CV} {caps : List CV} {f : FuncId} (hg : g = .fn f caps) {p : Int → Bool} {r : List Int} (hp : ∀ n ∈ r, TV.pu f (cI .i64 n :: caps.map .one) = some (cB (p n))) (hl : r.length < 9223372036854775807) :
    TV.pu 66 [.one (.arr (r.map cInt)), .one g] = some (cI .i64 (idxF p r)) := by
  subst hg
  refine run66 (by simp) ?_
  simp [Try.f66]
  obtain ⟨I, hI⟩ : ∃ I : Nat → St → Prop, ∀ k s', I k s' ↔ (∃ e j, s' = ⟨e, []⟩ ∧ e 0 = .one (.c (.arr (r.map cInt))) ∧ e 1 = .one (.c (.fn f caps)) ∧ e 7 = vI .i64 r.length ∧ e 8 = vI .i64 (j : Nat) ∧ j + k = r.length ∧ ∀ q, q < j → ∀ x, r[q]? = some x → p x = false) := ⟨_, fun _ _ => Iff.rfl⟩
  refine wpL_ind I ?_ r.length _ ((hI _ _).2 ⟨_, 0, rfl, by simp, by simp, by simp, by simp, by omega, by simp⟩)
  intro k st hst
  obtain ⟨e, j, rfl, e0, e1, e7, e8, hk, hno⟩ := (hI _ _).1 hst
  by_cases c : j < r.length
  · have hx : r[j]? = some r[j] := List.getElem?_eq_getElem c
    have hpj := hp r[j] (List.getElem_mem c)
    have w1 : IntKind.i64.wrap ((j : Int) + 1) = ((j + 1 : Nat) : Int) := by rw [w64_id (by omega) (by omega)]; omega
    simp [e0, e1, e7, e8, c, hpj, w1, cInt]
    by_cases hj : p r[j] = true
    · simp [hj, idxF_at p r j c hj hno]
    · simp [hj]
      refine ⟨k - 1, by omega, (hI _ _).2 ⟨_, j + 1, rfl, by simp [e0], by simp [e1], by simp [e7], by simp, by omega, ?_⟩⟩
      intro q hq x hx2
      by_cases hqj : q = j
      · subst hqj
        rw [hx] at hx2
        cases hx2
        simpa using hj
      · exact hno q (by omega) x hx2
  · have c' : ¬ (j : Int) < (r.length : Int) := by omega
    simp [e0, e1, e7, e8, c']
    rw [idxF_none p r fun q hq => hno q (by omega)]
theorem contains_ints {g : CV} {caps : List CV} {f : FuncId} (hg : g = .fn f caps) {p : Int → Bool} {r : List Int} (hp : ∀ n ∈ r, TV.pu f (cI .i64 n :: caps.map .one) = some (cB (p n))) (hl : r.length < 9223372036854775807) :
    TV.pu 47 [.one (.arr (r.map cInt)), .one g] = some (cB (r.any p)) := by
  refine run47 (by simp) ?_
  have h := index_ints hg hp hl
  subst hg
  simp [Try.f47, h, idxF_ge] at h ⊢

theorem bloom_lam {seed h : Int} {bits : List Bool} {p : Int} (h0 : 0 ≤ p) (h1 : p < bits.length) : TV.pu 49 [cI .i64 p, .one (.cptr (cF seed h bits))] = some (cB (!bits.getD p.toNat false)) := by
  refine run49 (by simp) ?_
  have hlt : p.toNat < bits.length := by omega
  simp -implicitDefEqProofs [Try.f49, cF, cB1, h0, hlt, List.getD]
set_option maxRecDepth 10000 in
theorem bloom_Has {seed h : Int} {bits : List Bool} {key : ByteArray} (h0 : 0 ≤ seed) (h1 : seed < 18446744073709551616) (hs : key.size ≤ 140737488351232) : TV.pu 21 [.agg (cF seed h bits), cS key] = some (cB (fOk h bits && hasB seed h bits key)) := by
  refine run21 (by simp) ?_
  have hr := bloom_Right seed h bits
  simp only [cF] at hr
  cases hf : fOk h bits with
  | false =>
    rw [hf] at hr
    simp -implicitDefEqProofs [Try.f21, cF, hr]
  | true =>
    obtain ⟨a1, a2, a3, a4⟩ := fOk_iff.1 hf
    rw [hf] at hr
    obtain ⟨a, K, hp, B, E, L, rfl, rfl⟩ := bloom_Places (seed := seed) (h := h) (bits := bits) (key := key) (H := [.opn [(cF seed h bits).map .c] false]) (bc := .c (.arr (bits.map cB1))) h0 h1 hs hf (fun L ty => by simp) (fun L => rfl)
    have hc := contains_ints (g := .fn 49 [.cptr (cF seed h bits)]) rfl (p := fun p => !bits.getD p.toNat false) (r := plc seed h key bits.length) (fun p hpm => by
      have := plc_mem a3 hpm
      exact bloom_lam this.1 this.2) (by rw [plc_len]; omega)
    have he : ((plc seed h key bits.length).any fun p => !bits.getD p.toNat false) = !hasB seed h bits key := by
      unfold hasB; rw [List.all_eq_not_any_not]; simp
    have htt : ((plc seed h key bits.length).map cInt).take h.toNat = (plc seed h key bits.length).map cInt := List.take_of_length_le (by simp [plc_len])
    rw [he] at hc
    simp only [cF, List.map_cons, List.map_nil, List.cons_append, List.nil_append] at hc hp
    have hpl := plc_len seed h key bits.length
    simp -implicitDefEqProofs [Try.f21, cF, hr, hp, hc, hpl, htt]

theorem bool_Clone {r : List Bool} {H : Hp} (h0 : r ≠ []) (hl : r.length ≤ 100000) : TV.S 51 [.one (.c (.arr (r.map cB1)))] H = some (.one (.sl (H.length + 1) 0 r.length r.length), H ++ [.clo [] false, .clo (r.map cB1) false]) := by
  refine run51 (by simp) (by simp) ?_
  have ha := vappend_eq (P := Try.prog) (H := H ++ [.clo [] false, .clo [] false]) (t := 26) (tx := 26) (id := H.length + 1) (n := 0) (l := []) (xs := r.map cB1) (x := .one (.c (.arr (r.map cB1)))) es26 es26 el4
    (by simp) rfl rfl (by simp) (cB1_all r) (by simp; omega) (by simp; omega)
  obtain ⟨x, t, rfl⟩ : ∃ h t, r = h :: t := by cases r with | nil => exact absurd rfl h0 | cons h t => exact ⟨h, t, rfl⟩
  simp at ha
  simp [Try.f51, vmove, isNil, bin_sln es26, bs_zero es26 el4, ha]

set_option maxRecDepth 10000 in
theorem bloom_Add {seed h : Int} {bits : List Bool} {key : ByteArray} (h0 : 0 ≤ seed) (h1 : seed < 18446744073709551616) (hs : key.size ≤ 140737488351232) (hf : fOk h bits = true) : TV.pu 23 [.agg (cF seed h bits), cS key] = some (.agg (cF seed h (addB bits (plc seed h key bits.length)))) := by
  refine run23 (by simp) ?_
  obtain ⟨a1, a2, a3, a4⟩ := fOk_iff.1 hf
  obtain ⟨m, rfl⟩ := Int.eq_ofNat_of_zero_le (show 0 ≤ h by omega)
  have hne : bits ≠ [] := by rintro rfl; simp at a3
  have hcl := fun H => bool_Clone (r := bits) (H := H) hne (by omega)
  have htb := take_b bits
  have hlb : bits.length = (bits.map cB1).length := by simp
  obtain ⟨H0, hH0⟩ : ∃ H0 : Hp, H0 = [.opn [[.c (.v (.int .u64 seed)), .c (.v (.int .i64 m)), .sl 4 0 bits.length bits.length]] false, .opn [[.c (.v (.int .u64 0)), .c (.v (.int .i64 0)), .sl 2 0 0 0]] false, .clo [] false, .clo [] false, .clo (bits.map cB1) false] := ⟨_, rfl⟩
  obtain ⟨a, K, hp, B, E, L, rfl, rfl⟩ := bloom_Places (seed := seed) (h := (m : Int)) (bits := bits) (key := key) (H := H0) (bc := .sl 4 0 bits.length bits.length) h0 h1 hs hf (fun L ty => by subst hH0; simp) (fun L => by subst hH0; simp [take_b])
  have hpl : (plc seed m key bits.length).length = m := plc_len ..
  subst hH0
  simp only [List.cons_append, List.nil_append, List.length_cons, List.length_nil, Nat.zero_add, Nat.reduceAdd, Int.toNat_natCast] at hp
  simp -implicitDefEqProofs [Try.f23, cF, hcl, hp, hpl, vstore, cellsOf?, Ent.wrO, wr]
  obtain ⟨ps, hps⟩ : ∃ ps, ps = plc seed m key bits.length := ⟨_, rfl⟩
  have hmem : ∀ p ∈ ps, 0 ≤ p ∧ p < bits.length := fun p hp => plc_mem a3 (hps ▸ hp)
  rw [← hps] at hpl ⊢
  obtain ⟨I, hI⟩ : ∃ I : Nat → St → Prop, ∀ k s', I k s' ↔ (∃ e i X C D B E L, s' = ⟨e, .opn [[.c (.v (.int .u64 seed)), .c (.v (.int .i64 m)), .sl 4 0 bits.length bits.length]] false :: .opn [[.c (.v (.int .u64 0)), .c (.v (.int .i64 0)), X]] false :: C :: D :: .clo ((addB bits (ps.take i)).map cB1) false :: B :: E :: .clo (ps.map cInt) false :: L⟩ ∧
    e 2 = .one (.ptr ⟨0, 0, 0, 1⟩) ∧ e 4 = .one (.ptr ⟨1, 0, 0, 1⟩) ∧ e 13 = .one (.sl 7 0 m m) ∧ e 14 = vI .i64 (m : Nat) ∧ e 15 = vI .i64 (i : Nat) ∧ i + k = m) := ⟨_, fun _ _ => Iff.rfl⟩
  refine wpL_ind I ?_ m _ ((hI _ _).2 ⟨_, 0, _, _, _, _, _, _, rfl, by simp, by simp, by simp, by simp, by simp, by omega⟩)
  intro k st hst
  obtain ⟨e, i, X, C, D, B, E, L, rfl, e2, e4, e13, e14, e15, hk⟩ := (hI _ _).1 hst
  have hal : (addB bits (ps.take i)).length = bits.length := addB_len _ _
  by_cases c : i < m
  · have w1 : IntKind.i64.wrap ((i : Int) + 1) = ((i + 1 : Nat) : Int) := by rw [w64_id (by omega) (by omega)]; omega
    have il : i < ps.length := by rw [hpl]; exact c
    obtain ⟨q0, q1⟩ := hmem ps[i] (List.getElem_mem il)
    have q2 : ps[i].toNat < bits.length := by omega
    have hsn : (addB bits (ps.take i)).set ps[i].toNat true = addB bits (ps.take (i + 1)) := by
      rw [List.take_add_one, List.getElem?_eq_getElem il]
      exact (addB_snoc _ _ _).symm
    have hwb := wr_bit (addB bits (ps.take i)) ps[i].toNat true
    rw [hsn] at hwb
    simp -implicitDefEqProofs [-List.map_set, e2, e13, e14, e15, c, hpl, cInt, cB1, q0, q2, hal, hwb, w1, vstore, cellsOf?]
    exact ⟨k - 1, by omega, (hI _ _).2 ⟨_, i + 1, _, _, _, _, _, _, rfl, by simp [e2], by simp [e4], by simp [e13], by simp [e14], by simp, by omega⟩⟩
  · have hti : ps.take i = ps := List.take_of_length_le (by omega)
    have htb2 := take_b (addB bits ps)
    have hal2 := addB_len ps bits
    rw [hal2] at htb2
    rw [hti]
    simp -implicitDefEqProofs [e2, e4, e14, e15, c, vstore, cellsOf?, Ent.wrO, wr]
    simp -implicitDefEqProofs [qa, hal2, htb2]

/-! The document's. -/
theorem onB_get {seed h : Int} {key : ByteArray} {n : Nat} (hn : 1 ≤ n) (bits : List Bool) (hb : bits.length = n) (p : Nat) (hp : p < n) (hp2 : p < (addB (List.replicate n false) (plc seed h key n)).length) :
    (bits[p]'(by omega) || (addB (List.replicate n false) (plc seed h key n))[p]) = (addB bits (plc seed h key n))[p]'(by rw [addB_len]; omega) := by
  have h1 := addB_get (plc seed h key n) (fun q hq => (plc_mem hn hq).1) (List.replicate n false) p (by simp; exact hp)
  have h2 := addB_get (plc seed h key n) (fun q hq => (plc_mem hn hq).1) bits p (by omega)
  rw [List.getElem?_eq_getElem hp2] at h1
  rw [List.getElem?_eq_getElem (by rw [addB_len]; omega)] at h2
  rw [Option.some.inj h1, Option.some.inj h2]
  simp
theorem has_iff {seed hh : Int} {bits : List Bool} {key : ByteArray} (hn : 1 ≤ bits.length) : hasB seed hh bits key = true ↔ ∀ p, ∀ hp : p < bits.length, ∀ hp2 : p < (addB (List.replicate bits.length false) (plc seed hh key bits.length)).length, (addB (List.replicate bits.length false) (plc seed hh key bits.length))[p] = true → bits[p] = true := by
  have key0 := fun (p : Nat) (hp : p < bits.length) => addB_get (plc seed hh key bits.length) (fun q hq => (plc_mem hn hq).1) (List.replicate bits.length false) p (by simp; exact hp)
  unfold hasB
  rw [List.all_eq_true]
  constructor
  · intro h p hp hp2 hon
    have h1 := key0 p hp
    rw [List.getElem?_eq_getElem hp2, hon] at h1
    have h2 := Option.some.inj h1
    simp only [List.getElem_replicate, Bool.false_or] at h2
    obtain ⟨q, hq, hqp⟩ := List.any_eq_true.1 h2.symm
    have hqp : q = (p : Int) := of_decide_eq_true hqp
    have := h q hq
    rw [hqp, Int.toNat_natCast, List.getD_eq_getElem?_getD, List.getElem?_eq_getElem hp] at this
    exact this
  · intro h q hq
    obtain ⟨q0, q1⟩ := plc_mem hn hq
    have hp : q.toNat < bits.length := by omega
    have hp2 : q.toNat < (addB (List.replicate bits.length false) (plc seed hh key bits.length)).length := by rw [addB_len]; simp; exact hp
    have h1 := key0 q.toNat hp
    rw [List.getElem?_eq_getElem hp2] at h1
    have h2 := Option.some.inj h1
    rw [List.getD_eq_getElem?_getD, List.getElem?_eq_getElem hp]
    refine h _ hp hp2 ?_
    rw [h2]
    simp only [List.getElem_replicate, Bool.false_or]
    exact List.any_eq_true.2 ⟨q, hq, decide_eq_true (by omega)⟩
def eqF (s h : Int) (b : List Bool) (s' h' : Int) (b' : List Bool) : Bool := decide (s = s' ∧ h = h' ∧ b = b')
set_option maxRecDepth 10000 in
theorem ref10_Equal {s h s' h' : Int} {b b' : List Bool} (hl : b.length < 4611686018427387904) : TV.pu 43 [.agg (cF s h b), .agg (cF s' h' b')] = some (cB (eqF s h b s' h' b')) := by
  refine run43 (by simp) ?_
  by_cases c1 : s = s'
  · subst c1
    by_cases c2 : h = h'
    · subst c2
      by_cases c3 : b.length = b'.length
      · have c3' : (b.length : Int) = (b'.length : Int) := by omega
        simp -implicitDefEqProofs [Try.f43, cF, c3']
        obtain ⟨I, hI⟩ : ∃ I : Nat → St → Prop, ∀ k s0, I k s0 ↔ (∃ e i L, s0 = ⟨e, .opn [[.c (.v (.int .u64 s)), .c (.v (.int .i64 h)), .c (.arr (b.map cB1))]] false :: .opn [[.c (.v (.int .u64 s)), .c (.v (.int .i64 h)), .c (.arr (b'.map cB1))]] false :: L⟩ ∧ e 2 = .one (.ptr ⟨0, 0, 0, 1⟩) ∧ e 3 = .one (.ptr ⟨1, 0, 0, 1⟩) ∧ e 5 = vI .i64 (i : Nat) ∧ i + k = b.length ∧ ∀ p, p < i → ∀ hp : p < b.length, ∀ hp2 : p < b'.length, b[p] = b'[p]) := ⟨_, fun _ _ => Iff.rfl⟩
        refine wpL_ind I ?_ b.length _ ((hI _ _).2 ⟨_, 0, _, rfl, by simp, by simp, by simp, by omega, fun p h => absurd h (Nat.not_lt_zero _)⟩)
        intro k st hst
        obtain ⟨e, i, L, rfl, e2, e3, e5, hk, hall⟩ := (hI _ _).1 hst
        by_cases c : i < b.length
        · have w1 : IntKind.i64.wrap ((i : Int) + 1) = ((i + 1 : Nat) : Int) := by rw [w64_id (by omega) (by omega)]; omega
          have co : i < b'.length := by omega
          by_cases hb : b[i] = b'[i]
          · simp -implicitDefEqProofs [e2, e3, e5, c, co, cB1, hb, bin_bne ub4, w1]
            refine ⟨k - 1, by omega, (hI _ _).2 ⟨_, i + 1, _, rfl, by simp [e2], by simp [e3], by simp, by omega, fun p hp q1 q2 => ?_⟩⟩
            by_cases hpi : p = i
            · subst hpi; exact hb
            · exact hall p (by omega) q1 q2
          · have hf : eqF s h b s h b' = false := by
              unfold eqF
              simp only [decide_eq_false_iff_not]
              rintro ⟨-, -, rfl⟩; exact hb rfl
            have hb2 : (b[i] != b'[i]) = true := by simpa using hb
            rw [hf]
            simp -implicitDefEqProofs [e2, e3, e5, c, co, cB1, hb2, bin_bne ub4]
        · have hf : eqF s h b s h b' = true := by
            unfold eqF
            simp only [decide_eq_true_eq]
            exact ⟨trivial, trivial, List.ext_getElem c3 fun q q1 q2 => hall q (by omega) q1 q2⟩
          rw [hf]
          simp -implicitDefEqProofs [e2, e5, c]
      · have c3' : ¬ (b.length : Int) = (b'.length : Int) := by omega
        have hf : eqF s h b s h b' = false := by
          unfold eqF
          simp only [decide_eq_false_iff_not]
          rintro ⟨-, -, rfl⟩; exact c3 rfl
        rw [hf]
        simp -implicitDefEqProofs [Try.f43, cF, c3']
    · have hf : eqF s h b s h' b' = false := by
        unfold eqF
        simp only [decide_eq_false_iff_not]
        rintro ⟨-, rfl, -⟩; exact c2 rfl
      rw [hf]
      simp -implicitDefEqProofs [Try.f43, cF, c2]
  · have hf : eqF s h b s' h' b' = false := by
      unfold eqF
      simp only [decide_eq_false_iff_not]
      rintro ⟨rfl, -, -⟩; exact c1 rfl
    rw [hf]
    simp -implicitDefEqProofs [Try.f43, cF, c1]

set_option maxRecDepth 10000 in
theorem bloom_New {seed bits h : Int} (hb1 : 1 ≤ bits) (hb2 : bits ≤ 256) (hh1 : 1 ≤ h) (hh2 : h ≤ 7) : TV.pu 17 [cI .u64 seed, cI .i64 bits, cI .i64 h] = some (.tup [(true, cF seed h (List.replicate bits.toNat false)), (false, [.v (.int .i64 0)])]) := by
  refine run17 (by simp) ?_
  obtain ⟨n, rfl⟩ := Int.eq_ofNat_of_zero_le (show 0 ≤ bits by omega)
  have g1 : ¬ (n : Int) < 1 := by omega
  have g2 : ¬ 256 < (n : Int) := by omega
  have hrep : List.replicate n [CV.v (.bool false)] = (List.replicate n false).map cB1 := by simp [cB1]
  have hr := bloom_Right seed h (List.replicate n false)
  rw [show fOk h (List.replicate n false) = true from fOk_iff.2 ⟨hh1, hh2, by simp; omega, by simp; omega⟩] at hr
  have htb := take_b (List.replicate n false)
  rw [List.length_replicate] at htb
  have b1' : n ≤ 140737488355328 := by omega
  have b2 : (n : Int) ≤ 4611686018427387904 := by omega
  simp only [cF] at hr
  simp -implicitDefEqProofs [-List.map_replicate, Try.f17, cF, g1, g2, vmakeSlice_eq es26 el4, small, hrep, hr, htb, b1', b2, vstore, cellsOf?, Ent.wrO, wr, vmove, isNil]
  simp -implicitDefEqProofs [-List.map_replicate, qa, htb]
theorem bloom_New_arg {seed bits h : Int} (hb : ¬ (1 ≤ bits ∧ bits ≤ 256 ∧ 1 ≤ h ∧ h ≤ 7)) : TV.pu 17 [cI .u64 seed, cI .i64 bits, cI .i64 h] = some (.tup [(true, cF 0 0 []), (false, [.v (.int .i64 1)])]) := by
  refine run17 (by simp) ?_
  by_cases g1 : bits < 1
  · simp -implicitDefEqProofs [Try.f17, cF, g1, vstore, cellsOf?, Ent.wrO, wr, vmove, isNil]
    simp -implicitDefEqProofs [qa]
  · by_cases g2 : 256 < bits
    · simp -implicitDefEqProofs [Try.f17, cF, g1, g2, vstore, cellsOf?, Ent.wrO, wr, vmove, isNil]
      simp -implicitDefEqProofs [qa]
    · obtain ⟨n, rfl⟩ := Int.eq_ofNat_of_zero_le (show 0 ≤ bits by omega)
      have hrep : List.replicate n [CV.v (.bool false)] = (List.replicate n false).map cB1 := by simp [cB1]
      have hr := bloom_Right seed h (List.replicate n false)
      have hff : fOk h (List.replicate n false) = false := by
        cases hx : fOk h (List.replicate n false) with
        | false => rfl
        | true => have := fOk_iff.1 hx; omega
      rw [hff] at hr
      have htb := take_b (List.replicate n false)
      rw [List.length_replicate] at htb
      have b1' : n ≤ 140737488355328 := by omega
      have b2 : (n : Int) ≤ 4611686018427387904 := by omega
      simp only [cF] at hr
      simp -implicitDefEqProofs [-List.map_replicate, Try.f17, cF, g1, g2, vmakeSlice_eq es26 el4, small, hrep, hr, htb, b1', b2, vstore, cellsOf?, Ent.wrO, wr, vmove, isNil]
      simp -implicitDefEqProofs [qa]
end Go.Proofs.YtmgnmnogiajlgaaF
end

section
/- Radars: what a right one is; a key's place. -/
namespace Go.Proofs.YtmgnmnogiajlgaaF
open Go Go.Proofs.Vm

/-- A cell: the keys joined, flows, packets, bytes. -/
abbrev RCl := ByteArray × Int × Int × Int
def cCl (c : RCl) : List CV := [.v (.string c.1), .v (.int .i64 c.2.1), .v (.int .i64 c.2.2.1), .v (.int .i64 c.2.2.2)]
def cRw (l : List RCl) : CV := .arr (l.map cCl)
def cRws (rows : List (List RCl)) : CV := .arr (rows.map fun l => [cRw l])
structure Rad where
  s : Int
  fs : Int
  h : Int
  bits : List Bool
  rows : List (List RCl)
def cRad (r : Rad) : List CV := [.v (.int .u64 r.s), .v (.int .u64 r.fs), .v (.int .i64 r.h), .arr (r.bits.map cB1), cRws r.rows]
def fitB (n : Int) : Bool := decide (0 ≤ n) && decide (n ≤ 1099511627776)
def wrongB (c : RCl) : Bool := decide (c.1.size ≠ 37) || decide (c.2.1 < -1099511627776) || decide (1099511627776 < c.2.1) || !fitB c.2.2.1 || !fitB c.2.2.2

theorem rd_fits (n : Int) : TV.pu 20 [cI .i64 n] = some (cB (fitB n)) := by
  refine run20 (by simp) ?_
  unfold fitB
  by_cases h1 : 0 ≤ n <;> simp -implicitDefEqProofs [Try.f20, h1]
theorem rd_wrong (c : RCl) : TV.pu 26 [.agg (cCl c)] = some (cB (wrongB c)) := by
  refine run26 (by simp) ?_
  have f1 := rd_fits c.2.2.1
  have f2 := rd_fits c.2.2.2
  unfold wrongB
  by_cases h1 : c.1.size = 37
  · have h1' : (c.1.size : Int) = 37 := by omega
    by_cases h2 : c.2.1 < -1099511627776
    · simp -implicitDefEqProofs [Try.f26, cCl, h1, h2]
    · by_cases h3 : 1099511627776 < c.2.1
      · simp -implicitDefEqProofs [Try.f26, cCl, h1, h2, h3]
      · cases h4 : fitB c.2.2.1 with
        | false =>
          rw [h4] at f1
          simp -implicitDefEqProofs [Try.f26, cCl, h1, h2, h3, f1]
        | true =>
          rw [h4] at f1
          simp -implicitDefEqProofs [Try.f26, cCl, h1, h2, h3, f1, f2]
  · have h1' : ¬ (c.1.size : Int) = 37 := by omega
    simp -implicitDefEqProofs [Try.f26, cCl, h1, h1']

theorem index_cells {g : CV} {caps : List CV} {f : FuncId} (hg : g = .fn f caps) {p : RCl → Bool} {r : List RCl} (hp : ∀ n ∈ r, TV.pu f (.agg (cCl n) :: caps.map .one) = some (cB (p n))) (hl : r.length < 9223372036854775807) :
    TV.pu 58 [.one (cRw r), .one g] = some (cI .i64 (idxF p r)) := by
  subst hg
  refine run58 (by simp) ?_
  simp [Try.f58, cRw]
  obtain ⟨I, hI⟩ : ∃ I : Nat → St → Prop, ∀ k s', I k s' ↔ (∃ e j, s' = ⟨e, []⟩ ∧ e 0 = .one (.c (.arr (r.map cCl))) ∧ e 1 = .one (.c (.fn f caps)) ∧ e 7 = vI .i64 r.length ∧ e 8 = vI .i64 (j : Nat) ∧ j + k = r.length ∧ ∀ q, q < j → ∀ x, r[q]? = some x → p x = false) := ⟨_, fun _ _ => Iff.rfl⟩
  refine wpL_ind I ?_ r.length _ ((hI _ _).2 ⟨_, 0, rfl, by simp, by simp, by simp, by simp, by omega, by simp⟩)
  intro k st hst
  obtain ⟨e, j, rfl, e0, e1, e7, e8, hk, hno⟩ := (hI _ _).1 hst
  by_cases c : j < r.length
  · have hx : r[j]? = some r[j] := List.getElem?_eq_getElem c
    have hpj := hp r[j] (List.getElem_mem c)
    have w1 : IntKind.i64.wrap ((j : Int) + 1) = ((j + 1 : Nat) : Int) := by rw [w64_id (by omega) (by omega)]; omega
    simp only [cCl] at hpj
    simp [e0, e1, e7, e8, c, hpj, w1, cCl]
    by_cases hj : p r[j] = true
    · simp [hj, idxF_at p r j c hj hno]
    · simp [hj]
      refine ⟨k - 1, by omega, (hI _ _).2 ⟨_, j + 1, rfl, by simp [e0], by simp [e1], by simp [e7], by simp, by omega, ?_⟩⟩
      intro q hq x hx2
      by_cases hqj : q = j
      · subst hqj
        rw [hx] at hx2
        cases hx2
        simpa using hj
      · exact hno q (by omega) x hx2
  · have c' : ¬ (j : Int) < (r.length : Int) := by omega
    simp [e0, e1, e7, e8, c']
    rw [idxF_none p r fun q hq => hno q (by omega)]
theorem contains_cells {g : CV} {caps : List CV} {f : FuncId} (hg : g = .fn f caps) {p : RCl → Bool} {r : List RCl} (hp : ∀ n ∈ r, TV.pu f (.agg (cCl n) :: caps.map .one) = some (cB (p n))) (hl : r.length < 9223372036854775807) :
    TV.pu 35 [.one (cRw r), .one g] = some (cB (r.any p)) := by
  refine run35 (by simp) ?_
  have h := index_cells hg hp hl
  subst hg
  simp [Try.f35, h, idxF_ge, cRw] at h ⊢
theorem index_crows {g : CV} {caps : List CV} {f : FuncId} (hg : g = .fn f caps) {p : List RCl → Bool} {r : List (List RCl)} (hp : ∀ n ∈ r, TV.pu f (.one (cRw n) :: caps.map .one) = some (cB (p n))) (hl : r.length < 9223372036854775807) :
    TV.pu 57 [.one (cRws r), .one g] = some (cI .i64 (idxF p r)) := by
  subst hg
  refine run57 (by simp) ?_
  simp [Try.f57, cRws]
  obtain ⟨I, hI⟩ : ∃ I : Nat → St → Prop, ∀ k s', I k s' ↔ (∃ e j, s' = ⟨e, []⟩ ∧ e 0 = .one (.c (cRws r)) ∧ e 1 = .one (.c (.fn f caps)) ∧ e 7 = vI .i64 r.length ∧ e 8 = vI .i64 (j : Nat) ∧ j + k = r.length ∧ ∀ q, q < j → ∀ x, r[q]? = some x → p x = false) := ⟨_, fun _ _ => Iff.rfl⟩
  refine wpL_ind I ?_ r.length _ ((hI _ _).2 ⟨_, 0, rfl, by simp [cRws], by simp, by simp, by simp, by omega, by simp⟩)
  intro k st hst
  obtain ⟨e, j, rfl, e0, e1, e7, e8, hk, hno⟩ := (hI _ _).1 hst
  by_cases c : j < r.length
  · have hx : r[j]? = some r[j] := List.getElem?_eq_getElem c
    have hpj := hp r[j] (List.getElem_mem c)
    have w1 : IntKind.i64.wrap ((j : Int) + 1) = ((j + 1 : Nat) : Int) := by rw [w64_id (by omega) (by omega)]; omega
    simp only [cRw] at hpj
    simp [e0, e1, e7, e8, cRws, cRw, c, hpj, w1]
    by_cases hj : p r[j] = true
    · simp [hj, idxF_at p r j c hj hno]
    · simp [hj]
      refine ⟨k - 1, by omega, (hI _ _).2 ⟨_, j + 1, rfl, by simp [e0], by simp [e1], by simp [e7], by simp, by omega, ?_⟩⟩
      intro q hq x hx2
      by_cases hqj : q = j
      · subst hqj
        rw [hx] at hx2
        cases hx2
        simpa using hj
      · exact hno q (by omega) x hx2
  · have c' : ¬ (j : Int) < (r.length : Int) := by omega
    simp [e0, e1, e7, e8, c']
    rw [idxF_none p r fun q hq => hno q (by omega)]
theorem contains_crows {g : CV} {caps : List CV} {f : FuncId} (hg : g = .fn f caps) {p : List RCl → Bool} {r : List (List RCl)} (hp : ∀ n ∈ r, TV.pu f (.one (cRw n) :: caps.map .one) = some (cB (p n))) (hl : r.length < 9223372036854775807) :
    TV.pu 33 [.one (cRws r), .one g] = some (cB (r.any p)) := by
  refine run33 (by simp) ?_
  have h := index_crows hg hp hl
  subst hg
  simp [Try.f33, h, idxF_ge, cRws] at h ⊢

def rowW (rows : List (List RCl)) (r : List RCl) : Bool := decide (r.length < 1) || decide (256 < r.length) || decide (r.length ≠ (rows.headD []).length) || r.any wrongB
/-- Lengths that any memory has. -/
def Lens (r : Rad) : Prop := r.rows.length < 4611686018427387904 ∧ (∀ x ∈ r.rows, x.length < 4611686018427387904) ∧ r.bits.length < 4611686018427387904
def Seeds (r : Rad) : Prop := 0 ≤ r.s ∧ r.s < 18446744073709551616 ∧ 0 ≤ r.fs ∧ r.fs < 18446744073709551616
theorem rd_row {R : Rad} {r : List RCl} (hr : R.rows ≠ []) (hl : r.length < 9223372036854775807) : TV.pu 34 [.one (cRw r), .one (.cptr (cRad R))] = some (cB (rowW R.rows r)) := by
  refine run34 (by simp) ?_
  obtain ⟨rs, rfs, rh, rb, rows⟩ := R
  obtain ⟨h, t, rfl⟩ : ∃ h t, rows = h :: t := by cases rows with | nil => exact absurd rfl hr | cons h t => exact ⟨h, t, rfl⟩
  have hc := contains_cells (g := .fn 26 []) rfl (p := wrongB) (r := r) (fun n _ => rd_wrong n) hl
  simp only [cRw] at hc
  have hB : rowW (h :: t) r = (decide (r.length < 1) || decide (256 < r.length) || decide (r.length ≠ h.length) || r.any wrongB) := rfl
  rw [hB]
  by_cases h1 : (r.length : Int) < 1
  · have g1 : r.length < 1 := by omega
    rw [decide_eq_true g1, Bool.true_or, Bool.true_or, Bool.true_or]
    simp -implicitDefEqProofs [Try.f34, cRad, cRws, cRw, h1]
  · have g1 : ¬ r.length < 1 := by omega
    rw [decide_eq_false g1, Bool.false_or]
    by_cases h2 : 256 < (r.length : Int)
    · have g2 : 256 < r.length := by omega
      rw [decide_eq_true g2, Bool.true_or, Bool.true_or]
      simp -implicitDefEqProofs [Try.f34, cRad, cRws, cRw, h1, h2]
    · have g2 : ¬ 256 < r.length := by omega
      rw [decide_eq_false g2, Bool.false_or]
      by_cases h3 : (r.length : Int) = h.length
      · have g3 : ¬ r.length ≠ h.length := by omega
        rw [decide_eq_false g3, Bool.false_or]
        have h3' : ((r.length : Int) != (h.length : Int)) = false := by simp [h3]
        simp -implicitDefEqProofs [Try.f34, cRad, cRws, cRw, h1, h2, h3', hc]
      · have g3 : r.length ≠ h.length := by omega
        rw [decide_eq_true g3, Bool.true_or]
        have h3' : ((r.length : Int) != (h.length : Int)) = true := by simp; omega
        simp -implicitDefEqProofs [Try.f34, cRad, cRws, cRw, h1, h2, h3']

def rOk (r : Rad) : Bool := fOk r.h r.bits && decide (r.fs = hrow r.s 0) && decide (1 ≤ r.rows.length) && decide (r.rows.length ≤ 7) && !r.rows.any (rowW r.rows)
set_option maxRecDepth 10000 in
theorem rd_Right {R : Rad} (hs : Seeds R) (hl : Lens R) : TV.pu 12 [.agg (cRad R)] = some (cB (rOk R)) := by
  refine run12 (by simp) ?_
  obtain ⟨s, fs, h, bits, rows⟩ := R
  obtain ⟨s0, s1, s2, s3⟩ := hs
  obtain ⟨l1, l2, l3⟩ := hl
  dsimp only at s0 s1 s2 s3 l1 l2 l3
  have hf := bloom_Right fs h bits
  have hrw := hash_Row (s := s) (i := 0) s0 s1 (by omega) (by omega)
  have hc : rows ≠ [] → TV.pu 33 [.one (cRws rows), .one (.fn 34 [.cptr (cRad ⟨s, fs, h, bits, rows⟩)])] = some (cB (rows.any (rowW rows))) := fun hr =>
    contains_crows rfl (fun n hn => rd_row (R := ⟨s, fs, h, bits, rows⟩) hr (by have := l2 n hn; omega)) (by omega)
  simp only [cF] at hf
  unfold rOk
  dsimp only
  cases c1 : fOk h bits with
  | false =>
    rw [c1] at hf
    simp -implicitDefEqProofs [Try.f12, cRad, cRws, hf]
  | true =>
    rw [c1] at hf
    by_cases c2 : fs = hrow s 0
    · subst c2
      by_cases c3 : 1 ≤ rows.length
      · have c3' : ¬ (rows.length : Int) < 1 := by omega
        have hr : rows ≠ [] := by rintro rfl; simp at c3
        by_cases c4 : rows.length ≤ 7
        · have c4' : ¬ 7 < (rows.length : Int) := by omega
          have hc := hc hr
          simp only [cRad, cRws] at hc
          simp -implicitDefEqProofs [Try.f12, cRad, cRws, hf, hrw, c3, c3', c4, c4', hc]
        · have c4' : 7 < (rows.length : Int) := by omega
          simp -implicitDefEqProofs [Try.f12, cRad, cRws, hf, hrw, c3, c3', c4, c4']
      · have c3' : (rows.length : Int) < 1 := by omega
        simp -implicitDefEqProofs [Try.f12, cRad, cRws, hf, hrw, c3, c3']
    · simp -implicitDefEqProofs [Try.f12, cRad, cRws, hf, hrw, c2]

theorem rOk_facts {r : Rad} (h : rOk r = true) : fOk r.h r.bits = true ∧ r.fs = hrow r.s 0 ∧ 1 ≤ r.rows.length ∧ r.rows.length ≤ 7 ∧ ∀ x ∈ r.rows, 1 ≤ x.length ∧ x.length ≤ 256 ∧ x.length = (r.rows.headD []).length ∧ ∀ c ∈ x, wrongB c = false := by
  unfold rOk at h
  simp only [Bool.and_eq_true, decide_eq_true_eq, Bool.not_eq_true'] at h
  obtain ⟨⟨⟨⟨h1, h2⟩, h3⟩, h4⟩, h5⟩ := h
  refine ⟨h1, h2, h3, h4, fun x hx => ?_⟩
  have := List.any_eq_false.1 h5 x hx
  unfold rowW at this
  simp only [Bool.or_eq_true, decide_eq_true_eq, not_or, Bool.not_eq_true] at this
  obtain ⟨⟨⟨a1, a2⟩, a3⟩, a4⟩ := this
  refine ⟨by omega, by omega, by omega, fun c hc => ?_⟩
  have := List.any_eq_false.1 a4 c hc
  simpa using this

/-- A key's place in a row. -/
def rplc (r : Rad) (key : ByteArray) (i : Nat) (n : Nat) : Int := hcell (hrow r.s ((i : Int) + 1)) key (n : Int)
theorem rd_place {R : Rad} {key : ByteArray} {i : Nat} (hs : Seeds R) (hl : Lens R) (hi : i < R.rows.length) (hk : key.size ≤ 140737488351232) : TV.pu 24 [.agg (cRad R), cS key, cI .i64 i] = some (cI .i64 (rplc R key i R.rows[i].length)) := by
  refine run24 (by simp) ?_
  obtain ⟨s, fs, h, bits, rows⟩ := R
  obtain ⟨s0, s1, s2, s3⟩ := hs
  obtain ⟨l1, l2, l3⟩ := hl
  dsimp only at s0 s1 s2 s3 l1 l2 l3 hi ⊢
  have w1 : IntKind.i64.wrap ((i : Int) + 1) = (i : Int) + 1 := w64_id (by omega) (by omega)
  have hrw := hash_Row (s := s) (i := (i : Int) + 1) s0 s1 (by omega) (by omega)
  have hrr := hrow_range s ((i : Int) + 1)
  have hcl := hash_Cell (seed := hrow s ((i : Int) + 1)) (s := key) (n := (rows[i].length : Int)) hrr.1 (by omega) hk (by have := l2 _ (List.getElem_mem hi); omega)
  simp -implicitDefEqProofs [Try.f24, cRad, cRws, cRw, w1, hi, hrw, hcl, rplc]
theorem rplc_range {r : Rad} {key : ByteArray} {i n : Nat} (h : 1 ≤ n) : 0 ≤ rplc r key i n ∧ rplc r key i n < n := hcell_range _ _ _ (by omega)
end Go.Proofs.YtmgnmnogiajlgaaF
end

section
/- Keys joined, by the program and by the document. -/
namespace Go.Proofs.YtmgnmnogiajlgaaF
open Go Go.Proofs.Vm

def cU8 (n : Int) : List CV := [.v (.int .u8 n)]
def xb (a b : ByteArray) (i : Nat) : Int := Go.bits .xor .u8 (byt a i) (byt b i)
def xorL (a b : ByteArray) : List Int := (List.range a.size).map fun (i : Nat) => xb a b i
def xorK (a b : ByteArray) : ByteArray := strOf (xorL a b)
/-- The first so many joined. -/
def xorP (a b : ByteArray) (k : Nat) : List Int := (List.range a.size).map fun (i : Nat) => if i < k then xb a b i else byt a i
theorem xorL_len (a b : ByteArray) : (xorL a b).length = a.size := by simp [xorL]
theorem xorP_len (a b : ByteArray) (k : Nat) : (xorP a b k).length = a.size := by simp [xorP]
theorem xorP_zero (a b : ByteArray) : bytesOf a = (xorP a b 0).map cU8 := by
  unfold bytesOf xorP
  apply List.ext_getElem
  · rw [List.length_map, List.length_map, List.length_map, List.length_range, Array.length_toList]; rfl
  · intro i h1 h2
    have h : i < a.size := by simpa using h2
    simp only [List.getElem_map, List.getElem_range, Nat.not_lt_zero, if_false, cU8]
    unfold byt
    rw [Int.toNat_natCast, getElem?_pos a i h]
    rfl
theorem xorP_all (a b : ByteArray) : xorP a b a.size = xorL a b := by
  unfold xorP xorL
  apply List.map_congr_left
  intro i hi
  rw [if_pos (List.mem_range.1 hi)]
theorem xorP_at (a b : ByteArray) (k : Nat) (h : k < (xorP a b k).length) : (xorP a b k)[k] = byt a k := by simp [xorP]
theorem xorP_set (a b : ByteArray) (k : Nat) : (xorP a b k).set k (xb a b k) = xorP a b (k + 1) := by
  apply List.ext_getElem
  · simp [xorP]
  · intro j h1 h2
    rw [List.getElem_set]
    simp only [xorP, List.getElem_map, List.getElem_range]
    by_cases hj : k = j
    · subst hj; simp
    · rw [if_neg hj]
      by_cases hj2 : j < k
      · rw [if_pos hj2, if_pos (by omega)]
      · rw [if_neg hj2, if_neg (by omega)]
theorem bytesRow_u8 : ∀ l : List Int, bytesRow' (l.map cU8) = some l
  | [] => rfl
  | x :: l => by
    show (bytesRow' (l.map cU8)).map (x :: ·) = _
    rw [bytesRow_u8 l]; rfl
theorem wr_u8 (l : List Int) (i : Nat) (b : Int) : Ent.wrC (l.map cU8) i 0 [.v (.int .u8 b)] = (l.set i b).map cU8 := by
  unfold Ent.wrC
  apply List.ext_getElem?
  intro j
  rw [List.getElem?_modify, List.getElem?_map, List.getElem?_map, List.getElem?_set]
  by_cases h : i = j
  · subst h
    cases hl : l[i]? with
    | none =>
      have := List.getElem?_eq_none_iff.1 hl
      simp; omega
    | some x =>
      have := (List.getElem?_eq_some_iff.1 hl).1
      simp [cU8, wr, this]
  · simp [h]

set_option maxRecDepth 10000 in
theorem rd_xor {a b : ByteArray} (h0 : 0 < a.size) (h1 : a.size ≤ b.size) (h2 : a.size ≤ 1000) : TV.pu 25 [cS a, cS b] = some (.one (.v (.string (xorK a b)))) := by
  refine run25 (by simp) ?_
  have hne : ¬ a.size = 0 := by omega
  have hz := xorP_zero a b
  have hz0 := xorP_len a b 0
  simp -implicitDefEqProofs [Try.f25, vconvW, hne, hz, hz0]
  obtain ⟨I, hI⟩ : ∃ I : Nat → St → Prop, ∀ k s', I k s' ↔ (∃ e i L, s' = ⟨e, .clo ((xorP a b i).map cU8) false :: L⟩ ∧ e 1 = vS b ∧ e 5 = .one (.sl 0 0 a.size a.size) ∧ e 10 = vI .i64 a.size ∧ e 11 = vI .i64 (i : Nat) ∧ i + k = a.size) := ⟨_, fun _ _ => Iff.rfl⟩
  refine wpL_ind I ?_ a.size _ ((hI _ _).2 ⟨_, 0, _, rfl, by simp, by simp, by simp, by simp, by omega⟩)
  intro k st hst
  obtain ⟨e, i, L, rfl, e1, e5, e10, e11, hk⟩ := (hI _ _).1 hst
  have hpl := xorP_len a b i
  by_cases c : i < a.size
  · have w1 : IntKind.i64.wrap ((i : Int) + 1) = ((i + 1 : Nat) : Int) := by rw [w64_id (by omega) (by omega)]; omega
    have cl : i < (xorP a b i).length := by rw [hpl]; exact c
    have hat := xorP_at a b i cl
    have hx := idx_str (P := Try.prog) us9 (s := b) (k := .i64) (i := (i : Int)) (by omega) (by omega)
    have hw := wr_u8 (xorP a b i) i (xb a b i)
    rw [xorP_set] at hw
    simp only [xb] at hw
    simp -implicitDefEqProofs [-List.map_set, e1, e5, e10, e11, c, hpl, cU8, hat, hx, hw, w1, vstore, cellsOf?]
    exact ⟨k - 1, by omega, (hI _ _).2 ⟨_, i + 1, _, rfl, by simp [e1], by simp [e5], by simp [e10], by simp, by omega⟩⟩
  · have hi : i = a.size := by omega
    subst hi
    have hbr := bytesRow_u8 (xorL a b)
    have htk : ((xorL a b).map cU8).take a.size = (xorL a b).map cU8 := List.take_of_length_le (by simp [xorL_len])
    have hxl := xorL_len a b
    rw [xorP_all]
    simp -implicitDefEqProofs [e5, e10, e11, vconvW, elemsOf, hxl, htk, hbr, xorK]

theorem strOf_snoc (l : List Int) (x : Int) : strOf (l ++ [x]) = strOf l ++ strOf [x] := by
  unfold strOf
  rw [List.foldl_append]
  simp only [List.foldl_cons, List.foldl_nil]
  generalize List.foldl _ ByteArray.empty l = r
  have : ∀ b : UInt8, r.push b = r ++ ByteArray.empty.push b := fun b => by
    apply ByteArray.ext
    simp
  exact this _
theorem strOf_size (l : List Int) : (strOf l).size = l.length := by
  have key : ∀ (l : List Int) (r : ByteArray), (l.foldl (fun r n => r.push (UInt8.ofNat n.toNat)) r).size = r.size + l.length := by
    intro l
    induction l with
    | nil => intro r; simp
    | cons x l ih =>
      intro r
      rw [List.foldl_cons, ih]
      simp; omega
  unfold strOf
  rw [key]
  have : ByteArray.empty.size = 0 := rfl
  omega
theorem xorK_size (a b : ByteArray) : (xorK a b).size = a.size := by unfold xorK; rw [strOf_size, xorL_len]

end Go.Proofs.YtmgnmnogiajlgaaF
end

section
/- A radar's rows in new memory. -/
set_option maxRecDepth 8192
set_option maxHeartbeats 1000000
namespace Go.Proofs.YtmgnmnogiajlgaaF
open Go Go.Proofs.Vm

theorem cells_Clone {r : List RCl} {H : Hp} (h0 : r ≠ []) (hl : r.length ≤ 1000000) : TV.S 50 [.one (.c (cRw r))] H = some (.one (.sl (H.length + 1) 0 r.length r.length), H ++ [.clo [] false, .clo (r.map cCl) false]) := by
  refine run50 (by simp) (by simp) ?_
  have ha := vappend_eq (P := Try.prog) (H := H ++ [.clo [] false, .clo [] false]) (t := 70) (tx := 70) (id := H.length + 1) (n := 0) (l := []) (xs := r.map cCl) (x := .one (.c (.arr (r.map cCl)))) es70 es70 el73
    (by simp) rfl rfl (by simp) (by intro e he; obtain ⟨c, -, rfl⟩ := List.mem_map.1 he; rfl) (by simp; omega) (by simp; omega)
  obtain ⟨x, t, rfl⟩ : ∃ h t, r = h :: t := by cases r with | nil => exact absurd rfl h0 | cons h t => exact ⟨h, t, rfl⟩
  simp at ha
  simp [Try.f50, cRw, vmove, isNil, bin_sln es70, bs_zero es70 el73, ha]

def cl (rows : List (List RCl)) : List Ent := (rows.map fun r => [Ent.clo [] false, .clo (r.map cCl) false]).flatten
theorem cl_len (rows : List (List RCl)) : (cl rows).length = 2 * rows.length := by
  induction rows with
  | nil => rfl
  | cons r t ih => simp only [cl, List.map_cons, List.flatten_cons, List.length_append] at ih ⊢; rw [ih]; simp; omega
theorem cl_take (rows : List (List RCl)) (i : Nat) (h : i < rows.length) : cl (rows.take (i + 1)) = cl (rows.take i) ++ [Ent.clo [] false, .clo (rows[i].map cCl) false] := by
  rw [List.take_add_one, List.getElem?_eq_getElem h]
  simp only [cl, Option.toList_some, List.map_append, List.flatten_append, List.map_cons, List.map_nil, List.flatten_cons, List.flatten_nil, List.append_nil]
def clRows (b : Nat) (rows : List (List RCl)) (i : Nat) : List (List Cell) := rows.mapIdx fun j r => if j < i then [.sl (b + (6 + 2 * j)) 0 r.length r.length] else [.c (.arr [])]
theorem clRows_len (b : Nat) (rows : List (List RCl)) (i : Nat) : (clRows b rows i).length = rows.length := by simp [clRows]
theorem clRows_zero (b : Nat) (rows : List (List RCl)) : clRows b rows 0 = List.replicate rows.length [.c (.arr [])] := by
  apply List.ext_getElem
  · simp [clRows]
  · intro j h1 h2
    simp [clRows]
theorem clRows_at (b : Nat) (rows : List (List RCl)) (i : Nat) (h : i < rows.length) : (clRows b rows i)[i]? = some [.c (.arr [])] := by
  simp [clRows, h]
theorem clRows_set (b : Nat) (rows : List (List RCl)) (i : Nat) (h : i < rows.length) : (clRows b rows i).set i [.sl (b + (6 + 2 * i)) 0 rows[i].length rows[i].length] = clRows b rows (i + 1) := by
  apply List.ext_getElem
  · simp [clRows]
  · intro j h1 h2
    rw [List.getElem_set]
    simp only [clRows, List.getElem_mapIdx]
    by_cases hj : i = j
    · subst hj; simp
    · rw [if_neg hj]
      by_cases hj2 : j < i
      · rw [if_pos hj2, if_pos (by omega)]
      · rw [if_neg hj2, if_neg (by omega)]
theorem clRows_modify (b : Nat) (rows : List (List RCl)) (i : Nat) (_h : i < rows.length) (x : Cell) : ((clRows b rows i).modify i fun e => wr e 0 [x]) = (clRows b rows i).set i [x] := by
  apply List.ext_getElem
  · simp
  · intro j h1 h2
    rw [List.getElem_modify, List.getElem_set]
    by_cases hj : i = j
    · subst hj
      simp [clRows, wr]
    · rw [if_neg hj, if_neg hj]

theorem cl_get (rows : List (List RCl)) (j : Nat) : (cl rows)[2 * j + 1]? = rows[j]?.map fun r => .clo (r.map cCl) false := by
  induction rows generalizing j with
  | nil => simp [cl]
  | cons r t ih =>
    cases j with
    | zero => simp [cl]
    | succ j =>
      have := ih j
      simp only [cl, List.map_cons, List.flatten_cons] at this ⊢
      rw [List.getElem?_append_right (by simp; omega)]
      simp only [List.length_cons, List.length_nil]
      rw [show 2 * (j + 1) + 1 - (0 + 1 + 1) = 2 * j + 1 by omega, this]
      rfl
theorem cl_set (rows : List (List RCl)) (j : Nat) (x : List RCl) : (cl rows).set (2 * j + 1) (.clo (x.map cCl) false) = cl (rows.set j x) := by
  induction rows generalizing j with
  | nil => simp [cl]
  | cons r t ih =>
    cases j with
    | zero => simp [cl]
    | succ j =>
      have := ih j
      simp only [cl, List.map_cons, List.flatten_cons, List.set_cons_succ] at this ⊢
      rw [List.set_append_right _ _ (by simp; omega)]
      simp only [List.length_cons, List.length_nil]
      rw [show 2 * (j + 1) + 1 - (0 + 1 + 1) = 2 * j + 1 by omega, this]

theorem mapO_all {α β : Type} {f : α → Option β} : ∀ {l : List α} {m : List β}, l.length = m.length → (∀ (j : Nat) x y, l[j]? = some x → m[j]? = some y → f x = some y) → mapO f l = some m
  | [], [], _, _ => rfl
  | [], _ :: _, h, _ => by simp at h
  | _ :: _, [], h, _ => by simp at h
  | x :: l, y :: m, h, g => by
    have h1 := g 0 x y rfl rfl
    have h2 := mapO_all (l := l) (m := m) (by simpa using h) fun j u v hu hv => g (j + 1) u v (by simpa using hu) (by simpa using hv)
    simp [mapO, h1, h2]

theorem fz_crows {h : Hp} {id b : Nat} {rows cur : List (List RCl)} (hlen : cur.length = rows.length) (h6 : h[id]? = some (.opn (clRows b rows rows.length) false))
    (hc : ∀ j (hj : j < rows.length) (hj2 : j < cur.length), h[b + (6 + 2 * j)]? = some (.clo (cur[j].map cCl) false) ∧ cur[j].length = rows[j].length) (n : Nat) :
    fzc (n + 2) h (.sl id 0 rows.length rows.length) = some (cRws cur) := by
  have hm : mapO (mapO (fzc (n + 1) h)) (clRows b rows rows.length) = some (cur.map fun r => [cRw r]) := by
    refine mapO_all (by simp [clRows, hlen]) fun j x y hx hy => ?_
    simp only [clRows, List.getElem?_mapIdx, List.getElem?_map] at hx hy
    have hj2 : j < cur.length := by
      rcases Nat.lt_or_ge j cur.length with h | h
      · exact h
      · rw [List.getElem?_eq_none h] at hy; cases hy
    have hj : j < rows.length := by omega
    rw [List.getElem?_eq_getElem hj] at hx
    rw [List.getElem?_eq_getElem hj2] at hy
    simp only [Option.map_some, Option.some.injEq, hj, if_true] at hx hy
    subst hx hy
    obtain ⟨g1, g2⟩ := hc j hj hj2
    simp only [mapO, fzc, g1, List.length_map, g2, if_true, List.drop_zero]
    rw [List.take_of_length_le (by simp [g2])]
    rfl
  have hl : (clRows b rows rows.length).length = rows.length := clRows_len ..
  unfold fzc
  simp only [h6, hl, if_true, List.drop_zero]
  rw [List.take_of_length_le (by omega), hm]
  rfl

/-- A radar in memory: its rows elsewhere. -/
def oRad (r : Rad) (id : Nat) : List Cell := [.c (.v (.int .u64 r.s)), .c (.v (.int .u64 r.fs)), .c (.v (.int .i64 r.h)), .c (.arr (r.bits.map cB1)), .sl id 0 r.rows.length r.rows.length]
/-- The memory behind a clone. -/
def clH (b : Nat) (r : Rad) : List Ent :=
  .opn [oRad r (b + 4)] false :: .opn [oRad r (b + 4)] false :: .clo [] false :: .clo [] false :: .opn (clRows b r.rows r.rows.length) false :: cl r.rows

theorem rd_clone {R : Rad} {H : Hp} (h0 : R.rows ≠ []) (hl : R.rows.length ≤ 1000) (hr : ∀ r ∈ R.rows, r ≠ [] ∧ r.length ≤ 1000000) :
    TV.S 22 [.agg ((cRad R).map .c)] H = some (.agg (oRad R (H.length + 4)), H ++ clH H.length R) := by
  refine run22 (by simp) (by simp) ?_
  obtain ⟨s, fs, hh, bits, rows⟩ := R
  dsimp only at h0 hl hr
  have hz : rows.length ≠ 0 := fun h => h0 (List.length_eq_zero_iff.1 h)
  simp [Try.f22, cRad, cRws, cRw, vmove, isNil, vmakeSlice_eq es29 el70, hz, small]
  refine ⟨⟨by omega, by omega⟩, ?_⟩
  obtain ⟨I, hI⟩ : ∃ I : Nat → St → Prop, ∀ k s', I k s' ↔ (∃ e h i, s' = ⟨e, h⟩ ∧ h = H ++ .opn [[.c (.v (.int .u64 s)), .c (.v (.int .u64 fs)), .c (.v (.int .i64 hh)), .c (.arr (bits.map cB1)), .c (cRws rows)]] false :: .opn [[.c (.v (.int .u64 0)), .c (.v (.int .u64 0)), .c (.v (.int .i64 0)), .sl (H.length + 2) 0 0 0, .sl (H.length + 3) 0 0 0]] false :: .clo [] false :: .clo [] false :: .opn (clRows H.length rows i) false :: cl (rows.take i) ∧
      e 1 = .one (.ptr ⟨H.length, 0, 0, 1⟩) ∧ e 2 = .one (.ptr ⟨H.length + 1, 0, 0, 1⟩) ∧ e 3 = .one (.sl (H.length + 4) 0 rows.length rows.length) ∧ e 11 = .one (.c (cRws rows)) ∧ e 12 = vI .i64 rows.length ∧ e 13 = vI .i64 (i : Nat) ∧ i + k = rows.length) := ⟨_, fun _ _ => Iff.rfl⟩
  refine wpL_ind I ?_ rows.length _ ((hI _ _).2 ⟨_, _, 0, rfl, by rw [clRows_zero]; simp [cRws, cRw, cl], by simp, by simp, by simp, by simp [cRws, cRw], by simp, by simp, by omega⟩)
  intro k st hst
  obtain ⟨e, h, i, rfl, rfl, e1, e2, e3, e11, e12, e13, hk⟩ := (hI _ _).1 hst
  by_cases c : i < rows.length
  · have c' : (i : Int) < rows.length := by omega
    have hm := hr rows[i] (List.getElem_mem c)
    have hx : rows[i]? = some rows[i] := List.getElem?_eq_getElem c
    have w1 : IntKind.i64.wrap ((i : Int) + 1) = ((i + 1 : Nat) : Int) := by rw [w64_id (by omega) (by omega)]; omega
    have hc := cells_Clone (r := rows[i]) (H := H ++ .opn [[.c (.v (.int .u64 s)), .c (.v (.int .u64 fs)), .c (.v (.int .i64 hh)), .c (.arr (bits.map cB1)), .c (cRws rows)]] false :: .opn [[.c (.v (.int .u64 0)), .c (.v (.int .u64 0)), .c (.v (.int .i64 0)), .sl (H.length + 2) 0 0 0, .sl (H.length + 3) 0 0 0]] false :: .clo [] false :: .clo [] false :: .opn (clRows H.length rows i) false :: cl (rows.take i)) hm.1 hm.2
    simp only [cRw, cRws] at hc
    simp [e1, e2, e3, e11, e12, e13, c, c', w1, cRws, cRw, vmove, hc, vstore, cellsOf?, clRows_len, Ent.wrO]
    refine ⟨by simp [clRows], by simp [clRows], k - 1, by omega, (hI _ _).2 ⟨_, _, i + 1, rfl, ?_, by simp [e1], by simp [e2], by simp [e3], by simp [e11, cRws, cRw], by simp [e12], by simp, by omega⟩⟩
    rw [clRows_modify _ _ _ c, cl_take _ _ c, ← clRows_set _ _ _ c, cl_len, List.length_take, Nat.min_eq_left (by omega)]
    rw [show H.length + (2 * i + 1 + 1 + 1 + 1 + 1) + 1 = H.length + (6 + 2 * i) by omega]
    simp [cRws, cRw]
  · have c' : ¬ (i : Int) < rows.length := by omega
    have hi : i = rows.length := by omega
    subst hi
    simp [e1, e2, e3, e11, e12, e13, c', cRws, vmove, vstore, cellsOf?, Ent.wrO, wr, clH, oRad]
    simp [qa]
end Go.Proofs.YtmgnmnogiajlgaaF
end
