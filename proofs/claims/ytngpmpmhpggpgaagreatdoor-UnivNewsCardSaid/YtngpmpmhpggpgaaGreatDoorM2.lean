/- Steps shared by the proofs of this seat's statements (part 2). -/
import Derived.Test.YtngpmpmhpggpgaaGreatDoorM1
import Derived.Test.YtngpmpmhpggpgaaGreatDoorProg
import Derived.KernelRfl
import Derived.Sort.Grow
import Derived.Shelf.GgSortFunc.InsertionK
import Derived.Lib.Bytealg
import Derived.Shelf.Spec.TrailingZeros
import Derived.Shelf.Sort.Plain
import Derived.Test.YtngpmpmhpggpgaaGreatDoorM0
import Derived.Deep.Slices
import Derived.ChangeArms
import Derived.ChangeSame
import Derived.SizedLaws
import Derived.WideShapes
import Derived.WalkKit
import Derived.ProofKit
import Derived.OpenShut
import Derived.ShutString
import Derived.ChangeOld
import Derived.Below
import Derived.Laws.BitsAllLaws
import Derived.Shelf.Small.Strs
import Derived.Shelf.Small.Wraps
import Derived.Shelf.Slices.In.SortNone
import Derived.Ground.Names2Prog
import Derived.Shelf.Lays7
import Derived.Ground.Names7Prog
import Derived.Shelf.SlSortCmp.WholeK
import Derived.Ground.SlsfProg
import Derived.Shelf.SlSortCmp.NoneTotal
import Derived.Test.YtngpmpmhpggpgaaGreatDoorRows
import Derived.LaidMore
section
/- Closed facts of this seat's types and functions. -/
namespace Go.Proofs.YtngpmpmhpggpgaaGreatDoorF
open Go Go.Proofs.Vm
@[simp] theorem ld2 : ldOf Tryz.prog 2 = some none := by kernel_rfl
@[simp] theorem z2 : zOf Tryz.prog 2 = some [.int .i64 0] := by kernel_rfl
@[simp] theorem el2 : elOf Tryz.prog 2 = some (1, 8, [.v (.int .i64 0)]) := by kernel_rfl
@[simp] theorem st2 : isSliceT Tryz.prog 2 = false := by kernel_rfl
@[simp] theorem sz2 : pv Tryz.prog (sizeOf 2) = some 1 := by kernel_rfl
@[simp] theorem u82 : isU8 Tryz.prog 2 = false := by kernel_rfl
@[simp] theorem mt2 : isMapT Tryz.prog 2 = false := by kernel_rfl
@[simp] theorem ik2 : ikOf Tryz.prog 2 = some .i64 := by kernel_rfl
@[simp] theorem ld3 : ldOf Tryz.prog 3 = some none := by kernel_rfl
@[simp] theorem z3 : zOf Tryz.prog 3 = some [.int .i64 0] := by kernel_rfl
@[simp] theorem el3 : elOf Tryz.prog 3 = some (1, 8, [.v (.int .i64 0)]) := by kernel_rfl
@[simp] theorem st3 : isSliceT Tryz.prog 3 = false := by kernel_rfl
@[simp] theorem sz3 : pv Tryz.prog (sizeOf 3) = some 1 := by kernel_rfl
@[simp] theorem u83 : isU8 Tryz.prog 3 = false := by kernel_rfl
@[simp] theorem mt3 : isMapT Tryz.prog 3 = false := by kernel_rfl
@[simp] theorem ik3 : ikOf Tryz.prog 3 = some .i64 := by kernel_rfl
@[simp] theorem ld4 : ldOf Tryz.prog 4 = some none := by kernel_rfl
@[simp] theorem z4 : zOf Tryz.prog 4 = some [.bool false] := by kernel_rfl
@[simp] theorem el4 : elOf Tryz.prog 4 = some (1, 1, [.v (.bool false)]) := by kernel_rfl
@[simp] theorem st4 : isSliceT Tryz.prog 4 = false := by kernel_rfl
@[simp] theorem sz4 : pv Tryz.prog (sizeOf 4) = some 1 := by kernel_rfl
@[simp] theorem u84 : isU8 Tryz.prog 4 = false := by kernel_rfl
@[simp] theorem mt4 : isMapT Tryz.prog 4 = false := by kernel_rfl
@[simp] theorem ik4 : ikOf Tryz.prog 4 = none := by kernel_rfl
@[simp] theorem ub4 : pv Tryz.prog (underlying 4) = some .bool := by kernel_rfl
@[simp] theorem ld5 : ldOf Tryz.prog 5 = some none := by kernel_rfl
@[simp] theorem z5 : zOf Tryz.prog 5 = some [.int .u8 0] := by kernel_rfl
@[simp] theorem el5 : elOf Tryz.prog 5 = some (1, 1, [.v (.int .u8 0)]) := by kernel_rfl
@[simp] theorem st5 : isSliceT Tryz.prog 5 = false := by kernel_rfl
@[simp] theorem sz5 : pv Tryz.prog (sizeOf 5) = some 1 := by kernel_rfl
@[simp] theorem u85 : isU8 Tryz.prog 5 = false := by kernel_rfl
@[simp] theorem mt5 : isMapT Tryz.prog 5 = false := by kernel_rfl
@[simp] theorem ik5 : ikOf Tryz.prog 5 = some .u8 := by kernel_rfl
@[simp] theorem ld9 : ldOf Tryz.prog 9 = some none := by kernel_rfl
@[simp] theorem z9 : zOf Tryz.prog 9 = some [.string ByteArray.empty] := by kernel_rfl
@[simp] theorem el9 : elOf Tryz.prog 9 = some (1, 16, [.v (.string ByteArray.empty)]) := by kernel_rfl
@[simp] theorem st9 : isSliceT Tryz.prog 9 = false := by kernel_rfl
@[simp] theorem sz9 : pv Tryz.prog (sizeOf 9) = some 1 := by kernel_rfl
@[simp] theorem u89 : isU8 Tryz.prog 9 = false := by kernel_rfl
@[simp] theorem mt9 : isMapT Tryz.prog 9 = false := by kernel_rfl
@[simp] theorem sr9 : isStrT Tryz.prog 9 = true := by kernel_rfl
@[simp] theorem ik9 : ikOf Tryz.prog 9 = none := by kernel_rfl
@[simp] theorem us9 : pv Tryz.prog (underlying 9) = some .string := by kernel_rfl
@[simp] theorem lns9 {H : Hp} {ty : TypeId} {s : ByteArray} : vlen Tryz.prog H #[9] ty (vS s) = qa (vI .i64 s.size) := len_str us9
@[simp] theorem ld12 : ldOf Tryz.prog 12 = some none := by kernel_rfl
@[simp] theorem z12 : zOf Tryz.prog 12 = some [.int .u64 0] := by kernel_rfl
@[simp] theorem el12 : elOf Tryz.prog 12 = some (1, 8, [.v (.int .u64 0)]) := by kernel_rfl
@[simp] theorem st12 : isSliceT Tryz.prog 12 = false := by kernel_rfl
@[simp] theorem sz12 : pv Tryz.prog (sizeOf 12) = some 1 := by kernel_rfl
@[simp] theorem u812 : isU8 Tryz.prog 12 = false := by kernel_rfl
@[simp] theorem mt12 : isMapT Tryz.prog 12 = false := by kernel_rfl
@[simp] theorem ik12 : ikOf Tryz.prog 12 = some .u64 := by kernel_rfl
@[simp] theorem ld21 : ldOf Tryz.prog 21 = some none := by kernel_rfl
@[simp] theorem z21 : zOf Tryz.prog 21 = some [.int .i32 0] := by kernel_rfl
@[simp] theorem el21 : elOf Tryz.prog 21 = some (1, 4, [.v (.int .i32 0)]) := by kernel_rfl
@[simp] theorem st21 : isSliceT Tryz.prog 21 = false := by kernel_rfl
@[simp] theorem sz21 : pv Tryz.prog (sizeOf 21) = some 1 := by kernel_rfl
@[simp] theorem u821 : isU8 Tryz.prog 21 = false := by kernel_rfl
@[simp] theorem mt21 : isMapT Tryz.prog 21 = false := by kernel_rfl
@[simp] theorem ik21 : ikOf Tryz.prog 21 = some .i32 := by kernel_rfl
@[simp] theorem ld22 : ldOf Tryz.prog 22 = some none := by kernel_rfl
@[simp] theorem z22 : zOf Tryz.prog 22 = some [.int .u64 0] := by kernel_rfl
@[simp] theorem el22 : elOf Tryz.prog 22 = some (1, 8, [.v (.int .u64 0)]) := by kernel_rfl
@[simp] theorem st22 : isSliceT Tryz.prog 22 = false := by kernel_rfl
@[simp] theorem sz22 : pv Tryz.prog (sizeOf 22) = some 1 := by kernel_rfl
@[simp] theorem u822 : isU8 Tryz.prog 22 = false := by kernel_rfl
@[simp] theorem mt22 : isMapT Tryz.prog 22 = false := by kernel_rfl
@[simp] theorem ik22 : ikOf Tryz.prog 22 = some .u64 := by kernel_rfl
@[simp] theorem ld23 : ldOf Tryz.prog 23 = some (some 5) := by kernel_rfl
@[simp] theorem z23 : zOf Tryz.prog 23 = some [.int .u64 0, .int .i64 0, .int .i64 0, .int .i64 0, .int .i64 0] := by kernel_rfl
@[simp] theorem el23 : elOf Tryz.prog 23 = some (5, 40, [.v (.int .u64 0), .v (.int .i64 0), .v (.int .i64 0), .v (.int .i64 0), .v (.int .i64 0)]) := by kernel_rfl
@[simp] theorem st23 : isSliceT Tryz.prog 23 = false := by kernel_rfl
@[simp] theorem sz23 : pv Tryz.prog (sizeOf 23) = some 5 := by kernel_rfl
@[simp] theorem u823 : isU8 Tryz.prog 23 = false := by kernel_rfl
@[simp] theorem mt23 : isMapT Tryz.prog 23 = false := by kernel_rfl
@[simp] theorem ik23 : ikOf Tryz.prog 23 = none := by kernel_rfl
@[simp] theorem bld23 : bldOf Tryz.prog 23 = some ([.int .u64 0, .int .i64 0, .int .i64 0, .int .i64 0, .int .i64 0], [(0, 1), (1, 1), (2, 1), (3, 1), (4, 1)]) := by kernel_rfl
@[simp] theorem off23_0 : offOf Tryz.prog 23 0 = some 0 := by kernel_rfl
@[simp] theorem fld23_0 : fldOf Tryz.prog 23 0 = some (0, none) := by kernel_rfl
@[simp] theorem off23_1 : offOf Tryz.prog 23 1 = some 1 := by kernel_rfl
@[simp] theorem fld23_1 : fldOf Tryz.prog 23 1 = some (1, none) := by kernel_rfl
@[simp] theorem off23_2 : offOf Tryz.prog 23 2 = some 2 := by kernel_rfl
@[simp] theorem fld23_2 : fldOf Tryz.prog 23 2 = some (2, none) := by kernel_rfl
@[simp] theorem off23_3 : offOf Tryz.prog 23 3 = some 3 := by kernel_rfl
@[simp] theorem fld23_3 : fldOf Tryz.prog 23 3 = some (3, none) := by kernel_rfl
@[simp] theorem off23_4 : offOf Tryz.prog 23 4 = some 4 := by kernel_rfl
@[simp] theorem fld23_4 : fldOf Tryz.prog 23 4 = some (4, none) := by kernel_rfl
@[simp] theorem ld24 : ldOf Tryz.prog 24 = some (some 5) := by kernel_rfl
@[simp] theorem z24 : zOf Tryz.prog 24 = some [.int .u64 0, .int .i64 0, .int .i64 0, .int .i64 0, .int .i64 0] := by kernel_rfl
@[simp] theorem el24 : elOf Tryz.prog 24 = some (5, 40, [.v (.int .u64 0), .v (.int .i64 0), .v (.int .i64 0), .v (.int .i64 0), .v (.int .i64 0)]) := by kernel_rfl
@[simp] theorem st24 : isSliceT Tryz.prog 24 = false := by kernel_rfl
@[simp] theorem sz24 : pv Tryz.prog (sizeOf 24) = some 5 := by kernel_rfl
@[simp] theorem u824 : isU8 Tryz.prog 24 = false := by kernel_rfl
@[simp] theorem mt24 : isMapT Tryz.prog 24 = false := by kernel_rfl
@[simp] theorem ik24 : ikOf Tryz.prog 24 = none := by kernel_rfl
@[simp] theorem bld24 : bldOf Tryz.prog 24 = some ([.int .u64 0, .int .i64 0, .int .i64 0, .int .i64 0, .int .i64 0], [(0, 1), (1, 1), (2, 1), (3, 1), (4, 1)]) := by kernel_rfl
@[simp] theorem off24_0 : offOf Tryz.prog 24 0 = some 0 := by kernel_rfl
@[simp] theorem fld24_0 : fldOf Tryz.prog 24 0 = some (0, none) := by kernel_rfl
@[simp] theorem off24_1 : offOf Tryz.prog 24 1 = some 1 := by kernel_rfl
@[simp] theorem fld24_1 : fldOf Tryz.prog 24 1 = some (1, none) := by kernel_rfl
@[simp] theorem off24_2 : offOf Tryz.prog 24 2 = some 2 := by kernel_rfl
@[simp] theorem fld24_2 : fldOf Tryz.prog 24 2 = some (2, none) := by kernel_rfl
@[simp] theorem off24_3 : offOf Tryz.prog 24 3 = some 3 := by kernel_rfl
@[simp] theorem fld24_3 : fldOf Tryz.prog 24 3 = some (3, none) := by kernel_rfl
@[simp] theorem off24_4 : offOf Tryz.prog 24 4 = some 4 := by kernel_rfl
@[simp] theorem fld24_4 : fldOf Tryz.prog 24 4 = some (4, none) := by kernel_rfl
@[simp] theorem ld25 : ldOf Tryz.prog 25 = some none := by kernel_rfl
@[simp] theorem z25 : zOf Tryz.prog 25 = some [.slice none 0 0] := by kernel_rfl
@[simp] theorem el25 : elOf Tryz.prog 25 = some (1, 24, [.arr []]) := by kernel_rfl
@[simp] theorem st25 : isSliceT Tryz.prog 25 = true := by kernel_rfl
@[simp] theorem sz25 : pv Tryz.prog (sizeOf 25) = some 1 := by kernel_rfl
@[simp] theorem u825 : isU8 Tryz.prog 25 = false := by kernel_rfl
@[simp] theorem mt25 : isMapT Tryz.prog 25 = false := by kernel_rfl
@[simp] theorem ik25 : ikOf Tryz.prog 25 = none := by kernel_rfl
@[simp] theorem sR25 : strRowsT Tryz.prog 25 = false := by kernel_rfl
@[simp] theorem es25 : elemOfSlice Tryz.prog 25 = some 9 := by kernel_rfl
@[simp] theorem ld26 : ldOf Tryz.prog 26 = some none := by kernel_rfl
@[simp] theorem z26 : zOf Tryz.prog 26 = some [.slice none 0 0] := by kernel_rfl
@[simp] theorem el26 : elOf Tryz.prog 26 = some (1, 24, [.arr []]) := by kernel_rfl
@[simp] theorem st26 : isSliceT Tryz.prog 26 = true := by kernel_rfl
@[simp] theorem sz26 : pv Tryz.prog (sizeOf 26) = some 1 := by kernel_rfl
@[simp] theorem u826 : isU8 Tryz.prog 26 = false := by kernel_rfl
@[simp] theorem mt26 : isMapT Tryz.prog 26 = false := by kernel_rfl
@[simp] theorem ik26 : ikOf Tryz.prog 26 = none := by kernel_rfl
@[simp] theorem sR26 : strRowsT Tryz.prog 26 = false := by kernel_rfl
@[simp] theorem es26 : elemOfSlice Tryz.prog 26 = some 42 := by kernel_rfl
@[simp] theorem ld27 : ldOf Tryz.prog 27 = some (some 3) := by kernel_rfl
@[simp] theorem z27 : zOf Tryz.prog 27 = some [.int .u64 0, .int .i64 0, .slice none 0 0] := by kernel_rfl
@[simp] theorem el27 : elOf Tryz.prog 27 = some (3, 40, [.v (.int .u64 0), .v (.int .i64 0), .arr []]) := by kernel_rfl
@[simp] theorem st27 : isSliceT Tryz.prog 27 = false := by kernel_rfl
@[simp] theorem sz27 : pv Tryz.prog (sizeOf 27) = some 3 := by kernel_rfl
@[simp] theorem u827 : isU8 Tryz.prog 27 = false := by kernel_rfl
@[simp] theorem mt27 : isMapT Tryz.prog 27 = false := by kernel_rfl
@[simp] theorem ik27 : ikOf Tryz.prog 27 = none := by kernel_rfl
@[simp] theorem bld27 : bldOf Tryz.prog 27 = some ([.int .u64 0, .int .i64 0, .slice none 0 0], [(0, 1), (1, 1), (2, 1)]) := by kernel_rfl
@[simp] theorem off27_0 : offOf Tryz.prog 27 0 = some 0 := by kernel_rfl
@[simp] theorem fld27_0 : fldOf Tryz.prog 27 0 = some (0, none) := by kernel_rfl
@[simp] theorem off27_1 : offOf Tryz.prog 27 1 = some 1 := by kernel_rfl
@[simp] theorem fld27_1 : fldOf Tryz.prog 27 1 = some (1, none) := by kernel_rfl
@[simp] theorem off27_2 : offOf Tryz.prog 27 2 = some 2 := by kernel_rfl
@[simp] theorem fld27_2 : fldOf Tryz.prog 27 2 = some (2, none) := by kernel_rfl
@[simp] theorem ld28 : ldOf Tryz.prog 28 = some (some 3) := by kernel_rfl
@[simp] theorem z28 : zOf Tryz.prog 28 = some [.int .u64 0, .int .i64 0, .slice none 0 0] := by kernel_rfl
@[simp] theorem el28 : elOf Tryz.prog 28 = some (3, 40, [.v (.int .u64 0), .v (.int .i64 0), .arr []]) := by kernel_rfl
@[simp] theorem st28 : isSliceT Tryz.prog 28 = false := by kernel_rfl
@[simp] theorem sz28 : pv Tryz.prog (sizeOf 28) = some 3 := by kernel_rfl
@[simp] theorem u828 : isU8 Tryz.prog 28 = false := by kernel_rfl
@[simp] theorem mt28 : isMapT Tryz.prog 28 = false := by kernel_rfl
@[simp] theorem ik28 : ikOf Tryz.prog 28 = none := by kernel_rfl
@[simp] theorem bld28 : bldOf Tryz.prog 28 = some ([.int .u64 0, .int .i64 0, .slice none 0 0], [(0, 1), (1, 1), (2, 1)]) := by kernel_rfl
@[simp] theorem off28_0 : offOf Tryz.prog 28 0 = some 0 := by kernel_rfl
@[simp] theorem fld28_0 : fldOf Tryz.prog 28 0 = some (0, none) := by kernel_rfl
@[simp] theorem off28_1 : offOf Tryz.prog 28 1 = some 1 := by kernel_rfl
@[simp] theorem fld28_1 : fldOf Tryz.prog 28 1 = some (1, none) := by kernel_rfl
@[simp] theorem off28_2 : offOf Tryz.prog 28 2 = some 2 := by kernel_rfl
@[simp] theorem fld28_2 : fldOf Tryz.prog 28 2 = some (2, none) := by kernel_rfl
@[simp] theorem ld29 : ldOf Tryz.prog 29 = some none := by kernel_rfl
@[simp] theorem z29 : zOf Tryz.prog 29 = some [.slice none 0 0] := by kernel_rfl
@[simp] theorem el29 : elOf Tryz.prog 29 = some (1, 24, [.arr []]) := by kernel_rfl
@[simp] theorem st29 : isSliceT Tryz.prog 29 = true := by kernel_rfl
@[simp] theorem sz29 : pv Tryz.prog (sizeOf 29) = some 1 := by kernel_rfl
@[simp] theorem u829 : isU8 Tryz.prog 29 = false := by kernel_rfl
@[simp] theorem mt29 : isMapT Tryz.prog 29 = false := by kernel_rfl
@[simp] theorem ik29 : ikOf Tryz.prog 29 = none := by kernel_rfl
@[simp] theorem sR29 : strRowsT Tryz.prog 29 = false := by kernel_rfl
@[simp] theorem es29 : elemOfSlice Tryz.prog 29 = some 34 := by kernel_rfl
@[simp] theorem ld33 : ldOf Tryz.prog 33 = some (some 2) := by kernel_rfl
@[simp] theorem z33 : zOf Tryz.prog 33 = some [.string ByteArray.empty, .int .i64 0] := by kernel_rfl
@[simp] theorem el33 : elOf Tryz.prog 33 = some (2, 24, [.v (.string ByteArray.empty), .v (.int .i64 0)]) := by kernel_rfl
@[simp] theorem st33 : isSliceT Tryz.prog 33 = false := by kernel_rfl
@[simp] theorem sz33 : pv Tryz.prog (sizeOf 33) = some 2 := by kernel_rfl
@[simp] theorem u833 : isU8 Tryz.prog 33 = false := by kernel_rfl
@[simp] theorem mt33 : isMapT Tryz.prog 33 = false := by kernel_rfl
@[simp] theorem ik33 : ikOf Tryz.prog 33 = none := by kernel_rfl
@[simp] theorem bld33 : bldOf Tryz.prog 33 = some ([.string ByteArray.empty, .int .i64 0], [(0, 1), (1, 1)]) := by kernel_rfl
@[simp] theorem off33_0 : offOf Tryz.prog 33 0 = some 0 := by kernel_rfl
@[simp] theorem fld33_0 : fldOf Tryz.prog 33 0 = some (0, none) := by kernel_rfl
@[simp] theorem off33_1 : offOf Tryz.prog 33 1 = some 1 := by kernel_rfl
@[simp] theorem fld33_1 : fldOf Tryz.prog 33 1 = some (1, none) := by kernel_rfl
@[simp] theorem ld34 : ldOf Tryz.prog 34 = some (some 2) := by kernel_rfl
@[simp] theorem z34 : zOf Tryz.prog 34 = some [.string ByteArray.empty, .int .i64 0] := by kernel_rfl
@[simp] theorem el34 : elOf Tryz.prog 34 = some (2, 24, [.v (.string ByteArray.empty), .v (.int .i64 0)]) := by kernel_rfl
@[simp] theorem st34 : isSliceT Tryz.prog 34 = false := by kernel_rfl
@[simp] theorem sz34 : pv Tryz.prog (sizeOf 34) = some 2 := by kernel_rfl
@[simp] theorem u834 : isU8 Tryz.prog 34 = false := by kernel_rfl
@[simp] theorem mt34 : isMapT Tryz.prog 34 = false := by kernel_rfl
@[simp] theorem ik34 : ikOf Tryz.prog 34 = none := by kernel_rfl
@[simp] theorem bld34 : bldOf Tryz.prog 34 = some ([.string ByteArray.empty, .int .i64 0], [(0, 1), (1, 1)]) := by kernel_rfl
@[simp] theorem off34_0 : offOf Tryz.prog 34 0 = some 0 := by kernel_rfl
@[simp] theorem fld34_0 : fldOf Tryz.prog 34 0 = some (0, none) := by kernel_rfl
@[simp] theorem off34_1 : offOf Tryz.prog 34 1 = some 1 := by kernel_rfl
@[simp] theorem fld34_1 : fldOf Tryz.prog 34 1 = some (1, none) := by kernel_rfl
@[simp] theorem ld38 : ldOf Tryz.prog 38 = some none := by kernel_rfl
@[simp] theorem z38 : zOf Tryz.prog 38 = some [.slice none 0 0] := by kernel_rfl
@[simp] theorem el38 : elOf Tryz.prog 38 = some (1, 24, [.arr []]) := by kernel_rfl
@[simp] theorem st38 : isSliceT Tryz.prog 38 = true := by kernel_rfl
@[simp] theorem sz38 : pv Tryz.prog (sizeOf 38) = some 1 := by kernel_rfl
@[simp] theorem u838 : isU8 Tryz.prog 38 = false := by kernel_rfl
@[simp] theorem mt38 : isMapT Tryz.prog 38 = false := by kernel_rfl
@[simp] theorem ik38 : ikOf Tryz.prog 38 = none := by kernel_rfl
@[simp] theorem sR38 : strRowsT Tryz.prog 38 = false := by kernel_rfl
@[simp] theorem es38 : elemOfSlice Tryz.prog 38 = some 53 := by kernel_rfl
@[simp] theorem ld39 : ldOf Tryz.prog 39 = some (some 2) := by kernel_rfl
@[simp] theorem z39 : zOf Tryz.prog 39 = some [.int .u64 0, .slice none 0 0] := by kernel_rfl
@[simp] theorem el39 : elOf Tryz.prog 39 = some (2, 32, [.v (.int .u64 0), .arr []]) := by kernel_rfl
@[simp] theorem st39 : isSliceT Tryz.prog 39 = false := by kernel_rfl
@[simp] theorem sz39 : pv Tryz.prog (sizeOf 39) = some 2 := by kernel_rfl
@[simp] theorem u839 : isU8 Tryz.prog 39 = false := by kernel_rfl
@[simp] theorem mt39 : isMapT Tryz.prog 39 = false := by kernel_rfl
@[simp] theorem ik39 : ikOf Tryz.prog 39 = none := by kernel_rfl
@[simp] theorem bld39 : bldOf Tryz.prog 39 = some ([.int .u64 0, .slice none 0 0], [(0, 1), (1, 1)]) := by kernel_rfl
@[simp] theorem off39_0 : offOf Tryz.prog 39 0 = some 0 := by kernel_rfl
@[simp] theorem fld39_0 : fldOf Tryz.prog 39 0 = some (0, none) := by kernel_rfl
@[simp] theorem off39_1 : offOf Tryz.prog 39 1 = some 1 := by kernel_rfl
@[simp] theorem fld39_1 : fldOf Tryz.prog 39 1 = some (1, none) := by kernel_rfl
@[simp] theorem ld40 : ldOf Tryz.prog 40 = some (some 2) := by kernel_rfl
@[simp] theorem z40 : zOf Tryz.prog 40 = some [.int .u64 0, .slice none 0 0] := by kernel_rfl
@[simp] theorem el40 : elOf Tryz.prog 40 = some (2, 32, [.v (.int .u64 0), .arr []]) := by kernel_rfl
@[simp] theorem st40 : isSliceT Tryz.prog 40 = false := by kernel_rfl
@[simp] theorem sz40 : pv Tryz.prog (sizeOf 40) = some 2 := by kernel_rfl
@[simp] theorem u840 : isU8 Tryz.prog 40 = false := by kernel_rfl
@[simp] theorem mt40 : isMapT Tryz.prog 40 = false := by kernel_rfl
@[simp] theorem ik40 : ikOf Tryz.prog 40 = none := by kernel_rfl
@[simp] theorem bld40 : bldOf Tryz.prog 40 = some ([.int .u64 0, .slice none 0 0], [(0, 1), (1, 1)]) := by kernel_rfl
@[simp] theorem off40_0 : offOf Tryz.prog 40 0 = some 0 := by kernel_rfl
@[simp] theorem fld40_0 : fldOf Tryz.prog 40 0 = some (0, none) := by kernel_rfl
@[simp] theorem off40_1 : offOf Tryz.prog 40 1 = some 1 := by kernel_rfl
@[simp] theorem fld40_1 : fldOf Tryz.prog 40 1 = some (1, none) := by kernel_rfl
@[simp] theorem ld41 : ldOf Tryz.prog 41 = some (some 3) := by kernel_rfl
@[simp] theorem z41 : zOf Tryz.prog 41 = some [.int .u64 0, .slice none 0 0, .slice none 0 0] := by kernel_rfl
@[simp] theorem el41 : elOf Tryz.prog 41 = some (3, 56, [.v (.int .u64 0), .arr [], .arr []]) := by kernel_rfl
@[simp] theorem st41 : isSliceT Tryz.prog 41 = false := by kernel_rfl
@[simp] theorem sz41 : pv Tryz.prog (sizeOf 41) = some 3 := by kernel_rfl
@[simp] theorem u841 : isU8 Tryz.prog 41 = false := by kernel_rfl
@[simp] theorem mt41 : isMapT Tryz.prog 41 = false := by kernel_rfl
@[simp] theorem ik41 : ikOf Tryz.prog 41 = none := by kernel_rfl
@[simp] theorem bld41 : bldOf Tryz.prog 41 = some ([.int .u64 0, .slice none 0 0, .slice none 0 0], [(0, 2), (2, 1)]) := by kernel_rfl
@[simp] theorem off41_0 : offOf Tryz.prog 41 0 = some 0 := by kernel_rfl
@[simp] theorem fld41_0 : fldOf Tryz.prog 41 0 = some (0, some 2) := by kernel_rfl
@[simp] theorem off41_1 : offOf Tryz.prog 41 1 = some 2 := by kernel_rfl
@[simp] theorem fld41_1 : fldOf Tryz.prog 41 1 = some (2, none) := by kernel_rfl
@[simp] theorem ld42 : ldOf Tryz.prog 42 = some (some 3) := by kernel_rfl
@[simp] theorem z42 : zOf Tryz.prog 42 = some [.int .u64 0, .slice none 0 0, .slice none 0 0] := by kernel_rfl
@[simp] theorem el42 : elOf Tryz.prog 42 = some (3, 56, [.v (.int .u64 0), .arr [], .arr []]) := by kernel_rfl
@[simp] theorem st42 : isSliceT Tryz.prog 42 = false := by kernel_rfl
@[simp] theorem sz42 : pv Tryz.prog (sizeOf 42) = some 3 := by kernel_rfl
@[simp] theorem u842 : isU8 Tryz.prog 42 = false := by kernel_rfl
@[simp] theorem mt42 : isMapT Tryz.prog 42 = false := by kernel_rfl
@[simp] theorem ik42 : ikOf Tryz.prog 42 = none := by kernel_rfl
@[simp] theorem bld42 : bldOf Tryz.prog 42 = some ([.int .u64 0, .slice none 0 0, .slice none 0 0], [(0, 2), (2, 1)]) := by kernel_rfl
@[simp] theorem off42_0 : offOf Tryz.prog 42 0 = some 0 := by kernel_rfl
@[simp] theorem fld42_0 : fldOf Tryz.prog 42 0 = some (0, some 2) := by kernel_rfl
@[simp] theorem off42_1 : offOf Tryz.prog 42 1 = some 2 := by kernel_rfl
@[simp] theorem fld42_1 : fldOf Tryz.prog 42 1 = some (2, none) := by kernel_rfl
@[simp] theorem ld44 : ldOf Tryz.prog 44 = some none := by kernel_rfl
@[simp] theorem z44 : zOf Tryz.prog 44 = some [.int .i64 0] := by kernel_rfl
@[simp] theorem el44 : elOf Tryz.prog 44 = some (1, 8, [.v (.int .i64 0)]) := by kernel_rfl
@[simp] theorem st44 : isSliceT Tryz.prog 44 = false := by kernel_rfl
@[simp] theorem sz44 : pv Tryz.prog (sizeOf 44) = some 1 := by kernel_rfl
@[simp] theorem u844 : isU8 Tryz.prog 44 = false := by kernel_rfl
@[simp] theorem mt44 : isMapT Tryz.prog 44 = false := by kernel_rfl
@[simp] theorem ik44 : ikOf Tryz.prog 44 = some .i64 := by kernel_rfl
@[simp] theorem ld48 : ldOf Tryz.prog 48 = some none := by kernel_rfl
@[simp] theorem z48 : zOf Tryz.prog 48 = some [.slice none 0 0] := by kernel_rfl
@[simp] theorem el48 : elOf Tryz.prog 48 = some (1, 24, [.arr []]) := by kernel_rfl
@[simp] theorem st48 : isSliceT Tryz.prog 48 = true := by kernel_rfl
@[simp] theorem sz48 : pv Tryz.prog (sizeOf 48) = some 1 := by kernel_rfl
@[simp] theorem u848 : isU8 Tryz.prog 48 = false := by kernel_rfl
@[simp] theorem mt48 : isMapT Tryz.prog 48 = false := by kernel_rfl
@[simp] theorem ik48 : ikOf Tryz.prog 48 = none := by kernel_rfl
@[simp] theorem sR48 : strRowsT Tryz.prog 48 = false := by kernel_rfl
@[simp] theorem es48 : elemOfSlice Tryz.prog 48 = some 65 := by kernel_rfl
@[simp] theorem ld49 : ldOf Tryz.prog 49 = some (some 3) := by kernel_rfl
@[simp] theorem z49 : zOf Tryz.prog 49 = some [.int .u64 0, .int .i64 0, .slice none 0 0] := by kernel_rfl
@[simp] theorem el49 : elOf Tryz.prog 49 = some (3, 40, [.v (.int .u64 0), .v (.int .i64 0), .arr []]) := by kernel_rfl
@[simp] theorem st49 : isSliceT Tryz.prog 49 = false := by kernel_rfl
@[simp] theorem sz49 : pv Tryz.prog (sizeOf 49) = some 3 := by kernel_rfl
@[simp] theorem u849 : isU8 Tryz.prog 49 = false := by kernel_rfl
@[simp] theorem mt49 : isMapT Tryz.prog 49 = false := by kernel_rfl
@[simp] theorem ik49 : ikOf Tryz.prog 49 = none := by kernel_rfl
@[simp] theorem bld49 : bldOf Tryz.prog 49 = some ([.int .u64 0, .int .i64 0, .slice none 0 0], [(0, 1), (1, 1), (2, 1)]) := by kernel_rfl
@[simp] theorem off49_0 : offOf Tryz.prog 49 0 = some 0 := by kernel_rfl
@[simp] theorem fld49_0 : fldOf Tryz.prog 49 0 = some (0, none) := by kernel_rfl
@[simp] theorem off49_1 : offOf Tryz.prog 49 1 = some 1 := by kernel_rfl
@[simp] theorem fld49_1 : fldOf Tryz.prog 49 1 = some (1, none) := by kernel_rfl
@[simp] theorem off49_2 : offOf Tryz.prog 49 2 = some 2 := by kernel_rfl
@[simp] theorem fld49_2 : fldOf Tryz.prog 49 2 = some (2, none) := by kernel_rfl
@[simp] theorem ld50 : ldOf Tryz.prog 50 = some (some 3) := by kernel_rfl
@[simp] theorem z50 : zOf Tryz.prog 50 = some [.int .u64 0, .int .i64 0, .slice none 0 0] := by kernel_rfl
@[simp] theorem el50 : elOf Tryz.prog 50 = some (3, 40, [.v (.int .u64 0), .v (.int .i64 0), .arr []]) := by kernel_rfl
@[simp] theorem st50 : isSliceT Tryz.prog 50 = false := by kernel_rfl
@[simp] theorem sz50 : pv Tryz.prog (sizeOf 50) = some 3 := by kernel_rfl
@[simp] theorem u850 : isU8 Tryz.prog 50 = false := by kernel_rfl
@[simp] theorem mt50 : isMapT Tryz.prog 50 = false := by kernel_rfl
@[simp] theorem ik50 : ikOf Tryz.prog 50 = none := by kernel_rfl
@[simp] theorem bld50 : bldOf Tryz.prog 50 = some ([.int .u64 0, .int .i64 0, .slice none 0 0], [(0, 1), (1, 1), (2, 1)]) := by kernel_rfl
@[simp] theorem off50_0 : offOf Tryz.prog 50 0 = some 0 := by kernel_rfl
@[simp] theorem fld50_0 : fldOf Tryz.prog 50 0 = some (0, none) := by kernel_rfl
@[simp] theorem off50_1 : offOf Tryz.prog 50 1 = some 1 := by kernel_rfl
@[simp] theorem fld50_1 : fldOf Tryz.prog 50 1 = some (1, none) := by kernel_rfl
@[simp] theorem off50_2 : offOf Tryz.prog 50 2 = some 2 := by kernel_rfl
@[simp] theorem fld50_2 : fldOf Tryz.prog 50 2 = some (2, none) := by kernel_rfl
@[simp] theorem ld53 : ldOf Tryz.prog 53 = some none := by kernel_rfl
@[simp] theorem z53 : zOf Tryz.prog 53 = some [.slice none 0 0] := by kernel_rfl
@[simp] theorem el53 : elOf Tryz.prog 53 = some (1, 24, [.arr []]) := by kernel_rfl
@[simp] theorem st53 : isSliceT Tryz.prog 53 = true := by kernel_rfl
@[simp] theorem sz53 : pv Tryz.prog (sizeOf 53) = some 1 := by kernel_rfl
@[simp] theorem u853 : isU8 Tryz.prog 53 = false := by kernel_rfl
@[simp] theorem mt53 : isMapT Tryz.prog 53 = false := by kernel_rfl
@[simp] theorem ik53 : ikOf Tryz.prog 53 = none := by kernel_rfl
@[simp] theorem sR53 : strRowsT Tryz.prog 53 = false := by kernel_rfl
@[simp] theorem es53 : elemOfSlice Tryz.prog 53 = some 3 := by kernel_rfl
@[simp] theorem ld62 : ldOf Tryz.prog 62 = some none := by kernel_rfl
@[simp] theorem z62 : zOf Tryz.prog 62 = some [.slice none 0 0] := by kernel_rfl
@[simp] theorem el62 : elOf Tryz.prog 62 = some (1, 24, [.arr []]) := by kernel_rfl
@[simp] theorem st62 : isSliceT Tryz.prog 62 = true := by kernel_rfl
@[simp] theorem sz62 : pv Tryz.prog (sizeOf 62) = some 1 := by kernel_rfl
@[simp] theorem u862 : isU8 Tryz.prog 62 = false := by kernel_rfl
@[simp] theorem mt62 : isMapT Tryz.prog 62 = false := by kernel_rfl
@[simp] theorem ik62 : ikOf Tryz.prog 62 = none := by kernel_rfl
@[simp] theorem sR62 : strRowsT Tryz.prog 62 = false := by kernel_rfl
@[simp] theorem es62 : elemOfSlice Tryz.prog 62 = some 66 := by kernel_rfl
@[simp] theorem ld63 : ldOf Tryz.prog 63 = some (some 2) := by kernel_rfl
@[simp] theorem z63 : zOf Tryz.prog 63 = some [.int .u64 0, .slice none 0 0] := by kernel_rfl
@[simp] theorem el63 : elOf Tryz.prog 63 = some (2, 32, [.v (.int .u64 0), .arr []]) := by kernel_rfl
@[simp] theorem st63 : isSliceT Tryz.prog 63 = false := by kernel_rfl
@[simp] theorem sz63 : pv Tryz.prog (sizeOf 63) = some 2 := by kernel_rfl
@[simp] theorem u863 : isU8 Tryz.prog 63 = false := by kernel_rfl
@[simp] theorem mt63 : isMapT Tryz.prog 63 = false := by kernel_rfl
@[simp] theorem ik63 : ikOf Tryz.prog 63 = none := by kernel_rfl
@[simp] theorem bld63 : bldOf Tryz.prog 63 = some ([.int .u64 0, .slice none 0 0], [(0, 1), (1, 1)]) := by kernel_rfl
@[simp] theorem off63_0 : offOf Tryz.prog 63 0 = some 0 := by kernel_rfl
@[simp] theorem fld63_0 : fldOf Tryz.prog 63 0 = some (0, none) := by kernel_rfl
@[simp] theorem off63_1 : offOf Tryz.prog 63 1 = some 1 := by kernel_rfl
@[simp] theorem fld63_1 : fldOf Tryz.prog 63 1 = some (1, none) := by kernel_rfl
@[simp] theorem ld64 : ldOf Tryz.prog 64 = some (some 3) := by kernel_rfl
@[simp] theorem z64 : zOf Tryz.prog 64 = some [.int .u64 0, .slice none 0 0, .slice none 0 0] := by kernel_rfl
@[simp] theorem el64 : elOf Tryz.prog 64 = some (3, 56, [.v (.int .u64 0), .arr [], .arr []]) := by kernel_rfl
@[simp] theorem st64 : isSliceT Tryz.prog 64 = false := by kernel_rfl
@[simp] theorem sz64 : pv Tryz.prog (sizeOf 64) = some 3 := by kernel_rfl
@[simp] theorem u864 : isU8 Tryz.prog 64 = false := by kernel_rfl
@[simp] theorem mt64 : isMapT Tryz.prog 64 = false := by kernel_rfl
@[simp] theorem ik64 : ikOf Tryz.prog 64 = none := by kernel_rfl
@[simp] theorem bld64 : bldOf Tryz.prog 64 = some ([.int .u64 0, .slice none 0 0, .slice none 0 0], [(0, 2), (2, 1)]) := by kernel_rfl
@[simp] theorem off64_0 : offOf Tryz.prog 64 0 = some 0 := by kernel_rfl
@[simp] theorem fld64_0 : fldOf Tryz.prog 64 0 = some (0, some 2) := by kernel_rfl
@[simp] theorem off64_1 : offOf Tryz.prog 64 1 = some 2 := by kernel_rfl
@[simp] theorem fld64_1 : fldOf Tryz.prog 64 1 = some (2, none) := by kernel_rfl
@[simp] theorem ld65 : ldOf Tryz.prog 65 = some (some 3) := by kernel_rfl
@[simp] theorem z65 : zOf Tryz.prog 65 = some [.int .u64 0, .slice none 0 0, .slice none 0 0] := by kernel_rfl
@[simp] theorem el65 : elOf Tryz.prog 65 = some (3, 56, [.v (.int .u64 0), .arr [], .arr []]) := by kernel_rfl
@[simp] theorem st65 : isSliceT Tryz.prog 65 = false := by kernel_rfl
@[simp] theorem sz65 : pv Tryz.prog (sizeOf 65) = some 3 := by kernel_rfl
@[simp] theorem u865 : isU8 Tryz.prog 65 = false := by kernel_rfl
@[simp] theorem mt65 : isMapT Tryz.prog 65 = false := by kernel_rfl
@[simp] theorem ik65 : ikOf Tryz.prog 65 = none := by kernel_rfl
@[simp] theorem bld65 : bldOf Tryz.prog 65 = some ([.int .u64 0, .slice none 0 0, .slice none 0 0], [(0, 2), (2, 1)]) := by kernel_rfl
@[simp] theorem off65_0 : offOf Tryz.prog 65 0 = some 0 := by kernel_rfl
@[simp] theorem fld65_0 : fldOf Tryz.prog 65 0 = some (0, some 2) := by kernel_rfl
@[simp] theorem off65_1 : offOf Tryz.prog 65 1 = some 2 := by kernel_rfl
@[simp] theorem fld65_1 : fldOf Tryz.prog 65 1 = some (2, none) := by kernel_rfl
@[simp] theorem ld66 : ldOf Tryz.prog 66 = some (some 2) := by kernel_rfl
@[simp] theorem z66 : zOf Tryz.prog 66 = some [.string ByteArray.empty, .int .i64 0] := by kernel_rfl
@[simp] theorem el66 : elOf Tryz.prog 66 = some (2, 24, [.v (.string ByteArray.empty), .v (.int .i64 0)]) := by kernel_rfl
@[simp] theorem st66 : isSliceT Tryz.prog 66 = false := by kernel_rfl
@[simp] theorem sz66 : pv Tryz.prog (sizeOf 66) = some 2 := by kernel_rfl
@[simp] theorem u866 : isU8 Tryz.prog 66 = false := by kernel_rfl
@[simp] theorem mt66 : isMapT Tryz.prog 66 = false := by kernel_rfl
@[simp] theorem ik66 : ikOf Tryz.prog 66 = none := by kernel_rfl
@[simp] theorem bld66 : bldOf Tryz.prog 66 = some ([.string ByteArray.empty, .int .i64 0], [(0, 1), (1, 1)]) := by kernel_rfl
@[simp] theorem off66_0 : offOf Tryz.prog 66 0 = some 0 := by kernel_rfl
@[simp] theorem fld66_0 : fldOf Tryz.prog 66 0 = some (0, none) := by kernel_rfl
@[simp] theorem off66_1 : offOf Tryz.prog 66 1 = some 1 := by kernel_rfl
@[simp] theorem fld66_1 : fldOf Tryz.prog 66 1 = some (1, none) := by kernel_rfl
@[simp] theorem ld85 : ldOf Tryz.prog 85 = some none := by kernel_rfl
@[simp] theorem z85 : zOf Tryz.prog 85 = some [.pointer none] := by kernel_rfl
@[simp] theorem el85 : elOf Tryz.prog 85 = some (1, 8, [.v (.pointer none)]) := by kernel_rfl
@[simp] theorem st85 : isSliceT Tryz.prog 85 = false := by kernel_rfl
@[simp] theorem sz85 : pv Tryz.prog (sizeOf 85) = some 1 := by kernel_rfl
@[simp] theorem u885 : isU8 Tryz.prog 85 = false := by kernel_rfl
@[simp] theorem mt85 : isMapT Tryz.prog 85 = false := by kernel_rfl
@[simp] theorem ik85 : ikOf Tryz.prog 85 = none := by kernel_rfl
@[simp] theorem up85 : pv Tryz.prog (underlying 85) = some (.pointer 114) := by kernel_rfl
@[simp] theorem ld102 : ldOf Tryz.prog 102 = some none := by kernel_rfl
@[simp] theorem z102 : zOf Tryz.prog 102 = some [.int .u64 0] := by kernel_rfl
@[simp] theorem el102 : elOf Tryz.prog 102 = some (1, 8, [.v (.int .u64 0)]) := by kernel_rfl
@[simp] theorem st102 : isSliceT Tryz.prog 102 = false := by kernel_rfl
@[simp] theorem sz102 : pv Tryz.prog (sizeOf 102) = some 1 := by kernel_rfl
@[simp] theorem u8102 : isU8 Tryz.prog 102 = false := by kernel_rfl
@[simp] theorem mt102 : isMapT Tryz.prog 102 = false := by kernel_rfl
@[simp] theorem ik102 : ikOf Tryz.prog 102 = some .u64 := by kernel_rfl
@[simp] theorem ld104 : ldOf Tryz.prog 104 = some none := by kernel_rfl
@[simp] theorem z104 : zOf Tryz.prog 104 = some [.slice none 0 0] := by kernel_rfl
@[simp] theorem el104 : elOf Tryz.prog 104 = some (1, 24, [.arr []]) := by kernel_rfl
@[simp] theorem st104 : isSliceT Tryz.prog 104 = true := by kernel_rfl
@[simp] theorem sz104 : pv Tryz.prog (sizeOf 104) = some 1 := by kernel_rfl
@[simp] theorem u8104 : isU8 Tryz.prog 104 = false := by kernel_rfl
@[simp] theorem mt104 : isMapT Tryz.prog 104 = false := by kernel_rfl
@[simp] theorem ik104 : ikOf Tryz.prog 104 = none := by kernel_rfl
@[simp] theorem sR104 : strRowsT Tryz.prog 104 = false := by kernel_rfl
@[simp] theorem es104 : elemOfSlice Tryz.prog 104 = some 22 := by kernel_rfl
@[simp] theorem ld112 : ldOf Tryz.prog 112 = some none := by kernel_rfl
@[simp] theorem z112 : zOf Tryz.prog 112 = some [.map none] := by kernel_rfl
@[simp] theorem el112 : elOf Tryz.prog 112 = some (1, 8, [.v (.map none)]) := by kernel_rfl
@[simp] theorem st112 : isSliceT Tryz.prog 112 = false := by kernel_rfl
@[simp] theorem sz112 : pv Tryz.prog (sizeOf 112) = some 1 := by kernel_rfl
@[simp] theorem u8112 : isU8 Tryz.prog 112 = false := by kernel_rfl
@[simp] theorem mt112 : isMapT Tryz.prog 112 = true := by kernel_rfl
@[simp] theorem mty112 : mapTy Tryz.prog 112 = some (.string, .int .i64 0) := by kernel_rfl
@[simp] theorem ik112 : ikOf Tryz.prog 112 = none := by kernel_rfl
@[simp] theorem ld113 : ldOf Tryz.prog 113 = some (some 3) := by kernel_rfl
@[simp] theorem z113 : zOf Tryz.prog 113 = some [.int .i64 0, .slice none 0 0, .map none] := by kernel_rfl
@[simp] theorem el113 : elOf Tryz.prog 113 = some (3, 40, [.v (.int .i64 0), .arr [], .v (.map none)]) := by kernel_rfl
@[simp] theorem st113 : isSliceT Tryz.prog 113 = false := by kernel_rfl
@[simp] theorem sz113 : pv Tryz.prog (sizeOf 113) = some 3 := by kernel_rfl
@[simp] theorem u8113 : isU8 Tryz.prog 113 = false := by kernel_rfl
@[simp] theorem mt113 : isMapT Tryz.prog 113 = false := by kernel_rfl
@[simp] theorem ik113 : ikOf Tryz.prog 113 = none := by kernel_rfl
@[simp] theorem bld113 : bldOf Tryz.prog 113 = some ([.int .i64 0, .slice none 0 0, .map none], [(0, 1), (1, 1), (2, 1)]) := by kernel_rfl
@[simp] theorem off113_0 : offOf Tryz.prog 113 0 = some 0 := by kernel_rfl
@[simp] theorem fld113_0 : fldOf Tryz.prog 113 0 = some (0, none) := by kernel_rfl
@[simp] theorem off113_1 : offOf Tryz.prog 113 1 = some 1 := by kernel_rfl
@[simp] theorem fld113_1 : fldOf Tryz.prog 113 1 = some (1, none) := by kernel_rfl
@[simp] theorem off113_2 : offOf Tryz.prog 113 2 = some 2 := by kernel_rfl
@[simp] theorem fld113_2 : fldOf Tryz.prog 113 2 = some (2, none) := by kernel_rfl
@[simp] theorem ld114 : ldOf Tryz.prog 114 = some (some 3) := by kernel_rfl
@[simp] theorem z114 : zOf Tryz.prog 114 = some [.int .i64 0, .slice none 0 0, .map none] := by kernel_rfl
@[simp] theorem el114 : elOf Tryz.prog 114 = some (3, 40, [.v (.int .i64 0), .arr [], .v (.map none)]) := by kernel_rfl
@[simp] theorem st114 : isSliceT Tryz.prog 114 = false := by kernel_rfl
@[simp] theorem sz114 : pv Tryz.prog (sizeOf 114) = some 3 := by kernel_rfl
@[simp] theorem u8114 : isU8 Tryz.prog 114 = false := by kernel_rfl
@[simp] theorem mt114 : isMapT Tryz.prog 114 = false := by kernel_rfl
@[simp] theorem ik114 : ikOf Tryz.prog 114 = none := by kernel_rfl
@[simp] theorem bld114 : bldOf Tryz.prog 114 = some ([.int .i64 0, .slice none 0 0, .map none], [(0, 1), (1, 1), (2, 1)]) := by kernel_rfl
@[simp] theorem off114_0 : offOf Tryz.prog 114 0 = some 0 := by kernel_rfl
@[simp] theorem fld114_0 : fldOf Tryz.prog 114 0 = some (0, none) := by kernel_rfl
@[simp] theorem off114_1 : offOf Tryz.prog 114 1 = some 1 := by kernel_rfl
@[simp] theorem fld114_1 : fldOf Tryz.prog 114 1 = some (1, none) := by kernel_rfl
@[simp] theorem off114_2 : offOf Tryz.prog 114 2 = some 2 := by kernel_rfl
@[simp] theorem fld114_2 : fldOf Tryz.prog 114 2 = some (2, none) := by kernel_rfl
@[simp] theorem ld127 : ldOf Tryz.prog 127 = some none := by kernel_rfl
@[simp] theorem z127 : zOf Tryz.prog 127 = some [.int .u32 0] := by kernel_rfl
@[simp] theorem el127 : elOf Tryz.prog 127 = some (1, 4, [.v (.int .u32 0)]) := by kernel_rfl
@[simp] theorem st127 : isSliceT Tryz.prog 127 = false := by kernel_rfl
@[simp] theorem sz127 : pv Tryz.prog (sizeOf 127) = some 1 := by kernel_rfl
@[simp] theorem u8127 : isU8 Tryz.prog 127 = false := by kernel_rfl
@[simp] theorem mt127 : isMapT Tryz.prog 127 = false := by kernel_rfl
@[simp] theorem ik127 : ikOf Tryz.prog 127 = some .u32 := by kernel_rfl
@[simp] theorem ld129 : ldOf Tryz.prog 129 = some none := by kernel_rfl
@[simp] theorem z129 : zOf Tryz.prog 129 = some [.slice none 0 0] := by kernel_rfl
@[simp] theorem el129 : elOf Tryz.prog 129 = some (1, 24, [.arr []]) := by kernel_rfl
@[simp] theorem st129 : isSliceT Tryz.prog 129 = true := by kernel_rfl
@[simp] theorem sz129 : pv Tryz.prog (sizeOf 129) = some 1 := by kernel_rfl
@[simp] theorem u8129 : isU8 Tryz.prog 129 = true := by kernel_rfl
@[simp] theorem mt129 : isMapT Tryz.prog 129 = false := by kernel_rfl
@[simp] theorem sr129 : isStrT Tryz.prog 129 = false := by kernel_rfl
@[simp] theorem ik129 : ikOf Tryz.prog 129 = none := by kernel_rfl
@[simp] theorem sR129 : strRowsT Tryz.prog 129 = false := by kernel_rfl
@[simp] theorem es129 : elemOfSlice Tryz.prog 129 = some 5 := by kernel_rfl
@[simp] theorem ld143 : ldOf Tryz.prog 143 = some none := by kernel_rfl
@[simp] theorem z143 : zOf Tryz.prog 143 = some [.int .i64 0] := by kernel_rfl
@[simp] theorem el143 : elOf Tryz.prog 143 = some (1, 8, [.v (.int .i64 0)]) := by kernel_rfl
@[simp] theorem st143 : isSliceT Tryz.prog 143 = false := by kernel_rfl
@[simp] theorem sz143 : pv Tryz.prog (sizeOf 143) = some 1 := by kernel_rfl
@[simp] theorem u8143 : isU8 Tryz.prog 143 = false := by kernel_rfl
@[simp] theorem mt143 : isMapT Tryz.prog 143 = false := by kernel_rfl
@[simp] theorem ik143 : ikOf Tryz.prog 143 = some .i64 := by kernel_rfl
@[simp] theorem ld154 : ldOf Tryz.prog 154 = some none := by kernel_rfl
@[simp] theorem z154 : zOf Tryz.prog 154 = some [.int .u64 0] := by kernel_rfl
@[simp] theorem el154 : elOf Tryz.prog 154 = some (1, 8, [.v (.int .u64 0)]) := by kernel_rfl
@[simp] theorem st154 : isSliceT Tryz.prog 154 = false := by kernel_rfl
@[simp] theorem sz154 : pv Tryz.prog (sizeOf 154) = some 1 := by kernel_rfl
@[simp] theorem u8154 : isU8 Tryz.prog 154 = false := by kernel_rfl
@[simp] theorem mt154 : isMapT Tryz.prog 154 = false := by kernel_rfl
@[simp] theorem ik154 : ikOf Tryz.prog 154 = some .u64 := by kernel_rfl
@[simp] theorem ld158 : ldOf Tryz.prog 158 = some none := by kernel_rfl
@[simp] theorem z158 : zOf Tryz.prog 158 = some [.pointer none] := by kernel_rfl
@[simp] theorem el158 : elOf Tryz.prog 158 = some (1, 8, [.v (.pointer none)]) := by kernel_rfl
@[simp] theorem st158 : isSliceT Tryz.prog 158 = false := by kernel_rfl
@[simp] theorem sz158 : pv Tryz.prog (sizeOf 158) = some 1 := by kernel_rfl
@[simp] theorem u8158 : isU8 Tryz.prog 158 = false := by kernel_rfl
@[simp] theorem mt158 : isMapT Tryz.prog 158 = false := by kernel_rfl
@[simp] theorem ik158 : ikOf Tryz.prog 158 = none := by kernel_rfl
@[simp] theorem up158 : pv Tryz.prog (underlying 158) = some (.pointer 3) := by kernel_rfl
@[simp] theorem ld162 : ldOf Tryz.prog 162 = some none := by kernel_rfl
@[simp] theorem z162 : zOf Tryz.prog 162 = some [.pointer none] := by kernel_rfl
@[simp] theorem el162 : elOf Tryz.prog 162 = some (1, 8, [.v (.pointer none)]) := by kernel_rfl
@[simp] theorem st162 : isSliceT Tryz.prog 162 = false := by kernel_rfl
@[simp] theorem sz162 : pv Tryz.prog (sizeOf 162) = some 1 := by kernel_rfl
@[simp] theorem u8162 : isU8 Tryz.prog 162 = false := by kernel_rfl
@[simp] theorem mt162 : isMapT Tryz.prog 162 = false := by kernel_rfl
@[simp] theorem ik162 : ikOf Tryz.prog 162 = none := by kernel_rfl
@[simp] theorem up162 : pv Tryz.prog (underlying 162) = some (.pointer 154) := by kernel_rfl
@[simp] theorem ld175 : ldOf Tryz.prog 175 = some none := by kernel_rfl
@[simp] theorem z175 : zOf Tryz.prog 175 = some [.pointer none] := by kernel_rfl
@[simp] theorem el175 : elOf Tryz.prog 175 = some (1, 8, [.v (.pointer none)]) := by kernel_rfl
@[simp] theorem st175 : isSliceT Tryz.prog 175 = false := by kernel_rfl
@[simp] theorem sz175 : pv Tryz.prog (sizeOf 175) = some 1 := by kernel_rfl
@[simp] theorem u8175 : isU8 Tryz.prog 175 = false := by kernel_rfl
@[simp] theorem mt175 : isMapT Tryz.prog 175 = false := by kernel_rfl
@[simp] theorem ik175 : ikOf Tryz.prog 175 = none := by kernel_rfl
@[simp] theorem up175 : pv Tryz.prog (underlying 175) = some (.pointer 5) := by kernel_rfl
@[simp] theorem ld178 : ldOf Tryz.prog 178 = some (some 11) := by kernel_rfl
@[simp] theorem z178 : zOf Tryz.prog 178 = some [.int .u64 0, .int .u64 0, .int .u32 0, .int .u8 0, .int .u8 0, .int .u8 0, .int .u8 0, .nilFunc, .pointer none, .int .i32 0, .int .i32 0] := by kernel_rfl
@[simp] theorem el178 : elOf Tryz.prog 178 = some (11, 48, [.v (.int .u64 0), .v (.int .u64 0), .v (.int .u32 0), .v (.int .u8 0), .v (.int .u8 0), .v (.int .u8 0), .v (.int .u8 0), .v (.nilFunc), .v (.pointer none), .v (.int .i32 0), .v (.int .i32 0)]) := by kernel_rfl
@[simp] theorem st178 : isSliceT Tryz.prog 178 = false := by kernel_rfl
@[simp] theorem sz178 : pv Tryz.prog (sizeOf 178) = some 11 := by kernel_rfl
@[simp] theorem u8178 : isU8 Tryz.prog 178 = false := by kernel_rfl
@[simp] theorem mt178 : isMapT Tryz.prog 178 = false := by kernel_rfl
@[simp] theorem ik178 : ikOf Tryz.prog 178 = none := by kernel_rfl
@[simp] theorem bld178 : bldOf Tryz.prog 178 = some ([.int .u64 0, .int .u64 0, .int .u32 0, .int .u8 0, .int .u8 0, .int .u8 0, .int .u8 0, .nilFunc, .pointer none, .int .i32 0, .int .i32 0], [(0, 1), (1, 1), (2, 1), (3, 1), (4, 1), (5, 1), (6, 1), (7, 1), (8, 1), (9, 1), (10, 1)]) := by kernel_rfl
@[simp] theorem off178_0 : offOf Tryz.prog 178 0 = some 0 := by kernel_rfl
@[simp] theorem fld178_0 : fldOf Tryz.prog 178 0 = some (0, none) := by kernel_rfl
@[simp] theorem off178_1 : offOf Tryz.prog 178 1 = some 1 := by kernel_rfl
@[simp] theorem fld178_1 : fldOf Tryz.prog 178 1 = some (1, none) := by kernel_rfl
@[simp] theorem off178_2 : offOf Tryz.prog 178 2 = some 2 := by kernel_rfl
@[simp] theorem fld178_2 : fldOf Tryz.prog 178 2 = some (2, none) := by kernel_rfl
@[simp] theorem off178_3 : offOf Tryz.prog 178 3 = some 3 := by kernel_rfl
@[simp] theorem fld178_3 : fldOf Tryz.prog 178 3 = some (3, none) := by kernel_rfl
@[simp] theorem off178_4 : offOf Tryz.prog 178 4 = some 4 := by kernel_rfl
@[simp] theorem fld178_4 : fldOf Tryz.prog 178 4 = some (4, none) := by kernel_rfl
@[simp] theorem off178_5 : offOf Tryz.prog 178 5 = some 5 := by kernel_rfl
@[simp] theorem fld178_5 : fldOf Tryz.prog 178 5 = some (5, none) := by kernel_rfl
@[simp] theorem off178_6 : offOf Tryz.prog 178 6 = some 6 := by kernel_rfl
@[simp] theorem fld178_6 : fldOf Tryz.prog 178 6 = some (6, none) := by kernel_rfl
@[simp] theorem off178_7 : offOf Tryz.prog 178 7 = some 7 := by kernel_rfl
@[simp] theorem fld178_7 : fldOf Tryz.prog 178 7 = some (7, none) := by kernel_rfl
@[simp] theorem off178_8 : offOf Tryz.prog 178 8 = some 8 := by kernel_rfl
@[simp] theorem fld178_8 : fldOf Tryz.prog 178 8 = some (8, none) := by kernel_rfl
@[simp] theorem off178_9 : offOf Tryz.prog 178 9 = some 9 := by kernel_rfl
@[simp] theorem fld178_9 : fldOf Tryz.prog 178 9 = some (9, none) := by kernel_rfl
@[simp] theorem off178_10 : offOf Tryz.prog 178 10 = some 10 := by kernel_rfl
@[simp] theorem fld178_10 : fldOf Tryz.prog 178 10 = some (10, none) := by kernel_rfl
@[simp] theorem lna25 {H : Hp} {ty : TypeId} {l : List (List CV)} : vlen Tryz.prog H #[25] ty (.one (.c (.arr l))) = qa (vI .i64 l.length) := len_arr es25
@[simp] theorem lnl25 {H : Hp} {ty : TypeId} {id o n tot : Nat} : vlen Tryz.prog H #[25] ty (.one (.sl id o n tot)) = if lenIs H id tot = true then qa (vI .i64 n) else none := len_sl es25
@[simp] theorem iaa25 {H : Hp} {k : IntKind} {l : List (List CV)} {i : Int} : vindexAddr Tryz.prog H 25 (.one (.c (.arr l))) (vI k i) = if 0 ≤ i then (match l[i.toNat]? with | some x => if x.length = 1 then qa (.one (.c (.cptr x))) else none | none => none) else none := ia_arr es25 sz9
@[simp] theorem ial25 {H : Hp} {k : IntKind} {id o n tot : Nat} {i : Int} : vindexAddr Tryz.prog H 25 (.one (.sl id o n tot)) (vI k i) = if 0 ≤ i then (if i.toNat < n then (if elAt H id tot (o + i.toNat) = some 1 then qa (.one (.ptr ⟨id, o + i.toNat, 0, tot⟩)) else none) else none) else none := ia_sl es25 sz9
@[simp] theorem lna26 {H : Hp} {ty : TypeId} {l : List (List CV)} : vlen Tryz.prog H #[26] ty (.one (.c (.arr l))) = qa (vI .i64 l.length) := len_arr es26
@[simp] theorem lnl26 {H : Hp} {ty : TypeId} {id o n tot : Nat} : vlen Tryz.prog H #[26] ty (.one (.sl id o n tot)) = if lenIs H id tot = true then qa (vI .i64 n) else none := len_sl es26
@[simp] theorem iaa26 {H : Hp} {k : IntKind} {l : List (List CV)} {i : Int} : vindexAddr Tryz.prog H 26 (.one (.c (.arr l))) (vI k i) = if 0 ≤ i then (match l[i.toNat]? with | some x => if x.length = 3 then qa (.one (.c (.cptr x))) else none | none => none) else none := ia_arr es26 sz42
@[simp] theorem ial26 {H : Hp} {k : IntKind} {id o n tot : Nat} {i : Int} : vindexAddr Tryz.prog H 26 (.one (.sl id o n tot)) (vI k i) = if 0 ≤ i then (if i.toNat < n then (if elAt H id tot (o + i.toNat) = some 3 then qa (.one (.ptr ⟨id, o + i.toNat, 0, tot⟩)) else none) else none) else none := ia_sl es26 sz42
@[simp] theorem lna29 {H : Hp} {ty : TypeId} {l : List (List CV)} : vlen Tryz.prog H #[29] ty (.one (.c (.arr l))) = qa (vI .i64 l.length) := len_arr es29
@[simp] theorem lnl29 {H : Hp} {ty : TypeId} {id o n tot : Nat} : vlen Tryz.prog H #[29] ty (.one (.sl id o n tot)) = if lenIs H id tot = true then qa (vI .i64 n) else none := len_sl es29
@[simp] theorem iaa29 {H : Hp} {k : IntKind} {l : List (List CV)} {i : Int} : vindexAddr Tryz.prog H 29 (.one (.c (.arr l))) (vI k i) = if 0 ≤ i then (match l[i.toNat]? with | some x => if x.length = 2 then qa (.one (.c (.cptr x))) else none | none => none) else none := ia_arr es29 sz34
@[simp] theorem ial29 {H : Hp} {k : IntKind} {id o n tot : Nat} {i : Int} : vindexAddr Tryz.prog H 29 (.one (.sl id o n tot)) (vI k i) = if 0 ≤ i then (if i.toNat < n then (if elAt H id tot (o + i.toNat) = some 2 then qa (.one (.ptr ⟨id, o + i.toNat, 0, tot⟩)) else none) else none) else none := ia_sl es29 sz34
@[simp] theorem lna38 {H : Hp} {ty : TypeId} {l : List (List CV)} : vlen Tryz.prog H #[38] ty (.one (.c (.arr l))) = qa (vI .i64 l.length) := len_arr es38
@[simp] theorem lnl38 {H : Hp} {ty : TypeId} {id o n tot : Nat} : vlen Tryz.prog H #[38] ty (.one (.sl id o n tot)) = if lenIs H id tot = true then qa (vI .i64 n) else none := len_sl es38
@[simp] theorem iaa38 {H : Hp} {k : IntKind} {l : List (List CV)} {i : Int} : vindexAddr Tryz.prog H 38 (.one (.c (.arr l))) (vI k i) = if 0 ≤ i then (match l[i.toNat]? with | some x => if x.length = 1 then qa (.one (.c (.cptr x))) else none | none => none) else none := ia_arr es38 sz53
@[simp] theorem ial38 {H : Hp} {k : IntKind} {id o n tot : Nat} {i : Int} : vindexAddr Tryz.prog H 38 (.one (.sl id o n tot)) (vI k i) = if 0 ≤ i then (if i.toNat < n then (if elAt H id tot (o + i.toNat) = some 1 then qa (.one (.ptr ⟨id, o + i.toNat, 0, tot⟩)) else none) else none) else none := ia_sl es38 sz53
@[simp] theorem lna48 {H : Hp} {ty : TypeId} {l : List (List CV)} : vlen Tryz.prog H #[48] ty (.one (.c (.arr l))) = qa (vI .i64 l.length) := len_arr es48
@[simp] theorem lnl48 {H : Hp} {ty : TypeId} {id o n tot : Nat} : vlen Tryz.prog H #[48] ty (.one (.sl id o n tot)) = if lenIs H id tot = true then qa (vI .i64 n) else none := len_sl es48
@[simp] theorem iaa48 {H : Hp} {k : IntKind} {l : List (List CV)} {i : Int} : vindexAddr Tryz.prog H 48 (.one (.c (.arr l))) (vI k i) = if 0 ≤ i then (match l[i.toNat]? with | some x => if x.length = 3 then qa (.one (.c (.cptr x))) else none | none => none) else none := ia_arr es48 sz65
@[simp] theorem ial48 {H : Hp} {k : IntKind} {id o n tot : Nat} {i : Int} : vindexAddr Tryz.prog H 48 (.one (.sl id o n tot)) (vI k i) = if 0 ≤ i then (if i.toNat < n then (if elAt H id tot (o + i.toNat) = some 3 then qa (.one (.ptr ⟨id, o + i.toNat, 0, tot⟩)) else none) else none) else none := ia_sl es48 sz65
@[simp] theorem lna53 {H : Hp} {ty : TypeId} {l : List (List CV)} : vlen Tryz.prog H #[53] ty (.one (.c (.arr l))) = qa (vI .i64 l.length) := len_arr es53
@[simp] theorem lnl53 {H : Hp} {ty : TypeId} {id o n tot : Nat} : vlen Tryz.prog H #[53] ty (.one (.sl id o n tot)) = if lenIs H id tot = true then qa (vI .i64 n) else none := len_sl es53
@[simp] theorem iaa53 {H : Hp} {k : IntKind} {l : List (List CV)} {i : Int} : vindexAddr Tryz.prog H 53 (.one (.c (.arr l))) (vI k i) = if 0 ≤ i then (match l[i.toNat]? with | some x => if x.length = 1 then qa (.one (.c (.cptr x))) else none | none => none) else none := ia_arr es53 sz3
@[simp] theorem ial53 {H : Hp} {k : IntKind} {id o n tot : Nat} {i : Int} : vindexAddr Tryz.prog H 53 (.one (.sl id o n tot)) (vI k i) = if 0 ≤ i then (if i.toNat < n then (if elAt H id tot (o + i.toNat) = some 1 then qa (.one (.ptr ⟨id, o + i.toNat, 0, tot⟩)) else none) else none) else none := ia_sl es53 sz3
@[simp] theorem lna62 {H : Hp} {ty : TypeId} {l : List (List CV)} : vlen Tryz.prog H #[62] ty (.one (.c (.arr l))) = qa (vI .i64 l.length) := len_arr es62
@[simp] theorem lnl62 {H : Hp} {ty : TypeId} {id o n tot : Nat} : vlen Tryz.prog H #[62] ty (.one (.sl id o n tot)) = if lenIs H id tot = true then qa (vI .i64 n) else none := len_sl es62
@[simp] theorem iaa62 {H : Hp} {k : IntKind} {l : List (List CV)} {i : Int} : vindexAddr Tryz.prog H 62 (.one (.c (.arr l))) (vI k i) = if 0 ≤ i then (match l[i.toNat]? with | some x => if x.length = 2 then qa (.one (.c (.cptr x))) else none | none => none) else none := ia_arr es62 sz66
@[simp] theorem ial62 {H : Hp} {k : IntKind} {id o n tot : Nat} {i : Int} : vindexAddr Tryz.prog H 62 (.one (.sl id o n tot)) (vI k i) = if 0 ≤ i then (if i.toNat < n then (if elAt H id tot (o + i.toNat) = some 2 then qa (.one (.ptr ⟨id, o + i.toNat, 0, tot⟩)) else none) else none) else none := ia_sl es62 sz66
@[simp] theorem lna104 {H : Hp} {ty : TypeId} {l : List (List CV)} : vlen Tryz.prog H #[104] ty (.one (.c (.arr l))) = qa (vI .i64 l.length) := len_arr es104
@[simp] theorem lnl104 {H : Hp} {ty : TypeId} {id o n tot : Nat} : vlen Tryz.prog H #[104] ty (.one (.sl id o n tot)) = if lenIs H id tot = true then qa (vI .i64 n) else none := len_sl es104
@[simp] theorem iaa104 {H : Hp} {k : IntKind} {l : List (List CV)} {i : Int} : vindexAddr Tryz.prog H 104 (.one (.c (.arr l))) (vI k i) = if 0 ≤ i then (match l[i.toNat]? with | some x => if x.length = 1 then qa (.one (.c (.cptr x))) else none | none => none) else none := ia_arr es104 sz22
@[simp] theorem ial104 {H : Hp} {k : IntKind} {id o n tot : Nat} {i : Int} : vindexAddr Tryz.prog H 104 (.one (.sl id o n tot)) (vI k i) = if 0 ≤ i then (if i.toNat < n then (if elAt H id tot (o + i.toNat) = some 1 then qa (.one (.ptr ⟨id, o + i.toNat, 0, tot⟩)) else none) else none) else none := ia_sl es104 sz22
@[simp] theorem lna129 {H : Hp} {ty : TypeId} {l : List (List CV)} : vlen Tryz.prog H #[129] ty (.one (.c (.arr l))) = qa (vI .i64 l.length) := len_arr es129
@[simp] theorem lnl129 {H : Hp} {ty : TypeId} {id o n tot : Nat} : vlen Tryz.prog H #[129] ty (.one (.sl id o n tot)) = if lenIs H id tot = true then qa (vI .i64 n) else none := len_sl es129
@[simp] theorem iaa129 {H : Hp} {k : IntKind} {l : List (List CV)} {i : Int} : vindexAddr Tryz.prog H 129 (.one (.c (.arr l))) (vI k i) = if 0 ≤ i then (match l[i.toNat]? with | some x => if x.length = 1 then qa (.one (.c (.cptr x))) else none | none => none) else none := ia_arr es129 sz5
@[simp] theorem ial129 {H : Hp} {k : IntKind} {id o n tot : Nat} {i : Int} : vindexAddr Tryz.prog H 129 (.one (.sl id o n tot)) (vI k i) = if 0 ≤ i then (if i.toNat < n then (if elAt H id tot (o + i.toNat) = some 1 then qa (.one (.ptr ⟨id, o + i.toNat, 0, tot⟩)) else none) else none) else none := ia_sl es129 sz5
theorem mixed : Tryz.prog.follows .mixedOrders = true := by kernel_rfl
theorem ok3 : FnOk Tryz.prog 3 := ⟨Tryz.f3, Tryz.func3, by kernel_rfl, by kernel_rfl⟩ -- rillmeter/rillmeterlaw18.UnivAlone
theorem ok4 : FnOk Tryz.prog 4 := ⟨Tryz.f4, Tryz.func4, by kernel_rfl, by kernel_rfl⟩ -- rillmeter/rillmeterlaw18.UnivNews
theorem ok5 : FnOk Tryz.prog 5 := ⟨Tryz.f5, Tryz.func5, by kernel_rfl, by kernel_rfl⟩ -- rillmeter/rillmeterlaw18.UnivSums
theorem ok6 : FnOk Tryz.prog 6 := ⟨Tryz.f6, Tryz.func6, by kernel_rfl, by kernel_rfl⟩ -- rillmeter/rillmeterlaw18.UnivTurns
theorem ok7 : FnOk Tryz.prog 7 := ⟨Tryz.f7, Tryz.func7, by kernel_rfl, by kernel_rfl⟩ -- rillmeter/rillmeterlaw18.fed
theorem ok8 : FnOk Tryz.prog 8 := ⟨Tryz.f8, Tryz.func8, by kernel_rfl, by kernel_rfl⟩ -- rillmeter/rillmeterlaw18.awake
theorem ok9 : FnOk Tryz.prog 9 := ⟨Tryz.f9, Tryz.func9, by kernel_rfl, by kernel_rfl⟩ -- rillmeter/rillmeterref02.Row
theorem ok10 : FnOk Tryz.prog 10 := ⟨Tryz.f10, Tryz.func10, by kernel_rfl, by kernel_rfl⟩ -- rillmeter/rillmeterref12.Cell
theorem ok11 : FnOk Tryz.prog 11 := ⟨Tryz.f11, Tryz.func11, by kernel_rfl, by kernel_rfl⟩ -- rillmeter/rillmeterref02.Level
theorem ok12 : FnOk Tryz.prog 12 := ⟨Tryz.f12, Tryz.func12, by kernel_rfl, by kernel_rfl⟩ -- rillmeter/univ.New
theorem ok13 : FnOk Tryz.prog 13 := ⟨Tryz.f13, Tryz.func13, by kernel_rfl, by kernel_rfl⟩ -- rillmeter/rillmeterref18.Right
theorem ok14 : FnOk Tryz.prog 14 := ⟨Tryz.f14, Tryz.func14, by kernel_rfl, by kernel_rfl⟩ -- rillmeter/rillmeterlaw18.ref
theorem ok15 : FnOk Tryz.prog 15 := ⟨Tryz.f15, Tryz.func15, by kernel_rfl, by kernel_rfl⟩ -- rillmeter/univ.Sum
theorem ok16 : FnOk Tryz.prog 16 := ⟨Tryz.f16, Tryz.func16, by kernel_rfl, by kernel_rfl⟩ -- rillmeter/univ.Count
theorem ok17 : FnOk Tryz.prog 17 := ⟨Tryz.f17, Tryz.func17, by kernel_rfl, by kernel_rfl⟩ -- rillmeter/rillmeterref18.Small
theorem ok18 : FnOk Tryz.prog 18 := ⟨Tryz.f18, Tryz.func18, by kernel_rfl, by kernel_rfl⟩ -- rillmeter/univ.Add
theorem ok19 : FnOk Tryz.prog 19 := ⟨Tryz.f19, Tryz.func19, by kernel_rfl, by kernel_rfl⟩ -- rillmeter/univ.Get
theorem ok20 : FnOk Tryz.prog 20 := ⟨Tryz.f20, Tryz.func20, by kernel_rfl, by kernel_rfl⟩ -- rillmeter/univ.List
theorem ok21 : FnOk Tryz.prog 21 := ⟨Tryz.f21, Tryz.func21, by kernel_rfl, by kernel_rfl⟩ -- rillmeter/univ.Right
theorem ok22 : FnOk Tryz.prog 22 := ⟨Tryz.f22, Tryz.func22, by kernel_rfl, by kernel_rfl⟩ -- rillmeter/rillmeterref18.Sum
theorem ok23 : FnOk Tryz.prog 23 := ⟨Tryz.f23, Tryz.func23, by kernel_rfl, by kernel_rfl⟩ -- rillmeter/rillmeterref12.Get
theorem ok24 : FnOk Tryz.prog 24 := ⟨Tryz.f24, Tryz.func24, by kernel_rfl, by kernel_rfl⟩ -- rillmeter/rillmeterref18.Same
theorem ok25 : FnOk Tryz.prog 25 := ⟨Tryz.f25, Tryz.func25, by kernel_rfl, by kernel_rfl⟩ -- rillmeter/rillmeterlaw18.items
theorem ok26 : FnOk Tryz.prog 26 := ⟨Tryz.f26, Tryz.func26, by kernel_rfl, by kernel_rfl⟩ -- rillmeter/rillmeterref18.Add
theorem ok27 : FnOk Tryz.prog 27 := ⟨Tryz.f27, Tryz.func27, by kernel_rfl, by kernel_rfl⟩ -- rillmeter/rillmeterref18.Equal
theorem ok28 : FnOk Tryz.prog 28 := ⟨Tryz.f28, Tryz.func28, by kernel_rfl, by kernel_rfl⟩ -- rillmeter/rillmeterref10.Short
theorem ok29 : FnOk Tryz.prog 29 := ⟨Tryz.f29, Tryz.func29, by kernel_rfl, by kernel_rfl⟩ -- rillmeter/univ.Log
theorem ok30 : FnOk Tryz.prog 30 := ⟨Tryz.f30, Tryz.func30, by kernel_rfl, by kernel_rfl⟩ -- rillmeter/rillmeterref01.Mul
theorem ok31 : FnOk Tryz.prog 31 := ⟨Tryz.f31, Tryz.func31, by kernel_rfl, by kernel_rfl⟩ -- rillmeter/rillmeterref01.Add
theorem ok32 : FnOk Tryz.prog 32 := ⟨Tryz.f32, Tryz.func32, by kernel_rfl, by kernel_rfl⟩ -- rillmeter/rillmeterref01.Pow
theorem ok33 : FnOk Tryz.prog 33 := ⟨Tryz.f33, Tryz.func33, by kernel_rfl, by kernel_rfl⟩ -- rillmeter/rillmeterref02.Cell
theorem ok34 : FnOk Tryz.prog 34 := ⟨Tryz.f34, Tryz.func34, by kernel_rfl, by kernel_rfl⟩ -- rillmeter/rillmeterref02.Sum
theorem ok35 : FnOk Tryz.prog 35 := ⟨Tryz.f35, Tryz.func35, by kernel_rfl, by kernel_rfl⟩ -- rillmeter/signed.New
theorem ok36 : FnOk Tryz.prog 36 := ⟨Tryz.f36, Tryz.func36, by kernel_rfl, by kernel_rfl⟩ -- rillmeter/hash.Row
theorem ok37 : FnOk Tryz.prog 37 := ⟨Tryz.f37, Tryz.func37, by kernel_rfl, by kernel_rfl⟩ -- rillmeter/rillmeterref12.Right
theorem ok38 : FnOk Tryz.prog 38 := ⟨Tryz.f38, Tryz.func38, by kernel_rfl, by kernel_rfl⟩ -- rillmeter/rillmeterref14.Ahead
theorem ok39 : FnOk Tryz.prog 39 := ⟨Tryz.f39, Tryz.func39, by kernel_rfl, by kernel_rfl⟩ -- rillmeter/rillmeterref14.Without
theorem ok40 : FnOk Tryz.prog 40 := ⟨Tryz.f40, Tryz.func40, by kernel_rfl, by kernel_rfl⟩ -- rillmeter/univ.level
theorem ok41 : FnOk Tryz.prog 41 := ⟨Tryz.f41, Tryz.func41, by kernel_rfl, by kernel_rfl⟩ -- slices.Clone[[]rillmeter/univ.Level,rillmeter/univ.Level]
theorem ok42 : FnOk Tryz.prog 42 := ⟨Tryz.f42, Tryz.func42, by kernel_rfl, by kernel_rfl⟩ -- rillmeter/signed.Add
theorem ok43 : FnOk Tryz.prog 43 := ⟨Tryz.f43, Tryz.func43, by kernel_rfl, by kernel_rfl⟩ -- rillmeter/heavy.Of
theorem ok44 : FnOk Tryz.prog 44 := ⟨Tryz.f44, Tryz.func44, by kernel_rfl, by kernel_rfl⟩ -- (*rillmeter/heavy.Heap).Offer
theorem ok45 : FnOk Tryz.prog 45 := ⟨Tryz.f45, Tryz.func45, by kernel_rfl, by kernel_rfl⟩ -- rillmeter/signed.Get
theorem ok46 : FnOk Tryz.prog 46 := ⟨Tryz.f46, Tryz.func46, by kernel_rfl, by kernel_rfl⟩ -- (*rillmeter/heavy.Heap).List
theorem ok47 : FnOk Tryz.prog 47 := ⟨Tryz.f47, Tryz.func47, by kernel_rfl, by kernel_rfl⟩ -- slices.DeleteFunc[[]rillmeter/heavy.Item,rillmeter/heavy.Item]
theorem ok48 : FnOk Tryz.prog 48 := ⟨Tryz.f48, Tryz.func48, by kernel_rfl, by kernel_rfl⟩ -- slices.Clone[[]rillmeter/heavy.Item,rillmeter/heavy.Item]
theorem ok49 : FnOk Tryz.prog 49 := ⟨Tryz.f49, Tryz.func49, by kernel_rfl, by kernel_rfl⟩ -- rillmeter/univ.List$1
theorem ok50 : FnOk Tryz.prog 50 := ⟨Tryz.f50, Tryz.func50, by kernel_rfl, by kernel_rfl⟩ -- rillmeter/signed.Right
theorem ok51 : FnOk Tryz.prog 51 := ⟨Tryz.f51, Tryz.func51, by kernel_rfl, by kernel_rfl⟩ -- rillmeter/univ.top
theorem ok52 : FnOk Tryz.prog 52 := ⟨Tryz.f52, Tryz.func52, by kernel_rfl, by kernel_rfl⟩ -- rillmeter/rillmeterref18.level
theorem ok53 : FnOk Tryz.prog 53 := ⟨Tryz.f53, Tryz.func53, by kernel_rfl, by kernel_rfl⟩ -- rillmeter/rillmeterref18.Count
theorem ok54 : FnOk Tryz.prog 54 := ⟨Tryz.f54, Tryz.func54, by kernel_rfl, by kernel_rfl⟩ -- rillmeter/rillmeterref12.Sign
theorem ok55 : FnOk Tryz.prog 55 := ⟨Tryz.f55, Tryz.func55, by kernel_rfl, by kernel_rfl⟩ -- rillmeter/rillmeterref12.Add
theorem ok56 : FnOk Tryz.prog 56 := ⟨Tryz.f56, Tryz.func56, by kernel_rfl, by kernel_rfl⟩ -- rillmeter/rillmeterref14.Offer
theorem ok57 : FnOk Tryz.prog 57 := ⟨Tryz.f57, Tryz.func57, by kernel_rfl, by kernel_rfl⟩ -- rillmeter/rillmeterref12.Equal
theorem ok58 : FnOk Tryz.prog 58 := ⟨Tryz.f58, Tryz.func58, by kernel_rfl, by kernel_rfl⟩ -- math/bits.Len
theorem ok59 : FnOk Tryz.prog 59 := ⟨Tryz.f59, Tryz.func59, by kernel_rfl, by kernel_rfl⟩ -- rillmeter/rillmeterref01.Of
theorem ok60 : FnOk Tryz.prog 60 := ⟨Tryz.f60, Tryz.func60, by kernel_rfl, by kernel_rfl⟩ -- rillmeter/rillmeterref02.words
theorem ok61 : FnOk Tryz.prog 61 := ⟨Tryz.f61, Tryz.func61, by kernel_rfl, by kernel_rfl⟩ -- rillmeter/field.Add
theorem ok62 : FnOk Tryz.prog 62 := ⟨Tryz.f62, Tryz.func62, by kernel_rfl, by kernel_rfl⟩ -- rillmeter/field.Mul
theorem ok63 : FnOk Tryz.prog 63 := ⟨Tryz.f63, Tryz.func63, by kernel_rfl, by kernel_rfl⟩ -- rillmeter/rillmeterref12.Fits
theorem ok64 : FnOk Tryz.prog 64 := ⟨Tryz.f64, Tryz.func64, by kernel_rfl, by kernel_rfl⟩ -- rillmeter/hash.Level
theorem ok65 : FnOk Tryz.prog 65 := ⟨Tryz.f65, Tryz.func65, by kernel_rfl, by kernel_rfl⟩ -- rillmeter/signed.fits
theorem ok66 : FnOk Tryz.prog 66 := ⟨Tryz.f66, Tryz.func66, by kernel_rfl, by kernel_rfl⟩ -- rillmeter/signed.clone
theorem ok67 : FnOk Tryz.prog 67 := ⟨Tryz.f67, Tryz.func67, by kernel_rfl, by kernel_rfl⟩ -- rillmeter/signed.place
theorem ok68 : FnOk Tryz.prog 68 := ⟨Tryz.f68, Tryz.func68, by kernel_rfl, by kernel_rfl⟩ -- rillmeter/heavy.New
theorem ok69 : FnOk Tryz.prog 69 := ⟨Tryz.f69, Tryz.func69, by kernel_rfl, by kernel_rfl⟩ -- (*rillmeter/heavy.Heap).down
theorem ok70 : FnOk Tryz.prog 70 := ⟨Tryz.f70, Tryz.func70, by kernel_rfl, by kernel_rfl⟩ -- (*rillmeter/heavy.Heap).up
theorem ok71 : FnOk Tryz.prog 71 := ⟨Tryz.f71, Tryz.func71, by kernel_rfl, by kernel_rfl⟩ -- slices.Sort[[]int,int]
theorem ok72 : FnOk Tryz.prog 72 := ⟨Tryz.f72, Tryz.func72, by kernel_rfl, by kernel_rfl⟩ -- slices.SortFunc[[]rillmeter/heavy.Item,rillmeter/heavy.Item]
theorem ok73 : FnOk Tryz.prog 73 := ⟨Tryz.f73, Tryz.func73, by kernel_rfl, by kernel_rfl⟩ -- rillmeter/heavy.order
theorem ok74 : FnOk Tryz.prog 74 := ⟨Tryz.f74, Tryz.func74, by kernel_rfl, by kernel_rfl⟩ -- slices.IndexFunc[[]rillmeter/heavy.Item,rillmeter/heavy.Item]
theorem ok75 : FnOk Tryz.prog 75 := ⟨Tryz.f75, Tryz.func75, by kernel_rfl, by kernel_rfl⟩ -- slices.ContainsFunc[[][]int,[]int]
theorem ok76 : FnOk Tryz.prog 76 := ⟨Tryz.f76, Tryz.func76, by kernel_rfl, by kernel_rfl⟩ -- rillmeter/signed.Right$1
theorem ok77 : FnOk Tryz.prog 77 := ⟨Tryz.f77, Tryz.func77, by kernel_rfl, by kernel_rfl⟩ -- slices.ContainsFunc[[]int,int]
theorem ok78 : FnOk Tryz.prog 78 := ⟨Tryz.f78, Tryz.func78, by kernel_rfl, by kernel_rfl⟩ -- rillmeter/signed.Right$1$1
theorem ok79 : FnOk Tryz.prog 79 := ⟨Tryz.f79, Tryz.func79, by kernel_rfl, by kernel_rfl⟩ -- rillmeter/univ.stands
theorem ok80 : FnOk Tryz.prog 80 := ⟨Tryz.f80, Tryz.func80, by kernel_rfl, by kernel_rfl⟩ -- rillmeter/univ.top$1
theorem ok81 : FnOk Tryz.prog 81 := ⟨Tryz.f81, Tryz.func81, by kernel_rfl, by kernel_rfl⟩ -- rillmeter/rillmeterref18.Log
theorem ok82 : FnOk Tryz.prog 82 := ⟨Tryz.f82, Tryz.func82, by kernel_rfl, by kernel_rfl⟩ -- rillmeter/rillmeterref02.Sign
theorem ok83 : FnOk Tryz.prog 83 := ⟨Tryz.f83, Tryz.func83, by kernel_rfl, by kernel_rfl⟩ -- rillmeter/rillmeterref14.Put
theorem ok84 : FnOk Tryz.prog 84 := ⟨Tryz.f84, Tryz.func84, by kernel_rfl, by kernel_rfl⟩ -- rillmeter/rillmeterref11.SameRows
theorem ok85 : FnOk Tryz.prog 85 := ⟨Tryz.f85, Tryz.func85, by kernel_rfl, by kernel_rfl⟩ -- math/bits.Len32
theorem ok86 : FnOk Tryz.prog 86 := ⟨Tryz.f86, Tryz.func86, by kernel_rfl, by kernel_rfl⟩ -- math/bits.Len64
theorem ok87 : FnOk Tryz.prog 87 := ⟨Tryz.f87, Tryz.func87, by kernel_rfl, by kernel_rfl⟩ -- rillmeter/field.Of
theorem ok88 : FnOk Tryz.prog 88 := ⟨Tryz.f88, Tryz.func88, by kernel_rfl, by kernel_rfl⟩ -- math/bits.Mul64
theorem ok89 : FnOk Tryz.prog 89 := ⟨Tryz.f89, Tryz.func89, by kernel_rfl, by kernel_rfl⟩ -- rillmeter/hash.Sum
theorem ok90 : FnOk Tryz.prog 90 := ⟨Tryz.f90, Tryz.func90, by kernel_rfl, by kernel_rfl⟩ -- math/bits.TrailingZeros64
theorem ok91 : FnOk Tryz.prog 91 := ⟨Tryz.f91, Tryz.func91, by kernel_rfl, by kernel_rfl⟩ -- slices.Clone[[]int,int]
theorem ok92 : FnOk Tryz.prog 92 := ⟨Tryz.f92, Tryz.func92, by kernel_rfl, by kernel_rfl⟩ -- rillmeter/hash.Cell
theorem ok93 : FnOk Tryz.prog 93 := ⟨Tryz.f93, Tryz.func93, by kernel_rfl, by kernel_rfl⟩ -- rillmeter/hash.Sign
theorem ok94 : FnOk Tryz.prog 94 := ⟨Tryz.f94, Tryz.func94, by kernel_rfl, by kernel_rfl⟩ -- (*rillmeter/heavy.Heap).above
theorem ok95 : FnOk Tryz.prog 95 := ⟨Tryz.f95, Tryz.func95, by kernel_rfl, by kernel_rfl⟩ -- (*rillmeter/heavy.Heap).swap
theorem ok96 : FnOk Tryz.prog 96 := ⟨Tryz.f96, Tryz.func96, by kernel_rfl, by kernel_rfl⟩ -- slices.pdqsortOrdered[int]
theorem ok97 : FnOk Tryz.prog 97 := ⟨Tryz.f97, Tryz.func97, by kernel_rfl, by kernel_rfl⟩ -- slices.pdqsortCmpFunc[rillmeter/heavy.Item]
theorem ok98 : FnOk Tryz.prog 98 := ⟨Tryz.f98, Tryz.func98, by kernel_rfl, by kernel_rfl⟩ -- cmp.Or[int]
theorem ok99 : FnOk Tryz.prog 99 := ⟨Tryz.f99, Tryz.func99, by kernel_rfl, by kernel_rfl⟩ -- cmp.Compare[int]
theorem ok100 : FnOk Tryz.prog 100 := ⟨Tryz.f100, Tryz.func100, by kernel_rfl, by kernel_rfl⟩ -- strings.Compare
theorem ok101 : FnOk Tryz.prog 101 := ⟨Tryz.f101, Tryz.func101, by kernel_rfl, by kernel_rfl⟩ -- slices.IndexFunc[[][]int,[]int]
theorem ok102 : FnOk Tryz.prog 102 := ⟨Tryz.f102, Tryz.func102, by kernel_rfl, by kernel_rfl⟩ -- slices.IndexFunc[[]int,int]
theorem ok103 : FnOk Tryz.prog 103 := ⟨Tryz.f103, Tryz.func103, by kernel_rfl, by kernel_rfl⟩ -- rillmeter/field.Pow
theorem ok104 : FnOk Tryz.prog 104 := ⟨Tryz.f104, Tryz.func104, by kernel_rfl, by kernel_rfl⟩ -- slices.insertionSortOrdered[int]
theorem ok105 : FnOk Tryz.prog 105 := ⟨Tryz.f105, Tryz.func105, by kernel_rfl, by kernel_rfl⟩ -- slices.heapSortOrdered[int]
theorem ok106 : FnOk Tryz.prog 106 := ⟨Tryz.f106, Tryz.func106, by kernel_rfl, by kernel_rfl⟩ -- slices.breakPatternsOrdered[int]
theorem ok107 : FnOk Tryz.prog 107 := ⟨Tryz.f107, Tryz.func107, by kernel_rfl, by kernel_rfl⟩ -- slices.choosePivotOrdered[int]
theorem ok108 : FnOk Tryz.prog 108 := ⟨Tryz.f108, Tryz.func108, by kernel_rfl, by kernel_rfl⟩ -- slices.reverseRangeOrdered[int]
theorem ok109 : FnOk Tryz.prog 109 := ⟨Tryz.f109, Tryz.func109, by kernel_rfl, by kernel_rfl⟩ -- slices.partialInsertionSortOrdered[int]
theorem ok110 : FnOk Tryz.prog 110 := ⟨Tryz.f110, Tryz.func110, by kernel_rfl, by kernel_rfl⟩ -- cmp.Less[int]
theorem ok111 : FnOk Tryz.prog 111 := ⟨Tryz.f111, Tryz.func111, by kernel_rfl, by kernel_rfl⟩ -- slices.partitionEqualOrdered[int]
theorem ok112 : FnOk Tryz.prog 112 := ⟨Tryz.f112, Tryz.func112, by kernel_rfl, by kernel_rfl⟩ -- slices.partitionOrdered[int]
theorem ok113 : FnOk Tryz.prog 113 := ⟨Tryz.f113, Tryz.func113, by kernel_rfl, by kernel_rfl⟩ -- slices.insertionSortCmpFunc[rillmeter/heavy.Item]
theorem ok114 : FnOk Tryz.prog 114 := ⟨Tryz.f114, Tryz.func114, by kernel_rfl, by kernel_rfl⟩ -- slices.heapSortCmpFunc[rillmeter/heavy.Item]
theorem ok115 : FnOk Tryz.prog 115 := ⟨Tryz.f115, Tryz.func115, by kernel_rfl, by kernel_rfl⟩ -- slices.breakPatternsCmpFunc[rillmeter/heavy.Item]
theorem ok116 : FnOk Tryz.prog 116 := ⟨Tryz.f116, Tryz.func116, by kernel_rfl, by kernel_rfl⟩ -- slices.choosePivotCmpFunc[rillmeter/heavy.Item]
theorem ok117 : FnOk Tryz.prog 117 := ⟨Tryz.f117, Tryz.func117, by kernel_rfl, by kernel_rfl⟩ -- slices.reverseRangeCmpFunc[rillmeter/heavy.Item]
theorem ok118 : FnOk Tryz.prog 118 := ⟨Tryz.f118, Tryz.func118, by kernel_rfl, by kernel_rfl⟩ -- slices.partialInsertionSortCmpFunc[rillmeter/heavy.Item]
theorem ok119 : FnOk Tryz.prog 119 := ⟨Tryz.f119, Tryz.func119, by kernel_rfl, by kernel_rfl⟩ -- slices.partitionEqualCmpFunc[rillmeter/heavy.Item]
theorem ok120 : FnOk Tryz.prog 120 := ⟨Tryz.f120, Tryz.func120, by kernel_rfl, by kernel_rfl⟩ -- slices.partitionCmpFunc[rillmeter/heavy.Item]
theorem ok121 : FnOk Tryz.prog 121 := ⟨Tryz.f121, Tryz.func121, by kernel_rfl, by kernel_rfl⟩ -- cmp.isNaN[int]
theorem ok122 : FnOk Tryz.prog 122 := ⟨Tryz.f122, Tryz.func122, by kernel_rfl, by kernel_rfl⟩ -- internal/bytealg.CompareString
theorem ok123 : FnOk Tryz.prog 123 := ⟨Tryz.f123, Tryz.func123, by kernel_rfl, by kernel_rfl⟩ -- slices.siftDownOrdered[int]
theorem ok124 : FnOk Tryz.prog 124 := ⟨Tryz.f124, Tryz.func124, by kernel_rfl, by kernel_rfl⟩ -- slices.nextPowerOfTwo
theorem ok125 : FnOk Tryz.prog 125 := ⟨Tryz.f125, Tryz.func125, by kernel_rfl, by kernel_rfl⟩ -- (*slices.xorshift).Next
theorem ok126 : FnOk Tryz.prog 126 := ⟨Tryz.f126, Tryz.func126, by kernel_rfl, by kernel_rfl⟩ -- slices.medianAdjacentOrdered[int]
theorem ok127 : FnOk Tryz.prog 127 := ⟨Tryz.f127, Tryz.func127, by kernel_rfl, by kernel_rfl⟩ -- slices.medianOrdered[int]
theorem ok128 : FnOk Tryz.prog 128 := ⟨Tryz.f128, Tryz.func128, by kernel_rfl, by kernel_rfl⟩ -- slices.siftDownCmpFunc[rillmeter/heavy.Item]
theorem ok129 : FnOk Tryz.prog 129 := ⟨Tryz.f129, Tryz.func129, by kernel_rfl, by kernel_rfl⟩ -- slices.medianAdjacentCmpFunc[rillmeter/heavy.Item]
theorem ok130 : FnOk Tryz.prog 130 := ⟨Tryz.f130, Tryz.func130, by kernel_rfl, by kernel_rfl⟩ -- slices.medianCmpFunc[rillmeter/heavy.Item]
theorem ok132 : FnOk Tryz.prog 132 := ⟨Tryz.f132, Tryz.func132, by kernel_rfl, by kernel_rfl⟩ -- slices.order2Ordered[int]
theorem ok133 : FnOk Tryz.prog 133 := ⟨Tryz.f133, Tryz.func133, by kernel_rfl, by kernel_rfl⟩ -- slices.order2CmpFunc[rillmeter/heavy.Item]
end Go.Proofs.YtngpmpmhpggpgaaGreatDoorF
end

section
/- Sorting in place, from the shelf's contract. -/
namespace Go.Proofs.Vm
open Go

variable {P : Program}

def SortsInt (P : Program) (g : FuncId) : Prop := ∀ (blk off cap : Nat) (zs : List Int) (w : World), Sort.Holds (Value.int .i64) w blk off zs.toArray → blk < w.heap.size → zs.length < 4611686018427387904 →
  Calls P g #[.slice (some ⟨blk, off, none⟩) zs.length cap] w fun e w' => e = .returned (.tuple #[]) ∧ ∃ n os, w' = Sort.grow (Sort.putRow (Value.int .i64) (Sort.ahead w n) blk off (zs.mergeSort fun x y => decide (x ≤ y)).toArray) os
def SortsNone (P : Program) (g : FuncId) : Prop := ∀ (p : Option Addr) (cap : Nat) (w : World), Calls P g #[.slice p 0 cap] w fun e w' => e = .returned (.tuple #[]) ∧ w' = w

theorem mapO_int_inv : ∀ {l : List (List CV)} {xs : List Int}, mapO intOf l = some xs → l = xs.map cInt
  | [], xs, h => by cases h; rfl
  | e :: l, xs, h => by
    simp only [mapO] at h
    split at h
    · rename_i y m h1 h2
      cases h
      rw [List.map_cons, mapO_int_inv h2]
      congr 1
      unfold intOf at h1
      split at h1
      · cases h1; rfl
      · cases h1
    · cases h

theorem sortTab_ok {g : FuncId} (hnc : isCl P g = false) (hf : FnOk P g) (h1 : SortsInt P g) (h2 : SortsNone P g) : TOk P (sortTab g) := by
  refine ⟨fun f args r h => (by cases h), fun f args H r H' h => ?_⟩
  simp only [sortTab] at h
  split at h
  case isFalse => cases h
  rename_i hfg
  subst hfg
  unfold sortRun at h
  split at h
  case h_2 => cases h
  rename_i id n tot
  split at h
  case h_2 => cases h
  rename_i l hl
  split at h
  case h_2 => cases h
  rename_i xs hxs
  split at h
  case isFalse => cases h
  rename_i hc
  obtain ⟨rfl, hlt, hsz⟩ := hc
  cases h
  have hlx := mapO_int_inv hxs
  have hxl : xs.length = n := by rw [← hlt, hlx, List.length_map]
  refine ⟨⟨by simp, fun h => by rw [hnc] at h; cases h⟩, hf, ?_⟩
  intro X S M hX hD vals hv
  subst hX
  have hv1 : vals.length = 1 := by rw [← hv.1]; rfl
  match vals, hv1 with
  | [v], _ =>
  have hr : RCell X (.sl id 0 n n) v := hv.2 0 _ v rfl rfl
  obtain ⟨_, hd, e0, he0, _, _, hp⟩ := hr
  rw [hl] at he0
  cases he0
  obtain ⟨ad, cap, rfl, hcap, hne, _⟩ := hp hlt
  have hent := S.ent _ _ hd hl
  have hlen' : (xs.mergeSort fun x y => decide (x ≤ y)).length = xs.length := List.length_mergeSort _
  have hylen : ((xs.mergeSort fun x y => decide (x ≤ y)).map cInt).length = l.length := by rw [List.length_map, hlen', hlx, List.length_map]
  by_cases h0 : n = 0
  · subst h0
    have hxe : xs = [] := List.length_eq_zero_iff.1 hxl
    subst hxe
    refine (h2 ad cap X.w).mono fun e w' hh => ?_
    obtain ⟨rfl, rfl⟩ := hh
    refine ⟨_, X, rfl, rfl, .refl S M, ?_, fun id => by rw [hD]; simp, ⟨[], rfl, rfl, fun j p y hp => by simp at hp⟩⟩
    rw [List.mergeSort_nil]
    simp only [List.map_nil] at hlx ⊢
    rw [hlx] at hl
    exact (set_same hl).symm
  · obtain ⟨b, hb, rfl⟩ := hne h0
    rcases hent.2 with ⟨h3, _⟩ | ⟨b', c, ty, fr, g1, g2, g3, g4, g5, g6, g7, g8, g9, g10⟩
    · exact absurd (hlt.symm.trans h3) h0
    rw [hb] at g1
    cases g1
    have hsz1 : (X.σ id).sz = 1 := by
      cases l with
      | nil => exact absurd hlt.symm h0
      | cons e l =>
        have := hent.1 e List.mem_cons_self
        cases xs with
        | nil => simp at hlx
        | cons x xs =>
          rw [List.map_cons] at hlx
          cases hlx
          exact this.symm
    rw [hsz1] at g5 g10
    have hblk := S.blk M id b hd hb
    have hcell : ∀ j, ∀ hj : j < xs.length, c[j]? = some (.int .i64 xs[j]) := by
      intro j hj
      obtain ⟨v, h3, e, x, h4, h5, h6⟩ := g10 j 0 (by omega) (by omega)
      rw [hlx, List.getElem?_map, List.getElem?_eq_getElem hj] at h4
      cases h4
      cases h5
      cases h6
      rw [← h3, Nat.mul_one, Nat.add_zero]
    have hH : Sort.Holds (Value.int .i64) X.w b 0 xs.toArray := by
      intro j hj
      have hj : j < xs.length := by simpa using hj
      refine ⟨?_, g4 _ ?_⟩
      · unfold World.cell?
        simp only [g3]
        rw [if_neg (by simp), Nat.zero_add, hcell j hj]
        simp [hj]
      · have := (Array.getElem?_eq_some_iff.1 (hcell j hj)).1
        omega
    rw [Nat.zero_mul, ← hxl]
    refine (h1 b 0 cap xs X.w hH hblk.1 (by omega)).mono fun e w' hh => ?_
    obtain ⟨rfl, m, os, rfl⟩ := hh
    generalize hys : (xs.mergeSort fun x y => decide (x ≤ y)) = ys at hlen' hylen
    let w' := Sort.grow (Sort.putRow (Value.int .i64) (Sort.ahead X.w m) b 0 ys.toArray) os
    have hms : (X.w.heap.modify b (Sort.onCells (Sort.putCells (Value.int .i64) 0 ys.toArray))).size = X.w.heap.size := by simp
    have hheap : ∀ k, k < X.w.heap.size → w'.heap[k]? = (X.w.heap.modify b (Sort.onCells (Sort.putCells (Value.int .i64) 0 ys.toArray)))[k]? := by
      intro k hk
      show (X.w.heap.modify b _ ++ os)[k]? = _
      rw [Array.getElem?_append_left (by simpa using hk)]
    have hself : w'.heap[b]? = some (.cells (Sort.putCells (Value.int .i64) 0 ys.toArray c) ty fr) := by
      rw [hheap b hblk.1, Array.getElem?_modify, if_pos rfl, g3]
      rfl
    have hoth : ∀ k, k < X.w.heap.size → k ≠ b → w'.heap[k]? = X.w.heap[k]? := by
      intro k hk hkb
      rw [hheap k hk, Array.getElem?_modify, if_neg (fun e => hkb e.symm)]
    let Y : Cx := { X with H := X.H.set id (.clo (ys.map cInt) false), w := w' }
    have W : Wrote X Y id := ⟨rfl, rfl, fun _ => Iff.rfl, fun _ _ _ => rfl, rfl, fun i hi => set_get hi, by
      show X.w.heap.size ≤ (X.w.heap.modify b _ ++ os).size
      rw [Array.size_append, hms]
      exact Nat.le_add_right _ _, fun k hk hkb => hoth k hk (hkb b hb), ⟨_, _, hl, set_self hl, by simp only [Ent.len]; omega, fun _ => rfl, fun l h => by cases h⟩, hd, ⟨⟨rfl, rfl⟩, rfl, Nat.le_add_right _ _⟩, fun k hk => by rw [hb] at hk; cases hk; exact g9 rfl⟩
    have SY : SR Y := W.sr S M (fun e h => by
      have : Y.H[id]? = some (.clo (ys.map cInt) false) := set_self hl
      rw [this] at h
      cases h
      refine ⟨fun e he => ?_, .inr ⟨b, _, ty, fr, hb, g2, hself, fun o ho => ?_, ?_, by rw [hylen]; exact g6, g7, (fun h => by cases h), g9, fun i j hi hj => ?_⟩⟩
      · obtain ⟨y, _, rfl⟩ := List.mem_map.1 he
        show 1 = (X.σ id).sz
        rw [hsz1]
      · have := g4 o (by simpa [Sort.putCells] using ho)
        unfold World.frozen? at this ⊢
        rw [g3] at this
        rw [hself]
        exact this
      · show (Sort.putCells (Value.int .i64) 0 ys.toArray c).size = (X.σ id).cap * (X.σ id).sz
        rw [hsz1, ← g5]
        simp [Sort.putCells]
      · have hj : j < (X.σ id).sz := hj
        rw [hsz1] at hj
        have hi' : i < ys.length := by simpa using hi
        have hic : i < c.size := by rw [g5]; have := g6.2; rw [hylen] at hi; omega
        refine ⟨.int .i64 ys[i], ?_, cInt ys[i], .v (.int .i64 ys[i]), by rw [List.getElem?_map, List.getElem?_eq_getElem hi']; rfl, by rw [show j = 0 by omega]; rfl, .v _ rfl⟩
        show (Sort.putCells (Value.int .i64) 0 ys.toArray c)[i * (X.σ id).sz + j]? = _
        rw [hsz1, show i * 1 + j = i by omega, Sort.putCells, Array.getElem?_mapIdx, Array.getElem?_eq_getElem hic, Option.map_some, if_pos ⟨Nat.zero_le _, by simpa using hi'⟩]
        simp [hi']) (fun b' h => .inl h)
    exact ⟨_, Y, rfl, rfl, W.nxt S M SY, rfl, fun id => by rw [show Y.D = X.D from rfl, hD]; simp, ⟨[], rfl, rfl, fun j p y hp => by simp at hp⟩⟩

end Go.Proofs.Vm
end

section
/- What the library tells of items sorted by a function, and of strings compared. -/
namespace Go.Proofs.Vm
open Go

variable {P : Program}

abbrev Itm := ByteArray × Int
def encI (x : Itm) : List Value := [.string x.1, .int .i64 x.2]
def cItm (x : Itm) : List CV := [.v (.string x.1), .v (.int .i64 x.2)]
def itmOf : List CV → Option Itm
  | [.v (.string s), .v (.int .i64 n)] => some (s, n)
  | _ => none
def isort (cf : Itm → Itm → Int) (l : List Itm) : List Itm := l.mergeSort fun x y => decide (cf x y ≤ 0)

theorem mapO_itm : ∀ xs : List Itm, mapO itmOf (xs.map cItm) = some xs
  | [] => rfl
  | x :: xs => by
    rw [List.map_cons]
    simp only [mapO, mapO_itm xs]
    rfl
theorem mapO_itm_inv : ∀ {l : List (List CV)} {xs : List Itm}, mapO itmOf l = some xs → l = xs.map cItm
  | [], xs, h => by cases h; rfl
  | e :: l, xs, h => by
    simp only [mapO] at h
    split at h
    · rename_i y m h1 h2
      cases h
      rw [List.map_cons, mapO_itm_inv h2]
      congr 1
      unfold itmOf at h1
      split at h1
      · cases h1; rfl
      · cases h1
    · cases h

def sortFRun (go : FuncId) (cf : Itm → Itm → Int) (args : List AV) (H : Hp) : Option (AV × Hp) :=
  match args with
  | [.one (.sl id 0 n tot), .one (.fn g [])] => if g = go then match H[id]? with
    | some (.clo l false) => match mapO itmOf l with
      | some xs => if n = tot ∧ l.length = tot ∧ tot < 4611686018427387904 then some (und, H.set id (.clo ((isort cf xs).map cItm) false)) else none
      | none => none
    | _ => none
    else none
  | _ => none

def cmpB (a b : ByteArray) : Int := Lib.compareBytes a.data.toList b.data.toList
def cmpRun (args : List CA) : Option CA :=
  match args with
  | [.one (.v (.string a)), .one (.v (.string b))] => some (cI .i64 (cmpB a b))
  | _ => none

/-- A clone of an own slice of none, whether it is nil or not. -/
def clone0Run (args : List AV) (H : Hp) : Option (AV × Hp) :=
  match args with
  | [.one (.sl id 0 0 0)] => if lenIs H id 0 = true then some (.one (.sl (H.length + 1) 0 0 0), H ++ [.clo [] false, .clo [] false]) else none
  | _ => none
def itmTab (gs go gc gl : FuncId) (cf : Itm → Itm → Int) : Tab := ⟨fun f args => if f = gc then cmpRun args else none, fun f args H => if f = gs then sortFRun go cf args H else if f = gl then clone0Run args H else none, false⟩
/-- The same of a function's slices of none as they are. -/
def Clone0 (P : Program) (gl : FuncId) : Prop := ∀ (ad : Option Addr) (cap : Nat) (H : Hp), SCtr P gl [.one (.c (.v (.slice ad 0 cap)))] H (.one (.sl (H.length + 1) 0 0 0)) (H ++ [.clo [] false, .clo [] false])

def SortsF (P : Program) (gs go : FuncId) (cf : Itm → Itm → Int) : Prop := ∀ (blk off cap : Nat) (d : List Itm) (w : World), (∃ n, n ≤ blk ∧ n ≤ w.heap.size ∧ Tabs n w) → Sort.HoldsK encI 2 w blk off d.toArray → blk < w.heap.size → d.length < 4611686018427387904 →
  Calls P gs #[.slice (some ⟨blk, off, none⟩) d.length cap, .func (.func go) #[] #[]] w fun e w' => e = .returned (.tuple #[]) ∧ ∃ n os, w' = sortWorldK encI 2 w blk off n (isort cf d).toArray os
def SortsF0 (P : Program) (gs go : FuncId) : Prop := ∀ (p : Option Addr) (cap : Nat) (w : World), Calls P gs #[.slice p 0 cap, .func (.func go) #[] #[]] w fun e w' => e = .returned (.tuple #[]) ∧ w' = w
def CmpS (P : Program) (gc : FuncId) : Prop := ∀ (a b : ByteArray) (w : World), Calls P gc #[.string a, .string b] w fun e w' => e = .returned (.int .i64 (cmpB a b)) ∧ w' = w

def cmpTab (gc : FuncId) : Tab := ⟨fun f args => if f = gc then cmpRun args else none, fun _ _ _ => none, false⟩
theorem cmpPu_ok {gc : FuncId} (hfc : FnOk P gc) (hc : CmpS P gc) : PuOk P (cmpTab gc) := by
  intro f args r h
  simp only [cmpTab] at h
  split at h
  case isFalse => cases h
  rename_i hfg
  subst hfg
  unfold cmpRun at h
  split at h
  case h_2 => cases h
  rename_i a b
  cases h
  refine ⟨hfc, fun I w vals hI _ hv => ?_⟩
  have hl : vals.length = 2 := by rw [← hv.1]; rfl
  match vals, hl with
  | [x, y], _ =>
  have hx : RK I w (.one (.v (.string a))) x := hv.2 0 _ _ rfl rfl
  have hy : RK I w (.one (.v (.string b))) y := hv.2 1 _ _ rfl rfl
  have ex : x = .string a := by cases hx; rfl
  have ey : y = .string b := by cases hy; rfl
  subst ex; subst ey
  refine (hc a b w).mono fun e w' hh => ?_
  obtain ⟨rfl, rfl⟩ := hh
  exact ⟨_, I, rfl, fun _ h => h, fun _ h => .inl h, hI, Nat.le_refl _, fun _ _ => rfl, .refl _, .v _ rfl⟩
theorem cmpTab_ok {gc : FuncId} (hfc : FnOk P gc) (hc : CmpS P gc) : TOk P (cmpTab gc) := ⟨cmpPu_ok hfc hc, fun f args H r H' h => (by cases h)⟩

theorem flat_get (d : List Itm) (i j : Nat) (hi : i < d.length) (hj : j < 2) : (Sort.flatK encI 2 d.toArray)[i * 2 + j]! = (encI d[i])[j]'(by simpa [encI] using hj) := by
  rw [Sort.get_flatK _ _ _ _ (by simp; omega), show (i * 2 + j) / 2 = i by omega, show (i * 2 + j) % 2 = j by omega]
  have : d.toArray[i]! = d[i] := by simp [hi]
  rw [this, getElem!_pos (encI d[i]) j (by simpa [encI] using hj)]

theorem itmTab_ok {gs go gc gl : FuncId} {cf : Itm → Itm → Int} (hnc : isCl P gs = false) (hfc : FnOk P gc) (hc : CmpS P gc) (hf : FnOk P gs) (h1 : SortsF P gs go cf) (h2 : SortsF0 P gs go) (hfl : FnOk P gl) (h3 : Clone0 P gl) : TOk P (itmTab gs go gc gl cf) := by
  refine ⟨fun f args r h => cmpPu_ok hfc hc f args r h, fun f args H r H' h => ?_⟩
  simp only [itmTab] at h
  split at h
  case isFalse =>
    split at h
    case isFalse => cases h
    rename_i hfg
    subst hfg
    unfold clone0Run at h
    split at h
    case h_2 => cases h
    rename_i id
    split at h
    case isFalse => cases h
    rename_i hlen
    cases h
    refine ⟨by simp, hfl, ?_⟩
    intro X S M hX hD vals hv
    subst hX
    have hv1 : vals.length = 1 := by rw [← hv.1]; rfl
    match vals, hv1 with
    | [v], _ =>
    have hr : RCell X (.sl id 0 0 0) v := hv.2 0 _ v rfl rfl
    obtain ⟨h1', hd, e0, he0, _, _, hp⟩ := hr
    have hl0 : e0.len = 0 := by
      unfold lenIs at hlen
      rw [he0] at hlen
      simpa using hlen
    obtain ⟨ad, cap, rfl, _⟩ := hp hl0
    exact h3 ad cap X.H X S M rfl hD _ ⟨rfl, fun j p y hj hy => by
      cases j with
      | zero =>
        cases hj; cases hy
        exact .v _ h1'
      | succ j => cases hj⟩
  rename_i hfg
  subst hfg
  unfold sortFRun at h
  split at h
  case h_2 => cases h
  rename_i id n tot g
  split at h
  case isFalse => cases h
  rename_i hgg
  subst hgg
  split at h
  case h_2 => cases h
  rename_i l hl
  split at h
  case h_2 => cases h
  rename_i xs hxs
  split at h
  case isFalse => cases h
  rename_i hcc
  obtain ⟨rfl, hlt, hsz⟩ := hcc
  cases h
  have hlx := mapO_itm_inv hxs
  have hxl : xs.length = n := by rw [← hlt, hlx, List.length_map]
  refine ⟨⟨by simp, fun h => by rw [hnc] at h; cases h⟩, hf, ?_⟩
  intro X S M hX hD vals hv
  subst hX
  have hv1 : vals.length = 2 := by rw [← hv.1]; rfl
  match vals, hv1 with
  | [v, fv], _ =>
  have hr : RCell X (.sl id 0 n n) v := hv.2 0 _ v rfl rfl
  have hfv : RCell X (.fn g []) fv := hv.2 1 _ fv rfl rfl
  obtain ⟨vs, rfl, hvs, _⟩ := hfv
  have hvs0 : vs = [] := List.length_eq_zero_iff.1 hvs.symm
  subst hvs0
  obtain ⟨_, hd, e0, he0, _, _, hp⟩ := hr
  rw [hl] at he0
  cases he0
  obtain ⟨ad, cap, rfl, hcap, hne, _⟩ := hp hlt
  have hent := S.ent _ _ hd hl
  have hlen' : (isort cf xs).length = xs.length := List.length_mergeSort _
  have hylen : ((isort cf xs).map cItm).length = l.length := by rw [List.length_map, hlen', hlx, List.length_map]
  by_cases h0 : n = 0
  · subst h0
    have hxe : xs = [] := List.length_eq_zero_iff.1 hxl
    subst hxe
    refine (h2 ad cap X.w).mono fun e w' hh => ?_
    obtain ⟨rfl, rfl⟩ := hh
    refine ⟨_, X, rfl, rfl, .refl S M, ?_, fun id => by rw [hD]; simp, ⟨[], rfl, rfl, fun j p y hp => by simp at hp⟩⟩
    rw [isort, List.mergeSort_nil]
    simp only [List.map_nil] at hlx ⊢
    rw [hlx] at hl
    exact (set_same hl).symm
  · obtain ⟨b, hb, rfl⟩ := hne h0
    rcases hent.2 with ⟨h3, _⟩ | ⟨b', c, ty, fr, g1, g2, g3, g4, g5, g6, g7, g8, g9, g10⟩
    · exact absurd (hlt.symm.trans h3) h0
    rw [hb] at g1
    cases g1
    have hsz1 : (X.σ id).sz = 2 := by
      cases l with
      | nil => exact absurd hlt.symm h0
      | cons e l =>
        have := hent.1 e List.mem_cons_self
        cases xs with
        | nil => simp at hlx
        | cons x xs =>
          rw [List.map_cons] at hlx
          cases hlx
          exact this.symm
    rw [hsz1] at g5 g10
    have hblk := S.blk M id b hd hb
    have hcell : ∀ i j, ∀ hi : i < xs.length, ∀ hj : j < 2, c[i * 2 + j]? = some ((encI xs[i])[j]'(by simpa [encI] using hj)) := by
      intro i j hi hj
      obtain ⟨v, h3, e, x, h4, h5, h6⟩ := g10 i j (by omega) hj
      rw [hlx, List.getElem?_map, List.getElem?_eq_getElem hi] at h4
      cases h4
      rw [h3]
      match j, hj with
      | 0, _ => cases h5; cases h6; rfl
      | 1, _ => cases h5; cases h6; rfl
    have hH : Sort.HoldsK encI 2 X.w b 0 xs.toArray := by
      intro j hj
      have hj : j < xs.length * 2 := by simpa using hj
      have hc1 := hcell (j / 2) (j % 2) (by omega) (by omega)
      have hf1 := flat_get xs (j / 2) (j % 2) (by omega) (by omega)
      rw [show j / 2 * 2 + j % 2 = j by omega] at hc1 hf1
      refine ⟨?_, g4 _ ?_⟩
      · unfold World.cell?
        simp only [g3]
        rw [if_neg (by simp), Nat.zero_add, hc1, hf1]
        rfl
      · have := (Array.getElem?_eq_some_iff.1 hc1).1
        omega
    rw [Nat.zero_mul, ← hxl]
    refine (h1 b 0 cap xs X.w ⟨X.base, g7, S.size, S.tab.mono S.old (Nat.le_refl _)⟩ hH hblk.1 (by omega)).mono fun e w' hh => ?_
    obtain ⟨rfl, m, os, rfl⟩ := hh
    generalize hys : isort cf xs = ys at hlen' hylen
    let F := Sort.flatK encI 2 ys.toArray
    have hFs : F.size = ys.length * 2 := by simp [F]
    let w' := sortWorldK encI 2 X.w b 0 m ys.toArray os
    have hms : (X.w.heap.modify b (Sort.onCells (Sort.putCells _root_.id 0 F))).size = X.w.heap.size := by simp
    have hheap : ∀ k, k < X.w.heap.size → w'.heap[k]? = (X.w.heap.modify b (Sort.onCells (Sort.putCells _root_.id 0 F)))[k]? := by
      intro k hk
      show (X.w.heap.modify b _ ++ os)[k]? = _
      rw [Array.getElem?_append_left (by simpa using hk)]
    have hself : w'.heap[b]? = some (.cells (Sort.putCells _root_.id 0 F c) ty fr) := by
      rw [hheap b hblk.1, Array.getElem?_modify, if_pos rfl, g3]
      rfl
    have hoth : ∀ k, k < X.w.heap.size → k ≠ b → w'.heap[k]? = X.w.heap[k]? := by
      intro k hk hkb
      rw [hheap k hk, Array.getElem?_modify, if_neg (fun e => hkb e.symm)]
    let Y : Cx := { X with H := X.H.set id (.clo (ys.map cItm) false), w := w' }
    have W : Wrote X Y id := ⟨rfl, rfl, fun _ => Iff.rfl, fun _ _ _ => rfl, rfl, fun i hi => set_get hi, by
      show X.w.heap.size ≤ (X.w.heap.modify b _ ++ os).size
      rw [Array.size_append, Array.size_modify]
      exact Nat.le_add_right _ _, fun k hk hkb => hoth k hk (hkb b hb), ⟨_, _, hl, set_self hl, by simp only [Ent.len]; omega, fun _ => rfl, fun l h => by cases h⟩, hd, ⟨⟨rfl, rfl⟩, rfl, Nat.le_add_right _ _⟩, fun k hk => by rw [hb] at hk; cases hk; exact g9 rfl⟩
    have SY : SR Y := W.sr S M (fun e h => by
      have : Y.H[id]? = some (.clo (ys.map cItm) false) := set_self hl
      rw [this] at h
      cases h
      refine ⟨fun e he => ?_, .inr ⟨b, _, ty, fr, hb, g2, hself, fun o ho => ?_, ?_, by rw [hylen]; exact g6, g7, (fun h => by cases h), g9, fun i j hi hj => ?_⟩⟩
      · obtain ⟨y, _, rfl⟩ := List.mem_map.1 he
        show 2 = (X.σ id).sz
        rw [hsz1]
      · have := g4 o (by simpa [Sort.putCells] using ho)
        unfold World.frozen? at this ⊢
        rw [g3] at this
        rw [hself]
        exact this
      · show (Sort.putCells _root_.id 0 F c).size = (X.σ id).cap * (X.σ id).sz
        rw [hsz1, ← g5]
        simp [Sort.putCells]
      · have hj : j < (X.σ id).sz := hj
        rw [hsz1] at hj
        have hi' : i < ys.length := by simpa using hi
        have hic : i * 2 + j < c.size := by rw [g5]; have := g6.2; rw [hylen] at hi; omega
        have hfg := flat_get ys i j hi' hj
        refine ⟨(encI ys[i])[j]'(by simpa [encI] using hj), ?_, cItm ys[i], .v ((encI ys[i])[j]'(by simpa [encI] using hj)), by rw [List.getElem?_map, List.getElem?_eq_getElem hi']; rfl, ?_, ?_⟩
        · show (Sort.putCells _root_.id 0 F c)[i * (X.σ id).sz + j]? = _
          rw [hsz1, Sort.putCells, Array.getElem?_mapIdx, Array.getElem?_eq_getElem hic, Option.map_some, if_pos ⟨Nat.zero_le _, by rw [hFs]; omega⟩]
          show some (_root_.id F[i * 2 + j - 0]!) = _
          rw [Nat.sub_zero, hfg]
          rfl
        · match j, hj with
          | 0, _ => rfl
          | 1, _ => rfl
        · match j, hj with
          | 0, _ => exact .v _ rfl
          | 1, _ => exact .v _ rfl) (fun b' h => .inl h)
    exact ⟨_, Y, rfl, rfl, W.nxt S M SY, rfl, fun id => by rw [show Y.D = X.D from rfl, hD]; simp, ⟨[], rfl, rfl, fun j p y hp => by simp at hp⟩⟩

end Go.Proofs.Vm
end

section
/- How items stand: the greater count first, of one count the lesser key. -/
namespace Go.Proofs.Vm
open Go

def cmpI (x y : Int) : Int := if x < y then -1 else if x > y then 1 else 0
def ordI (a b : Itm) : Int := if cmpI b.2 a.2 ≠ 0 then cmpI b.2 a.2 else cmpB a.1 b.1

theorem cb_eq : ∀ a b : List UInt8, Lib.compareBytes a b = 0 ↔ a = b
  | [], [] => by simp [Lib.compareBytes]
  | [], _ :: _ => by simp [Lib.compareBytes]
  | _ :: _, [] => by simp [Lib.compareBytes]
  | a :: ar, b :: br => by
    unfold Lib.compareBytes
    by_cases h1 : a < b
    · rw [if_pos h1]
      refine ⟨fun h => absurd h (by decide), fun h => ?_⟩
      cases h
      exact absurd h1 (UInt8.lt_irrefl _)
    · rw [if_neg h1]
      by_cases h2 : b < a
      · rw [if_pos h2]
        refine ⟨fun h => absurd h (by decide), fun h => ?_⟩
        cases h
        exact absurd h2 (UInt8.lt_irrefl _)
      · rw [if_neg h2, cb_eq ar br]
        have : a = b := UInt8.le_antisymm (UInt8.not_lt.1 h2) (UInt8.not_lt.1 h1)
        subst this
        simp
theorem cb_neg : ∀ a b : List UInt8, Lib.compareBytes b a = - Lib.compareBytes a b
  | [], [] => by simp [Lib.compareBytes]
  | [], _ :: _ => by simp [Lib.compareBytes]
  | _ :: _, [] => by simp [Lib.compareBytes]
  | a :: ar, b :: br => by
    unfold Lib.compareBytes
    by_cases h1 : a < b
    · rw [if_neg (UInt8.lt_asymm h1), if_pos h1, if_pos h1]; rfl
    · rw [if_neg h1, if_neg h1]
      by_cases h2 : b < a
      · rw [if_pos h2, if_pos h2]
      · rw [if_neg h2, if_neg h2]
        exact cb_neg ar br
theorem cb_trans : ∀ a b c : List UInt8, Lib.compareBytes a b < 0 → Lib.compareBytes b c < 0 → Lib.compareBytes a c < 0
  | [], _, [], h1, h2 => by
    rename_i b
    cases b with
    | nil => simp [Lib.compareBytes] at h1
    | cons x b => simp [Lib.compareBytes] at h2
  | [], _, _ :: _, _, _ => by simp [Lib.compareBytes]
  | _ :: _, [], _, h1, _ => by simp [Lib.compareBytes] at h1
  | _ :: _, _ :: _, [], _, h2 => by simp [Lib.compareBytes] at h2
  | a :: ar, b :: br, c :: cr, h1, h2 => by
    unfold Lib.compareBytes at h1 h2 ⊢
    by_cases a1 : a < b
    · by_cases b1 : b < c
      · rw [if_pos (UInt8.lt_trans a1 b1)]; decide
      · rw [if_neg b1] at h2
        by_cases b2 : c < b
        · rw [if_pos b2] at h2; exact absurd h2 (by decide)
        · have : b = c := UInt8.le_antisymm (UInt8.not_lt.1 b2) (UInt8.not_lt.1 b1)
          subst this
          rw [if_pos a1]; decide
    · rw [if_neg a1] at h1
      by_cases a2 : b < a
      · rw [if_pos a2] at h1; exact absurd h1 (by decide)
      · have : a = b := UInt8.le_antisymm (UInt8.not_lt.1 a2) (UInt8.not_lt.1 a1)
        subst this
        rw [if_neg (UInt8.lt_irrefl _)] at h1
        by_cases b1 : a < c
        · rw [if_pos b1]; decide
        · rw [if_neg b1] at h2 ⊢
          by_cases b2 : c < a
          · rw [if_pos b2] at h2; exact absurd h2 (by decide)
          · rw [if_neg b2] at h2 ⊢
            exact cb_trans ar br cr (by simpa using h1) h2

theorem cmpB_eq {a b : ByteArray} : cmpB a b = 0 ↔ a = b := by
  unfold cmpB
  rw [cb_eq]
  constructor
  · intro h
    have := Array.toList_inj.1 h
    cases a; cases b; simp_all
  · intro h; rw [h]
theorem cmpB_neg (a b : ByteArray) : cmpB b a = - cmpB a b := cb_neg _ _
theorem cmpI_neg (x y : Int) : cmpI y x = - cmpI x y := by
  unfold cmpI; split <;> split <;> (try split) <;> omega
theorem ordI_neg (a b : Itm) : ordI b a = - ordI a b := by
  unfold ordI
  rw [cmpI_neg b.2 a.2, cmpB_neg a.1 b.1]
  split <;> split <;> omega
theorem ordI_eq {a b : Itm} : ordI a b = 0 ↔ a = b := by
  unfold ordI
  constructor
  · intro h
    split at h
    · contradiction
    · rename_i h1
      have h2 : cmpI b.2 a.2 = 0 := by omega
      have h3 : b.2 = a.2 := by unfold cmpI at h2; split at h2; · omega
                                split at h2 <;> omega
      exact Prod.ext (cmpB_eq.1 h) h3.symm
  · intro h
    subst h
    have : cmpI a.2 a.2 = 0 := by unfold cmpI; rw [if_neg (by omega), if_neg (by omega)]
    rw [this]
    simp only [ne_eq, not_true_eq_false, if_false]
    exact cmpB_eq.2 rfl
/-- One stands ahead of another. -/
theorem ordI_lt {a b : Itm} : ordI a b < 0 ↔ b.2 < a.2 ∨ b.2 = a.2 ∧ cmpB a.1 b.1 < 0 := by
  unfold ordI cmpI
  by_cases h1 : b.2 < a.2
  · simp [h1]
  · by_cases h2 : b.2 > a.2
    · rw [if_neg h1, if_pos h2]
      simp; omega
    · rw [if_neg h1, if_neg h2]
      have : b.2 = a.2 := by omega
      simp [this]
theorem ordI_trans {a b c : Itm} (h1 : ordI a b < 0) (h2 : ordI b c < 0) : ordI a c < 0 := by
  rw [ordI_lt] at *
  rcases h1 with h1 | ⟨h1, k1⟩
  · rcases h2 with h2 | ⟨h2, _⟩
    · left; omega
    · left; omega
  · rcases h2 with h2 | ⟨h2, k2⟩
    · left; omega
    · right
      exact ⟨by omega, cb_trans _ _ _ k1 k2⟩
theorem ordI_le_trans (a b c : Itm) (h1 : ordI a b ≤ 0) (h2 : ordI b c ≤ 0) : ordI a c ≤ 0 := by
  by_cases e1 : ordI a b = 0
  · rw [ordI_eq] at e1; subst e1; exact h2
  · by_cases e2 : ordI b c = 0
    · rw [ordI_eq] at e2; subst e2; exact h1
    · have := ordI_trans (show ordI a b < 0 by omega) (show ordI b c < 0 by omega)
      omega
theorem ordI_total (a b : Itm) : ordI a b ≤ 0 ∨ ordI b a ≤ 0 := by
  have := ordI_neg a b
  omega

theorem bl_cb : ∀ a b : List UInt8, Op.bytesLess a b = decide (Lib.compareBytes a b < 0)
  | [], [] => by simp [Op.bytesLess, Lib.compareBytes]
  | _ :: _, [] => by simp [Op.bytesLess, Lib.compareBytes]
  | [], _ :: _ => by simp [Op.bytesLess, Lib.compareBytes]
  | a :: x, b :: y => by
    unfold Op.bytesLess Lib.compareBytes
    by_cases h1 : a < b
    · simp [h1]
    · by_cases h2 : b < a
      · have : ¬ a = b := fun e => by subst e; exact absurd h2 (UInt8.lt_irrefl _)
        simp [h1, h2, this]
      · have : a = b := UInt8.le_antisymm (UInt8.not_lt.1 h2) (UInt8.not_lt.1 h1)
        subst this
        simp [h1, bl_cb x y]
theorem bl_cmpB (a b : ByteArray) : Op.bytesLess a.toList b.toList = decide (cmpB a b < 0) := by
  rw [bl_cb, toList_eq, toList_eq]; rfl

end Go.Proofs.Vm
end

section
/- A table of two; numbers' trailing noughts; items sorted by a function, and strings compared. -/
namespace Go.Proofs.Vm
open Go

variable {P : Program}

def orTab (A B : Tab) : Tab := ⟨fun f a => match A.pu f a with | some r => some r | none => B.pu f a, fun f a H => match A.S f a H with | some r => some r | none => B.S f a H, false⟩
theorem orTab_ok {A B : Tab} (hA : TOk P A) (hB : TOk P B) : TOk P (orTab A B) := by
  refine ⟨fun f args r h => ?_, fun f args H r H' h => ?_⟩
  · simp only [orTab] at h
    split at h
    · rename_i x hx; cases h; exact hA.1 _ _ _ hx
    · exact hB.1 _ _ _ h
  · simp only [orTab] at h
    split at h
    · rename_i x hx; cases h; exact hA.2 _ _ _ _ _ hx
    · exact hB.2 _ _ _ _ _ h

def tzRun (args : List CA) : Option CA :=
  match args with
  | [.one (.v (.int .u64 x))] => if 0 ≤ x ∧ x < 18446744073709551616 then some (cI .i64 (Lib.ctz 64 x.toNat)) else none
  | _ => none
def tzTab (gt : FuncId) : Tab := ⟨fun f args => if f = gt then tzRun args else none, fun _ _ _ => none, false⟩
def TzS (P : Program) (gt : FuncId) : Prop := ∀ (x : Nat) (w : World), x < 18446744073709551616 → Tabs w.heap.size w → Calls P gt #[.int .u64 x] w fun e w' => e = .returned (.int .i64 (Lib.ctz 64 x)) ∧ w' = w
theorem tzTab_ok {gt : FuncId} (hf : FnOk P gt) (ht : TzS P gt) : TOk P (tzTab gt) := by
  refine ⟨fun f args r h => ?_, fun f args H r H' h => (by cases h)⟩
  simp only [tzTab] at h
  split at h
  case isFalse => cases h
  rename_i hfg
  subst hfg
  unfold tzRun at h
  split at h
  case h_2 => cases h
  rename_i x
  split at h
  case isFalse => cases h
  rename_i hx
  cases h
  obtain ⟨n, rfl⟩ := Int.eq_ofNat_of_zero_le hx.1
  refine ⟨hf, fun I w vals hI hT hv => ?_⟩
  have hl : vals.length = 1 := by rw [← hv.1]; rfl
  match vals, hl with
  | [v], _ =>
  have hv0 : RK I w (.one (.v (.int .u64 n))) v := hv.2 0 _ _ rfl rfl
  have ev : v = .int .u64 n := by cases hv0; rfl
  subst ev
  refine (ht n w (by omega) hT).mono fun e w' hh => ?_
  obtain ⟨rfl, rfl⟩ := hh
  exact ⟨_, I, rfl, fun _ h => h, fun _ h => .inl h, hI, Nat.le_refl _, fun _ _ => rfl, .refl _, .v _ rfl⟩

def srtTab (gs go gc : FuncId) (cf : Itm → Itm → Int) : Tab := ⟨fun f args => if f = gc then cmpRun args else none, fun f args H => if f = gs then sortFRun go cf args H else none, false⟩
theorem srtTab_ok {gs go gc : FuncId} {cf : Itm → Itm → Int} (hnc : isCl P gs = false) (hfc : FnOk P gc) (hc : CmpS P gc) (hf : FnOk P gs) (h1 : SortsF P gs go cf) (h2 : SortsF0 P gs go) : TOk P (srtTab gs go gc cf) := by
  refine ⟨fun f args r h => cmpPu_ok hfc hc f args r h, fun f args H r H' h => ?_⟩
  simp only [srtTab] at h
  split at h
  case isFalse => cases h
  rename_i hfg
  subst hfg
  unfold sortFRun at h
  split at h
  case h_2 => cases h
  rename_i id n tot g
  split at h
  case isFalse => cases h
  rename_i hgg
  subst hgg
  split at h
  case h_2 => cases h
  rename_i l hl
  split at h
  case h_2 => cases h
  rename_i xs hxs
  split at h
  case isFalse => cases h
  rename_i hcc
  obtain ⟨rfl, hlt, hsz⟩ := hcc
  cases h
  have hlx := mapO_itm_inv hxs
  have hxl : xs.length = n := by rw [← hlt, hlx, List.length_map]
  refine ⟨⟨by simp, fun h => by rw [hnc] at h; cases h⟩, hf, ?_⟩
  intro X S M hX hD vals hv
  subst hX
  have hv1 : vals.length = 2 := by rw [← hv.1]; rfl
  match vals, hv1 with
  | [v, fv], _ =>
  have hr : RCell X (.sl id 0 n n) v := hv.2 0 _ v rfl rfl
  have hfv : RCell X (.fn g []) fv := hv.2 1 _ fv rfl rfl
  obtain ⟨vs, rfl, hvs, _⟩ := hfv
  have hvs0 : vs = [] := List.length_eq_zero_iff.1 hvs.symm
  subst hvs0
  obtain ⟨_, hd, e0, he0, _, _, hp⟩ := hr
  rw [hl] at he0
  cases he0
  obtain ⟨ad, cap, rfl, hcap, hne, _⟩ := hp hlt
  have hent := S.ent _ _ hd hl
  have hlen' : (isort cf xs).length = xs.length := List.length_mergeSort _
  have hylen : ((isort cf xs).map cItm).length = l.length := by rw [List.length_map, hlen', hlx, List.length_map]
  by_cases h0 : n = 0
  · subst h0
    have hxe : xs = [] := List.length_eq_zero_iff.1 hxl
    subst hxe
    refine (h2 ad cap X.w).mono fun e w' hh => ?_
    obtain ⟨rfl, rfl⟩ := hh
    refine ⟨_, X, rfl, rfl, .refl S M, ?_, fun id => by rw [hD]; simp, ⟨[], rfl, rfl, fun j p y hp => by simp at hp⟩⟩
    rw [isort, List.mergeSort_nil]
    simp only [List.map_nil] at hlx ⊢
    rw [hlx] at hl
    exact (set_same hl).symm
  · obtain ⟨b, hb, rfl⟩ := hne h0
    rcases hent.2 with ⟨h3, _⟩ | ⟨b', c, ty, fr, g1, g2, g3, g4, g5, g6, g7, g8, g9, g10⟩
    · exact absurd (hlt.symm.trans h3) h0
    rw [hb] at g1
    cases g1
    have hsz1 : (X.σ id).sz = 2 := by
      cases l with
      | nil => exact absurd hlt.symm h0
      | cons e l =>
        have := hent.1 e List.mem_cons_self
        cases xs with
        | nil => simp at hlx
        | cons x xs =>
          rw [List.map_cons] at hlx
          cases hlx
          exact this.symm
    rw [hsz1] at g5 g10
    have hblk := S.blk M id b hd hb
    have hcell : ∀ i j, ∀ hi : i < xs.length, ∀ hj : j < 2, c[i * 2 + j]? = some ((encI xs[i])[j]'(by simpa [encI] using hj)) := by
      intro i j hi hj
      obtain ⟨v, h3, e, x, h4, h5, h6⟩ := g10 i j (by omega) hj
      rw [hlx, List.getElem?_map, List.getElem?_eq_getElem hi] at h4
      cases h4
      rw [h3]
      match j, hj with
      | 0, _ => cases h5; cases h6; rfl
      | 1, _ => cases h5; cases h6; rfl
    have hH : Sort.HoldsK encI 2 X.w b 0 xs.toArray := by
      intro j hj
      have hj : j < xs.length * 2 := by simpa using hj
      have hc1 := hcell (j / 2) (j % 2) (by omega) (by omega)
      have hf1 := flat_get xs (j / 2) (j % 2) (by omega) (by omega)
      rw [show j / 2 * 2 + j % 2 = j by omega] at hc1 hf1
      refine ⟨?_, g4 _ ?_⟩
      · unfold World.cell?
        simp only [g3]
        rw [if_neg (by simp), Nat.zero_add, hc1, hf1]
        rfl
      · have := (Array.getElem?_eq_some_iff.1 hc1).1
        omega
    rw [Nat.zero_mul, ← hxl]
    refine (h1 b 0 cap xs X.w ⟨X.base, g7, S.size, S.tab.mono S.old (Nat.le_refl _)⟩ hH hblk.1 (by omega)).mono fun e w' hh => ?_
    obtain ⟨rfl, m, os, rfl⟩ := hh
    generalize hys : isort cf xs = ys at hlen' hylen
    let F := Sort.flatK encI 2 ys.toArray
    have hFs : F.size = ys.length * 2 := by simp [F]
    let w' := sortWorldK encI 2 X.w b 0 m ys.toArray os
    have hms : (X.w.heap.modify b (Sort.onCells (Sort.putCells _root_.id 0 F))).size = X.w.heap.size := by simp
    have hheap : ∀ k, k < X.w.heap.size → w'.heap[k]? = (X.w.heap.modify b (Sort.onCells (Sort.putCells _root_.id 0 F)))[k]? := by
      intro k hk
      show (X.w.heap.modify b _ ++ os)[k]? = _
      rw [Array.getElem?_append_left (by simpa using hk)]
    have hself : w'.heap[b]? = some (.cells (Sort.putCells _root_.id 0 F c) ty fr) := by
      rw [hheap b hblk.1, Array.getElem?_modify, if_pos rfl, g3]
      rfl
    have hoth : ∀ k, k < X.w.heap.size → k ≠ b → w'.heap[k]? = X.w.heap[k]? := by
      intro k hk hkb
      rw [hheap k hk, Array.getElem?_modify, if_neg (fun e => hkb e.symm)]
    let Y : Cx := { X with H := X.H.set id (.clo (ys.map cItm) false), w := w' }
    have W : Wrote X Y id := ⟨rfl, rfl, fun _ => Iff.rfl, fun _ _ _ => rfl, rfl, fun i hi => set_get hi, by
      show X.w.heap.size ≤ (X.w.heap.modify b _ ++ os).size
      rw [Array.size_append, Array.size_modify]
      exact Nat.le_add_right _ _, fun k hk hkb => hoth k hk (hkb b hb), ⟨_, _, hl, set_self hl, by simp only [Ent.len]; omega, fun _ => rfl, fun l h => by cases h⟩, hd, ⟨⟨rfl, rfl⟩, rfl, Nat.le_add_right _ _⟩, fun k hk => by rw [hb] at hk; cases hk; exact g9 rfl⟩
    have SY : SR Y := W.sr S M (fun e h => by
      have : Y.H[id]? = some (.clo (ys.map cItm) false) := set_self hl
      rw [this] at h
      cases h
      refine ⟨fun e he => ?_, .inr ⟨b, _, ty, fr, hb, g2, hself, fun o ho => ?_, ?_, by rw [hylen]; exact g6, g7, (fun h => by cases h), g9, fun i j hi hj => ?_⟩⟩
      · obtain ⟨y, _, rfl⟩ := List.mem_map.1 he
        show 2 = (X.σ id).sz
        rw [hsz1]
      · have := g4 o (by simpa [Sort.putCells] using ho)
        unfold World.frozen? at this ⊢
        rw [g3] at this
        rw [hself]
        exact this
      · show (Sort.putCells _root_.id 0 F c).size = (X.σ id).cap * (X.σ id).sz
        rw [hsz1, ← g5]
        simp [Sort.putCells]
      · have hj : j < (X.σ id).sz := hj
        rw [hsz1] at hj
        have hi' : i < ys.length := by simpa using hi
        have hic : i * 2 + j < c.size := by rw [g5]; have := g6.2; rw [hylen] at hi; omega
        have hfg := flat_get ys i j hi' hj
        refine ⟨(encI ys[i])[j]'(by simpa [encI] using hj), ?_, cItm ys[i], .v ((encI ys[i])[j]'(by simpa [encI] using hj)), by rw [List.getElem?_map, List.getElem?_eq_getElem hi']; rfl, ?_, ?_⟩
        · show (Sort.putCells _root_.id 0 F c)[i * (X.σ id).sz + j]? = _
          rw [hsz1, Sort.putCells, Array.getElem?_mapIdx, Array.getElem?_eq_getElem hic, Option.map_some, if_pos ⟨Nat.zero_le _, by rw [hFs]; omega⟩]
          show some (_root_.id F[i * 2 + j - 0]!) = _
          rw [Nat.sub_zero, hfg]
          rfl
        · match j, hj with
          | 0, _ => rfl
          | 1, _ => rfl
        · match j, hj with
          | 0, _ => exact .v _ rfl
          | 1, _ => exact .v _ rfl) (fun b' h => .inl h)
    exact ⟨_, Y, rfl, rfl, W.nxt S M SY, rfl, fun id => by rw [show Y.D = X.D from rfl, hD]; simp, ⟨[], rfl, rfl, fun j p y hp => by simp at hp⟩⟩

end Go.Proofs.Vm
end

section
/- Rewriting rules of regions in which reads stand beside writes. -/
namespace Go.Proofs.Vm
open Go

variable {P : Program} {T : Tab} {N : Fx} {H : Hp}

theorem late_pu : (late T).pu = T.pu := rfl
theorem late_S : (late T).S = T.S := rfl
theorem late_cb : (late T).cb = true := rfl
def wpW (P : Program) (T : Tab) (N : Fx) (ops : Array Oper) (fl : List Nat) (i : Nat) (os : List Oper) (hs : List Hp) (rs : List LateR) (K : St → Prop) (s : St) : Prop := ∃ s', runW P T N ops fl i os hs rs s = some s' ∧ K s'
theorem e_regionW {K : Ex → St → Prop} {s : St} {id : Nat} {ops : Array Oper} {d : Bool} (hf : N.fl id ≠ []) : wpV P T N (.region id ops d) K s ↔ wpW P (late T) N ops (N.fl id) 0 ops.toList [] [] (K .normal) s := by
  rw [wpV_iff]
  constructor
  · rintro ⟨n, ex, s', h, hk⟩
    simp only [vcode, runR, if_neg hf] at h
    split at h
    · rename_i s1 h1
      cases h
      exact ⟨_, h1, hk⟩
    · cases h
  · rintro ⟨s', h, hk⟩
    exact ⟨0, .normal, s', by simp only [vcode, runR, if_neg hf, h], hk⟩
section
variable {ops : Array Oper} {fl : List Nat} {i : Nat} {os : List Oper} {hs : List Hp} {rs : List LateR} {K : St → Prop} {s : St} {o : Oper}
theorem w_nil : wpW P T N ops fl i [] hs rs K s ↔ okRs P T N.nest s.H rs ∧ K s := by
  unfold wpW runW
  constructor
  · rintro ⟨s', h, hk⟩
    split at h
    · rename_i hr; cases h; exact ⟨hr, hk⟩
    · cases h
  · rintro ⟨hr, hk⟩
    exact ⟨s, by rw [if_pos hr], hk⟩
theorem w_rd (h1 : i ∉ fl) (h2 : isWr P N o = false) : wpW P T N ops fl i (o :: os) hs rs K s ↔ wpS P T N ops o (wpW P T N ops fl (i + 1) os hs rs K) s := by
  have h2' : ¬ isWr P N o = true := by rw [h2]; decide
  constructor
  · rintro ⟨s', h, hk⟩
    unfold runW at h
    rw [if_neg h1, if_neg h2'] at h
    split at h
    · rename_i s1 hs1; exact ⟨s1, hs1, s', h, hk⟩
    · cases h
  · rintro ⟨s1, hs1, s', h, hk⟩
    refine ⟨s', ?_, hk⟩
    unfold runW
    rw [if_neg h1, if_neg h2', hs1]
    exact h
theorem w_wr (h1 : i ∉ fl) (h2 : isWr P N o = true) : wpW P T N ops fl i (o :: os) hs rs K s ↔ okRs P T N.nest s.H rs ∧ wpS P T N ops o (wpW P T N ops fl (i + 1) os (s.H :: hs) rs K) s := by
  constructor
  · rintro ⟨s', h, hk⟩
    unfold runW at h
    rw [if_neg h1, if_pos h2] at h
    split at h
    case isFalse => cases h
    rename_i hr
    split at h
    · rename_i s1 hs1; exact ⟨hr, s1, hs1, s', h, hk⟩
    · cases h
  · rintro ⟨hr, s1, hs1, s', h, hk⟩
    refine ⟨s', ?_, hk⟩
    unfold runW
    rw [if_neg h1, if_pos h2, if_pos hr, hs1]
    exact h
theorem w_go (h1 : i ∉ fl) : wpW P T N ops fl i (o :: os) hs rs K s ↔ if isWr P N o = true then okRs P T N.nest s.H rs ∧ wpS P T N ops o (wpW P T N ops fl (i + 1) os (s.H :: hs) rs K) s else wpS P T N ops o (wpW P T N ops fl (i + 1) os hs rs K) s := by
  by_cases h : isWr P N o = true
  · rw [if_pos h]; exact w_wr h1 h
  · rw [if_neg h]; exact w_rd h1 (by simpa using h)
theorem putK_iff {N : Fx} {d : Option Tmp} {s : St} {a : AV} {K : St → Prop} : putK N d s.env s.H a K ↔ ∃ s', putV N s d a = some s' ∧ K s' := by
  obtain ⟨e, H⟩ := s
  cases d with
  | none => exact ⟨fun h => ⟨_, rfl, h⟩, fun ⟨s', h, k⟩ => by cases h; exact k⟩
  | some d =>
    constructor
    · rintro ⟨h1, h2⟩
      exact ⟨_, by unfold putV; dsimp only; rw [if_pos h1], h2⟩
    · rintro ⟨s', h, k⟩
      unfold putV at h
      dsimp only at h
      split at h
      · rename_i h1; cases h; exact ⟨h1, k⟩
      · cases h
theorem w_lt {d : Option Tmp} {op : Op} {ty : TypeId} {pos : String} {aft : Array Edge} (h1 : i ∈ fl) (h2 : lateOp ⟨d, op, ty, pos, aft, none⟩ = true) : wpW P T N ops fl i (⟨d, op, ty, pos, aft, none⟩ :: os) hs rs K s ↔
    ∃ a, vrd P T N.nest s.H s.H.length (evo s.env) ⟨d, op, ty, pos, aft, none⟩ = some (a, [], []) ∧ okHs P T N.nest ⟨d, op, ty, pos, aft, none⟩ s.env s.H.length a hs ∧ putK N d s.env s.H a (wpW P T N ops fl (i + 1) os hs ((⟨d, op, ty, pos, aft, none⟩, s.env, s.H.length, a) :: rs) K) := by
  have hw : wantV s.env ops ⟨d, op, ty, pos, aft, none⟩ = some true := by simp [wantV]
  constructor
  · rintro ⟨s', h, hk⟩
    unfold runW at h
    rw [if_pos h1, if_pos h2, hw] at h
    dsimp only at h
    split at h
    case h_2 => cases h
    rename_i a hv
    split at h
    case isFalse => cases h
    rename_i hh
    split at h
    case h_2 => cases h
    rename_i s1 hp
    exact ⟨a, hv, hh, putK_iff.2 ⟨s1, hp, s', h, hk⟩⟩
  · rintro ⟨a, hv, hh, hpk⟩
    obtain ⟨s1, hp, s', h, hk⟩ := putK_iff.1 hpk
    refine ⟨s', ?_, hk⟩
    unfold runW
    rw [if_pos h1, if_pos h2, hw]
    dsimp only
    rw [hv]
    dsimp only
    rw [if_pos hh, hp]
    exact h
theorem w_late {d : Option Tmp} {op : Op} {ty : TypeId} {pos : String} {aft : Array Edge} (h1 : i ∈ fl) : wpW P T N ops fl i (⟨d, op, ty, pos, aft, none⟩ :: os) hs rs K s ↔ if lateOp ⟨d, op, ty, pos, aft, none⟩ = true then
    (∃ a, vrd P T N.nest s.H s.H.length (evo s.env) ⟨d, op, ty, pos, aft, none⟩ = some (a, [], []) ∧ okHs P T N.nest ⟨d, op, ty, pos, aft, none⟩ s.env s.H.length a hs ∧ putK N d s.env s.H a (wpW P T N ops fl (i + 1) os hs ((⟨d, op, ty, pos, aft, none⟩, s.env, s.H.length, a) :: rs) K))
    else wpW P T N ops fl i (⟨d, op, ty, pos, aft, none⟩ :: os) hs rs K s := by
  by_cases h : lateOp ⟨d, op, ty, pos, aft, none⟩ = true
  · rw [if_pos h]; exact w_lt h1 h
  · rw [if_neg h]
end
section
variable {b : Bool} {n : Nat} {ρ : Operand → Option AV} {d : Option Tmp} {ty : TypeId} {pos : String} {aft : Array Edge} {g : Option (Nat × Bool)}
theorem v_load {t : TypeId} {x : Operand} : vrd P T b H n ρ ⟨d, .load t x, ty, pos, aft, g⟩ = on1 (ρ x) (vload P H t) := by unfold on1; rfl
theorem v_fieldAddr {t : TypeId} {x : Operand} {f : Nat} : vrd P T b H n ρ ⟨d, .fieldAddr t x f, ty, pos, aft, g⟩ = on1 (ρ x) (vfieldAddr P H t f) := by unfold on1; rfl
theorem v_indexAddr {t : TypeId} {x y : Operand} : vrd P T b H n ρ ⟨d, .indexAddr t x y, ty, pos, aft, g⟩ = on2 (ρ x) (ρ y) (vindexAddr P H t) := by unfold on2; rfl
theorem v_buildSlice {t : TypeId} {k : Nat} {ps : Array (Nat × Operand)} : vrd P T b H n ρ ⟨d, .buildSlice t k ps, ty, pos, aft, g⟩ = vbuildN P b T.cb H n ρ t k ps.toList := rfl
theorem lt_load {t : TypeId} {x : Operand} : lateOp ⟨d, .load t x, ty, pos, aft, g⟩ = true := rfl
theorem lt_fieldAddr {t : TypeId} {x : Operand} {f : Nat} : lateOp ⟨d, .fieldAddr t x f, ty, pos, aft, g⟩ = true := rfl
theorem lt_indexAddr {t : TypeId} {x y : Operand} : lateOp ⟨d, .indexAddr t x y, ty, pos, aft, g⟩ = true := rfl
theorem lt_buildSlice {t : TypeId} {k : Nat} {ps : Array (Nat × Operand)} : lateOp ⟨d, .buildSlice t k ps, ty, pos, aft, g⟩ = true := rfl
end
theorem vbuildT_yes {nid : Nat} {ρ : Operand → Option AV} {t : TypeId} {len : Nat} {ps : List (Nat × Operand)} : vbuildT P true H nid ρ t len ps = if clParts H ρ ps = true then vbuildC P H ρ t len ps else vbuildSlice P H nid ρ t len ps := by
  unfold vbuildT
  simp
theorem vbuildC_eq {ρ : Operand → Option AV} {t e : TypeId} {len : Nat} {ps : List (Nat × Operand)} {sz b : Nat} {z : List CV} (he : elemOfSlice P t = some e) (hel : elOf P e = some (sz, b, z)) :
    vbuildC P H ρ t len ps = match partsOf ρ ps with
      | some ps => match fzParts H ps with
        | some qs => if len * sz ≤ 16777216 ∧ len * sz ≠ 0 ∧ qs.all (fun p => p.1 < len && p.2.length == sz) = true then
            some (.one (.c (.arr (setAll (List.replicate len z) qs))), [], []) else none
        | none => none
      | none => none := by
  obtain ⟨i, v, h1, h2, h3, h4, h5, h6, h7⟩ := elOf_facts hel
  unfold vbuildC
  simp only [he]
  cases partsOf ρ ps with
  | none => rfl
  | some ps =>
    simp only [h1, h2]
    cases fzParts H ps with
    | none => rfl
    | some qs =>
      simp only [h3, h5, h6, h7, true_and]
theorem qa_eq {a b : AV} : qa a = some (b, [], []) ↔ a = b := by simp [qa]
@[congr] theorem wpW_congr {ops : Array Oper} {fl : List Nat} {i : Nat} {os : List Oper} {hs : List Hp} {rs : List LateR} {K : St → Prop} {s s' : St} (h : s = s') : wpW P T N ops fl i os hs rs K s = wpW P T N ops fl i os hs rs K s' := by rw [h]
attribute [simp] late_pu late_S late_cb e_regionW w_nil w_go w_late v_load v_fieldAddr v_indexAddr v_buildSlice lt_load lt_fieldAddr lt_indexAddr lt_buildSlice vbuildT_yes qa_eq okRs okHs isWr clParts
end Go.Proofs.Vm
end

section
/- Sorting strings in place, from the shelf's contract. -/
namespace Go.Proofs.Vm
open Go Go.Sort

variable {P : Program}

def ssort (l : List ByteArray) : List ByteArray := l.mergeSort fun x y => decide (x.data.toList ≤ y.data.toList)
def strOf1 : List CV → Option ByteArray
  | [.v (.string n)] => some n
  | _ => none
def cStr1 (n : ByteArray) : List CV := [.v (.string n)]
def sortSRun (args : List AV) (H : Hp) : Option (AV × Hp) :=
  match args with
  | [.one (.sl id 0 n tot)] => match H[id]? with
    | some (.clo l false) => match mapO strOf1 l with
      | some xs => if n = tot ∧ l.length = tot ∧ tot < 4611686018427387904 then some (und, H.set id (.clo ((ssort xs).map cStr1) false)) else none
      | none => none
    | _ => none
  | _ => none
def strTab (g : FuncId) : Tab := ⟨fun _ _ => none, fun f args H => if f = g then sortSRun args H else none, false⟩
theorem mapO_strOf1 : ∀ xs : List ByteArray, mapO strOf1 (xs.map cStr1) = some xs
  | [] => rfl
  | x :: xs => by
    rw [List.map_cons]
    simp only [mapO, mapO_strOf1 xs]
    rfl

def SortsStr (P : Program) (g : FuncId) : Prop := ∀ (blk off cap : Nat) (zs : List ByteArray) (w : World), Sort.Holds encStr w blk off (zs.map (·.data.toList)).toArray → blk < w.heap.size → zs.length < 4611686018427387904 →
  Calls P g #[.slice (some ⟨blk, off, none⟩) zs.length cap] w fun e w' => e = .returned (.tuple #[]) ∧ ∃ n os, w' = Sort.grow (Sort.putRow encStr (Sort.ahead w n) blk off ((ssort zs).map (·.data.toList)).toArray) os
def SortsSNone (P : Program) (g : FuncId) : Prop := ∀ (p : Option Addr) (cap : Nat) (w : World), Calls P g #[.slice p 0 cap] w fun e w' => e = .returned (.tuple #[]) ∧ w' = w

theorem mapO_str_inv : ∀ {l : List (List CV)} {xs : List ByteArray}, mapO strOf1 l = some xs → l = xs.map cStr1
  | [], xs, h => by cases h; rfl
  | e :: l, xs, h => by
    simp only [mapO] at h
    split at h
    · rename_i y m h1 h2
      cases h
      rw [List.map_cons, mapO_str_inv h2]
      congr 1
      unfold strOf1 at h1
      split at h1
      · cases h1; rfl
      · cases h1
    · cases h

theorem strTab_ok {g : FuncId} (hnc : isCl P g = false) (hf : FnOk P g) (h1 : SortsStr P g) (h2 : SortsSNone P g) : TOk P (strTab g) := by
  refine ⟨fun f args r h => (by cases h), fun f args H r H' h => ?_⟩
  simp only [strTab] at h
  split at h
  case isFalse => cases h
  rename_i hfg
  subst hfg
  unfold sortSRun at h
  split at h
  case h_2 => cases h
  rename_i id n tot
  split at h
  case h_2 => cases h
  rename_i l hl
  split at h
  case h_2 => cases h
  rename_i xs hxs
  split at h
  case isFalse => cases h
  rename_i hc
  obtain ⟨rfl, hlt, hsz⟩ := hc
  cases h
  have hlx := mapO_str_inv hxs
  have hxl : xs.length = n := by rw [← hlt, hlx, List.length_map]
  refine ⟨⟨by simp, fun h => by rw [hnc] at h; cases h⟩, hf, ?_⟩
  intro X S M hX hD vals hv
  subst hX
  have hv1 : vals.length = 1 := by rw [← hv.1]; rfl
  match vals, hv1 with
  | [v], _ =>
  have hr : RCell X (.sl id 0 n n) v := hv.2 0 _ v rfl rfl
  obtain ⟨_, hd, e0, he0, _, _, hp⟩ := hr
  rw [hl] at he0
  cases he0
  obtain ⟨ad, cap, rfl, hcap, hne, _⟩ := hp hlt
  have hent := S.ent _ _ hd hl
  have hlen' : (ssort xs).length = xs.length := List.length_mergeSort _
  have hylen : ((ssort xs).map cStr1).length = l.length := by rw [List.length_map, hlen', hlx, List.length_map]
  by_cases h0 : n = 0
  · subst h0
    have hxe : xs = [] := List.length_eq_zero_iff.1 hxl
    subst hxe
    refine (h2 ad cap X.w).mono fun e w' hh => ?_
    obtain ⟨rfl, rfl⟩ := hh
    refine ⟨_, X, rfl, rfl, .refl S M, ?_, fun id => by rw [hD]; simp, ⟨[], rfl, rfl, fun j p y hp => by simp at hp⟩⟩
    rw [ssort, List.mergeSort_nil]
    simp only [List.map_nil] at hlx ⊢
    rw [hlx] at hl
    exact (set_same hl).symm
  · obtain ⟨b, hb, rfl⟩ := hne h0
    rcases hent.2 with ⟨h3, _⟩ | ⟨b', c, ty, fr, g1, g2, g3, g4, g5, g6, g7, g8, g9, g10⟩
    · exact absurd (hlt.symm.trans h3) h0
    rw [hb] at g1
    cases g1
    have hsz1 : (X.σ id).sz = 1 := by
      cases l with
      | nil => exact absurd hlt.symm h0
      | cons e l =>
        have := hent.1 e List.mem_cons_self
        cases xs with
        | nil => simp at hlx
        | cons x xs =>
          rw [List.map_cons] at hlx
          cases hlx
          exact this.symm
    rw [hsz1] at g5 g10
    have hblk := S.blk M id b hd hb
    have hcell : ∀ j, ∀ hj : j < xs.length, c[j]? = some (.string xs[j]) := by
      intro j hj
      obtain ⟨v, h3, e, x, h4, h5, h6⟩ := g10 j 0 (by omega) (by omega)
      rw [hlx, List.getElem?_map, List.getElem?_eq_getElem hj] at h4
      cases h4
      cases h5
      cases h6
      rw [← h3, Nat.mul_one, Nat.add_zero]
    have hH : Sort.Holds encStr X.w b 0 (xs.map (·.data.toList)).toArray := by
      intro j hj
      have hj : j < xs.length := by simpa using hj
      refine ⟨?_, g4 _ ?_⟩
      · unfold World.cell?
        simp only [g3]
        rw [if_neg (by simp), Nat.zero_add, hcell j hj]
        simp [hj]
      · have := (Array.getElem?_eq_some_iff.1 (hcell j hj)).1
        omega
    rw [Nat.zero_mul, ← hxl]
    refine (h1 b 0 cap xs X.w hH hblk.1 (by omega)).mono fun e w' hh => ?_
    obtain ⟨rfl, m, os, rfl⟩ := hh
    generalize hys : ssort xs = ys at hlen' hylen
    let w' := Sort.grow (Sort.putRow encStr (Sort.ahead X.w m) b 0 (ys.map (·.data.toList)).toArray) os
    have hms : (X.w.heap.modify b (Sort.onCells (Sort.putCells encStr 0 (ys.map (·.data.toList)).toArray))).size = X.w.heap.size := by simp
    have hheap : ∀ k, k < X.w.heap.size → w'.heap[k]? = (X.w.heap.modify b (Sort.onCells (Sort.putCells encStr 0 (ys.map (·.data.toList)).toArray)))[k]? := by
      intro k hk
      show (X.w.heap.modify b _ ++ os)[k]? = _
      rw [Array.getElem?_append_left (by simpa using hk)]
    have hself : w'.heap[b]? = some (.cells (Sort.putCells encStr 0 (ys.map (·.data.toList)).toArray c) ty fr) := by
      rw [hheap b hblk.1, Array.getElem?_modify, if_pos rfl, g3]
      rfl
    have hoth : ∀ k, k < X.w.heap.size → k ≠ b → w'.heap[k]? = X.w.heap[k]? := by
      intro k hk hkb
      rw [hheap k hk, Array.getElem?_modify, if_neg (fun e => hkb e.symm)]
    let Y : Cx := { X with H := X.H.set id (.clo (ys.map cStr1) false), w := w' }
    have W : Wrote X Y id := ⟨rfl, rfl, fun _ => Iff.rfl, fun _ _ _ => rfl, rfl, fun i hi => set_get hi, by
      show X.w.heap.size ≤ (X.w.heap.modify b _ ++ os).size
      rw [Array.size_append, hms]
      exact Nat.le_add_right _ _, fun k hk hkb => hoth k hk (hkb b hb), ⟨_, _, hl, set_self hl, by simp only [Ent.len]; omega, fun _ => rfl, fun l h => by cases h⟩, hd, ⟨⟨rfl, rfl⟩, rfl, Nat.le_add_right _ _⟩, fun k hk => by rw [hb] at hk; cases hk; exact g9 rfl⟩
    have SY : SR Y := W.sr S M (fun e h => by
      have : Y.H[id]? = some (.clo (ys.map cStr1) false) := set_self hl
      rw [this] at h
      cases h
      refine ⟨fun e he => ?_, .inr ⟨b, _, ty, fr, hb, g2, hself, fun o ho => ?_, ?_, by rw [hylen]; exact g6, g7, (fun h => by cases h), g9, fun i j hi hj => ?_⟩⟩
      · obtain ⟨y, _, rfl⟩ := List.mem_map.1 he
        show 1 = (X.σ id).sz
        rw [hsz1]
      · have := g4 o (by simpa [Sort.putCells] using ho)
        unfold World.frozen? at this ⊢
        rw [g3] at this
        rw [hself]
        exact this
      · show (Sort.putCells encStr 0 (ys.map (·.data.toList)).toArray c).size = (X.σ id).cap * (X.σ id).sz
        rw [hsz1, ← g5]
        simp [Sort.putCells]
      · have hj : j < (X.σ id).sz := hj
        rw [hsz1] at hj
        have hi' : i < ys.length := by simpa using hi
        have hic : i < c.size := by rw [g5]; have := g6.2; rw [hylen] at hi; omega
        refine ⟨.string ys[i], ?_, cStr1 ys[i], .v (.string ys[i]), by rw [List.getElem?_map, List.getElem?_eq_getElem hi']; rfl, by rw [show j = 0 by omega]; rfl, .v _ rfl⟩
        show (Sort.putCells encStr 0 (ys.map (·.data.toList)).toArray c)[i * (X.σ id).sz + j]? = _
        rw [hsz1, show i * 1 + j = i by omega, Sort.putCells, Array.getElem?_mapIdx, Array.getElem?_eq_getElem hic, Option.map_some, if_pos ⟨Nat.zero_le _, by simpa using hi'⟩]
        simp [hi']) (fun b' h => .inl h)
    exact ⟨_, Y, rfl, rfl, W.nxt S M SY, rfl, fun id => by rw [show Y.D = X.D from rfl, hD]; simp, ⟨[], rfl, rfl, fun j p y hp => by simp at hp⟩⟩

end Go.Proofs.Vm
end

section
/- A base that also tells what a clone of nothing is: nothing, in memory of its own. -/
namespace Go.Proofs.Vm
open Go

variable {P : Program}

def cloRun (args : List AV) (H : Hp) : Option (AV × Hp) :=
  match args with
  | [.one (.c (.arr []))] => some (.one (.sl H.length 0 0 0), H ++ [.clo [] false])
  | _ => none
def strCloTab (s : FuncId) (cs : List FuncId) : Tab := ⟨fun _ _ => none, fun f args H => if f = s then sortSRun args H else if f ∈ cs then cloRun args H else none, false⟩
/-- A clone of a slice without elements is one without room, and turns nothing that is there. -/
def CloS (P : Program) (g : FuncId) : Prop := ∀ (a : Option Addr) (c : Nat) (w : World), Tabs w.heap.size w →
  Calls P g #[.slice a 0 c] w fun e w' => ∃ a', e = .returned (.slice a' 0 0) ∧ w.heap.size ≤ w'.heap.size ∧ (∀ b, b < w.heap.size → w'.heap[b]? = w.heap[b]?) ∧ Stl w w'
theorem cloS_of {g : FuncId} (h : ∀ a c, ∃ k H' fz, H'[k]? = some (.clo [] fz) ∧ SCtr P g [.one (.c (.v (.slice a 0 c)))] [] (.one (.sl k 0 0 0)) H') : CloS P g := fun a c w hT => by
  obtain ⟨k, H', fz, hk, hS⟩ := h a c
  let X : Cx := ⟨w.heap.size, w, fun _ => False, [], fun _ => ⟨none, none, 0, 0⟩, fun _ => False, w⟩
  have S : SR X := ⟨fun id e hd => hd.elim, fun i j b hi => hi.elim, Nat.le_refl _, fun _ _ => rfl, fun b hb => hb.elim, .refl w, hT⟩
  have M : Dom X := fun id hd => hd.elim
  refine (hS X S M rfl (fun id => ⟨fun h => h.elim, fun h => by simp at h⟩) [.slice a 0 c] ⟨rfl, fun j x y hx hy => ?_⟩).mono fun e w' hh => ?_
  · match j, hx, hy with
    | 0, hx, hy => cases hx; cases hy; exact .v _ rfl
  · obtain ⟨v, Y, rfl, rfl, N, hH, hD, hr⟩ := hh
    have hb : Y.base = w.heap.size := N.base
    have hw : Y.w0 = w := N.w0
    obtain ⟨_, hd, e0, he0, _, _, hp⟩ := hr
    rw [hH, hk] at he0
    cases he0
    obtain ⟨ad, cap, rfl, _, _, hc⟩ := hp rfl
    obtain ⟨_, hcap⟩ := hc rfl rfl
    have hent := N.sr.ent k _ hd (by rw [hH]; exact hk)
    have h0 : (Y.σ k).cap = 0 := by
      rcases hent.2 with h | ⟨b, c, ty, fr, _, _, _, _, _, h6, _⟩
      · exact h.2.2
      · exact absurd h6.1 (by simp)
    rw [h0] at hcap
    subst hcap
    refine ⟨ad, rfl, ?_, fun b hb' => ?_, ?_⟩
    · rw [← hb]; exact N.sr.size
    · have := N.sr.old b (by rw [hb]; exact hb')
      rw [hw] at this
      exact this
    · have := N.sr.kp
      rw [hw] at this
      exact this
theorem strCloTab_ok {s : FuncId} {cs : List FuncId} (hS : TOk P (strTab s)) (hC : ∀ g ∈ cs, FnOk P g ∧ CloS P g) : TOk P (strCloTab s cs) := by
  refine ⟨fun f args r h => (by cases h), fun f args H r H' h => ?_⟩
  simp only [strCloTab] at h
  split at h
  · rename_i hfs
    refine hS.2 f args H r H' ?_
    show (if f = s then sortSRun args H else none) = _
    rw [if_pos hfs]; exact h
  · split at h
    case isFalse => cases h
    rename_i hm
    unfold cloRun at h
    split at h
    case h_2 => cases h
    cases h
    obtain ⟨hf, hc⟩ := hC f hm
    refine ⟨⟨by simp, fun _ => List.prefix_append _ _⟩, hf, ?_⟩
    intro X S M hX hD vals hv
    have hv1 : vals.length = 1 := by rw [← hv.1]; rfl
    match vals, hv1 with
    | [v], _ =>
    have hr : RCell X (.c (.arr [])) v := hv.2 0 _ v rfl rfl
    cases hr with
    | arr l a c sz f hc' hs ha hr =>
    subst hX
    refine (hc a c X.w S.tabs).mono fun e w' hh => ?_
    obtain ⟨a', rfl, h1, h2, h3⟩ := hh
    have hK : ∀ (id : Nat) e, X.H[id]? = some e → (X.H ++ [Ent.clo [] false])[id]? = some e := fun id e he => by
      rw [List.getElem?_append_left (List.getElem?_eq_some_iff.1 he).1]; exact he
    have N1 := longer_nxt S M hK
    have hn : ¬ (longer X (X.H ++ [Ent.clo [] false])).D X.H.length := fun h => by
      have := (hD _).1 h
      omega
    obtain ⟨Y, rfl, hY, hs, _⟩ := SR.nil' N1.sr N1.dom X.H.length hn (f := false) (by show (X.H ++ [Ent.clo [] false])[X.H.length]? = _; simp) a' w' h1 h2 h3
    have hYH : Y.H = X.H ++ [Ent.clo [] false] := hY.ext.H
    have hYD : ∀ id, Y.D id ↔ id < (X.H ++ [Ent.clo [] false]).length := fun id => by
      rw [hY.D]
      show X.D id ∨ _ ↔ _
      rw [hD, List.length_append, List.length_singleton]
      omega
    refine ⟨_, Y, rfl, rfl, N1.trans (hY.nxt N1.sr), hYH, hYD, rfl, ?_, .clo [] false, ?_, Nat.le_refl _, Nat.zero_le _, fun _ => ⟨a', 0, rfl, Nat.le_refl _, fun h => absurd rfl h, fun _ _ => ⟨?_, ?_⟩⟩⟩
    · rw [hYD]; simp
    · rw [hYH]; simp
    · rw [hs]
    · rw [hs]
end Go.Proofs.Vm
end

section
/- A base that tells what a clone of nothing is, for these functions alone. -/
namespace Go.Proofs.Vm
open Go

variable {P : Program}

def cloTab (cs : List FuncId) : Tab := ⟨fun _ _ => none, fun f args H => if f ∈ cs then cloRun args H else none, false⟩
theorem cloTab_ok {cs : List FuncId} (hC : ∀ g ∈ cs, FnOk P g ∧ CloS P g) : TOk P (cloTab cs) := by
  refine ⟨fun f args r h => (by cases h), fun f args H r H' h => ?_⟩
  simp only [cloTab] at h
  split at h
  case isFalse => cases h
  rename_i hm
  unfold cloRun at h
  split at h
  case h_2 => cases h
  cases h
  obtain ⟨hf, hc⟩ := hC f hm
  refine ⟨⟨by simp, fun _ => List.prefix_append _ _⟩, hf, ?_⟩
  intro X S M hX hD vals hv
  have hv1 : vals.length = 1 := by rw [← hv.1]; rfl
  match vals, hv1 with
  | [v], _ =>
  have hr : RCell X (.c (.arr [])) v := hv.2 0 _ v rfl rfl
  cases hr with
  | arr l a c sz f hc' hs ha hr =>
  subst hX
  refine (hc a c X.w S.tabs).mono fun e w' hh => ?_
  obtain ⟨a', rfl, h1, h2, h3⟩ := hh
  have hK : ∀ (id : Nat) e, X.H[id]? = some e → (X.H ++ [Ent.clo [] false])[id]? = some e := fun id e he => by
    rw [List.getElem?_append_left (List.getElem?_eq_some_iff.1 he).1]; exact he
  have N1 := longer_nxt S M hK
  have hn : ¬ (longer X (X.H ++ [Ent.clo [] false])).D X.H.length := fun h => by
    have := (hD _).1 h
    omega
  obtain ⟨Y, rfl, hY, hs, _⟩ := SR.nil' N1.sr N1.dom X.H.length hn (f := false) (by show (X.H ++ [Ent.clo [] false])[X.H.length]? = _; simp) a' w' h1 h2 h3
  have hYH : Y.H = X.H ++ [Ent.clo [] false] := hY.ext.H
  have hYD : ∀ id, Y.D id ↔ id < (X.H ++ [Ent.clo [] false]).length := fun id => by
    rw [hY.D]
    show X.D id ∨ _ ↔ _
    rw [hD, List.length_append, List.length_singleton]
    omega
  refine ⟨_, Y, rfl, rfl, N1.trans (hY.nxt N1.sr), hYH, hYD, rfl, ?_, .clo [] false, ?_, Nat.le_refl _, Nat.zero_le _, fun _ => ⟨a', 0, rfl, Nat.le_refl _, fun h => absurd rfl h, fun _ _ => ⟨?_, ?_⟩⟩⟩
  · rw [hYD]; simp
  · rw [hYH]; simp
  · rw [hs]
  · rw [hs]
end Go.Proofs.Vm
end

section
/- Each function's run over the program's whole table. -/
namespace Go.Proofs.YtngpmpmhpggpgaaGreatDoorF
open Go Go.Proofs.Vm
def shF (g : FuncId) : Bool := g == 47 || g == 48 || g == 41 || g == 91 || g == 43 || g == 44 || g == 46 || g == 40 || g == 68 || g == 69 || g == 70 || g == 94 || g == 95 || g == 66 || g == 71 || g == 72
def neF (g : FuncId) : Bool := g == 66
def lt18 : Nat → List Nat := fun r => if r = 12 then [0, 1, 3, 7] else []
@[simp] theorem lt18_12 : lt18 12 = [0, 1, 3, 7] := by decide
@[simp] theorem lt18_no {r : Nat} (h : ¬ r = 12) : lt18 r = [] := by unfold lt18; simp [h]
def ltF (f : FuncId) : Nat → List Nat := if f = 18 then lt18 else noLate
def cfg : Cfg := ⟨shF, neF, orTab (tzTab 90) (orTab (sortTab 71) (orTab (cloTab [48]) (itmTab 72 73 100 48 ordI))), ltF⟩
noncomputable def TV : Tab := TT Tryz.prog cfg
@[simp] theorem TV_cb : TV.cb = false := rfl
@[simp] theorem sh71 : shF 71 = true := by decide
@[simp] theorem sh72 : shF 72 = true := by decide
@[simp] theorem sh3 : shF 3 = false := by decide
theorem run3 {args : List CA} {r : CA} (hl : args.length ≤ 166) (h : wpV Tryz.prog TV ⟨166, shF, false, noLate⟩ (Tryz.f3.body.getD .skip) (endK Tryz.prog Tryz.f3.results.toList r) ⟨env0 args, []⟩) : TV.pu 3 args = some r := TT_go (N := ⟨166, shF, false, noLate⟩) Tryz.func3 (by kernel_rfl) ok3 (by kernel_rfl) (by kernel_rfl) (fun _ => rfl) hl h -- rillmeter/rillmeterlaw18.UnivAlone
@[simp] theorem sh4 : shF 4 = false := by decide
theorem run4 {args : List CA} {r : CA} (hl : args.length ≤ 135) (h : wpV Tryz.prog TV ⟨135, shF, false, noLate⟩ (Tryz.f4.body.getD .skip) (endK Tryz.prog Tryz.f4.results.toList r) ⟨env0 args, []⟩) : TV.pu 4 args = some r := TT_go (N := ⟨135, shF, false, noLate⟩) Tryz.func4 (by kernel_rfl) ok4 (by kernel_rfl) (by kernel_rfl) (fun _ => rfl) hl h -- rillmeter/rillmeterlaw18.UnivNews
@[simp] theorem sh5 : shF 5 = false := by decide
theorem run5 {args : List CA} {r : CA} (hl : args.length ≤ 110) (h : wpV Tryz.prog TV ⟨110, shF, false, noLate⟩ (Tryz.f5.body.getD .skip) (endK Tryz.prog Tryz.f5.results.toList r) ⟨env0 args, []⟩) : TV.pu 5 args = some r := TT_go (N := ⟨110, shF, false, noLate⟩) Tryz.func5 (by kernel_rfl) ok5 (by kernel_rfl) (by kernel_rfl) (fun _ => rfl) hl h -- rillmeter/rillmeterlaw18.UnivSums
@[simp] theorem sh6 : shF 6 = false := by decide
theorem run6 {args : List CA} {r : CA} (hl : args.length ≤ 163) (h : wpV Tryz.prog TV ⟨163, shF, false, noLate⟩ (Tryz.f6.body.getD .skip) (endK Tryz.prog Tryz.f6.results.toList r) ⟨env0 args, []⟩) : TV.pu 6 args = some r := TT_go (N := ⟨163, shF, false, noLate⟩) Tryz.func6 (by kernel_rfl) ok6 (by kernel_rfl) (by kernel_rfl) (fun _ => rfl) hl h -- rillmeter/rillmeterlaw18.UnivTurns
@[simp] theorem sh7 : shF 7 = false := by decide
theorem run7 {args : List CA} {r : CA} (hl : args.length ≤ 82) (h : wpV Tryz.prog TV ⟨82, shF, false, noLate⟩ (Tryz.f7.body.getD .skip) (endK Tryz.prog Tryz.f7.results.toList r) ⟨env0 args, []⟩) : TV.pu 7 args = some r := TT_go (N := ⟨82, shF, false, noLate⟩) Tryz.func7 (by kernel_rfl) ok7 (by kernel_rfl) (by kernel_rfl) (fun _ => rfl) hl h -- rillmeter/rillmeterlaw18.fed
@[simp] theorem sh8 : shF 8 = false := by decide
theorem run8 {args : List CA} {r : CA} (hl : args.length ≤ 42) (h : wpV Tryz.prog TV ⟨42, shF, false, noLate⟩ (Tryz.f8.body.getD .skip) (endK Tryz.prog Tryz.f8.results.toList r) ⟨env0 args, []⟩) : TV.pu 8 args = some r := TT_go (N := ⟨42, shF, false, noLate⟩) Tryz.func8 (by kernel_rfl) ok8 (by kernel_rfl) (by kernel_rfl) (fun _ => rfl) hl h -- rillmeter/rillmeterlaw18.awake
@[simp] theorem sh9 : shF 9 = false := by decide
theorem run9 {args : List CA} {r : CA} (hl : args.length ≤ 17) (h : wpV Tryz.prog TV ⟨17, shF, false, noLate⟩ (Tryz.f9.body.getD .skip) (endK Tryz.prog Tryz.f9.results.toList r) ⟨env0 args, []⟩) : TV.pu 9 args = some r := TT_go (N := ⟨17, shF, false, noLate⟩) Tryz.func9 (by kernel_rfl) ok9 (by kernel_rfl) (by kernel_rfl) (fun _ => rfl) hl h -- rillmeter/rillmeterref02.Row
@[simp] theorem sh10 : shF 10 = false := by decide
theorem run10 {args : List CA} {r : CA} (hl : args.length ≤ 16) (h : wpV Tryz.prog TV ⟨16, shF, false, noLate⟩ (Tryz.f10.body.getD .skip) (endK Tryz.prog Tryz.f10.results.toList r) ⟨env0 args, []⟩) : TV.pu 10 args = some r := TT_go (N := ⟨16, shF, false, noLate⟩) Tryz.func10 (by kernel_rfl) ok10 (by kernel_rfl) (by kernel_rfl) (fun _ => rfl) hl h -- rillmeter/rillmeterref12.Cell
@[simp] theorem sh11 : shF 11 = false := by decide
theorem run11 {args : List CA} {r : CA} (hl : args.length ≤ 25) (h : wpV Tryz.prog TV ⟨25, shF, false, noLate⟩ (Tryz.f11.body.getD .skip) (endK Tryz.prog Tryz.f11.results.toList r) ⟨env0 args, []⟩) : TV.pu 11 args = some r := TT_go (N := ⟨25, shF, false, noLate⟩) Tryz.func11 (by kernel_rfl) ok11 (by kernel_rfl) (by kernel_rfl) (fun _ => rfl) hl h -- rillmeter/rillmeterref02.Level
@[simp] theorem sh12 : shF 12 = false := by decide
theorem run12 {args : List CA} {r : CA} (hl : args.length ≤ 61) (h : wpV Tryz.prog TV ⟨61, shF, false, noLate⟩ (Tryz.f12.body.getD .skip) (endK Tryz.prog Tryz.f12.results.toList r) ⟨env0 args, []⟩) : TV.pu 12 args = some r := TT_go (N := ⟨61, shF, false, noLate⟩) Tryz.func12 (by kernel_rfl) ok12 (by kernel_rfl) (by kernel_rfl) (fun _ => rfl) hl h -- rillmeter/univ.New
@[simp] theorem sh13 : shF 13 = false := by decide
theorem run13 {args : List CA} {r : CA} (hl : args.length ≤ 132) (h : wpV Tryz.prog TV ⟨132, shF, false, noLate⟩ (Tryz.f13.body.getD .skip) (endK Tryz.prog Tryz.f13.results.toList r) ⟨env0 args, []⟩) : TV.pu 13 args = some r := TT_go (N := ⟨132, shF, false, noLate⟩) Tryz.func13 (by kernel_rfl) ok13 (by kernel_rfl) (by kernel_rfl) (fun _ => rfl) hl h -- rillmeter/rillmeterref18.Right
@[simp] theorem sh14 : shF 14 = false := by decide
theorem run14 {args : List CA} {r : CA} (hl : args.length ≤ 31) (h : wpV Tryz.prog TV ⟨31, shF, false, noLate⟩ (Tryz.f14.body.getD .skip) (endK Tryz.prog Tryz.f14.results.toList r) ⟨env0 args, []⟩) : TV.pu 14 args = some r := TT_go (N := ⟨31, shF, false, noLate⟩) Tryz.func14 (by kernel_rfl) ok14 (by kernel_rfl) (by kernel_rfl) (fun _ => rfl) hl h -- rillmeter/rillmeterlaw18.ref
@[simp] theorem sh15 : shF 15 = false := by decide
theorem run15 {args : List CA} {r : CA} (hl : args.length ≤ 70) (h : wpV Tryz.prog TV ⟨70, shF, false, noLate⟩ (Tryz.f15.body.getD .skip) (endK Tryz.prog Tryz.f15.results.toList r) ⟨env0 args, []⟩) : TV.pu 15 args = some r := TT_go (N := ⟨70, shF, false, noLate⟩) Tryz.func15 (by kernel_rfl) ok15 (by kernel_rfl) (by kernel_rfl) (fun _ => rfl) hl h -- rillmeter/univ.Sum
@[simp] theorem sh16 : shF 16 = false := by decide
theorem run16 {args : List CA} {r : CA} (hl : args.length ≤ 27) (h : wpV Tryz.prog TV ⟨27, shF, false, noLate⟩ (Tryz.f16.body.getD .skip) (endK Tryz.prog Tryz.f16.results.toList r) ⟨env0 args, []⟩) : TV.pu 16 args = some r := TT_go (N := ⟨27, shF, false, noLate⟩) Tryz.func16 (by kernel_rfl) ok16 (by kernel_rfl) (by kernel_rfl) (fun _ => rfl) hl h -- rillmeter/univ.Count
@[simp] theorem sh17 : shF 17 = false := by decide
theorem run17 {args : List CA} {r : CA} (hl : args.length ≤ 70) (h : wpV Tryz.prog TV ⟨70, shF, false, noLate⟩ (Tryz.f17.body.getD .skip) (endK Tryz.prog Tryz.f17.results.toList r) ⟨env0 args, []⟩) : TV.pu 17 args = some r := TT_go (N := ⟨70, shF, false, noLate⟩) Tryz.func17 (by kernel_rfl) ok17 (by kernel_rfl) (by kernel_rfl) (fun _ => rfl) hl h -- rillmeter/rillmeterref18.Small
@[simp] theorem sh18 : shF 18 = false := by decide
theorem run18 {args : List CA} {r : CA} (hl : args.length ≤ 65) (h : wpV Tryz.prog TV ⟨65, shF, false, lt18⟩ (Tryz.f18.body.getD .skip) (endK Tryz.prog Tryz.f18.results.toList r) ⟨env0 args, []⟩) : TV.pu 18 args = some r := TT_go (N := ⟨65, shF, false, lt18⟩) Tryz.func18 (by kernel_rfl) ok18 (by kernel_rfl) (by kernel_rfl) (fun _ => rfl) hl h -- rillmeter/univ.Add
@[simp] theorem sh19 : shF 19 = false := by decide
theorem run19 {args : List CA} {r : CA} (hl : args.length ≤ 15) (h : wpV Tryz.prog TV ⟨15, shF, false, noLate⟩ (Tryz.f19.body.getD .skip) (endK Tryz.prog Tryz.f19.results.toList r) ⟨env0 args, []⟩) : TV.pu 19 args = some r := TT_go (N := ⟨15, shF, false, noLate⟩) Tryz.func19 (by kernel_rfl) ok19 (by kernel_rfl) (by kernel_rfl) (fun _ => rfl) hl h -- rillmeter/univ.Get
@[simp] theorem sh20 : shF 20 = false := by decide
theorem run20 {args : List CA} {r : CA} (hl : args.length ≤ 16) (h : wpV Tryz.prog TV ⟨16, shF, false, noLate⟩ (Tryz.f20.body.getD .skip) (endK Tryz.prog Tryz.f20.results.toList r) ⟨env0 args, []⟩) : TV.pu 20 args = some r := TT_go (N := ⟨16, shF, false, noLate⟩) Tryz.func20 (by kernel_rfl) ok20 (by kernel_rfl) (by kernel_rfl) (fun _ => rfl) hl h -- rillmeter/univ.List
@[simp] theorem sh21 : shF 21 = false := by decide
theorem run21 {args : List CA} {r : CA} (hl : args.length ≤ 92) (h : wpV Tryz.prog TV ⟨92, shF, false, noLate⟩ (Tryz.f21.body.getD .skip) (endK Tryz.prog Tryz.f21.results.toList r) ⟨env0 args, []⟩) : TV.pu 21 args = some r := TT_go (N := ⟨92, shF, false, noLate⟩) Tryz.func21 (by kernel_rfl) ok21 (by kernel_rfl) (by kernel_rfl) (fun _ => rfl) hl h -- rillmeter/univ.Right
@[simp] theorem sh22 : shF 22 = false := by decide
theorem run22 {args : List CA} {r : CA} (hl : args.length ≤ 63) (h : wpV Tryz.prog TV ⟨63, shF, false, noLate⟩ (Tryz.f22.body.getD .skip) (endK Tryz.prog Tryz.f22.results.toList r) ⟨env0 args, []⟩) : TV.pu 22 args = some r := TT_go (N := ⟨63, shF, false, noLate⟩) Tryz.func22 (by kernel_rfl) ok22 (by kernel_rfl) (by kernel_rfl) (fun _ => rfl) hl h -- rillmeter/rillmeterref18.Sum
@[simp] theorem sh23 : shF 23 = false := by decide
theorem run23 {args : List CA} {r : CA} (hl : args.length ≤ 95) (h : wpV Tryz.prog TV ⟨95, shF, false, noLate⟩ (Tryz.f23.body.getD .skip) (endK Tryz.prog Tryz.f23.results.toList r) ⟨env0 args, []⟩) : TV.pu 23 args = some r := TT_go (N := ⟨95, shF, false, noLate⟩) Tryz.func23 (by kernel_rfl) ok23 (by kernel_rfl) (by kernel_rfl) (fun _ => rfl) hl h -- rillmeter/rillmeterref12.Get
@[simp] theorem sh24 : shF 24 = false := by decide
theorem run24 {args : List CA} {r : CA} (hl : args.length ≤ 26) (h : wpV Tryz.prog TV ⟨26, shF, false, noLate⟩ (Tryz.f24.body.getD .skip) (endK Tryz.prog Tryz.f24.results.toList r) ⟨env0 args, []⟩) : TV.pu 24 args = some r := TT_go (N := ⟨26, shF, false, noLate⟩) Tryz.func24 (by kernel_rfl) ok24 (by kernel_rfl) (by kernel_rfl) (fun _ => rfl) hl h -- rillmeter/rillmeterref18.Same
@[simp] theorem sh25 : shF 25 = false := by decide
theorem run25 {args : List CA} {r : CA} (hl : args.length ≤ 18) (h : wpV Tryz.prog TV ⟨18, shF, false, noLate⟩ (Tryz.f25.body.getD .skip) (endK Tryz.prog Tryz.f25.results.toList r) ⟨env0 args, []⟩) : TV.pu 25 args = some r := TT_go (N := ⟨18, shF, false, noLate⟩) Tryz.func25 (by kernel_rfl) ok25 (by kernel_rfl) (by kernel_rfl) (fun _ => rfl) hl h -- rillmeter/rillmeterlaw18.items
@[simp] theorem sh26 : shF 26 = false := by decide
theorem run26 {args : List CA} {r : CA} (hl : args.length ≤ 60) (h : wpV Tryz.prog TV ⟨60, shF, false, noLate⟩ (Tryz.f26.body.getD .skip) (endK Tryz.prog Tryz.f26.results.toList r) ⟨env0 args, []⟩) : TV.pu 26 args = some r := TT_go (N := ⟨60, shF, false, noLate⟩) Tryz.func26 (by kernel_rfl) ok26 (by kernel_rfl) (by kernel_rfl) (fun _ => rfl) hl h -- rillmeter/rillmeterref18.Add
@[simp] theorem sh27 : shF 27 = false := by decide
theorem run27 {args : List CA} {r : CA} (hl : args.length ≤ 64) (h : wpV Tryz.prog TV ⟨64, shF, false, noLate⟩ (Tryz.f27.body.getD .skip) (endK Tryz.prog Tryz.f27.results.toList r) ⟨env0 args, []⟩) : TV.pu 27 args = some r := TT_go (N := ⟨64, shF, false, noLate⟩) Tryz.func27 (by kernel_rfl) ok27 (by kernel_rfl) (by kernel_rfl) (fun _ => rfl) hl h -- rillmeter/rillmeterref18.Equal
@[simp] theorem sh28 : shF 28 = false := by decide
theorem run28 {args : List CA} {r : CA} (hl : args.length ≤ 22) (h : wpV Tryz.prog TV ⟨22, shF, false, noLate⟩ (Tryz.f28.body.getD .skip) (endK Tryz.prog Tryz.f28.results.toList r) ⟨env0 args, []⟩) : TV.pu 28 args = some r := TT_go (N := ⟨22, shF, false, noLate⟩) Tryz.func28 (by kernel_rfl) ok28 (by kernel_rfl) (by kernel_rfl) (fun _ => rfl) hl h -- rillmeter/rillmeterref10.Short
@[simp] theorem sh29 : shF 29 = false := by decide
theorem run29 {args : List CA} {r : CA} (hl : args.length ≤ 41) (h : wpV Tryz.prog TV ⟨41, shF, false, noLate⟩ (Tryz.f29.body.getD .skip) (endK Tryz.prog Tryz.f29.results.toList r) ⟨env0 args, []⟩) : TV.pu 29 args = some r := TT_go (N := ⟨41, shF, false, noLate⟩) Tryz.func29 (by kernel_rfl) ok29 (by kernel_rfl) (by kernel_rfl) (fun _ => rfl) hl h -- rillmeter/univ.Log
@[simp] theorem sh30 : shF 30 = false := by decide
theorem run30 {args : List CA} {r : CA} (hl : args.length ≤ 26) (h : wpV Tryz.prog TV ⟨26, shF, false, noLate⟩ (Tryz.f30.body.getD .skip) (endK Tryz.prog Tryz.f30.results.toList r) ⟨env0 args, []⟩) : TV.pu 30 args = some r := TT_go (N := ⟨26, shF, false, noLate⟩) Tryz.func30 (by kernel_rfl) ok30 (by kernel_rfl) (by kernel_rfl) (fun _ => rfl) hl h -- rillmeter/rillmeterref01.Mul
@[simp] theorem sh31 : shF 31 = false := by decide
theorem run31 {args : List CA} {r : CA} (hl : args.length ≤ 11) (h : wpV Tryz.prog TV ⟨11, shF, false, noLate⟩ (Tryz.f31.body.getD .skip) (endK Tryz.prog Tryz.f31.results.toList r) ⟨env0 args, []⟩) : TV.pu 31 args = some r := TT_go (N := ⟨11, shF, false, noLate⟩) Tryz.func31 (by kernel_rfl) ok31 (by kernel_rfl) (by kernel_rfl) (fun _ => rfl) hl h -- rillmeter/rillmeterref01.Add
@[simp] theorem sh32 : shF 32 = false := by decide
theorem run32 {args : List CA} {r : CA} (hl : args.length ≤ 22) (h : wpV Tryz.prog TV ⟨22, shF, false, noLate⟩ (Tryz.f32.body.getD .skip) (endK Tryz.prog Tryz.f32.results.toList r) ⟨env0 args, []⟩) : TV.pu 32 args = some r := TT_go (N := ⟨22, shF, false, noLate⟩) Tryz.func32 (by kernel_rfl) ok32 (by kernel_rfl) (by kernel_rfl) (fun _ => rfl) hl h -- rillmeter/rillmeterref01.Pow
@[simp] theorem sh33 : shF 33 = false := by decide
theorem run33 {args : List CA} {r : CA} (hl : args.length ≤ 16) (h : wpV Tryz.prog TV ⟨16, shF, false, noLate⟩ (Tryz.f33.body.getD .skip) (endK Tryz.prog Tryz.f33.results.toList r) ⟨env0 args, []⟩) : TV.pu 33 args = some r := TT_go (N := ⟨16, shF, false, noLate⟩) Tryz.func33 (by kernel_rfl) ok33 (by kernel_rfl) (by kernel_rfl) (fun _ => rfl) hl h -- rillmeter/rillmeterref02.Cell
@[simp] theorem sh34 : shF 34 = false := by decide
theorem run34 {args : List CA} {r : CA} (hl : args.length ≤ 36) (h : wpV Tryz.prog TV ⟨36, shF, false, noLate⟩ (Tryz.f34.body.getD .skip) (endK Tryz.prog Tryz.f34.results.toList r) ⟨env0 args, []⟩) : TV.pu 34 args = some r := TT_go (N := ⟨36, shF, false, noLate⟩) Tryz.func34 (by kernel_rfl) ok34 (by kernel_rfl) (by kernel_rfl) (fun _ => rfl) hl h -- rillmeter/rillmeterref02.Sum
@[simp] theorem sh35 : shF 35 = false := by decide
theorem run35 {args : List CA} {r : CA} (hl : args.length ≤ 43) (h : wpV Tryz.prog TV ⟨43, shF, false, noLate⟩ (Tryz.f35.body.getD .skip) (endK Tryz.prog Tryz.f35.results.toList r) ⟨env0 args, []⟩) : TV.pu 35 args = some r := TT_go (N := ⟨43, shF, false, noLate⟩) Tryz.func35 (by kernel_rfl) ok35 (by kernel_rfl) (by kernel_rfl) (fun _ => rfl) hl h -- rillmeter/signed.New
@[simp] theorem sh36 : shF 36 = false := by decide
theorem run36 {args : List CA} {r : CA} (hl : args.length ≤ 17) (h : wpV Tryz.prog TV ⟨17, shF, false, noLate⟩ (Tryz.f36.body.getD .skip) (endK Tryz.prog Tryz.f36.results.toList r) ⟨env0 args, []⟩) : TV.pu 36 args = some r := TT_go (N := ⟨17, shF, false, noLate⟩) Tryz.func36 (by kernel_rfl) ok36 (by kernel_rfl) (by kernel_rfl) (fun _ => rfl) hl h -- rillmeter/hash.Row
@[simp] theorem sh37 : shF 37 = false := by decide
theorem run37 {args : List CA} {r : CA} (hl : args.length ≤ 65) (h : wpV Tryz.prog TV ⟨65, shF, false, noLate⟩ (Tryz.f37.body.getD .skip) (endK Tryz.prog Tryz.f37.results.toList r) ⟨env0 args, []⟩) : TV.pu 37 args = some r := TT_go (N := ⟨65, shF, false, noLate⟩) Tryz.func37 (by kernel_rfl) ok37 (by kernel_rfl) (by kernel_rfl) (fun _ => rfl) hl h -- rillmeter/rillmeterref12.Right
@[simp] theorem sh38 : shF 38 = false := by decide
theorem run38 {args : List CA} {r : CA} (hl : args.length ≤ 24) (h : wpV Tryz.prog TV ⟨24, shF, false, noLate⟩ (Tryz.f38.body.getD .skip) (endK Tryz.prog Tryz.f38.results.toList r) ⟨env0 args, []⟩) : TV.pu 38 args = some r := TT_go (N := ⟨24, shF, false, noLate⟩) Tryz.func38 (by kernel_rfl) ok38 (by kernel_rfl) (by kernel_rfl) (fun _ => rfl) hl h -- rillmeter/rillmeterref14.Ahead
@[simp] theorem sh39 : shF 39 = false := by decide
theorem run39 {args : List CA} {r : CA} (hl : args.length ≤ 28) (h : wpV Tryz.prog TV ⟨28, shF, false, noLate⟩ (Tryz.f39.body.getD .skip) (endK Tryz.prog Tryz.f39.results.toList r) ⟨env0 args, []⟩) : TV.pu 39 args = some r := TT_go (N := ⟨28, shF, false, noLate⟩) Tryz.func39 (by kernel_rfl) ok39 (by kernel_rfl) (by kernel_rfl) (fun _ => rfl) hl h -- rillmeter/rillmeterref14.Without
@[simp] theorem sh40 : shF 40 = true := by decide
@[simp] theorem cl40 : isCl Tryz.prog 40 = false := by kernel_rfl
theorem runX40 {args : List AV} {H : Hp} {Q : AV → Hp → Prop} (hl : args.length ≤ 14) (hQ : ∀ a K, Q a K → H.length ≤ K.length) (h : wpV Tryz.prog TV ⟨14, shF, false, noLate⟩ (Tryz.f40.body.getD .skip) (endX Tryz.prog Tryz.f40.results.toList Q) ⟨envS args, H⟩) : ∃ a K, TV.S 40 args H = some (a, K) ∧ Q a K := TT_goX (N := ⟨14, shF, false, noLate⟩) Tryz.func40 (by kernel_rfl) ok40 (by kernel_rfl) (by kernel_rfl) rfl hl (by kernel_rfl) hQ h -- rillmeter/univ.level
theorem run40 {args : List AV} {r : AV} {H H' : Hp} (hl : args.length ≤ 14) (hH : Gr Tryz.prog 40 H H') (h : wpV Tryz.prog TV ⟨14, shF, false, noLate⟩ (Tryz.f40.body.getD .skip) (endS Tryz.prog Tryz.f40.results.toList r H') ⟨envS args, H⟩) : TV.S 40 args H = some (r, H') := TT_goS (N := ⟨14, shF, false, noLate⟩) Tryz.func40 (by kernel_rfl) ok40 (by kernel_rfl) (by kernel_rfl) rfl hl hH h -- rillmeter/univ.level
@[simp] theorem sh41 : shF 41 = true := by decide
@[simp] theorem cl41 : isCl Tryz.prog 41 = true := by kernel_rfl
theorem run41 {args : List AV} {r : AV} {H H' : Hp} (hl : args.length ≤ 8) (hH : Gr Tryz.prog 41 H H') (h : wpV Tryz.prog TV ⟨8, shF, false, noLate⟩ (Tryz.f41.body.getD .skip) (endS Tryz.prog Tryz.f41.results.toList r H') ⟨envS args, H⟩) : TV.S 41 args H = some (r, H') := TT_goS (N := ⟨8, shF, false, noLate⟩) Tryz.func41 (by kernel_rfl) ok41 (by kernel_rfl) (by kernel_rfl) rfl hl hH h -- slices.Clone[[]rillmeter/univ.Level,rillmeter/univ.Level]
@[simp] theorem sh42 : shF 42 = false := by decide
theorem run42 {args : List CA} {r : CA} (hl : args.length ≤ 56) (h : wpV Tryz.prog TV ⟨56, shF, false, noLate⟩ (Tryz.f42.body.getD .skip) (endK Tryz.prog Tryz.f42.results.toList r) ⟨env0 args, []⟩) : TV.pu 42 args = some r := TT_go (N := ⟨56, shF, false, noLate⟩) Tryz.func42 (by kernel_rfl) ok42 (by kernel_rfl) (by kernel_rfl) (fun _ => rfl) hl h -- rillmeter/signed.Add
@[simp] theorem sh43 : shF 43 = true := by decide
@[simp] theorem cl43 : isCl Tryz.prog 43 = false := by kernel_rfl
theorem runX43 {args : List AV} {H : Hp} {Q : AV → Hp → Prop} (hl : args.length ≤ 24) (hQ : ∀ a K, Q a K → H.length ≤ K.length) (h : wpV Tryz.prog TV ⟨24, shF, false, noLate⟩ (Tryz.f43.body.getD .skip) (endX Tryz.prog Tryz.f43.results.toList Q) ⟨envS args, H⟩) : ∃ a K, TV.S 43 args H = some (a, K) ∧ Q a K := TT_goX (N := ⟨24, shF, false, noLate⟩) Tryz.func43 (by kernel_rfl) ok43 (by kernel_rfl) (by kernel_rfl) rfl hl (by kernel_rfl) hQ h -- rillmeter/heavy.Of
theorem run43 {args : List AV} {r : AV} {H H' : Hp} (hl : args.length ≤ 24) (hH : Gr Tryz.prog 43 H H') (h : wpV Tryz.prog TV ⟨24, shF, false, noLate⟩ (Tryz.f43.body.getD .skip) (endS Tryz.prog Tryz.f43.results.toList r H') ⟨envS args, H⟩) : TV.S 43 args H = some (r, H') := TT_goS (N := ⟨24, shF, false, noLate⟩) Tryz.func43 (by kernel_rfl) ok43 (by kernel_rfl) (by kernel_rfl) rfl hl hH h -- rillmeter/heavy.Of
@[simp] theorem sh44 : shF 44 = true := by decide
@[simp] theorem cl44 : isCl Tryz.prog 44 = false := by kernel_rfl
theorem runX44 {args : List AV} {H : Hp} {Q : AV → Hp → Prop} (hl : args.length ≤ 103) (hQ : ∀ a K, Q a K → H.length ≤ K.length) (h : wpV Tryz.prog TV ⟨103, shF, false, noLate⟩ (Tryz.f44.body.getD .skip) (endX Tryz.prog Tryz.f44.results.toList Q) ⟨envS args, H⟩) : ∃ a K, TV.S 44 args H = some (a, K) ∧ Q a K := TT_goX (N := ⟨103, shF, false, noLate⟩) Tryz.func44 (by kernel_rfl) ok44 (by kernel_rfl) (by kernel_rfl) rfl hl (by kernel_rfl) hQ h -- (*rillmeter/heavy.Heap).Offer
theorem run44 {args : List AV} {r : AV} {H H' : Hp} (hl : args.length ≤ 103) (hH : Gr Tryz.prog 44 H H') (h : wpV Tryz.prog TV ⟨103, shF, false, noLate⟩ (Tryz.f44.body.getD .skip) (endS Tryz.prog Tryz.f44.results.toList r H') ⟨envS args, H⟩) : TV.S 44 args H = some (r, H') := TT_goS (N := ⟨103, shF, false, noLate⟩) Tryz.func44 (by kernel_rfl) ok44 (by kernel_rfl) (by kernel_rfl) rfl hl hH h -- (*rillmeter/heavy.Heap).Offer
@[simp] theorem sh45 : shF 45 = false := by decide
theorem run45 {args : List CA} {r : CA} (hl : args.length ≤ 46) (h : wpV Tryz.prog TV ⟨46, shF, false, noLate⟩ (Tryz.f45.body.getD .skip) (endK Tryz.prog Tryz.f45.results.toList r) ⟨env0 args, []⟩) : TV.pu 45 args = some r := TT_go (N := ⟨46, shF, false, noLate⟩) Tryz.func45 (by kernel_rfl) ok45 (by kernel_rfl) (by kernel_rfl) (fun _ => rfl) hl h -- rillmeter/signed.Get
@[simp] theorem sh46 : shF 46 = true := by decide
@[simp] theorem cl46 : isCl Tryz.prog 46 = false := by kernel_rfl
theorem runX46 {args : List AV} {H : Hp} {Q : AV → Hp → Prop} (hl : args.length ≤ 14) (hQ : ∀ a K, Q a K → H.length ≤ K.length) (h : wpV Tryz.prog TV ⟨14, shF, false, noLate⟩ (Tryz.f46.body.getD .skip) (endX Tryz.prog Tryz.f46.results.toList Q) ⟨envS args, H⟩) : ∃ a K, TV.S 46 args H = some (a, K) ∧ Q a K := TT_goX (N := ⟨14, shF, false, noLate⟩) Tryz.func46 (by kernel_rfl) ok46 (by kernel_rfl) (by kernel_rfl) rfl hl (by kernel_rfl) hQ h -- (*rillmeter/heavy.Heap).List
theorem run46 {args : List AV} {r : AV} {H H' : Hp} (hl : args.length ≤ 14) (hH : Gr Tryz.prog 46 H H') (h : wpV Tryz.prog TV ⟨14, shF, false, noLate⟩ (Tryz.f46.body.getD .skip) (endS Tryz.prog Tryz.f46.results.toList r H') ⟨envS args, H⟩) : TV.S 46 args H = some (r, H') := TT_goS (N := ⟨14, shF, false, noLate⟩) Tryz.func46 (by kernel_rfl) ok46 (by kernel_rfl) (by kernel_rfl) rfl hl hH h -- (*rillmeter/heavy.Heap).List
@[simp] theorem sh47 : shF 47 = true := by decide
@[simp] theorem cl47 : isCl Tryz.prog 47 = false := by kernel_rfl
theorem runX47 {args : List AV} {H : Hp} {Q : AV → Hp → Prop} (hl : args.length ≤ 42) (hQ : ∀ a K, Q a K → H.length ≤ K.length) (h : wpV Tryz.prog TV ⟨42, shF, false, noLate⟩ (Tryz.f47.body.getD .skip) (endX Tryz.prog Tryz.f47.results.toList Q) ⟨envS args, H⟩) : ∃ a K, TV.S 47 args H = some (a, K) ∧ Q a K := TT_goX (N := ⟨42, shF, false, noLate⟩) Tryz.func47 (by kernel_rfl) ok47 (by kernel_rfl) (by kernel_rfl) rfl hl (by kernel_rfl) hQ h -- slices.DeleteFunc[[]rillmeter/heavy.Item,rillmeter/heavy.Item]
theorem run47 {args : List AV} {r : AV} {H H' : Hp} (hl : args.length ≤ 42) (hH : Gr Tryz.prog 47 H H') (h : wpV Tryz.prog TV ⟨42, shF, false, noLate⟩ (Tryz.f47.body.getD .skip) (endS Tryz.prog Tryz.f47.results.toList r H') ⟨envS args, H⟩) : TV.S 47 args H = some (r, H') := TT_goS (N := ⟨42, shF, false, noLate⟩) Tryz.func47 (by kernel_rfl) ok47 (by kernel_rfl) (by kernel_rfl) rfl hl hH h -- slices.DeleteFunc[[]rillmeter/heavy.Item,rillmeter/heavy.Item]
@[simp] theorem sh48 : shF 48 = true := by decide
@[simp] theorem cl48 : isCl Tryz.prog 48 = true := by kernel_rfl
theorem run48 {args : List AV} {r : AV} {H H' : Hp} (hb : cfg.base.S 48 args H = none) (hl : args.length ≤ 8) (hH : Gr Tryz.prog 48 H H') (h : wpV Tryz.prog TV ⟨8, shF, false, noLate⟩ (Tryz.f48.body.getD .skip) (endS Tryz.prog Tryz.f48.results.toList r H') ⟨envS args, H⟩) : TV.S 48 args H = some (r, H') := TT_goS (N := ⟨8, shF, false, noLate⟩) Tryz.func48 (by kernel_rfl) ok48 (by kernel_rfl) (by kernel_rfl) hb hl hH h -- slices.Clone[[]rillmeter/heavy.Item,rillmeter/heavy.Item]
@[simp] theorem sh49 : shF 49 = false := by decide
theorem run49 {args : List CA} {r : CA} (hl : args.length ≤ 8) (h : wpV Tryz.prog TV ⟨8, shF, false, noLate⟩ (Tryz.f49.body.getD .skip) (endK Tryz.prog Tryz.f49.results.toList r) ⟨env0 args, []⟩) : TV.pu 49 args = some r := TT_go (N := ⟨8, shF, false, noLate⟩) Tryz.func49 (by kernel_rfl) ok49 (by kernel_rfl) (by kernel_rfl) (fun _ => rfl) hl h -- rillmeter/univ.List$1
@[simp] theorem sh50 : shF 50 = false := by decide
theorem run50 {args : List CA} {r : CA} (hl : args.length ≤ 19) (h : wpV Tryz.prog TV ⟨19, shF, false, noLate⟩ (Tryz.f50.body.getD .skip) (endK Tryz.prog Tryz.f50.results.toList r) ⟨env0 args, []⟩) : TV.pu 50 args = some r := TT_go (N := ⟨19, shF, false, noLate⟩) Tryz.func50 (by kernel_rfl) ok50 (by kernel_rfl) (by kernel_rfl) (fun _ => rfl) hl h -- rillmeter/signed.Right
@[simp] theorem sh51 : shF 51 = false := by decide
theorem run51 {args : List CA} {r : CA} (hl : args.length ≤ 32) (h : wpV Tryz.prog TV ⟨32, shF, false, noLate⟩ (Tryz.f51.body.getD .skip) (endK Tryz.prog Tryz.f51.results.toList r) ⟨env0 args, []⟩) : TV.pu 51 args = some r := TT_go (N := ⟨32, shF, false, noLate⟩) Tryz.func51 (by kernel_rfl) ok51 (by kernel_rfl) (by kernel_rfl) (fun _ => rfl) hl h -- rillmeter/univ.top
@[simp] theorem sh52 : shF 52 = false := by decide
theorem run52 {args : List CA} {r : CA} (hl : args.length ≤ 14) (h : wpV Tryz.prog TV ⟨14, shF, false, noLate⟩ (Tryz.f52.body.getD .skip) (endK Tryz.prog Tryz.f52.results.toList r) ⟨env0 args, []⟩) : TV.pu 52 args = some r := TT_go (N := ⟨14, shF, false, noLate⟩) Tryz.func52 (by kernel_rfl) ok52 (by kernel_rfl) (by kernel_rfl) (fun _ => rfl) hl h -- rillmeter/rillmeterref18.level
@[simp] theorem sh53 : shF 53 = false := by decide
theorem run53 {args : List CA} {r : CA} (hl : args.length ≤ 31) (h : wpV Tryz.prog TV ⟨31, shF, false, noLate⟩ (Tryz.f53.body.getD .skip) (endK Tryz.prog Tryz.f53.results.toList r) ⟨env0 args, []⟩) : TV.pu 53 args = some r := TT_go (N := ⟨31, shF, false, noLate⟩) Tryz.func53 (by kernel_rfl) ok53 (by kernel_rfl) (by kernel_rfl) (fun _ => rfl) hl h -- rillmeter/rillmeterref18.Count
@[simp] theorem sh54 : shF 54 = false := by decide
theorem run54 {args : List CA} {r : CA} (hl : args.length ≤ 14) (h : wpV Tryz.prog TV ⟨14, shF, false, noLate⟩ (Tryz.f54.body.getD .skip) (endK Tryz.prog Tryz.f54.results.toList r) ⟨env0 args, []⟩) : TV.pu 54 args = some r := TT_go (N := ⟨14, shF, false, noLate⟩) Tryz.func54 (by kernel_rfl) ok54 (by kernel_rfl) (by kernel_rfl) (fun _ => rfl) hl h -- rillmeter/rillmeterref12.Sign
@[simp] theorem sh55 : shF 55 = false := by decide
theorem run55 {args : List CA} {r : CA} (hl : args.length ≤ 80) (h : wpV Tryz.prog TV ⟨80, shF, false, noLate⟩ (Tryz.f55.body.getD .skip) (endK Tryz.prog Tryz.f55.results.toList r) ⟨env0 args, []⟩) : TV.pu 55 args = some r := TT_go (N := ⟨80, shF, false, noLate⟩) Tryz.func55 (by kernel_rfl) ok55 (by kernel_rfl) (by kernel_rfl) (fun _ => rfl) hl h -- rillmeter/rillmeterref12.Add
@[simp] theorem sh56 : shF 56 = false := by decide
theorem run56 {args : List CA} {r : CA} (hl : args.length ≤ 49) (h : wpV Tryz.prog TV ⟨49, shF, false, noLate⟩ (Tryz.f56.body.getD .skip) (endK Tryz.prog Tryz.f56.results.toList r) ⟨env0 args, []⟩) : TV.pu 56 args = some r := TT_go (N := ⟨49, shF, false, noLate⟩) Tryz.func56 (by kernel_rfl) ok56 (by kernel_rfl) (by kernel_rfl) (fun _ => rfl) hl h -- rillmeter/rillmeterref14.Offer
@[simp] theorem sh57 : shF 57 = false := by decide
theorem run57 {args : List CA} {r : CA} (hl : args.length ≤ 17) (h : wpV Tryz.prog TV ⟨17, shF, false, noLate⟩ (Tryz.f57.body.getD .skip) (endK Tryz.prog Tryz.f57.results.toList r) ⟨env0 args, []⟩) : TV.pu 57 args = some r := TT_go (N := ⟨17, shF, false, noLate⟩) Tryz.func57 (by kernel_rfl) ok57 (by kernel_rfl) (by kernel_rfl) (fun _ => rfl) hl h -- rillmeter/rillmeterref12.Equal
@[simp] theorem sh58 : shF 58 = false := by decide
theorem run58 {args : List CA} {r : CA} (hl : args.length ≤ 8) (h : wpV Tryz.prog TV ⟨8, shF, false, noLate⟩ (Tryz.f58.body.getD .skip) (endK Tryz.prog Tryz.f58.results.toList r) ⟨env0 args, []⟩) : TV.pu 58 args = some r := TT_go (N := ⟨8, shF, false, noLate⟩) Tryz.func58 (by kernel_rfl) ok58 (by kernel_rfl) (by kernel_rfl) (fun _ => rfl) hl h -- math/bits.Len
@[simp] theorem sh59 : shF 59 = false := by decide
theorem run59 {args : List CA} {r : CA} (hl : args.length ≤ 5) (h : wpV Tryz.prog TV ⟨5, shF, false, noLate⟩ (Tryz.f59.body.getD .skip) (endK Tryz.prog Tryz.f59.results.toList r) ⟨env0 args, []⟩) : TV.pu 59 args = some r := TT_go (N := ⟨5, shF, false, noLate⟩) Tryz.func59 (by kernel_rfl) ok59 (by kernel_rfl) (by kernel_rfl) (fun _ => rfl) hl h -- rillmeter/rillmeterref01.Of
@[simp] theorem sh60 : shF 60 = false := by decide
theorem run60 {args : List CA} {r : CA} (hl : args.length ≤ 48) (h : wpV Tryz.prog TV ⟨48, shF, false, noLate⟩ (Tryz.f60.body.getD .skip) (endK Tryz.prog Tryz.f60.results.toList r) ⟨env0 args, []⟩) : TV.pu 60 args = some r := TT_go (N := ⟨48, shF, false, noLate⟩) Tryz.func60 (by kernel_rfl) ok60 (by kernel_rfl) (by kernel_rfl) (fun _ => rfl) hl h -- rillmeter/rillmeterref02.words
@[simp] theorem sh61 : shF 61 = false := by decide
theorem run61 {args : List CA} {r : CA} (hl : args.length ≤ 11) (h : wpV Tryz.prog TV ⟨11, shF, false, noLate⟩ (Tryz.f61.body.getD .skip) (endK Tryz.prog Tryz.f61.results.toList r) ⟨env0 args, []⟩) : TV.pu 61 args = some r := TT_go (N := ⟨11, shF, false, noLate⟩) Tryz.func61 (by kernel_rfl) ok61 (by kernel_rfl) (by kernel_rfl) (fun _ => rfl) hl h -- rillmeter/field.Add
@[simp] theorem sh62 : shF 62 = false := by decide
theorem run62 {args : List CA} {r : CA} (hl : args.length ≤ 24) (h : wpV Tryz.prog TV ⟨24, shF, false, noLate⟩ (Tryz.f62.body.getD .skip) (endK Tryz.prog Tryz.f62.results.toList r) ⟨env0 args, []⟩) : TV.pu 62 args = some r := TT_go (N := ⟨24, shF, false, noLate⟩) Tryz.func62 (by kernel_rfl) ok62 (by kernel_rfl) (by kernel_rfl) (fun _ => rfl) hl h -- rillmeter/field.Mul
@[simp] theorem sh63 : shF 63 = false := by decide
theorem run63 {args : List CA} {r : CA} (hl : args.length ≤ 9) (h : wpV Tryz.prog TV ⟨9, shF, false, noLate⟩ (Tryz.f63.body.getD .skip) (endK Tryz.prog Tryz.f63.results.toList r) ⟨env0 args, []⟩) : TV.pu 63 args = some r := TT_go (N := ⟨9, shF, false, noLate⟩) Tryz.func63 (by kernel_rfl) ok63 (by kernel_rfl) (by kernel_rfl) (fun _ => rfl) hl h -- rillmeter/rillmeterref12.Fits
@[simp] theorem sh64 : shF 64 = false := by decide
theorem run64 {args : List CA} {r : CA} (hl : args.length ≤ 20) (h : wpV Tryz.prog TV ⟨20, shF, false, noLate⟩ (Tryz.f64.body.getD .skip) (endK Tryz.prog Tryz.f64.results.toList r) ⟨env0 args, []⟩) : TV.pu 64 args = some r := TT_go (N := ⟨20, shF, false, noLate⟩) Tryz.func64 (by kernel_rfl) ok64 (by kernel_rfl) (by kernel_rfl) (fun _ => rfl) hl h -- rillmeter/hash.Level
@[simp] theorem sh65 : shF 65 = false := by decide
theorem run65 {args : List CA} {r : CA} (hl : args.length ≤ 9) (h : wpV Tryz.prog TV ⟨9, shF, false, noLate⟩ (Tryz.f65.body.getD .skip) (endK Tryz.prog Tryz.f65.results.toList r) ⟨env0 args, []⟩) : TV.pu 65 args = some r := TT_go (N := ⟨9, shF, false, noLate⟩) Tryz.func65 (by kernel_rfl) ok65 (by kernel_rfl) (by kernel_rfl) (fun _ => rfl) hl h -- rillmeter/signed.fits
@[simp] theorem sh66 : shF 66 = true := by decide
@[simp] theorem cl66 : isCl Tryz.prog 66 = false := by kernel_rfl
theorem runX66 {args : List AV} {H : Hp} {Q : AV → Hp → Prop} (hl : args.length ≤ 27) (hQ : ∀ a K, Q a K → H.length ≤ K.length) (h : wpV Tryz.prog TV ⟨27, shF, true, noLate⟩ (Tryz.f66.body.getD .skip) (endX Tryz.prog Tryz.f66.results.toList Q) ⟨envS args, H⟩) : ∃ a K, TV.S 66 args H = some (a, K) ∧ Q a K := TT_goX (N := ⟨27, shF, true, noLate⟩) Tryz.func66 (by kernel_rfl) ok66 (by kernel_rfl) (by kernel_rfl) rfl hl (by kernel_rfl) hQ h -- rillmeter/signed.clone
theorem run66 {args : List AV} {r : AV} {H H' : Hp} (hl : args.length ≤ 27) (hH : Gr Tryz.prog 66 H H') (h : wpV Tryz.prog TV ⟨27, shF, true, noLate⟩ (Tryz.f66.body.getD .skip) (endS Tryz.prog Tryz.f66.results.toList r H') ⟨envS args, H⟩) : TV.S 66 args H = some (r, H') := TT_goS (N := ⟨27, shF, true, noLate⟩) Tryz.func66 (by kernel_rfl) ok66 (by kernel_rfl) (by kernel_rfl) rfl hl hH h -- rillmeter/signed.clone
@[simp] theorem sh67 : shF 67 = false := by decide
theorem run67 {args : List CA} {r : CA} (hl : args.length ≤ 29) (h : wpV Tryz.prog TV ⟨29, shF, false, noLate⟩ (Tryz.f67.body.getD .skip) (endK Tryz.prog Tryz.f67.results.toList r) ⟨env0 args, []⟩) : TV.pu 67 args = some r := TT_go (N := ⟨29, shF, false, noLate⟩) Tryz.func67 (by kernel_rfl) ok67 (by kernel_rfl) (by kernel_rfl) (fun _ => rfl) hl h -- rillmeter/signed.place
@[simp] theorem sh68 : shF 68 = true := by decide
@[simp] theorem cl68 : isCl Tryz.prog 68 = false := by kernel_rfl
theorem runX68 {args : List AV} {H : Hp} {Q : AV → Hp → Prop} (hl : args.length ≤ 13) (hQ : ∀ a K, Q a K → H.length ≤ K.length) (h : wpV Tryz.prog TV ⟨13, shF, false, noLate⟩ (Tryz.f68.body.getD .skip) (endX Tryz.prog Tryz.f68.results.toList Q) ⟨envS args, H⟩) : ∃ a K, TV.S 68 args H = some (a, K) ∧ Q a K := TT_goX (N := ⟨13, shF, false, noLate⟩) Tryz.func68 (by kernel_rfl) ok68 (by kernel_rfl) (by kernel_rfl) rfl hl (by kernel_rfl) hQ h -- rillmeter/heavy.New
theorem run68 {args : List AV} {r : AV} {H H' : Hp} (hl : args.length ≤ 13) (hH : Gr Tryz.prog 68 H H') (h : wpV Tryz.prog TV ⟨13, shF, false, noLate⟩ (Tryz.f68.body.getD .skip) (endS Tryz.prog Tryz.f68.results.toList r H') ⟨envS args, H⟩) : TV.S 68 args H = some (r, H') := TT_goS (N := ⟨13, shF, false, noLate⟩) Tryz.func68 (by kernel_rfl) ok68 (by kernel_rfl) (by kernel_rfl) rfl hl hH h -- rillmeter/heavy.New
@[simp] theorem sh69 : shF 69 = true := by decide
@[simp] theorem cl69 : isCl Tryz.prog 69 = false := by kernel_rfl
theorem runX69 {args : List AV} {H : Hp} {Q : AV → Hp → Prop} (hl : args.length ≤ 39) (hQ : ∀ a K, Q a K → H.length ≤ K.length) (h : wpV Tryz.prog TV ⟨39, shF, false, noLate⟩ (Tryz.f69.body.getD .skip) (endX Tryz.prog Tryz.f69.results.toList Q) ⟨envS args, H⟩) : ∃ a K, TV.S 69 args H = some (a, K) ∧ Q a K := TT_goX (N := ⟨39, shF, false, noLate⟩) Tryz.func69 (by kernel_rfl) ok69 (by kernel_rfl) (by kernel_rfl) rfl hl (by kernel_rfl) hQ h -- (*rillmeter/heavy.Heap).down
theorem run69 {args : List AV} {r : AV} {H H' : Hp} (hl : args.length ≤ 39) (hH : Gr Tryz.prog 69 H H') (h : wpV Tryz.prog TV ⟨39, shF, false, noLate⟩ (Tryz.f69.body.getD .skip) (endS Tryz.prog Tryz.f69.results.toList r H') ⟨envS args, H⟩) : TV.S 69 args H = some (r, H') := TT_goS (N := ⟨39, shF, false, noLate⟩) Tryz.func69 (by kernel_rfl) ok69 (by kernel_rfl) (by kernel_rfl) rfl hl hH h -- (*rillmeter/heavy.Heap).down
@[simp] theorem sh70 : shF 70 = true := by decide
@[simp] theorem cl70 : isCl Tryz.prog 70 = false := by kernel_rfl
theorem runX70 {args : List AV} {H : Hp} {Q : AV → Hp → Prop} (hl : args.length ≤ 25) (hQ : ∀ a K, Q a K → H.length ≤ K.length) (h : wpV Tryz.prog TV ⟨25, shF, false, noLate⟩ (Tryz.f70.body.getD .skip) (endX Tryz.prog Tryz.f70.results.toList Q) ⟨envS args, H⟩) : ∃ a K, TV.S 70 args H = some (a, K) ∧ Q a K := TT_goX (N := ⟨25, shF, false, noLate⟩) Tryz.func70 (by kernel_rfl) ok70 (by kernel_rfl) (by kernel_rfl) rfl hl (by kernel_rfl) hQ h -- (*rillmeter/heavy.Heap).up
theorem run70 {args : List AV} {r : AV} {H H' : Hp} (hl : args.length ≤ 25) (hH : Gr Tryz.prog 70 H H') (h : wpV Tryz.prog TV ⟨25, shF, false, noLate⟩ (Tryz.f70.body.getD .skip) (endS Tryz.prog Tryz.f70.results.toList r H') ⟨envS args, H⟩) : TV.S 70 args H = some (r, H') := TT_goS (N := ⟨25, shF, false, noLate⟩) Tryz.func70 (by kernel_rfl) ok70 (by kernel_rfl) (by kernel_rfl) rfl hl hH h -- (*rillmeter/heavy.Heap).up
@[simp] theorem sh73 : shF 73 = false := by decide
theorem run73 {args : List CA} {r : CA} (hl : args.length ≤ 17) (h : wpV Tryz.prog TV ⟨17, shF, false, noLate⟩ (Tryz.f73.body.getD .skip) (endK Tryz.prog Tryz.f73.results.toList r) ⟨env0 args, []⟩) : TV.pu 73 args = some r := TT_go (N := ⟨17, shF, false, noLate⟩) Tryz.func73 (by kernel_rfl) ok73 (by kernel_rfl) (by kernel_rfl) (fun _ => rfl) hl h -- rillmeter/heavy.order
@[simp] theorem sh74 : shF 74 = false := by decide
theorem run74 {args : List CA} {r : CA} (hl : args.length ≤ 19) (h : wpV Tryz.prog TV ⟨19, shF, false, noLate⟩ (Tryz.f74.body.getD .skip) (endK Tryz.prog Tryz.f74.results.toList r) ⟨env0 args, []⟩) : TV.pu 74 args = some r := TT_go (N := ⟨19, shF, false, noLate⟩) Tryz.func74 (by kernel_rfl) ok74 (by kernel_rfl) (by kernel_rfl) (fun _ => rfl) hl h -- slices.IndexFunc[[]rillmeter/heavy.Item,rillmeter/heavy.Item]
@[simp] theorem sh75 : shF 75 = false := by decide
theorem run75 {args : List CA} {r : CA} (hl : args.length ≤ 9) (h : wpV Tryz.prog TV ⟨9, shF, false, noLate⟩ (Tryz.f75.body.getD .skip) (endK Tryz.prog Tryz.f75.results.toList r) ⟨env0 args, []⟩) : TV.pu 75 args = some r := TT_go (N := ⟨9, shF, false, noLate⟩) Tryz.func75 (by kernel_rfl) ok75 (by kernel_rfl) (by kernel_rfl) (fun _ => rfl) hl h -- slices.ContainsFunc[[][]int,[]int]
@[simp] theorem sh76 : shF 76 = false := by decide
theorem run76 {args : List CA} {r : CA} (hl : args.length ≤ 26) (h : wpV Tryz.prog TV ⟨26, shF, false, noLate⟩ (Tryz.f76.body.getD .skip) (endK Tryz.prog Tryz.f76.results.toList r) ⟨env0 args, []⟩) : TV.pu 76 args = some r := TT_go (N := ⟨26, shF, false, noLate⟩) Tryz.func76 (by kernel_rfl) ok76 (by kernel_rfl) (by kernel_rfl) (fun _ => rfl) hl h -- rillmeter/signed.Right$1
@[simp] theorem sh77 : shF 77 = false := by decide
theorem run77 {args : List CA} {r : CA} (hl : args.length ≤ 9) (h : wpV Tryz.prog TV ⟨9, shF, false, noLate⟩ (Tryz.f77.body.getD .skip) (endK Tryz.prog Tryz.f77.results.toList r) ⟨env0 args, []⟩) : TV.pu 77 args = some r := TT_go (N := ⟨9, shF, false, noLate⟩) Tryz.func77 (by kernel_rfl) ok77 (by kernel_rfl) (by kernel_rfl) (fun _ => rfl) hl h -- slices.ContainsFunc[[]int,int]
@[simp] theorem sh78 : shF 78 = false := by decide
theorem run78 {args : List CA} {r : CA} (hl : args.length ≤ 6) (h : wpV Tryz.prog TV ⟨6, shF, false, noLate⟩ (Tryz.f78.body.getD .skip) (endK Tryz.prog Tryz.f78.results.toList r) ⟨env0 args, []⟩) : TV.pu 78 args = some r := TT_go (N := ⟨6, shF, false, noLate⟩) Tryz.func78 (by kernel_rfl) ok78 (by kernel_rfl) (by kernel_rfl) (fun _ => rfl) hl h -- rillmeter/signed.Right$1$1
@[simp] theorem sh79 : shF 79 = false := by decide
theorem run79 {args : List CA} {r : CA} (hl : args.length ≤ 17) (h : wpV Tryz.prog TV ⟨17, shF, false, noLate⟩ (Tryz.f79.body.getD .skip) (endK Tryz.prog Tryz.f79.results.toList r) ⟨env0 args, []⟩) : TV.pu 79 args = some r := TT_go (N := ⟨17, shF, false, noLate⟩) Tryz.func79 (by kernel_rfl) ok79 (by kernel_rfl) (by kernel_rfl) (fun _ => rfl) hl h -- rillmeter/univ.stands
@[simp] theorem sh80 : shF 80 = false := by decide
theorem run80 {args : List CA} {r : CA} (hl : args.length ≤ 9) (h : wpV Tryz.prog TV ⟨9, shF, false, noLate⟩ (Tryz.f80.body.getD .skip) (endK Tryz.prog Tryz.f80.results.toList r) ⟨env0 args, []⟩) : TV.pu 80 args = some r := TT_go (N := ⟨9, shF, false, noLate⟩) Tryz.func80 (by kernel_rfl) ok80 (by kernel_rfl) (by kernel_rfl) (fun _ => rfl) hl h -- rillmeter/univ.top$1
@[simp] theorem sh81 : shF 81 = false := by decide
theorem run81 {args : List CA} {r : CA} (hl : args.length ≤ 52) (h : wpV Tryz.prog TV ⟨52, shF, false, noLate⟩ (Tryz.f81.body.getD .skip) (endK Tryz.prog Tryz.f81.results.toList r) ⟨env0 args, []⟩) : TV.pu 81 args = some r := TT_go (N := ⟨52, shF, false, noLate⟩) Tryz.func81 (by kernel_rfl) ok81 (by kernel_rfl) (by kernel_rfl) (fun _ => rfl) hl h -- rillmeter/rillmeterref18.Log
@[simp] theorem sh82 : shF 82 = false := by decide
theorem run82 {args : List CA} {r : CA} (hl : args.length ≤ 10) (h : wpV Tryz.prog TV ⟨10, shF, false, noLate⟩ (Tryz.f82.body.getD .skip) (endK Tryz.prog Tryz.f82.results.toList r) ⟨env0 args, []⟩) : TV.pu 82 args = some r := TT_go (N := ⟨10, shF, false, noLate⟩) Tryz.func82 (by kernel_rfl) ok82 (by kernel_rfl) (by kernel_rfl) (fun _ => rfl) hl h -- rillmeter/rillmeterref02.Sign
@[simp] theorem sh83 : shF 83 = false := by decide
theorem run83 {args : List CA} {r : CA} (hl : args.length ≤ 42) (h : wpV Tryz.prog TV ⟨42, shF, false, noLate⟩ (Tryz.f83.body.getD .skip) (endK Tryz.prog Tryz.f83.results.toList r) ⟨env0 args, []⟩) : TV.pu 83 args = some r := TT_go (N := ⟨42, shF, false, noLate⟩) Tryz.func83 (by kernel_rfl) ok83 (by kernel_rfl) (by kernel_rfl) (fun _ => rfl) hl h -- rillmeter/rillmeterref14.Put
@[simp] theorem sh84 : shF 84 = false := by decide
theorem run84 {args : List CA} {r : CA} (hl : args.length ≤ 53) (h : wpV Tryz.prog TV ⟨53, shF, false, noLate⟩ (Tryz.f84.body.getD .skip) (endK Tryz.prog Tryz.f84.results.toList r) ⟨env0 args, []⟩) : TV.pu 84 args = some r := TT_go (N := ⟨53, shF, false, noLate⟩) Tryz.func84 (by kernel_rfl) ok84 (by kernel_rfl) (by kernel_rfl) (fun _ => rfl) hl h -- rillmeter/rillmeterref11.SameRows
@[simp] theorem sh85 : shF 85 = false := by decide
theorem run85 {args : List CA} {r : CA} (hl : args.length ≤ 19) (h : wpV Tryz.prog TV ⟨19, shF, false, noLate⟩ (Tryz.f85.body.getD .skip) (endK Tryz.prog Tryz.f85.results.toList r) ⟨env0 args, []⟩) : TV.pu 85 args = some r := TT_go (N := ⟨19, shF, false, noLate⟩) Tryz.func85 (by kernel_rfl) ok85 (by kernel_rfl) (by kernel_rfl) (fun _ => rfl) hl h -- math/bits.Len32
@[simp] theorem sh86 : shF 86 = false := by decide
theorem run86 {args : List CA} {r : CA} (hl : args.length ≤ 25) (h : wpV Tryz.prog TV ⟨25, shF, false, noLate⟩ (Tryz.f86.body.getD .skip) (endK Tryz.prog Tryz.f86.results.toList r) ⟨env0 args, []⟩) : TV.pu 86 args = some r := TT_go (N := ⟨25, shF, false, noLate⟩) Tryz.func86 (by kernel_rfl) ok86 (by kernel_rfl) (by kernel_rfl) (fun _ => rfl) hl h -- math/bits.Len64
@[simp] theorem sh87 : shF 87 = false := by decide
theorem run87 {args : List CA} {r : CA} (hl : args.length ≤ 13) (h : wpV Tryz.prog TV ⟨13, shF, false, noLate⟩ (Tryz.f87.body.getD .skip) (endK Tryz.prog Tryz.f87.results.toList r) ⟨env0 args, []⟩) : TV.pu 87 args = some r := TT_go (N := ⟨13, shF, false, noLate⟩) Tryz.func87 (by kernel_rfl) ok87 (by kernel_rfl) (by kernel_rfl) (fun _ => rfl) hl h -- rillmeter/field.Of
@[simp] theorem sh88 : shF 88 = false := by decide
theorem run88 {args : List CA} {r : CA} (hl : args.length ≤ 51) (h : wpV Tryz.prog TV ⟨51, shF, false, noLate⟩ (Tryz.f88.body.getD .skip) (endK Tryz.prog Tryz.f88.results.toList r) ⟨env0 args, []⟩) : TV.pu 88 args = some r := TT_go (N := ⟨51, shF, false, noLate⟩) Tryz.func88 (by kernel_rfl) ok88 (by kernel_rfl) (by kernel_rfl) (fun _ => rfl) hl h -- math/bits.Mul64
@[simp] theorem sh89 : shF 89 = false := by decide
theorem run89 {args : List CA} {r : CA} (hl : args.length ≤ 51) (h : wpV Tryz.prog TV ⟨51, shF, false, noLate⟩ (Tryz.f89.body.getD .skip) (endK Tryz.prog Tryz.f89.results.toList r) ⟨env0 args, []⟩) : TV.pu 89 args = some r := TT_go (N := ⟨51, shF, false, noLate⟩) Tryz.func89 (by kernel_rfl) ok89 (by kernel_rfl) (by kernel_rfl) (fun _ => rfl) hl h -- rillmeter/hash.Sum
@[simp] theorem sh90 : shF 90 = false := by decide
@[simp] theorem sh91 : shF 91 = true := by decide
@[simp] theorem cl91 : isCl Tryz.prog 91 = true := by kernel_rfl
theorem run91 {args : List AV} {r : AV} {H H' : Hp} (hl : args.length ≤ 8) (hH : Gr Tryz.prog 91 H H') (h : wpV Tryz.prog TV ⟨8, shF, false, noLate⟩ (Tryz.f91.body.getD .skip) (endS Tryz.prog Tryz.f91.results.toList r H') ⟨envS args, H⟩) : TV.S 91 args H = some (r, H') := TT_goS (N := ⟨8, shF, false, noLate⟩) Tryz.func91 (by kernel_rfl) ok91 (by kernel_rfl) (by kernel_rfl) rfl hl hH h -- slices.Clone[[]int,int]
@[simp] theorem sh92 : shF 92 = false := by decide
theorem run92 {args : List CA} {r : CA} (hl : args.length ≤ 16) (h : wpV Tryz.prog TV ⟨16, shF, false, noLate⟩ (Tryz.f92.body.getD .skip) (endK Tryz.prog Tryz.f92.results.toList r) ⟨env0 args, []⟩) : TV.pu 92 args = some r := TT_go (N := ⟨16, shF, false, noLate⟩) Tryz.func92 (by kernel_rfl) ok92 (by kernel_rfl) (by kernel_rfl) (fun _ => rfl) hl h -- rillmeter/hash.Cell
@[simp] theorem sh93 : shF 93 = false := by decide
theorem run93 {args : List CA} {r : CA} (hl : args.length ≤ 12) (h : wpV Tryz.prog TV ⟨12, shF, false, noLate⟩ (Tryz.f93.body.getD .skip) (endK Tryz.prog Tryz.f93.results.toList r) ⟨env0 args, []⟩) : TV.pu 93 args = some r := TT_go (N := ⟨12, shF, false, noLate⟩) Tryz.func93 (by kernel_rfl) ok93 (by kernel_rfl) (by kernel_rfl) (fun _ => rfl) hl h -- rillmeter/hash.Sign
@[simp] theorem sh94 : shF 94 = true := by decide
@[simp] theorem cl94 : isCl Tryz.prog 94 = false := by kernel_rfl
theorem runX94 {args : List AV} {H : Hp} {Q : AV → Hp → Prop} (hl : args.length ≤ 23) (hQ : ∀ a K, Q a K → H.length ≤ K.length) (h : wpV Tryz.prog TV ⟨23, shF, false, noLate⟩ (Tryz.f94.body.getD .skip) (endX Tryz.prog Tryz.f94.results.toList Q) ⟨envS args, H⟩) : ∃ a K, TV.S 94 args H = some (a, K) ∧ Q a K := TT_goX (N := ⟨23, shF, false, noLate⟩) Tryz.func94 (by kernel_rfl) ok94 (by kernel_rfl) (by kernel_rfl) rfl hl (by kernel_rfl) hQ h -- (*rillmeter/heavy.Heap).above
theorem run94 {args : List AV} {r : AV} {H H' : Hp} (hl : args.length ≤ 23) (hH : Gr Tryz.prog 94 H H') (h : wpV Tryz.prog TV ⟨23, shF, false, noLate⟩ (Tryz.f94.body.getD .skip) (endS Tryz.prog Tryz.f94.results.toList r H') ⟨envS args, H⟩) : TV.S 94 args H = some (r, H') := TT_goS (N := ⟨23, shF, false, noLate⟩) Tryz.func94 (by kernel_rfl) ok94 (by kernel_rfl) (by kernel_rfl) rfl hl hH h -- (*rillmeter/heavy.Heap).above
@[simp] theorem sh95 : shF 95 = true := by decide
@[simp] theorem cl95 : isCl Tryz.prog 95 = false := by kernel_rfl
theorem runX95 {args : List AV} {H : Hp} {Q : AV → Hp → Prop} (hl : args.length ≤ 62) (hQ : ∀ a K, Q a K → H.length ≤ K.length) (h : wpV Tryz.prog TV ⟨62, shF, false, noLate⟩ (Tryz.f95.body.getD .skip) (endX Tryz.prog Tryz.f95.results.toList Q) ⟨envS args, H⟩) : ∃ a K, TV.S 95 args H = some (a, K) ∧ Q a K := TT_goX (N := ⟨62, shF, false, noLate⟩) Tryz.func95 (by kernel_rfl) ok95 (by kernel_rfl) (by kernel_rfl) rfl hl (by kernel_rfl) hQ h -- (*rillmeter/heavy.Heap).swap
theorem run95 {args : List AV} {r : AV} {H H' : Hp} (hl : args.length ≤ 62) (hH : Gr Tryz.prog 95 H H') (h : wpV Tryz.prog TV ⟨62, shF, false, noLate⟩ (Tryz.f95.body.getD .skip) (endS Tryz.prog Tryz.f95.results.toList r H') ⟨envS args, H⟩) : TV.S 95 args H = some (r, H') := TT_goS (N := ⟨62, shF, false, noLate⟩) Tryz.func95 (by kernel_rfl) ok95 (by kernel_rfl) (by kernel_rfl) rfl hl hH h -- (*rillmeter/heavy.Heap).swap
@[simp] theorem sh96 : shF 96 = false := by decide
@[simp] theorem sh97 : shF 97 = false := by decide
@[simp] theorem sh98 : shF 98 = false := by decide
theorem run98 {args : List CA} {r : CA} (hl : args.length ≤ 18) (h : wpV Tryz.prog TV ⟨18, shF, false, noLate⟩ (Tryz.f98.body.getD .skip) (endK Tryz.prog Tryz.f98.results.toList r) ⟨env0 args, []⟩) : TV.pu 98 args = some r := TT_go (N := ⟨18, shF, false, noLate⟩) Tryz.func98 (by kernel_rfl) ok98 (by kernel_rfl) (by kernel_rfl) (fun _ => rfl) hl h -- cmp.Or[int]
@[simp] theorem sh99 : shF 99 = false := by decide
theorem run99 {args : List CA} {r : CA} (hl : args.length ≤ 20) (h : wpV Tryz.prog TV ⟨20, shF, false, noLate⟩ (Tryz.f99.body.getD .skip) (endK Tryz.prog Tryz.f99.results.toList r) ⟨env0 args, []⟩) : TV.pu 99 args = some r := TT_go (N := ⟨20, shF, false, noLate⟩) Tryz.func99 (by kernel_rfl) ok99 (by kernel_rfl) (by kernel_rfl) (fun _ => rfl) hl h -- cmp.Compare[int]
@[simp] theorem sh100 : shF 100 = false := by decide
@[simp] theorem sh101 : shF 101 = false := by decide
theorem run101 {args : List CA} {r : CA} (hl : args.length ≤ 19) (h : wpV Tryz.prog TV ⟨19, shF, false, noLate⟩ (Tryz.f101.body.getD .skip) (endK Tryz.prog Tryz.f101.results.toList r) ⟨env0 args, []⟩) : TV.pu 101 args = some r := TT_go (N := ⟨19, shF, false, noLate⟩) Tryz.func101 (by kernel_rfl) ok101 (by kernel_rfl) (by kernel_rfl) (fun _ => rfl) hl h -- slices.IndexFunc[[][]int,[]int]
@[simp] theorem sh102 : shF 102 = false := by decide
theorem run102 {args : List CA} {r : CA} (hl : args.length ≤ 19) (h : wpV Tryz.prog TV ⟨19, shF, false, noLate⟩ (Tryz.f102.body.getD .skip) (endK Tryz.prog Tryz.f102.results.toList r) ⟨env0 args, []⟩) : TV.pu 102 args = some r := TT_go (N := ⟨19, shF, false, noLate⟩) Tryz.func102 (by kernel_rfl) ok102 (by kernel_rfl) (by kernel_rfl) (fun _ => rfl) hl h -- slices.IndexFunc[[]int,int]
@[simp] theorem sh103 : shF 103 = false := by decide
theorem run103 {args : List CA} {r : CA} (hl : args.length ≤ 22) (h : wpV Tryz.prog TV ⟨22, shF, false, noLate⟩ (Tryz.f103.body.getD .skip) (endK Tryz.prog Tryz.f103.results.toList r) ⟨env0 args, []⟩) : TV.pu 103 args = some r := TT_go (N := ⟨22, shF, false, noLate⟩) Tryz.func103 (by kernel_rfl) ok103 (by kernel_rfl) (by kernel_rfl) (fun _ => rfl) hl h -- rillmeter/field.Pow
@[simp] theorem sh104 : shF 104 = false := by decide
@[simp] theorem sh105 : shF 105 = false := by decide
@[simp] theorem sh106 : shF 106 = false := by decide
@[simp] theorem sh107 : shF 107 = false := by decide
@[simp] theorem sh108 : shF 108 = false := by decide
@[simp] theorem sh109 : shF 109 = false := by decide
@[simp] theorem sh110 : shF 110 = false := by decide
@[simp] theorem sh111 : shF 111 = false := by decide
@[simp] theorem sh112 : shF 112 = false := by decide
@[simp] theorem sh113 : shF 113 = false := by decide
@[simp] theorem sh114 : shF 114 = false := by decide
@[simp] theorem sh115 : shF 115 = false := by decide
@[simp] theorem sh116 : shF 116 = false := by decide
@[simp] theorem sh117 : shF 117 = false := by decide
@[simp] theorem sh118 : shF 118 = false := by decide
@[simp] theorem sh119 : shF 119 = false := by decide
@[simp] theorem sh120 : shF 120 = false := by decide
@[simp] theorem sh121 : shF 121 = false := by decide
theorem run121 {args : List CA} {r : CA} (hl : args.length ≤ 6) (h : wpV Tryz.prog TV ⟨6, shF, false, noLate⟩ (Tryz.f121.body.getD .skip) (endK Tryz.prog Tryz.f121.results.toList r) ⟨env0 args, []⟩) : TV.pu 121 args = some r := TT_go (N := ⟨6, shF, false, noLate⟩) Tryz.func121 (by kernel_rfl) ok121 (by kernel_rfl) (by kernel_rfl) (fun _ => rfl) hl h -- cmp.isNaN[int]
@[simp] theorem sh122 : shF 122 = false := by decide
@[simp] theorem sh123 : shF 123 = false := by decide
@[simp] theorem sh124 : shF 124 = false := by decide
@[simp] theorem sh125 : shF 125 = false := by decide
@[simp] theorem sh126 : shF 126 = false := by decide
@[simp] theorem sh127 : shF 127 = false := by decide
@[simp] theorem sh128 : shF 128 = false := by decide
@[simp] theorem sh129 : shF 129 = false := by decide
@[simp] theorem sh130 : shF 130 = false := by decide
@[simp] theorem sh131 : shF 131 = false := by decide
@[simp] theorem sh132 : shF 132 = false := by decide
@[simp] theorem sh133 : shF 133 = false := by decide
end Go.Proofs.YtngpmpmhpggpgaaGreatDoorF
end

section
/- A law's arguments, read as data, are closed values; and what a law tells of them stands in the statement's form. -/
namespace Go.Proofs.Vm
open Go Go.RowKit Go.ChangeShapes Go.WideShapes

def All (w : World) : Nat → Prop := fun b => b < w.heap.size

/-- Whatever reads as data of type T is so many closed cells, that are good. -/
def Opens (P : Program) (T : TypeId) (sz : Nat) (good : List CV → Prop) : Prop :=
  ∀ (H : Type) (enc : TypeId × Value → H) (W : World) (spare : Nat → Bool) (held : Bool) (fuel : Nat) (cs : List Value) (x : DataW H × List MemPlace),
    DataW.trod enc P W 0 spare held fuel T cs = some x → (∀ q ∈ DataW.weights P T x.1, q ≤ 140737488351232) → ∃ l : List CV, RKs (All W) W l cs ∧ l.length = sz ∧ good l

variable {P : Program}

theorem rks_one {I : Nat → Prop} {w : World} {x : CV} {v : Value} (h : RC I w x v) : RKs I w [x] [v] := by
  refine ⟨rfl, fun j y z hy hz => ?_⟩
  cases j with
  | zero => cases hy; cases hz; exact h
  | succ j => simp at hy
theorem rks_append {I : Nat → Prop} {w : World} {l m : List CV} {vs us : List Value} (h : RKs I w l vs) (k : RKs I w m us) : RKs I w (l ++ m) (vs ++ us) := by
  refine ⟨by simp [h.1, k.1], fun j x y hx hy => ?_⟩
  by_cases hj : j < l.length
  · rw [List.getElem?_append_left hj] at hx
    rw [List.getElem?_append_left (by rw [← h.1]; exact hj)] at hy
    exact h.2 j x y hx hy
  · rw [List.getElem?_append_right (by omega)] at hx
    rw [List.getElem?_append_right (by rw [← h.1]; omega), ← h.1] at hy
    exact k.2 _ x y hx hy

def isI (k : IntKind) (l : List CV) : Prop := ∃ n, l = [.v (.int k n)] ∧ (Lit.int k n).wf = true
def isB (l : List CV) : Prop := ∃ b, l = [.v (.bool b)]
def isS (l : List CV) : Prop := ∃ s : ByteArray, l = [.v (.string s)] ∧ s.size ≤ 140737488351232
def isL (sz bytes : Nat) (good : List CV → Prop) (l : List CV) : Prop := ∃ L : List (List CV), l = [.arr L] ∧ (∀ e ∈ L, e.length = sz ∧ good e) ∧ L.length * bytes ≤ 140737488351232
def isP (good good' : List CV → Prop) (l : List CV) : Prop := ∃ a b, l = a ++ b ∧ good a ∧ good' b

theorem opens_int {T : TypeId} {k : IntKind} (ht : P.underlying T = some (.int k)) : Opens P T 1 (isI k) := by
  intro H enc W spare held fuel cs x h _
  obtain ⟨n, rfl, _, hw⟩ := DataW.trod_int ht h
  exact ⟨_, rks_one (.v _ rfl), rfl, n, rfl, hw⟩
theorem opens_bool {T : TypeId} (ht : P.underlying T = some .bool) : Opens P T 1 isB := by
  intro H enc W spare held fuel cs x h _
  obtain ⟨n, rfl, _⟩ := DataW.trod_bool ht h
  exact ⟨_, rks_one (.v _ rfl), rfl, n, rfl⟩
theorem opens_string {T : TypeId} (ht : P.underlying T = some .string) : Opens P T 1 isS := by
  intro H enc W spare held fuel cs x h hq
  obtain ⟨s, rfl, rfl, _⟩ := DataW.trod_string ht h
  have h1 := hq s.data.toList.length (by simp [DataW.weights])
  rw [Array.length_toList] at h1
  exact ⟨_, rks_one (.v _ rfl), rfl, s, rfl, h1⟩
theorem cells_at {W : World} {a : Addr} {n : Nat} {cs : List Value} (h : W.cells? 0 a n = some cs) : cs.length = n ∧ ∀ i u, cs[i]? = some u → W.cell? (a.add i) = some u := by
  unfold World.cells? at h
  rw [if_pos (Nat.zero_le _)] at h
  have hl : cs.length = n := by have := mapM_some_length h; simpa using this
  refine ⟨hl, fun i u hu => ?_⟩
  have hi : i < n := by have := (List.getElem?_eq_some_iff.1 hu).1; omega
  have h1 := mapM_some_get h i i (by simp [hi])
  rw [h1, hu]
theorem weights_all {H : Type} {e : TypeId} {l : List (DataW H)} {d : DataW H} (hd : d ∈ l) : ∀ q ∈ DataW.weights P e d, q ∈ DataW.weightsAll P e l := by
  induction l with
  | nil => cases hd
  | cons y t ih =>
    intro q hq
    simp only [DataW.weightsAll, List.mem_append]
    rcases List.mem_cons.1 hd with rfl | h
    · exact .inl hq
    · exact .inr (ih h q hq)
theorem opens_slice {T e : TypeId} {sz bytes : Nat} {good : List CV → Prop} (ht : P.underlying T = some (.slice e)) (hc : P.cellsOf e = sz) (hz : 0 < sz) (hb : P.bytesOf e = bytes) (he : Opens P e sz good) : Opens P T 1 (isL sz bytes good) := by
  intro H enc W spare held fuel cs x h hq
  rcases Go.Deep.open_slice ht h with ⟨rfl, rfl⟩ | ⟨a, len, cap, m, n, D, Pl, rfl, _, hlc, hcap, hm, rfl, hel⟩
  · refine ⟨[.arr []], rks_one (.arr [] none 0 0 (fun _ _ => .bool false) (Nat.le_refl _) (by simp) (by simp) (by simp)), rfl, [], rfl, by simp, by simp⟩
  · have hlm : len ≤ m := by rw [hm]; split <;> omega
    simp only [DataW.weights, ht, List.mem_cons, List.mem_append] at hq
    obtain ⟨F, hF⟩ := Go.Deep.choose_lt (α := List CV × List Value) (n := len) (p := fun i y => W.cells? 0 (a.add (i * P.cellsOf e)) (P.cellsOf e) = some y.2 ∧ RKs (All W) W y.1 y.2 ∧ y.1.length = sz ∧ good y.1) (fun i hi => by
      obtain ⟨cs', h1, h2⟩ := hel i (by omega)
      obtain ⟨l, hl, hs, hg⟩ := he H enc W spare held n cs' (D i, Pl i) h2 (fun q hq1 => hq q (.inr (.inl (weights_all (List.mem_map.2 ⟨i, List.mem_range.2 hi, rfl⟩) q hq1))))
      exact ⟨(l, cs'), h1, hl, hs, hg⟩)
    have hw : len * bytes ≤ 140737488351232 := by
      have h1 := hq _ (.inl rfl)
      rw [hb] at h1
      refine Nat.le_trans (Nat.mul_le_mul_right _ ?_) h1
      simp
    have hlen : ((List.range len).map fun i => (F i).1).length = len := by simp
    have get : ∀ (i : Nat) e, ((List.range len).map fun i => (F i).1)[i]? = some e → i < len ∧ e = (F i).1 := by
      intro i e hi
      have hl := (List.getElem?_eq_some_iff.1 hi).1
      rw [hlen] at hl
      rw [List.getElem?_map, List.getElem?_range hl] at hi
      cases hi
      exact ⟨hl, rfl⟩
    have cell : ∀ i j, i < len → j < sz → W.cell? ((a.add (i * sz)).add j) = some ((F i).2.getD j (.bool false)) := by
      intro i j hi hj
      obtain ⟨h1, h2, h3, _⟩ := hF i hi
      obtain ⟨k1, k2⟩ := cells_at h1
      rw [hc] at k1 k2
      refine k2 j _ ?_
      rw [List.getD_eq_getElem?_getD, List.getElem?_eq_getElem (by omega)]
      rfl
    have key : RC (All W) W (.arr ((List.range len).map fun i => (F i).1)) (.slice (some a) ((List.range len).map fun i => (F i).1).length cap) := by
      refine .arr _ (some a) cap sz (fun i j => (F i).2.getD j (.bool false)) (by rw [hlen]; exact hlc) (fun e he => ?_) (fun hn => ?_) (fun i j e x hi hx => ?_)
      · obtain ⟨i, hi⟩ := List.getElem?_of_mem he
        obtain ⟨hl, rfl⟩ := get i e hi
        exact (hF i hl).2.2.1
      · have hp : 0 < len := by
          rcases Nat.eq_zero_or_pos len with h0 | h0
          · subst h0; exact absurd rfl hn
          · exact h0
        have c0 := cell 0 0 hp hz
        have hadd : ∀ k, a.spot = none → a.add k = ⟨a.block, a.off + k, none⟩ := fun k hs => by
          obtain ⟨b, o, s⟩ := a
          cases hs
          simp [Addr.add]
        have hs : a.spot = none := by
          simp only [Nat.zero_mul] at c0
          rw [show (a.add 0).add 0 = a by simp [Addr.add]] at c0
          unfold World.cell? at c0
          split at c0
          · split at c0
            · cases c0
            · rename_i h0; simpa using h0
          · cases c0
        refine ⟨a.block, a.off, by obtain ⟨b, o, s⟩ := a; cases hs; rfl, ?_, fun i j hi hj => ?_⟩
        · simp only [Nat.zero_mul] at c0
          rw [show (a.add 0).add 0 = a by simp [Addr.add]] at c0
          show a.block < W.heap.size
          unfold World.cell? at c0
          rcases Nat.lt_or_ge a.block W.heap.size with h0 | h0
          · exact h0
          · rw [Array.getElem?_eq_none h0] at c0; cases c0
        · have := cell i j (by rw [hlen] at hi; exact hi) hj
          rw [Addr.add_add, hadd _ hs] at this
          rw [← this]
      · obtain ⟨hl, rfl⟩ := get i e hi
        obtain ⟨h1, h2, h3, _⟩ := hF i hl
        have hj : j < (F i).1.length := (List.getElem?_eq_some_iff.1 hx).1
        have hj2 : j < (F i).2.length := by rw [← h2.1]; exact hj
        refine h2.2 j x _ hx ?_
        rw [List.getD_eq_getElem?_getD, List.getElem?_eq_getElem hj2]
        rfl
    rw [hlen] at key
    refine ⟨_, rks_one key, rfl, _, rfl, fun e he => ?_, by rw [hlen]; exact hw⟩
    obtain ⟨i, hi⟩ := List.getElem?_of_mem he
    obtain ⟨hl, rfl⟩ := get i e hi
    exact (hF i hl).2.2
/-- The fields of a struct, from a place on. -/
def OpensAt (P : Program) (fs : List Field) (o sz : Nat) (good : List CV → Prop) : Prop :=
  ∀ (H : Type) (enc : TypeId × Value → H) (W : World) (spare : Nat → Bool) (held : Bool) (n : Nat) (cs : List Value), cs.length = o + sz →
    (∀ f ∈ fs, ∃ y : DataW H × List MemPlace, DataW.trod enc P W 0 spare held n f.type ((cs.drop f.offset).take (P.cellsOf f.type)) = some y ∧ ∀ q ∈ DataW.weights P f.type y.1, q ≤ 140737488351232) →
    ∃ l : List CV, RKs (All W) W l (cs.drop o) ∧ l.length = sz ∧ good l
theorem at_one {f : Field} {o sz : Nat} {good : List CV → Prop} (ho : f.offset = o) (hc : P.cellsOf f.type = sz) (hf : Opens P f.type sz good) : OpensAt P [f] o sz good := by
  intro H enc W spare held n cs hl h
  obtain ⟨y, hy, hq⟩ := h f List.mem_cons_self
  obtain ⟨a, hK, hg⟩ := hf H enc W spare held n _ y hy hq
  rw [ho, hc, List.take_of_length_le (by rw [List.length_drop]; omega)] at hK
  exact ⟨a, hK, hg⟩
theorem at_cons {f : Field} {fs : List Field} {o sz sz' : Nat} {good good' : List CV → Prop} (ho : f.offset = o) (hc : P.cellsOf f.type = sz) (hf : Opens P f.type sz good) (hfs : OpensAt P fs (o + sz) sz' good') :
    OpensAt P (f :: fs) o (sz + sz') (isP good good') := by
  intro H enc W spare held n cs hl h
  obtain ⟨y, hy, hq⟩ := h f List.mem_cons_self
  obtain ⟨a, hK, hs, hg⟩ := hf H enc W spare held n _ y hy hq
  obtain ⟨b, hK', hs', hg'⟩ := hfs H enc W spare held n cs (by rw [hl]; omega) (fun f' hf' => h f' (List.mem_cons_of_mem _ hf'))
  rw [ho, hc] at hK
  refine ⟨a ++ b, ?_, by simp [hs, hs'], a, b, rfl, hg, hg'⟩
  have := rks_append hK hK'
  rwa [← List.drop_drop, List.take_append_drop] at this
theorem opens_struct {T : TypeId} {fs : Array Field} {sz : Nat} {good : List CV → Prop} (ht : P.underlying T = some (.struct fs)) (hc : P.cellsOf T = sz) (hf : OpensAt P fs.toList 0 sz good) : Opens P T sz good := by
  intro H enc W spare held fuel cs x h hq
  obtain ⟨xs, n, _, rfl, hl, hlen, hget⟩ := DataW.trod_struct ht h
  obtain ⟨a, hK, hg⟩ := hf H enc W spare held n cs (by rw [hl, hc, Nat.zero_add]) (fun f hfm => by
    obtain ⟨i, hi, rfl⟩ := List.getElem_of_mem hfm
    have hi' : i < fs.size := by simpa using hi
    have h1 := hget i fs[i] (by simp [hi'])
    have hi2 : i < xs.length := by omega
    refine ⟨xs[i], by rw [← List.getElem?_eq_getElem hi2, ← h1]; simp, fun q hq1 => hq q ?_⟩
    simp only [DataW.weights, ht]
    refine DataW.weights_mem_each (j := i) (t := fs[i].type) (d := xs[i].1) ?_ ?_ q (by simpa using hq1)
    · simp [hi']
    · simp [hi2])
  exact ⟨a, by simpa using hK, hg⟩

/-- An argument of type T is a closed value that is good. -/
def OpA (P : Program) (T : TypeId) (good : CA → Prop) : Prop :=
  ∀ (H : Type) (enc : TypeId × Value → H) (W : World) (base : Nat) (v : Value) (d : DataW H) (ps : List MemPlace), DataW.Trod enc P W 0 (fun _ => true) true T v d ps → Value.okWide P W .any base T v → (∀ q ∈ DataW.weights P T d, q ≤ 140737488351232) →
    ∃ a : CA, RK (All W) W a v ∧ good a

theorem opA_one {T : TypeId} {good : List CV → Prop} (hn : ∀ fs, P.underlying T ≠ some (.struct fs)) (hn2 : ∀ n e, P.underlying T ≠ some (.array n e)) (h : Opens P T 1 good) : OpA P T (fun a => ∃ x, a = .one x ∧ good [x]) := by
  intro H enc W base v d ps ⟨fuel, hf⟩ hok hq
  obtain ⟨l, hl, hs, hg⟩ := h H enc W _ _ fuel _ _ hf hq
  match l, hs with
  | [x], _ =>
    refine ⟨.one x, ?_, x, rfl, hg⟩
    have hl1 : v.cells.toList.length = 1 := by rw [← hl.1]; rfl
    have hv : v.cells = #[v] := by
      unfold Value.okWide at hok
      split at hok
      · rename_i fs h0; exact absurd h0 (hn fs)
      · rename_i n e h0; exact absurd h0 (hn2 _ _)
      · unfold Cell.okWide Cell.ok at hok
        cases v <;> first | rfl | (exfalso; revert hok; split <;> simp_all)
    rw [hv] at hl
    exact hl.2 0 x v rfl rfl
theorem opA_agg {T : TypeId} {fs : Array Field} {sz : Nat} {good : List CV → Prop} (ht : P.underlying T = some (.struct fs)) (h : Opens P T sz good) : OpA P T (fun a => ∃ l, a = .agg l ∧ l.length = sz ∧ good l) := by
  intro H enc W base v d ps ⟨fuel, hf⟩ hok hq
  obtain ⟨l, hl, hs, hg⟩ := h H enc W _ _ fuel _ _ hf hq
  refine ⟨.agg l, ?_, l, rfl, hs, hg⟩
  obtain ⟨cs, rfl, _⟩ := okWide_struct ht hok
  exact ⟨cs.toList, by simp, hl⟩

/-- The arguments of a function. -/
def OpAll (P : Program) (ts : List TypeId) (good : List CA → Prop) : Prop :=
  ∀ (H : Type) (enc : TypeId × Value → H) (W : World) (base : Nat) (vs : List Value) (ds : List (DataW H)) (ps : List MemPlace), DataW.TrodAll enc P W 0 (fun _ => true) true ts vs ds ps →
    (∀ (j : Nat) t v, ts[j]? = some t → vs[j]? = some v → Value.okWide P W .any base t v) → (∀ (j : Nat) t d, ts[j]? = some t → ds[j]? = some d → ∀ q ∈ DataW.weights P t d, q ≤ 140737488351232) →
    ∃ l : List CA, RKL (All W) W l vs ∧ good l
theorem opAll_nil : OpAll P [] (fun l => l = []) := by
  intro H enc W base vs ds ps h _ _
  obtain ⟨rfl, _, _⟩ := trodAll_nil h
  exact ⟨[], ⟨rfl, fun j x y hx => by simp at hx⟩, rfl⟩
theorem opAll_cons {T : TypeId} {ts : List TypeId} {g : CA → Prop} {gs : List CA → Prop} (h : OpA P T g) (hs : OpAll P ts gs) : OpAll P (T :: ts) (fun l => ∃ a r, l = a :: r ∧ g a ∧ gs r) := by
  intro H enc W base vs ds ps ht hok hq
  obtain ⟨v, vs, d, ds, p, q, rfl, rfl, rfl, h0, r0⟩ := trodAll_cons ht
  obtain ⟨a, hK, hg⟩ := h H enc W base v d p h0 (hok 0 T v rfl rfl) (hq 0 T d rfl rfl)
  obtain ⟨l, hL, hgs⟩ := hs H enc W base vs ds q r0 (fun j t v h1 h2 => hok (j + 1) t v h1 h2) (fun j t v h1 h2 => hq (j + 1) t v h1 h2)
  refine ⟨a :: l, ⟨by simp [hL.1], fun j x y hx hy => ?_⟩, a, l, rfl, hg, hgs⟩
  cases j with
  | zero => cases hx; cases hy; exact hK
  | succ j => exact hL.2 j x y hx hy

/-- Old memory reads as it did. -/
theorem trodAll_stays {H : Type} {enc : TypeId × Value → H} (hl : laidOutB P = true) {W W' : World} (hb : ∀ b, b < W.heap.size → W'.heap[b]? = W.heap[b]?) :
    ∀ {ts : List TypeId} {vs : List Value} {ds : List (DataW H)} {ps : List MemPlace}, ts.all (fun t => P.readableRec t && decide (t < P.types.size)) = true → DataW.TrodAll enc P W 0 (fun _ => true) true ts vs ds ps →
      DataW.TrodAll enc P W' 0 (fun b => decide (b < W.heap.size)) true ts vs ds ps
  | [], vs, ds, ps, _, h => by
    obtain ⟨rfl, rfl, rfl⟩ := trodAll_nil h
    exact trodAll_mk0
  | t :: ts, vs, ds, ps, hr, h => by
    obtain ⟨v, vs, d, ds, p, q, rfl, rfl, rfl, h0, r0⟩ := trodAll_cons h
    simp only [List.all_cons, Bool.and_eq_true, decide_eq_true_eq] at hr
    have lt0 : ∀ x ∈ p, x.block < W.heap.size := by obtain ⟨m, hm⟩ := h0; exact DataW.trod_lt m _ _ _ hm
    refine trodAll_cons_mk (WideElems.Trod_stays hl hr.1.1 hr.1.2 h0 (fun x hx => ?_) (fun x hx => by simpa using lt0 x hx)) (trodAll_stays hl hb hr.2 r0)
    have hlt := lt0 x hx
    exact (Below.same (W := W) (w' := { W with heap := W'.heap }) ⟨rfl, rfl, rfl, by
      rcases Nat.lt_or_ge W'.heap.size W.heap.size with h1 | h1
      · have := hb W'.heap.size h1
        rw [Array.getElem?_eq_none (Nat.le_refl _), Array.getElem?_eq_getElem h1] at this
        cases this
      · exact h1, hb⟩ hlt : W.sameAt { W with heap := W'.heap } x)

theorem kept_of {W W' : World} (hk : Stl W W') (hb : ∀ b, b < W.heap.size → W'.heap[b]? = W.heap[b]?) (may : MemPlace → Prop) : W.keptBut W' may := by
  refine ⟨hk.1.1, hk.2.1, fun i hi => ?_⟩
  rw [hb i hi]
  split <;> simp_all

/-- WHAT A FUNCTION TELLS of whatever arguments. -/
theorem lift_law {T : Tab} (hT : PuOk P T) {f : FuncId} {ts : List TypeId} {good : List CA → Prop} (hl : laidOutB P = true) (hr : ts.all (fun t => P.readableRec t && decide (t < P.types.size)) = true) (ho : OpAll P ts good)
    {r : CA} (hp : ∀ l, good l → T.pu f l = some r) {H : Type} {enc : TypeId × Value → H} {W : World} {base : Nat} {args : Array Value} {ds : List (DataW H)} {ps : List MemPlace} (ht : DataW.TrodAll enc P W 0 (fun _ => true) true ts args.toList ds ps)
    (hok : ∀ (j : Nat) t v, ts[j]? = some t → args[j]? = some v → Value.okWide P W .any base t v) (hq : ∀ (j : Nat) t d, ts[j]? = some t → ds[j]? = some d → ∀ q ∈ DataW.weights P t d, q ≤ 140737488351232) (hTb : Tabs W.heap.size W) :
    Calls P f args W fun e W' => ∃ v I', e = .returned v ∧ RK I' W' r v ∧ Stl W W' ∧ (∀ b, b < W.heap.size → W'.heap[b]? = W.heap[b]?) ∧ DataW.TrodAll enc P W' 0 (fun b => decide (b < W.heap.size)) true ts args.toList ds ps := by
  obtain ⟨l, hL, hg⟩ := ho H enc W base args.toList ds ps ht (fun j t v h1 h2 => hok j t v h1 (by simpa using h2)) hq
  obtain ⟨_, hc⟩ := hT f l r (hp l hg)
  have := hc (All W) W args.toList (fun _ h => h) hTb hL
  refine (show Calls P f args W _ from this).mono fun e W' he => ?_
  obtain ⟨v, I', rfl, _, _, _, _, hb, hk, hR⟩ := he
  exact ⟨v, I', rfl, hR, hk, hb, trodAll_stays hl hb hr ht⟩

theorem trodAll_len {H : Type} {enc : TypeId × Value → H} {W : World} {base : Nat} {spare : Nat → Bool} {held : Bool} : ∀ {ts : List TypeId} {vs : List Value} {ds : List (DataW H)} {ps : List MemPlace}, DataW.TrodAll enc P W base spare held ts vs ds ps → ds.length = ts.length
  | [], vs, ds, ps, h => by
    obtain ⟨_, rfl, _⟩ := trodAll_nil h
    rfl
  | t :: ts, vs, ds, ps, h => by
    obtain ⟨v, vs, d, ds, p, q, rfl, rfl, rfl, _, r0⟩ := trodAll_cons h
    rw [List.length_cons, List.length_cons, trodAll_len r0]
theorem weights_of {H : Type} {ts us : List TypeId} {ds gs : List (DataW H)} (hsz : (DataW.weightsEach P (ts ++ us) (ds ++ gs)).all (· ≤ reachBytes) = true) (j : Nat) (t : TypeId) (d : DataW H) (ht : ts[j]? = some t) (hd : ds[j]? = some d) :
    ∀ q ∈ DataW.weights P t d, q ≤ 140737488351232 := by
  intro q hq
  have h1 : (ts ++ us)[j]? = some t := by rw [List.getElem?_append_left (List.getElem?_eq_some_iff.1 ht).1]; exact ht
  have h2 : (ds ++ gs)[j]? = some d := by rw [List.getElem?_append_left (List.getElem?_eq_some_iff.1 hd).1]; exact hd
  have h3 := of_decide_eq_true (List.all_eq_true.1 hsz q (DataW.weights_mem_each h1 h2 q hq))
  simpa [reachBytes] using h3

/-- A list of good parts is the list of what they tell. -/
theorem map_of {α : Type} {f : α → List CV} {g : α → Prop} : ∀ {L : List (List CV)}, (∀ e ∈ L, ∃ a, e = f a ∧ g a) → ∃ xs : List α, L = xs.map f ∧ ∀ x ∈ xs, g x
  | [], _ => ⟨[], rfl, by simp⟩
  | e :: L, h => by
    obtain ⟨a, rfl, ha⟩ := h e List.mem_cons_self
    obtain ⟨xs, rfl, hx⟩ := map_of (L := L) fun e he => h e (List.mem_cons_of_mem _ he)
    exact ⟨a :: xs, rfl, fun x hx' => (List.mem_cons.1 hx').elim (fun h => h ▸ ha) (hx x)⟩

end Go.Proofs.Vm
end

section
/- How data of the laws' parameter types open as closed values. -/
namespace Go.Proofs.YtngpmpmhpggpgaaGreatDoorF
open Go Go.Proofs.Vm
def good24 : List CV → Prop := isP (isI .u64) (isP (isI .i64) (isP (isI .i64) (isP (isI .i64) ((isI .i64)))))
theorem opens24 : Opens Tryz.prog 24 5 good24 := opens_struct Tryz.underlying24 (by kernel_rfl) (at_cons (sz := 1) (sz' := 4) rfl (by kernel_rfl) (opens_int Tryz.underlying22) (at_cons (sz := 1) (sz' := 3) rfl (by kernel_rfl) (opens_int Tryz.underlying3) (at_cons (sz := 1) (sz' := 2) rfl (by kernel_rfl) (opens_int Tryz.underlying3) (at_cons (sz := 1) (sz' := 1) rfl (by kernel_rfl) (opens_int Tryz.underlying3) (at_one (sz := 1) rfl (by kernel_rfl) (opens_int Tryz.underlying3))))))
def good25 : List CV → Prop := isL 1 16 (isS)
theorem opens25 : Opens Tryz.prog 25 1 good25 := opens_slice Tryz.underlying25 (by kernel_rfl) (by decide) (by kernel_rfl) (opens_string Tryz.underlying9)
def good53 : List CV → Prop := isL 1 8 (isI .i64)
theorem opens53 : Opens Tryz.prog 53 1 good53 := opens_slice Tryz.underlying53 (by kernel_rfl) (by decide) (by kernel_rfl) (opens_int Tryz.underlying3)
def good38 : List CV → Prop := isL 1 24 (good53)
theorem opens38 : Opens Tryz.prog 38 1 good38 := opens_slice Tryz.underlying38 (by kernel_rfl) (by decide) (by kernel_rfl) opens53
def good40 : List CV → Prop := isP (isI .u64) ((good38))
theorem opens40 : Opens Tryz.prog 40 2 good40 := opens_struct Tryz.underlying40 (by kernel_rfl) (at_cons (sz := 1) (sz' := 1) rfl (by kernel_rfl) (opens_int Tryz.underlying22) (at_one (sz := 1) rfl (by kernel_rfl) opens38))
def good34 : List CV → Prop := isP (isS) ((isI .i64))
theorem opens34 : Opens Tryz.prog 34 2 good34 := opens_struct Tryz.underlying34 (by kernel_rfl) (at_cons (sz := 1) (sz' := 1) rfl (by kernel_rfl) (opens_string Tryz.underlying9) (at_one (sz := 1) rfl (by kernel_rfl) (opens_int Tryz.underlying3)))
def good29 : List CV → Prop := isL 2 24 (good34)
theorem opens29 : Opens Tryz.prog 29 1 good29 := opens_slice Tryz.underlying29 (by kernel_rfl) (by decide) (by kernel_rfl) opens34
def good42 : List CV → Prop := isP (good40) ((good29))
theorem opens42 : Opens Tryz.prog 42 3 good42 := opens_struct Tryz.underlying42 (by kernel_rfl) (at_cons (sz := 2) (sz' := 1) rfl (by kernel_rfl) opens40 (at_one (sz := 1) rfl (by kernel_rfl) opens29))
def good26 : List CV → Prop := isL 3 56 (good42)
theorem opens26 : Opens Tryz.prog 26 1 good26 := opens_slice Tryz.underlying26 (by kernel_rfl) (by decide) (by kernel_rfl) opens42
def good28 : List CV → Prop := isP (isI .u64) (isP (isI .i64) ((good26)))
theorem opens28 : Opens Tryz.prog 28 3 good28 := opens_struct Tryz.underlying28 (by kernel_rfl) (at_cons (sz := 1) (sz' := 2) rfl (by kernel_rfl) (opens_int Tryz.underlying22) (at_cons (sz := 1) (sz' := 1) rfl (by kernel_rfl) (opens_int Tryz.underlying3) (at_one (sz := 1) rfl (by kernel_rfl) opens26)))
def goodsUnivAlone : List CA → Prop := (fun l => ∃ a r, l = a :: r ∧ (fun a => ∃ l, a = .agg l ∧ l.length = 5 ∧ good24 l) a ∧ (fun l => ∃ a r, l = a :: r ∧ (fun a => ∃ x, a = .one x ∧ good25 [x]) a ∧ (fun l => l = []) r) r)
theorem opensUnivAlone : OpAll Tryz.prog [24, 25] goodsUnivAlone := (opAll_cons (opA_agg Tryz.underlying24 opens24) (opAll_cons (opA_one (fun _ h => by rw [Tryz.underlying25] at h; cases h) (fun _ _ h => by rw [Tryz.underlying25] at h; cases h) opens25) opAll_nil))
def goodsUnivNews : List CA → Prop := (fun l => ∃ a r, l = a :: r ∧ (fun a => ∃ x, a = .one x ∧ isI .u64 [x]) a ∧ (fun l => ∃ a r, l = a :: r ∧ (fun a => ∃ x, a = .one x ∧ isI .i64 [x]) a ∧ (fun l => ∃ a r, l = a :: r ∧ (fun a => ∃ x, a = .one x ∧ isI .i64 [x]) a ∧ (fun l => ∃ a r, l = a :: r ∧ (fun a => ∃ x, a = .one x ∧ isI .i64 [x]) a ∧ (fun l => ∃ a r, l = a :: r ∧ (fun a => ∃ x, a = .one x ∧ isI .i64 [x]) a ∧ (fun l => l = []) r) r) r) r) r)
theorem opensUnivNews : OpAll Tryz.prog [22, 3, 3, 3, 3] goodsUnivNews := (opAll_cons (opA_one (fun _ h => by rw [Tryz.underlying22] at h; cases h) (fun _ _ h => by rw [Tryz.underlying22] at h; cases h) (opens_int Tryz.underlying22)) (opAll_cons (opA_one (fun _ h => by rw [Tryz.underlying3] at h; cases h) (fun _ _ h => by rw [Tryz.underlying3] at h; cases h) (opens_int Tryz.underlying3)) (opAll_cons (opA_one (fun _ h => by rw [Tryz.underlying3] at h; cases h) (fun _ _ h => by rw [Tryz.underlying3] at h; cases h) (opens_int Tryz.underlying3)) (opAll_cons (opA_one (fun _ h => by rw [Tryz.underlying3] at h; cases h) (fun _ _ h => by rw [Tryz.underlying3] at h; cases h) (opens_int Tryz.underlying3)) (opAll_cons (opA_one (fun _ h => by rw [Tryz.underlying3] at h; cases h) (fun _ _ h => by rw [Tryz.underlying3] at h; cases h) (opens_int Tryz.underlying3)) opAll_nil)))))
def goodsUnivSums : List CA → Prop := (fun l => ∃ a r, l = a :: r ∧ (fun a => ∃ l, a = .agg l ∧ l.length = 5 ∧ good24 l) a ∧ (fun l => ∃ a r, l = a :: r ∧ (fun a => ∃ x, a = .one x ∧ good25 [x]) a ∧ (fun l => ∃ a r, l = a :: r ∧ (fun a => ∃ x, a = .one x ∧ isI .i64 [x]) a ∧ (fun l => l = []) r) r) r)
theorem opensUnivSums : OpAll Tryz.prog [24, 25, 3] goodsUnivSums := (opAll_cons (opA_agg Tryz.underlying24 opens24) (opAll_cons (opA_one (fun _ h => by rw [Tryz.underlying25] at h; cases h) (fun _ _ h => by rw [Tryz.underlying25] at h; cases h) opens25) (opAll_cons (opA_one (fun _ h => by rw [Tryz.underlying3] at h; cases h) (fun _ _ h => by rw [Tryz.underlying3] at h; cases h) (opens_int Tryz.underlying3)) opAll_nil)))
def goodsUnivTurns : List CA → Prop := (fun l => ∃ a r, l = a :: r ∧ (fun a => ∃ l, a = .agg l ∧ l.length = 3 ∧ good28 l) a ∧ (fun l => ∃ a r, l = a :: r ∧ (fun a => ∃ x, a = .one x ∧ isS [x]) a ∧ (fun l => ∃ a r, l = a :: r ∧ (fun a => ∃ x, a = .one x ∧ isI .i64 [x]) a ∧ (fun l => ∃ a r, l = a :: r ∧ (fun a => ∃ x, a = .one x ∧ isI .i64 [x]) a ∧ (fun l => l = []) r) r) r) r)
theorem opensUnivTurns : OpAll Tryz.prog [28, 9, 3, 3] goodsUnivTurns := (opAll_cons (opA_agg Tryz.underlying28 opens28) (opAll_cons (opA_one (fun _ h => by rw [Tryz.underlying9] at h; cases h) (fun _ _ h => by rw [Tryz.underlying9] at h; cases h) (opens_string Tryz.underlying9)) (opAll_cons (opA_one (fun _ h => by rw [Tryz.underlying3] at h; cases h) (fun _ _ h => by rw [Tryz.underlying3] at h; cases h) (opens_int Tryz.underlying3)) (opAll_cons (opA_one (fun _ h => by rw [Tryz.underlying3] at h; cases h) (fun _ _ h => by rw [Tryz.underlying3] at h; cases h) (opens_int Tryz.underlying3)) opAll_nil))))
end Go.Proofs.YtngpmpmhpggpgaaGreatDoorF
end

section
/- Each function's run over the program's whole table. -/
namespace Go.Proofs.YtngpmpmhpggpgaaGreatDoorP
open Go Go.Proofs.Vm Go.Proofs.YtngpmpmhpggpgaaGreatDoorF
def cfg : Cfg := ⟨shF, neF, cmpTab 100, ltF⟩
noncomputable def TV : Tab := TT Tryz.prog cfg
@[simp] theorem TV_cb : TV.cb = false := rfl
theorem run48 {args : List AV} {r : AV} {H H' : Hp} (hb : cfg.base.S 48 args H = none) (hl : args.length ≤ 8) (hH : Gr Tryz.prog 48 H H') (h : wpV Tryz.prog TV ⟨8, shF, false, noLate⟩ (Tryz.f48.body.getD .skip) (endS Tryz.prog Tryz.f48.results.toList r H') ⟨envS args, H⟩) : TV.S 48 args H = some (r, H') := TT_goS (N := ⟨8, shF, false, noLate⟩) Tryz.func48 (by kernel_rfl) ok48 (by kernel_rfl) (by kernel_rfl) hb hl hH h -- slices.Clone[[]rillmeter/heavy.Item,rillmeter/heavy.Item]
theorem run73 {args : List CA} {r : CA} (hl : args.length ≤ 17) (h : wpV Tryz.prog TV ⟨17, shF, false, noLate⟩ (Tryz.f73.body.getD .skip) (endK Tryz.prog Tryz.f73.results.toList r) ⟨env0 args, []⟩) : TV.pu 73 args = some r := TT_go (N := ⟨17, shF, false, noLate⟩) Tryz.func73 (by kernel_rfl) ok73 (by kernel_rfl) (by kernel_rfl) (fun _ => rfl) hl h -- rillmeter/heavy.order
theorem run98 {args : List CA} {r : CA} (hl : args.length ≤ 18) (h : wpV Tryz.prog TV ⟨18, shF, false, noLate⟩ (Tryz.f98.body.getD .skip) (endK Tryz.prog Tryz.f98.results.toList r) ⟨env0 args, []⟩) : TV.pu 98 args = some r := TT_go (N := ⟨18, shF, false, noLate⟩) Tryz.func98 (by kernel_rfl) ok98 (by kernel_rfl) (by kernel_rfl) (fun _ => rfl) hl h -- cmp.Or[int]
theorem run99 {args : List CA} {r : CA} (hl : args.length ≤ 20) (h : wpV Tryz.prog TV ⟨20, shF, false, noLate⟩ (Tryz.f99.body.getD .skip) (endK Tryz.prog Tryz.f99.results.toList r) ⟨env0 args, []⟩) : TV.pu 99 args = some r := TT_go (N := ⟨20, shF, false, noLate⟩) Tryz.func99 (by kernel_rfl) ok99 (by kernel_rfl) (by kernel_rfl) (fun _ => rfl) hl h -- cmp.Compare[int]
theorem run121 {args : List CA} {r : CA} (hl : args.length ≤ 6) (h : wpV Tryz.prog TV ⟨6, shF, false, noLate⟩ (Tryz.f121.body.getD .skip) (endK Tryz.prog Tryz.f121.results.toList r) ⟨env0 args, []⟩) : TV.pu 121 args = some r := TT_go (N := ⟨6, shF, false, noLate⟩) Tryz.func121 (by kernel_rfl) ok121 (by kernel_rfl) (by kernel_rfl) (fun _ => rfl) hl h -- cmp.isNaN[int]
end Go.Proofs.YtngpmpmhpggpgaaGreatDoorP
end

section
/- Maps from strings to numbers, with their stamps, told as they are used. -/
namespace Go.Proofs.Vm
open Go

variable {P : Program}

/-! Maps from strings to numbers. -/
def mget (k : ByteArray) : SM → Option Int
  | [] => none
  | p :: r => if k = p.1 then some p.2 else mget k r
def mput (k : ByteArray) (v : Int) (m : SM) : SM := match mIx k m with
  | some j => m.set j (k, v)
  | none => m ++ [(k, v)]
def mdel (k : ByteArray) (m : SM) : SM := match mIx k m with
  | some j => m.eraseIdx j
  | none => m

/-- A map with its stamps, and the next stamp. -/
structure MS where
  m : SM
  b : List Int
  ck : Nat
structure MS.Ok (M : MS) : Prop where
  len : M.b.length = M.m.length
  nd : M.b.Nodup
  lt : ∀ x ∈ M.b, x < (M.ck : Int)
def MS.ent (M : MS) : Ent := .mp (M.ck, cM M.m M.b)
def MS.put (M : MS) (k : ByteArray) (v : Int) : MS := match mIx k M.m with
  | some _ => ⟨mput k v M.m, M.b, M.ck⟩
  | none => ⟨mput k v M.m, M.b ++ [(M.ck : Int)], M.ck + 1⟩
def MS.del (M : MS) (k : ByteArray) : MS := match mIx k M.m with
  | some j => ⟨mdel k M.m, M.b.eraseIdx j, M.ck⟩
  | none => M
def MS.stamp (M : MS) (k : ByteArray) : Int := match mIx k M.m with
  | some j => M.b[j]?.getD 0
  | none => 0
def MS.empty : MS := ⟨[], [], 0⟩
theorem MS.empty_ok : MS.empty.Ok := ⟨rfl, List.nodup_nil, fun x h => by cases h⟩
theorem MS.empty_ent : MS.empty.ent = .mp (0, []) := rfl
@[simp] theorem MS.put_m (M : MS) (k : ByteArray) (v : Int) : (M.put k v).m = mput k v M.m := by unfold MS.put; split <;> rfl
@[simp] theorem MS.del_m (M : MS) (k : ByteArray) : (M.del k).m = mdel k M.m := by
  unfold MS.del
  split
  · rfl
  · rename_i h; unfold mdel; rw [h]

theorem mIx_lt {k : ByteArray} : ∀ {m : SM} {j : Nat}, mIx k m = some j → ∃ h : j < m.length, m[j].1 = k ∧ mget k m = some m[j].2
  | [], j, h => by cases h
  | p :: r, j, h => by
    unfold mIx at h
    by_cases hk : k = p.1
    · rw [if_pos hk] at h
      cases h
      exact ⟨Nat.succ_pos _, hk.symm, by show mget k (p :: r) = some p.2; unfold mget; rw [if_pos hk]⟩
    · rw [if_neg hk] at h
      cases hr : mIx k r with
      | none => rw [hr] at h; cases h
      | some i =>
        rw [hr] at h
        cases h
        obtain ⟨h1, h2, h3⟩ := mIx_lt hr
        exact ⟨Nat.succ_lt_succ h1, h2, by unfold mget; rw [if_neg hk]; exact h3⟩
theorem mIx_no {k : ByteArray} : ∀ {m : SM}, mIx k m = none → mget k m = none
  | [], _ => rfl
  | p :: r, h => by
    unfold mIx at h
    by_cases hk : k = p.1
    · rw [if_pos hk] at h; cases h
    · rw [if_neg hk] at h
      unfold mget
      rw [if_neg hk]
      exact mIx_no (Option.map_eq_none_iff.1 h)

theorem MS.put_ok {M : MS} (h : M.Ok) (k : ByteArray) (v : Int) : (M.put k v).Ok := by
  unfold MS.put
  split
  · rename_i j hj
    exact ⟨by show M.b.length = (mput k v M.m).length; unfold mput; rw [hj]; simp [h.len], h.nd, h.lt⟩
  · rename_i hj
    refine ⟨by show (M.b ++ [(M.ck : Int)]).length = (mput k v M.m).length; unfold mput; rw [hj]; simp [h.len], ?_, ?_⟩
    · refine List.nodup_append.2 ⟨h.nd, by simp, ?_⟩
      intro x hx y hy
      have hy : y = (M.ck : Int) := by simpa using hy
      have := h.lt x hx
      omega
    · intro x hx
      show x < ((M.ck + 1 : Nat) : Int)
      rcases List.mem_append.1 hx with hx | hx
      · have := h.lt x hx; omega
      · have : x = (M.ck : Int) := by simpa using hx
        omega
theorem MS.del_ok {M : MS} (h : M.Ok) (k : ByteArray) : (M.del k).Ok := by
  unfold MS.del
  split
  · rename_i j hj
    obtain ⟨hl, _, _⟩ := mIx_lt hj
    refine ⟨?_, h.nd.sublist (List.eraseIdx_sublist _ _), fun x hx => h.lt x ((List.eraseIdx_sublist _ _).subset hx)⟩
    show (M.b.eraseIdx j).length = (mdel k M.m).length
    unfold mdel
    rw [hj]
    show (M.b.eraseIdx j).length = (M.m.eraseIdx j).length
    rw [List.length_eraseIdx, List.length_eraseIdx, h.len]
  · exact h

theorem cM_set : ∀ {m : SM} {b : List Int} {j : Nat} (k : ByteArray) (v : Int), b.length = m.length → ∀ h : j < m.length, m[j].1 = k →
    (cM m b).modify j (fun p => (.string k, .v (.int .i64 v) :: p.2.drop 1)) = cM (m.set j (k, v)) b ∧ (cM m b).modify j (fun p => (p.1, .v (.int .i64 v) :: p.2.drop 1)) = cM (m.set j (k, v)) b ∧ (cM m b).modify j (fun p => (.string k, p.2)) = cM m b
  | [], _, _, _, _, _, h, _ => by simp at h
  | p :: r, [], _, _, _, h, _, _ => by simp at h
  | p :: r, b :: bs, 0, k, v, _, _, hk => by
    have hk : p.1 = k := hk
    subst hk
    exact ⟨rfl, rfl, rfl⟩
  | p :: r, b :: bs, j + 1, k, v, hl, h, hk => by
    obtain ⟨h1, h2, h3⟩ := cM_set (m := r) (b := bs) (j := j) k v (by simpa using hl) (by simpa using h) hk
    refine ⟨?_, ?_, ?_⟩
    · show _ :: (cM r bs).modify j _ = _; rw [h1]; rfl
    · show _ :: (cM r bs).modify j _ = _; rw [h2]; rfl
    · show _ :: (cM r bs).modify j _ = _; rw [h3]; rfl
theorem cM_app : ∀ {m : SM} {b : List Int} (k : ByteArray) (v x : Int), b.length = m.length → cM m b ++ [(.string k, [.v (.int .i64 v), .v (.int .i64 x)])] = cM (m ++ [(k, v)]) (b ++ [x])
  | [], [], _, _, _, _ => rfl
  | [], b :: bs, _, _, _, h => by simp at h
  | p :: r, [], _, _, _, h => by simp at h
  | p :: r, b :: bs, k, v, x, h => by
    show _ :: (cM r bs ++ _) = _
    rw [cM_app k v x (by simpa using h)]
    rfl
theorem cM_erase : ∀ {m : SM} {b : List Int} (j : Nat), b.length = m.length → (cM m b).eraseIdx j = cM (m.eraseIdx j) (b.eraseIdx j)
  | [], [], _, _ => rfl
  | [], b :: bs, _, h => by simp at h
  | p :: r, [], _, h => by simp at h
  | p :: r, b :: bs, 0, _ => rfl
  | p :: r, b :: bs, j + 1, h => by
    show _ :: (cM r bs).eraseIdx j = _
    rw [cM_erase j (by simpa using h)]
    rfl
theorem cM_stamp : ∀ {m : SM} {b : List Int} {j : Nat} (_hl : b.length = m.length) (_ : b.Nodup) (h : j < b.length), (cM m b).findIdx? (stampIs b[j]) = some j
  | [], b, j, hl, _, h => by simp at hl; subst hl; simp at h
  | p :: r, [], j, _, _, h => by simp at h
  | p :: r, b :: bs, 0, _, _, _ => by
    show ((Value.string p.1, [CV.v (.int .i64 p.2), .v (.int .i64 b)]) :: cM r bs).findIdx? _ = _
    rw [List.findIdx?_cons, if_pos (by show (b == b) = true; simp)]
  | p :: r, b :: bs, j + 1, hl, hn, h => by
    have hj : j < bs.length := by simpa using h
    have hne : b ≠ bs[j] := fun e => (List.nodup_cons.1 hn).1 (e ▸ List.getElem_mem hj)
    show ((Value.string p.1, [CV.v (.int .i64 p.2), .v (.int .i64 b)]) :: cM r bs).findIdx? (stampIs bs[j]) = _
    rw [List.findIdx?_cons, if_neg (by show ¬ (b == bs[j]) = true; simpa using hne), cM_stamp (by simpa using hl) (List.nodup_cons.1 hn).2 hj]
    rfl

section
variable {H : Hp} {t : TypeId} {mi : Nat} {M : MS} {k : ByteArray} {v : Int}

theorem mapAt_eq (h : H[mi]? = some M.ent) : mapAt H (.one (.mp mi)) = some (mi, (M.ck, cM M.m M.b)) := by simp only [mapAt, h, MS.ent]
theorem lk_eq (ht : mapTy P t = some (.string, .int .i64 0)) (ok : M.Ok) (h : H[mi]? = some M.ent) :
    vlookup P H t (.one (.mp mi)) (.one (.c (.v (.string k)))) true = qa (.tup [(false, [.c (.v (.int .i64 ((mget k M.m).getD 0)))]), (false, [.c (.v (.bool (mget k M.m).isSome))])]) := by
  unfold vlookup
  rw [ht, mapAt_eq h]
  have sc : (AV.one (.c (.v (.string k)))).sc = some (.string k) := rfl
  have kd : kindOk .string (.string k) = true := rfl
  simp only [sc, kd, if_true]
  rw [find_cM k M.m M.b ok.len]
  cases hj : mIx k M.m with
  | none => simp only [mIx_no hj]; rfl
  | some j =>
    obtain ⟨hl, _, hg⟩ := mIx_lt hj
    simp only [cM_get M.m M.b j hl (by rw [ok.len]; exact hl), hg]
    rfl
theorem mu_eq (ht : mapTy P t = some (.string, .int .i64 0)) (ok : M.Ok) (h : H[mi]? = some M.ent) :
    vmapUpdate P H t (.one (.mp mi)) (.one (.c (.v (.string k)))) (.one (.c (.v (.int .i64 v)))) = some (und, H.set mi (M.put k v).ent) := by
  unfold vmapUpdate
  rw [ht, mapAt_eq h]
  have sc : (AV.one (.c (.v (.string k)))).sc = some (.string k) := rfl
  have kd : kindOk .string (.string k) = true := rfl
  simp only [sc, kd, if_true]
  rw [find_cM k M.m M.b ok.len]
  simp only [MS.put, mput, MS.ent]
  cases hj : mIx k M.m with
  | none =>
    simp only [putM, cM_app k v M.ck ok.len]
  | some j =>
    obtain ⟨hl, hk, _⟩ := mIx_lt hj
    simp only [putM, (cM_set k v ok.len hl hk).1]
theorem md_eq (ht : mapTy P t = some (.string, .int .i64 0)) (ok : M.Ok) (h : H[mi]? = some M.ent) :
    vdelete P H t (.one (.mp mi)) (.one (.c (.v (.string k)))) = some (und, H.set mi (M.del k).ent) := by
  unfold vdelete
  rw [ht, mapAt_eq h]
  have sc : (AV.one (.c (.v (.string k)))).sc = some (.string k) := rfl
  have kd : kindOk .string (.string k) = true := rfl
  simp only [sc, kd, if_true]
  rw [find_cM k M.m M.b ok.len]
  cases hj : mIx k M.m with
  | none => simp only [MS.del, hj, MS.ent]
  | some j =>
    simp only [MS.del, hj, mdel, MS.ent, cM_erase j ok.len]
theorem me_eq (ht : mapTy P t = some (.string, .int .i64 0)) (ok : M.Ok) (h : H[mi]? = some M.ent) (hg : (mget k M.m).isSome = true) :
    vmapEntry P H t (.one (.mp mi)) (.one (.c (.v (.string k)))) = some (.tup [(false, [.c (.v (.int .i64 ((mget k M.m).getD 0)))]), (false, [.c (.v (.int .i64 (M.stamp k)))])], H) := by
  unfold vmapEntry
  rw [ht, mapAt_eq h]
  have sc : (AV.one (.c (.v (.string k)))).sc = some (.string k) := rfl
  have kd : kindOk .string (.string k) = true := rfl
  simp only [sc, kd, if_true]
  rw [find_cM k M.m M.b ok.len]
  cases hj : mIx k M.m with
  | none => rw [mIx_no hj] at hg; cases hg
  | some j =>
    obtain ⟨hl, hk, hg'⟩ := mIx_lt hj
    have hb : j < M.b.length := by rw [ok.len]; exact hl
    simp only [cM_get M.m M.b j hl hb, (cM_set k 0 ok.len hl hk).2.2, hg', MS.stamp, hj, List.getElem?_eq_getElem hb]
    rw [set_same (e := .mp (M.ck, cM M.m M.b)) h]
    rfl
theorem es_eq (ok : M.Ok) (h : H[mi]? = some M.ent) (hg : (mget k M.m).isSome = true) :
    ventryStore H (.one (.mp mi)) (.one (.c (.v (.int .i64 (M.stamp k))))) (.one (.c (.v (.int .i64 v)))) = some (und, H.set mi (M.put k v).ent) := by
  unfold ventryStore
  rw [mapAt_eq h]
  cases hj : mIx k M.m with
  | none => rw [mIx_no hj] at hg; cases hg
  | some j =>
    obtain ⟨hl, hk, hg'⟩ := mIx_lt hj
    have hb : j < M.b.length := by rw [ok.len]; exact hl
    have hs : M.stamp k = M.b[j] := by simp only [MS.stamp, hj, List.getElem?_eq_getElem hb]; rfl
    simp only [MS.ent, hs, cM_stamp ok.len ok.nd hb, (cM_set k v ok.len hl hk).2.1, MS.put, mput, hj]
theorem ml_eq {ty : TypeId} (ht : isMapT P t = true) (ok : M.Ok) (h : H[mi]? = some M.ent) : vlen P H #[t] ty (.one (.mp mi)) = qa (.one (.c (.v (.int .i64 M.m.length)))) := by
  have e1 := mapAt_eq h
  unfold vlen
  simp only [show (#[t] : Array TypeId)[0]? = some t from rfl, e1, ht, if_true, cM_len M.m M.b ok.len]
  rfl
end

end Go.Proofs.Vm
end

section
/- Small laws of the machine's numbers. -/
namespace Go.Proofs.Vm
open Go

variable {P : Program} {H : Hp}

theorem w64_id {x : Int} (h0 : -9223372036854775808 ≤ x) (h1 : x < 9223372036854775808) : IntKind.i64.wrap x = x := by rw [IntKind.wrap_i64]; omega
theorem bin_half {t : TypeId} {x y : Operand} {k : Nat} (h : k < 9223372036854775808) : vbin P H .quo t x y (vI .i64 (k : Int)) (vI .i64 2) = qa (vI .i64 ((k / 2 : Nat) : Int)) := by
  rw [bin_quo (by decide)]
  have e : (k : Int).tdiv 2 = ((k / 2 : Nat) : Int) := by rw [Int.tdiv_eq_ediv_of_nonneg (by omega)]; omega
  rw [e, w64_id (by omega) (by omega)]
theorem hq_gete (K : Hp) (a b c : Nat) (x y z : Ent) (L : Hp) (j : Nat) (h : K.length + j < (hq K a b c x y z L).length) : (hq K a b c x y z L)[K.length + j]'h = L[j]'(by rw [hq_len] at h; omega) := by
  have h1 := hq_get K a b c x y z L j
  have hj : j < L.length := by rw [hq_len] at h; omega
  rw [List.getElem?_eq_getElem h, List.getElem?_eq_getElem hj] at h1
  exact Option.some.inj h1
@[simp] theorem isNil_ptr {p : Option Addr} : isNil (.const (.pointer p)) = false := rfl
theorem bin_pne {t e : TypeId} (hu : pv P (underlying t) = some (.pointer e)) {x y : Operand} {p : Pt} (hl : lenIs H p.id p.tot = true) : vbin P H .eql t x y (.one (.ptr p)) (.one (.c (.v (.pointer none)))) = qa (vB false) := by
  simp [-lenIs, vbin, vbin0, neSl, isNils, isPtr, isNilp, fresh, hl, hu, one?, Value.oneCell']
theorem bin_slo {t e : TypeId} (he : elemOfSlice P t = some e) {x y : Operand} {id o n tot : Nat} (hn : n ≠ 0) (hl : lenIs H id tot = true) : vbin P H .eql t x y (.one (.sl id o n tot)) (.one (.c (.v (.slice none 0 0)))) = qa (vB false) := by
  have hu : ∃ d, pv P (underlying t) = some (.slice d) := by
    unfold elemOfSlice at he
    split at he
    · rename_i d hd; exact ⟨_, hd⟩
    · cases he
  obtain ⟨d, hd⟩ := hu
  simp [-lenIs, vbin, neSl, isNils, okSl, hl, hn, hd, one?, Value.oneCell']
theorem eq_sl {t e : TypeId} (hu : pv P (underlying t) = some (.slice e)) (ad : Option Addr) (n c : Nat) (d : Nat) : pv P (Op.equalIn (d + 1) t (.slice ad n c) (.slice none 0 0)) = some ad.isNone := by
  unfold Op.equalIn
  cases ad <;> simp [hu]
theorem bin_slr {t e : TypeId} (he : elemOfSlice P t = some e) {x y : Operand} {ad : Option Addr} {n c : Nat} : vbin P H .eql t x y (.one (.c (.v (.slice ad n c)))) (.one (.c (.v (.slice none 0 0)))) = qa (vB ad.isNone) := by
  have hu : ∃ d, pv P (underlying t) = some (.slice d) := by
    unfold elemOfSlice at he
    split at he
    · rename_i d hd; exact ⟨_, hd⟩
    · cases he
  obtain ⟨d, hd⟩ := hu
  simp [vbin, vbin0, neSl, isNils, isPtr, isNilp, fresh, AV.sc, Cell.sc, eqGuard, binOp, ofPv, one?, Value.oneCell', Op.equal, Op.maxDepth, eq_sl hd ad n c 9999]
theorem eq_bool {t : TypeId} (hu : pv P (underlying t) = some .bool) (a b : Bool) (d : Nat) : pv P (Op.equalIn (d + 1) t (.bool a) (.bool b)) = some (a == b) := by
  unfold Op.equalIn
  simp [hu]
theorem eq_nil {t e : TypeId} (hu : pv P (underlying t) = some (.pointer e)) (d : Nat) : pv P (Op.equalIn (d + 1) t (.pointer none) (.pointer none)) = some true := by
  unfold Op.equalIn
  simp [hu]
theorem bin_pee {t e : TypeId} (hu : pv P (underlying t) = some (.pointer e)) {x y : Operand} : vbin P H .eql t x y (.one (.c (.v (.pointer none)))) (.one (.c (.v (.pointer none)))) = qa (vB true) := by
  simp [vbin, vbin0, neSl, isNils, isPtr, isNilp, fresh, AV.sc, Cell.sc, eqGuard, binOp, ofPv, one?, Value.oneCell', Op.equal, Op.maxDepth, eq_nil hu 9999]
theorem bin_bne {t : TypeId} (hu : pv P (underlying t) = some .bool) {x y : Operand} {a b : Bool} : vbin P H .neq t x y (vB a) (vB b) = qa (vB (a != b)) := by
  simp [vbin, vbin0, neSl, isNils, isPtr, isNilp, fresh, AV.sc, Cell.sc, eqGuard, binOp, ofPv, one?, Value.oneCell', Op.equal, Op.maxDepth, eq_bool hu a b 9999]
  rfl
theorem bin_beq {t : TypeId} (hu : pv P (underlying t) = some .bool) {x y : Operand} {a b : Bool} : vbin P H .eql t x y (vB a) (vB b) = qa (vB (a == b)) := by
  simp [vbin, vbin0, neSl, isNils, isPtr, isNilp, fresh, AV.sc, Cell.sc, eqGuard, binOp, ofPv, one?, Value.oneCell', Op.equal, Op.maxDepth, eq_bool hu a b 9999]
/-- The first so many of a row that does not change. -/
theorem slc_to {t e sz : Nat} (he : elemOfSlice P t = some e) (hs : pv P (sizeOf e) = some sz) {xs : List (List CV)} {nid k : Nat} (h1 : k ≤ xs.length) (hx : AllLen xs sz) : vslice P H nid t (.one (.c (.arr xs))) none (some (vI .i64 (k : Int))) none = qa (.one (.c (.arr (xs.take k)))) := by
  have h2 : (k : Int) ≤ xs.length := by omega
  unfold vslice
  simp only [he, hs, optInt, Option.getD_none, Option.getD_some]
  rw [if_pos ⟨Int.le_refl _, by omega, h2, hx⟩]
  simp
end Go.Proofs.Vm
end

section
/- The order of items, over the first table (before the sort is known) and over the whole one. -/
namespace Go.Proofs.YtngpmpmhpggpgaaGreatDoorP
open Go Go.Proofs.Vm Go.Proofs.YtngpmpmhpggpgaaGreatDoorF

theorem isNaN (x : Int) : TV.pu 121 [cI .i64 x] = some (cB false) := by
  refine run121 (by simp) ?_
  simp -implicitDefEqProofs [Tryz.f121]
theorem Compare (x y : Int) : TV.pu 99 [cI .i64 x, cI .i64 y] = some (cI .i64 (cmpI x y)) := by
  refine run99 (by simp) ?_
  by_cases h1 : x < y
  · simp -implicitDefEqProofs [Tryz.f99, isNaN, cmpI, h1]
  · by_cases h2 : y < x <;> simp -implicitDefEqProofs [Tryz.f99, isNaN, cmpI, h1, h2]
theorem Or (x y : Int) : TV.pu 98 [.one (.arr [[.v (.int .i64 x)], [.v (.int .i64 y)]])] = some (cI .i64 (if x ≠ 0 then x else y)) := by
  refine run98 (by simp) ?_
  have w1 : IntKind.i64.wrap 1 = 1 := by decide
  have w2 : IntKind.i64.wrap 2 = 2 := by decide
  simp -implicitDefEqProofs [Tryz.f98]
  refine wpL_step ?_
  by_cases h1 : x = 0
  · simp -implicitDefEqProofs [h1, w1]
    refine wpL_step ?_
    by_cases h2 : y = 0
    · simp -implicitDefEqProofs [h2, w2]
      refine wpL_step ?_
      simp -implicitDefEqProofs
    · simp -implicitDefEqProofs [h2]
  · simp -implicitDefEqProofs [h1]
theorem cmpPu (x y : ByteArray) : TV.pu 100 [.one (.v (.string x)), .one (.v (.string y))] = some (cI .i64 (cmpB x y)) := TT_base rfl
end Go.Proofs.YtngpmpmhpggpgaaGreatDoorP
namespace Go.Proofs.YtngpmpmhpggpgaaGreatDoorF
open Go Go.Proofs.Vm

theorem isNaN (x : Int) : TV.pu 121 [cI .i64 x] = some (cB false) := by
  refine run121 (by simp) ?_
  simp -implicitDefEqProofs [Tryz.f121]
theorem Compare (x y : Int) : TV.pu 99 [cI .i64 x, cI .i64 y] = some (cI .i64 (cmpI x y)) := by
  refine run99 (by simp) ?_
  by_cases h1 : x < y
  · simp -implicitDefEqProofs [Tryz.f99, isNaN, cmpI, h1]
  · by_cases h2 : y < x <;> simp -implicitDefEqProofs [Tryz.f99, isNaN, cmpI, h1, h2]
theorem Or (x y : Int) : TV.pu 98 [.one (.arr [[.v (.int .i64 x)], [.v (.int .i64 y)]])] = some (cI .i64 (if x ≠ 0 then x else y)) := by
  refine run98 (by simp) ?_
  have w1 : IntKind.i64.wrap 1 = 1 := by decide
  have w2 : IntKind.i64.wrap 2 = 2 := by decide
  simp -implicitDefEqProofs [Tryz.f98]
  refine wpL_step ?_
  by_cases h1 : x = 0
  · simp -implicitDefEqProofs [h1, w1]
    refine wpL_step ?_
    by_cases h2 : y = 0
    · simp -implicitDefEqProofs [h2, w2]
      refine wpL_step ?_
      simp -implicitDefEqProofs
    · simp -implicitDefEqProofs [h2]
  · simp -implicitDefEqProofs [h1]
theorem cmpPu (x y : ByteArray) : TV.pu 100 [.one (.v (.string x)), .one (.v (.string y))] = some (cI .i64 (cmpB x y)) := TT_base rfl
end Go.Proofs.YtngpmpmhpggpgaaGreatDoorF
end

section
/- The order of a heap's items, over the first table (before the sort is known) and over the whole one. -/
set_option maxRecDepth 8192
set_option maxHeartbeats 2000000
namespace Go.Proofs.YtngpmpmhpggpgaaGreatDoorP
open Go Go.Proofs.Vm Go.Proofs.YtngpmpmhpggpgaaGreatDoorF

theorem horder (a b : Itm) : TV.pu 73 [.agg (cItm a), .agg (cItm b)] = some (cI .i64 (ordI a b)) := by
  refine run73 (by simp) ?_
  simp -implicitDefEqProofs [Tryz.f73, Compare, Or, cItm, ordI, cmpPu, vbuildSlice_eq es53 el3, cellsOf?, fzParts, setAll, rchParts, rch]
/-- A slice of none, as it is. -/
theorem clone0 (ad : Option Addr) (cap : Nat) (H : Hp) : TV.S 48 [.one (.c (.v (.slice ad 0 cap)))] H = some (.one (.sl (H.length + 1) 0 0 0), H ++ [.clo [] false, .clo [] false]) := by
  refine run48 rfl (by simp) (by simp) ?_
  cases ad with
  | none =>
    simp -implicitDefEqProofs [Tryz.f48, vmove, isNil, bin_slr es29]
  | some a =>
    simp -implicitDefEqProofs [Tryz.f48, vmove, isNil, bin_slr es29, bs_zero es29 el34, vappend_sp es29 es29 el34, elemsOf]
end Go.Proofs.YtngpmpmhpggpgaaGreatDoorP
namespace Go.Proofs.YtngpmpmhpggpgaaGreatDoorF
open Go Go.Proofs.Vm

theorem horder (a b : Itm) : TV.pu 73 [.agg (cItm a), .agg (cItm b)] = some (cI .i64 (ordI a b)) := by
  refine run73 (by simp) ?_
  simp -implicitDefEqProofs [Tryz.f73, Compare, Or, cItm, ordI, cmpPu, vbuildSlice_eq es53 el3, cellsOf?, fzParts, setAll, rchParts, rch]
end Go.Proofs.YtngpmpmhpggpgaaGreatDoorF
end

section
/-
  DERIVED: THE SHELF's CONTRACTS AT THIS DUMP, IN PLAIN WORDS (tools/lay-plain.mjs out of 'YtngpmpmhpggpgaaGreatDoorShelfSrc.lean', which tools/lay-shelf.mjs wrote): THE SAME DECLARATIONS UNDER THE SAME NAMES: 'import', 'namespace', 'open', 'def', 'theorem' AND NOTHING ELSE: no command of the shelf's: FOR A HAND-IN. Each laying: the table of numbers ('.._ren') and one theorem, a field a fact of the dump's own or the kernel's comparison; each contract: ONE APPLICATION.
-/
namespace Go.Proofs
open Go.Shelf
def Tryz.lays213_ren : Go.Shelf.Ren := ⟨fun | 213 => 122 | 265 => 131 | n => n, fun | 9 => 9 | 3 => 3 | n => n, fun | n => n⟩
theorem Tryz.lays213 : Go.Proofs.Lays.n213 Tryz.prog Tryz.lays213_ren := {
  mixed := by kernel_rfl
  f213 := Tryz.func122.trans (congrArg some (by kernel_rfl))
  f265 := Tryz.func131.trans (congrArg some (by kernel_rfl))
  t3 := Tryz.underlying3
  a3 := Tryz.isAgg3
  z3 := Tryz.sizeOf3
  v3 := Tryz.zeroValue3
  t9 := Tryz.underlying9
  a9 := Tryz.isAgg9
  z9 := Tryz.sizeOf9
  v9 := Tryz.zeroValue9 }
open Go.RowKit in
/-- internal/bytealg.CompareString (what strings.Compare calls): IT RETURNS 'Lib.compareBytes a b'; the world is as it was. (LAID: no walk: one application.) -/
theorem Tryz.bytealg_CompareString (a b : ByteArray) (w : World) :
    Calls Tryz.prog 122 #[.string a, .string b] w fun e w' => e = .returned (.int .i64 (Lib.compareBytes a.data.toList b.data.toList)) ∧ w' = w := Any.bytealg_CompareString Tryz.lays213 a b w
def Tryz.lays106_ren : Go.Shelf.Ren := ⟨fun | 106 => 100 | 213 => 122 | 265 => 131 | n => n, fun | 9 => 9 | 3 => 3 | n => n, fun | n => n⟩
theorem Tryz.lays106 : Go.Proofs.Lays.n106 Tryz.prog Tryz.lays106_ren := {
  mixed := by kernel_rfl
  f106 := Tryz.func100.trans (congrArg some (by kernel_rfl))
  f213 := Tryz.func122.trans (congrArg some (by kernel_rfl))
  f265 := Tryz.func131.trans (congrArg some (by kernel_rfl))
  t3 := Tryz.underlying3
  a3 := Tryz.isAgg3
  z3 := Tryz.sizeOf3
  v3 := Tryz.zeroValue3
  t9 := Tryz.underlying9
  a9 := Tryz.isAgg9
  z9 := Tryz.sizeOf9
  v9 := Tryz.zeroValue9 }
open Go.RowKit in
/-- strings.Compare: "Compare returns an integer comparing two strings lexicographically. The result will be 0 if a == b, -1 if a < b, and +1 if a > b.": IT RETURNS 'Lib.compareBytes a b'; the world is as it was. (LAID: no walk: one application.) -/
theorem Tryz.strings_Compare (a b : ByteArray) (w : World) :
    Calls Tryz.prog 100 #[.string a, .string b] w fun e w' => e = .returned (.int .i64 (Lib.compareBytes a.data.toList b.data.toList)) ∧ w' = w := Any.strings_Compare Tryz.lays106 a b w
def Tryz.lays215_ren : Go.Shelf.Ren := ⟨fun | 215 => 121 | n => n, fun | 3 => 3 | 4 => 4 | n => n, fun | n => n⟩
theorem Tryz.lays215 : Go.Proofs.Lays.n215 Tryz.prog Tryz.lays215_ren := {
  mixed := by kernel_rfl
  f215 := Tryz.func121.trans (congrArg some (by kernel_rfl))
  t3 := Tryz.underlying3
  a3 := Tryz.isAgg3
  z3 := Tryz.sizeOf3
  v3 := Tryz.zeroValue3
  t4 := Tryz.underlying4
  a4 := Tryz.isAgg4
  z4 := Tryz.sizeOf4
  v4 := Tryz.zeroValue4 }
open Go.RowKit in
/-- cmp.isNaN at int: 'x != x': false. (LAID: no walk: one application.) -/
theorem Tryz.cmp_isNaN_int (x : Int) (w : World) :
    Calls Tryz.prog 121 #[.int .i64 x] w fun e w' => e = .returned (.bool false) ∧ w' = w := Any.cmp_isNaN_int Tryz.lays215 x w
def Tryz.lays122_ren : Go.Shelf.Ren := ⟨fun | 122 => 99 | 215 => 121 | n => n, fun | 3 => 3 | 4 => 4 | n => n, fun | n => n⟩
theorem Tryz.lays122 : Go.Proofs.Lays.n122 Tryz.prog Tryz.lays122_ren := {
  mixed := by kernel_rfl
  f122 := Tryz.func99.trans (congrArg some (by kernel_rfl))
  f215 := Tryz.func121.trans (congrArg some (by kernel_rfl))
  t3 := Tryz.underlying3
  a3 := Tryz.isAgg3
  z3 := Tryz.sizeOf3
  v3 := Tryz.zeroValue3
  t4 := Tryz.underlying4
  a4 := Tryz.isAgg4
  z4 := Tryz.sizeOf4
  v4 := Tryz.zeroValue4 }
open Go.RowKit in
/-- cmp.Compare at int: "Compare returns -1 if x is less than y, 0 if x equals y, +1 if x is greater than y.": IT RETURNS 'Lib.compareInt x y'; the world is as it was. (LAID: no walk: one application.) -/
theorem Tryz.cmp_Compare_int (x y : Int) (w : World) :
    Calls Tryz.prog 99 #[.int .i64 x, .int .i64 y] w fun e w' => e = .returned (.int .i64 (Lib.compareInt x y)) ∧ w' = w := Any.cmp_Compare_int Tryz.lays122 x y w
def Tryz.lays189_ren : Go.Shelf.Ren := ⟨fun | 189 => 71 | 125 => 58 | 257 => 96 | 128 => 85 | 129 => 86 | 294 => 104 | 295 => 105 | 296 => 106 | 297 => 107 | 298 => 108 | 299 => 109 | 216 => 110 | 300 => 111 | 301 => 112 | 328 => 123 | 329 => 124 | 330 => 125 | 331 => 126 | 332 => 127 | 215 => 121 | 343 => 132 | n => n, fun | 28 => 53 | 3 => 3 | 46 => 102 | 0 => 0 | 51 => 127 | 53 => 22 | 4 => 4 | 183 => 144 | 182 => 143 | 131 => 111 | 5 => 5 | 9 => 9 | 218 => 154 | 222 => 158 | 228 => 162 | 229 => 108 | n => n, fun | n => n⟩
theorem Tryz.lays189 : Go.Proofs.Lays.n189 Tryz.prog Tryz.lays189_ren := {
  mixed := by kernel_rfl
  f125 := Tryz.func58.trans (congrArg some (by kernel_rfl))
  f128 := Tryz.func85.trans (congrArg some (by kernel_rfl))
  f129 := Tryz.func86.trans (congrArg some (by kernel_rfl))
  f189 := Tryz.func71.trans (congrArg some (by kernel_rfl))
  f215 := Tryz.func121.trans (congrArg some (by kernel_rfl))
  f216 := Tryz.func110.trans (congrArg some (by kernel_rfl))
  f257 := Tryz.func96.trans (congrArg some (by kernel_rfl))
  f294 := Tryz.func104.trans (congrArg some (by kernel_rfl))
  f295 := Tryz.func105.trans (congrArg some (by kernel_rfl))
  f296 := Tryz.func106.trans (congrArg some (by kernel_rfl))
  f297 := Tryz.func107.trans (congrArg some (by kernel_rfl))
  f298 := Tryz.func108.trans (congrArg some (by kernel_rfl))
  f299 := Tryz.func109.trans (congrArg some (by kernel_rfl))
  f300 := Tryz.func111.trans (congrArg some (by kernel_rfl))
  f301 := Tryz.func112.trans (congrArg some (by kernel_rfl))
  f328 := Tryz.func123.trans (congrArg some (by kernel_rfl))
  f329 := Tryz.func124.trans (congrArg some (by kernel_rfl))
  f330 := Tryz.func125.trans (congrArg some (by kernel_rfl))
  f331 := Tryz.func126.trans (congrArg some (by kernel_rfl))
  f332 := Tryz.func127.trans (congrArg some (by kernel_rfl))
  f343 := Tryz.func132.trans (congrArg some (by kernel_rfl))
  t0 := Tryz.underlying0
  a0 := Tryz.isAgg0
  z0 := Tryz.sizeOf0
  v0 := Tryz.zeroValue0
  t3 := Tryz.underlying3
  a3 := Tryz.isAgg3
  z3 := Tryz.sizeOf3
  v3 := Tryz.zeroValue3
  t4 := Tryz.underlying4
  a4 := Tryz.isAgg4
  z4 := Tryz.sizeOf4
  v4 := Tryz.zeroValue4
  t5 := Tryz.underlying5
  a5 := Tryz.isAgg5
  z5 := Tryz.sizeOf5
  v5 := Tryz.zeroValue5
  t9 := Tryz.underlying9
  a9 := Tryz.isAgg9
  z9 := Tryz.sizeOf9
  v9 := Tryz.zeroValue9
  t28 := Tryz.underlying53
  a28 := Tryz.isAgg53
  z28 := Tryz.sizeOf53
  v28 := Tryz.zeroValue53
  t46 := Tryz.underlying102
  a46 := Tryz.isAgg102
  z46 := Tryz.sizeOf102
  v46 := Tryz.zeroValue102
  t51 := Tryz.underlying127
  a51 := Tryz.isAgg127
  z51 := Tryz.sizeOf127
  v51 := Tryz.zeroValue127
  t53 := Tryz.underlying22
  a53 := Tryz.isAgg22
  z53 := Tryz.sizeOf22
  v53 := Tryz.zeroValue22
  t131 := Tryz.underlying111
  a131 := Tryz.isAgg111
  z131 := Tryz.sizeOf111
  v131 := Tryz.zeroValue111
  t182 := Tryz.underlying143
  a182 := Tryz.isAgg143
  z182 := Tryz.sizeOf143
  v182 := Tryz.zeroValue143
  t183 := Tryz.underlying144
  a183 := Tryz.isAgg144
  z183 := Tryz.sizeOf144
  v183 := Tryz.zeroValue144
  t218 := Tryz.underlying154
  a218 := Tryz.isAgg154
  z218 := Tryz.sizeOf154
  v218 := Tryz.zeroValue154
  t222 := Tryz.underlying158
  a222 := Tryz.isAgg158
  z222 := Tryz.sizeOf158
  v222 := Tryz.zeroValue158
  t228 := Tryz.underlying162
  a228 := Tryz.isAgg162
  z228 := Tryz.sizeOf162
  v228 := Tryz.zeroValue162
  t229 := Tryz.underlying108
  a229 := Tryz.isAgg108
  z229 := Tryz.sizeOf108
  v229 := Tryz.zeroValue108 }
open Go.Sort Go.RowKit in
theorem Tryz.slices_Sort_int (blk off cap : Nat) (zs : List Int) (w : World) (hH : Holds (Value.int .i64) w blk off zs.toArray) (hblk : blk < w.heap.size) (hsz : zs.length < 4611686018427387904) :
    Calls Tryz.prog 71 #[.slice (some ⟨blk, off, none⟩) zs.length cap] w fun e w' =>
      e = .returned (.tuple #[]) ∧ ∃ n os, w' = grow (putRow (Value.int .i64) (Sort.ahead w n) blk off (zs.mergeSort fun x y => decide (x ≤ y)).toArray) os := Any.slices_Sort_int Tryz.lays189 blk off cap zs w hH hblk hsz
open Go.RowKit Go.Sort in
/-- .. and plain. (LAID: no walk: one application.) -/
theorem Tryz.slices_Sort_int_none (p : Option Addr) (cap : Nat) (w : World) :
    Calls Tryz.prog 71 #[.slice p 0 cap] w fun e w' => e = .returned (.tuple #[]) ∧ w' = w := Any.slices_Sort_int_none Tryz.lays189 p cap w
def Tryz.laysTz_ren : Go.Shelf.Ren := ⟨fun | 29 => 90 | n => n, fun | 22 => 22 | 3 => 3 | 4 => 4 | 25 => 102 | 54 => 141 | 0 => 0 | 5 => 5 | n => n, fun | 1 => 0 | n => n⟩
theorem Tryz.laysTz : Go.Proofs.Lays7.n29 Tryz.prog Tryz.laysTz_ren := {
  mixed := by kernel_rfl
  f29 := Tryz.func90.trans (congrArg some (by kernel_rfl))
  t0 := Tryz.underlying0
  a0 := Tryz.isAgg0
  z0 := Tryz.sizeOf0
  v0 := Tryz.zeroValue0
  i0 := by kernel_rfl
  t3 := Tryz.underlying3
  a3 := Tryz.isAgg3
  z3 := Tryz.sizeOf3
  v3 := Tryz.zeroValue3
  i3 := by kernel_rfl
  t4 := Tryz.underlying4
  a4 := Tryz.isAgg4
  z4 := Tryz.sizeOf4
  v4 := Tryz.zeroValue4
  i4 := by kernel_rfl
  t5 := Tryz.underlying5
  a5 := Tryz.isAgg5
  z5 := Tryz.sizeOf5
  v5 := Tryz.zeroValue5
  i5 := by kernel_rfl
  t22 := Tryz.underlying22
  a22 := Tryz.isAgg22
  z22 := Tryz.sizeOf22
  v22 := Tryz.zeroValue22
  i22 := by kernel_rfl
  t25 := Tryz.underlying102
  a25 := Tryz.isAgg102
  z25 := Tryz.sizeOf102
  v25 := Tryz.zeroValue102
  i25 := by kernel_rfl
  t54 := Tryz.underlying141
  a54 := Tryz.isAgg141
  z54 := Tryz.sizeOf141
  g1 := by kernel_rfl }
def Tryz.laysSortItem_ren : Go.Shelf.Ren := ⟨fun | 6 => 72 | 15 => 58 | 14 => 97 | 28 => 85 | 29 => 86 | 20 => 113 | 21 => 114 | 22 => 115 | 23 => 116 | 24 => 117 | 25 => 118 | 26 => 119 | 27 => 120 | 46 => 128 | 47 => 124 | 48 => 125 | 49 => 129 | 50 => 130 | 57 => 133 | n => n, fun | 22 => 29 | 24 => 34 | 25 => 118 | 3 => 3 | 39 => 102 | 0 => 0 | 53 => 127 | 55 => 22 | 4 => 4 | 46 => 144 | 45 => 143 | 50 => 111 | 5 => 5 | 9 => 9 | 66 => 154 | 70 => 158 | 76 => 162 | 77 => 108 | n => n, fun | n => n⟩
theorem Tryz.laysSortItem : Go.Proofs.SlLaysF0.n6 Tryz.prog Tryz.laysSortItem_ren := {
  mixed := by kernel_rfl
  f6 := ⟨Tryz.f72.name, by decide, Tryz.func72.trans (congrArg some (by kernel_rfl))⟩
  f14 := ⟨Tryz.f97.name, by decide, Tryz.func97.trans (congrArg some (by kernel_rfl))⟩
  f15 := Tryz.func58.trans (congrArg some (by kernel_rfl))
  f20 := ⟨Tryz.f113.name, by decide, Tryz.func113.trans (congrArg some (by kernel_rfl))⟩
  f21 := ⟨Tryz.f114.name, by decide, Tryz.func114.trans (congrArg some (by kernel_rfl))⟩
  f22 := ⟨Tryz.f115.name, by decide, Tryz.func115.trans (congrArg some (by kernel_rfl))⟩
  f23 := ⟨Tryz.f116.name, by decide, Tryz.func116.trans (congrArg some (by kernel_rfl))⟩
  f24 := ⟨Tryz.f117.name, by decide, Tryz.func117.trans (congrArg some (by kernel_rfl))⟩
  f25 := ⟨Tryz.f118.name, by decide, Tryz.func118.trans (congrArg some (by kernel_rfl))⟩
  f26 := ⟨Tryz.f119.name, by decide, Tryz.func119.trans (congrArg some (by kernel_rfl))⟩
  f27 := ⟨Tryz.f120.name, by decide, Tryz.func120.trans (congrArg some (by kernel_rfl))⟩
  f28 := Tryz.func85.trans (congrArg some (by kernel_rfl))
  f29 := Tryz.func86.trans (congrArg some (by kernel_rfl))
  f46 := ⟨Tryz.f128.name, by decide, Tryz.func128.trans (congrArg some (by kernel_rfl))⟩
  f47 := Tryz.func124.trans (congrArg some (by kernel_rfl))
  f48 := Tryz.func125.trans (congrArg some (by kernel_rfl))
  f49 := ⟨Tryz.f129.name, by decide, Tryz.func129.trans (congrArg some (by kernel_rfl))⟩
  f50 := ⟨Tryz.f130.name, by decide, Tryz.func130.trans (congrArg some (by kernel_rfl))⟩
  f57 := ⟨Tryz.f133.name, by decide, Tryz.func133.trans (congrArg some (by kernel_rfl))⟩
  t0 := Tryz.underlying0
  a0 := Tryz.isAgg0
  z0 := Tryz.sizeOf0
  v0 := Tryz.zeroValue0
  t3 := Tryz.underlying3
  a3 := Tryz.isAgg3
  z3 := Tryz.sizeOf3
  v3 := Tryz.zeroValue3
  t4 := Tryz.underlying4
  a4 := Tryz.isAgg4
  z4 := Tryz.sizeOf4
  v4 := Tryz.zeroValue4
  t5 := Tryz.underlying5
  a5 := Tryz.isAgg5
  z5 := Tryz.sizeOf5
  v5 := Tryz.zeroValue5
  t9 := Tryz.underlying9
  a9 := Tryz.isAgg9
  z9 := Tryz.sizeOf9
  v9 := Tryz.zeroValue9
  t22 := Tryz.underlying29
  a22 := Tryz.isAgg29
  z22 := Tryz.sizeOf29
  v22 := Tryz.zeroValue29
  t25 := Tryz.underlying118
  a25 := Tryz.isAgg118
  z25 := Tryz.sizeOf118
  v25 := Tryz.zeroValue118
  t39 := Tryz.underlying102
  a39 := Tryz.isAgg102
  z39 := Tryz.sizeOf102
  v39 := Tryz.zeroValue102
  t45 := Tryz.underlying143
  a45 := Tryz.isAgg143
  z45 := Tryz.sizeOf143
  v45 := Tryz.zeroValue143
  t46 := Tryz.underlying144
  a46 := Tryz.isAgg144
  z46 := Tryz.sizeOf144
  v46 := Tryz.zeroValue144
  t50 := Tryz.underlying111
  a50 := Tryz.isAgg111
  z50 := Tryz.sizeOf111
  v50 := Tryz.zeroValue111
  t53 := Tryz.underlying127
  a53 := Tryz.isAgg127
  z53 := Tryz.sizeOf127
  v53 := Tryz.zeroValue127
  t55 := Tryz.underlying22
  a55 := Tryz.isAgg22
  z55 := Tryz.sizeOf22
  v55 := Tryz.zeroValue22
  t66 := Tryz.underlying154
  a66 := Tryz.isAgg154
  z66 := Tryz.sizeOf154
  v66 := Tryz.zeroValue154
  t70 := Tryz.underlying158
  a70 := Tryz.isAgg158
  z70 := Tryz.sizeOf158
  v70 := Tryz.zeroValue158
  t76 := Tryz.underlying162
  a76 := Tryz.isAgg162
  z76 := Tryz.sizeOf162
  v76 := Tryz.zeroValue162
  t77 := Tryz.underlying108
  a77 := Tryz.isAgg108
  z77 := Tryz.sizeOf108
  v77 := Tryz.zeroValue108 }
end Go.Proofs
end

section
/- Items sorted by their order: out of the shelf's contract. -/
namespace Go.Proofs.Vm
open Go Go.Shelf

variable {P : Program} {ρ : Ren}

theorem ltO (x y : Itm) : (ltOf ordI x y = true) ↔ ordI x y < 0 := by simp [ltOf]
theorem swo_ord : Go.Sort.SWO (ltOf ordI) := by
  refine ⟨fun x => ?_, fun x y z h1 h2 => ?_, fun x y z h1 h2 => ?_⟩
  · simp [ltOf, ordI_eq.2 rfl]
  · rw [ltO] at *; exact ordI_trans h1 h2
  · simp only [ltOf, decide_eq_false_iff_not] at *
    have a := ordI_neg x y
    have b := ordI_neg y z
    have c := ordI_neg x z
    have := ordI_le_trans z y x (by omega) (by omega)
    omega

theorem cmp_of {go : FuncId} (hc : ∀ a b : Itm, Ctr P go [.agg (cItm a), .agg (cItm b)] (cI .i64 (ordI a b))) (blk off size : Nat) (w : World) (hw : ∃ n, n ≤ blk ∧ n ≤ w.heap.size ∧ Tabs n w) : CmpLays P go #[] encI 2 ordI blk off size w := by
  intro m os dk _ x y
  have hTb : Tabs (sortWorldK encI 2 w blk off m dk os).heap.size (sortWorldK encI 2 w blk off m dk os) := by
    obtain ⟨n, n1, n2, n3⟩ := hw
    refine n3.mono (fun b hb => ?_) ?_
    · show ((w.heap.modify blk _) ++ os)[b]? = w.heap[b]?
      rw [Array.getElem?_append_left (by rw [Array.size_modify]; omega), Array.getElem?_modify, if_neg (by omega)]
    · show n ≤ ((w.heap.modify blk _) ++ os).size
      rw [Array.size_append, Array.size_modify]
      omega
  generalize sortWorldK encI 2 w blk off m dk os = W at hTb ⊢
  have hv : RKL (fun _ => False) W [.agg (cItm x), .agg (cItm y)] [.agg (encI x).toArray, .agg (encI y).toArray] := by
    have one : ∀ x : Itm, RKs (fun _ => False) W (cItm x) (encI x) := fun x => ⟨rfl, fun j a b ha hb => by
      match j with
      | 0 => cases ha; cases hb; exact .v _ rfl
      | 1 => cases ha; cases hb; exact .v _ rfl
      | j + 2 => simp [cItm] at ha⟩
    refine ⟨rfl, fun j a b ha hb => ?_⟩
    match j with
    | 0 => cases ha; cases hb; exact ⟨_, rfl, one x⟩
    | 1 => cases ha; cases hb; exact ⟨_, rfl, one y⟩
    | j + 2 => simp at ha
  refine (hc x y (fun _ => False) W _ (fun b h => h.elim) hTb hv).mono fun e w' hh => ?_
  obtain ⟨v, I', rfl, h1, h2, h3, h4, h5, h6, h7⟩ := hh
  have ev : v = .int .i64 (ordI x y) := by cases h7; rfl
  subst ev
  refine ⟨rfl, w'.drawn - W.drawn, w'.heap.extract W.heap.size w'.heap.size, ?_⟩
  obtain ⟨⟨a1, a2⟩, a3, a4⟩ := h6
  have hh : w'.heap = W.heap ++ w'.heap.extract W.heap.size w'.heap.size := by
    apply Array.ext_getElem?
    intro i
    by_cases hi : i < W.heap.size
    · rw [Array.getElem?_append_left hi, h5 i hi]
    · rw [Array.getElem?_append_right (by omega), Array.getElem?_extract]
      by_cases hi2 : i < w'.heap.size
      · rw [if_pos (by omega)]
        congr 1; omega
      · rw [if_neg (by omega), Array.getElem?_eq_none (by omega)]
  have hd : w'.drawn = W.drawn + (w'.drawn - W.drawn) := by omega
  obtain ⟨hp, tp, dr, os', ou⟩ := w'
  simp only [Go.Sort.grow, World.drewN] at *
  subst a1; subst a2; subst a3
  rw [← hd, ← hh]

theorem sortsF_of (L : SlLaysF0.n6 P ρ) (aE : ∀ w, (isAgg (ρ.t 24)).run P w = .ok true w) (zE : ∀ w, (Go.sizeOf (ρ.t 24)).run P w = .ok 2 w) {go : FuncId} (eg : ∀ args w, (callFunc go args).run P w = .ok (.enter go args) w)
    (hc : ∀ a b : Itm, Ctr P go [.agg (cItm a), .agg (cItm b)] (cI .i64 (ordI a b))) : SortsF P (ρ.f 6) go ordI := by
  intro blk off cap d w hw h1 h2 h3
  have h := AnyQ.slices_SortFunc_total L 2 aE zE encI (fun _ => rfl) (fun x v hv => by
    simp only [encI, List.mem_cons, List.not_mem_nil, or_false] at hv
    rcases hv with rfl | rfl <;> rfl) ordI swo_ord go #[] blk off cap d.toArray w eg (cmp_of hc _ _ _ _ hw) h1 h2 (by simpa using h3) (fun x y a b => by
      simp only [ltOf, decide_eq_false_iff_not] at a b
      have := ordI_neg x y
      exact ordI_eq.1 (by omega))
  have e : (fun x y : Itm => !(ltOf ordI) y x) = fun x y => decide (ordI x y ≤ 0) := by
    funext x y
    have := ordI_neg x y
    simp only [ltOf]
    by_cases g : ordI y x < 0
    · simp [g]; omega
    · simp [g]; omega
  simp only [e] at h
  refine Calls.mono ?_ (fun _ _ h => h)
  simpa [isort] using h
theorem sortsF0_of (L : SlLaysF0.n6 P ρ) {go : FuncId} : SortsF0 P (ρ.f 6) go := fun p cap w => AnyF.slices_SortFunc_none L p cap _ w
end Go.Proofs.Vm
end

section
/- The whole table tells the truth of the program (seats of layer 18: numbers and items sorted, clones of nothing, a table of trailing noughts). -/
set_option maxRecDepth 8192
namespace Go.Proofs.YtngpmpmhpggpgaaGreatDoorP
open Go Go.Proofs.Vm Go.Proofs.YtngpmpmhpggpgaaGreatDoorF
theorem cmpS : CmpS Tryz.prog 100 := fun a b w => Tryz.strings_Compare a b w
theorem tvOk : TOk Tryz.prog TV := TT_ok mixed (cmpTab_ok ok100 cmpS)
theorem orderC (a b : Itm) : Ctr Tryz.prog 73 [.agg (cItm a), .agg (cItm b)] (cI .i64 (ordI a b)) := (tvOk.1 _ _ _ (horder a b)).2
theorem entersO : Enters Tryz.prog 73 := enters_of Tryz.func73 (by kernel_rfl) rfl
theorem sorts : SortsF Tryz.prog 72 73 ordI := sortsF_of Tryz.laysSortItem (fun w => Tryz.isAgg34 w) (fun w => Tryz.sizeOf34 w) entersO orderC
theorem sorts0 : SortsF0 Tryz.prog 72 73 := sortsF0_of Tryz.laysSortItem
theorem clones : Clone0 Tryz.prog 48 := fun ad cap H => (tvOk.2 _ _ _ _ _ (clone0 ad cap H)).2.2
theorem cloS : CloS Tryz.prog 48 := cloS_of fun a c => ⟨1, [.clo [] false, .clo [] false], false, rfl, clones a c []⟩
end Go.Proofs.YtngpmpmhpggpgaaGreatDoorP
namespace Go.Proofs.YtngpmpmhpggpgaaGreatDoorF
open Go Go.Proofs.Vm Go.Proofs.YtngpmpmhpggpgaaGreatDoorP
theorem tzS : TzS Tryz.prog 90 := fun x w hx hT => Any7.bits_TrailingZeros64 Tryz.laysTz x hx w fun _ => (hT (0, Lib.deBruijn64tab) List.mem_cons_self).2
theorem tvOk : TOk Tryz.prog TV := TT_ok mixed (orTab_ok (tzTab_ok ok90 tzS) (orTab_ok (sortTab_ok (by kernel_rfl) ok71 (fun blk off cap zs w h1 h2 h3 => Tryz.slices_Sort_int blk off cap zs w h1 h2 h3) (fun p cap w => Tryz.slices_Sort_int_none p cap w))
  (orTab_ok (cloTab_ok fun g hg => by rw [List.mem_singleton.1 hg]; exact ⟨ok48, cloS⟩) (itmTab_ok (by kernel_rfl) ok100 cmpS ok72 sorts sorts0 ok48 clones))))

/- The table, as the world lays it. -/
def laidL : List (String × DataW Unit) := [("math/bits.deBruijn64tab", YtngpmpmhpggpgaaGreatDoor.Rows.laid_math_bits_deBruijn64tab)]
theorem gTab : Tryz.prog.globalNamed "math/bits.deBruijn64tab" = some 0 := by kernel_rfl
theorem tTab : (Tryz.prog.globals[0]?).map (·.type) = some 141 := by kernel_rfl
def doorSteps : Nat := 2000
theorem door_met (os : Os) (args : Array Value) : laidMetH Tryz.prog laidL ((World.doorLaid Tryz.prog doorSteps os).forCall (fun _ _ => 0) ⟨#[], args, []⟩).memory :=
  laidMetH_of_parts3 (fuel := 8) (laidMet_of_run' 8 (by kernel_rfl) (by kernel_rfl)) (by kernel_rfl) (by kernel_rfl)
theorem laid_eq : YtngpmpmhpggpgaaGreatDoor.Rows.laid_math_bits_deBruijn64tab (H := Unit) = .agg (Lib.deBruijn64tab.map fun (n : Nat) => .lit (.int .u8 (n : Int))) := rfl
theorem tabs_of_laid {W : World} (h : laidMetH Tryz.prog laidL W) : Tabs W.heap.size W := by
  rw [MakeChecks.laidMetH_plain _ _ _ (by kernel_rfl)] at h
  obtain ⟨ps, ⟨g0, t0, cs0, f0, p0, q0, hg0, ht0, hv0, hd0, _, _⟩, _⟩ := h
  obtain rfl := Option.some.inj (gTab.symm.trans hg0)
  obtain rfl := Option.some.inj (tTab.symm.trans ht0)
  rw [laid_eq] at hd0
  obtain ⟨xs, m1, rfl, hx1, hlen, hn, hel⟩ := DataW.trod_array Tryz.underlying141 hd0
  have c1 : Tryz.prog.cellsOf 5 = 1 := by kernel_rfl
  have hx2 : Lib.deBruijn64tab.map (fun (n : Nat) => (DataW.lit (.int .u8 (n : Int)) : DataW Unit)) = xs.map (·.1) := by
    have := (Prod.mk.inj hx1).1
    exact DataW.agg.inj this
  have hcell : ∀ j, j < 64 → W.cell? ⟨0, j, none⟩ = some (.int .u8 (Lib.deBruijn64tab.getD j 0)) := fun j hj => by
    have hj2 : j < xs.length := by omega
    have h1 := hel j hj
    rw [c1, List.getElem?_eq_getElem hj2] at h1
    obtain ⟨k, e1, e2, _⟩ := DataW.trod_int Tryz.underlying5 h1
    have h2 := congrArg (fun l => l[j]?) hx2
    simp only [List.getElem?_map, List.getElem?_eq_getElem hj2, Option.map_some, e2] at h2
    have hjl : j < Lib.deBruijn64tab.length := hj
    rw [List.getElem?_eq_getElem hjl] at h2
    simp only [Option.map_some, Option.some.injEq, DataW.lit.injEq, Lit.int.injEq, true_and] at h2
    have hc := World.var?_cell hg0 hv0 j
    rw [hc]
    have h3 : cs0.toList[j]? = some (.int .u8 k) := by
      have := congrArg (fun l => l[0]?) e1
      simpa using this
    rw [← Array.getElem?_toList, h3, ← h2, List.getD_eq_getElem?_getD, List.getElem?_eq_getElem hjl]
    rfl
  intro p hp
  obtain rfl : p = (0, Lib.deBruijn64tab) := by simpa [tbs] using hp
  refine ⟨?_, fun j hj => hcell j hj⟩
  have h0 := hcell 0 (by decide)
  rcases Nat.eq_zero_or_pos W.heap.size with e | e
  · exfalso
    unfold World.cell? at h0
    have : W.heap[0]? = none := Array.getElem?_eq_none (by omega)
    simp [this] at h0
  · exact e
end Go.Proofs.YtngpmpmhpggpgaaGreatDoorF
end

section
/- Heaps of items, and where keys lie: of lists alone. -/
set_option maxRecDepth 8192
set_option maxHeartbeats 2000000
namespace Go.Proofs.Vm

def Nd (m : SM) : Prop := (m.map (·.1)).Nodup

theorem mIx_none {k : ByteArray} : ∀ {m : SM}, mIx k m = none → mget k m = none ∧ k ∉ m.map (·.1)
  | [], _ => ⟨rfl, by simp⟩
  | p :: r, h => by
    unfold mIx at h
    split at h
    · cases h
    · rename_i hk
      have h' : mIx k r = none := by cases hr : mIx k r with | none => rfl | some j => rw [hr] at h; cases h
      obtain ⟨h1, h2⟩ := mIx_none h'
      refine ⟨by unfold mget; rw [if_neg hk]; exact h1, ?_⟩
      simp only [List.map_cons, List.mem_cons, not_or]
      exact ⟨hk, h2⟩
theorem mIx_some {k : ByteArray} : ∀ {m : SM} {j : Nat}, mIx k m = some j → ∃ v, m[j]? = some (k, v) ∧ mget k m = some v
  | [], j, h => by cases h
  | p :: r, j, h => by
    unfold mIx at h
    split at h
    · rename_i hk
      cases h
      exact ⟨p.2, by rw [hk]; rfl, by unfold mget; rw [if_pos hk]⟩
    · rename_i hk
      obtain ⟨j', hj, rfl⟩ := Option.map_eq_some_iff.1 h
      obtain ⟨v, h1, h2⟩ := mIx_some hj
      exact ⟨v, h1, by unfold mget; rw [if_neg hk]; exact h2⟩
theorem mget_append (k k' : ByteArray) (v : Int) : ∀ m : SM, mget k m = none → mget k' (m ++ [(k, v)]) = if k' = k then some v else mget k' m
  | [], _ => by simp [mget]
  | p :: r, h => by
    unfold mget at h
    split at h
    · cases h
    · rename_i hk
      have ih := mget_append k k' v r h
      simp only [List.cons_append, mget]
      by_cases hp : k' = p.1
      · rw [if_pos hp, if_pos hp, if_neg (show ¬ k' = k from fun e => hk (by rw [← e]; exact hp))]
      · rw [if_neg hp, if_neg hp]; exact ih
theorem mget_set (k k' : ByteArray) (v : Int) : ∀ {m : SM} {j : Nat}, mIx k m = some j → mget k' (m.set j (k, v)) = if k' = k then some v else mget k' m
  | [], j, h => by cases h
  | p :: r, j, h => by
    unfold mIx at h
    split at h
    · rename_i hk
      cases h
      simp only [List.set_cons_zero, mget, ← hk]
      split <;> rfl
    · rename_i hk
      obtain ⟨j', hj, rfl⟩ := Option.map_eq_some_iff.1 h
      simp only [List.set_cons_succ, mget]
      by_cases hp : k' = p.1
      · rw [if_pos hp, if_pos hp, if_neg (show ¬ k' = k from fun e => hk (by rw [← e]; exact hp))]
      · rw [if_neg hp, if_neg hp]; exact mget_set k k' v hj
theorem mget_put (k k' : ByteArray) (v : Int) (m : SM) : mget k' (mput k v m) = if k' = k then some v else mget k' m := by
  unfold mput
  split
  · rename_i j h; exact mget_set k k' v h
  · rename_i h; exact mget_append k k' v m (mIx_none h).1
theorem mput_len (k : ByteArray) (v : Int) (m : SM) : (mput k v m).length = if (mget k m).isSome then m.length else m.length + 1 := by
  unfold mput
  split
  · rename_i j h
    obtain ⟨u, _, h2⟩ := mIx_some h
    rw [h2]; simp
  · rename_i h
    rw [(mIx_none h).1]; simp
theorem mput_nd {k : ByteArray} {v : Int} {m : SM} (h : Nd m) : Nd (mput k v m) := by
  unfold mput Nd
  split
  · rename_i j hj
    obtain ⟨u, h1, _⟩ := mIx_some hj
    have hjl := (List.getElem?_eq_some_iff.1 h1).1
    have e : (m.set j (k, v)).map (·.1) = m.map (·.1) := by
      rw [List.map_set]
      apply List.ext_getElem?
      intro i
      rw [List.getElem?_set]
      by_cases hi : j = i
      · subst hi
        rw [if_pos rfl, if_pos (by simpa using hjl), List.getElem?_map, h1]
        rfl
      · rw [if_neg hi]
    rw [e]; exact h
  · rename_i hj
    rw [List.map_append, List.nodup_append]
    refine ⟨h, by simp, fun a ha b hb => ?_⟩
    simp only [List.map_cons, List.map_nil, List.mem_singleton] at hb
    subst hb
    rintro rfl
    exact (mIx_none hj).2 ha
theorem mget_none_of {k : ByteArray} : ∀ {m : SM}, k ∉ m.map (·.1) → mget k m = none
  | [], _ => rfl
  | p :: r, h => by
    simp only [List.map_cons, List.mem_cons, not_or] at h
    unfold mget
    rw [if_neg h.1]
    exact mget_none_of h.2
theorem mget_mem {k : ByteArray} {v : Int} : ∀ {m : SM}, mget k m = some v → k ∈ m.map (·.1)
  | [], h => by cases h
  | p :: r, h => by
    unfold mget at h
    split at h
    · rename_i hk; rw [hk]; simp
    · exact List.mem_cons_of_mem _ (mget_mem h)
theorem mget_erase (k k' : ByteArray) : ∀ {m : SM} {j : Nat}, Nd m → mIx k m = some j → mget k' (m.eraseIdx j) = if k' = k then none else mget k' m
  | [], j, _, h => by cases h
  | p :: r, j, hd, h => by
    unfold Nd at hd
    rw [List.map_cons, List.nodup_cons] at hd
    unfold mIx at h
    split at h
    · rename_i hk
      cases h
      simp only [List.eraseIdx_cons_zero, mget, ← hk]
      by_cases hp : k' = k
      · rw [if_pos hp, hp]; exact mget_none_of (by rw [hk]; exact hd.1)
      · rw [if_neg hp, if_neg hp]
    · rename_i hk
      obtain ⟨j', hj, rfl⟩ := Option.map_eq_some_iff.1 h
      simp only [List.eraseIdx_cons_succ, mget]
      by_cases hp : k' = p.1
      · rw [if_pos hp, if_pos hp, if_neg (show ¬ k' = k from fun e => hk (by rw [← e]; exact hp))]
      · rw [if_neg hp, if_neg hp]; exact mget_erase k k' hd.2 hj
theorem mget_del (k k' : ByteArray) {m : SM} (h : Nd m) : mget k' (mdel k m) = if k' = k then none else mget k' m := by
  unfold mdel
  split
  · rename_i j hj; exact mget_erase k k' h hj
  · rename_i hj
    split
    · rename_i e; rw [e]; exact (mIx_none hj).1
    · rfl
theorem mdel_len {k : ByteArray} {m : SM} (h : (mget k m).isSome = true) : (mdel k m).length + 1 = m.length := by
  unfold mdel
  split
  · rename_i j hj
    obtain ⟨u, h1, _⟩ := mIx_some hj
    have hjl := (List.getElem?_eq_some_iff.1 h1).1
    rw [List.length_eraseIdx, if_pos hjl]; omega
  · rename_i hj
    rw [(mIx_none hj).1] at h; cases h
theorem mdel_nd {k : ByteArray} {m : SM} (h : Nd m) : Nd (mdel k m) := by
  unfold mdel Nd
  split
  · exact (List.Sublist.map _ (List.eraseIdx_sublist _ _)).nodup h
  · exact h

/-! Items, and the heap's order. -/

def swp (l : List Itm) (i k : Nat) : List Itm := match l[i]?, l[k]? with
  | some a, some b => (l.set i b).set k a
  | _, _ => l

theorem swp_len (l : List Itm) (i k : Nat) : (swp l i k).length = l.length := by
  unfold swp; split <;> simp
theorem swp_at {l : List Itm} {i k : Nat} (hi : i < l.length) (hk : k < l.length) (j : Nat) (hj : j < l.length) (hj2 : j < (swp l i k).length) :
    (swp l i k)[j] = if j = k then l[i] else if j = i then l[k] else l[j] := by
  have e : swp l i k = (l.set i l[k]).set k l[i] := by unfold swp; rw [List.getElem?_eq_getElem hi, List.getElem?_eq_getElem hk]
  simp only [e, List.getElem_set]
  by_cases h1 : k = j
  · rw [if_pos h1, if_pos (show j = k from h1.symm)]
  · rw [if_neg h1, if_neg (show ¬ j = k from fun h => h1 h.symm)]
    by_cases h2 : i = j
    · rw [if_pos h2, if_pos (show j = i from h2.symm)]
    · rw [if_neg h2, if_neg (show ¬ j = i from fun h => h2 h.symm)]
theorem swp_perm {l : List Itm} {i k : Nat} (hi : i < l.length) (hk : k < l.length) : (swp l i k).Perm l := by
  have e : swp l i k = (l.set i l[k]).set k l[i] := by unfold swp; rw [List.getElem?_eq_getElem hi, List.getElem?_eq_getElem hk]
  rw [e]
  exact List.set_set_perm hi hk

/-- Where each key lies, the map tells. -/
structure Ix (l : List Itm) (m : SM) : Prop where
  nd : Nd m
  len : m.length = l.length
  at_ : ∀ i, ∀ h : i < l.length, mget l[i].1 m = some (i : Int)
  only : ∀ k v, mget k m = some v → ∃ i, ∃ h : i < l.length, l[i].1 = k
theorem Ix.inj {l : List Itm} {m : SM} (h : Ix l m) {i j : Nat} (hi : i < l.length) (hj : j < l.length) (e : l[i].1 = l[j].1) : i = j := by
  have h1 := h.at_ i hi
  have h2 := h.at_ j hj
  rw [e, h2] at h1
  have := Option.some.inj h1
  omega

section
variable (A : Itm → Itm → Prop)

/-- One stands ahead of the one above it. -/
def Edge (l : List Itm) (j : Nat) : Prop := ∀ h0 : 0 < j, ∀ h : j < l.length, A l[j] (l[(j - 1) / 2]'(by omega))
def HeapOk (l : List Itm) : Prop := ∀ j, Edge A l j
/-- All is well but about place i. -/
structure Almost (l : List Itm) (i : Nat) : Prop where
  far : ∀ j, j ≠ i → (0 < j → (j - 1) / 2 ≠ i) → Edge A l j
  over : ∀ j (_hi : 0 < i) (_hj : 0 < j) (_hp : (j - 1) / 2 = i) (h : j < l.length), A l[j] (l[(i - 1) / 2]'(by omega))

variable {A}
variable (tr : ∀ a b c, A a b → A b c → A a c)
include tr

theorem up_step {l : List Itm} {i : Nat} (h : Almost A l i) (h0 : 0 < i) (hi : i < l.length) (hlt : A (l[(i - 1) / 2]'(by omega)) l[i]) : Almost A (swp l i ((i - 1) / 2)) ((i - 1) / 2) := by
  have hp : (i - 1) / 2 < l.length := by omega
  have hpi : (i - 1) / 2 ≠ i := by omega
  have at_ := fun j (hj : j < l.length) (hj2 : j < (swp l i ((i - 1) / 2)).length) => swp_at hi hp j hj hj2
  refine ⟨fun j hj1 hj2 hj0 hj => ?_, fun j hp0 hj0 hjp hj => ?_⟩
  · have hjl : j < l.length := by rw [swp_len] at hj; exact hj
    have hj2 := hj2 hj0
    have hjpl : (j - 1) / 2 < l.length := by omega
    rw [at_ j hjl, at_ _ hjpl, if_neg hj1, if_neg hj2]
    have hji : j ≠ i := by rintro rfl; exact hj2 rfl
    rw [if_neg hji]
    by_cases hc : (j - 1) / 2 = i
    · rw [if_pos hc]
      exact h.over j h0 hj0 hc hjl
    · rw [if_neg hc]
      exact h.far j hji (fun _ => hc) hj0 hjl
  · have hjl : j < l.length := by rw [swp_len] at hj; exact hj
    have hjpl : ((i - 1) / 2 - 1) / 2 < l.length := by omega
    rw [at_ j hjl, at_ _ hjpl, if_neg (show j ≠ (i - 1) / 2 by omega), if_neg (show ((i - 1) / 2 - 1) / 2 ≠ (i - 1) / 2 by omega), if_neg (show ((i - 1) / 2 - 1) / 2 ≠ i by omega)]
    have ep : A l[(i - 1) / 2] l[((i - 1) / 2 - 1) / 2] := h.far _ hpi (fun _ => by omega) hp0 hp
    by_cases hji : j = i
    · rw [if_pos hji]; exact ep
    · rw [if_neg hji]
      have := h.far j hji (fun _ => by omega) hj0 hjl
      simp only [hjp] at this
      exact tr _ _ _ this ep

omit tr in
theorem heap_of_up {l : List Itm} {i : Nat} (h : Almost A l i) (he : Edge A l i) : ∀ j, (0 < j → (j - 1) / 2 ≠ i) → Edge A l j := by
  intro j hj
  by_cases hji : j = i
  · rw [hji]; exact he
  · exact h.far j hji hj

omit tr in
/-- One sinks below the later one of those under it. -/
theorem down_step {l : List Itm} {i t : Nat} (h : Almost A l i) (he : Edge A l i) (hi : i < l.length) (ht : t < l.length) (ht0 : 0 < t) (htp : (t - 1) / 2 = i) (hlt : A l[i] l[t])
    (hoth : ∀ c, 0 < c → (c - 1) / 2 = i → c ≠ t → ∀ hc : c < l.length, A l[c] l[t]) : Almost A (swp l i t) t ∧ Edge A (swp l i t) t := by
  have hti : t ≠ i := by omega
  have at_ := fun j (hj : j < l.length) (hj2 : j < (swp l i t).length) => swp_at hi ht j hj hj2
  refine ⟨⟨fun j hj1 hj2 hj0 hj => ?_, fun j hp0 hj0 hjp hj => ?_⟩, fun h0 hj => ?_⟩
  · have hjl : j < l.length := by rw [swp_len] at hj; exact hj
    have hj2 := hj2 hj0
    have hjpl : (j - 1) / 2 < l.length := by omega
    rw [at_ j hjl, at_ _ hjpl, if_neg hj1, if_neg hj2]
    by_cases hji : j = i
    · subst hji
      rw [if_pos rfl, if_neg (by omega)]
      exact h.over t hj0 ht0 htp ht
    · rw [if_neg hji]
      by_cases hc : (j - 1) / 2 = i
      · rw [if_pos hc]
        exact hoth j hj0 hc hj1 hjl
      · rw [if_neg hc]
        exact h.far j hji (fun _ => hc) hj0 hjl
  · have hjl : j < l.length := by rw [swp_len] at hj; exact hj
    have hjpl : (t - 1) / 2 < l.length := by omega
    rw [at_ j hjl, at_ _ hjpl, if_neg (show j ≠ t by omega), if_neg (show (t - 1) / 2 ≠ t by omega), if_neg (show j ≠ i by omega), if_pos htp]
    have := h.far j (by omega) (fun _ => by omega) hj0 hjl
    simp only [hjp] at this
    exact this
  · have hjpl : (t - 1) / 2 < l.length := by omega
    rw [at_ t ht, at_ _ hjpl, if_pos rfl, if_neg (show (t - 1) / 2 ≠ t by omega), if_pos htp]
    exact hlt
omit tr in
theorem down_end {l : List Itm} {i : Nat} (h : Almost A l i) (he : Edge A l i) (hch : ∀ c, 0 < c → (c - 1) / 2 = i → Edge A l c) : HeapOk A l := by
  intro j hj0
  by_cases hji : j = i
  · subst hji; exact he hj0
  · by_cases hp : (j - 1) / 2 = i
    · exact hch j hj0 hp hj0
    · exact h.far j hji (fun _ => hp) hj0
/-- A place of a heap is changed. -/
theorem almost_set {l : List Itm} {i : Nat} {x : Itm} (h : HeapOk A l) : Almost A (l.set i x) i := by
  refine ⟨fun j hj1 hj2 hj0 hj => ?_, fun j hp0 hj0 hjp hj => ?_⟩
  · have hjl : j < l.length := by simpa using hj
    rw [List.getElem_set_ne (fun e => hj1 e.symm), List.getElem_set_ne (fun e => hj2 hj0 e.symm)]
    exact h j hj0 hjl
  · have hjl : j < l.length := by simpa using hj
    rw [List.getElem_set_ne (by omega), List.getElem_set_ne (by omega)]
    have h1 := h j hj0 hjl
    have h2 := h i hp0 (by omega)
    simp only [hjp] at h1
    exact tr _ _ _ h1 h2
omit tr in
/-- One comes at the end. -/
theorem almost_push {l : List Itm} {x : Itm} (h : HeapOk A l) : Almost A (l ++ [x]) l.length := by
  refine ⟨fun j hj1 hj2 hj0 hj => ?_, fun j hp0 hj0 hjp hj => ?_⟩
  · have hjl : j < l.length := by rw [List.length_append, List.length_singleton] at hj; omega
    have hpl : (j - 1) / 2 < l.length := by omega
    rw [List.getElem_append_left hjl, List.getElem_append_left hpl]
    exact h j hj0 hjl
  · rw [List.length_append, List.length_singleton] at hj
    omega
end

/-- Two change places, and the map is told. -/
theorem ix_swp {l : List Itm} {m : SM} (h : Ix l m) {i k : Nat} (hi : i < l.length) (hk : k < l.length) : Ix (swp l i k) (mput l[i].1 (k : Int) (mput l[k].1 (i : Int) m)) := by
  have g1 := h.at_ i hi
  have g2 := h.at_ k hk
  have e1 : mget l[i].1 (mput l[k].1 (i : Int) m) = some (i : Int) := by rw [mget_put]; split <;> simp [g1]
  refine ⟨mput_nd (mput_nd h.nd), ?_, fun j hj => ?_, fun k' v hg => ?_⟩
  · rw [swp_len, mput_len, e1, mput_len, g2]
    exact h.len
  · have hjl : j < l.length := by rw [swp_len] at hj; exact hj
    rw [swp_at hi hk j hjl hj, mget_put, mget_put]
    by_cases h1 : j = k
    · rw [if_pos h1, if_pos rfl, h1]
    · rw [if_neg h1]
      by_cases h2 : j = i
      · rw [if_pos h2]
        have : l[k].1 ≠ l[i].1 := fun e => h1 (by rw [h2]; exact (h.inj hk hi e).symm)
        rw [if_neg this, if_pos rfl, h2]
      · rw [if_neg h2, if_neg (show ¬ l[j].1 = l[i].1 from fun e => h2 (h.inj hjl hi e)), if_neg (show ¬ l[j].1 = l[k].1 from fun e => h1 (h.inj hjl hk e))]
        exact h.at_ j hjl
  · have hex : ∃ j, ∃ h : j < l.length, l[j].1 = k' := by
      rw [mget_put, mget_put] at hg
      split at hg
      · rename_i e; exact ⟨i, hi, e.symm⟩
      · split at hg
        · rename_i e; exact ⟨k, hk, e.symm⟩
        · exact h.only k' v hg
    obtain ⟨j, hj, e⟩ := hex
    by_cases h1 : j = i
    · refine ⟨k, by rw [swp_len]; exact hk, ?_⟩
      rw [swp_at hi hk k hk, if_pos rfl, ← e]
      subst h1; rfl
    · by_cases h2 : j = k
      · refine ⟨i, by rw [swp_len]; exact hi, ?_⟩
        rw [swp_at hi hk i hi]
        subst h2
        rw [if_neg (show ¬ i = j from fun x => h1 x.symm), if_pos rfl, e]
      · refine ⟨j, by rw [swp_len]; exact hj, ?_⟩
        rw [swp_at hi hk j hj, if_neg h2, if_neg h1, e]
/-- A key that is nowhere. -/
theorem ix_none {l : List Itm} {m : SM} (h : Ix l m) {k : ByteArray} (hk : ∀ i, ∀ h : i < l.length, l[i].1 ≠ k) : mget k m = none := by
  cases hg : mget k m with
  | none => rfl
  | some v =>
    obtain ⟨i, hi, e⟩ := h.only k v hg
    exact absurd e (hk i hi)
theorem ix_some {l : List Itm} {m : SM} (h : Ix l m) {k : ByteArray} {v : Int} (hg : mget k m = some v) : ∃ i, ∃ hi : i < l.length, l[i].1 = k ∧ v = (i : Int) := by
  obtain ⟨i, hi, e⟩ := h.only k v hg
  have := h.at_ i hi
  rw [e, hg] at this
  exact ⟨i, hi, e, Option.some.inj this⟩
/-- One comes at the end. -/
theorem ix_push {l : List Itm} {m : SM} (h : Ix l m) {k : ByteArray} {c : Int} (hk : mget k m = none) : Ix (l ++ [(k, c)]) (mput k (l.length : Int) m) := by
  refine ⟨mput_nd h.nd, ?_, fun j hj => ?_, fun k' v hg => ?_⟩
  · rw [mput_len, hk, List.length_append, List.length_singleton, h.len]; rfl
  · rw [mget_put]
    by_cases hjl : j < l.length
    · rw [List.getElem_append_left hjl]
      have : ¬ l[j].1 = k := fun e => by have := h.at_ j hjl; rw [e, hk] at this; cases this
      rw [if_neg this]
      exact h.at_ j hjl
    · have hje : j = l.length := by rw [List.length_append, List.length_singleton] at hj; omega
      subst hje
      rw [List.getElem_append_right (Nat.le_refl _)]
      simp
  · rw [mget_put] at hg
    split at hg
    · rename_i e
      refine ⟨l.length, by simp, ?_⟩
      rw [List.getElem_append_right (Nat.le_refl _)]
      simp [e]
    · obtain ⟨i, hi, e⟩ := h.only k' v hg
      exact ⟨i, by rw [List.length_append]; omega, by rw [List.getElem_append_left hi]; exact e⟩
/-- A count is another one. -/
theorem ix_count {l : List Itm} {m : SM} (h : Ix l m) {i : Nat} (hi : i < l.length) (c : Int) : Ix (l.set i (l[i].1, c)) m := by
  have key : ∀ j, ∀ hj : j < l.length, ∀ hj2 : j < (l.set i (l[i].1, c)).length, (l.set i (l[i].1, c))[j].1 = l[j].1 := fun j hj hj2 => by
    rw [List.getElem_set]
    split
    · rename_i e; subst e; rfl
    · rfl
  refine ⟨h.nd, by rw [List.length_set]; exact h.len, fun j hj => ?_, fun k v hg => ?_⟩
  · have hjl : j < l.length := by simpa using hj
    rw [key j hjl hj]
    exact h.at_ j hjl
  · obtain ⟨j, hj, e⟩ := h.only k v hg
    exact ⟨j, by simpa using hj, by rw [key j hj]; exact e⟩
/-- The one on top goes, and another one is put there. -/
theorem ix_top {l : List Itm} {m : SM} (h : Ix l m) (h0 : 0 < l.length) {k : ByteArray} {c : Int} (hk : mget k m = none) : Ix (l.set 0 (k, c)) (mput k 0 (mdel l[0].1 m)) := by
  have g0 := h.at_ 0 h0
  have hk0 : ¬ k = l[0].1 := fun e => by rw [e, g0] at hk; cases hk
  have e1 : mget k (mdel l[0].1 m) = none := by rw [mget_del _ _ h.nd, if_neg hk0]; exact hk
  refine ⟨mput_nd (mdel_nd h.nd), ?_, fun j hj => ?_, fun k' v hg => ?_⟩
  · rw [mput_len, e1, List.length_set]
    have := mdel_len (k := l[0].1) (m := m) (by rw [g0]; rfl)
    simp only [Option.isSome_none, Bool.false_eq_true, if_false]
    rw [this]; exact h.len
  · have hjl : j < l.length := by simpa using hj
    rw [mget_put, mget_del _ _ h.nd]
    by_cases hj0 : j = 0
    · subst hj0
      rw [List.getElem_set_self, if_pos rfl]
      rfl
    · rw [List.getElem_set_ne (fun e => hj0 e.symm)]
      have h1 : ¬ l[j].1 = k := fun e => by have := h.at_ j hjl; rw [e, hk] at this; cases this
      have h2 : ¬ l[j].1 = l[0].1 := fun e => hj0 (h.inj hjl h0 e)
      rw [if_neg h1, if_neg h2]
      exact h.at_ j hjl
  · rw [mget_put, mget_del _ _ h.nd] at hg
    split at hg
    · rename_i e
      exact ⟨0, by simpa using h0, by rw [List.getElem_set_self]; exact e.symm⟩
    · rename_i e
      split at hg
      · cases hg
      · rename_i e2
        obtain ⟨i, hi, ei⟩ := h.only k' v hg
        have hi0 : i ≠ 0 := by rintro rfl; exact e2 ei.symm
        exact ⟨i, by simpa using hi, by rw [List.getElem_set_ne (fun e => hi0 e.symm)]; exact ei⟩
end Go.Proofs.Vm
end

section
/- Structs of strings and numbers, compared. -/
namespace Go.Proofs.Vm
open Go

variable {P : Program} {H : Hp}

theorem eq_strD {t : TypeId} (hu : pv P (underlying t) = some .string) (a b : ByteArray) (d : Nat) : pv P (Op.equalIn (d + 1) t (.string a) (.string b)) = some (a == b) := by
  unfold Op.equalIn
  simp [hu]
theorem eq_intD {t : TypeId} {k : IntKind} (hu : pv P (underlying t) = some (.int k)) (a b : Int) (d : Nat) : pv P (Op.equalIn (d + 1) t (.int k a) (.int k b)) = some (a == b) := by
  unfold Op.equalIn
  simp [hu]

theorem pv_of {t : TypeId} {d : TypeDesc} (h : P.underlying t = some d) : pv P (underlying t) = some d := by
  unfold underlying
  simp [h]
/-- Of one string and one number. -/
theorem eq_st2 {t : TypeId} {f0 f1 : Field} {k : IntKind} (hu : pv P (underlying t) = some (.struct #[f0, f1])) (hs : P.stoodInHeld t = false) (n0 : (f0.name == "_") = false) (n1 : (f1.name == "_") = false) (o0 : f0.offset = 0) (o1 : f1.offset = 1)
    (a0 : pv P (isAgg f0.type) = some false) (a1 : pv P (isAgg f1.type) = some false) (u0 : pv P (underlying f0.type) = some .string) (u1 : pv P (underlying f1.type) = some (.int k)) (a b : ByteArray) (x y : Int) (d : Nat) :
    pv P (Op.equalIn (d + 2) t (.agg #[.string a, .int k x]) (.agg #[.string b, .int k y])) = some (a == b && x == y) := by
  have m0 : ¬ f0.name = "_" := fun h => by rw [h] at n0; simp at n0
  have m1 : ¬ f1.name = "_" := fun h => by rw [h] at n1; simp at n1
  unfold Op.equalIn
  cases h0 : a == b <;> cases h1 : x == y <;> simp [hu, hs, m0, m1, o0, o1, part, a0, a1, eq_strD u0, eq_intD u1, h0, h1]

theorem bin_st2 {t : TypeId} {f0 f1 : Field} {k : IntKind} (hu : pv P (underlying t) = some (.struct #[f0, f1])) (hs : P.stoodInHeld t = false) (hg : P.eqGuardType P.depth t = false) (n0 : (f0.name == "_") = false) (n1 : (f1.name == "_") = false) (o0 : f0.offset = 0) (o1 : f1.offset = 1)
    (a0 : pv P (isAgg f0.type) = some false) (a1 : pv P (isAgg f1.type) = some false) (u0 : pv P (underlying f0.type) = some .string) (u1 : pv P (underlying f1.type) = some (.int k)) {a b : ByteArray} {x y : Int} {p q : Operand} :
    vbin P H .eql t p q (.agg [.c (.v (.string a)), .c (.v (.int k x))]) (.agg [.c (.v (.string b)), .c (.v (.int k y))]) = qa (vB (a == b && x == y)) ∧
    vbin P H .neq t p q (.agg [.c (.v (.string a)), .c (.v (.int k x))]) (.agg [.c (.v (.string b)), .c (.v (.int k y))]) = qa (vB (!(a == b && x == y))) := by
  have h := eq_st2 hu hs n0 n1 o0 o1 a0 a1 u0 u1 a b x y 9998
  constructor <;> simp [vbin, vbin0, neSl, isNils, isPtr, isNilp, fresh, AV.sc, scs, Cell.sc, eqGuard, hg, binOp, ofPv, one?, Value.oneCell', Op.equal, Op.maxDepth, h]
/-- A pointer that is none, and one that is not. -/
theorem bin_pnn {t e : TypeId} (hu : pv P (underlying t) = some (.pointer e)) {x y : Operand} {p : Pt} (hl : lenIs H p.id p.tot = true) : vbin P H .neq t x y (.one (.ptr p)) (.one (.c (.v (.pointer none)))) = qa (vB true) := by
  simp [-lenIs, vbin, vbin0, neSl, isNils, isPtr, isNilp, fresh, hl, hu, one?, Value.oneCell']
theorem bin_pen {t e : TypeId} (hu : pv P (underlying t) = some (.pointer e)) {x y : Operand} : vbin P H .neq t x y (.one (.c (.v (.pointer none)))) (.one (.c (.v (.pointer none)))) = qa (vB false) := by
  simp [vbin, vbin0, neSl, isNils, isPtr, isNilp, fresh, AV.sc, Cell.sc, eqGuard, binOp, ofPv, one?, Value.oneCell', Op.equal, Op.maxDepth, eq_nil hu 9999]
end Go.Proofs.Vm
end
