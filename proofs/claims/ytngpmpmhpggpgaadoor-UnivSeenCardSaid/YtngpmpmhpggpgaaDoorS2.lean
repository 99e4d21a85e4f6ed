/- Steps shared by the proofs of this seat's statements (part 2). -/
import Derived.Test.YtngpmpmhpggpgaaDoorS1
import Derived.Test.YtngpmpmhpggpgaaDoorProg
import Derived.KernelRfl
import Derived.Sort.Grow
import Derived.Shelf.GgSortFunc.InsertionK
import Derived.Lib.Bytealg
import Derived.Shelf.Spec.TrailingZeros
import Derived.Shelf.Sort.Plain
import Derived.Test.YtngpmpmhpggpgaaDoorS0
import Derived.Deep.Slices
import Derived.ChangeArms
import Derived.ChangeSame
import Derived.SizedLaws
import Derived.WideShapes
import Derived.WalkKit
import Derived.ProofKit
import Derived.OpenShut
import Derived.ShutString
import Derived.ChangeOld
import Derived.Below
import Derived.Laws.BitsAllLaws
import Derived.Shelf.Small.Strs
import Derived.Shelf.Small.Wraps
import Derived.Shelf.Slices.In.SortNone
import Derived.Ground.Names2Prog
import Derived.Shelf.Lays7
import Derived.Ground.Names7Prog
import Derived.Shelf.SlSortCmp.WholeK
import Derived.Ground.SlsfProg
import Derived.Shelf.SlSortCmp.NoneTotal
import Derived.Test.YtngpmpmhpggpgaaDoorRows
import Derived.LaidMore
section
/- Closed facts of this seat's types and functions. -/
namespace Go.Proofs.YtngpmpmhpggpgaaDoorF
open Go Go.Proofs.Vm
@[simp] theorem ld2 : ldOf Tryd.prog 2 = some none := by kernel_rfl
@[simp] theorem z2 : zOf Tryd.prog 2 = some [.int .i64 0] := by kernel_rfl
@[simp] theorem el2 : elOf Tryd.prog 2 = some (1, 8, [.v (.int .i64 0)]) := by kernel_rfl
@[simp] theorem st2 : isSliceT Tryd.prog 2 = false := by kernel_rfl
@[simp] theorem sz2 : pv Tryd.prog (sizeOf 2) = some 1 := by kernel_rfl
@[simp] theorem u82 : isU8 Tryd.prog 2 = false := by kernel_rfl
@[simp] theorem mt2 : isMapT Tryd.prog 2 = false := by kernel_rfl
@[simp] theorem ik2 : ikOf Tryd.prog 2 = some .i64 := by kernel_rfl
@[simp] theorem ld3 : ldOf Tryd.prog 3 = some none := by kernel_rfl
@[simp] theorem z3 : zOf Tryd.prog 3 = some [.int .i64 0] := by kernel_rfl
@[simp] theorem el3 : elOf Tryd.prog 3 = some (1, 8, [.v (.int .i64 0)]) := by kernel_rfl
@[simp] theorem st3 : isSliceT Tryd.prog 3 = false := by kernel_rfl
@[simp] theorem sz3 : pv Tryd.prog (sizeOf 3) = some 1 := by kernel_rfl
@[simp] theorem u83 : isU8 Tryd.prog 3 = false := by kernel_rfl
@[simp] theorem mt3 : isMapT Tryd.prog 3 = false := by kernel_rfl
@[simp] theorem ik3 : ikOf Tryd.prog 3 = some .i64 := by kernel_rfl
@[simp] theorem ld4 : ldOf Tryd.prog 4 = some none := by kernel_rfl
@[simp] theorem z4 : zOf Tryd.prog 4 = some [.bool false] := by kernel_rfl
@[simp] theorem el4 : elOf Tryd.prog 4 = some (1, 1, [.v (.bool false)]) := by kernel_rfl
@[simp] theorem st4 : isSliceT Tryd.prog 4 = false := by kernel_rfl
@[simp] theorem sz4 : pv Tryd.prog (sizeOf 4) = some 1 := by kernel_rfl
@[simp] theorem u84 : isU8 Tryd.prog 4 = false := by kernel_rfl
@[simp] theorem mt4 : isMapT Tryd.prog 4 = false := by kernel_rfl
@[simp] theorem ik4 : ikOf Tryd.prog 4 = none := by kernel_rfl
@[simp] theorem ub4 : pv Tryd.prog (underlying 4) = some .bool := by kernel_rfl
@[simp] theorem ld5 : ldOf Tryd.prog 5 = some none := by kernel_rfl
@[simp] theorem z5 : zOf Tryd.prog 5 = some [.int .u8 0] := by kernel_rfl
@[simp] theorem el5 : elOf Tryd.prog 5 = some (1, 1, [.v (.int .u8 0)]) := by kernel_rfl
@[simp] theorem st5 : isSliceT Tryd.prog 5 = false := by kernel_rfl
@[simp] theorem sz5 : pv Tryd.prog (sizeOf 5) = some 1 := by kernel_rfl
@[simp] theorem u85 : isU8 Tryd.prog 5 = false := by kernel_rfl
@[simp] theorem mt5 : isMapT Tryd.prog 5 = false := by kernel_rfl
@[simp] theorem ik5 : ikOf Tryd.prog 5 = some .u8 := by kernel_rfl
@[simp] theorem ld9 : ldOf Tryd.prog 9 = some none := by kernel_rfl
@[simp] theorem z9 : zOf Tryd.prog 9 = some [.string ByteArray.empty] := by kernel_rfl
@[simp] theorem el9 : elOf Tryd.prog 9 = some (1, 16, [.v (.string ByteArray.empty)]) := by kernel_rfl
@[simp] theorem st9 : isSliceT Tryd.prog 9 = false := by kernel_rfl
@[simp] theorem sz9 : pv Tryd.prog (sizeOf 9) = some 1 := by kernel_rfl
@[simp] theorem u89 : isU8 Tryd.prog 9 = false := by kernel_rfl
@[simp] theorem mt9 : isMapT Tryd.prog 9 = false := by kernel_rfl
@[simp] theorem sr9 : isStrT Tryd.prog 9 = true := by kernel_rfl
@[simp] theorem ik9 : ikOf Tryd.prog 9 = none := by kernel_rfl
@[simp] theorem us9 : pv Tryd.prog (underlying 9) = some .string := by kernel_rfl
@[simp] theorem lns9 {H : Hp} {ty : TypeId} {s : ByteArray} : vlen Tryd.prog H #[9] ty (vS s) = qa (vI .i64 s.size) := len_str us9
@[simp] theorem ld12 : ldOf Tryd.prog 12 = some none := by kernel_rfl
@[simp] theorem z12 : zOf Tryd.prog 12 = some [.int .u64 0] := by kernel_rfl
@[simp] theorem el12 : elOf Tryd.prog 12 = some (1, 8, [.v (.int .u64 0)]) := by kernel_rfl
@[simp] theorem st12 : isSliceT Tryd.prog 12 = false := by kernel_rfl
@[simp] theorem sz12 : pv Tryd.prog (sizeOf 12) = some 1 := by kernel_rfl
@[simp] theorem u812 : isU8 Tryd.prog 12 = false := by kernel_rfl
@[simp] theorem mt12 : isMapT Tryd.prog 12 = false := by kernel_rfl
@[simp] theorem ik12 : ikOf Tryd.prog 12 = some .u64 := by kernel_rfl
@[simp] theorem ld21 : ldOf Tryd.prog 21 = some none := by kernel_rfl
@[simp] theorem z21 : zOf Tryd.prog 21 = some [.int .i32 0] := by kernel_rfl
@[simp] theorem el21 : elOf Tryd.prog 21 = some (1, 4, [.v (.int .i32 0)]) := by kernel_rfl
@[simp] theorem st21 : isSliceT Tryd.prog 21 = false := by kernel_rfl
@[simp] theorem sz21 : pv Tryd.prog (sizeOf 21) = some 1 := by kernel_rfl
@[simp] theorem u821 : isU8 Tryd.prog 21 = false := by kernel_rfl
@[simp] theorem mt21 : isMapT Tryd.prog 21 = false := by kernel_rfl
@[simp] theorem ik21 : ikOf Tryd.prog 21 = some .i32 := by kernel_rfl
@[simp] theorem ld27 : ldOf Tryd.prog 27 = some none := by kernel_rfl
@[simp] theorem z27 : zOf Tryd.prog 27 = some [.int .u64 0] := by kernel_rfl
@[simp] theorem el27 : elOf Tryd.prog 27 = some (1, 8, [.v (.int .u64 0)]) := by kernel_rfl
@[simp] theorem st27 : isSliceT Tryd.prog 27 = false := by kernel_rfl
@[simp] theorem sz27 : pv Tryd.prog (sizeOf 27) = some 1 := by kernel_rfl
@[simp] theorem u827 : isU8 Tryd.prog 27 = false := by kernel_rfl
@[simp] theorem mt27 : isMapT Tryd.prog 27 = false := by kernel_rfl
@[simp] theorem ik27 : ikOf Tryd.prog 27 = some .u64 := by kernel_rfl
@[simp] theorem ld28 : ldOf Tryd.prog 28 = some (some 5) := by kernel_rfl
@[simp] theorem z28 : zOf Tryd.prog 28 = some [.int .u64 0, .int .i64 0, .int .i64 0, .int .i64 0, .int .i64 0] := by kernel_rfl
@[simp] theorem el28 : elOf Tryd.prog 28 = some (5, 40, [.v (.int .u64 0), .v (.int .i64 0), .v (.int .i64 0), .v (.int .i64 0), .v (.int .i64 0)]) := by kernel_rfl
@[simp] theorem st28 : isSliceT Tryd.prog 28 = false := by kernel_rfl
@[simp] theorem sz28 : pv Tryd.prog (sizeOf 28) = some 5 := by kernel_rfl
@[simp] theorem u828 : isU8 Tryd.prog 28 = false := by kernel_rfl
@[simp] theorem mt28 : isMapT Tryd.prog 28 = false := by kernel_rfl
@[simp] theorem ik28 : ikOf Tryd.prog 28 = none := by kernel_rfl
@[simp] theorem bld28 : bldOf Tryd.prog 28 = some ([.int .u64 0, .int .i64 0, .int .i64 0, .int .i64 0, .int .i64 0], [(0, 1), (1, 1), (2, 1), (3, 1), (4, 1)]) := by kernel_rfl
@[simp] theorem off28_0 : offOf Tryd.prog 28 0 = some 0 := by kernel_rfl
@[simp] theorem fld28_0 : fldOf Tryd.prog 28 0 = some (0, none) := by kernel_rfl
@[simp] theorem off28_1 : offOf Tryd.prog 28 1 = some 1 := by kernel_rfl
@[simp] theorem fld28_1 : fldOf Tryd.prog 28 1 = some (1, none) := by kernel_rfl
@[simp] theorem off28_2 : offOf Tryd.prog 28 2 = some 2 := by kernel_rfl
@[simp] theorem fld28_2 : fldOf Tryd.prog 28 2 = some (2, none) := by kernel_rfl
@[simp] theorem off28_3 : offOf Tryd.prog 28 3 = some 3 := by kernel_rfl
@[simp] theorem fld28_3 : fldOf Tryd.prog 28 3 = some (3, none) := by kernel_rfl
@[simp] theorem off28_4 : offOf Tryd.prog 28 4 = some 4 := by kernel_rfl
@[simp] theorem fld28_4 : fldOf Tryd.prog 28 4 = some (4, none) := by kernel_rfl
@[simp] theorem ld29 : ldOf Tryd.prog 29 = some (some 5) := by kernel_rfl
@[simp] theorem z29 : zOf Tryd.prog 29 = some [.int .u64 0, .int .i64 0, .int .i64 0, .int .i64 0, .int .i64 0] := by kernel_rfl
@[simp] theorem el29 : elOf Tryd.prog 29 = some (5, 40, [.v (.int .u64 0), .v (.int .i64 0), .v (.int .i64 0), .v (.int .i64 0), .v (.int .i64 0)]) := by kernel_rfl
@[simp] theorem st29 : isSliceT Tryd.prog 29 = false := by kernel_rfl
@[simp] theorem sz29 : pv Tryd.prog (sizeOf 29) = some 5 := by kernel_rfl
@[simp] theorem u829 : isU8 Tryd.prog 29 = false := by kernel_rfl
@[simp] theorem mt29 : isMapT Tryd.prog 29 = false := by kernel_rfl
@[simp] theorem ik29 : ikOf Tryd.prog 29 = none := by kernel_rfl
@[simp] theorem bld29 : bldOf Tryd.prog 29 = some ([.int .u64 0, .int .i64 0, .int .i64 0, .int .i64 0, .int .i64 0], [(0, 1), (1, 1), (2, 1), (3, 1), (4, 1)]) := by kernel_rfl
@[simp] theorem off29_0 : offOf Tryd.prog 29 0 = some 0 := by kernel_rfl
@[simp] theorem fld29_0 : fldOf Tryd.prog 29 0 = some (0, none) := by kernel_rfl
@[simp] theorem off29_1 : offOf Tryd.prog 29 1 = some 1 := by kernel_rfl
@[simp] theorem fld29_1 : fldOf Tryd.prog 29 1 = some (1, none) := by kernel_rfl
@[simp] theorem off29_2 : offOf Tryd.prog 29 2 = some 2 := by kernel_rfl
@[simp] theorem fld29_2 : fldOf Tryd.prog 29 2 = some (2, none) := by kernel_rfl
@[simp] theorem off29_3 : offOf Tryd.prog 29 3 = some 3 := by kernel_rfl
@[simp] theorem fld29_3 : fldOf Tryd.prog 29 3 = some (3, none) := by kernel_rfl
@[simp] theorem off29_4 : offOf Tryd.prog 29 4 = some 4 := by kernel_rfl
@[simp] theorem fld29_4 : fldOf Tryd.prog 29 4 = some (4, none) := by kernel_rfl
@[simp] theorem ld30 : ldOf Tryd.prog 30 = some none := by kernel_rfl
@[simp] theorem z30 : zOf Tryd.prog 30 = some [.slice none 0 0] := by kernel_rfl
@[simp] theorem el30 : elOf Tryd.prog 30 = some (1, 24, [.arr []]) := by kernel_rfl
@[simp] theorem st30 : isSliceT Tryd.prog 30 = true := by kernel_rfl
@[simp] theorem sz30 : pv Tryd.prog (sizeOf 30) = some 1 := by kernel_rfl
@[simp] theorem u830 : isU8 Tryd.prog 30 = false := by kernel_rfl
@[simp] theorem mt30 : isMapT Tryd.prog 30 = false := by kernel_rfl
@[simp] theorem ik30 : ikOf Tryd.prog 30 = none := by kernel_rfl
@[simp] theorem sR30 : strRowsT Tryd.prog 30 = false := by kernel_rfl
@[simp] theorem es30 : elemOfSlice Tryd.prog 30 = some 9 := by kernel_rfl
@[simp] theorem ld31 : ldOf Tryd.prog 31 = some none := by kernel_rfl
@[simp] theorem z31 : zOf Tryd.prog 31 = some [.slice none 0 0] := by kernel_rfl
@[simp] theorem el31 : elOf Tryd.prog 31 = some (1, 24, [.arr []]) := by kernel_rfl
@[simp] theorem st31 : isSliceT Tryd.prog 31 = true := by kernel_rfl
@[simp] theorem sz31 : pv Tryd.prog (sizeOf 31) = some 1 := by kernel_rfl
@[simp] theorem u831 : isU8 Tryd.prog 31 = false := by kernel_rfl
@[simp] theorem mt31 : isMapT Tryd.prog 31 = false := by kernel_rfl
@[simp] theorem ik31 : ikOf Tryd.prog 31 = none := by kernel_rfl
@[simp] theorem sR31 : strRowsT Tryd.prog 31 = false := by kernel_rfl
@[simp] theorem es31 : elemOfSlice Tryd.prog 31 = some 41 := by kernel_rfl
@[simp] theorem ld32 : ldOf Tryd.prog 32 = some (some 3) := by kernel_rfl
@[simp] theorem z32 : zOf Tryd.prog 32 = some [.int .u64 0, .int .i64 0, .slice none 0 0] := by kernel_rfl
@[simp] theorem el32 : elOf Tryd.prog 32 = some (3, 40, [.v (.int .u64 0), .v (.int .i64 0), .arr []]) := by kernel_rfl
@[simp] theorem st32 : isSliceT Tryd.prog 32 = false := by kernel_rfl
@[simp] theorem sz32 : pv Tryd.prog (sizeOf 32) = some 3 := by kernel_rfl
@[simp] theorem u832 : isU8 Tryd.prog 32 = false := by kernel_rfl
@[simp] theorem mt32 : isMapT Tryd.prog 32 = false := by kernel_rfl
@[simp] theorem ik32 : ikOf Tryd.prog 32 = none := by kernel_rfl
@[simp] theorem bld32 : bldOf Tryd.prog 32 = some ([.int .u64 0, .int .i64 0, .slice none 0 0], [(0, 1), (1, 1), (2, 1)]) := by kernel_rfl
@[simp] theorem off32_0 : offOf Tryd.prog 32 0 = some 0 := by kernel_rfl
@[simp] theorem fld32_0 : fldOf Tryd.prog 32 0 = some (0, none) := by kernel_rfl
@[simp] theorem off32_1 : offOf Tryd.prog 32 1 = some 1 := by kernel_rfl
@[simp] theorem fld32_1 : fldOf Tryd.prog 32 1 = some (1, none) := by kernel_rfl
@[simp] theorem off32_2 : offOf Tryd.prog 32 2 = some 2 := by kernel_rfl
@[simp] theorem fld32_2 : fldOf Tryd.prog 32 2 = some (2, none) := by kernel_rfl
@[simp] theorem ld33 : ldOf Tryd.prog 33 = some (some 3) := by kernel_rfl
@[simp] theorem z33 : zOf Tryd.prog 33 = some [.int .u64 0, .int .i64 0, .slice none 0 0] := by kernel_rfl
@[simp] theorem el33 : elOf Tryd.prog 33 = some (3, 40, [.v (.int .u64 0), .v (.int .i64 0), .arr []]) := by kernel_rfl
@[simp] theorem st33 : isSliceT Tryd.prog 33 = false := by kernel_rfl
@[simp] theorem sz33 : pv Tryd.prog (sizeOf 33) = some 3 := by kernel_rfl
@[simp] theorem u833 : isU8 Tryd.prog 33 = false := by kernel_rfl
@[simp] theorem mt33 : isMapT Tryd.prog 33 = false := by kernel_rfl
@[simp] theorem ik33 : ikOf Tryd.prog 33 = none := by kernel_rfl
@[simp] theorem bld33 : bldOf Tryd.prog 33 = some ([.int .u64 0, .int .i64 0, .slice none 0 0], [(0, 1), (1, 1), (2, 1)]) := by kernel_rfl
@[simp] theorem off33_0 : offOf Tryd.prog 33 0 = some 0 := by kernel_rfl
@[simp] theorem fld33_0 : fldOf Tryd.prog 33 0 = some (0, none) := by kernel_rfl
@[simp] theorem off33_1 : offOf Tryd.prog 33 1 = some 1 := by kernel_rfl
@[simp] theorem fld33_1 : fldOf Tryd.prog 33 1 = some (1, none) := by kernel_rfl
@[simp] theorem off33_2 : offOf Tryd.prog 33 2 = some 2 := by kernel_rfl
@[simp] theorem fld33_2 : fldOf Tryd.prog 33 2 = some (2, none) := by kernel_rfl
@[simp] theorem ld34 : ldOf Tryd.prog 34 = some none := by kernel_rfl
@[simp] theorem z34 : zOf Tryd.prog 34 = some [.slice none 0 0] := by kernel_rfl
@[simp] theorem el34 : elOf Tryd.prog 34 = some (1, 24, [.arr []]) := by kernel_rfl
@[simp] theorem st34 : isSliceT Tryd.prog 34 = true := by kernel_rfl
@[simp] theorem sz34 : pv Tryd.prog (sizeOf 34) = some 1 := by kernel_rfl
@[simp] theorem u834 : isU8 Tryd.prog 34 = false := by kernel_rfl
@[simp] theorem mt34 : isMapT Tryd.prog 34 = false := by kernel_rfl
@[simp] theorem ik34 : ikOf Tryd.prog 34 = none := by kernel_rfl
@[simp] theorem sR34 : strRowsT Tryd.prog 34 = false := by kernel_rfl
@[simp] theorem es34 : elemOfSlice Tryd.prog 34 = some 43 := by kernel_rfl
@[simp] theorem ld37 : ldOf Tryd.prog 37 = some none := by kernel_rfl
@[simp] theorem z37 : zOf Tryd.prog 37 = some [.slice none 0 0] := by kernel_rfl
@[simp] theorem el37 : elOf Tryd.prog 37 = some (1, 24, [.arr []]) := by kernel_rfl
@[simp] theorem st37 : isSliceT Tryd.prog 37 = true := by kernel_rfl
@[simp] theorem sz37 : pv Tryd.prog (sizeOf 37) = some 1 := by kernel_rfl
@[simp] theorem u837 : isU8 Tryd.prog 37 = false := by kernel_rfl
@[simp] theorem mt37 : isMapT Tryd.prog 37 = false := by kernel_rfl
@[simp] theorem ik37 : ikOf Tryd.prog 37 = none := by kernel_rfl
@[simp] theorem sR37 : strRowsT Tryd.prog 37 = false := by kernel_rfl
@[simp] theorem es37 : elemOfSlice Tryd.prog 37 = some 72 := by kernel_rfl
@[simp] theorem ld38 : ldOf Tryd.prog 38 = some (some 2) := by kernel_rfl
@[simp] theorem z38 : zOf Tryd.prog 38 = some [.int .u64 0, .slice none 0 0] := by kernel_rfl
@[simp] theorem el38 : elOf Tryd.prog 38 = some (2, 32, [.v (.int .u64 0), .arr []]) := by kernel_rfl
@[simp] theorem st38 : isSliceT Tryd.prog 38 = false := by kernel_rfl
@[simp] theorem sz38 : pv Tryd.prog (sizeOf 38) = some 2 := by kernel_rfl
@[simp] theorem u838 : isU8 Tryd.prog 38 = false := by kernel_rfl
@[simp] theorem mt38 : isMapT Tryd.prog 38 = false := by kernel_rfl
@[simp] theorem ik38 : ikOf Tryd.prog 38 = none := by kernel_rfl
@[simp] theorem bld38 : bldOf Tryd.prog 38 = some ([.int .u64 0, .slice none 0 0], [(0, 1), (1, 1)]) := by kernel_rfl
@[simp] theorem off38_0 : offOf Tryd.prog 38 0 = some 0 := by kernel_rfl
@[simp] theorem fld38_0 : fldOf Tryd.prog 38 0 = some (0, none) := by kernel_rfl
@[simp] theorem off38_1 : offOf Tryd.prog 38 1 = some 1 := by kernel_rfl
@[simp] theorem fld38_1 : fldOf Tryd.prog 38 1 = some (1, none) := by kernel_rfl
@[simp] theorem ld39 : ldOf Tryd.prog 39 = some (some 2) := by kernel_rfl
@[simp] theorem z39 : zOf Tryd.prog 39 = some [.int .u64 0, .slice none 0 0] := by kernel_rfl
@[simp] theorem el39 : elOf Tryd.prog 39 = some (2, 32, [.v (.int .u64 0), .arr []]) := by kernel_rfl
@[simp] theorem st39 : isSliceT Tryd.prog 39 = false := by kernel_rfl
@[simp] theorem sz39 : pv Tryd.prog (sizeOf 39) = some 2 := by kernel_rfl
@[simp] theorem u839 : isU8 Tryd.prog 39 = false := by kernel_rfl
@[simp] theorem mt39 : isMapT Tryd.prog 39 = false := by kernel_rfl
@[simp] theorem ik39 : ikOf Tryd.prog 39 = none := by kernel_rfl
@[simp] theorem bld39 : bldOf Tryd.prog 39 = some ([.int .u64 0, .slice none 0 0], [(0, 1), (1, 1)]) := by kernel_rfl
@[simp] theorem off39_0 : offOf Tryd.prog 39 0 = some 0 := by kernel_rfl
@[simp] theorem fld39_0 : fldOf Tryd.prog 39 0 = some (0, none) := by kernel_rfl
@[simp] theorem off39_1 : offOf Tryd.prog 39 1 = some 1 := by kernel_rfl
@[simp] theorem fld39_1 : fldOf Tryd.prog 39 1 = some (1, none) := by kernel_rfl
@[simp] theorem ld40 : ldOf Tryd.prog 40 = some (some 3) := by kernel_rfl
@[simp] theorem z40 : zOf Tryd.prog 40 = some [.int .u64 0, .slice none 0 0, .slice none 0 0] := by kernel_rfl
@[simp] theorem el40 : elOf Tryd.prog 40 = some (3, 56, [.v (.int .u64 0), .arr [], .arr []]) := by kernel_rfl
@[simp] theorem st40 : isSliceT Tryd.prog 40 = false := by kernel_rfl
@[simp] theorem sz40 : pv Tryd.prog (sizeOf 40) = some 3 := by kernel_rfl
@[simp] theorem u840 : isU8 Tryd.prog 40 = false := by kernel_rfl
@[simp] theorem mt40 : isMapT Tryd.prog 40 = false := by kernel_rfl
@[simp] theorem ik40 : ikOf Tryd.prog 40 = none := by kernel_rfl
@[simp] theorem bld40 : bldOf Tryd.prog 40 = some ([.int .u64 0, .slice none 0 0, .slice none 0 0], [(0, 2), (2, 1)]) := by kernel_rfl
@[simp] theorem off40_0 : offOf Tryd.prog 40 0 = some 0 := by kernel_rfl
@[simp] theorem fld40_0 : fldOf Tryd.prog 40 0 = some (0, some 2) := by kernel_rfl
@[simp] theorem off40_1 : offOf Tryd.prog 40 1 = some 2 := by kernel_rfl
@[simp] theorem fld40_1 : fldOf Tryd.prog 40 1 = some (2, none) := by kernel_rfl
@[simp] theorem ld41 : ldOf Tryd.prog 41 = some (some 3) := by kernel_rfl
@[simp] theorem z41 : zOf Tryd.prog 41 = some [.int .u64 0, .slice none 0 0, .slice none 0 0] := by kernel_rfl
@[simp] theorem el41 : elOf Tryd.prog 41 = some (3, 56, [.v (.int .u64 0), .arr [], .arr []]) := by kernel_rfl
@[simp] theorem st41 : isSliceT Tryd.prog 41 = false := by kernel_rfl
@[simp] theorem sz41 : pv Tryd.prog (sizeOf 41) = some 3 := by kernel_rfl
@[simp] theorem u841 : isU8 Tryd.prog 41 = false := by kernel_rfl
@[simp] theorem mt41 : isMapT Tryd.prog 41 = false := by kernel_rfl
@[simp] theorem ik41 : ikOf Tryd.prog 41 = none := by kernel_rfl
@[simp] theorem bld41 : bldOf Tryd.prog 41 = some ([.int .u64 0, .slice none 0 0, .slice none 0 0], [(0, 2), (2, 1)]) := by kernel_rfl
@[simp] theorem off41_0 : offOf Tryd.prog 41 0 = some 0 := by kernel_rfl
@[simp] theorem fld41_0 : fldOf Tryd.prog 41 0 = some (0, some 2) := by kernel_rfl
@[simp] theorem off41_1 : offOf Tryd.prog 41 1 = some 2 := by kernel_rfl
@[simp] theorem fld41_1 : fldOf Tryd.prog 41 1 = some (2, none) := by kernel_rfl
@[simp] theorem ld42 : ldOf Tryd.prog 42 = some (some 2) := by kernel_rfl
@[simp] theorem z42 : zOf Tryd.prog 42 = some [.string ByteArray.empty, .int .i64 0] := by kernel_rfl
@[simp] theorem el42 : elOf Tryd.prog 42 = some (2, 24, [.v (.string ByteArray.empty), .v (.int .i64 0)]) := by kernel_rfl
@[simp] theorem st42 : isSliceT Tryd.prog 42 = false := by kernel_rfl
@[simp] theorem sz42 : pv Tryd.prog (sizeOf 42) = some 2 := by kernel_rfl
@[simp] theorem u842 : isU8 Tryd.prog 42 = false := by kernel_rfl
@[simp] theorem mt42 : isMapT Tryd.prog 42 = false := by kernel_rfl
@[simp] theorem ik42 : ikOf Tryd.prog 42 = none := by kernel_rfl
@[simp] theorem bld42 : bldOf Tryd.prog 42 = some ([.string ByteArray.empty, .int .i64 0], [(0, 1), (1, 1)]) := by kernel_rfl
@[simp] theorem off42_0 : offOf Tryd.prog 42 0 = some 0 := by kernel_rfl
@[simp] theorem fld42_0 : fldOf Tryd.prog 42 0 = some (0, none) := by kernel_rfl
@[simp] theorem off42_1 : offOf Tryd.prog 42 1 = some 1 := by kernel_rfl
@[simp] theorem fld42_1 : fldOf Tryd.prog 42 1 = some (1, none) := by kernel_rfl
@[simp] theorem ld43 : ldOf Tryd.prog 43 = some (some 2) := by kernel_rfl
@[simp] theorem z43 : zOf Tryd.prog 43 = some [.string ByteArray.empty, .int .i64 0] := by kernel_rfl
@[simp] theorem el43 : elOf Tryd.prog 43 = some (2, 24, [.v (.string ByteArray.empty), .v (.int .i64 0)]) := by kernel_rfl
@[simp] theorem st43 : isSliceT Tryd.prog 43 = false := by kernel_rfl
@[simp] theorem sz43 : pv Tryd.prog (sizeOf 43) = some 2 := by kernel_rfl
@[simp] theorem u843 : isU8 Tryd.prog 43 = false := by kernel_rfl
@[simp] theorem mt43 : isMapT Tryd.prog 43 = false := by kernel_rfl
@[simp] theorem ik43 : ikOf Tryd.prog 43 = none := by kernel_rfl
@[simp] theorem bld43 : bldOf Tryd.prog 43 = some ([.string ByteArray.empty, .int .i64 0], [(0, 1), (1, 1)]) := by kernel_rfl
@[simp] theorem off43_0 : offOf Tryd.prog 43 0 = some 0 := by kernel_rfl
@[simp] theorem fld43_0 : fldOf Tryd.prog 43 0 = some (0, none) := by kernel_rfl
@[simp] theorem off43_1 : offOf Tryd.prog 43 1 = some 1 := by kernel_rfl
@[simp] theorem fld43_1 : fldOf Tryd.prog 43 1 = some (1, none) := by kernel_rfl
@[simp] theorem ld47 : ldOf Tryd.prog 47 = some none := by kernel_rfl
@[simp] theorem z47 : zOf Tryd.prog 47 = some [.int .u64 0] := by kernel_rfl
@[simp] theorem el47 : elOf Tryd.prog 47 = some (1, 8, [.v (.int .u64 0)]) := by kernel_rfl
@[simp] theorem st47 : isSliceT Tryd.prog 47 = false := by kernel_rfl
@[simp] theorem sz47 : pv Tryd.prog (sizeOf 47) = some 1 := by kernel_rfl
@[simp] theorem u847 : isU8 Tryd.prog 47 = false := by kernel_rfl
@[simp] theorem mt47 : isMapT Tryd.prog 47 = false := by kernel_rfl
@[simp] theorem ik47 : ikOf Tryd.prog 47 = some .u64 := by kernel_rfl
@[simp] theorem ld48 : ldOf Tryd.prog 48 = some none := by kernel_rfl
@[simp] theorem z48 : zOf Tryd.prog 48 = some [.int .i64 0] := by kernel_rfl
@[simp] theorem el48 : elOf Tryd.prog 48 = some (1, 8, [.v (.int .i64 0)]) := by kernel_rfl
@[simp] theorem st48 : isSliceT Tryd.prog 48 = false := by kernel_rfl
@[simp] theorem sz48 : pv Tryd.prog (sizeOf 48) = some 1 := by kernel_rfl
@[simp] theorem u848 : isU8 Tryd.prog 48 = false := by kernel_rfl
@[simp] theorem mt48 : isMapT Tryd.prog 48 = false := by kernel_rfl
@[simp] theorem ik48 : ikOf Tryd.prog 48 = some .i64 := by kernel_rfl
@[simp] theorem ld59 : ldOf Tryd.prog 59 = some none := by kernel_rfl
@[simp] theorem z59 : zOf Tryd.prog 59 = some [.int .u32 0] := by kernel_rfl
@[simp] theorem el59 : elOf Tryd.prog 59 = some (1, 4, [.v (.int .u32 0)]) := by kernel_rfl
@[simp] theorem st59 : isSliceT Tryd.prog 59 = false := by kernel_rfl
@[simp] theorem sz59 : pv Tryd.prog (sizeOf 59) = some 1 := by kernel_rfl
@[simp] theorem u859 : isU8 Tryd.prog 59 = false := by kernel_rfl
@[simp] theorem mt59 : isMapT Tryd.prog 59 = false := by kernel_rfl
@[simp] theorem ik59 : ikOf Tryd.prog 59 = some .u32 := by kernel_rfl
@[simp] theorem ld66 : ldOf Tryd.prog 66 = some none := by kernel_rfl
@[simp] theorem z66 : zOf Tryd.prog 66 = some [.pointer none] := by kernel_rfl
@[simp] theorem el66 : elOf Tryd.prog 66 = some (1, 8, [.v (.pointer none)]) := by kernel_rfl
@[simp] theorem st66 : isSliceT Tryd.prog 66 = false := by kernel_rfl
@[simp] theorem sz66 : pv Tryd.prog (sizeOf 66) = some 1 := by kernel_rfl
@[simp] theorem u866 : isU8 Tryd.prog 66 = false := by kernel_rfl
@[simp] theorem mt66 : isMapT Tryd.prog 66 = false := by kernel_rfl
@[simp] theorem ik66 : ikOf Tryd.prog 66 = none := by kernel_rfl
@[simp] theorem up66 : pv Tryd.prog (underlying 66) = some (.pointer 85) := by kernel_rfl
@[simp] theorem ld72 : ldOf Tryd.prog 72 = some none := by kernel_rfl
@[simp] theorem z72 : zOf Tryd.prog 72 = some [.slice none 0 0] := by kernel_rfl
@[simp] theorem el72 : elOf Tryd.prog 72 = some (1, 24, [.arr []]) := by kernel_rfl
@[simp] theorem st72 : isSliceT Tryd.prog 72 = true := by kernel_rfl
@[simp] theorem sz72 : pv Tryd.prog (sizeOf 72) = some 1 := by kernel_rfl
@[simp] theorem u872 : isU8 Tryd.prog 72 = false := by kernel_rfl
@[simp] theorem mt72 : isMapT Tryd.prog 72 = false := by kernel_rfl
@[simp] theorem ik72 : ikOf Tryd.prog 72 = none := by kernel_rfl
@[simp] theorem sR72 : strRowsT Tryd.prog 72 = false := by kernel_rfl
@[simp] theorem es72 : elemOfSlice Tryd.prog 72 = some 3 := by kernel_rfl
@[simp] theorem ld83 : ldOf Tryd.prog 83 = some none := by kernel_rfl
@[simp] theorem z83 : zOf Tryd.prog 83 = some [.map none] := by kernel_rfl
@[simp] theorem el83 : elOf Tryd.prog 83 = some (1, 8, [.v (.map none)]) := by kernel_rfl
@[simp] theorem st83 : isSliceT Tryd.prog 83 = false := by kernel_rfl
@[simp] theorem sz83 : pv Tryd.prog (sizeOf 83) = some 1 := by kernel_rfl
@[simp] theorem u883 : isU8 Tryd.prog 83 = false := by kernel_rfl
@[simp] theorem mt83 : isMapT Tryd.prog 83 = true := by kernel_rfl
@[simp] theorem mty83 : mapTy Tryd.prog 83 = some (.string, .int .i64 0) := by kernel_rfl
@[simp] theorem ik83 : ikOf Tryd.prog 83 = none := by kernel_rfl
@[simp] theorem ld84 : ldOf Tryd.prog 84 = some (some 3) := by kernel_rfl
@[simp] theorem z84 : zOf Tryd.prog 84 = some [.int .i64 0, .slice none 0 0, .map none] := by kernel_rfl
@[simp] theorem el84 : elOf Tryd.prog 84 = some (3, 40, [.v (.int .i64 0), .arr [], .v (.map none)]) := by kernel_rfl
@[simp] theorem st84 : isSliceT Tryd.prog 84 = false := by kernel_rfl
@[simp] theorem sz84 : pv Tryd.prog (sizeOf 84) = some 3 := by kernel_rfl
@[simp] theorem u884 : isU8 Tryd.prog 84 = false := by kernel_rfl
@[simp] theorem mt84 : isMapT Tryd.prog 84 = false := by kernel_rfl
@[simp] theorem ik84 : ikOf Tryd.prog 84 = none := by kernel_rfl
@[simp] theorem bld84 : bldOf Tryd.prog 84 = some ([.int .i64 0, .slice none 0 0, .map none], [(0, 1), (1, 1), (2, 1)]) := by kernel_rfl
@[simp] theorem off84_0 : offOf Tryd.prog 84 0 = some 0 := by kernel_rfl
@[simp] theorem fld84_0 : fldOf Tryd.prog 84 0 = some (0, none) := by kernel_rfl
@[simp] theorem off84_1 : offOf Tryd.prog 84 1 = some 1 := by kernel_rfl
@[simp] theorem fld84_1 : fldOf Tryd.prog 84 1 = some (1, none) := by kernel_rfl
@[simp] theorem off84_2 : offOf Tryd.prog 84 2 = some 2 := by kernel_rfl
@[simp] theorem fld84_2 : fldOf Tryd.prog 84 2 = some (2, none) := by kernel_rfl
@[simp] theorem ld85 : ldOf Tryd.prog 85 = some (some 3) := by kernel_rfl
@[simp] theorem z85 : zOf Tryd.prog 85 = some [.int .i64 0, .slice none 0 0, .map none] := by kernel_rfl
@[simp] theorem el85 : elOf Tryd.prog 85 = some (3, 40, [.v (.int .i64 0), .arr [], .v (.map none)]) := by kernel_rfl
@[simp] theorem st85 : isSliceT Tryd.prog 85 = false := by kernel_rfl
@[simp] theorem sz85 : pv Tryd.prog (sizeOf 85) = some 3 := by kernel_rfl
@[simp] theorem u885 : isU8 Tryd.prog 85 = false := by kernel_rfl
@[simp] theorem mt85 : isMapT Tryd.prog 85 = false := by kernel_rfl
@[simp] theorem ik85 : ikOf Tryd.prog 85 = none := by kernel_rfl
@[simp] theorem bld85 : bldOf Tryd.prog 85 = some ([.int .i64 0, .slice none 0 0, .map none], [(0, 1), (1, 1), (2, 1)]) := by kernel_rfl
@[simp] theorem off85_0 : offOf Tryd.prog 85 0 = some 0 := by kernel_rfl
@[simp] theorem fld85_0 : fldOf Tryd.prog 85 0 = some (0, none) := by kernel_rfl
@[simp] theorem off85_1 : offOf Tryd.prog 85 1 = some 1 := by kernel_rfl
@[simp] theorem fld85_1 : fldOf Tryd.prog 85 1 = some (1, none) := by kernel_rfl
@[simp] theorem off85_2 : offOf Tryd.prog 85 2 = some 2 := by kernel_rfl
@[simp] theorem fld85_2 : fldOf Tryd.prog 85 2 = some (2, none) := by kernel_rfl
@[simp] theorem ld108 : ldOf Tryd.prog 108 = some none := by kernel_rfl
@[simp] theorem z108 : zOf Tryd.prog 108 = some [.int .i64 0] := by kernel_rfl
@[simp] theorem el108 : elOf Tryd.prog 108 = some (1, 8, [.v (.int .i64 0)]) := by kernel_rfl
@[simp] theorem st108 : isSliceT Tryd.prog 108 = false := by kernel_rfl
@[simp] theorem sz108 : pv Tryd.prog (sizeOf 108) = some 1 := by kernel_rfl
@[simp] theorem u8108 : isU8 Tryd.prog 108 = false := by kernel_rfl
@[simp] theorem mt108 : isMapT Tryd.prog 108 = false := by kernel_rfl
@[simp] theorem ik108 : ikOf Tryd.prog 108 = some .i64 := by kernel_rfl
@[simp] theorem ld119 : ldOf Tryd.prog 119 = some none := by kernel_rfl
@[simp] theorem z119 : zOf Tryd.prog 119 = some [.int .u64 0] := by kernel_rfl
@[simp] theorem el119 : elOf Tryd.prog 119 = some (1, 8, [.v (.int .u64 0)]) := by kernel_rfl
@[simp] theorem st119 : isSliceT Tryd.prog 119 = false := by kernel_rfl
@[simp] theorem sz119 : pv Tryd.prog (sizeOf 119) = some 1 := by kernel_rfl
@[simp] theorem u8119 : isU8 Tryd.prog 119 = false := by kernel_rfl
@[simp] theorem mt119 : isMapT Tryd.prog 119 = false := by kernel_rfl
@[simp] theorem ik119 : ikOf Tryd.prog 119 = some .u64 := by kernel_rfl
@[simp] theorem ld123 : ldOf Tryd.prog 123 = some none := by kernel_rfl
@[simp] theorem z123 : zOf Tryd.prog 123 = some [.pointer none] := by kernel_rfl
@[simp] theorem el123 : elOf Tryd.prog 123 = some (1, 8, [.v (.pointer none)]) := by kernel_rfl
@[simp] theorem st123 : isSliceT Tryd.prog 123 = false := by kernel_rfl
@[simp] theorem sz123 : pv Tryd.prog (sizeOf 123) = some 1 := by kernel_rfl
@[simp] theorem u8123 : isU8 Tryd.prog 123 = false := by kernel_rfl
@[simp] theorem mt123 : isMapT Tryd.prog 123 = false := by kernel_rfl
@[simp] theorem ik123 : ikOf Tryd.prog 123 = none := by kernel_rfl
@[simp] theorem up123 : pv Tryd.prog (underlying 123) = some (.pointer 3) := by kernel_rfl
@[simp] theorem ld127 : ldOf Tryd.prog 127 = some none := by kernel_rfl
@[simp] theorem z127 : zOf Tryd.prog 127 = some [.pointer none] := by kernel_rfl
@[simp] theorem el127 : elOf Tryd.prog 127 = some (1, 8, [.v (.pointer none)]) := by kernel_rfl
@[simp] theorem st127 : isSliceT Tryd.prog 127 = false := by kernel_rfl
@[simp] theorem sz127 : pv Tryd.prog (sizeOf 127) = some 1 := by kernel_rfl
@[simp] theorem u8127 : isU8 Tryd.prog 127 = false := by kernel_rfl
@[simp] theorem mt127 : isMapT Tryd.prog 127 = false := by kernel_rfl
@[simp] theorem ik127 : ikOf Tryd.prog 127 = none := by kernel_rfl
@[simp] theorem up127 : pv Tryd.prog (underlying 127) = some (.pointer 119) := by kernel_rfl
@[simp] theorem ld140 : ldOf Tryd.prog 140 = some none := by kernel_rfl
@[simp] theorem z140 : zOf Tryd.prog 140 = some [.pointer none] := by kernel_rfl
@[simp] theorem el140 : elOf Tryd.prog 140 = some (1, 8, [.v (.pointer none)]) := by kernel_rfl
@[simp] theorem st140 : isSliceT Tryd.prog 140 = false := by kernel_rfl
@[simp] theorem sz140 : pv Tryd.prog (sizeOf 140) = some 1 := by kernel_rfl
@[simp] theorem u8140 : isU8 Tryd.prog 140 = false := by kernel_rfl
@[simp] theorem mt140 : isMapT Tryd.prog 140 = false := by kernel_rfl
@[simp] theorem ik140 : ikOf Tryd.prog 140 = none := by kernel_rfl
@[simp] theorem up140 : pv Tryd.prog (underlying 140) = some (.pointer 5) := by kernel_rfl
@[simp] theorem ld143 : ldOf Tryd.prog 143 = some (some 11) := by kernel_rfl
@[simp] theorem z143 : zOf Tryd.prog 143 = some [.int .u64 0, .int .u64 0, .int .u32 0, .int .u8 0, .int .u8 0, .int .u8 0, .int .u8 0, .nilFunc, .pointer none, .int .i32 0, .int .i32 0] := by kernel_rfl
@[simp] theorem el143 : elOf Tryd.prog 143 = some (11, 48, [.v (.int .u64 0), .v (.int .u64 0), .v (.int .u32 0), .v (.int .u8 0), .v (.int .u8 0), .v (.int .u8 0), .v (.int .u8 0), .v (.nilFunc), .v (.pointer none), .v (.int .i32 0), .v (.int .i32 0)]) := by kernel_rfl
@[simp] theorem st143 : isSliceT Tryd.prog 143 = false := by kernel_rfl
@[simp] theorem sz143 : pv Tryd.prog (sizeOf 143) = some 11 := by kernel_rfl
@[simp] theorem u8143 : isU8 Tryd.prog 143 = false := by kernel_rfl
@[simp] theorem mt143 : isMapT Tryd.prog 143 = false := by kernel_rfl
@[simp] theorem ik143 : ikOf Tryd.prog 143 = none := by kernel_rfl
@[simp] theorem bld143 : bldOf Tryd.prog 143 = some ([.int .u64 0, .int .u64 0, .int .u32 0, .int .u8 0, .int .u8 0, .int .u8 0, .int .u8 0, .nilFunc, .pointer none, .int .i32 0, .int .i32 0], [(0, 1), (1, 1), (2, 1), (3, 1), (4, 1), (5, 1), (6, 1), (7, 1), (8, 1), (9, 1), (10, 1)]) := by kernel_rfl
@[simp] theorem off143_0 : offOf Tryd.prog 143 0 = some 0 := by kernel_rfl
@[simp] theorem fld143_0 : fldOf Tryd.prog 143 0 = some (0, none) := by kernel_rfl
@[simp] theorem off143_1 : offOf Tryd.prog 143 1 = some 1 := by kernel_rfl
@[simp] theorem fld143_1 : fldOf Tryd.prog 143 1 = some (1, none) := by kernel_rfl
@[simp] theorem off143_2 : offOf Tryd.prog 143 2 = some 2 := by kernel_rfl
@[simp] theorem fld143_2 : fldOf Tryd.prog 143 2 = some (2, none) := by kernel_rfl
@[simp] theorem off143_3 : offOf Tryd.prog 143 3 = some 3 := by kernel_rfl
@[simp] theorem fld143_3 : fldOf Tryd.prog 143 3 = some (3, none) := by kernel_rfl
@[simp] theorem off143_4 : offOf Tryd.prog 143 4 = some 4 := by kernel_rfl
@[simp] theorem fld143_4 : fldOf Tryd.prog 143 4 = some (4, none) := by kernel_rfl
@[simp] theorem off143_5 : offOf Tryd.prog 143 5 = some 5 := by kernel_rfl
@[simp] theorem fld143_5 : fldOf Tryd.prog 143 5 = some (5, none) := by kernel_rfl
@[simp] theorem off143_6 : offOf Tryd.prog 143 6 = some 6 := by kernel_rfl
@[simp] theorem fld143_6 : fldOf Tryd.prog 143 6 = some (6, none) := by kernel_rfl
@[simp] theorem off143_7 : offOf Tryd.prog 143 7 = some 7 := by kernel_rfl
@[simp] theorem fld143_7 : fldOf Tryd.prog 143 7 = some (7, none) := by kernel_rfl
@[simp] theorem off143_8 : offOf Tryd.prog 143 8 = some 8 := by kernel_rfl
@[simp] theorem fld143_8 : fldOf Tryd.prog 143 8 = some (8, none) := by kernel_rfl
@[simp] theorem off143_9 : offOf Tryd.prog 143 9 = some 9 := by kernel_rfl
@[simp] theorem fld143_9 : fldOf Tryd.prog 143 9 = some (9, none) := by kernel_rfl
@[simp] theorem off143_10 : offOf Tryd.prog 143 10 = some 10 := by kernel_rfl
@[simp] theorem fld143_10 : fldOf Tryd.prog 143 10 = some (10, none) := by kernel_rfl
@[simp] theorem lna30 {H : Hp} {ty : TypeId} {l : List (List CV)} : vlen Tryd.prog H #[30] ty (.one (.c (.arr l))) = qa (vI .i64 l.length) := len_arr es30
@[simp] theorem lnl30 {H : Hp} {ty : TypeId} {id o n tot : Nat} : vlen Tryd.prog H #[30] ty (.one (.sl id o n tot)) = if lenIs H id tot = true then qa (vI .i64 n) else none := len_sl es30
@[simp] theorem iaa30 {H : Hp} {k : IntKind} {l : List (List CV)} {i : Int} : vindexAddr Tryd.prog H 30 (.one (.c (.arr l))) (vI k i) = if 0 ≤ i then (match l[i.toNat]? with | some x => if x.length = 1 then qa (.one (.c (.cptr x))) else none | none => none) else none := ia_arr es30 sz9
@[simp] theorem ial30 {H : Hp} {k : IntKind} {id o n tot : Nat} {i : Int} : vindexAddr Tryd.prog H 30 (.one (.sl id o n tot)) (vI k i) = if 0 ≤ i then (if i.toNat < n then (if elAt H id tot (o + i.toNat) = some 1 then qa (.one (.ptr ⟨id, o + i.toNat, 0, tot⟩)) else none) else none) else none := ia_sl es30 sz9
@[simp] theorem lna31 {H : Hp} {ty : TypeId} {l : List (List CV)} : vlen Tryd.prog H #[31] ty (.one (.c (.arr l))) = qa (vI .i64 l.length) := len_arr es31
@[simp] theorem lnl31 {H : Hp} {ty : TypeId} {id o n tot : Nat} : vlen Tryd.prog H #[31] ty (.one (.sl id o n tot)) = if lenIs H id tot = true then qa (vI .i64 n) else none := len_sl es31
@[simp] theorem iaa31 {H : Hp} {k : IntKind} {l : List (List CV)} {i : Int} : vindexAddr Tryd.prog H 31 (.one (.c (.arr l))) (vI k i) = if 0 ≤ i then (match l[i.toNat]? with | some x => if x.length = 3 then qa (.one (.c (.cptr x))) else none | none => none) else none := ia_arr es31 sz41
@[simp] theorem ial31 {H : Hp} {k : IntKind} {id o n tot : Nat} {i : Int} : vindexAddr Tryd.prog H 31 (.one (.sl id o n tot)) (vI k i) = if 0 ≤ i then (if i.toNat < n then (if elAt H id tot (o + i.toNat) = some 3 then qa (.one (.ptr ⟨id, o + i.toNat, 0, tot⟩)) else none) else none) else none := ia_sl es31 sz41
@[simp] theorem lna34 {H : Hp} {ty : TypeId} {l : List (List CV)} : vlen Tryd.prog H #[34] ty (.one (.c (.arr l))) = qa (vI .i64 l.length) := len_arr es34
@[simp] theorem lnl34 {H : Hp} {ty : TypeId} {id o n tot : Nat} : vlen Tryd.prog H #[34] ty (.one (.sl id o n tot)) = if lenIs H id tot = true then qa (vI .i64 n) else none := len_sl es34
@[simp] theorem iaa34 {H : Hp} {k : IntKind} {l : List (List CV)} {i : Int} : vindexAddr Tryd.prog H 34 (.one (.c (.arr l))) (vI k i) = if 0 ≤ i then (match l[i.toNat]? with | some x => if x.length = 2 then qa (.one (.c (.cptr x))) else none | none => none) else none := ia_arr es34 sz43
@[simp] theorem ial34 {H : Hp} {k : IntKind} {id o n tot : Nat} {i : Int} : vindexAddr Tryd.prog H 34 (.one (.sl id o n tot)) (vI k i) = if 0 ≤ i then (if i.toNat < n then (if elAt H id tot (o + i.toNat) = some 2 then qa (.one (.ptr ⟨id, o + i.toNat, 0, tot⟩)) else none) else none) else none := ia_sl es34 sz43
@[simp] theorem lna37 {H : Hp} {ty : TypeId} {l : List (List CV)} : vlen Tryd.prog H #[37] ty (.one (.c (.arr l))) = qa (vI .i64 l.length) := len_arr es37
@[simp] theorem lnl37 {H : Hp} {ty : TypeId} {id o n tot : Nat} : vlen Tryd.prog H #[37] ty (.one (.sl id o n tot)) = if lenIs H id tot = true then qa (vI .i64 n) else none := len_sl es37
@[simp] theorem iaa37 {H : Hp} {k : IntKind} {l : List (List CV)} {i : Int} : vindexAddr Tryd.prog H 37 (.one (.c (.arr l))) (vI k i) = if 0 ≤ i then (match l[i.toNat]? with | some x => if x.length = 1 then qa (.one (.c (.cptr x))) else none | none => none) else none := ia_arr es37 sz72
@[simp] theorem ial37 {H : Hp} {k : IntKind} {id o n tot : Nat} {i : Int} : vindexAddr Tryd.prog H 37 (.one (.sl id o n tot)) (vI k i) = if 0 ≤ i then (if i.toNat < n then (if elAt H id tot (o + i.toNat) = some 1 then qa (.one (.ptr ⟨id, o + i.toNat, 0, tot⟩)) else none) else none) else none := ia_sl es37 sz72
@[simp] theorem lna72 {H : Hp} {ty : TypeId} {l : List (List CV)} : vlen Tryd.prog H #[72] ty (.one (.c (.arr l))) = qa (vI .i64 l.length) := len_arr es72
@[simp] theorem lnl72 {H : Hp} {ty : TypeId} {id o n tot : Nat} : vlen Tryd.prog H #[72] ty (.one (.sl id o n tot)) = if lenIs H id tot = true then qa (vI .i64 n) else none := len_sl es72
@[simp] theorem iaa72 {H : Hp} {k : IntKind} {l : List (List CV)} {i : Int} : vindexAddr Tryd.prog H 72 (.one (.c (.arr l))) (vI k i) = if 0 ≤ i then (match l[i.toNat]? with | some x => if x.length = 1 then qa (.one (.c (.cptr x))) else none | none => none) else none := ia_arr es72 sz3
@[simp] theorem ial72 {H : Hp} {k : IntKind} {id o n tot : Nat} {i : Int} : vindexAddr Tryd.prog H 72 (.one (.sl id o n tot)) (vI k i) = if 0 ≤ i then (if i.toNat < n then (if elAt H id tot (o + i.toNat) = some 1 then qa (.one (.ptr ⟨id, o + i.toNat, 0, tot⟩)) else none) else none) else none := ia_sl es72 sz3
theorem mixed : Tryd.prog.follows .mixedOrders = true := by kernel_rfl
theorem ok3 : FnOk Tryd.prog 3 := ⟨Tryd.f3, Tryd.func3, by kernel_rfl, by kernel_rfl⟩ -- rillmeter/rillmeterlaw18.UnivLogs
theorem ok4 : FnOk Tryd.prog 4 := ⟨Tryd.f4, Tryd.func4, by kernel_rfl, by kernel_rfl⟩ -- rillmeter/rillmeterlaw18.UnivRises
theorem ok5 : FnOk Tryd.prog 5 := ⟨Tryd.f5, Tryd.func5, by kernel_rfl, by kernel_rfl⟩ -- rillmeter/rillmeterlaw18.UnivSeen
theorem ok6 : FnOk Tryd.prog 6 := ⟨Tryd.f6, Tryd.func6, by kernel_rfl, by kernel_rfl⟩ -- rillmeter/rillmeterref18.Log
theorem ok7 : FnOk Tryd.prog 7 := ⟨Tryd.f7, Tryd.func7, by kernel_rfl, by kernel_rfl⟩ -- rillmeter/univ.Log
theorem ok8 : FnOk Tryd.prog 8 := ⟨Tryd.f8, Tryd.func8, by kernel_rfl, by kernel_rfl⟩ -- rillmeter/univ.Count
theorem ok9 : FnOk Tryd.prog 9 := ⟨Tryd.f9, Tryd.func9, by kernel_rfl, by kernel_rfl⟩ -- rillmeter/rillmeterref18.Count
theorem ok10 : FnOk Tryd.prog 10 := ⟨Tryd.f10, Tryd.func10, by kernel_rfl, by kernel_rfl⟩ -- rillmeter/rillmeterlaw18.awake
theorem ok11 : FnOk Tryd.prog 11 := ⟨Tryd.f11, Tryd.func11, by kernel_rfl, by kernel_rfl⟩ -- rillmeter/rillmeterlaw18.fed
theorem ok12 : FnOk Tryd.prog 12 := ⟨Tryd.f12, Tryd.func12, by kernel_rfl, by kernel_rfl⟩ -- rillmeter/univ.List
theorem ok13 : FnOk Tryd.prog 13 := ⟨Tryd.f13, Tryd.func13, by kernel_rfl, by kernel_rfl⟩ -- math/bits.Len
theorem ok14 : FnOk Tryd.prog 14 := ⟨Tryd.f14, Tryd.func14, by kernel_rfl, by kernel_rfl⟩ -- rillmeter/univ.New
theorem ok15 : FnOk Tryd.prog 15 := ⟨Tryd.f15, Tryd.func15, by kernel_rfl, by kernel_rfl⟩ -- rillmeter/univ.Add
theorem ok16 : FnOk Tryd.prog 16 := ⟨Tryd.f16, Tryd.func16, by kernel_rfl, by kernel_rfl⟩ -- rillmeter/univ.Get
theorem ok17 : FnOk Tryd.prog 17 := ⟨Tryd.f17, Tryd.func17, by kernel_rfl, by kernel_rfl⟩ -- rillmeter/rillmeterref10.Short
theorem ok18 : FnOk Tryd.prog 18 := ⟨Tryd.f18, Tryd.func18, by kernel_rfl, by kernel_rfl⟩ -- rillmeter/univ.Right
theorem ok19 : FnOk Tryd.prog 19 := ⟨Tryd.f19, Tryd.func19, by kernel_rfl, by kernel_rfl⟩ -- slices.DeleteFunc[[]rillmeter/heavy.Item,rillmeter/heavy.Item]
theorem ok20 : FnOk Tryd.prog 20 := ⟨Tryd.f20, Tryd.func20, by kernel_rfl, by kernel_rfl⟩ -- slices.Clone[[]rillmeter/heavy.Item,rillmeter/heavy.Item]
theorem ok21 : FnOk Tryd.prog 21 := ⟨Tryd.f21, Tryd.func21, by kernel_rfl, by kernel_rfl⟩ -- rillmeter/univ.List$1
theorem ok22 : FnOk Tryd.prog 22 := ⟨Tryd.f22, Tryd.func22, by kernel_rfl, by kernel_rfl⟩ -- math/bits.Len32
theorem ok23 : FnOk Tryd.prog 23 := ⟨Tryd.f23, Tryd.func23, by kernel_rfl, by kernel_rfl⟩ -- math/bits.Len64
theorem ok24 : FnOk Tryd.prog 24 := ⟨Tryd.f24, Tryd.func24, by kernel_rfl, by kernel_rfl⟩ -- rillmeter/signed.New
theorem ok25 : FnOk Tryd.prog 25 := ⟨Tryd.f25, Tryd.func25, by kernel_rfl, by kernel_rfl⟩ -- rillmeter/hash.Row
theorem ok26 : FnOk Tryd.prog 26 := ⟨Tryd.f26, Tryd.func26, by kernel_rfl, by kernel_rfl⟩ -- slices.Clone[[]rillmeter/univ.Level,rillmeter/univ.Level]
theorem ok27 : FnOk Tryd.prog 27 := ⟨Tryd.f27, Tryd.func27, by kernel_rfl, by kernel_rfl⟩ -- rillmeter/univ.level
theorem ok28 : FnOk Tryd.prog 28 := ⟨Tryd.f28, Tryd.func28, by kernel_rfl, by kernel_rfl⟩ -- rillmeter/signed.Add
theorem ok29 : FnOk Tryd.prog 29 := ⟨Tryd.f29, Tryd.func29, by kernel_rfl, by kernel_rfl⟩ -- rillmeter/heavy.Of
theorem ok30 : FnOk Tryd.prog 30 := ⟨Tryd.f30, Tryd.func30, by kernel_rfl, by kernel_rfl⟩ -- (*rillmeter/heavy.Heap).Offer
theorem ok31 : FnOk Tryd.prog 31 := ⟨Tryd.f31, Tryd.func31, by kernel_rfl, by kernel_rfl⟩ -- rillmeter/signed.Get
theorem ok32 : FnOk Tryd.prog 32 := ⟨Tryd.f32, Tryd.func32, by kernel_rfl, by kernel_rfl⟩ -- (*rillmeter/heavy.Heap).List
theorem ok33 : FnOk Tryd.prog 33 := ⟨Tryd.f33, Tryd.func33, by kernel_rfl, by kernel_rfl⟩ -- rillmeter/signed.Right
theorem ok34 : FnOk Tryd.prog 34 := ⟨Tryd.f34, Tryd.func34, by kernel_rfl, by kernel_rfl⟩ -- rillmeter/univ.top
theorem ok35 : FnOk Tryd.prog 35 := ⟨Tryd.f35, Tryd.func35, by kernel_rfl, by kernel_rfl⟩ -- slices.IndexFunc[[]rillmeter/heavy.Item,rillmeter/heavy.Item]
theorem ok36 : FnOk Tryd.prog 36 := ⟨Tryd.f36, Tryd.func36, by kernel_rfl, by kernel_rfl⟩ -- rillmeter/field.Add
theorem ok37 : FnOk Tryd.prog 37 := ⟨Tryd.f37, Tryd.func37, by kernel_rfl, by kernel_rfl⟩ -- rillmeter/field.Mul
theorem ok38 : FnOk Tryd.prog 38 := ⟨Tryd.f38, Tryd.func38, by kernel_rfl, by kernel_rfl⟩ -- rillmeter/hash.Level
theorem ok39 : FnOk Tryd.prog 39 := ⟨Tryd.f39, Tryd.func39, by kernel_rfl, by kernel_rfl⟩ -- rillmeter/signed.fits
theorem ok40 : FnOk Tryd.prog 40 := ⟨Tryd.f40, Tryd.func40, by kernel_rfl, by kernel_rfl⟩ -- rillmeter/signed.clone
theorem ok41 : FnOk Tryd.prog 41 := ⟨Tryd.f41, Tryd.func41, by kernel_rfl, by kernel_rfl⟩ -- rillmeter/signed.place
theorem ok42 : FnOk Tryd.prog 42 := ⟨Tryd.f42, Tryd.func42, by kernel_rfl, by kernel_rfl⟩ -- rillmeter/heavy.New
theorem ok43 : FnOk Tryd.prog 43 := ⟨Tryd.f43, Tryd.func43, by kernel_rfl, by kernel_rfl⟩ -- (*rillmeter/heavy.Heap).down
theorem ok44 : FnOk Tryd.prog 44 := ⟨Tryd.f44, Tryd.func44, by kernel_rfl, by kernel_rfl⟩ -- (*rillmeter/heavy.Heap).up
theorem ok45 : FnOk Tryd.prog 45 := ⟨Tryd.f45, Tryd.func45, by kernel_rfl, by kernel_rfl⟩ -- slices.Sort[[]int,int]
theorem ok46 : FnOk Tryd.prog 46 := ⟨Tryd.f46, Tryd.func46, by kernel_rfl, by kernel_rfl⟩ -- slices.SortFunc[[]rillmeter/heavy.Item,rillmeter/heavy.Item]
theorem ok47 : FnOk Tryd.prog 47 := ⟨Tryd.f47, Tryd.func47, by kernel_rfl, by kernel_rfl⟩ -- rillmeter/heavy.order
theorem ok48 : FnOk Tryd.prog 48 := ⟨Tryd.f48, Tryd.func48, by kernel_rfl, by kernel_rfl⟩ -- slices.ContainsFunc[[][]int,[]int]
theorem ok49 : FnOk Tryd.prog 49 := ⟨Tryd.f49, Tryd.func49, by kernel_rfl, by kernel_rfl⟩ -- rillmeter/signed.Right$1
theorem ok50 : FnOk Tryd.prog 50 := ⟨Tryd.f50, Tryd.func50, by kernel_rfl, by kernel_rfl⟩ -- slices.ContainsFunc[[]int,int]
theorem ok51 : FnOk Tryd.prog 51 := ⟨Tryd.f51, Tryd.func51, by kernel_rfl, by kernel_rfl⟩ -- rillmeter/signed.Right$1$1
theorem ok52 : FnOk Tryd.prog 52 := ⟨Tryd.f52, Tryd.func52, by kernel_rfl, by kernel_rfl⟩ -- rillmeter/univ.stands
theorem ok53 : FnOk Tryd.prog 53 := ⟨Tryd.f53, Tryd.func53, by kernel_rfl, by kernel_rfl⟩ -- rillmeter/univ.top$1
theorem ok54 : FnOk Tryd.prog 54 := ⟨Tryd.f54, Tryd.func54, by kernel_rfl, by kernel_rfl⟩ -- rillmeter/field.Of
theorem ok55 : FnOk Tryd.prog 55 := ⟨Tryd.f55, Tryd.func55, by kernel_rfl, by kernel_rfl⟩ -- math/bits.Mul64
theorem ok56 : FnOk Tryd.prog 56 := ⟨Tryd.f56, Tryd.func56, by kernel_rfl, by kernel_rfl⟩ -- rillmeter/hash.Sum
theorem ok57 : FnOk Tryd.prog 57 := ⟨Tryd.f57, Tryd.func57, by kernel_rfl, by kernel_rfl⟩ -- math/bits.TrailingZeros64
theorem ok58 : FnOk Tryd.prog 58 := ⟨Tryd.f58, Tryd.func58, by kernel_rfl, by kernel_rfl⟩ -- slices.Clone[[]int,int]
theorem ok59 : FnOk Tryd.prog 59 := ⟨Tryd.f59, Tryd.func59, by kernel_rfl, by kernel_rfl⟩ -- rillmeter/hash.Cell
theorem ok60 : FnOk Tryd.prog 60 := ⟨Tryd.f60, Tryd.func60, by kernel_rfl, by kernel_rfl⟩ -- rillmeter/hash.Sign
theorem ok61 : FnOk Tryd.prog 61 := ⟨Tryd.f61, Tryd.func61, by kernel_rfl, by kernel_rfl⟩ -- (*rillmeter/heavy.Heap).above
theorem ok62 : FnOk Tryd.prog 62 := ⟨Tryd.f62, Tryd.func62, by kernel_rfl, by kernel_rfl⟩ -- (*rillmeter/heavy.Heap).swap
theorem ok63 : FnOk Tryd.prog 63 := ⟨Tryd.f63, Tryd.func63, by kernel_rfl, by kernel_rfl⟩ -- slices.pdqsortOrdered[int]
theorem ok64 : FnOk Tryd.prog 64 := ⟨Tryd.f64, Tryd.func64, by kernel_rfl, by kernel_rfl⟩ -- slices.pdqsortCmpFunc[rillmeter/heavy.Item]
theorem ok65 : FnOk Tryd.prog 65 := ⟨Tryd.f65, Tryd.func65, by kernel_rfl, by kernel_rfl⟩ -- cmp.Or[int]
theorem ok66 : FnOk Tryd.prog 66 := ⟨Tryd.f66, Tryd.func66, by kernel_rfl, by kernel_rfl⟩ -- cmp.Compare[int]
theorem ok67 : FnOk Tryd.prog 67 := ⟨Tryd.f67, Tryd.func67, by kernel_rfl, by kernel_rfl⟩ -- strings.Compare
theorem ok68 : FnOk Tryd.prog 68 := ⟨Tryd.f68, Tryd.func68, by kernel_rfl, by kernel_rfl⟩ -- slices.IndexFunc[[][]int,[]int]
theorem ok69 : FnOk Tryd.prog 69 := ⟨Tryd.f69, Tryd.func69, by kernel_rfl, by kernel_rfl⟩ -- slices.IndexFunc[[]int,int]
theorem ok70 : FnOk Tryd.prog 70 := ⟨Tryd.f70, Tryd.func70, by kernel_rfl, by kernel_rfl⟩ -- rillmeter/field.Pow
theorem ok71 : FnOk Tryd.prog 71 := ⟨Tryd.f71, Tryd.func71, by kernel_rfl, by kernel_rfl⟩ -- slices.insertionSortOrdered[int]
theorem ok72 : FnOk Tryd.prog 72 := ⟨Tryd.f72, Tryd.func72, by kernel_rfl, by kernel_rfl⟩ -- slices.heapSortOrdered[int]
theorem ok73 : FnOk Tryd.prog 73 := ⟨Tryd.f73, Tryd.func73, by kernel_rfl, by kernel_rfl⟩ -- slices.breakPatternsOrdered[int]
theorem ok74 : FnOk Tryd.prog 74 := ⟨Tryd.f74, Tryd.func74, by kernel_rfl, by kernel_rfl⟩ -- slices.choosePivotOrdered[int]
theorem ok75 : FnOk Tryd.prog 75 := ⟨Tryd.f75, Tryd.func75, by kernel_rfl, by kernel_rfl⟩ -- slices.reverseRangeOrdered[int]
theorem ok76 : FnOk Tryd.prog 76 := ⟨Tryd.f76, Tryd.func76, by kernel_rfl, by kernel_rfl⟩ -- slices.partialInsertionSortOrdered[int]
theorem ok77 : FnOk Tryd.prog 77 := ⟨Tryd.f77, Tryd.func77, by kernel_rfl, by kernel_rfl⟩ -- cmp.Less[int]
theorem ok78 : FnOk Tryd.prog 78 := ⟨Tryd.f78, Tryd.func78, by kernel_rfl, by kernel_rfl⟩ -- slices.partitionEqualOrdered[int]
theorem ok79 : FnOk Tryd.prog 79 := ⟨Tryd.f79, Tryd.func79, by kernel_rfl, by kernel_rfl⟩ -- slices.partitionOrdered[int]
theorem ok80 : FnOk Tryd.prog 80 := ⟨Tryd.f80, Tryd.func80, by kernel_rfl, by kernel_rfl⟩ -- slices.insertionSortCmpFunc[rillmeter/heavy.Item]
theorem ok81 : FnOk Tryd.prog 81 := ⟨Tryd.f81, Tryd.func81, by kernel_rfl, by kernel_rfl⟩ -- slices.heapSortCmpFunc[rillmeter/heavy.Item]
theorem ok82 : FnOk Tryd.prog 82 := ⟨Tryd.f82, Tryd.func82, by kernel_rfl, by kernel_rfl⟩ -- slices.breakPatternsCmpFunc[rillmeter/heavy.Item]
theorem ok83 : FnOk Tryd.prog 83 := ⟨Tryd.f83, Tryd.func83, by kernel_rfl, by kernel_rfl⟩ -- slices.choosePivotCmpFunc[rillmeter/heavy.Item]
theorem ok84 : FnOk Tryd.prog 84 := ⟨Tryd.f84, Tryd.func84, by kernel_rfl, by kernel_rfl⟩ -- slices.reverseRangeCmpFunc[rillmeter/heavy.Item]
theorem ok85 : FnOk Tryd.prog 85 := ⟨Tryd.f85, Tryd.func85, by kernel_rfl, by kernel_rfl⟩ -- slices.partialInsertionSortCmpFunc[rillmeter/heavy.Item]
theorem ok86 : FnOk Tryd.prog 86 := ⟨Tryd.f86, Tryd.func86, by kernel_rfl, by kernel_rfl⟩ -- slices.partitionEqualCmpFunc[rillmeter/heavy.Item]
theorem ok87 : FnOk Tryd.prog 87 := ⟨Tryd.f87, Tryd.func87, by kernel_rfl, by kernel_rfl⟩ -- slices.partitionCmpFunc[rillmeter/heavy.Item]
theorem ok88 : FnOk Tryd.prog 88 := ⟨Tryd.f88, Tryd.func88, by kernel_rfl, by kernel_rfl⟩ -- cmp.isNaN[int]
theorem ok89 : FnOk Tryd.prog 89 := ⟨Tryd.f89, Tryd.func89, by kernel_rfl, by kernel_rfl⟩ -- internal/bytealg.CompareString
theorem ok90 : FnOk Tryd.prog 90 := ⟨Tryd.f90, Tryd.func90, by kernel_rfl, by kernel_rfl⟩ -- slices.siftDownOrdered[int]
theorem ok91 : FnOk Tryd.prog 91 := ⟨Tryd.f91, Tryd.func91, by kernel_rfl, by kernel_rfl⟩ -- slices.nextPowerOfTwo
theorem ok92 : FnOk Tryd.prog 92 := ⟨Tryd.f92, Tryd.func92, by kernel_rfl, by kernel_rfl⟩ -- (*slices.xorshift).Next
theorem ok93 : FnOk Tryd.prog 93 := ⟨Tryd.f93, Tryd.func93, by kernel_rfl, by kernel_rfl⟩ -- slices.medianAdjacentOrdered[int]
theorem ok94 : FnOk Tryd.prog 94 := ⟨Tryd.f94, Tryd.func94, by kernel_rfl, by kernel_rfl⟩ -- slices.medianOrdered[int]
theorem ok95 : FnOk Tryd.prog 95 := ⟨Tryd.f95, Tryd.func95, by kernel_rfl, by kernel_rfl⟩ -- slices.siftDownCmpFunc[rillmeter/heavy.Item]
theorem ok96 : FnOk Tryd.prog 96 := ⟨Tryd.f96, Tryd.func96, by kernel_rfl, by kernel_rfl⟩ -- slices.medianAdjacentCmpFunc[rillmeter/heavy.Item]
theorem ok97 : FnOk Tryd.prog 97 := ⟨Tryd.f97, Tryd.func97, by kernel_rfl, by kernel_rfl⟩ -- slices.medianCmpFunc[rillmeter/heavy.Item]
theorem ok99 : FnOk Tryd.prog 99 := ⟨Tryd.f99, Tryd.func99, by kernel_rfl, by kernel_rfl⟩ -- slices.order2Ordered[int]
theorem ok100 : FnOk Tryd.prog 100 := ⟨Tryd.f100, Tryd.func100, by kernel_rfl, by kernel_rfl⟩ -- slices.order2CmpFunc[rillmeter/heavy.Item]
end Go.Proofs.YtngpmpmhpggpgaaDoorF
end

section
/- Sorting in place, from the shelf's contract. -/
namespace Go.Proofs.Vm
open Go

variable {P : Program}

def SortsInt (P : Program) (g : FuncId) : Prop := ∀ (blk off cap : Nat) (zs : List Int) (w : World), Sort.Holds (Value.int .i64) w blk off zs.toArray → blk < w.heap.size → zs.length < 4611686018427387904 →
  Calls P g #[.slice (some ⟨blk, off, none⟩) zs.length cap] w fun e w' => e = .returned (.tuple #[]) ∧ ∃ n os, w' = Sort.grow (Sort.putRow (Value.int .i64) (Sort.ahead w n) blk off (zs.mergeSort fun x y => decide (x ≤ y)).toArray) os
def SortsNone (P : Program) (g : FuncId) : Prop := ∀ (p : Option Addr) (cap : Nat) (w : World), Calls P g #[.slice p 0 cap] w fun e w' => e = .returned (.tuple #[]) ∧ w' = w

theorem mapO_int_inv : ∀ {l : List (List CV)} {xs : List Int}, mapO intOf l = some xs → l = xs.map cInt
  | [], xs, h => by cases h; rfl
  | e :: l, xs, h => by
    simp only [mapO] at h
    split at h
    · rename_i y m h1 h2
      cases h
      rw [List.map_cons, mapO_int_inv h2]
      congr 1
      unfold intOf at h1
      split at h1
      · cases h1; rfl
      · cases h1
    · cases h

theorem sortTab_ok {g : FuncId} (hnc : isCl P g = false) (hf : FnOk P g) (h1 : SortsInt P g) (h2 : SortsNone P g) : TOk P (sortTab g) := by
  refine ⟨fun f args r h => (by cases h), fun f args H r H' h => ?_⟩
  simp only [sortTab] at h
  split at h
  case isFalse => cases h
  rename_i hfg
  subst hfg
  unfold sortRun at h
  split at h
  case h_2 => cases h
  rename_i id n tot
  split at h
  case h_2 => cases h
  rename_i l hl
  split at h
  case h_2 => cases h
  rename_i xs hxs
  split at h
  case isFalse => cases h
  rename_i hc
  obtain ⟨rfl, hlt, hsz⟩ := hc
  cases h
  have hlx := mapO_int_inv hxs
  have hxl : xs.length = n := by rw [← hlt, hlx, List.length_map]
  refine ⟨⟨by simp, fun h => by rw [hnc] at h; cases h⟩, hf, ?_⟩
  intro X S M hX hD vals hv
  subst hX
  have hv1 : vals.length = 1 := by rw [← hv.1]; rfl
  match vals, hv1 with
  | [v], _ =>
  have hr : RCell X (.sl id 0 n n) v := hv.2 0 _ v rfl rfl
  obtain ⟨_, hd, e0, he0, _, _, hp⟩ := hr
  rw [hl] at he0
  cases he0
  obtain ⟨ad, cap, rfl, hcap, hne, _⟩ := hp hlt
  have hent := S.ent _ _ hd hl
  have hlen' : (xs.mergeSort fun x y => decide (x ≤ y)).length = xs.length := List.length_mergeSort _
  have hylen : ((xs.mergeSort fun x y => decide (x ≤ y)).map cInt).length = l.length := by rw [List.length_map, hlen', hlx, List.length_map]
  by_cases h0 : n = 0
  · subst h0
    have hxe : xs = [] := List.length_eq_zero_iff.1 hxl
    subst hxe
    refine (h2 ad cap X.w).mono fun e w' hh => ?_
    obtain ⟨rfl, rfl⟩ := hh
    refine ⟨_, X, rfl, rfl, .refl S M, ?_, fun id => by rw [hD]; simp, ⟨[], rfl, rfl, fun j p y hp => by simp at hp⟩⟩
    rw [List.mergeSort_nil]
    simp only [List.map_nil] at hlx ⊢
    rw [hlx] at hl
    exact (set_same hl).symm
  · obtain ⟨b, hb, rfl⟩ := hne h0
    rcases hent.2 with ⟨h3, _⟩ | ⟨b', c, ty, fr, g1, g2, g3, g4, g5, g6, g7, g8, g9, g10⟩
    · exact absurd (hlt.symm.trans h3) h0
    rw [hb] at g1
    cases g1
    have hsz1 : (X.σ id).sz = 1 := by
      cases l with
      | nil => exact absurd hlt.symm h0
      | cons e l =>
        have := hent.1 e List.mem_cons_self
        cases xs with
        | nil => simp at hlx
        | cons x xs =>
          rw [List.map_cons] at hlx
          cases hlx
          exact this.symm
    rw [hsz1] at g5 g10
    have hblk := S.blk M id b hd hb
    have hcell : ∀ j, ∀ hj : j < xs.length, c[j]? = some (.int .i64 xs[j]) := by
      intro j hj
      obtain ⟨v, h3, e, x, h4, h5, h6⟩ := g10 j 0 (by omega) (by omega)
      rw [hlx, List.getElem?_map, List.getElem?_eq_getElem hj] at h4
      cases h4
      cases h5
      cases h6
      rw [← h3, Nat.mul_one, Nat.add_zero]
    have hH : Sort.Holds (Value.int .i64) X.w b 0 xs.toArray := by
      intro j hj
      have hj : j < xs.length := by simpa using hj
      refine ⟨?_, g4 _ ?_⟩
      · unfold World.cell?
        simp only [g3]
        rw [if_neg (by simp), Nat.zero_add, hcell j hj]
        simp [hj]
      · have := (Array.getElem?_eq_some_iff.1 (hcell j hj)).1
        omega
    rw [Nat.zero_mul, ← hxl]
    refine (h1 b 0 cap xs X.w hH hblk.1 (by omega)).mono fun e w' hh => ?_
    obtain ⟨rfl, m, os, rfl⟩ := hh
    generalize hys : (xs.mergeSort fun x y => decide (x ≤ y)) = ys at hlen' hylen
    let w' := Sort.grow (Sort.putRow (Value.int .i64) (Sort.ahead X.w m) b 0 ys.toArray) os
    have hms : (X.w.heap.modify b (Sort.onCells (Sort.putCells (Value.int .i64) 0 ys.toArray))).size = X.w.heap.size := by simp
    have hheap : ∀ k, k < X.w.heap.size → w'.heap[k]? = (X.w.heap.modify b (Sort.onCells (Sort.putCells (Value.int .i64) 0 ys.toArray)))[k]? := by
      intro k hk
      show (X.w.heap.modify b _ ++ os)[k]? = _
      rw [Array.getElem?_append_left (by simpa using hk)]
    have hself : w'.heap[b]? = some (.cells (Sort.putCells (Value.int .i64) 0 ys.toArray c) ty fr) := by
      rw [hheap b hblk.1, Array.getElem?_modify, if_pos rfl, g3]
      rfl
    have hoth : ∀ k, k < X.w.heap.size → k ≠ b → w'.heap[k]? = X.w.heap[k]? := by
      intro k hk hkb
      rw [hheap k hk, Array.getElem?_modify, if_neg (fun e => hkb e.symm)]
    let Y : Cx := { X with H := X.H.set id (.clo (ys.map cInt) false), w := w' }
    have W : Wrote X Y id := ⟨rfl, rfl, fun _ => Iff.rfl, fun _ _ _ => rfl, rfl, fun i hi => set_get hi, by
      show X.w.heap.size ≤ (X.w.heap.modify b _ ++ os).size
      rw [Array.size_append, hms]
      exact Nat.le_add_right _ _, fun k hk hkb => hoth k hk (hkb b hb), ⟨_, _, hl, set_self hl, by simp only [Ent.len]; omega, fun _ => rfl, fun l h => by cases h⟩, hd, ⟨⟨rfl, rfl⟩, rfl, Nat.le_add_right _ _⟩, fun k hk => by rw [hb] at hk; cases hk; exact g9 rfl⟩
    have SY : SR Y := W.sr S M (fun e h => by
      have : Y.H[id]? = some (.clo (ys.map cInt) false) := set_self hl
      rw [this] at h
      cases h
      refine ⟨fun e he => ?_, .inr ⟨b, _, ty, fr, hb, g2, hself, fun o ho => ?_, ?_, by rw [hylen]; exact g6, g7, (fun h => by cases h), g9, fun i j hi hj => ?_⟩⟩
      · obtain ⟨y, _, rfl⟩ := List.mem_map.1 he
        show 1 = (X.σ id).sz
        rw [hsz1]
      · have := g4 o (by simpa [Sort.putCells] using ho)
        unfold World.frozen? at this ⊢
        rw [g3] at this
        rw [hself]
        exact this
      · show (Sort.putCells (Value.int .i64) 0 ys.toArray c).size = (X.σ id).cap * (X.σ id).sz
        rw [hsz1, ← g5]
        simp [Sort.putCells]
      · have hj : j < (X.σ id).sz := hj
        rw [hsz1] at hj
        have hi' : i < ys.length := by simpa using hi
        have hic : i < c.size := by rw [g5]; have := g6.2; rw [hylen] at hi; omega
        refine ⟨.int .i64 ys[i], ?_, cInt ys[i], .v (.int .i64 ys[i]), by rw [List.getElem?_map, List.getElem?_eq_getElem hi']; rfl, by rw [show j = 0 by omega]; rfl, .v _ rfl⟩
        show (Sort.putCells (Value.int .i64) 0 ys.toArray c)[i * (X.σ id).sz + j]? = _
        rw [hsz1, show i * 1 + j = i by omega, Sort.putCells, Array.getElem?_mapIdx, Array.getElem?_eq_getElem hic, Option.map_some, if_pos ⟨Nat.zero_le _, by simpa using hi'⟩]
        simp [hi']) (fun b' h => .inl h)
    exact ⟨_, Y, rfl, rfl, W.nxt S M SY, rfl, fun id => by rw [show Y.D = X.D from rfl, hD]; simp, ⟨[], rfl, rfl, fun j p y hp => by simp at hp⟩⟩

end Go.Proofs.Vm
end

section
/- What the library tells of items sorted by a function, and of strings compared. -/
namespace Go.Proofs.Vm
open Go

variable {P : Program}

abbrev Itm := ByteArray × Int
def encI (x : Itm) : List Value := [.string x.1, .int .i64 x.2]
def cItm (x : Itm) : List CV := [.v (.string x.1), .v (.int .i64 x.2)]
def itmOf : List CV → Option Itm
  | [.v (.string s), .v (.int .i64 n)] => some (s, n)
  | _ => none
def isort (cf : Itm → Itm → Int) (l : List Itm) : List Itm := l.mergeSort fun x y => decide (cf x y ≤ 0)

theorem mapO_itm : ∀ xs : List Itm, mapO itmOf (xs.map cItm) = some xs
  | [] => rfl
  | x :: xs => by
    rw [List.map_cons]
    simp only [mapO, mapO_itm xs]
    rfl
theorem mapO_itm_inv : ∀ {l : List (List CV)} {xs : List Itm}, mapO itmOf l = some xs → l = xs.map cItm
  | [], xs, h => by cases h; rfl
  | e :: l, xs, h => by
    simp only [mapO] at h
    split at h
    · rename_i y m h1 h2
      cases h
      rw [List.map_cons, mapO_itm_inv h2]
      congr 1
      unfold itmOf at h1
      split at h1
      · cases h1; rfl
      · cases h1
    · cases h

def sortFRun (go : FuncId) (cf : Itm → Itm → Int) (args : List AV) (H : Hp) : Option (AV × Hp) :=
  match args with
  | [.one (.sl id 0 n tot), .one (.fn g [])] => if g = go then match H[id]? with
    | some (.clo l false) => match mapO itmOf l with
      | some xs => if n = tot ∧ l.length = tot ∧ tot < 4611686018427387904 then some (und, H.set id (.clo ((isort cf xs).map cItm) false)) else none
      | none => none
    | _ => none
    else none
  | _ => none

def cmpB (a b : ByteArray) : Int := Lib.compareBytes a.data.toList b.data.toList
def cmpRun (args : List CA) : Option CA :=
  match args with
  | [.one (.v (.string a)), .one (.v (.string b))] => some (cI .i64 (cmpB a b))
  | _ => none

/-- A clone of an own slice of none, whether it is nil or not. -/
def clone0Run (args : List AV) (H : Hp) : Option (AV × Hp) :=
  match args with
  | [.one (.sl id 0 0 0)] => if lenIs H id 0 = true then some (.one (.sl (H.length + 1) 0 0 0), H ++ [.clo [] false, .clo [] false]) else none
  | _ => none
def itmTab (gs go gc gl : FuncId) (cf : Itm → Itm → Int) : Tab := ⟨fun f args => if f = gc then cmpRun args else none, fun f args H => if f = gs then sortFRun go cf args H else if f = gl then clone0Run args H else none, false⟩
/-- The same of a function's slices of none as they are. -/
def Clone0 (P : Program) (gl : FuncId) : Prop := ∀ (ad : Option Addr) (cap : Nat) (H : Hp), SCtr P gl [.one (.c (.v (.slice ad 0 cap)))] H (.one (.sl (H.length + 1) 0 0 0)) (H ++ [.clo [] false, .clo [] false])

def SortsF (P : Program) (gs go : FuncId) (cf : Itm → Itm → Int) : Prop := ∀ (blk off cap : Nat) (d : List Itm) (w : World), (∃ n, n ≤ blk ∧ n ≤ w.heap.size ∧ Tabs n w) → Sort.HoldsK encI 2 w blk off d.toArray → blk < w.heap.size → d.length < 4611686018427387904 →
  Calls P gs #[.slice (some ⟨blk, off, none⟩) d.length cap, .func (.func go) #[] #[]] w fun e w' => e = .returned (.tuple #[]) ∧ ∃ n os, w' = sortWorldK encI 2 w blk off n (isort cf d).toArray os
def SortsF0 (P : Program) (gs go : FuncId) : Prop := ∀ (p : Option Addr) (cap : Nat) (w : World), Calls P gs #[.slice p 0 cap, .func (.func go) #[] #[]] w fun e w' => e = .returned (.tuple #[]) ∧ w' = w
def CmpS (P : Program) (gc : FuncId) : Prop := ∀ (a b : ByteArray) (w : World), Calls P gc #[.string a, .string b] w fun e w' => e = .returned (.int .i64 (cmpB a b)) ∧ w' = w

def cmpTab (gc : FuncId) : Tab := ⟨fun f args => if f = gc then cmpRun args else none, fun _ _ _ => none, false⟩
theorem cmpPu_ok {gc : FuncId} (hfc : FnOk P gc) (hc : CmpS P gc) : PuOk P (cmpTab gc) := by
  intro f args r h
  simp only [cmpTab] at h
  split at h
  case isFalse => cases h
  rename_i hfg
  subst hfg
  unfold cmpRun at h
  split at h
  case h_2 => cases h
  rename_i a b
  cases h
  refine ⟨hfc, fun I w vals hI _ hv => ?_⟩
  have hl : vals.length = 2 := by rw [← hv.1]; rfl
  match vals, hl with
  | [x, y], _ =>
  have hx : RK I w (.one (.v (.string a))) x := hv.2 0 _ _ rfl rfl
  have hy : RK I w (.one (.v (.string b))) y := hv.2 1 _ _ rfl rfl
  have ex : x = .string a := by cases hx; rfl
  have ey : y = .string b := by cases hy; rfl
  subst ex; subst ey
  refine (hc a b w).mono fun e w' hh => ?_
  obtain ⟨rfl, rfl⟩ := hh
  exact ⟨_, I, rfl, fun _ h => h, fun _ h => .inl h, hI, Nat.le_refl _, fun _ _ => rfl, .refl _, .v _ rfl⟩
theorem cmpTab_ok {gc : FuncId} (hfc : FnOk P gc) (hc : CmpS P gc) : TOk P (cmpTab gc) := ⟨cmpPu_ok hfc hc, fun f args H r H' h => (by cases h)⟩

theorem flat_get (d : List Itm) (i j : Nat) (hi : i < d.length) (hj : j < 2) : (Sort.flatK encI 2 d.toArray)[i * 2 + j]! = (encI d[i])[j]'(by simpa [encI] using hj) := by
  rw [Sort.get_flatK _ _ _ _ (by simp; omega), show (i * 2 + j) / 2 = i by omega, show (i * 2 + j) % 2 = j by omega]
  have : d.toArray[i]! = d[i] := by simp [hi]
  rw [this, getElem!_pos (encI d[i]) j (by simpa [encI] using hj)]

theorem itmTab_ok {gs go gc gl : FuncId} {cf : Itm → Itm → Int} (hnc : isCl P gs = false) (hfc : FnOk P gc) (hc : CmpS P gc) (hf : FnOk P gs) (h1 : SortsF P gs go cf) (h2 : SortsF0 P gs go) (hfl : FnOk P gl) (h3 : Clone0 P gl) : TOk P (itmTab gs go gc gl cf) := by
  refine ⟨fun f args r h => cmpPu_ok hfc hc f args r h, fun f args H r H' h => ?_⟩
  simp only [itmTab] at h
  split at h
  case isFalse =>
    split at h
    case isFalse => cases h
    rename_i hfg
    subst hfg
    unfold clone0Run at h
    split at h
    case h_2 => cases h
    rename_i id
    split at h
    case isFalse => cases h
    rename_i hlen
    cases h
    refine ⟨by simp, hfl, ?_⟩
    intro X S M hX hD vals hv
    subst hX
    have hv1 : vals.length = 1 := by rw [← hv.1]; rfl
    match vals, hv1 with
    | [v], _ =>
    have hr : RCell X (.sl id 0 0 0) v := hv.2 0 _ v rfl rfl
    obtain ⟨h1', hd, e0, he0, _, _, hp⟩ := hr
    have hl0 : e0.len = 0 := by
      unfold lenIs at hlen
      rw [he0] at hlen
      simpa using hlen
    obtain ⟨ad, cap, rfl, _⟩ := hp hl0
    exact h3 ad cap X.H X S M rfl hD _ ⟨rfl, fun j p y hj hy => by
      cases j with
      | zero =>
        cases hj; cases hy
        exact .v _ h1'
      | succ j => cases hj⟩
  rename_i hfg
  subst hfg
  unfold sortFRun at h
  split at h
  case h_2 => cases h
  rename_i id n tot g
  split at h
  case isFalse => cases h
  rename_i hgg
  subst hgg
  split at h
  case h_2 => cases h
  rename_i l hl
  split at h
  case h_2 => cases h
  rename_i xs hxs
  split at h
  case isFalse => cases h
  rename_i hcc
  obtain ⟨rfl, hlt, hsz⟩ := hcc
  cases h
  have hlx := mapO_itm_inv hxs
  have hxl : xs.length = n := by rw [← hlt, hlx, List.length_map]
  refine ⟨⟨by simp, fun h => by rw [hnc] at h; cases h⟩, hf, ?_⟩
  intro X S M hX hD vals hv
  subst hX
  have hv1 : vals.length = 2 := by rw [← hv.1]; rfl
  match vals, hv1 with
  | [v, fv], _ =>
  have hr : RCell X (.sl id 0 n n) v := hv.2 0 _ v rfl rfl
  have hfv : RCell X (.fn g []) fv := hv.2 1 _ fv rfl rfl
  obtain ⟨vs, rfl, hvs, _⟩ := hfv
  have hvs0 : vs = [] := List.length_eq_zero_iff.1 hvs.symm
  subst hvs0
  obtain ⟨_, hd, e0, he0, _, _, hp⟩ := hr
  rw [hl] at he0
  cases he0
  obtain ⟨ad, cap, rfl, hcap, hne, _⟩ := hp hlt
  have hent := S.ent _ _ hd hl
  have hlen' : (isort cf xs).length = xs.length := List.length_mergeSort _
  have hylen : ((isort cf xs).map cItm).length = l.length := by rw [List.length_map, hlen', hlx, List.length_map]
  by_cases h0 : n = 0
  · subst h0
    have hxe : xs = [] := List.length_eq_zero_iff.1 hxl
    subst hxe
    refine (h2 ad cap X.w).mono fun e w' hh => ?_
    obtain ⟨rfl, rfl⟩ := hh
    refine ⟨_, X, rfl, rfl, .refl S M, ?_, fun id => by rw [hD]; simp, ⟨[], rfl, rfl, fun j p y hp => by simp at hp⟩⟩
    rw [isort, List.mergeSort_nil]
    simp only [List.map_nil] at hlx ⊢
    rw [hlx] at hl
    exact (set_same hl).symm
  · obtain ⟨b, hb, rfl⟩ := hne h0
    rcases hent.2 with ⟨h3, _⟩ | ⟨b', c, ty, fr, g1, g2, g3, g4, g5, g6, g7, g8, g9, g10⟩
    · exact absurd (hlt.symm.trans h3) h0
    rw [hb] at g1
    cases g1
    have hsz1 : (X.σ id).sz = 2 := by
      cases l with
      | nil => exact absurd hlt.symm h0
      | cons e l =>
        have := hent.1 e List.mem_cons_self
        cases xs with
        | nil => simp at hlx
        | cons x xs =>
          rw [List.map_cons] at hlx
          cases hlx
          exact this.symm
    rw [hsz1] at g5 g10
    have hblk := S.blk M id b hd hb
    have hcell : ∀ i j, ∀ hi : i < xs.length, ∀ hj : j < 2, c[i * 2 + j]? = some ((encI xs[i])[j]'(by simpa [encI] using hj)) := by
      intro i j hi hj
      obtain ⟨v, h3, e, x, h4, h5, h6⟩ := g10 i j (by omega) hj
      rw [hlx, List.getElem?_map, List.getElem?_eq_getElem hi] at h4
      cases h4
      rw [h3]
      match j, hj with
      | 0, _ => cases h5; cases h6; rfl
      | 1, _ => cases h5; cases h6; rfl
    have hH : Sort.HoldsK encI 2 X.w b 0 xs.toArray := by
      intro j hj
      have hj : j < xs.length * 2 := by simpa using hj
      have hc1 := hcell (j / 2) (j % 2) (by omega) (by omega)
      have hf1 := flat_get xs (j / 2) (j % 2) (by omega) (by omega)
      rw [show j / 2 * 2 + j % 2 = j by omega] at hc1 hf1
      refine ⟨?_, g4 _ ?_⟩
      · unfold World.cell?
        simp only [g3]
        rw [if_neg (by simp), Nat.zero_add, hc1, hf1]
        rfl
      · have := (Array.getElem?_eq_some_iff.1 hc1).1
        omega
    rw [Nat.zero_mul, ← hxl]
    refine (h1 b 0 cap xs X.w ⟨X.base, g7, S.size, S.tab.mono S.old (Nat.le_refl _)⟩ hH hblk.1 (by omega)).mono fun e w' hh => ?_
    obtain ⟨rfl, m, os, rfl⟩ := hh
    generalize hys : isort cf xs = ys at hlen' hylen
    let F := Sort.flatK encI 2 ys.toArray
    have hFs : F.size = ys.length * 2 := by simp [F]
    let w' := sortWorldK encI 2 X.w b 0 m ys.toArray os
    have hms : (X.w.heap.modify b (Sort.onCells (Sort.putCells _root_.id 0 F))).size = X.w.heap.size := by simp
    have hheap : ∀ k, k < X.w.heap.size → w'.heap[k]? = (X.w.heap.modify b (Sort.onCells (Sort.putCells _root_.id 0 F)))[k]? := by
      intro k hk
      show (X.w.heap.modify b _ ++ os)[k]? = _
      rw [Array.getElem?_append_left (by simpa using hk)]
    have hself : w'.heap[b]? = some (.cells (Sort.putCells _root_.id 0 F c) ty fr) := by
      rw [hheap b hblk.1, Array.getElem?_modify, if_pos rfl, g3]
      rfl
    have hoth : ∀ k, k < X.w.heap.size → k ≠ b → w'.heap[k]? = X.w.heap[k]? := by
      intro k hk hkb
      rw [hheap k hk, Array.getElem?_modify, if_neg (fun e => hkb e.symm)]
    let Y : Cx := { X with H := X.H.set id (.clo (ys.map cItm) false), w := w' }
    have W : Wrote X Y id := ⟨rfl, rfl, fun _ => Iff.rfl, fun _ _ _ => rfl, rfl, fun i hi => set_get hi, by
      show X.w.heap.size ≤ (X.w.heap.modify b _ ++ os).size
      rw [Array.size_append, Array.size_modify]
      exact Nat.le_add_right _ _, fun k hk hkb => hoth k hk (hkb b hb), ⟨_, _, hl, set_self hl, by simp only [Ent.len]; omega, fun _ => rfl, fun l h => by cases h⟩, hd, ⟨⟨rfl, rfl⟩, rfl, Nat.le_add_right _ _⟩, fun k hk => by rw [hb] at hk; cases hk; exact g9 rfl⟩
    have SY : SR Y := W.sr S M (fun e h => by
      have : Y.H[id]? = some (.clo (ys.map cItm) false) := set_self hl
      rw [this] at h
      cases h
      refine ⟨fun e he => ?_, .inr ⟨b, _, ty, fr, hb, g2, hself, fun o ho => ?_, ?_, by rw [hylen]; exact g6, g7, (fun h => by cases h), g9, fun i j hi hj => ?_⟩⟩
      · obtain ⟨y, _, rfl⟩ := List.mem_map.1 he
        show 2 = (X.σ id).sz
        rw [hsz1]
      · have := g4 o (by simpa [Sort.putCells] using ho)
        unfold World.frozen? at this ⊢
        rw [g3] at this
        rw [hself]
        exact this
      · show (Sort.putCells _root_.id 0 F c).size = (X.σ id).cap * (X.σ id).sz
        rw [hsz1, ← g5]
        simp [Sort.putCells]
      · have hj : j < (X.σ id).sz := hj
        rw [hsz1] at hj
        have hi' : i < ys.length := by simpa using hi
        have hic : i * 2 + j < c.size := by rw [g5]; have := g6.2; rw [hylen] at hi; omega
        have hfg := flat_get ys i j hi' hj
        refine ⟨(encI ys[i])[j]'(by simpa [encI] using hj), ?_, cItm ys[i], .v ((encI ys[i])[j]'(by simpa [encI] using hj)), by rw [List.getElem?_map, List.getElem?_eq_getElem hi']; rfl, ?_, ?_⟩
        · show (Sort.putCells _root_.id 0 F c)[i * (X.σ id).sz + j]? = _
          rw [hsz1, Sort.putCells, Array.getElem?_mapIdx, Array.getElem?_eq_getElem hic, Option.map_some, if_pos ⟨Nat.zero_le _, by rw [hFs]; omega⟩]
          show some (_root_.id F[i * 2 + j - 0]!) = _
          rw [Nat.sub_zero, hfg]
          rfl
        · match j, hj with
          | 0, _ => rfl
          | 1, _ => rfl
        · match j, hj with
          | 0, _ => exact .v _ rfl
          | 1, _ => exact .v _ rfl) (fun b' h => .inl h)
    exact ⟨_, Y, rfl, rfl, W.nxt S M SY, rfl, fun id => by rw [show Y.D = X.D from rfl, hD]; simp, ⟨[], rfl, rfl, fun j p y hp => by simp at hp⟩⟩

end Go.Proofs.Vm
end

section
/- How items stand: the greater count first, of one count the lesser key. -/
namespace Go.Proofs.Vm
open Go

def cmpI (x y : Int) : Int := if x < y then -1 else if x > y then 1 else 0
def ordI (a b : Itm) : Int := if cmpI b.2 a.2 ≠ 0 then cmpI b.2 a.2 else cmpB a.1 b.1

theorem cb_eq : ∀ a b : List UInt8, Lib.compareBytes a b = 0 ↔ a = b
  | [], [] => by simp [Lib.compareBytes]
  | [], _ :: _ => by simp [Lib.compareBytes]
  | _ :: _, [] => by simp [Lib.compareBytes]
  | a :: ar, b :: br => by
    unfold Lib.compareBytes
    by_cases h1 : a < b
    · rw [if_pos h1]
      refine ⟨fun h => absurd h (by decide), fun h => ?_⟩
      cases h
      exact absurd h1 (UInt8.lt_irrefl _)
    · rw [if_neg h1]
      by_cases h2 : b < a
      · rw [if_pos h2]
        refine ⟨fun h => absurd h (by decide), fun h => ?_⟩
        cases h
        exact absurd h2 (UInt8.lt_irrefl _)
      · rw [if_neg h2, cb_eq ar br]
        have : a = b := UInt8.le_antisymm (UInt8.not_lt.1 h2) (UInt8.not_lt.1 h1)
        subst this
        simp
theorem cb_neg : ∀ a b : List UInt8, Lib.compareBytes b a = - Lib.compareBytes a b
  | [], [] => by simp [Lib.compareBytes]
  | [], _ :: _ => by simp [Lib.compareBytes]
  | _ :: _, [] => by simp [Lib.compareBytes]
  | a :: ar, b :: br => by
    unfold Lib.compareBytes
    by_cases h1 : a < b
    · rw [if_neg (UInt8.lt_asymm h1), if_pos h1, if_pos h1]; rfl
    · rw [if_neg h1, if_neg h1]
      by_cases h2 : b < a
      · rw [if_pos h2, if_pos h2]
      · rw [if_neg h2, if_neg h2]
        exact cb_neg ar br
theorem cb_trans : ∀ a b c : List UInt8, Lib.compareBytes a b < 0 → Lib.compareBytes b c < 0 → Lib.compareBytes a c < 0
  | [], _, [], h1, h2 => by
    rename_i b
    cases b with
    | nil => simp [Lib.compareBytes] at h1
    | cons x b => simp [Lib.compareBytes] at h2
  | [], _, _ :: _, _, _ => by simp [Lib.compareBytes]
  | _ :: _, [], _, h1, _ => by simp [Lib.compareBytes] at h1
  | _ :: _, _ :: _, [], _, h2 => by simp [Lib.compareBytes] at h2
  | a :: ar, b :: br, c :: cr, h1, h2 => by
    unfold Lib.compareBytes at h1 h2 ⊢
    by_cases a1 : a < b
    · by_cases b1 : b < c
      · rw [if_pos (UInt8.lt_trans a1 b1)]; decide
      · rw [if_neg b1] at h2
        by_cases b2 : c < b
        · rw [if_pos b2] at h2; exact absurd h2 (by decide)
        · have : b = c := UInt8.le_antisymm (UInt8.not_lt.1 b2) (UInt8.not_lt.1 b1)
          subst this
          rw [if_pos a1]; decide
    · rw [if_neg a1] at h1
      by_cases a2 : b < a
      · rw [if_pos a2] at h1; exact absurd h1 (by decide)
      · have : a = b := UInt8.le_antisymm (UInt8.not_lt.1 a2) (UInt8.not_lt.1 a1)
        subst this
        rw [if_neg (UInt8.lt_irrefl _)] at h1
        by_cases b1 : a < c
        · rw [if_pos b1]; decide
        · rw [if_neg b1] at h2 ⊢
          by_cases b2 : c < a
          · rw [if_pos b2] at h2; exact absurd h2 (by decide)
          · rw [if_neg b2] at h2 ⊢
            exact cb_trans ar br cr (by simpa using h1) h2

theorem cmpB_eq {a b : ByteArray} : cmpB a b = 0 ↔ a = b := by
  unfold cmpB
  rw [cb_eq]
  constructor
  · intro h
    have := Array.toList_inj.1 h
    cases a; cases b; simp_all
  · intro h; rw [h]
theorem cmpB_neg (a b : ByteArray) : cmpB b a = - cmpB a b := cb_neg _ _
theorem cmpI_neg (x y : Int) : cmpI y x = - cmpI x y := by
  unfold cmpI; split <;> split <;> (try split) <;> omega
theorem ordI_neg (a b : Itm) : ordI b a = - ordI a b := by
  unfold ordI
  rw [cmpI_neg b.2 a.2, cmpB_neg a.1 b.1]
  split <;> split <;> omega
theorem ordI_eq {a b : Itm} : ordI a b = 0 ↔ a = b := by
  unfold ordI
  constructor
  · intro h
    split at h
    · contradiction
    · rename_i h1
      have h2 : cmpI b.2 a.2 = 0 := by omega
      have h3 : b.2 = a.2 := by unfold cmpI at h2; split at h2; · omega
                                split at h2 <;> omega
      exact Prod.ext (cmpB_eq.1 h) h3.symm
  · intro h
    subst h
    have : cmpI a.2 a.2 = 0 := by unfold cmpI; rw [if_neg (by omega), if_neg (by omega)]
    rw [this]
    simp only [ne_eq, not_true_eq_false, if_false]
    exact cmpB_eq.2 rfl
/-- One stands ahead of another. -/
theorem ordI_lt {a b : Itm} : ordI a b < 0 ↔ b.2 < a.2 ∨ b.2 = a.2 ∧ cmpB a.1 b.1 < 0 := by
  unfold ordI cmpI
  by_cases h1 : b.2 < a.2
  · simp [h1]
  · by_cases h2 : b.2 > a.2
    · rw [if_neg h1, if_pos h2]
      simp; omega
    · rw [if_neg h1, if_neg h2]
      have : b.2 = a.2 := by omega
      simp [this]
theorem ordI_trans {a b c : Itm} (h1 : ordI a b < 0) (h2 : ordI b c < 0) : ordI a c < 0 := by
  rw [ordI_lt] at *
  rcases h1 with h1 | ⟨h1, k1⟩
  · rcases h2 with h2 | ⟨h2, _⟩
    · left; omega
    · left; omega
  · rcases h2 with h2 | ⟨h2, k2⟩
    · left; omega
    · right
      exact ⟨by omega, cb_trans _ _ _ k1 k2⟩
theorem ordI_le_trans (a b c : Itm) (h1 : ordI a b ≤ 0) (h2 : ordI b c ≤ 0) : ordI a c ≤ 0 := by
  by_cases e1 : ordI a b = 0
  · rw [ordI_eq] at e1; subst e1; exact h2
  · by_cases e2 : ordI b c = 0
    · rw [ordI_eq] at e2; subst e2; exact h1
    · have := ordI_trans (show ordI a b < 0 by omega) (show ordI b c < 0 by omega)
      omega
theorem ordI_total (a b : Itm) : ordI a b ≤ 0 ∨ ordI b a ≤ 0 := by
  have := ordI_neg a b
  omega

theorem bl_cb : ∀ a b : List UInt8, Op.bytesLess a b = decide (Lib.compareBytes a b < 0)
  | [], [] => by simp [Op.bytesLess, Lib.compareBytes]
  | _ :: _, [] => by simp [Op.bytesLess, Lib.compareBytes]
  | [], _ :: _ => by simp [Op.bytesLess, Lib.compareBytes]
  | a :: x, b :: y => by
    unfold Op.bytesLess Lib.compareBytes
    by_cases h1 : a < b
    · simp [h1]
    · by_cases h2 : b < a
      · have : ¬ a = b := fun e => by subst e; exact absurd h2 (UInt8.lt_irrefl _)
        simp [h1, h2, this]
      · have : a = b := UInt8.le_antisymm (UInt8.not_lt.1 h2) (UInt8.not_lt.1 h1)
        subst this
        simp [h1, bl_cb x y]
theorem bl_cmpB (a b : ByteArray) : Op.bytesLess a.toList b.toList = decide (cmpB a b < 0) := by
  rw [bl_cb, toList_eq, toList_eq]; rfl

end Go.Proofs.Vm
end

section
/- A table of two; numbers' trailing noughts; items sorted by a function, and strings compared. -/
namespace Go.Proofs.Vm
open Go

variable {P : Program}

def orTab (A B : Tab) : Tab := ⟨fun f a => match A.pu f a with | some r => some r | none => B.pu f a, fun f a H => match A.S f a H with | some r => some r | none => B.S f a H, false⟩
theorem orTab_ok {A B : Tab} (hA : TOk P A) (hB : TOk P B) : TOk P (orTab A B) := by
  refine ⟨fun f args r h => ?_, fun f args H r H' h => ?_⟩
  · simp only [orTab] at h
    split at h
    · rename_i x hx; cases h; exact hA.1 _ _ _ hx
    · exact hB.1 _ _ _ h
  · simp only [orTab] at h
    split at h
    · rename_i x hx; cases h; exact hA.2 _ _ _ _ _ hx
    · exact hB.2 _ _ _ _ _ h

def tzRun (args : List CA) : Option CA :=
  match args with
  | [.one (.v (.int .u64 x))] => if 0 ≤ x ∧ x < 18446744073709551616 then some (cI .i64 (Lib.ctz 64 x.toNat)) else none
  | _ => none
def tzTab (gt : FuncId) : Tab := ⟨fun f args => if f = gt then tzRun args else none, fun _ _ _ => none, false⟩
def TzS (P : Program) (gt : FuncId) : Prop := ∀ (x : Nat) (w : World), x < 18446744073709551616 → Tabs w.heap.size w → Calls P gt #[.int .u64 x] w fun e w' => e = .returned (.int .i64 (Lib.ctz 64 x)) ∧ w' = w
theorem tzTab_ok {gt : FuncId} (hf : FnOk P gt) (ht : TzS P gt) : TOk P (tzTab gt) := by
  refine ⟨fun f args r h => ?_, fun f args H r H' h => (by cases h)⟩
  simp only [tzTab] at h
  split at h
  case isFalse => cases h
  rename_i hfg
  subst hfg
  unfold tzRun at h
  split at h
  case h_2 => cases h
  rename_i x
  split at h
  case isFalse => cases h
  rename_i hx
  cases h
  obtain ⟨n, rfl⟩ := Int.eq_ofNat_of_zero_le hx.1
  refine ⟨hf, fun I w vals hI hT hv => ?_⟩
  have hl : vals.length = 1 := by rw [← hv.1]; rfl
  match vals, hl with
  | [v], _ =>
  have hv0 : RK I w (.one (.v (.int .u64 n))) v := hv.2 0 _ _ rfl rfl
  have ev : v = .int .u64 n := by cases hv0; rfl
  subst ev
  refine (ht n w (by omega) hT).mono fun e w' hh => ?_
  obtain ⟨rfl, rfl⟩ := hh
  exact ⟨_, I, rfl, fun _ h => h, fun _ h => .inl h, hI, Nat.le_refl _, fun _ _ => rfl, .refl _, .v _ rfl⟩

def srtTab (gs go gc : FuncId) (cf : Itm → Itm → Int) : Tab := ⟨fun f args => if f = gc then cmpRun args else none, fun f args H => if f = gs then sortFRun go cf args H else none, false⟩
theorem srtTab_ok {gs go gc : FuncId} {cf : Itm → Itm → Int} (hnc : isCl P gs = false) (hfc : FnOk P gc) (hc : CmpS P gc) (hf : FnOk P gs) (h1 : SortsF P gs go cf) (h2 : SortsF0 P gs go) : TOk P (srtTab gs go gc cf) := by
  refine ⟨fun f args r h => cmpPu_ok hfc hc f args r h, fun f args H r H' h => ?_⟩
  simp only [srtTab] at h
  split at h
  case isFalse => cases h
  rename_i hfg
  subst hfg
  unfold sortFRun at h
  split at h
  case h_2 => cases h
  rename_i id n tot g
  split at h
  case isFalse => cases h
  rename_i hgg
  subst hgg
  split at h
  case h_2 => cases h
  rename_i l hl
  split at h
  case h_2 => cases h
  rename_i xs hxs
  split at h
  case isFalse => cases h
  rename_i hcc
  obtain ⟨rfl, hlt, hsz⟩ := hcc
  cases h
  have hlx := mapO_itm_inv hxs
  have hxl : xs.length = n := by rw [← hlt, hlx, List.length_map]
  refine ⟨⟨by simp, fun h => by rw [hnc] at h; cases h⟩, hf, ?_⟩
  intro X S M hX hD vals hv
  subst hX
  have hv1 : vals.length = 2 := by rw [← hv.1]; rfl
  match vals, hv1 with
  | [v, fv], _ =>
  have hr : RCell X (.sl id 0 n n) v := hv.2 0 _ v rfl rfl
  have hfv : RCell X (.fn g []) fv := hv.2 1 _ fv rfl rfl
  obtain ⟨vs, rfl, hvs, _⟩ := hfv
  have hvs0 : vs = [] := List.length_eq_zero_iff.1 hvs.symm
  subst hvs0
  obtain ⟨_, hd, e0, he0, _, _, hp⟩ := hr
  rw [hl] at he0
  cases he0
  obtain ⟨ad, cap, rfl, hcap, hne, _⟩ := hp hlt
  have hent := S.ent _ _ hd hl
  have hlen' : (isort cf xs).length = xs.length := List.length_mergeSort _
  have hylen : ((isort cf xs).map cItm).length = l.length := by rw [List.length_map, hlen', hlx, List.length_map]
  by_cases h0 : n = 0
  · subst h0
    have hxe : xs = [] := List.length_eq_zero_iff.1 hxl
    subst hxe
    refine (h2 ad cap X.w).mono fun e w' hh => ?_
    obtain ⟨rfl, rfl⟩ := hh
    refine ⟨_, X, rfl, rfl, .refl S M, ?_, fun id => by rw [hD]; simp, ⟨[], rfl, rfl, fun j p y hp => by simp at hp⟩⟩
    rw [isort, List.mergeSort_nil]
    simp only [List.map_nil] at hlx ⊢
    rw [hlx] at hl
    exact (set_same hl).symm
  · obtain ⟨b, hb, rfl⟩ := hne h0
    rcases hent.2 with ⟨h3, _⟩ | ⟨b', c, ty, fr, g1, g2, g3, g4, g5, g6, g7, g8, g9, g10⟩
    · exact absurd (hlt.symm.trans h3) h0
    rw [hb] at g1
    cases g1
    have hsz1 : (X.σ id).sz = 2 := by
      cases l with
      | nil => exact absurd hlt.symm h0
      | cons e l =>
        have := hent.1 e List.mem_cons_self
        cases xs with
        | nil => simp at hlx
        | cons x xs =>
          rw [List.map_cons] at hlx
          cases hlx
          exact this.symm
    rw [hsz1] at g5 g10
    have hblk := S.blk M id b hd hb
    have hcell : ∀ i j, ∀ hi : i < xs.length, ∀ hj : j < 2, c[i * 2 + j]? = some ((encI xs[i])[j]'(by simpa [encI] using hj)) := by
      intro i j hi hj
      obtain ⟨v, h3, e, x, h4, h5, h6⟩ := g10 i j (by omega) hj
      rw [hlx, List.getElem?_map, List.getElem?_eq_getElem hi] at h4
      cases h4
      rw [h3]
      match j, hj with
      | 0, _ => cases h5; cases h6; rfl
      | 1, _ => cases h5; cases h6; rfl
    have hH : Sort.HoldsK encI 2 X.w b 0 xs.toArray := by
      intro j hj
      have hj : j < xs.length * 2 := by simpa using hj
      have hc1 := hcell (j / 2) (j % 2) (by omega) (by omega)
      have hf1 := flat_get xs (j / 2) (j % 2) (by omega) (by omega)
      rw [show j / 2 * 2 + j % 2 = j by omega] at hc1 hf1
      refine ⟨?_, g4 _ ?_⟩
      · unfold World.cell?
        simp only [g3]
        rw [if_neg (by simp), Nat.zero_add, hc1, hf1]
        rfl
      · have := (Array.getElem?_eq_some_iff.1 hc1).1
        omega
    rw [Nat.zero_mul, ← hxl]
    refine (h1 b 0 cap xs X.w ⟨X.base, g7, S.size, S.tab.mono S.old (Nat.le_refl _)⟩ hH hblk.1 (by omega)).mono fun e w' hh => ?_
    obtain ⟨rfl, m, os, rfl⟩ := hh
    generalize hys : isort cf xs = ys at hlen' hylen
    let F := Sort.flatK encI 2 ys.toArray
    have hFs : F.size = ys.length * 2 := by simp [F]
    let w' := sortWorldK encI 2 X.w b 0 m ys.toArray os
    have hms : (X.w.heap.modify b (Sort.onCells (Sort.putCells _root_.id 0 F))).size = X.w.heap.size := by simp
    have hheap : ∀ k, k < X.w.heap.size → w'.heap[k]? = (X.w.heap.modify b (Sort.onCells (Sort.putCells _root_.id 0 F)))[k]? := by
      intro k hk
      show (X.w.heap.modify b _ ++ os)[k]? = _
      rw [Array.getElem?_append_left (by simpa using hk)]
    have hself : w'.heap[b]? = some (.cells (Sort.putCells _root_.id 0 F c) ty fr) := by
      rw [hheap b hblk.1, Array.getElem?_modify, if_pos rfl, g3]
      rfl
    have hoth : ∀ k, k < X.w.heap.size → k ≠ b → w'.heap[k]? = X.w.heap[k]? := by
      intro k hk hkb
      rw [hheap k hk, Array.getElem?_modify, if_neg (fun e => hkb e.symm)]
    let Y : Cx := { X with H := X.H.set id (.clo (ys.map cItm) false), w := w' }
    have W : Wrote X Y id := ⟨rfl, rfl, fun _ => Iff.rfl, fun _ _ _ => rfl, rfl, fun i hi => set_get hi, by
      show X.w.heap.size ≤ (X.w.heap.modify b _ ++ os).size
      rw [Array.size_append, Array.size_modify]
      exact Nat.le_add_right _ _, fun k hk hkb => hoth k hk (hkb b hb), ⟨_, _, hl, set_self hl, by simp only [Ent.len]; omega, fun _ => rfl, fun l h => by cases h⟩, hd, ⟨⟨rfl, rfl⟩, rfl, Nat.le_add_right _ _⟩, fun k hk => by rw [hb] at hk; cases hk; exact g9 rfl⟩
    have SY : SR Y := W.sr S M (fun e h => by
      have : Y.H[id]? = some (.clo (ys.map cItm) false) := set_self hl
      rw [this] at h
      cases h
      refine ⟨fun e he => ?_, .inr ⟨b, _, ty, fr, hb, g2, hself, fun o ho => ?_, ?_, by rw [hylen]; exact g6, g7, (fun h => by cases h), g9, fun i j hi hj => ?_⟩⟩
      · obtain ⟨y, _, rfl⟩ := List.mem_map.1 he
        show 2 = (X.σ id).sz
        rw [hsz1]
      · have := g4 o (by simpa [Sort.putCells] using ho)
        unfold World.frozen? at this ⊢
        rw [g3] at this
        rw [hself]
        exact this
      · show (Sort.putCells _root_.id 0 F c).size = (X.σ id).cap * (X.σ id).sz
        rw [hsz1, ← g5]
        simp [Sort.putCells]
      · have hj : j < (X.σ id).sz := hj
        rw [hsz1] at hj
        have hi' : i < ys.length := by simpa using hi
        have hic : i * 2 + j < c.size := by rw [g5]; have := g6.2; rw [hylen] at hi; omega
        have hfg := flat_get ys i j hi' hj
        refine ⟨(encI ys[i])[j]'(by simpa [encI] using hj), ?_, cItm ys[i], .v ((encI ys[i])[j]'(by simpa [encI] using hj)), by rw [List.getElem?_map, List.getElem?_eq_getElem hi']; rfl, ?_, ?_⟩
        · show (Sort.putCells _root_.id 0 F c)[i * (X.σ id).sz + j]? = _
          rw [hsz1, Sort.putCells, Array.getElem?_mapIdx, Array.getElem?_eq_getElem hic, Option.map_some, if_pos ⟨Nat.zero_le _, by rw [hFs]; omega⟩]
          show some (_root_.id F[i * 2 + j - 0]!) = _
          rw [Nat.sub_zero, hfg]
          rfl
        · match j, hj with
          | 0, _ => rfl
          | 1, _ => rfl
        · match j, hj with
          | 0, _ => exact .v _ rfl
          | 1, _ => exact .v _ rfl) (fun b' h => .inl h)
    exact ⟨_, Y, rfl, rfl, W.nxt S M SY, rfl, fun id => by rw [show Y.D = X.D from rfl, hD]; simp, ⟨[], rfl, rfl, fun j p y hp => by simp at hp⟩⟩

end Go.Proofs.Vm
end

section
/- Rewriting rules of regions in which reads stand beside writes. -/
namespace Go.Proofs.Vm
open Go

variable {P : Program} {T : Tab} {N : Fx} {H : Hp}

theorem late_pu : (late T).pu = T.pu := rfl
theorem late_S : (late T).S = T.S := rfl
theorem late_cb : (late T).cb = true := rfl
def wpW (P : Program) (T : Tab) (N : Fx) (ops : Array Oper) (fl : List Nat) (i : Nat) (os : List Oper) (hs : List Hp) (rs : List LateR) (K : St → Prop) (s : St) : Prop := ∃ s', runW P T N ops fl i os hs rs s = some s' ∧ K s'
theorem e_regionW {K : Ex → St → Prop} {s : St} {id : Nat} {ops : Array Oper} {d : Bool} (hf : N.fl id ≠ []) : wpV P T N (.region id ops d) K s ↔ wpW P (late T) N ops (N.fl id) 0 ops.toList [] [] (K .normal) s := by
  rw [wpV_iff]
  constructor
  · rintro ⟨n, ex, s', h, hk⟩
    simp only [vcode, runR, if_neg hf] at h
    split at h
    · rename_i s1 h1
      cases h
      exact ⟨_, h1, hk⟩
    · cases h
  · rintro ⟨s', h, hk⟩
    exact ⟨0, .normal, s', by simp only [vcode, runR, if_neg hf, h], hk⟩
section
variable {ops : Array Oper} {fl : List Nat} {i : Nat} {os : List Oper} {hs : List Hp} {rs : List LateR} {K : St → Prop} {s : St} {o : Oper}
theorem w_nil : wpW P T N ops fl i [] hs rs K s ↔ okRs P T N.nest s.H rs ∧ K s := by
  unfold wpW runW
  constructor
  · rintro ⟨s', h, hk⟩
    split at h
    · rename_i hr; cases h; exact ⟨hr, hk⟩
    · cases h
  · rintro ⟨hr, hk⟩
    exact ⟨s, by rw [if_pos hr], hk⟩
theorem w_rd (h1 : i ∉ fl) (h2 : isWr P N o = false) : wpW P T N ops fl i (o :: os) hs rs K s ↔ wpS P T N ops o (wpW P T N ops fl (i + 1) os hs rs K) s := by
  have h2' : ¬ isWr P N o = true := by rw [h2]; decide
  constructor
  · rintro ⟨s', h, hk⟩
    unfold runW at h
    rw [if_neg h1, if_neg h2'] at h
    split at h
    · rename_i s1 hs1; exact ⟨s1, hs1, s', h, hk⟩
    · cases h
  · rintro ⟨s1, hs1, s', h, hk⟩
    refine ⟨s', ?_, hk⟩
    unfold runW
    rw [if_neg h1, if_neg h2', hs1]
    exact h
theorem w_wr (h1 : i ∉ fl) (h2 : isWr P N o = true) : wpW P T N ops fl i (o :: os) hs rs K s ↔ okRs P T N.nest s.H rs ∧ wpS P T N ops o (wpW P T N ops fl (i + 1) os (s.H :: hs) rs K) s := by
  constructor
  · rintro ⟨s', h, hk⟩
    unfold runW at h
    rw [if_neg h1, if_pos h2] at h
    split at h
    case isFalse => cases h
    rename_i hr
    split at h
    · rename_i s1 hs1; exact ⟨hr, s1, hs1, s', h, hk⟩
    · cases h
  · rintro ⟨hr, s1, hs1, s', h, hk⟩
    refine ⟨s', ?_, hk⟩
    unfold runW
    rw [if_neg h1, if_pos h2, if_pos hr, hs1]
    exact h
theorem w_go (h1 : i ∉ fl) : wpW P T N ops fl i (o :: os) hs rs K s ↔ if isWr P N o = true then okRs P T N.nest s.H rs ∧ wpS P T N ops o (wpW P T N ops fl (i + 1) os (s.H :: hs) rs K) s else wpS P T N ops o (wpW P T N ops fl (i + 1) os hs rs K) s := by
  by_cases h : isWr P N o = true
  · rw [if_pos h]; exact w_wr h1 h
  · rw [if_neg h]; exact w_rd h1 (by simpa using h)
theorem putK_iff {N : Fx} {d : Option Tmp} {s : St} {a : AV} {K : St → Prop} : putK N d s.env s.H a K ↔ ∃ s', putV N s d a = some s' ∧ K s' := by
  obtain ⟨e, H⟩ := s
  cases d with
  | none => exact ⟨fun h => ⟨_, rfl, h⟩, fun ⟨s', h, k⟩ => by cases h; exact k⟩
  | some d =>
    constructor
    · rintro ⟨h1, h2⟩
      exact ⟨_, by unfold putV; dsimp only; rw [if_pos h1], h2⟩
    · rintro ⟨s', h, k⟩
      unfold putV at h
      dsimp only at h
      split at h
      · rename_i h1; cases h; exact ⟨h1, k⟩
      · cases h
theorem w_lt {d : Option Tmp} {op : Op} {ty : TypeId} {pos : String} {aft : Array Edge} (h1 : i ∈ fl) (h2 : lateOp ⟨d, op, ty, pos, aft, none⟩ = true) : wpW P T N ops fl i (⟨d, op, ty, pos, aft, none⟩ :: os) hs rs K s ↔
    ∃ a, vrd P T N.nest s.H s.H.length (evo s.env) ⟨d, op, ty, pos, aft, none⟩ = some (a, [], []) ∧ okHs P T N.nest ⟨d, op, ty, pos, aft, none⟩ s.env s.H.length a hs ∧ putK N d s.env s.H a (wpW P T N ops fl (i + 1) os hs ((⟨d, op, ty, pos, aft, none⟩, s.env, s.H.length, a) :: rs) K) := by
  have hw : wantV s.env ops ⟨d, op, ty, pos, aft, none⟩ = some true := by simp [wantV]
  constructor
  · rintro ⟨s', h, hk⟩
    unfold runW at h
    rw [if_pos h1, if_pos h2, hw] at h
    dsimp only at h
    split at h
    case h_2 => cases h
    rename_i a hv
    split at h
    case isFalse => cases h
    rename_i hh
    split at h
    case h_2 => cases h
    rename_i s1 hp
    exact ⟨a, hv, hh, putK_iff.2 ⟨s1, hp, s', h, hk⟩⟩
  · rintro ⟨a, hv, hh, hpk⟩
    obtain ⟨s1, hp, s', h, hk⟩ := putK_iff.1 hpk
    refine ⟨s', ?_, hk⟩
    unfold runW
    rw [if_pos h1, if_pos h2, hw]
    dsimp only
    rw [hv]
    dsimp only
    rw [if_pos hh, hp]
    exact h
theorem w_late {d : Option Tmp} {op : Op} {ty : TypeId} {pos : String} {aft : Array Edge} (h1 : i ∈ fl) : wpW P T N ops fl i (⟨d, op, ty, pos, aft, none⟩ :: os) hs rs K s ↔ if lateOp ⟨d, op, ty, pos, aft, none⟩ = true then
    (∃ a, vrd P T N.nest s.H s.H.length (evo s.env) ⟨d, op, ty, pos, aft, none⟩ = some (a, [], []) ∧ okHs P T N.nest ⟨d, op, ty, pos, aft, none⟩ s.env s.H.length a hs ∧ putK N d s.env s.H a (wpW P T N ops fl (i + 1) os hs ((⟨d, op, ty, pos, aft, none⟩, s.env, s.H.length, a) :: rs) K))
    else wpW P T N ops fl i (⟨d, op, ty, pos, aft, none⟩ :: os) hs rs K s := by
  by_cases h : lateOp ⟨d, op, ty, pos, aft, none⟩ = true
  · rw [if_pos h]; exact w_lt h1 h
  · rw [if_neg h]
end
section
variable {b : Bool} {n : Nat} {ρ : Operand → Option AV} {d : Option Tmp} {ty : TypeId} {pos : String} {aft : Array Edge} {g : Option (Nat × Bool)}
theorem v_load {t : TypeId} {x : Operand} : vrd P T b H n ρ ⟨d, .load t x, ty, pos, aft, g⟩ = on1 (ρ x) (vload P H t) := by unfold on1; rfl
theorem v_fieldAddr {t : TypeId} {x : Operand} {f : Nat} : vrd P T b H n ρ ⟨d, .fieldAddr t x f, ty, pos, aft, g⟩ = on1 (ρ x) (vfieldAddr P H t f) := by unfold on1; rfl
theorem v_indexAddr {t : TypeId} {x y : Operand} : vrd P T b H n ρ ⟨d, .indexAddr t x y, ty, pos, aft, g⟩ = on2 (ρ x) (ρ y) (vindexAddr P H t) := by unfold on2; rfl
theorem v_buildSlice {t : TypeId} {k : Nat} {ps : Array (Nat × Operand)} : vrd P T b H n ρ ⟨d, .buildSlice t k ps, ty, pos, aft, g⟩ = vbuildN P b T.cb H n ρ t k ps.toList := rfl
theorem lt_load {t : TypeId} {x : Operand} : lateOp ⟨d, .load t x, ty, pos, aft, g⟩ = true := rfl
theorem lt_fieldAddr {t : TypeId} {x : Operand} {f : Nat} : lateOp ⟨d, .fieldAddr t x f, ty, pos, aft, g⟩ = true := rfl
theorem lt_indexAddr {t : TypeId} {x y : Operand} : lateOp ⟨d, .indexAddr t x y, ty, pos, aft, g⟩ = true := rfl
theorem lt_buildSlice {t : TypeId} {k : Nat} {ps : Array (Nat × Operand)} : lateOp ⟨d, .buildSlice t k ps, ty, pos, aft, g⟩ = true := rfl
end
theorem vbuildT_yes {nid : Nat} {ρ : Operand → Option AV} {t : TypeId} {len : Nat} {ps : List (Nat × Operand)} : vbuildT P true H nid ρ t len ps = if clParts H ρ ps = true then vbuildC P H ρ t len ps else vbuildSlice P H nid ρ t len ps := by
  unfold vbuildT
  simp
theorem vbuildC_eq {ρ : Operand → Option AV} {t e : TypeId} {len : Nat} {ps : List (Nat × Operand)} {sz b : Nat} {z : List CV} (he : elemOfSlice P t = some e) (hel : elOf P e = some (sz, b, z)) :
    vbuildC P H ρ t len ps = match partsOf ρ ps with
      | some ps => match fzParts H ps with
        | some qs => if len * sz ≤ 16777216 ∧ len * sz ≠ 0 ∧ qs.all (fun p => p.1 < len && p.2.length == sz) = true then
            some (.one (.c (.arr (setAll (List.replicate len z) qs))), [], []) else none
        | none => none
      | none => none := by
  obtain ⟨i, v, h1, h2, h3, h4, h5, h6, h7⟩ := elOf_facts hel
  unfold vbuildC
  simp only [he]
  cases partsOf ρ ps with
  | none => rfl
  | some ps =>
    simp only [h1, h2]
    cases fzParts H ps with
    | none => rfl
    | some qs =>
      simp only [h3, h5, h6, h7, true_and]
theorem qa_eq {a b : AV} : qa a = some (b, [], []) ↔ a = b := by simp [qa]
@[congr] theorem wpW_congr {ops : Array Oper} {fl : List Nat} {i : Nat} {os : List Oper} {hs : List Hp} {rs : List LateR} {K : St → Prop} {s s' : St} (h : s = s') : wpW P T N ops fl i os hs rs K s = wpW P T N ops fl i os hs rs K s' := by rw [h]
attribute [simp] late_pu late_S late_cb e_regionW w_nil w_go w_late v_load v_fieldAddr v_indexAddr v_buildSlice lt_load lt_fieldAddr lt_indexAddr lt_buildSlice vbuildT_yes qa_eq okRs okHs isWr clParts
end Go.Proofs.Vm
end

section
/- Sorting strings in place, from the shelf's contract. -/
namespace Go.Proofs.Vm
open Go Go.Sort

variable {P : Program}

def ssort (l : List ByteArray) : List ByteArray := l.mergeSort fun x y => decide (x.data.toList ≤ y.data.toList)
def strOf1 : List CV → Option ByteArray
  | [.v (.string n)] => some n
  | _ => none
def cStr1 (n : ByteArray) : List CV := [.v (.string n)]
def sortSRun (args : List AV) (H : Hp) : Option (AV × Hp) :=
  match args with
  | [.one (.sl id 0 n tot)] => match H[id]? with
    | some (.clo l false) => match mapO strOf1 l with
      | some xs => if n = tot ∧ l.length = tot ∧ tot < 4611686018427387904 then some (und, H.set id (.clo ((ssort xs).map cStr1) false)) else none
      | none => none
    | _ => none
  | _ => none
def strTab (g : FuncId) : Tab := ⟨fun _ _ => none, fun f args H => if f = g then sortSRun args H else none, false⟩
theorem mapO_strOf1 : ∀ xs : List ByteArray, mapO strOf1 (xs.map cStr1) = some xs
  | [] => rfl
  | x :: xs => by
    rw [List.map_cons]
    simp only [mapO, mapO_strOf1 xs]
    rfl

def SortsStr (P : Program) (g : FuncId) : Prop := ∀ (blk off cap : Nat) (zs : List ByteArray) (w : World), Sort.Holds encStr w blk off (zs.map (·.data.toList)).toArray → blk < w.heap.size → zs.length < 4611686018427387904 →
  Calls P g #[.slice (some ⟨blk, off, none⟩) zs.length cap] w fun e w' => e = .returned (.tuple #[]) ∧ ∃ n os, w' = Sort.grow (Sort.putRow encStr (Sort.ahead w n) blk off ((ssort zs).map (·.data.toList)).toArray) os
def SortsSNone (P : Program) (g : FuncId) : Prop := ∀ (p : Option Addr) (cap : Nat) (w : World), Calls P g #[.slice p 0 cap] w fun e w' => e = .returned (.tuple #[]) ∧ w' = w

theorem mapO_str_inv : ∀ {l : List (List CV)} {xs : List ByteArray}, mapO strOf1 l = some xs → l = xs.map cStr1
  | [], xs, h => by cases h; rfl
  | e :: l, xs, h => by
    simp only [mapO] at h
    split at h
    · rename_i y m h1 h2
      cases h
      rw [List.map_cons, mapO_str_inv h2]
      congr 1
      unfold strOf1 at h1
      split at h1
      · cases h1; rfl
      · cases h1
    · cases h

theorem strTab_ok {g : FuncId} (hnc : isCl P g = false) (hf : FnOk P g) (h1 : SortsStr P g) (h2 : SortsSNone P g) : TOk P (strTab g) := by
  refine ⟨fun f args r h => (by cases h), fun f args H r H' h => ?_⟩
  simp only [strTab] at h
  split at h
  case isFalse => cases h
  rename_i hfg
  subst hfg
  unfold sortSRun at h
  split at h
  case h_2 => cases h
  rename_i id n tot
  split at h
  case h_2 => cases h
  rename_i l hl
  split at h
  case h_2 => cases h
  rename_i xs hxs
  split at h
  case isFalse => cases h
  rename_i hc
  obtain ⟨rfl, hlt, hsz⟩ := hc
  cases h
  have hlx := mapO_str_inv hxs
  have hxl : xs.length = n := by rw [← hlt, hlx, List.length_map]
  refine ⟨⟨by simp, fun h => by rw [hnc] at h; cases h⟩, hf, ?_⟩
  intro X S M hX hD vals hv
  subst hX
  have hv1 : vals.length = 1 := by rw [← hv.1]; rfl
  match vals, hv1 with
  | [v], _ =>
  have hr : RCell X (.sl id 0 n n) v := hv.2 0 _ v rfl rfl
  obtain ⟨_, hd, e0, he0, _, _, hp⟩ := hr
  rw [hl] at he0
  cases he0
  obtain ⟨ad, cap, rfl, hcap, hne, _⟩ := hp hlt
  have hent := S.ent _ _ hd hl
  have hlen' : (ssort xs).length = xs.length := List.length_mergeSort _
  have hylen : ((ssort xs).map cStr1).length = l.length := by rw [List.length_map, hlen', hlx, List.length_map]
  by_cases h0 : n = 0
  · subst h0
    have hxe : xs = [] := List.length_eq_zero_iff.1 hxl
    subst hxe
    refine (h2 ad cap X.w).mono fun e w' hh => ?_
    obtain ⟨rfl, rfl⟩ := hh
    refine ⟨_, X, rfl, rfl, .refl S M, ?_, fun id => by rw [hD]; simp, ⟨[], rfl, rfl, fun j p y hp => by simp at hp⟩⟩
    rw [ssort, List.mergeSort_nil]
    simp only [List.map_nil] at hlx ⊢
    rw [hlx] at hl
    exact (set_same hl).symm
  · obtain ⟨b, hb, rfl⟩ := hne h0
    rcases hent.2 with ⟨h3, _⟩ | ⟨b', c, ty, fr, g1, g2, g3, g4, g5, g6, g7, g8, g9, g10⟩
    · exact absurd (hlt.symm.trans h3) h0
    rw [hb] at g1
    cases g1
    have hsz1 : (X.σ id).sz = 1 := by
      cases l with
      | nil => exact absurd hlt.symm h0
      | cons e l =>
        have := hent.1 e List.mem_cons_self
        cases xs with
        | nil => simp at hlx
        | cons x xs =>
          rw [List.map_cons] at hlx
          cases hlx
          exact this.symm
    rw [hsz1] at g5 g10
    have hblk := S.blk M id b hd hb
    have hcell : ∀ j, ∀ hj : j < xs.length, c[j]? = some (.string xs[j]) := by
      intro j hj
      obtain ⟨v, h3, e, x, h4, h5, h6⟩ := g10 j 0 (by omega) (by omega)
      rw [hlx, List.getElem?_map, List.getElem?_eq_getElem hj] at h4
      cases h4
      cases h5
      cases h6
      rw [← h3, Nat.mul_one, Nat.add_zero]
    have hH : Sort.Holds encStr X.w b 0 (xs.map (·.data.toList)).toArray := by
      intro j hj
      have hj : j < xs.length := by simpa using hj
      refine ⟨?_, g4 _ ?_⟩
      · unfold World.cell?
        simp only [g3]
        rw [if_neg (by simp), Nat.zero_add, hcell j hj]
        simp [hj]
      · have := (Array.getElem?_eq_some_iff.1 (hcell j hj)).1
        omega
    rw [Nat.zero_mul, ← hxl]
    refine (h1 b 0 cap xs X.w hH hblk.1 (by omega)).mono fun e w' hh => ?_
    obtain ⟨rfl, m, os, rfl⟩ := hh
    generalize hys : ssort xs = ys at hlen' hylen
    let w' := Sort.grow (Sort.putRow encStr (Sort.ahead X.w m) b 0 (ys.map (·.data.toList)).toArray) os
    have hms : (X.w.heap.modify b (Sort.onCells (Sort.putCells encStr 0 (ys.map (·.data.toList)).toArray))).size = X.w.heap.size := by simp
    have hheap : ∀ k, k < X.w.heap.size → w'.heap[k]? = (X.w.heap.modify b (Sort.onCells (Sort.putCells encStr 0 (ys.map (·.data.toList)).toArray)))[k]? := by
      intro k hk
      show (X.w.heap.modify b _ ++ os)[k]? = _
      rw [Array.getElem?_append_left (by simpa using hk)]
    have hself : w'.heap[b]? = some (.cells (Sort.putCells encStr 0 (ys.map (·.data.toList)).toArray c) ty fr) := by
      rw [hheap b hblk.1, Array.getElem?_modify, if_pos rfl, g3]
      rfl
    have hoth : ∀ k, k < X.w.heap.size → k ≠ b → w'.heap[k]? = X.w.heap[k]? := by
      intro k hk hkb
      rw [hheap k hk, Array.getElem?_modify, if_neg (fun e => hkb e.symm)]
    let Y : Cx := { X with H := X.H.set id (.clo (ys.map cStr1) false), w := w' }
    have W : Wrote X Y id := ⟨rfl, rfl, fun _ => Iff.rfl, fun _ _ _ => rfl, rfl, fun i hi => set_get hi, by
      show X.w.heap.size ≤ (X.w.heap.modify b _ ++ os).size
      rw [Array.size_append, hms]
      exact Nat.le_add_right _ _, fun k hk hkb => hoth k hk (hkb b hb), ⟨_, _, hl, set_self hl, by simp only [Ent.len]; omega, fun _ => rfl, fun l h => by cases h⟩, hd, ⟨⟨rfl, rfl⟩, rfl, Nat.le_add_right _ _⟩, fun k hk => by rw [hb] at hk; cases hk; exact g9 rfl⟩
    have SY : SR Y := W.sr S M (fun e h => by
      have : Y.H[id]? = some (.clo (ys.map cStr1) false) := set_self hl
      rw [this] at h
      cases h
      refine ⟨fun e he => ?_, .inr ⟨b, _, ty, fr, hb, g2, hself, fun o ho => ?_, ?_, by rw [hylen]; exact g6, g7, (fun h => by cases h), g9, fun i j hi hj => ?_⟩⟩
      · obtain ⟨y, _, rfl⟩ := List.mem_map.1 he
        show 1 = (X.σ id).sz
        rw [hsz1]
      · have := g4 o (by simpa [Sort.putCells] using ho)
        unfold World.frozen? at this ⊢
        rw [g3] at this
        rw [hself]
        exact this
      · show (Sort.putCells encStr 0 (ys.map (·.data.toList)).toArray c).size = (X.σ id).cap * (X.σ id).sz
        rw [hsz1, ← g5]
        simp [Sort.putCells]
      · have hj : j < (X.σ id).sz := hj
        rw [hsz1] at hj
        have hi' : i < ys.length := by simpa using hi
        have hic : i < c.size := by rw [g5]; have := g6.2; rw [hylen] at hi; omega
        refine ⟨.string ys[i], ?_, cStr1 ys[i], .v (.string ys[i]), by rw [List.getElem?_map, List.getElem?_eq_getElem hi']; rfl, by rw [show j = 0 by omega]; rfl, .v _ rfl⟩
        show (Sort.putCells encStr 0 (ys.map (·.data.toList)).toArray c)[i * (X.σ id).sz + j]? = _
        rw [hsz1, show i * 1 + j = i by omega, Sort.putCells, Array.getElem?_mapIdx, Array.getElem?_eq_getElem hic, Option.map_some, if_pos ⟨Nat.zero_le _, by simpa using hi'⟩]
        simp [hi']) (fun b' h => .inl h)
    exact ⟨_, Y, rfl, rfl, W.nxt S M SY, rfl, fun id => by rw [show Y.D = X.D from rfl, hD]; simp, ⟨[], rfl, rfl, fun j p y hp => by simp at hp⟩⟩

end Go.Proofs.Vm
end

section
/- A base that also tells what a clone of nothing is: nothing, in memory of its own. -/
namespace Go.Proofs.Vm
open Go

variable {P : Program}

def cloRun (args : List AV) (H : Hp) : Option (AV × Hp) :=
  match args with
  | [.one (.c (.arr []))] => some (.one (.sl H.length 0 0 0), H ++ [.clo [] false])
  | _ => none
def strCloTab (s : FuncId) (cs : List FuncId) : Tab := ⟨fun _ _ => none, fun f args H => if f = s then sortSRun args H else if f ∈ cs then cloRun args H else none, false⟩
/-- A clone of a slice without elements is one without room, and turns nothing that is there. -/
def CloS (P : Program) (g : FuncId) : Prop := ∀ (a : Option Addr) (c : Nat) (w : World), Tabs w.heap.size w →
  Calls P g #[.slice a 0 c] w fun e w' => ∃ a', e = .returned (.slice a' 0 0) ∧ w.heap.size ≤ w'.heap.size ∧ (∀ b, b < w.heap.size → w'.heap[b]? = w.heap[b]?) ∧ Stl w w'
theorem cloS_of {g : FuncId} (h : ∀ a c, ∃ k H' fz, H'[k]? = some (.clo [] fz) ∧ SCtr P g [.one (.c (.v (.slice a 0 c)))] [] (.one (.sl k 0 0 0)) H') : CloS P g := fun a c w hT => by
  obtain ⟨k, H', fz, hk, hS⟩ := h a c
  let X : Cx := ⟨w.heap.size, w, fun _ => False, [], fun _ => ⟨none, none, 0, 0⟩, fun _ => False, w⟩
  have S : SR X := ⟨fun id e hd => hd.elim, fun i j b hi => hi.elim, Nat.le_refl _, fun _ _ => rfl, fun b hb => hb.elim, .refl w, hT⟩
  have M : Dom X := fun id hd => hd.elim
  refine (hS X S M rfl (fun id => ⟨fun h => h.elim, fun h => by simp at h⟩) [.slice a 0 c] ⟨rfl, fun j x y hx hy => ?_⟩).mono fun e w' hh => ?_
  · match j, hx, hy with
    | 0, hx, hy => cases hx; cases hy; exact .v _ rfl
  · obtain ⟨v, Y, rfl, rfl, N, hH, hD, hr⟩ := hh
    have hb : Y.base = w.heap.size := N.base
    have hw : Y.w0 = w := N.w0
    obtain ⟨_, hd, e0, he0, _, _, hp⟩ := hr
    rw [hH, hk] at he0
    cases he0
    obtain ⟨ad, cap, rfl, _, _, hc⟩ := hp rfl
    obtain ⟨_, hcap⟩ := hc rfl rfl
    have hent := N.sr.ent k _ hd (by rw [hH]; exact hk)
    have h0 : (Y.σ k).cap = 0 := by
      rcases hent.2 with h | ⟨b, c, ty, fr, _, _, _, _, _, h6, _⟩
      · exact h.2.2
      · exact absurd h6.1 (by simp)
    rw [h0] at hcap
    subst hcap
    refine ⟨ad, rfl, ?_, fun b hb' => ?_, ?_⟩
    · rw [← hb]; exact N.sr.size
    · have := N.sr.old b (by rw [hb]; exact hb')
      rw [hw] at this
      exact this
    · have := N.sr.kp
      rw [hw] at this
      exact this
theorem strCloTab_ok {s : FuncId} {cs : List FuncId} (hS : TOk P (strTab s)) (hC : ∀ g ∈ cs, FnOk P g ∧ CloS P g) : TOk P (strCloTab s cs) := by
  refine ⟨fun f args r h => (by cases h), fun f args H r H' h => ?_⟩
  simp only [strCloTab] at h
  split at h
  · rename_i hfs
    refine hS.2 f args H r H' ?_
    show (if f = s then sortSRun args H else none) = _
    rw [if_pos hfs]; exact h
  · split at h
    case isFalse => cases h
    rename_i hm
    unfold cloRun at h
    split at h
    case h_2 => cases h
    cases h
    obtain ⟨hf, hc⟩ := hC f hm
    refine ⟨⟨by simp, fun _ => List.prefix_append _ _⟩, hf, ?_⟩
    intro X S M hX hD vals hv
    have hv1 : vals.length = 1 := by rw [← hv.1]; rfl
    match vals, hv1 with
    | [v], _ =>
    have hr : RCell X (.c (.arr [])) v := hv.2 0 _ v rfl rfl
    cases hr with
    | arr l a c sz f hc' hs ha hr =>
    subst hX
    refine (hc a c X.w S.tabs).mono fun e w' hh => ?_
    obtain ⟨a', rfl, h1, h2, h3⟩ := hh
    have hK : ∀ (id : Nat) e, X.H[id]? = some e → (X.H ++ [Ent.clo [] false])[id]? = some e := fun id e he => by
      rw [List.getElem?_append_left (List.getElem?_eq_some_iff.1 he).1]; exact he
    have N1 := longer_nxt S M hK
    have hn : ¬ (longer X (X.H ++ [Ent.clo [] false])).D X.H.length := fun h => by
      have := (hD _).1 h
      omega
    obtain ⟨Y, rfl, hY, hs, _⟩ := SR.nil' N1.sr N1.dom X.H.length hn (f := false) (by show (X.H ++ [Ent.clo [] false])[X.H.length]? = _; simp) a' w' h1 h2 h3
    have hYH : Y.H = X.H ++ [Ent.clo [] false] := hY.ext.H
    have hYD : ∀ id, Y.D id ↔ id < (X.H ++ [Ent.clo [] false]).length := fun id => by
      rw [hY.D]
      show X.D id ∨ _ ↔ _
      rw [hD, List.length_append, List.length_singleton]
      omega
    refine ⟨_, Y, rfl, rfl, N1.trans (hY.nxt N1.sr), hYH, hYD, rfl, ?_, .clo [] false, ?_, Nat.le_refl _, Nat.zero_le _, fun _ => ⟨a', 0, rfl, Nat.le_refl _, fun h => absurd rfl h, fun _ _ => ⟨?_, ?_⟩⟩⟩
    · rw [hYD]; simp
    · rw [hYH]; simp
    · rw [hs]
    · rw [hs]
end Go.Proofs.Vm
end

section
/- A base that tells what a clone of nothing is, for these functions alone. -/
namespace Go.Proofs.Vm
open Go

variable {P : Program}

def cloTab (cs : List FuncId) : Tab := ⟨fun _ _ => none, fun f args H => if f ∈ cs then cloRun args H else none, false⟩
theorem cloTab_ok {cs : List FuncId} (hC : ∀ g ∈ cs, FnOk P g ∧ CloS P g) : TOk P (cloTab cs) := by
  refine ⟨fun f args r h => (by cases h), fun f args H r H' h => ?_⟩
  simp only [cloTab] at h
  split at h
  case isFalse => cases h
  rename_i hm
  unfold cloRun at h
  split at h
  case h_2 => cases h
  cases h
  obtain ⟨hf, hc⟩ := hC f hm
  refine ⟨⟨by simp, fun _ => List.prefix_append _ _⟩, hf, ?_⟩
  intro X S M hX hD vals hv
  have hv1 : vals.length = 1 := by rw [← hv.1]; rfl
  match vals, hv1 with
  | [v], _ =>
  have hr : RCell X (.c (.arr [])) v := hv.2 0 _ v rfl rfl
  cases hr with
  | arr l a c sz f hc' hs ha hr =>
  subst hX
  refine (hc a c X.w S.tabs).mono fun e w' hh => ?_
  obtain ⟨a', rfl, h1, h2, h3⟩ := hh
  have hK : ∀ (id : Nat) e, X.H[id]? = some e → (X.H ++ [Ent.clo [] false])[id]? = some e := fun id e he => by
    rw [List.getElem?_append_left (List.getElem?_eq_some_iff.1 he).1]; exact he
  have N1 := longer_nxt S M hK
  have hn : ¬ (longer X (X.H ++ [Ent.clo [] false])).D X.H.length := fun h => by
    have := (hD _).1 h
    omega
  obtain ⟨Y, rfl, hY, hs, _⟩ := SR.nil' N1.sr N1.dom X.H.length hn (f := false) (by show (X.H ++ [Ent.clo [] false])[X.H.length]? = _; simp) a' w' h1 h2 h3
  have hYH : Y.H = X.H ++ [Ent.clo [] false] := hY.ext.H
  have hYD : ∀ id, Y.D id ↔ id < (X.H ++ [Ent.clo [] false]).length := fun id => by
    rw [hY.D]
    show X.D id ∨ _ ↔ _
    rw [hD, List.length_append, List.length_singleton]
    omega
  refine ⟨_, Y, rfl, rfl, N1.trans (hY.nxt N1.sr), hYH, hYD, rfl, ?_, .clo [] false, ?_, Nat.le_refl _, Nat.zero_le _, fun _ => ⟨a', 0, rfl, Nat.le_refl _, fun h => absurd rfl h, fun _ _ => ⟨?_, ?_⟩⟩⟩
  · rw [hYD]; simp
  · rw [hYH]; simp
  · rw [hs]
  · rw [hs]
end Go.Proofs.Vm
end

section
/- Each function's run over the program's whole table. -/
namespace Go.Proofs.YtngpmpmhpggpgaaDoorF
open Go Go.Proofs.Vm
def shF (g : FuncId) : Bool := g == 19 || g == 20 || g == 26 || g == 58 || g == 29 || g == 30 || g == 32 || g == 27 || g == 42 || g == 43 || g == 44 || g == 61 || g == 62 || g == 40 || g == 45 || g == 46
def neF (g : FuncId) : Bool := g == 40
def lt15 : Nat → List Nat := fun r => if r = 12 then [0, 1, 3, 7] else []
@[simp] theorem lt15_12 : lt15 12 = [0, 1, 3, 7] := by decide
@[simp] theorem lt15_no {r : Nat} (h : ¬ r = 12) : lt15 r = [] := by unfold lt15; simp [h]
def ltF (f : FuncId) : Nat → List Nat := if f = 15 then lt15 else noLate
def cfg : Cfg := ⟨shF, neF, orTab (tzTab 57) (orTab (sortTab 45) (orTab (cloTab [20]) (itmTab 46 47 67 20 ordI))), ltF⟩
noncomputable def TV : Tab := TT Tryd.prog cfg
@[simp] theorem TV_cb : TV.cb = false := rfl
@[simp] theorem sh45 : shF 45 = true := by decide
@[simp] theorem sh46 : shF 46 = true := by decide
@[simp] theorem sh3 : shF 3 = false := by decide
theorem run3 {args : List CA} {r : CA} (hl : args.length ≤ 26) (h : wpV Tryd.prog TV ⟨26, shF, false, noLate⟩ (Tryd.f3.body.getD .skip) (endK Tryd.prog Tryd.f3.results.toList r) ⟨env0 args, []⟩) : TV.pu 3 args = some r := TT_go (N := ⟨26, shF, false, noLate⟩) Tryd.func3 (by kernel_rfl) ok3 (by kernel_rfl) (by kernel_rfl) (fun _ => rfl) hl h -- rillmeter/rillmeterlaw18.UnivLogs
@[simp] theorem sh4 : shF 4 = false := by decide
theorem run4 {args : List CA} {r : CA} (hl : args.length ≤ 50) (h : wpV Tryd.prog TV ⟨50, shF, false, noLate⟩ (Tryd.f4.body.getD .skip) (endK Tryd.prog Tryd.f4.results.toList r) ⟨env0 args, []⟩) : TV.pu 4 args = some r := TT_go (N := ⟨50, shF, false, noLate⟩) Tryd.func4 (by kernel_rfl) ok4 (by kernel_rfl) (by kernel_rfl) (fun _ => rfl) hl h -- rillmeter/rillmeterlaw18.UnivRises
@[simp] theorem sh5 : shF 5 = false := by decide
theorem run5 {args : List CA} {r : CA} (hl : args.length ≤ 80) (h : wpV Tryd.prog TV ⟨80, shF, false, noLate⟩ (Tryd.f5.body.getD .skip) (endK Tryd.prog Tryd.f5.results.toList r) ⟨env0 args, []⟩) : TV.pu 5 args = some r := TT_go (N := ⟨80, shF, false, noLate⟩) Tryd.func5 (by kernel_rfl) ok5 (by kernel_rfl) (by kernel_rfl) (fun _ => rfl) hl h -- rillmeter/rillmeterlaw18.UnivSeen
@[simp] theorem sh6 : shF 6 = false := by decide
theorem run6 {args : List CA} {r : CA} (hl : args.length ≤ 52) (h : wpV Tryd.prog TV ⟨52, shF, false, noLate⟩ (Tryd.f6.body.getD .skip) (endK Tryd.prog Tryd.f6.results.toList r) ⟨env0 args, []⟩) : TV.pu 6 args = some r := TT_go (N := ⟨52, shF, false, noLate⟩) Tryd.func6 (by kernel_rfl) ok6 (by kernel_rfl) (by kernel_rfl) (fun _ => rfl) hl h -- rillmeter/rillmeterref18.Log
@[simp] theorem sh7 : shF 7 = false := by decide
theorem run7 {args : List CA} {r : CA} (hl : args.length ≤ 41) (h : wpV Tryd.prog TV ⟨41, shF, false, noLate⟩ (Tryd.f7.body.getD .skip) (endK Tryd.prog Tryd.f7.results.toList r) ⟨env0 args, []⟩) : TV.pu 7 args = some r := TT_go (N := ⟨41, shF, false, noLate⟩) Tryd.func7 (by kernel_rfl) ok7 (by kernel_rfl) (by kernel_rfl) (fun _ => rfl) hl h -- rillmeter/univ.Log
@[simp] theorem sh8 : shF 8 = false := by decide
theorem run8 {args : List CA} {r : CA} (hl : args.length ≤ 27) (h : wpV Tryd.prog TV ⟨27, shF, false, noLate⟩ (Tryd.f8.body.getD .skip) (endK Tryd.prog Tryd.f8.results.toList r) ⟨env0 args, []⟩) : TV.pu 8 args = some r := TT_go (N := ⟨27, shF, false, noLate⟩) Tryd.func8 (by kernel_rfl) ok8 (by kernel_rfl) (by kernel_rfl) (fun _ => rfl) hl h -- rillmeter/univ.Count
@[simp] theorem sh9 : shF 9 = false := by decide
theorem run9 {args : List CA} {r : CA} (hl : args.length ≤ 31) (h : wpV Tryd.prog TV ⟨31, shF, false, noLate⟩ (Tryd.f9.body.getD .skip) (endK Tryd.prog Tryd.f9.results.toList r) ⟨env0 args, []⟩) : TV.pu 9 args = some r := TT_go (N := ⟨31, shF, false, noLate⟩) Tryd.func9 (by kernel_rfl) ok9 (by kernel_rfl) (by kernel_rfl) (fun _ => rfl) hl h -- rillmeter/rillmeterref18.Count
@[simp] theorem sh10 : shF 10 = false := by decide
theorem run10 {args : List CA} {r : CA} (hl : args.length ≤ 42) (h : wpV Tryd.prog TV ⟨42, shF, false, noLate⟩ (Tryd.f10.body.getD .skip) (endK Tryd.prog Tryd.f10.results.toList r) ⟨env0 args, []⟩) : TV.pu 10 args = some r := TT_go (N := ⟨42, shF, false, noLate⟩) Tryd.func10 (by kernel_rfl) ok10 (by kernel_rfl) (by kernel_rfl) (fun _ => rfl) hl h -- rillmeter/rillmeterlaw18.awake
@[simp] theorem sh11 : shF 11 = false := by decide
theorem run11 {args : List CA} {r : CA} (hl : args.length ≤ 82) (h : wpV Tryd.prog TV ⟨82, shF, false, noLate⟩ (Tryd.f11.body.getD .skip) (endK Tryd.prog Tryd.f11.results.toList r) ⟨env0 args, []⟩) : TV.pu 11 args = some r := TT_go (N := ⟨82, shF, false, noLate⟩) Tryd.func11 (by kernel_rfl) ok11 (by kernel_rfl) (by kernel_rfl) (fun _ => rfl) hl h -- rillmeter/rillmeterlaw18.fed
@[simp] theorem sh12 : shF 12 = false := by decide
theorem run12 {args : List CA} {r : CA} (hl : args.length ≤ 16) (h : wpV Tryd.prog TV ⟨16, shF, false, noLate⟩ (Tryd.f12.body.getD .skip) (endK Tryd.prog Tryd.f12.results.toList r) ⟨env0 args, []⟩) : TV.pu 12 args = some r := TT_go (N := ⟨16, shF, false, noLate⟩) Tryd.func12 (by kernel_rfl) ok12 (by kernel_rfl) (by kernel_rfl) (fun _ => rfl) hl h -- rillmeter/univ.List
@[simp] theorem sh13 : shF 13 = false := by decide
theorem run13 {args : List CA} {r : CA} (hl : args.length ≤ 8) (h : wpV Tryd.prog TV ⟨8, shF, false, noLate⟩ (Tryd.f13.body.getD .skip) (endK Tryd.prog Tryd.f13.results.toList r) ⟨env0 args, []⟩) : TV.pu 13 args = some r := TT_go (N := ⟨8, shF, false, noLate⟩) Tryd.func13 (by kernel_rfl) ok13 (by kernel_rfl) (by kernel_rfl) (fun _ => rfl) hl h -- math/bits.Len
@[simp] theorem sh14 : shF 14 = false := by decide
theorem run14 {args : List CA} {r : CA} (hl : args.length ≤ 61) (h : wpV Tryd.prog TV ⟨61, shF, false, noLate⟩ (Tryd.f14.body.getD .skip) (endK Tryd.prog Tryd.f14.results.toList r) ⟨env0 args, []⟩) : TV.pu 14 args = some r := TT_go (N := ⟨61, shF, false, noLate⟩) Tryd.func14 (by kernel_rfl) ok14 (by kernel_rfl) (by kernel_rfl) (fun _ => rfl) hl h -- rillmeter/univ.New
@[simp] theorem sh15 : shF 15 = false := by decide
theorem run15 {args : List CA} {r : CA} (hl : args.length ≤ 65) (h : wpV Tryd.prog TV ⟨65, shF, false, lt15⟩ (Tryd.f15.body.getD .skip) (endK Tryd.prog Tryd.f15.results.toList r) ⟨env0 args, []⟩) : TV.pu 15 args = some r := TT_go (N := ⟨65, shF, false, lt15⟩) Tryd.func15 (by kernel_rfl) ok15 (by kernel_rfl) (by kernel_rfl) (fun _ => rfl) hl h -- rillmeter/univ.Add
@[simp] theorem sh16 : shF 16 = false := by decide
theorem run16 {args : List CA} {r : CA} (hl : args.length ≤ 15) (h : wpV Tryd.prog TV ⟨15, shF, false, noLate⟩ (Tryd.f16.body.getD .skip) (endK Tryd.prog Tryd.f16.results.toList r) ⟨env0 args, []⟩) : TV.pu 16 args = some r := TT_go (N := ⟨15, shF, false, noLate⟩) Tryd.func16 (by kernel_rfl) ok16 (by kernel_rfl) (by kernel_rfl) (fun _ => rfl) hl h -- rillmeter/univ.Get
@[simp] theorem sh17 : shF 17 = false := by decide
theorem run17 {args : List CA} {r : CA} (hl : args.length ≤ 22) (h : wpV Tryd.prog TV ⟨22, shF, false, noLate⟩ (Tryd.f17.body.getD .skip) (endK Tryd.prog Tryd.f17.results.toList r) ⟨env0 args, []⟩) : TV.pu 17 args = some r := TT_go (N := ⟨22, shF, false, noLate⟩) Tryd.func17 (by kernel_rfl) ok17 (by kernel_rfl) (by kernel_rfl) (fun _ => rfl) hl h -- rillmeter/rillmeterref10.Short
@[simp] theorem sh18 : shF 18 = false := by decide
theorem run18 {args : List CA} {r : CA} (hl : args.length ≤ 92) (h : wpV Tryd.prog TV ⟨92, shF, false, noLate⟩ (Tryd.f18.body.getD .skip) (endK Tryd.prog Tryd.f18.results.toList r) ⟨env0 args, []⟩) : TV.pu 18 args = some r := TT_go (N := ⟨92, shF, false, noLate⟩) Tryd.func18 (by kernel_rfl) ok18 (by kernel_rfl) (by kernel_rfl) (fun _ => rfl) hl h -- rillmeter/univ.Right
@[simp] theorem sh19 : shF 19 = true := by decide
@[simp] theorem cl19 : isCl Tryd.prog 19 = false := by kernel_rfl
theorem runX19 {args : List AV} {H : Hp} {Q : AV → Hp → Prop} (hl : args.length ≤ 42) (hQ : ∀ a K, Q a K → H.length ≤ K.length) (h : wpV Tryd.prog TV ⟨42, shF, false, noLate⟩ (Tryd.f19.body.getD .skip) (endX Tryd.prog Tryd.f19.results.toList Q) ⟨envS args, H⟩) : ∃ a K, TV.S 19 args H = some (a, K) ∧ Q a K := TT_goX (N := ⟨42, shF, false, noLate⟩) Tryd.func19 (by kernel_rfl) ok19 (by kernel_rfl) (by kernel_rfl) rfl hl (by kernel_rfl) hQ h -- slices.DeleteFunc[[]rillmeter/heavy.Item,rillmeter/heavy.Item]
theorem run19 {args : List AV} {r : AV} {H H' : Hp} (hl : args.length ≤ 42) (hH : Gr Tryd.prog 19 H H') (h : wpV Tryd.prog TV ⟨42, shF, false, noLate⟩ (Tryd.f19.body.getD .skip) (endS Tryd.prog Tryd.f19.results.toList r H') ⟨envS args, H⟩) : TV.S 19 args H = some (r, H') := TT_goS (N := ⟨42, shF, false, noLate⟩) Tryd.func19 (by kernel_rfl) ok19 (by kernel_rfl) (by kernel_rfl) rfl hl hH h -- slices.DeleteFunc[[]rillmeter/heavy.Item,rillmeter/heavy.Item]
@[simp] theorem sh20 : shF 20 = true := by decide
@[simp] theorem cl20 : isCl Tryd.prog 20 = true := by kernel_rfl
theorem run20 {args : List AV} {r : AV} {H H' : Hp} (hb : cfg.base.S 20 args H = none) (hl : args.length ≤ 8) (hH : Gr Tryd.prog 20 H H') (h : wpV Tryd.prog TV ⟨8, shF, false, noLate⟩ (Tryd.f20.body.getD .skip) (endS Tryd.prog Tryd.f20.results.toList r H') ⟨envS args, H⟩) : TV.S 20 args H = some (r, H') := TT_goS (N := ⟨8, shF, false, noLate⟩) Tryd.func20 (by kernel_rfl) ok20 (by kernel_rfl) (by kernel_rfl) hb hl hH h -- slices.Clone[[]rillmeter/heavy.Item,rillmeter/heavy.Item]
@[simp] theorem sh21 : shF 21 = false := by decide
theorem run21 {args : List CA} {r : CA} (hl : args.length ≤ 8) (h : wpV Tryd.prog TV ⟨8, shF, false, noLate⟩ (Tryd.f21.body.getD .skip) (endK Tryd.prog Tryd.f21.results.toList r) ⟨env0 args, []⟩) : TV.pu 21 args = some r := TT_go (N := ⟨8, shF, false, noLate⟩) Tryd.func21 (by kernel_rfl) ok21 (by kernel_rfl) (by kernel_rfl) (fun _ => rfl) hl h -- rillmeter/univ.List$1
@[simp] theorem sh22 : shF 22 = false := by decide
theorem run22 {args : List CA} {r : CA} (hl : args.length ≤ 19) (h : wpV Tryd.prog TV ⟨19, shF, false, noLate⟩ (Tryd.f22.body.getD .skip) (endK Tryd.prog Tryd.f22.results.toList r) ⟨env0 args, []⟩) : TV.pu 22 args = some r := TT_go (N := ⟨19, shF, false, noLate⟩) Tryd.func22 (by kernel_rfl) ok22 (by kernel_rfl) (by kernel_rfl) (fun _ => rfl) hl h -- math/bits.Len32
@[simp] theorem sh23 : shF 23 = false := by decide
theorem run23 {args : List CA} {r : CA} (hl : args.length ≤ 25) (h : wpV Tryd.prog TV ⟨25, shF, false, noLate⟩ (Tryd.f23.body.getD .skip) (endK Tryd.prog Tryd.f23.results.toList r) ⟨env0 args, []⟩) : TV.pu 23 args = some r := TT_go (N := ⟨25, shF, false, noLate⟩) Tryd.func23 (by kernel_rfl) ok23 (by kernel_rfl) (by kernel_rfl) (fun _ => rfl) hl h -- math/bits.Len64
@[simp] theorem sh24 : shF 24 = false := by decide
theorem run24 {args : List CA} {r : CA} (hl : args.length ≤ 43) (h : wpV Tryd.prog TV ⟨43, shF, false, noLate⟩ (Tryd.f24.body.getD .skip) (endK Tryd.prog Tryd.f24.results.toList r) ⟨env0 args, []⟩) : TV.pu 24 args = some r := TT_go (N := ⟨43, shF, false, noLate⟩) Tryd.func24 (by kernel_rfl) ok24 (by kernel_rfl) (by kernel_rfl) (fun _ => rfl) hl h -- rillmeter/signed.New
@[simp] theorem sh25 : shF 25 = false := by decide
theorem run25 {args : List CA} {r : CA} (hl : args.length ≤ 17) (h : wpV Tryd.prog TV ⟨17, shF, false, noLate⟩ (Tryd.f25.body.getD .skip) (endK Tryd.prog Tryd.f25.results.toList r) ⟨env0 args, []⟩) : TV.pu 25 args = some r := TT_go (N := ⟨17, shF, false, noLate⟩) Tryd.func25 (by kernel_rfl) ok25 (by kernel_rfl) (by kernel_rfl) (fun _ => rfl) hl h -- rillmeter/hash.Row
@[simp] theorem sh26 : shF 26 = true := by decide
@[simp] theorem cl26 : isCl Tryd.prog 26 = true := by kernel_rfl
theorem run26 {args : List AV} {r : AV} {H H' : Hp} (hl : args.length ≤ 8) (hH : Gr Tryd.prog 26 H H') (h : wpV Tryd.prog TV ⟨8, shF, false, noLate⟩ (Tryd.f26.body.getD .skip) (endS Tryd.prog Tryd.f26.results.toList r H') ⟨envS args, H⟩) : TV.S 26 args H = some (r, H') := TT_goS (N := ⟨8, shF, false, noLate⟩) Tryd.func26 (by kernel_rfl) ok26 (by kernel_rfl) (by kernel_rfl) rfl hl hH h -- slices.Clone[[]rillmeter/univ.Level,rillmeter/univ.Level]
@[simp] theorem sh27 : shF 27 = true := by decide
@[simp] theorem cl27 : isCl Tryd.prog 27 = false := by kernel_rfl
theorem runX27 {args : List AV} {H : Hp} {Q : AV → Hp → Prop} (hl : args.length ≤ 14) (hQ : ∀ a K, Q a K → H.length ≤ K.length) (h : wpV Tryd.prog TV ⟨14, shF, false, noLate⟩ (Tryd.f27.body.getD .skip) (endX Tryd.prog Tryd.f27.results.toList Q) ⟨envS args, H⟩) : ∃ a K, TV.S 27 args H = some (a, K) ∧ Q a K := TT_goX (N := ⟨14, shF, false, noLate⟩) Tryd.func27 (by kernel_rfl) ok27 (by kernel_rfl) (by kernel_rfl) rfl hl (by kernel_rfl) hQ h -- rillmeter/univ.level
theorem run27 {args : List AV} {r : AV} {H H' : Hp} (hl : args.length ≤ 14) (hH : Gr Tryd.prog 27 H H') (h : wpV Tryd.prog TV ⟨14, shF, false, noLate⟩ (Tryd.f27.body.getD .skip) (endS Tryd.prog Tryd.f27.results.toList r H') ⟨envS args, H⟩) : TV.S 27 args H = some (r, H') := TT_goS (N := ⟨14, shF, false, noLate⟩) Tryd.func27 (by kernel_rfl) ok27 (by kernel_rfl) (by kernel_rfl) rfl hl hH h -- rillmeter/univ.level
@[simp] theorem sh28 : shF 28 = false := by decide
theorem run28 {args : List CA} {r : CA} (hl : args.length ≤ 56) (h : wpV Tryd.prog TV ⟨56, shF, false, noLate⟩ (Tryd.f28.body.getD .skip) (endK Tryd.prog Tryd.f28.results.toList r) ⟨env0 args, []⟩) : TV.pu 28 args = some r := TT_go (N := ⟨56, shF, false, noLate⟩) Tryd.func28 (by kernel_rfl) ok28 (by kernel_rfl) (by kernel_rfl) (fun _ => rfl) hl h -- rillmeter/signed.Add
@[simp] theorem sh29 : shF 29 = true := by decide
@[simp] theorem cl29 : isCl Tryd.prog 29 = false := by kernel_rfl
theorem runX29 {args : List AV} {H : Hp} {Q : AV → Hp → Prop} (hl : args.length ≤ 24) (hQ : ∀ a K, Q a K → H.length ≤ K.length) (h : wpV Tryd.prog TV ⟨24, shF, false, noLate⟩ (Tryd.f29.body.getD .skip) (endX Tryd.prog Tryd.f29.results.toList Q) ⟨envS args, H⟩) : ∃ a K, TV.S 29 args H = some (a, K) ∧ Q a K := TT_goX (N := ⟨24, shF, false, noLate⟩) Tryd.func29 (by kernel_rfl) ok29 (by kernel_rfl) (by kernel_rfl) rfl hl (by kernel_rfl) hQ h -- rillmeter/heavy.Of
theorem run29 {args : List AV} {r : AV} {H H' : Hp} (hl : args.length ≤ 24) (hH : Gr Tryd.prog 29 H H') (h : wpV Tryd.prog TV ⟨24, shF, false, noLate⟩ (Tryd.f29.body.getD .skip) (endS Tryd.prog Tryd.f29.results.toList r H') ⟨envS args, H⟩) : TV.S 29 args H = some (r, H') := TT_goS (N := ⟨24, shF, false, noLate⟩) Tryd.func29 (by kernel_rfl) ok29 (by kernel_rfl) (by kernel_rfl) rfl hl hH h -- rillmeter/heavy.Of
@[simp] theorem sh30 : shF 30 = true := by decide
@[simp] theorem cl30 : isCl Tryd.prog 30 = false := by kernel_rfl
theorem runX30 {args : List AV} {H : Hp} {Q : AV → Hp → Prop} (hl : args.length ≤ 103) (hQ : ∀ a K, Q a K → H.length ≤ K.length) (h : wpV Tryd.prog TV ⟨103, shF, false, noLate⟩ (Tryd.f30.body.getD .skip) (endX Tryd.prog Tryd.f30.results.toList Q) ⟨envS args, H⟩) : ∃ a K, TV.S 30 args H = some (a, K) ∧ Q a K := TT_goX (N := ⟨103, shF, false, noLate⟩) Tryd.func30 (by kernel_rfl) ok30 (by kernel_rfl) (by kernel_rfl) rfl hl (by kernel_rfl) hQ h -- (*rillmeter/heavy.Heap).Offer
theorem run30 {args : List AV} {r : AV} {H H' : Hp} (hl : args.length ≤ 103) (hH : Gr Tryd.prog 30 H H') (h : wpV Tryd.prog TV ⟨103, shF, false, noLate⟩ (Tryd.f30.body.getD .skip) (endS Tryd.prog Tryd.f30.results.toList r H') ⟨envS args, H⟩) : TV.S 30 args H = some (r, H') := TT_goS (N := ⟨103, shF, false, noLate⟩) Tryd.func30 (by kernel_rfl) ok30 (by kernel_rfl) (by kernel_rfl) rfl hl hH h -- (*rillmeter/heavy.Heap).Offer
@[simp] theorem sh31 : shF 31 = false := by decide
theorem run31 {args : List CA} {r : CA} (hl : args.length ≤ 46) (h : wpV Tryd.prog TV ⟨46, shF, false, noLate⟩ (Tryd.f31.body.getD .skip) (endK Tryd.prog Tryd.f31.results.toList r) ⟨env0 args, []⟩) : TV.pu 31 args = some r := TT_go (N := ⟨46, shF, false, noLate⟩) Tryd.func31 (by kernel_rfl) ok31 (by kernel_rfl) (by kernel_rfl) (fun _ => rfl) hl h -- rillmeter/signed.Get
@[simp] theorem sh32 : shF 32 = true := by decide
@[simp] theorem cl32 : isCl Tryd.prog 32 = false := by kernel_rfl
theorem runX32 {args : List AV} {H : Hp} {Q : AV → Hp → Prop} (hl : args.length ≤ 14) (hQ : ∀ a K, Q a K → H.length ≤ K.length) (h : wpV Tryd.prog TV ⟨14, shF, false, noLate⟩ (Tryd.f32.body.getD .skip) (endX Tryd.prog Tryd.f32.results.toList Q) ⟨envS args, H⟩) : ∃ a K, TV.S 32 args H = some (a, K) ∧ Q a K := TT_goX (N := ⟨14, shF, false, noLate⟩) Tryd.func32 (by kernel_rfl) ok32 (by kernel_rfl) (by kernel_rfl) rfl hl (by kernel_rfl) hQ h -- (*rillmeter/heavy.Heap).List
theorem run32 {args : List AV} {r : AV} {H H' : Hp} (hl : args.length ≤ 14) (hH : Gr Tryd.prog 32 H H') (h : wpV Tryd.prog TV ⟨14, shF, false, noLate⟩ (Tryd.f32.body.getD .skip) (endS Tryd.prog Tryd.f32.results.toList r H') ⟨envS args, H⟩) : TV.S 32 args H = some (r, H') := TT_goS (N := ⟨14, shF, false, noLate⟩) Tryd.func32 (by kernel_rfl) ok32 (by kernel_rfl) (by kernel_rfl) rfl hl hH h -- (*rillmeter/heavy.Heap).List
@[simp] theorem sh33 : shF 33 = false := by decide
theorem run33 {args : List CA} {r : CA} (hl : args.length ≤ 19) (h : wpV Tryd.prog TV ⟨19, shF, false, noLate⟩ (Tryd.f33.body.getD .skip) (endK Tryd.prog Tryd.f33.results.toList r) ⟨env0 args, []⟩) : TV.pu 33 args = some r := TT_go (N := ⟨19, shF, false, noLate⟩) Tryd.func33 (by kernel_rfl) ok33 (by kernel_rfl) (by kernel_rfl) (fun _ => rfl) hl h -- rillmeter/signed.Right
@[simp] theorem sh34 : shF 34 = false := by decide
theorem run34 {args : List CA} {r : CA} (hl : args.length ≤ 32) (h : wpV Tryd.prog TV ⟨32, shF, false, noLate⟩ (Tryd.f34.body.getD .skip) (endK Tryd.prog Tryd.f34.results.toList r) ⟨env0 args, []⟩) : TV.pu 34 args = some r := TT_go (N := ⟨32, shF, false, noLate⟩) Tryd.func34 (by kernel_rfl) ok34 (by kernel_rfl) (by kernel_rfl) (fun _ => rfl) hl h -- rillmeter/univ.top
@[simp] theorem sh35 : shF 35 = false := by decide
theorem run35 {args : List CA} {r : CA} (hl : args.length ≤ 19) (h : wpV Tryd.prog TV ⟨19, shF, false, noLate⟩ (Tryd.f35.body.getD .skip) (endK Tryd.prog Tryd.f35.results.toList r) ⟨env0 args, []⟩) : TV.pu 35 args = some r := TT_go (N := ⟨19, shF, false, noLate⟩) Tryd.func35 (by kernel_rfl) ok35 (by kernel_rfl) (by kernel_rfl) (fun _ => rfl) hl h -- slices.IndexFunc[[]rillmeter/heavy.Item,rillmeter/heavy.Item]
@[simp] theorem sh36 : shF 36 = false := by decide
theorem run36 {args : List CA} {r : CA} (hl : args.length ≤ 11) (h : wpV Tryd.prog TV ⟨11, shF, false, noLate⟩ (Tryd.f36.body.getD .skip) (endK Tryd.prog Tryd.f36.results.toList r) ⟨env0 args, []⟩) : TV.pu 36 args = some r := TT_go (N := ⟨11, shF, false, noLate⟩) Tryd.func36 (by kernel_rfl) ok36 (by kernel_rfl) (by kernel_rfl) (fun _ => rfl) hl h -- rillmeter/field.Add
@[simp] theorem sh37 : shF 37 = false := by decide
theorem run37 {args : List CA} {r : CA} (hl : args.length ≤ 24) (h : wpV Tryd.prog TV ⟨24, shF, false, noLate⟩ (Tryd.f37.body.getD .skip) (endK Tryd.prog Tryd.f37.results.toList r) ⟨env0 args, []⟩) : TV.pu 37 args = some r := TT_go (N := ⟨24, shF, false, noLate⟩) Tryd.func37 (by kernel_rfl) ok37 (by kernel_rfl) (by kernel_rfl) (fun _ => rfl) hl h -- rillmeter/field.Mul
@[simp] theorem sh38 : shF 38 = false := by decide
theorem run38 {args : List CA} {r : CA} (hl : args.length ≤ 20) (h : wpV Tryd.prog TV ⟨20, shF, false, noLate⟩ (Tryd.f38.body.getD .skip) (endK Tryd.prog Tryd.f38.results.toList r) ⟨env0 args, []⟩) : TV.pu 38 args = some r := TT_go (N := ⟨20, shF, false, noLate⟩) Tryd.func38 (by kernel_rfl) ok38 (by kernel_rfl) (by kernel_rfl) (fun _ => rfl) hl h -- rillmeter/hash.Level
@[simp] theorem sh39 : shF 39 = false := by decide
theorem run39 {args : List CA} {r : CA} (hl : args.length ≤ 9) (h : wpV Tryd.prog TV ⟨9, shF, false, noLate⟩ (Tryd.f39.body.getD .skip) (endK Tryd.prog Tryd.f39.results.toList r) ⟨env0 args, []⟩) : TV.pu 39 args = some r := TT_go (N := ⟨9, shF, false, noLate⟩) Tryd.func39 (by kernel_rfl) ok39 (by kernel_rfl) (by kernel_rfl) (fun _ => rfl) hl h -- rillmeter/signed.fits
@[simp] theorem sh40 : shF 40 = true := by decide
@[simp] theorem cl40 : isCl Tryd.prog 40 = false := by kernel_rfl
theorem runX40 {args : List AV} {H : Hp} {Q : AV → Hp → Prop} (hl : args.length ≤ 27) (hQ : ∀ a K, Q a K → H.length ≤ K.length) (h : wpV Tryd.prog TV ⟨27, shF, true, noLate⟩ (Tryd.f40.body.getD .skip) (endX Tryd.prog Tryd.f40.results.toList Q) ⟨envS args, H⟩) : ∃ a K, TV.S 40 args H = some (a, K) ∧ Q a K := TT_goX (N := ⟨27, shF, true, noLate⟩) Tryd.func40 (by kernel_rfl) ok40 (by kernel_rfl) (by kernel_rfl) rfl hl (by kernel_rfl) hQ h -- rillmeter/signed.clone
theorem run40 {args : List AV} {r : AV} {H H' : Hp} (hl : args.length ≤ 27) (hH : Gr Tryd.prog 40 H H') (h : wpV Tryd.prog TV ⟨27, shF, true, noLate⟩ (Tryd.f40.body.getD .skip) (endS Tryd.prog Tryd.f40.results.toList r H') ⟨envS args, H⟩) : TV.S 40 args H = some (r, H') := TT_goS (N := ⟨27, shF, true, noLate⟩) Tryd.func40 (by kernel_rfl) ok40 (by kernel_rfl) (by kernel_rfl) rfl hl hH h -- rillmeter/signed.clone
@[simp] theorem sh41 : shF 41 = false := by decide
theorem run41 {args : List CA} {r : CA} (hl : args.length ≤ 29) (h : wpV Tryd.prog TV ⟨29, shF, false, noLate⟩ (Tryd.f41.body.getD .skip) (endK Tryd.prog Tryd.f41.results.toList r) ⟨env0 args, []⟩) : TV.pu 41 args = some r := TT_go (N := ⟨29, shF, false, noLate⟩) Tryd.func41 (by kernel_rfl) ok41 (by kernel_rfl) (by kernel_rfl) (fun _ => rfl) hl h -- rillmeter/signed.place
@[simp] theorem sh42 : shF 42 = true := by decide
@[simp] theorem cl42 : isCl Tryd.prog 42 = false := by kernel_rfl
theorem runX42 {args : List AV} {H : Hp} {Q : AV → Hp → Prop} (hl : args.length ≤ 13) (hQ : ∀ a K, Q a K → H.length ≤ K.length) (h : wpV Tryd.prog TV ⟨13, shF, false, noLate⟩ (Tryd.f42.body.getD .skip) (endX Tryd.prog Tryd.f42.results.toList Q) ⟨envS args, H⟩) : ∃ a K, TV.S 42 args H = some (a, K) ∧ Q a K := TT_goX (N := ⟨13, shF, false, noLate⟩) Tryd.func42 (by kernel_rfl) ok42 (by kernel_rfl) (by kernel_rfl) rfl hl (by kernel_rfl) hQ h -- rillmeter/heavy.New
theorem run42 {args : List AV} {r : AV} {H H' : Hp} (hl : args.length ≤ 13) (hH : Gr Tryd.prog 42 H H') (h : wpV Tryd.prog TV ⟨13, shF, false, noLate⟩ (Tryd.f42.body.getD .skip) (endS Tryd.prog Tryd.f42.results.toList r H') ⟨envS args, H⟩) : TV.S 42 args H = some (r, H') := TT_goS (N := ⟨13, shF, false, noLate⟩) Tryd.func42 (by kernel_rfl) ok42 (by kernel_rfl) (by kernel_rfl) rfl hl hH h -- rillmeter/heavy.New
@[simp] theorem sh43 : shF 43 = true := by decide
@[simp] theorem cl43 : isCl Tryd.prog 43 = false := by kernel_rfl
theorem runX43 {args : List AV} {H : Hp} {Q : AV → Hp → Prop} (hl : args.length ≤ 39) (hQ : ∀ a K, Q a K → H.length ≤ K.length) (h : wpV Tryd.prog TV ⟨39, shF, false, noLate⟩ (Tryd.f43.body.getD .skip) (endX Tryd.prog Tryd.f43.results.toList Q) ⟨envS args, H⟩) : ∃ a K, TV.S 43 args H = some (a, K) ∧ Q a K := TT_goX (N := ⟨39, shF, false, noLate⟩) Tryd.func43 (by kernel_rfl) ok43 (by kernel_rfl) (by kernel_rfl) rfl hl (by kernel_rfl) hQ h -- (*rillmeter/heavy.Heap).down
theorem run43 {args : List AV} {r : AV} {H H' : Hp} (hl : args.length ≤ 39) (hH : Gr Tryd.prog 43 H H') (h : wpV Tryd.prog TV ⟨39, shF, false, noLate⟩ (Tryd.f43.body.getD .skip) (endS Tryd.prog Tryd.f43.results.toList r H') ⟨envS args, H⟩) : TV.S 43 args H = some (r, H') := TT_goS (N := ⟨39, shF, false, noLate⟩) Tryd.func43 (by kernel_rfl) ok43 (by kernel_rfl) (by kernel_rfl) rfl hl hH h -- (*rillmeter/heavy.Heap).down
@[simp] theorem sh44 : shF 44 = true := by decide
@[simp] theorem cl44 : isCl Tryd.prog 44 = false := by kernel_rfl
theorem runX44 {args : List AV} {H : Hp} {Q : AV → Hp → Prop} (hl : args.length ≤ 25) (hQ : ∀ a K, Q a K → H.length ≤ K.length) (h : wpV Tryd.prog TV ⟨25, shF, false, noLate⟩ (Tryd.f44.body.getD .skip) (endX Tryd.prog Tryd.f44.results.toList Q) ⟨envS args, H⟩) : ∃ a K, TV.S 44 args H = some (a, K) ∧ Q a K := TT_goX (N := ⟨25, shF, false, noLate⟩) Tryd.func44 (by kernel_rfl) ok44 (by kernel_rfl) (by kernel_rfl) rfl hl (by kernel_rfl) hQ h -- (*rillmeter/heavy.Heap).up
theorem run44 {args : List AV} {r : AV} {H H' : Hp} (hl : args.length ≤ 25) (hH : Gr Tryd.prog 44 H H') (h : wpV Tryd.prog TV ⟨25, shF, false, noLate⟩ (Tryd.f44.body.getD .skip) (endS Tryd.prog Tryd.f44.results.toList r H') ⟨envS args, H⟩) : TV.S 44 args H = some (r, H') := TT_goS (N := ⟨25, shF, false, noLate⟩) Tryd.func44 (by kernel_rfl) ok44 (by kernel_rfl) (by kernel_rfl) rfl hl hH h -- (*rillmeter/heavy.Heap).up
@[simp] theorem sh47 : shF 47 = false := by decide
theorem run47 {args : List CA} {r : CA} (hl : args.length ≤ 17) (h : wpV Tryd.prog TV ⟨17, shF, false, noLate⟩ (Tryd.f47.body.getD .skip) (endK Tryd.prog Tryd.f47.results.toList r) ⟨env0 args, []⟩) : TV.pu 47 args = some r := TT_go (N := ⟨17, shF, false, noLate⟩) Tryd.func47 (by kernel_rfl) ok47 (by kernel_rfl) (by kernel_rfl) (fun _ => rfl) hl h -- rillmeter/heavy.order
@[simp] theorem sh48 : shF 48 = false := by decide
theorem run48 {args : List CA} {r : CA} (hl : args.length ≤ 9) (h : wpV Tryd.prog TV ⟨9, shF, false, noLate⟩ (Tryd.f48.body.getD .skip) (endK Tryd.prog Tryd.f48.results.toList r) ⟨env0 args, []⟩) : TV.pu 48 args = some r := TT_go (N := ⟨9, shF, false, noLate⟩) Tryd.func48 (by kernel_rfl) ok48 (by kernel_rfl) (by kernel_rfl) (fun _ => rfl) hl h -- slices.ContainsFunc[[][]int,[]int]
@[simp] theorem sh49 : shF 49 = false := by decide
theorem run49 {args : List CA} {r : CA} (hl : args.length ≤ 26) (h : wpV Tryd.prog TV ⟨26, shF, false, noLate⟩ (Tryd.f49.body.getD .skip) (endK Tryd.prog Tryd.f49.results.toList r) ⟨env0 args, []⟩) : TV.pu 49 args = some r := TT_go (N := ⟨26, shF, false, noLate⟩) Tryd.func49 (by kernel_rfl) ok49 (by kernel_rfl) (by kernel_rfl) (fun _ => rfl) hl h -- rillmeter/signed.Right$1
@[simp] theorem sh50 : shF 50 = false := by decide
theorem run50 {args : List CA} {r : CA} (hl : args.length ≤ 9) (h : wpV Tryd.prog TV ⟨9, shF, false, noLate⟩ (Tryd.f50.body.getD .skip) (endK Tryd.prog Tryd.f50.results.toList r) ⟨env0 args, []⟩) : TV.pu 50 args = some r := TT_go (N := ⟨9, shF, false, noLate⟩) Tryd.func50 (by kernel_rfl) ok50 (by kernel_rfl) (by kernel_rfl) (fun _ => rfl) hl h -- slices.ContainsFunc[[]int,int]
@[simp] theorem sh51 : shF 51 = false := by decide
theorem run51 {args : List CA} {r : CA} (hl : args.length ≤ 6) (h : wpV Tryd.prog TV ⟨6, shF, false, noLate⟩ (Tryd.f51.body.getD .skip) (endK Tryd.prog Tryd.f51.results.toList r) ⟨env0 args, []⟩) : TV.pu 51 args = some r := TT_go (N := ⟨6, shF, false, noLate⟩) Tryd.func51 (by kernel_rfl) ok51 (by kernel_rfl) (by kernel_rfl) (fun _ => rfl) hl h -- rillmeter/signed.Right$1$1
@[simp] theorem sh52 : shF 52 = false := by decide
theorem run52 {args : List CA} {r : CA} (hl : args.length ≤ 17) (h : wpV Tryd.prog TV ⟨17, shF, false, noLate⟩ (Tryd.f52.body.getD .skip) (endK Tryd.prog Tryd.f52.results.toList r) ⟨env0 args, []⟩) : TV.pu 52 args = some r := TT_go (N := ⟨17, shF, false, noLate⟩) Tryd.func52 (by kernel_rfl) ok52 (by kernel_rfl) (by kernel_rfl) (fun _ => rfl) hl h -- rillmeter/univ.stands
@[simp] theorem sh53 : shF 53 = false := by decide
theorem run53 {args : List CA} {r : CA} (hl : args.length ≤ 9) (h : wpV Tryd.prog TV ⟨9, shF, false, noLate⟩ (Tryd.f53.body.getD .skip) (endK Tryd.prog Tryd.f53.results.toList r) ⟨env0 args, []⟩) : TV.pu 53 args = some r := TT_go (N := ⟨9, shF, false, noLate⟩) Tryd.func53 (by kernel_rfl) ok53 (by kernel_rfl) (by kernel_rfl) (fun _ => rfl) hl h -- rillmeter/univ.top$1
@[simp] theorem sh54 : shF 54 = false := by decide
theorem run54 {args : List CA} {r : CA} (hl : args.length ≤ 13) (h : wpV Tryd.prog TV ⟨13, shF, false, noLate⟩ (Tryd.f54.body.getD .skip) (endK Tryd.prog Tryd.f54.results.toList r) ⟨env0 args, []⟩) : TV.pu 54 args = some r := TT_go (N := ⟨13, shF, false, noLate⟩) Tryd.func54 (by kernel_rfl) ok54 (by kernel_rfl) (by kernel_rfl) (fun _ => rfl) hl h -- rillmeter/field.Of
@[simp] theorem sh55 : shF 55 = false := by decide
theorem run55 {args : List CA} {r : CA} (hl : args.length ≤ 51) (h : wpV Tryd.prog TV ⟨51, shF, false, noLate⟩ (Tryd.f55.body.getD .skip) (endK Tryd.prog Tryd.f55.results.toList r) ⟨env0 args, []⟩) : TV.pu 55 args = some r := TT_go (N := ⟨51, shF, false, noLate⟩) Tryd.func55 (by kernel_rfl) ok55 (by kernel_rfl) (by kernel_rfl) (fun _ => rfl) hl h -- math/bits.Mul64
@[simp] theorem sh56 : shF 56 = false := by decide
theorem run56 {args : List CA} {r : CA} (hl : args.length ≤ 51) (h : wpV Tryd.prog TV ⟨51, shF, false, noLate⟩ (Tryd.f56.body.getD .skip) (endK Tryd.prog Tryd.f56.results.toList r) ⟨env0 args, []⟩) : TV.pu 56 args = some r := TT_go (N := ⟨51, shF, false, noLate⟩) Tryd.func56 (by kernel_rfl) ok56 (by kernel_rfl) (by kernel_rfl) (fun _ => rfl) hl h -- rillmeter/hash.Sum
@[simp] theorem sh57 : shF 57 = false := by decide
@[simp] theorem sh58 : shF 58 = true := by decide
@[simp] theorem cl58 : isCl Tryd.prog 58 = true := by kernel_rfl
theorem run58 {args : List AV} {r : AV} {H H' : Hp} (hl : args.length ≤ 8) (hH : Gr Tryd.prog 58 H H') (h : wpV Tryd.prog TV ⟨8, shF, false, noLate⟩ (Tryd.f58.body.getD .skip) (endS Tryd.prog Tryd.f58.results.toList r H') ⟨envS args, H⟩) : TV.S 58 args H = some (r, H') := TT_goS (N := ⟨8, shF, false, noLate⟩) Tryd.func58 (by kernel_rfl) ok58 (by kernel_rfl) (by kernel_rfl) rfl hl hH h -- slices.Clone[[]int,int]
@[simp] theorem sh59 : shF 59 = false := by decide
theorem run59 {args : List CA} {r : CA} (hl : args.length ≤ 16) (h : wpV Tryd.prog TV ⟨16, shF, false, noLate⟩ (Tryd.f59.body.getD .skip) (endK Tryd.prog Tryd.f59.results.toList r) ⟨env0 args, []⟩) : TV.pu 59 args = some r := TT_go (N := ⟨16, shF, false, noLate⟩) Tryd.func59 (by kernel_rfl) ok59 (by kernel_rfl) (by kernel_rfl) (fun _ => rfl) hl h -- rillmeter/hash.Cell
@[simp] theorem sh60 : shF 60 = false := by decide
theorem run60 {args : List CA} {r : CA} (hl : args.length ≤ 12) (h : wpV Tryd.prog TV ⟨12, shF, false, noLate⟩ (Tryd.f60.body.getD .skip) (endK Tryd.prog Tryd.f60.results.toList r) ⟨env0 args, []⟩) : TV.pu 60 args = some r := TT_go (N := ⟨12, shF, false, noLate⟩) Tryd.func60 (by kernel_rfl) ok60 (by kernel_rfl) (by kernel_rfl) (fun _ => rfl) hl h -- rillmeter/hash.Sign
@[simp] theorem sh61 : shF 61 = true := by decide
@[simp] theorem cl61 : isCl Tryd.prog 61 = false := by kernel_rfl
theorem runX61 {args : List AV} {H : Hp} {Q : AV → Hp → Prop} (hl : args.length ≤ 23) (hQ : ∀ a K, Q a K → H.length ≤ K.length) (h : wpV Tryd.prog TV ⟨23, shF, false, noLate⟩ (Tryd.f61.body.getD .skip) (endX Tryd.prog Tryd.f61.results.toList Q) ⟨envS args, H⟩) : ∃ a K, TV.S 61 args H = some (a, K) ∧ Q a K := TT_goX (N := ⟨23, shF, false, noLate⟩) Tryd.func61 (by kernel_rfl) ok61 (by kernel_rfl) (by kernel_rfl) rfl hl (by kernel_rfl) hQ h -- (*rillmeter/heavy.Heap).above
theorem run61 {args : List AV} {r : AV} {H H' : Hp} (hl : args.length ≤ 23) (hH : Gr Tryd.prog 61 H H') (h : wpV Tryd.prog TV ⟨23, shF, false, noLate⟩ (Tryd.f61.body.getD .skip) (endS Tryd.prog Tryd.f61.results.toList r H') ⟨envS args, H⟩) : TV.S 61 args H = some (r, H') := TT_goS (N := ⟨23, shF, false, noLate⟩) Tryd.func61 (by kernel_rfl) ok61 (by kernel_rfl) (by kernel_rfl) rfl hl hH h -- (*rillmeter/heavy.Heap).above
@[simp] theorem sh62 : shF 62 = true := by decide
@[simp] theorem cl62 : isCl Tryd.prog 62 = false := by kernel_rfl
theorem runX62 {args : List AV} {H : Hp} {Q : AV → Hp → Prop} (hl : args.length ≤ 62) (hQ : ∀ a K, Q a K → H.length ≤ K.length) (h : wpV Tryd.prog TV ⟨62, shF, false, noLate⟩ (Tryd.f62.body.getD .skip) (endX Tryd.prog Tryd.f62.results.toList Q) ⟨envS args, H⟩) : ∃ a K, TV.S 62 args H = some (a, K) ∧ Q a K := TT_goX (N := ⟨62, shF, false, noLate⟩) Tryd.func62 (by kernel_rfl) ok62 (by kernel_rfl) (by kernel_rfl) rfl hl (by kernel_rfl) hQ h -- (*rillmeter/heavy.Heap).swap
theorem run62 {args : List AV} {r : AV} {H H' : Hp} (hl : args.length ≤ 62) (hH : Gr Tryd.prog 62 H H') (h : wpV Tryd.prog TV ⟨62, shF, false, noLate⟩ (Tryd.f62.body.getD .skip) (endS Tryd.prog Tryd.f62.results.toList r H') ⟨envS args, H⟩) : TV.S 62 args H = some (r, H') := TT_goS (N := ⟨62, shF, false, noLate⟩) Tryd.func62 (by kernel_rfl) ok62 (by kernel_rfl) (by kernel_rfl) rfl hl hH h -- (*rillmeter/heavy.Heap).swap
@[simp] theorem sh63 : shF 63 = false := by decide
@[simp] theorem sh64 : shF 64 = false := by decide
@[simp] theorem sh65 : shF 65 = false := by decide
theorem run65 {args : List CA} {r : CA} (hl : args.length ≤ 18) (h : wpV Tryd.prog TV ⟨18, shF, false, noLate⟩ (Tryd.f65.body.getD .skip) (endK Tryd.prog Tryd.f65.results.toList r) ⟨env0 args, []⟩) : TV.pu 65 args = some r := TT_go (N := ⟨18, shF, false, noLate⟩) Tryd.func65 (by kernel_rfl) ok65 (by kernel_rfl) (by kernel_rfl) (fun _ => rfl) hl h -- cmp.Or[int]
@[simp] theorem sh66 : shF 66 = false := by decide
theorem run66 {args : List CA} {r : CA} (hl : args.length ≤ 20) (h : wpV Tryd.prog TV ⟨20, shF, false, noLate⟩ (Tryd.f66.body.getD .skip) (endK Tryd.prog Tryd.f66.results.toList r) ⟨env0 args, []⟩) : TV.pu 66 args = some r := TT_go (N := ⟨20, shF, false, noLate⟩) Tryd.func66 (by kernel_rfl) ok66 (by kernel_rfl) (by kernel_rfl) (fun _ => rfl) hl h -- cmp.Compare[int]
@[simp] theorem sh67 : shF 67 = false := by decide
@[simp] theorem sh68 : shF 68 = false := by decide
theorem run68 {args : List CA} {r : CA} (hl : args.length ≤ 19) (h : wpV Tryd.prog TV ⟨19, shF, false, noLate⟩ (Tryd.f68.body.getD .skip) (endK Tryd.prog Tryd.f68.results.toList r) ⟨env0 args, []⟩) : TV.pu 68 args = some r := TT_go (N := ⟨19, shF, false, noLate⟩) Tryd.func68 (by kernel_rfl) ok68 (by kernel_rfl) (by kernel_rfl) (fun _ => rfl) hl h -- slices.IndexFunc[[][]int,[]int]
@[simp] theorem sh69 : shF 69 = false := by decide
theorem run69 {args : List CA} {r : CA} (hl : args.length ≤ 19) (h : wpV Tryd.prog TV ⟨19, shF, false, noLate⟩ (Tryd.f69.body.getD .skip) (endK Tryd.prog Tryd.f69.results.toList r) ⟨env0 args, []⟩) : TV.pu 69 args = some r := TT_go (N := ⟨19, shF, false, noLate⟩) Tryd.func69 (by kernel_rfl) ok69 (by kernel_rfl) (by kernel_rfl) (fun _ => rfl) hl h -- slices.IndexFunc[[]int,int]
@[simp] theorem sh70 : shF 70 = false := by decide
theorem run70 {args : List CA} {r : CA} (hl : args.length ≤ 22) (h : wpV Tryd.prog TV ⟨22, shF, false, noLate⟩ (Tryd.f70.body.getD .skip) (endK Tryd.prog Tryd.f70.results.toList r) ⟨env0 args, []⟩) : TV.pu 70 args = some r := TT_go (N := ⟨22, shF, false, noLate⟩) Tryd.func70 (by kernel_rfl) ok70 (by kernel_rfl) (by kernel_rfl) (fun _ => rfl) hl h -- rillmeter/field.Pow
@[simp] theorem sh71 : shF 71 = false := by decide
@[simp] theorem sh72 : shF 72 = false := by decide
@[simp] theorem sh73 : shF 73 = false := by decide
@[simp] theorem sh74 : shF 74 = false := by decide
@[simp] theorem sh75 : shF 75 = false := by decide
@[simp] theorem sh76 : shF 76 = false := by decide
@[simp] theorem sh77 : shF 77 = false := by decide
@[simp] theorem sh78 : shF 78 = false := by decide
@[simp] theorem sh79 : shF 79 = false := by decide
@[simp] theorem sh80 : shF 80 = false := by decide
@[simp] theorem sh81 : shF 81 = false := by decide
@[simp] theorem sh82 : shF 82 = false := by decide
@[simp] theorem sh83 : shF 83 = false := by decide
@[simp] theorem sh84 : shF 84 = false := by decide
@[simp] theorem sh85 : shF 85 = false := by decide
@[simp] theorem sh86 : shF 86 = false := by decide
@[simp] theorem sh87 : shF 87 = false := by decide
@[simp] theorem sh88 : shF 88 = false := by decide
theorem run88 {args : List CA} {r : CA} (hl : args.length ≤ 6) (h : wpV Tryd.prog TV ⟨6, shF, false, noLate⟩ (Tryd.f88.body.getD .skip) (endK Tryd.prog Tryd.f88.results.toList r) ⟨env0 args, []⟩) : TV.pu 88 args = some r := TT_go (N := ⟨6, shF, false, noLate⟩) Tryd.func88 (by kernel_rfl) ok88 (by kernel_rfl) (by kernel_rfl) (fun _ => rfl) hl h -- cmp.isNaN[int]
@[simp] theorem sh89 : shF 89 = false := by decide
@[simp] theorem sh90 : shF 90 = false := by decide
@[simp] theorem sh91 : shF 91 = false := by decide
@[simp] theorem sh92 : shF 92 = false := by decide
@[simp] theorem sh93 : shF 93 = false := by decide
@[simp] theorem sh94 : shF 94 = false := by decide
@[simp] theorem sh95 : shF 95 = false := by decide
@[simp] theorem sh96 : shF 96 = false := by decide
@[simp] theorem sh97 : shF 97 = false := by decide
@[simp] theorem sh98 : shF 98 = false := by decide
@[simp] theorem sh99 : shF 99 = false := by decide
@[simp] theorem sh100 : shF 100 = false := by decide
end Go.Proofs.YtngpmpmhpggpgaaDoorF
end

section
/- A law's arguments, read as data, are closed values; and what a law tells of them stands in the statement's form. -/
namespace Go.Proofs.Vm
open Go Go.RowKit Go.ChangeShapes Go.WideShapes

def All (w : World) : Nat → Prop := fun b => b < w.heap.size

/-- Whatever reads as data of type T is so many closed cells, that are good. -/
def Opens (P : Program) (T : TypeId) (sz : Nat) (good : List CV → Prop) : Prop :=
  ∀ (H : Type) (enc : TypeId × Value → H) (W : World) (spare : Nat → Bool) (held : Bool) (fuel : Nat) (cs : List Value) (x : DataW H × List MemPlace),
    DataW.trod enc P W 0 spare held fuel T cs = some x → (∀ q ∈ DataW.weights P T x.1, q ≤ 140737488351232) → ∃ l : List CV, RKs (All W) W l cs ∧ l.length = sz ∧ good l

variable {P : Program}

theorem rks_one {I : Nat → Prop} {w : World} {x : CV} {v : Value} (h : RC I w x v) : RKs I w [x] [v] := by
  refine ⟨rfl, fun j y z hy hz => ?_⟩
  cases j with
  | zero => cases hy; cases hz; exact h
  | succ j => simp at hy
theorem rks_append {I : Nat → Prop} {w : World} {l m : List CV} {vs us : List Value} (h : RKs I w l vs) (k : RKs I w m us) : RKs I w (l ++ m) (vs ++ us) := by
  refine ⟨by simp [h.1, k.1], fun j x y hx hy => ?_⟩
  by_cases hj : j < l.length
  · rw [List.getElem?_append_left hj] at hx
    rw [List.getElem?_append_left (by rw [← h.1]; exact hj)] at hy
    exact h.2 j x y hx hy
  · rw [List.getElem?_append_right (by omega)] at hx
    rw [List.getElem?_append_right (by rw [← h.1]; omega), ← h.1] at hy
    exact k.2 _ x y hx hy

def isI (k : IntKind) (l : List CV) : Prop := ∃ n, l = [.v (.int k n)] ∧ (Lit.int k n).wf = true
def isB (l : List CV) : Prop := ∃ b, l = [.v (.bool b)]
def isS (l : List CV) : Prop := ∃ s : ByteArray, l = [.v (.string s)] ∧ s.size ≤ 140737488351232
def isL (sz bytes : Nat) (good : List CV → Prop) (l : List CV) : Prop := ∃ L : List (List CV), l = [.arr L] ∧ (∀ e ∈ L, e.length = sz ∧ good e) ∧ L.length * bytes ≤ 140737488351232
def isP (good good' : List CV → Prop) (l : List CV) : Prop := ∃ a b, l = a ++ b ∧ good a ∧ good' b

theorem opens_int {T : TypeId} {k : IntKind} (ht : P.underlying T = some (.int k)) : Opens P T 1 (isI k) := by
  intro H enc W spare held fuel cs x h _
  obtain ⟨n, rfl, _, hw⟩ := DataW.trod_int ht h
  exact ⟨_, rks_one (.v _ rfl), rfl, n, rfl, hw⟩
theorem opens_bool {T : TypeId} (ht : P.underlying T = some .bool) : Opens P T 1 isB := by
  intro H enc W spare held fuel cs x h _
  obtain ⟨n, rfl, _⟩ := DataW.trod_bool ht h
  exact ⟨_, rks_one (.v _ rfl), rfl, n, rfl⟩
theorem opens_string {T : TypeId} (ht : P.underlying T = some .string) : Opens P T 1 isS := by
  intro H enc W spare held fuel cs x h hq
  obtain ⟨s, rfl, rfl, _⟩ := DataW.trod_string ht h
  have h1 := hq s.data.toList.length (by simp [DataW.weights])
  rw [Array.length_toList] at h1
  exact ⟨_, rks_one (.v _ rfl), rfl, s, rfl, h1⟩
theorem cells_at {W : World} {a : Addr} {n : Nat} {cs : List Value} (h : W.cells? 0 a n = some cs) : cs.length = n ∧ ∀ i u, cs[i]? = some u → W.cell? (a.add i) = some u := by
  unfold World.cells? at h
  rw [if_pos (Nat.zero_le _)] at h
  have hl : cs.length = n := by have := mapM_some_length h; simpa using this
  refine ⟨hl, fun i u hu => ?_⟩
  have hi : i < n := by have := (List.getElem?_eq_some_iff.1 hu).1; omega
  have h1 := mapM_some_get h i i (by simp [hi])
  rw [h1, hu]
theorem weights_all {H : Type} {e : TypeId} {l : List (DataW H)} {d : DataW H} (hd : d ∈ l) : ∀ q ∈ DataW.weights P e d, q ∈ DataW.weightsAll P e l := by
  induction l with
  | nil => cases hd
  | cons y t ih =>
    intro q hq
    simp only [DataW.weightsAll, List.mem_append]
    rcases List.mem_cons.1 hd with rfl | h
    · exact .inl hq
    · exact .inr (ih h q hq)
theorem opens_slice {T e : TypeId} {sz bytes : Nat} {good : List CV → Prop} (ht : P.underlying T = some (.slice e)) (hc : P.cellsOf e = sz) (hz : 0 < sz) (hb : P.bytesOf e = bytes) (he : Opens P e sz good) : Opens P T 1 (isL sz bytes good) := by
  intro H enc W spare held fuel cs x h hq
  rcases Go.Deep.open_slice ht h with ⟨rfl, rfl⟩ | ⟨a, len, cap, m, n, D, Pl, rfl, _, hlc, hcap, hm, rfl, hel⟩
  · refine ⟨[.arr []], rks_one (.arr [] none 0 0 (fun _ _ => .bool false) (Nat.le_refl _) (by simp) (by simp) (by simp)), rfl, [], rfl, by simp, by simp⟩
  · have hlm : len ≤ m := by rw [hm]; split <;> omega
    simp only [DataW.weights, ht, List.mem_cons, List.mem_append] at hq
    obtain ⟨F, hF⟩ := Go.Deep.choose_lt (α := List CV × List Value) (n := len) (p := fun i y => W.cells? 0 (a.add (i * P.cellsOf e)) (P.cellsOf e) = some y.2 ∧ RKs (All W) W y.1 y.2 ∧ y.1.length = sz ∧ good y.1) (fun i hi => by
      obtain ⟨cs', h1, h2⟩ := hel i (by omega)
      obtain ⟨l, hl, hs, hg⟩ := he H enc W spare held n cs' (D i, Pl i) h2 (fun q hq1 => hq q (.inr (.inl (weights_all (List.mem_map.2 ⟨i, List.mem_range.2 hi, rfl⟩) q hq1))))
      exact ⟨(l, cs'), h1, hl, hs, hg⟩)
    have hw : len * bytes ≤ 140737488351232 := by
      have h1 := hq _ (.inl rfl)
      rw [hb] at h1
      refine Nat.le_trans (Nat.mul_le_mul_right _ ?_) h1
      simp
    have hlen : ((List.range len).map fun i => (F i).1).length = len := by simp
    have get : ∀ (i : Nat) e, ((List.range len).map fun i => (F i).1)[i]? = some e → i < len ∧ e = (F i).1 := by
      intro i e hi
      have hl := (List.getElem?_eq_some_iff.1 hi).1
      rw [hlen] at hl
      rw [List.getElem?_map, List.getElem?_range hl] at hi
      cases hi
      exact ⟨hl, rfl⟩
    have cell : ∀ i j, i < len → j < sz → W.cell? ((a.add (i * sz)).add j) = some ((F i).2.getD j (.bool false)) := by
      intro i j hi hj
      obtain ⟨h1, h2, h3, _⟩ := hF i hi
      obtain ⟨k1, k2⟩ := cells_at h1
      rw [hc] at k1 k2
      refine k2 j _ ?_
      rw [List.getD_eq_getElem?_getD, List.getElem?_eq_getElem (by omega)]
      rfl
    have key : RC (All W) W (.arr ((List.range len).map fun i => (F i).1)) (.slice (some a) ((List.range len).map fun i => (F i).1).length cap) := by
      refine .arr _ (some a) cap sz (fun i j => (F i).2.getD j (.bool false)) (by rw [hlen]; exact hlc) (fun e he => ?_) (fun hn => ?_) (fun i j e x hi hx => ?_)
      · obtain ⟨i, hi⟩ := List.getElem?_of_mem he
        obtain ⟨hl, rfl⟩ := get i e hi
        exact (hF i hl).2.2.1
      · have hp : 0 < len := by
          rcases Nat.eq_zero_or_pos len with h0 | h0
          · subst h0; exact absurd rfl hn
          · exact h0
        have c0 := cell 0 0 hp hz
        have hadd : ∀ k, a.spot = none → a.add k = ⟨a.block, a.off + k, none⟩ := fun k hs => by
          obtain ⟨b, o, s⟩ := a
          cases hs
          simp [Addr.add]
        have hs : a.spot = none := by
          simp only [Nat.zero_mul] at c0
          rw [show (a.add 0).add 0 = a by simp [Addr.add]] at c0
          unfold World.cell? at c0
          split at c0
          · split at c0
            · cases c0
            · rename_i h0; simpa using h0
          · cases c0
        refine ⟨a.block, a.off, by obtain ⟨b, o, s⟩ := a; cases hs; rfl, ?_, fun i j hi hj => ?_⟩
        · simp only [Nat.zero_mul] at c0
          rw [show (a.add 0).add 0 = a by simp [Addr.add]] at c0
          show a.block < W.heap.size
          unfold World.cell? at c0
          rcases Nat.lt_or_ge a.block W.heap.size with h0 | h0
          · exact h0
          · rw [Array.getElem?_eq_none h0] at c0; cases c0
        · have := cell i j (by rw [hlen] at hi; exact hi) hj
          rw [Addr.add_add, hadd _ hs] at this
          rw [← this]
      · obtain ⟨hl, rfl⟩ := get i e hi
        obtain ⟨h1, h2, h3, _⟩ := hF i hl
        have hj : j < (F i).1.length := (List.getElem?_eq_some_iff.1 hx).1
        have hj2 : j < (F i).2.length := by rw [← h2.1]; exact hj
        refine h2.2 j x _ hx ?_
        rw [List.getD_eq_getElem?_getD, List.getElem?_eq_getElem hj2]
        rfl
    rw [hlen] at key
    refine ⟨_, rks_one key, rfl, _, rfl, fun e he => ?_, by rw [hlen]; exact hw⟩
    obtain ⟨i, hi⟩ := List.getElem?_of_mem he
    obtain ⟨hl, rfl⟩ := get i e hi
    exact (hF i hl).2.2
/-- The fields of a struct, from a place on. -/
def OpensAt (P : Program) (fs : List Field) (o sz : Nat) (good : List CV → Prop) : Prop :=
  ∀ (H : Type) (enc : TypeId × Value → H) (W : World) (spare : Nat → Bool) (held : Bool) (n : Nat) (cs : List Value), cs.length = o + sz →
    (∀ f ∈ fs, ∃ y : DataW H × List MemPlace, DataW.trod enc P W 0 spare held n f.type ((cs.drop f.offset).take (P.cellsOf f.type)) = some y ∧ ∀ q ∈ DataW.weights P f.type y.1, q ≤ 140737488351232) →
    ∃ l : List CV, RKs (All W) W l (cs.drop o) ∧ l.length = sz ∧ good l
theorem at_one {f : Field} {o sz : Nat} {good : List CV → Prop} (ho : f.offset = o) (hc : P.cellsOf f.type = sz) (hf : Opens P f.type sz good) : OpensAt P [f] o sz good := by
  intro H enc W spare held n cs hl h
  obtain ⟨y, hy, hq⟩ := h f List.mem_cons_self
  obtain ⟨a, hK, hg⟩ := hf H enc W spare held n _ y hy hq
  rw [ho, hc, List.take_of_length_le (by rw [List.length_drop]; omega)] at hK
  exact ⟨a, hK, hg⟩
theorem at_cons {f : Field} {fs : List Field} {o sz sz' : Nat} {good good' : List CV → Prop} (ho : f.offset = o) (hc : P.cellsOf f.type = sz) (hf : Opens P f.type sz good) (hfs : OpensAt P fs (o + sz) sz' good') :
    OpensAt P (f :: fs) o (sz + sz') (isP good good') := by
  intro H enc W spare held n cs hl h
  obtain ⟨y, hy, hq⟩ := h f List.mem_cons_self
  obtain ⟨a, hK, hs, hg⟩ := hf H enc W spare held n _ y hy hq
  obtain ⟨b, hK', hs', hg'⟩ := hfs H enc W spare held n cs (by rw [hl]; omega) (fun f' hf' => h f' (List.mem_cons_of_mem _ hf'))
  rw [ho, hc] at hK
  refine ⟨a ++ b, ?_, by simp [hs, hs'], a, b, rfl, hg, hg'⟩
  have := rks_append hK hK'
  rwa [← List.drop_drop, List.take_append_drop] at this
theorem opens_struct {T : TypeId} {fs : Array Field} {sz : Nat} {good : List CV → Prop} (ht : P.underlying T = some (.struct fs)) (hc : P.cellsOf T = sz) (hf : OpensAt P fs.toList 0 sz good) : Opens P T sz good := by
  intro H enc W spare held fuel cs x h hq
  obtain ⟨xs, n, _, rfl, hl, hlen, hget⟩ := DataW.trod_struct ht h
  obtain ⟨a, hK, hg⟩ := hf H enc W spare held n cs (by rw [hl, hc, Nat.zero_add]) (fun f hfm => by
    obtain ⟨i, hi, rfl⟩ := List.getElem_of_mem hfm
    have hi' : i < fs.size := by simpa using hi
    have h1 := hget i fs[i] (by simp [hi'])
    have hi2 : i < xs.length := by omega
    refine ⟨xs[i], by rw [← List.getElem?_eq_getElem hi2, ← h1]; simp, fun q hq1 => hq q ?_⟩
    simp only [DataW.weights, ht]
    refine DataW.weights_mem_each (j := i) (t := fs[i].type) (d := xs[i].1) ?_ ?_ q (by simpa using hq1)
    · simp [hi']
    · simp [hi2])
  exact ⟨a, by simpa using hK, hg⟩

/-- An argument of type T is a closed value that is good. -/
def OpA (P : Program) (T : TypeId) (good : CA → Prop) : Prop :=
  ∀ (H : Type) (enc : TypeId × Value → H) (W : World) (base : Nat) (v : Value) (d : DataW H) (ps : List MemPlace), DataW.Trod enc P W 0 (fun _ => true) true T v d ps → Value.okWide P W .any base T v → (∀ q ∈ DataW.weights P T d, q ≤ 140737488351232) →
    ∃ a : CA, RK (All W) W a v ∧ good a

theorem opA_one {T : TypeId} {good : List CV → Prop} (hn : ∀ fs, P.underlying T ≠ some (.struct fs)) (hn2 : ∀ n e, P.underlying T ≠ some (.array n e)) (h : Opens P T 1 good) : OpA P T (fun a => ∃ x, a = .one x ∧ good [x]) := by
  intro H enc W base v d ps ⟨fuel, hf⟩ hok hq
  obtain ⟨l, hl, hs, hg⟩ := h H enc W _ _ fuel _ _ hf hq
  match l, hs with
  | [x], _ =>
    refine ⟨.one x, ?_, x, rfl, hg⟩
    have hl1 : v.cells.toList.length = 1 := by rw [← hl.1]; rfl
    have hv : v.cells = #[v] := by
      unfold Value.okWide at hok
      split at hok
      · rename_i fs h0; exact absurd h0 (hn fs)
      · rename_i n e h0; exact absurd h0 (hn2 _ _)
      · unfold Cell.okWide Cell.ok at hok
        cases v <;> first | rfl | (exfalso; revert hok; split <;> simp_all)
    rw [hv] at hl
    exact hl.2 0 x v rfl rfl
theorem opA_agg {T : TypeId} {fs : Array Field} {sz : Nat} {good : List CV → Prop} (ht : P.underlying T = some (.struct fs)) (h : Opens P T sz good) : OpA P T (fun a => ∃ l, a = .agg l ∧ l.length = sz ∧ good l) := by
  intro H enc W base v d ps ⟨fuel, hf⟩ hok hq
  obtain ⟨l, hl, hs, hg⟩ := h H enc W _ _ fuel _ _ hf hq
  refine ⟨.agg l, ?_, l, rfl, hs, hg⟩
  obtain ⟨cs, rfl, _⟩ := okWide_struct ht hok
  exact ⟨cs.toList, by simp, hl⟩

/-- The arguments of a function. -/
def OpAll (P : Program) (ts : List TypeId) (good : List CA → Prop) : Prop :=
  ∀ (H : Type) (enc : TypeId × Value → H) (W : World) (base : Nat) (vs : List Value) (ds : List (DataW H)) (ps : List MemPlace), DataW.TrodAll enc P W 0 (fun _ => true) true ts vs ds ps →
    (∀ (j : Nat) t v, ts[j]? = some t → vs[j]? = some v → Value.okWide P W .any base t v) → (∀ (j : Nat) t d, ts[j]? = some t → ds[j]? = some d → ∀ q ∈ DataW.weights P t d, q ≤ 140737488351232) →
    ∃ l : List CA, RKL (All W) W l vs ∧ good l
theorem opAll_nil : OpAll P [] (fun l => l = []) := by
  intro H enc W base vs ds ps h _ _
  obtain ⟨rfl, _, _⟩ := trodAll_nil h
  exact ⟨[], ⟨rfl, fun j x y hx => by simp at hx⟩, rfl⟩
theorem opAll_cons {T : TypeId} {ts : List TypeId} {g : CA → Prop} {gs : List CA → Prop} (h : OpA P T g) (hs : OpAll P ts gs) : OpAll P (T :: ts) (fun l => ∃ a r, l = a :: r ∧ g a ∧ gs r) := by
  intro H enc W base vs ds ps ht hok hq
  obtain ⟨v, vs, d, ds, p, q, rfl, rfl, rfl, h0, r0⟩ := trodAll_cons ht
  obtain ⟨a, hK, hg⟩ := h H enc W base v d p h0 (hok 0 T v rfl rfl) (hq 0 T d rfl rfl)
  obtain ⟨l, hL, hgs⟩ := hs H enc W base vs ds q r0 (fun j t v h1 h2 => hok (j + 1) t v h1 h2) (fun j t v h1 h2 => hq (j + 1) t v h1 h2)
  refine ⟨a :: l, ⟨by simp [hL.1], fun j x y hx hy => ?_⟩, a, l, rfl, hg, hgs⟩
  cases j with
  | zero => cases hx; cases hy; exact hK
  | succ j => exact hL.2 j x y hx hy

/-- Old memory reads as it did. -/
theorem trodAll_stays {H : Type} {enc : TypeId × Value → H} (hl : laidOutB P = true) {W W' : World} (hb : ∀ b, b < W.heap.size → W'.heap[b]? = W.heap[b]?) :
    ∀ {ts : List TypeId} {vs : List Value} {ds : List (DataW H)} {ps : List MemPlace}, ts.all (fun t => P.readableRec t && decide (t < P.types.size)) = true → DataW.TrodAll enc P W 0 (fun _ => true) true ts vs ds ps →
      DataW.TrodAll enc P W' 0 (fun b => decide (b < W.heap.size)) true ts vs ds ps
  | [], vs, ds, ps, _, h => by
    obtain ⟨rfl, rfl, rfl⟩ := trodAll_nil h
    exact trodAll_mk0
  | t :: ts, vs, ds, ps, hr, h => by
    obtain ⟨v, vs, d, ds, p, q, rfl, rfl, rfl, h0, r0⟩ := trodAll_cons h
    simp only [List.all_cons, Bool.and_eq_true, decide_eq_true_eq] at hr
    have lt0 : ∀ x ∈ p, x.block < W.heap.size := by obtain ⟨m, hm⟩ := h0; exact DataW.trod_lt m _ _ _ hm
    refine trodAll_cons_mk (WideElems.Trod_stays hl hr.1.1 hr.1.2 h0 (fun x hx => ?_) (fun x hx => by simpa using lt0 x hx)) (trodAll_stays hl hb hr.2 r0)
    have hlt := lt0 x hx
    exact (Below.same (W := W) (w' := { W with heap := W'.heap }) ⟨rfl, rfl, rfl, by
      rcases Nat.lt_or_ge W'.heap.size W.heap.size with h1 | h1
      · have := hb W'.heap.size h1
        rw [Array.getElem?_eq_none (Nat.le_refl _), Array.getElem?_eq_getElem h1] at this
        cases this
      · exact h1, hb⟩ hlt : W.sameAt { W with heap := W'.heap } x)

theorem kept_of {W W' : World} (hk : Stl W W') (hb : ∀ b, b < W.heap.size → W'.heap[b]? = W.heap[b]?) (may : MemPlace → Prop) : W.keptBut W' may := by
  refine ⟨hk.1.1, hk.2.1, fun i hi => ?_⟩
  rw [hb i hi]
  split <;> simp_all

/-- WHAT A FUNCTION TELLS of whatever arguments. -/
theorem lift_law {T : Tab} (hT : PuOk P T) {f : FuncId} {ts : List TypeId} {good : List CA → Prop} (hl : laidOutB P = true) (hr : ts.all (fun t => P.readableRec t && decide (t < P.types.size)) = true) (ho : OpAll P ts good)
    {r : CA} (hp : ∀ l, good l → T.pu f l = some r) {H : Type} {enc : TypeId × Value → H} {W : World} {base : Nat} {args : Array Value} {ds : List (DataW H)} {ps : List MemPlace} (ht : DataW.TrodAll enc P W 0 (fun _ => true) true ts args.toList ds ps)
    (hok : ∀ (j : Nat) t v, ts[j]? = some t → args[j]? = some v → Value.okWide P W .any base t v) (hq : ∀ (j : Nat) t d, ts[j]? = some t → ds[j]? = some d → ∀ q ∈ DataW.weights P t d, q ≤ 140737488351232) (hTb : Tabs W.heap.size W) :
    Calls P f args W fun e W' => ∃ v I', e = .returned v ∧ RK I' W' r v ∧ Stl W W' ∧ (∀ b, b < W.heap.size → W'.heap[b]? = W.heap[b]?) ∧ DataW.TrodAll enc P W' 0 (fun b => decide (b < W.heap.size)) true ts args.toList ds ps := by
  obtain ⟨l, hL, hg⟩ := ho H enc W base args.toList ds ps ht (fun j t v h1 h2 => hok j t v h1 (by simpa using h2)) hq
  obtain ⟨_, hc⟩ := hT f l r (hp l hg)
  have := hc (All W) W args.toList (fun _ h => h) hTb hL
  refine (show Calls P f args W _ from this).mono fun e W' he => ?_
  obtain ⟨v, I', rfl, _, _, _, _, hb, hk, hR⟩ := he
  exact ⟨v, I', rfl, hR, hk, hb, trodAll_stays hl hb hr ht⟩

theorem trodAll_len {H : Type} {enc : TypeId × Value → H} {W : World} {base : Nat} {spare : Nat → Bool} {held : Bool} : ∀ {ts : List TypeId} {vs : List Value} {ds : List (DataW H)} {ps : List MemPlace}, DataW.TrodAll enc P W base spare held ts vs ds ps → ds.length = ts.length
  | [], vs, ds, ps, h => by
    obtain ⟨_, rfl, _⟩ := trodAll_nil h
    rfl
  | t :: ts, vs, ds, ps, h => by
    obtain ⟨v, vs, d, ds, p, q, rfl, rfl, rfl, _, r0⟩ := trodAll_cons h
    rw [List.length_cons, List.length_cons, trodAll_len r0]
theorem weights_of {H : Type} {ts us : List TypeId} {ds gs : List (DataW H)} (hsz : (DataW.weightsEach P (ts ++ us) (ds ++ gs)).all (· ≤ reachBytes) = true) (j : Nat) (t : TypeId) (d : DataW H) (ht : ts[j]? = some t) (hd : ds[j]? = some d) :
    ∀ q ∈ DataW.weights P t d, q ≤ 140737488351232 := by
  intro q hq
  have h1 : (ts ++ us)[j]? = some t := by rw [List.getElem?_append_left (List.getElem?_eq_some_iff.1 ht).1]; exact ht
  have h2 : (ds ++ gs)[j]? = some d := by rw [List.getElem?_append_left (List.getElem?_eq_some_iff.1 hd).1]; exact hd
  have h3 := of_decide_eq_true (List.all_eq_true.1 hsz q (DataW.weights_mem_each h1 h2 q hq))
  simpa [reachBytes] using h3

/-- A list of good parts is the list of what they tell. -/
theorem map_of {α : Type} {f : α → List CV} {g : α → Prop} : ∀ {L : List (List CV)}, (∀ e ∈ L, ∃ a, e = f a ∧ g a) → ∃ xs : List α, L = xs.map f ∧ ∀ x ∈ xs, g x
  | [], _ => ⟨[], rfl, by simp⟩
  | e :: L, h => by
    obtain ⟨a, rfl, ha⟩ := h e List.mem_cons_self
    obtain ⟨xs, rfl, hx⟩ := map_of (L := L) fun e he => h e (List.mem_cons_of_mem _ he)
    exact ⟨a :: xs, rfl, fun x hx' => (List.mem_cons.1 hx').elim (fun h => h ▸ ha) (hx x)⟩

end Go.Proofs.Vm
end

section
/- How data of the laws' parameter types open as closed values. -/
namespace Go.Proofs.YtngpmpmhpggpgaaDoorF
open Go Go.Proofs.Vm
def good29 : List CV → Prop := isP (isI .u64) (isP (isI .i64) (isP (isI .i64) (isP (isI .i64) ((isI .i64)))))
theorem opens29 : Opens Tryd.prog 29 5 good29 := opens_struct Tryd.underlying29 (by kernel_rfl) (at_cons (sz := 1) (sz' := 4) rfl (by kernel_rfl) (opens_int Tryd.underlying27) (at_cons (sz := 1) (sz' := 3) rfl (by kernel_rfl) (opens_int Tryd.underlying3) (at_cons (sz := 1) (sz' := 2) rfl (by kernel_rfl) (opens_int Tryd.underlying3) (at_cons (sz := 1) (sz' := 1) rfl (by kernel_rfl) (opens_int Tryd.underlying3) (at_one (sz := 1) rfl (by kernel_rfl) (opens_int Tryd.underlying3))))))
def good30 : List CV → Prop := isL 1 16 (isS)
theorem opens30 : Opens Tryd.prog 30 1 good30 := opens_slice Tryd.underlying30 (by kernel_rfl) (by decide) (by kernel_rfl) (opens_string Tryd.underlying9)
def goodsUnivLogs : List CA → Prop := (fun l => ∃ a r, l = a :: r ∧ (fun a => ∃ x, a = .one x ∧ isI .i64 [x]) a ∧ (fun l => ∃ a r, l = a :: r ∧ (fun a => ∃ x, a = .one x ∧ isI .i64 [x]) a ∧ (fun l => l = []) r) r)
theorem opensUnivLogs : OpAll Tryd.prog [3, 3] goodsUnivLogs := (opAll_cons (opA_one (fun _ h => by rw [Tryd.underlying3] at h; cases h) (fun _ _ h => by rw [Tryd.underlying3] at h; cases h) (opens_int Tryd.underlying3)) (opAll_cons (opA_one (fun _ h => by rw [Tryd.underlying3] at h; cases h) (fun _ _ h => by rw [Tryd.underlying3] at h; cases h) (opens_int Tryd.underlying3)) opAll_nil))
def goodsUnivRises : List CA → Prop := (fun l => ∃ a r, l = a :: r ∧ (fun a => ∃ x, a = .one x ∧ isI .i64 [x]) a ∧ (fun l => ∃ a r, l = a :: r ∧ (fun a => ∃ x, a = .one x ∧ isI .i64 [x]) a ∧ (fun l => ∃ a r, l = a :: r ∧ (fun a => ∃ x, a = .one x ∧ isI .u8 [x]) a ∧ (fun l => l = []) r) r) r)
theorem opensUnivRises : OpAll Tryd.prog [3, 3, 5] goodsUnivRises := (opAll_cons (opA_one (fun _ h => by rw [Tryd.underlying3] at h; cases h) (fun _ _ h => by rw [Tryd.underlying3] at h; cases h) (opens_int Tryd.underlying3)) (opAll_cons (opA_one (fun _ h => by rw [Tryd.underlying3] at h; cases h) (fun _ _ h => by rw [Tryd.underlying3] at h; cases h) (opens_int Tryd.underlying3)) (opAll_cons (opA_one (fun _ h => by rw [Tryd.underlying5] at h; cases h) (fun _ _ h => by rw [Tryd.underlying5] at h; cases h) (opens_int Tryd.underlying5)) opAll_nil)))
def goodsUnivSeen : List CA → Prop := (fun l => ∃ a r, l = a :: r ∧ (fun a => ∃ l, a = .agg l ∧ l.length = 5 ∧ good29 l) a ∧ (fun l => ∃ a r, l = a :: r ∧ (fun a => ∃ x, a = .one x ∧ good30 [x]) a ∧ (fun l => l = []) r) r)
theorem opensUnivSeen : OpAll Tryd.prog [29, 30] goodsUnivSeen := (opAll_cons (opA_agg Tryd.underlying29 opens29) (opAll_cons (opA_one (fun _ h => by rw [Tryd.underlying30] at h; cases h) (fun _ _ h => by rw [Tryd.underlying30] at h; cases h) opens30) opAll_nil))
end Go.Proofs.YtngpmpmhpggpgaaDoorF
end

section
/- Each function's run over the program's whole table. -/
namespace Go.Proofs.YtngpmpmhpggpgaaDoorP
open Go Go.Proofs.Vm Go.Proofs.YtngpmpmhpggpgaaDoorF
def cfg : Cfg := ⟨shF, neF, cmpTab 67, ltF⟩
noncomputable def TV : Tab := TT Tryd.prog cfg
@[simp] theorem TV_cb : TV.cb = false := rfl
theorem run20 {args : List AV} {r : AV} {H H' : Hp} (hb : cfg.base.S 20 args H = none) (hl : args.length ≤ 8) (hH : Gr Tryd.prog 20 H H') (h : wpV Tryd.prog TV ⟨8, shF, false, noLate⟩ (Tryd.f20.body.getD .skip) (endS Tryd.prog Tryd.f20.results.toList r H') ⟨envS args, H⟩) : TV.S 20 args H = some (r, H') := TT_goS (N := ⟨8, shF, false, noLate⟩) Tryd.func20 (by kernel_rfl) ok20 (by kernel_rfl) (by kernel_rfl) hb hl hH h -- slices.Clone[[]rillmeter/heavy.Item,rillmeter/heavy.Item]
theorem run47 {args : List CA} {r : CA} (hl : args.length ≤ 17) (h : wpV Tryd.prog TV ⟨17, shF, false, noLate⟩ (Tryd.f47.body.getD .skip) (endK Tryd.prog Tryd.f47.results.toList r) ⟨env0 args, []⟩) : TV.pu 47 args = some r := TT_go (N := ⟨17, shF, false, noLate⟩) Tryd.func47 (by kernel_rfl) ok47 (by kernel_rfl) (by kernel_rfl) (fun _ => rfl) hl h -- rillmeter/heavy.order
theorem run65 {args : List CA} {r : CA} (hl : args.length ≤ 18) (h : wpV Tryd.prog TV ⟨18, shF, false, noLate⟩ (Tryd.f65.body.getD .skip) (endK Tryd.prog Tryd.f65.results.toList r) ⟨env0 args, []⟩) : TV.pu 65 args = some r := TT_go (N := ⟨18, shF, false, noLate⟩) Tryd.func65 (by kernel_rfl) ok65 (by kernel_rfl) (by kernel_rfl) (fun _ => rfl) hl h -- cmp.Or[int]
theorem run66 {args : List CA} {r : CA} (hl : args.length ≤ 20) (h : wpV Tryd.prog TV ⟨20, shF, false, noLate⟩ (Tryd.f66.body.getD .skip) (endK Tryd.prog Tryd.f66.results.toList r) ⟨env0 args, []⟩) : TV.pu 66 args = some r := TT_go (N := ⟨20, shF, false, noLate⟩) Tryd.func66 (by kernel_rfl) ok66 (by kernel_rfl) (by kernel_rfl) (fun _ => rfl) hl h -- cmp.Compare[int]
theorem run88 {args : List CA} {r : CA} (hl : args.length ≤ 6) (h : wpV Tryd.prog TV ⟨6, shF, false, noLate⟩ (Tryd.f88.body.getD .skip) (endK Tryd.prog Tryd.f88.results.toList r) ⟨env0 args, []⟩) : TV.pu 88 args = some r := TT_go (N := ⟨6, shF, false, noLate⟩) Tryd.func88 (by kernel_rfl) ok88 (by kernel_rfl) (by kernel_rfl) (fun _ => rfl) hl h -- cmp.isNaN[int]
end Go.Proofs.YtngpmpmhpggpgaaDoorP
end

section
/- Maps from strings to numbers, with their stamps, told as they are used. -/
namespace Go.Proofs.Vm
open Go

variable {P : Program}

/-! Maps from strings to numbers. -/
def mget (k : ByteArray) : SM → Option Int
  | [] => none
  | p :: r => if k = p.1 then some p.2 else mget k r
def mput (k : ByteArray) (v : Int) (m : SM) : SM := match mIx k m with
  | some j => m.set j (k, v)
  | none => m ++ [(k, v)]
def mdel (k : ByteArray) (m : SM) : SM := match mIx k m with
  | some j => m.eraseIdx j
  | none => m

/-- A map with its stamps, and the next stamp. -/
structure MS where
  m : SM
  b : List Int
  ck : Nat
structure MS.Ok (M : MS) : Prop where
  len : M.b.length = M.m.length
  nd : M.b.Nodup
  lt : ∀ x ∈ M.b, x < (M.ck : Int)
def MS.ent (M : MS) : Ent := .mp (M.ck, cM M.m M.b)
def MS.put (M : MS) (k : ByteArray) (v : Int) : MS := match mIx k M.m with
  | some _ => ⟨mput k v M.m, M.b, M.ck⟩
  | none => ⟨mput k v M.m, M.b ++ [(M.ck : Int)], M.ck + 1⟩
def MS.del (M : MS) (k : ByteArray) : MS := match mIx k M.m with
  | some j => ⟨mdel k M.m, M.b.eraseIdx j, M.ck⟩
  | none => M
def MS.stamp (M : MS) (k : ByteArray) : Int := match mIx k M.m with
  | some j => M.b[j]?.getD 0
  | none => 0
def MS.empty : MS := ⟨[], [], 0⟩
theorem MS.empty_ok : MS.empty.Ok := ⟨rfl, List.nodup_nil, fun x h => by cases h⟩
theorem MS.empty_ent : MS.empty.ent = .mp (0, []) := rfl
@[simp] theorem MS.put_m (M : MS) (k : ByteArray) (v : Int) : (M.put k v).m = mput k v M.m := by unfold MS.put; split <;> rfl
@[simp] theorem MS.del_m (M : MS) (k : ByteArray) : (M.del k).m = mdel k M.m := by
  unfold MS.del
  split
  · rfl
  · rename_i h; unfold mdel; rw [h]

theorem mIx_lt {k : ByteArray} : ∀ {m : SM} {j : Nat}, mIx k m = some j → ∃ h : j < m.length, m[j].1 = k ∧ mget k m = some m[j].2
  | [], j, h => by cases h
  | p :: r, j, h => by
    unfold mIx at h
    by_cases hk : k = p.1
    · rw [if_pos hk] at h
      cases h
      exact ⟨Nat.succ_pos _, hk.symm, by show mget k (p :: r) = some p.2; unfold mget; rw [if_pos hk]⟩
    · rw [if_neg hk] at h
      cases hr : mIx k r with
      | none => rw [hr] at h; cases h
      | some i =>
        rw [hr] at h
        cases h
        obtain ⟨h1, h2, h3⟩ := mIx_lt hr
        exact ⟨Nat.succ_lt_succ h1, h2, by unfold mget; rw [if_neg hk]; exact h3⟩
theorem mIx_no {k : ByteArray} : ∀ {m : SM}, mIx k m = none → mget k m = none
  | [], _ => rfl
  | p :: r, h => by
    unfold mIx at h
    by_cases hk : k = p.1
    · rw [if_pos hk] at h; cases h
    · rw [if_neg hk] at h
      unfold mget
      rw [if_neg hk]
      exact mIx_no (Option.map_eq_none_iff.1 h)

theorem MS.put_ok {M : MS} (h : M.Ok) (k : ByteArray) (v : Int) : (M.put k v).Ok := by
  unfold MS.put
  split
  · rename_i j hj
    exact ⟨by show M.b.length = (mput k v M.m).length; unfold mput; rw [hj]; simp [h.len], h.nd, h.lt⟩
  · rename_i hj
    refine ⟨by show (M.b ++ [(M.ck : Int)]).length = (mput k v M.m).length; unfold mput; rw [hj]; simp [h.len], ?_, ?_⟩
    · refine List.nodup_append.2 ⟨h.nd, by simp, ?_⟩
      intro x hx y hy
      have hy : y = (M.ck : Int) := by simpa using hy
      have := h.lt x hx
      omega
    · intro x hx
      show x < ((M.ck + 1 : Nat) : Int)
      rcases List.mem_append.1 hx with hx | hx
      · have := h.lt x hx; omega
      · have : x = (M.ck : Int) := by simpa using hx
        omega
theorem MS.del_ok {M : MS} (h : M.Ok) (k : ByteArray) : (M.del k).Ok := by
  unfold MS.del
  split
  · rename_i j hj
    obtain ⟨hl, _, _⟩ := mIx_lt hj
    refine ⟨?_, h.nd.sublist (List.eraseIdx_sublist _ _), fun x hx => h.lt x ((List.eraseIdx_sublist _ _).subset hx)⟩
    show (M.b.eraseIdx j).length = (mdel k M.m).length
    unfold mdel
    rw [hj]
    show (M.b.eraseIdx j).length = (M.m.eraseIdx j).length
    rw [List.length_eraseIdx, List.length_eraseIdx, h.len]
  · exact h

theorem cM_set : ∀ {m : SM} {b : List Int} {j : Nat} (k : ByteArray) (v : Int), b.length = m.length → ∀ h : j < m.length, m[j].1 = k →
    (cM m b).modify j (fun p => (.string k, .v (.int .i64 v) :: p.2.drop 1)) = cM (m.set j (k, v)) b ∧ (cM m b).modify j (fun p => (p.1, .v (.int .i64 v) :: p.2.drop 1)) = cM (m.set j (k, v)) b ∧ (cM m b).modify j (fun p => (.string k, p.2)) = cM m b
  | [], _, _, _, _, _, h, _ => by simp at h
  | p :: r, [], _, _, _, h, _, _ => by simp at h
  | p :: r, b :: bs, 0, k, v, _, _, hk => by
    have hk : p.1 = k := hk
    subst hk
    exact ⟨rfl, rfl, rfl⟩
  | p :: r, b :: bs, j + 1, k, v, hl, h, hk => by
    obtain ⟨h1, h2, h3⟩ := cM_set (m := r) (b := bs) (j := j) k v (by simpa using hl) (by simpa using h) hk
    refine ⟨?_, ?_, ?_⟩
    · show _ :: (cM r bs).modify j _ = _; rw [h1]; rfl
    · show _ :: (cM r bs).modify j _ = _; rw [h2]; rfl
    · show _ :: (cM r bs).modify j _ = _; rw [h3]; rfl
theorem cM_app : ∀ {m : SM} {b : List Int} (k : ByteArray) (v x : Int), b.length = m.length → cM m b ++ [(.string k, [.v (.int .i64 v), .v (.int .i64 x)])] = cM (m ++ [(k, v)]) (b ++ [x])
  | [], [], _, _, _, _ => rfl
  | [], b :: bs, _, _, _, h => by simp at h
  | p :: r, [], _, _, _, h => by simp at h
  | p :: r, b :: bs, k, v, x, h => by
    show _ :: (cM r bs ++ _) = _
    rw [cM_app k v x (by simpa using h)]
    rfl
theorem cM_erase : ∀ {m : SM} {b : List Int} (j : Nat), b.length = m.length → (cM m b).eraseIdx j = cM (m.eraseIdx j) (b.eraseIdx j)
  | [], [], _, _ => rfl
  | [], b :: bs, _, h => by simp at h
  | p :: r, [], _, h => by simp at h
  | p :: r, b :: bs, 0, _ => rfl
  | p :: r, b :: bs, j + 1, h => by
    show _ :: (cM r bs).eraseIdx j = _
    rw [cM_erase j (by simpa using h)]
    rfl
theorem cM_stamp : ∀ {m : SM} {b : List Int} {j : Nat} (_hl : b.length = m.length) (_ : b.Nodup) (h : j < b.length), (cM m b).findIdx? (stampIs b[j]) = some j
  | [], b, j, hl, _, h => by simp at hl; subst hl; simp at h
  | p :: r, [], j, _, _, h => by simp at h
  | p :: r, b :: bs, 0, _, _, _ => by
    show ((Value.string p.1, [CV.v (.int .i64 p.2), .v (.int .i64 b)]) :: cM r bs).findIdx? _ = _
    rw [List.findIdx?_cons, if_pos (by show (b == b) = true; simp)]
  | p :: r, b :: bs, j + 1, hl, hn, h => by
    have hj : j < bs.length := by simpa using h
    have hne : b ≠ bs[j] := fun e => (List.nodup_cons.1 hn).1 (e ▸ List.getElem_mem hj)
    show ((Value.string p.1, [CV.v (.int .i64 p.2), .v (.int .i64 b)]) :: cM r bs).findIdx? (stampIs bs[j]) = _
    rw [List.findIdx?_cons, if_neg (by show ¬ (b == bs[j]) = true; simpa using hne), cM_stamp (by simpa using hl) (List.nodup_cons.1 hn).2 hj]
    rfl

section
variable {H : Hp} {t : TypeId} {mi : Nat} {M : MS} {k : ByteArray} {v : Int}

theorem mapAt_eq (h : H[mi]? = some M.ent) : mapAt H (.one (.mp mi)) = some (mi, (M.ck, cM M.m M.b)) := by simp only [mapAt, h, MS.ent]
theorem lk_eq (ht : mapTy P t = some (.string, .int .i64 0)) (ok : M.Ok) (h : H[mi]? = some M.ent) :
    vlookup P H t (.one (.mp mi)) (.one (.c (.v (.string k)))) true = qa (.tup [(false, [.c (.v (.int .i64 ((mget k M.m).getD 0)))]), (false, [.c (.v (.bool (mget k M.m).isSome))])]) := by
  unfold vlookup
  rw [ht, mapAt_eq h]
  have sc : (AV.one (.c (.v (.string k)))).sc = some (.string k) := rfl
  have kd : kindOk .string (.string k) = true := rfl
  simp only [sc, kd, if_true]
  rw [find_cM k M.m M.b ok.len]
  cases hj : mIx k M.m with
  | none => simp only [mIx_no hj]; rfl
  | some j =>
    obtain ⟨hl, _, hg⟩ := mIx_lt hj
    simp only [cM_get M.m M.b j hl (by rw [ok.len]; exact hl), hg]
    rfl
theorem mu_eq (ht : mapTy P t = some (.string, .int .i64 0)) (ok : M.Ok) (h : H[mi]? = some M.ent) :
    vmapUpdate P H t (.one (.mp mi)) (.one (.c (.v (.string k)))) (.one (.c (.v (.int .i64 v)))) = some (und, H.set mi (M.put k v).ent) := by
  unfold vmapUpdate
  rw [ht, mapAt_eq h]
  have sc : (AV.one (.c (.v (.string k)))).sc = some (.string k) := rfl
  have kd : kindOk .string (.string k) = true := rfl
  simp only [sc, kd, if_true]
  rw [find_cM k M.m M.b ok.len]
  simp only [MS.put, mput, MS.ent]
  cases hj : mIx k M.m with
  | none =>
    simp only [putM, cM_app k v M.ck ok.len]
  | some j =>
    obtain ⟨hl, hk, _⟩ := mIx_lt hj
    simp only [putM, (cM_set k v ok.len hl hk).1]
theorem md_eq (ht : mapTy P t = some (.string, .int .i64 0)) (ok : M.Ok) (h : H[mi]? = some M.ent) :
    vdelete P H t (.one (.mp mi)) (.one (.c (.v (.string k)))) = some (und, H.set mi (M.del k).ent) := by
  unfold vdelete
  rw [ht, mapAt_eq h]
  have sc : (AV.one (.c (.v (.string k)))).sc = some (.string k) := rfl
  have kd : kindOk .string (.string k) = true := rfl
  simp only [sc, kd, if_true]
  rw [find_cM k M.m M.b ok.len]
  cases hj : mIx k M.m with
  | none => simp only [MS.del, hj, MS.ent]
  | some j =>
    simp only [MS.del, hj, mdel, MS.ent, cM_erase j ok.len]
theorem me_eq (ht : mapTy P t = some (.string, .int .i64 0)) (ok : M.Ok) (h : H[mi]? = some M.ent) (hg : (mget k M.m).isSome = true) :
    vmapEntry P H t (.one (.mp mi)) (.one (.c (.v (.string k)))) = some (.tup [(false, [.c (.v (.int .i64 ((mget k M.m).getD 0)))]), (false, [.c (.v (.int .i64 (M.stamp k)))])], H) := by
  unfold vmapEntry
  rw [ht, mapAt_eq h]
  have sc : (AV.one (.c (.v (.string k)))).sc = some (.string k) := rfl
  have kd : kindOk .string (.string k) = true := rfl
  simp only [sc, kd, if_true]
  rw [find_cM k M.m M.b ok.len]
  cases hj : mIx k M.m with
  | none => rw [mIx_no hj] at hg; cases hg
  | some j =>
    obtain ⟨hl, hk, hg'⟩ := mIx_lt hj
    have hb : j < M.b.length := by rw [ok.len]; exact hl
    simp only [cM_get M.m M.b j hl hb, (cM_set k 0 ok.len hl hk).2.2, hg', MS.stamp, hj, List.getElem?_eq_getElem hb]
    rw [set_same (e := .mp (M.ck, cM M.m M.b)) h]
    rfl
theorem es_eq (ok : M.Ok) (h : H[mi]? = some M.ent) (hg : (mget k M.m).isSome = true) :
    ventryStore H (.one (.mp mi)) (.one (.c (.v (.int .i64 (M.stamp k))))) (.one (.c (.v (.int .i64 v)))) = some (und, H.set mi (M.put k v).ent) := by
  unfold ventryStore
  rw [mapAt_eq h]
  cases hj : mIx k M.m with
  | none => rw [mIx_no hj] at hg; cases hg
  | some j =>
    obtain ⟨hl, hk, hg'⟩ := mIx_lt hj
    have hb : j < M.b.length := by rw [ok.len]; exact hl
    have hs : M.stamp k = M.b[j] := by simp only [MS.stamp, hj, List.getElem?_eq_getElem hb]; rfl
    simp only [MS.ent, hs, cM_stamp ok.len ok.nd hb, (cM_set k v ok.len hl hk).2.1, MS.put, mput, hj]
theorem ml_eq {ty : TypeId} (ht : isMapT P t = true) (ok : M.Ok) (h : H[mi]? = some M.ent) : vlen P H #[t] ty (.one (.mp mi)) = qa (.one (.c (.v (.int .i64 M.m.length)))) := by
  have e1 := mapAt_eq h
  unfold vlen
  simp only [show (#[t] : Array TypeId)[0]? = some t from rfl, e1, ht, if_true, cM_len M.m M.b ok.len]
  rfl
end

end Go.Proofs.Vm
end

section
/- Small laws of the machine's numbers. -/
namespace Go.Proofs.Vm
open Go

variable {P : Program} {H : Hp}

theorem w64_id {x : Int} (h0 : -9223372036854775808 ≤ x) (h1 : x < 9223372036854775808) : IntKind.i64.wrap x = x := by rw [IntKind.wrap_i64]; omega
theorem bin_half {t : TypeId} {x y : Operand} {k : Nat} (h : k < 9223372036854775808) : vbin P H .quo t x y (vI .i64 (k : Int)) (vI .i64 2) = qa (vI .i64 ((k / 2 : Nat) : Int)) := by
  rw [bin_quo (by decide)]
  have e : (k : Int).tdiv 2 = ((k / 2 : Nat) : Int) := by rw [Int.tdiv_eq_ediv_of_nonneg (by omega)]; omega
  rw [e, w64_id (by omega) (by omega)]
theorem hq_gete (K : Hp) (a b c : Nat) (x y z : Ent) (L : Hp) (j : Nat) (h : K.length + j < (hq K a b c x y z L).length) : (hq K a b c x y z L)[K.length + j]'h = L[j]'(by rw [hq_len] at h; omega) := by
  have h1 := hq_get K a b c x y z L j
  have hj : j < L.length := by rw [hq_len] at h; omega
  rw [List.getElem?_eq_getElem h, List.getElem?_eq_getElem hj] at h1
  exact Option.some.inj h1
@[simp] theorem isNil_ptr {p : Option Addr} : isNil (.const (.pointer p)) = false := rfl
theorem bin_pne {t e : TypeId} (hu : pv P (underlying t) = some (.pointer e)) {x y : Operand} {p : Pt} (hl : lenIs H p.id p.tot = true) : vbin P H .eql t x y (.one (.ptr p)) (.one (.c (.v (.pointer none)))) = qa (vB false) := by
  simp [-lenIs, vbin, vbin0, neSl, isNils, isPtr, isNilp, fresh, hl, hu, one?, Value.oneCell']
theorem bin_slo {t e : TypeId} (he : elemOfSlice P t = some e) {x y : Operand} {id o n tot : Nat} (hn : n ≠ 0) (hl : lenIs H id tot = true) : vbin P H .eql t x y (.one (.sl id o n tot)) (.one (.c (.v (.slice none 0 0)))) = qa (vB false) := by
  have hu : ∃ d, pv P (underlying t) = some (.slice d) := by
    unfold elemOfSlice at he
    split at he
    · rename_i d hd; exact ⟨_, hd⟩
    · cases he
  obtain ⟨d, hd⟩ := hu
  simp [-lenIs, vbin, neSl, isNils, okSl, hl, hn, hd, one?, Value.oneCell']
theorem eq_sl {t e : TypeId} (hu : pv P (underlying t) = some (.slice e)) (ad : Option Addr) (n c : Nat) (d : Nat) : pv P (Op.equalIn (d + 1) t (.slice ad n c) (.slice none 0 0)) = some ad.isNone := by
  unfold Op.equalIn
  cases ad <;> simp [hu]
theorem bin_slr {t e : TypeId} (he : elemOfSlice P t = some e) {x y : Operand} {ad : Option Addr} {n c : Nat} : vbin P H .eql t x y (.one (.c (.v (.slice ad n c)))) (.one (.c (.v (.slice none 0 0)))) = qa (vB ad.isNone) := by
  have hu : ∃ d, pv P (underlying t) = some (.slice d) := by
    unfold elemOfSlice at he
    split at he
    · rename_i d hd; exact ⟨_, hd⟩
    · cases he
  obtain ⟨d, hd⟩ := hu
  simp [vbin, vbin0, neSl, isNils, isPtr, isNilp, fresh, AV.sc, Cell.sc, eqGuard, binOp, ofPv, one?, Value.oneCell', Op.equal, Op.maxDepth, eq_sl hd ad n c 9999]
theorem eq_bool {t : TypeId} (hu : pv P (underlying t) = some .bool) (a b : Bool) (d : Nat) : pv P (Op.equalIn (d + 1) t (.bool a) (.bool b)) = some (a == b) := by
  unfold Op.equalIn
  simp [hu]
theorem eq_nil {t e : TypeId} (hu : pv P (underlying t) = some (.pointer e)) (d : Nat) : pv P (Op.equalIn (d + 1) t (.pointer none) (.pointer none)) = some true := by
  unfold Op.equalIn
  simp [hu]
theorem bin_pee {t e : TypeId} (hu : pv P (underlying t) = some (.pointer e)) {x y : Operand} : vbin P H .eql t x y (.one (.c (.v (.pointer none)))) (.one (.c (.v (.pointer none)))) = qa (vB true) := by
  simp [vbin, vbin0, neSl, isNils, isPtr, isNilp, fresh, AV.sc, Cell.sc, eqGuard, binOp, ofPv, one?, Value.oneCell', Op.equal, Op.maxDepth, eq_nil hu 9999]
theorem bin_bne {t : TypeId} (hu : pv P (underlying t) = some .bool) {x y : Operand} {a b : Bool} : vbin P H .neq t x y (vB a) (vB b) = qa (vB (a != b)) := by
  simp [vbin, vbin0, neSl, isNils, isPtr, isNilp, fresh, AV.sc, Cell.sc, eqGuard, binOp, ofPv, one?, Value.oneCell', Op.equal, Op.maxDepth, eq_bool hu a b 9999]
  rfl
theorem bin_beq {t : TypeId} (hu : pv P (underlying t) = some .bool) {x y : Operand} {a b : Bool} : vbin P H .eql t x y (vB a) (vB b) = qa (vB (a == b)) := by
  simp [vbin, vbin0, neSl, isNils, isPtr, isNilp, fresh, AV.sc, Cell.sc, eqGuard, binOp, ofPv, one?, Value.oneCell', Op.equal, Op.maxDepth, eq_bool hu a b 9999]
/-- The first so many of a row that does not change. -/
theorem slc_to {t e sz : Nat} (he : elemOfSlice P t = some e) (hs : pv P (sizeOf e) = some sz) {xs : List (List CV)} {nid k : Nat} (h1 : k ≤ xs.length) (hx : AllLen xs sz) : vslice P H nid t (.one (.c (.arr xs))) none (some (vI .i64 (k : Int))) none = qa (.one (.c (.arr (xs.take k)))) := by
  have h2 : (k : Int) ≤ xs.length := by omega
  unfold vslice
  simp only [he, hs, optInt, Option.getD_none, Option.getD_some]
  rw [if_pos ⟨Int.le_refl _, by omega, h2, hx⟩]
  simp
end Go.Proofs.Vm
end

section
/- The order of items, over the first table (before the sort is known) and over the whole one. -/
namespace Go.Proofs.YtngpmpmhpggpgaaDoorP
open Go Go.Proofs.Vm Go.Proofs.YtngpmpmhpggpgaaDoorF

theorem isNaN (x : Int) : TV.pu 88 [cI .i64 x] = some (cB false) := by
  refine run88 (by simp) ?_
  simp -implicitDefEqProofs [Tryd.f88]
theorem Compare (x y : Int) : TV.pu 66 [cI .i64 x, cI .i64 y] = some (cI .i64 (cmpI x y)) := by
  refine run66 (by simp) ?_
  by_cases h1 : x < y
  · simp -implicitDefEqProofs [Tryd.f66, isNaN, cmpI, h1]
  · by_cases h2 : y < x <;> simp -implicitDefEqProofs [Tryd.f66, isNaN, cmpI, h1, h2]
theorem Or (x y : Int) : TV.pu 65 [.one (.arr [[.v (.int .i64 x)], [.v (.int .i64 y)]])] = some (cI .i64 (if x ≠ 0 then x else y)) := by
  refine run65 (by simp) ?_
  have w1 : IntKind.i64.wrap 1 = 1 := by decide
  have w2 : IntKind.i64.wrap 2 = 2 := by decide
  simp -implicitDefEqProofs [Tryd.f65]
  refine wpL_step ?_
  by_cases h1 : x = 0
  · simp -implicitDefEqProofs [h1, w1]
    refine wpL_step ?_
    by_cases h2 : y = 0
    · simp -implicitDefEqProofs [h2, w2]
      refine wpL_step ?_
      simp -implicitDefEqProofs
    · simp -implicitDefEqProofs [h2]
  · simp -implicitDefEqProofs [h1]
theorem cmpPu (x y : ByteArray) : TV.pu 67 [.one (.v (.string x)), .one (.v (.string y))] = some (cI .i64 (cmpB x y)) := TT_base rfl
end Go.Proofs.YtngpmpmhpggpgaaDoorP
namespace Go.Proofs.YtngpmpmhpggpgaaDoorF
open Go Go.Proofs.Vm

theorem isNaN (x : Int) : TV.pu 88 [cI .i64 x] = some (cB false) := by
  refine run88 (by simp) ?_
  simp -implicitDefEqProofs [Tryd.f88]
theorem Compare (x y : Int) : TV.pu 66 [cI .i64 x, cI .i64 y] = some (cI .i64 (cmpI x y)) := by
  refine run66 (by simp) ?_
  by_cases h1 : x < y
  · simp -implicitDefEqProofs [Tryd.f66, isNaN, cmpI, h1]
  · by_cases h2 : y < x <;> simp -implicitDefEqProofs [Tryd.f66, isNaN, cmpI, h1, h2]
theorem Or (x y : Int) : TV.pu 65 [.one (.arr [[.v (.int .i64 x)], [.v (.int .i64 y)]])] = some (cI .i64 (if x ≠ 0 then x else y)) := by
  refine run65 (by simp) ?_
  have w1 : IntKind.i64.wrap 1 = 1 := by decide
  have w2 : IntKind.i64.wrap 2 = 2 := by decide
  simp -implicitDefEqProofs [Tryd.f65]
  refine wpL_step ?_
  by_cases h1 : x = 0
  · simp -implicitDefEqProofs [h1, w1]
    refine wpL_step ?_
    by_cases h2 : y = 0
    · simp -implicitDefEqProofs [h2, w2]
      refine wpL_step ?_
      simp -implicitDefEqProofs
    · simp -implicitDefEqProofs [h2]
  · simp -implicitDefEqProofs [h1]
theorem cmpPu (x y : ByteArray) : TV.pu 67 [.one (.v (.string x)), .one (.v (.string y))] = some (cI .i64 (cmpB x y)) := TT_base rfl
end Go.Proofs.YtngpmpmhpggpgaaDoorF
end

section
/- The order of a heap's items, over the first table (before the sort is known) and over the whole one. -/
set_option maxRecDepth 8192
set_option maxHeartbeats 2000000
namespace Go.Proofs.YtngpmpmhpggpgaaDoorP
open Go Go.Proofs.Vm Go.Proofs.YtngpmpmhpggpgaaDoorF

theorem horder (a b : Itm) : TV.pu 47 [.agg (cItm a), .agg (cItm b)] = some (cI .i64 (ordI a b)) := by
  refine run47 (by simp) ?_
  simp -implicitDefEqProofs [Tryd.f47, Compare, Or, cItm, ordI, cmpPu, vbuildSlice_eq es72 el3, cellsOf?, fzParts, setAll, rchParts, rch]
/-- A slice of none, as it is. -/
theorem clone0 (ad : Option Addr) (cap : Nat) (H : Hp) : TV.S 20 [.one (.c (.v (.slice ad 0 cap)))] H = some (.one (.sl (H.length + 1) 0 0 0), H ++ [.clo [] false, .clo [] false]) := by
  refine run20 rfl (by simp) (by simp) ?_
  cases ad with
  | none =>
    simp -implicitDefEqProofs [Tryd.f20, vmove, isNil, bin_slr es34]
  | some a =>
    simp -implicitDefEqProofs [Tryd.f20, vmove, isNil, bin_slr es34, bs_zero es34 el43, vappend_sp es34 es34 el43, elemsOf]
end Go.Proofs.YtngpmpmhpggpgaaDoorP
namespace Go.Proofs.YtngpmpmhpggpgaaDoorF
open Go Go.Proofs.Vm

theorem horder (a b : Itm) : TV.pu 47 [.agg (cItm a), .agg (cItm b)] = some (cI .i64 (ordI a b)) := by
  refine run47 (by simp) ?_
  simp -implicitDefEqProofs [Tryd.f47, Compare, Or, cItm, ordI, cmpPu, vbuildSlice_eq es72 el3, cellsOf?, fzParts, setAll, rchParts, rch]
end Go.Proofs.YtngpmpmhpggpgaaDoorF
end

section
/-
  DERIVED: THE SHELF's CONTRACTS AT THIS DUMP, IN PLAIN WORDS (tools/lay-plain.mjs out of 'YtngpmpmhpggpgaaDoorShelfSrc.lean', which tools/lay-shelf.mjs wrote): THE SAME DECLARATIONS UNDER THE SAME NAMES: 'import', 'namespace', 'open', 'def', 'theorem' AND NOTHING ELSE: no command of the shelf's: FOR A HAND-IN. Each laying: the table of numbers ('.._ren') and one theorem, a field a fact of the dump's own or the kernel's comparison; each contract: ONE APPLICATION.
-/
namespace Go.Proofs
open Go.Shelf
def Tryd.lays213_ren : Go.Shelf.Ren := ⟨fun | 213 => 89 | 265 => 98 | n => n, fun | 9 => 9 | 3 => 3 | n => n, fun | n => n⟩
theorem Tryd.lays213 : Go.Proofs.Lays.n213 Tryd.prog Tryd.lays213_ren := {
  mixed := by kernel_rfl
  f213 := Tryd.func89.trans (congrArg some (by kernel_rfl))
  f265 := Tryd.func98.trans (congrArg some (by kernel_rfl))
  t3 := Tryd.underlying3
  a3 := Tryd.isAgg3
  z3 := Tryd.sizeOf3
  v3 := Tryd.zeroValue3
  t9 := Tryd.underlying9
  a9 := Tryd.isAgg9
  z9 := Tryd.sizeOf9
  v9 := Tryd.zeroValue9 }
open Go.RowKit in
/-- internal/bytealg.CompareString (what strings.Compare calls): IT RETURNS 'Lib.compareBytes a b'; the world is as it was. (LAID: no walk: one application.) -/
theorem Tryd.bytealg_CompareString (a b : ByteArray) (w : World) :
    Calls Tryd.prog 89 #[.string a, .string b] w fun e w' => e = .returned (.int .i64 (Lib.compareBytes a.data.toList b.data.toList)) ∧ w' = w := Any.bytealg_CompareString Tryd.lays213 a b w
def Tryd.lays106_ren : Go.Shelf.Ren := ⟨fun | 106 => 67 | 213 => 89 | 265 => 98 | n => n, fun | 9 => 9 | 3 => 3 | n => n, fun | n => n⟩
theorem Tryd.lays106 : Go.Proofs.Lays.n106 Tryd.prog Tryd.lays106_ren := {
  mixed := by kernel_rfl
  f106 := Tryd.func67.trans (congrArg some (by kernel_rfl))
  f213 := Tryd.func89.trans (congrArg some (by kernel_rfl))
  f265 := Tryd.func98.trans (congrArg some (by kernel_rfl))
  t3 := Tryd.underlying3
  a3 := Tryd.isAgg3
  z3 := Tryd.sizeOf3
  v3 := Tryd.zeroValue3
  t9 := Tryd.underlying9
  a9 := Tryd.isAgg9
  z9 := Tryd.sizeOf9
  v9 := Tryd.zeroValue9 }
open Go.RowKit in
/-- strings.Compare: "Compare returns an integer comparing two strings lexicographically. The result will be 0 if a == b, -1 if a < b, and +1 if a > b.": IT RETURNS 'Lib.compareBytes a b'; the world is as it was. (LAID: no walk: one application.) -/
theorem Tryd.strings_Compare (a b : ByteArray) (w : World) :
    Calls Tryd.prog 67 #[.string a, .string b] w fun e w' => e = .returned (.int .i64 (Lib.compareBytes a.data.toList b.data.toList)) ∧ w' = w := Any.strings_Compare Tryd.lays106 a b w
def Tryd.lays215_ren : Go.Shelf.Ren := ⟨fun | 215 => 88 | n => n, fun | 3 => 3 | 4 => 4 | n => n, fun | n => n⟩
theorem Tryd.lays215 : Go.Proofs.Lays.n215 Tryd.prog Tryd.lays215_ren := {
  mixed := by kernel_rfl
  f215 := Tryd.func88.trans (congrArg some (by kernel_rfl))
  t3 := Tryd.underlying3
  a3 := Tryd.isAgg3
  z3 := Tryd.sizeOf3
  v3 := Tryd.zeroValue3
  t4 := Tryd.underlying4
  a4 := Tryd.isAgg4
  z4 := Tryd.sizeOf4
  v4 := Tryd.zeroValue4 }
open Go.RowKit in
/-- cmp.isNaN at int: 'x != x': false. (LAID: no walk: one application.) -/
theorem Tryd.cmp_isNaN_int (x : Int) (w : World) :
    Calls Tryd.prog 88 #[.int .i64 x] w fun e w' => e = .returned (.bool false) ∧ w' = w := Any.cmp_isNaN_int Tryd.lays215 x w
def Tryd.lays122_ren : Go.Shelf.Ren := ⟨fun | 122 => 66 | 215 => 88 | n => n, fun | 3 => 3 | 4 => 4 | n => n, fun | n => n⟩
theorem Tryd.lays122 : Go.Proofs.Lays.n122 Tryd.prog Tryd.lays122_ren := {
  mixed := by kernel_rfl
  f122 := Tryd.func66.trans (congrArg some (by kernel_rfl))
  f215 := Tryd.func88.trans (congrArg some (by kernel_rfl))
  t3 := Tryd.underlying3
  a3 := Tryd.isAgg3
  z3 := Tryd.sizeOf3
  v3 := Tryd.zeroValue3
  t4 := Tryd.underlying4
  a4 := Tryd.isAgg4
  z4 := Tryd.sizeOf4
  v4 := Tryd.zeroValue4 }
open Go.RowKit in
/-- cmp.Compare at int: "Compare returns -1 if x is less than y, 0 if x equals y, +1 if x is greater than y.": IT RETURNS 'Lib.compareInt x y'; the world is as it was. (LAID: no walk: one application.) -/
theorem Tryd.cmp_Compare_int (x y : Int) (w : World) :
    Calls Tryd.prog 66 #[.int .i64 x, .int .i64 y] w fun e w' => e = .returned (.int .i64 (Lib.compareInt x y)) ∧ w' = w := Any.cmp_Compare_int Tryd.lays122 x y w
def Tryd.lays189_ren : Go.Shelf.Ren := ⟨fun | 189 => 45 | 125 => 13 | 257 => 63 | 128 => 22 | 129 => 23 | 294 => 71 | 295 => 72 | 296 => 73 | 297 => 74 | 298 => 75 | 299 => 76 | 216 => 77 | 300 => 78 | 301 => 79 | 328 => 90 | 329 => 91 | 330 => 92 | 331 => 93 | 332 => 94 | 215 => 88 | 343 => 99 | n => n, fun | 28 => 72 | 3 => 3 | 46 => 47 | 0 => 0 | 51 => 59 | 53 => 27 | 4 => 4 | 183 => 109 | 182 => 108 | 131 => 82 | 5 => 5 | 9 => 9 | 218 => 119 | 222 => 123 | 228 => 127 | 229 => 79 | n => n, fun | n => n⟩
theorem Tryd.lays189 : Go.Proofs.Lays.n189 Tryd.prog Tryd.lays189_ren := {
  mixed := by kernel_rfl
  f125 := Tryd.func13.trans (congrArg some (by kernel_rfl))
  f128 := Tryd.func22.trans (congrArg some (by kernel_rfl))
  f129 := Tryd.func23.trans (congrArg some (by kernel_rfl))
  f189 := Tryd.func45.trans (congrArg some (by kernel_rfl))
  f215 := Tryd.func88.trans (congrArg some (by kernel_rfl))
  f216 := Tryd.func77.trans (congrArg some (by kernel_rfl))
  f257 := Tryd.func63.trans (congrArg some (by kernel_rfl))
  f294 := Tryd.func71.trans (congrArg some (by kernel_rfl))
  f295 := Tryd.func72.trans (congrArg some (by kernel_rfl))
  f296 := Tryd.func73.trans (congrArg some (by kernel_rfl))
  f297 := Tryd.func74.trans (congrArg some (by kernel_rfl))
  f298 := Tryd.func75.trans (congrArg some (by kernel_rfl))
  f299 := Tryd.func76.trans (congrArg some (by kernel_rfl))
  f300 := Tryd.func78.trans (congrArg some (by kernel_rfl))
  f301 := Tryd.func79.trans (congrArg some (by kernel_rfl))
  f328 := Tryd.func90.trans (congrArg some (by kernel_rfl))
  f329 := Tryd.func91.trans (congrArg some (by kernel_rfl))
  f330 := Tryd.func92.trans (congrArg some (by kernel_rfl))
  f331 := Tryd.func93.trans (congrArg some (by kernel_rfl))
  f332 := Tryd.func94.trans (congrArg some (by kernel_rfl))
  f343 := Tryd.func99.trans (congrArg some (by kernel_rfl))
  t0 := Tryd.underlying0
  a0 := Tryd.isAgg0
  z0 := Tryd.sizeOf0
  v0 := Tryd.zeroValue0
  t3 := Tryd.underlying3
  a3 := Tryd.isAgg3
  z3 := Tryd.sizeOf3
  v3 := Tryd.zeroValue3
  t4 := Tryd.underlying4
  a4 := Tryd.isAgg4
  z4 := Tryd.sizeOf4
  v4 := Tryd.zeroValue4
  t5 := Tryd.underlying5
  a5 := Tryd.isAgg5
  z5 := Tryd.sizeOf5
  v5 := Tryd.zeroValue5
  t9 := Tryd.underlying9
  a9 := Tryd.isAgg9
  z9 := Tryd.sizeOf9
  v9 := Tryd.zeroValue9
  t28 := Tryd.underlying72
  a28 := Tryd.isAgg72
  z28 := Tryd.sizeOf72
  v28 := Tryd.zeroValue72
  t46 := Tryd.underlying47
  a46 := Tryd.isAgg47
  z46 := Tryd.sizeOf47
  v46 := Tryd.zeroValue47
  t51 := Tryd.underlying59
  a51 := Tryd.isAgg59
  z51 := Tryd.sizeOf59
  v51 := Tryd.zeroValue59
  t53 := Tryd.underlying27
  a53 := Tryd.isAgg27
  z53 := Tryd.sizeOf27
  v53 := Tryd.zeroValue27
  t131 := Tryd.underlying82
  a131 := Tryd.isAgg82
  z131 := Tryd.sizeOf82
  v131 := Tryd.zeroValue82
  t182 := Tryd.underlying108
  a182 := Tryd.isAgg108
  z182 := Tryd.sizeOf108
  v182 := Tryd.zeroValue108
  t183 := Tryd.underlying109
  a183 := Tryd.isAgg109
  z183 := Tryd.sizeOf109
  v183 := Tryd.zeroValue109
  t218 := Tryd.underlying119
  a218 := Tryd.isAgg119
  z218 := Tryd.sizeOf119
  v218 := Tryd.zeroValue119
  t222 := Tryd.underlying123
  a222 := Tryd.isAgg123
  z222 := Tryd.sizeOf123
  v222 := Tryd.zeroValue123
  t228 := Tryd.underlying127
  a228 := Tryd.isAgg127
  z228 := Tryd.sizeOf127
  v228 := Tryd.zeroValue127
  t229 := Tryd.underlying79
  a229 := Tryd.isAgg79
  z229 := Tryd.sizeOf79
  v229 := Tryd.zeroValue79 }
open Go.Sort Go.RowKit in
theorem Tryd.slices_Sort_int (blk off cap : Nat) (zs : List Int) (w : World) (hH : Holds (Value.int .i64) w blk off zs.toArray) (hblk : blk < w.heap.size) (hsz : zs.length < 4611686018427387904) :
    Calls Tryd.prog 45 #[.slice (some ⟨blk, off, none⟩) zs.length cap] w fun e w' =>
      e = .returned (.tuple #[]) ∧ ∃ n os, w' = grow (putRow (Value.int .i64) (Sort.ahead w n) blk off (zs.mergeSort fun x y => decide (x ≤ y)).toArray) os := Any.slices_Sort_int Tryd.lays189 blk off cap zs w hH hblk hsz
open Go.RowKit Go.Sort in
/-- .. and plain. (LAID: no walk: one application.) -/
theorem Tryd.slices_Sort_int_none (p : Option Addr) (cap : Nat) (w : World) :
    Calls Tryd.prog 45 #[.slice p 0 cap] w fun e w' => e = .returned (.tuple #[]) ∧ w' = w := Any.slices_Sort_int_none Tryd.lays189 p cap w
def Tryd.laysTz_ren : Go.Shelf.Ren := ⟨fun | 29 => 57 | n => n, fun | 22 => 27 | 3 => 3 | 4 => 4 | 25 => 47 | 54 => 106 | 0 => 0 | 5 => 5 | n => n, fun | 1 => 0 | n => n⟩
theorem Tryd.laysTz : Go.Proofs.Lays7.n29 Tryd.prog Tryd.laysTz_ren := {
  mixed := by kernel_rfl
  f29 := Tryd.func57.trans (congrArg some (by kernel_rfl))
  t0 := Tryd.underlying0
  a0 := Tryd.isAgg0
  z0 := Tryd.sizeOf0
  v0 := Tryd.zeroValue0
  i0 := by kernel_rfl
  t3 := Tryd.underlying3
  a3 := Tryd.isAgg3
  z3 := Tryd.sizeOf3
  v3 := Tryd.zeroValue3
  i3 := by kernel_rfl
  t4 := Tryd.underlying4
  a4 := Tryd.isAgg4
  z4 := Tryd.sizeOf4
  v4 := Tryd.zeroValue4
  i4 := by kernel_rfl
  t5 := Tryd.underlying5
  a5 := Tryd.isAgg5
  z5 := Tryd.sizeOf5
  v5 := Tryd.zeroValue5
  i5 := by kernel_rfl
  t22 := Tryd.underlying27
  a22 := Tryd.isAgg27
  z22 := Tryd.sizeOf27
  v22 := Tryd.zeroValue27
  i22 := by kernel_rfl
  t25 := Tryd.underlying47
  a25 := Tryd.isAgg47
  z25 := Tryd.sizeOf47
  v25 := Tryd.zeroValue47
  i25 := by kernel_rfl
  t54 := Tryd.underlying106
  a54 := Tryd.isAgg106
  z54 := Tryd.sizeOf106
  g1 := by kernel_rfl }
def Tryd.laysSortItem_ren : Go.Shelf.Ren := ⟨fun | 6 => 46 | 15 => 13 | 14 => 64 | 28 => 22 | 29 => 23 | 20 => 80 | 21 => 81 | 22 => 82 | 23 => 83 | 24 => 84 | 25 => 85 | 26 => 86 | 27 => 87 | 46 => 95 | 47 => 91 | 48 => 92 | 49 => 96 | 50 => 97 | 57 => 100 | n => n, fun | 22 => 34 | 24 => 43 | 25 => 89 | 3 => 3 | 39 => 47 | 0 => 0 | 53 => 59 | 55 => 27 | 4 => 4 | 46 => 109 | 45 => 108 | 50 => 82 | 5 => 5 | 9 => 9 | 66 => 119 | 70 => 123 | 76 => 127 | 77 => 79 | n => n, fun | n => n⟩
theorem Tryd.laysSortItem : Go.Proofs.SlLaysF0.n6 Tryd.prog Tryd.laysSortItem_ren := {
  mixed := by kernel_rfl
  f6 := ⟨Tryd.f46.name, by decide, Tryd.func46.trans (congrArg some (by kernel_rfl))⟩
  f14 := ⟨Tryd.f64.name, by decide, Tryd.func64.trans (congrArg some (by kernel_rfl))⟩
  f15 := Tryd.func13.trans (congrArg some (by kernel_rfl))
  f20 := ⟨Tryd.f80.name, by decide, Tryd.func80.trans (congrArg some (by kernel_rfl))⟩
  f21 := ⟨Tryd.f81.name, by decide, Tryd.func81.trans (congrArg some (by kernel_rfl))⟩
  f22 := ⟨Tryd.f82.name, by decide, Tryd.func82.trans (congrArg some (by kernel_rfl))⟩
  f23 := ⟨Tryd.f83.name, by decide, Tryd.func83.trans (congrArg some (by kernel_rfl))⟩
  f24 := ⟨Tryd.f84.name, by decide, Tryd.func84.trans (congrArg some (by kernel_rfl))⟩
  f25 := ⟨Tryd.f85.name, by decide, Tryd.func85.trans (congrArg some (by kernel_rfl))⟩
  f26 := ⟨Tryd.f86.name, by decide, Tryd.func86.trans (congrArg some (by kernel_rfl))⟩
  f27 := ⟨Tryd.f87.name, by decide, Tryd.func87.trans (congrArg some (by kernel_rfl))⟩
  f28 := Tryd.func22.trans (congrArg some (by kernel_rfl))
  f29 := Tryd.func23.trans (congrArg some (by kernel_rfl))
  f46 := ⟨Tryd.f95.name, by decide, Tryd.func95.trans (congrArg some (by kernel_rfl))⟩
  f47 := Tryd.func91.trans (congrArg some (by kernel_rfl))
  f48 := Tryd.func92.trans (congrArg some (by kernel_rfl))
  f49 := ⟨Tryd.f96.name, by decide, Tryd.func96.trans (congrArg some (by kernel_rfl))⟩
  f50 := ⟨Tryd.f97.name, by decide, Tryd.func97.trans (congrArg some (by kernel_rfl))⟩
  f57 := ⟨Tryd.f100.name, by decide, Tryd.func100.trans (congrArg some (by kernel_rfl))⟩
  t0 := Tryd.underlying0
  a0 := Tryd.isAgg0
  z0 := Tryd.sizeOf0
  v0 := Tryd.zeroValue0
  t3 := Tryd.underlying3
  a3 := Tryd.isAgg3
  z3 := Tryd.sizeOf3
  v3 := Tryd.zeroValue3
  t4 := Tryd.underlying4
  a4 := Tryd.isAgg4
  z4 := Tryd.sizeOf4
  v4 := Tryd.zeroValue4
  t5 := Tryd.underlying5
  a5 := Tryd.isAgg5
  z5 := Tryd.sizeOf5
  v5 := Tryd.zeroValue5
  t9 := Tryd.underlying9
  a9 := Tryd.isAgg9
  z9 := Tryd.sizeOf9
  v9 := Tryd.zeroValue9
  t22 := Tryd.underlying34
  a22 := Tryd.isAgg34
  z22 := Tryd.sizeOf34
  v22 := Tryd.zeroValue34
  t25 := Tryd.underlying89
  a25 := Tryd.isAgg89
  z25 := Tryd.sizeOf89
  v25 := Tryd.zeroValue89
  t39 := Tryd.underlying47
  a39 := Tryd.isAgg47
  z39 := Tryd.sizeOf47
  v39 := Tryd.zeroValue47
  t45 := Tryd.underlying108
  a45 := Tryd.isAgg108
  z45 := Tryd.sizeOf108
  v45 := Tryd.zeroValue108
  t46 := Tryd.underlying109
  a46 := Tryd.isAgg109
  z46 := Tryd.sizeOf109
  v46 := Tryd.zeroValue109
  t50 := Tryd.underlying82
  a50 := Tryd.isAgg82
  z50 := Tryd.sizeOf82
  v50 := Tryd.zeroValue82
  t53 := Tryd.underlying59
  a53 := Tryd.isAgg59
  z53 := Tryd.sizeOf59
  v53 := Tryd.zeroValue59
  t55 := Tryd.underlying27
  a55 := Tryd.isAgg27
  z55 := Tryd.sizeOf27
  v55 := Tryd.zeroValue27
  t66 := Tryd.underlying119
  a66 := Tryd.isAgg119
  z66 := Tryd.sizeOf119
  v66 := Tryd.zeroValue119
  t70 := Tryd.underlying123
  a70 := Tryd.isAgg123
  z70 := Tryd.sizeOf123
  v70 := Tryd.zeroValue123
  t76 := Tryd.underlying127
  a76 := Tryd.isAgg127
  z76 := Tryd.sizeOf127
  v76 := Tryd.zeroValue127
  t77 := Tryd.underlying79
  a77 := Tryd.isAgg79
  z77 := Tryd.sizeOf79
  v77 := Tryd.zeroValue79 }
end Go.Proofs
end

section
/- Items sorted by their order: out of the shelf's contract. -/
namespace Go.Proofs.Vm
open Go Go.Shelf

variable {P : Program} {ρ : Ren}

theorem ltO (x y : Itm) : (ltOf ordI x y = true) ↔ ordI x y < 0 := by simp [ltOf]
theorem swo_ord : Go.Sort.SWO (ltOf ordI) := by
  refine ⟨fun x => ?_, fun x y z h1 h2 => ?_, fun x y z h1 h2 => ?_⟩
  · simp [ltOf, ordI_eq.2 rfl]
  · rw [ltO] at *; exact ordI_trans h1 h2
  · simp only [ltOf, decide_eq_false_iff_not] at *
    have a := ordI_neg x y
    have b := ordI_neg y z
    have c := ordI_neg x z
    have := ordI_le_trans z y x (by omega) (by omega)
    omega

theorem cmp_of {go : FuncId} (hc : ∀ a b : Itm, Ctr P go [.agg (cItm a), .agg (cItm b)] (cI .i64 (ordI a b))) (blk off size : Nat) (w : World) (hw : ∃ n, n ≤ blk ∧ n ≤ w.heap.size ∧ Tabs n w) : CmpLays P go #[] encI 2 ordI blk off size w := by
  intro m os dk _ x y
  have hTb : Tabs (sortWorldK encI 2 w blk off m dk os).heap.size (sortWorldK encI 2 w blk off m dk os) := by
    obtain ⟨n, n1, n2, n3⟩ := hw
    refine n3.mono (fun b hb => ?_) ?_
    · show ((w.heap.modify blk _) ++ os)[b]? = w.heap[b]?
      rw [Array.getElem?_append_left (by rw [Array.size_modify]; omega), Array.getElem?_modify, if_neg (by omega)]
    · show n ≤ ((w.heap.modify blk _) ++ os).size
      rw [Array.size_append, Array.size_modify]
      omega
  generalize sortWorldK encI 2 w blk off m dk os = W at hTb ⊢
  have hv : RKL (fun _ => False) W [.agg (cItm x), .agg (cItm y)] [.agg (encI x).toArray, .agg (encI y).toArray] := by
    have one : ∀ x : Itm, RKs (fun _ => False) W (cItm x) (encI x) := fun x => ⟨rfl, fun j a b ha hb => by
      match j with
      | 0 => cases ha; cases hb; exact .v _ rfl
      | 1 => cases ha; cases hb; exact .v _ rfl
      | j + 2 => simp [cItm] at ha⟩
    refine ⟨rfl, fun j a b ha hb => ?_⟩
    match j with
    | 0 => cases ha; cases hb; exact ⟨_, rfl, one x⟩
    | 1 => cases ha; cases hb; exact ⟨_, rfl, one y⟩
    | j + 2 => simp at ha
  refine (hc x y (fun _ => False) W _ (fun b h => h.elim) hTb hv).mono fun e w' hh => ?_
  obtain ⟨v, I', rfl, h1, h2, h3, h4, h5, h6, h7⟩ := hh
  have ev : v = .int .i64 (ordI x y) := by cases h7; rfl
  subst ev
  refine ⟨rfl, w'.drawn - W.drawn, w'.heap.extract W.heap.size w'.heap.size, ?_⟩
  obtain ⟨⟨a1, a2⟩, a3, a4⟩ := h6
  have hh : w'.heap = W.heap ++ w'.heap.extract W.heap.size w'.heap.size := by
    apply Array.ext_getElem?
    intro i
    by_cases hi : i < W.heap.size
    · rw [Array.getElem?_append_left hi, h5 i hi]
    · rw [Array.getElem?_append_right (by omega), Array.getElem?_extract]
      by_cases hi2 : i < w'.heap.size
      · rw [if_pos (by omega)]
        congr 1; omega
      · rw [if_neg (by omega), Array.getElem?_eq_none (by omega)]
  have hd : w'.drawn = W.drawn + (w'.drawn - W.drawn) := by omega
  obtain ⟨hp, tp, dr, os', ou⟩ := w'
  simp only [Go.Sort.grow, World.drewN] at *
  subst a1; subst a2; subst a3
  rw [← hd, ← hh]

theorem sortsF_of (L : SlLaysF0.n6 P ρ) (aE : ∀ w, (isAgg (ρ.t 24)).run P w = .ok true w) (zE : ∀ w, (Go.sizeOf (ρ.t 24)).run P w = .ok 2 w) {go : FuncId} (eg : ∀ args w, (callFunc go args).run P w = .ok (.enter go args) w)
    (hc : ∀ a b : Itm, Ctr P go [.agg (cItm a), .agg (cItm b)] (cI .i64 (ordI a b))) : SortsF P (ρ.f 6) go ordI := by
  intro blk off cap d w hw h1 h2 h3
  have h := AnyQ.slices_SortFunc_total L 2 aE zE encI (fun _ => rfl) (fun x v hv => by
    simp only [encI, List.mem_cons, List.not_mem_nil, or_false] at hv
    rcases hv with rfl | rfl <;> rfl) ordI swo_ord go #[] blk off cap d.toArray w eg (cmp_of hc _ _ _ _ hw) h1 h2 (by simpa using h3) (fun x y a b => by
      simp only [ltOf, decide_eq_false_iff_not] at a b
      have := ordI_neg x y
      exact ordI_eq.1 (by omega))
  have e : (fun x y : Itm => !(ltOf ordI) y x) = fun x y => decide (ordI x y ≤ 0) := by
    funext x y
    have := ordI_neg x y
    simp only [ltOf]
    by_cases g : ordI y x < 0
    · simp [g]; omega
    · simp [g]; omega
  simp only [e] at h
  refine Calls.mono ?_ (fun _ _ h => h)
  simpa [isort] using h
theorem sortsF0_of (L : SlLaysF0.n6 P ρ) {go : FuncId} : SortsF0 P (ρ.f 6) go := fun p cap w => AnyF.slices_SortFunc_none L p cap _ w
end Go.Proofs.Vm
end

section
/- The whole table tells the truth of the program (seats of layer 18: numbers and items sorted, clones of nothing, a table of trailing noughts). -/
set_option maxRecDepth 8192
namespace Go.Proofs.YtngpmpmhpggpgaaDoorP
open Go Go.Proofs.Vm Go.Proofs.YtngpmpmhpggpgaaDoorF
theorem cmpS : CmpS Tryd.prog 67 := fun a b w => Tryd.strings_Compare a b w
theorem tvOk : TOk Tryd.prog TV := TT_ok mixed (cmpTab_ok ok67 cmpS)
theorem orderC (a b : Itm) : Ctr Tryd.prog 47 [.agg (cItm a), .agg (cItm b)] (cI .i64 (ordI a b)) := (tvOk.1 _ _ _ (horder a b)).2
theorem entersO : Enters Tryd.prog 47 := enters_of Tryd.func47 (by kernel_rfl) rfl
theorem sorts : SortsF Tryd.prog 46 47 ordI := sortsF_of Tryd.laysSortItem (fun w => Tryd.isAgg43 w) (fun w => Tryd.sizeOf43 w) entersO orderC
theorem sorts0 : SortsF0 Tryd.prog 46 47 := sortsF0_of Tryd.laysSortItem
theorem clones : Clone0 Tryd.prog 20 := fun ad cap H => (tvOk.2 _ _ _ _ _ (clone0 ad cap H)).2.2
theorem cloS : CloS Tryd.prog 20 := cloS_of fun a c => ⟨1, [.clo [] false, .clo [] false], false, rfl, clones a c []⟩
end Go.Proofs.YtngpmpmhpggpgaaDoorP
namespace Go.Proofs.YtngpmpmhpggpgaaDoorF
open Go Go.Proofs.Vm Go.Proofs.YtngpmpmhpggpgaaDoorP
theorem tzS : TzS Tryd.prog 57 := fun x w hx hT => Any7.bits_TrailingZeros64 Tryd.laysTz x hx w fun _ => (hT (0, Lib.deBruijn64tab) List.mem_cons_self).2
theorem tvOk : TOk Tryd.prog TV := TT_ok mixed (orTab_ok (tzTab_ok ok57 tzS) (orTab_ok (sortTab_ok (by kernel_rfl) ok45 (fun blk off cap zs w h1 h2 h3 => Tryd.slices_Sort_int blk off cap zs w h1 h2 h3) (fun p cap w => Tryd.slices_Sort_int_none p cap w))
  (orTab_ok (cloTab_ok fun g hg => by rw [List.mem_singleton.1 hg]; exact ⟨ok20, cloS⟩) (itmTab_ok (by kernel_rfl) ok67 cmpS ok46 sorts sorts0 ok20 clones))))

/- The table, as the world lays it. -/
def laidL : List (String × DataW Unit) := [("math/bits.deBruijn64tab", YtngpmpmhpggpgaaDoor.Rows.laid_math_bits_deBruijn64tab)]
theorem gTab : Tryd.prog.globalNamed "math/bits.deBruijn64tab" = some 0 := by kernel_rfl
theorem tTab : (Tryd.prog.globals[0]?).map (·.type) = some 106 := by kernel_rfl
def doorSteps : Nat := 2000
theorem door_met (os : Os) (args : Array Value) : laidMetH Tryd.prog laidL ((World.doorLaid Tryd.prog doorSteps os).forCall (fun _ _ => 0) ⟨#[], args, []⟩).memory :=
  laidMetH_of_parts3 (fuel := 8) (laidMet_of_run' 8 (by kernel_rfl) (by kernel_rfl)) (by kernel_rfl) (by kernel_rfl)
theorem laid_eq : YtngpmpmhpggpgaaDoor.Rows.laid_math_bits_deBruijn64tab (H := Unit) = .agg (Lib.deBruijn64tab.map fun (n : Nat) => .lit (.int .u8 (n : Int))) := rfl
theorem tabs_of_laid {W : World} (h : laidMetH Tryd.prog laidL W) : Tabs W.heap.size W := by
  rw [MakeChecks.laidMetH_plain _ _ _ (by kernel_rfl)] at h
  obtain ⟨ps, ⟨g0, t0, cs0, f0, p0, q0, hg0, ht0, hv0, hd0, _, _⟩, _⟩ := h
  obtain rfl := Option.some.inj (gTab.symm.trans hg0)
  obtain rfl := Option.some.inj (tTab.symm.trans ht0)
  rw [laid_eq] at hd0
  obtain ⟨xs, m1, rfl, hx1, hlen, hn, hel⟩ := DataW.trod_array Tryd.underlying106 hd0
  have c1 : Tryd.prog.cellsOf 5 = 1 := by kernel_rfl
  have hx2 : Lib.deBruijn64tab.map (fun (n : Nat) => (DataW.lit (.int .u8 (n : Int)) : DataW Unit)) = xs.map (·.1) := by
    have := (Prod.mk.inj hx1).1
    exact DataW.agg.inj this
  have hcell : ∀ j, j < 64 → W.cell? ⟨0, j, none⟩ = some (.int .u8 (Lib.deBruijn64tab.getD j 0)) := fun j hj => by
    have hj2 : j < xs.length := by omega
    have h1 := hel j hj
    rw [c1, List.getElem?_eq_getElem hj2] at h1
    obtain ⟨k, e1, e2, _⟩ := DataW.trod_int Tryd.underlying5 h1
    have h2 := congrArg (fun l => l[j]?) hx2
    simp only [List.getElem?_map, List.getElem?_eq_getElem hj2, Option.map_some, e2] at h2
    have hjl : j < Lib.deBruijn64tab.length := hj
    rw [List.getElem?_eq_getElem hjl] at h2
    simp only [Option.map_some, Option.some.injEq, DataW.lit.injEq, Lit.int.injEq, true_and] at h2
    have hc := World.var?_cell hg0 hv0 j
    rw [hc]
    have h3 : cs0.toList[j]? = some (.int .u8 k) := by
      have := congrArg (fun l => l[0]?) e1
      simpa using this
    rw [← Array.getElem?_toList, h3, ← h2, List.getD_eq_getElem?_getD, List.getElem?_eq_getElem hjl]
    rfl
  intro p hp
  obtain rfl : p = (0, Lib.deBruijn64tab) := by simpa [tbs] using hp
  refine ⟨?_, fun j hj => hcell j hj⟩
  have h0 := hcell 0 (by decide)
  rcases Nat.eq_zero_or_pos W.heap.size with e | e
  · exfalso
    unfold World.cell? at h0
    have : W.heap[0]? = none := Array.getElem?_eq_none (by omega)
    simp [this] at h0
  · exact e
end Go.Proofs.YtngpmpmhpggpgaaDoorF
end

section
/- Heaps of items, and where keys lie: of lists alone. -/
set_option maxRecDepth 8192
set_option maxHeartbeats 2000000
namespace Go.Proofs.Vm

def Nd (m : SM) : Prop := (m.map (·.1)).Nodup

theorem mIx_none {k : ByteArray} : ∀ {m : SM}, mIx k m = none → mget k m = none ∧ k ∉ m.map (·.1)
  | [], _ => ⟨rfl, by simp⟩
  | p :: r, h => by
    unfold mIx at h
    split at h
    · cases h
    · rename_i hk
      have h' : mIx k r = none := by cases hr : mIx k r with | none => rfl | some j => rw [hr] at h; cases h
      obtain ⟨h1, h2⟩ := mIx_none h'
      refine ⟨by unfold mget; rw [if_neg hk]; exact h1, ?_⟩
      simp only [List.map_cons, List.mem_cons, not_or]
      exact ⟨hk, h2⟩
theorem mIx_some {k : ByteArray} : ∀ {m : SM} {j : Nat}, mIx k m = some j → ∃ v, m[j]? = some (k, v) ∧ mget k m = some v
  | [], j, h => by cases h
  | p :: r, j, h => by
    unfold mIx at h
    split at h
    · rename_i hk
      cases h
      exact ⟨p.2, by rw [hk]; rfl, by unfold mget; rw [if_pos hk]⟩
    · rename_i hk
      obtain ⟨j', hj, rfl⟩ := Option.map_eq_some_iff.1 h
      obtain ⟨v, h1, h2⟩ := mIx_some hj
      exact ⟨v, h1, by unfold mget; rw [if_neg hk]; exact h2⟩
theorem mget_append (k k' : ByteArray) (v : Int) : ∀ m : SM, mget k m = none → mget k' (m ++ [(k, v)]) = if k' = k then some v else mget k' m
  | [], _ => by simp [mget]
  | p :: r, h => by
    unfold mget at h
    split at h
    · cases h
    · rename_i hk
      have ih := mget_append k k' v r h
      simp only [List.cons_append, mget]
      by_cases hp : k' = p.1
      · rw [if_pos hp, if_pos hp, if_neg (show ¬ k' = k from fun e => hk (by rw [← e]; exact hp))]
      · rw [if_neg hp, if_neg hp]; exact ih
theorem mget_set (k k' : ByteArray) (v : Int) : ∀ {m : SM} {j : Nat}, mIx k m = some j → mget k' (m.set j (k, v)) = if k' = k then some v else mget k' m
  | [], j, h => by cases h
  | p :: r, j, h => by
    unfold mIx at h
    split at h
    · rename_i hk
      cases h
      simp only [List.set_cons_zero, mget, ← hk]
      split <;> rfl
    · rename_i hk
      obtain ⟨j', hj, rfl⟩ := Option.map_eq_some_iff.1 h
      simp only [List.set_cons_succ, mget]
      by_cases hp : k' = p.1
      · rw [if_pos hp, if_pos hp, if_neg (show ¬ k' = k from fun e => hk (by rw [← e]; exact hp))]
      · rw [if_neg hp, if_neg hp]; exact mget_set k k' v hj
theorem mget_put (k k' : ByteArray) (v : Int) (m : SM) : mget k' (mput k v m) = if k' = k then some v else mget k' m := by
  unfold mput
  split
  · rename_i j h; exact mget_set k k' v h
  · rename_i h; exact mget_append k k' v m (mIx_none h).1
theorem mput_len (k : ByteArray) (v : Int) (m : SM) : (mput k v m).length = if (mget k m).isSome then m.length else m.length + 1 := by
  unfold mput
  split
  · rename_i j h
    obtain ⟨u, _, h2⟩ := mIx_some h
    rw [h2]; simp
  · rename_i h
    rw [(mIx_none h).1]; simp
theorem mput_nd {k : ByteArray} {v : Int} {m : SM} (h : Nd m) : Nd (mput k v m) := by
  unfold mput Nd
  split
  · rename_i j hj
    obtain ⟨u, h1, _⟩ := mIx_some hj
    have hjl := (List.getElem?_eq_some_iff.1 h1).1
    have e : (m.set j (k, v)).map (·.1) = m.map (·.1) := by
      rw [List.map_set]
      apply List.ext_getElem?
      intro i
      rw [List.getElem?_set]
      by_cases hi : j = i
      · subst hi
        rw [if_pos rfl, if_pos (by simpa using hjl), List.getElem?_map, h1]
        rfl
      · rw [if_neg hi]
    rw [e]; exact h
  · rename_i hj
    rw [List.map_append, List.nodup_append]
    refine ⟨h, by simp, fun a ha b hb => ?_⟩
    simp only [List.map_cons, List.map_nil, List.mem_singleton] at hb
    subst hb
    rintro rfl
    exact (mIx_none hj).2 ha
theorem mget_none_of {k : ByteArray} : ∀ {m : SM}, k ∉ m.map (·.1) → mget k m = none
  | [], _ => rfl
  | p :: r, h => by
    simp only [List.map_cons, List.mem_cons, not_or] at h
    unfold mget
    rw [if_neg h.1]
    exact mget_none_of h.2
theorem mget_mem {k : ByteArray} {v : Int} : ∀ {m : SM}, mget k m = some v → k ∈ m.map (·.1)
  | [], h => by cases h
  | p :: r, h => by
    unfold mget at h
    split at h
    · rename_i hk; rw [hk]; simp
    · exact List.mem_cons_of_mem _ (mget_mem h)
theorem mget_erase (k k' : ByteArray) : ∀ {m : SM} {j : Nat}, Nd m → mIx k m = some j → mget k' (m.eraseIdx j) = if k' = k then none else mget k' m
  | [], j, _, h => by cases h
  | p :: r, j, hd, h => by
    unfold Nd at hd
    rw [List.map_cons, List.nodup_cons] at hd
    unfold mIx at h
    split at h
    · rename_i hk
      cases h
      simp only [List.eraseIdx_cons_zero, mget, ← hk]
      by_cases hp : k' = k
      · rw [if_pos hp, hp]; exact mget_none_of (by rw [hk]; exact hd.1)
      · rw [if_neg hp, if_neg hp]
    · rename_i hk
      obtain ⟨j', hj, rfl⟩ := Option.map_eq_some_iff.1 h
      simp only [List.eraseIdx_cons_succ, mget]
      by_cases hp : k' = p.1
      · rw [if_pos hp, if_pos hp, if_neg (show ¬ k' = k from fun e => hk (by rw [← e]; exact hp))]
      · rw [if_neg hp, if_neg hp]; exact mget_erase k k' hd.2 hj
theorem mget_del (k k' : ByteArray) {m : SM} (h : Nd m) : mget k' (mdel k m) = if k' = k then none else mget k' m := by
  unfold mdel
  split
  · rename_i j hj; exact mget_erase k k' h hj
  · rename_i hj
    split
    · rename_i e; rw [e]; exact (mIx_none hj).1
    · rfl
theorem mdel_len {k : ByteArray} {m : SM} (h : (mget k m).isSome = true) : (mdel k m).length + 1 = m.length := by
  unfold mdel
  split
  · rename_i j hj
    obtain ⟨u, h1, _⟩ := mIx_some hj
    have hjl := (List.getElem?_eq_some_iff.1 h1).1
    rw [List.length_eraseIdx, if_pos hjl]; omega
  · rename_i hj
    rw [(mIx_none hj).1] at h; cases h
theorem mdel_nd {k : ByteArray} {m : SM} (h : Nd m) : Nd (mdel k m) := by
  unfold mdel Nd
  split
  · exact (List.Sublist.map _ (List.eraseIdx_sublist _ _)).nodup h
  · exact h

/-! Items, and the heap's order. -/

def swp (l : List Itm) (i k : Nat) : List Itm := match l[i]?, l[k]? with
  | some a, some b => (l.set i b).set k a
  | _, _ => l

theorem swp_len (l : List Itm) (i k : Nat) : (swp l i k).length = l.length := by
  unfold swp; split <;> simp
theorem swp_at {l : List Itm} {i k : Nat} (hi : i < l.length) (hk : k < l.length) (j : Nat) (hj : j < l.length) (hj2 : j < (swp l i k).length) :
    (swp l i k)[j] = if j = k then l[i] else if j = i then l[k] else l[j] := by
  have e : swp l i k = (l.set i l[k]).set k l[i] := by unfold swp; rw [List.getElem?_eq_getElem hi, List.getElem?_eq_getElem hk]
  simp only [e, List.getElem_set]
  by_cases h1 : k = j
  · rw [if_pos h1, if_pos (show j = k from h1.symm)]
  · rw [if_neg h1, if_neg (show ¬ j = k from fun h => h1 h.symm)]
    by_cases h2 : i = j
    · rw [if_pos h2, if_pos (show j = i from h2.symm)]
    · rw [if_neg h2, if_neg (show ¬ j = i from fun h => h2 h.symm)]
theorem swp_perm {l : List Itm} {i k : Nat} (hi : i < l.length) (hk : k < l.length) : (swp l i k).Perm l := by
  have e : swp l i k = (l.set i l[k]).set k l[i] := by unfold swp; rw [List.getElem?_eq_getElem hi, List.getElem?_eq_getElem hk]
  rw [e]
  exact List.set_set_perm hi hk

/-- Where each key lies, the map tells. -/
structure Ix (l : List Itm) (m : SM) : Prop where
  nd : Nd m
  len : m.length = l.length
  at_ : ∀ i, ∀ h : i < l.length, mget l[i].1 m = some (i : Int)
  only : ∀ k v, mget k m = some v → ∃ i, ∃ h : i < l.length, l[i].1 = k
theorem Ix.inj {l : List Itm} {m : SM} (h : Ix l m) {i j : Nat} (hi : i < l.length) (hj : j < l.length) (e : l[i].1 = l[j].1) : i = j := by
  have h1 := h.at_ i hi
  have h2 := h.at_ j hj
  rw [e, h2] at h1
  have := Option.some.inj h1
  omega

section
variable (A : Itm → Itm → Prop)

/-- One stands ahead of the one above it. -/
def Edge (l : List Itm) (j : Nat) : Prop := ∀ h0 : 0 < j, ∀ h : j < l.length, A l[j] (l[(j - 1) / 2]'(by omega))
def HeapOk (l : List Itm) : Prop := ∀ j, Edge A l j
/-- All is well but about place i. -/
structure Almost (l : List Itm) (i : Nat) : Prop where
  far : ∀ j, j ≠ i → (0 < j → (j - 1) / 2 ≠ i) → Edge A l j
  over : ∀ j (_hi : 0 < i) (_hj : 0 < j) (_hp : (j - 1) / 2 = i) (h : j < l.length), A l[j] (l[(i - 1) / 2]'(by omega))

variable {A}
variable (tr : ∀ a b c, A a b → A b c → A a c)
include tr

theorem up_step {l : List Itm} {i : Nat} (h : Almost A l i) (h0 : 0 < i) (hi : i < l.length) (hlt : A (l[(i - 1) / 2]'(by omega)) l[i]) : Almost A (swp l i ((i - 1) / 2)) ((i - 1) / 2) := by
  have hp : (i - 1) / 2 < l.length := by omega
  have hpi : (i - 1) / 2 ≠ i := by omega
  have at_ := fun j (hj : j < l.length) (hj2 : j < (swp l i ((i - 1) / 2)).length) => swp_at hi hp j hj hj2
  refine ⟨fun j hj1 hj2 hj0 hj => ?_, fun j hp0 hj0 hjp hj => ?_⟩
  · have hjl : j < l.length := by rw [swp_len] at hj; exact hj
    have hj2 := hj2 hj0
    have hjpl : (j - 1) / 2 < l.length := by omega
    rw [at_ j hjl, at_ _ hjpl, if_neg hj1, if_neg hj2]
    have hji : j ≠ i := by rintro rfl; exact hj2 rfl
    rw [if_neg hji]
    by_cases hc : (j - 1) / 2 = i
    · rw [if_pos hc]
      exact h.over j h0 hj0 hc hjl
    · rw [if_neg hc]
      exact h.far j hji (fun _ => hc) hj0 hjl
  · have hjl : j < l.length := by rw [swp_len] at hj; exact hj
    have hjpl : ((i - 1) / 2 - 1) / 2 < l.length := by omega
    rw [at_ j hjl, at_ _ hjpl, if_neg (show j ≠ (i - 1) / 2 by omega), if_neg (show ((i - 1) / 2 - 1) / 2 ≠ (i - 1) / 2 by omega), if_neg (show ((i - 1) / 2 - 1) / 2 ≠ i by omega)]
    have ep : A l[(i - 1) / 2] l[((i - 1) / 2 - 1) / 2] := h.far _ hpi (fun _ => by omega) hp0 hp
    by_cases hji : j = i
    · rw [if_pos hji]; exact ep
    · rw [if_neg hji]
      have := h.far j hji (fun _ => by omega) hj0 hjl
      simp only [hjp] at this
      exact tr _ _ _ this ep

omit tr in
theorem heap_of_up {l : List Itm} {i : Nat} (h : Almost A l i) (he : Edge A l i) : ∀ j, (0 < j → (j - 1) / 2 ≠ i) → Edge A l j := by
  intro j hj
  by_cases hji : j = i
  · rw [hji]; exact he
  · exact h.far j hji hj

omit tr in
/-- One sinks below the later one of those under it. -/
theorem down_step {l : List Itm} {i t : Nat} (h : Almost A l i) (he : Edge A l i) (hi : i < l.length) (ht : t < l.length) (ht0 : 0 < t) (htp : (t - 1) / 2 = i) (hlt : A l[i] l[t])
    (hoth : ∀ c, 0 < c → (c - 1) / 2 = i → c ≠ t → ∀ hc : c < l.length, A l[c] l[t]) : Almost A (swp l i t) t ∧ Edge A (swp l i t) t := by
  have hti : t ≠ i := by omega
  have at_ := fun j (hj : j < l.length) (hj2 : j < (swp l i t).length) => swp_at hi ht j hj hj2
  refine ⟨⟨fun j hj1 hj2 hj0 hj => ?_, fun j hp0 hj0 hjp hj => ?_⟩, fun h0 hj => ?_⟩
  · have hjl : j < l.length := by rw [swp_len] at hj; exact hj
    have hj2 := hj2 hj0
    have hjpl : (j - 1) / 2 < l.length := by omega
    rw [at_ j hjl, at_ _ hjpl, if_neg hj1, if_neg hj2]
    by_cases hji : j = i
    · subst hji
      rw [if_pos rfl, if_neg (by omega)]
      exact h.over t hj0 ht0 htp ht
    · rw [if_neg hji]
      by_cases hc : (j - 1) / 2 = i
      · rw [if_pos hc]
        exact hoth j hj0 hc hj1 hjl
      · rw [if_neg hc]
        exact h.far j hji (fun _ => hc) hj0 hjl
  · have hjl : j < l.length := by rw [swp_len] at hj; exact hj
    have hjpl : (t - 1) / 2 < l.length := by omega
    rw [at_ j hjl, at_ _ hjpl, if_neg (show j ≠ t by omega), if_neg (show (t - 1) / 2 ≠ t by omega), if_neg (show j ≠ i by omega), if_pos htp]
    have := h.far j (by omega) (fun _ => by omega) hj0 hjl
    simp only [hjp] at this
    exact this
  · have hjpl : (t - 1) / 2 < l.length := by omega
    rw [at_ t ht, at_ _ hjpl, if_pos rfl, if_neg (show (t - 1) / 2 ≠ t by omega), if_pos htp]
    exact hlt
omit tr in
theorem down_end {l : List Itm} {i : Nat} (h : Almost A l i) (he : Edge A l i) (hch : ∀ c, 0 < c → (c - 1) / 2 = i → Edge A l c) : HeapOk A l := by
  intro j hj0
  by_cases hji : j = i
  · subst hji; exact he hj0
  · by_cases hp : (j - 1) / 2 = i
    · exact hch j hj0 hp hj0
    · exact h.far j hji (fun _ => hp) hj0
/-- A place of a heap is changed. -/
theorem almost_set {l : List Itm} {i : Nat} {x : Itm} (h : HeapOk A l) : Almost A (l.set i x) i := by
  refine ⟨fun j hj1 hj2 hj0 hj => ?_, fun j hp0 hj0 hjp hj => ?_⟩
  · have hjl : j < l.length := by simpa using hj
    rw [List.getElem_set_ne (fun e => hj1 e.symm), List.getElem_set_ne (fun e => hj2 hj0 e.symm)]
    exact h j hj0 hjl
  · have hjl : j < l.length := by simpa using hj
    rw [List.getElem_set_ne (by omega), List.getElem_set_ne (by omega)]
    have h1 := h j hj0 hjl
    have h2 := h i hp0 (by omega)
    simp only [hjp] at h1
    exact tr _ _ _ h1 h2
omit tr in
/-- One comes at the end. -/
theorem almost_push {l : List Itm} {x : Itm} (h : HeapOk A l) : Almost A (l ++ [x]) l.length := by
  refine ⟨fun j hj1 hj2 hj0 hj => ?_, fun j hp0 hj0 hjp hj => ?_⟩
  · have hjl : j < l.length := by rw [List.length_append, List.length_singleton] at hj; omega
    have hpl : (j - 1) / 2 < l.length := by omega
    rw [List.getElem_append_left hjl, List.getElem_append_left hpl]
    exact h j hj0 hjl
  · rw [List.length_append, List.length_singleton] at hj
    omega
end

/-- Two change places, and the map is told. -/
theorem ix_swp {l : List Itm} {m : SM} (h : Ix l m) {i k : Nat} (hi : i < l.length) (hk : k < l.length) : Ix (swp l i k) (mput l[i].1 (k : Int) (mput l[k].1 (i : Int) m)) := by
  have g1 := h.at_ i hi
  have g2 := h.at_ k hk
  have e1 : mget l[i].1 (mput l[k].1 (i : Int) m) = some (i : Int) := by rw [mget_put]; split <;> simp [g1]
  refine ⟨mput_nd (mput_nd h.nd), ?_, fun j hj => ?_, fun k' v hg => ?_⟩
  · rw [swp_len, mput_len, e1, mput_len, g2]
    exact h.len
  · have hjl : j < l.length := by rw [swp_len] at hj; exact hj
    rw [swp_at hi hk j hjl hj, mget_put, mget_put]
    by_cases h1 : j = k
    · rw [if_pos h1, if_pos rfl, h1]
    · rw [if_neg h1]
      by_cases h2 : j = i
      · rw [if_pos h2]
        have : l[k].1 ≠ l[i].1 := fun e => h1 (by rw [h2]; exact (h.inj hk hi e).symm)
        rw [if_neg this, if_pos rfl, h2]
      · rw [if_neg h2, if_neg (show ¬ l[j].1 = l[i].1 from fun e => h2 (h.inj hjl hi e)), if_neg (show ¬ l[j].1 = l[k].1 from fun e => h1 (h.inj hjl hk e))]
        exact h.at_ j hjl
  · have hex : ∃ j, ∃ h : j < l.length, l[j].1 = k' := by
      rw [mget_put, mget_put] at hg
      split at hg
      · rename_i e; exact ⟨i, hi, e.symm⟩
      · split at hg
        · rename_i e; exact ⟨k, hk, e.symm⟩
        · exact h.only k' v hg
    obtain ⟨j, hj, e⟩ := hex
    by_cases h1 : j = i
    · refine ⟨k, by rw [swp_len]; exact hk, ?_⟩
      rw [swp_at hi hk k hk, if_pos rfl, ← e]
      subst h1; rfl
    · by_cases h2 : j = k
      · refine ⟨i, by rw [swp_len]; exact hi, ?_⟩
        rw [swp_at hi hk i hi]
        subst h2
        rw [if_neg (show ¬ i = j from fun x => h1 x.symm), if_pos rfl, e]
      · refine ⟨j, by rw [swp_len]; exact hj, ?_⟩
        rw [swp_at hi hk j hj, if_neg h2, if_neg h1, e]
/-- A key that is nowhere. -/
theorem ix_none {l : List Itm} {m : SM} (h : Ix l m) {k : ByteArray} (hk : ∀ i, ∀ h : i < l.length, l[i].1 ≠ k) : mget k m = none := by
  cases hg : mget k m with
  | none => rfl
  | some v =>
    obtain ⟨i, hi, e⟩ := h.only k v hg
    exact absurd e (hk i hi)
theorem ix_some {l : List Itm} {m : SM} (h : Ix l m) {k : ByteArray} {v : Int} (hg : mget k m = some v) : ∃ i, ∃ hi : i < l.length, l[i].1 = k ∧ v = (i : Int) := by
  obtain ⟨i, hi, e⟩ := h.only k v hg
  have := h.at_ i hi
  rw [e, hg] at this
  exact ⟨i, hi, e, Option.some.inj this⟩
/-- One comes at the end. -/
theorem ix_push {l : List Itm} {m : SM} (h : Ix l m) {k : ByteArray} {c : Int} (hk : mget k m = none) : Ix (l ++ [(k, c)]) (mput k (l.length : Int) m) := by
  refine ⟨mput_nd h.nd, ?_, fun j hj => ?_, fun k' v hg => ?_⟩
  · rw [mput_len, hk, List.length_append, List.length_singleton, h.len]; rfl
  · rw [mget_put]
    by_cases hjl : j < l.length
    · rw [List.getElem_append_left hjl]
      have : ¬ l[j].1 = k := fun e => by have := h.at_ j hjl; rw [e, hk] at this; cases this
      rw [if_neg this]
      exact h.at_ j hjl
    · have hje : j = l.length := by rw [List.length_append, List.length_singleton] at hj; omega
      subst hje
      rw [List.getElem_append_right (Nat.le_refl _)]
      simp
  · rw [mget_put] at hg
    split at hg
    · rename_i e
      refine ⟨l.length, by simp, ?_⟩
      rw [List.getElem_append_right (Nat.le_refl _)]
      simp [e]
    · obtain ⟨i, hi, e⟩ := h.only k' v hg
      exact ⟨i, by rw [List.length_append]; omega, by rw [List.getElem_append_left hi]; exact e⟩
/-- A count is another one. -/
theorem ix_count {l : List Itm} {m : SM} (h : Ix l m) {i : Nat} (hi : i < l.length) (c : Int) : Ix (l.set i (l[i].1, c)) m := by
  have key : ∀ j, ∀ hj : j < l.length, ∀ hj2 : j < (l.set i (l[i].1, c)).length, (l.set i (l[i].1, c))[j].1 = l[j].1 := fun j hj hj2 => by
    rw [List.getElem_set]
    split
    · rename_i e; subst e; rfl
    · rfl
  refine ⟨h.nd, by rw [List.length_set]; exact h.len, fun j hj => ?_, fun k v hg => ?_⟩
  · have hjl : j < l.length := by simpa using hj
    rw [key j hjl hj]
    exact h.at_ j hjl
  · obtain ⟨j, hj, e⟩ := h.only k v hg
    exact ⟨j, by simpa using hj, by rw [key j hj]; exact e⟩
/-- The one on top goes, and another one is put there. -/
theorem ix_top {l : List Itm} {m : SM} (h : Ix l m) (h0 : 0 < l.length) {k : ByteArray} {c : Int} (hk : mget k m = none) : Ix (l.set 0 (k, c)) (mput k 0 (mdel l[0].1 m)) := by
  have g0 := h.at_ 0 h0
  have hk0 : ¬ k = l[0].1 := fun e => by rw [e, g0] at hk; cases hk
  have e1 : mget k (mdel l[0].1 m) = none := by rw [mget_del _ _ h.nd, if_neg hk0]; exact hk
  refine ⟨mput_nd (mdel_nd h.nd), ?_, fun j hj => ?_, fun k' v hg => ?_⟩
  · rw [mput_len, e1, List.length_set]
    have := mdel_len (k := l[0].1) (m := m) (by rw [g0]; rfl)
    simp only [Option.isSome_none, Bool.false_eq_true, if_false]
    rw [this]; exact h.len
  · have hjl : j < l.length := by simpa using hj
    rw [mget_put, mget_del _ _ h.nd]
    by_cases hj0 : j = 0
    · subst hj0
      rw [List.getElem_set_self, if_pos rfl]
      rfl
    · rw [List.getElem_set_ne (fun e => hj0 e.symm)]
      have h1 : ¬ l[j].1 = k := fun e => by have := h.at_ j hjl; rw [e, hk] at this; cases this
      have h2 : ¬ l[j].1 = l[0].1 := fun e => hj0 (h.inj hjl h0 e)
      rw [if_neg h1, if_neg h2]
      exact h.at_ j hjl
  · rw [mget_put, mget_del _ _ h.nd] at hg
    split at hg
    · rename_i e
      exact ⟨0, by simpa using h0, by rw [List.getElem_set_self]; exact e.symm⟩
    · rename_i e
      split at hg
      · cases hg
      · rename_i e2
        obtain ⟨i, hi, ei⟩ := h.only k' v hg
        have hi0 : i ≠ 0 := by rintro rfl; exact e2 ei.symm
        exact ⟨i, by simpa using hi, by rw [List.getElem_set_ne (fun e => hi0 e.symm)]; exact ei⟩
end Go.Proofs.Vm
end

section
/- Structs of strings and numbers, compared. -/
namespace Go.Proofs.Vm
open Go

variable {P : Program} {H : Hp}

theorem eq_strD {t : TypeId} (hu : pv P (underlying t) = some .string) (a b : ByteArray) (d : Nat) : pv P (Op.equalIn (d + 1) t (.string a) (.string b)) = some (a == b) := by
  unfold Op.equalIn
  simp [hu]
theorem eq_intD {t : TypeId} {k : IntKind} (hu : pv P (underlying t) = some (.int k)) (a b : Int) (d : Nat) : pv P (Op.equalIn (d + 1) t (.int k a) (.int k b)) = some (a == b) := by
  unfold Op.equalIn
  simp [hu]

theorem pv_of {t : TypeId} {d : TypeDesc} (h : P.underlying t = some d) : pv P (underlying t) = some d := by
  unfold underlying
  simp [h]
/-- Of one string and one number. -/
theorem eq_st2 {t : TypeId} {f0 f1 : Field} {k : IntKind} (hu : pv P (underlying t) = some (.struct #[f0, f1])) (hs : P.stoodInHeld t = false) (n0 : (f0.name == "_") = false) (n1 : (f1.name == "_") = false) (o0 : f0.offset = 0) (o1 : f1.offset = 1)
    (a0 : pv P (isAgg f0.type) = some false) (a1 : pv P (isAgg f1.type) = some false) (u0 : pv P (underlying f0.type) = some .string) (u1 : pv P (underlying f1.type) = some (.int k)) (a b : ByteArray) (x y : Int) (d : Nat) :
    pv P (Op.equalIn (d + 2) t (.agg #[.string a, .int k x]) (.agg #[.string b, .int k y])) = some (a == b && x == y) := by
  have m0 : ¬ f0.name = "_" := fun h => by rw [h] at n0; simp at n0
  have m1 : ¬ f1.name = "_" := fun h => by rw [h] at n1; simp at n1
  unfold Op.equalIn
  cases h0 : a == b <;> cases h1 : x == y <;> simp [hu, hs, m0, m1, o0, o1, part, a0, a1, eq_strD u0, eq_intD u1, h0, h1]

theorem bin_st2 {t : TypeId} {f0 f1 : Field} {k : IntKind} (hu : pv P (underlying t) = some (.struct #[f0, f1])) (hs : P.stoodInHeld t = false) (hg : P.eqGuardType P.depth t = false) (n0 : (f0.name == "_") = false) (n1 : (f1.name == "_") = false) (o0 : f0.offset = 0) (o1 : f1.offset = 1)
    (a0 : pv P (isAgg f0.type) = some false) (a1 : pv P (isAgg f1.type) = some false) (u0 : pv P (underlying f0.type) = some .string) (u1 : pv P (underlying f1.type) = some (.int k)) {a b : ByteArray} {x y : Int} {p q : Operand} :
    vbin P H .eql t p q (.agg [.c (.v (.string a)), .c (.v (.int k x))]) (.agg [.c (.v (.string b)), .c (.v (.int k y))]) = qa (vB (a == b && x == y)) ∧
    vbin P H .neq t p q (.agg [.c (.v (.string a)), .c (.v (.int k x))]) (.agg [.c (.v (.string b)), .c (.v (.int k y))]) = qa (vB (!(a == b && x == y))) := by
  have h := eq_st2 hu hs n0 n1 o0 o1 a0 a1 u0 u1 a b x y 9998
  constructor <;> simp [vbin, vbin0, neSl, isNils, isPtr, isNilp, fresh, AV.sc, scs, Cell.sc, eqGuard, hg, binOp, ofPv, one?, Value.oneCell', Op.equal, Op.maxDepth, h]
/-- A pointer that is none, and one that is not. -/
theorem bin_pnn {t e : TypeId} (hu : pv P (underlying t) = some (.pointer e)) {x y : Operand} {p : Pt} (hl : lenIs H p.id p.tot = true) : vbin P H .neq t x y (.one (.ptr p)) (.one (.c (.v (.pointer none)))) = qa (vB true) := by
  simp [-lenIs, vbin, vbin0, neSl, isNils, isPtr, isNilp, fresh, hl, hu, one?, Value.oneCell']
theorem bin_pen {t e : TypeId} (hu : pv P (underlying t) = some (.pointer e)) {x y : Operand} : vbin P H .neq t x y (.one (.c (.v (.pointer none)))) (.one (.c (.v (.pointer none)))) = qa (vB false) := by
  simp [vbin, vbin0, neSl, isNils, isPtr, isNilp, fresh, AV.sc, Cell.sc, eqGuard, binOp, ofPv, one?, Value.oneCell', Op.equal, Op.maxDepth, eq_nil hu 9999]
end Go.Proofs.Vm
end

section
/- Numbers of the field, sums and cells of keys. -/
namespace Go.Proofs.YtngpmpmhpggpgaaDoorF
open Go Go.Proofs.Vm

theorem u64w (x : Int) : IntKind.u64.wrap x = x % 18446744073709551616 := by simp [IntKind.wrap, IntKind.bits, IntKind.signed]
theorem u64_id {x : Int} (h0 : 0 ≤ x) (h1 : x < 18446744073709551616) : IntKind.u64.wrap x = x := by rw [u64w]; omega
theorem and_low (x : Int) (n : Nat) (hn : n ≤ 63) (h0 : 0 ≤ x) (h1 : x < 18446744073709551616) : Go.bits .and .u64 x ((2 ^ n - 1 : Nat) : Int) = x % ((2 ^ n : Nat) : Int) := by
  have hp : 2 ^ n ≤ 2 ^ 63 := Nat.pow_le_pow_right (by omega) hn
  have hq : 2 ^ 63 = 9223372036854775808 := by decide
  rw [u64_and x _ h0 h1 (by omega) (by omega)]
  rw [show ((2 ^ n - 1 : Nat) : Int).toNat = 2 ^ n - 1 by omega, Nat.and_two_pow_sub_one_eq_mod]
  obtain ⟨m, rfl⟩ := Int.eq_ofNat_of_zero_le h0
  simp
theorem and_P (x : Int) (h0 : 0 ≤ x) (h1 : x < 18446744073709551616) : Go.bits .and .u64 x 2305843009213693951 = x % 2305843009213693952 := and_low x 61 (by omega) h0 h1
theorem and_32 (x : Int) (h0 : 0 ≤ x) (h1 : x < 18446744073709551616) : Go.bits .and .u64 x 4294967295 = x % 4294967296 := and_low x 32 (by omega) h0 h1
theorem and_1 (x : Int) (h0 : 0 ≤ x) (h1 : x < 18446744073709551616) : Go.bits .and .u64 x 1 = x % 2 := and_low x 1 (by omega) h0 h1

theorem or_join' (x y : Int) (n : Nat) (hx0 : 0 ≤ x) (hx1 : x < 18446744073709551616) (hx : x % ((2 ^ n : Nat) : Int) = 0) (hy0 : 0 ≤ y) (hy1 : y < ((2 ^ n : Nat) : Int)) (hy2 : y < 18446744073709551616) : Go.bits .or .u64 y x = y + x := by
  rw [u64_or y x hy0 hy2 hx0 hx1]
  obtain ⟨a, rfl⟩ := Int.eq_ofNat_of_zero_le hx0
  obtain ⟨b, rfl⟩ := Int.eq_ofNat_of_zero_le hy0
  have h := nat_join n a b (by omega) (by omega)
  simp only [Int.toNat_natCast]
  rw [Nat.or_comm, h]
  simp; omega
theorem mul_bound {x y : Int} (n : Int) (h0 : 0 ≤ x) (h1 : x ≤ n) (h2 : 0 ≤ y) (h3 : y ≤ n) : 0 ≤ x * y ∧ x * y ≤ n * n :=
  ⟨Int.mul_nonneg h0 h2, Int.mul_le_mul h1 h3 h2 (by omega)⟩

theorem field_Of {a : Int} (h0 : 0 ≤ a) (h1 : a < 18446744073709551616) : TV.pu 54 [cI .u64 a] = some (cI .u64 (a % 2305843009213693951)) := by
  refine run54 (by simp) ?_
  simp [Tryd.f54, bin_shr, and_P a h0 h1, IntKind.bits]
  rw [u64_id (x := a % 2305843009213693952 + a / 2305843009213693952) (by omega) (by omega)]
  split
  · rw [u64_id (by omega) (by omega)]; omega
  · omega

theorem field_Add {a b : Int} (h0 : 0 ≤ a) (h1 : a < 18446744073709551616) (h2 : 0 ≤ b) (h3 : b < 18446744073709551616) : TV.pu 36 [cI .u64 a, cI .u64 b] = some (cI .u64 ((a + b) % 2305843009213693951)) := by
  refine run36 (by simp) ?_
  have e : IntKind.u64.wrap (a % 2305843009213693951 + b % 2305843009213693951) = a % 2305843009213693951 + b % 2305843009213693951 := u64_id (by omega) (by omega)
  simp [Tryd.f36, field_Of h0 h1, field_Of h2 h3, e, field_Of (a := a % 2305843009213693951 + b % 2305843009213693951) (by omega) (by omega)]

theorem Mul64 {x y : Int} (h0 : 0 ≤ x) (h1 : x < 18446744073709551616) (h2 : 0 ≤ y) (h3 : y < 18446744073709551616) : TV.pu 55 [cI .u64 x, cI .u64 y] = some (.tup [(false, [.v (.int .u64 (x * y / 18446744073709551616))]), (false, [.v (.int .u64 (x * y % 18446744073709551616))])]) := by
  refine run55 (by simp) ?_
  simp [Tryd.f55, bin_shr, IntKind.bits, and_32 x h0 h1, and_32 y h2 h3]
  obtain ⟨x1, hx1⟩ : ∃ z, z = x / 4294967296 := ⟨_, rfl⟩
  obtain ⟨x0, hx0⟩ : ∃ z, z = x % 4294967296 := ⟨_, rfl⟩
  obtain ⟨y1, hy1⟩ : ∃ z, z = y / 4294967296 := ⟨_, rfl⟩
  obtain ⟨y0, hy0⟩ : ∃ z, z = y % 4294967296 := ⟨_, rfl⟩
  rw [← hx1, ← hx0, ← hy1, ← hy0]
  have ex : x = x1 * 4294967296 + x0 := by omega
  have ey : y = y1 * 4294967296 + y0 := by omega
  have b11 := mul_bound (x := x1) (y := y1) 4294967295 (by omega) (by omega) (by omega) (by omega)
  have b10 := mul_bound (x := x1) (y := y0) 4294967295 (by omega) (by omega) (by omega) (by omega)
  have b01 := mul_bound (x := x0) (y := y1) 4294967295 (by omega) (by omega) (by omega) (by omega)
  have b00 := mul_bound (x := x0) (y := y0) 4294967295 (by omega) (by omega) (by omega) (by omega)
  have exy : x * y = x1 * y1 * 18446744073709551616 + (x1 * y0 + x0 * y1) * 4294967296 + x0 * y0 := by rw [ex, ey]; grind
  rw [exy]
  generalize x1 * y1 = p11 at *
  generalize x1 * y0 = p10 at *
  generalize x0 * y1 = p01 at *
  generalize x0 * y0 = p00 at *
  clear hx1 hx0 hy1 hy0 ex ey exy h0 h1 h2 h3
  rw [u64_id (x := p11) (by omega) (by omega), u64_id (x := p10) (by omega) (by omega), u64_id (x := p01) (by omega) (by omega), u64_id (x := p00) (by omega) (by omega)]
  rw [u64_id (x := p10 + p00 / 4294967296) (by omega) (by omega)]
  rw [and_32 _ (by omega) (by omega)]
  rw [u64_id (x := (p10 + p00 / 4294967296) % 4294967296 + p01) (by omega) (by omega)]
  rw [u64_id (x := p11 + (p10 + p00 / 4294967296) / 4294967296) (by omega) (by omega)]
  rw [u64_id (x := p11 + (p10 + p00 / 4294967296) / 4294967296 + ((p10 + p00 / 4294967296) % 4294967296 + p01) / 4294967296) (by omega) (by omega)]
  rw [u64w]
  omega

theorem field_Mul {a b : Int} (h0 : 0 ≤ a) (h1 : a < 18446744073709551616) (h2 : 0 ≤ b) (h3 : b < 18446744073709551616) : TV.pu 37 [cI .u64 a, cI .u64 b] = some (cI .u64 (a * b % 2305843009213693951)) := by
  refine run37 (by simp) ?_
  have hb := mul_bound (x := a % 2305843009213693951) (y := b % 2305843009213693951) 2305843009213693950 (by omega) (by omega) (by omega) (by omega)
  have hm := Mul64 (x := a % 2305843009213693951) (y := b % 2305843009213693951) (by omega) (by omega) (by omega) (by omega)
  rw [Int.mul_emod a b]
  generalize a % 2305843009213693951 * (b % 2305843009213693951) = N at hb hm ⊢
  simp [Tryd.f37, field_Of h0 h1, field_Of h2 h3, hm, bin_shr, bin_shl, IntKind.bits]
  rw [and_P _ (by omega) (by omega)]
  rw [u64_id (x := N / 18446744073709551616 * 8) (by omega) (by omega)]
  rw [or_join' (N / 18446744073709551616 * 8) (N % 18446744073709551616 / 2305843009213693952) 3 (by omega) (by omega) (by omega) (by omega) (by omega) (by omega)]
  rw [u64_id (by omega) (by omega), field_Of (by omega) (by omega)]
  simp
  omega
theorem int_sq (x : Int) : x ^ 2 = x * x := by rw [Int.pow_succ, Int.pow_succ, Int.pow_zero, Int.one_mul]
theorem emod_pow (a n : Int) (k : Nat) : (a % n) ^ k % n = a ^ k % n := by
  induction k with
  | zero => simp
  | succ k ih => rw [Int.pow_succ, Int.pow_succ, Int.mul_emod, ih, Int.emod_emod_of_dvd _ (Int.dvd_refl n), ← Int.mul_emod]

theorem field_Pow {x : Int} {n : Nat} (h0 : 0 ≤ x) (h1 : x < 18446744073709551616) (hn : (n : Int) < 18446744073709551616) : TV.pu 70 [cI .u64 x, cI .u64 n] = some (cI .u64 (x ^ n % 2305843009213693951)) := by
  refine run70 (by simp) ?_
  simp [Tryd.f70, field_Of h0 h1]
  obtain ⟨I, hI⟩ : ∃ I : Nat → St → Prop, ∀ k s, I k s ↔ (∃ e y o, s = ⟨e, []⟩ ∧ e 0 = vI .u64 y ∧ e 1 = vI .u64 (k : Nat) ∧ e 5 = vI .u64 o ∧ 0 ≤ y ∧ y < 2305843009213693951 ∧ 0 ≤ o ∧ o < 2305843009213693951 ∧ (k : Int) < 18446744073709551616 ∧ o * y ^ k % 2305843009213693951 = x ^ n % 2305843009213693951) := ⟨_, fun _ _ => Iff.rfl⟩
  refine wpL_ind I ?_ n _ ((hI _ _).2 ⟨_, x % 2305843009213693951, 1, rfl, by simp, by simp, by simp, by omega, by omega, by omega, by omega, hn, by rw [Int.one_mul, emod_pow]⟩)
  intro k s hs
  obtain ⟨e, y, o, rfl, e0, e1, e5, y0, y1, o0, o1, k1, hk⟩ := (hI _ _).1 hs
  have hm := field_Mul (a := y) (b := y) y0 (by omega) y0 (by omega)
  have ho := field_Mul (a := o) (b := y) o0 (by omega) y0 (by omega)
  have key : ∀ o : Int, (o * (y * y % 2305843009213693951) ^ (k / 2)) % 2305843009213693951 = (o * y ^ (2 * (k / 2))) % 2305843009213693951 := by
    intro o
    rw [Int.mul_emod, emod_pow, ← Int.mul_emod, ← int_sq, ← Int.pow_mul]
  simp [e0, e1, e5, hm, ho, bin_shr, IntKind.bits, and_1 (k : Int) (by omega) (by omega)]
  by_cases hz : k = 0
  · subst hz
    rw [if_neg (by omega)]
    simp at hk
    rw [← hk]
    omega
  · rw [if_pos (by omega)]
    split
    · refine ⟨k / 2, by omega, (hI _ _).2 ⟨_, y * y % 2305843009213693951, o * y % 2305843009213693951, rfl, by simp, by simp, by simp, by omega, by omega, by omega, by omega, by omega, ?_⟩⟩
      rw [key, ← hk]
      have e2 : y ^ k = y * y ^ (2 * (k / 2)) := by
        rw [Int.mul_comm, ← Int.pow_succ]; congr 1; omega
      rw [e2, ← Int.mul_assoc, Int.mul_emod, Int.emod_emod_of_dvd _ (Int.dvd_refl _), ← Int.mul_emod]
    · refine ⟨k / 2, by omega, (hI _ _).2 ⟨_, y * y % 2305843009213693951, o, rfl, by simp, by simp, by simp [e5], by omega, by omega, by omega, by omega, by omega, ?_⟩⟩
      rw [key, ← hk, show 2 * (k / 2) = k by omega]
theorem byt_range (s : ByteArray) (i : Int) : 0 ≤ byt s i ∧ byt s i < 256 := by
  unfold byt
  split
  · rename_i b _
    have := b.toNat_lt
    omega
  · omega
theorem byt_out (s : ByteArray) (i : Int) (h0 : 0 ≤ i) (h : (s.size : Int) ≤ i) : byt s i = 0 := by
  unfold byt
  have : s[i.toNat]? = none := by simp; omega
  rw [this]
def fP : Int := 2305843009213693951
/-- Four bytes as a number; noughts behind the end. -/
def hword (s : ByteArray) (i : Int) : Int := ((byt s i * 256 + byt s (i + 1)) * 256 + byt s (i + 2)) * 256 + byt s (i + 3)
/-- What is reckoned of the first n words. -/
def hpoly (a : Int) (s : ByteArray) : Nat → Int
  | 0 => (s.size : Int) % 2305843009213693951
  | n + 1 => (hpoly a s n * a + (hword s (4 * (n : Int)) + 1)) % 2305843009213693951
def nwords (s : ByteArray) : Nat := (s.size + 3) / 4
def hsum (seed : Int) (s : ByteArray) : Int := (hpoly ((seed + 2) % 2305843009213693951) s (nwords s) * ((seed + 2) % 2305843009213693951) % 2305843009213693951) ^ 17 % 2305843009213693951
def hrow (seed i : Int) : Int := (((seed + 3) * ((if i < 0 then 0 else i) + 2) + 5) % 2305843009213693951) ^ 2 % 2305843009213693951
def hcell (seed : Int) (s : ByteArray) (n : Int) : Int := if n < 1 then 0 else hsum seed s % n
def hsign (seed : Int) (s : ByteArray) : Int := hsum seed s % 2 * 2 - 1

theorem hsum_range (seed : Int) (s : ByteArray) : 0 ≤ hsum seed s ∧ hsum seed s < 2305843009213693951 := by
  unfold hsum; omega
theorem hrow_range (seed i : Int) : 0 ≤ hrow seed i ∧ hrow seed i < 2305843009213693951 := by
  unfold hrow; omega
theorem hcell_range (seed : Int) (s : ByteArray) (n : Int) (h : 1 ≤ n) : 0 ≤ hcell seed s n ∧ hcell seed s n < n := by
  unfold hcell
  rw [if_neg (by omega)]
  exact ⟨Int.emod_nonneg _ (by omega), Int.emod_lt_of_pos _ (by omega)⟩
theorem hsign_or (seed : Int) (s : ByteArray) : hsign seed s = 1 ∨ hsign seed s = -1 := by
  unfold hsign; omega
theorem hword_range (s : ByteArray) (i : Int) : 0 ≤ hword s i ∧ hword s i < 4294967296 := by
  have a := byt_range s i; have b := byt_range s (i + 1); have c := byt_range s (i + 2); have d := byt_range s (i + 3)
  unfold hword; omega
theorem hpoly_range (a : Int) (s : ByteArray) (n : Nat) : 0 ≤ hpoly a s n ∧ hpoly a s n < 2305843009213693951 := by
  cases n with
  | zero => unfold hpoly; omega
  | succ n => unfold hpoly; omega

theorem or_join (x y : Int) (n : Nat) (hx0 : 0 ≤ x) (hx1 : x < 18446744073709551616) (hx : x % ((2 ^ n : Nat) : Int) = 0) (hy0 : 0 ≤ y) (hy1 : y < ((2 ^ n : Nat) : Int)) (hy2 : y < 18446744073709551616) : Go.bits .or .u64 x y = x + y := by
  rw [u64_or x y hx0 hx1 hy0 hy2]
  obtain ⟨a, rfl⟩ := Int.eq_ofNat_of_zero_le hx0
  obtain ⟨b, rfl⟩ := Int.eq_ofNat_of_zero_le hy0
  have h := nat_join n a b (by omega) (by omega)
  simp only [Int.toNat_natCast]
  rw [h]
  simp

theorem hash_Row {s i : Int} (h0 : 0 ≤ s) (h1 : s < 18446744073709551616) (h2 : i < 9223372036854775808) (h3 : -9223372036854775808 ≤ i) : TV.pu 25 [cI .u64 s, cI .i64 i] = some (cI .u64 (hrow s i)) := by
  refine run25 (by simp) ?_
  obtain ⟨j, hj⟩ : ∃ j, j = if i < 0 then 0 else i := ⟨_, rfl⟩
  have hj0 : 0 ≤ j := by rw [hj]; split <;> omega
  have hj1 : j < 9223372036854775808 := by rw [hj]; split <;> omega
  obtain ⟨v1, h1'⟩ : ∃ v, v = (s + 3) % 2305843009213693951 := ⟨_, rfl⟩
  obtain ⟨v2, h2'⟩ : ∃ v, v = (j + 2) % 2305843009213693951 := ⟨_, rfl⟩
  obtain ⟨v3, h3'⟩ : ∃ v, v = v1 * v2 % 2305843009213693951 := ⟨_, rfl⟩
  obtain ⟨v4, h4'⟩ : ∃ v, v = (v3 + 5) % 2305843009213693951 := ⟨_, rfl⟩
  have e1 := field_Add (a := s) (b := 3) h0 h1 (by omega) (by omega)
  have e2 := field_Add (a := j) (b := 2) hj0 (by omega) (by omega) (by omega)
  have e3 := field_Mul (a := v1) (b := v2) (by omega) (by omega) (by omega) (by omega)
  have e4 := field_Add (a := v3) (b := 5) (by omega) (by omega) (by omega) (by omega)
  have e5 := field_Mul (a := v4) (b := v4) (by omega) (by omega) (by omega) (by omega)
  rw [← h1'] at e1
  rw [← h2'] at e2
  rw [← h3'] at e3
  rw [← h4'] at e4
  have ew : IntKind.u64.wrap j = j := u64_id hj0 (by omega)
  have em : (if i < 0 then 0 else i) = j := hj.symm
  simp [Tryd.f25, e1, em, ew, e2, e3, e4, e5]
  unfold hrow
  rw [em, int_sq]
  have hv : v4 = ((s + 3) * (j + 2) + 5) % 2305843009213693951 := by
    have : v3 = (s + 3) * (j + 2) % 2305843009213693951 := by rw [h3', h1', h2', ← Int.mul_emod]
    omega
  rw [hv]

/-- The first bytes of a word. -/
def hwp (s : ByteArray) (i : Int) : Nat → Int
  | 0 => 0
  | j + 1 => hwp s i j * 256 + byt s (i + j)
theorem hwp_range (s : ByteArray) (i : Int) : ∀ j : Nat, 0 ≤ hwp s i j ∧ hwp s i j < 256 ^ j
  | 0 => by simp [hwp]
  | j + 1 => by
    have := hwp_range s i j
    have := byt_range s (i + j)
    simp only [hwp]
    rw [Int.pow_succ]
    omega
theorem hwp_word (s : ByteArray) (i : Int) : hwp s i 4 = hword s i := by
  simp [hwp, hword]

theorem hash_Sum {seed : Int} {s : ByteArray} (h0 : 0 ≤ seed) (h1 : seed < 18446744073709551616) (hs : s.size ≤ 140737488351232) : TV.pu 56 [cI .u64 seed, cS s] = some (cI .u64 (hsum seed s)) := by
  refine run56 (by simp) ?_
  have ha := field_Add (a := seed) (b := 2) h0 h1 (by omega) (by omega)
  have ew : IntKind.u64.wrap (s.size : Int) = s.size := u64_id (by omega) (by omega)
  obtain ⟨a, hae⟩ : ∃ a, a = (seed + 2) % 2305843009213693951 := ⟨_, rfl⟩
  have ha0 : 0 ≤ a := by omega
  have ha1 : a < 2305843009213693951 := by omega
  rw [← hae] at ha
  simp [Tryd.f56, ha, ew]
  obtain ⟨I, hI⟩ : ∃ I : Nat → St → Prop, ∀ k s', I k s' ↔ (∃ e n, s' = ⟨e, []⟩ ∧ e 1 = vS s ∧ e 5 = vI .u64 a ∧ e 6 = vI .u64 (hpoly a s n) ∧ e 7 = vI .i64 (4 * (n : Nat) : Int) ∧ n + k = nwords s) := ⟨_, fun _ _ => Iff.rfl⟩
  have e0 : hpoly a s 0 = (s.size : Int) := by
    show (s.size : Int) % 2305843009213693951 = _
    omega
  refine wpL_ind I ?_ (nwords s) _ ((hI _ _).2 ⟨_, 0, rfl, by simp, by simp, by simp [e0], by simp, by omega⟩)
  intro k st hst
  obtain ⟨e, n, rfl, e1, e5, e6, e7, hk⟩ := (hI _ _).1 hst
  have hp := hpoly_range a s n
  simp [e1, e5, e6, e7]
  by_cases c : k = 0
  · have hsz : ¬ 4 * (n : Int) < (s.size : Int) := by unfold nwords at hk; omega
    have hn : n = nwords s := by omega
    rw [if_neg hsz]
    have hm := field_Mul (a := hpoly a s n) (b := a) hp.1 (by omega) ha0 (by omega)
    have hw := field_Pow (x := hpoly a s n * a % 2305843009213693951) (n := 17) (by omega) (by omega) (by omega)
    simp at hw
    simp [hm, hw]
    unfold hsum
    rw [← hae, ← hn]
  · have hsz : 4 * (n : Int) < (s.size : Int) := by unfold nwords at hk; omega
    rw [if_pos hsz]
    obtain ⟨J, hJ⟩ : ∃ J : Nat → St → Prop, ∀ k s', J k s' ↔ (∃ e j, s' = ⟨e, []⟩ ∧ e 1 = vS s ∧ e 5 = vI .u64 a ∧ e 6 = vI .u64 (hpoly a s n) ∧ e 7 = vI .i64 (4 * (n : Nat) : Int) ∧ e 8 = vI .u64 (hwp s (4 * (n : Nat) : Int) j) ∧ e 21 = vI .i64 (j : Nat) ∧ j + k = 4) := ⟨_, fun _ _ => Iff.rfl⟩
    refine wpL_ind J ?_ 4 _ ((hJ _ _).2 ⟨_, 0, rfl, by simp [e1], by simp [e5], by simp [e6], by simp [e7], by simp [hwp], by simp, by omega⟩)
    intro q st hst
    obtain ⟨e', j, rfl, f1, f5, f6, f7, f8, f21, hq⟩ := (hJ _ _).1 hst
    have hr := hwp_range s (4 * (n : Int)) j
    have hb := byt_range s (4 * (n : Int) + j)
    have w1 : IntKind.i64.wrap (4 * (n : Int) + j) = 4 * (n : Int) + j := w64_id (by omega) (by omega)
    have w2 : IntKind.u64.wrap (byt s (4 * (n : Int) + j)) = byt s (4 * (n : Int) + j) := u64_id hb.1 (by omega)
    have w3 : IntKind.i64.wrap ((j : Int) + 1) = ((j + 1 : Nat) : Int) := by rw [w64_id (by omega) (by omega)]; omega
    by_cases hj : j < 4
    · have hr2 : hwp s (4 * (n : Int)) j < 16777216 := by
        have : (256 : Int) ^ j ≤ 256 ^ 3 := by
          have : j = 0 ∨ j = 1 ∨ j = 2 ∨ j = 3 := by omega
          rcases this with rfl | rfl | rfl | rfl <;> decide
        omega
      have w4 : IntKind.u64.wrap (hwp s (4 * (n : Int)) j * 256) = hwp s (4 * (n : Int)) j * 256 := u64_id (by omega) (by omega)
      have hj' : ((j : Int) < 4) := by omega
      by_cases hc : 4 * (n : Int) + j < s.size
      · have hx := idx_str us9 (s := s) (k := .i64) (i := 4 * (n : Int) + j) (by omega) hc
        have ho := or_join (hwp s (4 * (n : Int)) j * 256) (byt s (4 * (n : Int) + j)) 8 (by omega) (by omega) (by omega) (by omega) (by omega) (by omega)
        simp [f1, f5, f6, f7, f8, f21, bin_shl, IntKind.bits, w1, w2, w3, w4, hj', hc, hx, ho]
        exact ⟨q - 1, by omega, (hJ _ _).2 ⟨_, j + 1, rfl, by simp [f1], by simp [f5], by simp [f6], by simp [f7], by simp [hwp], by simp, by omega⟩⟩
      · have hx := byt_out s (4 * (n : Int) + j) (by omega) (by omega)
        simp [f1, f5, f6, f7, f8, f21, bin_shl, IntKind.bits, w1, w3, w4, hj', hc]
        exact ⟨q - 1, by omega, (hJ _ _).2 ⟨_, j + 1, rfl, by simp [f1], by simp [f5], by simp [f6], by simp [f7], by simp [hwp, hx], by simp, by omega⟩⟩
    · have hj4 : j = 4 := by omega
      subst hj4
      have hw := hword_range s (4 * (n : Int))
      rw [hwp_word] at f8
      have w5 : IntKind.u64.wrap (hword s (4 * (n : Int)) + 1) = hword s (4 * (n : Int)) + 1 := u64_id (by omega) (by omega)
      have hm := field_Mul (a := hpoly a s n) (b := a) hp.1 (by omega) ha0 (by omega)
      obtain ⟨v, hv⟩ : ∃ v, v = hpoly a s n * a % 2305843009213693951 := ⟨_, rfl⟩
      rw [← hv] at hm
      have had := field_Add (a := v) (b := hword s (4 * (n : Int)) + 1) (by omega) (by omega) (by omega) (by omega)
      have w6 : IntKind.i64.wrap (4 * (n : Int) + 4) = 4 * (n : Int) + 4 := w64_id (by omega) (by omega)
      simp [f5, f6, f7, f8, f21, hm, w5, had, w6]
      refine ⟨k - 1, by omega, (hI _ _).2 ⟨_, n + 1, rfl, by simp [f1], by simp [f5], ?_, ?_, by omega⟩⟩
      · simp [hpoly, hv]
      · simp; omega

theorem hash_Cell {seed n : Int} {s : ByteArray} (h0 : 0 ≤ seed) (h1 : seed < 18446744073709551616) (hs : s.size ≤ 140737488351232) (hn : n < 9223372036854775808) : TV.pu 59 [cI .u64 seed, cS s, cI .i64 n] = some (cI .i64 (hcell seed s n)) := by
  refine run59 (by simp) ?_
  have hr := hsum_range seed s
  by_cases c : n < 1
  · simp [Tryd.f59, c, hcell]
  · have h2 := Int.emod_nonneg (hsum seed s) (show n ≠ 0 by omega)
    have h3 := Int.emod_lt_of_pos (hsum seed s) (show 0 < n by omega)
    have e1 : IntKind.u64.wrap n = n := u64_id (by omega) (by omega)
    have e2 : (hsum seed s).tmod n = hsum seed s % n := Int.tmod_eq_emod_of_nonneg hr.1
    have e3 : IntKind.i64.wrap (hsum seed s % n) = hsum seed s % n := w64_id (by omega) (by omega)
    have e4 : n ≠ 0 := by omega
    simp [Tryd.f59, c, hcell, hash_Sum h0 h1 hs, e1, bin_rem e4, e2, e3]

end Go.Proofs.YtngpmpmhpggpgaaDoorF
end

section
/- A heap in memory: above, swap. -/
set_option maxRecDepth 8192
set_option maxHeartbeats 2000000
namespace Go.Proofs.YtngpmpmhpggpgaaDoorF
open Go Go.Proofs.Vm

/-- A heap in its three places. -/
def hH (K : Hp) (hi si mi : Nat) (room : Int) (l : List Itm) (M : MS) (L : Hp) : Hp :=
  hq K si mi hi (.clo (l.map cItm) false) M.ent (.opn [[.c (.v (.int .i64 room)), .sl si 0 l.length l.length, .mp mi]] false) L
def hP (hi : Nat) : AV := .one (.ptr ⟨hi, 0, 0, 1⟩)

theorem wr_item (l : List Itm) (i : Nat) (a : ByteArray) (n : Int) : Ent.wrC (l.map cItm) i 0 [.v (.string a), .v (.int .i64 n)] = (l.set i (a, n)).map cItm := by
  unfold Ent.wrC
  apply List.ext_getElem?
  intro j
  rw [List.getElem?_modify, List.getElem?_map, List.getElem?_map, List.getElem?_set]
  by_cases h : i = j
  · subst h
    cases hl : l[i]? with
    | none =>
      have := List.getElem?_eq_none_iff.1 hl
      simp; omega
    | some x =>
      have := (List.getElem?_eq_some_iff.1 hl).1
      simp [cItm, wr, this]
  · simp [h]
theorem wr_count {l : List Itm} {i : Nat} (h : i < l.length) (n : Int) : Ent.wrC (l.map cItm) i 1 [.v (.int .i64 n)] = (l.set i (l[i].1, n)).map cItm := by
  unfold Ent.wrC
  apply List.ext_getElem?
  intro j
  rw [List.getElem?_modify, List.getElem?_map, List.getElem?_map, List.getElem?_set]
  by_cases hj : i = j
  · subst hj
    simp [cItm, wr, h]
  · simp [hj]

section
variable {K : Hp} {hi si mi : Nat} (t : Three K si mi hi) {room : Int} {l : List Itm} {M : MS} {L : Hp}
include t

theorem above {i k : Nat} (h1 : i < l.length) (h2 : k < l.length) :
    TV.S 61 [hP hi, vI .i64 i, vI .i64 k] (hH K hi si mi room l M L) = some (vB (decide (ordI l[i] l[k] > 0)), hH K hi si mi room l M L) := by
  refine run61 (by simp) (by simp) ?_
  have ga := fun x y z L => hq_a t x y z L
  have gb := fun x y z L => hq_b t x y z L
  have gc := fun x y z L => hq_c t x y z L
  have ho := horder l[i] l[k]
  simp only [cItm] at ho
  simp -implicitDefEqProofs [Tryd.f61, vnil, isPtr, fresh, cellsAt, cItm, hP, hH, ga, gc, h1, h2, ho]
theorem swap {i k : Nat} (h1 : i < l.length) (h2 : k < l.length) (hx : Ix l M.m) (ok : M.Ok) :
    TV.S 62 [hP hi, vI .i64 i, vI .i64 k] (hH K hi si mi room l M L) = some (und, hH K hi si mi room (swp l i k) ((M.put l[k].1 i).put l[i].1 k) L) := by
  refine run62 (by simp) (by simp [hH, hq_len]) ?_
  have ga := fun x y z L => hq_a t x y z L
  have gb := fun x y z L => hq_b t x y z L
  have gc := fun x y z L => hq_c t x y z L
  have sa := fun x y z u L => hq_sa t x y z u L
  have sb := fun x y z u L => hq_sb t x y z u L
  have sc := fun x y z u L => hq_sc t x y z u L
  have g1 := hx.at_ i h1
  have g2 := hx.at_ k h2
  have ok1 := MS.put_ok ok l[k].1 i
  have e1 : mget l[i].1 (mput l[k].1 (i : Int) M.m) = some (i : Int) := by rw [mget_put]; split <;> simp [g1]
  have hsw : (l.set i l[k]).set k l[i] = swp l i k := by unfold swp; rw [List.getElem?_eq_getElem h1, List.getElem?_eq_getElem h2]
  have s1 : ∀ h, (swp l i k)[i]'h = l[k] := fun h => by
    rw [swp_at h1 h2 i h1]
    split
    · rename_i e; subst e; rfl
    · rw [if_pos rfl]
  have s2 : ∀ h, (swp l i k)[k]'h = l[i] := fun h => by rw [swp_at h1 h2 k h2, if_pos rfl]
  have i1 : (mget l[k].1 M.m).isSome = true := by rw [g2]; rfl
  have i2 : (mget l[i].1 (M.put l[k].1 i).m).isSome = true := by rw [MS.put_m, e1]; rfl
  have m1 := fun (H : Hp) h => me_eq (H := H) (mi := mi) mty83 ok h i1
  have m2 := fun (H : Hp) h => es_eq (H := H) (mi := mi) (v := (i : Int)) ok h i1
  have m3 := fun (H : Hp) h => me_eq (H := H) (mi := mi) mty83 ok1 h i2
  have m4 := fun (H : Hp) h => es_eq (H := H) (mi := mi) (v := (k : Int)) ok1 h i2
  simp -implicitDefEqProofs [-List.map_set, s1, s2, Tryd.f62, vnil, isPtr, fresh, cellsAt, cItm, hP, hH, ga, gb, gc, sa, sb, h1, h2, vstore, cellsOf?, mapO, fzc, rch, frzAll, wr_item, hsw, swp_len, g2, m1, m2, m3, m4]
  rfl
end
end Go.Proofs.YtngpmpmhpggpgaaDoorF
end

section
/- One rises, one sinks. -/
set_option maxRecDepth 8192
set_option maxHeartbeats 2000000
namespace Go.Proofs.YtngpmpmhpggpgaaDoorF
open Go Go.Proofs.Vm

/-- One stands not behind another. -/
def Ah (x y : Itm) : Prop := ordI x y ≤ 0

section
variable {K : Hp} {hi si mi : Nat} (t : Three K si mi hi) {room : Int} {l : List Itm} {M : MS} {L : Hp}
include t

theorem up {i : Nat} (h1 : i < l.length) (hx : Ix l M.m) (ok : M.Ok) (ha : Almost Ah l i) (hl : l.length < 1000) :
    ∃ a K', TV.S 44 [hP hi, vI .i64 i] (hH K hi si mi room l M L) = some (a, K') ∧ ∃ (r : Nat) (l' : List Itm) (M' : MS), a = vI .i64 r ∧ K' = hH K hi si mi room l' M' L ∧ l'.Perm l ∧ Ix l' M'.m ∧ M'.Ok ∧ r < l'.length ∧ Almost Ah l' r ∧ Vm.Edge Ah l' r := by
  refine runX44 (by simp) (by rintro a K' ⟨r, l', M', -, rfl, -⟩; simp [hH, hq_len]) ?_
  simp -implicitDefEqProofs [Tryd.f44]
  obtain ⟨I, hI⟩ : ∃ I : Nat → St → Prop, ∀ k s', I k s' ↔ (∃ e l' M', s' = ⟨e, hH K hi si mi room l' M' L⟩ ∧ e 0 = hP hi ∧ e 1 = vI .i64 (k : Nat) ∧ l'.Perm l ∧ Ix l' M'.m ∧ M'.Ok ∧ k < l'.length ∧ Almost Ah l' k) := ⟨_, fun _ _ => Iff.rfl⟩
  refine wpL_ind I ?_ i _ ((hI _ _).2 ⟨_, l, M, rfl, by simp, by simp, .refl _, hx, ok, h1, ha⟩)
  intro k st hst
  obtain ⟨e, l', M', rfl, e0, e1, hp, hx', ok', hk, hal⟩ := (hI _ _).1 hst
  have hlen : l'.length = l.length := hp.length_eq
  by_cases c : k = 0
  · subst c
    simp -implicitDefEqProofs [e1]
    exact ⟨0, rfl, l', M', rfl, hp, hx', ok', hk, hal, fun h => absurd h (Nat.lt_irrefl _)⟩
  · have c' : 0 < (k : Int) := by omega
    have c2 : 0 < k := by omega
    have hq2 := fun (H : Hp) (t : TypeId) (x y : Operand) => bin_half (P := Tryd.prog) (H := H) (t := t) (x := x) (y := y) (k := k - 1) (by omega)
    have w1 : IntKind.i64.wrap ((k : Int) - 1) = ((k - 1 : Nat) : Int) := by rw [w64_id (by omega) (by omega)]; omega
    have hpar : (k - 1) / 2 < l'.length := by omega
    have hst' := fun (hlt : Ah (l'[(k - 1) / 2]'hpar) l'[k]) => up_step (A := Ah) ordI_le_trans hal c2 hk hlt
    have hdn : ¬ Ah l'[k] (l'[(k - 1) / 2]'hpar) ∨ Vm.Edge Ah l' k := by
      by_cases hh : Ah l'[k] (l'[(k - 1) / 2]'hpar)
      · exact .inr fun _ _ => hh
      · exact .inl hh
    have hle : (k - 1) / 2 < k := by omega
    generalize hpd : (k - 1) / 2 = p at *
    have hab := above t (room := room) (M := M') (L := L) hk hpar
    have hsw := swap t (room := room) (L := L) hk hpar hx' ok'
    by_cases d : ordI l'[k] l'[p] > 0
    · have d' : 0 < ordI l'[k] l'[p] := d
      simp -implicitDefEqProofs [e0, e1, c2, w1, hq2, hab, hsw, d']
      have hn := ordI_neg l'[k] l'[p]
      exact ⟨p, hle, (hI _ _).2 ⟨_, swp l' k p, _, rfl, by simp [e0], by simp, (swp_perm hk hpar).trans hp, by rw [MS.put_m, MS.put_m]; exact ix_swp hx' hk hpar, MS.put_ok (MS.put_ok ok' _ _) _ _, by rw [swp_len]; exact hpar, hst' (by unfold Ah; omega)⟩⟩
    · have d' : ¬ 0 < ordI l'[k] l'[p] := d
      simp -implicitDefEqProofs [e0, e1, c2, w1, hq2, hab, d']
      have he : Vm.Edge Ah l' k := by
        rcases hdn with hdn | hdn
        · exact absurd (show Ah l'[k] l'[p] by unfold Ah; omega) hdn
        · exact hdn
      exact ⟨k, rfl, l', M', rfl, hp, hx', ok', hk, hal, he⟩
theorem down {i : Nat} (h1 : i < l.length) (hx : Ix l M.m) (ok : M.Ok) (ha : Almost Ah l i) (hed : Vm.Edge Ah l i) (hl : l.length < 1000) :
    ∃ a K', TV.S 43 [hP hi, vI .i64 i] (hH K hi si mi room l M L) = some (a, K') ∧ ∃ (l' : List Itm) (M' : MS), a = und ∧ K' = hH K hi si mi room l' M' L ∧ l'.Perm l ∧ Ix l' M'.m ∧ M'.Ok ∧ HeapOk Ah l' := by
  refine runX43 (by simp) (by rintro a K' ⟨l', M', -, rfl, -⟩; simp [hH, hq_len]) ?_
  simp -implicitDefEqProofs [Tryd.f43]
  obtain ⟨I, hI⟩ : ∃ I : Nat → St → Prop, ∀ k s', I k s' ↔ (∃ e l' M' i, s' = ⟨e, hH K hi si mi room l' M' L⟩ ∧ e 0 = hP hi ∧ e 1 = vI .i64 (i : Nat) ∧ l'.Perm l ∧ Ix l' M'.m ∧ M'.Ok ∧ i < l'.length ∧ k = l.length - i ∧ Almost Ah l' i ∧ Vm.Edge Ah l' i) := ⟨_, fun _ _ => Iff.rfl⟩
  refine wpL_ind I ?_ (l.length - i) _ ((hI _ _).2 ⟨_, l, M, i, rfl, by simp, by simp, .refl _, hx, ok, h1, rfl, ha, hed⟩)
  intro k st hst
  obtain ⟨e, l', M', i, rfl, e0, e1, hp, hx', ok', hk, rfl, hal, he⟩ := (hI _ _).1 hst
  have hlen : l'.length = l.length := hp.length_eq
  have w1 : IntKind.i64.wrap (2 * (i : Int)) = ((2 * i : Nat) : Int) := by rw [w64_id (by omega) (by omega)]; omega
  have w2 : IntKind.i64.wrap (2 * (i : Int) + 1) = ((2 * i + 1 : Nat) : Int) := by rw [w64_id (by omega) (by omega)]; omega
  have w3 : IntKind.i64.wrap (2 * (i : Int) + 2) = ((2 * i + 2 : Nat) : Int) := by rw [w64_id (by omega) (by omega)]; omega
  have hdi := ordI_neg
  have htop : ∀ t' : Nat, ∀ ht : t' < l'.length, t' ≠ i → (t' - 1) / 2 = i → 0 < t' → Ah l'[i] l'[t'] → (∀ c, 0 < c → (c - 1) / 2 = i → ∀ hc : c < l'.length, Ah l'[c] l'[t']) → Almost Ah (swp l' i t') t' ∧ Vm.Edge Ah (swp l' i t') t' := fun t' ht _ hp0 h0 hlt hoth => down_step hal he hk ht h0 hp0 hlt fun c c0 cp _ hc => hoth c c0 cp hc
  have hend : (∀ c, 0 < c → (c - 1) / 2 = i → ∀ hc : c < l'.length, Ah l'[c] l'[i]) → HeapOk Ah l' := fun h => down_end hal he fun c c0 cp h0 hc => by
    have := h c c0 cp hc
    simp only [cp]
    exact this
  simp -implicitDefEqProofs [e1, w1, w2]
  obtain ⟨J, hJ⟩ : ∃ J : Nat → St → Prop, ∀ k s', J k s' ↔ (∃ e' t' kk, s' = ⟨e', hH K hi si mi room l' M' L⟩ ∧ e' 0 = hP hi ∧ e' 1 = vI .i64 (i : Nat) ∧ e' 4 = vI .i64 (t' : Nat) ∧ e' 5 = vI .i64 (kk : Nat) ∧ k = 2 * i + 3 - kk ∧ 2 * i + 1 ≤ kk ∧ kk ≤ 2 * i + 3 ∧ (t' = i ∨ 0 < t' ∧ (t' - 1) / 2 = i) ∧
      ∃ ht : t' < l'.length, Ah l'[i] l'[t'] ∧ ∀ c, 2 * i + 1 ≤ c → c < kk → ∀ hc : c < l'.length, Ah l'[c] l'[t']) := ⟨_, fun _ _ => Iff.rfl⟩
  have hrefl : Ah l'[i] l'[i] := by unfold Ah; rw [ordI_eq.2 rfl]; decide
  refine wpL_ind J ?_ 2 _ ((hJ _ _).2 ⟨_, i, 2 * i + 1, rfl, by simp [e0], by simp [e1], by simp, by simp, by omega, by omega, by omega, .inl rfl, hk, hrefl, fun c h1 h2 => by omega⟩)
  intro k st hst
  obtain ⟨e', t', kk, rfl, f0, f1, f4, f5, rfl, k1, k2, htp, htl, hit, hall⟩ := (hJ _ _).1 hst
  have w4 : IntKind.i64.wrap ((kk : Int) + 1) = ((kk + 1 : Nat) : Int) := by rw [w64_id (by omega) (by omega)]; omega
  have ga := fun x y z L => hq_a t x y z L
  have gc := fun x y z L => hq_c t x y z L
  by_cases hgo : kk ≤ 2 * i + 2 ∧ kk < l'.length
  · obtain ⟨c1, c2⟩ := hgo
    have c1' : (kk : Int) ≤ 2 * (i : Int) + 2 := by omega
    have hab := above t (room := room) (M := M') (L := L) c2 htl
    simp only [hH, hP] at hab
    by_cases d : 0 < ordI l'[kk] l'[t']
    · simp -implicitDefEqProofs [f0, f1, f4, f5, hP, hH, vnil, isPtr, fresh, cellsAt, ga, gc, w1, w3, c1', c2, hab, d, w4]
      have hn := ordI_neg l'[kk] l'[t']
      have hle : Ah l'[t'] l'[kk] := by unfold Ah; omega
      refine ⟨2 * i + 3 - (kk + 1), by omega, (hJ _ _).2 ⟨_, kk, kk + 1, rfl, by simp [f0, hP], by simp [f1], by simp, by simp, rfl, by omega, by omega, .inr ⟨by omega, by omega⟩, c2, ordI_le_trans _ _ _ hit hle, fun c h1 h2 hc => ?_⟩⟩
      by_cases hck : c = kk
      · subst hck; unfold Ah; rw [ordI_eq.2 rfl]; decide
      · exact ordI_le_trans _ _ _ (hall c h1 (by omega) hc) hle
    · simp -implicitDefEqProofs [f0, f1, f4, f5, hP, hH, vnil, isPtr, fresh, cellsAt, ga, gc, w1, w3, c1', c2, hab, d, w4]
      refine ⟨2 * i + 3 - (kk + 1), by omega, (hJ _ _).2 ⟨_, t', kk + 1, rfl, by simp [f0, hP], by simp [f1], by simp [f4], by simp, rfl, by omega, by omega, htp, htl, hit, fun c h1 h2 hc => ?_⟩⟩
      by_cases hck : c = kk
      · subst hck; unfold Ah; omega
      · exact hall c h1 (by omega) hc
  · have hlast : ∀ c, 0 < c → (c - 1) / 2 = i → ∀ hc : c < l'.length, Ah l'[c] l'[t'] := fun c c0 cp hc => hall c (by omega) (by omega) hc
    have hsw := swap t (room := room) (L := L) hk htl hx' ok'
    simp only [hH, hP] at hsw
    by_cases d : t' = i
    · subst d
      by_cases c1 : (kk : Int) ≤ 2 * (t' : Int) + 2
      · have c2 : ¬ kk < l'.length := fun h => hgo ⟨by omega, h⟩
        simp -implicitDefEqProofs [f0, f1, f4, f5, hP, hH, vnil, isPtr, fresh, cellsAt, ga, gc, w1, w3, c1, c2]
        exact ⟨rfl, l', M', rfl, hp, hx', ok', hend hlast⟩
      · simp -implicitDefEqProofs [f1, f4, f5, hH, w1, w3, c1]
        exact ⟨rfl, l', M', rfl, hp, hx', ok', hend hlast⟩
    · have d' : ¬ (t' : Int) = (i : Int) := by omega
      have d2 : 0 < t' ∧ (t' - 1) / 2 = i := by rcases htp with h | h; · exact absurd h d
                                                exact h
      have hnew := htop t' htl d d2.2 d2.1 hit hlast
      by_cases c1 : (kk : Int) ≤ 2 * (i : Int) + 2
      · have c2 : ¬ kk < l'.length := fun h => hgo ⟨by omega, h⟩
        simp -implicitDefEqProofs [f0, f1, f4, f5, hP, hH, vnil, isPtr, fresh, cellsAt, ga, gc, w1, w3, c1, c2, d', hsw]
        exact ⟨l.length - t', by omega, (hI _ _).2 ⟨_, swp l' i t', _, t', rfl, by simp [f0, hP], by simp, (swp_perm hk htl).trans hp, by rw [MS.put_m, MS.put_m]; exact ix_swp hx' hk htl, MS.put_ok (MS.put_ok ok' _ _) _ _, by rw [swp_len]; exact htl, rfl, hnew.1, hnew.2⟩⟩
      · simp -implicitDefEqProofs [f0, f1, f4, f5, hP, hH, w1, w3, c1, d', hsw]
        exact ⟨l.length - t', by omega, (hI _ _).2 ⟨_, swp l' i t', _, t', rfl, by simp [f0, hP], by simp, (swp_perm hk htl).trans hp, by rw [MS.put_m, MS.put_m]; exact ix_swp hx' hk htl, MS.put_ok (MS.put_ok ok' _ _) _ _, by rw [swp_len]; exact htl, rfl, hnew.1, hnew.2⟩⟩
end
end Go.Proofs.YtngpmpmhpggpgaaDoorF
end

section
/- An offer. -/
set_option maxRecDepth 8192
set_option maxHeartbeats 2000000
namespace Go.Proofs.YtngpmpmhpggpgaaDoorF
open Go Go.Proofs.Vm

structure Inv (l : List Itm) (M : MS) : Prop where
  ix : Ix l M.m
  ok : M.Ok
  hp : HeapOk Ah l

/-- What an offer does to the items, but for where they lie. -/
def OfferR (room : Int) (l : List Itm) (key : ByteArray) (count : Int) (b : Bool) (l' : List Itm) : Prop :=
  (∃ i, ∃ h : i < l.length, l[i].1 = key ∧ b = true ∧ l'.Perm (l.set i (key, count))) ∨
  ((∀ i, ∀ h : i < l.length, l[i].1 ≠ key) ∧ (((l.length : Int) < room ∧ b = true ∧ l'.Perm (l ++ [(key, count)])) ∨
    (¬ (l.length : Int) < room ∧ ∃ h0 : 0 < l.length, (l[0].2 < count ∧ b = true ∧ l'.Perm (l.set 0 (key, count))) ∨ (¬ l[0].2 < count ∧ b = false ∧ l' = l))))

section
variable {K : Hp} {hi si mi : Nat} (t : Three K si mi hi) {room : Int} {l : List Itm} {M : MS} {L : Hp}
include t

theorem settle {i : Nat} (h1 : i < l.length) (hx : Ix l M.m) (ok : M.Ok) (ha : Almost Ah l i) (hl : l.length < 1000) :
    ∃ (r : Nat) (l1 : List Itm) (M1 : MS) (l' : List Itm) (M' : MS), TV.S 44 [hP hi, vI .i64 i] (hH K hi si mi room l M L) = some (vI .i64 r, hH K hi si mi room l1 M1 L) ∧
      TV.S 43 [hP hi, vI .i64 r] (hH K hi si mi room l1 M1 L) = some (und, hH K hi si mi room l' M' L) ∧ l'.Perm l ∧ Inv l' M' := by
  obtain ⟨a, K', e1, r, l1, M1, rfl, rfl, p1, x1, o1, hr, al1, ed1⟩ := up t (room := room) (L := L) h1 hx ok ha hl
  obtain ⟨a, K', e2, l', M', rfl, rfl, p2, x2, o2, hp⟩ := down t (room := room) (L := L) hr x1 o1 al1 ed1 (by rw [p1.length_eq]; exact hl)
  exact ⟨r, l1, M1, l', M', e1, e2, p2.trans p1, x2, o2, hp⟩

set_option maxRecDepth 20000 in
theorem offer (hr1 : 1 ≤ room) (hv : Inv l M) (hl : l.length < 500) (key : ByteArray) (count : Int) :
    ∃ a K', TV.S 30 [hP hi, vS key, vI .i64 count] (hH K hi si mi room l M L) = some (a, K') ∧ ∃ b l' M' G, a = vB b ∧ K' = hH K hi si mi room l' M' (L ++ G) ∧ Inv l' M' ∧ OfferR room l key count b l' := by
  refine runX30 (by simp) (by rintro a K' ⟨b, l', M', G, -, rfl, -⟩; simp [hH, hq_len]) ?_
  obtain ⟨hx, ok, hh⟩ := hv
  have ga := fun x y z L => hq_a t x y z L
  have gb := fun x y z L => hq_b t x y z L
  have gc := fun x y z L => hq_c t x y z L
  have sa := fun x y z u L => hq_sa t x y z u L
  have sb := fun x y z u L => hq_sb t x y z u L
  have sc := fun x y z u L => hq_sc t x y z u L
  have hlk := fun (H : Hp) h => lk_eq (H := H) (mi := mi) (k := key) mty83 ok h
  cases hg : mget key M.m with
  | some v =>
    obtain ⟨i, hi', hk, rfl⟩ := ix_some hx hg
    subst hk
    obtain ⟨r, l1, M1, l', M', e1, e2, p1, v1⟩ := settle t (room := room) (L := L) (l := l.set i (l[i].1, count)) (M := M) (i := i) (by rw [List.length_set]; exact hi') (ix_count hx hi' count) ok (almost_set ordI_le_trans hh) (by rw [List.length_set]; omega)
    simp only [hH, hP, List.length_set] at e1 e2
    have hi0 : 0 ≤ (i : Int) := by omega
    simp -implicitDefEqProofs [-List.map_set, Tryd.f30, hP, hH, vnil, isPtr, fresh, cellsAt, ga, gb, gc, sa, hlk, hg, hi', hi0, bin_pne up66, vstore, cellsOf?, wr_count hi', e1, e2]
    exact ⟨rfl, Nat.le_refl _, l', M', ⟨[], by rw [List.append_nil]⟩, v1, .inl ⟨i, hi', rfl, rfl, p1⟩⟩
  | none =>
    have hno : ∀ i, ∀ h : i < l.length, l[i].1 ≠ key := fun i h e => by have := hx.at_ i h; rw [e, hg] at this; cases this
    by_cases hr : (l.length : Int) < room
    · have hl2 : (l ++ [(key, count)]).length = l.length + 1 := by simp
      obtain ⟨r, l1, M1, l', M', e1, e2, p1, v1⟩ := settle t (room := room) (L := L ++ [.clo [cItm (key, count)] false]) (l := l ++ [(key, count)]) (M := M.put key l.length) (i := l.length) (by rw [hl2]; omega) (by rw [MS.put_m]; exact ix_push hx hg) (MS.put_ok ok _ _) (almost_push hh) (by rw [hl2]; omega)
      simp only [hH, hP, hl2, cItm, List.map_append, List.map_cons, List.map_nil] at e1 e2
      have hmu := fun (H : Hp) h => mu_eq (H := H) (mi := mi) (k := key) (v := (l.length : Int)) mty83 ok h
      have w1 : IntKind.i64.wrap ((l.length : Int) + 1) = ((l.length + 1 : Nat) : Int) := by rw [w64_id (by omega) (by omega)]; omega
      have b1 : 24 * (l.length + 1) ≤ 140737488355328 := by omega
      have b2 : l.length + 1 ≤ 4611686018427387904 := by omega
      have hal : AllLen (l.map cItm) 2 := by intro x hx; obtain ⟨y, _, rfl⟩ := List.mem_map.1 hx; rfl
      simp -implicitDefEqProofs [Tryd.f30, hP, hH, vnil, isPtr, fresh, cellsAt, ga, gb, gc, sa, sb, sc, hlk, hg, hr, bin_pne up66, wr, vstore, Ent.wrO, cellsOf?, hmu, vappend_sp es34 es34 el43, vbuildSlice_eq es34 el43, fzParts, setAll, rchParts, elemsOf, b1, b2, hal, hq_app, hq_len, hq_gete, e1, e2]
      exact ⟨l', M', ⟨_, rfl⟩, v1, .inr ⟨hno, .inl ⟨hr, rfl, p1⟩⟩⟩
    · have hne : 0 < l.length := by omega
      by_cases hc : l[0].2 < count
      · obtain ⟨r, l1, M1, l', M', e1, e2, p1, v1⟩ := settle t (room := room) (L := L) (l := l.set 0 (key, count)) (M := (M.del l[0].1).put key 0) (i := 0) (by rw [List.length_set]; exact hne) (by rw [MS.put_m, MS.del_m]; exact ix_top hx hne hg) (MS.put_ok (MS.del_ok ok _) _ _) (almost_set ordI_le_trans hh) (by rw [List.length_set]; omega)
        simp only [hH, hP, List.length_set, Int.natCast_zero] at e1 e2
        have hmd := fun (H : Hp) (k : ByteArray) h => md_eq (H := H) (mi := mi) (k := k) mty83 ok h
        have okd := MS.del_ok ok l[0].1
        have hmu := fun (H : Hp) (h : H[mi]? = some (M.del l[0].1).ent) => mu_eq (k := key) (v := 0) mty83 okd h
        simp -implicitDefEqProofs [-List.map_set, Tryd.f30, hP, hH, vnil, isPtr, fresh, cellsAt, ga, gb, gc, sa, sb, hlk, hg, hr, hc, hne, bin_pne up66, wr, vstore, wr_item, cItm, cellsOf?, mapO, fzc, rch, frzAll, hmd, hmu, e1, e2]
        exact ⟨l', M', ⟨[], by rw [List.append_nil]⟩, v1, .inr ⟨hno, .inr ⟨hr, hne, .inl ⟨hc, rfl, p1⟩⟩⟩⟩
      · simp -implicitDefEqProofs [Tryd.f30, hP, hH, vnil, isPtr, fresh, cellsAt, ga, gb, gc, hlk, hg, hr, hc, hne, cItm, bin_pne up66]
        exact ⟨l, M, ⟨[], by rw [List.append_nil]⟩, ⟨hx, ok, hh⟩, .inr ⟨hno, .inr ⟨hr, hne, .inr ⟨hc, rfl, rfl⟩⟩⟩⟩
end

theorem ix_nil : Ix [] [] := ⟨List.nodup_nil, rfl, fun i h => absurd h (Nat.not_lt_zero _), fun k v h => by cases h⟩
theorem heap_nil : HeapOk Ah [] := fun _j _ h => absurd h (Nat.not_lt_zero _)

end Go.Proofs.YtngpmpmhpggpgaaDoorF
end

section
/- A heap made, and its list. -/
set_option maxRecDepth 8192
set_option maxHeartbeats 2000000
namespace Go.Proofs.YtngpmpmhpggpgaaDoorF
open Go Go.Proofs.Vm

def hN : AV := .one (.c (.v (.pointer none)))

theorem new_no {room : Int} {H : Hp} (h : room < 1 ∨ 64 < room) : TV.S 42 [vI .i64 room] H = some (hN, H) := by
  refine run42 (by simp) (by simp) ?_
  by_cases h1 : room < 1
  · simp -implicitDefEqProofs [Tryd.f42, h1, hN]
  · have h2 : 64 < room := by omega
    simp -implicitDefEqProofs [Tryd.f42, h1, h2, hN]
theorem new_yes {room : Int} {H : Hp} (h1 : 1 ≤ room) (h2 : room ≤ 64) : TV.S 42 [vI .i64 room] H = some (hP (H.length + 2), H ++ [MS.empty.ent, .clo [] false, .opn [[.c (.v (.int .i64 room)), .sl (H.length + 1) 0 0 0, .mp H.length]] false]) := by
  refine run42 (by simp) (by simp) ?_
  have c1 : ¬ room < 1 := by omega
  have c2 : ¬ 64 < room := by omega
  simp -implicitDefEqProofs [Tryd.f42, c1, c2, hP, MS.empty_ent, wr, vmakeMap, cellsOf?, ownz]

end Go.Proofs.YtngpmpmhpggpgaaDoorF
namespace Go.Proofs.YtngpmpmhpggpgaaDoorF
open Go Go.Proofs.Vm

theorem sort_ {H : Hp} {id : Nat} {xs : List Itm} (h : H[id]? = some (.clo (xs.map cItm) false)) (hl : xs.length < 1000) :
    TV.S 46 [.one (.sl id 0 xs.length xs.length), .one (.fn 47 [])] H = some (und, H.set id (.clo ((isort ordI xs).map cItm) false)) := by
  refine TT_baseS ?_
  have h2 : xs.length < 4611686018427387904 := by omega
  simp [cfg, orTab, tzTab, sortTab, cloTab, itmTab, sortFRun, h, mapO_itm, h2]

theorem clone00 {H : Hp} {id : Nat} (h : H[id]? = some (.clo [] false)) : TV.S 20 [.one (.sl id 0 0 0)] H = some (.one (.sl (H.length + 1) 0 0 0), H ++ [.clo [] false, .clo [] false]) := by
  refine TT_baseS ?_
  simp [cfg, orTab, tzTab, sortTab, cloTab, cloRun, itmTab, clone0Run, h]

section
variable {K : Hp} {hi si mi : Nat} (t : Three K si mi hi) {room : Int} {l : List Itm} {M : MS} {L : Hp}
include t

theorem clone_ (hl : l.length < 1000) :
    TV.S 20 [.one (.sl si 0 l.length l.length)] (hH K hi si mi room l M L) = some (.one (.sl (K.length + (L.length + 1)) 0 l.length l.length), hH K hi si mi room l M (L ++ [.clo [] false, .clo (l.map cItm) false])) := by
  have ga := fun x y z L => hq_a t x y z L
  cases hl0 : l with
  | nil =>
    have := clone00 (H := hH K hi si mi room [] M L) (id := si) (by unfold hH; rw [ga]; rfl)
    simp only [List.length_nil]
    rw [this]
    simp [hH, hq_app, hq_len, Nat.add_assoc]
  | cons x r =>
    rw [← hl0]
    have hne : l.length ≠ 0 := by rw [hl0]; simp
    have hb : cfg.base.S 20 [.one (.sl si 0 l.length l.length)] (hH K hi si mi room l M L) = none := by
      show clone0Run _ _ = none
      unfold clone0Run
      split
      · rename_i heq
        have : l.length = 0 := by injection heq with h1; injection h1 with h1; injection h1
        exact absurd this hne
      · rfl
    refine run20 hb (by simp) (by refine ⟨by simp [hH, hq_len], fun _ => ?_⟩; simp only [hH]; rw [← hq_app]; exact List.prefix_append _ _) ?_
    have hll : lenIs (hq K si mi hi (.clo (l.map cItm) false) M.ent (.opn [[.c (.v (.int .i64 room)), .sl si 0 l.length l.length, .mp mi]] false) (L ++ [.clo [] false])) si l.length = true := by simp [ga]
    have hsl := fun (t : TypeId) (e : TypeId) (he : elemOfSlice Tryd.prog t = some e) (x y : Operand) => bin_slo he (x := x) (y := y) (o := 0) hne hll
    have b1 : 24 * l.length ≤ 140737488355328 := by omega
    have b2 : l.length ≤ 4611686018427387904 := by omega
    have hal : AllLen (l.map cItm) 2 := by intro x hx; obtain ⟨y, _, rfl⟩ := List.mem_map.1 hx; rfl
    have htk : (l.map cItm).take l.length = l.map cItm := List.take_of_length_le (by simp)
    simp -implicitDefEqProofs [Tryd.f20, hH, ga, vmove, isNil, hsl 34 43 es34, bs_zero es34 el43, vappend_sp es34 es34 el43, elemsOf, hq_app, hq_len, hq_gete, hq_set, b1, b2, hal, htk]

theorem list_ (hl : l.length < 1000) :
    TV.S 32 [hP hi] (hH K hi si mi room l M L) = some (.one (.sl (K.length + (L.length + 2)) 0 l.length l.length), hH K hi si mi room l M (L ++ [.clo [] false, .clo [] false, .clo ((isort ordI l).map cItm) false])) := by
  refine run32 (by simp) (by simp [hH, hq_len]) ?_
  have ga := fun x y z L => hq_a t x y z L
  have gc := fun x y z L => hq_c t x y z L
  have hcl := clone_ t (room := room) (M := M) (L := L ++ [.clo [] false]) hl
  have hso := sort_ (H := hH K hi si mi room l M (L ++ [.clo [] false, .clo [] false, .clo (l.map cItm) false])) (id := K.length + (L.length + 2)) (xs := l) (by unfold hH; rw [hq_get]; simp) hl
  simp only [hH, List.append_assoc, List.length_append, List.length_cons, List.length_nil, List.cons_append, List.nil_append, hq_set, Nat.add_assoc, Nat.zero_add, Nat.reduceAdd] at hcl hso
  simp -implicitDefEqProofs [Tryd.f32, hH, hP, vnil, isPtr, fresh, cellsAt, gc, vmove, isNil, bin_pne up66, hq_app, hq_len, hcl, hso]
end
end Go.Proofs.YtngpmpmhpggpgaaDoorF
end

section
/- The document's items. -/
set_option maxRecDepth 8192
set_option maxHeartbeats 1000000
namespace Go.Proofs.YtngpmpmhpggpgaaDoorF
open Go Go.Proofs.Vm

def cItms (l : List Itm) : CV := .arr (l.map cItm)
def aheadB (a b : Itm) : Bool := decide (ordI a b < 0)
/-- The document's list with one more. -/
def insL (x : Itm) : List Itm → List Itm
  | [] => [x]
  | y :: r => if aheadB x y = true then x :: y :: r else y :: insL x r
theorem insL_len (x : Itm) : ∀ l, (insL x l).length = l.length + 1
  | [] => rfl
  | y :: r => by
    unfold insL
    split
    · rfl
    · simp [insL_len x r]
def notK (k : ByteArray) (l : List Itm) : List Itm := l.filter fun x => decide (x.1 ≠ k)
theorem notK_step {k : ByteArray} {l : List Itm} {i : Nat} (c : i < l.length) : notK k (l.take (i + 1)) = if l[i].1 = k then notK k (l.take i) else notK k (l.take i) ++ [l[i]] := by
  rw [List.take_add_one, List.getElem?_eq_getElem c]
  show (l.take i ++ [l[i]]).filter _ = _
  rw [List.filter_append]
  unfold notK
  by_cases d : l[i].1 = k <;> simp [d]
theorem take_itm (l : List Itm) : (l.map cItm).take l.length = l.map cItm := List.take_of_length_le (by simp)
theorem cItm_all (l : List Itm) : AllLen (l.map cItm) 2 := by intro x hx; obtain ⟨y, _, rfl⟩ := List.mem_map.1 hx; rfl

end Go.Proofs.YtngpmpmhpggpgaaDoorF
end

section
/- The document's items without a key. -/
set_option maxRecDepth 8192
set_option maxHeartbeats 1000000
namespace Go.Proofs.YtngpmpmhpggpgaaDoorF
open Go Go.Proofs.Vm

end Go.Proofs.YtngpmpmhpggpgaaDoorF
end
