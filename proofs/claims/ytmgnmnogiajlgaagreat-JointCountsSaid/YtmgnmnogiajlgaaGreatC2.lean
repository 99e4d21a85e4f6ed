/- Steps shared by the proofs of this seat's statements (part 2). -/
import Derived.Test.YtmgnmnogiajlgaaGreatC1
import Derived.Test.YtmgnmnogiajlgaaGreatProg
import Derived.KernelRfl
import Derived.Sort.Grow
import Derived.Shelf.Sort.Plain
import Derived.Deep.Slices
import Derived.ChangeArms
import Derived.ChangeSame
import Derived.SizedLaws
import Derived.WideShapes
import Derived.WalkKit
import Derived.ProofKit
import Derived.OpenShut
import Derived.ShutString
import Derived.ChangeOld
import Derived.Below
import Derived.Shelf.Small.Strs
import Derived.Shelf.Small.Wraps
import Derived.Shelf.Slices.In.SortNone
import Derived.Ground.Names2Prog
import Derived.Shelf.GgSortFunc.InsertionK
import Derived.Lib.Bytealg
import Derived.Laws.BitsAllLaws
section
/- Closed facts of this seat's types and functions. -/
namespace Go.Proofs.YtmgnmnogiajlgaaGreatF
open Go Go.Proofs.Vm
@[simp] theorem ld2 : ldOf Tryz.prog 2 = some none := by kernel_rfl
@[simp] theorem z2 : zOf Tryz.prog 2 = some [.int .i64 0] := by kernel_rfl
@[simp] theorem el2 : elOf Tryz.prog 2 = some (1, 8, [.v (.int .i64 0)]) := by kernel_rfl
@[simp] theorem st2 : isSliceT Tryz.prog 2 = false := by kernel_rfl
@[simp] theorem sz2 : pv Tryz.prog (sizeOf 2) = some 1 := by kernel_rfl
@[simp] theorem u82 : isU8 Tryz.prog 2 = false := by kernel_rfl
@[simp] theorem mt2 : isMapT Tryz.prog 2 = false := by kernel_rfl
@[simp] theorem ik2 : ikOf Tryz.prog 2 = some .i64 := by kernel_rfl
@[simp] theorem ld3 : ldOf Tryz.prog 3 = some none := by kernel_rfl
@[simp] theorem z3 : zOf Tryz.prog 3 = some [.int .i64 0] := by kernel_rfl
@[simp] theorem el3 : elOf Tryz.prog 3 = some (1, 8, [.v (.int .i64 0)]) := by kernel_rfl
@[simp] theorem st3 : isSliceT Tryz.prog 3 = false := by kernel_rfl
@[simp] theorem sz3 : pv Tryz.prog (sizeOf 3) = some 1 := by kernel_rfl
@[simp] theorem u83 : isU8 Tryz.prog 3 = false := by kernel_rfl
@[simp] theorem mt3 : isMapT Tryz.prog 3 = false := by kernel_rfl
@[simp] theorem ik3 : ikOf Tryz.prog 3 = some .i64 := by kernel_rfl
@[simp] theorem ld4 : ldOf Tryz.prog 4 = some none := by kernel_rfl
@[simp] theorem z4 : zOf Tryz.prog 4 = some [.bool false] := by kernel_rfl
@[simp] theorem el4 : elOf Tryz.prog 4 = some (1, 1, [.v (.bool false)]) := by kernel_rfl
@[simp] theorem st4 : isSliceT Tryz.prog 4 = false := by kernel_rfl
@[simp] theorem sz4 : pv Tryz.prog (sizeOf 4) = some 1 := by kernel_rfl
@[simp] theorem u84 : isU8 Tryz.prog 4 = false := by kernel_rfl
@[simp] theorem mt4 : isMapT Tryz.prog 4 = false := by kernel_rfl
@[simp] theorem ik4 : ikOf Tryz.prog 4 = none := by kernel_rfl
@[simp] theorem ub4 : pv Tryz.prog (underlying 4) = some .bool := by kernel_rfl
@[simp] theorem ld5 : ldOf Tryz.prog 5 = some none := by kernel_rfl
@[simp] theorem z5 : zOf Tryz.prog 5 = some [.int .u8 0] := by kernel_rfl
@[simp] theorem el5 : elOf Tryz.prog 5 = some (1, 1, [.v (.int .u8 0)]) := by kernel_rfl
@[simp] theorem st5 : isSliceT Tryz.prog 5 = false := by kernel_rfl
@[simp] theorem sz5 : pv Tryz.prog (sizeOf 5) = some 1 := by kernel_rfl
@[simp] theorem u85 : isU8 Tryz.prog 5 = false := by kernel_rfl
@[simp] theorem mt5 : isMapT Tryz.prog 5 = false := by kernel_rfl
@[simp] theorem ik5 : ikOf Tryz.prog 5 = some .u8 := by kernel_rfl
@[simp] theorem ld9 : ldOf Tryz.prog 9 = some none := by kernel_rfl
@[simp] theorem z9 : zOf Tryz.prog 9 = some [.string ByteArray.empty] := by kernel_rfl
@[simp] theorem el9 : elOf Tryz.prog 9 = some (1, 16, [.v (.string ByteArray.empty)]) := by kernel_rfl
@[simp] theorem st9 : isSliceT Tryz.prog 9 = false := by kernel_rfl
@[simp] theorem sz9 : pv Tryz.prog (sizeOf 9) = some 1 := by kernel_rfl
@[simp] theorem u89 : isU8 Tryz.prog 9 = false := by kernel_rfl
@[simp] theorem mt9 : isMapT Tryz.prog 9 = false := by kernel_rfl
@[simp] theorem sr9 : isStrT Tryz.prog 9 = true := by kernel_rfl
@[simp] theorem ik9 : ikOf Tryz.prog 9 = none := by kernel_rfl
@[simp] theorem us9 : pv Tryz.prog (underlying 9) = some .string := by kernel_rfl
@[simp] theorem lns9 {H : Hp} {ty : TypeId} {s : ByteArray} : vlen Tryz.prog H #[9] ty (vS s) = qa (vI .i64 s.size) := len_str us9
@[simp] theorem ld12 : ldOf Tryz.prog 12 = some none := by kernel_rfl
@[simp] theorem z12 : zOf Tryz.prog 12 = some [.int .u64 0] := by kernel_rfl
@[simp] theorem el12 : elOf Tryz.prog 12 = some (1, 8, [.v (.int .u64 0)]) := by kernel_rfl
@[simp] theorem st12 : isSliceT Tryz.prog 12 = false := by kernel_rfl
@[simp] theorem sz12 : pv Tryz.prog (sizeOf 12) = some 1 := by kernel_rfl
@[simp] theorem u812 : isU8 Tryz.prog 12 = false := by kernel_rfl
@[simp] theorem mt12 : isMapT Tryz.prog 12 = false := by kernel_rfl
@[simp] theorem ik12 : ikOf Tryz.prog 12 = some .u64 := by kernel_rfl
@[simp] theorem ld21 : ldOf Tryz.prog 21 = some none := by kernel_rfl
@[simp] theorem z21 : zOf Tryz.prog 21 = some [.int .i32 0] := by kernel_rfl
@[simp] theorem el21 : elOf Tryz.prog 21 = some (1, 4, [.v (.int .i32 0)]) := by kernel_rfl
@[simp] theorem st21 : isSliceT Tryz.prog 21 = false := by kernel_rfl
@[simp] theorem sz21 : pv Tryz.prog (sizeOf 21) = some 1 := by kernel_rfl
@[simp] theorem u821 : isU8 Tryz.prog 21 = false := by kernel_rfl
@[simp] theorem mt21 : isMapT Tryz.prog 21 = false := by kernel_rfl
@[simp] theorem ik21 : ikOf Tryz.prog 21 = some .i32 := by kernel_rfl
@[simp] theorem ld22 : ldOf Tryz.prog 22 = some none := by kernel_rfl
@[simp] theorem z22 : zOf Tryz.prog 22 = some [.slice none 0 0] := by kernel_rfl
@[simp] theorem el22 : elOf Tryz.prog 22 = some (1, 24, [.arr []]) := by kernel_rfl
@[simp] theorem st22 : isSliceT Tryz.prog 22 = true := by kernel_rfl
@[simp] theorem sz22 : pv Tryz.prog (sizeOf 22) = some 1 := by kernel_rfl
@[simp] theorem u822 : isU8 Tryz.prog 22 = false := by kernel_rfl
@[simp] theorem mt22 : isMapT Tryz.prog 22 = false := by kernel_rfl
@[simp] theorem ik22 : ikOf Tryz.prog 22 = none := by kernel_rfl
@[simp] theorem sR22 : strRowsT Tryz.prog 22 = false := by kernel_rfl
@[simp] theorem es22 : elemOfSlice Tryz.prog 22 = some 48 := by kernel_rfl
@[simp] theorem ld23 : ldOf Tryz.prog 23 = some none := by kernel_rfl
@[simp] theorem z23 : zOf Tryz.prog 23 = some [.slice none 0 0] := by kernel_rfl
@[simp] theorem el23 : elOf Tryz.prog 23 = some (1, 24, [.arr []]) := by kernel_rfl
@[simp] theorem st23 : isSliceT Tryz.prog 23 = true := by kernel_rfl
@[simp] theorem sz23 : pv Tryz.prog (sizeOf 23) = some 1 := by kernel_rfl
@[simp] theorem u823 : isU8 Tryz.prog 23 = false := by kernel_rfl
@[simp] theorem mt23 : isMapT Tryz.prog 23 = false := by kernel_rfl
@[simp] theorem ik23 : ikOf Tryz.prog 23 = none := by kernel_rfl
@[simp] theorem sR23 : strRowsT Tryz.prog 23 = false := by kernel_rfl
@[simp] theorem es23 : elemOfSlice Tryz.prog 23 = some 43 := by kernel_rfl
@[simp] theorem ld27 : ldOf Tryz.prog 27 = some none := by kernel_rfl
@[simp] theorem z27 : zOf Tryz.prog 27 = some [.slice none 0 0] := by kernel_rfl
@[simp] theorem el27 : elOf Tryz.prog 27 = some (1, 24, [.arr []]) := by kernel_rfl
@[simp] theorem st27 : isSliceT Tryz.prog 27 = true := by kernel_rfl
@[simp] theorem sz27 : pv Tryz.prog (sizeOf 27) = some 1 := by kernel_rfl
@[simp] theorem u827 : isU8 Tryz.prog 27 = false := by kernel_rfl
@[simp] theorem mt27 : isMapT Tryz.prog 27 = false := by kernel_rfl
@[simp] theorem ik27 : ikOf Tryz.prog 27 = none := by kernel_rfl
@[simp] theorem sR27 : strRowsT Tryz.prog 27 = true := by kernel_rfl
@[simp] theorem es27 : elemOfSlice Tryz.prog 27 = some 35 := by kernel_rfl
@[simp] theorem ld28 : ldOf Tryz.prog 28 = some none := by kernel_rfl
@[simp] theorem z28 : zOf Tryz.prog 28 = some [.int .i64 0] := by kernel_rfl
@[simp] theorem el28 : elOf Tryz.prog 28 = some (1, 8, [.v (.int .i64 0)]) := by kernel_rfl
@[simp] theorem st28 : isSliceT Tryz.prog 28 = false := by kernel_rfl
@[simp] theorem sz28 : pv Tryz.prog (sizeOf 28) = some 1 := by kernel_rfl
@[simp] theorem u828 : isU8 Tryz.prog 28 = false := by kernel_rfl
@[simp] theorem mt28 : isMapT Tryz.prog 28 = false := by kernel_rfl
@[simp] theorem ik28 : ikOf Tryz.prog 28 = some .i64 := by kernel_rfl
@[simp] theorem ld35 : ldOf Tryz.prog 35 = some none := by kernel_rfl
@[simp] theorem z35 : zOf Tryz.prog 35 = some [.slice none 0 0] := by kernel_rfl
@[simp] theorem el35 : elOf Tryz.prog 35 = some (1, 24, [.arr []]) := by kernel_rfl
@[simp] theorem st35 : isSliceT Tryz.prog 35 = true := by kernel_rfl
@[simp] theorem sz35 : pv Tryz.prog (sizeOf 35) = some 1 := by kernel_rfl
@[simp] theorem u835 : isU8 Tryz.prog 35 = false := by kernel_rfl
@[simp] theorem mt35 : isMapT Tryz.prog 35 = false := by kernel_rfl
@[simp] theorem ik35 : ikOf Tryz.prog 35 = none := by kernel_rfl
@[simp] theorem sR35 : strRowsT Tryz.prog 35 = false := by kernel_rfl
@[simp] theorem es35 : elemOfSlice Tryz.prog 35 = some 9 := by kernel_rfl
@[simp] theorem ld37 : ldOf Tryz.prog 37 = some none := by kernel_rfl
@[simp] theorem z37 : zOf Tryz.prog 37 = some [.int .u64 0] := by kernel_rfl
@[simp] theorem el37 : elOf Tryz.prog 37 = some (1, 8, [.v (.int .u64 0)]) := by kernel_rfl
@[simp] theorem st37 : isSliceT Tryz.prog 37 = false := by kernel_rfl
@[simp] theorem sz37 : pv Tryz.prog (sizeOf 37) = some 1 := by kernel_rfl
@[simp] theorem u837 : isU8 Tryz.prog 37 = false := by kernel_rfl
@[simp] theorem mt37 : isMapT Tryz.prog 37 = false := by kernel_rfl
@[simp] theorem ik37 : ikOf Tryz.prog 37 = some .u64 := by kernel_rfl
@[simp] theorem ld38 : ldOf Tryz.prog 38 = some none := by kernel_rfl
@[simp] theorem z38 : zOf Tryz.prog 38 = some [.slice none 0 0] := by kernel_rfl
@[simp] theorem el38 : elOf Tryz.prog 38 = some (1, 24, [.arr []]) := by kernel_rfl
@[simp] theorem st38 : isSliceT Tryz.prog 38 = true := by kernel_rfl
@[simp] theorem sz38 : pv Tryz.prog (sizeOf 38) = some 1 := by kernel_rfl
@[simp] theorem u838 : isU8 Tryz.prog 38 = false := by kernel_rfl
@[simp] theorem mt38 : isMapT Tryz.prog 38 = false := by kernel_rfl
@[simp] theorem ik38 : ikOf Tryz.prog 38 = none := by kernel_rfl
@[simp] theorem sR38 : strRowsT Tryz.prog 38 = false := by kernel_rfl
@[simp] theorem es38 : elemOfSlice Tryz.prog 38 = some 4 := by kernel_rfl
@[simp] theorem ld39 : ldOf Tryz.prog 39 = some (some 3) := by kernel_rfl
@[simp] theorem z39 : zOf Tryz.prog 39 = some [.int .u64 0, .int .i64 0, .slice none 0 0] := by kernel_rfl
@[simp] theorem el39 : elOf Tryz.prog 39 = some (3, 40, [.v (.int .u64 0), .v (.int .i64 0), .arr []]) := by kernel_rfl
@[simp] theorem st39 : isSliceT Tryz.prog 39 = false := by kernel_rfl
@[simp] theorem sz39 : pv Tryz.prog (sizeOf 39) = some 3 := by kernel_rfl
@[simp] theorem u839 : isU8 Tryz.prog 39 = false := by kernel_rfl
@[simp] theorem mt39 : isMapT Tryz.prog 39 = false := by kernel_rfl
@[simp] theorem ik39 : ikOf Tryz.prog 39 = none := by kernel_rfl
@[simp] theorem bld39 : bldOf Tryz.prog 39 = some ([.int .u64 0, .int .i64 0, .slice none 0 0], [(0, 1), (1, 1), (2, 1)]) := by kernel_rfl
@[simp] theorem off39_0 : offOf Tryz.prog 39 0 = some 0 := by kernel_rfl
@[simp] theorem fld39_0 : fldOf Tryz.prog 39 0 = some (0, none) := by kernel_rfl
@[simp] theorem off39_1 : offOf Tryz.prog 39 1 = some 1 := by kernel_rfl
@[simp] theorem fld39_1 : fldOf Tryz.prog 39 1 = some (1, none) := by kernel_rfl
@[simp] theorem off39_2 : offOf Tryz.prog 39 2 = some 2 := by kernel_rfl
@[simp] theorem fld39_2 : fldOf Tryz.prog 39 2 = some (2, none) := by kernel_rfl
@[simp] theorem ld40 : ldOf Tryz.prog 40 = some (some 3) := by kernel_rfl
@[simp] theorem z40 : zOf Tryz.prog 40 = some [.int .u64 0, .int .i64 0, .slice none 0 0] := by kernel_rfl
@[simp] theorem el40 : elOf Tryz.prog 40 = some (3, 40, [.v (.int .u64 0), .v (.int .i64 0), .arr []]) := by kernel_rfl
@[simp] theorem st40 : isSliceT Tryz.prog 40 = false := by kernel_rfl
@[simp] theorem sz40 : pv Tryz.prog (sizeOf 40) = some 3 := by kernel_rfl
@[simp] theorem u840 : isU8 Tryz.prog 40 = false := by kernel_rfl
@[simp] theorem mt40 : isMapT Tryz.prog 40 = false := by kernel_rfl
@[simp] theorem ik40 : ikOf Tryz.prog 40 = none := by kernel_rfl
@[simp] theorem bld40 : bldOf Tryz.prog 40 = some ([.int .u64 0, .int .i64 0, .slice none 0 0], [(0, 1), (1, 1), (2, 1)]) := by kernel_rfl
@[simp] theorem off40_0 : offOf Tryz.prog 40 0 = some 0 := by kernel_rfl
@[simp] theorem fld40_0 : fldOf Tryz.prog 40 0 = some (0, none) := by kernel_rfl
@[simp] theorem off40_1 : offOf Tryz.prog 40 1 = some 1 := by kernel_rfl
@[simp] theorem fld40_1 : fldOf Tryz.prog 40 1 = some (1, none) := by kernel_rfl
@[simp] theorem off40_2 : offOf Tryz.prog 40 2 = some 2 := by kernel_rfl
@[simp] theorem fld40_2 : fldOf Tryz.prog 40 2 = some (2, none) := by kernel_rfl
@[simp] theorem ld41 : ldOf Tryz.prog 41 = some none := by kernel_rfl
@[simp] theorem z41 : zOf Tryz.prog 41 = some [.slice none 0 0] := by kernel_rfl
@[simp] theorem el41 : elOf Tryz.prog 41 = some (1, 24, [.arr []]) := by kernel_rfl
@[simp] theorem st41 : isSliceT Tryz.prog 41 = true := by kernel_rfl
@[simp] theorem sz41 : pv Tryz.prog (sizeOf 41) = some 1 := by kernel_rfl
@[simp] theorem u841 : isU8 Tryz.prog 41 = false := by kernel_rfl
@[simp] theorem mt41 : isMapT Tryz.prog 41 = false := by kernel_rfl
@[simp] theorem ik41 : ikOf Tryz.prog 41 = none := by kernel_rfl
@[simp] theorem sR41 : strRowsT Tryz.prog 41 = false := by kernel_rfl
@[simp] theorem es41 : elemOfSlice Tryz.prog 41 = some 55 := by kernel_rfl
@[simp] theorem ld42 : ldOf Tryz.prog 42 = some (some 5) := by kernel_rfl
@[simp] theorem z42 : zOf Tryz.prog 42 = some [.int .u64 0, .int .u64 0, .int .i64 0, .slice none 0 0, .slice none 0 0] := by kernel_rfl
@[simp] theorem el42 : elOf Tryz.prog 42 = some (5, 72, [.v (.int .u64 0), .v (.int .u64 0), .v (.int .i64 0), .arr [], .arr []]) := by kernel_rfl
@[simp] theorem st42 : isSliceT Tryz.prog 42 = false := by kernel_rfl
@[simp] theorem sz42 : pv Tryz.prog (sizeOf 42) = some 5 := by kernel_rfl
@[simp] theorem u842 : isU8 Tryz.prog 42 = false := by kernel_rfl
@[simp] theorem mt42 : isMapT Tryz.prog 42 = false := by kernel_rfl
@[simp] theorem ik42 : ikOf Tryz.prog 42 = none := by kernel_rfl
@[simp] theorem bld42 : bldOf Tryz.prog 42 = some ([.int .u64 0, .int .u64 0, .int .i64 0, .slice none 0 0, .slice none 0 0], [(0, 1), (1, 3), (4, 1)]) := by kernel_rfl
@[simp] theorem off42_0 : offOf Tryz.prog 42 0 = some 0 := by kernel_rfl
@[simp] theorem fld42_0 : fldOf Tryz.prog 42 0 = some (0, none) := by kernel_rfl
@[simp] theorem off42_1 : offOf Tryz.prog 42 1 = some 1 := by kernel_rfl
@[simp] theorem fld42_1 : fldOf Tryz.prog 42 1 = some (1, some 3) := by kernel_rfl
@[simp] theorem off42_2 : offOf Tryz.prog 42 2 = some 4 := by kernel_rfl
@[simp] theorem fld42_2 : fldOf Tryz.prog 42 2 = some (4, none) := by kernel_rfl
@[simp] theorem ld43 : ldOf Tryz.prog 43 = some (some 5) := by kernel_rfl
@[simp] theorem z43 : zOf Tryz.prog 43 = some [.int .u64 0, .int .u64 0, .int .i64 0, .slice none 0 0, .slice none 0 0] := by kernel_rfl
@[simp] theorem el43 : elOf Tryz.prog 43 = some (5, 72, [.v (.int .u64 0), .v (.int .u64 0), .v (.int .i64 0), .arr [], .arr []]) := by kernel_rfl
@[simp] theorem st43 : isSliceT Tryz.prog 43 = false := by kernel_rfl
@[simp] theorem sz43 : pv Tryz.prog (sizeOf 43) = some 5 := by kernel_rfl
@[simp] theorem u843 : isU8 Tryz.prog 43 = false := by kernel_rfl
@[simp] theorem mt43 : isMapT Tryz.prog 43 = false := by kernel_rfl
@[simp] theorem ik43 : ikOf Tryz.prog 43 = none := by kernel_rfl
@[simp] theorem bld43 : bldOf Tryz.prog 43 = some ([.int .u64 0, .int .u64 0, .int .i64 0, .slice none 0 0, .slice none 0 0], [(0, 1), (1, 3), (4, 1)]) := by kernel_rfl
@[simp] theorem off43_0 : offOf Tryz.prog 43 0 = some 0 := by kernel_rfl
@[simp] theorem fld43_0 : fldOf Tryz.prog 43 0 = some (0, none) := by kernel_rfl
@[simp] theorem off43_1 : offOf Tryz.prog 43 1 = some 1 := by kernel_rfl
@[simp] theorem fld43_1 : fldOf Tryz.prog 43 1 = some (1, some 3) := by kernel_rfl
@[simp] theorem off43_2 : offOf Tryz.prog 43 2 = some 4 := by kernel_rfl
@[simp] theorem fld43_2 : fldOf Tryz.prog 43 2 = some (4, none) := by kernel_rfl
@[simp] theorem ld45 : ldOf Tryz.prog 45 = some (some 3) := by kernel_rfl
@[simp] theorem z45 : zOf Tryz.prog 45 = some [.int .u64 0, .int .i64 0, .slice none 0 0] := by kernel_rfl
@[simp] theorem el45 : elOf Tryz.prog 45 = some (3, 40, [.v (.int .u64 0), .v (.int .i64 0), .arr []]) := by kernel_rfl
@[simp] theorem st45 : isSliceT Tryz.prog 45 = false := by kernel_rfl
@[simp] theorem sz45 : pv Tryz.prog (sizeOf 45) = some 3 := by kernel_rfl
@[simp] theorem u845 : isU8 Tryz.prog 45 = false := by kernel_rfl
@[simp] theorem mt45 : isMapT Tryz.prog 45 = false := by kernel_rfl
@[simp] theorem ik45 : ikOf Tryz.prog 45 = none := by kernel_rfl
@[simp] theorem bld45 : bldOf Tryz.prog 45 = some ([.int .u64 0, .int .i64 0, .slice none 0 0], [(0, 1), (1, 1), (2, 1)]) := by kernel_rfl
@[simp] theorem off45_0 : offOf Tryz.prog 45 0 = some 0 := by kernel_rfl
@[simp] theorem fld45_0 : fldOf Tryz.prog 45 0 = some (0, none) := by kernel_rfl
@[simp] theorem off45_1 : offOf Tryz.prog 45 1 = some 1 := by kernel_rfl
@[simp] theorem fld45_1 : fldOf Tryz.prog 45 1 = some (1, none) := by kernel_rfl
@[simp] theorem off45_2 : offOf Tryz.prog 45 2 = some 2 := by kernel_rfl
@[simp] theorem fld45_2 : fldOf Tryz.prog 45 2 = some (2, none) := by kernel_rfl
@[simp] theorem ld46 : ldOf Tryz.prog 46 = some none := by kernel_rfl
@[simp] theorem z46 : zOf Tryz.prog 46 = some [.slice none 0 0] := by kernel_rfl
@[simp] theorem el46 : elOf Tryz.prog 46 = some (1, 24, [.arr []]) := by kernel_rfl
@[simp] theorem st46 : isSliceT Tryz.prog 46 = true := by kernel_rfl
@[simp] theorem sz46 : pv Tryz.prog (sizeOf 46) = some 1 := by kernel_rfl
@[simp] theorem u846 : isU8 Tryz.prog 46 = false := by kernel_rfl
@[simp] theorem mt46 : isMapT Tryz.prog 46 = false := by kernel_rfl
@[simp] theorem ik46 : ikOf Tryz.prog 46 = none := by kernel_rfl
@[simp] theorem sR46 : strRowsT Tryz.prog 46 = false := by kernel_rfl
@[simp] theorem es46 : elemOfSlice Tryz.prog 46 = some 70 := by kernel_rfl
@[simp] theorem ld47 : ldOf Tryz.prog 47 = some (some 5) := by kernel_rfl
@[simp] theorem z47 : zOf Tryz.prog 47 = some [.int .u64 0, .int .u64 0, .int .i64 0, .slice none 0 0, .slice none 0 0] := by kernel_rfl
@[simp] theorem el47 : elOf Tryz.prog 47 = some (5, 72, [.v (.int .u64 0), .v (.int .u64 0), .v (.int .i64 0), .arr [], .arr []]) := by kernel_rfl
@[simp] theorem st47 : isSliceT Tryz.prog 47 = false := by kernel_rfl
@[simp] theorem sz47 : pv Tryz.prog (sizeOf 47) = some 5 := by kernel_rfl
@[simp] theorem u847 : isU8 Tryz.prog 47 = false := by kernel_rfl
@[simp] theorem mt47 : isMapT Tryz.prog 47 = false := by kernel_rfl
@[simp] theorem ik47 : ikOf Tryz.prog 47 = none := by kernel_rfl
@[simp] theorem bld47 : bldOf Tryz.prog 47 = some ([.int .u64 0, .int .u64 0, .int .i64 0, .slice none 0 0, .slice none 0 0], [(0, 1), (1, 3), (4, 1)]) := by kernel_rfl
@[simp] theorem off47_0 : offOf Tryz.prog 47 0 = some 0 := by kernel_rfl
@[simp] theorem fld47_0 : fldOf Tryz.prog 47 0 = some (0, none) := by kernel_rfl
@[simp] theorem off47_1 : offOf Tryz.prog 47 1 = some 1 := by kernel_rfl
@[simp] theorem fld47_1 : fldOf Tryz.prog 47 1 = some (1, some 3) := by kernel_rfl
@[simp] theorem off47_2 : offOf Tryz.prog 47 2 = some 4 := by kernel_rfl
@[simp] theorem fld47_2 : fldOf Tryz.prog 47 2 = some (4, none) := by kernel_rfl
@[simp] theorem ld48 : ldOf Tryz.prog 48 = some (some 5) := by kernel_rfl
@[simp] theorem z48 : zOf Tryz.prog 48 = some [.int .u64 0, .int .u64 0, .int .i64 0, .slice none 0 0, .slice none 0 0] := by kernel_rfl
@[simp] theorem el48 : elOf Tryz.prog 48 = some (5, 72, [.v (.int .u64 0), .v (.int .u64 0), .v (.int .i64 0), .arr [], .arr []]) := by kernel_rfl
@[simp] theorem st48 : isSliceT Tryz.prog 48 = false := by kernel_rfl
@[simp] theorem sz48 : pv Tryz.prog (sizeOf 48) = some 5 := by kernel_rfl
@[simp] theorem u848 : isU8 Tryz.prog 48 = false := by kernel_rfl
@[simp] theorem mt48 : isMapT Tryz.prog 48 = false := by kernel_rfl
@[simp] theorem ik48 : ikOf Tryz.prog 48 = none := by kernel_rfl
@[simp] theorem bld48 : bldOf Tryz.prog 48 = some ([.int .u64 0, .int .u64 0, .int .i64 0, .slice none 0 0, .slice none 0 0], [(0, 1), (1, 3), (4, 1)]) := by kernel_rfl
@[simp] theorem off48_0 : offOf Tryz.prog 48 0 = some 0 := by kernel_rfl
@[simp] theorem fld48_0 : fldOf Tryz.prog 48 0 = some (0, none) := by kernel_rfl
@[simp] theorem off48_1 : offOf Tryz.prog 48 1 = some 1 := by kernel_rfl
@[simp] theorem fld48_1 : fldOf Tryz.prog 48 1 = some (1, some 3) := by kernel_rfl
@[simp] theorem off48_2 : offOf Tryz.prog 48 2 = some 4 := by kernel_rfl
@[simp] theorem fld48_2 : fldOf Tryz.prog 48 2 = some (4, none) := by kernel_rfl
@[simp] theorem ld50 : ldOf Tryz.prog 50 = some none := by kernel_rfl
@[simp] theorem z50 : zOf Tryz.prog 50 = some [.slice none 0 0] := by kernel_rfl
@[simp] theorem el50 : elOf Tryz.prog 50 = some (1, 24, [.arr []]) := by kernel_rfl
@[simp] theorem st50 : isSliceT Tryz.prog 50 = true := by kernel_rfl
@[simp] theorem sz50 : pv Tryz.prog (sizeOf 50) = some 1 := by kernel_rfl
@[simp] theorem u850 : isU8 Tryz.prog 50 = false := by kernel_rfl
@[simp] theorem mt50 : isMapT Tryz.prog 50 = false := by kernel_rfl
@[simp] theorem ik50 : ikOf Tryz.prog 50 = none := by kernel_rfl
@[simp] theorem sR50 : strRowsT Tryz.prog 50 = false := by kernel_rfl
@[simp] theorem es50 : elemOfSlice Tryz.prog 50 = some 63 := by kernel_rfl
@[simp] theorem ld55 : ldOf Tryz.prog 55 = some none := by kernel_rfl
@[simp] theorem z55 : zOf Tryz.prog 55 = some [.slice none 0 0] := by kernel_rfl
@[simp] theorem el55 : elOf Tryz.prog 55 = some (1, 24, [.arr []]) := by kernel_rfl
@[simp] theorem st55 : isSliceT Tryz.prog 55 = true := by kernel_rfl
@[simp] theorem sz55 : pv Tryz.prog (sizeOf 55) = some 1 := by kernel_rfl
@[simp] theorem u855 : isU8 Tryz.prog 55 = false := by kernel_rfl
@[simp] theorem mt55 : isMapT Tryz.prog 55 = false := by kernel_rfl
@[simp] theorem ik55 : ikOf Tryz.prog 55 = none := by kernel_rfl
@[simp] theorem sR55 : strRowsT Tryz.prog 55 = false := by kernel_rfl
@[simp] theorem es55 : elemOfSlice Tryz.prog 55 = some 73 := by kernel_rfl
@[simp] theorem ld56 : ldOf Tryz.prog 56 = some none := by kernel_rfl
@[simp] theorem z56 : zOf Tryz.prog 56 = some [.slice none 0 0] := by kernel_rfl
@[simp] theorem el56 : elOf Tryz.prog 56 = some (1, 24, [.arr []]) := by kernel_rfl
@[simp] theorem st56 : isSliceT Tryz.prog 56 = true := by kernel_rfl
@[simp] theorem sz56 : pv Tryz.prog (sizeOf 56) = some 1 := by kernel_rfl
@[simp] theorem u856 : isU8 Tryz.prog 56 = false := by kernel_rfl
@[simp] theorem mt56 : isMapT Tryz.prog 56 = false := by kernel_rfl
@[simp] theorem ik56 : ikOf Tryz.prog 56 = none := by kernel_rfl
@[simp] theorem sR56 : strRowsT Tryz.prog 56 = false := by kernel_rfl
@[simp] theorem es56 : elemOfSlice Tryz.prog 56 = some 57 := by kernel_rfl
@[simp] theorem ld57 : ldOf Tryz.prog 57 = some none := by kernel_rfl
@[simp] theorem z57 : zOf Tryz.prog 57 = some [.slice none 0 0] := by kernel_rfl
@[simp] theorem el57 : elOf Tryz.prog 57 = some (1, 24, [.arr []]) := by kernel_rfl
@[simp] theorem st57 : isSliceT Tryz.prog 57 = true := by kernel_rfl
@[simp] theorem sz57 : pv Tryz.prog (sizeOf 57) = some 1 := by kernel_rfl
@[simp] theorem u857 : isU8 Tryz.prog 57 = false := by kernel_rfl
@[simp] theorem mt57 : isMapT Tryz.prog 57 = false := by kernel_rfl
@[simp] theorem ik57 : ikOf Tryz.prog 57 = none := by kernel_rfl
@[simp] theorem sR57 : strRowsT Tryz.prog 57 = false := by kernel_rfl
@[simp] theorem es57 : elemOfSlice Tryz.prog 57 = some 37 := by kernel_rfl
@[simp] theorem ld62 : ldOf Tryz.prog 62 = some (some 3) := by kernel_rfl
@[simp] theorem z62 : zOf Tryz.prog 62 = some [.string ByteArray.empty, .int .i64 0, .int .i64 0] := by kernel_rfl
@[simp] theorem el62 : elOf Tryz.prog 62 = some (3, 32, [.v (.string ByteArray.empty), .v (.int .i64 0), .v (.int .i64 0)]) := by kernel_rfl
@[simp] theorem st62 : isSliceT Tryz.prog 62 = false := by kernel_rfl
@[simp] theorem sz62 : pv Tryz.prog (sizeOf 62) = some 3 := by kernel_rfl
@[simp] theorem u862 : isU8 Tryz.prog 62 = false := by kernel_rfl
@[simp] theorem mt62 : isMapT Tryz.prog 62 = false := by kernel_rfl
@[simp] theorem ik62 : ikOf Tryz.prog 62 = none := by kernel_rfl
@[simp] theorem bld62 : bldOf Tryz.prog 62 = some ([.string ByteArray.empty, .int .i64 0, .int .i64 0], [(0, 1), (1, 1), (2, 1)]) := by kernel_rfl
@[simp] theorem off62_0 : offOf Tryz.prog 62 0 = some 0 := by kernel_rfl
@[simp] theorem fld62_0 : fldOf Tryz.prog 62 0 = some (0, none) := by kernel_rfl
@[simp] theorem off62_1 : offOf Tryz.prog 62 1 = some 1 := by kernel_rfl
@[simp] theorem fld62_1 : fldOf Tryz.prog 62 1 = some (1, none) := by kernel_rfl
@[simp] theorem off62_2 : offOf Tryz.prog 62 2 = some 2 := by kernel_rfl
@[simp] theorem fld62_2 : fldOf Tryz.prog 62 2 = some (2, none) := by kernel_rfl
@[simp] theorem ld63 : ldOf Tryz.prog 63 = some (some 3) := by kernel_rfl
@[simp] theorem z63 : zOf Tryz.prog 63 = some [.string ByteArray.empty, .int .i64 0, .int .i64 0] := by kernel_rfl
@[simp] theorem el63 : elOf Tryz.prog 63 = some (3, 32, [.v (.string ByteArray.empty), .v (.int .i64 0), .v (.int .i64 0)]) := by kernel_rfl
@[simp] theorem st63 : isSliceT Tryz.prog 63 = false := by kernel_rfl
@[simp] theorem sz63 : pv Tryz.prog (sizeOf 63) = some 3 := by kernel_rfl
@[simp] theorem u863 : isU8 Tryz.prog 63 = false := by kernel_rfl
@[simp] theorem mt63 : isMapT Tryz.prog 63 = false := by kernel_rfl
@[simp] theorem ik63 : ikOf Tryz.prog 63 = none := by kernel_rfl
@[simp] theorem bld63 : bldOf Tryz.prog 63 = some ([.string ByteArray.empty, .int .i64 0, .int .i64 0], [(0, 1), (1, 1), (2, 1)]) := by kernel_rfl
@[simp] theorem off63_0 : offOf Tryz.prog 63 0 = some 0 := by kernel_rfl
@[simp] theorem fld63_0 : fldOf Tryz.prog 63 0 = some (0, none) := by kernel_rfl
@[simp] theorem off63_1 : offOf Tryz.prog 63 1 = some 1 := by kernel_rfl
@[simp] theorem fld63_1 : fldOf Tryz.prog 63 1 = some (1, none) := by kernel_rfl
@[simp] theorem off63_2 : offOf Tryz.prog 63 2 = some 2 := by kernel_rfl
@[simp] theorem fld63_2 : fldOf Tryz.prog 63 2 = some (2, none) := by kernel_rfl
@[simp] theorem ld65 : ldOf Tryz.prog 65 = some none := by kernel_rfl
@[simp] theorem z65 : zOf Tryz.prog 65 = some [.slice none 0 0] := by kernel_rfl
@[simp] theorem el65 : elOf Tryz.prog 65 = some (1, 24, [.arr []]) := by kernel_rfl
@[simp] theorem st65 : isSliceT Tryz.prog 65 = true := by kernel_rfl
@[simp] theorem sz65 : pv Tryz.prog (sizeOf 65) = some 1 := by kernel_rfl
@[simp] theorem u865 : isU8 Tryz.prog 65 = false := by kernel_rfl
@[simp] theorem mt65 : isMapT Tryz.prog 65 = false := by kernel_rfl
@[simp] theorem ik65 : ikOf Tryz.prog 65 = none := by kernel_rfl
@[simp] theorem sR65 : strRowsT Tryz.prog 65 = false := by kernel_rfl
@[simp] theorem es65 : elemOfSlice Tryz.prog 65 = some 69 := by kernel_rfl
@[simp] theorem ld68 : ldOf Tryz.prog 68 = some (some 2) := by kernel_rfl
@[simp] theorem z68 : zOf Tryz.prog 68 = some [.slice none 0 0, .bool false] := by kernel_rfl
@[simp] theorem el68 : elOf Tryz.prog 68 = some (2, 32, [.arr [], .v (.bool false)]) := by kernel_rfl
@[simp] theorem st68 : isSliceT Tryz.prog 68 = false := by kernel_rfl
@[simp] theorem sz68 : pv Tryz.prog (sizeOf 68) = some 2 := by kernel_rfl
@[simp] theorem u868 : isU8 Tryz.prog 68 = false := by kernel_rfl
@[simp] theorem mt68 : isMapT Tryz.prog 68 = false := by kernel_rfl
@[simp] theorem ik68 : ikOf Tryz.prog 68 = none := by kernel_rfl
@[simp] theorem bld68 : bldOf Tryz.prog 68 = some ([.slice none 0 0, .bool false], [(0, 1), (1, 1)]) := by kernel_rfl
@[simp] theorem off68_0 : offOf Tryz.prog 68 0 = some 0 := by kernel_rfl
@[simp] theorem fld68_0 : fldOf Tryz.prog 68 0 = some (0, none) := by kernel_rfl
@[simp] theorem off68_1 : offOf Tryz.prog 68 1 = some 1 := by kernel_rfl
@[simp] theorem fld68_1 : fldOf Tryz.prog 68 1 = some (1, none) := by kernel_rfl
@[simp] theorem ld69 : ldOf Tryz.prog 69 = some (some 2) := by kernel_rfl
@[simp] theorem z69 : zOf Tryz.prog 69 = some [.slice none 0 0, .bool false] := by kernel_rfl
@[simp] theorem el69 : elOf Tryz.prog 69 = some (2, 32, [.arr [], .v (.bool false)]) := by kernel_rfl
@[simp] theorem st69 : isSliceT Tryz.prog 69 = false := by kernel_rfl
@[simp] theorem sz69 : pv Tryz.prog (sizeOf 69) = some 2 := by kernel_rfl
@[simp] theorem u869 : isU8 Tryz.prog 69 = false := by kernel_rfl
@[simp] theorem mt69 : isMapT Tryz.prog 69 = false := by kernel_rfl
@[simp] theorem ik69 : ikOf Tryz.prog 69 = none := by kernel_rfl
@[simp] theorem bld69 : bldOf Tryz.prog 69 = some ([.slice none 0 0, .bool false], [(0, 1), (1, 1)]) := by kernel_rfl
@[simp] theorem off69_0 : offOf Tryz.prog 69 0 = some 0 := by kernel_rfl
@[simp] theorem fld69_0 : fldOf Tryz.prog 69 0 = some (0, none) := by kernel_rfl
@[simp] theorem off69_1 : offOf Tryz.prog 69 1 = some 1 := by kernel_rfl
@[simp] theorem fld69_1 : fldOf Tryz.prog 69 1 = some (1, none) := by kernel_rfl
@[simp] theorem ld70 : ldOf Tryz.prog 70 = some none := by kernel_rfl
@[simp] theorem z70 : zOf Tryz.prog 70 = some [.slice none 0 0] := by kernel_rfl
@[simp] theorem el70 : elOf Tryz.prog 70 = some (1, 24, [.arr []]) := by kernel_rfl
@[simp] theorem st70 : isSliceT Tryz.prog 70 = true := by kernel_rfl
@[simp] theorem sz70 : pv Tryz.prog (sizeOf 70) = some 1 := by kernel_rfl
@[simp] theorem u870 : isU8 Tryz.prog 70 = false := by kernel_rfl
@[simp] theorem mt70 : isMapT Tryz.prog 70 = false := by kernel_rfl
@[simp] theorem ik70 : ikOf Tryz.prog 70 = none := by kernel_rfl
@[simp] theorem sR70 : strRowsT Tryz.prog 70 = false := by kernel_rfl
@[simp] theorem es70 : elemOfSlice Tryz.prog 70 = some 72 := by kernel_rfl
@[simp] theorem ld71 : ldOf Tryz.prog 71 = some (some 4) := by kernel_rfl
@[simp] theorem z71 : zOf Tryz.prog 71 = some [.string ByteArray.empty, .int .i64 0, .int .i64 0, .int .i64 0] := by kernel_rfl
@[simp] theorem el71 : elOf Tryz.prog 71 = some (4, 40, [.v (.string ByteArray.empty), .v (.int .i64 0), .v (.int .i64 0), .v (.int .i64 0)]) := by kernel_rfl
@[simp] theorem st71 : isSliceT Tryz.prog 71 = false := by kernel_rfl
@[simp] theorem sz71 : pv Tryz.prog (sizeOf 71) = some 4 := by kernel_rfl
@[simp] theorem u871 : isU8 Tryz.prog 71 = false := by kernel_rfl
@[simp] theorem mt71 : isMapT Tryz.prog 71 = false := by kernel_rfl
@[simp] theorem ik71 : ikOf Tryz.prog 71 = none := by kernel_rfl
@[simp] theorem bld71 : bldOf Tryz.prog 71 = some ([.string ByteArray.empty, .int .i64 0, .int .i64 0, .int .i64 0], [(0, 1), (1, 1), (2, 1), (3, 1)]) := by kernel_rfl
@[simp] theorem off71_0 : offOf Tryz.prog 71 0 = some 0 := by kernel_rfl
@[simp] theorem fld71_0 : fldOf Tryz.prog 71 0 = some (0, none) := by kernel_rfl
@[simp] theorem off71_1 : offOf Tryz.prog 71 1 = some 1 := by kernel_rfl
@[simp] theorem fld71_1 : fldOf Tryz.prog 71 1 = some (1, none) := by kernel_rfl
@[simp] theorem off71_2 : offOf Tryz.prog 71 2 = some 2 := by kernel_rfl
@[simp] theorem fld71_2 : fldOf Tryz.prog 71 2 = some (2, none) := by kernel_rfl
@[simp] theorem off71_3 : offOf Tryz.prog 71 3 = some 3 := by kernel_rfl
@[simp] theorem fld71_3 : fldOf Tryz.prog 71 3 = some (3, none) := by kernel_rfl
@[simp] theorem ld72 : ldOf Tryz.prog 72 = some (some 4) := by kernel_rfl
@[simp] theorem z72 : zOf Tryz.prog 72 = some [.string ByteArray.empty, .int .i64 0, .int .i64 0, .int .i64 0] := by kernel_rfl
@[simp] theorem el72 : elOf Tryz.prog 72 = some (4, 40, [.v (.string ByteArray.empty), .v (.int .i64 0), .v (.int .i64 0), .v (.int .i64 0)]) := by kernel_rfl
@[simp] theorem st72 : isSliceT Tryz.prog 72 = false := by kernel_rfl
@[simp] theorem sz72 : pv Tryz.prog (sizeOf 72) = some 4 := by kernel_rfl
@[simp] theorem u872 : isU8 Tryz.prog 72 = false := by kernel_rfl
@[simp] theorem mt72 : isMapT Tryz.prog 72 = false := by kernel_rfl
@[simp] theorem ik72 : ikOf Tryz.prog 72 = none := by kernel_rfl
@[simp] theorem bld72 : bldOf Tryz.prog 72 = some ([.string ByteArray.empty, .int .i64 0, .int .i64 0, .int .i64 0], [(0, 1), (1, 1), (2, 1), (3, 1)]) := by kernel_rfl
@[simp] theorem off72_0 : offOf Tryz.prog 72 0 = some 0 := by kernel_rfl
@[simp] theorem fld72_0 : fldOf Tryz.prog 72 0 = some (0, none) := by kernel_rfl
@[simp] theorem off72_1 : offOf Tryz.prog 72 1 = some 1 := by kernel_rfl
@[simp] theorem fld72_1 : fldOf Tryz.prog 72 1 = some (1, none) := by kernel_rfl
@[simp] theorem off72_2 : offOf Tryz.prog 72 2 = some 2 := by kernel_rfl
@[simp] theorem fld72_2 : fldOf Tryz.prog 72 2 = some (2, none) := by kernel_rfl
@[simp] theorem off72_3 : offOf Tryz.prog 72 3 = some 3 := by kernel_rfl
@[simp] theorem fld72_3 : fldOf Tryz.prog 72 3 = some (3, none) := by kernel_rfl
@[simp] theorem ld73 : ldOf Tryz.prog 73 = some (some 4) := by kernel_rfl
@[simp] theorem z73 : zOf Tryz.prog 73 = some [.string ByteArray.empty, .int .i64 0, .int .i64 0, .int .i64 0] := by kernel_rfl
@[simp] theorem el73 : elOf Tryz.prog 73 = some (4, 40, [.v (.string ByteArray.empty), .v (.int .i64 0), .v (.int .i64 0), .v (.int .i64 0)]) := by kernel_rfl
@[simp] theorem st73 : isSliceT Tryz.prog 73 = false := by kernel_rfl
@[simp] theorem sz73 : pv Tryz.prog (sizeOf 73) = some 4 := by kernel_rfl
@[simp] theorem u873 : isU8 Tryz.prog 73 = false := by kernel_rfl
@[simp] theorem mt73 : isMapT Tryz.prog 73 = false := by kernel_rfl
@[simp] theorem ik73 : ikOf Tryz.prog 73 = none := by kernel_rfl
@[simp] theorem bld73 : bldOf Tryz.prog 73 = some ([.string ByteArray.empty, .int .i64 0, .int .i64 0, .int .i64 0], [(0, 1), (1, 1), (2, 1), (3, 1)]) := by kernel_rfl
@[simp] theorem off73_0 : offOf Tryz.prog 73 0 = some 0 := by kernel_rfl
@[simp] theorem fld73_0 : fldOf Tryz.prog 73 0 = some (0, none) := by kernel_rfl
@[simp] theorem off73_1 : offOf Tryz.prog 73 1 = some 1 := by kernel_rfl
@[simp] theorem fld73_1 : fldOf Tryz.prog 73 1 = some (1, none) := by kernel_rfl
@[simp] theorem off73_2 : offOf Tryz.prog 73 2 = some 2 := by kernel_rfl
@[simp] theorem fld73_2 : fldOf Tryz.prog 73 2 = some (2, none) := by kernel_rfl
@[simp] theorem off73_3 : offOf Tryz.prog 73 3 = some 3 := by kernel_rfl
@[simp] theorem fld73_3 : fldOf Tryz.prog 73 3 = some (3, none) := by kernel_rfl
@[simp] theorem ld100 : ldOf Tryz.prog 100 = some none := by kernel_rfl
@[simp] theorem z100 : zOf Tryz.prog 100 = some [.slice none 0 0] := by kernel_rfl
@[simp] theorem el100 : elOf Tryz.prog 100 = some (1, 24, [.arr []]) := by kernel_rfl
@[simp] theorem st100 : isSliceT Tryz.prog 100 = true := by kernel_rfl
@[simp] theorem sz100 : pv Tryz.prog (sizeOf 100) = some 1 := by kernel_rfl
@[simp] theorem u8100 : isU8 Tryz.prog 100 = true := by kernel_rfl
@[simp] theorem mt100 : isMapT Tryz.prog 100 = false := by kernel_rfl
@[simp] theorem sr100 : isStrT Tryz.prog 100 = false := by kernel_rfl
@[simp] theorem ik100 : ikOf Tryz.prog 100 = none := by kernel_rfl
@[simp] theorem sR100 : strRowsT Tryz.prog 100 = false := by kernel_rfl
@[simp] theorem es100 : elemOfSlice Tryz.prog 100 = some 5 := by kernel_rfl
@[simp] theorem ld116 : ldOf Tryz.prog 116 = some none := by kernel_rfl
@[simp] theorem z116 : zOf Tryz.prog 116 = some [.int .u64 0] := by kernel_rfl
@[simp] theorem el116 : elOf Tryz.prog 116 = some (1, 8, [.v (.int .u64 0)]) := by kernel_rfl
@[simp] theorem st116 : isSliceT Tryz.prog 116 = false := by kernel_rfl
@[simp] theorem sz116 : pv Tryz.prog (sizeOf 116) = some 1 := by kernel_rfl
@[simp] theorem u8116 : isU8 Tryz.prog 116 = false := by kernel_rfl
@[simp] theorem mt116 : isMapT Tryz.prog 116 = false := by kernel_rfl
@[simp] theorem ik116 : ikOf Tryz.prog 116 = some .u64 := by kernel_rfl
@[simp] theorem ld121 : ldOf Tryz.prog 121 = some none := by kernel_rfl
@[simp] theorem z121 : zOf Tryz.prog 121 = some [.slice none 0 0] := by kernel_rfl
@[simp] theorem el121 : elOf Tryz.prog 121 = some (1, 24, [.arr []]) := by kernel_rfl
@[simp] theorem st121 : isSliceT Tryz.prog 121 = true := by kernel_rfl
@[simp] theorem sz121 : pv Tryz.prog (sizeOf 121) = some 1 := by kernel_rfl
@[simp] theorem u8121 : isU8 Tryz.prog 121 = false := by kernel_rfl
@[simp] theorem mt121 : isMapT Tryz.prog 121 = false := by kernel_rfl
@[simp] theorem ik121 : ikOf Tryz.prog 121 = none := by kernel_rfl
@[simp] theorem sR121 : strRowsT Tryz.prog 121 = false := by kernel_rfl
@[simp] theorem es121 : elemOfSlice Tryz.prog 121 = some 3 := by kernel_rfl
@[simp] theorem ld140 : ldOf Tryz.prog 140 = some none := by kernel_rfl
@[simp] theorem z140 : zOf Tryz.prog 140 = some [.int .i64 0] := by kernel_rfl
@[simp] theorem el140 : elOf Tryz.prog 140 = some (1, 8, [.v (.int .i64 0)]) := by kernel_rfl
@[simp] theorem st140 : isSliceT Tryz.prog 140 = false := by kernel_rfl
@[simp] theorem sz140 : pv Tryz.prog (sizeOf 140) = some 1 := by kernel_rfl
@[simp] theorem u8140 : isU8 Tryz.prog 140 = false := by kernel_rfl
@[simp] theorem mt140 : isMapT Tryz.prog 140 = false := by kernel_rfl
@[simp] theorem ik140 : ikOf Tryz.prog 140 = some .i64 := by kernel_rfl
@[simp] theorem ld149 : ldOf Tryz.prog 149 = some none := by kernel_rfl
@[simp] theorem z149 : zOf Tryz.prog 149 = some [.int .u32 0] := by kernel_rfl
@[simp] theorem el149 : elOf Tryz.prog 149 = some (1, 4, [.v (.int .u32 0)]) := by kernel_rfl
@[simp] theorem st149 : isSliceT Tryz.prog 149 = false := by kernel_rfl
@[simp] theorem sz149 : pv Tryz.prog (sizeOf 149) = some 1 := by kernel_rfl
@[simp] theorem u8149 : isU8 Tryz.prog 149 = false := by kernel_rfl
@[simp] theorem mt149 : isMapT Tryz.prog 149 = false := by kernel_rfl
@[simp] theorem ik149 : ikOf Tryz.prog 149 = some .u32 := by kernel_rfl
@[simp] theorem ld165 : ldOf Tryz.prog 165 = some none := by kernel_rfl
@[simp] theorem z165 : zOf Tryz.prog 165 = some [.int .u64 0] := by kernel_rfl
@[simp] theorem el165 : elOf Tryz.prog 165 = some (1, 8, [.v (.int .u64 0)]) := by kernel_rfl
@[simp] theorem st165 : isSliceT Tryz.prog 165 = false := by kernel_rfl
@[simp] theorem sz165 : pv Tryz.prog (sizeOf 165) = some 1 := by kernel_rfl
@[simp] theorem u8165 : isU8 Tryz.prog 165 = false := by kernel_rfl
@[simp] theorem mt165 : isMapT Tryz.prog 165 = false := by kernel_rfl
@[simp] theorem ik165 : ikOf Tryz.prog 165 = some .u64 := by kernel_rfl
@[simp] theorem ld169 : ldOf Tryz.prog 169 = some none := by kernel_rfl
@[simp] theorem z169 : zOf Tryz.prog 169 = some [.pointer none] := by kernel_rfl
@[simp] theorem el169 : elOf Tryz.prog 169 = some (1, 8, [.v (.pointer none)]) := by kernel_rfl
@[simp] theorem st169 : isSliceT Tryz.prog 169 = false := by kernel_rfl
@[simp] theorem sz169 : pv Tryz.prog (sizeOf 169) = some 1 := by kernel_rfl
@[simp] theorem u8169 : isU8 Tryz.prog 169 = false := by kernel_rfl
@[simp] theorem mt169 : isMapT Tryz.prog 169 = false := by kernel_rfl
@[simp] theorem ik169 : ikOf Tryz.prog 169 = none := by kernel_rfl
@[simp] theorem up169 : pv Tryz.prog (underlying 169) = some (.pointer 3) := by kernel_rfl
@[simp] theorem ld174 : ldOf Tryz.prog 174 = some none := by kernel_rfl
@[simp] theorem z174 : zOf Tryz.prog 174 = some [.pointer none] := by kernel_rfl
@[simp] theorem el174 : elOf Tryz.prog 174 = some (1, 8, [.v (.pointer none)]) := by kernel_rfl
@[simp] theorem st174 : isSliceT Tryz.prog 174 = false := by kernel_rfl
@[simp] theorem sz174 : pv Tryz.prog (sizeOf 174) = some 1 := by kernel_rfl
@[simp] theorem u8174 : isU8 Tryz.prog 174 = false := by kernel_rfl
@[simp] theorem mt174 : isMapT Tryz.prog 174 = false := by kernel_rfl
@[simp] theorem ik174 : ikOf Tryz.prog 174 = none := by kernel_rfl
@[simp] theorem up174 : pv Tryz.prog (underlying 174) = some (.pointer 165) := by kernel_rfl
@[simp] theorem ld187 : ldOf Tryz.prog 187 = some none := by kernel_rfl
@[simp] theorem z187 : zOf Tryz.prog 187 = some [.pointer none] := by kernel_rfl
@[simp] theorem el187 : elOf Tryz.prog 187 = some (1, 8, [.v (.pointer none)]) := by kernel_rfl
@[simp] theorem st187 : isSliceT Tryz.prog 187 = false := by kernel_rfl
@[simp] theorem sz187 : pv Tryz.prog (sizeOf 187) = some 1 := by kernel_rfl
@[simp] theorem u8187 : isU8 Tryz.prog 187 = false := by kernel_rfl
@[simp] theorem mt187 : isMapT Tryz.prog 187 = false := by kernel_rfl
@[simp] theorem ik187 : ikOf Tryz.prog 187 = none := by kernel_rfl
@[simp] theorem up187 : pv Tryz.prog (underlying 187) = some (.pointer 5) := by kernel_rfl
@[simp] theorem ld190 : ldOf Tryz.prog 190 = some (some 11) := by kernel_rfl
@[simp] theorem z190 : zOf Tryz.prog 190 = some [.int .u64 0, .int .u64 0, .int .u32 0, .int .u8 0, .int .u8 0, .int .u8 0, .int .u8 0, .nilFunc, .pointer none, .int .i32 0, .int .i32 0] := by kernel_rfl
@[simp] theorem el190 : elOf Tryz.prog 190 = some (11, 48, [.v (.int .u64 0), .v (.int .u64 0), .v (.int .u32 0), .v (.int .u8 0), .v (.int .u8 0), .v (.int .u8 0), .v (.int .u8 0), .v (.nilFunc), .v (.pointer none), .v (.int .i32 0), .v (.int .i32 0)]) := by kernel_rfl
@[simp] theorem st190 : isSliceT Tryz.prog 190 = false := by kernel_rfl
@[simp] theorem sz190 : pv Tryz.prog (sizeOf 190) = some 11 := by kernel_rfl
@[simp] theorem u8190 : isU8 Tryz.prog 190 = false := by kernel_rfl
@[simp] theorem mt190 : isMapT Tryz.prog 190 = false := by kernel_rfl
@[simp] theorem ik190 : ikOf Tryz.prog 190 = none := by kernel_rfl
@[simp] theorem bld190 : bldOf Tryz.prog 190 = some ([.int .u64 0, .int .u64 0, .int .u32 0, .int .u8 0, .int .u8 0, .int .u8 0, .int .u8 0, .nilFunc, .pointer none, .int .i32 0, .int .i32 0], [(0, 1), (1, 1), (2, 1), (3, 1), (4, 1), (5, 1), (6, 1), (7, 1), (8, 1), (9, 1), (10, 1)]) := by kernel_rfl
@[simp] theorem off190_0 : offOf Tryz.prog 190 0 = some 0 := by kernel_rfl
@[simp] theorem fld190_0 : fldOf Tryz.prog 190 0 = some (0, none) := by kernel_rfl
@[simp] theorem off190_1 : offOf Tryz.prog 190 1 = some 1 := by kernel_rfl
@[simp] theorem fld190_1 : fldOf Tryz.prog 190 1 = some (1, none) := by kernel_rfl
@[simp] theorem off190_2 : offOf Tryz.prog 190 2 = some 2 := by kernel_rfl
@[simp] theorem fld190_2 : fldOf Tryz.prog 190 2 = some (2, none) := by kernel_rfl
@[simp] theorem off190_3 : offOf Tryz.prog 190 3 = some 3 := by kernel_rfl
@[simp] theorem fld190_3 : fldOf Tryz.prog 190 3 = some (3, none) := by kernel_rfl
@[simp] theorem off190_4 : offOf Tryz.prog 190 4 = some 4 := by kernel_rfl
@[simp] theorem fld190_4 : fldOf Tryz.prog 190 4 = some (4, none) := by kernel_rfl
@[simp] theorem off190_5 : offOf Tryz.prog 190 5 = some 5 := by kernel_rfl
@[simp] theorem fld190_5 : fldOf Tryz.prog 190 5 = some (5, none) := by kernel_rfl
@[simp] theorem off190_6 : offOf Tryz.prog 190 6 = some 6 := by kernel_rfl
@[simp] theorem fld190_6 : fldOf Tryz.prog 190 6 = some (6, none) := by kernel_rfl
@[simp] theorem off190_7 : offOf Tryz.prog 190 7 = some 7 := by kernel_rfl
@[simp] theorem fld190_7 : fldOf Tryz.prog 190 7 = some (7, none) := by kernel_rfl
@[simp] theorem off190_8 : offOf Tryz.prog 190 8 = some 8 := by kernel_rfl
@[simp] theorem fld190_8 : fldOf Tryz.prog 190 8 = some (8, none) := by kernel_rfl
@[simp] theorem off190_9 : offOf Tryz.prog 190 9 = some 9 := by kernel_rfl
@[simp] theorem fld190_9 : fldOf Tryz.prog 190 9 = some (9, none) := by kernel_rfl
@[simp] theorem off190_10 : offOf Tryz.prog 190 10 = some 10 := by kernel_rfl
@[simp] theorem fld190_10 : fldOf Tryz.prog 190 10 = some (10, none) := by kernel_rfl
@[simp] theorem lna22 {H : Hp} {ty : TypeId} {l : List (List CV)} : vlen Tryz.prog H #[22] ty (.one (.c (.arr l))) = qa (vI .i64 l.length) := len_arr es22
@[simp] theorem lnl22 {H : Hp} {ty : TypeId} {id o n tot : Nat} : vlen Tryz.prog H #[22] ty (.one (.sl id o n tot)) = if lenIs H id tot = true then qa (vI .i64 n) else none := len_sl es22
@[simp] theorem iaa22 {H : Hp} {k : IntKind} {l : List (List CV)} {i : Int} : vindexAddr Tryz.prog H 22 (.one (.c (.arr l))) (vI k i) = if 0 ≤ i then (match l[i.toNat]? with | some x => if x.length = 5 then qa (.one (.c (.cptr x))) else none | none => none) else none := ia_arr es22 sz48
@[simp] theorem ial22 {H : Hp} {k : IntKind} {id o n tot : Nat} {i : Int} : vindexAddr Tryz.prog H 22 (.one (.sl id o n tot)) (vI k i) = if 0 ≤ i then (if i.toNat < n then (if elAt H id tot (o + i.toNat) = some 5 then qa (.one (.ptr ⟨id, o + i.toNat, 0, tot⟩)) else none) else none) else none := ia_sl es22 sz48
@[simp] theorem lna23 {H : Hp} {ty : TypeId} {l : List (List CV)} : vlen Tryz.prog H #[23] ty (.one (.c (.arr l))) = qa (vI .i64 l.length) := len_arr es23
@[simp] theorem lnl23 {H : Hp} {ty : TypeId} {id o n tot : Nat} : vlen Tryz.prog H #[23] ty (.one (.sl id o n tot)) = if lenIs H id tot = true then qa (vI .i64 n) else none := len_sl es23
@[simp] theorem iaa23 {H : Hp} {k : IntKind} {l : List (List CV)} {i : Int} : vindexAddr Tryz.prog H 23 (.one (.c (.arr l))) (vI k i) = if 0 ≤ i then (match l[i.toNat]? with | some x => if x.length = 5 then qa (.one (.c (.cptr x))) else none | none => none) else none := ia_arr es23 sz43
@[simp] theorem ial23 {H : Hp} {k : IntKind} {id o n tot : Nat} {i : Int} : vindexAddr Tryz.prog H 23 (.one (.sl id o n tot)) (vI k i) = if 0 ≤ i then (if i.toNat < n then (if elAt H id tot (o + i.toNat) = some 5 then qa (.one (.ptr ⟨id, o + i.toNat, 0, tot⟩)) else none) else none) else none := ia_sl es23 sz43
@[simp] theorem lna27 {H : Hp} {ty : TypeId} {l : List (List CV)} : vlen Tryz.prog H #[27] ty (.one (.c (.arr l))) = qa (vI .i64 l.length) := len_arr es27
@[simp] theorem lnl27 {H : Hp} {ty : TypeId} {id o n tot : Nat} : vlen Tryz.prog H #[27] ty (.one (.sl id o n tot)) = if lenIs H id tot = true then qa (vI .i64 n) else none := len_sl es27
@[simp] theorem iaa27 {H : Hp} {k : IntKind} {l : List (List CV)} {i : Int} : vindexAddr Tryz.prog H 27 (.one (.c (.arr l))) (vI k i) = if 0 ≤ i then (match l[i.toNat]? with | some x => if x.length = 1 then qa (.one (.c (.cptr x))) else none | none => none) else none := ia_arr es27 sz35
@[simp] theorem ial27 {H : Hp} {k : IntKind} {id o n tot : Nat} {i : Int} : vindexAddr Tryz.prog H 27 (.one (.sl id o n tot)) (vI k i) = if 0 ≤ i then (if i.toNat < n then (if elAt H id tot (o + i.toNat) = some 1 then qa (.one (.ptr ⟨id, o + i.toNat, 0, tot⟩)) else none) else none) else none := ia_sl es27 sz35
@[simp] theorem lna35 {H : Hp} {ty : TypeId} {l : List (List CV)} : vlen Tryz.prog H #[35] ty (.one (.c (.arr l))) = qa (vI .i64 l.length) := len_arr es35
@[simp] theorem lnl35 {H : Hp} {ty : TypeId} {id o n tot : Nat} : vlen Tryz.prog H #[35] ty (.one (.sl id o n tot)) = if lenIs H id tot = true then qa (vI .i64 n) else none := len_sl es35
@[simp] theorem iaa35 {H : Hp} {k : IntKind} {l : List (List CV)} {i : Int} : vindexAddr Tryz.prog H 35 (.one (.c (.arr l))) (vI k i) = if 0 ≤ i then (match l[i.toNat]? with | some x => if x.length = 1 then qa (.one (.c (.cptr x))) else none | none => none) else none := ia_arr es35 sz9
@[simp] theorem ial35 {H : Hp} {k : IntKind} {id o n tot : Nat} {i : Int} : vindexAddr Tryz.prog H 35 (.one (.sl id o n tot)) (vI k i) = if 0 ≤ i then (if i.toNat < n then (if elAt H id tot (o + i.toNat) = some 1 then qa (.one (.ptr ⟨id, o + i.toNat, 0, tot⟩)) else none) else none) else none := ia_sl es35 sz9
@[simp] theorem lna38 {H : Hp} {ty : TypeId} {l : List (List CV)} : vlen Tryz.prog H #[38] ty (.one (.c (.arr l))) = qa (vI .i64 l.length) := len_arr es38
@[simp] theorem lnl38 {H : Hp} {ty : TypeId} {id o n tot : Nat} : vlen Tryz.prog H #[38] ty (.one (.sl id o n tot)) = if lenIs H id tot = true then qa (vI .i64 n) else none := len_sl es38
@[simp] theorem iaa38 {H : Hp} {k : IntKind} {l : List (List CV)} {i : Int} : vindexAddr Tryz.prog H 38 (.one (.c (.arr l))) (vI k i) = if 0 ≤ i then (match l[i.toNat]? with | some x => if x.length = 1 then qa (.one (.c (.cptr x))) else none | none => none) else none := ia_arr es38 sz4
@[simp] theorem ial38 {H : Hp} {k : IntKind} {id o n tot : Nat} {i : Int} : vindexAddr Tryz.prog H 38 (.one (.sl id o n tot)) (vI k i) = if 0 ≤ i then (if i.toNat < n then (if elAt H id tot (o + i.toNat) = some 1 then qa (.one (.ptr ⟨id, o + i.toNat, 0, tot⟩)) else none) else none) else none := ia_sl es38 sz4
@[simp] theorem lna41 {H : Hp} {ty : TypeId} {l : List (List CV)} : vlen Tryz.prog H #[41] ty (.one (.c (.arr l))) = qa (vI .i64 l.length) := len_arr es41
@[simp] theorem lnl41 {H : Hp} {ty : TypeId} {id o n tot : Nat} : vlen Tryz.prog H #[41] ty (.one (.sl id o n tot)) = if lenIs H id tot = true then qa (vI .i64 n) else none := len_sl es41
@[simp] theorem iaa41 {H : Hp} {k : IntKind} {l : List (List CV)} {i : Int} : vindexAddr Tryz.prog H 41 (.one (.c (.arr l))) (vI k i) = if 0 ≤ i then (match l[i.toNat]? with | some x => if x.length = 1 then qa (.one (.c (.cptr x))) else none | none => none) else none := ia_arr es41 sz55
@[simp] theorem ial41 {H : Hp} {k : IntKind} {id o n tot : Nat} {i : Int} : vindexAddr Tryz.prog H 41 (.one (.sl id o n tot)) (vI k i) = if 0 ≤ i then (if i.toNat < n then (if elAt H id tot (o + i.toNat) = some 1 then qa (.one (.ptr ⟨id, o + i.toNat, 0, tot⟩)) else none) else none) else none := ia_sl es41 sz55
@[simp] theorem lna46 {H : Hp} {ty : TypeId} {l : List (List CV)} : vlen Tryz.prog H #[46] ty (.one (.c (.arr l))) = qa (vI .i64 l.length) := len_arr es46
@[simp] theorem lnl46 {H : Hp} {ty : TypeId} {id o n tot : Nat} : vlen Tryz.prog H #[46] ty (.one (.sl id o n tot)) = if lenIs H id tot = true then qa (vI .i64 n) else none := len_sl es46
@[simp] theorem iaa46 {H : Hp} {k : IntKind} {l : List (List CV)} {i : Int} : vindexAddr Tryz.prog H 46 (.one (.c (.arr l))) (vI k i) = if 0 ≤ i then (match l[i.toNat]? with | some x => if x.length = 1 then qa (.one (.c (.cptr x))) else none | none => none) else none := ia_arr es46 sz70
@[simp] theorem ial46 {H : Hp} {k : IntKind} {id o n tot : Nat} {i : Int} : vindexAddr Tryz.prog H 46 (.one (.sl id o n tot)) (vI k i) = if 0 ≤ i then (if i.toNat < n then (if elAt H id tot (o + i.toNat) = some 1 then qa (.one (.ptr ⟨id, o + i.toNat, 0, tot⟩)) else none) else none) else none := ia_sl es46 sz70
@[simp] theorem lna50 {H : Hp} {ty : TypeId} {l : List (List CV)} : vlen Tryz.prog H #[50] ty (.one (.c (.arr l))) = qa (vI .i64 l.length) := len_arr es50
@[simp] theorem lnl50 {H : Hp} {ty : TypeId} {id o n tot : Nat} : vlen Tryz.prog H #[50] ty (.one (.sl id o n tot)) = if lenIs H id tot = true then qa (vI .i64 n) else none := len_sl es50
@[simp] theorem iaa50 {H : Hp} {k : IntKind} {l : List (List CV)} {i : Int} : vindexAddr Tryz.prog H 50 (.one (.c (.arr l))) (vI k i) = if 0 ≤ i then (match l[i.toNat]? with | some x => if x.length = 3 then qa (.one (.c (.cptr x))) else none | none => none) else none := ia_arr es50 sz63
@[simp] theorem ial50 {H : Hp} {k : IntKind} {id o n tot : Nat} {i : Int} : vindexAddr Tryz.prog H 50 (.one (.sl id o n tot)) (vI k i) = if 0 ≤ i then (if i.toNat < n then (if elAt H id tot (o + i.toNat) = some 3 then qa (.one (.ptr ⟨id, o + i.toNat, 0, tot⟩)) else none) else none) else none := ia_sl es50 sz63
@[simp] theorem lna55 {H : Hp} {ty : TypeId} {l : List (List CV)} : vlen Tryz.prog H #[55] ty (.one (.c (.arr l))) = qa (vI .i64 l.length) := len_arr es55
@[simp] theorem lnl55 {H : Hp} {ty : TypeId} {id o n tot : Nat} : vlen Tryz.prog H #[55] ty (.one (.sl id o n tot)) = if lenIs H id tot = true then qa (vI .i64 n) else none := len_sl es55
@[simp] theorem iaa55 {H : Hp} {k : IntKind} {l : List (List CV)} {i : Int} : vindexAddr Tryz.prog H 55 (.one (.c (.arr l))) (vI k i) = if 0 ≤ i then (match l[i.toNat]? with | some x => if x.length = 4 then qa (.one (.c (.cptr x))) else none | none => none) else none := ia_arr es55 sz73
@[simp] theorem ial55 {H : Hp} {k : IntKind} {id o n tot : Nat} {i : Int} : vindexAddr Tryz.prog H 55 (.one (.sl id o n tot)) (vI k i) = if 0 ≤ i then (if i.toNat < n then (if elAt H id tot (o + i.toNat) = some 4 then qa (.one (.ptr ⟨id, o + i.toNat, 0, tot⟩)) else none) else none) else none := ia_sl es55 sz73
@[simp] theorem lna56 {H : Hp} {ty : TypeId} {l : List (List CV)} : vlen Tryz.prog H #[56] ty (.one (.c (.arr l))) = qa (vI .i64 l.length) := len_arr es56
@[simp] theorem lnl56 {H : Hp} {ty : TypeId} {id o n tot : Nat} : vlen Tryz.prog H #[56] ty (.one (.sl id o n tot)) = if lenIs H id tot = true then qa (vI .i64 n) else none := len_sl es56
@[simp] theorem iaa56 {H : Hp} {k : IntKind} {l : List (List CV)} {i : Int} : vindexAddr Tryz.prog H 56 (.one (.c (.arr l))) (vI k i) = if 0 ≤ i then (match l[i.toNat]? with | some x => if x.length = 1 then qa (.one (.c (.cptr x))) else none | none => none) else none := ia_arr es56 sz57
@[simp] theorem ial56 {H : Hp} {k : IntKind} {id o n tot : Nat} {i : Int} : vindexAddr Tryz.prog H 56 (.one (.sl id o n tot)) (vI k i) = if 0 ≤ i then (if i.toNat < n then (if elAt H id tot (o + i.toNat) = some 1 then qa (.one (.ptr ⟨id, o + i.toNat, 0, tot⟩)) else none) else none) else none := ia_sl es56 sz57
@[simp] theorem lna57 {H : Hp} {ty : TypeId} {l : List (List CV)} : vlen Tryz.prog H #[57] ty (.one (.c (.arr l))) = qa (vI .i64 l.length) := len_arr es57
@[simp] theorem lnl57 {H : Hp} {ty : TypeId} {id o n tot : Nat} : vlen Tryz.prog H #[57] ty (.one (.sl id o n tot)) = if lenIs H id tot = true then qa (vI .i64 n) else none := len_sl es57
@[simp] theorem iaa57 {H : Hp} {k : IntKind} {l : List (List CV)} {i : Int} : vindexAddr Tryz.prog H 57 (.one (.c (.arr l))) (vI k i) = if 0 ≤ i then (match l[i.toNat]? with | some x => if x.length = 1 then qa (.one (.c (.cptr x))) else none | none => none) else none := ia_arr es57 sz37
@[simp] theorem ial57 {H : Hp} {k : IntKind} {id o n tot : Nat} {i : Int} : vindexAddr Tryz.prog H 57 (.one (.sl id o n tot)) (vI k i) = if 0 ≤ i then (if i.toNat < n then (if elAt H id tot (o + i.toNat) = some 1 then qa (.one (.ptr ⟨id, o + i.toNat, 0, tot⟩)) else none) else none) else none := ia_sl es57 sz37
@[simp] theorem lna65 {H : Hp} {ty : TypeId} {l : List (List CV)} : vlen Tryz.prog H #[65] ty (.one (.c (.arr l))) = qa (vI .i64 l.length) := len_arr es65
@[simp] theorem lnl65 {H : Hp} {ty : TypeId} {id o n tot : Nat} : vlen Tryz.prog H #[65] ty (.one (.sl id o n tot)) = if lenIs H id tot = true then qa (vI .i64 n) else none := len_sl es65
@[simp] theorem iaa65 {H : Hp} {k : IntKind} {l : List (List CV)} {i : Int} : vindexAddr Tryz.prog H 65 (.one (.c (.arr l))) (vI k i) = if 0 ≤ i then (match l[i.toNat]? with | some x => if x.length = 2 then qa (.one (.c (.cptr x))) else none | none => none) else none := ia_arr es65 sz69
@[simp] theorem ial65 {H : Hp} {k : IntKind} {id o n tot : Nat} {i : Int} : vindexAddr Tryz.prog H 65 (.one (.sl id o n tot)) (vI k i) = if 0 ≤ i then (if i.toNat < n then (if elAt H id tot (o + i.toNat) = some 2 then qa (.one (.ptr ⟨id, o + i.toNat, 0, tot⟩)) else none) else none) else none := ia_sl es65 sz69
@[simp] theorem lna70 {H : Hp} {ty : TypeId} {l : List (List CV)} : vlen Tryz.prog H #[70] ty (.one (.c (.arr l))) = qa (vI .i64 l.length) := len_arr es70
@[simp] theorem lnl70 {H : Hp} {ty : TypeId} {id o n tot : Nat} : vlen Tryz.prog H #[70] ty (.one (.sl id o n tot)) = if lenIs H id tot = true then qa (vI .i64 n) else none := len_sl es70
@[simp] theorem iaa70 {H : Hp} {k : IntKind} {l : List (List CV)} {i : Int} : vindexAddr Tryz.prog H 70 (.one (.c (.arr l))) (vI k i) = if 0 ≤ i then (match l[i.toNat]? with | some x => if x.length = 4 then qa (.one (.c (.cptr x))) else none | none => none) else none := ia_arr es70 sz72
@[simp] theorem ial70 {H : Hp} {k : IntKind} {id o n tot : Nat} {i : Int} : vindexAddr Tryz.prog H 70 (.one (.sl id o n tot)) (vI k i) = if 0 ≤ i then (if i.toNat < n then (if elAt H id tot (o + i.toNat) = some 4 then qa (.one (.ptr ⟨id, o + i.toNat, 0, tot⟩)) else none) else none) else none := ia_sl es70 sz72
@[simp] theorem lna100 {H : Hp} {ty : TypeId} {l : List (List CV)} : vlen Tryz.prog H #[100] ty (.one (.c (.arr l))) = qa (vI .i64 l.length) := len_arr es100
@[simp] theorem lnl100 {H : Hp} {ty : TypeId} {id o n tot : Nat} : vlen Tryz.prog H #[100] ty (.one (.sl id o n tot)) = if lenIs H id tot = true then qa (vI .i64 n) else none := len_sl es100
@[simp] theorem iaa100 {H : Hp} {k : IntKind} {l : List (List CV)} {i : Int} : vindexAddr Tryz.prog H 100 (.one (.c (.arr l))) (vI k i) = if 0 ≤ i then (match l[i.toNat]? with | some x => if x.length = 1 then qa (.one (.c (.cptr x))) else none | none => none) else none := ia_arr es100 sz5
@[simp] theorem ial100 {H : Hp} {k : IntKind} {id o n tot : Nat} {i : Int} : vindexAddr Tryz.prog H 100 (.one (.sl id o n tot)) (vI k i) = if 0 ≤ i then (if i.toNat < n then (if elAt H id tot (o + i.toNat) = some 1 then qa (.one (.ptr ⟨id, o + i.toNat, 0, tot⟩)) else none) else none) else none := ia_sl es100 sz5
@[simp] theorem lna121 {H : Hp} {ty : TypeId} {l : List (List CV)} : vlen Tryz.prog H #[121] ty (.one (.c (.arr l))) = qa (vI .i64 l.length) := len_arr es121
@[simp] theorem lnl121 {H : Hp} {ty : TypeId} {id o n tot : Nat} : vlen Tryz.prog H #[121] ty (.one (.sl id o n tot)) = if lenIs H id tot = true then qa (vI .i64 n) else none := len_sl es121
@[simp] theorem iaa121 {H : Hp} {k : IntKind} {l : List (List CV)} {i : Int} : vindexAddr Tryz.prog H 121 (.one (.c (.arr l))) (vI k i) = if 0 ≤ i then (match l[i.toNat]? with | some x => if x.length = 1 then qa (.one (.c (.cptr x))) else none | none => none) else none := ia_arr es121 sz3
@[simp] theorem ial121 {H : Hp} {k : IntKind} {id o n tot : Nat} {i : Int} : vindexAddr Tryz.prog H 121 (.one (.sl id o n tot)) (vI k i) = if 0 ≤ i then (if i.toNat < n then (if elAt H id tot (o + i.toNat) = some 1 then qa (.one (.ptr ⟨id, o + i.toNat, 0, tot⟩)) else none) else none) else none := ia_sl es121 sz3
theorem mixed : Tryz.prog.follows .mixedOrders = true := by kernel_rfl
theorem ok3 : FnOk Tryz.prog 3 := ⟨Tryz.f3, Tryz.func3, by kernel_rfl, by kernel_rfl⟩ -- rillmeter/rillmeterlaw17.JointDecodes
theorem ok4 : FnOk Tryz.prog 4 := ⟨Tryz.f4, Tryz.func4, by kernel_rfl, by kernel_rfl⟩ -- rillmeter/rillmeterlaw17.JointCounts
theorem ok5 : FnOk Tryz.prog 5 := ⟨Tryz.f5, Tryz.func5, by kernel_rfl, by kernel_rfl⟩ -- rillmeter/rillmeterlaw17.JointReports
theorem ok6 : FnOk Tryz.prog 6 := ⟨Tryz.f6, Tryz.func6, by kernel_rfl, by kernel_rfl⟩ -- rillmeter/rillmeterlaw17.ref
theorem ok7 : FnOk Tryz.prog 7 := ⟨Tryz.f7, Tryz.func7, by kernel_rfl, by kernel_rfl⟩ -- rillmeter/rillmeterlaw17.awake
theorem ok8 : FnOk Tryz.prog 8 := ⟨Tryz.f8, Tryz.func8, by kernel_rfl, by kernel_rfl⟩ -- rillmeter/joint.Decode
theorem ok9 : FnOk Tryz.prog 9 := ⟨Tryz.f9, Tryz.func9, by kernel_rfl, by kernel_rfl⟩ -- rillmeter/rillmeterlaw17.right
theorem ok10 : FnOk Tryz.prog 10 := ⟨Tryz.f10, Tryz.func10, by kernel_rfl, by kernel_rfl⟩ -- rillmeter/rillmeterref17.Decode
theorem ok11 : FnOk Tryz.prog 11 := ⟨Tryz.f11, Tryz.func11, by kernel_rfl, by kernel_rfl⟩ -- rillmeter/rillmeterref16.Same
theorem ok12 : FnOk Tryz.prog 12 := ⟨Tryz.f12, Tryz.func12, by kernel_rfl, by kernel_rfl⟩ -- rillmeter/rillmeterref16.Equal
theorem ok13 : FnOk Tryz.prog 13 := ⟨Tryz.f13, Tryz.func13, by kernel_rfl, by kernel_rfl⟩ -- rillmeter/rillmeterref10.Short
theorem ok14 : FnOk Tryz.prog 14 := ⟨Tryz.f14, Tryz.func14, by kernel_rfl, by kernel_rfl⟩ -- rillmeter/joint.Counts
theorem ok15 : FnOk Tryz.prog 15 := ⟨Tryz.f15, Tryz.func15, by kernel_rfl, by kernel_rfl⟩ -- rillmeter/rillmeterref16.Right
theorem ok16 : FnOk Tryz.prog 16 := ⟨Tryz.f16, Tryz.func16, by kernel_rfl, by kernel_rfl⟩ -- rillmeter/rillmeterref17.Right
theorem ok17 : FnOk Tryz.prog 17 := ⟨Tryz.f17, Tryz.func17, by kernel_rfl, by kernel_rfl⟩ -- rillmeter/rillmeterref17.Rows
theorem ok18 : FnOk Tryz.prog 18 := ⟨Tryz.f18, Tryz.func18, by kernel_rfl, by kernel_rfl⟩ -- rillmeter/rillmeterref17.Error
theorem ok19 : FnOk Tryz.prog 19 := ⟨Tryz.f19, Tryz.func19, by kernel_rfl, by kernel_rfl⟩ -- rillmeter/rillmeterref17.Holds
theorem ok20 : FnOk Tryz.prog 20 := ⟨Tryz.f20, Tryz.func20, by kernel_rfl, by kernel_rfl⟩ -- rillmeter/joint.Reports
theorem ok21 : FnOk Tryz.prog 21 := ⟨Tryz.f21, Tryz.func21, by kernel_rfl, by kernel_rfl⟩ -- rillmeter/rillmeterref16.Empty
theorem ok22 : FnOk Tryz.prog 22 := ⟨Tryz.f22, Tryz.func22, by kernel_rfl, by kernel_rfl⟩ -- rillmeter/rillmeterref16.Small
theorem ok23 : FnOk Tryz.prog 23 := ⟨Tryz.f23, Tryz.func23, by kernel_rfl, by kernel_rfl⟩ -- rillmeter/radar.New
theorem ok24 : FnOk Tryz.prog 24 := ⟨Tryz.f24, Tryz.func24, by kernel_rfl, by kernel_rfl⟩ -- rillmeter/radar.Add
theorem ok25 : FnOk Tryz.prog 25 := ⟨Tryz.f25, Tryz.func25, by kernel_rfl, by kernel_rfl⟩ -- slices.ContainsFunc[[]rillmeter/radar.Radar,rillmeter/radar.Radar]
theorem ok26 : FnOk Tryz.prog 26 := ⟨Tryz.f26, Tryz.func26, by kernel_rfl, by kernel_rfl⟩ -- rillmeter/joint.wrong
theorem ok27 : FnOk Tryz.prog 27 := ⟨Tryz.f27, Tryz.func27, by kernel_rfl, by kernel_rfl⟩ -- slices.Clone[[]rillmeter/radar.Radar,rillmeter/radar.Radar]
theorem ok28 : FnOk Tryz.prog 28 := ⟨Tryz.f28, Tryz.func28, by kernel_rfl, by kernel_rfl⟩ -- rillmeter/joint.round
theorem ok29 : FnOk Tryz.prog 29 := ⟨Tryz.f29, Tryz.func29, by kernel_rfl, by kernel_rfl⟩ -- slices.Sort[[]string,string]
theorem ok30 : FnOk Tryz.prog 30 := ⟨Tryz.f30, Tryz.func30, by kernel_rfl, by kernel_rfl⟩ -- rillmeter/rillmeterref16.Pure
theorem ok31 : FnOk Tryz.prog 31 := ⟨Tryz.f31, Tryz.func31, by kernel_rfl, by kernel_rfl⟩ -- rillmeter/rillmeterref16.In
theorem ok32 : FnOk Tryz.prog 32 := ⟨Tryz.f32, Tryz.func32, by kernel_rfl, by kernel_rfl⟩ -- rillmeter/rillmeterref10.Has
theorem ok33 : FnOk Tryz.prog 33 := ⟨Tryz.f33, Tryz.func33, by kernel_rfl, by kernel_rfl⟩ -- rillmeter/rillmeterref16.Put
theorem ok34 : FnOk Tryz.prog 34 := ⟨Tryz.f34, Tryz.func34, by kernel_rfl, by kernel_rfl⟩ -- rillmeter/rillmeterref16.Remove
theorem ok35 : FnOk Tryz.prog 35 := ⟨Tryz.f35, Tryz.func35, by kernel_rfl, by kernel_rfl⟩ -- rillmeter/rillmeterref10.Equal
theorem ok36 : FnOk Tryz.prog 36 := ⟨Tryz.f36, Tryz.func36, by kernel_rfl, by kernel_rfl⟩ -- rillmeter/radar.Place
theorem ok37 : FnOk Tryz.prog 37 := ⟨Tryz.f37, Tryz.func37, by kernel_rfl, by kernel_rfl⟩ -- rillmeter/solve.Solve
theorem ok38 : FnOk Tryz.prog 38 := ⟨Tryz.f38, Tryz.func38, by kernel_rfl, by kernel_rfl⟩ -- rillmeter/rillmeterref10.Right
theorem ok39 : FnOk Tryz.prog 39 := ⟨Tryz.f39, Tryz.func39, by kernel_rfl, by kernel_rfl⟩ -- rillmeter/rillmeterref02.Row
theorem ok40 : FnOk Tryz.prog 40 := ⟨Tryz.f40, Tryz.func40, by kernel_rfl, by kernel_rfl⟩ -- rillmeter/rillmeterref16.cell
theorem ok41 : FnOk Tryz.prog 41 := ⟨Tryz.f41, Tryz.func41, by kernel_rfl, by kernel_rfl⟩ -- rillmeter/rillmeterref16.Place
theorem ok42 : FnOk Tryz.prog 42 := ⟨Tryz.f42, Tryz.func42, by kernel_rfl, by kernel_rfl⟩ -- rillmeter/rillmeterref03.Rank
theorem ok43 : FnOk Tryz.prog 43 := ⟨Tryz.f43, Tryz.func43, by kernel_rfl, by kernel_rfl⟩ -- rillmeter/rillmeterref03.Wide
theorem ok44 : FnOk Tryz.prog 44 := ⟨Tryz.f44, Tryz.func44, by kernel_rfl, by kernel_rfl⟩ -- rillmeter/rillmeterref03.Same
theorem ok45 : FnOk Tryz.prog 45 := ⟨Tryz.f45, Tryz.func45, by kernel_rfl, by kernel_rfl⟩ -- rillmeter/rillmeterref03.Times
theorem ok46 : FnOk Tryz.prog 46 := ⟨Tryz.f46, Tryz.func46, by kernel_rfl, by kernel_rfl⟩ -- rillmeter/radar.Empty
theorem ok47 : FnOk Tryz.prog 47 := ⟨Tryz.f47, Tryz.func47, by kernel_rfl, by kernel_rfl⟩ -- rillmeter/bloom.New
theorem ok48 : FnOk Tryz.prog 48 := ⟨Tryz.f48, Tryz.func48, by kernel_rfl, by kernel_rfl⟩ -- rillmeter/hash.Row
theorem ok49 : FnOk Tryz.prog 49 := ⟨Tryz.f49, Tryz.func49, by kernel_rfl, by kernel_rfl⟩ -- slices.Repeat[[]rillmeter/radar.Cell,rillmeter/radar.Cell]
theorem ok50 : FnOk Tryz.prog 50 := ⟨Tryz.f50, Tryz.func50, by kernel_rfl, by kernel_rfl⟩ -- rillmeter/radar.Right
theorem ok51 : FnOk Tryz.prog 51 := ⟨Tryz.f51, Tryz.func51, by kernel_rfl, by kernel_rfl⟩ -- rillmeter/radar.fits
theorem ok52 : FnOk Tryz.prog 52 := ⟨Tryz.f52, Tryz.func52, by kernel_rfl, by kernel_rfl⟩ -- rillmeter/bloom.Has
theorem ok53 : FnOk Tryz.prog 53 := ⟨Tryz.f53, Tryz.func53, by kernel_rfl, by kernel_rfl⟩ -- rillmeter/radar.clone
theorem ok54 : FnOk Tryz.prog 54 := ⟨Tryz.f54, Tryz.func54, by kernel_rfl, by kernel_rfl⟩ -- rillmeter/bloom.Add
theorem ok55 : FnOk Tryz.prog 55 := ⟨Tryz.f55, Tryz.func55, by kernel_rfl, by kernel_rfl⟩ -- (rillmeter/radar.Radar).place
theorem ok56 : FnOk Tryz.prog 56 := ⟨Tryz.f56, Tryz.func56, by kernel_rfl, by kernel_rfl⟩ -- rillmeter/radar.xor
theorem ok57 : FnOk Tryz.prog 57 := ⟨Tryz.f57, Tryz.func57, by kernel_rfl, by kernel_rfl⟩ -- rillmeter/radar.wrong
theorem ok58 : FnOk Tryz.prog 58 := ⟨Tryz.f58, Tryz.func58, by kernel_rfl, by kernel_rfl⟩ -- slices.IndexFunc[[]rillmeter/radar.Radar,rillmeter/radar.Radar]
theorem ok59 : FnOk Tryz.prog 59 := ⟨Tryz.f59, Tryz.func59, by kernel_rfl, by kernel_rfl⟩ -- rillmeter/radar.Pure
theorem ok60 : FnOk Tryz.prog 60 := ⟨Tryz.f60, Tryz.func60, by kernel_rfl, by kernel_rfl⟩ -- slices.Contains[[]string,string]
theorem ok61 : FnOk Tryz.prog 61 := ⟨Tryz.f61, Tryz.func61, by kernel_rfl, by kernel_rfl⟩ -- rillmeter/radar.Remove
theorem ok62 : FnOk Tryz.prog 62 := ⟨Tryz.f62, Tryz.func62, by kernel_rfl, by kernel_rfl⟩ -- slices.pdqsortOrdered[string]
theorem ok63 : FnOk Tryz.prog 63 := ⟨Tryz.f63, Tryz.func63, by kernel_rfl, by kernel_rfl⟩ -- math/bits.Len
theorem ok64 : FnOk Tryz.prog 64 := ⟨Tryz.f64, Tryz.func64, by kernel_rfl, by kernel_rfl⟩ -- rillmeter/rillmeterref10.at
theorem ok65 : FnOk Tryz.prog 65 := ⟨Tryz.f65, Tryz.func65, by kernel_rfl, by kernel_rfl⟩ -- rillmeter/rillmeterref16.turn
theorem ok66 : FnOk Tryz.prog 66 := ⟨Tryz.f66, Tryz.func66, by kernel_rfl, by kernel_rfl⟩ -- rillmeter/solve.even
theorem ok67 : FnOk Tryz.prog 67 := ⟨Tryz.f67, Tryz.func67, by kernel_rfl, by kernel_rfl⟩ -- slices.Clone[[]uint64,uint64]
theorem ok68 : FnOk Tryz.prog 68 := ⟨Tryz.f68, Tryz.func68, by kernel_rfl, by kernel_rfl⟩ -- rillmeter/solve.clear
theorem ok69 : FnOk Tryz.prog 69 := ⟨Tryz.f69, Tryz.func69, by kernel_rfl, by kernel_rfl⟩ -- rillmeter/rillmeterref01.Mul
theorem ok70 : FnOk Tryz.prog 70 := ⟨Tryz.f70, Tryz.func70, by kernel_rfl, by kernel_rfl⟩ -- rillmeter/rillmeterref01.Add
theorem ok71 : FnOk Tryz.prog 71 := ⟨Tryz.f71, Tryz.func71, by kernel_rfl, by kernel_rfl⟩ -- rillmeter/rillmeterref01.Pow
theorem ok72 : FnOk Tryz.prog 72 := ⟨Tryz.f72, Tryz.func72, by kernel_rfl, by kernel_rfl⟩ -- rillmeter/rillmeterref02.Cell
theorem ok73 : FnOk Tryz.prog 73 := ⟨Tryz.f73, Tryz.func73, by kernel_rfl, by kernel_rfl⟩ -- rillmeter/rillmeterref03.Base
theorem ok74 : FnOk Tryz.prog 74 := ⟨Tryz.f74, Tryz.func74, by kernel_rfl, by kernel_rfl⟩ -- rillmeter/rillmeterref01.Of
theorem ok75 : FnOk Tryz.prog 75 := ⟨Tryz.f75, Tryz.func75, by kernel_rfl, by kernel_rfl⟩ -- slices.ContainsFunc[[][]rillmeter/radar.Cell,[]rillmeter/radar.Cell]
theorem ok76 : FnOk Tryz.prog 76 := ⟨Tryz.f76, Tryz.func76, by kernel_rfl, by kernel_rfl⟩ -- rillmeter/radar.Empty$1
theorem ok77 : FnOk Tryz.prog 77 := ⟨Tryz.f77, Tryz.func77, by kernel_rfl, by kernel_rfl⟩ -- slices.ContainsFunc[[]rillmeter/radar.Cell,rillmeter/radar.Cell]
theorem ok78 : FnOk Tryz.prog 78 := ⟨Tryz.f78, Tryz.func78, by kernel_rfl, by kernel_rfl⟩ -- rillmeter/radar.Empty$1$1
theorem ok79 : FnOk Tryz.prog 79 := ⟨Tryz.f79, Tryz.func79, by kernel_rfl, by kernel_rfl⟩ -- rillmeter/bloom.Right
theorem ok80 : FnOk Tryz.prog 80 := ⟨Tryz.f80, Tryz.func80, by kernel_rfl, by kernel_rfl⟩ -- rillmeter/field.Add
theorem ok81 : FnOk Tryz.prog 81 := ⟨Tryz.f81, Tryz.func81, by kernel_rfl, by kernel_rfl⟩ -- rillmeter/field.Mul
theorem ok82 : FnOk Tryz.prog 82 := ⟨Tryz.f82, Tryz.func82, by kernel_rfl, by kernel_rfl⟩ -- math/bits.Mul
theorem ok83 : FnOk Tryz.prog 83 := ⟨Tryz.f83, Tryz.func83, by kernel_rfl, by kernel_rfl⟩ -- rillmeter/radar.Right$1
theorem ok84 : FnOk Tryz.prog 84 := ⟨Tryz.f84, Tryz.func84, by kernel_rfl, by kernel_rfl⟩ -- slices.ContainsFunc[[]int,int]
theorem ok85 : FnOk Tryz.prog 85 := ⟨Tryz.f85, Tryz.func85, by kernel_rfl, by kernel_rfl⟩ -- rillmeter/bloom.Places
theorem ok86 : FnOk Tryz.prog 86 := ⟨Tryz.f86, Tryz.func86, by kernel_rfl, by kernel_rfl⟩ -- rillmeter/bloom.Has$1
theorem ok87 : FnOk Tryz.prog 87 := ⟨Tryz.f87, Tryz.func87, by kernel_rfl, by kernel_rfl⟩ -- slices.Clone[[]rillmeter/radar.Cell,rillmeter/radar.Cell]
theorem ok88 : FnOk Tryz.prog 88 := ⟨Tryz.f88, Tryz.func88, by kernel_rfl, by kernel_rfl⟩ -- slices.Clone[[]bool,bool]
theorem ok89 : FnOk Tryz.prog 89 := ⟨Tryz.f89, Tryz.func89, by kernel_rfl, by kernel_rfl⟩ -- rillmeter/hash.Cell
theorem ok90 : FnOk Tryz.prog 90 := ⟨Tryz.f90, Tryz.func90, by kernel_rfl, by kernel_rfl⟩ -- slices.Index[[]string,string]
theorem ok91 : FnOk Tryz.prog 91 := ⟨Tryz.f91, Tryz.func91, by kernel_rfl, by kernel_rfl⟩ -- slices.insertionSortOrdered[string]
theorem ok92 : FnOk Tryz.prog 92 := ⟨Tryz.f92, Tryz.func92, by kernel_rfl, by kernel_rfl⟩ -- slices.heapSortOrdered[string]
theorem ok93 : FnOk Tryz.prog 93 := ⟨Tryz.f93, Tryz.func93, by kernel_rfl, by kernel_rfl⟩ -- slices.breakPatternsOrdered[string]
theorem ok94 : FnOk Tryz.prog 94 := ⟨Tryz.f94, Tryz.func94, by kernel_rfl, by kernel_rfl⟩ -- slices.choosePivotOrdered[string]
theorem ok95 : FnOk Tryz.prog 95 := ⟨Tryz.f95, Tryz.func95, by kernel_rfl, by kernel_rfl⟩ -- slices.reverseRangeOrdered[string]
theorem ok96 : FnOk Tryz.prog 96 := ⟨Tryz.f96, Tryz.func96, by kernel_rfl, by kernel_rfl⟩ -- slices.partialInsertionSortOrdered[string]
theorem ok97 : FnOk Tryz.prog 97 := ⟨Tryz.f97, Tryz.func97, by kernel_rfl, by kernel_rfl⟩ -- cmp.Less[string]
theorem ok98 : FnOk Tryz.prog 98 := ⟨Tryz.f98, Tryz.func98, by kernel_rfl, by kernel_rfl⟩ -- slices.partitionEqualOrdered[string]
theorem ok99 : FnOk Tryz.prog 99 := ⟨Tryz.f99, Tryz.func99, by kernel_rfl, by kernel_rfl⟩ -- slices.partitionOrdered[string]
theorem ok100 : FnOk Tryz.prog 100 := ⟨Tryz.f100, Tryz.func100, by kernel_rfl, by kernel_rfl⟩ -- math/bits.Len32
theorem ok101 : FnOk Tryz.prog 101 := ⟨Tryz.f101, Tryz.func101, by kernel_rfl, by kernel_rfl⟩ -- math/bits.Len64
theorem ok102 : FnOk Tryz.prog 102 := ⟨Tryz.f102, Tryz.func102, by kernel_rfl, by kernel_rfl⟩ -- rillmeter/rillmeterref16.xor
theorem ok103 : FnOk Tryz.prog 103 := ⟨Tryz.f103, Tryz.func103, by kernel_rfl, by kernel_rfl⟩ -- slices.ContainsFunc[[][]uint64,[]uint64]
theorem ok104 : FnOk Tryz.prog 104 := ⟨Tryz.f104, Tryz.func104, by kernel_rfl, by kernel_rfl⟩ -- rillmeter/solve.even$1
theorem ok105 : FnOk Tryz.prog 105 := ⟨Tryz.f105, Tryz.func105, by kernel_rfl, by kernel_rfl⟩ -- rillmeter/field.Of
theorem ok106 : FnOk Tryz.prog 106 := ⟨Tryz.f106, Tryz.func106, by kernel_rfl, by kernel_rfl⟩ -- rillmeter/field.Inv
theorem ok107 : FnOk Tryz.prog 107 := ⟨Tryz.f107, Tryz.func107, by kernel_rfl, by kernel_rfl⟩ -- rillmeter/field.Sub
theorem ok108 : FnOk Tryz.prog 108 := ⟨Tryz.f108, Tryz.func108, by kernel_rfl, by kernel_rfl⟩ -- rillmeter/rillmeterref02.Sum
theorem ok109 : FnOk Tryz.prog 109 := ⟨Tryz.f109, Tryz.func109, by kernel_rfl, by kernel_rfl⟩ -- rillmeter/rillmeterref03.less
theorem ok110 : FnOk Tryz.prog 110 := ⟨Tryz.f110, Tryz.func110, by kernel_rfl, by kernel_rfl⟩ -- rillmeter/rillmeterref03.first
theorem ok111 : FnOk Tryz.prog 111 := ⟨Tryz.f111, Tryz.func111, by kernel_rfl, by kernel_rfl⟩ -- slices.IndexFunc[[][]rillmeter/radar.Cell,[]rillmeter/radar.Cell]
theorem ok112 : FnOk Tryz.prog 112 := ⟨Tryz.f112, Tryz.func112, by kernel_rfl, by kernel_rfl⟩ -- slices.IndexFunc[[]rillmeter/radar.Cell,rillmeter/radar.Cell]
theorem ok113 : FnOk Tryz.prog 113 := ⟨Tryz.f113, Tryz.func113, by kernel_rfl, by kernel_rfl⟩ -- math/bits.Mul64
theorem ok114 : FnOk Tryz.prog 114 := ⟨Tryz.f114, Tryz.func114, by kernel_rfl, by kernel_rfl⟩ -- math/bits.Mul32
theorem ok115 : FnOk Tryz.prog 115 := ⟨Tryz.f115, Tryz.func115, by kernel_rfl, by kernel_rfl⟩ -- slices.IndexFunc[[]int,int]
theorem ok116 : FnOk Tryz.prog 116 := ⟨Tryz.f116, Tryz.func116, by kernel_rfl, by kernel_rfl⟩ -- rillmeter/hash.Sum
theorem ok117 : FnOk Tryz.prog 117 := ⟨Tryz.f117, Tryz.func117, by kernel_rfl, by kernel_rfl⟩ -- slices.siftDownOrdered[string]
theorem ok118 : FnOk Tryz.prog 118 := ⟨Tryz.f118, Tryz.func118, by kernel_rfl, by kernel_rfl⟩ -- slices.nextPowerOfTwo
theorem ok119 : FnOk Tryz.prog 119 := ⟨Tryz.f119, Tryz.func119, by kernel_rfl, by kernel_rfl⟩ -- (*slices.xorshift).Next
theorem ok120 : FnOk Tryz.prog 120 := ⟨Tryz.f120, Tryz.func120, by kernel_rfl, by kernel_rfl⟩ -- slices.medianAdjacentOrdered[string]
theorem ok121 : FnOk Tryz.prog 121 := ⟨Tryz.f121, Tryz.func121, by kernel_rfl, by kernel_rfl⟩ -- slices.medianOrdered[string]
theorem ok122 : FnOk Tryz.prog 122 := ⟨Tryz.f122, Tryz.func122, by kernel_rfl, by kernel_rfl⟩ -- cmp.isNaN[string]
theorem ok123 : FnOk Tryz.prog 123 := ⟨Tryz.f123, Tryz.func123, by kernel_rfl, by kernel_rfl⟩ -- slices.IndexFunc[[][]uint64,[]uint64]
theorem ok124 : FnOk Tryz.prog 124 := ⟨Tryz.f124, Tryz.func124, by kernel_rfl, by kernel_rfl⟩ -- rillmeter/field.Pow
theorem ok125 : FnOk Tryz.prog 125 := ⟨Tryz.f125, Tryz.func125, by kernel_rfl, by kernel_rfl⟩ -- rillmeter/rillmeterref02.words
theorem ok126 : FnOk Tryz.prog 126 := ⟨Tryz.f126, Tryz.func126, by kernel_rfl, by kernel_rfl⟩ -- rillmeter/rillmeterref03.inverse
theorem ok127 : FnOk Tryz.prog 127 := ⟨Tryz.f127, Tryz.func127, by kernel_rfl, by kernel_rfl⟩ -- rillmeter/rillmeterref01.Sub
theorem ok128 : FnOk Tryz.prog 128 := ⟨Tryz.f128, Tryz.func128, by kernel_rfl, by kernel_rfl⟩ -- slices.order2Ordered[string]
end Go.Proofs.YtmgnmnogiajlgaaGreatF
end

section
/- Sorting in place, from the shelf's contract. -/
namespace Go.Proofs.Vm
open Go

variable {P : Program}

def SortsInt (P : Program) (g : FuncId) : Prop := ∀ (blk off cap : Nat) (zs : List Int) (w : World), Sort.Holds (Value.int .i64) w blk off zs.toArray → blk < w.heap.size → zs.length < 4611686018427387904 →
  Calls P g #[.slice (some ⟨blk, off, none⟩) zs.length cap] w fun e w' => e = .returned (.tuple #[]) ∧ ∃ n os, w' = Sort.grow (Sort.putRow (Value.int .i64) (Sort.ahead w n) blk off (zs.mergeSort fun x y => decide (x ≤ y)).toArray) os
def SortsNone (P : Program) (g : FuncId) : Prop := ∀ (p : Option Addr) (cap : Nat) (w : World), Calls P g #[.slice p 0 cap] w fun e w' => e = .returned (.tuple #[]) ∧ w' = w

theorem mapO_int_inv : ∀ {l : List (List CV)} {xs : List Int}, mapO intOf l = some xs → l = xs.map cInt
  | [], xs, h => by cases h; rfl
  | e :: l, xs, h => by
    simp only [mapO] at h
    split at h
    · rename_i y m h1 h2
      cases h
      rw [List.map_cons, mapO_int_inv h2]
      congr 1
      unfold intOf at h1
      split at h1
      · cases h1; rfl
      · cases h1
    · cases h

theorem sortTab_ok {g : FuncId} (hnc : isCl P g = false) (hf : FnOk P g) (h1 : SortsInt P g) (h2 : SortsNone P g) : TOk P (sortTab g) := by
  refine ⟨fun f args r h => (by cases h), fun f args H r H' h => ?_⟩
  simp only [sortTab] at h
  split at h
  case isFalse => cases h
  rename_i hfg
  subst hfg
  unfold sortRun at h
  split at h
  case h_2 => cases h
  rename_i id n tot
  split at h
  case h_2 => cases h
  rename_i l hl
  split at h
  case h_2 => cases h
  rename_i xs hxs
  split at h
  case isFalse => cases h
  rename_i hc
  obtain ⟨rfl, hlt, hsz⟩ := hc
  cases h
  have hlx := mapO_int_inv hxs
  have hxl : xs.length = n := by rw [← hlt, hlx, List.length_map]
  refine ⟨⟨by simp, fun h => by rw [hnc] at h; cases h⟩, hf, ?_⟩
  intro X S M hX hD vals hv
  subst hX
  have hv1 : vals.length = 1 := by rw [← hv.1]; rfl
  match vals, hv1 with
  | [v], _ =>
  have hr : RCell X (.sl id 0 n n) v := hv.2 0 _ v rfl rfl
  obtain ⟨_, hd, e0, he0, _, _, hp⟩ := hr
  rw [hl] at he0
  cases he0
  obtain ⟨ad, cap, rfl, hcap, hne, _⟩ := hp hlt
  have hent := S.ent _ _ hd hl
  have hlen' : (xs.mergeSort fun x y => decide (x ≤ y)).length = xs.length := List.length_mergeSort _
  have hylen : ((xs.mergeSort fun x y => decide (x ≤ y)).map cInt).length = l.length := by rw [List.length_map, hlen', hlx, List.length_map]
  by_cases h0 : n = 0
  · subst h0
    have hxe : xs = [] := List.length_eq_zero_iff.1 hxl
    subst hxe
    refine (h2 ad cap X.w).mono fun e w' hh => ?_
    obtain ⟨rfl, rfl⟩ := hh
    refine ⟨_, X, rfl, rfl, .refl S M, ?_, fun id => by rw [hD]; simp, ⟨[], rfl, rfl, fun j p y hp => by simp at hp⟩⟩
    rw [List.mergeSort_nil]
    simp only [List.map_nil] at hlx ⊢
    rw [hlx] at hl
    exact (set_same hl).symm
  · obtain ⟨b, hb, rfl⟩ := hne h0
    rcases hent.2 with ⟨h3, _⟩ | ⟨b', c, ty, fr, g1, g2, g3, g4, g5, g6, g7, g8, g9, g10⟩
    · exact absurd (hlt.symm.trans h3) h0
    rw [hb] at g1
    cases g1
    have hsz1 : (X.σ id).sz = 1 := by
      cases l with
      | nil => exact absurd hlt.symm h0
      | cons e l =>
        have := hent.1 e List.mem_cons_self
        cases xs with
        | nil => simp at hlx
        | cons x xs =>
          rw [List.map_cons] at hlx
          cases hlx
          exact this.symm
    rw [hsz1] at g5 g10
    have hblk := S.blk M id b hd hb
    have hcell : ∀ j, ∀ hj : j < xs.length, c[j]? = some (.int .i64 xs[j]) := by
      intro j hj
      obtain ⟨v, h3, e, x, h4, h5, h6⟩ := g10 j 0 (by omega) (by omega)
      rw [hlx, List.getElem?_map, List.getElem?_eq_getElem hj] at h4
      cases h4
      cases h5
      cases h6
      rw [← h3, Nat.mul_one, Nat.add_zero]
    have hH : Sort.Holds (Value.int .i64) X.w b 0 xs.toArray := by
      intro j hj
      have hj : j < xs.length := by simpa using hj
      refine ⟨?_, g4 _ ?_⟩
      · unfold World.cell?
        simp only [g3]
        rw [if_neg (by simp), Nat.zero_add, hcell j hj]
        simp [hj]
      · have := (Array.getElem?_eq_some_iff.1 (hcell j hj)).1
        omega
    rw [Nat.zero_mul, ← hxl]
    refine (h1 b 0 cap xs X.w hH hblk.1 (by omega)).mono fun e w' hh => ?_
    obtain ⟨rfl, m, os, rfl⟩ := hh
    generalize hys : (xs.mergeSort fun x y => decide (x ≤ y)) = ys at hlen' hylen
    let w' := Sort.grow (Sort.putRow (Value.int .i64) (Sort.ahead X.w m) b 0 ys.toArray) os
    have hms : (X.w.heap.modify b (Sort.onCells (Sort.putCells (Value.int .i64) 0 ys.toArray))).size = X.w.heap.size := by simp
    have hheap : ∀ k, k < X.w.heap.size → w'.heap[k]? = (X.w.heap.modify b (Sort.onCells (Sort.putCells (Value.int .i64) 0 ys.toArray)))[k]? := by
      intro k hk
      show (X.w.heap.modify b _ ++ os)[k]? = _
      rw [Array.getElem?_append_left (by simpa using hk)]
    have hself : w'.heap[b]? = some (.cells (Sort.putCells (Value.int .i64) 0 ys.toArray c) ty fr) := by
      rw [hheap b hblk.1, Array.getElem?_modify, if_pos rfl, g3]
      rfl
    have hoth : ∀ k, k < X.w.heap.size → k ≠ b → w'.heap[k]? = X.w.heap[k]? := by
      intro k hk hkb
      rw [hheap k hk, Array.getElem?_modify, if_neg (fun e => hkb e.symm)]
    let Y : Cx := { X with H := X.H.set id (.clo (ys.map cInt) false), w := w' }
    have W : Wrote X Y id := ⟨rfl, rfl, fun _ => Iff.rfl, fun _ _ _ => rfl, rfl, fun i hi => set_get hi, by
      show X.w.heap.size ≤ (X.w.heap.modify b _ ++ os).size
      rw [Array.size_append, hms]
      exact Nat.le_add_right _ _, fun k hk hkb => hoth k hk (hkb b hb), ⟨_, _, hl, set_self hl, by simp only [Ent.len]; omega, fun _ => rfl, fun l h => by cases h⟩, hd, ⟨⟨rfl, rfl⟩, rfl, Nat.le_add_right _ _⟩, fun k hk => by rw [hb] at hk; cases hk; exact g9 rfl⟩
    have SY : SR Y := W.sr S M (fun e h => by
      have : Y.H[id]? = some (.clo (ys.map cInt) false) := set_self hl
      rw [this] at h
      cases h
      refine ⟨fun e he => ?_, .inr ⟨b, _, ty, fr, hb, g2, hself, fun o ho => ?_, ?_, by rw [hylen]; exact g6, g7, (fun h => by cases h), g9, fun i j hi hj => ?_⟩⟩
      · obtain ⟨y, _, rfl⟩ := List.mem_map.1 he
        show 1 = (X.σ id).sz
        rw [hsz1]
      · have := g4 o (by simpa [Sort.putCells] using ho)
        unfold World.frozen? at this ⊢
        rw [g3] at this
        rw [hself]
        exact this
      · show (Sort.putCells (Value.int .i64) 0 ys.toArray c).size = (X.σ id).cap * (X.σ id).sz
        rw [hsz1, ← g5]
        simp [Sort.putCells]
      · have hj : j < (X.σ id).sz := hj
        rw [hsz1] at hj
        have hi' : i < ys.length := by simpa using hi
        have hic : i < c.size := by rw [g5]; have := g6.2; rw [hylen] at hi; omega
        refine ⟨.int .i64 ys[i], ?_, cInt ys[i], .v (.int .i64 ys[i]), by rw [List.getElem?_map, List.getElem?_eq_getElem hi']; rfl, by rw [show j = 0 by omega]; rfl, .v _ rfl⟩
        show (Sort.putCells (Value.int .i64) 0 ys.toArray c)[i * (X.σ id).sz + j]? = _
        rw [hsz1, show i * 1 + j = i by omega, Sort.putCells, Array.getElem?_mapIdx, Array.getElem?_eq_getElem hic, Option.map_some, if_pos ⟨Nat.zero_le _, by simpa using hi'⟩]
        simp [hi']) (fun b' h => .inl h)
    exact ⟨_, Y, rfl, rfl, W.nxt S M SY, rfl, fun id => by rw [show Y.D = X.D from rfl, hD]; simp, ⟨[], rfl, rfl, fun j p y hp => by simp at hp⟩⟩

end Go.Proofs.Vm
end

section
/- Sorting strings in place, from the shelf's contract. -/
namespace Go.Proofs.Vm
open Go Go.Sort

variable {P : Program}

def ssort (l : List ByteArray) : List ByteArray := l.mergeSort fun x y => decide (x.data.toList ≤ y.data.toList)
def strOf1 : List CV → Option ByteArray
  | [.v (.string n)] => some n
  | _ => none
def cStr1 (n : ByteArray) : List CV := [.v (.string n)]
def sortSRun (args : List AV) (H : Hp) : Option (AV × Hp) :=
  match args with
  | [.one (.sl id 0 n tot)] => match H[id]? with
    | some (.clo l false) => match mapO strOf1 l with
      | some xs => if n = tot ∧ l.length = tot ∧ tot < 4611686018427387904 then some (und, H.set id (.clo ((ssort xs).map cStr1) false)) else none
      | none => none
    | _ => none
  | _ => none
def strTab (g : FuncId) : Tab := ⟨fun _ _ => none, fun f args H => if f = g then sortSRun args H else none, false⟩
theorem mapO_strOf1 : ∀ xs : List ByteArray, mapO strOf1 (xs.map cStr1) = some xs
  | [] => rfl
  | x :: xs => by
    rw [List.map_cons]
    simp only [mapO, mapO_strOf1 xs]
    rfl

def SortsStr (P : Program) (g : FuncId) : Prop := ∀ (blk off cap : Nat) (zs : List ByteArray) (w : World), Sort.Holds encStr w blk off (zs.map (·.data.toList)).toArray → blk < w.heap.size → zs.length < 4611686018427387904 →
  Calls P g #[.slice (some ⟨blk, off, none⟩) zs.length cap] w fun e w' => e = .returned (.tuple #[]) ∧ ∃ n os, w' = Sort.grow (Sort.putRow encStr (Sort.ahead w n) blk off ((ssort zs).map (·.data.toList)).toArray) os
def SortsSNone (P : Program) (g : FuncId) : Prop := ∀ (p : Option Addr) (cap : Nat) (w : World), Calls P g #[.slice p 0 cap] w fun e w' => e = .returned (.tuple #[]) ∧ w' = w

theorem mapO_str_inv : ∀ {l : List (List CV)} {xs : List ByteArray}, mapO strOf1 l = some xs → l = xs.map cStr1
  | [], xs, h => by cases h; rfl
  | e :: l, xs, h => by
    simp only [mapO] at h
    split at h
    · rename_i y m h1 h2
      cases h
      rw [List.map_cons, mapO_str_inv h2]
      congr 1
      unfold strOf1 at h1
      split at h1
      · cases h1; rfl
      · cases h1
    · cases h

theorem strTab_ok {g : FuncId} (hnc : isCl P g = false) (hf : FnOk P g) (h1 : SortsStr P g) (h2 : SortsSNone P g) : TOk P (strTab g) := by
  refine ⟨fun f args r h => (by cases h), fun f args H r H' h => ?_⟩
  simp only [strTab] at h
  split at h
  case isFalse => cases h
  rename_i hfg
  subst hfg
  unfold sortSRun at h
  split at h
  case h_2 => cases h
  rename_i id n tot
  split at h
  case h_2 => cases h
  rename_i l hl
  split at h
  case h_2 => cases h
  rename_i xs hxs
  split at h
  case isFalse => cases h
  rename_i hc
  obtain ⟨rfl, hlt, hsz⟩ := hc
  cases h
  have hlx := mapO_str_inv hxs
  have hxl : xs.length = n := by rw [← hlt, hlx, List.length_map]
  refine ⟨⟨by simp, fun h => by rw [hnc] at h; cases h⟩, hf, ?_⟩
  intro X S M hX hD vals hv
  subst hX
  have hv1 : vals.length = 1 := by rw [← hv.1]; rfl
  match vals, hv1 with
  | [v], _ =>
  have hr : RCell X (.sl id 0 n n) v := hv.2 0 _ v rfl rfl
  obtain ⟨_, hd, e0, he0, _, _, hp⟩ := hr
  rw [hl] at he0
  cases he0
  obtain ⟨ad, cap, rfl, hcap, hne, _⟩ := hp hlt
  have hent := S.ent _ _ hd hl
  have hlen' : (ssort xs).length = xs.length := List.length_mergeSort _
  have hylen : ((ssort xs).map cStr1).length = l.length := by rw [List.length_map, hlen', hlx, List.length_map]
  by_cases h0 : n = 0
  · subst h0
    have hxe : xs = [] := List.length_eq_zero_iff.1 hxl
    subst hxe
    refine (h2 ad cap X.w).mono fun e w' hh => ?_
    obtain ⟨rfl, rfl⟩ := hh
    refine ⟨_, X, rfl, rfl, .refl S M, ?_, fun id => by rw [hD]; simp, ⟨[], rfl, rfl, fun j p y hp => by simp at hp⟩⟩
    rw [ssort, List.mergeSort_nil]
    simp only [List.map_nil] at hlx ⊢
    rw [hlx] at hl
    exact (set_same hl).symm
  · obtain ⟨b, hb, rfl⟩ := hne h0
    rcases hent.2 with ⟨h3, _⟩ | ⟨b', c, ty, fr, g1, g2, g3, g4, g5, g6, g7, g8, g9, g10⟩
    · exact absurd (hlt.symm.trans h3) h0
    rw [hb] at g1
    cases g1
    have hsz1 : (X.σ id).sz = 1 := by
      cases l with
      | nil => exact absurd hlt.symm h0
      | cons e l =>
        have := hent.1 e List.mem_cons_self
        cases xs with
        | nil => simp at hlx
        | cons x xs =>
          rw [List.map_cons] at hlx
          cases hlx
          exact this.symm
    rw [hsz1] at g5 g10
    have hblk := S.blk M id b hd hb
    have hcell : ∀ j, ∀ hj : j < xs.length, c[j]? = some (.string xs[j]) := by
      intro j hj
      obtain ⟨v, h3, e, x, h4, h5, h6⟩ := g10 j 0 (by omega) (by omega)
      rw [hlx, List.getElem?_map, List.getElem?_eq_getElem hj] at h4
      cases h4
      cases h5
      cases h6
      rw [← h3, Nat.mul_one, Nat.add_zero]
    have hH : Sort.Holds encStr X.w b 0 (xs.map (·.data.toList)).toArray := by
      intro j hj
      have hj : j < xs.length := by simpa using hj
      refine ⟨?_, g4 _ ?_⟩
      · unfold World.cell?
        simp only [g3]
        rw [if_neg (by simp), Nat.zero_add, hcell j hj]
        simp [hj]
      · have := (Array.getElem?_eq_some_iff.1 (hcell j hj)).1
        omega
    rw [Nat.zero_mul, ← hxl]
    refine (h1 b 0 cap xs X.w hH hblk.1 (by omega)).mono fun e w' hh => ?_
    obtain ⟨rfl, m, os, rfl⟩ := hh
    generalize hys : ssort xs = ys at hlen' hylen
    let w' := Sort.grow (Sort.putRow encStr (Sort.ahead X.w m) b 0 (ys.map (·.data.toList)).toArray) os
    have hms : (X.w.heap.modify b (Sort.onCells (Sort.putCells encStr 0 (ys.map (·.data.toList)).toArray))).size = X.w.heap.size := by simp
    have hheap : ∀ k, k < X.w.heap.size → w'.heap[k]? = (X.w.heap.modify b (Sort.onCells (Sort.putCells encStr 0 (ys.map (·.data.toList)).toArray)))[k]? := by
      intro k hk
      show (X.w.heap.modify b _ ++ os)[k]? = _
      rw [Array.getElem?_append_left (by simpa using hk)]
    have hself : w'.heap[b]? = some (.cells (Sort.putCells encStr 0 (ys.map (·.data.toList)).toArray c) ty fr) := by
      rw [hheap b hblk.1, Array.getElem?_modify, if_pos rfl, g3]
      rfl
    have hoth : ∀ k, k < X.w.heap.size → k ≠ b → w'.heap[k]? = X.w.heap[k]? := by
      intro k hk hkb
      rw [hheap k hk, Array.getElem?_modify, if_neg (fun e => hkb e.symm)]
    let Y : Cx := { X with H := X.H.set id (.clo (ys.map cStr1) false), w := w' }
    have W : Wrote X Y id := ⟨rfl, rfl, fun _ => Iff.rfl, fun _ _ _ => rfl, rfl, fun i hi => set_get hi, by
      show X.w.heap.size ≤ (X.w.heap.modify b _ ++ os).size
      rw [Array.size_append, hms]
      exact Nat.le_add_right _ _, fun k hk hkb => hoth k hk (hkb b hb), ⟨_, _, hl, set_self hl, by simp only [Ent.len]; omega, fun _ => rfl, fun l h => by cases h⟩, hd, ⟨⟨rfl, rfl⟩, rfl, Nat.le_add_right _ _⟩, fun k hk => by rw [hb] at hk; cases hk; exact g9 rfl⟩
    have SY : SR Y := W.sr S M (fun e h => by
      have : Y.H[id]? = some (.clo (ys.map cStr1) false) := set_self hl
      rw [this] at h
      cases h
      refine ⟨fun e he => ?_, .inr ⟨b, _, ty, fr, hb, g2, hself, fun o ho => ?_, ?_, by rw [hylen]; exact g6, g7, (fun h => by cases h), g9, fun i j hi hj => ?_⟩⟩
      · obtain ⟨y, _, rfl⟩ := List.mem_map.1 he
        show 1 = (X.σ id).sz
        rw [hsz1]
      · have := g4 o (by simpa [Sort.putCells] using ho)
        unfold World.frozen? at this ⊢
        rw [g3] at this
        rw [hself]
        exact this
      · show (Sort.putCells encStr 0 (ys.map (·.data.toList)).toArray c).size = (X.σ id).cap * (X.σ id).sz
        rw [hsz1, ← g5]
        simp [Sort.putCells]
      · have hj : j < (X.σ id).sz := hj
        rw [hsz1] at hj
        have hi' : i < ys.length := by simpa using hi
        have hic : i < c.size := by rw [g5]; have := g6.2; rw [hylen] at hi; omega
        refine ⟨.string ys[i], ?_, cStr1 ys[i], .v (.string ys[i]), by rw [List.getElem?_map, List.getElem?_eq_getElem hi']; rfl, by rw [show j = 0 by omega]; rfl, .v _ rfl⟩
        show (Sort.putCells encStr 0 (ys.map (·.data.toList)).toArray c)[i * (X.σ id).sz + j]? = _
        rw [hsz1, show i * 1 + j = i by omega, Sort.putCells, Array.getElem?_mapIdx, Array.getElem?_eq_getElem hic, Option.map_some, if_pos ⟨Nat.zero_le _, by simpa using hi'⟩]
        simp [hi']) (fun b' h => .inl h)
    exact ⟨_, Y, rfl, rfl, W.nxt S M SY, rfl, fun id => by rw [show Y.D = X.D from rfl, hD]; simp, ⟨[], rfl, rfl, fun j p y hp => by simp at hp⟩⟩

end Go.Proofs.Vm
end

section
/- Rewriting rules of regions in which reads stand beside writes. -/
namespace Go.Proofs.Vm
open Go

variable {P : Program} {T : Tab} {N : Fx} {H : Hp}

theorem late_pu : (late T).pu = T.pu := rfl
theorem late_S : (late T).S = T.S := rfl
theorem late_cb : (late T).cb = true := rfl
def wpW (P : Program) (T : Tab) (N : Fx) (ops : Array Oper) (fl : List Nat) (i : Nat) (os : List Oper) (hs : List Hp) (rs : List LateR) (K : St → Prop) (s : St) : Prop := ∃ s', runW P T N ops fl i os hs rs s = some s' ∧ K s'
theorem e_regionW {K : Ex → St → Prop} {s : St} {id : Nat} {ops : Array Oper} {d : Bool} (hf : N.fl id ≠ []) : wpV P T N (.region id ops d) K s ↔ wpW P (late T) N ops (N.fl id) 0 ops.toList [] [] (K .normal) s := by
  rw [wpV_iff]
  constructor
  · rintro ⟨n, ex, s', h, hk⟩
    simp only [vcode, runR, if_neg hf] at h
    split at h
    · rename_i s1 h1
      cases h
      exact ⟨_, h1, hk⟩
    · cases h
  · rintro ⟨s', h, hk⟩
    exact ⟨0, .normal, s', by simp only [vcode, runR, if_neg hf, h], hk⟩
section
variable {ops : Array Oper} {fl : List Nat} {i : Nat} {os : List Oper} {hs : List Hp} {rs : List LateR} {K : St → Prop} {s : St} {o : Oper}
theorem w_nil : wpW P T N ops fl i [] hs rs K s ↔ okRs P T N.nest s.H rs ∧ K s := by
  unfold wpW runW
  constructor
  · rintro ⟨s', h, hk⟩
    split at h
    · rename_i hr; cases h; exact ⟨hr, hk⟩
    · cases h
  · rintro ⟨hr, hk⟩
    exact ⟨s, by rw [if_pos hr], hk⟩
theorem w_rd (h1 : i ∉ fl) (h2 : isWr P N o = false) : wpW P T N ops fl i (o :: os) hs rs K s ↔ wpS P T N ops o (wpW P T N ops fl (i + 1) os hs rs K) s := by
  have h2' : ¬ isWr P N o = true := by rw [h2]; decide
  constructor
  · rintro ⟨s', h, hk⟩
    unfold runW at h
    rw [if_neg h1, if_neg h2'] at h
    split at h
    · rename_i s1 hs1; exact ⟨s1, hs1, s', h, hk⟩
    · cases h
  · rintro ⟨s1, hs1, s', h, hk⟩
    refine ⟨s', ?_, hk⟩
    unfold runW
    rw [if_neg h1, if_neg h2', hs1]
    exact h
theorem w_wr (h1 : i ∉ fl) (h2 : isWr P N o = true) : wpW P T N ops fl i (o :: os) hs rs K s ↔ okRs P T N.nest s.H rs ∧ wpS P T N ops o (wpW P T N ops fl (i + 1) os (s.H :: hs) rs K) s := by
  constructor
  · rintro ⟨s', h, hk⟩
    unfold runW at h
    rw [if_neg h1, if_pos h2] at h
    split at h
    case isFalse => cases h
    rename_i hr
    split at h
    · rename_i s1 hs1; exact ⟨hr, s1, hs1, s', h, hk⟩
    · cases h
  · rintro ⟨hr, s1, hs1, s', h, hk⟩
    refine ⟨s', ?_, hk⟩
    unfold runW
    rw [if_neg h1, if_pos h2, if_pos hr, hs1]
    exact h
theorem w_go (h1 : i ∉ fl) : wpW P T N ops fl i (o :: os) hs rs K s ↔ if isWr P N o = true then okRs P T N.nest s.H rs ∧ wpS P T N ops o (wpW P T N ops fl (i + 1) os (s.H :: hs) rs K) s else wpS P T N ops o (wpW P T N ops fl (i + 1) os hs rs K) s := by
  by_cases h : isWr P N o = true
  · rw [if_pos h]; exact w_wr h1 h
  · rw [if_neg h]; exact w_rd h1 (by simpa using h)
theorem putK_iff {N : Fx} {d : Option Tmp} {s : St} {a : AV} {K : St → Prop} : putK N d s.env s.H a K ↔ ∃ s', putV N s d a = some s' ∧ K s' := by
  obtain ⟨e, H⟩ := s
  cases d with
  | none => exact ⟨fun h => ⟨_, rfl, h⟩, fun ⟨s', h, k⟩ => by cases h; exact k⟩
  | some d =>
    constructor
    · rintro ⟨h1, h2⟩
      exact ⟨_, by unfold putV; dsimp only; rw [if_pos h1], h2⟩
    · rintro ⟨s', h, k⟩
      unfold putV at h
      dsimp only at h
      split at h
      · rename_i h1; cases h; exact ⟨h1, k⟩
      · cases h
theorem w_lt {d : Option Tmp} {op : Op} {ty : TypeId} {pos : String} {aft : Array Edge} (h1 : i ∈ fl) (h2 : lateOp ⟨d, op, ty, pos, aft, none⟩ = true) : wpW P T N ops fl i (⟨d, op, ty, pos, aft, none⟩ :: os) hs rs K s ↔
    ∃ a, vrd P T N.nest s.H s.H.length (evo s.env) ⟨d, op, ty, pos, aft, none⟩ = some (a, [], []) ∧ okHs P T N.nest ⟨d, op, ty, pos, aft, none⟩ s.env s.H.length a hs ∧ putK N d s.env s.H a (wpW P T N ops fl (i + 1) os hs ((⟨d, op, ty, pos, aft, none⟩, s.env, s.H.length, a) :: rs) K) := by
  have hw : wantV s.env ops ⟨d, op, ty, pos, aft, none⟩ = some true := by simp [wantV]
  constructor
  · rintro ⟨s', h, hk⟩
    unfold runW at h
    rw [if_pos h1, if_pos h2, hw] at h
    dsimp only at h
    split at h
    case h_2 => cases h
    rename_i a hv
    split at h
    case isFalse => cases h
    rename_i hh
    split at h
    case h_2 => cases h
    rename_i s1 hp
    exact ⟨a, hv, hh, putK_iff.2 ⟨s1, hp, s', h, hk⟩⟩
  · rintro ⟨a, hv, hh, hpk⟩
    obtain ⟨s1, hp, s', h, hk⟩ := putK_iff.1 hpk
    refine ⟨s', ?_, hk⟩
    unfold runW
    rw [if_pos h1, if_pos h2, hw]
    dsimp only
    rw [hv]
    dsimp only
    rw [if_pos hh, hp]
    exact h
theorem w_late {d : Option Tmp} {op : Op} {ty : TypeId} {pos : String} {aft : Array Edge} (h1 : i ∈ fl) : wpW P T N ops fl i (⟨d, op, ty, pos, aft, none⟩ :: os) hs rs K s ↔ if lateOp ⟨d, op, ty, pos, aft, none⟩ = true then
    (∃ a, vrd P T N.nest s.H s.H.length (evo s.env) ⟨d, op, ty, pos, aft, none⟩ = some (a, [], []) ∧ okHs P T N.nest ⟨d, op, ty, pos, aft, none⟩ s.env s.H.length a hs ∧ putK N d s.env s.H a (wpW P T N ops fl (i + 1) os hs ((⟨d, op, ty, pos, aft, none⟩, s.env, s.H.length, a) :: rs) K))
    else wpW P T N ops fl i (⟨d, op, ty, pos, aft, none⟩ :: os) hs rs K s := by
  by_cases h : lateOp ⟨d, op, ty, pos, aft, none⟩ = true
  · rw [if_pos h]; exact w_lt h1 h
  · rw [if_neg h]
end
section
variable {b : Bool} {n : Nat} {ρ : Operand → Option AV} {d : Option Tmp} {ty : TypeId} {pos : String} {aft : Array Edge} {g : Option (Nat × Bool)}
theorem v_load {t : TypeId} {x : Operand} : vrd P T b H n ρ ⟨d, .load t x, ty, pos, aft, g⟩ = on1 (ρ x) (vload P H t) := by unfold on1; rfl
theorem v_fieldAddr {t : TypeId} {x : Operand} {f : Nat} : vrd P T b H n ρ ⟨d, .fieldAddr t x f, ty, pos, aft, g⟩ = on1 (ρ x) (vfieldAddr P H t f) := by unfold on1; rfl
theorem v_indexAddr {t : TypeId} {x y : Operand} : vrd P T b H n ρ ⟨d, .indexAddr t x y, ty, pos, aft, g⟩ = on2 (ρ x) (ρ y) (vindexAddr P H t) := by unfold on2; rfl
theorem v_buildSlice {t : TypeId} {k : Nat} {ps : Array (Nat × Operand)} : vrd P T b H n ρ ⟨d, .buildSlice t k ps, ty, pos, aft, g⟩ = vbuildN P b T.cb H n ρ t k ps.toList := rfl
theorem lt_load {t : TypeId} {x : Operand} : lateOp ⟨d, .load t x, ty, pos, aft, g⟩ = true := rfl
theorem lt_fieldAddr {t : TypeId} {x : Operand} {f : Nat} : lateOp ⟨d, .fieldAddr t x f, ty, pos, aft, g⟩ = true := rfl
theorem lt_indexAddr {t : TypeId} {x y : Operand} : lateOp ⟨d, .indexAddr t x y, ty, pos, aft, g⟩ = true := rfl
theorem lt_buildSlice {t : TypeId} {k : Nat} {ps : Array (Nat × Operand)} : lateOp ⟨d, .buildSlice t k ps, ty, pos, aft, g⟩ = true := rfl
end
theorem vbuildT_yes {nid : Nat} {ρ : Operand → Option AV} {t : TypeId} {len : Nat} {ps : List (Nat × Operand)} : vbuildT P true H nid ρ t len ps = if clParts H ρ ps = true then vbuildC P H ρ t len ps else vbuildSlice P H nid ρ t len ps := by
  unfold vbuildT
  simp
theorem vbuildC_eq {ρ : Operand → Option AV} {t e : TypeId} {len : Nat} {ps : List (Nat × Operand)} {sz b : Nat} {z : List CV} (he : elemOfSlice P t = some e) (hel : elOf P e = some (sz, b, z)) :
    vbuildC P H ρ t len ps = match partsOf ρ ps with
      | some ps => match fzParts H ps with
        | some qs => if len * sz ≤ 16777216 ∧ len * sz ≠ 0 ∧ qs.all (fun p => p.1 < len && p.2.length == sz) = true then
            some (.one (.c (.arr (setAll (List.replicate len z) qs))), [], []) else none
        | none => none
      | none => none := by
  obtain ⟨i, v, h1, h2, h3, h4, h5, h6, h7⟩ := elOf_facts hel
  unfold vbuildC
  simp only [he]
  cases partsOf ρ ps with
  | none => rfl
  | some ps =>
    simp only [h1, h2]
    cases fzParts H ps with
    | none => rfl
    | some qs =>
      simp only [h3, h5, h6, h7, true_and]
theorem qa_eq {a b : AV} : qa a = some (b, [], []) ↔ a = b := by simp [qa]
@[congr] theorem wpW_congr {ops : Array Oper} {fl : List Nat} {i : Nat} {os : List Oper} {hs : List Hp} {rs : List LateR} {K : St → Prop} {s s' : St} (h : s = s') : wpW P T N ops fl i os hs rs K s = wpW P T N ops fl i os hs rs K s' := by rw [h]
attribute [simp] late_pu late_S late_cb e_regionW w_nil w_go w_late v_load v_fieldAddr v_indexAddr v_buildSlice lt_load lt_fieldAddr lt_indexAddr lt_buildSlice vbuildT_yes qa_eq okRs okHs isWr clParts
end Go.Proofs.Vm
end

section
/- A base that also tells what a clone of nothing is: nothing, in memory of its own. -/
namespace Go.Proofs.Vm
open Go

variable {P : Program}

def cloRun (args : List AV) (H : Hp) : Option (AV × Hp) :=
  match args with
  | [.one (.c (.arr []))] => some (.one (.sl H.length 0 0 0), H ++ [.clo [] false])
  | _ => none
def strCloTab (s : FuncId) (cs : List FuncId) : Tab := ⟨fun _ _ => none, fun f args H => if f = s then sortSRun args H else if f ∈ cs then cloRun args H else none, false⟩
/-- A clone of a slice without elements is one without room, and turns nothing that is there. -/
def CloS (P : Program) (g : FuncId) : Prop := ∀ (a : Option Addr) (c : Nat) (w : World), Tabs w.heap.size w →
  Calls P g #[.slice a 0 c] w fun e w' => ∃ a', e = .returned (.slice a' 0 0) ∧ w.heap.size ≤ w'.heap.size ∧ (∀ b, b < w.heap.size → w'.heap[b]? = w.heap[b]?) ∧ Stl w w'
theorem cloS_of {g : FuncId} (h : ∀ a c, ∃ k H' fz, H'[k]? = some (.clo [] fz) ∧ SCtr P g [.one (.c (.v (.slice a 0 c)))] [] (.one (.sl k 0 0 0)) H') : CloS P g := fun a c w hT => by
  obtain ⟨k, H', fz, hk, hS⟩ := h a c
  let X : Cx := ⟨w.heap.size, w, fun _ => False, [], fun _ => ⟨none, none, 0, 0⟩, fun _ => False, w⟩
  have S : SR X := ⟨fun id e hd => hd.elim, fun i j b hi => hi.elim, Nat.le_refl _, fun _ _ => rfl, fun b hb => hb.elim, .refl w, hT⟩
  have M : Dom X := fun id hd => hd.elim
  refine (hS X S M rfl (fun id => ⟨fun h => h.elim, fun h => by simp at h⟩) [.slice a 0 c] ⟨rfl, fun j x y hx hy => ?_⟩).mono fun e w' hh => ?_
  · match j, hx, hy with
    | 0, hx, hy => cases hx; cases hy; exact .v _ rfl
  · obtain ⟨v, Y, rfl, rfl, N, hH, hD, hr⟩ := hh
    have hb : Y.base = w.heap.size := N.base
    have hw : Y.w0 = w := N.w0
    obtain ⟨_, hd, e0, he0, _, _, hp⟩ := hr
    rw [hH, hk] at he0
    cases he0
    obtain ⟨ad, cap, rfl, _, _, hc⟩ := hp rfl
    obtain ⟨_, hcap⟩ := hc rfl rfl
    have hent := N.sr.ent k _ hd (by rw [hH]; exact hk)
    have h0 : (Y.σ k).cap = 0 := by
      rcases hent.2 with h | ⟨b, c, ty, fr, _, _, _, _, _, h6, _⟩
      · exact h.2.2
      · exact absurd h6.1 (by simp)
    rw [h0] at hcap
    subst hcap
    refine ⟨ad, rfl, ?_, fun b hb' => ?_, ?_⟩
    · rw [← hb]; exact N.sr.size
    · have := N.sr.old b (by rw [hb]; exact hb')
      rw [hw] at this
      exact this
    · have := N.sr.kp
      rw [hw] at this
      exact this
theorem strCloTab_ok {s : FuncId} {cs : List FuncId} (hS : TOk P (strTab s)) (hC : ∀ g ∈ cs, FnOk P g ∧ CloS P g) : TOk P (strCloTab s cs) := by
  refine ⟨fun f args r h => (by cases h), fun f args H r H' h => ?_⟩
  simp only [strCloTab] at h
  split at h
  · rename_i hfs
    refine hS.2 f args H r H' ?_
    show (if f = s then sortSRun args H else none) = _
    rw [if_pos hfs]; exact h
  · split at h
    case isFalse => cases h
    rename_i hm
    unfold cloRun at h
    split at h
    case h_2 => cases h
    cases h
    obtain ⟨hf, hc⟩ := hC f hm
    refine ⟨⟨by simp, fun _ => List.prefix_append _ _⟩, hf, ?_⟩
    intro X S M hX hD vals hv
    have hv1 : vals.length = 1 := by rw [← hv.1]; rfl
    match vals, hv1 with
    | [v], _ =>
    have hr : RCell X (.c (.arr [])) v := hv.2 0 _ v rfl rfl
    cases hr with
    | arr l a c sz f hc' hs ha hr =>
    subst hX
    refine (hc a c X.w S.tabs).mono fun e w' hh => ?_
    obtain ⟨a', rfl, h1, h2, h3⟩ := hh
    have hK : ∀ (id : Nat) e, X.H[id]? = some e → (X.H ++ [Ent.clo [] false])[id]? = some e := fun id e he => by
      rw [List.getElem?_append_left (List.getElem?_eq_some_iff.1 he).1]; exact he
    have N1 := longer_nxt S M hK
    have hn : ¬ (longer X (X.H ++ [Ent.clo [] false])).D X.H.length := fun h => by
      have := (hD _).1 h
      omega
    obtain ⟨Y, rfl, hY, hs, _⟩ := SR.nil' N1.sr N1.dom X.H.length hn (f := false) (by show (X.H ++ [Ent.clo [] false])[X.H.length]? = _; simp) a' w' h1 h2 h3
    have hYH : Y.H = X.H ++ [Ent.clo [] false] := hY.ext.H
    have hYD : ∀ id, Y.D id ↔ id < (X.H ++ [Ent.clo [] false]).length := fun id => by
      rw [hY.D]
      show X.D id ∨ _ ↔ _
      rw [hD, List.length_append, List.length_singleton]
      omega
    refine ⟨_, Y, rfl, rfl, N1.trans (hY.nxt N1.sr), hYH, hYD, rfl, ?_, .clo [] false, ?_, Nat.le_refl _, Nat.zero_le _, fun _ => ⟨a', 0, rfl, Nat.le_refl _, fun h => absurd rfl h, fun _ _ => ⟨?_, ?_⟩⟩⟩
    · rw [hYD]; simp
    · rw [hYH]; simp
    · rw [hs]
    · rw [hs]
end Go.Proofs.Vm
end

section
/- Each function's run over the program's whole table. -/
namespace Go.Proofs.YtmgnmnogiajlgaaGreatF
open Go Go.Proofs.Vm
def shF (g : FuncId) : Bool := g == 53 || g == 27 || g == 28 || g == 85 || g == 87 || g == 88 || g == 67 || g == 109 || g == 29
def neF (g : FuncId) : Bool := g == 53 || g == 8 || g == 28 || g == 68
def lt14 : Nat → List Nat := fun r => if r = 27 then [7, 8, 10] else []
@[simp] theorem lt14_27 : lt14 27 = [7, 8, 10] := by decide
@[simp] theorem lt14_no {r : Nat} (h : ¬ r = 27) : lt14 r = [] := by unfold lt14; simp [h]
def lt37 : Nat → List Nat := fun r => if r = 10 then [5, 6, 7] else []
@[simp] theorem lt37_10 : lt37 10 = [5, 6, 7] := by decide
@[simp] theorem lt37_no {r : Nat} (h : ¬ r = 10) : lt37 r = [] := by unfold lt37; simp [h]
def lt43 : Nat → List Nat := fun r => if r = 6 then [9, 10, 11] else []
@[simp] theorem lt43_6 : lt43 6 = [9, 10, 11] := by decide
@[simp] theorem lt43_no {r : Nat} (h : ¬ r = 6) : lt43 r = [] := by unfold lt43; simp [h]
def ltF (f : FuncId) : Nat → List Nat := if f = 14 then lt14 else if f = 37 then lt37 else if f = 43 then lt43 else noLate
def cfg : Cfg := ⟨shF, neF, (strCloTab 29 [67, 27]), ltF⟩
noncomputable def TV : Tab := TT Tryz.prog cfg
@[simp] theorem TV_cb : TV.cb = false := rfl
@[simp] theorem sh29 : shF 29 = true := by decide
@[simp] theorem sh3 : shF 3 = false := by decide
theorem run3 {args : List CA} {r : CA} (hl : args.length ≤ 102) (h : wpV Tryz.prog TV ⟨102, shF, false, noLate⟩ (Tryz.f3.body.getD .skip) (endK Tryz.prog Tryz.f3.results.toList r) ⟨env0 args, []⟩) : TV.pu 3 args = some r := TT_go (N := ⟨102, shF, false, noLate⟩) Tryz.func3 (by kernel_rfl) ok3 (by kernel_rfl) (by kernel_rfl) (fun _ => rfl) hl h -- rillmeter/rillmeterlaw17.JointDecodes
@[simp] theorem sh4 : shF 4 = false := by decide
theorem run4 {args : List CA} {r : CA} (hl : args.length ≤ 153) (h : wpV Tryz.prog TV ⟨153, shF, false, noLate⟩ (Tryz.f4.body.getD .skip) (endK Tryz.prog Tryz.f4.results.toList r) ⟨env0 args, []⟩) : TV.pu 4 args = some r := TT_go (N := ⟨153, shF, false, noLate⟩) Tryz.func4 (by kernel_rfl) ok4 (by kernel_rfl) (by kernel_rfl) (fun _ => rfl) hl h -- rillmeter/rillmeterlaw17.JointCounts
@[simp] theorem sh5 : shF 5 = false := by decide
theorem run5 {args : List CA} {r : CA} (hl : args.length ≤ 121) (h : wpV Tryz.prog TV ⟨121, shF, false, noLate⟩ (Tryz.f5.body.getD .skip) (endK Tryz.prog Tryz.f5.results.toList r) ⟨env0 args, []⟩) : TV.pu 5 args = some r := TT_go (N := ⟨121, shF, false, noLate⟩) Tryz.func5 (by kernel_rfl) ok5 (by kernel_rfl) (by kernel_rfl) (fun _ => rfl) hl h -- rillmeter/rillmeterlaw17.JointReports
@[simp] theorem sh6 : shF 6 = false := by decide
theorem run6 {args : List CA} {r : CA} (hl : args.length ≤ 61) (h : wpV Tryz.prog TV ⟨61, shF, false, noLate⟩ (Tryz.f6.body.getD .skip) (endK Tryz.prog Tryz.f6.results.toList r) ⟨env0 args, []⟩) : TV.pu 6 args = some r := TT_go (N := ⟨61, shF, false, noLate⟩) Tryz.func6 (by kernel_rfl) ok6 (by kernel_rfl) (by kernel_rfl) (fun _ => rfl) hl h -- rillmeter/rillmeterlaw17.ref
@[simp] theorem sh7 : shF 7 = false := by decide
theorem run7 {args : List CA} {r : CA} (hl : args.length ≤ 60) (h : wpV Tryz.prog TV ⟨60, shF, false, noLate⟩ (Tryz.f7.body.getD .skip) (endK Tryz.prog Tryz.f7.results.toList r) ⟨env0 args, []⟩) : TV.pu 7 args = some r := TT_go (N := ⟨60, shF, false, noLate⟩) Tryz.func7 (by kernel_rfl) ok7 (by kernel_rfl) (by kernel_rfl) (fun _ => rfl) hl h -- rillmeter/rillmeterlaw17.awake
@[simp] theorem sh8 : shF 8 = false := by decide
theorem run8 {args : List CA} {r : CA} (hl : args.length ≤ 35) (h : wpV Tryz.prog TV ⟨35, shF, true, noLate⟩ (Tryz.f8.body.getD .skip) (endK Tryz.prog Tryz.f8.results.toList r) ⟨env0 args, []⟩) : TV.pu 8 args = some r := TT_go (N := ⟨35, shF, true, noLate⟩) Tryz.func8 (by kernel_rfl) ok8 (by kernel_rfl) (by kernel_rfl) (fun _ => rfl) hl h -- rillmeter/joint.Decode
@[simp] theorem sh9 : shF 9 = false := by decide
theorem run9 {args : List CA} {r : CA} (hl : args.length ≤ 19) (h : wpV Tryz.prog TV ⟨19, shF, false, noLate⟩ (Tryz.f9.body.getD .skip) (endK Tryz.prog Tryz.f9.results.toList r) ⟨env0 args, []⟩) : TV.pu 9 args = some r := TT_go (N := ⟨19, shF, false, noLate⟩) Tryz.func9 (by kernel_rfl) ok9 (by kernel_rfl) (by kernel_rfl) (fun _ => rfl) hl h -- rillmeter/rillmeterlaw17.right
@[simp] theorem sh10 : shF 10 = false := by decide
theorem run10 {args : List CA} {r : CA} (hl : args.length ≤ 94) (h : wpV Tryz.prog TV ⟨94, shF, false, noLate⟩ (Tryz.f10.body.getD .skip) (endK Tryz.prog Tryz.f10.results.toList r) ⟨env0 args, []⟩) : TV.pu 10 args = some r := TT_go (N := ⟨94, shF, false, noLate⟩) Tryz.func10 (by kernel_rfl) ok10 (by kernel_rfl) (by kernel_rfl) (fun _ => rfl) hl h -- rillmeter/rillmeterref17.Decode
@[simp] theorem sh11 : shF 11 = false := by decide
theorem run11 {args : List CA} {r : CA} (hl : args.length ≤ 26) (h : wpV Tryz.prog TV ⟨26, shF, false, noLate⟩ (Tryz.f11.body.getD .skip) (endK Tryz.prog Tryz.f11.results.toList r) ⟨env0 args, []⟩) : TV.pu 11 args = some r := TT_go (N := ⟨26, shF, false, noLate⟩) Tryz.func11 (by kernel_rfl) ok11 (by kernel_rfl) (by kernel_rfl) (fun _ => rfl) hl h -- rillmeter/rillmeterref16.Same
@[simp] theorem sh12 : shF 12 = false := by decide
theorem run12 {args : List CA} {r : CA} (hl : args.length ≤ 76) (h : wpV Tryz.prog TV ⟨76, shF, false, noLate⟩ (Tryz.f12.body.getD .skip) (endK Tryz.prog Tryz.f12.results.toList r) ⟨env0 args, []⟩) : TV.pu 12 args = some r := TT_go (N := ⟨76, shF, false, noLate⟩) Tryz.func12 (by kernel_rfl) ok12 (by kernel_rfl) (by kernel_rfl) (fun _ => rfl) hl h -- rillmeter/rillmeterref16.Equal
@[simp] theorem sh13 : shF 13 = false := by decide
theorem run13 {args : List CA} {r : CA} (hl : args.length ≤ 22) (h : wpV Tryz.prog TV ⟨22, shF, false, noLate⟩ (Tryz.f13.body.getD .skip) (endK Tryz.prog Tryz.f13.results.toList r) ⟨env0 args, []⟩) : TV.pu 13 args = some r := TT_go (N := ⟨22, shF, false, noLate⟩) Tryz.func13 (by kernel_rfl) ok13 (by kernel_rfl) (by kernel_rfl) (fun _ => rfl) hl h -- rillmeter/rillmeterref10.Short
@[simp] theorem sh14 : shF 14 = false := by decide
theorem run14 {args : List CA} {r : CA} (hl : args.length ≤ 172) (h : wpV Tryz.prog TV ⟨172, shF, false, lt14⟩ (Tryz.f14.body.getD .skip) (endK Tryz.prog Tryz.f14.results.toList r) ⟨env0 args, []⟩) : TV.pu 14 args = some r := TT_go (N := ⟨172, shF, false, lt14⟩) Tryz.func14 (by kernel_rfl) ok14 (by kernel_rfl) (by kernel_rfl) (fun _ => rfl) hl h -- rillmeter/joint.Counts
@[simp] theorem sh15 : shF 15 = false := by decide
theorem run15 {args : List CA} {r : CA} (hl : args.length ≤ 74) (h : wpV Tryz.prog TV ⟨74, shF, false, noLate⟩ (Tryz.f15.body.getD .skip) (endK Tryz.prog Tryz.f15.results.toList r) ⟨env0 args, []⟩) : TV.pu 15 args = some r := TT_go (N := ⟨74, shF, false, noLate⟩) Tryz.func15 (by kernel_rfl) ok15 (by kernel_rfl) (by kernel_rfl) (fun _ => rfl) hl h -- rillmeter/rillmeterref16.Right
@[simp] theorem sh16 : shF 16 = false := by decide
theorem run16 {args : List CA} {r : CA} (hl : args.length ≤ 32) (h : wpV Tryz.prog TV ⟨32, shF, false, noLate⟩ (Tryz.f16.body.getD .skip) (endK Tryz.prog Tryz.f16.results.toList r) ⟨env0 args, []⟩) : TV.pu 16 args = some r := TT_go (N := ⟨32, shF, false, noLate⟩) Tryz.func16 (by kernel_rfl) ok16 (by kernel_rfl) (by kernel_rfl) (fun _ => rfl) hl h -- rillmeter/rillmeterref17.Right
@[simp] theorem sh17 : shF 17 = false := by decide
theorem run17 {args : List CA} {r : CA} (hl : args.length ≤ 84) (h : wpV Tryz.prog TV ⟨84, shF, false, noLate⟩ (Tryz.f17.body.getD .skip) (endK Tryz.prog Tryz.f17.results.toList r) ⟨env0 args, []⟩) : TV.pu 17 args = some r := TT_go (N := ⟨84, shF, false, noLate⟩) Tryz.func17 (by kernel_rfl) ok17 (by kernel_rfl) (by kernel_rfl) (fun _ => rfl) hl h -- rillmeter/rillmeterref17.Rows
@[simp] theorem sh18 : shF 18 = false := by decide
theorem run18 {args : List CA} {r : CA} (hl : args.length ≤ 19) (h : wpV Tryz.prog TV ⟨19, shF, false, noLate⟩ (Tryz.f18.body.getD .skip) (endK Tryz.prog Tryz.f18.results.toList r) ⟨env0 args, []⟩) : TV.pu 18 args = some r := TT_go (N := ⟨19, shF, false, noLate⟩) Tryz.func18 (by kernel_rfl) ok18 (by kernel_rfl) (by kernel_rfl) (fun _ => rfl) hl h -- rillmeter/rillmeterref17.Error
@[simp] theorem sh19 : shF 19 = false := by decide
theorem run19 {args : List CA} {r : CA} (hl : args.length ≤ 93) (h : wpV Tryz.prog TV ⟨93, shF, false, noLate⟩ (Tryz.f19.body.getD .skip) (endK Tryz.prog Tryz.f19.results.toList r) ⟨env0 args, []⟩) : TV.pu 19 args = some r := TT_go (N := ⟨93, shF, false, noLate⟩) Tryz.func19 (by kernel_rfl) ok19 (by kernel_rfl) (by kernel_rfl) (fun _ => rfl) hl h -- rillmeter/rillmeterref17.Holds
@[simp] theorem sh20 : shF 20 = false := by decide
theorem run20 {args : List CA} {r : CA} (hl : args.length ≤ 56) (h : wpV Tryz.prog TV ⟨56, shF, false, noLate⟩ (Tryz.f20.body.getD .skip) (endK Tryz.prog Tryz.f20.results.toList r) ⟨env0 args, []⟩) : TV.pu 20 args = some r := TT_go (N := ⟨56, shF, false, noLate⟩) Tryz.func20 (by kernel_rfl) ok20 (by kernel_rfl) (by kernel_rfl) (fun _ => rfl) hl h -- rillmeter/joint.Reports
@[simp] theorem sh21 : shF 21 = false := by decide
theorem run21 {args : List CA} {r : CA} (hl : args.length ≤ 41) (h : wpV Tryz.prog TV ⟨41, shF, false, noLate⟩ (Tryz.f21.body.getD .skip) (endK Tryz.prog Tryz.f21.results.toList r) ⟨env0 args, []⟩) : TV.pu 21 args = some r := TT_go (N := ⟨41, shF, false, noLate⟩) Tryz.func21 (by kernel_rfl) ok21 (by kernel_rfl) (by kernel_rfl) (fun _ => rfl) hl h -- rillmeter/rillmeterref16.Empty
@[simp] theorem sh22 : shF 22 = false := by decide
theorem run22 {args : List CA} {r : CA} (hl : args.length ≤ 52) (h : wpV Tryz.prog TV ⟨52, shF, false, noLate⟩ (Tryz.f22.body.getD .skip) (endK Tryz.prog Tryz.f22.results.toList r) ⟨env0 args, []⟩) : TV.pu 22 args = some r := TT_go (N := ⟨52, shF, false, noLate⟩) Tryz.func22 (by kernel_rfl) ok22 (by kernel_rfl) (by kernel_rfl) (fun _ => rfl) hl h -- rillmeter/rillmeterref16.Small
@[simp] theorem sh23 : shF 23 = false := by decide
theorem run23 {args : List CA} {r : CA} (hl : args.length ≤ 59) (h : wpV Tryz.prog TV ⟨59, shF, false, noLate⟩ (Tryz.f23.body.getD .skip) (endK Tryz.prog Tryz.f23.results.toList r) ⟨env0 args, []⟩) : TV.pu 23 args = some r := TT_go (N := ⟨59, shF, false, noLate⟩) Tryz.func23 (by kernel_rfl) ok23 (by kernel_rfl) (by kernel_rfl) (fun _ => rfl) hl h -- rillmeter/radar.New
@[simp] theorem sh24 : shF 24 = false := by decide
theorem run24 {args : List CA} {r : CA} (hl : args.length ≤ 89) (h : wpV Tryz.prog TV ⟨89, shF, false, noLate⟩ (Tryz.f24.body.getD .skip) (endK Tryz.prog Tryz.f24.results.toList r) ⟨env0 args, []⟩) : TV.pu 24 args = some r := TT_go (N := ⟨89, shF, false, noLate⟩) Tryz.func24 (by kernel_rfl) ok24 (by kernel_rfl) (by kernel_rfl) (fun _ => rfl) hl h -- rillmeter/radar.Add
@[simp] theorem sh25 : shF 25 = false := by decide
theorem run25 {args : List CA} {r : CA} (hl : args.length ≤ 9) (h : wpV Tryz.prog TV ⟨9, shF, false, noLate⟩ (Tryz.f25.body.getD .skip) (endK Tryz.prog Tryz.f25.results.toList r) ⟨env0 args, []⟩) : TV.pu 25 args = some r := TT_go (N := ⟨9, shF, false, noLate⟩) Tryz.func25 (by kernel_rfl) ok25 (by kernel_rfl) (by kernel_rfl) (fun _ => rfl) hl h -- slices.ContainsFunc[[]rillmeter/radar.Radar,rillmeter/radar.Radar]
@[simp] theorem sh26 : shF 26 = false := by decide
theorem run26 {args : List CA} {r : CA} (hl : args.length ≤ 6) (h : wpV Tryz.prog TV ⟨6, shF, false, noLate⟩ (Tryz.f26.body.getD .skip) (endK Tryz.prog Tryz.f26.results.toList r) ⟨env0 args, []⟩) : TV.pu 26 args = some r := TT_go (N := ⟨6, shF, false, noLate⟩) Tryz.func26 (by kernel_rfl) ok26 (by kernel_rfl) (by kernel_rfl) (fun _ => rfl) hl h -- rillmeter/joint.wrong
@[simp] theorem sh27 : shF 27 = true := by decide
@[simp] theorem cl27 : isCl Tryz.prog 27 = true := by kernel_rfl
theorem run27 {args : List AV} {r : AV} {H H' : Hp} (hb : cfg.base.S 27 args H = none) (hl : args.length ≤ 8) (hH : Gr Tryz.prog 27 H H') (h : wpV Tryz.prog TV ⟨8, shF, false, noLate⟩ (Tryz.f27.body.getD .skip) (endS Tryz.prog Tryz.f27.results.toList r H') ⟨envS args, H⟩) : TV.S 27 args H = some (r, H') := TT_goS (N := ⟨8, shF, false, noLate⟩) Tryz.func27 (by kernel_rfl) ok27 (by kernel_rfl) (by kernel_rfl) hb hl hH h -- slices.Clone[[]rillmeter/radar.Radar,rillmeter/radar.Radar]
@[simp] theorem sh28 : shF 28 = true := by decide
@[simp] theorem cl28 : isCl Tryz.prog 28 = false := by kernel_rfl
theorem runX28 {args : List AV} {H : Hp} {Q : AV → Hp → Prop} (hl : args.length ≤ 72) (hQ : ∀ a K, Q a K → H.length ≤ K.length) (h : wpV Tryz.prog TV ⟨72, shF, true, noLate⟩ (Tryz.f28.body.getD .skip) (endX Tryz.prog Tryz.f28.results.toList Q) ⟨envS args, H⟩) : ∃ a K, TV.S 28 args H = some (a, K) ∧ Q a K := TT_goX (N := ⟨72, shF, true, noLate⟩) Tryz.func28 (by kernel_rfl) ok28 (by kernel_rfl) (by kernel_rfl) rfl hl (by kernel_rfl) hQ h -- rillmeter/joint.round
theorem run28 {args : List AV} {r : AV} {H H' : Hp} (hl : args.length ≤ 72) (hH : Gr Tryz.prog 28 H H') (h : wpV Tryz.prog TV ⟨72, shF, true, noLate⟩ (Tryz.f28.body.getD .skip) (endS Tryz.prog Tryz.f28.results.toList r H') ⟨envS args, H⟩) : TV.S 28 args H = some (r, H') := TT_goS (N := ⟨72, shF, true, noLate⟩) Tryz.func28 (by kernel_rfl) ok28 (by kernel_rfl) (by kernel_rfl) rfl hl hH h -- rillmeter/joint.round
@[simp] theorem sh30 : shF 30 = false := by decide
theorem run30 {args : List CA} {r : CA} (hl : args.length ≤ 59) (h : wpV Tryz.prog TV ⟨59, shF, false, noLate⟩ (Tryz.f30.body.getD .skip) (endK Tryz.prog Tryz.f30.results.toList r) ⟨env0 args, []⟩) : TV.pu 30 args = some r := TT_go (N := ⟨59, shF, false, noLate⟩) Tryz.func30 (by kernel_rfl) ok30 (by kernel_rfl) (by kernel_rfl) (fun _ => rfl) hl h -- rillmeter/rillmeterref16.Pure
@[simp] theorem sh31 : shF 31 = false := by decide
theorem run31 {args : List CA} {r : CA} (hl : args.length ≤ 18) (h : wpV Tryz.prog TV ⟨18, shF, false, noLate⟩ (Tryz.f31.body.getD .skip) (endK Tryz.prog Tryz.f31.results.toList r) ⟨env0 args, []⟩) : TV.pu 31 args = some r := TT_go (N := ⟨18, shF, false, noLate⟩) Tryz.func31 (by kernel_rfl) ok31 (by kernel_rfl) (by kernel_rfl) (fun _ => rfl) hl h -- rillmeter/rillmeterref16.In
@[simp] theorem sh32 : shF 32 = false := by decide
theorem run32 {args : List CA} {r : CA} (hl : args.length ≤ 29) (h : wpV Tryz.prog TV ⟨29, shF, false, noLate⟩ (Tryz.f32.body.getD .skip) (endK Tryz.prog Tryz.f32.results.toList r) ⟨env0 args, []⟩) : TV.pu 32 args = some r := TT_go (N := ⟨29, shF, false, noLate⟩) Tryz.func32 (by kernel_rfl) ok32 (by kernel_rfl) (by kernel_rfl) (fun _ => rfl) hl h -- rillmeter/rillmeterref10.Has
@[simp] theorem sh33 : shF 33 = false := by decide
theorem run33 {args : List CA} {r : CA} (hl : args.length ≤ 42) (h : wpV Tryz.prog TV ⟨42, shF, false, noLate⟩ (Tryz.f33.body.getD .skip) (endK Tryz.prog Tryz.f33.results.toList r) ⟨env0 args, []⟩) : TV.pu 33 args = some r := TT_go (N := ⟨42, shF, false, noLate⟩) Tryz.func33 (by kernel_rfl) ok33 (by kernel_rfl) (by kernel_rfl) (fun _ => rfl) hl h -- rillmeter/rillmeterref16.Put
@[simp] theorem sh34 : shF 34 = false := by decide
theorem run34 {args : List CA} {r : CA} (hl : args.length ≤ 8) (h : wpV Tryz.prog TV ⟨8, shF, false, noLate⟩ (Tryz.f34.body.getD .skip) (endK Tryz.prog Tryz.f34.results.toList r) ⟨env0 args, []⟩) : TV.pu 34 args = some r := TT_go (N := ⟨8, shF, false, noLate⟩) Tryz.func34 (by kernel_rfl) ok34 (by kernel_rfl) (by kernel_rfl) (fun _ => rfl) hl h -- rillmeter/rillmeterref16.Remove
@[simp] theorem sh35 : shF 35 = false := by decide
theorem run35 {args : List CA} {r : CA} (hl : args.length ≤ 45) (h : wpV Tryz.prog TV ⟨45, shF, false, noLate⟩ (Tryz.f35.body.getD .skip) (endK Tryz.prog Tryz.f35.results.toList r) ⟨env0 args, []⟩) : TV.pu 35 args = some r := TT_go (N := ⟨45, shF, false, noLate⟩) Tryz.func35 (by kernel_rfl) ok35 (by kernel_rfl) (by kernel_rfl) (fun _ => rfl) hl h -- rillmeter/rillmeterref10.Equal
@[simp] theorem sh36 : shF 36 = false := by decide
theorem run36 {args : List CA} {r : CA} (hl : args.length ≤ 30) (h : wpV Tryz.prog TV ⟨30, shF, false, noLate⟩ (Tryz.f36.body.getD .skip) (endK Tryz.prog Tryz.f36.results.toList r) ⟨env0 args, []⟩) : TV.pu 36 args = some r := TT_go (N := ⟨30, shF, false, noLate⟩) Tryz.func36 (by kernel_rfl) ok36 (by kernel_rfl) (by kernel_rfl) (fun _ => rfl) hl h -- rillmeter/radar.Place
@[simp] theorem sh37 : shF 37 = false := by decide
theorem run37 {args : List CA} {r : CA} (hl : args.length ≤ 93) (h : wpV Tryz.prog TV ⟨93, shF, false, lt37⟩ (Tryz.f37.body.getD .skip) (endK Tryz.prog Tryz.f37.results.toList r) ⟨env0 args, []⟩) : TV.pu 37 args = some r := TT_go (N := ⟨93, shF, false, lt37⟩) Tryz.func37 (by kernel_rfl) ok37 (by kernel_rfl) (by kernel_rfl) (fun _ => rfl) hl h -- rillmeter/solve.Solve
@[simp] theorem sh38 : shF 38 = false := by decide
theorem run38 {args : List CA} {r : CA} (hl : args.length ≤ 23) (h : wpV Tryz.prog TV ⟨23, shF, false, noLate⟩ (Tryz.f38.body.getD .skip) (endK Tryz.prog Tryz.f38.results.toList r) ⟨env0 args, []⟩) : TV.pu 38 args = some r := TT_go (N := ⟨23, shF, false, noLate⟩) Tryz.func38 (by kernel_rfl) ok38 (by kernel_rfl) (by kernel_rfl) (fun _ => rfl) hl h -- rillmeter/rillmeterref10.Right
@[simp] theorem sh39 : shF 39 = false := by decide
theorem run39 {args : List CA} {r : CA} (hl : args.length ≤ 17) (h : wpV Tryz.prog TV ⟨17, shF, false, noLate⟩ (Tryz.f39.body.getD .skip) (endK Tryz.prog Tryz.f39.results.toList r) ⟨env0 args, []⟩) : TV.pu 39 args = some r := TT_go (N := ⟨17, shF, false, noLate⟩) Tryz.func39 (by kernel_rfl) ok39 (by kernel_rfl) (by kernel_rfl) (fun _ => rfl) hl h -- rillmeter/rillmeterref02.Row
@[simp] theorem sh40 : shF 40 = false := by decide
theorem run40 {args : List CA} {r : CA} (hl : args.length ≤ 37) (h : wpV Tryz.prog TV ⟨37, shF, false, noLate⟩ (Tryz.f40.body.getD .skip) (endK Tryz.prog Tryz.f40.results.toList r) ⟨env0 args, []⟩) : TV.pu 40 args = some r := TT_go (N := ⟨37, shF, false, noLate⟩) Tryz.func40 (by kernel_rfl) ok40 (by kernel_rfl) (by kernel_rfl) (fun _ => rfl) hl h -- rillmeter/rillmeterref16.cell
@[simp] theorem sh41 : shF 41 = false := by decide
theorem run41 {args : List CA} {r : CA} (hl : args.length ≤ 20) (h : wpV Tryz.prog TV ⟨20, shF, false, noLate⟩ (Tryz.f41.body.getD .skip) (endK Tryz.prog Tryz.f41.results.toList r) ⟨env0 args, []⟩) : TV.pu 41 args = some r := TT_go (N := ⟨20, shF, false, noLate⟩) Tryz.func41 (by kernel_rfl) ok41 (by kernel_rfl) (by kernel_rfl) (fun _ => rfl) hl h -- rillmeter/rillmeterref16.Place
@[simp] theorem sh42 : shF 42 = false := by decide
theorem run42 {args : List CA} {r : CA} (hl : args.length ≤ 6) (h : wpV Tryz.prog TV ⟨6, shF, false, noLate⟩ (Tryz.f42.body.getD .skip) (endK Tryz.prog Tryz.f42.results.toList r) ⟨env0 args, []⟩) : TV.pu 42 args = some r := TT_go (N := ⟨6, shF, false, noLate⟩) Tryz.func42 (by kernel_rfl) ok42 (by kernel_rfl) (by kernel_rfl) (fun _ => rfl) hl h -- rillmeter/rillmeterref03.Rank
@[simp] theorem sh43 : shF 43 = false := by decide
theorem run43 {args : List CA} {r : CA} (hl : args.length ≤ 30) (h : wpV Tryz.prog TV ⟨30, shF, false, lt43⟩ (Tryz.f43.body.getD .skip) (endK Tryz.prog Tryz.f43.results.toList r) ⟨env0 args, []⟩) : TV.pu 43 args = some r := TT_go (N := ⟨30, shF, false, lt43⟩) Tryz.func43 (by kernel_rfl) ok43 (by kernel_rfl) (by kernel_rfl) (fun _ => rfl) hl h -- rillmeter/rillmeterref03.Wide
@[simp] theorem sh44 : shF 44 = false := by decide
theorem run44 {args : List CA} {r : CA} (hl : args.length ≤ 28) (h : wpV Tryz.prog TV ⟨28, shF, false, noLate⟩ (Tryz.f44.body.getD .skip) (endK Tryz.prog Tryz.f44.results.toList r) ⟨env0 args, []⟩) : TV.pu 44 args = some r := TT_go (N := ⟨28, shF, false, noLate⟩) Tryz.func44 (by kernel_rfl) ok44 (by kernel_rfl) (by kernel_rfl) (fun _ => rfl) hl h -- rillmeter/rillmeterref03.Same
@[simp] theorem sh45 : shF 45 = false := by decide
theorem run45 {args : List CA} {r : CA} (hl : args.length ≤ 40) (h : wpV Tryz.prog TV ⟨40, shF, false, noLate⟩ (Tryz.f45.body.getD .skip) (endK Tryz.prog Tryz.f45.results.toList r) ⟨env0 args, []⟩) : TV.pu 45 args = some r := TT_go (N := ⟨40, shF, false, noLate⟩) Tryz.func45 (by kernel_rfl) ok45 (by kernel_rfl) (by kernel_rfl) (fun _ => rfl) hl h -- rillmeter/rillmeterref03.Times
@[simp] theorem sh46 : shF 46 = false := by decide
theorem run46 {args : List CA} {r : CA} (hl : args.length ≤ 11) (h : wpV Tryz.prog TV ⟨11, shF, false, noLate⟩ (Tryz.f46.body.getD .skip) (endK Tryz.prog Tryz.f46.results.toList r) ⟨env0 args, []⟩) : TV.pu 46 args = some r := TT_go (N := ⟨11, shF, false, noLate⟩) Tryz.func46 (by kernel_rfl) ok46 (by kernel_rfl) (by kernel_rfl) (fun _ => rfl) hl h -- rillmeter/radar.Empty
@[simp] theorem sh47 : shF 47 = false := by decide
theorem run47 {args : List CA} {r : CA} (hl : args.length ≤ 26) (h : wpV Tryz.prog TV ⟨26, shF, false, noLate⟩ (Tryz.f47.body.getD .skip) (endK Tryz.prog Tryz.f47.results.toList r) ⟨env0 args, []⟩) : TV.pu 47 args = some r := TT_go (N := ⟨26, shF, false, noLate⟩) Tryz.func47 (by kernel_rfl) ok47 (by kernel_rfl) (by kernel_rfl) (fun _ => rfl) hl h -- rillmeter/bloom.New
@[simp] theorem sh48 : shF 48 = false := by decide
theorem run48 {args : List CA} {r : CA} (hl : args.length ≤ 17) (h : wpV Tryz.prog TV ⟨17, shF, false, noLate⟩ (Tryz.f48.body.getD .skip) (endK Tryz.prog Tryz.f48.results.toList r) ⟨env0 args, []⟩) : TV.pu 48 args = some r := TT_go (N := ⟨17, shF, false, noLate⟩) Tryz.func48 (by kernel_rfl) ok48 (by kernel_rfl) (by kernel_rfl) (fun _ => rfl) hl h -- rillmeter/hash.Row
@[simp] theorem sh49 : shF 49 = false := by decide
theorem run49 {args : List CA} {r : CA} (hl : args.length ≤ 48) (h : wpV Tryz.prog TV ⟨48, shF, false, noLate⟩ (Tryz.f49.body.getD .skip) (endK Tryz.prog Tryz.f49.results.toList r) ⟨env0 args, []⟩) : TV.pu 49 args = some r := TT_go (N := ⟨48, shF, false, noLate⟩) Tryz.func49 (by kernel_rfl) ok49 (by kernel_rfl) (by kernel_rfl) (fun _ => rfl) hl h -- slices.Repeat[[]rillmeter/radar.Cell,rillmeter/radar.Cell]
@[simp] theorem sh50 : shF 50 = false := by decide
theorem run50 {args : List CA} {r : CA} (hl : args.length ≤ 33) (h : wpV Tryz.prog TV ⟨33, shF, false, noLate⟩ (Tryz.f50.body.getD .skip) (endK Tryz.prog Tryz.f50.results.toList r) ⟨env0 args, []⟩) : TV.pu 50 args = some r := TT_go (N := ⟨33, shF, false, noLate⟩) Tryz.func50 (by kernel_rfl) ok50 (by kernel_rfl) (by kernel_rfl) (fun _ => rfl) hl h -- rillmeter/radar.Right
@[simp] theorem sh51 : shF 51 = false := by decide
theorem run51 {args : List CA} {r : CA} (hl : args.length ≤ 9) (h : wpV Tryz.prog TV ⟨9, shF, false, noLate⟩ (Tryz.f51.body.getD .skip) (endK Tryz.prog Tryz.f51.results.toList r) ⟨env0 args, []⟩) : TV.pu 51 args = some r := TT_go (N := ⟨9, shF, false, noLate⟩) Tryz.func51 (by kernel_rfl) ok51 (by kernel_rfl) (by kernel_rfl) (fun _ => rfl) hl h -- rillmeter/radar.fits
@[simp] theorem sh52 : shF 52 = false := by decide
theorem run52 {args : List CA} {r : CA} (hl : args.length ≤ 15) (h : wpV Tryz.prog TV ⟨15, shF, false, noLate⟩ (Tryz.f52.body.getD .skip) (endK Tryz.prog Tryz.f52.results.toList r) ⟨env0 args, []⟩) : TV.pu 52 args = some r := TT_go (N := ⟨15, shF, false, noLate⟩) Tryz.func52 (by kernel_rfl) ok52 (by kernel_rfl) (by kernel_rfl) (fun _ => rfl) hl h -- rillmeter/bloom.Has
@[simp] theorem sh53 : shF 53 = true := by decide
@[simp] theorem cl53 : isCl Tryz.prog 53 = false := by kernel_rfl
theorem runX53 {args : List AV} {H : Hp} {Q : AV → Hp → Prop} (hl : args.length ≤ 27) (hQ : ∀ a K, Q a K → H.length ≤ K.length) (h : wpV Tryz.prog TV ⟨27, shF, true, noLate⟩ (Tryz.f53.body.getD .skip) (endX Tryz.prog Tryz.f53.results.toList Q) ⟨envS args, H⟩) : ∃ a K, TV.S 53 args H = some (a, K) ∧ Q a K := TT_goX (N := ⟨27, shF, true, noLate⟩) Tryz.func53 (by kernel_rfl) ok53 (by kernel_rfl) (by kernel_rfl) rfl hl (by kernel_rfl) hQ h -- rillmeter/radar.clone
theorem run53 {args : List AV} {r : AV} {H H' : Hp} (hl : args.length ≤ 27) (hH : Gr Tryz.prog 53 H H') (h : wpV Tryz.prog TV ⟨27, shF, true, noLate⟩ (Tryz.f53.body.getD .skip) (endS Tryz.prog Tryz.f53.results.toList r H') ⟨envS args, H⟩) : TV.S 53 args H = some (r, H') := TT_goS (N := ⟨27, shF, true, noLate⟩) Tryz.func53 (by kernel_rfl) ok53 (by kernel_rfl) (by kernel_rfl) rfl hl hH h -- rillmeter/radar.clone
@[simp] theorem sh54 : shF 54 = false := by decide
theorem run54 {args : List CA} {r : CA} (hl : args.length ≤ 25) (h : wpV Tryz.prog TV ⟨25, shF, false, noLate⟩ (Tryz.f54.body.getD .skip) (endK Tryz.prog Tryz.f54.results.toList r) ⟨env0 args, []⟩) : TV.pu 54 args = some r := TT_go (N := ⟨25, shF, false, noLate⟩) Tryz.func54 (by kernel_rfl) ok54 (by kernel_rfl) (by kernel_rfl) (fun _ => rfl) hl h -- rillmeter/bloom.Add
@[simp] theorem sh55 : shF 55 = false := by decide
theorem run55 {args : List CA} {r : CA} (hl : args.length ≤ 20) (h : wpV Tryz.prog TV ⟨20, shF, false, noLate⟩ (Tryz.f55.body.getD .skip) (endK Tryz.prog Tryz.f55.results.toList r) ⟨env0 args, []⟩) : TV.pu 55 args = some r := TT_go (N := ⟨20, shF, false, noLate⟩) Tryz.func55 (by kernel_rfl) ok55 (by kernel_rfl) (by kernel_rfl) (fun _ => rfl) hl h -- (rillmeter/radar.Radar).place
@[simp] theorem sh56 : shF 56 = false := by decide
theorem run56 {args : List CA} {r : CA} (hl : args.length ≤ 26) (h : wpV Tryz.prog TV ⟨26, shF, false, noLate⟩ (Tryz.f56.body.getD .skip) (endK Tryz.prog Tryz.f56.results.toList r) ⟨env0 args, []⟩) : TV.pu 56 args = some r := TT_go (N := ⟨26, shF, false, noLate⟩) Tryz.func56 (by kernel_rfl) ok56 (by kernel_rfl) (by kernel_rfl) (fun _ => rfl) hl h -- rillmeter/radar.xor
@[simp] theorem sh57 : shF 57 = false := by decide
theorem run57 {args : List CA} {r : CA} (hl : args.length ≤ 29) (h : wpV Tryz.prog TV ⟨29, shF, false, noLate⟩ (Tryz.f57.body.getD .skip) (endK Tryz.prog Tryz.f57.results.toList r) ⟨env0 args, []⟩) : TV.pu 57 args = some r := TT_go (N := ⟨29, shF, false, noLate⟩) Tryz.func57 (by kernel_rfl) ok57 (by kernel_rfl) (by kernel_rfl) (fun _ => rfl) hl h -- rillmeter/radar.wrong
@[simp] theorem sh58 : shF 58 = false := by decide
theorem run58 {args : List CA} {r : CA} (hl : args.length ≤ 19) (h : wpV Tryz.prog TV ⟨19, shF, false, noLate⟩ (Tryz.f58.body.getD .skip) (endK Tryz.prog Tryz.f58.results.toList r) ⟨env0 args, []⟩) : TV.pu 58 args = some r := TT_go (N := ⟨19, shF, false, noLate⟩) Tryz.func58 (by kernel_rfl) ok58 (by kernel_rfl) (by kernel_rfl) (fun _ => rfl) hl h -- slices.IndexFunc[[]rillmeter/radar.Radar,rillmeter/radar.Radar]
@[simp] theorem sh59 : shF 59 = false := by decide
theorem run59 {args : List CA} {r : CA} (hl : args.length ≤ 58) (h : wpV Tryz.prog TV ⟨58, shF, false, noLate⟩ (Tryz.f59.body.getD .skip) (endK Tryz.prog Tryz.f59.results.toList r) ⟨env0 args, []⟩) : TV.pu 59 args = some r := TT_go (N := ⟨58, shF, false, noLate⟩) Tryz.func59 (by kernel_rfl) ok59 (by kernel_rfl) (by kernel_rfl) (fun _ => rfl) hl h -- rillmeter/radar.Pure
@[simp] theorem sh60 : shF 60 = false := by decide
theorem run60 {args : List CA} {r : CA} (hl : args.length ≤ 9) (h : wpV Tryz.prog TV ⟨9, shF, false, noLate⟩ (Tryz.f60.body.getD .skip) (endK Tryz.prog Tryz.f60.results.toList r) ⟨env0 args, []⟩) : TV.pu 60 args = some r := TT_go (N := ⟨9, shF, false, noLate⟩) Tryz.func60 (by kernel_rfl) ok60 (by kernel_rfl) (by kernel_rfl) (fun _ => rfl) hl h -- slices.Contains[[]string,string]
@[simp] theorem sh61 : shF 61 = false := by decide
theorem run61 {args : List CA} {r : CA} (hl : args.length ≤ 57) (h : wpV Tryz.prog TV ⟨57, shF, false, noLate⟩ (Tryz.f61.body.getD .skip) (endK Tryz.prog Tryz.f61.results.toList r) ⟨env0 args, []⟩) : TV.pu 61 args = some r := TT_go (N := ⟨57, shF, false, noLate⟩) Tryz.func61 (by kernel_rfl) ok61 (by kernel_rfl) (by kernel_rfl) (fun _ => rfl) hl h -- rillmeter/radar.Remove
@[simp] theorem sh62 : shF 62 = false := by decide
@[simp] theorem sh63 : shF 63 = false := by decide
@[simp] theorem sh64 : shF 64 = false := by decide
theorem run64 {args : List CA} {r : CA} (hl : args.length ≤ 29) (h : wpV Tryz.prog TV ⟨29, shF, false, noLate⟩ (Tryz.f64.body.getD .skip) (endK Tryz.prog Tryz.f64.results.toList r) ⟨env0 args, []⟩) : TV.pu 64 args = some r := TT_go (N := ⟨29, shF, false, noLate⟩) Tryz.func64 (by kernel_rfl) ok64 (by kernel_rfl) (by kernel_rfl) (fun _ => rfl) hl h -- rillmeter/rillmeterref10.at
@[simp] theorem sh65 : shF 65 = false := by decide
theorem run65 {args : List CA} {r : CA} (hl : args.length ≤ 87) (h : wpV Tryz.prog TV ⟨87, shF, false, noLate⟩ (Tryz.f65.body.getD .skip) (endK Tryz.prog Tryz.f65.results.toList r) ⟨env0 args, []⟩) : TV.pu 65 args = some r := TT_go (N := ⟨87, shF, false, noLate⟩) Tryz.func65 (by kernel_rfl) ok65 (by kernel_rfl) (by kernel_rfl) (fun _ => rfl) hl h -- rillmeter/rillmeterref16.turn
@[simp] theorem sh66 : shF 66 = false := by decide
theorem run66 {args : List CA} {r : CA} (hl : args.length ≤ 12) (h : wpV Tryz.prog TV ⟨12, shF, false, noLate⟩ (Tryz.f66.body.getD .skip) (endK Tryz.prog Tryz.f66.results.toList r) ⟨env0 args, []⟩) : TV.pu 66 args = some r := TT_go (N := ⟨12, shF, false, noLate⟩) Tryz.func66 (by kernel_rfl) ok66 (by kernel_rfl) (by kernel_rfl) (fun _ => rfl) hl h -- rillmeter/solve.even
@[simp] theorem sh67 : shF 67 = true := by decide
@[simp] theorem cl67 : isCl Tryz.prog 67 = true := by kernel_rfl
theorem run67 {args : List AV} {r : AV} {H H' : Hp} (hb : cfg.base.S 67 args H = none) (hl : args.length ≤ 8) (hH : Gr Tryz.prog 67 H H') (h : wpV Tryz.prog TV ⟨8, shF, false, noLate⟩ (Tryz.f67.body.getD .skip) (endS Tryz.prog Tryz.f67.results.toList r H') ⟨envS args, H⟩) : TV.S 67 args H = some (r, H') := TT_goS (N := ⟨8, shF, false, noLate⟩) Tryz.func67 (by kernel_rfl) ok67 (by kernel_rfl) (by kernel_rfl) hb hl hH h -- slices.Clone[[]uint64,uint64]
@[simp] theorem sh68 : shF 68 = false := by decide
theorem run68 {args : List CA} {r : CA} (hl : args.length ≤ 197) (h : wpV Tryz.prog TV ⟨197, shF, true, noLate⟩ (Tryz.f68.body.getD .skip) (endK Tryz.prog Tryz.f68.results.toList r) ⟨env0 args, []⟩) : TV.pu 68 args = some r := TT_go (N := ⟨197, shF, true, noLate⟩) Tryz.func68 (by kernel_rfl) ok68 (by kernel_rfl) (by kernel_rfl) (fun _ => rfl) hl h -- rillmeter/solve.clear
@[simp] theorem sh69 : shF 69 = false := by decide
theorem run69 {args : List CA} {r : CA} (hl : args.length ≤ 26) (h : wpV Tryz.prog TV ⟨26, shF, false, noLate⟩ (Tryz.f69.body.getD .skip) (endK Tryz.prog Tryz.f69.results.toList r) ⟨env0 args, []⟩) : TV.pu 69 args = some r := TT_go (N := ⟨26, shF, false, noLate⟩) Tryz.func69 (by kernel_rfl) ok69 (by kernel_rfl) (by kernel_rfl) (fun _ => rfl) hl h -- rillmeter/rillmeterref01.Mul
@[simp] theorem sh70 : shF 70 = false := by decide
theorem run70 {args : List CA} {r : CA} (hl : args.length ≤ 11) (h : wpV Tryz.prog TV ⟨11, shF, false, noLate⟩ (Tryz.f70.body.getD .skip) (endK Tryz.prog Tryz.f70.results.toList r) ⟨env0 args, []⟩) : TV.pu 70 args = some r := TT_go (N := ⟨11, shF, false, noLate⟩) Tryz.func70 (by kernel_rfl) ok70 (by kernel_rfl) (by kernel_rfl) (fun _ => rfl) hl h -- rillmeter/rillmeterref01.Add
@[simp] theorem sh71 : shF 71 = false := by decide
theorem run71 {args : List CA} {r : CA} (hl : args.length ≤ 22) (h : wpV Tryz.prog TV ⟨22, shF, false, noLate⟩ (Tryz.f71.body.getD .skip) (endK Tryz.prog Tryz.f71.results.toList r) ⟨env0 args, []⟩) : TV.pu 71 args = some r := TT_go (N := ⟨22, shF, false, noLate⟩) Tryz.func71 (by kernel_rfl) ok71 (by kernel_rfl) (by kernel_rfl) (fun _ => rfl) hl h -- rillmeter/rillmeterref01.Pow
@[simp] theorem sh72 : shF 72 = false := by decide
theorem run72 {args : List CA} {r : CA} (hl : args.length ≤ 16) (h : wpV Tryz.prog TV ⟨16, shF, false, noLate⟩ (Tryz.f72.body.getD .skip) (endK Tryz.prog Tryz.f72.results.toList r) ⟨env0 args, []⟩) : TV.pu 72 args = some r := TT_go (N := ⟨16, shF, false, noLate⟩) Tryz.func72 (by kernel_rfl) ok72 (by kernel_rfl) (by kernel_rfl) (fun _ => rfl) hl h -- rillmeter/rillmeterref02.Cell
@[simp] theorem sh73 : shF 73 = false := by decide
theorem run73 {args : List CA} {r : CA} (hl : args.length ≤ 28) (h : wpV Tryz.prog TV ⟨28, shF, false, noLate⟩ (Tryz.f73.body.getD .skip) (endK Tryz.prog Tryz.f73.results.toList r) ⟨env0 args, []⟩) : TV.pu 73 args = some r := TT_go (N := ⟨28, shF, false, noLate⟩) Tryz.func73 (by kernel_rfl) ok73 (by kernel_rfl) (by kernel_rfl) (fun _ => rfl) hl h -- rillmeter/rillmeterref03.Base
@[simp] theorem sh74 : shF 74 = false := by decide
theorem run74 {args : List CA} {r : CA} (hl : args.length ≤ 5) (h : wpV Tryz.prog TV ⟨5, shF, false, noLate⟩ (Tryz.f74.body.getD .skip) (endK Tryz.prog Tryz.f74.results.toList r) ⟨env0 args, []⟩) : TV.pu 74 args = some r := TT_go (N := ⟨5, shF, false, noLate⟩) Tryz.func74 (by kernel_rfl) ok74 (by kernel_rfl) (by kernel_rfl) (fun _ => rfl) hl h -- rillmeter/rillmeterref01.Of
@[simp] theorem sh75 : shF 75 = false := by decide
theorem run75 {args : List CA} {r : CA} (hl : args.length ≤ 9) (h : wpV Tryz.prog TV ⟨9, shF, false, noLate⟩ (Tryz.f75.body.getD .skip) (endK Tryz.prog Tryz.f75.results.toList r) ⟨env0 args, []⟩) : TV.pu 75 args = some r := TT_go (N := ⟨9, shF, false, noLate⟩) Tryz.func75 (by kernel_rfl) ok75 (by kernel_rfl) (by kernel_rfl) (fun _ => rfl) hl h -- slices.ContainsFunc[[][]rillmeter/radar.Cell,[]rillmeter/radar.Cell]
@[simp] theorem sh76 : shF 76 = false := by decide
theorem run76 {args : List CA} {r : CA} (hl : args.length ≤ 5) (h : wpV Tryz.prog TV ⟨5, shF, false, noLate⟩ (Tryz.f76.body.getD .skip) (endK Tryz.prog Tryz.f76.results.toList r) ⟨env0 args, []⟩) : TV.pu 76 args = some r := TT_go (N := ⟨5, shF, false, noLate⟩) Tryz.func76 (by kernel_rfl) ok76 (by kernel_rfl) (by kernel_rfl) (fun _ => rfl) hl h -- rillmeter/radar.Empty$1
@[simp] theorem sh77 : shF 77 = false := by decide
theorem run77 {args : List CA} {r : CA} (hl : args.length ≤ 9) (h : wpV Tryz.prog TV ⟨9, shF, false, noLate⟩ (Tryz.f77.body.getD .skip) (endK Tryz.prog Tryz.f77.results.toList r) ⟨env0 args, []⟩) : TV.pu 77 args = some r := TT_go (N := ⟨9, shF, false, noLate⟩) Tryz.func77 (by kernel_rfl) ok77 (by kernel_rfl) (by kernel_rfl) (fun _ => rfl) hl h -- slices.ContainsFunc[[]rillmeter/radar.Cell,rillmeter/radar.Cell]
@[simp] theorem sh78 : shF 78 = false := by decide
theorem run78 {args : List CA} {r : CA} (hl : args.length ≤ 11) (h : wpV Tryz.prog TV ⟨11, shF, false, noLate⟩ (Tryz.f78.body.getD .skip) (endK Tryz.prog Tryz.f78.results.toList r) ⟨env0 args, []⟩) : TV.pu 78 args = some r := TT_go (N := ⟨11, shF, false, noLate⟩) Tryz.func78 (by kernel_rfl) ok78 (by kernel_rfl) (by kernel_rfl) (fun _ => rfl) hl h -- rillmeter/radar.Empty$1$1
@[simp] theorem sh79 : shF 79 = false := by decide
theorem run79 {args : List CA} {r : CA} (hl : args.length ≤ 23) (h : wpV Tryz.prog TV ⟨23, shF, false, noLate⟩ (Tryz.f79.body.getD .skip) (endK Tryz.prog Tryz.f79.results.toList r) ⟨env0 args, []⟩) : TV.pu 79 args = some r := TT_go (N := ⟨23, shF, false, noLate⟩) Tryz.func79 (by kernel_rfl) ok79 (by kernel_rfl) (by kernel_rfl) (fun _ => rfl) hl h -- rillmeter/bloom.Right
@[simp] theorem sh80 : shF 80 = false := by decide
theorem run80 {args : List CA} {r : CA} (hl : args.length ≤ 11) (h : wpV Tryz.prog TV ⟨11, shF, false, noLate⟩ (Tryz.f80.body.getD .skip) (endK Tryz.prog Tryz.f80.results.toList r) ⟨env0 args, []⟩) : TV.pu 80 args = some r := TT_go (N := ⟨11, shF, false, noLate⟩) Tryz.func80 (by kernel_rfl) ok80 (by kernel_rfl) (by kernel_rfl) (fun _ => rfl) hl h -- rillmeter/field.Add
@[simp] theorem sh81 : shF 81 = false := by decide
theorem run81 {args : List CA} {r : CA} (hl : args.length ≤ 24) (h : wpV Tryz.prog TV ⟨24, shF, false, noLate⟩ (Tryz.f81.body.getD .skip) (endK Tryz.prog Tryz.f81.results.toList r) ⟨env0 args, []⟩) : TV.pu 81 args = some r := TT_go (N := ⟨24, shF, false, noLate⟩) Tryz.func81 (by kernel_rfl) ok81 (by kernel_rfl) (by kernel_rfl) (fun _ => rfl) hl h -- rillmeter/field.Mul
@[simp] theorem sh82 : shF 82 = false := by decide
theorem run82 {args : List CA} {r : CA} (hl : args.length ≤ 30) (h : wpV Tryz.prog TV ⟨30, shF, false, noLate⟩ (Tryz.f82.body.getD .skip) (endK Tryz.prog Tryz.f82.results.toList r) ⟨env0 args, []⟩) : TV.pu 82 args = some r := TT_go (N := ⟨30, shF, false, noLate⟩) Tryz.func82 (by kernel_rfl) ok82 (by kernel_rfl) (by kernel_rfl) (fun _ => rfl) hl h -- math/bits.Mul
@[simp] theorem sh83 : shF 83 = false := by decide
theorem run83 {args : List CA} {r : CA} (hl : args.length ≤ 26) (h : wpV Tryz.prog TV ⟨26, shF, false, noLate⟩ (Tryz.f83.body.getD .skip) (endK Tryz.prog Tryz.f83.results.toList r) ⟨env0 args, []⟩) : TV.pu 83 args = some r := TT_go (N := ⟨26, shF, false, noLate⟩) Tryz.func83 (by kernel_rfl) ok83 (by kernel_rfl) (by kernel_rfl) (fun _ => rfl) hl h -- rillmeter/radar.Right$1
@[simp] theorem sh84 : shF 84 = false := by decide
theorem run84 {args : List CA} {r : CA} (hl : args.length ≤ 9) (h : wpV Tryz.prog TV ⟨9, shF, false, noLate⟩ (Tryz.f84.body.getD .skip) (endK Tryz.prog Tryz.f84.results.toList r) ⟨env0 args, []⟩) : TV.pu 84 args = some r := TT_go (N := ⟨9, shF, false, noLate⟩) Tryz.func84 (by kernel_rfl) ok84 (by kernel_rfl) (by kernel_rfl) (fun _ => rfl) hl h -- slices.ContainsFunc[[]int,int]
@[simp] theorem sh85 : shF 85 = true := by decide
@[simp] theorem cl85 : isCl Tryz.prog 85 = false := by kernel_rfl
theorem runX85 {args : List AV} {H : Hp} {Q : AV → Hp → Prop} (hl : args.length ≤ 29) (hQ : ∀ a K, Q a K → H.length ≤ K.length) (h : wpV Tryz.prog TV ⟨29, shF, false, noLate⟩ (Tryz.f85.body.getD .skip) (endX Tryz.prog Tryz.f85.results.toList Q) ⟨envS args, H⟩) : ∃ a K, TV.S 85 args H = some (a, K) ∧ Q a K := TT_goX (N := ⟨29, shF, false, noLate⟩) Tryz.func85 (by kernel_rfl) ok85 (by kernel_rfl) (by kernel_rfl) rfl hl (by kernel_rfl) hQ h -- rillmeter/bloom.Places
theorem run85 {args : List AV} {r : AV} {H H' : Hp} (hl : args.length ≤ 29) (hH : Gr Tryz.prog 85 H H') (h : wpV Tryz.prog TV ⟨29, shF, false, noLate⟩ (Tryz.f85.body.getD .skip) (endS Tryz.prog Tryz.f85.results.toList r H') ⟨envS args, H⟩) : TV.S 85 args H = some (r, H') := TT_goS (N := ⟨29, shF, false, noLate⟩) Tryz.func85 (by kernel_rfl) ok85 (by kernel_rfl) (by kernel_rfl) rfl hl hH h -- rillmeter/bloom.Places
@[simp] theorem sh86 : shF 86 = false := by decide
theorem run86 {args : List CA} {r : CA} (hl : args.length ≤ 10) (h : wpV Tryz.prog TV ⟨10, shF, false, noLate⟩ (Tryz.f86.body.getD .skip) (endK Tryz.prog Tryz.f86.results.toList r) ⟨env0 args, []⟩) : TV.pu 86 args = some r := TT_go (N := ⟨10, shF, false, noLate⟩) Tryz.func86 (by kernel_rfl) ok86 (by kernel_rfl) (by kernel_rfl) (fun _ => rfl) hl h -- rillmeter/bloom.Has$1
@[simp] theorem sh87 : shF 87 = true := by decide
@[simp] theorem cl87 : isCl Tryz.prog 87 = true := by kernel_rfl
theorem run87 {args : List AV} {r : AV} {H H' : Hp} (hl : args.length ≤ 8) (hH : Gr Tryz.prog 87 H H') (h : wpV Tryz.prog TV ⟨8, shF, false, noLate⟩ (Tryz.f87.body.getD .skip) (endS Tryz.prog Tryz.f87.results.toList r H') ⟨envS args, H⟩) : TV.S 87 args H = some (r, H') := TT_goS (N := ⟨8, shF, false, noLate⟩) Tryz.func87 (by kernel_rfl) ok87 (by kernel_rfl) (by kernel_rfl) rfl hl hH h -- slices.Clone[[]rillmeter/radar.Cell,rillmeter/radar.Cell]
@[simp] theorem sh88 : shF 88 = true := by decide
@[simp] theorem cl88 : isCl Tryz.prog 88 = true := by kernel_rfl
theorem run88 {args : List AV} {r : AV} {H H' : Hp} (hl : args.length ≤ 8) (hH : Gr Tryz.prog 88 H H') (h : wpV Tryz.prog TV ⟨8, shF, false, noLate⟩ (Tryz.f88.body.getD .skip) (endS Tryz.prog Tryz.f88.results.toList r H') ⟨envS args, H⟩) : TV.S 88 args H = some (r, H') := TT_goS (N := ⟨8, shF, false, noLate⟩) Tryz.func88 (by kernel_rfl) ok88 (by kernel_rfl) (by kernel_rfl) rfl hl hH h -- slices.Clone[[]bool,bool]
@[simp] theorem sh89 : shF 89 = false := by decide
theorem run89 {args : List CA} {r : CA} (hl : args.length ≤ 16) (h : wpV Tryz.prog TV ⟨16, shF, false, noLate⟩ (Tryz.f89.body.getD .skip) (endK Tryz.prog Tryz.f89.results.toList r) ⟨env0 args, []⟩) : TV.pu 89 args = some r := TT_go (N := ⟨16, shF, false, noLate⟩) Tryz.func89 (by kernel_rfl) ok89 (by kernel_rfl) (by kernel_rfl) (fun _ => rfl) hl h -- rillmeter/hash.Cell
@[simp] theorem sh90 : shF 90 = false := by decide
theorem run90 {args : List CA} {r : CA} (hl : args.length ≤ 19) (h : wpV Tryz.prog TV ⟨19, shF, false, noLate⟩ (Tryz.f90.body.getD .skip) (endK Tryz.prog Tryz.f90.results.toList r) ⟨env0 args, []⟩) : TV.pu 90 args = some r := TT_go (N := ⟨19, shF, false, noLate⟩) Tryz.func90 (by kernel_rfl) ok90 (by kernel_rfl) (by kernel_rfl) (fun _ => rfl) hl h -- slices.Index[[]string,string]
@[simp] theorem sh91 : shF 91 = false := by decide
@[simp] theorem sh92 : shF 92 = false := by decide
@[simp] theorem sh93 : shF 93 = false := by decide
@[simp] theorem sh94 : shF 94 = false := by decide
@[simp] theorem sh95 : shF 95 = false := by decide
@[simp] theorem sh96 : shF 96 = false := by decide
@[simp] theorem sh97 : shF 97 = false := by decide
@[simp] theorem sh98 : shF 98 = false := by decide
@[simp] theorem sh99 : shF 99 = false := by decide
@[simp] theorem sh100 : shF 100 = false := by decide
@[simp] theorem sh101 : shF 101 = false := by decide
@[simp] theorem sh102 : shF 102 = false := by decide
theorem run102 {args : List CA} {r : CA} (hl : args.length ≤ 25) (h : wpV Tryz.prog TV ⟨25, shF, false, noLate⟩ (Tryz.f102.body.getD .skip) (endK Tryz.prog Tryz.f102.results.toList r) ⟨env0 args, []⟩) : TV.pu 102 args = some r := TT_go (N := ⟨25, shF, false, noLate⟩) Tryz.func102 (by kernel_rfl) ok102 (by kernel_rfl) (by kernel_rfl) (fun _ => rfl) hl h -- rillmeter/rillmeterref16.xor
@[simp] theorem sh103 : shF 103 = false := by decide
theorem run103 {args : List CA} {r : CA} (hl : args.length ≤ 9) (h : wpV Tryz.prog TV ⟨9, shF, false, noLate⟩ (Tryz.f103.body.getD .skip) (endK Tryz.prog Tryz.f103.results.toList r) ⟨env0 args, []⟩) : TV.pu 103 args = some r := TT_go (N := ⟨9, shF, false, noLate⟩) Tryz.func103 (by kernel_rfl) ok103 (by kernel_rfl) (by kernel_rfl) (fun _ => rfl) hl h -- slices.ContainsFunc[[][]uint64,[]uint64]
@[simp] theorem sh104 : shF 104 = false := by decide
theorem run104 {args : List CA} {r : CA} (hl : args.length ≤ 16) (h : wpV Tryz.prog TV ⟨16, shF, false, noLate⟩ (Tryz.f104.body.getD .skip) (endK Tryz.prog Tryz.f104.results.toList r) ⟨env0 args, []⟩) : TV.pu 104 args = some r := TT_go (N := ⟨16, shF, false, noLate⟩) Tryz.func104 (by kernel_rfl) ok104 (by kernel_rfl) (by kernel_rfl) (fun _ => rfl) hl h -- rillmeter/solve.even$1
@[simp] theorem sh105 : shF 105 = false := by decide
theorem run105 {args : List CA} {r : CA} (hl : args.length ≤ 13) (h : wpV Tryz.prog TV ⟨13, shF, false, noLate⟩ (Tryz.f105.body.getD .skip) (endK Tryz.prog Tryz.f105.results.toList r) ⟨env0 args, []⟩) : TV.pu 105 args = some r := TT_go (N := ⟨13, shF, false, noLate⟩) Tryz.func105 (by kernel_rfl) ok105 (by kernel_rfl) (by kernel_rfl) (fun _ => rfl) hl h -- rillmeter/field.Of
@[simp] theorem sh106 : shF 106 = false := by decide
theorem run106 {args : List CA} {r : CA} (hl : args.length ≤ 9) (h : wpV Tryz.prog TV ⟨9, shF, false, noLate⟩ (Tryz.f106.body.getD .skip) (endK Tryz.prog Tryz.f106.results.toList r) ⟨env0 args, []⟩) : TV.pu 106 args = some r := TT_go (N := ⟨9, shF, false, noLate⟩) Tryz.func106 (by kernel_rfl) ok106 (by kernel_rfl) (by kernel_rfl) (fun _ => rfl) hl h -- rillmeter/field.Inv
@[simp] theorem sh107 : shF 107 = false := by decide
theorem run107 {args : List CA} {r : CA} (hl : args.length ≤ 12) (h : wpV Tryz.prog TV ⟨12, shF, false, noLate⟩ (Tryz.f107.body.getD .skip) (endK Tryz.prog Tryz.f107.results.toList r) ⟨env0 args, []⟩) : TV.pu 107 args = some r := TT_go (N := ⟨12, shF, false, noLate⟩) Tryz.func107 (by kernel_rfl) ok107 (by kernel_rfl) (by kernel_rfl) (fun _ => rfl) hl h -- rillmeter/field.Sub
@[simp] theorem sh108 : shF 108 = false := by decide
theorem run108 {args : List CA} {r : CA} (hl : args.length ≤ 36) (h : wpV Tryz.prog TV ⟨36, shF, false, noLate⟩ (Tryz.f108.body.getD .skip) (endK Tryz.prog Tryz.f108.results.toList r) ⟨env0 args, []⟩) : TV.pu 108 args = some r := TT_go (N := ⟨36, shF, false, noLate⟩) Tryz.func108 (by kernel_rfl) ok108 (by kernel_rfl) (by kernel_rfl) (fun _ => rfl) hl h -- rillmeter/rillmeterref02.Sum
@[simp] theorem sh109 : shF 109 = true := by decide
@[simp] theorem cl109 : isCl Tryz.prog 109 = false := by kernel_rfl
theorem runX109 {args : List AV} {H : Hp} {Q : AV → Hp → Prop} (hl : args.length ≤ 54) (hQ : ∀ a K, Q a K → H.length ≤ K.length) (h : wpV Tryz.prog TV ⟨54, shF, false, noLate⟩ (Tryz.f109.body.getD .skip) (endX Tryz.prog Tryz.f109.results.toList Q) ⟨envS args, H⟩) : ∃ a K, TV.S 109 args H = some (a, K) ∧ Q a K := TT_goX (N := ⟨54, shF, false, noLate⟩) Tryz.func109 (by kernel_rfl) ok109 (by kernel_rfl) (by kernel_rfl) rfl hl (by kernel_rfl) hQ h -- rillmeter/rillmeterref03.less
theorem run109 {args : List AV} {r : AV} {H H' : Hp} (hl : args.length ≤ 54) (hH : Gr Tryz.prog 109 H H') (h : wpV Tryz.prog TV ⟨54, shF, false, noLate⟩ (Tryz.f109.body.getD .skip) (endS Tryz.prog Tryz.f109.results.toList r H') ⟨envS args, H⟩) : TV.S 109 args H = some (r, H') := TT_goS (N := ⟨54, shF, false, noLate⟩) Tryz.func109 (by kernel_rfl) ok109 (by kernel_rfl) (by kernel_rfl) rfl hl hH h -- rillmeter/rillmeterref03.less
@[simp] theorem sh110 : shF 110 = false := by decide
theorem run110 {args : List CA} {r : CA} (hl : args.length ≤ 19) (h : wpV Tryz.prog TV ⟨19, shF, false, noLate⟩ (Tryz.f110.body.getD .skip) (endK Tryz.prog Tryz.f110.results.toList r) ⟨env0 args, []⟩) : TV.pu 110 args = some r := TT_go (N := ⟨19, shF, false, noLate⟩) Tryz.func110 (by kernel_rfl) ok110 (by kernel_rfl) (by kernel_rfl) (fun _ => rfl) hl h -- rillmeter/rillmeterref03.first
@[simp] theorem sh111 : shF 111 = false := by decide
theorem run111 {args : List CA} {r : CA} (hl : args.length ≤ 19) (h : wpV Tryz.prog TV ⟨19, shF, false, noLate⟩ (Tryz.f111.body.getD .skip) (endK Tryz.prog Tryz.f111.results.toList r) ⟨env0 args, []⟩) : TV.pu 111 args = some r := TT_go (N := ⟨19, shF, false, noLate⟩) Tryz.func111 (by kernel_rfl) ok111 (by kernel_rfl) (by kernel_rfl) (fun _ => rfl) hl h -- slices.IndexFunc[[][]rillmeter/radar.Cell,[]rillmeter/radar.Cell]
@[simp] theorem sh112 : shF 112 = false := by decide
theorem run112 {args : List CA} {r : CA} (hl : args.length ≤ 19) (h : wpV Tryz.prog TV ⟨19, shF, false, noLate⟩ (Tryz.f112.body.getD .skip) (endK Tryz.prog Tryz.f112.results.toList r) ⟨env0 args, []⟩) : TV.pu 112 args = some r := TT_go (N := ⟨19, shF, false, noLate⟩) Tryz.func112 (by kernel_rfl) ok112 (by kernel_rfl) (by kernel_rfl) (fun _ => rfl) hl h -- slices.IndexFunc[[]rillmeter/radar.Cell,rillmeter/radar.Cell]
@[simp] theorem sh113 : shF 113 = false := by decide
theorem run113 {args : List CA} {r : CA} (hl : args.length ≤ 51) (h : wpV Tryz.prog TV ⟨51, shF, false, noLate⟩ (Tryz.f113.body.getD .skip) (endK Tryz.prog Tryz.f113.results.toList r) ⟨env0 args, []⟩) : TV.pu 113 args = some r := TT_go (N := ⟨51, shF, false, noLate⟩) Tryz.func113 (by kernel_rfl) ok113 (by kernel_rfl) (by kernel_rfl) (fun _ => rfl) hl h -- math/bits.Mul64
@[simp] theorem sh114 : shF 114 = false := by decide
theorem run114 {args : List CA} {r : CA} (hl : args.length ≤ 17) (h : wpV Tryz.prog TV ⟨17, shF, false, noLate⟩ (Tryz.f114.body.getD .skip) (endK Tryz.prog Tryz.f114.results.toList r) ⟨env0 args, []⟩) : TV.pu 114 args = some r := TT_go (N := ⟨17, shF, false, noLate⟩) Tryz.func114 (by kernel_rfl) ok114 (by kernel_rfl) (by kernel_rfl) (fun _ => rfl) hl h -- math/bits.Mul32
@[simp] theorem sh115 : shF 115 = false := by decide
theorem run115 {args : List CA} {r : CA} (hl : args.length ≤ 19) (h : wpV Tryz.prog TV ⟨19, shF, false, noLate⟩ (Tryz.f115.body.getD .skip) (endK Tryz.prog Tryz.f115.results.toList r) ⟨env0 args, []⟩) : TV.pu 115 args = some r := TT_go (N := ⟨19, shF, false, noLate⟩) Tryz.func115 (by kernel_rfl) ok115 (by kernel_rfl) (by kernel_rfl) (fun _ => rfl) hl h -- slices.IndexFunc[[]int,int]
@[simp] theorem sh116 : shF 116 = false := by decide
theorem run116 {args : List CA} {r : CA} (hl : args.length ≤ 51) (h : wpV Tryz.prog TV ⟨51, shF, false, noLate⟩ (Tryz.f116.body.getD .skip) (endK Tryz.prog Tryz.f116.results.toList r) ⟨env0 args, []⟩) : TV.pu 116 args = some r := TT_go (N := ⟨51, shF, false, noLate⟩) Tryz.func116 (by kernel_rfl) ok116 (by kernel_rfl) (by kernel_rfl) (fun _ => rfl) hl h -- rillmeter/hash.Sum
@[simp] theorem sh117 : shF 117 = false := by decide
@[simp] theorem sh118 : shF 118 = false := by decide
@[simp] theorem sh119 : shF 119 = false := by decide
@[simp] theorem sh120 : shF 120 = false := by decide
@[simp] theorem sh121 : shF 121 = false := by decide
@[simp] theorem sh122 : shF 122 = false := by decide
@[simp] theorem sh123 : shF 123 = false := by decide
theorem run123 {args : List CA} {r : CA} (hl : args.length ≤ 19) (h : wpV Tryz.prog TV ⟨19, shF, false, noLate⟩ (Tryz.f123.body.getD .skip) (endK Tryz.prog Tryz.f123.results.toList r) ⟨env0 args, []⟩) : TV.pu 123 args = some r := TT_go (N := ⟨19, shF, false, noLate⟩) Tryz.func123 (by kernel_rfl) ok123 (by kernel_rfl) (by kernel_rfl) (fun _ => rfl) hl h -- slices.IndexFunc[[][]uint64,[]uint64]
@[simp] theorem sh124 : shF 124 = false := by decide
theorem run124 {args : List CA} {r : CA} (hl : args.length ≤ 22) (h : wpV Tryz.prog TV ⟨22, shF, false, noLate⟩ (Tryz.f124.body.getD .skip) (endK Tryz.prog Tryz.f124.results.toList r) ⟨env0 args, []⟩) : TV.pu 124 args = some r := TT_go (N := ⟨22, shF, false, noLate⟩) Tryz.func124 (by kernel_rfl) ok124 (by kernel_rfl) (by kernel_rfl) (fun _ => rfl) hl h -- rillmeter/field.Pow
@[simp] theorem sh125 : shF 125 = false := by decide
theorem run125 {args : List CA} {r : CA} (hl : args.length ≤ 48) (h : wpV Tryz.prog TV ⟨48, shF, false, noLate⟩ (Tryz.f125.body.getD .skip) (endK Tryz.prog Tryz.f125.results.toList r) ⟨env0 args, []⟩) : TV.pu 125 args = some r := TT_go (N := ⟨48, shF, false, noLate⟩) Tryz.func125 (by kernel_rfl) ok125 (by kernel_rfl) (by kernel_rfl) (fun _ => rfl) hl h -- rillmeter/rillmeterref02.words
@[simp] theorem sh126 : shF 126 = false := by decide
theorem run126 {args : List CA} {r : CA} (hl : args.length ≤ 5) (h : wpV Tryz.prog TV ⟨5, shF, false, noLate⟩ (Tryz.f126.body.getD .skip) (endK Tryz.prog Tryz.f126.results.toList r) ⟨env0 args, []⟩) : TV.pu 126 args = some r := TT_go (N := ⟨5, shF, false, noLate⟩) Tryz.func126 (by kernel_rfl) ok126 (by kernel_rfl) (by kernel_rfl) (fun _ => rfl) hl h -- rillmeter/rillmeterref03.inverse
@[simp] theorem sh127 : shF 127 = false := by decide
theorem run127 {args : List CA} {r : CA} (hl : args.length ≤ 12) (h : wpV Tryz.prog TV ⟨12, shF, false, noLate⟩ (Tryz.f127.body.getD .skip) (endK Tryz.prog Tryz.f127.results.toList r) ⟨env0 args, []⟩) : TV.pu 127 args = some r := TT_go (N := ⟨12, shF, false, noLate⟩) Tryz.func127 (by kernel_rfl) ok127 (by kernel_rfl) (by kernel_rfl) (fun _ => rfl) hl h -- rillmeter/rillmeterref01.Sub
@[simp] theorem sh128 : shF 128 = false := by decide
end Go.Proofs.YtmgnmnogiajlgaaGreatF
end

section
/- A law's arguments, read as data, are closed values; and what a law tells of them stands in the statement's form. -/
namespace Go.Proofs.Vm
open Go Go.RowKit Go.ChangeShapes Go.WideShapes

def All (w : World) : Nat → Prop := fun b => b < w.heap.size

/-- Whatever reads as data of type T is so many closed cells, that are good. -/
def Opens (P : Program) (T : TypeId) (sz : Nat) (good : List CV → Prop) : Prop :=
  ∀ (H : Type) (enc : TypeId × Value → H) (W : World) (spare : Nat → Bool) (held : Bool) (fuel : Nat) (cs : List Value) (x : DataW H × List MemPlace),
    DataW.trod enc P W 0 spare held fuel T cs = some x → (∀ q ∈ DataW.weights P T x.1, q ≤ 140737488351232) → ∃ l : List CV, RKs (All W) W l cs ∧ l.length = sz ∧ good l

variable {P : Program}

theorem rks_one {I : Nat → Prop} {w : World} {x : CV} {v : Value} (h : RC I w x v) : RKs I w [x] [v] := by
  refine ⟨rfl, fun j y z hy hz => ?_⟩
  cases j with
  | zero => cases hy; cases hz; exact h
  | succ j => simp at hy
theorem rks_append {I : Nat → Prop} {w : World} {l m : List CV} {vs us : List Value} (h : RKs I w l vs) (k : RKs I w m us) : RKs I w (l ++ m) (vs ++ us) := by
  refine ⟨by simp [h.1, k.1], fun j x y hx hy => ?_⟩
  by_cases hj : j < l.length
  · rw [List.getElem?_append_left hj] at hx
    rw [List.getElem?_append_left (by rw [← h.1]; exact hj)] at hy
    exact h.2 j x y hx hy
  · rw [List.getElem?_append_right (by omega)] at hx
    rw [List.getElem?_append_right (by rw [← h.1]; omega), ← h.1] at hy
    exact k.2 _ x y hx hy

def isI (k : IntKind) (l : List CV) : Prop := ∃ n, l = [.v (.int k n)] ∧ (Lit.int k n).wf = true
def isB (l : List CV) : Prop := ∃ b, l = [.v (.bool b)]
def isS (l : List CV) : Prop := ∃ s : ByteArray, l = [.v (.string s)] ∧ s.size ≤ 140737488351232
def isL (sz bytes : Nat) (good : List CV → Prop) (l : List CV) : Prop := ∃ L : List (List CV), l = [.arr L] ∧ (∀ e ∈ L, e.length = sz ∧ good e) ∧ L.length * bytes ≤ 140737488351232
def isP (good good' : List CV → Prop) (l : List CV) : Prop := ∃ a b, l = a ++ b ∧ good a ∧ good' b

theorem opens_int {T : TypeId} {k : IntKind} (ht : P.underlying T = some (.int k)) : Opens P T 1 (isI k) := by
  intro H enc W spare held fuel cs x h _
  obtain ⟨n, rfl, _, hw⟩ := DataW.trod_int ht h
  exact ⟨_, rks_one (.v _ rfl), rfl, n, rfl, hw⟩
theorem opens_bool {T : TypeId} (ht : P.underlying T = some .bool) : Opens P T 1 isB := by
  intro H enc W spare held fuel cs x h _
  obtain ⟨n, rfl, _⟩ := DataW.trod_bool ht h
  exact ⟨_, rks_one (.v _ rfl), rfl, n, rfl⟩
theorem opens_string {T : TypeId} (ht : P.underlying T = some .string) : Opens P T 1 isS := by
  intro H enc W spare held fuel cs x h hq
  obtain ⟨s, rfl, rfl, _⟩ := DataW.trod_string ht h
  have h1 := hq s.data.toList.length (by simp [DataW.weights])
  rw [Array.length_toList] at h1
  exact ⟨_, rks_one (.v _ rfl), rfl, s, rfl, h1⟩
theorem cells_at {W : World} {a : Addr} {n : Nat} {cs : List Value} (h : W.cells? 0 a n = some cs) : cs.length = n ∧ ∀ i u, cs[i]? = some u → W.cell? (a.add i) = some u := by
  unfold World.cells? at h
  rw [if_pos (Nat.zero_le _)] at h
  have hl : cs.length = n := by have := mapM_some_length h; simpa using this
  refine ⟨hl, fun i u hu => ?_⟩
  have hi : i < n := by have := (List.getElem?_eq_some_iff.1 hu).1; omega
  have h1 := mapM_some_get h i i (by simp [hi])
  rw [h1, hu]
theorem weights_all {H : Type} {e : TypeId} {l : List (DataW H)} {d : DataW H} (hd : d ∈ l) : ∀ q ∈ DataW.weights P e d, q ∈ DataW.weightsAll P e l := by
  induction l with
  | nil => cases hd
  | cons y t ih =>
    intro q hq
    simp only [DataW.weightsAll, List.mem_append]
    rcases List.mem_cons.1 hd with rfl | h
    · exact .inl hq
    · exact .inr (ih h q hq)
theorem opens_slice {T e : TypeId} {sz bytes : Nat} {good : List CV → Prop} (ht : P.underlying T = some (.slice e)) (hc : P.cellsOf e = sz) (hz : 0 < sz) (hb : P.bytesOf e = bytes) (he : Opens P e sz good) : Opens P T 1 (isL sz bytes good) := by
  intro H enc W spare held fuel cs x h hq
  rcases Go.Deep.open_slice ht h with ⟨rfl, rfl⟩ | ⟨a, len, cap, m, n, D, Pl, rfl, _, hlc, hcap, hm, rfl, hel⟩
  · refine ⟨[.arr []], rks_one (.arr [] none 0 0 (fun _ _ => .bool false) (Nat.le_refl _) (by simp) (by simp) (by simp)), rfl, [], rfl, by simp, by simp⟩
  · have hlm : len ≤ m := by rw [hm]; split <;> omega
    simp only [DataW.weights, ht, List.mem_cons, List.mem_append] at hq
    obtain ⟨F, hF⟩ := Go.Deep.choose_lt (α := List CV × List Value) (n := len) (p := fun i y => W.cells? 0 (a.add (i * P.cellsOf e)) (P.cellsOf e) = some y.2 ∧ RKs (All W) W y.1 y.2 ∧ y.1.length = sz ∧ good y.1) (fun i hi => by
      obtain ⟨cs', h1, h2⟩ := hel i (by omega)
      obtain ⟨l, hl, hs, hg⟩ := he H enc W spare held n cs' (D i, Pl i) h2 (fun q hq1 => hq q (.inr (.inl (weights_all (List.mem_map.2 ⟨i, List.mem_range.2 hi, rfl⟩) q hq1))))
      exact ⟨(l, cs'), h1, hl, hs, hg⟩)
    have hw : len * bytes ≤ 140737488351232 := by
      have h1 := hq _ (.inl rfl)
      rw [hb] at h1
      refine Nat.le_trans (Nat.mul_le_mul_right _ ?_) h1
      simp
    have hlen : ((List.range len).map fun i => (F i).1).length = len := by simp
    have get : ∀ (i : Nat) e, ((List.range len).map fun i => (F i).1)[i]? = some e → i < len ∧ e = (F i).1 := by
      intro i e hi
      have hl := (List.getElem?_eq_some_iff.1 hi).1
      rw [hlen] at hl
      rw [List.getElem?_map, List.getElem?_range hl] at hi
      cases hi
      exact ⟨hl, rfl⟩
    have cell : ∀ i j, i < len → j < sz → W.cell? ((a.add (i * sz)).add j) = some ((F i).2.getD j (.bool false)) := by
      intro i j hi hj
      obtain ⟨h1, h2, h3, _⟩ := hF i hi
      obtain ⟨k1, k2⟩ := cells_at h1
      rw [hc] at k1 k2
      refine k2 j _ ?_
      rw [List.getD_eq_getElem?_getD, List.getElem?_eq_getElem (by omega)]
      rfl
    have key : RC (All W) W (.arr ((List.range len).map fun i => (F i).1)) (.slice (some a) ((List.range len).map fun i => (F i).1).length cap) := by
      refine .arr _ (some a) cap sz (fun i j => (F i).2.getD j (.bool false)) (by rw [hlen]; exact hlc) (fun e he => ?_) (fun hn => ?_) (fun i j e x hi hx => ?_)
      · obtain ⟨i, hi⟩ := List.getElem?_of_mem he
        obtain ⟨hl, rfl⟩ := get i e hi
        exact (hF i hl).2.2.1
      · have hp : 0 < len := by
          rcases Nat.eq_zero_or_pos len with h0 | h0
          · subst h0; exact absurd rfl hn
          · exact h0
        have c0 := cell 0 0 hp hz
        have hadd : ∀ k, a.spot = none → a.add k = ⟨a.block, a.off + k, none⟩ := fun k hs => by
          obtain ⟨b, o, s⟩ := a
          cases hs
          simp [Addr.add]
        have hs : a.spot = none := by
          simp only [Nat.zero_mul] at c0
          rw [show (a.add 0).add 0 = a by simp [Addr.add]] at c0
          unfold World.cell? at c0
          split at c0
          · split at c0
            · cases c0
            · rename_i h0; simpa using h0
          · cases c0
        refine ⟨a.block, a.off, by obtain ⟨b, o, s⟩ := a; cases hs; rfl, ?_, fun i j hi hj => ?_⟩
        · simp only [Nat.zero_mul] at c0
          rw [show (a.add 0).add 0 = a by simp [Addr.add]] at c0
          show a.block < W.heap.size
          unfold World.cell? at c0
          rcases Nat.lt_or_ge a.block W.heap.size with h0 | h0
          · exact h0
          · rw [Array.getElem?_eq_none h0] at c0; cases c0
        · have := cell i j (by rw [hlen] at hi; exact hi) hj
          rw [Addr.add_add, hadd _ hs] at this
          rw [← this]
      · obtain ⟨hl, rfl⟩ := get i e hi
        obtain ⟨h1, h2, h3, _⟩ := hF i hl
        have hj : j < (F i).1.length := (List.getElem?_eq_some_iff.1 hx).1
        have hj2 : j < (F i).2.length := by rw [← h2.1]; exact hj
        refine h2.2 j x _ hx ?_
        rw [List.getD_eq_getElem?_getD, List.getElem?_eq_getElem hj2]
        rfl
    rw [hlen] at key
    refine ⟨_, rks_one key, rfl, _, rfl, fun e he => ?_, by rw [hlen]; exact hw⟩
    obtain ⟨i, hi⟩ := List.getElem?_of_mem he
    obtain ⟨hl, rfl⟩ := get i e hi
    exact (hF i hl).2.2
/-- The fields of a struct, from a place on. -/
def OpensAt (P : Program) (fs : List Field) (o sz : Nat) (good : List CV → Prop) : Prop :=
  ∀ (H : Type) (enc : TypeId × Value → H) (W : World) (spare : Nat → Bool) (held : Bool) (n : Nat) (cs : List Value), cs.length = o + sz →
    (∀ f ∈ fs, ∃ y : DataW H × List MemPlace, DataW.trod enc P W 0 spare held n f.type ((cs.drop f.offset).take (P.cellsOf f.type)) = some y ∧ ∀ q ∈ DataW.weights P f.type y.1, q ≤ 140737488351232) →
    ∃ l : List CV, RKs (All W) W l (cs.drop o) ∧ l.length = sz ∧ good l
theorem at_one {f : Field} {o sz : Nat} {good : List CV → Prop} (ho : f.offset = o) (hc : P.cellsOf f.type = sz) (hf : Opens P f.type sz good) : OpensAt P [f] o sz good := by
  intro H enc W spare held n cs hl h
  obtain ⟨y, hy, hq⟩ := h f List.mem_cons_self
  obtain ⟨a, hK, hg⟩ := hf H enc W spare held n _ y hy hq
  rw [ho, hc, List.take_of_length_le (by rw [List.length_drop]; omega)] at hK
  exact ⟨a, hK, hg⟩
theorem at_cons {f : Field} {fs : List Field} {o sz sz' : Nat} {good good' : List CV → Prop} (ho : f.offset = o) (hc : P.cellsOf f.type = sz) (hf : Opens P f.type sz good) (hfs : OpensAt P fs (o + sz) sz' good') :
    OpensAt P (f :: fs) o (sz + sz') (isP good good') := by
  intro H enc W spare held n cs hl h
  obtain ⟨y, hy, hq⟩ := h f List.mem_cons_self
  obtain ⟨a, hK, hs, hg⟩ := hf H enc W spare held n _ y hy hq
  obtain ⟨b, hK', hs', hg'⟩ := hfs H enc W spare held n cs (by rw [hl]; omega) (fun f' hf' => h f' (List.mem_cons_of_mem _ hf'))
  rw [ho, hc] at hK
  refine ⟨a ++ b, ?_, by simp [hs, hs'], a, b, rfl, hg, hg'⟩
  have := rks_append hK hK'
  rwa [← List.drop_drop, List.take_append_drop] at this
theorem opens_struct {T : TypeId} {fs : Array Field} {sz : Nat} {good : List CV → Prop} (ht : P.underlying T = some (.struct fs)) (hc : P.cellsOf T = sz) (hf : OpensAt P fs.toList 0 sz good) : Opens P T sz good := by
  intro H enc W spare held fuel cs x h hq
  obtain ⟨xs, n, _, rfl, hl, hlen, hget⟩ := DataW.trod_struct ht h
  obtain ⟨a, hK, hg⟩ := hf H enc W spare held n cs (by rw [hl, hc, Nat.zero_add]) (fun f hfm => by
    obtain ⟨i, hi, rfl⟩ := List.getElem_of_mem hfm
    have hi' : i < fs.size := by simpa using hi
    have h1 := hget i fs[i] (by simp [hi'])
    have hi2 : i < xs.length := by omega
    refine ⟨xs[i], by rw [← List.getElem?_eq_getElem hi2, ← h1]; simp, fun q hq1 => hq q ?_⟩
    simp only [DataW.weights, ht]
    refine DataW.weights_mem_each (j := i) (t := fs[i].type) (d := xs[i].1) ?_ ?_ q (by simpa using hq1)
    · simp [hi']
    · simp [hi2])
  exact ⟨a, by simpa using hK, hg⟩

/-- An argument of type T is a closed value that is good. -/
def OpA (P : Program) (T : TypeId) (good : CA → Prop) : Prop :=
  ∀ (H : Type) (enc : TypeId × Value → H) (W : World) (base : Nat) (v : Value) (d : DataW H) (ps : List MemPlace), DataW.Trod enc P W 0 (fun _ => true) true T v d ps → Value.okWide P W .any base T v → (∀ q ∈ DataW.weights P T d, q ≤ 140737488351232) →
    ∃ a : CA, RK (All W) W a v ∧ good a

theorem opA_one {T : TypeId} {good : List CV → Prop} (hn : ∀ fs, P.underlying T ≠ some (.struct fs)) (hn2 : ∀ n e, P.underlying T ≠ some (.array n e)) (h : Opens P T 1 good) : OpA P T (fun a => ∃ x, a = .one x ∧ good [x]) := by
  intro H enc W base v d ps ⟨fuel, hf⟩ hok hq
  obtain ⟨l, hl, hs, hg⟩ := h H enc W _ _ fuel _ _ hf hq
  match l, hs with
  | [x], _ =>
    refine ⟨.one x, ?_, x, rfl, hg⟩
    have hl1 : v.cells.toList.length = 1 := by rw [← hl.1]; rfl
    have hv : v.cells = #[v] := by
      unfold Value.okWide at hok
      split at hok
      · rename_i fs h0; exact absurd h0 (hn fs)
      · rename_i n e h0; exact absurd h0 (hn2 _ _)
      · unfold Cell.okWide Cell.ok at hok
        cases v <;> first | rfl | (exfalso; revert hok; split <;> simp_all)
    rw [hv] at hl
    exact hl.2 0 x v rfl rfl
theorem opA_agg {T : TypeId} {fs : Array Field} {sz : Nat} {good : List CV → Prop} (ht : P.underlying T = some (.struct fs)) (h : Opens P T sz good) : OpA P T (fun a => ∃ l, a = .agg l ∧ l.length = sz ∧ good l) := by
  intro H enc W base v d ps ⟨fuel, hf⟩ hok hq
  obtain ⟨l, hl, hs, hg⟩ := h H enc W _ _ fuel _ _ hf hq
  refine ⟨.agg l, ?_, l, rfl, hs, hg⟩
  obtain ⟨cs, rfl, _⟩ := okWide_struct ht hok
  exact ⟨cs.toList, by simp, hl⟩

/-- The arguments of a function. -/
def OpAll (P : Program) (ts : List TypeId) (good : List CA → Prop) : Prop :=
  ∀ (H : Type) (enc : TypeId × Value → H) (W : World) (base : Nat) (vs : List Value) (ds : List (DataW H)) (ps : List MemPlace), DataW.TrodAll enc P W 0 (fun _ => true) true ts vs ds ps →
    (∀ (j : Nat) t v, ts[j]? = some t → vs[j]? = some v → Value.okWide P W .any base t v) → (∀ (j : Nat) t d, ts[j]? = some t → ds[j]? = some d → ∀ q ∈ DataW.weights P t d, q ≤ 140737488351232) →
    ∃ l : List CA, RKL (All W) W l vs ∧ good l
theorem opAll_nil : OpAll P [] (fun l => l = []) := by
  intro H enc W base vs ds ps h _ _
  obtain ⟨rfl, _, _⟩ := trodAll_nil h
  exact ⟨[], ⟨rfl, fun j x y hx => by simp at hx⟩, rfl⟩
theorem opAll_cons {T : TypeId} {ts : List TypeId} {g : CA → Prop} {gs : List CA → Prop} (h : OpA P T g) (hs : OpAll P ts gs) : OpAll P (T :: ts) (fun l => ∃ a r, l = a :: r ∧ g a ∧ gs r) := by
  intro H enc W base vs ds ps ht hok hq
  obtain ⟨v, vs, d, ds, p, q, rfl, rfl, rfl, h0, r0⟩ := trodAll_cons ht
  obtain ⟨a, hK, hg⟩ := h H enc W base v d p h0 (hok 0 T v rfl rfl) (hq 0 T d rfl rfl)
  obtain ⟨l, hL, hgs⟩ := hs H enc W base vs ds q r0 (fun j t v h1 h2 => hok (j + 1) t v h1 h2) (fun j t v h1 h2 => hq (j + 1) t v h1 h2)
  refine ⟨a :: l, ⟨by simp [hL.1], fun j x y hx hy => ?_⟩, a, l, rfl, hg, hgs⟩
  cases j with
  | zero => cases hx; cases hy; exact hK
  | succ j => exact hL.2 j x y hx hy

/-- Old memory reads as it did. -/
theorem trodAll_stays {H : Type} {enc : TypeId × Value → H} (hl : laidOutB P = true) {W W' : World} (hb : ∀ b, b < W.heap.size → W'.heap[b]? = W.heap[b]?) :
    ∀ {ts : List TypeId} {vs : List Value} {ds : List (DataW H)} {ps : List MemPlace}, ts.all (fun t => P.readableRec t && decide (t < P.types.size)) = true → DataW.TrodAll enc P W 0 (fun _ => true) true ts vs ds ps →
      DataW.TrodAll enc P W' 0 (fun b => decide (b < W.heap.size)) true ts vs ds ps
  | [], vs, ds, ps, _, h => by
    obtain ⟨rfl, rfl, rfl⟩ := trodAll_nil h
    exact trodAll_mk0
  | t :: ts, vs, ds, ps, hr, h => by
    obtain ⟨v, vs, d, ds, p, q, rfl, rfl, rfl, h0, r0⟩ := trodAll_cons h
    simp only [List.all_cons, Bool.and_eq_true, decide_eq_true_eq] at hr
    have lt0 : ∀ x ∈ p, x.block < W.heap.size := by obtain ⟨m, hm⟩ := h0; exact DataW.trod_lt m _ _ _ hm
    refine trodAll_cons_mk (WideElems.Trod_stays hl hr.1.1 hr.1.2 h0 (fun x hx => ?_) (fun x hx => by simpa using lt0 x hx)) (trodAll_stays hl hb hr.2 r0)
    have hlt := lt0 x hx
    exact (Below.same (W := W) (w' := { W with heap := W'.heap }) ⟨rfl, rfl, rfl, by
      rcases Nat.lt_or_ge W'.heap.size W.heap.size with h1 | h1
      · have := hb W'.heap.size h1
        rw [Array.getElem?_eq_none (Nat.le_refl _), Array.getElem?_eq_getElem h1] at this
        cases this
      · exact h1, hb⟩ hlt : W.sameAt { W with heap := W'.heap } x)

theorem kept_of {W W' : World} (hk : Stl W W') (hb : ∀ b, b < W.heap.size → W'.heap[b]? = W.heap[b]?) (may : MemPlace → Prop) : W.keptBut W' may := by
  refine ⟨hk.1.1, hk.2.1, fun i hi => ?_⟩
  rw [hb i hi]
  split <;> simp_all

/-- WHAT A FUNCTION TELLS of whatever arguments. -/
theorem lift_law {T : Tab} (hT : PuOk P T) {f : FuncId} {ts : List TypeId} {good : List CA → Prop} (hl : laidOutB P = true) (hr : ts.all (fun t => P.readableRec t && decide (t < P.types.size)) = true) (ho : OpAll P ts good)
    {r : CA} (hp : ∀ l, good l → T.pu f l = some r) {H : Type} {enc : TypeId × Value → H} {W : World} {base : Nat} {args : Array Value} {ds : List (DataW H)} {ps : List MemPlace} (ht : DataW.TrodAll enc P W 0 (fun _ => true) true ts args.toList ds ps)
    (hok : ∀ (j : Nat) t v, ts[j]? = some t → args[j]? = some v → Value.okWide P W .any base t v) (hq : ∀ (j : Nat) t d, ts[j]? = some t → ds[j]? = some d → ∀ q ∈ DataW.weights P t d, q ≤ 140737488351232) (hTb : Tabs W.heap.size W) :
    Calls P f args W fun e W' => ∃ v I', e = .returned v ∧ RK I' W' r v ∧ Stl W W' ∧ (∀ b, b < W.heap.size → W'.heap[b]? = W.heap[b]?) ∧ DataW.TrodAll enc P W' 0 (fun b => decide (b < W.heap.size)) true ts args.toList ds ps := by
  obtain ⟨l, hL, hg⟩ := ho H enc W base args.toList ds ps ht (fun j t v h1 h2 => hok j t v h1 (by simpa using h2)) hq
  obtain ⟨_, hc⟩ := hT f l r (hp l hg)
  have := hc (All W) W args.toList (fun _ h => h) hTb hL
  refine (show Calls P f args W _ from this).mono fun e W' he => ?_
  obtain ⟨v, I', rfl, _, _, _, _, hb, hk, hR⟩ := he
  exact ⟨v, I', rfl, hR, hk, hb, trodAll_stays hl hb hr ht⟩

theorem trodAll_len {H : Type} {enc : TypeId × Value → H} {W : World} {base : Nat} {spare : Nat → Bool} {held : Bool} : ∀ {ts : List TypeId} {vs : List Value} {ds : List (DataW H)} {ps : List MemPlace}, DataW.TrodAll enc P W base spare held ts vs ds ps → ds.length = ts.length
  | [], vs, ds, ps, h => by
    obtain ⟨_, rfl, _⟩ := trodAll_nil h
    rfl
  | t :: ts, vs, ds, ps, h => by
    obtain ⟨v, vs, d, ds, p, q, rfl, rfl, rfl, _, r0⟩ := trodAll_cons h
    rw [List.length_cons, List.length_cons, trodAll_len r0]
theorem weights_of {H : Type} {ts us : List TypeId} {ds gs : List (DataW H)} (hsz : (DataW.weightsEach P (ts ++ us) (ds ++ gs)).all (· ≤ reachBytes) = true) (j : Nat) (t : TypeId) (d : DataW H) (ht : ts[j]? = some t) (hd : ds[j]? = some d) :
    ∀ q ∈ DataW.weights P t d, q ≤ 140737488351232 := by
  intro q hq
  have h1 : (ts ++ us)[j]? = some t := by rw [List.getElem?_append_left (List.getElem?_eq_some_iff.1 ht).1]; exact ht
  have h2 : (ds ++ gs)[j]? = some d := by rw [List.getElem?_append_left (List.getElem?_eq_some_iff.1 hd).1]; exact hd
  have h3 := of_decide_eq_true (List.all_eq_true.1 hsz q (DataW.weights_mem_each h1 h2 q hq))
  simpa [reachBytes] using h3

/-- A list of good parts is the list of what they tell. -/
theorem map_of {α : Type} {f : α → List CV} {g : α → Prop} : ∀ {L : List (List CV)}, (∀ e ∈ L, ∃ a, e = f a ∧ g a) → ∃ xs : List α, L = xs.map f ∧ ∀ x ∈ xs, g x
  | [], _ => ⟨[], rfl, by simp⟩
  | e :: L, h => by
    obtain ⟨a, rfl, ha⟩ := h e List.mem_cons_self
    obtain ⟨xs, rfl, hx⟩ := map_of (L := L) fun e he => h e (List.mem_cons_of_mem _ he)
    exact ⟨a :: xs, rfl, fun x hx' => (List.mem_cons.1 hx').elim (fun h => h ▸ ha) (hx x)⟩

end Go.Proofs.Vm
end

section
/- How data of the laws' parameter types open as closed values. -/
namespace Go.Proofs.YtmgnmnogiajlgaaGreatF
open Go Go.Proofs.Vm
def good38 : List CV → Prop := isL 1 1 (isB)
theorem opens38 : Opens Tryz.prog 38 1 good38 := opens_slice Tryz.underlying38 (by kernel_rfl) (by decide) (by kernel_rfl) (opens_bool Tryz.underlying4)
def good45 : List CV → Prop := isP (isI .u64) (isP (isI .i64) ((good38)))
theorem opens45 : Opens Tryz.prog 45 3 good45 := opens_struct Tryz.underlying45 (by kernel_rfl) (at_cons (sz := 1) (sz' := 2) rfl (by kernel_rfl) (opens_int Tryz.underlying37) (at_cons (sz := 1) (sz' := 1) rfl (by kernel_rfl) (opens_int Tryz.underlying3) (at_one (sz := 1) rfl (by kernel_rfl) opens38)))
def good72 : List CV → Prop := isP (isS) (isP (isI .i64) (isP (isI .i64) ((isI .i64))))
theorem opens72 : Opens Tryz.prog 72 4 good72 := opens_struct Tryz.underlying72 (by kernel_rfl) (at_cons (sz := 1) (sz' := 3) rfl (by kernel_rfl) (opens_string Tryz.underlying9) (at_cons (sz := 1) (sz' := 2) rfl (by kernel_rfl) (opens_int Tryz.underlying3) (at_cons (sz := 1) (sz' := 1) rfl (by kernel_rfl) (opens_int Tryz.underlying3) (at_one (sz := 1) rfl (by kernel_rfl) (opens_int Tryz.underlying3)))))
def good70 : List CV → Prop := isL 4 40 (good72)
theorem opens70 : Opens Tryz.prog 70 1 good70 := opens_slice Tryz.underlying70 (by kernel_rfl) (by decide) (by kernel_rfl) opens72
def good46 : List CV → Prop := isL 1 24 (good70)
theorem opens46 : Opens Tryz.prog 46 1 good46 := opens_slice Tryz.underlying46 (by kernel_rfl) (by decide) (by kernel_rfl) opens70
def good48 : List CV → Prop := isP (isI .u64) (isP (good45) ((good46)))
theorem opens48 : Opens Tryz.prog 48 5 good48 := opens_struct Tryz.underlying48 (by kernel_rfl) (at_cons (sz := 1) (sz' := 4) rfl (by kernel_rfl) (opens_int Tryz.underlying37) (at_cons (sz := 3) (sz' := 1) rfl (by kernel_rfl) opens45 (at_one (sz := 1) rfl (by kernel_rfl) opens46)))
def good22 : List CV → Prop := isL 5 72 (good48)
theorem opens22 : Opens Tryz.prog 22 1 good22 := opens_slice Tryz.underlying22 (by kernel_rfl) (by decide) (by kernel_rfl) opens48
def good35 : List CV → Prop := isL 1 16 (isS)
theorem opens35 : Opens Tryz.prog 35 1 good35 := opens_slice Tryz.underlying35 (by kernel_rfl) (by decide) (by kernel_rfl) (opens_string Tryz.underlying9)
def goodsJointDecodes : List CA → Prop := (fun l => ∃ a r, l = a :: r ∧ (fun a => ∃ x, a = .one x ∧ good22 [x]) a ∧ (fun l => l = []) r)
theorem opensJointDecodes : OpAll Tryz.prog [22] goodsJointDecodes := (opAll_cons (opA_one (fun _ h => by rw [Tryz.underlying22] at h; cases h) (fun _ _ h => by rw [Tryz.underlying22] at h; cases h) opens22) opAll_nil)
def goodsJointCounts : List CA → Prop := (fun l => ∃ a r, l = a :: r ∧ (fun a => ∃ l, a = .agg l ∧ l.length = 5 ∧ good48 l) a ∧ (fun l => ∃ a r, l = a :: r ∧ (fun a => ∃ x, a = .one x ∧ good35 [x]) a ∧ (fun l => l = []) r) r)
theorem opensJointCounts : OpAll Tryz.prog [48, 35] goodsJointCounts := (opAll_cons (opA_agg Tryz.underlying48 opens48) (opAll_cons (opA_one (fun _ h => by rw [Tryz.underlying35] at h; cases h) (fun _ _ h => by rw [Tryz.underlying35] at h; cases h) opens35) opAll_nil))
def goodsJointReports : List CA → Prop := (fun l => ∃ a r, l = a :: r ∧ (fun a => ∃ x, a = .one x ∧ good22 [x]) a ∧ (fun l => l = []) r)
theorem opensJointReports : OpAll Tryz.prog [22] goodsJointReports := (opAll_cons (opA_one (fun _ h => by rw [Tryz.underlying22] at h; cases h) (fun _ _ h => by rw [Tryz.underlying22] at h; cases h) opens22) opAll_nil)
end Go.Proofs.YtmgnmnogiajlgaaGreatF
end

section
/-
  DERIVED: THE SHELF's CONTRACTS AT THIS DUMP, IN PLAIN WORDS (tools/lay-plain.mjs out of 'YtmgnmnogiajlgaaGreatShelfSrc.lean', which tools/lay-shelf.mjs wrote): THE SAME DECLARATIONS UNDER THE SAME NAMES: 'import', 'namespace', 'open', 'def', 'theorem' AND NOTHING ELSE: no command of the shelf's: FOR A HAND-IN. Each laying: the table of numbers ('.._ren') and one theorem, a field a fact of the dump's own or the kernel's comparison; each contract: ONE APPLICATION.
-/
namespace Go.Proofs
open Go.Shelf
def Tryz.lays190_ren : Go.Shelf.Ren := ⟨fun | 190 => 29 | 125 => 63 | 258 => 62 | 128 => 100 | 129 => 101 | 302 => 91 | 303 => 92 | 304 => 93 | 305 => 94 | 306 => 95 | 307 => 96 | 308 => 97 | 309 => 98 | 310 => 99 | 333 => 117 | 329 => 118 | 330 => 119 | 334 => 120 | 335 => 121 | 336 => 122 | 344 => 128 | n => n, fun | 31 => 35 | 9 => 9 | 3 => 3 | 46 => 116 | 0 => 0 | 51 => 149 | 53 => 37 | 4 => 4 | 183 => 141 | 182 => 140 | 131 => 146 | 5 => 5 | 218 => 165 | 222 => 169 | 228 => 174 | 229 => 175 | n => n, fun | n => n⟩
theorem Tryz.lays190 : Go.Proofs.Lays.n190 Tryz.prog Tryz.lays190_ren := {
  mixed := by kernel_rfl
  f125 := Tryz.func63.trans (congrArg some (by kernel_rfl))
  f128 := Tryz.func100.trans (congrArg some (by kernel_rfl))
  f129 := Tryz.func101.trans (congrArg some (by kernel_rfl))
  f190 := Tryz.func29.trans (congrArg some (by kernel_rfl))
  f258 := Tryz.func62.trans (congrArg some (by kernel_rfl))
  f302 := Tryz.func91.trans (congrArg some (by kernel_rfl))
  f303 := Tryz.func92.trans (congrArg some (by kernel_rfl))
  f304 := Tryz.func93.trans (congrArg some (by kernel_rfl))
  f305 := Tryz.func94.trans (congrArg some (by kernel_rfl))
  f306 := Tryz.func95.trans (congrArg some (by kernel_rfl))
  f307 := Tryz.func96.trans (congrArg some (by kernel_rfl))
  f308 := Tryz.func97.trans (congrArg some (by kernel_rfl))
  f309 := Tryz.func98.trans (congrArg some (by kernel_rfl))
  f310 := Tryz.func99.trans (congrArg some (by kernel_rfl))
  f329 := Tryz.func118.trans (congrArg some (by kernel_rfl))
  f330 := Tryz.func119.trans (congrArg some (by kernel_rfl))
  f333 := Tryz.func117.trans (congrArg some (by kernel_rfl))
  f334 := Tryz.func120.trans (congrArg some (by kernel_rfl))
  f335 := Tryz.func121.trans (congrArg some (by kernel_rfl))
  f336 := Tryz.func122.trans (congrArg some (by kernel_rfl))
  f344 := Tryz.func128.trans (congrArg some (by kernel_rfl))
  t0 := Tryz.underlying0
  a0 := Tryz.isAgg0
  z0 := Tryz.sizeOf0
  v0 := Tryz.zeroValue0
  t3 := Tryz.underlying3
  a3 := Tryz.isAgg3
  z3 := Tryz.sizeOf3
  v3 := Tryz.zeroValue3
  t4 := Tryz.underlying4
  a4 := Tryz.isAgg4
  z4 := Tryz.sizeOf4
  v4 := Tryz.zeroValue4
  t5 := Tryz.underlying5
  a5 := Tryz.isAgg5
  z5 := Tryz.sizeOf5
  v5 := Tryz.zeroValue5
  t9 := Tryz.underlying9
  a9 := Tryz.isAgg9
  z9 := Tryz.sizeOf9
  v9 := Tryz.zeroValue9
  t31 := Tryz.underlying35
  a31 := Tryz.isAgg35
  z31 := Tryz.sizeOf35
  v31 := Tryz.zeroValue35
  t46 := Tryz.underlying116
  a46 := Tryz.isAgg116
  z46 := Tryz.sizeOf116
  v46 := Tryz.zeroValue116
  t51 := Tryz.underlying149
  a51 := Tryz.isAgg149
  z51 := Tryz.sizeOf149
  v51 := Tryz.zeroValue149
  t53 := Tryz.underlying37
  a53 := Tryz.isAgg37
  z53 := Tryz.sizeOf37
  v53 := Tryz.zeroValue37
  t131 := Tryz.underlying146
  a131 := Tryz.isAgg146
  z131 := Tryz.sizeOf146
  v131 := Tryz.zeroValue146
  t182 := Tryz.underlying140
  a182 := Tryz.isAgg140
  z182 := Tryz.sizeOf140
  v182 := Tryz.zeroValue140
  t183 := Tryz.underlying141
  a183 := Tryz.isAgg141
  z183 := Tryz.sizeOf141
  v183 := Tryz.zeroValue141
  t218 := Tryz.underlying165
  a218 := Tryz.isAgg165
  z218 := Tryz.sizeOf165
  v218 := Tryz.zeroValue165
  t222 := Tryz.underlying169
  a222 := Tryz.isAgg169
  z222 := Tryz.sizeOf169
  v222 := Tryz.zeroValue169
  t228 := Tryz.underlying174
  a228 := Tryz.isAgg174
  z228 := Tryz.sizeOf174
  v228 := Tryz.zeroValue174
  t229 := Tryz.underlying175
  a229 := Tryz.isAgg175
  z229 := Tryz.sizeOf175
  v229 := Tryz.zeroValue175 }
open Go.Sort Go.RowKit in
theorem Tryz.slices_Sort_string (blk off cap : Nat) (ss : List (List UInt8)) (w : World) (hH : Holds encStr w blk off ss.toArray) (hblk : blk < w.heap.size) (hsz : ss.length < 4611686018427387904) :
    Calls Tryz.prog 29 #[.slice (some ⟨blk, off, none⟩) ss.length cap] w fun e w' =>
      e = .returned (.tuple #[]) ∧ ∃ n os, w' = grow (putRow encStr (Sort.ahead w n) blk off (ss.mergeSort fun x y => decide (x ≤ y)).toArray) os := Any.slices_Sort_string Tryz.lays190 blk off cap ss w hH hblk hsz
open Go.RowKit Go.Sort in
/-- .. and plain. (LAID: no walk: one application.) -/
theorem Tryz.slices_Sort_string_none (p : Option Addr) (cap : Nat) (w : World) :
    Calls Tryz.prog 29 #[.slice p 0 cap] w fun e w' => e = .returned (.tuple #[]) ∧ w' = w := Any.slices_Sort_string_none Tryz.lays190 p cap w
end Go.Proofs
end

section
/- What the library tells of items sorted by a function, and of strings compared. -/
namespace Go.Proofs.Vm
open Go

variable {P : Program}

abbrev Itm := ByteArray × Int
def encI (x : Itm) : List Value := [.string x.1, .int .i64 x.2]
def cItm (x : Itm) : List CV := [.v (.string x.1), .v (.int .i64 x.2)]
def itmOf : List CV → Option Itm
  | [.v (.string s), .v (.int .i64 n)] => some (s, n)
  | _ => none
def isort (cf : Itm → Itm → Int) (l : List Itm) : List Itm := l.mergeSort fun x y => decide (cf x y ≤ 0)

theorem mapO_itm : ∀ xs : List Itm, mapO itmOf (xs.map cItm) = some xs
  | [] => rfl
  | x :: xs => by
    rw [List.map_cons]
    simp only [mapO, mapO_itm xs]
    rfl
theorem mapO_itm_inv : ∀ {l : List (List CV)} {xs : List Itm}, mapO itmOf l = some xs → l = xs.map cItm
  | [], xs, h => by cases h; rfl
  | e :: l, xs, h => by
    simp only [mapO] at h
    split at h
    · rename_i y m h1 h2
      cases h
      rw [List.map_cons, mapO_itm_inv h2]
      congr 1
      unfold itmOf at h1
      split at h1
      · cases h1; rfl
      · cases h1
    · cases h

def sortFRun (go : FuncId) (cf : Itm → Itm → Int) (args : List AV) (H : Hp) : Option (AV × Hp) :=
  match args with
  | [.one (.sl id 0 n tot), .one (.fn g [])] => if g = go then match H[id]? with
    | some (.clo l false) => match mapO itmOf l with
      | some xs => if n = tot ∧ l.length = tot ∧ tot < 4611686018427387904 then some (und, H.set id (.clo ((isort cf xs).map cItm) false)) else none
      | none => none
    | _ => none
    else none
  | _ => none

def cmpB (a b : ByteArray) : Int := Lib.compareBytes a.data.toList b.data.toList
def cmpRun (args : List CA) : Option CA :=
  match args with
  | [.one (.v (.string a)), .one (.v (.string b))] => some (cI .i64 (cmpB a b))
  | _ => none

/-- A clone of an own slice of none, whether it is nil or not. -/
def clone0Run (args : List AV) (H : Hp) : Option (AV × Hp) :=
  match args with
  | [.one (.sl id 0 0 0)] => if lenIs H id 0 = true then some (.one (.sl (H.length + 1) 0 0 0), H ++ [.clo [] false, .clo [] false]) else none
  | _ => none
def itmTab (gs go gc gl : FuncId) (cf : Itm → Itm → Int) : Tab := ⟨fun f args => if f = gc then cmpRun args else none, fun f args H => if f = gs then sortFRun go cf args H else if f = gl then clone0Run args H else none, false⟩
/-- The same of a function's slices of none as they are. -/
def Clone0 (P : Program) (gl : FuncId) : Prop := ∀ (ad : Option Addr) (cap : Nat) (H : Hp), SCtr P gl [.one (.c (.v (.slice ad 0 cap)))] H (.one (.sl (H.length + 1) 0 0 0)) (H ++ [.clo [] false, .clo [] false])

def SortsF (P : Program) (gs go : FuncId) (cf : Itm → Itm → Int) : Prop := ∀ (blk off cap : Nat) (d : List Itm) (w : World), (∃ n, n ≤ blk ∧ n ≤ w.heap.size ∧ Tabs n w) → Sort.HoldsK encI 2 w blk off d.toArray → blk < w.heap.size → d.length < 4611686018427387904 →
  Calls P gs #[.slice (some ⟨blk, off, none⟩) d.length cap, .func (.func go) #[] #[]] w fun e w' => e = .returned (.tuple #[]) ∧ ∃ n os, w' = sortWorldK encI 2 w blk off n (isort cf d).toArray os
def SortsF0 (P : Program) (gs go : FuncId) : Prop := ∀ (p : Option Addr) (cap : Nat) (w : World), Calls P gs #[.slice p 0 cap, .func (.func go) #[] #[]] w fun e w' => e = .returned (.tuple #[]) ∧ w' = w
def CmpS (P : Program) (gc : FuncId) : Prop := ∀ (a b : ByteArray) (w : World), Calls P gc #[.string a, .string b] w fun e w' => e = .returned (.int .i64 (cmpB a b)) ∧ w' = w

def cmpTab (gc : FuncId) : Tab := ⟨fun f args => if f = gc then cmpRun args else none, fun _ _ _ => none, false⟩
theorem cmpPu_ok {gc : FuncId} (hfc : FnOk P gc) (hc : CmpS P gc) : PuOk P (cmpTab gc) := by
  intro f args r h
  simp only [cmpTab] at h
  split at h
  case isFalse => cases h
  rename_i hfg
  subst hfg
  unfold cmpRun at h
  split at h
  case h_2 => cases h
  rename_i a b
  cases h
  refine ⟨hfc, fun I w vals hI _ hv => ?_⟩
  have hl : vals.length = 2 := by rw [← hv.1]; rfl
  match vals, hl with
  | [x, y], _ =>
  have hx : RK I w (.one (.v (.string a))) x := hv.2 0 _ _ rfl rfl
  have hy : RK I w (.one (.v (.string b))) y := hv.2 1 _ _ rfl rfl
  have ex : x = .string a := by cases hx; rfl
  have ey : y = .string b := by cases hy; rfl
  subst ex; subst ey
  refine (hc a b w).mono fun e w' hh => ?_
  obtain ⟨rfl, rfl⟩ := hh
  exact ⟨_, I, rfl, fun _ h => h, fun _ h => .inl h, hI, Nat.le_refl _, fun _ _ => rfl, .refl _, .v _ rfl⟩
theorem cmpTab_ok {gc : FuncId} (hfc : FnOk P gc) (hc : CmpS P gc) : TOk P (cmpTab gc) := ⟨cmpPu_ok hfc hc, fun f args H r H' h => (by cases h)⟩

theorem flat_get (d : List Itm) (i j : Nat) (hi : i < d.length) (hj : j < 2) : (Sort.flatK encI 2 d.toArray)[i * 2 + j]! = (encI d[i])[j]'(by simpa [encI] using hj) := by
  rw [Sort.get_flatK _ _ _ _ (by simp; omega), show (i * 2 + j) / 2 = i by omega, show (i * 2 + j) % 2 = j by omega]
  have : d.toArray[i]! = d[i] := by simp [hi]
  rw [this, getElem!_pos (encI d[i]) j (by simpa [encI] using hj)]

theorem itmTab_ok {gs go gc gl : FuncId} {cf : Itm → Itm → Int} (hnc : isCl P gs = false) (hfc : FnOk P gc) (hc : CmpS P gc) (hf : FnOk P gs) (h1 : SortsF P gs go cf) (h2 : SortsF0 P gs go) (hfl : FnOk P gl) (h3 : Clone0 P gl) : TOk P (itmTab gs go gc gl cf) := by
  refine ⟨fun f args r h => cmpPu_ok hfc hc f args r h, fun f args H r H' h => ?_⟩
  simp only [itmTab] at h
  split at h
  case isFalse =>
    split at h
    case isFalse => cases h
    rename_i hfg
    subst hfg
    unfold clone0Run at h
    split at h
    case h_2 => cases h
    rename_i id
    split at h
    case isFalse => cases h
    rename_i hlen
    cases h
    refine ⟨by simp, hfl, ?_⟩
    intro X S M hX hD vals hv
    subst hX
    have hv1 : vals.length = 1 := by rw [← hv.1]; rfl
    match vals, hv1 with
    | [v], _ =>
    have hr : RCell X (.sl id 0 0 0) v := hv.2 0 _ v rfl rfl
    obtain ⟨h1', hd, e0, he0, _, _, hp⟩ := hr
    have hl0 : e0.len = 0 := by
      unfold lenIs at hlen
      rw [he0] at hlen
      simpa using hlen
    obtain ⟨ad, cap, rfl, _⟩ := hp hl0
    exact h3 ad cap X.H X S M rfl hD _ ⟨rfl, fun j p y hj hy => by
      cases j with
      | zero =>
        cases hj; cases hy
        exact .v _ h1'
      | succ j => cases hj⟩
  rename_i hfg
  subst hfg
  unfold sortFRun at h
  split at h
  case h_2 => cases h
  rename_i id n tot g
  split at h
  case isFalse => cases h
  rename_i hgg
  subst hgg
  split at h
  case h_2 => cases h
  rename_i l hl
  split at h
  case h_2 => cases h
  rename_i xs hxs
  split at h
  case isFalse => cases h
  rename_i hcc
  obtain ⟨rfl, hlt, hsz⟩ := hcc
  cases h
  have hlx := mapO_itm_inv hxs
  have hxl : xs.length = n := by rw [← hlt, hlx, List.length_map]
  refine ⟨⟨by simp, fun h => by rw [hnc] at h; cases h⟩, hf, ?_⟩
  intro X S M hX hD vals hv
  subst hX
  have hv1 : vals.length = 2 := by rw [← hv.1]; rfl
  match vals, hv1 with
  | [v, fv], _ =>
  have hr : RCell X (.sl id 0 n n) v := hv.2 0 _ v rfl rfl
  have hfv : RCell X (.fn g []) fv := hv.2 1 _ fv rfl rfl
  obtain ⟨vs, rfl, hvs, _⟩ := hfv
  have hvs0 : vs = [] := List.length_eq_zero_iff.1 hvs.symm
  subst hvs0
  obtain ⟨_, hd, e0, he0, _, _, hp⟩ := hr
  rw [hl] at he0
  cases he0
  obtain ⟨ad, cap, rfl, hcap, hne, _⟩ := hp hlt
  have hent := S.ent _ _ hd hl
  have hlen' : (isort cf xs).length = xs.length := List.length_mergeSort _
  have hylen : ((isort cf xs).map cItm).length = l.length := by rw [List.length_map, hlen', hlx, List.length_map]
  by_cases h0 : n = 0
  · subst h0
    have hxe : xs = [] := List.length_eq_zero_iff.1 hxl
    subst hxe
    refine (h2 ad cap X.w).mono fun e w' hh => ?_
    obtain ⟨rfl, rfl⟩ := hh
    refine ⟨_, X, rfl, rfl, .refl S M, ?_, fun id => by rw [hD]; simp, ⟨[], rfl, rfl, fun j p y hp => by simp at hp⟩⟩
    rw [isort, List.mergeSort_nil]
    simp only [List.map_nil] at hlx ⊢
    rw [hlx] at hl
    exact (set_same hl).symm
  · obtain ⟨b, hb, rfl⟩ := hne h0
    rcases hent.2 with ⟨h3, _⟩ | ⟨b', c, ty, fr, g1, g2, g3, g4, g5, g6, g7, g8, g9, g10⟩
    · exact absurd (hlt.symm.trans h3) h0
    rw [hb] at g1
    cases g1
    have hsz1 : (X.σ id).sz = 2 := by
      cases l with
      | nil => exact absurd hlt.symm h0
      | cons e l =>
        have := hent.1 e List.mem_cons_self
        cases xs with
        | nil => simp at hlx
        | cons x xs =>
          rw [List.map_cons] at hlx
          cases hlx
          exact this.symm
    rw [hsz1] at g5 g10
    have hblk := S.blk M id b hd hb
    have hcell : ∀ i j, ∀ hi : i < xs.length, ∀ hj : j < 2, c[i * 2 + j]? = some ((encI xs[i])[j]'(by simpa [encI] using hj)) := by
      intro i j hi hj
      obtain ⟨v, h3, e, x, h4, h5, h6⟩ := g10 i j (by omega) hj
      rw [hlx, List.getElem?_map, List.getElem?_eq_getElem hi] at h4
      cases h4
      rw [h3]
      match j, hj with
      | 0, _ => cases h5; cases h6; rfl
      | 1, _ => cases h5; cases h6; rfl
    have hH : Sort.HoldsK encI 2 X.w b 0 xs.toArray := by
      intro j hj
      have hj : j < xs.length * 2 := by simpa using hj
      have hc1 := hcell (j / 2) (j % 2) (by omega) (by omega)
      have hf1 := flat_get xs (j / 2) (j % 2) (by omega) (by omega)
      rw [show j / 2 * 2 + j % 2 = j by omega] at hc1 hf1
      refine ⟨?_, g4 _ ?_⟩
      · unfold World.cell?
        simp only [g3]
        rw [if_neg (by simp), Nat.zero_add, hc1, hf1]
        rfl
      · have := (Array.getElem?_eq_some_iff.1 hc1).1
        omega
    rw [Nat.zero_mul, ← hxl]
    refine (h1 b 0 cap xs X.w ⟨X.base, g7, S.size, S.tab.mono S.old (Nat.le_refl _)⟩ hH hblk.1 (by omega)).mono fun e w' hh => ?_
    obtain ⟨rfl, m, os, rfl⟩ := hh
    generalize hys : isort cf xs = ys at hlen' hylen
    let F := Sort.flatK encI 2 ys.toArray
    have hFs : F.size = ys.length * 2 := by simp [F]
    let w' := sortWorldK encI 2 X.w b 0 m ys.toArray os
    have hms : (X.w.heap.modify b (Sort.onCells (Sort.putCells _root_.id 0 F))).size = X.w.heap.size := by simp
    have hheap : ∀ k, k < X.w.heap.size → w'.heap[k]? = (X.w.heap.modify b (Sort.onCells (Sort.putCells _root_.id 0 F)))[k]? := by
      intro k hk
      show (X.w.heap.modify b _ ++ os)[k]? = _
      rw [Array.getElem?_append_left (by simpa using hk)]
    have hself : w'.heap[b]? = some (.cells (Sort.putCells _root_.id 0 F c) ty fr) := by
      rw [hheap b hblk.1, Array.getElem?_modify, if_pos rfl, g3]
      rfl
    have hoth : ∀ k, k < X.w.heap.size → k ≠ b → w'.heap[k]? = X.w.heap[k]? := by
      intro k hk hkb
      rw [hheap k hk, Array.getElem?_modify, if_neg (fun e => hkb e.symm)]
    let Y : Cx := { X with H := X.H.set id (.clo (ys.map cItm) false), w := w' }
    have W : Wrote X Y id := ⟨rfl, rfl, fun _ => Iff.rfl, fun _ _ _ => rfl, rfl, fun i hi => set_get hi, by
      show X.w.heap.size ≤ (X.w.heap.modify b _ ++ os).size
      rw [Array.size_append, Array.size_modify]
      exact Nat.le_add_right _ _, fun k hk hkb => hoth k hk (hkb b hb), ⟨_, _, hl, set_self hl, by simp only [Ent.len]; omega, fun _ => rfl, fun l h => by cases h⟩, hd, ⟨⟨rfl, rfl⟩, rfl, Nat.le_add_right _ _⟩, fun k hk => by rw [hb] at hk; cases hk; exact g9 rfl⟩
    have SY : SR Y := W.sr S M (fun e h => by
      have : Y.H[id]? = some (.clo (ys.map cItm) false) := set_self hl
      rw [this] at h
      cases h
      refine ⟨fun e he => ?_, .inr ⟨b, _, ty, fr, hb, g2, hself, fun o ho => ?_, ?_, by rw [hylen]; exact g6, g7, (fun h => by cases h), g9, fun i j hi hj => ?_⟩⟩
      · obtain ⟨y, _, rfl⟩ := List.mem_map.1 he
        show 2 = (X.σ id).sz
        rw [hsz1]
      · have := g4 o (by simpa [Sort.putCells] using ho)
        unfold World.frozen? at this ⊢
        rw [g3] at this
        rw [hself]
        exact this
      · show (Sort.putCells _root_.id 0 F c).size = (X.σ id).cap * (X.σ id).sz
        rw [hsz1, ← g5]
        simp [Sort.putCells]
      · have hj : j < (X.σ id).sz := hj
        rw [hsz1] at hj
        have hi' : i < ys.length := by simpa using hi
        have hic : i * 2 + j < c.size := by rw [g5]; have := g6.2; rw [hylen] at hi; omega
        have hfg := flat_get ys i j hi' hj
        refine ⟨(encI ys[i])[j]'(by simpa [encI] using hj), ?_, cItm ys[i], .v ((encI ys[i])[j]'(by simpa [encI] using hj)), by rw [List.getElem?_map, List.getElem?_eq_getElem hi']; rfl, ?_, ?_⟩
        · show (Sort.putCells _root_.id 0 F c)[i * (X.σ id).sz + j]? = _
          rw [hsz1, Sort.putCells, Array.getElem?_mapIdx, Array.getElem?_eq_getElem hic, Option.map_some, if_pos ⟨Nat.zero_le _, by rw [hFs]; omega⟩]
          show some (_root_.id F[i * 2 + j - 0]!) = _
          rw [Nat.sub_zero, hfg]
          rfl
        · match j, hj with
          | 0, _ => rfl
          | 1, _ => rfl
        · match j, hj with
          | 0, _ => exact .v _ rfl
          | 1, _ => exact .v _ rfl) (fun b' h => .inl h)
    exact ⟨_, Y, rfl, rfl, W.nxt S M SY, rfl, fun id => by rw [show Y.D = X.D from rfl, hD]; simp, ⟨[], rfl, rfl, fun j p y hp => by simp at hp⟩⟩

end Go.Proofs.Vm
end

section
/- How items stand: the greater count first, of one count the lesser key. -/
namespace Go.Proofs.Vm
open Go

def cmpI (x y : Int) : Int := if x < y then -1 else if x > y then 1 else 0
def ordI (a b : Itm) : Int := if cmpI b.2 a.2 ≠ 0 then cmpI b.2 a.2 else cmpB a.1 b.1

theorem cb_eq : ∀ a b : List UInt8, Lib.compareBytes a b = 0 ↔ a = b
  | [], [] => by simp [Lib.compareBytes]
  | [], _ :: _ => by simp [Lib.compareBytes]
  | _ :: _, [] => by simp [Lib.compareBytes]
  | a :: ar, b :: br => by
    unfold Lib.compareBytes
    by_cases h1 : a < b
    · rw [if_pos h1]
      refine ⟨fun h => absurd h (by decide), fun h => ?_⟩
      cases h
      exact absurd h1 (UInt8.lt_irrefl _)
    · rw [if_neg h1]
      by_cases h2 : b < a
      · rw [if_pos h2]
        refine ⟨fun h => absurd h (by decide), fun h => ?_⟩
        cases h
        exact absurd h2 (UInt8.lt_irrefl _)
      · rw [if_neg h2, cb_eq ar br]
        have : a = b := UInt8.le_antisymm (UInt8.not_lt.1 h2) (UInt8.not_lt.1 h1)
        subst this
        simp
theorem cb_neg : ∀ a b : List UInt8, Lib.compareBytes b a = - Lib.compareBytes a b
  | [], [] => by simp [Lib.compareBytes]
  | [], _ :: _ => by simp [Lib.compareBytes]
  | _ :: _, [] => by simp [Lib.compareBytes]
  | a :: ar, b :: br => by
    unfold Lib.compareBytes
    by_cases h1 : a < b
    · rw [if_neg (UInt8.lt_asymm h1), if_pos h1, if_pos h1]; rfl
    · rw [if_neg h1, if_neg h1]
      by_cases h2 : b < a
      · rw [if_pos h2, if_pos h2]
      · rw [if_neg h2, if_neg h2]
        exact cb_neg ar br
theorem cb_trans : ∀ a b c : List UInt8, Lib.compareBytes a b < 0 → Lib.compareBytes b c < 0 → Lib.compareBytes a c < 0
  | [], _, [], h1, h2 => by
    rename_i b
    cases b with
    | nil => simp [Lib.compareBytes] at h1
    | cons x b => simp [Lib.compareBytes] at h2
  | [], _, _ :: _, _, _ => by simp [Lib.compareBytes]
  | _ :: _, [], _, h1, _ => by simp [Lib.compareBytes] at h1
  | _ :: _, _ :: _, [], _, h2 => by simp [Lib.compareBytes] at h2
  | a :: ar, b :: br, c :: cr, h1, h2 => by
    unfold Lib.compareBytes at h1 h2 ⊢
    by_cases a1 : a < b
    · by_cases b1 : b < c
      · rw [if_pos (UInt8.lt_trans a1 b1)]; decide
      · rw [if_neg b1] at h2
        by_cases b2 : c < b
        · rw [if_pos b2] at h2; exact absurd h2 (by decide)
        · have : b = c := UInt8.le_antisymm (UInt8.not_lt.1 b2) (UInt8.not_lt.1 b1)
          subst this
          rw [if_pos a1]; decide
    · rw [if_neg a1] at h1
      by_cases a2 : b < a
      · rw [if_pos a2] at h1; exact absurd h1 (by decide)
      · have : a = b := UInt8.le_antisymm (UInt8.not_lt.1 a2) (UInt8.not_lt.1 a1)
        subst this
        rw [if_neg (UInt8.lt_irrefl _)] at h1
        by_cases b1 : a < c
        · rw [if_pos b1]; decide
        · rw [if_neg b1] at h2 ⊢
          by_cases b2 : c < a
          · rw [if_pos b2] at h2; exact absurd h2 (by decide)
          · rw [if_neg b2] at h2 ⊢
            exact cb_trans ar br cr (by simpa using h1) h2

theorem cmpB_eq {a b : ByteArray} : cmpB a b = 0 ↔ a = b := by
  unfold cmpB
  rw [cb_eq]
  constructor
  · intro h
    have := Array.toList_inj.1 h
    cases a; cases b; simp_all
  · intro h; rw [h]
theorem cmpB_neg (a b : ByteArray) : cmpB b a = - cmpB a b := cb_neg _ _
theorem cmpI_neg (x y : Int) : cmpI y x = - cmpI x y := by
  unfold cmpI; split <;> split <;> (try split) <;> omega
theorem ordI_neg (a b : Itm) : ordI b a = - ordI a b := by
  unfold ordI
  rw [cmpI_neg b.2 a.2, cmpB_neg a.1 b.1]
  split <;> split <;> omega
theorem ordI_eq {a b : Itm} : ordI a b = 0 ↔ a = b := by
  unfold ordI
  constructor
  · intro h
    split at h
    · contradiction
    · rename_i h1
      have h2 : cmpI b.2 a.2 = 0 := by omega
      have h3 : b.2 = a.2 := by unfold cmpI at h2; split at h2; · omega
                                split at h2 <;> omega
      exact Prod.ext (cmpB_eq.1 h) h3.symm
  · intro h
    subst h
    have : cmpI a.2 a.2 = 0 := by unfold cmpI; rw [if_neg (by omega), if_neg (by omega)]
    rw [this]
    simp only [ne_eq, not_true_eq_false, if_false]
    exact cmpB_eq.2 rfl
/-- One stands ahead of another. -/
theorem ordI_lt {a b : Itm} : ordI a b < 0 ↔ b.2 < a.2 ∨ b.2 = a.2 ∧ cmpB a.1 b.1 < 0 := by
  unfold ordI cmpI
  by_cases h1 : b.2 < a.2
  · simp [h1]
  · by_cases h2 : b.2 > a.2
    · rw [if_neg h1, if_pos h2]
      simp; omega
    · rw [if_neg h1, if_neg h2]
      have : b.2 = a.2 := by omega
      simp [this]
theorem ordI_trans {a b c : Itm} (h1 : ordI a b < 0) (h2 : ordI b c < 0) : ordI a c < 0 := by
  rw [ordI_lt] at *
  rcases h1 with h1 | ⟨h1, k1⟩
  · rcases h2 with h2 | ⟨h2, _⟩
    · left; omega
    · left; omega
  · rcases h2 with h2 | ⟨h2, k2⟩
    · left; omega
    · right
      exact ⟨by omega, cb_trans _ _ _ k1 k2⟩
theorem ordI_le_trans (a b c : Itm) (h1 : ordI a b ≤ 0) (h2 : ordI b c ≤ 0) : ordI a c ≤ 0 := by
  by_cases e1 : ordI a b = 0
  · rw [ordI_eq] at e1; subst e1; exact h2
  · by_cases e2 : ordI b c = 0
    · rw [ordI_eq] at e2; subst e2; exact h1
    · have := ordI_trans (show ordI a b < 0 by omega) (show ordI b c < 0 by omega)
      omega
theorem ordI_total (a b : Itm) : ordI a b ≤ 0 ∨ ordI b a ≤ 0 := by
  have := ordI_neg a b
  omega

theorem bl_cb : ∀ a b : List UInt8, Op.bytesLess a b = decide (Lib.compareBytes a b < 0)
  | [], [] => by simp [Op.bytesLess, Lib.compareBytes]
  | _ :: _, [] => by simp [Op.bytesLess, Lib.compareBytes]
  | [], _ :: _ => by simp [Op.bytesLess, Lib.compareBytes]
  | a :: x, b :: y => by
    unfold Op.bytesLess Lib.compareBytes
    by_cases h1 : a < b
    · simp [h1]
    · by_cases h2 : b < a
      · have : ¬ a = b := fun e => by subst e; exact absurd h2 (UInt8.lt_irrefl _)
        simp [h1, h2, this]
      · have : a = b := UInt8.le_antisymm (UInt8.not_lt.1 h2) (UInt8.not_lt.1 h1)
        subst this
        simp [h1, bl_cb x y]
theorem bl_cmpB (a b : ByteArray) : Op.bytesLess a.toList b.toList = decide (cmpB a b < 0) := by
  rw [bl_cb, toList_eq, toList_eq]; rfl

end Go.Proofs.Vm
end

section
/- Maps from strings to numbers, with their stamps, told as they are used. -/
namespace Go.Proofs.Vm
open Go

variable {P : Program}

/-! Maps from strings to numbers. -/
def mget (k : ByteArray) : SM → Option Int
  | [] => none
  | p :: r => if k = p.1 then some p.2 else mget k r
def mput (k : ByteArray) (v : Int) (m : SM) : SM := match mIx k m with
  | some j => m.set j (k, v)
  | none => m ++ [(k, v)]
def mdel (k : ByteArray) (m : SM) : SM := match mIx k m with
  | some j => m.eraseIdx j
  | none => m

/-- A map with its stamps, and the next stamp. -/
structure MS where
  m : SM
  b : List Int
  ck : Nat
structure MS.Ok (M : MS) : Prop where
  len : M.b.length = M.m.length
  nd : M.b.Nodup
  lt : ∀ x ∈ M.b, x < (M.ck : Int)
def MS.ent (M : MS) : Ent := .mp (M.ck, cM M.m M.b)
def MS.put (M : MS) (k : ByteArray) (v : Int) : MS := match mIx k M.m with
  | some _ => ⟨mput k v M.m, M.b, M.ck⟩
  | none => ⟨mput k v M.m, M.b ++ [(M.ck : Int)], M.ck + 1⟩
def MS.del (M : MS) (k : ByteArray) : MS := match mIx k M.m with
  | some j => ⟨mdel k M.m, M.b.eraseIdx j, M.ck⟩
  | none => M
def MS.stamp (M : MS) (k : ByteArray) : Int := match mIx k M.m with
  | some j => M.b[j]?.getD 0
  | none => 0
def MS.empty : MS := ⟨[], [], 0⟩
theorem MS.empty_ok : MS.empty.Ok := ⟨rfl, List.nodup_nil, fun x h => by cases h⟩
theorem MS.empty_ent : MS.empty.ent = .mp (0, []) := rfl
@[simp] theorem MS.put_m (M : MS) (k : ByteArray) (v : Int) : (M.put k v).m = mput k v M.m := by unfold MS.put; split <;> rfl
@[simp] theorem MS.del_m (M : MS) (k : ByteArray) : (M.del k).m = mdel k M.m := by
  unfold MS.del
  split
  · rfl
  · rename_i h; unfold mdel; rw [h]

theorem mIx_lt {k : ByteArray} : ∀ {m : SM} {j : Nat}, mIx k m = some j → ∃ h : j < m.length, m[j].1 = k ∧ mget k m = some m[j].2
  | [], j, h => by cases h
  | p :: r, j, h => by
    unfold mIx at h
    by_cases hk : k = p.1
    · rw [if_pos hk] at h
      cases h
      exact ⟨Nat.succ_pos _, hk.symm, by show mget k (p :: r) = some p.2; unfold mget; rw [if_pos hk]⟩
    · rw [if_neg hk] at h
      cases hr : mIx k r with
      | none => rw [hr] at h; cases h
      | some i =>
        rw [hr] at h
        cases h
        obtain ⟨h1, h2, h3⟩ := mIx_lt hr
        exact ⟨Nat.succ_lt_succ h1, h2, by unfold mget; rw [if_neg hk]; exact h3⟩
theorem mIx_no {k : ByteArray} : ∀ {m : SM}, mIx k m = none → mget k m = none
  | [], _ => rfl
  | p :: r, h => by
    unfold mIx at h
    by_cases hk : k = p.1
    · rw [if_pos hk] at h; cases h
    · rw [if_neg hk] at h
      unfold mget
      rw [if_neg hk]
      exact mIx_no (Option.map_eq_none_iff.1 h)

theorem MS.put_ok {M : MS} (h : M.Ok) (k : ByteArray) (v : Int) : (M.put k v).Ok := by
  unfold MS.put
  split
  · rename_i j hj
    exact ⟨by show M.b.length = (mput k v M.m).length; unfold mput; rw [hj]; simp [h.len], h.nd, h.lt⟩
  · rename_i hj
    refine ⟨by show (M.b ++ [(M.ck : Int)]).length = (mput k v M.m).length; unfold mput; rw [hj]; simp [h.len], ?_, ?_⟩
    · refine List.nodup_append.2 ⟨h.nd, by simp, ?_⟩
      intro x hx y hy
      have hy : y = (M.ck : Int) := by simpa using hy
      have := h.lt x hx
      omega
    · intro x hx
      show x < ((M.ck + 1 : Nat) : Int)
      rcases List.mem_append.1 hx with hx | hx
      · have := h.lt x hx; omega
      · have : x = (M.ck : Int) := by simpa using hx
        omega
theorem MS.del_ok {M : MS} (h : M.Ok) (k : ByteArray) : (M.del k).Ok := by
  unfold MS.del
  split
  · rename_i j hj
    obtain ⟨hl, _, _⟩ := mIx_lt hj
    refine ⟨?_, h.nd.sublist (List.eraseIdx_sublist _ _), fun x hx => h.lt x ((List.eraseIdx_sublist _ _).subset hx)⟩
    show (M.b.eraseIdx j).length = (mdel k M.m).length
    unfold mdel
    rw [hj]
    show (M.b.eraseIdx j).length = (M.m.eraseIdx j).length
    rw [List.length_eraseIdx, List.length_eraseIdx, h.len]
  · exact h

theorem cM_set : ∀ {m : SM} {b : List Int} {j : Nat} (k : ByteArray) (v : Int), b.length = m.length → ∀ h : j < m.length, m[j].1 = k →
    (cM m b).modify j (fun p => (.string k, .v (.int .i64 v) :: p.2.drop 1)) = cM (m.set j (k, v)) b ∧ (cM m b).modify j (fun p => (p.1, .v (.int .i64 v) :: p.2.drop 1)) = cM (m.set j (k, v)) b ∧ (cM m b).modify j (fun p => (.string k, p.2)) = cM m b
  | [], _, _, _, _, _, h, _ => by simp at h
  | p :: r, [], _, _, _, h, _, _ => by simp at h
  | p :: r, b :: bs, 0, k, v, _, _, hk => by
    have hk : p.1 = k := hk
    subst hk
    exact ⟨rfl, rfl, rfl⟩
  | p :: r, b :: bs, j + 1, k, v, hl, h, hk => by
    obtain ⟨h1, h2, h3⟩ := cM_set (m := r) (b := bs) (j := j) k v (by simpa using hl) (by simpa using h) hk
    refine ⟨?_, ?_, ?_⟩
    · show _ :: (cM r bs).modify j _ = _; rw [h1]; rfl
    · show _ :: (cM r bs).modify j _ = _; rw [h2]; rfl
    · show _ :: (cM r bs).modify j _ = _; rw [h3]; rfl
theorem cM_app : ∀ {m : SM} {b : List Int} (k : ByteArray) (v x : Int), b.length = m.length → cM m b ++ [(.string k, [.v (.int .i64 v), .v (.int .i64 x)])] = cM (m ++ [(k, v)]) (b ++ [x])
  | [], [], _, _, _, _ => rfl
  | [], b :: bs, _, _, _, h => by simp at h
  | p :: r, [], _, _, _, h => by simp at h
  | p :: r, b :: bs, k, v, x, h => by
    show _ :: (cM r bs ++ _) = _
    rw [cM_app k v x (by simpa using h)]
    rfl
theorem cM_erase : ∀ {m : SM} {b : List Int} (j : Nat), b.length = m.length → (cM m b).eraseIdx j = cM (m.eraseIdx j) (b.eraseIdx j)
  | [], [], _, _ => rfl
  | [], b :: bs, _, h => by simp at h
  | p :: r, [], _, h => by simp at h
  | p :: r, b :: bs, 0, _ => rfl
  | p :: r, b :: bs, j + 1, h => by
    show _ :: (cM r bs).eraseIdx j = _
    rw [cM_erase j (by simpa using h)]
    rfl
theorem cM_stamp : ∀ {m : SM} {b : List Int} {j : Nat} (_hl : b.length = m.length) (_ : b.Nodup) (h : j < b.length), (cM m b).findIdx? (stampIs b[j]) = some j
  | [], b, j, hl, _, h => by simp at hl; subst hl; simp at h
  | p :: r, [], j, _, _, h => by simp at h
  | p :: r, b :: bs, 0, _, _, _ => by
    show ((Value.string p.1, [CV.v (.int .i64 p.2), .v (.int .i64 b)]) :: cM r bs).findIdx? _ = _
    rw [List.findIdx?_cons, if_pos (by show (b == b) = true; simp)]
  | p :: r, b :: bs, j + 1, hl, hn, h => by
    have hj : j < bs.length := by simpa using h
    have hne : b ≠ bs[j] := fun e => (List.nodup_cons.1 hn).1 (e ▸ List.getElem_mem hj)
    show ((Value.string p.1, [CV.v (.int .i64 p.2), .v (.int .i64 b)]) :: cM r bs).findIdx? (stampIs bs[j]) = _
    rw [List.findIdx?_cons, if_neg (by show ¬ (b == bs[j]) = true; simpa using hne), cM_stamp (by simpa using hl) (List.nodup_cons.1 hn).2 hj]
    rfl

section
variable {H : Hp} {t : TypeId} {mi : Nat} {M : MS} {k : ByteArray} {v : Int}

theorem mapAt_eq (h : H[mi]? = some M.ent) : mapAt H (.one (.mp mi)) = some (mi, (M.ck, cM M.m M.b)) := by simp only [mapAt, h, MS.ent]
theorem lk_eq (ht : mapTy P t = some (.string, .int .i64 0)) (ok : M.Ok) (h : H[mi]? = some M.ent) :
    vlookup P H t (.one (.mp mi)) (.one (.c (.v (.string k)))) true = qa (.tup [(false, [.c (.v (.int .i64 ((mget k M.m).getD 0)))]), (false, [.c (.v (.bool (mget k M.m).isSome))])]) := by
  unfold vlookup
  rw [ht, mapAt_eq h]
  have sc : (AV.one (.c (.v (.string k)))).sc = some (.string k) := rfl
  have kd : kindOk .string (.string k) = true := rfl
  simp only [sc, kd, if_true]
  rw [find_cM k M.m M.b ok.len]
  cases hj : mIx k M.m with
  | none => simp only [mIx_no hj]; rfl
  | some j =>
    obtain ⟨hl, _, hg⟩ := mIx_lt hj
    simp only [cM_get M.m M.b j hl (by rw [ok.len]; exact hl), hg]
    rfl
theorem mu_eq (ht : mapTy P t = some (.string, .int .i64 0)) (ok : M.Ok) (h : H[mi]? = some M.ent) :
    vmapUpdate P H t (.one (.mp mi)) (.one (.c (.v (.string k)))) (.one (.c (.v (.int .i64 v)))) = some (und, H.set mi (M.put k v).ent) := by
  unfold vmapUpdate
  rw [ht, mapAt_eq h]
  have sc : (AV.one (.c (.v (.string k)))).sc = some (.string k) := rfl
  have kd : kindOk .string (.string k) = true := rfl
  simp only [sc, kd, if_true]
  rw [find_cM k M.m M.b ok.len]
  simp only [MS.put, mput, MS.ent]
  cases hj : mIx k M.m with
  | none =>
    simp only [putM, cM_app k v M.ck ok.len]
  | some j =>
    obtain ⟨hl, hk, _⟩ := mIx_lt hj
    simp only [putM, (cM_set k v ok.len hl hk).1]
theorem md_eq (ht : mapTy P t = some (.string, .int .i64 0)) (ok : M.Ok) (h : H[mi]? = some M.ent) :
    vdelete P H t (.one (.mp mi)) (.one (.c (.v (.string k)))) = some (und, H.set mi (M.del k).ent) := by
  unfold vdelete
  rw [ht, mapAt_eq h]
  have sc : (AV.one (.c (.v (.string k)))).sc = some (.string k) := rfl
  have kd : kindOk .string (.string k) = true := rfl
  simp only [sc, kd, if_true]
  rw [find_cM k M.m M.b ok.len]
  cases hj : mIx k M.m with
  | none => simp only [MS.del, hj, MS.ent]
  | some j =>
    simp only [MS.del, hj, mdel, MS.ent, cM_erase j ok.len]
theorem me_eq (ht : mapTy P t = some (.string, .int .i64 0)) (ok : M.Ok) (h : H[mi]? = some M.ent) (hg : (mget k M.m).isSome = true) :
    vmapEntry P H t (.one (.mp mi)) (.one (.c (.v (.string k)))) = some (.tup [(false, [.c (.v (.int .i64 ((mget k M.m).getD 0)))]), (false, [.c (.v (.int .i64 (M.stamp k)))])], H) := by
  unfold vmapEntry
  rw [ht, mapAt_eq h]
  have sc : (AV.one (.c (.v (.string k)))).sc = some (.string k) := rfl
  have kd : kindOk .string (.string k) = true := rfl
  simp only [sc, kd, if_true]
  rw [find_cM k M.m M.b ok.len]
  cases hj : mIx k M.m with
  | none => rw [mIx_no hj] at hg; cases hg
  | some j =>
    obtain ⟨hl, hk, hg'⟩ := mIx_lt hj
    have hb : j < M.b.length := by rw [ok.len]; exact hl
    simp only [cM_get M.m M.b j hl hb, (cM_set k 0 ok.len hl hk).2.2, hg', MS.stamp, hj, List.getElem?_eq_getElem hb]
    rw [set_same (e := .mp (M.ck, cM M.m M.b)) h]
    rfl
theorem es_eq (ok : M.Ok) (h : H[mi]? = some M.ent) (hg : (mget k M.m).isSome = true) :
    ventryStore H (.one (.mp mi)) (.one (.c (.v (.int .i64 (M.stamp k))))) (.one (.c (.v (.int .i64 v)))) = some (und, H.set mi (M.put k v).ent) := by
  unfold ventryStore
  rw [mapAt_eq h]
  cases hj : mIx k M.m with
  | none => rw [mIx_no hj] at hg; cases hg
  | some j =>
    obtain ⟨hl, hk, hg'⟩ := mIx_lt hj
    have hb : j < M.b.length := by rw [ok.len]; exact hl
    have hs : M.stamp k = M.b[j] := by simp only [MS.stamp, hj, List.getElem?_eq_getElem hb]; rfl
    simp only [MS.ent, hs, cM_stamp ok.len ok.nd hb, (cM_set k v ok.len hl hk).2.1, MS.put, mput, hj]
theorem ml_eq {ty : TypeId} (ht : isMapT P t = true) (ok : M.Ok) (h : H[mi]? = some M.ent) : vlen P H #[t] ty (.one (.mp mi)) = qa (.one (.c (.v (.int .i64 M.m.length)))) := by
  have e1 := mapAt_eq h
  unfold vlen
  simp only [show (#[t] : Array TypeId)[0]? = some t from rfl, e1, ht, if_true, cM_len M.m M.b ok.len]
  rfl
end

end Go.Proofs.Vm
end

section
/- Small laws of the machine's numbers. -/
namespace Go.Proofs.Vm
open Go

variable {P : Program} {H : Hp}

theorem w64_id {x : Int} (h0 : -9223372036854775808 ≤ x) (h1 : x < 9223372036854775808) : IntKind.i64.wrap x = x := by rw [IntKind.wrap_i64]; omega
theorem bin_half {t : TypeId} {x y : Operand} {k : Nat} (h : k < 9223372036854775808) : vbin P H .quo t x y (vI .i64 (k : Int)) (vI .i64 2) = qa (vI .i64 ((k / 2 : Nat) : Int)) := by
  rw [bin_quo (by decide)]
  have e : (k : Int).tdiv 2 = ((k / 2 : Nat) : Int) := by rw [Int.tdiv_eq_ediv_of_nonneg (by omega)]; omega
  rw [e, w64_id (by omega) (by omega)]
theorem hq_gete (K : Hp) (a b c : Nat) (x y z : Ent) (L : Hp) (j : Nat) (h : K.length + j < (hq K a b c x y z L).length) : (hq K a b c x y z L)[K.length + j]'h = L[j]'(by rw [hq_len] at h; omega) := by
  have h1 := hq_get K a b c x y z L j
  have hj : j < L.length := by rw [hq_len] at h; omega
  rw [List.getElem?_eq_getElem h, List.getElem?_eq_getElem hj] at h1
  exact Option.some.inj h1
@[simp] theorem isNil_ptr {p : Option Addr} : isNil (.const (.pointer p)) = false := rfl
theorem bin_pne {t e : TypeId} (hu : pv P (underlying t) = some (.pointer e)) {x y : Operand} {p : Pt} (hl : lenIs H p.id p.tot = true) : vbin P H .eql t x y (.one (.ptr p)) (.one (.c (.v (.pointer none)))) = qa (vB false) := by
  simp [-lenIs, vbin, vbin0, neSl, isNils, isPtr, isNilp, fresh, hl, hu, one?, Value.oneCell']
theorem bin_slo {t e : TypeId} (he : elemOfSlice P t = some e) {x y : Operand} {id o n tot : Nat} (hn : n ≠ 0) (hl : lenIs H id tot = true) : vbin P H .eql t x y (.one (.sl id o n tot)) (.one (.c (.v (.slice none 0 0)))) = qa (vB false) := by
  have hu : ∃ d, pv P (underlying t) = some (.slice d) := by
    unfold elemOfSlice at he
    split at he
    · rename_i d hd; exact ⟨_, hd⟩
    · cases he
  obtain ⟨d, hd⟩ := hu
  simp [-lenIs, vbin, neSl, isNils, okSl, hl, hn, hd, one?, Value.oneCell']
theorem eq_sl {t e : TypeId} (hu : pv P (underlying t) = some (.slice e)) (ad : Option Addr) (n c : Nat) (d : Nat) : pv P (Op.equalIn (d + 1) t (.slice ad n c) (.slice none 0 0)) = some ad.isNone := by
  unfold Op.equalIn
  cases ad <;> simp [hu]
theorem bin_slr {t e : TypeId} (he : elemOfSlice P t = some e) {x y : Operand} {ad : Option Addr} {n c : Nat} : vbin P H .eql t x y (.one (.c (.v (.slice ad n c)))) (.one (.c (.v (.slice none 0 0)))) = qa (vB ad.isNone) := by
  have hu : ∃ d, pv P (underlying t) = some (.slice d) := by
    unfold elemOfSlice at he
    split at he
    · rename_i d hd; exact ⟨_, hd⟩
    · cases he
  obtain ⟨d, hd⟩ := hu
  simp [vbin, vbin0, neSl, isNils, isPtr, isNilp, fresh, AV.sc, Cell.sc, eqGuard, binOp, ofPv, one?, Value.oneCell', Op.equal, Op.maxDepth, eq_sl hd ad n c 9999]
theorem eq_bool {t : TypeId} (hu : pv P (underlying t) = some .bool) (a b : Bool) (d : Nat) : pv P (Op.equalIn (d + 1) t (.bool a) (.bool b)) = some (a == b) := by
  unfold Op.equalIn
  simp [hu]
theorem eq_nil {t e : TypeId} (hu : pv P (underlying t) = some (.pointer e)) (d : Nat) : pv P (Op.equalIn (d + 1) t (.pointer none) (.pointer none)) = some true := by
  unfold Op.equalIn
  simp [hu]
theorem bin_pee {t e : TypeId} (hu : pv P (underlying t) = some (.pointer e)) {x y : Operand} : vbin P H .eql t x y (.one (.c (.v (.pointer none)))) (.one (.c (.v (.pointer none)))) = qa (vB true) := by
  simp [vbin, vbin0, neSl, isNils, isPtr, isNilp, fresh, AV.sc, Cell.sc, eqGuard, binOp, ofPv, one?, Value.oneCell', Op.equal, Op.maxDepth, eq_nil hu 9999]
theorem bin_bne {t : TypeId} (hu : pv P (underlying t) = some .bool) {x y : Operand} {a b : Bool} : vbin P H .neq t x y (vB a) (vB b) = qa (vB (a != b)) := by
  simp [vbin, vbin0, neSl, isNils, isPtr, isNilp, fresh, AV.sc, Cell.sc, eqGuard, binOp, ofPv, one?, Value.oneCell', Op.equal, Op.maxDepth, eq_bool hu a b 9999]
  rfl
theorem bin_beq {t : TypeId} (hu : pv P (underlying t) = some .bool) {x y : Operand} {a b : Bool} : vbin P H .eql t x y (vB a) (vB b) = qa (vB (a == b)) := by
  simp [vbin, vbin0, neSl, isNils, isPtr, isNilp, fresh, AV.sc, Cell.sc, eqGuard, binOp, ofPv, one?, Value.oneCell', Op.equal, Op.maxDepth, eq_bool hu a b 9999]
/-- The first so many of a row that does not change. -/
theorem slc_to {t e sz : Nat} (he : elemOfSlice P t = some e) (hs : pv P (sizeOf e) = some sz) {xs : List (List CV)} {nid k : Nat} (h1 : k ≤ xs.length) (hx : AllLen xs sz) : vslice P H nid t (.one (.c (.arr xs))) none (some (vI .i64 (k : Int))) none = qa (.one (.c (.arr (xs.take k)))) := by
  have h2 : (k : Int) ≤ xs.length := by omega
  unfold vslice
  simp only [he, hs, optInt, Option.getD_none, Option.getD_some]
  rw [if_pos ⟨Int.le_refl _, by omega, h2, hx⟩]
  simp
end Go.Proofs.Vm
end

section
/- The whole table tells the truth of the program. -/
namespace Go.Proofs.YtmgnmnogiajlgaaGreatF
open Go Go.Proofs.Vm
theorem fnOkS : FnOk Tryz.prog 29 := ⟨Tryz.f29, Tryz.func29, by kernel_rfl, by kernel_rfl⟩
theorem sortsS : SortsStr Tryz.prog 29 := fun blk off cap zs w h1 h2 h3 => by
  have h := Tryz.slices_Sort_string blk off cap (zs.map (·.data.toList)) w h1 h2 (by rw [List.length_map]; exact h3)
  rw [List.length_map] at h
  rw [ssort, List.map_mergeSort (s := fun x y : List UInt8 => decide (x ≤ y)) (fun a _ b _ => rfl)]
  exact h
theorem strOk : TOk Tryz.prog (strTab 29) := strTab_ok (by kernel_rfl) fnOkS sortsS (fun p cap w => Tryz.slices_Sort_string_none p cap w)
def sh0 (g : FuncId) : Bool := g == 67 || g == 27
def cfg0 : Cfg := ⟨sh0, fun _ => false, strTab 29, fun _ => noLate⟩
theorem t0Ok : TOk Tryz.prog (TT Tryz.prog cfg0) := TT_ok mixed strOk
@[simp] theorem t0_cb : (TT Tryz.prog cfg0).cb = false := rfl
theorem run0_u64 {args : List AV} {r : AV} {H H' : Hp} (hb : cfg0.base.S 67 args H = none) (hl : args.length ≤ 8) (hH : Gr Tryz.prog 67 H H') (h : wpV Tryz.prog (TT Tryz.prog cfg0) ⟨8, sh0, false, noLate⟩ (Tryz.f67.body.getD .skip) (endS Tryz.prog Tryz.f67.results.toList r H') ⟨envS args, H⟩) : (TT Tryz.prog cfg0).S 67 args H = some (r, H') :=
  TT_goS (N := ⟨8, sh0, false, noLate⟩) Tryz.func67 (by kernel_rfl) ok67 (by kernel_rfl) (by kernel_rfl) hb hl hH h
theorem clo_u64 : CloS Tryz.prog 67 := cloS_of fun a c => by
  refine ⟨1, [.clo [] false, .clo [] false], false, rfl, ?_⟩
  refine (t0Ok.2 _ _ _ _ _ (run0_u64 rfl (by simp) (by simp) ?_)).2.2
  cases a with
  | none => simp [Tryz.f67, vmove, isNil, bin_slr es57]
  | some x =>
    have ha := vappend_eq (P := Tryz.prog) (H := [.clo [] false, .clo [] false]) (t := 57) (tx := 57) (id := 1) (n := 0) (l := []) (xs := []) (x := .one (.c (.v (.slice (some x) 0 c)))) es57 es57 el37
      (by simp) rfl rfl (by simp) (by simp) (by simp) (by simp)
    simp at ha
    simp [Tryz.f67, vmove, isNil, bin_slr es57, bs_zero es57 el37, ha]
theorem run0_rad {args : List AV} {r : AV} {H H' : Hp} (hb : cfg0.base.S 27 args H = none) (hl : args.length ≤ 8) (hH : Gr Tryz.prog 27 H H') (h : wpV Tryz.prog (TT Tryz.prog cfg0) ⟨8, sh0, false, noLate⟩ (Tryz.f27.body.getD .skip) (endS Tryz.prog Tryz.f27.results.toList r H') ⟨envS args, H⟩) : (TT Tryz.prog cfg0).S 27 args H = some (r, H') :=
  TT_goS (N := ⟨8, sh0, false, noLate⟩) Tryz.func27 (by kernel_rfl) ok27 (by kernel_rfl) (by kernel_rfl) hb hl hH h
theorem clo_rad : CloS Tryz.prog 27 := cloS_of fun a c => by
  refine ⟨1, [.clo [] false, .clo [] false], false, rfl, ?_⟩
  refine (t0Ok.2 _ _ _ _ _ (run0_rad rfl (by simp) (by simp) ?_)).2.2
  cases a with
  | none => simp [Tryz.f27, vmove, isNil, bin_slr es22]
  | some x =>
    have ha := vappend_eq (P := Tryz.prog) (H := [.clo [] false, .clo [] false]) (t := 22) (tx := 22) (id := 1) (n := 0) (l := []) (xs := []) (x := .one (.c (.v (.slice (some x) 0 c)))) es22 es22 el48
      (by simp) rfl rfl (by simp) (by simp) (by simp) (by simp)
    simp at ha
    simp [Tryz.f27, vmove, isNil, bin_slr es22, bs_zero es22 el48, ha]
theorem tvOk : TOk Tryz.prog TV := TT_ok mixed (strCloTab_ok strOk fun g hg => by
  rcases List.mem_cons.1 hg with rfl | hg
  · exact ⟨ok67, clo_u64⟩
  · rw [List.mem_singleton.1 hg]
    exact ⟨ok27, clo_rad⟩)
end Go.Proofs.YtmgnmnogiajlgaaGreatF
end

section
/- Structs of strings and numbers, compared. -/
namespace Go.Proofs.Vm
open Go

variable {P : Program} {H : Hp}

theorem eq_strD {t : TypeId} (hu : pv P (underlying t) = some .string) (a b : ByteArray) (d : Nat) : pv P (Op.equalIn (d + 1) t (.string a) (.string b)) = some (a == b) := by
  unfold Op.equalIn
  simp [hu]
theorem eq_intD {t : TypeId} {k : IntKind} (hu : pv P (underlying t) = some (.int k)) (a b : Int) (d : Nat) : pv P (Op.equalIn (d + 1) t (.int k a) (.int k b)) = some (a == b) := by
  unfold Op.equalIn
  simp [hu]

theorem pv_of {t : TypeId} {d : TypeDesc} (h : P.underlying t = some d) : pv P (underlying t) = some d := by
  unfold underlying
  simp [h]
/-- Of one string and one number. -/
theorem eq_st2 {t : TypeId} {f0 f1 : Field} {k : IntKind} (hu : pv P (underlying t) = some (.struct #[f0, f1])) (hs : P.stoodInHeld t = false) (n0 : (f0.name == "_") = false) (n1 : (f1.name == "_") = false) (o0 : f0.offset = 0) (o1 : f1.offset = 1)
    (a0 : pv P (isAgg f0.type) = some false) (a1 : pv P (isAgg f1.type) = some false) (u0 : pv P (underlying f0.type) = some .string) (u1 : pv P (underlying f1.type) = some (.int k)) (a b : ByteArray) (x y : Int) (d : Nat) :
    pv P (Op.equalIn (d + 2) t (.agg #[.string a, .int k x]) (.agg #[.string b, .int k y])) = some (a == b && x == y) := by
  have m0 : ¬ f0.name = "_" := fun h => by rw [h] at n0; simp at n0
  have m1 : ¬ f1.name = "_" := fun h => by rw [h] at n1; simp at n1
  unfold Op.equalIn
  cases h0 : a == b <;> cases h1 : x == y <;> simp [hu, hs, m0, m1, o0, o1, part, a0, a1, eq_strD u0, eq_intD u1, h0, h1]

theorem bin_st2 {t : TypeId} {f0 f1 : Field} {k : IntKind} (hu : pv P (underlying t) = some (.struct #[f0, f1])) (hs : P.stoodInHeld t = false) (hg : P.eqGuardType P.depth t = false) (n0 : (f0.name == "_") = false) (n1 : (f1.name == "_") = false) (o0 : f0.offset = 0) (o1 : f1.offset = 1)
    (a0 : pv P (isAgg f0.type) = some false) (a1 : pv P (isAgg f1.type) = some false) (u0 : pv P (underlying f0.type) = some .string) (u1 : pv P (underlying f1.type) = some (.int k)) {a b : ByteArray} {x y : Int} {p q : Operand} :
    vbin P H .eql t p q (.agg [.c (.v (.string a)), .c (.v (.int k x))]) (.agg [.c (.v (.string b)), .c (.v (.int k y))]) = qa (vB (a == b && x == y)) ∧
    vbin P H .neq t p q (.agg [.c (.v (.string a)), .c (.v (.int k x))]) (.agg [.c (.v (.string b)), .c (.v (.int k y))]) = qa (vB (!(a == b && x == y))) := by
  have h := eq_st2 hu hs n0 n1 o0 o1 a0 a1 u0 u1 a b x y 9998
  constructor <;> simp [vbin, vbin0, neSl, isNils, isPtr, isNilp, fresh, AV.sc, scs, Cell.sc, eqGuard, hg, binOp, ofPv, one?, Value.oneCell', Op.equal, Op.maxDepth, h]
/-- A pointer that is none, and one that is not. -/
theorem bin_pnn {t e : TypeId} (hu : pv P (underlying t) = some (.pointer e)) {x y : Operand} {p : Pt} (hl : lenIs H p.id p.tot = true) : vbin P H .neq t x y (.one (.ptr p)) (.one (.c (.v (.pointer none)))) = qa (vB true) := by
  simp [-lenIs, vbin, vbin0, neSl, isNils, isPtr, isNilp, fresh, hl, hu, one?, Value.oneCell']
theorem bin_pen {t e : TypeId} (hu : pv P (underlying t) = some (.pointer e)) {x y : Operand} : vbin P H .neq t x y (.one (.c (.v (.pointer none)))) (.one (.c (.v (.pointer none)))) = qa (vB false) := by
  simp [vbin, vbin0, neSl, isNils, isPtr, isNilp, fresh, AV.sc, Cell.sc, eqGuard, binOp, ofPv, one?, Value.oneCell', Op.equal, Op.maxDepth, eq_nil hu 9999]
end Go.Proofs.Vm
end

section
/- Numbers of the field, sums and cells of keys. -/
namespace Go.Proofs.YtmgnmnogiajlgaaGreatF
open Go Go.Proofs.Vm

theorem u64w (x : Int) : IntKind.u64.wrap x = x % 18446744073709551616 := by simp [IntKind.wrap, IntKind.bits, IntKind.signed]
theorem u64_id {x : Int} (h0 : 0 ≤ x) (h1 : x < 18446744073709551616) : IntKind.u64.wrap x = x := by rw [u64w]; omega
theorem and_low (x : Int) (n : Nat) (hn : n ≤ 63) (h0 : 0 ≤ x) (h1 : x < 18446744073709551616) : Go.bits .and .u64 x ((2 ^ n - 1 : Nat) : Int) = x % ((2 ^ n : Nat) : Int) := by
  have hp : 2 ^ n ≤ 2 ^ 63 := Nat.pow_le_pow_right (by omega) hn
  have hq : 2 ^ 63 = 9223372036854775808 := by decide
  rw [u64_and x _ h0 h1 (by omega) (by omega)]
  rw [show ((2 ^ n - 1 : Nat) : Int).toNat = 2 ^ n - 1 by omega, Nat.and_two_pow_sub_one_eq_mod]
  obtain ⟨m, rfl⟩ := Int.eq_ofNat_of_zero_le h0
  simp
theorem and_P (x : Int) (h0 : 0 ≤ x) (h1 : x < 18446744073709551616) : Go.bits .and .u64 x 2305843009213693951 = x % 2305843009213693952 := and_low x 61 (by omega) h0 h1
theorem and_32 (x : Int) (h0 : 0 ≤ x) (h1 : x < 18446744073709551616) : Go.bits .and .u64 x 4294967295 = x % 4294967296 := and_low x 32 (by omega) h0 h1
theorem and_1 (x : Int) (h0 : 0 ≤ x) (h1 : x < 18446744073709551616) : Go.bits .and .u64 x 1 = x % 2 := and_low x 1 (by omega) h0 h1

theorem or_join' (x y : Int) (n : Nat) (hx0 : 0 ≤ x) (hx1 : x < 18446744073709551616) (hx : x % ((2 ^ n : Nat) : Int) = 0) (hy0 : 0 ≤ y) (hy1 : y < ((2 ^ n : Nat) : Int)) (hy2 : y < 18446744073709551616) : Go.bits .or .u64 y x = y + x := by
  rw [u64_or y x hy0 hy2 hx0 hx1]
  obtain ⟨a, rfl⟩ := Int.eq_ofNat_of_zero_le hx0
  obtain ⟨b, rfl⟩ := Int.eq_ofNat_of_zero_le hy0
  have h := nat_join n a b (by omega) (by omega)
  simp only [Int.toNat_natCast]
  rw [Nat.or_comm, h]
  simp; omega
theorem mul_bound {x y : Int} (n : Int) (h0 : 0 ≤ x) (h1 : x ≤ n) (h2 : 0 ≤ y) (h3 : y ≤ n) : 0 ≤ x * y ∧ x * y ≤ n * n :=
  ⟨Int.mul_nonneg h0 h2, Int.mul_le_mul h1 h3 h2 (by omega)⟩

theorem field_Of {a : Int} (h0 : 0 ≤ a) (h1 : a < 18446744073709551616) : TV.pu 105 [cI .u64 a] = some (cI .u64 (a % 2305843009213693951)) := by
  refine run105 (by simp) ?_
  simp [Tryz.f105, bin_shr, and_P a h0 h1, IntKind.bits]
  rw [u64_id (x := a % 2305843009213693952 + a / 2305843009213693952) (by omega) (by omega)]
  split
  · rw [u64_id (by omega) (by omega)]; omega
  · omega

theorem field_Add {a b : Int} (h0 : 0 ≤ a) (h1 : a < 18446744073709551616) (h2 : 0 ≤ b) (h3 : b < 18446744073709551616) : TV.pu 80 [cI .u64 a, cI .u64 b] = some (cI .u64 ((a + b) % 2305843009213693951)) := by
  refine run80 (by simp) ?_
  have e : IntKind.u64.wrap (a % 2305843009213693951 + b % 2305843009213693951) = a % 2305843009213693951 + b % 2305843009213693951 := u64_id (by omega) (by omega)
  simp [Tryz.f80, field_Of h0 h1, field_Of h2 h3, e, field_Of (a := a % 2305843009213693951 + b % 2305843009213693951) (by omega) (by omega)]

theorem Mul64 {x y : Int} (h0 : 0 ≤ x) (h1 : x < 18446744073709551616) (h2 : 0 ≤ y) (h3 : y < 18446744073709551616) : TV.pu 113 [cI .u64 x, cI .u64 y] = some (.tup [(false, [.v (.int .u64 (x * y / 18446744073709551616))]), (false, [.v (.int .u64 (x * y % 18446744073709551616))])]) := by
  refine run113 (by simp) ?_
  simp [Tryz.f113, bin_shr, IntKind.bits, and_32 x h0 h1, and_32 y h2 h3]
  obtain ⟨x1, hx1⟩ : ∃ z, z = x / 4294967296 := ⟨_, rfl⟩
  obtain ⟨x0, hx0⟩ : ∃ z, z = x % 4294967296 := ⟨_, rfl⟩
  obtain ⟨y1, hy1⟩ : ∃ z, z = y / 4294967296 := ⟨_, rfl⟩
  obtain ⟨y0, hy0⟩ : ∃ z, z = y % 4294967296 := ⟨_, rfl⟩
  rw [← hx1, ← hx0, ← hy1, ← hy0]
  have ex : x = x1 * 4294967296 + x0 := by omega
  have ey : y = y1 * 4294967296 + y0 := by omega
  have b11 := mul_bound (x := x1) (y := y1) 4294967295 (by omega) (by omega) (by omega) (by omega)
  have b10 := mul_bound (x := x1) (y := y0) 4294967295 (by omega) (by omega) (by omega) (by omega)
  have b01 := mul_bound (x := x0) (y := y1) 4294967295 (by omega) (by omega) (by omega) (by omega)
  have b00 := mul_bound (x := x0) (y := y0) 4294967295 (by omega) (by omega) (by omega) (by omega)
  have exy : x * y = x1 * y1 * 18446744073709551616 + (x1 * y0 + x0 * y1) * 4294967296 + x0 * y0 := by rw [ex, ey]; grind
  rw [exy]
  generalize x1 * y1 = p11 at *
  generalize x1 * y0 = p10 at *
  generalize x0 * y1 = p01 at *
  generalize x0 * y0 = p00 at *
  clear hx1 hx0 hy1 hy0 ex ey exy h0 h1 h2 h3
  rw [u64_id (x := p11) (by omega) (by omega), u64_id (x := p10) (by omega) (by omega), u64_id (x := p01) (by omega) (by omega), u64_id (x := p00) (by omega) (by omega)]
  rw [u64_id (x := p10 + p00 / 4294967296) (by omega) (by omega)]
  rw [and_32 _ (by omega) (by omega)]
  rw [u64_id (x := (p10 + p00 / 4294967296) % 4294967296 + p01) (by omega) (by omega)]
  rw [u64_id (x := p11 + (p10 + p00 / 4294967296) / 4294967296) (by omega) (by omega)]
  rw [u64_id (x := p11 + (p10 + p00 / 4294967296) / 4294967296 + ((p10 + p00 / 4294967296) % 4294967296 + p01) / 4294967296) (by omega) (by omega)]
  rw [u64w]
  omega

theorem field_Mul {a b : Int} (h0 : 0 ≤ a) (h1 : a < 18446744073709551616) (h2 : 0 ≤ b) (h3 : b < 18446744073709551616) : TV.pu 81 [cI .u64 a, cI .u64 b] = some (cI .u64 (a * b % 2305843009213693951)) := by
  refine run81 (by simp) ?_
  have hb := mul_bound (x := a % 2305843009213693951) (y := b % 2305843009213693951) 2305843009213693950 (by omega) (by omega) (by omega) (by omega)
  have hm := Mul64 (x := a % 2305843009213693951) (y := b % 2305843009213693951) (by omega) (by omega) (by omega) (by omega)
  rw [Int.mul_emod a b]
  generalize a % 2305843009213693951 * (b % 2305843009213693951) = N at hb hm ⊢
  simp [Tryz.f81, field_Of h0 h1, field_Of h2 h3, hm, bin_shr, bin_shl, IntKind.bits]
  rw [and_P _ (by omega) (by omega)]
  rw [u64_id (x := N / 18446744073709551616 * 8) (by omega) (by omega)]
  rw [or_join' (N / 18446744073709551616 * 8) (N % 18446744073709551616 / 2305843009213693952) 3 (by omega) (by omega) (by omega) (by omega) (by omega) (by omega)]
  rw [u64_id (by omega) (by omega), field_Of (by omega) (by omega)]
  simp
  omega
theorem int_sq (x : Int) : x ^ 2 = x * x := by rw [Int.pow_succ, Int.pow_succ, Int.pow_zero, Int.one_mul]
theorem emod_pow (a n : Int) (k : Nat) : (a % n) ^ k % n = a ^ k % n := by
  induction k with
  | zero => simp
  | succ k ih => rw [Int.pow_succ, Int.pow_succ, Int.mul_emod, ih, Int.emod_emod_of_dvd _ (Int.dvd_refl n), ← Int.mul_emod]

theorem field_Pow {x : Int} {n : Nat} (h0 : 0 ≤ x) (h1 : x < 18446744073709551616) (hn : (n : Int) < 18446744073709551616) : TV.pu 124 [cI .u64 x, cI .u64 n] = some (cI .u64 (x ^ n % 2305843009213693951)) := by
  refine run124 (by simp) ?_
  simp [Tryz.f124, field_Of h0 h1]
  obtain ⟨I, hI⟩ : ∃ I : Nat → St → Prop, ∀ k s, I k s ↔ (∃ e y o, s = ⟨e, []⟩ ∧ e 0 = vI .u64 y ∧ e 1 = vI .u64 (k : Nat) ∧ e 5 = vI .u64 o ∧ 0 ≤ y ∧ y < 2305843009213693951 ∧ 0 ≤ o ∧ o < 2305843009213693951 ∧ (k : Int) < 18446744073709551616 ∧ o * y ^ k % 2305843009213693951 = x ^ n % 2305843009213693951) := ⟨_, fun _ _ => Iff.rfl⟩
  refine wpL_ind I ?_ n _ ((hI _ _).2 ⟨_, x % 2305843009213693951, 1, rfl, by simp, by simp, by simp, by omega, by omega, by omega, by omega, hn, by rw [Int.one_mul, emod_pow]⟩)
  intro k s hs
  obtain ⟨e, y, o, rfl, e0, e1, e5, y0, y1, o0, o1, k1, hk⟩ := (hI _ _).1 hs
  have hm := field_Mul (a := y) (b := y) y0 (by omega) y0 (by omega)
  have ho := field_Mul (a := o) (b := y) o0 (by omega) y0 (by omega)
  have key : ∀ o : Int, (o * (y * y % 2305843009213693951) ^ (k / 2)) % 2305843009213693951 = (o * y ^ (2 * (k / 2))) % 2305843009213693951 := by
    intro o
    rw [Int.mul_emod, emod_pow, ← Int.mul_emod, ← int_sq, ← Int.pow_mul]
  simp [e0, e1, e5, hm, ho, bin_shr, IntKind.bits, and_1 (k : Int) (by omega) (by omega)]
  by_cases hz : k = 0
  · subst hz
    rw [if_neg (by omega)]
    simp at hk
    rw [← hk]
    omega
  · rw [if_pos (by omega)]
    split
    · refine ⟨k / 2, by omega, (hI _ _).2 ⟨_, y * y % 2305843009213693951, o * y % 2305843009213693951, rfl, by simp, by simp, by simp, by omega, by omega, by omega, by omega, by omega, ?_⟩⟩
      rw [key, ← hk]
      have e2 : y ^ k = y * y ^ (2 * (k / 2)) := by
        rw [Int.mul_comm, ← Int.pow_succ]; congr 1; omega
      rw [e2, ← Int.mul_assoc, Int.mul_emod, Int.emod_emod_of_dvd _ (Int.dvd_refl _), ← Int.mul_emod]
    · refine ⟨k / 2, by omega, (hI _ _).2 ⟨_, y * y % 2305843009213693951, o, rfl, by simp, by simp, by simp [e5], by omega, by omega, by omega, by omega, by omega, ?_⟩⟩
      rw [key, ← hk, show 2 * (k / 2) = k by omega]
theorem byt_range (s : ByteArray) (i : Int) : 0 ≤ byt s i ∧ byt s i < 256 := by
  unfold byt
  split
  · rename_i b _
    have := b.toNat_lt
    omega
  · omega
theorem byt_out (s : ByteArray) (i : Int) (h0 : 0 ≤ i) (h : (s.size : Int) ≤ i) : byt s i = 0 := by
  unfold byt
  have : s[i.toNat]? = none := by simp; omega
  rw [this]
def fP : Int := 2305843009213693951
/-- Four bytes as a number; noughts behind the end. -/
def hword (s : ByteArray) (i : Int) : Int := ((byt s i * 256 + byt s (i + 1)) * 256 + byt s (i + 2)) * 256 + byt s (i + 3)
/-- What is reckoned of the first n words. -/
def hpoly (a : Int) (s : ByteArray) : Nat → Int
  | 0 => (s.size : Int) % 2305843009213693951
  | n + 1 => (hpoly a s n * a + (hword s (4 * (n : Int)) + 1)) % 2305843009213693951
def nwords (s : ByteArray) : Nat := (s.size + 3) / 4
def hsum (seed : Int) (s : ByteArray) : Int := (hpoly ((seed + 2) % 2305843009213693951) s (nwords s) * ((seed + 2) % 2305843009213693951) % 2305843009213693951) ^ 17 % 2305843009213693951
def hrow (seed i : Int) : Int := (((seed + 3) * ((if i < 0 then 0 else i) + 2) + 5) % 2305843009213693951) ^ 2 % 2305843009213693951
def hcell (seed : Int) (s : ByteArray) (n : Int) : Int := if n < 1 then 0 else hsum seed s % n
def hsign (seed : Int) (s : ByteArray) : Int := hsum seed s % 2 * 2 - 1

theorem hsum_range (seed : Int) (s : ByteArray) : 0 ≤ hsum seed s ∧ hsum seed s < 2305843009213693951 := by
  unfold hsum; omega
theorem hrow_range (seed i : Int) : 0 ≤ hrow seed i ∧ hrow seed i < 2305843009213693951 := by
  unfold hrow; omega
theorem hcell_range (seed : Int) (s : ByteArray) (n : Int) (h : 1 ≤ n) : 0 ≤ hcell seed s n ∧ hcell seed s n < n := by
  unfold hcell
  rw [if_neg (by omega)]
  exact ⟨Int.emod_nonneg _ (by omega), Int.emod_lt_of_pos _ (by omega)⟩
theorem hsign_or (seed : Int) (s : ByteArray) : hsign seed s = 1 ∨ hsign seed s = -1 := by
  unfold hsign; omega
theorem hword_range (s : ByteArray) (i : Int) : 0 ≤ hword s i ∧ hword s i < 4294967296 := by
  have a := byt_range s i; have b := byt_range s (i + 1); have c := byt_range s (i + 2); have d := byt_range s (i + 3)
  unfold hword; omega
theorem hpoly_range (a : Int) (s : ByteArray) (n : Nat) : 0 ≤ hpoly a s n ∧ hpoly a s n < 2305843009213693951 := by
  cases n with
  | zero => unfold hpoly; omega
  | succ n => unfold hpoly; omega

theorem or_join (x y : Int) (n : Nat) (hx0 : 0 ≤ x) (hx1 : x < 18446744073709551616) (hx : x % ((2 ^ n : Nat) : Int) = 0) (hy0 : 0 ≤ y) (hy1 : y < ((2 ^ n : Nat) : Int)) (hy2 : y < 18446744073709551616) : Go.bits .or .u64 x y = x + y := by
  rw [u64_or x y hx0 hx1 hy0 hy2]
  obtain ⟨a, rfl⟩ := Int.eq_ofNat_of_zero_le hx0
  obtain ⟨b, rfl⟩ := Int.eq_ofNat_of_zero_le hy0
  have h := nat_join n a b (by omega) (by omega)
  simp only [Int.toNat_natCast]
  rw [h]
  simp

theorem hash_Row {s i : Int} (h0 : 0 ≤ s) (h1 : s < 18446744073709551616) (h2 : i < 9223372036854775808) (h3 : -9223372036854775808 ≤ i) : TV.pu 48 [cI .u64 s, cI .i64 i] = some (cI .u64 (hrow s i)) := by
  refine run48 (by simp) ?_
  obtain ⟨j, hj⟩ : ∃ j, j = if i < 0 then 0 else i := ⟨_, rfl⟩
  have hj0 : 0 ≤ j := by rw [hj]; split <;> omega
  have hj1 : j < 9223372036854775808 := by rw [hj]; split <;> omega
  obtain ⟨v1, h1'⟩ : ∃ v, v = (s + 3) % 2305843009213693951 := ⟨_, rfl⟩
  obtain ⟨v2, h2'⟩ : ∃ v, v = (j + 2) % 2305843009213693951 := ⟨_, rfl⟩
  obtain ⟨v3, h3'⟩ : ∃ v, v = v1 * v2 % 2305843009213693951 := ⟨_, rfl⟩
  obtain ⟨v4, h4'⟩ : ∃ v, v = (v3 + 5) % 2305843009213693951 := ⟨_, rfl⟩
  have e1 := field_Add (a := s) (b := 3) h0 h1 (by omega) (by omega)
  have e2 := field_Add (a := j) (b := 2) hj0 (by omega) (by omega) (by omega)
  have e3 := field_Mul (a := v1) (b := v2) (by omega) (by omega) (by omega) (by omega)
  have e4 := field_Add (a := v3) (b := 5) (by omega) (by omega) (by omega) (by omega)
  have e5 := field_Mul (a := v4) (b := v4) (by omega) (by omega) (by omega) (by omega)
  rw [← h1'] at e1
  rw [← h2'] at e2
  rw [← h3'] at e3
  rw [← h4'] at e4
  have ew : IntKind.u64.wrap j = j := u64_id hj0 (by omega)
  have em : (if i < 0 then 0 else i) = j := hj.symm
  simp [Tryz.f48, e1, em, ew, e2, e3, e4, e5]
  unfold hrow
  rw [em, int_sq]
  have hv : v4 = ((s + 3) * (j + 2) + 5) % 2305843009213693951 := by
    have : v3 = (s + 3) * (j + 2) % 2305843009213693951 := by rw [h3', h1', h2', ← Int.mul_emod]
    omega
  rw [hv]

/-- The first bytes of a word. -/
def hwp (s : ByteArray) (i : Int) : Nat → Int
  | 0 => 0
  | j + 1 => hwp s i j * 256 + byt s (i + j)
theorem hwp_range (s : ByteArray) (i : Int) : ∀ j : Nat, 0 ≤ hwp s i j ∧ hwp s i j < 256 ^ j
  | 0 => by simp [hwp]
  | j + 1 => by
    have := hwp_range s i j
    have := byt_range s (i + j)
    simp only [hwp]
    rw [Int.pow_succ]
    omega
theorem hwp_word (s : ByteArray) (i : Int) : hwp s i 4 = hword s i := by
  simp [hwp, hword]

theorem hash_Sum {seed : Int} {s : ByteArray} (h0 : 0 ≤ seed) (h1 : seed < 18446744073709551616) (hs : s.size ≤ 140737488351232) : TV.pu 116 [cI .u64 seed, cS s] = some (cI .u64 (hsum seed s)) := by
  refine run116 (by simp) ?_
  have ha := field_Add (a := seed) (b := 2) h0 h1 (by omega) (by omega)
  have ew : IntKind.u64.wrap (s.size : Int) = s.size := u64_id (by omega) (by omega)
  obtain ⟨a, hae⟩ : ∃ a, a = (seed + 2) % 2305843009213693951 := ⟨_, rfl⟩
  have ha0 : 0 ≤ a := by omega
  have ha1 : a < 2305843009213693951 := by omega
  rw [← hae] at ha
  simp [Tryz.f116, ha, ew]
  obtain ⟨I, hI⟩ : ∃ I : Nat → St → Prop, ∀ k s', I k s' ↔ (∃ e n, s' = ⟨e, []⟩ ∧ e 1 = vS s ∧ e 5 = vI .u64 a ∧ e 6 = vI .u64 (hpoly a s n) ∧ e 7 = vI .i64 (4 * (n : Nat) : Int) ∧ n + k = nwords s) := ⟨_, fun _ _ => Iff.rfl⟩
  have e0 : hpoly a s 0 = (s.size : Int) := by
    show (s.size : Int) % 2305843009213693951 = _
    omega
  refine wpL_ind I ?_ (nwords s) _ ((hI _ _).2 ⟨_, 0, rfl, by simp, by simp, by simp [e0], by simp, by omega⟩)
  intro k st hst
  obtain ⟨e, n, rfl, e1, e5, e6, e7, hk⟩ := (hI _ _).1 hst
  have hp := hpoly_range a s n
  simp [e1, e5, e6, e7]
  by_cases c : k = 0
  · have hsz : ¬ 4 * (n : Int) < (s.size : Int) := by unfold nwords at hk; omega
    have hn : n = nwords s := by omega
    rw [if_neg hsz]
    have hm := field_Mul (a := hpoly a s n) (b := a) hp.1 (by omega) ha0 (by omega)
    have hw := field_Pow (x := hpoly a s n * a % 2305843009213693951) (n := 17) (by omega) (by omega) (by omega)
    simp at hw
    simp [hm, hw]
    unfold hsum
    rw [← hae, ← hn]
  · have hsz : 4 * (n : Int) < (s.size : Int) := by unfold nwords at hk; omega
    rw [if_pos hsz]
    obtain ⟨J, hJ⟩ : ∃ J : Nat → St → Prop, ∀ k s', J k s' ↔ (∃ e j, s' = ⟨e, []⟩ ∧ e 1 = vS s ∧ e 5 = vI .u64 a ∧ e 6 = vI .u64 (hpoly a s n) ∧ e 7 = vI .i64 (4 * (n : Nat) : Int) ∧ e 8 = vI .u64 (hwp s (4 * (n : Nat) : Int) j) ∧ e 21 = vI .i64 (j : Nat) ∧ j + k = 4) := ⟨_, fun _ _ => Iff.rfl⟩
    refine wpL_ind J ?_ 4 _ ((hJ _ _).2 ⟨_, 0, rfl, by simp [e1], by simp [e5], by simp [e6], by simp [e7], by simp [hwp], by simp, by omega⟩)
    intro q st hst
    obtain ⟨e', j, rfl, f1, f5, f6, f7, f8, f21, hq⟩ := (hJ _ _).1 hst
    have hr := hwp_range s (4 * (n : Int)) j
    have hb := byt_range s (4 * (n : Int) + j)
    have w1 : IntKind.i64.wrap (4 * (n : Int) + j) = 4 * (n : Int) + j := w64_id (by omega) (by omega)
    have w2 : IntKind.u64.wrap (byt s (4 * (n : Int) + j)) = byt s (4 * (n : Int) + j) := u64_id hb.1 (by omega)
    have w3 : IntKind.i64.wrap ((j : Int) + 1) = ((j + 1 : Nat) : Int) := by rw [w64_id (by omega) (by omega)]; omega
    by_cases hj : j < 4
    · have hr2 : hwp s (4 * (n : Int)) j < 16777216 := by
        have : (256 : Int) ^ j ≤ 256 ^ 3 := by
          have : j = 0 ∨ j = 1 ∨ j = 2 ∨ j = 3 := by omega
          rcases this with rfl | rfl | rfl | rfl <;> decide
        omega
      have w4 : IntKind.u64.wrap (hwp s (4 * (n : Int)) j * 256) = hwp s (4 * (n : Int)) j * 256 := u64_id (by omega) (by omega)
      have hj' : ((j : Int) < 4) := by omega
      by_cases hc : 4 * (n : Int) + j < s.size
      · have hx := idx_str us9 (s := s) (k := .i64) (i := 4 * (n : Int) + j) (by omega) hc
        have ho := or_join (hwp s (4 * (n : Int)) j * 256) (byt s (4 * (n : Int) + j)) 8 (by omega) (by omega) (by omega) (by omega) (by omega) (by omega)
        simp [f1, f5, f6, f7, f8, f21, bin_shl, IntKind.bits, w1, w2, w3, w4, hj', hc, hx, ho]
        exact ⟨q - 1, by omega, (hJ _ _).2 ⟨_, j + 1, rfl, by simp [f1], by simp [f5], by simp [f6], by simp [f7], by simp [hwp], by simp, by omega⟩⟩
      · have hx := byt_out s (4 * (n : Int) + j) (by omega) (by omega)
        simp [f1, f5, f6, f7, f8, f21, bin_shl, IntKind.bits, w1, w3, w4, hj', hc]
        exact ⟨q - 1, by omega, (hJ _ _).2 ⟨_, j + 1, rfl, by simp [f1], by simp [f5], by simp [f6], by simp [f7], by simp [hwp, hx], by simp, by omega⟩⟩
    · have hj4 : j = 4 := by omega
      subst hj4
      have hw := hword_range s (4 * (n : Int))
      rw [hwp_word] at f8
      have w5 : IntKind.u64.wrap (hword s (4 * (n : Int)) + 1) = hword s (4 * (n : Int)) + 1 := u64_id (by omega) (by omega)
      have hm := field_Mul (a := hpoly a s n) (b := a) hp.1 (by omega) ha0 (by omega)
      obtain ⟨v, hv⟩ : ∃ v, v = hpoly a s n * a % 2305843009213693951 := ⟨_, rfl⟩
      rw [← hv] at hm
      have had := field_Add (a := v) (b := hword s (4 * (n : Int)) + 1) (by omega) (by omega) (by omega) (by omega)
      have w6 : IntKind.i64.wrap (4 * (n : Int) + 4) = 4 * (n : Int) + 4 := w64_id (by omega) (by omega)
      simp [f5, f6, f7, f8, f21, hm, w5, had, w6]
      refine ⟨k - 1, by omega, (hI _ _).2 ⟨_, n + 1, rfl, by simp [f1], by simp [f5], ?_, ?_, by omega⟩⟩
      · simp [hpoly, hv]
      · simp; omega

theorem hash_Cell {seed n : Int} {s : ByteArray} (h0 : 0 ≤ seed) (h1 : seed < 18446744073709551616) (hs : s.size ≤ 140737488351232) (hn : n < 9223372036854775808) : TV.pu 89 [cI .u64 seed, cS s, cI .i64 n] = some (cI .i64 (hcell seed s n)) := by
  refine run89 (by simp) ?_
  have hr := hsum_range seed s
  by_cases c : n < 1
  · simp [Tryz.f89, c, hcell]
  · have h2 := Int.emod_nonneg (hsum seed s) (show n ≠ 0 by omega)
    have h3 := Int.emod_lt_of_pos (hsum seed s) (show 0 < n by omega)
    have e1 : IntKind.u64.wrap n = n := u64_id (by omega) (by omega)
    have e2 : (hsum seed s).tmod n = hsum seed s % n := Int.tmod_eq_emod_of_nonneg hr.1
    have e3 : IntKind.i64.wrap (hsum seed s % n) = hsum seed s % n := w64_id (by omega) (by omega)
    have e4 : n ≠ 0 := by omega
    simp [Tryz.f89, c, hcell, hash_Sum h0 h1 hs, e1, bin_rem e4, e2, e3]

end Go.Proofs.YtmgnmnogiajlgaaGreatF
end

section
/- The document's numbers of the field, sums and cells of keys. -/
namespace Go.Proofs.YtmgnmnogiajlgaaGreatF
open Go Go.Proofs.Vm

theorem sbin_add {P : Program} {H : Hp} {t : TypeId} {x y : Operand} {u v : ByteArray} (h : u.size + v.size ≤ 9223372036854775807) : vbin P H .add t x y (vS u) (vS v) = qa (vS (u ++ v)) := by
  have h' : ¬ 9223372036854775807 < (u.size : Int) + (v.size : Int) := by omega
  simp [vbin, vbin0, neSl, isNils, isPtr, isNilp, AV.sc, Cell.sc, eqGuard, binOp, Op.stringOp, ofPv, one?, Value.oneCell', h']
theorem byt_app (a b : ByteArray) (i : Int) (h0 : 0 ≤ i) : byt (a ++ b) i = if i < a.size then byt a i else byt b (i - a.size) := by
  obtain ⟨n, rfl⟩ := Int.eq_ofNat_of_zero_le h0
  by_cases h : (n : Int) < a.size
  · have h' : n < a.size := by omega
    have e : (a ++ b)[(n : Int).toNat]? = a[(n : Int).toNat]? := by
      simp only [Int.toNat_natCast]
      rw [getElem?_pos (a ++ b) n (by simp; omega), getElem?_pos a n h']
      congr 1
      exact ByteArray.getElem_append_left h'
    rw [if_pos h]
    unfold byt
    rw [e]
  · have h' : a.size ≤ n := by omega
    have e : (a ++ b)[(n : Int).toNat]? = b[((n : Int) - a.size).toNat]? := by
      rw [show ((n : Int) - a.size).toNat = n - a.size by omega, Int.toNat_natCast]
      by_cases hb : n < a.size + b.size
      · rw [getElem?_pos (a ++ b) n (by simp; omega), getElem?_pos b (n - a.size) (by omega)]
        congr 1
        exact ByteArray.getElem_append_right h'
      · rw [getElem?_neg (a ++ b) n (by simp; omega), getElem?_neg b (n - a.size) (by omega)]
    rw [if_neg h]
    unfold byt
    rw [e]

theorem r1_Of {a : Int} (h0 : 0 ≤ a) (_h1 : a < 18446744073709551616) : TV.pu 74 [cI .u64 a] = some (cI .u64 (a % 2305843009213693951)) := by
  refine run74 (by simp) ?_
  have e : a.tmod 2305843009213693951 = a % 2305843009213693951 := Int.tmod_eq_emod_of_nonneg h0
  simp -implicitDefEqProofs [Tryz.f74, bin_rem, e]
theorem r1_Add {a b : Int} (h0 : 0 ≤ a) (_h1 : a < 18446744073709551616) (h2 : 0 ≤ b) (_h3 : b < 18446744073709551616) : TV.pu 70 [cI .u64 a, cI .u64 b] = some (cI .u64 ((a + b) % 2305843009213693951)) := by
  refine run70 (by simp) ?_
  have e1 : a.tmod 2305843009213693951 = a % 2305843009213693951 := Int.tmod_eq_emod_of_nonneg h0
  have e2 : b.tmod 2305843009213693951 = b % 2305843009213693951 := Int.tmod_eq_emod_of_nonneg h2
  have e3 : IntKind.u64.wrap (a % 2305843009213693951 + b % 2305843009213693951) = a % 2305843009213693951 + b % 2305843009213693951 := u64_id (by omega) (by omega)
  have e4 : (a % 2305843009213693951 + b % 2305843009213693951).tmod 2305843009213693951 = (a + b) % 2305843009213693951 := by rw [Int.tmod_eq_emod_of_nonneg (by omega)]; omega
  simp -implicitDefEqProofs [Tryz.f70, bin_rem, e1, e2, e3, e4]
theorem r1_Mul {a b : Int} (h0 : 0 ≤ a) (_h1 : a < 18446744073709551616) (h2 : 0 ≤ b) (_h3 : b < 18446744073709551616) : TV.pu 69 [cI .u64 a, cI .u64 b] = some (cI .u64 (a * b % 2305843009213693951)) := by
  refine run69 (by simp) ?_
  have e1 : a.tmod 2305843009213693951 = a % 2305843009213693951 := Int.tmod_eq_emod_of_nonneg h0
  have e2 : b.tmod 2305843009213693951 = b % 2305843009213693951 := Int.tmod_eq_emod_of_nonneg h2
  simp -implicitDefEqProofs [Tryz.f69, bin_rem, e1, e2]
  obtain ⟨I, hI⟩ : ∃ I : Nat → St → Prop, ∀ k s, I k s ↔ (∃ e y o, s = ⟨e, []⟩ ∧ e 0 = vI .u64 y ∧ e 1 = vI .u64 (k : Nat) ∧ e 5 = vI .u64 o ∧ 0 ≤ y ∧ y < 2305843009213693951 ∧ 0 ≤ o ∧ o < 2305843009213693951 ∧ (k : Int) < 18446744073709551616 ∧ (o + y * k) % 2305843009213693951 = a * b % 2305843009213693951) := ⟨_, fun _ _ => Iff.rfl⟩
  have hb : ((b % 2305843009213693951).toNat : Int) = b % 2305843009213693951 := Int.toNat_of_nonneg (by omega)
  refine wpL_ind I ?_ (b % 2305843009213693951).toNat _ ((hI _ _).2 ⟨_, a % 2305843009213693951, 0, rfl, by simp, by simp [hb], by simp, by omega, by omega, by omega, by omega, by omega, by rw [hb, Int.zero_add, ← Int.mul_emod]⟩)
  intro k s hs
  obtain ⟨e, y, o, rfl, e0, e1, e5, y0, y1, o0, o1, k1, hk⟩ := (hI _ _).1 hs
  have t1 : ((k : Int)).tmod 2 = (k : Int) % 2 := Int.tmod_eq_emod_of_nonneg (by omega)
  have t2 : IntKind.u64.wrap ((k : Int).tdiv 2) = ((k / 2 : Nat) : Int) := by
    rw [Int.tdiv_eq_ediv_of_nonneg (by omega), u64_id (by omega) (by omega)]; omega
  have t2' : IntKind.u64.wrap ((k : Int) / 2) = (k : Int) / 2 := u64_id (by omega) (by omega)
  have t3 : IntKind.u64.wrap (y + y) = y + y := u64_id (by omega) (by omega)
  have t4 : (y + y).tmod 2305843009213693951 = (y + y) % 2305843009213693951 := Int.tmod_eq_emod_of_nonneg (by omega)
  have t5 : IntKind.u64.wrap (o + y) = o + y := u64_id (by omega) (by omega)
  have t6 : (o + y).tmod 2305843009213693951 = (o + y) % 2305843009213693951 := Int.tmod_eq_emod_of_nonneg (by omega)
  have key : ∀ c : Int, (c + (y + y) % 2305843009213693951 * ((k / 2 : Nat) : Int)) % 2305843009213693951 = (c + y * (2 * ((k / 2 : Nat) : Int))) % 2305843009213693951 := by
    intro c
    have : (y + y) * ((k / 2 : Nat) : Int) = y * (2 * ((k / 2 : Nat) : Int)) := by grind
    rw [Int.add_emod, Int.mul_emod, Int.emod_emod_of_dvd _ (Int.dvd_refl _), ← Int.mul_emod, ← Int.add_emod, this]
  by_cases c : k = 0
  · subst c
    simp at hk
    have : o % 2305843009213693951 = o := Int.emod_eq_of_lt o0 o1
    simp -implicitDefEqProofs [e1, e5]
    rw [← hk, this]
  · have c' : 0 < (k : Int) := by omega
    have c2 : 0 < k := by omega
    by_cases d : (k : Int) % 2 = 1
    · simp -implicitDefEqProofs [e0, e1, e5, c2, bin_rem, bin_quo, t1, t2', t3, t4, t5, t6, d]
      refine ⟨k / 2, by omega, (hI _ _).2 ⟨_, (y + y) % 2305843009213693951, (o + y) % 2305843009213693951, rfl, by simp, by simp, by simp, by omega, by omega, by omega, by omega, by omega, ?_⟩⟩
      rw [key, ← hk, Int.emod_add_emod]
      congr 1
      have : (k : Int) = 2 * ((k / 2 : Nat) : Int) + 1 := by omega
      rw [this]
      grind
    · have d' : ((k : Int) % 2 == 1) = false := by simpa using d
      simp -implicitDefEqProofs [e0, e1, c2, bin_rem, bin_quo, t1, t2', t3, t4, d']
      refine ⟨k / 2, by omega, (hI _ _).2 ⟨_, (y + y) % 2305843009213693951, o, rfl, by simp, by simp, by simp [e5], by omega, by omega, by omega, by omega, by omega, ?_⟩⟩
      rw [key, ← hk]
      congr 2
      have : (k : Int) = 2 * ((k / 2 : Nat) : Int) := by omega
      rw [this]
theorem r1_Pow {x : Int} (h0 : 0 ≤ x) (h1 : x < 18446744073709551616) : ∀ (N n : Nat), n < N → (n : Int) < 18446744073709551616 → TV.pu 71 [cI .u64 x, cI .u64 n] = some (cI .u64 (x ^ n % 2305843009213693951)) := by
  intro N
  induction N with
  | zero => intro n h; omega
  | succ N ih =>
    intro n hn hn2
    refine run71 (by simp) ?_
    by_cases c : n = 0
    · subst c
      simp -implicitDefEqProofs [Tryz.f71]
    · have c' : ¬ (n : Int) = 0 := by omega
      have hr := ih (n / 2) (by omega) (by omega)
      rw [show ((n / 2 : Nat) : Int) = (n : Int) / 2 by omega] at hr
      have t1 : (n : Int).tmod 2 = (n : Int) % 2 := Int.tmod_eq_emod_of_nonneg (by omega)
      have t2 : IntKind.u64.wrap ((n : Int).tdiv 2) = ((n / 2 : Nat) : Int) := by
        rw [Int.tdiv_eq_ediv_of_nonneg (by omega), u64_id (by omega) (by omega)]; omega
      have t2' : IntKind.u64.wrap ((n : Int) / 2) = (n : Int) / 2 := u64_id (by omega) (by omega)
      obtain ⟨v, hv⟩ : ∃ v, v = x ^ (n / 2) % 2305843009213693951 := ⟨_, rfl⟩
      rw [← hv] at hr
      have hm := r1_Mul (a := v) (b := v) (by omega) (by omega) (by omega) (by omega)
      obtain ⟨u, hu⟩ : ∃ u, u = v * v % 2305843009213693951 := ⟨_, rfl⟩
      rw [← hu] at hm
      have hm2 := r1_Mul (a := u) (b := x) (by omega) (by omega) h0 h1
      have hu2 : u = x ^ (2 * (n / 2)) % 2305843009213693951 := by
        rw [hu, hv, ← Int.mul_emod, ← Int.pow_add]
        congr 2; omega
      by_cases d : (n : Int) % 2 = 1
      · have e : x ^ n % 2305843009213693951 = u * x % 2305843009213693951 := by
          rw [hu2, Int.mul_emod, Int.emod_emod_of_dvd _ (Int.dvd_refl _), ← Int.mul_emod, ← Int.pow_succ]
          congr 2; omega
        rw [e]
        simp -implicitDefEqProofs [Tryz.f71, c, bin_rem, bin_quo, t1, t2', hr, hm, hm2, d]
      · have d' : ((n : Int) % 2 == 1) = false := by simpa using d
        have e : x ^ n % 2305843009213693951 = u := by
          rw [hu2]
          congr 2; omega
        rw [e]
        simp -implicitDefEqProofs [Tryz.f71, c, bin_rem, bin_quo, t1, t2', hr, hm, d']

def cU (n : Int) : List CV := [.v (.int .u64 n)]
def hwords (s : ByteArray) : List Int := (List.range (nwords s)).map fun (q : Nat) => hword s (4 * (q : Int))
theorem hwords_len (s : ByteArray) : (hwords s).length = nwords s := by simp [hwords]

set_option maxRecDepth 10000 in
theorem r2_words {s : ByteArray} (hs : s.size ≤ 1000) : TV.pu 125 [cS s] = some (.one (.arr ((hwords s).map cU))) := by
  refine run125 (by simp) ?_
  simp -implicitDefEqProofs [Tryz.f125, vmove, isNil]
  obtain ⟨I, hI⟩ : ∃ I : Nat → St → Prop, ∀ k st, I k st ↔ (∃ e z E L, st = ⟨e, E :: .clo [] false :: L⟩ ∧ e 0 = vS z ∧ e 3 = .one (.sl 1 0 0 0) ∧ (∀ i : Int, 0 ≤ i → byt z i = byt s i) ∧ k = (4 - z.size % 4) % 4 ∧ z.size ≤ s.size + (4 - s.size % 4) % 4 ∧ s.size ≤ z.size) := ⟨_, fun _ _ => Iff.rfl⟩
  refine wpL_ind I ?_ ((4 - s.size % 4) % 4) _ ((hI _ _).2 ⟨_, s, _, _, rfl, by simp, by simp, fun _ _ => rfl, rfl, by omega, Nat.le_refl _⟩)
  intro k st hst
  obtain ⟨e, z, E, L, rfl, e0, e3, hz, hk, hz1, hz2⟩ := (hI _ _).1 hst
  have t1 : (z.size : Int).tmod 4 = ((z.size % 4 : Nat) : Int) := by rw [Int.tmod_eq_emod_of_nonneg (by omega)]; omega
  by_cases c : z.size % 4 = 0
  · have c1 : ((z.size : Int).tmod 4 != 0) = false := by rw [t1, c]; rfl
    have hzn : z.size = 4 * nwords s := by unfold nwords; omega
    simp -implicitDefEqProofs [e0, bin_rem, c1]
    obtain ⟨J, hJ⟩ : ∃ J : Nat → St → Prop, ∀ k st, J k st ↔ (∃ e j L, st = ⟨e, E :: .clo (tk cU (hwords s) j) false :: L⟩ ∧ e 0 = vS z ∧ e 3 = .one (.sl 1 0 j j) ∧ e 4 = vI .i64 (4 * (j : Nat) : Int) ∧ j + k = nwords s) := ⟨_, fun _ _ => Iff.rfl⟩
    refine wpL_ind J ?_ (nwords s) _ ((hJ _ _).2 ⟨_, 0, _, by rw [tk_zero], by simp [e0], by simp [e3], by simp, by omega⟩)
    intro k2 st2 hst2
    obtain ⟨e', j, L2, rfl, f0, f3, f4, hk2⟩ := (hJ _ _).1 hst2
    by_cases d : j < nwords s
    · have d' : 4 * (j : Int) < (z.size : Int) := by omega
      have g0 := byt_range z (4 * (j : Int)); have g1 := byt_range z (4 * (j : Int) + 1); have g2 := byt_range z (4 * (j : Int) + 2); have g3 := byt_range z (4 * (j : Int) + 3)
      have x0 := idx_str (P := Tryz.prog) us9 (s := z) (k := .i64) (i := 4 * (j : Int)) (by omega) d'
      have x1 := idx_str (P := Tryz.prog) us9 (s := z) (k := .i64) (i := 4 * (j : Int) + 1) (by omega) (by omega)
      have x2 := idx_str (P := Tryz.prog) us9 (s := z) (k := .i64) (i := 4 * (j : Int) + 2) (by omega) (by omega)
      have x3 := idx_str (P := Tryz.prog) us9 (s := z) (k := .i64) (i := 4 * (j : Int) + 3) (by omega) (by omega)
      have hw : hword s (4 * (j : Int)) = byt z (4 * (j : Int)) * 16777216 + byt z (4 * (j : Int) + 1) * 65536 + byt z (4 * (j : Int) + 2) * 256 + byt z (4 * (j : Int) + 3) := by
        rw [hz _ (by omega), hz _ (by omega), hz _ (by omega), hz _ (by omega)]
        unfold hword; omega
      have jl : j < (hwords s).length := by rw [hwords_len]; exact d
      have hwj : (hwords s)[j] = hword s (4 * (j : Int)) := by simp [hwords]
      have htl : (tk cU (hwords s) j).length = j := tk_len (by omega)
      have htm : AllLen (tk cU (hwords s) j) 1 := tk_allLen fun _ => rfl
      have htk : tk cU (hwords s) j ++ [[.v (.int .u64 (byt z (4 * (j : Int)) * 16777216 + byt z (4 * (j : Int) + 1) * 65536 + byt z (4 * (j : Int) + 2) * 256 + byt z (4 * (j : Int) + 3)))]] = tk cU (hwords s) (j + 1) := by
        rw [← tk_succ jl, hwj, hw]; rfl
      generalize byt z (4 * (j : Int)) = b0 at *
      generalize byt z (4 * (j : Int) + 1) = b1 at *
      generalize byt z (4 * (j : Int) + 2) = b2 at *
      generalize byt z (4 * (j : Int) + 3) = b3 at *
      have y1 : IntKind.i64.wrap (4 * (j : Int) + 1) = 4 * (j : Int) + 1 := w64_id (by omega) (by omega)
      have y2 : IntKind.i64.wrap (4 * (j : Int) + 2) = 4 * (j : Int) + 2 := w64_id (by omega) (by omega)
      have y3 : IntKind.i64.wrap (4 * (j : Int) + 3) = 4 * (j : Int) + 3 := w64_id (by omega) (by omega)
      have y4 : IntKind.i64.wrap (4 * (j : Int) + 4) = 4 * (j : Int) + 4 := w64_id (by omega) (by omega)
      have u0 : IntKind.u64.wrap b0 = b0 := u64_id g0.1 (by omega)
      have u1 : IntKind.u64.wrap b1 = b1 := u64_id g1.1 (by omega)
      have u2 : IntKind.u64.wrap b2 = b2 := u64_id g2.1 (by omega)
      have u3 : IntKind.u64.wrap b3 = b3 := u64_id g3.1 (by omega)
      have v0 : IntKind.u64.wrap (b0 * 16777216) = b0 * 16777216 := u64_id (by omega) (by omega)
      have v1 : IntKind.u64.wrap (b1 * 65536) = b1 * 65536 := u64_id (by omega) (by omega)
      have v2 : IntKind.u64.wrap (b2 * 256) = b2 * 256 := u64_id (by omega) (by omega)
      have v3 : IntKind.u64.wrap (b0 * 16777216 + b1 * 65536) = b0 * 16777216 + b1 * 65536 := u64_id (by omega) (by omega)
      have v4 : IntKind.u64.wrap (b0 * 16777216 + b1 * 65536 + b2 * 256) = b0 * 16777216 + b1 * 65536 + b2 * 256 := u64_id (by omega) (by omega)
      have v5 : IntKind.u64.wrap (b0 * 16777216 + b1 * 65536 + b2 * 256 + b3) = b0 * 16777216 + b1 * 65536 + b2 * 256 + b3 := u64_id (by omega) (by omega)
      have hsz : nwords s ≤ 300 := by unfold nwords; omega
      have b1 : 8 * (j + 1) ≤ 140737488355328 := by omega
      have b2 : j + 1 ≤ 4611686018427387904 := by omega
      simp -implicitDefEqProofs [f0, f3, f4, d', x0, x1, x2, x3, y1, y2, y3, y4, u0, u1, u2, u3, v0, v1, v2, v3, v4, v5, vappend_sp es57 es57 el37, vbuildSlice_eq es57 el37, cellsOf?, fzParts, setAll, rchParts, rch, elemsOf, htl, htm, htk, b1, b2]
      exact ⟨k2 - 1, by omega, (hJ _ _).2 ⟨_, j + 1, _, rfl, by simp [f0], by simp, by simp; omega, by omega⟩⟩
    · have d' : ¬ 4 * (j : Int) < (z.size : Int) := by omega
      have hj : j = (hwords s).length := by rw [hwords_len]; omega
      have hta := tk_all (f := cU) (l := hwords s) (i := j) (by omega)
      have hln := hwords_len s
      have htt : ((hwords s).map cU).take j = (hwords s).map cU := List.take_of_length_le (by simp; omega)
      simp -implicitDefEqProofs [f0, f3, f4, d', hta, htt, ← hj]
  · have c1 : ((z.size : Int).tmod 4 != 0) = true := by rw [t1]; simp; omega
    have hst0 : strOf [0] = ⟨#[0]⟩ := rfl
    have hza : z.size + (⟨#[0]⟩ : ByteArray).size ≤ 9223372036854775807 := by have : (⟨#[0]⟩ : ByteArray).size = 1 := rfl
                                                                              omega
    have hz3 : (z ++ ⟨#[0]⟩ : ByteArray).size = z.size + 1 := by simp; rfl
    simp -implicitDefEqProofs [e0, bin_rem, c1, sbin_add hza, vbuildSlice_eq es100 el5, cellsOf?, fzParts, setAll, rchParts, rch, elemsOf, vconvW, bytesRow', hst0]
    refine ⟨k - 1, by omega, (hI _ _).2 ⟨_, z ++ ⟨#[0]⟩, _, _, rfl, by simp, by simp [e3], fun i hi => ?_, by rw [hz3]; omega, by rw [hz3]; omega, by rw [hz3]; omega⟩⟩
    rw [byt_app _ _ _ hi]
    split
    · exact hz i hi
    · rename_i h
      rw [byt_out s i hi (by omega)]
      have : (⟨#[0]⟩ : ByteArray).size = 1 := rfl
      by_cases hq : i - z.size = 0
      · rw [hq]; rfl
      · exact byt_out _ _ (by omega) (by rw [this]; omega)

theorem r2_Sum {seed : Int} {s : ByteArray} (h0 : 0 ≤ seed) (h1 : seed < 18446744073709551616) (hs : s.size ≤ 1000) : TV.pu 108 [cI .u64 seed, cS s] = some (cI .u64 (hsum seed s)) := by
  refine run108 (by simp) ?_
  have ha := r1_Add (a := seed) (b := 2) h0 h1 (by omega) (by omega)
  have ew : IntKind.u64.wrap (s.size : Int) = s.size := u64_id (by omega) (by omega)
  have ho := r1_Of (a := (s.size : Int)) (by omega) (by omega)
  have hw := r2_words hs
  obtain ⟨a, hae⟩ : ∃ a, a = (seed + 2) % 2305843009213693951 := ⟨_, rfl⟩
  rw [← hae] at ha
  simp -implicitDefEqProofs [Tryz.f108, ha, ew, ho, hw]
  obtain ⟨I, hI⟩ : ∃ I : Nat → St → Prop, ∀ k s', I k s' ↔ (∃ e n, s' = ⟨e, []⟩ ∧ e 5 = vI .u64 a ∧ e 6 = vI .u64 (hpoly a s n) ∧ e 7 = .one (.c (.arr ((hwords s).map cU))) ∧ e 8 = vI .i64 (n : Nat) ∧ n + k = nwords s) := ⟨_, fun _ _ => Iff.rfl⟩
  refine wpL_ind I ?_ (nwords s) _ ((hI _ _).2 ⟨_, 0, rfl, by simp, by simp [hpoly], by simp, by simp, by omega⟩)
  intro k st hst
  obtain ⟨e, n, rfl, e5, e6, e7, e8, hk⟩ := (hI _ _).1 hst
  have hp := hpoly_range a s n
  have hln := hwords_len s
  by_cases c : n < nwords s
  · have hsz : nwords s ≤ 300 := by unfold nwords; omega
    have w1 : IntKind.i64.wrap ((n : Int) + 1) = ((n + 1 : Nat) : Int) := by rw [w64_id (by omega) (by omega)]; omega
    have hnl : n < (hwords s).length := by rw [hln]; exact c
    have hwj : (hwords s)[n] = hword s (4 * (n : Int)) := by simp [hwords]
    have hwr := hword_range s (4 * (n : Int))
    have hm := r1_Mul (a := a) (b := hpoly a s n) (by omega) (by omega) hp.1 (by omega)
    have h2 := r1_Add (a := hword s (4 * (n : Int))) (b := 1) (by omega) (by omega) (by omega) (by omega)
    obtain ⟨v, hv⟩ : ∃ v, v = a * hpoly a s n % 2305843009213693951 := ⟨_, rfl⟩
    obtain ⟨u, hu⟩ : ∃ u, u = (hword s (4 * (n : Int)) + 1) % 2305843009213693951 := ⟨_, rfl⟩
    rw [← hv] at hm
    rw [← hu] at h2
    have h3 := r1_Add (a := v) (b := u) (by omega) (by omega) (by omega) (by omega)
    have he : (v + u) % 2305843009213693951 = hpoly a s (n + 1) := by
      simp only [hpoly]
      rw [hv, hu, ← Int.add_emod, Int.mul_comm]
    rw [he] at h3
    simp -implicitDefEqProofs [e5, e6, e7, e8, c, hln, cU, hwj, hm, h2, h3, w1]
    exact ⟨k - 1, by omega, (hI _ _).2 ⟨_, n + 1, rfl, by simp [e5], by simp, by simp [e7], by simp, by omega⟩⟩
  · have hn : n = nwords s := by omega
    have hm := r1_Mul (a := a) (b := hpoly a s n) (by omega) (by omega) hp.1 (by omega)
    obtain ⟨v, hv⟩ : ∃ v, v = a * hpoly a s n % 2305843009213693951 := ⟨_, rfl⟩
    rw [← hv] at hm
    have hw := r1_Pow (x := v) (by omega) (by omega) 18 17 (by omega) (by omega)
    have he : v ^ 17 % 2305843009213693951 = hsum seed s := by
      unfold hsum
      rw [← hae, ← hn, hv, Int.mul_comm]
    simp only [Int.cast_ofNat_Int] at hw
    rw [he] at hw
    simp -implicitDefEqProofs [e5, e6, e7, e8, c, hln, hm, hw]
theorem r2_Row {s i : Int} (h0 : 0 ≤ s) (h1 : s < 18446744073709551616) (h2 : i < 9223372036854775808) (h3 : -9223372036854775808 ≤ i) : TV.pu 39 [cI .u64 s, cI .i64 i] = some (cI .u64 (hrow s i)) := by
  refine run39 (by simp) ?_
  obtain ⟨j, hj⟩ : ∃ j, j = if i < 0 then 0 else i := ⟨_, rfl⟩
  have hj0 : 0 ≤ j := by rw [hj]; split <;> omega
  have hj1 : j < 9223372036854775808 := by rw [hj]; split <;> omega
  obtain ⟨v1, h1'⟩ : ∃ v, v = (s + 3) % 2305843009213693951 := ⟨_, rfl⟩
  obtain ⟨v2, h2'⟩ : ∃ v, v = (j + 2) % 2305843009213693951 := ⟨_, rfl⟩
  obtain ⟨v3, h3'⟩ : ∃ v, v = v1 * v2 % 2305843009213693951 := ⟨_, rfl⟩
  obtain ⟨v4, h4'⟩ : ∃ v, v = (v3 + 5) % 2305843009213693951 := ⟨_, rfl⟩
  have e1 := r1_Add (a := s) (b := 3) h0 h1 (by omega) (by omega)
  have e2 := r1_Add (a := j) (b := 2) hj0 (by omega) (by omega) (by omega)
  have e3 := r1_Mul (a := v1) (b := v2) (by omega) (by omega) (by omega) (by omega)
  have e4 := r1_Add (a := v3) (b := 5) (by omega) (by omega) (by omega) (by omega)
  have e5 := r1_Pow (x := v4) (by omega) (by omega) 3 2 (by omega) (by omega)
  simp only [Int.cast_ofNat_Int] at e5
  rw [← h1'] at e1
  rw [← h2'] at e2
  rw [← h3'] at e3
  rw [← h4'] at e4
  have ew : IntKind.u64.wrap j = j := u64_id hj0 (by omega)
  have hv : hrow s i = v4 ^ 2 % 2305843009213693951 := by
    unfold hrow
    rw [← hj]
    have : v3 = (s + 3) * (j + 2) % 2305843009213693951 := by rw [h3', h1', h2', ← Int.mul_emod]
    have : v4 = ((s + 3) * (j + 2) + 5) % 2305843009213693951 := by omega
    rw [this]
  rw [hv]
  by_cases c : i < 0
  · have hj2 : j = 0 := by rw [hj, if_pos c]
    subst hj2
    simp -implicitDefEqProofs [Tryz.f39, c, e1, ew, e2, e3, e4, e5]
  · have hj2 : j = i := by rw [hj, if_neg c]
    subst hj2
    simp -implicitDefEqProofs [Tryz.f39, c, e1, ew, e2, e3, e4, e5]
theorem r2_Cell {seed n : Int} {s : ByteArray} (h0 : 0 ≤ seed) (h1 : seed < 18446744073709551616) (hs : s.size ≤ 1000) (hn : n < 9223372036854775808) : TV.pu 72 [cI .u64 seed, cS s, cI .i64 n] = some (cI .i64 (hcell seed s n)) := by
  refine run72 (by simp) ?_
  have hr := hsum_range seed s
  by_cases c : n < 1
  · simp [Tryz.f72, c, hcell]
  · have h2 := Int.emod_nonneg (hsum seed s) (show n ≠ 0 by omega)
    have h3 := Int.emod_lt_of_pos (hsum seed s) (show 0 < n by omega)
    have e1 : IntKind.u64.wrap n = n := u64_id (by omega) (by omega)
    have e2 : (hsum seed s).tmod n = hsum seed s % n := Int.tmod_eq_emod_of_nonneg hr.1
    have e3 : IntKind.i64.wrap (hsum seed s % n) = hsum seed s % n := w64_id (by omega) (by omega)
    have e4 : n ≠ 0 := by omega
    simp [Tryz.f72, c, hcell, r2_Sum h0 h1 hs, e1, bin_rem e4, e2, e3]
end Go.Proofs.YtmgnmnogiajlgaaGreatF
end
