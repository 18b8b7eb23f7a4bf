/- Part of a proof: what the functions of the program do to abstract states, step by step. -/
import Derived.Test.YtgabeieooemfeaaDoorM2
import Derived.Test.YtgabeieooemfeaaDoorChecked
import Derived.KernelRfl
set_option linter.unusedVariables false
set_option linter.unusedSimpArgs false
namespace Go.Proofs.YtgabeieooemfeaaDoor.Arm
open Go.Arm
def i1 : TI := ⟨.func, 1, 8, .nilfunc, true⟩
theorem ok1 : TyOk Tryd.prog 1 i1 := ⟨by kernel_rfl, by kernel_rfl, fun _ => by kernel_rfl⟩
def i2 : TI := ⟨.int .i64, 1, 8, .int .i64 0, true⟩
theorem ok2 : TyOk Tryd.prog 2 i2 := ⟨by kernel_rfl, by kernel_rfl, fun _ => by kernel_rfl⟩
def i3 : TI := ⟨.int .i64, 1, 8, .int .i64 0, true⟩
theorem ok3 : TyOk Tryd.prog 3 i3 := ⟨by kernel_rfl, by kernel_rfl, fun _ => by kernel_rfl⟩
def i4 : TI := ⟨.bool, 1, 1, .bool false, true⟩
theorem ok4 : TyOk Tryd.prog 4 i4 := ⟨by kernel_rfl, by kernel_rfl, fun _ => by kernel_rfl⟩
def i5 : TI := ⟨.int .u8, 1, 1, .int .u8 0, true⟩
theorem ok5 : TyOk Tryd.prog 5 i5 := ⟨by kernel_rfl, by kernel_rfl, fun _ => by kernel_rfl⟩
def i6 : TI := ⟨.int .u8, 1, 1, .int .u8 0, true⟩
theorem ok6 : TyOk Tryd.prog 6 i6 := ⟨by kernel_rfl, by kernel_rfl, fun _ => by kernel_rfl⟩
def i7 : TI := ⟨.struct [(2, 0), (3, 1), (4, 2), (6, 3)], 4, 24, .agg [.int .i64 0, .int .i64 0, .bool false, .int .u8 0], true⟩
theorem ok7 : TyOk Tryd.prog 7 i7 := ⟨by kernel_rfl, by kernel_rfl, fun _ => by kernel_rfl⟩
def i8 : TI := ⟨.struct [(2, 0), (3, 1), (4, 2), (6, 3)], 4, 24, .agg [.int .i64 0, .int .i64 0, .bool false, .int .u8 0], true⟩
theorem ok8 : TyOk Tryd.prog 8 i8 := ⟨by kernel_rfl, by kernel_rfl, fun _ => by kernel_rfl⟩
def i9 : TI := ⟨.str, 1, 16, .str ⟨#[]⟩, true⟩
theorem ok9 : TyOk Tryd.prog 9 i9 := ⟨by kernel_rfl, by kernel_rfl, fun _ => by kernel_rfl⟩
def i10 : TI := ⟨.str, 1, 16, .str ⟨#[]⟩, true⟩
theorem ok10 : TyOk Tryd.prog 10 i10 := ⟨by kernel_rfl, by kernel_rfl, fun _ => by kernel_rfl⟩
def i11 : TI := ⟨.str, 1, 16, .str ⟨#[]⟩, true⟩
theorem ok11 : TyOk Tryd.prog 11 i11 := ⟨by kernel_rfl, by kernel_rfl, fun _ => by kernel_rfl⟩
def i12 : TI := ⟨.int .u64, 1, 8, .int .u64 0, true⟩
theorem ok12 : TyOk Tryd.prog 12 i12 := ⟨by kernel_rfl, by kernel_rfl, fun _ => by kernel_rfl⟩
def i13 : TI := ⟨.struct [(9, 0), (12, 1)], 2, 24, .agg [.str ⟨#[]⟩, .int .u64 0], false⟩
theorem ok13 : TyOk Tryd.prog 13 i13 := ⟨by kernel_rfl, by kernel_rfl, fun h => by cases h⟩
def i14 : TI := ⟨.struct [(9, 0), (12, 1)], 2, 24, .agg [.str ⟨#[]⟩, .int .u64 0], false⟩
theorem ok14 : TyOk Tryd.prog 14 i14 := ⟨by kernel_rfl, by kernel_rfl, fun h => by cases h⟩
def i15 : TI := ⟨.ptr, 1, 8, .nilptr, true⟩
theorem ok15 : TyOk Tryd.prog 15 i15 := ⟨by kernel_rfl, by kernel_rfl, fun _ => by kernel_rfl⟩
def i16 : TI := ⟨.ptr, 1, 8, .nilptr, true⟩
theorem ok16 : TyOk Tryd.prog 16 i16 := ⟨by kernel_rfl, by kernel_rfl, fun _ => by kernel_rfl⟩
def i17 : TI := ⟨.ptr, 1, 8, .nilptr, true⟩
theorem ok17 : TyOk Tryd.prog 17 i17 := ⟨by kernel_rfl, by kernel_rfl, fun _ => by kernel_rfl⟩
def i18 : TI := ⟨.struct [(17, 0)], 1, 8, .agg [.nilptr], false⟩
theorem ok18 : TyOk Tryd.prog 18 i18 := ⟨by kernel_rfl, by kernel_rfl, fun h => by cases h⟩
def i19 : TI := ⟨.struct [(17, 0)], 1, 8, .agg [.nilptr], false⟩
theorem ok19 : TyOk Tryd.prog 19 i19 := ⟨by kernel_rfl, by kernel_rfl, fun h => by cases h⟩
def i20 : TI := ⟨.iface, 1, 16, .niliface, true⟩
theorem ok20 : TyOk Tryd.prog 20 i20 := ⟨by kernel_rfl, by kernel_rfl, fun _ => by kernel_rfl⟩
def i21 : TI := ⟨.int .i32, 1, 4, .int .i32 0, true⟩
theorem ok21 : TyOk Tryd.prog 21 i21 := ⟨by kernel_rfl, by kernel_rfl, fun _ => by kernel_rfl⟩
def i22 : TI := ⟨.struct [(3, 0), (2, 1), (2, 2), (2, 3), (2, 4)], 5, 40, .agg [.int .i64 0, .int .i64 0, .int .i64 0, .int .i64 0, .int .i64 0], true⟩
theorem ok22 : TyOk Tryd.prog 22 i22 := ⟨by kernel_rfl, by kernel_rfl, fun _ => by kernel_rfl⟩
def i23 : TI := ⟨.struct [(3, 0), (2, 1), (2, 2), (2, 3), (2, 4)], 5, 40, .agg [.int .i64 0, .int .i64 0, .int .i64 0, .int .i64 0, .int .i64 0], true⟩
theorem ok23 : TyOk Tryd.prog 23 i23 := ⟨by kernel_rfl, by kernel_rfl, fun _ => by kernel_rfl⟩
def i24 : TI := ⟨.func, 1, 8, .nilfunc, true⟩
theorem ok24 : TyOk Tryd.prog 24 i24 := ⟨by kernel_rfl, by kernel_rfl, fun _ => by kernel_rfl⟩
def i25 : TI := ⟨.func, 1, 8, .nilfunc, true⟩
theorem ok25 : TyOk Tryd.prog 25 i25 := ⟨by kernel_rfl, by kernel_rfl, fun _ => by kernel_rfl⟩
def i26 : TI := ⟨.func, 1, 8, .nilfunc, true⟩
theorem ok26 : TyOk Tryd.prog 26 i26 := ⟨by kernel_rfl, by kernel_rfl, fun _ => by kernel_rfl⟩
def i27 : TI := ⟨.int .i64, 1, 8, .int .i64 0, true⟩
theorem ok27 : TyOk Tryd.prog 27 i27 := ⟨by kernel_rfl, by kernel_rfl, fun _ => by kernel_rfl⟩
def i29 : TI := ⟨.func, 1, 8, .nilfunc, true⟩
theorem ok29 : TyOk Tryd.prog 29 i29 := ⟨by kernel_rfl, by kernel_rfl, fun _ => by kernel_rfl⟩
def i30 : TI := ⟨.func, 1, 8, .nilfunc, true⟩
theorem ok30 : TyOk Tryd.prog 30 i30 := ⟨by kernel_rfl, by kernel_rfl, fun _ => by kernel_rfl⟩
def i31 : TI := ⟨.struct [(23, 0), (2, 5), (2, 6), (2, 7)], 8, 64, .agg [.int .i64 0, .int .i64 0, .int .i64 0, .int .i64 0, .int .i64 0, .int .i64 0, .int .i64 0, .int .i64 0], true⟩
theorem ok31 : TyOk Tryd.prog 31 i31 := ⟨by kernel_rfl, by kernel_rfl, fun _ => by kernel_rfl⟩
def i32 : TI := ⟨.struct [(23, 0), (2, 5), (2, 6), (2, 7)], 8, 64, .agg [.int .i64 0, .int .i64 0, .int .i64 0, .int .i64 0, .int .i64 0, .int .i64 0, .int .i64 0, .int .i64 0], true⟩
theorem ok32 : TyOk Tryd.prog 32 i32 := ⟨by kernel_rfl, by kernel_rfl, fun _ => by kernel_rfl⟩
def i33 : TI := ⟨.arr 2 21, 2, 8, .agg [.int .i32 0, .int .i32 0], true⟩
theorem ok33 : TyOk Tryd.prog 33 i33 := ⟨by kernel_rfl, by kernel_rfl, fun _ => by kernel_rfl⟩
def i34 : TI := ⟨.func, 1, 8, .nilfunc, true⟩
theorem ok34 : TyOk Tryd.prog 34 i34 := ⟨by kernel_rfl, by kernel_rfl, fun _ => by kernel_rfl⟩
def i35 : TI := ⟨.slice 37, 1, 24, .nilslice, true⟩
theorem ok35 : TyOk Tryd.prog 35 i35 := ⟨by kernel_rfl, by kernel_rfl, fun _ => by kernel_rfl⟩
def i36 : TI := ⟨.slice 40, 1, 24, .nilslice, true⟩
theorem ok36 : TyOk Tryd.prog 36 i36 := ⟨by kernel_rfl, by kernel_rfl, fun _ => by kernel_rfl⟩
def i37 : TI := ⟨.slice 60, 1, 24, .nilslice, true⟩
theorem ok37 : TyOk Tryd.prog 37 i37 := ⟨by kernel_rfl, by kernel_rfl, fun _ => by kernel_rfl⟩
def i38 : TI := ⟨.func, 1, 8, .nilfunc, true⟩
theorem ok38 : TyOk Tryd.prog 38 i38 := ⟨by kernel_rfl, by kernel_rfl, fun _ => by kernel_rfl⟩
def i39 : TI := ⟨.struct [(2, 0), (2, 1)], 2, 16, .agg [.int .i64 0, .int .i64 0], true⟩
theorem ok39 : TyOk Tryd.prog 39 i39 := ⟨by kernel_rfl, by kernel_rfl, fun _ => by kernel_rfl⟩
def i40 : TI := ⟨.struct [(2, 0), (2, 1)], 2, 16, .agg [.int .i64 0, .int .i64 0], true⟩
theorem ok40 : TyOk Tryd.prog 40 i40 := ⟨by kernel_rfl, by kernel_rfl, fun _ => by kernel_rfl⟩
def i41 : TI := ⟨.func, 1, 8, .nilfunc, true⟩
theorem ok41 : TyOk Tryd.prog 41 i41 := ⟨by kernel_rfl, by kernel_rfl, fun _ => by kernel_rfl⟩
def i42 : TI := ⟨.slice 75, 1, 24, .nilslice, true⟩
theorem ok42 : TyOk Tryd.prog 42 i42 := ⟨by kernel_rfl, by kernel_rfl, fun _ => by kernel_rfl⟩
def i43 : TI := ⟨.slice 3, 1, 24, .nilslice, true⟩
theorem ok43 : TyOk Tryd.prog 43 i43 := ⟨by kernel_rfl, by kernel_rfl, fun _ => by kernel_rfl⟩
def i44 : TI := ⟨.struct [(3, 0), (42, 1), (43, 2)], 3, 56, .agg [.int .i64 0, .nilslice, .nilslice], true⟩
theorem ok44 : TyOk Tryd.prog 44 i44 := ⟨by kernel_rfl, by kernel_rfl, fun _ => by kernel_rfl⟩
def i45 : TI := ⟨.struct [(3, 0), (42, 1), (43, 2)], 3, 56, .agg [.int .i64 0, .nilslice, .nilslice], true⟩
theorem ok45 : TyOk Tryd.prog 45 i45 := ⟨by kernel_rfl, by kernel_rfl, fun _ => by kernel_rfl⟩
def i46 : TI := ⟨.func, 1, 8, .nilfunc, true⟩
theorem ok46 : TyOk Tryd.prog 46 i46 := ⟨by kernel_rfl, by kernel_rfl, fun _ => by kernel_rfl⟩
def i47 : TI := ⟨.slice 9, 1, 24, .nilslice, true⟩
theorem ok47 : TyOk Tryd.prog 47 i47 := ⟨by kernel_rfl, by kernel_rfl, fun _ => by kernel_rfl⟩
def i48 : TI := ⟨.struct [(47, 0), (35, 1)], 2, 48, .agg [.nilslice, .nilslice], true⟩
theorem ok48 : TyOk Tryd.prog 48 i48 := ⟨by kernel_rfl, by kernel_rfl, fun _ => by kernel_rfl⟩
def i49 : TI := ⟨.struct [(47, 0), (35, 1)], 2, 48, .agg [.nilslice, .nilslice], true⟩
theorem ok49 : TyOk Tryd.prog 49 i49 := ⟨by kernel_rfl, by kernel_rfl, fun _ => by kernel_rfl⟩
def i50 : TI := ⟨.struct [(2, 0), (2, 1), (36, 2), (36, 3), (36, 4), (36, 5)], 6, 112, .agg [.int .i64 0, .int .i64 0, .nilslice, .nilslice, .nilslice, .nilslice], true⟩
theorem ok50 : TyOk Tryd.prog 50 i50 := ⟨by kernel_rfl, by kernel_rfl, fun _ => by kernel_rfl⟩
def i51 : TI := ⟨.struct [(2, 0), (2, 1), (36, 2), (36, 3), (36, 4), (36, 5)], 6, 112, .agg [.int .i64 0, .int .i64 0, .nilslice, .nilslice, .nilslice, .nilslice], true⟩
theorem ok51 : TyOk Tryd.prog 51 i51 := ⟨by kernel_rfl, by kernel_rfl, fun _ => by kernel_rfl⟩
def i53 : TI := ⟨.func, 1, 8, .nilfunc, true⟩
theorem ok53 : TyOk Tryd.prog 53 i53 := ⟨by kernel_rfl, by kernel_rfl, fun _ => by kernel_rfl⟩
def i54 : TI := ⟨.func, 1, 8, .nilfunc, true⟩
theorem ok54 : TyOk Tryd.prog 54 i54 := ⟨by kernel_rfl, by kernel_rfl, fun _ => by kernel_rfl⟩
def i55 : TI := ⟨.func, 1, 8, .nilfunc, true⟩
theorem ok55 : TyOk Tryd.prog 55 i55 := ⟨by kernel_rfl, by kernel_rfl, fun _ => by kernel_rfl⟩
def i56 : TI := ⟨.func, 1, 8, .nilfunc, true⟩
theorem ok56 : TyOk Tryd.prog 56 i56 := ⟨by kernel_rfl, by kernel_rfl, fun _ => by kernel_rfl⟩
def i57 : TI := ⟨.func, 1, 8, .nilfunc, true⟩
theorem ok57 : TyOk Tryd.prog 57 i57 := ⟨by kernel_rfl, by kernel_rfl, fun _ => by kernel_rfl⟩
def i58 : TI := ⟨.func, 1, 8, .nilfunc, true⟩
theorem ok58 : TyOk Tryd.prog 58 i58 := ⟨by kernel_rfl, by kernel_rfl, fun _ => by kernel_rfl⟩
def i59 : TI := ⟨.struct [(3, 0), (3, 1), (40, 2)], 4, 32, .agg [.int .i64 0, .int .i64 0, .int .i64 0, .int .i64 0], true⟩
theorem ok59 : TyOk Tryd.prog 59 i59 := ⟨by kernel_rfl, by kernel_rfl, fun _ => by kernel_rfl⟩
def i60 : TI := ⟨.struct [(3, 0), (3, 1), (40, 2)], 4, 32, .agg [.int .i64 0, .int .i64 0, .int .i64 0, .int .i64 0], true⟩
theorem ok60 : TyOk Tryd.prog 60 i60 := ⟨by kernel_rfl, by kernel_rfl, fun _ => by kernel_rfl⟩
def i61 : TI := ⟨.func, 1, 8, .nilfunc, true⟩
theorem ok61 : TyOk Tryd.prog 61 i61 := ⟨by kernel_rfl, by kernel_rfl, fun _ => by kernel_rfl⟩
def i63 : TI := ⟨.func, 1, 8, .nilfunc, true⟩
theorem ok63 : TyOk Tryd.prog 63 i63 := ⟨by kernel_rfl, by kernel_rfl, fun _ => by kernel_rfl⟩
def i64 : TI := ⟨.func, 1, 8, .nilfunc, true⟩
theorem ok64 : TyOk Tryd.prog 64 i64 := ⟨by kernel_rfl, by kernel_rfl, fun _ => by kernel_rfl⟩
def i65 : TI := ⟨.func, 1, 8, .nilfunc, true⟩
theorem ok65 : TyOk Tryd.prog 65 i65 := ⟨by kernel_rfl, by kernel_rfl, fun _ => by kernel_rfl⟩
def i67 : TI := ⟨.func, 1, 8, .nilfunc, true⟩
theorem ok67 : TyOk Tryd.prog 67 i67 := ⟨by kernel_rfl, by kernel_rfl, fun _ => by kernel_rfl⟩
def i68 : TI := ⟨.struct [(2, 0), (2, 1)], 2, 16, .agg [.int .i64 0, .int .i64 0], true⟩
theorem ok68 : TyOk Tryd.prog 68 i68 := ⟨by kernel_rfl, by kernel_rfl, fun _ => by kernel_rfl⟩
def i69 : TI := ⟨.struct [(2, 0), (2, 1)], 2, 16, .agg [.int .i64 0, .int .i64 0], true⟩
theorem ok69 : TyOk Tryd.prog 69 i69 := ⟨by kernel_rfl, by kernel_rfl, fun _ => by kernel_rfl⟩
def i70 : TI := ⟨.func, 1, 8, .nilfunc, true⟩
theorem ok70 : TyOk Tryd.prog 70 i70 := ⟨by kernel_rfl, by kernel_rfl, fun _ => by kernel_rfl⟩
def i71 : TI := ⟨.func, 1, 8, .nilfunc, true⟩
theorem ok71 : TyOk Tryd.prog 71 i71 := ⟨by kernel_rfl, by kernel_rfl, fun _ => by kernel_rfl⟩
def i72 : TI := ⟨.func, 1, 8, .nilfunc, true⟩
theorem ok72 : TyOk Tryd.prog 72 i72 := ⟨by kernel_rfl, by kernel_rfl, fun _ => by kernel_rfl⟩
def i73 : TI := ⟨.func, 1, 8, .nilfunc, true⟩
theorem ok73 : TyOk Tryd.prog 73 i73 := ⟨by kernel_rfl, by kernel_rfl, fun _ => by kernel_rfl⟩
def i74 : TI := ⟨.struct [(3, 0), (3, 1), (3, 2), (40, 3)], 5, 40, .agg [.int .i64 0, .int .i64 0, .int .i64 0, .int .i64 0, .int .i64 0], true⟩
theorem ok74 : TyOk Tryd.prog 74 i74 := ⟨by kernel_rfl, by kernel_rfl, fun _ => by kernel_rfl⟩
def i75 : TI := ⟨.struct [(3, 0), (3, 1), (3, 2), (40, 3)], 5, 40, .agg [.int .i64 0, .int .i64 0, .int .i64 0, .int .i64 0, .int .i64 0], true⟩
theorem ok75 : TyOk Tryd.prog 75 i75 := ⟨by kernel_rfl, by kernel_rfl, fun _ => by kernel_rfl⟩
def i76 : TI := ⟨.arr 2 3, 2, 16, .agg [.int .i64 0, .int .i64 0], true⟩
theorem ok76 : TyOk Tryd.prog 76 i76 := ⟨by kernel_rfl, by kernel_rfl, fun _ => by kernel_rfl⟩
def i77 : TI := ⟨.func, 1, 8, .nilfunc, true⟩
theorem ok77 : TyOk Tryd.prog 77 i77 := ⟨by kernel_rfl, by kernel_rfl, fun _ => by kernel_rfl⟩
def i79 : TI := ⟨.func, 1, 8, .nilfunc, true⟩
theorem ok79 : TyOk Tryd.prog 79 i79 := ⟨by kernel_rfl, by kernel_rfl, fun _ => by kernel_rfl⟩
def i81 : TI := ⟨.func, 1, 8, .nilfunc, true⟩
theorem ok81 : TyOk Tryd.prog 81 i81 := ⟨by kernel_rfl, by kernel_rfl, fun _ => by kernel_rfl⟩
def i82 : TI := ⟨.func, 1, 8, .nilfunc, true⟩
theorem ok82 : TyOk Tryd.prog 82 i82 := ⟨by kernel_rfl, by kernel_rfl, fun _ => by kernel_rfl⟩
def i83 : TI := ⟨.struct [(2, 0), (2, 1), (40, 2), (3, 4)], 5, 40, .agg [.int .i64 0, .int .i64 0, .int .i64 0, .int .i64 0, .int .i64 0], true⟩
theorem ok83 : TyOk Tryd.prog 83 i83 := ⟨by kernel_rfl, by kernel_rfl, fun _ => by kernel_rfl⟩
def i84 : TI := ⟨.struct [(2, 0), (2, 1), (40, 2), (3, 4)], 5, 40, .agg [.int .i64 0, .int .i64 0, .int .i64 0, .int .i64 0, .int .i64 0], true⟩
theorem ok84 : TyOk Tryd.prog 84 i84 := ⟨by kernel_rfl, by kernel_rfl, fun _ => by kernel_rfl⟩
def i85 : TI := ⟨.func, 1, 8, .nilfunc, true⟩
theorem ok85 : TyOk Tryd.prog 85 i85 := ⟨by kernel_rfl, by kernel_rfl, fun _ => by kernel_rfl⟩
def i86 : TI := ⟨.func, 1, 8, .nilfunc, true⟩
theorem ok86 : TyOk Tryd.prog 86 i86 := ⟨by kernel_rfl, by kernel_rfl, fun _ => by kernel_rfl⟩
def i87 : TI := ⟨.func, 1, 8, .nilfunc, true⟩
theorem ok87 : TyOk Tryd.prog 87 i87 := ⟨by kernel_rfl, by kernel_rfl, fun _ => by kernel_rfl⟩
def i88 : TI := ⟨.func, 1, 8, .nilfunc, true⟩
theorem ok88 : TyOk Tryd.prog 88 i88 := ⟨by kernel_rfl, by kernel_rfl, fun _ => by kernel_rfl⟩
def i89 : TI := ⟨.func, 1, 8, .nilfunc, true⟩
theorem ok89 : TyOk Tryd.prog 89 i89 := ⟨by kernel_rfl, by kernel_rfl, fun _ => by kernel_rfl⟩
def i90 : TI := ⟨.func, 1, 8, .nilfunc, true⟩
theorem ok90 : TyOk Tryd.prog 90 i90 := ⟨by kernel_rfl, by kernel_rfl, fun _ => by kernel_rfl⟩
def i91 : TI := ⟨.func, 1, 8, .nilfunc, true⟩
theorem ok91 : TyOk Tryd.prog 91 i91 := ⟨by kernel_rfl, by kernel_rfl, fun _ => by kernel_rfl⟩
def i92 : TI := ⟨.func, 1, 8, .nilfunc, true⟩
theorem ok92 : TyOk Tryd.prog 92 i92 := ⟨by kernel_rfl, by kernel_rfl, fun _ => by kernel_rfl⟩
def i93 : TI := ⟨.func, 1, 8, .nilfunc, true⟩
theorem ok93 : TyOk Tryd.prog 93 i93 := ⟨by kernel_rfl, by kernel_rfl, fun _ => by kernel_rfl⟩
def i94 : TI := ⟨.slice 36, 1, 24, .nilslice, true⟩
theorem ok94 : TyOk Tryd.prog 94 i94 := ⟨by kernel_rfl, by kernel_rfl, fun _ => by kernel_rfl⟩
def i95 : TI := ⟨.func, 1, 8, .nilfunc, true⟩
theorem ok95 : TyOk Tryd.prog 95 i95 := ⟨by kernel_rfl, by kernel_rfl, fun _ => by kernel_rfl⟩
def i96 : TI := ⟨.func, 1, 8, .nilfunc, true⟩
theorem ok96 : TyOk Tryd.prog 96 i96 := ⟨by kernel_rfl, by kernel_rfl, fun _ => by kernel_rfl⟩
def i97 : TI := ⟨.func, 1, 8, .nilfunc, true⟩
theorem ok97 : TyOk Tryd.prog 97 i97 := ⟨by kernel_rfl, by kernel_rfl, fun _ => by kernel_rfl⟩
def i98 : TI := ⟨.func, 1, 8, .nilfunc, true⟩
theorem ok98 : TyOk Tryd.prog 98 i98 := ⟨by kernel_rfl, by kernel_rfl, fun _ => by kernel_rfl⟩
def i99 : TI := ⟨.func, 1, 8, .nilfunc, true⟩
theorem ok99 : TyOk Tryd.prog 99 i99 := ⟨by kernel_rfl, by kernel_rfl, fun _ => by kernel_rfl⟩
def i100 : TI := ⟨.func, 1, 8, .nilfunc, true⟩
theorem ok100 : TyOk Tryd.prog 100 i100 := ⟨by kernel_rfl, by kernel_rfl, fun _ => by kernel_rfl⟩
def i101 : TI := ⟨.func, 1, 8, .nilfunc, true⟩
theorem ok101 : TyOk Tryd.prog 101 i101 := ⟨by kernel_rfl, by kernel_rfl, fun _ => by kernel_rfl⟩
def i102 : TI := ⟨.func, 1, 8, .nilfunc, true⟩
theorem ok102 : TyOk Tryd.prog 102 i102 := ⟨by kernel_rfl, by kernel_rfl, fun _ => by kernel_rfl⟩
def i103 : TI := ⟨.func, 1, 8, .nilfunc, true⟩
theorem ok103 : TyOk Tryd.prog 103 i103 := ⟨by kernel_rfl, by kernel_rfl, fun _ => by kernel_rfl⟩
def i104 : TI := ⟨.func, 1, 8, .nilfunc, true⟩
theorem ok104 : TyOk Tryd.prog 104 i104 := ⟨by kernel_rfl, by kernel_rfl, fun _ => by kernel_rfl⟩
def i105 : TI := ⟨.func, 1, 8, .nilfunc, true⟩
theorem ok105 : TyOk Tryd.prog 105 i105 := ⟨by kernel_rfl, by kernel_rfl, fun _ => by kernel_rfl⟩
def i106 : TI := ⟨.func, 1, 8, .nilfunc, true⟩
theorem ok106 : TyOk Tryd.prog 106 i106 := ⟨by kernel_rfl, by kernel_rfl, fun _ => by kernel_rfl⟩
def i107 : TI := ⟨.func, 1, 8, .nilfunc, true⟩
theorem ok107 : TyOk Tryd.prog 107 i107 := ⟨by kernel_rfl, by kernel_rfl, fun _ => by kernel_rfl⟩
def i108 : TI := ⟨.func, 1, 8, .nilfunc, true⟩
theorem ok108 : TyOk Tryd.prog 108 i108 := ⟨by kernel_rfl, by kernel_rfl, fun _ => by kernel_rfl⟩
def i109 : TI := ⟨.func, 1, 8, .nilfunc, true⟩
theorem ok109 : TyOk Tryd.prog 109 i109 := ⟨by kernel_rfl, by kernel_rfl, fun _ => by kernel_rfl⟩
def i110 : TI := ⟨.func, 1, 8, .nilfunc, true⟩
theorem ok110 : TyOk Tryd.prog 110 i110 := ⟨by kernel_rfl, by kernel_rfl, fun _ => by kernel_rfl⟩
def i111 : TI := ⟨.func, 1, 8, .nilfunc, true⟩
theorem ok111 : TyOk Tryd.prog 111 i111 := ⟨by kernel_rfl, by kernel_rfl, fun _ => by kernel_rfl⟩
def i112 : TI := ⟨.func, 1, 8, .nilfunc, true⟩
theorem ok112 : TyOk Tryd.prog 112 i112 := ⟨by kernel_rfl, by kernel_rfl, fun _ => by kernel_rfl⟩
def i113 : TI := ⟨.func, 1, 8, .nilfunc, true⟩
theorem ok113 : TyOk Tryd.prog 113 i113 := ⟨by kernel_rfl, by kernel_rfl, fun _ => by kernel_rfl⟩
def i114 : TI := ⟨.func, 1, 8, .nilfunc, true⟩
theorem ok114 : TyOk Tryd.prog 114 i114 := ⟨by kernel_rfl, by kernel_rfl, fun _ => by kernel_rfl⟩
def i115 : TI := ⟨.struct [(111, 0), (111, 1), (104, 2), (104, 3), (104, 4), (111, 5), (112, 6), (113, 7), (114, 8)], 9, 72, .agg [.nilfunc, .nilfunc, .nilfunc, .nilfunc, .nilfunc, .nilfunc, .nilfunc, .nilfunc, .nilfunc], true⟩
theorem ok115 : TyOk Tryd.prog 115 i115 := ⟨by kernel_rfl, by kernel_rfl, fun _ => by kernel_rfl⟩
def i116 : TI := ⟨.struct [(111, 0), (111, 1), (104, 2), (104, 3), (104, 4), (111, 5), (112, 6), (113, 7), (114, 8)], 9, 72, .agg [.nilfunc, .nilfunc, .nilfunc, .nilfunc, .nilfunc, .nilfunc, .nilfunc, .nilfunc, .nilfunc], true⟩
theorem ok116 : TyOk Tryd.prog 116 i116 := ⟨by kernel_rfl, by kernel_rfl, fun _ => by kernel_rfl⟩
def i117 : TI := ⟨.func, 1, 8, .nilfunc, true⟩
theorem ok117 : TyOk Tryd.prog 117 i117 := ⟨by kernel_rfl, by kernel_rfl, fun _ => by kernel_rfl⟩
def i118 : TI := ⟨.func, 1, 8, .nilfunc, true⟩
theorem ok118 : TyOk Tryd.prog 118 i118 := ⟨by kernel_rfl, by kernel_rfl, fun _ => by kernel_rfl⟩
def i120 : TI := ⟨.func, 1, 8, .nilfunc, true⟩
theorem ok120 : TyOk Tryd.prog 120 i120 := ⟨by kernel_rfl, by kernel_rfl, fun _ => by kernel_rfl⟩
def i121 : TI := ⟨.func, 1, 8, .nilfunc, true⟩
theorem ok121 : TyOk Tryd.prog 121 i121 := ⟨by kernel_rfl, by kernel_rfl, fun _ => by kernel_rfl⟩
def i122 : TI := ⟨.func, 1, 8, .nilfunc, true⟩
theorem ok122 : TyOk Tryd.prog 122 i122 := ⟨by kernel_rfl, by kernel_rfl, fun _ => by kernel_rfl⟩
def i123 : TI := ⟨.func, 1, 8, .nilfunc, true⟩
theorem ok123 : TyOk Tryd.prog 123 i123 := ⟨by kernel_rfl, by kernel_rfl, fun _ => by kernel_rfl⟩
def i124 : TI := ⟨.func, 1, 8, .nilfunc, true⟩
theorem ok124 : TyOk Tryd.prog 124 i124 := ⟨by kernel_rfl, by kernel_rfl, fun _ => by kernel_rfl⟩
def i125 : TI := ⟨.func, 1, 8, .nilfunc, true⟩
theorem ok125 : TyOk Tryd.prog 125 i125 := ⟨by kernel_rfl, by kernel_rfl, fun _ => by kernel_rfl⟩
def i126 : TI := ⟨.func, 1, 8, .nilfunc, true⟩
theorem ok126 : TyOk Tryd.prog 126 i126 := ⟨by kernel_rfl, by kernel_rfl, fun _ => by kernel_rfl⟩
def i127 : TI := ⟨.func, 1, 8, .nilfunc, true⟩
theorem ok127 : TyOk Tryd.prog 127 i127 := ⟨by kernel_rfl, by kernel_rfl, fun _ => by kernel_rfl⟩
def i129 : TI := ⟨.func, 1, 8, .nilfunc, true⟩
theorem ok129 : TyOk Tryd.prog 129 i129 := ⟨by kernel_rfl, by kernel_rfl, fun _ => by kernel_rfl⟩
def i130 : TI := ⟨.func, 1, 8, .nilfunc, true⟩
theorem ok130 : TyOk Tryd.prog 130 i130 := ⟨by kernel_rfl, by kernel_rfl, fun _ => by kernel_rfl⟩
def i131 : TI := ⟨.struct [(130, 0), (130, 1)], 2, 16, .agg [.nilfunc, .nilfunc], true⟩
theorem ok131 : TyOk Tryd.prog 131 i131 := ⟨by kernel_rfl, by kernel_rfl, fun _ => by kernel_rfl⟩
def i132 : TI := ⟨.struct [(130, 0), (130, 1)], 2, 16, .agg [.nilfunc, .nilfunc], true⟩
theorem ok132 : TyOk Tryd.prog 132 i132 := ⟨by kernel_rfl, by kernel_rfl, fun _ => by kernel_rfl⟩
def i133 : TI := ⟨.arr 3 132, 6, 48, .agg [.nilfunc, .nilfunc, .nilfunc, .nilfunc, .nilfunc, .nilfunc], true⟩
theorem ok133 : TyOk Tryd.prog 133 i133 := ⟨by kernel_rfl, by kernel_rfl, fun _ => by kernel_rfl⟩
def i134 : TI := ⟨.arr 3 133, 18, 144, .agg [.nilfunc, .nilfunc, .nilfunc, .nilfunc, .nilfunc, .nilfunc, .nilfunc, .nilfunc, .nilfunc, .nilfunc, .nilfunc, .nilfunc, .nilfunc, .nilfunc, .nilfunc, .nilfunc, .nilfunc, .nilfunc], true⟩
theorem ok134 : TyOk Tryd.prog 134 i134 := ⟨by kernel_rfl, by kernel_rfl, fun _ => by kernel_rfl⟩
def i135 : TI := ⟨.struct [(111, 0), (104, 1)], 2, 16, .agg [.nilfunc, .nilfunc], true⟩
theorem ok135 : TyOk Tryd.prog 135 i135 := ⟨by kernel_rfl, by kernel_rfl, fun _ => by kernel_rfl⟩
def i136 : TI := ⟨.struct [(111, 0), (104, 1)], 2, 16, .agg [.nilfunc, .nilfunc], true⟩
theorem ok136 : TyOk Tryd.prog 136 i136 := ⟨by kernel_rfl, by kernel_rfl, fun _ => by kernel_rfl⟩
def i137 : TI := ⟨.arr 11 136, 22, 176, .agg [.nilfunc, .nilfunc, .nilfunc, .nilfunc, .nilfunc, .nilfunc, .nilfunc, .nilfunc, .nilfunc, .nilfunc, .nilfunc, .nilfunc, .nilfunc, .nilfunc, .nilfunc, .nilfunc, .nilfunc, .nilfunc, .nilfunc, .nilfunc, .nilfunc, .nilfunc], true⟩
theorem ok137 : TyOk Tryd.prog 137 i137 := ⟨by kernel_rfl, by kernel_rfl, fun _ => by kernel_rfl⟩
def i138 : TI := ⟨.func, 1, 8, .nilfunc, true⟩
theorem ok138 : TyOk Tryd.prog 138 i138 := ⟨by kernel_rfl, by kernel_rfl, fun _ => by kernel_rfl⟩
def i139 : TI := ⟨.func, 1, 8, .nilfunc, true⟩
theorem ok139 : TyOk Tryd.prog 139 i139 := ⟨by kernel_rfl, by kernel_rfl, fun _ => by kernel_rfl⟩
def i141 : TI := ⟨.func, 1, 8, .nilfunc, true⟩
theorem ok141 : TyOk Tryd.prog 141 i141 := ⟨by kernel_rfl, by kernel_rfl, fun _ => by kernel_rfl⟩
def i142 : TI := ⟨.func, 1, 8, .nilfunc, true⟩
theorem ok142 : TyOk Tryd.prog 142 i142 := ⟨by kernel_rfl, by kernel_rfl, fun _ => by kernel_rfl⟩
def i143 : TI := ⟨.func, 1, 8, .nilfunc, true⟩
theorem ok143 : TyOk Tryd.prog 143 i143 := ⟨by kernel_rfl, by kernel_rfl, fun _ => by kernel_rfl⟩
def i144 : TI := ⟨.arr 2 132, 4, 32, .agg [.nilfunc, .nilfunc, .nilfunc, .nilfunc], true⟩
theorem ok144 : TyOk Tryd.prog 144 i144 := ⟨by kernel_rfl, by kernel_rfl, fun _ => by kernel_rfl⟩
def i145 : TI := ⟨.arr 3 144, 12, 96, .agg [.nilfunc, .nilfunc, .nilfunc, .nilfunc, .nilfunc, .nilfunc, .nilfunc, .nilfunc, .nilfunc, .nilfunc, .nilfunc, .nilfunc], true⟩
theorem ok145 : TyOk Tryd.prog 145 i145 := ⟨by kernel_rfl, by kernel_rfl, fun _ => by kernel_rfl⟩
def i146 : TI := ⟨.func, 1, 8, .nilfunc, true⟩
theorem ok146 : TyOk Tryd.prog 146 i146 := ⟨by kernel_rfl, by kernel_rfl, fun _ => by kernel_rfl⟩
def i147 : TI := ⟨.func, 1, 8, .nilfunc, true⟩
theorem ok147 : TyOk Tryd.prog 147 i147 := ⟨by kernel_rfl, by kernel_rfl, fun _ => by kernel_rfl⟩
def i148 : TI := ⟨.func, 1, 8, .nilfunc, true⟩
theorem ok148 : TyOk Tryd.prog 148 i148 := ⟨by kernel_rfl, by kernel_rfl, fun _ => by kernel_rfl⟩
def i149 : TI := ⟨.func, 1, 8, .nilfunc, true⟩
theorem ok149 : TyOk Tryd.prog 149 i149 := ⟨by kernel_rfl, by kernel_rfl, fun _ => by kernel_rfl⟩
def i150 : TI := ⟨.func, 1, 8, .nilfunc, true⟩
theorem ok150 : TyOk Tryd.prog 150 i150 := ⟨by kernel_rfl, by kernel_rfl, fun _ => by kernel_rfl⟩
def i151 : TI := ⟨.int .u64, 1, 8, .int .u64 0, true⟩
theorem ok151 : TyOk Tryd.prog 151 i151 := ⟨by kernel_rfl, by kernel_rfl, fun _ => by kernel_rfl⟩
def i152 : TI := ⟨.func, 1, 8, .nilfunc, true⟩
theorem ok152 : TyOk Tryd.prog 152 i152 := ⟨by kernel_rfl, by kernel_rfl, fun _ => by kernel_rfl⟩
def i153 : TI := ⟨.int .u64, 1, 8, .int .u64 0, true⟩
theorem ok153 : TyOk Tryd.prog 153 i153 := ⟨by kernel_rfl, by kernel_rfl, fun _ => by kernel_rfl⟩
def i154 : TI := ⟨.func, 1, 8, .nilfunc, true⟩
theorem ok154 : TyOk Tryd.prog 154 i154 := ⟨by kernel_rfl, by kernel_rfl, fun _ => by kernel_rfl⟩
def i155 : TI := ⟨.struct [(17, 0), (17, 1), (17, 2), (9, 3)], 4, 40, .agg [.nilptr, .nilptr, .nilptr, .str ⟨#[]⟩], false⟩
theorem ok155 : TyOk Tryd.prog 155 i155 := ⟨by kernel_rfl, by kernel_rfl, fun h => by cases h⟩
def i156 : TI := ⟨.struct [(17, 0), (17, 1), (17, 2), (9, 3)], 4, 40, .agg [.nilptr, .nilptr, .nilptr, .str ⟨#[]⟩], false⟩
theorem ok156 : TyOk Tryd.prog 156 i156 := ⟨by kernel_rfl, by kernel_rfl, fun h => by cases h⟩
def i157 : TI := ⟨.arr 0 16, 0, 0, .agg [], true⟩
theorem ok157 : TyOk Tryd.prog 157 i157 := ⟨by kernel_rfl, by kernel_rfl, fun _ => by kernel_rfl⟩
def i158 : TI := ⟨.struct [(157, 0)], 0, 0, .agg [], false⟩
theorem ok158 : TyOk Tryd.prog 158 i158 := ⟨by kernel_rfl, by kernel_rfl, fun h => by cases h⟩
def i159 : TI := ⟨.struct [(157, 0)], 0, 0, .agg [], false⟩
theorem ok159 : TyOk Tryd.prog 159 i159 := ⟨by kernel_rfl, by kernel_rfl, fun h => by cases h⟩
def i160 : TI := ⟨.func, 1, 8, .nilfunc, true⟩
theorem ok160 : TyOk Tryd.prog 160 i160 := ⟨by kernel_rfl, by kernel_rfl, fun _ => by kernel_rfl⟩
def i161 : TI := ⟨.int .u32, 1, 4, .int .u32 0, true⟩
theorem ok161 : TyOk Tryd.prog 161 i161 := ⟨by kernel_rfl, by kernel_rfl, fun _ => by kernel_rfl⟩
def i162 : TI := ⟨.int .u8, 1, 1, .int .u8 0, true⟩
theorem ok162 : TyOk Tryd.prog 162 i162 := ⟨by kernel_rfl, by kernel_rfl, fun _ => by kernel_rfl⟩
def i163 : TI := ⟨.int .u8, 1, 1, .int .u8 0, true⟩
theorem ok163 : TyOk Tryd.prog 163 i163 := ⟨by kernel_rfl, by kernel_rfl, fun _ => by kernel_rfl⟩
def i164 : TI := ⟨.func, 1, 8, .nilfunc, true⟩
theorem ok164 : TyOk Tryd.prog 164 i164 := ⟨by kernel_rfl, by kernel_rfl, fun _ => by kernel_rfl⟩
def i165 : TI := ⟨.ptr, 1, 8, .nilptr, true⟩
theorem ok165 : TyOk Tryd.prog 165 i165 := ⟨by kernel_rfl, by kernel_rfl, fun _ => by kernel_rfl⟩
def i166 : TI := ⟨.int .i32, 1, 4, .int .i32 0, true⟩
theorem ok166 : TyOk Tryd.prog 166 i166 := ⟨by kernel_rfl, by kernel_rfl, fun _ => by kernel_rfl⟩
def i167 : TI := ⟨.int .i32, 1, 4, .int .i32 0, true⟩
theorem ok167 : TyOk Tryd.prog 167 i167 := ⟨by kernel_rfl, by kernel_rfl, fun _ => by kernel_rfl⟩
def i168 : TI := ⟨.struct [(12, 0), (12, 1), (161, 2), (162, 3), (5, 4), (5, 5), (163, 6), (164, 7), (165, 8), (166, 9), (167, 10)], 11, 48, .agg [.int .u64 0, .int .u64 0, .int .u32 0, .int .u8 0, .int .u8 0, .int .u8 0, .int .u8 0, .nilfunc, .nilptr, .int .i32 0, .int .i32 0], false⟩
theorem ok168 : TyOk Tryd.prog 168 i168 := ⟨by kernel_rfl, by kernel_rfl, fun h => by cases h⟩
def i169 : TI := ⟨.struct [(12, 0), (12, 1), (161, 2), (162, 3), (5, 4), (5, 5), (163, 6), (164, 7), (165, 8), (166, 9), (167, 10)], 11, 48, .agg [.int .u64 0, .int .u64 0, .int .u32 0, .int .u8 0, .int .u8 0, .int .u8 0, .int .u8 0, .nilfunc, .nilptr, .int .i32 0, .int .i32 0], false⟩
theorem ok169 : TyOk Tryd.prog 169 i169 := ⟨by kernel_rfl, by kernel_rfl, fun h => by cases h⟩
def tab_0 : Nat → Option TI
  | 1 => some i1
  | 2 => some i2
  | 3 => some i3
  | 4 => some i4
  | 5 => some i5
  | 6 => some i6
  | 7 => some i7
  | 8 => some i8
  | 9 => some i9
  | 10 => some i10
  | 11 => some i11
  | 12 => some i12
  | 13 => some i13
  | 14 => some i14
  | 15 => some i15
  | 16 => some i16
  | 17 => some i17
  | 18 => some i18
  | 19 => some i19
  | 20 => some i20
  | 21 => some i21
  | 22 => some i22
  | 23 => some i23
  | 24 => some i24
  | 25 => some i25
  | 26 => some i26
  | 27 => some i27
  | 29 => some i29
  | 30 => some i30
  | 31 => some i31
  | 32 => some i32
  | 33 => some i33
  | 34 => some i34
  | 35 => some i35
  | 36 => some i36
  | 37 => some i37
  | 38 => some i38
  | 39 => some i39
  | 40 => some i40
  | 41 => some i41
  | 42 => some i42
  | 43 => some i43
  | 44 => some i44
  | 45 => some i45
  | 46 => some i46
  | 47 => some i47
  | _ => none
theorem tab_ok_0 {t : Nat} {i : TI} (h : tab_0 t = some i) : TyOk Tryd.prog t i := by
  unfold tab_0 at h
  split at h <;> cases h
  · exact ok1
  · exact ok2
  · exact ok3
  · exact ok4
  · exact ok5
  · exact ok6
  · exact ok7
  · exact ok8
  · exact ok9
  · exact ok10
  · exact ok11
  · exact ok12
  · exact ok13
  · exact ok14
  · exact ok15
  · exact ok16
  · exact ok17
  · exact ok18
  · exact ok19
  · exact ok20
  · exact ok21
  · exact ok22
  · exact ok23
  · exact ok24
  · exact ok25
  · exact ok26
  · exact ok27
  · exact ok29
  · exact ok30
  · exact ok31
  · exact ok32
  · exact ok33
  · exact ok34
  · exact ok35
  · exact ok36
  · exact ok37
  · exact ok38
  · exact ok39
  · exact ok40
  · exact ok41
  · exact ok42
  · exact ok43
  · exact ok44
  · exact ok45
  · exact ok46
  · exact ok47
def tab_1 : Nat → Option TI
  | 48 => some i48
  | 49 => some i49
  | 50 => some i50
  | 51 => some i51
  | 53 => some i53
  | 54 => some i54
  | 55 => some i55
  | 56 => some i56
  | 57 => some i57
  | 58 => some i58
  | 59 => some i59
  | 60 => some i60
  | 61 => some i61
  | 63 => some i63
  | 64 => some i64
  | 65 => some i65
  | 67 => some i67
  | 68 => some i68
  | 69 => some i69
  | 70 => some i70
  | 71 => some i71
  | 72 => some i72
  | 73 => some i73
  | 74 => some i74
  | 75 => some i75
  | 76 => some i76
  | 77 => some i77
  | 79 => some i79
  | 81 => some i81
  | 82 => some i82
  | 83 => some i83
  | 84 => some i84
  | 85 => some i85
  | 86 => some i86
  | 87 => some i87
  | 88 => some i88
  | 89 => some i89
  | 90 => some i90
  | 91 => some i91
  | 92 => some i92
  | 93 => some i93
  | 94 => some i94
  | 95 => some i95
  | _ => none
theorem tab_ok_1 {t : Nat} {i : TI} (h : tab_1 t = some i) : TyOk Tryd.prog t i := by
  unfold tab_1 at h
  split at h <;> cases h
  · exact ok48
  · exact ok49
  · exact ok50
  · exact ok51
  · exact ok53
  · exact ok54
  · exact ok55
  · exact ok56
  · exact ok57
  · exact ok58
  · exact ok59
  · exact ok60
  · exact ok61
  · exact ok63
  · exact ok64
  · exact ok65
  · exact ok67
  · exact ok68
  · exact ok69
  · exact ok70
  · exact ok71
  · exact ok72
  · exact ok73
  · exact ok74
  · exact ok75
  · exact ok76
  · exact ok77
  · exact ok79
  · exact ok81
  · exact ok82
  · exact ok83
  · exact ok84
  · exact ok85
  · exact ok86
  · exact ok87
  · exact ok88
  · exact ok89
  · exact ok90
  · exact ok91
  · exact ok92
  · exact ok93
  · exact ok94
  · exact ok95
def tab_2 : Nat → Option TI
  | 96 => some i96
  | 97 => some i97
  | 98 => some i98
  | 99 => some i99
  | 100 => some i100
  | 101 => some i101
  | 102 => some i102
  | 103 => some i103
  | 104 => some i104
  | 105 => some i105
  | 106 => some i106
  | 107 => some i107
  | 108 => some i108
  | 109 => some i109
  | 110 => some i110
  | 111 => some i111
  | 112 => some i112
  | 113 => some i113
  | 114 => some i114
  | 115 => some i115
  | 116 => some i116
  | 117 => some i117
  | 118 => some i118
  | 120 => some i120
  | 121 => some i121
  | 122 => some i122
  | 123 => some i123
  | 124 => some i124
  | 125 => some i125
  | 126 => some i126
  | 127 => some i127
  | 129 => some i129
  | 130 => some i130
  | 131 => some i131
  | 132 => some i132
  | 133 => some i133
  | 134 => some i134
  | 135 => some i135
  | 136 => some i136
  | 137 => some i137
  | 138 => some i138
  | 139 => some i139
  | 141 => some i141
  | 142 => some i142
  | 143 => some i143
  | _ => none
theorem tab_ok_2 {t : Nat} {i : TI} (h : tab_2 t = some i) : TyOk Tryd.prog t i := by
  unfold tab_2 at h
  split at h <;> cases h
  · exact ok96
  · exact ok97
  · exact ok98
  · exact ok99
  · exact ok100
  · exact ok101
  · exact ok102
  · exact ok103
  · exact ok104
  · exact ok105
  · exact ok106
  · exact ok107
  · exact ok108
  · exact ok109
  · exact ok110
  · exact ok111
  · exact ok112
  · exact ok113
  · exact ok114
  · exact ok115
  · exact ok116
  · exact ok117
  · exact ok118
  · exact ok120
  · exact ok121
  · exact ok122
  · exact ok123
  · exact ok124
  · exact ok125
  · exact ok126
  · exact ok127
  · exact ok129
  · exact ok130
  · exact ok131
  · exact ok132
  · exact ok133
  · exact ok134
  · exact ok135
  · exact ok136
  · exact ok137
  · exact ok138
  · exact ok139
  · exact ok141
  · exact ok142
  · exact ok143
def tab_3 : Nat → Option TI
  | 144 => some i144
  | 145 => some i145
  | 146 => some i146
  | 147 => some i147
  | 148 => some i148
  | 149 => some i149
  | 150 => some i150
  | 151 => some i151
  | 152 => some i152
  | 153 => some i153
  | 154 => some i154
  | 155 => some i155
  | 156 => some i156
  | 157 => some i157
  | 158 => some i158
  | 159 => some i159
  | 160 => some i160
  | 161 => some i161
  | 162 => some i162
  | 163 => some i163
  | 164 => some i164
  | 165 => some i165
  | 166 => some i166
  | 167 => some i167
  | 168 => some i168
  | 169 => some i169
  | _ => none
theorem tab_ok_3 {t : Nat} {i : TI} (h : tab_3 t = some i) : TyOk Tryd.prog t i := by
  unfold tab_3 at h
  split at h <;> cases h
  · exact ok144
  · exact ok145
  · exact ok146
  · exact ok147
  · exact ok148
  · exact ok149
  · exact ok150
  · exact ok151
  · exact ok152
  · exact ok153
  · exact ok154
  · exact ok155
  · exact ok156
  · exact ok157
  · exact ok158
  · exact ok159
  · exact ok160
  · exact ok161
  · exact ok162
  · exact ok163
  · exact ok164
  · exact ok165
  · exact ok166
  · exact ok167
  · exact ok168
  · exact ok169
def tab (t : Nat) : Option TI := if t < 48 then tab_0 t else if t < 96 then tab_1 t else if t < 144 then tab_2 t else if t < 192 then tab_3 t else none
theorem tab_ok : TabOk Tryd.prog tab := by
  intro t i h
  unfold tab at h
  by_cases h0 : t < 48
  · rw [if_pos h0] at h; exact tab_ok_0 h
  rw [if_neg h0] at h
  by_cases h1 : t < 96
  · rw [if_pos h1] at h; exact tab_ok_1 h
  rw [if_neg h1] at h
  by_cases h2 : t < 144
  · rw [if_pos h2] at h; exact tab_ok_2 h
  rw [if_neg h2] at h
  by_cases h3 : t < 192
  · rw [if_pos h3] at h; exact tab_ok_3 h
  rw [if_neg h3] at h
  cases h
@[simp] theorem tab1 : tab 1 = some ⟨.func, 1, 8, .nilfunc, true⟩ := nd rfl
@[simp] theorem tab2 : tab 2 = some ⟨.int .i64, 1, 8, .int .i64 0, true⟩ := nd rfl
@[simp] theorem tab3 : tab 3 = some ⟨.int .i64, 1, 8, .int .i64 0, true⟩ := nd rfl
@[simp] theorem tab4 : tab 4 = some ⟨.bool, 1, 1, .bool false, true⟩ := nd rfl
@[simp] theorem tab5 : tab 5 = some ⟨.int .u8, 1, 1, .int .u8 0, true⟩ := nd rfl
@[simp] theorem tab6 : tab 6 = some ⟨.int .u8, 1, 1, .int .u8 0, true⟩ := nd rfl
@[simp] theorem tab7 : tab 7 = some ⟨.struct [(2, 0), (3, 1), (4, 2), (6, 3)], 4, 24, .agg [.int .i64 0, .int .i64 0, .bool false, .int .u8 0], true⟩ := nd rfl
@[simp] theorem tab8 : tab 8 = some ⟨.struct [(2, 0), (3, 1), (4, 2), (6, 3)], 4, 24, .agg [.int .i64 0, .int .i64 0, .bool false, .int .u8 0], true⟩ := nd rfl
@[simp] theorem tab9 : tab 9 = some ⟨.str, 1, 16, .str ⟨#[]⟩, true⟩ := nd rfl
@[simp] theorem tab10 : tab 10 = some ⟨.str, 1, 16, .str ⟨#[]⟩, true⟩ := nd rfl
@[simp] theorem tab11 : tab 11 = some ⟨.str, 1, 16, .str ⟨#[]⟩, true⟩ := nd rfl
@[simp] theorem tab12 : tab 12 = some ⟨.int .u64, 1, 8, .int .u64 0, true⟩ := nd rfl
@[simp] theorem tab13 : tab 13 = some ⟨.struct [(9, 0), (12, 1)], 2, 24, .agg [.str ⟨#[]⟩, .int .u64 0], false⟩ := nd rfl
@[simp] theorem tab14 : tab 14 = some ⟨.struct [(9, 0), (12, 1)], 2, 24, .agg [.str ⟨#[]⟩, .int .u64 0], false⟩ := nd rfl
@[simp] theorem tab15 : tab 15 = some ⟨.ptr, 1, 8, .nilptr, true⟩ := nd rfl
@[simp] theorem tab16 : tab 16 = some ⟨.ptr, 1, 8, .nilptr, true⟩ := nd rfl
@[simp] theorem tab17 : tab 17 = some ⟨.ptr, 1, 8, .nilptr, true⟩ := nd rfl
@[simp] theorem tab18 : tab 18 = some ⟨.struct [(17, 0)], 1, 8, .agg [.nilptr], false⟩ := nd rfl
@[simp] theorem tab19 : tab 19 = some ⟨.struct [(17, 0)], 1, 8, .agg [.nilptr], false⟩ := nd rfl
@[simp] theorem tab20 : tab 20 = some ⟨.iface, 1, 16, .niliface, true⟩ := nd rfl
@[simp] theorem tab21 : tab 21 = some ⟨.int .i32, 1, 4, .int .i32 0, true⟩ := nd rfl
@[simp] theorem tab22 : tab 22 = some ⟨.struct [(3, 0), (2, 1), (2, 2), (2, 3), (2, 4)], 5, 40, .agg [.int .i64 0, .int .i64 0, .int .i64 0, .int .i64 0, .int .i64 0], true⟩ := nd rfl
@[simp] theorem tab23 : tab 23 = some ⟨.struct [(3, 0), (2, 1), (2, 2), (2, 3), (2, 4)], 5, 40, .agg [.int .i64 0, .int .i64 0, .int .i64 0, .int .i64 0, .int .i64 0], true⟩ := nd rfl
@[simp] theorem tab24 : tab 24 = some ⟨.func, 1, 8, .nilfunc, true⟩ := nd rfl
@[simp] theorem tab25 : tab 25 = some ⟨.func, 1, 8, .nilfunc, true⟩ := nd rfl
@[simp] theorem tab26 : tab 26 = some ⟨.func, 1, 8, .nilfunc, true⟩ := nd rfl
@[simp] theorem tab27 : tab 27 = some ⟨.int .i64, 1, 8, .int .i64 0, true⟩ := nd rfl
@[simp] theorem tab29 : tab 29 = some ⟨.func, 1, 8, .nilfunc, true⟩ := nd rfl
@[simp] theorem tab30 : tab 30 = some ⟨.func, 1, 8, .nilfunc, true⟩ := nd rfl
@[simp] theorem tab31 : tab 31 = some ⟨.struct [(23, 0), (2, 5), (2, 6), (2, 7)], 8, 64, .agg [.int .i64 0, .int .i64 0, .int .i64 0, .int .i64 0, .int .i64 0, .int .i64 0, .int .i64 0, .int .i64 0], true⟩ := nd rfl
@[simp] theorem tab32 : tab 32 = some ⟨.struct [(23, 0), (2, 5), (2, 6), (2, 7)], 8, 64, .agg [.int .i64 0, .int .i64 0, .int .i64 0, .int .i64 0, .int .i64 0, .int .i64 0, .int .i64 0, .int .i64 0], true⟩ := nd rfl
@[simp] theorem tab33 : tab 33 = some ⟨.arr 2 21, 2, 8, .agg [.int .i32 0, .int .i32 0], true⟩ := nd rfl
@[simp] theorem tab34 : tab 34 = some ⟨.func, 1, 8, .nilfunc, true⟩ := nd rfl
@[simp] theorem tab35 : tab 35 = some ⟨.slice 37, 1, 24, .nilslice, true⟩ := nd rfl
@[simp] theorem tab36 : tab 36 = some ⟨.slice 40, 1, 24, .nilslice, true⟩ := nd rfl
@[simp] theorem tab37 : tab 37 = some ⟨.slice 60, 1, 24, .nilslice, true⟩ := nd rfl
@[simp] theorem tab38 : tab 38 = some ⟨.func, 1, 8, .nilfunc, true⟩ := nd rfl
@[simp] theorem tab39 : tab 39 = some ⟨.struct [(2, 0), (2, 1)], 2, 16, .agg [.int .i64 0, .int .i64 0], true⟩ := nd rfl
@[simp] theorem tab40 : tab 40 = some ⟨.struct [(2, 0), (2, 1)], 2, 16, .agg [.int .i64 0, .int .i64 0], true⟩ := nd rfl
@[simp] theorem tab41 : tab 41 = some ⟨.func, 1, 8, .nilfunc, true⟩ := nd rfl
@[simp] theorem tab42 : tab 42 = some ⟨.slice 75, 1, 24, .nilslice, true⟩ := nd rfl
@[simp] theorem tab43 : tab 43 = some ⟨.slice 3, 1, 24, .nilslice, true⟩ := nd rfl
@[simp] theorem tab44 : tab 44 = some ⟨.struct [(3, 0), (42, 1), (43, 2)], 3, 56, .agg [.int .i64 0, .nilslice, .nilslice], true⟩ := nd rfl
@[simp] theorem tab45 : tab 45 = some ⟨.struct [(3, 0), (42, 1), (43, 2)], 3, 56, .agg [.int .i64 0, .nilslice, .nilslice], true⟩ := nd rfl
@[simp] theorem tab46 : tab 46 = some ⟨.func, 1, 8, .nilfunc, true⟩ := nd rfl
@[simp] theorem tab47 : tab 47 = some ⟨.slice 9, 1, 24, .nilslice, true⟩ := nd rfl
@[simp] theorem tab48 : tab 48 = some ⟨.struct [(47, 0), (35, 1)], 2, 48, .agg [.nilslice, .nilslice], true⟩ := nd rfl
@[simp] theorem tab49 : tab 49 = some ⟨.struct [(47, 0), (35, 1)], 2, 48, .agg [.nilslice, .nilslice], true⟩ := nd rfl
@[simp] theorem tab50 : tab 50 = some ⟨.struct [(2, 0), (2, 1), (36, 2), (36, 3), (36, 4), (36, 5)], 6, 112, .agg [.int .i64 0, .int .i64 0, .nilslice, .nilslice, .nilslice, .nilslice], true⟩ := nd rfl
@[simp] theorem tab51 : tab 51 = some ⟨.struct [(2, 0), (2, 1), (36, 2), (36, 3), (36, 4), (36, 5)], 6, 112, .agg [.int .i64 0, .int .i64 0, .nilslice, .nilslice, .nilslice, .nilslice], true⟩ := nd rfl
@[simp] theorem tab53 : tab 53 = some ⟨.func, 1, 8, .nilfunc, true⟩ := nd rfl
@[simp] theorem tab54 : tab 54 = some ⟨.func, 1, 8, .nilfunc, true⟩ := nd rfl
@[simp] theorem tab55 : tab 55 = some ⟨.func, 1, 8, .nilfunc, true⟩ := nd rfl
@[simp] theorem tab56 : tab 56 = some ⟨.func, 1, 8, .nilfunc, true⟩ := nd rfl
@[simp] theorem tab57 : tab 57 = some ⟨.func, 1, 8, .nilfunc, true⟩ := nd rfl
@[simp] theorem tab58 : tab 58 = some ⟨.func, 1, 8, .nilfunc, true⟩ := nd rfl
@[simp] theorem tab59 : tab 59 = some ⟨.struct [(3, 0), (3, 1), (40, 2)], 4, 32, .agg [.int .i64 0, .int .i64 0, .int .i64 0, .int .i64 0], true⟩ := nd rfl
@[simp] theorem tab60 : tab 60 = some ⟨.struct [(3, 0), (3, 1), (40, 2)], 4, 32, .agg [.int .i64 0, .int .i64 0, .int .i64 0, .int .i64 0], true⟩ := nd rfl
@[simp] theorem tab61 : tab 61 = some ⟨.func, 1, 8, .nilfunc, true⟩ := nd rfl
@[simp] theorem tab63 : tab 63 = some ⟨.func, 1, 8, .nilfunc, true⟩ := nd rfl
@[simp] theorem tab64 : tab 64 = some ⟨.func, 1, 8, .nilfunc, true⟩ := nd rfl
@[simp] theorem tab65 : tab 65 = some ⟨.func, 1, 8, .nilfunc, true⟩ := nd rfl
@[simp] theorem tab67 : tab 67 = some ⟨.func, 1, 8, .nilfunc, true⟩ := nd rfl
@[simp] theorem tab68 : tab 68 = some ⟨.struct [(2, 0), (2, 1)], 2, 16, .agg [.int .i64 0, .int .i64 0], true⟩ := nd rfl
@[simp] theorem tab69 : tab 69 = some ⟨.struct [(2, 0), (2, 1)], 2, 16, .agg [.int .i64 0, .int .i64 0], true⟩ := nd rfl
@[simp] theorem tab70 : tab 70 = some ⟨.func, 1, 8, .nilfunc, true⟩ := nd rfl
@[simp] theorem tab71 : tab 71 = some ⟨.func, 1, 8, .nilfunc, true⟩ := nd rfl
@[simp] theorem tab72 : tab 72 = some ⟨.func, 1, 8, .nilfunc, true⟩ := nd rfl
@[simp] theorem tab73 : tab 73 = some ⟨.func, 1, 8, .nilfunc, true⟩ := nd rfl
@[simp] theorem tab74 : tab 74 = some ⟨.struct [(3, 0), (3, 1), (3, 2), (40, 3)], 5, 40, .agg [.int .i64 0, .int .i64 0, .int .i64 0, .int .i64 0, .int .i64 0], true⟩ := nd rfl
@[simp] theorem tab75 : tab 75 = some ⟨.struct [(3, 0), (3, 1), (3, 2), (40, 3)], 5, 40, .agg [.int .i64 0, .int .i64 0, .int .i64 0, .int .i64 0, .int .i64 0], true⟩ := nd rfl
@[simp] theorem tab76 : tab 76 = some ⟨.arr 2 3, 2, 16, .agg [.int .i64 0, .int .i64 0], true⟩ := nd rfl
@[simp] theorem tab77 : tab 77 = some ⟨.func, 1, 8, .nilfunc, true⟩ := nd rfl
@[simp] theorem tab79 : tab 79 = some ⟨.func, 1, 8, .nilfunc, true⟩ := nd rfl
@[simp] theorem tab81 : tab 81 = some ⟨.func, 1, 8, .nilfunc, true⟩ := nd rfl
@[simp] theorem tab82 : tab 82 = some ⟨.func, 1, 8, .nilfunc, true⟩ := nd rfl
@[simp] theorem tab83 : tab 83 = some ⟨.struct [(2, 0), (2, 1), (40, 2), (3, 4)], 5, 40, .agg [.int .i64 0, .int .i64 0, .int .i64 0, .int .i64 0, .int .i64 0], true⟩ := nd rfl
@[simp] theorem tab84 : tab 84 = some ⟨.struct [(2, 0), (2, 1), (40, 2), (3, 4)], 5, 40, .agg [.int .i64 0, .int .i64 0, .int .i64 0, .int .i64 0, .int .i64 0], true⟩ := nd rfl
@[simp] theorem tab85 : tab 85 = some ⟨.func, 1, 8, .nilfunc, true⟩ := nd rfl
@[simp] theorem tab86 : tab 86 = some ⟨.func, 1, 8, .nilfunc, true⟩ := nd rfl
@[simp] theorem tab87 : tab 87 = some ⟨.func, 1, 8, .nilfunc, true⟩ := nd rfl
@[simp] theorem tab88 : tab 88 = some ⟨.func, 1, 8, .nilfunc, true⟩ := nd rfl
@[simp] theorem tab89 : tab 89 = some ⟨.func, 1, 8, .nilfunc, true⟩ := nd rfl
@[simp] theorem tab90 : tab 90 = some ⟨.func, 1, 8, .nilfunc, true⟩ := nd rfl
@[simp] theorem tab91 : tab 91 = some ⟨.func, 1, 8, .nilfunc, true⟩ := nd rfl
@[simp] theorem tab92 : tab 92 = some ⟨.func, 1, 8, .nilfunc, true⟩ := nd rfl
@[simp] theorem tab93 : tab 93 = some ⟨.func, 1, 8, .nilfunc, true⟩ := nd rfl
@[simp] theorem tab94 : tab 94 = some ⟨.slice 36, 1, 24, .nilslice, true⟩ := nd rfl
@[simp] theorem tab95 : tab 95 = some ⟨.func, 1, 8, .nilfunc, true⟩ := nd rfl
@[simp] theorem tab96 : tab 96 = some ⟨.func, 1, 8, .nilfunc, true⟩ := nd rfl
@[simp] theorem tab97 : tab 97 = some ⟨.func, 1, 8, .nilfunc, true⟩ := nd rfl
@[simp] theorem tab98 : tab 98 = some ⟨.func, 1, 8, .nilfunc, true⟩ := nd rfl
@[simp] theorem tab99 : tab 99 = some ⟨.func, 1, 8, .nilfunc, true⟩ := nd rfl
@[simp] theorem tab100 : tab 100 = some ⟨.func, 1, 8, .nilfunc, true⟩ := nd rfl
@[simp] theorem tab101 : tab 101 = some ⟨.func, 1, 8, .nilfunc, true⟩ := nd rfl
@[simp] theorem tab102 : tab 102 = some ⟨.func, 1, 8, .nilfunc, true⟩ := nd rfl
@[simp] theorem tab103 : tab 103 = some ⟨.func, 1, 8, .nilfunc, true⟩ := nd rfl
@[simp] theorem tab104 : tab 104 = some ⟨.func, 1, 8, .nilfunc, true⟩ := nd rfl
@[simp] theorem tab105 : tab 105 = some ⟨.func, 1, 8, .nilfunc, true⟩ := nd rfl
@[simp] theorem tab106 : tab 106 = some ⟨.func, 1, 8, .nilfunc, true⟩ := nd rfl
@[simp] theorem tab107 : tab 107 = some ⟨.func, 1, 8, .nilfunc, true⟩ := nd rfl
@[simp] theorem tab108 : tab 108 = some ⟨.func, 1, 8, .nilfunc, true⟩ := nd rfl
@[simp] theorem tab109 : tab 109 = some ⟨.func, 1, 8, .nilfunc, true⟩ := nd rfl
@[simp] theorem tab110 : tab 110 = some ⟨.func, 1, 8, .nilfunc, true⟩ := nd rfl
@[simp] theorem tab111 : tab 111 = some ⟨.func, 1, 8, .nilfunc, true⟩ := nd rfl
@[simp] theorem tab112 : tab 112 = some ⟨.func, 1, 8, .nilfunc, true⟩ := nd rfl
@[simp] theorem tab113 : tab 113 = some ⟨.func, 1, 8, .nilfunc, true⟩ := nd rfl
@[simp] theorem tab114 : tab 114 = some ⟨.func, 1, 8, .nilfunc, true⟩ := nd rfl
@[simp] theorem tab115 : tab 115 = some ⟨.struct [(111, 0), (111, 1), (104, 2), (104, 3), (104, 4), (111, 5), (112, 6), (113, 7), (114, 8)], 9, 72, .agg [.nilfunc, .nilfunc, .nilfunc, .nilfunc, .nilfunc, .nilfunc, .nilfunc, .nilfunc, .nilfunc], true⟩ := nd rfl
@[simp] theorem tab116 : tab 116 = some ⟨.struct [(111, 0), (111, 1), (104, 2), (104, 3), (104, 4), (111, 5), (112, 6), (113, 7), (114, 8)], 9, 72, .agg [.nilfunc, .nilfunc, .nilfunc, .nilfunc, .nilfunc, .nilfunc, .nilfunc, .nilfunc, .nilfunc], true⟩ := nd rfl
@[simp] theorem tab117 : tab 117 = some ⟨.func, 1, 8, .nilfunc, true⟩ := nd rfl
@[simp] theorem tab118 : tab 118 = some ⟨.func, 1, 8, .nilfunc, true⟩ := nd rfl
@[simp] theorem tab120 : tab 120 = some ⟨.func, 1, 8, .nilfunc, true⟩ := nd rfl
@[simp] theorem tab121 : tab 121 = some ⟨.func, 1, 8, .nilfunc, true⟩ := nd rfl
@[simp] theorem tab122 : tab 122 = some ⟨.func, 1, 8, .nilfunc, true⟩ := nd rfl
@[simp] theorem tab123 : tab 123 = some ⟨.func, 1, 8, .nilfunc, true⟩ := nd rfl
@[simp] theorem tab124 : tab 124 = some ⟨.func, 1, 8, .nilfunc, true⟩ := nd rfl
@[simp] theorem tab125 : tab 125 = some ⟨.func, 1, 8, .nilfunc, true⟩ := nd rfl
@[simp] theorem tab126 : tab 126 = some ⟨.func, 1, 8, .nilfunc, true⟩ := nd rfl
@[simp] theorem tab127 : tab 127 = some ⟨.func, 1, 8, .nilfunc, true⟩ := nd rfl
@[simp] theorem tab129 : tab 129 = some ⟨.func, 1, 8, .nilfunc, true⟩ := nd rfl
@[simp] theorem tab130 : tab 130 = some ⟨.func, 1, 8, .nilfunc, true⟩ := nd rfl
@[simp] theorem tab131 : tab 131 = some ⟨.struct [(130, 0), (130, 1)], 2, 16, .agg [.nilfunc, .nilfunc], true⟩ := nd rfl
@[simp] theorem tab132 : tab 132 = some ⟨.struct [(130, 0), (130, 1)], 2, 16, .agg [.nilfunc, .nilfunc], true⟩ := nd rfl
@[simp] theorem tab133 : tab 133 = some ⟨.arr 3 132, 6, 48, .agg [.nilfunc, .nilfunc, .nilfunc, .nilfunc, .nilfunc, .nilfunc], true⟩ := nd rfl
@[simp] theorem tab134 : tab 134 = some ⟨.arr 3 133, 18, 144, .agg [.nilfunc, .nilfunc, .nilfunc, .nilfunc, .nilfunc, .nilfunc, .nilfunc, .nilfunc, .nilfunc, .nilfunc, .nilfunc, .nilfunc, .nilfunc, .nilfunc, .nilfunc, .nilfunc, .nilfunc, .nilfunc], true⟩ := nd rfl
@[simp] theorem tab135 : tab 135 = some ⟨.struct [(111, 0), (104, 1)], 2, 16, .agg [.nilfunc, .nilfunc], true⟩ := nd rfl
@[simp] theorem tab136 : tab 136 = some ⟨.struct [(111, 0), (104, 1)], 2, 16, .agg [.nilfunc, .nilfunc], true⟩ := nd rfl
@[simp] theorem tab137 : tab 137 = some ⟨.arr 11 136, 22, 176, .agg [.nilfunc, .nilfunc, .nilfunc, .nilfunc, .nilfunc, .nilfunc, .nilfunc, .nilfunc, .nilfunc, .nilfunc, .nilfunc, .nilfunc, .nilfunc, .nilfunc, .nilfunc, .nilfunc, .nilfunc, .nilfunc, .nilfunc, .nilfunc, .nilfunc, .nilfunc], true⟩ := nd rfl
@[simp] theorem tab138 : tab 138 = some ⟨.func, 1, 8, .nilfunc, true⟩ := nd rfl
@[simp] theorem tab139 : tab 139 = some ⟨.func, 1, 8, .nilfunc, true⟩ := nd rfl
@[simp] theorem tab141 : tab 141 = some ⟨.func, 1, 8, .nilfunc, true⟩ := nd rfl
@[simp] theorem tab142 : tab 142 = some ⟨.func, 1, 8, .nilfunc, true⟩ := nd rfl
@[simp] theorem tab143 : tab 143 = some ⟨.func, 1, 8, .nilfunc, true⟩ := nd rfl
@[simp] theorem tab144 : tab 144 = some ⟨.arr 2 132, 4, 32, .agg [.nilfunc, .nilfunc, .nilfunc, .nilfunc], true⟩ := nd rfl
@[simp] theorem tab145 : tab 145 = some ⟨.arr 3 144, 12, 96, .agg [.nilfunc, .nilfunc, .nilfunc, .nilfunc, .nilfunc, .nilfunc, .nilfunc, .nilfunc, .nilfunc, .nilfunc, .nilfunc, .nilfunc], true⟩ := nd rfl
@[simp] theorem tab146 : tab 146 = some ⟨.func, 1, 8, .nilfunc, true⟩ := nd rfl
@[simp] theorem tab147 : tab 147 = some ⟨.func, 1, 8, .nilfunc, true⟩ := nd rfl
@[simp] theorem tab148 : tab 148 = some ⟨.func, 1, 8, .nilfunc, true⟩ := nd rfl
@[simp] theorem tab149 : tab 149 = some ⟨.func, 1, 8, .nilfunc, true⟩ := nd rfl
@[simp] theorem tab150 : tab 150 = some ⟨.func, 1, 8, .nilfunc, true⟩ := nd rfl
@[simp] theorem tab151 : tab 151 = some ⟨.int .u64, 1, 8, .int .u64 0, true⟩ := nd rfl
@[simp] theorem tab152 : tab 152 = some ⟨.func, 1, 8, .nilfunc, true⟩ := nd rfl
@[simp] theorem tab153 : tab 153 = some ⟨.int .u64, 1, 8, .int .u64 0, true⟩ := nd rfl
@[simp] theorem tab154 : tab 154 = some ⟨.func, 1, 8, .nilfunc, true⟩ := nd rfl
@[simp] theorem tab155 : tab 155 = some ⟨.struct [(17, 0), (17, 1), (17, 2), (9, 3)], 4, 40, .agg [.nilptr, .nilptr, .nilptr, .str ⟨#[]⟩], false⟩ := nd rfl
@[simp] theorem tab156 : tab 156 = some ⟨.struct [(17, 0), (17, 1), (17, 2), (9, 3)], 4, 40, .agg [.nilptr, .nilptr, .nilptr, .str ⟨#[]⟩], false⟩ := nd rfl
@[simp] theorem tab157 : tab 157 = some ⟨.arr 0 16, 0, 0, .agg [], true⟩ := nd rfl
@[simp] theorem tab158 : tab 158 = some ⟨.struct [(157, 0)], 0, 0, .agg [], false⟩ := nd rfl
@[simp] theorem tab159 : tab 159 = some ⟨.struct [(157, 0)], 0, 0, .agg [], false⟩ := nd rfl
@[simp] theorem tab160 : tab 160 = some ⟨.func, 1, 8, .nilfunc, true⟩ := nd rfl
@[simp] theorem tab161 : tab 161 = some ⟨.int .u32, 1, 4, .int .u32 0, true⟩ := nd rfl
@[simp] theorem tab162 : tab 162 = some ⟨.int .u8, 1, 1, .int .u8 0, true⟩ := nd rfl
@[simp] theorem tab163 : tab 163 = some ⟨.int .u8, 1, 1, .int .u8 0, true⟩ := nd rfl
@[simp] theorem tab164 : tab 164 = some ⟨.func, 1, 8, .nilfunc, true⟩ := nd rfl
@[simp] theorem tab165 : tab 165 = some ⟨.ptr, 1, 8, .nilptr, true⟩ := nd rfl
@[simp] theorem tab166 : tab 166 = some ⟨.int .i32, 1, 4, .int .i32 0, true⟩ := nd rfl
@[simp] theorem tab167 : tab 167 = some ⟨.int .i32, 1, 4, .int .i32 0, true⟩ := nd rfl
@[simp] theorem tab168 : tab 168 = some ⟨.struct [(12, 0), (12, 1), (161, 2), (162, 3), (5, 4), (5, 5), (163, 6), (164, 7), (165, 8), (166, 9), (167, 10)], 11, 48, .agg [.int .u64 0, .int .u64 0, .int .u32 0, .int .u8 0, .int .u8 0, .int .u8 0, .int .u8 0, .nilfunc, .nilptr, .int .i32 0, .int .i32 0], false⟩ := nd rfl
@[simp] theorem tab169 : tab 169 = some ⟨.struct [(12, 0), (12, 1), (161, 2), (162, 3), (5, 4), (5, 5), (163, 6), (164, 7), (165, 8), (166, 9), (167, 10)], 11, 48, .agg [.int .u64 0, .int .u64 0, .int .u32 0, .int .u8 0, .int .u8 0, .int .u8 0, .int .u8 0, .nilfunc, .nilptr, .int .i32 0, .int .i32 0], false⟩ := nd rfl
end Go.Proofs.YtgabeieooemfeaaDoor.Arm

/- Interval arithmetic with outward rounding, on pairs of integers. -/
namespace Go.Pl

abbrev I := Int × Int
def numB (x : Int) : Bool := decide (-2147483648 < x) && decide (x < 2147483648)
def ent : I := (-2147483648, 2147483648)
def entB (a : I) : Bool := a.1 == -2147483648 && a.2 == 2147483648
def vB (a : I) : Bool := entB a || (numB a.1 && numB a.2 && decide (a.1 ≤ a.2))
def mk (lo hi : Int) : I := if numB lo && numB hi then (lo, hi) else ent
def pt (x : Int) : I := mk x x
/-- Quotients rounded down and up. -/
def fl (x b : Int) : Int := if b < 0 then (-x) / (-b) else x / b
def ce (x b : Int) : Int := - fl (-x) b
def min4 (a b c d : Int) : Int := min (min (min a b) c) d
def max4 (a b c d : Int) : Int := max (max (max a b) c) d
def add (a b : I) : I := if entB a || entB b then ent else mk (a.1 + b.1) (a.2 + b.2)
def neg (a : I) : I := (-a.2, -a.1)
def sub (a b : I) : I := add a (neg b)
def mul (a b : I) : I :=
  if entB a || entB b then ent
  else mk (fl (min4 (a.1 * b.1) (a.1 * b.2) (a.2 * b.1) (a.2 * b.2)) 65536) (ce (max4 (a.1 * b.1) (a.1 * b.2) (a.2 * b.1) (a.2 * b.2)) 65536)
def sq (a : I) : I :=
  if entB a then ent
  else mk (fl (if a.1 ≤ 0 ∧ 0 ≤ a.2 then 0 else min (a.1 * a.1) (a.2 * a.2)) 65536) (ce (max (a.1 * a.1) (a.2 * a.2)) 65536)
def div (a b : I) : I :=
  if entB a || entB b || (decide (b.1 ≤ 0) && decide (0 ≤ b.2)) then ent
  else mk (min4 (fl (a.1 * 65536) b.1) (fl (a.1 * 65536) b.2) (fl (a.2 * 65536) b.1) (fl (a.2 * 65536) b.2))
    (max4 (ce (a.1 * 65536) b.1) (ce (a.1 * 65536) b.2) (ce (a.2 * 65536) b.1) (ce (a.2 * 65536) b.2))
def subB (a b : I) : Bool := decide (b.1 ≤ a.1) && decide (a.2 ≤ b.2)
def conB (a : I) (x : Int) : Bool := entB a || (decide (a.1 ≤ x) && decide (x ≤ a.2))
def hull (a b : I) : I := (min a.1 b.1, max a.2 b.2)
def meet (a b : I) : I := (max a.1 b.1, min a.2 b.2)
def interB (a b : I) : Bool := decide (max a.1 b.1 ≤ min a.2 b.2)
def inter (a b : I) : I := if interB a b then meet a b else (0, 0)
def mid (a : I) : Int := (a.1 + a.2) / 2

/-! ### Integer roots -/
def rootUp (n : Nat) : Nat → Nat → Nat
  | 0, r => r
  | k + 1, r => if (r + 1) * (r + 1) ≤ n then rootUp n k (r + 1) else r
/-- The greatest r with r * r ≤ n. -/
def root (n : Int) : Int := (rootUp n.toNat n.toNat 0 : Nat)
def rootU (n : Int) : Int := if root n * root n < n then root n + 1 else root n
def sqrtB (a : I) : Bool := entB a || decide (0 ≤ a.2)
def sqrt (a : I) : I := if entB a then a else if a.2 < 0 then (0, 0) else mk (root (max a.1 0 * 65536)) (rootU (a.2 * 65536))

theorem rootUp_spec (n : Nat) : ∀ (k r : Nat), r * r ≤ n → n < (r + k + 1) * (r + k + 1) → rootUp n k r * rootUp n k r ≤ n ∧ n < (rootUp n k r + 1) * (rootUp n k r + 1)
  | 0, r, h1, h2 => ⟨h1, by simpa [rootUp] using h2⟩
  | k + 1, r, h1, h2 => by
    unfold rootUp
    split
    · rename_i h
      exact rootUp_spec n k (r + 1) h (by rw [show r + 1 + k + 1 = r + (k + 1) + 1 by omega]; exact h2)
    · rename_i h; exact ⟨h1, by omega⟩

theorem root_spec {n : Int} (h : 0 ≤ n) : 0 ≤ root n ∧ root n * root n ≤ n ∧ n < (root n + 1) * (root n + 1) := by
  obtain ⟨m, rfl⟩ := Int.eq_ofNat_of_zero_le h
  have h0 : m < (0 + m + 1) * (0 + m + 1) := by
    have : m + 1 ≤ (m + 1) * (m + 1) := Nat.le_mul_of_pos_left _ (by omega)
    rw [Nat.zero_add]; omega
  obtain ⟨h1, h2⟩ := rootUp_spec m m 0 (by omega) h0
  unfold root
  simp only [Int.toNat_natCast]
  refine ⟨by omega, by exact_mod_cast h1, by exact_mod_cast h2⟩

theorem root_unique {n r : Int} (h0 : 0 ≤ r) (h1 : r * r ≤ n) (h2 : n < (r + 1) * (r + 1)) : root n = r := by
  have hn : 0 ≤ n := Int.le_trans (Int.mul_nonneg h0 h0) h1
  obtain ⟨g0, g1, g2⟩ := root_spec hn
  generalize root n = s at *
  rcases Int.lt_trichotomy s r with h | h | h
  · have : (s + 1) * (s + 1) ≤ r * r := Int.mul_le_mul (by omega) (by omega) (by omega) h0
    omega
  · exact h
  · have : (r + 1) * (r + 1) ≤ s * s := Int.mul_le_mul (by omega) (by omega) (by omega) g0
    omega

/-! ### Facts of validity -/
theorem entB_iff {a : I} : entB a = true ↔ a = ent := by
  obtain ⟨x, y⟩ := a
  simp [entB, ent]
theorem entB_false {a : I} (h : vB a = true) (he : entB a = false) : -2147483648 < a.1 ∧ a.1 ≤ a.2 ∧ a.2 < 2147483648 := by
  simp only [vB, he, Bool.false_or, numB, Bool.and_eq_true, decide_eq_true_eq] at h
  omega
theorem vB_bounds {a : I} (h : vB a = true) : -2147483648 ≤ a.1 ∧ a.1 ≤ a.2 ∧ a.2 ≤ 2147483648 := by
  cases he : entB a with
  | false => have := entB_false h he; omega
  | true => rw [entB_iff.1 he]; decide
theorem numB_iff {x : Int} : numB x = true ↔ -2147483648 < x ∧ x < 2147483648 := by simp [numB]
theorem vB_pair {x y : Int} (h1 : -2147483648 < x) (h2 : x ≤ y) (h3 : y < 2147483648) : vB (x, y) = true := by
  simp only [vB, numB, Bool.or_eq_true, Bool.and_eq_true, decide_eq_true_eq]; right; omega
theorem mk_valid {lo hi : Int} (h : lo ≤ hi) : vB (mk lo hi) = true := by
  unfold mk
  split
  · rename_i h1
    simp only [numB, Bool.and_eq_true, decide_eq_true_eq] at h1
    exact vB_pair (by omega) h (by omega)
  · decide
theorem ent_valid : vB ent = true := by decide
theorem neg_valid {a : I} (h : vB a = true) : vB (neg a) = true := by
  cases he : entB a with
  | true => rw [entB_iff.1 he]; decide
  | false => have := entB_false h he; exact vB_pair (by omega) (by omega) (by omega)
theorem add_valid {a b : I} (ha : vB a = true) (hb : vB b = true) : vB (add a b) = true := by
  unfold add
  split
  · decide
  · have := vB_bounds ha; have := vB_bounds hb; exact mk_valid (by omega)
theorem sub_valid {a b : I} (ha : vB a = true) (hb : vB b = true) : vB (sub a b) = true := add_valid ha (neg_valid hb)
theorem fl_le_ce {x y b : Int} (hb : 0 < b) (h : x ≤ y) : fl x b ≤ ce y b := by
  unfold ce fl
  rw [if_neg (by omega), if_neg (by omega)]
  have h1 : x / b ≤ y / b := Int.ediv_le_ediv hb h
  have h2 := Int.ediv_mul_le y (b := b) (by omega)
  have h3 := Int.ediv_mul_le (-y) (b := b) (by omega)
  have h4 : (y / b + (-y) / b) * b ≤ 0 := by rw [Int.add_mul]; omega
  have : y / b + (-y) / b ≤ 0 := by
    rcases Int.lt_or_le 0 (y / b + (-y) / b) with hc | hc
    · have : 0 < (y / b + (-y) / b) * b := Int.mul_pos hc hb
      omega
    · exact hc
  omega
theorem mul_valid {a b : I} : vB (mul a b) = true := by
  unfold mul
  split
  · decide
  · exact mk_valid (fl_le_ce (by omega) (by simp only [min4, max4]; omega))
theorem sq_valid {a : I} (ha : vB a = true) : vB (sq a) = true := by
  unfold sq
  split
  · decide
  · refine mk_valid (fl_le_ce (by omega) ?_)
    have h1 : 0 ≤ a.1 * a.1 := by
      rcases Int.le_total 0 a.1 with h | h
      · exact Int.mul_nonneg h h
      · exact Int.mul_nonneg_of_nonpos_of_nonpos h h
    split <;> omega
theorem fl_ce {x b : Int} (hb : b ≠ 0) : fl x b ≤ ce x b := by
  rcases Int.lt_or_gt_of_ne hb with h | h
  · have := fl_le_ce (x := -x) (y := -x) (b := -b) (by omega) (Int.le_refl _)
    simp only [fl, ce] at this ⊢
    rw [if_neg (by omega), if_neg (by omega)] at this
    rw [if_pos h, if_pos h]
    exact this
  · exact fl_le_ce h (Int.le_refl _)
theorem div_valid {a b : I} (hb : vB b = true) : vB (div a b) = true := by
  unfold div
  split
  · decide
  · rename_i h
    simp only [Bool.or_eq_true, Bool.and_eq_true, decide_eq_true_eq] at h
    have := vB_bounds hb
    have h1 : b.1 ≠ 0 := by omega
    have := fl_ce (x := a.1 * 65536) h1
    exact mk_valid (by simp only [min4, max4]; omega)
theorem root_mono {m n : Int} (hm : 0 ≤ m) (h : m ≤ n) : root m ≤ root n := by
  obtain ⟨g0, g1, g2⟩ := root_spec hm
  obtain ⟨k0, k1, k2⟩ := root_spec (Int.le_trans hm h)
  rcases Int.lt_or_le (root n) (root m) with hc | hc
  · have : (root n + 1) * (root n + 1) ≤ root m * root m := Int.mul_le_mul (by omega) (by omega) (by omega) g0
    omega
  · exact hc
theorem root_le_rootU {n : Int} : root n ≤ rootU n := by unfold rootU; split <;> omega
theorem sqrt_valid {a : I} (ha : vB a = true) : vB (sqrt a) = true := by
  unfold sqrt
  split
  · exact ha
  · split
    · decide
    · have := vB_bounds ha
      exact mk_valid (Int.le_trans (root_mono (m := max a.1 0 * 65536) (n := a.2 * 65536) (by omega) (by omega)) root_le_rootU)

/-! ### Quotients -/
theorem ediv_of {a b q : Int} (hb : 0 < b) (h1 : b * q ≤ a) (h2 : a < b * q + b) : a / b = q := by
  have e : a = (a - b * q) + q * b := by rw [Int.mul_comm q b]; omega
  rw [e, Int.add_mul_ediv_right _ _ (by omega), Int.ediv_eq_zero_of_lt (by omega) (by omega), Int.zero_add]

theorem tmod_bounds (a : Int) {b : Int} (hb : 0 < b) : (0 ≤ a → 0 ≤ a.tmod b ∧ a.tmod b < b) ∧ (a < 0 → -b < a.tmod b ∧ a.tmod b ≤ 0) := by
  refine ⟨fun h => ⟨Int.tmod_nonneg _ h, Int.tmod_lt_of_pos _ hb⟩, fun h => ?_⟩
  have e : a.tmod b = -((-a).tmod b) := by rw [Int.neg_tmod, Int.neg_neg]
  have h1 := Int.tmod_nonneg b (a := -a) (by omega)
  have h2 := Int.tmod_lt_of_pos (-a) hb
  omega

/-- Go's quotient and remainder for a positive divisor: rounded down. -/
theorem tdiv_floor (a : Int) {b : Int} (hb : 0 < b) : a / b = if a.tmod b < 0 then a.tdiv b - 1 else a.tdiv b := by
  have h := Int.mul_tdiv_add_tmod a b
  obtain ⟨h1, h2⟩ := tmod_bounds a hb
  by_cases ha : 0 ≤ a
  · have := h1 ha
    rw [if_neg (by omega)]
    exact ediv_of hb (by omega) (by omega)
  · have := h2 (by omega)
    split
    · refine ediv_of hb ?_ ?_
      · rw [Int.mul_sub, Int.mul_one]; omega
      · rw [Int.mul_sub, Int.mul_one]; omega
    · exact ediv_of hb (by omega) (by omega)

theorem ceil_eq (a : Int) {b : Int} (hb : 0 < b) : -((-a) / b) = if a % b = 0 then a / b else a / b + 1 := by
  have h := Int.mul_ediv_add_emod a b
  have h1 := Int.emod_nonneg a (b := b) (by omega)
  have h2 := Int.emod_lt_of_pos a hb
  split
  · have : (-a) / b = -(a / b) := ediv_of hb (by rw [Int.mul_neg]; omega) (by rw [Int.mul_neg]; omega)
    omega
  · have : (-a) / b = -(a / b + 1) := ediv_of hb (by rw [Int.mul_neg, Int.mul_add, Int.mul_one]; omega) (by rw [Int.mul_neg, Int.mul_add, Int.mul_one]; omega)
    omega

/-- The selection of the end points of a product by the signs of the factors. -/
theorem mul_edges (a b : I) : (0 ≤ a.1 → b.1 ≤ b.2 → a.1 * b.1 ≤ a.1 * b.2) ∧ (a.1 ≤ 0 → b.1 ≤ b.2 → a.1 * b.2 ≤ a.1 * b.1) ∧ (0 ≤ a.2 → b.1 ≤ b.2 → a.2 * b.1 ≤ a.2 * b.2) ∧ (a.2 ≤ 0 → b.1 ≤ b.2 → a.2 * b.2 ≤ a.2 * b.1) ∧
    (0 ≤ b.1 → a.1 ≤ a.2 → a.1 * b.1 ≤ a.2 * b.1) ∧ (b.1 ≤ 0 → a.1 ≤ a.2 → a.2 * b.1 ≤ a.1 * b.1) ∧ (0 ≤ b.2 → a.1 ≤ a.2 → a.1 * b.2 ≤ a.2 * b.2) ∧ (b.2 ≤ 0 → a.1 ≤ a.2 → a.2 * b.2 ≤ a.1 * b.2) :=
  ⟨fun h k => Int.mul_le_mul_of_nonneg_left k h, fun h k => Int.mul_le_mul_of_nonpos_left h k, fun h k => Int.mul_le_mul_of_nonneg_left k h, fun h k => Int.mul_le_mul_of_nonpos_left h k,
   fun h k => Int.mul_le_mul_of_nonneg_right k h, fun h k => Int.mul_le_mul_of_nonpos_right k h, fun h k => Int.mul_le_mul_of_nonneg_right k h, fun h k => Int.mul_le_mul_of_nonpos_right k h⟩


theorem ite_min (a b : Int) : (if b < a then b else a) = min a b := by split <;> omega
theorem ite_max (a b : Int) : (if a < b then b else a) = max a b := by split <;> omega

theorem ediv_mono {x y b : Int} (hb : 0 < b) (h : x ≤ y) : x / b ≤ y / b := Int.ediv_le_ediv hb h
theorem ediv_anti {x b c : Int} (hx : 0 ≤ x) (hb : 0 < b) (h : b ≤ c) : x / c ≤ x / b := by
  have h0 : 0 ≤ x / c := Int.ediv_nonneg hx (by omega)
  have h1 : (x / c) * c ≤ x := Int.ediv_mul_le x (by omega)
  have h2 : (x / c) * b ≤ (x / c) * c := Int.mul_le_mul_of_nonneg_left h h0
  exact Int.le_ediv_of_mul_le hb (by omega)
theorem ediv_anti' {x b c : Int} (hx : x ≤ 0) (hb : 0 < b) (h : b ≤ c) : x / b ≤ x / c := by
  have h1 : (x / b) * b ≤ x := Int.ediv_mul_le x (by omega)
  have h0 : x / b ≤ 0 := by
    have := ediv_mono hb hx
    simpa using this
  have h2 : (x / b) * c ≤ (x / b) * b := Int.mul_le_mul_of_nonpos_left h0 h
  exact Int.le_ediv_of_mul_le (by omega) (by omega)

/-- How quotients turn with their parts, rounded down. -/
theorem fl_edges (x y b c : Int) : (0 < b → x ≤ y → fl x b ≤ fl y b) ∧ (b < 0 → x ≤ y → fl y b ≤ fl x b) ∧
    (0 ≤ x → 0 < b → b ≤ c → fl x c ≤ fl x b) ∧ (x ≤ 0 → 0 < b → b ≤ c → fl x b ≤ fl x c) ∧ (0 ≤ x → c < 0 → b ≤ c → fl x c ≤ fl x b) ∧ (x ≤ 0 → c < 0 → b ≤ c → fl x b ≤ fl x c) := by
  unfold fl
  refine ⟨fun hb h => ?_, fun hb h => ?_, fun hx hb h => ?_, fun hx hb h => ?_, fun hx hc h => ?_, fun hx hc h => ?_⟩
  · rw [if_neg (by omega), if_neg (by omega)]; exact ediv_mono hb h
  · rw [if_pos hb, if_pos hb]; exact ediv_mono (by omega) (by omega)
  · rw [if_neg (by omega), if_neg (by omega)]; exact ediv_anti hx hb h
  · rw [if_neg (by omega), if_neg (by omega)]; exact ediv_anti' hx hb h
  · rw [if_pos hc, if_pos (by omega)]; exact ediv_anti' (by omega) (by omega) (by omega)
  · rw [if_pos hc, if_pos (by omega)]; exact ediv_anti (by omega) (by omega) (by omega)
/-- The same, rounded up. -/
theorem ce_edges (x y b c : Int) : (0 < b → x ≤ y → ce x b ≤ ce y b) ∧ (b < 0 → x ≤ y → ce y b ≤ ce x b) ∧
    (0 ≤ x → 0 < b → b ≤ c → ce x c ≤ ce x b) ∧ (x ≤ 0 → 0 < b → b ≤ c → ce x b ≤ ce x c) ∧ (0 ≤ x → c < 0 → b ≤ c → ce x c ≤ ce x b) ∧ (x ≤ 0 → c < 0 → b ≤ c → ce x b ≤ ce x c) := by
  obtain ⟨h1, h2, h3, h4, h5, h6⟩ := fl_edges (-x) (-y) b c
  obtain ⟨k1, k2, _⟩ := fl_edges (-y) (-x) b c
  unfold ce
  exact ⟨fun hb h => by have := k1 hb (by omega); omega, fun hb h => by have := k2 hb (by omega); omega, fun hx hb h => by have := h4 (by omega) hb h; omega, fun hx hb h => by have := h3 (by omega) hb h; omega,
    fun hx hc h => by have := h6 (by omega) hc h; omega, fun hx hc h => by have := h5 (by omega) hc h; omega⟩

theorem div_eq {p q : I} (h1 : entB p = false) (h2 : entB q = false) (h3 : q.2 < 0 ∨ 0 < q.1) {a b : Int} (ha : min4 (fl (p.1 * 65536) q.1) (fl (p.1 * 65536) q.2) (fl (p.2 * 65536) q.1) (fl (p.2 * 65536) q.2) = a) (hb : max4 (ce (p.1 * 65536) q.1) (ce (p.1 * 65536) q.2) (ce (p.2 * 65536) q.1) (ce (p.2 * 65536) q.2) = b) (hq : q.1 ≤ q.2) : div p q = mk a b := by
  subst ha hb
  have h4 : (decide (q.1 ≤ 0) && decide (0 ≤ q.2)) = false := by simp; omega
  simp [div, h1, h2, h4]
/-- The selection of the end points of a quotient. -/
theorem div_sel0n {p q : I} (h1 : entB p = false) (h2 : entB q = false) (hp : p.1 ≤ p.2) (hq : q.1 ≤ q.2) (hs : p.2 ≤ 0) (ht : q.2 < 0) : div p q = mk (fl (p.2 * 65536) q.1) (ce (p.1 * 65536) q.2) := by
  have a0 := (fl_edges (p.1 * 65536) (p.2 * 65536) q.1 q.1).2.1 (by omega) (by omega)
  have a1 := (fl_edges (p.1 * 65536) (p.2 * 65536) q.2 q.2).2.1 (by omega) (by omega)
  have a2 := (fl_edges (p.1 * 65536) (p.1 * 65536) q.1 q.2).2.2.2.2.2 (by omega) (by omega) hq
  have a3 := (fl_edges (p.2 * 65536) (p.2 * 65536) q.1 q.2).2.2.2.2.2 (by omega) (by omega) hq
  have a4 := (ce_edges (p.1 * 65536) (p.2 * 65536) q.1 q.1).2.1 (by omega) (by omega)
  have a5 := (ce_edges (p.1 * 65536) (p.2 * 65536) q.2 q.2).2.1 (by omega) (by omega)
  have a6 := (ce_edges (p.1 * 65536) (p.1 * 65536) q.1 q.2).2.2.2.2.2 (by omega) (by omega) hq
  have a7 := (ce_edges (p.2 * 65536) (p.2 * 65536) q.1 q.2).2.2.2.2.2 (by omega) (by omega) hq
  refine div_eq h1 h2 (by omega) ?_ ?_ hq
  · simp only [min4]; omega
  · simp only [max4]; omega
/-- The selection of the end points of a quotient. -/
theorem div_sel0p {p q : I} (h1 : entB p = false) (h2 : entB q = false) (hp : p.1 ≤ p.2) (hq : q.1 ≤ q.2) (hs : p.2 ≤ 0) (ht : 0 < q.1) : div p q = mk (fl (p.1 * 65536) q.1) (ce (p.2 * 65536) q.2) := by
  have a0 := (fl_edges (p.1 * 65536) (p.2 * 65536) q.1 q.1).1 (by omega) (by omega)
  have a1 := (fl_edges (p.1 * 65536) (p.2 * 65536) q.2 q.2).1 (by omega) (by omega)
  have a2 := (fl_edges (p.1 * 65536) (p.1 * 65536) q.1 q.2).2.2.2.1 (by omega) (by omega) hq
  have a3 := (fl_edges (p.2 * 65536) (p.2 * 65536) q.1 q.2).2.2.2.1 (by omega) (by omega) hq
  have a4 := (ce_edges (p.1 * 65536) (p.2 * 65536) q.1 q.1).1 (by omega) (by omega)
  have a5 := (ce_edges (p.1 * 65536) (p.2 * 65536) q.2 q.2).1 (by omega) (by omega)
  have a6 := (ce_edges (p.1 * 65536) (p.1 * 65536) q.1 q.2).2.2.2.1 (by omega) (by omega) hq
  have a7 := (ce_edges (p.2 * 65536) (p.2 * 65536) q.1 q.2).2.2.2.1 (by omega) (by omega) hq
  refine div_eq h1 h2 (by omega) ?_ ?_ hq
  · simp only [min4]; omega
  · simp only [max4]; omega
/-- The selection of the end points of a quotient. -/
theorem div_sel1n {p q : I} (h1 : entB p = false) (h2 : entB q = false) (hp : p.1 ≤ p.2) (hq : q.1 ≤ q.2) (hs : p.1 < 0 ∧ 0 < p.2) (ht : q.2 < 0) : div p q = mk (fl (p.2 * 65536) q.2) (ce (p.1 * 65536) q.2) := by
  have a0 := (fl_edges (p.1 * 65536) (p.2 * 65536) q.1 q.1).2.1 (by omega) (by omega)
  have a1 := (fl_edges (p.1 * 65536) (p.2 * 65536) q.2 q.2).2.1 (by omega) (by omega)
  have a2 := (fl_edges (p.1 * 65536) (p.1 * 65536) q.1 q.2).2.2.2.2.2 (by omega) (by omega) hq
  have a3 := (fl_edges (p.2 * 65536) (p.2 * 65536) q.1 q.2).2.2.2.2.1 (by omega) (by omega) hq
  have a4 := (ce_edges (p.1 * 65536) (p.2 * 65536) q.1 q.1).2.1 (by omega) (by omega)
  have a5 := (ce_edges (p.1 * 65536) (p.2 * 65536) q.2 q.2).2.1 (by omega) (by omega)
  have a6 := (ce_edges (p.1 * 65536) (p.1 * 65536) q.1 q.2).2.2.2.2.2 (by omega) (by omega) hq
  have a7 := (ce_edges (p.2 * 65536) (p.2 * 65536) q.1 q.2).2.2.2.2.1 (by omega) (by omega) hq
  refine div_eq h1 h2 (by omega) ?_ ?_ hq
  · simp only [min4]; omega
  · simp only [max4]; omega
/-- The selection of the end points of a quotient. -/
theorem div_sel1p {p q : I} (h1 : entB p = false) (h2 : entB q = false) (hp : p.1 ≤ p.2) (hq : q.1 ≤ q.2) (hs : p.1 < 0 ∧ 0 < p.2) (ht : 0 < q.1) : div p q = mk (fl (p.1 * 65536) q.1) (ce (p.2 * 65536) q.1) := by
  have a0 := (fl_edges (p.1 * 65536) (p.2 * 65536) q.1 q.1).1 (by omega) (by omega)
  have a1 := (fl_edges (p.1 * 65536) (p.2 * 65536) q.2 q.2).1 (by omega) (by omega)
  have a2 := (fl_edges (p.1 * 65536) (p.1 * 65536) q.1 q.2).2.2.2.1 (by omega) (by omega) hq
  have a3 := (fl_edges (p.2 * 65536) (p.2 * 65536) q.1 q.2).2.2.1 (by omega) (by omega) hq
  have a4 := (ce_edges (p.1 * 65536) (p.2 * 65536) q.1 q.1).1 (by omega) (by omega)
  have a5 := (ce_edges (p.1 * 65536) (p.2 * 65536) q.2 q.2).1 (by omega) (by omega)
  have a6 := (ce_edges (p.1 * 65536) (p.1 * 65536) q.1 q.2).2.2.2.1 (by omega) (by omega) hq
  have a7 := (ce_edges (p.2 * 65536) (p.2 * 65536) q.1 q.2).2.2.1 (by omega) (by omega) hq
  refine div_eq h1 h2 (by omega) ?_ ?_ hq
  · simp only [min4]; omega
  · simp only [max4]; omega
/-- The selection of the end points of a quotient. -/
theorem div_sel2n {p q : I} (h1 : entB p = false) (h2 : entB q = false) (hp : p.1 ≤ p.2) (hq : q.1 ≤ q.2) (hs : 0 ≤ p.1) (ht : q.2 < 0) : div p q = mk (fl (p.2 * 65536) q.2) (ce (p.1 * 65536) q.1) := by
  have a0 := (fl_edges (p.1 * 65536) (p.2 * 65536) q.1 q.1).2.1 (by omega) (by omega)
  have a1 := (fl_edges (p.1 * 65536) (p.2 * 65536) q.2 q.2).2.1 (by omega) (by omega)
  have a2 := (fl_edges (p.1 * 65536) (p.1 * 65536) q.1 q.2).2.2.2.2.1 (by omega) (by omega) hq
  have a3 := (fl_edges (p.2 * 65536) (p.2 * 65536) q.1 q.2).2.2.2.2.1 (by omega) (by omega) hq
  have a4 := (ce_edges (p.1 * 65536) (p.2 * 65536) q.1 q.1).2.1 (by omega) (by omega)
  have a5 := (ce_edges (p.1 * 65536) (p.2 * 65536) q.2 q.2).2.1 (by omega) (by omega)
  have a6 := (ce_edges (p.1 * 65536) (p.1 * 65536) q.1 q.2).2.2.2.2.1 (by omega) (by omega) hq
  have a7 := (ce_edges (p.2 * 65536) (p.2 * 65536) q.1 q.2).2.2.2.2.1 (by omega) (by omega) hq
  refine div_eq h1 h2 (by omega) ?_ ?_ hq
  · simp only [min4]; omega
  · simp only [max4]; omega
/-- The selection of the end points of a quotient. -/
theorem div_sel2p {p q : I} (h1 : entB p = false) (h2 : entB q = false) (hp : p.1 ≤ p.2) (hq : q.1 ≤ q.2) (hs : 0 ≤ p.1) (ht : 0 < q.1) : div p q = mk (fl (p.1 * 65536) q.2) (ce (p.2 * 65536) q.1) := by
  have a0 := (fl_edges (p.1 * 65536) (p.2 * 65536) q.1 q.1).1 (by omega) (by omega)
  have a1 := (fl_edges (p.1 * 65536) (p.2 * 65536) q.2 q.2).1 (by omega) (by omega)
  have a2 := (fl_edges (p.1 * 65536) (p.1 * 65536) q.1 q.2).2.2.1 (by omega) (by omega) hq
  have a3 := (fl_edges (p.2 * 65536) (p.2 * 65536) q.1 q.2).2.2.1 (by omega) (by omega) hq
  have a4 := (ce_edges (p.1 * 65536) (p.2 * 65536) q.1 q.1).1 (by omega) (by omega)
  have a5 := (ce_edges (p.1 * 65536) (p.2 * 65536) q.2 q.2).1 (by omega) (by omega)
  have a6 := (ce_edges (p.1 * 65536) (p.1 * 65536) q.1 q.2).2.2.1 (by omega) (by omega) hq
  have a7 := (ce_edges (p.2 * 65536) (p.2 * 65536) q.1 q.2).2.2.1 (by omega) (by omega) hq
  refine div_eq h1 h2 (by omega) ?_ ?_ hq
  · simp only [min4]; omega
  · simp only [max4]; omega

/-! ### Lengths in bits -/
def len8 (n : Nat) : Nat := if n < 1 then 0 else if n < 2 then 1 else if n < 4 then 2 else if n < 8 then 3 else if n < 16 then 4 else if n < 32 then 5 else if n < 64 then 6 else if n < 128 then 7 else 8
theorem len8_spec (n : Nat) (h : n < 256) : n < 2 ^ len8 n ∧ len8 n ≤ 8 := by
  unfold len8
  repeat' split
  all_goals simp; try omega
/-- The length in bits, as package bits reckons it. -/
def blen (x : Int) : Int :=
  let a := if 4294967296 ≤ x then (x / 4294967296, (32 : Int)) else (x, 0)
  let b := if 65536 ≤ a.1 then (a.1 / 65536, a.2 + 16) else a
  let c := if 256 ≤ b.1 then (b.1 / 256, b.2 + 8) else b
  c.2 + len8 c.1.toNat
theorem blen_spec {x : Int} (h : 0 ≤ x ∧ x < 281474976710656) : 0 ≤ blen x ∧ blen x ≤ 48 ∧ x < 2 ^ (blen x).toNat := by
  have key : ∀ (z : Int) (n m : Nat), 0 ≤ z → z < 256 → m ≤ 40 → x < (z + 1) * 2 ^ m → (n = m) → 0 ≤ (n : Int) + len8 z.toNat ∧ (n : Int) + len8 z.toNat ≤ 48 ∧ x < 2 ^ ((n : Int) + len8 z.toNat).toNat := by
    rintro z n m h0 h1 h2 h3 rfl
    obtain ⟨k, rfl⟩ := Int.eq_ofNat_of_zero_le h0
    obtain ⟨g1, g2⟩ := len8_spec k (by omega)
    simp only [Int.toNat_natCast]
    refine ⟨by omega, by omega, ?_⟩
    rw [show ((n : Int) + (len8 k : Int)).toNat = len8 k + n by omega, Int.pow_add]
    have e : ((k : Int) + 1) ≤ 2 ^ len8 k := by exact_mod_cast g1
    exact Int.lt_of_lt_of_le h3 (Int.mul_le_mul_of_nonneg_right e (by exact_mod_cast Nat.zero_le _))
  unfold blen
  by_cases h1 : 4294967296 ≤ x
  · simp only [h1, if_true]
    have h2 : ¬ 65536 ≤ x / 4294967296 := by omega
    simp only [h2, if_false]
    by_cases h3 : 256 ≤ x / 4294967296
    · simp only [h3, if_true]
      exact key (x / 4294967296 / 256) 40 40 (by omega) (by omega) (by omega) (by omega) rfl
    · simp only [h3, if_false]
      exact key (x / 4294967296) 32 32 (by omega) (by omega) (by omega) (by omega) rfl
  · simp only [h1, if_false]
    by_cases h2 : 65536 ≤ x
    · simp only [h2, if_true]
      by_cases h3 : 256 ≤ x / 65536
      · simp only [h3, if_true]
        exact key (x / 65536 / 256) 24 24 (by omega) (by omega) (by omega) (by omega) rfl
      · simp only [h3, if_false]
        exact key (x / 65536) 16 16 (by omega) (by omega) (by omega) (by omega) rfl
    · simp only [h2, if_false]
      by_cases h3 : 256 ≤ x
      · simp only [h3, if_true]
        exact key (x / 256) 8 8 (by omega) (by omega) (by omega) (by omega) rfl
      · simp only [h3, if_false]
        exact key x 0 0 (by omega) (by omega) (by omega) (by omega) rfl

/-! ### Newton's iteration -/
theorem newton_step {n x : Int} (hx : 0 < x) (h : root n ≤ x) (hn : 0 ≤ n) : root n ≤ (x + n / x) / 2 ∧ (x ≤ (x + n / x) / 2 → x = root n) ∧ 0 ≤ n / x := by
  obtain ⟨r0, r1, r2⟩ := root_spec hn
  generalize root n = r at *
  have h0 : 0 ≤ n / x := Int.ediv_nonneg hn (by omega)
  have h1 : 2 * r - x ≤ n / x := by
    refine Int.le_ediv_of_mul_le hx ?_
    have : (2 * r - x) * x = r * r - (x - r) * (x - r) := by
      rw [Int.sub_mul, Int.sub_mul, Int.mul_sub, Int.mul_sub, Int.mul_assoc, Int.mul_comm x r]; omega
    have h2 : 0 ≤ (x - r) * (x - r) := Int.mul_nonneg (by omega) (by omega)
    omega
  refine ⟨by omega, fun hy => ?_, h0⟩
  rcases Int.lt_or_le r x with hlt | hle
  · have h2 : n < x * x := Int.lt_of_lt_of_le r2 (Int.mul_le_mul (by omega) (by omega) (by omega) (by omega))
    have h3 : n / x < x := Int.ediv_lt_of_lt_mul hx h2
    omega
  · omega

end Go.Pl

namespace Go.Proofs.YtgabeieooemfeaaDoor.Arm
open Go.Arm Go.Pl

abbrev fnA (n : Nat) : AV := .func (.func n) [] []
def prodT : List AV := [fnA 117, fnA 118, fnA 119, fnA 118, fnA 119, fnA 120, fnA 120, fnA 118, .nilfunc, .nilfunc, fnA 119, fnA 117, fnA 120, fnA 119, fnA 120, fnA 117, fnA 118, fnA 117]
def quotT : List AV := [fnA 120, fnA 119, fnA 118, fnA 117, fnA 117, fnA 119, fnA 118, fnA 120, fnA 117, fnA 118, fnA 119, fnA 120]
def tapT : List AV := [.nilfunc, .nilfunc, .nilfunc, .nilfunc, .nilfunc, .nilfunc, .nilfunc, .nilfunc, fnA 74, .nilfunc, fnA 76, .nilfunc, fnA 121, .nilfunc, .nilfunc, fnA 68, .nilfunc, fnA 75, .nilfunc, fnA 67, .nilfunc, fnA 86]
def glob : Nat → Option (List AV)
  | 0 => some prodT
  | 2 => some quotT
  | 1 => some tapT
  | _ => none
noncomputable def E : Env := ⟨Tryd.prog, tab, glob⟩
@[simp] theorem E_T : E.T = tab := rfl
@[simp] theorem E_G0 : E.Γ 0 = some prodT := rfl
@[simp] theorem E_G1 : E.Γ 2 = some quotT := rfl
@[simp] theorem E_G2 : E.Γ 1 = some tapT := rfl
theorem tabOk : TabOk E.P E.T := by
  show TabOk Tryd.prog tab
  exact tab_ok
theorem mixed : E.P.follows .mixedOrders = true := by kernel_rfl

def iv (p : I) : AV := .agg [.int .i64 p.1, .int .i64 p.2]
@[simp] theorem iv_eq (p : I) : iv p = .agg [.int .i64 p.1, .int .i64 p.2] := rfl

/-! ### package fixed -/
theorem fDivide1 (r : Int) (H : AH) : Sound E 98 [.int .i64 r] H (.ret (.int .i64 (min r 1))) H := by
  refine sound_of_awp tabOk mixed Tryd.func98 rfl (by rfl) Tryd.ntmps98 (by kernel_rfl) (by simp) ?_
  simp
  exact fin0 (rs := [.tmp 2]) (by rfl) (by simp [resA]; omega)
theorem fFloorCeil (a b : Int) (ha : -4611686018427387904 ≤ a ∧ a ≤ 4611686018427387904) (hb : 0 < b ∧ b ≤ 4611686018427387904) (H : AH) :
    Sound E 97 [.int .i64 a, .int .i64 b, fnA 98] H (.ret (.tuple [.int .i64 (fl a b), .int .i64 (ce a b)])) H := by
  refine sound_of_awp tabOk mixed Tryd.func97 rfl (by rfl) Tryd.ntmps97 (by kernel_rfl) (by simp) ?_
  have h1 := tdiv_floor a hb.1
  have h2 := ceil_eq a hb.1
  have h3 := Int.mul_ediv_add_emod a b
  have h4 := Int.mul_tdiv_add_tmod a b
  obtain ⟨h5, h6⟩ := tmod_bounds a hb.1
  have h7 := Int.emod_nonneg a (b := b) (by omega)
  have h8 := Int.emod_lt_of_pos a hb.1
  have e1 : fl a b = a / b := by unfold fl; rw [if_neg (by omega)]
  have e2 : ce a b = if a % b = 0 then a / b else a / b + 1 := by unfold ce fl; rw [if_neg (by omega), h2]
  have hq : -4611686018427387904 ≤ a.tdiv b ∧ a.tdiv b ≤ 4611686018427387904 := by
    have := Int.natAbs_tdiv_le_natAbs a b
    omega
  have hw : IntKind.i64.wrap (a.tdiv b) = a.tdiv b := wrap64 (by omega) (by omega)
  simp
  refine bind_ifn (by omega) ?_
  simp
  refine bind_ifn (by omega) ?_
  simp [hw]
  refine endD [] (by rfl) (by simp [okW, note, Eff.triv, Eff.wr, Eff.none, upTo, newAt]) ?_
  simp
  refine branch (fun hr => ?_) (fun hr => ?_)
  · have hr' : a.tmod b < 0 := by simpa using hr
    have w1 : IntKind.i64.wrap (a.tdiv b - 1) = a.tdiv b - 1 := wrap64 (by omega) (by omega)
    have w2 : IntKind.i64.wrap (a.tmod b + b) = a.tmod b + b := wrap64 (by omega) (by omega)
    rw [if_pos hr'] at h1
    have hem : a % b = a.tmod b + b := by
      have : b * (a / b) = b * a.tdiv b - b := by rw [h1, Int.mul_sub, Int.mul_one]
      omega
    simp [w1, w2]
    refine call_ret (fDivide1 _ _) ?_
    have w3 : IntKind.i64.wrap (a.tdiv b - 1 + min (a.tmod b + b) 1) = a.tdiv b - 1 + min (a.tmod b + b) 1 := wrap64 (by omega) (by omega)
    simp [w3]
    exact finK (rs := [.tmp 6, .tmp 7]) (vs := [.int .i64 (fl a b), .int .i64 (ce a b)]) (by rfl) (by
      rw [e1, e2]
      simp [resA]
      constructor
      · omega
      · split <;> omega) rfl
  · have hr' : ¬ a.tmod b < 0 := by simpa using hr
    rw [if_neg hr'] at h1
    have hem : a % b = a.tmod b := by
      rw [h1] at h3; omega
    simp
    refine call_ret (fDivide1 _ _) ?_
    have w3 : IntKind.i64.wrap (a.tdiv b + min (a.tmod b) 1) = a.tdiv b + min (a.tmod b) 1 := wrap64 (by omega) (by omega)
    simp [w3]
    exact finK (rs := [.tmp 6, .tmp 7]) (vs := [.int .i64 (fl a b), .int .i64 (ce a b)]) (by rfl) (by
      rw [e1, e2]
      simp [resA]
      constructor
      · omega
      · split <;> omega) rfl
theorem fDivide (a b : Int) (ha : -4611686018427387904 ≤ a ∧ a ≤ 4611686018427387904) (hb : b ≠ 0 ∧ -4611686018427387904 ≤ b ∧ b ≤ 4611686018427387904) (H : AH) :
    Sound E 92 [.int .i64 a, .int .i64 b] H (.ret (.tuple [.int .i64 (fl a b), .int .i64 (ce a b)])) H := by
  refine sound_of_awp tabOk mixed Tryd.func92 rfl (by rfl) Tryd.ntmps92 (by kernel_rfl) (by simp) ?_
  simp
  refine branch (fun hr => ?_) (fun hr => ?_)
  · have hr' : b < 0 := by simpa using hr
    have w1 : IntKind.i64.wrap (-a) = -a := wrap64 (by omega) (by omega)
    have w2 : IntKind.i64.wrap (-b) = -b := wrap64 (by omega) (by omega)
    simp [w1, w2]
    refine call_ret (fFloorCeil (-a) (-b) (by omega) (by omega) _) ?_
    simp
    exact finK (rs := [.tmp 4, .tmp 5]) (vs := [.int .i64 (fl a b), .int .i64 (ce a b)]) (by rfl) (by
      have h1 : fl (-a) (-b) = fl a b := by unfold fl; rw [if_neg (by omega), if_pos hr']
      have h2 : ce (-a) (-b) = ce a b := by unfold ce fl; rw [if_neg (by omega), if_pos hr']
      simp [resA, h1, h2]) rfl
  · have hr' : ¬ b < 0 := by simpa using hr
    simp
    refine call_ret (fFloorCeil a b (by omega) (by omega) _) ?_
    simp
    exact finK (rs := [.tmp 4, .tmp 5]) (vs := [.int .i64 (fl a b), .int .i64 (ce a b)]) (by rfl) (by simp [resA]) rfl
theorem fMul (a b : Int) (h : -4611686018427387904 ≤ a * b ∧ a * b ≤ 4611686018427387904) (H : AH) :
    Sound E 84 [.int .i64 a, .int .i64 b] H (.ret (.tuple [.int .i64 (fl (a * b) 65536), .int .i64 (ce (a * b) 65536)])) H := by
  refine sound_of_awp tabOk mixed Tryd.func84 rfl (by rfl) Tryd.ntmps84 (by kernel_rfl) (by simp) ?_
  have w1 : IntKind.i64.wrap (a * b) = a * b := wrap64 (by omega) (by omega)
  simp [w1]
  refine call_ret (fDivide (a * b) 65536 h (by omega) _) ?_
  simp
  exact finK (rs := [.tmp 4, .tmp 5]) (vs := [.int .i64 (fl (a * b) 65536), .int .i64 (ce (a * b) 65536)]) (by rfl) (by simp [resA]) rfl
end Go.Proofs.YtgabeieooemfeaaDoor.Arm

namespace Go.Proofs.YtgabeieooemfeaaDoor.Arm
open Go.Arm Go.Pl

@[simp] theorem bin_iv (H : AH) (a b c d : Int) (z : Bool) : binOpA tab H .eql 40 (.agg [.int .i64 a, .int .i64 b]) (.agg [.int .i64 c, .int .i64 d]) z = some (.bool (a == c && b == d), H) := by
  simp [binOpA, binA, eqA, eqFs, nilI]
  by_cases h : a = c <;> by_cases h2 : b = d <;> simp [h, h2]
@[simp] theorem bin_iv_ne (H : AH) (a b c d : Int) (z : Bool) : binOpA tab H .neq 40 (.agg [.int .i64 a, .int .i64 b]) (.agg [.int .i64 c, .int .i64 d]) z = some (.bool (!(a == c && b == d)), H) := by
  simp [binOpA, binA, eqA, eqFs, nilI]
  by_cases h : a = c <;> by_cases h2 : b = d <;> simp [h, h2]

theorem iEntire (H : AH) : Sound E 69 [] H (.ret (iv ent)) H := by
  refine sound_of_awp tabOk mixed Tryd.func69 rfl (by rfl) Tryd.ntmps69 (by kernel_rfl) (by simp) ?_
  simp
  exact fin1 (rs := [.cell 0 40]) (by rfl) (by simp [resA, ent]) (by simp [noF, noFs])
theorem iIsEntire (p : I) (H : AH) : Sound E 46 [iv p] H (.ret (.bool (entB p))) H := by
  refine sound_of_awp tabOk mixed Tryd.func46 rfl (by rfl) Tryd.ntmps46 (by kernel_rfl) (by simp) ?_
  simp
  refine callD_ret (fun Hx => iEntire Hx) ?_
  simp
  refine endD [] (by rfl) (by simp [okW, note, Eff.triv, Eff.wr, Eff.none, upTo, newAt]) ?_
  simp [ent]
  exact fin1 (rs := [.tmp 2]) (by rfl) (by simp [resA, entB]) (by simp [noF])
theorem iNew (a b : Int) (H : AH) : Sound E 60 [.int .i64 a, .int .i64 b] H (.ret (iv (mk a b))) H := by
  refine sound_of_awp tabOk mixed Tryd.func60 rfl (by rfl) Tryd.ntmps60 (by kernel_rfl) (by simp) ?_
  have hN : ∀ x, numB x = (decide (-2147483648 < x) && decide (x < 2147483648)) := fun x => rfl
  have key : mk a b = if (decide (a ≤ -2147483648) || decide (2147483648 ≤ b) || decide (2147483648 ≤ a) || decide (b ≤ -2147483648)) = true then ent else (a, b) := by
    unfold mk
    simp only [hN, Bool.and_eq_true, decide_eq_true_eq, Bool.or_eq_true]
    by_cases h : (((a ≤ -2147483648 ∨ 2147483648 ≤ b) ∨ 2147483648 ≤ a) ∨ b ≤ -2147483648)
    · rw [if_pos h, if_neg (by omega)]
    · rw [if_neg h, if_pos (by omega)]
  by_cases h1 : a ≤ -2147483648
  · simp [h1]
    refine call_ret (iEntire _) ?_
    simp
    exact fin1 (rs := [.cell 4 40]) (by rfl) (by rw [key, if_pos (by simp; omega)]; simp [resA]) (by simp [noF, noFs])
  by_cases h2 : 2147483648 ≤ b
  · simp [h1, h2]
    refine call_ret (iEntire _) ?_
    simp
    exact fin1 (rs := [.cell 4 40]) (by rfl) (by rw [key, if_pos (by simp; omega)]; simp [resA]) (by simp [noF, noFs])
  by_cases h3 : 2147483648 ≤ a
  · simp [h1, h2, h3]
    refine call_ret (iEntire _) ?_
    simp
    exact fin1 (rs := [.cell 4 40]) (by rfl) (by rw [key, if_pos (by simp; omega)]; simp [resA]) (by simp [noF, noFs])
  by_cases h4 : b ≤ -2147483648
  · simp [h1, h2, h3, h4]
    refine call_ret (iEntire _) ?_
    simp
    exact fin1 (rs := [.cell 4 40]) (by rfl) (by rw [key, if_pos (by simp; omega)]; simp [resA]) (by simp [noF, noFs])
  simp [h1, h2, h3, h4]
  exact fin1 (rs := [.cell 4 40]) (by rfl) (by rw [key, if_neg (by simp; omega)]; simp [resA]) (by simp [noF, noFs])
theorem iPoint (x : Int) (H : AH) : Sound E 42 [.int .i64 x] H (.ret (iv (pt x))) H := by
  refine sound_of_awp tabOk mixed Tryd.func42 rfl (by rfl) Tryd.ntmps42 (by kernel_rfl) (by simp) ?_
  simp
  refine call_ret (iNew _ _ _) ?_
  simp
  exact fin1 (rs := [.cell 2 40]) (by rfl) (by simp [resA, pt]) (by simp [noF, noFs])
theorem iNeg (p : I) (h : vB p = true) (H : AH) : Sound E 74 [iv p] H (.ret (iv (neg p))) H := by
  refine sound_of_awp tabOk mixed Tryd.func74 rfl (by rfl) Tryd.ntmps74 (by kernel_rfl) (by simp) ?_
  have hb := vB_bounds h
  have w1 : IntKind.i64.wrap (-p.1) = -p.1 := wrap64 (by omega) (by omega)
  have w2 : IntKind.i64.wrap (-p.2) = -p.2 := wrap64 (by omega) (by omega)
  simp [w1, w2]
  exact fin1 (rs := [.cell 2 40]) (by rfl) (by simp [resA, neg]) (by simp [noF, noFs])
theorem iAdd (p q : I) (hp : vB p = true) (hq : vB q = true) (H : AH) : Sound E 68 [iv p, iv q] H (.ret (iv (add p q))) H := by
  refine sound_of_awp tabOk mixed Tryd.func68 rfl (by rfl) Tryd.ntmps68 (by kernel_rfl) (by simp) ?_
  have hb := vB_bounds hp
  have hc := vB_bounds hq
  have w1 : IntKind.i64.wrap (p.1 + q.1) = p.1 + q.1 := wrap64 (by omega) (by omega)
  have w2 : IntKind.i64.wrap (p.2 + q.2) = p.2 + q.2 := wrap64 (by omega) (by omega)
  simp
  refine call_ret (iIsEntire p _) ?_
  cases h1 : entB p with
  | true =>
    simp
    refine call_ret (iEntire _) ?_
    simp
    exact fin1 (rs := [.cell 4 40]) (by rfl) (by simp [resA, add, h1]) (by simp [noF, noFs])
  | false =>
    simp
    refine call_ret (iIsEntire q _) ?_
    cases h2 : entB q with
    | true =>
      simp
      refine call_ret (iEntire _) ?_
      simp
      exact fin1 (rs := [.cell 4 40]) (by rfl) (by simp [resA, add, h1, h2]) (by simp [noF, noFs])
    | false =>
      simp [w1, w2]
      refine call_ret (iNew _ _ _) ?_
      simp
      exact fin1 (rs := [.cell 4 40]) (by rfl) (by simp [resA, add, h1, h2]) (by simp [noF, noFs])
theorem iSub (p q : I) (hp : vB p = true) (hq : vB q = true) (H : AH) : Sound E 75 [iv p, iv q] H (.ret (iv (sub p q))) H := by
  refine sound_of_awp tabOk mixed Tryd.func75 rfl (by rfl) Tryd.ntmps75 (by kernel_rfl) (by simp) ?_
  simp
  refine callD_ret0 (fun Hx => iNeg q hq Hx) ?_
  simp
  refine callD_ret0 (fun Hx => iAdd p (neg q) hp (neg_valid hq) Hx) ?_
  simp
  refine endD [] (by rfl) (by simp [okW, note, Eff.triv, Eff.wr, Eff.none, upTo, newAt]) ?_
  simp
  exact fin1 (rs := [.cell 4 40]) (by rfl) (by simp [resA, sub]) (by simp [noF, noFs])
/-- The side of an interval. -/
def sideI (p : I) : Int := if p.2 ≤ 0 then 0 else if 0 ≤ p.1 then 2 else 1
theorem iSide (p : I) (H : AH) : Sound E 83 [iv p] H (.ret (.int .i64 (sideI p))) H := by
  refine sound_of_awp tabOk mixed Tryd.func83 rfl (by rfl) Tryd.ntmps83 (by kernel_rfl) (by simp) ?_
  by_cases h1 : p.2 ≤ 0
  · simp [h1]
    exact fin1 (rs := [.tmp 2]) (by rfl) (by simp [resA, sideI, h1]) (by simp [noF])
  by_cases h2 : 0 ≤ p.1
  · simp [h1, h2]
    exact fin1 (rs := [.tmp 2]) (by rfl) (by simp [resA, sideI, h1, h2]) (by simp [noF])
  simp [h1, h2]
  exact fin1 (rs := [.tmp 2]) (by rfl) (by simp [resA, sideI, h1, h2]) (by simp [noF])
theorem iHH (p q : I) (H : AH) : Sound E 117 [iv p, iv q] H (.ret (.tuple [.int .i64 p.2, .int .i64 q.2])) H := by
  refine sound_of_awp tabOk mixed Tryd.func117 rfl (by rfl) Tryd.ntmps117 (by kernel_rfl) (by simp) ?_
  simp
  refine endD [] (by rfl) (by simp [okW, note, Eff.triv, Eff.wr, Eff.none, upTo, newAt]) ?_
  simp
  exact finC (rs := [.tmp 4, .tmp 5]) (vs := [.int .i64 p.2, .int .i64 q.2]) (vs' := [.int .i64 p.2, .int .i64 q.2]) (by rfl) (by simp [resA]) (by simp; rfl) (by simp [noF, noFs]) rfl
theorem iLL (p q : I) (H : AH) : Sound E 118 [iv p, iv q] H (.ret (.tuple [.int .i64 p.1, .int .i64 q.1])) H := by
  refine sound_of_awp tabOk mixed Tryd.func118 rfl (by rfl) Tryd.ntmps118 (by kernel_rfl) (by simp) ?_
  simp
  refine endD [] (by rfl) (by simp [okW, note, Eff.triv, Eff.wr, Eff.none, upTo, newAt]) ?_
  simp
  exact finC (rs := [.tmp 4, .tmp 5]) (vs := [.int .i64 p.1, .int .i64 q.1]) (vs' := [.int .i64 p.1, .int .i64 q.1]) (by rfl) (by simp [resA]) (by simp; rfl) (by simp [noF, noFs]) rfl
theorem iLH (p q : I) (H : AH) : Sound E 119 [iv p, iv q] H (.ret (.tuple [.int .i64 p.1, .int .i64 q.2])) H := by
  refine sound_of_awp tabOk mixed Tryd.func119 rfl (by rfl) Tryd.ntmps119 (by kernel_rfl) (by simp) ?_
  simp
  refine endD [] (by rfl) (by simp [okW, note, Eff.triv, Eff.wr, Eff.none, upTo, newAt]) ?_
  simp
  exact finC (rs := [.tmp 4, .tmp 5]) (vs := [.int .i64 p.1, .int .i64 q.2]) (vs' := [.int .i64 p.1, .int .i64 q.2]) (by rfl) (by simp [resA]) (by simp; rfl) (by simp [noF, noFs]) rfl
theorem iHL (p q : I) (H : AH) : Sound E 120 [iv p, iv q] H (.ret (.tuple [.int .i64 p.2, .int .i64 q.1])) H := by
  refine sound_of_awp tabOk mixed Tryd.func120 rfl (by rfl) Tryd.ntmps120 (by kernel_rfl) (by simp) ?_
  simp
  refine endD [] (by rfl) (by simp [okW, note, Eff.triv, Eff.wr, Eff.none, upTo, newAt]) ?_
  simp
  exact finC (rs := [.tmp 4, .tmp 5]) (vs := [.int .i64 p.2, .int .i64 q.1]) (vs' := [.int .i64 p.2, .int .i64 q.1]) (by rfl) (by simp [resA]) (by simp; rfl) (by simp [noF, noFs]) rfl
theorem iMag (p : I) (h : vB p = true) (H : AH) : Sound E 85 [iv p] H (.ret (.int .i64 (max p.2 (-p.1)))) H := by
  refine sound_of_awp tabOk mixed Tryd.func85 rfl (by rfl) Tryd.ntmps85 (by kernel_rfl) (by simp) ?_
  have hb := vB_bounds h
  have w1 : IntKind.i64.wrap (-p.1) = -p.1 := wrap64 (by omega) (by omega)
  simp [w1]
  exact fin1 (rs := [.tmp 2]) (by rfl) (by simp [resA]; omega) (by simp [noF])
theorem iPickInt (b : Bool) (x y : Int) (H : AH) : Sound E 94 [.bool b, .int .i64 x, .int .i64 y] H (.ret (.int .i64 (if b then x else y))) H := by
  refine sound_of_awp tabOk mixed Tryd.func94 rfl (by rfl) Tryd.ntmps94 (by kernel_rfl) (by simp) ?_
  cases b with
  | true =>
    simp
    exact fin0 (rs := [.tmp 6]) (by rfl) (by simp [resA])
  | false =>
    simp
    exact fin0 (rs := [.tmp 6]) (by rfl) (by simp [resA])
theorem iContains (p : I) (x : Int) (H : AH) : Sound E 93 [iv p, .int .i64 x] H (.ret (.bool (conB p x))) H := by
  refine sound_of_awp tabOk mixed Tryd.func93 rfl (by rfl) Tryd.ntmps93 (by kernel_rfl) (by simp) ?_
  simp
  refine call_ret (iIsEntire p _) ?_
  cases h1 : entB p with
  | true =>
    simp
    exact fin1 (rs := [.tmp 4]) (by rfl) (by simp [resA, conB, h1]) (by simp [noF])
  | false =>
    by_cases h2 : p.1 ≤ x
    · simp [h2]
      exact fin1 (rs := [.tmp 4]) (by rfl) (by simp [resA, conB, h1, h2]) (by simp [noF])
    · simp [h2]
      exact fin1 (rs := [.tmp 4]) (by rfl) (by simp [resA, conB, h1, h2]) (by simp [noF])
end Go.Proofs.YtgabeieooemfeaaDoor.Arm

namespace Go.Proofs.YtgabeieooemfeaaDoor.Arm
open Go.Arm Go.Pl

theorem prod_bounds {x y : Int} (hx : -2147483648 ≤ x ∧ x ≤ 2147483648) (hy : -2147483648 ≤ y ∧ y ≤ 2147483648) : -4611686018427387904 ≤ x * y ∧ x * y ≤ 4611686018427387904 := by
  have h1 : (x * y).natAbs ≤ 2147483648 * 2147483648 := by
    rw [Int.natAbs_mul]
    exact Nat.mul_le_mul (by omega) (by omega)
  omega
theorem sideI_cases (p : I) : (sideI p = 0 ∧ p.2 ≤ 0) ∨ (sideI p = 2 ∧ 0 ≤ p.1 ∧ 0 < p.2) ∨ (sideI p = 1 ∧ p.1 < 0 ∧ 0 < p.2) := by
  unfold sideI
  split
  · exact .inl ⟨rfl, by omega⟩
  · split
    · exact .inr (.inl ⟨rfl, by omega, by omega⟩)
    · exact .inr (.inr ⟨rfl, by omega, by omega⟩)
theorem mul_sel {p q : I} (h1 : entB p = false) (h2 : entB q = false) {a b : Int} (ha : min4 (p.1 * q.1) (p.1 * q.2) (p.2 * q.1) (p.2 * q.2) = a) (hb : max4 (p.1 * q.1) (p.1 * q.2) (p.2 * q.1) (p.2 * q.2) = b) :
    mul p q = mk (fl a 65536) (ce b 65536) := by simp [mul, h1, h2, ha, hb]

set_option maxHeartbeats 1000000 in
theorem iMul (p q : I) (hp : vB p = true) (hq : vB q = true) (H : AH) : Sound E 67 [iv p, iv q] H (.ret (iv (mul p q))) H := by
  refine sound_of_awp tabOk mixed Tryd.func67 rfl (by rfl) Tryd.ntmps67 (by kernel_rfl) (by simp) ?_
  simp
  refine call_ret (iIsEntire p _) ?_
  cases h1 : entB p with
  | true =>
    simp
    refine call_ret (iEntire _) ?_
    simp
    exact fin1 (rs := [.cell 4 40]) (by rfl) (by simp [resA, mul, h1]) (by simp [noF, noFs])
  | false =>
  simp
  refine call_ret (iIsEntire q _) ?_
  cases h2 : entB q with
  | true =>
    simp
    refine call_ret (iEntire _) ?_
    simp
    exact fin1 (rs := [.cell 4 40]) (by rfl) (by simp [resA, mul, h1, h2]) (by simp [noF, noFs])
  | false =>
  simp
  refine callD_ret0 (fun Hx => iSide p Hx) ?_
  simp
  refine callD_ret0 (fun Hx => iSide q Hx) ?_
  simp
  refine endD [] (by rfl) (by simp [okW, note, Eff.triv, Eff.wr, Eff.none, upTo, newAt]) ?_
  have hb := entB_false hp h1
  have hc := entB_false hq h2
  have w11 := prod_bounds (x := p.1) (y := q.1) (by omega) (by omega)
  have w12 := prod_bounds (x := p.1) (y := q.2) (by omega) (by omega)
  have w21 := prod_bounds (x := p.2) (y := q.1) (by omega) (by omega)
  have w22 := prod_bounds (x := p.2) (y := q.2) (by omega) (by omega)
  have he := mul_edges p q
  rcases sideI_cases p with ⟨s1, f1⟩ | ⟨s1, f1⟩ | ⟨s1, f1⟩ <;> rcases sideI_cases q with ⟨t1, g1⟩ | ⟨t1, g1⟩ | ⟨t1, g1⟩
  · have hm : mul p q = mk (fl (p.2 * q.2) 65536) (ce (p.1 * q.1) 65536) := mul_sel h1 h2 (by simp only [min4]; omega) (by simp only [max4]; omega)
    simp [s1, t1, prodT]
    refine call_ret (iHH p q _) ?_
    simp
    refine call_ret (fMul _ _ w22 _) ?_
    simp
    refine call_ret (iLL p q _) ?_
    simp
    refine call_ret (fMul _ _ w11 _) ?_
    simp
    refine call_ret (iNew _ _ _) ?_
    simp
    exact fin1 (rs := [.cell 4 40]) (by rfl) (by rw [hm]; simp [resA]) (by simp [noF, noFs])
  · have hm : mul p q = mk (fl (p.1 * q.2) 65536) (ce (p.2 * q.1) 65536) := mul_sel h1 h2 (by simp only [min4]; omega) (by simp only [max4]; omega)
    simp [s1, t1, prodT]
    refine call_ret (iLH p q _) ?_
    simp
    refine call_ret (fMul _ _ w12 _) ?_
    simp
    refine call_ret (iHL p q _) ?_
    simp
    refine call_ret (fMul _ _ w21 _) ?_
    simp
    refine call_ret (iNew _ _ _) ?_
    simp
    exact fin1 (rs := [.cell 4 40]) (by rfl) (by rw [hm]; simp [resA]) (by simp [noF, noFs])
  · have hm : mul p q = mk (fl (p.1 * q.2) 65536) (ce (p.1 * q.1) 65536) := mul_sel h1 h2 (by simp only [min4]; omega) (by simp only [max4]; omega)
    simp [s1, t1, prodT]
    refine call_ret (iLH p q _) ?_
    simp
    refine call_ret (fMul _ _ w12 _) ?_
    simp
    refine call_ret (iLL p q _) ?_
    simp
    refine call_ret (fMul _ _ w11 _) ?_
    simp
    refine call_ret (iNew _ _ _) ?_
    simp
    exact fin1 (rs := [.cell 4 40]) (by rfl) (by rw [hm]; simp [resA]) (by simp [noF, noFs])
  · have hm : mul p q = mk (fl (p.2 * q.1) 65536) (ce (p.1 * q.2) 65536) := mul_sel h1 h2 (by simp only [min4]; omega) (by simp only [max4]; omega)
    simp [s1, t1, prodT]
    refine call_ret (iHL p q _) ?_
    simp
    refine call_ret (fMul _ _ w21 _) ?_
    simp
    refine call_ret (iLH p q _) ?_
    simp
    refine call_ret (fMul _ _ w12 _) ?_
    simp
    refine call_ret (iNew _ _ _) ?_
    simp
    exact fin1 (rs := [.cell 4 40]) (by rfl) (by rw [hm]; simp [resA]) (by simp [noF, noFs])
  · have hm : mul p q = mk (fl (p.1 * q.1) 65536) (ce (p.2 * q.2) 65536) := mul_sel h1 h2 (by simp only [min4]; omega) (by simp only [max4]; omega)
    simp [s1, t1, prodT]
    refine call_ret (iLL p q _) ?_
    simp
    refine call_ret (fMul _ _ w11 _) ?_
    simp
    refine call_ret (iHH p q _) ?_
    simp
    refine call_ret (fMul _ _ w22 _) ?_
    simp
    refine call_ret (iNew _ _ _) ?_
    simp
    exact fin1 (rs := [.cell 4 40]) (by rfl) (by rw [hm]; simp [resA]) (by simp [noF, noFs])
  · have hm : mul p q = mk (fl (p.2 * q.1) 65536) (ce (p.2 * q.2) 65536) := mul_sel h1 h2 (by simp only [min4]; omega) (by simp only [max4]; omega)
    simp [s1, t1, prodT]
    refine call_ret (iHL p q _) ?_
    simp
    refine call_ret (fMul _ _ w21 _) ?_
    simp
    refine call_ret (iHH p q _) ?_
    simp
    refine call_ret (fMul _ _ w22 _) ?_
    simp
    refine call_ret (iNew _ _ _) ?_
    simp
    exact fin1 (rs := [.cell 4 40]) (by rfl) (by rw [hm]; simp [resA]) (by simp [noF, noFs])
  · have hm : mul p q = mk (fl (p.2 * q.1) 65536) (ce (p.1 * q.1) 65536) := mul_sel h1 h2 (by simp only [min4]; omega) (by simp only [max4]; omega)
    simp [s1, t1, prodT]
    refine call_ret (iHL p q _) ?_
    simp
    refine call_ret (fMul _ _ w21 _) ?_
    simp
    refine call_ret (iLL p q _) ?_
    simp
    refine call_ret (fMul _ _ w11 _) ?_
    simp
    refine call_ret (iNew _ _ _) ?_
    simp
    exact fin1 (rs := [.cell 4 40]) (by rfl) (by rw [hm]; simp [resA]) (by simp [noF, noFs])
  · have hm : mul p q = mk (fl (p.1 * q.2) 65536) (ce (p.2 * q.2) 65536) := mul_sel h1 h2 (by simp only [min4]; omega) (by simp only [max4]; omega)
    simp [s1, t1, prodT]
    refine call_ret (iLH p q _) ?_
    simp
    refine call_ret (fMul _ _ w12 _) ?_
    simp
    refine call_ret (iHH p q _) ?_
    simp
    refine call_ret (fMul _ _ w22 _) ?_
    simp
    refine call_ret (iNew _ _ _) ?_
    simp
    exact fin1 (rs := [.cell 4 40]) (by rfl) (by rw [hm]; simp [resA]) (by simp [noF, noFs])
  · have hm : mul p q = mk (min (fl (p.1 * q.2) 65536) (fl (p.2 * q.1) 65536)) (max (ce (p.1 * q.1) 65536) (ce (p.2 * q.2) 65536)) := by
      have e1 : min4 (p.1 * q.1) (p.1 * q.2) (p.2 * q.1) (p.2 * q.2) = min (p.1 * q.2) (p.2 * q.1) := by simp only [min4]; omega
      have e2 : max4 (p.1 * q.1) (p.1 * q.2) (p.2 * q.1) (p.2 * q.2) = max (p.1 * q.1) (p.2 * q.2) := by simp only [max4]; omega
      rw [mul_sel h1 h2 e1 e2]
      congr 1
      · simp only [fl]; split <;> omega
      · simp only [ce, fl]; split <;> omega
    simp [s1, t1]
    refine call_ret (fMul _ _ w12 _) ?_
    simp
    refine call_ret (fMul _ _ w21 _) ?_
    simp
    refine call_ret (fMul _ _ w11 _) ?_
    simp
    refine call_ret (fMul _ _ w22 _) ?_
    simp
    refine call_ret (iNew _ _ _) ?_
    simp
    exact fin1 (rs := [.cell 4 40]) (by rfl) (by rw [hm]; simp [resA, ite_min, ite_max]) (by simp [noF, noFs])
theorem sq_eq (p : I) (h : p.1 ≤ p.2) : (if p.1 ≤ 0 ∧ 0 ≤ p.2 then 0 else min (p.1 * p.1) (p.2 * p.2)) = max (max p.1 (-p.2)) 0 * max (max p.1 (-p.2)) 0 ∧ max (p.1 * p.1) (p.2 * p.2) = max p.2 (-p.1) * max p.2 (-p.1) := by
  obtain ⟨x, y⟩ := p
  simp only at h ⊢
  have e1 : 0 ≤ x → x * x ≤ y * y := fun h0 => Int.mul_le_mul h h h0 (by omega)
  have e2 : y ≤ 0 → y * y ≤ x * x := fun h0 => by
    have := Int.mul_le_mul (a := -y) (b := -y) (c := -x) (d := -x) (by omega) (by omega) (by omega) (by omega)
    simp only [Int.neg_mul_neg] at this; exact this
  have e3 : x ≤ 0 → 0 ≤ y → -x ≤ y → x * x ≤ y * y := fun h0 h1 h2 => by
    have := Int.mul_le_mul (a := -x) (b := -x) (c := y) (d := y) (by omega) (by omega) (by omega) (by omega)
    simp only [Int.neg_mul_neg] at this; exact this
  have e4 : x ≤ 0 → 0 ≤ y → y ≤ -x → y * y ≤ x * x := fun h0 h1 h2 => by
    have := Int.mul_le_mul (a := y) (b := y) (c := -x) (d := -x) (by omega) (by omega) (by omega) (by omega)
    simp only [Int.neg_mul_neg] at this; exact this
  have n1 : -x * -x = x * x := Int.neg_mul_neg x x
  have n2 : -y * -y = y * y := Int.neg_mul_neg y y
  constructor
  · split
    · rw [show max (max x (-y)) 0 = 0 by omega]; simp
    · rcases Int.lt_or_le 0 x with h0 | h0
      · rw [show max (max x (-y)) 0 = x by omega]; have := e1 (by omega); omega
      · rw [show max (max x (-y)) 0 = -y by omega, n2]; have := e2 (by omega); omega
  · rcases Int.le_total (-x) y with h0 | h0
    · rw [show max y (-x) = y by omega]
      rcases Int.le_total 0 x with h1 | h1
      · have := e1 h1; omega
      · have := e3 h1 (by omega) h0; omega
    · rw [show max y (-x) = -x by omega, n1]
      rcases Int.le_total y 0 with h1 | h1
      · have := e2 h1; omega
      · have := e4 (by omega) h1 h0; omega
theorem iSquare (p : I) (hp : vB p = true) (H : AH) : Sound E 76 [iv p] H (.ret (iv (sq p))) H := by
  refine sound_of_awp tabOk mixed Tryd.func76 rfl (by rfl) Tryd.ntmps76 (by kernel_rfl) (by simp) ?_
  simp
  refine call_ret (iIsEntire p _) ?_
  cases h1 : entB p with
  | true =>
    simp
    exact fin1 (rs := [.cell 2 40]) (by rfl) (by have e : sq p = p := (by simp only [sq, h1, if_true]; exact (entB_iff.1 h1).symm); rw [e]; simp [resA]) (by simp [noF, noFs])
  | false =>
  have hb := entB_false hp h1
  have w1 : IntKind.i64.wrap (-p.2) = -p.2 := wrap64 (by omega) (by omega)
  obtain ⟨e1, e2⟩ := sq_eq p hb.2.1
  have hs : sq p = mk (fl (max (max p.1 (-p.2)) 0 * max (max p.1 (-p.2)) 0) 65536) (ce (max p.2 (-p.1) * max p.2 (-p.1)) 65536) := by
    simp only [sq, h1]; rw [e1, e2]; simp
  rw [hs]
  clear hs e1 e2
  simp [w1, ite_max]
  refine callD_ret0 (fun Hx => iMag p hp Hx) ?_
  simp
  refine endD [] (by rfl) (by simp [okW, note, Eff.triv, Eff.wr, Eff.none, upTo, newAt]) ?_
  simp
  refine call_ret (fMul _ _ (prod_bounds (by omega) (by omega)) _) ?_
  simp
  refine call_ret (fMul _ _ (prod_bounds (by omega) (by omega)) _) ?_
  simp
  refine call_ret (iNew _ _ _) ?_
  simp
  exact fin1 (rs := [.cell 2 40]) (by rfl) (by simp [resA]) (by simp [noF, noFs])
theorem fDiv (a b : Int) (ha : -2147483648 ≤ a ∧ a ≤ 2147483648) (hb : b ≠ 0 ∧ -2147483648 ≤ b ∧ b ≤ 2147483648) (H : AH) :
    Sound E 95 [.int .i64 a, .int .i64 b] H (.ret (.tuple [.int .i64 (fl (a * 65536) b), .int .i64 (ce (a * 65536) b), .int .i64 0])) H := by
  refine sound_of_awp tabOk mixed Tryd.func95 rfl (by rfl) Tryd.ntmps95 (by kernel_rfl) (by simp) ?_
  have w1 : IntKind.i64.wrap (a * 65536) = a * 65536 := wrap64 (by omega) (by omega)
  have hb0 : (b == 0) = false := by simp [hb.1]
  simp [hb0, w1]
  refine call_ret (fDivide (a * 65536) b (by omega) (by omega) _) ?_
  simp
  exact finK (rs := [.tmp 4, .tmp 5, .tmp 6]) (vs := [.int .i64 (fl (a * 65536) b), .int .i64 (ce (a * 65536) b), .int .i64 0]) (by rfl) (by simp [resA]) rfl
end Go.Proofs.YtgabeieooemfeaaDoor.Arm

namespace Go.Proofs.YtgabeieooemfeaaDoor.Arm
open Go.Arm Go.Pl

theorem iDiv (p q : I) (hp : vB p = true) (hq : vB q = true) (H : AH) : Sound E 86 [iv p, iv q] H (.ret (iv (div p q))) H := by
  refine sound_of_awp tabOk mixed Tryd.func86 rfl (by rfl) Tryd.ntmps86 (by kernel_rfl) (by simp) ?_
  simp
  refine call_ret (iIsEntire p _) ?_
  cases h1 : entB p with
  | true =>
    simp
    refine call_ret (iEntire _) ?_
    simp
    exact fin1 (rs := [.cell 4 40]) (by rfl) (by simp [resA, div, h1]) (by simp [noF, noFs])
  | false =>
  simp
  refine call_ret (iIsEntire q _) ?_
  cases h2 : entB q with
  | true =>
    simp
    refine call_ret (iEntire _) ?_
    simp
    exact fin1 (rs := [.cell 4 40]) (by rfl) (by simp [resA, div, h1, h2]) (by simp [noF, noFs])
  | false =>
  simp
  refine call_ret (iContains q 0 _) ?_
  cases h3 : conB q 0 with
  | true =>
    simp
    refine call_ret (iEntire _) ?_
    simp
    exact fin1 (rs := [.cell 4 40]) (by rfl) (by simp only [conB, h2, Bool.false_or] at h3; simp [resA, div, h1, h2, h3]) (by simp [noF, noFs])
  | false =>
  have hb := entB_false hp h1
  have hc := entB_false hq h2
  have h3' : q.2 < 0 ∨ 0 < q.1 := by
    simp only [conB, h2, Bool.false_or, Bool.and_eq_false_iff, decide_eq_false_iff_not] at h3
    omega
  simp
  refine callD_ret0 (fun Hx => iSide p Hx) ?_
  simp
  refine callD_ret0 (fun Hx => iPickInt (decide (0 < q.1)) 1 0 Hx) ?_
  simp
  rcases sideI_cases p with ⟨s1, f1⟩ | ⟨s1, f1⟩ | ⟨s1, f1⟩ <;> rcases h3' with g1 | g1
  · rw [div_sel0n h1 h2 hb.2.1 hc.2.1 (by omega) g1]
    have g2 : ¬ 0 < q.1 := by omega
    simp [s1, g2, quotT]
    refine endD [(9, 10)] (by rfl) (by simp [okW, note, Eff.triv, Eff.wr, Eff.none, upTo, newAt]) ?_
    simp
    refine call_ret (iHL p q _) ?_
    simp
    refine call_ret (fDiv _ _ (by omega) (by omega) _) ?_
    simp
    refine call_ret (iLH p q _) ?_
    simp
    refine call_ret (fDiv _ _ (by omega) (by omega) _) ?_
    simp
    refine call_ret (iNew _ _ _) ?_
    simp
    exact fin1 (rs := [.cell 4 40]) (by rfl) (by simp [resA]) (by simp [noF, noFs])
  · rw [div_sel0p h1 h2 hb.2.1 hc.2.1 (by omega) g1]
    have g2 : 0 < q.1 := g1
    simp [s1, g2, quotT]
    refine endD [(9, 10)] (by rfl) (by simp [okW, note, Eff.triv, Eff.wr, Eff.none, upTo, newAt]) ?_
    simp
    refine call_ret (iLL p q _) ?_
    simp
    refine call_ret (fDiv _ _ (by omega) (by omega) _) ?_
    simp
    refine call_ret (iHH p q _) ?_
    simp
    refine call_ret (fDiv _ _ (by omega) (by omega) _) ?_
    simp
    refine call_ret (iNew _ _ _) ?_
    simp
    exact fin1 (rs := [.cell 4 40]) (by rfl) (by simp [resA]) (by simp [noF, noFs])
  · rw [div_sel2n h1 h2 hb.2.1 hc.2.1 (by omega) g1]
    have g2 : ¬ 0 < q.1 := by omega
    simp [s1, g2, quotT]
    refine endD [(9, 10)] (by rfl) (by simp [okW, note, Eff.triv, Eff.wr, Eff.none, upTo, newAt]) ?_
    simp
    refine call_ret (iHH p q _) ?_
    simp
    refine call_ret (fDiv _ _ (by omega) (by omega) _) ?_
    simp
    refine call_ret (iLL p q _) ?_
    simp
    refine call_ret (fDiv _ _ (by omega) (by omega) _) ?_
    simp
    refine call_ret (iNew _ _ _) ?_
    simp
    exact fin1 (rs := [.cell 4 40]) (by rfl) (by simp [resA]) (by simp [noF, noFs])
  · rw [div_sel2p h1 h2 hb.2.1 hc.2.1 (by omega) g1]
    have g2 : 0 < q.1 := g1
    simp [s1, g2, quotT]
    refine endD [(9, 10)] (by rfl) (by simp [okW, note, Eff.triv, Eff.wr, Eff.none, upTo, newAt]) ?_
    simp
    refine call_ret (iLH p q _) ?_
    simp
    refine call_ret (fDiv _ _ (by omega) (by omega) _) ?_
    simp
    refine call_ret (iHL p q _) ?_
    simp
    refine call_ret (fDiv _ _ (by omega) (by omega) _) ?_
    simp
    refine call_ret (iNew _ _ _) ?_
    simp
    exact fin1 (rs := [.cell 4 40]) (by rfl) (by simp [resA]) (by simp [noF, noFs])
  · rw [div_sel1n h1 h2 hb.2.1 hc.2.1 (by omega) g1]
    have g2 : ¬ 0 < q.1 := by omega
    simp [s1, g2, quotT]
    refine endD [(9, 10)] (by rfl) (by simp [okW, note, Eff.triv, Eff.wr, Eff.none, upTo, newAt]) ?_
    simp
    refine call_ret (iHH p q _) ?_
    simp
    refine call_ret (fDiv _ _ (by omega) (by omega) _) ?_
    simp
    refine call_ret (iLH p q _) ?_
    simp
    refine call_ret (fDiv _ _ (by omega) (by omega) _) ?_
    simp
    refine call_ret (iNew _ _ _) ?_
    simp
    exact fin1 (rs := [.cell 4 40]) (by rfl) (by simp [resA]) (by simp [noF, noFs])
  · rw [div_sel1p h1 h2 hb.2.1 hc.2.1 (by omega) g1]
    have g2 : 0 < q.1 := g1
    simp [s1, g2, quotT]
    refine endD [(9, 10)] (by rfl) (by simp [okW, note, Eff.triv, Eff.wr, Eff.none, upTo, newAt]) ?_
    simp
    refine call_ret (iLL p q _) ?_
    simp
    refine call_ret (fDiv _ _ (by omega) (by omega) _) ?_
    simp
    refine call_ret (iHL p q _) ?_
    simp
    refine call_ret (fDiv _ _ (by omega) (by omega) _) ?_
    simp
    refine call_ret (iNew _ _ _) ?_
    simp
    exact fin1 (rs := [.cell 4 40]) (by rfl) (by simp [resA]) (by simp [noF, noFs])
end Go.Proofs.YtgabeieooemfeaaDoor.Arm

namespace Go.Proofs.YtgabeieooemfeaaDoor.Arm
open Go.Arm Go.Pl

theorem withH_some' {H : AH} {x : Option AV} {v : AV} (h : x = some v) : withH H x = some (v, H) := by rw [h]; rfl
theorem map_u8 {x : Option UInt8} {k : Nat} (h : x.map UInt8.toNat = some k) : x.map (fun b => AV.int .u8 b.toNat) = some (.int .u8 k) := by
  cases x with
  | none => cases h
  | some b => simp at h; subst h; rfl

set_option maxRecDepth 100000 in
theorem bLen64 (x : Int) (h : 0 ≤ x ∧ x < 281474976710656) (H : AH) : Sound E 99 [.int .u64 x] H (.ret (.int .i64 (blen x))) H := by
  refine sound_of_awp tabOk mixed Tryd.func99 rfl (by rfl) Tryd.ntmps99 (by kernel_rfl) (by simp) ?_
  have fd : ∀ y : Int, y.fdiv (2 ^ min 32 IntKind.u64.bits) = y / 4294967296 ∧ y.fdiv (2 ^ min 16 IntKind.u64.bits) = y / 65536 ∧ y.fdiv (2 ^ min 8 IntKind.u64.bits) = y / 256 := fun y =>
    ⟨Int.fdiv_eq_ediv_of_nonneg _ (by decide), Int.fdiv_eq_ediv_of_nonneg _ (by decide), Int.fdiv_eq_ediv_of_nonneg _ (by decide)⟩
  obtain ⟨a, ha⟩ : ∃ a, a = (if 4294967296 ≤ x then (x / 4294967296, (32 : Int)) else (x, 0)) := ⟨_, rfl⟩
  obtain ⟨b, hb⟩ : ∃ b, b = (if 65536 ≤ a.1 then (a.1 / 65536, a.2 + 16) else a) := ⟨_, rfl⟩
  obtain ⟨c, hc⟩ : ∃ c, c = (if 256 ≤ b.1 then (b.1 / 256, b.2 + 8) else b) := ⟨_, rfl⟩
  have hbl : blen x = c.2 + len8 c.1.toNat := by rw [hc, hb, ha]; rfl
  rw [hbl]
  clear hbl
  have wc : IntKind.i64.wrap 40 = 40 ∧ IntKind.i64.wrap 32 = 32 ∧ IntKind.i64.wrap 24 = 24 ∧ IntKind.i64.wrap 16 = 16 ∧ IntKind.i64.wrap 8 = 8 := by decide
  by_cases h1 : 4294967296 ≤ x
  · simp only [h1, if_true] at ha
    subst ha
    have h2 : ¬ 65536 ≤ x / 4294967296 := by omega
    dsimp only at hb
    rw [if_neg h2] at hb
    subst hb
    simp [h1, h2, fd]
    by_cases h3 : 256 ≤ x / 4294967296
    · dsimp only at hc
      rw [if_pos h3] at hc
      subst hc
      simp [h3, fd]
      have hz : 0 ≤ x / 4294967296 / 256 ∧ x / 4294967296 / 256 < 256 := by omega
      generalize x / 4294967296 / 256 = z at *
      obtain ⟨k, rfl⟩ := Int.eq_ofNat_of_zero_le hz.1
      have hk : k < 256 := by omega
      have wk : IntKind.u8.wrap (k : Int) = k := wrap8 (by omega) (by omega)
      simp [wk]
      refine bind_some (withH_some' (map_u8 (k := len8 k) ?_)) ?_
      · clear wk hz h
        try clear h3
        try clear h2
        try clear h1
        revert hk
        revert k
        decide +kernel
      have h8 := (len8_spec k hk).2
      have wl : IntKind.i64.wrap (len8 k : Int) = len8 k := wrap64 (by omega) (by omega)
      have wm : IntKind.i64.wrap (40 + (len8 k : Int)) = 40 + len8 k := wrap64 (by omega) (by omega)
      simp [wl, wm, wc]
      exact fin0 (rs := [.tmp 2]) (by rfl) (by simp [resA])
    · dsimp only at hc
      rw [if_neg h3] at hc
      subst hc
      simp [h3, fd]
      have hz : 0 ≤ x / 4294967296 ∧ x / 4294967296 < 256 := by omega
      generalize x / 4294967296 = z at *
      obtain ⟨k, rfl⟩ := Int.eq_ofNat_of_zero_le hz.1
      have hk : k < 256 := by omega
      have wk : IntKind.u8.wrap (k : Int) = k := wrap8 (by omega) (by omega)
      simp [wk]
      refine bind_some (withH_some' (map_u8 (k := len8 k) ?_)) ?_
      · clear wk hz h
        try clear h3
        try clear h2
        try clear h1
        revert hk
        revert k
        decide +kernel
      have h8 := (len8_spec k hk).2
      have wl : IntKind.i64.wrap (len8 k : Int) = len8 k := wrap64 (by omega) (by omega)
      have wm : IntKind.i64.wrap (32 + (len8 k : Int)) = 32 + len8 k := wrap64 (by omega) (by omega)
      simp [wl, wm, wc]
      exact fin0 (rs := [.tmp 2]) (by rfl) (by simp [resA])
  · simp only [h1, if_false] at ha
    subst ha
    by_cases h2 : 65536 ≤ x
    · dsimp only at hb
      rw [if_pos h2] at hb
      subst hb
      simp [h1, h2, fd]
      by_cases h3 : 256 ≤ x / 65536
      · dsimp only at hc
        rw [if_pos h3] at hc
        subst hc
        simp [h3, fd]
        have hz : 0 ≤ x / 65536 / 256 ∧ x / 65536 / 256 < 256 := by omega
        generalize x / 65536 / 256 = z at *
        obtain ⟨k, rfl⟩ := Int.eq_ofNat_of_zero_le hz.1
        have hk : k < 256 := by omega
        have wk : IntKind.u8.wrap (k : Int) = k := wrap8 (by omega) (by omega)
        simp [wk]
        refine bind_some (withH_some' (map_u8 (k := len8 k) ?_)) ?_
        · clear wk hz h
          try clear h3
          try clear h2
          try clear h1
          revert hk
          revert k
          decide +kernel
        have h8 := (len8_spec k hk).2
        have wl : IntKind.i64.wrap (len8 k : Int) = len8 k := wrap64 (by omega) (by omega)
        have wm : IntKind.i64.wrap (24 + (len8 k : Int)) = 24 + len8 k := wrap64 (by omega) (by omega)
        simp [wl, wm, wc]
        exact fin0 (rs := [.tmp 2]) (by rfl) (by simp [resA])
      · dsimp only at hc
        rw [if_neg h3] at hc
        subst hc
        simp [h3, fd]
        have hz : 0 ≤ x / 65536 ∧ x / 65536 < 256 := by omega
        generalize x / 65536 = z at *
        obtain ⟨k, rfl⟩ := Int.eq_ofNat_of_zero_le hz.1
        have hk : k < 256 := by omega
        have wk : IntKind.u8.wrap (k : Int) = k := wrap8 (by omega) (by omega)
        simp [wk]
        refine bind_some (withH_some' (map_u8 (k := len8 k) ?_)) ?_
        · clear wk hz h
          try clear h3
          try clear h2
          try clear h1
          revert hk
          revert k
          decide +kernel
        have h8 := (len8_spec k hk).2
        have wl : IntKind.i64.wrap (len8 k : Int) = len8 k := wrap64 (by omega) (by omega)
        have wm : IntKind.i64.wrap (16 + (len8 k : Int)) = 16 + len8 k := wrap64 (by omega) (by omega)
        simp [wl, wm, wc]
        exact fin0 (rs := [.tmp 2]) (by rfl) (by simp [resA])
    · dsimp only at hb
      rw [if_neg h2] at hb
      subst hb
      simp [h1, h2, fd]
      by_cases h3 : 256 ≤ x
      · dsimp only at hc
        rw [if_pos h3] at hc
        subst hc
        simp [h3, fd]
        have hz : 0 ≤ x / 256 ∧ x / 256 < 256 := by omega
        generalize x / 256 = z at *
        obtain ⟨k, rfl⟩ := Int.eq_ofNat_of_zero_le hz.1
        have hk : k < 256 := by omega
        have wk : IntKind.u8.wrap (k : Int) = k := wrap8 (by omega) (by omega)
        simp [wk]
        refine bind_some (withH_some' (map_u8 (k := len8 k) ?_)) ?_
        · clear wk hz h
          try clear h3
          try clear h2
          try clear h1
          revert hk
          revert k
          decide +kernel
        have h8 := (len8_spec k hk).2
        have wl : IntKind.i64.wrap (len8 k : Int) = len8 k := wrap64 (by omega) (by omega)
        have wm : IntKind.i64.wrap (8 + (len8 k : Int)) = 8 + len8 k := wrap64 (by omega) (by omega)
        simp [wl, wm, wc]
        exact fin0 (rs := [.tmp 2]) (by rfl) (by simp [resA])
      · dsimp only at hc
        rw [if_neg h3] at hc
        subst hc
        simp [h3, fd]
        have hz : 0 ≤ x ∧ x < 256 := by omega
        generalize x = z at *
        obtain ⟨k, rfl⟩ := Int.eq_ofNat_of_zero_le hz.1
        have hk : k < 256 := by omega
        have wk : IntKind.u8.wrap (k : Int) = k := wrap8 (by omega) (by omega)
        simp [wk]
        refine bind_some (withH_some' (map_u8 (k := len8 k) ?_)) ?_
        · clear wk hz h
          try clear h3
          try clear h2
          try clear h1
          revert hk
          revert k
          decide +kernel
        have h8 := (len8_spec k hk).2
        have wl : IntKind.i64.wrap (len8 k : Int) = len8 k := wrap64 (by omega) (by omega)
        have wm : IntKind.i64.wrap (0 + (len8 k : Int)) = 0 + len8 k := wrap64 (by omega) (by omega)
        simp [wl, wm, wc]
        exact fin0 (rs := [.tmp 2]) (by rfl) (by simp [resA])
end Go.Proofs.YtgabeieooemfeaaDoor.Arm

namespace Go.Proofs.YtgabeieooemfeaaDoor.Arm
open Go.Arm Go.Pl

theorem root_lt {n : Int} {e : Nat} {b : Int} (hn : 0 ≤ n) (hb : 0 ≤ b) (h : n < 2 ^ b.toNat) (he : b ≤ 2 * e) : root n ≤ 2 ^ e := by
  obtain ⟨r0, r1, r2⟩ := root_spec hn
  rcases Int.lt_or_le (2 ^ e) (root n) with hlt | hle
  · have h0 : (0 : Int) ≤ 2 ^ e := by exact_mod_cast Nat.zero_le _
    have h1 : (2 ^ e : Int) * 2 ^ e ≤ root n * root n := Int.mul_le_mul (by omega) (by omega) h0 r0
    have h2 : (2 ^ b.toNat : Int) ≤ 2 ^ e * 2 ^ e := by
      rw [← Int.pow_add]
      have : (2 ^ b.toNat : Nat) ≤ 2 ^ (e + e) := Nat.pow_le_pow_right (by omega) (by omega)
      exact_mod_cast this
    omega
  · exact hle
def LSq (n : Int) (H : AH) (x : Int) (fr : AFr) (H' : AH) : Prop :=
  fr 5 = .int .i64 n ∧ fr 6 = .int .i64 x ∧ 0 < x ∧ root n ≤ x ∧ x ≤ 16777216 ∧ H' = H
theorem fSqrt (a : Int) (ha : 0 ≤ a ∧ a ≤ 2147483648) (H : AH) : Sound E 96 [.int .i64 a] H (.ret (.tuple [.int .i64 (root (a * 65536)), .int .i64 (rootU (a * 65536)), .int .i64 0])) H := by
  refine sound_of_awp tabOk mixed Tryd.func96 rfl (by rfl) Tryd.ntmps96 (by kernel_rfl) (by simp) ?_
  have e16 : (2 : Int) ^ min 16 IntKind.i64.bits = 65536 := by decide
  have w1 : IntKind.i64.wrap (a * 65536) = a * 65536 := wrap64 (by omega) (by omega)
  have hlt : ¬ a < 0 := by omega
  simp [hlt, e16, w1]
  obtain ⟨n, hn⟩ : ∃ n, n = a * 65536 := ⟨_, rfl⟩
  rw [← hn]
  have hn0 : 0 ≤ n ∧ n ≤ 140737488355328 := by omega
  clear hn w1
  by_cases hz : n = 0
  · subst hz
    simp
    exact finK (rs := [.tmp 2, .tmp 3, .tmp 4]) (vs := [.int .i64 (root 0), .int .i64 (rootU 0), .int .i64 0]) (by rfl) (by simp [resA]; decide) rfl
  have hz' : (n == 0) = false := by simp [hz]
  have wu : IntKind.u64.wrap n = n := wrapu64 (by omega) (by omega)
  simp [hz', wu]
  refine call_ret (bLen64 n (by omega) _) ?_
  obtain ⟨b0, b1, b2⟩ := blen_spec (x := n) (by omega)
  generalize blen n = b at *
  have wb : IntKind.i64.wrap (b + 1) = b + 1 := wrap64 (by omega) (by omega)
  have wt : (b + 1).tdiv 2 = (b + 1) / 2 := Int.tdiv_eq_ediv_of_nonneg (by omega)
  have wq : IntKind.i64.wrap ((b + 1) / 2) = (b + 1) / 2 := wrap64 (by omega) (by omega)
  obtain ⟨e, he⟩ : ∃ e : Nat, (b + 1) / 2 = (e : Int) := ⟨((b + 1) / 2).toNat, by omega⟩
  have he2 : e ≤ 24 := by omega
  have hneg : ¬ ((e : Int) < 0) := by omega
  have hmin : min e IntKind.i64.bits = e := by simp [IntKind.bits]; omega
  have hp : (2 : Int) ^ e ≤ 16777216 ∧ 0 < (2 : Int) ^ e := by
    have h1 : (2 : Nat) ^ e ≤ 2 ^ 24 := Nat.pow_le_pow_right (by omega) he2
    have h2 : 0 < (2 : Nat) ^ e := Nat.pow_pos (by omega)
    have h3 : (((2 : Nat) ^ e : Nat) : Int) = 2 ^ e := by simp
    have h4 : (2 : Nat) ^ 24 = 16777216 := by decide
    rw [h4] at h1
    rw [← h3]
    omega
  have wp : IntKind.i64.wrap ((2 : Int) ^ e) = 2 ^ e := wrap64 (by omega) (by omega)
  have we : IntKind.i64.wrap (e : Int) = e := wrap64 (by omega) (by omega)
  simp [wb, wt, we, he, hneg, hmin, wp]
  have hr1 : 1 ≤ root n := by
    obtain ⟨r0, r1, r2⟩ := root_spec hn0.1
    rcases Int.lt_or_le 0 (root n) with h | h
    · omega
    · have : root n = 0 := by omega
      rw [this] at r2; omega
  refine loop_count (LSq n H) (fun x => x.toNat) (2 ^ e) ⟨by simp, by simp, hp.2, root_lt hn0.1 b0 b2 (by omega), hp.1, rfl⟩ ?_
  rintro x fr H' ⟨h5, h6, h7, h8, h9, rfl⟩
  obtain ⟨n1, n2, n3⟩ := newton_step h7 h8 hn0.1
  have hx0 : x ≠ 0 := by omega
  have hq : n.tdiv x = n / x := Int.tdiv_eq_ediv_of_nonneg (by omega)
  have hqb : n / x ≤ n := Int.ediv_le_self _ hn0.1
  have wn : IntKind.i64.wrap (n / x) = n / x := wrap64 (by omega) (by omega)
  have ws : IntKind.i64.wrap (x + n / x) = x + n / x := wrap64 (by omega) (by omega)
  have wt2 : (x + n / x).tdiv 2 = (x + n / x) / 2 := Int.tdiv_eq_ediv_of_nonneg (by omega)
  have wy : IntKind.i64.wrap ((x + n / x) / 2) = (x + n / x) / 2 := wrap64 (by omega) (by omega)
  simp [h5, h6]
  refine bind_ifn hx0 ?_
  simp [h5, h6, hq, wn, ws, wt2, wy]
  refine branch (fun hc => ?_) (fun hc => ?_)
  · simp at hc
    have hxr := n2 hc
    obtain ⟨r0, r1, r2⟩ := root_spec hn0.1
    have hxx : x * x ≤ n := by rw [hxr]; exact r1
    have hx1 : 0 ≤ x * x := Int.mul_nonneg (by omega) (by omega)
    have wx : IntKind.i64.wrap (x * x) = x * x := wrap64 (by omega) (by omega)
    have wx1 : IntKind.i64.wrap (x + 1) = x + 1 := wrap64 (by omega) (by omega)
    simp [h5, h6, wx]
    refine branch (fun hd => ?_) (fun hd => ?_)
    · simp at hd
      simp [h6, wx1]
      exact finK (rs := [.tmp 2, .tmp 3, .tmp 4]) (vs := [.int .i64 (root n), .int .i64 (rootU n), .int .i64 0]) (by rfl) (by
        have : rootU n = x + 1 := by unfold rootU; rw [← hxr, if_pos hd]
        simp [resA, this, ← hxr]) rfl
    · simp at hd
      simp [h6]
      exact finK (rs := [.tmp 2, .tmp 3, .tmp 4]) (vs := [.int .i64 (root n), .int .i64 (rootU n), .int .i64 0]) (by rfl) (by
        have : rootU n = x := by unfold rootU; rw [← hxr, if_neg (by omega)]
        simp [resA, this, ← hxr]) rfl
  · simp at hc
    simp
    exact ⟨(x + n / x) / 2, by show ((x + n / x) / 2).toNat < x.toNat; omega, by simp [h5], by simp, by omega, n1, by omega, rfl⟩
theorem iSqrt (p : I) (hp : vB p = true) (h0 : 0 ≤ p.2) (H : AH) : Sound E 87 [iv p] H (.ret (.tuple [iv (sqrt p), .bool true])) H := by
  refine sound_of_awp tabOk mixed Tryd.func87 rfl (by rfl) Tryd.ntmps87 (by kernel_rfl) (by simp) ?_
  simp
  refine call_ret (iIsEntire p _) ?_
  cases h1 : entB p with
  | true =>
    simp
    exact finC (rs := [.cell 2 40, .tmp 3]) (vs := [iv (sqrt p), .bool true]) (vs' := [iv (sqrt p), .bool true]) (by rfl) (by have e : sqrt p = p := (by simp only [sqrt, h1, if_true]); rw [e]; simp [resA]) (by simp; rfl) (by simp [noF, noFs]) rfl
  | false =>
  have hb := entB_false hp h1
  have hlt : ¬ p.2 < 0 := by omega
  have e : sqrt p = mk (root (max p.1 0 * 65536)) (rootU (p.2 * 65536)) := by simp only [sqrt, h1, hlt, if_false]; simp
  rw [e]
  simp [hlt, ite_max]
  refine call_ret (fSqrt (max p.1 0) (by omega) _) ?_
  simp
  refine call_ret (fSqrt p.2 (by omega) _) ?_
  simp
  refine call_ret (iNew _ _ _) ?_
  simp
  exact finC (rs := [.cell 2 40, .tmp 3]) (vs := [iv (mk (root (max p.1 0 * 65536)) (rootU (p.2 * 65536))), .bool true]) (vs' := [iv (mk (root (max p.1 0 * 65536)) (rootU (p.2 * 65536))), .bool true]) (by rfl) (by simp [resA]) (by simp; rfl) (by simp [noF, noFs]) rfl
end Go.Proofs.YtgabeieooemfeaaDoor.Arm

namespace Go.Proofs.YtgabeieooemfeaaDoor.Arm
open Go.Arm Go.Pl

theorem rNumber (x : Int) (H : AH) : Sound E 26 [.int .i64 x] H (.ret (.bool (numB x))) H := by
  refine sound_of_awp tabOk mixed Tryd.func26 rfl (by rfl) Tryd.ntmps26 (by kernel_rfl) (by simp) ?_
  by_cases h1 : -2147483648 < x
  · simp [h1]
    exact fin0 (rs := [.tmp 2]) (by rfl) (by simp [resA, numB, h1])
  · simp [h1]
    exact fin0 (rs := [.tmp 2]) (by rfl) (by simp [resA, numB, h1])
theorem rEntire (H : AH) : Sound E 27 [] H (.ret (iv ent)) H := by
  refine sound_of_awp tabOk mixed Tryd.func27 rfl (by rfl) Tryd.ntmps27 (by kernel_rfl) (by simp) ?_
  simp
  exact fin1 (rs := [.cell 0 40]) (by rfl) (by simp [resA, ent]) (by simp [noF, noFs])
theorem rNew (a b : Int) (H : AH) : Sound E 19 [.int .i64 a, .int .i64 b] H (.ret (iv (mk a b))) H := by
  refine sound_of_awp tabOk mixed Tryd.func19 rfl (by rfl) Tryd.ntmps19 (by kernel_rfl) (by simp) ?_
  simp
  refine call_ret (rNumber _ _) ?_
  cases h1 : numB a with
  | false =>
    simp
    refine call_ret (rEntire _) ?_
    simp
    exact fin1 (rs := [.cell 4 40]) (by rfl) (by simp [resA, mk, h1]) (by simp [noF, noFs])
  | true =>
  simp
  refine call_ret (rNumber _ _) ?_
  cases h2 : numB b with
  | false =>
    simp
    refine call_ret (rEntire _) ?_
    simp
    exact fin1 (rs := [.cell 4 40]) (by rfl) (by simp [resA, mk, h1, h2]) (by simp [noF, noFs])
  | true =>
  simp
  exact fin1 (rs := [.cell 4 40]) (by rfl) (by simp [resA, mk, h1, h2]) (by simp [noF, noFs])
theorem rPoint (x : Int) (H : AH) : Sound E 12 [.int .i64 x] H (.ret (iv (pt x))) H := by
  refine sound_of_awp tabOk mixed Tryd.func12 rfl (by rfl) Tryd.ntmps12 (by kernel_rfl) (by simp) ?_
  simp
  refine call_ret (rNew _ _ _) ?_
  simp
  exact fin1 (rs := [.cell 2 40]) (by rfl) (by simp [resA, pt]) (by simp [noF, noFs])

theorem fl_go {a b : Int} (hb : b ≠ 0) : fl a b = if a.tmod b ≠ 0 ∧ (decide (a < 0) != decide (b < 0)) = true then a.tdiv b - 1 else a.tdiv b := by
  have key : ∀ c : Int, 0 < c → a / c = if a.tmod c < 0 then a.tdiv c - 1 else a.tdiv c := fun c hc => tdiv_floor a hc
  rcases Int.lt_or_gt_of_ne hb with h | h
  · have h1 := tdiv_floor (-a) (b := -b) (by omega)
    obtain ⟨h2, h3⟩ := tmod_bounds (-a) (b := -b) (by omega)
    have e1 : (-a).tdiv (-b) = a.tdiv b := by rw [Int.neg_tdiv_neg]
    have e2 : (-a).tmod (-b) = -(a.tmod b) := by rw [Int.tmod_neg, Int.neg_tmod]
    unfold fl
    rw [if_pos h, h1, e1, e2]
    have h4 : decide (b < 0) = true := by simp [h]
    by_cases ha : a < 0
    · have h5 : decide (a < 0) = true := by simp [ha]
      have := h2 (by omega)
      rw [h4, h5]
      rw [if_neg (by omega), if_neg (by simp)]
    · have h5 : decide (a < 0) = false := by simp [ha]
      rw [h4, h5]
      by_cases ha0 : a = 0
      · subst ha0; simp
      · have := h3 (by omega)
        by_cases hm : a.tmod b = 0
        · rw [if_neg (by omega), if_neg (by simp [hm])]
        · rw [if_pos (by omega), if_pos (by simp [hm])]
  · have h1 := tdiv_floor a h
    obtain ⟨h2, h3⟩ := tmod_bounds a h
    unfold fl
    rw [if_neg (by omega), h1]
    have h4 : decide (b < 0) = false := by simp; omega
    by_cases ha : a < 0
    · have h5 : decide (a < 0) = true := by simp [ha]
      have := h3 ha
      rw [h4, h5]
      by_cases hm : a.tmod b = 0
      · rw [if_neg (by omega), if_neg (by simp [hm])]
      · rw [if_pos (by omega), if_pos (by simp [hm])]
    · have h5 : decide (a < 0) = false := by simp [ha]
      have := h2 (by omega)
      rw [h4, h5]
      rw [if_neg (by omega), if_neg (by simp)]

end Go.Proofs.YtgabeieooemfeaaDoor.Arm

namespace Go.Proofs.YtgabeieooemfeaaDoor.Arm
open Go.Arm Go.Pl

theorem fl_bound {a b : Int} {M : Int} (hb : b ≠ 0) (ha : -M ≤ a ∧ a ≤ M) : -M - 1 ≤ fl a b ∧ fl a b ≤ M := by
  rw [fl_go hb]
  have := Int.natAbs_tdiv_le_natAbs a b
  split <;> omega
theorem fl_bound' {a b : Int} {M : Int} (hb : b ≠ 0) (ha : -M ≤ a ∧ a ≤ M) : -M ≤ fl a b ∧ fl a b ≤ M := by
  rcases Int.lt_or_gt_of_ne hb with h | h
  · unfold fl
    rw [if_pos h]
    have h1 := ediv_mono (x := -M) (y := -a) (b := -b) (by omega) (by omega)
    have h2 := ediv_mono (x := -a) (y := M) (b := -b) (by omega) (by omega)
    have h3 : M / (-b) ≤ M := Int.ediv_le_self _ (by omega)
    have h4 : -M ≤ (-M) / (-b) := by
      refine Int.le_ediv_of_mul_le (by omega) ?_
      have : M * 1 ≤ M * (-b) := Int.mul_le_mul_of_nonneg_left (by omega) (by omega)
      rw [Int.neg_mul]; omega
    omega
  · unfold fl
    rw [if_neg (by omega)]
    have h1 := ediv_mono (x := -M) (y := a) (b := b) (by omega) (by omega)
    have h2 := ediv_mono (x := a) (y := M) (b := b) (by omega) (by omega)
    have h3 : M / b ≤ M := Int.ediv_le_self _ (by omega)
    have h4 : -M ≤ (-M) / b := by
      refine Int.le_ediv_of_mul_le (by omega) ?_
      have : M * 1 ≤ M * b := Int.mul_le_mul_of_nonneg_left (by omega) (by omega)
      rw [Int.neg_mul]; omega
    omega
/-- Made intervals. -/
def smallI (p : I) : I := (min (p.1.tmod 16777216) (p.2.tmod 16777216), max (p.1.tmod 16777216) (p.2.tmod 16777216))
def madeI (p : I) : I := if vB p then p else if andA .i64 p.1 31 == 7 then ent else smallI p
theorem tmod_lt24 (x : Int) : -16777216 < x.tmod 16777216 ∧ x.tmod 16777216 < 16777216 := by
  obtain ⟨h1, h2⟩ := tmod_bounds x (b := 16777216) (by omega)
  rcases Int.lt_or_le x 0 with h | h
  · have := h2 h; omega
  · have := h1 h; omega
theorem smallI_bounds (p : I) : -16777216 < (smallI p).1 ∧ (smallI p).1 ≤ (smallI p).2 ∧ (smallI p).2 < 16777216 := by
  have h1 := tmod_lt24 p.1
  have h2 := tmod_lt24 p.2
  unfold smallI
  simp only
  omega
theorem smallI_valid (p : I) : vB (smallI p) = true := by
  have := smallI_bounds p
  exact vB_pair (x := (smallI p).1) (y := (smallI p).2) (by omega) (by omega) (by omega)
theorem madeI_valid (p : I) : vB (madeI p) = true := by
  unfold madeI
  split
  · assumption
  · split
    · decide
    · exact smallI_valid p
def nearI (p : I) (w : Int) : I := (p.1.tmod 1048576, p.1.tmod 1048576 + (p.2.tmod w + w).tmod w)
theorem nearI_bounds (p : I) {w : Int} (hw : 1 ≤ w) : -1048576 < (nearI p w).1 ∧ (nearI p w).1 ≤ (nearI p w).2 ∧ (nearI p w).2 < 1048576 + w ∧ (w = 1 → (nearI p w).1 = (nearI p w).2) := by
  obtain ⟨h1, h2⟩ := tmod_bounds p.1 (b := 1048576) (by omega)
  obtain ⟨h3, h4⟩ := tmod_bounds p.2 (b := w) (by omega)
  obtain ⟨h5, h6⟩ := tmod_bounds (p.2.tmod w + w) (b := w) (by omega)
  have h7 : 0 ≤ p.2.tmod w + w := by
    rcases Int.lt_or_le p.2 0 with h | h
    · have := h4 h; omega
    · have := h3 h; omega
  have := h5 h7
  unfold nearI
  simp only
  rcases Int.lt_or_le p.1 0 with h | h
  · have := h2 h; omega
  · have := h1 h; omega
end Go.Proofs.YtgabeieooemfeaaDoor.Arm

namespace Go.Proofs.YtgabeieooemfeaaDoor.Arm
open Go.Arm Go.Pl

/-- The least and the greatest of the first so many. -/
def loT (l : List Int) (z : Int) (i : Nat) : Int := (l.take i).foldl min z
def hiT (l : List Int) (z : Int) (i : Nat) : Int := (l.take i).foldl max z
theorem loT_succ {l : List Int} {z x : Int} {i : Nat} (h : l[i]? = some x) : loT l z (i + 1) = min (loT l z i) x := by
  unfold loT; rw [List.take_add_one, h, List.foldl_append]; rfl
theorem hiT_succ {l : List Int} {z x : Int} {i : Nat} (h : l[i]? = some x) : hiT l z (i + 1) = max (hiT l z i) x := by
  unfold hiT; rw [List.take_add_one, h, List.foldl_append]; rfl

def LMul (l : List Int) (z : Int) (H : AH) (J : AH) (i : Nat) (fr : AFr) (H' : AH) : Prop :=
  fr 4 = .ptr (H.length + 2) 1 0 0 ∧ fr 5 = .slice (l.map (.int .i64)) true ∧ fr 6 = .int .i64 (loT l z i) ∧ fr 7 = .int .i64 (hiT l z i) ∧ fr 8 = .int .i64 i ∧ 1 ≤ i ∧ i ≤ l.length ∧ H' = H ++ J
def LRt (n : Int) (H : AH) (k : Nat) (fr : AFr) (H' : AH) : Prop :=
  ∃ r : Int, fr 0 = .int .i64 n ∧ fr 3 = .int .i64 r ∧ fr 4 = .int .i64 (2 ^ k / 2) ∧ k ≤ 31 ∧ 0 ≤ r ∧ r + 2 ^ k ≤ 2147483648 ∧ r * r ≤ n ∧ n < (r + 2 ^ k) * (r + 2 ^ k) ∧ H' = H
end Go.Proofs.YtgabeieooemfeaaDoor.Arm

namespace Go.Proofs.YtgabeieooemfeaaDoor.Arm
open Go.Arm Go.Pl

def LDv (p q : I) (fs cs : List Int) (z y : Int) (H J : AH) (i s : Nat) (fr : AFr) (H' : AH) : Prop :=
  fr 4 = .ptr (H.length + 2) 1 0 0 ∧ fr 5 = .slice [.int .i64 p.1, .int .i64 p.2] true ∧ fr 6 = .slice [.int .i64 q.1, .int .i64 q.2] true ∧ fr 7 = .int .i64 (loT fs z s) ∧ fr 8 = .int .i64 (hiT cs y s) ∧ fr 9 = .int .i64 i ∧ H' = H ++ J
end Go.Proofs.YtgabeieooemfeaaDoor.Arm

/- Expressions as trees: their nodes in a row, their values, simplification, derivatives. -/
namespace Go.Pl

structure Nd where
  op : Int
  n : Int
  c : I
  deriving DecidableEq

inductive U where
  | neg | sqr | sqrt
  deriving DecidableEq
inductive B where
  | add | sub | mul | div
  deriving DecidableEq
def U.code : U → Int
  | .neg => 4
  | .sqr => 5
  | .sqrt => 6
def B.code : B → Int
  | .add => 7
  | .sub => 8
  | .mul => 9
  | .div => 10

inductive Ex where
  | num (c : I)
  | var (i : Nat)
  | time
  | un (o : U) (a : Ex)
  | bin (o : B) (a b : Ex)
  deriving DecidableEq

def leafN (op n : Int) : Nd := ⟨op, n, (0, 0)⟩
def root0 : Ex → Nd
  | .num c => ⟨1, 0, c⟩
  | .var i => leafN 2 i
  | .time => leafN 3 0
  | .un o _ => leafN o.code 0
  | .bin o _ _ => leafN o.code 0
def ser : Ex → List Nd
  | .num c => [⟨1, 0, c⟩]
  | .var i => [leafN 2 i]
  | .time => [leafN 3 0]
  | .un o a => leafN o.code 0 :: ser a
  | .bin o a b => leafN o.code 0 :: (ser a ++ ser b)
def kids : Ex → List Ex
  | .num _ | .var _ | .time => []
  | .un _ a => [a]
  | .bin _ a b => [a, b]
def sz (e : Ex) : Nat := (ser e).length
def serL (l : List Ex) : List Nd := l.flatMap ser
theorem ser_eq (e : Ex) : ser e = root0 e :: serL (kids e) := by cases e <;> simp [ser, root0, serL, kids]
theorem sz_pos (e : Ex) : 0 < sz e := by rw [sz, ser_eq]; simp
theorem sz_un (o : U) (a : Ex) : sz (.un o a) = sz a + 1 := by simp [sz, ser]
theorem sz_bin (o : B) (a b : Ex) : sz (.bin o a b) = sz a + sz b + 1 := by simp [sz, ser]
theorem sz_num (c : I) : sz (.num c) = 1 := rfl
theorem sz_var (i : Nat) : sz (.var i) = 1 := rfl
theorem sz_time : sz .time = 1 := rfl
/-- The number of operands of an operation. -/
def arity (op : Int) : Int := if 1 ≤ op ∧ op ≤ 3 then 0 else if 4 ≤ op ∧ op ≤ 6 then 1 else if 7 ≤ op ∧ op ≤ 10 then 2 else -1
theorem arity_root (e : Ex) : arity (root0 e).op = (kids e).length := by
  cases e with
  | un o a => cases o <;> rfl
  | bin o a b => cases o <;> rfl
  | _ => rfl

/-! ### Values -/
def unV : U → I → I
  | .neg, v => neg v
  | .sqr, v => sq v
  | .sqrt, v => if v.1 < 0 then ent else sqrt v
def binV : B → I → I → I
  | .add => add
  | .sub => sub
  | .mul => mul
  | .div => div
def ev (x : List I) (t : I) : Ex → I
  | .num c => c
  | .var i => (x[i]?).getD (0, 0)
  | .time => t
  | .un o a => unV o (ev x t a)
  | .bin o a b => binV o (ev x t a) (ev x t b)
def wf (n : Nat) : Ex → Bool
  | .num c => vB c
  | .var i => decide (i < n)
  | .time => true
  | .un _ a => wf n a
  | .bin _ a b => wf n a && wf n b
theorem unV_valid {o : U} {v : I} (h : vB v = true) : vB (unV o v) = true := by
  cases o with
  | neg => exact neg_valid h
  | sqr => exact sq_valid h
  | sqrt =>
    simp only [unV]
    split
    · decide
    · exact sqrt_valid h
theorem binV_valid {o : B} {v w : I} (h : vB v = true) (k : vB w = true) : vB (binV o v w) = true := by
  cases o with
  | add => exact add_valid h k
  | sub => exact sub_valid h k
  | mul => exact mul_valid
  | div => exact div_valid k
theorem ev_valid {x : List I} {t : I} (hx : ∀ a ∈ x, vB a = true) (ht : vB t = true) : ∀ (e : Ex), wf x.length e = true → vB (ev x t e) = true
  | .num c, h => h
  | .var i, h => by
    simp only [wf, decide_eq_true_eq] at h
    simp only [ev]
    rw [List.getElem?_eq_getElem h]
    exact hx _ (List.getElem_mem h)
  | .time, _ => ht
  | .un o a, h => unV_valid (ev_valid hx ht a h)
  | .bin o a b, h => by
    simp only [wf, Bool.and_eq_true] at h
    exact binV_valid (ev_valid hx ht a h.1) (ev_valid hx ht b h.2)

/-! ### Simplification -/
def number (n : Int) : Ex := .num (pt (n * 65536))
def isK (e : Ex) (x : Int) : Bool := match e with
  | .num c => c.1 == x && c.2 == x
  | _ => false
def isPt : Ex → Option Int
  | .num c => if c.1 = c.2 then some c.1 else none
  | _ => none
def smpNeg (a : Ex) : Ex :=
  match isPt a with
  | some c => .num (pt (-c))
  | none => match a with
    | .un .neg b => b
    | _ => .un .neg a
/-- An operation on two point constants, where its result is one. -/
def foldC (f : I → I → I) (a b : Ex) : Option Ex :=
  match a, b with
  | .num c, .num d => if c.1 = c.2 ∧ d.1 = d.2 ∧ (f c d).1 = (f c d).2 then some (.num (f c d)) else none
  | _, _ => none
def smpAdd (a b : Ex) : Ex :=
  if isK a 0 then b else if isK b 0 then a else (foldC add a b).getD (.bin .add a b)
def smpSub (a b : Ex) : Ex :=
  if isK b 0 then a else if isK a 0 then smpNeg b else (foldC sub a b).getD (.bin .sub a b)
def smpMul (a b : Ex) : Ex :=
  if isK a 0 || isK b 0 then number 0 else if isK a 65536 then b else if isK b 65536 then a else (foldC mul a b).getD (.bin .mul a b)
def smpU : U → Ex → Ex
  | .neg, a => smpNeg a
  | .sqr, a => if isK a 0 || isK a 65536 then a else .un .sqr a
  | .sqrt, a => if isK a 0 || isK a 65536 then a else .un .sqrt a
def smpB : B → Ex → Ex → Ex
  | .add, a, b => smpAdd a b
  | .sub, a, b => smpSub a b
  | .mul, a, b => smpMul a b
  | .div, a, b => if isK a 0 || isK b 65536 then a else .bin .div a b
def smp : Ex → Ex
  | .un o a => smpU o (smp a)
  | .bin o a b => smpB o (smp a) (smp b)
  | e => e

/-! ### Derivatives -/
inductive Vr where
  | st (i : Int)
  | tm
  deriving DecidableEq
def isV : Vr → Ex → Bool
  | .st i, .var k => (k : Int) == i
  | .tm, .time => true
  | _, _ => false
def dif (v : Vr) : Ex → Ex
  | .un .neg a => .un .neg (dif v a)
  | .un .sqr a => .bin .mul (.bin .mul (number 2) a) (dif v a)
  | .un .sqrt a => .bin .div (dif v a) (.bin .mul (number 2) (.un .sqrt a))
  | .bin .add a b => .bin .add (dif v a) (dif v b)
  | .bin .sub a b => .bin .sub (dif v a) (dif v b)
  | .bin .mul a b => .bin .add (.bin .mul (dif v a) b) (.bin .mul a (dif v b))
  | .bin .div a b => .bin .div (.bin .sub (.bin .mul (dif v a) b) (.bin .mul a (dif v b))) (.un .sqr b)
  | e => if isV v e then number 1 else number 0
def der (v : Vr) (e : Ex) : Ex := smp (dif v e)

/-! ### Lengths -/
theorem number_sz (n : Int) : sz (number n) = 1 := rfl
theorem isK_num {e : Ex} {x : Int} (h : isK e x = true) : e = .num (x, x) := by
  cases e <;> simp [isK] at h
  rename_i c
  obtain ⟨a, b⟩ := c
  simp only at h; rw [h.1, h.2]
theorem smpNeg_sz (a : Ex) : sz (smpNeg a) ≤ sz a + 1 := by
  unfold smpNeg
  split
  · rw [sz_num]; omega
  · split
    · rw [sz_un]; omega
    · rw [sz_un]; omega
theorem foldC_sz {f : I → I → I} {a b : Ex} {o : B} : sz ((foldC f a b).getD (.bin o a b)) ≤ sz a + sz b + 1 := by
  unfold foldC
  split
  · split
    · simp only [Option.getD_some, sz_num]; omega
    · simp only [Option.getD_none, sz_bin]; omega
  · simp only [Option.getD_none, sz_bin]; omega
theorem smpU_sz (o : U) (a : Ex) : sz (smpU o a) ≤ sz a + 1 := by
  cases o with
  | neg => exact smpNeg_sz a
  | sqr => simp only [smpU]; split <;> (try rw [sz_un]) <;> omega
  | sqrt => simp only [smpU]; split <;> (try rw [sz_un]) <;> omega
theorem smpB_sz (o : B) (a b : Ex) : sz (smpB o a b) ≤ sz a + sz b + 1 := by
  cases o with
  | add =>
    simp only [smpB, smpAdd]
    split
    · omega
    · split
      · omega
      · exact foldC_sz
  | sub =>
    simp only [smpB, smpSub]
    split
    · omega
    · split
      · have := smpNeg_sz b; omega
      · exact foldC_sz
  | mul =>
    simp only [smpB, smpMul]
    split
    · rw [number_sz]; omega
    · split
      · omega
      · split
        · omega
        · exact foldC_sz
  | div => simp only [smpB]; split <;> (try rw [sz_bin]) <;> omega
theorem smp_sz : ∀ e : Ex, sz (smp e) ≤ sz e
  | .num _ | .var _ | .time => Nat.le_refl _
  | .un o a => by
    have h1 := smp_sz a
    have h2 := smpU_sz o (smp a)
    rw [sz_un]; simp only [smp]; omega
  | .bin o a b => by
    have h1 := smp_sz a
    have h2 := smp_sz b
    have h3 := smpB_sz o (smp a) (smp b)
    rw [sz_bin]; simp only [smp]; omega

/-! ### Well-formedness is kept -/
theorem number_wf (n m : Int) (k : Nat) (h : number n = number m) : wf k (number m) = wf k (number n) := by rw [h]
theorem pt_valid (x : Int) : vB (pt x) = true := mk_valid (Int.le_refl _)
theorem number_wf' (n : Int) (k : Nat) : wf k (number n) = true := pt_valid _
theorem smpNeg_wf {k : Nat} {a : Ex} (h : wf k a = true) : wf k (smpNeg a) = true := by
  unfold smpNeg
  split
  · exact pt_valid _
  · split
    · exact h
    · exact h
theorem foldC_wf {k : Nat} {o : B} {a b : Ex} (ha : wf k a = true) (hb : wf k b = true) : wf k ((foldC (binV o) a b).getD (.bin o a b)) = true := by
  unfold foldC
  split
  · split
    · simp only [Option.getD_some, wf] at ha hb ⊢; exact binV_valid ha hb
    · simp only [Option.getD_none, wf, Bool.and_eq_true] at ha hb ⊢; exact ⟨ha, hb⟩
  · simp only [Option.getD_none, wf, Bool.and_eq_true]; exact ⟨ha, hb⟩
theorem smpU_wf {k : Nat} {o : U} {a : Ex} (h : wf k a = true) : wf k (smpU o a) = true := by
  cases o with
  | neg => exact smpNeg_wf h
  | sqr => simp only [smpU]; split <;> exact h
  | sqrt => simp only [smpU]; split <;> exact h
theorem smpB_wf {k : Nat} {o : B} {a b : Ex} (ha : wf k a = true) (hb : wf k b = true) : wf k (smpB o a b) = true := by
  cases o with
  | add =>
    simp only [smpB, smpAdd]
    split
    · exact hb
    · split
      · exact ha
      · exact foldC_wf (o := .add) ha hb
  | sub =>
    simp only [smpB, smpSub]
    split
    · exact ha
    · split
      · exact smpNeg_wf hb
      · exact foldC_wf (o := .sub) ha hb
  | mul =>
    simp only [smpB, smpMul]
    split
    · exact number_wf' _ _
    · split
      · exact hb
      · split
        · exact ha
        · exact foldC_wf (o := .mul) ha hb
  | div =>
    simp only [smpB]
    split
    · exact ha
    · simp only [wf, Bool.and_eq_true]; exact ⟨ha, hb⟩
theorem smp_wf {k : Nat} : ∀ e : Ex, wf k e = true → wf k (smp e) = true
  | .num _, h | .var _, h | .time, h => h
  | .un o a, h => smpU_wf (smp_wf a h)
  | .bin o a b, h => by
    simp only [wf, Bool.and_eq_true] at h
    exact smpB_wf (smp_wf a h.1) (smp_wf b h.2)
theorem dif_wf {k : Nat} (v : Vr) : ∀ e : Ex, wf k e = true → wf k (dif v e) = true
  | .num _, h | .var _, h | .time, h => by unfold dif; split <;> exact number_wf' _ _
  | .un o a, h => by
    have := dif_wf v a h
    have h2 := number_wf' 2 k
    simp only [wf] at h
    cases o <;> simp [dif, wf, h, this, h2]
  | .bin o a b, h => by
    simp only [wf, Bool.and_eq_true] at h
    have h1 := dif_wf v a h.1
    have h2 := dif_wf v b h.2
    cases o <;> simp [dif, wf, h, h1, h2]
theorem der_wf {k : Nat} {v : Vr} {e : Ex} (h : wf k e = true) : wf k (der v e) = true := smp_wf _ (dif_wf v e h)

end Go.Pl

/- Expressions made out of raw nodes. -/
namespace Go.Pl

/-- x & m for a mask of low bits. -/
def low (x m : Int) : Int := x % (m + 1)
def bOp (x : Nd) : Int := 1 + low x.op 255 % 10
def nearI' (p : I) (w : Int) : I := (p.1.tmod 1048576, p.1.tmod 1048576 + (p.2.tmod w + w).tmod w)
def bNum (x : Nd) : Ex := .num (nearI' x.c (1 + low x.n 255 * low x.n 1))
def uOf (o : Int) : U := if o = 4 then .neg else if o = 5 then .sqr else .sqrt
def bOf (o : Int) : B := if o = 7 then .add else if o = 8 then .sub else if o = 9 then .mul else .div
/-- What the reference's builder makes at a depth, and the nodes that are left. -/
def bld (n : Nat) : Nat → List Nd → Ex × List Nd
  | _, [] => (number 1, [])
  | 0, x :: r => if bOp x = 2 then (.var (low x.n 255 % n).toNat, r) else if bOp x = 3 then (.time, r) else (bNum x, r)
  | d + 1, x :: r =>
    if bOp x = 1 then (bNum x, r)
    else if bOp x = 2 then (.var (low x.n 255 % n).toNat, r)
    else if bOp x = 3 then (.time, r)
    else if bOp x ≤ 6 then (.un (uOf (bOp x)) (bld n d r).1, (bld n d r).2)
    else (.bin (bOf (bOp x)) (bld n d r).1 (bld n d (bld n d r).2).1, (bld n d (bld n d r).2).2)
def mde (n : Nat) (raw : List Nd) (most : Nat) : Ex := (bld n 4 (raw.take most)).1

/-- The nodes of an expression for n state variables. -/
theorem ser_nodes {n : Nat} : ∀ {e : Ex}, wf n e = true → ∀ x ∈ ser e, (∃ c, x = ⟨1, 0, c⟩ ∧ vB c = true) ∨ (∃ k : Nat, k < n ∧ x = leafN 2 k) ∨ (∃ o : Int, x = leafN o 0 ∧ 3 ≤ o ∧ o ≤ 10)
  | .num c, h, x, hx => by simp [ser] at hx; exact .inl ⟨c, hx, h⟩
  | .var i, h, x, hx => by simp [ser] at hx; simp only [wf, decide_eq_true_eq] at h; exact .inr (.inl ⟨i, h, hx⟩)
  | .time, h, x, hx => by simp [ser] at hx; exact .inr (.inr ⟨3, hx, by decide, by decide⟩)
  | .un o a, h, x, hx => by
    simp only [ser, List.mem_cons] at hx
    rcases hx with rfl | hx
    · exact .inr (.inr ⟨o.code, rfl, by cases o <;> decide, by cases o <;> decide⟩)
    · exact ser_nodes (e := a) h x hx
  | .bin o a b, h, x, hx => by
    simp only [wf, Bool.and_eq_true] at h
    simp only [ser, List.mem_cons, List.mem_append] at hx
    rcases hx with rfl | hx | hx
    · exact .inr (.inr ⟨o.code, rfl, by cases o <;> decide, by cases o <;> decide⟩)
    · exact ser_nodes h.1 x hx
    · exact ser_nodes h.2 x hx

/-! ### What the builder makes is well-formed, at most 2^depth - 1 nodes -/
theorem low_bounds (x : Int) {m : Int} (h : 0 ≤ m) : 0 ≤ low x m ∧ low x m ≤ m := by
  unfold low
  have h1 := Int.emod_nonneg x (b := m + 1) (by omega)
  have h2 := Int.emod_lt_of_pos x (b := m + 1) (by omega)
  omega
theorem bOp_bounds (x : Nd) : 1 ≤ bOp x ∧ bOp x ≤ 10 := by unfold bOp; omega
theorem low_var (x : Int) {n : Nat} (h : 0 < n) : 0 ≤ low x 255 % n ∧ low x 255 % n < n := ⟨Int.emod_nonneg _ (by omega), Int.emod_lt_of_pos _ (by omega)⟩
theorem near_valid (p : I) {w : Int} (hw : 1 ≤ w ∧ w ≤ 1000000) : vB (nearI' p w) = true := by
  have h1 : -1048576 < p.1.tmod 1048576 ∧ p.1.tmod 1048576 < 1048576 := by
    obtain ⟨h1, h2⟩ := tmod_bounds p.1 (b := 1048576) (by decide)
    by_cases h : 0 ≤ p.1
    · have := h1 h; omega
    · have := h2 (by omega); omega
  have h2 : 0 ≤ (p.2.tmod w + w).tmod w ∧ (p.2.tmod w + w).tmod w < w := by
    have h3 : -w < p.2.tmod w := by
      obtain ⟨h1, h2⟩ := tmod_bounds p.2 (b := w) (by omega)
      by_cases h : 0 ≤ p.2
      · have := h1 h; omega
      · have := h2 (by omega); omega
    exact ⟨Int.tmod_nonneg _ (by omega), Int.tmod_lt_of_pos _ (by omega)⟩
  unfold vB nearI'
  rw [Bool.or_eq_true, Bool.and_eq_true, Bool.and_eq_true, numB_iff, numB_iff, decide_eq_true_iff]
  right; dsimp only; omega
theorem bW (x : Nd) : 1 ≤ 1 + low x.n 255 * low x.n 1 ∧ 1 + low x.n 255 * low x.n 1 ≤ 1000000 := by
  obtain ⟨a1, a2⟩ := low_bounds x.n (m := 255) (by decide)
  obtain ⟨b1, b2⟩ := low_bounds x.n (m := 1) (by decide)
  have h1 := Int.mul_nonneg a1 b1
  have h2 := Int.mul_le_mul a2 b2 b1 (by decide)
  omega
theorem bNum_wf (x : Nd) (n : Nat) : wf n (bNum x) = true := near_valid _ (bW x)
theorem bld_wf {n : Nat} (hn : 0 < n) : ∀ (d : Nat) (l : List Nd), wf n (bld n d l).1 = true
  | 0, [] => number_wf' 1 n
  | d + 1, [] => number_wf' 1 n
  | 0, x :: r => by
    simp only [bld]
    split
    · have := low_var x.n hn; simp only [wf, decide_eq_true_eq]; omega
    · split
      · rfl
      · exact bNum_wf x n
  | d + 1, x :: r => by
    simp only [bld]
    split
    · exact bNum_wf x n
    · split
      · have := low_var x.n hn; simp only [wf, decide_eq_true_eq]; omega
      · split
        · rfl
        · split
          · exact bld_wf hn d r
          · simp only [wf, Bool.and_eq_true]; exact ⟨bld_wf hn d r, bld_wf hn d _⟩
theorem bld_sz (n : Nat) : ∀ (d : Nat) (l : List Nd), sz (bld n d l).1 ≤ 2 ^ (d + 1) - 1
  | 0, [] => by simp [bld, number, sz_num]
  | d + 1, [] => by simp only [bld, number, sz_num]; have := Nat.one_lt_two_pow_iff.2 (show d + 1 + 1 ≠ 0 by omega); omega
  | 0, x :: r => by
    simp only [bld]
    split
    · simp [sz_var]
    · split
      · simp [sz_time]
      · simp [bNum, sz_num]
  | d + 1, x :: r => by
    have h1 := bld_sz n d r
    have h2 := bld_sz n d (bld n d r).2
    have h3 : 2 ^ (d + 1 + 1) = 2 * 2 ^ (d + 1) := by rw [Nat.pow_succ]; omega
    have h4 := Nat.one_lt_two_pow_iff.2 (show d + 1 ≠ 0 by omega)
    simp only [bld]
    split
    · simp only [bNum, sz_num]; omega
    · split
      · simp only [sz_var]; omega
      · split
        · simp only [sz_time]; omega
        · split
          · simp only [sz_un]; omega
          · simp only [sz_bin]; omega
theorem mde_wf {n : Nat} (hn : 0 < n) (raw : List Nd) (most : Nat) : wf n (mde n raw most) = true := bld_wf hn 4 _
theorem mde_sz (n : Nat) (raw : List Nd) (most : Nat) : sz (mde n raw most) ≤ 31 := bld_sz n 4 _
/-- Each raw node is used once; each missing one counts as a leaf. -/
theorem bld_len (n : Nat) : ∀ (d : Nat) (l : List Nd), (bld n d l).2.length ≤ l.length ∧ sz (bld n d l).1 ≤ 2 * (l.length - (bld n d l).2.length) + 1
  | 0, [] => by simp [bld, number, sz_num]
  | d + 1, [] => by simp [bld, number, sz_num]
  | 0, x :: r => by
    simp only [bld]
    split
    · simp [sz_var]
    · split
      · simp [sz_time]
      · simp [bNum, sz_num]
  | d + 1, x :: r => by
    have h1 := bld_len n d r
    have h2 := bld_len n d (bld n d r).2
    simp only [bld]
    split
    · simp [bNum, sz_num]
    · split
      · simp [sz_var]
      · split
        · simp [sz_time]
        · split
          · simp only [sz_un, List.length_cons]; omega
          · simp only [sz_bin, List.length_cons]; omega
end Go.Pl

/- Rational values in intervals: every operation encloses the exact one. -/
namespace Go.Pl

/-- The value r lies in a (one unit of a is 1/65536). -/
def InI (a : I) (r : Rat) : Prop := a = ent ∨ ((a.1 : Rat) ≤ r * 65536 ∧ r * 65536 ≤ (a.2 : Rat))

theorem inI_ent (r : Rat) : InI ent r := .inl rfl
theorem in_mk {lo hi : Int} {r : Rat} (h1 : (lo : Rat) ≤ r * 65536) (h2 : r * 65536 ≤ (hi : Rat)) : InI (mk lo hi) r := by
  unfold mk
  split
  · exact .inr ⟨h1, h2⟩
  · exact .inl rfl
theorem not_ent2 {a b : I} (h : ¬ (entB a || entB b) = true) : a ≠ ent ∧ b ≠ ent := by
  simp only [Bool.or_eq_true, entB_iff, not_or] at h
  exact h
theorem in_add {a b : I} {x y : Rat} (ha : InI a x) (hb : InI b y) : InI (add a b) (x + y) := by
  unfold add
  split
  · exact .inl rfl
  · rename_i h
    obtain ⟨h1, h2⟩ := not_ent2 h
    obtain ⟨a1, a2⟩ := ha.resolve_left h1
    obtain ⟨b1, b2⟩ := hb.resolve_left h2
    refine in_mk ?_ ?_
    · rw [Rat.intCast_add]; grind
    · rw [Rat.intCast_add]; grind
theorem neg_ent : neg ent = ent := rfl
theorem in_neg {a : I} {x : Rat} (ha : InI a x) : InI (neg a) (-x) := by
  rcases ha with rfl | ⟨h1, h2⟩
  · exact .inl rfl
  · refine .inr ⟨?_, ?_⟩
    · simp only [neg, Rat.intCast_neg]; grind
    · simp only [neg, Rat.intCast_neg]; grind
theorem in_sub {a b : I} {x y : Rat} (ha : InI a x) (hb : InI b y) : InI (sub a b) (x - y) := by
  rw [Rat.sub_eq_add_neg]; exact in_add ha (in_neg hb)

/-! ### Corners -/
theorem rmulL {a b c : Rat} (h : 0 ≤ c) (k : a ≤ b) : c * a ≤ c * b := Rat.mul_le_mul_of_nonneg_left k h
theorem rmulL' {a b c : Rat} (h : c ≤ 0) (k : a ≤ b) : c * b ≤ c * a := by
  have := Rat.mul_le_mul_of_nonneg_left k (c := -c) (by grind)
  grind
theorem corner_hi {a1 a2 b1 b2 X Y : Rat} (h1 : a1 ≤ X) (h2 : X ≤ a2) (h3 : b1 ≤ Y) (h4 : Y ≤ b2) : X * Y ≤ a1 * b1 ∨ X * Y ≤ a1 * b2 ∨ X * Y ≤ a2 * b1 ∨ X * Y ≤ a2 * b2 := by
  rcases Rat.le_total (a := 0) (b := Y) with hy | hy
  · have e1 := rmulL hy h2
    rcases Rat.le_total (a := 0) (b := a2) with ha | ha
    · have e2 := rmulL ha h4
      right; right; right; grind
    · have e2 := rmulL' ha h3
      right; right; left; grind
  · have e1 := rmulL' hy h1
    rcases Rat.le_total (a := 0) (b := a1) with ha | ha
    · have e2 := rmulL ha h4
      right; left; grind
    · have e2 := rmulL' ha h3
      left; grind
theorem corner_lo {a1 a2 b1 b2 X Y : Rat} (h1 : a1 ≤ X) (h2 : X ≤ a2) (h3 : b1 ≤ Y) (h4 : Y ≤ b2) : a1 * b1 ≤ X * Y ∨ a1 * b2 ≤ X * Y ∨ a2 * b1 ≤ X * Y ∨ a2 * b2 ≤ X * Y := by
  have := corner_hi (a1 := -a2) (a2 := -a1) (X := -X) (Y := Y) (b1 := b1) (b2 := b2) (by grind) (by grind) h3 h4
  grind
theorem prod_in {a1 a2 b1 b2 : Int} {X Y : Rat} (h1 : (a1 : Rat) ≤ X) (h2 : X ≤ (a2 : Rat)) (h3 : (b1 : Rat) ≤ Y) (h4 : Y ≤ (b2 : Rat)) :
    ((min4 (a1 * b1) (a1 * b2) (a2 * b1) (a2 * b2) : Int) : Rat) ≤ X * Y ∧ X * Y ≤ ((max4 (a1 * b1) (a1 * b2) (a2 * b1) (a2 * b2) : Int) : Rat) := by
  have key1 : ∀ z : Int, min4 (a1 * b1) (a1 * b2) (a2 * b1) (a2 * b2) ≤ z → (z : Rat) ≤ X * Y → ((min4 (a1 * b1) (a1 * b2) (a2 * b1) (a2 * b2) : Int) : Rat) ≤ X * Y := fun z h k => Rat.le_trans (Rat.intCast_le_intCast.2 h) k
  have key2 : ∀ z : Int, z ≤ max4 (a1 * b1) (a1 * b2) (a2 * b1) (a2 * b2) → X * Y ≤ (z : Rat) → X * Y ≤ ((max4 (a1 * b1) (a1 * b2) (a2 * b1) (a2 * b2) : Int) : Rat) := fun z h k => Rat.le_trans k (Rat.intCast_le_intCast.2 h)
  constructor
  · rcases corner_lo h1 h2 h3 h4 with h | h | h | h
    · exact key1 (a1 * b1) (by simp only [min4]; omega) (by rw [Rat.intCast_mul]; exact h)
    · exact key1 (a1 * b2) (by simp only [min4]; omega) (by rw [Rat.intCast_mul]; exact h)
    · exact key1 (a2 * b1) (by simp only [min4]; omega) (by rw [Rat.intCast_mul]; exact h)
    · exact key1 (a2 * b2) (by simp only [min4]; omega) (by rw [Rat.intCast_mul]; exact h)
  · rcases corner_hi h1 h2 h3 h4 with h | h | h | h
    · exact key2 (a1 * b1) (by simp only [max4]; omega) (by rw [Rat.intCast_mul]; exact h)
    · exact key2 (a1 * b2) (by simp only [max4]; omega) (by rw [Rat.intCast_mul]; exact h)
    · exact key2 (a2 * b1) (by simp only [max4]; omega) (by rw [Rat.intCast_mul]; exact h)
    · exact key2 (a2 * b2) (by simp only [max4]; omega) (by rw [Rat.intCast_mul]; exact h)

/-! ### Quotients -/
theorem rdiv_le {x y b : Rat} (hb : 0 < b) (h : y * b ≤ x) : y ≤ x / b := Rat.not_lt.1 fun k => by
  have := (Rat.div_lt_iff hb).1 k
  exact absurd h (Rat.not_le.2 this)
theorem le_rdiv {x y b : Rat} (hb : 0 < b) (h : x ≤ y * b) : x / b ≤ y := Rat.not_lt.1 fun k => by
  have := (Rat.lt_div_iff hb).1 k
  exact absurd h (Rat.not_le.2 this)
theorem fl_pos_le {x b : Int} (hb : 0 < b) : ((x / b : Int) : Rat) * (b : Rat) ≤ (x : Rat) ∧ (x : Rat) < (((x / b : Int) : Rat) + 1) * (b : Rat) := by
  constructor
  · rw [← Rat.intCast_mul]; exact Rat.intCast_le_intCast.2 (Int.ediv_mul_le x (by omega))
  · have e : (((x / b : Int) : Rat) + 1) * (b : Rat) = (((x / b + 1) * b : Int) : Rat) := by rw [Rat.intCast_mul, Rat.intCast_add]; rfl
    rw [e]; exact Rat.intCast_lt_intCast.2 (Int.lt_ediv_add_one_mul_self x hb)
theorem rneg_div (x b : Rat) : (-x) / (-b) = x / b := by
  by_cases h : b = 0
  · subst h; grind
  · grind
theorem rneg_div' (x b : Rat) : (-x) / b = -(x / b) := by grind
theorem fl_le {x b : Int} (hb : b ≠ 0) : ((fl x b : Int) : Rat) ≤ (x : Rat) / (b : Rat) ∧ (x : Rat) / (b : Rat) < ((fl x b : Int) : Rat) + 1 := by
  have key : ∀ (y c : Int), 0 < c → ((y / c : Int) : Rat) ≤ (y : Rat) / (c : Rat) ∧ (y : Rat) / (c : Rat) < ((y / c : Int) : Rat) + 1 := fun y c hc => by
    obtain ⟨k1, k2⟩ := fl_pos_le (x := y) hc
    have hc' : (0 : Rat) < (c : Rat) := Rat.intCast_pos.2 hc
    exact ⟨rdiv_le hc' k1, (Rat.div_lt_iff hc').2 k2⟩
  unfold fl
  split
  · rename_i h
    have := key (-x) (-b) (by omega)
    rw [Rat.intCast_neg, Rat.intCast_neg, rneg_div] at this
    exact this
  · exact key x b (by omega)
theorem le_ce {x b : Int} (hb : b ≠ 0) : (x : Rat) / (b : Rat) ≤ ((ce x b : Int) : Rat) ∧ ((ce x b : Int) : Rat) - 1 < (x : Rat) / (b : Rat) := by
  obtain ⟨h1, h2⟩ := fl_le (x := -x) hb
  unfold ce
  rw [Rat.intCast_neg, rneg_div'] at h1 h2
  rw [Rat.intCast_neg]
  constructor <;> grind

theorem in_mul {a b : I} {x y : Rat} (ha : InI a x) (hb : InI b y) : InI (mul a b) (x * y) := by
  unfold mul
  split
  · exact .inl rfl
  · rename_i h
    obtain ⟨h1, h2⟩ := not_ent2 h
    obtain ⟨a1, a2⟩ := ha.resolve_left h1
    obtain ⟨b1, b2⟩ := hb.resolve_left h2
    obtain ⟨p1, p2⟩ := prod_in a1 a2 b1 b2
    generalize min4 _ _ _ _ = m at *
    generalize max4 _ _ _ _ = M at *
    obtain ⟨f1, _⟩ := fl_le (x := m) (b := 65536) (by decide)
    obtain ⟨f2, _⟩ := le_ce (x := M) (b := 65536) (by decide)
    have e : ((65536 : Int) : Rat) = 65536 := rfl
    rw [e] at f1 f2
    refine in_mk ?_ ?_
    · grind
    · grind

theorem sq_nonneg (x : Rat) : 0 ≤ x * x := by
  rcases Rat.le_total (a := 0) (b := x) with h | h
  · exact Rat.mul_nonneg h h
  · have := Rat.mul_nonneg (a := -x) (b := -x) (by grind) (by grind)
    grind
theorem in_sq {a : I} {x : Rat} (ha : InI a x) : InI (sq a) (x * x) := by
  unfold sq
  split
  · exact .inl rfl
  · rename_i h
    have h1 : a ≠ ent := fun k => h (entB_iff.2 k)
    obtain ⟨a1, a2⟩ := ha.resolve_left h1
    have p : (((if a.1 ≤ 0 ∧ 0 ≤ a.2 then 0 else min (a.1 * a.1) (a.2 * a.2) : Int)) : Rat) ≤ (x * 65536) * (x * 65536) := by
      split
      · exact sq_nonneg _
      · rename_i hn
        rcases Int.lt_or_le 0 a.1 with hp | hp
        · have hp' : (0 : Rat) ≤ (a.1 : Rat) := Rat.intCast_nonneg.2 (by omega)
          have k1 := rmulL hp' a1
          have k2 := rmulL (Rat.le_trans hp' a1) a1
          refine Rat.le_trans (b := ((a.1 * a.1 : Int) : Rat)) (Rat.intCast_le_intCast.2 (by omega)) ?_
          rw [Rat.intCast_mul]; grind
        · have hp' : (a.2 : Rat) ≤ 0 := Rat.intCast_nonpos.2 (by omega)
          have k1 := rmulL' hp' a2
          have k2 := rmulL' (Rat.le_trans a2 hp') a2
          refine Rat.le_trans (b := ((a.2 * a.2 : Int) : Rat)) (Rat.intCast_le_intCast.2 (by omega)) ?_
          rw [Rat.intCast_mul]; grind
    have q : (x * 65536) * (x * 65536) ≤ ((max (a.1 * a.1) (a.2 * a.2) : Int) : Rat) := by
      have m1 : ((a.1 * a.1 : Int) : Rat) ≤ ((max (a.1 * a.1) (a.2 * a.2) : Int) : Rat) := Rat.intCast_le_intCast.2 (by omega)
      have m2 : ((a.2 * a.2 : Int) : Rat) ≤ ((max (a.1 * a.1) (a.2 * a.2) : Int) : Rat) := Rat.intCast_le_intCast.2 (by omega)
      rw [Rat.intCast_mul] at m1 m2
      rcases Rat.le_total (a := 0) (b := x * 65536) with hx | hx
      · have k1 := rmulL hx a2
        have k2 := rmulL (Rat.le_trans hx a2) a2
        grind
      · have k1 := rmulL' hx a1
        have k2 := rmulL' (Rat.le_trans a1 hx) a1
        grind
    generalize (if a.1 ≤ 0 ∧ 0 ≤ a.2 then 0 else min (a.1 * a.1) (a.2 * a.2) : Int) = m at *
    generalize (max (a.1 * a.1) (a.2 * a.2) : Int) = M at *
    obtain ⟨f1, _⟩ := fl_le (x := m) (b := 65536) (by decide)
    obtain ⟨f2, _⟩ := le_ce (x := M) (b := 65536) (by decide)
    have e : ((65536 : Int) : Rat) = 65536 := rfl
    rw [e] at f1 f2
    exact in_mk (by grind) (by grind)

theorem rinv_anti {b y : Rat} (hb : 0 < b) (h : b ≤ y) : y⁻¹ ≤ b⁻¹ := by
  have hy : 0 < y := by grind
  have e1 := Rat.inv_mul_cancel y (by grind)
  have e2 := Rat.inv_mul_cancel b (by grind)
  have p1 := Rat.inv_pos.2 hy
  have p2 := Rat.inv_pos.2 hb
  have k1 := rmulL (Rat.le_of_lt (Rat.mul_pos p1 p2)) h
  rw [Rat.mul_assoc, e2, Rat.mul_one, Rat.mul_comm y⁻¹, Rat.mul_assoc, e1, Rat.mul_one] at k1
  exact k1
theorem rinv_neg (y : Rat) : (-y)⁻¹ = -(y⁻¹) := by grind
/-- The reciprocals of a definite interval. -/
theorem rinv_in {b1 b2 Y : Rat} (h1 : b1 ≤ Y) (h2 : Y ≤ b2) (h : 0 < b1 ∨ b2 < 0) : b2⁻¹ ≤ Y⁻¹ ∧ Y⁻¹ ≤ b1⁻¹ := by
  rcases h with h | h
  · exact ⟨rinv_anti (by grind) h2, rinv_anti h h1⟩
  · have k1 := rinv_anti (b := -b2) (y := -Y) (by grind) (by grind)
    have k2 := rinv_anti (b := -Y) (y := -b1) (by grind) (by grind)
    rw [rinv_neg, rinv_neg] at k1 k2
    constructor <;> grind
theorem quot_in {a1 a2 b1 b2 : Int} {X Y : Rat} (h1 : (a1 : Rat) ≤ X) (h2 : X ≤ (a2 : Rat)) (h3 : (b1 : Rat) ≤ Y) (h4 : Y ≤ (b2 : Rat)) (h : 0 < b1 ∨ b2 < 0) :
    ((min4 (fl (a1 * 65536) b1) (fl (a1 * 65536) b2) (fl (a2 * 65536) b1) (fl (a2 * 65536) b2) : Int) : Rat) ≤ X * 65536 / Y ∧ X * 65536 / Y ≤ ((max4 (ce (a1 * 65536) b1) (ce (a1 * 65536) b2) (ce (a2 * 65536) b1) (ce (a2 * 65536) b2) : Int) : Rat) := by
  have hb : b1 ≤ b2 := Rat.intCast_le_intCast.1 (Rat.le_trans h3 h4)
  have hh : 0 < (b1 : Rat) ∨ (b2 : Rat) < 0 := by
    rcases h with h | h
    · exact .inl (Rat.intCast_pos.2 h)
    · exact .inr (by have := Rat.intCast_lt_intCast.2 h; exact this)
  obtain ⟨i1, i2⟩ := rinv_in h3 h4 hh
  have n1 : b1 ≠ 0 := by omega
  have n2 : b2 ≠ 0 := by omega
  have e : X * 65536 / Y = (X * 65536) * Y⁻¹ := Rat.div_def _ _
  have x1 : ((a1 * 65536 : Int) : Rat) ≤ X * 65536 := by rw [Rat.intCast_mul]; have e : ((65536 : Int) : Rat) = 65536 := rfl; rw [e]; grind
  have x2 : X * 65536 ≤ ((a2 * 65536 : Int) : Rat) := by rw [Rat.intCast_mul]; have e : ((65536 : Int) : Rat) = 65536 := rfl; rw [e]; grind
  have l1 := (fl_le (x := a1 * 65536) n1).1
  have l2 := (fl_le (x := a1 * 65536) n2).1
  have l3 := (fl_le (x := a2 * 65536) n1).1
  have l4 := (fl_le (x := a2 * 65536) n2).1
  have u1 := (le_ce (x := a1 * 65536) n1).1
  have u2 := (le_ce (x := a1 * 65536) n2).1
  have u3 := (le_ce (x := a2 * 65536) n1).1
  have u4 := (le_ce (x := a2 * 65536) n2).1
  rw [Rat.div_def] at l1 l2 l3 l4 u1 u2 u3 u4
  rw [e]
  have key1 : ∀ z : Int, min4 (fl (a1 * 65536) b1) (fl (a1 * 65536) b2) (fl (a2 * 65536) b1) (fl (a2 * 65536) b2) ≤ z → (z : Rat) ≤ X * 65536 * Y⁻¹ → ((min4 (fl (a1 * 65536) b1) (fl (a1 * 65536) b2) (fl (a2 * 65536) b1) (fl (a2 * 65536) b2) : Int) : Rat) ≤ X * 65536 * Y⁻¹ := fun z h k => Rat.le_trans (Rat.intCast_le_intCast.2 h) k
  have key2 : ∀ z : Int, z ≤ max4 (ce (a1 * 65536) b1) (ce (a1 * 65536) b2) (ce (a2 * 65536) b1) (ce (a2 * 65536) b2) → X * 65536 * Y⁻¹ ≤ (z : Rat) → X * 65536 * Y⁻¹ ≤ ((max4 (ce (a1 * 65536) b1) (ce (a1 * 65536) b2) (ce (a2 * 65536) b1) (ce (a2 * 65536) b2) : Int) : Rat) := fun z h k => Rat.le_trans k (Rat.intCast_le_intCast.2 h)
  constructor
  · rcases corner_lo x1 x2 i1 i2 with k | k | k | k
    · exact key1 _ (by simp only [min4]; omega) (Rat.le_trans l2 k)
    · exact key1 _ (by simp only [min4]; omega) (Rat.le_trans l1 k)
    · exact key1 _ (by simp only [min4]; omega) (Rat.le_trans l4 k)
    · exact key1 _ (by simp only [min4]; omega) (Rat.le_trans l3 k)
  · rcases corner_hi x1 x2 i1 i2 with k | k | k | k
    · exact key2 _ (by simp only [max4]; omega) (Rat.le_trans k u2)
    · exact key2 _ (by simp only [max4]; omega) (Rat.le_trans k u1)
    · exact key2 _ (by simp only [max4]; omega) (Rat.le_trans k u4)
    · exact key2 _ (by simp only [max4]; omega) (Rat.le_trans k u3)
/-- The interval is bounded and does not contain 0. -/
def defn (b : I) : Prop := b ≠ ent ∧ (0 < b.1 ∨ b.2 < 0)
theorem div_undef {a b : I} (h : ¬ defn b) : div a b = ent := by
  unfold div
  rw [if_pos]
  by_cases hb : b = ent
  · simp [entB_iff.2 hb]
  · have : ¬ (0 < b.1 ∨ b.2 < 0) := fun k => h ⟨hb, k⟩
    have h1 : b.1 ≤ 0 ∧ 0 ≤ b.2 := by omega
    simp [h1.1, h1.2]
theorem in_div {a b : I} {x y : Rat} (ha : InI a x) (hb : defn b → InI b y) : InI (div a b) (x / y) := by
  by_cases hd : defn b
  · have hb := hb hd
    unfold div
    split
    · exact .inl rfl
    · rename_i h
      simp only [Bool.or_eq_true, entB_iff, not_or] at h
      obtain ⟨a1, a2⟩ := ha.resolve_left h.1.1
      obtain ⟨b1, b2⟩ := hb.resolve_left h.1.2
      obtain ⟨p1, p2⟩ := quot_in a1 a2 b1 b2 hd.2
      have e : x * 65536 * 65536 / (y * 65536) = x / y * 65536 := by
        have hy : y ≠ 0 := by
          rintro rfl
          have z1 : ((b.1 : Int) : Rat) ≤ 0 := by grind
          have z2 : 0 ≤ ((b.2 : Int) : Rat) := by grind
          have := Rat.intCast_nonpos.1 z1
          have := Rat.intCast_nonneg.1 z2
          have := hd.2
          omega
        grind
      rw [e] at p1 p2
      exact in_mk p1 p2
  · rw [div_undef hd]; exact .inl rfl
end Go.Pl

/- Rational approximations of square roots. -/
namespace Go.Pl

theorem root_mono_lt {n r : Int} (hn : 0 ≤ n) (hr : 0 ≤ r) (h : r * r ≤ n) : r ≤ root n := by
  obtain ⟨g0, g1, g2⟩ := root_spec hn
  rcases Int.lt_or_le (root n) r with k | k
  · have : (root n + 1) * (root n + 1) ≤ r * r := Int.mul_le_mul (by omega) (by omega) (by omega) hr
    omega
  · exact k
theorem rootU_spec {n : Int} (hn : 0 ≤ n) : 0 ≤ rootU n ∧ n ≤ rootU n * rootU n := by
  obtain ⟨g0, g1, g2⟩ := root_spec hn
  unfold rootU
  split
  · exact ⟨by omega, by omega⟩
  · exact ⟨g0, by omega⟩
/-- The grid on which roots are approximated. -/
def grid (k : Nat) : Int := 65536 * (k + 1)
theorem grid_pos (k : Nat) : 0 < grid k := by unfold grid; omega
theorem grid_posR (k : Nat) : (0 : Rat) < (grid k : Rat) := Rat.intCast_pos.2 (grid_pos k)
/-- The root of x rounded down to the grid; 0 for negative x. -/
def rt (k : Nat) (x : Rat) : Rat := (root ((x * (grid k : Rat) * (grid k : Rat)).floor) : Rat) / (grid k : Rat)
theorem rsq_le {a b : Rat} (ha : 0 ≤ a) (hb : 0 ≤ b) (h : a * a ≤ b * b) : a ≤ b := Rat.not_lt.1 fun k => by
  have h1 := Rat.mul_lt_mul_of_pos_left (c := a) k (by grind)
  have h2 := rmulL hb (Rat.le_of_lt k)
  grind
theorem rt_spec (k : Nat) {x : Rat} (hx : 0 ≤ x) : 0 ≤ rt k x ∧ rt k x * rt k x ≤ x ∧ x < (rt k x + 1 / (grid k : Rat)) * (rt k x + 1 / (grid k : Rat)) := by
  have hN := grid_posR k
  have hfx : 0 ≤ (x * (grid k : Rat) * (grid k : Rat)) := Rat.mul_nonneg (Rat.mul_nonneg hx (Rat.le_of_lt hN)) (Rat.le_of_lt hN)
  have hf : 0 ≤ (x * (grid k : Rat) * (grid k : Rat)).floor := Rat.le_floor_iff.2 hfx
  have f1 := Rat.floor_le (x * (grid k : Rat) * (grid k : Rat))
  have f2 := Rat.lt_floor_add_one (x * (grid k : Rat) * (grid k : Rat))
  obtain ⟨g0, g1, g2⟩ := root_spec hf
  unfold rt
  generalize (x * (grid k : Rat) * (grid k : Rat)).floor = n at *
  generalize root n = r at *
  generalize (grid k : Rat) = N at *
  have r0 : (0 : Rat) ≤ (r : Rat) := Rat.intCast_nonneg.2 g0
  have r1 : (r : Rat) * (r : Rat) ≤ (n : Rat) := by rw [← Rat.intCast_mul]; exact Rat.intCast_le_intCast.2 g1
  have r2 : ((n + 1 : Int) : Rat) ≤ ((r : Rat) + 1) * ((r : Rat) + 1) := by
    have : ((n + 1 : Int) : Rat) ≤ (((r + 1) * (r + 1) : Int) : Rat) := Rat.intCast_le_intCast.2 (by omega)
    rw [Rat.intCast_mul, Rat.intCast_add r 1] at this; exact this
  refine ⟨rdiv_le hN (by grind), ?_, ?_⟩
  · have e : (r : Rat) / N * ((r : Rat) / N) = (r : Rat) * (r : Rat) / (N * N) := by grind
    rw [e]
    exact le_rdiv (Rat.mul_pos hN hN) (by grind)
  · have e : ((r : Rat) / N + 1 / N) * ((r : Rat) / N + 1 / N) = ((r : Rat) + 1) * ((r : Rat) + 1) / (N * N) := by grind
    rw [e]
    exact (Rat.lt_div_iff (Rat.mul_pos hN hN)).2 (by grind)
theorem rt_neg (k : Nat) {x : Rat} (hx : x ≤ 0) : rt k x = 0 := by
  have hN := grid_posR k
  have h1 : (x * (grid k : Rat) * (grid k : Rat)) ≤ 0 := by
    have := Rat.mul_nonneg (a := -x * (grid k : Rat)) (b := (grid k : Rat)) (Rat.mul_nonneg (by grind) (Rat.le_of_lt hN)) (Rat.le_of_lt hN)
    grind
  have h2 : (x * (grid k : Rat) * (grid k : Rat)).floor ≤ 0 := by
    have h3 := Rat.floor_le (x * (grid k : Rat) * (grid k : Rat))
    exact Rat.intCast_nonpos.1 (Rat.le_trans h3 h1)
  have h3 : root ((x * (grid k : Rat) * (grid k : Rat)).floor) = 0 := by
    unfold root
    rw [Int.toNat_of_nonpos h2]; rfl
  unfold rt
  rw [h3]
  grind
/-- What the grid's lower root satisfies, in whole numbers. -/
theorem rt_ge (k : Nat) {x : Rat} (hx : 0 ≤ x) {L : Int} (hL : 0 ≤ L) (h : (L : Rat) * (L : Rat) ≤ x * 65536 * 65536) : (L : Rat) ≤ rt k x * 65536 := by
  have hN := grid_posR k
  have hfx : 0 ≤ (x * (grid k : Rat) * (grid k : Rat)) := Rat.mul_nonneg (Rat.mul_nonneg hx (Rat.le_of_lt hN)) (Rat.le_of_lt hN)
  have hf : 0 ≤ (x * (grid k : Rat) * (grid k : Rat)).floor := Rat.le_floor_iff.2 hfx
  have eg : (grid k : Rat) = 65536 * ((k + 1 : Nat) : Rat) := by
    unfold grid
    rw [Rat.intCast_mul]; rfl
  have hk : (0 : Rat) < ((k + 1 : Nat) : Rat) := Rat.natCast_pos.2 (by omega)
  have h1 : L * (k + 1 : Nat) ≤ root ((x * (grid k : Rat) * (grid k : Rat)).floor) := by
    refine root_mono_lt hf (Int.mul_nonneg hL (by omega)) (Rat.le_floor_iff.2 ?_)
    rw [Rat.intCast_mul, Rat.intCast_mul, Rat.intCast_natCast, eg]
    generalize ((k + 1 : Nat) : Rat) = K at *
    have := rmulL (Rat.le_of_lt (Rat.mul_pos hk hk)) h
    grind
  have h2 := Rat.intCast_le_intCast.2 h1
  rw [Rat.intCast_mul, Rat.intCast_natCast] at h2
  unfold rt
  generalize (root ((x * (grid k : Rat) * (grid k : Rat)).floor) : Rat) = R at *
  rw [eg]
  generalize ((k + 1 : Nat) : Rat) = K at *
  have e : R / (65536 * K) * 65536 = R / K := by grind
  rw [e]
  exact rdiv_le hk h2
theorem rt_le (k : Nat) {x : Rat} (hx : 0 ≤ x) {U : Int} (hU : 0 ≤ U) (h : x * 65536 * 65536 ≤ (U : Rat) * (U : Rat)) : rt k x * 65536 ≤ (U : Rat) := by
  obtain ⟨g0, g1, _⟩ := rt_spec k hx
  refine rsq_le (by grind) (Rat.intCast_nonneg.2 hU) ?_
  grind
theorem in_rt (k : Nat) {a : I} {x : Rat} (ha : InI a x) : InI (unV .sqrt a) (rt k x) := by
  simp only [unV]
  split
  · exact .inl rfl
  · rename_i h0
    unfold sqrt
    have hne : a ≠ ent := by rintro rfl; exact h0 (by decide)
    obtain ⟨a1, a2⟩ := ha.resolve_left hne
    have hx : 0 ≤ x := by
      have : (0 : Rat) ≤ (a.1 : Rat) := Rat.intCast_nonneg.2 (by omega)
      grind
    have h2 : 0 ≤ a.2 := by
      have : (0 : Rat) ≤ (a.2 : Rat) := by grind
      exact Rat.intCast_nonneg.1 this
    rw [if_neg (by rw [entB_iff]; exact hne), if_neg (by omega)]
    have hm : max a.1 0 = a.1 := by omega
    rw [hm]
    have e : ((65536 : Int) : Rat) = 65536 := rfl
    refine in_mk ?_ ?_
    · obtain ⟨g0, g1, _⟩ := root_spec (n := a.1 * 65536) (by omega)
      refine rt_ge k hx g0 ?_
      have := Rat.intCast_le_intCast.2 g1
      rw [Rat.intCast_mul, Rat.intCast_mul, e] at this
      grind
    · obtain ⟨g0, g1⟩ := rootU_spec (n := a.2 * 65536) (by omega)
      refine rt_le k hx g0 ?_
      have := Rat.intCast_le_intCast.2 g1
      rw [Rat.intCast_mul, Rat.intCast_mul, e] at this
      grind
theorem rt_one : rt 0 1 = 1 := by
  have e : (1 * (grid 0 : Rat) * (grid 0 : Rat)) = ((4294967296 : Int) : Rat) := by
    have : (grid 0 : Rat) = 65536 := rfl
    rw [this]; decide +kernel
  have h : root ((1 * (grid 0 : Rat) * (grid 0 : Rat)).floor) = 65536 := by
    rw [e, Rat.floor_intCast]; exact root_unique (by decide) (by decide) (by decide)
  unfold rt
  rw [h]
  have : (grid 0 : Rat) = 65536 := rfl
  rw [this]; decide +kernel
theorem rt_zero (k : Nat) : rt k 0 = 0 := rt_neg k Rat.le_refl
end Go.Pl

/- Simplification: smaller values, a normal form. -/
namespace Go.Pl

/-- a is a subset of b. -/
def Sb (a b : I) : Prop := b.1 ≤ a.1 ∧ a.2 ≤ b.2
theorem Sb.refl (a : I) : Sb a a := ⟨Int.le_refl _, Int.le_refl _⟩
theorem Sb.trans {a b c : I} (h : Sb a b) (k : Sb b c) : Sb a c := ⟨Int.le_trans k.1 h.1, Int.le_trans h.2 k.2⟩
theorem Sb.to {a b : I} (h : Sb a b) : subB a b = true := by simp [subB, h.1, h.2]
theorem Sb.ent {a : I} (h : vB a = true) : Sb a ent := by
  have := vB_bounds h
  exact ⟨this.1, this.2.2⟩
theorem Sb.bounded {a b : I} (h : Sb a b) (hb : vB b = true) (hne : b ≠ Pl.ent) : a ≠ Pl.ent := by
  rintro rfl
  have h1 := entB_false hb (by rw [Bool.eq_false_iff, Ne, entB_iff]; exact hne)
  have h2 := h.1
  simp only [Pl.ent] at h2
  omega
theorem vB_mk {lo hi : Int} (h : lo ≤ hi) : vB (mk lo hi) = true := mk_valid h
theorem mk_mono {lo hi lo' hi' : Int} (h1 : lo' ≤ lo) (h : lo ≤ hi) (h2 : hi ≤ hi') : Sb (mk lo hi) (mk lo' hi') := by
  by_cases hb : (numB lo' && numB hi') = true
  · have e : mk lo' hi' = (lo', hi') := by unfold mk; rw [if_pos hb]
    rw [Bool.and_eq_true, numB_iff, numB_iff] at hb
    have e2 : mk lo hi = (lo, hi) := by unfold mk; rw [if_pos (by rw [Bool.and_eq_true, numB_iff, numB_iff]; omega)]
    rw [e, e2]; exact ⟨h1, h2⟩
  · have e : mk lo' hi' = ent := by unfold mk; rw [if_neg hb]
    rw [e]; exact Sb.ent (vB_mk h)
section
variable {a b a' b' : I}
theorem ent2 (h : ¬ (entB a' || entB b') = true) (ha' : vB a' = true) (hb' : vB b' = true) (ha : Sb a a') (hb : Sb b b') : ¬ (entB a || entB b) = true := by
  obtain ⟨h1, h2⟩ := not_ent2 h
  have := ha.bounded ha' h1
  have := hb.bounded hb' h2
  simp [entB_iff, *]
theorem neg_mono (h : Sb a a') : Sb (neg a) (neg a') := ⟨by simp only [neg]; have := h.2; omega, by simp only [neg]; have := h.1; omega⟩
theorem add_mono (va : vB a = true) (vb : vB b = true) (va' : vB a' = true) (vb' : vB b' = true) (ha : Sb a a') (hb : Sb b b') : Sb (add a b) (add a' b') := by
  by_cases h : (entB a' || entB b') = true
  · have e : add a' b' = ent := by unfold add; rw [if_pos h]
    rw [e]; exact Sb.ent (add_valid va vb)
  · have h' := ent2 h va' vb' ha hb
    have e : add a' b' = mk (a'.1 + b'.1) (a'.2 + b'.2) := by unfold add; rw [if_neg h]
    have e2 : add a b = mk (a.1 + b.1) (a.2 + b.2) := by unfold add; rw [if_neg h']
    have h1 := vB_bounds va
    have h2 := vB_bounds vb
    have h3 := ha.1; have h4 := ha.2; have h5 := hb.1; have h6 := hb.2
    rw [e, e2]; exact mk_mono (by omega) (by omega) (by omega)
theorem sub_mono (va : vB a = true) (vb : vB b = true) (va' : vB a' = true) (vb' : vB b' = true) (ha : Sb a a') (hb : Sb b b') : Sb (sub a b) (sub a' b') := add_mono va (neg_valid vb) va' (neg_valid vb') ha (neg_mono hb)
theorem ic {x y : Int} : (x : Rat) ≤ (y : Rat) ↔ x ≤ y := Rat.intCast_le_intCast
/-- The corners of a product lie between those of a greater one. -/
theorem corner_in (ha : Sb a a') (hb : Sb b b') {x y : Int} (hx : x = a.1 ∨ x = a.2) (hy : y = b.1 ∨ y = b.2) (la : a.1 ≤ a.2) (lb : b.1 ≤ b.2) :
    min4 (a'.1 * b'.1) (a'.1 * b'.2) (a'.2 * b'.1) (a'.2 * b'.2) ≤ x * y ∧ x * y ≤ max4 (a'.1 * b'.1) (a'.1 * b'.2) (a'.2 * b'.1) (a'.2 * b'.2) := by
  have h3 := ha.1; have h4 := ha.2; have h5 := hb.1; have h6 := hb.2
  have := prod_in (a1 := a'.1) (a2 := a'.2) (b1 := b'.1) (b2 := b'.2) (X := (x : Rat)) (Y := (y : Rat)) (ic.2 (by omega)) (ic.2 (by omega)) (ic.2 (by omega)) (ic.2 (by omega))
  rw [← Rat.intCast_mul, ic, ic] at this
  exact this
theorem ce_mono {x y b : Int} (hb : 0 < b) (h : x ≤ y) : ce x b ≤ ce y b := (ce_edges x y b b).1 hb h
theorem fl_mono {x y b : Int} (hb : 0 < b) (h : x ≤ y) : fl x b ≤ fl y b := (fl_edges x y b b).1 hb h
theorem fl_le_ce' {x b : Int} (hb : b ≠ 0) : fl x b ≤ ce x b := by
  have h1 := (fl_le (x := x) hb).1
  have h2 := (le_ce (x := x) hb).1
  exact ic.1 (Rat.le_trans h1 h2)
theorem sqle {x y : Int} (h1 : -y ≤ x) (h2 : x ≤ y) : x * x ≤ y * y := by
  have := Int.mul_nonneg (show 0 ≤ y - x by omega) (show 0 ≤ y + x by omega)
  grind
theorem sqle' {x y : Int} (h1 : y ≤ x) (h2 : x ≤ -y) : x * x ≤ y * y := by
  have := sqle (x := x) (y := -y) (by omega) h2
  rwa [Int.neg_mul_neg] at this
theorem sqnn (x : Int) : 0 ≤ x * x := by
  by_cases h : 0 ≤ x
  · exact Int.mul_nonneg h h
  · have := Int.mul_nonneg (show 0 ≤ -x by omega) (show 0 ≤ -x by omega)
    rwa [Int.neg_mul_neg] at this
theorem mul_mono (va : vB a = true) (vb : vB b = true) (va' : vB a' = true) (vb' : vB b' = true) (ha : Sb a a') (hb : Sb b b') : Sb (mul a b) (mul a' b') := by
  by_cases h : (entB a' || entB b') = true
  · have e : mul a' b' = ent := by unfold mul; rw [if_pos h]
    rw [e]; exact Sb.ent mul_valid
  · have h' := ent2 h va' vb' ha hb
    have h1 := vB_bounds va
    have h2 := vB_bounds vb
    have c1 := corner_in ha hb (x := a.1) (y := b.1) (.inl rfl) (.inl rfl) h1.2.1 h2.2.1
    have c2 := corner_in ha hb (x := a.1) (y := b.2) (.inl rfl) (.inr rfl) h1.2.1 h2.2.1
    have c3 := corner_in ha hb (x := a.2) (y := b.1) (.inr rfl) (.inl rfl) h1.2.1 h2.2.1
    have c4 := corner_in ha hb (x := a.2) (y := b.2) (.inr rfl) (.inr rfl) h1.2.1 h2.2.1
    unfold mul
    rw [if_neg h, if_neg h']
    generalize min4 (a'.1 * b'.1) (a'.1 * b'.2) (a'.2 * b'.1) (a'.2 * b'.2) = m at *
    generalize max4 (a'.1 * b'.1) (a'.1 * b'.2) (a'.2 * b'.1) (a'.2 * b'.2) = M at *
    have d1 : m ≤ min4 (a.1 * b.1) (a.1 * b.2) (a.2 * b.1) (a.2 * b.2) := by simp only [min4]; omega
    have d2 : max4 (a.1 * b.1) (a.1 * b.2) (a.2 * b.1) (a.2 * b.2) ≤ M := by simp only [max4]; omega
    have d3 : min4 (a.1 * b.1) (a.1 * b.2) (a.2 * b.1) (a.2 * b.2) ≤ max4 (a.1 * b.1) (a.1 * b.2) (a.2 * b.1) (a.2 * b.2) := by simp only [min4, max4]; omega
    exact mk_mono (fl_mono (by decide) d1) (Int.le_trans (fl_mono (by decide) d3) (fl_le_ce' (by decide))) (ce_mono (by decide) d2)
theorem sq_mono (va : vB a = true) (va' : vB a' = true) (ha : Sb a a') : Sb (sq a) (sq a') := by
  by_cases h : entB a' = true
  · have e : sq a' = ent := by unfold sq; rw [if_pos h]
    rw [e]; exact Sb.ent (sq_valid va)
  · have h' : ¬ entB a = true := by rw [entB_iff]; exact ha.bounded va' (fun k => h (entB_iff.2 k))
    have h1 := vB_bounds va
    have h3 := ha.1; have h4 := ha.2
    unfold sq
    rw [if_neg h, if_neg h']
    have s1 := sqnn a.1
    have s2 := sqnn a.2
    have m1 : a.1 * a.1 ≤ max (a'.1 * a'.1) (a'.2 * a'.2) := by
      by_cases q : 0 ≤ a.1
      · have := sqle (x := a.1) (y := a'.2) (by omega) (by omega)
        omega
      · have := sqle' (x := a.1) (y := a'.1) (by omega) (by omega)
        omega
    have m2 : a.2 * a.2 ≤ max (a'.1 * a'.1) (a'.2 * a'.2) := by
      by_cases q : 0 ≤ a.2
      · have := sqle (x := a.2) (y := a'.2) (by omega) (by omega)
        omega
      · have := sqle' (x := a.2) (y := a'.1) (by omega) (by omega)
        omega
    have n1 : (if a'.1 ≤ 0 ∧ 0 ≤ a'.2 then 0 else min (a'.1 * a'.1) (a'.2 * a'.2)) ≤ (if a.1 ≤ 0 ∧ 0 ≤ a.2 then 0 else min (a.1 * a.1) (a.2 * a.2)) := by
      by_cases hz : a'.1 ≤ 0 ∧ 0 ≤ a'.2
      · rw [if_pos hz]; split <;> omega
      · rw [if_neg hz, if_neg (by omega)]
        by_cases k : 0 < a'.1
        · have e1 := sqle (x := a'.1) (y := a.1) (by omega) (by omega)
          have e2 := sqle (x := a'.1) (y := a.2) (by omega) (by omega)
          omega
        · have e1 := sqle' (x := a'.2) (y := a.1) (by omega) (by omega)
          have e2 := sqle' (x := a'.2) (y := a.2) (by omega) (by omega)
          omega
    have n2 : (if a.1 ≤ 0 ∧ 0 ≤ a.2 then 0 else min (a.1 * a.1) (a.2 * a.2)) ≤ max (a.1 * a.1) (a.2 * a.2) := by split <;> omega
    generalize (if a'.1 ≤ 0 ∧ 0 ≤ a'.2 then 0 else min (a'.1 * a'.1) (a'.2 * a'.2)) = m at *
    generalize (if a.1 ≤ 0 ∧ 0 ≤ a.2 then 0 else min (a.1 * a.1) (a.2 * a.2)) = m' at *
    exact mk_mono (fl_mono (by decide) n1) (Int.le_trans (fl_mono (by decide) n2) (fl_le_ce' (by decide))) (ce_mono (by decide) (by omega))
theorem defn_mono (vb' : vB b' = true) (hb : Sb b b') (h : defn b') (lb : b.1 ≤ b.2) : defn b := by
  have h3 := hb.1; have h4 := hb.2
  refine ⟨hb.bounded vb' h.1, ?_⟩
  rcases h.2 with h | h <;> omega
theorem qcorner_in (ha : Sb a a') (hb : Sb b b') (hd : defn b') {x y : Int} (hx : x = a.1 ∨ x = a.2) (hy : y = b.1 ∨ y = b.2) (la : a.1 ≤ a.2) (lb : b.1 ≤ b.2) :
    min4 (fl (a'.1 * 65536) b'.1) (fl (a'.1 * 65536) b'.2) (fl (a'.2 * 65536) b'.1) (fl (a'.2 * 65536) b'.2) ≤ fl (x * 65536) y ∧ ce (x * 65536) y ≤ max4 (ce (a'.1 * 65536) b'.1) (ce (a'.1 * 65536) b'.2) (ce (a'.2 * 65536) b'.1) (ce (a'.2 * 65536) b'.2) := by
  have h3 := ha.1; have h4 := ha.2; have h5 := hb.1; have h6 := hb.2
  have hy0 : y ≠ 0 := by rcases hd.2 with h | h <;> omega
  obtain ⟨k1, k2⟩ := quot_in (a1 := a'.1) (a2 := a'.2) (b1 := b'.1) (b2 := b'.2) (X := (x : Rat)) (Y := (y : Rat)) (ic.2 (by omega)) (ic.2 (by omega)) (ic.2 (by omega)) (ic.2 (by omega)) hd.2
  have e : (x : Rat) * 65536 = ((x * 65536 : Int) : Rat) := by rw [Rat.intCast_mul]; rfl
  rw [e] at k1 k2
  have f1 := (fl_le (x := x * 65536) hy0).2
  have f2 := (le_ce (x := x * 65536) hy0).2
  generalize ((x * 65536 : Int) : Rat) / (y : Rat) = q at *
  generalize min4 (fl (a'.1 * 65536) b'.1) (fl (a'.1 * 65536) b'.2) (fl (a'.2 * 65536) b'.1) (fl (a'.2 * 65536) b'.2) = m at *
  generalize max4 (ce (a'.1 * 65536) b'.1) (ce (a'.1 * 65536) b'.2) (ce (a'.2 * 65536) b'.1) (ce (a'.2 * 65536) b'.2) = M at *
  have g1 : (m : Rat) < ((fl (x * 65536) y + 1 : Int) : Rat) := by
    rw [Rat.intCast_add (fl (x * 65536) y) 1]; have e : ((1 : Int) : Rat) = 1 := rfl; rw [e]; grind
  have g2 : ((ce (x * 65536) y - 1 : Int) : Rat) < (M : Rat) := by
    rw [Rat.intCast_sub (ce (x * 65536) y) 1]; have e : ((1 : Int) : Rat) = 1 := rfl; rw [e]; grind
  have g1 := Rat.intCast_lt_intCast.1 g1
  have g2 := Rat.intCast_lt_intCast.1 g2
  omega
theorem div_mono (va : vB a = true) (vb : vB b = true) (va' : vB a' = true) (vb' : vB b' = true) (ha : Sb a a') (hb : Sb b b') : Sb (div a b) (div a' b') := by
  by_cases hd : defn b'
  · by_cases hea : a' = ent
    · have e : div a' b' = ent := by unfold div; rw [if_pos (by simp [entB_iff.2 hea])]
      rw [e]; exact Sb.ent (div_valid vb)
    have h1 := vB_bounds va
    have h2 := vB_bounds vb
    have hd2 := defn_mono vb' hb hd h2.2.1
    have hea2 := ha.bounded va' hea
    have z1 : ¬ (entB a' || entB b' || (decide (b'.1 ≤ 0) && decide (0 ≤ b'.2))) = true := by
      have := hd.1
      simp [entB_iff, *]
      rcases hd.2 with h | h <;> omega
    have z2 : ¬ (entB a || entB b || (decide (b.1 ≤ 0) && decide (0 ≤ b.2))) = true := by
      have := hd2.1
      simp [entB_iff, *]
      rcases hd2.2 with h | h <;> omega
    have c1 := qcorner_in ha hb hd (x := a.1) (y := b.1) (.inl rfl) (.inl rfl) h1.2.1 h2.2.1
    have c2 := qcorner_in ha hb hd (x := a.1) (y := b.2) (.inl rfl) (.inr rfl) h1.2.1 h2.2.1
    have c3 := qcorner_in ha hb hd (x := a.2) (y := b.1) (.inr rfl) (.inl rfl) h1.2.1 h2.2.1
    have c4 := qcorner_in ha hb hd (x := a.2) (y := b.2) (.inr rfl) (.inr rfl) h1.2.1 h2.2.1
    have c5 : fl (a.1 * 65536) b.1 ≤ ce (a.1 * 65536) b.1 := fl_le_ce' (by rcases hd2.2 with h | h <;> omega)
    unfold div
    rw [if_neg z1, if_neg z2]
    generalize min4 (fl (a'.1 * 65536) b'.1) (fl (a'.1 * 65536) b'.2) (fl (a'.2 * 65536) b'.1) (fl (a'.2 * 65536) b'.2) = m at *
    generalize max4 (ce (a'.1 * 65536) b'.1) (ce (a'.1 * 65536) b'.2) (ce (a'.2 * 65536) b'.1) (ce (a'.2 * 65536) b'.2) = M at *
    refine mk_mono ?_ ?_ ?_ <;> simp only [min4, max4] <;> omega
  · rw [div_undef hd]; exact Sb.ent (div_valid vb)
theorem root_mn {m n : Int} (hm : 0 ≤ m) (h : m ≤ n) : root m ≤ root n := by
  obtain ⟨g0, g1, g2⟩ := root_spec hm
  exact root_mono_lt (by omega) g0 (by omega)
theorem rootU_mono {m n : Int} (hm : 0 ≤ m) (h : m ≤ n) : rootU m ≤ rootU n := by
  obtain ⟨g0, g1, g2⟩ := root_spec hm
  obtain ⟨h0, h1⟩ := rootU_spec (n := n) (by omega)
  unfold rootU
  split
  · rename_i hlt
    have h3 : root m < rootU n := by
      rcases Int.lt_or_le (root m) (rootU n) with k | k
      · exact k
      · have := Int.mul_le_mul k k h0 g0
        omega
    unfold rootU at h3
    omega
  · have := root_mn hm h
    unfold rootU at h0
    split <;> omega
theorem sqrt_mono (va : vB a = true) (va' : vB a' = true) (ha : Sb a a') : Sb (unV .sqrt a) (unV .sqrt a') := by
  simp only [unV]
  by_cases h0 : a'.1 < 0
  · rw [if_pos h0]; exact Sb.ent (unV_valid (o := .sqrt) va)
  · have h1 := vB_bounds va
    have h3 := ha.1; have h4 := ha.2
    have hne' : ¬ entB a' = true := by rw [entB_iff]; rintro rfl; exact h0 (by decide)
    have hne : ¬ entB a = true := by rw [entB_iff]; exact ha.bounded va' (fun k => hne' (entB_iff.2 k))
    rw [if_neg h0, if_neg (by omega)]
    unfold sqrt
    rw [if_neg hne', if_neg hne, if_neg (by omega), if_neg (by omega)]
    have e1 : max a.1 0 = a.1 := by omega
    have e2 : max a'.1 0 = a'.1 := by omega
    rw [e1, e2]
    refine mk_mono (root_mn (by omega) (by omega)) ?_ (rootU_mono (by omega) (by omega))
    have := root_mn (m := a.1 * 65536) (n := a.2 * 65536) (by omega) (by omega)
    unfold rootU
    split <;> omega
theorem un_mono {o : U} (va : vB a = true) (va' : vB a' = true) (ha : Sb a a') : Sb (unV o a) (unV o a') := by
  cases o with
  | neg => exact neg_mono ha
  | sqr => exact sq_mono va va' ha
  | sqrt => exact sqrt_mono va va' ha
theorem bin_mono {o : B} (va : vB a = true) (vb : vB b = true) (va' : vB a' = true) (vb' : vB b' = true) (ha : Sb a a') (hb : Sb b b') : Sb (binV o a b) (binV o a' b') := by
  cases o with
  | add => exact add_mono va vb va' vb' ha hb
  | sub => exact sub_mono va vb va' vb' ha hb
  | mul => exact mul_mono va vb va' vb' ha hb
  | div => exact div_mono va vb va' vb' ha hb
end
end Go.Pl

/- Tapes: their instructions, their values, their Taylor coefficients; the compiler. -/
namespace Go.Pl

structure Ins where
  op : Int
  a : Int
  b : Int
  c : I
  deriving DecidableEq

structure Tp where
  n : Nat
  L : List Ins
  out : List Nat

/-- Instruction i of a tape for n state variables. -/
def insOk (n i : Nat) (x : Ins) : Prop :=
  (x.op = 1 ∧ vB x.c = true) ∨ (x.op = 2 ∧ 0 ≤ x.a ∧ x.a < n) ∨ x.op = 3 ∨ (4 ≤ x.op ∧ x.op ≤ 6 ∧ 0 ≤ x.a ∧ x.a < i ∧ x.b = 0) ∨ (7 ≤ x.op ∧ x.op ≤ 10 ∧ 0 ≤ x.a ∧ x.a < i ∧ 0 ≤ x.b ∧ x.b < i)

structure tpOk (t : Tp) : Prop where
  ins : ∀ i x, t.L[i]? = some x → insOk t.n i x
  len : t.out.length = t.n
  out : ∀ k ∈ t.out, k < t.L.length
  small : t.n ≤ 1000 ∧ t.L.length ≤ 100000

def at0 (l : List I) (k : Int) : I := (l[k.toNat]?).getD (0, 0)
def rootI (p : I) : I := if p.1 < 0 then ent else sqrt p
def opI (o : Int) (p q : I) : I :=
  if o = 4 then neg p else if o = 5 then sq p else if o = 6 then rootI p else if o = 7 then add p q else if o = 8 then sub p q else if o = 9 then mul p q else div p q
def insV (y : Ins) (l x : List I) (t : I) : I :=
  if y.op = 1 then y.c else if y.op = 2 then at0 x y.a else if y.op = 3 then t else opI y.op (at0 l y.a) (at0 l y.b)
def valsV (L : List Ins) (x : List I) (t : I) : List I := L.foldl (fun l y => l ++ [insV y l x t]) []
def evalT (T : Tp) (x : List I) (t : I) : List I := T.out.map fun k : Nat => at0 (valsV T.L x t) (k : Int)

theorem valsV_snoc (L : List Ins) (y : Ins) (x : List I) (t : I) : valsV (L ++ [y]) x t = valsV L x t ++ [insV y (valsV L x t) x t] := by simp [valsV]
theorem snoc_ind {α : Type} {P : List α → Prop} (h0 : P []) (h1 : ∀ l a, P l → P (l ++ [a])) (l : List α) : P l := by
  have : ∀ r : List α, P r.reverse := by
    intro r
    induction r with
    | nil => exact h0
    | cons a r ih => rw [List.reverse_cons]; exact h1 _ _ ih
  have := this l.reverse
  rwa [List.reverse_reverse] at this
theorem valsV_len (x : List I) (t : I) : ∀ L : List Ins, (valsV L x t).length = L.length := by
  intro L
  refine snoc_ind (P := fun L => (valsV L x t).length = L.length) rfl (fun L y ih => ?_) L
  rw [valsV_snoc]; simp [ih]

def allV (l : List I) : Prop := ∀ p ∈ l, vB p = true
theorem at0_valid {l : List I} (h : allV l) (k : Int) : vB (at0 l k) = true := by
  unfold at0
  cases hk : l[k.toNat]? with
  | none => decide
  | some p => exact h p (List.mem_of_getElem? hk)
theorem rootI_valid {p : I} (h : vB p = true) : vB (rootI p) = true := by
  unfold rootI; split
  · exact ent_valid
  · exact sqrt_valid h
theorem opI_valid {o : Int} {p q : I} (hp : vB p = true) (hq : vB q = true) : vB (opI o p q) = true := by
  unfold opI
  split
  · exact neg_valid hp
  split
  · exact sq_valid hp
  split
  · exact rootI_valid hp
  split
  · exact add_valid hp hq
  split
  · exact sub_valid hp hq
  split
  · exact mul_valid
  · exact div_valid hq
theorem insV_valid {y : Ins} {l x : List I} {t : I} (hc : y.op = 1 → vB y.c = true) (hl : allV l) (hx : allV x) (ht : vB t = true) : vB (insV y l x t) = true := by
  unfold insV
  split
  · exact hc ‹_›
  split
  · exact at0_valid hx _
  split
  · exact ht
  · exact opI_valid (at0_valid hl _) (at0_valid hl _)
theorem allV_snoc {l : List I} {p : I} (h : allV l) (hp : vB p = true) : allV (l ++ [p]) := by
  intro q hq
  rcases List.mem_append.1 hq with hq | hq
  · exact h q hq
  · simp at hq; subst hq; exact hp
theorem valsV_valid {x : List I} {t : I} (hx : allV x) (ht : vB t = true) : ∀ {L : List Ins}, (∀ y ∈ L, y.op = 1 → vB y.c = true) → allV (valsV L x t) := by
  intro L
  refine snoc_ind (P := fun L => (∀ y ∈ L, y.op = 1 → vB y.c = true) → allV (valsV L x t)) (fun _ p hp => by simp [valsV] at hp) (fun L y ih => ?_) L
  intro h
  rw [valsV_snoc]
  have := ih fun z hz => h z (by simp [hz])
  exact allV_snoc this (insV_valid (h y (by simp)) this hx ht)
theorem tpOk.num {T : Tp} (h : tpOk T) : ∀ y ∈ T.L, y.op = 1 → vB y.c = true := by
  intro y hy ho
  obtain ⟨i, hi⟩ := List.mem_iff_getElem?.1 hy
  rcases h.ins i y hi with h | h | h | h | h
  · exact h.2
  all_goals omega
theorem evalT_valid {T : Tp} (h : tpOk T) {x : List I} {t : I} (hx : allV x) (ht : vB t = true) : allV (evalT T x t) := by
  intro p hp
  obtain ⟨k, _, rfl⟩ := List.mem_map.1 hp
  exact at0_valid (valsV_valid hx ht h.num) _
theorem evalT_len {T : Tp} (h : tpOk T) {x : List I} {t : I} : (evalT T x t).length = T.n := by simp [evalT, h.len]

/-! ### The compiler -/
def emitS (l : List Ins) (x : Ins) : List Ins × Nat := match l.findIdx? (fun y => decide (y = x)) with
  | some i => (l, i)
  | none => (l ++ [x], l.length)
def cmpS : Ex → List Ins → List Ins × Nat
  | .num c, l => emitS l ⟨1, 0, 0, c⟩
  | .var i, l => emitS l ⟨2, i, 0, (0, 0)⟩
  | .time, l => emitS l ⟨3, 0, 0, (0, 0)⟩
  | .un o a, l => emitS (cmpS a l).1 ⟨o.code, ((cmpS a l).2 : Int), 0, (0, 0)⟩
  | .bin o a b, l => emitS (cmpS b (cmpS a l).1).1 ⟨o.code, ((cmpS a l).2 : Int), ((cmpS b (cmpS a l).1).2 : Int), (0, 0)⟩
def cmpAll : List Ex → List Ins × List Nat → List Ins × List Nat
  | [], s => s
  | e :: r, s => cmpAll r ((cmpS e s.1).1, s.2 ++ [(cmpS e s.1).2])
def cmpT (F : List Ex) : Tp := ⟨F.length, (cmpAll F ([], [])).1, (cmpAll F ([], [])).2⟩

def insAll (n : Nat) (l : List Ins) : Prop := ∀ i x, l[i]? = some x → insOk n i x
theorem emitS_ok {n : Nat} {l : List Ins} {x : Ins} (h : insAll n l) (hx : insOk n l.length x) : insAll n (emitS l x).1 ∧ (emitS l x).2 < (emitS l x).1.length ∧ l.length ≤ (emitS l x).1.length ∧ (emitS l x).1.length ≤ l.length + 1 := by
  unfold emitS
  cases hf : l.findIdx? (fun y => decide (y = x)) with
  | some i =>
    refine ⟨h, ?_, by simp, by simp⟩
    rw [List.findIdx?_eq_some_iff_getElem] at hf
    exact hf.1
  | none =>
    refine ⟨fun i y hi => ?_, by simp, by simp, by simp⟩
    simp only at hi
    rcases Nat.lt_or_ge i l.length with hlt | hge
    · rw [List.getElem?_append_left hlt] at hi; exact h i y hi
    · have : i = l.length := by have := (List.getElem?_eq_some_iff.1 hi).1; simp at this; omega
      subst this
      simp at hi; subst hi; exact hx
theorem U_code (o : U) : 4 ≤ o.code ∧ o.code ≤ 6 := by cases o <;> decide
theorem B_code (o : B) : 7 ≤ o.code ∧ o.code ≤ 10 := by cases o <;> decide
theorem cmpS_ok {n : Nat} : ∀ {e : Ex} {l : List Ins}, wf n e = true → insAll n l → insAll n (cmpS e l).1 ∧ (cmpS e l).2 < (cmpS e l).1.length ∧ l.length ≤ (cmpS e l).1.length ∧ (cmpS e l).1.length ≤ l.length + sz e
  | .num c, l, he, h => by
    have := emitS_ok (x := ⟨1, 0, 0, c⟩) h (.inl ⟨rfl, he⟩)
    rw [sz_num]; exact this
  | .var i, l, he, h => by
    simp only [wf, decide_eq_true_eq] at he
    have := emitS_ok (x := ⟨2, (i : Int), 0, (0, 0)⟩) h (.inr (.inl ⟨rfl, by simp, by simpa using he⟩))
    rw [sz_var]; exact this
  | .time, l, he, h => by
    have := emitS_ok (x := ⟨3, 0, 0, (0, 0)⟩) h (.inr (.inr (.inl rfl)))
    rw [sz_time]; exact this
  | .un o a, l, he, h => by
    obtain ⟨h1, h2, h3, h4⟩ := cmpS_ok (e := a) he h
    have := emitS_ok (x := ⟨o.code, ((cmpS a l).2 : Int), 0, (0, 0)⟩) h1 (.inr (.inr (.inr (.inl ⟨(U_code o).1, (U_code o).2, by simp, by simpa using h2, rfl⟩))))
    rw [sz_un]
    exact ⟨this.1, this.2.1, by show _ ≤ (emitS _ _).1.length; omega, by show (emitS _ _).1.length ≤ _; omega⟩
  | .bin o a b, l, he, h => by
    simp only [wf, Bool.and_eq_true] at he
    obtain ⟨h1, h2, h3, h4⟩ := cmpS_ok (e := a) he.1 h
    obtain ⟨g1, g2, g3, g4⟩ := cmpS_ok (e := b) he.2 h1
    have := emitS_ok (x := ⟨o.code, ((cmpS a l).2 : Int), ((cmpS b (cmpS a l).1).2 : Int), (0, 0)⟩) g1 (.inr (.inr (.inr (.inr ⟨(B_code o).1, (B_code o).2, by simp, by simp; omega, by simp, by simpa using g2⟩))))
    rw [sz_bin]
    exact ⟨this.1, this.2.1, by show _ ≤ (emitS _ _).1.length; omega, by show (emitS _ _).1.length ≤ _; omega⟩
theorem cmpAll_ok {n : Nat} : ∀ {F : List Ex} {s : List Ins × List Nat}, (∀ e ∈ F, wf n e = true) → insAll n s.1 → (∀ k ∈ s.2, k < s.1.length) →
    insAll n (cmpAll F s).1 ∧ (∀ k ∈ (cmpAll F s).2, k < (cmpAll F s).1.length) ∧ (cmpAll F s).2.length = s.2.length + F.length ∧ (cmpAll F s).1.length ≤ s.1.length + (F.map sz).sum
  | [], s, _, h, hk => ⟨h, hk, by simp [cmpAll], by simp [cmpAll]⟩
  | e :: r, s, he, h, hk => by
    obtain ⟨h1, h2, h3, h4⟩ := cmpS_ok (he e (by simp)) h
    have := cmpAll_ok (F := r) (s := ((cmpS e s.1).1, s.2 ++ [(cmpS e s.1).2])) (fun e' h' => he e' (by simp [h'])) h1 (fun k hk' => by
      rcases List.mem_append.1 hk' with hk' | hk'
      · exact Nat.lt_of_lt_of_le (hk k hk') h3
      · simp at hk'; subst hk'; exact h2)
    refine ⟨this.1, this.2.1, ?_, ?_⟩
    · have := this.2.2.1; simp only [cmpAll] at this ⊢; rw [this]; simp; omega
    · have := this.2.2.2; simp only [cmpAll, List.map_cons, List.sum_cons] at this ⊢; omega

/-- The operands of an expression, compiled one after the other. -/
def cmpK : List Ex → List Ins → List Ins × List Nat
  | [], l => (l, [])
  | e :: r, l => ((cmpK r (cmpS e l).1).1, (cmpS e l).2 :: (cmpK r (cmpS e l).1).2)
theorem cmpK_snoc : ∀ (r : List Ex) (e : Ex) (l : List Ins), cmpK (r ++ [e]) l = ((cmpS e (cmpK r l).1).1, (cmpK r l).2 ++ [(cmpS e (cmpK r l).1).2])
  | [], e, l => rfl
  | a :: r, e, l => by simp only [List.cons_append, cmpK, cmpK_snoc r e]
def insOf (e : Ex) (ks : List Nat) : Ins := ⟨(root0 e).op, if (root0 e).op = 2 then (root0 e).n else ((ks[0]?).getD 0 : Nat), ((ks[1]?).getD 0 : Nat), if (root0 e).op = 1 then (root0 e).c else (0, 0)⟩
theorem cmpS_eq (e : Ex) (l : List Ins) : cmpS e l = emitS (cmpK (kids e) l).1 (insOf e (cmpK (kids e) l).2) := by
  cases e with
  | num c => rfl
  | var i => rfl
  | time => rfl
  | un o a => cases o <;> rfl
  | bin o a b => cases o <;> rfl
theorem emitS_len (l : List Ins) (x : Ins) : (emitS l x).1.length ≤ l.length + 1 ∧ l.length ≤ (emitS l x).1.length := by
  unfold emitS; split <;> simp
theorem emitS_ne (l : List Ins) (x : Ins) : (emitS l x).1 ≠ [] := by
  unfold emitS
  split
  · rename_i i h
    rw [List.findIdx?_eq_some_iff_getElem] at h
    obtain ⟨h1, _⟩ := h
    intro e
    simp only at e
    rw [e] at h1; simp at h1
  · simp
theorem cmpS_len : ∀ (e : Ex) (l : List Ins), (cmpS e l).1.length ≤ l.length + sz e ∧ l.length ≤ (cmpS e l).1.length
  | .num c, l => emitS_len _ _
  | .var i, l => emitS_len _ _
  | .time, l => emitS_len _ _
  | .un o a, l => by
    have h1 := cmpS_len a l
    have h2 := emitS_len (cmpS a l).1 ⟨o.code, ((cmpS a l).2 : Int), 0, (0, 0)⟩
    rw [sz_un]; simp only [cmpS]; omega
  | .bin o a b, l => by
    have h1 := cmpS_len a l
    have h2 := cmpS_len b (cmpS a l).1
    have h3 := emitS_len (cmpS b (cmpS a l).1).1 ⟨o.code, ((cmpS a l).2 : Int), ((cmpS b (cmpS a l).1).2 : Int), (0, 0)⟩
    rw [sz_bin]; simp only [cmpS]; omega
theorem cmpK_len : ∀ (r : List Ex) (l : List Ins), (cmpK r l).1.length ≤ l.length + (serL r).length ∧ (cmpK r l).2.length = r.length
  | [], l => by simp [cmpK, serL]
  | e :: r, l => by
    have h1 := cmpS_len e l
    have h2 := cmpK_len r (cmpS e l).1
    simp only [cmpK, serL, List.flatMap_cons, List.length_append, List.length_cons] at h2 ⊢
    have : sz e = (ser e).length := rfl
    omega
end Go.Pl

/- Taylor series of tapes: coefficients, Horner's rule. -/
namespace Go.Pl

/-- a * n / d, rounded outwards. -/
def mulr (p : I) (n d : Int) : I := if entB p then p else mk (fl (p.1 * n) d) (ce (p.2 * n) d)
theorem mulr_valid {p : I} {n d : Int} (h : vB p = true) (hn : 0 ≤ n) (hd : 0 < d) : vB (mulr p n d) = true := by
  unfold mulr
  cases he : entB p with
  | true => simpa using h
  | false =>
    simp only [Bool.false_eq_true, if_false]
    have := entB_false h he
    exact mk_valid (fl_le_ce hd (Int.mul_le_mul_of_nonneg_right this.2.1 hn))

def atN (l : List I) (k : Nat) : I := (l[k]?).getD (0, 0)
theorem atN_valid {l : List I} (h : allV l) (k : Nat) : vB (atN l k) = true := by
  unfold atN
  cases hk : l[k]? with
  | none => decide
  | some p => exact h p (List.mem_of_getElem? hk)
/-- The sum of the first m terms, the first alone to begin with. -/
def sumF (f : Nat → I) : Nat → I
  | 0 => (0, 0)
  | 1 => f 0
  | m + 2 => add (sumF f (m + 1)) (f (m + 1))
theorem sumF_valid {f : Nat → I} (h : ∀ i, vB (f i) = true) : ∀ m, vB (sumF f m) = true
  | 0 => (by decide : vB (0, 0) = true)
  | 1 => h 0
  | m + 2 => add_valid (sumF_valid h (m + 1)) (h _)
/-- The sum of a[i] * b[k-i] for i = from, .., from + m - 1. -/
def convI (a b : List I) (frm m k : Nat) : I := sumF (fun i => mul (atN a (frm + i)) (atN b (k - (frm + i)))) m
theorem convI_valid (a b : List I) (frm m k : Nat) : vB (convI a b frm m k) = true := sumF_valid (fun _ => mul_valid) m
def nextQ (a b q : List I) : I :=
  if q.length = 0 then div (atN a 0) (atN b 0) else div (sub (atN a q.length) (convI b q 1 q.length q.length)) (atN b 0)
def nextR (a q : List I) : I :=
  if q.length = 0 then rootI (atN a 0) else div (sub (atN a q.length) (convI q q 1 (q.length - 1) q.length)) (mulr (atN q 0) 2 1)
theorem nextQ_valid {a b : List I} (ha : allV a) (hb : allV b) (q : List I) : vB (nextQ a b q) = true := by
  unfold nextQ; split
  · exact div_valid (atN_valid hb _)
  · exact div_valid (atN_valid hb _)
theorem nextR_valid {a q : List I} (ha : allV a) (hq : allV q) : vB (nextR a q) = true := by
  unfold nextR; split
  · exact rootI_valid (atN_valid ha _)
  · exact div_valid (mulr_valid (atN_valid hq _) (by decide) (by decide))
/-- Row i of a list of rows. -/
def rowN (l : List (List I)) (i : Int) : List I := (l[i.toNat]?).getD []
/-- The next coefficient of an instruction that is no variable: coefficient k = own's length. -/
def nextC (x : Ins) (l : List (List I)) (own : List I) (t : I) : I :=
  let k := own.length
  if x.op = 4 then neg (atN (rowN l x.a) k)
  else if x.op = 7 then add (atN (rowN l x.a) k) (atN (rowN l x.b) k)
  else if x.op = 8 then sub (atN (rowN l x.a) k) (atN (rowN l x.b) k)
  else if x.op = 9 then convI (rowN l x.a) (rowN l x.b) 0 (k + 1) k
  else if x.op = 5 then (if k = 0 then sq (atN (rowN l x.a) 0) else convI (rowN l x.a) (rowN l x.a) 0 (k + 1) k)
  else if x.op = 10 then nextQ (rowN l x.a) (rowN l x.b) own
  else if x.op = 6 then nextR (rowN l x.a) own
  else if x.op = 1 then (if k = 0 then x.c else (0, 0))
  else if x.op = 3 then (if k = 0 then t else if k = 1 then (65536, 65536) else (0, 0))
  else (0, 0)
/-- Horner's rule. -/
def hornS : List I → I → I
  | [], _ => (0, 0)
  | [a], _ => a
  | a :: r, h => add (mul (hornS r h) h) a
def evalS (l : List (List I)) (h : I) : List I := l.map fun s => hornS s h
/-- Round k: each instruction's coefficient k, in order. -/
def stepL (L : List Ins) (out : List (List I)) (t : I) (k : Nat) (l : List (List I)) : Nat → List (List I)
  | 0 => l
  | i + 1 =>
    let l' := stepL L out t k l i
    match L[i]? with
    | some x => l'.set i (rowN l' i ++ [if x.op = 2 then atN (rowN out x.a) k else nextC x l' (rowN l' i) t])
    | none => l'
def stepO (T : Tp) (l : List (List I)) (k : Nat) (out : List (List I)) : Nat → List (List I)
  | 0 => out
  | i + 1 =>
    let o' := stepO T l k out i
    match T.out[i]? with
    | some at' => o'.set i (rowN o' i ++ [mulr (atN (rowN l (at' : Int)) k) 1 (k + 1)])
    | none => o'
/-- The state behind the first k rounds: the instructions' rows and the variables'. -/
def expS (T : Tp) (x : List I) (t : I) : Nat → List (List I) × List (List I)
  | 0 => (List.replicate T.L.length [], (List.range T.n).map fun i => [atN x i])
  | k + 1 =>
    let q := expS T x t k
    let l := stepL T.L q.2 t k q.1 T.L.length
    (l, stepO T l k q.2 T.out.length)
def coefS (T : Tp) (x : List I) (t : I) (order : Nat) : List (List I) := (expS T x t order).2
end Go.Pl

namespace Go.Proofs.YtgabeieooemfeaaDoor.Arm
open Go.Arm Go.Pl

theorem iWidth (p : I) (h : vB p = true) (H : AH) : Sound E 24 [iv p] H (.ret (.int .i64 (p.2 - p.1))) H := by
  refine sound_of_awp tabOk mixed Tryd.func24 rfl (by rfl) Tryd.ntmps24 (by kernel_rfl) (by simp) ?_
  have hb := vB_bounds h
  have w1 : IntKind.i64.wrap (p.2 - p.1) = p.2 - p.1 := wrap64 (by omega) (by omega)
  simp [w1]
  exact fin1 (rs := [.tmp 2]) (by rfl) (by simp [resA]) (by simp [noFs, noF])
theorem iHull (p q : I) (H : AH) : Sound E 51 [iv p, iv q] H (.ret (iv (hull p q))) H := by
  refine sound_of_awp tabOk mixed Tryd.func51 rfl (by rfl) Tryd.ntmps51 (by kernel_rfl) (by simp) ?_
  simp [ite_min, ite_max]
  exact fin1 (rs := [.cell 4 40]) (by rfl) (by simp [resA, hull]) (by simp [noFs, noF])
theorem iSubset (p q : I) (H : AH) : Sound E 55 [iv p, iv q] H (.ret (.bool (subB p q))) H := by
  refine sound_of_awp tabOk mixed Tryd.func55 rfl (by rfl) Tryd.ntmps55 (by kernel_rfl) (by simp) ?_
  simp
  refine gateT (fun h1 => ?_) (fun h1 => ?_)
  · have h1' : q.1 ≤ p.1 := by simpa using h1
    simp [h1']
    exact fin1 (rs := [.tmp 4]) (by rfl) (by simp [resA, subB, h1']) (by simp [noFs, noF])
  · have h1' : ¬ q.1 ≤ p.1 := by simpa using h1
    simp [h1']
    exact fin1 (rs := [.tmp 4]) (by rfl) (by simp [resA, subB, h1']) (by simp [noFs, noF])
theorem iPickI (b : Bool) (p q : I) (H : AH) : Sound E 82 [.bool b, iv p, iv q] H (.ret (iv (if b then p else q))) H := by
  refine sound_of_awp tabOk mixed Tryd.func82 rfl (by rfl) Tryd.ntmps82 (by kernel_rfl) (by simp) ?_
  cases b with
  | true =>
    simp
    exact fin1 (rs := [.cell 6 40]) (by rfl) (by simp [resA]) (by simp [noFs, noF])
  | false =>
    simp
    exact fin1 (rs := [.cell 6 40]) (by rfl) (by simp [resA]) (by simp [noFs, noF])
theorem iPick64 (b : Bool) (x y : Int) (H : AH) : Sound E 90 [.bool b, .int .i64 x, .int .i64 y] H (.ret (.int .i64 (if b then x else y))) H := by
  refine sound_of_awp tabOk mixed Tryd.func90 rfl (by rfl) Tryd.ntmps90 (by kernel_rfl) (by simp) ?_
  cases b with
  | true =>
    simp
    exact fin0 (rs := [.tmp 6]) (by rfl) (by simp [resA])
  | false =>
    simp
    exact fin0 (rs := [.tmp 6]) (by rfl) (by simp [resA])
theorem iIntersect (p q : I) (H : AH) : Sound E 64 [iv p, iv q] H (.ret (.tuple [iv (inter p q), .bool (interB p q)])) H := by
  refine sound_of_awp tabOk mixed Tryd.func64 rfl (by rfl) Tryd.ntmps64 (by kernel_rfl) (by simp) ?_
  simp [ite_min, ite_max]
  refine call_ret (iPickI (interB p q) (meet p q) (0, 0) _) ?_
  simp
  exact finC (rs := [.cell 4 40, .tmp 5]) (vs := [iv (inter p q), .bool (interB p q)]) (vs' := [iv (inter p q), .bool (interB p q)]) (by rfl) (by simp [resA, inter, interB]) (by simp; rfl) (by simp [noF, noFs]) rfl

/-! ### Ratios -/
theorem fMulRatio (a n d : Int) (ha : -2147483648 ≤ a ∧ a ≤ 2147483648) (hn : 0 ≤ n ∧ n ≤ 1073741824) (hd : 1 ≤ d ∧ d ≤ 1073741824) (H : AH) :
    Sound E 89 [.int .i64 a, .int .i64 n, .int .i64 d] H (.ret (.tuple [.int .i64 (fl (a * n) d), .int .i64 (ce (a * n) d), .int .i64 0])) H := by
  refine sound_of_awp tabOk mixed Tryd.func89 rfl (by rfl) Tryd.ntmps89 (by kernel_rfl) (by simp) ?_
  have hb : -2305843009213693952 ≤ a * n ∧ a * n ≤ 2305843009213693952 := by
    have h1 := Int.mul_le_mul_of_nonneg_right ha.2 hn.1
    have h2 := Int.mul_le_mul_of_nonneg_right ha.1 hn.1
    omega
  have w1 : IntKind.i64.wrap (a * n) = a * n := wrap64 (by omega) (by omega)
  have c1 : ¬ n < -1073741824 := by omega
  have c2 : ¬ 1073741824 < n := by omega
  have c3 : ¬ d < 1 := by omega
  have c4 : ¬ 1073741824 < d := by omega
  simp [c1, c2, c3, c4, w1]
  refine call_ret (fDivide (a * n) d (by omega) (by omega) _) ?_
  simp
  exact finK (rs := [.tmp 6, .tmp 7, .tmp 8]) (vs := [.int .i64 (fl (a * n) d), .int .i64 (ce (a * n) d), .int .i64 0]) (by rfl) (by simp [resA]) rfl
theorem iMulRatio (p : I) (n d : Int) (hp : vB p = true) (hn : 0 ≤ n ∧ n ≤ 1073741824) (hd : 1 ≤ d ∧ d ≤ 1073741824) (H : AH) : Sound E 80 [iv p, .int .i64 n, .int .i64 d] H (.ret (iv (mulr p n d))) H := by
  refine sound_of_awp tabOk mixed Tryd.func80 rfl (by rfl) Tryd.ntmps80 (by kernel_rfl) (by simp) ?_
  simp
  refine call_ret (iIsEntire p _) ?_
  have hb := vB_bounds hp
  simp
  refine branch (fun he => ?_) (fun he => ?_)
  · simp
    exact fin1 (rs := [.cell 6 40]) (by rfl) (by simp [resA, mulr, he]) (by simp [noFs, noF])
  · have c1 : ¬ n < 0 := by omega
    simp
    refine call_ret (iPick64 (decide (n < 0)) p.2 p.1 _) ?_
    simp [c1]
    refine call_ret (fMulRatio p.1 n d (by omega) hn hd _) ?_
    simp
    refine call_ret (iPick64 (decide (n < 0)) p.1 p.2 _) ?_
    simp [c1]
    refine call_ret (fMulRatio p.2 n d (by omega) hn hd _) ?_
    simp
    refine call_ret (iNew _ _ _) ?_
    simp
    exact fin1 (rs := [.cell 6 40]) (by rfl) (by simp [resA, mulr, he]) (by simp [noFs, noF])
end Go.Proofs.YtgabeieooemfeaaDoor.Arm

namespace Go.Proofs.YtgabeieooemfeaaDoor.Arm
open Go.Arm Go.Pl

theorem rWidth (p : I) (h : vB p = true) (H : AH) : Sound E 15 [iv p] H (.ret (.int .i64 (p.2 - p.1))) H := by
  refine sound_of_awp tabOk mixed Tryd.func15 rfl (by rfl) Tryd.ntmps15 (by kernel_rfl) (by simp) ?_
  have hb := vB_bounds h
  have w1 : IntKind.i64.wrap (p.2 - p.1) = p.2 - p.1 := wrap64 (by omega) (by omega)
  simp [w1]
  exact fin1 (rs := [.tmp 2]) (by rfl) (by simp [resA]) (by simp [noFs, noF])
theorem rSame2 (p q : I) (H : AH) : Sound E 47 [iv p, iv q] H (.ret (.bool (p == q))) H := by
  refine sound_of_awp tabOk mixed Tryd.func47 rfl (by rfl) Tryd.ntmps47 (by kernel_rfl) (by simp) ?_
  have e : (p == q) = (p.1 == q.1 && p.2 == q.2) := rfl
  simp
  refine gateT (fun h1 => ?_) (fun h1 => ?_)
  · simp [h1]
    exact fin1 (rs := [.tmp 4]) (by rfl) (by simp [resA, e, h1]) (by simp [noFs, noF])
  · simp [h1]
    exact fin1 (rs := [.tmp 4]) (by rfl) (by simp [resA, e, h1]) (by simp [noFs, noF])
end Go.Proofs.YtgabeieooemfeaaDoor.Arm

namespace Go.Proofs.YtgabeieooemfeaaDoor.Arm
open Go.Arm Go.Pl

def nd (x : Nd) : AV := .agg [.int .i64 x.op, .int .i64 x.n, .int .i64 x.c.1, .int .i64 x.c.2]
@[simp] theorem nd_eq (x : Nd) : nd x = .agg [.int .i64 x.op, .int .i64 x.n, .int .i64 x.c.1, .int .i64 x.c.2] := rfl
theorem nd_cells (x : Nd) : (nd x).cells.length = 4 := rfl
/-- A row of nodes. -/
def xs (l : List Nd) : AV := .slice (l.map nd) false
theorem xs_eq (l : List Nd) : xs l = .slice (l.map nd) false := rfl

@[simp] theorem bin_nd (H : AH) (a b : Int) (x y c d u v : Int) (z : Bool) : binOpA tab H .eql 60 (.agg [.int .i64 a, .int .i64 b, .int .i64 x, .int .i64 y]) (.agg [.int .i64 c, .int .i64 d, .int .i64 u, .int .i64 v]) z = some (.bool (a == c && b == d && (x == u && y == v)), H) := by
  simp [binOpA, binA, eqA, eqFs, nilI]
  by_cases h : a = c <;> by_cases h2 : b = d <;> by_cases h3 : x = u <;> by_cases h4 : y = v <;> simp [h, h2, h3, h4]
@[simp] theorem bin_nd_ne (H : AH) (a b : Int) (x y c d u v : Int) (z : Bool) : binOpA tab H .neq 60 (.agg [.int .i64 a, .int .i64 b, .int .i64 x, .int .i64 y]) (.agg [.int .i64 c, .int .i64 d, .int .i64 u, .int .i64 v]) z = some (.bool (!(a == c && b == d && (x == u && y == v))), H) := by
  simp [binOpA, binA, eqA, eqFs, nilI]
  by_cases h : a = c <;> by_cases h2 : b = d <;> by_cases h3 : x = u <;> by_cases h4 : y = v <;> simp [h, h2, h3, h4]

theorem kids_le (e : Ex) : (kids e).length ≤ 2 := by cases e <;> simp [kids]
theorem len_serL (l : List Ex) : l.length ≤ (serL l).length := by
  induction l with
  | nil => simp [serL]
  | cons a r ih =>
    have := sz_pos a
    simp only [serL, List.flatMap_cons, List.length_append, List.length_cons, sz] at this ih ⊢
    omega
theorem serL_cons (t : Ex) (ts : List Ex) : serL (t :: ts) = root0 t :: serL (kids t ++ ts) := by
  have h := ser_eq t
  simp only [serL, List.flatMap_cons, List.flatMap_append] at h ⊢
  rw [h]; simp

def LEl (l r : List Nd) (H : AH) (ts : List Ex) (fr : AFr) (H' : AH) : Prop :=
  ∃ pre : List Nd, l = pre ++ serL ts ++ r ∧ ts ≠ [] ∧ fr 0 = xs l ∧ fr 3 = .int .i64 ts.length ∧ fr 6 = xs l ∧ fr 7 = .int .i64 l.length ∧ fr 8 = .int .i64 pre.length ∧ ∃ J, H' = H ++ J
end Go.Proofs.YtgabeieooemfeaaDoor.Arm

namespace Go.Proofs.YtgabeieooemfeaaDoor.Arm
open Go.Arm Go.Pl

theorem kid_sz {a k : Ex} {i : Nat} (h : (kids a)[i]? = some k) : sz k < sz a := by
  cases a with
  | num c => simp [kids] at h
  | var c => simp [kids] at h
  | time => simp [kids] at h
  | un o a =>
    cases i with
    | zero => simp [kids] at h; subst h; rw [sz_un]; omega
    | succ i => simp [kids] at h
  | bin o a b =>
    rw [sz_bin]
    match i, h with
    | 0, h => simp [kids] at h; subst h; omega
    | 1, h => simp [kids] at h; subst h; omega
    | i + 2, h => simp [kids] at h
theorem serL_split (l : List Ex) (i : Nat) : serL l = serL (l.take i) ++ serL (l.drop i) := by
  rw [serL, serL, serL, ← List.flatMap_append, List.take_append_drop]
theorem serL_drop {l : List Ex} {i : Nat} {k : Ex} (h : l[i]? = some k) : serL (l.drop i) = ser k ++ serL (l.drop (i + 1)) := by
  have hl := (List.getElem?_eq_some_iff.1 h).1
  rw [List.drop_eq_getElem_cons hl, (List.getElem?_eq_some_iff.1 h).2]; rfl
theorem serL_take {l : List Ex} {i : Nat} {k : Ex} (h : l[i]? = some k) : serL (l.take (i + 1)) = serL (l.take i) ++ ser k := by
  rw [List.take_add_one, h]; simp [serL]
theorem sz_kids (a : Ex) : sz a = 1 + (serL (kids a)).length := by rw [sz, ser_eq]; simp; omega
/-- The rest of an expression's nodes behind so many operands. -/
theorem rest_at (a : Ex) (r : List Nd) (i : Nat) : (ser a ++ r).drop (1 + (serL ((kids a).take i)).length) = serL ((kids a).drop i) ++ r := by
  rw [ser_eq, serL_split (kids a) i]
  rw [show 1 + (serL ((kids a).take i)).length = (root0 a :: serL ((kids a).take i)).length by simp; omega]
  rw [show root0 a :: (serL ((kids a).take i) ++ serL ((kids a).drop i)) ++ r = (root0 a :: serL ((kids a).take i)) ++ (serL ((kids a).drop i) ++ r) by simp]
  rw [List.drop_left]

def LRl (a : Ex) (r : List Nd) (H : AH) (i : Nat) (fr : AFr) (H' : AH) : Prop :=
  fr 0 = xs (ser a ++ r) ∧ fr 3 = .int .i64 ((1 + (serL ((kids a).take i)).length : Nat) : Int) ∧ fr 4 = .int .i64 i ∧ i ≤ (kids a).length ∧ H' = H
end Go.Proofs.YtgabeieooemfeaaDoor.Arm

namespace Go.Proofs.YtgabeieooemfeaaDoor.Arm
open Go.Arm Go.Pl

theorem nd_all (l : List Nd) : (l.map nd).all (fun y => y.cells.length == 4 && y.cells.all okc) = true := by
  rw [List.all_eq_true]
  intro x hx
  obtain ⟨y, _, rfl⟩ := List.mem_map.1 hx
  rfl
theorem app_full {H : AH} {l m : List Nd} (hm : m ≠ []) (hb : l.length + m.length ≤ 1000000000) {f : Bool} :
    appendA tab H 37 (.slice (l.map nd) true) (.slice (m.map nd) f) = some (.ref H.length (l.length + m.length), H ++ [.row true 4 ((l ++ m).map nd)]) := by
  have h1 := nd_all m
  have h2 : (l.map nd).all (fun y => y.cells.length == 4) = true := by
    rw [List.all_eq_true]
    intro x hx
    obtain ⟨y, _, rfl⟩ := List.mem_map.1 hx
    rfl
  have h3 : (m.map nd).isEmpty = false := by simpa using hm
  simp only [appendA, tab37, tab60, els, h3, vcells, AV.cells, growA, growNew, h1, h2, List.length_map]
  simp
  omega
theorem app_ref {H : AH} {l m : List Nd} {b : Nat} {wr : Bool} (hm : m ≠ []) (hb : l.length + m.length ≤ 1000000000) {f : Bool} (hH : H[b]? = some (.row wr 4 (l.map nd))) :
    appendA tab H 37 (.ref b l.length) (.slice (m.map nd) f) = some (.ref b (l.length + m.length), H.set b (.row wr 4 ((l ++ m).map nd))) := by
  have h1 := nd_all m
  have h3 : (m.map nd).isEmpty = false := by simpa using hm
  simp only [appendA, tab37, tab60, els, h3, vcells, AV.cells, growA, hH, h1, List.length_map]
  simp
  omega

def LSm (l m : List Nd) (H : AH) (i : Nat) (fr : AFr) (H' : AH) : Prop :=
  fr 0 = xs l ∧ fr 1 = xs m ∧ fr 5 = .int .i64 i ∧ i ≤ l.length ∧ l.take i = m.take i ∧ H' = H
theorem r7Const (c : I) (H : AH) : Sound E 11 [iv c] H (.ret (xs (ser (.num c)))) H := by
  refine sound_of_awp tabOk mixed Tryd.func11 rfl (by rfl) Tryd.ntmps11 (by kernel_rfl) (by simp) ?_
  simp
  exact finC (rs := [.tmp 2]) (vs := [.slice [nd ⟨1, 0, c⟩] true]) (vs' := [.slice [nd ⟨1, 0, c⟩] false]) (by rfl) (by simp [resA]) (by simp; rfl) (by simp [noF, noFs]) rfl
end Go.Proofs.YtgabeieooemfeaaDoor.Arm

namespace Go.Proofs.YtgabeieooemfeaaDoor.Arm
open Go.Arm Go.Pl

theorem nd_noFs (l : List Nd) (n : Nat) : noFs n (l.map nd) = true := noFs_iff.2 fun x hx => by obtain ⟨y, _, rfl⟩ := List.mem_map.1 hx; rfl
theorem xs_noF (l : List Nd) (n : Nat) : noF n (xs l) = true := by simp only [xs, noF]; exact nd_noFs l n
theorem xss_noFs (ls : List (List Nd)) (n : Nat) : noFs n (ls.map xs) = true := noFs_iff.2 fun x hx => by obtain ⟨y, _, rfl⟩ := List.mem_map.1 hx; exact xs_noF y n

def LOp (a : Ex) (v0 : AV) (ti to : Tmp) (ts : Tmp) (H : AH) (i : Nat) (fr : AFr) (H' : AH) : Prop :=
  fr 0 = xs (ser a) ∧ fr ts = .int .i64 ((1 + (serL ((kids a).take i)).length : Nat) : Int) ∧ fr ti = .int .i64 i ∧ i ≤ (kids a).length ∧ ∃ J, H' = H ++ J ∧ Acc H J (fr to) 1 (((kids a).take i).map fun k => xs (ser k)) v0
end Go.Proofs.YtgabeieooemfeaaDoor.Arm

namespace Go.Proofs.YtgabeieooemfeaaDoor.Arm
open Go.Arm Go.Pl

def LCa (ls : List (List Nd)) (H : AH) (i : Nat) (fr : AFr) (H' : AH) : Prop :=
  fr 0 = .slice (ls.map xs) false ∧ fr 3 = .int .i64 ((ls.take i).flatten.length : Nat) ∧ fr 9 = .slice (ls.map xs) false ∧ fr 10 = .int .i64 ls.length ∧ fr 11 = .int .i64 i ∧ i ≤ ls.length ∧ H' = H
def LCb (ls : List (List Nd)) (H : AH) (i : Nat) (fr : AFr) (H' : AH) : Prop :=
  fr 25 = .slice (ls.map xs) false ∧ fr 26 = .int .i64 ls.length ∧ fr 27 = .int .i64 i ∧ i ≤ ls.length ∧ ∃ J, H' = H ++ J ∧ Acc H J (fr 6) 4 ((ls.take i).flatten.map nd) .nilslice
theorem flat_take_le {α : Type} (ls : List (List α)) (i : Nat) : (ls.take i).flatten.length ≤ ls.flatten.length := by
  have : ls.flatten = (ls.take i).flatten ++ (ls.drop i).flatten := by rw [← List.flatten_append, List.take_append_drop]
  rw [this]; simp
end Go.Proofs.YtgabeieooemfeaaDoor.Arm

namespace Go.Proofs.YtgabeieooemfeaaDoor.Arm
open Go.Arm Go.Pl

def bx (l : List I) : AV := .slice (l.map iv) false
structure Sys where
  names : List ByteArray
  f : List Ex
def sys (s : Sys) : AV := .agg [.slice (s.names.map .str) false, .slice (s.f.map fun e => xs (ser e)) false]
theorem accBase {H A J : AH} {v v0 : AV} {sz : Nat} {l : List AV} (h : Acc (H ++ A) J v sz l v0) : Acc H (A ++ J) v sz l v0 := by
  rcases h with h | ⟨k, h1, h2⟩
  · exact .inl h
  · exact .inr ⟨A.length + k, by rw [h1, List.length_append, Nat.add_assoc], by rw [List.getElem?_append_right (by omega), Nat.add_sub_cancel_left]; exact h2⟩
theorem iv_noFs (l : List I) (n : Nat) : noFs n (l.map iv) = true := noFs_iff.2 fun x hx => by obtain ⟨y, _, rfl⟩ := List.mem_map.1 hx; simp [noF, noFs]
theorem set_set_app {H J : AH} {b : Nat} {x y : ABlk} (h : b < H.length) : (H.set b x ++ J).set b y = H.set b y ++ J := by
  rw [List.set_append_left _ _ (by simpa using h), List.set_set]

end Go.Proofs.YtgabeieooemfeaaDoor.Arm

namespace Go.Proofs.YtgabeieooemfeaaDoor.Arm
open Go.Arm Go.Pl

theorem app_iv1 {H : AH} {p : I} {f : Bool} : appendA tab H 36 (.slice [] true) (.slice [iv p] f) = some (.ref H.length 1, H ++ [.row true 2 [iv p]]) := by
  simp only [appendA, tab36, tab40, els, vcells, AV.cells, growA]
  simp [okc, growNew]
def LEv (a : Ex) (xv : List I) (t : I) (H : AH) (i : Nat) (fr : AFr) (H' : AH) : Prop :=
  fr 0 = xs (ser a) ∧ fr 1 = bx xv ∧ fr 5 = .ptr H.length 1 0 0 ∧ fr 6 = .ptr (H.length + 1) 1 0 0 ∧ fr 7 = .slice ((kids a).map fun k => xs (ser k)) false ∧ fr 9 = .int .i64 i ∧ i ≤ (kids a).length ∧ ∃ J, H' = H ++ [.row true 2 [iv t], .row true 2 [iv (0, 0)]] ++ J ∧ Acc (H ++ [.row true 2 [iv t], .row true 2 [iv (0, 0)]]) J (fr 8) 2 (((kids a).take i).map fun k => iv (ev xv t k)) (.slice [] true)
end Go.Proofs.YtgabeieooemfeaaDoor.Arm

namespace Go.Proofs.YtgabeieooemfeaaDoor.Arm
open Go.Arm Go.Pl

def LRd (s : Sys) (xv : List I) (t : I) (H : AH) (i : Nat) (fr : AFr) (H' : AH) : Prop :=
  fr 1 = bx xv ∧ fr 3 = .ptr H.length 1 0 0 ∧ fr 5 = .ptr (H.length + 1) 1 0 0 ∧ fr 8 = .int .i64 i ∧ i ≤ s.f.length ∧ ∃ J, H' = H ++ [.row true 2 [sys s], .row true 2 [iv t]] ++ J ∧ Acc (H ++ [.row true 2 [sys s], .row true 2 [iv t]]) J (fr 7) 2 ((s.f.take i).map fun e => iv (ev xv t e)) (.slice [] true)
end Go.Proofs.YtgabeieooemfeaaDoor.Arm

namespace Go.Proofs.YtgabeieooemfeaaDoor.Arm
open Go.Arm Go.Pl

theorem and_low {m : Nat} (hm : m ≤ 8) (x : Int) : andA .i64 x ((2 ^ m - 1 : Nat) : Int) = low x ((2 ^ m - 1 : Nat) : Int) := by
  have h0 : (2 : Nat) ^ m ≤ 256 := Nat.pow_le_pow_right (n := 2) (by decide) hm
  have h00 : 0 < (2 : Nat) ^ m := Nat.pow_pos (by decide)
  unfold andA low
  have e1 : (BitVec.ofInt 64 ((2 ^ m - 1 : Nat) : Int)).toNat = 2 ^ m - 1 := by
    rw [BitVec.toNat_ofInt]; omega
  have e2 : ((BitVec.ofInt 64 x &&& BitVec.ofInt 64 ((2 ^ m - 1 : Nat) : Int)).toNat : Int) = x % ((2 ^ m : Nat) : Int) := by
    rw [BitVec.toNat_and, e1, Nat.and_two_pow_sub_one_eq_mod, BitVec.toNat_ofInt]
    rw [Int.natCast_emod, Int.toNat_of_nonneg (Int.emod_nonneg _ (by decide))]
    rw [Int.emod_emod_of_dvd]
    have : ((2 : Nat) ^ 64 : Int) = ((2 ^ m : Nat) : Int) * ((2 ^ (64 - m) : Nat) : Int) := by
      rw [← Int.natCast_mul, ← Nat.pow_add, show m + (64 - m) = 64 by omega]; rfl
    exact ⟨_, this⟩
  have e3 : IntKind.i64.bits = 64 := rfl
  rw [e3, e2]
  have e4 : ((2 ^ m - 1 : Nat) : Int) + 1 = ((2 ^ m : Nat) : Int) := by omega
  rw [e4]
  have h1 := Int.emod_nonneg x (b := ((2 ^ m : Nat) : Int)) (by omega)
  have h2 := Int.emod_lt_of_pos x (b := ((2 ^ m : Nat) : Int)) (by omega)
  exact wrap64 (by omega) (by omega)
theorem and255 (x : Int) : andA .i64 x 255 = low x 255 := and_low (m := 8) (by decide) x
theorem and1' (x : Int) : andA .i64 x 1 = low x 1 := and_low (m := 1) (by decide) x

def LVe (e : Ex) (n : Nat) (H : AH) (i : Nat) (fr : AFr) (H' : AH) : Prop :=
  fr 0 = xs (ser e) ∧ fr 1 = .int .i64 n ∧ fr 5 = .int .i64 i ∧ i ≤ sz e ∧ ∃ J, H' = H ++ J
end Go.Proofs.YtgabeieooemfeaaDoor.Arm

namespace Go.Proofs.YtgabeieooemfeaaDoor.Arm
open Go.Arm Go.Pl

/-- The builder's block. -/
def bst (l : List Nd) (n : Nat) : ABlk := .row true 2 [.agg [xs l, .int .i64 n]]
theorem uOf_code {o : Int} (h : 4 ≤ o) (k : o ≤ 6) : (uOf o).code = o := by
  unfold uOf
  split
  · simp [U.code, *]
  · split
    · simp [U.code, *]
    · simp only [U.code]; omega
theorem bOf_code {o : Int} (h : 7 ≤ o) (k : o ≤ 10) : (bOf o).code = o := by
  unfold bOf
  split
  · simp [B.code, *]
  · split
    · simp [B.code, *]
    · split
      · simp [B.code, *]
      · simp only [B.code]; omega
end Go.Proofs.YtgabeieooemfeaaDoor.Arm

namespace Go.Proofs.YtgabeieooemfeaaDoor.Arm
open Go.Arm Go.Pl

theorem pushIv {H J : AH} {v v0 : AV} {l : List I} {p : I} (hacc : Acc H J v 2 (l.map iv) v0) (h0 : emptyA v0 = true) (hl : l.length ≤ 1000000000) :
    ∃ v' J', appendA tab (H ++ J) 36 v (.slice [iv p] true) = some (v', H ++ J') ∧ Acc H J' v' 2 ((l ++ [p]).map iv) v0 ∧ (∀ j y, J[j]? = some y → (∀ n, v ≠ .ref (H.length + j) n) → J'[j]? = some y) ∧ J.length ≤ J'.length := by
  obtain ⟨v', J', hap, hacc', hk, hle, _⟩ := Acc.push (T := tab) (t := 36) (e := 40) (x := .slice [iv p] true) (ys := [iv p]) hacc tab36 rfl tab40 h0 rfl (by simp [okc]) ⟨by decide, by simp⟩ (by simp; omega) (by simp; omega)
  exact ⟨v', J', hap, by simpa using hacc', hk, hle⟩
/-- A made box. -/
def mdi (l : List I) (k : Nat) : I := ((l[k]?).map madeI).getD (0, 0)
def mdb (l : List I) (n : Nat) : List I := (List.range n).map (mdi l)
theorem mdb_succ (l : List I) (n : Nat) : mdb l (n + 1) = mdb l n ++ [mdi l n] := by simp [mdb, List.range_succ]
theorem mdb_len (l : List I) (n : Nat) : (mdb l n).length = n := by simp [mdb]
theorem mdi_valid (l : List I) (k : Nat) : vB (mdi l k) = true := by
  unfold mdi
  cases l[k]? with
  | none => decide
  | some p => exact madeI_valid p
theorem mdb_valid (l : List I) (n : Nat) : ∀ p ∈ mdb l n, vB p = true := fun p hp => by
  obtain ⟨k, _, rfl⟩ := List.mem_map.1 hp; exact mdi_valid l k
def LBm (l : List I) (n : Nat) (H : AH) (i : Nat) (fr : AFr) (H' : AH) : Prop :=
  fr 0 = bx l ∧ fr 1 = .int .i64 n ∧ fr 6 = .int .i64 i ∧ i ≤ n ∧ ∃ J, H' = H ++ J ∧ Acc H J (fr 5) 2 ((mdb l i).map iv) (.slice [] true)
end Go.Proofs.YtgabeieooemfeaaDoor.Arm

namespace Go.Proofs.YtgabeieooemfeaaDoor.Arm
open Go.Arm Go.Pl

def ix (l : List Int) : AV := .slice (l.map (.int .i64)) false
def ux (l : List Int) : AV := .slice (l.map (.int .u16)) false
theorem int_noFs (l : List Int) (n : Nat) : noFs n (l.map (.int .i64)) = true := noFs_iff.2 fun x hx => by obtain ⟨y, _, rfl⟩ := List.mem_map.1 hx; rfl
def LPo (l : List Int) (H : AH) (i : Nat) (fr : AFr) (H' : AH) : Prop :=
  fr 0 = ix l ∧ fr 4 = .int .i64 i ∧ i ≤ l.length ∧ ∃ J, H' = H ++ J ∧ Acc H J (fr 3) 2 (((l.take i).map pt).map iv) (.slice [] true)
/-- A coordinate of a point in a box. -/
def pin (b : I) (n : Int) : Int := if entB b then n else b.1 + ((b.2 - b.1) * n).tdiv 65535
def pinL (b : List I) (f : List Int) (n : Nat) : List Int := (List.range n).map fun i => pin ((b[i]?).getD (0, 0)) ((f[i]?).getD 0)
theorem pinL_succ (b : List I) (f : List Int) (n : Nat) : pinL b f (n + 1) = pinL b f n ++ [pin ((b[n]?).getD (0, 0)) ((f[n]?).getD 0)] := by simp [pinL, List.range_succ]
theorem pinL_len (b : List I) (f : List Int) (n : Nat) : (pinL b f n).length = n := by simp [pinL]
theorem pin_bounds {b : I} {n : Int} (h : vB b = true) (hn : 0 ≤ n ∧ n ≤ 65535) (he : entB b = false) : 0 ≤ ((b.2 - b.1) * n).tdiv 65535 ∧ ((b.2 - b.1) * n).tdiv 65535 ≤ b.2 - b.1 ∧ 0 ≤ (b.2 - b.1) * n ∧ (b.2 - b.1) * n ≤ 4294967296 * 65535 := by
  have h1 := entB_false h he
  have h2 : 0 ≤ (b.2 - b.1) * n := Int.mul_nonneg (by omega) hn.1
  have h3 : (b.2 - b.1) * n ≤ (b.2 - b.1) * 65535 := Int.mul_le_mul_of_nonneg_left hn.2 (by omega)
  rw [Int.tdiv_eq_ediv_of_nonneg h2]
  refine ⟨by omega, by omega, h2, by omega⟩
def LPi (b : List I) (f : List Int) (H : AH) (i : Nat) (fr : AFr) (H' : AH) : Prop :=
  fr 0 = bx b ∧ fr 1 = ux f ∧ fr 6 = .int .i64 i ∧ i ≤ b.length ∧ ∃ J, H' = H ++ J ∧ Acc H J (fr 5) 1 ((pinL b f i).map (.int .i64)) (.slice [] true)
end Go.Proofs.YtgabeieooemfeaaDoor.Arm

namespace Go.Proofs.YtgabeieooemfeaaDoor.Arm
open Go.Arm Go.Pl

def LOc (l : List Nd) (x : Nd) (H : AH) (i : Nat) (fr : AFr) (H' : AH) : Prop :=
  fr 0 = xs l ∧ fr 3 = .ptr H.length 1 0 0 ∧ fr 5 = .int .i64 i ∧ i ≤ l.length ∧ x ∉ l.take i ∧ H' = H ++ [.row true 4 [nd x]]
def inp (F : List (List Nd)) (l : List Nd) (b : List I) (t : I) (n : Int) : AV := .agg [.slice (F.map xs) false, xs l, bx b, .int .i64 t.1, .int .i64 t.2, .int .u8 n]
end Go.Proofs.YtgabeieooemfeaaDoor.Arm

namespace Go.Proofs.YtgabeieooemfeaaDoor.Arm
open Go.Arm Go.Pl

def smi (l : List I) (k : Nat) : I := ((l[k]?).map smallI).getD (0, 0)
def sbx (l : List I) (n i : Nat) : List I := (List.range n).map fun k => if k < i then smi l k else (0, 0)
theorem sbx_len (l : List I) (n i : Nat) : (sbx l n i).length = n := by simp [sbx]
theorem sbx_zero (l : List I) (n : Nat) : sbx l n 0 = List.replicate n (0, 0) := by
  apply List.ext_getElem?; intro k; simp [sbx, List.getElem?_replicate]
  by_cases h : k < n <;> simp [h]
theorem sbx_succ {l : List I} {n i : Nat} (hi : i < n) : (sbx l n i).set i (smi l i) = sbx l n (i + 1) := by
  apply List.ext_getElem?; intro k
  by_cases h : i = k
  · subst h; rw [List.getElem?_set_self (by rw [sbx_len]; exact hi)]; simp [sbx, hi]
  · rw [List.getElem?_set_ne h]
    simp only [sbx, List.getElem?_map]
    by_cases hk : k < n
    · simp [hk]
      by_cases h1 : k < i
      · rw [if_pos h1, if_pos (by omega)]
      · rw [if_neg h1, if_neg (by omega)]
    · simp [hk]
theorem sbx_end {l : List I} {n i : Nat} (h : n ≤ i ∨ l.length ≤ i) : sbx l n i = sbx l n n := by
  apply List.ext_getElem?; intro k
  simp only [sbx, List.getElem?_map]
  by_cases hk : k < n
  · simp [hk]
    intro hki
    have : l[k]? = none := by rw [List.getElem?_eq_none_iff]; omega
    simp [smi, this]
  · simp [hk]
def LSb (l : List I) (n : Nat) (H : AH) (i : Nat) (fr : AFr) (H' : AH) : Prop :=
  fr 0 = bx l ∧ fr 1 = .int .i64 n ∧ fr 5 = .ref H.length n ∧ fr 6 = .int .i64 i ∧ i ≤ n ∧ ∃ J, H' = H ++ .row true 2 ((sbx l n i).map iv) :: J
theorem app_gen0 {H : AH} {t e : TypeId} {i ie : TI} {x : AV} {f : Bool} (hi : tab t = some i) (hd : i.d = .slice e) (he : tab e = some ie) (h1 : ie.size = 1) (hx : ([x].all fun y => y.cells.length == 1 && y.cells.all okc) = true) (hz : (vcells ie.zero).map List.length = some 1) (hb : ie.bytes ≤ 1000) :
    appendA tab H t .nilslice (.slice [x] f) = some (.ref H.length 1, H ++ [.row true 1 [x]]) := by
  obtain ⟨v', J', hap, hacc', _⟩ := Acc.push (T := tab) (t := t) (e := e) (H := H) (J := []) (v := .nilslice) (v0 := .nilslice) (x := .slice [x] f) (ys := [x]) (xs := []) (.inl ⟨rfl, rfl⟩) hi hd he rfl rfl (by rw [h1]; exact hx) ⟨by omega, by rw [h1]; exact hz⟩ (by simp; omega) (by simp)
  rw [List.append_nil] at hap
  have h2 : appendA tab H t .nilslice (.slice [x] f) = growA ie H .nilslice [x] := by
    simp only [appendA, hi, hd, he, els]
    rw [if_neg (by simp), if_pos ⟨by omega, by rw [h1]; exact hz, by rw [h1]; exact hx⟩]
  have h3 : growA ie H .nilslice [x] = (growNew ie .nilslice [x]).map fun zs => (.ref H.length zs.length, H ++ [.row true ie.size zs]) := rfl
  rw [h2, h3, growNew]
  rw [if_pos (by simp; omega)]
  simp [h1]
theorem app_gen {H : AH} {t e : TypeId} {i ie : TI} {x : AV} {l : List AV} {b n : Nat} {f : Bool} (hi : tab t = some i) (hd : i.d = .slice e) (he : tab e = some ie) (h1 : ie.size = 1) (hx : ([x].all fun y => y.cells.length == 1 && y.cells.all okc) = true) (hz : (vcells ie.zero).map List.length = some 1) (hb : ie.bytes ≤ 1000) (hn : l.length = n) (hnb : n ≤ 1000000000) (hH : H[b]? = some (.row true 1 l)) :
    appendA tab H t (.ref b n) (.slice [x] f) = some (.ref b (n + 1), H.set b (.row true 1 (l ++ [x]))) := by
  subst hn
  have h2 : appendA tab H t (.ref b l.length) (.slice [x] f) = growA ie H (.ref b l.length) [x] := by
    simp only [appendA, hi, hd, he, els]
    rw [if_neg (by simp), if_pos ⟨by omega, by rw [h1]; exact hz, by rw [h1]; exact hx⟩]
  have hk : (l.length + 1) * ie.bytes ≤ 1000000001 * 1000 := Nat.mul_le_mul (by omega) hb
  rw [h2]
  simp only [growA, hH]
  rw [if_pos (by simp [h1]; omega)]
  simp [h1]
def nms : List ByteArray := [⟨#[120]⟩, ⟨#[121]⟩, ⟨#[118, 120]⟩, ⟨#[118, 121]⟩, ⟨#[97, 49]⟩, ⟨#[122, 122]⟩]
/-- The made system's expressions. -/
def mds (l : List (List Nd)) (most n i : Nat) : List Ex := (List.range i).map fun k => mde n ((l[k]?).getD []) most
theorem mds_succ (l : List (List Nd)) (most n i : Nat) : mds l most n (i + 1) = mds l most n i ++ [mde n ((l[i]?).getD []) most] := by simp [mds, List.range_succ]
theorem mds_len (l : List (List Nd)) (most n i : Nat) : (mds l most n i).length = i := by simp [mds]
def LMs (l : List (List Nd)) (most n : Nat) (H : AH) (i : Nat) (fr : AFr) (H' : AH) : Prop :=
  fr 0 = .slice (l.map xs) false ∧ fr 1 = .int .i64 most ∧ fr 2 = .int .i64 n ∧ fr 6 = .ptr H.length 1 0 0 ∧ fr 7 = .ptr (H.length + 1) 1 0 0 ∧ fr 8 = .slice (nms.map .str) true ∧ fr 9 = .int .i64 i ∧ i ≤ n ∧
  ((i = 0 ∧ H' = H ++ [.row true 2 [.agg [.nilslice, .nilslice]], .row true 2 [.agg [.nilslice, .nilslice]]]) ∨
   ∃ J a b, a ≠ b ∧ J[a]? = some (.row true 1 ((nms.take i).map .str)) ∧ J[b]? = some (.row true 1 ((mds l most n i).map fun e => xs (ser e))) ∧ 0 < i ∧
     H' = H ++ .row true 2 [.agg [.nilslice, .nilslice]] :: .row true 2 [.agg [.ref (H.length + (a + 2)) i, .ref (H.length + (b + 2)) i]] :: J)
end Go.Proofs.YtgabeieooemfeaaDoor.Arm

namespace Go.Proofs.YtgabeieooemfeaaDoor.Arm
open Go.Arm Go.Pl

/-- A matrix. -/
def mx (A : List (List I)) : AV := .slice (A.map bx) false
def LSm1 (A B : List (List I)) (H : AH) (i : Nat) (fr : AFr) (H' : AH) : Prop :=
  fr 0 = mx A ∧ fr 1 = mx B ∧ fr 5 = .int .i64 i ∧ i ≤ A.length ∧ A.take i = B.take i ∧ H' = H
def LSm2 (A B : List (List I)) (a b : List I) (i : Nat) (H : AH) (j : Nat) (fr : AFr) (H' : AH) : Prop :=
  fr 0 = mx A ∧ fr 1 = mx B ∧ fr 5 = .int .i64 i ∧ fr 6 = .int .i64 j ∧ j ≤ a.length ∧ a.take j = b.take j ∧ H' = H
end Go.Proofs.YtgabeieooemfeaaDoor.Arm

namespace Go.Proofs.YtgabeieooemfeaaDoor.Arm
open Go.Arm Go.Pl



def insA (x : Ins) : AV := .agg [.int .i64 x.op, .int .i64 x.a, .int .i64 x.b, .int .i64 x.c.1, .int .i64 x.c.2]
def outA (l : List Nat) : AV := .slice (l.map fun k : Nat => .int .i64 (k : Int)) false
def tpA (t : Tp) : AV := .agg [.int .i64 (t.n : Int), .slice (t.L.map insA) false, outA t.out]

theorem tRoot (p : I) (h : vB p = true) (H : AH) : Sound E 121 [iv p] H (.ret (iv (rootI p))) H := by
  refine sound_of_awp tabOk mixed Tryd.func121 rfl (by rfl) Tryd.ntmps121 (by kernel_rfl) (by simp) ?_
  simp
  refine branch (fun hc => ?_) (fun hc => ?_)
  · have h0 : p.1 < 0 := by simpa using hc
    simp
    refine call_ret (iEntire _) ?_
    simp
    exact fin1 (rs := [.cell 2 40]) (by rfl) (by simp [resA, rootI, h0]) (by simp [noFs, noF])
  · have h0 : ¬ p.1 < 0 := by simpa using hc
    have hb := vB_bounds h
    simp
    refine call_ret (iSqrt p h (by omega) _) ?_
    simp
    exact fin1 (rs := [.cell 2 40]) (by rfl) (by simp [resA, rootI, h0]) (by simp [noFs, noF])
end Go.Proofs.YtgabeieooemfeaaDoor.Arm

namespace Go.Proofs.YtgabeieooemfeaaDoor.Arm
open Go.Arm Go.Pl

@[simp] theorem bin_one (g : Nat) (H : AH) (z : Bool) : binOpA tab H .neq 111 (.func (.func g) [] []) .nilfunc z = some (.bool true, H) := by simp [binOpA, binA, eqA, nilI]
@[simp] theorem bin_two (H : AH) (z : Bool) : binOpA tab H .neq 111 .nilfunc .nilfunc z = some (.bool false, H) := by simp [binOpA, binA, eqA, nilI]
/-- A row of intervals of which the first are set. -/
def padI (l : List I) (n : Nat) : List AV := (l ++ List.replicate (n - l.length) (0, 0)).map iv
theorem padI_len {l : List I} {n : Nat} (h : l.length ≤ n) : (padI l n).length = n := by simp [padI]; omega
theorem padI_get {l : List I} {n k : Nat} {p : I} (h : l[k]? = some p) : (padI l n)[k]? = some (iv p) := by
  unfold padI
  rw [List.getElem?_map, List.getElem?_append_left (List.getElem?_eq_some_iff.1 h).1, h]; rfl
theorem padI_set {l : List I} {n : Nat} {p : I} (h : l.length < n) : (padI l n).set l.length (iv p) = padI (l ++ [p]) n := by
  unfold padI
  have e : List.replicate (n - l.length) ((0, 0) : I) = (0, 0) :: List.replicate (n - (l ++ [p]).length) (0, 0) := by
    rw [show n - l.length = (n - (l ++ [p]).length) + 1 by simp; omega, List.replicate_succ]
  rw [e]
  simp
theorem padI_zero {l : List I} {n k : Nat} (h : l.length ≤ k) (hk : k < n) : (padI l n)[k]? = some (iv (0, 0)) := by
  unfold padI
  rw [List.getElem?_map, List.getElem?_append_right h, List.getElem?_replicate, if_pos (by omega)]; rfl
theorem padI_all {l : List I} {n : Nat} (h : l.length = n) : padI l n = l.map iv := by simp [padI, h]
theorem padI_nil (n : Nat) : padI [] n = List.replicate n (iv (0, 0)) := by simp [padI]

def LTe (T : Tp) (x : List I) (t : I) (H : AH) (i : Nat) (fr : AFr) (H' : AH) : Prop :=
  fr 1 = bx x ∧ fr 3 = .ptr H.length 1 0 0 ∧ fr 5 = .ptr (H.length + 1) 1 0 0 ∧ fr 7 = .ref (H.length + 2) T.L.length ∧ fr 19 = .slice (T.L.map insA) false ∧ fr 20 = .int .i64 T.L.length ∧ fr 21 = .int .i64 i ∧ i ≤ T.L.length ∧
  ∃ J, H' = H ++ J ∧ J[0]? = some (.row true 3 [tpA T]) ∧ J[1]? = some (.row true 2 [iv t]) ∧ J[2]? = some (.row true 2 (padI (valsV (T.L.take i) x t) T.L.length))
def LTo (T : Tp) (l : List I) (H : AH) (b : Nat) (i : Nat) (fr : AFr) (H' : AH) : Prop :=
  fr 7 = .ref (H.length + 2) T.L.length ∧ fr 11 = .ref b T.out.length ∧ fr 96 = outA T.out ∧ fr 97 = .int .i64 T.out.length ∧ fr 98 = .int .i64 i ∧ i ≤ T.out.length ∧
  ∃ J k, H' = H ++ J ∧ b = H.length + k ∧ k ≠ 2 ∧ J[2]? = some (.row true 2 (l.map iv)) ∧ J[k]? = some (.row true 2 (padI ((T.out.take i).map fun k : Nat => at0 l k) T.out.length))

theorem LTe_next {T : Tp} {x : List I} {t : I} {H J : AH} {i : Nat} {W : List AV} {p : AV} (hJ0 : J[0]? = some (.row true 3 [tpA T])) (hJ1 : J[1]? = some (.row true 2 [iv t])) (hJ2 : J[2]? = some (.row true 2 W)) (e : W.set i p = padI (valsV (T.L.take (i + 1)) x t) T.L.length) (L : AH) :
    ∃ J', H ++ (J.set 2 (.row true 2 (W.set i p)) ++ L) = H ++ J' ∧ J'[0]? = some (.row true 3 [tpA T]) ∧ J'[1]? = some (.row true 2 [iv t]) ∧ J'[2]? = some (.row true 2 (padI (valsV (T.L.take (i + 1)) x t) T.L.length)) := by
  refine ⟨_, rfl, get_old ?_, get_old ?_, ?_⟩
  · rw [List.getElem?_set_ne (by omega)]; exact hJ0
  · rw [List.getElem?_set_ne (by omega)]; exact hJ1
  · rw [e]; exact set_get' hJ2

theorem tEval (T : Tp) (x : List I) (t : I) (hT : tpOk T) (hx : allV x) (hxn : x.length = T.n) (ht : vB t = true) (H : AH) : Sound E 70 [tpA T, bx x, iv t] H (.ret (bx (evalT T x t))) H := by
  refine sound_of_awp tabOk mixed Tryd.func70 rfl (by rfl) Tryd.ntmps70 (by kernel_rfl) (by simp) ?_
  have hsm := hT.small
  simp [tpA]
  refine bind_if (by omega) ?_
  simp
  refine loop_count (LTe T x t H) (fun i => T.L.length - i) 0 ⟨by simp, by simp, by simp, by simp, by simp, by simp, by simp, by omega, _, rfl, by simp [tpA], by simp, by simp [valsV, padI_nil]⟩ ?_
  rintro i fr H' ⟨g1, g3, g5, g7, g19, g20, g21, hi, J, rfl, hJ0, hJ1, hJ2⟩
  simp [g20, g21]
  refine branch (fun hc => ?_) (fun hc => ?_)
  · have hlt : i < T.L.length := by simpa using hc
    obtain ⟨y, hy⟩ := get_lt hlt
    have hins := hT.ins i y hy
    have hnext : valsV (T.L.take (i + 1)) x t = valsV (T.L.take i) x t ++ [insV y (valsV (T.L.take i) x t) x t] := by rw [List.take_add_one, hy]; exact valsV_snoc _ _ _ _
    have hlen : (valsV (T.L.take i) x t).length = i := by rw [valsV_len]; simp; omega
    have hval : allV (valsV (T.L.take i) x t) := valsV_valid hx ht fun z hz => hT.num z (List.mem_of_mem_take hz)
    have w2 : IntKind.i64.wrap ((i : Int) + 1) = ((i + 1 : Nat) : Int) := by rw [wrap64 (by omega) (by omega)]; omega
    have hmap : (T.L.map insA)[i]? = some (insA y) := by rw [List.getElem?_map, hy]; rfl
    have hmapE : ∀ h, (T.L.map insA)[i]'h = insA y := fun h => (List.getElem?_eq_some_iff.1 hmap).2
    have hyE : ∀ h, T.L[i]'h = y := fun h => (List.getElem?_eq_some_iff.1 hy).2
    obtain ⟨W, hW⟩ : ∃ W, W = padI (valsV (T.L.take i) x t) T.L.length := ⟨_, rfl⟩
    have hWl : W.length = T.L.length := by rw [hW]; exact padI_len (by omega)
    have hJl : 2 < J.length := (List.getElem?_eq_some_iff.1 hJ2).1
    have hW0 : W[i]? = some (iv (0, 0)) := by rw [hW]; exact padI_zero (by omega) hlt
    have hW0E : ∀ h, W[i]'h = iv (0, 0) := fun h => (List.getElem?_eq_some_iff.1 hW0).2
    rw [← hW] at hJ2
    have hWset : ∀ p, insV y (valsV (T.L.take i) x t) x t = p → W.set i (iv p) = padI (valsV (T.L.take (i + 1)) x t) T.L.length := by
      intro p hp
      rw [hnext, hp, hW]
      have := padI_set (l := valsV (T.L.take i) x t) (n := T.L.length) (p := p) (by omega)
      rw [hlen] at this
      exact this
    obtain ⟨o, a, b, c⟩ := y
    rcases hins with ⟨h1, h2⟩ | ⟨h1, h2⟩ | h1 | h1 | h1
    · simp only at h1
      subst h1
      simp [g1, g3, g5, g7, g19, g21, hy, hyE, insA, tapT, hJ2, hWl, hlt, hW0, hW0E, old hJ2, olds hJ2, w2]
      exact ⟨i + 1, by show T.L.length - (i + 1) < T.L.length - i; omega, by simp [g1], by simp [g3], by simp [g5], by simp [g7], by simp [g19, insA], by simp [g20], by simp, by omega, LTe_next hJ0 hJ1 hJ2 (hWset c (by simp [insV])) _⟩
    · simp only at h1 h2
      subst h1
      obtain ⟨k, rfl⟩ : ∃ k : Nat, a = k := ⟨a.toNat, by omega⟩
      obtain ⟨p, hp⟩ := get_lt (l := x) (i := k) (by omega)
      have hpE : ∀ h, x[k]'h = p := fun h => (List.getElem?_eq_some_iff.1 hp).2
      simp [g1, g3, g5, g7, g19, g21, hy, hyE, insA, tapT, hJ2, hWl, hlt, hW0, hW0E, old hJ2, olds hJ2, w2, bx, hp, hpE]
      exact ⟨i + 1, by show T.L.length - (i + 1) < T.L.length - i; omega, by simp [g1, bx], by simp [g3], by simp [g5], by simp [g7], by simp [g19, insA], by simp [g20], by simp, by omega, LTe_next hJ0 hJ1 hJ2 (hWset p (by simp [insV, at0, hp])) _⟩
    · simp only at h1
      subst h1
      simp [g1, g3, g5, g7, g19, g21, hy, hyE, insA, tapT, hJ2, hWl, hlt, hW0, hW0E, old hJ2, olds hJ2, ↓old hJ1, w2]
      exact ⟨i + 1, by show T.L.length - (i + 1) < T.L.length - i; omega, by simp [g1], by simp [g3], by simp [g5], by simp [g7], by simp [g19, insA], by simp [g20], by simp, by omega, LTe_next hJ0 hJ1 hJ2 (hWset t (by simp [insV])) _⟩
    · simp only at h1
      obtain ⟨h1, h2, h3, h4, rfl⟩ := h1
      obtain ⟨k, rfl⟩ : ∃ k : Nat, a = k := ⟨a.toNat, by omega⟩
      obtain ⟨p, hp⟩ := get_lt (l := valsV (T.L.take i) x t) (i := k) (by omega)
      have hpv := hval p (List.mem_of_getElem? hp)
      have hWk : W[k]? = some (iv p) := by rw [hW]; exact padI_get hp
      have hWkE : ∀ h, W[k]'h = iv p := fun h => (List.getElem?_eq_some_iff.1 hWk).2
      have hk : k < T.L.length := by omega
      have ho : o = 4 ∨ o = 5 ∨ o = 6 := by omega
      have fin : ∀ q, insV ⟨o, k, 0, c⟩ (valsV (T.L.take i) x t) x t = q → ∀ L, ∃ J', H ++ (J.set 2 (.row true 2 (W.set i (iv q))) ++ L) = H ++ J' ∧ J'[0]? = some (.row true 3 [tpA T]) ∧ J'[1]? = some (.row true 2 [iv t]) ∧ J'[2]? = some (.row true 2 (padI (valsV (T.L.take (i + 1)) x t) T.L.length)) := fun q hq L => LTe_next hJ0 hJ1 hJ2 (hWset q hq) L
      rcases ho with rfl | rfl | rfl
      · simp [g1, g3, g5, g7, g19, g21, hy, hyE, insA, tapT, fnA, hJ2, hWl, hlt, hW0, hW0E, hk, hWk, hWkE, old hJ2, olds hJ2, w2]
        refine callD_ret0 (fun Hx => iNeg p hpv Hx) ?_
        simp [g7, hJ2, hWl, hlt, hW0, hW0E, hk, hWk, hWkE, old hJ2, olds hJ2]
        refine endD [(7, 11), (8, 11), (10, 11)] (by rfl) (by simp [okW, note, Eff.triv, Eff.wr, Eff.none, upTo, newAt]; omega) ?_
        simp [g21, w2]
        exact ⟨i + 1, by show T.L.length - (i + 1) < T.L.length - i; omega, by simp [g1], by simp [g3], by simp [g5], by simp [g7], by simp [g19, insA], by simp [g20], by simp, by omega, fin _ (by simp [insV, opI, at0, hp]) _⟩
      · simp [g1, g3, g5, g7, g19, g21, hy, hyE, insA, tapT, fnA, hJ2, hWl, hlt, hW0, hW0E, hk, hWk, hWkE, old hJ2, olds hJ2, w2]
        refine callD_ret0 (fun Hx => iSquare p hpv Hx) ?_
        simp [g7, hJ2, hWl, hlt, hW0, hW0E, hk, hWk, hWkE, old hJ2, olds hJ2]
        refine endD [(7, 11), (8, 11), (10, 11)] (by rfl) (by simp [okW, note, Eff.triv, Eff.wr, Eff.none, upTo, newAt]; omega) ?_
        simp [g21, w2]
        exact ⟨i + 1, by show T.L.length - (i + 1) < T.L.length - i; omega, by simp [g1], by simp [g3], by simp [g5], by simp [g7], by simp [g19, insA], by simp [g20], by simp, by omega, fin _ (by simp [insV, opI, at0, hp]) _⟩
      · simp [g1, g3, g5, g7, g19, g21, hy, hyE, insA, tapT, fnA, hJ2, hWl, hlt, hW0, hW0E, hk, hWk, hWkE, old hJ2, olds hJ2, w2]
        refine callD_ret0 (fun Hx => tRoot p hpv Hx) ?_
        simp [g7, hJ2, hWl, hlt, hW0, hW0E, hk, hWk, hWkE, old hJ2, olds hJ2]
        refine endD [(7, 11), (8, 11), (10, 11)] (by rfl) (by simp [okW, note, Eff.triv, Eff.wr, Eff.none, upTo, newAt]; omega) ?_
        simp [g21, w2]
        exact ⟨i + 1, by show T.L.length - (i + 1) < T.L.length - i; omega, by simp [g1], by simp [g3], by simp [g5], by simp [g7], by simp [g19, insA], by simp [g20], by simp, by omega, fin _ (by simp [insV, opI, at0, hp]) _⟩
    · simp only at h1
      obtain ⟨h1, h2, h3, h4, h5, h6⟩ := h1
      obtain ⟨k, rfl⟩ : ∃ k : Nat, a = k := ⟨a.toNat, by omega⟩
      obtain ⟨m, rfl⟩ : ∃ m : Nat, b = m := ⟨b.toNat, by omega⟩
      obtain ⟨p, hp⟩ := get_lt (l := valsV (T.L.take i) x t) (i := k) (by omega)
      obtain ⟨q, hq⟩ := get_lt (l := valsV (T.L.take i) x t) (i := m) (by omega)
      have hpv := hval p (List.mem_of_getElem? hp)
      have hqv := hval q (List.mem_of_getElem? hq)
      have hWk : W[k]? = some (iv p) := by rw [hW]; exact padI_get hp
      have hWkE : ∀ h, W[k]'h = iv p := fun h => (List.getElem?_eq_some_iff.1 hWk).2
      have hWm : W[m]? = some (iv q) := by rw [hW]; exact padI_get hq
      have hWmE : ∀ h, W[m]'h = iv q := fun h => (List.getElem?_eq_some_iff.1 hWm).2
      have hk : k < T.L.length := by omega
      have hk2 : m < T.L.length := by omega
      have ho : o = 7 ∨ o = 8 ∨ o = 9 ∨ o = 10 := by omega
      have fin : ∀ r, insV ⟨o, k, m, c⟩ (valsV (T.L.take i) x t) x t = r → ∀ L, ∃ J', H ++ (J.set 2 (.row true 2 (W.set i (iv r))) ++ L) = H ++ J' ∧ J'[0]? = some (.row true 3 [tpA T]) ∧ J'[1]? = some (.row true 2 [iv t]) ∧ J'[2]? = some (.row true 2 (padI (valsV (T.L.take (i + 1)) x t) T.L.length)) := fun r hr L => LTe_next hJ0 hJ1 hJ2 (hWset r hr) L
      rcases ho with rfl | rfl | rfl | rfl
      · simp [g1, g3, g5, g7, g19, g21, hy, hyE, insA, tapT, fnA, hJ2, hWl, hlt, hW0, hW0E, hk, hWk, hWkE, hk2, hWm, hWmE, old hJ2, olds hJ2, w2]
        refine callD_ret0 (fun Hx => iAdd p q hpv hqv Hx) ?_
        simp [g7, hJ2, hWl, hlt, hW0, hW0E, hk, hWk, hWkE, old hJ2, olds hJ2]
        refine endD [(7, 16), (8, 16), (12, 16), (13, 16), (15, 16)] (by rfl) (by simp [okW, note, Eff.triv, Eff.wr, Eff.none, upTo, newAt]; omega) ?_
        simp [g21, w2]
        exact ⟨i + 1, by show T.L.length - (i + 1) < T.L.length - i; omega, by simp [g1], by simp [g3], by simp [g5], by simp [g7], by simp [g19, insA], by simp [g20], by simp, by omega, fin _ (by simp [insV, opI, at0, hp, hq]) _⟩
      · simp [g1, g3, g5, g7, g19, g21, hy, hyE, insA, tapT, fnA, hJ2, hWl, hlt, hW0, hW0E, hk, hWk, hWkE, hk2, hWm, hWmE, old hJ2, olds hJ2, w2]
        refine callD_ret0 (fun Hx => iSub p q hpv hqv Hx) ?_
        simp [g7, hJ2, hWl, hlt, hW0, hW0E, hk, hWk, hWkE, old hJ2, olds hJ2]
        refine endD [(7, 16), (8, 16), (12, 16), (13, 16), (15, 16)] (by rfl) (by simp [okW, note, Eff.triv, Eff.wr, Eff.none, upTo, newAt]; omega) ?_
        simp [g21, w2]
        exact ⟨i + 1, by show T.L.length - (i + 1) < T.L.length - i; omega, by simp [g1], by simp [g3], by simp [g5], by simp [g7], by simp [g19, insA], by simp [g20], by simp, by omega, fin _ (by simp [insV, opI, at0, hp, hq]) _⟩
      · simp [g1, g3, g5, g7, g19, g21, hy, hyE, insA, tapT, fnA, hJ2, hWl, hlt, hW0, hW0E, hk, hWk, hWkE, hk2, hWm, hWmE, old hJ2, olds hJ2, w2]
        refine callD_ret0 (fun Hx => iMul p q hpv hqv Hx) ?_
        simp [g7, hJ2, hWl, hlt, hW0, hW0E, hk, hWk, hWkE, old hJ2, olds hJ2]
        refine endD [(7, 16), (8, 16), (12, 16), (13, 16), (15, 16)] (by rfl) (by simp [okW, note, Eff.triv, Eff.wr, Eff.none, upTo, newAt]; omega) ?_
        simp [g21, w2]
        exact ⟨i + 1, by show T.L.length - (i + 1) < T.L.length - i; omega, by simp [g1], by simp [g3], by simp [g5], by simp [g7], by simp [g19, insA], by simp [g20], by simp, by omega, fin _ (by simp [insV, opI, at0, hp, hq]) _⟩
      · simp [g1, g3, g5, g7, g19, g21, hy, hyE, insA, tapT, fnA, hJ2, hWl, hlt, hW0, hW0E, hk, hWk, hWkE, hk2, hWm, hWmE, old hJ2, olds hJ2, w2]
        refine callD_ret0 (fun Hx => iDiv p q hpv hqv Hx) ?_
        simp [g7, hJ2, hWl, hlt, hW0, hW0E, hk, hWk, hWkE, old hJ2, olds hJ2]
        refine endD [(7, 16), (8, 16), (12, 16), (13, 16), (15, 16)] (by rfl) (by simp [okW, note, Eff.triv, Eff.wr, Eff.none, upTo, newAt]; omega) ?_
        simp [g21, w2]
        exact ⟨i + 1, by show T.L.length - (i + 1) < T.L.length - i; omega, by simp [g1], by simp [g3], by simp [g5], by simp [g7], by simp [g19, insA], by simp [g20], by simp, by omega, fin _ (by simp [insV, opI, at0, hp, hq]) _⟩
  · have hi' : i = T.L.length := by have : ¬ i < T.L.length := by simpa using hc
                                    omega
    subst hi'
    rw [List.take_length, padI_all (valsV_len _ _ _)] at hJ2
    have hol : T.out.length ≤ 1000 := by rw [hT.len]; exact hsm.1
    have hlen := valsV_len x t T.L
    have hval : allV (valsV T.L x t) := valsV_valid hx ht hT.num
    have hev : evalT T x t = T.out.map fun k : Nat => at0 (valsV T.L x t) (k : Int) := rfl
    have hJl : 2 < J.length := (List.getElem?_eq_some_iff.1 hJ2).1
    rw [hev]
    generalize valsV T.L x t = l at *
    simp [g3, ↓old hJ0, hJ0, tpA, outA]
    refine bind_if (by omega) ?_
    simp [g3, ↓old hJ0, hJ0, tpA, outA]
    refine loop_count (LTo T l H (H.length + J.length)) (fun i => T.out.length - i) 0 ⟨by simp [g7], by simp, by simp [outA], by simp, by simp, by omega, J ++ [.row true 2 (List.replicate T.out.length (iv (0, 0)))], J.length, by simp, rfl, by omega, get_old hJ2, by simp [padI_nil]⟩ ?_
    clear hJ0 hJ1 hJ2 hJl g1 g3 g5 g7 g19 g20 g21 hi hc
    rintro i fr H' ⟨g7, g11, g96, g97, g98, hi, J', k, rfl, hbk, hk2, hJ2, hJk⟩
    simp [g97, g98]
    refine branch (fun hc => ?_) (fun hc => ?_)
    · have hlt : i < T.out.length := by simpa using hc
      obtain ⟨o, ho⟩ := get_lt hlt
      have hoE : ∀ h, T.out[i]'h = o := fun h => (List.getElem?_eq_some_iff.1 ho).2
      have hol2 : o < T.L.length := hT.out o (List.mem_of_getElem? ho)
      obtain ⟨p, hp⟩ := get_lt (l := l) (i := o) (by omega)
      have hpE : ∀ h, l[o]'h = p := fun h => (List.getElem?_eq_some_iff.1 hp).2
      have w2 : IntKind.i64.wrap ((i : Int) + 1) = ((i + 1 : Nat) : Int) := by rw [wrap64 (by omega) (by omega)]; omega
      obtain ⟨W, hW⟩ : ∃ W, W = padI ((T.out.take i).map fun k : Nat => at0 l k) T.out.length := ⟨_, rfl⟩
      have hil : ((T.out.take i).map fun k : Nat => at0 l k).length = i := by simp; omega
      have hWl : W.length = T.out.length := by rw [hW]; exact padI_len (by omega)
      have hW0 : W[i]? = some (iv (0, 0)) := by rw [hW]; exact padI_zero (by omega) hlt
      have hW0E : ∀ h, W[i]'h = iv (0, 0) := fun h => (List.getElem?_eq_some_iff.1 hW0).2
      have hWset : W.set i (iv p) = padI ((T.out.take (i + 1)).map fun k : Nat => at0 l k) T.out.length := by
        have := padI_set (l := (T.out.take i).map fun k : Nat => at0 l k) (n := T.out.length) (p := p) (by omega)
        rw [hil] at this
        rw [hW, this, List.take_add_one, ho]
        simp [at0, hp]
      rw [← hW] at hJk
      obtain rfl : k = J.length := by omega
      simp [g7, g11, g96, g98, outA, ho, hoE, hJ2, hJk, hlen, hol2, hp, hpE, hWl, hlt, hW0, hW0E, w2]
      refine ⟨i + 1, by show T.out.length - (i + 1) < T.out.length - i; omega, by simp [g7], by simp [g11], by simp [g96, outA], by simp [g97], by simp, by omega, J'.set J.length (.row true 2 (W.set i (iv p))), J.length, by simp, rfl, hk2, ?_, ?_⟩
      · rw [List.getElem?_set_ne hk2]; exact hJ2
      · rw [hWset]; exact set_get hJk
    · have hi' : i = T.out.length := by have : ¬ i < T.out.length := by simpa using hc
                                        omega
      subst hi'
      rw [List.take_length, padI_all (by simp)] at hJk
      simp
      obtain rfl : k = J.length := by omega
      exact finS (t := 6) (v := .ref (H.length + J.length) T.out.length) (v0 := .nilslice) (sz := 2) (xs := (T.out.map fun k : Nat => at0 l k).map iv) (by rfl) (by simp [g11]) (.inr ⟨J.length, by simp, hJk⟩) rfl (iv_noFs _ _)
end Go.Proofs.YtgabeieooemfeaaDoor.Arm

namespace Go.Proofs.YtgabeieooemfeaaDoor.Arm
open Go.Arm Go.Pl

/-- An element is appended to a row. -/
theorem app_row {H : AH} {t e : TypeId} {i ie : TI} {x : AV} {l : List AV} {b n sz : Nat} {f : Bool} (hi : tab t = some i) (hd : i.d = .slice e) (he : tab e = some ie) (h1 : ie.size = sz) (h0 : 0 < sz) (hx : ([x].all fun y => y.cells.length == sz && y.cells.all okc) = true) (hz : (vcells ie.zero).map List.length = some sz) (hb : ie.bytes ≤ 1000) (hn : l.length = n) (hnb : n ≤ 1000000000) (hH : H[b]? = some (.row true sz l)) :
    appendA tab H t (.ref b n) (.slice [x] f) = some (.ref b (n + 1), H.set b (.row true sz (l ++ [x]))) := by
  subst hn
  have h2 : appendA tab H t (.ref b l.length) (.slice [x] f) = growA ie H (.ref b l.length) [x] := by
    simp only [appendA, hi, hd, he, els]
    rw [if_neg (by simp), if_pos ⟨by omega, by rw [h1]; exact hz, by rw [h1]; exact hx⟩]
  have hk : (l.length + 1) * ie.bytes ≤ 1000000001 * 1000 := Nat.mul_le_mul (by omega) hb
  rw [h2]
  simp only [growA, hH]
  rw [if_pos (by simp [h1]; omega)]
  simp [h1]
theorem app_iv {H : AH} {p : I} {l : List AV} {b n : Nat} {f : Bool} (hn : l.length = n) (hnb : n ≤ 1000000000) (hH : H[b]? = some (.row true 2 l)) :
    appendA tab H 36 (.ref b n) (.slice [iv p] f) = some (.ref b (n + 1), H.set b (.row true 2 (l ++ [iv p]))) :=
  app_row tab36 rfl tab40 rfl (by decide) (by simp [okc]) (by simp) (by decide) hn hnb hH

def LRe (T : Tp) (x : List I) (t : I) (H : AH) (i : Nat) (fr : AFr) (H' : AH) : Prop :=
  fr 1 = bx x ∧ fr 3 = .ptr H.length 1 0 0 ∧ fr 5 = .ptr (H.length + 1) 1 0 0 ∧ fr 8 = .slice [] true ∧ fr 9 = .int .i64 i ∧ i ≤ T.L.length ∧
  ∃ J, H' = H ++ J ∧ J[0]? = some (.row true 3 [tpA T]) ∧ J[1]? = some (.row true 2 [iv t]) ∧ Acc H J (fr 7) 2 ((valsV (T.L.take i) x t).map iv) (.slice [] true) ∧ (∀ n, fr 7 ≠ .ref (H.length + 0) n) ∧ (∀ n, fr 7 ≠ .ref (H.length + 1) n)
def LRo (T : Tp) (l : List I) (H : AH) (i : Nat) (fr : AFr) (H' : AH) : Prop :=
  fr 3 = .ptr H.length 1 0 0 ∧ fr 11 = .int .i64 i ∧ i ≤ T.out.length ∧
  ∃ J, H' = H ++ J ∧ J[0]? = some (.row true 3 [tpA T]) ∧ Acc H J (fr 8) 2 ((T.out.take i).map fun k : Nat => iv (at0 l k)) (.slice [] true) ∧ (∀ n, fr 8 ≠ .ref (H.length + 0) n) ∧
    (T.out ≠ [] → ∃ kk, fr 7 = .ref (H.length + kk) l.length ∧ J[kk]? = some (.row true 2 (l.map iv)) ∧ ∀ n, fr 8 ≠ .ref (H.length + kk) n)
end Go.Proofs.YtgabeieooemfeaaDoor.Arm

namespace Go.Proofs.YtgabeieooemfeaaDoor.Arm
open Go.Arm Go.Pl

theorem r8Arity (op : Int) (H : AH) : Sound E 28 [.int .i64 op] H (.ret (.int .i64 (arity op))) H := by
  refine sound_of_awp tabOk mixed Tryd.func28 rfl (by rfl) Tryd.ntmps28 (by kernel_rfl) (by simp) ?_
  by_cases h1 : 1 ≤ op
  · by_cases h3 : op ≤ 3
    · have e : arity op = 0 := by unfold arity; rw [if_pos (by omega)]
      simp [h1, h3]
      exact fin0 (rs := [.tmp 2]) (by rfl) (by simp [resA, e])
    · by_cases h4 : op ≤ 6
      · have e : arity op = 1 := by unfold arity; rw [if_neg (by omega), if_pos (by omega)]
        have h5 : 4 ≤ op := by omega
        simp [h1, h3, h4, h5]
        exact fin0 (rs := [.tmp 2]) (by rfl) (by simp [resA, e])
      · by_cases h6 : op ≤ 10
        · have e : arity op = 2 := by unfold arity; rw [if_neg (by omega), if_neg (by omega), if_pos (by omega)]
          have h5 : 4 ≤ op := by omega
          have h7 : 7 ≤ op := by omega
          simp [h1, h3, h4, h5, h6, h7]
          exact fin0 (rs := [.tmp 2]) (by rfl) (by simp [resA, e])
        · have e : arity op = -1 := by unfold arity; rw [if_neg (by omega), if_neg (by omega), if_neg (by omega)]
          have h5 : 4 ≤ op := by omega
          have h7 : 7 ≤ op := by omega
          simp [h1, h3, h4, h5, h6, h7]
          exact fin0 (rs := [.tmp 2]) (by rfl) (by simp [resA, e])
  · have e : arity op = -1 := by unfold arity; rw [if_neg (by omega), if_neg (by omega), if_neg (by omega)]
    have h5 : ¬ 4 ≤ op := by omega
    have h7 : ¬ 7 ≤ op := by omega
    simp [h1, h5, h7]
    exact fin0 (rs := [.tmp 2]) (by rfl) (by simp [resA, e])

theorem r8Same (x y : Ins) (H : AH) : Sound E 36 [insA x, insA y] H (.ret (.bool (decide (x = y)))) H := by
  refine sound_of_awp tabOk mixed Tryd.func36 rfl (by rfl) Tryd.ntmps36 (by kernel_rfl) (by simp) ?_
  have e : decide (x = y) = ((x.op == y.op && x.a == y.a) && x.b == y.b && x.c == y.c) := by
    rw [Bool.eq_iff_iff]; cases x; cases y; simp [and_assoc]
  rw [e]
  simp [insA]
  refine gateT (fun h1 => ?_) (fun h1 => ?_)
  · simp [h1]
    refine gateT (fun h2 => ?_) (fun h2 => ?_)
    · simp [h2]
      refine gateT (fun h3 => ?_) (fun h3 => ?_)
      · simp [h3]
        refine call_ret (rSame2 x.c y.c _) ?_
        simp
        exact fin1 (rs := [.tmp 4]) (by rfl) (by simp [resA, h1, h2, h3]) (by simp [noFs, noF])
      · simp [h3]
        exact fin1 (rs := [.tmp 4]) (by rfl) (by simp [resA, h1, h2, h3]) (by simp [noFs, noF])
    · simp [h2]
      exact fin1 (rs := [.tmp 4]) (by rfl) (by simp [resA, h1, h2]) (by simp [noFs, noF])
  · simp [h1]
    exact fin1 (rs := [.tmp 4]) (by rfl) (by simp [resA, h1]) (by simp [noFs, noF])

/-- A list of instructions, nil where it is empty. -/
def lA (l : List Ins) : AV := if l = [] then .nilslice else .slice (l.map insA) false
theorem ins_noFs (l : List Ins) (n : Nat) : noFs n (l.map insA) = true := noFs_iff.2 fun x hx => by obtain ⟨y, _, rfl⟩ := List.mem_map.1 hx; simp [insA, noF, noFs]
def LEm (l : List Ins) (x : Ins) (v : AV) (H : AH) (i : Nat) (fr : AFr) (H' : AH) : Prop :=
  fr 0 = v ∧ fr 3 = .ptr H.length 1 0 0 ∧ fr 6 = .int .i64 i ∧ i ≤ l.length ∧ (∀ j y, j < i → l[j]? = some y → y ≠ x) ∧ H' = H ++ [.row true 5 [insA x]]
theorem r8Emit (l : List Ins) (x : Ins) (hl : l.length ≤ 100000) (H : AH) : Sound E 29 [lA l, insA x] H (.ret (.tuple [lA (emitS l x).1, .int .i64 (emitS l x).2])) H := by
  refine sound_of_awp tabOk mixed Tryd.func29 rfl (by rfl) Tryd.ntmps29 (by kernel_rfl) (by simp) ?_
  simp
  refine loop_count (LEm l x (lA l) H) (fun i => l.length - i) 0 ⟨by simp, by simp, by simp, by omega, by intro j y hj; omega, by simp [insA]⟩ ?_
  rintro i fr H' ⟨g0, g3, g6, hi, hno, rfl⟩
  have hend : ∀ (fr : AFr), fr 0 = lA l → fr 3 = .ptr H.length 1 0 0 → fr 6 = .int .i64 l.length → (∀ j y, j < l.length → l[j]? = some y → y ≠ x) → ∀ J0 : AH, J0 = [.row true 5 [insA x]] →
      ∃ v' J', (∃ v1 J1, appendA tab (H ++ J0) 42 (.slice [] true) (lA l) = some (v1, H ++ J1) ∧ J1[0]? = some (.row true 5 [insA x]) ∧ appendA tab (H ++ J1) 42 v1 (.slice [insA x] true) = some (v', H ++ J')) ∧
        Acc H J' v' 5 ((l ++ [x]).map insA) (.slice [] true) := by
    intro fr g0 g3 g6 hno J0 hJ0
    subst hJ0
    have hels : els (H ++ [.row true 5 [insA x]]) (lA l) = some (l.map insA) := by
      unfold lA; split
      · rename_i h; subst h; rfl
      · rfl
    obtain ⟨v1, J1, hap, hacc, hk, _, hnew⟩ := Acc.push (T := tab) (t := 42) (e := 75) (H := H) (J := [.row true 5 [insA x]]) (v := .slice [] true) (v0 := .slice [] true) (xs := []) (.inl ⟨rfl, rfl⟩) tab42 rfl tab75 rfl hels (by rw [List.all_eq_true]; intro z hz; obtain ⟨y, _, rfl⟩ := List.mem_map.1 hz; simp [insA, okc]) ⟨by decide, by simp⟩ (by simp; omega) (by simp; omega)
    have hJ10 : J1[0]? = some (.row true 5 [insA x]) := hk 0 _ rfl (by simp)
    obtain ⟨v2, J2, hap2, hacc2, _⟩ := Acc.push (T := tab) (t := 42) (e := 75) (x := .slice [insA x] true) (ys := [insA x]) hacc tab42 rfl tab75 rfl rfl (by simp [insA, okc]) ⟨by decide, by simp⟩ (by simp; omega) (by simp; omega)
    exact ⟨v2, J2, ⟨v1, J1, hap, hJ10, hap2⟩, by simpa using hacc2⟩
  by_cases hl0 : l = []
  · subst hl0
    have hi0 : i = 0 := by simpa using hi
    subst hi0
    have hlA : lA [] = .nilslice := rfl
    have he : emitS [] x = ([x], 0) := rfl
    obtain ⟨v', J', ⟨v1, J1, ha1, hld, ha2⟩, hacc⟩ := hend fr g0 g3 g6 (by simp) _ rfl
    have hJ1l : 0 < J1.length := (List.getElem?_eq_some_iff.1 hld).1
    rw [he]
    simp [g0, g3, g6, hlA]
    refine bind_some (by simpa [insA, hlA] using ha1) ?_
    simp [g3, hld, insA]
    refine bind_some (by simpa [insA] using ha2) ?_
    simp [g0, hlA]
    rcases hacc with ⟨h0, _⟩ | ⟨kk, hv, hJk⟩
    · simp at h0
    subst hv
    have hnl : lA [x] = .slice ([x].map insA) false := by unfold lA; rw [if_neg (by simp)]
    rw [hnl]
    exact finC (J := J') (J' := J'.set kk (.row false 5 ([x].map insA))) (rs := [.tmp 4, .tmp 5]) (vs := [.ref (H.length + kk) ([x].map insA).length, .int .i64 0]) (vs' := [.slice ([x].map insA) false, .int .i64 0]) (by rfl) (by simp [resA]) (by simp [hJk] <;> simpa using hJk) (by simp [noFs, noF, insA]) rfl
  have hlA : lA l = .slice (l.map insA) false := by unfold lA; rw [if_neg hl0]
  simp [g0, g3, g6, hlA]
  refine branch (fun hc => ?_) (fun hc => ?_)
  · have hlt : i < l.length := by simpa using hc
    obtain ⟨y, hy⟩ := get_lt hlt
    have hyE : ∀ h, l[i]'h = y := fun h => (List.getElem?_eq_some_iff.1 hy).2
    have w2 : IntKind.i64.wrap ((i : Int) + 1) = ((i + 1 : Nat) : Int) := by rw [wrap64 (by omega) (by omega)]; omega
    simp [g0, g3, g6, hlA, hy, hyE, insA]
    refine callD_ret0 (fun Hx => r8Same y x Hx) ?_
    simp
    refine endD [] (by rfl) (by simp [okW, note, Eff.triv, Eff.wr, Eff.none, upTo, newAt]) ?_
    simp
    refine branch (fun hq => ?_) (fun hq => ?_)
    · have hq' : y = x := by simpa using hq
      subst hq'
      have he : emitS l y = (l, i) := by
        unfold emitS
        rw [show l.findIdx? (fun z => decide (z = y)) = some i from by
          rw [List.findIdx?_eq_some_iff_getElem]
          refine ⟨hlt, by simp [hyE], fun j hj => ?_⟩
          simpa using hno j _ hj (List.getElem?_eq_getElem (by omega))]
      rw [he]
      simp [g0, g6, hlA]
      exact finC (J := [.row true 5 [insA y]]) (rs := [.tmp 4, .tmp 5]) (vs := [.slice (l.map insA) false, .int .i64 i]) (vs' := [.slice (l.map insA) false, .int .i64 i]) (by rfl) (by simp [resA, g0, g6, hlA]) (by simp; rfl) (by simp [noFs, noF, ins_noFs]) rfl
    · have hq' : ¬ y = x := by simpa using hq
      simp [g6, w2]
      refine ⟨i + 1, by show l.length - (i + 1) < l.length - i; omega, by simp [g0, hlA], by simp [g3], by simp, by omega, fun j z hj hz => ?_, by simp [insA]⟩
      by_cases hji : j = i
      · subst hji; rw [hy] at hz; cases hz; exact hq'
      · exact hno j z (by omega) hz
  · have hi' : i = l.length := by have : ¬ i < l.length := by simpa using hc
                                  omega
    subst hi'
    have he : emitS l x = (l ++ [x], l.length) := by
      unfold emitS
      rw [show l.findIdx? (fun z => decide (z = x)) = none from by
        rw [List.findIdx?_eq_none_iff]
        intro z hz
        obtain ⟨j, hj⟩ := List.mem_iff_getElem?.1 hz
        simpa using hno j z (List.getElem?_eq_some_iff.1 hj).1 hj]
    rw [he]
    obtain ⟨v', J', ⟨v1, J1, ha1, hld, ha2⟩, hacc⟩ := hend fr g0 g3 g6 hno _ rfl
    simp [g0, g3, g6, hlA]
    refine bind_some (by simpa [insA, hlA] using ha1) ?_
    have hJ1l : 0 < J1.length := (List.getElem?_eq_some_iff.1 hld).1
    simp [g3, hld, insA]
    refine bind_some (by simpa [insA] using ha2) ?_
    simp [g0, hlA]
    rcases hacc with ⟨h0, _⟩ | ⟨kk, hv, hJk⟩
    · simp at h0
    subst hv
    have hnl : lA (l ++ [x]) = .slice ((l ++ [x]).map insA) false := by unfold lA; rw [if_neg (by simp)]
    rw [hnl]
    exact finC (J := J') (J' := J'.set kk (.row false 5 ((l ++ [x]).map insA))) (rs := [.tmp 4, .tmp 5]) (vs := [.ref (H.length + kk) ((l ++ [x]).map insA).length, .int .i64 l.length]) (vs' := [.slice ((l ++ [x]).map insA) false, .int .i64 l.length]) (by rfl) (by simp [resA]) (by simp [hJk]) (by simp only [noFs, noF, ins_noFs, Bool.and_self]) rfl
end Go.Proofs.YtgabeieooemfeaaDoor.Arm

namespace Go.Proofs.YtgabeieooemfeaaDoor.Arm
open Go.Arm Go.Pl

def at2 (ks : List Nat) : AV := .agg [.int .i64 ((ks[0]?).getD 0 : Nat), .int .i64 ((ks[1]?).getD 0 : Nat)]
def LCm (a : Ex) (r : List Nd) (l : List Ins) (H : AH) (i : Nat) (fr : AFr) (H' : AH) : Prop :=
  fr 0 = xs (serL ((kids a).drop i) ++ r) ∧ fr 1 = lA (cmpK ((kids a).take i) l).1 ∧ fr 7 = .ptr H.length 1 0 0 ∧ fr 8 = .ptr (H.length + 1) 1 0 0 ∧ fr 9 = .ptr (H.length + 2) 1 0 0 ∧ fr 10 = .int .i64 i ∧ i ≤ (kids a).length ∧
  H' = H ++ [.row true 4 [nd (root0 a)], .row true 5 [insA ⟨(root0 a).op, 0, 0, (0, 0)⟩], .row true 2 [at2 (cmpK ((kids a).take i) l).2]]
theorem r8compile : ∀ (n : Nat) (a : Ex) (r : List Nd) (l : List Ins), sz a ≤ n → sz a + r.length ≤ 1000000 → l.length + sz a ≤ 100000 → ∀ H, Sound E 20 [xs (ser a ++ r), lA l] H (.ret (.tuple [lA (cmpS a l).1, .int .i64 (cmpS a l).2, xs r])) H
  | 0, a, r, l, hn, hl, hll, H => by have := sz_pos a; omega
  | n + 1, a, r, l, hn, hl, hll, H => by
    refine sound_of_awp tabOk mixed Tryd.func20 rfl (by rfl) Tryd.ntmps20 (by kernel_rfl) (by simp) ?_
    have hp := sz_pos a
    have hget : (ser a ++ r)[0]? = some (root0 a) := by rw [ser_eq]; rfl
    have hmap : ((ser a ++ r).map nd)[0]? = some (nd (root0 a)) := by rw [List.getElem?_map, hget]; rfl
    have hmapE : ∀ h, ((ser a ++ r).map nd)[0]'h = nd (root0 a) := fun h => (List.getElem?_eq_some_iff.1 hmap).2
    have hlen : (ser a ++ r).length = sz a + r.length := by simp [sz]
    have hk := kids_le a
    have har := arity_root a
    have hsk := sz_kids a
    have hd1 : (ser a ++ r).drop 1 = serL (kids a) ++ r := by rw [ser_eq]; simp
    have ih : ∀ (k : Ex) (i : Nat) (r' : List Nd) (l' : List Ins), (kids a)[i]? = some k → sz k + r'.length ≤ 1000000 → l'.length + sz k ≤ 100000 → ∀ H, Sound E 20 [xs (ser k ++ r'), lA l'] H (.ret (.tuple [lA (cmpS k l').1, .int .i64 (cmpS k l').2, xs r'])) H := fun k i r' l' hi hb hb2 H =>
      r8compile n k r' l' (by have := kid_sz hi; omega) hb hb2 H
    unfold xs
    generalize hL : ser a ++ r = L at *
    simp [hmap, hmapE]
    refine endD [(9, 12), (10, 13), (11, 14)] (by rfl) (by simp [okW, note, Eff.triv, Eff.wr, Eff.none, upTo, newAt]) ?_
    simp
    refine bind_if (szOk_map fun _ => rfl) ?_
    refine bind_if (by omega) ?_
    have htail : (List.take L.length (L.map nd)).tail = (serL (kids a) ++ r).map nd := by rw [List.take_of_length_le (by simp), ← List.drop_one, ← List.map_drop, hd1]
    rw [htail]
    simp
    refine loop_count (LCm a r l H) (fun i => (kids a).length - i) 0 ⟨by simp [xs], by simp [cmpK], by simp, by simp, by simp, by simp, by omega, by simp [insA, at2, cmpK, nd]⟩ ?_
    rintro i fr H' ⟨g0, g1, g7, g8, g9, g10, hi, rfl⟩
    simp [g7, g10, nd]
    refine call_ret (r8Arity _ _) ?_
    rw [har]
    simp [g10]
    refine branch (fun hc => ?_) (fun hc => ?_)
    · have hlt : i < (kids a).length := by simpa using hc
      obtain ⟨k, hki⟩ := get_lt hlt
      have hd := serL_drop hki
      have htk : (kids a).take (i + 1) = (kids a).take i ++ [k] := by rw [List.take_add_one, hki]; rfl
      have w2 : IntKind.i64.wrap ((i : Int) + 1) = ((i + 1 : Nat) : Int) := by rw [wrap64 (by omega) (by omega)]; omega
      have hcl := cmpK_len ((kids a).take i) l
      have hsl : (serL ((kids a).take i)).length + (ser k).length + (serL ((kids a).drop (i + 1))).length ≤ sz a := by
        have h1 := congrArg List.length (serL_split (kids a) i)
        rw [hd] at h1
        simp only [List.length_append] at h1
        omega
      have hszk : sz k = (ser k).length := rfl
      simp [g0, g1, g10]
      have hS := ih k i (serL ((kids a).drop (i + 1)) ++ r) (cmpK ((kids a).take i) l).1 hki (by simp only [List.length_append]; omega) (by omega)
      rw [← List.append_assoc, ← hd] at hS
      have hsn := cmpK_snoc ((kids a).take i) k l
      have hql : (cmpK ((kids a).take i) l).2.length = i := by rw [hcl.2]; simp; omega
      rw [← htk] at hsn
      refine call_ret (hS _) ?_
      have wr1 : IntKind.i64.wrap 1 = 1 := wrap64 (by decide) (by decide)
      have wr2 : IntKind.i64.wrap 2 = 2 := wrap64 (by decide) (by decide)
      have hi01 : i = 0 ∨ i = 1 := by omega
      rcases hi01 with rfl | rfl
      · simp only [List.take_zero] at hsn hql ⊢
        simp [g9, g10, at2, cmpK, wr1]
        refine ⟨1, by show (kids a).length - 1 < (kids a).length - 0; omega, by simp [xs], by simp [hsn, cmpK], by simp [g7], by simp [g8], by simp [g9], by simp, by omega, ?_⟩
        simp [hsn, cmpK, at2]
      · generalize cmpK ((kids a).take 1) l = q at *
        obtain ⟨q1, q2⟩ := q
        simp only at hql hsn ⊢
        obtain ⟨k0, rfl⟩ : ∃ k0, q2 = [k0] := by
          match q2, hql with
          | [k0], _ => exact ⟨k0, rfl⟩
        simp [g9, g10, at2, wr2]
        refine ⟨2, by show (kids a).length - 2 < (kids a).length - 1; omega, by simp [xs], by simp [hsn], by simp [g7], by simp [g8], by simp [g9], by simp, by omega, ?_⟩
        simp [hsn, at2]
    · have hi' : i = (kids a).length := by have : ¬ i < (kids a).length := by simpa using hc
                                           omega
      subst hi'
      rw [List.take_length] at g1
      rw [List.drop_length] at g0
      have hce := cmpS_eq a l
      have hcl := cmpK_len (kids a) l
      simp only [List.take_length]
      generalize cmpK (kids a) l = q at *
      obtain ⟨q1, q2⟩ := q
      simp only at hce hcl g1 ⊢
      have hq1 : q1.length ≤ 100000 := by omega
      have hfin : ∀ (fr : AFr) (J : AH), fr 0 = xs r → fr 4 = lA (emitS q1 (insOf a q2)).1 → fr 5 = .int .i64 (emitS q1 (insOf a q2)).2 → fr 6 = xs r →
          bodyK E Tryd.f20 H (.ret (.tuple [lA (cmpS a l).1, .int .i64 (cmpS a l).2, xs r])) H .ret fr (H ++ J) := by
        intro fr J h0 h4 h5 h6
        rw [hce]
        have hsl : lA (emitS q1 (insOf a q2)).1 = .slice ((emitS q1 (insOf a q2)).1.map insA) false := by unfold lA; rw [if_neg (emitS_ne _ _)]
        rw [hsl] at h4 ⊢
        exact finC (J := J) (J' := J) (rs := [.tmp 4, .tmp 5, .tmp 6]) (vs := [.slice ((emitS q1 (insOf a q2)).1.map insA) false, .int .i64 (emitS q1 (insOf a q2)).2, xs r]) (vs' := [.slice ((emitS q1 (insOf a q2)).1.map insA) false, .int .i64 (emitS q1 (insOf a q2)).2, xs r]) (by rfl) (by simp [resA, h4, h5, h6]) (by simp [xs]) (by simp [noFs, noF, ins_noFs, xs, noFs_iff, nd]) rfl
      have hE : ∀ v, v = insA (insOf a q2) → ∀ H, Sound E 29 ([lA q1, v] ++ []) H (.ret (.tuple [lA (emitS q1 (insOf a q2)).1, .int .i64 (emitS q1 (insOf a q2)).2])) H := fun v hv H => by subst hv; exact r8Emit q1 (insOf a q2) hq1 H
      by_cases o1 : (root0 a).op = 1
      · simp [g1, g7, g8, g9, at2, insA, o1]
        refine call_ret (hE _ ?_ _) ?_
        · simp [insA, insOf, o1]
        simp [g0]
        exact hfin _ _ (by simp [g0, serL, xs]) (by simp) (by simp) (by simp [g0, serL, xs])
      · by_cases o2 : (root0 a).op = 2
        · simp [g1, g7, g8, g9, at2, insA, o1, o2]
          refine call_ret (hE _ ?_ _) ?_
          · simp [insA, insOf, o1, o2]
          simp [g0]
          exact hfin _ _ (by simp [g0, serL, xs]) (by simp) (by simp) (by simp [g0, serL, xs])
        · have o1' : ((root0 a).op == 1) = false := by simp [o1]
          have o2' : ((root0 a).op == 2) = false := by simp [o2]
          simp [g1, g7, g8, g9, at2, insA, o1', o2']
          refine call_ret (hE _ ?_ _) ?_
          · simp [insA, insOf, o1, o2]
          simp [g0]
          exact hfin _ _ (by simp [g0, serL, xs]) (by simp) (by simp) (by simp [g0, serL, xs])
end Go.Proofs.YtgabeieooemfeaaDoor.Arm

namespace Go.Proofs.YtgabeieooemfeaaDoor.Arm
open Go.Arm Go.Pl

theorem cmpAll_snoc : ∀ (F : List Ex) (e : Ex) (s : List Ins × List Nat), cmpAll (F ++ [e]) s = ((cmpS e (cmpAll F s).1).1, (cmpAll F s).2 ++ [(cmpS e (cmpAll F s).1).2])
  | [], e, s => rfl
  | a :: F, e, s => by simp only [List.cons_append, cmpAll, cmpAll_snoc F e]
theorem cmpAll_len : ∀ (F : List Ex) (s : List Ins × List Nat), (cmpAll F s).1.length ≤ s.1.length + (F.map sz).sum ∧ (cmpAll F s).2.length = s.2.length + F.length
  | [], s => by simp [cmpAll]
  | e :: r, s => by
    have h1 := cmpS_len e s.1
    have h2 := cmpAll_len r ((cmpS e s.1).1, s.2 ++ [(cmpS e s.1).2])
    simp only [cmpAll, List.map_cons, List.sum_cons, List.length_append, List.length_cons, List.length_nil] at h2 ⊢
    omega
theorem cmpS_ne (e : Ex) (l : List Ins) : (cmpS e l).1 ≠ [] := by rw [cmpS_eq]; exact emitS_ne _ _
theorem lA_cmp (e : Ex) (l : List Ins) : lA (cmpS e l).1 = .slice ((cmpS e l).1.map insA) false := by unfold lA; rw [if_neg (cmpS_ne _ _)]
def cSt (s : Sys) (q : List Ins × List Nat) (o : AV) : AV := .agg [.int .i64 s.f.length, lA q.1, o]
def LCp (s : Sys) (H : AH) (i : Nat) (fr : AFr) (H' : AH) : Prop :=
  fr 1 = .ptr H.length 1 0 0 ∧ fr 2 = .ptr (H.length + 1) 1 0 0 ∧ fr 3 = .ptr (H.length + 2) 1 0 0 ∧ fr 4 = .int .i64 i ∧ i ≤ s.f.length ∧
  ((i = 0 ∧ H' = H ++ [.row true 2 [sys s], .row true 3 [.agg [.int .i64 0, .nilslice, .nilslice]], .row true 3 [cSt s ([], []) .nilslice]]) ∨
   (0 < i ∧ H' = H ++ [.row true 2 [sys s], .row true 3 [.agg [.int .i64 0, .nilslice, .nilslice]], .row true 3 [cSt s (cmpAll (s.f.take i) ([], [])) (.ref (H.length + 3) i)], .row true 1 ((cmpAll (s.f.take i) ([], [])).2.map fun k : Nat => .int .i64 (k : Int))]))
theorem r8Compile (s : Sys) (hn : 0 < s.f.length ∧ s.f.length ≤ 6) (hf : ∀ e ∈ s.f, sz e ≤ 31) (H : AH) : Sound E 13 [sys s] H (.ret (tpA (cmpT s.f))) H := by
  refine sound_of_awp tabOk mixed Tryd.func13 rfl (by rfl) Tryd.ntmps13 (by kernel_rfl) (by simp) ?_
  simp [sys]
  refine loop_count (LCp s H) (fun i => s.f.length - i) 0 ⟨by simp, by simp, by simp, by simp, by omega, .inl ⟨rfl, by simp [sys, cSt, lA]⟩⟩ ?_
  rintro i fr H' ⟨g1, g2, g3, g4, hi, hmem⟩
  have hsum : ∀ j, ((s.f.take j).map sz).sum ≤ 31 * j := by
    intro j
    have : ∀ (l : List Ex), (∀ e ∈ l, sz e ≤ 31) → (l.map sz).sum ≤ 31 * l.length := by
      intro l
      induction l with
      | nil => intro _; simp
      | cons a r ih => intro h; have := ih fun e he => h e (by simp [he]); have := h a (by simp); simp; omega
    have h1 := this (s.f.take j) fun e he => hf e (List.mem_of_mem_take he)
    have h2 : (s.f.take j).length ≤ j := by simp; omega
    omega
  have hcl := cmpAll_len (s.f.take i) ([], [])
  have hsi := hsum i
  simp only [List.length_nil, Nat.zero_add] at hcl
  rcases hmem with ⟨rfl, rfl⟩ | ⟨hpos, rfl⟩
  · obtain ⟨e, he⟩ := get_lt (l := s.f) (i := 0) hn.1
    have heE : ∀ h, s.f[0]'h = e := fun h => (List.getElem?_eq_some_iff.1 he).2
    have hft : s.f.take 1 = [e] := by rw [List.take_add_one, he]; rfl
    have hc0 : (decide ((0 : Int) < (s.f.length : Int))) = true := by simp; omega
    have hS := r8compile (sz e) e [] [] (Nat.le_refl _) (by have := hf e (List.mem_of_getElem? he); simp; omega) (by have := hf e (List.mem_of_getElem? he); simp; omega)
    rw [List.append_nil, lA_cmp] at hS
    have hcf : cmpAll [e] ([], []) = ((cmpS e []).1, [(cmpS e []).2]) := rfl
    have wr1 : IntKind.i64.wrap 1 = 1 := wrap64 (by decide) (by decide)
    simp [g1, g3, g4, sys, hn.1, he, heE, cSt, lA, xs]
    refine callD_ret0 (fun Hx => by simpa [xs, show lA [] = AV.nilslice from rfl] using hS Hx) ?_
    simp
    refine endD [] (by rfl) (by simp [okW, note, Eff.triv, Eff.wr, Eff.none, upTo, newAt]) ?_
    simp [g3]
    refine bind_some (app_gen0 (x := .int .i64 (cmpS e []).2) tab43 rfl tab3 rfl (by simp [okc]) rfl (by decide)) ?_
    simp [g3, g4, wr1]
    refine ⟨1, by show s.f.length - 1 < s.f.length - 0; omega, by simp [g1], by simp [g2], by simp [g3], by simp, by omega, .inr ⟨by decide, ?_⟩⟩
    rw [hft, hcf]
    simp [sys, cSt, lA_cmp, xs]
  · simp [g1, g3, g4, sys, cSt]
    refine branch (fun hc => ?_) (fun hc => ?_)
    · have hlt : i < s.f.length := by simpa using hc
      obtain ⟨e, he⟩ := get_lt hlt
      have heE : ∀ h, s.f[i]'h = e := fun h => (List.getElem?_eq_some_iff.1 he).2
      have hft : s.f.take (i + 1) = s.f.take i ++ [e] := by rw [List.take_add_one, he]; rfl
      have hsz := hf e (List.mem_of_getElem? he)
      have w2 : IntKind.i64.wrap ((i : Int) + 1) = ((i + 1 : Nat) : Int) := by rw [wrap64 (by omega) (by omega)]; omega
      have hsn := cmpAll_snoc (s.f.take i) e ([], [])
      rw [← hft] at hsn
      have hq2 : (cmpAll (s.f.take i) ([], [])).2.length = i := by rw [hcl.2]; simp; omega
      generalize cmpAll (s.f.take i) ([], []) = q at *
      have hS := r8compile (sz e) e [] q.1 (Nat.le_refl _) (by simp; omega) (by omega)
      rw [List.append_nil, lA_cmp] at hS
      simp [g1, g3, g4, sys, he, heE, cSt, xs]
      refine callD_ret0 (fun Hx => by simpa [xs] using hS Hx) ?_
      simp
      refine endD [] (by rfl) (by simp [okW, note, Eff.triv, Eff.wr, Eff.none, upTo, newAt]) ?_
      simp [g3]
      refine bind_some (app_gen (n := i) (x := .int .i64 (cmpS e q.1).2) (l := q.2.map fun k : Nat => .int .i64 (k : Int)) tab43 rfl tab3 rfl (by simp [okc]) rfl (by decide) (by simp [hq2]) (by omega) (by simp)) ?_
      simp [g3, g4, w2]
      refine ⟨i + 1, by show s.f.length - (i + 1) < s.f.length - i; omega, by simp [g1], by simp [g2], by simp [g3], by simp, by omega, .inr ⟨by omega, ?_⟩⟩
      rw [hsn]
      simp [sys, cSt, lA_cmp, xs]
    · have hi' : i = s.f.length := by have : ¬ i < s.f.length := by simpa using hc
                                      omega
      subst hi'
      rw [List.take_length] at hcl hsi ⊢
      have hq2 := hcl.2
      have hct : cmpT s.f = ⟨s.f.length, (cmpAll s.f ([], [])).1, (cmpAll s.f ([], [])).2⟩ := rfl
      rw [hct]
      have hql : (cmpAll s.f ([], [])).1.length ≤ 400 := by omega
      have hqe : (cmpAll s.f ([], [])).1 ≠ [] := by
        intro h0
        obtain ⟨F, e, hFe⟩ : ∃ F e, s.f = F ++ [e] := ⟨s.f.dropLast, s.f.getLast (by intro h; rw [h] at hn; simp at hn), (List.dropLast_concat_getLast _).symm⟩
        rw [hFe, cmpAll_snoc] at h0
        simp only [cmpS_eq] at h0
        exact emitS_ne _ _ h0
      generalize cmpAll s.f ([], []) = q at *
      have hlq : lA q.1 = .slice (q.1.map insA) false := by unfold lA; rw [if_neg hqe]
      have hgt : ¬ (400 : Int) < (q.1.length : Int) := by omega
      simp [g2, g3, hlq, hgt]
      exact finC (rs := [.cell 2 45]) (vs := [.agg [.int .i64 s.f.length, .slice (q.1.map insA) false, .ref (H.length + 3) s.f.length]]) (vs' := [tpA ⟨s.f.length, q.1, q.2⟩]) (by rfl) (by simp [resA, g2]) (by simp [tpA, outA, hq2]; rfl) (by simp [tpA, outA, noFs, noF, ins_noFs, noFs_iff]) rfl
end Go.Proofs.YtgabeieooemfeaaDoor.Arm

namespace Go.Proofs.YtgabeieooemfeaaDoor.Arm
open Go.Arm Go.Pl

/-- Boxes near the origin. -/
def nrb (l : List I) (w : Int) (n : Nat) : List I := (List.range n).map fun k => nearI ((l[k]?).getD (0, 0)) w
theorem nrb_succ (l : List I) (w : Int) (n : Nat) : nrb l w (n + 1) = nrb l w n ++ [nearI ((l[n]?).getD (0, 0)) w] := by simp [nrb, List.range_succ]
theorem nrb_len (l : List I) (w : Int) (n : Nat) : (nrb l w n).length = n := by simp [nrb]
theorem nearI_valid (p : I) {w : Int} (hw : 1 ≤ w ∧ w ≤ 1000000) : vB (nearI p w) = true := near_valid p hw
theorem nrb_valid (l : List I) {w : Int} (hw : 1 ≤ w ∧ w ≤ 1000000) (n : Nat) : allV (nrb l w n) := fun p hp => by
  obtain ⟨k, _, rfl⟩ := List.mem_map.1 hp; exact nearI_valid _ hw
def LBo (l : List I) (w : Int) (n : Nat) (H : AH) (i : Nat) (fr : AFr) (H' : AH) : Prop :=
  fr 0 = bx l ∧ fr 1 = .int .i64 n ∧ fr 2 = .int .i64 w ∧ fr 8 = .int .i64 i ∧ i ≤ n ∧ ∃ J, H' = H ++ J ∧ Acc H J (fr 7) 2 ((nrb l w i).map iv) (.slice [] true)
end Go.Proofs.YtgabeieooemfeaaDoor.Arm
