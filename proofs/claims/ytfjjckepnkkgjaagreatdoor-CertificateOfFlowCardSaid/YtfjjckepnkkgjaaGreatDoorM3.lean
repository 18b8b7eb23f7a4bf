/- Part of a proof: what the functions of the program do to abstract states, step by step. -/
import Derived.Test.YtfjjckepnkkgjaaGreatDoorM2
import Derived.Test.YtfjjckepnkkgjaaGreatDoorChecked
import Derived.KernelRfl
set_option linter.unusedVariables false
set_option linter.unusedSimpArgs false
namespace Go.Proofs.YtfjjckepnkkgjaaGreatDoor.Arm
open Go.Arm
def i1 : TI := ⟨.func, 1, 8, .nilfunc, true⟩
theorem ok1 : TyOk Tryz.prog 1 i1 := ⟨by kernel_rfl, by kernel_rfl, fun _ => by kernel_rfl⟩
def i2 : TI := ⟨.int .i64, 1, 8, .int .i64 0, true⟩
theorem ok2 : TyOk Tryz.prog 2 i2 := ⟨by kernel_rfl, by kernel_rfl, fun _ => by kernel_rfl⟩
def i3 : TI := ⟨.int .i64, 1, 8, .int .i64 0, true⟩
theorem ok3 : TyOk Tryz.prog 3 i3 := ⟨by kernel_rfl, by kernel_rfl, fun _ => by kernel_rfl⟩
def i4 : TI := ⟨.bool, 1, 1, .bool false, true⟩
theorem ok4 : TyOk Tryz.prog 4 i4 := ⟨by kernel_rfl, by kernel_rfl, fun _ => by kernel_rfl⟩
def i5 : TI := ⟨.int .u8, 1, 1, .int .u8 0, true⟩
theorem ok5 : TyOk Tryz.prog 5 i5 := ⟨by kernel_rfl, by kernel_rfl, fun _ => by kernel_rfl⟩
def i6 : TI := ⟨.int .u8, 1, 1, .int .u8 0, true⟩
theorem ok6 : TyOk Tryz.prog 6 i6 := ⟨by kernel_rfl, by kernel_rfl, fun _ => by kernel_rfl⟩
def i7 : TI := ⟨.struct [(2, 0), (3, 1), (4, 2), (6, 3)], 4, 24, .agg [.int .i64 0, .int .i64 0, .bool false, .int .u8 0], true⟩
theorem ok7 : TyOk Tryz.prog 7 i7 := ⟨by kernel_rfl, by kernel_rfl, fun _ => by kernel_rfl⟩
def i8 : TI := ⟨.struct [(2, 0), (3, 1), (4, 2), (6, 3)], 4, 24, .agg [.int .i64 0, .int .i64 0, .bool false, .int .u8 0], true⟩
theorem ok8 : TyOk Tryz.prog 8 i8 := ⟨by kernel_rfl, by kernel_rfl, fun _ => by kernel_rfl⟩
def i9 : TI := ⟨.str, 1, 16, .str ⟨#[]⟩, true⟩
theorem ok9 : TyOk Tryz.prog 9 i9 := ⟨by kernel_rfl, by kernel_rfl, fun _ => by kernel_rfl⟩
def i10 : TI := ⟨.str, 1, 16, .str ⟨#[]⟩, true⟩
theorem ok10 : TyOk Tryz.prog 10 i10 := ⟨by kernel_rfl, by kernel_rfl, fun _ => by kernel_rfl⟩
def i11 : TI := ⟨.str, 1, 16, .str ⟨#[]⟩, true⟩
theorem ok11 : TyOk Tryz.prog 11 i11 := ⟨by kernel_rfl, by kernel_rfl, fun _ => by kernel_rfl⟩
def i12 : TI := ⟨.int .u64, 1, 8, .int .u64 0, true⟩
theorem ok12 : TyOk Tryz.prog 12 i12 := ⟨by kernel_rfl, by kernel_rfl, fun _ => by kernel_rfl⟩
def i13 : TI := ⟨.struct [(9, 0), (12, 1)], 2, 24, .agg [.str ⟨#[]⟩, .int .u64 0], false⟩
theorem ok13 : TyOk Tryz.prog 13 i13 := ⟨by kernel_rfl, by kernel_rfl, fun h => by cases h⟩
def i14 : TI := ⟨.struct [(9, 0), (12, 1)], 2, 24, .agg [.str ⟨#[]⟩, .int .u64 0], false⟩
theorem ok14 : TyOk Tryz.prog 14 i14 := ⟨by kernel_rfl, by kernel_rfl, fun h => by cases h⟩
def i15 : TI := ⟨.ptr, 1, 8, .nilptr, true⟩
theorem ok15 : TyOk Tryz.prog 15 i15 := ⟨by kernel_rfl, by kernel_rfl, fun _ => by kernel_rfl⟩
def i16 : TI := ⟨.ptr, 1, 8, .nilptr, true⟩
theorem ok16 : TyOk Tryz.prog 16 i16 := ⟨by kernel_rfl, by kernel_rfl, fun _ => by kernel_rfl⟩
def i17 : TI := ⟨.ptr, 1, 8, .nilptr, true⟩
theorem ok17 : TyOk Tryz.prog 17 i17 := ⟨by kernel_rfl, by kernel_rfl, fun _ => by kernel_rfl⟩
def i18 : TI := ⟨.struct [(17, 0)], 1, 8, .agg [.nilptr], false⟩
theorem ok18 : TyOk Tryz.prog 18 i18 := ⟨by kernel_rfl, by kernel_rfl, fun h => by cases h⟩
def i19 : TI := ⟨.struct [(17, 0)], 1, 8, .agg [.nilptr], false⟩
theorem ok19 : TyOk Tryz.prog 19 i19 := ⟨by kernel_rfl, by kernel_rfl, fun h => by cases h⟩
def i20 : TI := ⟨.iface, 1, 16, .niliface, true⟩
theorem ok20 : TyOk Tryz.prog 20 i20 := ⟨by kernel_rfl, by kernel_rfl, fun _ => by kernel_rfl⟩
def i21 : TI := ⟨.int .i32, 1, 4, .int .i32 0, true⟩
theorem ok21 : TyOk Tryz.prog 21 i21 := ⟨by kernel_rfl, by kernel_rfl, fun _ => by kernel_rfl⟩
def i22 : TI := ⟨.slice 63, 1, 24, .nilslice, true⟩
theorem ok22 : TyOk Tryz.prog 22 i22 := ⟨by kernel_rfl, by kernel_rfl, fun _ => by kernel_rfl⟩
def i23 : TI := ⟨.slice 3, 1, 24, .nilslice, true⟩
theorem ok23 : TyOk Tryz.prog 23 i23 := ⟨by kernel_rfl, by kernel_rfl, fun _ => by kernel_rfl⟩
def i24 : TI := ⟨.struct [(3, 0), (22, 1), (23, 2)], 3, 56, .agg [.int .i64 0, .nilslice, .nilslice], true⟩
theorem ok24 : TyOk Tryz.prog 24 i24 := ⟨by kernel_rfl, by kernel_rfl, fun _ => by kernel_rfl⟩
def i25 : TI := ⟨.struct [(3, 0), (22, 1), (23, 2)], 3, 56, .agg [.int .i64 0, .nilslice, .nilslice], true⟩
theorem ok25 : TyOk Tryz.prog 25 i25 := ⟨by kernel_rfl, by kernel_rfl, fun _ => by kernel_rfl⟩
def i26 : TI := ⟨.slice 54, 1, 24, .nilslice, true⟩
theorem ok26 : TyOk Tryz.prog 26 i26 := ⟨by kernel_rfl, by kernel_rfl, fun _ => by kernel_rfl⟩
def i27 : TI := ⟨.int .u16, 1, 2, .int .u16 0, true⟩
theorem ok27 : TyOk Tryz.prog 27 i27 := ⟨by kernel_rfl, by kernel_rfl, fun _ => by kernel_rfl⟩
def i28 : TI := ⟨.struct [(25, 0), (26, 3), (5, 4), (21, 5), (27, 6)], 7, 96, .agg [.int .i64 0, .nilslice, .nilslice, .nilslice, .int .u8 0, .int .i32 0, .int .u16 0], true⟩
theorem ok28 : TyOk Tryz.prog 28 i28 := ⟨by kernel_rfl, by kernel_rfl, fun _ => by kernel_rfl⟩
def i29 : TI := ⟨.struct [(25, 0), (26, 3), (5, 4), (21, 5), (27, 6)], 7, 96, .agg [.int .i64 0, .nilslice, .nilslice, .nilslice, .int .u8 0, .int .i32 0, .int .u16 0], true⟩
theorem ok29 : TyOk Tryz.prog 29 i29 := ⟨by kernel_rfl, by kernel_rfl, fun _ => by kernel_rfl⟩
def i30 : TI := ⟨.func, 1, 8, .nilfunc, true⟩
theorem ok30 : TyOk Tryz.prog 30 i30 := ⟨by kernel_rfl, by kernel_rfl, fun _ => by kernel_rfl⟩
def i31 : TI := ⟨.struct [(3, 0), (2, 1), (2, 2), (2, 3), (2, 4)], 5, 40, .agg [.int .i64 0, .int .i64 0, .int .i64 0, .int .i64 0, .int .i64 0], true⟩
theorem ok31 : TyOk Tryz.prog 31 i31 := ⟨by kernel_rfl, by kernel_rfl, fun _ => by kernel_rfl⟩
def i32 : TI := ⟨.struct [(3, 0), (2, 1), (2, 2), (2, 3), (2, 4)], 5, 40, .agg [.int .i64 0, .int .i64 0, .int .i64 0, .int .i64 0, .int .i64 0], true⟩
theorem ok32 : TyOk Tryz.prog 32 i32 := ⟨by kernel_rfl, by kernel_rfl, fun _ => by kernel_rfl⟩
def i33 : TI := ⟨.struct [(32, 0), (2, 5), (2, 6)], 7, 56, .agg [.int .i64 0, .int .i64 0, .int .i64 0, .int .i64 0, .int .i64 0, .int .i64 0, .int .i64 0], true⟩
theorem ok33 : TyOk Tryz.prog 33 i33 := ⟨by kernel_rfl, by kernel_rfl, fun _ => by kernel_rfl⟩
def i34 : TI := ⟨.struct [(32, 0), (2, 5), (2, 6)], 7, 56, .agg [.int .i64 0, .int .i64 0, .int .i64 0, .int .i64 0, .int .i64 0, .int .i64 0, .int .i64 0], true⟩
theorem ok34 : TyOk Tryz.prog 34 i34 := ⟨by kernel_rfl, by kernel_rfl, fun _ => by kernel_rfl⟩
def i36 : TI := ⟨.func, 1, 8, .nilfunc, true⟩
theorem ok36 : TyOk Tryz.prog 36 i36 := ⟨by kernel_rfl, by kernel_rfl, fun _ => by kernel_rfl⟩
def i37 : TI := ⟨.slice 47, 1, 24, .nilslice, true⟩
theorem ok37 : TyOk Tryz.prog 37 i37 := ⟨by kernel_rfl, by kernel_rfl, fun _ => by kernel_rfl⟩
def i38 : TI := ⟨.int .i64, 1, 8, .int .i64 0, true⟩
theorem ok38 : TyOk Tryz.prog 38 i38 := ⟨by kernel_rfl, by kernel_rfl, fun _ => by kernel_rfl⟩
def i40 : TI := ⟨.func, 1, 8, .nilfunc, true⟩
theorem ok40 : TyOk Tryz.prog 40 i40 := ⟨by kernel_rfl, by kernel_rfl, fun _ => by kernel_rfl⟩
def i41 : TI := ⟨.func, 1, 8, .nilfunc, true⟩
theorem ok41 : TyOk Tryz.prog 41 i41 := ⟨by kernel_rfl, by kernel_rfl, fun _ => by kernel_rfl⟩
def i42 : TI := ⟨.func, 1, 8, .nilfunc, true⟩
theorem ok42 : TyOk Tryz.prog 42 i42 := ⟨by kernel_rfl, by kernel_rfl, fun _ => by kernel_rfl⟩
def i44 : TI := ⟨.func, 1, 8, .nilfunc, true⟩
theorem ok44 : TyOk Tryz.prog 44 i44 := ⟨by kernel_rfl, by kernel_rfl, fun _ => by kernel_rfl⟩
def i45 : TI := ⟨.func, 1, 8, .nilfunc, true⟩
theorem ok45 : TyOk Tryz.prog 45 i45 := ⟨by kernel_rfl, by kernel_rfl, fun _ => by kernel_rfl⟩
def i46 : TI := ⟨.struct [(2, 0), (2, 1), (26, 2), (26, 3), (26, 4), (26, 5)], 6, 112, .agg [.int .i64 0, .int .i64 0, .nilslice, .nilslice, .nilslice, .nilslice], true⟩
theorem ok46 : TyOk Tryz.prog 46 i46 := ⟨by kernel_rfl, by kernel_rfl, fun _ => by kernel_rfl⟩
def i47 : TI := ⟨.struct [(2, 0), (2, 1), (26, 2), (26, 3), (26, 4), (26, 5)], 6, 112, .agg [.int .i64 0, .int .i64 0, .nilslice, .nilslice, .nilslice, .nilslice], true⟩
theorem ok47 : TyOk Tryz.prog 47 i47 := ⟨by kernel_rfl, by kernel_rfl, fun _ => by kernel_rfl⟩
def i48 : TI := ⟨.func, 1, 8, .nilfunc, true⟩
theorem ok48 : TyOk Tryz.prog 48 i48 := ⟨by kernel_rfl, by kernel_rfl, fun _ => by kernel_rfl⟩
def i49 : TI := ⟨.int .u32, 1, 4, .int .u32 0, true⟩
theorem ok49 : TyOk Tryz.prog 49 i49 := ⟨by kernel_rfl, by kernel_rfl, fun _ => by kernel_rfl⟩
def i50 : TI := ⟨.arr 2 49, 2, 8, .agg [.int .u32 0, .int .u32 0], true⟩
theorem ok50 : TyOk Tryz.prog 50 i50 := ⟨by kernel_rfl, by kernel_rfl, fun _ => by kernel_rfl⟩
def i51 : TI := ⟨.func, 1, 8, .nilfunc, true⟩
theorem ok51 : TyOk Tryz.prog 51 i51 := ⟨by kernel_rfl, by kernel_rfl, fun _ => by kernel_rfl⟩
def i52 : TI := ⟨.func, 1, 8, .nilfunc, true⟩
theorem ok52 : TyOk Tryz.prog 52 i52 := ⟨by kernel_rfl, by kernel_rfl, fun _ => by kernel_rfl⟩
def i53 : TI := ⟨.struct [(2, 0), (2, 1)], 2, 16, .agg [.int .i64 0, .int .i64 0], true⟩
theorem ok53 : TyOk Tryz.prog 53 i53 := ⟨by kernel_rfl, by kernel_rfl, fun _ => by kernel_rfl⟩
def i54 : TI := ⟨.struct [(2, 0), (2, 1)], 2, 16, .agg [.int .i64 0, .int .i64 0], true⟩
theorem ok54 : TyOk Tryz.prog 54 i54 := ⟨by kernel_rfl, by kernel_rfl, fun _ => by kernel_rfl⟩
def i56 : TI := ⟨.func, 1, 8, .nilfunc, true⟩
theorem ok56 : TyOk Tryz.prog 56 i56 := ⟨by kernel_rfl, by kernel_rfl, fun _ => by kernel_rfl⟩
def i57 : TI := ⟨.func, 1, 8, .nilfunc, true⟩
theorem ok57 : TyOk Tryz.prog 57 i57 := ⟨by kernel_rfl, by kernel_rfl, fun _ => by kernel_rfl⟩
def i58 : TI := ⟨.func, 1, 8, .nilfunc, true⟩
theorem ok58 : TyOk Tryz.prog 58 i58 := ⟨by kernel_rfl, by kernel_rfl, fun _ => by kernel_rfl⟩
def i59 : TI := ⟨.func, 1, 8, .nilfunc, true⟩
theorem ok59 : TyOk Tryz.prog 59 i59 := ⟨by kernel_rfl, by kernel_rfl, fun _ => by kernel_rfl⟩
def i60 : TI := ⟨.func, 1, 8, .nilfunc, true⟩
theorem ok60 : TyOk Tryz.prog 60 i60 := ⟨by kernel_rfl, by kernel_rfl, fun _ => by kernel_rfl⟩
def i61 : TI := ⟨.arr 3 49, 3, 12, .agg [.int .u32 0, .int .u32 0, .int .u32 0], true⟩
theorem ok61 : TyOk Tryz.prog 61 i61 := ⟨by kernel_rfl, by kernel_rfl, fun _ => by kernel_rfl⟩
def i62 : TI := ⟨.struct [(3, 0), (3, 1), (3, 2), (54, 3)], 5, 40, .agg [.int .i64 0, .int .i64 0, .int .i64 0, .int .i64 0, .int .i64 0], true⟩
theorem ok62 : TyOk Tryz.prog 62 i62 := ⟨by kernel_rfl, by kernel_rfl, fun _ => by kernel_rfl⟩
def i63 : TI := ⟨.struct [(3, 0), (3, 1), (3, 2), (54, 3)], 5, 40, .agg [.int .i64 0, .int .i64 0, .int .i64 0, .int .i64 0, .int .i64 0], true⟩
theorem ok63 : TyOk Tryz.prog 63 i63 := ⟨by kernel_rfl, by kernel_rfl, fun _ => by kernel_rfl⟩
def i64 : TI := ⟨.func, 1, 8, .nilfunc, true⟩
theorem ok64 : TyOk Tryz.prog 64 i64 := ⟨by kernel_rfl, by kernel_rfl, fun _ => by kernel_rfl⟩
def i65 : TI := ⟨.func, 1, 8, .nilfunc, true⟩
theorem ok65 : TyOk Tryz.prog 65 i65 := ⟨by kernel_rfl, by kernel_rfl, fun _ => by kernel_rfl⟩
def i66 : TI := ⟨.func, 1, 8, .nilfunc, true⟩
theorem ok66 : TyOk Tryz.prog 66 i66 := ⟨by kernel_rfl, by kernel_rfl, fun _ => by kernel_rfl⟩
def i67 : TI := ⟨.func, 1, 8, .nilfunc, true⟩
theorem ok67 : TyOk Tryz.prog 67 i67 := ⟨by kernel_rfl, by kernel_rfl, fun _ => by kernel_rfl⟩
def i68 : TI := ⟨.struct [(37, 0), (5, 1), (2, 2), (54, 3), (3, 5)], 6, 64, .agg [.nilslice, .int .u8 0, .int .i64 0, .int .i64 0, .int .i64 0, .int .i64 0], true⟩
theorem ok68 : TyOk Tryz.prog 68 i68 := ⟨by kernel_rfl, by kernel_rfl, fun _ => by kernel_rfl⟩
def i69 : TI := ⟨.struct [(37, 0), (5, 1), (2, 2), (54, 3), (3, 5)], 6, 64, .agg [.nilslice, .int .u8 0, .int .i64 0, .int .i64 0, .int .i64 0, .int .i64 0], true⟩
theorem ok69 : TyOk Tryz.prog 69 i69 := ⟨by kernel_rfl, by kernel_rfl, fun _ => by kernel_rfl⟩
def i70 : TI := ⟨.func, 1, 8, .nilfunc, true⟩
theorem ok70 : TyOk Tryz.prog 70 i70 := ⟨by kernel_rfl, by kernel_rfl, fun _ => by kernel_rfl⟩
def i71 : TI := ⟨.func, 1, 8, .nilfunc, true⟩
theorem ok71 : TyOk Tryz.prog 71 i71 := ⟨by kernel_rfl, by kernel_rfl, fun _ => by kernel_rfl⟩
def i72 : TI := ⟨.func, 1, 8, .nilfunc, true⟩
theorem ok72 : TyOk Tryz.prog 72 i72 := ⟨by kernel_rfl, by kernel_rfl, fun _ => by kernel_rfl⟩
def i73 : TI := ⟨.func, 1, 8, .nilfunc, true⟩
theorem ok73 : TyOk Tryz.prog 73 i73 := ⟨by kernel_rfl, by kernel_rfl, fun _ => by kernel_rfl⟩
def i75 : TI := ⟨.func, 1, 8, .nilfunc, true⟩
theorem ok75 : TyOk Tryz.prog 75 i75 := ⟨by kernel_rfl, by kernel_rfl, fun _ => by kernel_rfl⟩
def i76 : TI := ⟨.func, 1, 8, .nilfunc, true⟩
theorem ok76 : TyOk Tryz.prog 76 i76 := ⟨by kernel_rfl, by kernel_rfl, fun _ => by kernel_rfl⟩
def i77 : TI := ⟨.func, 1, 8, .nilfunc, true⟩
theorem ok77 : TyOk Tryz.prog 77 i77 := ⟨by kernel_rfl, by kernel_rfl, fun _ => by kernel_rfl⟩
def i78 : TI := ⟨.slice 81, 1, 24, .nilslice, true⟩
theorem ok78 : TyOk Tryz.prog 78 i78 := ⟨by kernel_rfl, by kernel_rfl, fun _ => by kernel_rfl⟩
def i79 : TI := ⟨.func, 1, 8, .nilfunc, true⟩
theorem ok79 : TyOk Tryz.prog 79 i79 := ⟨by kernel_rfl, by kernel_rfl, fun _ => by kernel_rfl⟩
def i80 : TI := ⟨.struct [(3, 0), (54, 1), (26, 3)], 4, 48, .agg [.int .i64 0, .int .i64 0, .int .i64 0, .nilslice], true⟩
theorem ok80 : TyOk Tryz.prog 80 i80 := ⟨by kernel_rfl, by kernel_rfl, fun _ => by kernel_rfl⟩
def i81 : TI := ⟨.struct [(3, 0), (54, 1), (26, 3)], 4, 48, .agg [.int .i64 0, .int .i64 0, .int .i64 0, .nilslice], true⟩
theorem ok81 : TyOk Tryz.prog 81 i81 := ⟨by kernel_rfl, by kernel_rfl, fun _ => by kernel_rfl⟩
def i82 : TI := ⟨.func, 1, 8, .nilfunc, true⟩
theorem ok82 : TyOk Tryz.prog 82 i82 := ⟨by kernel_rfl, by kernel_rfl, fun _ => by kernel_rfl⟩
def i83 : TI := ⟨.func, 1, 8, .nilfunc, true⟩
theorem ok83 : TyOk Tryz.prog 83 i83 := ⟨by kernel_rfl, by kernel_rfl, fun _ => by kernel_rfl⟩
def i84 : TI := ⟨.func, 1, 8, .nilfunc, true⟩
theorem ok84 : TyOk Tryz.prog 84 i84 := ⟨by kernel_rfl, by kernel_rfl, fun _ => by kernel_rfl⟩
def i85 : TI := ⟨.slice 136, 1, 24, .nilslice, true⟩
theorem ok85 : TyOk Tryz.prog 85 i85 := ⟨by kernel_rfl, by kernel_rfl, fun _ => by kernel_rfl⟩
def i86 : TI := ⟨.struct [(85, 0), (26, 1), (5, 2), (21, 3), (27, 4)], 5, 64, .agg [.nilslice, .nilslice, .int .u8 0, .int .i32 0, .int .u16 0], true⟩
theorem ok86 : TyOk Tryz.prog 86 i86 := ⟨by kernel_rfl, by kernel_rfl, fun _ => by kernel_rfl⟩
def i87 : TI := ⟨.struct [(85, 0), (26, 1), (5, 2), (21, 3), (27, 4)], 5, 64, .agg [.nilslice, .nilslice, .int .u8 0, .int .i32 0, .int .u16 0], true⟩
theorem ok87 : TyOk Tryz.prog 87 i87 := ⟨by kernel_rfl, by kernel_rfl, fun _ => by kernel_rfl⟩
def i88 : TI := ⟨.func, 1, 8, .nilfunc, true⟩
theorem ok88 : TyOk Tryz.prog 88 i88 := ⟨by kernel_rfl, by kernel_rfl, fun _ => by kernel_rfl⟩
def i89 : TI := ⟨.slice 9, 1, 24, .nilslice, true⟩
theorem ok89 : TyOk Tryz.prog 89 i89 := ⟨by kernel_rfl, by kernel_rfl, fun _ => by kernel_rfl⟩
def i90 : TI := ⟨.struct [(89, 0), (85, 1)], 2, 48, .agg [.nilslice, .nilslice], true⟩
theorem ok90 : TyOk Tryz.prog 90 i90 := ⟨by kernel_rfl, by kernel_rfl, fun _ => by kernel_rfl⟩
def i91 : TI := ⟨.struct [(89, 0), (85, 1)], 2, 48, .agg [.nilslice, .nilslice], true⟩
theorem ok91 : TyOk Tryz.prog 91 i91 := ⟨by kernel_rfl, by kernel_rfl, fun _ => by kernel_rfl⟩
def i92 : TI := ⟨.func, 1, 8, .nilfunc, true⟩
theorem ok92 : TyOk Tryz.prog 92 i92 := ⟨by kernel_rfl, by kernel_rfl, fun _ => by kernel_rfl⟩
def i93 : TI := ⟨.func, 1, 8, .nilfunc, true⟩
theorem ok93 : TyOk Tryz.prog 93 i93 := ⟨by kernel_rfl, by kernel_rfl, fun _ => by kernel_rfl⟩
def i94 : TI := ⟨.slice 101, 1, 24, .nilslice, true⟩
theorem ok94 : TyOk Tryz.prog 94 i94 := ⟨by kernel_rfl, by kernel_rfl, fun _ => by kernel_rfl⟩
def i95 : TI := ⟨.struct [(2, 0), (26, 1), (94, 2)], 3, 56, .agg [.int .i64 0, .nilslice, .nilslice], true⟩
theorem ok95 : TyOk Tryz.prog 95 i95 := ⟨by kernel_rfl, by kernel_rfl, fun _ => by kernel_rfl⟩
def i96 : TI := ⟨.struct [(2, 0), (26, 1), (94, 2)], 3, 56, .agg [.int .i64 0, .nilslice, .nilslice], true⟩
theorem ok96 : TyOk Tryz.prog 96 i96 := ⟨by kernel_rfl, by kernel_rfl, fun _ => by kernel_rfl⟩
def i98 : TI := ⟨.func, 1, 8, .nilfunc, true⟩
theorem ok98 : TyOk Tryz.prog 98 i98 := ⟨by kernel_rfl, by kernel_rfl, fun _ => by kernel_rfl⟩
def i99 : TI := ⟨.func, 1, 8, .nilfunc, true⟩
theorem ok99 : TyOk Tryz.prog 99 i99 := ⟨by kernel_rfl, by kernel_rfl, fun _ => by kernel_rfl⟩
def i100 : TI := ⟨.struct [(2, 0), (3, 1), (26, 2), (26, 3)], 4, 64, .agg [.int .i64 0, .int .i64 0, .nilslice, .nilslice], true⟩
theorem ok100 : TyOk Tryz.prog 100 i100 := ⟨by kernel_rfl, by kernel_rfl, fun _ => by kernel_rfl⟩
def i101 : TI := ⟨.struct [(2, 0), (3, 1), (26, 2), (26, 3)], 4, 64, .agg [.int .i64 0, .int .i64 0, .nilslice, .nilslice], true⟩
theorem ok101 : TyOk Tryz.prog 101 i101 := ⟨by kernel_rfl, by kernel_rfl, fun _ => by kernel_rfl⟩
def i103 : TI := ⟨.func, 1, 8, .nilfunc, true⟩
theorem ok103 : TyOk Tryz.prog 103 i103 := ⟨by kernel_rfl, by kernel_rfl, fun _ => by kernel_rfl⟩
def i104 : TI := ⟨.slice 5, 1, 24, .nilslice, true⟩
theorem ok104 : TyOk Tryz.prog 104 i104 := ⟨by kernel_rfl, by kernel_rfl, fun _ => by kernel_rfl⟩
def i105 : TI := ⟨.func, 1, 8, .nilfunc, true⟩
theorem ok105 : TyOk Tryz.prog 105 i105 := ⟨by kernel_rfl, by kernel_rfl, fun _ => by kernel_rfl⟩
def i106 : TI := ⟨.func, 1, 8, .nilfunc, true⟩
theorem ok106 : TyOk Tryz.prog 106 i106 := ⟨by kernel_rfl, by kernel_rfl, fun _ => by kernel_rfl⟩
def i107 : TI := ⟨.func, 1, 8, .nilfunc, true⟩
theorem ok107 : TyOk Tryz.prog 107 i107 := ⟨by kernel_rfl, by kernel_rfl, fun _ => by kernel_rfl⟩
def i108 : TI := ⟨.func, 1, 8, .nilfunc, true⟩
theorem ok108 : TyOk Tryz.prog 108 i108 := ⟨by kernel_rfl, by kernel_rfl, fun _ => by kernel_rfl⟩
def i109 : TI := ⟨.func, 1, 8, .nilfunc, true⟩
theorem ok109 : TyOk Tryz.prog 109 i109 := ⟨by kernel_rfl, by kernel_rfl, fun _ => by kernel_rfl⟩
def i110 : TI := ⟨.func, 1, 8, .nilfunc, true⟩
theorem ok110 : TyOk Tryz.prog 110 i110 := ⟨by kernel_rfl, by kernel_rfl, fun _ => by kernel_rfl⟩
def i111 : TI := ⟨.func, 1, 8, .nilfunc, true⟩
theorem ok111 : TyOk Tryz.prog 111 i111 := ⟨by kernel_rfl, by kernel_rfl, fun _ => by kernel_rfl⟩
def i112 : TI := ⟨.func, 1, 8, .nilfunc, true⟩
theorem ok112 : TyOk Tryz.prog 112 i112 := ⟨by kernel_rfl, by kernel_rfl, fun _ => by kernel_rfl⟩
def i113 : TI := ⟨.func, 1, 8, .nilfunc, true⟩
theorem ok113 : TyOk Tryz.prog 113 i113 := ⟨by kernel_rfl, by kernel_rfl, fun _ => by kernel_rfl⟩
def i114 : TI := ⟨.func, 1, 8, .nilfunc, true⟩
theorem ok114 : TyOk Tryz.prog 114 i114 := ⟨by kernel_rfl, by kernel_rfl, fun _ => by kernel_rfl⟩
def i115 : TI := ⟨.struct [(32, 0), (2, 5), (2, 6), (2, 7)], 8, 64, .agg [.int .i64 0, .int .i64 0, .int .i64 0, .int .i64 0, .int .i64 0, .int .i64 0, .int .i64 0, .int .i64 0], true⟩
theorem ok115 : TyOk Tryz.prog 115 i115 := ⟨by kernel_rfl, by kernel_rfl, fun _ => by kernel_rfl⟩
def i116 : TI := ⟨.struct [(32, 0), (2, 5), (2, 6), (2, 7)], 8, 64, .agg [.int .i64 0, .int .i64 0, .int .i64 0, .int .i64 0, .int .i64 0, .int .i64 0, .int .i64 0, .int .i64 0], true⟩
theorem ok116 : TyOk Tryz.prog 116 i116 := ⟨by kernel_rfl, by kernel_rfl, fun _ => by kernel_rfl⟩
def i118 : TI := ⟨.func, 1, 8, .nilfunc, true⟩
theorem ok118 : TyOk Tryz.prog 118 i118 := ⟨by kernel_rfl, by kernel_rfl, fun _ => by kernel_rfl⟩
def i119 : TI := ⟨.func, 1, 8, .nilfunc, true⟩
theorem ok119 : TyOk Tryz.prog 119 i119 := ⟨by kernel_rfl, by kernel_rfl, fun _ => by kernel_rfl⟩
def i120 : TI := ⟨.arr 4 26, 4, 96, .agg [.nilslice, .nilslice, .nilslice, .nilslice], true⟩
theorem ok120 : TyOk Tryz.prog 120 i120 := ⟨by kernel_rfl, by kernel_rfl, fun _ => by kernel_rfl⟩
def i121 : TI := ⟨.func, 1, 8, .nilfunc, true⟩
theorem ok121 : TyOk Tryz.prog 121 i121 := ⟨by kernel_rfl, by kernel_rfl, fun _ => by kernel_rfl⟩
def i122 : TI := ⟨.func, 1, 8, .nilfunc, true⟩
theorem ok122 : TyOk Tryz.prog 122 i122 := ⟨by kernel_rfl, by kernel_rfl, fun _ => by kernel_rfl⟩
def i123 : TI := ⟨.func, 1, 8, .nilfunc, true⟩
theorem ok123 : TyOk Tryz.prog 123 i123 := ⟨by kernel_rfl, by kernel_rfl, fun _ => by kernel_rfl⟩
def i124 : TI := ⟨.func, 1, 8, .nilfunc, true⟩
theorem ok124 : TyOk Tryz.prog 124 i124 := ⟨by kernel_rfl, by kernel_rfl, fun _ => by kernel_rfl⟩
def i125 : TI := ⟨.func, 1, 8, .nilfunc, true⟩
theorem ok125 : TyOk Tryz.prog 125 i125 := ⟨by kernel_rfl, by kernel_rfl, fun _ => by kernel_rfl⟩
def i126 : TI := ⟨.func, 1, 8, .nilfunc, true⟩
theorem ok126 : TyOk Tryz.prog 126 i126 := ⟨by kernel_rfl, by kernel_rfl, fun _ => by kernel_rfl⟩
def i127 : TI := ⟨.func, 1, 8, .nilfunc, true⟩
theorem ok127 : TyOk Tryz.prog 127 i127 := ⟨by kernel_rfl, by kernel_rfl, fun _ => by kernel_rfl⟩
def i128 : TI := ⟨.func, 1, 8, .nilfunc, true⟩
theorem ok128 : TyOk Tryz.prog 128 i128 := ⟨by kernel_rfl, by kernel_rfl, fun _ => by kernel_rfl⟩
def i129 : TI := ⟨.func, 1, 8, .nilfunc, true⟩
theorem ok129 : TyOk Tryz.prog 129 i129 := ⟨by kernel_rfl, by kernel_rfl, fun _ => by kernel_rfl⟩
def i130 : TI := ⟨.func, 1, 8, .nilfunc, true⟩
theorem ok130 : TyOk Tryz.prog 130 i130 := ⟨by kernel_rfl, by kernel_rfl, fun _ => by kernel_rfl⟩
def i131 : TI := ⟨.func, 1, 8, .nilfunc, true⟩
theorem ok131 : TyOk Tryz.prog 131 i131 := ⟨by kernel_rfl, by kernel_rfl, fun _ => by kernel_rfl⟩
def i132 : TI := ⟨.func, 1, 8, .nilfunc, true⟩
theorem ok132 : TyOk Tryz.prog 132 i132 := ⟨by kernel_rfl, by kernel_rfl, fun _ => by kernel_rfl⟩
def i133 : TI := ⟨.func, 1, 8, .nilfunc, true⟩
theorem ok133 : TyOk Tryz.prog 133 i133 := ⟨by kernel_rfl, by kernel_rfl, fun _ => by kernel_rfl⟩
def i134 : TI := ⟨.func, 1, 8, .nilfunc, true⟩
theorem ok134 : TyOk Tryz.prog 134 i134 := ⟨by kernel_rfl, by kernel_rfl, fun _ => by kernel_rfl⟩
def i135 : TI := ⟨.func, 1, 8, .nilfunc, true⟩
theorem ok135 : TyOk Tryz.prog 135 i135 := ⟨by kernel_rfl, by kernel_rfl, fun _ => by kernel_rfl⟩
def i136 : TI := ⟨.slice 167, 1, 24, .nilslice, true⟩
theorem ok136 : TyOk Tryz.prog 136 i136 := ⟨by kernel_rfl, by kernel_rfl, fun _ => by kernel_rfl⟩
def i138 : TI := ⟨.func, 1, 8, .nilfunc, true⟩
theorem ok138 : TyOk Tryz.prog 138 i138 := ⟨by kernel_rfl, by kernel_rfl, fun _ => by kernel_rfl⟩
def i139 : TI := ⟨.func, 1, 8, .nilfunc, true⟩
theorem ok139 : TyOk Tryz.prog 139 i139 := ⟨by kernel_rfl, by kernel_rfl, fun _ => by kernel_rfl⟩
def i141 : TI := ⟨.func, 1, 8, .nilfunc, true⟩
theorem ok141 : TyOk Tryz.prog 141 i141 := ⟨by kernel_rfl, by kernel_rfl, fun _ => by kernel_rfl⟩
def i142 : TI := ⟨.ptr, 1, 8, .nilptr, true⟩
theorem ok142 : TyOk Tryz.prog 142 i142 := ⟨by kernel_rfl, by kernel_rfl, fun _ => by kernel_rfl⟩
def i143 : TI := ⟨.struct [(104, 0)], 1, 24, .agg [.nilslice], true⟩
theorem ok143 : TyOk Tryz.prog 143 i143 := ⟨by kernel_rfl, by kernel_rfl, fun _ => by kernel_rfl⟩
def i144 : TI := ⟨.struct [(104, 0)], 1, 24, .agg [.nilslice], true⟩
theorem ok144 : TyOk Tryz.prog 144 i144 := ⟨by kernel_rfl, by kernel_rfl, fun _ => by kernel_rfl⟩
def i145 : TI := ⟨.func, 1, 8, .nilfunc, true⟩
theorem ok145 : TyOk Tryz.prog 145 i145 := ⟨by kernel_rfl, by kernel_rfl, fun _ => by kernel_rfl⟩
def i146 : TI := ⟨.func, 1, 8, .nilfunc, true⟩
theorem ok146 : TyOk Tryz.prog 146 i146 := ⟨by kernel_rfl, by kernel_rfl, fun _ => by kernel_rfl⟩
def i147 : TI := ⟨.func, 1, 8, .nilfunc, true⟩
theorem ok147 : TyOk Tryz.prog 147 i147 := ⟨by kernel_rfl, by kernel_rfl, fun _ => by kernel_rfl⟩
def i148 : TI := ⟨.func, 1, 8, .nilfunc, true⟩
theorem ok148 : TyOk Tryz.prog 148 i148 := ⟨by kernel_rfl, by kernel_rfl, fun _ => by kernel_rfl⟩
def i149 : TI := ⟨.func, 1, 8, .nilfunc, true⟩
theorem ok149 : TyOk Tryz.prog 149 i149 := ⟨by kernel_rfl, by kernel_rfl, fun _ => by kernel_rfl⟩
def i151 : TI := ⟨.func, 1, 8, .nilfunc, true⟩
theorem ok151 : TyOk Tryz.prog 151 i151 := ⟨by kernel_rfl, by kernel_rfl, fun _ => by kernel_rfl⟩
def i152 : TI := ⟨.struct [(2, 0), (2, 1)], 2, 16, .agg [.int .i64 0, .int .i64 0], true⟩
theorem ok152 : TyOk Tryz.prog 152 i152 := ⟨by kernel_rfl, by kernel_rfl, fun _ => by kernel_rfl⟩
def i153 : TI := ⟨.struct [(2, 0), (2, 1)], 2, 16, .agg [.int .i64 0, .int .i64 0], true⟩
theorem ok153 : TyOk Tryz.prog 153 i153 := ⟨by kernel_rfl, by kernel_rfl, fun _ => by kernel_rfl⟩
def i154 : TI := ⟨.func, 1, 8, .nilfunc, true⟩
theorem ok154 : TyOk Tryz.prog 154 i154 := ⟨by kernel_rfl, by kernel_rfl, fun _ => by kernel_rfl⟩
def i155 : TI := ⟨.iface, 1, 16, .niliface, false⟩
theorem ok155 : TyOk Tryz.prog 155 i155 := ⟨by kernel_rfl, by kernel_rfl, fun h => by cases h⟩
def i156 : TI := ⟨.iface, 1, 16, .niliface, false⟩
theorem ok156 : TyOk Tryz.prog 156 i156 := ⟨by kernel_rfl, by kernel_rfl, fun h => by cases h⟩
def i157 : TI := ⟨.iface, 1, 16, .niliface, false⟩
theorem ok157 : TyOk Tryz.prog 157 i157 := ⟨by kernel_rfl, by kernel_rfl, fun h => by cases h⟩
def i158 : TI := ⟨.iface, 1, 16, .niliface, false⟩
theorem ok158 : TyOk Tryz.prog 158 i158 := ⟨by kernel_rfl, by kernel_rfl, fun h => by cases h⟩
def i159 : TI := ⟨.func, 1, 8, .nilfunc, true⟩
theorem ok159 : TyOk Tryz.prog 159 i159 := ⟨by kernel_rfl, by kernel_rfl, fun _ => by kernel_rfl⟩
def i160 : TI := ⟨.func, 1, 8, .nilfunc, true⟩
theorem ok160 : TyOk Tryz.prog 160 i160 := ⟨by kernel_rfl, by kernel_rfl, fun _ => by kernel_rfl⟩
def i162 : TI := ⟨.func, 1, 8, .nilfunc, true⟩
theorem ok162 : TyOk Tryz.prog 162 i162 := ⟨by kernel_rfl, by kernel_rfl, fun _ => by kernel_rfl⟩
def i163 : TI := ⟨.func, 1, 8, .nilfunc, true⟩
theorem ok163 : TyOk Tryz.prog 163 i163 := ⟨by kernel_rfl, by kernel_rfl, fun _ => by kernel_rfl⟩
def i164 : TI := ⟨.func, 1, 8, .nilfunc, true⟩
theorem ok164 : TyOk Tryz.prog 164 i164 := ⟨by kernel_rfl, by kernel_rfl, fun _ => by kernel_rfl⟩
def i165 : TI := ⟨.int .u64, 1, 8, .int .u64 0, true⟩
theorem ok165 : TyOk Tryz.prog 165 i165 := ⟨by kernel_rfl, by kernel_rfl, fun _ => by kernel_rfl⟩
def i166 : TI := ⟨.struct [(3, 0), (3, 1), (54, 2)], 4, 32, .agg [.int .i64 0, .int .i64 0, .int .i64 0, .int .i64 0], true⟩
theorem ok166 : TyOk Tryz.prog 166 i166 := ⟨by kernel_rfl, by kernel_rfl, fun _ => by kernel_rfl⟩
def i167 : TI := ⟨.struct [(3, 0), (3, 1), (54, 2)], 4, 32, .agg [.int .i64 0, .int .i64 0, .int .i64 0, .int .i64 0], true⟩
theorem ok167 : TyOk Tryz.prog 167 i167 := ⟨by kernel_rfl, by kernel_rfl, fun _ => by kernel_rfl⟩
def i168 : TI := ⟨.arr 2 3, 2, 16, .agg [.int .i64 0, .int .i64 0], true⟩
theorem ok168 : TyOk Tryz.prog 168 i168 := ⟨by kernel_rfl, by kernel_rfl, fun _ => by kernel_rfl⟩
def i170 : TI := ⟨.func, 1, 8, .nilfunc, true⟩
theorem ok170 : TyOk Tryz.prog 170 i170 := ⟨by kernel_rfl, by kernel_rfl, fun _ => by kernel_rfl⟩
def i171 : TI := ⟨.ptr, 1, 8, .nilptr, true⟩
theorem ok171 : TyOk Tryz.prog 171 i171 := ⟨by kernel_rfl, by kernel_rfl, fun _ => by kernel_rfl⟩
def i172 : TI := ⟨.struct [(136, 0), (3, 1)], 2, 32, .agg [.nilslice, .int .i64 0], true⟩
theorem ok172 : TyOk Tryz.prog 172 i172 := ⟨by kernel_rfl, by kernel_rfl, fun _ => by kernel_rfl⟩
def i173 : TI := ⟨.struct [(136, 0), (3, 1)], 2, 32, .agg [.nilslice, .int .i64 0], true⟩
theorem ok173 : TyOk Tryz.prog 173 i173 := ⟨by kernel_rfl, by kernel_rfl, fun _ => by kernel_rfl⟩
def i174 : TI := ⟨.func, 1, 8, .nilfunc, true⟩
theorem ok174 : TyOk Tryz.prog 174 i174 := ⟨by kernel_rfl, by kernel_rfl, fun _ => by kernel_rfl⟩
def i175 : TI := ⟨.func, 1, 8, .nilfunc, true⟩
theorem ok175 : TyOk Tryz.prog 175 i175 := ⟨by kernel_rfl, by kernel_rfl, fun _ => by kernel_rfl⟩
def i176 : TI := ⟨.func, 1, 8, .nilfunc, true⟩
theorem ok176 : TyOk Tryz.prog 176 i176 := ⟨by kernel_rfl, by kernel_rfl, fun _ => by kernel_rfl⟩
def i177 : TI := ⟨.func, 1, 8, .nilfunc, true⟩
theorem ok177 : TyOk Tryz.prog 177 i177 := ⟨by kernel_rfl, by kernel_rfl, fun _ => by kernel_rfl⟩
def i178 : TI := ⟨.int .u64, 1, 8, .int .u64 0, true⟩
theorem ok178 : TyOk Tryz.prog 178 i178 := ⟨by kernel_rfl, by kernel_rfl, fun _ => by kernel_rfl⟩
def i179 : TI := ⟨.func, 1, 8, .nilfunc, true⟩
theorem ok179 : TyOk Tryz.prog 179 i179 := ⟨by kernel_rfl, by kernel_rfl, fun _ => by kernel_rfl⟩
def i180 : TI := ⟨.func, 1, 8, .nilfunc, true⟩
theorem ok180 : TyOk Tryz.prog 180 i180 := ⟨by kernel_rfl, by kernel_rfl, fun _ => by kernel_rfl⟩
def i181 : TI := ⟨.struct [(2, 0), (2, 1), (54, 2), (3, 4)], 5, 40, .agg [.int .i64 0, .int .i64 0, .int .i64 0, .int .i64 0, .int .i64 0], true⟩
theorem ok181 : TyOk Tryz.prog 181 i181 := ⟨by kernel_rfl, by kernel_rfl, fun _ => by kernel_rfl⟩
def i182 : TI := ⟨.struct [(2, 0), (2, 1), (54, 2), (3, 4)], 5, 40, .agg [.int .i64 0, .int .i64 0, .int .i64 0, .int .i64 0, .int .i64 0], true⟩
theorem ok182 : TyOk Tryz.prog 182 i182 := ⟨by kernel_rfl, by kernel_rfl, fun _ => by kernel_rfl⟩
def i183 : TI := ⟨.func, 1, 8, .nilfunc, true⟩
theorem ok183 : TyOk Tryz.prog 183 i183 := ⟨by kernel_rfl, by kernel_rfl, fun _ => by kernel_rfl⟩
def i184 : TI := ⟨.struct [(17, 0)], 1, 8, .agg [.nilptr], false⟩
theorem ok184 : TyOk Tryz.prog 184 i184 := ⟨by kernel_rfl, by kernel_rfl, fun h => by cases h⟩
def i185 : TI := ⟨.struct [(17, 0)], 1, 8, .agg [.nilptr], false⟩
theorem ok185 : TyOk Tryz.prog 185 i185 := ⟨by kernel_rfl, by kernel_rfl, fun h => by cases h⟩
def i186 : TI := ⟨.ptr, 1, 8, .nilptr, true⟩
theorem ok186 : TyOk Tryz.prog 186 i186 := ⟨by kernel_rfl, by kernel_rfl, fun _ => by kernel_rfl⟩
def i187 : TI := ⟨.iface, 1, 16, .niliface, false⟩
theorem ok187 : TyOk Tryz.prog 187 i187 := ⟨by kernel_rfl, by kernel_rfl, fun h => by cases h⟩
def i189 : TI := ⟨.func, 1, 8, .nilfunc, true⟩
theorem ok189 : TyOk Tryz.prog 189 i189 := ⟨by kernel_rfl, by kernel_rfl, fun _ => by kernel_rfl⟩
def i190 : TI := ⟨.iface, 1, 16, .niliface, false⟩
theorem ok190 : TyOk Tryz.prog 190 i190 := ⟨by kernel_rfl, by kernel_rfl, fun h => by cases h⟩
def i191 : TI := ⟨.func, 1, 8, .nilfunc, true⟩
theorem ok191 : TyOk Tryz.prog 191 i191 := ⟨by kernel_rfl, by kernel_rfl, fun _ => by kernel_rfl⟩
def i192 : TI := ⟨.iface, 1, 16, .niliface, false⟩
theorem ok192 : TyOk Tryz.prog 192 i192 := ⟨by kernel_rfl, by kernel_rfl, fun h => by cases h⟩
def i193 : TI := ⟨.slice 156, 1, 24, .nilslice, true⟩
theorem ok193 : TyOk Tryz.prog 193 i193 := ⟨by kernel_rfl, by kernel_rfl, fun _ => by kernel_rfl⟩
def i194 : TI := ⟨.func, 1, 8, .nilfunc, true⟩
theorem ok194 : TyOk Tryz.prog 194 i194 := ⟨by kernel_rfl, by kernel_rfl, fun _ => by kernel_rfl⟩
def i195 : TI := ⟨.func, 1, 8, .nilfunc, true⟩
theorem ok195 : TyOk Tryz.prog 195 i195 := ⟨by kernel_rfl, by kernel_rfl, fun _ => by kernel_rfl⟩
def i196 : TI := ⟨.func, 1, 8, .nilfunc, true⟩
theorem ok196 : TyOk Tryz.prog 196 i196 := ⟨by kernel_rfl, by kernel_rfl, fun _ => by kernel_rfl⟩
def i197 : TI := ⟨.func, 1, 8, .nilfunc, true⟩
theorem ok197 : TyOk Tryz.prog 197 i197 := ⟨by kernel_rfl, by kernel_rfl, fun _ => by kernel_rfl⟩
def i198 : TI := ⟨.func, 1, 8, .nilfunc, true⟩
theorem ok198 : TyOk Tryz.prog 198 i198 := ⟨by kernel_rfl, by kernel_rfl, fun _ => by kernel_rfl⟩
def i199 : TI := ⟨.func, 1, 8, .nilfunc, true⟩
theorem ok199 : TyOk Tryz.prog 199 i199 := ⟨by kernel_rfl, by kernel_rfl, fun _ => by kernel_rfl⟩
def i200 : TI := ⟨.func, 1, 8, .nilfunc, true⟩
theorem ok200 : TyOk Tryz.prog 200 i200 := ⟨by kernel_rfl, by kernel_rfl, fun _ => by kernel_rfl⟩
def i201 : TI := ⟨.func, 1, 8, .nilfunc, true⟩
theorem ok201 : TyOk Tryz.prog 201 i201 := ⟨by kernel_rfl, by kernel_rfl, fun _ => by kernel_rfl⟩
def i202 : TI := ⟨.func, 1, 8, .nilfunc, true⟩
theorem ok202 : TyOk Tryz.prog 202 i202 := ⟨by kernel_rfl, by kernel_rfl, fun _ => by kernel_rfl⟩
def i203 : TI := ⟨.func, 1, 8, .nilfunc, true⟩
theorem ok203 : TyOk Tryz.prog 203 i203 := ⟨by kernel_rfl, by kernel_rfl, fun _ => by kernel_rfl⟩
def i204 : TI := ⟨.func, 1, 8, .nilfunc, true⟩
theorem ok204 : TyOk Tryz.prog 204 i204 := ⟨by kernel_rfl, by kernel_rfl, fun _ => by kernel_rfl⟩
def i205 : TI := ⟨.func, 1, 8, .nilfunc, true⟩
theorem ok205 : TyOk Tryz.prog 205 i205 := ⟨by kernel_rfl, by kernel_rfl, fun _ => by kernel_rfl⟩
def i206 : TI := ⟨.func, 1, 8, .nilfunc, true⟩
theorem ok206 : TyOk Tryz.prog 206 i206 := ⟨by kernel_rfl, by kernel_rfl, fun _ => by kernel_rfl⟩
def i207 : TI := ⟨.func, 1, 8, .nilfunc, true⟩
theorem ok207 : TyOk Tryz.prog 207 i207 := ⟨by kernel_rfl, by kernel_rfl, fun _ => by kernel_rfl⟩
def i208 : TI := ⟨.slice 26, 1, 24, .nilslice, true⟩
theorem ok208 : TyOk Tryz.prog 208 i208 := ⟨by kernel_rfl, by kernel_rfl, fun _ => by kernel_rfl⟩
def i209 : TI := ⟨.func, 1, 8, .nilfunc, true⟩
theorem ok209 : TyOk Tryz.prog 209 i209 := ⟨by kernel_rfl, by kernel_rfl, fun _ => by kernel_rfl⟩
def i210 : TI := ⟨.func, 1, 8, .nilfunc, true⟩
theorem ok210 : TyOk Tryz.prog 210 i210 := ⟨by kernel_rfl, by kernel_rfl, fun _ => by kernel_rfl⟩
def i211 : TI := ⟨.func, 1, 8, .nilfunc, true⟩
theorem ok211 : TyOk Tryz.prog 211 i211 := ⟨by kernel_rfl, by kernel_rfl, fun _ => by kernel_rfl⟩
def i212 : TI := ⟨.func, 1, 8, .nilfunc, true⟩
theorem ok212 : TyOk Tryz.prog 212 i212 := ⟨by kernel_rfl, by kernel_rfl, fun _ => by kernel_rfl⟩
def i213 : TI := ⟨.func, 1, 8, .nilfunc, true⟩
theorem ok213 : TyOk Tryz.prog 213 i213 := ⟨by kernel_rfl, by kernel_rfl, fun _ => by kernel_rfl⟩
def i214 : TI := ⟨.func, 1, 8, .nilfunc, true⟩
theorem ok214 : TyOk Tryz.prog 214 i214 := ⟨by kernel_rfl, by kernel_rfl, fun _ => by kernel_rfl⟩
def i215 : TI := ⟨.func, 1, 8, .nilfunc, true⟩
theorem ok215 : TyOk Tryz.prog 215 i215 := ⟨by kernel_rfl, by kernel_rfl, fun _ => by kernel_rfl⟩
def i216 : TI := ⟨.func, 1, 8, .nilfunc, true⟩
theorem ok216 : TyOk Tryz.prog 216 i216 := ⟨by kernel_rfl, by kernel_rfl, fun _ => by kernel_rfl⟩
def i217 : TI := ⟨.func, 1, 8, .nilfunc, true⟩
theorem ok217 : TyOk Tryz.prog 217 i217 := ⟨by kernel_rfl, by kernel_rfl, fun _ => by kernel_rfl⟩
def i218 : TI := ⟨.func, 1, 8, .nilfunc, true⟩
theorem ok218 : TyOk Tryz.prog 218 i218 := ⟨by kernel_rfl, by kernel_rfl, fun _ => by kernel_rfl⟩
def i219 : TI := ⟨.func, 1, 8, .nilfunc, true⟩
theorem ok219 : TyOk Tryz.prog 219 i219 := ⟨by kernel_rfl, by kernel_rfl, fun _ => by kernel_rfl⟩
def i220 : TI := ⟨.func, 1, 8, .nilfunc, true⟩
theorem ok220 : TyOk Tryz.prog 220 i220 := ⟨by kernel_rfl, by kernel_rfl, fun _ => by kernel_rfl⟩
def i221 : TI := ⟨.struct [(71, 0), (71, 1), (72, 2), (72, 3), (72, 4), (71, 5), (218, 6), (219, 7), (220, 8)], 9, 72, .agg [.nilfunc, .nilfunc, .nilfunc, .nilfunc, .nilfunc, .nilfunc, .nilfunc, .nilfunc, .nilfunc], true⟩
theorem ok221 : TyOk Tryz.prog 221 i221 := ⟨by kernel_rfl, by kernel_rfl, fun _ => by kernel_rfl⟩
def i222 : TI := ⟨.struct [(71, 0), (71, 1), (72, 2), (72, 3), (72, 4), (71, 5), (218, 6), (219, 7), (220, 8)], 9, 72, .agg [.nilfunc, .nilfunc, .nilfunc, .nilfunc, .nilfunc, .nilfunc, .nilfunc, .nilfunc, .nilfunc], true⟩
theorem ok222 : TyOk Tryz.prog 222 i222 := ⟨by kernel_rfl, by kernel_rfl, fun _ => by kernel_rfl⟩
def i223 : TI := ⟨.func, 1, 8, .nilfunc, true⟩
theorem ok223 : TyOk Tryz.prog 223 i223 := ⟨by kernel_rfl, by kernel_rfl, fun _ => by kernel_rfl⟩
def i224 : TI := ⟨.func, 1, 8, .nilfunc, true⟩
theorem ok224 : TyOk Tryz.prog 224 i224 := ⟨by kernel_rfl, by kernel_rfl, fun _ => by kernel_rfl⟩
def i225 : TI := ⟨.func, 1, 8, .nilfunc, true⟩
theorem ok225 : TyOk Tryz.prog 225 i225 := ⟨by kernel_rfl, by kernel_rfl, fun _ => by kernel_rfl⟩
def i226 : TI := ⟨.func, 1, 8, .nilfunc, true⟩
theorem ok226 : TyOk Tryz.prog 226 i226 := ⟨by kernel_rfl, by kernel_rfl, fun _ => by kernel_rfl⟩
def i227 : TI := ⟨.func, 1, 8, .nilfunc, true⟩
theorem ok227 : TyOk Tryz.prog 227 i227 := ⟨by kernel_rfl, by kernel_rfl, fun _ => by kernel_rfl⟩
def i228 : TI := ⟨.func, 1, 8, .nilfunc, true⟩
theorem ok228 : TyOk Tryz.prog 228 i228 := ⟨by kernel_rfl, by kernel_rfl, fun _ => by kernel_rfl⟩
def i229 : TI := ⟨.func, 1, 8, .nilfunc, true⟩
theorem ok229 : TyOk Tryz.prog 229 i229 := ⟨by kernel_rfl, by kernel_rfl, fun _ => by kernel_rfl⟩
def i230 : TI := ⟨.func, 1, 8, .nilfunc, true⟩
theorem ok230 : TyOk Tryz.prog 230 i230 := ⟨by kernel_rfl, by kernel_rfl, fun _ => by kernel_rfl⟩
def i231 : TI := ⟨.func, 1, 8, .nilfunc, true⟩
theorem ok231 : TyOk Tryz.prog 231 i231 := ⟨by kernel_rfl, by kernel_rfl, fun _ => by kernel_rfl⟩
def i233 : TI := ⟨.func, 1, 8, .nilfunc, true⟩
theorem ok233 : TyOk Tryz.prog 233 i233 := ⟨by kernel_rfl, by kernel_rfl, fun _ => by kernel_rfl⟩
def i234 : TI := ⟨.func, 1, 8, .nilfunc, true⟩
theorem ok234 : TyOk Tryz.prog 234 i234 := ⟨by kernel_rfl, by kernel_rfl, fun _ => by kernel_rfl⟩
def i235 : TI := ⟨.struct [(234, 0), (234, 1)], 2, 16, .agg [.nilfunc, .nilfunc], true⟩
theorem ok235 : TyOk Tryz.prog 235 i235 := ⟨by kernel_rfl, by kernel_rfl, fun _ => by kernel_rfl⟩
def i236 : TI := ⟨.struct [(234, 0), (234, 1)], 2, 16, .agg [.nilfunc, .nilfunc], true⟩
theorem ok236 : TyOk Tryz.prog 236 i236 := ⟨by kernel_rfl, by kernel_rfl, fun _ => by kernel_rfl⟩
def i237 : TI := ⟨.arr 3 236, 6, 48, .agg [.nilfunc, .nilfunc, .nilfunc, .nilfunc, .nilfunc, .nilfunc], true⟩
theorem ok237 : TyOk Tryz.prog 237 i237 := ⟨by kernel_rfl, by kernel_rfl, fun _ => by kernel_rfl⟩
def i238 : TI := ⟨.arr 3 237, 18, 144, .agg [.nilfunc, .nilfunc, .nilfunc, .nilfunc, .nilfunc, .nilfunc, .nilfunc, .nilfunc, .nilfunc, .nilfunc, .nilfunc, .nilfunc, .nilfunc, .nilfunc, .nilfunc, .nilfunc, .nilfunc, .nilfunc], true⟩
theorem ok238 : TyOk Tryz.prog 238 i238 := ⟨by kernel_rfl, by kernel_rfl, fun _ => by kernel_rfl⟩
def i239 : TI := ⟨.func, 1, 8, .nilfunc, true⟩
theorem ok239 : TyOk Tryz.prog 239 i239 := ⟨by kernel_rfl, by kernel_rfl, fun _ => by kernel_rfl⟩
def i240 : TI := ⟨.slice 2, 1, 24, .nilslice, true⟩
theorem ok240 : TyOk Tryz.prog 240 i240 := ⟨by kernel_rfl, by kernel_rfl, fun _ => by kernel_rfl⟩
def i241 : TI := ⟨.func, 1, 8, .nilfunc, true⟩
theorem ok241 : TyOk Tryz.prog 241 i241 := ⟨by kernel_rfl, by kernel_rfl, fun _ => by kernel_rfl⟩
def i242 : TI := ⟨.arr 3 3, 3, 24, .agg [.int .i64 0, .int .i64 0, .int .i64 0], true⟩
theorem ok242 : TyOk Tryz.prog 242 i242 := ⟨by kernel_rfl, by kernel_rfl, fun _ => by kernel_rfl⟩
def i243 : TI := ⟨.struct [(71, 0), (72, 1)], 2, 16, .agg [.nilfunc, .nilfunc], true⟩
theorem ok243 : TyOk Tryz.prog 243 i243 := ⟨by kernel_rfl, by kernel_rfl, fun _ => by kernel_rfl⟩
def i244 : TI := ⟨.struct [(71, 0), (72, 1)], 2, 16, .agg [.nilfunc, .nilfunc], true⟩
theorem ok244 : TyOk Tryz.prog 244 i244 := ⟨by kernel_rfl, by kernel_rfl, fun _ => by kernel_rfl⟩
def i245 : TI := ⟨.arr 11 244, 22, 176, .agg [.nilfunc, .nilfunc, .nilfunc, .nilfunc, .nilfunc, .nilfunc, .nilfunc, .nilfunc, .nilfunc, .nilfunc, .nilfunc, .nilfunc, .nilfunc, .nilfunc, .nilfunc, .nilfunc, .nilfunc, .nilfunc, .nilfunc, .nilfunc, .nilfunc, .nilfunc], true⟩
theorem ok245 : TyOk Tryz.prog 245 i245 := ⟨by kernel_rfl, by kernel_rfl, fun _ => by kernel_rfl⟩
def i246 : TI := ⟨.func, 1, 8, .nilfunc, true⟩
theorem ok246 : TyOk Tryz.prog 246 i246 := ⟨by kernel_rfl, by kernel_rfl, fun _ => by kernel_rfl⟩
def i247 : TI := ⟨.func, 1, 8, .nilfunc, true⟩
theorem ok247 : TyOk Tryz.prog 247 i247 := ⟨by kernel_rfl, by kernel_rfl, fun _ => by kernel_rfl⟩
def i249 : TI := ⟨.func, 1, 8, .nilfunc, true⟩
theorem ok249 : TyOk Tryz.prog 249 i249 := ⟨by kernel_rfl, by kernel_rfl, fun _ => by kernel_rfl⟩
def i250 : TI := ⟨.func, 1, 8, .nilfunc, true⟩
theorem ok250 : TyOk Tryz.prog 250 i250 := ⟨by kernel_rfl, by kernel_rfl, fun _ => by kernel_rfl⟩
def i251 : TI := ⟨.arr 2 236, 4, 32, .agg [.nilfunc, .nilfunc, .nilfunc, .nilfunc], true⟩
theorem ok251 : TyOk Tryz.prog 251 i251 := ⟨by kernel_rfl, by kernel_rfl, fun _ => by kernel_rfl⟩
def i252 : TI := ⟨.arr 3 251, 12, 96, .agg [.nilfunc, .nilfunc, .nilfunc, .nilfunc, .nilfunc, .nilfunc, .nilfunc, .nilfunc, .nilfunc, .nilfunc, .nilfunc, .nilfunc], true⟩
theorem ok252 : TyOk Tryz.prog 252 i252 := ⟨by kernel_rfl, by kernel_rfl, fun _ => by kernel_rfl⟩
def i253 : TI := ⟨.func, 1, 8, .nilfunc, true⟩
theorem ok253 : TyOk Tryz.prog 253 i253 := ⟨by kernel_rfl, by kernel_rfl, fun _ => by kernel_rfl⟩
def i254 : TI := ⟨.func, 1, 8, .nilfunc, true⟩
theorem ok254 : TyOk Tryz.prog 254 i254 := ⟨by kernel_rfl, by kernel_rfl, fun _ => by kernel_rfl⟩
def i255 : TI := ⟨.func, 1, 8, .nilfunc, true⟩
theorem ok255 : TyOk Tryz.prog 255 i255 := ⟨by kernel_rfl, by kernel_rfl, fun _ => by kernel_rfl⟩
def i256 : TI := ⟨.func, 1, 8, .nilfunc, true⟩
theorem ok256 : TyOk Tryz.prog 256 i256 := ⟨by kernel_rfl, by kernel_rfl, fun _ => by kernel_rfl⟩
def i257 : TI := ⟨.func, 1, 8, .nilfunc, true⟩
theorem ok257 : TyOk Tryz.prog 257 i257 := ⟨by kernel_rfl, by kernel_rfl, fun _ => by kernel_rfl⟩
def i258 : TI := ⟨.func, 1, 8, .nilfunc, true⟩
theorem ok258 : TyOk Tryz.prog 258 i258 := ⟨by kernel_rfl, by kernel_rfl, fun _ => by kernel_rfl⟩
def i259 : TI := ⟨.func, 1, 8, .nilfunc, true⟩
theorem ok259 : TyOk Tryz.prog 259 i259 := ⟨by kernel_rfl, by kernel_rfl, fun _ => by kernel_rfl⟩
def i260 : TI := ⟨.struct [(17, 0), (17, 1), (17, 2), (9, 3)], 4, 40, .agg [.nilptr, .nilptr, .nilptr, .str ⟨#[]⟩], false⟩
theorem ok260 : TyOk Tryz.prog 260 i260 := ⟨by kernel_rfl, by kernel_rfl, fun h => by cases h⟩
def i261 : TI := ⟨.struct [(17, 0), (17, 1), (17, 2), (9, 3)], 4, 40, .agg [.nilptr, .nilptr, .nilptr, .str ⟨#[]⟩], false⟩
theorem ok261 : TyOk Tryz.prog 261 i261 := ⟨by kernel_rfl, by kernel_rfl, fun h => by cases h⟩
def i262 : TI := ⟨.arr 0 16, 0, 0, .agg [], true⟩
theorem ok262 : TyOk Tryz.prog 262 i262 := ⟨by kernel_rfl, by kernel_rfl, fun _ => by kernel_rfl⟩
def i263 : TI := ⟨.struct [(262, 0)], 0, 0, .agg [], false⟩
theorem ok263 : TyOk Tryz.prog 263 i263 := ⟨by kernel_rfl, by kernel_rfl, fun h => by cases h⟩
def i264 : TI := ⟨.struct [(262, 0)], 0, 0, .agg [], false⟩
theorem ok264 : TyOk Tryz.prog 264 i264 := ⟨by kernel_rfl, by kernel_rfl, fun h => by cases h⟩
def i265 : TI := ⟨.func, 1, 8, .nilfunc, true⟩
theorem ok265 : TyOk Tryz.prog 265 i265 := ⟨by kernel_rfl, by kernel_rfl, fun _ => by kernel_rfl⟩
def i266 : TI := ⟨.int .u8, 1, 1, .int .u8 0, true⟩
theorem ok266 : TyOk Tryz.prog 266 i266 := ⟨by kernel_rfl, by kernel_rfl, fun _ => by kernel_rfl⟩
def i267 : TI := ⟨.int .u8, 1, 1, .int .u8 0, true⟩
theorem ok267 : TyOk Tryz.prog 267 i267 := ⟨by kernel_rfl, by kernel_rfl, fun _ => by kernel_rfl⟩
def i268 : TI := ⟨.func, 1, 8, .nilfunc, true⟩
theorem ok268 : TyOk Tryz.prog 268 i268 := ⟨by kernel_rfl, by kernel_rfl, fun _ => by kernel_rfl⟩
def i269 : TI := ⟨.ptr, 1, 8, .nilptr, true⟩
theorem ok269 : TyOk Tryz.prog 269 i269 := ⟨by kernel_rfl, by kernel_rfl, fun _ => by kernel_rfl⟩
def i270 : TI := ⟨.int .i32, 1, 4, .int .i32 0, true⟩
theorem ok270 : TyOk Tryz.prog 270 i270 := ⟨by kernel_rfl, by kernel_rfl, fun _ => by kernel_rfl⟩
def i271 : TI := ⟨.int .i32, 1, 4, .int .i32 0, true⟩
theorem ok271 : TyOk Tryz.prog 271 i271 := ⟨by kernel_rfl, by kernel_rfl, fun _ => by kernel_rfl⟩
def i272 : TI := ⟨.struct [(12, 0), (12, 1), (49, 2), (266, 3), (5, 4), (5, 5), (267, 6), (268, 7), (269, 8), (270, 9), (271, 10)], 11, 48, .agg [.int .u64 0, .int .u64 0, .int .u32 0, .int .u8 0, .int .u8 0, .int .u8 0, .int .u8 0, .nilfunc, .nilptr, .int .i32 0, .int .i32 0], false⟩
theorem ok272 : TyOk Tryz.prog 272 i272 := ⟨by kernel_rfl, by kernel_rfl, fun h => by cases h⟩
def i273 : TI := ⟨.struct [(12, 0), (12, 1), (49, 2), (266, 3), (5, 4), (5, 5), (267, 6), (268, 7), (269, 8), (270, 9), (271, 10)], 11, 48, .agg [.int .u64 0, .int .u64 0, .int .u32 0, .int .u8 0, .int .u8 0, .int .u8 0, .int .u8 0, .nilfunc, .nilptr, .int .i32 0, .int .i32 0], false⟩
theorem ok273 : TyOk Tryz.prog 273 i273 := ⟨by kernel_rfl, by kernel_rfl, fun h => by cases h⟩
def i274 : TI := ⟨.func, 1, 8, .nilfunc, true⟩
theorem ok274 : TyOk Tryz.prog 274 i274 := ⟨by kernel_rfl, by kernel_rfl, fun _ => by kernel_rfl⟩
def i275 : TI := ⟨.func, 1, 8, .nilfunc, true⟩
theorem ok275 : TyOk Tryz.prog 275 i275 := ⟨by kernel_rfl, by kernel_rfl, fun _ => by kernel_rfl⟩
def i276 : TI := ⟨.func, 1, 8, .nilfunc, true⟩
theorem ok276 : TyOk Tryz.prog 276 i276 := ⟨by kernel_rfl, by kernel_rfl, fun _ => by kernel_rfl⟩
def i277 : TI := ⟨.func, 1, 8, .nilfunc, true⟩
theorem ok277 : TyOk Tryz.prog 277 i277 := ⟨by kernel_rfl, by kernel_rfl, fun _ => by kernel_rfl⟩
def i278 : TI := ⟨.func, 1, 8, .nilfunc, true⟩
theorem ok278 : TyOk Tryz.prog 278 i278 := ⟨by kernel_rfl, by kernel_rfl, fun _ => by kernel_rfl⟩
def i279 : TI := ⟨.func, 1, 8, .nilfunc, true⟩
theorem ok279 : TyOk Tryz.prog 279 i279 := ⟨by kernel_rfl, by kernel_rfl, fun _ => by kernel_rfl⟩
def i280 : TI := ⟨.struct [(9, 0), (267, 1)], 2, 24, .agg [.str ⟨#[]⟩, .int .u8 0], false⟩
theorem ok280 : TyOk Tryz.prog 280 i280 := ⟨by kernel_rfl, by kernel_rfl, fun h => by cases h⟩
def i281 : TI := ⟨.struct [(9, 0), (267, 1)], 2, 24, .agg [.str ⟨#[]⟩, .int .u8 0], false⟩
theorem ok281 : TyOk Tryz.prog 281 i281 := ⟨by kernel_rfl, by kernel_rfl, fun h => by cases h⟩
def i283 : TI := ⟨.ptr, 1, 8, .nilptr, true⟩
theorem ok283 : TyOk Tryz.prog 283 i283 := ⟨by kernel_rfl, by kernel_rfl, fun _ => by kernel_rfl⟩
def i284 : TI := ⟨.func, 1, 8, .nilfunc, true⟩
theorem ok284 : TyOk Tryz.prog 284 i284 := ⟨by kernel_rfl, by kernel_rfl, fun _ => by kernel_rfl⟩
def i285 : TI := ⟨.struct [(270, 0), (27, 1), (27, 2), (49, 3), (49, 4)], 5, 16, .agg [.int .i32 0, .int .u16 0, .int .u16 0, .int .u32 0, .int .u32 0], false⟩
theorem ok285 : TyOk Tryz.prog 285 i285 := ⟨by kernel_rfl, by kernel_rfl, fun h => by cases h⟩
def i286 : TI := ⟨.struct [(270, 0), (27, 1), (27, 2), (49, 3), (49, 4)], 5, 16, .agg [.int .i32 0, .int .u16 0, .int .u16 0, .int .u32 0, .int .u32 0], false⟩
theorem ok286 : TyOk Tryz.prog 286 i286 := ⟨by kernel_rfl, by kernel_rfl, fun h => by cases h⟩
def i287 : TI := ⟨.slice 290, 1, 24, .nilslice, true⟩
theorem ok287 : TyOk Tryz.prog 287 i287 := ⟨by kernel_rfl, by kernel_rfl, fun _ => by kernel_rfl⟩
def i288 : TI := ⟨.int .i32, 1, 4, .int .i32 0, true⟩
theorem ok288 : TyOk Tryz.prog 288 i288 := ⟨by kernel_rfl, by kernel_rfl, fun _ => by kernel_rfl⟩
def i289 : TI := ⟨.struct [(270, 0), (271, 1), (288, 2), (288, 3)], 4, 16, .agg [.int .i32 0, .int .i32 0, .int .i32 0, .int .i32 0], false⟩
theorem ok289 : TyOk Tryz.prog 289 i289 := ⟨by kernel_rfl, by kernel_rfl, fun h => by cases h⟩
def i290 : TI := ⟨.struct [(270, 0), (271, 1), (288, 2), (288, 3)], 4, 16, .agg [.int .i32 0, .int .i32 0, .int .i32 0, .int .i32 0], false⟩
theorem ok290 : TyOk Tryz.prog 290 i290 := ⟨by kernel_rfl, by kernel_rfl, fun h => by cases h⟩
def tab_0 : Nat → Option TI
  | 1 => some i1
  | 2 => some i2
  | 3 => some i3
  | 4 => some i4
  | 5 => some i5
  | 6 => some i6
  | 7 => some i7
  | 8 => some i8
  | 9 => some i9
  | 10 => some i10
  | 11 => some i11
  | 12 => some i12
  | 13 => some i13
  | 14 => some i14
  | 15 => some i15
  | 16 => some i16
  | 17 => some i17
  | 18 => some i18
  | 19 => some i19
  | 20 => some i20
  | 21 => some i21
  | 22 => some i22
  | 23 => some i23
  | 24 => some i24
  | 25 => some i25
  | 26 => some i26
  | 27 => some i27
  | 28 => some i28
  | 29 => some i29
  | 30 => some i30
  | 31 => some i31
  | 32 => some i32
  | 33 => some i33
  | 34 => some i34
  | 36 => some i36
  | 37 => some i37
  | 38 => some i38
  | 40 => some i40
  | 41 => some i41
  | 42 => some i42
  | 44 => some i44
  | 45 => some i45
  | 46 => some i46
  | 47 => some i47
  | _ => none
theorem tab_ok_0 {t : Nat} {i : TI} (h : tab_0 t = some i) : TyOk Tryz.prog t i := by
  unfold tab_0 at h
  split at h <;> cases h
  · exact ok1
  · exact ok2
  · exact ok3
  · exact ok4
  · exact ok5
  · exact ok6
  · exact ok7
  · exact ok8
  · exact ok9
  · exact ok10
  · exact ok11
  · exact ok12
  · exact ok13
  · exact ok14
  · exact ok15
  · exact ok16
  · exact ok17
  · exact ok18
  · exact ok19
  · exact ok20
  · exact ok21
  · exact ok22
  · exact ok23
  · exact ok24
  · exact ok25
  · exact ok26
  · exact ok27
  · exact ok28
  · exact ok29
  · exact ok30
  · exact ok31
  · exact ok32
  · exact ok33
  · exact ok34
  · exact ok36
  · exact ok37
  · exact ok38
  · exact ok40
  · exact ok41
  · exact ok42
  · exact ok44
  · exact ok45
  · exact ok46
  · exact ok47
def tab_1 : Nat → Option TI
  | 48 => some i48
  | 49 => some i49
  | 50 => some i50
  | 51 => some i51
  | 52 => some i52
  | 53 => some i53
  | 54 => some i54
  | 56 => some i56
  | 57 => some i57
  | 58 => some i58
  | 59 => some i59
  | 60 => some i60
  | 61 => some i61
  | 62 => some i62
  | 63 => some i63
  | 64 => some i64
  | 65 => some i65
  | 66 => some i66
  | 67 => some i67
  | 68 => some i68
  | 69 => some i69
  | 70 => some i70
  | 71 => some i71
  | 72 => some i72
  | 73 => some i73
  | 75 => some i75
  | 76 => some i76
  | 77 => some i77
  | 78 => some i78
  | 79 => some i79
  | 80 => some i80
  | 81 => some i81
  | 82 => some i82
  | 83 => some i83
  | 84 => some i84
  | 85 => some i85
  | 86 => some i86
  | 87 => some i87
  | 88 => some i88
  | 89 => some i89
  | 90 => some i90
  | 91 => some i91
  | 92 => some i92
  | 93 => some i93
  | 94 => some i94
  | 95 => some i95
  | _ => none
theorem tab_ok_1 {t : Nat} {i : TI} (h : tab_1 t = some i) : TyOk Tryz.prog t i := by
  unfold tab_1 at h
  split at h <;> cases h
  · exact ok48
  · exact ok49
  · exact ok50
  · exact ok51
  · exact ok52
  · exact ok53
  · exact ok54
  · exact ok56
  · exact ok57
  · exact ok58
  · exact ok59
  · exact ok60
  · exact ok61
  · exact ok62
  · exact ok63
  · exact ok64
  · exact ok65
  · exact ok66
  · exact ok67
  · exact ok68
  · exact ok69
  · exact ok70
  · exact ok71
  · exact ok72
  · exact ok73
  · exact ok75
  · exact ok76
  · exact ok77
  · exact ok78
  · exact ok79
  · exact ok80
  · exact ok81
  · exact ok82
  · exact ok83
  · exact ok84
  · exact ok85
  · exact ok86
  · exact ok87
  · exact ok88
  · exact ok89
  · exact ok90
  · exact ok91
  · exact ok92
  · exact ok93
  · exact ok94
  · exact ok95
def tab_2 : Nat → Option TI
  | 96 => some i96
  | 98 => some i98
  | 99 => some i99
  | 100 => some i100
  | 101 => some i101
  | 103 => some i103
  | 104 => some i104
  | 105 => some i105
  | 106 => some i106
  | 107 => some i107
  | 108 => some i108
  | 109 => some i109
  | 110 => some i110
  | 111 => some i111
  | 112 => some i112
  | 113 => some i113
  | 114 => some i114
  | 115 => some i115
  | 116 => some i116
  | 118 => some i118
  | 119 => some i119
  | 120 => some i120
  | 121 => some i121
  | 122 => some i122
  | 123 => some i123
  | 124 => some i124
  | 125 => some i125
  | 126 => some i126
  | 127 => some i127
  | 128 => some i128
  | 129 => some i129
  | 130 => some i130
  | 131 => some i131
  | 132 => some i132
  | 133 => some i133
  | 134 => some i134
  | 135 => some i135
  | 136 => some i136
  | 138 => some i138
  | 139 => some i139
  | 141 => some i141
  | 142 => some i142
  | 143 => some i143
  | _ => none
theorem tab_ok_2 {t : Nat} {i : TI} (h : tab_2 t = some i) : TyOk Tryz.prog t i := by
  unfold tab_2 at h
  split at h <;> cases h
  · exact ok96
  · exact ok98
  · exact ok99
  · exact ok100
  · exact ok101
  · exact ok103
  · exact ok104
  · exact ok105
  · exact ok106
  · exact ok107
  · exact ok108
  · exact ok109
  · exact ok110
  · exact ok111
  · exact ok112
  · exact ok113
  · exact ok114
  · exact ok115
  · exact ok116
  · exact ok118
  · exact ok119
  · exact ok120
  · exact ok121
  · exact ok122
  · exact ok123
  · exact ok124
  · exact ok125
  · exact ok126
  · exact ok127
  · exact ok128
  · exact ok129
  · exact ok130
  · exact ok131
  · exact ok132
  · exact ok133
  · exact ok134
  · exact ok135
  · exact ok136
  · exact ok138
  · exact ok139
  · exact ok141
  · exact ok142
  · exact ok143
def tab_3 : Nat → Option TI
  | 144 => some i144
  | 145 => some i145
  | 146 => some i146
  | 147 => some i147
  | 148 => some i148
  | 149 => some i149
  | 151 => some i151
  | 152 => some i152
  | 153 => some i153
  | 154 => some i154
  | 155 => some i155
  | 156 => some i156
  | 157 => some i157
  | 158 => some i158
  | 159 => some i159
  | 160 => some i160
  | 162 => some i162
  | 163 => some i163
  | 164 => some i164
  | 165 => some i165
  | 166 => some i166
  | 167 => some i167
  | 168 => some i168
  | 170 => some i170
  | 171 => some i171
  | 172 => some i172
  | 173 => some i173
  | 174 => some i174
  | 175 => some i175
  | 176 => some i176
  | 177 => some i177
  | 178 => some i178
  | 179 => some i179
  | 180 => some i180
  | 181 => some i181
  | 182 => some i182
  | 183 => some i183
  | 184 => some i184
  | 185 => some i185
  | 186 => some i186
  | 187 => some i187
  | 189 => some i189
  | 190 => some i190
  | 191 => some i191
  | _ => none
theorem tab_ok_3 {t : Nat} {i : TI} (h : tab_3 t = some i) : TyOk Tryz.prog t i := by
  unfold tab_3 at h
  split at h <;> cases h
  · exact ok144
  · exact ok145
  · exact ok146
  · exact ok147
  · exact ok148
  · exact ok149
  · exact ok151
  · exact ok152
  · exact ok153
  · exact ok154
  · exact ok155
  · exact ok156
  · exact ok157
  · exact ok158
  · exact ok159
  · exact ok160
  · exact ok162
  · exact ok163
  · exact ok164
  · exact ok165
  · exact ok166
  · exact ok167
  · exact ok168
  · exact ok170
  · exact ok171
  · exact ok172
  · exact ok173
  · exact ok174
  · exact ok175
  · exact ok176
  · exact ok177
  · exact ok178
  · exact ok179
  · exact ok180
  · exact ok181
  · exact ok182
  · exact ok183
  · exact ok184
  · exact ok185
  · exact ok186
  · exact ok187
  · exact ok189
  · exact ok190
  · exact ok191
def tab_4 : Nat → Option TI
  | 192 => some i192
  | 193 => some i193
  | 194 => some i194
  | 195 => some i195
  | 196 => some i196
  | 197 => some i197
  | 198 => some i198
  | 199 => some i199
  | 200 => some i200
  | 201 => some i201
  | 202 => some i202
  | 203 => some i203
  | 204 => some i204
  | 205 => some i205
  | 206 => some i206
  | 207 => some i207
  | 208 => some i208
  | 209 => some i209
  | 210 => some i210
  | 211 => some i211
  | 212 => some i212
  | 213 => some i213
  | 214 => some i214
  | 215 => some i215
  | 216 => some i216
  | 217 => some i217
  | 218 => some i218
  | 219 => some i219
  | 220 => some i220
  | 221 => some i221
  | 222 => some i222
  | 223 => some i223
  | 224 => some i224
  | 225 => some i225
  | 226 => some i226
  | 227 => some i227
  | 228 => some i228
  | 229 => some i229
  | 230 => some i230
  | 231 => some i231
  | 233 => some i233
  | 234 => some i234
  | 235 => some i235
  | 236 => some i236
  | 237 => some i237
  | 238 => some i238
  | 239 => some i239
  | _ => none
theorem tab_ok_4 {t : Nat} {i : TI} (h : tab_4 t = some i) : TyOk Tryz.prog t i := by
  unfold tab_4 at h
  split at h <;> cases h
  · exact ok192
  · exact ok193
  · exact ok194
  · exact ok195
  · exact ok196
  · exact ok197
  · exact ok198
  · exact ok199
  · exact ok200
  · exact ok201
  · exact ok202
  · exact ok203
  · exact ok204
  · exact ok205
  · exact ok206
  · exact ok207
  · exact ok208
  · exact ok209
  · exact ok210
  · exact ok211
  · exact ok212
  · exact ok213
  · exact ok214
  · exact ok215
  · exact ok216
  · exact ok217
  · exact ok218
  · exact ok219
  · exact ok220
  · exact ok221
  · exact ok222
  · exact ok223
  · exact ok224
  · exact ok225
  · exact ok226
  · exact ok227
  · exact ok228
  · exact ok229
  · exact ok230
  · exact ok231
  · exact ok233
  · exact ok234
  · exact ok235
  · exact ok236
  · exact ok237
  · exact ok238
  · exact ok239
def tab_5 : Nat → Option TI
  | 240 => some i240
  | 241 => some i241
  | 242 => some i242
  | 243 => some i243
  | 244 => some i244
  | 245 => some i245
  | 246 => some i246
  | 247 => some i247
  | 249 => some i249
  | 250 => some i250
  | 251 => some i251
  | 252 => some i252
  | 253 => some i253
  | 254 => some i254
  | 255 => some i255
  | 256 => some i256
  | 257 => some i257
  | 258 => some i258
  | 259 => some i259
  | 260 => some i260
  | 261 => some i261
  | 262 => some i262
  | 263 => some i263
  | 264 => some i264
  | 265 => some i265
  | 266 => some i266
  | 267 => some i267
  | 268 => some i268
  | 269 => some i269
  | 270 => some i270
  | 271 => some i271
  | 272 => some i272
  | 273 => some i273
  | 274 => some i274
  | 275 => some i275
  | 276 => some i276
  | 277 => some i277
  | 278 => some i278
  | 279 => some i279
  | 280 => some i280
  | 281 => some i281
  | 283 => some i283
  | 284 => some i284
  | 285 => some i285
  | 286 => some i286
  | 287 => some i287
  | _ => none
theorem tab_ok_5 {t : Nat} {i : TI} (h : tab_5 t = some i) : TyOk Tryz.prog t i := by
  unfold tab_5 at h
  split at h <;> cases h
  · exact ok240
  · exact ok241
  · exact ok242
  · exact ok243
  · exact ok244
  · exact ok245
  · exact ok246
  · exact ok247
  · exact ok249
  · exact ok250
  · exact ok251
  · exact ok252
  · exact ok253
  · exact ok254
  · exact ok255
  · exact ok256
  · exact ok257
  · exact ok258
  · exact ok259
  · exact ok260
  · exact ok261
  · exact ok262
  · exact ok263
  · exact ok264
  · exact ok265
  · exact ok266
  · exact ok267
  · exact ok268
  · exact ok269
  · exact ok270
  · exact ok271
  · exact ok272
  · exact ok273
  · exact ok274
  · exact ok275
  · exact ok276
  · exact ok277
  · exact ok278
  · exact ok279
  · exact ok280
  · exact ok281
  · exact ok283
  · exact ok284
  · exact ok285
  · exact ok286
  · exact ok287
def tab_6 : Nat → Option TI
  | 288 => some i288
  | 289 => some i289
  | 290 => some i290
  | _ => none
theorem tab_ok_6 {t : Nat} {i : TI} (h : tab_6 t = some i) : TyOk Tryz.prog t i := by
  unfold tab_6 at h
  split at h <;> cases h
  · exact ok288
  · exact ok289
  · exact ok290
def tab (t : Nat) : Option TI := if t < 48 then tab_0 t else if t < 96 then tab_1 t else if t < 144 then tab_2 t else if t < 192 then tab_3 t else if t < 240 then tab_4 t else if t < 288 then tab_5 t else if t < 336 then tab_6 t else none
theorem tab_ok : TabOk Tryz.prog tab := by
  intro t i h
  unfold tab at h
  by_cases h0 : t < 48
  · rw [if_pos h0] at h; exact tab_ok_0 h
  rw [if_neg h0] at h
  by_cases h1 : t < 96
  · rw [if_pos h1] at h; exact tab_ok_1 h
  rw [if_neg h1] at h
  by_cases h2 : t < 144
  · rw [if_pos h2] at h; exact tab_ok_2 h
  rw [if_neg h2] at h
  by_cases h3 : t < 192
  · rw [if_pos h3] at h; exact tab_ok_3 h
  rw [if_neg h3] at h
  by_cases h4 : t < 240
  · rw [if_pos h4] at h; exact tab_ok_4 h
  rw [if_neg h4] at h
  by_cases h5 : t < 288
  · rw [if_pos h5] at h; exact tab_ok_5 h
  rw [if_neg h5] at h
  by_cases h6 : t < 336
  · rw [if_pos h6] at h; exact tab_ok_6 h
  rw [if_neg h6] at h
  cases h
@[simp] theorem tab1 : tab 1 = some ⟨.func, 1, 8, .nilfunc, true⟩ := nd rfl
@[simp] theorem tab2 : tab 2 = some ⟨.int .i64, 1, 8, .int .i64 0, true⟩ := nd rfl
@[simp] theorem tab3 : tab 3 = some ⟨.int .i64, 1, 8, .int .i64 0, true⟩ := nd rfl
@[simp] theorem tab4 : tab 4 = some ⟨.bool, 1, 1, .bool false, true⟩ := nd rfl
@[simp] theorem tab5 : tab 5 = some ⟨.int .u8, 1, 1, .int .u8 0, true⟩ := nd rfl
@[simp] theorem tab6 : tab 6 = some ⟨.int .u8, 1, 1, .int .u8 0, true⟩ := nd rfl
@[simp] theorem tab7 : tab 7 = some ⟨.struct [(2, 0), (3, 1), (4, 2), (6, 3)], 4, 24, .agg [.int .i64 0, .int .i64 0, .bool false, .int .u8 0], true⟩ := nd rfl
@[simp] theorem tab8 : tab 8 = some ⟨.struct [(2, 0), (3, 1), (4, 2), (6, 3)], 4, 24, .agg [.int .i64 0, .int .i64 0, .bool false, .int .u8 0], true⟩ := nd rfl
@[simp] theorem tab9 : tab 9 = some ⟨.str, 1, 16, .str ⟨#[]⟩, true⟩ := nd rfl
@[simp] theorem tab10 : tab 10 = some ⟨.str, 1, 16, .str ⟨#[]⟩, true⟩ := nd rfl
@[simp] theorem tab11 : tab 11 = some ⟨.str, 1, 16, .str ⟨#[]⟩, true⟩ := nd rfl
@[simp] theorem tab12 : tab 12 = some ⟨.int .u64, 1, 8, .int .u64 0, true⟩ := nd rfl
@[simp] theorem tab13 : tab 13 = some ⟨.struct [(9, 0), (12, 1)], 2, 24, .agg [.str ⟨#[]⟩, .int .u64 0], false⟩ := nd rfl
@[simp] theorem tab14 : tab 14 = some ⟨.struct [(9, 0), (12, 1)], 2, 24, .agg [.str ⟨#[]⟩, .int .u64 0], false⟩ := nd rfl
@[simp] theorem tab15 : tab 15 = some ⟨.ptr, 1, 8, .nilptr, true⟩ := nd rfl
@[simp] theorem tab16 : tab 16 = some ⟨.ptr, 1, 8, .nilptr, true⟩ := nd rfl
@[simp] theorem tab17 : tab 17 = some ⟨.ptr, 1, 8, .nilptr, true⟩ := nd rfl
@[simp] theorem tab18 : tab 18 = some ⟨.struct [(17, 0)], 1, 8, .agg [.nilptr], false⟩ := nd rfl
@[simp] theorem tab19 : tab 19 = some ⟨.struct [(17, 0)], 1, 8, .agg [.nilptr], false⟩ := nd rfl
@[simp] theorem tab20 : tab 20 = some ⟨.iface, 1, 16, .niliface, true⟩ := nd rfl
@[simp] theorem tab21 : tab 21 = some ⟨.int .i32, 1, 4, .int .i32 0, true⟩ := nd rfl
@[simp] theorem tab22 : tab 22 = some ⟨.slice 63, 1, 24, .nilslice, true⟩ := nd rfl
@[simp] theorem tab23 : tab 23 = some ⟨.slice 3, 1, 24, .nilslice, true⟩ := nd rfl
@[simp] theorem tab24 : tab 24 = some ⟨.struct [(3, 0), (22, 1), (23, 2)], 3, 56, .agg [.int .i64 0, .nilslice, .nilslice], true⟩ := nd rfl
@[simp] theorem tab25 : tab 25 = some ⟨.struct [(3, 0), (22, 1), (23, 2)], 3, 56, .agg [.int .i64 0, .nilslice, .nilslice], true⟩ := nd rfl
@[simp] theorem tab26 : tab 26 = some ⟨.slice 54, 1, 24, .nilslice, true⟩ := nd rfl
@[simp] theorem tab27 : tab 27 = some ⟨.int .u16, 1, 2, .int .u16 0, true⟩ := nd rfl
@[simp] theorem tab28 : tab 28 = some ⟨.struct [(25, 0), (26, 3), (5, 4), (21, 5), (27, 6)], 7, 96, .agg [.int .i64 0, .nilslice, .nilslice, .nilslice, .int .u8 0, .int .i32 0, .int .u16 0], true⟩ := nd rfl
@[simp] theorem tab29 : tab 29 = some ⟨.struct [(25, 0), (26, 3), (5, 4), (21, 5), (27, 6)], 7, 96, .agg [.int .i64 0, .nilslice, .nilslice, .nilslice, .int .u8 0, .int .i32 0, .int .u16 0], true⟩ := nd rfl
@[simp] theorem tab30 : tab 30 = some ⟨.func, 1, 8, .nilfunc, true⟩ := nd rfl
@[simp] theorem tab31 : tab 31 = some ⟨.struct [(3, 0), (2, 1), (2, 2), (2, 3), (2, 4)], 5, 40, .agg [.int .i64 0, .int .i64 0, .int .i64 0, .int .i64 0, .int .i64 0], true⟩ := nd rfl
@[simp] theorem tab32 : tab 32 = some ⟨.struct [(3, 0), (2, 1), (2, 2), (2, 3), (2, 4)], 5, 40, .agg [.int .i64 0, .int .i64 0, .int .i64 0, .int .i64 0, .int .i64 0], true⟩ := nd rfl
@[simp] theorem tab33 : tab 33 = some ⟨.struct [(32, 0), (2, 5), (2, 6)], 7, 56, .agg [.int .i64 0, .int .i64 0, .int .i64 0, .int .i64 0, .int .i64 0, .int .i64 0, .int .i64 0], true⟩ := nd rfl
@[simp] theorem tab34 : tab 34 = some ⟨.struct [(32, 0), (2, 5), (2, 6)], 7, 56, .agg [.int .i64 0, .int .i64 0, .int .i64 0, .int .i64 0, .int .i64 0, .int .i64 0, .int .i64 0], true⟩ := nd rfl
@[simp] theorem tab36 : tab 36 = some ⟨.func, 1, 8, .nilfunc, true⟩ := nd rfl
@[simp] theorem tab37 : tab 37 = some ⟨.slice 47, 1, 24, .nilslice, true⟩ := nd rfl
@[simp] theorem tab38 : tab 38 = some ⟨.int .i64, 1, 8, .int .i64 0, true⟩ := nd rfl
@[simp] theorem tab40 : tab 40 = some ⟨.func, 1, 8, .nilfunc, true⟩ := nd rfl
@[simp] theorem tab41 : tab 41 = some ⟨.func, 1, 8, .nilfunc, true⟩ := nd rfl
@[simp] theorem tab42 : tab 42 = some ⟨.func, 1, 8, .nilfunc, true⟩ := nd rfl
@[simp] theorem tab44 : tab 44 = some ⟨.func, 1, 8, .nilfunc, true⟩ := nd rfl
@[simp] theorem tab45 : tab 45 = some ⟨.func, 1, 8, .nilfunc, true⟩ := nd rfl
@[simp] theorem tab46 : tab 46 = some ⟨.struct [(2, 0), (2, 1), (26, 2), (26, 3), (26, 4), (26, 5)], 6, 112, .agg [.int .i64 0, .int .i64 0, .nilslice, .nilslice, .nilslice, .nilslice], true⟩ := nd rfl
@[simp] theorem tab47 : tab 47 = some ⟨.struct [(2, 0), (2, 1), (26, 2), (26, 3), (26, 4), (26, 5)], 6, 112, .agg [.int .i64 0, .int .i64 0, .nilslice, .nilslice, .nilslice, .nilslice], true⟩ := nd rfl
@[simp] theorem tab48 : tab 48 = some ⟨.func, 1, 8, .nilfunc, true⟩ := nd rfl
@[simp] theorem tab49 : tab 49 = some ⟨.int .u32, 1, 4, .int .u32 0, true⟩ := nd rfl
@[simp] theorem tab50 : tab 50 = some ⟨.arr 2 49, 2, 8, .agg [.int .u32 0, .int .u32 0], true⟩ := nd rfl
@[simp] theorem tab51 : tab 51 = some ⟨.func, 1, 8, .nilfunc, true⟩ := nd rfl
@[simp] theorem tab52 : tab 52 = some ⟨.func, 1, 8, .nilfunc, true⟩ := nd rfl
@[simp] theorem tab53 : tab 53 = some ⟨.struct [(2, 0), (2, 1)], 2, 16, .agg [.int .i64 0, .int .i64 0], true⟩ := nd rfl
@[simp] theorem tab54 : tab 54 = some ⟨.struct [(2, 0), (2, 1)], 2, 16, .agg [.int .i64 0, .int .i64 0], true⟩ := nd rfl
@[simp] theorem tab56 : tab 56 = some ⟨.func, 1, 8, .nilfunc, true⟩ := nd rfl
@[simp] theorem tab57 : tab 57 = some ⟨.func, 1, 8, .nilfunc, true⟩ := nd rfl
@[simp] theorem tab58 : tab 58 = some ⟨.func, 1, 8, .nilfunc, true⟩ := nd rfl
@[simp] theorem tab59 : tab 59 = some ⟨.func, 1, 8, .nilfunc, true⟩ := nd rfl
@[simp] theorem tab60 : tab 60 = some ⟨.func, 1, 8, .nilfunc, true⟩ := nd rfl
@[simp] theorem tab61 : tab 61 = some ⟨.arr 3 49, 3, 12, .agg [.int .u32 0, .int .u32 0, .int .u32 0], true⟩ := nd rfl
@[simp] theorem tab62 : tab 62 = some ⟨.struct [(3, 0), (3, 1), (3, 2), (54, 3)], 5, 40, .agg [.int .i64 0, .int .i64 0, .int .i64 0, .int .i64 0, .int .i64 0], true⟩ := nd rfl
@[simp] theorem tab63 : tab 63 = some ⟨.struct [(3, 0), (3, 1), (3, 2), (54, 3)], 5, 40, .agg [.int .i64 0, .int .i64 0, .int .i64 0, .int .i64 0, .int .i64 0], true⟩ := nd rfl
@[simp] theorem tab64 : tab 64 = some ⟨.func, 1, 8, .nilfunc, true⟩ := nd rfl
@[simp] theorem tab65 : tab 65 = some ⟨.func, 1, 8, .nilfunc, true⟩ := nd rfl
@[simp] theorem tab66 : tab 66 = some ⟨.func, 1, 8, .nilfunc, true⟩ := nd rfl
@[simp] theorem tab67 : tab 67 = some ⟨.func, 1, 8, .nilfunc, true⟩ := nd rfl
@[simp] theorem tab68 : tab 68 = some ⟨.struct [(37, 0), (5, 1), (2, 2), (54, 3), (3, 5)], 6, 64, .agg [.nilslice, .int .u8 0, .int .i64 0, .int .i64 0, .int .i64 0, .int .i64 0], true⟩ := nd rfl
@[simp] theorem tab69 : tab 69 = some ⟨.struct [(37, 0), (5, 1), (2, 2), (54, 3), (3, 5)], 6, 64, .agg [.nilslice, .int .u8 0, .int .i64 0, .int .i64 0, .int .i64 0, .int .i64 0], true⟩ := nd rfl
@[simp] theorem tab70 : tab 70 = some ⟨.func, 1, 8, .nilfunc, true⟩ := nd rfl
@[simp] theorem tab71 : tab 71 = some ⟨.func, 1, 8, .nilfunc, true⟩ := nd rfl
@[simp] theorem tab72 : tab 72 = some ⟨.func, 1, 8, .nilfunc, true⟩ := nd rfl
@[simp] theorem tab73 : tab 73 = some ⟨.func, 1, 8, .nilfunc, true⟩ := nd rfl
@[simp] theorem tab75 : tab 75 = some ⟨.func, 1, 8, .nilfunc, true⟩ := nd rfl
@[simp] theorem tab76 : tab 76 = some ⟨.func, 1, 8, .nilfunc, true⟩ := nd rfl
@[simp] theorem tab77 : tab 77 = some ⟨.func, 1, 8, .nilfunc, true⟩ := nd rfl
@[simp] theorem tab78 : tab 78 = some ⟨.slice 81, 1, 24, .nilslice, true⟩ := nd rfl
@[simp] theorem tab79 : tab 79 = some ⟨.func, 1, 8, .nilfunc, true⟩ := nd rfl
@[simp] theorem tab80 : tab 80 = some ⟨.struct [(3, 0), (54, 1), (26, 3)], 4, 48, .agg [.int .i64 0, .int .i64 0, .int .i64 0, .nilslice], true⟩ := nd rfl
@[simp] theorem tab81 : tab 81 = some ⟨.struct [(3, 0), (54, 1), (26, 3)], 4, 48, .agg [.int .i64 0, .int .i64 0, .int .i64 0, .nilslice], true⟩ := nd rfl
@[simp] theorem tab82 : tab 82 = some ⟨.func, 1, 8, .nilfunc, true⟩ := nd rfl
@[simp] theorem tab83 : tab 83 = some ⟨.func, 1, 8, .nilfunc, true⟩ := nd rfl
@[simp] theorem tab84 : tab 84 = some ⟨.func, 1, 8, .nilfunc, true⟩ := nd rfl
@[simp] theorem tab85 : tab 85 = some ⟨.slice 136, 1, 24, .nilslice, true⟩ := nd rfl
@[simp] theorem tab86 : tab 86 = some ⟨.struct [(85, 0), (26, 1), (5, 2), (21, 3), (27, 4)], 5, 64, .agg [.nilslice, .nilslice, .int .u8 0, .int .i32 0, .int .u16 0], true⟩ := nd rfl
@[simp] theorem tab87 : tab 87 = some ⟨.struct [(85, 0), (26, 1), (5, 2), (21, 3), (27, 4)], 5, 64, .agg [.nilslice, .nilslice, .int .u8 0, .int .i32 0, .int .u16 0], true⟩ := nd rfl
@[simp] theorem tab88 : tab 88 = some ⟨.func, 1, 8, .nilfunc, true⟩ := nd rfl
@[simp] theorem tab89 : tab 89 = some ⟨.slice 9, 1, 24, .nilslice, true⟩ := nd rfl
@[simp] theorem tab90 : tab 90 = some ⟨.struct [(89, 0), (85, 1)], 2, 48, .agg [.nilslice, .nilslice], true⟩ := nd rfl
@[simp] theorem tab91 : tab 91 = some ⟨.struct [(89, 0), (85, 1)], 2, 48, .agg [.nilslice, .nilslice], true⟩ := nd rfl
@[simp] theorem tab92 : tab 92 = some ⟨.func, 1, 8, .nilfunc, true⟩ := nd rfl
@[simp] theorem tab93 : tab 93 = some ⟨.func, 1, 8, .nilfunc, true⟩ := nd rfl
@[simp] theorem tab94 : tab 94 = some ⟨.slice 101, 1, 24, .nilslice, true⟩ := nd rfl
@[simp] theorem tab95 : tab 95 = some ⟨.struct [(2, 0), (26, 1), (94, 2)], 3, 56, .agg [.int .i64 0, .nilslice, .nilslice], true⟩ := nd rfl
@[simp] theorem tab96 : tab 96 = some ⟨.struct [(2, 0), (26, 1), (94, 2)], 3, 56, .agg [.int .i64 0, .nilslice, .nilslice], true⟩ := nd rfl
@[simp] theorem tab98 : tab 98 = some ⟨.func, 1, 8, .nilfunc, true⟩ := nd rfl
@[simp] theorem tab99 : tab 99 = some ⟨.func, 1, 8, .nilfunc, true⟩ := nd rfl
@[simp] theorem tab100 : tab 100 = some ⟨.struct [(2, 0), (3, 1), (26, 2), (26, 3)], 4, 64, .agg [.int .i64 0, .int .i64 0, .nilslice, .nilslice], true⟩ := nd rfl
@[simp] theorem tab101 : tab 101 = some ⟨.struct [(2, 0), (3, 1), (26, 2), (26, 3)], 4, 64, .agg [.int .i64 0, .int .i64 0, .nilslice, .nilslice], true⟩ := nd rfl
@[simp] theorem tab103 : tab 103 = some ⟨.func, 1, 8, .nilfunc, true⟩ := nd rfl
@[simp] theorem tab104 : tab 104 = some ⟨.slice 5, 1, 24, .nilslice, true⟩ := nd rfl
@[simp] theorem tab105 : tab 105 = some ⟨.func, 1, 8, .nilfunc, true⟩ := nd rfl
@[simp] theorem tab106 : tab 106 = some ⟨.func, 1, 8, .nilfunc, true⟩ := nd rfl
@[simp] theorem tab107 : tab 107 = some ⟨.func, 1, 8, .nilfunc, true⟩ := nd rfl
@[simp] theorem tab108 : tab 108 = some ⟨.func, 1, 8, .nilfunc, true⟩ := nd rfl
@[simp] theorem tab109 : tab 109 = some ⟨.func, 1, 8, .nilfunc, true⟩ := nd rfl
@[simp] theorem tab110 : tab 110 = some ⟨.func, 1, 8, .nilfunc, true⟩ := nd rfl
@[simp] theorem tab111 : tab 111 = some ⟨.func, 1, 8, .nilfunc, true⟩ := nd rfl
@[simp] theorem tab112 : tab 112 = some ⟨.func, 1, 8, .nilfunc, true⟩ := nd rfl
@[simp] theorem tab113 : tab 113 = some ⟨.func, 1, 8, .nilfunc, true⟩ := nd rfl
@[simp] theorem tab114 : tab 114 = some ⟨.func, 1, 8, .nilfunc, true⟩ := nd rfl
@[simp] theorem tab115 : tab 115 = some ⟨.struct [(32, 0), (2, 5), (2, 6), (2, 7)], 8, 64, .agg [.int .i64 0, .int .i64 0, .int .i64 0, .int .i64 0, .int .i64 0, .int .i64 0, .int .i64 0, .int .i64 0], true⟩ := nd rfl
@[simp] theorem tab116 : tab 116 = some ⟨.struct [(32, 0), (2, 5), (2, 6), (2, 7)], 8, 64, .agg [.int .i64 0, .int .i64 0, .int .i64 0, .int .i64 0, .int .i64 0, .int .i64 0, .int .i64 0, .int .i64 0], true⟩ := nd rfl
@[simp] theorem tab118 : tab 118 = some ⟨.func, 1, 8, .nilfunc, true⟩ := nd rfl
@[simp] theorem tab119 : tab 119 = some ⟨.func, 1, 8, .nilfunc, true⟩ := nd rfl
@[simp] theorem tab120 : tab 120 = some ⟨.arr 4 26, 4, 96, .agg [.nilslice, .nilslice, .nilslice, .nilslice], true⟩ := nd rfl
@[simp] theorem tab121 : tab 121 = some ⟨.func, 1, 8, .nilfunc, true⟩ := nd rfl
@[simp] theorem tab122 : tab 122 = some ⟨.func, 1, 8, .nilfunc, true⟩ := nd rfl
@[simp] theorem tab123 : tab 123 = some ⟨.func, 1, 8, .nilfunc, true⟩ := nd rfl
@[simp] theorem tab124 : tab 124 = some ⟨.func, 1, 8, .nilfunc, true⟩ := nd rfl
@[simp] theorem tab125 : tab 125 = some ⟨.func, 1, 8, .nilfunc, true⟩ := nd rfl
@[simp] theorem tab126 : tab 126 = some ⟨.func, 1, 8, .nilfunc, true⟩ := nd rfl
@[simp] theorem tab127 : tab 127 = some ⟨.func, 1, 8, .nilfunc, true⟩ := nd rfl
@[simp] theorem tab128 : tab 128 = some ⟨.func, 1, 8, .nilfunc, true⟩ := nd rfl
@[simp] theorem tab129 : tab 129 = some ⟨.func, 1, 8, .nilfunc, true⟩ := nd rfl
@[simp] theorem tab130 : tab 130 = some ⟨.func, 1, 8, .nilfunc, true⟩ := nd rfl
@[simp] theorem tab131 : tab 131 = some ⟨.func, 1, 8, .nilfunc, true⟩ := nd rfl
@[simp] theorem tab132 : tab 132 = some ⟨.func, 1, 8, .nilfunc, true⟩ := nd rfl
@[simp] theorem tab133 : tab 133 = some ⟨.func, 1, 8, .nilfunc, true⟩ := nd rfl
@[simp] theorem tab134 : tab 134 = some ⟨.func, 1, 8, .nilfunc, true⟩ := nd rfl
@[simp] theorem tab135 : tab 135 = some ⟨.func, 1, 8, .nilfunc, true⟩ := nd rfl
@[simp] theorem tab136 : tab 136 = some ⟨.slice 167, 1, 24, .nilslice, true⟩ := nd rfl
@[simp] theorem tab138 : tab 138 = some ⟨.func, 1, 8, .nilfunc, true⟩ := nd rfl
@[simp] theorem tab139 : tab 139 = some ⟨.func, 1, 8, .nilfunc, true⟩ := nd rfl
@[simp] theorem tab141 : tab 141 = some ⟨.func, 1, 8, .nilfunc, true⟩ := nd rfl
@[simp] theorem tab142 : tab 142 = some ⟨.ptr, 1, 8, .nilptr, true⟩ := nd rfl
@[simp] theorem tab143 : tab 143 = some ⟨.struct [(104, 0)], 1, 24, .agg [.nilslice], true⟩ := nd rfl
@[simp] theorem tab144 : tab 144 = some ⟨.struct [(104, 0)], 1, 24, .agg [.nilslice], true⟩ := nd rfl
@[simp] theorem tab145 : tab 145 = some ⟨.func, 1, 8, .nilfunc, true⟩ := nd rfl
@[simp] theorem tab146 : tab 146 = some ⟨.func, 1, 8, .nilfunc, true⟩ := nd rfl
@[simp] theorem tab147 : tab 147 = some ⟨.func, 1, 8, .nilfunc, true⟩ := nd rfl
@[simp] theorem tab148 : tab 148 = some ⟨.func, 1, 8, .nilfunc, true⟩ := nd rfl
@[simp] theorem tab149 : tab 149 = some ⟨.func, 1, 8, .nilfunc, true⟩ := nd rfl
@[simp] theorem tab151 : tab 151 = some ⟨.func, 1, 8, .nilfunc, true⟩ := nd rfl
@[simp] theorem tab152 : tab 152 = some ⟨.struct [(2, 0), (2, 1)], 2, 16, .agg [.int .i64 0, .int .i64 0], true⟩ := nd rfl
@[simp] theorem tab153 : tab 153 = some ⟨.struct [(2, 0), (2, 1)], 2, 16, .agg [.int .i64 0, .int .i64 0], true⟩ := nd rfl
@[simp] theorem tab154 : tab 154 = some ⟨.func, 1, 8, .nilfunc, true⟩ := nd rfl
@[simp] theorem tab155 : tab 155 = some ⟨.iface, 1, 16, .niliface, false⟩ := nd rfl
@[simp] theorem tab156 : tab 156 = some ⟨.iface, 1, 16, .niliface, false⟩ := nd rfl
@[simp] theorem tab157 : tab 157 = some ⟨.iface, 1, 16, .niliface, false⟩ := nd rfl
@[simp] theorem tab158 : tab 158 = some ⟨.iface, 1, 16, .niliface, false⟩ := nd rfl
@[simp] theorem tab159 : tab 159 = some ⟨.func, 1, 8, .nilfunc, true⟩ := nd rfl
@[simp] theorem tab160 : tab 160 = some ⟨.func, 1, 8, .nilfunc, true⟩ := nd rfl
@[simp] theorem tab162 : tab 162 = some ⟨.func, 1, 8, .nilfunc, true⟩ := nd rfl
@[simp] theorem tab163 : tab 163 = some ⟨.func, 1, 8, .nilfunc, true⟩ := nd rfl
@[simp] theorem tab164 : tab 164 = some ⟨.func, 1, 8, .nilfunc, true⟩ := nd rfl
@[simp] theorem tab165 : tab 165 = some ⟨.int .u64, 1, 8, .int .u64 0, true⟩ := nd rfl
@[simp] theorem tab166 : tab 166 = some ⟨.struct [(3, 0), (3, 1), (54, 2)], 4, 32, .agg [.int .i64 0, .int .i64 0, .int .i64 0, .int .i64 0], true⟩ := nd rfl
@[simp] theorem tab167 : tab 167 = some ⟨.struct [(3, 0), (3, 1), (54, 2)], 4, 32, .agg [.int .i64 0, .int .i64 0, .int .i64 0, .int .i64 0], true⟩ := nd rfl
@[simp] theorem tab168 : tab 168 = some ⟨.arr 2 3, 2, 16, .agg [.int .i64 0, .int .i64 0], true⟩ := nd rfl
@[simp] theorem tab170 : tab 170 = some ⟨.func, 1, 8, .nilfunc, true⟩ := nd rfl
@[simp] theorem tab171 : tab 171 = some ⟨.ptr, 1, 8, .nilptr, true⟩ := nd rfl
@[simp] theorem tab172 : tab 172 = some ⟨.struct [(136, 0), (3, 1)], 2, 32, .agg [.nilslice, .int .i64 0], true⟩ := nd rfl
@[simp] theorem tab173 : tab 173 = some ⟨.struct [(136, 0), (3, 1)], 2, 32, .agg [.nilslice, .int .i64 0], true⟩ := nd rfl
@[simp] theorem tab174 : tab 174 = some ⟨.func, 1, 8, .nilfunc, true⟩ := nd rfl
@[simp] theorem tab175 : tab 175 = some ⟨.func, 1, 8, .nilfunc, true⟩ := nd rfl
@[simp] theorem tab176 : tab 176 = some ⟨.func, 1, 8, .nilfunc, true⟩ := nd rfl
@[simp] theorem tab177 : tab 177 = some ⟨.func, 1, 8, .nilfunc, true⟩ := nd rfl
@[simp] theorem tab178 : tab 178 = some ⟨.int .u64, 1, 8, .int .u64 0, true⟩ := nd rfl
@[simp] theorem tab179 : tab 179 = some ⟨.func, 1, 8, .nilfunc, true⟩ := nd rfl
@[simp] theorem tab180 : tab 180 = some ⟨.func, 1, 8, .nilfunc, true⟩ := nd rfl
@[simp] theorem tab181 : tab 181 = some ⟨.struct [(2, 0), (2, 1), (54, 2), (3, 4)], 5, 40, .agg [.int .i64 0, .int .i64 0, .int .i64 0, .int .i64 0, .int .i64 0], true⟩ := nd rfl
@[simp] theorem tab182 : tab 182 = some ⟨.struct [(2, 0), (2, 1), (54, 2), (3, 4)], 5, 40, .agg [.int .i64 0, .int .i64 0, .int .i64 0, .int .i64 0, .int .i64 0], true⟩ := nd rfl
@[simp] theorem tab183 : tab 183 = some ⟨.func, 1, 8, .nilfunc, true⟩ := nd rfl
@[simp] theorem tab184 : tab 184 = some ⟨.struct [(17, 0)], 1, 8, .agg [.nilptr], false⟩ := nd rfl
@[simp] theorem tab185 : tab 185 = some ⟨.struct [(17, 0)], 1, 8, .agg [.nilptr], false⟩ := nd rfl
@[simp] theorem tab186 : tab 186 = some ⟨.ptr, 1, 8, .nilptr, true⟩ := nd rfl
@[simp] theorem tab187 : tab 187 = some ⟨.iface, 1, 16, .niliface, false⟩ := nd rfl
@[simp] theorem tab189 : tab 189 = some ⟨.func, 1, 8, .nilfunc, true⟩ := nd rfl
@[simp] theorem tab190 : tab 190 = some ⟨.iface, 1, 16, .niliface, false⟩ := nd rfl
@[simp] theorem tab191 : tab 191 = some ⟨.func, 1, 8, .nilfunc, true⟩ := nd rfl
@[simp] theorem tab192 : tab 192 = some ⟨.iface, 1, 16, .niliface, false⟩ := nd rfl
@[simp] theorem tab193 : tab 193 = some ⟨.slice 156, 1, 24, .nilslice, true⟩ := nd rfl
@[simp] theorem tab194 : tab 194 = some ⟨.func, 1, 8, .nilfunc, true⟩ := nd rfl
@[simp] theorem tab195 : tab 195 = some ⟨.func, 1, 8, .nilfunc, true⟩ := nd rfl
@[simp] theorem tab196 : tab 196 = some ⟨.func, 1, 8, .nilfunc, true⟩ := nd rfl
@[simp] theorem tab197 : tab 197 = some ⟨.func, 1, 8, .nilfunc, true⟩ := nd rfl
@[simp] theorem tab198 : tab 198 = some ⟨.func, 1, 8, .nilfunc, true⟩ := nd rfl
@[simp] theorem tab199 : tab 199 = some ⟨.func, 1, 8, .nilfunc, true⟩ := nd rfl
@[simp] theorem tab200 : tab 200 = some ⟨.func, 1, 8, .nilfunc, true⟩ := nd rfl
@[simp] theorem tab201 : tab 201 = some ⟨.func, 1, 8, .nilfunc, true⟩ := nd rfl
@[simp] theorem tab202 : tab 202 = some ⟨.func, 1, 8, .nilfunc, true⟩ := nd rfl
@[simp] theorem tab203 : tab 203 = some ⟨.func, 1, 8, .nilfunc, true⟩ := nd rfl
@[simp] theorem tab204 : tab 204 = some ⟨.func, 1, 8, .nilfunc, true⟩ := nd rfl
@[simp] theorem tab205 : tab 205 = some ⟨.func, 1, 8, .nilfunc, true⟩ := nd rfl
@[simp] theorem tab206 : tab 206 = some ⟨.func, 1, 8, .nilfunc, true⟩ := nd rfl
@[simp] theorem tab207 : tab 207 = some ⟨.func, 1, 8, .nilfunc, true⟩ := nd rfl
@[simp] theorem tab208 : tab 208 = some ⟨.slice 26, 1, 24, .nilslice, true⟩ := nd rfl
@[simp] theorem tab209 : tab 209 = some ⟨.func, 1, 8, .nilfunc, true⟩ := nd rfl
@[simp] theorem tab210 : tab 210 = some ⟨.func, 1, 8, .nilfunc, true⟩ := nd rfl
@[simp] theorem tab211 : tab 211 = some ⟨.func, 1, 8, .nilfunc, true⟩ := nd rfl
@[simp] theorem tab212 : tab 212 = some ⟨.func, 1, 8, .nilfunc, true⟩ := nd rfl
@[simp] theorem tab213 : tab 213 = some ⟨.func, 1, 8, .nilfunc, true⟩ := nd rfl
@[simp] theorem tab214 : tab 214 = some ⟨.func, 1, 8, .nilfunc, true⟩ := nd rfl
@[simp] theorem tab215 : tab 215 = some ⟨.func, 1, 8, .nilfunc, true⟩ := nd rfl
@[simp] theorem tab216 : tab 216 = some ⟨.func, 1, 8, .nilfunc, true⟩ := nd rfl
@[simp] theorem tab217 : tab 217 = some ⟨.func, 1, 8, .nilfunc, true⟩ := nd rfl
@[simp] theorem tab218 : tab 218 = some ⟨.func, 1, 8, .nilfunc, true⟩ := nd rfl
@[simp] theorem tab219 : tab 219 = some ⟨.func, 1, 8, .nilfunc, true⟩ := nd rfl
@[simp] theorem tab220 : tab 220 = some ⟨.func, 1, 8, .nilfunc, true⟩ := nd rfl
@[simp] theorem tab221 : tab 221 = some ⟨.struct [(71, 0), (71, 1), (72, 2), (72, 3), (72, 4), (71, 5), (218, 6), (219, 7), (220, 8)], 9, 72, .agg [.nilfunc, .nilfunc, .nilfunc, .nilfunc, .nilfunc, .nilfunc, .nilfunc, .nilfunc, .nilfunc], true⟩ := nd rfl
@[simp] theorem tab222 : tab 222 = some ⟨.struct [(71, 0), (71, 1), (72, 2), (72, 3), (72, 4), (71, 5), (218, 6), (219, 7), (220, 8)], 9, 72, .agg [.nilfunc, .nilfunc, .nilfunc, .nilfunc, .nilfunc, .nilfunc, .nilfunc, .nilfunc, .nilfunc], true⟩ := nd rfl
@[simp] theorem tab223 : tab 223 = some ⟨.func, 1, 8, .nilfunc, true⟩ := nd rfl
@[simp] theorem tab224 : tab 224 = some ⟨.func, 1, 8, .nilfunc, true⟩ := nd rfl
@[simp] theorem tab225 : tab 225 = some ⟨.func, 1, 8, .nilfunc, true⟩ := nd rfl
@[simp] theorem tab226 : tab 226 = some ⟨.func, 1, 8, .nilfunc, true⟩ := nd rfl
@[simp] theorem tab227 : tab 227 = some ⟨.func, 1, 8, .nilfunc, true⟩ := nd rfl
@[simp] theorem tab228 : tab 228 = some ⟨.func, 1, 8, .nilfunc, true⟩ := nd rfl
@[simp] theorem tab229 : tab 229 = some ⟨.func, 1, 8, .nilfunc, true⟩ := nd rfl
@[simp] theorem tab230 : tab 230 = some ⟨.func, 1, 8, .nilfunc, true⟩ := nd rfl
@[simp] theorem tab231 : tab 231 = some ⟨.func, 1, 8, .nilfunc, true⟩ := nd rfl
@[simp] theorem tab233 : tab 233 = some ⟨.func, 1, 8, .nilfunc, true⟩ := nd rfl
@[simp] theorem tab234 : tab 234 = some ⟨.func, 1, 8, .nilfunc, true⟩ := nd rfl
@[simp] theorem tab235 : tab 235 = some ⟨.struct [(234, 0), (234, 1)], 2, 16, .agg [.nilfunc, .nilfunc], true⟩ := nd rfl
@[simp] theorem tab236 : tab 236 = some ⟨.struct [(234, 0), (234, 1)], 2, 16, .agg [.nilfunc, .nilfunc], true⟩ := nd rfl
@[simp] theorem tab237 : tab 237 = some ⟨.arr 3 236, 6, 48, .agg [.nilfunc, .nilfunc, .nilfunc, .nilfunc, .nilfunc, .nilfunc], true⟩ := nd rfl
@[simp] theorem tab238 : tab 238 = some ⟨.arr 3 237, 18, 144, .agg [.nilfunc, .nilfunc, .nilfunc, .nilfunc, .nilfunc, .nilfunc, .nilfunc, .nilfunc, .nilfunc, .nilfunc, .nilfunc, .nilfunc, .nilfunc, .nilfunc, .nilfunc, .nilfunc, .nilfunc, .nilfunc], true⟩ := nd rfl
@[simp] theorem tab239 : tab 239 = some ⟨.func, 1, 8, .nilfunc, true⟩ := nd rfl
@[simp] theorem tab240 : tab 240 = some ⟨.slice 2, 1, 24, .nilslice, true⟩ := nd rfl
@[simp] theorem tab241 : tab 241 = some ⟨.func, 1, 8, .nilfunc, true⟩ := nd rfl
@[simp] theorem tab242 : tab 242 = some ⟨.arr 3 3, 3, 24, .agg [.int .i64 0, .int .i64 0, .int .i64 0], true⟩ := nd rfl
@[simp] theorem tab243 : tab 243 = some ⟨.struct [(71, 0), (72, 1)], 2, 16, .agg [.nilfunc, .nilfunc], true⟩ := nd rfl
@[simp] theorem tab244 : tab 244 = some ⟨.struct [(71, 0), (72, 1)], 2, 16, .agg [.nilfunc, .nilfunc], true⟩ := nd rfl
@[simp] theorem tab245 : tab 245 = some ⟨.arr 11 244, 22, 176, .agg [.nilfunc, .nilfunc, .nilfunc, .nilfunc, .nilfunc, .nilfunc, .nilfunc, .nilfunc, .nilfunc, .nilfunc, .nilfunc, .nilfunc, .nilfunc, .nilfunc, .nilfunc, .nilfunc, .nilfunc, .nilfunc, .nilfunc, .nilfunc, .nilfunc, .nilfunc], true⟩ := nd rfl
@[simp] theorem tab246 : tab 246 = some ⟨.func, 1, 8, .nilfunc, true⟩ := nd rfl
@[simp] theorem tab247 : tab 247 = some ⟨.func, 1, 8, .nilfunc, true⟩ := nd rfl
@[simp] theorem tab249 : tab 249 = some ⟨.func, 1, 8, .nilfunc, true⟩ := nd rfl
@[simp] theorem tab250 : tab 250 = some ⟨.func, 1, 8, .nilfunc, true⟩ := nd rfl
@[simp] theorem tab251 : tab 251 = some ⟨.arr 2 236, 4, 32, .agg [.nilfunc, .nilfunc, .nilfunc, .nilfunc], true⟩ := nd rfl
@[simp] theorem tab252 : tab 252 = some ⟨.arr 3 251, 12, 96, .agg [.nilfunc, .nilfunc, .nilfunc, .nilfunc, .nilfunc, .nilfunc, .nilfunc, .nilfunc, .nilfunc, .nilfunc, .nilfunc, .nilfunc], true⟩ := nd rfl
@[simp] theorem tab253 : tab 253 = some ⟨.func, 1, 8, .nilfunc, true⟩ := nd rfl
@[simp] theorem tab254 : tab 254 = some ⟨.func, 1, 8, .nilfunc, true⟩ := nd rfl
@[simp] theorem tab255 : tab 255 = some ⟨.func, 1, 8, .nilfunc, true⟩ := nd rfl
@[simp] theorem tab256 : tab 256 = some ⟨.func, 1, 8, .nilfunc, true⟩ := nd rfl
@[simp] theorem tab257 : tab 257 = some ⟨.func, 1, 8, .nilfunc, true⟩ := nd rfl
@[simp] theorem tab258 : tab 258 = some ⟨.func, 1, 8, .nilfunc, true⟩ := nd rfl
@[simp] theorem tab259 : tab 259 = some ⟨.func, 1, 8, .nilfunc, true⟩ := nd rfl
@[simp] theorem tab260 : tab 260 = some ⟨.struct [(17, 0), (17, 1), (17, 2), (9, 3)], 4, 40, .agg [.nilptr, .nilptr, .nilptr, .str ⟨#[]⟩], false⟩ := nd rfl
@[simp] theorem tab261 : tab 261 = some ⟨.struct [(17, 0), (17, 1), (17, 2), (9, 3)], 4, 40, .agg [.nilptr, .nilptr, .nilptr, .str ⟨#[]⟩], false⟩ := nd rfl
@[simp] theorem tab262 : tab 262 = some ⟨.arr 0 16, 0, 0, .agg [], true⟩ := nd rfl
@[simp] theorem tab263 : tab 263 = some ⟨.struct [(262, 0)], 0, 0, .agg [], false⟩ := nd rfl
@[simp] theorem tab264 : tab 264 = some ⟨.struct [(262, 0)], 0, 0, .agg [], false⟩ := nd rfl
@[simp] theorem tab265 : tab 265 = some ⟨.func, 1, 8, .nilfunc, true⟩ := nd rfl
@[simp] theorem tab266 : tab 266 = some ⟨.int .u8, 1, 1, .int .u8 0, true⟩ := nd rfl
@[simp] theorem tab267 : tab 267 = some ⟨.int .u8, 1, 1, .int .u8 0, true⟩ := nd rfl
@[simp] theorem tab268 : tab 268 = some ⟨.func, 1, 8, .nilfunc, true⟩ := nd rfl
@[simp] theorem tab269 : tab 269 = some ⟨.ptr, 1, 8, .nilptr, true⟩ := nd rfl
@[simp] theorem tab270 : tab 270 = some ⟨.int .i32, 1, 4, .int .i32 0, true⟩ := nd rfl
@[simp] theorem tab271 : tab 271 = some ⟨.int .i32, 1, 4, .int .i32 0, true⟩ := nd rfl
@[simp] theorem tab272 : tab 272 = some ⟨.struct [(12, 0), (12, 1), (49, 2), (266, 3), (5, 4), (5, 5), (267, 6), (268, 7), (269, 8), (270, 9), (271, 10)], 11, 48, .agg [.int .u64 0, .int .u64 0, .int .u32 0, .int .u8 0, .int .u8 0, .int .u8 0, .int .u8 0, .nilfunc, .nilptr, .int .i32 0, .int .i32 0], false⟩ := nd rfl
@[simp] theorem tab273 : tab 273 = some ⟨.struct [(12, 0), (12, 1), (49, 2), (266, 3), (5, 4), (5, 5), (267, 6), (268, 7), (269, 8), (270, 9), (271, 10)], 11, 48, .agg [.int .u64 0, .int .u64 0, .int .u32 0, .int .u8 0, .int .u8 0, .int .u8 0, .int .u8 0, .nilfunc, .nilptr, .int .i32 0, .int .i32 0], false⟩ := nd rfl
@[simp] theorem tab274 : tab 274 = some ⟨.func, 1, 8, .nilfunc, true⟩ := nd rfl
@[simp] theorem tab275 : tab 275 = some ⟨.func, 1, 8, .nilfunc, true⟩ := nd rfl
@[simp] theorem tab276 : tab 276 = some ⟨.func, 1, 8, .nilfunc, true⟩ := nd rfl
@[simp] theorem tab277 : tab 277 = some ⟨.func, 1, 8, .nilfunc, true⟩ := nd rfl
@[simp] theorem tab278 : tab 278 = some ⟨.func, 1, 8, .nilfunc, true⟩ := nd rfl
@[simp] theorem tab279 : tab 279 = some ⟨.func, 1, 8, .nilfunc, true⟩ := nd rfl
@[simp] theorem tab280 : tab 280 = some ⟨.struct [(9, 0), (267, 1)], 2, 24, .agg [.str ⟨#[]⟩, .int .u8 0], false⟩ := nd rfl
@[simp] theorem tab281 : tab 281 = some ⟨.struct [(9, 0), (267, 1)], 2, 24, .agg [.str ⟨#[]⟩, .int .u8 0], false⟩ := nd rfl
@[simp] theorem tab283 : tab 283 = some ⟨.ptr, 1, 8, .nilptr, true⟩ := nd rfl
@[simp] theorem tab284 : tab 284 = some ⟨.func, 1, 8, .nilfunc, true⟩ := nd rfl
@[simp] theorem tab285 : tab 285 = some ⟨.struct [(270, 0), (27, 1), (27, 2), (49, 3), (49, 4)], 5, 16, .agg [.int .i32 0, .int .u16 0, .int .u16 0, .int .u32 0, .int .u32 0], false⟩ := nd rfl
@[simp] theorem tab286 : tab 286 = some ⟨.struct [(270, 0), (27, 1), (27, 2), (49, 3), (49, 4)], 5, 16, .agg [.int .i32 0, .int .u16 0, .int .u16 0, .int .u32 0, .int .u32 0], false⟩ := nd rfl
@[simp] theorem tab287 : tab 287 = some ⟨.slice 290, 1, 24, .nilslice, true⟩ := nd rfl
@[simp] theorem tab288 : tab 288 = some ⟨.int .i32, 1, 4, .int .i32 0, true⟩ := nd rfl
@[simp] theorem tab289 : tab 289 = some ⟨.struct [(270, 0), (271, 1), (288, 2), (288, 3)], 4, 16, .agg [.int .i32 0, .int .i32 0, .int .i32 0, .int .i32 0], false⟩ := nd rfl
@[simp] theorem tab290 : tab 290 = some ⟨.struct [(270, 0), (271, 1), (288, 2), (288, 3)], 4, 16, .agg [.int .i32 0, .int .i32 0, .int .i32 0, .int .i32 0], false⟩ := nd rfl
end Go.Proofs.YtfjjckepnkkgjaaGreatDoor.Arm

namespace Go.Pl
abbrev I := Int × Int
def numB (x : Int) : Bool := decide (-2147483648 < x) && decide (x < 2147483648)
def ent : I := (-2147483648, 2147483648)
def entB (a : I) : Bool := a.1 == -2147483648 && a.2 == 2147483648
def vB (a : I) : Bool := entB a || (numB a.1 && numB a.2 && decide (a.1 ≤ a.2))
def mk (lo hi : Int) : I := if numB lo && numB hi then (lo, hi) else ent
def pt (x : Int) : I := mk x x
def fl (x b : Int) : Int := if b < 0 then (-x) / (-b) else x / b
def ce (x b : Int) : Int := - fl (-x) b
def min4 (a b c d : Int) : Int := min (min (min a b) c) d
def max4 (a b c d : Int) : Int := max (max (max a b) c) d
def add (a b : I) : I := if entB a || entB b then ent else mk (a.1 + b.1) (a.2 + b.2)
def neg (a : I) : I := (-a.2, -a.1)
def sub (a b : I) : I := add a (neg b)
def mul (a b : I) : I :=
  if entB a || entB b then ent
  else mk (fl (min4 (a.1 * b.1) (a.1 * b.2) (a.2 * b.1) (a.2 * b.2)) 65536) (ce (max4 (a.1 * b.1) (a.1 * b.2) (a.2 * b.1) (a.2 * b.2)) 65536)
def sq (a : I) : I :=
  if entB a then ent
  else mk (fl (if a.1 ≤ 0 ∧ 0 ≤ a.2 then 0 else min (a.1 * a.1) (a.2 * a.2)) 65536) (ce (max (a.1 * a.1) (a.2 * a.2)) 65536)
def div (a b : I) : I :=
  if entB a || entB b || (decide (b.1 ≤ 0) && decide (0 ≤ b.2)) then ent
  else mk (min4 (fl (a.1 * 65536) b.1) (fl (a.1 * 65536) b.2) (fl (a.2 * 65536) b.1) (fl (a.2 * 65536) b.2))
    (max4 (ce (a.1 * 65536) b.1) (ce (a.1 * 65536) b.2) (ce (a.2 * 65536) b.1) (ce (a.2 * 65536) b.2))
def subB (a b : I) : Bool := decide (b.1 ≤ a.1) && decide (a.2 ≤ b.2)
def conB (a : I) (x : Int) : Bool := entB a || (decide (a.1 ≤ x) && decide (x ≤ a.2))
def hull (a b : I) : I := (min a.1 b.1, max a.2 b.2)
def meet (a b : I) : I := (max a.1 b.1, min a.2 b.2)
def interB (a b : I) : Bool := decide (max a.1 b.1 ≤ min a.2 b.2)
def inter (a b : I) : I := if interB a b then meet a b else (0, 0)
def rootUp (n : Nat) : Nat → Nat → Nat
  | 0, r => r
  | k + 1, r => if (r + 1) * (r + 1) ≤ n then rootUp n k (r + 1) else r
def root (n : Int) : Int := (rootUp n.toNat n.toNat 0 : Nat)
def rootU (n : Int) : Int := if root n * root n < n then root n + 1 else root n
def sqrt (a : I) : I := if entB a then a else if a.2 < 0 then (0, 0) else mk (root (max a.1 0 * 65536)) (rootU (a.2 * 65536))
theorem rootUp_spec (n : Nat) : ∀ (k r : Nat), r * r ≤ n → n < (r + k + 1) * (r + k + 1) → rootUp n k r * rootUp n k r ≤ n ∧ n < (rootUp n k r + 1) * (rootUp n k r + 1)
  | 0, r, h1, h2 => ⟨h1, by simpa [rootUp] using h2⟩
  | k + 1, r, h1, h2 => by
    unfold rootUp
    split
    · rename_i h
      exact rootUp_spec n k (r + 1) h (by rw [show r + 1 + k + 1 = r + (k + 1) + 1 by omega]; exact h2)
    · rename_i h; exact ⟨h1, by omega⟩
theorem root_spec {n : Int} (h : 0 ≤ n) : 0 ≤ root n ∧ root n * root n ≤ n ∧ n < (root n + 1) * (root n + 1) := by
  obtain ⟨m, rfl⟩ := Int.eq_ofNat_of_zero_le h
  have h0 : m < (0 + m + 1) * (0 + m + 1) := by
    have : m + 1 ≤ (m + 1) * (m + 1) := Nat.le_mul_of_pos_left _ (by omega)
    rw [Nat.zero_add]; omega
  obtain ⟨h1, h2⟩ := rootUp_spec m m 0 (by omega) h0
  unfold root
  simp only [Int.toNat_natCast]
  refine ⟨by omega, by exact_mod_cast h1, by exact_mod_cast h2⟩
theorem entB_iff {a : I} : entB a = true ↔ a = ent := by
  obtain ⟨x, y⟩ := a
  simp [entB, ent]
theorem entB_false {a : I} (h : vB a = true) (he : entB a = false) : -2147483648 < a.1 ∧ a.1 ≤ a.2 ∧ a.2 < 2147483648 := by
  simp only [vB, he, Bool.false_or, numB, Bool.and_eq_true, decide_eq_true_eq] at h
  omega
theorem vB_bounds {a : I} (h : vB a = true) : -2147483648 ≤ a.1 ∧ a.1 ≤ a.2 ∧ a.2 ≤ 2147483648 := by
  cases he : entB a with
  | false => have := entB_false h he; omega
  | true => rw [entB_iff.1 he]; decide
theorem numB_iff {x : Int} : numB x = true ↔ -2147483648 < x ∧ x < 2147483648 := by simp [numB]
theorem vB_pair {x y : Int} (h1 : -2147483648 < x) (h2 : x ≤ y) (h3 : y < 2147483648) : vB (x, y) = true := by
  simp only [vB, numB, Bool.or_eq_true, Bool.and_eq_true, decide_eq_true_eq]; right; omega
theorem mk_valid {lo hi : Int} (h : lo ≤ hi) : vB (mk lo hi) = true := by
  unfold mk
  split
  · rename_i h1
    simp only [numB, Bool.and_eq_true, decide_eq_true_eq] at h1
    exact vB_pair (by omega) h (by omega)
  · decide
theorem ent_valid : vB ent = true := by decide
theorem neg_valid {a : I} (h : vB a = true) : vB (neg a) = true := by
  cases he : entB a with
  | true => rw [entB_iff.1 he]; decide
  | false => have := entB_false h he; exact vB_pair (by omega) (by omega) (by omega)
theorem add_valid {a b : I} (ha : vB a = true) (hb : vB b = true) : vB (add a b) = true := by
  unfold add
  split
  · decide
  · have := vB_bounds ha; have := vB_bounds hb; exact mk_valid (by omega)
theorem sub_valid {a b : I} (ha : vB a = true) (hb : vB b = true) : vB (sub a b) = true := add_valid ha (neg_valid hb)
theorem fl_le_ce {x y b : Int} (hb : 0 < b) (h : x ≤ y) : fl x b ≤ ce y b := by
  unfold ce fl
  rw [if_neg (by omega), if_neg (by omega)]
  have h1 : x / b ≤ y / b := Int.ediv_le_ediv hb h
  have h2 := Int.ediv_mul_le y (b := b) (by omega)
  have h3 := Int.ediv_mul_le (-y) (b := b) (by omega)
  have h4 : (y / b + (-y) / b) * b ≤ 0 := by rw [Int.add_mul]; omega
  have : y / b + (-y) / b ≤ 0 := by
    rcases Int.lt_or_le 0 (y / b + (-y) / b) with hc | hc
    · have : 0 < (y / b + (-y) / b) * b := Int.mul_pos hc hb
      omega
    · exact hc
  omega
theorem mul_valid {a b : I} : vB (mul a b) = true := by
  unfold mul
  split
  · decide
  · exact mk_valid (fl_le_ce (by omega) (by simp only [min4, max4]; omega))
theorem sq_valid {a : I} (ha : vB a = true) : vB (sq a) = true := by
  unfold sq
  split
  · decide
  · refine mk_valid (fl_le_ce (by omega) ?_)
    have h1 : 0 ≤ a.1 * a.1 := by
      rcases Int.le_total 0 a.1 with h | h
      · exact Int.mul_nonneg h h
      · exact Int.mul_nonneg_of_nonpos_of_nonpos h h
    split <;> omega
theorem fl_ce {x b : Int} (hb : b ≠ 0) : fl x b ≤ ce x b := by
  rcases Int.lt_or_gt_of_ne hb with h | h
  · have := fl_le_ce (x := -x) (y := -x) (b := -b) (by omega) (Int.le_refl _)
    simp only [fl, ce] at this ⊢
    rw [if_neg (by omega), if_neg (by omega)] at this
    rw [if_pos h, if_pos h]
    exact this
  · exact fl_le_ce h (Int.le_refl _)
theorem div_valid {a b : I} (hb : vB b = true) : vB (div a b) = true := by
  unfold div
  split
  · decide
  · rename_i h
    simp only [Bool.or_eq_true, Bool.and_eq_true, decide_eq_true_eq] at h
    have := vB_bounds hb
    have h1 : b.1 ≠ 0 := by omega
    have := fl_ce (x := a.1 * 65536) h1
    exact mk_valid (by simp only [min4, max4]; omega)
theorem root_mono {m n : Int} (hm : 0 ≤ m) (h : m ≤ n) : root m ≤ root n := by
  obtain ⟨g0, g1, g2⟩ := root_spec hm
  obtain ⟨k0, k1, k2⟩ := root_spec (Int.le_trans hm h)
  rcases Int.lt_or_le (root n) (root m) with hc | hc
  · have : (root n + 1) * (root n + 1) ≤ root m * root m := Int.mul_le_mul (by omega) (by omega) (by omega) g0
    omega
  · exact hc
theorem root_le_rootU {n : Int} : root n ≤ rootU n := by unfold rootU; split <;> omega
theorem sqrt_valid {a : I} (ha : vB a = true) : vB (sqrt a) = true := by
  unfold sqrt
  split
  · exact ha
  · split
    · decide
    · have := vB_bounds ha
      exact mk_valid (Int.le_trans (root_mono (m := max a.1 0 * 65536) (n := a.2 * 65536) (by omega) (by omega)) root_le_rootU)
theorem ediv_of {a b q : Int} (hb : 0 < b) (h1 : b * q ≤ a) (h2 : a < b * q + b) : a / b = q := by
  have e : a = (a - b * q) + q * b := by rw [Int.mul_comm q b]; omega
  rw [e, Int.add_mul_ediv_right _ _ (by omega), Int.ediv_eq_zero_of_lt (by omega) (by omega), Int.zero_add]
theorem tmod_bounds (a : Int) {b : Int} (hb : 0 < b) : (0 ≤ a → 0 ≤ a.tmod b ∧ a.tmod b < b) ∧ (a < 0 → -b < a.tmod b ∧ a.tmod b ≤ 0) := by
  refine ⟨fun h => ⟨Int.tmod_nonneg _ h, Int.tmod_lt_of_pos _ hb⟩, fun h => ?_⟩
  have e : a.tmod b = -((-a).tmod b) := by rw [Int.neg_tmod, Int.neg_neg]
  have h1 := Int.tmod_nonneg b (a := -a) (by omega)
  have h2 := Int.tmod_lt_of_pos (-a) hb
  omega
theorem tdiv_floor (a : Int) {b : Int} (hb : 0 < b) : a / b = if a.tmod b < 0 then a.tdiv b - 1 else a.tdiv b := by
  have h := Int.mul_tdiv_add_tmod a b
  obtain ⟨h1, h2⟩ := tmod_bounds a hb
  by_cases ha : 0 ≤ a
  · have := h1 ha
    rw [if_neg (by omega)]
    exact ediv_of hb (by omega) (by omega)
  · have := h2 (by omega)
    split
    · refine ediv_of hb ?_ ?_
      · rw [Int.mul_sub, Int.mul_one]; omega
      · rw [Int.mul_sub, Int.mul_one]; omega
    · exact ediv_of hb (by omega) (by omega)
theorem ceil_eq (a : Int) {b : Int} (hb : 0 < b) : -((-a) / b) = if a % b = 0 then a / b else a / b + 1 := by
  have h := Int.mul_ediv_add_emod a b
  have h1 := Int.emod_nonneg a (b := b) (by omega)
  have h2 := Int.emod_lt_of_pos a hb
  split
  · have : (-a) / b = -(a / b) := ediv_of hb (by rw [Int.mul_neg]; omega) (by rw [Int.mul_neg]; omega)
    omega
  · have : (-a) / b = -(a / b + 1) := ediv_of hb (by rw [Int.mul_neg, Int.mul_add, Int.mul_one]; omega) (by rw [Int.mul_neg, Int.mul_add, Int.mul_one]; omega)
    omega
theorem mul_edges (a b : I) : (0 ≤ a.1 → b.1 ≤ b.2 → a.1 * b.1 ≤ a.1 * b.2) ∧ (a.1 ≤ 0 → b.1 ≤ b.2 → a.1 * b.2 ≤ a.1 * b.1) ∧ (0 ≤ a.2 → b.1 ≤ b.2 → a.2 * b.1 ≤ a.2 * b.2) ∧ (a.2 ≤ 0 → b.1 ≤ b.2 → a.2 * b.2 ≤ a.2 * b.1) ∧
    (0 ≤ b.1 → a.1 ≤ a.2 → a.1 * b.1 ≤ a.2 * b.1) ∧ (b.1 ≤ 0 → a.1 ≤ a.2 → a.2 * b.1 ≤ a.1 * b.1) ∧ (0 ≤ b.2 → a.1 ≤ a.2 → a.1 * b.2 ≤ a.2 * b.2) ∧ (b.2 ≤ 0 → a.1 ≤ a.2 → a.2 * b.2 ≤ a.1 * b.2) :=
  ⟨fun h k => Int.mul_le_mul_of_nonneg_left k h, fun h k => Int.mul_le_mul_of_nonpos_left h k, fun h k => Int.mul_le_mul_of_nonneg_left k h, fun h k => Int.mul_le_mul_of_nonpos_left h k,
   fun h k => Int.mul_le_mul_of_nonneg_right k h, fun h k => Int.mul_le_mul_of_nonpos_right k h, fun h k => Int.mul_le_mul_of_nonneg_right k h, fun h k => Int.mul_le_mul_of_nonpos_right k h⟩
theorem ite_min (a b : Int) : (if b < a then b else a) = min a b := by split <;> omega
theorem ite_max (a b : Int) : (if a < b then b else a) = max a b := by split <;> omega
theorem ediv_mono {x y b : Int} (hb : 0 < b) (h : x ≤ y) : x / b ≤ y / b := Int.ediv_le_ediv hb h
theorem ediv_anti {x b c : Int} (hx : 0 ≤ x) (hb : 0 < b) (h : b ≤ c) : x / c ≤ x / b := by
  have h0 : 0 ≤ x / c := Int.ediv_nonneg hx (by omega)
  have h1 : (x / c) * c ≤ x := Int.ediv_mul_le x (by omega)
  have h2 : (x / c) * b ≤ (x / c) * c := Int.mul_le_mul_of_nonneg_left h h0
  exact Int.le_ediv_of_mul_le hb (by omega)
theorem ediv_anti' {x b c : Int} (hx : x ≤ 0) (hb : 0 < b) (h : b ≤ c) : x / b ≤ x / c := by
  have h1 : (x / b) * b ≤ x := Int.ediv_mul_le x (by omega)
  have h0 : x / b ≤ 0 := by
    have := ediv_mono hb hx
    simpa using this
  have h2 : (x / b) * c ≤ (x / b) * b := Int.mul_le_mul_of_nonpos_left h0 h
  exact Int.le_ediv_of_mul_le (by omega) (by omega)
theorem fl_edges (x y b c : Int) : (0 < b → x ≤ y → fl x b ≤ fl y b) ∧ (b < 0 → x ≤ y → fl y b ≤ fl x b) ∧
    (0 ≤ x → 0 < b → b ≤ c → fl x c ≤ fl x b) ∧ (x ≤ 0 → 0 < b → b ≤ c → fl x b ≤ fl x c) ∧ (0 ≤ x → c < 0 → b ≤ c → fl x c ≤ fl x b) ∧ (x ≤ 0 → c < 0 → b ≤ c → fl x b ≤ fl x c) := by
  unfold fl
  refine ⟨fun hb h => ?_, fun hb h => ?_, fun hx hb h => ?_, fun hx hb h => ?_, fun hx hc h => ?_, fun hx hc h => ?_⟩
  · rw [if_neg (by omega), if_neg (by omega)]; exact ediv_mono hb h
  · rw [if_pos hb, if_pos hb]; exact ediv_mono (by omega) (by omega)
  · rw [if_neg (by omega), if_neg (by omega)]; exact ediv_anti hx hb h
  · rw [if_neg (by omega), if_neg (by omega)]; exact ediv_anti' hx hb h
  · rw [if_pos hc, if_pos (by omega)]; exact ediv_anti' (by omega) (by omega) (by omega)
  · rw [if_pos hc, if_pos (by omega)]; exact ediv_anti (by omega) (by omega) (by omega)
theorem ce_edges (x y b c : Int) : (0 < b → x ≤ y → ce x b ≤ ce y b) ∧ (b < 0 → x ≤ y → ce y b ≤ ce x b) ∧
    (0 ≤ x → 0 < b → b ≤ c → ce x c ≤ ce x b) ∧ (x ≤ 0 → 0 < b → b ≤ c → ce x b ≤ ce x c) ∧ (0 ≤ x → c < 0 → b ≤ c → ce x c ≤ ce x b) ∧ (x ≤ 0 → c < 0 → b ≤ c → ce x b ≤ ce x c) := by
  obtain ⟨h1, h2, h3, h4, h5, h6⟩ := fl_edges (-x) (-y) b c
  obtain ⟨k1, k2, _⟩ := fl_edges (-y) (-x) b c
  unfold ce
  exact ⟨fun hb h => by have := k1 hb (by omega); omega, fun hb h => by have := k2 hb (by omega); omega, fun hx hb h => by have := h4 (by omega) hb h; omega, fun hx hb h => by have := h3 (by omega) hb h; omega,
    fun hx hc h => by have := h6 (by omega) hc h; omega, fun hx hc h => by have := h5 (by omega) hc h; omega⟩
theorem div_eq {p q : I} (h1 : entB p = false) (h2 : entB q = false) (h3 : q.2 < 0 ∨ 0 < q.1) {a b : Int} (ha : min4 (fl (p.1 * 65536) q.1) (fl (p.1 * 65536) q.2) (fl (p.2 * 65536) q.1) (fl (p.2 * 65536) q.2) = a) (hb : max4 (ce (p.1 * 65536) q.1) (ce (p.1 * 65536) q.2) (ce (p.2 * 65536) q.1) (ce (p.2 * 65536) q.2) = b) (hq : q.1 ≤ q.2) : div p q = mk a b := by
  subst ha hb
  have h4 : (decide (q.1 ≤ 0) && decide (0 ≤ q.2)) = false := by simp; omega
  simp [div, h1, h2, h4]
theorem div_sel0n {p q : I} (h1 : entB p = false) (h2 : entB q = false) (hp : p.1 ≤ p.2) (hq : q.1 ≤ q.2) (hs : p.2 ≤ 0) (ht : q.2 < 0) : div p q = mk (fl (p.2 * 65536) q.1) (ce (p.1 * 65536) q.2) := by
  have a0 := (fl_edges (p.1 * 65536) (p.2 * 65536) q.1 q.1).2.1 (by omega) (by omega)
  have a1 := (fl_edges (p.1 * 65536) (p.2 * 65536) q.2 q.2).2.1 (by omega) (by omega)
  have a2 := (fl_edges (p.1 * 65536) (p.1 * 65536) q.1 q.2).2.2.2.2.2 (by omega) (by omega) hq
  have a3 := (fl_edges (p.2 * 65536) (p.2 * 65536) q.1 q.2).2.2.2.2.2 (by omega) (by omega) hq
  have a4 := (ce_edges (p.1 * 65536) (p.2 * 65536) q.1 q.1).2.1 (by omega) (by omega)
  have a5 := (ce_edges (p.1 * 65536) (p.2 * 65536) q.2 q.2).2.1 (by omega) (by omega)
  have a6 := (ce_edges (p.1 * 65536) (p.1 * 65536) q.1 q.2).2.2.2.2.2 (by omega) (by omega) hq
  have a7 := (ce_edges (p.2 * 65536) (p.2 * 65536) q.1 q.2).2.2.2.2.2 (by omega) (by omega) hq
  refine div_eq h1 h2 (by omega) ?_ ?_ hq
  · simp only [min4]; omega
  · simp only [max4]; omega
theorem div_sel0p {p q : I} (h1 : entB p = false) (h2 : entB q = false) (hp : p.1 ≤ p.2) (hq : q.1 ≤ q.2) (hs : p.2 ≤ 0) (ht : 0 < q.1) : div p q = mk (fl (p.1 * 65536) q.1) (ce (p.2 * 65536) q.2) := by
  have a0 := (fl_edges (p.1 * 65536) (p.2 * 65536) q.1 q.1).1 (by omega) (by omega)
  have a1 := (fl_edges (p.1 * 65536) (p.2 * 65536) q.2 q.2).1 (by omega) (by omega)
  have a2 := (fl_edges (p.1 * 65536) (p.1 * 65536) q.1 q.2).2.2.2.1 (by omega) (by omega) hq
  have a3 := (fl_edges (p.2 * 65536) (p.2 * 65536) q.1 q.2).2.2.2.1 (by omega) (by omega) hq
  have a4 := (ce_edges (p.1 * 65536) (p.2 * 65536) q.1 q.1).1 (by omega) (by omega)
  have a5 := (ce_edges (p.1 * 65536) (p.2 * 65536) q.2 q.2).1 (by omega) (by omega)
  have a6 := (ce_edges (p.1 * 65536) (p.1 * 65536) q.1 q.2).2.2.2.1 (by omega) (by omega) hq
  have a7 := (ce_edges (p.2 * 65536) (p.2 * 65536) q.1 q.2).2.2.2.1 (by omega) (by omega) hq
  refine div_eq h1 h2 (by omega) ?_ ?_ hq
  · simp only [min4]; omega
  · simp only [max4]; omega
theorem div_sel1n {p q : I} (h1 : entB p = false) (h2 : entB q = false) (hp : p.1 ≤ p.2) (hq : q.1 ≤ q.2) (hs : p.1 < 0 ∧ 0 < p.2) (ht : q.2 < 0) : div p q = mk (fl (p.2 * 65536) q.2) (ce (p.1 * 65536) q.2) := by
  have a0 := (fl_edges (p.1 * 65536) (p.2 * 65536) q.1 q.1).2.1 (by omega) (by omega)
  have a1 := (fl_edges (p.1 * 65536) (p.2 * 65536) q.2 q.2).2.1 (by omega) (by omega)
  have a2 := (fl_edges (p.1 * 65536) (p.1 * 65536) q.1 q.2).2.2.2.2.2 (by omega) (by omega) hq
  have a3 := (fl_edges (p.2 * 65536) (p.2 * 65536) q.1 q.2).2.2.2.2.1 (by omega) (by omega) hq
  have a4 := (ce_edges (p.1 * 65536) (p.2 * 65536) q.1 q.1).2.1 (by omega) (by omega)
  have a5 := (ce_edges (p.1 * 65536) (p.2 * 65536) q.2 q.2).2.1 (by omega) (by omega)
  have a6 := (ce_edges (p.1 * 65536) (p.1 * 65536) q.1 q.2).2.2.2.2.2 (by omega) (by omega) hq
  have a7 := (ce_edges (p.2 * 65536) (p.2 * 65536) q.1 q.2).2.2.2.2.1 (by omega) (by omega) hq
  refine div_eq h1 h2 (by omega) ?_ ?_ hq
  · simp only [min4]; omega
  · simp only [max4]; omega
theorem div_sel1p {p q : I} (h1 : entB p = false) (h2 : entB q = false) (hp : p.1 ≤ p.2) (hq : q.1 ≤ q.2) (hs : p.1 < 0 ∧ 0 < p.2) (ht : 0 < q.1) : div p q = mk (fl (p.1 * 65536) q.1) (ce (p.2 * 65536) q.1) := by
  have a0 := (fl_edges (p.1 * 65536) (p.2 * 65536) q.1 q.1).1 (by omega) (by omega)
  have a1 := (fl_edges (p.1 * 65536) (p.2 * 65536) q.2 q.2).1 (by omega) (by omega)
  have a2 := (fl_edges (p.1 * 65536) (p.1 * 65536) q.1 q.2).2.2.2.1 (by omega) (by omega) hq
  have a3 := (fl_edges (p.2 * 65536) (p.2 * 65536) q.1 q.2).2.2.1 (by omega) (by omega) hq
  have a4 := (ce_edges (p.1 * 65536) (p.2 * 65536) q.1 q.1).1 (by omega) (by omega)
  have a5 := (ce_edges (p.1 * 65536) (p.2 * 65536) q.2 q.2).1 (by omega) (by omega)
  have a6 := (ce_edges (p.1 * 65536) (p.1 * 65536) q.1 q.2).2.2.2.1 (by omega) (by omega) hq
  have a7 := (ce_edges (p.2 * 65536) (p.2 * 65536) q.1 q.2).2.2.1 (by omega) (by omega) hq
  refine div_eq h1 h2 (by omega) ?_ ?_ hq
  · simp only [min4]; omega
  · simp only [max4]; omega
theorem div_sel2n {p q : I} (h1 : entB p = false) (h2 : entB q = false) (hp : p.1 ≤ p.2) (hq : q.1 ≤ q.2) (hs : 0 ≤ p.1) (ht : q.2 < 0) : div p q = mk (fl (p.2 * 65536) q.2) (ce (p.1 * 65536) q.1) := by
  have a0 := (fl_edges (p.1 * 65536) (p.2 * 65536) q.1 q.1).2.1 (by omega) (by omega)
  have a1 := (fl_edges (p.1 * 65536) (p.2 * 65536) q.2 q.2).2.1 (by omega) (by omega)
  have a2 := (fl_edges (p.1 * 65536) (p.1 * 65536) q.1 q.2).2.2.2.2.1 (by omega) (by omega) hq
  have a3 := (fl_edges (p.2 * 65536) (p.2 * 65536) q.1 q.2).2.2.2.2.1 (by omega) (by omega) hq
  have a4 := (ce_edges (p.1 * 65536) (p.2 * 65536) q.1 q.1).2.1 (by omega) (by omega)
  have a5 := (ce_edges (p.1 * 65536) (p.2 * 65536) q.2 q.2).2.1 (by omega) (by omega)
  have a6 := (ce_edges (p.1 * 65536) (p.1 * 65536) q.1 q.2).2.2.2.2.1 (by omega) (by omega) hq
  have a7 := (ce_edges (p.2 * 65536) (p.2 * 65536) q.1 q.2).2.2.2.2.1 (by omega) (by omega) hq
  refine div_eq h1 h2 (by omega) ?_ ?_ hq
  · simp only [min4]; omega
  · simp only [max4]; omega
theorem div_sel2p {p q : I} (h1 : entB p = false) (h2 : entB q = false) (hp : p.1 ≤ p.2) (hq : q.1 ≤ q.2) (hs : 0 ≤ p.1) (ht : 0 < q.1) : div p q = mk (fl (p.1 * 65536) q.2) (ce (p.2 * 65536) q.1) := by
  have a0 := (fl_edges (p.1 * 65536) (p.2 * 65536) q.1 q.1).1 (by omega) (by omega)
  have a1 := (fl_edges (p.1 * 65536) (p.2 * 65536) q.2 q.2).1 (by omega) (by omega)
  have a2 := (fl_edges (p.1 * 65536) (p.1 * 65536) q.1 q.2).2.2.1 (by omega) (by omega) hq
  have a3 := (fl_edges (p.2 * 65536) (p.2 * 65536) q.1 q.2).2.2.1 (by omega) (by omega) hq
  have a4 := (ce_edges (p.1 * 65536) (p.2 * 65536) q.1 q.1).1 (by omega) (by omega)
  have a5 := (ce_edges (p.1 * 65536) (p.2 * 65536) q.2 q.2).1 (by omega) (by omega)
  have a6 := (ce_edges (p.1 * 65536) (p.1 * 65536) q.1 q.2).2.2.1 (by omega) (by omega) hq
  have a7 := (ce_edges (p.2 * 65536) (p.2 * 65536) q.1 q.2).2.2.1 (by omega) (by omega) hq
  refine div_eq h1 h2 (by omega) ?_ ?_ hq
  · simp only [min4]; omega
  · simp only [max4]; omega
def len8 (n : Nat) : Nat := if n < 1 then 0 else if n < 2 then 1 else if n < 4 then 2 else if n < 8 then 3 else if n < 16 then 4 else if n < 32 then 5 else if n < 64 then 6 else if n < 128 then 7 else 8
theorem len8_spec (n : Nat) (h : n < 256) : n < 2 ^ len8 n ∧ len8 n ≤ 8 := by
  unfold len8
  repeat' split
  all_goals simp; try omega
def blen (x : Int) : Int :=
  let a := if 4294967296 ≤ x then (x / 4294967296, (32 : Int)) else (x, 0)
  let b := if 65536 ≤ a.1 then (a.1 / 65536, a.2 + 16) else a
  let c := if 256 ≤ b.1 then (b.1 / 256, b.2 + 8) else b
  c.2 + len8 c.1.toNat
theorem blen_spec {x : Int} (h : 0 ≤ x ∧ x < 281474976710656) : 0 ≤ blen x ∧ blen x ≤ 48 ∧ x < 2 ^ (blen x).toNat := by
  have key : ∀ (z : Int) (n m : Nat), 0 ≤ z → z < 256 → m ≤ 40 → x < (z + 1) * 2 ^ m → (n = m) → 0 ≤ (n : Int) + len8 z.toNat ∧ (n : Int) + len8 z.toNat ≤ 48 ∧ x < 2 ^ ((n : Int) + len8 z.toNat).toNat := by
    rintro z n m h0 h1 h2 h3 rfl
    obtain ⟨k, rfl⟩ := Int.eq_ofNat_of_zero_le h0
    obtain ⟨g1, g2⟩ := len8_spec k (by omega)
    simp only [Int.toNat_natCast]
    refine ⟨by omega, by omega, ?_⟩
    rw [show ((n : Int) + (len8 k : Int)).toNat = len8 k + n by omega, Int.pow_add]
    have e : ((k : Int) + 1) ≤ 2 ^ len8 k := by exact_mod_cast g1
    exact Int.lt_of_lt_of_le h3 (Int.mul_le_mul_of_nonneg_right e (by exact_mod_cast Nat.zero_le _))
  unfold blen
  by_cases h1 : 4294967296 ≤ x
  · simp only [h1, if_true]
    have h2 : ¬ 65536 ≤ x / 4294967296 := by omega
    simp only [h2, if_false]
    by_cases h3 : 256 ≤ x / 4294967296
    · simp only [h3, if_true]
      exact key (x / 4294967296 / 256) 40 40 (by omega) (by omega) (by omega) (by omega) rfl
    · simp only [h3, if_false]
      exact key (x / 4294967296) 32 32 (by omega) (by omega) (by omega) (by omega) rfl
  · simp only [h1, if_false]
    by_cases h2 : 65536 ≤ x
    · simp only [h2, if_true]
      by_cases h3 : 256 ≤ x / 65536
      · simp only [h3, if_true]
        exact key (x / 65536 / 256) 24 24 (by omega) (by omega) (by omega) (by omega) rfl
      · simp only [h3, if_false]
        exact key (x / 65536) 16 16 (by omega) (by omega) (by omega) (by omega) rfl
    · simp only [h2, if_false]
      by_cases h3 : 256 ≤ x
      · simp only [h3, if_true]
        exact key (x / 256) 8 8 (by omega) (by omega) (by omega) (by omega) rfl
      · simp only [h3, if_false]
        exact key x 0 0 (by omega) (by omega) (by omega) (by omega) rfl
theorem newton_step {n x : Int} (hx : 0 < x) (h : root n ≤ x) (hn : 0 ≤ n) : root n ≤ (x + n / x) / 2 ∧ (x ≤ (x + n / x) / 2 → x = root n) ∧ 0 ≤ n / x := by
  obtain ⟨r0, r1, r2⟩ := root_spec hn
  generalize root n = r at *
  have h0 : 0 ≤ n / x := Int.ediv_nonneg hn (by omega)
  have h1 : 2 * r - x ≤ n / x := by
    refine Int.le_ediv_of_mul_le hx ?_
    have : (2 * r - x) * x = r * r - (x - r) * (x - r) := by
      rw [Int.sub_mul, Int.sub_mul, Int.mul_sub, Int.mul_sub, Int.mul_assoc, Int.mul_comm x r]; omega
    have h2 : 0 ≤ (x - r) * (x - r) := Int.mul_nonneg (by omega) (by omega)
    omega
  refine ⟨by omega, fun hy => ?_, h0⟩
  rcases Int.lt_or_le r x with hlt | hle
  · have h2 : n < x * x := Int.lt_of_lt_of_le r2 (Int.mul_le_mul (by omega) (by omega) (by omega) (by omega))
    have h3 : n / x < x := Int.ediv_lt_of_lt_mul hx h2
    omega
  · omega
end Go.Pl

namespace Go.Proofs.YtfjjckepnkkgjaaGreatDoor.Arm
open Go.Arm Go.Pl
abbrev fnA (n : Nat) : AV := .func (.func n) [] []
def prodT : List AV := [fnA 255, fnA 256, fnA 257, fnA 256, fnA 257, fnA 258, fnA 258, fnA 256, .nilfunc, .nilfunc, fnA 257, fnA 255, fnA 258, fnA 257, fnA 258, fnA 255, fnA 256, fnA 255]
def quotT : List AV := [fnA 258, fnA 257, fnA 256, fnA 255, fnA 255, fnA 257, fnA 256, fnA 258, fnA 255, fnA 256, fnA 257, fnA 258]
def tapT : List AV := [.nilfunc, .nilfunc, .nilfunc, .nilfunc, .nilfunc, .nilfunc, .nilfunc, .nilfunc, fnA 184, .nilfunc, fnA 186, .nilfunc, fnA 259, .nilfunc, .nilfunc, fnA 175, .nilfunc, fnA 185, .nilfunc, fnA 174, .nilfunc, fnA 207]
def glob : Nat → Option (List AV)
  | 0 => some prodT
  | 2 => some quotT
  | 1 => some tapT
  | _ => none
noncomputable def E : Env := ⟨Tryz.prog, tab, glob⟩
@[simp] theorem E_T : E.T = tab := rfl
@[simp] theorem E_G0 : E.Γ 0 = some prodT := rfl
@[simp] theorem E_G1 : E.Γ 2 = some quotT := rfl
@[simp] theorem E_G2 : E.Γ 1 = some tapT := rfl
theorem tabOk : TabOk E.P E.T := by
  show TabOk Tryz.prog tab
  exact tab_ok
theorem mixed : E.P.follows .mixedOrders = true := by kernel_rfl
def iv (p : I) : AV := .agg [.int .i64 p.1, .int .i64 p.2]
@[simp] theorem iv_eq (p : I) : iv p = .agg [.int .i64 p.1, .int .i64 p.2] := rfl
theorem fDivide1 (r : Int) (H : AH) : Sound E 222 [.int .i64 r] H (.ret (.int .i64 (min r 1))) H := by
  refine sound_of_awp tabOk mixed Tryz.func222 rfl (by rfl) Tryz.ntmps222 (by kernel_rfl) (by simp) ?_
  simp
  exact fin0 (rs := [.tmp 2]) (by rfl) (by simp [resA]; omega)
theorem fFloorCeil (a b : Int) (ha : -4611686018427387904 ≤ a ∧ a ≤ 4611686018427387904) (hb : 0 < b ∧ b ≤ 4611686018427387904) (H : AH) :
    Sound E 221 [.int .i64 a, .int .i64 b, fnA 222] H (.ret (.tuple [.int .i64 (fl a b), .int .i64 (ce a b)])) H := by
  refine sound_of_awp tabOk mixed Tryz.func221 rfl (by rfl) Tryz.ntmps221 (by kernel_rfl) (by simp) ?_
  have h1 := tdiv_floor a hb.1
  have h2 := ceil_eq a hb.1
  have h3 := Int.mul_ediv_add_emod a b
  have h4 := Int.mul_tdiv_add_tmod a b
  obtain ⟨h5, h6⟩ := tmod_bounds a hb.1
  have h7 := Int.emod_nonneg a (b := b) (by omega)
  have h8 := Int.emod_lt_of_pos a hb.1
  have e1 : fl a b = a / b := by unfold fl; rw [if_neg (by omega)]
  have e2 : ce a b = if a % b = 0 then a / b else a / b + 1 := by unfold ce fl; rw [if_neg (by omega), h2]
  have hq : -4611686018427387904 ≤ a.tdiv b ∧ a.tdiv b ≤ 4611686018427387904 := by
    have := Int.natAbs_tdiv_le_natAbs a b
    omega
  have hw : IntKind.i64.wrap (a.tdiv b) = a.tdiv b := wrap64 (by omega) (by omega)
  simp
  refine bind_ifn (by omega) ?_
  simp
  refine bind_ifn (by omega) ?_
  simp [hw]
  refine endD [] (by rfl) (by simp [okW, note, Eff.triv, Eff.wr, Eff.none, upTo, newAt]) ?_
  simp
  refine branch (fun hr => ?_) (fun hr => ?_)
  · have hr' : a.tmod b < 0 := by simpa using hr
    have w1 : IntKind.i64.wrap (a.tdiv b - 1) = a.tdiv b - 1 := wrap64 (by omega) (by omega)
    have w2 : IntKind.i64.wrap (a.tmod b + b) = a.tmod b + b := wrap64 (by omega) (by omega)
    rw [if_pos hr'] at h1
    have hem : a % b = a.tmod b + b := by
      have : b * (a / b) = b * a.tdiv b - b := by rw [h1, Int.mul_sub, Int.mul_one]
      omega
    simp [w1, w2]
    refine call_ret (fDivide1 _ _) ?_
    have w3 : IntKind.i64.wrap (a.tdiv b - 1 + min (a.tmod b + b) 1) = a.tdiv b - 1 + min (a.tmod b + b) 1 := wrap64 (by omega) (by omega)
    simp [w3]
    exact finK (rs := [.tmp 6, .tmp 7]) (vs := [.int .i64 (fl a b), .int .i64 (ce a b)]) (by rfl) (by
      rw [e1, e2]
      simp [resA]
      constructor
      · omega
      · split <;> omega) rfl
  · have hr' : ¬ a.tmod b < 0 := by simpa using hr
    rw [if_neg hr'] at h1
    have hem : a % b = a.tmod b := by
      rw [h1] at h3; omega
    simp
    refine call_ret (fDivide1 _ _) ?_
    have w3 : IntKind.i64.wrap (a.tdiv b + min (a.tmod b) 1) = a.tdiv b + min (a.tmod b) 1 := wrap64 (by omega) (by omega)
    simp [w3]
    exact finK (rs := [.tmp 6, .tmp 7]) (vs := [.int .i64 (fl a b), .int .i64 (ce a b)]) (by rfl) (by
      rw [e1, e2]
      simp [resA]
      constructor
      · omega
      · split <;> omega) rfl
theorem fDivide (a b : Int) (ha : -4611686018427387904 ≤ a ∧ a ≤ 4611686018427387904) (hb : b ≠ 0 ∧ -4611686018427387904 ≤ b ∧ b ≤ 4611686018427387904) (H : AH) :
    Sound E 213 [.int .i64 a, .int .i64 b] H (.ret (.tuple [.int .i64 (fl a b), .int .i64 (ce a b)])) H := by
  refine sound_of_awp tabOk mixed Tryz.func213 rfl (by rfl) Tryz.ntmps213 (by kernel_rfl) (by simp) ?_
  simp
  refine branch (fun hr => ?_) (fun hr => ?_)
  · have hr' : b < 0 := by simpa using hr
    have w1 : IntKind.i64.wrap (-a) = -a := wrap64 (by omega) (by omega)
    have w2 : IntKind.i64.wrap (-b) = -b := wrap64 (by omega) (by omega)
    simp [w1, w2]
    refine call_ret (fFloorCeil (-a) (-b) (by omega) (by omega) _) ?_
    simp
    exact finK (rs := [.tmp 4, .tmp 5]) (vs := [.int .i64 (fl a b), .int .i64 (ce a b)]) (by rfl) (by
      have h1 : fl (-a) (-b) = fl a b := by unfold fl; rw [if_neg (by omega), if_pos hr']
      have h2 : ce (-a) (-b) = ce a b := by unfold ce fl; rw [if_neg (by omega), if_pos hr']
      simp [resA, h1, h2]) rfl
  · have hr' : ¬ b < 0 := by simpa using hr
    simp
    refine call_ret (fFloorCeil a b (by omega) (by omega) _) ?_
    simp
    exact finK (rs := [.tmp 4, .tmp 5]) (vs := [.int .i64 (fl a b), .int .i64 (ce a b)]) (by rfl) (by simp [resA]) rfl
theorem fMul (a b : Int) (h : -4611686018427387904 ≤ a * b ∧ a * b ≤ 4611686018427387904) (H : AH) :
    Sound E 194 [.int .i64 a, .int .i64 b] H (.ret (.tuple [.int .i64 (fl (a * b) 65536), .int .i64 (ce (a * b) 65536)])) H := by
  refine sound_of_awp tabOk mixed Tryz.func194 rfl (by rfl) Tryz.ntmps194 (by kernel_rfl) (by simp) ?_
  have w1 : IntKind.i64.wrap (a * b) = a * b := wrap64 (by omega) (by omega)
  simp [w1]
  refine call_ret (fDivide (a * b) 65536 h (by omega) _) ?_
  simp
  exact finK (rs := [.tmp 4, .tmp 5]) (vs := [.int .i64 (fl (a * b) 65536), .int .i64 (ce (a * b) 65536)]) (by rfl) (by simp [resA]) rfl
end Go.Proofs.YtfjjckepnkkgjaaGreatDoor.Arm

namespace Go.Proofs.YtfjjckepnkkgjaaGreatDoor.Arm.C1
open Go.Arm
def iv (p : Int × Int) : AV := .agg [.int .i64 p.1, .int .i64 p.2]
@[simp] theorem iv_eq (p : Int × Int) : iv p = .agg [.int .i64 p.1, .int .i64 p.2] := rfl
def numB (a : Int) : Bool := decide (-2147483648 < a) && decide (a < 2147483648)
def entB (p : Int × Int) : Bool := p.1 == -2147483648 && p.2 == 2147483648
def ivB (p : Int × Int) : Bool := entB p || (numB p.1 && numB p.2 && decide (p.1 ≤ p.2))
theorem s43 (a : Int) (H : AH) : Sound E 52 [.int .i64 a] H (.ret (.bool (numB a))) H := by
  refine sound_of_awp tabOk mixed Tryz.func52 rfl (by rfl) Tryz.ntmps52 (by kernel_rfl) (by simp) ?_
  simp
  refine gateT (fun h => ?_) (fun h => ?_)
  all_goals
    simp [h]
    exact fin0 (rs := [.tmp 2]) (by rfl) (by simp [resA, numB, h])
theorem s38 (a : Int) (H : AH) : Sound E 36 [.int .i64 a] H (.ret (.bool (numB a))) H := by
  refine sound_of_awp tabOk mixed Tryz.func36 rfl (by rfl) Tryz.ntmps36 (by kernel_rfl) (by simp) ?_
  simp
  refine gateT (fun h => ?_) (fun h => ?_)
  all_goals
    simp [h]
    exact fin0 (rs := [.tmp 2]) (by rfl) (by simp [resA, numB, h])
theorem s40 (a : Int) (H : AH) : Sound E 108 [.int .i64 a] H (.ret (.bool (numB a))) H := by
  refine sound_of_awp tabOk mixed Tryz.func108 rfl (by rfl) Tryz.ntmps108 (by kernel_rfl) (by simp) ?_
  simp
  refine gateT (fun h => ?_) (fun h => ?_)
  all_goals
    simp [h]
    exact fin0 (rs := [.tmp 2]) (by rfl) (by simp [resA, numB, h])
theorem s31 (a : Int) (H : AH) : Sound E 83 [.int .i64 a] H (.ret (.bool (decide (0 ≤ a) && decide (a < 8)))) H := by
  refine sound_of_awp tabOk mixed Tryz.func83 rfl (by rfl) Tryz.ntmps83 (by kernel_rfl) (by simp) ?_
  simp
  refine gateT (fun h => ?_) (fun h => ?_)
  all_goals
    simp [h]
    exact fin0 (rs := [.tmp 2]) (by rfl) (by simp [resA, h])
theorem s60 (H : AH) : Sound E 107 [] H (.ret (iv (-2147483648, 2147483648))) H := by
  refine sound_of_awp tabOk mixed Tryz.func107 rfl (by rfl) Tryz.ntmps107 (by kernel_rfl) (by simp) ?_
  simp
  exact fin1 (rs := [.cell 0 54]) (by rfl) (by simp [resA]) (by simp [noF, noFs])
theorem s29 (p : Int × Int) (H : AH) : Sound E 74 [iv p] H (.ret (.bool (entB p))) H := by
  refine sound_of_awp tabOk mixed Tryz.func74 rfl (by rfl) Tryz.ntmps74 (by kernel_rfl) (by simp) ?_
  simp
  refine gateT (fun h => ?_) (fun h => ?_)
  all_goals
    simp [h]
    exact fin1 (rs := [.tmp 2]) (by rfl) (by simp [resA, entB, h]) (by simp [noF])
theorem s50 (p : Int × Int) (H : AH) : Sound E 71 [iv p] H (.ret (.bool (ivB p))) H := by
  refine sound_of_awp tabOk mixed Tryz.func71 rfl (by rfl) Tryz.ntmps71 (by kernel_rfl) (by simp) ?_
  simp
  refine call_ret (s29 p _) ?_
  simp
  refine gateF (fun h => ?_) (fun h => ?_)
  · simp [h]
    refine call_ret (s38 _ _) ?_
    simp [h]
    refine gateT (fun h2 => ?_) (fun h2 => ?_)
    · simp [h, h2]
      refine call_ret (s38 _ _) ?_
      simp [h, h2]
      refine gateT (fun h3 => ?_) (fun h3 => ?_)
      all_goals
        simp [h, h2, h3]
        exact fin1 (rs := [.tmp 2]) (by rfl) (by simp [resA, ivB, h, h2, h3]) (by simp [noF])
    · simp [h, h2]
      exact fin1 (rs := [.tmp 2]) (by rfl) (by simp [resA, ivB, h, h2]) (by simp [noF])
  · simp [h]
    exact fin1 (rs := [.tmp 2]) (by rfl) (by simp [resA, ivB, h]) (by simp [noF])
@[simp] theorem bin_iv (H : AH) (a b c d : Int) (z : Bool) : binOpA tab H .eql 54 (.agg [.int .i64 a, .int .i64 b]) (.agg [.int .i64 c, .int .i64 d]) z = some (.bool (a == c && b == d), H) := by
  simp [binOpA, binA, eqA, eqFs, nilI]
  by_cases h : a = c <;> by_cases h2 : b = d <;> simp [h, h2]
@[simp] theorem bin_iv_ne (H : AH) (a b c d : Int) (z : Bool) : binOpA tab H .neq 54 (.agg [.int .i64 a, .int .i64 b]) (.agg [.int .i64 c, .int .i64 d]) z = some (.bool (!(a == c && b == d)), H) := by
  simp [binOpA, binA, eqA, eqFs, nilI]
  by_cases h : a = c <;> by_cases h2 : b = d <;> simp [h, h2]
theorem s58 (p : Int × Int) (H : AH) : Sound E 127 [iv p] H (.ret (.bool (entB p))) H := by
  refine sound_of_awp tabOk mixed Tryz.func127 rfl (by rfl) Tryz.ntmps127 (by kernel_rfl) (by simp) ?_
  simp
  refine callD_ret (fun Hx => s60 Hx) ?_
  simp
  refine endD [] (by rfl) (by simp [okW, note, Eff.triv, Eff.wr, Eff.none, upTo, newAt]) ?_
  simp
  exact fin1 (rs := [.tmp 2]) (by rfl) (by simp [resA, entB]) (by simp [noF])
theorem s52 (p : Int × Int) (H : AH) : Sound E 103 [iv p] H (.ret (.bool (ivB p))) H := by
  refine sound_of_awp tabOk mixed Tryz.func103 rfl (by rfl) Tryz.ntmps103 (by kernel_rfl) (by simp) ?_
  simp
  refine call_ret (s58 p _) ?_
  simp
  refine gateF (fun h => ?_) (fun h => ?_)
  · simp [h]
    refine call_ret (s43 _ _) ?_
    simp [h]
    refine gateT (fun h2 => ?_) (fun h2 => ?_)
    · simp [h, h2]
      refine call_ret (s43 _ _) ?_
      simp [h, h2]
      refine gateT (fun h3 => ?_) (fun h3 => ?_)
      all_goals
        simp [h, h2, h3]
        exact fin1 (rs := [.tmp 2]) (by rfl) (by simp [resA, ivB, h, h2, h3]) (by simp [noF])
    · simp [h, h2]
      exact fin1 (rs := [.tmp 2]) (by rfl) (by simp [resA, ivB, h, h2]) (by simp [noF])
  · simp [h]
    exact fin1 (rs := [.tmp 2]) (by rfl) (by simp [resA, ivB, h]) (by simp [noF])
def L39 (b : List (Int × Int)) (H : AH) (i : Nat) (fr : AFr) (H' : AH) : Prop :=
  fr 0 = .slice (b.map iv) false ∧ fr 3 = .int .i64 i ∧ (∃ J, H' = H ++ J) ∧ i ≤ b.length ∧ (b.take i).all ivB = true
def boxB (b : List (Int × Int)) : Bool := b.all ivB && decide (1 ≤ b.length) && decide (b.length ≤ 6)
theorem all_take {α : Type} {p : α → Bool} {l : List α} {i : Nat} {x : α} (h : (l.take i).all p = true) (hx : l[i]? = some x) (hp : p x = true) : (l.take (i + 1)).all p = true := by
  rw [List.take_add_one, hx]; simp only [List.all_append, h]; simpa using hp
theorem all_end {α : Type} {p : α → Bool} {l : List α} {i : Nat} (h : (l.take i).all p = true) (hi : ¬ i < l.length) : l.all p = true := by
  rwa [List.take_of_length_le (by omega)] at h
theorem all_not {α : Type} {p : α → Bool} {l : List α} {i : Nat} {x : α} (hx : l[i]? = some x) (hp : p x = false) : l.all p = false := by
  rw [List.all_eq_false]; exact ⟨x, List.mem_of_getElem? hx, by simp [hp]⟩
theorem s39 (b : List (Int × Int)) (hb : b.length ≤ 9223372036854775807) (H : AH) : Sound E 85 [.slice (b.map iv) false] H (.ret (.bool (boxB b))) H := by
  refine sound_of_awp tabOk mixed Tryz.func85 rfl (by rfl) Tryz.ntmps85 (by kernel_rfl) (by simp) ?_
  simp
  refine loop_count (L39 b H) (fun i => b.length - i) 0 ⟨by simp, by simp, ⟨[], by simp⟩, by simp, by simp⟩ ?_
  rintro i fr H' ⟨h0, h3, ⟨J, rfl⟩, hi, hall⟩
  simp [h0, h3]
  refine branch (fun hc => ?_) (fun hc => ?_)
  · simp at hc
    obtain ⟨p, hp⟩ := get_lt hc
    simp [h0, h3, hp]
    refine call_ret (s50 p _) ?_
    simp [h0, h3, hp]
    refine branch (fun hv => ?_) (fun hv => ?_)
    · simp
      simp at hv
      exact fin1 (rs := [.tmp 2]) (by rfl) (by simp [resA, boxB, all_not hp hv]) (by simp [noF])
    · simp (disch := omega) [h0, h3, wrap64]
      simp at hv
      exact ⟨i + 1, by dsimp only; omega, by simp [h0], by simp, ⟨_, rfl⟩, by omega, all_take hall hp hv⟩
  · simp at hc
    simp [h0, h3]
    have hb := all_end hall (by omega)
    refine gateT (fun h => ?_) (fun h => ?_)
    all_goals
      simp [h, h0]
      exact fin1 (rs := [.tmp 2]) (by rfl) (by simp at h; simp [resA]; rw [Bool.eq_iff_iff]; simp [boxB, hb]; omega) (by simp [noF])
end Go.Proofs.YtfjjckepnkkgjaaGreatDoor.Arm.C1

namespace Go.Proofs.YtfjjckepnkkgjaaGreatDoor.Arm.C1
open Go.Arm
theorem take_step {α : Type} {a b : List α} {i : Nat} {x : α} (h : a.take i = b.take i) (hx : a[i]? = some x) (hy : b[i]? = some x) : a.take (i + 1) = b.take (i + 1) := by
  rw [List.take_add_one, List.take_add_one, hx, hy, h]
theorem take_end {α : Type} {a b : List α} {i : Nat} (h : a.take i = b.take i) (hl : a.length = b.length) (hi : ¬ i < a.length) : a = b := by
  rwa [List.take_of_length_le (by omega), List.take_of_length_le (by omega)] at h
theorem get_ne {α : Type} {a b : List α} {i : Nat} {x y : α} (hx : a[i]? = some x) (hy : b[i]? = some y) (h : x ≠ y) : a ≠ b := by
  rintro rfl; rw [hx] at hy; cases hy; exact h rfl
def u8 (x : Int) : AV := .int .u8 x
@[simp] theorem u8_eq (x : Int) : u8 x = .int .u8 x := rfl
def L24 (a b : List (Int × Int)) (H : AH) (i : Nat) (fr : AFr) (H' : AH) : Prop :=
  fr 0 = .slice (a.map iv) false ∧ fr 1 = .slice (b.map iv) false ∧ fr 5 = .int .i64 i ∧ (∃ J, H' = H ++ J) ∧ i ≤ a.length ∧ a.take i = b.take i
theorem s24 (a b : List (Int × Int)) (ha : a.length ≤ 9223372036854775807) (H : AH) : Sound E 19 [.slice (a.map iv) false, .slice (b.map iv) false] H (.ret (.bool (decide (a = b)))) H := by
  refine sound_of_awp tabOk mixed Tryz.func19 rfl (by rfl) Tryz.ntmps19 (by kernel_rfl) (by simp) ?_
  simp
  refine branch (fun hc => ?_) (fun hc => ?_)
  · simp
    simp at hc
    exact fin0 (rs := [.tmp 4]) (by rfl) (by simp [resA]; rintro rfl; exact hc rfl)
  simp
  simp at hc
  refine loop_count (L24 a b H) (fun i => a.length - i) 0 ⟨by simp, by simp, by simp, ⟨[], by simp⟩, by simp, by simp⟩ ?_
  rintro i fr H' ⟨h0, h1, h5, ⟨J, rfl⟩, hi, heq⟩
  simp [h0, h5]
  refine branch (fun hl => ?_) (fun hl => ?_)
  · simp at hl
    obtain ⟨p, hp⟩ := get_lt hl
    obtain ⟨q, hq⟩ := get_lt (l := b) (i := i) (by omega)
    simp [h0, h1, h5, hp, hq]
    refine endD [] (by rfl) (by simp [okW, note, Eff.triv, Eff.wr, Eff.none, upTo, newAt, h0, h1]) ?_
    simp
    refine branch (fun hv => ?_) (fun hv => ?_)
    · simp
      simp at hv
      exact fin1 (rs := [.tmp 4]) (by rfl) (by simp [resA]; exact get_ne hp hq (fun e => by rw [e] at hv; simp at hv)) (by simp [noF])
    · simp (disch := omega) [h5, wrap64]
      simp at hv
      have : p = q := Prod.ext hv.1 hv.2
      subst this
      exact ⟨i + 1, by dsimp only; omega, by simp [h0], by simp [h1], by simp, ⟨_, rfl⟩, by omega, take_step heq hp hq⟩
  · simp at hl
    simp
    exact fin1 (rs := [.tmp 4]) (by rfl) (by simp [resA]; exact take_end heq (by omega) (by omega)) (by simp [noF])
def L32 (a b : List (Int × Int)) (H : AH) (i : Nat) (fr : AFr) (H' : AH) : Prop :=
  fr 0 = .slice (a.map iv) false ∧ fr 1 = .slice (b.map iv) false ∧ fr 12 = .int .i64 a.length ∧ fr 13 = .int .i64 i ∧ (∃ J, H' = H ++ J) ∧ i ≤ a.length ∧ a.take i = b.take i
theorem s32 (a b : List (Int × Int)) (ha : a.length ≤ 9223372036854775807) (H : AH) : Sound E 84 [.slice (a.map iv) false, .slice (b.map iv) false] H (.ret (.bool (decide (a = b)))) H := by
  refine sound_of_awp tabOk mixed Tryz.func84 rfl (by rfl) Tryz.ntmps84 (by kernel_rfl) (by simp) ?_
  simp
  refine branch (fun hc => ?_) (fun hc => ?_)
  · simp
    simp at hc
    exact fin0 (rs := [.tmp 4]) (by rfl) (by simp [resA]; rintro rfl; exact hc rfl)
  simp
  simp at hc
  refine loop_count (L32 a b H) (fun i => a.length - i) 0 ⟨by simp, by simp, by simp, by simp, ⟨[], by simp⟩, by simp, by simp⟩ ?_
  rintro i fr H' ⟨h0, h1, h12, h13, ⟨J, rfl⟩, hi, heq⟩
  simp [h12, h13]
  refine branch (fun hl => ?_) (fun hl => ?_)
  · simp at hl
    obtain ⟨p, hp⟩ := get_lt hl
    obtain ⟨q, hq⟩ := get_lt (l := b) (i := i) (by omega)
    simp [h0, h1, h13, hp, hq]
    refine endD [] (by rfl) (by simp [okW, note, Eff.triv, Eff.wr, Eff.none, upTo, newAt, h0, h1]) ?_
    simp
    refine branch (fun hv => ?_) (fun hv => ?_)
    · simp
      simp at hv
      exact fin1 (rs := [.tmp 4]) (by rfl) (by simp [resA]; exact get_ne hp hq (fun e => by rw [e] at hv; simp at hv)) (by simp [noF])
    · simp (disch := omega) [h13, wrap64]
      simp at hv
      have : p = q := Prod.ext hv.1 hv.2
      subst this
      exact ⟨i + 1, by dsimp only; omega, by simp [h0], by simp [h1], by simp [h12], by simp, ⟨_, rfl⟩, by omega, take_step heq hp hq⟩
  · simp at hl
    simp
    exact fin1 (rs := [.tmp 4]) (by rfl) (by simp [resA]; exact take_end heq (by omega) (by omega)) (by simp [noF])
def L19 (a b : List Int) (H : AH) (i : Nat) (fr : AFr) (H' : AH) : Prop :=
  fr 0 = .slice (a.map u8) false ∧ fr 1 = .slice (b.map u8) false ∧ fr 5 = .int .i64 i ∧ (∃ J, H' = H ++ J) ∧ i ≤ a.length ∧ a.take i = b.take i
theorem s19 (a b : List Int) (ha : a.length ≤ 9223372036854775807) (H : AH) : Sound E 78 [.slice (a.map u8) false, .slice (b.map u8) false] H (.ret (.bool (decide (a = b)))) H := by
  refine sound_of_awp tabOk mixed Tryz.func78 rfl (by rfl) Tryz.ntmps78 (by kernel_rfl) (by simp) ?_
  simp
  refine branch (fun hc => ?_) (fun hc => ?_)
  · simp
    simp at hc
    exact fin0 (rs := [.tmp 4]) (by rfl) (by simp [resA]; rintro rfl; exact hc rfl)
  simp
  simp at hc
  refine loop_count (L19 a b H) (fun i => a.length - i) 0 ⟨by simp, by simp, by simp, ⟨[], by simp⟩, by simp, by simp⟩ ?_
  rintro i fr H' ⟨h0, h1, h5, ⟨J, rfl⟩, hi, heq⟩
  simp [h0, h5]
  refine branch (fun hl => ?_) (fun hl => ?_)
  · simp at hl
    obtain ⟨p, hp⟩ := get_lt hl
    obtain ⟨q, hq⟩ := get_lt (l := b) (i := i) (by omega)
    simp [h0, h1, h5, hp, hq]
    refine endD [] (by rfl) (by simp [okW, note, Eff.triv, Eff.wr, Eff.none, upTo, newAt, h0, h1]) ?_
    simp
    refine branch (fun hv => ?_) (fun hv => ?_)
    · simp
      simp at hv
      exact fin1 (rs := [.tmp 4]) (by rfl) (by simp [resA]; exact get_ne hp hq hv) (by simp [noF])
    · simp (disch := omega) [h5, wrap64]
      simp at hv
      subst hv
      exact ⟨i + 1, by dsimp only; omega, by simp [h0], by simp [h1], by simp, ⟨_, rfl⟩, by omega, take_step heq hp hq⟩
  · simp at hl
    simp
    exact fin1 (rs := [.tmp 4]) (by rfl) (by simp [resA]; exact take_end heq (by omega) (by omega)) (by simp [noF])
end Go.Proofs.YtfjjckepnkkgjaaGreatDoor.Arm.C1

namespace Go.Proofs.YtfjjckepnkkgjaaGreatDoor.Arm.C1
open Go.Arm
def smallIv (p : Int × Int) : Int × Int :=
  (if p.2.tmod 16777216 < p.1.tmod 16777216 then p.2.tmod 16777216 else p.1.tmod 16777216, if p.1.tmod 16777216 < p.2.tmod 16777216 then p.2.tmod 16777216 else p.1.tmod 16777216)
def and31 (n : Int) : Int := andA .i64 n 31
def madeIv (p : Int × Int) : Int × Int := if ivB p then p else if and31 p.1 == 7 then (-2147483648, 2147483648) else smallIv p
def newIv (a b : Int) : Int × Int := if numB a && numB b then (a, b) else (-2147483648, 2147483648)
theorem s51 (p : Int × Int) (H : AH) : Sound E 102 [iv p] H (.ret (.bool (!ivB p))) H := by
  refine sound_of_awp tabOk mixed Tryz.func102 rfl (by rfl) Tryz.ntmps102 (by kernel_rfl) (by simp) ?_
  simp
  refine call_ret (s52 p _) ?_
  simp
  exact fin1 (rs := [.tmp 2]) (by rfl) (by simp [resA]) (by simp [noF])
def L59 (b : List (Int × Int)) (g : Nat) (H : AH) (i : Nat) (fr : AFr) (H' : AH) : Prop :=
  fr 0 = .slice (b.map iv) false ∧ fr 1 = .func (.func g) [] [] ∧ fr 7 = .int .i64 b.length ∧ fr 8 = .int .i64 i ∧ (∃ J, H' = H ++ J) ∧ i ≤ b.length
def N59 (b : List (Int × Int)) (f : Int × Int → Bool) (i : Nat) : Prop := ∀ j x, j < i → b[j]? = some x → f x = false
theorem s59 (b : List (Int × Int)) (hb : b.length ≤ 9223372036854775807) (g : Nat) (f : Int × Int → Bool) (hg : ∀ p H, Sound E g [iv p] H (.ret (.bool (f p))) H) (H : AH) :
    Sound E 128 [.slice (b.map iv) false, .func (.func g) [] []] H (.ret (.int .i64 (match b.findIdx? f with | some i => (i : Int) | none => -1))) H := by
  refine sound_of_awp tabOk mixed Tryz.func128 rfl (by rfl) Tryz.ntmps128 (by kernel_rfl) (by simp) ?_
  simp
  refine loop_count (fun i fr H' => L59 b g H i fr H' ∧ N59 b f i) (fun i => b.length - i) 0 ⟨⟨by simp, by simp, by simp, by simp, ⟨[], by simp⟩, by simp⟩, fun j x hj => by omega⟩ ?_
  rintro i fr H' ⟨⟨h0, h1, h7, h8, ⟨J, rfl⟩, hi⟩, hall⟩
  simp [h7, h8]
  refine branch (fun hl => ?_) (fun hl => ?_)
  · simp at hl
    obtain ⟨p, hp⟩ := get_lt hl
    simp [h0, h1, h8, hp]
    refine call_ret (hg p _) ?_
    simp
    refine branch (fun hv => ?_) (fun hv => ?_)
    · simp
      have : b.findIdx? f = some i := by
        rw [List.findIdx?_eq_some_iff_getElem]
        refine ⟨hl, ?_, fun j hj => ?_⟩
        · rw [List.getElem?_eq_getElem hl] at hp; cases hp; exact hv
        · have := hall j b[j] hj (by simp); simp [this]
      exact fin1 (rs := [.tmp 4]) (by rfl) (by simp [resA, this]) (by simp [noF])
    · simp (disch := omega) [h8, wrap64]
      refine ⟨i + 1, by dsimp only; omega, ⟨by simp [h0], by simp [h1], by simp [h7], by simp, ⟨_, rfl⟩, by omega⟩, ?_⟩
      intro j x hj hx
      by_cases e : j = i
      · subst e; rw [hp] at hx; cases hx; exact hv
      · exact hall j x (by omega) hx
  · simp at hl
    simp
    have : b.findIdx? f = none := by
      rw [List.findIdx?_eq_none_iff]
      intro x hx
      obtain ⟨j, hj⟩ := List.mem_iff_getElem?.1 hx
      exact hall j x (by have := (List.getElem?_eq_some_iff.1 hj).1; omega) hj
    exact fin1 (rs := [.tmp 4]) (by rfl) (by simp [resA, this]) (by simp [noF])
theorem s53 (b : List (Int × Int)) (hb : b.length ≤ 9223372036854775807) (g : Nat) (f : Int × Int → Bool) (hg : ∀ p H, Sound E g [iv p] H (.ret (.bool (f p))) H) (H : AH) :
    Sound E 104 [.slice (b.map iv) false, .func (.func g) [] []] H (.ret (.bool (b.any f))) H := by
  refine sound_of_awp tabOk mixed Tryz.func104 rfl (by rfl) Tryz.ntmps104 (by kernel_rfl) (by simp) ?_
  simp
  refine call_ret (s59 b hb g f hg _) ?_
  simp
  refine fin0 (rs := [.tmp 4]) (by rfl) ?_
  simp [resA]
  cases h : b.findIdx? f with
  | none =>
    rw [List.findIdx?_eq_none_iff] at h
    simp
    intro x y hx; exact h (x, y) hx
  | some i =>
    rw [List.findIdx?_eq_some_iff_getElem] at h
    simp
    obtain ⟨h1, h2, h3⟩ := h
    exact ⟨b[i].1, b[i].2, List.getElem_mem h1, h2⟩
theorem s41 (b : List (Int × Int)) (hb : b.length ≤ 9223372036854775807) (H : AH) : Sound E 60 [.slice (b.map iv) false] H (.ret (.bool (boxB b))) H := by
  refine sound_of_awp tabOk mixed Tryz.func60 rfl (by rfl) Tryz.ntmps60 (by kernel_rfl) (by simp) ?_
  simp
  refine gateT (fun h => ?_) (fun h => ?_)
  · simp [h]
    refine gateT (fun h2 => ?_) (fun h2 => ?_)
    · simp [h, h2]
      refine call_ret (s53 b hb 102 (fun p => !ivB p) s51 _) ?_
      simp [h, h2]
      refine fin0 (rs := [.tmp 2]) (by rfl) ?_
      simp at h h2
      have h3 : 1 ≤ b.length := by omega
      have h4 : b.length ≤ 6 := by omega
      simp [resA, boxB, h3, h4]
      exact List.not_all_eq_any_not.symm
    · simp [h, h2]
      refine fin0 (rs := [.tmp 2]) (by rfl) ?_
      simp at h h2
      have h3 : ¬ b.length ≤ 6 := by omega
      simp [resA, boxB, h3]
  · simp [h]
    refine fin0 (rs := [.tmp 2]) (by rfl) ?_
    simp at h
    simp [resA, boxB]
    try intros
    omega
end Go.Proofs.YtfjjckepnkkgjaaGreatDoor.Arm.C1

namespace Go.Proofs.YtfjjckepnkkgjaaGreatDoor.Arm.C1
open Go.Arm
abbrev Box := List (Int × Int)
structure Step where
  h : Int
  o : Int
  pre : Box
  to : Box
  deriving DecidableEq
structure Cert where
  t : Int
  fr : Box
  l : List Step
  deriving DecidableEq
structure Seg where
  t : Int
  h : Int
  fr : Box
  pre : Box
  tube : Box
  to : Box
  deriving DecidableEq
def stp (s : Step) : AV := .agg [.int .i64 s.h, .int .i64 s.o, .slice (s.pre.map iv) false, .slice (s.to.map iv) false]
def crt (c : Cert) : AV := .agg [.int .i64 c.t, .slice (c.fr.map iv) false, .slice (c.l.map stp) false]
def sgm (s : Seg) : AV := .agg [.int .i64 s.t, .int .i64 s.h, .slice (s.fr.map iv) false, .slice (s.pre.map iv) false, .slice (s.tube.map iv) false, .slice (s.to.map iv) false]
@[simp] theorem stp_eq (s : Step) : stp s = .agg [.int .i64 s.h, .int .i64 s.o, .slice (s.pre.map iv) false, .slice (s.to.map iv) false] := rfl
@[simp] theorem crt_eq (c : Cert) : crt c = .agg [.int .i64 c.t, .slice (c.fr.map iv) false, .slice (c.l.map stp) false] := rfl
@[simp] theorem sgm_eq (s : Seg) : sgm s = .agg [.int .i64 s.t, .int .i64 s.h, .slice (s.fr.map iv) false, .slice (s.pre.map iv) false, .slice (s.tube.map iv) false, .slice (s.to.map iv) false] := rfl
@[simp] theorem noF_ivs (m : Nat) (b : Box) : noFs m (b.map iv) = true := by rw [noFs_iff]; intro x hx; obtain ⟨p, _, rfl⟩ := List.mem_map.1 hx; simp [noF, noFs]
@[simp] theorem noF_stps (m : Nat) (b : List Step) : noFs m (b.map stp) = true := by rw [noFs_iff]; intro x hx; obtain ⟨p, _, rfl⟩ := List.mem_map.1 hx; simp [noF, noFs]
@[simp] theorem noF_sgms (m : Nat) (b : List Seg) : noFs m (b.map sgm) = true := by rw [noFs_iff]; intro x hx; obtain ⟨p, _, rfl⟩ := List.mem_map.1 hx; simp [noF, noFs]
@[simp] theorem noF_u8s (m : Nat) (b : List Int) : noFs m (b.map u8) = true := by rw [noFs_iff]; intro x hx; obtain ⟨p, _, rfl⟩ := List.mem_map.1 hx; simp [noF]
def madeAt (b : Box) (i : Nat) : Int × Int := match b[i]? with
  | some p => madeIv p
  | none => (0, 0)
def madeBox (b : Box) (n : Nat) : Box := (List.range n).map (madeAt b)
@[simp] theorem madeBox_len (b : Box) (n : Nat) : (madeBox b n).length = n := by simp [madeBox]
end Go.Proofs.YtfjjckepnkkgjaaGreatDoor.Arm.C1

namespace Go.Proofs.YtfjjckepnkkgjaaGreatDoor.Arm.C1
open Go.Arm
def inflIv (p : Int × Int) : Int × Int := if entB p then p else newIv (p.1 - 1) (p.2 + 1)
def inflBox (b : Box) : Box := b.map inflIv
@[simp] theorem inflBox_len (b : Box) : (inflBox b).length = b.length := by simp [inflBox]
theorem ivB_range {p : Int × Int} (h : ivB p = true) : -2147483648 ≤ p.1 ∧ p.1 ≤ 2147483648 ∧ -2147483648 ≤ p.2 ∧ p.2 ≤ 2147483648 := by
  simp only [ivB, entB, numB, Bool.or_eq_true, Bool.and_eq_true, decide_eq_true_eq, beq_iff_eq] at h
  omega
theorem s42 (c : Cert) (b : Box) (hb : b.length ≤ 9223372036854775807) (H : AH) (k : Nat) (hk : H[k]? = some (.row true 3 [crt c])) :
    Sound E 109 [.slice (b.map iv) false, .ptr k 1 0 0] H (.ret (.bool (boxB b && b.length == c.fr.length))) H := by
  refine sound_of_awp tabOk mixed Tryz.func109 rfl (by rfl) Tryz.ntmps109 (by kernel_rfl) (by simp) ?_
  simp
  refine call_ret (s41 b hb _) ?_
  simp
  refine gateT (fun h => ?_) (fun h => ?_)
  · simp [h, hk]
    exact fin0 (rs := [.tmp 3]) (by rfl) (by simp [resA, h]; rw [Bool.eq_iff_iff]; simp; omega)
  · simp [h]
    exact fin0 (rs := [.tmp 3]) (by rfl) (by simp [resA, h])
def L16 (c d : Cert) (H : AH) (i : Nat) (fr : AFr) (H' : AH) : Prop :=
  fr 2 = .ptr H.length 1 0 0 ∧ fr 3 = .ptr (H.length + 1) 1 0 0 ∧ fr 5 = .int .i64 i ∧ i ≤ c.l.length ∧ c.l.take i = d.l.take i ∧ ∃ J, H' = H ++ J ∧ J[0]? = some (.row true 3 [crt c]) ∧ J[1]? = some (.row true 3 [crt d])
theorem cert_ext {c d : Cert} (h1 : c.t = d.t) (h2 : c.fr = d.fr) (h3 : c.l = d.l) : c = d := by cases c; cases d; simp only at h1 h2 h3; subst h1 h2 h3; rfl
set_option maxRecDepth 10000 in
theorem s16 (c d : Cert) (h1 : c.fr.length ≤ 9223372036854775807) (h2 : ∀ s ∈ c.l, s.pre.length ≤ 9223372036854775807 ∧ s.to.length ≤ 9223372036854775807) (h3 : c.l.length ≤ 9223372036854775807) (H : AH) :
    Sound E 45 [crt c, crt d] H (.ret (.bool (decide (c = d)))) H := by
  refine sound_of_awp tabOk mixed Tryz.func45 rfl (by rfl) Tryz.ntmps45 (by kernel_rfl) (by simp) ?_
  have ne : ∀ {q : Bool}, (c = d → q = true) → q = false → c ≠ d := fun h e e2 => by rw [h e2] at e; cases e
  simp
  refine gateF (fun ht => ?_) (fun ht => ?_)
  rotate_left
  · simp [ht]
    simp at ht
    exact fin1 (rs := [.tmp 4]) (by rfl) (by simp [resA]; rintro rfl; exact ht rfl) (by simp [noF])
  simp [ht]
  refine call_ret (s24 c.fr d.fr h1 _) ?_
  simp [ht]
  refine gateF (fun hf => ?_) (fun hf => ?_)
  rotate_left
  · simp [ht, hf]
    simp at hf
    exact fin1 (rs := [.tmp 4]) (by rfl) (by simp [resA]; rintro rfl; exact hf rfl) (by simp [noF])
  simp [ht, hf]
  have hfr : c.fr = d.fr := by simpa using hf
  have ht' : c.t = d.t := by simpa using ht
  refine branch (fun hc => ?_) (fun hc => ?_)
  · simp at hc
    simp
    exact fin1 (rs := [.tmp 4]) (by rfl) (by simp [resA]; rintro rfl; exact hc rfl) (by simp [noF])
  simp at hc
  simp
  refine loop_count (L16 c d H) (fun i => c.l.length - i) 0 ⟨by simp, by simp, by simp, by omega, by simp, _, rfl, by simp, by simp⟩ ?_
  rintro i fr H' ⟨g2, g3, g5, hi, heq, J, rfl, hJ0, hJ1⟩
  simp [g2, g3, g5, hJ0, hJ1]
  refine branch (fun hl => ?_) (fun hl => ?_)
  rotate_left
  · simp at hl
    simp
    exact fin1 (rs := [.tmp 4]) (by rfl) (by simp [resA]; exact cert_ext ht' hfr (take_end heq (by omega) (by omega))) (by simp [noF])
  simp at hl
  obtain ⟨p, hp⟩ := get_lt hl
  obtain ⟨q, hq⟩ := get_lt (l := d.l) (i := i) (by omega)
  have hpm := h2 p (List.mem_of_getElem? hp)
  have bad : p ≠ q → decide (c = d) = false := by
    intro h; simp only [decide_eq_false_iff_not]; rintro rfl; rw [hp] at hq; cases hq; exact h rfl
  simp [g2, g3, g5, hJ0, hJ1, hp, hq]
  refine gateF (fun e1 => ?_) (fun e1 => ?_)
  rotate_left
  · simp [e1]
    refine endD [] (by rfl) (by simp [okW, note, Eff.triv, Eff.wr, Eff.none, upTo, newAt]) ?_
    simp
    exact fin1 (rs := [.tmp 4]) (by rfl) (by rw [bad (by rintro rfl; simp at e1)]; simp [resA]) (by simp [noF])
  simp [e1, g2, g3, g5, hJ0, hJ1, hp, hq]
  refine gateF (fun e2 => ?_) (fun e2 => ?_)
  rotate_left
  · simp [e1, e2]
    refine endD [] (by rfl) (by simp [okW, note, Eff.triv, Eff.wr, Eff.none, upTo, newAt]) ?_
    simp
    exact fin1 (rs := [.tmp 4]) (by rfl) (by rw [bad (by rintro rfl; simp at e2)]; simp [resA]) (by simp [noF])
  simp [e1, e2, g2, g3, g5, hJ0, hJ1, hp, hq]
  refine callD_ret (fun Hx => s24 p.pre q.pre hpm.1 Hx) ?_
  simp [e1, e2]
  refine gateF (fun e3 => ?_) (fun e3 => ?_)
  rotate_left
  · simp [e1, e2, e3]
    refine endD [] (by rfl) (by simp [okW, note, Eff.triv, Eff.wr, Eff.none, upTo, newAt]) ?_
    simp
    exact fin1 (rs := [.tmp 4]) (by rfl) (by rw [bad (by rintro rfl; simp at e3)]; simp [resA]) (by simp [noF])
  simp [e1, e2, e3, g2, g3, g5, hJ0, hJ1, hp, hq]
  refine callD_ret (fun Hx => s24 p.to q.to hpm.2 Hx) ?_
  simp [e1, e2, e3]
  refine endD [] (by rfl) (by simp [okW, note, Eff.triv, Eff.wr, Eff.none, upTo, newAt]) ?_
  simp
  refine branch (fun e4 => ?_) (fun e4 => ?_)
  · simp
    exact fin1 (rs := [.tmp 4]) (by rfl) (by rw [bad (by rintro rfl; simp at e4)]; simp [resA]) (by simp [noF])
  · simp (disch := omega) [g5, wrap64]
    have : p = q := by
      simp at e1 e2 e3 e4
      cases p; cases q; simp only [Step.mk.injEq]; exact ⟨e1, e2, e3, e4⟩
    subst this
    exact ⟨i + 1, by dsimp only; omega, by simp [g2], by simp [g3], by simp, by omega, take_step heq hp hq, J, rfl, hJ0, hJ1⟩
end Go.Proofs.YtfjjckepnkkgjaaGreatDoor.Arm.C1

namespace Go.Proofs.YtfjjckepnkkgjaaGreatDoor.Arm.C1
open Go.Arm
def stepB (n : Nat) (t : Int) (s : Step) : Bool :=
  decide (1 ≤ s.h) && numB s.h && decide (0 ≤ s.o) && decide (s.o ≤ 7) && boxB s.pre && boxB s.to && (s.pre.length == n) && (s.to.length == n) && numB (t + s.h)
def stepsB (n : Nat) : Int → List Step → Bool
  | _, [] => true
  | t, s :: r => stepB n t s && stepsB n (t + s.h) r
def certB (c : Cert) : Bool := decide (1 ≤ c.l.length) && decide (c.l.length ≤ 256) && numB c.t && boxB c.fr && stepsB c.fr.length c.t c.l
theorem drop_at {α : Type} {l : List α} {i : Nat} {p : α} (h : l[i]? = some p) : l.drop i = p :: l.drop (i + 1) := by
  obtain ⟨hl, h⟩ := List.getElem?_eq_some_iff.1 h
  rw [List.drop_eq_getElem_cons hl, h]
theorem numB_range {a : Int} (h : numB a = true) : -2147483648 < a ∧ a < 2147483648 := by simpa [numB] using h
def L20 (c : Cert) (H : AH) (i : Nat) (fr : AFr) (H' : AH) : Prop :=
  fr 1 = .ptr H.length 1 0 0 ∧ fr 4 = .int .i64 i ∧ i ≤ c.l.length ∧ (∃ t, fr 3 = .int .i64 t ∧ numB t = true ∧ stepsB c.fr.length c.t c.l = stepsB c.fr.length t (c.l.drop i)) ∧ ∃ J, H' = H ++ J ∧ J[0]? = some (.row true 3 [crt c])
set_option maxRecDepth 10000 in
theorem s20 (c : Cert) (h1 : c.fr.length ≤ 9223372036854775807) (h2 : ∀ s ∈ c.l, s.pre.length ≤ 9223372036854775807 ∧ s.to.length ≤ 9223372036854775807) (H : AH) :
    Sound E 42 [crt c] H (.ret (.bool (certB c))) H := by
  refine sound_of_awp tabOk mixed Tryz.func42 rfl (by rfl) Tryz.ntmps42 (by kernel_rfl) (by simp) ?_
  simp
  refine gateF (fun g1 => ?_) (fun g1 => ?_)
  rotate_left
  · simp [g1]
    exact fin1 (rs := [.tmp 2]) (by rfl) (by rw [(show certB c = false by simp at g1; simp [certB]; (try intros); first | omega | simp_all | (simp_all; omega))]; simp [resA]) (by simp [noF])
  simp [g1]
  refine gateF (fun g2 => ?_) (fun g2 => ?_)
  rotate_left
  · simp [g2, g1]
    exact fin1 (rs := [.tmp 2]) (by rfl) (by rw [(show certB c = false by simp at g2; simp [certB]; (try intros); first | omega | simp_all | (simp_all; omega))]; simp [resA]) (by simp [noF])
  simp [g1, g2]
  refine call_ret (s38 c.t _) ?_
  simp [g1, g2]
  refine gateF (fun g3 => ?_) (fun g3 => ?_)
  rotate_left
  · simp [g3, g1, g2]
    exact fin1 (rs := [.tmp 2]) (by rfl) (by rw [(show certB c = false by simp at g3; simp [certB]; (try intros); first | omega | simp_all | (simp_all; omega))]; simp [resA]) (by simp [noF])
  simp [g1, g2, g3]
  refine call_ret (s39 c.fr h1 _) ?_
  simp [g1, g2, g3]
  refine branch (fun g4 => ?_) (fun g4 => ?_)
  · simp
    exact fin1 (rs := [.tmp 2]) (by rfl) (by rw [(show certB c = false by simp at g4; simp [certB]; (try intros); first | omega | simp_all | (simp_all; omega))]; simp [resA]) (by simp [noF])
  simp
  have f1 : 1 ≤ c.l.length := by simp at g1; omega
  have f2 : c.l.length ≤ 256 := by simp at g2; omega
  have f3 : numB c.t = true := by simpa using g3
  have f4 : boxB c.fr = true := by simpa using g4
  have cert : certB c = stepsB c.fr.length c.t c.l := by simp [certB, f1, f2, f3, f4]
  refine loop_count (L20 c H) (fun i => c.l.length - i) 0 ⟨by simp, by simp, by omega, ⟨c.t, by simp, f3, by simp⟩, _, rfl, by simp⟩ ?_
  rintro i fr H' ⟨k1, k4, hi, ⟨t, k3, ht, hs⟩, J, rfl, hJ⟩
  simp [k1, k4, hJ]
  refine branch (fun hl => ?_) (fun hl => ?_)
  rotate_left
  · simp at hl
    simp
    have : c.l.drop i = [] := List.drop_of_length_le (by omega)
    exact fin1 (rs := [.tmp 2]) (by rfl) (by rw [cert, hs, this]; simp [resA, stepsB]) (by simp [noF])
  simp at hl
  obtain ⟨p, hp⟩ := get_lt hl
  have hpm := h2 p (List.mem_of_getElem? hp)
  have bad : stepB c.fr.length t p = false → certB c = false := by
    intro h; rw [cert, hs, drop_at hp]; simp [stepsB, h]
  have o0 := old hJ
  simp [k1, k4, hJ, ↓o0, hp]
  refine gateF (fun e1 => ?_) (fun e1 => ?_)
  rotate_left
  · simp [e1, k1, k3, k4, hJ, ↓o0, hp]
    exact fin1 (rs := [.tmp 2]) (by rfl) (by rw [bad (by simp at e1; simp [stepB]; (try intros); first | omega | simp_all | (simp_all; omega))]; simp [resA]) (by simp [noF])
  simp [e1, k1, k3, k4, hJ, ↓o0, hp]
  refine call_ret (s38 p.h _) ?_
  simp [e1, k1, k3, k4, hJ, ↓o0, hp]
  refine gateF (fun e2 => ?_) (fun e2 => ?_)
  rotate_left
  · simp [e2, e1, k1, k3, k4, hJ, ↓o0, hp]
    exact fin1 (rs := [.tmp 2]) (by rfl) (by rw [bad (by simp at e2; simp [stepB]; (try intros); first | omega | simp_all | (simp_all; omega))]; simp [resA]) (by simp [noF])
  simp [e1, e2, k1, k3, k4, hJ, ↓o0, hp]
  refine gateF (fun e3 => ?_) (fun e3 => ?_)
  rotate_left
  · simp [e3, e1, e2, k1, k3, k4, hJ, ↓o0, hp]
    exact fin1 (rs := [.tmp 2]) (by rfl) (by rw [bad (by simp at e3; simp [stepB]; (try intros); first | omega | simp_all | (simp_all; omega))]; simp [resA]) (by simp [noF])
  simp [e1, e2, e3, k1, k3, k4, hJ, ↓o0, hp]
  refine gateF (fun e4 => ?_) (fun e4 => ?_)
  rotate_left
  · simp [e4, e1, e2, e3, k1, k3, k4, hJ, ↓o0, hp]
    exact fin1 (rs := [.tmp 2]) (by rfl) (by rw [bad (by simp at e4; simp [stepB]; (try intros); first | omega | simp_all | (simp_all; omega))]; simp [resA]) (by simp [noF])
  simp [e1, e2, e3, e4, k1, k3, k4, hJ, ↓o0, hp]
  refine call_ret (s39 p.pre hpm.1 _) ?_
  simp [e1, e2, e3, e4, k1, k3, k4, hJ, ↓o0, hp]
  refine gateF (fun e5 => ?_) (fun e5 => ?_)
  rotate_left
  · simp [e5, e1, e2, e3, e4, k1, k3, k4, hJ, ↓o0, hp]
    exact fin1 (rs := [.tmp 2]) (by rfl) (by rw [bad (by simp at e5; simp [stepB]; (try intros); first | omega | simp_all | (simp_all; omega))]; simp [resA]) (by simp [noF])
  simp [e1, e2, e3, e4, e5, k1, k3, k4, hJ, ↓o0, hp]
  refine call_ret (s39 p.to hpm.2 _) ?_
  simp [e1, e2, e3, e4, e5, k1, k3, k4, hJ, ↓o0, hp]
  refine gateF (fun e6 => ?_) (fun e6 => ?_)
  rotate_left
  · simp [e6, e1, e2, e3, e4, e5, k1, k3, k4, hJ, ↓o0, hp]
    exact fin1 (rs := [.tmp 2]) (by rfl) (by rw [bad (by simp at e6; simp [stepB]; (try intros); first | omega | simp_all | (simp_all; omega))]; simp [resA]) (by simp [noF])
  simp [e1, e2, e3, e4, e5, e6, k1, k3, k4, hJ, ↓o0, hp]
  refine gateF (fun e7 => ?_) (fun e7 => ?_)
  rotate_left
  · simp [e7, e1, e2, e3, e4, e5, e6, k1, k3, k4, hJ, ↓o0, hp]
    exact fin1 (rs := [.tmp 2]) (by rfl) (by rw [bad (by simp at e7; simp [stepB]; (try intros); first | omega | simp_all | (simp_all; omega))]; simp [resA]) (by simp [noF])
  simp [e1, e2, e3, e4, e5, e6, e7, k1, k3, k4, hJ, ↓o0, hp]
  refine branch (fun e8 => ?_) (fun e8 => ?_)
  · simp
    exact fin1 (rs := [.tmp 2]) (by rfl) (by rw [bad (by simp at e8; simp [stepB]; (try intros); first | omega | simp_all | (simp_all; omega))]; simp [resA]) (by simp [noF])
  have v1 : 1 ≤ p.h := by simp at e1; omega
  have v2 := numB_range (show numB p.h = true by simpa using e2)
  have v3 := numB_range ht
  have w1 : IntKind.i64.wrap (t + p.h) = t + p.h := wrap64 (by omega) (by omega)
  simp [k3, w1]
  refine call_ret (s38 _ _) ?_
  simp
  refine branch (fun e9 => ?_) (fun e9 => ?_)
  · simp
    exact fin1 (rs := [.tmp 2]) (by rfl) (by rw [bad (by simp at e9; simp [stepB]; (try intros); first | omega | simp_all | (simp_all; omega))]; simp [resA]) (by simp [noF])
  simp (disch := omega) [k4, wrap64]
  have good : stepB c.fr.length t p = true := by
    simp at e1 e2 e3 e4 e5 e6 e7 e8 e9
    simp [stepB]; (repeat' constructor) <;> first | assumption | omega
  exact ⟨i + 1, by dsimp only; omega, by simp [k1], by simp, by omega, ⟨t + p.h, by simp, by simpa using e9, by rw [hs, drop_at hp]; simp [stepsB, good]⟩, _, rfl, o0 _⟩
def L21 (c : Cert) (H : AH) (i : Nat) (fr : AFr) (H' : AH) : Prop :=
  fr 1 = .ptr H.length 1 0 0 ∧ fr 4 = .func (.func 109) [] [.ptr H.length 1 0 0] ∧ fr 33 = .slice (c.l.map stp) false ∧ fr 34 = .int .i64 c.l.length ∧ fr 35 = .int .i64 i ∧ i ≤ c.l.length ∧ (∃ t, fr 3 = .int .i64 t ∧ numB t = true ∧ stepsB c.fr.length c.t c.l = stepsB c.fr.length t (c.l.drop i)) ∧ ∃ J, H' = H ++ J ∧ J[0]? = some (.row true 3 [crt c])
set_option maxRecDepth 10000 in
theorem s21 (c : Cert) (h1 : c.fr.length ≤ 9223372036854775807) (h2 : ∀ s ∈ c.l, s.pre.length ≤ 9223372036854775807 ∧ s.to.length ≤ 9223372036854775807) (H : AH) :
    Sound E 79 [crt c] H (.ret (.bool (certB c))) H := by
  refine sound_of_awp tabOk mixed Tryz.func79 rfl (by rfl) Tryz.ntmps79 (by kernel_rfl) (by simp) ?_
  simp
  refine gateF (fun g1 => ?_) (fun g1 => ?_)
  rotate_left
  · simp [g1]
    exact fin1 (rs := [.tmp 2]) (by rfl) (by rw [(show certB c = false by simp at g1; simp [certB]; (try intros); first | omega | simp_all | (simp_all; omega))]; simp [resA]) (by simp [noF])
  simp [g1]
  refine gateF (fun g2 => ?_) (fun g2 => ?_)
  rotate_left
  · simp [g2, g1]
    exact fin1 (rs := [.tmp 2]) (by rfl) (by rw [(show certB c = false by simp at g2; simp [certB]; (try intros); first | omega | simp_all | (simp_all; omega))]; simp [resA]) (by simp [noF])
  simp [g1, g2]
  refine call_ret (s40 c.t _) ?_
  simp [g1, g2]
  refine gateF (fun g3 => ?_) (fun g3 => ?_)
  rotate_left
  · simp [g3, g1, g2]
    exact fin1 (rs := [.tmp 2]) (by rfl) (by rw [(show certB c = false by simp at g3; simp [certB]; (try intros); first | omega | simp_all | (simp_all; omega))]; simp [resA]) (by simp [noF])
  simp [g1, g2, g3]
  refine call_ret (s41 c.fr h1 _) ?_
  simp [g1, g2, g3]
  refine branch (fun g4 => ?_) (fun g4 => ?_)
  · simp
    exact fin1 (rs := [.tmp 2]) (by rfl) (by rw [(show certB c = false by simp at g4; simp [certB]; (try intros); first | omega | simp_all | (simp_all; omega))]; simp [resA]) (by simp [noF])
  simp
  have f1 : 1 ≤ c.l.length := by simp at g1; omega
  have f2 : c.l.length ≤ 256 := by simp at g2; omega
  have f3 : numB c.t = true := by simpa using g3
  have f4 : boxB c.fr = true := by simpa using g4
  have cert : certB c = stepsB c.fr.length c.t c.l := by simp [certB, f1, f2, f3, f4]
  refine loop_count (L21 c H) (fun i => c.l.length - i) 0 ⟨by simp, by simp, by simp, by simp, by simp, by omega, ⟨c.t, by simp, f3, by simp⟩, _, rfl, by simp⟩ ?_
  rintro i fr H' ⟨k1, k4, k33, k34, k35, hi, ⟨t, k3, ht, hs⟩, J, rfl, hJ⟩
  simp [k34, k35]
  refine branch (fun hl => ?_) (fun hl => ?_)
  rotate_left
  · simp at hl
    simp
    have : c.l.drop i = [] := List.drop_of_length_le (by omega)
    exact fin1 (rs := [.tmp 2]) (by rfl) (by rw [cert, hs, this]; simp [resA, stepsB]) (by simp [noF])
  simp at hl
  obtain ⟨p, hp⟩ := get_lt hl
  have hpm := h2 p (List.mem_of_getElem? hp)
  have bad : stepB c.fr.length t p = false → certB c = false := by
    intro h; rw [cert, hs, drop_at hp]; simp [stepsB, h]
  have o0 := old hJ
  simp [k1, k4, k33, k35, hJ, ↓o0, hp]
  refine gateF (fun e1 => ?_) (fun e1 => ?_)
  rotate_left
  · simp [e1, k1, k3, k4, k33, k34, k35, hJ, ↓o0, hp]
    exact fin1 (rs := [.tmp 2]) (by rfl) (by rw [bad (by simp at e1; simp [stepB]; (try intros); first | omega | simp_all | (simp_all; omega))]; simp [resA]) (by simp [noF])
  simp [e1, k1, k3, k4, k33, k34, k35, hJ, ↓o0, hp]
  refine call_ret (s40 p.h _) ?_
  simp [e1, k1, k3, k4, k33, k34, k35, hJ, ↓o0, hp]
  refine gateF (fun e2 => ?_) (fun e2 => ?_)
  rotate_left
  · simp [e2, e1, k1, k3, k4, k33, k34, k35, hJ, ↓o0, hp]
    exact fin1 (rs := [.tmp 2]) (by rfl) (by rw [bad (by simp at e2; simp [stepB]; (try intros); first | omega | simp_all | (simp_all; omega))]; simp [resA]) (by simp [noF])
  have v1 : 1 ≤ p.h := by simp at e1; omega
  have v2 := numB_range (show numB p.h = true by simpa using e2)
  have v3 := numB_range ht
  have w1 : IntKind.i64.wrap (t + p.h) = t + p.h := wrap64 (by omega) (by omega)
  simp [e1, e2, w1, k1, k3, k4, k33, k34, k35, hJ, ↓o0, hp]
  refine call_ret (s40 (t + p.h) _) ?_
  simp [e1, e2, w1, k1, k3, k4, k33, k34, k35, hJ, ↓o0, hp]
  refine gateF (fun e3 => ?_) (fun e3 => ?_)
  rotate_left
  · simp [e3, e1, e2, k1, k3, k4, k33, k34, k35, hJ, ↓o0, hp]
    exact fin1 (rs := [.tmp 2]) (by rfl) (by rw [bad (by simp at e3; simp [stepB]; (try intros); first | omega | simp_all | (simp_all; omega))]; simp [resA]) (by simp [noF])
  simp [e1, e2, e3, k1, k3, k4, k33, k34, k35, hJ, ↓o0, hp]
  refine call_ret (s31 p.o _) ?_
  simp [e1, e2, e3, k1, k3, k4, k33, k34, k35, hJ, ↓o0, hp]
  refine gateF (fun e4 => ?_) (fun e4 => ?_)
  rotate_left
  · simp [e4, e1, e2, e3, k1, k3, k4, k33, k34, k35, hJ, ↓o0, hp]
    exact fin1 (rs := [.tmp 2]) (by rfl) (by rw [bad (by simp at e4; simp [stepB]; (try intros); first | omega | simp_all | (simp_all; omega))]; simp [resA]) (by simp [noF])
  simp [e1, e2, e3, e4, k1, k3, k4, k33, k34, k35, hJ, ↓o0, hp]
  refine call_ret (s42 c p.pre hpm.1 _ H.length (by simp [↓o0])) ?_
  simp [e1, e2, e3, e4, k1, k3, k4, k33, k34, k35, hJ, ↓o0, hp]
  refine gateF (fun e5 => ?_) (fun e5 => ?_)
  rotate_left
  · simp [e5, e1, e2, e3, e4, k1, k3, k4, k33, k34, k35, hJ, ↓o0, hp]
    exact fin1 (rs := [.tmp 2]) (by rfl) (by rw [bad (by simp at e5; simp [stepB]; (try intros); first | omega | simp_all | (simp_all; omega))]; simp [resA]) (by simp [noF])
  simp [e1, e2, e3, e4, e5, k1, k3, k4, k33, k34, k35, hJ, ↓o0, hp]
  refine call_ret (s42 c p.to hpm.2 _ H.length (by simp [↓o0])) ?_
  simp [e1, e2, e3, e4, e5, k1, k3, k4, k33, k34, k35, hJ, ↓o0, hp]
  refine branch (fun e6 => ?_) (fun e6 => ?_)
  · simp
    exact fin1 (rs := [.tmp 2]) (by rfl) (by rw [bad (by simp at e6; simp [stepB]; (try intros); first | omega | simp_all | (simp_all; omega))]; simp [resA]) (by simp [noF])
  simp [k3, w1]
  have w2 : IntKind.i64.wrap ((i : Int) + 1) = i + 1 := wrap64 (by omega) (by omega)
  simp [k35, w2]
  have e3' : numB (t + p.h) = true := by simpa using e3
  have good : stepB c.fr.length t p = true := by
    simp at e1 e2 e3 e4 e5 e6
    simp [stepB]; (repeat' constructor) <;> first | assumption | omega | simp_all
  exact ⟨i + 1, by dsimp only; omega, by simp [k1], by simp [k4], by simp [k33], by simp [k34], by simp, by omega, ⟨t + p.h, by simp, e3', by rw [hs, drop_at hp]; simp [stepsB, good]⟩, _, rfl, o0 _⟩
end Go.Proofs.YtfjjckepnkkgjaaGreatDoor.Arm.C1

namespace Go.Proofs.YtfjjckepnkkgjaaGreatDoor.Arm.C1
open Go.Arm
def and7 (n : Int) : Int := andA .i64 n 7
def mag (n : Int) : Int := if n.tmod 65536 < -(n.tmod 65536) then -(n.tmod 65536) else n.tmod 65536
def zeroStep : Step := ⟨1, 0, [], []⟩
def madeStep (n : Nat) (s : Step) : Step := ⟨1 + mag s.h, and7 s.o, madeBox s.pre n, madeBox s.to n⟩
def madeStepAt (c : Cert) (n : Nat) (i : Nat) : Step := madeStep n (match c.l[i]? with
  | some s => s
  | none => zeroStep)
def madeSteps (c : Cert) (n k : Nat) : List Step := (List.range k).map (madeStepAt c n)
@[simp] theorem madeSteps_len (c : Cert) (n k : Nat) : (madeSteps c n k).length = k := by simp [madeSteps]
end Go.Proofs.YtfjjckepnkkgjaaGreatDoor.Arm.C1

namespace Go.Proofs.YtfjjckepnkkgjaaGreatDoor.Arm.C1
open Go.Arm
def segs (t : Int) (f : Box) : List Step → List Seg
  | [] => []
  | s :: r => ⟨t, s.h, f, s.pre, s.pre, s.to⟩ :: segs (t + s.h) s.to r
@[simp] theorem segs_len (t : Int) (f : Box) (l : List Step) : (segs t f l).length = l.length := by induction l generalizing t f with
  | nil => rfl
  | cons s r ih => simp [segs, ih]
def L22 (c : Cert) (H : AH) (i : Nat) (fr : AFr) (H' : AH) : Prop :=
  fr 13 = .slice (c.l.map stp) false ∧ fr 14 = .int .i64 c.l.length ∧ fr 15 = .int .i64 i ∧ i ≤ c.l.length ∧
  ∃ t f xs, fr 4 = .int .i64 t ∧ fr 5 = .slice (f.map iv) false ∧ numB t = true ∧ stepsB c.fr.length t (c.l.drop i) = true ∧ xs ++ segs t f (c.l.drop i) = segs c.t c.fr c.l ∧ xs.length = i ∧
  ∃ J, H' = H ++ J ∧ Acc H J (fr 3) 6 (xs.map sgm) .nilslice
set_option maxRecDepth 10000 in
theorem s22 (c : Cert) (hc : certB c = true) (H : AH) : Sound E 77 [crt c] H (.ret (.slice ((segs c.t c.fr c.l).map sgm) false)) H := by
  have hc' := hc
  simp only [certB, Bool.and_eq_true, decide_eq_true_eq] at hc'
  obtain ⟨⟨⟨⟨f1, f2⟩, f3⟩, f4⟩, f5⟩ := hc'
  refine sound_of_awp tabOk mixed Tryz.func77 rfl (by rfl) Tryz.ntmps77 (by kernel_rfl) (by simp) ?_
  simp
  refine endD [] (by rfl) (by simp [okW, note, Eff.triv, Eff.wr, Eff.none, upTo, newAt]) ?_
  simp
  refine loop_count (L22 c H) (fun i => c.l.length - i) 0 ⟨by simp, by simp, by simp, by omega, c.t, c.fr, [], by simp, by simp, f3, by simpa using f5, by simp, rfl, _, rfl, .inl ⟨rfl, by simp⟩⟩ ?_
  rintro i fr H' ⟨k13, k14, k15, hi, t, f, xs, k4, k5, ht, hs, hxs, hlen, J, rfl, hacc⟩
  simp [k14, k15]
  refine branch (fun hl => ?_) (fun hl => ?_)
  rotate_left
  · simp at hl
    simp
    have hd : c.l.drop i = [] := List.drop_of_length_le (by omega)
    rw [hd] at hxs
    have hxs : xs = segs c.t c.fr c.l := by simpa [segs] using hxs
    subst hxs
    exact finS (t := 2) (by rfl) (by simp) hacc rfl (by simp)
  simp at hl
  obtain ⟨p, hp⟩ := get_lt hl
  rw [drop_at hp] at hs hxs
  simp only [stepsB, stepB, Bool.and_eq_true, decide_eq_true_eq, beq_iff_eq] at hs
  obtain ⟨⟨⟨⟨⟨⟨⟨⟨⟨a1, a2⟩, a3⟩, a4⟩, a5⟩, a6⟩, a7⟩, a8⟩, a9⟩, hs⟩ := hs
  have r1 := numB_range a9
  have w1 : IntKind.i64.wrap (t + p.h) = t + p.h := wrap64 (by omega) (by omega)
  simp [k4, k5, k13, k15, hp]
  obtain ⟨v', J', hap, hacc', hold, hle, -⟩ := (hacc.len (L := [.row true 4 [stp p]])).push (T := tab) (t := 37) (x := .slice [sgm ⟨t, p.h, f, p.pre, p.pre, p.to⟩] true) (ys := [sgm ⟨t, p.h, f, p.pre, p.pre, p.to⟩]) (i := i37) (ie := i47) (e := 47) rfl rfl rfl rfl rfl (by simp [i47]) (by simp [i47]) (by simp [i47]; omega) (by simp; omega)
  have hJ : J'[J.length]? = some (.row true 4 [stp p]) := by
    refine hold J.length _ (by simp) ?_
    rintro n hn
    rcases hacc with ⟨_, h2⟩ | ⟨k, h2, h3⟩
    · rw [h2] at hn; cases hn
    · rw [h2] at hn
      simp only [AV.ref.injEq] at hn
      have := (List.getElem?_eq_some_iff.1 h3).1
      omega
  refine bind_some hap ?_
  simp [hJ, k4, w1]
  refine endD [] (by rfl) (by simp [okW, note, Eff.triv, Eff.wr, Eff.none, upTo, newAt]) ?_
  simp (disch := omega) [k15, wrap64]
  refine ⟨i + 1, by dsimp only; omega, by simp [k13], by simp [k14], by simp, by omega, t + p.h, p.to, xs ++ [⟨t, p.h, f, p.pre, p.pre, p.to⟩], by simp, by simp, a9, hs, ?_, by simp [hlen], J', rfl, ?_⟩
  · simpa [segs] using hxs
  · rw [List.map_append]; exact hacc'
end Go.Proofs.YtfjjckepnkkgjaaGreatDoor.Arm.C1

namespace Go.Proofs.YtfjjckepnkkgjaaGreatDoor.Arm.C1
open Go.Arm
def example_ (o : Int) : Cert := ⟨0, [(0, 1)], [⟨2, o, [(0, 3)], [(2, 3)]⟩]⟩
theorem s27 (o : Int) (H : AH) : Sound E 76 [.int .i64 o] H (.ret (crt (example_ o))) H := by
  refine sound_of_awp tabOk mixed Tryz.func76 rfl (by rfl) Tryz.ntmps76 (by kernel_rfl) (by simp) ?_
  simp
  exact finC (rs := [.cell 2 96]) (vs' := [crt (example_ o)]) (J' := _) (by rfl) (by simp [resA]; rfl) (by simp [example_]; rfl) (by simp [noFs, noF, example_]) (by simp [one])
def prefN (c : Cert) (n : Int) : Nat := (min (max n 1) c.l.length).toNat
def prefCert (c : Cert) (n : Int) : Cert := ⟨c.t, c.fr, c.l.take (prefN c n)⟩
theorem s25 (c : Cert) (n : Int) (H : AH) : Sound E 80 [crt c, .int .i64 n] H (.ret (crt (prefCert c n))) H := by
  refine sound_of_awp tabOk mixed Tryz.func80 rfl (by rfl) Tryz.ntmps80 (by kernel_rfl) (by simp) ?_
  have hk : (if (c.l.length : Int) < (if n < 1 then 1 else n) then (c.l.length : Int) else if n < 1 then 1 else n) = (prefN c n : Nat) := by
    unfold prefN; split <;> split <;> omega
  have hk2 : prefN c n ≤ c.l.length := by unfold prefN; omega
  simp [hk]
  refine bind_if (szOk_map fun x => rfl) ?_
  refine bind_if hk2 ?_
  simp
  refine endD [] (by rfl) (by simp [okW, note, Eff.triv, Eff.wr, Eff.none, upTo, newAt, upTo]) ?_
  simp
  have hm : List.take (prefN c n) (List.map stp c.l) = List.map stp (prefCert c n).l := by simp [prefCert, List.map_take]
  exact finC (rs := [.cell 4 96]) (vs' := [crt (prefCert c n)]) (J' := _) (by rfl) (by simp [resA]; rfl) (by simp [hm]; exact ⟨⟨rfl, rfl⟩, rfl⟩) (by simp [noFs, noF]) (by simp [one])
end Go.Proofs.YtfjjckepnkkgjaaGreatDoor.Arm.C1

namespace Go.Proofs.YtfjjckepnkkgjaaGreatDoor.Arm.C1
open Go.Arm
def bxs (s : Seg) : List Box := [s.fr, s.pre, s.tube, s.to]
def boxN (n : Nat) (b : Box) : Bool := b.length == n && boxB b
def segB (n : Nat) (t : Int) (s : Seg) : Bool := decide (1 ≤ s.h) && s.t == t && numB s.t && numB s.h && numB (s.t + s.h) && (bxs s).all (boxN n)
def flowsB (n : Nat) : Int → List Seg → Bool
  | _, [] => true
  | t, s :: r => segB n t s && flowsB n (s.t + s.h) r
def flowB (l : List Seg) : Bool := match l with
  | [] => false
  | s :: _ => decide (l.length ≤ 256) && flowsB s.fr.length s.t l
def slb (b : Box) : AV := .slice (b.map iv) false
@[simp] theorem slb_eq (b : Box) : slb b = .slice (b.map iv) false := rfl
theorem bxs_len (s : Seg) : (bxs s).length = 4 := rfl
def L23 (l : List Seg) (n : Nat) (t0 : Int) (H : AH) (i : Nat) (fr : AFr) (H' : AH) : Prop :=
  fr 0 = .slice (l.map sgm) false ∧ fr 20 = .slice (l.map sgm) false ∧ fr 21 = .int .i64 l.length ∧ fr 22 = .int .i64 i ∧ i ≤ l.length ∧ (∃ t, fr 3 = .int .i64 t ∧ flowsB n t0 l = flowsB n t (l.drop i)) ∧ ∃ J, H' = H ++ J
def M23 (l : List Seg) (n : Nat) (t : Int) (p : Seg) (H : AH) (i : Nat) (j : Nat) (fr : AFr) (H' : AH) : Prop :=
  fr 0 = .slice (l.map sgm) false ∧ fr 20 = .slice (l.map sgm) false ∧ fr 21 = .int .i64 l.length ∧ fr 22 = .int .i64 i ∧ fr 3 = .int .i64 t ∧ fr 69 = .agg ((bxs p).map slb) ∧ fr 70 = .int .i64 j ∧ j ≤ 4 ∧ ((bxs p).take j).all (boxN n) = true ∧ ∃ J, H' = H ++ J
set_option maxRecDepth 10000 in
theorem s23 (l : List Seg) (hl1 : l.length ≤ 9223372036854775807) (hs : ∀ s ∈ l, ∀ b ∈ bxs s, b.length ≤ 9223372036854775807) (H : AH) : Sound E 18 [.slice (l.map sgm) false] H (.ret (.bool (flowB l))) H := by
  refine sound_of_awp tabOk mixed Tryz.func18 rfl (by rfl) Tryz.ntmps18 (by kernel_rfl) (by simp) ?_
  simp
  refine gateF (fun g1 => ?_) (fun g1 => ?_)
  rotate_left
  · simp [g1]
    exact fin0 (rs := [.tmp 2]) (by rfl) (by have : l = [] := by simp at g1; exact List.length_eq_zero_iff.1 (by omega)
                                             subst this; simp [resA, flowB])
  simp [g1]
  obtain ⟨s0, r0, rfl⟩ : ∃ s0 r0, l = s0 :: r0 := by cases l with
    | nil => simp at g1
    | cons a b => exact ⟨a, b, rfl⟩
  generalize hl : s0 :: r0 = l at *
  have h0 : l[0]? = some s0 := by rw [← hl]; rfl
  have hfl : flowB l = (decide (l.length ≤ 256) && flowsB s0.fr.length s0.t l) := by rw [← hl]; rfl
  refine branch (fun g2 => ?_) (fun g2 => ?_)
  · simp
    exact fin0 (rs := [.tmp 2]) (by rfl) (by have : ¬ l.length ≤ 256 := by simp at g2; omega
                                             rw [hfl]; simp [resA, this])
  have f2 : l.length ≤ 256 := by simp at g2; omega
  have cert : flowB l = flowsB s0.fr.length s0.t l := by rw [hfl]; simp [f2]
  simp [h0]
  refine loop_count (L23 l s0.fr.length s0.t H) (fun i => l.length - i) 0 ⟨by simp, by simp, by simp, by simp, by omega, ⟨s0.t, by simp, by simp⟩, [], by simp⟩ ?_
  rintro i fr H' ⟨k0, k20, k21, k22, hi, ⟨t, k3, hfs⟩, J, rfl⟩
  simp [k21, k22]
  refine branch (fun hc => ?_) (fun hc => ?_)
  rotate_left
  · simp at hc
    simp
    have : l.drop i = [] := List.drop_of_length_le (by omega)
    exact fin1 (rs := [.tmp 2]) (by rfl) (by rw [cert, hfs, this]; simp [resA, flowsB]) (by simp [noF])
  simp at hc
  obtain ⟨p, hp⟩ := get_lt hc
  have hpb := hs p (List.mem_of_getElem? hp)
  have bad : segB s0.fr.length t p = false → flowB l = false := by
    intro h; rw [cert, hfs, drop_at hp]; simp [flowsB, h]
  simp [k20, k22, hp]
  refine gateF (fun e1 => ?_) (fun e1 => ?_)
  rotate_left
  · simp [e1, k3]
    exact fin1 (rs := [.tmp 2]) (by rfl) (by rw [bad (by simp at e1; simp [segB]; (try intros); first | omega | simp_all | (simp_all; omega))]; simp [resA]) (by simp [noF])
  simp [e1, k3]
  refine gateF (fun e2 => ?_) (fun e2 => ?_)
  rotate_left
  · simp [e2, e1, k3]
    exact fin1 (rs := [.tmp 2]) (by rfl) (by rw [bad (by simp at e2; simp [segB]; (try intros); first | omega | simp_all | (simp_all; omega))]; simp [resA]) (by simp [noF])
  simp [e1, e2, k3]
  refine call_ret (s43 p.t _) ?_
  simp [e1, e2, k3]
  refine gateF (fun e3 => ?_) (fun e3 => ?_)
  rotate_left
  · simp [e3, e1, e2, k3]
    exact fin1 (rs := [.tmp 2]) (by rfl) (by rw [bad (by simp at e3; simp [segB]; (try intros); first | omega | simp_all | (simp_all; omega))]; simp [resA]) (by simp [noF])
  simp [e1, e2, e3, k3]
  refine call_ret (s43 p.h _) ?_
  simp [e1, e2, e3, k3]
  refine gateF (fun e4 => ?_) (fun e4 => ?_)
  rotate_left
  · simp [e4, e1, e2, e3, k3]
    exact fin1 (rs := [.tmp 2]) (by rfl) (by rw [bad (by simp at e4; simp [segB]; (try intros); first | omega | simp_all | (simp_all; omega))]; simp [resA]) (by simp [noF])
  have v1 := numB_range (show numB p.t = true by simpa using e3)
  have v2 := numB_range (show numB p.h = true by simpa using e4)
  have w1 : IntKind.i64.wrap (p.t + p.h) = p.t + p.h := wrap64 (by omega) (by omega)
  simp [e1, e2, e3, e4, k3, w1]
  refine call_ret (s43 _ _) ?_
  simp [e1, e2, e3, e4, k3, w1]
  refine branch (fun e5 => ?_) (fun e5 => ?_)
  · simp
    exact fin1 (rs := [.tmp 2]) (by rfl) (by rw [bad (by simp at e5; simp [segB]; (try intros); first | omega | simp_all | (simp_all; omega))]; simp [resA]) (by simp [noF])
  simp [w1]
  refine loop_count (M23 l s0.fr.length (p.t + p.h) p H i) (fun j => 4 - j) 0 ⟨by simp [k0], by simp [k20], by simp [k21], by simp [k22], by simp, by simp [bxs], by simp, by omega, by simp, _, rfl⟩ ?_
  rintro j fr H' ⟨k0, k20, k21, k22, k3, k69, k70, hj, hall, J, rfl⟩
  simp [k70]
  refine branch (fun hjc => ?_) (fun hjc => ?_)
  · simp at hjc
    obtain ⟨b, hb⟩ := get_lt (l := bxs p) (i := j) (by rw [bxs_len]; omega)
    have hbl := hpb b (List.mem_of_getElem? hb)
    have badb : boxN s0.fr.length b = false → flowB l = false := fun h => bad (by simp [segB, all_not hb h])
    have hj4 : ((j : Int) < 4) := by omega
    simp [k69, k70, hb, k0, h0, hj4]
    refine gateF (fun e6 => ?_) (fun e6 => ?_)
    rotate_left
    · simp [e6]
      exact fin1 (rs := [.tmp 2]) (by rfl) (by rw [badb (by simp at e6; simp [boxN]; intro h; omega)]; simp [resA]) (by simp [noF])
    simp [e6]
    refine call_ret (s41 b hbl _) ?_
    simp [e6]
    refine branch (fun e7 => ?_) (fun e7 => ?_)
    · simp
      exact fin1 (rs := [.tmp 2]) (by rfl) (by rw [badb (by simp at e7; simp [boxN, e7])]; simp [resA]) (by simp [noF])
    simp (disch := omega) [k70, wrap64]
    have hbn : boxN s0.fr.length b = true := by simp at e6 e7; simp [boxN, e7]; omega
    exact ⟨j + 1, by dsimp only; omega, by simp [k0], by simp [k20], by simp [k21], by simp [k22], by simp [k3], by simp [k69], by simp, by omega, all_take hall hb hbn, J, rfl⟩
  · simp at hjc
    have hall' := all_end hall (by rw [bxs_len]; omega)
    simp (disch := omega) [k22, wrap64]
    have good : segB s0.fr.length t p = true := by
      simp at e1 e2 e3 e4 e5
      simp only [segB, Bool.and_eq_true, decide_eq_true_eq, beq_iff_eq]
      exact ⟨⟨⟨⟨⟨by omega, e2⟩, e3⟩, e4⟩, e5⟩, hall'⟩
    exact ⟨i + 1, by dsimp only; omega, by simp [k0], by simp [k20], by simp [k21], by simp, by omega, ⟨p.t + p.h, by simp [k3], by rw [hfs, drop_at hp]; simp [flowsB, good]⟩, _, rfl⟩
end Go.Proofs.YtfjjckepnkkgjaaGreatDoor.Arm.C1

namespace Go.Proofs.YtfjjckepnkkgjaaGreatDoor.Arm.C1
open Go.Arm
end Go.Proofs.YtfjjckepnkkgjaaGreatDoor.Arm.C1

namespace Go.Proofs.YtfjjckepnkkgjaaGreatDoor.Arm.C1
open Go.Arm
def toStep (o : Int) (s : Seg) : Step := ⟨s.h, o, s.pre, s.to⟩
def steps (o : Int) (l : List Seg) : List Step := l.map (toStep o)
theorem steps_succ {o : Int} {l : List Seg} {i : Nat} {p : Seg} (hp : l[i]? = some p) : steps o (l.take (i + 1)) = steps o (l.take i) ++ [toStep o p] := by
  unfold steps; rw [List.take_add_one, hp, List.map_append]; rfl
@[simp] theorem steps_len (o : Int) (l : List Seg) : (steps o l).length = l.length := by simp [steps]
def chainB : Box → List Seg → Bool
  | _, [] => true
  | f, s :: r => decide (s.fr = f) && chainB s.to r
def zeroCert : Cert := ⟨0, [], []⟩
def okFrom (l : List Seg) (o : Int) : Bool := flowB l && decide (0 ≤ o) && decide (o < 8) && (match l with
  | [] => false
  | s :: _ => chainB s.fr l)
def certOf (l : List Seg) (o : Int) : Cert := match l with
  | [] => zeroCert
  | s :: _ => ⟨s.t, s.fr, steps o l⟩
def fromSegs (l : List Seg) (o : Int) : AV := if okFrom l o then .tuple [crt (certOf l o), .bool true] else .tuple [crt zeroCert, .bool false]
def L14 (l : List Seg) (s0 : Seg) (o : Int) (H : AH) (i : Nat) (fr : AFr) (H' : AH) : Prop :=
  fr 1 = .int .i64 o ∧ fr 4 = .ptr H.length 1 0 0 ∧ fr 6 = .ptr (H.length + 1) 1 0 0 ∧ fr 32 = .slice (l.map sgm) false ∧ fr 33 = .int .i64 l.length ∧ fr 34 = .int .i64 i ∧ i ≤ l.length ∧
  (∃ f : Box, fr 7 = .slice (f.map iv) false ∧ chainB s0.fr l = chainB f (l.drop i)) ∧
  ∃ J v, H' = H ++ J ∧ J[0]? = some (.row true 3 [.agg [.int .i64 0, .nilslice, .nilslice]]) ∧ J[1]? = some (.row true 3 [.agg [.int .i64 s0.t, .slice (s0.fr.map iv) false, v]]) ∧
    Acc H J v 4 ((steps o (l.take i)).map stp) .nilslice ∧ (∀ j n, v = .ref (H.length + j) n → 2 ≤ j)
set_option maxRecDepth 10000 in
theorem s14 (l : List Seg) (o : Int) (hl1 : l.length ≤ 1000) (hs : ∀ s ∈ l, ∀ b ∈ bxs s, b.length ≤ 9223372036854775807) (H : AH) : Sound E 41 [.slice (l.map sgm) false, .int .i64 o] H (.ret (fromSegs l o)) H := by
  refine sound_of_awp tabOk mixed Tryz.func41 rfl (by rfl) Tryz.ntmps41 (by kernel_rfl) (by simp) ?_
  have die : okFrom l o = false → fromSegs l o = .tuple [crt zeroCert, .bool false] := fun h => by simp [fromSegs, h]
  simp
  refine call_ret (s23 l (by omega) hs _) ?_
  simp
  refine gateF (fun e1 => ?_) (fun e1 => ?_)
  rotate_left
  · simp [e1]
    simp at e1
    refine finC (rs := [.cell 4 96, .tmp 5]) (vs' := [crt zeroCert, .bool false]) (J' := _) (by rfl) (by simp [resA]; rfl) (by simp [zeroCert]; rfl) (by simp [noFs, noF]) ?_
    rw [die (by simp [okFrom, e1])]; rfl
  simp [e1]
  refine call_ret (s31 o _) ?_
  simp [e1]
  refine branch (fun e2 => ?_) (fun e2 => ?_)
  · simp
    refine finC (rs := [.cell 4 96, .tmp 5]) (vs' := [crt zeroCert, .bool false]) (J' := _) (by rfl) (by simp [resA]; rfl) (by simp [zeroCert]; rfl) (by simp [noFs, noF]) ?_
    rw [die (by simp at e2; simp [okFrom]; intros; omega)]; rfl
  have hf : flowB l = true := by simpa using e1
  have ho : 0 ≤ o ∧ o < 8 := by simpa using e2
  obtain ⟨s0, r0, rfl⟩ : ∃ s0 r0, l = s0 :: r0 := by cases l with
    | nil => simp [flowB] at hf
    | cons a b => exact ⟨a, b, rfl⟩
  have hok : okFrom (s0 :: r0) o = chainB s0.fr (s0 :: r0) := by simp [okFrom, hf, ho.1, ho.2]
  have hcert : certOf (s0 :: r0) o = ⟨s0.t, s0.fr, steps o (s0 :: r0)⟩ := rfl
  generalize hl : s0 :: r0 = l at *
  have h0 : l[0]? = some s0 := by rw [← hl]; rfl
  simp [h0]
  refine endD [(9, 10)] (by rfl) (by simp [okW, note, Eff.triv, Eff.wr, Eff.none, upTo, newAt, upTo, newAt]) ?_
  simp [h0]
  refine loop_count (L14 l s0 o H) (fun i => l.length - i) 0 ⟨by simp, by simp, by simp, by simp, by simp, by simp, by omega, ⟨s0.fr, by simp, by simp⟩, _, .nilslice, rfl, by simp, by simp, .inl ⟨by simp [steps], rfl⟩, fun j n h => by cases h⟩ ?_
  rintro i fr H' ⟨k1, k4, k6, k32, k33, k34, hi, ⟨f, k7, hch⟩, J, v, rfl, hJ0, hJ1, hacc, hv⟩
  have o0 := old hJ0
  have o1 := old hJ1
  have sg : ∀ X L, (J.set 0 X ++ L)[0]? = some X := fun X L => set_get' hJ0
  simp [k33, k34]
  refine branch (fun hc => ?_) (fun hc => ?_)
  rotate_left
  · simp at hc
    have hd : l.drop i = [] := List.drop_of_length_le (by omega)
    have ht : l.take i = l := List.take_of_length_le (by omega)
    rw [ht] at hacc
    rw [hd] at hch
    rcases hacc with ⟨hnil, -⟩ | ⟨k, rfl, hk⟩
    · rw [← hl] at hnil; simp [steps] at hnil
    have hk2 := hv k _ rfl
    simp [k4, k6, hJ0, hJ1]
    have hk0 : (J.set 0 (ABlk.row true 3 [.agg [.int .i64 s0.t, .slice (s0.fr.map iv) false, .ref (H.length + k) l.length]]))[k]? = some (.row true 4 ((steps o l).map stp)) := by
      rw [List.getElem?_set_ne (by omega)]; exact hk
    refine finC (rs := [.cell 4 96, .tmp 5]) (vs' := [crt (certOf l o), .bool true]) (J' := _) (by rfl) (by simp [resA, k4, set_get hJ0]; rfl) (by simp [hk0, hcert]; rfl) (by simp [noFs, noF]) ?_
    simp [fromSegs, hok, hch, chainB, one]
  simp at hc
  obtain ⟨p, hp⟩ := get_lt hc
  have hpb := hs p (List.mem_of_getElem? hp)
  simp [k7, k32, k34, hp]
  refine call_ret (s32 p.fr f (hpb p.fr (by simp [bxs])) _) ?_
  simp
  refine branch (fun e3 => ?_) (fun e3 => ?_)
  · simp [k4, ↓o0, olds hJ0]
    refine finC (rs := [.cell 4 96, .tmp 5]) (vs' := [crt zeroCert, .bool false]) (J' := _) (by rfl) (by simp [resA, k4, ↓sg]; rfl) (by simp [zeroCert]; rfl) (by simp [noFs, noF]) ?_
    rw [die (by rw [hok, hch, drop_at hp]; simp at e3; simp [chainB, e3])]; rfl
  simp at e3
  simp [k1, k6, ↓o1]
  obtain ⟨v', J', hap, hacc', hold, hle, hnew⟩ := (hacc.len (L := [.row true 6 [sgm p]])).push (T := tab) (t := 94) (x := .slice [stp (toStep o p)] true) (ys := [stp (toStep o p)]) (i := i94) (ie := i101) (e := 101) rfl rfl rfl rfl rfl (by simp [i101]) (by simp [i101]) (by simp [i101]; omega) (by simp; omega)
  have p0 : J'[0]? = J[0]? := (hold 0 _ (o0 _) fun n h => by have := hv 0 n h; omega).trans hJ0.symm
  have p1 : J'[1]? = J[1]? := (hold 1 _ (o1 _) fun n h => by have := hv 1 n h; omega).trans hJ1.symm
  have hv' : ∀ j n, v' = .ref (H.length + j) n → 2 ≤ j := by
    intro j n h
    rcases hnew j n h with ⟨m, hm⟩ | h2
    · exact hv j m hm
    · have := (List.getElem?_eq_some_iff.1 hJ1).1
      simp at h2; omega
  refine bind_some hap ?_
  rcases hacc' with ⟨h, _⟩ | ⟨k, rfl, hk⟩
  · simp at h
  have hk2 := hv' k _ rfl
  simp (disch := omega) [k6, ↓p1, hJ1, k34, wrap64]
  refine ⟨i + 1, by dsimp only; omega, by simp [k1], by simp [k4], by simp [k6], by simp [k32], by simp [k33], by simp, by omega, ⟨p.to, by simp, ?_⟩, _, _, rfl, ?_, set_get (p1.trans hJ1), .inr ⟨k, ?_, ?_⟩, fun j n h => by simp only [AV.ref.injEq] at h; omega⟩
  · rw [hch, drop_at hp]; simp [chainB, e3]
  · rw [List.getElem?_set_ne (by omega)]; exact p0.trans hJ0
  · simp; omega
  · rw [List.getElem?_set_ne (by omega), hk, steps_succ hp, List.map_append]; rfl
end Go.Proofs.YtfjjckepnkkgjaaGreatDoor.Arm.C1

namespace Go.Proofs.YtfjjckepnkkgjaaGreatDoor.Arm.C1
open Go.Arm
end Go.Proofs.YtfjjckepnkkgjaaGreatDoor.Arm.C1

namespace Go.Proofs.YtfjjckepnkkgjaaGreatDoor.Arm.C1
open Go.Arm
end Go.Proofs.YtfjjckepnkkgjaaGreatDoor.Arm.C1

namespace Go.Proofs.YtfjjckepnkkgjaaGreatDoor.Arm.C1
open Go.Arm
def vb (u : Nat) : List Int := if h : u < 128 then [(u : Int)] else ((u % 128 + 128 : Nat) : Int) :: vb (u / 128)
termination_by u
decreasing_by omega
def zig (v : Int) : Nat := if 0 ≤ v then (2 * v).toNat else (-2 * v - 1).toNat
def varint (v : Int) : List Int := vb (zig v)
theorem vb_small {u : Nat} (h : u < 128) : vb u = [(u : Int)] := by rw [vb, dif_pos h]
theorem vb_big {u : Nat} (h : ¬ u < 128) : vb u = ((u % 128 + 128 : Nat) : Int) :: vb (u / 128) := by rw [vb, dif_neg h]
theorem or128 : ∀ x : BitVec 8, (x ||| 128#8).toNat = x.toNat % 128 + 128 := by decide
theorem orByte (u : Nat) : orA .u8 (IntKind.u8.wrap u) 128 = ((u % 128 + 128 : Nat) : Int) := by
  have h1 : IntKind.u8.wrap (u : Int) = ((u % 256 : Nat) : Int) := by
    simp only [IntKind.wrap, IntKind.bits, IntKind.signed]; simp
  have h2 : (BitVec.ofInt 8 ((u % 256 : Nat) : Int)) = BitVec.ofNat 8 (u % 256) := BitVec.ofInt_natCast _ _
  have h3 : orA .u8 (IntKind.u8.wrap u) 128 = IntKind.u8.wrap (((BitVec.ofInt 8 ((u % 256 : Nat) : Int)) ||| 128#8).toNat : Int) := by
    rw [h1]; rfl
  rw [h3, h2, or128, BitVec.toNat_ofNat]
  rw [wrap8 (by omega) (by omega)]
  omega
theorem zig_pos {v : Int} (h0 : 0 ≤ v) (h1 : v < 4611686018427387904) : xorA .u64 (IntKind.u64.wrap (IntKind.i64.wrap (v * 2 ^ 1))) (IntKind.u64.wrap (v.fdiv (2 ^ 63))) = (zig v : Int) := by
  have e1 : IntKind.i64.wrap (v * 2 ^ 1) = 2 * v := by rw [show v * 2 ^ 1 = 2 * v by omega]; exact wrap64 (by omega) (by omega)
  have e2 : IntKind.u64.wrap (2 * v) = 2 * v := wrapu64 (by omega) (by omega)
  have e3 : v.fdiv (2 ^ 63) = 0 := by rw [Int.fdiv_eq_ediv_of_nonneg _ (by decide)]; exact Int.ediv_eq_zero_of_lt h0 (by omega)
  have e4 : IntKind.u64.wrap 0 = 0 := by decide
  obtain ⟨n, rfl⟩ := Int.eq_ofNat_of_zero_le h0
  rw [e1, e2, e3, e4]
  have h3 : xorA .u64 (2 * (n : Int)) 0 = IntKind.u64.wrap (((BitVec.ofInt 64 ((2 * n : Nat) : Int)) ^^^ 0#64).toNat : Int) := by
    rw [show (2 * (n : Int)) = ((2 * n : Nat) : Int) by omega]; rfl
  rw [h3, BitVec.ofInt_natCast, BitVec.xor_zero, BitVec.toNat_ofNat, Nat.mod_eq_of_lt (by omega), wrapu64 (by omega) (by omega)]
  unfold zig; rw [if_pos h0]; omega
theorem zig_neg {v : Int} (h0 : v < 0) (h1 : -4611686018427387904 ≤ v) : xorA .u64 (IntKind.u64.wrap (IntKind.i64.wrap (v * 2 ^ 1))) (IntKind.u64.wrap (v.fdiv (2 ^ 63))) = (zig v : Int) := by
  have e1 : IntKind.i64.wrap (v * 2 ^ 1) = 2 * v := by rw [show v * 2 ^ 1 = 2 * v by omega]; exact wrap64 (by omega) (by omega)
  have e2 : IntKind.u64.wrap (2 * v) = 18446744073709551616 + 2 * v := by
    simp only [IntKind.wrap, IntKind.bits, IntKind.signed]; simp; omega
  have e3 : v.fdiv (2 ^ 63) = -1 := by rw [Int.fdiv_eq_ediv_of_nonneg _ (by decide)]; omega
  have e4 : IntKind.u64.wrap (-1) = 18446744073709551615 := by decide
  rw [e1, e2, e3, e4]
  obtain ⟨n, hn⟩ := Int.eq_ofNat_of_zero_le (show 0 ≤ 18446744073709551616 + 2 * v by omega)
  have h3 : xorA .u64 (n : Int) 18446744073709551615 = IntKind.u64.wrap (((BitVec.ofInt 64 (n : Int)) ^^^ BitVec.allOnes 64).toNat : Int) := rfl
  rw [hn, h3, BitVec.ofInt_natCast, BitVec.xor_allOnes, BitVec.toNat_not, BitVec.toNat_ofNat, Nat.mod_eq_of_lt (by omega), wrapu64 (by omega) (by omega)]
  unfold zig; rw [if_neg (by omega)]; omega
end Go.Proofs.YtfjjckepnkkgjaaGreatDoor.Arm.C1

namespace Go.Proofs.YtfjjckepnkkgjaaGreatDoor.Arm.C1
open Go.Arm
theorem push_u8 {H : AH} {b : Nat} {wr : Bool} {bs : List Int} (hb : H[b]? = some (.row wr 1 (bs.map u8))) (x : Int) (hl : bs.length ≤ 1000000000) :
    appendA tab H 104 (.ref b bs.length) (.slice [.int .u8 x] true) = some (.ref b (bs ++ [x]).length, H.set b (.row wr 1 ((bs ++ [x]).map u8))) := by
  simp [appendA, growA, hb]
  omega
def L34 (H : AH) (b : Nat) (all : List Int) (wr : Bool) (u : Nat) (fr : AFr) (H' : AH) : Prop :=
  fr 5 = .int .u64 u ∧ ∃ bs, fr 0 = .ref b bs.length ∧ H' = H.set b (.row wr 1 (bs.map u8)) ∧ bs ++ vb u = all
theorem vb_pos (u : Nat) : 0 < (vb u).length := by
  by_cases h : u < 128
  · rw [vb_small h]; simp
  · rw [vb_big h]; simp
theorem s34 (H : AH) (b : Nat) (bs : List Int) (v : Int) (hv0 : -4611686018427387904 ≤ v) (hv1 : v < 4611686018427387904) (hb : H[b]? = some (.row true 1 (bs.map u8))) (hl : (bs ++ varint v).length ≤ 1000000000) :
    Sound E 88 [.ref b bs.length, .int .i64 v] H (.ret (.ref b (bs ++ varint v).length)) (H.set b (.row true 1 ((bs ++ varint v).map u8))) := by
  refine sound_of_awp tabOk mixed Tryz.func88 rfl (by rfl) Tryz.ntmps88 (by kernel_rfl) (by simp) ?_
  have hz : xorA .u64 (IntKind.u64.wrap (IntKind.i64.wrap (v * 2 ^ 1))) (IntKind.u64.wrap (v.fdiv (2 ^ 63))) = (zig v : Int) := by
    by_cases h : 0 ≤ v
    · exact zig_pos h hv1
    · exact zig_neg (by omega) hv0
  generalize hall : bs ++ varint v = all at *
  have hlt : b < H.length := (List.getElem?_eq_some_iff.1 hb).1
  simp
  refine loop_count (L34 H b all true) (fun u => u) (zig v) ⟨by simp [IntKind.bits]; simpa using hz, bs, by simp, (set_same hb).symm, hall⟩ ?_
  rintro u fr H' ⟨k5, xs, k0, rfl, hxs⟩
  simp [k5]
  have hpos := vb_pos u
  have hxl : xs.length ≤ 1000000000 := by rw [← hxs] at hl; simp at hl; omega
  have hg : (H.set b (.row true 1 (xs.map u8)))[b]? = some (.row true 1 (xs.map u8)) := List.getElem?_set_self hlt
  refine branch (fun hc => ?_) (fun hc => ?_)
  · have hc' : ¬ u < 128 := by simp at hc; omega
    rw [vb_big hc'] at hxs
    simp [k0, k5, orByte]
    refine bind_some (by simpa using push_u8 hg ((u % 128 + 128 : Nat) : Int) hxl) ?_
    simp [k5]
    refine ⟨u / 128, by dsimp only; omega, ?_, xs ++ [((u % 128 + 128 : Nat) : Int)], by simp, by simp, by simpa using hxs⟩
    simp [IntKind.bits]
    exact Int.fdiv_eq_ediv_of_nonneg _ (by decide)
  · have hc' : u < 128 := by simp at hc; omega
    rw [vb_small hc'] at hxs
    have w8 : IntKind.u8.wrap (u : Int) = u := wrap8 (by omega) (by omega)
    simp [k0, k5, w8]
    refine bind_some (by simpa using push_u8 hg (u : Int) hxl) ?_
    simp
    have hm : List.map u8 xs ++ [AV.int .u8 u] = List.map u8 all := by rw [← hxs]; simp
    have hn : xs.length + 1 = all.length := by rw [← hxs]; simp
    rw [hm, hn]
    exact finK (rs := [.tmp 4]) (by rfl) (by simp [resA]; rfl) rfl
theorem push_nil (H : AH) (x : Int) : appendA tab H 104 .nilslice (.slice [.int .u8 x] true) = some (.ref H.length 1, H ++ [.row true 1 [.int .u8 x]]) := by
  simp [appendA, growA, growNew]
def L34n (H : AH) (all : List Int) (u : Nat) (fr : AFr) (H' : AH) : Prop :=
  fr 5 = .int .u64 u ∧ ((fr 0 = .nilslice ∧ H' = H ∧ vb u = all) ∨ ∃ bs, fr 0 = .ref H.length bs.length ∧ H' = H ++ [.row true 1 (bs.map u8)] ∧ bs ++ vb u = all)
theorem s34n (H : AH) (v : Int) (hv0 : -4611686018427387904 ≤ v) (hv1 : v < 4611686018427387904) (hl : (varint v).length ≤ 1000000000) :
    Sound E 88 [.nilslice, .int .i64 v] H (.ret (.ref H.length (varint v).length)) (H ++ [.row true 1 ((varint v).map u8)]) := by
  refine sound_of_awp tabOk mixed Tryz.func88 rfl (by rfl) Tryz.ntmps88 (by kernel_rfl) (by simp) ?_
  have hz : xorA .u64 (IntKind.u64.wrap (IntKind.i64.wrap (v * 2 ^ 1))) (IntKind.u64.wrap (v.fdiv (2 ^ 63))) = (zig v : Int) := by
    by_cases h : 0 ≤ v
    · exact zig_pos h hv1
    · exact zig_neg (by omega) hv0
  generalize hall : varint v = all at *
  simp
  refine loop_count (L34n H all) (fun u => u) (zig v) ⟨by simp [IntKind.bits]; simpa using hz, .inl ⟨by simp, rfl, hall⟩⟩ ?_
  rintro u fr H' ⟨k5, hst⟩
  simp [k5]
  have hpos := vb_pos u
  refine branch (fun hc => ?_) (fun hc => ?_)
  · have hc' : ¬ u < 128 := by simp at hc; omega
    have hd : (u : Int).fdiv 128 = ((u / 128 : Nat) : Int) := Int.fdiv_eq_ediv_of_nonneg _ (by decide)
    rcases hst with ⟨k0, rfl, hxs⟩ | ⟨xs, k0, rfl, hxs⟩
    · rw [vb_big hc'] at hxs
      simp [k0, k5, orByte]
      refine bind_some (by simpa using push_nil H' ((u % 128 + 128 : Nat) : Int)) ?_
      simp [k5]
      refine ⟨u / 128, by dsimp only; omega, ?_, .inr ⟨[((u % 128 + 128 : Nat) : Int)], by simp, by simp, by simpa using hxs⟩⟩
      simp [IntKind.bits]
      exact Int.fdiv_eq_ediv_of_nonneg _ (by decide)
    · rw [vb_big hc'] at hxs
      have hxl : xs.length ≤ 1000000000 := by rw [← hxs] at hl; simp at hl; omega
      simp [k0, k5, orByte]
      refine bind_some (push_u8 (H := H ++ [.row true 1 (xs.map u8)]) (b := H.length) (wr := true) (bs := xs) (by simp) (((u % 128 + 128 : Nat) : Int)) hxl) ?_
      simp [k5]
      refine ⟨u / 128, by dsimp only; omega, ?_, .inr ⟨xs ++ [((u % 128 + 128 : Nat) : Int)], by simp, by simp, by simpa using hxs⟩⟩
      simp [IntKind.bits]
      exact Int.fdiv_eq_ediv_of_nonneg _ (by decide)
  · have hc' : u < 128 := by simp at hc; omega
    have w8 : IntKind.u8.wrap (u : Int) = u := wrap8 (by omega) (by omega)
    rcases hst with ⟨k0, rfl, hxs⟩ | ⟨xs, k0, rfl, hxs⟩
    · rw [vb_small hc'] at hxs
      simp [k0, k5, w8]
      refine bind_some (push_nil H' (u : Int)) ?_
      simp
      have hm : [AV.int .u8 u] = List.map u8 all := by rw [← hxs]; simp
      have hn : 1 = all.length := by rw [← hxs]; simp
      rw [hm, hn]
      exact finK (rs := [.tmp 4]) (by rfl) (by simp [resA]; rfl) rfl
    · rw [vb_small hc'] at hxs
      have hxl : xs.length ≤ 1000000000 := by rw [← hxs] at hl; simp at hl; omega
      simp [k0, k5, w8]
      refine bind_some (push_u8 (H := H ++ [.row true 1 (xs.map u8)]) (b := H.length) (wr := true) (bs := xs) (by simp) (u : Int) hxl) ?_
      simp
      have hm : List.map u8 xs ++ [AV.int .u8 u] = List.map u8 all := by rw [← hxs]; simp
      have hn : xs.length + 1 = all.length := by rw [← hxs]; simp
      rw [hm, hn]
      exact finK (rs := [.tmp 4]) (by rfl) (by simp [resA]; rfl) rfl
end Go.Proofs.YtfjjckepnkkgjaaGreatDoor.Arm.C1

namespace Go.Proofs.YtfjjckepnkkgjaaGreatDoor.Arm.C1
open Go.Arm
def boxBytes (b : Box) : List Int := b.flatMap fun p => varint p.1 ++ varint p.2
def rngI (v : Int) : Prop := -4611686018427387904 ≤ v ∧ v < 4611686018427387904
def L35 (H : AH) (b : Nat) (bs : List Int) (x : Box) (i : Nat) (fr : AFr) (H' : AH) : Prop :=
  fr 7 = .slice (x.map iv) false ∧ fr 8 = .int .i64 x.length ∧ fr 9 = .int .i64 i ∧ i ≤ x.length ∧ fr 0 = .ref b (bs ++ boxBytes (x.take i)).length ∧ ∃ J, H' = H.set b (.row true 1 ((bs ++ boxBytes (x.take i)).map u8)) ++ J
theorem boxBytes_succ {x : Box} {i : Nat} {p : Int × Int} (hp : x[i]? = some p) : boxBytes (x.take (i + 1)) = boxBytes (x.take i) ++ (varint p.1 ++ varint p.2) := by
  unfold boxBytes; rw [List.take_add_one, hp, List.flatMap_append]; simp
theorem boxBytes_le (x : Box) (i : Nat) : (boxBytes (x.take i)).length ≤ (boxBytes x).length := by
  have h : boxBytes x = boxBytes (x.take i) ++ boxBytes (x.drop i) := by unfold boxBytes; rw [← List.flatMap_append, List.take_append_drop]
  rw [h]; simp
set_option maxRecDepth 10000 in
theorem s35 (H : AH) (b : Nat) (bs : List Int) (x : Box) (hx : ∀ p ∈ x, rngI p.1 ∧ rngI p.2) (hxl : x.length ≤ 1000) (hb : H[b]? = some (.row true 1 (bs.map u8))) (hl : (bs ++ boxBytes x).length ≤ 1000000000) :
    Sound E 89 [.ref b bs.length, .slice (x.map iv) false] H (.ret (.ref b (bs ++ boxBytes x).length)) (H.set b (.row true 1 ((bs ++ boxBytes x).map u8))) := by
  refine sound_of_awp tabOk mixed Tryz.func89 rfl (by rfl) Tryz.ntmps89 (by kernel_rfl) (by simp) ?_
  have hlt : b < H.length := (List.getElem?_eq_some_iff.1 hb).1
  generalize hall : bs ++ boxBytes x = all at *
  simp
  refine loop_count (L35 H b bs x) (fun i => x.length - i) 0 ⟨by simp, by simp, by simp, by omega, by simp [boxBytes], [], by simp [boxBytes, (set_same hb)]⟩ ?_
  rintro i fr H' ⟨k7, k8, k9, hi, k0, J, rfl⟩
  generalize hcur : bs ++ boxBytes (x.take i) = cur at *
  have hg : (H.set b (.row true 1 (cur.map u8)))[b]? = some (.row true 1 (cur.map u8)) := List.getElem?_set_self hlt
  have hss : ∀ X, (H.set b (.row true 1 (cur.map u8))).set b X = H.set b X := fun X => by simp
  have hH1l : (H.set b (.row true 1 (cur.map u8))).length = H.length := by simp
  have hH1b : ∀ c : Nat, (H.set b (.row true 1 (cur.map u8)))[c]? = H[c]? ∨ ∃ k', (H.set b (.row true 1 (cur.map u8)))[c]? = some k' ∧ noFB H.length k' = true := set_blocks (by simp [noFB])
  have hdone : cur = all → H.set b (.row true 1 (cur.map u8)) = H.set b (.row true 1 (all.map u8)) := fun h => by rw [h]
  generalize hH1 : H.set b (.row true 1 (cur.map u8)) = H1 at *
  simp [k8, k9]
  refine branch (fun hc => ?_) (fun hc => ?_)
  rotate_left
  · simp at hc
    have ht : x.take i = x := List.take_of_length_le (by omega)
    rw [ht, hall] at hcur
    subst hcur
    simp
    rw [← hdone rfl]
    exact finU (rs := [.tmp 4]) (by rfl) (by simp [resA, k0]) hH1l hH1b (by simp [noF, hlt])
  simp at hc
  obtain ⟨p, hp⟩ := get_lt hc
  have hpr := hx p (List.mem_of_getElem? hp)
  have hbl := boxBytes_le x (i + 1)
  rw [boxBytes_succ hp] at hbl
  have hlen : cur.length + (varint p.1).length + (varint p.2).length ≤ 1000000000 := by
    rw [← hall] at hl; rw [← hcur]; simp at hl hbl ⊢; omega
  have hnext : bs ++ boxBytes (x.take (i + 1)) = (cur ++ varint p.1) ++ varint p.2 := by rw [boxBytes_succ hp, ← hcur]; simp
  have gs : ∀ X L, (H1.set b X ++ L)[H1.length]? = L[0]? := fun X L => by
    rw [List.getElem?_append_right (by simp)]; simp
  have gs' : ∀ X L n, (H1.set b X ++ L)[H1.length + n]? = L[n]? := fun X L n => by
    rw [List.getElem?_append_right (by simp)]; simp
  simp [k0, k7, k9, hp]
  refine callD_at (get_old hg) (fun Hx hHx => s34 Hx b cur p.1 hpr.1.1 hpr.1.2 hHx (by simp; omega)) ?_
  rw [set_old hg]
  generalize hc1 : cur ++ varint p.1 = c1 at *
  simp [↓gs, ↓gs']
  have hg2 : (H1.set b (.row true 1 (c1.map u8)))[b]? = some (.row true 1 (c1.map u8)) := set_get hg
  refine callD_at (get_old hg2) (fun Hx hHx => s34 Hx b c1 p.2 hpr.2.1 hpr.2.2 hHx (by rw [← hc1]; simp; omega)) ?_
  rw [set_old hg2]
  simp
  have hbH1 : b < H1.length := by omega
  refine endD [(3, 6)] (by rfl) (by simp [okW, note, Eff.triv, Eff.wr, Eff.none, upTo, newAt]; omega) ?_
  simp (disch := omega) [k9, wrap64]
  refine ⟨i + 1, by dsimp only; omega, by simp [k7], by simp [k8], by simp, by omega, ?_, J ++ [.row true 2 [iv p]], ?_⟩
  · rw [hnext]; simp
  · rw [hnext, hss]; simp
end Go.Proofs.YtfjjckepnkkgjaaGreatDoor.Arm.C1

namespace Go.Proofs.YtfjjckepnkkgjaaGreatDoor.Arm.C1
open Go.Arm
def stepBytes (s : Step) : List Int := varint s.h ++ varint s.o ++ boxBytes s.pre ++ boxBytes s.to
def stepsBytes (l : List Step) : List Int := l.flatMap stepBytes
def headBytes (c : Cert) : List Int := varint c.t ++ varint c.fr.length ++ boxBytes c.fr ++ varint c.l.length
def encB (c : Cert) : List Int := headBytes c ++ stepsBytes c.l
theorem stepsBytes_succ {l : List Step} {i : Nat} {p : Step} (hp : l[i]? = some p) : stepsBytes (l.take (i + 1)) = stepsBytes (l.take i) ++ stepBytes p := by
  unfold stepsBytes; rw [List.take_add_one, hp, List.flatMap_append]; simp
theorem stepsBytes_le (l : List Step) (i : Nat) : (stepsBytes (l.take i)).length ≤ (stepsBytes l).length := by
  have h : stepsBytes l = stepsBytes (l.take i) ++ stepsBytes (l.drop i) := by unfold stepsBytes; rw [← List.flatMap_append, List.take_append_drop]
  rw [h]; simp
def boxRng (x : Box) : Prop := x.length ≤ 1000 ∧ ∀ p ∈ x, rngI p.1 ∧ rngI p.2
def L17 (c : Cert) (H : AH) (i : Nat) (fr : AFr) (H' : AH) : Prop :=
  fr 24 = .slice (c.l.map stp) false ∧ fr 25 = .int .i64 c.l.length ∧ fr 26 = .int .i64 i ∧ i ≤ c.l.length ∧
  ∃ bs J, bs = headBytes c ++ stepsBytes (c.l.take i) ∧ fr 3 = .ref (H.length + 1) bs.length ∧ H' = H ++ (.row true 3 [crt c] :: .row true 1 (bs.map u8) :: J)
set_option maxRecDepth 10000 in
theorem s17 (c : Cert) (ht : rngI c.t) (hfr : boxRng c.fr) (hs : ∀ s ∈ c.l, rngI s.h ∧ rngI s.o ∧ boxRng s.pre ∧ boxRng s.to) (hl : c.l.length ≤ 1000) (hlen : (encB c).length ≤ 1000000000) (H : AH) :
    Sound E 44 [crt c] H (.ret (.slice ((encB c).map u8) false)) H := by
  refine sound_of_awp tabOk mixed Tryz.func44 rfl (by rfl) Tryz.ntmps44 (by kernel_rfl) (by simp) ?_
  have hh : (headBytes c).length ≤ 1000000000 := by unfold encB at hlen; simp at hlen; omega
  have hh2 : (varint c.t).length + (varint c.fr.length).length + (boxBytes c.fr).length + (varint c.l.length).length ≤ 1000000000 := by unfold headBytes at hh; simp at hh; omega
  generalize hall : encB c = all at *
  simp
  refine call_ret (s34n _ c.t ht.1 ht.2 (by omega)) ?_
  generalize hb1 : varint c.t = b1 at *
  simp
  refine call_ret (s34 _ (H.length + 1) b1 c.fr.length (by omega) (by have := hfr.1; omega) (by simp) (by simp; omega)) ?_
  generalize hb2 : b1 ++ varint c.fr.length = b2 at *
  simp
  refine call_ret (s35 _ (H.length + 1) b2 c.fr hfr.2 hfr.1 (by simp) (by rw [← hb2]; simp; omega)) ?_
  generalize hb3 : b2 ++ boxBytes c.fr = b3 at *
  simp
  refine call_ret (s34 _ (H.length + 1) b3 c.l.length (by omega) (by omega) (by simp) (by rw [← hb3, ← hb2]; simp; omega)) ?_
  generalize hb4 : b3 ++ varint c.l.length = b4 at *
  have hhead : b4 = headBytes c := by rw [← hb4, ← hb3, ← hb2, ← hb1]; rfl
  simp
  refine loop_count (L17 c H) (fun i => c.l.length - i) 0 ⟨by simp, by simp, by simp, by omega, b4, [], by simp [hhead, stepsBytes], by simp, by simp⟩ ?_
  rintro i fr H' ⟨k24, k25, k26, hi, bs, J, hbs, k3, rfl⟩
  simp [k25, k26]
  refine branch (fun hc => ?_) (fun hc => ?_)
  rotate_left
  · simp at hc
    have htk : c.l.take i = c.l := List.take_of_length_le (by omega)
    have : bs = all := by rw [hbs, htk, ← hall]; rfl
    subst this
    simp
    exact finC (rs := [.tmp 2]) (vs' := [.slice (bs.map u8) false]) (J' := _) (by rfl) (by simp [resA, k3]; rfl) (by simp; rfl) (by simp [noFs, noF]) rfl
  simp at hc
  obtain ⟨p, hp⟩ := get_lt hc
  obtain ⟨q1, q2, q3, q4⟩ := hs p (List.mem_of_getElem? hp)
  have hle := stepsBytes_le c.l (i + 1)
  rw [stepsBytes_succ hp] at hle
  have hsz : bs.length + (varint p.h).length + (varint p.o).length + (boxBytes p.pre).length + (boxBytes p.to).length ≤ 1000000000 := by
    rw [← hall] at hlen; unfold encB at hlen; rw [hbs]; simp [stepBytes] at hle hlen ⊢; omega
  have hnext : headBytes c ++ stepsBytes (c.l.take (i + 1)) = (((bs ++ varint p.h) ++ varint p.o) ++ boxBytes p.pre) ++ boxBytes p.to := by
    rw [stepsBytes_succ hp, hbs]; simp [stepBytes]
  simp [k3, k24, k26, hp]
  refine callD_at (k := .row true 1 (bs.map u8)) (by simp) (fun Hx hHx => s34 Hx (H.length + 1) bs p.h q1.1 q1.2 hHx (by simp; omega)) ?_
  generalize hb1' : bs ++ varint p.h = d1 at *
  simp
  refine callD_at (k := .row true 1 (d1.map u8)) (by simp) (fun Hx hHx => s34 Hx (H.length + 1) d1 p.o q2.1 q2.2 hHx (by rw [← hb1']; simp; omega)) ?_
  generalize hb2' : d1 ++ varint p.o = d2 at *
  simp
  refine endD [(3, 6)] (by rfl) (by simp [okW, note, Eff.triv, Eff.wr, Eff.none, upTo, newAt]; try omega) ?_
  simp
  refine callD_at (k := .row true 1 (d2.map u8)) (by simp) (fun Hx hHx => s35 Hx (H.length + 1) d2 p.pre q3.2 q3.1 hHx (by rw [← hb2', ← hb1']; simp; omega)) ?_
  generalize hb3' : d2 ++ boxBytes p.pre = d3 at *
  simp
  refine callD_at (k := .row true 1 (d3.map u8)) (by simp) (fun Hx hHx => s35 Hx (H.length + 1) d3 p.to q4.2 q4.1 hHx (by rw [← hb3', ← hb2', ← hb1']; simp; omega)) ?_
  generalize hb4' : d3 ++ boxBytes p.to = d4 at *
  simp
  refine endD [(3, 6)] (by rfl) (by simp [okW, note, Eff.triv, Eff.wr, Eff.none, upTo, newAt]; try omega) ?_
  simp (disch := omega) [k26, wrap64]
  exact ⟨i + 1, by dsimp only; omega, by simp [k24], by simp [k25], by simp, by omega, d4, J ++ [.row true 4 [stp p]], hnext.symm, by simp, by simp⟩
end Go.Proofs.YtfjjckepnkkgjaaGreatDoor.Arm.C1

namespace Go.Proofs.YtfjjckepnkkgjaaGreatDoor.Arm.C1
open Go.Arm
theorem and127all : ∀ x : BitVec 8, (x &&& 127#8).toNat = x.toNat % 128 := by decide
theorem and127 (x : Nat) (hx : x ≤ 255) : andA .u8 (x : Int) 127 = ((x % 128 : Nat) : Int) := by
  have h3 : andA .u8 (x : Int) 127 = IntKind.u8.wrap (((BitVec.ofInt 8 (x : Int)) &&& 127#8).toNat : Int) := rfl
  rw [h3, BitVec.ofInt_natCast, and127all, BitVec.toNat_ofNat, wrap8 (by omega) (by omega), Nat.mod_eq_of_lt (by omega : x < 2 ^ 8)]
theorem or_add (u a i : Nat) (hu : u < 2 ^ i) (ha : 2 ^ i * a + u < 18446744073709551616) : orA .u64 (u : Int) ((2 ^ i * a : Nat) : Int) = ((u + 2 ^ i * a : Nat) : Int) := by
  have h3 : orA .u64 (u : Int) ((2 ^ i * a : Nat) : Int) = IntKind.u64.wrap (((BitVec.ofInt 64 (u : Int)) ||| (BitVec.ofInt 64 ((2 ^ i * a : Nat) : Int))).toNat : Int) := rfl
  have e := Nat.two_pow_add_eq_or_of_lt hu a
  rw [h3, BitVec.ofInt_natCast, BitVec.ofInt_natCast, BitVec.toNat_or, BitVec.toNat_ofNat, BitVec.toNat_ofNat, Nat.mod_eq_of_lt (by omega), Nat.mod_eq_of_lt (by omega), Nat.or_comm, ← e, wrapu64 (by omega) (by omega)]
  omega
def unzig (u : Nat) : Int := if u % 2 = 0 then (u / 2 : Nat) else -((u / 2 : Nat) : Int) - 1
theorem and1 (v : Nat) (hv : v < 18446744073709551616) : andA .u64 (v : Int) 1 = ((v % 2 : Nat) : Int) := by
  have h3 : andA .u64 (v : Int) 1 = IntKind.u64.wrap (((BitVec.ofInt 64 (v : Int)) &&& 1#64).toNat : Int) := rfl
  rw [h3, BitVec.ofInt_natCast, BitVec.toNat_and, BitVec.toNat_ofNat, Nat.mod_eq_of_lt (by omega), show (1#64).toNat = 1 from rfl, Nat.and_one_is_mod, wrapu64 (by omega) (by omega)]
theorem unzig_xor (v : Nat) (hv : v < 18446744073709551616) : xorA .i64 ((v / 2 : Nat) : Int) (-((v % 2 : Nat) : Int)) = unzig v := by
  have h3 : ∀ b : Int, xorA .i64 ((v / 2 : Nat) : Int) b = IntKind.i64.wrap (((BitVec.ofInt 64 ((v / 2 : Nat) : Int)) ^^^ BitVec.ofInt 64 b).toNat : Int) := fun _ => rfl
  rw [h3, BitVec.ofInt_natCast]
  unfold unzig
  by_cases h : v % 2 = 0
  · rw [h, if_pos rfl]
    have : BitVec.ofInt 64 (-((0 : Nat) : Int)) = 0#64 := rfl
    rw [this, BitVec.xor_zero, BitVec.toNat_ofNat, Nat.mod_eq_of_lt (by omega), wrap64 (by omega) (by omega)]
  · have h1 : v % 2 = 1 := by omega
    rw [h1, if_neg (by omega)]
    have : BitVec.ofInt 64 (-((1 : Nat) : Int)) = BitVec.allOnes 64 := rfl
    rw [this, BitVec.xor_allOnes, BitVec.toNat_not, BitVec.toNat_ofNat, Nat.mod_eq_of_lt (by omega)]
    simp only [IntKind.wrap, IntKind.bits, IntKind.signed]
    simp
    split <;> omega
theorem zfin (v : Nat) (hv : v < 18446744073709551616) : xorA .i64 (IntKind.i64.wrap ((v : Int).fdiv (2 ^ min 1 IntKind.u64.bits))) (IntKind.i64.wrap (-IntKind.i64.wrap (andA .u64 (v : Int) 1))) = unzig v := by
  have h1 : (v : Int).fdiv (2 ^ min 1 IntKind.u64.bits) = ((v / 2 : Nat) : Int) := by
    rw [show (2 : Int) ^ min 1 IntKind.u64.bits = 2 from rfl, Int.fdiv_eq_ediv_of_nonneg _ (by omega)]; omega
  rw [h1, and1 v hv, wrap64 (n := ((v % 2 : Nat) : Int)) (by omega) (by omega), wrap64 (by omega) (by omega), wrap64 (by omega) (by omega), unzig_xor v hv]
theorem zend {u n i : Nat} (hbd : 2 ^ (7 * i) * n + u < 18446744073709551616) (hn : (n : Int) % 128 = n) : xorA .i64 (IntKind.i64.wrap (((u : Int) + 2 ^ (7 * i) * ((n : Int) % 128)).fdiv (2 ^ min 1 IntKind.u64.bits))) (IntKind.i64.wrap (-IntKind.i64.wrap (andA .u64 ((u : Int) + 2 ^ (7 * i) * ((n : Int) % 128)) 1))) = unzig (u + 2 ^ (7 * i) * n) := by
  have e : ((u : Int) + 2 ^ (7 * i) * ((n : Int) % 128)) = ((u + 2 ^ (7 * i) * n : Nat) : Int) := by rw [hn]; push_cast; rfl
  rw [e]
  exact zfin _ (by omega)
end Go.Proofs.YtfjjckepnkkgjaaGreatDoor.Arm.C1

namespace Go.Proofs.YtfjjckepnkkgjaaGreatDoor.Arm.C1
open Go.Arm
def decGo (i u : Nat) : List Int → Except Int (Int × List Int)
  | [] => .error 271
  | x :: r =>
    if i = 9 ∧ 1 < x then .error 272
    else if x < 128 then (if x = 0 ∧ 0 < i then .error 272 else .ok (unzig (u + x.toNat % 128 * 128 ^ i), r))
    else decGo (i + 1) (u + x.toNat % 128 * 128 ^ i) r
def decVar (bs : List Int) : Except Int (Int × List Int) := decGo 0 0 bs
def D (bs : List Int) : ABlk := .row true 1 [.agg [.slice (bs.map u8) false]]
theorem D_eq (bs : List Int) : D bs = .row true 1 [.agg [.slice (bs.map u8) false]] := rfl
def endOf {α : Type} (f : α → AV) : Except Int (α × List Int) → AEnd
  | .ok p => .ret (f p.1)
  | .error e => .panic (.iface 38 (.int .i64 e))
def memOf {α : Type} (H : AH) (b : Nat) : Except Int (α × List Int) → AH
  | .ok p => H.set b (D p.2)
  | .error _ => H
def byteL (bs : List Int) : Prop := ∀ x ∈ bs, 0 ≤ x ∧ x ≤ 255
theorem dec_bound (i n u : Nat) (hi : i ≤ 9) (hu : u < 128 ^ i) (h : i = 9 → n ≤ 1) (hn : n ≤ 255) : 2 ^ (7 * i) * (n % 128) + u < 18446744073709551616 := by
  have : i = 0 ∨ i = 1 ∨ i = 2 ∨ i = 3 ∨ i = 4 ∨ i = 5 ∨ i = 6 ∨ i = 7 ∨ i = 8 ∨ i = 9 := by omega
  rcases this with rfl | rfl | rfl | rfl | rfl | rfl | rfl | rfl | rfl | rfl <;> simp at hu h ⊢ <;> omega
def L56 (H : AH) (b : Nat) (bs : List Int) (i : Nat) (fr : AFr) (H' : AH) : Prop :=
  fr 0 = .ptr b 1 0 0 ∧ fr 9 = .slice (bs.map u8) false ∧ fr 10 = .int .i64 bs.length ∧ fr 11 = .int .i64 i ∧ i ≤ bs.length ∧ i ≤ 9 ∧ (∃ u : Nat, fr 3 = .int .u64 u ∧ u < 128 ^ i ∧ decVar bs = decGo i u (bs.drop i)) ∧ H' = H
theorem s56 (H : AH) (b : Nat) (bs : List Int) (hb : H[b]? = some (D bs)) (hbs : byteL bs) (hl : bs.length ≤ 1000000000) :
    Sound E 136 [.ptr b 1 0 0] H (endOf (.int .i64) (decVar bs)) (memOf H b (decVar bs)) := by
  refine sound_of_awp tabOk mixed Tryz.func136 rfl (by rfl) Tryz.ntmps136 (by kernel_rfl) (by simp) ?_
  generalize hend : endOf (AV.int .i64) (decVar bs) = en
  generalize hmem : memOf H b (decVar bs) = mm
  simp [D_eq] at hb
  simp [hb]
  refine loop_count (L56 H b bs) (fun i => bs.length - i) 0 ⟨by simp, by simp, by simp, by simp, by omega, by omega, ⟨0, by simp, by simp, by simp [decVar]⟩, rfl⟩ ?_
  rintro i fr H' ⟨k0, k9, k10, k11, hi, hi9, ⟨u, k3, hu, hdec⟩, rfl⟩
  simp [k10, k11]
  refine branch (fun hc => ?_) (fun hc => ?_)
  rotate_left
  · simp at hc
    rw [List.drop_of_length_le (by omega)] at hdec
    simp only [decGo] at hdec
    rw [hdec] at hend hmem
    subst hend hmem
    simp [endOf, memOf]
    exact finP0
  simp at hc
  obtain ⟨x, hx⟩ := get_lt hc
  have hxb := hbs x (List.mem_of_getElem? hx)
  obtain ⟨n, rfl⟩ := Int.eq_ofNat_of_zero_le hxb.1
  have hn : n ≤ 255 := by omega
  rw [drop_at hx] at hdec
  have wM : IntKind.i64.wrap (7 * (i : Int)) = ((7 * i : Nat) : Int) := (wrap64 (by omega) (by omega)).trans (by omega)
  have wA := and127 n hn
  have wB : IntKind.u64.wrap ((n % 128 : Nat) : Int) = ((n % 128 : Nat) : Int) := wrapu64 (by omega) (by omega)
  have wC : IntKind.i64.wrap (i : Int) = (i : Int) := wrap64 (by omega) (by omega)
  have wI : IntKind.i64.wrap ((i : Int) + 1) = ((i + 1 : Nat) : Int) := (wrap64 (by omega) (by omega)).trans (by omega)
  have common : ¬ (i = 9 ∧ (1 : Int) < (n : Int)) → 2 ^ (7 * i) * (n % 128) + u < 18446744073709551616 ∧ IntKind.u64.wrap (((n % 128 : Nat) : Int) * 2 ^ min (7 * i) 64) = ((2 ^ (7 * i) * (n % 128) : Nat) : Int) ∧
      orA .u64 (u : Int) ((2 ^ (7 * i) * (n % 128) : Nat) : Int) = ((u + 2 ^ (7 * i) * (n % 128) : Nat) : Int) := by
    intro hno
    have hbd := dec_bound i n u hi9 hu (by omega) hn
    refine ⟨hbd, ?_, or_add u (n % 128) (7 * i) (by rw [Nat.pow_mul]; exact hu) hbd⟩
    rw [Nat.min_eq_left (by omega)]
    have e : (((n % 128 : Nat) : Int) * 2 ^ (7 * i)) = ((2 ^ (7 * i) * (n % 128) : Nat) : Int) := by push_cast; rw [Int.mul_comm]
    rw [e]; exact wrapu64 (by omega) (by omega)
  have hp7 : 2 ^ (7 * i) = 128 ^ i := by rw [Nat.pow_mul]
  simp [k9, k11, hx]
  refine gateT (fun e9 => ?_) (fun e9 => ?_)
  · have hi9' : i = 9 := by simp at e9; omega
    simp [e9]
    refine branch (fun e1 => ?_) (fun e1 => ?_)
    · simp at e1
      have : decVar bs = .error 272 := by rw [hdec]; simp only [decGo]; rw [if_pos ⟨hi9', by omega⟩]
      rw [this] at hend hmem
      subst hend hmem
      simp [endOf, memOf]
      exact finP0
    simp at e1
    have hno : ¬ (i = 9 ∧ (1 : Int) < (n : Int)) := by omega
    obtain ⟨hbd, wS, wO⟩ := common hno
    simp [k3]
    refine bind_some (v := .int .u64 ((2 ^ (7 * i) * (n % 128) : Nat) : Int)) (H := H') (by
      rw [wM, wA, wB, if_neg (by omega), Int.toNat_natCast, show IntKind.u64.bits = 64 from rfl, wS]) ?_
    simp only [lockR_go]
    simp [k3, -Int.natCast_mul, -Int.natCast_pow]
    rw [wO]
    refine branch (fun ex => ?_) (fun ex => ?_)
    rotate_left
    · simp at ex
      simp [k11]
      rw [wI]
      refine ⟨i + 1, by dsimp only; omega, by simp [k0], by simp [k9], by simp [k10], by simp, by omega, ?_, ⟨u + 2 ^ (7 * i) * (n % 128), by simp, ?_, ?_⟩, rfl⟩
      · omega
      · have h1 : u + 2 ^ (7 * i) * (n % 128) < 2 ^ (7 * i) + 2 ^ (7 * i) * 127 := by
          have := Nat.mul_le_mul_left (2 ^ (7 * i)) (show n % 128 ≤ 127 by omega)
          omega
        rw [Nat.pow_succ, ← hp7]; omega
      · rw [hdec]
        simp only [decGo]
        rw [if_neg hno, if_neg (by omega), Int.toNat_natCast, hp7, Nat.mul_comm]
    simp at ex
    have hnm : n % 128 = n := Nat.mod_eq_of_lt (by omega)
    simp
    refine gateT (fun ez => ?_) (fun ez => ?_)
    · simp [ez, k11]
      refine branch (fun e0 => ?_) (fun e0 => ?_)
      · simp at e0 ez
        have : decVar bs = .error 272 := by rw [hdec]; simp only [decGo]; rw [if_neg hno, if_pos (by omega), if_pos (by omega)]
        rw [this] at hend hmem
        subst hend hmem
        simp [endOf, memOf]
        exact finP0
      · simp at e0 ez
        have hd : decVar bs = .ok (unzig (u + 2 ^ (7 * i) * n), bs.drop (i + 1)) := by
          rw [hdec]; simp only [decGo]; rw [if_neg hno, if_pos (by omega), if_neg (by omega), Int.toNat_natCast, hnm, hp7, Nat.mul_comm]
        rw [hnm] at hbd
        rw [hd] at hend hmem
        subst hend hmem
        simp [k0, hb, k11]
        refine bind_some (v := .slice ((bs.drop (i + 1)).map u8) false) (H := H') (by
          rw [if_pos (szOk_map (fun _ => rfl)), wI, if_pos (by omega), Int.toNat_natCast, List.take_of_length_le (by simp), List.map_drop]) ?_
        simp only [lockR_go]
        simp [k0, hb]
        simp only [endOf, memOf, D_eq, List.map_drop]
        refine finK (rs := [.tmp 2]) (vs := [.int .i64 (unzig (u + 2 ^ (7 * i) * n))]) (by rfl) ?_ rfl
        simp [resA]
        exact zend hbd (by omega)
    · have ez' := ez
      simp at ez
      have hd : decVar bs = .ok (unzig (u + 2 ^ (7 * i) * n), bs.drop (i + 1)) := by
        rw [hdec]; simp only [decGo]; rw [if_neg hno, if_pos (by omega), if_neg (by omega), Int.toNat_natCast, hnm, hp7, Nat.mul_comm]
      rw [hnm] at hbd
      rw [hd] at hend hmem
      subst hend hmem
      simp [ez', k0, hb, k11]
      refine bind_some (v := .slice ((bs.drop (i + 1)).map u8) false) (H := H') (by
        rw [if_pos (szOk_map (fun _ => rfl)), wI, if_pos (by omega), Int.toNat_natCast, List.take_of_length_le (by simp), List.map_drop]) ?_
      simp only [lockR_go]
      simp [k0, hb]
      simp only [endOf, memOf, D_eq, List.map_drop]
      refine finK (rs := [.tmp 2]) (vs := [.int .i64 (unzig (u + 2 ^ (7 * i) * n))]) (by rfl) ?_ rfl
      simp [resA]
      exact zend hbd (by omega)
  · have e9' : i ≠ 9 := by simp at e9; omega
    simp [e9]
    have hno : ¬ (i = 9 ∧ (1 : Int) < (n : Int)) := by omega
    obtain ⟨hbd, wS, wO⟩ := common hno
    simp [k3]
    refine bind_some (v := .int .u64 ((2 ^ (7 * i) * (n % 128) : Nat) : Int)) (H := H') (by
      rw [wM, wA, wB, if_neg (by omega), Int.toNat_natCast, show IntKind.u64.bits = 64 from rfl, wS]) ?_
    simp only [lockR_go]
    simp [k3, -Int.natCast_mul, -Int.natCast_pow]
    rw [wO]
    refine branch (fun ex => ?_) (fun ex => ?_)
    rotate_left
    · simp at ex
      simp [k11]
      rw [wI]
      refine ⟨i + 1, by dsimp only; omega, by simp [k0], by simp [k9], by simp [k10], by simp, by omega, ?_, ⟨u + 2 ^ (7 * i) * (n % 128), by simp, ?_, ?_⟩, rfl⟩
      · omega
      · have h1 : u + 2 ^ (7 * i) * (n % 128) < 2 ^ (7 * i) + 2 ^ (7 * i) * 127 := by
          have := Nat.mul_le_mul_left (2 ^ (7 * i)) (show n % 128 ≤ 127 by omega)
          omega
        rw [Nat.pow_succ, ← hp7]; omega
      · rw [hdec]
        simp only [decGo]
        rw [if_neg hno, if_neg (by omega), Int.toNat_natCast, hp7, Nat.mul_comm]
    simp at ex
    have hnm : n % 128 = n := Nat.mod_eq_of_lt (by omega)
    simp
    refine gateT (fun ez => ?_) (fun ez => ?_)
    · simp [ez, k11]
      refine branch (fun e0 => ?_) (fun e0 => ?_)
      · simp at e0 ez
        have : decVar bs = .error 272 := by rw [hdec]; simp only [decGo]; rw [if_neg hno, if_pos (by omega), if_pos (by omega)]
        rw [this] at hend hmem
        subst hend hmem
        simp [endOf, memOf]
        exact finP0
      · simp at e0 ez
        have hd : decVar bs = .ok (unzig (u + 2 ^ (7 * i) * n), bs.drop (i + 1)) := by
          rw [hdec]; simp only [decGo]; rw [if_neg hno, if_pos (by omega), if_neg (by omega), Int.toNat_natCast, hnm, hp7, Nat.mul_comm]
        rw [hnm] at hbd
        rw [hd] at hend hmem
        subst hend hmem
        simp [k0, hb, k11]
        refine bind_some (v := .slice ((bs.drop (i + 1)).map u8) false) (H := H') (by
          rw [if_pos (szOk_map (fun _ => rfl)), wI, if_pos (by omega), Int.toNat_natCast, List.take_of_length_le (by simp), List.map_drop]) ?_
        simp only [lockR_go]
        simp [k0, hb]
        simp only [endOf, memOf, D_eq, List.map_drop]
        refine finK (rs := [.tmp 2]) (vs := [.int .i64 (unzig (u + 2 ^ (7 * i) * n))]) (by rfl) ?_ rfl
        simp [resA]
        exact zend hbd (by omega)
    · have ez' := ez
      simp at ez
      have hd : decVar bs = .ok (unzig (u + 2 ^ (7 * i) * n), bs.drop (i + 1)) := by
        rw [hdec]; simp only [decGo]; rw [if_neg hno, if_pos (by omega), if_neg (by omega), Int.toNat_natCast, hnm, hp7, Nat.mul_comm]
      rw [hnm] at hbd
      rw [hd] at hend hmem
      subst hend hmem
      simp [ez', k0, hb, k11]
      refine bind_some (v := .slice ((bs.drop (i + 1)).map u8) false) (H := H') (by
        rw [if_pos (szOk_map (fun _ => rfl)), wI, if_pos (by omega), Int.toNat_natCast, List.take_of_length_le (by simp), List.map_drop]) ?_
      simp only [lockR_go]
      simp [k0, hb]
      simp only [endOf, memOf, D_eq, List.map_drop]
      refine finK (rs := [.tmp 2]) (vs := [.int .i64 (unzig (u + 2 ^ (7 * i) * n))]) (by rfl) ?_ rfl
      simp [resA]
      exact zend hbd (by omega)
end Go.Proofs.YtfjjckepnkkgjaaGreatDoor.Arm.C1

namespace Go.Proofs.YtfjjckepnkkgjaaGreatDoor.Arm.C1
open Go.Arm
abbrev Rd (α : Type) := List Int → Except Int α × List Int
def rdVar : Rd Int := fun bs => match decVar bs with
  | .ok p => (.ok p.1, p.2)
  | .error e => (.error e, bs)
def rdRange (lo hi : Int) : Rd Int := fun bs => match rdVar bs with
  | (.ok n, r) => if n < lo ∨ hi < n then (.error 272, r) else (.ok n, r)
  | (.error e, r) => (.error e, r)
def pnc (e : Int) : AV := .iface 38 (.int .i64 e)
@[simp] theorem pnc_eq (e : Int) : pnc e = .iface 38 (.int .i64 e) := rfl
def endR {α : Type} (f : α → AV) : Except Int α → AEnd
  | .ok p => .ret (f p)
  | .error e => .panic (pnc e)
theorem s56' (H : AH) (b : Nat) (bs : List Int) (hb : H[b]? = some (D bs)) (hbs : byteL bs) (hl : bs.length ≤ 1000000000) :
    Sound E 136 [.ptr b 1 0 0] H (endR (.int .i64) (rdVar bs).1) (H.set b (D (rdVar bs).2)) := by
  have h := s56 H b bs hb hbs hl
  unfold rdVar
  cases hd : decVar bs with
  | ok p => rw [hd] at h; exact h
  | error e =>
    rw [hd] at h
    have : H.set b (D bs) = H := by
      have hlt := (List.getElem?_eq_some_iff.1 hb).1
      have he := (List.getElem?_eq_some_iff.1 hb).2
      rw [← he]; simp
    simp only [this]
    exact h
theorem set_set' {H : AH} {b : Nat} {x y : ABlk} : (H.set b x).set b y = H.set b y := by simp
theorem set_eq {H : AH} {b : Nat} {x : ABlk} (h : H[b]? = some x) : H.set b x = H := by
  have hlt := (List.getElem?_eq_some_iff.1 h).1
  have he := (List.getElem?_eq_some_iff.1 h).2
  rw [← he]; simp
theorem s48 (H : AH) (b : Nat) (bs : List Int) (lo hi : Int) (hb : H[b]? = some (D bs)) (hbs : byteL bs) (hl : bs.length ≤ 1000000000) :
    Sound E 113 [.ptr b 1 0 0, .int .i64 lo, .int .i64 hi] H (endR (.int .i64) (rdRange lo hi bs).1) (H.set b (D (rdRange lo hi bs).2)) := by
  refine sound_of_awp tabOk mixed Tryz.func113 rfl (by rfl) Tryz.ntmps113 (by kernel_rfl) (by simp) ?_
  have h56 := s56' H b bs hb hbs hl
  simp
  unfold rdRange
  rcases hv : rdVar bs with ⟨e | n, r⟩
  · rw [hv] at h56
    refine call_panic h56 ?_
    simp
    exact finP0
  · rw [hv] at h56
    refine call_ret h56 ?_
    simp
    refine gateF (fun h1 => ?_) (fun h1 => ?_)
    · simp [h1]
      refine branch (fun h2 => ?_) (fun h2 => ?_)
      · simp at h1 h2
        simp
        rw [if_pos (by omega)]
        exact finP0
      · simp at h1 h2
        simp
        rw [if_neg (by omega)]
        exact finK (rs := [.tmp 6]) (vs := [.int .i64 n]) (by rfl) (by simp [resA]) rfl
    · simp [h1]
      simp at h1
      rw [if_pos (by omega)]
      exact finP0
theorem s57 (H : AH) (b c : Nat) (bs : List Int) (hb : H[b]? = some (D bs)) (hc : H[c]? = some (.row true 1 [.ptr b 1 0 0])) (hbs : byteL bs) (hl : bs.length ≤ 1000000000) :
    Sound E 137 [.ptr c 1 0 0] H (endR (.int .i64) (rdRange (-2147483648) 2147483648 bs).1) (H.set b (D (rdRange (-2147483648) 2147483648 bs).2)) := by
  refine sound_of_awp tabOk mixed Tryz.func137 rfl (by rfl) Tryz.ntmps137 (by kernel_rfl) (by simp) ?_
  have h48 := s48 H b bs (-2147483648) 2147483648 hb hbs hl
  simp [hc]
  rcases hv : rdRange (-2147483648) 2147483648 bs with ⟨e | n, r⟩ <;> rw [hv] at h48
  · refine call_panic h48 ?_
    simp
    exact finP0
  · refine call_ret h48 ?_
    simp
    exact finK (rs := [.tmp 1]) (vs := [.int .i64 n]) (by rfl) (by simp [resA]) rfl
theorem s47 (H : AH) (b c : Nat) (bs : List Int) (hb : H[b]? = some (D bs)) (hc : H[c]? = some (.row true 1 [.ptr b 1 0 0])) (hbs : byteL bs) (hl : bs.length ≤ 1000000000) :
    Sound E 112 [.ptr c 1 0 0] H (endR (.int .i64) (rdRange (-2147483647) 2147483647 bs).1) (H.set b (D (rdRange (-2147483647) 2147483647 bs).2)) := by
  refine sound_of_awp tabOk mixed Tryz.func112 rfl (by rfl) Tryz.ntmps112 (by kernel_rfl) (by simp) ?_
  have h48 := s48 H b bs (-2147483647) 2147483647 hb hbs hl
  simp [hc]
  rcases hv : rdRange (-2147483647) 2147483647 bs with ⟨e | n, r⟩ <;> rw [hv] at h48
  · refine call_panic h48 ?_
    simp
    exact finP0
  · refine call_ret h48 ?_
    simp
    exact finK (rs := [.tmp 1]) (vs := [.int .i64 n]) (by rfl) (by simp [resA]) rfl
end Go.Proofs.YtfjjckepnkkgjaaGreatDoor.Arm.C1

namespace Go.Proofs.YtfjjckepnkkgjaaGreatDoor.Arm.C1
open Go.Arm
theorem decGo_drop : ∀ (bs : List Int) (i u : Nat) (p : Int × List Int), decGo i u bs = .ok p → ∃ k, p.2 = bs.drop k
  | [], i, u, p, h => by simp [decGo] at h
  | x :: r, i, u, p, h => by
    simp only [decGo] at h
    split at h
    · cases h
    · split at h
      · split at h
        · cases h
        · cases h; exact ⟨1, rfl⟩
      · obtain ⟨k, hk⟩ := decGo_drop r _ _ p h
        exact ⟨k + 1, by simpa using hk⟩
theorem rdVar_drop (bs : List Int) : ∃ k, (rdVar bs).2 = bs.drop k := by
  unfold rdVar
  cases h : decVar bs with
  | ok p => exact decGo_drop bs 0 0 p h
  | error e => exact ⟨0, rfl⟩
theorem rdRange_drop (lo hi : Int) (bs : List Int) : ∃ k, (rdRange lo hi bs).2 = bs.drop k := by
  obtain ⟨k, hk⟩ := rdVar_drop bs
  unfold rdRange
  rcases hv : rdVar bs with ⟨e | n, r⟩ <;> rw [hv] at hk
  · exact ⟨k, hk⟩
  · dsimp only
    split <;> exact ⟨k, hk⟩
theorem byteL_drop {bs : List Int} (h : byteL bs) (k : Nat) : byteL (bs.drop k) := fun x hx => h x (List.mem_of_mem_drop hx)
def rdEnd : Rd Int := rdRange (-2147483648) 2147483648
def rdNum : Rd Int := rdRange (-2147483647) 2147483647
theorem rdEnd_ok {bs : List Int} (h : byteL bs) (hl : bs.length ≤ 1000000000) : byteL (rdEnd bs).2 ∧ (rdEnd bs).2.length ≤ 1000000000 := by
  obtain ⟨k, hk⟩ := rdRange_drop (-2147483648) 2147483648 bs
  unfold rdEnd
  rw [hk]
  exact ⟨byteL_drop h k, by simp; omega⟩
theorem rdNum_ok {bs : List Int} (h : byteL bs) (hl : bs.length ≤ 1000000000) : byteL (rdNum bs).2 ∧ (rdNum bs).2.length ≤ 1000000000 := by
  obtain ⟨k, hk⟩ := rdRange_drop (-2147483647) 2147483647 bs
  unfold rdNum
  rw [hk]
  exact ⟨byteL_drop h k, by simp; omega⟩
theorem rdRange_ok {lo hi : Int} {bs : List Int} (h : byteL bs) (hl : bs.length ≤ 1000000000) : byteL (rdRange lo hi bs).2 ∧ (rdRange lo hi bs).2.length ≤ 1000000000 := by
  obtain ⟨k, hk⟩ := rdRange_drop lo hi bs
  rw [hk]
  exact ⟨byteL_drop h k, by simp; omega⟩
def prep {α : Type} (xs : List α) : Except Int (List α) × List Int → Except Int (List α) × List Int
  | (.ok ys, r) => (.ok (xs ++ ys), r)
  | (.error e, r) => (.error e, r)
def rdBox : Nat → Rd Box
  | 0, bs => (.ok [], bs)
  | k + 1, bs => match rdEnd bs with
    | (.error e, r) => (.error e, r)
    | (.ok lo, r) => match rdEnd r with
      | (.error e, r) => (.error e, r)
      | (.ok hi, r) => prep [(lo, hi)] (rdBox k r)
theorem prep_prep {α : Type} (xs ys : List α) (p : Except Int (List α) × List Int) : prep xs (prep ys p) = prep (xs ++ ys) p := by
  rcases p with ⟨_ | _, _⟩ <;> simp [prep]
theorem prep_nil {α : Type} (p : Except Int (List α) × List Int) : prep [] p = p := by
  rcases p with ⟨_ | _, _⟩ <;> simp [prep]
@[simp] theorem noFB_D (m : Nat) (bs : List Int) : noFB m (D bs) = true := by simp [D, noFB, noFs, noF]
def L49 (H : AH) (b n : Nat) (bs : List Int) (i : Nat) (fr : AFr) (H' : AH) : Prop :=
  fr 5 = .func (.func 137) [] [.ptr H.length 1 0 0] ∧ fr 9 = .int .i64 n ∧ fr 10 = .int .i64 i ∧ i ≤ n ∧
  ∃ H1 bs' xs J v, fr 6 = v ∧ H1 = H.set b (D bs') ∧ H1.length = H.length ∧ byteL bs' ∧ bs'.length ≤ 1000000000 ∧ rdBox n bs = prep xs (rdBox (n - i) bs') ∧ xs.length = i ∧
    J[0]? = some (.row true 1 [.ptr b 1 0 0]) ∧ Acc H1 J v 2 (xs.map iv) .nilslice ∧ (∀ j n, v = .ref (H1.length + j) n → 1 ≤ j) ∧ H' = H1 ++ J
theorem s49 (H : AH) (b n : Nat) (bs : List Int) (hb : H[b]? = some (D bs)) (hbs : byteL bs) (hl : bs.length ≤ 1000000000) (hn : n ≤ 1000) :
    Sound E 114 [.ptr b 1 0 0, .int .i64 n] H (endR slb (rdBox n bs).1) (H.set b (D (rdBox n bs).2)) := by
  refine sound_of_awp tabOk mixed Tryz.func114 rfl (by rfl) Tryz.ntmps114 (by kernel_rfl) (by simp) ?_
  have hblt := (List.getElem?_eq_some_iff.1 hb).1
  simp
  refine loop_count (L49 H b n bs) (fun i => n - i) 0 ⟨by simp, by simp, by simp, by omega, H, bs, [], [.row true 1 [.ptr b 1 0 0]], .nilslice, by simp, (set_eq hb).symm, rfl, hbs, hl, by simp [prep_nil], rfl, by rfl, .inl ⟨rfl, rfl⟩, (fun j n h => by cases h), rfl⟩ ?_
  rintro i fr H' ⟨k5, k9, k10, hi, H1, bs', xs, J, v, k6, hH1, hlen, hby, hln, hrd, hxs, hJ0, hacc, hv, rfl⟩
  have hb1 : H1[b]? = some (D bs') := by rw [hH1]; simp [hblt]
  have fin : ∀ r, ∀ c : Nat, (H1.set b (D r))[c]? = H[c]? ∨ ∃ k, (H1.set b (D r))[c]? = some k ∧ noFB H.length k = true := by
    intro r c
    rw [hH1, set_set']
    exact set_blocks (noFB_D _ _) c
  simp [k9, k10]
  refine branch (fun hc => ?_) (fun hc => ?_)
  rotate_left
  · simp at hc
    have : n - i = 0 := by omega
    rw [this] at hrd
    simp only [rdBox, prep, List.append_nil] at hrd
    rw [hrd]
    simp only [endR]
    rw [← hH1]
    simp [k6]
    refine finSU (by rfl) (by simp) hacc rfl hlen ?_ (by simp)
    have := fin bs'
    rw [set_eq hb1] at this
    exact this
  · simp at hc
    obtain ⟨m, hm⟩ : ∃ m, n - i = m + 1 := ⟨n - i - 1, by omega⟩
    have hc0 : ∀ L, (L ++ J)[L.length + 0]? = some (.row true 1 [.ptr b 1 0 0]) := fun L => by simp [hJ0]
    have h57 := s57 (H1 ++ J) b H.length bs' (get_old hb1) (by rw [← hlen]; exact hc0 H1) hby hln
    rw [hm] at hrd
    simp only [rdBox] at hrd
    change Sound E 137 _ _ (endR _ (rdEnd bs').1) ((H1 ++ J).set b (D (rdEnd bs').2)) at h57
    have hok := rdEnd_ok hby hln
    rw [set_old hb1] at h57
    simp [k5]
    rcases hv1 : rdEnd bs' with ⟨e | lo, r⟩ <;> rw [hv1] at h57 hrd hok
    · refine call_panic h57 ?_
      rw [hrd]
      simp only [prep, endR]
      have : H.set b (D r) = H1.set b (D r) := by rw [hH1, set_set']
      rw [this]
      simp
      exact finPU (by simpa using hlen) (fin r) (by simp [noF])
    · refine call_ret h57 ?_
      have hb2 : (H1.set b (D r))[b]? = some (D r) := by rw [hH1, set_set']; simp [hblt]
      have h57 := s57 (H1.set b (D r) ++ J) b H.length r (get_old hb2) (by rw [show H.length = (H1.set b (D r)).length + 0 by simp [hlen], Go.Arm.get_at]; exact hJ0) hok.1 hok.2
      change Sound E 137 _ _ (endR _ (rdEnd r).1) ((H1.set b (D r) ++ J).set b (D (rdEnd r).2)) at h57
      have hok2 := rdEnd_ok hok.1 hok.2
      rw [set_old hb2, set_set'] at h57
      simp only [] at hrd
      simp [k6, k5]
      rcases hv2 : rdEnd r with ⟨e | hi', r2⟩ <;> rw [hv2] at h57 hrd hok2
      · refine call_panic h57 ?_
        rw [hrd]
        simp only [prep, endR]
        have : H.set b (D r2) = H1.set b (D r2) := by rw [hH1, set_set']
        rw [this]
        simp
        exact finPU (by simpa using hlen) (fin r2) (by simp [noF])
      · refine call_ret h57 ?_
        have hacc2 : Acc (H1.set b (D r2)) J v 2 (xs.map iv) .nilslice := by
          rcases hacc with h | ⟨k, h1, h2⟩
          · exact .inl h
          · exact .inr ⟨k, by simpa using h1, h2⟩
        obtain ⟨v', J', hap, hacc', hold, hle, hnew⟩ := hacc2.push (T := tab) (t := 26) (x := .slice [iv (lo, hi')] true) (ys := [iv (lo, hi')]) (i := i26) (ie := i54) (e := 54) rfl rfl rfl rfl rfl (by simp [i54]) (by simp [i54]) (by simp [i54]; omega) (by simp; omega)
        simp
        refine bind_some hap ?_
        simp (disch := omega) [k10, wrap64]
        have hlt0 := (List.getElem?_eq_some_iff.1 hJ0).1
        refine ⟨i + 1, by dsimp only; omega, by simp [k5], by simp [k9], by simp, by omega, H1.set b (D r2), r2, xs ++ [(lo, hi')], J', v', by simp, by rw [hH1, set_set'], by simp [hlen], hok2.1, hok2.2, ?_, by simp [hxs], ?_, ?_, ?_, rfl⟩
        · rw [hrd]
          simp only []
          rw [prep_prep, show n - (i + 1) = m by omega]
        · exact hold 0 _ hJ0 (fun n h => by have := hv 0 n (by simpa using h); omega)
        · simpa [i54] using hacc'
        · intro j n h
          rcases hnew j n h with ⟨q, hq⟩ | h2
          · exact hv j q (by simpa using hq)
          · omega
end Go.Proofs.YtfjjckepnkkgjaaGreatDoor.Arm.C1

namespace Go.Proofs.YtfjjckepnkkgjaaGreatDoor.Arm.C1
open Go.Arm
def rdThen {α β : Type} (x : Rd α) (f : α → Rd β) : Rd β := fun bs => match x bs with
  | (.ok a, r) => f a r
  | (.error e, r) => (.error e, r)
theorem rdThen_ok {α β : Type} {x : Rd α} {f : α → Rd β} {bs r : List Int} {a : α} (h : x bs = (.ok a, r)) : rdThen x f bs = f a r := by simp [rdThen, h]
theorem rdThen_err {α β : Type} {x : Rd α} {f : α → Rd β} {bs r : List Int} {e : Int} (h : x bs = (.error e, r)) : rdThen x f bs = (.error e, r) := by simp [rdThen, h]
def rdRet {α : Type} (a : α) : Rd α := fun bs => (.ok a, bs)
def rdStep (n : Nat) : Rd Step := rdThen rdNum fun h => rdThen rdNum fun o => rdThen (rdBox n) fun p => rdThen (rdBox n) fun q => rdRet ⟨h, o, p, q⟩
def rdSteps (n : Nat) : Nat → Rd (List Step)
  | 0 => rdRet []
  | k + 1 => rdThen (rdStep n) fun s => fun r => prep [s] (rdSteps n k r)
def rdEnds (c : Cert) : Rd Cert := fun r => if r = [] ∧ certB c = true then (.ok c, r) else (.error 272, r)
def rdCert : Rd Cert := rdThen rdNum fun t => rdThen (rdRange 1 6) fun n => rdThen (rdBox n.toNat) fun f => rdThen (rdRange 1 256) fun k => rdThen (rdSteps n.toNat k.toNat) fun l => rdEnds ⟨t, f, l⟩
theorem prep_ok {α : Type} {xs ys : List α} {p : Except Int (List α) × List Int} {r : List Int} (h : prep xs p = (.ok ys, r)) : ∃ zs, p = (.ok zs, r) ∧ ys = xs ++ zs := by
  rcases p with ⟨e | zs, r'⟩
  · cases h
  · simp only [prep, Prod.mk.injEq, Except.ok.injEq] at h; exact ⟨zs, by rw [h.2], h.1.symm⟩
theorem rdBox_len : ∀ (n : Nat) (bs : List Int) (x : Box) (r : List Int), rdBox n bs = (.ok x, r) → x.length = n
  | 0, bs, x, r, h => by simp [rdBox] at h; simp [← h.1]
  | n + 1, bs, x, r, h => by
    simp only [rdBox] at h
    rcases h1 : rdEnd bs with ⟨e | lo, r1⟩ <;> rw [h1] at h
    · cases h
    simp only [] at h
    rcases h2 : rdEnd r1 with ⟨e | hi, r2⟩ <;> rw [h2] at h
    · cases h
    simp only [] at h
    obtain ⟨zs, h3, rfl⟩ := prep_ok h
    simp [rdBox_len n r2 zs r h3]
theorem prep_snd {α : Type} (xs : List α) (p : Except Int (List α) × List Int) : (prep xs p).2 = p.2 := by
  rcases p with ⟨_ | _, _⟩ <;> rfl
theorem rdBox_ok : ∀ (n : Nat) {bs : List Int}, byteL bs → bs.length ≤ 1000000000 → byteL (rdBox n bs).2 ∧ (rdBox n bs).2.length ≤ 1000000000
  | 0, bs, h, hl => ⟨h, hl⟩
  | n + 1, bs, h, hl => by
    have h1 := rdEnd_ok h hl
    simp only [rdBox]
    rcases e1 : rdEnd bs with ⟨e | lo, r1⟩ <;> rw [e1] at h1
    · exact h1
    have h2 := rdEnd_ok h1.1 h1.2
    simp only []
    rcases e2 : rdEnd r1 with ⟨e | hi, r2⟩ <;> rw [e2] at h2
    · exact h2
    simp only [prep_snd]
    exact rdBox_ok n h2.1 h2.2
structure Mem (H : AH) (b : Nat) (bs : List Int) (H1 : AH) : Prop where
  eq : H1 = H.set b (D bs)
  len : H1.length = H.length
  get : H1[b]? = some (D bs)
  by_ : byteL bs
  ln : bs.length ≤ 1000000000
theorem Mem.next {H H1 : AH} {b : Nat} {bs r : List Int} (h : Mem H b bs H1) (hr : byteL r ∧ r.length ≤ 1000000000) : Mem H b r (H1.set b (D r)) :=
  ⟨by rw [h.eq, set_set'], by rw [List.length_set]; exact h.len, by have := (List.getElem?_eq_some_iff.1 h.get).1; simp [this], hr.1, hr.2⟩
theorem Mem.fin {H H1 : AH} {b : Nat} {bs : List Int} (h : Mem H b bs H1) (c : Nat) : H1[c]? = H[c]? ∨ ∃ k, H1[c]? = some k ∧ noFB H.length k = true := by
  rw [h.eq]; exact set_blocks (noFB_D _ _) c
theorem Mem.die {H H1 J : AH} {b : Nat} {bs : List Int} (h : Mem H b bs H1) {fn : Func} {fr : AFr} {e : Int} : bodyK E fn H (.panic (.iface 38 (.int .i64 e))) (H.set b (D bs)) (.panic (.iface 38 (.int .i64 e))) fr (H1 ++ J) := by
  rw [← h.eq]; exact finPU h.len h.fin (by simp [noF])
theorem Mem.at {H H1 J : AH} {b : Nat} {bs : List Int} (h : Mem H b bs H1) (k : Nat) : (H1 ++ J)[H.length + k]? = J[k]? := by rw [← h.len, Go.Arm.get_at]
theorem Mem.at0 {H H1 J : AH} {b : Nat} {bs : List Int} (h : Mem H b bs H1) : (H1 ++ J)[H.length]? = J[0]? := by rw [← h.len, Go.Arm.get_at0]
theorem Mem.st {H H1 J : AH} {b : Nat} {bs : List Int} (h : Mem H b bs H1) (k : Nat) (x : ABlk) : (H1 ++ J).set (H.length + k) x = H1 ++ J.set k x := by rw [← h.len, Go.Arm.set_at]
theorem Mem.num {H H1 J : AH} {b : Nat} {bs : List Int} (h : Mem H b bs H1) (h0 : J[0]? = some (.row true 1 [.ptr b 1 0 0])) {x : Except Int Int} {r : List Int} (hx : rdNum bs = (x, r)) :
    Sound E 112 [.ptr H.length 1 0 0] (H1 ++ J) (endR (.int .i64) x) (H1.set b (D r) ++ J) ∧ Mem H b r (H1.set b (D r)) := by
  have := s47 (H1 ++ J) b H.length bs (get_old h.get) (by rw [h.at0]; exact h0) h.by_ h.ln
  change Sound E 112 _ _ (endR _ (rdNum bs).1) ((H1 ++ J).set b (D (rdNum bs).2)) at this
  have hok := rdNum_ok h.by_ h.ln
  rw [hx] at this hok
  rw [set_old h.get] at this
  exact ⟨this, h.next hok⟩
theorem Mem.range {H H1 J : AH} {b : Nat} {bs : List Int} (h : Mem H b bs H1) {lo hi : Int} {x : Except Int Int} {r : List Int} (hx : rdRange lo hi bs = (x, r)) :
    Sound E 113 [.ptr b 1 0 0, .int .i64 lo, .int .i64 hi] (H1 ++ J) (endR (.int .i64) x) (H1.set b (D r) ++ J) ∧ Mem H b r (H1.set b (D r)) := by
  have := s48 (H1 ++ J) b bs lo hi (get_old h.get) h.by_ h.ln
  have hok := rdRange_ok (lo := lo) (hi := hi) h.by_ h.ln
  rw [hx] at this hok
  rw [set_old h.get] at this
  exact ⟨this, h.next hok⟩
theorem Mem.box {H H1 J : AH} {b : Nat} {bs : List Int} (h : Mem H b bs H1) {n : Nat} (hn : n ≤ 1000) {x : Except Int Box} {r : List Int} (hx : rdBox n bs = (x, r)) :
    Sound E 114 [.ptr b 1 0 0, .int .i64 n] (H1 ++ J) (endR slb x) (H1.set b (D r) ++ J) ∧ Mem H b r (H1.set b (D r)) := by
  have := s49 (H1 ++ J) b n bs (get_old h.get) h.by_ h.ln hn
  have hok := rdBox_ok n h.by_ h.ln
  rw [hx] at this hok
  rw [set_old h.get] at this
  exact ⟨this, h.next hok⟩
theorem rdRange_in {lo hi : Int} {bs r : List Int} {n : Int} (h : rdRange lo hi bs = (.ok n, r)) : lo ≤ n ∧ n ≤ hi := by
  unfold rdRange at h
  rcases hv : rdVar bs with ⟨e | m, r'⟩ <;> rw [hv] at h
  · cases h
  · simp only [] at h
    split at h
    · cases h
    · cases h; omega
theorem Acc.base {H G J : AH} {v v0 : AV} {sz : Nat} {xs : List AV} (h : Go.Arm.Acc H J v sz xs v0) (hl : H.length = G.length) : Go.Arm.Acc G J v sz xs v0 := by
  rcases h with h | ⟨k, h1, h2⟩
  · exact .inl h
  · exact .inr ⟨k, by rw [h1, hl], h2⟩
def zcrt : AV := .agg [.int .i64 0, .nilslice, .nilslice]
def L37 (H : AH) (b n k : Nat) (t : Int) (f : Box) (bs0 : List Int) (i : Nat) (fr : AFr) (H' : AH) : Prop :=
  fr 1 = .ptr H.length 1 0 0 ∧ fr 2 = .ptr (H.length + 1) 1 0 0 ∧ fr 3 = .func (.func 112) [] [.ptr H.length 1 0 0] ∧ fr 4 = .ptr (H.length + 2) 1 0 0 ∧ fr 5 = .int .i64 n ∧ fr 18 = .int .i64 k ∧ fr 19 = .int .i64 i ∧ i ≤ k ∧
  ∃ H1 bs xs J v, Mem H b bs H1 ∧ rdSteps n k bs0 = prep xs (rdSteps n (k - i) bs) ∧ xs.length = i ∧ (∀ s ∈ xs, s.pre.length = n ∧ s.to.length = n) ∧ J[0]? = some (.row true 1 [.ptr b 1 0 0]) ∧ J[1]? = some (.row true 3 [zcrt]) ∧ J[2]? = some (.row true 3 [.agg [.int .i64 t, .slice (f.map iv) false, v]]) ∧
    Acc H1 J v 4 (xs.map stp) .nilslice ∧ (∀ j n, v = .ref (H1.length + j) n → 3 ≤ j) ∧ H' = H1 ++ J
set_option maxRecDepth 10000 in
theorem s37 (H : AH) (b : Nat) (bs : List Int) (hb : H[b]? = some (D bs)) (hbs : byteL bs) (hl : bs.length ≤ 1000000000) :
    Sound E 87 [.ptr b 1 0 0] H (endR crt (rdCert bs).1) (H.set b (D (rdCert bs).2)) := by
  refine sound_of_awp tabOk mixed Tryz.func87 rfl (by rfl) Tryz.ntmps87 (by kernel_rfl) (by simp) ?_
  have m0 : Mem H b bs H := ⟨(set_eq hb).symm, rfl, hb, hbs, hl⟩
  generalize hrd : rdCert bs = res
  simp [-crt_eq]
  rcases e1 : rdNum bs with ⟨e | t, r1⟩ <;> obtain ⟨h1, m1⟩ := m0.num (J := [.row true 1 [.ptr b 1 0 0], .row true 3 [zcrt]]) rfl e1
  · refine call_panic h1 ?_
    unfold rdCert at hrd; rw [rdThen_err e1] at hrd; subst hrd
    simp; exact m1.die
  refine call_ret h1 ?_
  unfold rdCert at hrd; rw [rdThen_ok e1] at hrd
  generalize hH1 : H.set b (D r1) = H1 at m1
  simp [-crt_eq, ↓m1.at0, ↓m1.at, m1.len]
  rcases e2 : rdRange 1 6 r1 with ⟨e | n, r2⟩ <;> obtain ⟨h2, m2⟩ := m1.range (J := [.row true 1 [.ptr b 1 0 0], .row true 3 [zcrt], .row true 3 [.agg [.int .i64 t, .nilslice, .nilslice]]]) e2
  · refine call_panic h2 ?_
    rw [rdThen_err e2] at hrd; subst hrd
    simp; exact m2.die
  refine call_ret h2 ?_
  rw [rdThen_ok e2] at hrd
  obtain ⟨n, rfl⟩ := Int.eq_ofNat_of_zero_le (show 0 ≤ n by have := rdRange_in e2; omega)
  have hn : n ≤ 6 := by have := rdRange_in e2; omega
  rw [Int.toNat_natCast] at hrd
  generalize hH2 : H1.set b (D r2) = H2 at m2
  simp [-crt_eq, ↓m2.at0, ↓m2.at, m2.len]
  rcases e3 : rdBox n r2 with ⟨e | f, r3⟩ <;> obtain ⟨h3, m3⟩ := m2.box (J := [.row true 1 [.ptr b 1 0 0], .row true 3 [zcrt], .row true 3 [.agg [.int .i64 t, .nilslice, .nilslice]]]) (by omega) e3
  · refine call_panic h3 ?_
    rw [rdThen_err e3] at hrd; subst hrd
    simp; exact m3.die
  refine call_ret h3 ?_
  rw [rdThen_ok e3] at hrd
  have hf := rdBox_len n r2 f r3 e3
  generalize hH3 : H2.set b (D r3) = H3 at m3
  simp [-crt_eq, slb, ↓m3.at0, ↓m3.at, ↓m3.st]
  rcases e4 : rdRange 1 256 r3 with ⟨e | k, r4⟩ <;> obtain ⟨h4, m4⟩ := m3.range (J := [.row true 1 [.ptr b 1 0 0], .row true 3 [zcrt], .row true 3 [.agg [.int .i64 t, .slice (f.map iv) false, .nilslice]]]) e4
  · refine call_panic h4 ?_
    rw [rdThen_err e4] at hrd; subst hrd
    simp; exact m4.die
  refine call_ret h4 ?_
  rw [rdThen_ok e4] at hrd
  have hk1 := rdRange_in e4
  obtain ⟨k, rfl⟩ := Int.eq_ofNat_of_zero_le (show 0 ≤ k by omega)
  rw [Int.toNat_natCast] at hrd
  generalize hH4 : H3.set b (D r4) = H4 at m4
  simp [-crt_eq]
  refine loop_count (L37 H b n k t f r4) (fun i => k - i) 0 ⟨by simp, by simp, by simp, by simp, by simp, by simp, by simp, by omega, H4, r4, [], _, .nilslice, m4, by simp [prep_nil], rfl, by simp, by rfl, by rfl, by rfl, .inl ⟨rfl, rfl⟩, (fun j n h => by cases h), rfl⟩ ?_
  clear hH1 hH2 hH3 hH4 h1 h2 h3 h4 m1 m2 m3
  rintro i fr H' ⟨k1, k2, k3, k4, k5, k18, k19, hi, G1, s0, xs, J, v, m5, hst, hxs, hlens, hJ0, hJ1, hJ2, hacc, hv, rfl⟩
  simp [-crt_eq, k18, k19]
  refine branch (fun hc => ?_) (fun hc => ?_)
  rotate_left
  · simp at hc
    rw [show k - i = 0 by omega] at hst
    simp only [rdSteps, rdRet, prep, List.append_nil] at hst
    rw [rdThen_ok hst] at hrd
    have gb : ∀ L, (G1 ++ L)[b]? = some (.row true 1 [.agg [.slice (s0.map u8) false]]) := old m5.get
    simp [-crt_eq, k1, ↓m5.at0, hJ0, ↓gb]
    refine gateF (fun e5 => ?_) (fun e5 => ?_)
    · have hs0 : s0 = [] := by cases s0 with | nil => rfl | cons a b => simp at e5
      subst hs0
      rcases hacc with ⟨hnil, -⟩ | ⟨k', rfl, hk'⟩
      · simp at hnil; rw [hnil] at hxs; simp at hxs; omega
      have hk3 := hv k' _ rfl
      simp [-crt_eq, e5, k4, ↓m5.at, hJ2]
      have hcv : convL (G1 ++ J) [.agg [.int .i64 t, .slice (f.map iv) false, .ref (G1.length + k') xs.length]] = ([crt ⟨t, f, xs⟩], G1 ++ J.set k' (.row false 4 (xs.map stp))) := by
        simp [hk']
      have h21 := fun Hx => s21 ⟨t, f, xs⟩ (by simp only []; omega) (fun s hs => by have := hlens s hs; omega) Hx
      refine call_conv (h21 _) hcv ?_
      have hk0 : (J.set k' (.row false 4 (xs.map stp)))[2]? = some _ := (List.getElem?_set_ne (by omega)).trans hJ2
      have hk1 : (J.set k' (.row false 4 (xs.map stp)))[1]? = some _ := (List.getElem?_set_ne (by omega)).trans hJ1
      simp [-crt_eq, e5]
      refine branch (fun e6 => ?_) (fun e6 => ?_)
      · simp at e6
        simp only [rdEnds, e6, Bool.false_eq_true, and_false, if_false] at hrd
        subst hrd
        simp
        exact m5.die
      · simp at e6
        simp only [rdEnds, e6, true_and, and_self, if_true] at hrd
        subst hrd
        simp [-crt_eq, k2, k4, ↓m5.at, ↓m5.st, ↓hk0, ↓hk1, zcrt]
        have hk4 : (J.set k' (.row false 4 (xs.map stp)))[k']? = some _ := set_get hk'
        rw [show List.set H b (D []) = G1 from m5.eq.symm]
        have hk5 : ((J.set k' (.row false 4 (xs.map stp))).set 1 (.row true 3 [.agg [.int .i64 t, .slice (f.map iv) false, .ref (G1.length + k') xs.length]]))[k']? = some (.row false 4 (xs.map stp)) := by
          rw [List.getElem?_set_ne (by omega)]; exact hk4
        refine finG (rs := [.cell 2 96]) (vs := [.agg [.int .i64 t, .slice (f.map iv) false, .ref (G1.length + k') xs.length]]) (vs' := [crt ⟨t, f, xs⟩]) (J' := ((J.set k' (.row false 4 (xs.map stp))).set 1 (.row true 3 [.agg [.int .i64 t, .slice (f.map iv) false, .ref (G1.length + k') xs.length]])).set k' (.row false 4 (xs.map stp))) (by rfl) ?_ ?_ m5.len m5.fin (by simp [noFs, noF]) rfl
        · simp [resA, k2, ↓m5.at, ↓set_get hk1]
        · simp [↓hk5]
    · simp [-crt_eq, e5]
      have hs0 : s0 ≠ [] := by rintro rfl; simp at e5
      simp only [rdEnds, hs0, false_and, if_false] at hrd
      subst hrd
      exact m5.die
  · simp at hc
    obtain ⟨q, hq⟩ : ∃ q, k - i = q + 1 := ⟨k - i - 1, by omega⟩
    rw [hq] at hst
    simp only [rdSteps, rdStep] at hst
    simp [-crt_eq, k3]
    rcases e1 : rdNum s0 with ⟨e | h, r1⟩ <;> obtain ⟨h1, m1⟩ := m5.num hJ0 e1
    · refine call_panic h1 ?_
      simp only [rdThen, e1, prep] at hst
      rw [rdThen_err hst] at hrd
      subst hrd
      simp; exact m1.die
    refine call_ret h1 ?_
    generalize hG : G1.set b (D r1) = G2 at m1
    have j0 := old hJ0
    have j1 := old hJ1
    have j2 := old hJ2
    have hJ2l := (List.getElem?_eq_some_iff.1 hJ2).1
    simp [-crt_eq, k3, m1.len]
    rcases e2 : rdNum r1 with ⟨e | o, r2⟩ <;> obtain ⟨h2, m2⟩ := m1.num (J := J ++ [.row true 4 [.agg [.int .i64 h, .int .i64 0, .nilslice, .nilslice]]]) (j0 _) e2
    · refine call_panic h2 ?_
      simp only [rdThen, e1, e2, prep] at hst
      rw [rdThen_err hst] at hrd
      subst hrd
      simp; exact m2.die
    refine call_ret h2 ?_
    generalize hG3 : G2.set b (D r2) = G3 at m2
    simp [-crt_eq, ↓m2.at, ↓m2.st, ↓m2.at0, k1, k5, ↓j0]
    rcases e3 : rdBox n r2 with ⟨e | pb, r3⟩ <;> obtain ⟨h3, m3⟩ := m2.box (J := J ++ [.row true 4 [.agg [.int .i64 h, .int .i64 o, .nilslice, .nilslice]]]) (by omega) e3
    · refine call_panic h3 ?_
      simp only [rdThen, e1, e2, e3, prep] at hst
      rw [rdThen_err hst] at hrd
      subst hrd
      simp; exact m3.die
    refine call_ret h3 ?_
    generalize hG4 : G3.set b (D r3) = G4 at m3
    simp [-crt_eq, slb, ↓m3.at, ↓m3.st, ↓m3.at0, k1, k5, ↓j0]
    rcases e4 : rdBox n r3 with ⟨e | qb, r4'⟩ <;> obtain ⟨h4, m4'⟩ := m3.box (J := J ++ [.row true 4 [.agg [.int .i64 h, .int .i64 o, .slice (pb.map iv) false, .nilslice]]]) (by omega) e4
    · refine call_panic h4 ?_
      simp only [rdThen, e1, e2, e3, e4, prep] at hst
      rw [rdThen_err hst] at hrd
      subst hrd
      simp; exact m4'.die
    refine call_ret h4 ?_
    generalize hG5 : G4.set b (D r4') = G5 at m4'
    simp [-crt_eq, slb, ↓m4'.at, ↓m4'.st, ↓m4'.at0, k4, ↓j2]
    have hacc2 : Acc G5 J v 4 (xs.map stp) .nilslice := Acc.base hacc (m5.len.trans m4'.len.symm)
    obtain ⟨v', J', hap, hacc', hold, hle, hnew⟩ := (hacc2.len (L := [.row true 4 [stp ⟨h, o, pb, qb⟩]])).push (T := tab) (t := 94) (x := .slice [stp ⟨h, o, pb, qb⟩] true) (ys := [stp ⟨h, o, pb, qb⟩]) (i := i94) (ie := i101) (e := 101) rfl rfl rfl rfl rfl (by simp [i101]) (by simp [i101]) (by simp [i101]; omega) (by simp; omega)
    refine bind_some hap ?_
    simp only [lockR_go]
    have hv5 : ∀ j n, v = .ref (G5.length + j) n → 3 ≤ j := fun j n h => hv j n (by rw [h, m4'.len, m5.len])
    have p0 : J'[0]? = _ := (hold 0 _ (j0 _) fun n h => by have := hv5 0 n h; omega)
    have p1 : J'[1]? = _ := (hold 1 _ (j1 _) fun n h => by have := hv5 1 n h; omega)
    have p2 : J'[2]? = _ := (hold 2 _ (j2 _) fun n h => by have := hv5 2 n h; omega)
    have hv' : ∀ j n, v' = .ref (G5.length + j) n → 3 ≤ j := by
      intro j n h
      rcases hnew j n h with ⟨m, hm⟩ | h2
      · exact hv5 j m hm
      · simp at h2; omega
    rcases hacc' with ⟨h, _⟩ | ⟨k', rfl, hk'⟩
    · simp at h
    have hk3 := hv' k' _ rfl
    simp (disch := omega) [-crt_eq, k4, ↓m4'.at, ↓m4'.st, ↓p2, k19, wrap64]
    refine ⟨i + 1, by dsimp only; omega, by simp [k1], by simp [k2], by simp [k3], by simp [k4], by simp [k5], by simp [k18], by simp, by omega, G5, r4', xs ++ [⟨h, o, pb, qb⟩], _, _, m4', ?_, by simp [hxs], ?_, ?_, ?_, set_get p2, .inr ⟨k', ?_, ?_⟩, ?_, rfl⟩
    · rw [hst]
      simp only [rdThen, e1, e2, e3, e4, rdRet]
      rw [prep_prep, show k - (i + 1) = q by omega]
    · intro s hs
      rcases List.mem_append.1 hs with h | h
      · exact hlens s h
      · simp at h; subst h
        exact ⟨rdBox_len _ _ _ _ e3, rdBox_len _ _ _ _ e4⟩
    · rw [List.getElem?_set_ne (by omega)]; exact p0
    · rw [List.getElem?_set_ne (by omega)]; exact p1
    · simp [m4'.len]
    · rw [List.getElem?_set_ne (by omega)]; simpa [i101] using hk'
    · intro j n h; simp only [AV.ref.injEq] at h; rw [m4'.len] at h; omega
end Go.Proofs.YtfjjckepnkkgjaaGreatDoor.Arm.C1

namespace Go.Proofs.YtfjjckepnkkgjaaGreatDoor.Arm.C1
open Go.Arm
theorem bin_nil_nil (H : AH) : binOpA tab H .neq 20 .niliface .niliface (!isC (Operand.tmp 6) && !isC (Operand.const Value.nilIface)) = some (.bool false, H) := by
  simp [binOpA, nilI, binA, eqA, isC]
theorem bin_some_nil (H : AH) (t : Nat) (v : AV) (c : Bool) : binOpA tab H .neq 20 (.iface t v) .niliface c = some (.bool true, H) := by
  simp [binOpA, nilI, binA, eqA, isC]
theorem s36n (H : AH) (c d : Nat) : SoundR E 86 [.ptr c 1 0 0, .ptr d 1 0 0] none H H := by
  refine soundR_of_awp tabOk mixed Tryz.func86 rfl (by rfl) Tryz.ntmps86 ⟨by kernel_rfl, by kernel_rfl, by decide⟩ (by rfl) (by simp) ?_
  simp [recV]
  refine bind_some (bin_nil_nil H) ?_
  simp
  exact .keep _ _
def zeros : AV := .agg [.int .i64 0, .nilslice, .nilslice]
theorem s36 (H : AH) (c d : Nat) (e : Int) (x : AV) (y : Int) (hcd : c ≠ d) (hc : H[c]? = some (.row true 3 [x])) (hd : H[d]? = some (.row true 1 [.int .i64 y])) (hx : ∃ p q r, x = .agg [p, q, r]) :
    SoundR E 86 [.ptr c 1 0 0, .ptr d 1 0 0] (some (pnc e)) H ((H.set c (.row true 3 [zeros])).set d (.row true 1 [.int .i64 e])) := by
  refine soundR_of_awp tabOk mixed Tryz.func86 rfl (by rfl) Tryz.ntmps86 ⟨by kernel_rfl, by kernel_rfl, by decide⟩ (by rfl) (by simp) ?_
  obtain ⟨p, q, r, rfl⟩ := hx
  have hd' : ∀ z, (H.set c z)[d]? = some (.row true 1 [.int .i64 y]) := fun z => by rw [List.getElem?_set_ne hcd]; exact hd
  simp [recV]
  refine bind_some (bin_some_nil _ _ _ _) ?_
  simp [hc, hd']
  exact .keep _ _
def decEnd (bs : List Int) : AV := match (rdCert bs).1 with
  | .ok c => .tuple [crt c, .int .i64 0]
  | .error e => .tuple [crt zeroCert, .int .i64 e]
set_option maxRecDepth 10000 in
theorem s18 (H : AH) (bs : List Int) (hbs : byteL bs) (hl : bs.length ≤ 1000000000) : Sound E 43 [.slice (bs.map u8) false] H (.ret (decEnd bs)) H := by
  refine sound_of_awp_defer tabOk mixed Tryz.func43 rfl (by rfl) Tryz.ntmps43 ⟨by kernel_rfl, by kernel_rfl, by decide, rfl⟩ (by simp) ?_
  simp [-crt_eq]
  have h37 := s37 (H ++ [.row true 3 [zeros], .row true 1 [.int .i64 0], D bs]) (H.length + 2) bs (by simp) hbs hl
  unfold decEnd
  rcases hr : rdCert bs with ⟨e | cc, r⟩ <;> rw [hr] at h37
  · refine call_fst_panic h37 ?_
    simp [-crt_eq, deferK]
    refine ⟨_, s36 _ (H.length) (H.length + 1) e zeros 0 (by omega) (by simp) (by simp) ⟨_, _, _, rfl⟩, ?_⟩
    simp [-crt_eq]
    refine finC (rs := [.cell 2 96, .cell 3 38]) (vs := [zeros, .int .i64 e]) (vs' := [crt zeroCert, .int .i64 e]) (J' := _) (by rfl) (by simp [resA, zeros]) (by simp [zeros, zeroCert, crt]; rfl) (by simp [crt, zeroCert, noFs, noF]) rfl
  · refine call_fst h37 ?_
    simp [crt, zeros]
    refine ⟨_, s36n _ _ _, ?_⟩
    refine finC (rs := [.cell 2 96, .cell 3 38]) (vs := [crt cc, .int .i64 0]) (vs' := [crt cc, .int .i64 0]) (J' := _) (by rfl) (by simp [resA, crt]) (by simp [crt]; rfl) (by simp [crt, noFs, noF]) rfl
end Go.Proofs.YtfjjckepnkkgjaaGreatDoor.Arm.C1

namespace Go.Proofs.YtfjjckepnkkgjaaGreatDoor.Arm.C1
open Go.Arm
structure Good {α : Type} (x : Rd α) (R : α → List Int → Prop) : Prop where
  ok : ∀ bs a r, byteL bs → x bs = (.ok a, r) → ∃ l, bs = l ++ r ∧ R a l
  comp : ∀ a l r, R a l → x (l ++ r) = (.ok a, r)
  cut : ∀ a l p q, R a l → l = p ++ q → q ≠ [] → ∃ r, x p = (.error 271, r)
  err : ∀ bs e r, x bs = (.error e, r) → e = 271 ∨ e = 272
theorem byteL_right {l r : List Int} (h : byteL (l ++ r)) : byteL r := fun x hx => h x (List.mem_append_right _ hx)
theorem Good.ret {α : Type} (a : α) : Good (rdRet a) (fun b l => b = a ∧ l = []) :=
  ⟨fun bs b r _ h => by simp [rdRet] at h; exact ⟨[], by simp [h.2], h.1.symm, rfl⟩, fun b l r h => by obtain ⟨rfl, rfl⟩ := h; rfl,
    fun b l p q h e hq => by obtain ⟨rfl, rfl⟩ := h; simp at e; exact absurd e.2 hq, fun bs e r h => by simp [rdRet] at h⟩
theorem Good.then {α β : Type} {x : Rd α} {f : α → Rd β} {R : α → List Int → Prop} {S : α → β → List Int → Prop} (h : Good x R) (hf : ∀ a l, R a l → Good (f a) (S a)) (he : ∀ a bs e r, f a bs = (.error e, r) → e = 271 ∨ e = 272) :
    Good (rdThen x f) (fun b l => ∃ a l1 l2, l = l1 ++ l2 ∧ R a l1 ∧ S a b l2) := by
  refine ⟨?_, ?_, ?_, ?_⟩
  · intro bs b r hb hx
    rcases e1 : x bs with ⟨e | a, r1⟩
    · rw [rdThen_err e1] at hx; cases hx
    · rw [rdThen_ok e1] at hx
      obtain ⟨l1, rfl, hR⟩ := h.ok bs a r1 hb e1
      obtain ⟨l2, rfl, hS⟩ := (hf a l1 hR).ok r1 b r (byteL_right hb) hx
      exact ⟨l1 ++ l2, by simp, a, l1, l2, rfl, hR, hS⟩
  · rintro b l r ⟨a, l1, l2, rfl, hR, hS⟩
    rw [List.append_assoc, rdThen_ok (h.comp a l1 (l2 ++ r) hR)]
    exact (hf a l1 hR).comp b l2 r hS
  · rintro b l p q ⟨a, l1, l2, rfl, hR, hS⟩ e hq
    rcases List.append_eq_append_iff.1 e with ⟨t, rfl, h2⟩ | ⟨t, h1, rfl⟩
    · rw [rdThen_ok (h.comp a l1 t hR)]
      exact (hf a l1 hR).cut b l2 t q hS h2 hq
    · by_cases ht : t = []
      · subst ht
        simp at h1
        subst h1
        have e1 := h.comp a l1 [] hR
        rw [List.append_nil] at e1
        rw [rdThen_ok e1]
        exact (hf a l1 hR).cut b l2 [] l2 hS rfl hq
      · obtain ⟨r, hr⟩ := h.cut a l1 p t hR h1 ht
        exact ⟨r, rdThen_err hr⟩
  · intro bs e r hx
    rcases e1 : x bs with ⟨e' | a, r1⟩
    · rw [rdThen_err e1] at hx; cases hx; exact h.err bs _ _ e1
    · rw [rdThen_ok e1] at hx; exact he a r1 e r hx
theorem Good.iff {α : Type} {x : Rd α} {R S : α → List Int → Prop} (h : Good x R) (hRS : ∀ a l, R a l ↔ S a l) : Good x S := by
  have : R = S := by funext a l; exact propext (hRS a l)
  rw [← this]; exact h
theorem zig_unzig (u : Nat) : zig (unzig u) = u := by
  unfold zig unzig
  split <;> split <;> omega
theorem unzig_zig (v : Int) : unzig (zig v) = v := by
  unfold zig unzig
  split <;> split <;> omega
theorem zig_lt {v : Int} (h0 : -9223372036854775808 ≤ v) (h1 : v < 9223372036854775808) : zig v < 18446744073709551616 := by
  unfold zig; split <;> omega
theorem unzig_in {u : Nat} (h : u < 18446744073709551616) : -9223372036854775808 ≤ unzig u ∧ unzig u < 9223372036854775808 := by
  unfold unzig; split <;> omega
theorem decGo_err : ∀ (bs : List Int) (i u : Nat) (e : Int), decGo i u bs = .error e → e = 271 ∨ e = 272
  | [], i, u, e, h => by simp [decGo] at h; omega
  | x :: r, i, u, e, h => by
    simp only [decGo] at h
    split at h
    · cases h; exact .inr rfl
    · split at h
      · split at h
        · cases h; exact .inr rfl
        · cases h
      · exact decGo_err r _ _ e h
theorem pow_step (i : Nat) : 128 ^ (i + 1) = 128 ^ i * 128 := Nat.pow_succ 128 i
theorem decGo_ok : ∀ (bs : List Int) (i u : Nat) (n : Int) (r : List Int), byteL bs → i ≤ 9 → decGo i u bs = .ok (n, r) →
    ∃ w : Nat, bs = vb w ++ r ∧ n = unzig (u + w * 128 ^ i) ∧ w < 2 ^ (64 - 7 * i) ∧ (0 < i → 0 < w)
  | [], i, u, n, r, _, _, h => by simp [decGo] at h
  | x :: t, i, u, n, r, hb, hi, h => by
    simp only [decGo] at h
    have hx := hb x (by simp)
    obtain ⟨x, rfl⟩ := Int.eq_ofNat_of_zero_le hx.1
    split at h
    · cases h
    · rename_i h9
      split at h
      · rename_i h128
        split at h
        · cases h
        · rename_i h0
          simp only [Except.ok.injEq, Prod.mk.injEq] at h
          obtain ⟨rfl, rfl⟩ := h
          have hx128 : x < 128 := by omega
          refine ⟨x, by rw [vb_small hx128]; rfl, ?_, ?_, by intro hi0; omega⟩
          · rw [Int.toNat_natCast, Nat.mod_eq_of_lt hx128]
          · by_cases e9 : i = 9
            · subst e9; simp; omega
            · have : 2 ^ 7 ≤ 2 ^ (64 - 7 * i) := Nat.pow_le_pow_right (by omega) (by omega)
              omega
      · rename_i h128
        have hne : i ≠ 9 := by omega
        obtain ⟨w, hw1, hw2, hw3, hw4⟩ := decGo_ok t (i + 1) _ n r (fun y hy => hb y (by simp [hy])) (by omega) h
        have hw0 := hw4 (by omega)
        have hx255 : x ≤ 255 := by omega
        have hx128 : 128 ≤ x := by omega
        have hW : ¬ (w * 128 + x % 128 < 128) := by omega
        refine ⟨w * 128 + x % 128, ?_, ?_, ?_, by intro; omega⟩
        · rw [vb_big hW, hw1]
          have e1 : (w * 128 + x % 128) % 128 + 128 = x := by omega
          have e2 : (w * 128 + x % 128) / 128 = w := by omega
          rw [e1, e2]; rfl
        · rw [hw2, Int.toNat_natCast, pow_step]
          congr 1
          rw [Nat.add_mul, Nat.mul_assoc, Nat.mul_comm 128 (128 ^ i)]
          omega
        · have e : 2 ^ (64 - 7 * i) = 2 ^ (64 - 7 * (i + 1)) * 128 := by
            rw [show 64 - 7 * i = (64 - 7 * (i + 1)) + 7 by omega, Nat.pow_add]
          rw [e]
          omega
theorem decGo_comp (w : Nat) : ∀ (i u : Nat) (r : List Int), i ≤ 9 → w < 2 ^ (64 - 7 * i) → (0 < i → 0 < w) → decGo i u (vb w ++ r) = .ok (unzig (u + w * 128 ^ i), r) := by
  induction w using Nat.strongRecOn with
  | ind w ih =>
    intro i u r hi hw h0
    by_cases h : w < 128
    · rw [vb_small h]
      simp only [List.singleton_append, decGo]
      have h9 : ¬ (i = 9 ∧ (1 : Int) < (w : Int)) := by
        rintro ⟨rfl, h1⟩
        simp at hw; omega
      rw [if_neg h9, if_pos (by omega), if_neg (by omega), Int.toNat_natCast, Nat.mod_eq_of_lt h]
    · rw [vb_big h]
      simp only [List.cons_append, decGo]
      have hi9 : i ≠ 9 := by
        rintro rfl
        simp at hw; omega
      rw [if_neg (by omega), if_neg (by omega), Int.toNat_natCast]
      have e : 2 ^ (64 - 7 * i) = 2 ^ (64 - 7 * (i + 1)) * 128 := by
        rw [show 64 - 7 * i = (64 - 7 * (i + 1)) + 7 by omega, Nat.pow_add]
      rw [ih (w / 128) (by omega) (i + 1) _ r (by omega) (by rw [e] at hw; omega) (by omega)]
      congr 3
      have e1 : (w % 128 + 128) % 128 = w % 128 := by omega
      rw [e1, pow_step]
      have e2 : w * 128 ^ i = (w / 128 * 128 + w % 128) * 128 ^ i := by congr 1; omega
      rw [e2, Nat.add_mul, Nat.mul_assoc, Nat.mul_comm 128 (128 ^ i)]
      omega
theorem decGo_cut (w : Nat) : ∀ (i u : Nat) (p q : List Int), i ≤ 9 → w < 2 ^ (64 - 7 * i) → vb w = p ++ q → q ≠ [] → decGo i u p = .error 271 := by
  induction w using Nat.strongRecOn with
  | ind w ih =>
    intro i u p q hi hw e hq
    cases p with
    | nil => rfl
    | cons y p =>
      by_cases h : w < 128
      · rw [vb_small h] at e
        simp at e
        exact absurd e.2.2 hq
      · rw [vb_big h] at e
        simp only [List.cons_append, List.cons.injEq] at e
        obtain ⟨rfl, e⟩ := e
        simp only [decGo]
        have hi9 : i ≠ 9 := by
          rintro rfl
          simp at hw; omega
        rw [if_neg (by omega), if_neg (by omega)]
        have e2 : 2 ^ (64 - 7 * i) = 2 ^ (64 - 7 * (i + 1)) * 128 := by
          rw [show 64 - 7 * i = (64 - 7 * (i + 1)) + 7 by omega, Nat.pow_add]
        exact ih (w / 128) (by omega) (i + 1) _ p q (by omega) (by rw [e2] at hw; omega) e hq
def I64 (v : Int) : Prop := -9223372036854775808 ≤ v ∧ v < 9223372036854775808
theorem good_var : Good rdVar (fun v l => l = varint v ∧ I64 v) := by
  refine ⟨?_, ?_, ?_, ?_⟩
  · intro bs v r hb h
    unfold rdVar at h
    cases hd : decVar bs with
    | error e => rw [hd] at h; cases h
    | ok p =>
      rw [hd] at h
      cases h
      obtain ⟨w, h1, h2, h3, -⟩ := decGo_ok bs 0 0 p.1 p.2 hb (by omega) hd
      simp only [Nat.pow_zero, Nat.mul_one, Nat.zero_add, Nat.mul_zero, Nat.sub_zero] at h2 h3
      refine ⟨vb w, h1, ?_, ?_⟩
      · rw [h2]; unfold varint; rw [zig_unzig]
      · rw [h2]; exact unzig_in (by simpa using h3)
  · rintro v l r ⟨rfl, hv⟩
    have := decGo_comp (zig v) 0 0 r (by omega) (by have := zig_lt hv.1 hv.2; simpa using this) (by omega)
    unfold rdVar decVar varint
    rw [this]
    simp [unzig_zig]
  · rintro v l p q ⟨rfl, hv⟩ e hq
    have := decGo_cut (zig v) 0 0 p q (by omega) (by have := zig_lt hv.1 hv.2; simpa using this) e hq
    unfold rdVar decVar
    rw [this]
    exact ⟨_, rfl⟩
  · intro bs e r h
    unfold rdVar at h
    cases hd : decVar bs with
    | error e' => rw [hd] at h; cases h; exact decGo_err _ _ _ _ hd
    | ok p => rw [hd] at h; cases h
theorem good_range (lo hi : Int) (h0 : -9223372036854775808 ≤ lo) (h1 : hi < 9223372036854775808) : Good (rdRange lo hi) (fun v l => l = varint v ∧ lo ≤ v ∧ v ≤ hi) := by
  refine ⟨?_, ?_, ?_, ?_⟩
  · intro bs v r hb h
    have hin := rdRange_in h
    unfold rdRange at h
    rcases e1 : rdVar bs with ⟨e | n, r1⟩ <;> rw [e1] at h
    · cases h
    · simp only [] at h
      split at h
      · cases h
      · cases h
        obtain ⟨l, h2, h3, h4⟩ := good_var.ok bs v r hb e1
        exact ⟨l, h2, h3, hin⟩
  · rintro v l r ⟨rfl, hv⟩
    have := good_var.comp v (varint v) r ⟨rfl, by unfold I64; omega⟩
    unfold rdRange
    rw [this]
    simp only []
    rw [if_neg (by omega)]
  · rintro v l p q ⟨rfl, hv⟩ e hq
    obtain ⟨r, hr⟩ := good_var.cut v (varint v) p q ⟨rfl, by unfold I64; omega⟩ e hq
    unfold rdRange
    rw [hr]
    exact ⟨_, rfl⟩
  · intro bs e r h
    unfold rdRange at h
    rcases e1 : rdVar bs with ⟨e' | n, r1⟩ <;> rw [e1] at h
    · cases h; exact good_var.err _ _ _ e1
    · simp only [] at h
      split at h
      · cases h; exact .inr rfl
      · cases h
end Go.Proofs.YtfjjckepnkkgjaaGreatDoor.Arm.C1

namespace Go.Proofs.YtfjjckepnkkgjaaGreatDoor.Arm.C1
open Go.Arm
theorem Good.bind {α β : Type} {x : Rd α} {f : α → Rd β} {R : α → List Int → Prop} {S : α → β → List Int → Prop} {T : β → List Int → Prop} (h : Good x R) (hf : ∀ a, Good (f a) (S a))
    (hT : ∀ b l, (∃ a l1 l2, l = l1 ++ l2 ∧ R a l1 ∧ S a b l2) ↔ T b l) : Good (rdThen x f) T :=
  (h.then (fun a _ _ => hf a) (fun a => (hf a).err)).iff hT
def endIn (v : Int) : Prop := -2147483648 ≤ v ∧ v ≤ 2147483648
def numIn (v : Int) : Prop := -2147483647 ≤ v ∧ v ≤ 2147483647
def boxIn (x : Box) : Prop := ∀ p ∈ x, endIn p.1 ∧ endIn p.2
theorem good_end : Good rdEnd (fun v l => l = varint v ∧ endIn v) := good_range _ _ (by omega) (by omega)
theorem good_num : Good rdNum (fun v l => l = varint v ∧ numIn v) := good_range _ _ (by omega) (by omega)
def RBox (n : Nat) (x : Box) (l : List Int) : Prop := x.length = n ∧ l = boxBytes x ∧ boxIn x
theorem prep_then {α : Type} (ys : List α) (x : Rd (List α)) : (fun r => prep ys (x r)) = rdThen x fun xs => rdRet (ys ++ xs) := by
  funext r
  rcases h : x r with ⟨e | xs, r1⟩
  · rw [rdThen_err h]; rfl
  · rw [rdThen_ok h]; rfl
theorem rdBox_succ (k : Nat) : rdBox (k + 1) = rdThen rdEnd fun lo => rdThen rdEnd fun hi => rdThen (rdBox k) fun xs => rdRet ([(lo, hi)] ++ xs) := by
  funext bs
  simp only [rdBox]
  rcases h1 : rdEnd bs with ⟨e | lo, r1⟩
  · rw [rdThen_err h1]
  rw [rdThen_ok h1]
  simp only []
  rcases h2 : rdEnd r1 with ⟨e | hi, r2⟩
  · rw [rdThen_err h2]
  rw [rdThen_ok h2, ← prep_then]
theorem good_box : ∀ n, Good (rdBox n) (RBox n)
  | 0 => by
    have h : rdBox 0 = rdRet [] := rfl
    rw [h]
    refine (Good.ret []).iff fun x l => ?_
    constructor
    · rintro ⟨rfl, rfl⟩; exact ⟨rfl, rfl, fun p hp => by cases hp⟩
    · rintro ⟨h, rfl, -⟩
      have : x = [] := List.length_eq_zero_iff.1 h
      subst this; exact ⟨rfl, rfl⟩
  | k + 1 => by
    rw [rdBox_succ]
    refine good_end.bind (fun lo => good_end.bind (fun hi => (good_box k).bind (fun xs => Good.ret _) fun b l => Iff.rfl) fun b l => Iff.rfl) fun x l => ?_
    constructor
    · rintro ⟨lo, l1, l2, rfl, ⟨rfl, h1⟩, hi, l3, l4, rfl, ⟨rfl, h2⟩, xs, l5, l6, rfl, ⟨rfl, rfl, h3⟩, rfl, rfl⟩
      refine ⟨by simp, by simp [boxBytes], ?_⟩
      intro p hp
      simp only [List.cons_append, List.nil_append, List.mem_cons] at hp
      rcases hp with rfl | hp
      · exact ⟨h1, h2⟩
      · exact h3 p hp
    · rintro ⟨hl, rfl, hx⟩
      cases x with
      | nil => cases hl
      | cons p xs =>
        have hp := hx p (by simp)
        exact ⟨p.1, varint p.1, varint p.2 ++ boxBytes xs, by simp [boxBytes], ⟨rfl, hp.1⟩, p.2, varint p.2, boxBytes xs, rfl, ⟨rfl, hp.2⟩, xs, boxBytes xs, [], by simp, ⟨by simpa using hl, rfl, fun q hq => hx q (by simp [hq])⟩, rfl, rfl⟩
def RStep (n : Nat) (s : Step) (l : List Int) : Prop := l = stepBytes s ∧ numIn s.h ∧ numIn s.o ∧ s.pre.length = n ∧ s.to.length = n ∧ boxIn s.pre ∧ boxIn s.to
theorem good_step (n : Nat) : Good (rdStep n) (RStep n) := by
  unfold rdStep
  refine good_num.bind (fun h => good_num.bind (fun o => (good_box n).bind (fun p => (good_box n).bind (fun q => Good.ret _) fun b l => Iff.rfl) fun b l => Iff.rfl) fun b l => Iff.rfl) fun s l => ?_
  constructor
  · rintro ⟨h, l1, l2, rfl, ⟨rfl, h1⟩, o, l3, l4, rfl, ⟨rfl, h2⟩, p, l5, l6, rfl, ⟨hp1, rfl, hp2⟩, q, l7, l8, rfl, ⟨hq1, rfl, hq2⟩, rfl, rfl⟩
    exact ⟨by simp [stepBytes], h1, h2, hp1, hq1, hp2, hq2⟩
  · rintro ⟨rfl, h1, h2, h3, h4, h5, h6⟩
    exact ⟨s.h, varint s.h, _, by unfold stepBytes; rw [List.append_assoc, List.append_assoc], ⟨rfl, h1⟩, s.o, varint s.o, boxBytes s.pre ++ boxBytes s.to, rfl, ⟨rfl, h2⟩, s.pre, boxBytes s.pre, boxBytes s.to, rfl, ⟨h3, rfl, h5⟩, s.to, boxBytes s.to, [], by simp, ⟨h4, rfl, h6⟩, rfl, rfl⟩
def stepOk (n : Nat) (s : Step) : Prop := numIn s.h ∧ numIn s.o ∧ s.pre.length = n ∧ s.to.length = n ∧ boxIn s.pre ∧ boxIn s.to
def RSteps (n k : Nat) (xs : List Step) (l : List Int) : Prop := xs.length = k ∧ l = stepsBytes xs ∧ ∀ s ∈ xs, stepOk n s
theorem good_steps (n : Nat) : ∀ k, Good (rdSteps n k) (RSteps n k)
  | 0 => by
    have h : rdSteps n 0 = rdRet [] := rfl
    rw [h]
    refine (Good.ret []).iff fun x l => ?_
    constructor
    · rintro ⟨rfl, rfl⟩; exact ⟨rfl, rfl, fun p hp => by cases hp⟩
    · rintro ⟨h, rfl, -⟩
      have : x = [] := List.length_eq_zero_iff.1 h
      subst this; exact ⟨rfl, rfl⟩
  | k + 1 => by
    have h : rdSteps n (k + 1) = rdThen (rdStep n) fun s => rdThen (rdSteps n k) fun xs => rdRet ([s] ++ xs) := by
      show (rdThen (rdStep n) fun s => fun r => prep [s] (rdSteps n k r)) = _
      congr 1
      funext s
      exact prep_then [s] (rdSteps n k)
    rw [h]
    refine (good_step n).bind (fun s => (good_steps n k).bind (fun xs => Good.ret _) fun b l => Iff.rfl) fun x l => ?_
    constructor
    · rintro ⟨s, l1, l2, rfl, ⟨rfl, hs⟩, xs, l5, l6, rfl, ⟨rfl, rfl, h3⟩, rfl, rfl⟩
      refine ⟨by simp, by simp [stepsBytes], ?_⟩
      intro p hp
      simp only [List.cons_append, List.nil_append, List.mem_cons] at hp
      rcases hp with rfl | hp
      · exact hs
      · exact h3 p hp
    · rintro ⟨hl, rfl, hx⟩
      cases x with
      | nil => cases hl
      | cons s xs =>
        exact ⟨s, stepBytes s, stepsBytes xs, by simp [stepsBytes], ⟨rfl, hx s (by simp)⟩, xs, stepsBytes xs, [], by simp, ⟨by simpa using hl, rfl, fun q hq => hx q (by simp [hq])⟩, rfl, rfl⟩
def certOk (c : Cert) : Prop := numIn c.t ∧ 1 ≤ c.fr.length ∧ c.fr.length ≤ 6 ∧ boxIn c.fr ∧ 1 ≤ c.l.length ∧ c.l.length ≤ 256 ∧ ∀ s ∈ c.l, stepOk c.fr.length s
def rdPre : Rd Cert := rdThen rdNum fun t => rdThen (rdRange 1 6) fun n => rdThen (rdBox n.toNat) fun f => rdThen (rdRange 1 256) fun k => rdThen (rdSteps n.toNat k.toNat) fun l => rdRet ⟨t, f, l⟩
theorem good_pre : Good rdPre (fun c l => l = encB c ∧ certOk c) := by
  unfold rdPre
  refine good_num.bind (fun t => (good_range 1 6 (by omega) (by omega)).bind (fun n => (good_box _).bind (fun f => (good_range 1 256 (by omega) (by omega)).bind (fun k => (good_steps _ _).bind (fun l => Good.ret _) fun b l => Iff.rfl) fun b l => Iff.rfl) fun b l => Iff.rfl) fun b l => Iff.rfl) fun c l => ?_
  constructor
  · rintro ⟨t, l1, l2, rfl, ⟨rfl, h1⟩, n, l3, l4, rfl, ⟨rfl, h2⟩, f, l5, l6, rfl, ⟨hf1, rfl, hf2⟩, k, l7, l8, rfl, ⟨rfl, h3⟩, xs, l9, l10, rfl, ⟨hx1, rfl, hx2⟩, rfl, rfl⟩
    have e1 : n = (f.length : Int) := by omega
    have e2 : k = (xs.length : Int) := by omega
    refine ⟨by simp [encB, headBytes, ← e1, ← e2], h1, by simp only []; omega, by simp only []; omega, hf2, by simp only []; omega, by simp only []; omega, ?_⟩
    rw [← hf1] at hx2
    exact hx2
  · rintro ⟨rfl, h1, h2, h3, h4, h5, h6, h7⟩
    exact ⟨c.t, varint c.t, varint c.fr.length ++ (boxBytes c.fr ++ (varint c.l.length ++ stepsBytes c.l)), by simp [encB, headBytes], ⟨rfl, h1⟩, c.fr.length, _, _, rfl, ⟨rfl, by omega, by omega⟩, c.fr, boxBytes c.fr, varint c.l.length ++ stepsBytes c.l, rfl, ⟨by simp, rfl, h4⟩, c.l.length, _, _, rfl, ⟨rfl, by omega, by omega⟩, c.l, stepsBytes c.l, [], by simp, ⟨by simp, rfl, by simpa using h7⟩, rfl, rfl⟩
theorem rdThen_assoc {α β γ : Type} (x : Rd α) (f : α → Rd β) (g : β → Rd γ) : rdThen (rdThen x f) g = rdThen x fun a => rdThen (f a) g := by
  funext bs
  rcases h : x bs with ⟨e | a, r⟩
  · rw [rdThen_err h, rdThen_err (rdThen_err h)]
  · rw [rdThen_ok h]
    rcases h2 : f a r with ⟨e | b, r2⟩
    · rw [rdThen_err h2, rdThen_err ((rdThen_ok h).trans h2)]
    · rw [rdThen_ok h2, rdThen_ok ((rdThen_ok h).trans h2)]
theorem rdThen_ret {α β : Type} (a : α) (f : α → Rd β) : rdThen (rdRet a) f = f a := by funext bs; rfl
theorem rdCert_pre : rdCert = rdThen rdPre rdEnds := by
  unfold rdPre rdCert
  simp only [rdThen_assoc, rdThen_ret]
theorem ivB_endIn {p : Int × Int} (h : ivB p = true) : endIn p.1 ∧ endIn p.2 := by
  have := ivB_range h
  unfold endIn; omega
theorem boxB_in {b : Box} (h : boxB b = true) : boxIn b ∧ 1 ≤ b.length ∧ b.length ≤ 6 := by
  simp only [boxB, Bool.and_eq_true, List.all_eq_true, decide_eq_true_eq] at h
  exact ⟨fun p hp => ivB_endIn (h.1.1 p hp), h.1.2, h.2⟩
theorem stepsB_in {n : Nat} : ∀ {l : List Step} {t : Int}, stepsB n t l = true → ∀ s ∈ l, stepOk n s
  | [], t, h, s, hs => by cases hs
  | a :: r, t, h, s, hs => by
    simp only [stepsB, Bool.and_eq_true] at h
    rcases List.mem_cons.1 hs with rfl | hs
    · have := h.1
      simp only [stepB, Bool.and_eq_true, decide_eq_true_eq, beq_iff_eq] at this
      obtain ⟨⟨⟨⟨⟨⟨⟨⟨g1, g2⟩, g3⟩, g4⟩, g5⟩, g6⟩, g7⟩, g8⟩, g9⟩ := this
      have := numB_range g2
      exact ⟨by unfold numIn; omega, by unfold numIn; omega, g7, g8, (boxB_in g5).1, (boxB_in g6).1⟩
    · exact stepsB_in h.2 s hs
theorem certB_ok {c : Cert} (h : certB c = true) : certOk c := by
  simp only [certB, Bool.and_eq_true, decide_eq_true_eq] at h
  obtain ⟨⟨⟨⟨h1, h2⟩, h3⟩, h4⟩, h5⟩ := h
  have hb := boxB_in h4
  have ht := numB_range h3
  exact ⟨by unfold numIn; omega, hb.2.1, hb.2.2, hb.1, h1, h2, stepsB_in h5⟩
theorem dec_enc {c : Cert} (h : certB c = true) : rdCert (encB c) = (.ok c, []) := by
  have := good_pre.comp c (encB c) [] ⟨rfl, certB_ok h⟩
  rw [List.append_nil] at this
  rw [rdCert_pre, rdThen_ok this]
  simp [rdEnds, h]
theorem dec_cut {c : Cert} (h : certB c = true) {p q : List Int} (e : encB c = p ++ q) (hq : q ≠ []) : ∃ r, rdCert p = (.error 271, r) := by
  obtain ⟨r, hr⟩ := good_pre.cut c (encB c) p q ⟨rfl, certB_ok h⟩ e hq
  exact ⟨r, by rw [rdCert_pre, rdThen_err hr]⟩
theorem dec_long {c : Cert} (h : certB c = true) {s : List Int} (hs : s ≠ []) : ∃ r, rdCert (encB c ++ s) = (.error 272, r) := by
  have := good_pre.comp c (encB c) s ⟨rfl, certB_ok h⟩
  exact ⟨s, by rw [rdCert_pre, rdThen_ok this]; simp [rdEnds, hs]⟩
end Go.Proofs.YtfjjckepnkkgjaaGreatDoor.Arm.C1

namespace Go.Proofs.YtfjjckepnkkgjaaGreatDoor.Arm.C1
open Go.Arm
def want : List Int := [0, 2, 0, 2, 2, 4, 2, 0, 6, 4, 6]
theorem enc_want : encB (example_ 1) = want := by
  simp [encB, headBytes, stepsBytes, stepBytes, boxBytes, varint, zig, example_, vb_small, want]
theorem cert_ex1 : certB (example_ 1) = true := by rfl
theorem byteL_of {l : List Int} (h : (l.all fun x => decide (0 ≤ x) && decide (x ≤ 255)) = true) : byteL l := by
  intro x hx
  simp only [List.all_eq_true, Bool.and_eq_true, decide_eq_true_eq] at h
  exact h x hx
theorem d1 : decEnd want = .tuple [crt (example_ 1), .int .i64 0] := by
  unfold decEnd; rw [← enc_want, dec_enc cert_ex1]
theorem d2 : decEnd [0, 2, 0, 2, 2, 4, 2, 0, 6, 4] = .tuple [crt zeroCert, .int .i64 271] := by
  obtain ⟨r, hr⟩ := dec_cut cert_ex1 (p := [0, 2, 0, 2, 2, 4, 2, 0, 6, 4]) (q := [6]) enc_want (by simp)
  unfold decEnd; rw [hr]
theorem d3 : decEnd [0, 2, 0, 2, 2, 4, 16, 0, 6, 4, 6] = .tuple [crt zeroCert, .int .i64 272] := by rfl
theorem d4 : decEnd [0, 2, 0, 2, 2, 4, 2, 0, 6, 4, 6, 0] = .tuple [crt zeroCert, .int .i64 272] := by
  obtain ⟨r, hr⟩ := dec_long cert_ex1 (s := [0]) (by simp)
  rw [enc_want] at hr
  unfold decEnd; rw [show ([0, 2, 0, 2, 2, 4, 2, 0, 6, 4, 6, 0] : List Int) = want ++ [0] from rfl, hr]
theorem d5 : decEnd [128, 0] = .tuple [crt zeroCert, .int .i64 272] := by rfl
theorem d6 : decEnd [] = .tuple [crt zeroCert, .int .i64 271] := by rfl
def seg1 : Seg := ⟨0, 2, [(0, 1)], [(0, 3)], [(0, 3)], [(2, 3)]⟩
theorem segs1 : segs (example_ 1).t (example_ 1).fr (example_ 1).l = [seg1] := by rfl
theorem from1 : fromSegs [seg1] 1 = .tuple [crt (example_ 1), .bool true] := by rfl
theorem from8 : fromSegs [seg1] 8 = .tuple [crt zeroCert, .bool false] := by rfl
def dec (l : List Int) (c : Cert) (e : Int) : Prop := ∀ H, Sound E 43 [.slice (l.map u8) false] H (.ret (.tuple [crt c, .int .i64 e])) H
theorem dec_of {l : List Int} {c : Cert} {e : Int} (hb : byteL l) (hl : l.length ≤ 1000000000) (h : decEnd l = .tuple [crt c, .int .i64 e]) : dec l c e := fun H => by
  rw [← h]; exact s18 H l hb hl
end Go.Proofs.YtfjjckepnkkgjaaGreatDoor.Arm.C1

namespace Go.Proofs.YtfjjckepnkkgjaaGreatDoor.Arm.C1
open Go.Arm
theorem ex_t (o : Int) : (example_ o).t = 0 := rfl
theorem ex_fr (o : Int) : (example_ o).fr = [(0, 1)] := rfl
theorem ex_l (o : Int) : (example_ o).l = [⟨2, o, [(0, 3)], [(2, 3)]⟩] := rfl
theorem dw1 : dec want (example_ 1) 0 := dec_of (byteL_of rfl) (by simp [want]) d1
theorem dw2 : dec [0, 2, 0, 2, 2, 4, 2, 0, 6, 4] zeroCert 271 := dec_of (byteL_of rfl) (by simp) d2
theorem dw3 : dec [0, 2, 0, 2, 2, 4, 16, 0, 6, 4, 6] zeroCert 272 := dec_of (byteL_of rfl) (by simp) d3
theorem dw4 : dec [0, 2, 0, 2, 2, 4, 2, 0, 6, 4, 6, 0] zeroCert 272 := dec_of (byteL_of rfl) (by simp) d4
theorem dw5 : dec [128, 0] zeroCert 272 := dec_of (byteL_of rfl) (by simp) d5
theorem dw6 : dec [] zeroCert 271 := dec_of (byteL_of rfl) (by simp) d6
theorem q19 (Hx : AH) : Sound E 78 [.slice (want.map u8) false, .slice (want.map u8) false] Hx (.ret (.bool true)) Hx := by
  have := s19 want want (by simp [want]) Hx
  rwa [decide_eq_true rfl] at this
theorem q16 (Hx : AH) : Sound E 45 [crt (example_ 1), crt (example_ 1)] Hx (.ret (.bool true)) Hx := by
  have := s16 (example_ 1) (example_ 1) (by simp [ex_fr]) (by simp [ex_l]) (by simp [ex_l]) Hx
  rwa [decide_eq_true rfl] at this
theorem q24 (b : Box) (hb : b.length ≤ 9223372036854775807) (Hx : AH) : Sound E 19 [.slice (b.map iv) false, .slice (b.map iv) false] Hx (.ret (.bool true)) Hx := by
  have := s24 b b hb Hx
  rwa [decide_eq_true rfl] at this
theorem q21 (Hx : AH) : Sound E 79 [crt (example_ 1)] Hx (.ret (.bool true)) Hx := s21 (example_ 1) (by simp [ex_fr]) (by simp [ex_l]) Hx
theorem q21' (Hx : AH) : Sound E 79 [crt (example_ 8)] Hx (.ret (.bool false)) Hx := s21 (example_ 8) (by simp [ex_fr]) (by simp [ex_l]) Hx
theorem q21z (Hx : AH) : Sound E 79 [crt zeroCert] Hx (.ret (.bool false)) Hx := s21 zeroCert (by simp [zeroCert]) (by simp [zeroCert]) Hx
theorem q25 (Hx : AH) : Sound E 80 [crt (example_ 1), .int .i64 (-5)] Hx (.ret (crt (example_ 1))) Hx := s25 (example_ 1) (-5) Hx
theorem q25' (Hx : AH) : Sound E 80 [crt (example_ 1), .int .i64 7] Hx (.ret (crt (example_ 1))) Hx := s25 (example_ 1) 7 Hx
set_option maxRecDepth 10000 in
theorem s9 (H : AH) : Sound E 37 [] H (.ret (.bool true)) H := by
  refine sound_of_awp tabOk mixed Tryz.func37 rfl (by rfl) Tryz.ntmps37 (by kernel_rfl) (by simp) ?_
  have h17 := fun Hx => s17 (example_ 1) (by unfold rngI; simp [ex_t]) (by unfold boxRng rngI; simp [ex_fr]) (by unfold boxRng rngI; simp [ex_l]) (by simp [ex_l]) (by rw [enc_want]; simp [want]) Hx
  have h22 := fun Hx => s22 (example_ 1) cert_ex1 Hx
  have h27 := fun o Hx => s27 o Hx
  rw [segs1] at h22
  rw [enc_want] at h17
  simp
  refine call_ret (h27 1 _) ?_
  simp
  refine call_ret (h17 _) ?_
  simp [want]
  refine call_conv (dw1 _) (by rfl) ?_
  simp
  refine call_conv (dw2 _) (by rfl) ?_
  simp
  refine call_conv (dw3 _) (by rfl) ?_
  simp
  simp [appendA, growA, growNew]
  refine call_conv0 (dw4 _) (by simp [u8]; rfl) ?_
  simp
  refine call_conv (dw5 _) (by rfl) ?_
  simp
  refine call_conv (dw6 _) (by rfl) ?_
  simp
  refine call_ret (h22 _) ?_
  simp
  refine call_ret (s14 [seg1] 1 (by simp) (by intro s hs; simp at hs; subst hs; simp [bxs, seg1]) _) ?_
  rw [from1]
  simp
  refine call_ret (s14 [seg1] 8 (by simp) (by intro s hs; simp at hs; subst hs; simp [bxs, seg1]) _) ?_
  rw [from8]
  simp
  refine callD_conv0 q19 (fun Hx => by rfl) ?_
  simp
  refine callD_ret0 q16 ?_
  simp [seg1, ex_l, ex_fr]
  refine callD_ret0 (q24 [(0, 3)] (by simp)) ?_
  simp [seg1, ex_l, ex_fr]
  refine callD_ret0 (q24 [(0, 1)] (by simp)) ?_
  simp [ex_t, ex_l, ex_fr]
  refine callD_ret0 q16 ?_
  simp [ex_t, ex_l, ex_fr]
  refine callD_ret0 q21 ?_
  simp
  refine callD_ret0 (fun Hx => s27 8 Hx) ?_
  simp
  refine callD_ret0 q21' ?_
  simp
  refine callD_conv0 q21z (fun Hx => by rfl) ?_
  simp [ex_t, ex_l, ex_fr]
  refine callD_ret0 q25 ?_
  simp [ex_t, ex_l, ex_fr]
  refine callD_ret0 q16 ?_
  simp [ex_t, ex_l, ex_fr]
  refine callD_ret0 q25' ?_
  simp [ex_t, ex_l, ex_fr]
  refine callD_ret0 q16 ?_
  simp
  refine endD [] (by rfl) (by simp [okW, note, Eff.triv, Eff.wr, Eff.none, upTo, newAt]) ?_
  simp
  exact fin1 (rs := [.tmp 0]) (by rfl) (by simp [resA]) (by simp [noF])
end Go.Proofs.YtfjjckepnkkgjaaGreatDoor.Arm.C1
