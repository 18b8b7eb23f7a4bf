/- Part of a proof: what the functions of the program do to abstract states, step by step. -/
import Derived.Test.YtfjjckepnkkgjaaGreatDoorM2
import Derived.Test.YtfjjckepnkkgjaaGreatDoorChecked
import Derived.KernelRfl
set_option linter.unusedVariables false
set_option linter.unusedSimpArgs false
namespace Go.Proofs.YtfjjckepnkkgjaaGreatDoor.Arm
open Go.Arm
def i1 : TI := ⟨.func, 1, 8, .nilfunc, true⟩
theorem ok1 : TyOk Tryz.prog 1 i1 := ⟨by kernel_rfl, by kernel_rfl, fun _ => by kernel_rfl⟩
def i2 : TI := ⟨.int .i64, 1, 8, .int .i64 0, true⟩
theorem ok2 : TyOk Tryz.prog 2 i2 := ⟨by kernel_rfl, by kernel_rfl, fun _ => by kernel_rfl⟩
def i3 : TI := ⟨.int .i64, 1, 8, .int .i64 0, true⟩
theorem ok3 : TyOk Tryz.prog 3 i3 := ⟨by kernel_rfl, by kernel_rfl, fun _ => by kernel_rfl⟩
def i4 : TI := ⟨.bool, 1, 1, .bool false, true⟩
theorem ok4 : TyOk Tryz.prog 4 i4 := ⟨by kernel_rfl, by kernel_rfl, fun _ => by kernel_rfl⟩
def i5 : TI := ⟨.int .u8, 1, 1, .int .u8 0, true⟩
theorem ok5 : TyOk Tryz.prog 5 i5 := ⟨by kernel_rfl, by kernel_rfl, fun _ => by kernel_rfl⟩
def i6 : TI := ⟨.int .u8, 1, 1, .int .u8 0, true⟩
theorem ok6 : TyOk Tryz.prog 6 i6 := ⟨by kernel_rfl, by kernel_rfl, fun _ => by kernel_rfl⟩
def i7 : TI := ⟨.struct [(2, 0), (3, 1), (4, 2), (6, 3)], 4, 24, .agg [.int .i64 0, .int .i64 0, .bool false, .int .u8 0], true⟩
theorem ok7 : TyOk Tryz.prog 7 i7 := ⟨by kernel_rfl, by kernel_rfl, fun _ => by kernel_rfl⟩
def i8 : TI := ⟨.struct [(2, 0), (3, 1), (4, 2), (6, 3)], 4, 24, .agg [.int .i64 0, .int .i64 0, .bool false, .int .u8 0], true⟩
theorem ok8 : TyOk Tryz.prog 8 i8 := ⟨by kernel_rfl, by kernel_rfl, fun _ => by kernel_rfl⟩
def i9 : TI := ⟨.str, 1, 16, .str ⟨#[]⟩, true⟩
theorem ok9 : TyOk Tryz.prog 9 i9 := ⟨by kernel_rfl, by kernel_rfl, fun _ => by kernel_rfl⟩
def i10 : TI := ⟨.str, 1, 16, .str ⟨#[]⟩, true⟩
theorem ok10 : TyOk Tryz.prog 10 i10 := ⟨by kernel_rfl, by kernel_rfl, fun _ => by kernel_rfl⟩
def i11 : TI := ⟨.str, 1, 16, .str ⟨#[]⟩, true⟩
theorem ok11 : TyOk Tryz.prog 11 i11 := ⟨by kernel_rfl, by kernel_rfl, fun _ => by kernel_rfl⟩
def i12 : TI := ⟨.int .u64, 1, 8, .int .u64 0, true⟩
theorem ok12 : TyOk Tryz.prog 12 i12 := ⟨by kernel_rfl, by kernel_rfl, fun _ => by kernel_rfl⟩
def i13 : TI := ⟨.struct [(9, 0), (12, 1)], 2, 24, .agg [.str ⟨#[]⟩, .int .u64 0], false⟩
theorem ok13 : TyOk Tryz.prog 13 i13 := ⟨by kernel_rfl, by kernel_rfl, fun h => by cases h⟩
def i14 : TI := ⟨.struct [(9, 0), (12, 1)], 2, 24, .agg [.str ⟨#[]⟩, .int .u64 0], false⟩
theorem ok14 : TyOk Tryz.prog 14 i14 := ⟨by kernel_rfl, by kernel_rfl, fun h => by cases h⟩
def i15 : TI := ⟨.ptr, 1, 8, .nilptr, true⟩
theorem ok15 : TyOk Tryz.prog 15 i15 := ⟨by kernel_rfl, by kernel_rfl, fun _ => by kernel_rfl⟩
def i16 : TI := ⟨.ptr, 1, 8, .nilptr, true⟩
theorem ok16 : TyOk Tryz.prog 16 i16 := ⟨by kernel_rfl, by kernel_rfl, fun _ => by kernel_rfl⟩
def i17 : TI := ⟨.ptr, 1, 8, .nilptr, true⟩
theorem ok17 : TyOk Tryz.prog 17 i17 := ⟨by kernel_rfl, by kernel_rfl, fun _ => by kernel_rfl⟩
def i18 : TI := ⟨.struct [(17, 0)], 1, 8, .agg [.nilptr], false⟩
theorem ok18 : TyOk Tryz.prog 18 i18 := ⟨by kernel_rfl, by kernel_rfl, fun h => by cases h⟩
def i19 : TI := ⟨.struct [(17, 0)], 1, 8, .agg [.nilptr], false⟩
theorem ok19 : TyOk Tryz.prog 19 i19 := ⟨by kernel_rfl, by kernel_rfl, fun h => by cases h⟩
def i20 : TI := ⟨.iface, 1, 16, .niliface, true⟩
theorem ok20 : TyOk Tryz.prog 20 i20 := ⟨by kernel_rfl, by kernel_rfl, fun _ => by kernel_rfl⟩
def i21 : TI := ⟨.int .i32, 1, 4, .int .i32 0, true⟩
theorem ok21 : TyOk Tryz.prog 21 i21 := ⟨by kernel_rfl, by kernel_rfl, fun _ => by kernel_rfl⟩
def i22 : TI := ⟨.slice 63, 1, 24, .nilslice, true⟩
theorem ok22 : TyOk Tryz.prog 22 i22 := ⟨by kernel_rfl, by kernel_rfl, fun _ => by kernel_rfl⟩
def i23 : TI := ⟨.slice 3, 1, 24, .nilslice, true⟩
theorem ok23 : TyOk Tryz.prog 23 i23 := ⟨by kernel_rfl, by kernel_rfl, fun _ => by kernel_rfl⟩
def i24 : TI := ⟨.struct [(3, 0), (22, 1), (23, 2)], 3, 56, .agg [.int .i64 0, .nilslice, .nilslice], true⟩
theorem ok24 : TyOk Tryz.prog 24 i24 := ⟨by kernel_rfl, by kernel_rfl, fun _ => by kernel_rfl⟩
def i25 : TI := ⟨.struct [(3, 0), (22, 1), (23, 2)], 3, 56, .agg [.int .i64 0, .nilslice, .nilslice], true⟩
theorem ok25 : TyOk Tryz.prog 25 i25 := ⟨by kernel_rfl, by kernel_rfl, fun _ => by kernel_rfl⟩
def i26 : TI := ⟨.slice 54, 1, 24, .nilslice, true⟩
theorem ok26 : TyOk Tryz.prog 26 i26 := ⟨by kernel_rfl, by kernel_rfl, fun _ => by kernel_rfl⟩
def i27 : TI := ⟨.int .u16, 1, 2, .int .u16 0, true⟩
theorem ok27 : TyOk Tryz.prog 27 i27 := ⟨by kernel_rfl, by kernel_rfl, fun _ => by kernel_rfl⟩
def i28 : TI := ⟨.struct [(25, 0), (26, 3), (5, 4), (21, 5), (27, 6)], 7, 96, .agg [.int .i64 0, .nilslice, .nilslice, .nilslice, .int .u8 0, .int .i32 0, .int .u16 0], true⟩
theorem ok28 : TyOk Tryz.prog 28 i28 := ⟨by kernel_rfl, by kernel_rfl, fun _ => by kernel_rfl⟩
def i29 : TI := ⟨.struct [(25, 0), (26, 3), (5, 4), (21, 5), (27, 6)], 7, 96, .agg [.int .i64 0, .nilslice, .nilslice, .nilslice, .int .u8 0, .int .i32 0, .int .u16 0], true⟩
theorem ok29 : TyOk Tryz.prog 29 i29 := ⟨by kernel_rfl, by kernel_rfl, fun _ => by kernel_rfl⟩
def i30 : TI := ⟨.func, 1, 8, .nilfunc, true⟩
theorem ok30 : TyOk Tryz.prog 30 i30 := ⟨by kernel_rfl, by kernel_rfl, fun _ => by kernel_rfl⟩
def i31 : TI := ⟨.struct [(3, 0), (2, 1), (2, 2), (2, 3), (2, 4)], 5, 40, .agg [.int .i64 0, .int .i64 0, .int .i64 0, .int .i64 0, .int .i64 0], true⟩
theorem ok31 : TyOk Tryz.prog 31 i31 := ⟨by kernel_rfl, by kernel_rfl, fun _ => by kernel_rfl⟩
def i32 : TI := ⟨.struct [(3, 0), (2, 1), (2, 2), (2, 3), (2, 4)], 5, 40, .agg [.int .i64 0, .int .i64 0, .int .i64 0, .int .i64 0, .int .i64 0], true⟩
theorem ok32 : TyOk Tryz.prog 32 i32 := ⟨by kernel_rfl, by kernel_rfl, fun _ => by kernel_rfl⟩
def i33 : TI := ⟨.struct [(32, 0), (2, 5), (2, 6)], 7, 56, .agg [.int .i64 0, .int .i64 0, .int .i64 0, .int .i64 0, .int .i64 0, .int .i64 0, .int .i64 0], true⟩
theorem ok33 : TyOk Tryz.prog 33 i33 := ⟨by kernel_rfl, by kernel_rfl, fun _ => by kernel_rfl⟩
def i34 : TI := ⟨.struct [(32, 0), (2, 5), (2, 6)], 7, 56, .agg [.int .i64 0, .int .i64 0, .int .i64 0, .int .i64 0, .int .i64 0, .int .i64 0, .int .i64 0], true⟩
theorem ok34 : TyOk Tryz.prog 34 i34 := ⟨by kernel_rfl, by kernel_rfl, fun _ => by kernel_rfl⟩
def i36 : TI := ⟨.func, 1, 8, .nilfunc, true⟩
theorem ok36 : TyOk Tryz.prog 36 i36 := ⟨by kernel_rfl, by kernel_rfl, fun _ => by kernel_rfl⟩
def i37 : TI := ⟨.slice 47, 1, 24, .nilslice, true⟩
theorem ok37 : TyOk Tryz.prog 37 i37 := ⟨by kernel_rfl, by kernel_rfl, fun _ => by kernel_rfl⟩
def i38 : TI := ⟨.int .i64, 1, 8, .int .i64 0, true⟩
theorem ok38 : TyOk Tryz.prog 38 i38 := ⟨by kernel_rfl, by kernel_rfl, fun _ => by kernel_rfl⟩
def i40 : TI := ⟨.func, 1, 8, .nilfunc, true⟩
theorem ok40 : TyOk Tryz.prog 40 i40 := ⟨by kernel_rfl, by kernel_rfl, fun _ => by kernel_rfl⟩
def i41 : TI := ⟨.func, 1, 8, .nilfunc, true⟩
theorem ok41 : TyOk Tryz.prog 41 i41 := ⟨by kernel_rfl, by kernel_rfl, fun _ => by kernel_rfl⟩
def i42 : TI := ⟨.func, 1, 8, .nilfunc, true⟩
theorem ok42 : TyOk Tryz.prog 42 i42 := ⟨by kernel_rfl, by kernel_rfl, fun _ => by kernel_rfl⟩
def i44 : TI := ⟨.func, 1, 8, .nilfunc, true⟩
theorem ok44 : TyOk Tryz.prog 44 i44 := ⟨by kernel_rfl, by kernel_rfl, fun _ => by kernel_rfl⟩
def i45 : TI := ⟨.func, 1, 8, .nilfunc, true⟩
theorem ok45 : TyOk Tryz.prog 45 i45 := ⟨by kernel_rfl, by kernel_rfl, fun _ => by kernel_rfl⟩
def i46 : TI := ⟨.struct [(2, 0), (2, 1), (26, 2), (26, 3), (26, 4), (26, 5)], 6, 112, .agg [.int .i64 0, .int .i64 0, .nilslice, .nilslice, .nilslice, .nilslice], true⟩
theorem ok46 : TyOk Tryz.prog 46 i46 := ⟨by kernel_rfl, by kernel_rfl, fun _ => by kernel_rfl⟩
def i47 : TI := ⟨.struct [(2, 0), (2, 1), (26, 2), (26, 3), (26, 4), (26, 5)], 6, 112, .agg [.int .i64 0, .int .i64 0, .nilslice, .nilslice, .nilslice, .nilslice], true⟩
theorem ok47 : TyOk Tryz.prog 47 i47 := ⟨by kernel_rfl, by kernel_rfl, fun _ => by kernel_rfl⟩
def i48 : TI := ⟨.func, 1, 8, .nilfunc, true⟩
theorem ok48 : TyOk Tryz.prog 48 i48 := ⟨by kernel_rfl, by kernel_rfl, fun _ => by kernel_rfl⟩
def i49 : TI := ⟨.int .u32, 1, 4, .int .u32 0, true⟩
theorem ok49 : TyOk Tryz.prog 49 i49 := ⟨by kernel_rfl, by kernel_rfl, fun _ => by kernel_rfl⟩
def i50 : TI := ⟨.arr 2 49, 2, 8, .agg [.int .u32 0, .int .u32 0], true⟩
theorem ok50 : TyOk Tryz.prog 50 i50 := ⟨by kernel_rfl, by kernel_rfl, fun _ => by kernel_rfl⟩
def i51 : TI := ⟨.func, 1, 8, .nilfunc, true⟩
theorem ok51 : TyOk Tryz.prog 51 i51 := ⟨by kernel_rfl, by kernel_rfl, fun _ => by kernel_rfl⟩
def i52 : TI := ⟨.func, 1, 8, .nilfunc, true⟩
theorem ok52 : TyOk Tryz.prog 52 i52 := ⟨by kernel_rfl, by kernel_rfl, fun _ => by kernel_rfl⟩
def i53 : TI := ⟨.struct [(2, 0), (2, 1)], 2, 16, .agg [.int .i64 0, .int .i64 0], true⟩
theorem ok53 : TyOk Tryz.prog 53 i53 := ⟨by kernel_rfl, by kernel_rfl, fun _ => by kernel_rfl⟩
def i54 : TI := ⟨.struct [(2, 0), (2, 1)], 2, 16, .agg [.int .i64 0, .int .i64 0], true⟩
theorem ok54 : TyOk Tryz.prog 54 i54 := ⟨by kernel_rfl, by kernel_rfl, fun _ => by kernel_rfl⟩
def i56 : TI := ⟨.func, 1, 8, .nilfunc, true⟩
theorem ok56 : TyOk Tryz.prog 56 i56 := ⟨by kernel_rfl, by kernel_rfl, fun _ => by kernel_rfl⟩
def i57 : TI := ⟨.func, 1, 8, .nilfunc, true⟩
theorem ok57 : TyOk Tryz.prog 57 i57 := ⟨by kernel_rfl, by kernel_rfl, fun _ => by kernel_rfl⟩
def i58 : TI := ⟨.func, 1, 8, .nilfunc, true⟩
theorem ok58 : TyOk Tryz.prog 58 i58 := ⟨by kernel_rfl, by kernel_rfl, fun _ => by kernel_rfl⟩
def i59 : TI := ⟨.func, 1, 8, .nilfunc, true⟩
theorem ok59 : TyOk Tryz.prog 59 i59 := ⟨by kernel_rfl, by kernel_rfl, fun _ => by kernel_rfl⟩
def i60 : TI := ⟨.func, 1, 8, .nilfunc, true⟩
theorem ok60 : TyOk Tryz.prog 60 i60 := ⟨by kernel_rfl, by kernel_rfl, fun _ => by kernel_rfl⟩
def i61 : TI := ⟨.arr 3 49, 3, 12, .agg [.int .u32 0, .int .u32 0, .int .u32 0], true⟩
theorem ok61 : TyOk Tryz.prog 61 i61 := ⟨by kernel_rfl, by kernel_rfl, fun _ => by kernel_rfl⟩
def i62 : TI := ⟨.struct [(3, 0), (3, 1), (3, 2), (54, 3)], 5, 40, .agg [.int .i64 0, .int .i64 0, .int .i64 0, .int .i64 0, .int .i64 0], true⟩
theorem ok62 : TyOk Tryz.prog 62 i62 := ⟨by kernel_rfl, by kernel_rfl, fun _ => by kernel_rfl⟩
def i63 : TI := ⟨.struct [(3, 0), (3, 1), (3, 2), (54, 3)], 5, 40, .agg [.int .i64 0, .int .i64 0, .int .i64 0, .int .i64 0, .int .i64 0], true⟩
theorem ok63 : TyOk Tryz.prog 63 i63 := ⟨by kernel_rfl, by kernel_rfl, fun _ => by kernel_rfl⟩
def i64 : TI := ⟨.func, 1, 8, .nilfunc, true⟩
theorem ok64 : TyOk Tryz.prog 64 i64 := ⟨by kernel_rfl, by kernel_rfl, fun _ => by kernel_rfl⟩
def i65 : TI := ⟨.func, 1, 8, .nilfunc, true⟩
theorem ok65 : TyOk Tryz.prog 65 i65 := ⟨by kernel_rfl, by kernel_rfl, fun _ => by kernel_rfl⟩
def i66 : TI := ⟨.func, 1, 8, .nilfunc, true⟩
theorem ok66 : TyOk Tryz.prog 66 i66 := ⟨by kernel_rfl, by kernel_rfl, fun _ => by kernel_rfl⟩
def i67 : TI := ⟨.func, 1, 8, .nilfunc, true⟩
theorem ok67 : TyOk Tryz.prog 67 i67 := ⟨by kernel_rfl, by kernel_rfl, fun _ => by kernel_rfl⟩
def i68 : TI := ⟨.struct [(37, 0), (5, 1), (2, 2), (54, 3), (3, 5)], 6, 64, .agg [.nilslice, .int .u8 0, .int .i64 0, .int .i64 0, .int .i64 0, .int .i64 0], true⟩
theorem ok68 : TyOk Tryz.prog 68 i68 := ⟨by kernel_rfl, by kernel_rfl, fun _ => by kernel_rfl⟩
def i69 : TI := ⟨.struct [(37, 0), (5, 1), (2, 2), (54, 3), (3, 5)], 6, 64, .agg [.nilslice, .int .u8 0, .int .i64 0, .int .i64 0, .int .i64 0, .int .i64 0], true⟩
theorem ok69 : TyOk Tryz.prog 69 i69 := ⟨by kernel_rfl, by kernel_rfl, fun _ => by kernel_rfl⟩
def i70 : TI := ⟨.func, 1, 8, .nilfunc, true⟩
theorem ok70 : TyOk Tryz.prog 70 i70 := ⟨by kernel_rfl, by kernel_rfl, fun _ => by kernel_rfl⟩
def i71 : TI := ⟨.func, 1, 8, .nilfunc, true⟩
theorem ok71 : TyOk Tryz.prog 71 i71 := ⟨by kernel_rfl, by kernel_rfl, fun _ => by kernel_rfl⟩
def i72 : TI := ⟨.func, 1, 8, .nilfunc, true⟩
theorem ok72 : TyOk Tryz.prog 72 i72 := ⟨by kernel_rfl, by kernel_rfl, fun _ => by kernel_rfl⟩
def i73 : TI := ⟨.func, 1, 8, .nilfunc, true⟩
theorem ok73 : TyOk Tryz.prog 73 i73 := ⟨by kernel_rfl, by kernel_rfl, fun _ => by kernel_rfl⟩
def i75 : TI := ⟨.func, 1, 8, .nilfunc, true⟩
theorem ok75 : TyOk Tryz.prog 75 i75 := ⟨by kernel_rfl, by kernel_rfl, fun _ => by kernel_rfl⟩
def i76 : TI := ⟨.func, 1, 8, .nilfunc, true⟩
theorem ok76 : TyOk Tryz.prog 76 i76 := ⟨by kernel_rfl, by kernel_rfl, fun _ => by kernel_rfl⟩
def i77 : TI := ⟨.func, 1, 8, .nilfunc, true⟩
theorem ok77 : TyOk Tryz.prog 77 i77 := ⟨by kernel_rfl, by kernel_rfl, fun _ => by kernel_rfl⟩
def i78 : TI := ⟨.slice 81, 1, 24, .nilslice, true⟩
theorem ok78 : TyOk Tryz.prog 78 i78 := ⟨by kernel_rfl, by kernel_rfl, fun _ => by kernel_rfl⟩
def i79 : TI := ⟨.func, 1, 8, .nilfunc, true⟩
theorem ok79 : TyOk Tryz.prog 79 i79 := ⟨by kernel_rfl, by kernel_rfl, fun _ => by kernel_rfl⟩
def i80 : TI := ⟨.struct [(3, 0), (54, 1), (26, 3)], 4, 48, .agg [.int .i64 0, .int .i64 0, .int .i64 0, .nilslice], true⟩
theorem ok80 : TyOk Tryz.prog 80 i80 := ⟨by kernel_rfl, by kernel_rfl, fun _ => by kernel_rfl⟩
def i81 : TI := ⟨.struct [(3, 0), (54, 1), (26, 3)], 4, 48, .agg [.int .i64 0, .int .i64 0, .int .i64 0, .nilslice], true⟩
theorem ok81 : TyOk Tryz.prog 81 i81 := ⟨by kernel_rfl, by kernel_rfl, fun _ => by kernel_rfl⟩
def i82 : TI := ⟨.func, 1, 8, .nilfunc, true⟩
theorem ok82 : TyOk Tryz.prog 82 i82 := ⟨by kernel_rfl, by kernel_rfl, fun _ => by kernel_rfl⟩
def i83 : TI := ⟨.func, 1, 8, .nilfunc, true⟩
theorem ok83 : TyOk Tryz.prog 83 i83 := ⟨by kernel_rfl, by kernel_rfl, fun _ => by kernel_rfl⟩
def i84 : TI := ⟨.func, 1, 8, .nilfunc, true⟩
theorem ok84 : TyOk Tryz.prog 84 i84 := ⟨by kernel_rfl, by kernel_rfl, fun _ => by kernel_rfl⟩
def i85 : TI := ⟨.slice 136, 1, 24, .nilslice, true⟩
theorem ok85 : TyOk Tryz.prog 85 i85 := ⟨by kernel_rfl, by kernel_rfl, fun _ => by kernel_rfl⟩
def i86 : TI := ⟨.struct [(85, 0), (26, 1), (5, 2), (21, 3), (27, 4)], 5, 64, .agg [.nilslice, .nilslice, .int .u8 0, .int .i32 0, .int .u16 0], true⟩
theorem ok86 : TyOk Tryz.prog 86 i86 := ⟨by kernel_rfl, by kernel_rfl, fun _ => by kernel_rfl⟩
def i87 : TI := ⟨.struct [(85, 0), (26, 1), (5, 2), (21, 3), (27, 4)], 5, 64, .agg [.nilslice, .nilslice, .int .u8 0, .int .i32 0, .int .u16 0], true⟩
theorem ok87 : TyOk Tryz.prog 87 i87 := ⟨by kernel_rfl, by kernel_rfl, fun _ => by kernel_rfl⟩
def i88 : TI := ⟨.func, 1, 8, .nilfunc, true⟩
theorem ok88 : TyOk Tryz.prog 88 i88 := ⟨by kernel_rfl, by kernel_rfl, fun _ => by kernel_rfl⟩
def i89 : TI := ⟨.slice 9, 1, 24, .nilslice, true⟩
theorem ok89 : TyOk Tryz.prog 89 i89 := ⟨by kernel_rfl, by kernel_rfl, fun _ => by kernel_rfl⟩
def i90 : TI := ⟨.struct [(89, 0), (85, 1)], 2, 48, .agg [.nilslice, .nilslice], true⟩
theorem ok90 : TyOk Tryz.prog 90 i90 := ⟨by kernel_rfl, by kernel_rfl, fun _ => by kernel_rfl⟩
def i91 : TI := ⟨.struct [(89, 0), (85, 1)], 2, 48, .agg [.nilslice, .nilslice], true⟩
theorem ok91 : TyOk Tryz.prog 91 i91 := ⟨by kernel_rfl, by kernel_rfl, fun _ => by kernel_rfl⟩
def i92 : TI := ⟨.func, 1, 8, .nilfunc, true⟩
theorem ok92 : TyOk Tryz.prog 92 i92 := ⟨by kernel_rfl, by kernel_rfl, fun _ => by kernel_rfl⟩
def i93 : TI := ⟨.func, 1, 8, .nilfunc, true⟩
theorem ok93 : TyOk Tryz.prog 93 i93 := ⟨by kernel_rfl, by kernel_rfl, fun _ => by kernel_rfl⟩
def i94 : TI := ⟨.slice 101, 1, 24, .nilslice, true⟩
theorem ok94 : TyOk Tryz.prog 94 i94 := ⟨by kernel_rfl, by kernel_rfl, fun _ => by kernel_rfl⟩
def i95 : TI := ⟨.struct [(2, 0), (26, 1), (94, 2)], 3, 56, .agg [.int .i64 0, .nilslice, .nilslice], true⟩
theorem ok95 : TyOk Tryz.prog 95 i95 := ⟨by kernel_rfl, by kernel_rfl, fun _ => by kernel_rfl⟩
def i96 : TI := ⟨.struct [(2, 0), (26, 1), (94, 2)], 3, 56, .agg [.int .i64 0, .nilslice, .nilslice], true⟩
theorem ok96 : TyOk Tryz.prog 96 i96 := ⟨by kernel_rfl, by kernel_rfl, fun _ => by kernel_rfl⟩
def i98 : TI := ⟨.func, 1, 8, .nilfunc, true⟩
theorem ok98 : TyOk Tryz.prog 98 i98 := ⟨by kernel_rfl, by kernel_rfl, fun _ => by kernel_rfl⟩
def i99 : TI := ⟨.func, 1, 8, .nilfunc, true⟩
theorem ok99 : TyOk Tryz.prog 99 i99 := ⟨by kernel_rfl, by kernel_rfl, fun _ => by kernel_rfl⟩
def i100 : TI := ⟨.struct [(2, 0), (3, 1), (26, 2), (26, 3)], 4, 64, .agg [.int .i64 0, .int .i64 0, .nilslice, .nilslice], true⟩
theorem ok100 : TyOk Tryz.prog 100 i100 := ⟨by kernel_rfl, by kernel_rfl, fun _ => by kernel_rfl⟩
def i101 : TI := ⟨.struct [(2, 0), (3, 1), (26, 2), (26, 3)], 4, 64, .agg [.int .i64 0, .int .i64 0, .nilslice, .nilslice], true⟩
theorem ok101 : TyOk Tryz.prog 101 i101 := ⟨by kernel_rfl, by kernel_rfl, fun _ => by kernel_rfl⟩
def i103 : TI := ⟨.func, 1, 8, .nilfunc, true⟩
theorem ok103 : TyOk Tryz.prog 103 i103 := ⟨by kernel_rfl, by kernel_rfl, fun _ => by kernel_rfl⟩
def i104 : TI := ⟨.slice 5, 1, 24, .nilslice, true⟩
theorem ok104 : TyOk Tryz.prog 104 i104 := ⟨by kernel_rfl, by kernel_rfl, fun _ => by kernel_rfl⟩
def i105 : TI := ⟨.func, 1, 8, .nilfunc, true⟩
theorem ok105 : TyOk Tryz.prog 105 i105 := ⟨by kernel_rfl, by kernel_rfl, fun _ => by kernel_rfl⟩
def i106 : TI := ⟨.func, 1, 8, .nilfunc, true⟩
theorem ok106 : TyOk Tryz.prog 106 i106 := ⟨by kernel_rfl, by kernel_rfl, fun _ => by kernel_rfl⟩
def i107 : TI := ⟨.func, 1, 8, .nilfunc, true⟩
theorem ok107 : TyOk Tryz.prog 107 i107 := ⟨by kernel_rfl, by kernel_rfl, fun _ => by kernel_rfl⟩
def i108 : TI := ⟨.func, 1, 8, .nilfunc, true⟩
theorem ok108 : TyOk Tryz.prog 108 i108 := ⟨by kernel_rfl, by kernel_rfl, fun _ => by kernel_rfl⟩
def i109 : TI := ⟨.func, 1, 8, .nilfunc, true⟩
theorem ok109 : TyOk Tryz.prog 109 i109 := ⟨by kernel_rfl, by kernel_rfl, fun _ => by kernel_rfl⟩
def i110 : TI := ⟨.func, 1, 8, .nilfunc, true⟩
theorem ok110 : TyOk Tryz.prog 110 i110 := ⟨by kernel_rfl, by kernel_rfl, fun _ => by kernel_rfl⟩
def i111 : TI := ⟨.func, 1, 8, .nilfunc, true⟩
theorem ok111 : TyOk Tryz.prog 111 i111 := ⟨by kernel_rfl, by kernel_rfl, fun _ => by kernel_rfl⟩
def i112 : TI := ⟨.func, 1, 8, .nilfunc, true⟩
theorem ok112 : TyOk Tryz.prog 112 i112 := ⟨by kernel_rfl, by kernel_rfl, fun _ => by kernel_rfl⟩
def i113 : TI := ⟨.func, 1, 8, .nilfunc, true⟩
theorem ok113 : TyOk Tryz.prog 113 i113 := ⟨by kernel_rfl, by kernel_rfl, fun _ => by kernel_rfl⟩
def i114 : TI := ⟨.func, 1, 8, .nilfunc, true⟩
theorem ok114 : TyOk Tryz.prog 114 i114 := ⟨by kernel_rfl, by kernel_rfl, fun _ => by kernel_rfl⟩
def i115 : TI := ⟨.struct [(32, 0), (2, 5), (2, 6), (2, 7)], 8, 64, .agg [.int .i64 0, .int .i64 0, .int .i64 0, .int .i64 0, .int .i64 0, .int .i64 0, .int .i64 0, .int .i64 0], true⟩
theorem ok115 : TyOk Tryz.prog 115 i115 := ⟨by kernel_rfl, by kernel_rfl, fun _ => by kernel_rfl⟩
def i116 : TI := ⟨.struct [(32, 0), (2, 5), (2, 6), (2, 7)], 8, 64, .agg [.int .i64 0, .int .i64 0, .int .i64 0, .int .i64 0, .int .i64 0, .int .i64 0, .int .i64 0, .int .i64 0], true⟩
theorem ok116 : TyOk Tryz.prog 116 i116 := ⟨by kernel_rfl, by kernel_rfl, fun _ => by kernel_rfl⟩
def i118 : TI := ⟨.func, 1, 8, .nilfunc, true⟩
theorem ok118 : TyOk Tryz.prog 118 i118 := ⟨by kernel_rfl, by kernel_rfl, fun _ => by kernel_rfl⟩
def i119 : TI := ⟨.func, 1, 8, .nilfunc, true⟩
theorem ok119 : TyOk Tryz.prog 119 i119 := ⟨by kernel_rfl, by kernel_rfl, fun _ => by kernel_rfl⟩
def i120 : TI := ⟨.arr 4 26, 4, 96, .agg [.nilslice, .nilslice, .nilslice, .nilslice], true⟩
theorem ok120 : TyOk Tryz.prog 120 i120 := ⟨by kernel_rfl, by kernel_rfl, fun _ => by kernel_rfl⟩
def i121 : TI := ⟨.func, 1, 8, .nilfunc, true⟩
theorem ok121 : TyOk Tryz.prog 121 i121 := ⟨by kernel_rfl, by kernel_rfl, fun _ => by kernel_rfl⟩
def i122 : TI := ⟨.func, 1, 8, .nilfunc, true⟩
theorem ok122 : TyOk Tryz.prog 122 i122 := ⟨by kernel_rfl, by kernel_rfl, fun _ => by kernel_rfl⟩
def i123 : TI := ⟨.func, 1, 8, .nilfunc, true⟩
theorem ok123 : TyOk Tryz.prog 123 i123 := ⟨by kernel_rfl, by kernel_rfl, fun _ => by kernel_rfl⟩
def i124 : TI := ⟨.func, 1, 8, .nilfunc, true⟩
theorem ok124 : TyOk Tryz.prog 124 i124 := ⟨by kernel_rfl, by kernel_rfl, fun _ => by kernel_rfl⟩
def i125 : TI := ⟨.func, 1, 8, .nilfunc, true⟩
theorem ok125 : TyOk Tryz.prog 125 i125 := ⟨by kernel_rfl, by kernel_rfl, fun _ => by kernel_rfl⟩
def i126 : TI := ⟨.func, 1, 8, .nilfunc, true⟩
theorem ok126 : TyOk Tryz.prog 126 i126 := ⟨by kernel_rfl, by kernel_rfl, fun _ => by kernel_rfl⟩
def i127 : TI := ⟨.func, 1, 8, .nilfunc, true⟩
theorem ok127 : TyOk Tryz.prog 127 i127 := ⟨by kernel_rfl, by kernel_rfl, fun _ => by kernel_rfl⟩
def i128 : TI := ⟨.func, 1, 8, .nilfunc, true⟩
theorem ok128 : TyOk Tryz.prog 128 i128 := ⟨by kernel_rfl, by kernel_rfl, fun _ => by kernel_rfl⟩
def i129 : TI := ⟨.func, 1, 8, .nilfunc, true⟩
theorem ok129 : TyOk Tryz.prog 129 i129 := ⟨by kernel_rfl, by kernel_rfl, fun _ => by kernel_rfl⟩
def i130 : TI := ⟨.func, 1, 8, .nilfunc, true⟩
theorem ok130 : TyOk Tryz.prog 130 i130 := ⟨by kernel_rfl, by kernel_rfl, fun _ => by kernel_rfl⟩
def i131 : TI := ⟨.func, 1, 8, .nilfunc, true⟩
theorem ok131 : TyOk Tryz.prog 131 i131 := ⟨by kernel_rfl, by kernel_rfl, fun _ => by kernel_rfl⟩
def i132 : TI := ⟨.func, 1, 8, .nilfunc, true⟩
theorem ok132 : TyOk Tryz.prog 132 i132 := ⟨by kernel_rfl, by kernel_rfl, fun _ => by kernel_rfl⟩
def i133 : TI := ⟨.func, 1, 8, .nilfunc, true⟩
theorem ok133 : TyOk Tryz.prog 133 i133 := ⟨by kernel_rfl, by kernel_rfl, fun _ => by kernel_rfl⟩
def i134 : TI := ⟨.func, 1, 8, .nilfunc, true⟩
theorem ok134 : TyOk Tryz.prog 134 i134 := ⟨by kernel_rfl, by kernel_rfl, fun _ => by kernel_rfl⟩
def i135 : TI := ⟨.func, 1, 8, .nilfunc, true⟩
theorem ok135 : TyOk Tryz.prog 135 i135 := ⟨by kernel_rfl, by kernel_rfl, fun _ => by kernel_rfl⟩
def i136 : TI := ⟨.slice 167, 1, 24, .nilslice, true⟩
theorem ok136 : TyOk Tryz.prog 136 i136 := ⟨by kernel_rfl, by kernel_rfl, fun _ => by kernel_rfl⟩
def i138 : TI := ⟨.func, 1, 8, .nilfunc, true⟩
theorem ok138 : TyOk Tryz.prog 138 i138 := ⟨by kernel_rfl, by kernel_rfl, fun _ => by kernel_rfl⟩
def i139 : TI := ⟨.func, 1, 8, .nilfunc, true⟩
theorem ok139 : TyOk Tryz.prog 139 i139 := ⟨by kernel_rfl, by kernel_rfl, fun _ => by kernel_rfl⟩
def i141 : TI := ⟨.func, 1, 8, .nilfunc, true⟩
theorem ok141 : TyOk Tryz.prog 141 i141 := ⟨by kernel_rfl, by kernel_rfl, fun _ => by kernel_rfl⟩
def i142 : TI := ⟨.ptr, 1, 8, .nilptr, true⟩
theorem ok142 : TyOk Tryz.prog 142 i142 := ⟨by kernel_rfl, by kernel_rfl, fun _ => by kernel_rfl⟩
def i143 : TI := ⟨.struct [(104, 0)], 1, 24, .agg [.nilslice], true⟩
theorem ok143 : TyOk Tryz.prog 143 i143 := ⟨by kernel_rfl, by kernel_rfl, fun _ => by kernel_rfl⟩
def i144 : TI := ⟨.struct [(104, 0)], 1, 24, .agg [.nilslice], true⟩
theorem ok144 : TyOk Tryz.prog 144 i144 := ⟨by kernel_rfl, by kernel_rfl, fun _ => by kernel_rfl⟩
def i145 : TI := ⟨.func, 1, 8, .nilfunc, true⟩
theorem ok145 : TyOk Tryz.prog 145 i145 := ⟨by kernel_rfl, by kernel_rfl, fun _ => by kernel_rfl⟩
def i146 : TI := ⟨.func, 1, 8, .nilfunc, true⟩
theorem ok146 : TyOk Tryz.prog 146 i146 := ⟨by kernel_rfl, by kernel_rfl, fun _ => by kernel_rfl⟩
def i147 : TI := ⟨.func, 1, 8, .nilfunc, true⟩
theorem ok147 : TyOk Tryz.prog 147 i147 := ⟨by kernel_rfl, by kernel_rfl, fun _ => by kernel_rfl⟩
def i148 : TI := ⟨.func, 1, 8, .nilfunc, true⟩
theorem ok148 : TyOk Tryz.prog 148 i148 := ⟨by kernel_rfl, by kernel_rfl, fun _ => by kernel_rfl⟩
def i149 : TI := ⟨.func, 1, 8, .nilfunc, true⟩
theorem ok149 : TyOk Tryz.prog 149 i149 := ⟨by kernel_rfl, by kernel_rfl, fun _ => by kernel_rfl⟩
def i151 : TI := ⟨.func, 1, 8, .nilfunc, true⟩
theorem ok151 : TyOk Tryz.prog 151 i151 := ⟨by kernel_rfl, by kernel_rfl, fun _ => by kernel_rfl⟩
def i152 : TI := ⟨.struct [(2, 0), (2, 1)], 2, 16, .agg [.int .i64 0, .int .i64 0], true⟩
theorem ok152 : TyOk Tryz.prog 152 i152 := ⟨by kernel_rfl, by kernel_rfl, fun _ => by kernel_rfl⟩
def i153 : TI := ⟨.struct [(2, 0), (2, 1)], 2, 16, .agg [.int .i64 0, .int .i64 0], true⟩
theorem ok153 : TyOk Tryz.prog 153 i153 := ⟨by kernel_rfl, by kernel_rfl, fun _ => by kernel_rfl⟩
def i154 : TI := ⟨.func, 1, 8, .nilfunc, true⟩
theorem ok154 : TyOk Tryz.prog 154 i154 := ⟨by kernel_rfl, by kernel_rfl, fun _ => by kernel_rfl⟩
def i155 : TI := ⟨.iface, 1, 16, .niliface, false⟩
theorem ok155 : TyOk Tryz.prog 155 i155 := ⟨by kernel_rfl, by kernel_rfl, fun h => by cases h⟩
def i156 : TI := ⟨.iface, 1, 16, .niliface, false⟩
theorem ok156 : TyOk Tryz.prog 156 i156 := ⟨by kernel_rfl, by kernel_rfl, fun h => by cases h⟩
def i157 : TI := ⟨.iface, 1, 16, .niliface, false⟩
theorem ok157 : TyOk Tryz.prog 157 i157 := ⟨by kernel_rfl, by kernel_rfl, fun h => by cases h⟩
def i158 : TI := ⟨.iface, 1, 16, .niliface, false⟩
theorem ok158 : TyOk Tryz.prog 158 i158 := ⟨by kernel_rfl, by kernel_rfl, fun h => by cases h⟩
def i159 : TI := ⟨.func, 1, 8, .nilfunc, true⟩
theorem ok159 : TyOk Tryz.prog 159 i159 := ⟨by kernel_rfl, by kernel_rfl, fun _ => by kernel_rfl⟩
def i160 : TI := ⟨.func, 1, 8, .nilfunc, true⟩
theorem ok160 : TyOk Tryz.prog 160 i160 := ⟨by kernel_rfl, by kernel_rfl, fun _ => by kernel_rfl⟩
def i162 : TI := ⟨.func, 1, 8, .nilfunc, true⟩
theorem ok162 : TyOk Tryz.prog 162 i162 := ⟨by kernel_rfl, by kernel_rfl, fun _ => by kernel_rfl⟩
def i163 : TI := ⟨.func, 1, 8, .nilfunc, true⟩
theorem ok163 : TyOk Tryz.prog 163 i163 := ⟨by kernel_rfl, by kernel_rfl, fun _ => by kernel_rfl⟩
def i164 : TI := ⟨.func, 1, 8, .nilfunc, true⟩
theorem ok164 : TyOk Tryz.prog 164 i164 := ⟨by kernel_rfl, by kernel_rfl, fun _ => by kernel_rfl⟩
def i165 : TI := ⟨.int .u64, 1, 8, .int .u64 0, true⟩
theorem ok165 : TyOk Tryz.prog 165 i165 := ⟨by kernel_rfl, by kernel_rfl, fun _ => by kernel_rfl⟩
def i166 : TI := ⟨.struct [(3, 0), (3, 1), (54, 2)], 4, 32, .agg [.int .i64 0, .int .i64 0, .int .i64 0, .int .i64 0], true⟩
theorem ok166 : TyOk Tryz.prog 166 i166 := ⟨by kernel_rfl, by kernel_rfl, fun _ => by kernel_rfl⟩
def i167 : TI := ⟨.struct [(3, 0), (3, 1), (54, 2)], 4, 32, .agg [.int .i64 0, .int .i64 0, .int .i64 0, .int .i64 0], true⟩
theorem ok167 : TyOk Tryz.prog 167 i167 := ⟨by kernel_rfl, by kernel_rfl, fun _ => by kernel_rfl⟩
def i168 : TI := ⟨.arr 2 3, 2, 16, .agg [.int .i64 0, .int .i64 0], true⟩
theorem ok168 : TyOk Tryz.prog 168 i168 := ⟨by kernel_rfl, by kernel_rfl, fun _ => by kernel_rfl⟩
def i170 : TI := ⟨.func, 1, 8, .nilfunc, true⟩
theorem ok170 : TyOk Tryz.prog 170 i170 := ⟨by kernel_rfl, by kernel_rfl, fun _ => by kernel_rfl⟩
def i171 : TI := ⟨.ptr, 1, 8, .nilptr, true⟩
theorem ok171 : TyOk Tryz.prog 171 i171 := ⟨by kernel_rfl, by kernel_rfl, fun _ => by kernel_rfl⟩
def i172 : TI := ⟨.struct [(136, 0), (3, 1)], 2, 32, .agg [.nilslice, .int .i64 0], true⟩
theorem ok172 : TyOk Tryz.prog 172 i172 := ⟨by kernel_rfl, by kernel_rfl, fun _ => by kernel_rfl⟩
def i173 : TI := ⟨.struct [(136, 0), (3, 1)], 2, 32, .agg [.nilslice, .int .i64 0], true⟩
theorem ok173 : TyOk Tryz.prog 173 i173 := ⟨by kernel_rfl, by kernel_rfl, fun _ => by kernel_rfl⟩
def i174 : TI := ⟨.func, 1, 8, .nilfunc, true⟩
theorem ok174 : TyOk Tryz.prog 174 i174 := ⟨by kernel_rfl, by kernel_rfl, fun _ => by kernel_rfl⟩
def i175 : TI := ⟨.func, 1, 8, .nilfunc, true⟩
theorem ok175 : TyOk Tryz.prog 175 i175 := ⟨by kernel_rfl, by kernel_rfl, fun _ => by kernel_rfl⟩
def i176 : TI := ⟨.func, 1, 8, .nilfunc, true⟩
theorem ok176 : TyOk Tryz.prog 176 i176 := ⟨by kernel_rfl, by kernel_rfl, fun _ => by kernel_rfl⟩
def i177 : TI := ⟨.func, 1, 8, .nilfunc, true⟩
theorem ok177 : TyOk Tryz.prog 177 i177 := ⟨by kernel_rfl, by kernel_rfl, fun _ => by kernel_rfl⟩
def i178 : TI := ⟨.int .u64, 1, 8, .int .u64 0, true⟩
theorem ok178 : TyOk Tryz.prog 178 i178 := ⟨by kernel_rfl, by kernel_rfl, fun _ => by kernel_rfl⟩
def i179 : TI := ⟨.func, 1, 8, .nilfunc, true⟩
theorem ok179 : TyOk Tryz.prog 179 i179 := ⟨by kernel_rfl, by kernel_rfl, fun _ => by kernel_rfl⟩
def i180 : TI := ⟨.func, 1, 8, .nilfunc, true⟩
theorem ok180 : TyOk Tryz.prog 180 i180 := ⟨by kernel_rfl, by kernel_rfl, fun _ => by kernel_rfl⟩
def i181 : TI := ⟨.struct [(2, 0), (2, 1), (54, 2), (3, 4)], 5, 40, .agg [.int .i64 0, .int .i64 0, .int .i64 0, .int .i64 0, .int .i64 0], true⟩
theorem ok181 : TyOk Tryz.prog 181 i181 := ⟨by kernel_rfl, by kernel_rfl, fun _ => by kernel_rfl⟩
def i182 : TI := ⟨.struct [(2, 0), (2, 1), (54, 2), (3, 4)], 5, 40, .agg [.int .i64 0, .int .i64 0, .int .i64 0, .int .i64 0, .int .i64 0], true⟩
theorem ok182 : TyOk Tryz.prog 182 i182 := ⟨by kernel_rfl, by kernel_rfl, fun _ => by kernel_rfl⟩
def i183 : TI := ⟨.func, 1, 8, .nilfunc, true⟩
theorem ok183 : TyOk Tryz.prog 183 i183 := ⟨by kernel_rfl, by kernel_rfl, fun _ => by kernel_rfl⟩
def i184 : TI := ⟨.struct [(17, 0)], 1, 8, .agg [.nilptr], false⟩
theorem ok184 : TyOk Tryz.prog 184 i184 := ⟨by kernel_rfl, by kernel_rfl, fun h => by cases h⟩
def i185 : TI := ⟨.struct [(17, 0)], 1, 8, .agg [.nilptr], false⟩
theorem ok185 : TyOk Tryz.prog 185 i185 := ⟨by kernel_rfl, by kernel_rfl, fun h => by cases h⟩
def i186 : TI := ⟨.ptr, 1, 8, .nilptr, true⟩
theorem ok186 : TyOk Tryz.prog 186 i186 := ⟨by kernel_rfl, by kernel_rfl, fun _ => by kernel_rfl⟩
def i187 : TI := ⟨.iface, 1, 16, .niliface, false⟩
theorem ok187 : TyOk Tryz.prog 187 i187 := ⟨by kernel_rfl, by kernel_rfl, fun h => by cases h⟩
def i189 : TI := ⟨.func, 1, 8, .nilfunc, true⟩
theorem ok189 : TyOk Tryz.prog 189 i189 := ⟨by kernel_rfl, by kernel_rfl, fun _ => by kernel_rfl⟩
def i190 : TI := ⟨.iface, 1, 16, .niliface, false⟩
theorem ok190 : TyOk Tryz.prog 190 i190 := ⟨by kernel_rfl, by kernel_rfl, fun h => by cases h⟩
def i191 : TI := ⟨.func, 1, 8, .nilfunc, true⟩
theorem ok191 : TyOk Tryz.prog 191 i191 := ⟨by kernel_rfl, by kernel_rfl, fun _ => by kernel_rfl⟩
def i192 : TI := ⟨.iface, 1, 16, .niliface, false⟩
theorem ok192 : TyOk Tryz.prog 192 i192 := ⟨by kernel_rfl, by kernel_rfl, fun h => by cases h⟩
def i193 : TI := ⟨.slice 156, 1, 24, .nilslice, true⟩
theorem ok193 : TyOk Tryz.prog 193 i193 := ⟨by kernel_rfl, by kernel_rfl, fun _ => by kernel_rfl⟩
def i194 : TI := ⟨.func, 1, 8, .nilfunc, true⟩
theorem ok194 : TyOk Tryz.prog 194 i194 := ⟨by kernel_rfl, by kernel_rfl, fun _ => by kernel_rfl⟩
def i195 : TI := ⟨.func, 1, 8, .nilfunc, true⟩
theorem ok195 : TyOk Tryz.prog 195 i195 := ⟨by kernel_rfl, by kernel_rfl, fun _ => by kernel_rfl⟩
def i196 : TI := ⟨.func, 1, 8, .nilfunc, true⟩
theorem ok196 : TyOk Tryz.prog 196 i196 := ⟨by kernel_rfl, by kernel_rfl, fun _ => by kernel_rfl⟩
def i197 : TI := ⟨.func, 1, 8, .nilfunc, true⟩
theorem ok197 : TyOk Tryz.prog 197 i197 := ⟨by kernel_rfl, by kernel_rfl, fun _ => by kernel_rfl⟩
def i198 : TI := ⟨.func, 1, 8, .nilfunc, true⟩
theorem ok198 : TyOk Tryz.prog 198 i198 := ⟨by kernel_rfl, by kernel_rfl, fun _ => by kernel_rfl⟩
def i199 : TI := ⟨.func, 1, 8, .nilfunc, true⟩
theorem ok199 : TyOk Tryz.prog 199 i199 := ⟨by kernel_rfl, by kernel_rfl, fun _ => by kernel_rfl⟩
def i200 : TI := ⟨.func, 1, 8, .nilfunc, true⟩
theorem ok200 : TyOk Tryz.prog 200 i200 := ⟨by kernel_rfl, by kernel_rfl, fun _ => by kernel_rfl⟩
def i201 : TI := ⟨.func, 1, 8, .nilfunc, true⟩
theorem ok201 : TyOk Tryz.prog 201 i201 := ⟨by kernel_rfl, by kernel_rfl, fun _ => by kernel_rfl⟩
def i202 : TI := ⟨.func, 1, 8, .nilfunc, true⟩
theorem ok202 : TyOk Tryz.prog 202 i202 := ⟨by kernel_rfl, by kernel_rfl, fun _ => by kernel_rfl⟩
def i203 : TI := ⟨.func, 1, 8, .nilfunc, true⟩
theorem ok203 : TyOk Tryz.prog 203 i203 := ⟨by kernel_rfl, by kernel_rfl, fun _ => by kernel_rfl⟩
def i204 : TI := ⟨.func, 1, 8, .nilfunc, true⟩
theorem ok204 : TyOk Tryz.prog 204 i204 := ⟨by kernel_rfl, by kernel_rfl, fun _ => by kernel_rfl⟩
def i205 : TI := ⟨.func, 1, 8, .nilfunc, true⟩
theorem ok205 : TyOk Tryz.prog 205 i205 := ⟨by kernel_rfl, by kernel_rfl, fun _ => by kernel_rfl⟩
def i206 : TI := ⟨.func, 1, 8, .nilfunc, true⟩
theorem ok206 : TyOk Tryz.prog 206 i206 := ⟨by kernel_rfl, by kernel_rfl, fun _ => by kernel_rfl⟩
def i207 : TI := ⟨.func, 1, 8, .nilfunc, true⟩
theorem ok207 : TyOk Tryz.prog 207 i207 := ⟨by kernel_rfl, by kernel_rfl, fun _ => by kernel_rfl⟩
def i208 : TI := ⟨.slice 26, 1, 24, .nilslice, true⟩
theorem ok208 : TyOk Tryz.prog 208 i208 := ⟨by kernel_rfl, by kernel_rfl, fun _ => by kernel_rfl⟩
def i209 : TI := ⟨.func, 1, 8, .nilfunc, true⟩
theorem ok209 : TyOk Tryz.prog 209 i209 := ⟨by kernel_rfl, by kernel_rfl, fun _ => by kernel_rfl⟩
def i210 : TI := ⟨.func, 1, 8, .nilfunc, true⟩
theorem ok210 : TyOk Tryz.prog 210 i210 := ⟨by kernel_rfl, by kernel_rfl, fun _ => by kernel_rfl⟩
def i211 : TI := ⟨.func, 1, 8, .nilfunc, true⟩
theorem ok211 : TyOk Tryz.prog 211 i211 := ⟨by kernel_rfl, by kernel_rfl, fun _ => by kernel_rfl⟩
def i212 : TI := ⟨.func, 1, 8, .nilfunc, true⟩
theorem ok212 : TyOk Tryz.prog 212 i212 := ⟨by kernel_rfl, by kernel_rfl, fun _ => by kernel_rfl⟩
def i213 : TI := ⟨.func, 1, 8, .nilfunc, true⟩
theorem ok213 : TyOk Tryz.prog 213 i213 := ⟨by kernel_rfl, by kernel_rfl, fun _ => by kernel_rfl⟩
def i214 : TI := ⟨.func, 1, 8, .nilfunc, true⟩
theorem ok214 : TyOk Tryz.prog 214 i214 := ⟨by kernel_rfl, by kernel_rfl, fun _ => by kernel_rfl⟩
def i215 : TI := ⟨.func, 1, 8, .nilfunc, true⟩
theorem ok215 : TyOk Tryz.prog 215 i215 := ⟨by kernel_rfl, by kernel_rfl, fun _ => by kernel_rfl⟩
def i216 : TI := ⟨.func, 1, 8, .nilfunc, true⟩
theorem ok216 : TyOk Tryz.prog 216 i216 := ⟨by kernel_rfl, by kernel_rfl, fun _ => by kernel_rfl⟩
def i217 : TI := ⟨.func, 1, 8, .nilfunc, true⟩
theorem ok217 : TyOk Tryz.prog 217 i217 := ⟨by kernel_rfl, by kernel_rfl, fun _ => by kernel_rfl⟩
def i218 : TI := ⟨.func, 1, 8, .nilfunc, true⟩
theorem ok218 : TyOk Tryz.prog 218 i218 := ⟨by kernel_rfl, by kernel_rfl, fun _ => by kernel_rfl⟩
def i219 : TI := ⟨.func, 1, 8, .nilfunc, true⟩
theorem ok219 : TyOk Tryz.prog 219 i219 := ⟨by kernel_rfl, by kernel_rfl, fun _ => by kernel_rfl⟩
def i220 : TI := ⟨.func, 1, 8, .nilfunc, true⟩
theorem ok220 : TyOk Tryz.prog 220 i220 := ⟨by kernel_rfl, by kernel_rfl, fun _ => by kernel_rfl⟩
def i221 : TI := ⟨.struct [(71, 0), (71, 1), (72, 2), (72, 3), (72, 4), (71, 5), (218, 6), (219, 7), (220, 8)], 9, 72, .agg [.nilfunc, .nilfunc, .nilfunc, .nilfunc, .nilfunc, .nilfunc, .nilfunc, .nilfunc, .nilfunc], true⟩
theorem ok221 : TyOk Tryz.prog 221 i221 := ⟨by kernel_rfl, by kernel_rfl, fun _ => by kernel_rfl⟩
def i222 : TI := ⟨.struct [(71, 0), (71, 1), (72, 2), (72, 3), (72, 4), (71, 5), (218, 6), (219, 7), (220, 8)], 9, 72, .agg [.nilfunc, .nilfunc, .nilfunc, .nilfunc, .nilfunc, .nilfunc, .nilfunc, .nilfunc, .nilfunc], true⟩
theorem ok222 : TyOk Tryz.prog 222 i222 := ⟨by kernel_rfl, by kernel_rfl, fun _ => by kernel_rfl⟩
def i223 : TI := ⟨.func, 1, 8, .nilfunc, true⟩
theorem ok223 : TyOk Tryz.prog 223 i223 := ⟨by kernel_rfl, by kernel_rfl, fun _ => by kernel_rfl⟩
def i224 : TI := ⟨.func, 1, 8, .nilfunc, true⟩
theorem ok224 : TyOk Tryz.prog 224 i224 := ⟨by kernel_rfl, by kernel_rfl, fun _ => by kernel_rfl⟩
def i225 : TI := ⟨.func, 1, 8, .nilfunc, true⟩
theorem ok225 : TyOk Tryz.prog 225 i225 := ⟨by kernel_rfl, by kernel_rfl, fun _ => by kernel_rfl⟩
def i226 : TI := ⟨.func, 1, 8, .nilfunc, true⟩
theorem ok226 : TyOk Tryz.prog 226 i226 := ⟨by kernel_rfl, by kernel_rfl, fun _ => by kernel_rfl⟩
def i227 : TI := ⟨.func, 1, 8, .nilfunc, true⟩
theorem ok227 : TyOk Tryz.prog 227 i227 := ⟨by kernel_rfl, by kernel_rfl, fun _ => by kernel_rfl⟩
def i228 : TI := ⟨.func, 1, 8, .nilfunc, true⟩
theorem ok228 : TyOk Tryz.prog 228 i228 := ⟨by kernel_rfl, by kernel_rfl, fun _ => by kernel_rfl⟩
def i229 : TI := ⟨.func, 1, 8, .nilfunc, true⟩
theorem ok229 : TyOk Tryz.prog 229 i229 := ⟨by kernel_rfl, by kernel_rfl, fun _ => by kernel_rfl⟩
def i230 : TI := ⟨.func, 1, 8, .nilfunc, true⟩
theorem ok230 : TyOk Tryz.prog 230 i230 := ⟨by kernel_rfl, by kernel_rfl, fun _ => by kernel_rfl⟩
def i231 : TI := ⟨.func, 1, 8, .nilfunc, true⟩
theorem ok231 : TyOk Tryz.prog 231 i231 := ⟨by kernel_rfl, by kernel_rfl, fun _ => by kernel_rfl⟩
def i233 : TI := ⟨.func, 1, 8, .nilfunc, true⟩
theorem ok233 : TyOk Tryz.prog 233 i233 := ⟨by kernel_rfl, by kernel_rfl, fun _ => by kernel_rfl⟩
def i234 : TI := ⟨.func, 1, 8, .nilfunc, true⟩
theorem ok234 : TyOk Tryz.prog 234 i234 := ⟨by kernel_rfl, by kernel_rfl, fun _ => by kernel_rfl⟩
def i235 : TI := ⟨.struct [(234, 0), (234, 1)], 2, 16, .agg [.nilfunc, .nilfunc], true⟩
theorem ok235 : TyOk Tryz.prog 235 i235 := ⟨by kernel_rfl, by kernel_rfl, fun _ => by kernel_rfl⟩
def i236 : TI := ⟨.struct [(234, 0), (234, 1)], 2, 16, .agg [.nilfunc, .nilfunc], true⟩
theorem ok236 : TyOk Tryz.prog 236 i236 := ⟨by kernel_rfl, by kernel_rfl, fun _ => by kernel_rfl⟩
def i237 : TI := ⟨.arr 3 236, 6, 48, .agg [.nilfunc, .nilfunc, .nilfunc, .nilfunc, .nilfunc, .nilfunc], true⟩
theorem ok237 : TyOk Tryz.prog 237 i237 := ⟨by kernel_rfl, by kernel_rfl, fun _ => by kernel_rfl⟩
def i238 : TI := ⟨.arr 3 237, 18, 144, .agg [.nilfunc, .nilfunc, .nilfunc, .nilfunc, .nilfunc, .nilfunc, .nilfunc, .nilfunc, .nilfunc, .nilfunc, .nilfunc, .nilfunc, .nilfunc, .nilfunc, .nilfunc, .nilfunc, .nilfunc, .nilfunc], true⟩
theorem ok238 : TyOk Tryz.prog 238 i238 := ⟨by kernel_rfl, by kernel_rfl, fun _ => by kernel_rfl⟩
def i239 : TI := ⟨.func, 1, 8, .nilfunc, true⟩
theorem ok239 : TyOk Tryz.prog 239 i239 := ⟨by kernel_rfl, by kernel_rfl, fun _ => by kernel_rfl⟩
def i240 : TI := ⟨.slice 2, 1, 24, .nilslice, true⟩
theorem ok240 : TyOk Tryz.prog 240 i240 := ⟨by kernel_rfl, by kernel_rfl, fun _ => by kernel_rfl⟩
def i241 : TI := ⟨.func, 1, 8, .nilfunc, true⟩
theorem ok241 : TyOk Tryz.prog 241 i241 := ⟨by kernel_rfl, by kernel_rfl, fun _ => by kernel_rfl⟩
def i242 : TI := ⟨.arr 3 3, 3, 24, .agg [.int .i64 0, .int .i64 0, .int .i64 0], true⟩
theorem ok242 : TyOk Tryz.prog 242 i242 := ⟨by kernel_rfl, by kernel_rfl, fun _ => by kernel_rfl⟩
def i243 : TI := ⟨.struct [(71, 0), (72, 1)], 2, 16, .agg [.nilfunc, .nilfunc], true⟩
theorem ok243 : TyOk Tryz.prog 243 i243 := ⟨by kernel_rfl, by kernel_rfl, fun _ => by kernel_rfl⟩
def i244 : TI := ⟨.struct [(71, 0), (72, 1)], 2, 16, .agg [.nilfunc, .nilfunc], true⟩
theorem ok244 : TyOk Tryz.prog 244 i244 := ⟨by kernel_rfl, by kernel_rfl, fun _ => by kernel_rfl⟩
def i245 : TI := ⟨.arr 11 244, 22, 176, .agg [.nilfunc, .nilfunc, .nilfunc, .nilfunc, .nilfunc, .nilfunc, .nilfunc, .nilfunc, .nilfunc, .nilfunc, .nilfunc, .nilfunc, .nilfunc, .nilfunc, .nilfunc, .nilfunc, .nilfunc, .nilfunc, .nilfunc, .nilfunc, .nilfunc, .nilfunc], true⟩
theorem ok245 : TyOk Tryz.prog 245 i245 := ⟨by kernel_rfl, by kernel_rfl, fun _ => by kernel_rfl⟩
def i246 : TI := ⟨.func, 1, 8, .nilfunc, true⟩
theorem ok246 : TyOk Tryz.prog 246 i246 := ⟨by kernel_rfl, by kernel_rfl, fun _ => by kernel_rfl⟩
def i247 : TI := ⟨.func, 1, 8, .nilfunc, true⟩
theorem ok247 : TyOk Tryz.prog 247 i247 := ⟨by kernel_rfl, by kernel_rfl, fun _ => by kernel_rfl⟩
def i249 : TI := ⟨.func, 1, 8, .nilfunc, true⟩
theorem ok249 : TyOk Tryz.prog 249 i249 := ⟨by kernel_rfl, by kernel_rfl, fun _ => by kernel_rfl⟩
def i250 : TI := ⟨.func, 1, 8, .nilfunc, true⟩
theorem ok250 : TyOk Tryz.prog 250 i250 := ⟨by kernel_rfl, by kernel_rfl, fun _ => by kernel_rfl⟩
def i251 : TI := ⟨.arr 2 236, 4, 32, .agg [.nilfunc, .nilfunc, .nilfunc, .nilfunc], true⟩
theorem ok251 : TyOk Tryz.prog 251 i251 := ⟨by kernel_rfl, by kernel_rfl, fun _ => by kernel_rfl⟩
def i252 : TI := ⟨.arr 3 251, 12, 96, .agg [.nilfunc, .nilfunc, .nilfunc, .nilfunc, .nilfunc, .nilfunc, .nilfunc, .nilfunc, .nilfunc, .nilfunc, .nilfunc, .nilfunc], true⟩
theorem ok252 : TyOk Tryz.prog 252 i252 := ⟨by kernel_rfl, by kernel_rfl, fun _ => by kernel_rfl⟩
def i253 : TI := ⟨.func, 1, 8, .nilfunc, true⟩
theorem ok253 : TyOk Tryz.prog 253 i253 := ⟨by kernel_rfl, by kernel_rfl, fun _ => by kernel_rfl⟩
def i254 : TI := ⟨.func, 1, 8, .nilfunc, true⟩
theorem ok254 : TyOk Tryz.prog 254 i254 := ⟨by kernel_rfl, by kernel_rfl, fun _ => by kernel_rfl⟩
def i255 : TI := ⟨.func, 1, 8, .nilfunc, true⟩
theorem ok255 : TyOk Tryz.prog 255 i255 := ⟨by kernel_rfl, by kernel_rfl, fun _ => by kernel_rfl⟩
def i256 : TI := ⟨.func, 1, 8, .nilfunc, true⟩
theorem ok256 : TyOk Tryz.prog 256 i256 := ⟨by kernel_rfl, by kernel_rfl, fun _ => by kernel_rfl⟩
def i257 : TI := ⟨.func, 1, 8, .nilfunc, true⟩
theorem ok257 : TyOk Tryz.prog 257 i257 := ⟨by kernel_rfl, by kernel_rfl, fun _ => by kernel_rfl⟩
def i258 : TI := ⟨.func, 1, 8, .nilfunc, true⟩
theorem ok258 : TyOk Tryz.prog 258 i258 := ⟨by kernel_rfl, by kernel_rfl, fun _ => by kernel_rfl⟩
def i259 : TI := ⟨.func, 1, 8, .nilfunc, true⟩
theorem ok259 : TyOk Tryz.prog 259 i259 := ⟨by kernel_rfl, by kernel_rfl, fun _ => by kernel_rfl⟩
def i260 : TI := ⟨.struct [(17, 0), (17, 1), (17, 2), (9, 3)], 4, 40, .agg [.nilptr, .nilptr, .nilptr, .str ⟨#[]⟩], false⟩
theorem ok260 : TyOk Tryz.prog 260 i260 := ⟨by kernel_rfl, by kernel_rfl, fun h => by cases h⟩
def i261 : TI := ⟨.struct [(17, 0), (17, 1), (17, 2), (9, 3)], 4, 40, .agg [.nilptr, .nilptr, .nilptr, .str ⟨#[]⟩], false⟩
theorem ok261 : TyOk Tryz.prog 261 i261 := ⟨by kernel_rfl, by kernel_rfl, fun h => by cases h⟩
def i262 : TI := ⟨.arr 0 16, 0, 0, .agg [], true⟩
theorem ok262 : TyOk Tryz.prog 262 i262 := ⟨by kernel_rfl, by kernel_rfl, fun _ => by kernel_rfl⟩
def i263 : TI := ⟨.struct [(262, 0)], 0, 0, .agg [], false⟩
theorem ok263 : TyOk Tryz.prog 263 i263 := ⟨by kernel_rfl, by kernel_rfl, fun h => by cases h⟩
def i264 : TI := ⟨.struct [(262, 0)], 0, 0, .agg [], false⟩
theorem ok264 : TyOk Tryz.prog 264 i264 := ⟨by kernel_rfl, by kernel_rfl, fun h => by cases h⟩
def i265 : TI := ⟨.func, 1, 8, .nilfunc, true⟩
theorem ok265 : TyOk Tryz.prog 265 i265 := ⟨by kernel_rfl, by kernel_rfl, fun _ => by kernel_rfl⟩
def i266 : TI := ⟨.int .u8, 1, 1, .int .u8 0, true⟩
theorem ok266 : TyOk Tryz.prog 266 i266 := ⟨by kernel_rfl, by kernel_rfl, fun _ => by kernel_rfl⟩
def i267 : TI := ⟨.int .u8, 1, 1, .int .u8 0, true⟩
theorem ok267 : TyOk Tryz.prog 267 i267 := ⟨by kernel_rfl, by kernel_rfl, fun _ => by kernel_rfl⟩
def i268 : TI := ⟨.func, 1, 8, .nilfunc, true⟩
theorem ok268 : TyOk Tryz.prog 268 i268 := ⟨by kernel_rfl, by kernel_rfl, fun _ => by kernel_rfl⟩
def i269 : TI := ⟨.ptr, 1, 8, .nilptr, true⟩
theorem ok269 : TyOk Tryz.prog 269 i269 := ⟨by kernel_rfl, by kernel_rfl, fun _ => by kernel_rfl⟩
def i270 : TI := ⟨.int .i32, 1, 4, .int .i32 0, true⟩
theorem ok270 : TyOk Tryz.prog 270 i270 := ⟨by kernel_rfl, by kernel_rfl, fun _ => by kernel_rfl⟩
def i271 : TI := ⟨.int .i32, 1, 4, .int .i32 0, true⟩
theorem ok271 : TyOk Tryz.prog 271 i271 := ⟨by kernel_rfl, by kernel_rfl, fun _ => by kernel_rfl⟩
def i272 : TI := ⟨.struct [(12, 0), (12, 1), (49, 2), (266, 3), (5, 4), (5, 5), (267, 6), (268, 7), (269, 8), (270, 9), (271, 10)], 11, 48, .agg [.int .u64 0, .int .u64 0, .int .u32 0, .int .u8 0, .int .u8 0, .int .u8 0, .int .u8 0, .nilfunc, .nilptr, .int .i32 0, .int .i32 0], false⟩
theorem ok272 : TyOk Tryz.prog 272 i272 := ⟨by kernel_rfl, by kernel_rfl, fun h => by cases h⟩
def i273 : TI := ⟨.struct [(12, 0), (12, 1), (49, 2), (266, 3), (5, 4), (5, 5), (267, 6), (268, 7), (269, 8), (270, 9), (271, 10)], 11, 48, .agg [.int .u64 0, .int .u64 0, .int .u32 0, .int .u8 0, .int .u8 0, .int .u8 0, .int .u8 0, .nilfunc, .nilptr, .int .i32 0, .int .i32 0], false⟩
theorem ok273 : TyOk Tryz.prog 273 i273 := ⟨by kernel_rfl, by kernel_rfl, fun h => by cases h⟩
def i274 : TI := ⟨.func, 1, 8, .nilfunc, true⟩
theorem ok274 : TyOk Tryz.prog 274 i274 := ⟨by kernel_rfl, by kernel_rfl, fun _ => by kernel_rfl⟩
def i275 : TI := ⟨.func, 1, 8, .nilfunc, true⟩
theorem ok275 : TyOk Tryz.prog 275 i275 := ⟨by kernel_rfl, by kernel_rfl, fun _ => by kernel_rfl⟩
def i276 : TI := ⟨.func, 1, 8, .nilfunc, true⟩
theorem ok276 : TyOk Tryz.prog 276 i276 := ⟨by kernel_rfl, by kernel_rfl, fun _ => by kernel_rfl⟩
def i277 : TI := ⟨.func, 1, 8, .nilfunc, true⟩
theorem ok277 : TyOk Tryz.prog 277 i277 := ⟨by kernel_rfl, by kernel_rfl, fun _ => by kernel_rfl⟩
def i278 : TI := ⟨.func, 1, 8, .nilfunc, true⟩
theorem ok278 : TyOk Tryz.prog 278 i278 := ⟨by kernel_rfl, by kernel_rfl, fun _ => by kernel_rfl⟩
def i279 : TI := ⟨.func, 1, 8, .nilfunc, true⟩
theorem ok279 : TyOk Tryz.prog 279 i279 := ⟨by kernel_rfl, by kernel_rfl, fun _ => by kernel_rfl⟩
def i280 : TI := ⟨.struct [(9, 0), (267, 1)], 2, 24, .agg [.str ⟨#[]⟩, .int .u8 0], false⟩
theorem ok280 : TyOk Tryz.prog 280 i280 := ⟨by kernel_rfl, by kernel_rfl, fun h => by cases h⟩
def i281 : TI := ⟨.struct [(9, 0), (267, 1)], 2, 24, .agg [.str ⟨#[]⟩, .int .u8 0], false⟩
theorem ok281 : TyOk Tryz.prog 281 i281 := ⟨by kernel_rfl, by kernel_rfl, fun h => by cases h⟩
def i283 : TI := ⟨.ptr, 1, 8, .nilptr, true⟩
theorem ok283 : TyOk Tryz.prog 283 i283 := ⟨by kernel_rfl, by kernel_rfl, fun _ => by kernel_rfl⟩
def i284 : TI := ⟨.func, 1, 8, .nilfunc, true⟩
theorem ok284 : TyOk Tryz.prog 284 i284 := ⟨by kernel_rfl, by kernel_rfl, fun _ => by kernel_rfl⟩
def i285 : TI := ⟨.struct [(270, 0), (27, 1), (27, 2), (49, 3), (49, 4)], 5, 16, .agg [.int .i32 0, .int .u16 0, .int .u16 0, .int .u32 0, .int .u32 0], false⟩
theorem ok285 : TyOk Tryz.prog 285 i285 := ⟨by kernel_rfl, by kernel_rfl, fun h => by cases h⟩
def i286 : TI := ⟨.struct [(270, 0), (27, 1), (27, 2), (49, 3), (49, 4)], 5, 16, .agg [.int .i32 0, .int .u16 0, .int .u16 0, .int .u32 0, .int .u32 0], false⟩
theorem ok286 : TyOk Tryz.prog 286 i286 := ⟨by kernel_rfl, by kernel_rfl, fun h => by cases h⟩
def i287 : TI := ⟨.slice 290, 1, 24, .nilslice, true⟩
theorem ok287 : TyOk Tryz.prog 287 i287 := ⟨by kernel_rfl, by kernel_rfl, fun _ => by kernel_rfl⟩
def i288 : TI := ⟨.int .i32, 1, 4, .int .i32 0, true⟩
theorem ok288 : TyOk Tryz.prog 288 i288 := ⟨by kernel_rfl, by kernel_rfl, fun _ => by kernel_rfl⟩
def i289 : TI := ⟨.struct [(270, 0), (271, 1), (288, 2), (288, 3)], 4, 16, .agg [.int .i32 0, .int .i32 0, .int .i32 0, .int .i32 0], false⟩
theorem ok289 : TyOk Tryz.prog 289 i289 := ⟨by kernel_rfl, by kernel_rfl, fun h => by cases h⟩
def i290 : TI := ⟨.struct [(270, 0), (271, 1), (288, 2), (288, 3)], 4, 16, .agg [.int .i32 0, .int .i32 0, .int .i32 0, .int .i32 0], false⟩
theorem ok290 : TyOk Tryz.prog 290 i290 := ⟨by kernel_rfl, by kernel_rfl, fun h => by cases h⟩
def tab_0 : Nat → Option TI
  | 1 => some i1
  | 2 => some i2
  | 3 => some i3
  | 4 => some i4
  | 5 => some i5
  | 6 => some i6
  | 7 => some i7
  | 8 => some i8
  | 9 => some i9
  | 10 => some i10
  | 11 => some i11
  | 12 => some i12
  | 13 => some i13
  | 14 => some i14
  | 15 => some i15
  | 16 => some i16
  | 17 => some i17
  | 18 => some i18
  | 19 => some i19
  | 20 => some i20
  | 21 => some i21
  | 22 => some i22
  | 23 => some i23
  | 24 => some i24
  | 25 => some i25
  | 26 => some i26
  | 27 => some i27
  | 28 => some i28
  | 29 => some i29
  | 30 => some i30
  | 31 => some i31
  | 32 => some i32
  | 33 => some i33
  | 34 => some i34
  | 36 => some i36
  | 37 => some i37
  | 38 => some i38
  | 40 => some i40
  | 41 => some i41
  | 42 => some i42
  | 44 => some i44
  | 45 => some i45
  | 46 => some i46
  | 47 => some i47
  | _ => none
theorem tab_ok_0 {t : Nat} {i : TI} (h : tab_0 t = some i) : TyOk Tryz.prog t i := by
  unfold tab_0 at h
  split at h <;> cases h
  · exact ok1
  · exact ok2
  · exact ok3
  · exact ok4
  · exact ok5
  · exact ok6
  · exact ok7
  · exact ok8
  · exact ok9
  · exact ok10
  · exact ok11
  · exact ok12
  · exact ok13
  · exact ok14
  · exact ok15
  · exact ok16
  · exact ok17
  · exact ok18
  · exact ok19
  · exact ok20
  · exact ok21
  · exact ok22
  · exact ok23
  · exact ok24
  · exact ok25
  · exact ok26
  · exact ok27
  · exact ok28
  · exact ok29
  · exact ok30
  · exact ok31
  · exact ok32
  · exact ok33
  · exact ok34
  · exact ok36
  · exact ok37
  · exact ok38
  · exact ok40
  · exact ok41
  · exact ok42
  · exact ok44
  · exact ok45
  · exact ok46
  · exact ok47
def tab_1 : Nat → Option TI
  | 48 => some i48
  | 49 => some i49
  | 50 => some i50
  | 51 => some i51
  | 52 => some i52
  | 53 => some i53
  | 54 => some i54
  | 56 => some i56
  | 57 => some i57
  | 58 => some i58
  | 59 => some i59
  | 60 => some i60
  | 61 => some i61
  | 62 => some i62
  | 63 => some i63
  | 64 => some i64
  | 65 => some i65
  | 66 => some i66
  | 67 => some i67
  | 68 => some i68
  | 69 => some i69
  | 70 => some i70
  | 71 => some i71
  | 72 => some i72
  | 73 => some i73
  | 75 => some i75
  | 76 => some i76
  | 77 => some i77
  | 78 => some i78
  | 79 => some i79
  | 80 => some i80
  | 81 => some i81
  | 82 => some i82
  | 83 => some i83
  | 84 => some i84
  | 85 => some i85
  | 86 => some i86
  | 87 => some i87
  | 88 => some i88
  | 89 => some i89
  | 90 => some i90
  | 91 => some i91
  | 92 => some i92
  | 93 => some i93
  | 94 => some i94
  | 95 => some i95
  | _ => none
theorem tab_ok_1 {t : Nat} {i : TI} (h : tab_1 t = some i) : TyOk Tryz.prog t i := by
  unfold tab_1 at h
  split at h <;> cases h
  · exact ok48
  · exact ok49
  · exact ok50
  · exact ok51
  · exact ok52
  · exact ok53
  · exact ok54
  · exact ok56
  · exact ok57
  · exact ok58
  · exact ok59
  · exact ok60
  · exact ok61
  · exact ok62
  · exact ok63
  · exact ok64
  · exact ok65
  · exact ok66
  · exact ok67
  · exact ok68
  · exact ok69
  · exact ok70
  · exact ok71
  · exact ok72
  · exact ok73
  · exact ok75
  · exact ok76
  · exact ok77
  · exact ok78
  · exact ok79
  · exact ok80
  · exact ok81
  · exact ok82
  · exact ok83
  · exact ok84
  · exact ok85
  · exact ok86
  · exact ok87
  · exact ok88
  · exact ok89
  · exact ok90
  · exact ok91
  · exact ok92
  · exact ok93
  · exact ok94
  · exact ok95
def tab_2 : Nat → Option TI
  | 96 => some i96
  | 98 => some i98
  | 99 => some i99
  | 100 => some i100
  | 101 => some i101
  | 103 => some i103
  | 104 => some i104
  | 105 => some i105
  | 106 => some i106
  | 107 => some i107
  | 108 => some i108
  | 109 => some i109
  | 110 => some i110
  | 111 => some i111
  | 112 => some i112
  | 113 => some i113
  | 114 => some i114
  | 115 => some i115
  | 116 => some i116
  | 118 => some i118
  | 119 => some i119
  | 120 => some i120
  | 121 => some i121
  | 122 => some i122
  | 123 => some i123
  | 124 => some i124
  | 125 => some i125
  | 126 => some i126
  | 127 => some i127
  | 128 => some i128
  | 129 => some i129
  | 130 => some i130
  | 131 => some i131
  | 132 => some i132
  | 133 => some i133
  | 134 => some i134
  | 135 => some i135
  | 136 => some i136
  | 138 => some i138
  | 139 => some i139
  | 141 => some i141
  | 142 => some i142
  | 143 => some i143
  | _ => none
theorem tab_ok_2 {t : Nat} {i : TI} (h : tab_2 t = some i) : TyOk Tryz.prog t i := by
  unfold tab_2 at h
  split at h <;> cases h
  · exact ok96
  · exact ok98
  · exact ok99
  · exact ok100
  · exact ok101
  · exact ok103
  · exact ok104
  · exact ok105
  · exact ok106
  · exact ok107
  · exact ok108
  · exact ok109
  · exact ok110
  · exact ok111
  · exact ok112
  · exact ok113
  · exact ok114
  · exact ok115
  · exact ok116
  · exact ok118
  · exact ok119
  · exact ok120
  · exact ok121
  · exact ok122
  · exact ok123
  · exact ok124
  · exact ok125
  · exact ok126
  · exact ok127
  · exact ok128
  · exact ok129
  · exact ok130
  · exact ok131
  · exact ok132
  · exact ok133
  · exact ok134
  · exact ok135
  · exact ok136
  · exact ok138
  · exact ok139
  · exact ok141
  · exact ok142
  · exact ok143
def tab_3 : Nat → Option TI
  | 144 => some i144
  | 145 => some i145
  | 146 => some i146
  | 147 => some i147
  | 148 => some i148
  | 149 => some i149
  | 151 => some i151
  | 152 => some i152
  | 153 => some i153
  | 154 => some i154
  | 155 => some i155
  | 156 => some i156
  | 157 => some i157
  | 158 => some i158
  | 159 => some i159
  | 160 => some i160
  | 162 => some i162
  | 163 => some i163
  | 164 => some i164
  | 165 => some i165
  | 166 => some i166
  | 167 => some i167
  | 168 => some i168
  | 170 => some i170
  | 171 => some i171
  | 172 => some i172
  | 173 => some i173
  | 174 => some i174
  | 175 => some i175
  | 176 => some i176
  | 177 => some i177
  | 178 => some i178
  | 179 => some i179
  | 180 => some i180
  | 181 => some i181
  | 182 => some i182
  | 183 => some i183
  | 184 => some i184
  | 185 => some i185
  | 186 => some i186
  | 187 => some i187
  | 189 => some i189
  | 190 => some i190
  | 191 => some i191
  | _ => none
theorem tab_ok_3 {t : Nat} {i : TI} (h : tab_3 t = some i) : TyOk Tryz.prog t i := by
  unfold tab_3 at h
  split at h <;> cases h
  · exact ok144
  · exact ok145
  · exact ok146
  · exact ok147
  · exact ok148
  · exact ok149
  · exact ok151
  · exact ok152
  · exact ok153
  · exact ok154
  · exact ok155
  · exact ok156
  · exact ok157
  · exact ok158
  · exact ok159
  · exact ok160
  · exact ok162
  · exact ok163
  · exact ok164
  · exact ok165
  · exact ok166
  · exact ok167
  · exact ok168
  · exact ok170
  · exact ok171
  · exact ok172
  · exact ok173
  · exact ok174
  · exact ok175
  · exact ok176
  · exact ok177
  · exact ok178
  · exact ok179
  · exact ok180
  · exact ok181
  · exact ok182
  · exact ok183
  · exact ok184
  · exact ok185
  · exact ok186
  · exact ok187
  · exact ok189
  · exact ok190
  · exact ok191
def tab_4 : Nat → Option TI
  | 192 => some i192
  | 193 => some i193
  | 194 => some i194
  | 195 => some i195
  | 196 => some i196
  | 197 => some i197
  | 198 => some i198
  | 199 => some i199
  | 200 => some i200
  | 201 => some i201
  | 202 => some i202
  | 203 => some i203
  | 204 => some i204
  | 205 => some i205
  | 206 => some i206
  | 207 => some i207
  | 208 => some i208
  | 209 => some i209
  | 210 => some i210
  | 211 => some i211
  | 212 => some i212
  | 213 => some i213
  | 214 => some i214
  | 215 => some i215
  | 216 => some i216
  | 217 => some i217
  | 218 => some i218
  | 219 => some i219
  | 220 => some i220
  | 221 => some i221
  | 222 => some i222
  | 223 => some i223
  | 224 => some i224
  | 225 => some i225
  | 226 => some i226
  | 227 => some i227
  | 228 => some i228
  | 229 => some i229
  | 230 => some i230
  | 231 => some i231
  | 233 => some i233
  | 234 => some i234
  | 235 => some i235
  | 236 => some i236
  | 237 => some i237
  | 238 => some i238
  | 239 => some i239
  | _ => none
theorem tab_ok_4 {t : Nat} {i : TI} (h : tab_4 t = some i) : TyOk Tryz.prog t i := by
  unfold tab_4 at h
  split at h <;> cases h
  · exact ok192
  · exact ok193
  · exact ok194
  · exact ok195
  · exact ok196
  · exact ok197
  · exact ok198
  · exact ok199
  · exact ok200
  · exact ok201
  · exact ok202
  · exact ok203
  · exact ok204
  · exact ok205
  · exact ok206
  · exact ok207
  · exact ok208
  · exact ok209
  · exact ok210
  · exact ok211
  · exact ok212
  · exact ok213
  · exact ok214
  · exact ok215
  · exact ok216
  · exact ok217
  · exact ok218
  · exact ok219
  · exact ok220
  · exact ok221
  · exact ok222
  · exact ok223
  · exact ok224
  · exact ok225
  · exact ok226
  · exact ok227
  · exact ok228
  · exact ok229
  · exact ok230
  · exact ok231
  · exact ok233
  · exact ok234
  · exact ok235
  · exact ok236
  · exact ok237
  · exact ok238
  · exact ok239
def tab_5 : Nat → Option TI
  | 240 => some i240
  | 241 => some i241
  | 242 => some i242
  | 243 => some i243
  | 244 => some i244
  | 245 => some i245
  | 246 => some i246
  | 247 => some i247
  | 249 => some i249
  | 250 => some i250
  | 251 => some i251
  | 252 => some i252
  | 253 => some i253
  | 254 => some i254
  | 255 => some i255
  | 256 => some i256
  | 257 => some i257
  | 258 => some i258
  | 259 => some i259
  | 260 => some i260
  | 261 => some i261
  | 262 => some i262
  | 263 => some i263
  | 264 => some i264
  | 265 => some i265
  | 266 => some i266
  | 267 => some i267
  | 268 => some i268
  | 269 => some i269
  | 270 => some i270
  | 271 => some i271
  | 272 => some i272
  | 273 => some i273
  | 274 => some i274
  | 275 => some i275
  | 276 => some i276
  | 277 => some i277
  | 278 => some i278
  | 279 => some i279
  | 280 => some i280
  | 281 => some i281
  | 283 => some i283
  | 284 => some i284
  | 285 => some i285
  | 286 => some i286
  | 287 => some i287
  | _ => none
theorem tab_ok_5 {t : Nat} {i : TI} (h : tab_5 t = some i) : TyOk Tryz.prog t i := by
  unfold tab_5 at h
  split at h <;> cases h
  · exact ok240
  · exact ok241
  · exact ok242
  · exact ok243
  · exact ok244
  · exact ok245
  · exact ok246
  · exact ok247
  · exact ok249
  · exact ok250
  · exact ok251
  · exact ok252
  · exact ok253
  · exact ok254
  · exact ok255
  · exact ok256
  · exact ok257
  · exact ok258
  · exact ok259
  · exact ok260
  · exact ok261
  · exact ok262
  · exact ok263
  · exact ok264
  · exact ok265
  · exact ok266
  · exact ok267
  · exact ok268
  · exact ok269
  · exact ok270
  · exact ok271
  · exact ok272
  · exact ok273
  · exact ok274
  · exact ok275
  · exact ok276
  · exact ok277
  · exact ok278
  · exact ok279
  · exact ok280
  · exact ok281
  · exact ok283
  · exact ok284
  · exact ok285
  · exact ok286
  · exact ok287
def tab_6 : Nat → Option TI
  | 288 => some i288
  | 289 => some i289
  | 290 => some i290
  | _ => none
theorem tab_ok_6 {t : Nat} {i : TI} (h : tab_6 t = some i) : TyOk Tryz.prog t i := by
  unfold tab_6 at h
  split at h <;> cases h
  · exact ok288
  · exact ok289
  · exact ok290
def tab (t : Nat) : Option TI := if t < 48 then tab_0 t else if t < 96 then tab_1 t else if t < 144 then tab_2 t else if t < 192 then tab_3 t else if t < 240 then tab_4 t else if t < 288 then tab_5 t else if t < 336 then tab_6 t else none
theorem tab_ok : TabOk Tryz.prog tab := by
  intro t i h
  unfold tab at h
  by_cases h0 : t < 48
  · rw [if_pos h0] at h; exact tab_ok_0 h
  rw [if_neg h0] at h
  by_cases h1 : t < 96
  · rw [if_pos h1] at h; exact tab_ok_1 h
  rw [if_neg h1] at h
  by_cases h2 : t < 144
  · rw [if_pos h2] at h; exact tab_ok_2 h
  rw [if_neg h2] at h
  by_cases h3 : t < 192
  · rw [if_pos h3] at h; exact tab_ok_3 h
  rw [if_neg h3] at h
  by_cases h4 : t < 240
  · rw [if_pos h4] at h; exact tab_ok_4 h
  rw [if_neg h4] at h
  by_cases h5 : t < 288
  · rw [if_pos h5] at h; exact tab_ok_5 h
  rw [if_neg h5] at h
  by_cases h6 : t < 336
  · rw [if_pos h6] at h; exact tab_ok_6 h
  rw [if_neg h6] at h
  cases h
@[simp] theorem tab1 : tab 1 = some ⟨.func, 1, 8, .nilfunc, true⟩ := nd rfl
@[simp] theorem tab2 : tab 2 = some ⟨.int .i64, 1, 8, .int .i64 0, true⟩ := nd rfl
@[simp] theorem tab3 : tab 3 = some ⟨.int .i64, 1, 8, .int .i64 0, true⟩ := nd rfl
@[simp] theorem tab4 : tab 4 = some ⟨.bool, 1, 1, .bool false, true⟩ := nd rfl
@[simp] theorem tab5 : tab 5 = some ⟨.int .u8, 1, 1, .int .u8 0, true⟩ := nd rfl
@[simp] theorem tab6 : tab 6 = some ⟨.int .u8, 1, 1, .int .u8 0, true⟩ := nd rfl
@[simp] theorem tab7 : tab 7 = some ⟨.struct [(2, 0), (3, 1), (4, 2), (6, 3)], 4, 24, .agg [.int .i64 0, .int .i64 0, .bool false, .int .u8 0], true⟩ := nd rfl
@[simp] theorem tab8 : tab 8 = some ⟨.struct [(2, 0), (3, 1), (4, 2), (6, 3)], 4, 24, .agg [.int .i64 0, .int .i64 0, .bool false, .int .u8 0], true⟩ := nd rfl
@[simp] theorem tab9 : tab 9 = some ⟨.str, 1, 16, .str ⟨#[]⟩, true⟩ := nd rfl
@[simp] theorem tab10 : tab 10 = some ⟨.str, 1, 16, .str ⟨#[]⟩, true⟩ := nd rfl
@[simp] theorem tab11 : tab 11 = some ⟨.str, 1, 16, .str ⟨#[]⟩, true⟩ := nd rfl
@[simp] theorem tab12 : tab 12 = some ⟨.int .u64, 1, 8, .int .u64 0, true⟩ := nd rfl
@[simp] theorem tab13 : tab 13 = some ⟨.struct [(9, 0), (12, 1)], 2, 24, .agg [.str ⟨#[]⟩, .int .u64 0], false⟩ := nd rfl
@[simp] theorem tab14 : tab 14 = some ⟨.struct [(9, 0), (12, 1)], 2, 24, .agg [.str ⟨#[]⟩, .int .u64 0], false⟩ := nd rfl
@[simp] theorem tab15 : tab 15 = some ⟨.ptr, 1, 8, .nilptr, true⟩ := nd rfl
@[simp] theorem tab16 : tab 16 = some ⟨.ptr, 1, 8, .nilptr, true⟩ := nd rfl
@[simp] theorem tab17 : tab 17 = some ⟨.ptr, 1, 8, .nilptr, true⟩ := nd rfl
@[simp] theorem tab18 : tab 18 = some ⟨.struct [(17, 0)], 1, 8, .agg [.nilptr], false⟩ := nd rfl
@[simp] theorem tab19 : tab 19 = some ⟨.struct [(17, 0)], 1, 8, .agg [.nilptr], false⟩ := nd rfl
@[simp] theorem tab20 : tab 20 = some ⟨.iface, 1, 16, .niliface, true⟩ := nd rfl
@[simp] theorem tab21 : tab 21 = some ⟨.int .i32, 1, 4, .int .i32 0, true⟩ := nd rfl
@[simp] theorem tab22 : tab 22 = some ⟨.slice 63, 1, 24, .nilslice, true⟩ := nd rfl
@[simp] theorem tab23 : tab 23 = some ⟨.slice 3, 1, 24, .nilslice, true⟩ := nd rfl
@[simp] theorem tab24 : tab 24 = some ⟨.struct [(3, 0), (22, 1), (23, 2)], 3, 56, .agg [.int .i64 0, .nilslice, .nilslice], true⟩ := nd rfl
@[simp] theorem tab25 : tab 25 = some ⟨.struct [(3, 0), (22, 1), (23, 2)], 3, 56, .agg [.int .i64 0, .nilslice, .nilslice], true⟩ := nd rfl
@[simp] theorem tab26 : tab 26 = some ⟨.slice 54, 1, 24, .nilslice, true⟩ := nd rfl
@[simp] theorem tab27 : tab 27 = some ⟨.int .u16, 1, 2, .int .u16 0, true⟩ := nd rfl
@[simp] theorem tab28 : tab 28 = some ⟨.struct [(25, 0), (26, 3), (5, 4), (21, 5), (27, 6)], 7, 96, .agg [.int .i64 0, .nilslice, .nilslice, .nilslice, .int .u8 0, .int .i32 0, .int .u16 0], true⟩ := nd rfl
@[simp] theorem tab29 : tab 29 = some ⟨.struct [(25, 0), (26, 3), (5, 4), (21, 5), (27, 6)], 7, 96, .agg [.int .i64 0, .nilslice, .nilslice, .nilslice, .int .u8 0, .int .i32 0, .int .u16 0], true⟩ := nd rfl
@[simp] theorem tab30 : tab 30 = some ⟨.func, 1, 8, .nilfunc, true⟩ := nd rfl
@[simp] theorem tab31 : tab 31 = some ⟨.struct [(3, 0), (2, 1), (2, 2), (2, 3), (2, 4)], 5, 40, .agg [.int .i64 0, .int .i64 0, .int .i64 0, .int .i64 0, .int .i64 0], true⟩ := nd rfl
@[simp] theorem tab32 : tab 32 = some ⟨.struct [(3, 0), (2, 1), (2, 2), (2, 3), (2, 4)], 5, 40, .agg [.int .i64 0, .int .i64 0, .int .i64 0, .int .i64 0, .int .i64 0], true⟩ := nd rfl
@[simp] theorem tab33 : tab 33 = some ⟨.struct [(32, 0), (2, 5), (2, 6)], 7, 56, .agg [.int .i64 0, .int .i64 0, .int .i64 0, .int .i64 0, .int .i64 0, .int .i64 0, .int .i64 0], true⟩ := nd rfl
@[simp] theorem tab34 : tab 34 = some ⟨.struct [(32, 0), (2, 5), (2, 6)], 7, 56, .agg [.int .i64 0, .int .i64 0, .int .i64 0, .int .i64 0, .int .i64 0, .int .i64 0, .int .i64 0], true⟩ := nd rfl
@[simp] theorem tab36 : tab 36 = some ⟨.func, 1, 8, .nilfunc, true⟩ := nd rfl
@[simp] theorem tab37 : tab 37 = some ⟨.slice 47, 1, 24, .nilslice, true⟩ := nd rfl
@[simp] theorem tab38 : tab 38 = some ⟨.int .i64, 1, 8, .int .i64 0, true⟩ := nd rfl
@[simp] theorem tab40 : tab 40 = some ⟨.func, 1, 8, .nilfunc, true⟩ := nd rfl
@[simp] theorem tab41 : tab 41 = some ⟨.func, 1, 8, .nilfunc, true⟩ := nd rfl
@[simp] theorem tab42 : tab 42 = some ⟨.func, 1, 8, .nilfunc, true⟩ := nd rfl
@[simp] theorem tab44 : tab 44 = some ⟨.func, 1, 8, .nilfunc, true⟩ := nd rfl
@[simp] theorem tab45 : tab 45 = some ⟨.func, 1, 8, .nilfunc, true⟩ := nd rfl
@[simp] theorem tab46 : tab 46 = some ⟨.struct [(2, 0), (2, 1), (26, 2), (26, 3), (26, 4), (26, 5)], 6, 112, .agg [.int .i64 0, .int .i64 0, .nilslice, .nilslice, .nilslice, .nilslice], true⟩ := nd rfl
@[simp] theorem tab47 : tab 47 = some ⟨.struct [(2, 0), (2, 1), (26, 2), (26, 3), (26, 4), (26, 5)], 6, 112, .agg [.int .i64 0, .int .i64 0, .nilslice, .nilslice, .nilslice, .nilslice], true⟩ := nd rfl
@[simp] theorem tab48 : tab 48 = some ⟨.func, 1, 8, .nilfunc, true⟩ := nd rfl
@[simp] theorem tab49 : tab 49 = some ⟨.int .u32, 1, 4, .int .u32 0, true⟩ := nd rfl
@[simp] theorem tab50 : tab 50 = some ⟨.arr 2 49, 2, 8, .agg [.int .u32 0, .int .u32 0], true⟩ := nd rfl
@[simp] theorem tab51 : tab 51 = some ⟨.func, 1, 8, .nilfunc, true⟩ := nd rfl
@[simp] theorem tab52 : tab 52 = some ⟨.func, 1, 8, .nilfunc, true⟩ := nd rfl
@[simp] theorem tab53 : tab 53 = some ⟨.struct [(2, 0), (2, 1)], 2, 16, .agg [.int .i64 0, .int .i64 0], true⟩ := nd rfl
@[simp] theorem tab54 : tab 54 = some ⟨.struct [(2, 0), (2, 1)], 2, 16, .agg [.int .i64 0, .int .i64 0], true⟩ := nd rfl
@[simp] theorem tab56 : tab 56 = some ⟨.func, 1, 8, .nilfunc, true⟩ := nd rfl
@[simp] theorem tab57 : tab 57 = some ⟨.func, 1, 8, .nilfunc, true⟩ := nd rfl
@[simp] theorem tab58 : tab 58 = some ⟨.func, 1, 8, .nilfunc, true⟩ := nd rfl
@[simp] theorem tab59 : tab 59 = some ⟨.func, 1, 8, .nilfunc, true⟩ := nd rfl
@[simp] theorem tab60 : tab 60 = some ⟨.func, 1, 8, .nilfunc, true⟩ := nd rfl
@[simp] theorem tab61 : tab 61 = some ⟨.arr 3 49, 3, 12, .agg [.int .u32 0, .int .u32 0, .int .u32 0], true⟩ := nd rfl
@[simp] theorem tab62 : tab 62 = some ⟨.struct [(3, 0), (3, 1), (3, 2), (54, 3)], 5, 40, .agg [.int .i64 0, .int .i64 0, .int .i64 0, .int .i64 0, .int .i64 0], true⟩ := nd rfl
@[simp] theorem tab63 : tab 63 = some ⟨.struct [(3, 0), (3, 1), (3, 2), (54, 3)], 5, 40, .agg [.int .i64 0, .int .i64 0, .int .i64 0, .int .i64 0, .int .i64 0], true⟩ := nd rfl
@[simp] theorem tab64 : tab 64 = some ⟨.func, 1, 8, .nilfunc, true⟩ := nd rfl
@[simp] theorem tab65 : tab 65 = some ⟨.func, 1, 8, .nilfunc, true⟩ := nd rfl
@[simp] theorem tab66 : tab 66 = some ⟨.func, 1, 8, .nilfunc, true⟩ := nd rfl
@[simp] theorem tab67 : tab 67 = some ⟨.func, 1, 8, .nilfunc, true⟩ := nd rfl
@[simp] theorem tab68 : tab 68 = some ⟨.struct [(37, 0), (5, 1), (2, 2), (54, 3), (3, 5)], 6, 64, .agg [.nilslice, .int .u8 0, .int .i64 0, .int .i64 0, .int .i64 0, .int .i64 0], true⟩ := nd rfl
@[simp] theorem tab69 : tab 69 = some ⟨.struct [(37, 0), (5, 1), (2, 2), (54, 3), (3, 5)], 6, 64, .agg [.nilslice, .int .u8 0, .int .i64 0, .int .i64 0, .int .i64 0, .int .i64 0], true⟩ := nd rfl
@[simp] theorem tab70 : tab 70 = some ⟨.func, 1, 8, .nilfunc, true⟩ := nd rfl
@[simp] theorem tab71 : tab 71 = some ⟨.func, 1, 8, .nilfunc, true⟩ := nd rfl
@[simp] theorem tab72 : tab 72 = some ⟨.func, 1, 8, .nilfunc, true⟩ := nd rfl
@[simp] theorem tab73 : tab 73 = some ⟨.func, 1, 8, .nilfunc, true⟩ := nd rfl
@[simp] theorem tab75 : tab 75 = some ⟨.func, 1, 8, .nilfunc, true⟩ := nd rfl
@[simp] theorem tab76 : tab 76 = some ⟨.func, 1, 8, .nilfunc, true⟩ := nd rfl
@[simp] theorem tab77 : tab 77 = some ⟨.func, 1, 8, .nilfunc, true⟩ := nd rfl
@[simp] theorem tab78 : tab 78 = some ⟨.slice 81, 1, 24, .nilslice, true⟩ := nd rfl
@[simp] theorem tab79 : tab 79 = some ⟨.func, 1, 8, .nilfunc, true⟩ := nd rfl
@[simp] theorem tab80 : tab 80 = some ⟨.struct [(3, 0), (54, 1), (26, 3)], 4, 48, .agg [.int .i64 0, .int .i64 0, .int .i64 0, .nilslice], true⟩ := nd rfl
@[simp] theorem tab81 : tab 81 = some ⟨.struct [(3, 0), (54, 1), (26, 3)], 4, 48, .agg [.int .i64 0, .int .i64 0, .int .i64 0, .nilslice], true⟩ := nd rfl
@[simp] theorem tab82 : tab 82 = some ⟨.func, 1, 8, .nilfunc, true⟩ := nd rfl
@[simp] theorem tab83 : tab 83 = some ⟨.func, 1, 8, .nilfunc, true⟩ := nd rfl
@[simp] theorem tab84 : tab 84 = some ⟨.func, 1, 8, .nilfunc, true⟩ := nd rfl
@[simp] theorem tab85 : tab 85 = some ⟨.slice 136, 1, 24, .nilslice, true⟩ := nd rfl
@[simp] theorem tab86 : tab 86 = some ⟨.struct [(85, 0), (26, 1), (5, 2), (21, 3), (27, 4)], 5, 64, .agg [.nilslice, .nilslice, .int .u8 0, .int .i32 0, .int .u16 0], true⟩ := nd rfl
@[simp] theorem tab87 : tab 87 = some ⟨.struct [(85, 0), (26, 1), (5, 2), (21, 3), (27, 4)], 5, 64, .agg [.nilslice, .nilslice, .int .u8 0, .int .i32 0, .int .u16 0], true⟩ := nd rfl
@[simp] theorem tab88 : tab 88 = some ⟨.func, 1, 8, .nilfunc, true⟩ := nd rfl
@[simp] theorem tab89 : tab 89 = some ⟨.slice 9, 1, 24, .nilslice, true⟩ := nd rfl
@[simp] theorem tab90 : tab 90 = some ⟨.struct [(89, 0), (85, 1)], 2, 48, .agg [.nilslice, .nilslice], true⟩ := nd rfl
@[simp] theorem tab91 : tab 91 = some ⟨.struct [(89, 0), (85, 1)], 2, 48, .agg [.nilslice, .nilslice], true⟩ := nd rfl
@[simp] theorem tab92 : tab 92 = some ⟨.func, 1, 8, .nilfunc, true⟩ := nd rfl
@[simp] theorem tab93 : tab 93 = some ⟨.func, 1, 8, .nilfunc, true⟩ := nd rfl
@[simp] theorem tab94 : tab 94 = some ⟨.slice 101, 1, 24, .nilslice, true⟩ := nd rfl
@[simp] theorem tab95 : tab 95 = some ⟨.struct [(2, 0), (26, 1), (94, 2)], 3, 56, .agg [.int .i64 0, .nilslice, .nilslice], true⟩ := nd rfl
@[simp] theorem tab96 : tab 96 = some ⟨.struct [(2, 0), (26, 1), (94, 2)], 3, 56, .agg [.int .i64 0, .nilslice, .nilslice], true⟩ := nd rfl
@[simp] theorem tab98 : tab 98 = some ⟨.func, 1, 8, .nilfunc, true⟩ := nd rfl
@[simp] theorem tab99 : tab 99 = some ⟨.func, 1, 8, .nilfunc, true⟩ := nd rfl
@[simp] theorem tab100 : tab 100 = some ⟨.struct [(2, 0), (3, 1), (26, 2), (26, 3)], 4, 64, .agg [.int .i64 0, .int .i64 0, .nilslice, .nilslice], true⟩ := nd rfl
@[simp] theorem tab101 : tab 101 = some ⟨.struct [(2, 0), (3, 1), (26, 2), (26, 3)], 4, 64, .agg [.int .i64 0, .int .i64 0, .nilslice, .nilslice], true⟩ := nd rfl
@[simp] theorem tab103 : tab 103 = some ⟨.func, 1, 8, .nilfunc, true⟩ := nd rfl
@[simp] theorem tab104 : tab 104 = some ⟨.slice 5, 1, 24, .nilslice, true⟩ := nd rfl
@[simp] theorem tab105 : tab 105 = some ⟨.func, 1, 8, .nilfunc, true⟩ := nd rfl
@[simp] theorem tab106 : tab 106 = some ⟨.func, 1, 8, .nilfunc, true⟩ := nd rfl
@[simp] theorem tab107 : tab 107 = some ⟨.func, 1, 8, .nilfunc, true⟩ := nd rfl
@[simp] theorem tab108 : tab 108 = some ⟨.func, 1, 8, .nilfunc, true⟩ := nd rfl
@[simp] theorem tab109 : tab 109 = some ⟨.func, 1, 8, .nilfunc, true⟩ := nd rfl
@[simp] theorem tab110 : tab 110 = some ⟨.func, 1, 8, .nilfunc, true⟩ := nd rfl
@[simp] theorem tab111 : tab 111 = some ⟨.func, 1, 8, .nilfunc, true⟩ := nd rfl
@[simp] theorem tab112 : tab 112 = some ⟨.func, 1, 8, .nilfunc, true⟩ := nd rfl
@[simp] theorem tab113 : tab 113 = some ⟨.func, 1, 8, .nilfunc, true⟩ := nd rfl
@[simp] theorem tab114 : tab 114 = some ⟨.func, 1, 8, .nilfunc, true⟩ := nd rfl
@[simp] theorem tab115 : tab 115 = some ⟨.struct [(32, 0), (2, 5), (2, 6), (2, 7)], 8, 64, .agg [.int .i64 0, .int .i64 0, .int .i64 0, .int .i64 0, .int .i64 0, .int .i64 0, .int .i64 0, .int .i64 0], true⟩ := nd rfl
@[simp] theorem tab116 : tab 116 = some ⟨.struct [(32, 0), (2, 5), (2, 6), (2, 7)], 8, 64, .agg [.int .i64 0, .int .i64 0, .int .i64 0, .int .i64 0, .int .i64 0, .int .i64 0, .int .i64 0, .int .i64 0], true⟩ := nd rfl
@[simp] theorem tab118 : tab 118 = some ⟨.func, 1, 8, .nilfunc, true⟩ := nd rfl
@[simp] theorem tab119 : tab 119 = some ⟨.func, 1, 8, .nilfunc, true⟩ := nd rfl
@[simp] theorem tab120 : tab 120 = some ⟨.arr 4 26, 4, 96, .agg [.nilslice, .nilslice, .nilslice, .nilslice], true⟩ := nd rfl
@[simp] theorem tab121 : tab 121 = some ⟨.func, 1, 8, .nilfunc, true⟩ := nd rfl
@[simp] theorem tab122 : tab 122 = some ⟨.func, 1, 8, .nilfunc, true⟩ := nd rfl
@[simp] theorem tab123 : tab 123 = some ⟨.func, 1, 8, .nilfunc, true⟩ := nd rfl
@[simp] theorem tab124 : tab 124 = some ⟨.func, 1, 8, .nilfunc, true⟩ := nd rfl
@[simp] theorem tab125 : tab 125 = some ⟨.func, 1, 8, .nilfunc, true⟩ := nd rfl
@[simp] theorem tab126 : tab 126 = some ⟨.func, 1, 8, .nilfunc, true⟩ := nd rfl
@[simp] theorem tab127 : tab 127 = some ⟨.func, 1, 8, .nilfunc, true⟩ := nd rfl
@[simp] theorem tab128 : tab 128 = some ⟨.func, 1, 8, .nilfunc, true⟩ := nd rfl
@[simp] theorem tab129 : tab 129 = some ⟨.func, 1, 8, .nilfunc, true⟩ := nd rfl
@[simp] theorem tab130 : tab 130 = some ⟨.func, 1, 8, .nilfunc, true⟩ := nd rfl
@[simp] theorem tab131 : tab 131 = some ⟨.func, 1, 8, .nilfunc, true⟩ := nd rfl
@[simp] theorem tab132 : tab 132 = some ⟨.func, 1, 8, .nilfunc, true⟩ := nd rfl
@[simp] theorem tab133 : tab 133 = some ⟨.func, 1, 8, .nilfunc, true⟩ := nd rfl
@[simp] theorem tab134 : tab 134 = some ⟨.func, 1, 8, .nilfunc, true⟩ := nd rfl
@[simp] theorem tab135 : tab 135 = some ⟨.func, 1, 8, .nilfunc, true⟩ := nd rfl
@[simp] theorem tab136 : tab 136 = some ⟨.slice 167, 1, 24, .nilslice, true⟩ := nd rfl
@[simp] theorem tab138 : tab 138 = some ⟨.func, 1, 8, .nilfunc, true⟩ := nd rfl
@[simp] theorem tab139 : tab 139 = some ⟨.func, 1, 8, .nilfunc, true⟩ := nd rfl
@[simp] theorem tab141 : tab 141 = some ⟨.func, 1, 8, .nilfunc, true⟩ := nd rfl
@[simp] theorem tab142 : tab 142 = some ⟨.ptr, 1, 8, .nilptr, true⟩ := nd rfl
@[simp] theorem tab143 : tab 143 = some ⟨.struct [(104, 0)], 1, 24, .agg [.nilslice], true⟩ := nd rfl
@[simp] theorem tab144 : tab 144 = some ⟨.struct [(104, 0)], 1, 24, .agg [.nilslice], true⟩ := nd rfl
@[simp] theorem tab145 : tab 145 = some ⟨.func, 1, 8, .nilfunc, true⟩ := nd rfl
@[simp] theorem tab146 : tab 146 = some ⟨.func, 1, 8, .nilfunc, true⟩ := nd rfl
@[simp] theorem tab147 : tab 147 = some ⟨.func, 1, 8, .nilfunc, true⟩ := nd rfl
@[simp] theorem tab148 : tab 148 = some ⟨.func, 1, 8, .nilfunc, true⟩ := nd rfl
@[simp] theorem tab149 : tab 149 = some ⟨.func, 1, 8, .nilfunc, true⟩ := nd rfl
@[simp] theorem tab151 : tab 151 = some ⟨.func, 1, 8, .nilfunc, true⟩ := nd rfl
@[simp] theorem tab152 : tab 152 = some ⟨.struct [(2, 0), (2, 1)], 2, 16, .agg [.int .i64 0, .int .i64 0], true⟩ := nd rfl
@[simp] theorem tab153 : tab 153 = some ⟨.struct [(2, 0), (2, 1)], 2, 16, .agg [.int .i64 0, .int .i64 0], true⟩ := nd rfl
@[simp] theorem tab154 : tab 154 = some ⟨.func, 1, 8, .nilfunc, true⟩ := nd rfl
@[simp] theorem tab155 : tab 155 = some ⟨.iface, 1, 16, .niliface, false⟩ := nd rfl
@[simp] theorem tab156 : tab 156 = some ⟨.iface, 1, 16, .niliface, false⟩ := nd rfl
@[simp] theorem tab157 : tab 157 = some ⟨.iface, 1, 16, .niliface, false⟩ := nd rfl
@[simp] theorem tab158 : tab 158 = some ⟨.iface, 1, 16, .niliface, false⟩ := nd rfl
@[simp] theorem tab159 : tab 159 = some ⟨.func, 1, 8, .nilfunc, true⟩ := nd rfl
@[simp] theorem tab160 : tab 160 = some ⟨.func, 1, 8, .nilfunc, true⟩ := nd rfl
@[simp] theorem tab162 : tab 162 = some ⟨.func, 1, 8, .nilfunc, true⟩ := nd rfl
@[simp] theorem tab163 : tab 163 = some ⟨.func, 1, 8, .nilfunc, true⟩ := nd rfl
@[simp] theorem tab164 : tab 164 = some ⟨.func, 1, 8, .nilfunc, true⟩ := nd rfl
@[simp] theorem tab165 : tab 165 = some ⟨.int .u64, 1, 8, .int .u64 0, true⟩ := nd rfl
@[simp] theorem tab166 : tab 166 = some ⟨.struct [(3, 0), (3, 1), (54, 2)], 4, 32, .agg [.int .i64 0, .int .i64 0, .int .i64 0, .int .i64 0], true⟩ := nd rfl
@[simp] theorem tab167 : tab 167 = some ⟨.struct [(3, 0), (3, 1), (54, 2)], 4, 32, .agg [.int .i64 0, .int .i64 0, .int .i64 0, .int .i64 0], true⟩ := nd rfl
@[simp] theorem tab168 : tab 168 = some ⟨.arr 2 3, 2, 16, .agg [.int .i64 0, .int .i64 0], true⟩ := nd rfl
@[simp] theorem tab170 : tab 170 = some ⟨.func, 1, 8, .nilfunc, true⟩ := nd rfl
@[simp] theorem tab171 : tab 171 = some ⟨.ptr, 1, 8, .nilptr, true⟩ := nd rfl
@[simp] theorem tab172 : tab 172 = some ⟨.struct [(136, 0), (3, 1)], 2, 32, .agg [.nilslice, .int .i64 0], true⟩ := nd rfl
@[simp] theorem tab173 : tab 173 = some ⟨.struct [(136, 0), (3, 1)], 2, 32, .agg [.nilslice, .int .i64 0], true⟩ := nd rfl
@[simp] theorem tab174 : tab 174 = some ⟨.func, 1, 8, .nilfunc, true⟩ := nd rfl
@[simp] theorem tab175 : tab 175 = some ⟨.func, 1, 8, .nilfunc, true⟩ := nd rfl
@[simp] theorem tab176 : tab 176 = some ⟨.func, 1, 8, .nilfunc, true⟩ := nd rfl
@[simp] theorem tab177 : tab 177 = some ⟨.func, 1, 8, .nilfunc, true⟩ := nd rfl
@[simp] theorem tab178 : tab 178 = some ⟨.int .u64, 1, 8, .int .u64 0, true⟩ := nd rfl
@[simp] theorem tab179 : tab 179 = some ⟨.func, 1, 8, .nilfunc, true⟩ := nd rfl
@[simp] theorem tab180 : tab 180 = some ⟨.func, 1, 8, .nilfunc, true⟩ := nd rfl
@[simp] theorem tab181 : tab 181 = some ⟨.struct [(2, 0), (2, 1), (54, 2), (3, 4)], 5, 40, .agg [.int .i64 0, .int .i64 0, .int .i64 0, .int .i64 0, .int .i64 0], true⟩ := nd rfl
@[simp] theorem tab182 : tab 182 = some ⟨.struct [(2, 0), (2, 1), (54, 2), (3, 4)], 5, 40, .agg [.int .i64 0, .int .i64 0, .int .i64 0, .int .i64 0, .int .i64 0], true⟩ := nd rfl
@[simp] theorem tab183 : tab 183 = some ⟨.func, 1, 8, .nilfunc, true⟩ := nd rfl
@[simp] theorem tab184 : tab 184 = some ⟨.struct [(17, 0)], 1, 8, .agg [.nilptr], false⟩ := nd rfl
@[simp] theorem tab185 : tab 185 = some ⟨.struct [(17, 0)], 1, 8, .agg [.nilptr], false⟩ := nd rfl
@[simp] theorem tab186 : tab 186 = some ⟨.ptr, 1, 8, .nilptr, true⟩ := nd rfl
@[simp] theorem tab187 : tab 187 = some ⟨.iface, 1, 16, .niliface, false⟩ := nd rfl
@[simp] theorem tab189 : tab 189 = some ⟨.func, 1, 8, .nilfunc, true⟩ := nd rfl
@[simp] theorem tab190 : tab 190 = some ⟨.iface, 1, 16, .niliface, false⟩ := nd rfl
@[simp] theorem tab191 : tab 191 = some ⟨.func, 1, 8, .nilfunc, true⟩ := nd rfl
@[simp] theorem tab192 : tab 192 = some ⟨.iface, 1, 16, .niliface, false⟩ := nd rfl
@[simp] theorem tab193 : tab 193 = some ⟨.slice 156, 1, 24, .nilslice, true⟩ := nd rfl
@[simp] theorem tab194 : tab 194 = some ⟨.func, 1, 8, .nilfunc, true⟩ := nd rfl
@[simp] theorem tab195 : tab 195 = some ⟨.func, 1, 8, .nilfunc, true⟩ := nd rfl
@[simp] theorem tab196 : tab 196 = some ⟨.func, 1, 8, .nilfunc, true⟩ := nd rfl
@[simp] theorem tab197 : tab 197 = some ⟨.func, 1, 8, .nilfunc, true⟩ := nd rfl
@[simp] theorem tab198 : tab 198 = some ⟨.func, 1, 8, .nilfunc, true⟩ := nd rfl
@[simp] theorem tab199 : tab 199 = some ⟨.func, 1, 8, .nilfunc, true⟩ := nd rfl
@[simp] theorem tab200 : tab 200 = some ⟨.func, 1, 8, .nilfunc, true⟩ := nd rfl
@[simp] theorem tab201 : tab 201 = some ⟨.func, 1, 8, .nilfunc, true⟩ := nd rfl
@[simp] theorem tab202 : tab 202 = some ⟨.func, 1, 8, .nilfunc, true⟩ := nd rfl
@[simp] theorem tab203 : tab 203 = some ⟨.func, 1, 8, .nilfunc, true⟩ := nd rfl
@[simp] theorem tab204 : tab 204 = some ⟨.func, 1, 8, .nilfunc, true⟩ := nd rfl
@[simp] theorem tab205 : tab 205 = some ⟨.func, 1, 8, .nilfunc, true⟩ := nd rfl
@[simp] theorem tab206 : tab 206 = some ⟨.func, 1, 8, .nilfunc, true⟩ := nd rfl
@[simp] theorem tab207 : tab 207 = some ⟨.func, 1, 8, .nilfunc, true⟩ := nd rfl
@[simp] theorem tab208 : tab 208 = some ⟨.slice 26, 1, 24, .nilslice, true⟩ := nd rfl
@[simp] theorem tab209 : tab 209 = some ⟨.func, 1, 8, .nilfunc, true⟩ := nd rfl
@[simp] theorem tab210 : tab 210 = some ⟨.func, 1, 8, .nilfunc, true⟩ := nd rfl
@[simp] theorem tab211 : tab 211 = some ⟨.func, 1, 8, .nilfunc, true⟩ := nd rfl
@[simp] theorem tab212 : tab 212 = some ⟨.func, 1, 8, .nilfunc, true⟩ := nd rfl
@[simp] theorem tab213 : tab 213 = some ⟨.func, 1, 8, .nilfunc, true⟩ := nd rfl
@[simp] theorem tab214 : tab 214 = some ⟨.func, 1, 8, .nilfunc, true⟩ := nd rfl
@[simp] theorem tab215 : tab 215 = some ⟨.func, 1, 8, .nilfunc, true⟩ := nd rfl
@[simp] theorem tab216 : tab 216 = some ⟨.func, 1, 8, .nilfunc, true⟩ := nd rfl
@[simp] theorem tab217 : tab 217 = some ⟨.func, 1, 8, .nilfunc, true⟩ := nd rfl
@[simp] theorem tab218 : tab 218 = some ⟨.func, 1, 8, .nilfunc, true⟩ := nd rfl
@[simp] theorem tab219 : tab 219 = some ⟨.func, 1, 8, .nilfunc, true⟩ := nd rfl
@[simp] theorem tab220 : tab 220 = some ⟨.func, 1, 8, .nilfunc, true⟩ := nd rfl
@[simp] theorem tab221 : tab 221 = some ⟨.struct [(71, 0), (71, 1), (72, 2), (72, 3), (72, 4), (71, 5), (218, 6), (219, 7), (220, 8)], 9, 72, .agg [.nilfunc, .nilfunc, .nilfunc, .nilfunc, .nilfunc, .nilfunc, .nilfunc, .nilfunc, .nilfunc], true⟩ := nd rfl
@[simp] theorem tab222 : tab 222 = some ⟨.struct [(71, 0), (71, 1), (72, 2), (72, 3), (72, 4), (71, 5), (218, 6), (219, 7), (220, 8)], 9, 72, .agg [.nilfunc, .nilfunc, .nilfunc, .nilfunc, .nilfunc, .nilfunc, .nilfunc, .nilfunc, .nilfunc], true⟩ := nd rfl
@[simp] theorem tab223 : tab 223 = some ⟨.func, 1, 8, .nilfunc, true⟩ := nd rfl
@[simp] theorem tab224 : tab 224 = some ⟨.func, 1, 8, .nilfunc, true⟩ := nd rfl
@[simp] theorem tab225 : tab 225 = some ⟨.func, 1, 8, .nilfunc, true⟩ := nd rfl
@[simp] theorem tab226 : tab 226 = some ⟨.func, 1, 8, .nilfunc, true⟩ := nd rfl
@[simp] theorem tab227 : tab 227 = some ⟨.func, 1, 8, .nilfunc, true⟩ := nd rfl
@[simp] theorem tab228 : tab 228 = some ⟨.func, 1, 8, .nilfunc, true⟩ := nd rfl
@[simp] theorem tab229 : tab 229 = some ⟨.func, 1, 8, .nilfunc, true⟩ := nd rfl
@[simp] theorem tab230 : tab 230 = some ⟨.func, 1, 8, .nilfunc, true⟩ := nd rfl
@[simp] theorem tab231 : tab 231 = some ⟨.func, 1, 8, .nilfunc, true⟩ := nd rfl
@[simp] theorem tab233 : tab 233 = some ⟨.func, 1, 8, .nilfunc, true⟩ := nd rfl
@[simp] theorem tab234 : tab 234 = some ⟨.func, 1, 8, .nilfunc, true⟩ := nd rfl
@[simp] theorem tab235 : tab 235 = some ⟨.struct [(234, 0), (234, 1)], 2, 16, .agg [.nilfunc, .nilfunc], true⟩ := nd rfl
@[simp] theorem tab236 : tab 236 = some ⟨.struct [(234, 0), (234, 1)], 2, 16, .agg [.nilfunc, .nilfunc], true⟩ := nd rfl
@[simp] theorem tab237 : tab 237 = some ⟨.arr 3 236, 6, 48, .agg [.nilfunc, .nilfunc, .nilfunc, .nilfunc, .nilfunc, .nilfunc], true⟩ := nd rfl
@[simp] theorem tab238 : tab 238 = some ⟨.arr 3 237, 18, 144, .agg [.nilfunc, .nilfunc, .nilfunc, .nilfunc, .nilfunc, .nilfunc, .nilfunc, .nilfunc, .nilfunc, .nilfunc, .nilfunc, .nilfunc, .nilfunc, .nilfunc, .nilfunc, .nilfunc, .nilfunc, .nilfunc], true⟩ := nd rfl
@[simp] theorem tab239 : tab 239 = some ⟨.func, 1, 8, .nilfunc, true⟩ := nd rfl
@[simp] theorem tab240 : tab 240 = some ⟨.slice 2, 1, 24, .nilslice, true⟩ := nd rfl
@[simp] theorem tab241 : tab 241 = some ⟨.func, 1, 8, .nilfunc, true⟩ := nd rfl
@[simp] theorem tab242 : tab 242 = some ⟨.arr 3 3, 3, 24, .agg [.int .i64 0, .int .i64 0, .int .i64 0], true⟩ := nd rfl
@[simp] theorem tab243 : tab 243 = some ⟨.struct [(71, 0), (72, 1)], 2, 16, .agg [.nilfunc, .nilfunc], true⟩ := nd rfl
@[simp] theorem tab244 : tab 244 = some ⟨.struct [(71, 0), (72, 1)], 2, 16, .agg [.nilfunc, .nilfunc], true⟩ := nd rfl
@[simp] theorem tab245 : tab 245 = some ⟨.arr 11 244, 22, 176, .agg [.nilfunc, .nilfunc, .nilfunc, .nilfunc, .nilfunc, .nilfunc, .nilfunc, .nilfunc, .nilfunc, .nilfunc, .nilfunc, .nilfunc, .nilfunc, .nilfunc, .nilfunc, .nilfunc, .nilfunc, .nilfunc, .nilfunc, .nilfunc, .nilfunc, .nilfunc], true⟩ := nd rfl
@[simp] theorem tab246 : tab 246 = some ⟨.func, 1, 8, .nilfunc, true⟩ := nd rfl
@[simp] theorem tab247 : tab 247 = some ⟨.func, 1, 8, .nilfunc, true⟩ := nd rfl
@[simp] theorem tab249 : tab 249 = some ⟨.func, 1, 8, .nilfunc, true⟩ := nd rfl
@[simp] theorem tab250 : tab 250 = some ⟨.func, 1, 8, .nilfunc, true⟩ := nd rfl
@[simp] theorem tab251 : tab 251 = some ⟨.arr 2 236, 4, 32, .agg [.nilfunc, .nilfunc, .nilfunc, .nilfunc], true⟩ := nd rfl
@[simp] theorem tab252 : tab 252 = some ⟨.arr 3 251, 12, 96, .agg [.nilfunc, .nilfunc, .nilfunc, .nilfunc, .nilfunc, .nilfunc, .nilfunc, .nilfunc, .nilfunc, .nilfunc, .nilfunc, .nilfunc], true⟩ := nd rfl
@[simp] theorem tab253 : tab 253 = some ⟨.func, 1, 8, .nilfunc, true⟩ := nd rfl
@[simp] theorem tab254 : tab 254 = some ⟨.func, 1, 8, .nilfunc, true⟩ := nd rfl
@[simp] theorem tab255 : tab 255 = some ⟨.func, 1, 8, .nilfunc, true⟩ := nd rfl
@[simp] theorem tab256 : tab 256 = some ⟨.func, 1, 8, .nilfunc, true⟩ := nd rfl
@[simp] theorem tab257 : tab 257 = some ⟨.func, 1, 8, .nilfunc, true⟩ := nd rfl
@[simp] theorem tab258 : tab 258 = some ⟨.func, 1, 8, .nilfunc, true⟩ := nd rfl
@[simp] theorem tab259 : tab 259 = some ⟨.func, 1, 8, .nilfunc, true⟩ := nd rfl
@[simp] theorem tab260 : tab 260 = some ⟨.struct [(17, 0), (17, 1), (17, 2), (9, 3)], 4, 40, .agg [.nilptr, .nilptr, .nilptr, .str ⟨#[]⟩], false⟩ := nd rfl
@[simp] theorem tab261 : tab 261 = some ⟨.struct [(17, 0), (17, 1), (17, 2), (9, 3)], 4, 40, .agg [.nilptr, .nilptr, .nilptr, .str ⟨#[]⟩], false⟩ := nd rfl
@[simp] theorem tab262 : tab 262 = some ⟨.arr 0 16, 0, 0, .agg [], true⟩ := nd rfl
@[simp] theorem tab263 : tab 263 = some ⟨.struct [(262, 0)], 0, 0, .agg [], false⟩ := nd rfl
@[simp] theorem tab264 : tab 264 = some ⟨.struct [(262, 0)], 0, 0, .agg [], false⟩ := nd rfl
@[simp] theorem tab265 : tab 265 = some ⟨.func, 1, 8, .nilfunc, true⟩ := nd rfl
@[simp] theorem tab266 : tab 266 = some ⟨.int .u8, 1, 1, .int .u8 0, true⟩ := nd rfl
@[simp] theorem tab267 : tab 267 = some ⟨.int .u8, 1, 1, .int .u8 0, true⟩ := nd rfl
@[simp] theorem tab268 : tab 268 = some ⟨.func, 1, 8, .nilfunc, true⟩ := nd rfl
@[simp] theorem tab269 : tab 269 = some ⟨.ptr, 1, 8, .nilptr, true⟩ := nd rfl
@[simp] theorem tab270 : tab 270 = some ⟨.int .i32, 1, 4, .int .i32 0, true⟩ := nd rfl
@[simp] theorem tab271 : tab 271 = some ⟨.int .i32, 1, 4, .int .i32 0, true⟩ := nd rfl
@[simp] theorem tab272 : tab 272 = some ⟨.struct [(12, 0), (12, 1), (49, 2), (266, 3), (5, 4), (5, 5), (267, 6), (268, 7), (269, 8), (270, 9), (271, 10)], 11, 48, .agg [.int .u64 0, .int .u64 0, .int .u32 0, .int .u8 0, .int .u8 0, .int .u8 0, .int .u8 0, .nilfunc, .nilptr, .int .i32 0, .int .i32 0], false⟩ := nd rfl
@[simp] theorem tab273 : tab 273 = some ⟨.struct [(12, 0), (12, 1), (49, 2), (266, 3), (5, 4), (5, 5), (267, 6), (268, 7), (269, 8), (270, 9), (271, 10)], 11, 48, .agg [.int .u64 0, .int .u64 0, .int .u32 0, .int .u8 0, .int .u8 0, .int .u8 0, .int .u8 0, .nilfunc, .nilptr, .int .i32 0, .int .i32 0], false⟩ := nd rfl
@[simp] theorem tab274 : tab 274 = some ⟨.func, 1, 8, .nilfunc, true⟩ := nd rfl
@[simp] theorem tab275 : tab 275 = some ⟨.func, 1, 8, .nilfunc, true⟩ := nd rfl
@[simp] theorem tab276 : tab 276 = some ⟨.func, 1, 8, .nilfunc, true⟩ := nd rfl
@[simp] theorem tab277 : tab 277 = some ⟨.func, 1, 8, .nilfunc, true⟩ := nd rfl
@[simp] theorem tab278 : tab 278 = some ⟨.func, 1, 8, .nilfunc, true⟩ := nd rfl
@[simp] theorem tab279 : tab 279 = some ⟨.func, 1, 8, .nilfunc, true⟩ := nd rfl
@[simp] theorem tab280 : tab 280 = some ⟨.struct [(9, 0), (267, 1)], 2, 24, .agg [.str ⟨#[]⟩, .int .u8 0], false⟩ := nd rfl
@[simp] theorem tab281 : tab 281 = some ⟨.struct [(9, 0), (267, 1)], 2, 24, .agg [.str ⟨#[]⟩, .int .u8 0], false⟩ := nd rfl
@[simp] theorem tab283 : tab 283 = some ⟨.ptr, 1, 8, .nilptr, true⟩ := nd rfl
@[simp] theorem tab284 : tab 284 = some ⟨.func, 1, 8, .nilfunc, true⟩ := nd rfl
@[simp] theorem tab285 : tab 285 = some ⟨.struct [(270, 0), (27, 1), (27, 2), (49, 3), (49, 4)], 5, 16, .agg [.int .i32 0, .int .u16 0, .int .u16 0, .int .u32 0, .int .u32 0], false⟩ := nd rfl
@[simp] theorem tab286 : tab 286 = some ⟨.struct [(270, 0), (27, 1), (27, 2), (49, 3), (49, 4)], 5, 16, .agg [.int .i32 0, .int .u16 0, .int .u16 0, .int .u32 0, .int .u32 0], false⟩ := nd rfl
@[simp] theorem tab287 : tab 287 = some ⟨.slice 290, 1, 24, .nilslice, true⟩ := nd rfl
@[simp] theorem tab288 : tab 288 = some ⟨.int .i32, 1, 4, .int .i32 0, true⟩ := nd rfl
@[simp] theorem tab289 : tab 289 = some ⟨.struct [(270, 0), (271, 1), (288, 2), (288, 3)], 4, 16, .agg [.int .i32 0, .int .i32 0, .int .i32 0, .int .i32 0], false⟩ := nd rfl
@[simp] theorem tab290 : tab 290 = some ⟨.struct [(270, 0), (271, 1), (288, 2), (288, 3)], 4, 16, .agg [.int .i32 0, .int .i32 0, .int .i32 0, .int .i32 0], false⟩ := nd rfl
end Go.Proofs.YtfjjckepnkkgjaaGreatDoor.Arm

namespace Go.Pl
abbrev I := Int × Int
def numB (x : Int) : Bool := decide (-2147483648 < x) && decide (x < 2147483648)
def ent : I := (-2147483648, 2147483648)
def entB (a : I) : Bool := a.1 == -2147483648 && a.2 == 2147483648
def vB (a : I) : Bool := entB a || (numB a.1 && numB a.2 && decide (a.1 ≤ a.2))
def mk (lo hi : Int) : I := if numB lo && numB hi then (lo, hi) else ent
def pt (x : Int) : I := mk x x
def fl (x b : Int) : Int := if b < 0 then (-x) / (-b) else x / b
def ce (x b : Int) : Int := - fl (-x) b
def min4 (a b c d : Int) : Int := min (min (min a b) c) d
def max4 (a b c d : Int) : Int := max (max (max a b) c) d
def add (a b : I) : I := if entB a || entB b then ent else mk (a.1 + b.1) (a.2 + b.2)
def neg (a : I) : I := (-a.2, -a.1)
def sub (a b : I) : I := add a (neg b)
def mul (a b : I) : I :=
  if entB a || entB b then ent
  else mk (fl (min4 (a.1 * b.1) (a.1 * b.2) (a.2 * b.1) (a.2 * b.2)) 65536) (ce (max4 (a.1 * b.1) (a.1 * b.2) (a.2 * b.1) (a.2 * b.2)) 65536)
def sq (a : I) : I :=
  if entB a then ent
  else mk (fl (if a.1 ≤ 0 ∧ 0 ≤ a.2 then 0 else min (a.1 * a.1) (a.2 * a.2)) 65536) (ce (max (a.1 * a.1) (a.2 * a.2)) 65536)
def div (a b : I) : I :=
  if entB a || entB b || (decide (b.1 ≤ 0) && decide (0 ≤ b.2)) then ent
  else mk (min4 (fl (a.1 * 65536) b.1) (fl (a.1 * 65536) b.2) (fl (a.2 * 65536) b.1) (fl (a.2 * 65536) b.2))
    (max4 (ce (a.1 * 65536) b.1) (ce (a.1 * 65536) b.2) (ce (a.2 * 65536) b.1) (ce (a.2 * 65536) b.2))
def subB (a b : I) : Bool := decide (b.1 ≤ a.1) && decide (a.2 ≤ b.2)
def conB (a : I) (x : Int) : Bool := entB a || (decide (a.1 ≤ x) && decide (x ≤ a.2))
def hull (a b : I) : I := (min a.1 b.1, max a.2 b.2)
def meet (a b : I) : I := (max a.1 b.1, min a.2 b.2)
def interB (a b : I) : Bool := decide (max a.1 b.1 ≤ min a.2 b.2)
def inter (a b : I) : I := if interB a b then meet a b else (0, 0)
def mid (a : I) : Int := (a.1 + a.2) / 2
def rootUp (n : Nat) : Nat → Nat → Nat
  | 0, r => r
  | k + 1, r => if (r + 1) * (r + 1) ≤ n then rootUp n k (r + 1) else r
def root (n : Int) : Int := (rootUp n.toNat n.toNat 0 : Nat)
def rootU (n : Int) : Int := if root n * root n < n then root n + 1 else root n
def sqrt (a : I) : I := if entB a then a else if a.2 < 0 then (0, 0) else mk (root (max a.1 0 * 65536)) (rootU (a.2 * 65536))
theorem rootUp_spec (n : Nat) : ∀ (k r : Nat), r * r ≤ n → n < (r + k + 1) * (r + k + 1) → rootUp n k r * rootUp n k r ≤ n ∧ n < (rootUp n k r + 1) * (rootUp n k r + 1)
  | 0, r, h1, h2 => ⟨h1, by simpa [rootUp] using h2⟩
  | k + 1, r, h1, h2 => by
    unfold rootUp
    split
    · rename_i h
      exact rootUp_spec n k (r + 1) h (by rw [show r + 1 + k + 1 = r + (k + 1) + 1 by omega]; exact h2)
    · rename_i h; exact ⟨h1, by omega⟩
theorem root_spec {n : Int} (h : 0 ≤ n) : 0 ≤ root n ∧ root n * root n ≤ n ∧ n < (root n + 1) * (root n + 1) := by
  obtain ⟨m, rfl⟩ := Int.eq_ofNat_of_zero_le h
  have h0 : m < (0 + m + 1) * (0 + m + 1) := by
    have : m + 1 ≤ (m + 1) * (m + 1) := Nat.le_mul_of_pos_left _ (by omega)
    rw [Nat.zero_add]; omega
  obtain ⟨h1, h2⟩ := rootUp_spec m m 0 (by omega) h0
  unfold root
  simp only [Int.toNat_natCast]
  refine ⟨by omega, by exact_mod_cast h1, by exact_mod_cast h2⟩
theorem entB_iff {a : I} : entB a = true ↔ a = ent := by
  obtain ⟨x, y⟩ := a
  simp [entB, ent]
theorem entB_false {a : I} (h : vB a = true) (he : entB a = false) : -2147483648 < a.1 ∧ a.1 ≤ a.2 ∧ a.2 < 2147483648 := by
  simp only [vB, he, Bool.false_or, numB, Bool.and_eq_true, decide_eq_true_eq] at h
  omega
theorem vB_bounds {a : I} (h : vB a = true) : -2147483648 ≤ a.1 ∧ a.1 ≤ a.2 ∧ a.2 ≤ 2147483648 := by
  cases he : entB a with
  | false => have := entB_false h he; omega
  | true => rw [entB_iff.1 he]; decide
theorem numB_iff {x : Int} : numB x = true ↔ -2147483648 < x ∧ x < 2147483648 := by simp [numB]
theorem vB_pair {x y : Int} (h1 : -2147483648 < x) (h2 : x ≤ y) (h3 : y < 2147483648) : vB (x, y) = true := by
  simp only [vB, numB, Bool.or_eq_true, Bool.and_eq_true, decide_eq_true_eq]; right; omega
theorem mk_valid {lo hi : Int} (h : lo ≤ hi) : vB (mk lo hi) = true := by
  unfold mk
  split
  · rename_i h1
    simp only [numB, Bool.and_eq_true, decide_eq_true_eq] at h1
    exact vB_pair (by omega) h (by omega)
  · decide
theorem ent_valid : vB ent = true := by decide
theorem neg_valid {a : I} (h : vB a = true) : vB (neg a) = true := by
  cases he : entB a with
  | true => rw [entB_iff.1 he]; decide
  | false => have := entB_false h he; exact vB_pair (by omega) (by omega) (by omega)
theorem add_valid {a b : I} (ha : vB a = true) (hb : vB b = true) : vB (add a b) = true := by
  unfold add
  split
  · decide
  · have := vB_bounds ha; have := vB_bounds hb; exact mk_valid (by omega)
theorem sub_valid {a b : I} (ha : vB a = true) (hb : vB b = true) : vB (sub a b) = true := add_valid ha (neg_valid hb)
theorem fl_le_ce {x y b : Int} (hb : 0 < b) (h : x ≤ y) : fl x b ≤ ce y b := by
  unfold ce fl
  rw [if_neg (by omega), if_neg (by omega)]
  have h1 : x / b ≤ y / b := Int.ediv_le_ediv hb h
  have h2 := Int.ediv_mul_le y (b := b) (by omega)
  have h3 := Int.ediv_mul_le (-y) (b := b) (by omega)
  have h4 : (y / b + (-y) / b) * b ≤ 0 := by rw [Int.add_mul]; omega
  have : y / b + (-y) / b ≤ 0 := by
    rcases Int.lt_or_le 0 (y / b + (-y) / b) with hc | hc
    · have : 0 < (y / b + (-y) / b) * b := Int.mul_pos hc hb
      omega
    · exact hc
  omega
theorem mul_valid {a b : I} : vB (mul a b) = true := by
  unfold mul
  split
  · decide
  · exact mk_valid (fl_le_ce (by omega) (by simp only [min4, max4]; omega))
theorem sq_valid {a : I} (ha : vB a = true) : vB (sq a) = true := by
  unfold sq
  split
  · decide
  · refine mk_valid (fl_le_ce (by omega) ?_)
    have h1 : 0 ≤ a.1 * a.1 := by
      rcases Int.le_total 0 a.1 with h | h
      · exact Int.mul_nonneg h h
      · exact Int.mul_nonneg_of_nonpos_of_nonpos h h
    split <;> omega
theorem fl_ce {x b : Int} (hb : b ≠ 0) : fl x b ≤ ce x b := by
  rcases Int.lt_or_gt_of_ne hb with h | h
  · have := fl_le_ce (x := -x) (y := -x) (b := -b) (by omega) (Int.le_refl _)
    simp only [fl, ce] at this ⊢
    rw [if_neg (by omega), if_neg (by omega)] at this
    rw [if_pos h, if_pos h]
    exact this
  · exact fl_le_ce h (Int.le_refl _)
theorem div_valid {a b : I} (hb : vB b = true) : vB (div a b) = true := by
  unfold div
  split
  · decide
  · rename_i h
    simp only [Bool.or_eq_true, Bool.and_eq_true, decide_eq_true_eq] at h
    have := vB_bounds hb
    have h1 : b.1 ≠ 0 := by omega
    have := fl_ce (x := a.1 * 65536) h1
    exact mk_valid (by simp only [min4, max4]; omega)
theorem root_mono {m n : Int} (hm : 0 ≤ m) (h : m ≤ n) : root m ≤ root n := by
  obtain ⟨g0, g1, g2⟩ := root_spec hm
  obtain ⟨k0, k1, k2⟩ := root_spec (Int.le_trans hm h)
  rcases Int.lt_or_le (root n) (root m) with hc | hc
  · have : (root n + 1) * (root n + 1) ≤ root m * root m := Int.mul_le_mul (by omega) (by omega) (by omega) g0
    omega
  · exact hc
theorem root_le_rootU {n : Int} : root n ≤ rootU n := by unfold rootU; split <;> omega
theorem sqrt_valid {a : I} (ha : vB a = true) : vB (sqrt a) = true := by
  unfold sqrt
  split
  · exact ha
  · split
    · decide
    · have := vB_bounds ha
      exact mk_valid (Int.le_trans (root_mono (m := max a.1 0 * 65536) (n := a.2 * 65536) (by omega) (by omega)) root_le_rootU)
theorem ediv_of {a b q : Int} (hb : 0 < b) (h1 : b * q ≤ a) (h2 : a < b * q + b) : a / b = q := by
  have e : a = (a - b * q) + q * b := by rw [Int.mul_comm q b]; omega
  rw [e, Int.add_mul_ediv_right _ _ (by omega), Int.ediv_eq_zero_of_lt (by omega) (by omega), Int.zero_add]
theorem tmod_bounds (a : Int) {b : Int} (hb : 0 < b) : (0 ≤ a → 0 ≤ a.tmod b ∧ a.tmod b < b) ∧ (a < 0 → -b < a.tmod b ∧ a.tmod b ≤ 0) := by
  refine ⟨fun h => ⟨Int.tmod_nonneg _ h, Int.tmod_lt_of_pos _ hb⟩, fun h => ?_⟩
  have e : a.tmod b = -((-a).tmod b) := by rw [Int.neg_tmod, Int.neg_neg]
  have h1 := Int.tmod_nonneg b (a := -a) (by omega)
  have h2 := Int.tmod_lt_of_pos (-a) hb
  omega
theorem tdiv_floor (a : Int) {b : Int} (hb : 0 < b) : a / b = if a.tmod b < 0 then a.tdiv b - 1 else a.tdiv b := by
  have h := Int.mul_tdiv_add_tmod a b
  obtain ⟨h1, h2⟩ := tmod_bounds a hb
  by_cases ha : 0 ≤ a
  · have := h1 ha
    rw [if_neg (by omega)]
    exact ediv_of hb (by omega) (by omega)
  · have := h2 (by omega)
    split
    · refine ediv_of hb ?_ ?_
      · rw [Int.mul_sub, Int.mul_one]; omega
      · rw [Int.mul_sub, Int.mul_one]; omega
    · exact ediv_of hb (by omega) (by omega)
theorem ceil_eq (a : Int) {b : Int} (hb : 0 < b) : -((-a) / b) = if a % b = 0 then a / b else a / b + 1 := by
  have h := Int.mul_ediv_add_emod a b
  have h1 := Int.emod_nonneg a (b := b) (by omega)
  have h2 := Int.emod_lt_of_pos a hb
  split
  · have : (-a) / b = -(a / b) := ediv_of hb (by rw [Int.mul_neg]; omega) (by rw [Int.mul_neg]; omega)
    omega
  · have : (-a) / b = -(a / b + 1) := ediv_of hb (by rw [Int.mul_neg, Int.mul_add, Int.mul_one]; omega) (by rw [Int.mul_neg, Int.mul_add, Int.mul_one]; omega)
    omega
theorem mul_edges (a b : I) : (0 ≤ a.1 → b.1 ≤ b.2 → a.1 * b.1 ≤ a.1 * b.2) ∧ (a.1 ≤ 0 → b.1 ≤ b.2 → a.1 * b.2 ≤ a.1 * b.1) ∧ (0 ≤ a.2 → b.1 ≤ b.2 → a.2 * b.1 ≤ a.2 * b.2) ∧ (a.2 ≤ 0 → b.1 ≤ b.2 → a.2 * b.2 ≤ a.2 * b.1) ∧
    (0 ≤ b.1 → a.1 ≤ a.2 → a.1 * b.1 ≤ a.2 * b.1) ∧ (b.1 ≤ 0 → a.1 ≤ a.2 → a.2 * b.1 ≤ a.1 * b.1) ∧ (0 ≤ b.2 → a.1 ≤ a.2 → a.1 * b.2 ≤ a.2 * b.2) ∧ (b.2 ≤ 0 → a.1 ≤ a.2 → a.2 * b.2 ≤ a.1 * b.2) :=
  ⟨fun h k => Int.mul_le_mul_of_nonneg_left k h, fun h k => Int.mul_le_mul_of_nonpos_left h k, fun h k => Int.mul_le_mul_of_nonneg_left k h, fun h k => Int.mul_le_mul_of_nonpos_left h k,
   fun h k => Int.mul_le_mul_of_nonneg_right k h, fun h k => Int.mul_le_mul_of_nonpos_right k h, fun h k => Int.mul_le_mul_of_nonneg_right k h, fun h k => Int.mul_le_mul_of_nonpos_right k h⟩
theorem ite_min (a b : Int) : (if b < a then b else a) = min a b := by split <;> omega
theorem ite_max (a b : Int) : (if a < b then b else a) = max a b := by split <;> omega
theorem ediv_mono {x y b : Int} (hb : 0 < b) (h : x ≤ y) : x / b ≤ y / b := Int.ediv_le_ediv hb h
theorem ediv_anti {x b c : Int} (hx : 0 ≤ x) (hb : 0 < b) (h : b ≤ c) : x / c ≤ x / b := by
  have h0 : 0 ≤ x / c := Int.ediv_nonneg hx (by omega)
  have h1 : (x / c) * c ≤ x := Int.ediv_mul_le x (by omega)
  have h2 : (x / c) * b ≤ (x / c) * c := Int.mul_le_mul_of_nonneg_left h h0
  exact Int.le_ediv_of_mul_le hb (by omega)
theorem ediv_anti' {x b c : Int} (hx : x ≤ 0) (hb : 0 < b) (h : b ≤ c) : x / b ≤ x / c := by
  have h1 : (x / b) * b ≤ x := Int.ediv_mul_le x (by omega)
  have h0 : x / b ≤ 0 := by
    have := ediv_mono hb hx
    simpa using this
  have h2 : (x / b) * c ≤ (x / b) * b := Int.mul_le_mul_of_nonpos_left h0 h
  exact Int.le_ediv_of_mul_le (by omega) (by omega)
theorem fl_edges (x y b c : Int) : (0 < b → x ≤ y → fl x b ≤ fl y b) ∧ (b < 0 → x ≤ y → fl y b ≤ fl x b) ∧
    (0 ≤ x → 0 < b → b ≤ c → fl x c ≤ fl x b) ∧ (x ≤ 0 → 0 < b → b ≤ c → fl x b ≤ fl x c) ∧ (0 ≤ x → c < 0 → b ≤ c → fl x c ≤ fl x b) ∧ (x ≤ 0 → c < 0 → b ≤ c → fl x b ≤ fl x c) := by
  unfold fl
  refine ⟨fun hb h => ?_, fun hb h => ?_, fun hx hb h => ?_, fun hx hb h => ?_, fun hx hc h => ?_, fun hx hc h => ?_⟩
  · rw [if_neg (by omega), if_neg (by omega)]; exact ediv_mono hb h
  · rw [if_pos hb, if_pos hb]; exact ediv_mono (by omega) (by omega)
  · rw [if_neg (by omega), if_neg (by omega)]; exact ediv_anti hx hb h
  · rw [if_neg (by omega), if_neg (by omega)]; exact ediv_anti' hx hb h
  · rw [if_pos hc, if_pos (by omega)]; exact ediv_anti' (by omega) (by omega) (by omega)
  · rw [if_pos hc, if_pos (by omega)]; exact ediv_anti (by omega) (by omega) (by omega)
theorem ce_edges (x y b c : Int) : (0 < b → x ≤ y → ce x b ≤ ce y b) ∧ (b < 0 → x ≤ y → ce y b ≤ ce x b) ∧
    (0 ≤ x → 0 < b → b ≤ c → ce x c ≤ ce x b) ∧ (x ≤ 0 → 0 < b → b ≤ c → ce x b ≤ ce x c) ∧ (0 ≤ x → c < 0 → b ≤ c → ce x c ≤ ce x b) ∧ (x ≤ 0 → c < 0 → b ≤ c → ce x b ≤ ce x c) := by
  obtain ⟨h1, h2, h3, h4, h5, h6⟩ := fl_edges (-x) (-y) b c
  obtain ⟨k1, k2, _⟩ := fl_edges (-y) (-x) b c
  unfold ce
  exact ⟨fun hb h => by have := k1 hb (by omega); omega, fun hb h => by have := k2 hb (by omega); omega, fun hx hb h => by have := h4 (by omega) hb h; omega, fun hx hb h => by have := h3 (by omega) hb h; omega,
    fun hx hc h => by have := h6 (by omega) hc h; omega, fun hx hc h => by have := h5 (by omega) hc h; omega⟩
theorem div_eq {p q : I} (h1 : entB p = false) (h2 : entB q = false) (h3 : q.2 < 0 ∨ 0 < q.1) {a b : Int} (ha : min4 (fl (p.1 * 65536) q.1) (fl (p.1 * 65536) q.2) (fl (p.2 * 65536) q.1) (fl (p.2 * 65536) q.2) = a) (hb : max4 (ce (p.1 * 65536) q.1) (ce (p.1 * 65536) q.2) (ce (p.2 * 65536) q.1) (ce (p.2 * 65536) q.2) = b) (hq : q.1 ≤ q.2) : div p q = mk a b := by
  subst ha hb
  have h4 : (decide (q.1 ≤ 0) && decide (0 ≤ q.2)) = false := by simp; omega
  simp [div, h1, h2, h4]
theorem div_sel0n {p q : I} (h1 : entB p = false) (h2 : entB q = false) (hp : p.1 ≤ p.2) (hq : q.1 ≤ q.2) (hs : p.2 ≤ 0) (ht : q.2 < 0) : div p q = mk (fl (p.2 * 65536) q.1) (ce (p.1 * 65536) q.2) := by
  have a0 := (fl_edges (p.1 * 65536) (p.2 * 65536) q.1 q.1).2.1 (by omega) (by omega)
  have a1 := (fl_edges (p.1 * 65536) (p.2 * 65536) q.2 q.2).2.1 (by omega) (by omega)
  have a2 := (fl_edges (p.1 * 65536) (p.1 * 65536) q.1 q.2).2.2.2.2.2 (by omega) (by omega) hq
  have a3 := (fl_edges (p.2 * 65536) (p.2 * 65536) q.1 q.2).2.2.2.2.2 (by omega) (by omega) hq
  have a4 := (ce_edges (p.1 * 65536) (p.2 * 65536) q.1 q.1).2.1 (by omega) (by omega)
  have a5 := (ce_edges (p.1 * 65536) (p.2 * 65536) q.2 q.2).2.1 (by omega) (by omega)
  have a6 := (ce_edges (p.1 * 65536) (p.1 * 65536) q.1 q.2).2.2.2.2.2 (by omega) (by omega) hq
  have a7 := (ce_edges (p.2 * 65536) (p.2 * 65536) q.1 q.2).2.2.2.2.2 (by omega) (by omega) hq
  refine div_eq h1 h2 (by omega) ?_ ?_ hq
  · simp only [min4]; omega
  · simp only [max4]; omega
theorem div_sel0p {p q : I} (h1 : entB p = false) (h2 : entB q = false) (hp : p.1 ≤ p.2) (hq : q.1 ≤ q.2) (hs : p.2 ≤ 0) (ht : 0 < q.1) : div p q = mk (fl (p.1 * 65536) q.1) (ce (p.2 * 65536) q.2) := by
  have a0 := (fl_edges (p.1 * 65536) (p.2 * 65536) q.1 q.1).1 (by omega) (by omega)
  have a1 := (fl_edges (p.1 * 65536) (p.2 * 65536) q.2 q.2).1 (by omega) (by omega)
  have a2 := (fl_edges (p.1 * 65536) (p.1 * 65536) q.1 q.2).2.2.2.1 (by omega) (by omega) hq
  have a3 := (fl_edges (p.2 * 65536) (p.2 * 65536) q.1 q.2).2.2.2.1 (by omega) (by omega) hq
  have a4 := (ce_edges (p.1 * 65536) (p.2 * 65536) q.1 q.1).1 (by omega) (by omega)
  have a5 := (ce_edges (p.1 * 65536) (p.2 * 65536) q.2 q.2).1 (by omega) (by omega)
  have a6 := (ce_edges (p.1 * 65536) (p.1 * 65536) q.1 q.2).2.2.2.1 (by omega) (by omega) hq
  have a7 := (ce_edges (p.2 * 65536) (p.2 * 65536) q.1 q.2).2.2.2.1 (by omega) (by omega) hq
  refine div_eq h1 h2 (by omega) ?_ ?_ hq
  · simp only [min4]; omega
  · simp only [max4]; omega
theorem div_sel1n {p q : I} (h1 : entB p = false) (h2 : entB q = false) (hp : p.1 ≤ p.2) (hq : q.1 ≤ q.2) (hs : p.1 < 0 ∧ 0 < p.2) (ht : q.2 < 0) : div p q = mk (fl (p.2 * 65536) q.2) (ce (p.1 * 65536) q.2) := by
  have a0 := (fl_edges (p.1 * 65536) (p.2 * 65536) q.1 q.1).2.1 (by omega) (by omega)
  have a1 := (fl_edges (p.1 * 65536) (p.2 * 65536) q.2 q.2).2.1 (by omega) (by omega)
  have a2 := (fl_edges (p.1 * 65536) (p.1 * 65536) q.1 q.2).2.2.2.2.2 (by omega) (by omega) hq
  have a3 := (fl_edges (p.2 * 65536) (p.2 * 65536) q.1 q.2).2.2.2.2.1 (by omega) (by omega) hq
  have a4 := (ce_edges (p.1 * 65536) (p.2 * 65536) q.1 q.1).2.1 (by omega) (by omega)
  have a5 := (ce_edges (p.1 * 65536) (p.2 * 65536) q.2 q.2).2.1 (by omega) (by omega)
  have a6 := (ce_edges (p.1 * 65536) (p.1 * 65536) q.1 q.2).2.2.2.2.2 (by omega) (by omega) hq
  have a7 := (ce_edges (p.2 * 65536) (p.2 * 65536) q.1 q.2).2.2.2.2.1 (by omega) (by omega) hq
  refine div_eq h1 h2 (by omega) ?_ ?_ hq
  · simp only [min4]; omega
  · simp only [max4]; omega
theorem div_sel1p {p q : I} (h1 : entB p = false) (h2 : entB q = false) (hp : p.1 ≤ p.2) (hq : q.1 ≤ q.2) (hs : p.1 < 0 ∧ 0 < p.2) (ht : 0 < q.1) : div p q = mk (fl (p.1 * 65536) q.1) (ce (p.2 * 65536) q.1) := by
  have a0 := (fl_edges (p.1 * 65536) (p.2 * 65536) q.1 q.1).1 (by omega) (by omega)
  have a1 := (fl_edges (p.1 * 65536) (p.2 * 65536) q.2 q.2).1 (by omega) (by omega)
  have a2 := (fl_edges (p.1 * 65536) (p.1 * 65536) q.1 q.2).2.2.2.1 (by omega) (by omega) hq
  have a3 := (fl_edges (p.2 * 65536) (p.2 * 65536) q.1 q.2).2.2.1 (by omega) (by omega) hq
  have a4 := (ce_edges (p.1 * 65536) (p.2 * 65536) q.1 q.1).1 (by omega) (by omega)
  have a5 := (ce_edges (p.1 * 65536) (p.2 * 65536) q.2 q.2).1 (by omega) (by omega)
  have a6 := (ce_edges (p.1 * 65536) (p.1 * 65536) q.1 q.2).2.2.2.1 (by omega) (by omega) hq
  have a7 := (ce_edges (p.2 * 65536) (p.2 * 65536) q.1 q.2).2.2.1 (by omega) (by omega) hq
  refine div_eq h1 h2 (by omega) ?_ ?_ hq
  · simp only [min4]; omega
  · simp only [max4]; omega
theorem div_sel2n {p q : I} (h1 : entB p = false) (h2 : entB q = false) (hp : p.1 ≤ p.2) (hq : q.1 ≤ q.2) (hs : 0 ≤ p.1) (ht : q.2 < 0) : div p q = mk (fl (p.2 * 65536) q.2) (ce (p.1 * 65536) q.1) := by
  have a0 := (fl_edges (p.1 * 65536) (p.2 * 65536) q.1 q.1).2.1 (by omega) (by omega)
  have a1 := (fl_edges (p.1 * 65536) (p.2 * 65536) q.2 q.2).2.1 (by omega) (by omega)
  have a2 := (fl_edges (p.1 * 65536) (p.1 * 65536) q.1 q.2).2.2.2.2.1 (by omega) (by omega) hq
  have a3 := (fl_edges (p.2 * 65536) (p.2 * 65536) q.1 q.2).2.2.2.2.1 (by omega) (by omega) hq
  have a4 := (ce_edges (p.1 * 65536) (p.2 * 65536) q.1 q.1).2.1 (by omega) (by omega)
  have a5 := (ce_edges (p.1 * 65536) (p.2 * 65536) q.2 q.2).2.1 (by omega) (by omega)
  have a6 := (ce_edges (p.1 * 65536) (p.1 * 65536) q.1 q.2).2.2.2.2.1 (by omega) (by omega) hq
  have a7 := (ce_edges (p.2 * 65536) (p.2 * 65536) q.1 q.2).2.2.2.2.1 (by omega) (by omega) hq
  refine div_eq h1 h2 (by omega) ?_ ?_ hq
  · simp only [min4]; omega
  · simp only [max4]; omega
theorem div_sel2p {p q : I} (h1 : entB p = false) (h2 : entB q = false) (hp : p.1 ≤ p.2) (hq : q.1 ≤ q.2) (hs : 0 ≤ p.1) (ht : 0 < q.1) : div p q = mk (fl (p.1 * 65536) q.2) (ce (p.2 * 65536) q.1) := by
  have a0 := (fl_edges (p.1 * 65536) (p.2 * 65536) q.1 q.1).1 (by omega) (by omega)
  have a1 := (fl_edges (p.1 * 65536) (p.2 * 65536) q.2 q.2).1 (by omega) (by omega)
  have a2 := (fl_edges (p.1 * 65536) (p.1 * 65536) q.1 q.2).2.2.1 (by omega) (by omega) hq
  have a3 := (fl_edges (p.2 * 65536) (p.2 * 65536) q.1 q.2).2.2.1 (by omega) (by omega) hq
  have a4 := (ce_edges (p.1 * 65536) (p.2 * 65536) q.1 q.1).1 (by omega) (by omega)
  have a5 := (ce_edges (p.1 * 65536) (p.2 * 65536) q.2 q.2).1 (by omega) (by omega)
  have a6 := (ce_edges (p.1 * 65536) (p.1 * 65536) q.1 q.2).2.2.1 (by omega) (by omega) hq
  have a7 := (ce_edges (p.2 * 65536) (p.2 * 65536) q.1 q.2).2.2.1 (by omega) (by omega) hq
  refine div_eq h1 h2 (by omega) ?_ ?_ hq
  · simp only [min4]; omega
  · simp only [max4]; omega
def len8 (n : Nat) : Nat := if n < 1 then 0 else if n < 2 then 1 else if n < 4 then 2 else if n < 8 then 3 else if n < 16 then 4 else if n < 32 then 5 else if n < 64 then 6 else if n < 128 then 7 else 8
theorem len8_spec (n : Nat) (h : n < 256) : n < 2 ^ len8 n ∧ len8 n ≤ 8 := by
  unfold len8
  repeat' split
  all_goals simp; try omega
def blen (x : Int) : Int :=
  let a := if 4294967296 ≤ x then (x / 4294967296, (32 : Int)) else (x, 0)
  let b := if 65536 ≤ a.1 then (a.1 / 65536, a.2 + 16) else a
  let c := if 256 ≤ b.1 then (b.1 / 256, b.2 + 8) else b
  c.2 + len8 c.1.toNat
theorem blen_spec {x : Int} (h : 0 ≤ x ∧ x < 281474976710656) : 0 ≤ blen x ∧ blen x ≤ 48 ∧ x < 2 ^ (blen x).toNat := by
  have key : ∀ (z : Int) (n m : Nat), 0 ≤ z → z < 256 → m ≤ 40 → x < (z + 1) * 2 ^ m → (n = m) → 0 ≤ (n : Int) + len8 z.toNat ∧ (n : Int) + len8 z.toNat ≤ 48 ∧ x < 2 ^ ((n : Int) + len8 z.toNat).toNat := by
    rintro z n m h0 h1 h2 h3 rfl
    obtain ⟨k, rfl⟩ := Int.eq_ofNat_of_zero_le h0
    obtain ⟨g1, g2⟩ := len8_spec k (by omega)
    simp only [Int.toNat_natCast]
    refine ⟨by omega, by omega, ?_⟩
    rw [show ((n : Int) + (len8 k : Int)).toNat = len8 k + n by omega, Int.pow_add]
    have e : ((k : Int) + 1) ≤ 2 ^ len8 k := by exact_mod_cast g1
    exact Int.lt_of_lt_of_le h3 (Int.mul_le_mul_of_nonneg_right e (by exact_mod_cast Nat.zero_le _))
  unfold blen
  by_cases h1 : 4294967296 ≤ x
  · simp only [h1, if_true]
    have h2 : ¬ 65536 ≤ x / 4294967296 := by omega
    simp only [h2, if_false]
    by_cases h3 : 256 ≤ x / 4294967296
    · simp only [h3, if_true]
      exact key (x / 4294967296 / 256) 40 40 (by omega) (by omega) (by omega) (by omega) rfl
    · simp only [h3, if_false]
      exact key (x / 4294967296) 32 32 (by omega) (by omega) (by omega) (by omega) rfl
  · simp only [h1, if_false]
    by_cases h2 : 65536 ≤ x
    · simp only [h2, if_true]
      by_cases h3 : 256 ≤ x / 65536
      · simp only [h3, if_true]
        exact key (x / 65536 / 256) 24 24 (by omega) (by omega) (by omega) (by omega) rfl
      · simp only [h3, if_false]
        exact key (x / 65536) 16 16 (by omega) (by omega) (by omega) (by omega) rfl
    · simp only [h2, if_false]
      by_cases h3 : 256 ≤ x
      · simp only [h3, if_true]
        exact key (x / 256) 8 8 (by omega) (by omega) (by omega) (by omega) rfl
      · simp only [h3, if_false]
        exact key x 0 0 (by omega) (by omega) (by omega) (by omega) rfl
theorem newton_step {n x : Int} (hx : 0 < x) (h : root n ≤ x) (hn : 0 ≤ n) : root n ≤ (x + n / x) / 2 ∧ (x ≤ (x + n / x) / 2 → x = root n) ∧ 0 ≤ n / x := by
  obtain ⟨r0, r1, r2⟩ := root_spec hn
  generalize root n = r at *
  have h0 : 0 ≤ n / x := Int.ediv_nonneg hn (by omega)
  have h1 : 2 * r - x ≤ n / x := by
    refine Int.le_ediv_of_mul_le hx ?_
    have : (2 * r - x) * x = r * r - (x - r) * (x - r) := by
      rw [Int.sub_mul, Int.sub_mul, Int.mul_sub, Int.mul_sub, Int.mul_assoc, Int.mul_comm x r]; omega
    have h2 : 0 ≤ (x - r) * (x - r) := Int.mul_nonneg (by omega) (by omega)
    omega
  refine ⟨by omega, fun hy => ?_, h0⟩
  rcases Int.lt_or_le r x with hlt | hle
  · have h2 : n < x * x := Int.lt_of_lt_of_le r2 (Int.mul_le_mul (by omega) (by omega) (by omega) (by omega))
    have h3 : n / x < x := Int.ediv_lt_of_lt_mul hx h2
    omega
  · omega
end Go.Pl

namespace Go.Proofs.YtfjjckepnkkgjaaGreatDoor.Arm
open Go.Arm Go.Pl
abbrev fnA (n : Nat) : AV := .func (.func n) [] []
def prodT : List AV := [fnA 255, fnA 256, fnA 257, fnA 256, fnA 257, fnA 258, fnA 258, fnA 256, .nilfunc, .nilfunc, fnA 257, fnA 255, fnA 258, fnA 257, fnA 258, fnA 255, fnA 256, fnA 255]
def quotT : List AV := [fnA 258, fnA 257, fnA 256, fnA 255, fnA 255, fnA 257, fnA 256, fnA 258, fnA 255, fnA 256, fnA 257, fnA 258]
def tapT : List AV := [.nilfunc, .nilfunc, .nilfunc, .nilfunc, .nilfunc, .nilfunc, .nilfunc, .nilfunc, fnA 184, .nilfunc, fnA 186, .nilfunc, fnA 259, .nilfunc, .nilfunc, fnA 175, .nilfunc, fnA 185, .nilfunc, fnA 174, .nilfunc, fnA 207]
def glob : Nat → Option (List AV)
  | 0 => some prodT
  | 2 => some quotT
  | 1 => some tapT
  | _ => none
noncomputable def E : Env := ⟨Tryz.prog, tab, glob⟩
@[simp] theorem E_T : E.T = tab := rfl
@[simp] theorem E_G0 : E.Γ 0 = some prodT := rfl
@[simp] theorem E_G1 : E.Γ 2 = some quotT := rfl
@[simp] theorem E_G2 : E.Γ 1 = some tapT := rfl
theorem tabOk : TabOk E.P E.T := by
  show TabOk Tryz.prog tab
  exact tab_ok
theorem mixed : E.P.follows .mixedOrders = true := by kernel_rfl
def iv (p : I) : AV := .agg [.int .i64 p.1, .int .i64 p.2]
@[simp] theorem iv_eq (p : I) : iv p = .agg [.int .i64 p.1, .int .i64 p.2] := rfl
theorem fDivide1 (r : Int) (H : AH) : Sound E 222 [.int .i64 r] H (.ret (.int .i64 (min r 1))) H := by
  refine sound_of_awp tabOk mixed Tryz.func222 rfl (by rfl) Tryz.ntmps222 (by kernel_rfl) (by simp) ?_
  simp
  exact fin0 (rs := [.tmp 2]) (by rfl) (by simp [resA]; omega)
theorem fFloorCeil (a b : Int) (ha : -4611686018427387904 ≤ a ∧ a ≤ 4611686018427387904) (hb : 0 < b ∧ b ≤ 4611686018427387904) (H : AH) :
    Sound E 221 [.int .i64 a, .int .i64 b, fnA 222] H (.ret (.tuple [.int .i64 (fl a b), .int .i64 (ce a b)])) H := by
  refine sound_of_awp tabOk mixed Tryz.func221 rfl (by rfl) Tryz.ntmps221 (by kernel_rfl) (by simp) ?_
  have h1 := tdiv_floor a hb.1
  have h2 := ceil_eq a hb.1
  have h3 := Int.mul_ediv_add_emod a b
  have h4 := Int.mul_tdiv_add_tmod a b
  obtain ⟨h5, h6⟩ := tmod_bounds a hb.1
  have h7 := Int.emod_nonneg a (b := b) (by omega)
  have h8 := Int.emod_lt_of_pos a hb.1
  have e1 : fl a b = a / b := by unfold fl; rw [if_neg (by omega)]
  have e2 : ce a b = if a % b = 0 then a / b else a / b + 1 := by unfold ce fl; rw [if_neg (by omega), h2]
  have hq : -4611686018427387904 ≤ a.tdiv b ∧ a.tdiv b ≤ 4611686018427387904 := by
    have := Int.natAbs_tdiv_le_natAbs a b
    omega
  have hw : IntKind.i64.wrap (a.tdiv b) = a.tdiv b := wrap64 (by omega) (by omega)
  simp
  refine bind_ifn (by omega) ?_
  simp
  refine bind_ifn (by omega) ?_
  simp [hw]
  refine endD [] (by rfl) (by simp [okW, note, Eff.triv, Eff.wr, Eff.none, upTo, newAt]) ?_
  simp
  refine branch (fun hr => ?_) (fun hr => ?_)
  · have hr' : a.tmod b < 0 := by simpa using hr
    have w1 : IntKind.i64.wrap (a.tdiv b - 1) = a.tdiv b - 1 := wrap64 (by omega) (by omega)
    have w2 : IntKind.i64.wrap (a.tmod b + b) = a.tmod b + b := wrap64 (by omega) (by omega)
    rw [if_pos hr'] at h1
    have hem : a % b = a.tmod b + b := by
      have : b * (a / b) = b * a.tdiv b - b := by rw [h1, Int.mul_sub, Int.mul_one]
      omega
    simp [w1, w2]
    refine call_ret (fDivide1 _ _) ?_
    have w3 : IntKind.i64.wrap (a.tdiv b - 1 + min (a.tmod b + b) 1) = a.tdiv b - 1 + min (a.tmod b + b) 1 := wrap64 (by omega) (by omega)
    simp [w3]
    exact finK (rs := [.tmp 6, .tmp 7]) (vs := [.int .i64 (fl a b), .int .i64 (ce a b)]) (by rfl) (by
      rw [e1, e2]
      simp [resA]
      constructor
      · omega
      · split <;> omega) rfl
  · have hr' : ¬ a.tmod b < 0 := by simpa using hr
    rw [if_neg hr'] at h1
    have hem : a % b = a.tmod b := by
      rw [h1] at h3; omega
    simp
    refine call_ret (fDivide1 _ _) ?_
    have w3 : IntKind.i64.wrap (a.tdiv b + min (a.tmod b) 1) = a.tdiv b + min (a.tmod b) 1 := wrap64 (by omega) (by omega)
    simp [w3]
    exact finK (rs := [.tmp 6, .tmp 7]) (vs := [.int .i64 (fl a b), .int .i64 (ce a b)]) (by rfl) (by
      rw [e1, e2]
      simp [resA]
      constructor
      · omega
      · split <;> omega) rfl
theorem fDivide (a b : Int) (ha : -4611686018427387904 ≤ a ∧ a ≤ 4611686018427387904) (hb : b ≠ 0 ∧ -4611686018427387904 ≤ b ∧ b ≤ 4611686018427387904) (H : AH) :
    Sound E 213 [.int .i64 a, .int .i64 b] H (.ret (.tuple [.int .i64 (fl a b), .int .i64 (ce a b)])) H := by
  refine sound_of_awp tabOk mixed Tryz.func213 rfl (by rfl) Tryz.ntmps213 (by kernel_rfl) (by simp) ?_
  simp
  refine branch (fun hr => ?_) (fun hr => ?_)
  · have hr' : b < 0 := by simpa using hr
    have w1 : IntKind.i64.wrap (-a) = -a := wrap64 (by omega) (by omega)
    have w2 : IntKind.i64.wrap (-b) = -b := wrap64 (by omega) (by omega)
    simp [w1, w2]
    refine call_ret (fFloorCeil (-a) (-b) (by omega) (by omega) _) ?_
    simp
    exact finK (rs := [.tmp 4, .tmp 5]) (vs := [.int .i64 (fl a b), .int .i64 (ce a b)]) (by rfl) (by
      have h1 : fl (-a) (-b) = fl a b := by unfold fl; rw [if_neg (by omega), if_pos hr']
      have h2 : ce (-a) (-b) = ce a b := by unfold ce fl; rw [if_neg (by omega), if_pos hr']
      simp [resA, h1, h2]) rfl
  · have hr' : ¬ b < 0 := by simpa using hr
    simp
    refine call_ret (fFloorCeil a b (by omega) (by omega) _) ?_
    simp
    exact finK (rs := [.tmp 4, .tmp 5]) (vs := [.int .i64 (fl a b), .int .i64 (ce a b)]) (by rfl) (by simp [resA]) rfl
theorem fMul (a b : Int) (h : -4611686018427387904 ≤ a * b ∧ a * b ≤ 4611686018427387904) (H : AH) :
    Sound E 194 [.int .i64 a, .int .i64 b] H (.ret (.tuple [.int .i64 (fl (a * b) 65536), .int .i64 (ce (a * b) 65536)])) H := by
  refine sound_of_awp tabOk mixed Tryz.func194 rfl (by rfl) Tryz.ntmps194 (by kernel_rfl) (by simp) ?_
  have w1 : IntKind.i64.wrap (a * b) = a * b := wrap64 (by omega) (by omega)
  simp [w1]
  refine call_ret (fDivide (a * b) 65536 h (by omega) _) ?_
  simp
  exact finK (rs := [.tmp 4, .tmp 5]) (vs := [.int .i64 (fl (a * b) 65536), .int .i64 (ce (a * b) 65536)]) (by rfl) (by simp [resA]) rfl
end Go.Proofs.YtfjjckepnkkgjaaGreatDoor.Arm

namespace Go.Proofs.YtfjjckepnkkgjaaGreatDoor.Arm
open Go.Arm Go.Pl
@[simp] theorem bin_iv (H : AH) (a b c d : Int) (z : Bool) : binOpA tab H .eql 54 (.agg [.int .i64 a, .int .i64 b]) (.agg [.int .i64 c, .int .i64 d]) z = some (.bool (a == c && b == d), H) := by
  simp [binOpA, binA, eqA, eqFs, nilI]
  by_cases h : a = c <;> by_cases h2 : b = d <;> simp [h, h2]
@[simp] theorem bin_iv_ne (H : AH) (a b c d : Int) (z : Bool) : binOpA tab H .neq 54 (.agg [.int .i64 a, .int .i64 b]) (.agg [.int .i64 c, .int .i64 d]) z = some (.bool (!(a == c && b == d)), H) := by
  simp [binOpA, binA, eqA, eqFs, nilI]
  by_cases h : a = c <;> by_cases h2 : b = d <;> simp [h, h2]
theorem iEntire (H : AH) : Sound E 107 [] H (.ret (iv ent)) H := by
  refine sound_of_awp tabOk mixed Tryz.func107 rfl (by rfl) Tryz.ntmps107 (by kernel_rfl) (by simp) ?_
  simp
  exact fin1 (rs := [.cell 0 54]) (by rfl) (by simp [resA, ent]) (by simp [noF, noFs])
theorem iIsEntire (p : I) (H : AH) : Sound E 127 [iv p] H (.ret (.bool (entB p))) H := by
  refine sound_of_awp tabOk mixed Tryz.func127 rfl (by rfl) Tryz.ntmps127 (by kernel_rfl) (by simp) ?_
  simp
  refine callD_ret (fun Hx => iEntire Hx) ?_
  simp
  refine endD [] (by rfl) (by simp [okW, note, Eff.triv, Eff.wr, Eff.none, upTo, newAt]) ?_
  simp [ent]
  exact fin1 (rs := [.tmp 2]) (by rfl) (by simp [resA, entB]) (by simp [noF])
theorem iNew (a b : Int) (H : AH) : Sound E 75 [.int .i64 a, .int .i64 b] H (.ret (iv (mk a b))) H := by
  refine sound_of_awp tabOk mixed Tryz.func75 rfl (by rfl) Tryz.ntmps75 (by kernel_rfl) (by simp) ?_
  have hN : ∀ x, numB x = (decide (-2147483648 < x) && decide (x < 2147483648)) := fun x => rfl
  have key : mk a b = if (decide (a ≤ -2147483648) || decide (2147483648 ≤ b) || decide (2147483648 ≤ a) || decide (b ≤ -2147483648)) = true then ent else (a, b) := by
    unfold mk
    simp only [hN, Bool.and_eq_true, decide_eq_true_eq, Bool.or_eq_true]
    by_cases h : (((a ≤ -2147483648 ∨ 2147483648 ≤ b) ∨ 2147483648 ≤ a) ∨ b ≤ -2147483648)
    · rw [if_pos h, if_neg (by omega)]
    · rw [if_neg h, if_pos (by omega)]
  by_cases h1 : a ≤ -2147483648
  · simp [h1]
    refine call_ret (iEntire _) ?_
    simp
    exact fin1 (rs := [.cell 4 54]) (by rfl) (by rw [key, if_pos (by simp; omega)]; simp [resA]) (by simp [noF, noFs])
  by_cases h2 : 2147483648 ≤ b
  · simp [h1, h2]
    refine call_ret (iEntire _) ?_
    simp
    exact fin1 (rs := [.cell 4 54]) (by rfl) (by rw [key, if_pos (by simp; omega)]; simp [resA]) (by simp [noF, noFs])
  by_cases h3 : 2147483648 ≤ a
  · simp [h1, h2, h3]
    refine call_ret (iEntire _) ?_
    simp
    exact fin1 (rs := [.cell 4 54]) (by rfl) (by rw [key, if_pos (by simp; omega)]; simp [resA]) (by simp [noF, noFs])
  by_cases h4 : b ≤ -2147483648
  · simp [h1, h2, h3, h4]
    refine call_ret (iEntire _) ?_
    simp
    exact fin1 (rs := [.cell 4 54]) (by rfl) (by rw [key, if_pos (by simp; omega)]; simp [resA]) (by simp [noF, noFs])
  simp [h1, h2, h3, h4]
  exact fin1 (rs := [.cell 4 54]) (by rfl) (by rw [key, if_neg (by simp; omega)]; simp [resA]) (by simp [noF, noFs])
theorem iPoint (x : Int) (H : AH) : Sound E 143 [.int .i64 x] H (.ret (iv (pt x))) H := by
  refine sound_of_awp tabOk mixed Tryz.func143 rfl (by rfl) Tryz.ntmps143 (by kernel_rfl) (by simp) ?_
  simp
  refine call_ret (iNew _ _ _) ?_
  simp
  exact fin1 (rs := [.cell 2 54]) (by rfl) (by simp [resA, pt]) (by simp [noF, noFs])
theorem iNeg (p : I) (h : vB p = true) (H : AH) : Sound E 184 [iv p] H (.ret (iv (neg p))) H := by
  refine sound_of_awp tabOk mixed Tryz.func184 rfl (by rfl) Tryz.ntmps184 (by kernel_rfl) (by simp) ?_
  have hb := vB_bounds h
  have w1 : IntKind.i64.wrap (-p.1) = -p.1 := wrap64 (by omega) (by omega)
  have w2 : IntKind.i64.wrap (-p.2) = -p.2 := wrap64 (by omega) (by omega)
  simp [w1, w2]
  exact fin1 (rs := [.cell 2 54]) (by rfl) (by simp [resA, neg]) (by simp [noF, noFs])
theorem iAdd (p q : I) (hp : vB p = true) (hq : vB q = true) (H : AH) : Sound E 175 [iv p, iv q] H (.ret (iv (add p q))) H := by
  refine sound_of_awp tabOk mixed Tryz.func175 rfl (by rfl) Tryz.ntmps175 (by kernel_rfl) (by simp) ?_
  have hb := vB_bounds hp
  have hc := vB_bounds hq
  have w1 : IntKind.i64.wrap (p.1 + q.1) = p.1 + q.1 := wrap64 (by omega) (by omega)
  have w2 : IntKind.i64.wrap (p.2 + q.2) = p.2 + q.2 := wrap64 (by omega) (by omega)
  simp
  refine call_ret (iIsEntire p _) ?_
  cases h1 : entB p with
  | true =>
    simp
    refine call_ret (iEntire _) ?_
    simp
    exact fin1 (rs := [.cell 4 54]) (by rfl) (by simp [resA, add, h1]) (by simp [noF, noFs])
  | false =>
    simp
    refine call_ret (iIsEntire q _) ?_
    cases h2 : entB q with
    | true =>
      simp
      refine call_ret (iEntire _) ?_
      simp
      exact fin1 (rs := [.cell 4 54]) (by rfl) (by simp [resA, add, h1, h2]) (by simp [noF, noFs])
    | false =>
      simp [w1, w2]
      refine call_ret (iNew _ _ _) ?_
      simp
      exact fin1 (rs := [.cell 4 54]) (by rfl) (by simp [resA, add, h1, h2]) (by simp [noF, noFs])
theorem iSub (p q : I) (hp : vB p = true) (hq : vB q = true) (H : AH) : Sound E 185 [iv p, iv q] H (.ret (iv (sub p q))) H := by
  refine sound_of_awp tabOk mixed Tryz.func185 rfl (by rfl) Tryz.ntmps185 (by kernel_rfl) (by simp) ?_
  simp
  refine callD_ret0 (fun Hx => iNeg q hq Hx) ?_
  simp
  refine callD_ret0 (fun Hx => iAdd p (neg q) hp (neg_valid hq) Hx) ?_
  simp
  refine endD [] (by rfl) (by simp [okW, note, Eff.triv, Eff.wr, Eff.none, upTo, newAt]) ?_
  simp
  exact fin1 (rs := [.cell 4 54]) (by rfl) (by simp [resA, sub]) (by simp [noF, noFs])
def sideI (p : I) : Int := if p.2 ≤ 0 then 0 else if 0 ≤ p.1 then 2 else 1
theorem iSide (p : I) (H : AH) : Sound E 193 [iv p] H (.ret (.int .i64 (sideI p))) H := by
  refine sound_of_awp tabOk mixed Tryz.func193 rfl (by rfl) Tryz.ntmps193 (by kernel_rfl) (by simp) ?_
  by_cases h1 : p.2 ≤ 0
  · simp [h1]
    exact fin1 (rs := [.tmp 2]) (by rfl) (by simp [resA, sideI, h1]) (by simp [noF])
  by_cases h2 : 0 ≤ p.1
  · simp [h1, h2]
    exact fin1 (rs := [.tmp 2]) (by rfl) (by simp [resA, sideI, h1, h2]) (by simp [noF])
  simp [h1, h2]
  exact fin1 (rs := [.tmp 2]) (by rfl) (by simp [resA, sideI, h1, h2]) (by simp [noF])
theorem iHH (p q : I) (H : AH) : Sound E 255 [iv p, iv q] H (.ret (.tuple [.int .i64 p.2, .int .i64 q.2])) H := by
  refine sound_of_awp tabOk mixed Tryz.func255 rfl (by rfl) Tryz.ntmps255 (by kernel_rfl) (by simp) ?_
  simp
  refine endD [] (by rfl) (by simp [okW, note, Eff.triv, Eff.wr, Eff.none, upTo, newAt]) ?_
  simp
  exact finC (rs := [.tmp 4, .tmp 5]) (vs := [.int .i64 p.2, .int .i64 q.2]) (vs' := [.int .i64 p.2, .int .i64 q.2]) (by rfl) (by simp [resA]) (by simp; rfl) (by simp [noF, noFs]) rfl
theorem iLL (p q : I) (H : AH) : Sound E 256 [iv p, iv q] H (.ret (.tuple [.int .i64 p.1, .int .i64 q.1])) H := by
  refine sound_of_awp tabOk mixed Tryz.func256 rfl (by rfl) Tryz.ntmps256 (by kernel_rfl) (by simp) ?_
  simp
  refine endD [] (by rfl) (by simp [okW, note, Eff.triv, Eff.wr, Eff.none, upTo, newAt]) ?_
  simp
  exact finC (rs := [.tmp 4, .tmp 5]) (vs := [.int .i64 p.1, .int .i64 q.1]) (vs' := [.int .i64 p.1, .int .i64 q.1]) (by rfl) (by simp [resA]) (by simp; rfl) (by simp [noF, noFs]) rfl
theorem iLH (p q : I) (H : AH) : Sound E 257 [iv p, iv q] H (.ret (.tuple [.int .i64 p.1, .int .i64 q.2])) H := by
  refine sound_of_awp tabOk mixed Tryz.func257 rfl (by rfl) Tryz.ntmps257 (by kernel_rfl) (by simp) ?_
  simp
  refine endD [] (by rfl) (by simp [okW, note, Eff.triv, Eff.wr, Eff.none, upTo, newAt]) ?_
  simp
  exact finC (rs := [.tmp 4, .tmp 5]) (vs := [.int .i64 p.1, .int .i64 q.2]) (vs' := [.int .i64 p.1, .int .i64 q.2]) (by rfl) (by simp [resA]) (by simp; rfl) (by simp [noF, noFs]) rfl
theorem iHL (p q : I) (H : AH) : Sound E 258 [iv p, iv q] H (.ret (.tuple [.int .i64 p.2, .int .i64 q.1])) H := by
  refine sound_of_awp tabOk mixed Tryz.func258 rfl (by rfl) Tryz.ntmps258 (by kernel_rfl) (by simp) ?_
  simp
  refine endD [] (by rfl) (by simp [okW, note, Eff.triv, Eff.wr, Eff.none, upTo, newAt]) ?_
  simp
  exact finC (rs := [.tmp 4, .tmp 5]) (vs := [.int .i64 p.2, .int .i64 q.1]) (vs' := [.int .i64 p.2, .int .i64 q.1]) (by rfl) (by simp [resA]) (by simp; rfl) (by simp [noF, noFs]) rfl
theorem iMag (p : I) (h : vB p = true) (H : AH) : Sound E 206 [iv p] H (.ret (.int .i64 (max p.2 (-p.1)))) H := by
  refine sound_of_awp tabOk mixed Tryz.func206 rfl (by rfl) Tryz.ntmps206 (by kernel_rfl) (by simp) ?_
  have hb := vB_bounds h
  have w1 : IntKind.i64.wrap (-p.1) = -p.1 := wrap64 (by omega) (by omega)
  simp [w1]
  exact fin1 (rs := [.tmp 2]) (by rfl) (by simp [resA]; omega) (by simp [noF])
theorem iPickInt (b : Bool) (x y : Int) (H : AH) : Sound E 218 [.bool b, .int .i64 x, .int .i64 y] H (.ret (.int .i64 (if b then x else y))) H := by
  refine sound_of_awp tabOk mixed Tryz.func218 rfl (by rfl) Tryz.ntmps218 (by kernel_rfl) (by simp) ?_
  cases b with
  | true =>
    simp
    exact fin0 (rs := [.tmp 6]) (by rfl) (by simp [resA])
  | false =>
    simp
    exact fin0 (rs := [.tmp 6]) (by rfl) (by simp [resA])
theorem iContains (p : I) (x : Int) (H : AH) : Sound E 217 [iv p, .int .i64 x] H (.ret (.bool (conB p x))) H := by
  refine sound_of_awp tabOk mixed Tryz.func217 rfl (by rfl) Tryz.ntmps217 (by kernel_rfl) (by simp) ?_
  simp
  refine call_ret (iIsEntire p _) ?_
  cases h1 : entB p with
  | true =>
    simp
    exact fin1 (rs := [.tmp 4]) (by rfl) (by simp [resA, conB, h1]) (by simp [noF])
  | false =>
    by_cases h2 : p.1 ≤ x
    · simp [h2]
      exact fin1 (rs := [.tmp 4]) (by rfl) (by simp [resA, conB, h1, h2]) (by simp [noF])
    · simp [h2]
      exact fin1 (rs := [.tmp 4]) (by rfl) (by simp [resA, conB, h1, h2]) (by simp [noF])
end Go.Proofs.YtfjjckepnkkgjaaGreatDoor.Arm

namespace Go.Proofs.YtfjjckepnkkgjaaGreatDoor.Arm
open Go.Arm Go.Pl
theorem prod_bounds {x y : Int} (hx : -2147483648 ≤ x ∧ x ≤ 2147483648) (hy : -2147483648 ≤ y ∧ y ≤ 2147483648) : -4611686018427387904 ≤ x * y ∧ x * y ≤ 4611686018427387904 := by
  have h1 : (x * y).natAbs ≤ 2147483648 * 2147483648 := by
    rw [Int.natAbs_mul]
    exact Nat.mul_le_mul (by omega) (by omega)
  omega
theorem sideI_cases (p : I) : (sideI p = 0 ∧ p.2 ≤ 0) ∨ (sideI p = 2 ∧ 0 ≤ p.1 ∧ 0 < p.2) ∨ (sideI p = 1 ∧ p.1 < 0 ∧ 0 < p.2) := by
  unfold sideI
  split
  · exact .inl ⟨rfl, by omega⟩
  · split
    · exact .inr (.inl ⟨rfl, by omega, by omega⟩)
    · exact .inr (.inr ⟨rfl, by omega, by omega⟩)
theorem mul_sel {p q : I} (h1 : entB p = false) (h2 : entB q = false) {a b : Int} (ha : min4 (p.1 * q.1) (p.1 * q.2) (p.2 * q.1) (p.2 * q.2) = a) (hb : max4 (p.1 * q.1) (p.1 * q.2) (p.2 * q.1) (p.2 * q.2) = b) :
    mul p q = mk (fl a 65536) (ce b 65536) := by simp [mul, h1, h2, ha, hb]
set_option maxHeartbeats 1000000 in
theorem iMul (p q : I) (hp : vB p = true) (hq : vB q = true) (H : AH) : Sound E 174 [iv p, iv q] H (.ret (iv (mul p q))) H := by
  refine sound_of_awp tabOk mixed Tryz.func174 rfl (by rfl) Tryz.ntmps174 (by kernel_rfl) (by simp) ?_
  simp
  refine call_ret (iIsEntire p _) ?_
  cases h1 : entB p with
  | true =>
    simp
    refine call_ret (iEntire _) ?_
    simp
    exact fin1 (rs := [.cell 4 54]) (by rfl) (by simp [resA, mul, h1]) (by simp [noF, noFs])
  | false =>
  simp
  refine call_ret (iIsEntire q _) ?_
  cases h2 : entB q with
  | true =>
    simp
    refine call_ret (iEntire _) ?_
    simp
    exact fin1 (rs := [.cell 4 54]) (by rfl) (by simp [resA, mul, h1, h2]) (by simp [noF, noFs])
  | false =>
  simp
  refine callD_ret0 (fun Hx => iSide p Hx) ?_
  simp
  refine callD_ret0 (fun Hx => iSide q Hx) ?_
  simp
  refine endD [] (by rfl) (by simp [okW, note, Eff.triv, Eff.wr, Eff.none, upTo, newAt]) ?_
  have hb := entB_false hp h1
  have hc := entB_false hq h2
  have w11 := prod_bounds (x := p.1) (y := q.1) (by omega) (by omega)
  have w12 := prod_bounds (x := p.1) (y := q.2) (by omega) (by omega)
  have w21 := prod_bounds (x := p.2) (y := q.1) (by omega) (by omega)
  have w22 := prod_bounds (x := p.2) (y := q.2) (by omega) (by omega)
  have he := mul_edges p q
  rcases sideI_cases p with ⟨s1, f1⟩ | ⟨s1, f1⟩ | ⟨s1, f1⟩ <;> rcases sideI_cases q with ⟨t1, g1⟩ | ⟨t1, g1⟩ | ⟨t1, g1⟩
  · have hm : mul p q = mk (fl (p.2 * q.2) 65536) (ce (p.1 * q.1) 65536) := mul_sel h1 h2 (by simp only [min4]; omega) (by simp only [max4]; omega)
    simp [s1, t1, prodT]
    refine call_ret (iHH p q _) ?_
    simp
    refine call_ret (fMul _ _ w22 _) ?_
    simp
    refine call_ret (iLL p q _) ?_
    simp
    refine call_ret (fMul _ _ w11 _) ?_
    simp
    refine call_ret (iNew _ _ _) ?_
    simp
    exact fin1 (rs := [.cell 4 54]) (by rfl) (by rw [hm]; simp [resA]) (by simp [noF, noFs])
  · have hm : mul p q = mk (fl (p.1 * q.2) 65536) (ce (p.2 * q.1) 65536) := mul_sel h1 h2 (by simp only [min4]; omega) (by simp only [max4]; omega)
    simp [s1, t1, prodT]
    refine call_ret (iLH p q _) ?_
    simp
    refine call_ret (fMul _ _ w12 _) ?_
    simp
    refine call_ret (iHL p q _) ?_
    simp
    refine call_ret (fMul _ _ w21 _) ?_
    simp
    refine call_ret (iNew _ _ _) ?_
    simp
    exact fin1 (rs := [.cell 4 54]) (by rfl) (by rw [hm]; simp [resA]) (by simp [noF, noFs])
  · have hm : mul p q = mk (fl (p.1 * q.2) 65536) (ce (p.1 * q.1) 65536) := mul_sel h1 h2 (by simp only [min4]; omega) (by simp only [max4]; omega)
    simp [s1, t1, prodT]
    refine call_ret (iLH p q _) ?_
    simp
    refine call_ret (fMul _ _ w12 _) ?_
    simp
    refine call_ret (iLL p q _) ?_
    simp
    refine call_ret (fMul _ _ w11 _) ?_
    simp
    refine call_ret (iNew _ _ _) ?_
    simp
    exact fin1 (rs := [.cell 4 54]) (by rfl) (by rw [hm]; simp [resA]) (by simp [noF, noFs])
  · have hm : mul p q = mk (fl (p.2 * q.1) 65536) (ce (p.1 * q.2) 65536) := mul_sel h1 h2 (by simp only [min4]; omega) (by simp only [max4]; omega)
    simp [s1, t1, prodT]
    refine call_ret (iHL p q _) ?_
    simp
    refine call_ret (fMul _ _ w21 _) ?_
    simp
    refine call_ret (iLH p q _) ?_
    simp
    refine call_ret (fMul _ _ w12 _) ?_
    simp
    refine call_ret (iNew _ _ _) ?_
    simp
    exact fin1 (rs := [.cell 4 54]) (by rfl) (by rw [hm]; simp [resA]) (by simp [noF, noFs])
  · have hm : mul p q = mk (fl (p.1 * q.1) 65536) (ce (p.2 * q.2) 65536) := mul_sel h1 h2 (by simp only [min4]; omega) (by simp only [max4]; omega)
    simp [s1, t1, prodT]
    refine call_ret (iLL p q _) ?_
    simp
    refine call_ret (fMul _ _ w11 _) ?_
    simp
    refine call_ret (iHH p q _) ?_
    simp
    refine call_ret (fMul _ _ w22 _) ?_
    simp
    refine call_ret (iNew _ _ _) ?_
    simp
    exact fin1 (rs := [.cell 4 54]) (by rfl) (by rw [hm]; simp [resA]) (by simp [noF, noFs])
  · have hm : mul p q = mk (fl (p.2 * q.1) 65536) (ce (p.2 * q.2) 65536) := mul_sel h1 h2 (by simp only [min4]; omega) (by simp only [max4]; omega)
    simp [s1, t1, prodT]
    refine call_ret (iHL p q _) ?_
    simp
    refine call_ret (fMul _ _ w21 _) ?_
    simp
    refine call_ret (iHH p q _) ?_
    simp
    refine call_ret (fMul _ _ w22 _) ?_
    simp
    refine call_ret (iNew _ _ _) ?_
    simp
    exact fin1 (rs := [.cell 4 54]) (by rfl) (by rw [hm]; simp [resA]) (by simp [noF, noFs])
  · have hm : mul p q = mk (fl (p.2 * q.1) 65536) (ce (p.1 * q.1) 65536) := mul_sel h1 h2 (by simp only [min4]; omega) (by simp only [max4]; omega)
    simp [s1, t1, prodT]
    refine call_ret (iHL p q _) ?_
    simp
    refine call_ret (fMul _ _ w21 _) ?_
    simp
    refine call_ret (iLL p q _) ?_
    simp
    refine call_ret (fMul _ _ w11 _) ?_
    simp
    refine call_ret (iNew _ _ _) ?_
    simp
    exact fin1 (rs := [.cell 4 54]) (by rfl) (by rw [hm]; simp [resA]) (by simp [noF, noFs])
  · have hm : mul p q = mk (fl (p.1 * q.2) 65536) (ce (p.2 * q.2) 65536) := mul_sel h1 h2 (by simp only [min4]; omega) (by simp only [max4]; omega)
    simp [s1, t1, prodT]
    refine call_ret (iLH p q _) ?_
    simp
    refine call_ret (fMul _ _ w12 _) ?_
    simp
    refine call_ret (iHH p q _) ?_
    simp
    refine call_ret (fMul _ _ w22 _) ?_
    simp
    refine call_ret (iNew _ _ _) ?_
    simp
    exact fin1 (rs := [.cell 4 54]) (by rfl) (by rw [hm]; simp [resA]) (by simp [noF, noFs])
  · have hm : mul p q = mk (min (fl (p.1 * q.2) 65536) (fl (p.2 * q.1) 65536)) (max (ce (p.1 * q.1) 65536) (ce (p.2 * q.2) 65536)) := by
      have e1 : min4 (p.1 * q.1) (p.1 * q.2) (p.2 * q.1) (p.2 * q.2) = min (p.1 * q.2) (p.2 * q.1) := by simp only [min4]; omega
      have e2 : max4 (p.1 * q.1) (p.1 * q.2) (p.2 * q.1) (p.2 * q.2) = max (p.1 * q.1) (p.2 * q.2) := by simp only [max4]; omega
      rw [mul_sel h1 h2 e1 e2]
      congr 1
      · simp only [fl]; split <;> omega
      · simp only [ce, fl]; split <;> omega
    simp [s1, t1]
    refine call_ret (fMul _ _ w12 _) ?_
    simp
    refine call_ret (fMul _ _ w21 _) ?_
    simp
    refine call_ret (fMul _ _ w11 _) ?_
    simp
    refine call_ret (fMul _ _ w22 _) ?_
    simp
    refine call_ret (iNew _ _ _) ?_
    simp
    exact fin1 (rs := [.cell 4 54]) (by rfl) (by rw [hm]; simp [resA, ite_min, ite_max]) (by simp [noF, noFs])
theorem sq_eq (p : I) (h : p.1 ≤ p.2) : (if p.1 ≤ 0 ∧ 0 ≤ p.2 then 0 else min (p.1 * p.1) (p.2 * p.2)) = max (max p.1 (-p.2)) 0 * max (max p.1 (-p.2)) 0 ∧ max (p.1 * p.1) (p.2 * p.2) = max p.2 (-p.1) * max p.2 (-p.1) := by
  obtain ⟨x, y⟩ := p
  simp only at h ⊢
  have e1 : 0 ≤ x → x * x ≤ y * y := fun h0 => Int.mul_le_mul h h h0 (by omega)
  have e2 : y ≤ 0 → y * y ≤ x * x := fun h0 => by
    have := Int.mul_le_mul (a := -y) (b := -y) (c := -x) (d := -x) (by omega) (by omega) (by omega) (by omega)
    simp only [Int.neg_mul_neg] at this; exact this
  have e3 : x ≤ 0 → 0 ≤ y → -x ≤ y → x * x ≤ y * y := fun h0 h1 h2 => by
    have := Int.mul_le_mul (a := -x) (b := -x) (c := y) (d := y) (by omega) (by omega) (by omega) (by omega)
    simp only [Int.neg_mul_neg] at this; exact this
  have e4 : x ≤ 0 → 0 ≤ y → y ≤ -x → y * y ≤ x * x := fun h0 h1 h2 => by
    have := Int.mul_le_mul (a := y) (b := y) (c := -x) (d := -x) (by omega) (by omega) (by omega) (by omega)
    simp only [Int.neg_mul_neg] at this; exact this
  have n1 : -x * -x = x * x := Int.neg_mul_neg x x
  have n2 : -y * -y = y * y := Int.neg_mul_neg y y
  constructor
  · split
    · rw [show max (max x (-y)) 0 = 0 by omega]; simp
    · rcases Int.lt_or_le 0 x with h0 | h0
      · rw [show max (max x (-y)) 0 = x by omega]; have := e1 (by omega); omega
      · rw [show max (max x (-y)) 0 = -y by omega, n2]; have := e2 (by omega); omega
  · rcases Int.le_total (-x) y with h0 | h0
    · rw [show max y (-x) = y by omega]
      rcases Int.le_total 0 x with h1 | h1
      · have := e1 h1; omega
      · have := e3 h1 (by omega) h0; omega
    · rw [show max y (-x) = -x by omega, n1]
      rcases Int.le_total y 0 with h1 | h1
      · have := e2 h1; omega
      · have := e4 (by omega) h1 h0; omega
theorem iSquare (p : I) (hp : vB p = true) (H : AH) : Sound E 186 [iv p] H (.ret (iv (sq p))) H := by
  refine sound_of_awp tabOk mixed Tryz.func186 rfl (by rfl) Tryz.ntmps186 (by kernel_rfl) (by simp) ?_
  simp
  refine call_ret (iIsEntire p _) ?_
  cases h1 : entB p with
  | true =>
    simp
    exact fin1 (rs := [.cell 2 54]) (by rfl) (by have e : sq p = p := (by simp only [sq, h1, if_true]; exact (entB_iff.1 h1).symm); rw [e]; simp [resA]) (by simp [noF, noFs])
  | false =>
  have hb := entB_false hp h1
  have w1 : IntKind.i64.wrap (-p.2) = -p.2 := wrap64 (by omega) (by omega)
  obtain ⟨e1, e2⟩ := sq_eq p hb.2.1
  have hs : sq p = mk (fl (max (max p.1 (-p.2)) 0 * max (max p.1 (-p.2)) 0) 65536) (ce (max p.2 (-p.1) * max p.2 (-p.1)) 65536) := by
    simp only [sq, h1]; rw [e1, e2]; simp
  rw [hs]
  clear hs e1 e2
  simp [w1, ite_max]
  refine callD_ret0 (fun Hx => iMag p hp Hx) ?_
  simp
  refine endD [] (by rfl) (by simp [okW, note, Eff.triv, Eff.wr, Eff.none, upTo, newAt]) ?_
  simp
  refine call_ret (fMul _ _ (prod_bounds (by omega) (by omega)) _) ?_
  simp
  refine call_ret (fMul _ _ (prod_bounds (by omega) (by omega)) _) ?_
  simp
  refine call_ret (iNew _ _ _) ?_
  simp
  exact fin1 (rs := [.cell 2 54]) (by rfl) (by simp [resA]) (by simp [noF, noFs])
theorem fDiv (a b : Int) (ha : -2147483648 ≤ a ∧ a ≤ 2147483648) (hb : b ≠ 0 ∧ -2147483648 ≤ b ∧ b ≤ 2147483648) (H : AH) :
    Sound E 219 [.int .i64 a, .int .i64 b] H (.ret (.tuple [.int .i64 (fl (a * 65536) b), .int .i64 (ce (a * 65536) b), .int .i64 0])) H := by
  refine sound_of_awp tabOk mixed Tryz.func219 rfl (by rfl) Tryz.ntmps219 (by kernel_rfl) (by simp) ?_
  have w1 : IntKind.i64.wrap (a * 65536) = a * 65536 := wrap64 (by omega) (by omega)
  have hb0 : (b == 0) = false := by simp [hb.1]
  simp [hb0, w1]
  refine call_ret (fDivide (a * 65536) b (by omega) (by omega) _) ?_
  simp
  exact finK (rs := [.tmp 4, .tmp 5, .tmp 6]) (vs := [.int .i64 (fl (a * 65536) b), .int .i64 (ce (a * 65536) b), .int .i64 0]) (by rfl) (by simp [resA]) rfl
end Go.Proofs.YtfjjckepnkkgjaaGreatDoor.Arm

namespace Go.Proofs.YtfjjckepnkkgjaaGreatDoor.Arm
open Go.Arm Go.Pl
theorem iDiv (p q : I) (hp : vB p = true) (hq : vB q = true) (H : AH) : Sound E 207 [iv p, iv q] H (.ret (iv (div p q))) H := by
  refine sound_of_awp tabOk mixed Tryz.func207 rfl (by rfl) Tryz.ntmps207 (by kernel_rfl) (by simp) ?_
  simp
  refine call_ret (iIsEntire p _) ?_
  cases h1 : entB p with
  | true =>
    simp
    refine call_ret (iEntire _) ?_
    simp
    exact fin1 (rs := [.cell 4 54]) (by rfl) (by simp [resA, div, h1]) (by simp [noF, noFs])
  | false =>
  simp
  refine call_ret (iIsEntire q _) ?_
  cases h2 : entB q with
  | true =>
    simp
    refine call_ret (iEntire _) ?_
    simp
    exact fin1 (rs := [.cell 4 54]) (by rfl) (by simp [resA, div, h1, h2]) (by simp [noF, noFs])
  | false =>
  simp
  refine call_ret (iContains q 0 _) ?_
  cases h3 : conB q 0 with
  | true =>
    simp
    refine call_ret (iEntire _) ?_
    simp
    exact fin1 (rs := [.cell 4 54]) (by rfl) (by simp only [conB, h2, Bool.false_or] at h3; simp [resA, div, h1, h2, h3]) (by simp [noF, noFs])
  | false =>
  have hb := entB_false hp h1
  have hc := entB_false hq h2
  have h3' : q.2 < 0 ∨ 0 < q.1 := by
    simp only [conB, h2, Bool.false_or, Bool.and_eq_false_iff, decide_eq_false_iff_not] at h3
    omega
  simp
  refine callD_ret0 (fun Hx => iSide p Hx) ?_
  simp
  refine callD_ret0 (fun Hx => iPickInt (decide (0 < q.1)) 1 0 Hx) ?_
  simp
  rcases sideI_cases p with ⟨s1, f1⟩ | ⟨s1, f1⟩ | ⟨s1, f1⟩ <;> rcases h3' with g1 | g1
  · rw [div_sel0n h1 h2 hb.2.1 hc.2.1 (by omega) g1]
    have g2 : ¬ 0 < q.1 := by omega
    simp [s1, g2, quotT]
    refine endD [(9, 10)] (by rfl) (by simp [okW, note, Eff.triv, Eff.wr, Eff.none, upTo, newAt]) ?_
    simp
    refine call_ret (iHL p q _) ?_
    simp
    refine call_ret (fDiv _ _ (by omega) (by omega) _) ?_
    simp
    refine call_ret (iLH p q _) ?_
    simp
    refine call_ret (fDiv _ _ (by omega) (by omega) _) ?_
    simp
    refine call_ret (iNew _ _ _) ?_
    simp
    exact fin1 (rs := [.cell 4 54]) (by rfl) (by simp [resA]) (by simp [noF, noFs])
  · rw [div_sel0p h1 h2 hb.2.1 hc.2.1 (by omega) g1]
    have g2 : 0 < q.1 := g1
    simp [s1, g2, quotT]
    refine endD [(9, 10)] (by rfl) (by simp [okW, note, Eff.triv, Eff.wr, Eff.none, upTo, newAt]) ?_
    simp
    refine call_ret (iLL p q _) ?_
    simp
    refine call_ret (fDiv _ _ (by omega) (by omega) _) ?_
    simp
    refine call_ret (iHH p q _) ?_
    simp
    refine call_ret (fDiv _ _ (by omega) (by omega) _) ?_
    simp
    refine call_ret (iNew _ _ _) ?_
    simp
    exact fin1 (rs := [.cell 4 54]) (by rfl) (by simp [resA]) (by simp [noF, noFs])
  · rw [div_sel2n h1 h2 hb.2.1 hc.2.1 (by omega) g1]
    have g2 : ¬ 0 < q.1 := by omega
    simp [s1, g2, quotT]
    refine endD [(9, 10)] (by rfl) (by simp [okW, note, Eff.triv, Eff.wr, Eff.none, upTo, newAt]) ?_
    simp
    refine call_ret (iHH p q _) ?_
    simp
    refine call_ret (fDiv _ _ (by omega) (by omega) _) ?_
    simp
    refine call_ret (iLL p q _) ?_
    simp
    refine call_ret (fDiv _ _ (by omega) (by omega) _) ?_
    simp
    refine call_ret (iNew _ _ _) ?_
    simp
    exact fin1 (rs := [.cell 4 54]) (by rfl) (by simp [resA]) (by simp [noF, noFs])
  · rw [div_sel2p h1 h2 hb.2.1 hc.2.1 (by omega) g1]
    have g2 : 0 < q.1 := g1
    simp [s1, g2, quotT]
    refine endD [(9, 10)] (by rfl) (by simp [okW, note, Eff.triv, Eff.wr, Eff.none, upTo, newAt]) ?_
    simp
    refine call_ret (iLH p q _) ?_
    simp
    refine call_ret (fDiv _ _ (by omega) (by omega) _) ?_
    simp
    refine call_ret (iHL p q _) ?_
    simp
    refine call_ret (fDiv _ _ (by omega) (by omega) _) ?_
    simp
    refine call_ret (iNew _ _ _) ?_
    simp
    exact fin1 (rs := [.cell 4 54]) (by rfl) (by simp [resA]) (by simp [noF, noFs])
  · rw [div_sel1n h1 h2 hb.2.1 hc.2.1 (by omega) g1]
    have g2 : ¬ 0 < q.1 := by omega
    simp [s1, g2, quotT]
    refine endD [(9, 10)] (by rfl) (by simp [okW, note, Eff.triv, Eff.wr, Eff.none, upTo, newAt]) ?_
    simp
    refine call_ret (iHH p q _) ?_
    simp
    refine call_ret (fDiv _ _ (by omega) (by omega) _) ?_
    simp
    refine call_ret (iLH p q _) ?_
    simp
    refine call_ret (fDiv _ _ (by omega) (by omega) _) ?_
    simp
    refine call_ret (iNew _ _ _) ?_
    simp
    exact fin1 (rs := [.cell 4 54]) (by rfl) (by simp [resA]) (by simp [noF, noFs])
  · rw [div_sel1p h1 h2 hb.2.1 hc.2.1 (by omega) g1]
    have g2 : 0 < q.1 := g1
    simp [s1, g2, quotT]
    refine endD [(9, 10)] (by rfl) (by simp [okW, note, Eff.triv, Eff.wr, Eff.none, upTo, newAt]) ?_
    simp
    refine call_ret (iLL p q _) ?_
    simp
    refine call_ret (fDiv _ _ (by omega) (by omega) _) ?_
    simp
    refine call_ret (iHL p q _) ?_
    simp
    refine call_ret (fDiv _ _ (by omega) (by omega) _) ?_
    simp
    refine call_ret (iNew _ _ _) ?_
    simp
    exact fin1 (rs := [.cell 4 54]) (by rfl) (by simp [resA]) (by simp [noF, noFs])
end Go.Proofs.YtfjjckepnkkgjaaGreatDoor.Arm

namespace Go.Proofs.YtfjjckepnkkgjaaGreatDoor.Arm
open Go.Arm Go.Pl
theorem withH_some' {H : AH} {x : Option AV} {v : AV} (h : x = some v) : withH H x = some (v, H) := by rw [h]; rfl
theorem map_u8 {x : Option UInt8} {k : Nat} (h : x.map UInt8.toNat = some k) : x.map (fun b => AV.int .u8 b.toNat) = some (.int .u8 k) := by
  cases x with
  | none => cases h
  | some b => simp at h; subst h; rfl
set_option maxRecDepth 100000 in
theorem bLen64 (x : Int) (h : 0 ≤ x ∧ x < 281474976710656) (H : AH) : Sound E 224 [.int .u64 x] H (.ret (.int .i64 (blen x))) H := by
  refine sound_of_awp tabOk mixed Tryz.func224 rfl (by rfl) Tryz.ntmps224 (by kernel_rfl) (by simp) ?_
  have fd : ∀ y : Int, y.fdiv (2 ^ min 32 IntKind.u64.bits) = y / 4294967296 ∧ y.fdiv (2 ^ min 16 IntKind.u64.bits) = y / 65536 ∧ y.fdiv (2 ^ min 8 IntKind.u64.bits) = y / 256 := fun y =>
    ⟨Int.fdiv_eq_ediv_of_nonneg _ (by decide), Int.fdiv_eq_ediv_of_nonneg _ (by decide), Int.fdiv_eq_ediv_of_nonneg _ (by decide)⟩
  obtain ⟨a, ha⟩ : ∃ a, a = (if 4294967296 ≤ x then (x / 4294967296, (32 : Int)) else (x, 0)) := ⟨_, rfl⟩
  obtain ⟨b, hb⟩ : ∃ b, b = (if 65536 ≤ a.1 then (a.1 / 65536, a.2 + 16) else a) := ⟨_, rfl⟩
  obtain ⟨c, hc⟩ : ∃ c, c = (if 256 ≤ b.1 then (b.1 / 256, b.2 + 8) else b) := ⟨_, rfl⟩
  have hbl : blen x = c.2 + len8 c.1.toNat := by rw [hc, hb, ha]; rfl
  rw [hbl]
  clear hbl
  have wc : IntKind.i64.wrap 40 = 40 ∧ IntKind.i64.wrap 32 = 32 ∧ IntKind.i64.wrap 24 = 24 ∧ IntKind.i64.wrap 16 = 16 ∧ IntKind.i64.wrap 8 = 8 := by decide
  by_cases h1 : 4294967296 ≤ x
  · simp only [h1, if_true] at ha
    subst ha
    have h2 : ¬ 65536 ≤ x / 4294967296 := by omega
    dsimp only at hb
    rw [if_neg h2] at hb
    subst hb
    simp [h1, h2, fd]
    by_cases h3 : 256 ≤ x / 4294967296
    · dsimp only at hc
      rw [if_pos h3] at hc
      subst hc
      simp [h3, fd]
      have hz : 0 ≤ x / 4294967296 / 256 ∧ x / 4294967296 / 256 < 256 := by omega
      generalize x / 4294967296 / 256 = z at *
      obtain ⟨k, rfl⟩ := Int.eq_ofNat_of_zero_le hz.1
      have hk : k < 256 := by omega
      have wk : IntKind.u8.wrap (k : Int) = k := wrap8 (by omega) (by omega)
      simp [wk]
      refine bind_some (withH_some' (map_u8 (k := len8 k) ?_)) ?_
      · clear wk hz h
        try clear h3
        try clear h2
        try clear h1
        revert hk
        revert k
        decide +kernel
      have h8 := (len8_spec k hk).2
      have wl : IntKind.i64.wrap (len8 k : Int) = len8 k := wrap64 (by omega) (by omega)
      have wm : IntKind.i64.wrap (40 + (len8 k : Int)) = 40 + len8 k := wrap64 (by omega) (by omega)
      simp [wl, wm, wc]
      exact fin0 (rs := [.tmp 2]) (by rfl) (by simp [resA])
    · dsimp only at hc
      rw [if_neg h3] at hc
      subst hc
      simp [h3, fd]
      have hz : 0 ≤ x / 4294967296 ∧ x / 4294967296 < 256 := by omega
      generalize x / 4294967296 = z at *
      obtain ⟨k, rfl⟩ := Int.eq_ofNat_of_zero_le hz.1
      have hk : k < 256 := by omega
      have wk : IntKind.u8.wrap (k : Int) = k := wrap8 (by omega) (by omega)
      simp [wk]
      refine bind_some (withH_some' (map_u8 (k := len8 k) ?_)) ?_
      · clear wk hz h
        try clear h3
        try clear h2
        try clear h1
        revert hk
        revert k
        decide +kernel
      have h8 := (len8_spec k hk).2
      have wl : IntKind.i64.wrap (len8 k : Int) = len8 k := wrap64 (by omega) (by omega)
      have wm : IntKind.i64.wrap (32 + (len8 k : Int)) = 32 + len8 k := wrap64 (by omega) (by omega)
      simp [wl, wm, wc]
      exact fin0 (rs := [.tmp 2]) (by rfl) (by simp [resA])
  · simp only [h1, if_false] at ha
    subst ha
    by_cases h2 : 65536 ≤ x
    · dsimp only at hb
      rw [if_pos h2] at hb
      subst hb
      simp [h1, h2, fd]
      by_cases h3 : 256 ≤ x / 65536
      · dsimp only at hc
        rw [if_pos h3] at hc
        subst hc
        simp [h3, fd]
        have hz : 0 ≤ x / 65536 / 256 ∧ x / 65536 / 256 < 256 := by omega
        generalize x / 65536 / 256 = z at *
        obtain ⟨k, rfl⟩ := Int.eq_ofNat_of_zero_le hz.1
        have hk : k < 256 := by omega
        have wk : IntKind.u8.wrap (k : Int) = k := wrap8 (by omega) (by omega)
        simp [wk]
        refine bind_some (withH_some' (map_u8 (k := len8 k) ?_)) ?_
        · clear wk hz h
          try clear h3
          try clear h2
          try clear h1
          revert hk
          revert k
          decide +kernel
        have h8 := (len8_spec k hk).2
        have wl : IntKind.i64.wrap (len8 k : Int) = len8 k := wrap64 (by omega) (by omega)
        have wm : IntKind.i64.wrap (24 + (len8 k : Int)) = 24 + len8 k := wrap64 (by omega) (by omega)
        simp [wl, wm, wc]
        exact fin0 (rs := [.tmp 2]) (by rfl) (by simp [resA])
      · dsimp only at hc
        rw [if_neg h3] at hc
        subst hc
        simp [h3, fd]
        have hz : 0 ≤ x / 65536 ∧ x / 65536 < 256 := by omega
        generalize x / 65536 = z at *
        obtain ⟨k, rfl⟩ := Int.eq_ofNat_of_zero_le hz.1
        have hk : k < 256 := by omega
        have wk : IntKind.u8.wrap (k : Int) = k := wrap8 (by omega) (by omega)
        simp [wk]
        refine bind_some (withH_some' (map_u8 (k := len8 k) ?_)) ?_
        · clear wk hz h
          try clear h3
          try clear h2
          try clear h1
          revert hk
          revert k
          decide +kernel
        have h8 := (len8_spec k hk).2
        have wl : IntKind.i64.wrap (len8 k : Int) = len8 k := wrap64 (by omega) (by omega)
        have wm : IntKind.i64.wrap (16 + (len8 k : Int)) = 16 + len8 k := wrap64 (by omega) (by omega)
        simp [wl, wm, wc]
        exact fin0 (rs := [.tmp 2]) (by rfl) (by simp [resA])
    · dsimp only at hb
      rw [if_neg h2] at hb
      subst hb
      simp [h1, h2, fd]
      by_cases h3 : 256 ≤ x
      · dsimp only at hc
        rw [if_pos h3] at hc
        subst hc
        simp [h3, fd]
        have hz : 0 ≤ x / 256 ∧ x / 256 < 256 := by omega
        generalize x / 256 = z at *
        obtain ⟨k, rfl⟩ := Int.eq_ofNat_of_zero_le hz.1
        have hk : k < 256 := by omega
        have wk : IntKind.u8.wrap (k : Int) = k := wrap8 (by omega) (by omega)
        simp [wk]
        refine bind_some (withH_some' (map_u8 (k := len8 k) ?_)) ?_
        · clear wk hz h
          try clear h3
          try clear h2
          try clear h1
          revert hk
          revert k
          decide +kernel
        have h8 := (len8_spec k hk).2
        have wl : IntKind.i64.wrap (len8 k : Int) = len8 k := wrap64 (by omega) (by omega)
        have wm : IntKind.i64.wrap (8 + (len8 k : Int)) = 8 + len8 k := wrap64 (by omega) (by omega)
        simp [wl, wm, wc]
        exact fin0 (rs := [.tmp 2]) (by rfl) (by simp [resA])
      · dsimp only at hc
        rw [if_neg h3] at hc
        subst hc
        simp [h3, fd]
        have hz : 0 ≤ x ∧ x < 256 := by omega
        generalize x = z at *
        obtain ⟨k, rfl⟩ := Int.eq_ofNat_of_zero_le hz.1
        have hk : k < 256 := by omega
        have wk : IntKind.u8.wrap (k : Int) = k := wrap8 (by omega) (by omega)
        simp [wk]
        refine bind_some (withH_some' (map_u8 (k := len8 k) ?_)) ?_
        · clear wk hz h
          try clear h3
          try clear h2
          try clear h1
          revert hk
          revert k
          decide +kernel
        have h8 := (len8_spec k hk).2
        have wl : IntKind.i64.wrap (len8 k : Int) = len8 k := wrap64 (by omega) (by omega)
        have wm : IntKind.i64.wrap (0 + (len8 k : Int)) = 0 + len8 k := wrap64 (by omega) (by omega)
        simp [wl, wm, wc]
        exact fin0 (rs := [.tmp 2]) (by rfl) (by simp [resA])
end Go.Proofs.YtfjjckepnkkgjaaGreatDoor.Arm

namespace Go.Proofs.YtfjjckepnkkgjaaGreatDoor.Arm
open Go.Arm Go.Pl
theorem root_lt {n : Int} {e : Nat} {b : Int} (hn : 0 ≤ n) (hb : 0 ≤ b) (h : n < 2 ^ b.toNat) (he : b ≤ 2 * e) : root n ≤ 2 ^ e := by
  obtain ⟨r0, r1, r2⟩ := root_spec hn
  rcases Int.lt_or_le (2 ^ e) (root n) with hlt | hle
  · have h0 : (0 : Int) ≤ 2 ^ e := by exact_mod_cast Nat.zero_le _
    have h1 : (2 ^ e : Int) * 2 ^ e ≤ root n * root n := Int.mul_le_mul (by omega) (by omega) h0 r0
    have h2 : (2 ^ b.toNat : Int) ≤ 2 ^ e * 2 ^ e := by
      rw [← Int.pow_add]
      have : (2 ^ b.toNat : Nat) ≤ 2 ^ (e + e) := Nat.pow_le_pow_right (by omega) (by omega)
      exact_mod_cast this
    omega
  · exact hle
def LSq (n : Int) (H : AH) (x : Int) (fr : AFr) (H' : AH) : Prop :=
  fr 5 = .int .i64 n ∧ fr 6 = .int .i64 x ∧ 0 < x ∧ root n ≤ x ∧ x ≤ 16777216 ∧ H' = H
theorem fSqrt (a : Int) (ha : 0 ≤ a ∧ a ≤ 2147483648) (H : AH) : Sound E 220 [.int .i64 a] H (.ret (.tuple [.int .i64 (root (a * 65536)), .int .i64 (rootU (a * 65536)), .int .i64 0])) H := by
  refine sound_of_awp tabOk mixed Tryz.func220 rfl (by rfl) Tryz.ntmps220 (by kernel_rfl) (by simp) ?_
  have e16 : (2 : Int) ^ min 16 IntKind.i64.bits = 65536 := by decide
  have w1 : IntKind.i64.wrap (a * 65536) = a * 65536 := wrap64 (by omega) (by omega)
  have hlt : ¬ a < 0 := by omega
  simp [hlt, e16, w1]
  obtain ⟨n, hn⟩ : ∃ n, n = a * 65536 := ⟨_, rfl⟩
  rw [← hn]
  have hn0 : 0 ≤ n ∧ n ≤ 140737488355328 := by omega
  clear hn w1
  by_cases hz : n = 0
  · subst hz
    simp
    exact finK (rs := [.tmp 2, .tmp 3, .tmp 4]) (vs := [.int .i64 (root 0), .int .i64 (rootU 0), .int .i64 0]) (by rfl) (by simp [resA]; decide) rfl
  have hz' : (n == 0) = false := by simp [hz]
  have wu : IntKind.u64.wrap n = n := wrapu64 (by omega) (by omega)
  simp [hz', wu]
  refine call_ret (bLen64 n (by omega) _) ?_
  obtain ⟨b0, b1, b2⟩ := blen_spec (x := n) (by omega)
  generalize blen n = b at *
  have wb : IntKind.i64.wrap (b + 1) = b + 1 := wrap64 (by omega) (by omega)
  have wt : (b + 1).tdiv 2 = (b + 1) / 2 := Int.tdiv_eq_ediv_of_nonneg (by omega)
  have wq : IntKind.i64.wrap ((b + 1) / 2) = (b + 1) / 2 := wrap64 (by omega) (by omega)
  obtain ⟨e, he⟩ : ∃ e : Nat, (b + 1) / 2 = (e : Int) := ⟨((b + 1) / 2).toNat, by omega⟩
  have he2 : e ≤ 24 := by omega
  have hneg : ¬ ((e : Int) < 0) := by omega
  have hmin : min e IntKind.i64.bits = e := by simp [IntKind.bits]; omega
  have hp : (2 : Int) ^ e ≤ 16777216 ∧ 0 < (2 : Int) ^ e := by
    have h1 : (2 : Nat) ^ e ≤ 2 ^ 24 := Nat.pow_le_pow_right (by omega) he2
    have h2 : 0 < (2 : Nat) ^ e := Nat.pow_pos (by omega)
    have h3 : (((2 : Nat) ^ e : Nat) : Int) = 2 ^ e := by simp
    have h4 : (2 : Nat) ^ 24 = 16777216 := by decide
    rw [h4] at h1
    rw [← h3]
    omega
  have wp : IntKind.i64.wrap ((2 : Int) ^ e) = 2 ^ e := wrap64 (by omega) (by omega)
  have we : IntKind.i64.wrap (e : Int) = e := wrap64 (by omega) (by omega)
  simp [wb, wt, we, he, hneg, hmin, wp]
  have hr1 : 1 ≤ root n := by
    obtain ⟨r0, r1, r2⟩ := root_spec hn0.1
    rcases Int.lt_or_le 0 (root n) with h | h
    · omega
    · have : root n = 0 := by omega
      rw [this] at r2; omega
  refine loop_count (LSq n H) (fun x => x.toNat) (2 ^ e) ⟨by simp, by simp, hp.2, root_lt hn0.1 b0 b2 (by omega), hp.1, rfl⟩ ?_
  rintro x fr H' ⟨h5, h6, h7, h8, h9, rfl⟩
  obtain ⟨n1, n2, n3⟩ := newton_step h7 h8 hn0.1
  have hx0 : x ≠ 0 := by omega
  have hq : n.tdiv x = n / x := Int.tdiv_eq_ediv_of_nonneg (by omega)
  have hqb : n / x ≤ n := Int.ediv_le_self _ hn0.1
  have wn : IntKind.i64.wrap (n / x) = n / x := wrap64 (by omega) (by omega)
  have ws : IntKind.i64.wrap (x + n / x) = x + n / x := wrap64 (by omega) (by omega)
  have wt2 : (x + n / x).tdiv 2 = (x + n / x) / 2 := Int.tdiv_eq_ediv_of_nonneg (by omega)
  have wy : IntKind.i64.wrap ((x + n / x) / 2) = (x + n / x) / 2 := wrap64 (by omega) (by omega)
  simp [h5, h6]
  refine bind_ifn hx0 ?_
  simp [h5, h6, hq, wn, ws, wt2, wy]
  refine branch (fun hc => ?_) (fun hc => ?_)
  · simp at hc
    have hxr := n2 hc
    obtain ⟨r0, r1, r2⟩ := root_spec hn0.1
    have hxx : x * x ≤ n := by rw [hxr]; exact r1
    have hx1 : 0 ≤ x * x := Int.mul_nonneg (by omega) (by omega)
    have wx : IntKind.i64.wrap (x * x) = x * x := wrap64 (by omega) (by omega)
    have wx1 : IntKind.i64.wrap (x + 1) = x + 1 := wrap64 (by omega) (by omega)
    simp [h5, h6, wx]
    refine branch (fun hd => ?_) (fun hd => ?_)
    · simp at hd
      simp [h6, wx1]
      exact finK (rs := [.tmp 2, .tmp 3, .tmp 4]) (vs := [.int .i64 (root n), .int .i64 (rootU n), .int .i64 0]) (by rfl) (by
        have : rootU n = x + 1 := by unfold rootU; rw [← hxr, if_pos hd]
        simp [resA, this, ← hxr]) rfl
    · simp at hd
      simp [h6]
      exact finK (rs := [.tmp 2, .tmp 3, .tmp 4]) (vs := [.int .i64 (root n), .int .i64 (rootU n), .int .i64 0]) (by rfl) (by
        have : rootU n = x := by unfold rootU; rw [← hxr, if_neg (by omega)]
        simp [resA, this, ← hxr]) rfl
  · simp at hc
    simp
    exact ⟨(x + n / x) / 2, by show ((x + n / x) / 2).toNat < x.toNat; omega, by simp [h5], by simp, by omega, n1, by omega, rfl⟩
theorem iSqrt (p : I) (hp : vB p = true) (h0 : 0 ≤ p.2) (H : AH) : Sound E 208 [iv p] H (.ret (.tuple [iv (sqrt p), .bool true])) H := by
  refine sound_of_awp tabOk mixed Tryz.func208 rfl (by rfl) Tryz.ntmps208 (by kernel_rfl) (by simp) ?_
  simp
  refine call_ret (iIsEntire p _) ?_
  cases h1 : entB p with
  | true =>
    simp
    exact finC (rs := [.cell 2 54, .tmp 3]) (vs := [iv (sqrt p), .bool true]) (vs' := [iv (sqrt p), .bool true]) (by rfl) (by have e : sqrt p = p := (by simp only [sqrt, h1, if_true]); rw [e]; simp [resA]) (by simp; rfl) (by simp [noF, noFs]) rfl
  | false =>
  have hb := entB_false hp h1
  have hlt : ¬ p.2 < 0 := by omega
  have e : sqrt p = mk (root (max p.1 0 * 65536)) (rootU (p.2 * 65536)) := by simp only [sqrt, h1, hlt, if_false]; simp
  rw [e]
  simp [hlt, ite_max]
  refine call_ret (fSqrt (max p.1 0) (by omega) _) ?_
  simp
  refine call_ret (fSqrt p.2 (by omega) _) ?_
  simp
  refine call_ret (iNew _ _ _) ?_
  simp
  exact finC (rs := [.cell 2 54, .tmp 3]) (vs := [iv (mk (root (max p.1 0 * 65536)) (rootU (p.2 * 65536))), .bool true]) (vs' := [iv (mk (root (max p.1 0 * 65536)) (rootU (p.2 * 65536))), .bool true]) (by rfl) (by simp [resA]) (by simp; rfl) (by simp [noF, noFs]) rfl
end Go.Proofs.YtfjjckepnkkgjaaGreatDoor.Arm

namespace Go.Proofs.YtfjjckepnkkgjaaGreatDoor.Arm
open Go.Arm Go.Pl
theorem rNumber (x : Int) (H : AH) : Sound E 36 [.int .i64 x] H (.ret (.bool (numB x))) H := by
  refine sound_of_awp tabOk mixed Tryz.func36 rfl (by rfl) Tryz.ntmps36 (by kernel_rfl) (by simp) ?_
  by_cases h1 : -2147483648 < x
  · simp [h1]
    exact fin0 (rs := [.tmp 2]) (by rfl) (by simp [resA, numB, h1])
  · simp [h1]
    exact fin0 (rs := [.tmp 2]) (by rfl) (by simp [resA, numB, h1])
theorem rEntire (H : AH) : Sound E 72 [] H (.ret (iv ent)) H := by
  refine sound_of_awp tabOk mixed Tryz.func72 rfl (by rfl) Tryz.ntmps72 (by kernel_rfl) (by simp) ?_
  simp
  exact fin1 (rs := [.cell 0 54]) (by rfl) (by simp [resA, ent]) (by simp [noF, noFs])
theorem rNew (a b : Int) (H : AH) : Sound E 66 [.int .i64 a, .int .i64 b] H (.ret (iv (mk a b))) H := by
  refine sound_of_awp tabOk mixed Tryz.func66 rfl (by rfl) Tryz.ntmps66 (by kernel_rfl) (by simp) ?_
  simp
  refine call_ret (rNumber _ _) ?_
  cases h1 : numB a with
  | false =>
    simp
    refine call_ret (rEntire _) ?_
    simp
    exact fin1 (rs := [.cell 4 54]) (by rfl) (by simp [resA, mk, h1]) (by simp [noF, noFs])
  | true =>
  simp
  refine call_ret (rNumber _ _) ?_
  cases h2 : numB b with
  | false =>
    simp
    refine call_ret (rEntire _) ?_
    simp
    exact fin1 (rs := [.cell 4 54]) (by rfl) (by simp [resA, mk, h1, h2]) (by simp [noF, noFs])
  | true =>
  simp
  exact fin1 (rs := [.cell 4 54]) (by rfl) (by simp [resA, mk, h1, h2]) (by simp [noF, noFs])
theorem rPoint (x : Int) (H : AH) : Sound E 25 [.int .i64 x] H (.ret (iv (pt x))) H := by
  refine sound_of_awp tabOk mixed Tryz.func25 rfl (by rfl) Tryz.ntmps25 (by kernel_rfl) (by simp) ?_
  simp
  refine call_ret (rNew _ _ _) ?_
  simp
  exact fin1 (rs := [.cell 2 54]) (by rfl) (by simp [resA, pt]) (by simp [noF, noFs])
end Go.Proofs.YtfjjckepnkkgjaaGreatDoor.Arm

namespace Go.Proofs.YtfjjckepnkkgjaaGreatDoor.Arm
open Go.Arm Go.Pl
def nearI (p : I) (w : Int) : I := (p.1.tmod 1048576, p.1.tmod 1048576 + (p.2.tmod w + w).tmod w)
theorem nearI_bounds (p : I) {w : Int} (hw : 1 ≤ w) : -1048576 < (nearI p w).1 ∧ (nearI p w).1 ≤ (nearI p w).2 ∧ (nearI p w).2 < 1048576 + w ∧ (w = 1 → (nearI p w).1 = (nearI p w).2) := by
  obtain ⟨h1, h2⟩ := tmod_bounds p.1 (b := 1048576) (by omega)
  obtain ⟨h3, h4⟩ := tmod_bounds p.2 (b := w) (by omega)
  obtain ⟨h5, h6⟩ := tmod_bounds (p.2.tmod w + w) (b := w) (by omega)
  have h7 : 0 ≤ p.2.tmod w + w := by
    rcases Int.lt_or_le p.2 0 with h | h
    · have := h4 h; omega
    · have := h3 h; omega
  have := h5 h7
  unfold nearI
  simp only
  rcases Int.lt_or_le p.1 0 with h | h
  · have := h2 h; omega
  · have := h1 h; omega
theorem rNear (p : I) (w : Int) (hw : 1 ≤ w ∧ w ≤ 1000000) (H : AH) : Sound E 68 [iv p, .int .i64 w] H (.ret (iv (nearI p w))) H := by
  refine sound_of_awp tabOk mixed Tryz.func68 rfl (by rfl) Tryz.ntmps68 (by kernel_rfl) (by simp) ?_
  have hb := nearI_bounds p hw.1
  have hw0 : w ≠ 0 := by omega
  obtain ⟨h3, h4⟩ := tmod_bounds p.2 (b := w) (by omega)
  have h7 : 0 ≤ p.2.tmod w + w ∧ p.2.tmod w + w < 2 * w := by
    rcases Int.lt_or_le p.2 0 with h | h
    · have := h4 h; omega
    · have := h3 h; omega
  have w1 : IntKind.i64.wrap (p.2.tmod w + w) = p.2.tmod w + w := wrap64 (by omega) (by omega)
  have w2 : IntKind.i64.wrap (p.1.tmod 1048576 + (p.2.tmod w + w).tmod w) = p.1.tmod 1048576 + (p.2.tmod w + w).tmod w := wrap64 (by have := hb; simp only [nearI] at this; omega) (by have := hb; simp only [nearI] at this; omega)
  simp [hw0, w1]
  refine endD [] (by rfl) (by simp [okW, note, Eff.triv, Eff.wr, Eff.none, upTo, newAt]) ?_
  simp [w2]
  exact fin1 (rs := [.cell 4 54]) (by rfl) (by simp [resA, nearI]) (by simp [noF, noFs])
end Go.Proofs.YtfjjckepnkkgjaaGreatDoor.Arm

namespace Go.Proofs.YtfjjckepnkkgjaaGreatDoor.Arm
open Go.Arm Go.Pl
end Go.Proofs.YtfjjckepnkkgjaaGreatDoor.Arm

namespace Go.Proofs.YtfjjckepnkkgjaaGreatDoor.Arm
open Go.Arm Go.Pl
end Go.Proofs.YtfjjckepnkkgjaaGreatDoor.Arm

namespace Go.Pl
structure Nd where
  op : Int
  n : Int
  c : I
  deriving DecidableEq
inductive U where
  | neg | sqr | sqrt
  deriving DecidableEq
inductive B where
  | add | sub | mul | div
  deriving DecidableEq
def U.code : U → Int
  | .neg => 4
  | .sqr => 5
  | .sqrt => 6
def B.code : B → Int
  | .add => 7
  | .sub => 8
  | .mul => 9
  | .div => 10
inductive Ex where
  | num (c : I)
  | var (i : Nat)
  | time
  | un (o : U) (a : Ex)
  | bin (o : B) (a b : Ex)
  deriving DecidableEq
def leafN (op n : Int) : Nd := ⟨op, n, (0, 0)⟩
def ser : Ex → List Nd
  | .num c => [⟨1, 0, c⟩]
  | .var i => [leafN 2 i]
  | .time => [leafN 3 0]
  | .un o a => leafN o.code 0 :: ser a
  | .bin o a b => leafN o.code 0 :: (ser a ++ ser b)
def sz (e : Ex) : Nat := (ser e).length
def arity (op : Int) : Int := if 1 ≤ op ∧ op ≤ 3 then 0 else if 4 ≤ op ∧ op ≤ 6 then 1 else if 7 ≤ op ∧ op ≤ 10 then 2 else -1
def unV : U → I → I
  | .neg, v => neg v
  | .sqr, v => sq v
  | .sqrt, v => if v.1 < 0 then ent else sqrt v
def binV : B → I → I → I
  | .add => add
  | .sub => sub
  | .mul => mul
  | .div => div
def ev (x : List I) (t : I) : Ex → I
  | .num c => c
  | .var i => (x[i]?).getD (0, 0)
  | .time => t
  | .un o a => unV o (ev x t a)
  | .bin o a b => binV o (ev x t a) (ev x t b)
def wf (n : Nat) : Ex → Bool
  | .num c => vB c
  | .var i => decide (i < n)
  | .time => true
  | .un _ a => wf n a
  | .bin _ a b => wf n a && wf n b
theorem unV_valid {o : U} {v : I} (h : vB v = true) : vB (unV o v) = true := by
  cases o with
  | neg => exact neg_valid h
  | sqr => exact sq_valid h
  | sqrt =>
    simp only [unV]
    split
    · decide
    · exact sqrt_valid h
def number (n : Int) : Ex := .num (pt (n * 65536))
inductive Vr where
  | st (i : Int)
  | tm
  deriving DecidableEq
def isV : Vr → Ex → Bool
  | .st i, .var k => (k : Int) == i
  | .tm, .time => true
  | _, _ => false
def dif (v : Vr) : Ex → Ex
  | .un .neg a => .un .neg (dif v a)
  | .un .sqr a => .bin .mul (.bin .mul (number 2) a) (dif v a)
  | .un .sqrt a => .bin .div (dif v a) (.bin .mul (number 2) (.un .sqrt a))
  | .bin .add a b => .bin .add (dif v a) (dif v b)
  | .bin .sub a b => .bin .sub (dif v a) (dif v b)
  | .bin .mul a b => .bin .add (.bin .mul (dif v a) b) (.bin .mul a (dif v b))
  | .bin .div a b => .bin .div (.bin .sub (.bin .mul (dif v a) b) (.bin .mul a (dif v b))) (.un .sqr b)
  | e => if isV v e then number 1 else number 0
end Go.Pl

namespace Go.Pl
def low (x m : Int) : Int := x % (m + 1)
def nearI' (p : I) (w : Int) : I := (p.1.tmod 1048576, p.1.tmod 1048576 + (p.2.tmod w + w).tmod w)
theorem low_bounds (x : Int) {m : Int} (h : 0 ≤ m) : 0 ≤ low x m ∧ low x m ≤ m := by
  unfold low
  have h1 := Int.emod_nonneg x (b := m + 1) (by omega)
  have h2 := Int.emod_lt_of_pos x (b := m + 1) (by omega)
  omega
theorem near_valid (p : I) {w : Int} (hw : 1 ≤ w ∧ w ≤ 1000000) : vB (nearI' p w) = true := by
  have h1 : -1048576 < p.1.tmod 1048576 ∧ p.1.tmod 1048576 < 1048576 := by
    obtain ⟨h1, h2⟩ := tmod_bounds p.1 (b := 1048576) (by decide)
    by_cases h : 0 ≤ p.1
    · have := h1 h; omega
    · have := h2 (by omega); omega
  have h2 : 0 ≤ (p.2.tmod w + w).tmod w ∧ (p.2.tmod w + w).tmod w < w := by
    have h3 : -w < p.2.tmod w := by
      obtain ⟨h1, h2⟩ := tmod_bounds p.2 (b := w) (by omega)
      by_cases h : 0 ≤ p.2
      · have := h1 h; omega
      · have := h2 (by omega); omega
    exact ⟨Int.tmod_nonneg _ (by omega), Int.tmod_lt_of_pos _ (by omega)⟩
  unfold vB nearI'
  rw [Bool.or_eq_true, Bool.and_eq_true, Bool.and_eq_true, numB_iff, numB_iff, decide_eq_true_iff]
  right; dsimp only; omega
end Go.Pl

namespace Go.Pl
def InI (a : I) (r : Rat) : Prop := a = ent ∨ ((a.1 : Rat) ≤ r * 65536 ∧ r * 65536 ≤ (a.2 : Rat))
theorem in_mk {lo hi : Int} {r : Rat} (h1 : (lo : Rat) ≤ r * 65536) (h2 : r * 65536 ≤ (hi : Rat)) : InI (mk lo hi) r := by
  unfold mk
  split
  · exact .inr ⟨h1, h2⟩
  · exact .inl rfl
theorem not_ent2 {a b : I} (h : ¬ (entB a || entB b) = true) : a ≠ ent ∧ b ≠ ent := by
  simp only [Bool.or_eq_true, entB_iff, not_or] at h
  exact h
theorem in_add {a b : I} {x y : Rat} (ha : InI a x) (hb : InI b y) : InI (add a b) (x + y) := by
  unfold add
  split
  · exact .inl rfl
  · rename_i h
    obtain ⟨h1, h2⟩ := not_ent2 h
    obtain ⟨a1, a2⟩ := ha.resolve_left h1
    obtain ⟨b1, b2⟩ := hb.resolve_left h2
    refine in_mk ?_ ?_
    · rw [Rat.intCast_add]; grind
    · rw [Rat.intCast_add]; grind
theorem in_neg {a : I} {x : Rat} (ha : InI a x) : InI (neg a) (-x) := by
  rcases ha with rfl | ⟨h1, h2⟩
  · exact .inl rfl
  · refine .inr ⟨?_, ?_⟩
    · simp only [neg, Rat.intCast_neg]; grind
    · simp only [neg, Rat.intCast_neg]; grind
theorem in_sub {a b : I} {x y : Rat} (ha : InI a x) (hb : InI b y) : InI (sub a b) (x - y) := by
  rw [Rat.sub_eq_add_neg]; exact in_add ha (in_neg hb)
theorem rmulL {a b c : Rat} (h : 0 ≤ c) (k : a ≤ b) : c * a ≤ c * b := Rat.mul_le_mul_of_nonneg_left k h
theorem rmulL' {a b c : Rat} (h : c ≤ 0) (k : a ≤ b) : c * b ≤ c * a := by
  have := Rat.mul_le_mul_of_nonneg_left k (c := -c) (by grind)
  grind
theorem corner_hi {a1 a2 b1 b2 X Y : Rat} (h1 : a1 ≤ X) (h2 : X ≤ a2) (h3 : b1 ≤ Y) (h4 : Y ≤ b2) : X * Y ≤ a1 * b1 ∨ X * Y ≤ a1 * b2 ∨ X * Y ≤ a2 * b1 ∨ X * Y ≤ a2 * b2 := by
  rcases Rat.le_total (a := 0) (b := Y) with hy | hy
  · have e1 := rmulL hy h2
    rcases Rat.le_total (a := 0) (b := a2) with ha | ha
    · have e2 := rmulL ha h4
      right; right; right; grind
    · have e2 := rmulL' ha h3
      right; right; left; grind
  · have e1 := rmulL' hy h1
    rcases Rat.le_total (a := 0) (b := a1) with ha | ha
    · have e2 := rmulL ha h4
      right; left; grind
    · have e2 := rmulL' ha h3
      left; grind
theorem corner_lo {a1 a2 b1 b2 X Y : Rat} (h1 : a1 ≤ X) (h2 : X ≤ a2) (h3 : b1 ≤ Y) (h4 : Y ≤ b2) : a1 * b1 ≤ X * Y ∨ a1 * b2 ≤ X * Y ∨ a2 * b1 ≤ X * Y ∨ a2 * b2 ≤ X * Y := by
  have := corner_hi (a1 := -a2) (a2 := -a1) (X := -X) (Y := Y) (b1 := b1) (b2 := b2) (by grind) (by grind) h3 h4
  grind
theorem prod_in {a1 a2 b1 b2 : Int} {X Y : Rat} (h1 : (a1 : Rat) ≤ X) (h2 : X ≤ (a2 : Rat)) (h3 : (b1 : Rat) ≤ Y) (h4 : Y ≤ (b2 : Rat)) :
    ((min4 (a1 * b1) (a1 * b2) (a2 * b1) (a2 * b2) : Int) : Rat) ≤ X * Y ∧ X * Y ≤ ((max4 (a1 * b1) (a1 * b2) (a2 * b1) (a2 * b2) : Int) : Rat) := by
  have key1 : ∀ z : Int, min4 (a1 * b1) (a1 * b2) (a2 * b1) (a2 * b2) ≤ z → (z : Rat) ≤ X * Y → ((min4 (a1 * b1) (a1 * b2) (a2 * b1) (a2 * b2) : Int) : Rat) ≤ X * Y := fun z h k => Rat.le_trans (Rat.intCast_le_intCast.2 h) k
  have key2 : ∀ z : Int, z ≤ max4 (a1 * b1) (a1 * b2) (a2 * b1) (a2 * b2) → X * Y ≤ (z : Rat) → X * Y ≤ ((max4 (a1 * b1) (a1 * b2) (a2 * b1) (a2 * b2) : Int) : Rat) := fun z h k => Rat.le_trans k (Rat.intCast_le_intCast.2 h)
  constructor
  · rcases corner_lo h1 h2 h3 h4 with h | h | h | h
    · exact key1 (a1 * b1) (by simp only [min4]; omega) (by rw [Rat.intCast_mul]; exact h)
    · exact key1 (a1 * b2) (by simp only [min4]; omega) (by rw [Rat.intCast_mul]; exact h)
    · exact key1 (a2 * b1) (by simp only [min4]; omega) (by rw [Rat.intCast_mul]; exact h)
    · exact key1 (a2 * b2) (by simp only [min4]; omega) (by rw [Rat.intCast_mul]; exact h)
  · rcases corner_hi h1 h2 h3 h4 with h | h | h | h
    · exact key2 (a1 * b1) (by simp only [max4]; omega) (by rw [Rat.intCast_mul]; exact h)
    · exact key2 (a1 * b2) (by simp only [max4]; omega) (by rw [Rat.intCast_mul]; exact h)
    · exact key2 (a2 * b1) (by simp only [max4]; omega) (by rw [Rat.intCast_mul]; exact h)
    · exact key2 (a2 * b2) (by simp only [max4]; omega) (by rw [Rat.intCast_mul]; exact h)
theorem rdiv_le {x y b : Rat} (hb : 0 < b) (h : y * b ≤ x) : y ≤ x / b := Rat.not_lt.1 fun k => by
  have := (Rat.div_lt_iff hb).1 k
  exact absurd h (Rat.not_le.2 this)
theorem le_rdiv {x y b : Rat} (hb : 0 < b) (h : x ≤ y * b) : x / b ≤ y := Rat.not_lt.1 fun k => by
  have := (Rat.lt_div_iff hb).1 k
  exact absurd h (Rat.not_le.2 this)
theorem fl_pos_le {x b : Int} (hb : 0 < b) : ((x / b : Int) : Rat) * (b : Rat) ≤ (x : Rat) ∧ (x : Rat) < (((x / b : Int) : Rat) + 1) * (b : Rat) := by
  constructor
  · rw [← Rat.intCast_mul]; exact Rat.intCast_le_intCast.2 (Int.ediv_mul_le x (by omega))
  · have e : (((x / b : Int) : Rat) + 1) * (b : Rat) = (((x / b + 1) * b : Int) : Rat) := by rw [Rat.intCast_mul, Rat.intCast_add]; rfl
    rw [e]; exact Rat.intCast_lt_intCast.2 (Int.lt_ediv_add_one_mul_self x hb)
theorem rneg_div (x b : Rat) : (-x) / (-b) = x / b := by
  by_cases h : b = 0
  · subst h; grind
  · grind
theorem rneg_div' (x b : Rat) : (-x) / b = -(x / b) := by grind
theorem fl_le {x b : Int} (hb : b ≠ 0) : ((fl x b : Int) : Rat) ≤ (x : Rat) / (b : Rat) ∧ (x : Rat) / (b : Rat) < ((fl x b : Int) : Rat) + 1 := by
  have key : ∀ (y c : Int), 0 < c → ((y / c : Int) : Rat) ≤ (y : Rat) / (c : Rat) ∧ (y : Rat) / (c : Rat) < ((y / c : Int) : Rat) + 1 := fun y c hc => by
    obtain ⟨k1, k2⟩ := fl_pos_le (x := y) hc
    have hc' : (0 : Rat) < (c : Rat) := Rat.intCast_pos.2 hc
    exact ⟨rdiv_le hc' k1, (Rat.div_lt_iff hc').2 k2⟩
  unfold fl
  split
  · rename_i h
    have := key (-x) (-b) (by omega)
    rw [Rat.intCast_neg, Rat.intCast_neg, rneg_div] at this
    exact this
  · exact key x b (by omega)
theorem le_ce {x b : Int} (hb : b ≠ 0) : (x : Rat) / (b : Rat) ≤ ((ce x b : Int) : Rat) ∧ ((ce x b : Int) : Rat) - 1 < (x : Rat) / (b : Rat) := by
  obtain ⟨h1, h2⟩ := fl_le (x := -x) hb
  unfold ce
  rw [Rat.intCast_neg, rneg_div'] at h1 h2
  rw [Rat.intCast_neg]
  constructor <;> grind
theorem in_mul {a b : I} {x y : Rat} (ha : InI a x) (hb : InI b y) : InI (mul a b) (x * y) := by
  unfold mul
  split
  · exact .inl rfl
  · rename_i h
    obtain ⟨h1, h2⟩ := not_ent2 h
    obtain ⟨a1, a2⟩ := ha.resolve_left h1
    obtain ⟨b1, b2⟩ := hb.resolve_left h2
    obtain ⟨p1, p2⟩ := prod_in a1 a2 b1 b2
    generalize min4 _ _ _ _ = m at *
    generalize max4 _ _ _ _ = M at *
    obtain ⟨f1, _⟩ := fl_le (x := m) (b := 65536) (by decide)
    obtain ⟨f2, _⟩ := le_ce (x := M) (b := 65536) (by decide)
    have e : ((65536 : Int) : Rat) = 65536 := rfl
    rw [e] at f1 f2
    refine in_mk ?_ ?_
    · grind
    · grind
theorem sq_nonneg (x : Rat) : 0 ≤ x * x := by
  rcases Rat.le_total (a := 0) (b := x) with h | h
  · exact Rat.mul_nonneg h h
  · have := Rat.mul_nonneg (a := -x) (b := -x) (by grind) (by grind)
    grind
theorem in_sq {a : I} {x : Rat} (ha : InI a x) : InI (sq a) (x * x) := by
  unfold sq
  split
  · exact .inl rfl
  · rename_i h
    have h1 : a ≠ ent := fun k => h (entB_iff.2 k)
    obtain ⟨a1, a2⟩ := ha.resolve_left h1
    have p : (((if a.1 ≤ 0 ∧ 0 ≤ a.2 then 0 else min (a.1 * a.1) (a.2 * a.2) : Int)) : Rat) ≤ (x * 65536) * (x * 65536) := by
      split
      · exact sq_nonneg _
      · rename_i hn
        rcases Int.lt_or_le 0 a.1 with hp | hp
        · have hp' : (0 : Rat) ≤ (a.1 : Rat) := Rat.intCast_nonneg.2 (by omega)
          have k1 := rmulL hp' a1
          have k2 := rmulL (Rat.le_trans hp' a1) a1
          refine Rat.le_trans (b := ((a.1 * a.1 : Int) : Rat)) (Rat.intCast_le_intCast.2 (by omega)) ?_
          rw [Rat.intCast_mul]; grind
        · have hp' : (a.2 : Rat) ≤ 0 := Rat.intCast_nonpos.2 (by omega)
          have k1 := rmulL' hp' a2
          have k2 := rmulL' (Rat.le_trans a2 hp') a2
          refine Rat.le_trans (b := ((a.2 * a.2 : Int) : Rat)) (Rat.intCast_le_intCast.2 (by omega)) ?_
          rw [Rat.intCast_mul]; grind
    have q : (x * 65536) * (x * 65536) ≤ ((max (a.1 * a.1) (a.2 * a.2) : Int) : Rat) := by
      have m1 : ((a.1 * a.1 : Int) : Rat) ≤ ((max (a.1 * a.1) (a.2 * a.2) : Int) : Rat) := Rat.intCast_le_intCast.2 (by omega)
      have m2 : ((a.2 * a.2 : Int) : Rat) ≤ ((max (a.1 * a.1) (a.2 * a.2) : Int) : Rat) := Rat.intCast_le_intCast.2 (by omega)
      rw [Rat.intCast_mul] at m1 m2
      rcases Rat.le_total (a := 0) (b := x * 65536) with hx | hx
      · have k1 := rmulL hx a2
        have k2 := rmulL (Rat.le_trans hx a2) a2
        grind
      · have k1 := rmulL' hx a1
        have k2 := rmulL' (Rat.le_trans a1 hx) a1
        grind
    generalize (if a.1 ≤ 0 ∧ 0 ≤ a.2 then 0 else min (a.1 * a.1) (a.2 * a.2) : Int) = m at *
    generalize (max (a.1 * a.1) (a.2 * a.2) : Int) = M at *
    obtain ⟨f1, _⟩ := fl_le (x := m) (b := 65536) (by decide)
    obtain ⟨f2, _⟩ := le_ce (x := M) (b := 65536) (by decide)
    have e : ((65536 : Int) : Rat) = 65536 := rfl
    rw [e] at f1 f2
    exact in_mk (by grind) (by grind)
theorem rinv_anti {b y : Rat} (hb : 0 < b) (h : b ≤ y) : y⁻¹ ≤ b⁻¹ := by
  have hy : 0 < y := by grind
  have e1 := Rat.inv_mul_cancel y (by grind)
  have e2 := Rat.inv_mul_cancel b (by grind)
  have p1 := Rat.inv_pos.2 hy
  have p2 := Rat.inv_pos.2 hb
  have k1 := rmulL (Rat.le_of_lt (Rat.mul_pos p1 p2)) h
  rw [Rat.mul_assoc, e2, Rat.mul_one, Rat.mul_comm y⁻¹, Rat.mul_assoc, e1, Rat.mul_one] at k1
  exact k1
theorem rinv_neg (y : Rat) : (-y)⁻¹ = -(y⁻¹) := by grind
theorem rinv_in {b1 b2 Y : Rat} (h1 : b1 ≤ Y) (h2 : Y ≤ b2) (h : 0 < b1 ∨ b2 < 0) : b2⁻¹ ≤ Y⁻¹ ∧ Y⁻¹ ≤ b1⁻¹ := by
  rcases h with h | h
  · exact ⟨rinv_anti (by grind) h2, rinv_anti h h1⟩
  · have k1 := rinv_anti (b := -b2) (y := -Y) (by grind) (by grind)
    have k2 := rinv_anti (b := -Y) (y := -b1) (by grind) (by grind)
    rw [rinv_neg, rinv_neg] at k1 k2
    constructor <;> grind
theorem quot_in {a1 a2 b1 b2 : Int} {X Y : Rat} (h1 : (a1 : Rat) ≤ X) (h2 : X ≤ (a2 : Rat)) (h3 : (b1 : Rat) ≤ Y) (h4 : Y ≤ (b2 : Rat)) (h : 0 < b1 ∨ b2 < 0) :
    ((min4 (fl (a1 * 65536) b1) (fl (a1 * 65536) b2) (fl (a2 * 65536) b1) (fl (a2 * 65536) b2) : Int) : Rat) ≤ X * 65536 / Y ∧ X * 65536 / Y ≤ ((max4 (ce (a1 * 65536) b1) (ce (a1 * 65536) b2) (ce (a2 * 65536) b1) (ce (a2 * 65536) b2) : Int) : Rat) := by
  have hb : b1 ≤ b2 := Rat.intCast_le_intCast.1 (Rat.le_trans h3 h4)
  have hh : 0 < (b1 : Rat) ∨ (b2 : Rat) < 0 := by
    rcases h with h | h
    · exact .inl (Rat.intCast_pos.2 h)
    · exact .inr (by have := Rat.intCast_lt_intCast.2 h; exact this)
  obtain ⟨i1, i2⟩ := rinv_in h3 h4 hh
  have n1 : b1 ≠ 0 := by omega
  have n2 : b2 ≠ 0 := by omega
  have e : X * 65536 / Y = (X * 65536) * Y⁻¹ := Rat.div_def _ _
  have x1 : ((a1 * 65536 : Int) : Rat) ≤ X * 65536 := by rw [Rat.intCast_mul]; have e : ((65536 : Int) : Rat) = 65536 := rfl; rw [e]; grind
  have x2 : X * 65536 ≤ ((a2 * 65536 : Int) : Rat) := by rw [Rat.intCast_mul]; have e : ((65536 : Int) : Rat) = 65536 := rfl; rw [e]; grind
  have l1 := (fl_le (x := a1 * 65536) n1).1
  have l2 := (fl_le (x := a1 * 65536) n2).1
  have l3 := (fl_le (x := a2 * 65536) n1).1
  have l4 := (fl_le (x := a2 * 65536) n2).1
  have u1 := (le_ce (x := a1 * 65536) n1).1
  have u2 := (le_ce (x := a1 * 65536) n2).1
  have u3 := (le_ce (x := a2 * 65536) n1).1
  have u4 := (le_ce (x := a2 * 65536) n2).1
  rw [Rat.div_def] at l1 l2 l3 l4 u1 u2 u3 u4
  rw [e]
  have key1 : ∀ z : Int, min4 (fl (a1 * 65536) b1) (fl (a1 * 65536) b2) (fl (a2 * 65536) b1) (fl (a2 * 65536) b2) ≤ z → (z : Rat) ≤ X * 65536 * Y⁻¹ → ((min4 (fl (a1 * 65536) b1) (fl (a1 * 65536) b2) (fl (a2 * 65536) b1) (fl (a2 * 65536) b2) : Int) : Rat) ≤ X * 65536 * Y⁻¹ := fun z h k => Rat.le_trans (Rat.intCast_le_intCast.2 h) k
  have key2 : ∀ z : Int, z ≤ max4 (ce (a1 * 65536) b1) (ce (a1 * 65536) b2) (ce (a2 * 65536) b1) (ce (a2 * 65536) b2) → X * 65536 * Y⁻¹ ≤ (z : Rat) → X * 65536 * Y⁻¹ ≤ ((max4 (ce (a1 * 65536) b1) (ce (a1 * 65536) b2) (ce (a2 * 65536) b1) (ce (a2 * 65536) b2) : Int) : Rat) := fun z h k => Rat.le_trans k (Rat.intCast_le_intCast.2 h)
  constructor
  · rcases corner_lo x1 x2 i1 i2 with k | k | k | k
    · exact key1 _ (by simp only [min4]; omega) (Rat.le_trans l2 k)
    · exact key1 _ (by simp only [min4]; omega) (Rat.le_trans l1 k)
    · exact key1 _ (by simp only [min4]; omega) (Rat.le_trans l4 k)
    · exact key1 _ (by simp only [min4]; omega) (Rat.le_trans l3 k)
  · rcases corner_hi x1 x2 i1 i2 with k | k | k | k
    · exact key2 _ (by simp only [max4]; omega) (Rat.le_trans k u2)
    · exact key2 _ (by simp only [max4]; omega) (Rat.le_trans k u1)
    · exact key2 _ (by simp only [max4]; omega) (Rat.le_trans k u4)
    · exact key2 _ (by simp only [max4]; omega) (Rat.le_trans k u3)
def defn (b : I) : Prop := b ≠ ent ∧ (0 < b.1 ∨ b.2 < 0)
theorem div_undef {a b : I} (h : ¬ defn b) : div a b = ent := by
  unfold div
  rw [if_pos]
  by_cases hb : b = ent
  · simp [entB_iff.2 hb]
  · have : ¬ (0 < b.1 ∨ b.2 < 0) := fun k => h ⟨hb, k⟩
    have h1 : b.1 ≤ 0 ∧ 0 ≤ b.2 := by omega
    simp [h1.1, h1.2]
theorem in_div {a b : I} {x y : Rat} (ha : InI a x) (hb : defn b → InI b y) : InI (div a b) (x / y) := by
  by_cases hd : defn b
  · have hb := hb hd
    unfold div
    split
    · exact .inl rfl
    · rename_i h
      simp only [Bool.or_eq_true, entB_iff, not_or] at h
      obtain ⟨a1, a2⟩ := ha.resolve_left h.1.1
      obtain ⟨b1, b2⟩ := hb.resolve_left h.1.2
      obtain ⟨p1, p2⟩ := quot_in a1 a2 b1 b2 hd.2
      have e : x * 65536 * 65536 / (y * 65536) = x / y * 65536 := by
        have hy : y ≠ 0 := by
          rintro rfl
          have z1 : ((b.1 : Int) : Rat) ≤ 0 := by grind
          have z2 : 0 ≤ ((b.2 : Int) : Rat) := by grind
          have := Rat.intCast_nonpos.1 z1
          have := Rat.intCast_nonneg.1 z2
          have := hd.2
          omega
        grind
      rw [e] at p1 p2
      exact in_mk p1 p2
  · rw [div_undef hd]; exact .inl rfl
end Go.Pl

namespace Go.Pl
theorem root_mono_lt {n r : Int} (hn : 0 ≤ n) (hr : 0 ≤ r) (h : r * r ≤ n) : r ≤ root n := by
  obtain ⟨g0, g1, g2⟩ := root_spec hn
  rcases Int.lt_or_le (root n) r with k | k
  · have : (root n + 1) * (root n + 1) ≤ r * r := Int.mul_le_mul (by omega) (by omega) (by omega) hr
    omega
  · exact k
theorem rootU_spec {n : Int} (hn : 0 ≤ n) : 0 ≤ rootU n ∧ n ≤ rootU n * rootU n := by
  obtain ⟨g0, g1, g2⟩ := root_spec hn
  unfold rootU
  split
  · exact ⟨by omega, by omega⟩
  · exact ⟨g0, by omega⟩
def grid (k : Nat) : Int := 65536 * (k + 1)
theorem grid_pos (k : Nat) : 0 < grid k := by unfold grid; omega
theorem grid_posR (k : Nat) : (0 : Rat) < (grid k : Rat) := Rat.intCast_pos.2 (grid_pos k)
def rt (k : Nat) (x : Rat) : Rat := (root ((x * (grid k : Rat) * (grid k : Rat)).floor) : Rat) / (grid k : Rat)
theorem rsq_le {a b : Rat} (ha : 0 ≤ a) (hb : 0 ≤ b) (h : a * a ≤ b * b) : a ≤ b := Rat.not_lt.1 fun k => by
  have h1 := Rat.mul_lt_mul_of_pos_left (c := a) k (by grind)
  have h2 := rmulL hb (Rat.le_of_lt k)
  grind
theorem rt_spec (k : Nat) {x : Rat} (hx : 0 ≤ x) : 0 ≤ rt k x ∧ rt k x * rt k x ≤ x ∧ x < (rt k x + 1 / (grid k : Rat)) * (rt k x + 1 / (grid k : Rat)) := by
  have hN := grid_posR k
  have hfx : 0 ≤ (x * (grid k : Rat) * (grid k : Rat)) := Rat.mul_nonneg (Rat.mul_nonneg hx (Rat.le_of_lt hN)) (Rat.le_of_lt hN)
  have hf : 0 ≤ (x * (grid k : Rat) * (grid k : Rat)).floor := Rat.le_floor_iff.2 hfx
  have f1 := Rat.floor_le (x * (grid k : Rat) * (grid k : Rat))
  have f2 := Rat.lt_floor_add_one (x * (grid k : Rat) * (grid k : Rat))
  obtain ⟨g0, g1, g2⟩ := root_spec hf
  unfold rt
  generalize (x * (grid k : Rat) * (grid k : Rat)).floor = n at *
  generalize root n = r at *
  generalize (grid k : Rat) = N at *
  have r0 : (0 : Rat) ≤ (r : Rat) := Rat.intCast_nonneg.2 g0
  have r1 : (r : Rat) * (r : Rat) ≤ (n : Rat) := by rw [← Rat.intCast_mul]; exact Rat.intCast_le_intCast.2 g1
  have r2 : ((n + 1 : Int) : Rat) ≤ ((r : Rat) + 1) * ((r : Rat) + 1) := by
    have : ((n + 1 : Int) : Rat) ≤ (((r + 1) * (r + 1) : Int) : Rat) := Rat.intCast_le_intCast.2 (by omega)
    rw [Rat.intCast_mul, Rat.intCast_add r 1] at this; exact this
  refine ⟨rdiv_le hN (by grind), ?_, ?_⟩
  · have e : (r : Rat) / N * ((r : Rat) / N) = (r : Rat) * (r : Rat) / (N * N) := by grind
    rw [e]
    exact le_rdiv (Rat.mul_pos hN hN) (by grind)
  · have e : ((r : Rat) / N + 1 / N) * ((r : Rat) / N + 1 / N) = ((r : Rat) + 1) * ((r : Rat) + 1) / (N * N) := by grind
    rw [e]
    exact (Rat.lt_div_iff (Rat.mul_pos hN hN)).2 (by grind)
theorem rt_ge (k : Nat) {x : Rat} (hx : 0 ≤ x) {L : Int} (hL : 0 ≤ L) (h : (L : Rat) * (L : Rat) ≤ x * 65536 * 65536) : (L : Rat) ≤ rt k x * 65536 := by
  have hN := grid_posR k
  have hfx : 0 ≤ (x * (grid k : Rat) * (grid k : Rat)) := Rat.mul_nonneg (Rat.mul_nonneg hx (Rat.le_of_lt hN)) (Rat.le_of_lt hN)
  have hf : 0 ≤ (x * (grid k : Rat) * (grid k : Rat)).floor := Rat.le_floor_iff.2 hfx
  have eg : (grid k : Rat) = 65536 * ((k + 1 : Nat) : Rat) := by
    unfold grid
    rw [Rat.intCast_mul]; rfl
  have hk : (0 : Rat) < ((k + 1 : Nat) : Rat) := Rat.natCast_pos.2 (by omega)
  have h1 : L * (k + 1 : Nat) ≤ root ((x * (grid k : Rat) * (grid k : Rat)).floor) := by
    refine root_mono_lt hf (Int.mul_nonneg hL (by omega)) (Rat.le_floor_iff.2 ?_)
    rw [Rat.intCast_mul, Rat.intCast_mul, Rat.intCast_natCast, eg]
    generalize ((k + 1 : Nat) : Rat) = K at *
    have := rmulL (Rat.le_of_lt (Rat.mul_pos hk hk)) h
    grind
  have h2 := Rat.intCast_le_intCast.2 h1
  rw [Rat.intCast_mul, Rat.intCast_natCast] at h2
  unfold rt
  generalize (root ((x * (grid k : Rat) * (grid k : Rat)).floor) : Rat) = R at *
  rw [eg]
  generalize ((k + 1 : Nat) : Rat) = K at *
  have e : R / (65536 * K) * 65536 = R / K := by grind
  rw [e]
  exact rdiv_le hk h2
theorem rt_le (k : Nat) {x : Rat} (hx : 0 ≤ x) {U : Int} (hU : 0 ≤ U) (h : x * 65536 * 65536 ≤ (U : Rat) * (U : Rat)) : rt k x * 65536 ≤ (U : Rat) := by
  obtain ⟨g0, g1, _⟩ := rt_spec k hx
  refine rsq_le (by grind) (Rat.intCast_nonneg.2 hU) ?_
  grind
theorem in_rt (k : Nat) {a : I} {x : Rat} (ha : InI a x) : InI (unV .sqrt a) (rt k x) := by
  simp only [unV]
  split
  · exact .inl rfl
  · rename_i h0
    unfold sqrt
    have hne : a ≠ ent := by rintro rfl; exact h0 (by decide)
    obtain ⟨a1, a2⟩ := ha.resolve_left hne
    have hx : 0 ≤ x := by
      have : (0 : Rat) ≤ (a.1 : Rat) := Rat.intCast_nonneg.2 (by omega)
      grind
    have h2 : 0 ≤ a.2 := by
      have : (0 : Rat) ≤ (a.2 : Rat) := by grind
      exact Rat.intCast_nonneg.1 this
    rw [if_neg (by rw [entB_iff]; exact hne), if_neg (by omega)]
    have hm : max a.1 0 = a.1 := by omega
    rw [hm]
    have e : ((65536 : Int) : Rat) = 65536 := rfl
    refine in_mk ?_ ?_
    · obtain ⟨g0, g1, _⟩ := root_spec (n := a.1 * 65536) (by omega)
      refine rt_ge k hx g0 ?_
      have := Rat.intCast_le_intCast.2 g1
      rw [Rat.intCast_mul, Rat.intCast_mul, e] at this
      grind
    · obtain ⟨g0, g1⟩ := rootU_spec (n := a.2 * 65536) (by omega)
      refine rt_le k hx g0 ?_
      have := Rat.intCast_le_intCast.2 g1
      rw [Rat.intCast_mul, Rat.intCast_mul, e] at this
      grind
end Go.Pl

namespace Go.Pl
def Sb (a b : I) : Prop := b.1 ≤ a.1 ∧ a.2 ≤ b.2
theorem Sb.refl (a : I) : Sb a a := ⟨Int.le_refl _, Int.le_refl _⟩
theorem Sb.trans {a b c : I} (h : Sb a b) (k : Sb b c) : Sb a c := ⟨Int.le_trans k.1 h.1, Int.le_trans h.2 k.2⟩
theorem Sb.to {a b : I} (h : Sb a b) : subB a b = true := by simp [subB, h.1, h.2]
theorem Sb.ent {a : I} (h : vB a = true) : Sb a ent := by
  have := vB_bounds h
  exact ⟨this.1, this.2.2⟩
theorem Sb.bounded {a b : I} (h : Sb a b) (hb : vB b = true) (hne : b ≠ Pl.ent) : a ≠ Pl.ent := by
  rintro rfl
  have h1 := entB_false hb (by rw [Bool.eq_false_iff, Ne, entB_iff]; exact hne)
  have h2 := h.1
  simp only [Pl.ent] at h2
  omega
theorem vB_mk {lo hi : Int} (h : lo ≤ hi) : vB (mk lo hi) = true := mk_valid h
theorem mk_mono {lo hi lo' hi' : Int} (h1 : lo' ≤ lo) (h : lo ≤ hi) (h2 : hi ≤ hi') : Sb (mk lo hi) (mk lo' hi') := by
  by_cases hb : (numB lo' && numB hi') = true
  · have e : mk lo' hi' = (lo', hi') := by unfold mk; rw [if_pos hb]
    rw [Bool.and_eq_true, numB_iff, numB_iff] at hb
    have e2 : mk lo hi = (lo, hi) := by unfold mk; rw [if_pos (by rw [Bool.and_eq_true, numB_iff, numB_iff]; omega)]
    rw [e, e2]; exact ⟨h1, h2⟩
  · have e : mk lo' hi' = ent := by unfold mk; rw [if_neg hb]
    rw [e]; exact Sb.ent (vB_mk h)
section
variable {a b a' b' : I}
theorem ent2 (h : ¬ (entB a' || entB b') = true) (ha' : vB a' = true) (hb' : vB b' = true) (ha : Sb a a') (hb : Sb b b') : ¬ (entB a || entB b) = true := by
  obtain ⟨h1, h2⟩ := not_ent2 h
  have := ha.bounded ha' h1
  have := hb.bounded hb' h2
  simp [entB_iff, *]
theorem neg_mono (h : Sb a a') : Sb (neg a) (neg a') := ⟨by simp only [neg]; have := h.2; omega, by simp only [neg]; have := h.1; omega⟩
theorem add_mono (va : vB a = true) (vb : vB b = true) (va' : vB a' = true) (vb' : vB b' = true) (ha : Sb a a') (hb : Sb b b') : Sb (add a b) (add a' b') := by
  by_cases h : (entB a' || entB b') = true
  · have e : add a' b' = ent := by unfold add; rw [if_pos h]
    rw [e]; exact Sb.ent (add_valid va vb)
  · have h' := ent2 h va' vb' ha hb
    have e : add a' b' = mk (a'.1 + b'.1) (a'.2 + b'.2) := by unfold add; rw [if_neg h]
    have e2 : add a b = mk (a.1 + b.1) (a.2 + b.2) := by unfold add; rw [if_neg h']
    have h1 := vB_bounds va
    have h2 := vB_bounds vb
    have h3 := ha.1; have h4 := ha.2; have h5 := hb.1; have h6 := hb.2
    rw [e, e2]; exact mk_mono (by omega) (by omega) (by omega)
theorem sub_mono (va : vB a = true) (vb : vB b = true) (va' : vB a' = true) (vb' : vB b' = true) (ha : Sb a a') (hb : Sb b b') : Sb (sub a b) (sub a' b') := add_mono va (neg_valid vb) va' (neg_valid vb') ha (neg_mono hb)
theorem ic {x y : Int} : (x : Rat) ≤ (y : Rat) ↔ x ≤ y := Rat.intCast_le_intCast
theorem corner_in (ha : Sb a a') (hb : Sb b b') {x y : Int} (hx : x = a.1 ∨ x = a.2) (hy : y = b.1 ∨ y = b.2) (la : a.1 ≤ a.2) (lb : b.1 ≤ b.2) :
    min4 (a'.1 * b'.1) (a'.1 * b'.2) (a'.2 * b'.1) (a'.2 * b'.2) ≤ x * y ∧ x * y ≤ max4 (a'.1 * b'.1) (a'.1 * b'.2) (a'.2 * b'.1) (a'.2 * b'.2) := by
  have h3 := ha.1; have h4 := ha.2; have h5 := hb.1; have h6 := hb.2
  have := prod_in (a1 := a'.1) (a2 := a'.2) (b1 := b'.1) (b2 := b'.2) (X := (x : Rat)) (Y := (y : Rat)) (ic.2 (by omega)) (ic.2 (by omega)) (ic.2 (by omega)) (ic.2 (by omega))
  rw [← Rat.intCast_mul, ic, ic] at this
  exact this
theorem ce_mono {x y b : Int} (hb : 0 < b) (h : x ≤ y) : ce x b ≤ ce y b := (ce_edges x y b b).1 hb h
theorem fl_mono {x y b : Int} (hb : 0 < b) (h : x ≤ y) : fl x b ≤ fl y b := (fl_edges x y b b).1 hb h
theorem fl_le_ce' {x b : Int} (hb : b ≠ 0) : fl x b ≤ ce x b := by
  have h1 := (fl_le (x := x) hb).1
  have h2 := (le_ce (x := x) hb).1
  exact ic.1 (Rat.le_trans h1 h2)
theorem sqle {x y : Int} (h1 : -y ≤ x) (h2 : x ≤ y) : x * x ≤ y * y := by
  have := Int.mul_nonneg (show 0 ≤ y - x by omega) (show 0 ≤ y + x by omega)
  grind
theorem sqle' {x y : Int} (h1 : y ≤ x) (h2 : x ≤ -y) : x * x ≤ y * y := by
  have := sqle (x := x) (y := -y) (by omega) h2
  rwa [Int.neg_mul_neg] at this
theorem sqnn (x : Int) : 0 ≤ x * x := by
  by_cases h : 0 ≤ x
  · exact Int.mul_nonneg h h
  · have := Int.mul_nonneg (show 0 ≤ -x by omega) (show 0 ≤ -x by omega)
    rwa [Int.neg_mul_neg] at this
theorem mul_mono (va : vB a = true) (vb : vB b = true) (va' : vB a' = true) (vb' : vB b' = true) (ha : Sb a a') (hb : Sb b b') : Sb (mul a b) (mul a' b') := by
  by_cases h : (entB a' || entB b') = true
  · have e : mul a' b' = ent := by unfold mul; rw [if_pos h]
    rw [e]; exact Sb.ent mul_valid
  · have h' := ent2 h va' vb' ha hb
    have h1 := vB_bounds va
    have h2 := vB_bounds vb
    have c1 := corner_in ha hb (x := a.1) (y := b.1) (.inl rfl) (.inl rfl) h1.2.1 h2.2.1
    have c2 := corner_in ha hb (x := a.1) (y := b.2) (.inl rfl) (.inr rfl) h1.2.1 h2.2.1
    have c3 := corner_in ha hb (x := a.2) (y := b.1) (.inr rfl) (.inl rfl) h1.2.1 h2.2.1
    have c4 := corner_in ha hb (x := a.2) (y := b.2) (.inr rfl) (.inr rfl) h1.2.1 h2.2.1
    unfold mul
    rw [if_neg h, if_neg h']
    generalize min4 (a'.1 * b'.1) (a'.1 * b'.2) (a'.2 * b'.1) (a'.2 * b'.2) = m at *
    generalize max4 (a'.1 * b'.1) (a'.1 * b'.2) (a'.2 * b'.1) (a'.2 * b'.2) = M at *
    have d1 : m ≤ min4 (a.1 * b.1) (a.1 * b.2) (a.2 * b.1) (a.2 * b.2) := by simp only [min4]; omega
    have d2 : max4 (a.1 * b.1) (a.1 * b.2) (a.2 * b.1) (a.2 * b.2) ≤ M := by simp only [max4]; omega
    have d3 : min4 (a.1 * b.1) (a.1 * b.2) (a.2 * b.1) (a.2 * b.2) ≤ max4 (a.1 * b.1) (a.1 * b.2) (a.2 * b.1) (a.2 * b.2) := by simp only [min4, max4]; omega
    exact mk_mono (fl_mono (by decide) d1) (Int.le_trans (fl_mono (by decide) d3) (fl_le_ce' (by decide))) (ce_mono (by decide) d2)
theorem sq_mono (va : vB a = true) (va' : vB a' = true) (ha : Sb a a') : Sb (sq a) (sq a') := by
  by_cases h : entB a' = true
  · have e : sq a' = ent := by unfold sq; rw [if_pos h]
    rw [e]; exact Sb.ent (sq_valid va)
  · have h' : ¬ entB a = true := by rw [entB_iff]; exact ha.bounded va' (fun k => h (entB_iff.2 k))
    have h1 := vB_bounds va
    have h3 := ha.1; have h4 := ha.2
    unfold sq
    rw [if_neg h, if_neg h']
    have s1 := sqnn a.1
    have s2 := sqnn a.2
    have m1 : a.1 * a.1 ≤ max (a'.1 * a'.1) (a'.2 * a'.2) := by
      by_cases q : 0 ≤ a.1
      · have := sqle (x := a.1) (y := a'.2) (by omega) (by omega)
        omega
      · have := sqle' (x := a.1) (y := a'.1) (by omega) (by omega)
        omega
    have m2 : a.2 * a.2 ≤ max (a'.1 * a'.1) (a'.2 * a'.2) := by
      by_cases q : 0 ≤ a.2
      · have := sqle (x := a.2) (y := a'.2) (by omega) (by omega)
        omega
      · have := sqle' (x := a.2) (y := a'.1) (by omega) (by omega)
        omega
    have n1 : (if a'.1 ≤ 0 ∧ 0 ≤ a'.2 then 0 else min (a'.1 * a'.1) (a'.2 * a'.2)) ≤ (if a.1 ≤ 0 ∧ 0 ≤ a.2 then 0 else min (a.1 * a.1) (a.2 * a.2)) := by
      by_cases hz : a'.1 ≤ 0 ∧ 0 ≤ a'.2
      · rw [if_pos hz]; split <;> omega
      · rw [if_neg hz, if_neg (by omega)]
        by_cases k : 0 < a'.1
        · have e1 := sqle (x := a'.1) (y := a.1) (by omega) (by omega)
          have e2 := sqle (x := a'.1) (y := a.2) (by omega) (by omega)
          omega
        · have e1 := sqle' (x := a'.2) (y := a.1) (by omega) (by omega)
          have e2 := sqle' (x := a'.2) (y := a.2) (by omega) (by omega)
          omega
    have n2 : (if a.1 ≤ 0 ∧ 0 ≤ a.2 then 0 else min (a.1 * a.1) (a.2 * a.2)) ≤ max (a.1 * a.1) (a.2 * a.2) := by split <;> omega
    generalize (if a'.1 ≤ 0 ∧ 0 ≤ a'.2 then 0 else min (a'.1 * a'.1) (a'.2 * a'.2)) = m at *
    generalize (if a.1 ≤ 0 ∧ 0 ≤ a.2 then 0 else min (a.1 * a.1) (a.2 * a.2)) = m' at *
    exact mk_mono (fl_mono (by decide) n1) (Int.le_trans (fl_mono (by decide) n2) (fl_le_ce' (by decide))) (ce_mono (by decide) (by omega))
theorem defn_mono (vb' : vB b' = true) (hb : Sb b b') (h : defn b') (lb : b.1 ≤ b.2) : defn b := by
  have h3 := hb.1; have h4 := hb.2
  refine ⟨hb.bounded vb' h.1, ?_⟩
  rcases h.2 with h | h <;> omega
theorem qcorner_in (ha : Sb a a') (hb : Sb b b') (hd : defn b') {x y : Int} (hx : x = a.1 ∨ x = a.2) (hy : y = b.1 ∨ y = b.2) (la : a.1 ≤ a.2) (lb : b.1 ≤ b.2) :
    min4 (fl (a'.1 * 65536) b'.1) (fl (a'.1 * 65536) b'.2) (fl (a'.2 * 65536) b'.1) (fl (a'.2 * 65536) b'.2) ≤ fl (x * 65536) y ∧ ce (x * 65536) y ≤ max4 (ce (a'.1 * 65536) b'.1) (ce (a'.1 * 65536) b'.2) (ce (a'.2 * 65536) b'.1) (ce (a'.2 * 65536) b'.2) := by
  have h3 := ha.1; have h4 := ha.2; have h5 := hb.1; have h6 := hb.2
  have hy0 : y ≠ 0 := by rcases hd.2 with h | h <;> omega
  obtain ⟨k1, k2⟩ := quot_in (a1 := a'.1) (a2 := a'.2) (b1 := b'.1) (b2 := b'.2) (X := (x : Rat)) (Y := (y : Rat)) (ic.2 (by omega)) (ic.2 (by omega)) (ic.2 (by omega)) (ic.2 (by omega)) hd.2
  have e : (x : Rat) * 65536 = ((x * 65536 : Int) : Rat) := by rw [Rat.intCast_mul]; rfl
  rw [e] at k1 k2
  have f1 := (fl_le (x := x * 65536) hy0).2
  have f2 := (le_ce (x := x * 65536) hy0).2
  generalize ((x * 65536 : Int) : Rat) / (y : Rat) = q at *
  generalize min4 (fl (a'.1 * 65536) b'.1) (fl (a'.1 * 65536) b'.2) (fl (a'.2 * 65536) b'.1) (fl (a'.2 * 65536) b'.2) = m at *
  generalize max4 (ce (a'.1 * 65536) b'.1) (ce (a'.1 * 65536) b'.2) (ce (a'.2 * 65536) b'.1) (ce (a'.2 * 65536) b'.2) = M at *
  have g1 : (m : Rat) < ((fl (x * 65536) y + 1 : Int) : Rat) := by
    rw [Rat.intCast_add (fl (x * 65536) y) 1]; have e : ((1 : Int) : Rat) = 1 := rfl; rw [e]; grind
  have g2 : ((ce (x * 65536) y - 1 : Int) : Rat) < (M : Rat) := by
    rw [Rat.intCast_sub (ce (x * 65536) y) 1]; have e : ((1 : Int) : Rat) = 1 := rfl; rw [e]; grind
  have g1 := Rat.intCast_lt_intCast.1 g1
  have g2 := Rat.intCast_lt_intCast.1 g2
  omega
theorem div_mono (va : vB a = true) (vb : vB b = true) (va' : vB a' = true) (vb' : vB b' = true) (ha : Sb a a') (hb : Sb b b') : Sb (div a b) (div a' b') := by
  by_cases hd : defn b'
  · by_cases hea : a' = ent
    · have e : div a' b' = ent := by unfold div; rw [if_pos (by simp [entB_iff.2 hea])]
      rw [e]; exact Sb.ent (div_valid vb)
    have h1 := vB_bounds va
    have h2 := vB_bounds vb
    have hd2 := defn_mono vb' hb hd h2.2.1
    have hea2 := ha.bounded va' hea
    have z1 : ¬ (entB a' || entB b' || (decide (b'.1 ≤ 0) && decide (0 ≤ b'.2))) = true := by
      have := hd.1
      simp [entB_iff, *]
      rcases hd.2 with h | h <;> omega
    have z2 : ¬ (entB a || entB b || (decide (b.1 ≤ 0) && decide (0 ≤ b.2))) = true := by
      have := hd2.1
      simp [entB_iff, *]
      rcases hd2.2 with h | h <;> omega
    have c1 := qcorner_in ha hb hd (x := a.1) (y := b.1) (.inl rfl) (.inl rfl) h1.2.1 h2.2.1
    have c2 := qcorner_in ha hb hd (x := a.1) (y := b.2) (.inl rfl) (.inr rfl) h1.2.1 h2.2.1
    have c3 := qcorner_in ha hb hd (x := a.2) (y := b.1) (.inr rfl) (.inl rfl) h1.2.1 h2.2.1
    have c4 := qcorner_in ha hb hd (x := a.2) (y := b.2) (.inr rfl) (.inr rfl) h1.2.1 h2.2.1
    have c5 : fl (a.1 * 65536) b.1 ≤ ce (a.1 * 65536) b.1 := fl_le_ce' (by rcases hd2.2 with h | h <;> omega)
    unfold div
    rw [if_neg z1, if_neg z2]
    generalize min4 (fl (a'.1 * 65536) b'.1) (fl (a'.1 * 65536) b'.2) (fl (a'.2 * 65536) b'.1) (fl (a'.2 * 65536) b'.2) = m at *
    generalize max4 (ce (a'.1 * 65536) b'.1) (ce (a'.1 * 65536) b'.2) (ce (a'.2 * 65536) b'.1) (ce (a'.2 * 65536) b'.2) = M at *
    refine mk_mono ?_ ?_ ?_ <;> simp only [min4, max4] <;> omega
  · rw [div_undef hd]; exact Sb.ent (div_valid vb)
theorem root_mn {m n : Int} (hm : 0 ≤ m) (h : m ≤ n) : root m ≤ root n := by
  obtain ⟨g0, g1, g2⟩ := root_spec hm
  exact root_mono_lt (by omega) g0 (by omega)
theorem rootU_mono {m n : Int} (hm : 0 ≤ m) (h : m ≤ n) : rootU m ≤ rootU n := by
  obtain ⟨g0, g1, g2⟩ := root_spec hm
  obtain ⟨h0, h1⟩ := rootU_spec (n := n) (by omega)
  unfold rootU
  split
  · rename_i hlt
    have h3 : root m < rootU n := by
      rcases Int.lt_or_le (root m) (rootU n) with k | k
      · exact k
      · have := Int.mul_le_mul k k h0 g0
        omega
    unfold rootU at h3
    omega
  · have := root_mn hm h
    unfold rootU at h0
    split <;> omega
theorem sqrt_mono (va : vB a = true) (va' : vB a' = true) (ha : Sb a a') : Sb (unV .sqrt a) (unV .sqrt a') := by
  simp only [unV]
  by_cases h0 : a'.1 < 0
  · rw [if_pos h0]; exact Sb.ent (unV_valid (o := .sqrt) va)
  · have h1 := vB_bounds va
    have h3 := ha.1; have h4 := ha.2
    have hne' : ¬ entB a' = true := by rw [entB_iff]; rintro rfl; exact h0 (by decide)
    have hne : ¬ entB a = true := by rw [entB_iff]; exact ha.bounded va' (fun k => hne' (entB_iff.2 k))
    rw [if_neg h0, if_neg (by omega)]
    unfold sqrt
    rw [if_neg hne', if_neg hne, if_neg (by omega), if_neg (by omega)]
    have e1 : max a.1 0 = a.1 := by omega
    have e2 : max a'.1 0 = a'.1 := by omega
    rw [e1, e2]
    refine mk_mono (root_mn (by omega) (by omega)) ?_ (rootU_mono (by omega) (by omega))
    have := root_mn (m := a.1 * 65536) (n := a.2 * 65536) (by omega) (by omega)
    unfold rootU
    split <;> omega
end
end Go.Pl

namespace Go.Pl
structure Ins where
  op : Int
  a : Int
  b : Int
  c : I
  deriving DecidableEq
structure Tp where
  n : Nat
  L : List Ins
  out : List Nat
def insOk (n i : Nat) (x : Ins) : Prop :=
  (x.op = 1 ∧ vB x.c = true) ∨ (x.op = 2 ∧ 0 ≤ x.a ∧ x.a < n) ∨ x.op = 3 ∨ (4 ≤ x.op ∧ x.op ≤ 6 ∧ 0 ≤ x.a ∧ x.a < i ∧ x.b = 0) ∨ (7 ≤ x.op ∧ x.op ≤ 10 ∧ 0 ≤ x.a ∧ x.a < i ∧ 0 ≤ x.b ∧ x.b < i)
structure tpOk (t : Tp) : Prop where
  ins : ∀ i x, t.L[i]? = some x → insOk t.n i x
  len : t.out.length = t.n
  out : ∀ k ∈ t.out, k < t.L.length
  small : t.n ≤ 1000 ∧ t.L.length ≤ 100000
def at0 (l : List I) (k : Int) : I := (l[k.toNat]?).getD (0, 0)
def rootI (p : I) : I := if p.1 < 0 then ent else sqrt p
def opI (o : Int) (p q : I) : I :=
  if o = 4 then neg p else if o = 5 then sq p else if o = 6 then rootI p else if o = 7 then add p q else if o = 8 then sub p q else if o = 9 then mul p q else div p q
def insV (y : Ins) (l x : List I) (t : I) : I :=
  if y.op = 1 then y.c else if y.op = 2 then at0 x y.a else if y.op = 3 then t else opI y.op (at0 l y.a) (at0 l y.b)
def valsV (L : List Ins) (x : List I) (t : I) : List I := L.foldl (fun l y => l ++ [insV y l x t]) []
def evalT (T : Tp) (x : List I) (t : I) : List I := T.out.map fun k : Nat => at0 (valsV T.L x t) (k : Int)
theorem valsV_snoc (L : List Ins) (y : Ins) (x : List I) (t : I) : valsV (L ++ [y]) x t = valsV L x t ++ [insV y (valsV L x t) x t] := by simp [valsV]
theorem snoc_ind {α : Type} {P : List α → Prop} (h0 : P []) (h1 : ∀ l a, P l → P (l ++ [a])) (l : List α) : P l := by
  have : ∀ r : List α, P r.reverse := by
    intro r
    induction r with
    | nil => exact h0
    | cons a r ih => rw [List.reverse_cons]; exact h1 _ _ ih
  have := this l.reverse
  rwa [List.reverse_reverse] at this
theorem valsV_len (x : List I) (t : I) : ∀ L : List Ins, (valsV L x t).length = L.length := by
  intro L
  refine snoc_ind (P := fun L => (valsV L x t).length = L.length) rfl (fun L y ih => ?_) L
  rw [valsV_snoc]; simp [ih]
def allV (l : List I) : Prop := ∀ p ∈ l, vB p = true
theorem at0_valid {l : List I} (h : allV l) (k : Int) : vB (at0 l k) = true := by
  unfold at0
  cases hk : l[k.toNat]? with
  | none => decide
  | some p => exact h p (List.mem_of_getElem? hk)
theorem rootI_valid {p : I} (h : vB p = true) : vB (rootI p) = true := by
  unfold rootI; split
  · exact ent_valid
  · exact sqrt_valid h
theorem opI_valid {o : Int} {p q : I} (hp : vB p = true) (hq : vB q = true) : vB (opI o p q) = true := by
  unfold opI
  split
  · exact neg_valid hp
  split
  · exact sq_valid hp
  split
  · exact rootI_valid hp
  split
  · exact add_valid hp hq
  split
  · exact sub_valid hp hq
  split
  · exact mul_valid
  · exact div_valid hq
theorem insV_valid {y : Ins} {l x : List I} {t : I} (hc : y.op = 1 → vB y.c = true) (hl : allV l) (hx : allV x) (ht : vB t = true) : vB (insV y l x t) = true := by
  unfold insV
  split
  · exact hc ‹_›
  split
  · exact at0_valid hx _
  split
  · exact ht
  · exact opI_valid (at0_valid hl _) (at0_valid hl _)
theorem allV_snoc {l : List I} {p : I} (h : allV l) (hp : vB p = true) : allV (l ++ [p]) := by
  intro q hq
  rcases List.mem_append.1 hq with hq | hq
  · exact h q hq
  · simp at hq; subst hq; exact hp
theorem valsV_valid {x : List I} {t : I} (hx : allV x) (ht : vB t = true) : ∀ {L : List Ins}, (∀ y ∈ L, y.op = 1 → vB y.c = true) → allV (valsV L x t) := by
  intro L
  refine snoc_ind (P := fun L => (∀ y ∈ L, y.op = 1 → vB y.c = true) → allV (valsV L x t)) (fun _ p hp => by simp [valsV] at hp) (fun L y ih => ?_) L
  intro h
  rw [valsV_snoc]
  have := ih fun z hz => h z (by simp [hz])
  exact allV_snoc this (insV_valid (h y (by simp)) this hx ht)
theorem tpOk.num {T : Tp} (h : tpOk T) : ∀ y ∈ T.L, y.op = 1 → vB y.c = true := by
  intro y hy ho
  obtain ⟨i, hi⟩ := List.mem_iff_getElem?.1 hy
  rcases h.ins i y hi with h | h | h | h | h
  · exact h.2
  all_goals omega
theorem evalT_valid {T : Tp} (h : tpOk T) {x : List I} {t : I} (hx : allV x) (ht : vB t = true) : allV (evalT T x t) := by
  intro p hp
  obtain ⟨k, _, rfl⟩ := List.mem_map.1 hp
  exact at0_valid (valsV_valid hx ht h.num) _
theorem evalT_len {T : Tp} (h : tpOk T) {x : List I} {t : I} : (evalT T x t).length = T.n := by simp [evalT, h.len]
end Go.Pl

namespace Go.Pl
def mulr (p : I) (n d : Int) : I := if entB p then p else mk (fl (p.1 * n) d) (ce (p.2 * n) d)
theorem mulr_valid {p : I} {n d : Int} (h : vB p = true) (hn : 0 ≤ n) (hd : 0 < d) : vB (mulr p n d) = true := by
  unfold mulr
  cases he : entB p with
  | true => simpa using h
  | false =>
    simp only [Bool.false_eq_true, if_false]
    have := entB_false h he
    exact mk_valid (fl_le_ce hd (Int.mul_le_mul_of_nonneg_right this.2.1 hn))
def atN (l : List I) (k : Nat) : I := (l[k]?).getD (0, 0)
theorem atN_valid {l : List I} (h : allV l) (k : Nat) : vB (atN l k) = true := by
  unfold atN
  cases hk : l[k]? with
  | none => decide
  | some p => exact h p (List.mem_of_getElem? hk)
def sumF (f : Nat → I) : Nat → I
  | 0 => (0, 0)
  | 1 => f 0
  | m + 2 => add (sumF f (m + 1)) (f (m + 1))
theorem sumF_valid {f : Nat → I} (h : ∀ i, vB (f i) = true) : ∀ m, vB (sumF f m) = true
  | 0 => (by decide : vB (0, 0) = true)
  | 1 => h 0
  | m + 2 => add_valid (sumF_valid h (m + 1)) (h _)
def convI (a b : List I) (frm m k : Nat) : I := sumF (fun i => mul (atN a (frm + i)) (atN b (k - (frm + i)))) m
theorem convI_valid (a b : List I) (frm m k : Nat) : vB (convI a b frm m k) = true := sumF_valid (fun _ => mul_valid) m
def nextQ (a b q : List I) : I :=
  if q.length = 0 then div (atN a 0) (atN b 0) else div (sub (atN a q.length) (convI b q 1 q.length q.length)) (atN b 0)
def nextR (a q : List I) : I :=
  if q.length = 0 then rootI (atN a 0) else div (sub (atN a q.length) (convI q q 1 (q.length - 1) q.length)) (mulr (atN q 0) 2 1)
theorem nextQ_valid {a b : List I} (ha : allV a) (hb : allV b) (q : List I) : vB (nextQ a b q) = true := by
  unfold nextQ; split
  · exact div_valid (atN_valid hb _)
  · exact div_valid (atN_valid hb _)
theorem nextR_valid {a q : List I} (ha : allV a) (hq : allV q) : vB (nextR a q) = true := by
  unfold nextR; split
  · exact rootI_valid (atN_valid ha _)
  · exact div_valid (mulr_valid (atN_valid hq _) (by decide) (by decide))
def rowN (l : List (List I)) (i : Int) : List I := (l[i.toNat]?).getD []
def nextC (x : Ins) (l : List (List I)) (own : List I) (t : I) : I :=
  let k := own.length
  if x.op = 4 then neg (atN (rowN l x.a) k)
  else if x.op = 7 then add (atN (rowN l x.a) k) (atN (rowN l x.b) k)
  else if x.op = 8 then sub (atN (rowN l x.a) k) (atN (rowN l x.b) k)
  else if x.op = 9 then convI (rowN l x.a) (rowN l x.b) 0 (k + 1) k
  else if x.op = 5 then (if k = 0 then sq (atN (rowN l x.a) 0) else convI (rowN l x.a) (rowN l x.a) 0 (k + 1) k)
  else if x.op = 10 then nextQ (rowN l x.a) (rowN l x.b) own
  else if x.op = 6 then nextR (rowN l x.a) own
  else if x.op = 1 then (if k = 0 then x.c else (0, 0))
  else if x.op = 3 then (if k = 0 then t else if k = 1 then (65536, 65536) else (0, 0))
  else (0, 0)
def hornS : List I → I → I
  | [], _ => (0, 0)
  | [a], _ => a
  | a :: r, h => add (mul (hornS r h) h) a
def evalS (l : List (List I)) (h : I) : List I := l.map fun s => hornS s h
def stepL (L : List Ins) (out : List (List I)) (t : I) (k : Nat) (l : List (List I)) : Nat → List (List I)
  | 0 => l
  | i + 1 =>
    let l' := stepL L out t k l i
    match L[i]? with
    | some x => l'.set i (rowN l' i ++ [if x.op = 2 then atN (rowN out x.a) k else nextC x l' (rowN l' i) t])
    | none => l'
def stepO (T : Tp) (l : List (List I)) (k : Nat) (out : List (List I)) : Nat → List (List I)
  | 0 => out
  | i + 1 =>
    let o' := stepO T l k out i
    match T.out[i]? with
    | some at' => o'.set i (rowN o' i ++ [mulr (atN (rowN l (at' : Int)) k) 1 (k + 1)])
    | none => o'
def expS (T : Tp) (x : List I) (t : I) : Nat → List (List I) × List (List I)
  | 0 => (List.replicate T.L.length [], (List.range T.n).map fun i => [atN x i])
  | k + 1 =>
    let q := expS T x t k
    let l := stepL T.L q.2 t k q.1 T.L.length
    (l, stepO T l k q.2 T.out.length)
def coefS (T : Tp) (x : List I) (t : I) (order : Nat) : List (List I) := (expS T x t order).2
end Go.Pl

namespace Go.Proofs.YtfjjckepnkkgjaaGreatDoor.Arm
open Go.Arm Go.Pl
theorem iWidth (p : I) (h : vB p = true) (H : AH) : Sound E 122 [iv p] H (.ret (.int .i64 (p.2 - p.1))) H := by
  refine sound_of_awp tabOk mixed Tryz.func122 rfl (by rfl) Tryz.ntmps122 (by kernel_rfl) (by simp) ?_
  have hb := vB_bounds h
  have w1 : IntKind.i64.wrap (p.2 - p.1) = p.2 - p.1 := wrap64 (by omega) (by omega)
  simp [w1]
  exact fin1 (rs := [.tmp 2]) (by rfl) (by simp [resA]) (by simp [noFs, noF])
theorem iHull (p q : I) (H : AH) : Sound E 130 [iv p, iv q] H (.ret (iv (hull p q))) H := by
  refine sound_of_awp tabOk mixed Tryz.func130 rfl (by rfl) Tryz.ntmps130 (by kernel_rfl) (by simp) ?_
  simp [ite_min, ite_max]
  exact fin1 (rs := [.cell 4 54]) (by rfl) (by simp [resA, hull]) (by simp [noFs, noF])
theorem iSubset (p q : I) (H : AH) : Sound E 163 [iv p, iv q] H (.ret (.bool (subB p q))) H := by
  refine sound_of_awp tabOk mixed Tryz.func163 rfl (by rfl) Tryz.ntmps163 (by kernel_rfl) (by simp) ?_
  simp
  refine gateT (fun h1 => ?_) (fun h1 => ?_)
  · have h1' : q.1 ≤ p.1 := by simpa using h1
    simp [h1']
    exact fin1 (rs := [.tmp 4]) (by rfl) (by simp [resA, subB, h1']) (by simp [noFs, noF])
  · have h1' : ¬ q.1 ≤ p.1 := by simpa using h1
    simp [h1']
    exact fin1 (rs := [.tmp 4]) (by rfl) (by simp [resA, subB, h1']) (by simp [noFs, noF])
theorem iPickI (b : Bool) (p q : I) (H : AH) : Sound E 192 [.bool b, iv p, iv q] H (.ret (iv (if b then p else q))) H := by
  refine sound_of_awp tabOk mixed Tryz.func192 rfl (by rfl) Tryz.ntmps192 (by kernel_rfl) (by simp) ?_
  cases b with
  | true =>
    simp
    exact fin1 (rs := [.cell 6 54]) (by rfl) (by simp [resA]) (by simp [noFs, noF])
  | false =>
    simp
    exact fin1 (rs := [.cell 6 54]) (by rfl) (by simp [resA]) (by simp [noFs, noF])
theorem iPick64 (b : Bool) (x y : Int) (H : AH) : Sound E 211 [.bool b, .int .i64 x, .int .i64 y] H (.ret (.int .i64 (if b then x else y))) H := by
  refine sound_of_awp tabOk mixed Tryz.func211 rfl (by rfl) Tryz.ntmps211 (by kernel_rfl) (by simp) ?_
  cases b with
  | true =>
    simp
    exact fin0 (rs := [.tmp 6]) (by rfl) (by simp [resA])
  | false =>
    simp
    exact fin0 (rs := [.tmp 6]) (by rfl) (by simp [resA])
theorem iIntersect (p q : I) (H : AH) : Sound E 171 [iv p, iv q] H (.ret (.tuple [iv (inter p q), .bool (interB p q)])) H := by
  refine sound_of_awp tabOk mixed Tryz.func171 rfl (by rfl) Tryz.ntmps171 (by kernel_rfl) (by simp) ?_
  simp [ite_min, ite_max]
  refine call_ret (iPickI (interB p q) (meet p q) (0, 0) _) ?_
  simp
  exact finC (rs := [.cell 4 54, .tmp 5]) (vs := [iv (inter p q), .bool (interB p q)]) (vs' := [iv (inter p q), .bool (interB p q)]) (by rfl) (by simp [resA, inter, interB]) (by simp; rfl) (by simp [noF, noFs]) rfl
theorem fMulRatio (a n d : Int) (ha : -2147483648 ≤ a ∧ a ≤ 2147483648) (hn : 0 ≤ n ∧ n ≤ 1073741824) (hd : 1 ≤ d ∧ d ≤ 1073741824) (H : AH) :
    Sound E 210 [.int .i64 a, .int .i64 n, .int .i64 d] H (.ret (.tuple [.int .i64 (fl (a * n) d), .int .i64 (ce (a * n) d), .int .i64 0])) H := by
  refine sound_of_awp tabOk mixed Tryz.func210 rfl (by rfl) Tryz.ntmps210 (by kernel_rfl) (by simp) ?_
  have hb : -2305843009213693952 ≤ a * n ∧ a * n ≤ 2305843009213693952 := by
    have h1 := Int.mul_le_mul_of_nonneg_right ha.2 hn.1
    have h2 := Int.mul_le_mul_of_nonneg_right ha.1 hn.1
    omega
  have w1 : IntKind.i64.wrap (a * n) = a * n := wrap64 (by omega) (by omega)
  have c1 : ¬ n < -1073741824 := by omega
  have c2 : ¬ 1073741824 < n := by omega
  have c3 : ¬ d < 1 := by omega
  have c4 : ¬ 1073741824 < d := by omega
  simp [c1, c2, c3, c4, w1]
  refine call_ret (fDivide (a * n) d (by omega) (by omega) _) ?_
  simp
  exact finK (rs := [.tmp 6, .tmp 7, .tmp 8]) (vs := [.int .i64 (fl (a * n) d), .int .i64 (ce (a * n) d), .int .i64 0]) (by rfl) (by simp [resA]) rfl
theorem iMulRatio (p : I) (n d : Int) (hp : vB p = true) (hn : 0 ≤ n ∧ n ≤ 1073741824) (hd : 1 ≤ d ∧ d ≤ 1073741824) (H : AH) : Sound E 190 [iv p, .int .i64 n, .int .i64 d] H (.ret (iv (mulr p n d))) H := by
  refine sound_of_awp tabOk mixed Tryz.func190 rfl (by rfl) Tryz.ntmps190 (by kernel_rfl) (by simp) ?_
  simp
  refine call_ret (iIsEntire p _) ?_
  have hb := vB_bounds hp
  simp
  refine branch (fun he => ?_) (fun he => ?_)
  · simp
    exact fin1 (rs := [.cell 6 54]) (by rfl) (by simp [resA, mulr, he]) (by simp [noFs, noF])
  · have c1 : ¬ n < 0 := by omega
    simp
    refine call_ret (iPick64 (decide (n < 0)) p.2 p.1 _) ?_
    simp [c1]
    refine call_ret (fMulRatio p.1 n d (by omega) hn hd _) ?_
    simp
    refine call_ret (iPick64 (decide (n < 0)) p.1 p.2 _) ?_
    simp [c1]
    refine call_ret (fMulRatio p.2 n d (by omega) hn hd _) ?_
    simp
    refine call_ret (iNew _ _ _) ?_
    simp
    exact fin1 (rs := [.cell 6 54]) (by rfl) (by simp [resA, mulr, he]) (by simp [noFs, noF])
end Go.Proofs.YtfjjckepnkkgjaaGreatDoor.Arm

namespace Go.Proofs.YtfjjckepnkkgjaaGreatDoor.Arm
open Go.Arm Go.Pl
theorem rSame2 (p q : I) (H : AH) : Sound E 49 [iv p, iv q] H (.ret (.bool (p == q))) H := by
  refine sound_of_awp tabOk mixed Tryz.func49 rfl (by rfl) Tryz.ntmps49 (by kernel_rfl) (by simp) ?_
  have e : (p == q) = (p.1 == q.1 && p.2 == q.2) := rfl
  simp
  refine gateT (fun h1 => ?_) (fun h1 => ?_)
  · simp [h1]
    exact fin1 (rs := [.tmp 4]) (by rfl) (by simp [resA, e, h1]) (by simp [noFs, noF])
  · simp [h1]
    exact fin1 (rs := [.tmp 4]) (by rfl) (by simp [resA, e, h1]) (by simp [noFs, noF])
end Go.Proofs.YtfjjckepnkkgjaaGreatDoor.Arm

namespace Go.Proofs.YtfjjckepnkkgjaaGreatDoor.Arm
open Go.Arm Go.Pl
def bx (l : List I) : AV := .slice (l.map iv) false
theorem accBase {H A J : AH} {v v0 : AV} {sz : Nat} {l : List AV} (h : Acc (H ++ A) J v sz l v0) : Acc H (A ++ J) v sz l v0 := by
  rcases h with h | ⟨k, h1, h2⟩
  · exact .inl h
  · exact .inr ⟨A.length + k, by rw [h1, List.length_append, Nat.add_assoc], by rw [List.getElem?_append_right (by omega), Nat.add_sub_cancel_left]; exact h2⟩
theorem iv_noFs (l : List I) (n : Nat) : noFs n (l.map iv) = true := noFs_iff.2 fun x hx => by obtain ⟨y, _, rfl⟩ := List.mem_map.1 hx; simp [noF, noFs]
theorem pushIv {H J : AH} {v v0 : AV} {l : List I} {p : I} (hacc : Acc H J v 2 (l.map iv) v0) (h0 : emptyA v0 = true) (hl : l.length ≤ 1000000000) :
    ∃ v' J', appendA tab (H ++ J) 26 v (.slice [iv p] true) = some (v', H ++ J') ∧ Acc H J' v' 2 ((l ++ [p]).map iv) v0 ∧ (∀ j y, J[j]? = some y → (∀ n, v ≠ .ref (H.length + j) n) → J'[j]? = some y) ∧ J.length ≤ J'.length := by
  obtain ⟨v', J', hap, hacc', hk, hle, _⟩ := Acc.push (T := tab) (t := 26) (e := 54) (x := .slice [iv p] true) (ys := [iv p]) hacc tab26 rfl tab54 h0 rfl (by simp [okc]) ⟨by decide, by simp⟩ (by simp; omega) (by simp; omega)
  exact ⟨v', J', hap, by simpa using hacc', hk, hle⟩
theorem and_low {m : Nat} (hm : m ≤ 16) (x : Int) : andA .i64 x ((2 ^ m - 1 : Nat) : Int) = low x ((2 ^ m - 1 : Nat) : Int) := by
  have h0 : (2 : Nat) ^ m ≤ 65536 := Nat.pow_le_pow_right (n := 2) (by decide) hm
  have h00 : 0 < (2 : Nat) ^ m := Nat.pow_pos (by decide)
  unfold andA low
  have e1 : (BitVec.ofInt 64 ((2 ^ m - 1 : Nat) : Int)).toNat = 2 ^ m - 1 := by
    rw [BitVec.toNat_ofInt]; omega
  have e2 : ((BitVec.ofInt 64 x &&& BitVec.ofInt 64 ((2 ^ m - 1 : Nat) : Int)).toNat : Int) = x % ((2 ^ m : Nat) : Int) := by
    rw [BitVec.toNat_and, e1, Nat.and_two_pow_sub_one_eq_mod, BitVec.toNat_ofInt]
    rw [Int.natCast_emod, Int.toNat_of_nonneg (Int.emod_nonneg _ (by decide))]
    rw [Int.emod_emod_of_dvd]
    have : ((2 : Nat) ^ 64 : Int) = ((2 ^ m : Nat) : Int) * ((2 ^ (64 - m) : Nat) : Int) := by
      rw [← Int.natCast_mul, ← Nat.pow_add, show m + (64 - m) = 64 by omega]; rfl
    exact ⟨_, this⟩
  have e3 : IntKind.i64.bits = 64 := rfl
  rw [e3, e2]
  have e4 : ((2 ^ m - 1 : Nat) : Int) + 1 = ((2 ^ m : Nat) : Int) := by omega
  rw [e4]
  have h1 := Int.emod_nonneg x (b := ((2 ^ m : Nat) : Int)) (by omega)
  have h2 := Int.emod_lt_of_pos x (b := ((2 ^ m : Nat) : Int)) (by omega)
  exact wrap64 (by omega) (by omega)
theorem and255 (x : Int) : andA .i64 x 255 = low x 255 := and_low (m := 8) (by decide) x
theorem and64k (x : Int) : andA .i64 x 65535 = low x 65535 := and_low (m := 16) (by decide) x
end Go.Proofs.YtfjjckepnkkgjaaGreatDoor.Arm

namespace Go.Proofs.YtfjjckepnkkgjaaGreatDoor.Arm
open Go.Arm Go.Pl
def insA (x : Ins) : AV := .agg [.int .i64 x.op, .int .i64 x.a, .int .i64 x.b, .int .i64 x.c.1, .int .i64 x.c.2]
def outA (l : List Nat) : AV := .slice (l.map fun k : Nat => .int .i64 (k : Int)) false
def tpA (t : Tp) : AV := .agg [.int .i64 (t.n : Int), .slice (t.L.map insA) false, outA t.out]
theorem tRoot (p : I) (h : vB p = true) (H : AH) : Sound E 259 [iv p] H (.ret (iv (rootI p))) H := by
  refine sound_of_awp tabOk mixed Tryz.func259 rfl (by rfl) Tryz.ntmps259 (by kernel_rfl) (by simp) ?_
  simp
  refine branch (fun hc => ?_) (fun hc => ?_)
  · have h0 : p.1 < 0 := by simpa using hc
    simp
    refine call_ret (iEntire _) ?_
    simp
    exact fin1 (rs := [.cell 2 54]) (by rfl) (by simp [resA, rootI, h0]) (by simp [noFs, noF])
  · have h0 : ¬ p.1 < 0 := by simpa using hc
    have hb := vB_bounds h
    simp
    refine call_ret (iSqrt p h (by omega) _) ?_
    simp
    exact fin1 (rs := [.cell 2 54]) (by rfl) (by simp [resA, rootI, h0]) (by simp [noFs, noF])
end Go.Proofs.YtfjjckepnkkgjaaGreatDoor.Arm

namespace Go.Proofs.YtfjjckepnkkgjaaGreatDoor.Arm
open Go.Arm Go.Pl
@[simp] theorem bin_one (g : Nat) (H : AH) (z : Bool) : binOpA tab H .neq 71 (.func (.func g) [] []) .nilfunc z = some (.bool true, H) := by simp [binOpA, binA, eqA, nilI]
@[simp] theorem bin_two (H : AH) (z : Bool) : binOpA tab H .neq 71 .nilfunc .nilfunc z = some (.bool false, H) := by simp [binOpA, binA, eqA, nilI]
def padI (l : List I) (n : Nat) : List AV := (l ++ List.replicate (n - l.length) (0, 0)).map iv
theorem padI_len {l : List I} {n : Nat} (h : l.length ≤ n) : (padI l n).length = n := by simp [padI]; omega
theorem padI_get {l : List I} {n k : Nat} {p : I} (h : l[k]? = some p) : (padI l n)[k]? = some (iv p) := by
  unfold padI
  rw [List.getElem?_map, List.getElem?_append_left (List.getElem?_eq_some_iff.1 h).1, h]; rfl
theorem padI_set {l : List I} {n : Nat} {p : I} (h : l.length < n) : (padI l n).set l.length (iv p) = padI (l ++ [p]) n := by
  unfold padI
  have e : List.replicate (n - l.length) ((0, 0) : I) = (0, 0) :: List.replicate (n - (l ++ [p]).length) (0, 0) := by
    rw [show n - l.length = (n - (l ++ [p]).length) + 1 by simp; omega, List.replicate_succ]
  rw [e]
  simp
theorem padI_zero {l : List I} {n k : Nat} (h : l.length ≤ k) (hk : k < n) : (padI l n)[k]? = some (iv (0, 0)) := by
  unfold padI
  rw [List.getElem?_map, List.getElem?_append_right h, List.getElem?_replicate, if_pos (by omega)]; rfl
theorem padI_all {l : List I} {n : Nat} (h : l.length = n) : padI l n = l.map iv := by simp [padI, h]
theorem padI_nil (n : Nat) : padI [] n = List.replicate n (iv (0, 0)) := by simp [padI]
def LTe (T : Tp) (x : List I) (t : I) (H : AH) (i : Nat) (fr : AFr) (H' : AH) : Prop :=
  fr 1 = bx x ∧ fr 3 = .ptr H.length 1 0 0 ∧ fr 5 = .ptr (H.length + 1) 1 0 0 ∧ fr 7 = .ref (H.length + 2) T.L.length ∧ fr 19 = .slice (T.L.map insA) false ∧ fr 20 = .int .i64 T.L.length ∧ fr 21 = .int .i64 i ∧ i ≤ T.L.length ∧
  ∃ J, H' = H ++ J ∧ J[0]? = some (.row true 3 [tpA T]) ∧ J[1]? = some (.row true 2 [iv t]) ∧ J[2]? = some (.row true 2 (padI (valsV (T.L.take i) x t) T.L.length))
def LTo (T : Tp) (l : List I) (H : AH) (b : Nat) (i : Nat) (fr : AFr) (H' : AH) : Prop :=
  fr 7 = .ref (H.length + 2) T.L.length ∧ fr 11 = .ref b T.out.length ∧ fr 96 = outA T.out ∧ fr 97 = .int .i64 T.out.length ∧ fr 98 = .int .i64 i ∧ i ≤ T.out.length ∧
  ∃ J k, H' = H ++ J ∧ b = H.length + k ∧ k ≠ 2 ∧ J[2]? = some (.row true 2 (l.map iv)) ∧ J[k]? = some (.row true 2 (padI ((T.out.take i).map fun k : Nat => at0 l k) T.out.length))
theorem LTe_next {T : Tp} {x : List I} {t : I} {H J : AH} {i : Nat} {W : List AV} {p : AV} (hJ0 : J[0]? = some (.row true 3 [tpA T])) (hJ1 : J[1]? = some (.row true 2 [iv t])) (hJ2 : J[2]? = some (.row true 2 W)) (e : W.set i p = padI (valsV (T.L.take (i + 1)) x t) T.L.length) (L : AH) :
    ∃ J', H ++ (J.set 2 (.row true 2 (W.set i p)) ++ L) = H ++ J' ∧ J'[0]? = some (.row true 3 [tpA T]) ∧ J'[1]? = some (.row true 2 [iv t]) ∧ J'[2]? = some (.row true 2 (padI (valsV (T.L.take (i + 1)) x t) T.L.length)) := by
  refine ⟨_, rfl, get_old ?_, get_old ?_, ?_⟩
  · rw [List.getElem?_set_ne (by omega)]; exact hJ0
  · rw [List.getElem?_set_ne (by omega)]; exact hJ1
  · rw [e]; exact set_get' hJ2
theorem tEval (T : Tp) (x : List I) (t : I) (hT : tpOk T) (hx : allV x) (hxn : x.length = T.n) (ht : vB t = true) (H : AH) : Sound E 181 [tpA T, bx x, iv t] H (.ret (bx (evalT T x t))) H := by
  refine sound_of_awp tabOk mixed Tryz.func181 rfl (by rfl) Tryz.ntmps181 (by kernel_rfl) (by simp) ?_
  have hsm := hT.small
  simp [tpA]
  refine bind_if (by omega) ?_
  simp
  refine loop_count (LTe T x t H) (fun i => T.L.length - i) 0 ⟨by simp, by simp, by simp, by simp, by simp, by simp, by simp, by omega, _, rfl, by simp [tpA], by simp, by simp [valsV, padI_nil]⟩ ?_
  rintro i fr H' ⟨g1, g3, g5, g7, g19, g20, g21, hi, J, rfl, hJ0, hJ1, hJ2⟩
  simp [g20, g21]
  refine branch (fun hc => ?_) (fun hc => ?_)
  · have hlt : i < T.L.length := by simpa using hc
    obtain ⟨y, hy⟩ := get_lt hlt
    have hins := hT.ins i y hy
    have hnext : valsV (T.L.take (i + 1)) x t = valsV (T.L.take i) x t ++ [insV y (valsV (T.L.take i) x t) x t] := by rw [List.take_add_one, hy]; exact valsV_snoc _ _ _ _
    have hlen : (valsV (T.L.take i) x t).length = i := by rw [valsV_len]; simp; omega
    have hval : allV (valsV (T.L.take i) x t) := valsV_valid hx ht fun z hz => hT.num z (List.mem_of_mem_take hz)
    have w2 : IntKind.i64.wrap ((i : Int) + 1) = ((i + 1 : Nat) : Int) := by rw [wrap64 (by omega) (by omega)]; omega
    have hmap : (T.L.map insA)[i]? = some (insA y) := by rw [List.getElem?_map, hy]; rfl
    have hmapE : ∀ h, (T.L.map insA)[i]'h = insA y := fun h => (List.getElem?_eq_some_iff.1 hmap).2
    have hyE : ∀ h, T.L[i]'h = y := fun h => (List.getElem?_eq_some_iff.1 hy).2
    obtain ⟨W, hW⟩ : ∃ W, W = padI (valsV (T.L.take i) x t) T.L.length := ⟨_, rfl⟩
    have hWl : W.length = T.L.length := by rw [hW]; exact padI_len (by omega)
    have hJl : 2 < J.length := (List.getElem?_eq_some_iff.1 hJ2).1
    have hW0 : W[i]? = some (iv (0, 0)) := by rw [hW]; exact padI_zero (by omega) hlt
    have hW0E : ∀ h, W[i]'h = iv (0, 0) := fun h => (List.getElem?_eq_some_iff.1 hW0).2
    rw [← hW] at hJ2
    have hWset : ∀ p, insV y (valsV (T.L.take i) x t) x t = p → W.set i (iv p) = padI (valsV (T.L.take (i + 1)) x t) T.L.length := by
      intro p hp
      rw [hnext, hp, hW]
      have := padI_set (l := valsV (T.L.take i) x t) (n := T.L.length) (p := p) (by omega)
      rw [hlen] at this
      exact this
    obtain ⟨o, a, b, c⟩ := y
    rcases hins with ⟨h1, h2⟩ | ⟨h1, h2⟩ | h1 | h1 | h1
    · simp only at h1
      subst h1
      simp [g1, g3, g5, g7, g19, g21, hy, hyE, insA, tapT, hJ2, hWl, hlt, hW0, hW0E, old hJ2, olds hJ2, w2]
      exact ⟨i + 1, by show T.L.length - (i + 1) < T.L.length - i; omega, by simp [g1], by simp [g3], by simp [g5], by simp [g7], by simp [g19, insA], by simp [g20], by simp, by omega, LTe_next hJ0 hJ1 hJ2 (hWset c (by simp [insV])) _⟩
    · simp only at h1 h2
      subst h1
      obtain ⟨k, rfl⟩ : ∃ k : Nat, a = k := ⟨a.toNat, by omega⟩
      obtain ⟨p, hp⟩ := get_lt (l := x) (i := k) (by omega)
      have hpE : ∀ h, x[k]'h = p := fun h => (List.getElem?_eq_some_iff.1 hp).2
      simp [g1, g3, g5, g7, g19, g21, hy, hyE, insA, tapT, hJ2, hWl, hlt, hW0, hW0E, old hJ2, olds hJ2, w2, bx, hp, hpE]
      exact ⟨i + 1, by show T.L.length - (i + 1) < T.L.length - i; omega, by simp [g1, bx], by simp [g3], by simp [g5], by simp [g7], by simp [g19, insA], by simp [g20], by simp, by omega, LTe_next hJ0 hJ1 hJ2 (hWset p (by simp [insV, at0, hp])) _⟩
    · simp only at h1
      subst h1
      simp [g1, g3, g5, g7, g19, g21, hy, hyE, insA, tapT, hJ2, hWl, hlt, hW0, hW0E, old hJ2, olds hJ2, ↓old hJ1, w2]
      exact ⟨i + 1, by show T.L.length - (i + 1) < T.L.length - i; omega, by simp [g1], by simp [g3], by simp [g5], by simp [g7], by simp [g19, insA], by simp [g20], by simp, by omega, LTe_next hJ0 hJ1 hJ2 (hWset t (by simp [insV])) _⟩
    · simp only at h1
      obtain ⟨h1, h2, h3, h4, rfl⟩ := h1
      obtain ⟨k, rfl⟩ : ∃ k : Nat, a = k := ⟨a.toNat, by omega⟩
      obtain ⟨p, hp⟩ := get_lt (l := valsV (T.L.take i) x t) (i := k) (by omega)
      have hpv := hval p (List.mem_of_getElem? hp)
      have hWk : W[k]? = some (iv p) := by rw [hW]; exact padI_get hp
      have hWkE : ∀ h, W[k]'h = iv p := fun h => (List.getElem?_eq_some_iff.1 hWk).2
      have hk : k < T.L.length := by omega
      have ho : o = 4 ∨ o = 5 ∨ o = 6 := by omega
      have fin : ∀ q, insV ⟨o, k, 0, c⟩ (valsV (T.L.take i) x t) x t = q → ∀ L, ∃ J', H ++ (J.set 2 (.row true 2 (W.set i (iv q))) ++ L) = H ++ J' ∧ J'[0]? = some (.row true 3 [tpA T]) ∧ J'[1]? = some (.row true 2 [iv t]) ∧ J'[2]? = some (.row true 2 (padI (valsV (T.L.take (i + 1)) x t) T.L.length)) := fun q hq L => LTe_next hJ0 hJ1 hJ2 (hWset q hq) L
      rcases ho with rfl | rfl | rfl
      · simp [g1, g3, g5, g7, g19, g21, hy, hyE, insA, tapT, fnA, hJ2, hWl, hlt, hW0, hW0E, hk, hWk, hWkE, old hJ2, olds hJ2, w2]
        refine callD_ret0 (fun Hx => iNeg p hpv Hx) ?_
        simp [g7, hJ2, hWl, hlt, hW0, hW0E, hk, hWk, hWkE, old hJ2, olds hJ2]
        refine endD [(7, 11), (8, 11), (10, 11)] (by rfl) (by simp [okW, note, Eff.triv, Eff.wr, Eff.none, upTo, newAt]; omega) ?_
        simp [g21, w2]
        exact ⟨i + 1, by show T.L.length - (i + 1) < T.L.length - i; omega, by simp [g1], by simp [g3], by simp [g5], by simp [g7], by simp [g19, insA], by simp [g20], by simp, by omega, fin _ (by simp [insV, opI, at0, hp]) _⟩
      · simp [g1, g3, g5, g7, g19, g21, hy, hyE, insA, tapT, fnA, hJ2, hWl, hlt, hW0, hW0E, hk, hWk, hWkE, old hJ2, olds hJ2, w2]
        refine callD_ret0 (fun Hx => iSquare p hpv Hx) ?_
        simp [g7, hJ2, hWl, hlt, hW0, hW0E, hk, hWk, hWkE, old hJ2, olds hJ2]
        refine endD [(7, 11), (8, 11), (10, 11)] (by rfl) (by simp [okW, note, Eff.triv, Eff.wr, Eff.none, upTo, newAt]; omega) ?_
        simp [g21, w2]
        exact ⟨i + 1, by show T.L.length - (i + 1) < T.L.length - i; omega, by simp [g1], by simp [g3], by simp [g5], by simp [g7], by simp [g19, insA], by simp [g20], by simp, by omega, fin _ (by simp [insV, opI, at0, hp]) _⟩
      · simp [g1, g3, g5, g7, g19, g21, hy, hyE, insA, tapT, fnA, hJ2, hWl, hlt, hW0, hW0E, hk, hWk, hWkE, old hJ2, olds hJ2, w2]
        refine callD_ret0 (fun Hx => tRoot p hpv Hx) ?_
        simp [g7, hJ2, hWl, hlt, hW0, hW0E, hk, hWk, hWkE, old hJ2, olds hJ2]
        refine endD [(7, 11), (8, 11), (10, 11)] (by rfl) (by simp [okW, note, Eff.triv, Eff.wr, Eff.none, upTo, newAt]; omega) ?_
        simp [g21, w2]
        exact ⟨i + 1, by show T.L.length - (i + 1) < T.L.length - i; omega, by simp [g1], by simp [g3], by simp [g5], by simp [g7], by simp [g19, insA], by simp [g20], by simp, by omega, fin _ (by simp [insV, opI, at0, hp]) _⟩
    · simp only at h1
      obtain ⟨h1, h2, h3, h4, h5, h6⟩ := h1
      obtain ⟨k, rfl⟩ : ∃ k : Nat, a = k := ⟨a.toNat, by omega⟩
      obtain ⟨m, rfl⟩ : ∃ m : Nat, b = m := ⟨b.toNat, by omega⟩
      obtain ⟨p, hp⟩ := get_lt (l := valsV (T.L.take i) x t) (i := k) (by omega)
      obtain ⟨q, hq⟩ := get_lt (l := valsV (T.L.take i) x t) (i := m) (by omega)
      have hpv := hval p (List.mem_of_getElem? hp)
      have hqv := hval q (List.mem_of_getElem? hq)
      have hWk : W[k]? = some (iv p) := by rw [hW]; exact padI_get hp
      have hWkE : ∀ h, W[k]'h = iv p := fun h => (List.getElem?_eq_some_iff.1 hWk).2
      have hWm : W[m]? = some (iv q) := by rw [hW]; exact padI_get hq
      have hWmE : ∀ h, W[m]'h = iv q := fun h => (List.getElem?_eq_some_iff.1 hWm).2
      have hk : k < T.L.length := by omega
      have hk2 : m < T.L.length := by omega
      have ho : o = 7 ∨ o = 8 ∨ o = 9 ∨ o = 10 := by omega
      have fin : ∀ r, insV ⟨o, k, m, c⟩ (valsV (T.L.take i) x t) x t = r → ∀ L, ∃ J', H ++ (J.set 2 (.row true 2 (W.set i (iv r))) ++ L) = H ++ J' ∧ J'[0]? = some (.row true 3 [tpA T]) ∧ J'[1]? = some (.row true 2 [iv t]) ∧ J'[2]? = some (.row true 2 (padI (valsV (T.L.take (i + 1)) x t) T.L.length)) := fun r hr L => LTe_next hJ0 hJ1 hJ2 (hWset r hr) L
      rcases ho with rfl | rfl | rfl | rfl
      · simp [g1, g3, g5, g7, g19, g21, hy, hyE, insA, tapT, fnA, hJ2, hWl, hlt, hW0, hW0E, hk, hWk, hWkE, hk2, hWm, hWmE, old hJ2, olds hJ2, w2]
        refine callD_ret0 (fun Hx => iAdd p q hpv hqv Hx) ?_
        simp [g7, hJ2, hWl, hlt, hW0, hW0E, hk, hWk, hWkE, old hJ2, olds hJ2]
        refine endD [(7, 16), (8, 16), (12, 16), (13, 16), (15, 16)] (by rfl) (by simp [okW, note, Eff.triv, Eff.wr, Eff.none, upTo, newAt]; omega) ?_
        simp [g21, w2]
        exact ⟨i + 1, by show T.L.length - (i + 1) < T.L.length - i; omega, by simp [g1], by simp [g3], by simp [g5], by simp [g7], by simp [g19, insA], by simp [g20], by simp, by omega, fin _ (by simp [insV, opI, at0, hp, hq]) _⟩
      · simp [g1, g3, g5, g7, g19, g21, hy, hyE, insA, tapT, fnA, hJ2, hWl, hlt, hW0, hW0E, hk, hWk, hWkE, hk2, hWm, hWmE, old hJ2, olds hJ2, w2]
        refine callD_ret0 (fun Hx => iSub p q hpv hqv Hx) ?_
        simp [g7, hJ2, hWl, hlt, hW0, hW0E, hk, hWk, hWkE, old hJ2, olds hJ2]
        refine endD [(7, 16), (8, 16), (12, 16), (13, 16), (15, 16)] (by rfl) (by simp [okW, note, Eff.triv, Eff.wr, Eff.none, upTo, newAt]; omega) ?_
        simp [g21, w2]
        exact ⟨i + 1, by show T.L.length - (i + 1) < T.L.length - i; omega, by simp [g1], by simp [g3], by simp [g5], by simp [g7], by simp [g19, insA], by simp [g20], by simp, by omega, fin _ (by simp [insV, opI, at0, hp, hq]) _⟩
      · simp [g1, g3, g5, g7, g19, g21, hy, hyE, insA, tapT, fnA, hJ2, hWl, hlt, hW0, hW0E, hk, hWk, hWkE, hk2, hWm, hWmE, old hJ2, olds hJ2, w2]
        refine callD_ret0 (fun Hx => iMul p q hpv hqv Hx) ?_
        simp [g7, hJ2, hWl, hlt, hW0, hW0E, hk, hWk, hWkE, old hJ2, olds hJ2]
        refine endD [(7, 16), (8, 16), (12, 16), (13, 16), (15, 16)] (by rfl) (by simp [okW, note, Eff.triv, Eff.wr, Eff.none, upTo, newAt]; omega) ?_
        simp [g21, w2]
        exact ⟨i + 1, by show T.L.length - (i + 1) < T.L.length - i; omega, by simp [g1], by simp [g3], by simp [g5], by simp [g7], by simp [g19, insA], by simp [g20], by simp, by omega, fin _ (by simp [insV, opI, at0, hp, hq]) _⟩
      · simp [g1, g3, g5, g7, g19, g21, hy, hyE, insA, tapT, fnA, hJ2, hWl, hlt, hW0, hW0E, hk, hWk, hWkE, hk2, hWm, hWmE, old hJ2, olds hJ2, w2]
        refine callD_ret0 (fun Hx => iDiv p q hpv hqv Hx) ?_
        simp [g7, hJ2, hWl, hlt, hW0, hW0E, hk, hWk, hWkE, old hJ2, olds hJ2]
        refine endD [(7, 16), (8, 16), (12, 16), (13, 16), (15, 16)] (by rfl) (by simp [okW, note, Eff.triv, Eff.wr, Eff.none, upTo, newAt]; omega) ?_
        simp [g21, w2]
        exact ⟨i + 1, by show T.L.length - (i + 1) < T.L.length - i; omega, by simp [g1], by simp [g3], by simp [g5], by simp [g7], by simp [g19, insA], by simp [g20], by simp, by omega, fin _ (by simp [insV, opI, at0, hp, hq]) _⟩
  · have hi' : i = T.L.length := by have : ¬ i < T.L.length := by simpa using hc
                                    omega
    subst hi'
    rw [List.take_length, padI_all (valsV_len _ _ _)] at hJ2
    have hol : T.out.length ≤ 1000 := by rw [hT.len]; exact hsm.1
    have hlen := valsV_len x t T.L
    have hval : allV (valsV T.L x t) := valsV_valid hx ht hT.num
    have hev : evalT T x t = T.out.map fun k : Nat => at0 (valsV T.L x t) (k : Int) := rfl
    have hJl : 2 < J.length := (List.getElem?_eq_some_iff.1 hJ2).1
    rw [hev]
    generalize valsV T.L x t = l at *
    simp [g3, ↓old hJ0, hJ0, tpA, outA]
    refine bind_if (by omega) ?_
    simp [g3, ↓old hJ0, hJ0, tpA, outA]
    refine loop_count (LTo T l H (H.length + J.length)) (fun i => T.out.length - i) 0 ⟨by simp [g7], by simp, by simp [outA], by simp, by simp, by omega, J ++ [.row true 2 (List.replicate T.out.length (iv (0, 0)))], J.length, by simp, rfl, by omega, get_old hJ2, by simp [padI_nil]⟩ ?_
    clear hJ0 hJ1 hJ2 hJl g1 g3 g5 g7 g19 g20 g21 hi hc
    rintro i fr H' ⟨g7, g11, g96, g97, g98, hi, J', k, rfl, hbk, hk2, hJ2, hJk⟩
    simp [g97, g98]
    refine branch (fun hc => ?_) (fun hc => ?_)
    · have hlt : i < T.out.length := by simpa using hc
      obtain ⟨o, ho⟩ := get_lt hlt
      have hoE : ∀ h, T.out[i]'h = o := fun h => (List.getElem?_eq_some_iff.1 ho).2
      have hol2 : o < T.L.length := hT.out o (List.mem_of_getElem? ho)
      obtain ⟨p, hp⟩ := get_lt (l := l) (i := o) (by omega)
      have hpE : ∀ h, l[o]'h = p := fun h => (List.getElem?_eq_some_iff.1 hp).2
      have w2 : IntKind.i64.wrap ((i : Int) + 1) = ((i + 1 : Nat) : Int) := by rw [wrap64 (by omega) (by omega)]; omega
      obtain ⟨W, hW⟩ : ∃ W, W = padI ((T.out.take i).map fun k : Nat => at0 l k) T.out.length := ⟨_, rfl⟩
      have hil : ((T.out.take i).map fun k : Nat => at0 l k).length = i := by simp; omega
      have hWl : W.length = T.out.length := by rw [hW]; exact padI_len (by omega)
      have hW0 : W[i]? = some (iv (0, 0)) := by rw [hW]; exact padI_zero (by omega) hlt
      have hW0E : ∀ h, W[i]'h = iv (0, 0) := fun h => (List.getElem?_eq_some_iff.1 hW0).2
      have hWset : W.set i (iv p) = padI ((T.out.take (i + 1)).map fun k : Nat => at0 l k) T.out.length := by
        have := padI_set (l := (T.out.take i).map fun k : Nat => at0 l k) (n := T.out.length) (p := p) (by omega)
        rw [hil] at this
        rw [hW, this, List.take_add_one, ho]
        simp [at0, hp]
      rw [← hW] at hJk
      obtain rfl : k = J.length := by omega
      simp [g7, g11, g96, g98, outA, ho, hoE, hJ2, hJk, hlen, hol2, hp, hpE, hWl, hlt, hW0, hW0E, w2]
      refine ⟨i + 1, by show T.out.length - (i + 1) < T.out.length - i; omega, by simp [g7], by simp [g11], by simp [g96, outA], by simp [g97], by simp, by omega, J'.set J.length (.row true 2 (W.set i (iv p))), J.length, by simp, rfl, hk2, ?_, ?_⟩
      · rw [List.getElem?_set_ne hk2]; exact hJ2
      · rw [hWset]; exact set_get hJk
    · have hi' : i = T.out.length := by have : ¬ i < T.out.length := by simpa using hc
                                        omega
      subst hi'
      rw [List.take_length, padI_all (by simp)] at hJk
      simp
      obtain rfl : k = J.length := by omega
      exact finS (t := 6) (v := .ref (H.length + J.length) T.out.length) (v0 := .nilslice) (sz := 2) (xs := (T.out.map fun k : Nat => at0 l k).map iv) (by rfl) (by simp [g11]) (.inr ⟨J.length, by simp, hJk⟩) rfl (iv_noFs _ _)
end Go.Proofs.YtfjjckepnkkgjaaGreatDoor.Arm

namespace Go.Proofs.YtfjjckepnkkgjaaGreatDoor.Arm
open Go.Arm Go.Pl
theorem app_row {H : AH} {t e : TypeId} {i ie : TI} {x : AV} {l : List AV} {b n sz : Nat} {f : Bool} (hi : tab t = some i) (hd : i.d = .slice e) (he : tab e = some ie) (h1 : ie.size = sz) (h0 : 0 < sz) (hx : ([x].all fun y => y.cells.length == sz && y.cells.all okc) = true) (hz : (vcells ie.zero).map List.length = some sz) (hb : ie.bytes ≤ 1000) (hn : l.length = n) (hnb : n ≤ 1000000000) (hH : H[b]? = some (.row true sz l)) :
    appendA tab H t (.ref b n) (.slice [x] f) = some (.ref b (n + 1), H.set b (.row true sz (l ++ [x]))) := by
  subst hn
  have h2 : appendA tab H t (.ref b l.length) (.slice [x] f) = growA ie H (.ref b l.length) [x] := by
    simp only [appendA, hi, hd, he, els]
    rw [if_neg (by simp), if_pos ⟨by omega, by rw [h1]; exact hz, by rw [h1]; exact hx⟩]
  have hk : (l.length + 1) * ie.bytes ≤ 1000000001 * 1000 := Nat.mul_le_mul (by omega) hb
  rw [h2]
  simp only [growA, hH]
  rw [if_pos (by simp [h1]; omega)]
  simp [h1]
theorem app_iv {H : AH} {p : I} {l : List AV} {b n : Nat} {f : Bool} (hn : l.length = n) (hnb : n ≤ 1000000000) (hH : H[b]? = some (.row true 2 l)) :
    appendA tab H 26 (.ref b n) (.slice [iv p] f) = some (.ref b (n + 1), H.set b (.row true 2 (l ++ [iv p]))) :=
  app_row tab26 rfl tab54 rfl (by decide) (by simp [okc]) (by simp) (by decide) hn hnb hH
end Go.Proofs.YtfjjckepnkkgjaaGreatDoor.Arm

namespace Go.Proofs.YtfjjckepnkkgjaaGreatDoor.Arm
open Go.Arm Go.Pl
theorem r8Arity (op : Int) (H : AH) : Sound E 90 [.int .i64 op] H (.ret (.int .i64 (arity op))) H := by
  refine sound_of_awp tabOk mixed Tryz.func90 rfl (by rfl) Tryz.ntmps90 (by kernel_rfl) (by simp) ?_
  by_cases h1 : 1 ≤ op
  · by_cases h3 : op ≤ 3
    · have e : arity op = 0 := by unfold arity; rw [if_pos (by omega)]
      simp [h1, h3]
      exact fin0 (rs := [.tmp 2]) (by rfl) (by simp [resA, e])
    · by_cases h4 : op ≤ 6
      · have e : arity op = 1 := by unfold arity; rw [if_neg (by omega), if_pos (by omega)]
        have h5 : 4 ≤ op := by omega
        simp [h1, h3, h4, h5]
        exact fin0 (rs := [.tmp 2]) (by rfl) (by simp [resA, e])
      · by_cases h6 : op ≤ 10
        · have e : arity op = 2 := by unfold arity; rw [if_neg (by omega), if_neg (by omega), if_pos (by omega)]
          have h5 : 4 ≤ op := by omega
          have h7 : 7 ≤ op := by omega
          simp [h1, h3, h4, h5, h6, h7]
          exact fin0 (rs := [.tmp 2]) (by rfl) (by simp [resA, e])
        · have e : arity op = -1 := by unfold arity; rw [if_neg (by omega), if_neg (by omega), if_neg (by omega)]
          have h5 : 4 ≤ op := by omega
          have h7 : 7 ≤ op := by omega
          simp [h1, h3, h4, h5, h6, h7]
          exact fin0 (rs := [.tmp 2]) (by rfl) (by simp [resA, e])
  · have e : arity op = -1 := by unfold arity; rw [if_neg (by omega), if_neg (by omega), if_neg (by omega)]
    have h5 : ¬ 4 ≤ op := by omega
    have h7 : ¬ 7 ≤ op := by omega
    simp [h1, h5, h7]
    exact fin0 (rs := [.tmp 2]) (by rfl) (by simp [resA, e])
theorem ins_noFs (l : List Ins) (n : Nat) : noFs n (l.map insA) = true := noFs_iff.2 fun x hx => by obtain ⟨y, _, rfl⟩ := List.mem_map.1 hx; simp [insA, noF, noFs]
end Go.Proofs.YtfjjckepnkkgjaaGreatDoor.Arm

namespace Go.Proofs.YtfjjckepnkkgjaaGreatDoor.Arm
open Go.Arm Go.Pl
def nrb (l : List I) (w : Int) (n : Nat) : List I := (List.range n).map fun k => nearI ((l[k]?).getD (0, 0)) w
theorem nrb_succ (l : List I) (w : Int) (n : Nat) : nrb l w (n + 1) = nrb l w n ++ [nearI ((l[n]?).getD (0, 0)) w] := by simp [nrb, List.range_succ]
theorem nrb_len (l : List I) (w : Int) (n : Nat) : (nrb l w n).length = n := by simp [nrb]
theorem nearI_valid (p : I) {w : Int} (hw : 1 ≤ w ∧ w ≤ 1000000) : vB (nearI p w) = true := near_valid p hw
def LBo (l : List I) (w : Int) (n : Nat) (H : AH) (i : Nat) (fr : AFr) (H' : AH) : Prop :=
  fr 0 = bx l ∧ fr 1 = .int .i64 n ∧ fr 2 = .int .i64 w ∧ fr 8 = .int .i64 i ∧ i ≤ n ∧ ∃ J, H' = H ++ J ∧ Acc H J (fr 7) 2 ((nrb l w i).map iv) (.slice [] true)
theorem r8Boxes (l : List I) (n : Nat) (w : Int) (hn : n ≤ 1000000) (hw : 1 ≤ w ∧ w ≤ 1000000) (hl : l.length ≤ 200000000000000) (H : AH) : Sound E 28 [bx l, .int .i64 n, .int .i64 w] H (.ret (bx (nrb l w n))) H := by
  refine sound_of_awp tabOk mixed Tryz.func28 rfl (by rfl) Tryz.ntmps28 (by kernel_rfl) (by simp) ?_
  simp [bx]
  refine loop_count (LBo l w n H) (fun i => n - i) 0 ⟨by simp [bx], by simp, by simp, by simp, by omega, [], by simp, .inl ⟨by simp [nrb], by simp⟩⟩ ?_
  rintro i fr H' ⟨g0, g1, g2, g8, hi, J, rfl, hacc⟩
  simp [g1, g8]
  refine branch (fun hc => ?_) (fun hc => ?_)
  · have hlt : i < n := by simpa using hc
    have w2 : IntKind.i64.wrap ((i : Int) + 1) = ((i + 1 : Nat) : Int) := by rw [wrap64 (by omega) (by omega)]; omega
    simp [g0, g8, bx]
    refine branch (fun hc2 => ?_) (fun hc2 => ?_)
    · have hlt2 : i < l.length := by simpa using hc2
      obtain ⟨p, hp⟩ := get_lt hlt2
      have hpE : ∀ h, l[i]'h = p := fun h => (List.getElem?_eq_some_iff.1 hp).2
      simp [g0, g2, g8, bx, hp, hpE]
      refine call_ret (rNear p w hw _) ?_
      simp
      obtain ⟨v', J', hap, hacc', _⟩ := pushIv (p := nearI p w) (hacc.len (L := [.row true 2 [iv p]])) rfl (by rw [nrb_len]; omega)
      refine bind_some (by simpa [iv] using hap) ?_
      simp [g8, w2]
      exact ⟨i + 1, by show n - (i + 1) < n - i; omega, by simp [g0, bx], by simp [g1], by simp [g2], by simp, by omega, J', rfl, by rw [nrb_succ]; simpa [hp] using hacc'⟩
    · have hlt2 : l[i]? = none := by
        have : ¬ i < l.length := by simpa using hc2
        rw [List.getElem?_eq_none_iff]; omega
      simp [g2]
      refine call_ret (rNear (0, 0) w hw _) ?_
      simp
      obtain ⟨v', J', hap, hacc', _⟩ := pushIv (p := nearI (0, 0) w) (hacc.len (L := [.row true 2 [iv (0, 0)]])) rfl (by rw [nrb_len]; omega)
      refine bind_some (by simpa [iv] using hap) ?_
      simp [g8, w2]
      exact ⟨i + 1, by show n - (i + 1) < n - i; omega, by simp [g0, bx], by simp [g1], by simp [g2], by simp, by omega, J', rfl, by rw [nrb_succ]; simpa [hlt2] using hacc'⟩
  · have hi' : i = n := by have : ¬ i < n := by simpa using hc
                           omega
    subst hi'
    simp
    exact finS (t := 6) (by rfl) (by simp) hacc rfl (iv_noFs _ _)
end Go.Proofs.YtfjjckepnkkgjaaGreatDoor.Arm

namespace Go.Proofs.YtfjjckepnkkgjaaGreatDoor.Arm
open Go.Arm Go.Pl
theorem iSqrtN (p : I) (h0 : p.2 < 0) (H : AH) : Sound E 208 [iv p] H (.ret (.tuple [iv (0, 0), .bool false])) H := by
  refine sound_of_awp tabOk mixed Tryz.func208 rfl (by rfl) Tryz.ntmps208 (by kernel_rfl) (by simp) ?_
  have h1 : entB p = false := by
    cases h : entB p with
    | false => rfl
    | true => rw [entB_iff] at h; subst h; simp [ent] at h0
  simp
  refine call_ret (iIsEntire p _) ?_
  simp [h1, h0]
  exact finC (rs := [.cell 2 54, .tmp 3]) (vs := [iv (0, 0), .bool false]) (vs' := [iv (0, 0), .bool false]) (by rfl) (by simp [resA]) (by simp; rfl) (by simp [noF, noFs]) rfl
def sqrtR (p : I) : I := if p.2 < 0 then (0, 0) else sqrt p
theorem iSqrtA (p : I) (hp : vB p = true) (H : AH) : Sound E 208 [iv p] H (.ret (.tuple [iv (sqrtR p), .bool (decide (0 ≤ p.2))])) H := by
  by_cases h : p.2 < 0
  · have e : sqrtR p = (0, 0) := by simp [sqrtR, h]
    have e2 : decide (0 ≤ p.2) = false := by simp; omega
    rw [e, e2]; exact iSqrtN p h H
  · have e : sqrtR p = sqrt p := by simp [sqrtR, h]
    have e2 : decide (0 ≤ p.2) = true := by simp; omega
    rw [e, e2]; exact iSqrt p hp (by omega) H
theorem rootI_nonneg {p : I} (hp : vB p = true) (h : 0 ≤ p.1) : sqrtR p = rootI p := by
  have := vB_bounds hp
  have h1 : ¬ p.2 < 0 := by omega
  have h2 : ¬ p.1 < 0 := by omega
  simp [sqrtR, rootI, h1, h2]
theorem sUnit (H : AH) : Sound E 212 [] H (.ret (iv (65536, 65536))) H := by
  refine sound_of_awp tabOk mixed Tryz.func212 rfl (by rfl) Tryz.ntmps212 (by kernel_rfl) (by simp) ?_
  simp
  refine call_ret (iPoint _ _) ?_
  simp
  exact fin1 (rs := [.cell 0 54]) (by rfl) (by simp [resA, pt, mk, numB]) (by simp [noFs, noF])
theorem sNum (p : I) (H : AH) : Sound E 183 [iv p] H (.ret (iv p)) H := by
  refine sound_of_awp tabOk mixed Tryz.func183 rfl (by rfl) Tryz.ntmps183 (by kernel_rfl) (by simp) ?_
  simp
  exact fin1 (rs := [.cell 2 54]) (by rfl) (by simp [resA]) (by simp [noFs, noF])
theorem sDivide (p : I) (k : Int) (hp : vB p = true) (hk : 1 ≤ k ∧ k ≤ 1000000) (H : AH) : Sound E 189 [iv p, .int .i64 k] H (.ret (iv (mulr p 1 k))) H := by
  refine sound_of_awp tabOk mixed Tryz.func189 rfl (by rfl) Tryz.ntmps189 (by kernel_rfl) (by simp) ?_
  have w1 : IntKind.i64.wrap k = k := wrap64 (by omega) (by omega)
  simp [w1]
  refine call_ret (iMulRatio p 1 k hp (by omega) (by omega) _) ?_
  simp
  exact fin1 (rs := [.cell 4 54]) (by rfl) (by simp [resA]) (by simp [noFs, noF])
def algA : AV := .agg [fnA 183, fnA 184, fnA 175, fnA 185, fnA 174, fnA 186, fnA 187, fnA 188, fnA 189]
theorem sIntervals (H : AH) : Sound E 166 [] H (.ret algA) H := by
  refine sound_of_awp tabOk mixed Tryz.func166 rfl (by rfl) Tryz.ntmps166 (by kernel_rfl) (by simp) ?_
  simp
  exact fin1 (rs := [.cell 0 222]) (by rfl) (by simp [resA, algA, fnA]) (by simp [noFs, noF, algA, fnA])
end Go.Proofs.YtfjjckepnkkgjaaGreatDoor.Arm

namespace Go.Proofs.YtfjjckepnkkgjaaGreatDoor.Arm
open Go.Arm Go.Pl
theorem convI_zero (a b : List I) (frm k : Nat) : convI a b frm 0 k = (0, 0) := rfl
theorem convI_one (a b : List I) (frm k : Nat) : convI a b frm 1 k = mul (atN a frm) (atN b (k - frm)) := rfl
theorem convI_succ (a b : List I) (frm m k : Nat) (hm : 0 < m) : convI a b frm (m + 1) k = add (convI a b frm m k) (mul (atN a (frm + m)) (atN b (k - (frm + m)))) := by
  cases m with
  | zero => omega
  | succ m => rfl
def LCv (a b : List I) (b1 b2 frm tt k : Nat) (H : AH) (i : Nat) (fr : AFr) (H' : AH) : Prop :=
  fr 1 = .ref b1 a.length ∧ fr 2 = .ref b2 b.length ∧ fr 3 = .int .i64 frm ∧ fr 4 = .int .i64 ((tt : Int) - 1) ∧ fr 5 = .int .i64 k ∧ fr 6 = .ptr H.length 1 0 0 ∧ fr 12 = .ptr (H.length + 1) 1 0 0 ∧ fr 13 = .ptr (H.length + 2) 1 0 0 ∧ fr 14 = .int .i64 i ∧ frm ≤ i ∧ i ≤ tt ∧
  ∃ J, H' = H ++ J ∧ J[0]? = some (.row true 9 [algA]) ∧ J[1]? = some (.row true 2 [iv (0, 0)]) ∧ J[2]? = some (.row true 2 [iv (convI a b frm (i - frm) k)])
theorem sConvolve (a b : List I) (b1 b2 frm tt k : Nat) (w1 w2 : Bool) (ha : allV a) (hb : allV b) (hft : frm ≤ tt) (hta : tt ≤ a.length) (htk : tt ≤ k + 1) (hkb : tt = frm ∨ k - frm < b.length) (hk : k ≤ 1000000) (H : AH) (hb1 : H[b1]? = some (.row w1 2 (a.map iv))) (hb2 : H[b2]? = some (.row w2 2 (b.map iv))) :
    Sound E 209 [algA, .ref b1 a.length, .ref b2 b.length, .int .i64 frm, .int .i64 ((tt : Int) - 1), .int .i64 k] H (.ret (iv (convI a b frm (tt - frm) k))) H := by
  refine sound_of_awp tabOk mixed Tryz.func209 rfl (by rfl) Tryz.ntmps209 (by kernel_rfl) (by simp) ?_
  have hl1 := (List.getElem?_eq_some_iff.1 hb1).1
  have hl2 := (List.getElem?_eq_some_iff.1 hb2).1
  simp [algA, fnA]
  refine call_ret (sNum (0, 0) _) ?_
  simp
  refine loop_count (LCv a b b1 b2 frm tt k H) (fun i => tt - i) frm ⟨by simp, by simp, by simp, by simp, by simp, by simp, by simp, by simp, by simp, by omega, hft, _, rfl, by simp [algA, fnA], by simp, by simp [convI_zero]⟩ ?_
  rintro i fr H' ⟨g1, g2, g3, g4, g5, g6, g12, g13, g14, hfi, hi, J, rfl, hJ0, hJ1, hJ2⟩
  have hJl : 2 < J.length := (List.getElem?_eq_some_iff.1 hJ2).1
  simp [g4, g14]
  refine branch (fun hc => ?_) (fun hc => ?_)
  · have hlt : i < tt := by simp at hc; omega
    obtain ⟨p, hp⟩ := get_lt (l := a) (i := i) (by omega)
    obtain ⟨q, hq⟩ := get_lt (l := b) (i := k - i) (by omega)
    have hpE : ∀ h, a[i]'h = p := fun h => (List.getElem?_eq_some_iff.1 hp).2
    have hqE : ∀ h, b[k - i]'h = q := fun h => (List.getElem?_eq_some_iff.1 hq).2
    have hpv := ha p (List.mem_of_getElem? hp)
    have hqv := hb q (List.mem_of_getElem? hq)
    have wk : IntKind.i64.wrap ((k : Int) - (i : Int)) = ((k - i : Nat) : Int) := by rw [wrap64 (by omega) (by omega)]; omega
    have wi : IntKind.i64.wrap ((i : Int) + 1) = ((i + 1 : Nat) : Int) := by rw [wrap64 (by omega) (by omega)]; omega
    have hia : i < a.length := by omega
    have hkb2 : k - i < b.length := by omega
    simp [g1, g2, g3, g5, g6, g14, ↓old hJ0, hJ0, algA, fnA, hb1, hb2, get_old hb1, get_old hb2, hp, hpE, hq, hqE, wk, hia, hkb2]
    refine callD_ret0 (fun Hx => iMul p q hpv hqv Hx) ?_
    simp
    refine endD [(13, 14)] (by rfl) (by simp [okW, note, Eff.triv, Eff.wr, Eff.none, upTo, newAt]; exact ⟨fun h => by rw [h] at hJl; simp at hJl, by omega, by omega⟩) ?_
    simp [g3, g14]
    have hm : mul p q = mul (atN a i) (atN b (k - i)) := by simp [atN, hp, hq]
    have fin : ∀ (r : I) (K : AH), r = convI a b frm (i + 1 - frm) k → ∃ J2, H ++ ((J.set 2 (.row true 2 [iv r])) ++ K) = H ++ J2 ∧ J2[0]? = some (.row true 9 [algA]) ∧ J2[1]? = some (.row true 2 [iv (0, 0)]) ∧ J2[2]? = some (.row true 2 [iv (convI a b frm (i + 1 - frm) k)]) := by
      intro r K hr
      refine ⟨_, rfl, get_old ?_, get_old ?_, ?_⟩
      · rw [List.getElem?_set_ne (by omega)]; exact hJ0
      · rw [List.getElem?_set_ne (by omega)]; exact hJ1
      · rw [hr]; exact set_get' hJ2
    refine branch (fun hq2 => ?_) (fun hq2 => ?_)
    · have hgt : frm < i := by simp at hq2; omega
      have hcs : add (convI a b frm (i - frm) k) (mul p q) = convI a b frm (i + 1 - frm) k := by
        rw [show i + 1 - frm = (i - frm) + 1 by omega, convI_succ _ _ _ _ _ (by omega), show frm + (i - frm) = i by omega, hm]
      have hcv := convI_valid a b frm (i - frm) k
      simp [g6, g13, ↓old hJ0, algA, fnA, ↓old hJ2, olds hJ2]
      refine call_ret (iAdd _ _ hcv mul_valid _) ?_
      simp [g13, g14, wi, ↓old hJ2, olds hJ2]
      exact ⟨i + 1, by show tt - (i + 1) < tt - i; omega, by simp [g1], by simp [g2], by simp [g3], by simp [g4], by simp [g5], by simp [g6], by simp [g12], by simp [g13], by simp, by omega, by omega, fin _ _ hcs⟩
    · have heq : i = frm := by simp at hq2; omega
      subst heq
      have hcs : mul p q = convI a b i (i + 1 - i) k := by
        rw [show i + 1 - i = 1 by omega, convI_one, hm]
      simp [g13, g14, wi, ↓old hJ2, olds hJ2]
      exact ⟨i + 1, by show tt - (i + 1) < tt - i; omega, by simp [g1], by simp [g2], by simp [g3], by simp [g4], by simp [g5], by simp [g6], by simp [g12], by simp [g13], by simp, by omega, by omega, fin _ _ hcs⟩
  · have hi' : i = tt := by simp at hc; omega
    subst hi'
    simp [g12, g13, hJ1, hJ2]
    exact fin1 (rs := [.cell 12 54]) (by rfl) (by simp [resA, g12, set_get hJ1]) (by simp [noFs, noF])
end Go.Proofs.YtfjjckepnkkgjaaGreatDoor.Arm

namespace Go.Proofs.YtfjjckepnkkgjaaGreatDoor.Arm
open Go.Arm Go.Pl
def Own (H : AH) (v : AV) (q : List I) : Prop := (q = [] ∧ (v = .nilslice ∨ v = .slice [] true)) ∨ ∃ b w, v = .ref b q.length ∧ H[b]? = some (.row w 2 (q.map iv))
def LNq (a b q : List I) (ba bb bq : Nat) (H : AH) (i : Nat) (fr : AFr) (H' : AH) : Prop :=
  fr 0 = .ref ba a.length ∧ fr 1 = .ref bb b.length ∧ fr 2 = .ref bq q.length ∧ fr 6 = .ptr H.length 1 0 0 ∧ fr 7 = .int .i64 q.length ∧ fr 8 = .ptr (H.length + 1) 1 0 0 ∧ fr 9 = .int .i64 i ∧ 1 ≤ i ∧ i ≤ q.length + 1 ∧
  ∃ J, H' = H ++ J ∧ J[0]? = some (.row true 2 [iv (0, 0)]) ∧ J[1]? = some (.row true 2 [iv (convI b q 1 (i - 1) q.length)])
theorem sNextQuotient (a b q : List I) (ba bb : Nat) (w1 w2 : Bool) (v : AV) (ha : allV a) (hb : allV b) (hq : allV q) (hal : q.length < a.length) (hbl : q.length < b.length) (hk : q.length ≤ 1000000) (H : AH) (hba : H[ba]? = some (.row w1 2 (a.map iv))) (hbb : H[bb]? = some (.row w2 2 (b.map iv))) (hv : Own H v q) :
    Sound E 187 [.ref ba a.length, .ref bb b.length, v] H (.ret (iv (nextQ a b q))) H := by
  refine sound_of_awp tabOk mixed Tryz.func187 rfl (by rfl) Tryz.ntmps187 (by kernel_rfl) (by simp) ?_
  have hl1 := (List.getElem?_eq_some_iff.1 hba).1
  have hl2 := (List.getElem?_eq_some_iff.1 hbb).1
  obtain ⟨a0, ha0⟩ := get_lt (l := a) (i := 0) (by omega)
  obtain ⟨b0, hb0⟩ := get_lt (l := b) (i := 0) (by omega)
  have ha0E : ∀ h, a[0]'h = a0 := fun h => (List.getElem?_eq_some_iff.1 ha0).2
  have hb0E : ∀ h, b[0]'h = b0 := fun h => (List.getElem?_eq_some_iff.1 hb0).2
  have ha0v := ha a0 (List.mem_of_getElem? ha0)
  have hb0v := hb b0 (List.mem_of_getElem? hb0)
  have hap : 0 < a.length := by omega
  have hbp : 0 < b.length := by omega
  rcases hv with ⟨rfl, rfl | rfl⟩ | ⟨bq, w, rfl, hbq⟩
  · simp [hba, hbb, get_old hba, get_old hbb, ha0, ha0E, hb0, hb0E, hap, hbp]
    refine callD_ret0 (fun Hx => iDiv a0 b0 ha0v hb0v Hx) ?_
    simp
    refine endD [] (by rfl) (by simp [okW, note, Eff.triv, Eff.wr, Eff.none, upTo, newAt]; omega) ?_
    simp
    exact fin1 (rs := [.cell 6 54]) (by rfl) (by simp [resA, nextQ, atN, ha0, hb0]) (by simp [noFs, noF])
  · simp [hba, hbb, get_old hba, get_old hbb, ha0, ha0E, hb0, hb0E, hap, hbp]
    refine callD_ret0 (fun Hx => iDiv a0 b0 ha0v hb0v Hx) ?_
    simp
    refine endD [] (by rfl) (by simp [okW, note, Eff.triv, Eff.wr, Eff.none, upTo, newAt]; omega) ?_
    simp
    exact fin1 (rs := [.cell 6 54]) (by rfl) (by simp [resA, nextQ, atN, ha0, hb0]) (by simp [noFs, noF])
  by_cases hq0 : q = []
  · subst hq0
    simp [hba, hbb, get_old hba, get_old hbb, ha0, ha0E, hb0, hb0E, hap, hbp, hbq, get_old hbq]
    refine callD_ret0 (fun Hx => iDiv a0 b0 ha0v hb0v Hx) ?_
    simp
    refine endD [] (by rfl) (by simp [okW, note, Eff.triv, Eff.wr, Eff.none, upTo, newAt]; omega) ?_
    simp
    exact fin1 (rs := [.cell 6 54]) (by rfl) (by simp [resA, nextQ, atN, ha0, hb0]) (by simp [noFs, noF])
  have hql : 0 < q.length := List.length_pos_iff.2 hq0
  have hl3 := (List.getElem?_eq_some_iff.1 hbq).1
  have hne : ((q.length : Int) == 0) = false := by rw [beq_eq_false_iff_ne]; omega
  simp [hbq, get_old hbq, hne]
  refine loop_count (LNq a b q ba bb bq H) (fun i => q.length + 1 - i) 1 ⟨by simp, by simp, by simp, by simp, by simp, by simp, by simp, by omega, by omega, _, rfl, by simp, by simp [convI, sumF]⟩ ?_
  rintro i fr H' ⟨g0, g1, g2, g6, g7, g8, g9, h1i, hi, J, rfl, hJ0, hJ1⟩
  have hJl : 1 < J.length := (List.getElem?_eq_some_iff.1 hJ1).1
  simp [g7, g9]
  refine branch (fun hc => ?_) (fun hc => ?_)
  · have hlt : i ≤ q.length := by simp at hc; omega
    obtain ⟨p, hp⟩ := get_lt (l := b) (i := i) (by omega)
    obtain ⟨r, hr⟩ := get_lt (l := q) (i := q.length - i) (by omega)
    have hpE : ∀ h, b[i]'h = p := fun h => (List.getElem?_eq_some_iff.1 hp).2
    have hrE : ∀ h, q[q.length - i]'h = r := fun h => (List.getElem?_eq_some_iff.1 hr).2
    have hpv := hb p (List.mem_of_getElem? hp)
    have hrv := hq r (List.mem_of_getElem? hr)
    have wk : IntKind.i64.wrap ((q.length : Int) - (i : Int)) = ((q.length - i : Nat) : Int) := by rw [wrap64 (by omega) (by omega)]; omega
    have wi : IntKind.i64.wrap ((i : Int) + 1) = ((i + 1 : Nat) : Int) := by rw [wrap64 (by omega) (by omega)]; omega
    have hia : i < b.length := by omega
    have hkb2 : q.length - i < q.length := by omega
    simp [g0, g1, g2, g7, g9, hbb, hbq, get_old hbb, get_old hbq, hp, hpE, hr, hrE, wk, hia, hkb2]
    refine callD_ret0 (fun Hx => iMul p r hpv hrv Hx) ?_
    simp
    refine endD [(11, 12)] (by rfl) (by simp [okW, note, Eff.triv, Eff.wr, Eff.none, upTo, newAt]; omega) ?_
    simp [g9]
    have hm : mul p r = mul (atN b i) (atN q (q.length - i)) := by simp [atN, hp, hr]
    have fin : ∀ (z : I) (K : AH), z = convI b q 1 i q.length → ∃ J2, H ++ ((J.set 1 (.row true 2 [iv z])) ++ K) = H ++ J2 ∧ J2[0]? = some (.row true 2 [iv (0, 0)]) ∧ J2[1]? = some (.row true 2 [iv (convI b q 1 (i + 1 - 1) q.length)]) := by
      intro z K hz
      refine ⟨_, rfl, get_old ?_, ?_⟩
      · rw [List.getElem?_set_ne (by omega)]; exact hJ0
      · rw [hz]; exact set_get' hJ1
    refine branch (fun hq2 => ?_) (fun hq2 => ?_)
    · have hgt : 1 < i := by simp at hq2; omega
      have hcs : add (convI b q 1 (i - 1) q.length) (mul p r) = convI b q 1 i q.length := by
        have := convI_succ b q 1 (i - 1) q.length (by omega)
        rw [show i - 1 + 1 = i by omega, show 1 + (i - 1) = i by omega] at this
        rw [this, hm]
      have hcv := convI_valid b q 1 (i - 1) q.length
      simp [g8, ↓old hJ1, olds hJ1]
      refine call_ret (iAdd _ _ hcv mul_valid _) ?_
      simp [g8, g9, wi, ↓old hJ1, olds hJ1]
      exact ⟨i + 1, by show q.length + 1 - (i + 1) < q.length + 1 - i; omega, by simp [g0], by simp [g1], by simp [g2], by simp [g6], by simp [g7], by simp [g8], by simp, by omega, by omega, fin _ _ hcs⟩
    · have heq : i = 1 := by simp at hq2; omega
      subst heq
      have hcs : mul p r = convI b q 1 1 q.length := by rw [convI_one, hm]
      have wr2 : IntKind.i64.wrap 2 = 2 := wrap64 (by decide) (by decide)
      simp [g8, g9, wr2, ↓old hJ1, olds hJ1]
      exact ⟨2, by show q.length + 1 - 2 < q.length + 1 - 1; omega, by simp [g0], by simp [g1], by simp [g2], by simp [g6], by simp [g7], by simp [g8], by simp, by omega, by omega, fin _ _ hcs⟩
  · have hi' : i = q.length + 1 := by simp at hc; omega
    subst hi'
    rw [show q.length + 1 - 1 = q.length by omega] at hJ1
    obtain ⟨p, hp⟩ := get_lt hal
    have hpE : ∀ h, a[q.length]'h = p := fun h => (List.getElem?_eq_some_iff.1 hp).2
    have hpv := ha p (List.mem_of_getElem? hp)
    have hcv := convI_valid b q 1 q.length q.length
    simp [g0, g1, g6, g7, g8, hba, hbb, get_old hba, get_old hbb, hp, hpE, hb0, hb0E, hal, hbp, hJ1]
    refine callD_ret0 (fun Hx => iSub p _ hpv hcv Hx) ?_
    simp [g1, hbb, get_old hbb, hb0, hb0E, hbp]
    refine callD_ret0 (fun Hx => iDiv _ b0 (sub_valid hpv hcv) hb0v Hx) ?_
    simp [g6, hJ0]
    refine endD [] (by rfl) (by simp [okW, note, Eff.triv, Eff.wr, Eff.none, upTo, newAt]; omega) ?_
    simp [g6]
    exact fin1 (rs := [.cell 6 54]) (by rfl) (by simp [resA, g6, set_get hJ0, nextQ, hq0, atN, hp, hb0]) (by simp [noFs, noF])
end Go.Proofs.YtfjjckepnkkgjaaGreatDoor.Arm

namespace Go.Proofs.YtfjjckepnkkgjaaGreatDoor.Arm
open Go.Arm Go.Pl
end Go.Proofs.YtfjjckepnkkgjaaGreatDoor.Arm

namespace Go.Proofs.YtfjjckepnkkgjaaGreatDoor.Arm
open Go.Arm Go.Pl
end Go.Proofs.YtfjjckepnkkgjaaGreatDoor.Arm

namespace Go.Proofs.YtfjjckepnkkgjaaGreatDoor.Arm
open Go.Arm Go.Pl
theorem sNextRoot (a q : List I) (ba : Nat) (w1 : Bool) (v : AV) (ha : allV a) (hq : allV q) (hal : q.length < a.length) (hk : q.length ≤ 1000000) (H : AH) (hba : H[ba]? = some (.row w1 2 (a.map iv))) (hv : Own H v q) :
    Sound E 188 [.ref ba a.length, v] H (.ret (iv (nextR a q))) H := by
  refine sound_of_awp tabOk mixed Tryz.func188 rfl (by rfl) Tryz.ntmps188 (by kernel_rfl) (by simp) ?_
  have hl1 := (List.getElem?_eq_some_iff.1 hba).1
  obtain ⟨a0, ha0⟩ := get_lt (l := a) (i := 0) (by omega)
  have ha0E : ∀ h, a[0]'h = a0 := fun h => (List.getElem?_eq_some_iff.1 ha0).2
  have ha0v := ha a0 (List.mem_of_getElem? ha0)
  have hap : 0 < a.length := by omega
  rcases hv with ⟨rfl, rfl | rfl⟩ | ⟨bq, w, rfl, hbq⟩
  · simp [hba, get_old hba, ha0, ha0E, hap]
    refine call_ret (iSqrtA a0 ha0v _) ?_
    simp [hba, get_old hba, ha0, ha0E, hap]
    refine branch (fun hc => ?_) (fun hc => ?_)
    · have h0 : 0 ≤ a0.1 := by simpa using hc
      simp
      exact fin1 (rs := [.cell 4 54]) (by rfl) (by simp [resA, nextR, atN, ha0, rootI_nonneg ha0v h0]) (by simp [noFs, noF])
    · have h0 : a0.1 < 0 := by have : ¬ 0 ≤ a0.1 := by simpa using hc
                               omega
      simp
      refine call_ret (iEntire _) ?_
      simp
      exact fin1 (rs := [.cell 4 54]) (by rfl) (by simp [resA, nextR, atN, ha0, rootI, h0]) (by simp [noFs, noF])
  · simp [hba, get_old hba, ha0, ha0E, hap]
    refine call_ret (iSqrtA a0 ha0v _) ?_
    simp [hba, get_old hba, ha0, ha0E, hap]
    refine branch (fun hc => ?_) (fun hc => ?_)
    · have h0 : 0 ≤ a0.1 := by simpa using hc
      simp
      exact fin1 (rs := [.cell 4 54]) (by rfl) (by simp [resA, nextR, atN, ha0, rootI_nonneg ha0v h0]) (by simp [noFs, noF])
    · have h0 : a0.1 < 0 := by have : ¬ 0 ≤ a0.1 := by simpa using hc
                               omega
      simp
      refine call_ret (iEntire _) ?_
      simp
      exact fin1 (rs := [.cell 4 54]) (by rfl) (by simp [resA, nextR, atN, ha0, rootI, h0]) (by simp [noFs, noF])
  by_cases hq0 : q = []
  · subst hq0
    simp [hba, get_old hba, hbq, get_old hbq, ha0, ha0E, hap]
    refine call_ret (iSqrtA a0 ha0v _) ?_
    simp [hba, get_old hba, ha0, ha0E, hap]
    refine branch (fun hc => ?_) (fun hc => ?_)
    · have h0 : 0 ≤ a0.1 := by simpa using hc
      simp
      exact fin1 (rs := [.cell 4 54]) (by rfl) (by simp [resA, nextR, atN, ha0, rootI_nonneg ha0v h0]) (by simp [noFs, noF])
    · have h0 : a0.1 < 0 := by have : ¬ 0 ≤ a0.1 := by simpa using hc
                               omega
      simp
      refine call_ret (iEntire _) ?_
      simp
      exact fin1 (rs := [.cell 4 54]) (by rfl) (by simp [resA, nextR, atN, ha0, rootI, h0]) (by simp [noFs, noF])
  have hql : 0 < q.length := List.length_pos_iff.2 hq0
  have hl3 := (List.getElem?_eq_some_iff.1 hbq).1
  have hne : ((q.length : Int) == 0) = false := by rw [beq_eq_false_iff_ne]; omega
  have wk : IntKind.i64.wrap ((q.length : Int) - 1) = (q.length : Int) - 1 := wrap64 (by omega) (by omega)
  obtain ⟨q0, hq0'⟩ := get_lt (l := q) (i := 0) hql
  have hq0E : ∀ h, q[0]'h = q0 := fun h => (List.getElem?_eq_some_iff.1 hq0').2
  have hq0v := hq q0 (List.mem_of_getElem? hq0')
  obtain ⟨p, hp⟩ := get_lt hal
  have hpE : ∀ h, a[q.length]'h = p := fun h => (List.getElem?_eq_some_iff.1 hp).2
  have hpv := ha p (List.mem_of_getElem? hp)
  have hcv := convI_valid q q 1 (q.length - 1) q.length
  simp [hbq, get_old hbq, hne]
  refine call_ret (sIntervals _) ?_
  simp [wk]
  refine call_ret (sConvolve q q bq bq 1 q.length q.length w w hq hq (by omega) (by omega) (by omega) (by omega) (by omega) _ (get_old hbq) (get_old hbq)) ?_
  simp [hba, hbq, get_old hba, get_old hbq, hp, hpE, hal]
  refine callD_ret0 (fun Hx => iSub p _ hpv hcv Hx) ?_
  simp [hba, hbq, get_old hba, get_old hbq, hq0', hq0E, hql]
  refine callD_ret0 (fun Hx => iMulRatio q0 2 1 hq0v (by omega) (by omega) Hx) ?_
  simp
  refine callD_ret0 (fun Hx => iDiv _ _ (sub_valid hpv hcv) (mulr_valid hq0v (by decide) (by decide)) Hx) ?_
  simp
  refine endD [] (by rfl) (by simp [okW, note, Eff.triv, Eff.wr, Eff.none, upTo, newAt]; omega) ?_
  simp
  exact fin1 (rs := [.cell 4 54]) (by rfl) (by simp [resA, nextR, hq0, atN, hp, hq0']) (by simp [noFs, noF])
end Go.Proofs.YtfjjckepnkkgjaaGreatDoor.Arm

namespace Go.Proofs.YtfjjckepnkkgjaaGreatDoor.Arm
open Go.Arm Go.Pl
theorem callD_rd {g : FuncId} {args : List AV} {next : NxD} {H : AH} {r : AV} (rds : List Nat) (hb : ∀ b ∈ rds, b < H.length) (h : ∀ Hx : AH, (∀ b ∈ rds, Hx[b]? = H[b]?) → Sound E g args Hx (.ret r) Hx)
    (kk : next .go r ⟨rds, [], none, true⟩ H) : callD E (.func (.func g) [] []) args next H :=
  ⟨r, rds, [], ⟨hb, fun p hp => by simp at hp, fun Hx hx => .inl (by rw [List.nil_append, List.append_nil]; exact h Hx hx)⟩, kk⟩
def RowsAt (H : AH) (L : Nat) (cells : List AV) (l : List (List I)) : Prop := H[L]? = some (.row true 1 cells) ∧ cells.length = l.length ∧ ∀ (j : Nat) v q, cells[j]? = some v → l[j]? = some q → Own H v q
theorem RowsAt.get {H : AH} {L : Nat} {cells : List AV} {l : List (List I)} (h : RowsAt H L cells l) {j : Nat} (hj : (rowN l j).length ≠ 0) : ∃ b w, cells[j]? = some (.ref b (rowN l j).length) ∧ H[b]? = some (.row w 2 ((rowN l j).map iv)) ∧ j < l.length := by
  cases hl : l[j]? with
  | none => exfalso; apply hj; simp [rowN, hl]
  | some q =>
    have e : rowN l j = q := by simp [rowN, hl]
    have hlt := (List.getElem?_eq_some_iff.1 hl).1
    obtain ⟨v, hv⟩ := get_lt (l := cells) (i := j) (by rw [h.2.1]; exact hlt)
    rcases h.2.2 j v q hv hl with ⟨h0, _⟩ | ⟨b, w, rfl, hb⟩
    · exfalso; apply hj; rw [e, h0]; rfl
    · rw [e]; exact ⟨b, w, hv, hb, hlt⟩
def nextOk (x : Ins) (l : List (List I)) (k : Nat) : Prop :=
  (x.op = 1 ∧ vB x.c = true) ∨ x.op = 3 ∨ (4 ≤ x.op ∧ x.op ≤ 6 ∧ 0 ≤ x.a ∧ (rowN l x.a).length = k + 1) ∨ (7 ≤ x.op ∧ x.op ≤ 10 ∧ 0 ≤ x.a ∧ 0 ≤ x.b ∧ (rowN l x.a).length = k + 1 ∧ (rowN l x.b).length = k + 1)
theorem sConv0 (a b : List I) (b1 b2 k : Nat) (w1 w2 : Bool) (ha : allV a) (hb : allV b) (hal : a.length = k + 1) (hbl : b.length = k + 1) (hk : k ≤ 100000) (H : AH) (hb1 : H[b1]? = some (.row w1 2 (a.map iv))) (hb2 : H[b2]? = some (.row w2 2 (b.map iv))) :
    Sound E 209 [algA, .ref b1 (k + 1), .ref b2 (k + 1), .int .i64 0, .int .i64 k, .int .i64 k] H (.ret (iv (convI a b 0 (k + 1) k))) H := by
  have := sConvolve a b b1 b2 0 (k + 1) k w1 w2 ha hb (by omega) (by omega) (by omega) (by omega) (by omega) H hb1 hb2
  rw [hal, hbl, show ((k + 1 : Nat) : Int) - 1 = k by omega] at this
  exact this
theorem sNext (x : Ins) (L : Nat) (cells : List AV) (l : List (List I)) (own : List I) (v : AV) (t : I) (hx : nextOk x l own.length) (hL : ∀ q ∈ l, allV q) (ho : allV own) (ht : vB t = true) (hk : own.length ≤ 100000) (H : AH) (hR : RowsAt H L cells l) (hv : Own H v own) :
    Sound E 191 [algA, insA x, .ref L l.length, v, iv t] H (.ret (iv (nextC x l own t))) H := by
  refine sound_of_awp tabOk mixed Tryz.func191 rfl (by rfl) Tryz.ntmps191 (by kernel_rfl) (by simp) ?_
  have hH := hR.1
  have hcl := hR.2.1
  have hLl := (List.getElem?_eq_some_iff.1 hH).1
  have hr : ∀ i, allV (rowN l i) := by
    intro i
    unfold rowN
    cases h : l[i.toNat]? with
    | none => intro p hp; simp at hp
    | some q => exact hL q (List.mem_of_getElem? h)
  have hlen : ∀ K : AH, lenA tab (H ++ K) 26 v = some (.int .i64 own.length) := by
    intro K
    rcases hv with ⟨rfl, rfl | rfl⟩ | ⟨bq, w, rfl, hbq⟩
    · simp [lenA]
    · simp [lenA]
    · simp [lenA, get_old hbq]
  have wz : IntKind.i64.wrap 0 = 0 := wrap64 (by decide) (by decide)
  obtain ⟨o, a, b, c⟩ := x
  have hfin : ∀ (fr : AFr) (J : AH) (p : I), nextC ⟨o, a, b, c⟩ l own t = p → fr 10 = .ptr (H.length + 3) 1 0 0 → J[3]? = some (.row true 2 [iv p]) → bodyK E Tryz.f191 H (.ret (iv (nextC ⟨o, a, b, c⟩ l own t))) H .ret fr (H ++ J) := by
    intro fr J p hp h10 hJ
    rw [hp]
    exact fin1 (rs := [.cell 10 54]) (by rfl) (by simp [resA, h10, hJ]) (by simp [noFs, noF])
  rcases hx with ⟨h1, h2⟩ | h1 | ⟨h1, h2, h3, h4⟩ | ⟨h1, h2, h3, h4, h5, h6⟩
  · simp only at h1 h2
    subst h1
    by_cases k0 : own.length = 0
    · simp only [k0] at hlen
      simp [-lenA, hlen, algA, fnA, insA]
      refine call_ret (sNum c _) ?_
      simp
      exact hfin _ _ c (by simp [nextC, k0]) (by simp) (by simp)
    · have hne : ((own.length : Int) == 0) = false := by rw [beq_eq_false_iff_ne]; omega
      simp [-lenA, hlen, algA, fnA, insA, hne]
      refine call_ret (sNum (0, 0) _) ?_
      simp
      exact hfin _ _ (0, 0) (by simp [nextC, k0]) (by simp) (by simp)
  · simp only at h1
    subst h1
    by_cases k0 : own.length = 0
    · simp only [k0] at hlen
      simp [-lenA, hlen, algA, fnA, insA]
      refine call_ret (sNum t _) ?_
      simp
      exact hfin _ _ t (by simp [nextC, k0]) (by simp) (by simp)
    · by_cases k1 : own.length = 1
      · simp only [k1] at hlen
        simp [-lenA, hlen, algA, fnA, insA]
        refine call_ret (sUnit _) ?_
        simp
        refine call_ret (sNum (65536, 65536) _) ?_
        simp
        exact hfin _ _ (65536, 65536) (by simp [nextC, k1]) (by simp) (by simp)
      · have hne : ((own.length : Int) == 0) = false := by rw [beq_eq_false_iff_ne]; omega
        have hne1 : ((own.length : Int) == 1) = false := by rw [beq_eq_false_iff_ne]; omega
        simp [-lenA, hlen, algA, fnA, insA, hne, hne1]
        refine call_ret (sNum (0, 0) _) ?_
        simp
        exact hfin _ _ (0, 0) (by simp [nextC, k0, k1]) (by simp) (by simp)
  · simp only at h1 h2 h3 h4
    obtain ⟨ka, rfl⟩ : ∃ k : Nat, a = k := ⟨a.toNat, by omega⟩
    obtain ⟨bA, wA, hcA, hbA, hka⟩ := hR.get (j := ka) (by omega)
    rw [h4] at hcA
    have hcAE : ∀ h, cells[ka]'h = .ref bA (own.length + 1) := fun h => (List.getElem?_eq_some_iff.1 hcA).2
    have hAl := (List.getElem?_eq_some_iff.1 hbA).1
    have hva := hr ka
    obtain ⟨p, hp⟩ := get_lt (l := rowN l ka) (i := own.length) (by omega)
    have hpE : ∀ h, (rowN l ka)[own.length]'h = p := fun h => (List.getElem?_eq_some_iff.1 hp).2
    have hpv := hva p (List.mem_of_getElem? hp)
    have ho3 : o = 4 ∨ o = 5 ∨ o = 6 := by omega
    have hkk : (own.length : Int) < (own.length : Int) + 1 := by omega
    have hb2 : own.length < own.length + 1 := by omega
    rcases ho3 with rfl | rfl | rfl
    · simp [-lenA, hlen, algA, fnA, insA, hH, get_old hH, hcA, hcAE, hbA, get_old hbA, hp, hpE, hka, h4, hcl, hkk]
      refine callD_ret0 (fun Hx => iNeg p hpv Hx) ?_
      simp
      refine endD [] (by rfl) (by simp [okW, note, Eff.triv, Eff.wr, Eff.none, upTo, newAt]; omega) ?_
      simp
      exact hfin _ _ (neg p) (by simp [nextC, atN, hp]) (by simp) (by simp)
    · by_cases k0 : own.length = 0
      · rw [k0] at h4 hp hcA
        simp only [k0] at hpE hcAE hlen
        simp [-lenA, hlen, algA, fnA, insA, hH, get_old hH, hcA, hcAE, hbA, get_old hbA, hp, hpE, hka, h4, hcl]
        refine callD_ret0 (fun Hx => iSquare p hpv Hx) ?_
        simp
        refine endD [] (by rfl) (by simp [okW, note, Eff.triv, Eff.wr, Eff.none, upTo, newAt]; omega) ?_
        simp
        exact hfin _ _ (sq p) (by simp [nextC, atN, hp, k0]) (by simp) (by simp)
      · have hne : ((own.length : Int) == 0) = false := by rw [beq_eq_false_iff_ne]; omega
        simp [-lenA, hlen, algA, fnA, insA, hH, get_old hH, hcA, hcAE, hbA, get_old hbA, hp, hpE, hka, h4, hcl, hkk, hne]
        refine callD_rd [bA] (by simp; omega) (fun Hx hx => by
          have e : Hx[bA]? = some (.row wA 2 ((rowN l ka).map iv)) := by rw [hx bA (by simp)]; exact get_old hbA
          simpa [algA, fnA] using sConv0 _ _ bA bA own.length wA wA hva hva h4 h4 (by omega) Hx e e) ?_
        simp
        refine endD [] (by rfl) (by simp [okW, note, Eff.triv, Eff.wr, Eff.none, upTo, newAt]; omega) ?_
        simp
        exact hfin _ _ (convI (rowN l ka) (rowN l ka) 0 (own.length + 1) own.length) (by simp [nextC, k0]) (by simp) (by simp)
    · simp [-lenA, hlen, algA, fnA, insA, hH, get_old hH, hcA, hcAE, hbA, get_old hbA, hp, hpE, hka, h4, hcl, hkk]
      have hS := fun Hx e hv' => sNextRoot (rowN l ka) own bA wA v hva ho (by omega) (by omega) Hx e hv'
      rw [h4] at hS
      rcases hv with ⟨rfl, rfl | rfl⟩ | ⟨bq, w, rfl, hbq⟩
      · refine callD_rd [bA] (by simp; omega) (fun Hx hx => hS Hx (by rw [hx bA (by simp)]; exact get_old hbA) (.inl ⟨rfl, .inl rfl⟩)) ?_
        simp
        refine endD [] (by rfl) (by simp [okW, note, Eff.triv, Eff.wr, Eff.none, upTo, newAt]; omega) ?_
        simp
        exact hfin _ _ (nextR (rowN l ka) []) (by simp [nextC]) (by simp) (by simp)
      · refine callD_rd [bA] (by simp; omega) (fun Hx hx => hS Hx (by rw [hx bA (by simp)]; exact get_old hbA) (.inl ⟨rfl, .inr rfl⟩)) ?_
        simp
        refine endD [] (by rfl) (by simp [okW, note, Eff.triv, Eff.wr, Eff.none, upTo, newAt]; omega) ?_
        simp
        exact hfin _ _ (nextR (rowN l ka) []) (by simp [nextC]) (by simp) (by simp)
      · have hql := (List.getElem?_eq_some_iff.1 hbq).1
        refine callD_rd [bA, bq] (by simp; omega) (fun Hx hx => hS Hx (by rw [hx bA (by simp)]; exact get_old hbA) (.inr ⟨bq, w, rfl, by rw [hx bq (by simp)]; exact get_old hbq⟩)) ?_
        simp
        refine endD [] (by rfl) (by simp [okW, note, Eff.triv, Eff.wr, Eff.none, upTo, newAt]; omega) ?_
        simp
        exact hfin _ _ (nextR (rowN l ka) own) (by simp [nextC]) (by simp) (by simp)
  · simp only at h1 h2 h3 h4 h5 h6
    obtain ⟨ka, rfl⟩ : ∃ k : Nat, a = k := ⟨a.toNat, by omega⟩
    obtain ⟨kb, rfl⟩ : ∃ k : Nat, b = k := ⟨b.toNat, by omega⟩
    obtain ⟨bA, wA, hcA, hbA, hka⟩ := hR.get (j := ka) (by omega)
    obtain ⟨bB, wB, hcB, hbB, hkb⟩ := hR.get (j := kb) (by omega)
    rw [h5] at hcA
    rw [h6] at hcB
    have hcAE : ∀ h, cells[ka]'h = .ref bA (own.length + 1) := fun h => (List.getElem?_eq_some_iff.1 hcA).2
    have hcBE : ∀ h, cells[kb]'h = .ref bB (own.length + 1) := fun h => (List.getElem?_eq_some_iff.1 hcB).2
    have hAl := (List.getElem?_eq_some_iff.1 hbA).1
    have hBl := (List.getElem?_eq_some_iff.1 hbB).1
    have hva := hr ka
    have hvb := hr kb
    obtain ⟨p, hp⟩ := get_lt (l := rowN l ka) (i := own.length) (by omega)
    have hpE : ∀ h, (rowN l ka)[own.length]'h = p := fun h => (List.getElem?_eq_some_iff.1 hp).2
    have hpv := hva p (List.mem_of_getElem? hp)
    obtain ⟨q, hq⟩ := get_lt (l := rowN l kb) (i := own.length) (by omega)
    have hqE : ∀ h, (rowN l kb)[own.length]'h = q := fun h => (List.getElem?_eq_some_iff.1 hq).2
    have hqv := hvb q (List.mem_of_getElem? hq)
    have hkk : (own.length : Int) < (own.length : Int) + 1 := by omega
    have ho4 : o = 7 ∨ o = 8 ∨ o = 9 ∨ o = 10 := by omega
    rcases ho4 with rfl | rfl | rfl | rfl
    · simp [-lenA, hlen, algA, fnA, insA, hH, get_old hH, hcA, hcAE, hbA, get_old hbA, hp, hpE, hka, h5, hcB, hcBE, hbB, get_old hbB, hq, hqE, hkb, h6, hcl, hkk]
      refine callD_ret0 (fun Hx => iAdd p q hpv hqv Hx) ?_
      simp
      refine endD [] (by rfl) (by simp [okW, note, Eff.triv, Eff.wr, Eff.none, upTo, newAt]; omega) ?_
      simp
      exact hfin _ _ (add p q) (by simp [nextC, atN, hp, hq]) (by simp) (by simp)
    · simp [-lenA, hlen, algA, fnA, insA, hH, get_old hH, hcA, hcAE, hbA, get_old hbA, hp, hpE, hka, h5, hcB, hcBE, hbB, get_old hbB, hq, hqE, hkb, h6, hcl, hkk]
      refine callD_ret0 (fun Hx => iSub p q hpv hqv Hx) ?_
      simp
      refine endD [] (by rfl) (by simp [okW, note, Eff.triv, Eff.wr, Eff.none, upTo, newAt]; omega) ?_
      simp
      exact hfin _ _ (sub p q) (by simp [nextC, atN, hp, hq]) (by simp) (by simp)
    · simp [-lenA, hlen, algA, fnA, insA, hH, get_old hH, hcA, hcAE, hbA, get_old hbA, hp, hpE, hka, h5, hcB, hcBE, hbB, get_old hbB, hq, hqE, hkb, h6, hcl, hkk]
      refine callD_rd [bA, bB] (by simp; omega) (fun Hx hx => by
        have e1 : Hx[bA]? = some (.row wA 2 ((rowN l ka).map iv)) := by rw [hx bA (by simp)]; exact get_old hbA
        have e2 : Hx[bB]? = some (.row wB 2 ((rowN l kb).map iv)) := by rw [hx bB (by simp)]; exact get_old hbB
        simpa [algA, fnA] using sConv0 _ _ bA bB own.length wA wB hva hvb h5 h6 (by omega) Hx e1 e2) ?_
      simp
      refine endD [] (by rfl) (by simp [okW, note, Eff.triv, Eff.wr, Eff.none, upTo, newAt]; omega) ?_
      simp
      exact hfin _ _ (convI (rowN l ka) (rowN l kb) 0 (own.length + 1) own.length) (by simp [nextC]) (by simp) (by simp)
    · simp [-lenA, hlen, algA, fnA, insA, hH, get_old hH, hcA, hcAE, hbA, get_old hbA, hp, hpE, hka, h5, hcB, hcBE, hbB, get_old hbB, hq, hqE, hkb, h6, hcl, hkk]
      have hS := fun Hx e e2 hv' => sNextQuotient (rowN l ka) (rowN l kb) own bA bB wA wB v hva hvb ho (by omega) (by omega) (by omega) Hx e e2 hv'
      rw [h5, h6] at hS
      rcases hv with ⟨rfl, rfl | rfl⟩ | ⟨bq, w, rfl, hbq⟩
      · refine callD_rd [bA, bB] (by simp; omega) (fun Hx hx => hS Hx (by rw [hx bA (by simp)]; exact get_old hbA) (by rw [hx bB (by simp)]; exact get_old hbB) (.inl ⟨rfl, .inl rfl⟩)) ?_
        simp
        refine endD [] (by rfl) (by simp [okW, note, Eff.triv, Eff.wr, Eff.none, upTo, newAt]; omega) ?_
        simp
        exact hfin _ _ (nextQ (rowN l ka) (rowN l kb) []) (by simp [nextC]) (by simp) (by simp)
      · refine callD_rd [bA, bB] (by simp; omega) (fun Hx hx => hS Hx (by rw [hx bA (by simp)]; exact get_old hbA) (by rw [hx bB (by simp)]; exact get_old hbB) (.inl ⟨rfl, .inr rfl⟩)) ?_
        simp
        refine endD [] (by rfl) (by simp [okW, note, Eff.triv, Eff.wr, Eff.none, upTo, newAt]; omega) ?_
        simp
        exact hfin _ _ (nextQ (rowN l ka) (rowN l kb) []) (by simp [nextC]) (by simp) (by simp)
      · have hql := (List.getElem?_eq_some_iff.1 hbq).1
        refine callD_rd [bA, bB, bq] (by simp; omega) (fun Hx hx => hS Hx (by rw [hx bA (by simp)]; exact get_old hbA) (by rw [hx bB (by simp)]; exact get_old hbB) (.inr ⟨bq, w, rfl, by rw [hx bq (by simp)]; exact get_old hbq⟩)) ?_
        simp
        refine endD [] (by rfl) (by simp [okW, note, Eff.triv, Eff.wr, Eff.none, upTo, newAt]; omega) ?_
        simp
        exact hfin _ _ (nextQ (rowN l ka) (rowN l kb) own) (by simp [nextC]) (by simp) (by simp)
end Go.Proofs.YtfjjckepnkkgjaaGreatDoor.Arm

namespace Go.Proofs.YtfjjckepnkkgjaaGreatDoor.Arm
open Go.Arm Go.Pl
end Go.Proofs.YtfjjckepnkkgjaaGreatDoor.Arm
