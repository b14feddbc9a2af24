/- The seat's structs and arrays. No condition. -/
import Derived.Test.YtkfhablonnjgeaaDoorLibT
import Derived.Test.YtkfhablonnjgeaaDoorTy
namespace Go.Proofs.YtkfhablonnjgeaaDoor
theorem plan7 : plan Tryd.prog 7 = some ([.int .i64 0, .int .i64 0, .bool false, .int .u8 0], [(0, 1), (1, 1), (2, 1), (3, 1)]) := by kernel_rfl
theorem plan13 : plan Tryd.prog 13 = some ([.string ⟨#[]⟩, .int .u64 0], [(0, 1), (1, 1)]) := by kernel_rfl
theorem plan26 : plan Tryd.prog 26 = some ([.slice none 0 0, .slice none 0 0, .int .i64 0, .slice none 0 0, .int .i64 0, .int .i64 0, .int .i64 0], [(0, 1), (1, 1), (2, 1), (3, 1), (4, 1), (5, 1), (6, 1)]) := by kernel_rfl
theorem plan27 : plan Tryd.prog 27 = some ([.slice none 0 0, .slice none 0 0, .int .i64 0, .slice none 0 0, .int .i64 0, .int .i64 0, .int .i64 0], [(0, 1), (1, 1), (2, 1), (3, 1), (4, 1), (5, 1), (6, 1)]) := by kernel_rfl
theorem plan31 : plan Tryd.prog 31 = some ([.slice none 0 0, .slice none 0 0, .int .i64 0, .slice none 0 0, .int .i64 0, .int .i64 0, .int .i64 0], [(0, 1), (1, 1), (2, 1), (3, 1), (4, 1), (5, 1), (6, 1)]) := by kernel_rfl
theorem plan32 : plan Tryd.prog 32 = some ([.slice none 0 0, .slice none 0 0, .int .i64 0, .slice none 0 0, .int .i64 0, .int .i64 0, .int .i64 0], [(0, 1), (1, 1), (2, 1), (3, 1), (4, 1), (5, 1), (6, 1)]) := by kernel_rfl
theorem plan41 : plan Tryd.prog 41 = some ([.int .i64 0, .int .i64 0, .int .i64 0], [(0, 1), (1, 1), (2, 1)]) := by kernel_rfl
theorem plan42 : plan Tryd.prog 42 = some ([.int .i64 0, .int .i64 0, .int .i64 0], [(0, 1), (1, 1), (2, 1)]) := by kernel_rfl
theorem plan48 : plan Tryd.prog 48 = some ([.int .i64 0, .int .i64 0, .int .i64 0, .int .i64 0, .int .i64 0, .int .i64 0, .int .i64 0, .int .i64 0, .int .i64 0, .float .f64 0, .slice none 0 0, .slice none 0 0, .slice none 0 0, .slice none 0 0], [(0, 1), (1, 1), (2, 1), (3, 1), (4, 1), (5, 1), (6, 1), (7, 1), (8, 1), (9, 1), (10, 1), (11, 1), (12, 1), (13, 1)]) := by kernel_rfl
theorem plan49 : plan Tryd.prog 49 = some ([.int .i64 0, .int .i64 0, .int .i64 0, .int .i64 0, .int .i64 0, .int .i64 0, .int .i64 0, .int .i64 0, .int .i64 0, .float .f64 0, .slice none 0 0, .slice none 0 0, .slice none 0 0, .slice none 0 0], [(0, 1), (1, 1), (2, 1), (3, 1), (4, 1), (5, 1), (6, 1), (7, 1), (8, 1), (9, 1), (10, 1), (11, 1), (12, 1), (13, 1)]) := by kernel_rfl
theorem plan52 : plan Tryd.prog 52 = some ([.int .i64 0, .int .i64 0, .int .i64 0, .slice none 0 0, .slice none 0 0], [(0, 3), (3, 1), (4, 1)]) := by kernel_rfl
theorem plan53 : plan Tryd.prog 53 = some ([.int .i64 0, .int .i64 0, .int .i64 0, .slice none 0 0, .slice none 0 0], [(0, 3), (3, 1), (4, 1)]) := by kernel_rfl
theorem plan90 : plan Tryd.prog 90 = some ([.int .i64 0, .int .i64 0], [(0, 1), (1, 1)]) := by kernel_rfl
theorem plan91 : plan Tryd.prog 91 = some ([.int .i64 0, .int .i64 0], [(0, 1), (1, 1)]) := by kernel_rfl
theorem plan92 : plan Tryd.prog 92 = some ([.int .i64 0, .int .i64 0, .int .i64 0, .int .i64 0, .int .i64 0, .int .i64 0, .int .i64 0, .int .i64 0, .int .i64 0, .int .i64 0, .int .i64 0, .int .i64 0, .int .i64 0, .int .i64 0, .int .i64 0, .int .i64 0], [(0, 2), (2, 2), (4, 2), (6, 2), (8, 2), (10, 2), (12, 2), (14, 2)]) := by kernel_rfl
theorem plan95 : plan Tryd.prog 95 = some ([.int .i64 0, .int .i64 0, .int .i64 0, .int .i64 0, .int .i64 0, .int .i64 0, .int .i64 0, .int .i64 0], [(0, 1), (1, 1), (2, 1), (3, 1), (4, 1), (5, 1), (6, 1), (7, 1)]) := by kernel_rfl
theorem plan104 : plan Tryd.prog 104 = some ([.int .u8 0, .int .u8 0], [(0, 1), (1, 1)]) := by kernel_rfl
theorem plan105 : plan Tryd.prog 105 = some ([.int .u8 0, .int .u8 0], [(0, 1), (1, 1)]) := by kernel_rfl
theorem plan106 : plan Tryd.prog 106 = some ([.int .u8 0, .int .u8 0, .int .u8 0, .int .u8 0, .int .u8 0, .int .u8 0, .int .u8 0, .int .u8 0, .int .u8 0, .int .u8 0, .int .u8 0, .int .u8 0, .int .u8 0, .int .u8 0, .int .u8 0, .int .u8 0, .int .u8 0, .int .u8 0, .int .u8 0, .int .u8 0, .int .u8 0, .int .u8 0, .int .u8 0, .int .u8 0, .int .u8 0, .int .u8 0, .int .u8 0, .int .u8 0, .int .u8 0, .int .u8 0, .int .u8 0, .int .u8 0], [(0, 2), (2, 2), (4, 2), (6, 2), (8, 2), (10, 2), (12, 2), (14, 2), (16, 2), (18, 2), (20, 2), (22, 2), (24, 2), (26, 2), (28, 2), (30, 2)]) := by kernel_rfl
end Go.Proofs.YtkfhablonnjgeaaDoor
