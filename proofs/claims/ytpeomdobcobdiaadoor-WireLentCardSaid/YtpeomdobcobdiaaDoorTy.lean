/- The seat's types, as a table, and that the program's are these. No condition. -/
import Derived.Test.YtpeomdobcobdiaaDoorLibE
import Derived.Test.YtpeomdobcobdiaaDoorProg
namespace Go.Proofs.YtpeomdobcobdiaaDoor
def T : TyTab := [(2, .int .i64), (3, .int .i64), (4, .bool), (5, .int .u8), (6, .int .u8), (9, .string), (10, .string), (11, .string), (12, .int .u64), (15, .pointer 113), (16, .pointer 116), (17, .pointer 125), (21, .int .i32), (22, .slice 5), (24, .int .i64), (36, .slice 22), (37, .int .u32), (40, .slice 3), (53, .int .u64), (55, .float .f64), (73, .int .u64), (75, .slice 77), (79, .pointer 81), (95, .array 16 37), (107, .array 256 5), (110, .array 16 109), (114, .array 0 16), (118, .int .u8), (119, .int .u8), (121, .pointer 5), (122, .int .i32), (123, .int .i32)]
theorem el2 : Elem Tryd.prog 2 (.int .i64 0) 1 8 := Elem.of (by kernel_rfl) rfl (by decide)
theorem el3 : Elem Tryd.prog 3 (.int .i64 0) 1 8 := Elem.of (by kernel_rfl) rfl (by decide)
theorem el4 : Elem Tryd.prog 4 (.bool false) 1 1 := Elem.of (by kernel_rfl) rfl (by decide)
theorem el5 : Elem Tryd.prog 5 (.int .u8 0) 1 1 := Elem.of (by kernel_rfl) rfl (by decide)
theorem el7 : Elem Tryd.prog 7 (.agg #[.int .i64 0, .int .i64 0, .bool false, .int .u8 0]) 4 24 := Elem.of (by kernel_rfl) rfl (by decide)
theorem el9 : Elem Tryd.prog 9 (.string ⟨#[]⟩) 1 16 := Elem.of (by kernel_rfl) rfl (by decide)
theorem el12 : Elem Tryd.prog 12 (.int .u64 0) 1 8 := Elem.of (by kernel_rfl) rfl (by decide)
theorem el13 : Elem Tryd.prog 13 (.agg #[.string ⟨#[]⟩, .int .u64 0]) 2 24 := Elem.of (by kernel_rfl) rfl (by decide)
theorem el18 : Elem Tryd.prog 18 (.agg #[.pointer none]) 1 8 := Elem.of (by kernel_rfl) rfl (by decide)
theorem el21 : Elem Tryd.prog 21 (.int .i32 0) 1 4 := Elem.of (by kernel_rfl) rfl (by decide)
theorem el22 : Elem Tryd.prog 22 (.slice none 0 0) 1 24 := Elem.of (by kernel_rfl) rfl (by decide)
theorem el36 : Elem Tryd.prog 36 (.slice none 0 0) 1 24 := Elem.of (by kernel_rfl) rfl (by decide)
theorem el37 : Elem Tryd.prog 37 (.int .u32 0) 1 4 := Elem.of (by kernel_rfl) rfl (by decide)
theorem el40 : Elem Tryd.prog 40 (.slice none 0 0) 1 24 := Elem.of (by kernel_rfl) rfl (by decide)
theorem el53 : Elem Tryd.prog 53 (.int .u64 0) 1 8 := Elem.of (by kernel_rfl) rfl (by decide)
theorem el55 : Elem Tryd.prog 55 (.float .f64 0) 1 8 := Elem.of (by kernel_rfl) rfl (by decide)
theorem el73 : Elem Tryd.prog 73 (.int .u64 0) 1 8 := Elem.of (by kernel_rfl) rfl (by decide)
theorem el75 : Elem Tryd.prog 75 (.slice none 0 0) 1 24 := Elem.of (by kernel_rfl) rfl (by decide)
theorem el76 : Elem Tryd.prog 76 (.agg #[.int .i64 0, .int .i64 0]) 2 16 := Elem.of (by kernel_rfl) rfl (by decide)
theorem el77 : Elem Tryd.prog 77 (.agg #[.int .i64 0, .int .i64 0]) 2 16 := Elem.of (by kernel_rfl) rfl (by decide)
theorem el80 : Elem Tryd.prog 80 (.agg #[.slice none 0 0, .slice none 0 0]) 2 48 := Elem.of (by kernel_rfl) rfl (by decide)
theorem el81 : Elem Tryd.prog 81 (.agg #[.slice none 0 0, .slice none 0 0]) 2 48 := Elem.of (by kernel_rfl) rfl (by decide)
theorem el84 : Elem Tryd.prog 84 (.agg #[.int .i64 0, .int .i64 0, .int .u64 0, .string ⟨#[]⟩, .slice none 0 0]) 5 64 := Elem.of (by kernel_rfl) rfl (by decide)
theorem el85 : Elem Tryd.prog 85 (.agg #[.int .i64 0, .int .i64 0, .int .u64 0, .string ⟨#[]⟩, .slice none 0 0]) 5 64 := Elem.of (by kernel_rfl) rfl (by decide)
theorem el95 : Elem Tryd.prog 95 (.agg #[.int .u32 0, .int .u32 0, .int .u32 0, .int .u32 0, .int .u32 0, .int .u32 0, .int .u32 0, .int .u32 0, .int .u32 0, .int .u32 0, .int .u32 0, .int .u32 0, .int .u32 0, .int .u32 0, .int .u32 0, .int .u32 0]) 16 64 := Elem.of (by kernel_rfl) rfl (by decide)
theorem el108 : Elem Tryd.prog 108 (.agg #[.int .u8 0, .int .u8 0]) 2 2 := Elem.of (by kernel_rfl) rfl (by decide)
theorem el109 : Elem Tryd.prog 109 (.agg #[.int .u8 0, .int .u8 0]) 2 2 := Elem.of (by kernel_rfl) rfl (by decide)
theorem el110 : Elem Tryd.prog 110 (.agg #[.int .u8 0, .int .u8 0, .int .u8 0, .int .u8 0, .int .u8 0, .int .u8 0, .int .u8 0, .int .u8 0, .int .u8 0, .int .u8 0, .int .u8 0, .int .u8 0, .int .u8 0, .int .u8 0, .int .u8 0, .int .u8 0, .int .u8 0, .int .u8 0, .int .u8 0, .int .u8 0, .int .u8 0, .int .u8 0, .int .u8 0, .int .u8 0, .int .u8 0, .int .u8 0, .int .u8 0, .int .u8 0, .int .u8 0, .int .u8 0, .int .u8 0, .int .u8 0]) 32 32 := Elem.of (by kernel_rfl) rfl (by decide)
theorem el112 : Elem Tryd.prog 112 (.agg #[.pointer none, .pointer none, .pointer none, .string ⟨#[]⟩]) 4 40 := Elem.of (by kernel_rfl) rfl (by decide)
theorem el121 : Elem Tryd.prog 121 (.pointer none) 1 8 := Elem.of (by kernel_rfl) rfl (by decide)
theorem hT : TabOk Tryd.prog T := ⟨Tryd.underlying2, Tryd.underlying3, Tryd.underlying4, Tryd.underlying5, Tryd.underlying6, Tryd.underlying9, Tryd.underlying10, Tryd.underlying11, Tryd.underlying12, Tryd.underlying15, Tryd.underlying16, Tryd.underlying17, Tryd.underlying21, Tryd.underlying22, Tryd.underlying24, Tryd.underlying36, Tryd.underlying37, Tryd.underlying40, Tryd.underlying53, Tryd.underlying55, Tryd.underlying73, Tryd.underlying75, Tryd.underlying79, Tryd.underlying95, Tryd.underlying107, Tryd.underlying110, Tryd.underlying114, Tryd.underlying118, Tryd.underlying119, Tryd.underlying121, Tryd.underlying122, Tryd.underlying123, trivial⟩
end Go.Proofs.YtpeomdobcobdiaaDoor
