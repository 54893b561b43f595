import Derived.Test.YtncfieaimmpapaaAmI
import Derived.Test.YtncfieaimmpapaaCS
import Derived.Test.YtncfieaimmpapaaProg
import Derived.KernelRfl
set_option linter.unusedVariables false
set_option linter.unusedSimpArgs false
open Go Go.Am Go.Proofs
namespace T
theorem ty2 : ty Try.prog 2 = { kind := 5, size := 1, bytes := 8, elem := 0, len := 0, zero := some [.int .i64 0], flds := [] } := by kernel_rfl
theorem ty3 : ty Try.prog 3 = { kind := 5, size := 1, bytes := 8, elem := 0, len := 0, zero := some [.int .i64 0], flds := [] } := by kernel_rfl
theorem ty4 : ty Try.prog 4 = { kind := 6, size := 1, bytes := 1, elem := 0, len := 0, zero := some [.bool false], flds := [] } := by kernel_rfl
theorem ty5 : ty Try.prog 5 = { kind := 5, size := 1, bytes := 1, elem := 0, len := 0, zero := some [.int .u8 0], flds := [] } := by kernel_rfl
theorem ty6 : ty Try.prog 6 = { kind := 5, size := 1, bytes := 1, elem := 0, len := 0, zero := some [.int .u8 0], flds := [] } := by kernel_rfl
theorem ty7 : ty Try.prog 7 = { kind := 3, size := 4, bytes := 24, elem := 0, len := 0, zero := some [.int .i64 0, .int .i64 0, .bool false, .int .u8 0], flds := [(0, 2, 1), (1, 3, 1), (2, 4, 1), (3, 6, 1)] } := by kernel_rfl
theorem ty8 : ty Try.prog 8 = { kind := 3, size := 4, bytes := 24, elem := 0, len := 0, zero := some [.int .i64 0, .int .i64 0, .bool false, .int .u8 0], flds := [(0, 2, 1), (1, 3, 1), (2, 4, 1), (3, 6, 1)] } := by kernel_rfl
theorem ty9 : ty Try.prog 9 = { kind := 4, size := 1, bytes := 16, elem := 0, len := 0, zero := some [.string ⟨#[]⟩], flds := [] } := by kernel_rfl
theorem ty10 : ty Try.prog 10 = { kind := 4, size := 1, bytes := 16, elem := 0, len := 0, zero := some [.string ⟨#[]⟩], flds := [] } := by kernel_rfl
theorem ty11 : ty Try.prog 11 = { kind := 4, size := 1, bytes := 16, elem := 0, len := 0, zero := some [.string ⟨#[]⟩], flds := [] } := by kernel_rfl
theorem ty12 : ty Try.prog 12 = { kind := 5, size := 1, bytes := 8, elem := 0, len := 0, zero := some [.int .u64 0], flds := [] } := by kernel_rfl
theorem ty13 : ty Try.prog 13 = { kind := 3, size := 2, bytes := 24, elem := 0, len := 0, zero := some [.string ⟨#[]⟩, .int .u64 0], flds := [(0, 9, 1), (1, 12, 1)] } := by kernel_rfl
theorem ty14 : ty Try.prog 14 = { kind := 3, size := 2, bytes := 24, elem := 0, len := 0, zero := some [.string ⟨#[]⟩, .int .u64 0], flds := [(0, 9, 1), (1, 12, 1)] } := by kernel_rfl
theorem ty15 : ty Try.prog 15 = { kind := 7, size := 1, bytes := 8, elem := 159, len := 0, zero := some [.pointer none], flds := [] } := by kernel_rfl
theorem ty16 : ty Try.prog 16 = { kind := 7, size := 1, bytes := 8, elem := 162, len := 0, zero := some [.pointer none], flds := [] } := by kernel_rfl
theorem ty17 : ty Try.prog 17 = { kind := 7, size := 1, bytes := 8, elem := 170, len := 0, zero := some [.pointer none], flds := [] } := by kernel_rfl
theorem ty18 : ty Try.prog 18 = { kind := 3, size := 1, bytes := 8, elem := 0, len := 0, zero := some [.pointer none], flds := [(0, 17, 1)] } := by kernel_rfl
theorem ty19 : ty Try.prog 19 = { kind := 3, size := 1, bytes := 8, elem := 0, len := 0, zero := some [.pointer none], flds := [(0, 17, 1)] } := by kernel_rfl
theorem ty21 : ty Try.prog 21 = { kind := 5, size := 1, bytes := 4, elem := 0, len := 0, zero := some [.int .i32 0], flds := [] } := by kernel_rfl
theorem ty22 : ty Try.prog 22 = { kind := 1, size := 1, bytes := 24, elem := 3, len := 0, zero := some [.slice none 0 0], flds := [] } := by kernel_rfl
theorem ty25 : ty Try.prog 25 = { kind := 7, size := 1, bytes := 8, elem := 83, len := 0, zero := some [.pointer none], flds := [] } := by kernel_rfl
theorem ty27 : ty Try.prog 27 = { kind := 1, size := 1, bytes := 24, elem := 52, len := 0, zero := some [.slice none 0 0], flds := [] } := by kernel_rfl
theorem ty28 : ty Try.prog 28 = { kind := 1, size := 1, bytes := 24, elem := 62, len := 0, zero := some [.slice none 0 0], flds := [] } := by kernel_rfl
theorem ty29 : ty Try.prog 29 = { kind := 1, size := 1, bytes := 24, elem := 93, len := 0, zero := some [.slice none 0 0], flds := [] } := by kernel_rfl
theorem ty30 : ty Try.prog 30 = { kind := 3, size := 4, bytes := 80, elem := 0, len := 0, zero := some [.slice none 0 0, .slice none 0 0, .slice none 0 0, .int .i64 0], flds := [(0, 27, 1), (1, 28, 1), (2, 29, 1), (3, 3, 1)] } := by kernel_rfl
theorem ty31 : ty Try.prog 31 = { kind := 3, size := 4, bytes := 80, elem := 0, len := 0, zero := some [.slice none 0 0, .slice none 0 0, .slice none 0 0, .int .i64 0], flds := [(0, 27, 1), (1, 28, 1), (2, 29, 1), (3, 3, 1)] } := by kernel_rfl
theorem ty34 : ty Try.prog 34 = { kind := 1, size := 1, bytes := 24, elem := 22, len := 0, zero := some [.slice none 0 0], flds := [] } := by kernel_rfl
theorem ty35 : ty Try.prog 35 = { kind := 5, size := 1, bytes := 8, elem := 0, len := 0, zero := some [.int .i64 0], flds := [] } := by kernel_rfl
theorem ty38 : ty Try.prog 38 = { kind := 3, size := 2, bytes := 16, elem := 0, len := 0, zero := some [.int .i64 0, .int .i64 0], flds := [(0, 3, 1), (1, 3, 1)] } := by kernel_rfl
theorem ty39 : ty Try.prog 39 = { kind := 3, size := 2, bytes := 16, elem := 0, len := 0, zero := some [.int .i64 0, .int .i64 0], flds := [(0, 3, 1), (1, 3, 1)] } := by kernel_rfl
theorem ty42 : ty Try.prog 42 = { kind := 3, size := 2, bytes := 16, elem := 0, len := 0, zero := some [.int .i64 0, .int .i64 0], flds := [(0, 3, 1), (1, 3, 1)] } := by kernel_rfl
theorem ty43 : ty Try.prog 43 = { kind := 3, size := 2, bytes := 16, elem := 0, len := 0, zero := some [.int .i64 0, .int .i64 0], flds := [(0, 3, 1), (1, 3, 1)] } := by kernel_rfl
theorem ty52 : ty Try.prog 52 = { kind := 1, size := 1, bytes := 24, elem := 70, len := 0, zero := some [.slice none 0 0], flds := [] } := by kernel_rfl
theorem ty55 : ty Try.prog 55 = { kind := 2, size := 2, bytes := 16, elem := 3, len := 2, zero := some [.int .i64 0, .int .i64 0], flds := [] } := by kernel_rfl
theorem ty56 : ty Try.prog 56 = { kind := 1, size := 1, bytes := 24, elem := 55, len := 0, zero := some [.slice none 0 0], flds := [] } := by kernel_rfl
theorem ty61 : ty Try.prog 61 = { kind := 3, size := 4, bytes := 48, elem := 0, len := 0, zero := some [.int .i64 0, .int .i64 0, .int .i64 0, .slice none 0 0], flds := [(0, 3, 1), (1, 3, 1), (2, 3, 1), (3, 22, 1)] } := by kernel_rfl
theorem ty62 : ty Try.prog 62 = { kind := 3, size := 4, bytes := 48, elem := 0, len := 0, zero := some [.int .i64 0, .int .i64 0, .int .i64 0, .slice none 0 0], flds := [(0, 3, 1), (1, 3, 1), (2, 3, 1), (3, 22, 1)] } := by kernel_rfl
theorem ty64 : ty Try.prog 64 = { kind := 3, size := 4, bytes := 32, elem := 0, len := 0, zero := some [.int .i64 0, .int .i64 0, .int .i64 0, .int .i64 0], flds := [(0, 3, 1), (1, 3, 1), (2, 3, 1), (3, 3, 1)] } := by kernel_rfl
theorem ty65 : ty Try.prog 65 = { kind := 3, size := 4, bytes := 32, elem := 0, len := 0, zero := some [.int .i64 0, .int .i64 0, .int .i64 0, .int .i64 0], flds := [(0, 3, 1), (1, 3, 1), (2, 3, 1), (3, 3, 1)] } := by kernel_rfl
theorem ty66 : ty Try.prog 66 = { kind := 3, size := 5, bytes := 40, elem := 0, len := 0, zero := some [.int .i64 0, .int .i64 0, .int .i64 0, .int .i64 0, .int .i64 0], flds := [(0, 65, 4), (4, 3, 1)] } := by kernel_rfl
theorem ty67 : ty Try.prog 67 = { kind := 3, size := 5, bytes := 40, elem := 0, len := 0, zero := some [.int .i64 0, .int .i64 0, .int .i64 0, .int .i64 0, .int .i64 0], flds := [(0, 65, 4), (4, 3, 1)] } := by kernel_rfl
theorem ty68 : ty Try.prog 68 = { kind := 1, size := 1, bytes := 24, elem := 81, len := 0, zero := some [.slice none 0 0], flds := [] } := by kernel_rfl
theorem ty69 : ty Try.prog 69 = { kind := 3, size := 6, bytes := 64, elem := 0, len := 0, zero := some [.int .i64 0, .int .i64 0, .int .i64 0, .int .i64 0, .int .i64 0, .slice none 0 0], flds := [(0, 67, 5), (5, 68, 1)] } := by kernel_rfl
theorem ty70 : ty Try.prog 70 = { kind := 3, size := 6, bytes := 64, elem := 0, len := 0, zero := some [.int .i64 0, .int .i64 0, .int .i64 0, .int .i64 0, .int .i64 0, .slice none 0 0], flds := [(0, 67, 5), (5, 68, 1)] } := by kernel_rfl
theorem ty72 : ty Try.prog 72 = { kind := 2, size := 3, bytes := 24, elem := 3, len := 3, zero := some [.int .i64 0, .int .i64 0, .int .i64 0], flds := [] } := by kernel_rfl
theorem ty73 : ty Try.prog 73 = { kind := 1, size := 1, bytes := 24, elem := 72, len := 0, zero := some [.slice none 0 0], flds := [] } := by kernel_rfl
theorem ty77 : ty Try.prog 77 = { kind := 5, size := 1, bytes := 2, elem := 0, len := 0, zero := some [.int .u16 0], flds := [] } := by kernel_rfl
theorem ty80 : ty Try.prog 80 = { kind := 3, size := 2, bytes := 16, elem := 0, len := 0, zero := some [.int .i64 0, .int .i64 0], flds := [(0, 3, 1), (1, 3, 1)] } := by kernel_rfl
theorem ty81 : ty Try.prog 81 = { kind := 3, size := 2, bytes := 16, elem := 0, len := 0, zero := some [.int .i64 0, .int .i64 0], flds := [(0, 3, 1), (1, 3, 1)] } := by kernel_rfl
theorem ty82 : ty Try.prog 82 = { kind := 3, size := 2, bytes := 32, elem := 0, len := 0, zero := some [.slice none 0 0, .int .i64 0], flds := [(0, 22, 1), (1, 3, 1)] } := by kernel_rfl
theorem ty83 : ty Try.prog 83 = { kind := 3, size := 2, bytes := 32, elem := 0, len := 0, zero := some [.slice none 0 0, .int .i64 0], flds := [(0, 22, 1), (1, 3, 1)] } := by kernel_rfl
theorem ty87 : ty Try.prog 87 = { kind := 2, size := 2, bytes := 16, elem := 3, len := 2, zero := some [.int .i64 0, .int .i64 0], flds := [] } := by kernel_rfl
theorem ty91 : ty Try.prog 91 = { kind := 1, size := 1, bytes := 24, elem := 99, len := 0, zero := some [.slice none 0 0], flds := [] } := by kernel_rfl
theorem ty92 : ty Try.prog 92 = { kind := 3, size := 4, bytes := 48, elem := 0, len := 0, zero := some [.int .i64 0, .slice none 0 0, .int .i64 0, .int .i64 0], flds := [(0, 3, 1), (1, 91, 1), (2, 3, 1), (3, 3, 1)] } := by kernel_rfl
theorem ty93 : ty Try.prog 93 = { kind := 3, size := 4, bytes := 48, elem := 0, len := 0, zero := some [.int .i64 0, .slice none 0 0, .int .i64 0, .int .i64 0], flds := [(0, 3, 1), (1, 91, 1), (2, 3, 1), (3, 3, 1)] } := by kernel_rfl
theorem ty98 : ty Try.prog 98 = { kind := 3, size := 3, bytes := 24, elem := 0, len := 0, zero := some [.int .i64 0, .int .i64 0, .int .i64 0], flds := [(0, 3, 1), (1, 3, 1), (2, 3, 1)] } := by kernel_rfl
theorem ty99 : ty Try.prog 99 = { kind := 3, size := 3, bytes := 24, elem := 0, len := 0, zero := some [.int .i64 0, .int .i64 0, .int .i64 0], flds := [(0, 3, 1), (1, 3, 1), (2, 3, 1)] } := by kernel_rfl
theorem ty108 : ty Try.prog 108 = { kind := 1, size := 1, bytes := 24, elem := 4, len := 0, zero := some [.slice none 0 0], flds := [] } := by kernel_rfl
theorem ty114 : ty Try.prog 114 = { kind := 1, size := 1, bytes := 24, elem := 87, len := 0, zero := some [.slice none 0 0], flds := [] } := by kernel_rfl
theorem ty116 : ty Try.prog 116 = { kind := 3, size := 1, bytes := 8, elem := 0, len := 0, zero := some [.int .i64 0], flds := [(0, 3, 1)] } := by kernel_rfl
theorem ty117 : ty Try.prog 117 = { kind := 3, size := 1, bytes := 8, elem := 0, len := 0, zero := some [.int .i64 0], flds := [(0, 3, 1)] } := by kernel_rfl
theorem ty119 : ty Try.prog 119 = { kind := 1, size := 1, bytes := 24, elem := 39, len := 0, zero := some [.slice none 0 0], flds := [] } := by kernel_rfl
theorem ty131 : ty Try.prog 131 = { kind := 7, size := 1, bytes := 8, elem := 133, len := 0, zero := some [.pointer none], flds := [] } := by kernel_rfl
theorem ty132 : ty Try.prog 132 = { kind := 3, size := 1, bytes := 24, elem := 0, len := 0, zero := some [.slice none 0 0], flds := [(0, 22, 1)] } := by kernel_rfl
theorem ty133 : ty Try.prog 133 = { kind := 3, size := 1, bytes := 24, elem := 0, len := 0, zero := some [.slice none 0 0], flds := [(0, 22, 1)] } := by kernel_rfl
theorem ty137 : ty Try.prog 137 = { kind := 2, size := 4, bytes := 32, elem := 3, len := 4, zero := some [.int .i64 0, .int .i64 0, .int .i64 0, .int .i64 0], flds := [] } := by kernel_rfl
theorem ty138 : ty Try.prog 138 = { kind := 5, size := 1, bytes := 8, elem := 0, len := 0, zero := some [.int .u64 0], flds := [] } := by kernel_rfl
theorem ty141 : ty Try.prog 141 = { kind := 7, size := 1, bytes := 8, elem := 117, len := 0, zero := some [.pointer none], flds := [] } := by kernel_rfl
theorem ty142 : ty Try.prog 142 = { kind := 7, size := 1, bytes := 8, elem := 87, len := 0, zero := some [.pointer none], flds := [] } := by kernel_rfl
theorem ty149 : ty Try.prog 149 = { kind := 5, size := 1, bytes := 4, elem := 0, len := 0, zero := some [.int .u32 0], flds := [] } := by kernel_rfl
theorem ty152 : ty Try.prog 152 = { kind := 5, size := 1, bytes := 8, elem := 0, len := 0, zero := some [.int .u64 0], flds := [] } := by kernel_rfl
theorem ty158 : ty Try.prog 158 = { kind := 3, size := 4, bytes := 40, elem := 0, len := 0, zero := some [.pointer none, .pointer none, .pointer none, .string ⟨#[]⟩], flds := [(0, 17, 1), (1, 17, 1), (2, 17, 1), (3, 9, 1)] } := by kernel_rfl
theorem ty159 : ty Try.prog 159 = { kind := 3, size := 4, bytes := 40, elem := 0, len := 0, zero := some [.pointer none, .pointer none, .pointer none, .string ⟨#[]⟩], flds := [(0, 17, 1), (1, 17, 1), (2, 17, 1), (3, 9, 1)] } := by kernel_rfl
theorem ty160 : ty Try.prog 160 = { kind := 2, size := 0, bytes := 0, elem := 16, len := 0, zero := some [], flds := [] } := by kernel_rfl
theorem ty161 : ty Try.prog 161 = { kind := 3, size := 0, bytes := 0, elem := 0, len := 0, zero := some [], flds := [(0, 160, 0)] } := by kernel_rfl
theorem ty162 : ty Try.prog 162 = { kind := 3, size := 0, bytes := 0, elem := 0, len := 0, zero := some [], flds := [(0, 160, 0)] } := by kernel_rfl
theorem ty163 : ty Try.prog 163 = { kind := 5, size := 1, bytes := 1, elem := 0, len := 0, zero := some [.int .u8 0], flds := [] } := by kernel_rfl
theorem ty164 : ty Try.prog 164 = { kind := 5, size := 1, bytes := 1, elem := 0, len := 0, zero := some [.int .u8 0], flds := [] } := by kernel_rfl
theorem ty166 : ty Try.prog 166 = { kind := 7, size := 1, bytes := 8, elem := 5, len := 0, zero := some [.pointer none], flds := [] } := by kernel_rfl
theorem ty167 : ty Try.prog 167 = { kind := 5, size := 1, bytes := 4, elem := 0, len := 0, zero := some [.int .i32 0], flds := [] } := by kernel_rfl
theorem ty168 : ty Try.prog 168 = { kind := 5, size := 1, bytes := 4, elem := 0, len := 0, zero := some [.int .i32 0], flds := [] } := by kernel_rfl
theorem ty169 : ty Try.prog 169 = { kind := 3, size := 11, bytes := 48, elem := 0, len := 0, zero := some [.int .u64 0, .int .u64 0, .int .u32 0, .int .u8 0, .int .u8 0, .int .u8 0, .int .u8 0, .nilFunc, .pointer none, .int .i32 0, .int .i32 0], flds := [(0, 12, 1), (1, 12, 1), (2, 149, 1), (3, 163, 1), (4, 5, 1), (5, 5, 1), (6, 164, 1), (7, 165, 1), (8, 166, 1), (9, 167, 1), (10, 168, 1)] } := by kernel_rfl
theorem ty170 : ty Try.prog 170 = { kind := 3, size := 11, bytes := 48, elem := 0, len := 0, zero := some [.int .u64 0, .int .u64 0, .int .u32 0, .int .u8 0, .int .u8 0, .int .u8 0, .int .u8 0, .nilFunc, .pointer none, .int .i32 0, .int .i32 0], flds := [(0, 12, 1), (1, 12, 1), (2, 149, 1), (3, 163, 1), (4, 5, 1), (5, 5, 1), (6, 164, 1), (7, 165, 1), (8, 166, 1), (9, 167, 1), (10, 168, 1)] } := by kernel_rfl
theorem un2 : Try.prog.underlying 2 = some (.int .i64) := by kernel_rfl
theorem un3 : Try.prog.underlying 3 = some (.int .i64) := by kernel_rfl
theorem un5 : Try.prog.underlying 5 = some (.int .u8) := by kernel_rfl
theorem un6 : Try.prog.underlying 6 = some (.int .u8) := by kernel_rfl
theorem un12 : Try.prog.underlying 12 = some (.int .u64) := by kernel_rfl
theorem un21 : Try.prog.underlying 21 = some (.int .i32) := by kernel_rfl
theorem un35 : Try.prog.underlying 35 = some (.int .i64) := by kernel_rfl
theorem un77 : Try.prog.underlying 77 = some (.int .u16) := by kernel_rfl
theorem un138 : Try.prog.underlying 138 = some (.int .u64) := by kernel_rfl
theorem un149 : Try.prog.underlying 149 = some (.int .u32) := by kernel_rfl
theorem un152 : Try.prog.underlying 152 = some (.int .u64) := by kernel_rfl
theorem un163 : Try.prog.underlying 163 = some (.int .u8) := by kernel_rfl
theorem un164 : Try.prog.underlying 164 = some (.int .u8) := by kernel_rfl
theorem un167 : Try.prog.underlying 167 = some (.int .i32) := by kernel_rfl
theorem un168 : Try.prog.underlying 168 = some (.int .i32) := by kernel_rfl
theorem tys : type_of% ty2 ∧ type_of% ty3 ∧ type_of% ty4 ∧ type_of% ty5 ∧ type_of% ty6 ∧ type_of% ty7 ∧ type_of% ty8 ∧ type_of% ty9 ∧ type_of% ty10 ∧ type_of% ty11 ∧ type_of% ty12 ∧ type_of% ty13 ∧ type_of% ty14 ∧ type_of% ty15 ∧ type_of% ty16 ∧ type_of% ty17 ∧ type_of% ty18 ∧ type_of% ty19 ∧ type_of% ty21 ∧ type_of% ty22 ∧ type_of% ty25 ∧ type_of% ty27 ∧ type_of% ty28 ∧ type_of% ty29 ∧ type_of% ty30 ∧ type_of% ty31 ∧ type_of% ty34 ∧ type_of% ty35 ∧ type_of% ty38 ∧ type_of% ty39 ∧ type_of% ty42 ∧ type_of% ty43 ∧ type_of% ty52 ∧ type_of% ty55 ∧ type_of% ty56 ∧ type_of% ty61 ∧ type_of% ty62 ∧ type_of% ty64 ∧ type_of% ty65 ∧ type_of% ty66 ∧ type_of% ty67 ∧ type_of% ty68 ∧ type_of% ty69 ∧ type_of% ty70 ∧ type_of% ty72 ∧ type_of% ty73 ∧ type_of% ty77 ∧ type_of% ty80 ∧ type_of% ty81 ∧ type_of% ty82 ∧ type_of% ty83 ∧ type_of% ty87 ∧ type_of% ty91 ∧ type_of% ty92 ∧ type_of% ty93 ∧ type_of% ty98 ∧ type_of% ty99 ∧ type_of% ty108 ∧ type_of% ty114 ∧ type_of% ty116 ∧ type_of% ty117 ∧ type_of% ty119 ∧ type_of% ty131 ∧ type_of% ty132 ∧ type_of% ty133 ∧ type_of% ty137 ∧ type_of% ty138 ∧ type_of% ty141 ∧ type_of% ty142 ∧ type_of% ty149 ∧ type_of% ty152 ∧ type_of% ty158 ∧ type_of% ty159 ∧ type_of% ty160 ∧ type_of% ty161 ∧ type_of% ty162 ∧ type_of% ty163 ∧ type_of% ty164 ∧ type_of% ty166 ∧ type_of% ty167 ∧ type_of% ty168 ∧ type_of% ty169 ∧ type_of% ty170 ∧ type_of% un2 ∧ type_of% un3 ∧ type_of% un5 ∧ type_of% un6 ∧ type_of% un12 ∧ type_of% un21 ∧ type_of% un35 ∧ type_of% un77 ∧ type_of% un138 ∧ type_of% un149 ∧ type_of% un152 ∧ type_of% un163 ∧ type_of% un164 ∧ type_of% un167 ∧ type_of% un168 :=
  ⟨ty2, ty3, ty4, ty5, ty6, ty7, ty8, ty9, ty10, ty11, ty12, ty13, ty14, ty15, ty16, ty17, ty18, ty19, ty21, ty22, ty25, ty27, ty28, ty29, ty30, ty31, ty34, ty35, ty38, ty39, ty42, ty43, ty52, ty55, ty56, ty61, ty62, ty64, ty65, ty66, ty67, ty68, ty69, ty70, ty72, ty73, ty77, ty80, ty81, ty82, ty83, ty87, ty91, ty92, ty93, ty98, ty99, ty108, ty114, ty116, ty117, ty119, ty131, ty132, ty133, ty137, ty138, ty141, ty142, ty149, ty152, ty158, ty159, ty160, ty161, ty162, ty163, ty164, ty166, ty167, ty168, ty169, ty170, un2, un3, un5, un6, un12, un21, un35, un77, un138, un149, un152, un163, un164, un167, un168⟩
theorem Ac : type_of% @tys ∧ type_of% @Bc ∧ type_of% @Sc ∧ type_of% @Rc :=
  ⟨@tys, @Bc, @Sc, @Rc⟩
theorem Kc : type_of% @LKc ∧ type_of% @Lc ∧ type_of% @tys ∧ type_of% @Rc :=
  ⟨@LKc, @Lc, @tys, @Rc⟩
theorem Oc : type_of% @SelO.eq_1 ∧ type_of% @SelO.eq_2 ∧ type_of% @or_true ∧ type_of% @false_or ∧ type_of% @Bc ∧ type_of% @Sc ∧ type_of% @Rc :=
  ⟨@SelO.eq_1, @SelO.eq_2, @or_true, @false_or, @Bc, @Sc, @Rc⟩
theorem Hr : type_of% @HasR.eq_1 ∧ type_of% @HasR.eq_2 ∧ type_of% @Bc ∧ type_of% @Rc ∧ type_of% @LKc ∧ type_of% @Lc ∧ type_of% @tys ∧ type_of% @and_true ∧ type_of% @Int.natCast_add ∧ type_of% @Int.cast_ofNat_Int :=
  ⟨@HasR.eq_1, @HasR.eq_2, @Bc, @Rc, @LKc, @Lc, @tys, @and_true, @Int.natCast_add, @Int.cast_ofNat_Int⟩
theorem Tc : type_of% @Has.eq_1 ∧ type_of% @Has.eq_2 ∧ type_of% @List.length_append.{0} ∧ type_of% @List.length_cons.{0} ∧ type_of% @List.length_nil.{0} ∧ type_of% @Nat.zero_add ∧ type_of% @LKc ∧ type_of% @Lc ∧ type_of% @tys ∧ type_of% @Rc ∧ type_of% @and_true ∧ type_of% @Int.natCast_add ∧ type_of% @Int.cast_ofNat_Int :=
  ⟨@Has.eq_1, @Has.eq_2, @List.length_append.{0}, @List.length_cons.{0}, @List.length_nil.{0}, @Nat.zero_add, @LKc, @Lc, @tys, @Rc, @and_true, @Int.natCast_add, @Int.cast_ofNat_Int⟩
theorem Qc : type_of% @retQ.eq_1 ∧ type_of% @retQ.eq_2 ∧ type_of% @resW.eq_1 ∧ type_of% @resW.eq_2 ∧ type_of% @resW.eq_3 ∧ type_of% @retV.eq_1 ∧ type_of% @retV_0 ∧ type_of% @retV_2 ∧ type_of% @List.length_nil.{0} ∧ type_of% @LKc ∧ type_of% @Lc ∧ type_of% @tys ∧ type_of% @Rc :=
  ⟨@retQ.eq_1, @retQ.eq_2, @resW.eq_1, @resW.eq_2, @resW.eq_3, @retV.eq_1, @retV_0, @retV_2, @List.length_nil.{0}, @LKc, @Lc, @tys, @Rc⟩
end T

