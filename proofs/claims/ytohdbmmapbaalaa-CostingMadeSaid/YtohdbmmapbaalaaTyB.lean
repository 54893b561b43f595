import Derived.Test.YtohdbmmapbaalaaAmF
import Derived.Test.YtohdbmmapbaalaaProg
import Derived.KernelRfl
set_option linter.unusedVariables false
set_option linter.unusedSimpArgs false
open Go Go.Am Go.Proofs
namespace T
theorem ty2 : ty Try.prog 2 = { kind := 5, size := 1, bytes := 8, elem := 0, len := 0, zero := some [.int .i64 0], flds := [] } := by kernel_rfl
theorem ty3 : ty Try.prog 3 = { kind := 5, size := 1, bytes := 8, elem := 0, len := 0, zero := some [.int .i64 0], flds := [] } := by kernel_rfl
theorem ty4 : ty Try.prog 4 = { kind := 6, size := 1, bytes := 1, elem := 0, len := 0, zero := some [.bool false], flds := [] } := by kernel_rfl
theorem ty5 : ty Try.prog 5 = { kind := 5, size := 1, bytes := 1, elem := 0, len := 0, zero := some [.int .u8 0], flds := [] } := by kernel_rfl
theorem ty6 : ty Try.prog 6 = { kind := 5, size := 1, bytes := 1, elem := 0, len := 0, zero := some [.int .u8 0], flds := [] } := by kernel_rfl
theorem ty7 : ty Try.prog 7 = { kind := 3, size := 4, bytes := 24, elem := 0, len := 0, zero := some [.int .i64 0, .int .i64 0, .bool false, .int .u8 0], flds := [(0, 2, 1), (1, 3, 1), (2, 4, 1), (3, 6, 1)] } := by kernel_rfl
theorem ty8 : ty Try.prog 8 = { kind := 3, size := 4, bytes := 24, elem := 0, len := 0, zero := some [.int .i64 0, .int .i64 0, .bool false, .int .u8 0], flds := [(0, 2, 1), (1, 3, 1), (2, 4, 1), (3, 6, 1)] } := by kernel_rfl
theorem ty9 : ty Try.prog 9 = { kind := 4, size := 1, bytes := 16, elem := 0, len := 0, zero := some [.string ⟨#[]⟩], flds := [] } := by kernel_rfl
theorem ty10 : ty Try.prog 10 = { kind := 4, size := 1, bytes := 16, elem := 0, len := 0, zero := some [.string ⟨#[]⟩], flds := [] } := by kernel_rfl
theorem ty11 : ty Try.prog 11 = { kind := 4, size := 1, bytes := 16, elem := 0, len := 0, zero := some [.string ⟨#[]⟩], flds := [] } := by kernel_rfl
theorem ty12 : ty Try.prog 12 = { kind := 5, size := 1, bytes := 8, elem := 0, len := 0, zero := some [.int .u64 0], flds := [] } := by kernel_rfl
theorem ty13 : ty Try.prog 13 = { kind := 3, size := 2, bytes := 24, elem := 0, len := 0, zero := some [.string ⟨#[]⟩, .int .u64 0], flds := [(0, 9, 1), (1, 12, 1)] } := by kernel_rfl
theorem ty14 : ty Try.prog 14 = { kind := 3, size := 2, bytes := 24, elem := 0, len := 0, zero := some [.string ⟨#[]⟩, .int .u64 0], flds := [(0, 9, 1), (1, 12, 1)] } := by kernel_rfl
theorem ty15 : ty Try.prog 15 = { kind := 7, size := 1, bytes := 8, elem := 115, len := 0, zero := some [.pointer none], flds := [] } := by kernel_rfl
theorem ty16 : ty Try.prog 16 = { kind := 7, size := 1, bytes := 8, elem := 118, len := 0, zero := some [.pointer none], flds := [] } := by kernel_rfl
theorem ty17 : ty Try.prog 17 = { kind := 7, size := 1, bytes := 8, elem := 127, len := 0, zero := some [.pointer none], flds := [] } := by kernel_rfl
theorem ty18 : ty Try.prog 18 = { kind := 3, size := 1, bytes := 8, elem := 0, len := 0, zero := some [.pointer none], flds := [(0, 17, 1)] } := by kernel_rfl
theorem ty19 : ty Try.prog 19 = { kind := 3, size := 1, bytes := 8, elem := 0, len := 0, zero := some [.pointer none], flds := [(0, 17, 1)] } := by kernel_rfl
theorem ty21 : ty Try.prog 21 = { kind := 5, size := 1, bytes := 4, elem := 0, len := 0, zero := some [.int .i32 0], flds := [] } := by kernel_rfl
theorem ty22 : ty Try.prog 22 = { kind := 1, size := 1, bytes := 24, elem := 3, len := 0, zero := some [.slice none 0 0], flds := [] } := by kernel_rfl
theorem ty25 : ty Try.prog 25 = { kind := 7, size := 1, bytes := 8, elem := 68, len := 0, zero := some [.pointer none], flds := [] } := by kernel_rfl
theorem ty27 : ty Try.prog 27 = { kind := 1, size := 1, bytes := 24, elem := 39, len := 0, zero := some [.slice none 0 0], flds := [] } := by kernel_rfl
theorem ty28 : ty Try.prog 28 = { kind := 1, size := 1, bytes := 24, elem := 61, len := 0, zero := some [.slice none 0 0], flds := [] } := by kernel_rfl
theorem ty29 : ty Try.prog 29 = { kind := 1, size := 1, bytes := 24, elem := 66, len := 0, zero := some [.slice none 0 0], flds := [] } := by kernel_rfl
theorem ty30 : ty Try.prog 30 = { kind := 3, size := 4, bytes := 80, elem := 0, len := 0, zero := some [.slice none 0 0, .slice none 0 0, .slice none 0 0, .int .i64 0], flds := [(0, 27, 1), (1, 28, 1), (2, 29, 1), (3, 3, 1)] } := by kernel_rfl
theorem ty31 : ty Try.prog 31 = { kind := 3, size := 4, bytes := 80, elem := 0, len := 0, zero := some [.slice none 0 0, .slice none 0 0, .slice none 0 0, .int .i64 0], flds := [(0, 27, 1), (1, 28, 1), (2, 29, 1), (3, 3, 1)] } := by kernel_rfl
theorem ty33 : ty Try.prog 33 = { kind := 5, size := 1, bytes := 8, elem := 0, len := 0, zero := some [.int .i64 0], flds := [] } := by kernel_rfl
theorem ty39 : ty Try.prog 39 = { kind := 1, size := 1, bytes := 24, elem := 59, len := 0, zero := some [.slice none 0 0], flds := [] } := by kernel_rfl
theorem ty43 : ty Try.prog 43 = { kind := 1, size := 1, bytes := 24, elem := 4, len := 0, zero := some [.slice none 0 0], flds := [] } := by kernel_rfl
theorem ty51 : ty Try.prog 51 = { kind := 2, size := 2, bytes := 16, elem := 3, len := 2, zero := some [.int .i64 0, .int .i64 0], flds := [] } := by kernel_rfl
theorem ty52 : ty Try.prog 52 = { kind := 2, size := 4, bytes := 32, elem := 51, len := 2, zero := some [.int .i64 0, .int .i64 0, .int .i64 0, .int .i64 0], flds := [] } := by kernel_rfl
theorem ty53 : ty Try.prog 53 = { kind := 3, size := 4, bytes := 32, elem := 0, len := 0, zero := some [.int .i64 0, .int .i64 0, .int .i64 0, .int .i64 0], flds := [(0, 3, 1), (1, 3, 1), (2, 3, 1), (3, 3, 1)] } := by kernel_rfl
theorem ty54 : ty Try.prog 54 = { kind := 3, size := 4, bytes := 32, elem := 0, len := 0, zero := some [.int .i64 0, .int .i64 0, .int .i64 0, .int .i64 0], flds := [(0, 3, 1), (1, 3, 1), (2, 3, 1), (3, 3, 1)] } := by kernel_rfl
theorem ty55 : ty Try.prog 55 = { kind := 3, size := 5, bytes := 40, elem := 0, len := 0, zero := some [.int .i64 0, .int .i64 0, .int .i64 0, .int .i64 0, .int .i64 0], flds := [(0, 54, 4), (4, 3, 1)] } := by kernel_rfl
theorem ty56 : ty Try.prog 56 = { kind := 3, size := 5, bytes := 40, elem := 0, len := 0, zero := some [.int .i64 0, .int .i64 0, .int .i64 0, .int .i64 0, .int .i64 0], flds := [(0, 54, 4), (4, 3, 1)] } := by kernel_rfl
theorem ty57 : ty Try.prog 57 = { kind := 1, size := 1, bytes := 24, elem := 71, len := 0, zero := some [.slice none 0 0], flds := [] } := by kernel_rfl
theorem ty58 : ty Try.prog 58 = { kind := 3, size := 6, bytes := 64, elem := 0, len := 0, zero := some [.int .i64 0, .int .i64 0, .int .i64 0, .int .i64 0, .int .i64 0, .slice none 0 0], flds := [(0, 56, 5), (5, 57, 1)] } := by kernel_rfl
theorem ty59 : ty Try.prog 59 = { kind := 3, size := 6, bytes := 64, elem := 0, len := 0, zero := some [.int .i64 0, .int .i64 0, .int .i64 0, .int .i64 0, .int .i64 0, .slice none 0 0], flds := [(0, 56, 5), (5, 57, 1)] } := by kernel_rfl
theorem ty60 : ty Try.prog 60 = { kind := 3, size := 4, bytes := 48, elem := 0, len := 0, zero := some [.int .i64 0, .int .i64 0, .int .i64 0, .slice none 0 0], flds := [(0, 3, 1), (1, 3, 1), (2, 3, 1), (3, 22, 1)] } := by kernel_rfl
theorem ty61 : ty Try.prog 61 = { kind := 3, size := 4, bytes := 48, elem := 0, len := 0, zero := some [.int .i64 0, .int .i64 0, .int .i64 0, .slice none 0 0], flds := [(0, 3, 1), (1, 3, 1), (2, 3, 1), (3, 22, 1)] } := by kernel_rfl
theorem ty62 : ty Try.prog 62 = { kind := 3, size := 3, bytes := 24, elem := 0, len := 0, zero := some [.int .i64 0, .int .i64 0, .int .i64 0], flds := [(0, 3, 1), (1, 3, 1), (2, 3, 1)] } := by kernel_rfl
theorem ty63 : ty Try.prog 63 = { kind := 3, size := 3, bytes := 24, elem := 0, len := 0, zero := some [.int .i64 0, .int .i64 0, .int .i64 0], flds := [(0, 3, 1), (1, 3, 1), (2, 3, 1)] } := by kernel_rfl
theorem ty64 : ty Try.prog 64 = { kind := 1, size := 1, bytes := 24, elem := 63, len := 0, zero := some [.slice none 0 0], flds := [] } := by kernel_rfl
theorem ty65 : ty Try.prog 65 = { kind := 3, size := 4, bytes := 48, elem := 0, len := 0, zero := some [.int .i64 0, .slice none 0 0, .int .i64 0, .int .i64 0], flds := [(0, 3, 1), (1, 64, 1), (2, 3, 1), (3, 3, 1)] } := by kernel_rfl
theorem ty66 : ty Try.prog 66 = { kind := 3, size := 4, bytes := 48, elem := 0, len := 0, zero := some [.int .i64 0, .slice none 0 0, .int .i64 0, .int .i64 0], flds := [(0, 3, 1), (1, 64, 1), (2, 3, 1), (3, 3, 1)] } := by kernel_rfl
theorem ty67 : ty Try.prog 67 = { kind := 3, size := 2, bytes := 32, elem := 0, len := 0, zero := some [.slice none 0 0, .int .i64 0], flds := [(0, 22, 1), (1, 3, 1)] } := by kernel_rfl
theorem ty68 : ty Try.prog 68 = { kind := 3, size := 2, bytes := 32, elem := 0, len := 0, zero := some [.slice none 0 0, .int .i64 0], flds := [(0, 22, 1), (1, 3, 1)] } := by kernel_rfl
theorem ty70 : ty Try.prog 70 = { kind := 3, size := 2, bytes := 16, elem := 0, len := 0, zero := some [.int .i64 0, .int .i64 0], flds := [(0, 3, 1), (1, 3, 1)] } := by kernel_rfl
theorem ty71 : ty Try.prog 71 = { kind := 3, size := 2, bytes := 16, elem := 0, len := 0, zero := some [.int .i64 0, .int .i64 0], flds := [(0, 3, 1), (1, 3, 1)] } := by kernel_rfl
theorem ty98 : ty Try.prog 98 = { kind := 7, size := 1, bytes := 8, elem := 100, len := 0, zero := some [.pointer none], flds := [] } := by kernel_rfl
theorem ty99 : ty Try.prog 99 = { kind := 3, size := 1, bytes := 24, elem := 0, len := 0, zero := some [.slice none 0 0], flds := [(0, 22, 1)] } := by kernel_rfl
theorem ty100 : ty Try.prog 100 = { kind := 3, size := 1, bytes := 24, elem := 0, len := 0, zero := some [.slice none 0 0], flds := [(0, 22, 1)] } := by kernel_rfl
theorem ty114 : ty Try.prog 114 = { kind := 3, size := 4, bytes := 40, elem := 0, len := 0, zero := some [.pointer none, .pointer none, .pointer none, .string ⟨#[]⟩], flds := [(0, 17, 1), (1, 17, 1), (2, 17, 1), (3, 9, 1)] } := by kernel_rfl
theorem ty115 : ty Try.prog 115 = { kind := 3, size := 4, bytes := 40, elem := 0, len := 0, zero := some [.pointer none, .pointer none, .pointer none, .string ⟨#[]⟩], flds := [(0, 17, 1), (1, 17, 1), (2, 17, 1), (3, 9, 1)] } := by kernel_rfl
theorem ty116 : ty Try.prog 116 = { kind := 2, size := 0, bytes := 0, elem := 16, len := 0, zero := some [], flds := [] } := by kernel_rfl
theorem ty117 : ty Try.prog 117 = { kind := 3, size := 0, bytes := 0, elem := 0, len := 0, zero := some [], flds := [(0, 116, 0)] } := by kernel_rfl
theorem ty118 : ty Try.prog 118 = { kind := 3, size := 0, bytes := 0, elem := 0, len := 0, zero := some [], flds := [(0, 116, 0)] } := by kernel_rfl
theorem ty119 : ty Try.prog 119 = { kind := 5, size := 1, bytes := 4, elem := 0, len := 0, zero := some [.int .u32 0], flds := [] } := by kernel_rfl
theorem ty120 : ty Try.prog 120 = { kind := 5, size := 1, bytes := 1, elem := 0, len := 0, zero := some [.int .u8 0], flds := [] } := by kernel_rfl
theorem ty121 : ty Try.prog 121 = { kind := 5, size := 1, bytes := 1, elem := 0, len := 0, zero := some [.int .u8 0], flds := [] } := by kernel_rfl
theorem ty123 : ty Try.prog 123 = { kind := 7, size := 1, bytes := 8, elem := 5, len := 0, zero := some [.pointer none], flds := [] } := by kernel_rfl
theorem ty124 : ty Try.prog 124 = { kind := 5, size := 1, bytes := 4, elem := 0, len := 0, zero := some [.int .i32 0], flds := [] } := by kernel_rfl
theorem ty125 : ty Try.prog 125 = { kind := 5, size := 1, bytes := 4, elem := 0, len := 0, zero := some [.int .i32 0], flds := [] } := by kernel_rfl
theorem ty126 : ty Try.prog 126 = { kind := 3, size := 11, bytes := 48, elem := 0, len := 0, zero := some [.int .u64 0, .int .u64 0, .int .u32 0, .int .u8 0, .int .u8 0, .int .u8 0, .int .u8 0, .nilFunc, .pointer none, .int .i32 0, .int .i32 0], flds := [(0, 12, 1), (1, 12, 1), (2, 119, 1), (3, 120, 1), (4, 5, 1), (5, 5, 1), (6, 121, 1), (7, 122, 1), (8, 123, 1), (9, 124, 1), (10, 125, 1)] } := by kernel_rfl
theorem ty127 : ty Try.prog 127 = { kind := 3, size := 11, bytes := 48, elem := 0, len := 0, zero := some [.int .u64 0, .int .u64 0, .int .u32 0, .int .u8 0, .int .u8 0, .int .u8 0, .int .u8 0, .nilFunc, .pointer none, .int .i32 0, .int .i32 0], flds := [(0, 12, 1), (1, 12, 1), (2, 119, 1), (3, 120, 1), (4, 5, 1), (5, 5, 1), (6, 121, 1), (7, 122, 1), (8, 123, 1), (9, 124, 1), (10, 125, 1)] } := by kernel_rfl
theorem tys : type_of% ty2 ∧ type_of% ty3 ∧ type_of% ty4 ∧ type_of% ty5 ∧ type_of% ty6 ∧ type_of% ty7 ∧ type_of% ty8 ∧ type_of% ty9 ∧ type_of% ty10 ∧ type_of% ty11 ∧ type_of% ty12 ∧ type_of% ty13 ∧ type_of% ty14 ∧ type_of% ty15 ∧ type_of% ty16 ∧ type_of% ty17 ∧ type_of% ty18 ∧ type_of% ty19 ∧ type_of% ty21 ∧ type_of% ty22 ∧ type_of% ty25 ∧ type_of% ty27 ∧ type_of% ty28 ∧ type_of% ty29 ∧ type_of% ty30 ∧ type_of% ty31 ∧ type_of% ty33 ∧ type_of% ty39 ∧ type_of% ty43 ∧ type_of% ty51 ∧ type_of% ty52 ∧ type_of% ty53 ∧ type_of% ty54 ∧ type_of% ty55 ∧ type_of% ty56 ∧ type_of% ty57 ∧ type_of% ty58 ∧ type_of% ty59 ∧ type_of% ty60 ∧ type_of% ty61 ∧ type_of% ty62 ∧ type_of% ty63 ∧ type_of% ty64 ∧ type_of% ty65 ∧ type_of% ty66 ∧ type_of% ty67 ∧ type_of% ty68 ∧ type_of% ty70 ∧ type_of% ty71 ∧ type_of% ty98 ∧ type_of% ty99 ∧ type_of% ty100 ∧ type_of% ty114 ∧ type_of% ty115 ∧ type_of% ty116 ∧ type_of% ty117 ∧ type_of% ty118 ∧ type_of% ty119 ∧ type_of% ty120 ∧ type_of% ty121 ∧ type_of% ty123 ∧ type_of% ty124 ∧ type_of% ty125 ∧ type_of% ty126 ∧ type_of% ty127 :=
  ⟨ty2, ty3, ty4, ty5, ty6, ty7, ty8, ty9, ty10, ty11, ty12, ty13, ty14, ty15, ty16, ty17, ty18, ty19, ty21, ty22, ty25, ty27, ty28, ty29, ty30, ty31, ty33, ty39, ty43, ty51, ty52, ty53, ty54, ty55, ty56, ty57, ty58, ty59, ty60, ty61, ty62, ty63, ty64, ty65, ty66, ty67, ty68, ty70, ty71, ty98, ty99, ty100, ty114, ty115, ty116, ty117, ty118, ty119, ty120, ty121, ty123, ty124, ty125, ty126, ty127⟩
end T

