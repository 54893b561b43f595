import Derived.Test.YthejfdpomacflaaAm30
import Derived.Test.YthejfdpomacflaaProg
import Derived.KernelRfl
open Go Go.Am Go.Proofs
namespace T
theorem ty0 : ty Try.prog 0 = { kind := 0, size := 1, bytes := 0, elem := 0, len := 0, zero := some [.tuple #[]], flds := [] } := by kernel_rfl
theorem ty1 : ty Try.prog 1 = { kind := 9, size := 1, bytes := 8, elem := 0, len := 0, zero := some [.nilFunc], flds := [] } := by kernel_rfl
theorem ty2 : ty Try.prog 2 = { kind := 5, size := 1, bytes := 8, elem := 0, len := 0, zero := some [.int .i64 0], flds := [] } := by kernel_rfl
theorem ty3 : ty Try.prog 3 = { kind := 5, size := 1, bytes := 8, elem := 0, len := 0, zero := some [.int .i64 0], flds := [] } := by kernel_rfl
theorem ty4 : ty Try.prog 4 = { kind := 6, size := 1, bytes := 1, elem := 0, len := 0, zero := some [.bool false], flds := [] } := by kernel_rfl
theorem ty5 : ty Try.prog 5 = { kind := 5, size := 1, bytes := 1, elem := 0, len := 0, zero := some [.int .u8 0], flds := [] } := by kernel_rfl
theorem ty6 : ty Try.prog 6 = { kind := 5, size := 1, bytes := 1, elem := 0, len := 0, zero := some [.int .u8 0], flds := [] } := by kernel_rfl
theorem ty7 : ty Try.prog 7 = { kind := 3, size := 4, bytes := 24, elem := 0, len := 0, zero := some [.int .i64 0, .int .i64 0, .bool false, .int .u8 0], flds := [(0, 2, 1), (1, 3, 1), (2, 4, 1), (3, 6, 1)] } := by kernel_rfl
theorem ty8 : ty Try.prog 8 = { kind := 3, size := 4, bytes := 24, elem := 0, len := 0, zero := some [.int .i64 0, .int .i64 0, .bool false, .int .u8 0], flds := [(0, 2, 1), (1, 3, 1), (2, 4, 1), (3, 6, 1)] } := by kernel_rfl
theorem ty9 : ty Try.prog 9 = { kind := 4, size := 1, bytes := 16, elem := 0, len := 0, zero := some [.string ⟨#[]⟩], flds := [] } := by kernel_rfl
theorem ty10 : ty Try.prog 10 = { kind := 4, size := 1, bytes := 16, elem := 0, len := 0, zero := some [.string ⟨#[]⟩], flds := [] } := by kernel_rfl
theorem ty11 : ty Try.prog 11 = { kind := 4, size := 1, bytes := 16, elem := 0, len := 0, zero := some [.string ⟨#[]⟩], flds := [] } := by kernel_rfl
theorem ty12 : ty Try.prog 12 = { kind := 5, size := 1, bytes := 8, elem := 0, len := 0, zero := some [.int .u64 0], flds := [] } := by kernel_rfl
theorem ty13 : ty Try.prog 13 = { kind := 3, size := 2, bytes := 24, elem := 0, len := 0, zero := some [.string ⟨#[]⟩, .int .u64 0], flds := [(0, 9, 1), (1, 12, 1)] } := by kernel_rfl
theorem ty14 : ty Try.prog 14 = { kind := 3, size := 2, bytes := 24, elem := 0, len := 0, zero := some [.string ⟨#[]⟩, .int .u64 0], flds := [(0, 9, 1), (1, 12, 1)] } := by kernel_rfl
theorem ty15 : ty Try.prog 15 = { kind := 7, size := 1, bytes := 8, elem := 51, len := 0, zero := some [.pointer none], flds := [] } := by kernel_rfl
theorem ty16 : ty Try.prog 16 = { kind := 7, size := 1, bytes := 8, elem := 54, len := 0, zero := some [.pointer none], flds := [] } := by kernel_rfl
theorem ty17 : ty Try.prog 17 = { kind := 7, size := 1, bytes := 8, elem := 64, len := 0, zero := some [.pointer none], flds := [] } := by kernel_rfl
theorem ty18 : ty Try.prog 18 = { kind := 3, size := 1, bytes := 8, elem := 0, len := 0, zero := some [.pointer none], flds := [(0, 17, 1)] } := by kernel_rfl
theorem ty19 : ty Try.prog 19 = { kind := 3, size := 1, bytes := 8, elem := 0, len := 0, zero := some [.pointer none], flds := [(0, 17, 1)] } := by kernel_rfl
theorem ty20 : ty Try.prog 20 = { kind := 0, size := 1, bytes := 16, elem := 0, len := 0, zero := some [.nilIface], flds := [] } := by kernel_rfl
theorem ty21 : ty Try.prog 21 = { kind := 5, size := 1, bytes := 4, elem := 0, len := 0, zero := some [.int .i32 0], flds := [] } := by kernel_rfl
theorem ty22 : ty Try.prog 22 = { kind := 1, size := 1, bytes := 24, elem := 23, len := 0, zero := some [.slice none 0 0], flds := [] } := by kernel_rfl
theorem ty23 : ty Try.prog 23 = { kind := 1, size := 1, bytes := 24, elem := 3, len := 0, zero := some [.slice none 0 0], flds := [] } := by kernel_rfl
theorem ty24 : ty Try.prog 24 = { kind := 9, size := 1, bytes := 8, elem := 0, len := 0, zero := some [.nilFunc], flds := [] } := by kernel_rfl
theorem ty25 : ty Try.prog 25 = { kind := 9, size := 1, bytes := 8, elem := 0, len := 0, zero := some [.nilFunc], flds := [] } := by kernel_rfl
theorem ty26 : ty Try.prog 26 = { kind := 9, size := 1, bytes := 8, elem := 0, len := 0, zero := some [.nilFunc], flds := [] } := by kernel_rfl
theorem ty27 : ty Try.prog 27 = { kind := 9, size := 1, bytes := 8, elem := 0, len := 0, zero := some [.nilFunc], flds := [] } := by kernel_rfl
theorem ty28 : ty Try.prog 28 = { kind := 7, size := 1, bytes := 8, elem := 40, len := 0, zero := some [.pointer none], flds := [] } := by kernel_rfl
theorem ty29 : ty Try.prog 29 = { kind := 9, size := 1, bytes := 8, elem := 0, len := 0, zero := some [.nilFunc], flds := [] } := by kernel_rfl
theorem ty30 : ty Try.prog 30 = { kind := 5, size := 1, bytes := 8, elem := 0, len := 0, zero := some [.int .i64 0], flds := [] } := by kernel_rfl
theorem ty31 : ty Try.prog 31 = { kind := 0, size := 1, bytes := 0, elem := 0, len := 0, zero := some [.tuple #[.slice none 0 0, .int .i64 0]], flds := [] } := by kernel_rfl
theorem ty32 : ty Try.prog 32 = { kind := 9, size := 1, bytes := 8, elem := 0, len := 0, zero := some [.nilFunc], flds := [] } := by kernel_rfl
theorem ty33 : ty Try.prog 33 = { kind := 9, size := 1, bytes := 8, elem := 0, len := 0, zero := some [.nilFunc], flds := [] } := by kernel_rfl
theorem ty34 : ty Try.prog 34 = { kind := 9, size := 1, bytes := 8, elem := 0, len := 0, zero := some [.nilFunc], flds := [] } := by kernel_rfl
theorem ty35 : ty Try.prog 35 = { kind := 0, size := 1, bytes := 0, elem := 0, len := 0, zero := some [.tuple #[.slice none 0 0, .slice none 0 0, .int .i64 0]], flds := [] } := by kernel_rfl
theorem ty36 : ty Try.prog 36 = { kind := 9, size := 1, bytes := 8, elem := 0, len := 0, zero := some [.nilFunc], flds := [] } := by kernel_rfl
theorem ty37 : ty Try.prog 37 = { kind := 9, size := 1, bytes := 8, elem := 0, len := 0, zero := some [.nilFunc], flds := [] } := by kernel_rfl
theorem ty38 : ty Try.prog 38 = { kind := 9, size := 1, bytes := 8, elem := 0, len := 0, zero := some [.nilFunc], flds := [] } := by kernel_rfl
theorem ty39 : ty Try.prog 39 = { kind := 3, size := 2, bytes := 32, elem := 0, len := 0, zero := some [.slice none 0 0, .int .i64 0], flds := [(0, 23, 1), (1, 3, 1)] } := by kernel_rfl
theorem ty40 : ty Try.prog 40 = { kind := 3, size := 2, bytes := 32, elem := 0, len := 0, zero := some [.slice none 0 0, .int .i64 0], flds := [(0, 23, 1), (1, 3, 1)] } := by kernel_rfl
theorem ty41 : ty Try.prog 41 = { kind := 0, size := 1, bytes := 0, elem := 0, len := 0, zero := some [.tuple #[.slice none 0 0, .slice none 0 0]], flds := [] } := by kernel_rfl
theorem ty42 : ty Try.prog 42 = { kind := 9, size := 1, bytes := 8, elem := 0, len := 0, zero := some [.nilFunc], flds := [] } := by kernel_rfl
theorem ty43 : ty Try.prog 43 = { kind := 9, size := 1, bytes := 8, elem := 0, len := 0, zero := some [.nilFunc], flds := [] } := by kernel_rfl
theorem ty44 : ty Try.prog 44 = { kind := 1, size := 1, bytes := 24, elem := 4, len := 0, zero := some [.slice none 0 0], flds := [] } := by kernel_rfl
theorem ty45 : ty Try.prog 45 = { kind := 9, size := 1, bytes := 8, elem := 0, len := 0, zero := some [.nilFunc], flds := [] } := by kernel_rfl
theorem ty46 : ty Try.prog 46 = { kind := 9, size := 1, bytes := 8, elem := 0, len := 0, zero := some [.nilFunc], flds := [] } := by kernel_rfl
theorem ty47 : ty Try.prog 47 = { kind := 9, size := 1, bytes := 8, elem := 0, len := 0, zero := some [.nilFunc], flds := [] } := by kernel_rfl
theorem ty48 : ty Try.prog 48 = { kind := 9, size := 1, bytes := 8, elem := 0, len := 0, zero := some [.nilFunc], flds := [] } := by kernel_rfl
theorem ty49 : ty Try.prog 49 = { kind := 9, size := 1, bytes := 8, elem := 0, len := 0, zero := some [.nilFunc], flds := [] } := by kernel_rfl
theorem ty50 : ty Try.prog 50 = { kind := 3, size := 4, bytes := 40, elem := 0, len := 0, zero := some [.pointer none, .pointer none, .pointer none, .string ⟨#[]⟩], flds := [(0, 17, 1), (1, 17, 1), (2, 17, 1), (3, 9, 1)] } := by kernel_rfl
theorem ty51 : ty Try.prog 51 = { kind := 3, size := 4, bytes := 40, elem := 0, len := 0, zero := some [.pointer none, .pointer none, .pointer none, .string ⟨#[]⟩], flds := [(0, 17, 1), (1, 17, 1), (2, 17, 1), (3, 9, 1)] } := by kernel_rfl
theorem ty52 : ty Try.prog 52 = { kind := 2, size := 0, bytes := 0, elem := 16, len := 0, zero := some [], flds := [] } := by kernel_rfl
theorem ty53 : ty Try.prog 53 = { kind := 3, size := 0, bytes := 0, elem := 0, len := 0, zero := some [], flds := [(0, 52, 0)] } := by kernel_rfl
theorem ty54 : ty Try.prog 54 = { kind := 3, size := 0, bytes := 0, elem := 0, len := 0, zero := some [], flds := [(0, 52, 0)] } := by kernel_rfl
theorem ty55 : ty Try.prog 55 = { kind := 9, size := 1, bytes := 8, elem := 0, len := 0, zero := some [.nilFunc], flds := [] } := by kernel_rfl
theorem ty56 : ty Try.prog 56 = { kind := 5, size := 1, bytes := 4, elem := 0, len := 0, zero := some [.int .u32 0], flds := [] } := by kernel_rfl
theorem ty57 : ty Try.prog 57 = { kind := 5, size := 1, bytes := 1, elem := 0, len := 0, zero := some [.int .u8 0], flds := [] } := by kernel_rfl
theorem ty58 : ty Try.prog 58 = { kind := 5, size := 1, bytes := 1, elem := 0, len := 0, zero := some [.int .u8 0], flds := [] } := by kernel_rfl
theorem ty59 : ty Try.prog 59 = { kind := 9, size := 1, bytes := 8, elem := 0, len := 0, zero := some [.nilFunc], flds := [] } := by kernel_rfl
theorem ty60 : ty Try.prog 60 = { kind := 7, size := 1, bytes := 8, elem := 5, len := 0, zero := some [.pointer none], flds := [] } := by kernel_rfl
theorem ty61 : ty Try.prog 61 = { kind := 5, size := 1, bytes := 4, elem := 0, len := 0, zero := some [.int .i32 0], flds := [] } := by kernel_rfl
theorem ty62 : ty Try.prog 62 = { kind := 5, size := 1, bytes := 4, elem := 0, len := 0, zero := some [.int .i32 0], flds := [] } := by kernel_rfl
theorem ty63 : ty Try.prog 63 = { kind := 3, size := 11, bytes := 48, elem := 0, len := 0, zero := some [.int .u64 0, .int .u64 0, .int .u32 0, .int .u8 0, .int .u8 0, .int .u8 0, .int .u8 0, .nilFunc, .pointer none, .int .i32 0, .int .i32 0], flds := [(0, 12, 1), (1, 12, 1), (2, 56, 1), (3, 57, 1), (4, 5, 1), (5, 5, 1), (6, 58, 1), (7, 59, 1), (8, 60, 1), (9, 61, 1), (10, 62, 1)] } := by kernel_rfl
theorem ty64 : ty Try.prog 64 = { kind := 3, size := 11, bytes := 48, elem := 0, len := 0, zero := some [.int .u64 0, .int .u64 0, .int .u32 0, .int .u8 0, .int .u8 0, .int .u8 0, .int .u8 0, .nilFunc, .pointer none, .int .i32 0, .int .i32 0], flds := [(0, 12, 1), (1, 12, 1), (2, 56, 1), (3, 57, 1), (4, 5, 1), (5, 5, 1), (6, 58, 1), (7, 59, 1), (8, 60, 1), (9, 61, 1), (10, 62, 1)] } := by kernel_rfl
theorem ty65 : ty Try.prog 65 = { kind := 0, size := 1, bytes := 8, elem := 0, len := 0, zero := some [.pointer none], flds := [] } := by kernel_rfl
end T
