/- What the types of the seat are at a glance: by program, each asked of the kernel. No condition. -/
import Derived.Test.YtgndmmbbhfmegaaSyK
import Derived.Test.YtgndmmbbhfmegaaChecked
import Derived.KernelRfl
namespace Go.Proofs
open Go
theorem Try.ty2 : Sy.ty Try.prog 2 = some { n := 1, bytes := 8, kd := .int .i64, zero := [.int .i64 0], fields := [] } := by kernel_rfl
theorem Try.ty3 : Sy.ty Try.prog 3 = some { n := 1, bytes := 8, kd := .int .i64, zero := [.int .i64 0], fields := [] } := by kernel_rfl
theorem Try.ty4 : Sy.ty Try.prog 4 = some { n := 1, bytes := 1, kd := .bool, zero := [.bool false], fields := [] } := by kernel_rfl
theorem Try.ty5 : Sy.ty Try.prog 5 = some { n := 1, bytes := 1, kd := .int .u8, zero := [.int .u8 0], fields := [] } := by kernel_rfl
theorem Try.ty6 : Sy.ty Try.prog 6 = some { n := 1, bytes := 1, kd := .int .u8, zero := [.int .u8 0], fields := [] } := by kernel_rfl
theorem Try.ty7 : Sy.ty Try.prog 7 = some { n := 4, bytes := 24, kd := .struct, zero := [.int .i64 0, .int .i64 0, .bool false, .int .u8 0], fields := [some (0, 1, false), some (1, 1, false), some (2, 1, false), some (3, 1, false)] } := by kernel_rfl
theorem Try.ty8 : Sy.ty Try.prog 8 = some { n := 4, bytes := 24, kd := .struct, zero := [.int .i64 0, .int .i64 0, .bool false, .int .u8 0], fields := [some (0, 1, false), some (1, 1, false), some (2, 1, false), some (3, 1, false)] } := by kernel_rfl
theorem Try.ty9 : Sy.ty Try.prog 9 = some { n := 1, bytes := 16, kd := .str, zero := [.string ByteArray.empty], fields := [] } := by kernel_rfl
theorem Try.ty10 : Sy.ty Try.prog 10 = some { n := 1, bytes := 16, kd := .str, zero := [.string ByteArray.empty], fields := [] } := by kernel_rfl
theorem Try.ty11 : Sy.ty Try.prog 11 = some { n := 1, bytes := 16, kd := .str, zero := [.string ByteArray.empty], fields := [] } := by kernel_rfl
theorem Try.ty12 : Sy.ty Try.prog 12 = some { n := 1, bytes := 8, kd := .int .u64, zero := [.int .u64 0], fields := [] } := by kernel_rfl
theorem Try.ty13 : Sy.ty Try.prog 13 = some { n := 2, bytes := 24, kd := .struct, zero := [.string ByteArray.empty, .int .u64 0], fields := [some (0, 1, false), some (1, 1, false)] } := by kernel_rfl
theorem Try.ty14 : Sy.ty Try.prog 14 = some { n := 2, bytes := 24, kd := .struct, zero := [.string ByteArray.empty, .int .u64 0], fields := [some (0, 1, false), some (1, 1, false)] } := by kernel_rfl
theorem Try.ty15 : Sy.ty Try.prog 15 = some { n := 1, bytes := 8, kd := .ptr 102, zero := [.pointer none], fields := [] } := by kernel_rfl
theorem Try.ty16 : Sy.ty Try.prog 16 = some { n := 1, bytes := 8, kd := .ptr 105, zero := [.pointer none], fields := [] } := by kernel_rfl
theorem Try.ty17 : Sy.ty Try.prog 17 = some { n := 1, bytes := 8, kd := .ptr 115, zero := [.pointer none], fields := [] } := by kernel_rfl
theorem Try.ty18 : Sy.ty Try.prog 18 = some { n := 1, bytes := 8, kd := .struct, zero := [.pointer none], fields := [some (0, 1, false)] } := by kernel_rfl
theorem Try.ty19 : Sy.ty Try.prog 19 = some { n := 1, bytes := 8, kd := .struct, zero := [.pointer none], fields := [some (0, 1, false)] } := by kernel_rfl
theorem Try.ty21 : Sy.ty Try.prog 21 = some { n := 1, bytes := 4, kd := .int .i32, zero := [.int .i32 0], fields := [] } := by kernel_rfl
theorem Try.ty22 : Sy.ty Try.prog 22 = some { n := 1, bytes := 24, kd := .slice 3, zero := [.slice none 0 0], fields := [] } := by kernel_rfl
theorem Try.ty23 : Sy.ty Try.prog 23 = some { n := 1, bytes := 8, kd := .int .i64, zero := [.int .i64 0], fields := [] } := by kernel_rfl
theorem Try.ty35 : Sy.ty Try.prog 35 = some { n := 4, bytes := 32, kd := .struct, zero := [.int .i64 0, .int .i64 0, .int .i64 0, .int .i64 0], fields := [some (0, 1, false), some (1, 1, false), some (2, 1, false), some (3, 1, false)] } := by kernel_rfl
theorem Try.ty36 : Sy.ty Try.prog 36 = some { n := 4, bytes := 32, kd := .struct, zero := [.int .i64 0, .int .i64 0, .int .i64 0, .int .i64 0], fields := [some (0, 1, false), some (1, 1, false), some (2, 1, false), some (3, 1, false)] } := by kernel_rfl
theorem Try.ty44 : Sy.ty Try.prog 44 = some { n := 3, bytes := 24, kd := .struct, zero := [.int .i64 0, .int .i64 0, .int .i64 0], fields := [some (0, 1, false), some (1, 1, false), some (2, 1, false)] } := by kernel_rfl
theorem Try.ty45 : Sy.ty Try.prog 45 = some { n := 3, bytes := 24, kd := .struct, zero := [.int .i64 0, .int .i64 0, .int .i64 0], fields := [some (0, 1, false), some (1, 1, false), some (2, 1, false)] } := by kernel_rfl
theorem Try.ty46 : Sy.ty Try.prog 46 = some { n := 1, bytes := 24, kd := .slice 9, zero := [.slice none 0 0], fields := [] } := by kernel_rfl
theorem Try.ty47 : Sy.ty Try.prog 47 = some { n := 3, bytes := 40, kd := .struct, zero := [.int .i64 0, .bool false, .slice none 0 0], fields := [some (0, 1, false), some (1, 1, false), some (2, 1, false)] } := by kernel_rfl
theorem Try.ty48 : Sy.ty Try.prog 48 = some { n := 3, bytes := 40, kd := .struct, zero := [.int .i64 0, .bool false, .slice none 0 0], fields := [some (0, 1, false), some (1, 1, false), some (2, 1, false)] } := by kernel_rfl
theorem Try.ty49 : Sy.ty Try.prog 49 = some { n := 1, bytes := 24, kd := .slice 57, zero := [.slice none 0 0], fields := [] } := by kernel_rfl
theorem Try.ty56 : Sy.ty Try.prog 56 = some { n := 6, bytes := 40, kd := .struct, zero := [.int .i64 0, .int .i64 0, .bool false, .bool false, .bool false, .string ByteArray.empty], fields := [some (0, 1, false), some (1, 1, false), some (2, 1, false), some (3, 1, false), some (4, 1, false), some (5, 1, false)] } := by kernel_rfl
theorem Try.ty57 : Sy.ty Try.prog 57 = some { n := 6, bytes := 40, kd := .struct, zero := [.int .i64 0, .int .i64 0, .bool false, .bool false, .bool false, .string ByteArray.empty], fields := [some (0, 1, false), some (1, 1, false), some (2, 1, false), some (3, 1, false), some (4, 1, false), some (5, 1, false)] } := by kernel_rfl
theorem Try.ty66 : Sy.ty Try.prog 66 = some { n := 1, bytes := 8, kd := .ptr 68, zero := [.pointer none], fields := [] } := by kernel_rfl
theorem Try.ty67 : Sy.ty Try.prog 67 = some { n := 2, bytes := 32, kd := .struct, zero := [.int .i64 0, .slice none 0 0], fields := [some (0, 1, false), some (1, 1, false)] } := by kernel_rfl
theorem Try.ty68 : Sy.ty Try.prog 68 = some { n := 2, bytes := 32, kd := .struct, zero := [.int .i64 0, .slice none 0 0], fields := [some (0, 1, false), some (1, 1, false)] } := by kernel_rfl
theorem Try.ty72 : Sy.ty Try.prog 72 = some { n := 4, bytes := 32, kd := .struct, zero := [.int .i64 0, .int .i64 0, .int .i64 0, .int .i64 0], fields := [some (0, 4, true)] } := by kernel_rfl
theorem Try.ty73 : Sy.ty Try.prog 73 = some { n := 4, bytes := 32, kd := .struct, zero := [.int .i64 0, .int .i64 0, .int .i64 0, .int .i64 0], fields := [some (0, 4, true)] } := by kernel_rfl
theorem Try.ty77 : Sy.ty Try.prog 77 = some { n := 1, bytes := 8, kd := .ptr 94, zero := [.pointer none], fields := [] } := by kernel_rfl
theorem Try.ty85 : Sy.ty Try.prog 85 = some { n := 1, bytes := 8, kd := .ptr 87, zero := [.pointer none], fields := [] } := by kernel_rfl
theorem Try.ty86 : Sy.ty Try.prog 86 = some { n := 4, bytes := 48, kd := .struct, zero := [.int .i64 0, .int .i64 0, .int .i64 0, .slice none 0 0], fields := [some (0, 3, true), some (3, 1, false)] } := by kernel_rfl
theorem Try.ty87 : Sy.ty Try.prog 87 = some { n := 4, bytes := 48, kd := .struct, zero := [.int .i64 0, .int .i64 0, .int .i64 0, .slice none 0 0], fields := [some (0, 3, true), some (3, 1, false)] } := by kernel_rfl
theorem Try.ty90 : Sy.ty Try.prog 90 = some { n := 0, bytes := 0, kd := .struct, zero := [], fields := [] } := by kernel_rfl
theorem Try.ty91 : Sy.ty Try.prog 91 = some { n := 0, bytes := 0, kd := .struct, zero := [], fields := [] } := by kernel_rfl
theorem Try.ty93 : Sy.ty Try.prog 93 = some { n := 1, bytes := 16, kd := .struct, zero := [.string ByteArray.empty], fields := [some (0, 1, false)] } := by kernel_rfl
theorem Try.ty94 : Sy.ty Try.prog 94 = some { n := 1, bytes := 16, kd := .struct, zero := [.string ByteArray.empty], fields := [some (0, 1, false)] } := by kernel_rfl
theorem Try.ty95 : Sy.ty Try.prog 95 = some { n := 1, bytes := 24, kd := .slice 5, zero := [.slice none 0 0], fields := [] } := by kernel_rfl
theorem Try.ty97 : Sy.ty Try.prog 97 = some { n := 1, bytes := 8, kd := .int .u64, zero := [.int .u64 0], fields := [] } := by kernel_rfl
theorem Try.ty100 : Sy.ty Try.prog 100 = some { n := 1, bytes := 24, kd := .slice 4, zero := [.slice none 0 0], fields := [] } := by kernel_rfl
theorem Try.ty101 : Sy.ty Try.prog 101 = some { n := 4, bytes := 40, kd := .struct, zero := [.pointer none, .pointer none, .pointer none, .string ByteArray.empty], fields := [some (0, 1, false), some (1, 1, false), some (2, 1, false), some (3, 1, false)] } := by kernel_rfl
theorem Try.ty102 : Sy.ty Try.prog 102 = some { n := 4, bytes := 40, kd := .struct, zero := [.pointer none, .pointer none, .pointer none, .string ByteArray.empty], fields := [some (0, 1, false), some (1, 1, false), some (2, 1, false), some (3, 1, false)] } := by kernel_rfl
theorem Try.ty107 : Sy.ty Try.prog 107 = some { n := 1, bytes := 4, kd := .int .u32, zero := [.int .u32 0], fields := [] } := by kernel_rfl
theorem Try.ty108 : Sy.ty Try.prog 108 = some { n := 1, bytes := 1, kd := .int .u8, zero := [.int .u8 0], fields := [] } := by kernel_rfl
theorem Try.ty109 : Sy.ty Try.prog 109 = some { n := 1, bytes := 1, kd := .int .u8, zero := [.int .u8 0], fields := [] } := by kernel_rfl
theorem Try.ty111 : Sy.ty Try.prog 111 = some { n := 1, bytes := 8, kd := .ptr 5, zero := [.pointer none], fields := [] } := by kernel_rfl
theorem Try.ty112 : Sy.ty Try.prog 112 = some { n := 1, bytes := 4, kd := .int .i32, zero := [.int .i32 0], fields := [] } := by kernel_rfl
theorem Try.ty113 : Sy.ty Try.prog 113 = some { n := 1, bytes := 4, kd := .int .i32, zero := [.int .i32 0], fields := [] } := by kernel_rfl
end Go.Proofs
