/- What the types of the seat are at a glance: by program, each asked of the kernel. No condition. -/
import Derived.Test.YtapgdbjlgebjmaaSy2
import Derived.Test.YtapgdbjlgebjmaaChecked
import Derived.KernelRfl
namespace Go.Proofs
open Go
theorem Try.ty2 : Sy.ty Try.prog 2 = some { n := 1, bytes := 8, kd := .int .i64, zero := [.int .i64 0], fields := [] } := by kernel_rfl
theorem Try.ty3 : Sy.ty Try.prog 3 = some { n := 1, bytes := 8, kd := .int .i64, zero := [.int .i64 0], fields := [] } := by kernel_rfl
theorem Try.ty4 : Sy.ty Try.prog 4 = some { n := 1, bytes := 1, kd := .bool, zero := [.bool false], fields := [] } := by kernel_rfl
theorem Try.ty5 : Sy.ty Try.prog 5 = some { n := 1, bytes := 1, kd := .int .u8, zero := [.int .u8 0], fields := [] } := by kernel_rfl
theorem Try.ty6 : Sy.ty Try.prog 6 = some { n := 1, bytes := 1, kd := .int .u8, zero := [.int .u8 0], fields := [] } := by kernel_rfl
theorem Try.ty7 : Sy.ty Try.prog 7 = some { n := 4, bytes := 24, kd := .struct, zero := [.int .i64 0, .int .i64 0, .bool false, .int .u8 0], fields := [some (0, 1, false), some (1, 1, false), some (2, 1, false), some (3, 1, false)] } := by kernel_rfl
theorem Try.ty8 : Sy.ty Try.prog 8 = some { n := 4, bytes := 24, kd := .struct, zero := [.int .i64 0, .int .i64 0, .bool false, .int .u8 0], fields := [some (0, 1, false), some (1, 1, false), some (2, 1, false), some (3, 1, false)] } := by kernel_rfl
theorem Try.ty9 : Sy.ty Try.prog 9 = some { n := 1, bytes := 16, kd := .str, zero := [.string ByteArray.empty], fields := [] } := by kernel_rfl
theorem Try.ty10 : Sy.ty Try.prog 10 = some { n := 1, bytes := 16, kd := .str, zero := [.string ByteArray.empty], fields := [] } := by kernel_rfl
theorem Try.ty11 : Sy.ty Try.prog 11 = some { n := 1, bytes := 16, kd := .str, zero := [.string ByteArray.empty], fields := [] } := by kernel_rfl
theorem Try.ty12 : Sy.ty Try.prog 12 = some { n := 1, bytes := 8, kd := .int .u64, zero := [.int .u64 0], fields := [] } := by kernel_rfl
theorem Try.ty13 : Sy.ty Try.prog 13 = some { n := 2, bytes := 24, kd := .struct, zero := [.string ByteArray.empty, .int .u64 0], fields := [some (0, 1, false), some (1, 1, false)] } := by kernel_rfl
theorem Try.ty14 : Sy.ty Try.prog 14 = some { n := 2, bytes := 24, kd := .struct, zero := [.string ByteArray.empty, .int .u64 0], fields := [some (0, 1, false), some (1, 1, false)] } := by kernel_rfl
theorem Try.ty15 : Sy.ty Try.prog 15 = some { n := 1, bytes := 8, kd := .ptr 145, zero := [.pointer none], fields := [] } := by kernel_rfl
theorem Try.ty16 : Sy.ty Try.prog 16 = some { n := 1, bytes := 8, kd := .ptr 148, zero := [.pointer none], fields := [] } := by kernel_rfl
theorem Try.ty17 : Sy.ty Try.prog 17 = some { n := 1, bytes := 8, kd := .ptr 158, zero := [.pointer none], fields := [] } := by kernel_rfl
theorem Try.ty18 : Sy.ty Try.prog 18 = some { n := 1, bytes := 8, kd := .struct, zero := [.pointer none], fields := [some (0, 1, false)] } := by kernel_rfl
theorem Try.ty19 : Sy.ty Try.prog 19 = some { n := 1, bytes := 8, kd := .struct, zero := [.pointer none], fields := [some (0, 1, false)] } := by kernel_rfl
theorem Try.ty21 : Sy.ty Try.prog 21 = some { n := 1, bytes := 4, kd := .int .i32, zero := [.int .i32 0], fields := [] } := by kernel_rfl
theorem Try.ty22 : Sy.ty Try.prog 22 = some { n := 1, bytes := 24, kd := .slice 40, zero := [.slice none 0 0], fields := [] } := by kernel_rfl
theorem Try.ty23 : Sy.ty Try.prog 23 = some { n := 1, bytes := 24, kd := .struct, zero := [.slice none 0 0], fields := [some (0, 1, false)] } := by kernel_rfl
theorem Try.ty24 : Sy.ty Try.prog 24 = some { n := 1, bytes := 24, kd := .struct, zero := [.slice none 0 0], fields := [some (0, 1, false)] } := by kernel_rfl
theorem Try.ty25 : Sy.ty Try.prog 25 = some { n := 1, bytes := 8, kd := .int .i64, zero := [.int .i64 0], fields := [] } := by kernel_rfl
theorem Try.ty28 : Sy.ty Try.prog 28 = some { n := 1, bytes := 24, kd := .slice 24, zero := [.slice none 0 0], fields := [] } := by kernel_rfl
theorem Try.ty38 : Sy.ty Try.prog 38 = some { n := 1, bytes := 24, kd := .slice 9, zero := [.slice none 0 0], fields := [] } := by kernel_rfl
theorem Try.ty39 : Sy.ty Try.prog 39 = some { n := 3, bytes := 40, kd := .struct, zero := [.int .i64 0, .bool false, .slice none 0 0], fields := [some (0, 1, false), some (1, 1, false), some (2, 1, false)] } := by kernel_rfl
theorem Try.ty40 : Sy.ty Try.prog 40 = some { n := 3, bytes := 40, kd := .struct, zero := [.int .i64 0, .bool false, .slice none 0 0], fields := [some (0, 1, false), some (1, 1, false), some (2, 1, false)] } := by kernel_rfl
theorem Try.ty42 : Sy.ty Try.prog 42 = some { n := 1, bytes := 24, kd := .slice 48, zero := [.slice none 0 0], fields := [] } := by kernel_rfl
theorem Try.ty43 : Sy.ty Try.prog 43 = some { n := 1, bytes := 24, kd := .struct, zero := [.slice none 0 0], fields := [some (0, 1, false)] } := by kernel_rfl
theorem Try.ty44 : Sy.ty Try.prog 44 = some { n := 1, bytes := 24, kd := .struct, zero := [.slice none 0 0], fields := [some (0, 1, false)] } := by kernel_rfl
theorem Try.ty45 : Sy.ty Try.prog 45 = some { n := 6, bytes := 40, kd := .struct, zero := [.int .i64 0, .int .i64 0, .bool false, .bool false, .bool false, .string ByteArray.empty], fields := [some (0, 1, false), some (1, 1, false), some (2, 1, false), some (3, 1, false), some (4, 1, false), some (5, 1, false)] } := by kernel_rfl
theorem Try.ty46 : Sy.ty Try.prog 46 = some { n := 6, bytes := 40, kd := .struct, zero := [.int .i64 0, .int .i64 0, .bool false, .bool false, .bool false, .string ByteArray.empty], fields := [some (0, 1, false), some (1, 1, false), some (2, 1, false), some (3, 1, false), some (4, 1, false), some (5, 1, false)] } := by kernel_rfl
theorem Try.ty47 : Sy.ty Try.prog 47 = some { n := 7, bytes := 48, kd := .struct, zero := [.int .i64 0, .int .i64 0, .int .i64 0, .bool false, .bool false, .bool false, .string ByteArray.empty], fields := [some (0, 1, false), some (1, 6, true)] } := by kernel_rfl
theorem Try.ty48 : Sy.ty Try.prog 48 = some { n := 7, bytes := 48, kd := .struct, zero := [.int .i64 0, .int .i64 0, .int .i64 0, .bool false, .bool false, .bool false, .string ByteArray.empty], fields := [some (0, 1, false), some (1, 6, true)] } := by kernel_rfl
theorem Try.ty61 : Sy.ty Try.prog 61 = some { n := 3, bytes := 24, kd := .struct, zero := [.int .i64 0, .int .i64 0, .int .i64 0], fields := [some (0, 1, false), some (1, 1, false), some (2, 1, false)] } := by kernel_rfl
theorem Try.ty62 : Sy.ty Try.prog 62 = some { n := 3, bytes := 24, kd := .struct, zero := [.int .i64 0, .int .i64 0, .int .i64 0], fields := [some (0, 1, false), some (1, 1, false), some (2, 1, false)] } := by kernel_rfl
theorem Try.ty63 : Sy.ty Try.prog 63 = some { n := 1, bytes := 24, kd := .slice 46, zero := [.slice none 0 0], fields := [] } := by kernel_rfl
theorem Try.ty69 : Sy.ty Try.prog 69 = some { n := 3, bytes := 56, kd := .struct, zero := [.int .i64 0, .slice none 0 0, .slice none 0 0], fields := [some (0, 1, false), some (1, 1, false), some (2, 1, true)] } := by kernel_rfl
theorem Try.ty70 : Sy.ty Try.prog 70 = some { n := 3, bytes := 56, kd := .struct, zero := [.int .i64 0, .slice none 0 0, .slice none 0 0], fields := [some (0, 1, false), some (1, 1, false), some (2, 1, true)] } := by kernel_rfl
theorem Try.ty84 : Sy.ty Try.prog 84 = some { n := 3, bytes := 24, kd := .struct, zero := [.int .i64 0, .int .i64 0, .int .i64 0], fields := [some (0, 1, false), some (1, 1, false), some (2, 1, false)] } := by kernel_rfl
theorem Try.ty85 : Sy.ty Try.prog 85 = some { n := 3, bytes := 24, kd := .struct, zero := [.int .i64 0, .int .i64 0, .int .i64 0], fields := [some (0, 1, false), some (1, 1, false), some (2, 1, false)] } := by kernel_rfl
theorem Try.ty96 : Sy.ty Try.prog 96 = some { n := 1, bytes := 8, kd := .ptr 98, zero := [.pointer none], fields := [] } := by kernel_rfl
theorem Try.ty97 : Sy.ty Try.prog 97 = some { n := 2, bytes := 48, kd := .struct, zero := [.slice none 0 0, .slice none 0 0], fields := [some (0, 1, true), some (1, 1, false)] } := by kernel_rfl
theorem Try.ty98 : Sy.ty Try.prog 98 = some { n := 2, bytes := 48, kd := .struct, zero := [.slice none 0 0, .slice none 0 0], fields := [some (0, 1, true), some (1, 1, false)] } := by kernel_rfl
theorem Try.ty104 : Sy.ty Try.prog 104 = some { n := 1, bytes := 8, kd := .ptr 106, zero := [.pointer none], fields := [] } := by kernel_rfl
theorem Try.ty105 : Sy.ty Try.prog 105 = some { n := 1, bytes := 24, kd := .struct, zero := [.slice none 0 0], fields := [some (0, 1, true)] } := by kernel_rfl
theorem Try.ty106 : Sy.ty Try.prog 106 = some { n := 1, bytes := 24, kd := .struct, zero := [.slice none 0 0], fields := [some (0, 1, true)] } := by kernel_rfl
theorem Try.ty127 : Sy.ty Try.prog 127 = some { n := 1, bytes := 8, kd := .ptr 129, zero := [.pointer none], fields := [] } := by kernel_rfl
theorem Try.ty128 : Sy.ty Try.prog 128 = some { n := 4, bytes := 48, kd := .struct, zero := [.int .i64 0, .int .i64 0, .int .i64 0, .slice none 0 0], fields := [some (0, 3, true), some (3, 1, false)] } := by kernel_rfl
theorem Try.ty129 : Sy.ty Try.prog 129 = some { n := 4, bytes := 48, kd := .struct, zero := [.int .i64 0, .int .i64 0, .int .i64 0, .slice none 0 0], fields := [some (0, 3, true), some (3, 1, false)] } := by kernel_rfl
theorem Try.ty131 : Sy.ty Try.prog 131 = some { n := 1, bytes := 8, kd := .ptr 134, zero := [.pointer none], fields := [] } := by kernel_rfl
theorem Try.ty133 : Sy.ty Try.prog 133 = some { n := 3, bytes := 56, kd := .struct, zero := [.int .i64 0, .slice none 0 0, .slice none 0 0], fields := [some (0, 3, true)] } := by kernel_rfl
theorem Try.ty134 : Sy.ty Try.prog 134 = some { n := 3, bytes := 56, kd := .struct, zero := [.int .i64 0, .slice none 0 0, .slice none 0 0], fields := [some (0, 3, true)] } := by kernel_rfl
theorem Try.ty137 : Sy.ty Try.prog 137 = some { n := 1, bytes := 8, kd := .ptr 139, zero := [.pointer none], fields := [] } := by kernel_rfl
theorem Try.ty138 : Sy.ty Try.prog 138 = some { n := 6, bytes := 64, kd := .struct, zero := [.int .i64 0, .int .i64 0, .int .i64 0, .int .i64 0, .slice none 0 0, .bool false], fields := [some (0, 3, true), some (3, 1, false), some (4, 1, false), some (5, 1, false)] } := by kernel_rfl
theorem Try.ty139 : Sy.ty Try.prog 139 = some { n := 6, bytes := 64, kd := .struct, zero := [.int .i64 0, .int .i64 0, .int .i64 0, .int .i64 0, .slice none 0 0, .bool false], fields := [some (0, 3, true), some (3, 1, false), some (4, 1, false), some (5, 1, false)] } := by kernel_rfl
theorem Try.ty144 : Sy.ty Try.prog 144 = some { n := 4, bytes := 40, kd := .struct, zero := [.pointer none, .pointer none, .pointer none, .string ByteArray.empty], fields := [some (0, 1, false), some (1, 1, false), some (2, 1, false), some (3, 1, false)] } := by kernel_rfl
theorem Try.ty145 : Sy.ty Try.prog 145 = some { n := 4, bytes := 40, kd := .struct, zero := [.pointer none, .pointer none, .pointer none, .string ByteArray.empty], fields := [some (0, 1, false), some (1, 1, false), some (2, 1, false), some (3, 1, false)] } := by kernel_rfl
theorem Try.ty150 : Sy.ty Try.prog 150 = some { n := 1, bytes := 4, kd := .int .u32, zero := [.int .u32 0], fields := [] } := by kernel_rfl
theorem Try.ty151 : Sy.ty Try.prog 151 = some { n := 1, bytes := 1, kd := .int .u8, zero := [.int .u8 0], fields := [] } := by kernel_rfl
theorem Try.ty152 : Sy.ty Try.prog 152 = some { n := 1, bytes := 1, kd := .int .u8, zero := [.int .u8 0], fields := [] } := by kernel_rfl
theorem Try.ty154 : Sy.ty Try.prog 154 = some { n := 1, bytes := 8, kd := .ptr 5, zero := [.pointer none], fields := [] } := by kernel_rfl
theorem Try.ty155 : Sy.ty Try.prog 155 = some { n := 1, bytes := 4, kd := .int .i32, zero := [.int .i32 0], fields := [] } := by kernel_rfl
theorem Try.ty156 : Sy.ty Try.prog 156 = some { n := 1, bytes := 4, kd := .int .i32, zero := [.int .i32 0], fields := [] } := by kernel_rfl
end Go.Proofs
