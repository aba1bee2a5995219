/- What the types of the seat are at a glance: by program, each asked of the kernel. No condition. -/
import Derived.Test.YtlehonipilpfdaaSy2
import Derived.Test.YtlehonipilpfdaaChecked
import Derived.KernelRfl
namespace Go.Proofs
open Go
theorem Try.ty2 : Sy.ty Try.prog 2 = some { n := 1, bytes := 8, kd := .int .i64, zero := [.int .i64 0], fields := [] } := by kernel_rfl
theorem Try.ty3 : Sy.ty Try.prog 3 = some { n := 1, bytes := 8, kd := .int .i64, zero := [.int .i64 0], fields := [] } := by kernel_rfl
theorem Try.ty4 : Sy.ty Try.prog 4 = some { n := 1, bytes := 1, kd := .bool, zero := [.bool false], fields := [] } := by kernel_rfl
theorem Try.ty5 : Sy.ty Try.prog 5 = some { n := 1, bytes := 1, kd := .int .u8, zero := [.int .u8 0], fields := [] } := by kernel_rfl
theorem Try.ty6 : Sy.ty Try.prog 6 = some { n := 1, bytes := 1, kd := .int .u8, zero := [.int .u8 0], fields := [] } := by kernel_rfl
theorem Try.ty7 : Sy.ty Try.prog 7 = some { n := 4, bytes := 24, kd := .struct, zero := [.int .i64 0, .int .i64 0, .bool false, .int .u8 0], fields := [some (0, 1, false), some (1, 1, false), some (2, 1, false), some (3, 1, false)] } := by kernel_rfl
theorem Try.ty8 : Sy.ty Try.prog 8 = some { n := 4, bytes := 24, kd := .struct, zero := [.int .i64 0, .int .i64 0, .bool false, .int .u8 0], fields := [some (0, 1, false), some (1, 1, false), some (2, 1, false), some (3, 1, false)] } := by kernel_rfl
theorem Try.ty9 : Sy.ty Try.prog 9 = some { n := 1, bytes := 16, kd := .str, zero := [.string ByteArray.empty], fields := [] } := by kernel_rfl
theorem Try.ty10 : Sy.ty Try.prog 10 = some { n := 1, bytes := 16, kd := .str, zero := [.string ByteArray.empty], fields := [] } := by kernel_rfl
theorem Try.ty11 : Sy.ty Try.prog 11 = some { n := 1, bytes := 16, kd := .str, zero := [.string ByteArray.empty], fields := [] } := by kernel_rfl
theorem Try.ty12 : Sy.ty Try.prog 12 = some { n := 1, bytes := 8, kd := .int .u64, zero := [.int .u64 0], fields := [] } := by kernel_rfl
theorem Try.ty13 : Sy.ty Try.prog 13 = some { n := 2, bytes := 24, kd := .struct, zero := [.string ByteArray.empty, .int .u64 0], fields := [some (0, 1, false), some (1, 1, false)] } := by kernel_rfl
theorem Try.ty14 : Sy.ty Try.prog 14 = some { n := 2, bytes := 24, kd := .struct, zero := [.string ByteArray.empty, .int .u64 0], fields := [some (0, 1, false), some (1, 1, false)] } := by kernel_rfl
theorem Try.ty15 : Sy.ty Try.prog 15 = some { n := 1, bytes := 8, kd := .ptr 162, zero := [.pointer none], fields := [] } := by kernel_rfl
theorem Try.ty16 : Sy.ty Try.prog 16 = some { n := 1, bytes := 8, kd := .ptr 165, zero := [.pointer none], fields := [] } := by kernel_rfl
theorem Try.ty17 : Sy.ty Try.prog 17 = some { n := 1, bytes := 8, kd := .ptr 175, zero := [.pointer none], fields := [] } := by kernel_rfl
theorem Try.ty18 : Sy.ty Try.prog 18 = some { n := 1, bytes := 8, kd := .struct, zero := [.pointer none], fields := [some (0, 1, false)] } := by kernel_rfl
theorem Try.ty19 : Sy.ty Try.prog 19 = some { n := 1, bytes := 8, kd := .struct, zero := [.pointer none], fields := [some (0, 1, false)] } := by kernel_rfl
theorem Try.ty21 : Sy.ty Try.prog 21 = some { n := 1, bytes := 4, kd := .int .i32, zero := [.int .i32 0], fields := [] } := by kernel_rfl
theorem Try.ty22 : Sy.ty Try.prog 22 = some { n := 3, bytes := 24, kd := .struct, zero := [.int .i64 0, .int .i64 0, .int .i64 0], fields := [some (0, 1, false), some (1, 1, false), some (2, 1, false)] } := by kernel_rfl
theorem Try.ty23 : Sy.ty Try.prog 23 = some { n := 3, bytes := 24, kd := .struct, zero := [.int .i64 0, .int .i64 0, .int .i64 0], fields := [some (0, 1, false), some (1, 1, false), some (2, 1, false)] } := by kernel_rfl
theorem Try.ty24 : Sy.ty Try.prog 24 = some { n := 1, bytes := 24, kd := .slice 9, zero := [.slice none 0 0], fields := [] } := by kernel_rfl
theorem Try.ty25 : Sy.ty Try.prog 25 = some { n := 3, bytes := 40, kd := .struct, zero := [.int .i64 0, .bool false, .slice none 0 0], fields := [some (0, 1, false), some (1, 1, false), some (2, 1, false)] } := by kernel_rfl
theorem Try.ty26 : Sy.ty Try.prog 26 = some { n := 3, bytes := 40, kd := .struct, zero := [.int .i64 0, .bool false, .slice none 0 0], fields := [some (0, 1, false), some (1, 1, false), some (2, 1, false)] } := by kernel_rfl
theorem Try.ty28 : Sy.ty Try.prog 28 = some { n := 1, bytes := 24, kd := .slice 33, zero := [.slice none 0 0], fields := [] } := by kernel_rfl
theorem Try.ty29 : Sy.ty Try.prog 29 = some { n := 1, bytes := 8, kd := .int .i64, zero := [.int .i64 0], fields := [] } := by kernel_rfl
theorem Try.ty32 : Sy.ty Try.prog 32 = some { n := 6, bytes := 40, kd := .struct, zero := [.int .i64 0, .int .i64 0, .bool false, .bool false, .bool false, .string ByteArray.empty], fields := [some (0, 1, false), some (1, 1, false), some (2, 1, false), some (3, 1, false), some (4, 1, false), some (5, 1, false)] } := by kernel_rfl
theorem Try.ty33 : Sy.ty Try.prog 33 = some { n := 6, bytes := 40, kd := .struct, zero := [.int .i64 0, .int .i64 0, .bool false, .bool false, .bool false, .string ByteArray.empty], fields := [some (0, 1, false), some (1, 1, false), some (2, 1, false), some (3, 1, false), some (4, 1, false), some (5, 1, false)] } := by kernel_rfl
theorem Try.ty44 : Sy.ty Try.prog 44 = some { n := 1, bytes := 24, kd := .slice 48, zero := [.slice none 0 0], fields := [] } := by kernel_rfl
theorem Try.ty45 : Sy.ty Try.prog 45 = some { n := 2, bytes := 32, kd := .struct, zero := [.int .i64 0, .slice none 0 0], fields := [some (0, 1, false), some (1, 1, false)] } := by kernel_rfl
theorem Try.ty46 : Sy.ty Try.prog 46 = some { n := 2, bytes := 32, kd := .struct, zero := [.int .i64 0, .slice none 0 0], fields := [some (0, 1, false), some (1, 1, false)] } := by kernel_rfl
theorem Try.ty47 : Sy.ty Try.prog 47 = some { n := 7, bytes := 48, kd := .struct, zero := [.int .i64 0, .int .i64 0, .int .i64 0, .bool false, .bool false, .bool false, .string ByteArray.empty], fields := [some (0, 1, false), some (1, 6, true)] } := by kernel_rfl
theorem Try.ty48 : Sy.ty Try.prog 48 = some { n := 7, bytes := 48, kd := .struct, zero := [.int .i64 0, .int .i64 0, .int .i64 0, .bool false, .bool false, .bool false, .string ByteArray.empty], fields := [some (0, 1, false), some (1, 6, true)] } := by kernel_rfl
theorem Try.ty63 : Sy.ty Try.prog 63 = some { n := 1, bytes := 24, kd := .slice 66, zero := [.slice none 0 0], fields := [] } := by kernel_rfl
theorem Try.ty64 : Sy.ty Try.prog 64 = some { n := 1, bytes := 24, kd := .slice 26, zero := [.slice none 0 0], fields := [] } := by kernel_rfl
theorem Try.ty65 : Sy.ty Try.prog 65 = some { n := 1, bytes := 24, kd := .struct, zero := [.slice none 0 0], fields := [some (0, 1, false)] } := by kernel_rfl
theorem Try.ty66 : Sy.ty Try.prog 66 = some { n := 1, bytes := 24, kd := .struct, zero := [.slice none 0 0], fields := [some (0, 1, false)] } := by kernel_rfl
theorem Try.ty67 : Sy.ty Try.prog 67 = some { n := 3, bytes := 56, kd := .struct, zero := [.int .i64 0, .slice none 0 0, .slice none 0 0], fields := [some (0, 1, false), some (1, 1, false), some (2, 1, true)] } := by kernel_rfl
theorem Try.ty68 : Sy.ty Try.prog 68 = some { n := 3, bytes := 56, kd := .struct, zero := [.int .i64 0, .slice none 0 0, .slice none 0 0], fields := [some (0, 1, false), some (1, 1, false), some (2, 1, true)] } := by kernel_rfl
theorem Try.ty69 : Sy.ty Try.prog 69 = some { n := 3, bytes := 24, kd := .struct, zero := [.int .i64 0, .int .i64 0, .int .i64 0], fields := [some (0, 1, false), some (1, 1, false), some (2, 1, false)] } := by kernel_rfl
theorem Try.ty70 : Sy.ty Try.prog 70 = some { n := 3, bytes := 24, kd := .struct, zero := [.int .i64 0, .int .i64 0, .int .i64 0], fields := [some (0, 1, false), some (1, 1, false), some (2, 1, false)] } := by kernel_rfl
theorem Try.ty90 : Sy.ty Try.prog 90 = some { n := 1, bytes := 8, kd := .ptr 121, zero := [.pointer none], fields := [] } := by kernel_rfl
theorem Try.ty112 : Sy.ty Try.prog 112 = some { n := 1, bytes := 8, kd := .ptr 114, zero := [.pointer none], fields := [] } := by kernel_rfl
theorem Try.ty113 : Sy.ty Try.prog 113 = some { n := 4, bytes := 48, kd := .struct, zero := [.int .i64 0, .int .i64 0, .int .i64 0, .slice none 0 0], fields := [some (0, 3, true), some (3, 1, false)] } := by kernel_rfl
theorem Try.ty114 : Sy.ty Try.prog 114 = some { n := 4, bytes := 48, kd := .struct, zero := [.int .i64 0, .int .i64 0, .int .i64 0, .slice none 0 0], fields := [some (0, 3, true), some (3, 1, false)] } := by kernel_rfl
theorem Try.ty117 : Sy.ty Try.prog 117 = some { n := 0, bytes := 0, kd := .struct, zero := [], fields := [] } := by kernel_rfl
theorem Try.ty118 : Sy.ty Try.prog 118 = some { n := 0, bytes := 0, kd := .struct, zero := [], fields := [] } := by kernel_rfl
theorem Try.ty120 : Sy.ty Try.prog 120 = some { n := 1, bytes := 16, kd := .struct, zero := [.string ByteArray.empty], fields := [some (0, 1, false)] } := by kernel_rfl
theorem Try.ty121 : Sy.ty Try.prog 121 = some { n := 1, bytes := 16, kd := .struct, zero := [.string ByteArray.empty], fields := [some (0, 1, false)] } := by kernel_rfl
theorem Try.ty122 : Sy.ty Try.prog 122 = some { n := 1, bytes := 24, kd := .slice 5, zero := [.slice none 0 0], fields := [] } := by kernel_rfl
theorem Try.ty124 : Sy.ty Try.prog 124 = some { n := 1, bytes := 8, kd := .int .u64, zero := [.int .u64 0], fields := [] } := by kernel_rfl
theorem Try.ty126 : Sy.ty Try.prog 126 = some { n := 1, bytes := 8, kd := .ptr 129, zero := [.pointer none], fields := [] } := by kernel_rfl
theorem Try.ty128 : Sy.ty Try.prog 128 = some { n := 3, bytes := 56, kd := .struct, zero := [.int .i64 0, .slice none 0 0, .slice none 0 0], fields := [some (0, 2, true), some (2, 1, false)] } := by kernel_rfl
theorem Try.ty129 : Sy.ty Try.prog 129 = some { n := 3, bytes := 56, kd := .struct, zero := [.int .i64 0, .slice none 0 0, .slice none 0 0], fields := [some (0, 2, true), some (2, 1, false)] } := by kernel_rfl
theorem Try.ty141 : Sy.ty Try.prog 141 = some { n := 1, bytes := 8, kd := .ptr 143, zero := [.pointer none], fields := [] } := by kernel_rfl
theorem Try.ty142 : Sy.ty Try.prog 142 = some { n := 6, bytes := 64, kd := .struct, zero := [.int .i64 0, .int .i64 0, .int .i64 0, .int .i64 0, .slice none 0 0, .bool false], fields := [some (0, 3, true), some (3, 1, false), some (4, 1, false), some (5, 1, false)] } := by kernel_rfl
theorem Try.ty143 : Sy.ty Try.prog 143 = some { n := 6, bytes := 64, kd := .struct, zero := [.int .i64 0, .int .i64 0, .int .i64 0, .int .i64 0, .slice none 0 0, .bool false], fields := [some (0, 3, true), some (3, 1, false), some (4, 1, false), some (5, 1, false)] } := by kernel_rfl
theorem Try.ty145 : Sy.ty Try.prog 145 = some { n := 1, bytes := 8, kd := .ptr 148, zero := [.pointer none], fields := [] } := by kernel_rfl
theorem Try.ty147 : Sy.ty Try.prog 147 = some { n := 3, bytes := 56, kd := .struct, zero := [.int .i64 0, .slice none 0 0, .slice none 0 0], fields := [some (0, 3, true)] } := by kernel_rfl
theorem Try.ty148 : Sy.ty Try.prog 148 = some { n := 3, bytes := 56, kd := .struct, zero := [.int .i64 0, .slice none 0 0, .slice none 0 0], fields := [some (0, 3, true)] } := by kernel_rfl
theorem Try.ty149 : Sy.ty Try.prog 149 = some { n := 1, bytes := 8, kd := .ptr 151, zero := [.pointer none], fields := [] } := by kernel_rfl
theorem Try.ty150 : Sy.ty Try.prog 150 = some { n := 2, bytes := 48, kd := .struct, zero := [.slice none 0 0, .slice none 0 0], fields := [some (0, 1, true), some (1, 1, false)] } := by kernel_rfl
theorem Try.ty151 : Sy.ty Try.prog 151 = some { n := 2, bytes := 48, kd := .struct, zero := [.slice none 0 0, .slice none 0 0], fields := [some (0, 1, true), some (1, 1, false)] } := by kernel_rfl
theorem Try.ty155 : Sy.ty Try.prog 155 = some { n := 1, bytes := 24, kd := .slice 4, zero := [.slice none 0 0], fields := [] } := by kernel_rfl
theorem Try.ty161 : Sy.ty Try.prog 161 = some { n := 4, bytes := 40, kd := .struct, zero := [.pointer none, .pointer none, .pointer none, .string ByteArray.empty], fields := [some (0, 1, false), some (1, 1, false), some (2, 1, false), some (3, 1, false)] } := by kernel_rfl
theorem Try.ty162 : Sy.ty Try.prog 162 = some { n := 4, bytes := 40, kd := .struct, zero := [.pointer none, .pointer none, .pointer none, .string ByteArray.empty], fields := [some (0, 1, false), some (1, 1, false), some (2, 1, false), some (3, 1, false)] } := by kernel_rfl
theorem Try.ty167 : Sy.ty Try.prog 167 = some { n := 1, bytes := 4, kd := .int .u32, zero := [.int .u32 0], fields := [] } := by kernel_rfl
theorem Try.ty168 : Sy.ty Try.prog 168 = some { n := 1, bytes := 1, kd := .int .u8, zero := [.int .u8 0], fields := [] } := by kernel_rfl
theorem Try.ty169 : Sy.ty Try.prog 169 = some { n := 1, bytes := 1, kd := .int .u8, zero := [.int .u8 0], fields := [] } := by kernel_rfl
theorem Try.ty171 : Sy.ty Try.prog 171 = some { n := 1, bytes := 8, kd := .ptr 5, zero := [.pointer none], fields := [] } := by kernel_rfl
theorem Try.ty172 : Sy.ty Try.prog 172 = some { n := 1, bytes := 4, kd := .int .i32, zero := [.int .i32 0], fields := [] } := by kernel_rfl
theorem Try.ty173 : Sy.ty Try.prog 173 = some { n := 1, bytes := 4, kd := .int .i32, zero := [.int .i32 0], fields := [] } := by kernel_rfl
end Go.Proofs
