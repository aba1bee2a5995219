/- What the types of the seat are at a glance: by program, each asked of the kernel. No condition. -/
import Derived.Test.YtdanlpkclkjkcaaSy2
import Derived.Test.YtdanlpkclkjkcaaChecked
import Derived.KernelRfl
namespace Go.Proofs
open Go
theorem Try.ty2 : Sy.ty Try.prog 2 = some { n := 1, bytes := 8, kd := .int .i64, zero := [.int .i64 0], fields := [] } := by kernel_rfl
theorem Try.ty3 : Sy.ty Try.prog 3 = some { n := 1, bytes := 8, kd := .int .i64, zero := [.int .i64 0], fields := [] } := by kernel_rfl
theorem Try.ty4 : Sy.ty Try.prog 4 = some { n := 1, bytes := 1, kd := .bool, zero := [.bool false], fields := [] } := by kernel_rfl
theorem Try.ty5 : Sy.ty Try.prog 5 = some { n := 1, bytes := 1, kd := .int .u8, zero := [.int .u8 0], fields := [] } := by kernel_rfl
theorem Try.ty6 : Sy.ty Try.prog 6 = some { n := 1, bytes := 1, kd := .int .u8, zero := [.int .u8 0], fields := [] } := by kernel_rfl
theorem Try.ty7 : Sy.ty Try.prog 7 = some { n := 4, bytes := 24, kd := .struct, zero := [.int .i64 0, .int .i64 0, .bool false, .int .u8 0], fields := [some (0, 1, false), some (1, 1, false), some (2, 1, false), some (3, 1, false)] } := by kernel_rfl
theorem Try.ty8 : Sy.ty Try.prog 8 = some { n := 4, bytes := 24, kd := .struct, zero := [.int .i64 0, .int .i64 0, .bool false, .int .u8 0], fields := [some (0, 1, false), some (1, 1, false), some (2, 1, false), some (3, 1, false)] } := by kernel_rfl
theorem Try.ty9 : Sy.ty Try.prog 9 = some { n := 1, bytes := 16, kd := .str, zero := [.string ByteArray.empty], fields := [] } := by kernel_rfl
theorem Try.ty10 : Sy.ty Try.prog 10 = some { n := 1, bytes := 16, kd := .str, zero := [.string ByteArray.empty], fields := [] } := by kernel_rfl
theorem Try.ty11 : Sy.ty Try.prog 11 = some { n := 1, bytes := 16, kd := .str, zero := [.string ByteArray.empty], fields := [] } := by kernel_rfl
theorem Try.ty12 : Sy.ty Try.prog 12 = some { n := 1, bytes := 8, kd := .int .u64, zero := [.int .u64 0], fields := [] } := by kernel_rfl
theorem Try.ty13 : Sy.ty Try.prog 13 = some { n := 2, bytes := 24, kd := .struct, zero := [.string ByteArray.empty, .int .u64 0], fields := [some (0, 1, false), some (1, 1, false)] } := by kernel_rfl
theorem Try.ty14 : Sy.ty Try.prog 14 = some { n := 2, bytes := 24, kd := .struct, zero := [.string ByteArray.empty, .int .u64 0], fields := [some (0, 1, false), some (1, 1, false)] } := by kernel_rfl
theorem Try.ty15 : Sy.ty Try.prog 15 = some { n := 1, bytes := 8, kd := .ptr 181, zero := [.pointer none], fields := [] } := by kernel_rfl
theorem Try.ty16 : Sy.ty Try.prog 16 = some { n := 1, bytes := 8, kd := .ptr 184, zero := [.pointer none], fields := [] } := by kernel_rfl
theorem Try.ty17 : Sy.ty Try.prog 17 = some { n := 1, bytes := 8, kd := .ptr 194, zero := [.pointer none], fields := [] } := by kernel_rfl
theorem Try.ty18 : Sy.ty Try.prog 18 = some { n := 1, bytes := 8, kd := .struct, zero := [.pointer none], fields := [some (0, 1, false)] } := by kernel_rfl
theorem Try.ty19 : Sy.ty Try.prog 19 = some { n := 1, bytes := 8, kd := .struct, zero := [.pointer none], fields := [some (0, 1, false)] } := by kernel_rfl
theorem Try.ty21 : Sy.ty Try.prog 21 = some { n := 1, bytes := 4, kd := .int .i32, zero := [.int .i32 0], fields := [] } := by kernel_rfl
theorem Try.ty22 : Sy.ty Try.prog 22 = some { n := 1, bytes := 24, kd := .slice 52, zero := [.slice none 0 0], fields := [] } := by kernel_rfl
theorem Try.ty23 : Sy.ty Try.prog 23 = some { n := 1, bytes := 24, kd := .slice 74, zero := [.slice none 0 0], fields := [] } := by kernel_rfl
theorem Try.ty24 : Sy.ty Try.prog 24 = some { n := 2, bytes := 32, kd := .struct, zero := [.int .i64 0, .slice none 0 0], fields := [some (0, 1, false), some (1, 1, false)] } := by kernel_rfl
theorem Try.ty25 : Sy.ty Try.prog 25 = some { n := 2, bytes := 32, kd := .struct, zero := [.int .i64 0, .slice none 0 0], fields := [some (0, 1, false), some (1, 1, false)] } := by kernel_rfl
theorem Try.ty26 : Sy.ty Try.prog 26 = some { n := 1, bytes := 24, kd := .struct, zero := [.slice none 0 0], fields := [some (0, 1, false)] } := by kernel_rfl
theorem Try.ty27 : Sy.ty Try.prog 27 = some { n := 1, bytes := 24, kd := .struct, zero := [.slice none 0 0], fields := [some (0, 1, false)] } := by kernel_rfl
theorem Try.ty28 : Sy.ty Try.prog 28 = some { n := 1, bytes := 24, kd := .slice 31, zero := [.slice none 0 0], fields := [] } := by kernel_rfl
theorem Try.ty29 : Sy.ty Try.prog 29 = some { n := 1, bytes := 24, kd := .slice 62, zero := [.slice none 0 0], fields := [] } := by kernel_rfl
theorem Try.ty30 : Sy.ty Try.prog 30 = some { n := 1, bytes := 24, kd := .struct, zero := [.slice none 0 0], fields := [some (0, 1, false)] } := by kernel_rfl
theorem Try.ty31 : Sy.ty Try.prog 31 = some { n := 1, bytes := 24, kd := .struct, zero := [.slice none 0 0], fields := [some (0, 1, false)] } := by kernel_rfl
theorem Try.ty32 : Sy.ty Try.prog 32 = some { n := 3, bytes := 56, kd := .struct, zero := [.int .i64 0, .slice none 0 0, .slice none 0 0], fields := [some (0, 1, false), some (1, 1, false), some (2, 1, true)] } := by kernel_rfl
theorem Try.ty33 : Sy.ty Try.prog 33 = some { n := 3, bytes := 56, kd := .struct, zero := [.int .i64 0, .slice none 0 0, .slice none 0 0], fields := [some (0, 1, false), some (1, 1, false), some (2, 1, true)] } := by kernel_rfl
theorem Try.ty34 : Sy.ty Try.prog 34 = some { n := 7, bytes := 120, kd := .struct, zero := [.int .i64 0, .int .i64 0, .slice none 0 0, .slice none 0 0, .int .i64 0, .slice none 0 0, .slice none 0 0], fields := [some (0, 1, false), some (1, 2, true), some (3, 1, true), some (4, 3, true)] } := by kernel_rfl
theorem Try.ty35 : Sy.ty Try.prog 35 = some { n := 7, bytes := 120, kd := .struct, zero := [.int .i64 0, .int .i64 0, .slice none 0 0, .slice none 0 0, .int .i64 0, .slice none 0 0, .slice none 0 0], fields := [some (0, 1, false), some (1, 2, true), some (3, 1, true), some (4, 3, true)] } := by kernel_rfl
theorem Try.ty36 : Sy.ty Try.prog 36 = some { n := 3, bytes := 24, kd := .struct, zero := [.int .i64 0, .int .i64 0, .int .i64 0], fields := [some (0, 1, false), some (1, 1, false), some (2, 1, false)] } := by kernel_rfl
theorem Try.ty37 : Sy.ty Try.prog 37 = some { n := 3, bytes := 24, kd := .struct, zero := [.int .i64 0, .int .i64 0, .int .i64 0], fields := [some (0, 1, false), some (1, 1, false), some (2, 1, false)] } := by kernel_rfl
theorem Try.ty38 : Sy.ty Try.prog 38 = some { n := 3, bytes := 24, kd := .struct, zero := [.int .i64 0, .int .i64 0, .int .i64 0], fields := [some (0, 1, false), some (1, 1, false), some (2, 1, false)] } := by kernel_rfl
theorem Try.ty39 : Sy.ty Try.prog 39 = some { n := 3, bytes := 24, kd := .struct, zero := [.int .i64 0, .int .i64 0, .int .i64 0], fields := [some (0, 1, false), some (1, 1, false), some (2, 1, false)] } := by kernel_rfl
theorem Try.ty40 : Sy.ty Try.prog 40 = some { n := 6, bytes := 48, kd := .struct, zero := [.int .i64 0, .int .i64 0, .int .i64 0, .int .i64 0, .int .i64 0, .int .i64 0], fields := [some (0, 3, true), some (3, 3, true)] } := by kernel_rfl
theorem Try.ty41 : Sy.ty Try.prog 41 = some { n := 6, bytes := 48, kd := .struct, zero := [.int .i64 0, .int .i64 0, .int .i64 0, .int .i64 0, .int .i64 0, .int .i64 0], fields := [some (0, 3, true), some (3, 3, true)] } := by kernel_rfl
theorem Try.ty42 : Sy.ty Try.prog 42 = some { n := 1, bytes := 24, kd := .slice 49, zero := [.slice none 0 0], fields := [] } := by kernel_rfl
theorem Try.ty43 : Sy.ty Try.prog 43 = some { n := 1, bytes := 24, kd := .slice 44, zero := [.slice none 0 0], fields := [] } := by kernel_rfl
theorem Try.ty44 : Sy.ty Try.prog 44 = some { n := 1, bytes := 8, kd := .int .i64, zero := [.int .i64 0], fields := [] } := by kernel_rfl
theorem Try.ty48 : Sy.ty Try.prog 48 = some { n := 6, bytes := 40, kd := .struct, zero := [.int .i64 0, .int .i64 0, .bool false, .bool false, .bool false, .string ByteArray.empty], fields := [some (0, 1, false), some (1, 1, false), some (2, 1, false), some (3, 1, false), some (4, 1, false), some (5, 1, false)] } := by kernel_rfl
theorem Try.ty49 : Sy.ty Try.prog 49 = some { n := 6, bytes := 40, kd := .struct, zero := [.int .i64 0, .int .i64 0, .bool false, .bool false, .bool false, .string ByteArray.empty], fields := [some (0, 1, false), some (1, 1, false), some (2, 1, false), some (3, 1, false), some (4, 1, false), some (5, 1, false)] } := by kernel_rfl
theorem Try.ty51 : Sy.ty Try.prog 51 = some { n := 3, bytes := 32, kd := .struct, zero := [.int .i64 0, .int .i64 0, .string ByteArray.empty], fields := [some (0, 1, false), some (1, 1, false), some (2, 1, false)] } := by kernel_rfl
theorem Try.ty52 : Sy.ty Try.prog 52 = some { n := 3, bytes := 32, kd := .struct, zero := [.int .i64 0, .int .i64 0, .string ByteArray.empty], fields := [some (0, 1, false), some (1, 1, false), some (2, 1, false)] } := by kernel_rfl
theorem Try.ty60 : Sy.ty Try.prog 60 = some { n := 1, bytes := 24, kd := .slice 9, zero := [.slice none 0 0], fields := [] } := by kernel_rfl
theorem Try.ty61 : Sy.ty Try.prog 61 = some { n := 3, bytes := 40, kd := .struct, zero := [.int .i64 0, .bool false, .slice none 0 0], fields := [some (0, 1, false), some (1, 1, false), some (2, 1, false)] } := by kernel_rfl
theorem Try.ty62 : Sy.ty Try.prog 62 = some { n := 3, bytes := 40, kd := .struct, zero := [.int .i64 0, .bool false, .slice none 0 0], fields := [some (0, 1, false), some (1, 1, false), some (2, 1, false)] } := by kernel_rfl
theorem Try.ty65 : Sy.ty Try.prog 65 = some { n := 1, bytes := 8, kd := .ptr 68, zero := [.pointer none], fields := [] } := by kernel_rfl
theorem Try.ty67 : Sy.ty Try.prog 67 = some { n := 14, bytes := 192, kd := .struct, zero := [.int .i64 0, .int .i64 0, .int .i64 0, .int .i64 0, .int .i64 0, .int .i64 0, .int .i64 0, .int .i64 0, .slice none 0 0, .slice none 0 0, .int .i64 0, .slice none 0 0, .slice none 0 0, .slice none 0 0], fields := [some (0, 6, true), some (6, 7, true), some (13, 1, false)] } := by kernel_rfl
theorem Try.ty68 : Sy.ty Try.prog 68 = some { n := 14, bytes := 192, kd := .struct, zero := [.int .i64 0, .int .i64 0, .int .i64 0, .int .i64 0, .int .i64 0, .int .i64 0, .int .i64 0, .int .i64 0, .slice none 0 0, .slice none 0 0, .int .i64 0, .slice none 0 0, .slice none 0 0, .slice none 0 0], fields := [some (0, 6, true), some (6, 7, true), some (13, 1, false)] } := by kernel_rfl
theorem Try.ty73 : Sy.ty Try.prog 73 = some { n := 7, bytes := 48, kd := .struct, zero := [.int .i64 0, .int .i64 0, .int .i64 0, .bool false, .bool false, .bool false, .string ByteArray.empty], fields := [some (0, 1, false), some (1, 6, true)] } := by kernel_rfl
theorem Try.ty74 : Sy.ty Try.prog 74 = some { n := 7, bytes := 48, kd := .struct, zero := [.int .i64 0, .int .i64 0, .int .i64 0, .bool false, .bool false, .bool false, .string ByteArray.empty], fields := [some (0, 1, false), some (1, 6, true)] } := by kernel_rfl
theorem Try.ty95 : Sy.ty Try.prog 95 = some { n := 1, bytes := 8, kd := .ptr 97, zero := [.pointer none], fields := [] } := by kernel_rfl
theorem Try.ty96 : Sy.ty Try.prog 96 = some { n := 1, bytes := 24, kd := .struct, zero := [.slice none 0 0], fields := [some (0, 1, true)] } := by kernel_rfl
theorem Try.ty97 : Sy.ty Try.prog 97 = some { n := 1, bytes := 24, kd := .struct, zero := [.slice none 0 0], fields := [some (0, 1, true)] } := by kernel_rfl
theorem Try.ty107 : Sy.ty Try.prog 107 = some { n := 1, bytes := 8, kd := .ptr 109, zero := [.pointer none], fields := [] } := by kernel_rfl
theorem Try.ty108 : Sy.ty Try.prog 108 = some { n := 4, bytes := 48, kd := .struct, zero := [.int .i64 0, .int .i64 0, .int .i64 0, .slice none 0 0], fields := [some (0, 3, true), some (3, 1, false)] } := by kernel_rfl
theorem Try.ty109 : Sy.ty Try.prog 109 = some { n := 4, bytes := 48, kd := .struct, zero := [.int .i64 0, .int .i64 0, .int .i64 0, .slice none 0 0], fields := [some (0, 3, true), some (3, 1, false)] } := by kernel_rfl
theorem Try.ty114 : Sy.ty Try.prog 114 = some { n := 1, bytes := 8, kd := .ptr 116, zero := [.pointer none], fields := [] } := by kernel_rfl
theorem Try.ty115 : Sy.ty Try.prog 115 = some { n := 8, bytes := 128, kd := .struct, zero := [.int .i64 0, .int .i64 0, .slice none 0 0, .slice none 0 0, .int .i64 0, .slice none 0 0, .slice none 0 0, .int .i64 0], fields := [some (0, 7, true), some (7, 1, false)] } := by kernel_rfl
theorem Try.ty116 : Sy.ty Try.prog 116 = some { n := 8, bytes := 128, kd := .struct, zero := [.int .i64 0, .int .i64 0, .slice none 0 0, .slice none 0 0, .int .i64 0, .slice none 0 0, .slice none 0 0, .int .i64 0], fields := [some (0, 7, true), some (7, 1, false)] } := by kernel_rfl
theorem Try.ty132 : Sy.ty Try.prog 132 = some { n := 1, bytes := 8, kd := .ptr 153, zero := [.pointer none], fields := [] } := by kernel_rfl
theorem Try.ty142 : Sy.ty Try.prog 142 = some { n := 1, bytes := 8, kd := .ptr 144, zero := [.pointer none], fields := [] } := by kernel_rfl
theorem Try.ty143 : Sy.ty Try.prog 143 = some { n := 6, bytes := 64, kd := .struct, zero := [.int .i64 0, .int .i64 0, .int .i64 0, .int .i64 0, .slice none 0 0, .bool false], fields := [some (0, 3, true), some (3, 1, false), some (4, 1, false), some (5, 1, false)] } := by kernel_rfl
theorem Try.ty144 : Sy.ty Try.prog 144 = some { n := 6, bytes := 64, kd := .struct, zero := [.int .i64 0, .int .i64 0, .int .i64 0, .int .i64 0, .slice none 0 0, .bool false], fields := [some (0, 3, true), some (3, 1, false), some (4, 1, false), some (5, 1, false)] } := by kernel_rfl
theorem Try.ty146 : Sy.ty Try.prog 146 = some { n := 1, bytes := 24, kd := .slice 5, zero := [.slice none 0 0], fields := [] } := by kernel_rfl
theorem Try.ty149 : Sy.ty Try.prog 149 = some { n := 0, bytes := 0, kd := .struct, zero := [], fields := [] } := by kernel_rfl
theorem Try.ty150 : Sy.ty Try.prog 150 = some { n := 0, bytes := 0, kd := .struct, zero := [], fields := [] } := by kernel_rfl
theorem Try.ty152 : Sy.ty Try.prog 152 = some { n := 1, bytes := 16, kd := .struct, zero := [.string ByteArray.empty], fields := [some (0, 1, false)] } := by kernel_rfl
theorem Try.ty153 : Sy.ty Try.prog 153 = some { n := 1, bytes := 16, kd := .struct, zero := [.string ByteArray.empty], fields := [some (0, 1, false)] } := by kernel_rfl
theorem Try.ty155 : Sy.ty Try.prog 155 = some { n := 1, bytes := 8, kd := .int .u64, zero := [.int .u64 0], fields := [] } := by kernel_rfl
theorem Try.ty156 : Sy.ty Try.prog 156 = some { n := 1, bytes := 8, kd := .ptr 159, zero := [.pointer none], fields := [] } := by kernel_rfl
theorem Try.ty158 : Sy.ty Try.prog 158 = some { n := 3, bytes := 56, kd := .struct, zero := [.int .i64 0, .slice none 0 0, .slice none 0 0], fields := [some (0, 2, true), some (2, 1, false)] } := by kernel_rfl
theorem Try.ty159 : Sy.ty Try.prog 159 = some { n := 3, bytes := 56, kd := .struct, zero := [.int .i64 0, .slice none 0 0, .slice none 0 0], fields := [some (0, 2, true), some (2, 1, false)] } := by kernel_rfl
theorem Try.ty172 : Sy.ty Try.prog 172 = some { n := 1, bytes := 8, kd := .ptr 174, zero := [.pointer none], fields := [] } := by kernel_rfl
theorem Try.ty173 : Sy.ty Try.prog 173 = some { n := 3, bytes := 56, kd := .struct, zero := [.int .i64 0, .slice none 0 0, .slice none 0 0], fields := [some (0, 3, true)] } := by kernel_rfl
theorem Try.ty174 : Sy.ty Try.prog 174 = some { n := 3, bytes := 56, kd := .struct, zero := [.int .i64 0, .slice none 0 0, .slice none 0 0], fields := [some (0, 3, true)] } := by kernel_rfl
theorem Try.ty175 : Sy.ty Try.prog 175 = some { n := 1, bytes := 8, kd := .ptr 177, zero := [.pointer none], fields := [] } := by kernel_rfl
theorem Try.ty176 : Sy.ty Try.prog 176 = some { n := 2, bytes := 48, kd := .struct, zero := [.slice none 0 0, .slice none 0 0], fields := [some (0, 1, true), some (1, 1, false)] } := by kernel_rfl
theorem Try.ty177 : Sy.ty Try.prog 177 = some { n := 2, bytes := 48, kd := .struct, zero := [.slice none 0 0, .slice none 0 0], fields := [some (0, 1, true), some (1, 1, false)] } := by kernel_rfl
theorem Try.ty180 : Sy.ty Try.prog 180 = some { n := 4, bytes := 40, kd := .struct, zero := [.pointer none, .pointer none, .pointer none, .string ByteArray.empty], fields := [some (0, 1, false), some (1, 1, false), some (2, 1, false), some (3, 1, false)] } := by kernel_rfl
theorem Try.ty181 : Sy.ty Try.prog 181 = some { n := 4, bytes := 40, kd := .struct, zero := [.pointer none, .pointer none, .pointer none, .string ByteArray.empty], fields := [some (0, 1, false), some (1, 1, false), some (2, 1, false), some (3, 1, false)] } := by kernel_rfl
theorem Try.ty186 : Sy.ty Try.prog 186 = some { n := 1, bytes := 4, kd := .int .u32, zero := [.int .u32 0], fields := [] } := by kernel_rfl
theorem Try.ty187 : Sy.ty Try.prog 187 = some { n := 1, bytes := 1, kd := .int .u8, zero := [.int .u8 0], fields := [] } := by kernel_rfl
theorem Try.ty188 : Sy.ty Try.prog 188 = some { n := 1, bytes := 1, kd := .int .u8, zero := [.int .u8 0], fields := [] } := by kernel_rfl
theorem Try.ty190 : Sy.ty Try.prog 190 = some { n := 1, bytes := 8, kd := .ptr 5, zero := [.pointer none], fields := [] } := by kernel_rfl
theorem Try.ty191 : Sy.ty Try.prog 191 = some { n := 1, bytes := 4, kd := .int .i32, zero := [.int .i32 0], fields := [] } := by kernel_rfl
theorem Try.ty192 : Sy.ty Try.prog 192 = some { n := 1, bytes := 4, kd := .int .i32, zero := [.int .i32 0], fields := [] } := by kernel_rfl
end Go.Proofs
