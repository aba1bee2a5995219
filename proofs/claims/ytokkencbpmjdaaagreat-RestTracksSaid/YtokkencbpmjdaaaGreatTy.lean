/- What the types of the seat are at a glance: by program, each asked of the kernel. No condition. -/
import Derived.Test.YtokkencbpmjdaaaGreatSy2
import Derived.Test.YtokkencbpmjdaaaGreatChecked
import Derived.KernelRfl
namespace Go.Proofs
open Go
theorem Tryz.ty2 : Sy.ty Tryz.prog 2 = some { n := 1, bytes := 8, kd := .int .i64, zero := [.int .i64 0], fields := [] } := by kernel_rfl
theorem Tryz.ty3 : Sy.ty Tryz.prog 3 = some { n := 1, bytes := 8, kd := .int .i64, zero := [.int .i64 0], fields := [] } := by kernel_rfl
theorem Tryz.ty4 : Sy.ty Tryz.prog 4 = some { n := 1, bytes := 1, kd := .bool, zero := [.bool false], fields := [] } := by kernel_rfl
theorem Tryz.ty5 : Sy.ty Tryz.prog 5 = some { n := 1, bytes := 1, kd := .int .u8, zero := [.int .u8 0], fields := [] } := by kernel_rfl
theorem Tryz.ty6 : Sy.ty Tryz.prog 6 = some { n := 1, bytes := 1, kd := .int .u8, zero := [.int .u8 0], fields := [] } := by kernel_rfl
theorem Tryz.ty7 : Sy.ty Tryz.prog 7 = some { n := 4, bytes := 24, kd := .struct, zero := [.int .i64 0, .int .i64 0, .bool false, .int .u8 0], fields := [some (0, 1, false), some (1, 1, false), some (2, 1, false), some (3, 1, false)] } := by kernel_rfl
theorem Tryz.ty8 : Sy.ty Tryz.prog 8 = some { n := 4, bytes := 24, kd := .struct, zero := [.int .i64 0, .int .i64 0, .bool false, .int .u8 0], fields := [some (0, 1, false), some (1, 1, false), some (2, 1, false), some (3, 1, false)] } := by kernel_rfl
theorem Tryz.ty9 : Sy.ty Tryz.prog 9 = some { n := 1, bytes := 16, kd := .str, zero := [.string ByteArray.empty], fields := [] } := by kernel_rfl
theorem Tryz.ty10 : Sy.ty Tryz.prog 10 = some { n := 1, bytes := 16, kd := .str, zero := [.string ByteArray.empty], fields := [] } := by kernel_rfl
theorem Tryz.ty11 : Sy.ty Tryz.prog 11 = some { n := 1, bytes := 16, kd := .str, zero := [.string ByteArray.empty], fields := [] } := by kernel_rfl
theorem Tryz.ty12 : Sy.ty Tryz.prog 12 = some { n := 1, bytes := 8, kd := .int .u64, zero := [.int .u64 0], fields := [] } := by kernel_rfl
theorem Tryz.ty13 : Sy.ty Tryz.prog 13 = some { n := 2, bytes := 24, kd := .struct, zero := [.string ByteArray.empty, .int .u64 0], fields := [some (0, 1, false), some (1, 1, false)] } := by kernel_rfl
theorem Tryz.ty14 : Sy.ty Tryz.prog 14 = some { n := 2, bytes := 24, kd := .struct, zero := [.string ByteArray.empty, .int .u64 0], fields := [some (0, 1, false), some (1, 1, false)] } := by kernel_rfl
theorem Tryz.ty15 : Sy.ty Tryz.prog 15 = some { n := 1, bytes := 8, kd := .ptr 198, zero := [.pointer none], fields := [] } := by kernel_rfl
theorem Tryz.ty16 : Sy.ty Tryz.prog 16 = some { n := 1, bytes := 8, kd := .ptr 201, zero := [.pointer none], fields := [] } := by kernel_rfl
theorem Tryz.ty17 : Sy.ty Tryz.prog 17 = some { n := 1, bytes := 8, kd := .ptr 211, zero := [.pointer none], fields := [] } := by kernel_rfl
theorem Tryz.ty18 : Sy.ty Tryz.prog 18 = some { n := 1, bytes := 8, kd := .struct, zero := [.pointer none], fields := [some (0, 1, false)] } := by kernel_rfl
theorem Tryz.ty19 : Sy.ty Tryz.prog 19 = some { n := 1, bytes := 8, kd := .struct, zero := [.pointer none], fields := [some (0, 1, false)] } := by kernel_rfl
theorem Tryz.ty21 : Sy.ty Tryz.prog 21 = some { n := 1, bytes := 4, kd := .int .i32, zero := [.int .i32 0], fields := [] } := by kernel_rfl
theorem Tryz.ty22 : Sy.ty Tryz.prog 22 = some { n := 1, bytes := 24, kd := .slice 102, zero := [.slice none 0 0], fields := [] } := by kernel_rfl
theorem Tryz.ty23 : Sy.ty Tryz.prog 23 = some { n := 2, bytes := 32, kd := .struct, zero := [.int .i64 0, .slice none 0 0], fields := [some (0, 1, false), some (1, 1, false)] } := by kernel_rfl
theorem Tryz.ty24 : Sy.ty Tryz.prog 24 = some { n := 2, bytes := 32, kd := .struct, zero := [.int .i64 0, .slice none 0 0], fields := [some (0, 1, false), some (1, 1, false)] } := by kernel_rfl
theorem Tryz.ty25 : Sy.ty Tryz.prog 25 = some { n := 1, bytes := 24, kd := .struct, zero := [.slice none 0 0], fields := [some (0, 1, false)] } := by kernel_rfl
theorem Tryz.ty26 : Sy.ty Tryz.prog 26 = some { n := 1, bytes := 24, kd := .struct, zero := [.slice none 0 0], fields := [some (0, 1, false)] } := by kernel_rfl
theorem Tryz.ty27 : Sy.ty Tryz.prog 27 = some { n := 1, bytes := 24, kd := .slice 30, zero := [.slice none 0 0], fields := [] } := by kernel_rfl
theorem Tryz.ty28 : Sy.ty Tryz.prog 28 = some { n := 1, bytes := 24, kd := .slice 84, zero := [.slice none 0 0], fields := [] } := by kernel_rfl
theorem Tryz.ty29 : Sy.ty Tryz.prog 29 = some { n := 1, bytes := 24, kd := .struct, zero := [.slice none 0 0], fields := [some (0, 1, false)] } := by kernel_rfl
theorem Tryz.ty30 : Sy.ty Tryz.prog 30 = some { n := 1, bytes := 24, kd := .struct, zero := [.slice none 0 0], fields := [some (0, 1, false)] } := by kernel_rfl
theorem Tryz.ty31 : Sy.ty Tryz.prog 31 = some { n := 3, bytes := 56, kd := .struct, zero := [.int .i64 0, .slice none 0 0, .slice none 0 0], fields := [some (0, 1, false), some (1, 1, false), some (2, 1, true)] } := by kernel_rfl
theorem Tryz.ty32 : Sy.ty Tryz.prog 32 = some { n := 3, bytes := 56, kd := .struct, zero := [.int .i64 0, .slice none 0 0, .slice none 0 0], fields := [some (0, 1, false), some (1, 1, false), some (2, 1, true)] } := by kernel_rfl
theorem Tryz.ty33 : Sy.ty Tryz.prog 33 = some { n := 7, bytes := 120, kd := .struct, zero := [.int .i64 0, .int .i64 0, .slice none 0 0, .slice none 0 0, .int .i64 0, .slice none 0 0, .slice none 0 0], fields := [some (0, 1, false), some (1, 2, true), some (3, 1, true), some (4, 3, true)] } := by kernel_rfl
theorem Tryz.ty34 : Sy.ty Tryz.prog 34 = some { n := 7, bytes := 120, kd := .struct, zero := [.int .i64 0, .int .i64 0, .slice none 0 0, .slice none 0 0, .int .i64 0, .slice none 0 0, .slice none 0 0], fields := [some (0, 1, false), some (1, 2, true), some (3, 1, true), some (4, 3, true)] } := by kernel_rfl
theorem Tryz.ty35 : Sy.ty Tryz.prog 35 = some { n := 3, bytes := 24, kd := .struct, zero := [.int .i64 0, .int .i64 0, .int .i64 0], fields := [some (0, 1, false), some (1, 1, false), some (2, 1, false)] } := by kernel_rfl
theorem Tryz.ty36 : Sy.ty Tryz.prog 36 = some { n := 3, bytes := 24, kd := .struct, zero := [.int .i64 0, .int .i64 0, .int .i64 0], fields := [some (0, 1, false), some (1, 1, false), some (2, 1, false)] } := by kernel_rfl
theorem Tryz.ty37 : Sy.ty Tryz.prog 37 = some { n := 3, bytes := 24, kd := .struct, zero := [.int .i64 0, .int .i64 0, .int .i64 0], fields := [some (0, 1, false), some (1, 1, false), some (2, 1, false)] } := by kernel_rfl
theorem Tryz.ty38 : Sy.ty Tryz.prog 38 = some { n := 3, bytes := 24, kd := .struct, zero := [.int .i64 0, .int .i64 0, .int .i64 0], fields := [some (0, 1, false), some (1, 1, false), some (2, 1, false)] } := by kernel_rfl
theorem Tryz.ty39 : Sy.ty Tryz.prog 39 = some { n := 6, bytes := 48, kd := .struct, zero := [.int .i64 0, .int .i64 0, .int .i64 0, .int .i64 0, .int .i64 0, .int .i64 0], fields := [some (0, 3, true), some (3, 3, true)] } := by kernel_rfl
theorem Tryz.ty40 : Sy.ty Tryz.prog 40 = some { n := 6, bytes := 48, kd := .struct, zero := [.int .i64 0, .int .i64 0, .int .i64 0, .int .i64 0, .int .i64 0, .int .i64 0], fields := [some (0, 3, true), some (3, 3, true)] } := by kernel_rfl
theorem Tryz.ty41 : Sy.ty Tryz.prog 41 = some { n := 3, bytes := 32, kd := .struct, zero := [.int .i64 0, .int .i64 0, .string ByteArray.empty], fields := [some (0, 1, false), some (1, 1, false), some (2, 1, false)] } := by kernel_rfl
theorem Tryz.ty42 : Sy.ty Tryz.prog 42 = some { n := 3, bytes := 32, kd := .struct, zero := [.int .i64 0, .int .i64 0, .string ByteArray.empty], fields := [some (0, 1, false), some (1, 1, false), some (2, 1, false)] } := by kernel_rfl
theorem Tryz.ty45 : Sy.ty Tryz.prog 45 = some { n := 1, bytes := 8, kd := .int .i64, zero := [.int .i64 0], fields := [] } := by kernel_rfl
theorem Tryz.ty48 : Sy.ty Tryz.prog 48 = some { n := 1, bytes := 24, kd := .slice 66, zero := [.slice none 0 0], fields := [] } := by kernel_rfl
theorem Tryz.ty57 : Sy.ty Tryz.prog 57 = some { n := 1, bytes := 24, kd := .slice 45, zero := [.slice none 0 0], fields := [] } := by kernel_rfl
theorem Tryz.ty60 : Sy.ty Tryz.prog 60 = some { n := 1, bytes := 24, kd := .slice 42, zero := [.slice none 0 0], fields := [] } := by kernel_rfl
theorem Tryz.ty61 : Sy.ty Tryz.prog 61 = some { n := 1, bytes := 24, kd := .slice 34, zero := [.slice none 0 0], fields := [] } := by kernel_rfl
theorem Tryz.ty65 : Sy.ty Tryz.prog 65 = some { n := 6, bytes := 40, kd := .struct, zero := [.int .i64 0, .int .i64 0, .bool false, .bool false, .bool false, .string ByteArray.empty], fields := [some (0, 1, false), some (1, 1, false), some (2, 1, false), some (3, 1, false), some (4, 1, false), some (5, 1, false)] } := by kernel_rfl
theorem Tryz.ty66 : Sy.ty Tryz.prog 66 = some { n := 6, bytes := 40, kd := .struct, zero := [.int .i64 0, .int .i64 0, .bool false, .bool false, .bool false, .string ByteArray.empty], fields := [some (0, 1, false), some (1, 1, false), some (2, 1, false), some (3, 1, false), some (4, 1, false), some (5, 1, false)] } := by kernel_rfl
theorem Tryz.ty82 : Sy.ty Tryz.prog 82 = some { n := 1, bytes := 24, kd := .slice 9, zero := [.slice none 0 0], fields := [] } := by kernel_rfl
theorem Tryz.ty83 : Sy.ty Tryz.prog 83 = some { n := 3, bytes := 40, kd := .struct, zero := [.int .i64 0, .bool false, .slice none 0 0], fields := [some (0, 1, false), some (1, 1, false), some (2, 1, false)] } := by kernel_rfl
theorem Tryz.ty84 : Sy.ty Tryz.prog 84 = some { n := 3, bytes := 40, kd := .struct, zero := [.int .i64 0, .bool false, .slice none 0 0], fields := [some (0, 1, false), some (1, 1, false), some (2, 1, false)] } := by kernel_rfl
theorem Tryz.ty92 : Sy.ty Tryz.prog 92 = some { n := 1, bytes := 8, kd := .ptr 95, zero := [.pointer none], fields := [] } := by kernel_rfl
theorem Tryz.ty94 : Sy.ty Tryz.prog 94 = some { n := 8, bytes := 128, kd := .struct, zero := [.int .i64 0, .int .i64 0, .slice none 0 0, .slice none 0 0, .int .i64 0, .slice none 0 0, .slice none 0 0, .int .i64 0], fields := [some (0, 7, true), some (7, 1, false)] } := by kernel_rfl
theorem Tryz.ty95 : Sy.ty Tryz.prog 95 = some { n := 8, bytes := 128, kd := .struct, zero := [.int .i64 0, .int .i64 0, .slice none 0 0, .slice none 0 0, .int .i64 0, .slice none 0 0, .slice none 0 0, .int .i64 0], fields := [some (0, 7, true), some (7, 1, false)] } := by kernel_rfl
theorem Tryz.ty101 : Sy.ty Tryz.prog 101 = some { n := 7, bytes := 48, kd := .struct, zero := [.int .i64 0, .int .i64 0, .int .i64 0, .bool false, .bool false, .bool false, .string ByteArray.empty], fields := [some (0, 1, false), some (1, 6, true)] } := by kernel_rfl
theorem Tryz.ty102 : Sy.ty Tryz.prog 102 = some { n := 7, bytes := 48, kd := .struct, zero := [.int .i64 0, .int .i64 0, .int .i64 0, .bool false, .bool false, .bool false, .string ByteArray.empty], fields := [some (0, 1, false), some (1, 6, true)] } := by kernel_rfl
theorem Tryz.ty115 : Sy.ty Tryz.prog 115 = some { n := 1, bytes := 8, kd := .ptr 117, zero := [.pointer none], fields := [] } := by kernel_rfl
theorem Tryz.ty116 : Sy.ty Tryz.prog 116 = some { n := 14, bytes := 192, kd := .struct, zero := [.int .i64 0, .int .i64 0, .int .i64 0, .int .i64 0, .int .i64 0, .int .i64 0, .int .i64 0, .int .i64 0, .slice none 0 0, .slice none 0 0, .int .i64 0, .slice none 0 0, .slice none 0 0, .slice none 0 0], fields := [some (0, 6, true), some (6, 7, true), some (13, 1, false)] } := by kernel_rfl
theorem Tryz.ty117 : Sy.ty Tryz.prog 117 = some { n := 14, bytes := 192, kd := .struct, zero := [.int .i64 0, .int .i64 0, .int .i64 0, .int .i64 0, .int .i64 0, .int .i64 0, .int .i64 0, .int .i64 0, .slice none 0 0, .slice none 0 0, .int .i64 0, .slice none 0 0, .slice none 0 0, .slice none 0 0], fields := [some (0, 6, true), some (6, 7, true), some (13, 1, false)] } := by kernel_rfl
theorem Tryz.ty122 : Sy.ty Tryz.prog 122 = some { n := 1, bytes := 8, kd := .ptr 126, zero := [.pointer none], fields := [] } := by kernel_rfl
theorem Tryz.ty125 : Sy.ty Tryz.prog 125 = some { n := 3, bytes := 56, kd := .struct, zero := [.int .i64 0, .slice none 0 0, .slice none 0 0], fields := [some (0, 2, true), some (2, 1, false)] } := by kernel_rfl
theorem Tryz.ty126 : Sy.ty Tryz.prog 126 = some { n := 3, bytes := 56, kd := .struct, zero := [.int .i64 0, .slice none 0 0, .slice none 0 0], fields := [some (0, 2, true), some (2, 1, false)] } := by kernel_rfl
theorem Tryz.ty131 : Sy.ty Tryz.prog 131 = some { n := 1, bytes := 8, kd := .ptr 133, zero := [.pointer none], fields := [] } := by kernel_rfl
theorem Tryz.ty132 : Sy.ty Tryz.prog 132 = some { n := 1, bytes := 24, kd := .struct, zero := [.slice none 0 0], fields := [some (0, 1, true)] } := by kernel_rfl
theorem Tryz.ty133 : Sy.ty Tryz.prog 133 = some { n := 1, bytes := 24, kd := .struct, zero := [.slice none 0 0], fields := [some (0, 1, true)] } := by kernel_rfl
theorem Tryz.ty150 : Sy.ty Tryz.prog 150 = some { n := 1, bytes := 8, kd := .ptr 175, zero := [.pointer none], fields := [] } := by kernel_rfl
theorem Tryz.ty154 : Sy.ty Tryz.prog 154 = some { n := 1, bytes := 8, kd := .ptr 156, zero := [.pointer none], fields := [] } := by kernel_rfl
theorem Tryz.ty155 : Sy.ty Tryz.prog 155 = some { n := 3, bytes := 56, kd := .struct, zero := [.int .i64 0, .slice none 0 0, .slice none 0 0], fields := [some (0, 3, true)] } := by kernel_rfl
theorem Tryz.ty156 : Sy.ty Tryz.prog 156 = some { n := 3, bytes := 56, kd := .struct, zero := [.int .i64 0, .slice none 0 0, .slice none 0 0], fields := [some (0, 3, true)] } := by kernel_rfl
theorem Tryz.ty157 : Sy.ty Tryz.prog 157 = some { n := 1, bytes := 8, kd := .ptr 159, zero := [.pointer none], fields := [] } := by kernel_rfl
theorem Tryz.ty158 : Sy.ty Tryz.prog 158 = some { n := 2, bytes := 48, kd := .struct, zero := [.slice none 0 0, .slice none 0 0], fields := [some (0, 1, true), some (1, 1, false)] } := by kernel_rfl
theorem Tryz.ty159 : Sy.ty Tryz.prog 159 = some { n := 2, bytes := 48, kd := .struct, zero := [.slice none 0 0, .slice none 0 0], fields := [some (0, 1, true), some (1, 1, false)] } := by kernel_rfl
theorem Tryz.ty163 : Sy.ty Tryz.prog 163 = some { n := 1, bytes := 24, kd := .slice 5, zero := [.slice none 0 0], fields := [] } := by kernel_rfl
theorem Tryz.ty171 : Sy.ty Tryz.prog 171 = some { n := 0, bytes := 0, kd := .struct, zero := [], fields := [] } := by kernel_rfl
theorem Tryz.ty172 : Sy.ty Tryz.prog 172 = some { n := 0, bytes := 0, kd := .struct, zero := [], fields := [] } := by kernel_rfl
theorem Tryz.ty174 : Sy.ty Tryz.prog 174 = some { n := 1, bytes := 16, kd := .struct, zero := [.string ByteArray.empty], fields := [some (0, 1, false)] } := by kernel_rfl
theorem Tryz.ty175 : Sy.ty Tryz.prog 175 = some { n := 1, bytes := 16, kd := .struct, zero := [.string ByteArray.empty], fields := [some (0, 1, false)] } := by kernel_rfl
theorem Tryz.ty177 : Sy.ty Tryz.prog 177 = some { n := 1, bytes := 8, kd := .int .u64, zero := [.int .u64 0], fields := [] } := by kernel_rfl
theorem Tryz.ty184 : Sy.ty Tryz.prog 184 = some { n := 1, bytes := 8, kd := .ptr 186, zero := [.pointer none], fields := [] } := by kernel_rfl
theorem Tryz.ty185 : Sy.ty Tryz.prog 185 = some { n := 6, bytes := 64, kd := .struct, zero := [.int .i64 0, .int .i64 0, .int .i64 0, .int .i64 0, .slice none 0 0, .bool false], fields := [some (0, 3, true), some (3, 1, false), some (4, 1, false), some (5, 1, false)] } := by kernel_rfl
theorem Tryz.ty186 : Sy.ty Tryz.prog 186 = some { n := 6, bytes := 64, kd := .struct, zero := [.int .i64 0, .int .i64 0, .int .i64 0, .int .i64 0, .slice none 0 0, .bool false], fields := [some (0, 3, true), some (3, 1, false), some (4, 1, false), some (5, 1, false)] } := by kernel_rfl
theorem Tryz.ty188 : Sy.ty Tryz.prog 188 = some { n := 1, bytes := 8, kd := .ptr 190, zero := [.pointer none], fields := [] } := by kernel_rfl
theorem Tryz.ty189 : Sy.ty Tryz.prog 189 = some { n := 4, bytes := 48, kd := .struct, zero := [.int .i64 0, .int .i64 0, .int .i64 0, .slice none 0 0], fields := [some (0, 3, true), some (3, 1, false)] } := by kernel_rfl
theorem Tryz.ty190 : Sy.ty Tryz.prog 190 = some { n := 4, bytes := 48, kd := .struct, zero := [.int .i64 0, .int .i64 0, .int .i64 0, .slice none 0 0], fields := [some (0, 3, true), some (3, 1, false)] } := by kernel_rfl
theorem Tryz.ty197 : Sy.ty Tryz.prog 197 = some { n := 4, bytes := 40, kd := .struct, zero := [.pointer none, .pointer none, .pointer none, .string ByteArray.empty], fields := [some (0, 1, false), some (1, 1, false), some (2, 1, false), some (3, 1, false)] } := by kernel_rfl
theorem Tryz.ty198 : Sy.ty Tryz.prog 198 = some { n := 4, bytes := 40, kd := .struct, zero := [.pointer none, .pointer none, .pointer none, .string ByteArray.empty], fields := [some (0, 1, false), some (1, 1, false), some (2, 1, false), some (3, 1, false)] } := by kernel_rfl
theorem Tryz.ty203 : Sy.ty Tryz.prog 203 = some { n := 1, bytes := 4, kd := .int .u32, zero := [.int .u32 0], fields := [] } := by kernel_rfl
theorem Tryz.ty204 : Sy.ty Tryz.prog 204 = some { n := 1, bytes := 1, kd := .int .u8, zero := [.int .u8 0], fields := [] } := by kernel_rfl
theorem Tryz.ty205 : Sy.ty Tryz.prog 205 = some { n := 1, bytes := 1, kd := .int .u8, zero := [.int .u8 0], fields := [] } := by kernel_rfl
theorem Tryz.ty207 : Sy.ty Tryz.prog 207 = some { n := 1, bytes := 8, kd := .ptr 5, zero := [.pointer none], fields := [] } := by kernel_rfl
theorem Tryz.ty208 : Sy.ty Tryz.prog 208 = some { n := 1, bytes := 4, kd := .int .i32, zero := [.int .i32 0], fields := [] } := by kernel_rfl
theorem Tryz.ty209 : Sy.ty Tryz.prog 209 = some { n := 1, bytes := 4, kd := .int .i32, zero := [.int .i32 0], fields := [] } := by kernel_rfl
end Go.Proofs
