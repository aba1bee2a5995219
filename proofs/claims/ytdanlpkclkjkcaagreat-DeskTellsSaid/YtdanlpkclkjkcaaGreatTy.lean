/- What the types of the seat are at a glance: by program, each asked of the kernel. No condition. -/
import Derived.Test.YtdanlpkclkjkcaaGreatSy2
import Derived.Test.YtdanlpkclkjkcaaGreatChecked
import Derived.KernelRfl
namespace Go.Proofs
open Go
theorem Tryz.ty2 : Sy.ty Tryz.prog 2 = some { n := 1, bytes := 8, kd := .int .i64, zero := [.int .i64 0], fields := [] } := by kernel_rfl
theorem Tryz.ty3 : Sy.ty Tryz.prog 3 = some { n := 1, bytes := 8, kd := .int .i64, zero := [.int .i64 0], fields := [] } := by kernel_rfl
theorem Tryz.ty4 : Sy.ty Tryz.prog 4 = some { n := 1, bytes := 1, kd := .bool, zero := [.bool false], fields := [] } := by kernel_rfl
theorem Tryz.ty5 : Sy.ty Tryz.prog 5 = some { n := 1, bytes := 1, kd := .int .u8, zero := [.int .u8 0], fields := [] } := by kernel_rfl
theorem Tryz.ty6 : Sy.ty Tryz.prog 6 = some { n := 1, bytes := 1, kd := .int .u8, zero := [.int .u8 0], fields := [] } := by kernel_rfl
theorem Tryz.ty7 : Sy.ty Tryz.prog 7 = some { n := 4, bytes := 24, kd := .struct, zero := [.int .i64 0, .int .i64 0, .bool false, .int .u8 0], fields := [some (0, 1, false), some (1, 1, false), some (2, 1, false), some (3, 1, false)] } := by kernel_rfl
theorem Tryz.ty8 : Sy.ty Tryz.prog 8 = some { n := 4, bytes := 24, kd := .struct, zero := [.int .i64 0, .int .i64 0, .bool false, .int .u8 0], fields := [some (0, 1, false), some (1, 1, false), some (2, 1, false), some (3, 1, false)] } := by kernel_rfl
theorem Tryz.ty9 : Sy.ty Tryz.prog 9 = some { n := 1, bytes := 16, kd := .str, zero := [.string ByteArray.empty], fields := [] } := by kernel_rfl
theorem Tryz.ty10 : Sy.ty Tryz.prog 10 = some { n := 1, bytes := 16, kd := .str, zero := [.string ByteArray.empty], fields := [] } := by kernel_rfl
theorem Tryz.ty11 : Sy.ty Tryz.prog 11 = some { n := 1, bytes := 16, kd := .str, zero := [.string ByteArray.empty], fields := [] } := by kernel_rfl
theorem Tryz.ty12 : Sy.ty Tryz.prog 12 = some { n := 1, bytes := 8, kd := .int .u64, zero := [.int .u64 0], fields := [] } := by kernel_rfl
theorem Tryz.ty13 : Sy.ty Tryz.prog 13 = some { n := 2, bytes := 24, kd := .struct, zero := [.string ByteArray.empty, .int .u64 0], fields := [some (0, 1, false), some (1, 1, false)] } := by kernel_rfl
theorem Tryz.ty14 : Sy.ty Tryz.prog 14 = some { n := 2, bytes := 24, kd := .struct, zero := [.string ByteArray.empty, .int .u64 0], fields := [some (0, 1, false), some (1, 1, false)] } := by kernel_rfl
theorem Tryz.ty15 : Sy.ty Tryz.prog 15 = some { n := 1, bytes := 8, kd := .ptr 201, zero := [.pointer none], fields := [] } := by kernel_rfl
theorem Tryz.ty16 : Sy.ty Tryz.prog 16 = some { n := 1, bytes := 8, kd := .ptr 204, zero := [.pointer none], fields := [] } := by kernel_rfl
theorem Tryz.ty17 : Sy.ty Tryz.prog 17 = some { n := 1, bytes := 8, kd := .ptr 214, zero := [.pointer none], fields := [] } := by kernel_rfl
theorem Tryz.ty18 : Sy.ty Tryz.prog 18 = some { n := 1, bytes := 8, kd := .struct, zero := [.pointer none], fields := [some (0, 1, false)] } := by kernel_rfl
theorem Tryz.ty19 : Sy.ty Tryz.prog 19 = some { n := 1, bytes := 8, kd := .struct, zero := [.pointer none], fields := [some (0, 1, false)] } := by kernel_rfl
theorem Tryz.ty21 : Sy.ty Tryz.prog 21 = some { n := 1, bytes := 4, kd := .int .i32, zero := [.int .i32 0], fields := [] } := by kernel_rfl
theorem Tryz.ty22 : Sy.ty Tryz.prog 22 = some { n := 1, bytes := 24, kd := .slice 106, zero := [.slice none 0 0], fields := [] } := by kernel_rfl
theorem Tryz.ty23 : Sy.ty Tryz.prog 23 = some { n := 2, bytes := 32, kd := .struct, zero := [.int .i64 0, .slice none 0 0], fields := [some (0, 1, false), some (1, 1, false)] } := by kernel_rfl
theorem Tryz.ty24 : Sy.ty Tryz.prog 24 = some { n := 2, bytes := 32, kd := .struct, zero := [.int .i64 0, .slice none 0 0], fields := [some (0, 1, false), some (1, 1, false)] } := by kernel_rfl
theorem Tryz.ty25 : Sy.ty Tryz.prog 25 = some { n := 1, bytes := 24, kd := .struct, zero := [.slice none 0 0], fields := [some (0, 1, false)] } := by kernel_rfl
theorem Tryz.ty26 : Sy.ty Tryz.prog 26 = some { n := 1, bytes := 24, kd := .struct, zero := [.slice none 0 0], fields := [some (0, 1, false)] } := by kernel_rfl
theorem Tryz.ty27 : Sy.ty Tryz.prog 27 = some { n := 1, bytes := 24, kd := .slice 30, zero := [.slice none 0 0], fields := [] } := by kernel_rfl
theorem Tryz.ty28 : Sy.ty Tryz.prog 28 = some { n := 1, bytes := 24, kd := .slice 88, zero := [.slice none 0 0], fields := [] } := by kernel_rfl
theorem Tryz.ty29 : Sy.ty Tryz.prog 29 = some { n := 1, bytes := 24, kd := .struct, zero := [.slice none 0 0], fields := [some (0, 1, false)] } := by kernel_rfl
theorem Tryz.ty30 : Sy.ty Tryz.prog 30 = some { n := 1, bytes := 24, kd := .struct, zero := [.slice none 0 0], fields := [some (0, 1, false)] } := by kernel_rfl
theorem Tryz.ty31 : Sy.ty Tryz.prog 31 = some { n := 3, bytes := 56, kd := .struct, zero := [.int .i64 0, .slice none 0 0, .slice none 0 0], fields := [some (0, 1, false), some (1, 1, false), some (2, 1, true)] } := by kernel_rfl
theorem Tryz.ty32 : Sy.ty Tryz.prog 32 = some { n := 3, bytes := 56, kd := .struct, zero := [.int .i64 0, .slice none 0 0, .slice none 0 0], fields := [some (0, 1, false), some (1, 1, false), some (2, 1, true)] } := by kernel_rfl
theorem Tryz.ty33 : Sy.ty Tryz.prog 33 = some { n := 7, bytes := 120, kd := .struct, zero := [.int .i64 0, .int .i64 0, .slice none 0 0, .slice none 0 0, .int .i64 0, .slice none 0 0, .slice none 0 0], fields := [some (0, 1, false), some (1, 2, true), some (3, 1, true), some (4, 3, true)] } := by kernel_rfl
theorem Tryz.ty34 : Sy.ty Tryz.prog 34 = some { n := 7, bytes := 120, kd := .struct, zero := [.int .i64 0, .int .i64 0, .slice none 0 0, .slice none 0 0, .int .i64 0, .slice none 0 0, .slice none 0 0], fields := [some (0, 1, false), some (1, 2, true), some (3, 1, true), some (4, 3, true)] } := by kernel_rfl
theorem Tryz.ty35 : Sy.ty Tryz.prog 35 = some { n := 3, bytes := 24, kd := .struct, zero := [.int .i64 0, .int .i64 0, .int .i64 0], fields := [some (0, 1, false), some (1, 1, false), some (2, 1, false)] } := by kernel_rfl
theorem Tryz.ty36 : Sy.ty Tryz.prog 36 = some { n := 3, bytes := 24, kd := .struct, zero := [.int .i64 0, .int .i64 0, .int .i64 0], fields := [some (0, 1, false), some (1, 1, false), some (2, 1, false)] } := by kernel_rfl
theorem Tryz.ty37 : Sy.ty Tryz.prog 37 = some { n := 3, bytes := 24, kd := .struct, zero := [.int .i64 0, .int .i64 0, .int .i64 0], fields := [some (0, 1, false), some (1, 1, false), some (2, 1, false)] } := by kernel_rfl
theorem Tryz.ty38 : Sy.ty Tryz.prog 38 = some { n := 3, bytes := 24, kd := .struct, zero := [.int .i64 0, .int .i64 0, .int .i64 0], fields := [some (0, 1, false), some (1, 1, false), some (2, 1, false)] } := by kernel_rfl
theorem Tryz.ty39 : Sy.ty Tryz.prog 39 = some { n := 6, bytes := 48, kd := .struct, zero := [.int .i64 0, .int .i64 0, .int .i64 0, .int .i64 0, .int .i64 0, .int .i64 0], fields := [some (0, 3, true), some (3, 3, true)] } := by kernel_rfl
theorem Tryz.ty40 : Sy.ty Tryz.prog 40 = some { n := 6, bytes := 48, kd := .struct, zero := [.int .i64 0, .int .i64 0, .int .i64 0, .int .i64 0, .int .i64 0, .int .i64 0], fields := [some (0, 3, true), some (3, 3, true)] } := by kernel_rfl
theorem Tryz.ty41 : Sy.ty Tryz.prog 41 = some { n := 3, bytes := 32, kd := .struct, zero := [.int .i64 0, .int .i64 0, .string ByteArray.empty], fields := [some (0, 1, false), some (1, 1, false), some (2, 1, false)] } := by kernel_rfl
theorem Tryz.ty42 : Sy.ty Tryz.prog 42 = some { n := 3, bytes := 32, kd := .struct, zero := [.int .i64 0, .int .i64 0, .string ByteArray.empty], fields := [some (0, 1, false), some (1, 1, false), some (2, 1, false)] } := by kernel_rfl
theorem Tryz.ty45 : Sy.ty Tryz.prog 45 = some { n := 1, bytes := 8, kd := .int .i64, zero := [.int .i64 0], fields := [] } := by kernel_rfl
theorem Tryz.ty48 : Sy.ty Tryz.prog 48 = some { n := 1, bytes := 24, kd := .slice 66, zero := [.slice none 0 0], fields := [] } := by kernel_rfl
theorem Tryz.ty57 : Sy.ty Tryz.prog 57 = some { n := 1, bytes := 24, kd := .slice 45, zero := [.slice none 0 0], fields := [] } := by kernel_rfl
theorem Tryz.ty60 : Sy.ty Tryz.prog 60 = some { n := 1, bytes := 24, kd := .slice 42, zero := [.slice none 0 0], fields := [] } := by kernel_rfl
theorem Tryz.ty61 : Sy.ty Tryz.prog 61 = some { n := 1, bytes := 24, kd := .slice 34, zero := [.slice none 0 0], fields := [] } := by kernel_rfl
theorem Tryz.ty65 : Sy.ty Tryz.prog 65 = some { n := 6, bytes := 40, kd := .struct, zero := [.int .i64 0, .int .i64 0, .bool false, .bool false, .bool false, .string ByteArray.empty], fields := [some (0, 1, false), some (1, 1, false), some (2, 1, false), some (3, 1, false), some (4, 1, false), some (5, 1, false)] } := by kernel_rfl
theorem Tryz.ty66 : Sy.ty Tryz.prog 66 = some { n := 6, bytes := 40, kd := .struct, zero := [.int .i64 0, .int .i64 0, .bool false, .bool false, .bool false, .string ByteArray.empty], fields := [some (0, 1, false), some (1, 1, false), some (2, 1, false), some (3, 1, false), some (4, 1, false), some (5, 1, false)] } := by kernel_rfl
theorem Tryz.ty86 : Sy.ty Tryz.prog 86 = some { n := 1, bytes := 24, kd := .slice 9, zero := [.slice none 0 0], fields := [] } := by kernel_rfl
theorem Tryz.ty87 : Sy.ty Tryz.prog 87 = some { n := 3, bytes := 40, kd := .struct, zero := [.int .i64 0, .bool false, .slice none 0 0], fields := [some (0, 1, false), some (1, 1, false), some (2, 1, false)] } := by kernel_rfl
theorem Tryz.ty88 : Sy.ty Tryz.prog 88 = some { n := 3, bytes := 40, kd := .struct, zero := [.int .i64 0, .bool false, .slice none 0 0], fields := [some (0, 1, false), some (1, 1, false), some (2, 1, false)] } := by kernel_rfl
theorem Tryz.ty96 : Sy.ty Tryz.prog 96 = some { n := 1, bytes := 8, kd := .ptr 99, zero := [.pointer none], fields := [] } := by kernel_rfl
theorem Tryz.ty98 : Sy.ty Tryz.prog 98 = some { n := 8, bytes := 128, kd := .struct, zero := [.int .i64 0, .int .i64 0, .slice none 0 0, .slice none 0 0, .int .i64 0, .slice none 0 0, .slice none 0 0, .int .i64 0], fields := [some (0, 7, true), some (7, 1, false)] } := by kernel_rfl
theorem Tryz.ty99 : Sy.ty Tryz.prog 99 = some { n := 8, bytes := 128, kd := .struct, zero := [.int .i64 0, .int .i64 0, .slice none 0 0, .slice none 0 0, .int .i64 0, .slice none 0 0, .slice none 0 0, .int .i64 0], fields := [some (0, 7, true), some (7, 1, false)] } := by kernel_rfl
theorem Tryz.ty105 : Sy.ty Tryz.prog 105 = some { n := 7, bytes := 48, kd := .struct, zero := [.int .i64 0, .int .i64 0, .int .i64 0, .bool false, .bool false, .bool false, .string ByteArray.empty], fields := [some (0, 1, false), some (1, 6, true)] } := by kernel_rfl
theorem Tryz.ty106 : Sy.ty Tryz.prog 106 = some { n := 7, bytes := 48, kd := .struct, zero := [.int .i64 0, .int .i64 0, .int .i64 0, .bool false, .bool false, .bool false, .string ByteArray.empty], fields := [some (0, 1, false), some (1, 6, true)] } := by kernel_rfl
theorem Tryz.ty120 : Sy.ty Tryz.prog 120 = some { n := 1, bytes := 8, kd := .ptr 122, zero := [.pointer none], fields := [] } := by kernel_rfl
theorem Tryz.ty121 : Sy.ty Tryz.prog 121 = some { n := 14, bytes := 192, kd := .struct, zero := [.int .i64 0, .int .i64 0, .int .i64 0, .int .i64 0, .int .i64 0, .int .i64 0, .int .i64 0, .int .i64 0, .slice none 0 0, .slice none 0 0, .int .i64 0, .slice none 0 0, .slice none 0 0, .slice none 0 0], fields := [some (0, 6, true), some (6, 7, true), some (13, 1, false)] } := by kernel_rfl
theorem Tryz.ty122 : Sy.ty Tryz.prog 122 = some { n := 14, bytes := 192, kd := .struct, zero := [.int .i64 0, .int .i64 0, .int .i64 0, .int .i64 0, .int .i64 0, .int .i64 0, .int .i64 0, .int .i64 0, .slice none 0 0, .slice none 0 0, .int .i64 0, .slice none 0 0, .slice none 0 0, .slice none 0 0], fields := [some (0, 6, true), some (6, 7, true), some (13, 1, false)] } := by kernel_rfl
theorem Tryz.ty126 : Sy.ty Tryz.prog 126 = some { n := 1, bytes := 8, kd := .ptr 130, zero := [.pointer none], fields := [] } := by kernel_rfl
theorem Tryz.ty129 : Sy.ty Tryz.prog 129 = some { n := 3, bytes := 56, kd := .struct, zero := [.int .i64 0, .slice none 0 0, .slice none 0 0], fields := [some (0, 2, true), some (2, 1, false)] } := by kernel_rfl
theorem Tryz.ty130 : Sy.ty Tryz.prog 130 = some { n := 3, bytes := 56, kd := .struct, zero := [.int .i64 0, .slice none 0 0, .slice none 0 0], fields := [some (0, 2, true), some (2, 1, false)] } := by kernel_rfl
theorem Tryz.ty135 : Sy.ty Tryz.prog 135 = some { n := 1, bytes := 8, kd := .ptr 137, zero := [.pointer none], fields := [] } := by kernel_rfl
theorem Tryz.ty136 : Sy.ty Tryz.prog 136 = some { n := 1, bytes := 24, kd := .struct, zero := [.slice none 0 0], fields := [some (0, 1, true)] } := by kernel_rfl
theorem Tryz.ty137 : Sy.ty Tryz.prog 137 = some { n := 1, bytes := 24, kd := .struct, zero := [.slice none 0 0], fields := [some (0, 1, true)] } := by kernel_rfl
theorem Tryz.ty153 : Sy.ty Tryz.prog 153 = some { n := 1, bytes := 8, kd := .ptr 178, zero := [.pointer none], fields := [] } := by kernel_rfl
theorem Tryz.ty157 : Sy.ty Tryz.prog 157 = some { n := 1, bytes := 8, kd := .ptr 159, zero := [.pointer none], fields := [] } := by kernel_rfl
theorem Tryz.ty158 : Sy.ty Tryz.prog 158 = some { n := 3, bytes := 56, kd := .struct, zero := [.int .i64 0, .slice none 0 0, .slice none 0 0], fields := [some (0, 3, true)] } := by kernel_rfl
theorem Tryz.ty159 : Sy.ty Tryz.prog 159 = some { n := 3, bytes := 56, kd := .struct, zero := [.int .i64 0, .slice none 0 0, .slice none 0 0], fields := [some (0, 3, true)] } := by kernel_rfl
theorem Tryz.ty160 : Sy.ty Tryz.prog 160 = some { n := 1, bytes := 8, kd := .ptr 162, zero := [.pointer none], fields := [] } := by kernel_rfl
theorem Tryz.ty161 : Sy.ty Tryz.prog 161 = some { n := 2, bytes := 48, kd := .struct, zero := [.slice none 0 0, .slice none 0 0], fields := [some (0, 1, true), some (1, 1, false)] } := by kernel_rfl
theorem Tryz.ty162 : Sy.ty Tryz.prog 162 = some { n := 2, bytes := 48, kd := .struct, zero := [.slice none 0 0, .slice none 0 0], fields := [some (0, 1, true), some (1, 1, false)] } := by kernel_rfl
theorem Tryz.ty166 : Sy.ty Tryz.prog 166 = some { n := 1, bytes := 24, kd := .slice 5, zero := [.slice none 0 0], fields := [] } := by kernel_rfl
theorem Tryz.ty174 : Sy.ty Tryz.prog 174 = some { n := 0, bytes := 0, kd := .struct, zero := [], fields := [] } := by kernel_rfl
theorem Tryz.ty175 : Sy.ty Tryz.prog 175 = some { n := 0, bytes := 0, kd := .struct, zero := [], fields := [] } := by kernel_rfl
theorem Tryz.ty177 : Sy.ty Tryz.prog 177 = some { n := 1, bytes := 16, kd := .struct, zero := [.string ByteArray.empty], fields := [some (0, 1, false)] } := by kernel_rfl
theorem Tryz.ty178 : Sy.ty Tryz.prog 178 = some { n := 1, bytes := 16, kd := .struct, zero := [.string ByteArray.empty], fields := [some (0, 1, false)] } := by kernel_rfl
theorem Tryz.ty180 : Sy.ty Tryz.prog 180 = some { n := 1, bytes := 8, kd := .int .u64, zero := [.int .u64 0], fields := [] } := by kernel_rfl
theorem Tryz.ty187 : Sy.ty Tryz.prog 187 = some { n := 1, bytes := 8, kd := .ptr 189, zero := [.pointer none], fields := [] } := by kernel_rfl
theorem Tryz.ty188 : Sy.ty Tryz.prog 188 = some { n := 6, bytes := 64, kd := .struct, zero := [.int .i64 0, .int .i64 0, .int .i64 0, .int .i64 0, .slice none 0 0, .bool false], fields := [some (0, 3, true), some (3, 1, false), some (4, 1, false), some (5, 1, false)] } := by kernel_rfl
theorem Tryz.ty189 : Sy.ty Tryz.prog 189 = some { n := 6, bytes := 64, kd := .struct, zero := [.int .i64 0, .int .i64 0, .int .i64 0, .int .i64 0, .slice none 0 0, .bool false], fields := [some (0, 3, true), some (3, 1, false), some (4, 1, false), some (5, 1, false)] } := by kernel_rfl
theorem Tryz.ty191 : Sy.ty Tryz.prog 191 = some { n := 1, bytes := 8, kd := .ptr 193, zero := [.pointer none], fields := [] } := by kernel_rfl
theorem Tryz.ty192 : Sy.ty Tryz.prog 192 = some { n := 4, bytes := 48, kd := .struct, zero := [.int .i64 0, .int .i64 0, .int .i64 0, .slice none 0 0], fields := [some (0, 3, true), some (3, 1, false)] } := by kernel_rfl
theorem Tryz.ty193 : Sy.ty Tryz.prog 193 = some { n := 4, bytes := 48, kd := .struct, zero := [.int .i64 0, .int .i64 0, .int .i64 0, .slice none 0 0], fields := [some (0, 3, true), some (3, 1, false)] } := by kernel_rfl
theorem Tryz.ty200 : Sy.ty Tryz.prog 200 = some { n := 4, bytes := 40, kd := .struct, zero := [.pointer none, .pointer none, .pointer none, .string ByteArray.empty], fields := [some (0, 1, false), some (1, 1, false), some (2, 1, false), some (3, 1, false)] } := by kernel_rfl
theorem Tryz.ty201 : Sy.ty Tryz.prog 201 = some { n := 4, bytes := 40, kd := .struct, zero := [.pointer none, .pointer none, .pointer none, .string ByteArray.empty], fields := [some (0, 1, false), some (1, 1, false), some (2, 1, false), some (3, 1, false)] } := by kernel_rfl
theorem Tryz.ty206 : Sy.ty Tryz.prog 206 = some { n := 1, bytes := 4, kd := .int .u32, zero := [.int .u32 0], fields := [] } := by kernel_rfl
theorem Tryz.ty207 : Sy.ty Tryz.prog 207 = some { n := 1, bytes := 1, kd := .int .u8, zero := [.int .u8 0], fields := [] } := by kernel_rfl
theorem Tryz.ty208 : Sy.ty Tryz.prog 208 = some { n := 1, bytes := 1, kd := .int .u8, zero := [.int .u8 0], fields := [] } := by kernel_rfl
theorem Tryz.ty210 : Sy.ty Tryz.prog 210 = some { n := 1, bytes := 8, kd := .ptr 5, zero := [.pointer none], fields := [] } := by kernel_rfl
theorem Tryz.ty211 : Sy.ty Tryz.prog 211 = some { n := 1, bytes := 4, kd := .int .i32, zero := [.int .i32 0], fields := [] } := by kernel_rfl
theorem Tryz.ty212 : Sy.ty Tryz.prog 212 = some { n := 1, bytes := 4, kd := .int .i32, zero := [.int .i32 0], fields := [] } := by kernel_rfl
end Go.Proofs
