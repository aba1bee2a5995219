/- What the types of the seat are at a glance: by program, each asked of the kernel. No condition. -/
import Derived.Test.YtbhcjgobapnajaaSy2
import Derived.Test.YtbhcjgobapnajaaChecked
import Derived.KernelRfl
namespace Go.Proofs
open Go
theorem Try.ty2 : Sy.ty Try.prog 2 = some { n := 1, bytes := 8, kd := .int .i64, zero := [.int .i64 0], fields := [] } := by kernel_rfl
theorem Try.ty3 : Sy.ty Try.prog 3 = some { n := 1, bytes := 8, kd := .int .i64, zero := [.int .i64 0], fields := [] } := by kernel_rfl
theorem Try.ty4 : Sy.ty Try.prog 4 = some { n := 1, bytes := 1, kd := .bool, zero := [.bool false], fields := [] } := by kernel_rfl
theorem Try.ty5 : Sy.ty Try.prog 5 = some { n := 1, bytes := 1, kd := .int .u8, zero := [.int .u8 0], fields := [] } := by kernel_rfl
theorem Try.ty6 : Sy.ty Try.prog 6 = some { n := 1, bytes := 1, kd := .int .u8, zero := [.int .u8 0], fields := [] } := by kernel_rfl
theorem Try.ty7 : Sy.ty Try.prog 7 = some { n := 4, bytes := 24, kd := .struct, zero := [.int .i64 0, .int .i64 0, .bool false, .int .u8 0], fields := [some (0, 1, false), some (1, 1, false), some (2, 1, false), some (3, 1, false)] } := by kernel_rfl
theorem Try.ty8 : Sy.ty Try.prog 8 = some { n := 4, bytes := 24, kd := .struct, zero := [.int .i64 0, .int .i64 0, .bool false, .int .u8 0], fields := [some (0, 1, false), some (1, 1, false), some (2, 1, false), some (3, 1, false)] } := by kernel_rfl
theorem Try.ty9 : Sy.ty Try.prog 9 = some { n := 1, bytes := 16, kd := .str, zero := [.string ByteArray.empty], fields := [] } := by kernel_rfl
theorem Try.ty10 : Sy.ty Try.prog 10 = some { n := 1, bytes := 16, kd := .str, zero := [.string ByteArray.empty], fields := [] } := by kernel_rfl
theorem Try.ty11 : Sy.ty Try.prog 11 = some { n := 1, bytes := 16, kd := .str, zero := [.string ByteArray.empty], fields := [] } := by kernel_rfl
theorem Try.ty12 : Sy.ty Try.prog 12 = some { n := 1, bytes := 8, kd := .int .u64, zero := [.int .u64 0], fields := [] } := by kernel_rfl
theorem Try.ty13 : Sy.ty Try.prog 13 = some { n := 2, bytes := 24, kd := .struct, zero := [.string ByteArray.empty, .int .u64 0], fields := [some (0, 1, false), some (1, 1, false)] } := by kernel_rfl
theorem Try.ty14 : Sy.ty Try.prog 14 = some { n := 2, bytes := 24, kd := .struct, zero := [.string ByteArray.empty, .int .u64 0], fields := [some (0, 1, false), some (1, 1, false)] } := by kernel_rfl
theorem Try.ty15 : Sy.ty Try.prog 15 = some { n := 1, bytes := 8, kd := .ptr 253, zero := [.pointer none], fields := [] } := by kernel_rfl
theorem Try.ty16 : Sy.ty Try.prog 16 = some { n := 1, bytes := 8, kd := .ptr 256, zero := [.pointer none], fields := [] } := by kernel_rfl
theorem Try.ty17 : Sy.ty Try.prog 17 = some { n := 1, bytes := 8, kd := .ptr 266, zero := [.pointer none], fields := [] } := by kernel_rfl
theorem Try.ty18 : Sy.ty Try.prog 18 = some { n := 1, bytes := 8, kd := .struct, zero := [.pointer none], fields := [some (0, 1, false)] } := by kernel_rfl
theorem Try.ty19 : Sy.ty Try.prog 19 = some { n := 1, bytes := 8, kd := .struct, zero := [.pointer none], fields := [some (0, 1, false)] } := by kernel_rfl
theorem Try.ty21 : Sy.ty Try.prog 21 = some { n := 1, bytes := 4, kd := .int .i32, zero := [.int .i32 0], fields := [] } := by kernel_rfl
theorem Try.ty22 : Sy.ty Try.prog 22 = some { n := 2, bytes := 24, kd := .struct, zero := [.string ByteArray.empty, .int .i64 0], fields := [some (0, 1, false), some (1, 1, false)] } := by kernel_rfl
theorem Try.ty23 : Sy.ty Try.prog 23 = some { n := 2, bytes := 24, kd := .struct, zero := [.string ByteArray.empty, .int .i64 0], fields := [some (0, 1, false), some (1, 1, false)] } := by kernel_rfl
theorem Try.ty25 : Sy.ty Try.prog 25 = some { n := 1, bytes := 8, kd := .int .i64, zero := [.int .i64 0], fields := [] } := by kernel_rfl
theorem Try.ty27 : Sy.ty Try.prog 27 = some { n := 1, bytes := 24, kd := .slice 30, zero := [.slice none 0 0], fields := [] } := by kernel_rfl
theorem Try.ty28 : Sy.ty Try.prog 28 = some { n := 1, bytes := 24, kd := .slice 78, zero := [.slice none 0 0], fields := [] } := by kernel_rfl
theorem Try.ty29 : Sy.ty Try.prog 29 = some { n := 1, bytes := 24, kd := .struct, zero := [.slice none 0 0], fields := [some (0, 1, false)] } := by kernel_rfl
theorem Try.ty30 : Sy.ty Try.prog 30 = some { n := 1, bytes := 24, kd := .struct, zero := [.slice none 0 0], fields := [some (0, 1, false)] } := by kernel_rfl
theorem Try.ty31 : Sy.ty Try.prog 31 = some { n := 3, bytes := 56, kd := .struct, zero := [.int .i64 0, .slice none 0 0, .slice none 0 0], fields := [some (0, 1, false), some (1, 1, false), some (2, 1, true)] } := by kernel_rfl
theorem Try.ty32 : Sy.ty Try.prog 32 = some { n := 3, bytes := 56, kd := .struct, zero := [.int .i64 0, .slice none 0 0, .slice none 0 0], fields := [some (0, 1, false), some (1, 1, false), some (2, 1, true)] } := by kernel_rfl
theorem Try.ty57 : Sy.ty Try.prog 57 = some { n := 1, bytes := 24, kd := .slice 141, zero := [.slice none 0 0], fields := [] } := by kernel_rfl
theorem Try.ty58 : Sy.ty Try.prog 58 = some { n := 2, bytes := 32, kd := .struct, zero := [.int .i64 0, .slice none 0 0], fields := [some (0, 1, false), some (1, 1, false)] } := by kernel_rfl
theorem Try.ty59 : Sy.ty Try.prog 59 = some { n := 2, bytes := 32, kd := .struct, zero := [.int .i64 0, .slice none 0 0], fields := [some (0, 1, false), some (1, 1, false)] } := by kernel_rfl
theorem Try.ty60 : Sy.ty Try.prog 60 = some { n := 1, bytes := 24, kd := .struct, zero := [.slice none 0 0], fields := [some (0, 1, false)] } := by kernel_rfl
theorem Try.ty61 : Sy.ty Try.prog 61 = some { n := 1, bytes := 24, kd := .struct, zero := [.slice none 0 0], fields := [some (0, 1, false)] } := by kernel_rfl
theorem Try.ty62 : Sy.ty Try.prog 62 = some { n := 7, bytes := 120, kd := .struct, zero := [.int .i64 0, .int .i64 0, .slice none 0 0, .slice none 0 0, .int .i64 0, .slice none 0 0, .slice none 0 0], fields := [some (0, 1, false), some (1, 2, true), some (3, 1, true), some (4, 3, true)] } := by kernel_rfl
theorem Try.ty63 : Sy.ty Try.prog 63 = some { n := 7, bytes := 120, kd := .struct, zero := [.int .i64 0, .int .i64 0, .slice none 0 0, .slice none 0 0, .int .i64 0, .slice none 0 0, .slice none 0 0], fields := [some (0, 1, false), some (1, 2, true), some (3, 1, true), some (4, 3, true)] } := by kernel_rfl
theorem Try.ty71 : Sy.ty Try.prog 71 = some { n := 6, bytes := 40, kd := .struct, zero := [.int .i64 0, .int .i64 0, .bool false, .bool false, .bool false, .string ByteArray.empty], fields := [some (0, 1, false), some (1, 1, false), some (2, 1, false), some (3, 1, false), some (4, 1, false), some (5, 1, false)] } := by kernel_rfl
theorem Try.ty72 : Sy.ty Try.prog 72 = some { n := 6, bytes := 40, kd := .struct, zero := [.int .i64 0, .int .i64 0, .bool false, .bool false, .bool false, .string ByteArray.empty], fields := [some (0, 1, false), some (1, 1, false), some (2, 1, false), some (3, 1, false), some (4, 1, false), some (5, 1, false)] } := by kernel_rfl
theorem Try.ty76 : Sy.ty Try.prog 76 = some { n := 1, bytes := 24, kd := .slice 9, zero := [.slice none 0 0], fields := [] } := by kernel_rfl
theorem Try.ty77 : Sy.ty Try.prog 77 = some { n := 3, bytes := 40, kd := .struct, zero := [.int .i64 0, .bool false, .slice none 0 0], fields := [some (0, 1, false), some (1, 1, false), some (2, 1, false)] } := by kernel_rfl
theorem Try.ty78 : Sy.ty Try.prog 78 = some { n := 3, bytes := 40, kd := .struct, zero := [.int .i64 0, .bool false, .slice none 0 0], fields := [some (0, 1, false), some (1, 1, false), some (2, 1, false)] } := by kernel_rfl
theorem Try.ty79 : Sy.ty Try.prog 79 = some { n := 3, bytes := 24, kd := .struct, zero := [.int .i64 0, .int .i64 0, .int .i64 0], fields := [some (0, 1, false), some (1, 1, false), some (2, 1, false)] } := by kernel_rfl
theorem Try.ty80 : Sy.ty Try.prog 80 = some { n := 3, bytes := 24, kd := .struct, zero := [.int .i64 0, .int .i64 0, .int .i64 0], fields := [some (0, 1, false), some (1, 1, false), some (2, 1, false)] } := by kernel_rfl
theorem Try.ty92 : Sy.ty Try.prog 92 = some { n := 3, bytes := 24, kd := .struct, zero := [.int .i64 0, .int .i64 0, .int .i64 0], fields := [some (0, 1, false), some (1, 1, false), some (2, 1, false)] } := by kernel_rfl
theorem Try.ty93 : Sy.ty Try.prog 93 = some { n := 3, bytes := 24, kd := .struct, zero := [.int .i64 0, .int .i64 0, .int .i64 0], fields := [some (0, 1, false), some (1, 1, false), some (2, 1, false)] } := by kernel_rfl
theorem Try.ty94 : Sy.ty Try.prog 94 = some { n := 6, bytes := 48, kd := .struct, zero := [.int .i64 0, .int .i64 0, .int .i64 0, .int .i64 0, .int .i64 0, .int .i64 0], fields := [some (0, 3, true), some (3, 3, true)] } := by kernel_rfl
theorem Try.ty95 : Sy.ty Try.prog 95 = some { n := 6, bytes := 48, kd := .struct, zero := [.int .i64 0, .int .i64 0, .int .i64 0, .int .i64 0, .int .i64 0, .int .i64 0], fields := [some (0, 3, true), some (3, 3, true)] } := by kernel_rfl
theorem Try.ty96 : Sy.ty Try.prog 96 = some { n := 1, bytes := 24, kd := .slice 72, zero := [.slice none 0 0], fields := [] } := by kernel_rfl
theorem Try.ty99 : Sy.ty Try.prog 99 = some { n := 3, bytes := 32, kd := .struct, zero := [.int .i64 0, .int .i64 0, .string ByteArray.empty], fields := [some (0, 1, false), some (1, 1, false), some (2, 1, false)] } := by kernel_rfl
theorem Try.ty100 : Sy.ty Try.prog 100 = some { n := 3, bytes := 32, kd := .struct, zero := [.int .i64 0, .int .i64 0, .string ByteArray.empty], fields := [some (0, 1, false), some (1, 1, false), some (2, 1, false)] } := by kernel_rfl
theorem Try.ty103 : Sy.ty Try.prog 103 = some { n := 1, bytes := 24, kd := .slice 108, zero := [.slice none 0 0], fields := [] } := by kernel_rfl
theorem Try.ty104 : Sy.ty Try.prog 104 = some { n := 1, bytes := 24, kd := .slice 3, zero := [.slice none 0 0], fields := [] } := by kernel_rfl
theorem Try.ty107 : Sy.ty Try.prog 107 = some { n := 3, bytes := 40, kd := .struct, zero := [.int .i64 0, .int .i64 0, .slice none 0 0], fields := [some (0, 1, false), some (1, 1, false), some (2, 1, true)] } := by kernel_rfl
theorem Try.ty108 : Sy.ty Try.prog 108 = some { n := 3, bytes := 40, kd := .struct, zero := [.int .i64 0, .int .i64 0, .slice none 0 0], fields := [some (0, 1, false), some (1, 1, false), some (2, 1, true)] } := by kernel_rfl
theorem Try.ty126 : Sy.ty Try.prog 126 = some { n := 1, bytes := 8, kd := .ptr 129, zero := [.pointer none], fields := [] } := by kernel_rfl
theorem Try.ty128 : Sy.ty Try.prog 128 = some { n := 8, bytes := 128, kd := .struct, zero := [.int .i64 0, .int .i64 0, .slice none 0 0, .slice none 0 0, .int .i64 0, .slice none 0 0, .slice none 0 0, .int .i64 0], fields := [some (0, 7, true), some (7, 1, false)] } := by kernel_rfl
theorem Try.ty129 : Sy.ty Try.prog 129 = some { n := 8, bytes := 128, kd := .struct, zero := [.int .i64 0, .int .i64 0, .slice none 0 0, .slice none 0 0, .int .i64 0, .slice none 0 0, .slice none 0 0, .int .i64 0], fields := [some (0, 7, true), some (7, 1, false)] } := by kernel_rfl
theorem Try.ty140 : Sy.ty Try.prog 140 = some { n := 7, bytes := 48, kd := .struct, zero := [.int .i64 0, .int .i64 0, .int .i64 0, .bool false, .bool false, .bool false, .string ByteArray.empty], fields := [some (0, 1, false), some (1, 6, true)] } := by kernel_rfl
theorem Try.ty141 : Sy.ty Try.prog 141 = some { n := 7, bytes := 48, kd := .struct, zero := [.int .i64 0, .int .i64 0, .int .i64 0, .bool false, .bool false, .bool false, .string ByteArray.empty], fields := [some (0, 1, false), some (1, 6, true)] } := by kernel_rfl
theorem Try.ty160 : Sy.ty Try.prog 160 = some { n := 1, bytes := 24, kd := .slice 25, zero := [.slice none 0 0], fields := [] } := by kernel_rfl
theorem Try.ty163 : Sy.ty Try.prog 163 = some { n := 1, bytes := 24, kd := .slice 100, zero := [.slice none 0 0], fields := [] } := by kernel_rfl
theorem Try.ty170 : Sy.ty Try.prog 170 = some { n := 1, bytes := 8, kd := .ptr 172, zero := [.pointer none], fields := [] } := by kernel_rfl
theorem Try.ty171 : Sy.ty Try.prog 171 = some { n := 3, bytes := 56, kd := .struct, zero := [.int .i64 0, .slice none 0 0, .slice none 0 0], fields := [some (0, 3, true)] } := by kernel_rfl
theorem Try.ty172 : Sy.ty Try.prog 172 = some { n := 3, bytes := 56, kd := .struct, zero := [.int .i64 0, .slice none 0 0, .slice none 0 0], fields := [some (0, 3, true)] } := by kernel_rfl
theorem Try.ty177 : Sy.ty Try.prog 177 = some { n := 1, bytes := 24, kd := .slice 5, zero := [.slice none 0 0], fields := [] } := by kernel_rfl
theorem Try.ty184 : Sy.ty Try.prog 184 = some { n := 1, bytes := 8, kd := .ptr 188, zero := [.pointer none], fields := [] } := by kernel_rfl
theorem Try.ty187 : Sy.ty Try.prog 187 = some { n := 3, bytes := 56, kd := .struct, zero := [.int .i64 0, .slice none 0 0, .slice none 0 0], fields := [some (0, 2, true), some (2, 1, false)] } := by kernel_rfl
theorem Try.ty188 : Sy.ty Try.prog 188 = some { n := 3, bytes := 56, kd := .struct, zero := [.int .i64 0, .slice none 0 0, .slice none 0 0], fields := [some (0, 2, true), some (2, 1, false)] } := by kernel_rfl
theorem Try.ty195 : Sy.ty Try.prog 195 = some { n := 1, bytes := 8, kd := .ptr 197, zero := [.pointer none], fields := [] } := by kernel_rfl
theorem Try.ty196 : Sy.ty Try.prog 196 = some { n := 1, bytes := 24, kd := .struct, zero := [.slice none 0 0], fields := [some (0, 1, true)] } := by kernel_rfl
theorem Try.ty197 : Sy.ty Try.prog 197 = some { n := 1, bytes := 24, kd := .struct, zero := [.slice none 0 0], fields := [some (0, 1, true)] } := by kernel_rfl
theorem Try.ty203 : Sy.ty Try.prog 203 = some { n := 1, bytes := 8, kd := .ptr 205, zero := [.pointer none], fields := [] } := by kernel_rfl
theorem Try.ty204 : Sy.ty Try.prog 204 = some { n := 2, bytes := 48, kd := .struct, zero := [.slice none 0 0, .slice none 0 0], fields := [some (0, 1, true), some (1, 1, false)] } := by kernel_rfl
theorem Try.ty205 : Sy.ty Try.prog 205 = some { n := 2, bytes := 48, kd := .struct, zero := [.slice none 0 0, .slice none 0 0], fields := [some (0, 1, true), some (1, 1, false)] } := by kernel_rfl
theorem Try.ty207 : Sy.ty Try.prog 207 = some { n := 1, bytes := 8, kd := .ptr 209, zero := [.pointer none], fields := [] } := by kernel_rfl
theorem Try.ty208 : Sy.ty Try.prog 208 = some { n := 6, bytes := 64, kd := .struct, zero := [.int .i64 0, .int .i64 0, .int .i64 0, .int .i64 0, .slice none 0 0, .bool false], fields := [some (0, 3, true), some (3, 1, false), some (4, 1, false), some (5, 1, false)] } := by kernel_rfl
theorem Try.ty209 : Sy.ty Try.prog 209 = some { n := 6, bytes := 64, kd := .struct, zero := [.int .i64 0, .int .i64 0, .int .i64 0, .int .i64 0, .slice none 0 0, .bool false], fields := [some (0, 3, true), some (3, 1, false), some (4, 1, false), some (5, 1, false)] } := by kernel_rfl
theorem Try.ty213 : Sy.ty Try.prog 213 = some { n := 1, bytes := 8, kd := .ptr 215, zero := [.pointer none], fields := [] } := by kernel_rfl
theorem Try.ty214 : Sy.ty Try.prog 214 = some { n := 14, bytes := 192, kd := .struct, zero := [.int .i64 0, .int .i64 0, .int .i64 0, .int .i64 0, .int .i64 0, .int .i64 0, .int .i64 0, .int .i64 0, .slice none 0 0, .slice none 0 0, .int .i64 0, .slice none 0 0, .slice none 0 0, .slice none 0 0], fields := [some (0, 6, true), some (6, 7, true), some (13, 1, false)] } := by kernel_rfl
theorem Try.ty215 : Sy.ty Try.prog 215 = some { n := 14, bytes := 192, kd := .struct, zero := [.int .i64 0, .int .i64 0, .int .i64 0, .int .i64 0, .int .i64 0, .int .i64 0, .int .i64 0, .int .i64 0, .slice none 0 0, .slice none 0 0, .int .i64 0, .slice none 0 0, .slice none 0 0, .slice none 0 0], fields := [some (0, 6, true), some (6, 7, true), some (13, 1, false)] } := by kernel_rfl
theorem Try.ty218 : Sy.ty Try.prog 218 = some { n := 1, bytes := 8, kd := .int .u64, zero := [.int .u64 0], fields := [] } := by kernel_rfl
theorem Try.ty224 : Sy.ty Try.prog 224 = some { n := 1, bytes := 8, kd := .ptr 238, zero := [.pointer none], fields := [] } := by kernel_rfl
theorem Try.ty234 : Sy.ty Try.prog 234 = some { n := 0, bytes := 0, kd := .struct, zero := [], fields := [] } := by kernel_rfl
theorem Try.ty235 : Sy.ty Try.prog 235 = some { n := 0, bytes := 0, kd := .struct, zero := [], fields := [] } := by kernel_rfl
theorem Try.ty237 : Sy.ty Try.prog 237 = some { n := 1, bytes := 16, kd := .struct, zero := [.string ByteArray.empty], fields := [some (0, 1, false)] } := by kernel_rfl
theorem Try.ty238 : Sy.ty Try.prog 238 = some { n := 1, bytes := 16, kd := .struct, zero := [.string ByteArray.empty], fields := [some (0, 1, false)] } := by kernel_rfl
theorem Try.ty246 : Sy.ty Try.prog 246 = some { n := 1, bytes := 8, kd := .ptr 248, zero := [.pointer none], fields := [] } := by kernel_rfl
theorem Try.ty247 : Sy.ty Try.prog 247 = some { n := 4, bytes := 48, kd := .struct, zero := [.int .i64 0, .int .i64 0, .int .i64 0, .slice none 0 0], fields := [some (0, 3, true), some (3, 1, false)] } := by kernel_rfl
theorem Try.ty248 : Sy.ty Try.prog 248 = some { n := 4, bytes := 48, kd := .struct, zero := [.int .i64 0, .int .i64 0, .int .i64 0, .slice none 0 0], fields := [some (0, 3, true), some (3, 1, false)] } := by kernel_rfl
theorem Try.ty252 : Sy.ty Try.prog 252 = some { n := 4, bytes := 40, kd := .struct, zero := [.pointer none, .pointer none, .pointer none, .string ByteArray.empty], fields := [some (0, 1, false), some (1, 1, false), some (2, 1, false), some (3, 1, false)] } := by kernel_rfl
theorem Try.ty253 : Sy.ty Try.prog 253 = some { n := 4, bytes := 40, kd := .struct, zero := [.pointer none, .pointer none, .pointer none, .string ByteArray.empty], fields := [some (0, 1, false), some (1, 1, false), some (2, 1, false), some (3, 1, false)] } := by kernel_rfl
theorem Try.ty258 : Sy.ty Try.prog 258 = some { n := 1, bytes := 4, kd := .int .u32, zero := [.int .u32 0], fields := [] } := by kernel_rfl
theorem Try.ty259 : Sy.ty Try.prog 259 = some { n := 1, bytes := 1, kd := .int .u8, zero := [.int .u8 0], fields := [] } := by kernel_rfl
theorem Try.ty260 : Sy.ty Try.prog 260 = some { n := 1, bytes := 1, kd := .int .u8, zero := [.int .u8 0], fields := [] } := by kernel_rfl
theorem Try.ty262 : Sy.ty Try.prog 262 = some { n := 1, bytes := 8, kd := .ptr 5, zero := [.pointer none], fields := [] } := by kernel_rfl
theorem Try.ty263 : Sy.ty Try.prog 263 = some { n := 1, bytes := 4, kd := .int .i32, zero := [.int .i32 0], fields := [] } := by kernel_rfl
theorem Try.ty264 : Sy.ty Try.prog 264 = some { n := 1, bytes := 4, kd := .int .i32, zero := [.int .i32 0], fields := [] } := by kernel_rfl
end Go.Proofs
