/- Types of the program, and library functions. -/
import Derived.Test.YthmohnenobkmcaaGreatDoorSxThree
import Derived.Test.YthmohnenobkmcaaGreatDoorProg
import Derived.Test.YthmohnenobkmcaaGreatDoorSxFour
import Derived.Test.YthmohnenobkmcaaGreatDoorSxFive
import Derived.Shelf.Unicode.ValidAny
import Derived.Lib.LaidTab
set_option linter.unusedVariables false
set_option linter.unusedSimpArgs false
namespace Go.Sx.Sp
open Go Go.Sx Go.Proofs
theorem tok2 : TOK Tryz.prog 2 ⟨.int .i64, 1, 8, [.int .i64 0]⟩ := tok_of (by kernel_rfl)
theorem tok3 : TOK Tryz.prog 3 ⟨.int .i64, 1, 8, [.int .i64 0]⟩ := tok_of (by kernel_rfl)
theorem tok4 : TOK Tryz.prog 4 ⟨.bool, 1, 1, [.bool false]⟩ := tok_of (by kernel_rfl)
theorem tok5 : TOK Tryz.prog 5 ⟨.int .u8, 1, 1, [.int .u8 0]⟩ := tok_of (by kernel_rfl)
theorem tok6 : TOK Tryz.prog 6 ⟨.int .u8, 1, 1, [.int .u8 0]⟩ := tok_of (by kernel_rfl)
theorem tok7 : TOK Tryz.prog 7 ⟨.st [(0, 2), (1, 3), (2, 4), (3, 6)], 4, 24, [.int .i64 0, .int .i64 0, .bool false, .int .u8 0]⟩ := tok_of (by kernel_rfl)
theorem tok8 : TOK Tryz.prog 8 ⟨.st [(0, 2), (1, 3), (2, 4), (3, 6)], 4, 24, [.int .i64 0, .int .i64 0, .bool false, .int .u8 0]⟩ := tok_of (by kernel_rfl)
theorem tok9 : TOK Tryz.prog 9 ⟨.str, 1, 16, [.str []]⟩ := tok_of (by kernel_rfl)
theorem tok10 : TOK Tryz.prog 10 ⟨.str, 1, 16, [.str []]⟩ := tok_of (by kernel_rfl)
theorem tok11 : TOK Tryz.prog 11 ⟨.str, 1, 16, [.str []]⟩ := tok_of (by kernel_rfl)
theorem tok12 : TOK Tryz.prog 12 ⟨.int .u64, 1, 8, [.int .u64 0]⟩ := tok_of (by kernel_rfl)
theorem tok13 : TOK Tryz.prog 13 ⟨.st [(0, 9), (1, 12)], 2, 24, [.str [], .int .u64 0]⟩ := tok_of (by kernel_rfl)
theorem tok14 : TOK Tryz.prog 14 ⟨.st [(0, 9), (1, 12)], 2, 24, [.str [], .int .u64 0]⟩ := tok_of (by kernel_rfl)
theorem tok15 : TOK Tryz.prog 15 ⟨.ptr 322, 1, 8, [.nilp]⟩ := tok_of (by kernel_rfl)
theorem tok16 : TOK Tryz.prog 16 ⟨.ptr 325, 1, 8, [.nilp]⟩ := tok_of (by kernel_rfl)
theorem tok17 : TOK Tryz.prog 17 ⟨.ptr 333, 1, 8, [.nilp]⟩ := tok_of (by kernel_rfl)
theorem tok18 : TOK Tryz.prog 18 ⟨.st [(0, 17)], 1, 8, [.nilp]⟩ := tok_of (by kernel_rfl)
theorem tok19 : TOK Tryz.prog 19 ⟨.st [(0, 17)], 1, 8, [.nilp]⟩ := tok_of (by kernel_rfl)
theorem tok20 : TOK Tryz.prog 20 ⟨.iface, 1, 16, [.nili]⟩ := tok_of (by kernel_rfl)
theorem tok21 : TOK Tryz.prog 21 ⟨.int .i32, 1, 4, [.int .i32 0]⟩ := tok_of (by kernel_rfl)
theorem tok22 : TOK Tryz.prog 22 ⟨.sl 3, 1, 24, [.nils]⟩ := tok_of (by kernel_rfl)
theorem tok25 : TOK Tryz.prog 25 ⟨.ptr 84, 1, 8, [.nilp]⟩ := tok_of (by kernel_rfl)
theorem tok27 : TOK Tryz.prog 27 ⟨.sl 35, 1, 24, [.nils]⟩ := tok_of (by kernel_rfl)
theorem tok29 : TOK Tryz.prog 29 ⟨.sl 89, 1, 24, [.nils]⟩ := tok_of (by kernel_rfl)
theorem tok30 : TOK Tryz.prog 30 ⟨.st [(0, 3), (1, 29)], 2, 32, [.int .i64 0, .nils]⟩ := tok_of (by kernel_rfl)
theorem tok31 : TOK Tryz.prog 31 ⟨.st [(0, 3), (1, 29)], 2, 32, [.int .i64 0, .nils]⟩ := tok_of (by kernel_rfl)
theorem tok33 : TOK Tryz.prog 33 ⟨.sl 51, 1, 24, [.nils]⟩ := tok_of (by kernel_rfl)
theorem tok34 : TOK Tryz.prog 34 ⟨.st [(0, 3), (1, 9), (2, 33)], 3, 48, [.int .i64 0, .str [], .nils]⟩ := tok_of (by kernel_rfl)
theorem tok35 : TOK Tryz.prog 35 ⟨.st [(0, 3), (1, 9), (2, 33)], 3, 48, [.int .i64 0, .str [], .nils]⟩ := tok_of (by kernel_rfl)
theorem tok36 : TOK Tryz.prog 36 ⟨.int .i64, 1, 8, [.int .i64 0]⟩ := tok_of (by kernel_rfl)
theorem tok39 : TOK Tryz.prog 39 ⟨.sl 55, 1, 24, [.nils]⟩ := tok_of (by kernel_rfl)
theorem tok40 : TOK Tryz.prog 40 ⟨.sl 45, 1, 24, [.nils]⟩ := tok_of (by kernel_rfl)
theorem tok41 : TOK Tryz.prog 41 ⟨.st [(0, 31), (2, 39), (3, 40)], 4, 80, [.int .i64 0, .nils, .nils, .nils]⟩ := tok_of (by kernel_rfl)
theorem tok42 : TOK Tryz.prog 42 ⟨.st [(0, 31), (2, 39), (3, 40)], 4, 80, [.int .i64 0, .nils, .nils, .nils]⟩ := tok_of (by kernel_rfl)
theorem tok44 : TOK Tryz.prog 44 ⟨.st [(0, 3), (1, 3)], 2, 16, [.int .i64 0, .int .i64 0]⟩ := tok_of (by kernel_rfl)
theorem tok45 : TOK Tryz.prog 45 ⟨.st [(0, 3), (1, 3)], 2, 16, [.int .i64 0, .int .i64 0]⟩ := tok_of (by kernel_rfl)
theorem tok49 : TOK Tryz.prog 49 ⟨.sl 81, 1, 24, [.nils]⟩ := tok_of (by kernel_rfl)
theorem tok50 : TOK Tryz.prog 50 ⟨.st [(0, 9), (1, 49)], 2, 40, [.str [], .nils]⟩ := tok_of (by kernel_rfl)
theorem tok51 : TOK Tryz.prog 51 ⟨.st [(0, 9), (1, 49)], 2, 40, [.str [], .nils]⟩ := tok_of (by kernel_rfl)
theorem tok54 : TOK Tryz.prog 54 ⟨.st [(0, 45), (2, 3), (3, 9)], 4, 40, [.int .i64 0, .int .i64 0, .int .i64 0, .str []]⟩ := tok_of (by kernel_rfl)
theorem tok55 : TOK Tryz.prog 55 ⟨.st [(0, 45), (2, 3), (3, 9)], 4, 40, [.int .i64 0, .int .i64 0, .int .i64 0, .str []]⟩ := tok_of (by kernel_rfl)
theorem tok56 : TOK Tryz.prog 56 ⟨.sl 5, 1, 24, [.nils]⟩ := tok_of (by kernel_rfl)
theorem tok62 : TOK Tryz.prog 62 ⟨.arr 5 3, 5, 40, [.int .i64 0, .int .i64 0, .int .i64 0, .int .i64 0, .int .i64 0]⟩ := tok_of (by kernel_rfl)
theorem tok65 : TOK Tryz.prog 65 ⟨.sl 87, 1, 24, [.nils]⟩ := tok_of (by kernel_rfl)
theorem tok68 : TOK Tryz.prog 68 ⟨.sl 31, 1, 24, [.nils]⟩ := tok_of (by kernel_rfl)
theorem tok73 : TOK Tryz.prog 73 ⟨.st [(0, 42), (4, 3)], 5, 88, [.int .i64 0, .nils, .nils, .nils, .int .i64 0]⟩ := tok_of (by kernel_rfl)
theorem tok74 : TOK Tryz.prog 74 ⟨.st [(0, 42), (4, 3)], 5, 88, [.int .i64 0, .nils, .nils, .nils, .int .i64 0]⟩ := tok_of (by kernel_rfl)
theorem tok75 : TOK Tryz.prog 75 ⟨.sl 74, 1, 24, [.nils]⟩ := tok_of (by kernel_rfl)
theorem tok80 : TOK Tryz.prog 80 ⟨.st [(0, 4), (1, 9)], 2, 24, [.bool false, .str []]⟩ := tok_of (by kernel_rfl)
theorem tok81 : TOK Tryz.prog 81 ⟨.st [(0, 4), (1, 9)], 2, 24, [.bool false, .str []]⟩ := tok_of (by kernel_rfl)
theorem tok83 : TOK Tryz.prog 83 ⟨.st [(0, 22), (1, 3)], 2, 32, [.nils, .int .i64 0]⟩ := tok_of (by kernel_rfl)
theorem tok84 : TOK Tryz.prog 84 ⟨.st [(0, 22), (1, 3)], 2, 32, [.nils, .int .i64 0]⟩ := tok_of (by kernel_rfl)
theorem tok86 : TOK Tryz.prog 86 ⟨.st [(0, 45), (2, 45), (4, 3), (5, 3), (6, 3), (7, 3), (8, 3), (9, 3), (10, 3)], 11, 88, [.int .i64 0, .int .i64 0, .int .i64 0, .int .i64 0, .int .i64 0, .int .i64 0, .int .i64 0, .int .i64 0, .int .i64 0, .int .i64 0, .int .i64 0]⟩ := tok_of (by kernel_rfl)
theorem tok87 : TOK Tryz.prog 87 ⟨.st [(0, 45), (2, 45), (4, 3), (5, 3), (6, 3), (7, 3), (8, 3), (9, 3), (10, 3)], 11, 88, [.int .i64 0, .int .i64 0, .int .i64 0, .int .i64 0, .int .i64 0, .int .i64 0, .int .i64 0, .int .i64 0, .int .i64 0, .int .i64 0, .int .i64 0]⟩ := tok_of (by kernel_rfl)
theorem tok88 : TOK Tryz.prog 88 ⟨.st [(0, 45), (2, 45)], 4, 32, [.int .i64 0, .int .i64 0, .int .i64 0, .int .i64 0]⟩ := tok_of (by kernel_rfl)
theorem tok89 : TOK Tryz.prog 89 ⟨.st [(0, 45), (2, 45)], 4, 32, [.int .i64 0, .int .i64 0, .int .i64 0, .int .i64 0]⟩ := tok_of (by kernel_rfl)
theorem tok91 : TOK Tryz.prog 91 ⟨.sl 22, 1, 24, [.nils]⟩ := tok_of (by kernel_rfl)
theorem tok97 : TOK Tryz.prog 97 ⟨.map 3 3, 1, 8, [.nilm]⟩ := tok_of (by kernel_rfl)
theorem tok109 : TOK Tryz.prog 109 ⟨.fn, 1, 8, [.nilf]⟩ := tok_of (by kernel_rfl)
theorem tok111 : TOK Tryz.prog 111 ⟨.fn, 1, 8, [.nilf]⟩ := tok_of (by kernel_rfl)
theorem tok113 : TOK Tryz.prog 113 ⟨.sl 9, 1, 24, [.nils]⟩ := tok_of (by kernel_rfl)
theorem tok116 : TOK Tryz.prog 116 ⟨.sl 234, 1, 24, [.nils]⟩ := tok_of (by kernel_rfl)
theorem tok117 : TOK Tryz.prog 117 ⟨.st [(0, 4), (1, 116)], 2, 32, [.bool false, .nils]⟩ := tok_of (by kernel_rfl)
theorem tok118 : TOK Tryz.prog 118 ⟨.st [(0, 4), (1, 116)], 2, 32, [.bool false, .nils]⟩ := tok_of (by kernel_rfl)
theorem tok119 : TOK Tryz.prog 119 ⟨.st [(0, 118), (2, 118)], 4, 64, [.bool false, .nils, .bool false, .nils]⟩ := tok_of (by kernel_rfl)
theorem tok120 : TOK Tryz.prog 120 ⟨.st [(0, 118), (2, 118)], 4, 64, [.bool false, .nils, .bool false, .nils]⟩ := tok_of (by kernel_rfl)
theorem tok123 : TOK Tryz.prog 123 ⟨.map 3 29, 1, 8, [.nilm]⟩ := tok_of (by kernel_rfl)
theorem tok124 : TOK Tryz.prog 124 ⟨.map 3 29, 1, 8, [.nilm]⟩ := tok_of (by kernel_rfl)
theorem tok132 : TOK Tryz.prog 132 ⟨.sl 49, 1, 24, [.nils]⟩ := tok_of (by kernel_rfl)
theorem tok133 : TOK Tryz.prog 133 ⟨.st [(0, 31), (2, 40), (3, 132), (4, 3)], 5, 88, [.int .i64 0, .nils, .nils, .nils, .int .i64 0]⟩ := tok_of (by kernel_rfl)
theorem tok134 : TOK Tryz.prog 134 ⟨.st [(0, 31), (2, 40), (3, 132), (4, 3)], 5, 88, [.int .i64 0, .nils, .nils, .nils, .int .i64 0]⟩ := tok_of (by kernel_rfl)
theorem tok140 : TOK Tryz.prog 140 ⟨.st [(0, 3), (1, 3), (2, 3), (3, 22)], 4, 48, [.int .i64 0, .int .i64 0, .int .i64 0, .nils]⟩ := tok_of (by kernel_rfl)
theorem tok141 : TOK Tryz.prog 141 ⟨.st [(0, 3), (1, 3), (2, 3), (3, 22)], 4, 48, [.int .i64 0, .int .i64 0, .int .i64 0, .nils]⟩ := tok_of (by kernel_rfl)
theorem tok144 : TOK Tryz.prog 144 ⟨.sl 40, 1, 24, [.nils]⟩ := tok_of (by kernel_rfl)
theorem tok159 : TOK Tryz.prog 159 ⟨.ptr 91, 1, 8, [.nilp]⟩ := tok_of (by kernel_rfl)
theorem tok178 : TOK Tryz.prog 178 ⟨.map 3 4, 1, 8, [.nilm]⟩ := tok_of (by kernel_rfl)
theorem tok179 : TOK Tryz.prog 179 ⟨.fn, 1, 8, [.nilf]⟩ := tok_of (by kernel_rfl)
theorem tok183 : TOK Tryz.prog 183 ⟨.int .u64, 1, 8, [.int .u64 0]⟩ := tok_of (by kernel_rfl)
theorem tok190 : TOK Tryz.prog 190 ⟨.ptr 240, 1, 8, [.nilp]⟩ := tok_of (by kernel_rfl)
theorem tok195 : TOK Tryz.prog 195 ⟨.map 9 4, 1, 8, [.nilm]⟩ := tok_of (by kernel_rfl)
theorem tok202 : TOK Tryz.prog 202 ⟨.sl 204, 1, 24, [.nils]⟩ := tok_of (by kernel_rfl)
theorem tok204 : TOK Tryz.prog 204 ⟨.sl 4, 1, 24, [.nils]⟩ := tok_of (by kernel_rfl)
theorem tok209 : TOK Tryz.prog 209 ⟨.st [(0, 3), (1, 3), (2, 9), (3, 22)], 4, 56, [.int .i64 0, .int .i64 0, .str [], .nils]⟩ := tok_of (by kernel_rfl)
theorem tok210 : TOK Tryz.prog 210 ⟨.st [(0, 3), (1, 3), (2, 9), (3, 22)], 4, 56, [.int .i64 0, .int .i64 0, .str [], .nils]⟩ := tok_of (by kernel_rfl)
theorem tok212 : TOK Tryz.prog 212 ⟨.sl 210, 1, 24, [.nils]⟩ := tok_of (by kernel_rfl)
theorem tok222 : TOK Tryz.prog 222 ⟨.map 9 3, 1, 8, [.nilm]⟩ := tok_of (by kernel_rfl)
theorem tok227 : TOK Tryz.prog 227 ⟨.int .i64, 1, 8, [.int .i64 0]⟩ := tok_of (by kernel_rfl)
theorem tok234 : TOK Tryz.prog 234 ⟨.int .u32, 1, 4, [.int .u32 0]⟩ := tok_of (by kernel_rfl)
theorem tok236 : TOK Tryz.prog 236 ⟨.int .u64, 1, 8, [.int .u64 0]⟩ := tok_of (by kernel_rfl)
theorem tok238 : TOK Tryz.prog 238 ⟨.sl 242, 1, 24, [.nils]⟩ := tok_of (by kernel_rfl)
theorem tok239 : TOK Tryz.prog 239 ⟨.st [(0, 238)], 1, 24, [.nils]⟩ := tok_of (by kernel_rfl)
theorem tok240 : TOK Tryz.prog 240 ⟨.st [(0, 238)], 1, 24, [.nils]⟩ := tok_of (by kernel_rfl)
theorem tok241 : TOK Tryz.prog 241 ⟨.st [(0, 35), (3, 3), (4, 3), (5, 3), (6, 22), (7, 22), (8, 222)], 9, 128, [.int .i64 0, .str [], .nils, .int .i64 0, .int .i64 0, .int .i64 0, .nils, .nils, .nilm]⟩ := tok_of (by kernel_rfl)
theorem tok242 : TOK Tryz.prog 242 ⟨.st [(0, 35), (3, 3), (4, 3), (5, 3), (6, 22), (7, 22), (8, 222)], 9, 128, [.int .i64 0, .str [], .nils, .int .i64 0, .int .i64 0, .int .i64 0, .nils, .nils, .nilm]⟩ := tok_of (by kernel_rfl)
theorem tok244 : TOK Tryz.prog 244 ⟨.fn, 1, 8, [.nilf]⟩ := tok_of (by kernel_rfl)
theorem tok246 : TOK Tryz.prog 246 ⟨.sl 247, 1, 24, [.nils]⟩ := tok_of (by kernel_rfl)
theorem tok247 : TOK Tryz.prog 247 ⟨.map 9 22, 1, 8, [.nilm]⟩ := tok_of (by kernel_rfl)
def T : List (Nat × TI) := [(2, ⟨.int .i64, 1, 8, [.int .i64 0]⟩),
  (3, ⟨.int .i64, 1, 8, [.int .i64 0]⟩),
  (4, ⟨.bool, 1, 1, [.bool false]⟩),
  (5, ⟨.int .u8, 1, 1, [.int .u8 0]⟩),
  (6, ⟨.int .u8, 1, 1, [.int .u8 0]⟩),
  (7, ⟨.st [(0, 2), (1, 3), (2, 4), (3, 6)], 4, 24, [.int .i64 0, .int .i64 0, .bool false, .int .u8 0]⟩),
  (8, ⟨.st [(0, 2), (1, 3), (2, 4), (3, 6)], 4, 24, [.int .i64 0, .int .i64 0, .bool false, .int .u8 0]⟩),
  (9, ⟨.str, 1, 16, [.str []]⟩),
  (10, ⟨.str, 1, 16, [.str []]⟩),
  (11, ⟨.str, 1, 16, [.str []]⟩),
  (12, ⟨.int .u64, 1, 8, [.int .u64 0]⟩),
  (13, ⟨.st [(0, 9), (1, 12)], 2, 24, [.str [], .int .u64 0]⟩),
  (14, ⟨.st [(0, 9), (1, 12)], 2, 24, [.str [], .int .u64 0]⟩),
  (15, ⟨.ptr 322, 1, 8, [.nilp]⟩),
  (16, ⟨.ptr 325, 1, 8, [.nilp]⟩),
  (17, ⟨.ptr 333, 1, 8, [.nilp]⟩),
  (18, ⟨.st [(0, 17)], 1, 8, [.nilp]⟩),
  (19, ⟨.st [(0, 17)], 1, 8, [.nilp]⟩),
  (20, ⟨.iface, 1, 16, [.nili]⟩),
  (21, ⟨.int .i32, 1, 4, [.int .i32 0]⟩),
  (22, ⟨.sl 3, 1, 24, [.nils]⟩),
  (25, ⟨.ptr 84, 1, 8, [.nilp]⟩),
  (27, ⟨.sl 35, 1, 24, [.nils]⟩),
  (29, ⟨.sl 89, 1, 24, [.nils]⟩),
  (30, ⟨.st [(0, 3), (1, 29)], 2, 32, [.int .i64 0, .nils]⟩),
  (31, ⟨.st [(0, 3), (1, 29)], 2, 32, [.int .i64 0, .nils]⟩),
  (33, ⟨.sl 51, 1, 24, [.nils]⟩),
  (34, ⟨.st [(0, 3), (1, 9), (2, 33)], 3, 48, [.int .i64 0, .str [], .nils]⟩),
  (35, ⟨.st [(0, 3), (1, 9), (2, 33)], 3, 48, [.int .i64 0, .str [], .nils]⟩),
  (36, ⟨.int .i64, 1, 8, [.int .i64 0]⟩),
  (39, ⟨.sl 55, 1, 24, [.nils]⟩),
  (40, ⟨.sl 45, 1, 24, [.nils]⟩),
  (41, ⟨.st [(0, 31), (2, 39), (3, 40)], 4, 80, [.int .i64 0, .nils, .nils, .nils]⟩),
  (42, ⟨.st [(0, 31), (2, 39), (3, 40)], 4, 80, [.int .i64 0, .nils, .nils, .nils]⟩),
  (44, ⟨.st [(0, 3), (1, 3)], 2, 16, [.int .i64 0, .int .i64 0]⟩),
  (45, ⟨.st [(0, 3), (1, 3)], 2, 16, [.int .i64 0, .int .i64 0]⟩),
  (49, ⟨.sl 81, 1, 24, [.nils]⟩),
  (50, ⟨.st [(0, 9), (1, 49)], 2, 40, [.str [], .nils]⟩),
  (51, ⟨.st [(0, 9), (1, 49)], 2, 40, [.str [], .nils]⟩),
  (54, ⟨.st [(0, 45), (2, 3), (3, 9)], 4, 40, [.int .i64 0, .int .i64 0, .int .i64 0, .str []]⟩),
  (55, ⟨.st [(0, 45), (2, 3), (3, 9)], 4, 40, [.int .i64 0, .int .i64 0, .int .i64 0, .str []]⟩),
  (56, ⟨.sl 5, 1, 24, [.nils]⟩),
  (62, ⟨.arr 5 3, 5, 40, [.int .i64 0, .int .i64 0, .int .i64 0, .int .i64 0, .int .i64 0]⟩),
  (65, ⟨.sl 87, 1, 24, [.nils]⟩),
  (68, ⟨.sl 31, 1, 24, [.nils]⟩),
  (73, ⟨.st [(0, 42), (4, 3)], 5, 88, [.int .i64 0, .nils, .nils, .nils, .int .i64 0]⟩),
  (74, ⟨.st [(0, 42), (4, 3)], 5, 88, [.int .i64 0, .nils, .nils, .nils, .int .i64 0]⟩),
  (75, ⟨.sl 74, 1, 24, [.nils]⟩),
  (80, ⟨.st [(0, 4), (1, 9)], 2, 24, [.bool false, .str []]⟩),
  (81, ⟨.st [(0, 4), (1, 9)], 2, 24, [.bool false, .str []]⟩),
  (83, ⟨.st [(0, 22), (1, 3)], 2, 32, [.nils, .int .i64 0]⟩),
  (84, ⟨.st [(0, 22), (1, 3)], 2, 32, [.nils, .int .i64 0]⟩),
  (86, ⟨.st [(0, 45), (2, 45), (4, 3), (5, 3), (6, 3), (7, 3), (8, 3), (9, 3), (10, 3)], 11, 88, [.int .i64 0, .int .i64 0, .int .i64 0, .int .i64 0, .int .i64 0, .int .i64 0, .int .i64 0, .int .i64 0, .int .i64 0, .int .i64 0, .int .i64 0]⟩),
  (87, ⟨.st [(0, 45), (2, 45), (4, 3), (5, 3), (6, 3), (7, 3), (8, 3), (9, 3), (10, 3)], 11, 88, [.int .i64 0, .int .i64 0, .int .i64 0, .int .i64 0, .int .i64 0, .int .i64 0, .int .i64 0, .int .i64 0, .int .i64 0, .int .i64 0, .int .i64 0]⟩),
  (88, ⟨.st [(0, 45), (2, 45)], 4, 32, [.int .i64 0, .int .i64 0, .int .i64 0, .int .i64 0]⟩),
  (89, ⟨.st [(0, 45), (2, 45)], 4, 32, [.int .i64 0, .int .i64 0, .int .i64 0, .int .i64 0]⟩),
  (91, ⟨.sl 22, 1, 24, [.nils]⟩),
  (97, ⟨.map 3 3, 1, 8, [.nilm]⟩),
  (109, ⟨.fn, 1, 8, [.nilf]⟩),
  (111, ⟨.fn, 1, 8, [.nilf]⟩),
  (113, ⟨.sl 9, 1, 24, [.nils]⟩),
  (116, ⟨.sl 234, 1, 24, [.nils]⟩),
  (117, ⟨.st [(0, 4), (1, 116)], 2, 32, [.bool false, .nils]⟩),
  (118, ⟨.st [(0, 4), (1, 116)], 2, 32, [.bool false, .nils]⟩),
  (119, ⟨.st [(0, 118), (2, 118)], 4, 64, [.bool false, .nils, .bool false, .nils]⟩),
  (120, ⟨.st [(0, 118), (2, 118)], 4, 64, [.bool false, .nils, .bool false, .nils]⟩),
  (123, ⟨.map 3 29, 1, 8, [.nilm]⟩),
  (124, ⟨.map 3 29, 1, 8, [.nilm]⟩),
  (132, ⟨.sl 49, 1, 24, [.nils]⟩),
  (133, ⟨.st [(0, 31), (2, 40), (3, 132), (4, 3)], 5, 88, [.int .i64 0, .nils, .nils, .nils, .int .i64 0]⟩),
  (134, ⟨.st [(0, 31), (2, 40), (3, 132), (4, 3)], 5, 88, [.int .i64 0, .nils, .nils, .nils, .int .i64 0]⟩),
  (140, ⟨.st [(0, 3), (1, 3), (2, 3), (3, 22)], 4, 48, [.int .i64 0, .int .i64 0, .int .i64 0, .nils]⟩),
  (141, ⟨.st [(0, 3), (1, 3), (2, 3), (3, 22)], 4, 48, [.int .i64 0, .int .i64 0, .int .i64 0, .nils]⟩),
  (144, ⟨.sl 40, 1, 24, [.nils]⟩),
  (159, ⟨.ptr 91, 1, 8, [.nilp]⟩),
  (178, ⟨.map 3 4, 1, 8, [.nilm]⟩),
  (179, ⟨.fn, 1, 8, [.nilf]⟩),
  (183, ⟨.int .u64, 1, 8, [.int .u64 0]⟩),
  (190, ⟨.ptr 240, 1, 8, [.nilp]⟩),
  (195, ⟨.map 9 4, 1, 8, [.nilm]⟩),
  (202, ⟨.sl 204, 1, 24, [.nils]⟩),
  (204, ⟨.sl 4, 1, 24, [.nils]⟩),
  (209, ⟨.st [(0, 3), (1, 3), (2, 9), (3, 22)], 4, 56, [.int .i64 0, .int .i64 0, .str [], .nils]⟩),
  (210, ⟨.st [(0, 3), (1, 3), (2, 9), (3, 22)], 4, 56, [.int .i64 0, .int .i64 0, .str [], .nils]⟩),
  (212, ⟨.sl 210, 1, 24, [.nils]⟩),
  (222, ⟨.map 9 3, 1, 8, [.nilm]⟩),
  (227, ⟨.int .i64, 1, 8, [.int .i64 0]⟩),
  (234, ⟨.int .u32, 1, 4, [.int .u32 0]⟩),
  (236, ⟨.int .u64, 1, 8, [.int .u64 0]⟩),
  (238, ⟨.sl 242, 1, 24, [.nils]⟩),
  (239, ⟨.st [(0, 238)], 1, 24, [.nils]⟩),
  (240, ⟨.st [(0, 238)], 1, 24, [.nils]⟩),
  (241, ⟨.st [(0, 35), (3, 3), (4, 3), (5, 3), (6, 22), (7, 22), (8, 222)], 9, 128, [.int .i64 0, .str [], .nils, .int .i64 0, .int .i64 0, .int .i64 0, .nils, .nils, .nilm]⟩),
  (242, ⟨.st [(0, 35), (3, 3), (4, 3), (5, 3), (6, 22), (7, 22), (8, 222)], 9, 128, [.int .i64 0, .str [], .nils, .int .i64 0, .int .i64 0, .int .i64 0, .nils, .nils, .nilm]⟩),
  (244, ⟨.fn, 1, 8, [.nilf]⟩),
  (246, ⟨.sl 247, 1, 24, [.nils]⟩),
  (247, ⟨.map 9 22, 1, 8, [.nilm]⟩)]
set_option maxRecDepth 20000 in
theorem env : Env Tryz.prog T := ⟨table_cons tok2 (table_cons tok3 (table_cons tok4 (table_cons tok5 (table_cons tok6 (table_cons tok7 (table_cons tok8 (table_cons tok9 (table_cons tok10 (table_cons tok11 (table_cons tok12 (table_cons tok13 (table_cons tok14 (table_cons tok15 (table_cons tok16 (table_cons tok17 (table_cons tok18 (table_cons tok19 (table_cons tok20 (table_cons tok21 (table_cons tok22 (table_cons tok25 (table_cons tok27 (table_cons tok29 (table_cons tok30 (table_cons tok31 (table_cons tok33 (table_cons tok34 (table_cons tok35 (table_cons tok36 (table_cons tok39 (table_cons tok40 (table_cons tok41 (table_cons tok42 (table_cons tok44 (table_cons tok45 (table_cons tok49 (table_cons tok50 (table_cons tok51 (table_cons tok54 (table_cons tok55 (table_cons tok56 (table_cons tok62 (table_cons tok65 (table_cons tok68 (table_cons tok73 (table_cons tok74 (table_cons tok75 (table_cons tok80 (table_cons tok81 (table_cons tok83 (table_cons tok84 (table_cons tok86 (table_cons tok87 (table_cons tok88 (table_cons tok89 (table_cons tok91 (table_cons tok97 (table_cons tok109 (table_cons tok111 (table_cons tok113 (table_cons tok116 (table_cons tok117 (table_cons tok118 (table_cons tok119 (table_cons tok120 (table_cons tok123 (table_cons tok124 (table_cons tok132 (table_cons tok133 (table_cons tok134 (table_cons tok140 (table_cons tok141 (table_cons tok144 (table_cons tok159 (table_cons tok178 (table_cons tok179 (table_cons tok183 (table_cons tok190 (table_cons tok195 (table_cons tok202 (table_cons tok204 (table_cons tok209 (table_cons tok210 (table_cons tok212 (table_cons tok222 (table_cons tok227 (table_cons tok234 (table_cons tok236 (table_cons tok238 (table_cons tok239 (table_cons tok240 (table_cons tok241 (table_cons tok242 (table_cons tok244 (table_cons tok246 (table_cons tok247 (table_nil))))))))))))))))))))))))))))))))))))))))))))))))))))))))))))))))))))))))))))))))))))))))))))))))), by kernel_rfl⟩
end Go.Sx.Sp
namespace Go.Proofs
open Go.Shelf
def Tryz.laysValid_ren : Go.Shelf.Ren := ⟨fun | 196 => 216 | 259 => 243 | n => n, fun | 9 => 9 | 4 => 4 | 3 => 3 | 5 => 5 | 12 => 12 | 119 => 294 | 0 => 0 | 46 => 183 | 139 => 297 | 138 => 296 | 53 => 236 | n => n, fun | 3 => 0 | 4 => 1 | n => n⟩
theorem Tryz.laysValid : Go.Proofs.Lays.n196 Tryz.prog Tryz.laysValid_ren := {
  mixed := by kernel_rfl
  f196 := Tryz.func216.trans (congrArg some (by kernel_rfl))
  f259 := Tryz.func243.trans (congrArg some (by kernel_rfl))
  t0 := Tryz.underlying0
  a0 := Tryz.isAgg0
  z0 := Tryz.sizeOf0
  v0 := Tryz.zeroValue0
  t3 := Tryz.underlying3
  a3 := Tryz.isAgg3
  z3 := Tryz.sizeOf3
  v3 := Tryz.zeroValue3
  t4 := Tryz.underlying4
  a4 := Tryz.isAgg4
  z4 := Tryz.sizeOf4
  v4 := Tryz.zeroValue4
  t5 := Tryz.underlying5
  a5 := Tryz.isAgg5
  z5 := Tryz.sizeOf5
  v5 := Tryz.zeroValue5
  t9 := Tryz.underlying9
  a9 := Tryz.isAgg9
  z9 := Tryz.sizeOf9
  v9 := Tryz.zeroValue9
  t12 := Tryz.underlying12
  a12 := Tryz.isAgg12
  z12 := Tryz.sizeOf12
  v12 := Tryz.zeroValue12
  t46 := Tryz.underlying183
  a46 := Tryz.isAgg183
  z46 := Tryz.sizeOf183
  v46 := Tryz.zeroValue183
  t53 := Tryz.underlying236
  a53 := Tryz.isAgg236
  z53 := Tryz.sizeOf236
  v53 := Tryz.zeroValue236
  t119 := Tryz.underlying294
  a119 := Tryz.isAgg294
  z119 := Tryz.sizeOf294
  t138 := Tryz.underlying296
  a138 := Tryz.isAgg296
  z138 := Tryz.sizeOf296
  v138 := Tryz.zeroValue296
  t139 := Tryz.underlying297
  a139 := Tryz.isAgg297
  z139 := Tryz.sizeOf297
  v139 := Tryz.zeroValue297
  g3 := by kernel_rfl
  g4 := by kernel_rfl }
end Go.Proofs
namespace Go.Sx.Sp
open Go Go.Sx Go.Proofs Go.RowKit
def tabsOK (w : World) : Prop := Lib.Utf8Tabs 0 1 w
instance : Glob := ⟨tabsOK, [0, 1], False, fun w w' hs h => by
  have h0 := hs 0 (by simp)
  have h1 := hs 1 (by simp)
  refine ⟨fun c hc => ?_, fun i hi => ?_⟩
  · rw [cell?_of_heap h0]; exact h.1 c hc
  · rw [cell?_of_heap h1, cell?_of_heap h1]; exact h.2 i hi⟩
set_option maxRecDepth 1000000 in
theorem utf8_spec (s : List UInt8) : Spec Tryz.prog 216 [.str s] [] (.bool (Lib.validD s)) [] := by
  refine Spec.ofCalls (fun cargs w => enters_of Tryz.func216 (by kernel_rfl) rfl cargs w) fun w F m cargs hl ha hg => ?_
  match cargs, hl with
  | [c], _ =>
    obtain ⟨rfl, hs⟩ := (ha 0 (.str s) c rfl rfl).str_inv
    have hsz : (⟨s.toArray⟩ : ByteArray).size ≤ 9223372036854775807 := by
      have : maxLen = 9223372036854775807 := by unfold maxLen; rfl
      simpa [ByteArray.size, this] using hs
    refine (Any.utf8_ValidString Tryz.laysValid ⟨s.toArray⟩ w hsz hg).mono fun e w' ⟨he, hb⟩ => ?_
    exact ⟨_, he, fun w' F m => .bool _, hb, fun h => h.elim⟩
end Go.Sx.Sp
