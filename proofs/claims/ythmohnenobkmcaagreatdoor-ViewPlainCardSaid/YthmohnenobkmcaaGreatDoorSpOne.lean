/- Types of the program, and library functions. -/
import Derived.Test.YthmohnenobkmcaaGreatDoorSxThree
import Derived.Test.YthmohnenobkmcaaGreatDoorProg
import Derived.Test.YthmohnenobkmcaaGreatDoorSxFour
import Derived.Test.YthmohnenobkmcaaGreatDoorSxFive
import Derived.Shelf.Unicode.ValidAny
import Derived.Lib.LaidTab
set_option linter.unusedVariables false
set_option linter.unusedSimpArgs false
namespace Go.Sx.Sp
open Go Go.Sx Go.Proofs
theorem tok1 : TOK Tryz.prog 1 ⟨.fn, 1, 8, [.nilf]⟩ := tok_of (by kernel_rfl)
theorem tok2 : TOK Tryz.prog 2 ⟨.int .i64, 1, 8, [.int .i64 0]⟩ := tok_of (by kernel_rfl)
theorem tok3 : TOK Tryz.prog 3 ⟨.int .i64, 1, 8, [.int .i64 0]⟩ := tok_of (by kernel_rfl)
theorem tok4 : TOK Tryz.prog 4 ⟨.bool, 1, 1, [.bool false]⟩ := tok_of (by kernel_rfl)
theorem tok5 : TOK Tryz.prog 5 ⟨.int .u8, 1, 1, [.int .u8 0]⟩ := tok_of (by kernel_rfl)
theorem tok6 : TOK Tryz.prog 6 ⟨.int .u8, 1, 1, [.int .u8 0]⟩ := tok_of (by kernel_rfl)
theorem tok7 : TOK Tryz.prog 7 ⟨.st [(0, 2), (1, 3), (2, 4), (3, 6)], 4, 24, [.int .i64 0, .int .i64 0, .bool false, .int .u8 0]⟩ := tok_of (by kernel_rfl)
theorem tok8 : TOK Tryz.prog 8 ⟨.st [(0, 2), (1, 3), (2, 4), (3, 6)], 4, 24, [.int .i64 0, .int .i64 0, .bool false, .int .u8 0]⟩ := tok_of (by kernel_rfl)
theorem tok9 : TOK Tryz.prog 9 ⟨.str, 1, 16, [.str []]⟩ := tok_of (by kernel_rfl)
theorem tok10 : TOK Tryz.prog 10 ⟨.str, 1, 16, [.str []]⟩ := tok_of (by kernel_rfl)
theorem tok11 : TOK Tryz.prog 11 ⟨.str, 1, 16, [.str []]⟩ := tok_of (by kernel_rfl)
theorem tok12 : TOK Tryz.prog 12 ⟨.int .u64, 1, 8, [.int .u64 0]⟩ := tok_of (by kernel_rfl)
theorem tok13 : TOK Tryz.prog 13 ⟨.st [(0, 9), (1, 12)], 2, 24, [.str [], .int .u64 0]⟩ := tok_of (by kernel_rfl)
theorem tok14 : TOK Tryz.prog 14 ⟨.st [(0, 9), (1, 12)], 2, 24, [.str [], .int .u64 0]⟩ := tok_of (by kernel_rfl)
theorem tok15 : TOK Tryz.prog 15 ⟨.ptr 322, 1, 8, [.nilp]⟩ := tok_of (by kernel_rfl)
theorem tok16 : TOK Tryz.prog 16 ⟨.ptr 325, 1, 8, [.nilp]⟩ := tok_of (by kernel_rfl)
theorem tok17 : TOK Tryz.prog 17 ⟨.ptr 333, 1, 8, [.nilp]⟩ := tok_of (by kernel_rfl)
theorem tok18 : TOK Tryz.prog 18 ⟨.st [(0, 17)], 1, 8, [.nilp]⟩ := tok_of (by kernel_rfl)
theorem tok19 : TOK Tryz.prog 19 ⟨.st [(0, 17)], 1, 8, [.nilp]⟩ := tok_of (by kernel_rfl)
theorem tok20 : TOK Tryz.prog 20 ⟨.iface, 1, 16, [.nili]⟩ := tok_of (by kernel_rfl)
theorem tok21 : TOK Tryz.prog 21 ⟨.int .i32, 1, 4, [.int .i32 0]⟩ := tok_of (by kernel_rfl)
theorem tok22 : TOK Tryz.prog 22 ⟨.sl 3, 1, 24, [.nils]⟩ := tok_of (by kernel_rfl)
theorem tok23 : TOK Tryz.prog 23 ⟨.fn, 1, 8, [.nilf]⟩ := tok_of (by kernel_rfl)
theorem tok24 : TOK Tryz.prog 24 ⟨.fn, 1, 8, [.nilf]⟩ := tok_of (by kernel_rfl)
theorem tok25 : TOK Tryz.prog 25 ⟨.ptr 84, 1, 8, [.nilp]⟩ := tok_of (by kernel_rfl)
theorem tok26 : TOK Tryz.prog 26 ⟨.fn, 1, 8, [.nilf]⟩ := tok_of (by kernel_rfl)
theorem tok27 : TOK Tryz.prog 27 ⟨.sl 35, 1, 24, [.nils]⟩ := tok_of (by kernel_rfl)
theorem tok28 : TOK Tryz.prog 28 ⟨.fn, 1, 8, [.nilf]⟩ := tok_of (by kernel_rfl)
theorem tok29 : TOK Tryz.prog 29 ⟨.sl 89, 1, 24, [.nils]⟩ := tok_of (by kernel_rfl)
theorem tok30 : TOK Tryz.prog 30 ⟨.st [(0, 3), (1, 29)], 2, 32, [.int .i64 0, .nils]⟩ := tok_of (by kernel_rfl)
theorem tok31 : TOK Tryz.prog 31 ⟨.st [(0, 3), (1, 29)], 2, 32, [.int .i64 0, .nils]⟩ := tok_of (by kernel_rfl)
theorem tok32 : TOK Tryz.prog 32 ⟨.fn, 1, 8, [.nilf]⟩ := tok_of (by kernel_rfl)
theorem tok33 : TOK Tryz.prog 33 ⟨.sl 51, 1, 24, [.nils]⟩ := tok_of (by kernel_rfl)
theorem tok34 : TOK Tryz.prog 34 ⟨.st [(0, 3), (1, 9), (2, 33)], 3, 48, [.int .i64 0, .str [], .nils]⟩ := tok_of (by kernel_rfl)
theorem tok35 : TOK Tryz.prog 35 ⟨.st [(0, 3), (1, 9), (2, 33)], 3, 48, [.int .i64 0, .str [], .nils]⟩ := tok_of (by kernel_rfl)
theorem tok36 : TOK Tryz.prog 36 ⟨.int .i64, 1, 8, [.int .i64 0]⟩ := tok_of (by kernel_rfl)
theorem tok38 : TOK Tryz.prog 38 ⟨.fn, 1, 8, [.nilf]⟩ := tok_of (by kernel_rfl)
theorem tok39 : TOK Tryz.prog 39 ⟨.sl 55, 1, 24, [.nils]⟩ := tok_of (by kernel_rfl)
theorem tok40 : TOK Tryz.prog 40 ⟨.sl 45, 1, 24, [.nils]⟩ := tok_of (by kernel_rfl)
theorem tok41 : TOK Tryz.prog 41 ⟨.st [(0, 31), (2, 39), (3, 40)], 4, 80, [.int .i64 0, .nils, .nils, .nils]⟩ := tok_of (by kernel_rfl)
theorem tok42 : TOK Tryz.prog 42 ⟨.st [(0, 31), (2, 39), (3, 40)], 4, 80, [.int .i64 0, .nils, .nils, .nils]⟩ := tok_of (by kernel_rfl)
theorem tok43 : TOK Tryz.prog 43 ⟨.fn, 1, 8, [.nilf]⟩ := tok_of (by kernel_rfl)
theorem tok44 : TOK Tryz.prog 44 ⟨.st [(0, 3), (1, 3)], 2, 16, [.int .i64 0, .int .i64 0]⟩ := tok_of (by kernel_rfl)
theorem tok45 : TOK Tryz.prog 45 ⟨.st [(0, 3), (1, 3)], 2, 16, [.int .i64 0, .int .i64 0]⟩ := tok_of (by kernel_rfl)
theorem tok46 : TOK Tryz.prog 46 ⟨.fn, 1, 8, [.nilf]⟩ := tok_of (by kernel_rfl)
theorem tok47 : TOK Tryz.prog 47 ⟨.fn, 1, 8, [.nilf]⟩ := tok_of (by kernel_rfl)
theorem tok48 : TOK Tryz.prog 48 ⟨.fn, 1, 8, [.nilf]⟩ := tok_of (by kernel_rfl)
theorem tok49 : TOK Tryz.prog 49 ⟨.sl 81, 1, 24, [.nils]⟩ := tok_of (by kernel_rfl)
theorem tok50 : TOK Tryz.prog 50 ⟨.st [(0, 9), (1, 49)], 2, 40, [.str [], .nils]⟩ := tok_of (by kernel_rfl)
theorem tok51 : TOK Tryz.prog 51 ⟨.st [(0, 9), (1, 49)], 2, 40, [.str [], .nils]⟩ := tok_of (by kernel_rfl)
theorem tok52 : TOK Tryz.prog 52 ⟨.fn, 1, 8, [.nilf]⟩ := tok_of (by kernel_rfl)
theorem tok53 : TOK Tryz.prog 53 ⟨.fn, 1, 8, [.nilf]⟩ := tok_of (by kernel_rfl)
theorem tok54 : TOK Tryz.prog 54 ⟨.st [(0, 45), (2, 3), (3, 9)], 4, 40, [.int .i64 0, .int .i64 0, .int .i64 0, .str []]⟩ := tok_of (by kernel_rfl)
theorem tok55 : TOK Tryz.prog 55 ⟨.st [(0, 45), (2, 3), (3, 9)], 4, 40, [.int .i64 0, .int .i64 0, .int .i64 0, .str []]⟩ := tok_of (by kernel_rfl)
theorem tok56 : TOK Tryz.prog 56 ⟨.sl 5, 1, 24, [.nils]⟩ := tok_of (by kernel_rfl)
theorem tok58 : TOK Tryz.prog 58 ⟨.fn, 1, 8, [.nilf]⟩ := tok_of (by kernel_rfl)
theorem tok59 : TOK Tryz.prog 59 ⟨.fn, 1, 8, [.nilf]⟩ := tok_of (by kernel_rfl)
theorem tok60 : TOK Tryz.prog 60 ⟨.fn, 1, 8, [.nilf]⟩ := tok_of (by kernel_rfl)
theorem tok61 : TOK Tryz.prog 61 ⟨.fn, 1, 8, [.nilf]⟩ := tok_of (by kernel_rfl)
theorem tok62 : TOK Tryz.prog 62 ⟨.arr 5 3, 5, 40, [.int .i64 0, .int .i64 0, .int .i64 0, .int .i64 0, .int .i64 0]⟩ := tok_of (by kernel_rfl)
theorem tok63 : TOK Tryz.prog 63 ⟨.fn, 1, 8, [.nilf]⟩ := tok_of (by kernel_rfl)
theorem tok64 : TOK Tryz.prog 64 ⟨.fn, 1, 8, [.nilf]⟩ := tok_of (by kernel_rfl)
theorem tok65 : TOK Tryz.prog 65 ⟨.sl 87, 1, 24, [.nils]⟩ := tok_of (by kernel_rfl)
theorem tok66 : TOK Tryz.prog 66 ⟨.fn, 1, 8, [.nilf]⟩ := tok_of (by kernel_rfl)
theorem tok67 : TOK Tryz.prog 67 ⟨.fn, 1, 8, [.nilf]⟩ := tok_of (by kernel_rfl)
theorem tok68 : TOK Tryz.prog 68 ⟨.sl 31, 1, 24, [.nils]⟩ := tok_of (by kernel_rfl)
theorem tok70 : TOK Tryz.prog 70 ⟨.fn, 1, 8, [.nilf]⟩ := tok_of (by kernel_rfl)
theorem tok71 : TOK Tryz.prog 71 ⟨.fn, 1, 8, [.nilf]⟩ := tok_of (by kernel_rfl)
theorem tok72 : TOK Tryz.prog 72 ⟨.fn, 1, 8, [.nilf]⟩ := tok_of (by kernel_rfl)
theorem tok73 : TOK Tryz.prog 73 ⟨.st [(0, 42), (4, 3)], 5, 88, [.int .i64 0, .nils, .nils, .nils, .int .i64 0]⟩ := tok_of (by kernel_rfl)
theorem tok74 : TOK Tryz.prog 74 ⟨.st [(0, 42), (4, 3)], 5, 88, [.int .i64 0, .nils, .nils, .nils, .int .i64 0]⟩ := tok_of (by kernel_rfl)
theorem tok75 : TOK Tryz.prog 75 ⟨.sl 74, 1, 24, [.nils]⟩ := tok_of (by kernel_rfl)
theorem tok77 : TOK Tryz.prog 77 ⟨.fn, 1, 8, [.nilf]⟩ := tok_of (by kernel_rfl)
theorem tok78 : TOK Tryz.prog 78 ⟨.fn, 1, 8, [.nilf]⟩ := tok_of (by kernel_rfl)
theorem tok79 : TOK Tryz.prog 79 ⟨.fn, 1, 8, [.nilf]⟩ := tok_of (by kernel_rfl)
theorem tok80 : TOK Tryz.prog 80 ⟨.st [(0, 4), (1, 9)], 2, 24, [.bool false, .str []]⟩ := tok_of (by kernel_rfl)
theorem tok81 : TOK Tryz.prog 81 ⟨.st [(0, 4), (1, 9)], 2, 24, [.bool false, .str []]⟩ := tok_of (by kernel_rfl)
theorem tok82 : TOK Tryz.prog 82 ⟨.fn, 1, 8, [.nilf]⟩ := tok_of (by kernel_rfl)
theorem tok83 : TOK Tryz.prog 83 ⟨.st [(0, 22), (1, 3)], 2, 32, [.nils, .int .i64 0]⟩ := tok_of (by kernel_rfl)
theorem tok84 : TOK Tryz.prog 84 ⟨.st [(0, 22), (1, 3)], 2, 32, [.nils, .int .i64 0]⟩ := tok_of (by kernel_rfl)
theorem tok85 : TOK Tryz.prog 85 ⟨.fn, 1, 8, [.nilf]⟩ := tok_of (by kernel_rfl)
theorem tok86 : TOK Tryz.prog 86 ⟨.st [(0, 45), (2, 45), (4, 3), (5, 3), (6, 3), (7, 3), (8, 3), (9, 3), (10, 3)], 11, 88, [.int .i64 0, .int .i64 0, .int .i64 0, .int .i64 0, .int .i64 0, .int .i64 0, .int .i64 0, .int .i64 0, .int .i64 0, .int .i64 0, .int .i64 0]⟩ := tok_of (by kernel_rfl)
theorem tok87 : TOK Tryz.prog 87 ⟨.st [(0, 45), (2, 45), (4, 3), (5, 3), (6, 3), (7, 3), (8, 3), (9, 3), (10, 3)], 11, 88, [.int .i64 0, .int .i64 0, .int .i64 0, .int .i64 0, .int .i64 0, .int .i64 0, .int .i64 0, .int .i64 0, .int .i64 0, .int .i64 0, .int .i64 0]⟩ := tok_of (by kernel_rfl)
theorem tok88 : TOK Tryz.prog 88 ⟨.st [(0, 45), (2, 45)], 4, 32, [.int .i64 0, .int .i64 0, .int .i64 0, .int .i64 0]⟩ := tok_of (by kernel_rfl)
theorem tok89 : TOK Tryz.prog 89 ⟨.st [(0, 45), (2, 45)], 4, 32, [.int .i64 0, .int .i64 0, .int .i64 0, .int .i64 0]⟩ := tok_of (by kernel_rfl)
theorem tok90 : TOK Tryz.prog 90 ⟨.fn, 1, 8, [.nilf]⟩ := tok_of (by kernel_rfl)
theorem tok91 : TOK Tryz.prog 91 ⟨.sl 22, 1, 24, [.nils]⟩ := tok_of (by kernel_rfl)
theorem tok93 : TOK Tryz.prog 93 ⟨.fn, 1, 8, [.nilf]⟩ := tok_of (by kernel_rfl)
theorem tok94 : TOK Tryz.prog 94 ⟨.fn, 1, 8, [.nilf]⟩ := tok_of (by kernel_rfl)
theorem tok96 : TOK Tryz.prog 96 ⟨.fn, 1, 8, [.nilf]⟩ := tok_of (by kernel_rfl)
theorem tok97 : TOK Tryz.prog 97 ⟨.map 3 3, 1, 8, [.nilm]⟩ := tok_of (by kernel_rfl)
theorem tok99 : TOK Tryz.prog 99 ⟨.fn, 1, 8, [.nilf]⟩ := tok_of (by kernel_rfl)
theorem tok101 : TOK Tryz.prog 101 ⟨.fn, 1, 8, [.nilf]⟩ := tok_of (by kernel_rfl)
theorem tok102 : TOK Tryz.prog 102 ⟨.fn, 1, 8, [.nilf]⟩ := tok_of (by kernel_rfl)
theorem tok103 : TOK Tryz.prog 103 ⟨.fn, 1, 8, [.nilf]⟩ := tok_of (by kernel_rfl)
theorem tok105 : TOK Tryz.prog 105 ⟨.fn, 1, 8, [.nilf]⟩ := tok_of (by kernel_rfl)
theorem tok106 : TOK Tryz.prog 106 ⟨.fn, 1, 8, [.nilf]⟩ := tok_of (by kernel_rfl)
theorem tok107 : TOK Tryz.prog 107 ⟨.fn, 1, 8, [.nilf]⟩ := tok_of (by kernel_rfl)
theorem tok108 : TOK Tryz.prog 108 ⟨.fn, 1, 8, [.nilf]⟩ := tok_of (by kernel_rfl)
theorem tok109 : TOK Tryz.prog 109 ⟨.fn, 1, 8, [.nilf]⟩ := tok_of (by kernel_rfl)
theorem tok110 : TOK Tryz.prog 110 ⟨.fn, 1, 8, [.nilf]⟩ := tok_of (by kernel_rfl)
theorem tok111 : TOK Tryz.prog 111 ⟨.fn, 1, 8, [.nilf]⟩ := tok_of (by kernel_rfl)
theorem tok112 : TOK Tryz.prog 112 ⟨.fn, 1, 8, [.nilf]⟩ := tok_of (by kernel_rfl)
theorem tok113 : TOK Tryz.prog 113 ⟨.sl 9, 1, 24, [.nils]⟩ := tok_of (by kernel_rfl)
theorem tok115 : TOK Tryz.prog 115 ⟨.fn, 1, 8, [.nilf]⟩ := tok_of (by kernel_rfl)
theorem tok116 : TOK Tryz.prog 116 ⟨.sl 234, 1, 24, [.nils]⟩ := tok_of (by kernel_rfl)
theorem tok117 : TOK Tryz.prog 117 ⟨.st [(0, 4), (1, 116)], 2, 32, [.bool false, .nils]⟩ := tok_of (by kernel_rfl)
theorem tok118 : TOK Tryz.prog 118 ⟨.st [(0, 4), (1, 116)], 2, 32, [.bool false, .nils]⟩ := tok_of (by kernel_rfl)
theorem tok119 : TOK Tryz.prog 119 ⟨.st [(0, 118), (2, 118)], 4, 64, [.bool false, .nils, .bool false, .nils]⟩ := tok_of (by kernel_rfl)
theorem tok120 : TOK Tryz.prog 120 ⟨.st [(0, 118), (2, 118)], 4, 64, [.bool false, .nils, .bool false, .nils]⟩ := tok_of (by kernel_rfl)
theorem tok121 : TOK Tryz.prog 121 ⟨.fn, 1, 8, [.nilf]⟩ := tok_of (by kernel_rfl)
theorem tok122 : TOK Tryz.prog 122 ⟨.fn, 1, 8, [.nilf]⟩ := tok_of (by kernel_rfl)
theorem tok123 : TOK Tryz.prog 123 ⟨.map 3 29, 1, 8, [.nilm]⟩ := tok_of (by kernel_rfl)
theorem tok124 : TOK Tryz.prog 124 ⟨.map 3 29, 1, 8, [.nilm]⟩ := tok_of (by kernel_rfl)
theorem tok125 : TOK Tryz.prog 125 ⟨.fn, 1, 8, [.nilf]⟩ := tok_of (by kernel_rfl)
theorem tok126 : TOK Tryz.prog 126 ⟨.fn, 1, 8, [.nilf]⟩ := tok_of (by kernel_rfl)
theorem tok127 : TOK Tryz.prog 127 ⟨.fn, 1, 8, [.nilf]⟩ := tok_of (by kernel_rfl)
theorem tok128 : TOK Tryz.prog 128 ⟨.fn, 1, 8, [.nilf]⟩ := tok_of (by kernel_rfl)
theorem tok129 : TOK Tryz.prog 129 ⟨.fn, 1, 8, [.nilf]⟩ := tok_of (by kernel_rfl)
theorem tok130 : TOK Tryz.prog 130 ⟨.fn, 1, 8, [.nilf]⟩ := tok_of (by kernel_rfl)
theorem tok131 : TOK Tryz.prog 131 ⟨.fn, 1, 8, [.nilf]⟩ := tok_of (by kernel_rfl)
theorem tok132 : TOK Tryz.prog 132 ⟨.sl 49, 1, 24, [.nils]⟩ := tok_of (by kernel_rfl)
theorem tok133 : TOK Tryz.prog 133 ⟨.st [(0, 31), (2, 40), (3, 132), (4, 3)], 5, 88, [.int .i64 0, .nils, .nils, .nils, .int .i64 0]⟩ := tok_of (by kernel_rfl)
theorem tok134 : TOK Tryz.prog 134 ⟨.st [(0, 31), (2, 40), (3, 132), (4, 3)], 5, 88, [.int .i64 0, .nils, .nils, .nils, .int .i64 0]⟩ := tok_of (by kernel_rfl)
theorem tok136 : TOK Tryz.prog 136 ⟨.fn, 1, 8, [.nilf]⟩ := tok_of (by kernel_rfl)
theorem tok137 : TOK Tryz.prog 137 ⟨.fn, 1, 8, [.nilf]⟩ := tok_of (by kernel_rfl)
theorem tok138 : TOK Tryz.prog 138 ⟨.fn, 1, 8, [.nilf]⟩ := tok_of (by kernel_rfl)
theorem tok139 : TOK Tryz.prog 139 ⟨.fn, 1, 8, [.nilf]⟩ := tok_of (by kernel_rfl)
theorem tok140 : TOK Tryz.prog 140 ⟨.st [(0, 3), (1, 3), (2, 3), (3, 22)], 4, 48, [.int .i64 0, .int .i64 0, .int .i64 0, .nils]⟩ := tok_of (by kernel_rfl)
theorem tok141 : TOK Tryz.prog 141 ⟨.st [(0, 3), (1, 3), (2, 3), (3, 22)], 4, 48, [.int .i64 0, .int .i64 0, .int .i64 0, .nils]⟩ := tok_of (by kernel_rfl)
theorem tok143 : TOK Tryz.prog 143 ⟨.fn, 1, 8, [.nilf]⟩ := tok_of (by kernel_rfl)
theorem tok144 : TOK Tryz.prog 144 ⟨.sl 40, 1, 24, [.nils]⟩ := tok_of (by kernel_rfl)
theorem tok145 : TOK Tryz.prog 145 ⟨.fn, 1, 8, [.nilf]⟩ := tok_of (by kernel_rfl)
theorem tok146 : TOK Tryz.prog 146 ⟨.fn, 1, 8, [.nilf]⟩ := tok_of (by kernel_rfl)
theorem tok147 : TOK Tryz.prog 147 ⟨.fn, 1, 8, [.nilf]⟩ := tok_of (by kernel_rfl)
theorem tok148 : TOK Tryz.prog 148 ⟨.fn, 1, 8, [.nilf]⟩ := tok_of (by kernel_rfl)
theorem tok149 : TOK Tryz.prog 149 ⟨.fn, 1, 8, [.nilf]⟩ := tok_of (by kernel_rfl)
theorem tok150 : TOK Tryz.prog 150 ⟨.fn, 1, 8, [.nilf]⟩ := tok_of (by kernel_rfl)
theorem tok151 : TOK Tryz.prog 151 ⟨.fn, 1, 8, [.nilf]⟩ := tok_of (by kernel_rfl)
theorem tok152 : TOK Tryz.prog 152 ⟨.fn, 1, 8, [.nilf]⟩ := tok_of (by kernel_rfl)
theorem tok153 : TOK Tryz.prog 153 ⟨.fn, 1, 8, [.nilf]⟩ := tok_of (by kernel_rfl)
theorem tok154 : TOK Tryz.prog 154 ⟨.fn, 1, 8, [.nilf]⟩ := tok_of (by kernel_rfl)
theorem tok155 : TOK Tryz.prog 155 ⟨.fn, 1, 8, [.nilf]⟩ := tok_of (by kernel_rfl)
theorem tok156 : TOK Tryz.prog 156 ⟨.fn, 1, 8, [.nilf]⟩ := tok_of (by kernel_rfl)
theorem tok157 : TOK Tryz.prog 157 ⟨.fn, 1, 8, [.nilf]⟩ := tok_of (by kernel_rfl)
theorem tok158 : TOK Tryz.prog 158 ⟨.fn, 1, 8, [.nilf]⟩ := tok_of (by kernel_rfl)
theorem tok159 : TOK Tryz.prog 159 ⟨.ptr 91, 1, 8, [.nilp]⟩ := tok_of (by kernel_rfl)
theorem tok160 : TOK Tryz.prog 160 ⟨.fn, 1, 8, [.nilf]⟩ := tok_of (by kernel_rfl)
theorem tok161 : TOK Tryz.prog 161 ⟨.fn, 1, 8, [.nilf]⟩ := tok_of (by kernel_rfl)
theorem tok162 : TOK Tryz.prog 162 ⟨.fn, 1, 8, [.nilf]⟩ := tok_of (by kernel_rfl)
theorem tok163 : TOK Tryz.prog 163 ⟨.fn, 1, 8, [.nilf]⟩ := tok_of (by kernel_rfl)
theorem tok164 : TOK Tryz.prog 164 ⟨.fn, 1, 8, [.nilf]⟩ := tok_of (by kernel_rfl)
theorem tok165 : TOK Tryz.prog 165 ⟨.fn, 1, 8, [.nilf]⟩ := tok_of (by kernel_rfl)
theorem tok166 : TOK Tryz.prog 166 ⟨.fn, 1, 8, [.nilf]⟩ := tok_of (by kernel_rfl)
theorem tok167 : TOK Tryz.prog 167 ⟨.fn, 1, 8, [.nilf]⟩ := tok_of (by kernel_rfl)
theorem tok168 : TOK Tryz.prog 168 ⟨.fn, 1, 8, [.nilf]⟩ := tok_of (by kernel_rfl)
theorem tok169 : TOK Tryz.prog 169 ⟨.fn, 1, 8, [.nilf]⟩ := tok_of (by kernel_rfl)
theorem tok170 : TOK Tryz.prog 170 ⟨.fn, 1, 8, [.nilf]⟩ := tok_of (by kernel_rfl)
theorem tok171 : TOK Tryz.prog 171 ⟨.fn, 1, 8, [.nilf]⟩ := tok_of (by kernel_rfl)
theorem tok173 : TOK Tryz.prog 173 ⟨.fn, 1, 8, [.nilf]⟩ := tok_of (by kernel_rfl)
theorem tok174 : TOK Tryz.prog 174 ⟨.fn, 1, 8, [.nilf]⟩ := tok_of (by kernel_rfl)
theorem tok175 : TOK Tryz.prog 175 ⟨.fn, 1, 8, [.nilf]⟩ := tok_of (by kernel_rfl)
theorem tok176 : TOK Tryz.prog 176 ⟨.fn, 1, 8, [.nilf]⟩ := tok_of (by kernel_rfl)
theorem tok177 : TOK Tryz.prog 177 ⟨.fn, 1, 8, [.nilf]⟩ := tok_of (by kernel_rfl)
theorem tok178 : TOK Tryz.prog 178 ⟨.map 3 4, 1, 8, [.nilm]⟩ := tok_of (by kernel_rfl)
theorem tok179 : TOK Tryz.prog 179 ⟨.fn, 1, 8, [.nilf]⟩ := tok_of (by kernel_rfl)
theorem tok181 : TOK Tryz.prog 181 ⟨.fn, 1, 8, [.nilf]⟩ := tok_of (by kernel_rfl)
theorem tok182 : TOK Tryz.prog 182 ⟨.fn, 1, 8, [.nilf]⟩ := tok_of (by kernel_rfl)
theorem tok183 : TOK Tryz.prog 183 ⟨.int .u64, 1, 8, [.int .u64 0]⟩ := tok_of (by kernel_rfl)
theorem tok184 : TOK Tryz.prog 184 ⟨.fn, 1, 8, [.nilf]⟩ := tok_of (by kernel_rfl)
theorem tok185 : TOK Tryz.prog 185 ⟨.fn, 1, 8, [.nilf]⟩ := tok_of (by kernel_rfl)
theorem tok186 : TOK Tryz.prog 186 ⟨.fn, 1, 8, [.nilf]⟩ := tok_of (by kernel_rfl)
theorem tok187 : TOK Tryz.prog 187 ⟨.fn, 1, 8, [.nilf]⟩ := tok_of (by kernel_rfl)
theorem tok188 : TOK Tryz.prog 188 ⟨.fn, 1, 8, [.nilf]⟩ := tok_of (by kernel_rfl)
theorem tok189 : TOK Tryz.prog 189 ⟨.fn, 1, 8, [.nilf]⟩ := tok_of (by kernel_rfl)
theorem tok190 : TOK Tryz.prog 190 ⟨.ptr 240, 1, 8, [.nilp]⟩ := tok_of (by kernel_rfl)
theorem tok191 : TOK Tryz.prog 191 ⟨.fn, 1, 8, [.nilf]⟩ := tok_of (by kernel_rfl)
theorem tok192 : TOK Tryz.prog 192 ⟨.fn, 1, 8, [.nilf]⟩ := tok_of (by kernel_rfl)
theorem tok193 : TOK Tryz.prog 193 ⟨.fn, 1, 8, [.nilf]⟩ := tok_of (by kernel_rfl)
theorem tok194 : TOK Tryz.prog 194 ⟨.fn, 1, 8, [.nilf]⟩ := tok_of (by kernel_rfl)
theorem tok195 : TOK Tryz.prog 195 ⟨.map 9 4, 1, 8, [.nilm]⟩ := tok_of (by kernel_rfl)
theorem tok196 : TOK Tryz.prog 196 ⟨.fn, 1, 8, [.nilf]⟩ := tok_of (by kernel_rfl)
theorem tok197 : TOK Tryz.prog 197 ⟨.fn, 1, 8, [.nilf]⟩ := tok_of (by kernel_rfl)
theorem tok198 : TOK Tryz.prog 198 ⟨.fn, 1, 8, [.nilf]⟩ := tok_of (by kernel_rfl)
theorem tok199 : TOK Tryz.prog 199 ⟨.fn, 1, 8, [.nilf]⟩ := tok_of (by kernel_rfl)
theorem tok201 : TOK Tryz.prog 201 ⟨.fn, 1, 8, [.nilf]⟩ := tok_of (by kernel_rfl)
theorem tok202 : TOK Tryz.prog 202 ⟨.sl 204, 1, 24, [.nils]⟩ := tok_of (by kernel_rfl)
theorem tok203 : TOK Tryz.prog 203 ⟨.fn, 1, 8, [.nilf]⟩ := tok_of (by kernel_rfl)
theorem tok204 : TOK Tryz.prog 204 ⟨.sl 4, 1, 24, [.nils]⟩ := tok_of (by kernel_rfl)
theorem tok205 : TOK Tryz.prog 205 ⟨.fn, 1, 8, [.nilf]⟩ := tok_of (by kernel_rfl)
theorem tok206 : TOK Tryz.prog 206 ⟨.fn, 1, 8, [.nilf]⟩ := tok_of (by kernel_rfl)
theorem tok207 : TOK Tryz.prog 207 ⟨.fn, 1, 8, [.nilf]⟩ := tok_of (by kernel_rfl)
theorem tok208 : TOK Tryz.prog 208 ⟨.fn, 1, 8, [.nilf]⟩ := tok_of (by kernel_rfl)
theorem tok209 : TOK Tryz.prog 209 ⟨.st [(0, 3), (1, 3), (2, 9), (3, 22)], 4, 56, [.int .i64 0, .int .i64 0, .str [], .nils]⟩ := tok_of (by kernel_rfl)
theorem tok210 : TOK Tryz.prog 210 ⟨.st [(0, 3), (1, 3), (2, 9), (3, 22)], 4, 56, [.int .i64 0, .int .i64 0, .str [], .nils]⟩ := tok_of (by kernel_rfl)
theorem tok211 : TOK Tryz.prog 211 ⟨.fn, 1, 8, [.nilf]⟩ := tok_of (by kernel_rfl)
theorem tok212 : TOK Tryz.prog 212 ⟨.sl 210, 1, 24, [.nils]⟩ := tok_of (by kernel_rfl)
theorem tok213 : TOK Tryz.prog 213 ⟨.fn, 1, 8, [.nilf]⟩ := tok_of (by kernel_rfl)
theorem tok215 : TOK Tryz.prog 215 ⟨.fn, 1, 8, [.nilf]⟩ := tok_of (by kernel_rfl)
theorem tok216 : TOK Tryz.prog 216 ⟨.fn, 1, 8, [.nilf]⟩ := tok_of (by kernel_rfl)
theorem tok217 : TOK Tryz.prog 217 ⟨.fn, 1, 8, [.nilf]⟩ := tok_of (by kernel_rfl)
theorem tok218 : TOK Tryz.prog 218 ⟨.fn, 1, 8, [.nilf]⟩ := tok_of (by kernel_rfl)
theorem tok219 : TOK Tryz.prog 219 ⟨.fn, 1, 8, [.nilf]⟩ := tok_of (by kernel_rfl)
theorem tok220 : TOK Tryz.prog 220 ⟨.fn, 1, 8, [.nilf]⟩ := tok_of (by kernel_rfl)
theorem tok221 : TOK Tryz.prog 221 ⟨.fn, 1, 8, [.nilf]⟩ := tok_of (by kernel_rfl)
theorem tok222 : TOK Tryz.prog 222 ⟨.map 9 3, 1, 8, [.nilm]⟩ := tok_of (by kernel_rfl)
theorem tok223 : TOK Tryz.prog 223 ⟨.fn, 1, 8, [.nilf]⟩ := tok_of (by kernel_rfl)
theorem tok224 : TOK Tryz.prog 224 ⟨.fn, 1, 8, [.nilf]⟩ := tok_of (by kernel_rfl)
theorem tok225 : TOK Tryz.prog 225 ⟨.fn, 1, 8, [.nilf]⟩ := tok_of (by kernel_rfl)
theorem tok226 : TOK Tryz.prog 226 ⟨.fn, 1, 8, [.nilf]⟩ := tok_of (by kernel_rfl)
theorem tok227 : TOK Tryz.prog 227 ⟨.int .i64, 1, 8, [.int .i64 0]⟩ := tok_of (by kernel_rfl)
theorem tok229 : TOK Tryz.prog 229 ⟨.fn, 1, 8, [.nilf]⟩ := tok_of (by kernel_rfl)
theorem tok230 : TOK Tryz.prog 230 ⟨.fn, 1, 8, [.nilf]⟩ := tok_of (by kernel_rfl)
theorem tok231 : TOK Tryz.prog 231 ⟨.fn, 1, 8, [.nilf]⟩ := tok_of (by kernel_rfl)
theorem tok232 : TOK Tryz.prog 232 ⟨.fn, 1, 8, [.nilf]⟩ := tok_of (by kernel_rfl)
theorem tok233 : TOK Tryz.prog 233 ⟨.fn, 1, 8, [.nilf]⟩ := tok_of (by kernel_rfl)
theorem tok234 : TOK Tryz.prog 234 ⟨.int .u32, 1, 4, [.int .u32 0]⟩ := tok_of (by kernel_rfl)
theorem tok235 : TOK Tryz.prog 235 ⟨.fn, 1, 8, [.nilf]⟩ := tok_of (by kernel_rfl)
theorem tok236 : TOK Tryz.prog 236 ⟨.int .u64, 1, 8, [.int .u64 0]⟩ := tok_of (by kernel_rfl)
theorem tok237 : TOK Tryz.prog 237 ⟨.fn, 1, 8, [.nilf]⟩ := tok_of (by kernel_rfl)
theorem tok238 : TOK Tryz.prog 238 ⟨.sl 242, 1, 24, [.nils]⟩ := tok_of (by kernel_rfl)
theorem tok239 : TOK Tryz.prog 239 ⟨.st [(0, 238)], 1, 24, [.nils]⟩ := tok_of (by kernel_rfl)
theorem tok240 : TOK Tryz.prog 240 ⟨.st [(0, 238)], 1, 24, [.nils]⟩ := tok_of (by kernel_rfl)
theorem tok241 : TOK Tryz.prog 241 ⟨.st [(0, 35), (3, 3), (4, 3), (5, 3), (6, 22), (7, 22), (8, 222)], 9, 128, [.int .i64 0, .str [], .nils, .int .i64 0, .int .i64 0, .int .i64 0, .nils, .nils, .nilm]⟩ := tok_of (by kernel_rfl)
theorem tok242 : TOK Tryz.prog 242 ⟨.st [(0, 35), (3, 3), (4, 3), (5, 3), (6, 22), (7, 22), (8, 222)], 9, 128, [.int .i64 0, .str [], .nils, .int .i64 0, .int .i64 0, .int .i64 0, .nils, .nils, .nilm]⟩ := tok_of (by kernel_rfl)
theorem tok243 : TOK Tryz.prog 243 ⟨.fn, 1, 8, [.nilf]⟩ := tok_of (by kernel_rfl)
theorem tok244 : TOK Tryz.prog 244 ⟨.fn, 1, 8, [.nilf]⟩ := tok_of (by kernel_rfl)
theorem tok245 : TOK Tryz.prog 245 ⟨.fn, 1, 8, [.nilf]⟩ := tok_of (by kernel_rfl)
theorem tok246 : TOK Tryz.prog 246 ⟨.sl 247, 1, 24, [.nils]⟩ := tok_of (by kernel_rfl)
theorem tok247 : TOK Tryz.prog 247 ⟨.map 9 22, 1, 8, [.nilm]⟩ := tok_of (by kernel_rfl)
theorem tok248 : TOK Tryz.prog 248 ⟨.fn, 1, 8, [.nilf]⟩ := tok_of (by kernel_rfl)
theorem tok249 : TOK Tryz.prog 249 ⟨.fn, 1, 8, [.nilf]⟩ := tok_of (by kernel_rfl)
theorem tok250 : TOK Tryz.prog 250 ⟨.fn, 1, 8, [.nilf]⟩ := tok_of (by kernel_rfl)
theorem tok251 : TOK Tryz.prog 251 ⟨.fn, 1, 8, [.nilf]⟩ := tok_of (by kernel_rfl)
theorem tok252 : TOK Tryz.prog 252 ⟨.fn, 1, 8, [.nilf]⟩ := tok_of (by kernel_rfl)
theorem tok253 : TOK Tryz.prog 253 ⟨.fn, 1, 8, [.nilf]⟩ := tok_of (by kernel_rfl)
theorem tok254 : TOK Tryz.prog 254 ⟨.fn, 1, 8, [.nilf]⟩ := tok_of (by kernel_rfl)
theorem tok255 : TOK Tryz.prog 255 ⟨.fn, 1, 8, [.nilf]⟩ := tok_of (by kernel_rfl)
theorem tok256 : TOK Tryz.prog 256 ⟨.fn, 1, 8, [.nilf]⟩ := tok_of (by kernel_rfl)
theorem tok257 : TOK Tryz.prog 257 ⟨.fn, 1, 8, [.nilf]⟩ := tok_of (by kernel_rfl)
theorem tok258 : TOK Tryz.prog 258 ⟨.fn, 1, 8, [.nilf]⟩ := tok_of (by kernel_rfl)
theorem tok259 : TOK Tryz.prog 259 ⟨.fn, 1, 8, [.nilf]⟩ := tok_of (by kernel_rfl)
theorem tok261 : TOK Tryz.prog 261 ⟨.fn, 1, 8, [.nilf]⟩ := tok_of (by kernel_rfl)
theorem tok262 : TOK Tryz.prog 262 ⟨.fn, 1, 8, [.nilf]⟩ := tok_of (by kernel_rfl)
theorem tok263 : TOK Tryz.prog 263 ⟨.fn, 1, 8, [.nilf]⟩ := tok_of (by kernel_rfl)
theorem tok264 : TOK Tryz.prog 264 ⟨.fn, 1, 8, [.nilf]⟩ := tok_of (by kernel_rfl)
theorem tok265 : TOK Tryz.prog 265 ⟨.fn, 1, 8, [.nilf]⟩ := tok_of (by kernel_rfl)
theorem tok266 : TOK Tryz.prog 266 ⟨.fn, 1, 8, [.nilf]⟩ := tok_of (by kernel_rfl)
theorem tok267 : TOK Tryz.prog 267 ⟨.int .u64, 1, 8, [.int .u64 0]⟩ := tok_of (by kernel_rfl)
theorem tok268 : TOK Tryz.prog 268 ⟨.fn, 1, 8, [.nilf]⟩ := tok_of (by kernel_rfl)
theorem tok269 : TOK Tryz.prog 269 ⟨.fn, 1, 8, [.nilf]⟩ := tok_of (by kernel_rfl)
theorem tok270 : TOK Tryz.prog 270 ⟨.fn, 1, 8, [.nilf]⟩ := tok_of (by kernel_rfl)
theorem tok271 : TOK Tryz.prog 271 ⟨.ptr 3, 1, 8, [.nilp]⟩ := tok_of (by kernel_rfl)
theorem tok272 : TOK Tryz.prog 272 ⟨.fn, 1, 8, [.nilf]⟩ := tok_of (by kernel_rfl)
theorem tok273 : TOK Tryz.prog 273 ⟨.fn, 1, 8, [.nilf]⟩ := tok_of (by kernel_rfl)
theorem tok274 : TOK Tryz.prog 274 ⟨.ptr 242, 1, 8, [.nilp]⟩ := tok_of (by kernel_rfl)
theorem tok275 : TOK Tryz.prog 275 ⟨.fn, 1, 8, [.nilf]⟩ := tok_of (by kernel_rfl)
theorem tok276 : TOK Tryz.prog 276 ⟨.fn, 1, 8, [.nilf]⟩ := tok_of (by kernel_rfl)
theorem tok277 : TOK Tryz.prog 277 ⟨.fn, 1, 8, [.nilf]⟩ := tok_of (by kernel_rfl)
theorem tok278 : TOK Tryz.prog 278 ⟨.fn, 1, 8, [.nilf]⟩ := tok_of (by kernel_rfl)
theorem tok279 : TOK Tryz.prog 279 ⟨.fn, 1, 8, [.nilf]⟩ := tok_of (by kernel_rfl)
theorem tok280 : TOK Tryz.prog 280 ⟨.fn, 1, 8, [.nilf]⟩ := tok_of (by kernel_rfl)
theorem tok281 : TOK Tryz.prog 281 ⟨.fn, 1, 8, [.nilf]⟩ := tok_of (by kernel_rfl)
theorem tok282 : TOK Tryz.prog 282 ⟨.fn, 1, 8, [.nilf]⟩ := tok_of (by kernel_rfl)
theorem tok283 : TOK Tryz.prog 283 ⟨.fn, 1, 8, [.nilf]⟩ := tok_of (by kernel_rfl)
theorem tok284 : TOK Tryz.prog 284 ⟨.fn, 1, 8, [.nilf]⟩ := tok_of (by kernel_rfl)
theorem tok285 : TOK Tryz.prog 285 ⟨.fn, 1, 8, [.nilf]⟩ := tok_of (by kernel_rfl)
theorem tok286 : TOK Tryz.prog 286 ⟨.fn, 1, 8, [.nilf]⟩ := tok_of (by kernel_rfl)
theorem tok287 : TOK Tryz.prog 287 ⟨.fn, 1, 8, [.nilf]⟩ := tok_of (by kernel_rfl)
theorem tok288 : TOK Tryz.prog 288 ⟨.fn, 1, 8, [.nilf]⟩ := tok_of (by kernel_rfl)
theorem tok289 : TOK Tryz.prog 289 ⟨.fn, 1, 8, [.nilf]⟩ := tok_of (by kernel_rfl)
theorem tok290 : TOK Tryz.prog 290 ⟨.ptr 267, 1, 8, [.nilp]⟩ := tok_of (by kernel_rfl)
theorem tok292 : TOK Tryz.prog 292 ⟨.fn, 1, 8, [.nilf]⟩ := tok_of (by kernel_rfl)
theorem tok293 : TOK Tryz.prog 293 ⟨.fn, 1, 8, [.nilf]⟩ := tok_of (by kernel_rfl)
theorem tok294 : TOK Tryz.prog 294 ⟨.arr 256 5, 256, 256, [.int .u8 0, .int .u8 0, .int .u8 0, .int .u8 0, .int .u8 0, .int .u8 0, .int .u8 0, .int .u8 0, .int .u8 0, .int .u8 0, .int .u8 0, .int .u8 0, .int .u8 0, .int .u8 0, .int .u8 0, .int .u8 0, .int .u8 0, .int .u8 0, .int .u8 0, .int .u8 0, .int .u8 0, .int .u8 0, .int .u8 0, .int .u8 0, .int .u8 0, .int .u8 0, .int .u8 0, .int .u8 0, .int .u8 0, .int .u8 0, .int .u8 0, .int .u8 0, .int .u8 0, .int .u8 0, .int .u8 0, .int .u8 0, .int .u8 0, .int .u8 0, .int .u8 0, .int .u8 0, .int .u8 0, .int .u8 0, .int .u8 0, .int .u8 0, .int .u8 0, .int .u8 0, .int .u8 0, .int .u8 0, .int .u8 0, .int .u8 0, .int .u8 0, .int .u8 0, .int .u8 0, .int .u8 0, .int .u8 0, .int .u8 0, .int .u8 0, .int .u8 0, .int .u8 0, .int .u8 0, .int .u8 0, .int .u8 0, .int .u8 0, .int .u8 0, .int .u8 0, .int .u8 0, .int .u8 0, .int .u8 0, .int .u8 0, .int .u8 0, .int .u8 0, .int .u8 0, .int .u8 0, .int .u8 0, .int .u8 0, .int .u8 0, .int .u8 0, .int .u8 0, .int .u8 0, .int .u8 0, .int .u8 0, .int .u8 0, .int .u8 0, .int .u8 0, .int .u8 0, .int .u8 0, .int .u8 0, .int .u8 0, .int .u8 0, .int .u8 0, .int .u8 0, .int .u8 0, .int .u8 0, .int .u8 0, .int .u8 0, .int .u8 0, .int .u8 0, .int .u8 0, .int .u8 0, .int .u8 0, .int .u8 0, .int .u8 0, .int .u8 0, .int .u8 0, .int .u8 0, .int .u8 0, .int .u8 0, .int .u8 0, .int .u8 0, .int .u8 0, .int .u8 0, .int .u8 0, .int .u8 0, .int .u8 0, .int .u8 0, .int .u8 0, .int .u8 0, .int .u8 0, .int .u8 0, .int .u8 0, .int .u8 0, .int .u8 0, .int .u8 0, .int .u8 0, .int .u8 0, .int .u8 0, .int .u8 0, .int .u8 0, .int .u8 0, .int .u8 0, .int .u8 0, .int .u8 0, .int .u8 0, .int .u8 0, .int .u8 0, .int .u8 0, .int .u8 0, .int .u8 0, .int .u8 0, .int .u8 0, .int .u8 0, .int .u8 0, .int .u8 0, .int .u8 0, .int .u8 0, .int .u8 0, .int .u8 0, .int .u8 0, .int .u8 0, .int .u8 0, .int .u8 0, .int .u8 0, .int .u8 0, .int .u8 0, .int .u8 0, .int .u8 0, .int .u8 0, .int .u8 0, .int .u8 0, .int .u8 0, .int .u8 0, .int .u8 0, .int .u8 0, .int .u8 0, .int .u8 0, .int .u8 0, .int .u8 0, .int .u8 0, .int .u8 0, .int .u8 0, .int .u8 0, .int .u8 0, .int .u8 0, .int .u8 0, .int .u8 0, .int .u8 0, .int .u8 0, .int .u8 0, .int .u8 0, .int .u8 0, .int .u8 0, .int .u8 0, .int .u8 0, .int .u8 0, .int .u8 0, .int .u8 0, .int .u8 0, .int .u8 0, .int .u8 0, .int .u8 0, .int .u8 0, .int .u8 0, .int .u8 0, .int .u8 0, .int .u8 0, .int .u8 0, .int .u8 0, .int .u8 0, .int .u8 0, .int .u8 0, .int .u8 0, .int .u8 0, .int .u8 0, .int .u8 0, .int .u8 0, .int .u8 0, .int .u8 0, .int .u8 0, .int .u8 0, .int .u8 0, .int .u8 0, .int .u8 0, .int .u8 0, .int .u8 0, .int .u8 0, .int .u8 0, .int .u8 0, .int .u8 0, .int .u8 0, .int .u8 0, .int .u8 0, .int .u8 0, .int .u8 0, .int .u8 0, .int .u8 0, .int .u8 0, .int .u8 0, .int .u8 0, .int .u8 0, .int .u8 0, .int .u8 0, .int .u8 0, .int .u8 0, .int .u8 0, .int .u8 0, .int .u8 0, .int .u8 0, .int .u8 0, .int .u8 0, .int .u8 0, .int .u8 0, .int .u8 0, .int .u8 0, .int .u8 0, .int .u8 0, .int .u8 0, .int .u8 0, .int .u8 0, .int .u8 0, .int .u8 0, .int .u8 0, .int .u8 0, .int .u8 0, .int .u8 0, .int .u8 0, .int .u8 0]⟩ := tok_of (by kernel_rfl)
theorem tok295 : TOK Tryz.prog 295 ⟨.st [(0, 5), (1, 5)], 2, 2, [.int .u8 0, .int .u8 0]⟩ := tok_of (by kernel_rfl)
theorem tok296 : TOK Tryz.prog 296 ⟨.st [(0, 5), (1, 5)], 2, 2, [.int .u8 0, .int .u8 0]⟩ := tok_of (by kernel_rfl)
theorem tok297 : TOK Tryz.prog 297 ⟨.arr 16 296, 32, 32, [.int .u8 0, .int .u8 0, .int .u8 0, .int .u8 0, .int .u8 0, .int .u8 0, .int .u8 0, .int .u8 0, .int .u8 0, .int .u8 0, .int .u8 0, .int .u8 0, .int .u8 0, .int .u8 0, .int .u8 0, .int .u8 0, .int .u8 0, .int .u8 0, .int .u8 0, .int .u8 0, .int .u8 0, .int .u8 0, .int .u8 0, .int .u8 0, .int .u8 0, .int .u8 0, .int .u8 0, .int .u8 0, .int .u8 0, .int .u8 0, .int .u8 0, .int .u8 0]⟩ := tok_of (by kernel_rfl)
theorem tok298 : TOK Tryz.prog 298 ⟨.fn, 1, 8, [.nilf]⟩ := tok_of (by kernel_rfl)
theorem tok299 : TOK Tryz.prog 299 ⟨.fn, 1, 8, [.nilf]⟩ := tok_of (by kernel_rfl)
theorem tok300 : TOK Tryz.prog 300 ⟨.fn, 1, 8, [.nilf]⟩ := tok_of (by kernel_rfl)
theorem tok301 : TOK Tryz.prog 301 ⟨.fn, 1, 8, [.nilf]⟩ := tok_of (by kernel_rfl)
theorem tok302 : TOK Tryz.prog 302 ⟨.fn, 1, 8, [.nilf]⟩ := tok_of (by kernel_rfl)
theorem tok303 : TOK Tryz.prog 303 ⟨.fn, 1, 8, [.nilf]⟩ := tok_of (by kernel_rfl)
theorem tok304 : TOK Tryz.prog 304 ⟨.fn, 1, 8, [.nilf]⟩ := tok_of (by kernel_rfl)
theorem tok305 : TOK Tryz.prog 305 ⟨.fn, 1, 8, [.nilf]⟩ := tok_of (by kernel_rfl)
theorem tok306 : TOK Tryz.prog 306 ⟨.fn, 1, 8, [.nilf]⟩ := tok_of (by kernel_rfl)
theorem tok307 : TOK Tryz.prog 307 ⟨.fn, 1, 8, [.nilf]⟩ := tok_of (by kernel_rfl)
theorem tok308 : TOK Tryz.prog 308 ⟨.arr 24 5, 24, 24, [.int .u8 0, .int .u8 0, .int .u8 0, .int .u8 0, .int .u8 0, .int .u8 0, .int .u8 0, .int .u8 0, .int .u8 0, .int .u8 0, .int .u8 0, .int .u8 0, .int .u8 0, .int .u8 0, .int .u8 0, .int .u8 0, .int .u8 0, .int .u8 0, .int .u8 0, .int .u8 0, .int .u8 0, .int .u8 0, .int .u8 0, .int .u8 0]⟩ := tok_of (by kernel_rfl)
theorem tok309 : TOK Tryz.prog 309 ⟨.fn, 1, 8, [.nilf]⟩ := tok_of (by kernel_rfl)
theorem tok311 : TOK Tryz.prog 311 ⟨.fn, 1, 8, [.nilf]⟩ := tok_of (by kernel_rfl)
theorem tok313 : TOK Tryz.prog 313 ⟨.fn, 1, 8, [.nilf]⟩ := tok_of (by kernel_rfl)
theorem tok314 : TOK Tryz.prog 314 ⟨.fn, 1, 8, [.nilf]⟩ := tok_of (by kernel_rfl)
theorem tok315 : TOK Tryz.prog 315 ⟨.arr 20 236, 20, 160, [.int .u64 0, .int .u64 0, .int .u64 0, .int .u64 0, .int .u64 0, .int .u64 0, .int .u64 0, .int .u64 0, .int .u64 0, .int .u64 0, .int .u64 0, .int .u64 0, .int .u64 0, .int .u64 0, .int .u64 0, .int .u64 0, .int .u64 0, .int .u64 0, .int .u64 0, .int .u64 0]⟩ := tok_of (by kernel_rfl)
theorem tok316 : TOK Tryz.prog 316 ⟨.arr 65 5, 65, 65, [.int .u8 0, .int .u8 0, .int .u8 0, .int .u8 0, .int .u8 0, .int .u8 0, .int .u8 0, .int .u8 0, .int .u8 0, .int .u8 0, .int .u8 0, .int .u8 0, .int .u8 0, .int .u8 0, .int .u8 0, .int .u8 0, .int .u8 0, .int .u8 0, .int .u8 0, .int .u8 0, .int .u8 0, .int .u8 0, .int .u8 0, .int .u8 0, .int .u8 0, .int .u8 0, .int .u8 0, .int .u8 0, .int .u8 0, .int .u8 0, .int .u8 0, .int .u8 0, .int .u8 0, .int .u8 0, .int .u8 0, .int .u8 0, .int .u8 0, .int .u8 0, .int .u8 0, .int .u8 0, .int .u8 0, .int .u8 0, .int .u8 0, .int .u8 0, .int .u8 0, .int .u8 0, .int .u8 0, .int .u8 0, .int .u8 0, .int .u8 0, .int .u8 0, .int .u8 0, .int .u8 0, .int .u8 0, .int .u8 0, .int .u8 0, .int .u8 0, .int .u8 0, .int .u8 0, .int .u8 0, .int .u8 0, .int .u8 0, .int .u8 0, .int .u8 0, .int .u8 0]⟩ := tok_of (by kernel_rfl)
theorem tok317 : TOK Tryz.prog 317 ⟨.fn, 1, 8, [.nilf]⟩ := tok_of (by kernel_rfl)
theorem tok318 : TOK Tryz.prog 318 ⟨.arr 32 5, 32, 32, [.int .u8 0, .int .u8 0, .int .u8 0, .int .u8 0, .int .u8 0, .int .u8 0, .int .u8 0, .int .u8 0, .int .u8 0, .int .u8 0, .int .u8 0, .int .u8 0, .int .u8 0, .int .u8 0, .int .u8 0, .int .u8 0, .int .u8 0, .int .u8 0, .int .u8 0, .int .u8 0, .int .u8 0, .int .u8 0, .int .u8 0, .int .u8 0, .int .u8 0, .int .u8 0, .int .u8 0, .int .u8 0, .int .u8 0, .int .u8 0, .int .u8 0, .int .u8 0]⟩ := tok_of (by kernel_rfl)
theorem tok319 : TOK Tryz.prog 319 ⟨.arr 64 5, 64, 64, [.int .u8 0, .int .u8 0, .int .u8 0, .int .u8 0, .int .u8 0, .int .u8 0, .int .u8 0, .int .u8 0, .int .u8 0, .int .u8 0, .int .u8 0, .int .u8 0, .int .u8 0, .int .u8 0, .int .u8 0, .int .u8 0, .int .u8 0, .int .u8 0, .int .u8 0, .int .u8 0, .int .u8 0, .int .u8 0, .int .u8 0, .int .u8 0, .int .u8 0, .int .u8 0, .int .u8 0, .int .u8 0, .int .u8 0, .int .u8 0, .int .u8 0, .int .u8 0, .int .u8 0, .int .u8 0, .int .u8 0, .int .u8 0, .int .u8 0, .int .u8 0, .int .u8 0, .int .u8 0, .int .u8 0, .int .u8 0, .int .u8 0, .int .u8 0, .int .u8 0, .int .u8 0, .int .u8 0, .int .u8 0, .int .u8 0, .int .u8 0, .int .u8 0, .int .u8 0, .int .u8 0, .int .u8 0, .int .u8 0, .int .u8 0, .int .u8 0, .int .u8 0, .int .u8 0, .int .u8 0, .int .u8 0, .int .u8 0, .int .u8 0, .int .u8 0]⟩ := tok_of (by kernel_rfl)
theorem tok320 : TOK Tryz.prog 320 ⟨.fn, 1, 8, [.nilf]⟩ := tok_of (by kernel_rfl)
theorem tok321 : TOK Tryz.prog 321 ⟨.st [(0, 17), (1, 17), (2, 17), (3, 9)], 4, 40, [.nilp, .nilp, .nilp, .str []]⟩ := tok_of (by kernel_rfl)
theorem tok322 : TOK Tryz.prog 322 ⟨.st [(0, 17), (1, 17), (2, 17), (3, 9)], 4, 40, [.nilp, .nilp, .nilp, .str []]⟩ := tok_of (by kernel_rfl)
theorem tok323 : TOK Tryz.prog 323 ⟨.arr 0 16, 0, 0, []⟩ := tok_of (by kernel_rfl)
theorem tok324 : TOK Tryz.prog 324 ⟨.st [(0, 323)], 0, 0, []⟩ := tok_of (by kernel_rfl)
theorem tok325 : TOK Tryz.prog 325 ⟨.st [(0, 323)], 0, 0, []⟩ := tok_of (by kernel_rfl)
theorem tok326 : TOK Tryz.prog 326 ⟨.int .u8, 1, 1, [.int .u8 0]⟩ := tok_of (by kernel_rfl)
theorem tok327 : TOK Tryz.prog 327 ⟨.int .u8, 1, 1, [.int .u8 0]⟩ := tok_of (by kernel_rfl)
theorem tok328 : TOK Tryz.prog 328 ⟨.fn, 1, 8, [.nilf]⟩ := tok_of (by kernel_rfl)
theorem tok329 : TOK Tryz.prog 329 ⟨.ptr 5, 1, 8, [.nilp]⟩ := tok_of (by kernel_rfl)
theorem tok330 : TOK Tryz.prog 330 ⟨.int .i32, 1, 4, [.int .i32 0]⟩ := tok_of (by kernel_rfl)
theorem tok331 : TOK Tryz.prog 331 ⟨.int .i32, 1, 4, [.int .i32 0]⟩ := tok_of (by kernel_rfl)
theorem tok332 : TOK Tryz.prog 332 ⟨.st [(0, 12), (1, 12), (2, 234), (3, 326), (4, 5), (5, 5), (6, 327), (7, 328), (8, 329), (9, 330), (10, 331)], 11, 48, [.int .u64 0, .int .u64 0, .int .u32 0, .int .u8 0, .int .u8 0, .int .u8 0, .int .u8 0, .nilf, .nilp, .int .i32 0, .int .i32 0]⟩ := tok_of (by kernel_rfl)
theorem tok333 : TOK Tryz.prog 333 ⟨.st [(0, 12), (1, 12), (2, 234), (3, 326), (4, 5), (5, 5), (6, 327), (7, 328), (8, 329), (9, 330), (10, 331)], 11, 48, [.int .u64 0, .int .u64 0, .int .u32 0, .int .u8 0, .int .u8 0, .int .u8 0, .int .u8 0, .nilf, .nilp, .int .i32 0, .int .i32 0]⟩ := tok_of (by kernel_rfl)
def T : List (Nat × TI) := [(1, ⟨.fn, 1, 8, [.nilf]⟩),
  (2, ⟨.int .i64, 1, 8, [.int .i64 0]⟩),
  (3, ⟨.int .i64, 1, 8, [.int .i64 0]⟩),
  (4, ⟨.bool, 1, 1, [.bool false]⟩),
  (5, ⟨.int .u8, 1, 1, [.int .u8 0]⟩),
  (6, ⟨.int .u8, 1, 1, [.int .u8 0]⟩),
  (7, ⟨.st [(0, 2), (1, 3), (2, 4), (3, 6)], 4, 24, [.int .i64 0, .int .i64 0, .bool false, .int .u8 0]⟩),
  (8, ⟨.st [(0, 2), (1, 3), (2, 4), (3, 6)], 4, 24, [.int .i64 0, .int .i64 0, .bool false, .int .u8 0]⟩),
  (9, ⟨.str, 1, 16, [.str []]⟩),
  (10, ⟨.str, 1, 16, [.str []]⟩),
  (11, ⟨.str, 1, 16, [.str []]⟩),
  (12, ⟨.int .u64, 1, 8, [.int .u64 0]⟩),
  (13, ⟨.st [(0, 9), (1, 12)], 2, 24, [.str [], .int .u64 0]⟩),
  (14, ⟨.st [(0, 9), (1, 12)], 2, 24, [.str [], .int .u64 0]⟩),
  (15, ⟨.ptr 322, 1, 8, [.nilp]⟩),
  (16, ⟨.ptr 325, 1, 8, [.nilp]⟩),
  (17, ⟨.ptr 333, 1, 8, [.nilp]⟩),
  (18, ⟨.st [(0, 17)], 1, 8, [.nilp]⟩),
  (19, ⟨.st [(0, 17)], 1, 8, [.nilp]⟩),
  (20, ⟨.iface, 1, 16, [.nili]⟩),
  (21, ⟨.int .i32, 1, 4, [.int .i32 0]⟩),
  (22, ⟨.sl 3, 1, 24, [.nils]⟩),
  (23, ⟨.fn, 1, 8, [.nilf]⟩),
  (24, ⟨.fn, 1, 8, [.nilf]⟩),
  (25, ⟨.ptr 84, 1, 8, [.nilp]⟩),
  (26, ⟨.fn, 1, 8, [.nilf]⟩),
  (27, ⟨.sl 35, 1, 24, [.nils]⟩),
  (28, ⟨.fn, 1, 8, [.nilf]⟩),
  (29, ⟨.sl 89, 1, 24, [.nils]⟩),
  (30, ⟨.st [(0, 3), (1, 29)], 2, 32, [.int .i64 0, .nils]⟩),
  (31, ⟨.st [(0, 3), (1, 29)], 2, 32, [.int .i64 0, .nils]⟩),
  (32, ⟨.fn, 1, 8, [.nilf]⟩),
  (33, ⟨.sl 51, 1, 24, [.nils]⟩),
  (34, ⟨.st [(0, 3), (1, 9), (2, 33)], 3, 48, [.int .i64 0, .str [], .nils]⟩),
  (35, ⟨.st [(0, 3), (1, 9), (2, 33)], 3, 48, [.int .i64 0, .str [], .nils]⟩),
  (36, ⟨.int .i64, 1, 8, [.int .i64 0]⟩),
  (38, ⟨.fn, 1, 8, [.nilf]⟩),
  (39, ⟨.sl 55, 1, 24, [.nils]⟩),
  (40, ⟨.sl 45, 1, 24, [.nils]⟩),
  (41, ⟨.st [(0, 31), (2, 39), (3, 40)], 4, 80, [.int .i64 0, .nils, .nils, .nils]⟩),
  (42, ⟨.st [(0, 31), (2, 39), (3, 40)], 4, 80, [.int .i64 0, .nils, .nils, .nils]⟩),
  (43, ⟨.fn, 1, 8, [.nilf]⟩),
  (44, ⟨.st [(0, 3), (1, 3)], 2, 16, [.int .i64 0, .int .i64 0]⟩),
  (45, ⟨.st [(0, 3), (1, 3)], 2, 16, [.int .i64 0, .int .i64 0]⟩),
  (46, ⟨.fn, 1, 8, [.nilf]⟩),
  (47, ⟨.fn, 1, 8, [.nilf]⟩),
  (48, ⟨.fn, 1, 8, [.nilf]⟩),
  (49, ⟨.sl 81, 1, 24, [.nils]⟩),
  (50, ⟨.st [(0, 9), (1, 49)], 2, 40, [.str [], .nils]⟩),
  (51, ⟨.st [(0, 9), (1, 49)], 2, 40, [.str [], .nils]⟩),
  (52, ⟨.fn, 1, 8, [.nilf]⟩),
  (53, ⟨.fn, 1, 8, [.nilf]⟩),
  (54, ⟨.st [(0, 45), (2, 3), (3, 9)], 4, 40, [.int .i64 0, .int .i64 0, .int .i64 0, .str []]⟩),
  (55, ⟨.st [(0, 45), (2, 3), (3, 9)], 4, 40, [.int .i64 0, .int .i64 0, .int .i64 0, .str []]⟩),
  (56, ⟨.sl 5, 1, 24, [.nils]⟩),
  (58, ⟨.fn, 1, 8, [.nilf]⟩),
  (59, ⟨.fn, 1, 8, [.nilf]⟩),
  (60, ⟨.fn, 1, 8, [.nilf]⟩),
  (61, ⟨.fn, 1, 8, [.nilf]⟩),
  (62, ⟨.arr 5 3, 5, 40, [.int .i64 0, .int .i64 0, .int .i64 0, .int .i64 0, .int .i64 0]⟩),
  (63, ⟨.fn, 1, 8, [.nilf]⟩),
  (64, ⟨.fn, 1, 8, [.nilf]⟩),
  (65, ⟨.sl 87, 1, 24, [.nils]⟩),
  (66, ⟨.fn, 1, 8, [.nilf]⟩),
  (67, ⟨.fn, 1, 8, [.nilf]⟩),
  (68, ⟨.sl 31, 1, 24, [.nils]⟩),
  (70, ⟨.fn, 1, 8, [.nilf]⟩),
  (71, ⟨.fn, 1, 8, [.nilf]⟩),
  (72, ⟨.fn, 1, 8, [.nilf]⟩),
  (73, ⟨.st [(0, 42), (4, 3)], 5, 88, [.int .i64 0, .nils, .nils, .nils, .int .i64 0]⟩),
  (74, ⟨.st [(0, 42), (4, 3)], 5, 88, [.int .i64 0, .nils, .nils, .nils, .int .i64 0]⟩),
  (75, ⟨.sl 74, 1, 24, [.nils]⟩),
  (77, ⟨.fn, 1, 8, [.nilf]⟩),
  (78, ⟨.fn, 1, 8, [.nilf]⟩),
  (79, ⟨.fn, 1, 8, [.nilf]⟩),
  (80, ⟨.st [(0, 4), (1, 9)], 2, 24, [.bool false, .str []]⟩),
  (81, ⟨.st [(0, 4), (1, 9)], 2, 24, [.bool false, .str []]⟩),
  (82, ⟨.fn, 1, 8, [.nilf]⟩),
  (83, ⟨.st [(0, 22), (1, 3)], 2, 32, [.nils, .int .i64 0]⟩),
  (84, ⟨.st [(0, 22), (1, 3)], 2, 32, [.nils, .int .i64 0]⟩),
  (85, ⟨.fn, 1, 8, [.nilf]⟩),
  (86, ⟨.st [(0, 45), (2, 45), (4, 3), (5, 3), (6, 3), (7, 3), (8, 3), (9, 3), (10, 3)], 11, 88, [.int .i64 0, .int .i64 0, .int .i64 0, .int .i64 0, .int .i64 0, .int .i64 0, .int .i64 0, .int .i64 0, .int .i64 0, .int .i64 0, .int .i64 0]⟩),
  (87, ⟨.st [(0, 45), (2, 45), (4, 3), (5, 3), (6, 3), (7, 3), (8, 3), (9, 3), (10, 3)], 11, 88, [.int .i64 0, .int .i64 0, .int .i64 0, .int .i64 0, .int .i64 0, .int .i64 0, .int .i64 0, .int .i64 0, .int .i64 0, .int .i64 0, .int .i64 0]⟩),
  (88, ⟨.st [(0, 45), (2, 45)], 4, 32, [.int .i64 0, .int .i64 0, .int .i64 0, .int .i64 0]⟩),
  (89, ⟨.st [(0, 45), (2, 45)], 4, 32, [.int .i64 0, .int .i64 0, .int .i64 0, .int .i64 0]⟩),
  (90, ⟨.fn, 1, 8, [.nilf]⟩),
  (91, ⟨.sl 22, 1, 24, [.nils]⟩),
  (93, ⟨.fn, 1, 8, [.nilf]⟩),
  (94, ⟨.fn, 1, 8, [.nilf]⟩),
  (96, ⟨.fn, 1, 8, [.nilf]⟩),
  (97, ⟨.map 3 3, 1, 8, [.nilm]⟩),
  (99, ⟨.fn, 1, 8, [.nilf]⟩),
  (101, ⟨.fn, 1, 8, [.nilf]⟩),
  (102, ⟨.fn, 1, 8, [.nilf]⟩),
  (103, ⟨.fn, 1, 8, [.nilf]⟩),
  (105, ⟨.fn, 1, 8, [.nilf]⟩),
  (106, ⟨.fn, 1, 8, [.nilf]⟩),
  (107, ⟨.fn, 1, 8, [.nilf]⟩),
  (108, ⟨.fn, 1, 8, [.nilf]⟩),
  (109, ⟨.fn, 1, 8, [.nilf]⟩),
  (110, ⟨.fn, 1, 8, [.nilf]⟩),
  (111, ⟨.fn, 1, 8, [.nilf]⟩),
  (112, ⟨.fn, 1, 8, [.nilf]⟩),
  (113, ⟨.sl 9, 1, 24, [.nils]⟩),
  (115, ⟨.fn, 1, 8, [.nilf]⟩),
  (116, ⟨.sl 234, 1, 24, [.nils]⟩),
  (117, ⟨.st [(0, 4), (1, 116)], 2, 32, [.bool false, .nils]⟩),
  (118, ⟨.st [(0, 4), (1, 116)], 2, 32, [.bool false, .nils]⟩),
  (119, ⟨.st [(0, 118), (2, 118)], 4, 64, [.bool false, .nils, .bool false, .nils]⟩),
  (120, ⟨.st [(0, 118), (2, 118)], 4, 64, [.bool false, .nils, .bool false, .nils]⟩),
  (121, ⟨.fn, 1, 8, [.nilf]⟩),
  (122, ⟨.fn, 1, 8, [.nilf]⟩),
  (123, ⟨.map 3 29, 1, 8, [.nilm]⟩),
  (124, ⟨.map 3 29, 1, 8, [.nilm]⟩),
  (125, ⟨.fn, 1, 8, [.nilf]⟩),
  (126, ⟨.fn, 1, 8, [.nilf]⟩),
  (127, ⟨.fn, 1, 8, [.nilf]⟩),
  (128, ⟨.fn, 1, 8, [.nilf]⟩),
  (129, ⟨.fn, 1, 8, [.nilf]⟩),
  (130, ⟨.fn, 1, 8, [.nilf]⟩),
  (131, ⟨.fn, 1, 8, [.nilf]⟩),
  (132, ⟨.sl 49, 1, 24, [.nils]⟩),
  (133, ⟨.st [(0, 31), (2, 40), (3, 132), (4, 3)], 5, 88, [.int .i64 0, .nils, .nils, .nils, .int .i64 0]⟩),
  (134, ⟨.st [(0, 31), (2, 40), (3, 132), (4, 3)], 5, 88, [.int .i64 0, .nils, .nils, .nils, .int .i64 0]⟩),
  (136, ⟨.fn, 1, 8, [.nilf]⟩),
  (137, ⟨.fn, 1, 8, [.nilf]⟩),
  (138, ⟨.fn, 1, 8, [.nilf]⟩),
  (139, ⟨.fn, 1, 8, [.nilf]⟩),
  (140, ⟨.st [(0, 3), (1, 3), (2, 3), (3, 22)], 4, 48, [.int .i64 0, .int .i64 0, .int .i64 0, .nils]⟩),
  (141, ⟨.st [(0, 3), (1, 3), (2, 3), (3, 22)], 4, 48, [.int .i64 0, .int .i64 0, .int .i64 0, .nils]⟩),
  (143, ⟨.fn, 1, 8, [.nilf]⟩),
  (144, ⟨.sl 40, 1, 24, [.nils]⟩),
  (145, ⟨.fn, 1, 8, [.nilf]⟩),
  (146, ⟨.fn, 1, 8, [.nilf]⟩),
  (147, ⟨.fn, 1, 8, [.nilf]⟩),
  (148, ⟨.fn, 1, 8, [.nilf]⟩),
  (149, ⟨.fn, 1, 8, [.nilf]⟩),
  (150, ⟨.fn, 1, 8, [.nilf]⟩),
  (151, ⟨.fn, 1, 8, [.nilf]⟩),
  (152, ⟨.fn, 1, 8, [.nilf]⟩),
  (153, ⟨.fn, 1, 8, [.nilf]⟩),
  (154, ⟨.fn, 1, 8, [.nilf]⟩),
  (155, ⟨.fn, 1, 8, [.nilf]⟩),
  (156, ⟨.fn, 1, 8, [.nilf]⟩),
  (157, ⟨.fn, 1, 8, [.nilf]⟩),
  (158, ⟨.fn, 1, 8, [.nilf]⟩),
  (159, ⟨.ptr 91, 1, 8, [.nilp]⟩),
  (160, ⟨.fn, 1, 8, [.nilf]⟩),
  (161, ⟨.fn, 1, 8, [.nilf]⟩),
  (162, ⟨.fn, 1, 8, [.nilf]⟩),
  (163, ⟨.fn, 1, 8, [.nilf]⟩),
  (164, ⟨.fn, 1, 8, [.nilf]⟩),
  (165, ⟨.fn, 1, 8, [.nilf]⟩),
  (166, ⟨.fn, 1, 8, [.nilf]⟩),
  (167, ⟨.fn, 1, 8, [.nilf]⟩),
  (168, ⟨.fn, 1, 8, [.nilf]⟩),
  (169, ⟨.fn, 1, 8, [.nilf]⟩),
  (170, ⟨.fn, 1, 8, [.nilf]⟩),
  (171, ⟨.fn, 1, 8, [.nilf]⟩),
  (173, ⟨.fn, 1, 8, [.nilf]⟩),
  (174, ⟨.fn, 1, 8, [.nilf]⟩),
  (175, ⟨.fn, 1, 8, [.nilf]⟩),
  (176, ⟨.fn, 1, 8, [.nilf]⟩),
  (177, ⟨.fn, 1, 8, [.nilf]⟩),
  (178, ⟨.map 3 4, 1, 8, [.nilm]⟩),
  (179, ⟨.fn, 1, 8, [.nilf]⟩),
  (181, ⟨.fn, 1, 8, [.nilf]⟩),
  (182, ⟨.fn, 1, 8, [.nilf]⟩),
  (183, ⟨.int .u64, 1, 8, [.int .u64 0]⟩),
  (184, ⟨.fn, 1, 8, [.nilf]⟩),
  (185, ⟨.fn, 1, 8, [.nilf]⟩),
  (186, ⟨.fn, 1, 8, [.nilf]⟩),
  (187, ⟨.fn, 1, 8, [.nilf]⟩),
  (188, ⟨.fn, 1, 8, [.nilf]⟩),
  (189, ⟨.fn, 1, 8, [.nilf]⟩),
  (190, ⟨.ptr 240, 1, 8, [.nilp]⟩),
  (191, ⟨.fn, 1, 8, [.nilf]⟩),
  (192, ⟨.fn, 1, 8, [.nilf]⟩),
  (193, ⟨.fn, 1, 8, [.nilf]⟩),
  (194, ⟨.fn, 1, 8, [.nilf]⟩),
  (195, ⟨.map 9 4, 1, 8, [.nilm]⟩),
  (196, ⟨.fn, 1, 8, [.nilf]⟩),
  (197, ⟨.fn, 1, 8, [.nilf]⟩),
  (198, ⟨.fn, 1, 8, [.nilf]⟩),
  (199, ⟨.fn, 1, 8, [.nilf]⟩),
  (201, ⟨.fn, 1, 8, [.nilf]⟩),
  (202, ⟨.sl 204, 1, 24, [.nils]⟩),
  (203, ⟨.fn, 1, 8, [.nilf]⟩),
  (204, ⟨.sl 4, 1, 24, [.nils]⟩),
  (205, ⟨.fn, 1, 8, [.nilf]⟩),
  (206, ⟨.fn, 1, 8, [.nilf]⟩),
  (207, ⟨.fn, 1, 8, [.nilf]⟩),
  (208, ⟨.fn, 1, 8, [.nilf]⟩),
  (209, ⟨.st [(0, 3), (1, 3), (2, 9), (3, 22)], 4, 56, [.int .i64 0, .int .i64 0, .str [], .nils]⟩),
  (210, ⟨.st [(0, 3), (1, 3), (2, 9), (3, 22)], 4, 56, [.int .i64 0, .int .i64 0, .str [], .nils]⟩),
  (211, ⟨.fn, 1, 8, [.nilf]⟩),
  (212, ⟨.sl 210, 1, 24, [.nils]⟩),
  (213, ⟨.fn, 1, 8, [.nilf]⟩),
  (215, ⟨.fn, 1, 8, [.nilf]⟩),
  (216, ⟨.fn, 1, 8, [.nilf]⟩),
  (217, ⟨.fn, 1, 8, [.nilf]⟩),
  (218, ⟨.fn, 1, 8, [.nilf]⟩),
  (219, ⟨.fn, 1, 8, [.nilf]⟩),
  (220, ⟨.fn, 1, 8, [.nilf]⟩),
  (221, ⟨.fn, 1, 8, [.nilf]⟩),
  (222, ⟨.map 9 3, 1, 8, [.nilm]⟩),
  (223, ⟨.fn, 1, 8, [.nilf]⟩),
  (224, ⟨.fn, 1, 8, [.nilf]⟩),
  (225, ⟨.fn, 1, 8, [.nilf]⟩),
  (226, ⟨.fn, 1, 8, [.nilf]⟩),
  (227, ⟨.int .i64, 1, 8, [.int .i64 0]⟩),
  (229, ⟨.fn, 1, 8, [.nilf]⟩),
  (230, ⟨.fn, 1, 8, [.nilf]⟩),
  (231, ⟨.fn, 1, 8, [.nilf]⟩),
  (232, ⟨.fn, 1, 8, [.nilf]⟩),
  (233, ⟨.fn, 1, 8, [.nilf]⟩),
  (234, ⟨.int .u32, 1, 4, [.int .u32 0]⟩),
  (235, ⟨.fn, 1, 8, [.nilf]⟩),
  (236, ⟨.int .u64, 1, 8, [.int .u64 0]⟩),
  (237, ⟨.fn, 1, 8, [.nilf]⟩),
  (238, ⟨.sl 242, 1, 24, [.nils]⟩),
  (239, ⟨.st [(0, 238)], 1, 24, [.nils]⟩),
  (240, ⟨.st [(0, 238)], 1, 24, [.nils]⟩),
  (241, ⟨.st [(0, 35), (3, 3), (4, 3), (5, 3), (6, 22), (7, 22), (8, 222)], 9, 128, [.int .i64 0, .str [], .nils, .int .i64 0, .int .i64 0, .int .i64 0, .nils, .nils, .nilm]⟩),
  (242, ⟨.st [(0, 35), (3, 3), (4, 3), (5, 3), (6, 22), (7, 22), (8, 222)], 9, 128, [.int .i64 0, .str [], .nils, .int .i64 0, .int .i64 0, .int .i64 0, .nils, .nils, .nilm]⟩),
  (243, ⟨.fn, 1, 8, [.nilf]⟩),
  (244, ⟨.fn, 1, 8, [.nilf]⟩),
  (245, ⟨.fn, 1, 8, [.nilf]⟩),
  (246, ⟨.sl 247, 1, 24, [.nils]⟩),
  (247, ⟨.map 9 22, 1, 8, [.nilm]⟩),
  (248, ⟨.fn, 1, 8, [.nilf]⟩),
  (249, ⟨.fn, 1, 8, [.nilf]⟩),
  (250, ⟨.fn, 1, 8, [.nilf]⟩),
  (251, ⟨.fn, 1, 8, [.nilf]⟩),
  (252, ⟨.fn, 1, 8, [.nilf]⟩),
  (253, ⟨.fn, 1, 8, [.nilf]⟩),
  (254, ⟨.fn, 1, 8, [.nilf]⟩),
  (255, ⟨.fn, 1, 8, [.nilf]⟩),
  (256, ⟨.fn, 1, 8, [.nilf]⟩),
  (257, ⟨.fn, 1, 8, [.nilf]⟩),
  (258, ⟨.fn, 1, 8, [.nilf]⟩),
  (259, ⟨.fn, 1, 8, [.nilf]⟩),
  (261, ⟨.fn, 1, 8, [.nilf]⟩),
  (262, ⟨.fn, 1, 8, [.nilf]⟩),
  (263, ⟨.fn, 1, 8, [.nilf]⟩),
  (264, ⟨.fn, 1, 8, [.nilf]⟩),
  (265, ⟨.fn, 1, 8, [.nilf]⟩),
  (266, ⟨.fn, 1, 8, [.nilf]⟩),
  (267, ⟨.int .u64, 1, 8, [.int .u64 0]⟩),
  (268, ⟨.fn, 1, 8, [.nilf]⟩),
  (269, ⟨.fn, 1, 8, [.nilf]⟩),
  (270, ⟨.fn, 1, 8, [.nilf]⟩),
  (271, ⟨.ptr 3, 1, 8, [.nilp]⟩),
  (272, ⟨.fn, 1, 8, [.nilf]⟩),
  (273, ⟨.fn, 1, 8, [.nilf]⟩),
  (274, ⟨.ptr 242, 1, 8, [.nilp]⟩),
  (275, ⟨.fn, 1, 8, [.nilf]⟩),
  (276, ⟨.fn, 1, 8, [.nilf]⟩),
  (277, ⟨.fn, 1, 8, [.nilf]⟩),
  (278, ⟨.fn, 1, 8, [.nilf]⟩),
  (279, ⟨.fn, 1, 8, [.nilf]⟩),
  (280, ⟨.fn, 1, 8, [.nilf]⟩),
  (281, ⟨.fn, 1, 8, [.nilf]⟩),
  (282, ⟨.fn, 1, 8, [.nilf]⟩),
  (283, ⟨.fn, 1, 8, [.nilf]⟩),
  (284, ⟨.fn, 1, 8, [.nilf]⟩),
  (285, ⟨.fn, 1, 8, [.nilf]⟩),
  (286, ⟨.fn, 1, 8, [.nilf]⟩),
  (287, ⟨.fn, 1, 8, [.nilf]⟩),
  (288, ⟨.fn, 1, 8, [.nilf]⟩),
  (289, ⟨.fn, 1, 8, [.nilf]⟩),
  (290, ⟨.ptr 267, 1, 8, [.nilp]⟩),
  (292, ⟨.fn, 1, 8, [.nilf]⟩),
  (293, ⟨.fn, 1, 8, [.nilf]⟩),
  (294, ⟨.arr 256 5, 256, 256, [.int .u8 0, .int .u8 0, .int .u8 0, .int .u8 0, .int .u8 0, .int .u8 0, .int .u8 0, .int .u8 0, .int .u8 0, .int .u8 0, .int .u8 0, .int .u8 0, .int .u8 0, .int .u8 0, .int .u8 0, .int .u8 0, .int .u8 0, .int .u8 0, .int .u8 0, .int .u8 0, .int .u8 0, .int .u8 0, .int .u8 0, .int .u8 0, .int .u8 0, .int .u8 0, .int .u8 0, .int .u8 0, .int .u8 0, .int .u8 0, .int .u8 0, .int .u8 0, .int .u8 0, .int .u8 0, .int .u8 0, .int .u8 0, .int .u8 0, .int .u8 0, .int .u8 0, .int .u8 0, .int .u8 0, .int .u8 0, .int .u8 0, .int .u8 0, .int .u8 0, .int .u8 0, .int .u8 0, .int .u8 0, .int .u8 0, .int .u8 0, .int .u8 0, .int .u8 0, .int .u8 0, .int .u8 0, .int .u8 0, .int .u8 0, .int .u8 0, .int .u8 0, .int .u8 0, .int .u8 0, .int .u8 0, .int .u8 0, .int .u8 0, .int .u8 0, .int .u8 0, .int .u8 0, .int .u8 0, .int .u8 0, .int .u8 0, .int .u8 0, .int .u8 0, .int .u8 0, .int .u8 0, .int .u8 0, .int .u8 0, .int .u8 0, .int .u8 0, .int .u8 0, .int .u8 0, .int .u8 0, .int .u8 0, .int .u8 0, .int .u8 0, .int .u8 0, .int .u8 0, .int .u8 0, .int .u8 0, .int .u8 0, .int .u8 0, .int .u8 0, .int .u8 0, .int .u8 0, .int .u8 0, .int .u8 0, .int .u8 0, .int .u8 0, .int .u8 0, .int .u8 0, .int .u8 0, .int .u8 0, .int .u8 0, .int .u8 0, .int .u8 0, .int .u8 0, .int .u8 0, .int .u8 0, .int .u8 0, .int .u8 0, .int .u8 0, .int .u8 0, .int .u8 0, .int .u8 0, .int .u8 0, .int .u8 0, .int .u8 0, .int .u8 0, .int .u8 0, .int .u8 0, .int .u8 0, .int .u8 0, .int .u8 0, .int .u8 0, .int .u8 0, .int .u8 0, .int .u8 0, .int .u8 0, .int .u8 0, .int .u8 0, .int .u8 0, .int .u8 0, .int .u8 0, .int .u8 0, .int .u8 0, .int .u8 0, .int .u8 0, .int .u8 0, .int .u8 0, .int .u8 0, .int .u8 0, .int .u8 0, .int .u8 0, .int .u8 0, .int .u8 0, .int .u8 0, .int .u8 0, .int .u8 0, .int .u8 0, .int .u8 0, .int .u8 0, .int .u8 0, .int .u8 0, .int .u8 0, .int .u8 0, .int .u8 0, .int .u8 0, .int .u8 0, .int .u8 0, .int .u8 0, .int .u8 0, .int .u8 0, .int .u8 0, .int .u8 0, .int .u8 0, .int .u8 0, .int .u8 0, .int .u8 0, .int .u8 0, .int .u8 0, .int .u8 0, .int .u8 0, .int .u8 0, .int .u8 0, .int .u8 0, .int .u8 0, .int .u8 0, .int .u8 0, .int .u8 0, .int .u8 0, .int .u8 0, .int .u8 0, .int .u8 0, .int .u8 0, .int .u8 0, .int .u8 0, .int .u8 0, .int .u8 0, .int .u8 0, .int .u8 0, .int .u8 0, .int .u8 0, .int .u8 0, .int .u8 0, .int .u8 0, .int .u8 0, .int .u8 0, .int .u8 0, .int .u8 0, .int .u8 0, .int .u8 0, .int .u8 0, .int .u8 0, .int .u8 0, .int .u8 0, .int .u8 0, .int .u8 0, .int .u8 0, .int .u8 0, .int .u8 0, .int .u8 0, .int .u8 0, .int .u8 0, .int .u8 0, .int .u8 0, .int .u8 0, .int .u8 0, .int .u8 0, .int .u8 0, .int .u8 0, .int .u8 0, .int .u8 0, .int .u8 0, .int .u8 0, .int .u8 0, .int .u8 0, .int .u8 0, .int .u8 0, .int .u8 0, .int .u8 0, .int .u8 0, .int .u8 0, .int .u8 0, .int .u8 0, .int .u8 0, .int .u8 0, .int .u8 0, .int .u8 0, .int .u8 0, .int .u8 0, .int .u8 0, .int .u8 0, .int .u8 0, .int .u8 0, .int .u8 0, .int .u8 0, .int .u8 0, .int .u8 0, .int .u8 0, .int .u8 0, .int .u8 0, .int .u8 0, .int .u8 0, .int .u8 0, .int .u8 0, .int .u8 0, .int .u8 0, .int .u8 0]⟩),
  (295, ⟨.st [(0, 5), (1, 5)], 2, 2, [.int .u8 0, .int .u8 0]⟩),
  (296, ⟨.st [(0, 5), (1, 5)], 2, 2, [.int .u8 0, .int .u8 0]⟩),
  (297, ⟨.arr 16 296, 32, 32, [.int .u8 0, .int .u8 0, .int .u8 0, .int .u8 0, .int .u8 0, .int .u8 0, .int .u8 0, .int .u8 0, .int .u8 0, .int .u8 0, .int .u8 0, .int .u8 0, .int .u8 0, .int .u8 0, .int .u8 0, .int .u8 0, .int .u8 0, .int .u8 0, .int .u8 0, .int .u8 0, .int .u8 0, .int .u8 0, .int .u8 0, .int .u8 0, .int .u8 0, .int .u8 0, .int .u8 0, .int .u8 0, .int .u8 0, .int .u8 0, .int .u8 0, .int .u8 0]⟩),
  (298, ⟨.fn, 1, 8, [.nilf]⟩),
  (299, ⟨.fn, 1, 8, [.nilf]⟩),
  (300, ⟨.fn, 1, 8, [.nilf]⟩),
  (301, ⟨.fn, 1, 8, [.nilf]⟩),
  (302, ⟨.fn, 1, 8, [.nilf]⟩),
  (303, ⟨.fn, 1, 8, [.nilf]⟩),
  (304, ⟨.fn, 1, 8, [.nilf]⟩),
  (305, ⟨.fn, 1, 8, [.nilf]⟩),
  (306, ⟨.fn, 1, 8, [.nilf]⟩),
  (307, ⟨.fn, 1, 8, [.nilf]⟩),
  (308, ⟨.arr 24 5, 24, 24, [.int .u8 0, .int .u8 0, .int .u8 0, .int .u8 0, .int .u8 0, .int .u8 0, .int .u8 0, .int .u8 0, .int .u8 0, .int .u8 0, .int .u8 0, .int .u8 0, .int .u8 0, .int .u8 0, .int .u8 0, .int .u8 0, .int .u8 0, .int .u8 0, .int .u8 0, .int .u8 0, .int .u8 0, .int .u8 0, .int .u8 0, .int .u8 0]⟩),
  (309, ⟨.fn, 1, 8, [.nilf]⟩),
  (311, ⟨.fn, 1, 8, [.nilf]⟩),
  (313, ⟨.fn, 1, 8, [.nilf]⟩),
  (314, ⟨.fn, 1, 8, [.nilf]⟩),
  (315, ⟨.arr 20 236, 20, 160, [.int .u64 0, .int .u64 0, .int .u64 0, .int .u64 0, .int .u64 0, .int .u64 0, .int .u64 0, .int .u64 0, .int .u64 0, .int .u64 0, .int .u64 0, .int .u64 0, .int .u64 0, .int .u64 0, .int .u64 0, .int .u64 0, .int .u64 0, .int .u64 0, .int .u64 0, .int .u64 0]⟩),
  (316, ⟨.arr 65 5, 65, 65, [.int .u8 0, .int .u8 0, .int .u8 0, .int .u8 0, .int .u8 0, .int .u8 0, .int .u8 0, .int .u8 0, .int .u8 0, .int .u8 0, .int .u8 0, .int .u8 0, .int .u8 0, .int .u8 0, .int .u8 0, .int .u8 0, .int .u8 0, .int .u8 0, .int .u8 0, .int .u8 0, .int .u8 0, .int .u8 0, .int .u8 0, .int .u8 0, .int .u8 0, .int .u8 0, .int .u8 0, .int .u8 0, .int .u8 0, .int .u8 0, .int .u8 0, .int .u8 0, .int .u8 0, .int .u8 0, .int .u8 0, .int .u8 0, .int .u8 0, .int .u8 0, .int .u8 0, .int .u8 0, .int .u8 0, .int .u8 0, .int .u8 0, .int .u8 0, .int .u8 0, .int .u8 0, .int .u8 0, .int .u8 0, .int .u8 0, .int .u8 0, .int .u8 0, .int .u8 0, .int .u8 0, .int .u8 0, .int .u8 0, .int .u8 0, .int .u8 0, .int .u8 0, .int .u8 0, .int .u8 0, .int .u8 0, .int .u8 0, .int .u8 0, .int .u8 0, .int .u8 0]⟩),
  (317, ⟨.fn, 1, 8, [.nilf]⟩),
  (318, ⟨.arr 32 5, 32, 32, [.int .u8 0, .int .u8 0, .int .u8 0, .int .u8 0, .int .u8 0, .int .u8 0, .int .u8 0, .int .u8 0, .int .u8 0, .int .u8 0, .int .u8 0, .int .u8 0, .int .u8 0, .int .u8 0, .int .u8 0, .int .u8 0, .int .u8 0, .int .u8 0, .int .u8 0, .int .u8 0, .int .u8 0, .int .u8 0, .int .u8 0, .int .u8 0, .int .u8 0, .int .u8 0, .int .u8 0, .int .u8 0, .int .u8 0, .int .u8 0, .int .u8 0, .int .u8 0]⟩),
  (319, ⟨.arr 64 5, 64, 64, [.int .u8 0, .int .u8 0, .int .u8 0, .int .u8 0, .int .u8 0, .int .u8 0, .int .u8 0, .int .u8 0, .int .u8 0, .int .u8 0, .int .u8 0, .int .u8 0, .int .u8 0, .int .u8 0, .int .u8 0, .int .u8 0, .int .u8 0, .int .u8 0, .int .u8 0, .int .u8 0, .int .u8 0, .int .u8 0, .int .u8 0, .int .u8 0, .int .u8 0, .int .u8 0, .int .u8 0, .int .u8 0, .int .u8 0, .int .u8 0, .int .u8 0, .int .u8 0, .int .u8 0, .int .u8 0, .int .u8 0, .int .u8 0, .int .u8 0, .int .u8 0, .int .u8 0, .int .u8 0, .int .u8 0, .int .u8 0, .int .u8 0, .int .u8 0, .int .u8 0, .int .u8 0, .int .u8 0, .int .u8 0, .int .u8 0, .int .u8 0, .int .u8 0, .int .u8 0, .int .u8 0, .int .u8 0, .int .u8 0, .int .u8 0, .int .u8 0, .int .u8 0, .int .u8 0, .int .u8 0, .int .u8 0, .int .u8 0, .int .u8 0, .int .u8 0]⟩),
  (320, ⟨.fn, 1, 8, [.nilf]⟩),
  (321, ⟨.st [(0, 17), (1, 17), (2, 17), (3, 9)], 4, 40, [.nilp, .nilp, .nilp, .str []]⟩),
  (322, ⟨.st [(0, 17), (1, 17), (2, 17), (3, 9)], 4, 40, [.nilp, .nilp, .nilp, .str []]⟩),
  (323, ⟨.arr 0 16, 0, 0, []⟩),
  (324, ⟨.st [(0, 323)], 0, 0, []⟩),
  (325, ⟨.st [(0, 323)], 0, 0, []⟩),
  (326, ⟨.int .u8, 1, 1, [.int .u8 0]⟩),
  (327, ⟨.int .u8, 1, 1, [.int .u8 0]⟩),
  (328, ⟨.fn, 1, 8, [.nilf]⟩),
  (329, ⟨.ptr 5, 1, 8, [.nilp]⟩),
  (330, ⟨.int .i32, 1, 4, [.int .i32 0]⟩),
  (331, ⟨.int .i32, 1, 4, [.int .i32 0]⟩),
  (332, ⟨.st [(0, 12), (1, 12), (2, 234), (3, 326), (4, 5), (5, 5), (6, 327), (7, 328), (8, 329), (9, 330), (10, 331)], 11, 48, [.int .u64 0, .int .u64 0, .int .u32 0, .int .u8 0, .int .u8 0, .int .u8 0, .int .u8 0, .nilf, .nilp, .int .i32 0, .int .i32 0]⟩),
  (333, ⟨.st [(0, 12), (1, 12), (2, 234), (3, 326), (4, 5), (5, 5), (6, 327), (7, 328), (8, 329), (9, 330), (10, 331)], 11, 48, [.int .u64 0, .int .u64 0, .int .u32 0, .int .u8 0, .int .u8 0, .int .u8 0, .int .u8 0, .nilf, .nilp, .int .i32 0, .int .i32 0]⟩)]
set_option maxRecDepth 20000 in
theorem env : Env Tryz.prog T := ⟨table_cons tok1 (table_cons tok2 (table_cons tok3 (table_cons tok4 (table_cons tok5 (table_cons tok6 (table_cons tok7 (table_cons tok8 (table_cons tok9 (table_cons tok10 (table_cons tok11 (table_cons tok12 (table_cons tok13 (table_cons tok14 (table_cons tok15 (table_cons tok16 (table_cons tok17 (table_cons tok18 (table_cons tok19 (table_cons tok20 (table_cons tok21 (table_cons tok22 (table_cons tok23 (table_cons tok24 (table_cons tok25 (table_cons tok26 (table_cons tok27 (table_cons tok28 (table_cons tok29 (table_cons tok30 (table_cons tok31 (table_cons tok32 (table_cons tok33 (table_cons tok34 (table_cons tok35 (table_cons tok36 (table_cons tok38 (table_cons tok39 (table_cons tok40 (table_cons tok41 (table_cons tok42 (table_cons tok43 (table_cons tok44 (table_cons tok45 (table_cons tok46 (table_cons tok47 (table_cons tok48 (table_cons tok49 (table_cons tok50 (table_cons tok51 (table_cons tok52 (table_cons tok53 (table_cons tok54 (table_cons tok55 (table_cons tok56 (table_cons tok58 (table_cons tok59 (table_cons tok60 (table_cons tok61 (table_cons tok62 (table_cons tok63 (table_cons tok64 (table_cons tok65 (table_cons tok66 (table_cons tok67 (table_cons tok68 (table_cons tok70 (table_cons tok71 (table_cons tok72 (table_cons tok73 (table_cons tok74 (table_cons tok75 (table_cons tok77 (table_cons tok78 (table_cons tok79 (table_cons tok80 (table_cons tok81 (table_cons tok82 (table_cons tok83 (table_cons tok84 (table_cons tok85 (table_cons tok86 (table_cons tok87 (table_cons tok88 (table_cons tok89 (table_cons tok90 (table_cons tok91 (table_cons tok93 (table_cons tok94 (table_cons tok96 (table_cons tok97 (table_cons tok99 (table_cons tok101 (table_cons tok102 (table_cons tok103 (table_cons tok105 (table_cons tok106 (table_cons tok107 (table_cons tok108 (table_cons tok109 (table_cons tok110 (table_cons tok111 (table_cons tok112 (table_cons tok113 (table_cons tok115 (table_cons tok116 (table_cons tok117 (table_cons tok118 (table_cons tok119 (table_cons tok120 (table_cons tok121 (table_cons tok122 (table_cons tok123 (table_cons tok124 (table_cons tok125 (table_cons tok126 (table_cons tok127 (table_cons tok128 (table_cons tok129 (table_cons tok130 (table_cons tok131 (table_cons tok132 (table_cons tok133 (table_cons tok134 (table_cons tok136 (table_cons tok137 (table_cons tok138 (table_cons tok139 (table_cons tok140 (table_cons tok141 (table_cons tok143 (table_cons tok144 (table_cons tok145 (table_cons tok146 (table_cons tok147 (table_cons tok148 (table_cons tok149 (table_cons tok150 (table_cons tok151 (table_cons tok152 (table_cons tok153 (table_cons tok154 (table_cons tok155 (table_cons tok156 (table_cons tok157 (table_cons tok158 (table_cons tok159 (table_cons tok160 (table_cons tok161 (table_cons tok162 (table_cons tok163 (table_cons tok164 (table_cons tok165 (table_cons tok166 (table_cons tok167 (table_cons tok168 (table_cons tok169 (table_cons tok170 (table_cons tok171 (table_cons tok173 (table_cons tok174 (table_cons tok175 (table_cons tok176 (table_cons tok177 (table_cons tok178 (table_cons tok179 (table_cons tok181 (table_cons tok182 (table_cons tok183 (table_cons tok184 (table_cons tok185 (table_cons tok186 (table_cons tok187 (table_cons tok188 (table_cons tok189 (table_cons tok190 (table_cons tok191 (table_cons tok192 (table_cons tok193 (table_cons tok194 (table_cons tok195 (table_cons tok196 (table_cons tok197 (table_cons tok198 (table_cons tok199 (table_cons tok201 (table_cons tok202 (table_cons tok203 (table_cons tok204 (table_cons tok205 (table_cons tok206 (table_cons tok207 (table_cons tok208 (table_cons tok209 (table_cons tok210 (table_cons tok211 (table_cons tok212 (table_cons tok213 (table_cons tok215 (table_cons tok216 (table_cons tok217 (table_cons tok218 (table_cons tok219 (table_cons tok220 (table_cons tok221 (table_cons tok222 (table_cons tok223 (table_cons tok224 (table_cons tok225 (table_cons tok226 (table_cons tok227 (table_cons tok229 (table_cons tok230 (table_cons tok231 (table_cons tok232 (table_cons tok233 (table_cons tok234 (table_cons tok235 (table_cons tok236 (table_cons tok237 (table_cons tok238 (table_cons tok239 (table_cons tok240 (table_cons tok241 (table_cons tok242 (table_cons tok243 (table_cons tok244 (table_cons tok245 (table_cons tok246 (table_cons tok247 (table_cons tok248 (table_cons tok249 (table_cons tok250 (table_cons tok251 (table_cons tok252 (table_cons tok253 (table_cons tok254 (table_cons tok255 (table_cons tok256 (table_cons tok257 (table_cons tok258 (table_cons tok259 (table_cons tok261 (table_cons tok262 (table_cons tok263 (table_cons tok264 (table_cons tok265 (table_cons tok266 (table_cons tok267 (table_cons tok268 (table_cons tok269 (table_cons tok270 (table_cons tok271 (table_cons tok272 (table_cons tok273 (table_cons tok274 (table_cons tok275 (table_cons tok276 (table_cons tok277 (table_cons tok278 (table_cons tok279 (table_cons tok280 (table_cons tok281 (table_cons tok282 (table_cons tok283 (table_cons tok284 (table_cons tok285 (table_cons tok286 (table_cons tok287 (table_cons tok288 (table_cons tok289 (table_cons tok290 (table_cons tok292 (table_cons tok293 (table_cons tok294 (table_cons tok295 (table_cons tok296 (table_cons tok297 (table_cons tok298 (table_cons tok299 (table_cons tok300 (table_cons tok301 (table_cons tok302 (table_cons tok303 (table_cons tok304 (table_cons tok305 (table_cons tok306 (table_cons tok307 (table_cons tok308 (table_cons tok309 (table_cons tok311 (table_cons tok313 (table_cons tok314 (table_cons tok315 (table_cons tok316 (table_cons tok317 (table_cons tok318 (table_cons tok319 (table_cons tok320 (table_cons tok321 (table_cons tok322 (table_cons tok323 (table_cons tok324 (table_cons tok325 (table_cons tok326 (table_cons tok327 (table_cons tok328 (table_cons tok329 (table_cons tok330 (table_cons tok331 (table_cons tok332 (table_cons tok333 (table_nil)))))))))))))))))))))))))))))))))))))))))))))))))))))))))))))))))))))))))))))))))))))))))))))))))))))))))))))))))))))))))))))))))))))))))))))))))))))))))))))))))))))))))))))))))))))))))))))))))))))))))))))))))))))))))))))))))))))))))))))))))))))))))))))))))))))))))))))))))))))))))))))))))))))))))))))))))))))))), by kernel_rfl⟩
end Go.Sx.Sp
namespace Go.Proofs
open Go.Shelf
def Tryz.laysValid_ren : Go.Shelf.Ren := ⟨fun | 196 => 216 | 259 => 243 | n => n, fun | 9 => 9 | 4 => 4 | 3 => 3 | 5 => 5 | 12 => 12 | 119 => 294 | 0 => 0 | 46 => 183 | 139 => 297 | 138 => 296 | 53 => 236 | n => n, fun | 3 => 0 | 4 => 1 | n => n⟩
theorem Tryz.laysValid : Go.Proofs.Lays.n196 Tryz.prog Tryz.laysValid_ren := {
  mixed := by kernel_rfl
  f196 := Tryz.func216.trans (congrArg some (by kernel_rfl))
  f259 := Tryz.func243.trans (congrArg some (by kernel_rfl))
  t0 := Tryz.underlying0
  a0 := Tryz.isAgg0
  z0 := Tryz.sizeOf0
  v0 := Tryz.zeroValue0
  t3 := Tryz.underlying3
  a3 := Tryz.isAgg3
  z3 := Tryz.sizeOf3
  v3 := Tryz.zeroValue3
  t4 := Tryz.underlying4
  a4 := Tryz.isAgg4
  z4 := Tryz.sizeOf4
  v4 := Tryz.zeroValue4
  t5 := Tryz.underlying5
  a5 := Tryz.isAgg5
  z5 := Tryz.sizeOf5
  v5 := Tryz.zeroValue5
  t9 := Tryz.underlying9
  a9 := Tryz.isAgg9
  z9 := Tryz.sizeOf9
  v9 := Tryz.zeroValue9
  t12 := Tryz.underlying12
  a12 := Tryz.isAgg12
  z12 := Tryz.sizeOf12
  v12 := Tryz.zeroValue12
  t46 := Tryz.underlying183
  a46 := Tryz.isAgg183
  z46 := Tryz.sizeOf183
  v46 := Tryz.zeroValue183
  t53 := Tryz.underlying236
  a53 := Tryz.isAgg236
  z53 := Tryz.sizeOf236
  v53 := Tryz.zeroValue236
  t119 := Tryz.underlying294
  a119 := Tryz.isAgg294
  z119 := Tryz.sizeOf294
  t138 := Tryz.underlying296
  a138 := Tryz.isAgg296
  z138 := Tryz.sizeOf296
  v138 := Tryz.zeroValue296
  t139 := Tryz.underlying297
  a139 := Tryz.isAgg297
  z139 := Tryz.sizeOf297
  v139 := Tryz.zeroValue297
  g3 := by kernel_rfl
  g4 := by kernel_rfl }
end Go.Proofs
namespace Go.Sx.Sp
open Go Go.Sx Go.Proofs Go.RowKit
def tabsOK (w : World) : Prop := Lib.Utf8Tabs 0 1 w
instance : Glob := ⟨tabsOK, [0, 1], fun w w' hs h => by
  have h0 := hs 0 (by simp)
  have h1 := hs 1 (by simp)
  refine ⟨fun c hc => ?_, fun i hi => ?_⟩
  · rw [cell?_of_heap h0]; exact h.1 c hc
  · rw [cell?_of_heap h1, cell?_of_heap h1]; exact h.2 i hi⟩
set_option maxRecDepth 1000000 in
theorem utf8_spec (s : List UInt8) : Spec Tryz.prog 216 [.str s] [] (.bool (Lib.validD s)) [] := by
  refine Spec.ofCalls (fun cargs w => enters_of Tryz.func216 (by kernel_rfl) rfl cargs w) fun w F m cargs hl ha hg => ?_
  match cargs, hl with
  | [c], _ =>
    obtain ⟨rfl, hs⟩ := (ha 0 (.str s) c rfl rfl).str_inv
    have hsz : (⟨s.toArray⟩ : ByteArray).size ≤ 9223372036854775807 := by
      have : maxLen = 9223372036854775807 := by unfold maxLen; rfl
      simpa [ByteArray.size, this] using hs
    refine (Any.utf8_ValidString Tryz.laysValid ⟨s.toArray⟩ w hsz hg).mono fun e w' ⟨he, hb⟩ => ?_
    exact ⟨_, he, fun w' F m => .bool _, hb⟩
end Go.Sx.Sp
