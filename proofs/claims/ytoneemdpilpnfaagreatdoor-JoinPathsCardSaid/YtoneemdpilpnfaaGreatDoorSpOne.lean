/- Types of the program, and library functions. -/
import Derived.Test.YtoneemdpilpnfaaGreatDoorSxThree
import Derived.Test.YtoneemdpilpnfaaGreatDoorProg
import Derived.Test.YtoneemdpilpnfaaGreatDoorSxFour
import Derived.Test.YtoneemdpilpnfaaGreatDoorSxFive
import Derived.Shelf.Unicode.ValidAny
import Derived.Lib.LaidTab
set_option linter.unusedVariables false
set_option linter.unusedSimpArgs false
namespace Go.Sx.Sp
open Go Go.Sx Go.Proofs
theorem tok1 : TOK Tryz.prog 1 ⟨.fn, 1, 8, [.nilf]⟩ := tok_of (by kernel_rfl)
theorem tok2 : TOK Tryz.prog 2 ⟨.int .i64, 1, 8, [.int .i64 0]⟩ := tok_of (by kernel_rfl)
theorem tok3 : TOK Tryz.prog 3 ⟨.int .i64, 1, 8, [.int .i64 0]⟩ := tok_of (by kernel_rfl)
theorem tok4 : TOK Tryz.prog 4 ⟨.bool, 1, 1, [.bool false]⟩ := tok_of (by kernel_rfl)
theorem tok5 : TOK Tryz.prog 5 ⟨.int .u8, 1, 1, [.int .u8 0]⟩ := tok_of (by kernel_rfl)
theorem tok6 : TOK Tryz.prog 6 ⟨.int .u8, 1, 1, [.int .u8 0]⟩ := tok_of (by kernel_rfl)
theorem tok7 : TOK Tryz.prog 7 ⟨.st [(0, 2), (1, 3), (2, 4), (3, 6)], 4, 24, [.int .i64 0, .int .i64 0, .bool false, .int .u8 0]⟩ := tok_of (by kernel_rfl)
theorem tok8 : TOK Tryz.prog 8 ⟨.st [(0, 2), (1, 3), (2, 4), (3, 6)], 4, 24, [.int .i64 0, .int .i64 0, .bool false, .int .u8 0]⟩ := tok_of (by kernel_rfl)
theorem tok9 : TOK Tryz.prog 9 ⟨.str, 1, 16, [.str []]⟩ := tok_of (by kernel_rfl)
theorem tok10 : TOK Tryz.prog 10 ⟨.str, 1, 16, [.str []]⟩ := tok_of (by kernel_rfl)
theorem tok11 : TOK Tryz.prog 11 ⟨.str, 1, 16, [.str []]⟩ := tok_of (by kernel_rfl)
theorem tok12 : TOK Tryz.prog 12 ⟨.int .u64, 1, 8, [.int .u64 0]⟩ := tok_of (by kernel_rfl)
theorem tok13 : TOK Tryz.prog 13 ⟨.st [(0, 9), (1, 12)], 2, 24, [.str [], .int .u64 0]⟩ := tok_of (by kernel_rfl)
theorem tok14 : TOK Tryz.prog 14 ⟨.st [(0, 9), (1, 12)], 2, 24, [.str [], .int .u64 0]⟩ := tok_of (by kernel_rfl)
theorem tok15 : TOK Tryz.prog 15 ⟨.ptr 193, 1, 8, [.nilp]⟩ := tok_of (by kernel_rfl)
theorem tok16 : TOK Tryz.prog 16 ⟨.ptr 196, 1, 8, [.nilp]⟩ := tok_of (by kernel_rfl)
theorem tok17 : TOK Tryz.prog 17 ⟨.ptr 204, 1, 8, [.nilp]⟩ := tok_of (by kernel_rfl)
theorem tok18 : TOK Tryz.prog 18 ⟨.st [(0, 17)], 1, 8, [.nilp]⟩ := tok_of (by kernel_rfl)
theorem tok19 : TOK Tryz.prog 19 ⟨.st [(0, 17)], 1, 8, [.nilp]⟩ := tok_of (by kernel_rfl)
theorem tok20 : TOK Tryz.prog 20 ⟨.iface, 1, 16, [.nili]⟩ := tok_of (by kernel_rfl)
theorem tok21 : TOK Tryz.prog 21 ⟨.int .i32, 1, 4, [.int .i32 0]⟩ := tok_of (by kernel_rfl)
theorem tok22 : TOK Tryz.prog 22 ⟨.sl 3, 1, 24, [.nils]⟩ := tok_of (by kernel_rfl)
theorem tok23 : TOK Tryz.prog 23 ⟨.sl 52, 1, 24, [.nils]⟩ := tok_of (by kernel_rfl)
theorem tok24 : TOK Tryz.prog 24 ⟨.st [(0, 3), (1, 23)], 2, 32, [.int .i64 0, .nils]⟩ := tok_of (by kernel_rfl)
theorem tok25 : TOK Tryz.prog 25 ⟨.st [(0, 3), (1, 23)], 2, 32, [.int .i64 0, .nils]⟩ := tok_of (by kernel_rfl)
theorem tok26 : TOK Tryz.prog 26 ⟨.fn, 1, 8, [.nilf]⟩ := tok_of (by kernel_rfl)
theorem tok27 : TOK Tryz.prog 27 ⟨.fn, 1, 8, [.nilf]⟩ := tok_of (by kernel_rfl)
theorem tok28 : TOK Tryz.prog 28 ⟨.ptr 68, 1, 8, [.nilp]⟩ := tok_of (by kernel_rfl)
theorem tok29 : TOK Tryz.prog 29 ⟨.fn, 1, 8, [.nilf]⟩ := tok_of (by kernel_rfl)
theorem tok30 : TOK Tryz.prog 30 ⟨.sl 36, 1, 24, [.nils]⟩ := tok_of (by kernel_rfl)
theorem tok31 : TOK Tryz.prog 31 ⟨.fn, 1, 8, [.nilf]⟩ := tok_of (by kernel_rfl)
theorem tok32 : TOK Tryz.prog 32 ⟨.fn, 1, 8, [.nilf]⟩ := tok_of (by kernel_rfl)
theorem tok33 : TOK Tryz.prog 33 ⟨.fn, 1, 8, [.nilf]⟩ := tok_of (by kernel_rfl)
theorem tok34 : TOK Tryz.prog 34 ⟨.sl 66, 1, 24, [.nils]⟩ := tok_of (by kernel_rfl)
theorem tok35 : TOK Tryz.prog 35 ⟨.st [(0, 3), (1, 9), (2, 34)], 3, 48, [.int .i64 0, .str [], .nils]⟩ := tok_of (by kernel_rfl)
theorem tok36 : TOK Tryz.prog 36 ⟨.st [(0, 3), (1, 9), (2, 34)], 3, 48, [.int .i64 0, .str [], .nils]⟩ := tok_of (by kernel_rfl)
theorem tok37 : TOK Tryz.prog 37 ⟨.st [(0, 3), (1, 3), (2, 3), (3, 22)], 4, 48, [.int .i64 0, .int .i64 0, .int .i64 0, .nils]⟩ := tok_of (by kernel_rfl)
theorem tok38 : TOK Tryz.prog 38 ⟨.st [(0, 3), (1, 3), (2, 3), (3, 22)], 4, 48, [.int .i64 0, .int .i64 0, .int .i64 0, .nils]⟩ := tok_of (by kernel_rfl)
theorem tok39 : TOK Tryz.prog 39 ⟨.int .i64, 1, 8, [.int .i64 0]⟩ := tok_of (by kernel_rfl)
theorem tok41 : TOK Tryz.prog 41 ⟨.fn, 1, 8, [.nilf]⟩ := tok_of (by kernel_rfl)
theorem tok43 : TOK Tryz.prog 43 ⟨.fn, 1, 8, [.nilf]⟩ := tok_of (by kernel_rfl)
theorem tok45 : TOK Tryz.prog 45 ⟨.fn, 1, 8, [.nilf]⟩ := tok_of (by kernel_rfl)
theorem tok46 : TOK Tryz.prog 46 ⟨.fn, 1, 8, [.nilf]⟩ := tok_of (by kernel_rfl)
theorem tok47 : TOK Tryz.prog 47 ⟨.fn, 1, 8, [.nilf]⟩ := tok_of (by kernel_rfl)
theorem tok48 : TOK Tryz.prog 48 ⟨.fn, 1, 8, [.nilf]⟩ := tok_of (by kernel_rfl)
theorem tok49 : TOK Tryz.prog 49 ⟨.st [(0, 3), (1, 3)], 2, 16, [.int .i64 0, .int .i64 0]⟩ := tok_of (by kernel_rfl)
theorem tok50 : TOK Tryz.prog 50 ⟨.st [(0, 3), (1, 3)], 2, 16, [.int .i64 0, .int .i64 0]⟩ := tok_of (by kernel_rfl)
theorem tok51 : TOK Tryz.prog 51 ⟨.st [(0, 50), (2, 50)], 4, 32, [.int .i64 0, .int .i64 0, .int .i64 0, .int .i64 0]⟩ := tok_of (by kernel_rfl)
theorem tok52 : TOK Tryz.prog 52 ⟨.st [(0, 50), (2, 50)], 4, 32, [.int .i64 0, .int .i64 0, .int .i64 0, .int .i64 0]⟩ := tok_of (by kernel_rfl)
theorem tok53 : TOK Tryz.prog 53 ⟨.fn, 1, 8, [.nilf]⟩ := tok_of (by kernel_rfl)
theorem tok54 : TOK Tryz.prog 54 ⟨.sl 22, 1, 24, [.nils]⟩ := tok_of (by kernel_rfl)
theorem tok56 : TOK Tryz.prog 56 ⟨.fn, 1, 8, [.nilf]⟩ := tok_of (by kernel_rfl)
theorem tok58 : TOK Tryz.prog 58 ⟨.fn, 1, 8, [.nilf]⟩ := tok_of (by kernel_rfl)
theorem tok59 : TOK Tryz.prog 59 ⟨.fn, 1, 8, [.nilf]⟩ := tok_of (by kernel_rfl)
theorem tok60 : TOK Tryz.prog 60 ⟨.fn, 1, 8, [.nilf]⟩ := tok_of (by kernel_rfl)
theorem tok61 : TOK Tryz.prog 61 ⟨.fn, 1, 8, [.nilf]⟩ := tok_of (by kernel_rfl)
theorem tok62 : TOK Tryz.prog 62 ⟨.st [(0, 4), (1, 9)], 2, 24, [.bool false, .str []]⟩ := tok_of (by kernel_rfl)
theorem tok63 : TOK Tryz.prog 63 ⟨.st [(0, 4), (1, 9)], 2, 24, [.bool false, .str []]⟩ := tok_of (by kernel_rfl)
theorem tok64 : TOK Tryz.prog 64 ⟨.sl 63, 1, 24, [.nils]⟩ := tok_of (by kernel_rfl)
theorem tok65 : TOK Tryz.prog 65 ⟨.st [(0, 9), (1, 64)], 2, 40, [.str [], .nils]⟩ := tok_of (by kernel_rfl)
theorem tok66 : TOK Tryz.prog 66 ⟨.st [(0, 9), (1, 64)], 2, 40, [.str [], .nils]⟩ := tok_of (by kernel_rfl)
theorem tok67 : TOK Tryz.prog 67 ⟨.st [(0, 22), (1, 3)], 2, 32, [.nils, .int .i64 0]⟩ := tok_of (by kernel_rfl)
theorem tok68 : TOK Tryz.prog 68 ⟨.st [(0, 22), (1, 3)], 2, 32, [.nils, .int .i64 0]⟩ := tok_of (by kernel_rfl)
theorem tok69 : TOK Tryz.prog 69 ⟨.fn, 1, 8, [.nilf]⟩ := tok_of (by kernel_rfl)
theorem tok70 : TOK Tryz.prog 70 ⟨.fn, 1, 8, [.nilf]⟩ := tok_of (by kernel_rfl)
theorem tok71 : TOK Tryz.prog 71 ⟨.sl 75, 1, 24, [.nils]⟩ := tok_of (by kernel_rfl)
theorem tok72 : TOK Tryz.prog 72 ⟨.fn, 1, 8, [.nilf]⟩ := tok_of (by kernel_rfl)
theorem tok73 : TOK Tryz.prog 73 ⟨.fn, 1, 8, [.nilf]⟩ := tok_of (by kernel_rfl)
theorem tok74 : TOK Tryz.prog 74 ⟨.st [(0, 50), (2, 50), (4, 3), (5, 3), (6, 3), (7, 3), (8, 3), (9, 3), (10, 3)], 11, 88, [.int .i64 0, .int .i64 0, .int .i64 0, .int .i64 0, .int .i64 0, .int .i64 0, .int .i64 0, .int .i64 0, .int .i64 0, .int .i64 0, .int .i64 0]⟩ := tok_of (by kernel_rfl)
theorem tok75 : TOK Tryz.prog 75 ⟨.st [(0, 50), (2, 50), (4, 3), (5, 3), (6, 3), (7, 3), (8, 3), (9, 3), (10, 3)], 11, 88, [.int .i64 0, .int .i64 0, .int .i64 0, .int .i64 0, .int .i64 0, .int .i64 0, .int .i64 0, .int .i64 0, .int .i64 0, .int .i64 0, .int .i64 0]⟩ := tok_of (by kernel_rfl)
theorem tok76 : TOK Tryz.prog 76 ⟨.ptr 121, 1, 8, [.nilp]⟩ := tok_of (by kernel_rfl)
theorem tok77 : TOK Tryz.prog 77 ⟨.fn, 1, 8, [.nilf]⟩ := tok_of (by kernel_rfl)
theorem tok78 : TOK Tryz.prog 78 ⟨.fn, 1, 8, [.nilf]⟩ := tok_of (by kernel_rfl)
theorem tok79 : TOK Tryz.prog 79 ⟨.sl 82, 1, 24, [.nils]⟩ := tok_of (by kernel_rfl)
theorem tok80 : TOK Tryz.prog 80 ⟨.fn, 1, 8, [.nilf]⟩ := tok_of (by kernel_rfl)
theorem tok81 : TOK Tryz.prog 81 ⟨.fn, 1, 8, [.nilf]⟩ := tok_of (by kernel_rfl)
theorem tok82 : TOK Tryz.prog 82 ⟨.sl 4, 1, 24, [.nils]⟩ := tok_of (by kernel_rfl)
theorem tok83 : TOK Tryz.prog 83 ⟨.fn, 1, 8, [.nilf]⟩ := tok_of (by kernel_rfl)
theorem tok85 : TOK Tryz.prog 85 ⟨.fn, 1, 8, [.nilf]⟩ := tok_of (by kernel_rfl)
theorem tok87 : TOK Tryz.prog 87 ⟨.fn, 1, 8, [.nilf]⟩ := tok_of (by kernel_rfl)
theorem tok88 : TOK Tryz.prog 88 ⟨.fn, 1, 8, [.nilf]⟩ := tok_of (by kernel_rfl)
theorem tok89 : TOK Tryz.prog 89 ⟨.fn, 1, 8, [.nilf]⟩ := tok_of (by kernel_rfl)
theorem tok90 : TOK Tryz.prog 90 ⟨.fn, 1, 8, [.nilf]⟩ := tok_of (by kernel_rfl)
theorem tok91 : TOK Tryz.prog 91 ⟨.fn, 1, 8, [.nilf]⟩ := tok_of (by kernel_rfl)
theorem tok92 : TOK Tryz.prog 92 ⟨.fn, 1, 8, [.nilf]⟩ := tok_of (by kernel_rfl)
theorem tok93 : TOK Tryz.prog 93 ⟨.fn, 1, 8, [.nilf]⟩ := tok_of (by kernel_rfl)
theorem tok95 : TOK Tryz.prog 95 ⟨.fn, 1, 8, [.nilf]⟩ := tok_of (by kernel_rfl)
theorem tok96 : TOK Tryz.prog 96 ⟨.fn, 1, 8, [.nilf]⟩ := tok_of (by kernel_rfl)
theorem tok98 : TOK Tryz.prog 98 ⟨.fn, 1, 8, [.nilf]⟩ := tok_of (by kernel_rfl)
theorem tok99 : TOK Tryz.prog 99 ⟨.fn, 1, 8, [.nilf]⟩ := tok_of (by kernel_rfl)
theorem tok101 : TOK Tryz.prog 101 ⟨.fn, 1, 8, [.nilf]⟩ := tok_of (by kernel_rfl)
theorem tok102 : TOK Tryz.prog 102 ⟨.fn, 1, 8, [.nilf]⟩ := tok_of (by kernel_rfl)
theorem tok103 : TOK Tryz.prog 103 ⟨.fn, 1, 8, [.nilf]⟩ := tok_of (by kernel_rfl)
theorem tok104 : TOK Tryz.prog 104 ⟨.fn, 1, 8, [.nilf]⟩ := tok_of (by kernel_rfl)
theorem tok105 : TOK Tryz.prog 105 ⟨.fn, 1, 8, [.nilf]⟩ := tok_of (by kernel_rfl)
theorem tok106 : TOK Tryz.prog 106 ⟨.ptr 36, 1, 8, [.nilp]⟩ := tok_of (by kernel_rfl)
theorem tok107 : TOK Tryz.prog 107 ⟨.fn, 1, 8, [.nilf]⟩ := tok_of (by kernel_rfl)
theorem tok108 : TOK Tryz.prog 108 ⟨.fn, 1, 8, [.nilf]⟩ := tok_of (by kernel_rfl)
theorem tok109 : TOK Tryz.prog 109 ⟨.sl 9, 1, 24, [.nils]⟩ := tok_of (by kernel_rfl)
theorem tok111 : TOK Tryz.prog 111 ⟨.fn, 1, 8, [.nilf]⟩ := tok_of (by kernel_rfl)
theorem tok112 : TOK Tryz.prog 112 ⟨.sl 173, 1, 24, [.nils]⟩ := tok_of (by kernel_rfl)
theorem tok113 : TOK Tryz.prog 113 ⟨.st [(0, 4), (1, 112)], 2, 32, [.bool false, .nils]⟩ := tok_of (by kernel_rfl)
theorem tok114 : TOK Tryz.prog 114 ⟨.st [(0, 4), (1, 112)], 2, 32, [.bool false, .nils]⟩ := tok_of (by kernel_rfl)
theorem tok115 : TOK Tryz.prog 115 ⟨.st [(0, 114), (2, 114)], 4, 64, [.bool false, .nils, .bool false, .nils]⟩ := tok_of (by kernel_rfl)
theorem tok116 : TOK Tryz.prog 116 ⟨.st [(0, 114), (2, 114)], 4, 64, [.bool false, .nils, .bool false, .nils]⟩ := tok_of (by kernel_rfl)
theorem tok117 : TOK Tryz.prog 117 ⟨.fn, 1, 8, [.nilf]⟩ := tok_of (by kernel_rfl)
theorem tok118 : TOK Tryz.prog 118 ⟨.fn, 1, 8, [.nilf]⟩ := tok_of (by kernel_rfl)
theorem tok119 : TOK Tryz.prog 119 ⟨.sl 125, 1, 24, [.nils]⟩ := tok_of (by kernel_rfl)
theorem tok120 : TOK Tryz.prog 120 ⟨.st [(0, 119)], 1, 24, [.nils]⟩ := tok_of (by kernel_rfl)
theorem tok121 : TOK Tryz.prog 121 ⟨.st [(0, 119)], 1, 24, [.nils]⟩ := tok_of (by kernel_rfl)
theorem tok122 : TOK Tryz.prog 122 ⟨.map 3 3, 1, 8, [.nilm]⟩ := tok_of (by kernel_rfl)
theorem tok123 : TOK Tryz.prog 123 ⟨.map 9 3, 1, 8, [.nilm]⟩ := tok_of (by kernel_rfl)
theorem tok124 : TOK Tryz.prog 124 ⟨.st [(0, 36), (3, 3), (4, 3), (5, 3), (6, 22), (7, 22), (8, 123)], 9, 128, [.int .i64 0, .str [], .nils, .int .i64 0, .int .i64 0, .int .i64 0, .nils, .nils, .nilm]⟩ := tok_of (by kernel_rfl)
theorem tok125 : TOK Tryz.prog 125 ⟨.st [(0, 36), (3, 3), (4, 3), (5, 3), (6, 22), (7, 22), (8, 123)], 9, 128, [.int .i64 0, .str [], .nils, .int .i64 0, .int .i64 0, .int .i64 0, .nils, .nils, .nilm]⟩ := tok_of (by kernel_rfl)
theorem tok126 : TOK Tryz.prog 126 ⟨.fn, 1, 8, [.nilf]⟩ := tok_of (by kernel_rfl)
theorem tok127 : TOK Tryz.prog 127 ⟨.fn, 1, 8, [.nilf]⟩ := tok_of (by kernel_rfl)
theorem tok128 : TOK Tryz.prog 128 ⟨.fn, 1, 8, [.nilf]⟩ := tok_of (by kernel_rfl)
theorem tok129 : TOK Tryz.prog 129 ⟨.fn, 1, 8, [.nilf]⟩ := tok_of (by kernel_rfl)
theorem tok130 : TOK Tryz.prog 130 ⟨.sl 132, 1, 24, [.nils]⟩ := tok_of (by kernel_rfl)
theorem tok131 : TOK Tryz.prog 131 ⟨.fn, 1, 8, [.nilf]⟩ := tok_of (by kernel_rfl)
theorem tok132 : TOK Tryz.prog 132 ⟨.map 9 4, 1, 8, [.nilm]⟩ := tok_of (by kernel_rfl)
theorem tok133 : TOK Tryz.prog 133 ⟨.fn, 1, 8, [.nilf]⟩ := tok_of (by kernel_rfl)
theorem tok134 : TOK Tryz.prog 134 ⟨.fn, 1, 8, [.nilf]⟩ := tok_of (by kernel_rfl)
theorem tok135 : TOK Tryz.prog 135 ⟨.fn, 1, 8, [.nilf]⟩ := tok_of (by kernel_rfl)
theorem tok136 : TOK Tryz.prog 136 ⟨.fn, 1, 8, [.nilf]⟩ := tok_of (by kernel_rfl)
theorem tok137 : TOK Tryz.prog 137 ⟨.fn, 1, 8, [.nilf]⟩ := tok_of (by kernel_rfl)
theorem tok138 : TOK Tryz.prog 138 ⟨.fn, 1, 8, [.nilf]⟩ := tok_of (by kernel_rfl)
theorem tok139 : TOK Tryz.prog 139 ⟨.fn, 1, 8, [.nilf]⟩ := tok_of (by kernel_rfl)
theorem tok140 : TOK Tryz.prog 140 ⟨.fn, 1, 8, [.nilf]⟩ := tok_of (by kernel_rfl)
theorem tok142 : TOK Tryz.prog 142 ⟨.fn, 1, 8, [.nilf]⟩ := tok_of (by kernel_rfl)
theorem tok143 : TOK Tryz.prog 143 ⟨.map 9 22, 1, 8, [.nilm]⟩ := tok_of (by kernel_rfl)
theorem tok144 : TOK Tryz.prog 144 ⟨.fn, 1, 8, [.nilf]⟩ := tok_of (by kernel_rfl)
theorem tok145 : TOK Tryz.prog 145 ⟨.fn, 1, 8, [.nilf]⟩ := tok_of (by kernel_rfl)
theorem tok146 : TOK Tryz.prog 146 ⟨.sl 143, 1, 24, [.nils]⟩ := tok_of (by kernel_rfl)
theorem tok147 : TOK Tryz.prog 147 ⟨.fn, 1, 8, [.nilf]⟩ := tok_of (by kernel_rfl)
theorem tok148 : TOK Tryz.prog 148 ⟨.ptr 54, 1, 8, [.nilp]⟩ := tok_of (by kernel_rfl)
theorem tok149 : TOK Tryz.prog 149 ⟨.fn, 1, 8, [.nilf]⟩ := tok_of (by kernel_rfl)
theorem tok150 : TOK Tryz.prog 150 ⟨.fn, 1, 8, [.nilf]⟩ := tok_of (by kernel_rfl)
theorem tok151 : TOK Tryz.prog 151 ⟨.fn, 1, 8, [.nilf]⟩ := tok_of (by kernel_rfl)
theorem tok152 : TOK Tryz.prog 152 ⟨.fn, 1, 8, [.nilf]⟩ := tok_of (by kernel_rfl)
theorem tok153 : TOK Tryz.prog 153 ⟨.ptr 125, 1, 8, [.nilp]⟩ := tok_of (by kernel_rfl)
theorem tok154 : TOK Tryz.prog 154 ⟨.fn, 1, 8, [.nilf]⟩ := tok_of (by kernel_rfl)
theorem tok155 : TOK Tryz.prog 155 ⟨.fn, 1, 8, [.nilf]⟩ := tok_of (by kernel_rfl)
theorem tok156 : TOK Tryz.prog 156 ⟨.fn, 1, 8, [.nilf]⟩ := tok_of (by kernel_rfl)
theorem tok157 : TOK Tryz.prog 157 ⟨.fn, 1, 8, [.nilf]⟩ := tok_of (by kernel_rfl)
theorem tok158 : TOK Tryz.prog 158 ⟨.fn, 1, 8, [.nilf]⟩ := tok_of (by kernel_rfl)
theorem tok159 : TOK Tryz.prog 159 ⟨.fn, 1, 8, [.nilf]⟩ := tok_of (by kernel_rfl)
theorem tok160 : TOK Tryz.prog 160 ⟨.fn, 1, 8, [.nilf]⟩ := tok_of (by kernel_rfl)
theorem tok161 : TOK Tryz.prog 161 ⟨.fn, 1, 8, [.nilf]⟩ := tok_of (by kernel_rfl)
theorem tok162 : TOK Tryz.prog 162 ⟨.fn, 1, 8, [.nilf]⟩ := tok_of (by kernel_rfl)
theorem tok163 : TOK Tryz.prog 163 ⟨.fn, 1, 8, [.nilf]⟩ := tok_of (by kernel_rfl)
theorem tok164 : TOK Tryz.prog 164 ⟨.fn, 1, 8, [.nilf]⟩ := tok_of (by kernel_rfl)
theorem tok165 : TOK Tryz.prog 165 ⟨.fn, 1, 8, [.nilf]⟩ := tok_of (by kernel_rfl)
theorem tok166 : TOK Tryz.prog 166 ⟨.fn, 1, 8, [.nilf]⟩ := tok_of (by kernel_rfl)
theorem tok167 : TOK Tryz.prog 167 ⟨.fn, 1, 8, [.nilf]⟩ := tok_of (by kernel_rfl)
theorem tok168 : TOK Tryz.prog 168 ⟨.fn, 1, 8, [.nilf]⟩ := tok_of (by kernel_rfl)
theorem tok170 : TOK Tryz.prog 170 ⟨.fn, 1, 8, [.nilf]⟩ := tok_of (by kernel_rfl)
theorem tok171 : TOK Tryz.prog 171 ⟨.fn, 1, 8, [.nilf]⟩ := tok_of (by kernel_rfl)
theorem tok172 : TOK Tryz.prog 172 ⟨.fn, 1, 8, [.nilf]⟩ := tok_of (by kernel_rfl)
theorem tok173 : TOK Tryz.prog 173 ⟨.int .u32, 1, 4, [.int .u32 0]⟩ := tok_of (by kernel_rfl)
theorem tok174 : TOK Tryz.prog 174 ⟨.fn, 1, 8, [.nilf]⟩ := tok_of (by kernel_rfl)
theorem tok175 : TOK Tryz.prog 175 ⟨.fn, 1, 8, [.nilf]⟩ := tok_of (by kernel_rfl)
theorem tok176 : TOK Tryz.prog 176 ⟨.fn, 1, 8, [.nilf]⟩ := tok_of (by kernel_rfl)
theorem tok177 : TOK Tryz.prog 177 ⟨.fn, 1, 8, [.nilf]⟩ := tok_of (by kernel_rfl)
theorem tok178 : TOK Tryz.prog 178 ⟨.fn, 1, 8, [.nilf]⟩ := tok_of (by kernel_rfl)
theorem tok179 : TOK Tryz.prog 179 ⟨.arr 256 5, 256, 256, [.int .u8 0, .int .u8 0, .int .u8 0, .int .u8 0, .int .u8 0, .int .u8 0, .int .u8 0, .int .u8 0, .int .u8 0, .int .u8 0, .int .u8 0, .int .u8 0, .int .u8 0, .int .u8 0, .int .u8 0, .int .u8 0, .int .u8 0, .int .u8 0, .int .u8 0, .int .u8 0, .int .u8 0, .int .u8 0, .int .u8 0, .int .u8 0, .int .u8 0, .int .u8 0, .int .u8 0, .int .u8 0, .int .u8 0, .int .u8 0, .int .u8 0, .int .u8 0, .int .u8 0, .int .u8 0, .int .u8 0, .int .u8 0, .int .u8 0, .int .u8 0, .int .u8 0, .int .u8 0, .int .u8 0, .int .u8 0, .int .u8 0, .int .u8 0, .int .u8 0, .int .u8 0, .int .u8 0, .int .u8 0, .int .u8 0, .int .u8 0, .int .u8 0, .int .u8 0, .int .u8 0, .int .u8 0, .int .u8 0, .int .u8 0, .int .u8 0, .int .u8 0, .int .u8 0, .int .u8 0, .int .u8 0, .int .u8 0, .int .u8 0, .int .u8 0, .int .u8 0, .int .u8 0, .int .u8 0, .int .u8 0, .int .u8 0, .int .u8 0, .int .u8 0, .int .u8 0, .int .u8 0, .int .u8 0, .int .u8 0, .int .u8 0, .int .u8 0, .int .u8 0, .int .u8 0, .int .u8 0, .int .u8 0, .int .u8 0, .int .u8 0, .int .u8 0, .int .u8 0, .int .u8 0, .int .u8 0, .int .u8 0, .int .u8 0, .int .u8 0, .int .u8 0, .int .u8 0, .int .u8 0, .int .u8 0, .int .u8 0, .int .u8 0, .int .u8 0, .int .u8 0, .int .u8 0, .int .u8 0, .int .u8 0, .int .u8 0, .int .u8 0, .int .u8 0, .int .u8 0, .int .u8 0, .int .u8 0, .int .u8 0, .int .u8 0, .int .u8 0, .int .u8 0, .int .u8 0, .int .u8 0, .int .u8 0, .int .u8 0, .int .u8 0, .int .u8 0, .int .u8 0, .int .u8 0, .int .u8 0, .int .u8 0, .int .u8 0, .int .u8 0, .int .u8 0, .int .u8 0, .int .u8 0, .int .u8 0, .int .u8 0, .int .u8 0, .int .u8 0, .int .u8 0, .int .u8 0, .int .u8 0, .int .u8 0, .int .u8 0, .int .u8 0, .int .u8 0, .int .u8 0, .int .u8 0, .int .u8 0, .int .u8 0, .int .u8 0, .int .u8 0, .int .u8 0, .int .u8 0, .int .u8 0, .int .u8 0, .int .u8 0, .int .u8 0, .int .u8 0, .int .u8 0, .int .u8 0, .int .u8 0, .int .u8 0, .int .u8 0, .int .u8 0, .int .u8 0, .int .u8 0, .int .u8 0, .int .u8 0, .int .u8 0, .int .u8 0, .int .u8 0, .int .u8 0, .int .u8 0, .int .u8 0, .int .u8 0, .int .u8 0, .int .u8 0, .int .u8 0, .int .u8 0, .int .u8 0, .int .u8 0, .int .u8 0, .int .u8 0, .int .u8 0, .int .u8 0, .int .u8 0, .int .u8 0, .int .u8 0, .int .u8 0, .int .u8 0, .int .u8 0, .int .u8 0, .int .u8 0, .int .u8 0, .int .u8 0, .int .u8 0, .int .u8 0, .int .u8 0, .int .u8 0, .int .u8 0, .int .u8 0, .int .u8 0, .int .u8 0, .int .u8 0, .int .u8 0, .int .u8 0, .int .u8 0, .int .u8 0, .int .u8 0, .int .u8 0, .int .u8 0, .int .u8 0, .int .u8 0, .int .u8 0, .int .u8 0, .int .u8 0, .int .u8 0, .int .u8 0, .int .u8 0, .int .u8 0, .int .u8 0, .int .u8 0, .int .u8 0, .int .u8 0, .int .u8 0, .int .u8 0, .int .u8 0, .int .u8 0, .int .u8 0, .int .u8 0, .int .u8 0, .int .u8 0, .int .u8 0, .int .u8 0, .int .u8 0, .int .u8 0, .int .u8 0, .int .u8 0, .int .u8 0, .int .u8 0, .int .u8 0, .int .u8 0, .int .u8 0, .int .u8 0, .int .u8 0, .int .u8 0, .int .u8 0, .int .u8 0, .int .u8 0, .int .u8 0, .int .u8 0, .int .u8 0, .int .u8 0, .int .u8 0, .int .u8 0, .int .u8 0, .int .u8 0, .int .u8 0, .int .u8 0, .int .u8 0, .int .u8 0, .int .u8 0, .int .u8 0, .int .u8 0]⟩ := tok_of (by kernel_rfl)
theorem tok180 : TOK Tryz.prog 180 ⟨.st [(0, 5), (1, 5)], 2, 2, [.int .u8 0, .int .u8 0]⟩ := tok_of (by kernel_rfl)
theorem tok181 : TOK Tryz.prog 181 ⟨.st [(0, 5), (1, 5)], 2, 2, [.int .u8 0, .int .u8 0]⟩ := tok_of (by kernel_rfl)
theorem tok182 : TOK Tryz.prog 182 ⟨.arr 16 181, 32, 32, [.int .u8 0, .int .u8 0, .int .u8 0, .int .u8 0, .int .u8 0, .int .u8 0, .int .u8 0, .int .u8 0, .int .u8 0, .int .u8 0, .int .u8 0, .int .u8 0, .int .u8 0, .int .u8 0, .int .u8 0, .int .u8 0, .int .u8 0, .int .u8 0, .int .u8 0, .int .u8 0, .int .u8 0, .int .u8 0, .int .u8 0, .int .u8 0, .int .u8 0, .int .u8 0, .int .u8 0, .int .u8 0, .int .u8 0, .int .u8 0, .int .u8 0, .int .u8 0]⟩ := tok_of (by kernel_rfl)
theorem tok183 : TOK Tryz.prog 183 ⟨.int .u64, 1, 8, [.int .u64 0]⟩ := tok_of (by kernel_rfl)
theorem tok184 : TOK Tryz.prog 184 ⟨.fn, 1, 8, [.nilf]⟩ := tok_of (by kernel_rfl)
theorem tok185 : TOK Tryz.prog 185 ⟨.fn, 1, 8, [.nilf]⟩ := tok_of (by kernel_rfl)
theorem tok186 : TOK Tryz.prog 186 ⟨.int .u64, 1, 8, [.int .u64 0]⟩ := tok_of (by kernel_rfl)
theorem tok187 : TOK Tryz.prog 187 ⟨.fn, 1, 8, [.nilf]⟩ := tok_of (by kernel_rfl)
theorem tok189 : TOK Tryz.prog 189 ⟨.fn, 1, 8, [.nilf]⟩ := tok_of (by kernel_rfl)
theorem tok190 : TOK Tryz.prog 190 ⟨.fn, 1, 8, [.nilf]⟩ := tok_of (by kernel_rfl)
theorem tok191 : TOK Tryz.prog 191 ⟨.fn, 1, 8, [.nilf]⟩ := tok_of (by kernel_rfl)
theorem tok192 : TOK Tryz.prog 192 ⟨.st [(0, 17), (1, 17), (2, 17), (3, 9)], 4, 40, [.nilp, .nilp, .nilp, .str []]⟩ := tok_of (by kernel_rfl)
theorem tok193 : TOK Tryz.prog 193 ⟨.st [(0, 17), (1, 17), (2, 17), (3, 9)], 4, 40, [.nilp, .nilp, .nilp, .str []]⟩ := tok_of (by kernel_rfl)
theorem tok194 : TOK Tryz.prog 194 ⟨.arr 0 16, 0, 0, []⟩ := tok_of (by kernel_rfl)
theorem tok195 : TOK Tryz.prog 195 ⟨.st [(0, 194)], 0, 0, []⟩ := tok_of (by kernel_rfl)
theorem tok196 : TOK Tryz.prog 196 ⟨.st [(0, 194)], 0, 0, []⟩ := tok_of (by kernel_rfl)
theorem tok197 : TOK Tryz.prog 197 ⟨.int .u8, 1, 1, [.int .u8 0]⟩ := tok_of (by kernel_rfl)
theorem tok198 : TOK Tryz.prog 198 ⟨.int .u8, 1, 1, [.int .u8 0]⟩ := tok_of (by kernel_rfl)
theorem tok199 : TOK Tryz.prog 199 ⟨.fn, 1, 8, [.nilf]⟩ := tok_of (by kernel_rfl)
theorem tok200 : TOK Tryz.prog 200 ⟨.ptr 5, 1, 8, [.nilp]⟩ := tok_of (by kernel_rfl)
theorem tok201 : TOK Tryz.prog 201 ⟨.int .i32, 1, 4, [.int .i32 0]⟩ := tok_of (by kernel_rfl)
theorem tok202 : TOK Tryz.prog 202 ⟨.int .i32, 1, 4, [.int .i32 0]⟩ := tok_of (by kernel_rfl)
theorem tok203 : TOK Tryz.prog 203 ⟨.st [(0, 12), (1, 12), (2, 173), (3, 197), (4, 5), (5, 5), (6, 198), (7, 199), (8, 200), (9, 201), (10, 202)], 11, 48, [.int .u64 0, .int .u64 0, .int .u32 0, .int .u8 0, .int .u8 0, .int .u8 0, .int .u8 0, .nilf, .nilp, .int .i32 0, .int .i32 0]⟩ := tok_of (by kernel_rfl)
theorem tok204 : TOK Tryz.prog 204 ⟨.st [(0, 12), (1, 12), (2, 173), (3, 197), (4, 5), (5, 5), (6, 198), (7, 199), (8, 200), (9, 201), (10, 202)], 11, 48, [.int .u64 0, .int .u64 0, .int .u32 0, .int .u8 0, .int .u8 0, .int .u8 0, .int .u8 0, .nilf, .nilp, .int .i32 0, .int .i32 0]⟩ := tok_of (by kernel_rfl)
def T : List (Nat × TI) := [(1, ⟨.fn, 1, 8, [.nilf]⟩),
  (2, ⟨.int .i64, 1, 8, [.int .i64 0]⟩),
  (3, ⟨.int .i64, 1, 8, [.int .i64 0]⟩),
  (4, ⟨.bool, 1, 1, [.bool false]⟩),
  (5, ⟨.int .u8, 1, 1, [.int .u8 0]⟩),
  (6, ⟨.int .u8, 1, 1, [.int .u8 0]⟩),
  (7, ⟨.st [(0, 2), (1, 3), (2, 4), (3, 6)], 4, 24, [.int .i64 0, .int .i64 0, .bool false, .int .u8 0]⟩),
  (8, ⟨.st [(0, 2), (1, 3), (2, 4), (3, 6)], 4, 24, [.int .i64 0, .int .i64 0, .bool false, .int .u8 0]⟩),
  (9, ⟨.str, 1, 16, [.str []]⟩),
  (10, ⟨.str, 1, 16, [.str []]⟩),
  (11, ⟨.str, 1, 16, [.str []]⟩),
  (12, ⟨.int .u64, 1, 8, [.int .u64 0]⟩),
  (13, ⟨.st [(0, 9), (1, 12)], 2, 24, [.str [], .int .u64 0]⟩),
  (14, ⟨.st [(0, 9), (1, 12)], 2, 24, [.str [], .int .u64 0]⟩),
  (15, ⟨.ptr 193, 1, 8, [.nilp]⟩),
  (16, ⟨.ptr 196, 1, 8, [.nilp]⟩),
  (17, ⟨.ptr 204, 1, 8, [.nilp]⟩),
  (18, ⟨.st [(0, 17)], 1, 8, [.nilp]⟩),
  (19, ⟨.st [(0, 17)], 1, 8, [.nilp]⟩),
  (20, ⟨.iface, 1, 16, [.nili]⟩),
  (21, ⟨.int .i32, 1, 4, [.int .i32 0]⟩),
  (22, ⟨.sl 3, 1, 24, [.nils]⟩),
  (23, ⟨.sl 52, 1, 24, [.nils]⟩),
  (24, ⟨.st [(0, 3), (1, 23)], 2, 32, [.int .i64 0, .nils]⟩),
  (25, ⟨.st [(0, 3), (1, 23)], 2, 32, [.int .i64 0, .nils]⟩),
  (26, ⟨.fn, 1, 8, [.nilf]⟩),
  (27, ⟨.fn, 1, 8, [.nilf]⟩),
  (28, ⟨.ptr 68, 1, 8, [.nilp]⟩),
  (29, ⟨.fn, 1, 8, [.nilf]⟩),
  (30, ⟨.sl 36, 1, 24, [.nils]⟩),
  (31, ⟨.fn, 1, 8, [.nilf]⟩),
  (32, ⟨.fn, 1, 8, [.nilf]⟩),
  (33, ⟨.fn, 1, 8, [.nilf]⟩),
  (34, ⟨.sl 66, 1, 24, [.nils]⟩),
  (35, ⟨.st [(0, 3), (1, 9), (2, 34)], 3, 48, [.int .i64 0, .str [], .nils]⟩),
  (36, ⟨.st [(0, 3), (1, 9), (2, 34)], 3, 48, [.int .i64 0, .str [], .nils]⟩),
  (37, ⟨.st [(0, 3), (1, 3), (2, 3), (3, 22)], 4, 48, [.int .i64 0, .int .i64 0, .int .i64 0, .nils]⟩),
  (38, ⟨.st [(0, 3), (1, 3), (2, 3), (3, 22)], 4, 48, [.int .i64 0, .int .i64 0, .int .i64 0, .nils]⟩),
  (39, ⟨.int .i64, 1, 8, [.int .i64 0]⟩),
  (41, ⟨.fn, 1, 8, [.nilf]⟩),
  (43, ⟨.fn, 1, 8, [.nilf]⟩),
  (45, ⟨.fn, 1, 8, [.nilf]⟩),
  (46, ⟨.fn, 1, 8, [.nilf]⟩),
  (47, ⟨.fn, 1, 8, [.nilf]⟩),
  (48, ⟨.fn, 1, 8, [.nilf]⟩),
  (49, ⟨.st [(0, 3), (1, 3)], 2, 16, [.int .i64 0, .int .i64 0]⟩),
  (50, ⟨.st [(0, 3), (1, 3)], 2, 16, [.int .i64 0, .int .i64 0]⟩),
  (51, ⟨.st [(0, 50), (2, 50)], 4, 32, [.int .i64 0, .int .i64 0, .int .i64 0, .int .i64 0]⟩),
  (52, ⟨.st [(0, 50), (2, 50)], 4, 32, [.int .i64 0, .int .i64 0, .int .i64 0, .int .i64 0]⟩),
  (53, ⟨.fn, 1, 8, [.nilf]⟩),
  (54, ⟨.sl 22, 1, 24, [.nils]⟩),
  (56, ⟨.fn, 1, 8, [.nilf]⟩),
  (58, ⟨.fn, 1, 8, [.nilf]⟩),
  (59, ⟨.fn, 1, 8, [.nilf]⟩),
  (60, ⟨.fn, 1, 8, [.nilf]⟩),
  (61, ⟨.fn, 1, 8, [.nilf]⟩),
  (62, ⟨.st [(0, 4), (1, 9)], 2, 24, [.bool false, .str []]⟩),
  (63, ⟨.st [(0, 4), (1, 9)], 2, 24, [.bool false, .str []]⟩),
  (64, ⟨.sl 63, 1, 24, [.nils]⟩),
  (65, ⟨.st [(0, 9), (1, 64)], 2, 40, [.str [], .nils]⟩),
  (66, ⟨.st [(0, 9), (1, 64)], 2, 40, [.str [], .nils]⟩),
  (67, ⟨.st [(0, 22), (1, 3)], 2, 32, [.nils, .int .i64 0]⟩),
  (68, ⟨.st [(0, 22), (1, 3)], 2, 32, [.nils, .int .i64 0]⟩),
  (69, ⟨.fn, 1, 8, [.nilf]⟩),
  (70, ⟨.fn, 1, 8, [.nilf]⟩),
  (71, ⟨.sl 75, 1, 24, [.nils]⟩),
  (72, ⟨.fn, 1, 8, [.nilf]⟩),
  (73, ⟨.fn, 1, 8, [.nilf]⟩),
  (74, ⟨.st [(0, 50), (2, 50), (4, 3), (5, 3), (6, 3), (7, 3), (8, 3), (9, 3), (10, 3)], 11, 88, [.int .i64 0, .int .i64 0, .int .i64 0, .int .i64 0, .int .i64 0, .int .i64 0, .int .i64 0, .int .i64 0, .int .i64 0, .int .i64 0, .int .i64 0]⟩),
  (75, ⟨.st [(0, 50), (2, 50), (4, 3), (5, 3), (6, 3), (7, 3), (8, 3), (9, 3), (10, 3)], 11, 88, [.int .i64 0, .int .i64 0, .int .i64 0, .int .i64 0, .int .i64 0, .int .i64 0, .int .i64 0, .int .i64 0, .int .i64 0, .int .i64 0, .int .i64 0]⟩),
  (76, ⟨.ptr 121, 1, 8, [.nilp]⟩),
  (77, ⟨.fn, 1, 8, [.nilf]⟩),
  (78, ⟨.fn, 1, 8, [.nilf]⟩),
  (79, ⟨.sl 82, 1, 24, [.nils]⟩),
  (80, ⟨.fn, 1, 8, [.nilf]⟩),
  (81, ⟨.fn, 1, 8, [.nilf]⟩),
  (82, ⟨.sl 4, 1, 24, [.nils]⟩),
  (83, ⟨.fn, 1, 8, [.nilf]⟩),
  (85, ⟨.fn, 1, 8, [.nilf]⟩),
  (87, ⟨.fn, 1, 8, [.nilf]⟩),
  (88, ⟨.fn, 1, 8, [.nilf]⟩),
  (89, ⟨.fn, 1, 8, [.nilf]⟩),
  (90, ⟨.fn, 1, 8, [.nilf]⟩),
  (91, ⟨.fn, 1, 8, [.nilf]⟩),
  (92, ⟨.fn, 1, 8, [.nilf]⟩),
  (93, ⟨.fn, 1, 8, [.nilf]⟩),
  (95, ⟨.fn, 1, 8, [.nilf]⟩),
  (96, ⟨.fn, 1, 8, [.nilf]⟩),
  (98, ⟨.fn, 1, 8, [.nilf]⟩),
  (99, ⟨.fn, 1, 8, [.nilf]⟩),
  (101, ⟨.fn, 1, 8, [.nilf]⟩),
  (102, ⟨.fn, 1, 8, [.nilf]⟩),
  (103, ⟨.fn, 1, 8, [.nilf]⟩),
  (104, ⟨.fn, 1, 8, [.nilf]⟩),
  (105, ⟨.fn, 1, 8, [.nilf]⟩),
  (106, ⟨.ptr 36, 1, 8, [.nilp]⟩),
  (107, ⟨.fn, 1, 8, [.nilf]⟩),
  (108, ⟨.fn, 1, 8, [.nilf]⟩),
  (109, ⟨.sl 9, 1, 24, [.nils]⟩),
  (111, ⟨.fn, 1, 8, [.nilf]⟩),
  (112, ⟨.sl 173, 1, 24, [.nils]⟩),
  (113, ⟨.st [(0, 4), (1, 112)], 2, 32, [.bool false, .nils]⟩),
  (114, ⟨.st [(0, 4), (1, 112)], 2, 32, [.bool false, .nils]⟩),
  (115, ⟨.st [(0, 114), (2, 114)], 4, 64, [.bool false, .nils, .bool false, .nils]⟩),
  (116, ⟨.st [(0, 114), (2, 114)], 4, 64, [.bool false, .nils, .bool false, .nils]⟩),
  (117, ⟨.fn, 1, 8, [.nilf]⟩),
  (118, ⟨.fn, 1, 8, [.nilf]⟩),
  (119, ⟨.sl 125, 1, 24, [.nils]⟩),
  (120, ⟨.st [(0, 119)], 1, 24, [.nils]⟩),
  (121, ⟨.st [(0, 119)], 1, 24, [.nils]⟩),
  (122, ⟨.map 3 3, 1, 8, [.nilm]⟩),
  (123, ⟨.map 9 3, 1, 8, [.nilm]⟩),
  (124, ⟨.st [(0, 36), (3, 3), (4, 3), (5, 3), (6, 22), (7, 22), (8, 123)], 9, 128, [.int .i64 0, .str [], .nils, .int .i64 0, .int .i64 0, .int .i64 0, .nils, .nils, .nilm]⟩),
  (125, ⟨.st [(0, 36), (3, 3), (4, 3), (5, 3), (6, 22), (7, 22), (8, 123)], 9, 128, [.int .i64 0, .str [], .nils, .int .i64 0, .int .i64 0, .int .i64 0, .nils, .nils, .nilm]⟩),
  (126, ⟨.fn, 1, 8, [.nilf]⟩),
  (127, ⟨.fn, 1, 8, [.nilf]⟩),
  (128, ⟨.fn, 1, 8, [.nilf]⟩),
  (129, ⟨.fn, 1, 8, [.nilf]⟩),
  (130, ⟨.sl 132, 1, 24, [.nils]⟩),
  (131, ⟨.fn, 1, 8, [.nilf]⟩),
  (132, ⟨.map 9 4, 1, 8, [.nilm]⟩),
  (133, ⟨.fn, 1, 8, [.nilf]⟩),
  (134, ⟨.fn, 1, 8, [.nilf]⟩),
  (135, ⟨.fn, 1, 8, [.nilf]⟩),
  (136, ⟨.fn, 1, 8, [.nilf]⟩),
  (137, ⟨.fn, 1, 8, [.nilf]⟩),
  (138, ⟨.fn, 1, 8, [.nilf]⟩),
  (139, ⟨.fn, 1, 8, [.nilf]⟩),
  (140, ⟨.fn, 1, 8, [.nilf]⟩),
  (142, ⟨.fn, 1, 8, [.nilf]⟩),
  (143, ⟨.map 9 22, 1, 8, [.nilm]⟩),
  (144, ⟨.fn, 1, 8, [.nilf]⟩),
  (145, ⟨.fn, 1, 8, [.nilf]⟩),
  (146, ⟨.sl 143, 1, 24, [.nils]⟩),
  (147, ⟨.fn, 1, 8, [.nilf]⟩),
  (148, ⟨.ptr 54, 1, 8, [.nilp]⟩),
  (149, ⟨.fn, 1, 8, [.nilf]⟩),
  (150, ⟨.fn, 1, 8, [.nilf]⟩),
  (151, ⟨.fn, 1, 8, [.nilf]⟩),
  (152, ⟨.fn, 1, 8, [.nilf]⟩),
  (153, ⟨.ptr 125, 1, 8, [.nilp]⟩),
  (154, ⟨.fn, 1, 8, [.nilf]⟩),
  (155, ⟨.fn, 1, 8, [.nilf]⟩),
  (156, ⟨.fn, 1, 8, [.nilf]⟩),
  (157, ⟨.fn, 1, 8, [.nilf]⟩),
  (158, ⟨.fn, 1, 8, [.nilf]⟩),
  (159, ⟨.fn, 1, 8, [.nilf]⟩),
  (160, ⟨.fn, 1, 8, [.nilf]⟩),
  (161, ⟨.fn, 1, 8, [.nilf]⟩),
  (162, ⟨.fn, 1, 8, [.nilf]⟩),
  (163, ⟨.fn, 1, 8, [.nilf]⟩),
  (164, ⟨.fn, 1, 8, [.nilf]⟩),
  (165, ⟨.fn, 1, 8, [.nilf]⟩),
  (166, ⟨.fn, 1, 8, [.nilf]⟩),
  (167, ⟨.fn, 1, 8, [.nilf]⟩),
  (168, ⟨.fn, 1, 8, [.nilf]⟩),
  (170, ⟨.fn, 1, 8, [.nilf]⟩),
  (171, ⟨.fn, 1, 8, [.nilf]⟩),
  (172, ⟨.fn, 1, 8, [.nilf]⟩),
  (173, ⟨.int .u32, 1, 4, [.int .u32 0]⟩),
  (174, ⟨.fn, 1, 8, [.nilf]⟩),
  (175, ⟨.fn, 1, 8, [.nilf]⟩),
  (176, ⟨.fn, 1, 8, [.nilf]⟩),
  (177, ⟨.fn, 1, 8, [.nilf]⟩),
  (178, ⟨.fn, 1, 8, [.nilf]⟩),
  (179, ⟨.arr 256 5, 256, 256, [.int .u8 0, .int .u8 0, .int .u8 0, .int .u8 0, .int .u8 0, .int .u8 0, .int .u8 0, .int .u8 0, .int .u8 0, .int .u8 0, .int .u8 0, .int .u8 0, .int .u8 0, .int .u8 0, .int .u8 0, .int .u8 0, .int .u8 0, .int .u8 0, .int .u8 0, .int .u8 0, .int .u8 0, .int .u8 0, .int .u8 0, .int .u8 0, .int .u8 0, .int .u8 0, .int .u8 0, .int .u8 0, .int .u8 0, .int .u8 0, .int .u8 0, .int .u8 0, .int .u8 0, .int .u8 0, .int .u8 0, .int .u8 0, .int .u8 0, .int .u8 0, .int .u8 0, .int .u8 0, .int .u8 0, .int .u8 0, .int .u8 0, .int .u8 0, .int .u8 0, .int .u8 0, .int .u8 0, .int .u8 0, .int .u8 0, .int .u8 0, .int .u8 0, .int .u8 0, .int .u8 0, .int .u8 0, .int .u8 0, .int .u8 0, .int .u8 0, .int .u8 0, .int .u8 0, .int .u8 0, .int .u8 0, .int .u8 0, .int .u8 0, .int .u8 0, .int .u8 0, .int .u8 0, .int .u8 0, .int .u8 0, .int .u8 0, .int .u8 0, .int .u8 0, .int .u8 0, .int .u8 0, .int .u8 0, .int .u8 0, .int .u8 0, .int .u8 0, .int .u8 0, .int .u8 0, .int .u8 0, .int .u8 0, .int .u8 0, .int .u8 0, .int .u8 0, .int .u8 0, .int .u8 0, .int .u8 0, .int .u8 0, .int .u8 0, .int .u8 0, .int .u8 0, .int .u8 0, .int .u8 0, .int .u8 0, .int .u8 0, .int .u8 0, .int .u8 0, .int .u8 0, .int .u8 0, .int .u8 0, .int .u8 0, .int .u8 0, .int .u8 0, .int .u8 0, .int .u8 0, .int .u8 0, .int .u8 0, .int .u8 0, .int .u8 0, .int .u8 0, .int .u8 0, .int .u8 0, .int .u8 0, .int .u8 0, .int .u8 0, .int .u8 0, .int .u8 0, .int .u8 0, .int .u8 0, .int .u8 0, .int .u8 0, .int .u8 0, .int .u8 0, .int .u8 0, .int .u8 0, .int .u8 0, .int .u8 0, .int .u8 0, .int .u8 0, .int .u8 0, .int .u8 0, .int .u8 0, .int .u8 0, .int .u8 0, .int .u8 0, .int .u8 0, .int .u8 0, .int .u8 0, .int .u8 0, .int .u8 0, .int .u8 0, .int .u8 0, .int .u8 0, .int .u8 0, .int .u8 0, .int .u8 0, .int .u8 0, .int .u8 0, .int .u8 0, .int .u8 0, .int .u8 0, .int .u8 0, .int .u8 0, .int .u8 0, .int .u8 0, .int .u8 0, .int .u8 0, .int .u8 0, .int .u8 0, .int .u8 0, .int .u8 0, .int .u8 0, .int .u8 0, .int .u8 0, .int .u8 0, .int .u8 0, .int .u8 0, .int .u8 0, .int .u8 0, .int .u8 0, .int .u8 0, .int .u8 0, .int .u8 0, .int .u8 0, .int .u8 0, .int .u8 0, .int .u8 0, .int .u8 0, .int .u8 0, .int .u8 0, .int .u8 0, .int .u8 0, .int .u8 0, .int .u8 0, .int .u8 0, .int .u8 0, .int .u8 0, .int .u8 0, .int .u8 0, .int .u8 0, .int .u8 0, .int .u8 0, .int .u8 0, .int .u8 0, .int .u8 0, .int .u8 0, .int .u8 0, .int .u8 0, .int .u8 0, .int .u8 0, .int .u8 0, .int .u8 0, .int .u8 0, .int .u8 0, .int .u8 0, .int .u8 0, .int .u8 0, .int .u8 0, .int .u8 0, .int .u8 0, .int .u8 0, .int .u8 0, .int .u8 0, .int .u8 0, .int .u8 0, .int .u8 0, .int .u8 0, .int .u8 0, .int .u8 0, .int .u8 0, .int .u8 0, .int .u8 0, .int .u8 0, .int .u8 0, .int .u8 0, .int .u8 0, .int .u8 0, .int .u8 0, .int .u8 0, .int .u8 0, .int .u8 0, .int .u8 0, .int .u8 0, .int .u8 0, .int .u8 0, .int .u8 0, .int .u8 0, .int .u8 0, .int .u8 0, .int .u8 0, .int .u8 0, .int .u8 0, .int .u8 0, .int .u8 0, .int .u8 0, .int .u8 0, .int .u8 0, .int .u8 0, .int .u8 0, .int .u8 0, .int .u8 0, .int .u8 0, .int .u8 0, .int .u8 0, .int .u8 0, .int .u8 0]⟩),
  (180, ⟨.st [(0, 5), (1, 5)], 2, 2, [.int .u8 0, .int .u8 0]⟩),
  (181, ⟨.st [(0, 5), (1, 5)], 2, 2, [.int .u8 0, .int .u8 0]⟩),
  (182, ⟨.arr 16 181, 32, 32, [.int .u8 0, .int .u8 0, .int .u8 0, .int .u8 0, .int .u8 0, .int .u8 0, .int .u8 0, .int .u8 0, .int .u8 0, .int .u8 0, .int .u8 0, .int .u8 0, .int .u8 0, .int .u8 0, .int .u8 0, .int .u8 0, .int .u8 0, .int .u8 0, .int .u8 0, .int .u8 0, .int .u8 0, .int .u8 0, .int .u8 0, .int .u8 0, .int .u8 0, .int .u8 0, .int .u8 0, .int .u8 0, .int .u8 0, .int .u8 0, .int .u8 0, .int .u8 0]⟩),
  (183, ⟨.int .u64, 1, 8, [.int .u64 0]⟩),
  (184, ⟨.fn, 1, 8, [.nilf]⟩),
  (185, ⟨.fn, 1, 8, [.nilf]⟩),
  (186, ⟨.int .u64, 1, 8, [.int .u64 0]⟩),
  (187, ⟨.fn, 1, 8, [.nilf]⟩),
  (189, ⟨.fn, 1, 8, [.nilf]⟩),
  (190, ⟨.fn, 1, 8, [.nilf]⟩),
  (191, ⟨.fn, 1, 8, [.nilf]⟩),
  (192, ⟨.st [(0, 17), (1, 17), (2, 17), (3, 9)], 4, 40, [.nilp, .nilp, .nilp, .str []]⟩),
  (193, ⟨.st [(0, 17), (1, 17), (2, 17), (3, 9)], 4, 40, [.nilp, .nilp, .nilp, .str []]⟩),
  (194, ⟨.arr 0 16, 0, 0, []⟩),
  (195, ⟨.st [(0, 194)], 0, 0, []⟩),
  (196, ⟨.st [(0, 194)], 0, 0, []⟩),
  (197, ⟨.int .u8, 1, 1, [.int .u8 0]⟩),
  (198, ⟨.int .u8, 1, 1, [.int .u8 0]⟩),
  (199, ⟨.fn, 1, 8, [.nilf]⟩),
  (200, ⟨.ptr 5, 1, 8, [.nilp]⟩),
  (201, ⟨.int .i32, 1, 4, [.int .i32 0]⟩),
  (202, ⟨.int .i32, 1, 4, [.int .i32 0]⟩),
  (203, ⟨.st [(0, 12), (1, 12), (2, 173), (3, 197), (4, 5), (5, 5), (6, 198), (7, 199), (8, 200), (9, 201), (10, 202)], 11, 48, [.int .u64 0, .int .u64 0, .int .u32 0, .int .u8 0, .int .u8 0, .int .u8 0, .int .u8 0, .nilf, .nilp, .int .i32 0, .int .i32 0]⟩),
  (204, ⟨.st [(0, 12), (1, 12), (2, 173), (3, 197), (4, 5), (5, 5), (6, 198), (7, 199), (8, 200), (9, 201), (10, 202)], 11, 48, [.int .u64 0, .int .u64 0, .int .u32 0, .int .u8 0, .int .u8 0, .int .u8 0, .int .u8 0, .nilf, .nilp, .int .i32 0, .int .i32 0]⟩)]
theorem env : Env Tryz.prog T := ⟨table_cons tok1 (table_cons tok2 (table_cons tok3 (table_cons tok4 (table_cons tok5 (table_cons tok6 (table_cons tok7 (table_cons tok8 (table_cons tok9 (table_cons tok10 (table_cons tok11 (table_cons tok12 (table_cons tok13 (table_cons tok14 (table_cons tok15 (table_cons tok16 (table_cons tok17 (table_cons tok18 (table_cons tok19 (table_cons tok20 (table_cons tok21 (table_cons tok22 (table_cons tok23 (table_cons tok24 (table_cons tok25 (table_cons tok26 (table_cons tok27 (table_cons tok28 (table_cons tok29 (table_cons tok30 (table_cons tok31 (table_cons tok32 (table_cons tok33 (table_cons tok34 (table_cons tok35 (table_cons tok36 (table_cons tok37 (table_cons tok38 (table_cons tok39 (table_cons tok41 (table_cons tok43 (table_cons tok45 (table_cons tok46 (table_cons tok47 (table_cons tok48 (table_cons tok49 (table_cons tok50 (table_cons tok51 (table_cons tok52 (table_cons tok53 (table_cons tok54 (table_cons tok56 (table_cons tok58 (table_cons tok59 (table_cons tok60 (table_cons tok61 (table_cons tok62 (table_cons tok63 (table_cons tok64 (table_cons tok65 (table_cons tok66 (table_cons tok67 (table_cons tok68 (table_cons tok69 (table_cons tok70 (table_cons tok71 (table_cons tok72 (table_cons tok73 (table_cons tok74 (table_cons tok75 (table_cons tok76 (table_cons tok77 (table_cons tok78 (table_cons tok79 (table_cons tok80 (table_cons tok81 (table_cons tok82 (table_cons tok83 (table_cons tok85 (table_cons tok87 (table_cons tok88 (table_cons tok89 (table_cons tok90 (table_cons tok91 (table_cons tok92 (table_cons tok93 (table_cons tok95 (table_cons tok96 (table_cons tok98 (table_cons tok99 (table_cons tok101 (table_cons tok102 (table_cons tok103 (table_cons tok104 (table_cons tok105 (table_cons tok106 (table_cons tok107 (table_cons tok108 (table_cons tok109 (table_cons tok111 (table_cons tok112 (table_cons tok113 (table_cons tok114 (table_cons tok115 (table_cons tok116 (table_cons tok117 (table_cons tok118 (table_cons tok119 (table_cons tok120 (table_cons tok121 (table_cons tok122 (table_cons tok123 (table_cons tok124 (table_cons tok125 (table_cons tok126 (table_cons tok127 (table_cons tok128 (table_cons tok129 (table_cons tok130 (table_cons tok131 (table_cons tok132 (table_cons tok133 (table_cons tok134 (table_cons tok135 (table_cons tok136 (table_cons tok137 (table_cons tok138 (table_cons tok139 (table_cons tok140 (table_cons tok142 (table_cons tok143 (table_cons tok144 (table_cons tok145 (table_cons tok146 (table_cons tok147 (table_cons tok148 (table_cons tok149 (table_cons tok150 (table_cons tok151 (table_cons tok152 (table_cons tok153 (table_cons tok154 (table_cons tok155 (table_cons tok156 (table_cons tok157 (table_cons tok158 (table_cons tok159 (table_cons tok160 (table_cons tok161 (table_cons tok162 (table_cons tok163 (table_cons tok164 (table_cons tok165 (table_cons tok166 (table_cons tok167 (table_cons tok168 (table_cons tok170 (table_cons tok171 (table_cons tok172 (table_cons tok173 (table_cons tok174 (table_cons tok175 (table_cons tok176 (table_cons tok177 (table_cons tok178 (table_cons tok179 (table_cons tok180 (table_cons tok181 (table_cons tok182 (table_cons tok183 (table_cons tok184 (table_cons tok185 (table_cons tok186 (table_cons tok187 (table_cons tok189 (table_cons tok190 (table_cons tok191 (table_cons tok192 (table_cons tok193 (table_cons tok194 (table_cons tok195 (table_cons tok196 (table_cons tok197 (table_cons tok198 (table_cons tok199 (table_cons tok200 (table_cons tok201 (table_cons tok202 (table_cons tok203 (table_cons tok204 (table_nil)))))))))))))))))))))))))))))))))))))))))))))))))))))))))))))))))))))))))))))))))))))))))))))))))))))))))))))))))))))))))))))))))))))))))))))))))))))))))))))))))))))))))))))))))))))))))))))), by kernel_rfl⟩
end Go.Sx.Sp
namespace Go.Proofs
open Go.Shelf
def Tryz.laysValid_ren : Go.Shelf.Ren := ⟨fun | 196 => 111 | 259 => 121 | n => n, fun | 9 => 9 | 4 => 4 | 3 => 3 | 5 => 5 | 12 => 12 | 119 => 179 | 0 => 0 | 46 => 183 | 139 => 182 | 138 => 181 | 53 => 186 | n => n, fun | 3 => 0 | 4 => 1 | n => n⟩
theorem Tryz.laysValid : Go.Proofs.Lays.n196 Tryz.prog Tryz.laysValid_ren := {
  mixed := by kernel_rfl
  f196 := Tryz.func111.trans (congrArg some (by kernel_rfl))
  f259 := Tryz.func121.trans (congrArg some (by kernel_rfl))
  t0 := Tryz.underlying0
  a0 := Tryz.isAgg0
  z0 := Tryz.sizeOf0
  v0 := Tryz.zeroValue0
  t3 := Tryz.underlying3
  a3 := Tryz.isAgg3
  z3 := Tryz.sizeOf3
  v3 := Tryz.zeroValue3
  t4 := Tryz.underlying4
  a4 := Tryz.isAgg4
  z4 := Tryz.sizeOf4
  v4 := Tryz.zeroValue4
  t5 := Tryz.underlying5
  a5 := Tryz.isAgg5
  z5 := Tryz.sizeOf5
  v5 := Tryz.zeroValue5
  t9 := Tryz.underlying9
  a9 := Tryz.isAgg9
  z9 := Tryz.sizeOf9
  v9 := Tryz.zeroValue9
  t12 := Tryz.underlying12
  a12 := Tryz.isAgg12
  z12 := Tryz.sizeOf12
  v12 := Tryz.zeroValue12
  t46 := Tryz.underlying183
  a46 := Tryz.isAgg183
  z46 := Tryz.sizeOf183
  v46 := Tryz.zeroValue183
  t53 := Tryz.underlying186
  a53 := Tryz.isAgg186
  z53 := Tryz.sizeOf186
  v53 := Tryz.zeroValue186
  t119 := Tryz.underlying179
  a119 := Tryz.isAgg179
  z119 := Tryz.sizeOf179
  t138 := Tryz.underlying181
  a138 := Tryz.isAgg181
  z138 := Tryz.sizeOf181
  v138 := Tryz.zeroValue181
  t139 := Tryz.underlying182
  a139 := Tryz.isAgg182
  z139 := Tryz.sizeOf182
  v139 := Tryz.zeroValue182
  g3 := by kernel_rfl
  g4 := by kernel_rfl }
end Go.Proofs
namespace Go.Sx.Sp
open Go Go.Sx Go.Proofs Go.RowKit
def tabsOK (w : World) : Prop := Lib.Utf8Tabs 0 1 w
instance : Glob := ⟨tabsOK, [0, 1], fun w w' hs h => by
  have h0 := hs 0 (by simp)
  have h1 := hs 1 (by simp)
  refine ⟨fun c hc => ?_, fun i hi => ?_⟩
  · rw [cell?_of_heap h0]; exact h.1 c hc
  · rw [cell?_of_heap h1, cell?_of_heap h1]; exact h.2 i hi⟩
set_option maxRecDepth 1000000 in
theorem utf8_spec (s : List UInt8) : Spec Tryz.prog 111 [.str s] [] (.bool (Lib.validD s)) [] := by
  refine Spec.ofCalls (fun cargs w => enters_of Tryz.func111 (by kernel_rfl) rfl cargs w) fun w F m cargs hl ha hg => ?_
  match cargs, hl with
  | [c], _ =>
    obtain ⟨rfl, hs⟩ := (ha 0 (.str s) c rfl rfl).str_inv
    have hsz : (⟨s.toArray⟩ : ByteArray).size ≤ 9223372036854775807 := by
      have : maxLen = 9223372036854775807 := by unfold maxLen; rfl
      simpa [ByteArray.size, this] using hs
    refine (Any.utf8_ValidString Tryz.laysValid ⟨s.toArray⟩ w hsz hg).mono fun e w' ⟨he, hb⟩ => ?_
    exact ⟨_, he, fun w' F m => .bool _, hb⟩
end Go.Sx.Sp
