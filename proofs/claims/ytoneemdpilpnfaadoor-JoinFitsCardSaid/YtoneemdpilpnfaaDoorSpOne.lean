/- Types of the program, and library functions. -/
import Derived.Test.YtoneemdpilpnfaaDoorSxThree
import Derived.Test.YtoneemdpilpnfaaDoorProg
import Derived.Test.YtoneemdpilpnfaaDoorSxFour
import Derived.Test.YtoneemdpilpnfaaDoorSxFive
import Derived.Shelf.Unicode.ValidAny
import Derived.Lib.LaidTab
set_option linter.unusedVariables false
set_option linter.unusedSimpArgs false
namespace Go.Sx.Sp
open Go Go.Sx Go.Proofs
theorem tok1 : TOK Tryd.prog 1 ⟨.fn, 1, 8, [.nilf]⟩ := tok_of (by kernel_rfl)
theorem tok2 : TOK Tryd.prog 2 ⟨.int .i64, 1, 8, [.int .i64 0]⟩ := tok_of (by kernel_rfl)
theorem tok3 : TOK Tryd.prog 3 ⟨.int .i64, 1, 8, [.int .i64 0]⟩ := tok_of (by kernel_rfl)
theorem tok4 : TOK Tryd.prog 4 ⟨.bool, 1, 1, [.bool false]⟩ := tok_of (by kernel_rfl)
theorem tok5 : TOK Tryd.prog 5 ⟨.int .u8, 1, 1, [.int .u8 0]⟩ := tok_of (by kernel_rfl)
theorem tok6 : TOK Tryd.prog 6 ⟨.int .u8, 1, 1, [.int .u8 0]⟩ := tok_of (by kernel_rfl)
theorem tok7 : TOK Tryd.prog 7 ⟨.st [(0, 2), (1, 3), (2, 4), (3, 6)], 4, 24, [.int .i64 0, .int .i64 0, .bool false, .int .u8 0]⟩ := tok_of (by kernel_rfl)
theorem tok8 : TOK Tryd.prog 8 ⟨.st [(0, 2), (1, 3), (2, 4), (3, 6)], 4, 24, [.int .i64 0, .int .i64 0, .bool false, .int .u8 0]⟩ := tok_of (by kernel_rfl)
theorem tok9 : TOK Tryd.prog 9 ⟨.str, 1, 16, [.str []]⟩ := tok_of (by kernel_rfl)
theorem tok10 : TOK Tryd.prog 10 ⟨.str, 1, 16, [.str []]⟩ := tok_of (by kernel_rfl)
theorem tok11 : TOK Tryd.prog 11 ⟨.str, 1, 16, [.str []]⟩ := tok_of (by kernel_rfl)
theorem tok12 : TOK Tryd.prog 12 ⟨.int .u64, 1, 8, [.int .u64 0]⟩ := tok_of (by kernel_rfl)
theorem tok13 : TOK Tryd.prog 13 ⟨.st [(0, 9), (1, 12)], 2, 24, [.str [], .int .u64 0]⟩ := tok_of (by kernel_rfl)
theorem tok14 : TOK Tryd.prog 14 ⟨.st [(0, 9), (1, 12)], 2, 24, [.str [], .int .u64 0]⟩ := tok_of (by kernel_rfl)
theorem tok15 : TOK Tryd.prog 15 ⟨.ptr 219, 1, 8, [.nilp]⟩ := tok_of (by kernel_rfl)
theorem tok16 : TOK Tryd.prog 16 ⟨.ptr 222, 1, 8, [.nilp]⟩ := tok_of (by kernel_rfl)
theorem tok17 : TOK Tryd.prog 17 ⟨.ptr 230, 1, 8, [.nilp]⟩ := tok_of (by kernel_rfl)
theorem tok18 : TOK Tryd.prog 18 ⟨.st [(0, 17)], 1, 8, [.nilp]⟩ := tok_of (by kernel_rfl)
theorem tok19 : TOK Tryd.prog 19 ⟨.st [(0, 17)], 1, 8, [.nilp]⟩ := tok_of (by kernel_rfl)
theorem tok20 : TOK Tryd.prog 20 ⟨.iface, 1, 16, [.nili]⟩ := tok_of (by kernel_rfl)
theorem tok21 : TOK Tryd.prog 21 ⟨.int .i32, 1, 4, [.int .i32 0]⟩ := tok_of (by kernel_rfl)
theorem tok22 : TOK Tryd.prog 22 ⟨.sl 3, 1, 24, [.nils]⟩ := tok_of (by kernel_rfl)
theorem tok23 : TOK Tryd.prog 23 ⟨.fn, 1, 8, [.nilf]⟩ := tok_of (by kernel_rfl)
theorem tok24 : TOK Tryd.prog 24 ⟨.fn, 1, 8, [.nilf]⟩ := tok_of (by kernel_rfl)
theorem tok25 : TOK Tryd.prog 25 ⟨.ptr 91, 1, 8, [.nilp]⟩ := tok_of (by kernel_rfl)
theorem tok26 : TOK Tryd.prog 26 ⟨.fn, 1, 8, [.nilf]⟩ := tok_of (by kernel_rfl)
theorem tok27 : TOK Tryd.prog 27 ⟨.sl 37, 1, 24, [.nils]⟩ := tok_of (by kernel_rfl)
theorem tok28 : TOK Tryd.prog 28 ⟨.fn, 1, 8, [.nilf]⟩ := tok_of (by kernel_rfl)
theorem tok29 : TOK Tryd.prog 29 ⟨.sl 49, 1, 24, [.nils]⟩ := tok_of (by kernel_rfl)
theorem tok30 : TOK Tryd.prog 30 ⟨.st [(0, 3), (1, 29)], 2, 32, [.int .i64 0, .nils]⟩ := tok_of (by kernel_rfl)
theorem tok31 : TOK Tryd.prog 31 ⟨.st [(0, 3), (1, 29)], 2, 32, [.int .i64 0, .nils]⟩ := tok_of (by kernel_rfl)
theorem tok32 : TOK Tryd.prog 32 ⟨.fn, 1, 8, [.nilf]⟩ := tok_of (by kernel_rfl)
theorem tok33 : TOK Tryd.prog 33 ⟨.int .i64, 1, 8, [.int .i64 0]⟩ := tok_of (by kernel_rfl)
theorem tok34 : TOK Tryd.prog 34 ⟨.fn, 1, 8, [.nilf]⟩ := tok_of (by kernel_rfl)
theorem tok35 : TOK Tryd.prog 35 ⟨.sl 53, 1, 24, [.nils]⟩ := tok_of (by kernel_rfl)
theorem tok36 : TOK Tryd.prog 36 ⟨.st [(0, 3), (1, 9), (2, 35)], 3, 48, [.int .i64 0, .str [], .nils]⟩ := tok_of (by kernel_rfl)
theorem tok37 : TOK Tryd.prog 37 ⟨.st [(0, 3), (1, 9), (2, 35)], 3, 48, [.int .i64 0, .str [], .nils]⟩ := tok_of (by kernel_rfl)
theorem tok39 : TOK Tryd.prog 39 ⟨.fn, 1, 8, [.nilf]⟩ := tok_of (by kernel_rfl)
theorem tok40 : TOK Tryd.prog 40 ⟨.st [(0, 3), (1, 3), (2, 3), (3, 22)], 4, 48, [.int .i64 0, .int .i64 0, .int .i64 0, .nils]⟩ := tok_of (by kernel_rfl)
theorem tok41 : TOK Tryd.prog 41 ⟨.st [(0, 3), (1, 3), (2, 3), (3, 22)], 4, 48, [.int .i64 0, .int .i64 0, .int .i64 0, .nils]⟩ := tok_of (by kernel_rfl)
theorem tok43 : TOK Tryd.prog 43 ⟨.fn, 1, 8, [.nilf]⟩ := tok_of (by kernel_rfl)
theorem tok44 : TOK Tryd.prog 44 ⟨.fn, 1, 8, [.nilf]⟩ := tok_of (by kernel_rfl)
theorem tok45 : TOK Tryd.prog 45 ⟨.fn, 1, 8, [.nilf]⟩ := tok_of (by kernel_rfl)
theorem tok46 : TOK Tryd.prog 46 ⟨.st [(0, 3), (1, 3)], 2, 16, [.int .i64 0, .int .i64 0]⟩ := tok_of (by kernel_rfl)
theorem tok47 : TOK Tryd.prog 47 ⟨.st [(0, 3), (1, 3)], 2, 16, [.int .i64 0, .int .i64 0]⟩ := tok_of (by kernel_rfl)
theorem tok48 : TOK Tryd.prog 48 ⟨.st [(0, 47), (2, 47)], 4, 32, [.int .i64 0, .int .i64 0, .int .i64 0, .int .i64 0]⟩ := tok_of (by kernel_rfl)
theorem tok49 : TOK Tryd.prog 49 ⟨.st [(0, 47), (2, 47)], 4, 32, [.int .i64 0, .int .i64 0, .int .i64 0, .int .i64 0]⟩ := tok_of (by kernel_rfl)
theorem tok50 : TOK Tryd.prog 50 ⟨.arr 5 5, 5, 5, [.int .u8 0, .int .u8 0, .int .u8 0, .int .u8 0, .int .u8 0]⟩ := tok_of (by kernel_rfl)
theorem tok51 : TOK Tryd.prog 51 ⟨.sl 55, 1, 24, [.nils]⟩ := tok_of (by kernel_rfl)
theorem tok52 : TOK Tryd.prog 52 ⟨.st [(0, 9), (1, 51)], 2, 40, [.str [], .nils]⟩ := tok_of (by kernel_rfl)
theorem tok53 : TOK Tryd.prog 53 ⟨.st [(0, 9), (1, 51)], 2, 40, [.str [], .nils]⟩ := tok_of (by kernel_rfl)
theorem tok54 : TOK Tryd.prog 54 ⟨.st [(0, 4), (1, 9)], 2, 24, [.bool false, .str []]⟩ := tok_of (by kernel_rfl)
theorem tok55 : TOK Tryd.prog 55 ⟨.st [(0, 4), (1, 9)], 2, 24, [.bool false, .str []]⟩ := tok_of (by kernel_rfl)
theorem tok57 : TOK Tryd.prog 57 ⟨.fn, 1, 8, [.nilf]⟩ := tok_of (by kernel_rfl)
theorem tok59 : TOK Tryd.prog 59 ⟨.fn, 1, 8, [.nilf]⟩ := tok_of (by kernel_rfl)
theorem tok60 : TOK Tryd.prog 60 ⟨.fn, 1, 8, [.nilf]⟩ := tok_of (by kernel_rfl)
theorem tok61 : TOK Tryd.prog 61 ⟨.fn, 1, 8, [.nilf]⟩ := tok_of (by kernel_rfl)
theorem tok62 : TOK Tryd.prog 62 ⟨.sl 22, 1, 24, [.nils]⟩ := tok_of (by kernel_rfl)
theorem tok64 : TOK Tryd.prog 64 ⟨.fn, 1, 8, [.nilf]⟩ := tok_of (by kernel_rfl)
theorem tok65 : TOK Tryd.prog 65 ⟨.fn, 1, 8, [.nilf]⟩ := tok_of (by kernel_rfl)
theorem tok66 : TOK Tryd.prog 66 ⟨.map 3 4, 1, 8, [.nilm]⟩ := tok_of (by kernel_rfl)
theorem tok67 : TOK Tryd.prog 67 ⟨.fn, 1, 8, [.nilf]⟩ := tok_of (by kernel_rfl)
theorem tok68 : TOK Tryd.prog 68 ⟨.sl 5, 1, 24, [.nils]⟩ := tok_of (by kernel_rfl)
theorem tok69 : TOK Tryd.prog 69 ⟨.arr 4 3, 4, 32, [.int .i64 0, .int .i64 0, .int .i64 0, .int .i64 0]⟩ := tok_of (by kernel_rfl)
theorem tok71 : TOK Tryd.prog 71 ⟨.fn, 1, 8, [.nilf]⟩ := tok_of (by kernel_rfl)
theorem tok72 : TOK Tryd.prog 72 ⟨.fn, 1, 8, [.nilf]⟩ := tok_of (by kernel_rfl)
theorem tok73 : TOK Tryd.prog 73 ⟨.map 74 4, 1, 8, [.nilm]⟩ := tok_of (by kernel_rfl)
theorem tok74 : TOK Tryd.prog 74 ⟨.arr 3 3, 3, 24, [.int .i64 0, .int .i64 0, .int .i64 0]⟩ := tok_of (by kernel_rfl)
theorem tok75 : TOK Tryd.prog 75 ⟨.fn, 1, 8, [.nilf]⟩ := tok_of (by kernel_rfl)
theorem tok76 : TOK Tryd.prog 76 ⟨.fn, 1, 8, [.nilf]⟩ := tok_of (by kernel_rfl)
theorem tok77 : TOK Tryd.prog 77 ⟨.fn, 1, 8, [.nilf]⟩ := tok_of (by kernel_rfl)
theorem tok78 : TOK Tryd.prog 78 ⟨.fn, 1, 8, [.nilf]⟩ := tok_of (by kernel_rfl)
theorem tok79 : TOK Tryd.prog 79 ⟨.fn, 1, 8, [.nilf]⟩ := tok_of (by kernel_rfl)
theorem tok80 : TOK Tryd.prog 80 ⟨.fn, 1, 8, [.nilf]⟩ := tok_of (by kernel_rfl)
theorem tok81 : TOK Tryd.prog 81 ⟨.fn, 1, 8, [.nilf]⟩ := tok_of (by kernel_rfl)
theorem tok82 : TOK Tryd.prog 82 ⟨.fn, 1, 8, [.nilf]⟩ := tok_of (by kernel_rfl)
theorem tok83 : TOK Tryd.prog 83 ⟨.fn, 1, 8, [.nilf]⟩ := tok_of (by kernel_rfl)
theorem tok84 : TOK Tryd.prog 84 ⟨.fn, 1, 8, [.nilf]⟩ := tok_of (by kernel_rfl)
theorem tok85 : TOK Tryd.prog 85 ⟨.arr 2 37, 6, 96, [.int .i64 0, .str [], .nils, .int .i64 0, .str [], .nils]⟩ := tok_of (by kernel_rfl)
theorem tok86 : TOK Tryd.prog 86 ⟨.sl 85, 1, 24, [.nils]⟩ := tok_of (by kernel_rfl)
theorem tok87 : TOK Tryd.prog 87 ⟨.arr 2 3, 2, 16, [.int .i64 0, .int .i64 0]⟩ := tok_of (by kernel_rfl)
theorem tok88 : TOK Tryd.prog 88 ⟨.sl 87, 1, 24, [.nils]⟩ := tok_of (by kernel_rfl)
theorem tok89 : TOK Tryd.prog 89 ⟨.fn, 1, 8, [.nilf]⟩ := tok_of (by kernel_rfl)
theorem tok90 : TOK Tryd.prog 90 ⟨.st [(0, 22), (1, 3)], 2, 32, [.nils, .int .i64 0]⟩ := tok_of (by kernel_rfl)
theorem tok91 : TOK Tryd.prog 91 ⟨.st [(0, 22), (1, 3)], 2, 32, [.nils, .int .i64 0]⟩ := tok_of (by kernel_rfl)
theorem tok92 : TOK Tryd.prog 92 ⟨.fn, 1, 8, [.nilf]⟩ := tok_of (by kernel_rfl)
theorem tok93 : TOK Tryd.prog 93 ⟨.sl 97, 1, 24, [.nils]⟩ := tok_of (by kernel_rfl)
theorem tok94 : TOK Tryd.prog 94 ⟨.fn, 1, 8, [.nilf]⟩ := tok_of (by kernel_rfl)
theorem tok95 : TOK Tryd.prog 95 ⟨.fn, 1, 8, [.nilf]⟩ := tok_of (by kernel_rfl)
theorem tok96 : TOK Tryd.prog 96 ⟨.st [(0, 47), (2, 47), (4, 3), (5, 3), (6, 3), (7, 3), (8, 3), (9, 3), (10, 3)], 11, 88, [.int .i64 0, .int .i64 0, .int .i64 0, .int .i64 0, .int .i64 0, .int .i64 0, .int .i64 0, .int .i64 0, .int .i64 0, .int .i64 0, .int .i64 0]⟩ := tok_of (by kernel_rfl)
theorem tok97 : TOK Tryd.prog 97 ⟨.st [(0, 47), (2, 47), (4, 3), (5, 3), (6, 3), (7, 3), (8, 3), (9, 3), (10, 3)], 11, 88, [.int .i64 0, .int .i64 0, .int .i64 0, .int .i64 0, .int .i64 0, .int .i64 0, .int .i64 0, .int .i64 0, .int .i64 0, .int .i64 0, .int .i64 0]⟩ := tok_of (by kernel_rfl)
theorem tok98 : TOK Tryd.prog 98 ⟨.fn, 1, 8, [.nilf]⟩ := tok_of (by kernel_rfl)
theorem tok100 : TOK Tryd.prog 100 ⟨.fn, 1, 8, [.nilf]⟩ := tok_of (by kernel_rfl)
theorem tok101 : TOK Tryd.prog 101 ⟨.ptr 136, 1, 8, [.nilp]⟩ := tok_of (by kernel_rfl)
theorem tok102 : TOK Tryd.prog 102 ⟨.fn, 1, 8, [.nilf]⟩ := tok_of (by kernel_rfl)
theorem tok103 : TOK Tryd.prog 103 ⟨.fn, 1, 8, [.nilf]⟩ := tok_of (by kernel_rfl)
theorem tok105 : TOK Tryd.prog 105 ⟨.fn, 1, 8, [.nilf]⟩ := tok_of (by kernel_rfl)
theorem tok107 : TOK Tryd.prog 107 ⟨.fn, 1, 8, [.nilf]⟩ := tok_of (by kernel_rfl)
theorem tok108 : TOK Tryd.prog 108 ⟨.fn, 1, 8, [.nilf]⟩ := tok_of (by kernel_rfl)
theorem tok109 : TOK Tryd.prog 109 ⟨.map 9 22, 1, 8, [.nilm]⟩ := tok_of (by kernel_rfl)
theorem tok110 : TOK Tryd.prog 110 ⟨.fn, 1, 8, [.nilf]⟩ := tok_of (by kernel_rfl)
theorem tok111 : TOK Tryd.prog 111 ⟨.fn, 1, 8, [.nilf]⟩ := tok_of (by kernel_rfl)
theorem tok112 : TOK Tryd.prog 112 ⟨.fn, 1, 8, [.nilf]⟩ := tok_of (by kernel_rfl)
theorem tok113 : TOK Tryd.prog 113 ⟨.ptr 37, 1, 8, [.nilp]⟩ := tok_of (by kernel_rfl)
theorem tok115 : TOK Tryd.prog 115 ⟨.fn, 1, 8, [.nilf]⟩ := tok_of (by kernel_rfl)
theorem tok116 : TOK Tryd.prog 116 ⟨.fn, 1, 8, [.nilf]⟩ := tok_of (by kernel_rfl)
theorem tok117 : TOK Tryd.prog 117 ⟨.fn, 1, 8, [.nilf]⟩ := tok_of (by kernel_rfl)
theorem tok118 : TOK Tryd.prog 118 ⟨.fn, 1, 8, [.nilf]⟩ := tok_of (by kernel_rfl)
theorem tok119 : TOK Tryd.prog 119 ⟨.fn, 1, 8, [.nilf]⟩ := tok_of (by kernel_rfl)
theorem tok120 : TOK Tryd.prog 120 ⟨.fn, 1, 8, [.nilf]⟩ := tok_of (by kernel_rfl)
theorem tok121 : TOK Tryd.prog 121 ⟨.fn, 1, 8, [.nilf]⟩ := tok_of (by kernel_rfl)
theorem tok122 : TOK Tryd.prog 122 ⟨.fn, 1, 8, [.nilf]⟩ := tok_of (by kernel_rfl)
theorem tok123 : TOK Tryd.prog 123 ⟨.fn, 1, 8, [.nilf]⟩ := tok_of (by kernel_rfl)
theorem tok124 : TOK Tryd.prog 124 ⟨.sl 9, 1, 24, [.nils]⟩ := tok_of (by kernel_rfl)
theorem tok126 : TOK Tryd.prog 126 ⟨.fn, 1, 8, [.nilf]⟩ := tok_of (by kernel_rfl)
theorem tok127 : TOK Tryd.prog 127 ⟨.sl 199, 1, 24, [.nils]⟩ := tok_of (by kernel_rfl)
theorem tok128 : TOK Tryd.prog 128 ⟨.st [(0, 4), (1, 127)], 2, 32, [.bool false, .nils]⟩ := tok_of (by kernel_rfl)
theorem tok129 : TOK Tryd.prog 129 ⟨.st [(0, 4), (1, 127)], 2, 32, [.bool false, .nils]⟩ := tok_of (by kernel_rfl)
theorem tok130 : TOK Tryd.prog 130 ⟨.st [(0, 129), (2, 129)], 4, 64, [.bool false, .nils, .bool false, .nils]⟩ := tok_of (by kernel_rfl)
theorem tok131 : TOK Tryd.prog 131 ⟨.st [(0, 129), (2, 129)], 4, 64, [.bool false, .nils, .bool false, .nils]⟩ := tok_of (by kernel_rfl)
theorem tok132 : TOK Tryd.prog 132 ⟨.fn, 1, 8, [.nilf]⟩ := tok_of (by kernel_rfl)
theorem tok133 : TOK Tryd.prog 133 ⟨.fn, 1, 8, [.nilf]⟩ := tok_of (by kernel_rfl)
theorem tok134 : TOK Tryd.prog 134 ⟨.sl 140, 1, 24, [.nils]⟩ := tok_of (by kernel_rfl)
theorem tok135 : TOK Tryd.prog 135 ⟨.st [(0, 134)], 1, 24, [.nils]⟩ := tok_of (by kernel_rfl)
theorem tok136 : TOK Tryd.prog 136 ⟨.st [(0, 134)], 1, 24, [.nils]⟩ := tok_of (by kernel_rfl)
theorem tok137 : TOK Tryd.prog 137 ⟨.map 3 3, 1, 8, [.nilm]⟩ := tok_of (by kernel_rfl)
theorem tok138 : TOK Tryd.prog 138 ⟨.map 9 3, 1, 8, [.nilm]⟩ := tok_of (by kernel_rfl)
theorem tok139 : TOK Tryd.prog 139 ⟨.st [(0, 37), (3, 3), (4, 3), (5, 3), (6, 22), (7, 22), (8, 138)], 9, 128, [.int .i64 0, .str [], .nils, .int .i64 0, .int .i64 0, .int .i64 0, .nils, .nils, .nilm]⟩ := tok_of (by kernel_rfl)
theorem tok140 : TOK Tryd.prog 140 ⟨.st [(0, 37), (3, 3), (4, 3), (5, 3), (6, 22), (7, 22), (8, 138)], 9, 128, [.int .i64 0, .str [], .nils, .int .i64 0, .int .i64 0, .int .i64 0, .nils, .nils, .nilm]⟩ := tok_of (by kernel_rfl)
theorem tok141 : TOK Tryd.prog 141 ⟨.fn, 1, 8, [.nilf]⟩ := tok_of (by kernel_rfl)
theorem tok142 : TOK Tryd.prog 142 ⟨.fn, 1, 8, [.nilf]⟩ := tok_of (by kernel_rfl)
theorem tok143 : TOK Tryd.prog 143 ⟨.fn, 1, 8, [.nilf]⟩ := tok_of (by kernel_rfl)
theorem tok144 : TOK Tryd.prog 144 ⟨.fn, 1, 8, [.nilf]⟩ := tok_of (by kernel_rfl)
theorem tok145 : TOK Tryd.prog 145 ⟨.sl 147, 1, 24, [.nils]⟩ := tok_of (by kernel_rfl)
theorem tok146 : TOK Tryd.prog 146 ⟨.fn, 1, 8, [.nilf]⟩ := tok_of (by kernel_rfl)
theorem tok147 : TOK Tryd.prog 147 ⟨.map 9 4, 1, 8, [.nilm]⟩ := tok_of (by kernel_rfl)
theorem tok148 : TOK Tryd.prog 148 ⟨.fn, 1, 8, [.nilf]⟩ := tok_of (by kernel_rfl)
theorem tok149 : TOK Tryd.prog 149 ⟨.fn, 1, 8, [.nilf]⟩ := tok_of (by kernel_rfl)
theorem tok150 : TOK Tryd.prog 150 ⟨.fn, 1, 8, [.nilf]⟩ := tok_of (by kernel_rfl)
theorem tok151 : TOK Tryd.prog 151 ⟨.fn, 1, 8, [.nilf]⟩ := tok_of (by kernel_rfl)
theorem tok152 : TOK Tryd.prog 152 ⟨.fn, 1, 8, [.nilf]⟩ := tok_of (by kernel_rfl)
theorem tok153 : TOK Tryd.prog 153 ⟨.fn, 1, 8, [.nilf]⟩ := tok_of (by kernel_rfl)
theorem tok155 : TOK Tryd.prog 155 ⟨.fn, 1, 8, [.nilf]⟩ := tok_of (by kernel_rfl)
theorem tok156 : TOK Tryd.prog 156 ⟨.fn, 1, 8, [.nilf]⟩ := tok_of (by kernel_rfl)
theorem tok157 : TOK Tryd.prog 157 ⟨.ptr 62, 1, 8, [.nilp]⟩ := tok_of (by kernel_rfl)
theorem tok158 : TOK Tryd.prog 158 ⟨.fn, 1, 8, [.nilf]⟩ := tok_of (by kernel_rfl)
theorem tok159 : TOK Tryd.prog 159 ⟨.fn, 1, 8, [.nilf]⟩ := tok_of (by kernel_rfl)
theorem tok160 : TOK Tryd.prog 160 ⟨.fn, 1, 8, [.nilf]⟩ := tok_of (by kernel_rfl)
theorem tok161 : TOK Tryd.prog 161 ⟨.fn, 1, 8, [.nilf]⟩ := tok_of (by kernel_rfl)
theorem tok162 : TOK Tryd.prog 162 ⟨.fn, 1, 8, [.nilf]⟩ := tok_of (by kernel_rfl)
theorem tok163 : TOK Tryd.prog 163 ⟨.sl 109, 1, 24, [.nils]⟩ := tok_of (by kernel_rfl)
theorem tok164 : TOK Tryd.prog 164 ⟨.fn, 1, 8, [.nilf]⟩ := tok_of (by kernel_rfl)
theorem tok165 : TOK Tryd.prog 165 ⟨.fn, 1, 8, [.nilf]⟩ := tok_of (by kernel_rfl)
theorem tok166 : TOK Tryd.prog 166 ⟨.fn, 1, 8, [.nilf]⟩ := tok_of (by kernel_rfl)
theorem tok167 : TOK Tryd.prog 167 ⟨.fn, 1, 8, [.nilf]⟩ := tok_of (by kernel_rfl)
theorem tok168 : TOK Tryd.prog 168 ⟨.fn, 1, 8, [.nilf]⟩ := tok_of (by kernel_rfl)
theorem tok169 : TOK Tryd.prog 169 ⟨.fn, 1, 8, [.nilf]⟩ := tok_of (by kernel_rfl)
theorem tok170 : TOK Tryd.prog 170 ⟨.fn, 1, 8, [.nilf]⟩ := tok_of (by kernel_rfl)
theorem tok171 : TOK Tryd.prog 171 ⟨.ptr 140, 1, 8, [.nilp]⟩ := tok_of (by kernel_rfl)
theorem tok172 : TOK Tryd.prog 172 ⟨.fn, 1, 8, [.nilf]⟩ := tok_of (by kernel_rfl)
theorem tok173 : TOK Tryd.prog 173 ⟨.fn, 1, 8, [.nilf]⟩ := tok_of (by kernel_rfl)
theorem tok174 : TOK Tryd.prog 174 ⟨.fn, 1, 8, [.nilf]⟩ := tok_of (by kernel_rfl)
theorem tok175 : TOK Tryd.prog 175 ⟨.fn, 1, 8, [.nilf]⟩ := tok_of (by kernel_rfl)
theorem tok176 : TOK Tryd.prog 176 ⟨.fn, 1, 8, [.nilf]⟩ := tok_of (by kernel_rfl)
theorem tok177 : TOK Tryd.prog 177 ⟨.fn, 1, 8, [.nilf]⟩ := tok_of (by kernel_rfl)
theorem tok178 : TOK Tryd.prog 178 ⟨.fn, 1, 8, [.nilf]⟩ := tok_of (by kernel_rfl)
theorem tok179 : TOK Tryd.prog 179 ⟨.fn, 1, 8, [.nilf]⟩ := tok_of (by kernel_rfl)
theorem tok180 : TOK Tryd.prog 180 ⟨.fn, 1, 8, [.nilf]⟩ := tok_of (by kernel_rfl)
theorem tok181 : TOK Tryd.prog 181 ⟨.fn, 1, 8, [.nilf]⟩ := tok_of (by kernel_rfl)
theorem tok182 : TOK Tryd.prog 182 ⟨.fn, 1, 8, [.nilf]⟩ := tok_of (by kernel_rfl)
theorem tok184 : TOK Tryd.prog 184 ⟨.fn, 1, 8, [.nilf]⟩ := tok_of (by kernel_rfl)
theorem tok185 : TOK Tryd.prog 185 ⟨.fn, 1, 8, [.nilf]⟩ := tok_of (by kernel_rfl)
theorem tok186 : TOK Tryd.prog 186 ⟨.arr 256 5, 256, 256, [.int .u8 0, .int .u8 0, .int .u8 0, .int .u8 0, .int .u8 0, .int .u8 0, .int .u8 0, .int .u8 0, .int .u8 0, .int .u8 0, .int .u8 0, .int .u8 0, .int .u8 0, .int .u8 0, .int .u8 0, .int .u8 0, .int .u8 0, .int .u8 0, .int .u8 0, .int .u8 0, .int .u8 0, .int .u8 0, .int .u8 0, .int .u8 0, .int .u8 0, .int .u8 0, .int .u8 0, .int .u8 0, .int .u8 0, .int .u8 0, .int .u8 0, .int .u8 0, .int .u8 0, .int .u8 0, .int .u8 0, .int .u8 0, .int .u8 0, .int .u8 0, .int .u8 0, .int .u8 0, .int .u8 0, .int .u8 0, .int .u8 0, .int .u8 0, .int .u8 0, .int .u8 0, .int .u8 0, .int .u8 0, .int .u8 0, .int .u8 0, .int .u8 0, .int .u8 0, .int .u8 0, .int .u8 0, .int .u8 0, .int .u8 0, .int .u8 0, .int .u8 0, .int .u8 0, .int .u8 0, .int .u8 0, .int .u8 0, .int .u8 0, .int .u8 0, .int .u8 0, .int .u8 0, .int .u8 0, .int .u8 0, .int .u8 0, .int .u8 0, .int .u8 0, .int .u8 0, .int .u8 0, .int .u8 0, .int .u8 0, .int .u8 0, .int .u8 0, .int .u8 0, .int .u8 0, .int .u8 0, .int .u8 0, .int .u8 0, .int .u8 0, .int .u8 0, .int .u8 0, .int .u8 0, .int .u8 0, .int .u8 0, .int .u8 0, .int .u8 0, .int .u8 0, .int .u8 0, .int .u8 0, .int .u8 0, .int .u8 0, .int .u8 0, .int .u8 0, .int .u8 0, .int .u8 0, .int .u8 0, .int .u8 0, .int .u8 0, .int .u8 0, .int .u8 0, .int .u8 0, .int .u8 0, .int .u8 0, .int .u8 0, .int .u8 0, .int .u8 0, .int .u8 0, .int .u8 0, .int .u8 0, .int .u8 0, .int .u8 0, .int .u8 0, .int .u8 0, .int .u8 0, .int .u8 0, .int .u8 0, .int .u8 0, .int .u8 0, .int .u8 0, .int .u8 0, .int .u8 0, .int .u8 0, .int .u8 0, .int .u8 0, .int .u8 0, .int .u8 0, .int .u8 0, .int .u8 0, .int .u8 0, .int .u8 0, .int .u8 0, .int .u8 0, .int .u8 0, .int .u8 0, .int .u8 0, .int .u8 0, .int .u8 0, .int .u8 0, .int .u8 0, .int .u8 0, .int .u8 0, .int .u8 0, .int .u8 0, .int .u8 0, .int .u8 0, .int .u8 0, .int .u8 0, .int .u8 0, .int .u8 0, .int .u8 0, .int .u8 0, .int .u8 0, .int .u8 0, .int .u8 0, .int .u8 0, .int .u8 0, .int .u8 0, .int .u8 0, .int .u8 0, .int .u8 0, .int .u8 0, .int .u8 0, .int .u8 0, .int .u8 0, .int .u8 0, .int .u8 0, .int .u8 0, .int .u8 0, .int .u8 0, .int .u8 0, .int .u8 0, .int .u8 0, .int .u8 0, .int .u8 0, .int .u8 0, .int .u8 0, .int .u8 0, .int .u8 0, .int .u8 0, .int .u8 0, .int .u8 0, .int .u8 0, .int .u8 0, .int .u8 0, .int .u8 0, .int .u8 0, .int .u8 0, .int .u8 0, .int .u8 0, .int .u8 0, .int .u8 0, .int .u8 0, .int .u8 0, .int .u8 0, .int .u8 0, .int .u8 0, .int .u8 0, .int .u8 0, .int .u8 0, .int .u8 0, .int .u8 0, .int .u8 0, .int .u8 0, .int .u8 0, .int .u8 0, .int .u8 0, .int .u8 0, .int .u8 0, .int .u8 0, .int .u8 0, .int .u8 0, .int .u8 0, .int .u8 0, .int .u8 0, .int .u8 0, .int .u8 0, .int .u8 0, .int .u8 0, .int .u8 0, .int .u8 0, .int .u8 0, .int .u8 0, .int .u8 0, .int .u8 0, .int .u8 0, .int .u8 0, .int .u8 0, .int .u8 0, .int .u8 0, .int .u8 0, .int .u8 0, .int .u8 0, .int .u8 0, .int .u8 0, .int .u8 0, .int .u8 0, .int .u8 0, .int .u8 0, .int .u8 0, .int .u8 0, .int .u8 0, .int .u8 0, .int .u8 0, .int .u8 0, .int .u8 0, .int .u8 0, .int .u8 0, .int .u8 0, .int .u8 0, .int .u8 0, .int .u8 0, .int .u8 0]⟩ := tok_of (by kernel_rfl)
theorem tok187 : TOK Tryd.prog 187 ⟨.st [(0, 5), (1, 5)], 2, 2, [.int .u8 0, .int .u8 0]⟩ := tok_of (by kernel_rfl)
theorem tok188 : TOK Tryd.prog 188 ⟨.st [(0, 5), (1, 5)], 2, 2, [.int .u8 0, .int .u8 0]⟩ := tok_of (by kernel_rfl)
theorem tok189 : TOK Tryd.prog 189 ⟨.arr 16 188, 32, 32, [.int .u8 0, .int .u8 0, .int .u8 0, .int .u8 0, .int .u8 0, .int .u8 0, .int .u8 0, .int .u8 0, .int .u8 0, .int .u8 0, .int .u8 0, .int .u8 0, .int .u8 0, .int .u8 0, .int .u8 0, .int .u8 0, .int .u8 0, .int .u8 0, .int .u8 0, .int .u8 0, .int .u8 0, .int .u8 0, .int .u8 0, .int .u8 0, .int .u8 0, .int .u8 0, .int .u8 0, .int .u8 0, .int .u8 0, .int .u8 0, .int .u8 0, .int .u8 0]⟩ := tok_of (by kernel_rfl)
theorem tok190 : TOK Tryd.prog 190 ⟨.int .u64, 1, 8, [.int .u64 0]⟩ := tok_of (by kernel_rfl)
theorem tok191 : TOK Tryd.prog 191 ⟨.arr 24 5, 24, 24, [.int .u8 0, .int .u8 0, .int .u8 0, .int .u8 0, .int .u8 0, .int .u8 0, .int .u8 0, .int .u8 0, .int .u8 0, .int .u8 0, .int .u8 0, .int .u8 0, .int .u8 0, .int .u8 0, .int .u8 0, .int .u8 0, .int .u8 0, .int .u8 0, .int .u8 0, .int .u8 0, .int .u8 0, .int .u8 0, .int .u8 0, .int .u8 0]⟩ := tok_of (by kernel_rfl)
theorem tok192 : TOK Tryd.prog 192 ⟨.int .u64, 1, 8, [.int .u64 0]⟩ := tok_of (by kernel_rfl)
theorem tok193 : TOK Tryd.prog 193 ⟨.fn, 1, 8, [.nilf]⟩ := tok_of (by kernel_rfl)
theorem tok194 : TOK Tryd.prog 194 ⟨.fn, 1, 8, [.nilf]⟩ := tok_of (by kernel_rfl)
theorem tok196 : TOK Tryd.prog 196 ⟨.fn, 1, 8, [.nilf]⟩ := tok_of (by kernel_rfl)
theorem tok197 : TOK Tryd.prog 197 ⟨.fn, 1, 8, [.nilf]⟩ := tok_of (by kernel_rfl)
theorem tok198 : TOK Tryd.prog 198 ⟨.fn, 1, 8, [.nilf]⟩ := tok_of (by kernel_rfl)
theorem tok199 : TOK Tryd.prog 199 ⟨.int .u32, 1, 4, [.int .u32 0]⟩ := tok_of (by kernel_rfl)
theorem tok200 : TOK Tryd.prog 200 ⟨.fn, 1, 8, [.nilf]⟩ := tok_of (by kernel_rfl)
theorem tok201 : TOK Tryd.prog 201 ⟨.fn, 1, 8, [.nilf]⟩ := tok_of (by kernel_rfl)
theorem tok202 : TOK Tryd.prog 202 ⟨.fn, 1, 8, [.nilf]⟩ := tok_of (by kernel_rfl)
theorem tok203 : TOK Tryd.prog 203 ⟨.fn, 1, 8, [.nilf]⟩ := tok_of (by kernel_rfl)
theorem tok204 : TOK Tryd.prog 204 ⟨.fn, 1, 8, [.nilf]⟩ := tok_of (by kernel_rfl)
theorem tok205 : TOK Tryd.prog 205 ⟨.arr 20 192, 20, 160, [.int .u64 0, .int .u64 0, .int .u64 0, .int .u64 0, .int .u64 0, .int .u64 0, .int .u64 0, .int .u64 0, .int .u64 0, .int .u64 0, .int .u64 0, .int .u64 0, .int .u64 0, .int .u64 0, .int .u64 0, .int .u64 0, .int .u64 0, .int .u64 0, .int .u64 0, .int .u64 0]⟩ := tok_of (by kernel_rfl)
theorem tok206 : TOK Tryd.prog 206 ⟨.arr 65 5, 65, 65, [.int .u8 0, .int .u8 0, .int .u8 0, .int .u8 0, .int .u8 0, .int .u8 0, .int .u8 0, .int .u8 0, .int .u8 0, .int .u8 0, .int .u8 0, .int .u8 0, .int .u8 0, .int .u8 0, .int .u8 0, .int .u8 0, .int .u8 0, .int .u8 0, .int .u8 0, .int .u8 0, .int .u8 0, .int .u8 0, .int .u8 0, .int .u8 0, .int .u8 0, .int .u8 0, .int .u8 0, .int .u8 0, .int .u8 0, .int .u8 0, .int .u8 0, .int .u8 0, .int .u8 0, .int .u8 0, .int .u8 0, .int .u8 0, .int .u8 0, .int .u8 0, .int .u8 0, .int .u8 0, .int .u8 0, .int .u8 0, .int .u8 0, .int .u8 0, .int .u8 0, .int .u8 0, .int .u8 0, .int .u8 0, .int .u8 0, .int .u8 0, .int .u8 0, .int .u8 0, .int .u8 0, .int .u8 0, .int .u8 0, .int .u8 0, .int .u8 0, .int .u8 0, .int .u8 0, .int .u8 0, .int .u8 0, .int .u8 0, .int .u8 0, .int .u8 0, .int .u8 0]⟩ := tok_of (by kernel_rfl)
theorem tok207 : TOK Tryd.prog 207 ⟨.fn, 1, 8, [.nilf]⟩ := tok_of (by kernel_rfl)
theorem tok208 : TOK Tryd.prog 208 ⟨.fn, 1, 8, [.nilf]⟩ := tok_of (by kernel_rfl)
theorem tok209 : TOK Tryd.prog 209 ⟨.fn, 1, 8, [.nilf]⟩ := tok_of (by kernel_rfl)
theorem tok210 : TOK Tryd.prog 210 ⟨.fn, 1, 8, [.nilf]⟩ := tok_of (by kernel_rfl)
theorem tok211 : TOK Tryd.prog 211 ⟨.fn, 1, 8, [.nilf]⟩ := tok_of (by kernel_rfl)
theorem tok213 : TOK Tryd.prog 213 ⟨.fn, 1, 8, [.nilf]⟩ := tok_of (by kernel_rfl)
theorem tok214 : TOK Tryd.prog 214 ⟨.arr 32 5, 32, 32, [.int .u8 0, .int .u8 0, .int .u8 0, .int .u8 0, .int .u8 0, .int .u8 0, .int .u8 0, .int .u8 0, .int .u8 0, .int .u8 0, .int .u8 0, .int .u8 0, .int .u8 0, .int .u8 0, .int .u8 0, .int .u8 0, .int .u8 0, .int .u8 0, .int .u8 0, .int .u8 0, .int .u8 0, .int .u8 0, .int .u8 0, .int .u8 0, .int .u8 0, .int .u8 0, .int .u8 0, .int .u8 0, .int .u8 0, .int .u8 0, .int .u8 0, .int .u8 0]⟩ := tok_of (by kernel_rfl)
theorem tok215 : TOK Tryd.prog 215 ⟨.arr 64 5, 64, 64, [.int .u8 0, .int .u8 0, .int .u8 0, .int .u8 0, .int .u8 0, .int .u8 0, .int .u8 0, .int .u8 0, .int .u8 0, .int .u8 0, .int .u8 0, .int .u8 0, .int .u8 0, .int .u8 0, .int .u8 0, .int .u8 0, .int .u8 0, .int .u8 0, .int .u8 0, .int .u8 0, .int .u8 0, .int .u8 0, .int .u8 0, .int .u8 0, .int .u8 0, .int .u8 0, .int .u8 0, .int .u8 0, .int .u8 0, .int .u8 0, .int .u8 0, .int .u8 0, .int .u8 0, .int .u8 0, .int .u8 0, .int .u8 0, .int .u8 0, .int .u8 0, .int .u8 0, .int .u8 0, .int .u8 0, .int .u8 0, .int .u8 0, .int .u8 0, .int .u8 0, .int .u8 0, .int .u8 0, .int .u8 0, .int .u8 0, .int .u8 0, .int .u8 0, .int .u8 0, .int .u8 0, .int .u8 0, .int .u8 0, .int .u8 0, .int .u8 0, .int .u8 0, .int .u8 0, .int .u8 0, .int .u8 0, .int .u8 0, .int .u8 0, .int .u8 0]⟩ := tok_of (by kernel_rfl)
theorem tok216 : TOK Tryd.prog 216 ⟨.fn, 1, 8, [.nilf]⟩ := tok_of (by kernel_rfl)
theorem tok217 : TOK Tryd.prog 217 ⟨.fn, 1, 8, [.nilf]⟩ := tok_of (by kernel_rfl)
theorem tok218 : TOK Tryd.prog 218 ⟨.st [(0, 17), (1, 17), (2, 17), (3, 9)], 4, 40, [.nilp, .nilp, .nilp, .str []]⟩ := tok_of (by kernel_rfl)
theorem tok219 : TOK Tryd.prog 219 ⟨.st [(0, 17), (1, 17), (2, 17), (3, 9)], 4, 40, [.nilp, .nilp, .nilp, .str []]⟩ := tok_of (by kernel_rfl)
theorem tok220 : TOK Tryd.prog 220 ⟨.arr 0 16, 0, 0, []⟩ := tok_of (by kernel_rfl)
theorem tok221 : TOK Tryd.prog 221 ⟨.st [(0, 220)], 0, 0, []⟩ := tok_of (by kernel_rfl)
theorem tok222 : TOK Tryd.prog 222 ⟨.st [(0, 220)], 0, 0, []⟩ := tok_of (by kernel_rfl)
theorem tok223 : TOK Tryd.prog 223 ⟨.int .u8, 1, 1, [.int .u8 0]⟩ := tok_of (by kernel_rfl)
theorem tok224 : TOK Tryd.prog 224 ⟨.int .u8, 1, 1, [.int .u8 0]⟩ := tok_of (by kernel_rfl)
theorem tok225 : TOK Tryd.prog 225 ⟨.fn, 1, 8, [.nilf]⟩ := tok_of (by kernel_rfl)
theorem tok226 : TOK Tryd.prog 226 ⟨.ptr 5, 1, 8, [.nilp]⟩ := tok_of (by kernel_rfl)
theorem tok227 : TOK Tryd.prog 227 ⟨.int .i32, 1, 4, [.int .i32 0]⟩ := tok_of (by kernel_rfl)
theorem tok228 : TOK Tryd.prog 228 ⟨.int .i32, 1, 4, [.int .i32 0]⟩ := tok_of (by kernel_rfl)
theorem tok229 : TOK Tryd.prog 229 ⟨.st [(0, 12), (1, 12), (2, 199), (3, 223), (4, 5), (5, 5), (6, 224), (7, 225), (8, 226), (9, 227), (10, 228)], 11, 48, [.int .u64 0, .int .u64 0, .int .u32 0, .int .u8 0, .int .u8 0, .int .u8 0, .int .u8 0, .nilf, .nilp, .int .i32 0, .int .i32 0]⟩ := tok_of (by kernel_rfl)
theorem tok230 : TOK Tryd.prog 230 ⟨.st [(0, 12), (1, 12), (2, 199), (3, 223), (4, 5), (5, 5), (6, 224), (7, 225), (8, 226), (9, 227), (10, 228)], 11, 48, [.int .u64 0, .int .u64 0, .int .u32 0, .int .u8 0, .int .u8 0, .int .u8 0, .int .u8 0, .nilf, .nilp, .int .i32 0, .int .i32 0]⟩ := tok_of (by kernel_rfl)
def T : List (Nat × TI) := [(1, ⟨.fn, 1, 8, [.nilf]⟩),
  (2, ⟨.int .i64, 1, 8, [.int .i64 0]⟩),
  (3, ⟨.int .i64, 1, 8, [.int .i64 0]⟩),
  (4, ⟨.bool, 1, 1, [.bool false]⟩),
  (5, ⟨.int .u8, 1, 1, [.int .u8 0]⟩),
  (6, ⟨.int .u8, 1, 1, [.int .u8 0]⟩),
  (7, ⟨.st [(0, 2), (1, 3), (2, 4), (3, 6)], 4, 24, [.int .i64 0, .int .i64 0, .bool false, .int .u8 0]⟩),
  (8, ⟨.st [(0, 2), (1, 3), (2, 4), (3, 6)], 4, 24, [.int .i64 0, .int .i64 0, .bool false, .int .u8 0]⟩),
  (9, ⟨.str, 1, 16, [.str []]⟩),
  (10, ⟨.str, 1, 16, [.str []]⟩),
  (11, ⟨.str, 1, 16, [.str []]⟩),
  (12, ⟨.int .u64, 1, 8, [.int .u64 0]⟩),
  (13, ⟨.st [(0, 9), (1, 12)], 2, 24, [.str [], .int .u64 0]⟩),
  (14, ⟨.st [(0, 9), (1, 12)], 2, 24, [.str [], .int .u64 0]⟩),
  (15, ⟨.ptr 219, 1, 8, [.nilp]⟩),
  (16, ⟨.ptr 222, 1, 8, [.nilp]⟩),
  (17, ⟨.ptr 230, 1, 8, [.nilp]⟩),
  (18, ⟨.st [(0, 17)], 1, 8, [.nilp]⟩),
  (19, ⟨.st [(0, 17)], 1, 8, [.nilp]⟩),
  (20, ⟨.iface, 1, 16, [.nili]⟩),
  (21, ⟨.int .i32, 1, 4, [.int .i32 0]⟩),
  (22, ⟨.sl 3, 1, 24, [.nils]⟩),
  (23, ⟨.fn, 1, 8, [.nilf]⟩),
  (24, ⟨.fn, 1, 8, [.nilf]⟩),
  (25, ⟨.ptr 91, 1, 8, [.nilp]⟩),
  (26, ⟨.fn, 1, 8, [.nilf]⟩),
  (27, ⟨.sl 37, 1, 24, [.nils]⟩),
  (28, ⟨.fn, 1, 8, [.nilf]⟩),
  (29, ⟨.sl 49, 1, 24, [.nils]⟩),
  (30, ⟨.st [(0, 3), (1, 29)], 2, 32, [.int .i64 0, .nils]⟩),
  (31, ⟨.st [(0, 3), (1, 29)], 2, 32, [.int .i64 0, .nils]⟩),
  (32, ⟨.fn, 1, 8, [.nilf]⟩),
  (33, ⟨.int .i64, 1, 8, [.int .i64 0]⟩),
  (34, ⟨.fn, 1, 8, [.nilf]⟩),
  (35, ⟨.sl 53, 1, 24, [.nils]⟩),
  (36, ⟨.st [(0, 3), (1, 9), (2, 35)], 3, 48, [.int .i64 0, .str [], .nils]⟩),
  (37, ⟨.st [(0, 3), (1, 9), (2, 35)], 3, 48, [.int .i64 0, .str [], .nils]⟩),
  (39, ⟨.fn, 1, 8, [.nilf]⟩),
  (40, ⟨.st [(0, 3), (1, 3), (2, 3), (3, 22)], 4, 48, [.int .i64 0, .int .i64 0, .int .i64 0, .nils]⟩),
  (41, ⟨.st [(0, 3), (1, 3), (2, 3), (3, 22)], 4, 48, [.int .i64 0, .int .i64 0, .int .i64 0, .nils]⟩),
  (43, ⟨.fn, 1, 8, [.nilf]⟩),
  (44, ⟨.fn, 1, 8, [.nilf]⟩),
  (45, ⟨.fn, 1, 8, [.nilf]⟩),
  (46, ⟨.st [(0, 3), (1, 3)], 2, 16, [.int .i64 0, .int .i64 0]⟩),
  (47, ⟨.st [(0, 3), (1, 3)], 2, 16, [.int .i64 0, .int .i64 0]⟩),
  (48, ⟨.st [(0, 47), (2, 47)], 4, 32, [.int .i64 0, .int .i64 0, .int .i64 0, .int .i64 0]⟩),
  (49, ⟨.st [(0, 47), (2, 47)], 4, 32, [.int .i64 0, .int .i64 0, .int .i64 0, .int .i64 0]⟩),
  (50, ⟨.arr 5 5, 5, 5, [.int .u8 0, .int .u8 0, .int .u8 0, .int .u8 0, .int .u8 0]⟩),
  (51, ⟨.sl 55, 1, 24, [.nils]⟩),
  (52, ⟨.st [(0, 9), (1, 51)], 2, 40, [.str [], .nils]⟩),
  (53, ⟨.st [(0, 9), (1, 51)], 2, 40, [.str [], .nils]⟩),
  (54, ⟨.st [(0, 4), (1, 9)], 2, 24, [.bool false, .str []]⟩),
  (55, ⟨.st [(0, 4), (1, 9)], 2, 24, [.bool false, .str []]⟩),
  (57, ⟨.fn, 1, 8, [.nilf]⟩),
  (59, ⟨.fn, 1, 8, [.nilf]⟩),
  (60, ⟨.fn, 1, 8, [.nilf]⟩),
  (61, ⟨.fn, 1, 8, [.nilf]⟩),
  (62, ⟨.sl 22, 1, 24, [.nils]⟩),
  (64, ⟨.fn, 1, 8, [.nilf]⟩),
  (65, ⟨.fn, 1, 8, [.nilf]⟩),
  (66, ⟨.map 3 4, 1, 8, [.nilm]⟩),
  (67, ⟨.fn, 1, 8, [.nilf]⟩),
  (68, ⟨.sl 5, 1, 24, [.nils]⟩),
  (69, ⟨.arr 4 3, 4, 32, [.int .i64 0, .int .i64 0, .int .i64 0, .int .i64 0]⟩),
  (71, ⟨.fn, 1, 8, [.nilf]⟩),
  (72, ⟨.fn, 1, 8, [.nilf]⟩),
  (73, ⟨.map 74 4, 1, 8, [.nilm]⟩),
  (74, ⟨.arr 3 3, 3, 24, [.int .i64 0, .int .i64 0, .int .i64 0]⟩),
  (75, ⟨.fn, 1, 8, [.nilf]⟩),
  (76, ⟨.fn, 1, 8, [.nilf]⟩),
  (77, ⟨.fn, 1, 8, [.nilf]⟩),
  (78, ⟨.fn, 1, 8, [.nilf]⟩),
  (79, ⟨.fn, 1, 8, [.nilf]⟩),
  (80, ⟨.fn, 1, 8, [.nilf]⟩),
  (81, ⟨.fn, 1, 8, [.nilf]⟩),
  (82, ⟨.fn, 1, 8, [.nilf]⟩),
  (83, ⟨.fn, 1, 8, [.nilf]⟩),
  (84, ⟨.fn, 1, 8, [.nilf]⟩),
  (85, ⟨.arr 2 37, 6, 96, [.int .i64 0, .str [], .nils, .int .i64 0, .str [], .nils]⟩),
  (86, ⟨.sl 85, 1, 24, [.nils]⟩),
  (87, ⟨.arr 2 3, 2, 16, [.int .i64 0, .int .i64 0]⟩),
  (88, ⟨.sl 87, 1, 24, [.nils]⟩),
  (89, ⟨.fn, 1, 8, [.nilf]⟩),
  (90, ⟨.st [(0, 22), (1, 3)], 2, 32, [.nils, .int .i64 0]⟩),
  (91, ⟨.st [(0, 22), (1, 3)], 2, 32, [.nils, .int .i64 0]⟩),
  (92, ⟨.fn, 1, 8, [.nilf]⟩),
  (93, ⟨.sl 97, 1, 24, [.nils]⟩),
  (94, ⟨.fn, 1, 8, [.nilf]⟩),
  (95, ⟨.fn, 1, 8, [.nilf]⟩),
  (96, ⟨.st [(0, 47), (2, 47), (4, 3), (5, 3), (6, 3), (7, 3), (8, 3), (9, 3), (10, 3)], 11, 88, [.int .i64 0, .int .i64 0, .int .i64 0, .int .i64 0, .int .i64 0, .int .i64 0, .int .i64 0, .int .i64 0, .int .i64 0, .int .i64 0, .int .i64 0]⟩),
  (97, ⟨.st [(0, 47), (2, 47), (4, 3), (5, 3), (6, 3), (7, 3), (8, 3), (9, 3), (10, 3)], 11, 88, [.int .i64 0, .int .i64 0, .int .i64 0, .int .i64 0, .int .i64 0, .int .i64 0, .int .i64 0, .int .i64 0, .int .i64 0, .int .i64 0, .int .i64 0]⟩),
  (98, ⟨.fn, 1, 8, [.nilf]⟩),
  (100, ⟨.fn, 1, 8, [.nilf]⟩),
  (101, ⟨.ptr 136, 1, 8, [.nilp]⟩),
  (102, ⟨.fn, 1, 8, [.nilf]⟩),
  (103, ⟨.fn, 1, 8, [.nilf]⟩),
  (105, ⟨.fn, 1, 8, [.nilf]⟩),
  (107, ⟨.fn, 1, 8, [.nilf]⟩),
  (108, ⟨.fn, 1, 8, [.nilf]⟩),
  (109, ⟨.map 9 22, 1, 8, [.nilm]⟩),
  (110, ⟨.fn, 1, 8, [.nilf]⟩),
  (111, ⟨.fn, 1, 8, [.nilf]⟩),
  (112, ⟨.fn, 1, 8, [.nilf]⟩),
  (113, ⟨.ptr 37, 1, 8, [.nilp]⟩),
  (115, ⟨.fn, 1, 8, [.nilf]⟩),
  (116, ⟨.fn, 1, 8, [.nilf]⟩),
  (117, ⟨.fn, 1, 8, [.nilf]⟩),
  (118, ⟨.fn, 1, 8, [.nilf]⟩),
  (119, ⟨.fn, 1, 8, [.nilf]⟩),
  (120, ⟨.fn, 1, 8, [.nilf]⟩),
  (121, ⟨.fn, 1, 8, [.nilf]⟩),
  (122, ⟨.fn, 1, 8, [.nilf]⟩),
  (123, ⟨.fn, 1, 8, [.nilf]⟩),
  (124, ⟨.sl 9, 1, 24, [.nils]⟩),
  (126, ⟨.fn, 1, 8, [.nilf]⟩),
  (127, ⟨.sl 199, 1, 24, [.nils]⟩),
  (128, ⟨.st [(0, 4), (1, 127)], 2, 32, [.bool false, .nils]⟩),
  (129, ⟨.st [(0, 4), (1, 127)], 2, 32, [.bool false, .nils]⟩),
  (130, ⟨.st [(0, 129), (2, 129)], 4, 64, [.bool false, .nils, .bool false, .nils]⟩),
  (131, ⟨.st [(0, 129), (2, 129)], 4, 64, [.bool false, .nils, .bool false, .nils]⟩),
  (132, ⟨.fn, 1, 8, [.nilf]⟩),
  (133, ⟨.fn, 1, 8, [.nilf]⟩),
  (134, ⟨.sl 140, 1, 24, [.nils]⟩),
  (135, ⟨.st [(0, 134)], 1, 24, [.nils]⟩),
  (136, ⟨.st [(0, 134)], 1, 24, [.nils]⟩),
  (137, ⟨.map 3 3, 1, 8, [.nilm]⟩),
  (138, ⟨.map 9 3, 1, 8, [.nilm]⟩),
  (139, ⟨.st [(0, 37), (3, 3), (4, 3), (5, 3), (6, 22), (7, 22), (8, 138)], 9, 128, [.int .i64 0, .str [], .nils, .int .i64 0, .int .i64 0, .int .i64 0, .nils, .nils, .nilm]⟩),
  (140, ⟨.st [(0, 37), (3, 3), (4, 3), (5, 3), (6, 22), (7, 22), (8, 138)], 9, 128, [.int .i64 0, .str [], .nils, .int .i64 0, .int .i64 0, .int .i64 0, .nils, .nils, .nilm]⟩),
  (141, ⟨.fn, 1, 8, [.nilf]⟩),
  (142, ⟨.fn, 1, 8, [.nilf]⟩),
  (143, ⟨.fn, 1, 8, [.nilf]⟩),
  (144, ⟨.fn, 1, 8, [.nilf]⟩),
  (145, ⟨.sl 147, 1, 24, [.nils]⟩),
  (146, ⟨.fn, 1, 8, [.nilf]⟩),
  (147, ⟨.map 9 4, 1, 8, [.nilm]⟩),
  (148, ⟨.fn, 1, 8, [.nilf]⟩),
  (149, ⟨.fn, 1, 8, [.nilf]⟩),
  (150, ⟨.fn, 1, 8, [.nilf]⟩),
  (151, ⟨.fn, 1, 8, [.nilf]⟩),
  (152, ⟨.fn, 1, 8, [.nilf]⟩),
  (153, ⟨.fn, 1, 8, [.nilf]⟩),
  (155, ⟨.fn, 1, 8, [.nilf]⟩),
  (156, ⟨.fn, 1, 8, [.nilf]⟩),
  (157, ⟨.ptr 62, 1, 8, [.nilp]⟩),
  (158, ⟨.fn, 1, 8, [.nilf]⟩),
  (159, ⟨.fn, 1, 8, [.nilf]⟩),
  (160, ⟨.fn, 1, 8, [.nilf]⟩),
  (161, ⟨.fn, 1, 8, [.nilf]⟩),
  (162, ⟨.fn, 1, 8, [.nilf]⟩),
  (163, ⟨.sl 109, 1, 24, [.nils]⟩),
  (164, ⟨.fn, 1, 8, [.nilf]⟩),
  (165, ⟨.fn, 1, 8, [.nilf]⟩),
  (166, ⟨.fn, 1, 8, [.nilf]⟩),
  (167, ⟨.fn, 1, 8, [.nilf]⟩),
  (168, ⟨.fn, 1, 8, [.nilf]⟩),
  (169, ⟨.fn, 1, 8, [.nilf]⟩),
  (170, ⟨.fn, 1, 8, [.nilf]⟩),
  (171, ⟨.ptr 140, 1, 8, [.nilp]⟩),
  (172, ⟨.fn, 1, 8, [.nilf]⟩),
  (173, ⟨.fn, 1, 8, [.nilf]⟩),
  (174, ⟨.fn, 1, 8, [.nilf]⟩),
  (175, ⟨.fn, 1, 8, [.nilf]⟩),
  (176, ⟨.fn, 1, 8, [.nilf]⟩),
  (177, ⟨.fn, 1, 8, [.nilf]⟩),
  (178, ⟨.fn, 1, 8, [.nilf]⟩),
  (179, ⟨.fn, 1, 8, [.nilf]⟩),
  (180, ⟨.fn, 1, 8, [.nilf]⟩),
  (181, ⟨.fn, 1, 8, [.nilf]⟩),
  (182, ⟨.fn, 1, 8, [.nilf]⟩),
  (184, ⟨.fn, 1, 8, [.nilf]⟩),
  (185, ⟨.fn, 1, 8, [.nilf]⟩),
  (186, ⟨.arr 256 5, 256, 256, [.int .u8 0, .int .u8 0, .int .u8 0, .int .u8 0, .int .u8 0, .int .u8 0, .int .u8 0, .int .u8 0, .int .u8 0, .int .u8 0, .int .u8 0, .int .u8 0, .int .u8 0, .int .u8 0, .int .u8 0, .int .u8 0, .int .u8 0, .int .u8 0, .int .u8 0, .int .u8 0, .int .u8 0, .int .u8 0, .int .u8 0, .int .u8 0, .int .u8 0, .int .u8 0, .int .u8 0, .int .u8 0, .int .u8 0, .int .u8 0, .int .u8 0, .int .u8 0, .int .u8 0, .int .u8 0, .int .u8 0, .int .u8 0, .int .u8 0, .int .u8 0, .int .u8 0, .int .u8 0, .int .u8 0, .int .u8 0, .int .u8 0, .int .u8 0, .int .u8 0, .int .u8 0, .int .u8 0, .int .u8 0, .int .u8 0, .int .u8 0, .int .u8 0, .int .u8 0, .int .u8 0, .int .u8 0, .int .u8 0, .int .u8 0, .int .u8 0, .int .u8 0, .int .u8 0, .int .u8 0, .int .u8 0, .int .u8 0, .int .u8 0, .int .u8 0, .int .u8 0, .int .u8 0, .int .u8 0, .int .u8 0, .int .u8 0, .int .u8 0, .int .u8 0, .int .u8 0, .int .u8 0, .int .u8 0, .int .u8 0, .int .u8 0, .int .u8 0, .int .u8 0, .int .u8 0, .int .u8 0, .int .u8 0, .int .u8 0, .int .u8 0, .int .u8 0, .int .u8 0, .int .u8 0, .int .u8 0, .int .u8 0, .int .u8 0, .int .u8 0, .int .u8 0, .int .u8 0, .int .u8 0, .int .u8 0, .int .u8 0, .int .u8 0, .int .u8 0, .int .u8 0, .int .u8 0, .int .u8 0, .int .u8 0, .int .u8 0, .int .u8 0, .int .u8 0, .int .u8 0, .int .u8 0, .int .u8 0, .int .u8 0, .int .u8 0, .int .u8 0, .int .u8 0, .int .u8 0, .int .u8 0, .int .u8 0, .int .u8 0, .int .u8 0, .int .u8 0, .int .u8 0, .int .u8 0, .int .u8 0, .int .u8 0, .int .u8 0, .int .u8 0, .int .u8 0, .int .u8 0, .int .u8 0, .int .u8 0, .int .u8 0, .int .u8 0, .int .u8 0, .int .u8 0, .int .u8 0, .int .u8 0, .int .u8 0, .int .u8 0, .int .u8 0, .int .u8 0, .int .u8 0, .int .u8 0, .int .u8 0, .int .u8 0, .int .u8 0, .int .u8 0, .int .u8 0, .int .u8 0, .int .u8 0, .int .u8 0, .int .u8 0, .int .u8 0, .int .u8 0, .int .u8 0, .int .u8 0, .int .u8 0, .int .u8 0, .int .u8 0, .int .u8 0, .int .u8 0, .int .u8 0, .int .u8 0, .int .u8 0, .int .u8 0, .int .u8 0, .int .u8 0, .int .u8 0, .int .u8 0, .int .u8 0, .int .u8 0, .int .u8 0, .int .u8 0, .int .u8 0, .int .u8 0, .int .u8 0, .int .u8 0, .int .u8 0, .int .u8 0, .int .u8 0, .int .u8 0, .int .u8 0, .int .u8 0, .int .u8 0, .int .u8 0, .int .u8 0, .int .u8 0, .int .u8 0, .int .u8 0, .int .u8 0, .int .u8 0, .int .u8 0, .int .u8 0, .int .u8 0, .int .u8 0, .int .u8 0, .int .u8 0, .int .u8 0, .int .u8 0, .int .u8 0, .int .u8 0, .int .u8 0, .int .u8 0, .int .u8 0, .int .u8 0, .int .u8 0, .int .u8 0, .int .u8 0, .int .u8 0, .int .u8 0, .int .u8 0, .int .u8 0, .int .u8 0, .int .u8 0, .int .u8 0, .int .u8 0, .int .u8 0, .int .u8 0, .int .u8 0, .int .u8 0, .int .u8 0, .int .u8 0, .int .u8 0, .int .u8 0, .int .u8 0, .int .u8 0, .int .u8 0, .int .u8 0, .int .u8 0, .int .u8 0, .int .u8 0, .int .u8 0, .int .u8 0, .int .u8 0, .int .u8 0, .int .u8 0, .int .u8 0, .int .u8 0, .int .u8 0, .int .u8 0, .int .u8 0, .int .u8 0, .int .u8 0, .int .u8 0, .int .u8 0, .int .u8 0, .int .u8 0, .int .u8 0, .int .u8 0, .int .u8 0, .int .u8 0, .int .u8 0, .int .u8 0, .int .u8 0, .int .u8 0, .int .u8 0, .int .u8 0, .int .u8 0, .int .u8 0, .int .u8 0]⟩),
  (187, ⟨.st [(0, 5), (1, 5)], 2, 2, [.int .u8 0, .int .u8 0]⟩),
  (188, ⟨.st [(0, 5), (1, 5)], 2, 2, [.int .u8 0, .int .u8 0]⟩),
  (189, ⟨.arr 16 188, 32, 32, [.int .u8 0, .int .u8 0, .int .u8 0, .int .u8 0, .int .u8 0, .int .u8 0, .int .u8 0, .int .u8 0, .int .u8 0, .int .u8 0, .int .u8 0, .int .u8 0, .int .u8 0, .int .u8 0, .int .u8 0, .int .u8 0, .int .u8 0, .int .u8 0, .int .u8 0, .int .u8 0, .int .u8 0, .int .u8 0, .int .u8 0, .int .u8 0, .int .u8 0, .int .u8 0, .int .u8 0, .int .u8 0, .int .u8 0, .int .u8 0, .int .u8 0, .int .u8 0]⟩),
  (190, ⟨.int .u64, 1, 8, [.int .u64 0]⟩),
  (191, ⟨.arr 24 5, 24, 24, [.int .u8 0, .int .u8 0, .int .u8 0, .int .u8 0, .int .u8 0, .int .u8 0, .int .u8 0, .int .u8 0, .int .u8 0, .int .u8 0, .int .u8 0, .int .u8 0, .int .u8 0, .int .u8 0, .int .u8 0, .int .u8 0, .int .u8 0, .int .u8 0, .int .u8 0, .int .u8 0, .int .u8 0, .int .u8 0, .int .u8 0, .int .u8 0]⟩),
  (192, ⟨.int .u64, 1, 8, [.int .u64 0]⟩),
  (193, ⟨.fn, 1, 8, [.nilf]⟩),
  (194, ⟨.fn, 1, 8, [.nilf]⟩),
  (196, ⟨.fn, 1, 8, [.nilf]⟩),
  (197, ⟨.fn, 1, 8, [.nilf]⟩),
  (198, ⟨.fn, 1, 8, [.nilf]⟩),
  (199, ⟨.int .u32, 1, 4, [.int .u32 0]⟩),
  (200, ⟨.fn, 1, 8, [.nilf]⟩),
  (201, ⟨.fn, 1, 8, [.nilf]⟩),
  (202, ⟨.fn, 1, 8, [.nilf]⟩),
  (203, ⟨.fn, 1, 8, [.nilf]⟩),
  (204, ⟨.fn, 1, 8, [.nilf]⟩),
  (205, ⟨.arr 20 192, 20, 160, [.int .u64 0, .int .u64 0, .int .u64 0, .int .u64 0, .int .u64 0, .int .u64 0, .int .u64 0, .int .u64 0, .int .u64 0, .int .u64 0, .int .u64 0, .int .u64 0, .int .u64 0, .int .u64 0, .int .u64 0, .int .u64 0, .int .u64 0, .int .u64 0, .int .u64 0, .int .u64 0]⟩),
  (206, ⟨.arr 65 5, 65, 65, [.int .u8 0, .int .u8 0, .int .u8 0, .int .u8 0, .int .u8 0, .int .u8 0, .int .u8 0, .int .u8 0, .int .u8 0, .int .u8 0, .int .u8 0, .int .u8 0, .int .u8 0, .int .u8 0, .int .u8 0, .int .u8 0, .int .u8 0, .int .u8 0, .int .u8 0, .int .u8 0, .int .u8 0, .int .u8 0, .int .u8 0, .int .u8 0, .int .u8 0, .int .u8 0, .int .u8 0, .int .u8 0, .int .u8 0, .int .u8 0, .int .u8 0, .int .u8 0, .int .u8 0, .int .u8 0, .int .u8 0, .int .u8 0, .int .u8 0, .int .u8 0, .int .u8 0, .int .u8 0, .int .u8 0, .int .u8 0, .int .u8 0, .int .u8 0, .int .u8 0, .int .u8 0, .int .u8 0, .int .u8 0, .int .u8 0, .int .u8 0, .int .u8 0, .int .u8 0, .int .u8 0, .int .u8 0, .int .u8 0, .int .u8 0, .int .u8 0, .int .u8 0, .int .u8 0, .int .u8 0, .int .u8 0, .int .u8 0, .int .u8 0, .int .u8 0, .int .u8 0]⟩),
  (207, ⟨.fn, 1, 8, [.nilf]⟩),
  (208, ⟨.fn, 1, 8, [.nilf]⟩),
  (209, ⟨.fn, 1, 8, [.nilf]⟩),
  (210, ⟨.fn, 1, 8, [.nilf]⟩),
  (211, ⟨.fn, 1, 8, [.nilf]⟩),
  (213, ⟨.fn, 1, 8, [.nilf]⟩),
  (214, ⟨.arr 32 5, 32, 32, [.int .u8 0, .int .u8 0, .int .u8 0, .int .u8 0, .int .u8 0, .int .u8 0, .int .u8 0, .int .u8 0, .int .u8 0, .int .u8 0, .int .u8 0, .int .u8 0, .int .u8 0, .int .u8 0, .int .u8 0, .int .u8 0, .int .u8 0, .int .u8 0, .int .u8 0, .int .u8 0, .int .u8 0, .int .u8 0, .int .u8 0, .int .u8 0, .int .u8 0, .int .u8 0, .int .u8 0, .int .u8 0, .int .u8 0, .int .u8 0, .int .u8 0, .int .u8 0]⟩),
  (215, ⟨.arr 64 5, 64, 64, [.int .u8 0, .int .u8 0, .int .u8 0, .int .u8 0, .int .u8 0, .int .u8 0, .int .u8 0, .int .u8 0, .int .u8 0, .int .u8 0, .int .u8 0, .int .u8 0, .int .u8 0, .int .u8 0, .int .u8 0, .int .u8 0, .int .u8 0, .int .u8 0, .int .u8 0, .int .u8 0, .int .u8 0, .int .u8 0, .int .u8 0, .int .u8 0, .int .u8 0, .int .u8 0, .int .u8 0, .int .u8 0, .int .u8 0, .int .u8 0, .int .u8 0, .int .u8 0, .int .u8 0, .int .u8 0, .int .u8 0, .int .u8 0, .int .u8 0, .int .u8 0, .int .u8 0, .int .u8 0, .int .u8 0, .int .u8 0, .int .u8 0, .int .u8 0, .int .u8 0, .int .u8 0, .int .u8 0, .int .u8 0, .int .u8 0, .int .u8 0, .int .u8 0, .int .u8 0, .int .u8 0, .int .u8 0, .int .u8 0, .int .u8 0, .int .u8 0, .int .u8 0, .int .u8 0, .int .u8 0, .int .u8 0, .int .u8 0, .int .u8 0, .int .u8 0]⟩),
  (216, ⟨.fn, 1, 8, [.nilf]⟩),
  (217, ⟨.fn, 1, 8, [.nilf]⟩),
  (218, ⟨.st [(0, 17), (1, 17), (2, 17), (3, 9)], 4, 40, [.nilp, .nilp, .nilp, .str []]⟩),
  (219, ⟨.st [(0, 17), (1, 17), (2, 17), (3, 9)], 4, 40, [.nilp, .nilp, .nilp, .str []]⟩),
  (220, ⟨.arr 0 16, 0, 0, []⟩),
  (221, ⟨.st [(0, 220)], 0, 0, []⟩),
  (222, ⟨.st [(0, 220)], 0, 0, []⟩),
  (223, ⟨.int .u8, 1, 1, [.int .u8 0]⟩),
  (224, ⟨.int .u8, 1, 1, [.int .u8 0]⟩),
  (225, ⟨.fn, 1, 8, [.nilf]⟩),
  (226, ⟨.ptr 5, 1, 8, [.nilp]⟩),
  (227, ⟨.int .i32, 1, 4, [.int .i32 0]⟩),
  (228, ⟨.int .i32, 1, 4, [.int .i32 0]⟩),
  (229, ⟨.st [(0, 12), (1, 12), (2, 199), (3, 223), (4, 5), (5, 5), (6, 224), (7, 225), (8, 226), (9, 227), (10, 228)], 11, 48, [.int .u64 0, .int .u64 0, .int .u32 0, .int .u8 0, .int .u8 0, .int .u8 0, .int .u8 0, .nilf, .nilp, .int .i32 0, .int .i32 0]⟩),
  (230, ⟨.st [(0, 12), (1, 12), (2, 199), (3, 223), (4, 5), (5, 5), (6, 224), (7, 225), (8, 226), (9, 227), (10, 228)], 11, 48, [.int .u64 0, .int .u64 0, .int .u32 0, .int .u8 0, .int .u8 0, .int .u8 0, .int .u8 0, .nilf, .nilp, .int .i32 0, .int .i32 0]⟩)]
theorem env : Env Tryd.prog T := ⟨table_cons tok1 (table_cons tok2 (table_cons tok3 (table_cons tok4 (table_cons tok5 (table_cons tok6 (table_cons tok7 (table_cons tok8 (table_cons tok9 (table_cons tok10 (table_cons tok11 (table_cons tok12 (table_cons tok13 (table_cons tok14 (table_cons tok15 (table_cons tok16 (table_cons tok17 (table_cons tok18 (table_cons tok19 (table_cons tok20 (table_cons tok21 (table_cons tok22 (table_cons tok23 (table_cons tok24 (table_cons tok25 (table_cons tok26 (table_cons tok27 (table_cons tok28 (table_cons tok29 (table_cons tok30 (table_cons tok31 (table_cons tok32 (table_cons tok33 (table_cons tok34 (table_cons tok35 (table_cons tok36 (table_cons tok37 (table_cons tok39 (table_cons tok40 (table_cons tok41 (table_cons tok43 (table_cons tok44 (table_cons tok45 (table_cons tok46 (table_cons tok47 (table_cons tok48 (table_cons tok49 (table_cons tok50 (table_cons tok51 (table_cons tok52 (table_cons tok53 (table_cons tok54 (table_cons tok55 (table_cons tok57 (table_cons tok59 (table_cons tok60 (table_cons tok61 (table_cons tok62 (table_cons tok64 (table_cons tok65 (table_cons tok66 (table_cons tok67 (table_cons tok68 (table_cons tok69 (table_cons tok71 (table_cons tok72 (table_cons tok73 (table_cons tok74 (table_cons tok75 (table_cons tok76 (table_cons tok77 (table_cons tok78 (table_cons tok79 (table_cons tok80 (table_cons tok81 (table_cons tok82 (table_cons tok83 (table_cons tok84 (table_cons tok85 (table_cons tok86 (table_cons tok87 (table_cons tok88 (table_cons tok89 (table_cons tok90 (table_cons tok91 (table_cons tok92 (table_cons tok93 (table_cons tok94 (table_cons tok95 (table_cons tok96 (table_cons tok97 (table_cons tok98 (table_cons tok100 (table_cons tok101 (table_cons tok102 (table_cons tok103 (table_cons tok105 (table_cons tok107 (table_cons tok108 (table_cons tok109 (table_cons tok110 (table_cons tok111 (table_cons tok112 (table_cons tok113 (table_cons tok115 (table_cons tok116 (table_cons tok117 (table_cons tok118 (table_cons tok119 (table_cons tok120 (table_cons tok121 (table_cons tok122 (table_cons tok123 (table_cons tok124 (table_cons tok126 (table_cons tok127 (table_cons tok128 (table_cons tok129 (table_cons tok130 (table_cons tok131 (table_cons tok132 (table_cons tok133 (table_cons tok134 (table_cons tok135 (table_cons tok136 (table_cons tok137 (table_cons tok138 (table_cons tok139 (table_cons tok140 (table_cons tok141 (table_cons tok142 (table_cons tok143 (table_cons tok144 (table_cons tok145 (table_cons tok146 (table_cons tok147 (table_cons tok148 (table_cons tok149 (table_cons tok150 (table_cons tok151 (table_cons tok152 (table_cons tok153 (table_cons tok155 (table_cons tok156 (table_cons tok157 (table_cons tok158 (table_cons tok159 (table_cons tok160 (table_cons tok161 (table_cons tok162 (table_cons tok163 (table_cons tok164 (table_cons tok165 (table_cons tok166 (table_cons tok167 (table_cons tok168 (table_cons tok169 (table_cons tok170 (table_cons tok171 (table_cons tok172 (table_cons tok173 (table_cons tok174 (table_cons tok175 (table_cons tok176 (table_cons tok177 (table_cons tok178 (table_cons tok179 (table_cons tok180 (table_cons tok181 (table_cons tok182 (table_cons tok184 (table_cons tok185 (table_cons tok186 (table_cons tok187 (table_cons tok188 (table_cons tok189 (table_cons tok190 (table_cons tok191 (table_cons tok192 (table_cons tok193 (table_cons tok194 (table_cons tok196 (table_cons tok197 (table_cons tok198 (table_cons tok199 (table_cons tok200 (table_cons tok201 (table_cons tok202 (table_cons tok203 (table_cons tok204 (table_cons tok205 (table_cons tok206 (table_cons tok207 (table_cons tok208 (table_cons tok209 (table_cons tok210 (table_cons tok211 (table_cons tok213 (table_cons tok214 (table_cons tok215 (table_cons tok216 (table_cons tok217 (table_cons tok218 (table_cons tok219 (table_cons tok220 (table_cons tok221 (table_cons tok222 (table_cons tok223 (table_cons tok224 (table_cons tok225 (table_cons tok226 (table_cons tok227 (table_cons tok228 (table_cons tok229 (table_cons tok230 (table_nil))))))))))))))))))))))))))))))))))))))))))))))))))))))))))))))))))))))))))))))))))))))))))))))))))))))))))))))))))))))))))))))))))))))))))))))))))))))))))))))))))))))))))))))))))))))))))))))))))))))))))))))))))))))), by kernel_rfl⟩
end Go.Sx.Sp
namespace Go.Proofs
open Go.Shelf
def Tryd.laysValid_ren : Go.Shelf.Ren := ⟨fun | 196 => 115 | 259 => 122 | n => n, fun | 9 => 9 | 4 => 4 | 3 => 3 | 5 => 5 | 12 => 12 | 119 => 186 | 0 => 0 | 46 => 190 | 139 => 189 | 138 => 188 | 53 => 192 | n => n, fun | 3 => 0 | 4 => 1 | n => n⟩
theorem Tryd.laysValid : Go.Proofs.Lays.n196 Tryd.prog Tryd.laysValid_ren := {
  mixed := by kernel_rfl
  f196 := Tryd.func115.trans (congrArg some (by kernel_rfl))
  f259 := Tryd.func122.trans (congrArg some (by kernel_rfl))
  t0 := Tryd.underlying0
  a0 := Tryd.isAgg0
  z0 := Tryd.sizeOf0
  v0 := Tryd.zeroValue0
  t3 := Tryd.underlying3
  a3 := Tryd.isAgg3
  z3 := Tryd.sizeOf3
  v3 := Tryd.zeroValue3
  t4 := Tryd.underlying4
  a4 := Tryd.isAgg4
  z4 := Tryd.sizeOf4
  v4 := Tryd.zeroValue4
  t5 := Tryd.underlying5
  a5 := Tryd.isAgg5
  z5 := Tryd.sizeOf5
  v5 := Tryd.zeroValue5
  t9 := Tryd.underlying9
  a9 := Tryd.isAgg9
  z9 := Tryd.sizeOf9
  v9 := Tryd.zeroValue9
  t12 := Tryd.underlying12
  a12 := Tryd.isAgg12
  z12 := Tryd.sizeOf12
  v12 := Tryd.zeroValue12
  t46 := Tryd.underlying190
  a46 := Tryd.isAgg190
  z46 := Tryd.sizeOf190
  v46 := Tryd.zeroValue190
  t53 := Tryd.underlying192
  a53 := Tryd.isAgg192
  z53 := Tryd.sizeOf192
  v53 := Tryd.zeroValue192
  t119 := Tryd.underlying186
  a119 := Tryd.isAgg186
  z119 := Tryd.sizeOf186
  t138 := Tryd.underlying188
  a138 := Tryd.isAgg188
  z138 := Tryd.sizeOf188
  v138 := Tryd.zeroValue188
  t139 := Tryd.underlying189
  a139 := Tryd.isAgg189
  z139 := Tryd.sizeOf189
  v139 := Tryd.zeroValue189
  g3 := by kernel_rfl
  g4 := by kernel_rfl }
end Go.Proofs
namespace Go.Sx.Sp
open Go Go.Sx Go.Proofs Go.RowKit
def tabsOK (w : World) : Prop := Lib.Utf8Tabs 0 1 w
instance : Glob := ⟨tabsOK, [0, 1], fun w w' hs h => by
  have h0 := hs 0 (by simp)
  have h1 := hs 1 (by simp)
  refine ⟨fun c hc => ?_, fun i hi => ?_⟩
  · rw [cell?_of_heap h0]; exact h.1 c hc
  · rw [cell?_of_heap h1, cell?_of_heap h1]; exact h.2 i hi⟩
set_option maxRecDepth 1000000 in
theorem utf8_spec (s : List UInt8) : Spec Tryd.prog 115 [.str s] [] (.bool (Lib.validD s)) [] := by
  refine Spec.ofCalls (fun cargs w => enters_of Tryd.func115 (by kernel_rfl) rfl cargs w) fun w F m cargs hl ha hg => ?_
  match cargs, hl with
  | [c], _ =>
    obtain ⟨rfl, hs⟩ := (ha 0 (.str s) c rfl rfl).str_inv
    have hsz : (⟨s.toArray⟩ : ByteArray).size ≤ 9223372036854775807 := by
      have : maxLen = 9223372036854775807 := by unfold maxLen; rfl
      simpa [ByteArray.size, this] using hs
    refine (Any.utf8_ValidString Tryd.laysValid ⟨s.toArray⟩ w hsz hg).mono fun e w' ⟨he, hb⟩ => ?_
    exact ⟨_, he, fun w' F m => .bool _, hb⟩
end Go.Sx.Sp
