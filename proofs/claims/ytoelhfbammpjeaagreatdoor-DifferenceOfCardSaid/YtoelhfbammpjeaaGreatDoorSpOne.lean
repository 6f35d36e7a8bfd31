/- Types of the program, and library functions. -/
import Derived.Test.YtoelhfbammpjeaaGreatDoorSxThree
import Derived.Test.YtoelhfbammpjeaaGreatDoorProg
import Derived.Test.YtoelhfbammpjeaaGreatDoorSxFour
import Derived.Test.YtoelhfbammpjeaaGreatDoorSxFive
import Derived.Shelf.Unicode.ValidAny
import Derived.Shelf.Strconv.Itoa3
import Derived.Lib.LaidTab
import Derived.Test.YtoelhfbammpjeaaGreatDoorSxSix
import Derived.Shelf.Small.Strs
import Derived.Ground.SlsfProg
import Derived.Shelf.SlGeneric
set_option linter.unusedVariables false
set_option linter.unusedSimpArgs false
namespace Go.Sx.Sp
open Go Go.Sx Go.Proofs
theorem tok1 : TOK Tryz.prog 1 ⟨.fn, 1, 8, [.nilf]⟩ := tok_of (by kernel_rfl)
theorem tok2 : TOK Tryz.prog 2 ⟨.int .i64, 1, 8, [.int .i64 0]⟩ := tok_of (by kernel_rfl)
theorem tok3 : TOK Tryz.prog 3 ⟨.int .i64, 1, 8, [.int .i64 0]⟩ := tok_of (by kernel_rfl)
theorem tok4 : TOK Tryz.prog 4 ⟨.bool, 1, 1, [.bool false]⟩ := tok_of (by kernel_rfl)
theorem tok5 : TOK Tryz.prog 5 ⟨.int .u8, 1, 1, [.int .u8 0]⟩ := tok_of (by kernel_rfl)
theorem tok6 : TOK Tryz.prog 6 ⟨.int .u8, 1, 1, [.int .u8 0]⟩ := tok_of (by kernel_rfl)
theorem tok7 : TOK Tryz.prog 7 ⟨.st [(0, 2), (1, 3), (2, 4), (3, 6)], 4, 24, [.int .i64 0, .int .i64 0, .bool false, .int .u8 0]⟩ := tok_of (by kernel_rfl)
theorem tok8 : TOK Tryz.prog 8 ⟨.st [(0, 2), (1, 3), (2, 4), (3, 6)], 4, 24, [.int .i64 0, .int .i64 0, .bool false, .int .u8 0]⟩ := tok_of (by kernel_rfl)
theorem tok9 : TOK Tryz.prog 9 ⟨.str, 1, 16, [.str []]⟩ := tok_of (by kernel_rfl)
theorem tok10 : TOK Tryz.prog 10 ⟨.str, 1, 16, [.str []]⟩ := tok_of (by kernel_rfl)
theorem tok11 : TOK Tryz.prog 11 ⟨.str, 1, 16, [.str []]⟩ := tok_of (by kernel_rfl)
theorem tok12 : TOK Tryz.prog 12 ⟨.int .u64, 1, 8, [.int .u64 0]⟩ := tok_of (by kernel_rfl)
theorem tok13 : TOK Tryz.prog 13 ⟨.st [(0, 9), (1, 12)], 2, 24, [.str [], .int .u64 0]⟩ := tok_of (by kernel_rfl)
theorem tok14 : TOK Tryz.prog 14 ⟨.st [(0, 9), (1, 12)], 2, 24, [.str [], .int .u64 0]⟩ := tok_of (by kernel_rfl)
theorem tok15 : TOK Tryz.prog 15 ⟨.ptr 171, 1, 8, [.nilp]⟩ := tok_of (by kernel_rfl)
theorem tok16 : TOK Tryz.prog 16 ⟨.ptr 174, 1, 8, [.nilp]⟩ := tok_of (by kernel_rfl)
theorem tok17 : TOK Tryz.prog 17 ⟨.ptr 183, 1, 8, [.nilp]⟩ := tok_of (by kernel_rfl)
theorem tok18 : TOK Tryz.prog 18 ⟨.st [(0, 17)], 1, 8, [.nilp]⟩ := tok_of (by kernel_rfl)
theorem tok19 : TOK Tryz.prog 19 ⟨.st [(0, 17)], 1, 8, [.nilp]⟩ := tok_of (by kernel_rfl)
theorem tok20 : TOK Tryz.prog 20 ⟨.iface, 1, 16, [.nili]⟩ := tok_of (by kernel_rfl)
theorem tok21 : TOK Tryz.prog 21 ⟨.int .i32, 1, 4, [.int .i32 0]⟩ := tok_of (by kernel_rfl)
theorem tok22 : TOK Tryz.prog 22 ⟨.sl 3, 1, 24, [.nils]⟩ := tok_of (by kernel_rfl)
theorem tok23 : TOK Tryz.prog 23 ⟨.sl 30, 1, 24, [.nils]⟩ := tok_of (by kernel_rfl)
theorem tok24 : TOK Tryz.prog 24 ⟨.st [(0, 3), (1, 9), (2, 23)], 3, 48, [.int .i64 0, .str [], .nils]⟩ := tok_of (by kernel_rfl)
theorem tok25 : TOK Tryz.prog 25 ⟨.st [(0, 3), (1, 9), (2, 23)], 3, 48, [.int .i64 0, .str [], .nils]⟩ := tok_of (by kernel_rfl)
theorem tok26 : TOK Tryz.prog 26 ⟨.fn, 1, 8, [.nilf]⟩ := tok_of (by kernel_rfl)
theorem tok27 : TOK Tryz.prog 27 ⟨.fn, 1, 8, [.nilf]⟩ := tok_of (by kernel_rfl)
theorem tok28 : TOK Tryz.prog 28 ⟨.sl 50, 1, 24, [.nils]⟩ := tok_of (by kernel_rfl)
theorem tok29 : TOK Tryz.prog 29 ⟨.st [(0, 9), (1, 28)], 2, 40, [.str [], .nils]⟩ := tok_of (by kernel_rfl)
theorem tok30 : TOK Tryz.prog 30 ⟨.st [(0, 9), (1, 28)], 2, 40, [.str [], .nils]⟩ := tok_of (by kernel_rfl)
theorem tok31 : TOK Tryz.prog 31 ⟨.ptr 54, 1, 8, [.nilp]⟩ := tok_of (by kernel_rfl)
theorem tok32 : TOK Tryz.prog 32 ⟨.fn, 1, 8, [.nilf]⟩ := tok_of (by kernel_rfl)
theorem tok33 : TOK Tryz.prog 33 ⟨.fn, 1, 8, [.nilf]⟩ := tok_of (by kernel_rfl)
theorem tok34 : TOK Tryz.prog 34 ⟨.fn, 1, 8, [.nilf]⟩ := tok_of (by kernel_rfl)
theorem tok35 : TOK Tryz.prog 35 ⟨.fn, 1, 8, [.nilf]⟩ := tok_of (by kernel_rfl)
theorem tok36 : TOK Tryz.prog 36 ⟨.sl 28, 1, 24, [.nils]⟩ := tok_of (by kernel_rfl)
theorem tok37 : TOK Tryz.prog 37 ⟨.st [(0, 28), (1, 36)], 2, 48, [.nils, .nils]⟩ := tok_of (by kernel_rfl)
theorem tok38 : TOK Tryz.prog 38 ⟨.st [(0, 28), (1, 36)], 2, 48, [.nils, .nils]⟩ := tok_of (by kernel_rfl)
theorem tok39 : TOK Tryz.prog 39 ⟨.int .i64, 1, 8, [.int .i64 0]⟩ := tok_of (by kernel_rfl)
theorem tok41 : TOK Tryz.prog 41 ⟨.fn, 1, 8, [.nilf]⟩ := tok_of (by kernel_rfl)
theorem tok43 : TOK Tryz.prog 43 ⟨.fn, 1, 8, [.nilf]⟩ := tok_of (by kernel_rfl)
theorem tok44 : TOK Tryz.prog 44 ⟨.fn, 1, 8, [.nilf]⟩ := tok_of (by kernel_rfl)
theorem tok45 : TOK Tryz.prog 45 ⟨.fn, 1, 8, [.nilf]⟩ := tok_of (by kernel_rfl)
theorem tok46 : TOK Tryz.prog 46 ⟨.fn, 1, 8, [.nilf]⟩ := tok_of (by kernel_rfl)
theorem tok47 : TOK Tryz.prog 47 ⟨.fn, 1, 8, [.nilf]⟩ := tok_of (by kernel_rfl)
theorem tok48 : TOK Tryz.prog 48 ⟨.fn, 1, 8, [.nilf]⟩ := tok_of (by kernel_rfl)
theorem tok49 : TOK Tryz.prog 49 ⟨.st [(0, 4), (1, 9)], 2, 24, [.bool false, .str []]⟩ := tok_of (by kernel_rfl)
theorem tok50 : TOK Tryz.prog 50 ⟨.st [(0, 4), (1, 9)], 2, 24, [.bool false, .str []]⟩ := tok_of (by kernel_rfl)
theorem tok51 : TOK Tryz.prog 51 ⟨.fn, 1, 8, [.nilf]⟩ := tok_of (by kernel_rfl)
theorem tok52 : TOK Tryz.prog 52 ⟨.fn, 1, 8, [.nilf]⟩ := tok_of (by kernel_rfl)
theorem tok53 : TOK Tryz.prog 53 ⟨.st [(0, 22), (1, 3)], 2, 32, [.nils, .int .i64 0]⟩ := tok_of (by kernel_rfl)
theorem tok54 : TOK Tryz.prog 54 ⟨.st [(0, 22), (1, 3)], 2, 32, [.nils, .int .i64 0]⟩ := tok_of (by kernel_rfl)
theorem tok55 : TOK Tryz.prog 55 ⟨.map 9 4, 1, 8, [.nilm]⟩ := tok_of (by kernel_rfl)
theorem tok56 : TOK Tryz.prog 56 ⟨.fn, 1, 8, [.nilf]⟩ := tok_of (by kernel_rfl)
theorem tok57 : TOK Tryz.prog 57 ⟨.fn, 1, 8, [.nilf]⟩ := tok_of (by kernel_rfl)
theorem tok58 : TOK Tryz.prog 58 ⟨.fn, 1, 8, [.nilf]⟩ := tok_of (by kernel_rfl)
theorem tok59 : TOK Tryz.prog 59 ⟨.fn, 1, 8, [.nilf]⟩ := tok_of (by kernel_rfl)
theorem tok60 : TOK Tryz.prog 60 ⟨.st [(0, 3), (1, 3), (2, 9), (3, 22)], 4, 56, [.int .i64 0, .int .i64 0, .str [], .nils]⟩ := tok_of (by kernel_rfl)
theorem tok61 : TOK Tryz.prog 61 ⟨.st [(0, 3), (1, 3), (2, 9), (3, 22)], 4, 56, [.int .i64 0, .int .i64 0, .str [], .nils]⟩ := tok_of (by kernel_rfl)
theorem tok62 : TOK Tryz.prog 62 ⟨.fn, 1, 8, [.nilf]⟩ := tok_of (by kernel_rfl)
theorem tok63 : TOK Tryz.prog 63 ⟨.sl 61, 1, 24, [.nils]⟩ := tok_of (by kernel_rfl)
theorem tok64 : TOK Tryz.prog 64 ⟨.fn, 1, 8, [.nilf]⟩ := tok_of (by kernel_rfl)
theorem tok65 : TOK Tryz.prog 65 ⟨.fn, 1, 8, [.nilf]⟩ := tok_of (by kernel_rfl)
theorem tok66 : TOK Tryz.prog 66 ⟨.fn, 1, 8, [.nilf]⟩ := tok_of (by kernel_rfl)
theorem tok67 : TOK Tryz.prog 67 ⟨.fn, 1, 8, [.nilf]⟩ := tok_of (by kernel_rfl)
theorem tok68 : TOK Tryz.prog 68 ⟨.fn, 1, 8, [.nilf]⟩ := tok_of (by kernel_rfl)
theorem tok69 : TOK Tryz.prog 69 ⟨.map 9 3, 1, 8, [.nilm]⟩ := tok_of (by kernel_rfl)
theorem tok70 : TOK Tryz.prog 70 ⟨.fn, 1, 8, [.nilf]⟩ := tok_of (by kernel_rfl)
theorem tok72 : TOK Tryz.prog 72 ⟨.fn, 1, 8, [.nilf]⟩ := tok_of (by kernel_rfl)
theorem tok73 : TOK Tryz.prog 73 ⟨.fn, 1, 8, [.nilf]⟩ := tok_of (by kernel_rfl)
theorem tok74 : TOK Tryz.prog 74 ⟨.fn, 1, 8, [.nilf]⟩ := tok_of (by kernel_rfl)
theorem tok75 : TOK Tryz.prog 75 ⟨.fn, 1, 8, [.nilf]⟩ := tok_of (by kernel_rfl)
theorem tok76 : TOK Tryz.prog 76 ⟨.fn, 1, 8, [.nilf]⟩ := tok_of (by kernel_rfl)
theorem tok77 : TOK Tryz.prog 77 ⟨.fn, 1, 8, [.nilf]⟩ := tok_of (by kernel_rfl)
theorem tok78 : TOK Tryz.prog 78 ⟨.fn, 1, 8, [.nilf]⟩ := tok_of (by kernel_rfl)
theorem tok79 : TOK Tryz.prog 79 ⟨.fn, 1, 8, [.nilf]⟩ := tok_of (by kernel_rfl)
theorem tok80 : TOK Tryz.prog 80 ⟨.fn, 1, 8, [.nilf]⟩ := tok_of (by kernel_rfl)
theorem tok81 : TOK Tryz.prog 81 ⟨.fn, 1, 8, [.nilf]⟩ := tok_of (by kernel_rfl)
theorem tok82 : TOK Tryz.prog 82 ⟨.fn, 1, 8, [.nilf]⟩ := tok_of (by kernel_rfl)
theorem tok83 : TOK Tryz.prog 83 ⟨.fn, 1, 8, [.nilf]⟩ := tok_of (by kernel_rfl)
theorem tok84 : TOK Tryz.prog 84 ⟨.sl 9, 1, 24, [.nils]⟩ := tok_of (by kernel_rfl)
theorem tok85 : TOK Tryz.prog 85 ⟨.fn, 1, 8, [.nilf]⟩ := tok_of (by kernel_rfl)
theorem tok86 : TOK Tryz.prog 86 ⟨.fn, 1, 8, [.nilf]⟩ := tok_of (by kernel_rfl)
theorem tok87 : TOK Tryz.prog 87 ⟨.fn, 1, 8, [.nilf]⟩ := tok_of (by kernel_rfl)
theorem tok88 : TOK Tryz.prog 88 ⟨.fn, 1, 8, [.nilf]⟩ := tok_of (by kernel_rfl)
theorem tok89 : TOK Tryz.prog 89 ⟨.fn, 1, 8, [.nilf]⟩ := tok_of (by kernel_rfl)
theorem tok90 : TOK Tryz.prog 90 ⟨.fn, 1, 8, [.nilf]⟩ := tok_of (by kernel_rfl)
theorem tok91 : TOK Tryz.prog 91 ⟨.fn, 1, 8, [.nilf]⟩ := tok_of (by kernel_rfl)
theorem tok92 : TOK Tryz.prog 92 ⟨.fn, 1, 8, [.nilf]⟩ := tok_of (by kernel_rfl)
theorem tok93 : TOK Tryz.prog 93 ⟨.fn, 1, 8, [.nilf]⟩ := tok_of (by kernel_rfl)
theorem tok94 : TOK Tryz.prog 94 ⟨.sl 25, 1, 24, [.nils]⟩ := tok_of (by kernel_rfl)
theorem tok95 : TOK Tryz.prog 95 ⟨.fn, 1, 8, [.nilf]⟩ := tok_of (by kernel_rfl)
theorem tok96 : TOK Tryz.prog 96 ⟨.fn, 1, 8, [.nilf]⟩ := tok_of (by kernel_rfl)
theorem tok97 : TOK Tryz.prog 97 ⟨.fn, 1, 8, [.nilf]⟩ := tok_of (by kernel_rfl)
theorem tok98 : TOK Tryz.prog 98 ⟨.fn, 1, 8, [.nilf]⟩ := tok_of (by kernel_rfl)
theorem tok99 : TOK Tryz.prog 99 ⟨.fn, 1, 8, [.nilf]⟩ := tok_of (by kernel_rfl)
theorem tok100 : TOK Tryz.prog 100 ⟨.int .u64, 1, 8, [.int .u64 0]⟩ := tok_of (by kernel_rfl)
theorem tok101 : TOK Tryz.prog 101 ⟨.fn, 1, 8, [.nilf]⟩ := tok_of (by kernel_rfl)
theorem tok102 : TOK Tryz.prog 102 ⟨.fn, 1, 8, [.nilf]⟩ := tok_of (by kernel_rfl)
theorem tok103 : TOK Tryz.prog 103 ⟨.fn, 1, 8, [.nilf]⟩ := tok_of (by kernel_rfl)
theorem tok104 : TOK Tryz.prog 104 ⟨.fn, 1, 8, [.nilf]⟩ := tok_of (by kernel_rfl)
theorem tok105 : TOK Tryz.prog 105 ⟨.fn, 1, 8, [.nilf]⟩ := tok_of (by kernel_rfl)
theorem tok106 : TOK Tryz.prog 106 ⟨.fn, 1, 8, [.nilf]⟩ := tok_of (by kernel_rfl)
theorem tok107 : TOK Tryz.prog 107 ⟨.fn, 1, 8, [.nilf]⟩ := tok_of (by kernel_rfl)
theorem tok108 : TOK Tryz.prog 108 ⟨.fn, 1, 8, [.nilf]⟩ := tok_of (by kernel_rfl)
theorem tok109 : TOK Tryz.prog 109 ⟨.fn, 1, 8, [.nilf]⟩ := tok_of (by kernel_rfl)
theorem tok110 : TOK Tryz.prog 110 ⟨.fn, 1, 8, [.nilf]⟩ := tok_of (by kernel_rfl)
theorem tok111 : TOK Tryz.prog 111 ⟨.fn, 1, 8, [.nilf]⟩ := tok_of (by kernel_rfl)
theorem tok112 : TOK Tryz.prog 112 ⟨.fn, 1, 8, [.nilf]⟩ := tok_of (by kernel_rfl)
theorem tok113 : TOK Tryz.prog 113 ⟨.fn, 1, 8, [.nilf]⟩ := tok_of (by kernel_rfl)
theorem tok114 : TOK Tryz.prog 114 ⟨.int .i64, 1, 8, [.int .i64 0]⟩ := tok_of (by kernel_rfl)
theorem tok116 : TOK Tryz.prog 116 ⟨.fn, 1, 8, [.nilf]⟩ := tok_of (by kernel_rfl)
theorem tok117 : TOK Tryz.prog 117 ⟨.fn, 1, 8, [.nilf]⟩ := tok_of (by kernel_rfl)
theorem tok118 : TOK Tryz.prog 118 ⟨.fn, 1, 8, [.nilf]⟩ := tok_of (by kernel_rfl)
theorem tok119 : TOK Tryz.prog 119 ⟨.fn, 1, 8, [.nilf]⟩ := tok_of (by kernel_rfl)
theorem tok120 : TOK Tryz.prog 120 ⟨.fn, 1, 8, [.nilf]⟩ := tok_of (by kernel_rfl)
theorem tok121 : TOK Tryz.prog 121 ⟨.int .u32, 1, 4, [.int .u32 0]⟩ := tok_of (by kernel_rfl)
theorem tok122 : TOK Tryz.prog 122 ⟨.fn, 1, 8, [.nilf]⟩ := tok_of (by kernel_rfl)
theorem tok123 : TOK Tryz.prog 123 ⟨.int .u64, 1, 8, [.int .u64 0]⟩ := tok_of (by kernel_rfl)
theorem tok124 : TOK Tryz.prog 124 ⟨.fn, 1, 8, [.nilf]⟩ := tok_of (by kernel_rfl)
theorem tok125 : TOK Tryz.prog 125 ⟨.fn, 1, 8, [.nilf]⟩ := tok_of (by kernel_rfl)
theorem tok126 : TOK Tryz.prog 126 ⟨.fn, 1, 8, [.nilf]⟩ := tok_of (by kernel_rfl)
theorem tok127 : TOK Tryz.prog 127 ⟨.fn, 1, 8, [.nilf]⟩ := tok_of (by kernel_rfl)
theorem tok128 : TOK Tryz.prog 128 ⟨.fn, 1, 8, [.nilf]⟩ := tok_of (by kernel_rfl)
theorem tok129 : TOK Tryz.prog 129 ⟨.fn, 1, 8, [.nilf]⟩ := tok_of (by kernel_rfl)
theorem tok130 : TOK Tryz.prog 130 ⟨.fn, 1, 8, [.nilf]⟩ := tok_of (by kernel_rfl)
theorem tok131 : TOK Tryz.prog 131 ⟨.fn, 1, 8, [.nilf]⟩ := tok_of (by kernel_rfl)
theorem tok132 : TOK Tryz.prog 132 ⟨.fn, 1, 8, [.nilf]⟩ := tok_of (by kernel_rfl)
theorem tok133 : TOK Tryz.prog 133 ⟨.fn, 1, 8, [.nilf]⟩ := tok_of (by kernel_rfl)
theorem tok134 : TOK Tryz.prog 134 ⟨.fn, 1, 8, [.nilf]⟩ := tok_of (by kernel_rfl)
theorem tok135 : TOK Tryz.prog 135 ⟨.fn, 1, 8, [.nilf]⟩ := tok_of (by kernel_rfl)
theorem tok136 : TOK Tryz.prog 136 ⟨.fn, 1, 8, [.nilf]⟩ := tok_of (by kernel_rfl)
theorem tok137 : TOK Tryz.prog 137 ⟨.fn, 1, 8, [.nilf]⟩ := tok_of (by kernel_rfl)
theorem tok138 : TOK Tryz.prog 138 ⟨.int .u64, 1, 8, [.int .u64 0]⟩ := tok_of (by kernel_rfl)
theorem tok139 : TOK Tryz.prog 139 ⟨.fn, 1, 8, [.nilf]⟩ := tok_of (by kernel_rfl)
theorem tok140 : TOK Tryz.prog 140 ⟨.fn, 1, 8, [.nilf]⟩ := tok_of (by kernel_rfl)
theorem tok141 : TOK Tryz.prog 141 ⟨.fn, 1, 8, [.nilf]⟩ := tok_of (by kernel_rfl)
theorem tok142 : TOK Tryz.prog 142 ⟨.ptr 3, 1, 8, [.nilp]⟩ := tok_of (by kernel_rfl)
theorem tok143 : TOK Tryz.prog 143 ⟨.fn, 1, 8, [.nilf]⟩ := tok_of (by kernel_rfl)
theorem tok144 : TOK Tryz.prog 144 ⟨.fn, 1, 8, [.nilf]⟩ := tok_of (by kernel_rfl)
theorem tok145 : TOK Tryz.prog 145 ⟨.arr 24 5, 24, 24, [.int .u8 0, .int .u8 0, .int .u8 0, .int .u8 0, .int .u8 0, .int .u8 0, .int .u8 0, .int .u8 0, .int .u8 0, .int .u8 0, .int .u8 0, .int .u8 0, .int .u8 0, .int .u8 0, .int .u8 0, .int .u8 0, .int .u8 0, .int .u8 0, .int .u8 0, .int .u8 0, .int .u8 0, .int .u8 0, .int .u8 0, .int .u8 0]⟩ := tok_of (by kernel_rfl)
theorem tok146 : TOK Tryz.prog 146 ⟨.fn, 1, 8, [.nilf]⟩ := tok_of (by kernel_rfl)
theorem tok147 : TOK Tryz.prog 147 ⟨.sl 5, 1, 24, [.nils]⟩ := tok_of (by kernel_rfl)
theorem tok149 : TOK Tryz.prog 149 ⟨.fn, 1, 8, [.nilf]⟩ := tok_of (by kernel_rfl)
theorem tok150 : TOK Tryz.prog 150 ⟨.fn, 1, 8, [.nilf]⟩ := tok_of (by kernel_rfl)
theorem tok151 : TOK Tryz.prog 151 ⟨.arr 256 5, 256, 256, [.int .u8 0, .int .u8 0, .int .u8 0, .int .u8 0, .int .u8 0, .int .u8 0, .int .u8 0, .int .u8 0, .int .u8 0, .int .u8 0, .int .u8 0, .int .u8 0, .int .u8 0, .int .u8 0, .int .u8 0, .int .u8 0, .int .u8 0, .int .u8 0, .int .u8 0, .int .u8 0, .int .u8 0, .int .u8 0, .int .u8 0, .int .u8 0, .int .u8 0, .int .u8 0, .int .u8 0, .int .u8 0, .int .u8 0, .int .u8 0, .int .u8 0, .int .u8 0, .int .u8 0, .int .u8 0, .int .u8 0, .int .u8 0, .int .u8 0, .int .u8 0, .int .u8 0, .int .u8 0, .int .u8 0, .int .u8 0, .int .u8 0, .int .u8 0, .int .u8 0, .int .u8 0, .int .u8 0, .int .u8 0, .int .u8 0, .int .u8 0, .int .u8 0, .int .u8 0, .int .u8 0, .int .u8 0, .int .u8 0, .int .u8 0, .int .u8 0, .int .u8 0, .int .u8 0, .int .u8 0, .int .u8 0, .int .u8 0, .int .u8 0, .int .u8 0, .int .u8 0, .int .u8 0, .int .u8 0, .int .u8 0, .int .u8 0, .int .u8 0, .int .u8 0, .int .u8 0, .int .u8 0, .int .u8 0, .int .u8 0, .int .u8 0, .int .u8 0, .int .u8 0, .int .u8 0, .int .u8 0, .int .u8 0, .int .u8 0, .int .u8 0, .int .u8 0, .int .u8 0, .int .u8 0, .int .u8 0, .int .u8 0, .int .u8 0, .int .u8 0, .int .u8 0, .int .u8 0, .int .u8 0, .int .u8 0, .int .u8 0, .int .u8 0, .int .u8 0, .int .u8 0, .int .u8 0, .int .u8 0, .int .u8 0, .int .u8 0, .int .u8 0, .int .u8 0, .int .u8 0, .int .u8 0, .int .u8 0, .int .u8 0, .int .u8 0, .int .u8 0, .int .u8 0, .int .u8 0, .int .u8 0, .int .u8 0, .int .u8 0, .int .u8 0, .int .u8 0, .int .u8 0, .int .u8 0, .int .u8 0, .int .u8 0, .int .u8 0, .int .u8 0, .int .u8 0, .int .u8 0, .int .u8 0, .int .u8 0, .int .u8 0, .int .u8 0, .int .u8 0, .int .u8 0, .int .u8 0, .int .u8 0, .int .u8 0, .int .u8 0, .int .u8 0, .int .u8 0, .int .u8 0, .int .u8 0, .int .u8 0, .int .u8 0, .int .u8 0, .int .u8 0, .int .u8 0, .int .u8 0, .int .u8 0, .int .u8 0, .int .u8 0, .int .u8 0, .int .u8 0, .int .u8 0, .int .u8 0, .int .u8 0, .int .u8 0, .int .u8 0, .int .u8 0, .int .u8 0, .int .u8 0, .int .u8 0, .int .u8 0, .int .u8 0, .int .u8 0, .int .u8 0, .int .u8 0, .int .u8 0, .int .u8 0, .int .u8 0, .int .u8 0, .int .u8 0, .int .u8 0, .int .u8 0, .int .u8 0, .int .u8 0, .int .u8 0, .int .u8 0, .int .u8 0, .int .u8 0, .int .u8 0, .int .u8 0, .int .u8 0, .int .u8 0, .int .u8 0, .int .u8 0, .int .u8 0, .int .u8 0, .int .u8 0, .int .u8 0, .int .u8 0, .int .u8 0, .int .u8 0, .int .u8 0, .int .u8 0, .int .u8 0, .int .u8 0, .int .u8 0, .int .u8 0, .int .u8 0, .int .u8 0, .int .u8 0, .int .u8 0, .int .u8 0, .int .u8 0, .int .u8 0, .int .u8 0, .int .u8 0, .int .u8 0, .int .u8 0, .int .u8 0, .int .u8 0, .int .u8 0, .int .u8 0, .int .u8 0, .int .u8 0, .int .u8 0, .int .u8 0, .int .u8 0, .int .u8 0, .int .u8 0, .int .u8 0, .int .u8 0, .int .u8 0, .int .u8 0, .int .u8 0, .int .u8 0, .int .u8 0, .int .u8 0, .int .u8 0, .int .u8 0, .int .u8 0, .int .u8 0, .int .u8 0, .int .u8 0, .int .u8 0, .int .u8 0, .int .u8 0, .int .u8 0, .int .u8 0, .int .u8 0, .int .u8 0, .int .u8 0, .int .u8 0, .int .u8 0, .int .u8 0, .int .u8 0, .int .u8 0, .int .u8 0, .int .u8 0, .int .u8 0, .int .u8 0, .int .u8 0, .int .u8 0, .int .u8 0, .int .u8 0, .int .u8 0, .int .u8 0, .int .u8 0]⟩ := tok_of (by kernel_rfl)
theorem tok152 : TOK Tryz.prog 152 ⟨.st [(0, 5), (1, 5)], 2, 2, [.int .u8 0, .int .u8 0]⟩ := tok_of (by kernel_rfl)
theorem tok153 : TOK Tryz.prog 153 ⟨.st [(0, 5), (1, 5)], 2, 2, [.int .u8 0, .int .u8 0]⟩ := tok_of (by kernel_rfl)
theorem tok154 : TOK Tryz.prog 154 ⟨.arr 16 153, 32, 32, [.int .u8 0, .int .u8 0, .int .u8 0, .int .u8 0, .int .u8 0, .int .u8 0, .int .u8 0, .int .u8 0, .int .u8 0, .int .u8 0, .int .u8 0, .int .u8 0, .int .u8 0, .int .u8 0, .int .u8 0, .int .u8 0, .int .u8 0, .int .u8 0, .int .u8 0, .int .u8 0, .int .u8 0, .int .u8 0, .int .u8 0, .int .u8 0, .int .u8 0, .int .u8 0, .int .u8 0, .int .u8 0, .int .u8 0, .int .u8 0, .int .u8 0, .int .u8 0]⟩ := tok_of (by kernel_rfl)
theorem tok155 : TOK Tryz.prog 155 ⟨.fn, 1, 8, [.nilf]⟩ := tok_of (by kernel_rfl)
theorem tok156 : TOK Tryz.prog 156 ⟨.fn, 1, 8, [.nilf]⟩ := tok_of (by kernel_rfl)
theorem tok157 : TOK Tryz.prog 157 ⟨.fn, 1, 8, [.nilf]⟩ := tok_of (by kernel_rfl)
theorem tok158 : TOK Tryz.prog 158 ⟨.fn, 1, 8, [.nilf]⟩ := tok_of (by kernel_rfl)
theorem tok159 : TOK Tryz.prog 159 ⟨.ptr 138, 1, 8, [.nilp]⟩ := tok_of (by kernel_rfl)
theorem tok161 : TOK Tryz.prog 161 ⟨.fn, 1, 8, [.nilf]⟩ := tok_of (by kernel_rfl)
theorem tok162 : TOK Tryz.prog 162 ⟨.fn, 1, 8, [.nilf]⟩ := tok_of (by kernel_rfl)
theorem tok163 : TOK Tryz.prog 163 ⟨.arr 20 123, 20, 160, [.int .u64 0, .int .u64 0, .int .u64 0, .int .u64 0, .int .u64 0, .int .u64 0, .int .u64 0, .int .u64 0, .int .u64 0, .int .u64 0, .int .u64 0, .int .u64 0, .int .u64 0, .int .u64 0, .int .u64 0, .int .u64 0, .int .u64 0, .int .u64 0, .int .u64 0, .int .u64 0]⟩ := tok_of (by kernel_rfl)
theorem tok164 : TOK Tryz.prog 164 ⟨.arr 65 5, 65, 65, [.int .u8 0, .int .u8 0, .int .u8 0, .int .u8 0, .int .u8 0, .int .u8 0, .int .u8 0, .int .u8 0, .int .u8 0, .int .u8 0, .int .u8 0, .int .u8 0, .int .u8 0, .int .u8 0, .int .u8 0, .int .u8 0, .int .u8 0, .int .u8 0, .int .u8 0, .int .u8 0, .int .u8 0, .int .u8 0, .int .u8 0, .int .u8 0, .int .u8 0, .int .u8 0, .int .u8 0, .int .u8 0, .int .u8 0, .int .u8 0, .int .u8 0, .int .u8 0, .int .u8 0, .int .u8 0, .int .u8 0, .int .u8 0, .int .u8 0, .int .u8 0, .int .u8 0, .int .u8 0, .int .u8 0, .int .u8 0, .int .u8 0, .int .u8 0, .int .u8 0, .int .u8 0, .int .u8 0, .int .u8 0, .int .u8 0, .int .u8 0, .int .u8 0, .int .u8 0, .int .u8 0, .int .u8 0, .int .u8 0, .int .u8 0, .int .u8 0, .int .u8 0, .int .u8 0, .int .u8 0, .int .u8 0, .int .u8 0, .int .u8 0, .int .u8 0, .int .u8 0]⟩ := tok_of (by kernel_rfl)
theorem tok165 : TOK Tryz.prog 165 ⟨.fn, 1, 8, [.nilf]⟩ := tok_of (by kernel_rfl)
theorem tok166 : TOK Tryz.prog 166 ⟨.fn, 1, 8, [.nilf]⟩ := tok_of (by kernel_rfl)
theorem tok167 : TOK Tryz.prog 167 ⟨.arr 32 5, 32, 32, [.int .u8 0, .int .u8 0, .int .u8 0, .int .u8 0, .int .u8 0, .int .u8 0, .int .u8 0, .int .u8 0, .int .u8 0, .int .u8 0, .int .u8 0, .int .u8 0, .int .u8 0, .int .u8 0, .int .u8 0, .int .u8 0, .int .u8 0, .int .u8 0, .int .u8 0, .int .u8 0, .int .u8 0, .int .u8 0, .int .u8 0, .int .u8 0, .int .u8 0, .int .u8 0, .int .u8 0, .int .u8 0, .int .u8 0, .int .u8 0, .int .u8 0, .int .u8 0]⟩ := tok_of (by kernel_rfl)
theorem tok168 : TOK Tryz.prog 168 ⟨.arr 64 5, 64, 64, [.int .u8 0, .int .u8 0, .int .u8 0, .int .u8 0, .int .u8 0, .int .u8 0, .int .u8 0, .int .u8 0, .int .u8 0, .int .u8 0, .int .u8 0, .int .u8 0, .int .u8 0, .int .u8 0, .int .u8 0, .int .u8 0, .int .u8 0, .int .u8 0, .int .u8 0, .int .u8 0, .int .u8 0, .int .u8 0, .int .u8 0, .int .u8 0, .int .u8 0, .int .u8 0, .int .u8 0, .int .u8 0, .int .u8 0, .int .u8 0, .int .u8 0, .int .u8 0, .int .u8 0, .int .u8 0, .int .u8 0, .int .u8 0, .int .u8 0, .int .u8 0, .int .u8 0, .int .u8 0, .int .u8 0, .int .u8 0, .int .u8 0, .int .u8 0, .int .u8 0, .int .u8 0, .int .u8 0, .int .u8 0, .int .u8 0, .int .u8 0, .int .u8 0, .int .u8 0, .int .u8 0, .int .u8 0, .int .u8 0, .int .u8 0, .int .u8 0, .int .u8 0, .int .u8 0, .int .u8 0, .int .u8 0, .int .u8 0, .int .u8 0, .int .u8 0]⟩ := tok_of (by kernel_rfl)
theorem tok169 : TOK Tryz.prog 169 ⟨.fn, 1, 8, [.nilf]⟩ := tok_of (by kernel_rfl)
theorem tok170 : TOK Tryz.prog 170 ⟨.st [(0, 17), (1, 17), (2, 17), (3, 9)], 4, 40, [.nilp, .nilp, .nilp, .str []]⟩ := tok_of (by kernel_rfl)
theorem tok171 : TOK Tryz.prog 171 ⟨.st [(0, 17), (1, 17), (2, 17), (3, 9)], 4, 40, [.nilp, .nilp, .nilp, .str []]⟩ := tok_of (by kernel_rfl)
theorem tok172 : TOK Tryz.prog 172 ⟨.arr 0 16, 0, 0, []⟩ := tok_of (by kernel_rfl)
theorem tok173 : TOK Tryz.prog 173 ⟨.st [(0, 172)], 0, 0, []⟩ := tok_of (by kernel_rfl)
theorem tok174 : TOK Tryz.prog 174 ⟨.st [(0, 172)], 0, 0, []⟩ := tok_of (by kernel_rfl)
theorem tok175 : TOK Tryz.prog 175 ⟨.fn, 1, 8, [.nilf]⟩ := tok_of (by kernel_rfl)
theorem tok176 : TOK Tryz.prog 176 ⟨.int .u8, 1, 1, [.int .u8 0]⟩ := tok_of (by kernel_rfl)
theorem tok177 : TOK Tryz.prog 177 ⟨.int .u8, 1, 1, [.int .u8 0]⟩ := tok_of (by kernel_rfl)
theorem tok178 : TOK Tryz.prog 178 ⟨.fn, 1, 8, [.nilf]⟩ := tok_of (by kernel_rfl)
theorem tok179 : TOK Tryz.prog 179 ⟨.ptr 5, 1, 8, [.nilp]⟩ := tok_of (by kernel_rfl)
theorem tok180 : TOK Tryz.prog 180 ⟨.int .i32, 1, 4, [.int .i32 0]⟩ := tok_of (by kernel_rfl)
theorem tok181 : TOK Tryz.prog 181 ⟨.int .i32, 1, 4, [.int .i32 0]⟩ := tok_of (by kernel_rfl)
theorem tok182 : TOK Tryz.prog 182 ⟨.st [(0, 12), (1, 12), (2, 121), (3, 176), (4, 5), (5, 5), (6, 177), (7, 178), (8, 179), (9, 180), (10, 181)], 11, 48, [.int .u64 0, .int .u64 0, .int .u32 0, .int .u8 0, .int .u8 0, .int .u8 0, .int .u8 0, .nilf, .nilp, .int .i32 0, .int .i32 0]⟩ := tok_of (by kernel_rfl)
theorem tok183 : TOK Tryz.prog 183 ⟨.st [(0, 12), (1, 12), (2, 121), (3, 176), (4, 5), (5, 5), (6, 177), (7, 178), (8, 179), (9, 180), (10, 181)], 11, 48, [.int .u64 0, .int .u64 0, .int .u32 0, .int .u8 0, .int .u8 0, .int .u8 0, .int .u8 0, .nilf, .nilp, .int .i32 0, .int .i32 0]⟩ := tok_of (by kernel_rfl)
def T : List (Nat × TI) := [(1, ⟨.fn, 1, 8, [.nilf]⟩),
  (2, ⟨.int .i64, 1, 8, [.int .i64 0]⟩),
  (3, ⟨.int .i64, 1, 8, [.int .i64 0]⟩),
  (4, ⟨.bool, 1, 1, [.bool false]⟩),
  (5, ⟨.int .u8, 1, 1, [.int .u8 0]⟩),
  (6, ⟨.int .u8, 1, 1, [.int .u8 0]⟩),
  (7, ⟨.st [(0, 2), (1, 3), (2, 4), (3, 6)], 4, 24, [.int .i64 0, .int .i64 0, .bool false, .int .u8 0]⟩),
  (8, ⟨.st [(0, 2), (1, 3), (2, 4), (3, 6)], 4, 24, [.int .i64 0, .int .i64 0, .bool false, .int .u8 0]⟩),
  (9, ⟨.str, 1, 16, [.str []]⟩),
  (10, ⟨.str, 1, 16, [.str []]⟩),
  (11, ⟨.str, 1, 16, [.str []]⟩),
  (12, ⟨.int .u64, 1, 8, [.int .u64 0]⟩),
  (13, ⟨.st [(0, 9), (1, 12)], 2, 24, [.str [], .int .u64 0]⟩),
  (14, ⟨.st [(0, 9), (1, 12)], 2, 24, [.str [], .int .u64 0]⟩),
  (15, ⟨.ptr 171, 1, 8, [.nilp]⟩),
  (16, ⟨.ptr 174, 1, 8, [.nilp]⟩),
  (17, ⟨.ptr 183, 1, 8, [.nilp]⟩),
  (18, ⟨.st [(0, 17)], 1, 8, [.nilp]⟩),
  (19, ⟨.st [(0, 17)], 1, 8, [.nilp]⟩),
  (20, ⟨.iface, 1, 16, [.nili]⟩),
  (21, ⟨.int .i32, 1, 4, [.int .i32 0]⟩),
  (22, ⟨.sl 3, 1, 24, [.nils]⟩),
  (23, ⟨.sl 30, 1, 24, [.nils]⟩),
  (24, ⟨.st [(0, 3), (1, 9), (2, 23)], 3, 48, [.int .i64 0, .str [], .nils]⟩),
  (25, ⟨.st [(0, 3), (1, 9), (2, 23)], 3, 48, [.int .i64 0, .str [], .nils]⟩),
  (26, ⟨.fn, 1, 8, [.nilf]⟩),
  (27, ⟨.fn, 1, 8, [.nilf]⟩),
  (28, ⟨.sl 50, 1, 24, [.nils]⟩),
  (29, ⟨.st [(0, 9), (1, 28)], 2, 40, [.str [], .nils]⟩),
  (30, ⟨.st [(0, 9), (1, 28)], 2, 40, [.str [], .nils]⟩),
  (31, ⟨.ptr 54, 1, 8, [.nilp]⟩),
  (32, ⟨.fn, 1, 8, [.nilf]⟩),
  (33, ⟨.fn, 1, 8, [.nilf]⟩),
  (34, ⟨.fn, 1, 8, [.nilf]⟩),
  (35, ⟨.fn, 1, 8, [.nilf]⟩),
  (36, ⟨.sl 28, 1, 24, [.nils]⟩),
  (37, ⟨.st [(0, 28), (1, 36)], 2, 48, [.nils, .nils]⟩),
  (38, ⟨.st [(0, 28), (1, 36)], 2, 48, [.nils, .nils]⟩),
  (39, ⟨.int .i64, 1, 8, [.int .i64 0]⟩),
  (41, ⟨.fn, 1, 8, [.nilf]⟩),
  (43, ⟨.fn, 1, 8, [.nilf]⟩),
  (44, ⟨.fn, 1, 8, [.nilf]⟩),
  (45, ⟨.fn, 1, 8, [.nilf]⟩),
  (46, ⟨.fn, 1, 8, [.nilf]⟩),
  (47, ⟨.fn, 1, 8, [.nilf]⟩),
  (48, ⟨.fn, 1, 8, [.nilf]⟩),
  (49, ⟨.st [(0, 4), (1, 9)], 2, 24, [.bool false, .str []]⟩),
  (50, ⟨.st [(0, 4), (1, 9)], 2, 24, [.bool false, .str []]⟩),
  (51, ⟨.fn, 1, 8, [.nilf]⟩),
  (52, ⟨.fn, 1, 8, [.nilf]⟩),
  (53, ⟨.st [(0, 22), (1, 3)], 2, 32, [.nils, .int .i64 0]⟩),
  (54, ⟨.st [(0, 22), (1, 3)], 2, 32, [.nils, .int .i64 0]⟩),
  (55, ⟨.map 9 4, 1, 8, [.nilm]⟩),
  (56, ⟨.fn, 1, 8, [.nilf]⟩),
  (57, ⟨.fn, 1, 8, [.nilf]⟩),
  (58, ⟨.fn, 1, 8, [.nilf]⟩),
  (59, ⟨.fn, 1, 8, [.nilf]⟩),
  (60, ⟨.st [(0, 3), (1, 3), (2, 9), (3, 22)], 4, 56, [.int .i64 0, .int .i64 0, .str [], .nils]⟩),
  (61, ⟨.st [(0, 3), (1, 3), (2, 9), (3, 22)], 4, 56, [.int .i64 0, .int .i64 0, .str [], .nils]⟩),
  (62, ⟨.fn, 1, 8, [.nilf]⟩),
  (63, ⟨.sl 61, 1, 24, [.nils]⟩),
  (64, ⟨.fn, 1, 8, [.nilf]⟩),
  (65, ⟨.fn, 1, 8, [.nilf]⟩),
  (66, ⟨.fn, 1, 8, [.nilf]⟩),
  (67, ⟨.fn, 1, 8, [.nilf]⟩),
  (68, ⟨.fn, 1, 8, [.nilf]⟩),
  (69, ⟨.map 9 3, 1, 8, [.nilm]⟩),
  (70, ⟨.fn, 1, 8, [.nilf]⟩),
  (72, ⟨.fn, 1, 8, [.nilf]⟩),
  (73, ⟨.fn, 1, 8, [.nilf]⟩),
  (74, ⟨.fn, 1, 8, [.nilf]⟩),
  (75, ⟨.fn, 1, 8, [.nilf]⟩),
  (76, ⟨.fn, 1, 8, [.nilf]⟩),
  (77, ⟨.fn, 1, 8, [.nilf]⟩),
  (78, ⟨.fn, 1, 8, [.nilf]⟩),
  (79, ⟨.fn, 1, 8, [.nilf]⟩),
  (80, ⟨.fn, 1, 8, [.nilf]⟩),
  (81, ⟨.fn, 1, 8, [.nilf]⟩),
  (82, ⟨.fn, 1, 8, [.nilf]⟩),
  (83, ⟨.fn, 1, 8, [.nilf]⟩),
  (84, ⟨.sl 9, 1, 24, [.nils]⟩),
  (85, ⟨.fn, 1, 8, [.nilf]⟩),
  (86, ⟨.fn, 1, 8, [.nilf]⟩),
  (87, ⟨.fn, 1, 8, [.nilf]⟩),
  (88, ⟨.fn, 1, 8, [.nilf]⟩),
  (89, ⟨.fn, 1, 8, [.nilf]⟩),
  (90, ⟨.fn, 1, 8, [.nilf]⟩),
  (91, ⟨.fn, 1, 8, [.nilf]⟩),
  (92, ⟨.fn, 1, 8, [.nilf]⟩),
  (93, ⟨.fn, 1, 8, [.nilf]⟩),
  (94, ⟨.sl 25, 1, 24, [.nils]⟩),
  (95, ⟨.fn, 1, 8, [.nilf]⟩),
  (96, ⟨.fn, 1, 8, [.nilf]⟩),
  (97, ⟨.fn, 1, 8, [.nilf]⟩),
  (98, ⟨.fn, 1, 8, [.nilf]⟩),
  (99, ⟨.fn, 1, 8, [.nilf]⟩),
  (100, ⟨.int .u64, 1, 8, [.int .u64 0]⟩),
  (101, ⟨.fn, 1, 8, [.nilf]⟩),
  (102, ⟨.fn, 1, 8, [.nilf]⟩),
  (103, ⟨.fn, 1, 8, [.nilf]⟩),
  (104, ⟨.fn, 1, 8, [.nilf]⟩),
  (105, ⟨.fn, 1, 8, [.nilf]⟩),
  (106, ⟨.fn, 1, 8, [.nilf]⟩),
  (107, ⟨.fn, 1, 8, [.nilf]⟩),
  (108, ⟨.fn, 1, 8, [.nilf]⟩),
  (109, ⟨.fn, 1, 8, [.nilf]⟩),
  (110, ⟨.fn, 1, 8, [.nilf]⟩),
  (111, ⟨.fn, 1, 8, [.nilf]⟩),
  (112, ⟨.fn, 1, 8, [.nilf]⟩),
  (113, ⟨.fn, 1, 8, [.nilf]⟩),
  (114, ⟨.int .i64, 1, 8, [.int .i64 0]⟩),
  (116, ⟨.fn, 1, 8, [.nilf]⟩),
  (117, ⟨.fn, 1, 8, [.nilf]⟩),
  (118, ⟨.fn, 1, 8, [.nilf]⟩),
  (119, ⟨.fn, 1, 8, [.nilf]⟩),
  (120, ⟨.fn, 1, 8, [.nilf]⟩),
  (121, ⟨.int .u32, 1, 4, [.int .u32 0]⟩),
  (122, ⟨.fn, 1, 8, [.nilf]⟩),
  (123, ⟨.int .u64, 1, 8, [.int .u64 0]⟩),
  (124, ⟨.fn, 1, 8, [.nilf]⟩),
  (125, ⟨.fn, 1, 8, [.nilf]⟩),
  (126, ⟨.fn, 1, 8, [.nilf]⟩),
  (127, ⟨.fn, 1, 8, [.nilf]⟩),
  (128, ⟨.fn, 1, 8, [.nilf]⟩),
  (129, ⟨.fn, 1, 8, [.nilf]⟩),
  (130, ⟨.fn, 1, 8, [.nilf]⟩),
  (131, ⟨.fn, 1, 8, [.nilf]⟩),
  (132, ⟨.fn, 1, 8, [.nilf]⟩),
  (133, ⟨.fn, 1, 8, [.nilf]⟩),
  (134, ⟨.fn, 1, 8, [.nilf]⟩),
  (135, ⟨.fn, 1, 8, [.nilf]⟩),
  (136, ⟨.fn, 1, 8, [.nilf]⟩),
  (137, ⟨.fn, 1, 8, [.nilf]⟩),
  (138, ⟨.int .u64, 1, 8, [.int .u64 0]⟩),
  (139, ⟨.fn, 1, 8, [.nilf]⟩),
  (140, ⟨.fn, 1, 8, [.nilf]⟩),
  (141, ⟨.fn, 1, 8, [.nilf]⟩),
  (142, ⟨.ptr 3, 1, 8, [.nilp]⟩),
  (143, ⟨.fn, 1, 8, [.nilf]⟩),
  (144, ⟨.fn, 1, 8, [.nilf]⟩),
  (145, ⟨.arr 24 5, 24, 24, [.int .u8 0, .int .u8 0, .int .u8 0, .int .u8 0, .int .u8 0, .int .u8 0, .int .u8 0, .int .u8 0, .int .u8 0, .int .u8 0, .int .u8 0, .int .u8 0, .int .u8 0, .int .u8 0, .int .u8 0, .int .u8 0, .int .u8 0, .int .u8 0, .int .u8 0, .int .u8 0, .int .u8 0, .int .u8 0, .int .u8 0, .int .u8 0]⟩),
  (146, ⟨.fn, 1, 8, [.nilf]⟩),
  (147, ⟨.sl 5, 1, 24, [.nils]⟩),
  (149, ⟨.fn, 1, 8, [.nilf]⟩),
  (150, ⟨.fn, 1, 8, [.nilf]⟩),
  (151, ⟨.arr 256 5, 256, 256, [.int .u8 0, .int .u8 0, .int .u8 0, .int .u8 0, .int .u8 0, .int .u8 0, .int .u8 0, .int .u8 0, .int .u8 0, .int .u8 0, .int .u8 0, .int .u8 0, .int .u8 0, .int .u8 0, .int .u8 0, .int .u8 0, .int .u8 0, .int .u8 0, .int .u8 0, .int .u8 0, .int .u8 0, .int .u8 0, .int .u8 0, .int .u8 0, .int .u8 0, .int .u8 0, .int .u8 0, .int .u8 0, .int .u8 0, .int .u8 0, .int .u8 0, .int .u8 0, .int .u8 0, .int .u8 0, .int .u8 0, .int .u8 0, .int .u8 0, .int .u8 0, .int .u8 0, .int .u8 0, .int .u8 0, .int .u8 0, .int .u8 0, .int .u8 0, .int .u8 0, .int .u8 0, .int .u8 0, .int .u8 0, .int .u8 0, .int .u8 0, .int .u8 0, .int .u8 0, .int .u8 0, .int .u8 0, .int .u8 0, .int .u8 0, .int .u8 0, .int .u8 0, .int .u8 0, .int .u8 0, .int .u8 0, .int .u8 0, .int .u8 0, .int .u8 0, .int .u8 0, .int .u8 0, .int .u8 0, .int .u8 0, .int .u8 0, .int .u8 0, .int .u8 0, .int .u8 0, .int .u8 0, .int .u8 0, .int .u8 0, .int .u8 0, .int .u8 0, .int .u8 0, .int .u8 0, .int .u8 0, .int .u8 0, .int .u8 0, .int .u8 0, .int .u8 0, .int .u8 0, .int .u8 0, .int .u8 0, .int .u8 0, .int .u8 0, .int .u8 0, .int .u8 0, .int .u8 0, .int .u8 0, .int .u8 0, .int .u8 0, .int .u8 0, .int .u8 0, .int .u8 0, .int .u8 0, .int .u8 0, .int .u8 0, .int .u8 0, .int .u8 0, .int .u8 0, .int .u8 0, .int .u8 0, .int .u8 0, .int .u8 0, .int .u8 0, .int .u8 0, .int .u8 0, .int .u8 0, .int .u8 0, .int .u8 0, .int .u8 0, .int .u8 0, .int .u8 0, .int .u8 0, .int .u8 0, .int .u8 0, .int .u8 0, .int .u8 0, .int .u8 0, .int .u8 0, .int .u8 0, .int .u8 0, .int .u8 0, .int .u8 0, .int .u8 0, .int .u8 0, .int .u8 0, .int .u8 0, .int .u8 0, .int .u8 0, .int .u8 0, .int .u8 0, .int .u8 0, .int .u8 0, .int .u8 0, .int .u8 0, .int .u8 0, .int .u8 0, .int .u8 0, .int .u8 0, .int .u8 0, .int .u8 0, .int .u8 0, .int .u8 0, .int .u8 0, .int .u8 0, .int .u8 0, .int .u8 0, .int .u8 0, .int .u8 0, .int .u8 0, .int .u8 0, .int .u8 0, .int .u8 0, .int .u8 0, .int .u8 0, .int .u8 0, .int .u8 0, .int .u8 0, .int .u8 0, .int .u8 0, .int .u8 0, .int .u8 0, .int .u8 0, .int .u8 0, .int .u8 0, .int .u8 0, .int .u8 0, .int .u8 0, .int .u8 0, .int .u8 0, .int .u8 0, .int .u8 0, .int .u8 0, .int .u8 0, .int .u8 0, .int .u8 0, .int .u8 0, .int .u8 0, .int .u8 0, .int .u8 0, .int .u8 0, .int .u8 0, .int .u8 0, .int .u8 0, .int .u8 0, .int .u8 0, .int .u8 0, .int .u8 0, .int .u8 0, .int .u8 0, .int .u8 0, .int .u8 0, .int .u8 0, .int .u8 0, .int .u8 0, .int .u8 0, .int .u8 0, .int .u8 0, .int .u8 0, .int .u8 0, .int .u8 0, .int .u8 0, .int .u8 0, .int .u8 0, .int .u8 0, .int .u8 0, .int .u8 0, .int .u8 0, .int .u8 0, .int .u8 0, .int .u8 0, .int .u8 0, .int .u8 0, .int .u8 0, .int .u8 0, .int .u8 0, .int .u8 0, .int .u8 0, .int .u8 0, .int .u8 0, .int .u8 0, .int .u8 0, .int .u8 0, .int .u8 0, .int .u8 0, .int .u8 0, .int .u8 0, .int .u8 0, .int .u8 0, .int .u8 0, .int .u8 0, .int .u8 0, .int .u8 0, .int .u8 0, .int .u8 0, .int .u8 0, .int .u8 0, .int .u8 0, .int .u8 0, .int .u8 0, .int .u8 0, .int .u8 0, .int .u8 0, .int .u8 0, .int .u8 0, .int .u8 0, .int .u8 0, .int .u8 0, .int .u8 0, .int .u8 0, .int .u8 0]⟩),
  (152, ⟨.st [(0, 5), (1, 5)], 2, 2, [.int .u8 0, .int .u8 0]⟩),
  (153, ⟨.st [(0, 5), (1, 5)], 2, 2, [.int .u8 0, .int .u8 0]⟩),
  (154, ⟨.arr 16 153, 32, 32, [.int .u8 0, .int .u8 0, .int .u8 0, .int .u8 0, .int .u8 0, .int .u8 0, .int .u8 0, .int .u8 0, .int .u8 0, .int .u8 0, .int .u8 0, .int .u8 0, .int .u8 0, .int .u8 0, .int .u8 0, .int .u8 0, .int .u8 0, .int .u8 0, .int .u8 0, .int .u8 0, .int .u8 0, .int .u8 0, .int .u8 0, .int .u8 0, .int .u8 0, .int .u8 0, .int .u8 0, .int .u8 0, .int .u8 0, .int .u8 0, .int .u8 0, .int .u8 0]⟩),
  (155, ⟨.fn, 1, 8, [.nilf]⟩),
  (156, ⟨.fn, 1, 8, [.nilf]⟩),
  (157, ⟨.fn, 1, 8, [.nilf]⟩),
  (158, ⟨.fn, 1, 8, [.nilf]⟩),
  (159, ⟨.ptr 138, 1, 8, [.nilp]⟩),
  (161, ⟨.fn, 1, 8, [.nilf]⟩),
  (162, ⟨.fn, 1, 8, [.nilf]⟩),
  (163, ⟨.arr 20 123, 20, 160, [.int .u64 0, .int .u64 0, .int .u64 0, .int .u64 0, .int .u64 0, .int .u64 0, .int .u64 0, .int .u64 0, .int .u64 0, .int .u64 0, .int .u64 0, .int .u64 0, .int .u64 0, .int .u64 0, .int .u64 0, .int .u64 0, .int .u64 0, .int .u64 0, .int .u64 0, .int .u64 0]⟩),
  (164, ⟨.arr 65 5, 65, 65, [.int .u8 0, .int .u8 0, .int .u8 0, .int .u8 0, .int .u8 0, .int .u8 0, .int .u8 0, .int .u8 0, .int .u8 0, .int .u8 0, .int .u8 0, .int .u8 0, .int .u8 0, .int .u8 0, .int .u8 0, .int .u8 0, .int .u8 0, .int .u8 0, .int .u8 0, .int .u8 0, .int .u8 0, .int .u8 0, .int .u8 0, .int .u8 0, .int .u8 0, .int .u8 0, .int .u8 0, .int .u8 0, .int .u8 0, .int .u8 0, .int .u8 0, .int .u8 0, .int .u8 0, .int .u8 0, .int .u8 0, .int .u8 0, .int .u8 0, .int .u8 0, .int .u8 0, .int .u8 0, .int .u8 0, .int .u8 0, .int .u8 0, .int .u8 0, .int .u8 0, .int .u8 0, .int .u8 0, .int .u8 0, .int .u8 0, .int .u8 0, .int .u8 0, .int .u8 0, .int .u8 0, .int .u8 0, .int .u8 0, .int .u8 0, .int .u8 0, .int .u8 0, .int .u8 0, .int .u8 0, .int .u8 0, .int .u8 0, .int .u8 0, .int .u8 0, .int .u8 0]⟩),
  (165, ⟨.fn, 1, 8, [.nilf]⟩),
  (166, ⟨.fn, 1, 8, [.nilf]⟩),
  (167, ⟨.arr 32 5, 32, 32, [.int .u8 0, .int .u8 0, .int .u8 0, .int .u8 0, .int .u8 0, .int .u8 0, .int .u8 0, .int .u8 0, .int .u8 0, .int .u8 0, .int .u8 0, .int .u8 0, .int .u8 0, .int .u8 0, .int .u8 0, .int .u8 0, .int .u8 0, .int .u8 0, .int .u8 0, .int .u8 0, .int .u8 0, .int .u8 0, .int .u8 0, .int .u8 0, .int .u8 0, .int .u8 0, .int .u8 0, .int .u8 0, .int .u8 0, .int .u8 0, .int .u8 0, .int .u8 0]⟩),
  (168, ⟨.arr 64 5, 64, 64, [.int .u8 0, .int .u8 0, .int .u8 0, .int .u8 0, .int .u8 0, .int .u8 0, .int .u8 0, .int .u8 0, .int .u8 0, .int .u8 0, .int .u8 0, .int .u8 0, .int .u8 0, .int .u8 0, .int .u8 0, .int .u8 0, .int .u8 0, .int .u8 0, .int .u8 0, .int .u8 0, .int .u8 0, .int .u8 0, .int .u8 0, .int .u8 0, .int .u8 0, .int .u8 0, .int .u8 0, .int .u8 0, .int .u8 0, .int .u8 0, .int .u8 0, .int .u8 0, .int .u8 0, .int .u8 0, .int .u8 0, .int .u8 0, .int .u8 0, .int .u8 0, .int .u8 0, .int .u8 0, .int .u8 0, .int .u8 0, .int .u8 0, .int .u8 0, .int .u8 0, .int .u8 0, .int .u8 0, .int .u8 0, .int .u8 0, .int .u8 0, .int .u8 0, .int .u8 0, .int .u8 0, .int .u8 0, .int .u8 0, .int .u8 0, .int .u8 0, .int .u8 0, .int .u8 0, .int .u8 0, .int .u8 0, .int .u8 0, .int .u8 0, .int .u8 0]⟩),
  (169, ⟨.fn, 1, 8, [.nilf]⟩),
  (170, ⟨.st [(0, 17), (1, 17), (2, 17), (3, 9)], 4, 40, [.nilp, .nilp, .nilp, .str []]⟩),
  (171, ⟨.st [(0, 17), (1, 17), (2, 17), (3, 9)], 4, 40, [.nilp, .nilp, .nilp, .str []]⟩),
  (172, ⟨.arr 0 16, 0, 0, []⟩),
  (173, ⟨.st [(0, 172)], 0, 0, []⟩),
  (174, ⟨.st [(0, 172)], 0, 0, []⟩),
  (175, ⟨.fn, 1, 8, [.nilf]⟩),
  (176, ⟨.int .u8, 1, 1, [.int .u8 0]⟩),
  (177, ⟨.int .u8, 1, 1, [.int .u8 0]⟩),
  (178, ⟨.fn, 1, 8, [.nilf]⟩),
  (179, ⟨.ptr 5, 1, 8, [.nilp]⟩),
  (180, ⟨.int .i32, 1, 4, [.int .i32 0]⟩),
  (181, ⟨.int .i32, 1, 4, [.int .i32 0]⟩),
  (182, ⟨.st [(0, 12), (1, 12), (2, 121), (3, 176), (4, 5), (5, 5), (6, 177), (7, 178), (8, 179), (9, 180), (10, 181)], 11, 48, [.int .u64 0, .int .u64 0, .int .u32 0, .int .u8 0, .int .u8 0, .int .u8 0, .int .u8 0, .nilf, .nilp, .int .i32 0, .int .i32 0]⟩),
  (183, ⟨.st [(0, 12), (1, 12), (2, 121), (3, 176), (4, 5), (5, 5), (6, 177), (7, 178), (8, 179), (9, 180), (10, 181)], 11, 48, [.int .u64 0, .int .u64 0, .int .u32 0, .int .u8 0, .int .u8 0, .int .u8 0, .int .u8 0, .nilf, .nilp, .int .i32 0, .int .i32 0]⟩)]
set_option maxRecDepth 20000 in
theorem env : Env Tryz.prog T := ⟨table_cons tok1 (table_cons tok2 (table_cons tok3 (table_cons tok4 (table_cons tok5 (table_cons tok6 (table_cons tok7 (table_cons tok8 (table_cons tok9 (table_cons tok10 (table_cons tok11 (table_cons tok12 (table_cons tok13 (table_cons tok14 (table_cons tok15 (table_cons tok16 (table_cons tok17 (table_cons tok18 (table_cons tok19 (table_cons tok20 (table_cons tok21 (table_cons tok22 (table_cons tok23 (table_cons tok24 (table_cons tok25 (table_cons tok26 (table_cons tok27 (table_cons tok28 (table_cons tok29 (table_cons tok30 (table_cons tok31 (table_cons tok32 (table_cons tok33 (table_cons tok34 (table_cons tok35 (table_cons tok36 (table_cons tok37 (table_cons tok38 (table_cons tok39 (table_cons tok41 (table_cons tok43 (table_cons tok44 (table_cons tok45 (table_cons tok46 (table_cons tok47 (table_cons tok48 (table_cons tok49 (table_cons tok50 (table_cons tok51 (table_cons tok52 (table_cons tok53 (table_cons tok54 (table_cons tok55 (table_cons tok56 (table_cons tok57 (table_cons tok58 (table_cons tok59 (table_cons tok60 (table_cons tok61 (table_cons tok62 (table_cons tok63 (table_cons tok64 (table_cons tok65 (table_cons tok66 (table_cons tok67 (table_cons tok68 (table_cons tok69 (table_cons tok70 (table_cons tok72 (table_cons tok73 (table_cons tok74 (table_cons tok75 (table_cons tok76 (table_cons tok77 (table_cons tok78 (table_cons tok79 (table_cons tok80 (table_cons tok81 (table_cons tok82 (table_cons tok83 (table_cons tok84 (table_cons tok85 (table_cons tok86 (table_cons tok87 (table_cons tok88 (table_cons tok89 (table_cons tok90 (table_cons tok91 (table_cons tok92 (table_cons tok93 (table_cons tok94 (table_cons tok95 (table_cons tok96 (table_cons tok97 (table_cons tok98 (table_cons tok99 (table_cons tok100 (table_cons tok101 (table_cons tok102 (table_cons tok103 (table_cons tok104 (table_cons tok105 (table_cons tok106 (table_cons tok107 (table_cons tok108 (table_cons tok109 (table_cons tok110 (table_cons tok111 (table_cons tok112 (table_cons tok113 (table_cons tok114 (table_cons tok116 (table_cons tok117 (table_cons tok118 (table_cons tok119 (table_cons tok120 (table_cons tok121 (table_cons tok122 (table_cons tok123 (table_cons tok124 (table_cons tok125 (table_cons tok126 (table_cons tok127 (table_cons tok128 (table_cons tok129 (table_cons tok130 (table_cons tok131 (table_cons tok132 (table_cons tok133 (table_cons tok134 (table_cons tok135 (table_cons tok136 (table_cons tok137 (table_cons tok138 (table_cons tok139 (table_cons tok140 (table_cons tok141 (table_cons tok142 (table_cons tok143 (table_cons tok144 (table_cons tok145 (table_cons tok146 (table_cons tok147 (table_cons tok149 (table_cons tok150 (table_cons tok151 (table_cons tok152 (table_cons tok153 (table_cons tok154 (table_cons tok155 (table_cons tok156 (table_cons tok157 (table_cons tok158 (table_cons tok159 (table_cons tok161 (table_cons tok162 (table_cons tok163 (table_cons tok164 (table_cons tok165 (table_cons tok166 (table_cons tok167 (table_cons tok168 (table_cons tok169 (table_cons tok170 (table_cons tok171 (table_cons tok172 (table_cons tok173 (table_cons tok174 (table_cons tok175 (table_cons tok176 (table_cons tok177 (table_cons tok178 (table_cons tok179 (table_cons tok180 (table_cons tok181 (table_cons tok182 (table_cons tok183 (table_nil))))))))))))))))))))))))))))))))))))))))))))))))))))))))))))))))))))))))))))))))))))))))))))))))))))))))))))))))))))))))))))))))))))))))))))))))))))))))))))))))))))))))))))))))), by kernel_rfl⟩
end Go.Sx.Sp
namespace Go.Proofs
open Go.Shelf
def Tryz.laysValid_ren : Go.Shelf.Ren := ⟨fun | 196 => 109 | 259 => 137 | n => n, fun | 9 => 9 | 4 => 4 | 3 => 3 | 5 => 5 | 12 => 12 | 119 => 151 | 0 => 0 | 46 => 100 | 139 => 154 | 138 => 153 | 53 => 123 | n => n, fun | 3 => 1 | 4 => 2 | n => n⟩
theorem Tryz.laysValid : Go.Proofs.Lays.n196 Tryz.prog Tryz.laysValid_ren := {
  mixed := by kernel_rfl
  f196 := Tryz.func109.trans (congrArg some (by kernel_rfl))
  f259 := Tryz.func137.trans (congrArg some (by kernel_rfl))
  t0 := Tryz.underlying0
  a0 := Tryz.isAgg0
  z0 := Tryz.sizeOf0
  v0 := Tryz.zeroValue0
  t3 := Tryz.underlying3
  a3 := Tryz.isAgg3
  z3 := Tryz.sizeOf3
  v3 := Tryz.zeroValue3
  t4 := Tryz.underlying4
  a4 := Tryz.isAgg4
  z4 := Tryz.sizeOf4
  v4 := Tryz.zeroValue4
  t5 := Tryz.underlying5
  a5 := Tryz.isAgg5
  z5 := Tryz.sizeOf5
  v5 := Tryz.zeroValue5
  t9 := Tryz.underlying9
  a9 := Tryz.isAgg9
  z9 := Tryz.sizeOf9
  v9 := Tryz.zeroValue9
  t12 := Tryz.underlying12
  a12 := Tryz.isAgg12
  z12 := Tryz.sizeOf12
  v12 := Tryz.zeroValue12
  t46 := Tryz.underlying100
  a46 := Tryz.isAgg100
  z46 := Tryz.sizeOf100
  v46 := Tryz.zeroValue100
  t53 := Tryz.underlying123
  a53 := Tryz.isAgg123
  z53 := Tryz.sizeOf123
  v53 := Tryz.zeroValue123
  t119 := Tryz.underlying151
  a119 := Tryz.isAgg151
  z119 := Tryz.sizeOf151
  t138 := Tryz.underlying153
  a138 := Tryz.isAgg153
  z138 := Tryz.sizeOf153
  v138 := Tryz.zeroValue153
  t139 := Tryz.underlying154
  a139 := Tryz.isAgg154
  z139 := Tryz.sizeOf154
  v139 := Tryz.zeroValue154
  g3 := by kernel_rfl
  g4 := by kernel_rfl }
def Tryz.laysItoa_ren : Go.Shelf.Ren := ⟨fun | 171 => 59 | 243 => 84 | 246 => 107 | 283 => 133 | 284 => 134 | 285 => 135 | 286 => 136 | 129 => 101 | 317 => 145 | 318 => 146 | 319 => 147 | 320 => 148 | 337 => 151 | 338 => 152 | n => n, fun | 3 => 3 | 9 => 9 | 2 => 2 | 4 => 4 | 171 => 145 | 0 => 0 | 53 => 123 | 37 => 147 | 5 => 5 | 173 => 148 | 212 => 163 | 51 => 121 | 20 => 20 | 213 => 164 | 46 => 100 | 232 => 167 | 233 => 168 | n => n, fun | 17 => 3 | 18 => 4 | 19 => 5 | n => n⟩
theorem Tryz.laysItoa : Go.Proofs.LaysM.n171 Tryz.prog Tryz.laysItoa_ren := {
  mixed := by kernel_rfl
  f129 := Tryz.func101.trans (congrArg some (by kernel_rfl))
  f171 := Tryz.func59.trans (congrArg some (by kernel_rfl))
  f243 := Tryz.func84.trans (congrArg some (by kernel_rfl))
  f246 := Tryz.func107.trans (congrArg some (by kernel_rfl))
  f283 := Tryz.func133.trans (congrArg some (by kernel_rfl))
  f284 := Tryz.func134.trans (congrArg some (by kernel_rfl))
  f285 := Tryz.func135.trans (congrArg some (by kernel_rfl))
  f286 := Tryz.func136.trans (congrArg some (by kernel_rfl))
  f317 := Tryz.func145.trans (congrArg some (by kernel_rfl))
  f318 := Tryz.func146.trans (congrArg some (by kernel_rfl))
  f319 := Tryz.func147.trans (congrArg some (by kernel_rfl))
  f320 := Tryz.func148.trans (congrArg some (by kernel_rfl))
  f337 := Tryz.func151.trans (congrArg some (by kernel_rfl))
  f338 := Tryz.func152.trans (congrArg some (by kernel_rfl))
  t0 := Tryz.underlying0
  a0 := Tryz.isAgg0
  z0 := Tryz.sizeOf0
  v0 := Tryz.zeroValue0
  t2 := Tryz.underlying2
  a2 := Tryz.isAgg2
  z2 := Tryz.sizeOf2
  v2 := Tryz.zeroValue2
  t3 := Tryz.underlying3
  a3 := Tryz.isAgg3
  z3 := Tryz.sizeOf3
  v3 := Tryz.zeroValue3
  t4 := Tryz.underlying4
  a4 := Tryz.isAgg4
  z4 := Tryz.sizeOf4
  v4 := Tryz.zeroValue4
  t5 := Tryz.underlying5
  a5 := Tryz.isAgg5
  z5 := Tryz.sizeOf5
  v5 := Tryz.zeroValue5
  t9 := Tryz.underlying9
  a9 := Tryz.isAgg9
  z9 := Tryz.sizeOf9
  v9 := Tryz.zeroValue9
  t20 := Tryz.underlying20
  a20 := Tryz.isAgg20
  z20 := Tryz.sizeOf20
  v20 := Tryz.zeroValue20
  t37 := Tryz.underlying147
  a37 := Tryz.isAgg147
  z37 := Tryz.sizeOf147
  v37 := Tryz.zeroValue147
  t46 := Tryz.underlying100
  a46 := Tryz.isAgg100
  z46 := Tryz.sizeOf100
  v46 := Tryz.zeroValue100
  t51 := Tryz.underlying121
  a51 := Tryz.isAgg121
  z51 := Tryz.sizeOf121
  v51 := Tryz.zeroValue121
  t53 := Tryz.underlying123
  a53 := Tryz.isAgg123
  z53 := Tryz.sizeOf123
  v53 := Tryz.zeroValue123
  t171 := Tryz.underlying145
  a171 := Tryz.isAgg145
  z171 := Tryz.sizeOf145
  v171 := Tryz.zeroValue145
  t173 := Tryz.underlying148
  a173 := Tryz.isAgg148
  z173 := Tryz.sizeOf148
  v173 := Tryz.zeroValue148
  t212 := Tryz.underlying163
  a212 := Tryz.isAgg163
  z212 := Tryz.sizeOf163
  v212 := Tryz.zeroValue163
  t213 := Tryz.underlying164
  a213 := Tryz.isAgg164
  z213 := Tryz.sizeOf164
  t232 := Tryz.underlying167
  a232 := Tryz.isAgg167
  z232 := Tryz.sizeOf167
  v232 := Tryz.zeroValue167
  t233 := Tryz.underlying168
  a233 := Tryz.isAgg168
  z233 := Tryz.sizeOf168
  v233 := Tryz.zeroValue168
  g17 := by kernel_rfl
  g18 := by kernel_rfl
  g19 := by kernel_rfl
  i0 := by kernel_rfl
  i2 := by kernel_rfl
  i3 := by kernel_rfl
  i4 := by kernel_rfl
  i5 := by kernel_rfl
  i9 := by kernel_rfl
  i20 := by kernel_rfl
  i37 := by kernel_rfl
  i46 := by kernel_rfl
  i51 := by kernel_rfl
  i53 := by kernel_rfl
  i171 := by kernel_rfl
  i173 := by kernel_rfl
  i212 := by kernel_rfl
  i232 := by kernel_rfl
  i233 := by kernel_rfl
  m17 := by kernel_rfl
  m18 := by kernel_rfl
  m19 := by kernel_rfl }
end Go.Proofs
namespace Go.Sx.Sp
open Go Go.Sx Go.Proofs Go.RowKit Go.Sort
def tabsOK (w : World) : Prop := Lib.Utf8Tabs 1 2 w ∧ Lib.TabIs Tryz.prog w "internal/strconv.uint64pow10" .u64 Lib.pow10Tab
instance : Glob := ⟨tabsOK, [1, 2, 3], False, fun w w' hs h => by
  have h0 := hs 1 (by simp)
  have h1 := hs 2 (by simp)
  have h3 := hs 3 (by simp)
  refine ⟨⟨fun c hc => ?_, fun i hi => ?_⟩, ?_⟩
  · rw [cell?_of_heap h0]; exact h.1.1 c hc
  · rw [cell?_of_heap h1, cell?_of_heap h1]; exact h.1.2 i hi
  · have hg : Tryz.prog.globalNamed "internal/strconv.uint64pow10" = some 3 := by kernel_rfl
    have := h.2
    simp only [Lib.TabIs, World.var?, hg, Option.bind_some] at this ⊢
    rw [h3]; exact this⟩
set_option maxRecDepth 1000000 in
theorem utf8_spec (s : List UInt8) : Spec Tryz.prog 109 [.str s] [] (.bool (Lib.validD s)) [] := by
  refine Spec.ofCalls (fun cargs w => enters_of Tryz.func109 (by kernel_rfl) rfl cargs w) fun w F m cargs hl ha hg => ?_
  match cargs, hl with
  | [c], _ =>
    obtain ⟨rfl, hs⟩ := (ha 0 (.str s) c rfl rfl).str_inv
    have hsz : (⟨s.toArray⟩ : ByteArray).size ≤ 9223372036854775807 := by
      have : maxLen = 9223372036854775807 := by unfold maxLen; rfl
      simpa [ByteArray.size, this] using hs
    refine (Any.utf8_ValidString Tryz.laysValid ⟨s.toArray⟩ w hsz hg.1).mono fun e w' ⟨he, hb⟩ => ?_
    exact ⟨_, he, fun w' F m => .bool _, hb, fun h => h.elim⟩
theorem below_grown (w : World) (k : Nat) (os : Array Obj) : Below w.heap.size w (grow (w.drewN k) os) :=
  ⟨rfl, rfl, rfl, by show w.heap.size ≤ (w.heap ++ os).size; rw [Array.size_append]; omega, fun b hb => by show (w.heap ++ os)[b]? = w.heap[b]?; rw [Array.getElem?_append_left hb]⟩
set_option maxRecDepth 1000000 in
theorem itoa_spec (n : Int) (h0 : -9223372036854775808 ≤ n) (h1 : n ≤ 9223372036854775807) (hn : (Lib.itoa n).length ≤ 100) : Spec Tryz.prog 59 [.int .i64 n] [] (.str (Lib.itoa n)) [] := by
  refine Spec.ofCalls (fun cargs w => enters_of Tryz.func59 (by kernel_rfl) rfl cargs w) fun w F m cargs hl ha hg => ?_
  match cargs, hl with
  | [c], _ =>
    have := (ha 0 (.int .i64 n) c rfl rfl).int_inv
    subst this
    refine (Any.strconv_Itoa Tryz.laysItoa n h0 h1 w hg.2).mono fun e w' ⟨he, k, os, hb⟩ => ?_
    subst hb
    exact ⟨_, he, fun w' F m => .str _ (by have : maxLen = 9223372036854775807 := by unfold maxLen; rfl
                                           omega), below_grown w k os, fun h => h.elim⟩
end Go.Sx.Sp
namespace Go.Proofs
open Go.Shelf
def Tryz.sortCell_ren : Go.Shelf.Ren := ⟨fun | 6 => 67 | 15 => 74 | 14 => 89 | 28 => 100 | 29 => 101 | 20 => 110 | 21 => 111 | 22 => 112 | 23 => 113 | 24 => 114 | 25 => 115 | 26 => 116 | 27 => 117 | 46 => 138 | 47 => 127 | 48 => 128 | 49 => 139 | 50 => 140 | 57 => 149 | n => n, fun | 22 => 28 | 24 => 50 | 25 => 78 | 3 => 3 | 39 => 100 | 0 => 0 | 53 => 121 | 55 => 123 | 4 => 4 | 46 => 115 | 45 => 114 | 50 => 71 | 5 => 5 | 9 => 9 | 66 => 138 | 70 => 142 | 76 => 159 | 77 => 160 | n => n, fun | n => n⟩
theorem Tryz.sortCell : Go.Proofs.SlLaysF0.n6 Tryz.prog Tryz.sortCell_ren := {
  mixed := by kernel_rfl
  f6 := ⟨Tryz.f67.name, by decide, Tryz.func67.trans (congrArg some (by kernel_rfl))⟩
  f14 := ⟨Tryz.f89.name, by decide, Tryz.func89.trans (congrArg some (by kernel_rfl))⟩
  f15 := Tryz.func74.trans (congrArg some (by kernel_rfl))
  f20 := ⟨Tryz.f110.name, by decide, Tryz.func110.trans (congrArg some (by kernel_rfl))⟩
  f21 := ⟨Tryz.f111.name, by decide, Tryz.func111.trans (congrArg some (by kernel_rfl))⟩
  f22 := ⟨Tryz.f112.name, by decide, Tryz.func112.trans (congrArg some (by kernel_rfl))⟩
  f23 := ⟨Tryz.f113.name, by decide, Tryz.func113.trans (congrArg some (by kernel_rfl))⟩
  f24 := ⟨Tryz.f114.name, by decide, Tryz.func114.trans (congrArg some (by kernel_rfl))⟩
  f25 := ⟨Tryz.f115.name, by decide, Tryz.func115.trans (congrArg some (by kernel_rfl))⟩
  f26 := ⟨Tryz.f116.name, by decide, Tryz.func116.trans (congrArg some (by kernel_rfl))⟩
  f27 := ⟨Tryz.f117.name, by decide, Tryz.func117.trans (congrArg some (by kernel_rfl))⟩
  f28 := Tryz.func100.trans (congrArg some (by kernel_rfl))
  f29 := Tryz.func101.trans (congrArg some (by kernel_rfl))
  f46 := ⟨Tryz.f138.name, by decide, Tryz.func138.trans (congrArg some (by kernel_rfl))⟩
  f47 := Tryz.func127.trans (congrArg some (by kernel_rfl))
  f48 := Tryz.func128.trans (congrArg some (by kernel_rfl))
  f49 := ⟨Tryz.f139.name, by decide, Tryz.func139.trans (congrArg some (by kernel_rfl))⟩
  f50 := ⟨Tryz.f140.name, by decide, Tryz.func140.trans (congrArg some (by kernel_rfl))⟩
  f57 := ⟨Tryz.f149.name, by decide, Tryz.func149.trans (congrArg some (by kernel_rfl))⟩
  t0 := Tryz.underlying0
  a0 := Tryz.isAgg0
  z0 := Tryz.sizeOf0
  v0 := Tryz.zeroValue0
  t3 := Tryz.underlying3
  a3 := Tryz.isAgg3
  z3 := Tryz.sizeOf3
  v3 := Tryz.zeroValue3
  t4 := Tryz.underlying4
  a4 := Tryz.isAgg4
  z4 := Tryz.sizeOf4
  v4 := Tryz.zeroValue4
  t5 := Tryz.underlying5
  a5 := Tryz.isAgg5
  z5 := Tryz.sizeOf5
  v5 := Tryz.zeroValue5
  t9 := Tryz.underlying9
  a9 := Tryz.isAgg9
  z9 := Tryz.sizeOf9
  v9 := Tryz.zeroValue9
  t22 := Tryz.underlying28
  a22 := Tryz.isAgg28
  z22 := Tryz.sizeOf28
  v22 := Tryz.zeroValue28
  t25 := Tryz.underlying78
  a25 := Tryz.isAgg78
  z25 := Tryz.sizeOf78
  v25 := Tryz.zeroValue78
  t39 := Tryz.underlying100
  a39 := Tryz.isAgg100
  z39 := Tryz.sizeOf100
  v39 := Tryz.zeroValue100
  t45 := Tryz.underlying114
  a45 := Tryz.isAgg114
  z45 := Tryz.sizeOf114
  v45 := Tryz.zeroValue114
  t46 := Tryz.underlying115
  a46 := Tryz.isAgg115
  z46 := Tryz.sizeOf115
  v46 := Tryz.zeroValue115
  t50 := Tryz.underlying71
  a50 := Tryz.isAgg71
  z50 := Tryz.sizeOf71
  v50 := Tryz.zeroValue71
  t53 := Tryz.underlying121
  a53 := Tryz.isAgg121
  z53 := Tryz.sizeOf121
  v53 := Tryz.zeroValue121
  t55 := Tryz.underlying123
  a55 := Tryz.isAgg123
  z55 := Tryz.sizeOf123
  v55 := Tryz.zeroValue123
  t66 := Tryz.underlying138
  a66 := Tryz.isAgg138
  z66 := Tryz.sizeOf138
  v66 := Tryz.zeroValue138
  t70 := Tryz.underlying142
  a70 := Tryz.isAgg142
  z70 := Tryz.sizeOf142
  v70 := Tryz.zeroValue142
  t76 := Tryz.underlying159
  a76 := Tryz.isAgg159
  z76 := Tryz.sizeOf159
  v76 := Tryz.zeroValue159
  t77 := Tryz.underlying160
  a77 := Tryz.isAgg160
  z77 := Tryz.sizeOf160
  v77 := Tryz.zeroValue160 }
def Tryz.sortLine_ren : Go.Shelf.Ren := ⟨fun | 6 => 68 | 15 => 74 | 14 => 90 | 28 => 100 | 29 => 101 | 20 => 118 | 21 => 119 | 22 => 120 | 23 => 121 | 24 => 122 | 25 => 123 | 26 => 124 | 27 => 125 | 46 => 141 | 47 => 127 | 48 => 128 | 49 => 142 | 50 => 143 | 57 => 150 | n => n, fun | 22 => 36 | 24 => 28 | 25 => 82 | 3 => 3 | 39 => 100 | 0 => 0 | 53 => 121 | 55 => 123 | 4 => 4 | 46 => 115 | 45 => 114 | 50 => 71 | 5 => 5 | 9 => 9 | 66 => 138 | 70 => 142 | 76 => 159 | 77 => 160 | n => n, fun | n => n⟩
theorem Tryz.sortLine : Go.Proofs.SlLaysF.n6 Tryz.prog Tryz.sortLine_ren := {
  mixed := by kernel_rfl
  f6 := ⟨Tryz.f68.name, by decide, Tryz.func68.trans (congrArg some (by kernel_rfl))⟩
  f14 := ⟨Tryz.f90.name, by decide, Tryz.func90.trans (congrArg some (by kernel_rfl))⟩
  f15 := Tryz.func74.trans (congrArg some (by kernel_rfl))
  f20 := ⟨Tryz.f118.name, by decide, Tryz.func118.trans (congrArg some (by kernel_rfl))⟩
  f21 := ⟨Tryz.f119.name, by decide, Tryz.func119.trans (congrArg some (by kernel_rfl))⟩
  f22 := ⟨Tryz.f120.name, by decide, Tryz.func120.trans (congrArg some (by kernel_rfl))⟩
  f23 := ⟨Tryz.f121.name, by decide, Tryz.func121.trans (congrArg some (by kernel_rfl))⟩
  f24 := ⟨Tryz.f122.name, by decide, Tryz.func122.trans (congrArg some (by kernel_rfl))⟩
  f25 := ⟨Tryz.f123.name, by decide, Tryz.func123.trans (congrArg some (by kernel_rfl))⟩
  f26 := ⟨Tryz.f124.name, by decide, Tryz.func124.trans (congrArg some (by kernel_rfl))⟩
  f27 := ⟨Tryz.f125.name, by decide, Tryz.func125.trans (congrArg some (by kernel_rfl))⟩
  f28 := Tryz.func100.trans (congrArg some (by kernel_rfl))
  f29 := Tryz.func101.trans (congrArg some (by kernel_rfl))
  f46 := ⟨Tryz.f141.name, by decide, Tryz.func141.trans (congrArg some (by kernel_rfl))⟩
  f47 := Tryz.func127.trans (congrArg some (by kernel_rfl))
  f48 := Tryz.func128.trans (congrArg some (by kernel_rfl))
  f49 := ⟨Tryz.f142.name, by decide, Tryz.func142.trans (congrArg some (by kernel_rfl))⟩
  f50 := ⟨Tryz.f143.name, by decide, Tryz.func143.trans (congrArg some (by kernel_rfl))⟩
  f57 := ⟨Tryz.f150.name, by decide, Tryz.func150.trans (congrArg some (by kernel_rfl))⟩
  t0 := Tryz.underlying0
  a0 := Tryz.isAgg0
  z0 := Tryz.sizeOf0
  v0 := Tryz.zeroValue0
  t3 := Tryz.underlying3
  a3 := Tryz.isAgg3
  z3 := Tryz.sizeOf3
  v3 := Tryz.zeroValue3
  t4 := Tryz.underlying4
  a4 := Tryz.isAgg4
  z4 := Tryz.sizeOf4
  v4 := Tryz.zeroValue4
  t5 := Tryz.underlying5
  a5 := Tryz.isAgg5
  z5 := Tryz.sizeOf5
  v5 := Tryz.zeroValue5
  t9 := Tryz.underlying9
  a9 := Tryz.isAgg9
  z9 := Tryz.sizeOf9
  v9 := Tryz.zeroValue9
  t22 := Tryz.underlying36
  a22 := Tryz.isAgg36
  z22 := Tryz.sizeOf36
  v22 := Tryz.zeroValue36
  a24 := Tryz.isAgg28
  z24 := Tryz.sizeOf28
  t25 := Tryz.underlying82
  a25 := Tryz.isAgg82
  z25 := Tryz.sizeOf82
  v25 := Tryz.zeroValue82
  t39 := Tryz.underlying100
  a39 := Tryz.isAgg100
  z39 := Tryz.sizeOf100
  v39 := Tryz.zeroValue100
  t45 := Tryz.underlying114
  a45 := Tryz.isAgg114
  z45 := Tryz.sizeOf114
  v45 := Tryz.zeroValue114
  t46 := Tryz.underlying115
  a46 := Tryz.isAgg115
  z46 := Tryz.sizeOf115
  v46 := Tryz.zeroValue115
  t50 := Tryz.underlying71
  a50 := Tryz.isAgg71
  z50 := Tryz.sizeOf71
  v50 := Tryz.zeroValue71
  t53 := Tryz.underlying121
  a53 := Tryz.isAgg121
  z53 := Tryz.sizeOf121
  v53 := Tryz.zeroValue121
  t55 := Tryz.underlying123
  a55 := Tryz.isAgg123
  z55 := Tryz.sizeOf123
  v55 := Tryz.zeroValue123
  t66 := Tryz.underlying138
  a66 := Tryz.isAgg138
  z66 := Tryz.sizeOf138
  v66 := Tryz.zeroValue138
  t70 := Tryz.underlying142
  a70 := Tryz.isAgg142
  z70 := Tryz.sizeOf142
  v70 := Tryz.zeroValue142
  t76 := Tryz.underlying159
  a76 := Tryz.isAgg159
  z76 := Tryz.sizeOf159
  v76 := Tryz.zeroValue159
  t77 := Tryz.underlying160
  a77 := Tryz.isAgg160
  z77 := Tryz.sizeOf160
  v77 := Tryz.zeroValue160 }
def Tryz.sortInt_ren : Go.Shelf.Ren := ⟨fun | 6 => 43 | 15 => 74 | 14 => 73 | 28 => 100 | 29 => 101 | 20 => 92 | 21 => 93 | 22 => 94 | 23 => 95 | 24 => 96 | 25 => 97 | 26 => 98 | 27 => 99 | 46 => 126 | 47 => 127 | 48 => 128 | 49 => 129 | 50 => 130 | 57 => 144 | n => n, fun | 22 => 22 | 24 => 3 | 25 => 34 | 3 => 3 | 39 => 100 | 0 => 0 | 53 => 121 | 55 => 123 | 4 => 4 | 46 => 115 | 45 => 114 | 50 => 71 | 5 => 5 | 9 => 9 | 66 => 138 | 70 => 142 | 76 => 159 | 77 => 160 | n => n, fun | n => n⟩
theorem Tryz.sortInt : Go.Proofs.SlLaysF.n6 Tryz.prog Tryz.sortInt_ren := {
  mixed := by kernel_rfl
  f6 := ⟨Tryz.f43.name, by decide, Tryz.func43.trans (congrArg some (by kernel_rfl))⟩
  f14 := ⟨Tryz.f73.name, by decide, Tryz.func73.trans (congrArg some (by kernel_rfl))⟩
  f15 := Tryz.func74.trans (congrArg some (by kernel_rfl))
  f20 := ⟨Tryz.f92.name, by decide, Tryz.func92.trans (congrArg some (by kernel_rfl))⟩
  f21 := ⟨Tryz.f93.name, by decide, Tryz.func93.trans (congrArg some (by kernel_rfl))⟩
  f22 := ⟨Tryz.f94.name, by decide, Tryz.func94.trans (congrArg some (by kernel_rfl))⟩
  f23 := ⟨Tryz.f95.name, by decide, Tryz.func95.trans (congrArg some (by kernel_rfl))⟩
  f24 := ⟨Tryz.f96.name, by decide, Tryz.func96.trans (congrArg some (by kernel_rfl))⟩
  f25 := ⟨Tryz.f97.name, by decide, Tryz.func97.trans (congrArg some (by kernel_rfl))⟩
  f26 := ⟨Tryz.f98.name, by decide, Tryz.func98.trans (congrArg some (by kernel_rfl))⟩
  f27 := ⟨Tryz.f99.name, by decide, Tryz.func99.trans (congrArg some (by kernel_rfl))⟩
  f28 := Tryz.func100.trans (congrArg some (by kernel_rfl))
  f29 := Tryz.func101.trans (congrArg some (by kernel_rfl))
  f46 := ⟨Tryz.f126.name, by decide, Tryz.func126.trans (congrArg some (by kernel_rfl))⟩
  f47 := Tryz.func127.trans (congrArg some (by kernel_rfl))
  f48 := Tryz.func128.trans (congrArg some (by kernel_rfl))
  f49 := ⟨Tryz.f129.name, by decide, Tryz.func129.trans (congrArg some (by kernel_rfl))⟩
  f50 := ⟨Tryz.f130.name, by decide, Tryz.func130.trans (congrArg some (by kernel_rfl))⟩
  f57 := ⟨Tryz.f144.name, by decide, Tryz.func144.trans (congrArg some (by kernel_rfl))⟩
  t0 := Tryz.underlying0
  a0 := Tryz.isAgg0
  z0 := Tryz.sizeOf0
  v0 := Tryz.zeroValue0
  t3 := Tryz.underlying3
  a3 := Tryz.isAgg3
  z3 := Tryz.sizeOf3
  v3 := Tryz.zeroValue3
  t4 := Tryz.underlying4
  a4 := Tryz.isAgg4
  z4 := Tryz.sizeOf4
  v4 := Tryz.zeroValue4
  t5 := Tryz.underlying5
  a5 := Tryz.isAgg5
  z5 := Tryz.sizeOf5
  v5 := Tryz.zeroValue5
  t9 := Tryz.underlying9
  a9 := Tryz.isAgg9
  z9 := Tryz.sizeOf9
  v9 := Tryz.zeroValue9
  t22 := Tryz.underlying22
  a22 := Tryz.isAgg22
  z22 := Tryz.sizeOf22
  v22 := Tryz.zeroValue22
  a24 := Tryz.isAgg3
  z24 := Tryz.sizeOf3
  t25 := Tryz.underlying34
  a25 := Tryz.isAgg34
  z25 := Tryz.sizeOf34
  v25 := Tryz.zeroValue34
  t39 := Tryz.underlying100
  a39 := Tryz.isAgg100
  z39 := Tryz.sizeOf100
  v39 := Tryz.zeroValue100
  t45 := Tryz.underlying114
  a45 := Tryz.isAgg114
  z45 := Tryz.sizeOf114
  v45 := Tryz.zeroValue114
  t46 := Tryz.underlying115
  a46 := Tryz.isAgg115
  z46 := Tryz.sizeOf115
  v46 := Tryz.zeroValue115
  t50 := Tryz.underlying71
  a50 := Tryz.isAgg71
  z50 := Tryz.sizeOf71
  v50 := Tryz.zeroValue71
  t53 := Tryz.underlying121
  a53 := Tryz.isAgg121
  z53 := Tryz.sizeOf121
  v53 := Tryz.zeroValue121
  t55 := Tryz.underlying123
  a55 := Tryz.isAgg123
  z55 := Tryz.sizeOf123
  v55 := Tryz.zeroValue123
  t66 := Tryz.underlying138
  a66 := Tryz.isAgg138
  z66 := Tryz.sizeOf138
  v66 := Tryz.zeroValue138
  t70 := Tryz.underlying142
  a70 := Tryz.isAgg142
  z70 := Tryz.sizeOf142
  v70 := Tryz.zeroValue142
  t76 := Tryz.underlying159
  a76 := Tryz.isAgg159
  z76 := Tryz.sizeOf159
  v76 := Tryz.zeroValue159
  t77 := Tryz.underlying160
  a77 := Tryz.isAgg160
  z77 := Tryz.sizeOf160
  v77 := Tryz.zeroValue160 }
def Tryz.laysCompare_ren : Go.Shelf.Ren := ⟨fun | 106 => 75 | 213 => 102 | 265 => 131 | n => n, fun | 9 => 9 | 3 => 3 | n => n, fun | n => n⟩
theorem Tryz.laysCompare : Go.Proofs.Lays.n106 Tryz.prog Tryz.laysCompare_ren := {
  mixed := by kernel_rfl
  f106 := Tryz.func75.trans (congrArg some (by kernel_rfl))
  f213 := Tryz.func102.trans (congrArg some (by kernel_rfl))
  f265 := Tryz.func131.trans (congrArg some (by kernel_rfl))
  t3 := Tryz.underlying3
  a3 := Tryz.isAgg3
  z3 := Tryz.sizeOf3
  v3 := Tryz.zeroValue3
  t9 := Tryz.underlying9
  a9 := Tryz.isAgg9
  z9 := Tryz.sizeOf9
  v9 := Tryz.zeroValue9 }
end Go.Proofs
