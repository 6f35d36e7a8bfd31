/- Types of the program, and library functions. -/
import Derived.Test.YtpfmjfjfakfbhaaDoorSxThree
import Derived.Test.YtpfmjfjfakfbhaaDoorProg
import Derived.Test.YtpfmjfjfakfbhaaDoorSxFour
import Derived.Test.YtpfmjfjfakfbhaaDoorSxFive
import Derived.Shelf.Unicode.ValidAny
import Derived.Shelf.Strconv.Itoa3
import Derived.Lib.LaidTab
set_option linter.unusedVariables false
set_option linter.unusedSimpArgs false
namespace Go.Sx.Sp
open Go Go.Sx Go.Proofs
theorem tok1 : TOK Tryd.prog 1 ⟨.fn, 1, 8, [.nilf]⟩ := tok_of (by kernel_rfl)
theorem tok2 : TOK Tryd.prog 2 ⟨.int .i64, 1, 8, [.int .i64 0]⟩ := tok_of (by kernel_rfl)
theorem tok3 : TOK Tryd.prog 3 ⟨.int .i64, 1, 8, [.int .i64 0]⟩ := tok_of (by kernel_rfl)
theorem tok4 : TOK Tryd.prog 4 ⟨.bool, 1, 1, [.bool false]⟩ := tok_of (by kernel_rfl)
theorem tok5 : TOK Tryd.prog 5 ⟨.int .u8, 1, 1, [.int .u8 0]⟩ := tok_of (by kernel_rfl)
theorem tok6 : TOK Tryd.prog 6 ⟨.int .u8, 1, 1, [.int .u8 0]⟩ := tok_of (by kernel_rfl)
theorem tok7 : TOK Tryd.prog 7 ⟨.st [(0, 2), (1, 3), (2, 4), (3, 6)], 4, 24, [.int .i64 0, .int .i64 0, .bool false, .int .u8 0]⟩ := tok_of (by kernel_rfl)
theorem tok8 : TOK Tryd.prog 8 ⟨.st [(0, 2), (1, 3), (2, 4), (3, 6)], 4, 24, [.int .i64 0, .int .i64 0, .bool false, .int .u8 0]⟩ := tok_of (by kernel_rfl)
theorem tok9 : TOK Tryd.prog 9 ⟨.str, 1, 16, [.str []]⟩ := tok_of (by kernel_rfl)
theorem tok10 : TOK Tryd.prog 10 ⟨.str, 1, 16, [.str []]⟩ := tok_of (by kernel_rfl)
theorem tok11 : TOK Tryd.prog 11 ⟨.str, 1, 16, [.str []]⟩ := tok_of (by kernel_rfl)
theorem tok12 : TOK Tryd.prog 12 ⟨.int .u64, 1, 8, [.int .u64 0]⟩ := tok_of (by kernel_rfl)
theorem tok13 : TOK Tryd.prog 13 ⟨.st [(0, 9), (1, 12)], 2, 24, [.str [], .int .u64 0]⟩ := tok_of (by kernel_rfl)
theorem tok14 : TOK Tryd.prog 14 ⟨.st [(0, 9), (1, 12)], 2, 24, [.str [], .int .u64 0]⟩ := tok_of (by kernel_rfl)
theorem tok15 : TOK Tryd.prog 15 ⟨.ptr 146, 1, 8, [.nilp]⟩ := tok_of (by kernel_rfl)
theorem tok16 : TOK Tryd.prog 16 ⟨.ptr 149, 1, 8, [.nilp]⟩ := tok_of (by kernel_rfl)
theorem tok17 : TOK Tryd.prog 17 ⟨.ptr 157, 1, 8, [.nilp]⟩ := tok_of (by kernel_rfl)
theorem tok18 : TOK Tryd.prog 18 ⟨.st [(0, 17)], 1, 8, [.nilp]⟩ := tok_of (by kernel_rfl)
theorem tok19 : TOK Tryd.prog 19 ⟨.st [(0, 17)], 1, 8, [.nilp]⟩ := tok_of (by kernel_rfl)
theorem tok20 : TOK Tryd.prog 20 ⟨.iface, 1, 16, [.nili]⟩ := tok_of (by kernel_rfl)
theorem tok21 : TOK Tryd.prog 21 ⟨.int .i32, 1, 4, [.int .i32 0]⟩ := tok_of (by kernel_rfl)
theorem tok22 : TOK Tryd.prog 22 ⟨.sl 3, 1, 24, [.nils]⟩ := tok_of (by kernel_rfl)
theorem tok23 : TOK Tryd.prog 23 ⟨.sl 30, 1, 24, [.nils]⟩ := tok_of (by kernel_rfl)
theorem tok24 : TOK Tryd.prog 24 ⟨.st [(0, 3), (1, 9), (2, 23)], 3, 48, [.int .i64 0, .str [], .nils]⟩ := tok_of (by kernel_rfl)
theorem tok25 : TOK Tryd.prog 25 ⟨.st [(0, 3), (1, 9), (2, 23)], 3, 48, [.int .i64 0, .str [], .nils]⟩ := tok_of (by kernel_rfl)
theorem tok26 : TOK Tryd.prog 26 ⟨.fn, 1, 8, [.nilf]⟩ := tok_of (by kernel_rfl)
theorem tok27 : TOK Tryd.prog 27 ⟨.fn, 1, 8, [.nilf]⟩ := tok_of (by kernel_rfl)
theorem tok28 : TOK Tryd.prog 28 ⟨.sl 63, 1, 24, [.nils]⟩ := tok_of (by kernel_rfl)
theorem tok29 : TOK Tryd.prog 29 ⟨.st [(0, 9), (1, 28)], 2, 40, [.str [], .nils]⟩ := tok_of (by kernel_rfl)
theorem tok30 : TOK Tryd.prog 30 ⟨.st [(0, 9), (1, 28)], 2, 40, [.str [], .nils]⟩ := tok_of (by kernel_rfl)
theorem tok31 : TOK Tryd.prog 31 ⟨.ptr 55, 1, 8, [.nilp]⟩ := tok_of (by kernel_rfl)
theorem tok32 : TOK Tryd.prog 32 ⟨.fn, 1, 8, [.nilf]⟩ := tok_of (by kernel_rfl)
theorem tok33 : TOK Tryd.prog 33 ⟨.fn, 1, 8, [.nilf]⟩ := tok_of (by kernel_rfl)
theorem tok34 : TOK Tryd.prog 34 ⟨.arr 2 25, 6, 96, [.int .i64 0, .str [], .nils, .int .i64 0, .str [], .nils]⟩ := tok_of (by kernel_rfl)
theorem tok35 : TOK Tryd.prog 35 ⟨.sl 34, 1, 24, [.nils]⟩ := tok_of (by kernel_rfl)
theorem tok36 : TOK Tryd.prog 36 ⟨.arr 2 3, 2, 16, [.int .i64 0, .int .i64 0]⟩ := tok_of (by kernel_rfl)
theorem tok37 : TOK Tryd.prog 37 ⟨.fn, 1, 8, [.nilf]⟩ := tok_of (by kernel_rfl)
theorem tok38 : TOK Tryd.prog 38 ⟨.sl 36, 1, 24, [.nils]⟩ := tok_of (by kernel_rfl)
theorem tok39 : TOK Tryd.prog 39 ⟨.int .i64, 1, 8, [.int .i64 0]⟩ := tok_of (by kernel_rfl)
theorem tok41 : TOK Tryd.prog 41 ⟨.fn, 1, 8, [.nilf]⟩ := tok_of (by kernel_rfl)
theorem tok42 : TOK Tryd.prog 42 ⟨.fn, 1, 8, [.nilf]⟩ := tok_of (by kernel_rfl)
theorem tok43 : TOK Tryd.prog 43 ⟨.fn, 1, 8, [.nilf]⟩ := tok_of (by kernel_rfl)
theorem tok44 : TOK Tryd.prog 44 ⟨.sl 25, 1, 24, [.nils]⟩ := tok_of (by kernel_rfl)
theorem tok45 : TOK Tryd.prog 45 ⟨.fn, 1, 8, [.nilf]⟩ := tok_of (by kernel_rfl)
theorem tok46 : TOK Tryd.prog 46 ⟨.sl 22, 1, 24, [.nils]⟩ := tok_of (by kernel_rfl)
theorem tok48 : TOK Tryd.prog 48 ⟨.fn, 1, 8, [.nilf]⟩ := tok_of (by kernel_rfl)
theorem tok49 : TOK Tryd.prog 49 ⟨.sl 77, 1, 24, [.nils]⟩ := tok_of (by kernel_rfl)
theorem tok50 : TOK Tryd.prog 50 ⟨.st [(0, 3), (1, 49)], 2, 32, [.int .i64 0, .nils]⟩ := tok_of (by kernel_rfl)
theorem tok51 : TOK Tryd.prog 51 ⟨.st [(0, 3), (1, 49)], 2, 32, [.int .i64 0, .nils]⟩ := tok_of (by kernel_rfl)
theorem tok52 : TOK Tryd.prog 52 ⟨.fn, 1, 8, [.nilf]⟩ := tok_of (by kernel_rfl)
theorem tok53 : TOK Tryd.prog 53 ⟨.fn, 1, 8, [.nilf]⟩ := tok_of (by kernel_rfl)
theorem tok54 : TOK Tryd.prog 54 ⟨.st [(0, 22), (1, 3)], 2, 32, [.nils, .int .i64 0]⟩ := tok_of (by kernel_rfl)
theorem tok55 : TOK Tryd.prog 55 ⟨.st [(0, 22), (1, 3)], 2, 32, [.nils, .int .i64 0]⟩ := tok_of (by kernel_rfl)
theorem tok56 : TOK Tryd.prog 56 ⟨.fn, 1, 8, [.nilf]⟩ := tok_of (by kernel_rfl)
theorem tok57 : TOK Tryd.prog 57 ⟨.fn, 1, 8, [.nilf]⟩ := tok_of (by kernel_rfl)
theorem tok58 : TOK Tryd.prog 58 ⟨.fn, 1, 8, [.nilf]⟩ := tok_of (by kernel_rfl)
theorem tok59 : TOK Tryd.prog 59 ⟨.fn, 1, 8, [.nilf]⟩ := tok_of (by kernel_rfl)
theorem tok60 : TOK Tryd.prog 60 ⟨.map 9 22, 1, 8, [.nilm]⟩ := tok_of (by kernel_rfl)
theorem tok61 : TOK Tryd.prog 61 ⟨.fn, 1, 8, [.nilf]⟩ := tok_of (by kernel_rfl)
theorem tok62 : TOK Tryd.prog 62 ⟨.st [(0, 4), (1, 9)], 2, 24, [.bool false, .str []]⟩ := tok_of (by kernel_rfl)
theorem tok63 : TOK Tryd.prog 63 ⟨.st [(0, 4), (1, 9)], 2, 24, [.bool false, .str []]⟩ := tok_of (by kernel_rfl)
theorem tok64 : TOK Tryd.prog 64 ⟨.fn, 1, 8, [.nilf]⟩ := tok_of (by kernel_rfl)
theorem tok65 : TOK Tryd.prog 65 ⟨.fn, 1, 8, [.nilf]⟩ := tok_of (by kernel_rfl)
theorem tok66 : TOK Tryd.prog 66 ⟨.ptr 25, 1, 8, [.nilp]⟩ := tok_of (by kernel_rfl)
theorem tok67 : TOK Tryd.prog 67 ⟨.fn, 1, 8, [.nilf]⟩ := tok_of (by kernel_rfl)
theorem tok68 : TOK Tryd.prog 68 ⟨.fn, 1, 8, [.nilf]⟩ := tok_of (by kernel_rfl)
theorem tok69 : TOK Tryd.prog 69 ⟨.fn, 1, 8, [.nilf]⟩ := tok_of (by kernel_rfl)
theorem tok70 : TOK Tryd.prog 70 ⟨.ptr 92, 1, 8, [.nilp]⟩ := tok_of (by kernel_rfl)
theorem tok72 : TOK Tryd.prog 72 ⟨.fn, 1, 8, [.nilf]⟩ := tok_of (by kernel_rfl)
theorem tok73 : TOK Tryd.prog 73 ⟨.fn, 1, 8, [.nilf]⟩ := tok_of (by kernel_rfl)
theorem tok74 : TOK Tryd.prog 74 ⟨.st [(0, 3), (1, 3)], 2, 16, [.int .i64 0, .int .i64 0]⟩ := tok_of (by kernel_rfl)
theorem tok75 : TOK Tryd.prog 75 ⟨.st [(0, 3), (1, 3)], 2, 16, [.int .i64 0, .int .i64 0]⟩ := tok_of (by kernel_rfl)
theorem tok76 : TOK Tryd.prog 76 ⟨.st [(0, 75), (2, 75)], 4, 32, [.int .i64 0, .int .i64 0, .int .i64 0, .int .i64 0]⟩ := tok_of (by kernel_rfl)
theorem tok77 : TOK Tryd.prog 77 ⟨.st [(0, 75), (2, 75)], 4, 32, [.int .i64 0, .int .i64 0, .int .i64 0, .int .i64 0]⟩ := tok_of (by kernel_rfl)
theorem tok78 : TOK Tryd.prog 78 ⟨.sl 9, 1, 24, [.nils]⟩ := tok_of (by kernel_rfl)
theorem tok79 : TOK Tryd.prog 79 ⟨.fn, 1, 8, [.nilf]⟩ := tok_of (by kernel_rfl)
theorem tok80 : TOK Tryd.prog 80 ⟨.fn, 1, 8, [.nilf]⟩ := tok_of (by kernel_rfl)
theorem tok81 : TOK Tryd.prog 81 ⟨.fn, 1, 8, [.nilf]⟩ := tok_of (by kernel_rfl)
theorem tok82 : TOK Tryd.prog 82 ⟨.fn, 1, 8, [.nilf]⟩ := tok_of (by kernel_rfl)
theorem tok83 : TOK Tryd.prog 83 ⟨.fn, 1, 8, [.nilf]⟩ := tok_of (by kernel_rfl)
theorem tok84 : TOK Tryd.prog 84 ⟨.fn, 1, 8, [.nilf]⟩ := tok_of (by kernel_rfl)
theorem tok85 : TOK Tryd.prog 85 ⟨.fn, 1, 8, [.nilf]⟩ := tok_of (by kernel_rfl)
theorem tok86 : TOK Tryd.prog 86 ⟨.fn, 1, 8, [.nilf]⟩ := tok_of (by kernel_rfl)
theorem tok87 : TOK Tryd.prog 87 ⟨.fn, 1, 8, [.nilf]⟩ := tok_of (by kernel_rfl)
theorem tok88 : TOK Tryd.prog 88 ⟨.fn, 1, 8, [.nilf]⟩ := tok_of (by kernel_rfl)
theorem tok89 : TOK Tryd.prog 89 ⟨.sl 60, 1, 24, [.nils]⟩ := tok_of (by kernel_rfl)
theorem tok90 : TOK Tryd.prog 90 ⟨.sl 95, 1, 24, [.nils]⟩ := tok_of (by kernel_rfl)
theorem tok91 : TOK Tryd.prog 91 ⟨.st [(0, 90)], 1, 24, [.nils]⟩ := tok_of (by kernel_rfl)
theorem tok92 : TOK Tryd.prog 92 ⟨.st [(0, 90)], 1, 24, [.nils]⟩ := tok_of (by kernel_rfl)
theorem tok93 : TOK Tryd.prog 93 ⟨.map 9 3, 1, 8, [.nilm]⟩ := tok_of (by kernel_rfl)
theorem tok94 : TOK Tryd.prog 94 ⟨.st [(0, 25), (3, 3), (4, 3), (5, 3), (6, 22), (7, 22), (8, 93)], 9, 128, [.int .i64 0, .str [], .nils, .int .i64 0, .int .i64 0, .int .i64 0, .nils, .nils, .nilm]⟩ := tok_of (by kernel_rfl)
theorem tok95 : TOK Tryd.prog 95 ⟨.st [(0, 25), (3, 3), (4, 3), (5, 3), (6, 22), (7, 22), (8, 93)], 9, 128, [.int .i64 0, .str [], .nils, .int .i64 0, .int .i64 0, .int .i64 0, .nils, .nils, .nilm]⟩ := tok_of (by kernel_rfl)
theorem tok96 : TOK Tryd.prog 96 ⟨.fn, 1, 8, [.nilf]⟩ := tok_of (by kernel_rfl)
theorem tok97 : TOK Tryd.prog 97 ⟨.fn, 1, 8, [.nilf]⟩ := tok_of (by kernel_rfl)
theorem tok98 : TOK Tryd.prog 98 ⟨.fn, 1, 8, [.nilf]⟩ := tok_of (by kernel_rfl)
theorem tok99 : TOK Tryd.prog 99 ⟨.fn, 1, 8, [.nilf]⟩ := tok_of (by kernel_rfl)
theorem tok100 : TOK Tryd.prog 100 ⟨.fn, 1, 8, [.nilf]⟩ := tok_of (by kernel_rfl)
theorem tok101 : TOK Tryd.prog 101 ⟨.fn, 1, 8, [.nilf]⟩ := tok_of (by kernel_rfl)
theorem tok102 : TOK Tryd.prog 102 ⟨.map 3 3, 1, 8, [.nilm]⟩ := tok_of (by kernel_rfl)
theorem tok104 : TOK Tryd.prog 104 ⟨.fn, 1, 8, [.nilf]⟩ := tok_of (by kernel_rfl)
theorem tok105 : TOK Tryd.prog 105 ⟨.fn, 1, 8, [.nilf]⟩ := tok_of (by kernel_rfl)
theorem tok106 : TOK Tryd.prog 106 ⟨.fn, 1, 8, [.nilf]⟩ := tok_of (by kernel_rfl)
theorem tok107 : TOK Tryd.prog 107 ⟨.fn, 1, 8, [.nilf]⟩ := tok_of (by kernel_rfl)
theorem tok108 : TOK Tryd.prog 108 ⟨.fn, 1, 8, [.nilf]⟩ := tok_of (by kernel_rfl)
theorem tok110 : TOK Tryd.prog 110 ⟨.fn, 1, 8, [.nilf]⟩ := tok_of (by kernel_rfl)
theorem tok111 : TOK Tryd.prog 111 ⟨.fn, 1, 8, [.nilf]⟩ := tok_of (by kernel_rfl)
theorem tok112 : TOK Tryd.prog 112 ⟨.fn, 1, 8, [.nilf]⟩ := tok_of (by kernel_rfl)
theorem tok113 : TOK Tryd.prog 113 ⟨.fn, 1, 8, [.nilf]⟩ := tok_of (by kernel_rfl)
theorem tok114 : TOK Tryd.prog 114 ⟨.fn, 1, 8, [.nilf]⟩ := tok_of (by kernel_rfl)
theorem tok115 : TOK Tryd.prog 115 ⟨.fn, 1, 8, [.nilf]⟩ := tok_of (by kernel_rfl)
theorem tok116 : TOK Tryd.prog 116 ⟨.fn, 1, 8, [.nilf]⟩ := tok_of (by kernel_rfl)
theorem tok117 : TOK Tryd.prog 117 ⟨.ptr 95, 1, 8, [.nilp]⟩ := tok_of (by kernel_rfl)
theorem tok118 : TOK Tryd.prog 118 ⟨.arr 24 5, 24, 24, [.int .u8 0, .int .u8 0, .int .u8 0, .int .u8 0, .int .u8 0, .int .u8 0, .int .u8 0, .int .u8 0, .int .u8 0, .int .u8 0, .int .u8 0, .int .u8 0, .int .u8 0, .int .u8 0, .int .u8 0, .int .u8 0, .int .u8 0, .int .u8 0, .int .u8 0, .int .u8 0, .int .u8 0, .int .u8 0, .int .u8 0, .int .u8 0]⟩ := tok_of (by kernel_rfl)
theorem tok119 : TOK Tryd.prog 119 ⟨.int .u64, 1, 8, [.int .u64 0]⟩ := tok_of (by kernel_rfl)
theorem tok120 : TOK Tryd.prog 120 ⟨.fn, 1, 8, [.nilf]⟩ := tok_of (by kernel_rfl)
theorem tok121 : TOK Tryd.prog 121 ⟨.fn, 1, 8, [.nilf]⟩ := tok_of (by kernel_rfl)
theorem tok122 : TOK Tryd.prog 122 ⟨.sl 5, 1, 24, [.nils]⟩ := tok_of (by kernel_rfl)
theorem tok124 : TOK Tryd.prog 124 ⟨.fn, 1, 8, [.nilf]⟩ := tok_of (by kernel_rfl)
theorem tok125 : TOK Tryd.prog 125 ⟨.fn, 1, 8, [.nilf]⟩ := tok_of (by kernel_rfl)
theorem tok126 : TOK Tryd.prog 126 ⟨.arr 256 5, 256, 256, [.int .u8 0, .int .u8 0, .int .u8 0, .int .u8 0, .int .u8 0, .int .u8 0, .int .u8 0, .int .u8 0, .int .u8 0, .int .u8 0, .int .u8 0, .int .u8 0, .int .u8 0, .int .u8 0, .int .u8 0, .int .u8 0, .int .u8 0, .int .u8 0, .int .u8 0, .int .u8 0, .int .u8 0, .int .u8 0, .int .u8 0, .int .u8 0, .int .u8 0, .int .u8 0, .int .u8 0, .int .u8 0, .int .u8 0, .int .u8 0, .int .u8 0, .int .u8 0, .int .u8 0, .int .u8 0, .int .u8 0, .int .u8 0, .int .u8 0, .int .u8 0, .int .u8 0, .int .u8 0, .int .u8 0, .int .u8 0, .int .u8 0, .int .u8 0, .int .u8 0, .int .u8 0, .int .u8 0, .int .u8 0, .int .u8 0, .int .u8 0, .int .u8 0, .int .u8 0, .int .u8 0, .int .u8 0, .int .u8 0, .int .u8 0, .int .u8 0, .int .u8 0, .int .u8 0, .int .u8 0, .int .u8 0, .int .u8 0, .int .u8 0, .int .u8 0, .int .u8 0, .int .u8 0, .int .u8 0, .int .u8 0, .int .u8 0, .int .u8 0, .int .u8 0, .int .u8 0, .int .u8 0, .int .u8 0, .int .u8 0, .int .u8 0, .int .u8 0, .int .u8 0, .int .u8 0, .int .u8 0, .int .u8 0, .int .u8 0, .int .u8 0, .int .u8 0, .int .u8 0, .int .u8 0, .int .u8 0, .int .u8 0, .int .u8 0, .int .u8 0, .int .u8 0, .int .u8 0, .int .u8 0, .int .u8 0, .int .u8 0, .int .u8 0, .int .u8 0, .int .u8 0, .int .u8 0, .int .u8 0, .int .u8 0, .int .u8 0, .int .u8 0, .int .u8 0, .int .u8 0, .int .u8 0, .int .u8 0, .int .u8 0, .int .u8 0, .int .u8 0, .int .u8 0, .int .u8 0, .int .u8 0, .int .u8 0, .int .u8 0, .int .u8 0, .int .u8 0, .int .u8 0, .int .u8 0, .int .u8 0, .int .u8 0, .int .u8 0, .int .u8 0, .int .u8 0, .int .u8 0, .int .u8 0, .int .u8 0, .int .u8 0, .int .u8 0, .int .u8 0, .int .u8 0, .int .u8 0, .int .u8 0, .int .u8 0, .int .u8 0, .int .u8 0, .int .u8 0, .int .u8 0, .int .u8 0, .int .u8 0, .int .u8 0, .int .u8 0, .int .u8 0, .int .u8 0, .int .u8 0, .int .u8 0, .int .u8 0, .int .u8 0, .int .u8 0, .int .u8 0, .int .u8 0, .int .u8 0, .int .u8 0, .int .u8 0, .int .u8 0, .int .u8 0, .int .u8 0, .int .u8 0, .int .u8 0, .int .u8 0, .int .u8 0, .int .u8 0, .int .u8 0, .int .u8 0, .int .u8 0, .int .u8 0, .int .u8 0, .int .u8 0, .int .u8 0, .int .u8 0, .int .u8 0, .int .u8 0, .int .u8 0, .int .u8 0, .int .u8 0, .int .u8 0, .int .u8 0, .int .u8 0, .int .u8 0, .int .u8 0, .int .u8 0, .int .u8 0, .int .u8 0, .int .u8 0, .int .u8 0, .int .u8 0, .int .u8 0, .int .u8 0, .int .u8 0, .int .u8 0, .int .u8 0, .int .u8 0, .int .u8 0, .int .u8 0, .int .u8 0, .int .u8 0, .int .u8 0, .int .u8 0, .int .u8 0, .int .u8 0, .int .u8 0, .int .u8 0, .int .u8 0, .int .u8 0, .int .u8 0, .int .u8 0, .int .u8 0, .int .u8 0, .int .u8 0, .int .u8 0, .int .u8 0, .int .u8 0, .int .u8 0, .int .u8 0, .int .u8 0, .int .u8 0, .int .u8 0, .int .u8 0, .int .u8 0, .int .u8 0, .int .u8 0, .int .u8 0, .int .u8 0, .int .u8 0, .int .u8 0, .int .u8 0, .int .u8 0, .int .u8 0, .int .u8 0, .int .u8 0, .int .u8 0, .int .u8 0, .int .u8 0, .int .u8 0, .int .u8 0, .int .u8 0, .int .u8 0, .int .u8 0, .int .u8 0, .int .u8 0, .int .u8 0, .int .u8 0, .int .u8 0, .int .u8 0, .int .u8 0, .int .u8 0, .int .u8 0, .int .u8 0, .int .u8 0, .int .u8 0, .int .u8 0, .int .u8 0, .int .u8 0, .int .u8 0, .int .u8 0, .int .u8 0]⟩ := tok_of (by kernel_rfl)
theorem tok127 : TOK Tryd.prog 127 ⟨.st [(0, 5), (1, 5)], 2, 2, [.int .u8 0, .int .u8 0]⟩ := tok_of (by kernel_rfl)
theorem tok128 : TOK Tryd.prog 128 ⟨.st [(0, 5), (1, 5)], 2, 2, [.int .u8 0, .int .u8 0]⟩ := tok_of (by kernel_rfl)
theorem tok129 : TOK Tryd.prog 129 ⟨.arr 16 128, 32, 32, [.int .u8 0, .int .u8 0, .int .u8 0, .int .u8 0, .int .u8 0, .int .u8 0, .int .u8 0, .int .u8 0, .int .u8 0, .int .u8 0, .int .u8 0, .int .u8 0, .int .u8 0, .int .u8 0, .int .u8 0, .int .u8 0, .int .u8 0, .int .u8 0, .int .u8 0, .int .u8 0, .int .u8 0, .int .u8 0, .int .u8 0, .int .u8 0, .int .u8 0, .int .u8 0, .int .u8 0, .int .u8 0, .int .u8 0, .int .u8 0, .int .u8 0, .int .u8 0]⟩ := tok_of (by kernel_rfl)
theorem tok130 : TOK Tryd.prog 130 ⟨.int .u64, 1, 8, [.int .u64 0]⟩ := tok_of (by kernel_rfl)
theorem tok131 : TOK Tryd.prog 131 ⟨.fn, 1, 8, [.nilf]⟩ := tok_of (by kernel_rfl)
theorem tok132 : TOK Tryd.prog 132 ⟨.fn, 1, 8, [.nilf]⟩ := tok_of (by kernel_rfl)
theorem tok133 : TOK Tryd.prog 133 ⟨.fn, 1, 8, [.nilf]⟩ := tok_of (by kernel_rfl)
theorem tok134 : TOK Tryd.prog 134 ⟨.fn, 1, 8, [.nilf]⟩ := tok_of (by kernel_rfl)
theorem tok135 : TOK Tryd.prog 135 ⟨.fn, 1, 8, [.nilf]⟩ := tok_of (by kernel_rfl)
theorem tok136 : TOK Tryd.prog 136 ⟨.arr 20 119, 20, 160, [.int .u64 0, .int .u64 0, .int .u64 0, .int .u64 0, .int .u64 0, .int .u64 0, .int .u64 0, .int .u64 0, .int .u64 0, .int .u64 0, .int .u64 0, .int .u64 0, .int .u64 0, .int .u64 0, .int .u64 0, .int .u64 0, .int .u64 0, .int .u64 0, .int .u64 0, .int .u64 0]⟩ := tok_of (by kernel_rfl)
theorem tok137 : TOK Tryd.prog 137 ⟨.int .u32, 1, 4, [.int .u32 0]⟩ := tok_of (by kernel_rfl)
theorem tok138 : TOK Tryd.prog 138 ⟨.arr 65 5, 65, 65, [.int .u8 0, .int .u8 0, .int .u8 0, .int .u8 0, .int .u8 0, .int .u8 0, .int .u8 0, .int .u8 0, .int .u8 0, .int .u8 0, .int .u8 0, .int .u8 0, .int .u8 0, .int .u8 0, .int .u8 0, .int .u8 0, .int .u8 0, .int .u8 0, .int .u8 0, .int .u8 0, .int .u8 0, .int .u8 0, .int .u8 0, .int .u8 0, .int .u8 0, .int .u8 0, .int .u8 0, .int .u8 0, .int .u8 0, .int .u8 0, .int .u8 0, .int .u8 0, .int .u8 0, .int .u8 0, .int .u8 0, .int .u8 0, .int .u8 0, .int .u8 0, .int .u8 0, .int .u8 0, .int .u8 0, .int .u8 0, .int .u8 0, .int .u8 0, .int .u8 0, .int .u8 0, .int .u8 0, .int .u8 0, .int .u8 0, .int .u8 0, .int .u8 0, .int .u8 0, .int .u8 0, .int .u8 0, .int .u8 0, .int .u8 0, .int .u8 0, .int .u8 0, .int .u8 0, .int .u8 0, .int .u8 0, .int .u8 0, .int .u8 0, .int .u8 0, .int .u8 0]⟩ := tok_of (by kernel_rfl)
theorem tok139 : TOK Tryd.prog 139 ⟨.fn, 1, 8, [.nilf]⟩ := tok_of (by kernel_rfl)
theorem tok140 : TOK Tryd.prog 140 ⟨.fn, 1, 8, [.nilf]⟩ := tok_of (by kernel_rfl)
theorem tok141 : TOK Tryd.prog 141 ⟨.fn, 1, 8, [.nilf]⟩ := tok_of (by kernel_rfl)
theorem tok142 : TOK Tryd.prog 142 ⟨.arr 32 5, 32, 32, [.int .u8 0, .int .u8 0, .int .u8 0, .int .u8 0, .int .u8 0, .int .u8 0, .int .u8 0, .int .u8 0, .int .u8 0, .int .u8 0, .int .u8 0, .int .u8 0, .int .u8 0, .int .u8 0, .int .u8 0, .int .u8 0, .int .u8 0, .int .u8 0, .int .u8 0, .int .u8 0, .int .u8 0, .int .u8 0, .int .u8 0, .int .u8 0, .int .u8 0, .int .u8 0, .int .u8 0, .int .u8 0, .int .u8 0, .int .u8 0, .int .u8 0, .int .u8 0]⟩ := tok_of (by kernel_rfl)
theorem tok143 : TOK Tryd.prog 143 ⟨.arr 64 5, 64, 64, [.int .u8 0, .int .u8 0, .int .u8 0, .int .u8 0, .int .u8 0, .int .u8 0, .int .u8 0, .int .u8 0, .int .u8 0, .int .u8 0, .int .u8 0, .int .u8 0, .int .u8 0, .int .u8 0, .int .u8 0, .int .u8 0, .int .u8 0, .int .u8 0, .int .u8 0, .int .u8 0, .int .u8 0, .int .u8 0, .int .u8 0, .int .u8 0, .int .u8 0, .int .u8 0, .int .u8 0, .int .u8 0, .int .u8 0, .int .u8 0, .int .u8 0, .int .u8 0, .int .u8 0, .int .u8 0, .int .u8 0, .int .u8 0, .int .u8 0, .int .u8 0, .int .u8 0, .int .u8 0, .int .u8 0, .int .u8 0, .int .u8 0, .int .u8 0, .int .u8 0, .int .u8 0, .int .u8 0, .int .u8 0, .int .u8 0, .int .u8 0, .int .u8 0, .int .u8 0, .int .u8 0, .int .u8 0, .int .u8 0, .int .u8 0, .int .u8 0, .int .u8 0, .int .u8 0, .int .u8 0, .int .u8 0, .int .u8 0, .int .u8 0, .int .u8 0]⟩ := tok_of (by kernel_rfl)
theorem tok144 : TOK Tryd.prog 144 ⟨.fn, 1, 8, [.nilf]⟩ := tok_of (by kernel_rfl)
theorem tok145 : TOK Tryd.prog 145 ⟨.st [(0, 17), (1, 17), (2, 17), (3, 9)], 4, 40, [.nilp, .nilp, .nilp, .str []]⟩ := tok_of (by kernel_rfl)
theorem tok146 : TOK Tryd.prog 146 ⟨.st [(0, 17), (1, 17), (2, 17), (3, 9)], 4, 40, [.nilp, .nilp, .nilp, .str []]⟩ := tok_of (by kernel_rfl)
theorem tok147 : TOK Tryd.prog 147 ⟨.arr 0 16, 0, 0, []⟩ := tok_of (by kernel_rfl)
theorem tok148 : TOK Tryd.prog 148 ⟨.st [(0, 147)], 0, 0, []⟩ := tok_of (by kernel_rfl)
theorem tok149 : TOK Tryd.prog 149 ⟨.st [(0, 147)], 0, 0, []⟩ := tok_of (by kernel_rfl)
theorem tok150 : TOK Tryd.prog 150 ⟨.int .u8, 1, 1, [.int .u8 0]⟩ := tok_of (by kernel_rfl)
theorem tok151 : TOK Tryd.prog 151 ⟨.int .u8, 1, 1, [.int .u8 0]⟩ := tok_of (by kernel_rfl)
theorem tok152 : TOK Tryd.prog 152 ⟨.fn, 1, 8, [.nilf]⟩ := tok_of (by kernel_rfl)
theorem tok153 : TOK Tryd.prog 153 ⟨.ptr 5, 1, 8, [.nilp]⟩ := tok_of (by kernel_rfl)
theorem tok154 : TOK Tryd.prog 154 ⟨.int .i32, 1, 4, [.int .i32 0]⟩ := tok_of (by kernel_rfl)
theorem tok155 : TOK Tryd.prog 155 ⟨.int .i32, 1, 4, [.int .i32 0]⟩ := tok_of (by kernel_rfl)
theorem tok156 : TOK Tryd.prog 156 ⟨.st [(0, 12), (1, 12), (2, 137), (3, 150), (4, 5), (5, 5), (6, 151), (7, 152), (8, 153), (9, 154), (10, 155)], 11, 48, [.int .u64 0, .int .u64 0, .int .u32 0, .int .u8 0, .int .u8 0, .int .u8 0, .int .u8 0, .nilf, .nilp, .int .i32 0, .int .i32 0]⟩ := tok_of (by kernel_rfl)
theorem tok157 : TOK Tryd.prog 157 ⟨.st [(0, 12), (1, 12), (2, 137), (3, 150), (4, 5), (5, 5), (6, 151), (7, 152), (8, 153), (9, 154), (10, 155)], 11, 48, [.int .u64 0, .int .u64 0, .int .u32 0, .int .u8 0, .int .u8 0, .int .u8 0, .int .u8 0, .nilf, .nilp, .int .i32 0, .int .i32 0]⟩ := tok_of (by kernel_rfl)
def T : List (Nat × TI) := [(1, ⟨.fn, 1, 8, [.nilf]⟩),
  (2, ⟨.int .i64, 1, 8, [.int .i64 0]⟩),
  (3, ⟨.int .i64, 1, 8, [.int .i64 0]⟩),
  (4, ⟨.bool, 1, 1, [.bool false]⟩),
  (5, ⟨.int .u8, 1, 1, [.int .u8 0]⟩),
  (6, ⟨.int .u8, 1, 1, [.int .u8 0]⟩),
  (7, ⟨.st [(0, 2), (1, 3), (2, 4), (3, 6)], 4, 24, [.int .i64 0, .int .i64 0, .bool false, .int .u8 0]⟩),
  (8, ⟨.st [(0, 2), (1, 3), (2, 4), (3, 6)], 4, 24, [.int .i64 0, .int .i64 0, .bool false, .int .u8 0]⟩),
  (9, ⟨.str, 1, 16, [.str []]⟩),
  (10, ⟨.str, 1, 16, [.str []]⟩),
  (11, ⟨.str, 1, 16, [.str []]⟩),
  (12, ⟨.int .u64, 1, 8, [.int .u64 0]⟩),
  (13, ⟨.st [(0, 9), (1, 12)], 2, 24, [.str [], .int .u64 0]⟩),
  (14, ⟨.st [(0, 9), (1, 12)], 2, 24, [.str [], .int .u64 0]⟩),
  (15, ⟨.ptr 146, 1, 8, [.nilp]⟩),
  (16, ⟨.ptr 149, 1, 8, [.nilp]⟩),
  (17, ⟨.ptr 157, 1, 8, [.nilp]⟩),
  (18, ⟨.st [(0, 17)], 1, 8, [.nilp]⟩),
  (19, ⟨.st [(0, 17)], 1, 8, [.nilp]⟩),
  (20, ⟨.iface, 1, 16, [.nili]⟩),
  (21, ⟨.int .i32, 1, 4, [.int .i32 0]⟩),
  (22, ⟨.sl 3, 1, 24, [.nils]⟩),
  (23, ⟨.sl 30, 1, 24, [.nils]⟩),
  (24, ⟨.st [(0, 3), (1, 9), (2, 23)], 3, 48, [.int .i64 0, .str [], .nils]⟩),
  (25, ⟨.st [(0, 3), (1, 9), (2, 23)], 3, 48, [.int .i64 0, .str [], .nils]⟩),
  (26, ⟨.fn, 1, 8, [.nilf]⟩),
  (27, ⟨.fn, 1, 8, [.nilf]⟩),
  (28, ⟨.sl 63, 1, 24, [.nils]⟩),
  (29, ⟨.st [(0, 9), (1, 28)], 2, 40, [.str [], .nils]⟩),
  (30, ⟨.st [(0, 9), (1, 28)], 2, 40, [.str [], .nils]⟩),
  (31, ⟨.ptr 55, 1, 8, [.nilp]⟩),
  (32, ⟨.fn, 1, 8, [.nilf]⟩),
  (33, ⟨.fn, 1, 8, [.nilf]⟩),
  (34, ⟨.arr 2 25, 6, 96, [.int .i64 0, .str [], .nils, .int .i64 0, .str [], .nils]⟩),
  (35, ⟨.sl 34, 1, 24, [.nils]⟩),
  (36, ⟨.arr 2 3, 2, 16, [.int .i64 0, .int .i64 0]⟩),
  (37, ⟨.fn, 1, 8, [.nilf]⟩),
  (38, ⟨.sl 36, 1, 24, [.nils]⟩),
  (39, ⟨.int .i64, 1, 8, [.int .i64 0]⟩),
  (41, ⟨.fn, 1, 8, [.nilf]⟩),
  (42, ⟨.fn, 1, 8, [.nilf]⟩),
  (43, ⟨.fn, 1, 8, [.nilf]⟩),
  (44, ⟨.sl 25, 1, 24, [.nils]⟩),
  (45, ⟨.fn, 1, 8, [.nilf]⟩),
  (46, ⟨.sl 22, 1, 24, [.nils]⟩),
  (48, ⟨.fn, 1, 8, [.nilf]⟩),
  (49, ⟨.sl 77, 1, 24, [.nils]⟩),
  (50, ⟨.st [(0, 3), (1, 49)], 2, 32, [.int .i64 0, .nils]⟩),
  (51, ⟨.st [(0, 3), (1, 49)], 2, 32, [.int .i64 0, .nils]⟩),
  (52, ⟨.fn, 1, 8, [.nilf]⟩),
  (53, ⟨.fn, 1, 8, [.nilf]⟩),
  (54, ⟨.st [(0, 22), (1, 3)], 2, 32, [.nils, .int .i64 0]⟩),
  (55, ⟨.st [(0, 22), (1, 3)], 2, 32, [.nils, .int .i64 0]⟩),
  (56, ⟨.fn, 1, 8, [.nilf]⟩),
  (57, ⟨.fn, 1, 8, [.nilf]⟩),
  (58, ⟨.fn, 1, 8, [.nilf]⟩),
  (59, ⟨.fn, 1, 8, [.nilf]⟩),
  (60, ⟨.map 9 22, 1, 8, [.nilm]⟩),
  (61, ⟨.fn, 1, 8, [.nilf]⟩),
  (62, ⟨.st [(0, 4), (1, 9)], 2, 24, [.bool false, .str []]⟩),
  (63, ⟨.st [(0, 4), (1, 9)], 2, 24, [.bool false, .str []]⟩),
  (64, ⟨.fn, 1, 8, [.nilf]⟩),
  (65, ⟨.fn, 1, 8, [.nilf]⟩),
  (66, ⟨.ptr 25, 1, 8, [.nilp]⟩),
  (67, ⟨.fn, 1, 8, [.nilf]⟩),
  (68, ⟨.fn, 1, 8, [.nilf]⟩),
  (69, ⟨.fn, 1, 8, [.nilf]⟩),
  (70, ⟨.ptr 92, 1, 8, [.nilp]⟩),
  (72, ⟨.fn, 1, 8, [.nilf]⟩),
  (73, ⟨.fn, 1, 8, [.nilf]⟩),
  (74, ⟨.st [(0, 3), (1, 3)], 2, 16, [.int .i64 0, .int .i64 0]⟩),
  (75, ⟨.st [(0, 3), (1, 3)], 2, 16, [.int .i64 0, .int .i64 0]⟩),
  (76, ⟨.st [(0, 75), (2, 75)], 4, 32, [.int .i64 0, .int .i64 0, .int .i64 0, .int .i64 0]⟩),
  (77, ⟨.st [(0, 75), (2, 75)], 4, 32, [.int .i64 0, .int .i64 0, .int .i64 0, .int .i64 0]⟩),
  (78, ⟨.sl 9, 1, 24, [.nils]⟩),
  (79, ⟨.fn, 1, 8, [.nilf]⟩),
  (80, ⟨.fn, 1, 8, [.nilf]⟩),
  (81, ⟨.fn, 1, 8, [.nilf]⟩),
  (82, ⟨.fn, 1, 8, [.nilf]⟩),
  (83, ⟨.fn, 1, 8, [.nilf]⟩),
  (84, ⟨.fn, 1, 8, [.nilf]⟩),
  (85, ⟨.fn, 1, 8, [.nilf]⟩),
  (86, ⟨.fn, 1, 8, [.nilf]⟩),
  (87, ⟨.fn, 1, 8, [.nilf]⟩),
  (88, ⟨.fn, 1, 8, [.nilf]⟩),
  (89, ⟨.sl 60, 1, 24, [.nils]⟩),
  (90, ⟨.sl 95, 1, 24, [.nils]⟩),
  (91, ⟨.st [(0, 90)], 1, 24, [.nils]⟩),
  (92, ⟨.st [(0, 90)], 1, 24, [.nils]⟩),
  (93, ⟨.map 9 3, 1, 8, [.nilm]⟩),
  (94, ⟨.st [(0, 25), (3, 3), (4, 3), (5, 3), (6, 22), (7, 22), (8, 93)], 9, 128, [.int .i64 0, .str [], .nils, .int .i64 0, .int .i64 0, .int .i64 0, .nils, .nils, .nilm]⟩),
  (95, ⟨.st [(0, 25), (3, 3), (4, 3), (5, 3), (6, 22), (7, 22), (8, 93)], 9, 128, [.int .i64 0, .str [], .nils, .int .i64 0, .int .i64 0, .int .i64 0, .nils, .nils, .nilm]⟩),
  (96, ⟨.fn, 1, 8, [.nilf]⟩),
  (97, ⟨.fn, 1, 8, [.nilf]⟩),
  (98, ⟨.fn, 1, 8, [.nilf]⟩),
  (99, ⟨.fn, 1, 8, [.nilf]⟩),
  (100, ⟨.fn, 1, 8, [.nilf]⟩),
  (101, ⟨.fn, 1, 8, [.nilf]⟩),
  (102, ⟨.map 3 3, 1, 8, [.nilm]⟩),
  (104, ⟨.fn, 1, 8, [.nilf]⟩),
  (105, ⟨.fn, 1, 8, [.nilf]⟩),
  (106, ⟨.fn, 1, 8, [.nilf]⟩),
  (107, ⟨.fn, 1, 8, [.nilf]⟩),
  (108, ⟨.fn, 1, 8, [.nilf]⟩),
  (110, ⟨.fn, 1, 8, [.nilf]⟩),
  (111, ⟨.fn, 1, 8, [.nilf]⟩),
  (112, ⟨.fn, 1, 8, [.nilf]⟩),
  (113, ⟨.fn, 1, 8, [.nilf]⟩),
  (114, ⟨.fn, 1, 8, [.nilf]⟩),
  (115, ⟨.fn, 1, 8, [.nilf]⟩),
  (116, ⟨.fn, 1, 8, [.nilf]⟩),
  (117, ⟨.ptr 95, 1, 8, [.nilp]⟩),
  (118, ⟨.arr 24 5, 24, 24, [.int .u8 0, .int .u8 0, .int .u8 0, .int .u8 0, .int .u8 0, .int .u8 0, .int .u8 0, .int .u8 0, .int .u8 0, .int .u8 0, .int .u8 0, .int .u8 0, .int .u8 0, .int .u8 0, .int .u8 0, .int .u8 0, .int .u8 0, .int .u8 0, .int .u8 0, .int .u8 0, .int .u8 0, .int .u8 0, .int .u8 0, .int .u8 0]⟩),
  (119, ⟨.int .u64, 1, 8, [.int .u64 0]⟩),
  (120, ⟨.fn, 1, 8, [.nilf]⟩),
  (121, ⟨.fn, 1, 8, [.nilf]⟩),
  (122, ⟨.sl 5, 1, 24, [.nils]⟩),
  (124, ⟨.fn, 1, 8, [.nilf]⟩),
  (125, ⟨.fn, 1, 8, [.nilf]⟩),
  (126, ⟨.arr 256 5, 256, 256, [.int .u8 0, .int .u8 0, .int .u8 0, .int .u8 0, .int .u8 0, .int .u8 0, .int .u8 0, .int .u8 0, .int .u8 0, .int .u8 0, .int .u8 0, .int .u8 0, .int .u8 0, .int .u8 0, .int .u8 0, .int .u8 0, .int .u8 0, .int .u8 0, .int .u8 0, .int .u8 0, .int .u8 0, .int .u8 0, .int .u8 0, .int .u8 0, .int .u8 0, .int .u8 0, .int .u8 0, .int .u8 0, .int .u8 0, .int .u8 0, .int .u8 0, .int .u8 0, .int .u8 0, .int .u8 0, .int .u8 0, .int .u8 0, .int .u8 0, .int .u8 0, .int .u8 0, .int .u8 0, .int .u8 0, .int .u8 0, .int .u8 0, .int .u8 0, .int .u8 0, .int .u8 0, .int .u8 0, .int .u8 0, .int .u8 0, .int .u8 0, .int .u8 0, .int .u8 0, .int .u8 0, .int .u8 0, .int .u8 0, .int .u8 0, .int .u8 0, .int .u8 0, .int .u8 0, .int .u8 0, .int .u8 0, .int .u8 0, .int .u8 0, .int .u8 0, .int .u8 0, .int .u8 0, .int .u8 0, .int .u8 0, .int .u8 0, .int .u8 0, .int .u8 0, .int .u8 0, .int .u8 0, .int .u8 0, .int .u8 0, .int .u8 0, .int .u8 0, .int .u8 0, .int .u8 0, .int .u8 0, .int .u8 0, .int .u8 0, .int .u8 0, .int .u8 0, .int .u8 0, .int .u8 0, .int .u8 0, .int .u8 0, .int .u8 0, .int .u8 0, .int .u8 0, .int .u8 0, .int .u8 0, .int .u8 0, .int .u8 0, .int .u8 0, .int .u8 0, .int .u8 0, .int .u8 0, .int .u8 0, .int .u8 0, .int .u8 0, .int .u8 0, .int .u8 0, .int .u8 0, .int .u8 0, .int .u8 0, .int .u8 0, .int .u8 0, .int .u8 0, .int .u8 0, .int .u8 0, .int .u8 0, .int .u8 0, .int .u8 0, .int .u8 0, .int .u8 0, .int .u8 0, .int .u8 0, .int .u8 0, .int .u8 0, .int .u8 0, .int .u8 0, .int .u8 0, .int .u8 0, .int .u8 0, .int .u8 0, .int .u8 0, .int .u8 0, .int .u8 0, .int .u8 0, .int .u8 0, .int .u8 0, .int .u8 0, .int .u8 0, .int .u8 0, .int .u8 0, .int .u8 0, .int .u8 0, .int .u8 0, .int .u8 0, .int .u8 0, .int .u8 0, .int .u8 0, .int .u8 0, .int .u8 0, .int .u8 0, .int .u8 0, .int .u8 0, .int .u8 0, .int .u8 0, .int .u8 0, .int .u8 0, .int .u8 0, .int .u8 0, .int .u8 0, .int .u8 0, .int .u8 0, .int .u8 0, .int .u8 0, .int .u8 0, .int .u8 0, .int .u8 0, .int .u8 0, .int .u8 0, .int .u8 0, .int .u8 0, .int .u8 0, .int .u8 0, .int .u8 0, .int .u8 0, .int .u8 0, .int .u8 0, .int .u8 0, .int .u8 0, .int .u8 0, .int .u8 0, .int .u8 0, .int .u8 0, .int .u8 0, .int .u8 0, .int .u8 0, .int .u8 0, .int .u8 0, .int .u8 0, .int .u8 0, .int .u8 0, .int .u8 0, .int .u8 0, .int .u8 0, .int .u8 0, .int .u8 0, .int .u8 0, .int .u8 0, .int .u8 0, .int .u8 0, .int .u8 0, .int .u8 0, .int .u8 0, .int .u8 0, .int .u8 0, .int .u8 0, .int .u8 0, .int .u8 0, .int .u8 0, .int .u8 0, .int .u8 0, .int .u8 0, .int .u8 0, .int .u8 0, .int .u8 0, .int .u8 0, .int .u8 0, .int .u8 0, .int .u8 0, .int .u8 0, .int .u8 0, .int .u8 0, .int .u8 0, .int .u8 0, .int .u8 0, .int .u8 0, .int .u8 0, .int .u8 0, .int .u8 0, .int .u8 0, .int .u8 0, .int .u8 0, .int .u8 0, .int .u8 0, .int .u8 0, .int .u8 0, .int .u8 0, .int .u8 0, .int .u8 0, .int .u8 0, .int .u8 0, .int .u8 0, .int .u8 0, .int .u8 0, .int .u8 0, .int .u8 0, .int .u8 0, .int .u8 0, .int .u8 0, .int .u8 0, .int .u8 0, .int .u8 0, .int .u8 0, .int .u8 0, .int .u8 0, .int .u8 0, .int .u8 0, .int .u8 0, .int .u8 0, .int .u8 0]⟩),
  (127, ⟨.st [(0, 5), (1, 5)], 2, 2, [.int .u8 0, .int .u8 0]⟩),
  (128, ⟨.st [(0, 5), (1, 5)], 2, 2, [.int .u8 0, .int .u8 0]⟩),
  (129, ⟨.arr 16 128, 32, 32, [.int .u8 0, .int .u8 0, .int .u8 0, .int .u8 0, .int .u8 0, .int .u8 0, .int .u8 0, .int .u8 0, .int .u8 0, .int .u8 0, .int .u8 0, .int .u8 0, .int .u8 0, .int .u8 0, .int .u8 0, .int .u8 0, .int .u8 0, .int .u8 0, .int .u8 0, .int .u8 0, .int .u8 0, .int .u8 0, .int .u8 0, .int .u8 0, .int .u8 0, .int .u8 0, .int .u8 0, .int .u8 0, .int .u8 0, .int .u8 0, .int .u8 0, .int .u8 0]⟩),
  (130, ⟨.int .u64, 1, 8, [.int .u64 0]⟩),
  (131, ⟨.fn, 1, 8, [.nilf]⟩),
  (132, ⟨.fn, 1, 8, [.nilf]⟩),
  (133, ⟨.fn, 1, 8, [.nilf]⟩),
  (134, ⟨.fn, 1, 8, [.nilf]⟩),
  (135, ⟨.fn, 1, 8, [.nilf]⟩),
  (136, ⟨.arr 20 119, 20, 160, [.int .u64 0, .int .u64 0, .int .u64 0, .int .u64 0, .int .u64 0, .int .u64 0, .int .u64 0, .int .u64 0, .int .u64 0, .int .u64 0, .int .u64 0, .int .u64 0, .int .u64 0, .int .u64 0, .int .u64 0, .int .u64 0, .int .u64 0, .int .u64 0, .int .u64 0, .int .u64 0]⟩),
  (137, ⟨.int .u32, 1, 4, [.int .u32 0]⟩),
  (138, ⟨.arr 65 5, 65, 65, [.int .u8 0, .int .u8 0, .int .u8 0, .int .u8 0, .int .u8 0, .int .u8 0, .int .u8 0, .int .u8 0, .int .u8 0, .int .u8 0, .int .u8 0, .int .u8 0, .int .u8 0, .int .u8 0, .int .u8 0, .int .u8 0, .int .u8 0, .int .u8 0, .int .u8 0, .int .u8 0, .int .u8 0, .int .u8 0, .int .u8 0, .int .u8 0, .int .u8 0, .int .u8 0, .int .u8 0, .int .u8 0, .int .u8 0, .int .u8 0, .int .u8 0, .int .u8 0, .int .u8 0, .int .u8 0, .int .u8 0, .int .u8 0, .int .u8 0, .int .u8 0, .int .u8 0, .int .u8 0, .int .u8 0, .int .u8 0, .int .u8 0, .int .u8 0, .int .u8 0, .int .u8 0, .int .u8 0, .int .u8 0, .int .u8 0, .int .u8 0, .int .u8 0, .int .u8 0, .int .u8 0, .int .u8 0, .int .u8 0, .int .u8 0, .int .u8 0, .int .u8 0, .int .u8 0, .int .u8 0, .int .u8 0, .int .u8 0, .int .u8 0, .int .u8 0, .int .u8 0]⟩),
  (139, ⟨.fn, 1, 8, [.nilf]⟩),
  (140, ⟨.fn, 1, 8, [.nilf]⟩),
  (141, ⟨.fn, 1, 8, [.nilf]⟩),
  (142, ⟨.arr 32 5, 32, 32, [.int .u8 0, .int .u8 0, .int .u8 0, .int .u8 0, .int .u8 0, .int .u8 0, .int .u8 0, .int .u8 0, .int .u8 0, .int .u8 0, .int .u8 0, .int .u8 0, .int .u8 0, .int .u8 0, .int .u8 0, .int .u8 0, .int .u8 0, .int .u8 0, .int .u8 0, .int .u8 0, .int .u8 0, .int .u8 0, .int .u8 0, .int .u8 0, .int .u8 0, .int .u8 0, .int .u8 0, .int .u8 0, .int .u8 0, .int .u8 0, .int .u8 0, .int .u8 0]⟩),
  (143, ⟨.arr 64 5, 64, 64, [.int .u8 0, .int .u8 0, .int .u8 0, .int .u8 0, .int .u8 0, .int .u8 0, .int .u8 0, .int .u8 0, .int .u8 0, .int .u8 0, .int .u8 0, .int .u8 0, .int .u8 0, .int .u8 0, .int .u8 0, .int .u8 0, .int .u8 0, .int .u8 0, .int .u8 0, .int .u8 0, .int .u8 0, .int .u8 0, .int .u8 0, .int .u8 0, .int .u8 0, .int .u8 0, .int .u8 0, .int .u8 0, .int .u8 0, .int .u8 0, .int .u8 0, .int .u8 0, .int .u8 0, .int .u8 0, .int .u8 0, .int .u8 0, .int .u8 0, .int .u8 0, .int .u8 0, .int .u8 0, .int .u8 0, .int .u8 0, .int .u8 0, .int .u8 0, .int .u8 0, .int .u8 0, .int .u8 0, .int .u8 0, .int .u8 0, .int .u8 0, .int .u8 0, .int .u8 0, .int .u8 0, .int .u8 0, .int .u8 0, .int .u8 0, .int .u8 0, .int .u8 0, .int .u8 0, .int .u8 0, .int .u8 0, .int .u8 0, .int .u8 0, .int .u8 0]⟩),
  (144, ⟨.fn, 1, 8, [.nilf]⟩),
  (145, ⟨.st [(0, 17), (1, 17), (2, 17), (3, 9)], 4, 40, [.nilp, .nilp, .nilp, .str []]⟩),
  (146, ⟨.st [(0, 17), (1, 17), (2, 17), (3, 9)], 4, 40, [.nilp, .nilp, .nilp, .str []]⟩),
  (147, ⟨.arr 0 16, 0, 0, []⟩),
  (148, ⟨.st [(0, 147)], 0, 0, []⟩),
  (149, ⟨.st [(0, 147)], 0, 0, []⟩),
  (150, ⟨.int .u8, 1, 1, [.int .u8 0]⟩),
  (151, ⟨.int .u8, 1, 1, [.int .u8 0]⟩),
  (152, ⟨.fn, 1, 8, [.nilf]⟩),
  (153, ⟨.ptr 5, 1, 8, [.nilp]⟩),
  (154, ⟨.int .i32, 1, 4, [.int .i32 0]⟩),
  (155, ⟨.int .i32, 1, 4, [.int .i32 0]⟩),
  (156, ⟨.st [(0, 12), (1, 12), (2, 137), (3, 150), (4, 5), (5, 5), (6, 151), (7, 152), (8, 153), (9, 154), (10, 155)], 11, 48, [.int .u64 0, .int .u64 0, .int .u32 0, .int .u8 0, .int .u8 0, .int .u8 0, .int .u8 0, .nilf, .nilp, .int .i32 0, .int .i32 0]⟩),
  (157, ⟨.st [(0, 12), (1, 12), (2, 137), (3, 150), (4, 5), (5, 5), (6, 151), (7, 152), (8, 153), (9, 154), (10, 155)], 11, 48, [.int .u64 0, .int .u64 0, .int .u32 0, .int .u8 0, .int .u8 0, .int .u8 0, .int .u8 0, .nilf, .nilp, .int .i32 0, .int .i32 0]⟩)]
set_option maxRecDepth 20000 in
theorem env : Env Tryd.prog T := ⟨table_cons tok1 (table_cons tok2 (table_cons tok3 (table_cons tok4 (table_cons tok5 (table_cons tok6 (table_cons tok7 (table_cons tok8 (table_cons tok9 (table_cons tok10 (table_cons tok11 (table_cons tok12 (table_cons tok13 (table_cons tok14 (table_cons tok15 (table_cons tok16 (table_cons tok17 (table_cons tok18 (table_cons tok19 (table_cons tok20 (table_cons tok21 (table_cons tok22 (table_cons tok23 (table_cons tok24 (table_cons tok25 (table_cons tok26 (table_cons tok27 (table_cons tok28 (table_cons tok29 (table_cons tok30 (table_cons tok31 (table_cons tok32 (table_cons tok33 (table_cons tok34 (table_cons tok35 (table_cons tok36 (table_cons tok37 (table_cons tok38 (table_cons tok39 (table_cons tok41 (table_cons tok42 (table_cons tok43 (table_cons tok44 (table_cons tok45 (table_cons tok46 (table_cons tok48 (table_cons tok49 (table_cons tok50 (table_cons tok51 (table_cons tok52 (table_cons tok53 (table_cons tok54 (table_cons tok55 (table_cons tok56 (table_cons tok57 (table_cons tok58 (table_cons tok59 (table_cons tok60 (table_cons tok61 (table_cons tok62 (table_cons tok63 (table_cons tok64 (table_cons tok65 (table_cons tok66 (table_cons tok67 (table_cons tok68 (table_cons tok69 (table_cons tok70 (table_cons tok72 (table_cons tok73 (table_cons tok74 (table_cons tok75 (table_cons tok76 (table_cons tok77 (table_cons tok78 (table_cons tok79 (table_cons tok80 (table_cons tok81 (table_cons tok82 (table_cons tok83 (table_cons tok84 (table_cons tok85 (table_cons tok86 (table_cons tok87 (table_cons tok88 (table_cons tok89 (table_cons tok90 (table_cons tok91 (table_cons tok92 (table_cons tok93 (table_cons tok94 (table_cons tok95 (table_cons tok96 (table_cons tok97 (table_cons tok98 (table_cons tok99 (table_cons tok100 (table_cons tok101 (table_cons tok102 (table_cons tok104 (table_cons tok105 (table_cons tok106 (table_cons tok107 (table_cons tok108 (table_cons tok110 (table_cons tok111 (table_cons tok112 (table_cons tok113 (table_cons tok114 (table_cons tok115 (table_cons tok116 (table_cons tok117 (table_cons tok118 (table_cons tok119 (table_cons tok120 (table_cons tok121 (table_cons tok122 (table_cons tok124 (table_cons tok125 (table_cons tok126 (table_cons tok127 (table_cons tok128 (table_cons tok129 (table_cons tok130 (table_cons tok131 (table_cons tok132 (table_cons tok133 (table_cons tok134 (table_cons tok135 (table_cons tok136 (table_cons tok137 (table_cons tok138 (table_cons tok139 (table_cons tok140 (table_cons tok141 (table_cons tok142 (table_cons tok143 (table_cons tok144 (table_cons tok145 (table_cons tok146 (table_cons tok147 (table_cons tok148 (table_cons tok149 (table_cons tok150 (table_cons tok151 (table_cons tok152 (table_cons tok153 (table_cons tok154 (table_cons tok155 (table_cons tok156 (table_cons tok157 (table_nil))))))))))))))))))))))))))))))))))))))))))))))))))))))))))))))))))))))))))))))))))))))))))))))))))))))))))))))))))))))))))))))))))))))))))))))))))))))), by kernel_rfl⟩
end Go.Sx.Sp
namespace Go.Proofs
open Go.Shelf
def Tryd.laysValid_ren : Go.Shelf.Ren := ⟨fun | 196 => 56 | 259 => 69 | n => n, fun | 9 => 9 | 4 => 4 | 3 => 3 | 5 => 5 | 12 => 12 | 119 => 126 | 0 => 0 | 46 => 130 | 139 => 129 | 138 => 128 | 53 => 119 | n => n, fun | 3 => 0 | 4 => 1 | n => n⟩
theorem Tryd.laysValid : Go.Proofs.Lays.n196 Tryd.prog Tryd.laysValid_ren := {
  mixed := by kernel_rfl
  f196 := Tryd.func56.trans (congrArg some (by kernel_rfl))
  f259 := Tryd.func69.trans (congrArg some (by kernel_rfl))
  t0 := Tryd.underlying0
  a0 := Tryd.isAgg0
  z0 := Tryd.sizeOf0
  v0 := Tryd.zeroValue0
  t3 := Tryd.underlying3
  a3 := Tryd.isAgg3
  z3 := Tryd.sizeOf3
  v3 := Tryd.zeroValue3
  t4 := Tryd.underlying4
  a4 := Tryd.isAgg4
  z4 := Tryd.sizeOf4
  v4 := Tryd.zeroValue4
  t5 := Tryd.underlying5
  a5 := Tryd.isAgg5
  z5 := Tryd.sizeOf5
  v5 := Tryd.zeroValue5
  t9 := Tryd.underlying9
  a9 := Tryd.isAgg9
  z9 := Tryd.sizeOf9
  v9 := Tryd.zeroValue9
  t12 := Tryd.underlying12
  a12 := Tryd.isAgg12
  z12 := Tryd.sizeOf12
  v12 := Tryd.zeroValue12
  t46 := Tryd.underlying130
  a46 := Tryd.isAgg130
  z46 := Tryd.sizeOf130
  v46 := Tryd.zeroValue130
  t53 := Tryd.underlying119
  a53 := Tryd.isAgg119
  z53 := Tryd.sizeOf119
  v53 := Tryd.zeroValue119
  t119 := Tryd.underlying126
  a119 := Tryd.isAgg126
  z119 := Tryd.sizeOf126
  t138 := Tryd.underlying128
  a138 := Tryd.isAgg128
  z138 := Tryd.sizeOf128
  v138 := Tryd.zeroValue128
  t139 := Tryd.underlying129
  a139 := Tryd.isAgg129
  z139 := Tryd.sizeOf129
  v139 := Tryd.zeroValue129
  g3 := by kernel_rfl
  g4 := by kernel_rfl }
def Tryd.laysItoa_ren : Go.Shelf.Ren := ⟨fun | 171 => 31 | 243 => 46 | 246 => 55 | 283 => 65 | 284 => 66 | 285 => 67 | 286 => 68 | 129 => 76 | 317 => 75 | 318 => 77 | 319 => 78 | 320 => 79 | 337 => 80 | 338 => 81 | n => n, fun | 3 => 3 | 9 => 9 | 2 => 2 | 4 => 4 | 171 => 118 | 0 => 0 | 53 => 119 | 37 => 122 | 5 => 5 | 173 => 123 | 212 => 136 | 51 => 137 | 20 => 20 | 213 => 138 | 46 => 130 | 232 => 142 | 233 => 143 | n => n, fun | 17 => 2 | 18 => 3 | 19 => 4 | n => n⟩
theorem Tryd.laysItoa : Go.Proofs.LaysM.n171 Tryd.prog Tryd.laysItoa_ren := {
  mixed := by kernel_rfl
  f129 := Tryd.func76.trans (congrArg some (by kernel_rfl))
  f171 := Tryd.func31.trans (congrArg some (by kernel_rfl))
  f243 := Tryd.func46.trans (congrArg some (by kernel_rfl))
  f246 := Tryd.func55.trans (congrArg some (by kernel_rfl))
  f283 := Tryd.func65.trans (congrArg some (by kernel_rfl))
  f284 := Tryd.func66.trans (congrArg some (by kernel_rfl))
  f285 := Tryd.func67.trans (congrArg some (by kernel_rfl))
  f286 := Tryd.func68.trans (congrArg some (by kernel_rfl))
  f317 := Tryd.func75.trans (congrArg some (by kernel_rfl))
  f318 := Tryd.func77.trans (congrArg some (by kernel_rfl))
  f319 := Tryd.func78.trans (congrArg some (by kernel_rfl))
  f320 := Tryd.func79.trans (congrArg some (by kernel_rfl))
  f337 := Tryd.func80.trans (congrArg some (by kernel_rfl))
  f338 := Tryd.func81.trans (congrArg some (by kernel_rfl))
  t0 := Tryd.underlying0
  a0 := Tryd.isAgg0
  z0 := Tryd.sizeOf0
  v0 := Tryd.zeroValue0
  t2 := Tryd.underlying2
  a2 := Tryd.isAgg2
  z2 := Tryd.sizeOf2
  v2 := Tryd.zeroValue2
  t3 := Tryd.underlying3
  a3 := Tryd.isAgg3
  z3 := Tryd.sizeOf3
  v3 := Tryd.zeroValue3
  t4 := Tryd.underlying4
  a4 := Tryd.isAgg4
  z4 := Tryd.sizeOf4
  v4 := Tryd.zeroValue4
  t5 := Tryd.underlying5
  a5 := Tryd.isAgg5
  z5 := Tryd.sizeOf5
  v5 := Tryd.zeroValue5
  t9 := Tryd.underlying9
  a9 := Tryd.isAgg9
  z9 := Tryd.sizeOf9
  v9 := Tryd.zeroValue9
  t20 := Tryd.underlying20
  a20 := Tryd.isAgg20
  z20 := Tryd.sizeOf20
  v20 := Tryd.zeroValue20
  t37 := Tryd.underlying122
  a37 := Tryd.isAgg122
  z37 := Tryd.sizeOf122
  v37 := Tryd.zeroValue122
  t46 := Tryd.underlying130
  a46 := Tryd.isAgg130
  z46 := Tryd.sizeOf130
  v46 := Tryd.zeroValue130
  t51 := Tryd.underlying137
  a51 := Tryd.isAgg137
  z51 := Tryd.sizeOf137
  v51 := Tryd.zeroValue137
  t53 := Tryd.underlying119
  a53 := Tryd.isAgg119
  z53 := Tryd.sizeOf119
  v53 := Tryd.zeroValue119
  t171 := Tryd.underlying118
  a171 := Tryd.isAgg118
  z171 := Tryd.sizeOf118
  v171 := Tryd.zeroValue118
  t173 := Tryd.underlying123
  a173 := Tryd.isAgg123
  z173 := Tryd.sizeOf123
  v173 := Tryd.zeroValue123
  t212 := Tryd.underlying136
  a212 := Tryd.isAgg136
  z212 := Tryd.sizeOf136
  v212 := Tryd.zeroValue136
  t213 := Tryd.underlying138
  a213 := Tryd.isAgg138
  z213 := Tryd.sizeOf138
  t232 := Tryd.underlying142
  a232 := Tryd.isAgg142
  z232 := Tryd.sizeOf142
  v232 := Tryd.zeroValue142
  t233 := Tryd.underlying143
  a233 := Tryd.isAgg143
  z233 := Tryd.sizeOf143
  v233 := Tryd.zeroValue143
  g17 := by kernel_rfl
  g18 := by kernel_rfl
  g19 := by kernel_rfl
  i0 := by kernel_rfl
  i2 := by kernel_rfl
  i3 := by kernel_rfl
  i4 := by kernel_rfl
  i5 := by kernel_rfl
  i9 := by kernel_rfl
  i20 := by kernel_rfl
  i37 := by kernel_rfl
  i46 := by kernel_rfl
  i51 := by kernel_rfl
  i53 := by kernel_rfl
  i171 := by kernel_rfl
  i173 := by kernel_rfl
  i212 := by kernel_rfl
  i232 := by kernel_rfl
  i233 := by kernel_rfl
  m17 := by kernel_rfl
  m18 := by kernel_rfl
  m19 := by kernel_rfl }
end Go.Proofs
namespace Go.Sx.Sp
open Go Go.Sx Go.Proofs Go.RowKit Go.Sort
def tabsOK (w : World) : Prop := Lib.Utf8Tabs 0 1 w ∧ Lib.TabIs Tryd.prog w "internal/strconv.uint64pow10" .u64 Lib.pow10Tab
instance : Glob := ⟨tabsOK, [0, 1, 2], False, fun w w' hs h => by
  have h0 := hs 0 (by simp)
  have h1 := hs 1 (by simp)
  have h3 := hs 2 (by simp)
  refine ⟨⟨fun c hc => ?_, fun i hi => ?_⟩, ?_⟩
  · rw [cell?_of_heap h0]; exact h.1.1 c hc
  · rw [cell?_of_heap h1, cell?_of_heap h1]; exact h.1.2 i hi
  · have hg : Tryd.prog.globalNamed "internal/strconv.uint64pow10" = some 2 := by kernel_rfl
    have := h.2
    simp only [Lib.TabIs, World.var?, hg, Option.bind_some] at this ⊢
    rw [h3]; exact this⟩
set_option maxRecDepth 1000000 in
theorem utf8_spec (s : List UInt8) : Spec Tryd.prog 56 [.str s] [] (.bool (Lib.validD s)) [] := by
  refine Spec.ofCalls (fun cargs w => enters_of Tryd.func56 (by kernel_rfl) rfl cargs w) fun w F m cargs hl ha hg => ?_
  match cargs, hl with
  | [c], _ =>
    obtain ⟨rfl, hs⟩ := (ha 0 (.str s) c rfl rfl).str_inv
    have hsz : (⟨s.toArray⟩ : ByteArray).size ≤ 9223372036854775807 := by
      have : maxLen = 9223372036854775807 := by unfold maxLen; rfl
      simpa [ByteArray.size, this] using hs
    refine (Any.utf8_ValidString Tryd.laysValid ⟨s.toArray⟩ w hsz hg.1).mono fun e w' ⟨he, hb⟩ => ?_
    exact ⟨_, he, fun w' F m => .bool _, hb, fun h => h.elim⟩
theorem below_grown (w : World) (k : Nat) (os : Array Obj) : Below w.heap.size w (grow (w.drewN k) os) :=
  ⟨rfl, rfl, rfl, by show w.heap.size ≤ (w.heap ++ os).size; rw [Array.size_append]; omega, fun b hb => by show (w.heap ++ os)[b]? = w.heap[b]?; rw [Array.getElem?_append_left hb]⟩
set_option maxRecDepth 1000000 in
theorem itoa_spec (n : Int) (h0 : -9223372036854775808 ≤ n) (h1 : n ≤ 9223372036854775807) (hn : (Lib.itoa n).length ≤ 100) : Spec Tryd.prog 31 [.int .i64 n] [] (.str (Lib.itoa n)) [] := by
  refine Spec.ofCalls (fun cargs w => enters_of Tryd.func31 (by kernel_rfl) rfl cargs w) fun w F m cargs hl ha hg => ?_
  match cargs, hl with
  | [c], _ =>
    have := (ha 0 (.int .i64 n) c rfl rfl).int_inv
    subst this
    refine (Any.strconv_Itoa Tryd.laysItoa n h0 h1 w hg.2).mono fun e w' ⟨he, k, os, hb⟩ => ?_
    subst hb
    exact ⟨_, he, fun w' F m => .str _ (by have : maxLen = 9223372036854775807 := by unfold maxLen; rfl
                                           omega), below_grown w k os, fun h => h.elim⟩
end Go.Sx.Sp
