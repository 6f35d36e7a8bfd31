/- Types of the program, and library functions. -/
import Derived.Test.YthmohnenobkmcaaDoorSxThree
import Derived.Test.YthmohnenobkmcaaDoorProg
import Derived.Test.YthmohnenobkmcaaDoorSxFour
import Derived.Test.YthmohnenobkmcaaDoorSxFive
import Derived.Shelf.Unicode.ValidAny
import Derived.Shelf.Strconv.Itoa3
import Derived.Lib.LaidTab
set_option linter.unusedVariables false
set_option linter.unusedSimpArgs false
namespace Go.Sx.Sp
open Go Go.Sx Go.Proofs
theorem tok2 : TOK Tryd.prog 2 ⟨.int .i64, 1, 8, [.int .i64 0]⟩ := tok_of (by kernel_rfl)
theorem tok3 : TOK Tryd.prog 3 ⟨.int .i64, 1, 8, [.int .i64 0]⟩ := tok_of (by kernel_rfl)
theorem tok4 : TOK Tryd.prog 4 ⟨.bool, 1, 1, [.bool false]⟩ := tok_of (by kernel_rfl)
theorem tok5 : TOK Tryd.prog 5 ⟨.int .u8, 1, 1, [.int .u8 0]⟩ := tok_of (by kernel_rfl)
theorem tok6 : TOK Tryd.prog 6 ⟨.int .u8, 1, 1, [.int .u8 0]⟩ := tok_of (by kernel_rfl)
theorem tok7 : TOK Tryd.prog 7 ⟨.st [(0, 2), (1, 3), (2, 4), (3, 6)], 4, 24, [.int .i64 0, .int .i64 0, .bool false, .int .u8 0]⟩ := tok_of (by kernel_rfl)
theorem tok8 : TOK Tryd.prog 8 ⟨.st [(0, 2), (1, 3), (2, 4), (3, 6)], 4, 24, [.int .i64 0, .int .i64 0, .bool false, .int .u8 0]⟩ := tok_of (by kernel_rfl)
theorem tok9 : TOK Tryd.prog 9 ⟨.str, 1, 16, [.str []]⟩ := tok_of (by kernel_rfl)
theorem tok10 : TOK Tryd.prog 10 ⟨.str, 1, 16, [.str []]⟩ := tok_of (by kernel_rfl)
theorem tok11 : TOK Tryd.prog 11 ⟨.str, 1, 16, [.str []]⟩ := tok_of (by kernel_rfl)
theorem tok12 : TOK Tryd.prog 12 ⟨.int .u64, 1, 8, [.int .u64 0]⟩ := tok_of (by kernel_rfl)
theorem tok13 : TOK Tryd.prog 13 ⟨.st [(0, 9), (1, 12)], 2, 24, [.str [], .int .u64 0]⟩ := tok_of (by kernel_rfl)
theorem tok14 : TOK Tryd.prog 14 ⟨.st [(0, 9), (1, 12)], 2, 24, [.str [], .int .u64 0]⟩ := tok_of (by kernel_rfl)
theorem tok15 : TOK Tryd.prog 15 ⟨.ptr 154, 1, 8, [.nilp]⟩ := tok_of (by kernel_rfl)
theorem tok16 : TOK Tryd.prog 16 ⟨.ptr 157, 1, 8, [.nilp]⟩ := tok_of (by kernel_rfl)
theorem tok17 : TOK Tryd.prog 17 ⟨.ptr 165, 1, 8, [.nilp]⟩ := tok_of (by kernel_rfl)
theorem tok18 : TOK Tryd.prog 18 ⟨.st [(0, 17)], 1, 8, [.nilp]⟩ := tok_of (by kernel_rfl)
theorem tok19 : TOK Tryd.prog 19 ⟨.st [(0, 17)], 1, 8, [.nilp]⟩ := tok_of (by kernel_rfl)
theorem tok20 : TOK Tryd.prog 20 ⟨.iface, 1, 16, [.nili]⟩ := tok_of (by kernel_rfl)
theorem tok21 : TOK Tryd.prog 21 ⟨.int .i32, 1, 4, [.int .i32 0]⟩ := tok_of (by kernel_rfl)
theorem tok22 : TOK Tryd.prog 22 ⟨.sl 3, 1, 24, [.nils]⟩ := tok_of (by kernel_rfl)
theorem tok25 : TOK Tryd.prog 25 ⟨.ptr 55, 1, 8, [.nilp]⟩ := tok_of (by kernel_rfl)
theorem tok27 : TOK Tryd.prog 27 ⟨.sl 34, 1, 24, [.nils]⟩ := tok_of (by kernel_rfl)
theorem tok28 : TOK Tryd.prog 28 ⟨.st [(0, 3), (1, 9), (2, 27)], 3, 48, [.int .i64 0, .str [], .nils]⟩ := tok_of (by kernel_rfl)
theorem tok29 : TOK Tryd.prog 29 ⟨.st [(0, 3), (1, 9), (2, 27)], 3, 48, [.int .i64 0, .str [], .nils]⟩ := tok_of (by kernel_rfl)
theorem tok32 : TOK Tryd.prog 32 ⟨.sl 36, 1, 24, [.nils]⟩ := tok_of (by kernel_rfl)
theorem tok33 : TOK Tryd.prog 33 ⟨.st [(0, 9), (1, 32)], 2, 40, [.str [], .nils]⟩ := tok_of (by kernel_rfl)
theorem tok34 : TOK Tryd.prog 34 ⟨.st [(0, 9), (1, 32)], 2, 40, [.str [], .nils]⟩ := tok_of (by kernel_rfl)
theorem tok35 : TOK Tryd.prog 35 ⟨.st [(0, 4), (1, 9)], 2, 24, [.bool false, .str []]⟩ := tok_of (by kernel_rfl)
theorem tok36 : TOK Tryd.prog 36 ⟨.st [(0, 4), (1, 9)], 2, 24, [.bool false, .str []]⟩ := tok_of (by kernel_rfl)
theorem tok38 : TOK Tryd.prog 38 ⟨.sl 29, 1, 24, [.nils]⟩ := tok_of (by kernel_rfl)
theorem tok39 : TOK Tryd.prog 39 ⟨.st [(0, 3), (1, 3)], 2, 16, [.int .i64 0, .int .i64 0]⟩ := tok_of (by kernel_rfl)
theorem tok40 : TOK Tryd.prog 40 ⟨.st [(0, 3), (1, 3)], 2, 16, [.int .i64 0, .int .i64 0]⟩ := tok_of (by kernel_rfl)
theorem tok41 : TOK Tryd.prog 41 ⟨.int .i64, 1, 8, [.int .i64 0]⟩ := tok_of (by kernel_rfl)
theorem tok44 : TOK Tryd.prog 44 ⟨.sl 93, 1, 24, [.nils]⟩ := tok_of (by kernel_rfl)
theorem tok45 : TOK Tryd.prog 45 ⟨.st [(0, 3), (1, 44)], 2, 32, [.int .i64 0, .nils]⟩ := tok_of (by kernel_rfl)
theorem tok46 : TOK Tryd.prog 46 ⟨.st [(0, 3), (1, 44)], 2, 32, [.int .i64 0, .nils]⟩ := tok_of (by kernel_rfl)
theorem tok47 : TOK Tryd.prog 47 ⟨.st [(0, 40), (2, 3), (3, 9)], 4, 40, [.int .i64 0, .int .i64 0, .int .i64 0, .str []]⟩ := tok_of (by kernel_rfl)
theorem tok48 : TOK Tryd.prog 48 ⟨.st [(0, 40), (2, 3), (3, 9)], 4, 40, [.int .i64 0, .int .i64 0, .int .i64 0, .str []]⟩ := tok_of (by kernel_rfl)
theorem tok49 : TOK Tryd.prog 49 ⟨.sl 48, 1, 24, [.nils]⟩ := tok_of (by kernel_rfl)
theorem tok50 : TOK Tryd.prog 50 ⟨.sl 40, 1, 24, [.nils]⟩ := tok_of (by kernel_rfl)
theorem tok51 : TOK Tryd.prog 51 ⟨.st [(0, 46), (2, 49), (3, 50)], 4, 80, [.int .i64 0, .nils, .nils, .nils]⟩ := tok_of (by kernel_rfl)
theorem tok52 : TOK Tryd.prog 52 ⟨.st [(0, 46), (2, 49), (3, 50)], 4, 80, [.int .i64 0, .nils, .nils, .nils]⟩ := tok_of (by kernel_rfl)
theorem tok54 : TOK Tryd.prog 54 ⟨.st [(0, 22), (1, 3)], 2, 32, [.nils, .int .i64 0]⟩ := tok_of (by kernel_rfl)
theorem tok55 : TOK Tryd.prog 55 ⟨.st [(0, 22), (1, 3)], 2, 32, [.nils, .int .i64 0]⟩ := tok_of (by kernel_rfl)
theorem tok61 : TOK Tryd.prog 61 ⟨.sl 22, 1, 24, [.nils]⟩ := tok_of (by kernel_rfl)
theorem tok62 : TOK Tryd.prog 62 ⟨.map 3 3, 1, 8, [.nilm]⟩ := tok_of (by kernel_rfl)
theorem tok69 : TOK Tryd.prog 69 ⟨.sl 9, 1, 24, [.nils]⟩ := tok_of (by kernel_rfl)
theorem tok84 : TOK Tryd.prog 84 ⟨.fn, 1, 8, [.nilf]⟩ := tok_of (by kernel_rfl)
theorem tok86 : TOK Tryd.prog 86 ⟨.fn, 1, 8, [.nilf]⟩ := tok_of (by kernel_rfl)
theorem tok88 : TOK Tryd.prog 88 ⟨.ptr 109, 1, 8, [.nilp]⟩ := tok_of (by kernel_rfl)
theorem tok92 : TOK Tryd.prog 92 ⟨.st [(0, 40), (2, 40)], 4, 32, [.int .i64 0, .int .i64 0, .int .i64 0, .int .i64 0]⟩ := tok_of (by kernel_rfl)
theorem tok93 : TOK Tryd.prog 93 ⟨.st [(0, 40), (2, 40)], 4, 32, [.int .i64 0, .int .i64 0, .int .i64 0, .int .i64 0]⟩ := tok_of (by kernel_rfl)
theorem tok106 : TOK Tryd.prog 106 ⟨.sl 113, 1, 24, [.nils]⟩ := tok_of (by kernel_rfl)
theorem tok107 : TOK Tryd.prog 107 ⟨.sl 112, 1, 24, [.nils]⟩ := tok_of (by kernel_rfl)
theorem tok108 : TOK Tryd.prog 108 ⟨.st [(0, 107)], 1, 24, [.nils]⟩ := tok_of (by kernel_rfl)
theorem tok109 : TOK Tryd.prog 109 ⟨.st [(0, 107)], 1, 24, [.nils]⟩ := tok_of (by kernel_rfl)
theorem tok110 : TOK Tryd.prog 110 ⟨.map 9 3, 1, 8, [.nilm]⟩ := tok_of (by kernel_rfl)
theorem tok111 : TOK Tryd.prog 111 ⟨.st [(0, 29), (3, 3), (4, 3), (5, 3), (6, 22), (7, 22), (8, 110)], 9, 128, [.int .i64 0, .str [], .nils, .int .i64 0, .int .i64 0, .int .i64 0, .nils, .nils, .nilm]⟩ := tok_of (by kernel_rfl)
theorem tok112 : TOK Tryd.prog 112 ⟨.st [(0, 29), (3, 3), (4, 3), (5, 3), (6, 22), (7, 22), (8, 110)], 9, 128, [.int .i64 0, .str [], .nils, .int .i64 0, .int .i64 0, .int .i64 0, .nils, .nils, .nilm]⟩ := tok_of (by kernel_rfl)
theorem tok113 : TOK Tryd.prog 113 ⟨.map 9 22, 1, 8, [.nilm]⟩ := tok_of (by kernel_rfl)
theorem tok115 : TOK Tryd.prog 115 ⟨.fn, 1, 8, [.nilf]⟩ := tok_of (by kernel_rfl)
theorem tok117 : TOK Tryd.prog 117 ⟨.arr 24 5, 24, 24, [.int .u8 0, .int .u8 0, .int .u8 0, .int .u8 0, .int .u8 0, .int .u8 0, .int .u8 0, .int .u8 0, .int .u8 0, .int .u8 0, .int .u8 0, .int .u8 0, .int .u8 0, .int .u8 0, .int .u8 0, .int .u8 0, .int .u8 0, .int .u8 0, .int .u8 0, .int .u8 0, .int .u8 0, .int .u8 0, .int .u8 0, .int .u8 0]⟩ := tok_of (by kernel_rfl)
theorem tok118 : TOK Tryd.prog 118 ⟨.int .u64, 1, 8, [.int .u64 0]⟩ := tok_of (by kernel_rfl)
theorem tok121 : TOK Tryd.prog 121 ⟨.sl 5, 1, 24, [.nils]⟩ := tok_of (by kernel_rfl)
theorem tok126 : TOK Tryd.prog 126 ⟨.fn, 1, 8, [.nilf]⟩ := tok_of (by kernel_rfl)
theorem tok129 : TOK Tryd.prog 129 ⟨.arr 20 118, 20, 160, [.int .u64 0, .int .u64 0, .int .u64 0, .int .u64 0, .int .u64 0, .int .u64 0, .int .u64 0, .int .u64 0, .int .u64 0, .int .u64 0, .int .u64 0, .int .u64 0, .int .u64 0, .int .u64 0, .int .u64 0, .int .u64 0, .int .u64 0, .int .u64 0, .int .u64 0, .int .u64 0]⟩ := tok_of (by kernel_rfl)
theorem tok130 : TOK Tryd.prog 130 ⟨.int .u32, 1, 4, [.int .u32 0]⟩ := tok_of (by kernel_rfl)
theorem tok131 : TOK Tryd.prog 131 ⟨.arr 65 5, 65, 65, [.int .u8 0, .int .u8 0, .int .u8 0, .int .u8 0, .int .u8 0, .int .u8 0, .int .u8 0, .int .u8 0, .int .u8 0, .int .u8 0, .int .u8 0, .int .u8 0, .int .u8 0, .int .u8 0, .int .u8 0, .int .u8 0, .int .u8 0, .int .u8 0, .int .u8 0, .int .u8 0, .int .u8 0, .int .u8 0, .int .u8 0, .int .u8 0, .int .u8 0, .int .u8 0, .int .u8 0, .int .u8 0, .int .u8 0, .int .u8 0, .int .u8 0, .int .u8 0, .int .u8 0, .int .u8 0, .int .u8 0, .int .u8 0, .int .u8 0, .int .u8 0, .int .u8 0, .int .u8 0, .int .u8 0, .int .u8 0, .int .u8 0, .int .u8 0, .int .u8 0, .int .u8 0, .int .u8 0, .int .u8 0, .int .u8 0, .int .u8 0, .int .u8 0, .int .u8 0, .int .u8 0, .int .u8 0, .int .u8 0, .int .u8 0, .int .u8 0, .int .u8 0, .int .u8 0, .int .u8 0, .int .u8 0, .int .u8 0, .int .u8 0, .int .u8 0, .int .u8 0]⟩ := tok_of (by kernel_rfl)
theorem tok133 : TOK Tryd.prog 133 ⟨.int .u64, 1, 8, [.int .u64 0]⟩ := tok_of (by kernel_rfl)
theorem tok137 : TOK Tryd.prog 137 ⟨.ptr 112, 1, 8, [.nilp]⟩ := tok_of (by kernel_rfl)
theorem tok144 : TOK Tryd.prog 144 ⟨.arr 32 5, 32, 32, [.int .u8 0, .int .u8 0, .int .u8 0, .int .u8 0, .int .u8 0, .int .u8 0, .int .u8 0, .int .u8 0, .int .u8 0, .int .u8 0, .int .u8 0, .int .u8 0, .int .u8 0, .int .u8 0, .int .u8 0, .int .u8 0, .int .u8 0, .int .u8 0, .int .u8 0, .int .u8 0, .int .u8 0, .int .u8 0, .int .u8 0, .int .u8 0, .int .u8 0, .int .u8 0, .int .u8 0, .int .u8 0, .int .u8 0, .int .u8 0, .int .u8 0, .int .u8 0]⟩ := tok_of (by kernel_rfl)
theorem tok145 : TOK Tryd.prog 145 ⟨.arr 64 5, 64, 64, [.int .u8 0, .int .u8 0, .int .u8 0, .int .u8 0, .int .u8 0, .int .u8 0, .int .u8 0, .int .u8 0, .int .u8 0, .int .u8 0, .int .u8 0, .int .u8 0, .int .u8 0, .int .u8 0, .int .u8 0, .int .u8 0, .int .u8 0, .int .u8 0, .int .u8 0, .int .u8 0, .int .u8 0, .int .u8 0, .int .u8 0, .int .u8 0, .int .u8 0, .int .u8 0, .int .u8 0, .int .u8 0, .int .u8 0, .int .u8 0, .int .u8 0, .int .u8 0, .int .u8 0, .int .u8 0, .int .u8 0, .int .u8 0, .int .u8 0, .int .u8 0, .int .u8 0, .int .u8 0, .int .u8 0, .int .u8 0, .int .u8 0, .int .u8 0, .int .u8 0, .int .u8 0, .int .u8 0, .int .u8 0, .int .u8 0, .int .u8 0, .int .u8 0, .int .u8 0, .int .u8 0, .int .u8 0, .int .u8 0, .int .u8 0, .int .u8 0, .int .u8 0, .int .u8 0, .int .u8 0, .int .u8 0, .int .u8 0, .int .u8 0, .int .u8 0]⟩ := tok_of (by kernel_rfl)
theorem tok148 : TOK Tryd.prog 148 ⟨.arr 256 5, 256, 256, [.int .u8 0, .int .u8 0, .int .u8 0, .int .u8 0, .int .u8 0, .int .u8 0, .int .u8 0, .int .u8 0, .int .u8 0, .int .u8 0, .int .u8 0, .int .u8 0, .int .u8 0, .int .u8 0, .int .u8 0, .int .u8 0, .int .u8 0, .int .u8 0, .int .u8 0, .int .u8 0, .int .u8 0, .int .u8 0, .int .u8 0, .int .u8 0, .int .u8 0, .int .u8 0, .int .u8 0, .int .u8 0, .int .u8 0, .int .u8 0, .int .u8 0, .int .u8 0, .int .u8 0, .int .u8 0, .int .u8 0, .int .u8 0, .int .u8 0, .int .u8 0, .int .u8 0, .int .u8 0, .int .u8 0, .int .u8 0, .int .u8 0, .int .u8 0, .int .u8 0, .int .u8 0, .int .u8 0, .int .u8 0, .int .u8 0, .int .u8 0, .int .u8 0, .int .u8 0, .int .u8 0, .int .u8 0, .int .u8 0, .int .u8 0, .int .u8 0, .int .u8 0, .int .u8 0, .int .u8 0, .int .u8 0, .int .u8 0, .int .u8 0, .int .u8 0, .int .u8 0, .int .u8 0, .int .u8 0, .int .u8 0, .int .u8 0, .int .u8 0, .int .u8 0, .int .u8 0, .int .u8 0, .int .u8 0, .int .u8 0, .int .u8 0, .int .u8 0, .int .u8 0, .int .u8 0, .int .u8 0, .int .u8 0, .int .u8 0, .int .u8 0, .int .u8 0, .int .u8 0, .int .u8 0, .int .u8 0, .int .u8 0, .int .u8 0, .int .u8 0, .int .u8 0, .int .u8 0, .int .u8 0, .int .u8 0, .int .u8 0, .int .u8 0, .int .u8 0, .int .u8 0, .int .u8 0, .int .u8 0, .int .u8 0, .int .u8 0, .int .u8 0, .int .u8 0, .int .u8 0, .int .u8 0, .int .u8 0, .int .u8 0, .int .u8 0, .int .u8 0, .int .u8 0, .int .u8 0, .int .u8 0, .int .u8 0, .int .u8 0, .int .u8 0, .int .u8 0, .int .u8 0, .int .u8 0, .int .u8 0, .int .u8 0, .int .u8 0, .int .u8 0, .int .u8 0, .int .u8 0, .int .u8 0, .int .u8 0, .int .u8 0, .int .u8 0, .int .u8 0, .int .u8 0, .int .u8 0, .int .u8 0, .int .u8 0, .int .u8 0, .int .u8 0, .int .u8 0, .int .u8 0, .int .u8 0, .int .u8 0, .int .u8 0, .int .u8 0, .int .u8 0, .int .u8 0, .int .u8 0, .int .u8 0, .int .u8 0, .int .u8 0, .int .u8 0, .int .u8 0, .int .u8 0, .int .u8 0, .int .u8 0, .int .u8 0, .int .u8 0, .int .u8 0, .int .u8 0, .int .u8 0, .int .u8 0, .int .u8 0, .int .u8 0, .int .u8 0, .int .u8 0, .int .u8 0, .int .u8 0, .int .u8 0, .int .u8 0, .int .u8 0, .int .u8 0, .int .u8 0, .int .u8 0, .int .u8 0, .int .u8 0, .int .u8 0, .int .u8 0, .int .u8 0, .int .u8 0, .int .u8 0, .int .u8 0, .int .u8 0, .int .u8 0, .int .u8 0, .int .u8 0, .int .u8 0, .int .u8 0, .int .u8 0, .int .u8 0, .int .u8 0, .int .u8 0, .int .u8 0, .int .u8 0, .int .u8 0, .int .u8 0, .int .u8 0, .int .u8 0, .int .u8 0, .int .u8 0, .int .u8 0, .int .u8 0, .int .u8 0, .int .u8 0, .int .u8 0, .int .u8 0, .int .u8 0, .int .u8 0, .int .u8 0, .int .u8 0, .int .u8 0, .int .u8 0, .int .u8 0, .int .u8 0, .int .u8 0, .int .u8 0, .int .u8 0, .int .u8 0, .int .u8 0, .int .u8 0, .int .u8 0, .int .u8 0, .int .u8 0, .int .u8 0, .int .u8 0, .int .u8 0, .int .u8 0, .int .u8 0, .int .u8 0, .int .u8 0, .int .u8 0, .int .u8 0, .int .u8 0, .int .u8 0, .int .u8 0, .int .u8 0, .int .u8 0, .int .u8 0, .int .u8 0, .int .u8 0, .int .u8 0, .int .u8 0, .int .u8 0, .int .u8 0, .int .u8 0, .int .u8 0, .int .u8 0, .int .u8 0, .int .u8 0, .int .u8 0, .int .u8 0, .int .u8 0, .int .u8 0, .int .u8 0, .int .u8 0, .int .u8 0, .int .u8 0, .int .u8 0, .int .u8 0]⟩ := tok_of (by kernel_rfl)
theorem tok149 : TOK Tryd.prog 149 ⟨.st [(0, 5), (1, 5)], 2, 2, [.int .u8 0, .int .u8 0]⟩ := tok_of (by kernel_rfl)
theorem tok150 : TOK Tryd.prog 150 ⟨.st [(0, 5), (1, 5)], 2, 2, [.int .u8 0, .int .u8 0]⟩ := tok_of (by kernel_rfl)
theorem tok151 : TOK Tryd.prog 151 ⟨.arr 16 150, 32, 32, [.int .u8 0, .int .u8 0, .int .u8 0, .int .u8 0, .int .u8 0, .int .u8 0, .int .u8 0, .int .u8 0, .int .u8 0, .int .u8 0, .int .u8 0, .int .u8 0, .int .u8 0, .int .u8 0, .int .u8 0, .int .u8 0, .int .u8 0, .int .u8 0, .int .u8 0, .int .u8 0, .int .u8 0, .int .u8 0, .int .u8 0, .int .u8 0, .int .u8 0, .int .u8 0, .int .u8 0, .int .u8 0, .int .u8 0, .int .u8 0, .int .u8 0, .int .u8 0]⟩ := tok_of (by kernel_rfl)
theorem tok153 : TOK Tryd.prog 153 ⟨.st [(0, 17), (1, 17), (2, 17), (3, 9)], 4, 40, [.nilp, .nilp, .nilp, .str []]⟩ := tok_of (by kernel_rfl)
theorem tok154 : TOK Tryd.prog 154 ⟨.st [(0, 17), (1, 17), (2, 17), (3, 9)], 4, 40, [.nilp, .nilp, .nilp, .str []]⟩ := tok_of (by kernel_rfl)
theorem tok155 : TOK Tryd.prog 155 ⟨.arr 0 16, 0, 0, []⟩ := tok_of (by kernel_rfl)
theorem tok156 : TOK Tryd.prog 156 ⟨.st [(0, 155)], 0, 0, []⟩ := tok_of (by kernel_rfl)
theorem tok157 : TOK Tryd.prog 157 ⟨.st [(0, 155)], 0, 0, []⟩ := tok_of (by kernel_rfl)
theorem tok158 : TOK Tryd.prog 158 ⟨.int .u8, 1, 1, [.int .u8 0]⟩ := tok_of (by kernel_rfl)
theorem tok159 : TOK Tryd.prog 159 ⟨.int .u8, 1, 1, [.int .u8 0]⟩ := tok_of (by kernel_rfl)
theorem tok161 : TOK Tryd.prog 161 ⟨.ptr 5, 1, 8, [.nilp]⟩ := tok_of (by kernel_rfl)
theorem tok162 : TOK Tryd.prog 162 ⟨.int .i32, 1, 4, [.int .i32 0]⟩ := tok_of (by kernel_rfl)
theorem tok163 : TOK Tryd.prog 163 ⟨.int .i32, 1, 4, [.int .i32 0]⟩ := tok_of (by kernel_rfl)
theorem tok164 : TOK Tryd.prog 164 ⟨.st [(0, 12), (1, 12), (2, 130), (3, 158), (4, 5), (5, 5), (6, 159), (7, 160), (8, 161), (9, 162), (10, 163)], 11, 48, [.int .u64 0, .int .u64 0, .int .u32 0, .int .u8 0, .int .u8 0, .int .u8 0, .int .u8 0, .nilf, .nilp, .int .i32 0, .int .i32 0]⟩ := tok_of (by kernel_rfl)
theorem tok165 : TOK Tryd.prog 165 ⟨.st [(0, 12), (1, 12), (2, 130), (3, 158), (4, 5), (5, 5), (6, 159), (7, 160), (8, 161), (9, 162), (10, 163)], 11, 48, [.int .u64 0, .int .u64 0, .int .u32 0, .int .u8 0, .int .u8 0, .int .u8 0, .int .u8 0, .nilf, .nilp, .int .i32 0, .int .i32 0]⟩ := tok_of (by kernel_rfl)
def T : List (Nat × TI) := [(2, ⟨.int .i64, 1, 8, [.int .i64 0]⟩),
  (3, ⟨.int .i64, 1, 8, [.int .i64 0]⟩),
  (4, ⟨.bool, 1, 1, [.bool false]⟩),
  (5, ⟨.int .u8, 1, 1, [.int .u8 0]⟩),
  (6, ⟨.int .u8, 1, 1, [.int .u8 0]⟩),
  (7, ⟨.st [(0, 2), (1, 3), (2, 4), (3, 6)], 4, 24, [.int .i64 0, .int .i64 0, .bool false, .int .u8 0]⟩),
  (8, ⟨.st [(0, 2), (1, 3), (2, 4), (3, 6)], 4, 24, [.int .i64 0, .int .i64 0, .bool false, .int .u8 0]⟩),
  (9, ⟨.str, 1, 16, [.str []]⟩),
  (10, ⟨.str, 1, 16, [.str []]⟩),
  (11, ⟨.str, 1, 16, [.str []]⟩),
  (12, ⟨.int .u64, 1, 8, [.int .u64 0]⟩),
  (13, ⟨.st [(0, 9), (1, 12)], 2, 24, [.str [], .int .u64 0]⟩),
  (14, ⟨.st [(0, 9), (1, 12)], 2, 24, [.str [], .int .u64 0]⟩),
  (15, ⟨.ptr 154, 1, 8, [.nilp]⟩),
  (16, ⟨.ptr 157, 1, 8, [.nilp]⟩),
  (17, ⟨.ptr 165, 1, 8, [.nilp]⟩),
  (18, ⟨.st [(0, 17)], 1, 8, [.nilp]⟩),
  (19, ⟨.st [(0, 17)], 1, 8, [.nilp]⟩),
  (20, ⟨.iface, 1, 16, [.nili]⟩),
  (21, ⟨.int .i32, 1, 4, [.int .i32 0]⟩),
  (22, ⟨.sl 3, 1, 24, [.nils]⟩),
  (25, ⟨.ptr 55, 1, 8, [.nilp]⟩),
  (27, ⟨.sl 34, 1, 24, [.nils]⟩),
  (28, ⟨.st [(0, 3), (1, 9), (2, 27)], 3, 48, [.int .i64 0, .str [], .nils]⟩),
  (29, ⟨.st [(0, 3), (1, 9), (2, 27)], 3, 48, [.int .i64 0, .str [], .nils]⟩),
  (32, ⟨.sl 36, 1, 24, [.nils]⟩),
  (33, ⟨.st [(0, 9), (1, 32)], 2, 40, [.str [], .nils]⟩),
  (34, ⟨.st [(0, 9), (1, 32)], 2, 40, [.str [], .nils]⟩),
  (35, ⟨.st [(0, 4), (1, 9)], 2, 24, [.bool false, .str []]⟩),
  (36, ⟨.st [(0, 4), (1, 9)], 2, 24, [.bool false, .str []]⟩),
  (38, ⟨.sl 29, 1, 24, [.nils]⟩),
  (39, ⟨.st [(0, 3), (1, 3)], 2, 16, [.int .i64 0, .int .i64 0]⟩),
  (40, ⟨.st [(0, 3), (1, 3)], 2, 16, [.int .i64 0, .int .i64 0]⟩),
  (41, ⟨.int .i64, 1, 8, [.int .i64 0]⟩),
  (44, ⟨.sl 93, 1, 24, [.nils]⟩),
  (45, ⟨.st [(0, 3), (1, 44)], 2, 32, [.int .i64 0, .nils]⟩),
  (46, ⟨.st [(0, 3), (1, 44)], 2, 32, [.int .i64 0, .nils]⟩),
  (47, ⟨.st [(0, 40), (2, 3), (3, 9)], 4, 40, [.int .i64 0, .int .i64 0, .int .i64 0, .str []]⟩),
  (48, ⟨.st [(0, 40), (2, 3), (3, 9)], 4, 40, [.int .i64 0, .int .i64 0, .int .i64 0, .str []]⟩),
  (49, ⟨.sl 48, 1, 24, [.nils]⟩),
  (50, ⟨.sl 40, 1, 24, [.nils]⟩),
  (51, ⟨.st [(0, 46), (2, 49), (3, 50)], 4, 80, [.int .i64 0, .nils, .nils, .nils]⟩),
  (52, ⟨.st [(0, 46), (2, 49), (3, 50)], 4, 80, [.int .i64 0, .nils, .nils, .nils]⟩),
  (54, ⟨.st [(0, 22), (1, 3)], 2, 32, [.nils, .int .i64 0]⟩),
  (55, ⟨.st [(0, 22), (1, 3)], 2, 32, [.nils, .int .i64 0]⟩),
  (61, ⟨.sl 22, 1, 24, [.nils]⟩),
  (62, ⟨.map 3 3, 1, 8, [.nilm]⟩),
  (69, ⟨.sl 9, 1, 24, [.nils]⟩),
  (84, ⟨.fn, 1, 8, [.nilf]⟩),
  (86, ⟨.fn, 1, 8, [.nilf]⟩),
  (88, ⟨.ptr 109, 1, 8, [.nilp]⟩),
  (92, ⟨.st [(0, 40), (2, 40)], 4, 32, [.int .i64 0, .int .i64 0, .int .i64 0, .int .i64 0]⟩),
  (93, ⟨.st [(0, 40), (2, 40)], 4, 32, [.int .i64 0, .int .i64 0, .int .i64 0, .int .i64 0]⟩),
  (106, ⟨.sl 113, 1, 24, [.nils]⟩),
  (107, ⟨.sl 112, 1, 24, [.nils]⟩),
  (108, ⟨.st [(0, 107)], 1, 24, [.nils]⟩),
  (109, ⟨.st [(0, 107)], 1, 24, [.nils]⟩),
  (110, ⟨.map 9 3, 1, 8, [.nilm]⟩),
  (111, ⟨.st [(0, 29), (3, 3), (4, 3), (5, 3), (6, 22), (7, 22), (8, 110)], 9, 128, [.int .i64 0, .str [], .nils, .int .i64 0, .int .i64 0, .int .i64 0, .nils, .nils, .nilm]⟩),
  (112, ⟨.st [(0, 29), (3, 3), (4, 3), (5, 3), (6, 22), (7, 22), (8, 110)], 9, 128, [.int .i64 0, .str [], .nils, .int .i64 0, .int .i64 0, .int .i64 0, .nils, .nils, .nilm]⟩),
  (113, ⟨.map 9 22, 1, 8, [.nilm]⟩),
  (115, ⟨.fn, 1, 8, [.nilf]⟩),
  (117, ⟨.arr 24 5, 24, 24, [.int .u8 0, .int .u8 0, .int .u8 0, .int .u8 0, .int .u8 0, .int .u8 0, .int .u8 0, .int .u8 0, .int .u8 0, .int .u8 0, .int .u8 0, .int .u8 0, .int .u8 0, .int .u8 0, .int .u8 0, .int .u8 0, .int .u8 0, .int .u8 0, .int .u8 0, .int .u8 0, .int .u8 0, .int .u8 0, .int .u8 0, .int .u8 0]⟩),
  (118, ⟨.int .u64, 1, 8, [.int .u64 0]⟩),
  (121, ⟨.sl 5, 1, 24, [.nils]⟩),
  (126, ⟨.fn, 1, 8, [.nilf]⟩),
  (129, ⟨.arr 20 118, 20, 160, [.int .u64 0, .int .u64 0, .int .u64 0, .int .u64 0, .int .u64 0, .int .u64 0, .int .u64 0, .int .u64 0, .int .u64 0, .int .u64 0, .int .u64 0, .int .u64 0, .int .u64 0, .int .u64 0, .int .u64 0, .int .u64 0, .int .u64 0, .int .u64 0, .int .u64 0, .int .u64 0]⟩),
  (130, ⟨.int .u32, 1, 4, [.int .u32 0]⟩),
  (131, ⟨.arr 65 5, 65, 65, [.int .u8 0, .int .u8 0, .int .u8 0, .int .u8 0, .int .u8 0, .int .u8 0, .int .u8 0, .int .u8 0, .int .u8 0, .int .u8 0, .int .u8 0, .int .u8 0, .int .u8 0, .int .u8 0, .int .u8 0, .int .u8 0, .int .u8 0, .int .u8 0, .int .u8 0, .int .u8 0, .int .u8 0, .int .u8 0, .int .u8 0, .int .u8 0, .int .u8 0, .int .u8 0, .int .u8 0, .int .u8 0, .int .u8 0, .int .u8 0, .int .u8 0, .int .u8 0, .int .u8 0, .int .u8 0, .int .u8 0, .int .u8 0, .int .u8 0, .int .u8 0, .int .u8 0, .int .u8 0, .int .u8 0, .int .u8 0, .int .u8 0, .int .u8 0, .int .u8 0, .int .u8 0, .int .u8 0, .int .u8 0, .int .u8 0, .int .u8 0, .int .u8 0, .int .u8 0, .int .u8 0, .int .u8 0, .int .u8 0, .int .u8 0, .int .u8 0, .int .u8 0, .int .u8 0, .int .u8 0, .int .u8 0, .int .u8 0, .int .u8 0, .int .u8 0, .int .u8 0]⟩),
  (133, ⟨.int .u64, 1, 8, [.int .u64 0]⟩),
  (137, ⟨.ptr 112, 1, 8, [.nilp]⟩),
  (144, ⟨.arr 32 5, 32, 32, [.int .u8 0, .int .u8 0, .int .u8 0, .int .u8 0, .int .u8 0, .int .u8 0, .int .u8 0, .int .u8 0, .int .u8 0, .int .u8 0, .int .u8 0, .int .u8 0, .int .u8 0, .int .u8 0, .int .u8 0, .int .u8 0, .int .u8 0, .int .u8 0, .int .u8 0, .int .u8 0, .int .u8 0, .int .u8 0, .int .u8 0, .int .u8 0, .int .u8 0, .int .u8 0, .int .u8 0, .int .u8 0, .int .u8 0, .int .u8 0, .int .u8 0, .int .u8 0]⟩),
  (145, ⟨.arr 64 5, 64, 64, [.int .u8 0, .int .u8 0, .int .u8 0, .int .u8 0, .int .u8 0, .int .u8 0, .int .u8 0, .int .u8 0, .int .u8 0, .int .u8 0, .int .u8 0, .int .u8 0, .int .u8 0, .int .u8 0, .int .u8 0, .int .u8 0, .int .u8 0, .int .u8 0, .int .u8 0, .int .u8 0, .int .u8 0, .int .u8 0, .int .u8 0, .int .u8 0, .int .u8 0, .int .u8 0, .int .u8 0, .int .u8 0, .int .u8 0, .int .u8 0, .int .u8 0, .int .u8 0, .int .u8 0, .int .u8 0, .int .u8 0, .int .u8 0, .int .u8 0, .int .u8 0, .int .u8 0, .int .u8 0, .int .u8 0, .int .u8 0, .int .u8 0, .int .u8 0, .int .u8 0, .int .u8 0, .int .u8 0, .int .u8 0, .int .u8 0, .int .u8 0, .int .u8 0, .int .u8 0, .int .u8 0, .int .u8 0, .int .u8 0, .int .u8 0, .int .u8 0, .int .u8 0, .int .u8 0, .int .u8 0, .int .u8 0, .int .u8 0, .int .u8 0, .int .u8 0]⟩),
  (148, ⟨.arr 256 5, 256, 256, [.int .u8 0, .int .u8 0, .int .u8 0, .int .u8 0, .int .u8 0, .int .u8 0, .int .u8 0, .int .u8 0, .int .u8 0, .int .u8 0, .int .u8 0, .int .u8 0, .int .u8 0, .int .u8 0, .int .u8 0, .int .u8 0, .int .u8 0, .int .u8 0, .int .u8 0, .int .u8 0, .int .u8 0, .int .u8 0, .int .u8 0, .int .u8 0, .int .u8 0, .int .u8 0, .int .u8 0, .int .u8 0, .int .u8 0, .int .u8 0, .int .u8 0, .int .u8 0, .int .u8 0, .int .u8 0, .int .u8 0, .int .u8 0, .int .u8 0, .int .u8 0, .int .u8 0, .int .u8 0, .int .u8 0, .int .u8 0, .int .u8 0, .int .u8 0, .int .u8 0, .int .u8 0, .int .u8 0, .int .u8 0, .int .u8 0, .int .u8 0, .int .u8 0, .int .u8 0, .int .u8 0, .int .u8 0, .int .u8 0, .int .u8 0, .int .u8 0, .int .u8 0, .int .u8 0, .int .u8 0, .int .u8 0, .int .u8 0, .int .u8 0, .int .u8 0, .int .u8 0, .int .u8 0, .int .u8 0, .int .u8 0, .int .u8 0, .int .u8 0, .int .u8 0, .int .u8 0, .int .u8 0, .int .u8 0, .int .u8 0, .int .u8 0, .int .u8 0, .int .u8 0, .int .u8 0, .int .u8 0, .int .u8 0, .int .u8 0, .int .u8 0, .int .u8 0, .int .u8 0, .int .u8 0, .int .u8 0, .int .u8 0, .int .u8 0, .int .u8 0, .int .u8 0, .int .u8 0, .int .u8 0, .int .u8 0, .int .u8 0, .int .u8 0, .int .u8 0, .int .u8 0, .int .u8 0, .int .u8 0, .int .u8 0, .int .u8 0, .int .u8 0, .int .u8 0, .int .u8 0, .int .u8 0, .int .u8 0, .int .u8 0, .int .u8 0, .int .u8 0, .int .u8 0, .int .u8 0, .int .u8 0, .int .u8 0, .int .u8 0, .int .u8 0, .int .u8 0, .int .u8 0, .int .u8 0, .int .u8 0, .int .u8 0, .int .u8 0, .int .u8 0, .int .u8 0, .int .u8 0, .int .u8 0, .int .u8 0, .int .u8 0, .int .u8 0, .int .u8 0, .int .u8 0, .int .u8 0, .int .u8 0, .int .u8 0, .int .u8 0, .int .u8 0, .int .u8 0, .int .u8 0, .int .u8 0, .int .u8 0, .int .u8 0, .int .u8 0, .int .u8 0, .int .u8 0, .int .u8 0, .int .u8 0, .int .u8 0, .int .u8 0, .int .u8 0, .int .u8 0, .int .u8 0, .int .u8 0, .int .u8 0, .int .u8 0, .int .u8 0, .int .u8 0, .int .u8 0, .int .u8 0, .int .u8 0, .int .u8 0, .int .u8 0, .int .u8 0, .int .u8 0, .int .u8 0, .int .u8 0, .int .u8 0, .int .u8 0, .int .u8 0, .int .u8 0, .int .u8 0, .int .u8 0, .int .u8 0, .int .u8 0, .int .u8 0, .int .u8 0, .int .u8 0, .int .u8 0, .int .u8 0, .int .u8 0, .int .u8 0, .int .u8 0, .int .u8 0, .int .u8 0, .int .u8 0, .int .u8 0, .int .u8 0, .int .u8 0, .int .u8 0, .int .u8 0, .int .u8 0, .int .u8 0, .int .u8 0, .int .u8 0, .int .u8 0, .int .u8 0, .int .u8 0, .int .u8 0, .int .u8 0, .int .u8 0, .int .u8 0, .int .u8 0, .int .u8 0, .int .u8 0, .int .u8 0, .int .u8 0, .int .u8 0, .int .u8 0, .int .u8 0, .int .u8 0, .int .u8 0, .int .u8 0, .int .u8 0, .int .u8 0, .int .u8 0, .int .u8 0, .int .u8 0, .int .u8 0, .int .u8 0, .int .u8 0, .int .u8 0, .int .u8 0, .int .u8 0, .int .u8 0, .int .u8 0, .int .u8 0, .int .u8 0, .int .u8 0, .int .u8 0, .int .u8 0, .int .u8 0, .int .u8 0, .int .u8 0, .int .u8 0, .int .u8 0, .int .u8 0, .int .u8 0, .int .u8 0, .int .u8 0, .int .u8 0, .int .u8 0, .int .u8 0, .int .u8 0, .int .u8 0, .int .u8 0, .int .u8 0, .int .u8 0, .int .u8 0, .int .u8 0, .int .u8 0, .int .u8 0, .int .u8 0, .int .u8 0, .int .u8 0, .int .u8 0, .int .u8 0, .int .u8 0]⟩),
  (149, ⟨.st [(0, 5), (1, 5)], 2, 2, [.int .u8 0, .int .u8 0]⟩),
  (150, ⟨.st [(0, 5), (1, 5)], 2, 2, [.int .u8 0, .int .u8 0]⟩),
  (151, ⟨.arr 16 150, 32, 32, [.int .u8 0, .int .u8 0, .int .u8 0, .int .u8 0, .int .u8 0, .int .u8 0, .int .u8 0, .int .u8 0, .int .u8 0, .int .u8 0, .int .u8 0, .int .u8 0, .int .u8 0, .int .u8 0, .int .u8 0, .int .u8 0, .int .u8 0, .int .u8 0, .int .u8 0, .int .u8 0, .int .u8 0, .int .u8 0, .int .u8 0, .int .u8 0, .int .u8 0, .int .u8 0, .int .u8 0, .int .u8 0, .int .u8 0, .int .u8 0, .int .u8 0, .int .u8 0]⟩),
  (153, ⟨.st [(0, 17), (1, 17), (2, 17), (3, 9)], 4, 40, [.nilp, .nilp, .nilp, .str []]⟩),
  (154, ⟨.st [(0, 17), (1, 17), (2, 17), (3, 9)], 4, 40, [.nilp, .nilp, .nilp, .str []]⟩),
  (155, ⟨.arr 0 16, 0, 0, []⟩),
  (156, ⟨.st [(0, 155)], 0, 0, []⟩),
  (157, ⟨.st [(0, 155)], 0, 0, []⟩),
  (158, ⟨.int .u8, 1, 1, [.int .u8 0]⟩),
  (159, ⟨.int .u8, 1, 1, [.int .u8 0]⟩),
  (161, ⟨.ptr 5, 1, 8, [.nilp]⟩),
  (162, ⟨.int .i32, 1, 4, [.int .i32 0]⟩),
  (163, ⟨.int .i32, 1, 4, [.int .i32 0]⟩),
  (164, ⟨.st [(0, 12), (1, 12), (2, 130), (3, 158), (4, 5), (5, 5), (6, 159), (7, 160), (8, 161), (9, 162), (10, 163)], 11, 48, [.int .u64 0, .int .u64 0, .int .u32 0, .int .u8 0, .int .u8 0, .int .u8 0, .int .u8 0, .nilf, .nilp, .int .i32 0, .int .i32 0]⟩),
  (165, ⟨.st [(0, 12), (1, 12), (2, 130), (3, 158), (4, 5), (5, 5), (6, 159), (7, 160), (8, 161), (9, 162), (10, 163)], 11, 48, [.int .u64 0, .int .u64 0, .int .u32 0, .int .u8 0, .int .u8 0, .int .u8 0, .int .u8 0, .nilf, .nilp, .int .i32 0, .int .i32 0]⟩)]
set_option maxRecDepth 20000 in
theorem env : Env Tryd.prog T := ⟨table_cons tok2 (table_cons tok3 (table_cons tok4 (table_cons tok5 (table_cons tok6 (table_cons tok7 (table_cons tok8 (table_cons tok9 (table_cons tok10 (table_cons tok11 (table_cons tok12 (table_cons tok13 (table_cons tok14 (table_cons tok15 (table_cons tok16 (table_cons tok17 (table_cons tok18 (table_cons tok19 (table_cons tok20 (table_cons tok21 (table_cons tok22 (table_cons tok25 (table_cons tok27 (table_cons tok28 (table_cons tok29 (table_cons tok32 (table_cons tok33 (table_cons tok34 (table_cons tok35 (table_cons tok36 (table_cons tok38 (table_cons tok39 (table_cons tok40 (table_cons tok41 (table_cons tok44 (table_cons tok45 (table_cons tok46 (table_cons tok47 (table_cons tok48 (table_cons tok49 (table_cons tok50 (table_cons tok51 (table_cons tok52 (table_cons tok54 (table_cons tok55 (table_cons tok61 (table_cons tok62 (table_cons tok69 (table_cons tok84 (table_cons tok86 (table_cons tok88 (table_cons tok92 (table_cons tok93 (table_cons tok106 (table_cons tok107 (table_cons tok108 (table_cons tok109 (table_cons tok110 (table_cons tok111 (table_cons tok112 (table_cons tok113 (table_cons tok115 (table_cons tok117 (table_cons tok118 (table_cons tok121 (table_cons tok126 (table_cons tok129 (table_cons tok130 (table_cons tok131 (table_cons tok133 (table_cons tok137 (table_cons tok144 (table_cons tok145 (table_cons tok148 (table_cons tok149 (table_cons tok150 (table_cons tok151 (table_cons tok153 (table_cons tok154 (table_cons tok155 (table_cons tok156 (table_cons tok157 (table_cons tok158 (table_cons tok159 (table_cons tok161 (table_cons tok162 (table_cons tok163 (table_cons tok164 (table_cons tok165 (table_nil))))))))))))))))))))))))))))))))))))))))))))))))))))))))))))))))))))))))))))))))))))))))), by kernel_rfl⟩
end Go.Sx.Sp
namespace Go.Proofs
open Go.Shelf
def Tryd.laysValid_ren : Go.Shelf.Ren := ⟨fun | 196 => 86 | 259 => 87 | n => n, fun | 9 => 9 | 4 => 4 | 3 => 3 | 5 => 5 | 12 => 12 | 119 => 148 | 0 => 0 | 46 => 133 | 139 => 151 | 138 => 150 | 53 => 118 | n => n, fun | 3 => 3 | 4 => 4 | n => n⟩
theorem Tryd.laysValid : Go.Proofs.Lays.n196 Tryd.prog Tryd.laysValid_ren := {
  mixed := by kernel_rfl
  f196 := Tryd.func86.trans (congrArg some (by kernel_rfl))
  f259 := Tryd.func87.trans (congrArg some (by kernel_rfl))
  t0 := Tryd.underlying0
  a0 := Tryd.isAgg0
  z0 := Tryd.sizeOf0
  v0 := Tryd.zeroValue0
  t3 := Tryd.underlying3
  a3 := Tryd.isAgg3
  z3 := Tryd.sizeOf3
  v3 := Tryd.zeroValue3
  t4 := Tryd.underlying4
  a4 := Tryd.isAgg4
  z4 := Tryd.sizeOf4
  v4 := Tryd.zeroValue4
  t5 := Tryd.underlying5
  a5 := Tryd.isAgg5
  z5 := Tryd.sizeOf5
  v5 := Tryd.zeroValue5
  t9 := Tryd.underlying9
  a9 := Tryd.isAgg9
  z9 := Tryd.sizeOf9
  v9 := Tryd.zeroValue9
  t12 := Tryd.underlying12
  a12 := Tryd.isAgg12
  z12 := Tryd.sizeOf12
  v12 := Tryd.zeroValue12
  t46 := Tryd.underlying133
  a46 := Tryd.isAgg133
  z46 := Tryd.sizeOf133
  v46 := Tryd.zeroValue133
  t53 := Tryd.underlying118
  a53 := Tryd.isAgg118
  z53 := Tryd.sizeOf118
  v53 := Tryd.zeroValue118
  t119 := Tryd.underlying148
  a119 := Tryd.isAgg148
  z119 := Tryd.sizeOf148
  t138 := Tryd.underlying150
  a138 := Tryd.isAgg150
  z138 := Tryd.sizeOf150
  v138 := Tryd.zeroValue150
  t139 := Tryd.underlying151
  a139 := Tryd.isAgg151
  z139 := Tryd.sizeOf151
  v139 := Tryd.zeroValue151
  g3 := by kernel_rfl
  g4 := by kernel_rfl }
def Tryd.laysItoa_ren : Go.Shelf.Ren := ⟨fun | 171 => 24 | 243 => 35 | 246 => 50 | 283 => 61 | 284 => 62 | 285 => 63 | 286 => 64 | 129 => 70 | 317 => 69 | 318 => 71 | 319 => 72 | 320 => 73 | 337 => 77 | 338 => 78 | n => n, fun | 3 => 3 | 9 => 9 | 2 => 2 | 4 => 4 | 171 => 117 | 0 => 0 | 53 => 118 | 37 => 121 | 5 => 5 | 173 => 122 | 212 => 129 | 51 => 130 | 20 => 20 | 213 => 131 | 46 => 133 | 232 => 144 | 233 => 145 | n => n, fun | 17 => 0 | 18 => 1 | 19 => 2 | n => n⟩
theorem Tryd.laysItoa : Go.Proofs.LaysM.n171 Tryd.prog Tryd.laysItoa_ren := {
  mixed := by kernel_rfl
  f129 := Tryd.func70.trans (congrArg some (by kernel_rfl))
  f171 := Tryd.func24.trans (congrArg some (by kernel_rfl))
  f243 := Tryd.func35.trans (congrArg some (by kernel_rfl))
  f246 := Tryd.func50.trans (congrArg some (by kernel_rfl))
  f283 := Tryd.func61.trans (congrArg some (by kernel_rfl))
  f284 := Tryd.func62.trans (congrArg some (by kernel_rfl))
  f285 := Tryd.func63.trans (congrArg some (by kernel_rfl))
  f286 := Tryd.func64.trans (congrArg some (by kernel_rfl))
  f317 := Tryd.func69.trans (congrArg some (by kernel_rfl))
  f318 := Tryd.func71.trans (congrArg some (by kernel_rfl))
  f319 := Tryd.func72.trans (congrArg some (by kernel_rfl))
  f320 := Tryd.func73.trans (congrArg some (by kernel_rfl))
  f337 := Tryd.func77.trans (congrArg some (by kernel_rfl))
  f338 := Tryd.func78.trans (congrArg some (by kernel_rfl))
  t0 := Tryd.underlying0
  a0 := Tryd.isAgg0
  z0 := Tryd.sizeOf0
  v0 := Tryd.zeroValue0
  t2 := Tryd.underlying2
  a2 := Tryd.isAgg2
  z2 := Tryd.sizeOf2
  v2 := Tryd.zeroValue2
  t3 := Tryd.underlying3
  a3 := Tryd.isAgg3
  z3 := Tryd.sizeOf3
  v3 := Tryd.zeroValue3
  t4 := Tryd.underlying4
  a4 := Tryd.isAgg4
  z4 := Tryd.sizeOf4
  v4 := Tryd.zeroValue4
  t5 := Tryd.underlying5
  a5 := Tryd.isAgg5
  z5 := Tryd.sizeOf5
  v5 := Tryd.zeroValue5
  t9 := Tryd.underlying9
  a9 := Tryd.isAgg9
  z9 := Tryd.sizeOf9
  v9 := Tryd.zeroValue9
  t20 := Tryd.underlying20
  a20 := Tryd.isAgg20
  z20 := Tryd.sizeOf20
  v20 := Tryd.zeroValue20
  t37 := Tryd.underlying121
  a37 := Tryd.isAgg121
  z37 := Tryd.sizeOf121
  v37 := Tryd.zeroValue121
  t46 := Tryd.underlying133
  a46 := Tryd.isAgg133
  z46 := Tryd.sizeOf133
  v46 := Tryd.zeroValue133
  t51 := Tryd.underlying130
  a51 := Tryd.isAgg130
  z51 := Tryd.sizeOf130
  v51 := Tryd.zeroValue130
  t53 := Tryd.underlying118
  a53 := Tryd.isAgg118
  z53 := Tryd.sizeOf118
  v53 := Tryd.zeroValue118
  t171 := Tryd.underlying117
  a171 := Tryd.isAgg117
  z171 := Tryd.sizeOf117
  v171 := Tryd.zeroValue117
  t173 := Tryd.underlying122
  a173 := Tryd.isAgg122
  z173 := Tryd.sizeOf122
  v173 := Tryd.zeroValue122
  t212 := Tryd.underlying129
  a212 := Tryd.isAgg129
  z212 := Tryd.sizeOf129
  v212 := Tryd.zeroValue129
  t213 := Tryd.underlying131
  a213 := Tryd.isAgg131
  z213 := Tryd.sizeOf131
  t232 := Tryd.underlying144
  a232 := Tryd.isAgg144
  z232 := Tryd.sizeOf144
  v232 := Tryd.zeroValue144
  t233 := Tryd.underlying145
  a233 := Tryd.isAgg145
  z233 := Tryd.sizeOf145
  v233 := Tryd.zeroValue145
  g17 := by kernel_rfl
  g18 := by kernel_rfl
  g19 := by kernel_rfl
  i0 := by kernel_rfl
  i2 := by kernel_rfl
  i3 := by kernel_rfl
  i4 := by kernel_rfl
  i5 := by kernel_rfl
  i9 := by kernel_rfl
  i20 := by kernel_rfl
  i37 := by kernel_rfl
  i46 := by kernel_rfl
  i51 := by kernel_rfl
  i53 := by kernel_rfl
  i171 := by kernel_rfl
  i173 := by kernel_rfl
  i212 := by kernel_rfl
  i232 := by kernel_rfl
  i233 := by kernel_rfl
  m17 := by kernel_rfl
  m18 := by kernel_rfl
  m19 := by kernel_rfl }
end Go.Proofs
namespace Go.Sx.Sp
open Go Go.Sx Go.Proofs Go.RowKit Go.Sort
def tabsOK (w : World) : Prop := Lib.Utf8Tabs 3 4 w ∧ Lib.TabIs Tryd.prog w "internal/strconv.uint64pow10" .u64 Lib.pow10Tab
instance : Glob := ⟨tabsOK, [3, 4, 0], False, fun w w' hs h => by
  have h0 := hs 3 (by simp)
  have h1 := hs 4 (by simp)
  have h3 := hs 0 (by simp)
  refine ⟨⟨fun c hc => ?_, fun i hi => ?_⟩, ?_⟩
  · rw [cell?_of_heap h0]; exact h.1.1 c hc
  · rw [cell?_of_heap h1, cell?_of_heap h1]; exact h.1.2 i hi
  · have hg : Tryd.prog.globalNamed "internal/strconv.uint64pow10" = some 0 := by kernel_rfl
    have := h.2
    simp only [Lib.TabIs, World.var?, hg, Option.bind_some] at this ⊢
    rw [h3]; exact this⟩
set_option maxRecDepth 1000000 in
theorem utf8_spec (s : List UInt8) : Spec Tryd.prog 86 [.str s] [] (.bool (Lib.validD s)) [] := by
  refine Spec.ofCalls (fun cargs w => enters_of Tryd.func86 (by kernel_rfl) rfl cargs w) fun w F m cargs hl ha hg => ?_
  match cargs, hl with
  | [c], _ =>
    obtain ⟨rfl, hs⟩ := (ha 0 (.str s) c rfl rfl).str_inv
    have hsz : (⟨s.toArray⟩ : ByteArray).size ≤ 9223372036854775807 := by
      have : maxLen = 9223372036854775807 := by unfold maxLen; rfl
      simpa [ByteArray.size, this] using hs
    refine (Any.utf8_ValidString Tryd.laysValid ⟨s.toArray⟩ w hsz hg.1).mono fun e w' ⟨he, hb⟩ => ?_
    exact ⟨_, he, fun w' F m => .bool _, hb, fun h => h.elim⟩
theorem below_grown (w : World) (k : Nat) (os : Array Obj) : Below w.heap.size w (grow (w.drewN k) os) :=
  ⟨rfl, rfl, rfl, by show w.heap.size ≤ (w.heap ++ os).size; rw [Array.size_append]; omega, fun b hb => by show (w.heap ++ os)[b]? = w.heap[b]?; rw [Array.getElem?_append_left hb]⟩
set_option maxRecDepth 1000000 in
theorem itoa_spec (n : Int) (h0 : -9223372036854775808 ≤ n) (h1 : n ≤ 9223372036854775807) (hn : (Lib.itoa n).length ≤ 100) : Spec Tryd.prog 24 [.int .i64 n] [] (.str (Lib.itoa n)) [] := by
  refine Spec.ofCalls (fun cargs w => enters_of Tryd.func24 (by kernel_rfl) rfl cargs w) fun w F m cargs hl ha hg => ?_
  match cargs, hl with
  | [c], _ =>
    have := (ha 0 (.int .i64 n) c rfl rfl).int_inv
    subst this
    refine (Any.strconv_Itoa Tryd.laysItoa n h0 h1 w hg.2).mono fun e w' ⟨he, k, os, hb⟩ => ?_
    subst hb
    exact ⟨_, he, fun w' F m => .str _ (by have : maxLen = 9223372036854775807 := by unfold maxLen; rfl
                                           omega), below_grown w k os, fun h => h.elim⟩
end Go.Sx.Sp
