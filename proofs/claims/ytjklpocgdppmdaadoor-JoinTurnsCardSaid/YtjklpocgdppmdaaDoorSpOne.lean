/- Types of the program, and library functions. -/
import Derived.Test.YtjklpocgdppmdaaDoorSxThree
import Derived.Test.YtjklpocgdppmdaaDoorProg
import Derived.Test.YtjklpocgdppmdaaDoorSxFour
import Derived.Test.YtjklpocgdppmdaaDoorSxFive
import Derived.Shelf.Unicode.ValidAny
import Derived.Lib.LaidTab
set_option linter.unusedVariables false
set_option linter.unusedSimpArgs false
namespace Go.Sx.Sp
open Go Go.Sx Go.Proofs
theorem tok1 : TOK Tryd.prog 1 ⟨.fn, 1, 8, [.nilf]⟩ := tok_of (by kernel_rfl)
theorem tok2 : TOK Tryd.prog 2 ⟨.int .i64, 1, 8, [.int .i64 0]⟩ := tok_of (by kernel_rfl)
theorem tok3 : TOK Tryd.prog 3 ⟨.int .i64, 1, 8, [.int .i64 0]⟩ := tok_of (by kernel_rfl)
theorem tok4 : TOK Tryd.prog 4 ⟨.bool, 1, 1, [.bool false]⟩ := tok_of (by kernel_rfl)
theorem tok5 : TOK Tryd.prog 5 ⟨.int .u8, 1, 1, [.int .u8 0]⟩ := tok_of (by kernel_rfl)
theorem tok6 : TOK Tryd.prog 6 ⟨.int .u8, 1, 1, [.int .u8 0]⟩ := tok_of (by kernel_rfl)
theorem tok7 : TOK Tryd.prog 7 ⟨.st [(0, 2), (1, 3), (2, 4), (3, 6)], 4, 24, [.int .i64 0, .int .i64 0, .bool false, .int .u8 0]⟩ := tok_of (by kernel_rfl)
theorem tok8 : TOK Tryd.prog 8 ⟨.st [(0, 2), (1, 3), (2, 4), (3, 6)], 4, 24, [.int .i64 0, .int .i64 0, .bool false, .int .u8 0]⟩ := tok_of (by kernel_rfl)
theorem tok9 : TOK Tryd.prog 9 ⟨.str, 1, 16, [.str []]⟩ := tok_of (by kernel_rfl)
theorem tok10 : TOK Tryd.prog 10 ⟨.str, 1, 16, [.str []]⟩ := tok_of (by kernel_rfl)
theorem tok11 : TOK Tryd.prog 11 ⟨.str, 1, 16, [.str []]⟩ := tok_of (by kernel_rfl)
theorem tok12 : TOK Tryd.prog 12 ⟨.int .u64, 1, 8, [.int .u64 0]⟩ := tok_of (by kernel_rfl)
theorem tok13 : TOK Tryd.prog 13 ⟨.st [(0, 9), (1, 12)], 2, 24, [.str [], .int .u64 0]⟩ := tok_of (by kernel_rfl)
theorem tok14 : TOK Tryd.prog 14 ⟨.st [(0, 9), (1, 12)], 2, 24, [.str [], .int .u64 0]⟩ := tok_of (by kernel_rfl)
theorem tok15 : TOK Tryd.prog 15 ⟨.ptr 120, 1, 8, [.nilp]⟩ := tok_of (by kernel_rfl)
theorem tok16 : TOK Tryd.prog 16 ⟨.ptr 123, 1, 8, [.nilp]⟩ := tok_of (by kernel_rfl)
theorem tok17 : TOK Tryd.prog 17 ⟨.ptr 132, 1, 8, [.nilp]⟩ := tok_of (by kernel_rfl)
theorem tok18 : TOK Tryd.prog 18 ⟨.st [(0, 17)], 1, 8, [.nilp]⟩ := tok_of (by kernel_rfl)
theorem tok19 : TOK Tryd.prog 19 ⟨.st [(0, 17)], 1, 8, [.nilp]⟩ := tok_of (by kernel_rfl)
theorem tok20 : TOK Tryd.prog 20 ⟨.iface, 1, 16, [.nili]⟩ := tok_of (by kernel_rfl)
theorem tok21 : TOK Tryd.prog 21 ⟨.int .i32, 1, 4, [.int .i32 0]⟩ := tok_of (by kernel_rfl)
theorem tok22 : TOK Tryd.prog 22 ⟨.sl 3, 1, 24, [.nils]⟩ := tok_of (by kernel_rfl)
theorem tok23 : TOK Tryd.prog 23 ⟨.fn, 1, 8, [.nilf]⟩ := tok_of (by kernel_rfl)
theorem tok24 : TOK Tryd.prog 24 ⟨.fn, 1, 8, [.nilf]⟩ := tok_of (by kernel_rfl)
theorem tok25 : TOK Tryd.prog 25 ⟨.ptr 52, 1, 8, [.nilp]⟩ := tok_of (by kernel_rfl)
theorem tok26 : TOK Tryd.prog 26 ⟨.fn, 1, 8, [.nilf]⟩ := tok_of (by kernel_rfl)
theorem tok27 : TOK Tryd.prog 27 ⟨.sl 36, 1, 24, [.nils]⟩ := tok_of (by kernel_rfl)
theorem tok28 : TOK Tryd.prog 28 ⟨.fn, 1, 8, [.nilf]⟩ := tok_of (by kernel_rfl)
theorem tok29 : TOK Tryd.prog 29 ⟨.st [(0, 3), (1, 3)], 2, 16, [.int .i64 0, .int .i64 0]⟩ := tok_of (by kernel_rfl)
theorem tok30 : TOK Tryd.prog 30 ⟨.st [(0, 3), (1, 3)], 2, 16, [.int .i64 0, .int .i64 0]⟩ := tok_of (by kernel_rfl)
theorem tok31 : TOK Tryd.prog 31 ⟨.st [(0, 30), (2, 30)], 4, 32, [.int .i64 0, .int .i64 0, .int .i64 0, .int .i64 0]⟩ := tok_of (by kernel_rfl)
theorem tok32 : TOK Tryd.prog 32 ⟨.st [(0, 30), (2, 30)], 4, 32, [.int .i64 0, .int .i64 0, .int .i64 0, .int .i64 0]⟩ := tok_of (by kernel_rfl)
theorem tok33 : TOK Tryd.prog 33 ⟨.fn, 1, 8, [.nilf]⟩ := tok_of (by kernel_rfl)
theorem tok34 : TOK Tryd.prog 34 ⟨.sl 56, 1, 24, [.nils]⟩ := tok_of (by kernel_rfl)
theorem tok35 : TOK Tryd.prog 35 ⟨.st [(0, 3), (1, 9), (2, 34)], 3, 48, [.int .i64 0, .str [], .nils]⟩ := tok_of (by kernel_rfl)
theorem tok36 : TOK Tryd.prog 36 ⟨.st [(0, 3), (1, 9), (2, 34)], 3, 48, [.int .i64 0, .str [], .nils]⟩ := tok_of (by kernel_rfl)
theorem tok37 : TOK Tryd.prog 37 ⟨.sl 22, 1, 24, [.nils]⟩ := tok_of (by kernel_rfl)
theorem tok38 : TOK Tryd.prog 38 ⟨.int .i64, 1, 8, [.int .i64 0]⟩ := tok_of (by kernel_rfl)
theorem tok40 : TOK Tryd.prog 40 ⟨.fn, 1, 8, [.nilf]⟩ := tok_of (by kernel_rfl)
theorem tok41 : TOK Tryd.prog 41 ⟨.sl 32, 1, 24, [.nils]⟩ := tok_of (by kernel_rfl)
theorem tok42 : TOK Tryd.prog 42 ⟨.st [(0, 3), (1, 41)], 2, 32, [.int .i64 0, .nils]⟩ := tok_of (by kernel_rfl)
theorem tok43 : TOK Tryd.prog 43 ⟨.st [(0, 3), (1, 41)], 2, 32, [.int .i64 0, .nils]⟩ := tok_of (by kernel_rfl)
theorem tok44 : TOK Tryd.prog 44 ⟨.map 45 4, 1, 8, [.nilm]⟩ := tok_of (by kernel_rfl)
theorem tok45 : TOK Tryd.prog 45 ⟨.arr 3 3, 3, 24, [.int .i64 0, .int .i64 0, .int .i64 0]⟩ := tok_of (by kernel_rfl)
theorem tok46 : TOK Tryd.prog 46 ⟨.fn, 1, 8, [.nilf]⟩ := tok_of (by kernel_rfl)
theorem tok48 : TOK Tryd.prog 48 ⟨.fn, 1, 8, [.nilf]⟩ := tok_of (by kernel_rfl)
theorem tok49 : TOK Tryd.prog 49 ⟨.fn, 1, 8, [.nilf]⟩ := tok_of (by kernel_rfl)
theorem tok50 : TOK Tryd.prog 50 ⟨.fn, 1, 8, [.nilf]⟩ := tok_of (by kernel_rfl)
theorem tok51 : TOK Tryd.prog 51 ⟨.st [(0, 22), (1, 3)], 2, 32, [.nils, .int .i64 0]⟩ := tok_of (by kernel_rfl)
theorem tok52 : TOK Tryd.prog 52 ⟨.st [(0, 22), (1, 3)], 2, 32, [.nils, .int .i64 0]⟩ := tok_of (by kernel_rfl)
theorem tok53 : TOK Tryd.prog 53 ⟨.fn, 1, 8, [.nilf]⟩ := tok_of (by kernel_rfl)
theorem tok54 : TOK Tryd.prog 54 ⟨.sl 58, 1, 24, [.nils]⟩ := tok_of (by kernel_rfl)
theorem tok55 : TOK Tryd.prog 55 ⟨.st [(0, 9), (1, 54)], 2, 40, [.str [], .nils]⟩ := tok_of (by kernel_rfl)
theorem tok56 : TOK Tryd.prog 56 ⟨.st [(0, 9), (1, 54)], 2, 40, [.str [], .nils]⟩ := tok_of (by kernel_rfl)
theorem tok57 : TOK Tryd.prog 57 ⟨.st [(0, 4), (1, 9)], 2, 24, [.bool false, .str []]⟩ := tok_of (by kernel_rfl)
theorem tok58 : TOK Tryd.prog 58 ⟨.st [(0, 4), (1, 9)], 2, 24, [.bool false, .str []]⟩ := tok_of (by kernel_rfl)
theorem tok59 : TOK Tryd.prog 59 ⟨.fn, 1, 8, [.nilf]⟩ := tok_of (by kernel_rfl)
theorem tok60 : TOK Tryd.prog 60 ⟨.ptr 77, 1, 8, [.nilp]⟩ := tok_of (by kernel_rfl)
theorem tok62 : TOK Tryd.prog 62 ⟨.fn, 1, 8, [.nilf]⟩ := tok_of (by kernel_rfl)
theorem tok63 : TOK Tryd.prog 63 ⟨.fn, 1, 8, [.nilf]⟩ := tok_of (by kernel_rfl)
theorem tok64 : TOK Tryd.prog 64 ⟨.fn, 1, 8, [.nilf]⟩ := tok_of (by kernel_rfl)
theorem tok65 : TOK Tryd.prog 65 ⟨.map 9 22, 1, 8, [.nilm]⟩ := tok_of (by kernel_rfl)
theorem tok66 : TOK Tryd.prog 66 ⟨.fn, 1, 8, [.nilf]⟩ := tok_of (by kernel_rfl)
theorem tok67 : TOK Tryd.prog 67 ⟨.fn, 1, 8, [.nilf]⟩ := tok_of (by kernel_rfl)
theorem tok68 : TOK Tryd.prog 68 ⟨.fn, 1, 8, [.nilf]⟩ := tok_of (by kernel_rfl)
theorem tok69 : TOK Tryd.prog 69 ⟨.ptr 36, 1, 8, [.nilp]⟩ := tok_of (by kernel_rfl)
theorem tok70 : TOK Tryd.prog 70 ⟨.sl 9, 1, 24, [.nils]⟩ := tok_of (by kernel_rfl)
theorem tok71 : TOK Tryd.prog 71 ⟨.fn, 1, 8, [.nilf]⟩ := tok_of (by kernel_rfl)
theorem tok72 : TOK Tryd.prog 72 ⟨.fn, 1, 8, [.nilf]⟩ := tok_of (by kernel_rfl)
theorem tok73 : TOK Tryd.prog 73 ⟨.fn, 1, 8, [.nilf]⟩ := tok_of (by kernel_rfl)
theorem tok74 : TOK Tryd.prog 74 ⟨.sl 65, 1, 24, [.nils]⟩ := tok_of (by kernel_rfl)
theorem tok75 : TOK Tryd.prog 75 ⟨.sl 80, 1, 24, [.nils]⟩ := tok_of (by kernel_rfl)
theorem tok76 : TOK Tryd.prog 76 ⟨.st [(0, 75)], 1, 24, [.nils]⟩ := tok_of (by kernel_rfl)
theorem tok77 : TOK Tryd.prog 77 ⟨.st [(0, 75)], 1, 24, [.nils]⟩ := tok_of (by kernel_rfl)
theorem tok78 : TOK Tryd.prog 78 ⟨.map 9 3, 1, 8, [.nilm]⟩ := tok_of (by kernel_rfl)
theorem tok79 : TOK Tryd.prog 79 ⟨.st [(0, 36), (3, 3), (4, 3), (5, 3), (6, 22), (7, 22), (8, 78)], 9, 128, [.int .i64 0, .str [], .nils, .int .i64 0, .int .i64 0, .int .i64 0, .nils, .nils, .nilm]⟩ := tok_of (by kernel_rfl)
theorem tok80 : TOK Tryd.prog 80 ⟨.st [(0, 36), (3, 3), (4, 3), (5, 3), (6, 22), (7, 22), (8, 78)], 9, 128, [.int .i64 0, .str [], .nils, .int .i64 0, .int .i64 0, .int .i64 0, .nils, .nils, .nilm]⟩ := tok_of (by kernel_rfl)
theorem tok81 : TOK Tryd.prog 81 ⟨.fn, 1, 8, [.nilf]⟩ := tok_of (by kernel_rfl)
theorem tok82 : TOK Tryd.prog 82 ⟨.fn, 1, 8, [.nilf]⟩ := tok_of (by kernel_rfl)
theorem tok83 : TOK Tryd.prog 83 ⟨.fn, 1, 8, [.nilf]⟩ := tok_of (by kernel_rfl)
theorem tok84 : TOK Tryd.prog 84 ⟨.fn, 1, 8, [.nilf]⟩ := tok_of (by kernel_rfl)
theorem tok85 : TOK Tryd.prog 85 ⟨.fn, 1, 8, [.nilf]⟩ := tok_of (by kernel_rfl)
theorem tok86 : TOK Tryd.prog 86 ⟨.fn, 1, 8, [.nilf]⟩ := tok_of (by kernel_rfl)
theorem tok87 : TOK Tryd.prog 87 ⟨.fn, 1, 8, [.nilf]⟩ := tok_of (by kernel_rfl)
theorem tok88 : TOK Tryd.prog 88 ⟨.fn, 1, 8, [.nilf]⟩ := tok_of (by kernel_rfl)
theorem tok89 : TOK Tryd.prog 89 ⟨.fn, 1, 8, [.nilf]⟩ := tok_of (by kernel_rfl)
theorem tok90 : TOK Tryd.prog 90 ⟨.fn, 1, 8, [.nilf]⟩ := tok_of (by kernel_rfl)
theorem tok91 : TOK Tryd.prog 91 ⟨.map 3 3, 1, 8, [.nilm]⟩ := tok_of (by kernel_rfl)
theorem tok93 : TOK Tryd.prog 93 ⟨.fn, 1, 8, [.nilf]⟩ := tok_of (by kernel_rfl)
theorem tok94 : TOK Tryd.prog 94 ⟨.fn, 1, 8, [.nilf]⟩ := tok_of (by kernel_rfl)
theorem tok95 : TOK Tryd.prog 95 ⟨.fn, 1, 8, [.nilf]⟩ := tok_of (by kernel_rfl)
theorem tok96 : TOK Tryd.prog 96 ⟨.fn, 1, 8, [.nilf]⟩ := tok_of (by kernel_rfl)
theorem tok97 : TOK Tryd.prog 97 ⟨.fn, 1, 8, [.nilf]⟩ := tok_of (by kernel_rfl)
theorem tok99 : TOK Tryd.prog 99 ⟨.fn, 1, 8, [.nilf]⟩ := tok_of (by kernel_rfl)
theorem tok100 : TOK Tryd.prog 100 ⟨.fn, 1, 8, [.nilf]⟩ := tok_of (by kernel_rfl)
theorem tok101 : TOK Tryd.prog 101 ⟨.fn, 1, 8, [.nilf]⟩ := tok_of (by kernel_rfl)
theorem tok102 : TOK Tryd.prog 102 ⟨.fn, 1, 8, [.nilf]⟩ := tok_of (by kernel_rfl)
theorem tok103 : TOK Tryd.prog 103 ⟨.fn, 1, 8, [.nilf]⟩ := tok_of (by kernel_rfl)
theorem tok104 : TOK Tryd.prog 104 ⟨.fn, 1, 8, [.nilf]⟩ := tok_of (by kernel_rfl)
theorem tok105 : TOK Tryd.prog 105 ⟨.fn, 1, 8, [.nilf]⟩ := tok_of (by kernel_rfl)
theorem tok106 : TOK Tryd.prog 106 ⟨.ptr 80, 1, 8, [.nilp]⟩ := tok_of (by kernel_rfl)
theorem tok107 : TOK Tryd.prog 107 ⟨.fn, 1, 8, [.nilf]⟩ := tok_of (by kernel_rfl)
theorem tok108 : TOK Tryd.prog 108 ⟨.fn, 1, 8, [.nilf]⟩ := tok_of (by kernel_rfl)
theorem tok109 : TOK Tryd.prog 109 ⟨.fn, 1, 8, [.nilf]⟩ := tok_of (by kernel_rfl)
theorem tok110 : TOK Tryd.prog 110 ⟨.fn, 1, 8, [.nilf]⟩ := tok_of (by kernel_rfl)
theorem tok111 : TOK Tryd.prog 111 ⟨.fn, 1, 8, [.nilf]⟩ := tok_of (by kernel_rfl)
theorem tok112 : TOK Tryd.prog 112 ⟨.arr 256 5, 256, 256, [.int .u8 0, .int .u8 0, .int .u8 0, .int .u8 0, .int .u8 0, .int .u8 0, .int .u8 0, .int .u8 0, .int .u8 0, .int .u8 0, .int .u8 0, .int .u8 0, .int .u8 0, .int .u8 0, .int .u8 0, .int .u8 0, .int .u8 0, .int .u8 0, .int .u8 0, .int .u8 0, .int .u8 0, .int .u8 0, .int .u8 0, .int .u8 0, .int .u8 0, .int .u8 0, .int .u8 0, .int .u8 0, .int .u8 0, .int .u8 0, .int .u8 0, .int .u8 0, .int .u8 0, .int .u8 0, .int .u8 0, .int .u8 0, .int .u8 0, .int .u8 0, .int .u8 0, .int .u8 0, .int .u8 0, .int .u8 0, .int .u8 0, .int .u8 0, .int .u8 0, .int .u8 0, .int .u8 0, .int .u8 0, .int .u8 0, .int .u8 0, .int .u8 0, .int .u8 0, .int .u8 0, .int .u8 0, .int .u8 0, .int .u8 0, .int .u8 0, .int .u8 0, .int .u8 0, .int .u8 0, .int .u8 0, .int .u8 0, .int .u8 0, .int .u8 0, .int .u8 0, .int .u8 0, .int .u8 0, .int .u8 0, .int .u8 0, .int .u8 0, .int .u8 0, .int .u8 0, .int .u8 0, .int .u8 0, .int .u8 0, .int .u8 0, .int .u8 0, .int .u8 0, .int .u8 0, .int .u8 0, .int .u8 0, .int .u8 0, .int .u8 0, .int .u8 0, .int .u8 0, .int .u8 0, .int .u8 0, .int .u8 0, .int .u8 0, .int .u8 0, .int .u8 0, .int .u8 0, .int .u8 0, .int .u8 0, .int .u8 0, .int .u8 0, .int .u8 0, .int .u8 0, .int .u8 0, .int .u8 0, .int .u8 0, .int .u8 0, .int .u8 0, .int .u8 0, .int .u8 0, .int .u8 0, .int .u8 0, .int .u8 0, .int .u8 0, .int .u8 0, .int .u8 0, .int .u8 0, .int .u8 0, .int .u8 0, .int .u8 0, .int .u8 0, .int .u8 0, .int .u8 0, .int .u8 0, .int .u8 0, .int .u8 0, .int .u8 0, .int .u8 0, .int .u8 0, .int .u8 0, .int .u8 0, .int .u8 0, .int .u8 0, .int .u8 0, .int .u8 0, .int .u8 0, .int .u8 0, .int .u8 0, .int .u8 0, .int .u8 0, .int .u8 0, .int .u8 0, .int .u8 0, .int .u8 0, .int .u8 0, .int .u8 0, .int .u8 0, .int .u8 0, .int .u8 0, .int .u8 0, .int .u8 0, .int .u8 0, .int .u8 0, .int .u8 0, .int .u8 0, .int .u8 0, .int .u8 0, .int .u8 0, .int .u8 0, .int .u8 0, .int .u8 0, .int .u8 0, .int .u8 0, .int .u8 0, .int .u8 0, .int .u8 0, .int .u8 0, .int .u8 0, .int .u8 0, .int .u8 0, .int .u8 0, .int .u8 0, .int .u8 0, .int .u8 0, .int .u8 0, .int .u8 0, .int .u8 0, .int .u8 0, .int .u8 0, .int .u8 0, .int .u8 0, .int .u8 0, .int .u8 0, .int .u8 0, .int .u8 0, .int .u8 0, .int .u8 0, .int .u8 0, .int .u8 0, .int .u8 0, .int .u8 0, .int .u8 0, .int .u8 0, .int .u8 0, .int .u8 0, .int .u8 0, .int .u8 0, .int .u8 0, .int .u8 0, .int .u8 0, .int .u8 0, .int .u8 0, .int .u8 0, .int .u8 0, .int .u8 0, .int .u8 0, .int .u8 0, .int .u8 0, .int .u8 0, .int .u8 0, .int .u8 0, .int .u8 0, .int .u8 0, .int .u8 0, .int .u8 0, .int .u8 0, .int .u8 0, .int .u8 0, .int .u8 0, .int .u8 0, .int .u8 0, .int .u8 0, .int .u8 0, .int .u8 0, .int .u8 0, .int .u8 0, .int .u8 0, .int .u8 0, .int .u8 0, .int .u8 0, .int .u8 0, .int .u8 0, .int .u8 0, .int .u8 0, .int .u8 0, .int .u8 0, .int .u8 0, .int .u8 0, .int .u8 0, .int .u8 0, .int .u8 0, .int .u8 0, .int .u8 0, .int .u8 0, .int .u8 0, .int .u8 0, .int .u8 0, .int .u8 0, .int .u8 0, .int .u8 0, .int .u8 0, .int .u8 0, .int .u8 0, .int .u8 0, .int .u8 0, .int .u8 0, .int .u8 0, .int .u8 0, .int .u8 0, .int .u8 0, .int .u8 0]⟩ := tok_of (by kernel_rfl)
theorem tok113 : TOK Tryd.prog 113 ⟨.st [(0, 5), (1, 5)], 2, 2, [.int .u8 0, .int .u8 0]⟩ := tok_of (by kernel_rfl)
theorem tok114 : TOK Tryd.prog 114 ⟨.st [(0, 5), (1, 5)], 2, 2, [.int .u8 0, .int .u8 0]⟩ := tok_of (by kernel_rfl)
theorem tok115 : TOK Tryd.prog 115 ⟨.arr 16 114, 32, 32, [.int .u8 0, .int .u8 0, .int .u8 0, .int .u8 0, .int .u8 0, .int .u8 0, .int .u8 0, .int .u8 0, .int .u8 0, .int .u8 0, .int .u8 0, .int .u8 0, .int .u8 0, .int .u8 0, .int .u8 0, .int .u8 0, .int .u8 0, .int .u8 0, .int .u8 0, .int .u8 0, .int .u8 0, .int .u8 0, .int .u8 0, .int .u8 0, .int .u8 0, .int .u8 0, .int .u8 0, .int .u8 0, .int .u8 0, .int .u8 0, .int .u8 0, .int .u8 0]⟩ := tok_of (by kernel_rfl)
theorem tok116 : TOK Tryd.prog 116 ⟨.int .u64, 1, 8, [.int .u64 0]⟩ := tok_of (by kernel_rfl)
theorem tok117 : TOK Tryd.prog 117 ⟨.int .u64, 1, 8, [.int .u64 0]⟩ := tok_of (by kernel_rfl)
theorem tok118 : TOK Tryd.prog 118 ⟨.fn, 1, 8, [.nilf]⟩ := tok_of (by kernel_rfl)
theorem tok119 : TOK Tryd.prog 119 ⟨.st [(0, 17), (1, 17), (2, 17), (3, 9)], 4, 40, [.nilp, .nilp, .nilp, .str []]⟩ := tok_of (by kernel_rfl)
theorem tok120 : TOK Tryd.prog 120 ⟨.st [(0, 17), (1, 17), (2, 17), (3, 9)], 4, 40, [.nilp, .nilp, .nilp, .str []]⟩ := tok_of (by kernel_rfl)
theorem tok121 : TOK Tryd.prog 121 ⟨.arr 0 16, 0, 0, []⟩ := tok_of (by kernel_rfl)
theorem tok122 : TOK Tryd.prog 122 ⟨.st [(0, 121)], 0, 0, []⟩ := tok_of (by kernel_rfl)
theorem tok123 : TOK Tryd.prog 123 ⟨.st [(0, 121)], 0, 0, []⟩ := tok_of (by kernel_rfl)
theorem tok124 : TOK Tryd.prog 124 ⟨.int .u32, 1, 4, [.int .u32 0]⟩ := tok_of (by kernel_rfl)
theorem tok125 : TOK Tryd.prog 125 ⟨.int .u8, 1, 1, [.int .u8 0]⟩ := tok_of (by kernel_rfl)
theorem tok126 : TOK Tryd.prog 126 ⟨.int .u8, 1, 1, [.int .u8 0]⟩ := tok_of (by kernel_rfl)
theorem tok127 : TOK Tryd.prog 127 ⟨.fn, 1, 8, [.nilf]⟩ := tok_of (by kernel_rfl)
theorem tok128 : TOK Tryd.prog 128 ⟨.ptr 5, 1, 8, [.nilp]⟩ := tok_of (by kernel_rfl)
theorem tok129 : TOK Tryd.prog 129 ⟨.int .i32, 1, 4, [.int .i32 0]⟩ := tok_of (by kernel_rfl)
theorem tok130 : TOK Tryd.prog 130 ⟨.int .i32, 1, 4, [.int .i32 0]⟩ := tok_of (by kernel_rfl)
theorem tok131 : TOK Tryd.prog 131 ⟨.st [(0, 12), (1, 12), (2, 124), (3, 125), (4, 5), (5, 5), (6, 126), (7, 127), (8, 128), (9, 129), (10, 130)], 11, 48, [.int .u64 0, .int .u64 0, .int .u32 0, .int .u8 0, .int .u8 0, .int .u8 0, .int .u8 0, .nilf, .nilp, .int .i32 0, .int .i32 0]⟩ := tok_of (by kernel_rfl)
theorem tok132 : TOK Tryd.prog 132 ⟨.st [(0, 12), (1, 12), (2, 124), (3, 125), (4, 5), (5, 5), (6, 126), (7, 127), (8, 128), (9, 129), (10, 130)], 11, 48, [.int .u64 0, .int .u64 0, .int .u32 0, .int .u8 0, .int .u8 0, .int .u8 0, .int .u8 0, .nilf, .nilp, .int .i32 0, .int .i32 0]⟩ := tok_of (by kernel_rfl)
def T : List (Nat × TI) := [(1, ⟨.fn, 1, 8, [.nilf]⟩),
  (2, ⟨.int .i64, 1, 8, [.int .i64 0]⟩),
  (3, ⟨.int .i64, 1, 8, [.int .i64 0]⟩),
  (4, ⟨.bool, 1, 1, [.bool false]⟩),
  (5, ⟨.int .u8, 1, 1, [.int .u8 0]⟩),
  (6, ⟨.int .u8, 1, 1, [.int .u8 0]⟩),
  (7, ⟨.st [(0, 2), (1, 3), (2, 4), (3, 6)], 4, 24, [.int .i64 0, .int .i64 0, .bool false, .int .u8 0]⟩),
  (8, ⟨.st [(0, 2), (1, 3), (2, 4), (3, 6)], 4, 24, [.int .i64 0, .int .i64 0, .bool false, .int .u8 0]⟩),
  (9, ⟨.str, 1, 16, [.str []]⟩),
  (10, ⟨.str, 1, 16, [.str []]⟩),
  (11, ⟨.str, 1, 16, [.str []]⟩),
  (12, ⟨.int .u64, 1, 8, [.int .u64 0]⟩),
  (13, ⟨.st [(0, 9), (1, 12)], 2, 24, [.str [], .int .u64 0]⟩),
  (14, ⟨.st [(0, 9), (1, 12)], 2, 24, [.str [], .int .u64 0]⟩),
  (15, ⟨.ptr 120, 1, 8, [.nilp]⟩),
  (16, ⟨.ptr 123, 1, 8, [.nilp]⟩),
  (17, ⟨.ptr 132, 1, 8, [.nilp]⟩),
  (18, ⟨.st [(0, 17)], 1, 8, [.nilp]⟩),
  (19, ⟨.st [(0, 17)], 1, 8, [.nilp]⟩),
  (20, ⟨.iface, 1, 16, [.nili]⟩),
  (21, ⟨.int .i32, 1, 4, [.int .i32 0]⟩),
  (22, ⟨.sl 3, 1, 24, [.nils]⟩),
  (23, ⟨.fn, 1, 8, [.nilf]⟩),
  (24, ⟨.fn, 1, 8, [.nilf]⟩),
  (25, ⟨.ptr 52, 1, 8, [.nilp]⟩),
  (26, ⟨.fn, 1, 8, [.nilf]⟩),
  (27, ⟨.sl 36, 1, 24, [.nils]⟩),
  (28, ⟨.fn, 1, 8, [.nilf]⟩),
  (29, ⟨.st [(0, 3), (1, 3)], 2, 16, [.int .i64 0, .int .i64 0]⟩),
  (30, ⟨.st [(0, 3), (1, 3)], 2, 16, [.int .i64 0, .int .i64 0]⟩),
  (31, ⟨.st [(0, 30), (2, 30)], 4, 32, [.int .i64 0, .int .i64 0, .int .i64 0, .int .i64 0]⟩),
  (32, ⟨.st [(0, 30), (2, 30)], 4, 32, [.int .i64 0, .int .i64 0, .int .i64 0, .int .i64 0]⟩),
  (33, ⟨.fn, 1, 8, [.nilf]⟩),
  (34, ⟨.sl 56, 1, 24, [.nils]⟩),
  (35, ⟨.st [(0, 3), (1, 9), (2, 34)], 3, 48, [.int .i64 0, .str [], .nils]⟩),
  (36, ⟨.st [(0, 3), (1, 9), (2, 34)], 3, 48, [.int .i64 0, .str [], .nils]⟩),
  (37, ⟨.sl 22, 1, 24, [.nils]⟩),
  (38, ⟨.int .i64, 1, 8, [.int .i64 0]⟩),
  (40, ⟨.fn, 1, 8, [.nilf]⟩),
  (41, ⟨.sl 32, 1, 24, [.nils]⟩),
  (42, ⟨.st [(0, 3), (1, 41)], 2, 32, [.int .i64 0, .nils]⟩),
  (43, ⟨.st [(0, 3), (1, 41)], 2, 32, [.int .i64 0, .nils]⟩),
  (44, ⟨.map 45 4, 1, 8, [.nilm]⟩),
  (45, ⟨.arr 3 3, 3, 24, [.int .i64 0, .int .i64 0, .int .i64 0]⟩),
  (46, ⟨.fn, 1, 8, [.nilf]⟩),
  (48, ⟨.fn, 1, 8, [.nilf]⟩),
  (49, ⟨.fn, 1, 8, [.nilf]⟩),
  (50, ⟨.fn, 1, 8, [.nilf]⟩),
  (51, ⟨.st [(0, 22), (1, 3)], 2, 32, [.nils, .int .i64 0]⟩),
  (52, ⟨.st [(0, 22), (1, 3)], 2, 32, [.nils, .int .i64 0]⟩),
  (53, ⟨.fn, 1, 8, [.nilf]⟩),
  (54, ⟨.sl 58, 1, 24, [.nils]⟩),
  (55, ⟨.st [(0, 9), (1, 54)], 2, 40, [.str [], .nils]⟩),
  (56, ⟨.st [(0, 9), (1, 54)], 2, 40, [.str [], .nils]⟩),
  (57, ⟨.st [(0, 4), (1, 9)], 2, 24, [.bool false, .str []]⟩),
  (58, ⟨.st [(0, 4), (1, 9)], 2, 24, [.bool false, .str []]⟩),
  (59, ⟨.fn, 1, 8, [.nilf]⟩),
  (60, ⟨.ptr 77, 1, 8, [.nilp]⟩),
  (62, ⟨.fn, 1, 8, [.nilf]⟩),
  (63, ⟨.fn, 1, 8, [.nilf]⟩),
  (64, ⟨.fn, 1, 8, [.nilf]⟩),
  (65, ⟨.map 9 22, 1, 8, [.nilm]⟩),
  (66, ⟨.fn, 1, 8, [.nilf]⟩),
  (67, ⟨.fn, 1, 8, [.nilf]⟩),
  (68, ⟨.fn, 1, 8, [.nilf]⟩),
  (69, ⟨.ptr 36, 1, 8, [.nilp]⟩),
  (70, ⟨.sl 9, 1, 24, [.nils]⟩),
  (71, ⟨.fn, 1, 8, [.nilf]⟩),
  (72, ⟨.fn, 1, 8, [.nilf]⟩),
  (73, ⟨.fn, 1, 8, [.nilf]⟩),
  (74, ⟨.sl 65, 1, 24, [.nils]⟩),
  (75, ⟨.sl 80, 1, 24, [.nils]⟩),
  (76, ⟨.st [(0, 75)], 1, 24, [.nils]⟩),
  (77, ⟨.st [(0, 75)], 1, 24, [.nils]⟩),
  (78, ⟨.map 9 3, 1, 8, [.nilm]⟩),
  (79, ⟨.st [(0, 36), (3, 3), (4, 3), (5, 3), (6, 22), (7, 22), (8, 78)], 9, 128, [.int .i64 0, .str [], .nils, .int .i64 0, .int .i64 0, .int .i64 0, .nils, .nils, .nilm]⟩),
  (80, ⟨.st [(0, 36), (3, 3), (4, 3), (5, 3), (6, 22), (7, 22), (8, 78)], 9, 128, [.int .i64 0, .str [], .nils, .int .i64 0, .int .i64 0, .int .i64 0, .nils, .nils, .nilm]⟩),
  (81, ⟨.fn, 1, 8, [.nilf]⟩),
  (82, ⟨.fn, 1, 8, [.nilf]⟩),
  (83, ⟨.fn, 1, 8, [.nilf]⟩),
  (84, ⟨.fn, 1, 8, [.nilf]⟩),
  (85, ⟨.fn, 1, 8, [.nilf]⟩),
  (86, ⟨.fn, 1, 8, [.nilf]⟩),
  (87, ⟨.fn, 1, 8, [.nilf]⟩),
  (88, ⟨.fn, 1, 8, [.nilf]⟩),
  (89, ⟨.fn, 1, 8, [.nilf]⟩),
  (90, ⟨.fn, 1, 8, [.nilf]⟩),
  (91, ⟨.map 3 3, 1, 8, [.nilm]⟩),
  (93, ⟨.fn, 1, 8, [.nilf]⟩),
  (94, ⟨.fn, 1, 8, [.nilf]⟩),
  (95, ⟨.fn, 1, 8, [.nilf]⟩),
  (96, ⟨.fn, 1, 8, [.nilf]⟩),
  (97, ⟨.fn, 1, 8, [.nilf]⟩),
  (99, ⟨.fn, 1, 8, [.nilf]⟩),
  (100, ⟨.fn, 1, 8, [.nilf]⟩),
  (101, ⟨.fn, 1, 8, [.nilf]⟩),
  (102, ⟨.fn, 1, 8, [.nilf]⟩),
  (103, ⟨.fn, 1, 8, [.nilf]⟩),
  (104, ⟨.fn, 1, 8, [.nilf]⟩),
  (105, ⟨.fn, 1, 8, [.nilf]⟩),
  (106, ⟨.ptr 80, 1, 8, [.nilp]⟩),
  (107, ⟨.fn, 1, 8, [.nilf]⟩),
  (108, ⟨.fn, 1, 8, [.nilf]⟩),
  (109, ⟨.fn, 1, 8, [.nilf]⟩),
  (110, ⟨.fn, 1, 8, [.nilf]⟩),
  (111, ⟨.fn, 1, 8, [.nilf]⟩),
  (112, ⟨.arr 256 5, 256, 256, [.int .u8 0, .int .u8 0, .int .u8 0, .int .u8 0, .int .u8 0, .int .u8 0, .int .u8 0, .int .u8 0, .int .u8 0, .int .u8 0, .int .u8 0, .int .u8 0, .int .u8 0, .int .u8 0, .int .u8 0, .int .u8 0, .int .u8 0, .int .u8 0, .int .u8 0, .int .u8 0, .int .u8 0, .int .u8 0, .int .u8 0, .int .u8 0, .int .u8 0, .int .u8 0, .int .u8 0, .int .u8 0, .int .u8 0, .int .u8 0, .int .u8 0, .int .u8 0, .int .u8 0, .int .u8 0, .int .u8 0, .int .u8 0, .int .u8 0, .int .u8 0, .int .u8 0, .int .u8 0, .int .u8 0, .int .u8 0, .int .u8 0, .int .u8 0, .int .u8 0, .int .u8 0, .int .u8 0, .int .u8 0, .int .u8 0, .int .u8 0, .int .u8 0, .int .u8 0, .int .u8 0, .int .u8 0, .int .u8 0, .int .u8 0, .int .u8 0, .int .u8 0, .int .u8 0, .int .u8 0, .int .u8 0, .int .u8 0, .int .u8 0, .int .u8 0, .int .u8 0, .int .u8 0, .int .u8 0, .int .u8 0, .int .u8 0, .int .u8 0, .int .u8 0, .int .u8 0, .int .u8 0, .int .u8 0, .int .u8 0, .int .u8 0, .int .u8 0, .int .u8 0, .int .u8 0, .int .u8 0, .int .u8 0, .int .u8 0, .int .u8 0, .int .u8 0, .int .u8 0, .int .u8 0, .int .u8 0, .int .u8 0, .int .u8 0, .int .u8 0, .int .u8 0, .int .u8 0, .int .u8 0, .int .u8 0, .int .u8 0, .int .u8 0, .int .u8 0, .int .u8 0, .int .u8 0, .int .u8 0, .int .u8 0, .int .u8 0, .int .u8 0, .int .u8 0, .int .u8 0, .int .u8 0, .int .u8 0, .int .u8 0, .int .u8 0, .int .u8 0, .int .u8 0, .int .u8 0, .int .u8 0, .int .u8 0, .int .u8 0, .int .u8 0, .int .u8 0, .int .u8 0, .int .u8 0, .int .u8 0, .int .u8 0, .int .u8 0, .int .u8 0, .int .u8 0, .int .u8 0, .int .u8 0, .int .u8 0, .int .u8 0, .int .u8 0, .int .u8 0, .int .u8 0, .int .u8 0, .int .u8 0, .int .u8 0, .int .u8 0, .int .u8 0, .int .u8 0, .int .u8 0, .int .u8 0, .int .u8 0, .int .u8 0, .int .u8 0, .int .u8 0, .int .u8 0, .int .u8 0, .int .u8 0, .int .u8 0, .int .u8 0, .int .u8 0, .int .u8 0, .int .u8 0, .int .u8 0, .int .u8 0, .int .u8 0, .int .u8 0, .int .u8 0, .int .u8 0, .int .u8 0, .int .u8 0, .int .u8 0, .int .u8 0, .int .u8 0, .int .u8 0, .int .u8 0, .int .u8 0, .int .u8 0, .int .u8 0, .int .u8 0, .int .u8 0, .int .u8 0, .int .u8 0, .int .u8 0, .int .u8 0, .int .u8 0, .int .u8 0, .int .u8 0, .int .u8 0, .int .u8 0, .int .u8 0, .int .u8 0, .int .u8 0, .int .u8 0, .int .u8 0, .int .u8 0, .int .u8 0, .int .u8 0, .int .u8 0, .int .u8 0, .int .u8 0, .int .u8 0, .int .u8 0, .int .u8 0, .int .u8 0, .int .u8 0, .int .u8 0, .int .u8 0, .int .u8 0, .int .u8 0, .int .u8 0, .int .u8 0, .int .u8 0, .int .u8 0, .int .u8 0, .int .u8 0, .int .u8 0, .int .u8 0, .int .u8 0, .int .u8 0, .int .u8 0, .int .u8 0, .int .u8 0, .int .u8 0, .int .u8 0, .int .u8 0, .int .u8 0, .int .u8 0, .int .u8 0, .int .u8 0, .int .u8 0, .int .u8 0, .int .u8 0, .int .u8 0, .int .u8 0, .int .u8 0, .int .u8 0, .int .u8 0, .int .u8 0, .int .u8 0, .int .u8 0, .int .u8 0, .int .u8 0, .int .u8 0, .int .u8 0, .int .u8 0, .int .u8 0, .int .u8 0, .int .u8 0, .int .u8 0, .int .u8 0, .int .u8 0, .int .u8 0, .int .u8 0, .int .u8 0, .int .u8 0, .int .u8 0, .int .u8 0, .int .u8 0, .int .u8 0, .int .u8 0, .int .u8 0, .int .u8 0, .int .u8 0, .int .u8 0, .int .u8 0, .int .u8 0, .int .u8 0]⟩),
  (113, ⟨.st [(0, 5), (1, 5)], 2, 2, [.int .u8 0, .int .u8 0]⟩),
  (114, ⟨.st [(0, 5), (1, 5)], 2, 2, [.int .u8 0, .int .u8 0]⟩),
  (115, ⟨.arr 16 114, 32, 32, [.int .u8 0, .int .u8 0, .int .u8 0, .int .u8 0, .int .u8 0, .int .u8 0, .int .u8 0, .int .u8 0, .int .u8 0, .int .u8 0, .int .u8 0, .int .u8 0, .int .u8 0, .int .u8 0, .int .u8 0, .int .u8 0, .int .u8 0, .int .u8 0, .int .u8 0, .int .u8 0, .int .u8 0, .int .u8 0, .int .u8 0, .int .u8 0, .int .u8 0, .int .u8 0, .int .u8 0, .int .u8 0, .int .u8 0, .int .u8 0, .int .u8 0, .int .u8 0]⟩),
  (116, ⟨.int .u64, 1, 8, [.int .u64 0]⟩),
  (117, ⟨.int .u64, 1, 8, [.int .u64 0]⟩),
  (118, ⟨.fn, 1, 8, [.nilf]⟩),
  (119, ⟨.st [(0, 17), (1, 17), (2, 17), (3, 9)], 4, 40, [.nilp, .nilp, .nilp, .str []]⟩),
  (120, ⟨.st [(0, 17), (1, 17), (2, 17), (3, 9)], 4, 40, [.nilp, .nilp, .nilp, .str []]⟩),
  (121, ⟨.arr 0 16, 0, 0, []⟩),
  (122, ⟨.st [(0, 121)], 0, 0, []⟩),
  (123, ⟨.st [(0, 121)], 0, 0, []⟩),
  (124, ⟨.int .u32, 1, 4, [.int .u32 0]⟩),
  (125, ⟨.int .u8, 1, 1, [.int .u8 0]⟩),
  (126, ⟨.int .u8, 1, 1, [.int .u8 0]⟩),
  (127, ⟨.fn, 1, 8, [.nilf]⟩),
  (128, ⟨.ptr 5, 1, 8, [.nilp]⟩),
  (129, ⟨.int .i32, 1, 4, [.int .i32 0]⟩),
  (130, ⟨.int .i32, 1, 4, [.int .i32 0]⟩),
  (131, ⟨.st [(0, 12), (1, 12), (2, 124), (3, 125), (4, 5), (5, 5), (6, 126), (7, 127), (8, 128), (9, 129), (10, 130)], 11, 48, [.int .u64 0, .int .u64 0, .int .u32 0, .int .u8 0, .int .u8 0, .int .u8 0, .int .u8 0, .nilf, .nilp, .int .i32 0, .int .i32 0]⟩),
  (132, ⟨.st [(0, 12), (1, 12), (2, 124), (3, 125), (4, 5), (5, 5), (6, 126), (7, 127), (8, 128), (9, 129), (10, 130)], 11, 48, [.int .u64 0, .int .u64 0, .int .u32 0, .int .u8 0, .int .u8 0, .int .u8 0, .int .u8 0, .nilf, .nilp, .int .i32 0, .int .i32 0]⟩)]
set_option maxRecDepth 20000 in
theorem env : Env Tryd.prog T := ⟨table_cons tok1 (table_cons tok2 (table_cons tok3 (table_cons tok4 (table_cons tok5 (table_cons tok6 (table_cons tok7 (table_cons tok8 (table_cons tok9 (table_cons tok10 (table_cons tok11 (table_cons tok12 (table_cons tok13 (table_cons tok14 (table_cons tok15 (table_cons tok16 (table_cons tok17 (table_cons tok18 (table_cons tok19 (table_cons tok20 (table_cons tok21 (table_cons tok22 (table_cons tok23 (table_cons tok24 (table_cons tok25 (table_cons tok26 (table_cons tok27 (table_cons tok28 (table_cons tok29 (table_cons tok30 (table_cons tok31 (table_cons tok32 (table_cons tok33 (table_cons tok34 (table_cons tok35 (table_cons tok36 (table_cons tok37 (table_cons tok38 (table_cons tok40 (table_cons tok41 (table_cons tok42 (table_cons tok43 (table_cons tok44 (table_cons tok45 (table_cons tok46 (table_cons tok48 (table_cons tok49 (table_cons tok50 (table_cons tok51 (table_cons tok52 (table_cons tok53 (table_cons tok54 (table_cons tok55 (table_cons tok56 (table_cons tok57 (table_cons tok58 (table_cons tok59 (table_cons tok60 (table_cons tok62 (table_cons tok63 (table_cons tok64 (table_cons tok65 (table_cons tok66 (table_cons tok67 (table_cons tok68 (table_cons tok69 (table_cons tok70 (table_cons tok71 (table_cons tok72 (table_cons tok73 (table_cons tok74 (table_cons tok75 (table_cons tok76 (table_cons tok77 (table_cons tok78 (table_cons tok79 (table_cons tok80 (table_cons tok81 (table_cons tok82 (table_cons tok83 (table_cons tok84 (table_cons tok85 (table_cons tok86 (table_cons tok87 (table_cons tok88 (table_cons tok89 (table_cons tok90 (table_cons tok91 (table_cons tok93 (table_cons tok94 (table_cons tok95 (table_cons tok96 (table_cons tok97 (table_cons tok99 (table_cons tok100 (table_cons tok101 (table_cons tok102 (table_cons tok103 (table_cons tok104 (table_cons tok105 (table_cons tok106 (table_cons tok107 (table_cons tok108 (table_cons tok109 (table_cons tok110 (table_cons tok111 (table_cons tok112 (table_cons tok113 (table_cons tok114 (table_cons tok115 (table_cons tok116 (table_cons tok117 (table_cons tok118 (table_cons tok119 (table_cons tok120 (table_cons tok121 (table_cons tok122 (table_cons tok123 (table_cons tok124 (table_cons tok125 (table_cons tok126 (table_cons tok127 (table_cons tok128 (table_cons tok129 (table_cons tok130 (table_cons tok131 (table_cons tok132 (table_nil))))))))))))))))))))))))))))))))))))))))))))))))))))))))))))))))))))))))))))))))))))))))))))))))))))))))))))))))))))))))))))))), by kernel_rfl⟩
end Go.Sx.Sp
namespace Go.Proofs
open Go.Shelf
def Tryd.laysValid_ren : Go.Shelf.Ren := ⟨fun | 196 => 49 | 259 => 55 | n => n, fun | 9 => 9 | 4 => 4 | 3 => 3 | 5 => 5 | 12 => 12 | 119 => 112 | 0 => 0 | 46 => 116 | 139 => 115 | 138 => 114 | 53 => 117 | n => n, fun | 3 => 0 | 4 => 1 | n => n⟩
theorem Tryd.laysValid : Go.Proofs.Lays.n196 Tryd.prog Tryd.laysValid_ren := {
  mixed := by kernel_rfl
  f196 := Tryd.func49.trans (congrArg some (by kernel_rfl))
  f259 := Tryd.func55.trans (congrArg some (by kernel_rfl))
  t0 := Tryd.underlying0
  a0 := Tryd.isAgg0
  z0 := Tryd.sizeOf0
  v0 := Tryd.zeroValue0
  t3 := Tryd.underlying3
  a3 := Tryd.isAgg3
  z3 := Tryd.sizeOf3
  v3 := Tryd.zeroValue3
  t4 := Tryd.underlying4
  a4 := Tryd.isAgg4
  z4 := Tryd.sizeOf4
  v4 := Tryd.zeroValue4
  t5 := Tryd.underlying5
  a5 := Tryd.isAgg5
  z5 := Tryd.sizeOf5
  v5 := Tryd.zeroValue5
  t9 := Tryd.underlying9
  a9 := Tryd.isAgg9
  z9 := Tryd.sizeOf9
  v9 := Tryd.zeroValue9
  t12 := Tryd.underlying12
  a12 := Tryd.isAgg12
  z12 := Tryd.sizeOf12
  v12 := Tryd.zeroValue12
  t46 := Tryd.underlying116
  a46 := Tryd.isAgg116
  z46 := Tryd.sizeOf116
  v46 := Tryd.zeroValue116
  t53 := Tryd.underlying117
  a53 := Tryd.isAgg117
  z53 := Tryd.sizeOf117
  v53 := Tryd.zeroValue117
  t119 := Tryd.underlying112
  a119 := Tryd.isAgg112
  z119 := Tryd.sizeOf112
  t138 := Tryd.underlying114
  a138 := Tryd.isAgg114
  z138 := Tryd.sizeOf114
  v138 := Tryd.zeroValue114
  t139 := Tryd.underlying115
  a139 := Tryd.isAgg115
  z139 := Tryd.sizeOf115
  v139 := Tryd.zeroValue115
  g3 := by kernel_rfl
  g4 := by kernel_rfl }
end Go.Proofs
namespace Go.Sx.Sp
open Go Go.Sx Go.Proofs Go.RowKit
def tabsOK (w : World) : Prop := Lib.Utf8Tabs 0 1 w
instance : Glob := ⟨tabsOK, [0, 1], False, fun w w' hs h => by
  have h0 := hs 0 (by simp)
  have h1 := hs 1 (by simp)
  refine ⟨fun c hc => ?_, fun i hi => ?_⟩
  · rw [cell?_of_heap h0]; exact h.1 c hc
  · rw [cell?_of_heap h1, cell?_of_heap h1]; exact h.2 i hi⟩
set_option maxRecDepth 1000000 in
theorem utf8_spec (s : List UInt8) : Spec Tryd.prog 49 [.str s] [] (.bool (Lib.validD s)) [] := by
  refine Spec.ofCalls (fun cargs w => enters_of Tryd.func49 (by kernel_rfl) rfl cargs w) fun w F m cargs hl ha hg => ?_
  match cargs, hl with
  | [c], _ =>
    obtain ⟨rfl, hs⟩ := (ha 0 (.str s) c rfl rfl).str_inv
    have hsz : (⟨s.toArray⟩ : ByteArray).size ≤ 9223372036854775807 := by
      have : maxLen = 9223372036854775807 := by unfold maxLen; rfl
      simpa [ByteArray.size, this] using hs
    refine (Any.utf8_ValidString Tryd.laysValid ⟨s.toArray⟩ w hsz hg).mono fun e w' ⟨he, hb⟩ => ?_
    exact ⟨_, he, fun w' F m => .bool _, hb, fun h => h.elim⟩
end Go.Sx.Sp
