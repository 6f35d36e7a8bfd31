/- What the functions fits, run, Clone, own, flush, Compare, BinarySearchFunc and Insert compute. -/
import Derived.Test.YtjlfdbjgjohbcaaSxThree
import Derived.Test.YtjlfdbjgjohbcaaProg
import Derived.Test.YtjlfdbjgjohbcaaSxFour
set_option linter.unusedVariables false
set_option linter.unusedSimpArgs false
namespace Go.Sx.Sp
open Go Go.Sx Go.Proofs
theorem tok1 : TOK Try.prog 1 ⟨.fn, 1, 8, [.nilf]⟩ := tok_of (by kernel_rfl)
theorem tok2 : TOK Try.prog 2 ⟨.int .i64, 1, 8, [.int .i64 0]⟩ := tok_of (by kernel_rfl)
theorem tok3 : TOK Try.prog 3 ⟨.int .i64, 1, 8, [.int .i64 0]⟩ := tok_of (by kernel_rfl)
theorem tok4 : TOK Try.prog 4 ⟨.bool, 1, 1, [.bool false]⟩ := tok_of (by kernel_rfl)
theorem tok5 : TOK Try.prog 5 ⟨.int .u8, 1, 1, [.int .u8 0]⟩ := tok_of (by kernel_rfl)
theorem tok6 : TOK Try.prog 6 ⟨.int .u8, 1, 1, [.int .u8 0]⟩ := tok_of (by kernel_rfl)
theorem tok7 : TOK Try.prog 7 ⟨.st [(0, 2), (1, 3), (2, 4), (3, 6)], 4, 24, [.int .i64 0, .int .i64 0, .bool false, .int .u8 0]⟩ := tok_of (by kernel_rfl)
theorem tok8 : TOK Try.prog 8 ⟨.st [(0, 2), (1, 3), (2, 4), (3, 6)], 4, 24, [.int .i64 0, .int .i64 0, .bool false, .int .u8 0]⟩ := tok_of (by kernel_rfl)
theorem tok9 : TOK Try.prog 9 ⟨.str, 1, 16, [.str []]⟩ := tok_of (by kernel_rfl)
theorem tok10 : TOK Try.prog 10 ⟨.str, 1, 16, [.str []]⟩ := tok_of (by kernel_rfl)
theorem tok11 : TOK Try.prog 11 ⟨.str, 1, 16, [.str []]⟩ := tok_of (by kernel_rfl)
theorem tok12 : TOK Try.prog 12 ⟨.int .u64, 1, 8, [.int .u64 0]⟩ := tok_of (by kernel_rfl)
theorem tok13 : TOK Try.prog 13 ⟨.st [(0, 9), (1, 12)], 2, 24, [.str [], .int .u64 0]⟩ := tok_of (by kernel_rfl)
theorem tok14 : TOK Try.prog 14 ⟨.st [(0, 9), (1, 12)], 2, 24, [.str [], .int .u64 0]⟩ := tok_of (by kernel_rfl)
theorem tok15 : TOK Try.prog 15 ⟨.ptr 96, 1, 8, [.nilp]⟩ := tok_of (by kernel_rfl)
theorem tok16 : TOK Try.prog 16 ⟨.ptr 99, 1, 8, [.nilp]⟩ := tok_of (by kernel_rfl)
theorem tok17 : TOK Try.prog 17 ⟨.ptr 108, 1, 8, [.nilp]⟩ := tok_of (by kernel_rfl)
theorem tok18 : TOK Try.prog 18 ⟨.st [(0, 17)], 1, 8, [.nilp]⟩ := tok_of (by kernel_rfl)
theorem tok19 : TOK Try.prog 19 ⟨.st [(0, 17)], 1, 8, [.nilp]⟩ := tok_of (by kernel_rfl)
theorem tok20 : TOK Try.prog 20 ⟨.iface, 1, 16, [.nili]⟩ := tok_of (by kernel_rfl)
theorem tok21 : TOK Try.prog 21 ⟨.int .i32, 1, 4, [.int .i32 0]⟩ := tok_of (by kernel_rfl)
theorem tok22 : TOK Try.prog 22 ⟨.sl 5, 1, 24, [.nils]⟩ := tok_of (by kernel_rfl)
theorem tok23 : TOK Try.prog 23 ⟨.fn, 1, 8, [.nilf]⟩ := tok_of (by kernel_rfl)
theorem tok24 : TOK Try.prog 24 ⟨.ptr 57, 1, 8, [.nilp]⟩ := tok_of (by kernel_rfl)
theorem tok25 : TOK Try.prog 25 ⟨.fn, 1, 8, [.nilf]⟩ := tok_of (by kernel_rfl)
theorem tok26 : TOK Try.prog 26 ⟨.sl 9, 1, 24, [.nils]⟩ := tok_of (by kernel_rfl)
theorem tok27 : TOK Try.prog 27 ⟨.fn, 1, 8, [.nilf]⟩ := tok_of (by kernel_rfl)
theorem tok28 : TOK Try.prog 28 ⟨.fn, 1, 8, [.nilf]⟩ := tok_of (by kernel_rfl)
theorem tok29 : TOK Try.prog 29 ⟨.sl 44, 1, 24, [.nils]⟩ := tok_of (by kernel_rfl)
theorem tok30 : TOK Try.prog 30 ⟨.sl 29, 1, 24, [.nils]⟩ := tok_of (by kernel_rfl)
theorem tok31 : TOK Try.prog 31 ⟨.st [(0, 3), (1, 29), (2, 30), (3, 3), (4, 3)], 5, 72, [.int .i64 0, .nils, .nils, .int .i64 0, .int .i64 0]⟩ := tok_of (by kernel_rfl)
theorem tok32 : TOK Try.prog 32 ⟨.st [(0, 3), (1, 29), (2, 30), (3, 3), (4, 3)], 5, 72, [.int .i64 0, .nils, .nils, .int .i64 0, .int .i64 0]⟩ := tok_of (by kernel_rfl)
theorem tok33 : TOK Try.prog 33 ⟨.int .i64, 1, 8, [.int .i64 0]⟩ := tok_of (by kernel_rfl)
theorem tok35 : TOK Try.prog 35 ⟨.fn, 1, 8, [.nilf]⟩ := tok_of (by kernel_rfl)
theorem tok36 : TOK Try.prog 36 ⟨.fn, 1, 8, [.nilf]⟩ := tok_of (by kernel_rfl)
theorem tok38 : TOK Try.prog 38 ⟨.fn, 1, 8, [.nilf]⟩ := tok_of (by kernel_rfl)
theorem tok39 : TOK Try.prog 39 ⟨.fn, 1, 8, [.nilf]⟩ := tok_of (by kernel_rfl)
theorem tok40 : TOK Try.prog 40 ⟨.fn, 1, 8, [.nilf]⟩ := tok_of (by kernel_rfl)
theorem tok41 : TOK Try.prog 41 ⟨.fn, 1, 8, [.nilf]⟩ := tok_of (by kernel_rfl)
theorem tok42 : TOK Try.prog 42 ⟨.fn, 1, 8, [.nilf]⟩ := tok_of (by kernel_rfl)
theorem tok43 : TOK Try.prog 43 ⟨.st [(0, 9), (1, 3)], 2, 24, [.str [], .int .i64 0]⟩ := tok_of (by kernel_rfl)
theorem tok44 : TOK Try.prog 44 ⟨.st [(0, 9), (1, 3)], 2, 24, [.str [], .int .i64 0]⟩ := tok_of (by kernel_rfl)
theorem tok45 : TOK Try.prog 45 ⟨.sl 3, 1, 24, [.nils]⟩ := tok_of (by kernel_rfl)
theorem tok46 : TOK Try.prog 46 ⟨.fn, 1, 8, [.nilf]⟩ := tok_of (by kernel_rfl)
theorem tok47 : TOK Try.prog 47 ⟨.fn, 1, 8, [.nilf]⟩ := tok_of (by kernel_rfl)
theorem tok49 : TOK Try.prog 49 ⟨.fn, 1, 8, [.nilf]⟩ := tok_of (by kernel_rfl)
theorem tok50 : TOK Try.prog 50 ⟨.fn, 1, 8, [.nilf]⟩ := tok_of (by kernel_rfl)
theorem tok51 : TOK Try.prog 51 ⟨.sl 32, 1, 24, [.nils]⟩ := tok_of (by kernel_rfl)
theorem tok52 : TOK Try.prog 52 ⟨.fn, 1, 8, [.nilf]⟩ := tok_of (by kernel_rfl)
theorem tok53 : TOK Try.prog 53 ⟨.fn, 1, 8, [.nilf]⟩ := tok_of (by kernel_rfl)
theorem tok54 : TOK Try.prog 54 ⟨.fn, 1, 8, [.nilf]⟩ := tok_of (by kernel_rfl)
theorem tok55 : TOK Try.prog 55 ⟨.fn, 1, 8, [.nilf]⟩ := tok_of (by kernel_rfl)
theorem tok56 : TOK Try.prog 56 ⟨.st [(0, 22), (1, 3)], 2, 32, [.nils, .int .i64 0]⟩ := tok_of (by kernel_rfl)
theorem tok57 : TOK Try.prog 57 ⟨.st [(0, 22), (1, 3)], 2, 32, [.nils, .int .i64 0]⟩ := tok_of (by kernel_rfl)
theorem tok58 : TOK Try.prog 58 ⟨.fn, 1, 8, [.nilf]⟩ := tok_of (by kernel_rfl)
theorem tok59 : TOK Try.prog 59 ⟨.fn, 1, 8, [.nilf]⟩ := tok_of (by kernel_rfl)
theorem tok60 : TOK Try.prog 60 ⟨.fn, 1, 8, [.nilf]⟩ := tok_of (by kernel_rfl)
theorem tok61 : TOK Try.prog 61 ⟨.ptr 67, 1, 8, [.nilp]⟩ := tok_of (by kernel_rfl)
theorem tok62 : TOK Try.prog 62 ⟨.fn, 1, 8, [.nilf]⟩ := tok_of (by kernel_rfl)
theorem tok63 : TOK Try.prog 63 ⟨.fn, 1, 8, [.nilf]⟩ := tok_of (by kernel_rfl)
theorem tok64 : TOK Try.prog 64 ⟨.fn, 1, 8, [.nilf]⟩ := tok_of (by kernel_rfl)
theorem tok65 : TOK Try.prog 65 ⟨.fn, 1, 8, [.nilf]⟩ := tok_of (by kernel_rfl)
theorem tok66 : TOK Try.prog 66 ⟨.fn, 1, 8, [.nilf]⟩ := tok_of (by kernel_rfl)
theorem tok67 : TOK Try.prog 67 ⟨.st [(0, 3), (1, 29), (2, 30), (3, 3), (4, 3)], 5, 72, [.int .i64 0, .nils, .nils, .int .i64 0, .int .i64 0]⟩ := tok_of (by kernel_rfl)
theorem tok68 : TOK Try.prog 68 ⟨.fn, 1, 8, [.nilf]⟩ := tok_of (by kernel_rfl)
theorem tok69 : TOK Try.prog 69 ⟨.fn, 1, 8, [.nilf]⟩ := tok_of (by kernel_rfl)
theorem tok70 : TOK Try.prog 70 ⟨.fn, 1, 8, [.nilf]⟩ := tok_of (by kernel_rfl)
theorem tok71 : TOK Try.prog 71 ⟨.fn, 1, 8, [.nilf]⟩ := tok_of (by kernel_rfl)
theorem tok73 : TOK Try.prog 73 ⟨.fn, 1, 8, [.nilf]⟩ := tok_of (by kernel_rfl)
theorem tok74 : TOK Try.prog 74 ⟨.fn, 1, 8, [.nilf]⟩ := tok_of (by kernel_rfl)
theorem tok75 : TOK Try.prog 75 ⟨.fn, 1, 8, [.nilf]⟩ := tok_of (by kernel_rfl)
theorem tok76 : TOK Try.prog 76 ⟨.fn, 1, 8, [.nilf]⟩ := tok_of (by kernel_rfl)
theorem tok77 : TOK Try.prog 77 ⟨.fn, 1, 8, [.nilf]⟩ := tok_of (by kernel_rfl)
theorem tok78 : TOK Try.prog 78 ⟨.fn, 1, 8, [.nilf]⟩ := tok_of (by kernel_rfl)
theorem tok79 : TOK Try.prog 79 ⟨.ptr 32, 1, 8, [.nilp]⟩ := tok_of (by kernel_rfl)
theorem tok80 : TOK Try.prog 80 ⟨.int .u64, 1, 8, [.int .u64 0]⟩ := tok_of (by kernel_rfl)
theorem tok82 : TOK Try.prog 82 ⟨.fn, 1, 8, [.nilf]⟩ := tok_of (by kernel_rfl)
theorem tok83 : TOK Try.prog 83 ⟨.fn, 1, 8, [.nilf]⟩ := tok_of (by kernel_rfl)
theorem tok84 : TOK Try.prog 84 ⟨.fn, 1, 8, [.nilf]⟩ := tok_of (by kernel_rfl)
theorem tok85 : TOK Try.prog 85 ⟨.fn, 1, 8, [.nilf]⟩ := tok_of (by kernel_rfl)
theorem tok86 : TOK Try.prog 86 ⟨.int .u32, 1, 4, [.int .u32 0]⟩ := tok_of (by kernel_rfl)
theorem tok88 : TOK Try.prog 88 ⟨.fn, 1, 8, [.nilf]⟩ := tok_of (by kernel_rfl)
theorem tok89 : TOK Try.prog 89 ⟨.int .u64, 1, 8, [.int .u64 0]⟩ := tok_of (by kernel_rfl)
theorem tok91 : TOK Try.prog 91 ⟨.fn, 1, 8, [.nilf]⟩ := tok_of (by kernel_rfl)
theorem tok92 : TOK Try.prog 92 ⟨.fn, 1, 8, [.nilf]⟩ := tok_of (by kernel_rfl)
theorem tok93 : TOK Try.prog 93 ⟨.fn, 1, 8, [.nilf]⟩ := tok_of (by kernel_rfl)
theorem tok94 : TOK Try.prog 94 ⟨.fn, 1, 8, [.nilf]⟩ := tok_of (by kernel_rfl)
theorem tok95 : TOK Try.prog 95 ⟨.st [(0, 17), (1, 17), (2, 17), (3, 9)], 4, 40, [.nilp, .nilp, .nilp, .str []]⟩ := tok_of (by kernel_rfl)
theorem tok96 : TOK Try.prog 96 ⟨.st [(0, 17), (1, 17), (2, 17), (3, 9)], 4, 40, [.nilp, .nilp, .nilp, .str []]⟩ := tok_of (by kernel_rfl)
theorem tok97 : TOK Try.prog 97 ⟨.arr 0 16, 0, 0, []⟩ := tok_of (by kernel_rfl)
theorem tok98 : TOK Try.prog 98 ⟨.st [(0, 97)], 0, 0, []⟩ := tok_of (by kernel_rfl)
theorem tok99 : TOK Try.prog 99 ⟨.st [(0, 97)], 0, 0, []⟩ := tok_of (by kernel_rfl)
theorem tok100 : TOK Try.prog 100 ⟨.fn, 1, 8, [.nilf]⟩ := tok_of (by kernel_rfl)
theorem tok101 : TOK Try.prog 101 ⟨.int .u8, 1, 1, [.int .u8 0]⟩ := tok_of (by kernel_rfl)
theorem tok102 : TOK Try.prog 102 ⟨.int .u8, 1, 1, [.int .u8 0]⟩ := tok_of (by kernel_rfl)
theorem tok103 : TOK Try.prog 103 ⟨.fn, 1, 8, [.nilf]⟩ := tok_of (by kernel_rfl)
theorem tok104 : TOK Try.prog 104 ⟨.ptr 5, 1, 8, [.nilp]⟩ := tok_of (by kernel_rfl)
theorem tok105 : TOK Try.prog 105 ⟨.int .i32, 1, 4, [.int .i32 0]⟩ := tok_of (by kernel_rfl)
theorem tok106 : TOK Try.prog 106 ⟨.int .i32, 1, 4, [.int .i32 0]⟩ := tok_of (by kernel_rfl)
theorem tok107 : TOK Try.prog 107 ⟨.st [(0, 12), (1, 12), (2, 86), (3, 101), (4, 5), (5, 5), (6, 102), (7, 103), (8, 104), (9, 105), (10, 106)], 11, 48, [.int .u64 0, .int .u64 0, .int .u32 0, .int .u8 0, .int .u8 0, .int .u8 0, .int .u8 0, .nilf, .nilp, .int .i32 0, .int .i32 0]⟩ := tok_of (by kernel_rfl)
theorem tok108 : TOK Try.prog 108 ⟨.st [(0, 12), (1, 12), (2, 86), (3, 101), (4, 5), (5, 5), (6, 102), (7, 103), (8, 104), (9, 105), (10, 106)], 11, 48, [.int .u64 0, .int .u64 0, .int .u32 0, .int .u8 0, .int .u8 0, .int .u8 0, .int .u8 0, .nilf, .nilp, .int .i32 0, .int .i32 0]⟩ := tok_of (by kernel_rfl)
def T : List (Nat × TI) := [(1, ⟨.fn, 1, 8, [.nilf]⟩),
  (2, ⟨.int .i64, 1, 8, [.int .i64 0]⟩),
  (3, ⟨.int .i64, 1, 8, [.int .i64 0]⟩),
  (4, ⟨.bool, 1, 1, [.bool false]⟩),
  (5, ⟨.int .u8, 1, 1, [.int .u8 0]⟩),
  (6, ⟨.int .u8, 1, 1, [.int .u8 0]⟩),
  (7, ⟨.st [(0, 2), (1, 3), (2, 4), (3, 6)], 4, 24, [.int .i64 0, .int .i64 0, .bool false, .int .u8 0]⟩),
  (8, ⟨.st [(0, 2), (1, 3), (2, 4), (3, 6)], 4, 24, [.int .i64 0, .int .i64 0, .bool false, .int .u8 0]⟩),
  (9, ⟨.str, 1, 16, [.str []]⟩),
  (10, ⟨.str, 1, 16, [.str []]⟩),
  (11, ⟨.str, 1, 16, [.str []]⟩),
  (12, ⟨.int .u64, 1, 8, [.int .u64 0]⟩),
  (13, ⟨.st [(0, 9), (1, 12)], 2, 24, [.str [], .int .u64 0]⟩),
  (14, ⟨.st [(0, 9), (1, 12)], 2, 24, [.str [], .int .u64 0]⟩),
  (15, ⟨.ptr 96, 1, 8, [.nilp]⟩),
  (16, ⟨.ptr 99, 1, 8, [.nilp]⟩),
  (17, ⟨.ptr 108, 1, 8, [.nilp]⟩),
  (18, ⟨.st [(0, 17)], 1, 8, [.nilp]⟩),
  (19, ⟨.st [(0, 17)], 1, 8, [.nilp]⟩),
  (20, ⟨.iface, 1, 16, [.nili]⟩),
  (21, ⟨.int .i32, 1, 4, [.int .i32 0]⟩),
  (22, ⟨.sl 5, 1, 24, [.nils]⟩),
  (23, ⟨.fn, 1, 8, [.nilf]⟩),
  (24, ⟨.ptr 57, 1, 8, [.nilp]⟩),
  (25, ⟨.fn, 1, 8, [.nilf]⟩),
  (26, ⟨.sl 9, 1, 24, [.nils]⟩),
  (27, ⟨.fn, 1, 8, [.nilf]⟩),
  (28, ⟨.fn, 1, 8, [.nilf]⟩),
  (29, ⟨.sl 44, 1, 24, [.nils]⟩),
  (30, ⟨.sl 29, 1, 24, [.nils]⟩),
  (31, ⟨.st [(0, 3), (1, 29), (2, 30), (3, 3), (4, 3)], 5, 72, [.int .i64 0, .nils, .nils, .int .i64 0, .int .i64 0]⟩),
  (32, ⟨.st [(0, 3), (1, 29), (2, 30), (3, 3), (4, 3)], 5, 72, [.int .i64 0, .nils, .nils, .int .i64 0, .int .i64 0]⟩),
  (33, ⟨.int .i64, 1, 8, [.int .i64 0]⟩),
  (35, ⟨.fn, 1, 8, [.nilf]⟩),
  (36, ⟨.fn, 1, 8, [.nilf]⟩),
  (38, ⟨.fn, 1, 8, [.nilf]⟩),
  (39, ⟨.fn, 1, 8, [.nilf]⟩),
  (40, ⟨.fn, 1, 8, [.nilf]⟩),
  (41, ⟨.fn, 1, 8, [.nilf]⟩),
  (42, ⟨.fn, 1, 8, [.nilf]⟩),
  (43, ⟨.st [(0, 9), (1, 3)], 2, 24, [.str [], .int .i64 0]⟩),
  (44, ⟨.st [(0, 9), (1, 3)], 2, 24, [.str [], .int .i64 0]⟩),
  (45, ⟨.sl 3, 1, 24, [.nils]⟩),
  (46, ⟨.fn, 1, 8, [.nilf]⟩),
  (47, ⟨.fn, 1, 8, [.nilf]⟩),
  (49, ⟨.fn, 1, 8, [.nilf]⟩),
  (50, ⟨.fn, 1, 8, [.nilf]⟩),
  (51, ⟨.sl 32, 1, 24, [.nils]⟩),
  (52, ⟨.fn, 1, 8, [.nilf]⟩),
  (53, ⟨.fn, 1, 8, [.nilf]⟩),
  (54, ⟨.fn, 1, 8, [.nilf]⟩),
  (55, ⟨.fn, 1, 8, [.nilf]⟩),
  (56, ⟨.st [(0, 22), (1, 3)], 2, 32, [.nils, .int .i64 0]⟩),
  (57, ⟨.st [(0, 22), (1, 3)], 2, 32, [.nils, .int .i64 0]⟩),
  (58, ⟨.fn, 1, 8, [.nilf]⟩),
  (59, ⟨.fn, 1, 8, [.nilf]⟩),
  (60, ⟨.fn, 1, 8, [.nilf]⟩),
  (61, ⟨.ptr 67, 1, 8, [.nilp]⟩),
  (62, ⟨.fn, 1, 8, [.nilf]⟩),
  (63, ⟨.fn, 1, 8, [.nilf]⟩),
  (64, ⟨.fn, 1, 8, [.nilf]⟩),
  (65, ⟨.fn, 1, 8, [.nilf]⟩),
  (66, ⟨.fn, 1, 8, [.nilf]⟩),
  (67, ⟨.st [(0, 3), (1, 29), (2, 30), (3, 3), (4, 3)], 5, 72, [.int .i64 0, .nils, .nils, .int .i64 0, .int .i64 0]⟩),
  (68, ⟨.fn, 1, 8, [.nilf]⟩),
  (69, ⟨.fn, 1, 8, [.nilf]⟩),
  (70, ⟨.fn, 1, 8, [.nilf]⟩),
  (71, ⟨.fn, 1, 8, [.nilf]⟩),
  (73, ⟨.fn, 1, 8, [.nilf]⟩),
  (74, ⟨.fn, 1, 8, [.nilf]⟩),
  (75, ⟨.fn, 1, 8, [.nilf]⟩),
  (76, ⟨.fn, 1, 8, [.nilf]⟩),
  (77, ⟨.fn, 1, 8, [.nilf]⟩),
  (78, ⟨.fn, 1, 8, [.nilf]⟩),
  (79, ⟨.ptr 32, 1, 8, [.nilp]⟩),
  (80, ⟨.int .u64, 1, 8, [.int .u64 0]⟩),
  (82, ⟨.fn, 1, 8, [.nilf]⟩),
  (83, ⟨.fn, 1, 8, [.nilf]⟩),
  (84, ⟨.fn, 1, 8, [.nilf]⟩),
  (85, ⟨.fn, 1, 8, [.nilf]⟩),
  (86, ⟨.int .u32, 1, 4, [.int .u32 0]⟩),
  (88, ⟨.fn, 1, 8, [.nilf]⟩),
  (89, ⟨.int .u64, 1, 8, [.int .u64 0]⟩),
  (91, ⟨.fn, 1, 8, [.nilf]⟩),
  (92, ⟨.fn, 1, 8, [.nilf]⟩),
  (93, ⟨.fn, 1, 8, [.nilf]⟩),
  (94, ⟨.fn, 1, 8, [.nilf]⟩),
  (95, ⟨.st [(0, 17), (1, 17), (2, 17), (3, 9)], 4, 40, [.nilp, .nilp, .nilp, .str []]⟩),
  (96, ⟨.st [(0, 17), (1, 17), (2, 17), (3, 9)], 4, 40, [.nilp, .nilp, .nilp, .str []]⟩),
  (97, ⟨.arr 0 16, 0, 0, []⟩),
  (98, ⟨.st [(0, 97)], 0, 0, []⟩),
  (99, ⟨.st [(0, 97)], 0, 0, []⟩),
  (100, ⟨.fn, 1, 8, [.nilf]⟩),
  (101, ⟨.int .u8, 1, 1, [.int .u8 0]⟩),
  (102, ⟨.int .u8, 1, 1, [.int .u8 0]⟩),
  (103, ⟨.fn, 1, 8, [.nilf]⟩),
  (104, ⟨.ptr 5, 1, 8, [.nilp]⟩),
  (105, ⟨.int .i32, 1, 4, [.int .i32 0]⟩),
  (106, ⟨.int .i32, 1, 4, [.int .i32 0]⟩),
  (107, ⟨.st [(0, 12), (1, 12), (2, 86), (3, 101), (4, 5), (5, 5), (6, 102), (7, 103), (8, 104), (9, 105), (10, 106)], 11, 48, [.int .u64 0, .int .u64 0, .int .u32 0, .int .u8 0, .int .u8 0, .int .u8 0, .int .u8 0, .nilf, .nilp, .int .i32 0, .int .i32 0]⟩),
  (108, ⟨.st [(0, 12), (1, 12), (2, 86), (3, 101), (4, 5), (5, 5), (6, 102), (7, 103), (8, 104), (9, 105), (10, 106)], 11, 48, [.int .u64 0, .int .u64 0, .int .u32 0, .int .u8 0, .int .u8 0, .int .u8 0, .int .u8 0, .nilf, .nilp, .int .i32 0, .int .i32 0]⟩)]
theorem env : Env Try.prog T := ⟨table_cons tok1 (table_cons tok2 (table_cons tok3 (table_cons tok4 (table_cons tok5 (table_cons tok6 (table_cons tok7 (table_cons tok8 (table_cons tok9 (table_cons tok10 (table_cons tok11 (table_cons tok12 (table_cons tok13 (table_cons tok14 (table_cons tok15 (table_cons tok16 (table_cons tok17 (table_cons tok18 (table_cons tok19 (table_cons tok20 (table_cons tok21 (table_cons tok22 (table_cons tok23 (table_cons tok24 (table_cons tok25 (table_cons tok26 (table_cons tok27 (table_cons tok28 (table_cons tok29 (table_cons tok30 (table_cons tok31 (table_cons tok32 (table_cons tok33 (table_cons tok35 (table_cons tok36 (table_cons tok38 (table_cons tok39 (table_cons tok40 (table_cons tok41 (table_cons tok42 (table_cons tok43 (table_cons tok44 (table_cons tok45 (table_cons tok46 (table_cons tok47 (table_cons tok49 (table_cons tok50 (table_cons tok51 (table_cons tok52 (table_cons tok53 (table_cons tok54 (table_cons tok55 (table_cons tok56 (table_cons tok57 (table_cons tok58 (table_cons tok59 (table_cons tok60 (table_cons tok61 (table_cons tok62 (table_cons tok63 (table_cons tok64 (table_cons tok65 (table_cons tok66 (table_cons tok67 (table_cons tok68 (table_cons tok69 (table_cons tok70 (table_cons tok71 (table_cons tok73 (table_cons tok74 (table_cons tok75 (table_cons tok76 (table_cons tok77 (table_cons tok78 (table_cons tok79 (table_cons tok80 (table_cons tok82 (table_cons tok83 (table_cons tok84 (table_cons tok85 (table_cons tok86 (table_cons tok88 (table_cons tok89 (table_cons tok91 (table_cons tok92 (table_cons tok93 (table_cons tok94 (table_cons tok95 (table_cons tok96 (table_cons tok97 (table_cons tok98 (table_cons tok99 (table_cons tok100 (table_cons tok101 (table_cons tok102 (table_cons tok103 (table_cons tok104 (table_cons tok105 (table_cons tok106 (table_cons tok107 (table_cons tok108 (table_nil))))))))))))))))))))))))))))))))))))))))))))))))))))))))))))))))))))))))))))))))))))))))))))))))))))), by kernel_rfl⟩
end Go.Sx.Sp
namespace Go.Sx.Sp
open Go Go.Sx Go.Proofs
def fits (n : Int) : Bool := decide (2 ≤ n ∧ n ≤ 65536)
set_option maxHeartbeats 400000 in
theorem fits_spec (n : Int) : Spec Try.prog 34 [.int .i64 n] [] (.bool (fits n)) [] := by
  refine Spec.body env Try.func34 rfl (by kernel_rfl) (Nat.le_of_ble_eq_true (by kernel_rfl)) (fun k hk => hk) fun Γ hN hK => ?_
  repeat' (first | refine W.seq ?_ | (refine W.reg env hN (by kernel_rfl) ?_; conv => whnf) | refine W.condT rfl ?_ | refine W.condF rfl ?_ | (refine W.ret ?_) | (refine boolRes_true (by omega) ?_; conv => whnf) | (refine boolRes_false (by omega) ?_; conv => whnf) | (refine boolRes_split (fun hb => ?_) (fun hb => ?_) <;> conv => whnf))
  all_goals exact ret0 rfl (congrArg V.bool (by simp [fits]; omega)) (by simp [V.sites])
end Go.Sx.Sp
namespace Go.Sx.Sp
open Go Go.Sx Go.Proofs
structure Count where
  text : List UInt8
  count : Int
  deriving DecidableEq
def Count.row (c : Count) : List V := [.str c.text, .int .i64 c.count]
def countsV (l : List Count) : V := .sl (l.map Count.row) false
def okAt (l : List Count) (i : Nat) : Bool :=
  match l[i]? with
  | none => true
  | some x => decide (1 ≤ x.count) && (match i with | 0 => true | i + 1 => match l[i]? with | none => true | some y => Op.bytesLess y.text x.text)
def isRun (l : List Count) : Bool := (List.range l.length).all (okAt l)
theorem run_false {l : List Count} {k : Nat} (hk : k < l.length) (h : okAt l k = false) : isRun l = false := by
  simp only [isRun, List.all_eq_false]
  exact ⟨k, List.mem_range.2 hk, by simp [h]⟩
theorem run_true {l : List Count} (h : ∀ i, i < l.length → okAt l i = true) : isRun l = true := by
  simp only [isRun, List.all_eq_true]
  exact fun i hi => h i (List.mem_range.1 hi)
set_option maxHeartbeats 1000000 in
theorem run_spec (l : List Count) : Spec Try.prog 46 [countsV l] [] (.bool (isRun l)) [] := by
  refine Spec.body env Try.func46 rfl (by kernel_rfl) (Nat.le_of_ble_eq_true (by kernel_rfl)) (keysSub rfl) fun Γ hN hK => ?_; have hML : maxLen = 9223372036854775807 := by unfold maxLen; rfl
  have hL : (l.map Count.row).length = l.length := by simp
  repeat (first | refine W.seq ?_ | (refine W.reg env hN (by kernel_rfl) ?_; conv => whnf) | refine W.condT rfl ?_ | refine W.condF rfl ?_ | (refine W.skip ?_; conv => whnf) | (refine W.exit ?_; conv => whnf) | refine W.block ?_ | (refine fun (hlen : (_ : Nat) ≤ _) => ?_; conv => whnf) | (refine okFp_intro (by kernel_rfl) ?_; conv => whnf) | (refine And.intro rfl ?_; conv => whnf) | (refine And.intro (by omega) ?_; conv => whnf) | (refine rowAt_of rfl ?_; conv => whnf) | (refine boolRes_true (by omega) ?_; conv => whnf) | (refine boolRes_false (by omega) ?_; conv => whnf) | (refine boolRes_true rfl ?_; conv => whnf) | (refine W.ret ?_; conv => whnf))
  refine W.loop (fun n s => ∃ k, k ≤ l.length ∧ (∀ i, i < k → okAt l i = true) ∧ n = l.length - k ∧ s = ⟨[(0, countsV l), (5, countsV l), (6, .int .i64 (l.map Count.row).length), (7, .int .i64 k)], [], []⟩)
    (fun n s _ k hk => by rw [hK] at hk; cases hk) l.length _ ⟨0, Nat.zero_le _, by simp, by omega, rfl⟩ (Le.plain ⟨rfl, rfl, rfl, rfl, trivial⟩ rfl) ?_
  rintro n s ⟨k, hk, hok, rfl, rfl⟩
  have hmx : l.length ≤ 9223372036854775807 := by rw [hL] at hlen; unfold maxLen at hlen; exact hlen
  repeat (first | refine W.seq ?_ | (refine W.reg env hN (by kernel_rfl) ?_; conv => whnf) | refine W.condT rfl ?_ | refine W.condF rfl ?_ | (refine W.skip ?_; conv => whnf) | (refine W.exit ?_; conv => whnf) | refine W.block ?_ | (refine fun (hlen : (_ : Nat) ≤ _) => ?_; conv => whnf) | (refine okFp_intro (by kernel_rfl) ?_; conv => whnf) | (refine And.intro rfl ?_; conv => whnf) | (refine And.intro (by omega) ?_; conv => whnf) | (refine rowAt_of rfl ?_; conv => whnf) | (refine boolRes_true (by omega) ?_; conv => whnf) | (refine boolRes_false (by omega) ?_; conv => whnf) | (refine boolRes_true rfl ?_; conv => whnf) | (refine W.ret ?_; conv => whnf))
  refine boolRes_split (fun hb => ?_) (fun hb => ?_) <;> conv => whnf
  · have hlt : k < l.length := by rw [hL] at hb; omega
    have hx : (l.map Count.row)[k]? = some (Count.row l[k]) := by simp [hlt]
    repeat (first | refine W.seq ?_ | (refine W.reg env hN (by kernel_rfl) ?_; conv => whnf) | refine W.condT rfl ?_ | refine W.condF rfl ?_ | (refine W.skip ?_; conv => whnf) | (refine W.exit ?_; conv => whnf) | refine W.block ?_ | (refine fun (hlen : (_ : Nat) ≤ _) => ?_; conv => whnf) | (refine okFp_intro (by kernel_rfl) ?_; conv => whnf) | (refine And.intro rfl ?_; conv => whnf) | (refine And.intro (by omega) ?_; conv => whnf) | (refine rowAt_of rfl ?_; conv => whnf) | (refine boolRes_true (by omega) ?_; conv => whnf) | (refine boolRes_false (by omega) ?_; conv => whnf) | (refine boolRes_true rfl ?_; conv => whnf) | (refine W.ret ?_; conv => whnf))
    refine rowAt_of hx ?_
    conv => whnf
    repeat (first | refine W.seq ?_ | (refine W.reg env hN (by kernel_rfl) ?_; conv => whnf) | refine W.condT rfl ?_ | refine W.condF rfl ?_ | (refine W.skip ?_; conv => whnf) | (refine W.exit ?_; conv => whnf) | refine W.block ?_ | (refine fun (hlen : (_ : Nat) ≤ _) => ?_; conv => whnf) | (refine okFp_intro (by kernel_rfl) ?_; conv => whnf) | (refine And.intro rfl ?_; conv => whnf) | (refine And.intro (by omega) ?_; conv => whnf) | (refine rowAt_of rfl ?_; conv => whnf) | (refine boolRes_true (by omega) ?_; conv => whnf) | (refine boolRes_false (by omega) ?_; conv => whnf) | (refine boolRes_true rfl ?_; conv => whnf) | (refine W.ret ?_; conv => whnf))
    refine boolRes_split (fun hb => ?_) (fun hb => ?_) <;> conv => whnf
    · repeat (first | refine W.seq ?_ | (refine W.reg env hN (by kernel_rfl) ?_; conv => whnf) | refine W.condT rfl ?_ | refine W.condF rfl ?_ | (refine W.skip ?_; conv => whnf) | (refine W.exit ?_; conv => whnf) | refine W.block ?_ | (refine fun (hlen : (_ : Nat) ≤ _) => ?_; conv => whnf) | (refine okFp_intro (by kernel_rfl) ?_; conv => whnf) | (refine And.intro rfl ?_; conv => whnf) | (refine And.intro (by omega) ?_; conv => whnf) | (refine rowAt_of rfl ?_; conv => whnf) | (refine boolRes_true (by omega) ?_; conv => whnf) | (refine boolRes_false (by omega) ?_; conv => whnf) | (refine boolRes_true rfl ?_; conv => whnf) | (refine W.ret ?_; conv => whnf))
      exact ret0 rfl (congrArg V.bool (run_false hlt (by simp [okAt, hlt]; omega)).symm) (by simp [V.sites])
    · cases k with
      | zero =>
        repeat (first | refine W.seq ?_ | (refine W.reg env hN (by kernel_rfl) ?_; conv => whnf) | refine W.condT rfl ?_ | refine W.condF rfl ?_ | (refine W.skip ?_; conv => whnf) | (refine W.exit ?_; conv => whnf) | refine W.block ?_ | (refine fun (hlen : (_ : Nat) ≤ _) => ?_; conv => whnf) | (refine okFp_intro (by kernel_rfl) ?_; conv => whnf) | (refine And.intro rfl ?_; conv => whnf) | (refine And.intro (by omega) ?_; conv => whnf) | (refine rowAt_of rfl ?_; conv => whnf) | (refine boolRes_true (by omega) ?_; conv => whnf) | (refine boolRes_false (by omega) ?_; conv => whnf) | (refine boolRes_true rfl ?_; conv => whnf) | (refine W.ret ?_; conv => whnf))
        refine ⟨_, _, ?_, ⟨1, hlt, ?_, rfl, rfl⟩, Le.plain ⟨rfl, rfl, rfl, rfl, trivial⟩ rfl⟩
        · omega
        · intro i hi
          obtain rfl : i = 0 := by omega
          simp [okAt, hlt]; omega
      | succ k =>
        have hk1 : k < l.length := by omega
        have hx1 : (l.map Count.row)[k]? = some (Count.row l[k]) := by simp [hk1]
        repeat (first | refine W.seq ?_ | (refine W.reg env hN (by kernel_rfl) ?_; conv => whnf) | refine W.condT rfl ?_ | refine W.condF rfl ?_ | (refine W.skip ?_; conv => whnf) | (refine W.exit ?_; conv => whnf) | refine W.block ?_ | (refine fun (hlen : (_ : Nat) ≤ _) => ?_; conv => whnf) | (refine okFp_intro (by kernel_rfl) ?_; conv => whnf) | (refine And.intro rfl ?_; conv => whnf) | (refine And.intro (by omega) ?_; conv => whnf) | (refine rowAt_of rfl ?_; conv => whnf) | (refine boolRes_true (by omega) ?_; conv => whnf) | (refine boolRes_false (by omega) ?_; conv => whnf) | (refine boolRes_true rfl ?_; conv => whnf) | (refine W.ret ?_; conv => whnf))
        refine rowAt_of (by rw [show ((↑(k + 1) : Int) - 1).toNat = k from by omega]; exact hx1) ?_
        conv => whnf
        refine boolRes_split (fun hb => ?_) (fun hb => ?_) <;> conv => whnf
        · repeat (first | refine W.seq ?_ | (refine W.reg env hN (by kernel_rfl) ?_; conv => whnf) | refine W.condT rfl ?_ | refine W.condF rfl ?_ | (refine W.skip ?_; conv => whnf) | (refine W.exit ?_; conv => whnf) | refine W.block ?_ | (refine fun (hlen : (_ : Nat) ≤ _) => ?_; conv => whnf) | (refine okFp_intro (by kernel_rfl) ?_; conv => whnf) | (refine And.intro rfl ?_; conv => whnf) | (refine And.intro (by omega) ?_; conv => whnf) | (refine rowAt_of rfl ?_; conv => whnf) | (refine boolRes_true (by omega) ?_; conv => whnf) | (refine boolRes_false (by omega) ?_; conv => whnf) | (refine boolRes_true rfl ?_; conv => whnf) | (refine W.ret ?_; conv => whnf))
          exact ret0 rfl (congrArg V.bool (run_false hlt (by simp [okAt, hlt, hk1, hb]))).symm (by simp [V.sites])
        · repeat (first | refine W.seq ?_ | (refine W.reg env hN (by kernel_rfl) ?_; conv => whnf) | refine W.condT rfl ?_ | refine W.condF rfl ?_ | (refine W.skip ?_; conv => whnf) | (refine W.exit ?_; conv => whnf) | refine W.block ?_ | (refine fun (hlen : (_ : Nat) ≤ _) => ?_; conv => whnf) | (refine okFp_intro (by kernel_rfl) ?_; conv => whnf) | (refine And.intro rfl ?_; conv => whnf) | (refine And.intro (by omega) ?_; conv => whnf) | (refine rowAt_of rfl ?_; conv => whnf) | (refine boolRes_true (by omega) ?_; conv => whnf) | (refine boolRes_false (by omega) ?_; conv => whnf) | (refine boolRes_true rfl ?_; conv => whnf) | (refine W.ret ?_; conv => whnf))
          refine ⟨_, _, ?_, ⟨k + 1 + 1, hlt, ?_, rfl, rfl⟩, Le.plain ⟨rfl, rfl, rfl, rfl, trivial⟩ rfl⟩
          · omega
          · intro i hi
            rcases Nat.lt_or_ge i (k + 1) with h | h
            · exact hok i h
            · obtain rfl : i = k + 1 := by omega
              simp [okAt, hlt, hk1]
              refine ⟨by omega, by simpa using hb⟩
  · repeat (first | refine W.seq ?_ | (refine W.reg env hN (by kernel_rfl) ?_; conv => whnf) | refine W.condT rfl ?_ | refine W.condF rfl ?_ | (refine W.skip ?_; conv => whnf) | (refine W.exit ?_; conv => whnf) | refine W.block ?_ | (refine fun (hlen : (_ : Nat) ≤ _) => ?_; conv => whnf) | (refine okFp_intro (by kernel_rfl) ?_; conv => whnf) | (refine And.intro rfl ?_; conv => whnf) | (refine And.intro (by omega) ?_; conv => whnf) | (refine rowAt_of rfl ?_; conv => whnf) | (refine boolRes_true (by omega) ?_; conv => whnf) | (refine boolRes_false (by omega) ?_; conv => whnf) | (refine boolRes_true rfl ?_; conv => whnf) | (refine W.ret ?_; conv => whnf))
    exact ret0 rfl (congrArg V.bool (run_true fun i hi => hok i (by rw [hL] at hb; omega)).symm) (by simp [V.sites])
end Go.Sx.Sp
namespace Go.Sx.Sp
open Go Go.Sx Go.Proofs
set_option maxHeartbeats 1000000 in
theorem clone_own (rows : List (List V)) (hz : rowsSz rows 2) (hfit : fitsV rows.length 24) : Spec Try.prog 53 [.sl rows false] [] (.osl 5 0 0 rows.length rows.length) [(5, .rows 2 rows (some []))] := by
  refine Spec.body env Try.func53 rfl (by kernel_rfl) (Nat.le_of_ble_eq_true (by kernel_rfl)) (keysSub rfl) fun Γ hN hK => ?_; have hML : maxLen = 9223372036854775807 := by unfold maxLen; rfl
  cases rows with
  | nil =>
    refine W.seq ?_
    (refine W.reg env hN (by kernel_rfl) ?_; conv => whnf)
    refine W.nilSplit (full := false) 0 (by rfl) ?_ ?_
    · repeat (first | refine W.seq ?_ | (refine W.reg env hN (by kernel_rfl) ?_; conv => whnf) | refine W.condT rfl ?_ | refine W.condF rfl ?_ | (refine W.skip ?_; conv => whnf) | (refine W.exit ?_; conv => whnf) | refine W.block ?_ | (refine fun (hlen : (_ : Nat) ≤ _) => ?_; conv => whnf) | (refine okFp_intro (by kernel_rfl) ?_; conv => whnf) | (refine And.intro rfl ?_; conv => whnf) | (refine And.intro (by omega) ?_; conv => whnf) | (refine rowAt_of rfl ?_; conv => whnf) | (refine boolRes_true (by omega) ?_; conv => whnf) | (refine boolRes_false (by omega) ?_; conv => whnf) | (refine boolRes_true rfl ?_; conv => whnf))
      refine W.ownNil 2 5 2 rfl rfl ?_
      (refine W.ret ?_; conv => whnf)
      exact retH rfl (.refl _) rfl rfl rfl ⟨rfl, rfl, trivial⟩
    · repeat (first | refine W.seq ?_ | (refine W.reg env hN (by kernel_rfl) ?_; conv => whnf) | refine W.condT rfl ?_ | refine W.condF rfl ?_ | (refine W.skip ?_; conv => whnf) | (refine W.exit ?_; conv => whnf) | refine W.block ?_ | (refine fun (hlen : (_ : Nat) ≤ _) => ?_; conv => whnf) | (refine okFp_intro (by kernel_rfl) ?_; conv => whnf) | (refine And.intro rfl ?_; conv => whnf) | (refine And.intro (by omega) ?_; conv => whnf) | (refine rowAt_of rfl ?_; conv => whnf) | (refine boolRes_true (by omega) ?_; conv => whnf) | (refine boolRes_false (by omega) ?_; conv => whnf) | (refine boolRes_true rfl ?_; conv => whnf))
      refine ⟨⟨trivial, rfl⟩, ⟨by decide, by decide⟩, .inl ⟨rfl, rfl, ?_⟩⟩
      conv => whnf
      repeat (first | refine W.seq ?_ | (refine W.reg env hN (by kernel_rfl) ?_; conv => whnf) | refine W.condT rfl ?_ | refine W.condF rfl ?_ | (refine W.skip ?_; conv => whnf) | (refine W.exit ?_; conv => whnf) | refine W.block ?_ | (refine fun (hlen : (_ : Nat) ≤ _) => ?_; conv => whnf) | (refine okFp_intro (by kernel_rfl) ?_; conv => whnf) | (refine And.intro rfl ?_; conv => whnf) | (refine And.intro (by omega) ?_; conv => whnf) | (refine rowAt_of rfl ?_; conv => whnf) | (refine boolRes_true (by omega) ?_; conv => whnf) | (refine boolRes_false (by omega) ?_; conv => whnf) | (refine boolRes_true rfl ?_; conv => whnf))
      (refine W.ret ?_; conv => whnf)
      exact retH rfl (.refl _) rfl rfl rfl ⟨rfl, rfl, trivial⟩
  | cons r rs =>
    repeat (first | refine W.seq ?_ | (refine W.reg env hN (by kernel_rfl) ?_; conv => whnf) | refine W.condT rfl ?_ | refine W.condF rfl ?_ | (refine W.skip ?_; conv => whnf) | (refine W.exit ?_; conv => whnf) | refine W.block ?_ | (refine fun (hlen : (_ : Nat) ≤ _) => ?_; conv => whnf) | (refine okFp_intro (by kernel_rfl) ?_; conv => whnf) | (refine And.intro rfl ?_; conv => whnf) | (refine And.intro (by omega) ?_; conv => whnf) | (refine rowAt_of rfl ?_; conv => whnf) | (refine boolRes_true (by omega) ?_; conv => whnf) | (refine boolRes_false (by omega) ?_; conv => whnf) | (refine boolRes_true rfl ?_; conv => whnf))
    refine ⟨⟨hz, rfl⟩, by simpa using hfit, .inl ⟨rfl, rfl, ?_⟩⟩
    simp only [Nat.zero_add, List.nil_append]
    conv => whnf
    repeat (first | refine W.seq ?_ | (refine W.reg env hN (by kernel_rfl) ?_; conv => whnf) | refine W.condT rfl ?_ | refine W.condF rfl ?_ | (refine W.skip ?_; conv => whnf) | (refine W.exit ?_; conv => whnf) | refine W.block ?_ | (refine fun (hlen : (_ : Nat) ≤ _) => ?_; conv => whnf) | (refine okFp_intro (by kernel_rfl) ?_; conv => whnf) | (refine And.intro rfl ?_; conv => whnf) | (refine And.intro (by omega) ?_; conv => whnf) | (refine rowAt_of rfl ?_; conv => whnf) | (refine boolRes_true (by omega) ?_; conv => whnf) | (refine boolRes_false (by omega) ?_; conv => whnf) | (refine boolRes_true rfl ?_; conv => whnf))
    (refine W.ret ?_; conv => whnf)
    exact retH rfl (.refl _) rfl rfl rfl ⟨rfl, rfl, trivial⟩
set_option maxHeartbeats 1000000 in
theorem clone_data (rows : List (List V)) (hz : rowsSz rows 2) (hfit : fitsV rows.length 24) : Spec Try.prog 53 [.sl rows false] [] (.sl rows false) [] := by
  refine Spec.body env Try.func53 rfl (by kernel_rfl) (Nat.le_of_ble_eq_true (by kernel_rfl)) (keysSub rfl) fun Γ hN hK => ?_; have hML : maxLen = 9223372036854775807 := by unfold maxLen; rfl
  cases rows with
  | nil =>
    refine W.seq ?_
    (refine W.reg env hN (by kernel_rfl) ?_; conv => whnf)
    refine W.nilSplit (full := false) 0 (by rfl) ?_ ?_
    · repeat (first | refine W.seq ?_ | (refine W.reg env hN (by kernel_rfl) ?_; conv => whnf) | refine W.condT rfl ?_ | refine W.condF rfl ?_ | (refine W.skip ?_; conv => whnf) | (refine W.exit ?_; conv => whnf) | refine W.block ?_ | (refine fun (hlen : (_ : Nat) ≤ _) => ?_; conv => whnf) | (refine okFp_intro (by kernel_rfl) ?_; conv => whnf) | (refine And.intro rfl ?_; conv => whnf) | (refine And.intro (by omega) ?_; conv => whnf) | (refine rowAt_of rfl ?_; conv => whnf) | (refine boolRes_true (by omega) ?_; conv => whnf) | (refine boolRes_false (by omega) ?_; conv => whnf) | (refine boolRes_true rfl ?_; conv => whnf) | (refine W.ret ?_; conv => whnf))
      exact ret0 rfl rfl rfl
    · repeat (first | refine W.seq ?_ | (refine W.reg env hN (by kernel_rfl) ?_; conv => whnf) | refine W.condT rfl ?_ | refine W.condF rfl ?_ | (refine W.skip ?_; conv => whnf) | (refine W.exit ?_; conv => whnf) | refine W.block ?_ | (refine fun (hlen : (_ : Nat) ≤ _) => ?_; conv => whnf) | (refine okFp_intro (by kernel_rfl) ?_; conv => whnf) | (refine And.intro rfl ?_; conv => whnf) | (refine And.intro (by omega) ?_; conv => whnf) | (refine rowAt_of rfl ?_; conv => whnf) | (refine boolRes_true (by omega) ?_; conv => whnf) | (refine boolRes_false (by omega) ?_; conv => whnf) | (refine boolRes_true rfl ?_; conv => whnf))
      refine ⟨⟨trivial, rfl⟩, ⟨by decide, by decide⟩, .inl ⟨rfl, rfl, ?_⟩⟩
      conv => whnf
      repeat (first | refine W.seq ?_ | (refine W.reg env hN (by kernel_rfl) ?_; conv => whnf) | refine W.condT rfl ?_ | refine W.condF rfl ?_ | (refine W.skip ?_; conv => whnf) | (refine W.exit ?_; conv => whnf) | refine W.block ?_ | (refine fun (hlen : (_ : Nat) ≤ _) => ?_; conv => whnf) | (refine okFp_intro (by kernel_rfl) ?_; conv => whnf) | (refine And.intro rfl ?_; conv => whnf) | (refine And.intro (by omega) ?_; conv => whnf) | (refine rowAt_of rfl ?_; conv => whnf) | (refine boolRes_true (by omega) ?_; conv => whnf) | (refine boolRes_false (by omega) ?_; conv => whnf) | (refine boolRes_true rfl ?_; conv => whnf))
      refine W.leG (mp := []) (bo := [5]) (st' := ⟨[(2, .sl [] false)], [], []⟩) (LeG.mk' rfl rfl rfl ⟨⟨_, Lent.whole rfl rfl rfl rfl (.inl rfl), rfl⟩, trivial⟩ .nil rfl rfl (by rw [hK]; rfl)) ?_
      (refine W.ret ?_; conv => whnf)
      exact ret0 rfl rfl rfl
  | cons r rs =>
    repeat (first | refine W.seq ?_ | (refine W.reg env hN (by kernel_rfl) ?_; conv => whnf) | refine W.condT rfl ?_ | refine W.condF rfl ?_ | (refine W.skip ?_; conv => whnf) | (refine W.exit ?_; conv => whnf) | refine W.block ?_ | (refine fun (hlen : (_ : Nat) ≤ _) => ?_; conv => whnf) | (refine okFp_intro (by kernel_rfl) ?_; conv => whnf) | (refine And.intro rfl ?_; conv => whnf) | (refine And.intro (by omega) ?_; conv => whnf) | (refine rowAt_of rfl ?_; conv => whnf) | (refine boolRes_true (by omega) ?_; conv => whnf) | (refine boolRes_false (by omega) ?_; conv => whnf) | (refine boolRes_true rfl ?_; conv => whnf))
    refine ⟨⟨hz, rfl⟩, by simpa using hfit, .inl ⟨rfl, rfl, ?_⟩⟩
    simp only [Nat.zero_add, List.nil_append]
    conv => whnf
    repeat (first | refine W.seq ?_ | (refine W.reg env hN (by kernel_rfl) ?_; conv => whnf) | refine W.condT rfl ?_ | refine W.condF rfl ?_ | (refine W.skip ?_; conv => whnf) | (refine W.exit ?_; conv => whnf) | refine W.block ?_ | (refine fun (hlen : (_ : Nat) ≤ _) => ?_; conv => whnf) | (refine okFp_intro (by kernel_rfl) ?_; conv => whnf) | (refine And.intro rfl ?_; conv => whnf) | (refine And.intro (by omega) ?_; conv => whnf) | (refine rowAt_of rfl ?_; conv => whnf) | (refine boolRes_true (by omega) ?_; conv => whnf) | (refine boolRes_false (by omega) ?_; conv => whnf) | (refine boolRes_true rfl ?_; conv => whnf))
    refine W.leG (mp := []) (bo := [5]) (st' := ⟨[(2, .sl (r :: rs) false)], [], []⟩) (LeG.mk' rfl rfl rfl ⟨⟨_, Lent.whole rfl rfl rfl rfl (.inl rfl), rfl⟩, trivial⟩ .nil rfl rfl (by rw [hK]; rfl)) ?_
    (refine W.ret ?_; conv => whnf)
    exact ret0 rfl rfl rfl
set_option maxHeartbeats 1000000 in
theorem clone2_own (rows : List (List V)) (hz : rowsSz rows 1) (hfit : fitsV rows.length 24) : Spec Try.prog 55 [.sl rows false] [] (.osl 5 0 0 rows.length rows.length) [(5, .rows 1 rows (some []))] := by
  refine Spec.body env Try.func55 rfl (by kernel_rfl) (Nat.le_of_ble_eq_true (by kernel_rfl)) (keysSub rfl) fun Γ hN hK => ?_; have hML : maxLen = 9223372036854775807 := by unfold maxLen; rfl
  cases rows with
  | nil =>
    refine W.seq ?_
    (refine W.reg env hN (by kernel_rfl) ?_; conv => whnf)
    refine W.nilSplit (full := false) 0 (by rfl) ?_ ?_
    · repeat (first | refine W.seq ?_ | (refine W.reg env hN (by kernel_rfl) ?_; conv => whnf) | refine W.condT rfl ?_ | refine W.condF rfl ?_ | (refine W.skip ?_; conv => whnf) | (refine W.exit ?_; conv => whnf) | refine W.block ?_ | (refine fun (hlen : (_ : Nat) ≤ _) => ?_; conv => whnf) | (refine okFp_intro (by kernel_rfl) ?_; conv => whnf) | (refine And.intro rfl ?_; conv => whnf) | (refine And.intro (by omega) ?_; conv => whnf) | (refine rowAt_of rfl ?_; conv => whnf) | (refine boolRes_true (by omega) ?_; conv => whnf) | (refine boolRes_false (by omega) ?_; conv => whnf) | (refine boolRes_true rfl ?_; conv => whnf))
      refine W.ownNil 2 5 1 rfl rfl ?_
      (refine W.ret ?_; conv => whnf)
      exact retH rfl (.refl _) rfl rfl rfl ⟨rfl, rfl, trivial⟩
    · repeat (first | refine W.seq ?_ | (refine W.reg env hN (by kernel_rfl) ?_; conv => whnf) | refine W.condT rfl ?_ | refine W.condF rfl ?_ | (refine W.skip ?_; conv => whnf) | (refine W.exit ?_; conv => whnf) | refine W.block ?_ | (refine fun (hlen : (_ : Nat) ≤ _) => ?_; conv => whnf) | (refine okFp_intro (by kernel_rfl) ?_; conv => whnf) | (refine And.intro rfl ?_; conv => whnf) | (refine And.intro (by omega) ?_; conv => whnf) | (refine rowAt_of rfl ?_; conv => whnf) | (refine boolRes_true (by omega) ?_; conv => whnf) | (refine boolRes_false (by omega) ?_; conv => whnf) | (refine boolRes_true rfl ?_; conv => whnf))
      refine ⟨⟨trivial, rfl⟩, ⟨by decide, by decide⟩, .inl ⟨rfl, rfl, ?_⟩⟩
      conv => whnf
      repeat (first | refine W.seq ?_ | (refine W.reg env hN (by kernel_rfl) ?_; conv => whnf) | refine W.condT rfl ?_ | refine W.condF rfl ?_ | (refine W.skip ?_; conv => whnf) | (refine W.exit ?_; conv => whnf) | refine W.block ?_ | (refine fun (hlen : (_ : Nat) ≤ _) => ?_; conv => whnf) | (refine okFp_intro (by kernel_rfl) ?_; conv => whnf) | (refine And.intro rfl ?_; conv => whnf) | (refine And.intro (by omega) ?_; conv => whnf) | (refine rowAt_of rfl ?_; conv => whnf) | (refine boolRes_true (by omega) ?_; conv => whnf) | (refine boolRes_false (by omega) ?_; conv => whnf) | (refine boolRes_true rfl ?_; conv => whnf))
      (refine W.ret ?_; conv => whnf)
      exact retH rfl (.refl _) rfl rfl rfl ⟨rfl, rfl, trivial⟩
  | cons r rs =>
    repeat (first | refine W.seq ?_ | (refine W.reg env hN (by kernel_rfl) ?_; conv => whnf) | refine W.condT rfl ?_ | refine W.condF rfl ?_ | (refine W.skip ?_; conv => whnf) | (refine W.exit ?_; conv => whnf) | refine W.block ?_ | (refine fun (hlen : (_ : Nat) ≤ _) => ?_; conv => whnf) | (refine okFp_intro (by kernel_rfl) ?_; conv => whnf) | (refine And.intro rfl ?_; conv => whnf) | (refine And.intro (by omega) ?_; conv => whnf) | (refine rowAt_of rfl ?_; conv => whnf) | (refine boolRes_true (by omega) ?_; conv => whnf) | (refine boolRes_false (by omega) ?_; conv => whnf) | (refine boolRes_true rfl ?_; conv => whnf))
    refine ⟨⟨hz, rfl⟩, by simpa using hfit, .inl ⟨rfl, rfl, ?_⟩⟩
    simp only [Nat.zero_add, List.nil_append]
    conv => whnf
    repeat (first | refine W.seq ?_ | (refine W.reg env hN (by kernel_rfl) ?_; conv => whnf) | refine W.condT rfl ?_ | refine W.condF rfl ?_ | (refine W.skip ?_; conv => whnf) | (refine W.exit ?_; conv => whnf) | refine W.block ?_ | (refine fun (hlen : (_ : Nat) ≤ _) => ?_; conv => whnf) | (refine okFp_intro (by kernel_rfl) ?_; conv => whnf) | (refine And.intro rfl ?_; conv => whnf) | (refine And.intro (by omega) ?_; conv => whnf) | (refine rowAt_of rfl ?_; conv => whnf) | (refine boolRes_true (by omega) ?_; conv => whnf) | (refine boolRes_false (by omega) ?_; conv => whnf) | (refine boolRes_true rfl ?_; conv => whnf))
    (refine W.ret ?_; conv => whnf)
    exact retH rfl (.refl _) rfl rfl rfl ⟨rfl, rfl, trivial⟩
structure Spill where
  mem : Int
  buf : List Count
  runs : List (List Count)
  peak : Int
  written : Int
  deriving DecidableEq
def countRows (l : List Count) : List (List V) := l.map Count.row
def runRows (l : List (List Count)) : List (List V) := l.map fun r => [.sl (countRows r) false]
def Spill.v (s : Spill) : V := .agg [.int .i64 s.mem, .sl (countRows s.buf) false, .sl (runRows s.runs) false, .int .i64 s.peak, .int .i64 s.written]
def Spill.blk (s : Spill) : Blk := .rows 5 [[.int .i64 s.mem, .sl (countRows s.buf) false, .sl (runRows s.runs) false, .int .i64 s.peak, .int .i64 s.written]] none
def Spill.own (s : Spill) (kb kr : Nat) : Blk := .rows 5 [[.int .i64 s.mem, .osl kb 0 0 (countRows s.buf).length (countRows s.buf).length, .osl kr 0 0 (runRows s.runs).length (runRows s.runs).length, .int .i64 s.peak, .int .i64 s.written]] none
structure Spill.Small (s : Spill) : Prop where
  buf : s.buf.length ≤ 4294967296
  runs : s.runs.length ≤ 4294967296
  run : ∀ r ∈ s.runs, r.length ≤ 4294967296
theorem countRows_len (l : List Count) : (countRows l).length = l.length := by simp [countRows]
theorem runRows_len (l : List (List Count)) : (runRows l).length = l.length := by simp [runRows]
theorem countRows_sz (l : List Count) : rowsSz (countRows l) 2 := by
  unfold rowsSz
  intro r hr
  obtain ⟨c, _, rfl⟩ := List.mem_map.1 hr
  rfl
theorem runRows_sz (l : List (List Count)) : rowsSz (runRows l) 1 := by
  unfold rowsSz
  intro r hr
  obtain ⟨c, _, rfl⟩ := List.mem_map.1 hr
  rfl
theorem fits24 {n : Nat} (h : n ≤ 1099511627776) : fitsV n 24 := ⟨by omega, by omega⟩
set_option maxHeartbeats 1000000 in
theorem own_data (s : Spill) (hs : s.Small) : Spec Try.prog 42 [s.v] [] (.bp 1 0) [(1, s.blk)] := by
  refine Spec.body env Try.func42 rfl (by kernel_rfl) (Nat.le_of_ble_eq_true (by kernel_rfl)) (keysSub rfl) fun Γ hN hK => ?_; have hML : maxLen = 9223372036854775807 := by unfold maxLen; rfl
  repeat (first | refine W.seq ?_ | (refine W.reg env hN (by kernel_rfl) ?_; conv => whnf) | refine W.condT rfl ?_ | refine W.condF rfl ?_ | (refine W.skip ?_; conv => whnf) | (refine W.exit ?_; conv => whnf) | refine W.block ?_ | (refine fun (hlen : (_ : Nat) ≤ _) => ?_; conv => whnf) | (refine okFp_intro (by kernel_rfl) ?_; conv => whnf) | (refine And.intro rfl ?_; conv => whnf) | (refine And.intro (by omega) ?_; conv => whnf) | (refine rowAt_of rfl ?_; conv => whnf) | (refine boolRes_true (by omega) ?_; conv => whnf) | (refine boolRes_false (by omega) ?_; conv => whnf) | (refine boolRes_true rfl ?_; conv => whnf))
  (refine ⟨_, _, _, callG [] [] [] rfl rfl rfl (by kernel_rfl) (clone_data (countRows s.buf) (countRows_sz _) (fits24 (by rw [countRows_len]; have := hs.buf; omega))) (by repeat' (first | exact trivial | exact Lent.refl _ | exact Lent.norm _ | apply And.intro)) rfl ⟨rfl, rfl, rfl, rfl, rfl, by repeat' (first | exact trivial | rfl | apply And.intro), rfl, rfl⟩, ?_⟩; conv => whnf)
  repeat (first | refine W.seq ?_ | (refine W.reg env hN (by kernel_rfl) ?_; conv => whnf) | refine W.condT rfl ?_ | refine W.condF rfl ?_ | (refine W.skip ?_; conv => whnf) | (refine W.exit ?_; conv => whnf) | refine W.block ?_ | (refine fun (hlen : (_ : Nat) ≤ _) => ?_; conv => whnf) | (refine okFp_intro (by kernel_rfl) ?_; conv => whnf) | (refine And.intro rfl ?_; conv => whnf) | (refine And.intro (by omega) ?_; conv => whnf) | (refine rowAt_of rfl ?_; conv => whnf) | (refine boolRes_true (by omega) ?_; conv => whnf) | (refine boolRes_false (by omega) ?_; conv => whnf) | (refine boolRes_true rfl ?_; conv => whnf))
  (refine ⟨_, _, _, callG [] [(5, 11)] [] rfl rfl rfl (by kernel_rfl) (clone2_own (runRows s.runs) (runRows_sz _) (fits24 (by rw [runRows_len]; have := hs.runs; omega))) (by repeat' (first | exact trivial | exact Lent.refl _ | exact Lent.norm _ | apply And.intro)) rfl ⟨rfl, rfl, rfl, rfl, rfl, by repeat' (first | exact trivial | rfl | apply And.intro), rfl, rfl⟩, ?_⟩; conv => whnf)
  repeat (first | refine W.seq ?_ | (refine W.reg env hN (by kernel_rfl) ?_; conv => whnf) | refine W.condT rfl ?_ | refine W.condF rfl ?_ | (refine W.skip ?_; conv => whnf) | (refine W.exit ?_; conv => whnf) | refine W.block ?_ | (refine fun (hlen : (_ : Nat) ≤ _) => ?_; conv => whnf) | (refine okFp_intro (by kernel_rfl) ?_; conv => whnf) | (refine And.intro rfl ?_; conv => whnf) | (refine And.intro (by omega) ?_; conv => whnf) | (refine rowAt_of rfl ?_; conv => whnf) | (refine boolRes_true (by omega) ?_; conv => whnf) | (refine boolRes_false (by omega) ?_; conv => whnf) | (refine boolRes_true rfl ?_; conv => whnf))
  have hrl : (runRows s.runs).length = s.runs.length := runRows_len _
  refine W.loopG (fun n st => ∃ k, k ≤ s.runs.length ∧ n = s.runs.length - k ∧ st = ⟨[(1, .bp 1 0), (14, .osl 11 0 0 (runRows s.runs).length (runRows s.runs).length), (15, .int .i64 (runRows s.runs).length), (16, .int .i64 k)], [(1, [.rows 5 [[.int .i64 s.mem, .sl (countRows s.buf) false, .osl 11 0 0 (runRows s.runs).length (runRows s.runs).length, .int .i64 s.peak, .int .i64 s.written]] none]), (11, [.rows 1 (runRows s.runs) (some [])])], [1, 11]⟩)
    s.runs.length _ ⟨0, Nat.zero_le _, rfl, rfl⟩ ⟨[(1, 1), (11, 11)], [], [], LeG.mk' rfl rfl rfl (by repeat' (first | exact trivial | exact ⟨_, .refl _, rfl⟩ | apply And.intro)) (.cons 1 rfl rfl (.refl _) rfl (.cons 11 rfl rfl (.refl _) rfl .nil)) rfl rfl (by rw [hK]; rfl)⟩ ?_
  rintro n st ⟨k, hk, rfl, rfl⟩
  have hsr := hs.runs
  repeat (first | refine W.seq ?_ | (refine W.reg env hN (by kernel_rfl) ?_; conv => whnf) | refine W.condT rfl ?_ | refine W.condF rfl ?_ | (refine W.skip ?_; conv => whnf) | (refine W.exit ?_; conv => whnf) | refine W.block ?_ | (refine fun (hlen : (_ : Nat) ≤ _) => ?_; conv => whnf) | (refine okFp_intro (by kernel_rfl) ?_; conv => whnf) | (refine And.intro rfl ?_; conv => whnf) | (refine And.intro (by omega) ?_; conv => whnf) | (refine rowAt_of rfl ?_; conv => whnf) | (refine boolRes_true (by omega) ?_; conv => whnf) | (refine boolRes_false (by omega) ?_; conv => whnf) | (refine boolRes_true rfl ?_; conv => whnf))
  refine boolRes_split (fun hb => ?_) (fun hb => ?_) <;> conv => whnf
  · have hlt : k < s.runs.length := by omega
    have hx : (runRows s.runs)[k]? = some [.sl (countRows s.runs[k]) false] := by simp [runRows, hlt]
    repeat (first | refine W.seq ?_ | (refine W.reg env hN (by kernel_rfl) ?_; conv => whnf) | refine W.condT rfl ?_ | refine W.condF rfl ?_ | (refine W.skip ?_; conv => whnf) | (refine W.exit ?_; conv => whnf) | refine W.block ?_ | (refine fun (hlen : (_ : Nat) ≤ _) => ?_; conv => whnf) | (refine okFp_intro (by kernel_rfl) ?_; conv => whnf) | (refine And.intro rfl ?_; conv => whnf) | (refine And.intro (by omega) ?_; conv => whnf) | (refine rowAt_of rfl ?_; conv => whnf) | (refine boolRes_true (by omega) ?_; conv => whnf) | (refine boolRes_false (by omega) ?_; conv => whnf) | (refine boolRes_true rfl ?_; conv => whnf))
    refine rowAt_of (by simpa using hx) ?_
    conv => whnf
    repeat (first | refine W.seq ?_ | (refine W.reg env hN (by kernel_rfl) ?_; conv => whnf) | refine W.condT rfl ?_ | refine W.condF rfl ?_ | (refine W.skip ?_; conv => whnf) | (refine W.exit ?_; conv => whnf) | refine W.block ?_ | (refine fun (hlen : (_ : Nat) ≤ _) => ?_; conv => whnf) | (refine okFp_intro (by kernel_rfl) ?_; conv => whnf) | (refine And.intro rfl ?_; conv => whnf) | (refine And.intro (by omega) ?_; conv => whnf) | (refine rowAt_of rfl ?_; conv => whnf) | (refine boolRes_true (by omega) ?_; conv => whnf) | (refine boolRes_false (by omega) ?_; conv => whnf) | (refine boolRes_true rfl ?_; conv => whnf))
    (refine ⟨_, _, _, callG [] [] [] rfl rfl rfl (by kernel_rfl) (clone_data (countRows s.runs[k]) (countRows_sz _) (fits24 (by rw [countRows_len]; have := hs.run _ (List.getElem_mem hlt); omega))) (by repeat' (first | exact trivial | exact Lent.refl _ | exact Lent.norm _ | apply And.intro)) rfl ⟨rfl, rfl, rfl, rfl, rfl, by repeat' (first | exact trivial | rfl | apply And.intro), rfl, rfl⟩, ?_⟩; conv => whnf)
    repeat (first | refine W.seq ?_ | (refine W.reg env hN (by kernel_rfl) ?_; conv => whnf) | refine W.condT rfl ?_ | refine W.condF rfl ?_ | (refine W.skip ?_; conv => whnf) | (refine W.exit ?_; conv => whnf) | refine W.block ?_ | (refine fun (hlen : (_ : Nat) ≤ _) => ?_; conv => whnf) | (refine okFp_intro (by kernel_rfl) ?_; conv => whnf) | (refine And.intro rfl ?_; conv => whnf) | (refine And.intro (by omega) ?_; conv => whnf) | (refine rowAt_of rfl ?_; conv => whnf) | (refine boolRes_true (by omega) ?_; conv => whnf) | (refine boolRes_false (by omega) ?_; conv => whnf) | (refine boolRes_true rfl ?_; conv => whnf))
    refine rowAt_of (by simpa using hx) ?_
    conv => whnf
    repeat (first | refine W.seq ?_ | (refine W.reg env hN (by kernel_rfl) ?_; conv => whnf) | refine W.condT rfl ?_ | refine W.condF rfl ?_ | (refine W.skip ?_; conv => whnf) | (refine W.exit ?_; conv => whnf) | refine W.block ?_ | (refine fun (hlen : (_ : Nat) ≤ _) => ?_; conv => whnf) | (refine okFp_intro (by kernel_rfl) ?_; conv => whnf) | (refine And.intro rfl ?_; conv => whnf) | (refine And.intro (by omega) ?_; conv => whnf) | (refine rowAt_of rfl ?_; conv => whnf) | (refine boolRes_true (by omega) ?_; conv => whnf) | (refine boolRes_false (by omega) ?_; conv => whnf) | (refine boolRes_true rfl ?_; conv => whnf))
    have hset : (runRows s.runs).set (0 + (k : Int).toNat) [.sl (countRows s.runs[k]) false] = runRows s.runs := set_same (by simpa using hx)
    refine ⟨_, _, ?_, ⟨k + 1, by omega, rfl, rfl⟩, [(1, 1), (11, 11)], [], [], LeG.mk' rfl rfl rfl (by repeat' (first | exact trivial | exact ⟨_, .refl _, rfl⟩ | apply And.intro)) (.cons 1 rfl rfl (.refl _) rfl (.cons 11 rfl rfl (.refl _) (congrArg (fun r => [Blk.rows 1 r (some [])]) hset.symm) .nil)) rfl rfl (by rw [hK]; rfl)⟩
    omega
  · repeat (first | refine W.seq ?_ | (refine W.reg env hN (by kernel_rfl) ?_; conv => whnf) | refine W.condT rfl ?_ | refine W.condF rfl ?_ | (refine W.skip ?_; conv => whnf) | (refine W.exit ?_; conv => whnf) | refine W.block ?_ | (refine fun (hlen : (_ : Nat) ≤ _) => ?_; conv => whnf) | (refine okFp_intro (by kernel_rfl) ?_; conv => whnf) | (refine And.intro rfl ?_; conv => whnf) | (refine And.intro (by omega) ?_; conv => whnf) | (refine rowAt_of rfl ?_; conv => whnf) | (refine boolRes_true (by omega) ?_; conv => whnf) | (refine boolRes_false (by omega) ?_; conv => whnf) | (refine boolRes_true rfl ?_; conv => whnf))
    refine W.leG (mp := [(1, 1)]) (bo := [11]) (st' := ⟨[(2, .bp 1 0)], [(1, [s.blk])], [1]⟩) (LeG.mk' rfl rfl rfl (by repeat' (first | exact trivial | exact ⟨_, .refl _, rfl⟩ | apply And.intro)) (.cons 1 (b1 := s.blk) rfl rfl (.rows _ _ _ (by repeat' (first | exact trivial | exact ⟨Lent.refl _, rfl⟩ | exact ⟨Lent.norm _, rfl⟩ | exact ⟨Lent.whole rfl rfl (by first | rfl | simp) rfl (by first | exact .inl rfl | exact .inr rfl), rfl⟩ | apply And.intro))) rfl .nil) rfl rfl (by rw [hK]; rfl)) ?_
    (refine W.ret ?_; conv => whnf)
    exact retH rfl (.refl _) rfl rfl rfl ⟨rfl, rfl, trivial⟩
set_option maxHeartbeats 1000000 in
theorem own_own (s : Spill) (hs : s.Small) : Spec Try.prog 42 [s.v] [] (.bp 1 0) [(1, s.own 7 11), (7, .rows 2 (countRows s.buf) (some [])), (11, .rows 1 (runRows s.runs) (some []))] := by
  refine Spec.body env Try.func42 rfl (by kernel_rfl) (Nat.le_of_ble_eq_true (by kernel_rfl)) (keysSub rfl) fun Γ hN hK => ?_; have hML : maxLen = 9223372036854775807 := by unfold maxLen; rfl
  repeat (first | refine W.seq ?_ | (refine W.reg env hN (by kernel_rfl) ?_; conv => whnf) | refine W.condT rfl ?_ | refine W.condF rfl ?_ | (refine W.skip ?_; conv => whnf) | (refine W.exit ?_; conv => whnf) | refine W.block ?_ | (refine fun (hlen : (_ : Nat) ≤ _) => ?_; conv => whnf) | (refine okFp_intro (by kernel_rfl) ?_; conv => whnf) | (refine And.intro rfl ?_; conv => whnf) | (refine And.intro (by omega) ?_; conv => whnf) | (refine rowAt_of rfl ?_; conv => whnf) | (refine boolRes_true (by omega) ?_; conv => whnf) | (refine boolRes_false (by omega) ?_; conv => whnf) | (refine boolRes_true rfl ?_; conv => whnf))
  (refine ⟨_, _, _, callG [] [(5, 7)] [] rfl rfl rfl (by kernel_rfl) (clone_own (countRows s.buf) (countRows_sz _) (fits24 (by rw [countRows_len]; have := hs.buf; omega))) (by repeat' (first | exact trivial | exact Lent.refl _ | exact Lent.norm _ | apply And.intro)) rfl ⟨rfl, rfl, rfl, rfl, rfl, by repeat' (first | exact trivial | rfl | apply And.intro), rfl, rfl⟩, ?_⟩; conv => whnf)
  repeat (first | refine W.seq ?_ | (refine W.reg env hN (by kernel_rfl) ?_; conv => whnf) | refine W.condT rfl ?_ | refine W.condF rfl ?_ | (refine W.skip ?_; conv => whnf) | (refine W.exit ?_; conv => whnf) | refine W.block ?_ | (refine fun (hlen : (_ : Nat) ≤ _) => ?_; conv => whnf) | (refine okFp_intro (by kernel_rfl) ?_; conv => whnf) | (refine And.intro rfl ?_; conv => whnf) | (refine And.intro (by omega) ?_; conv => whnf) | (refine rowAt_of rfl ?_; conv => whnf) | (refine boolRes_true (by omega) ?_; conv => whnf) | (refine boolRes_false (by omega) ?_; conv => whnf) | (refine boolRes_true rfl ?_; conv => whnf))
  (refine ⟨_, _, _, callG [] [(5, 11)] [] rfl rfl rfl (by kernel_rfl) (clone2_own (runRows s.runs) (runRows_sz _) (fits24 (by rw [runRows_len]; have := hs.runs; omega))) (by repeat' (first | exact trivial | exact Lent.refl _ | exact Lent.norm _ | apply And.intro)) rfl ⟨rfl, rfl, rfl, rfl, rfl, by repeat' (first | exact trivial | rfl | apply And.intro), rfl, rfl⟩, ?_⟩; conv => whnf)
  repeat (first | refine W.seq ?_ | (refine W.reg env hN (by kernel_rfl) ?_; conv => whnf) | refine W.condT rfl ?_ | refine W.condF rfl ?_ | (refine W.skip ?_; conv => whnf) | (refine W.exit ?_; conv => whnf) | refine W.block ?_ | (refine fun (hlen : (_ : Nat) ≤ _) => ?_; conv => whnf) | (refine okFp_intro (by kernel_rfl) ?_; conv => whnf) | (refine And.intro rfl ?_; conv => whnf) | (refine And.intro (by omega) ?_; conv => whnf) | (refine rowAt_of rfl ?_; conv => whnf) | (refine boolRes_true (by omega) ?_; conv => whnf) | (refine boolRes_false (by omega) ?_; conv => whnf) | (refine boolRes_true rfl ?_; conv => whnf))
  have hrl : (runRows s.runs).length = s.runs.length := runRows_len _
  refine W.loopG (fun n st => ∃ k, k ≤ s.runs.length ∧ n = s.runs.length - k ∧ st = ⟨[(1, .bp 1 0), (14, .osl 11 0 0 (runRows s.runs).length (runRows s.runs).length), (15, .int .i64 (runRows s.runs).length), (16, .int .i64 k)], [(1, [.rows 5 [[.int .i64 s.mem, .osl 7 0 0 (countRows s.buf).length (countRows s.buf).length, .osl 11 0 0 (runRows s.runs).length (runRows s.runs).length, .int .i64 s.peak, .int .i64 s.written]] none]), (7, [.rows 2 (countRows s.buf) (some [])]), (11, [.rows 1 (runRows s.runs) (some [])])], [1, 7, 11]⟩)
    s.runs.length _ ⟨0, Nat.zero_le _, rfl, rfl⟩ ⟨[(1, 1), (7, 7), (11, 11)], [], [], LeG.mk' rfl rfl rfl (by repeat' (first | exact trivial | exact ⟨_, .refl _, rfl⟩ | apply And.intro)) (.cons 1 rfl rfl (.refl _) rfl (.cons 7 rfl rfl (.refl _) rfl (.cons 11 rfl rfl (.refl _) rfl .nil))) rfl rfl (by rw [hK]; rfl)⟩ ?_
  rintro n st ⟨k, hk, rfl, rfl⟩
  have hsr := hs.runs
  repeat (first | refine W.seq ?_ | (refine W.reg env hN (by kernel_rfl) ?_; conv => whnf) | refine W.condT rfl ?_ | refine W.condF rfl ?_ | (refine W.skip ?_; conv => whnf) | (refine W.exit ?_; conv => whnf) | refine W.block ?_ | (refine fun (hlen : (_ : Nat) ≤ _) => ?_; conv => whnf) | (refine okFp_intro (by kernel_rfl) ?_; conv => whnf) | (refine And.intro rfl ?_; conv => whnf) | (refine And.intro (by omega) ?_; conv => whnf) | (refine rowAt_of rfl ?_; conv => whnf) | (refine boolRes_true (by omega) ?_; conv => whnf) | (refine boolRes_false (by omega) ?_; conv => whnf) | (refine boolRes_true rfl ?_; conv => whnf))
  refine boolRes_split (fun hb => ?_) (fun hb => ?_) <;> conv => whnf
  · have hlt : k < s.runs.length := by omega
    have hx : (runRows s.runs)[k]? = some [.sl (countRows s.runs[k]) false] := by simp [runRows, hlt]
    repeat (first | refine W.seq ?_ | (refine W.reg env hN (by kernel_rfl) ?_; conv => whnf) | refine W.condT rfl ?_ | refine W.condF rfl ?_ | (refine W.skip ?_; conv => whnf) | (refine W.exit ?_; conv => whnf) | refine W.block ?_ | (refine fun (hlen : (_ : Nat) ≤ _) => ?_; conv => whnf) | (refine okFp_intro (by kernel_rfl) ?_; conv => whnf) | (refine And.intro rfl ?_; conv => whnf) | (refine And.intro (by omega) ?_; conv => whnf) | (refine rowAt_of rfl ?_; conv => whnf) | (refine boolRes_true (by omega) ?_; conv => whnf) | (refine boolRes_false (by omega) ?_; conv => whnf) | (refine boolRes_true rfl ?_; conv => whnf))
    refine rowAt_of (by simpa using hx) ?_
    conv => whnf
    repeat (first | refine W.seq ?_ | (refine W.reg env hN (by kernel_rfl) ?_; conv => whnf) | refine W.condT rfl ?_ | refine W.condF rfl ?_ | (refine W.skip ?_; conv => whnf) | (refine W.exit ?_; conv => whnf) | refine W.block ?_ | (refine fun (hlen : (_ : Nat) ≤ _) => ?_; conv => whnf) | (refine okFp_intro (by kernel_rfl) ?_; conv => whnf) | (refine And.intro rfl ?_; conv => whnf) | (refine And.intro (by omega) ?_; conv => whnf) | (refine rowAt_of rfl ?_; conv => whnf) | (refine boolRes_true (by omega) ?_; conv => whnf) | (refine boolRes_false (by omega) ?_; conv => whnf) | (refine boolRes_true rfl ?_; conv => whnf))
    (refine ⟨_, _, _, callG [] [] [] rfl rfl rfl (by kernel_rfl) (clone_data (countRows s.runs[k]) (countRows_sz _) (fits24 (by rw [countRows_len]; have := hs.run _ (List.getElem_mem hlt); omega))) (by repeat' (first | exact trivial | exact Lent.refl _ | exact Lent.norm _ | apply And.intro)) rfl ⟨rfl, rfl, rfl, rfl, rfl, by repeat' (first | exact trivial | rfl | apply And.intro), rfl, rfl⟩, ?_⟩; conv => whnf)
    repeat (first | refine W.seq ?_ | (refine W.reg env hN (by kernel_rfl) ?_; conv => whnf) | refine W.condT rfl ?_ | refine W.condF rfl ?_ | (refine W.skip ?_; conv => whnf) | (refine W.exit ?_; conv => whnf) | refine W.block ?_ | (refine fun (hlen : (_ : Nat) ≤ _) => ?_; conv => whnf) | (refine okFp_intro (by kernel_rfl) ?_; conv => whnf) | (refine And.intro rfl ?_; conv => whnf) | (refine And.intro (by omega) ?_; conv => whnf) | (refine rowAt_of rfl ?_; conv => whnf) | (refine boolRes_true (by omega) ?_; conv => whnf) | (refine boolRes_false (by omega) ?_; conv => whnf) | (refine boolRes_true rfl ?_; conv => whnf))
    refine rowAt_of (by simpa using hx) ?_
    conv => whnf
    repeat (first | refine W.seq ?_ | (refine W.reg env hN (by kernel_rfl) ?_; conv => whnf) | refine W.condT rfl ?_ | refine W.condF rfl ?_ | (refine W.skip ?_; conv => whnf) | (refine W.exit ?_; conv => whnf) | refine W.block ?_ | (refine fun (hlen : (_ : Nat) ≤ _) => ?_; conv => whnf) | (refine okFp_intro (by kernel_rfl) ?_; conv => whnf) | (refine And.intro rfl ?_; conv => whnf) | (refine And.intro (by omega) ?_; conv => whnf) | (refine rowAt_of rfl ?_; conv => whnf) | (refine boolRes_true (by omega) ?_; conv => whnf) | (refine boolRes_false (by omega) ?_; conv => whnf) | (refine boolRes_true rfl ?_; conv => whnf))
    have hset : (runRows s.runs).set (0 + (k : Int).toNat) [.sl (countRows s.runs[k]) false] = runRows s.runs := set_same (by simpa using hx)
    refine ⟨_, _, ?_, ⟨k + 1, by omega, rfl, rfl⟩, [(1, 1), (7, 7), (11, 11)], [], [], LeG.mk' rfl rfl rfl (by repeat' (first | exact trivial | exact ⟨_, .refl _, rfl⟩ | apply And.intro)) (.cons 1 rfl rfl (.refl _) rfl (.cons 7 rfl rfl (.refl _) rfl (.cons 11 rfl rfl (.refl _) (congrArg (fun r => [Blk.rows 1 r (some [])]) hset.symm) .nil))) rfl rfl (by rw [hK]; rfl)⟩
    omega
  · repeat (first | refine W.seq ?_ | (refine W.reg env hN (by kernel_rfl) ?_; conv => whnf) | refine W.condT rfl ?_ | refine W.condF rfl ?_ | (refine W.skip ?_; conv => whnf) | (refine W.exit ?_; conv => whnf) | refine W.block ?_ | (refine fun (hlen : (_ : Nat) ≤ _) => ?_; conv => whnf) | (refine okFp_intro (by kernel_rfl) ?_; conv => whnf) | (refine And.intro rfl ?_; conv => whnf) | (refine And.intro (by omega) ?_; conv => whnf) | (refine rowAt_of rfl ?_; conv => whnf) | (refine boolRes_true (by omega) ?_; conv => whnf) | (refine boolRes_false (by omega) ?_; conv => whnf) | (refine boolRes_true rfl ?_; conv => whnf))
    (refine W.ret ?_; conv => whnf)
    exact retH rfl (.refl _) rfl rfl rfl ⟨rfl, rfl, rfl, rfl, rfl, rfl, trivial⟩
end Go.Sx.Sp
namespace Go.Sx.Sp
open Go Go.Sx Go.Proofs
def Spill.ownNil (s : Spill) (kr : Nat) : Blk := .rows 5 [[.int .i64 s.mem, .nils, .osl kr 0 0 (runRows s.runs).length (runRows s.runs).length, .int .i64 s.peak, .int .i64 s.written]] none
def Spill.flush (s : Spill) : Spill := match s.buf with
  | [] => s
  | _ => { s with buf := [], runs := s.runs ++ [s.buf], written := s.written + s.buf.length }
theorem flush_cons {s : Spill} (h : s.buf ≠ []) : s.flush = { s with buf := [], runs := s.runs ++ [s.buf], written := s.written + s.buf.length } := by
  unfold Spill.flush
  split
  · contradiction
  · rfl
theorem flush_nil {s : Spill} (h : s.buf = []) : s.flush = s := by
  unfold Spill.flush
  split
  · rfl
  · contradiction
theorem runRows_append (a b : List (List Count)) : runRows (a ++ b) = runRows a ++ runRows b := by simp [runRows]
def Spill.hin (s : Spill) : List (Nat × Blk) := [(0, s.own 1 2), (1, .rows 2 (countRows s.buf) (some [])), (2, .rows 1 (runRows s.runs) (some []))]
set_option maxHeartbeats 1000000 in
theorem flush_spec (s : Spill) (hs : s.Small) (hw : 0 ≤ s.written ∧ s.written ≤ 2305843009213693952) : Spec Try.prog 40 [.bp 0 0] s.hin (.tup [])
    [(0, s.flush.ownNil 2), (1, .gone), (2, .rows 1 (runRows s.flush.runs) (some []))] := by
  by_cases he : s.buf = []
  · rw [flush_nil he]
    have hc0 : countRows s.buf = [] := by rw [he]; rfl
    refine Spec.body env Try.func40 rfl (by kernel_rfl) (Nat.le_of_ble_eq_true (by kernel_rfl)) (keysSub rfl) fun Γ hN hK => ?_; have hML : maxLen = 9223372036854775807 := by unfold maxLen; rfl
    repeat (first | refine W.seq ?_ | (refine W.reg env hN (by kernel_rfl) ?_; conv => whnf) | (refine W.skip ?_; conv => whnf) | (refine W.exit ?_; conv => whnf) | refine W.block ?_ | (refine fun (hlen : (_ : Nat) ≤ _) => ?_; conv => whnf) | (refine okFp_intro (by kernel_rfl) ?_; conv => whnf) | (refine And.intro rfl ?_; conv => whnf) | (refine And.intro (by omega) ?_; conv => whnf) | (refine rowAt_of rfl ?_; conv => whnf) | (refine boolRes_true (by omega) ?_; conv => whnf) | (refine boolRes_false (by omega) ?_; conv => whnf) | (refine boolRes_true rfl ?_; conv => whnf))
    refine boolRes_false (by rw [hc0]; simp) ?_
    conv => whnf
    refine W.condF rfl ?_
    refine W.skip ?_
    conv => whnf
    refine W.leG (mp := [(0, 0), (1, 1), (2, 2)]) (bo := []) (st' := ⟨[(0, .bp 0 0)], [(0, [s.own 1 2]), (1, [.gone]), (2, [.rows 1 (runRows s.runs) (some [])])], [0, 1, 2]⟩)
      (LeG.mk' rfl rfl rfl (by repeat' (first | exact trivial | exact ⟨_, .refl _, rfl⟩ | apply And.intro)) (.cons 0 rfl rfl (.refl _) rfl (.gone 1 rfl rfl rfl (.cons 2 rfl rfl (.refl _) rfl .nil))) rfl rfl (by rw [hK]; rfl)) ?_
    repeat (first | refine W.seq ?_ | (refine W.reg env hN (by kernel_rfl) ?_; conv => whnf) | refine W.condT rfl ?_ | refine W.condF rfl ?_ | (refine W.skip ?_; conv => whnf) | (refine W.exit ?_; conv => whnf) | refine W.block ?_ | (refine fun (hlen : (_ : Nat) ≤ _) => ?_; conv => whnf) | (refine okFp_intro (by kernel_rfl) ?_; conv => whnf) | (refine And.intro rfl ?_; conv => whnf) | (refine And.intro (by omega) ?_; conv => whnf) | (refine rowAt_of rfl ?_; conv => whnf) | (refine boolRes_true (by omega) ?_; conv => whnf) | (refine boolRes_false (by omega) ?_; conv => whnf) | (refine boolRes_true rfl ?_; conv => whnf))
    exact retHn rfl (.refl _) rfl rfl rfl ⟨rfl, rfl, rfl, rfl, rfl, rfl, trivial⟩
  · rw [flush_cons he]
    have hcl := countRows_len s.buf
    have hrl := runRows_len s.runs
    have hsb := hs.buf
    have hsr := hs.runs
    have hpos : 0 < s.buf.length := List.length_pos_iff.2 he
    have er : runRows (s.runs ++ [s.buf]) = runRows s.runs ++ [[.sl (countRows s.buf) false]] := by simp [runRows]
    refine Spec.body env Try.func40 rfl (by kernel_rfl) (Nat.le_of_ble_eq_true (by kernel_rfl)) (keysSub rfl) fun Γ hN hK => ?_; have hML : maxLen = 9223372036854775807 := by unfold maxLen; rfl
    repeat (first | refine W.seq ?_ | (refine W.reg env hN (by kernel_rfl) ?_; conv => whnf) | (refine W.skip ?_; conv => whnf) | (refine W.exit ?_; conv => whnf) | refine W.block ?_ | (refine fun (hlen : (_ : Nat) ≤ _) => ?_; conv => whnf) | (refine okFp_intro (by kernel_rfl) ?_; conv => whnf) | (refine And.intro rfl ?_; conv => whnf) | (refine And.intro (by omega) ?_; conv => whnf) | (refine rowAt_of rfl ?_; conv => whnf) | (refine boolRes_true (by omega) ?_; conv => whnf) | (refine boolRes_false (by omega) ?_; conv => whnf) | (refine boolRes_true rfl ?_; conv => whnf))
    refine W.condT rfl ?_
    refine W.leG (mp := [(0, 0), (1, 1), (2, 2)]) (bo := [1]) (st' := ⟨[(0, .bp 0 0)], [(0, [.rows 5 [[.int .i64 s.mem, .sl (countRows s.buf) false, .osl 2 0 0 (runRows s.runs).length (runRows s.runs).length, .int .i64 s.peak, .int .i64 s.written]] none]), (1, [.gone]), (2, [.rows 1 (runRows s.runs) (some [])])], [0, 1, 2]⟩)
      (LeG.mk' rfl rfl rfl (by repeat' (first | exact trivial | exact ⟨_, .refl _, rfl⟩ | apply And.intro)) (.cons 0 (b1 := .rows 5 [[.int .i64 s.mem, .sl (countRows s.buf) false, .osl 2 0 0 (runRows s.runs).length (runRows s.runs).length, .int .i64 s.peak, .int .i64 s.written]] none) rfl rfl (.rows _ _ _ (by repeat' (first | exact trivial | exact ⟨Lent.refl _, rfl⟩ | exact ⟨Lent.norm _, rfl⟩ | exact ⟨Lent.whole rfl rfl (by first | rfl | simp) rfl (by first | exact .inl rfl | exact .inr rfl), rfl⟩ | apply And.intro))) rfl (.gone 1 rfl rfl rfl (.cons 2 rfl rfl (.refl _) rfl .nil))) rfl rfl (by rw [hK]; rfl)) ?_
    repeat (first | refine W.seq ?_ | (refine W.reg env hN (by kernel_rfl) ?_; conv => whnf) | refine W.condT rfl ?_ | refine W.condF rfl ?_ | (refine W.skip ?_; conv => whnf) | (refine W.exit ?_; conv => whnf) | refine W.block ?_ | (refine fun (hlen : (_ : Nat) ≤ _) => ?_; conv => whnf) | (refine okFp_intro (by kernel_rfl) ?_; conv => whnf) | (refine And.intro rfl ?_; conv => whnf) | (refine And.intro (by omega) ?_; conv => whnf) | (refine rowAt_of rfl ?_; conv => whnf) | (refine boolRes_true (by omega) ?_; conv => whnf) | (refine boolRes_false (by omega) ?_; conv => whnf) | (refine boolRes_true rfl ?_; conv => whnf))
    refine ⟨⟨rfl, rfl⟩, fits24 (n := (runRows s.runs).length + 1) (by omega), .inl ⟨rfl, rfl, ?_⟩⟩
    conv => whnf
    repeat (first | refine W.seq ?_ | (refine W.reg env hN (by kernel_rfl) ?_; conv => whnf) | refine W.condT rfl ?_ | refine W.condF rfl ?_ | (refine W.skip ?_; conv => whnf) | (refine W.exit ?_; conv => whnf) | refine W.block ?_ | (refine fun (hlen : (_ : Nat) ≤ _) => ?_; conv => whnf) | (refine okFp_intro (by kernel_rfl) ?_; conv => whnf) | (refine And.intro rfl ?_; conv => whnf) | (refine And.intro (by omega) ?_; conv => whnf) | (refine rowAt_of rfl ?_; conv => whnf) | (refine boolRes_true (by omega) ?_; conv => whnf) | (refine boolRes_false (by omega) ?_; conv => whnf) | (refine boolRes_true rfl ?_; conv => whnf))
    exact retHn rfl (.refl _) rfl rfl rfl ⟨(by
      show [Blk.rows 5 [[.int .i64 s.mem, .nils, .osl 2 0 0 ((runRows s.runs).length + 1) ((runRows s.runs).length + 1), .int .i64 s.peak, .int .i64 (s.written + (countRows s.buf).length)]] none] = _
      simp [Spill.ownNil, er, hcl]), rfl, rfl, rfl, (by
      show [Blk.rows 1 (runRows s.runs ++ [[.sl (countRows s.buf) false]]) (some [])] = _
      rw [er]), rfl, trivial⟩
end Go.Sx.Sp
namespace Go.Sx.Sp
open Go Go.Sx Go.Proofs
theorem less_irrefl : ∀ a : List UInt8, Op.bytesLess a a = false
  | [] => rfl
  | x :: a => by simp [Op.bytesLess, less_irrefl a]
theorem less_trans : ∀ {a b c : List UInt8}, Op.bytesLess a b = true → Op.bytesLess b c = true → Op.bytesLess a c = true
  | [], _, [], _, h => by cases ‹List UInt8› <;> simp [Op.bytesLess] at h
  | [], _, _ :: _, _, _ => by simp [Op.bytesLess]
  | _ :: _, [], _, h, _ => by simp [Op.bytesLess] at h
  | _ :: _, _ :: _, [], _, h => by simp [Op.bytesLess] at h
  | x :: a, y :: b, z :: c, h1, h2 => by
    simp only [Op.bytesLess, Bool.or_eq_true, Bool.and_eq_true, decide_eq_true_eq, beq_iff_eq] at h1 h2 ⊢
    rcases h1 with h1 | ⟨rfl, h1⟩
    · rcases h2 with h2 | ⟨rfl, h2⟩
      · exact .inl (UInt8.lt_trans h1 h2)
      · exact .inl h1
    · rcases h2 with h2 | ⟨rfl, h2⟩
      · exact .inl h2
      · exact .inr ⟨rfl, less_trans h1 h2⟩
theorem less_total : ∀ {a b : List UInt8}, Op.bytesLess a b = false → a ≠ b → Op.bytesLess b a = true
  | [], [], _, h => absurd rfl h
  | [], _ :: _, h, _ => by simp [Op.bytesLess] at h
  | _ :: _, [], _, _ => by simp [Op.bytesLess]
  | x :: a, y :: b, h1, h2 => by
    simp only [Op.bytesLess, Bool.or_eq_false_iff, Bool.and_eq_false_imp, decide_eq_false_iff_not, beq_iff_eq, Bool.or_eq_true, Bool.and_eq_true, decide_eq_true_eq] at h1 ⊢
    by_cases hxy : x = y
    · subst hxy
      exact .inr ⟨rfl, less_total (h1.2 rfl) fun e => h2 (by rw [e])⟩
    · refine .inl ?_
      rcases Nat.lt_trichotomy x.toNat y.toNat with h | h | h
      · exact absurd (UInt8.lt_iff_toNat_lt.2 h) h1.1
      · exact absurd (UInt8.toNat_inj.1 h) hxy
      · exact UInt8.lt_iff_toNat_lt.2 h
theorem less_asymm {a b : List UInt8} (h : Op.bytesLess a b = true) : Op.bytesLess b a = false := by
  cases hb : Op.bytesLess b a with
  | false => rfl
  | true => have := less_trans h hb; rw [less_irrefl] at this; cases this
def cmpT (a b : List UInt8) : Int := if Op.bytesLess a b = true then -1 else if a = b then 0 else 1
theorem cmpT_neg {a b : List UInt8} : cmpT a b < 0 ↔ Op.bytesLess a b = true := by
  unfold cmpT
  by_cases h : Op.bytesLess a b = true
  · simp [h]
  · by_cases h2 : a = b <;> simp [h, h2, less_irrefl]
theorem cmpT_zero {a b : List UInt8} : cmpT a b = 0 ↔ a = b := by
  unfold cmpT
  by_cases h : Op.bytesLess a b = true
  · simp only [h, if_true]
    constructor
    · intro h; omega
    · intro e; subst e; rw [less_irrefl] at h; cases h
  · by_cases h2 : a = b <;> simp [h, h2, less_irrefl]
set_option maxHeartbeats 1000000 in
theorem nan_spec (a : List UInt8) : Spec Try.prog 63 [.str a] [] (.bool false) [] := by
  refine Spec.body env Try.func63 rfl (by kernel_rfl) (Nat.le_of_ble_eq_true (by kernel_rfl)) (keysSub rfl) fun Γ hN hK => ?_; have hML : maxLen = 9223372036854775807 := by unfold maxLen; rfl
  repeat (first | refine W.seq ?_ | (refine W.reg env hN (by kernel_rfl) ?_; conv => whnf) | refine W.condT rfl ?_ | refine W.condF rfl ?_ | (refine W.skip ?_; conv => whnf) | (refine W.exit ?_; conv => whnf) | refine W.block ?_ | (refine fun (hlen : (_ : Nat) ≤ _) => ?_; conv => whnf) | (refine okFp_intro (by kernel_rfl) ?_; conv => whnf) | (refine And.intro rfl ?_; conv => whnf) | (refine And.intro (by omega) ?_; conv => whnf) | (refine rowAt_of rfl ?_; conv => whnf) | (refine boolRes_true (by omega) ?_; conv => whnf) | (refine boolRes_false (by omega) ?_; conv => whnf) | (refine boolRes_true rfl ?_; conv => whnf))
  refine boolRes_false (by simp) ?_
  conv => whnf
  repeat (first | refine W.seq ?_ | (refine W.reg env hN (by kernel_rfl) ?_; conv => whnf) | refine W.condT rfl ?_ | refine W.condF rfl ?_ | (refine W.skip ?_; conv => whnf) | (refine W.exit ?_; conv => whnf) | refine W.block ?_ | (refine fun (hlen : (_ : Nat) ≤ _) => ?_; conv => whnf) | (refine okFp_intro (by kernel_rfl) ?_; conv => whnf) | (refine And.intro rfl ?_; conv => whnf) | (refine And.intro (by omega) ?_; conv => whnf) | (refine rowAt_of rfl ?_; conv => whnf) | (refine boolRes_true (by omega) ?_; conv => whnf) | (refine boolRes_false (by omega) ?_; conv => whnf) | (refine boolRes_true rfl ?_; conv => whnf) | (refine W.ret ?_; conv => whnf))
  exact ret0 rfl rfl rfl
set_option maxHeartbeats 1000000 in
theorem cmp_spec (a b : List UInt8) : Spec Try.prog 58 [.str a, .str b] [] (.int .i64 (cmpT a b)) [] := by
  refine Spec.body env Try.func58 rfl (by kernel_rfl) (Nat.le_of_ble_eq_true (by kernel_rfl)) (keysSub rfl) fun Γ hN hK => ?_; have hML : maxLen = 9223372036854775807 := by unfold maxLen; rfl
  repeat (first | refine W.seq ?_ | (refine W.reg env hN (by kernel_rfl) ?_; conv => whnf) | refine W.condT rfl ?_ | refine W.condF rfl ?_ | (refine W.skip ?_; conv => whnf) | (refine W.exit ?_; conv => whnf) | refine W.block ?_ | (refine fun (hlen : (_ : Nat) ≤ _) => ?_; conv => whnf) | (refine okFp_intro (by kernel_rfl) ?_; conv => whnf) | (refine And.intro rfl ?_; conv => whnf) | (refine And.intro (by omega) ?_; conv => whnf) | (refine rowAt_of rfl ?_; conv => whnf) | (refine boolRes_true (by omega) ?_; conv => whnf) | (refine boolRes_false (by omega) ?_; conv => whnf) | (refine boolRes_true rfl ?_; conv => whnf))
  (refine ⟨_, _, _, callG [] [] [] rfl rfl rfl (by kernel_rfl) (nan_spec a) (by repeat' (first | exact trivial | exact Lent.refl _ | exact Lent.norm _ | apply And.intro)) rfl ⟨rfl, rfl, rfl, rfl, rfl, by repeat' (first | exact trivial | rfl | apply And.intro), rfl, rfl⟩, ?_⟩; conv => whnf)
  repeat (first | refine W.seq ?_ | (refine W.reg env hN (by kernel_rfl) ?_; conv => whnf) | refine W.condT rfl ?_ | refine W.condF rfl ?_ | (refine W.skip ?_; conv => whnf) | (refine W.exit ?_; conv => whnf) | refine W.block ?_ | (refine fun (hlen : (_ : Nat) ≤ _) => ?_; conv => whnf) | (refine okFp_intro (by kernel_rfl) ?_; conv => whnf) | (refine And.intro rfl ?_; conv => whnf) | (refine And.intro (by omega) ?_; conv => whnf) | (refine rowAt_of rfl ?_; conv => whnf) | (refine boolRes_true (by omega) ?_; conv => whnf) | (refine boolRes_false (by omega) ?_; conv => whnf) | (refine boolRes_true rfl ?_; conv => whnf))
  (refine ⟨_, _, _, callG [] [] [] rfl rfl rfl (by kernel_rfl) (nan_spec b) (by repeat' (first | exact trivial | exact Lent.refl _ | exact Lent.norm _ | apply And.intro)) rfl ⟨rfl, rfl, rfl, rfl, rfl, by repeat' (first | exact trivial | rfl | apply And.intro), rfl, rfl⟩, ?_⟩; conv => whnf)
  repeat (first | refine W.seq ?_ | (refine W.reg env hN (by kernel_rfl) ?_; conv => whnf) | refine W.condT rfl ?_ | refine W.condF rfl ?_ | (refine W.skip ?_; conv => whnf) | (refine W.exit ?_; conv => whnf) | refine W.block ?_ | (refine fun (hlen : (_ : Nat) ≤ _) => ?_; conv => whnf) | (refine okFp_intro (by kernel_rfl) ?_; conv => whnf) | (refine And.intro rfl ?_; conv => whnf) | (refine And.intro (by omega) ?_; conv => whnf) | (refine rowAt_of rfl ?_; conv => whnf) | (refine boolRes_true (by omega) ?_; conv => whnf) | (refine boolRes_false (by omega) ?_; conv => whnf) | (refine boolRes_true rfl ?_; conv => whnf))
  refine boolRes_split (fun hb => ?_) (fun hb => ?_) <;> conv => whnf
  · repeat (first | refine W.seq ?_ | (refine W.reg env hN (by kernel_rfl) ?_; conv => whnf) | refine W.condT rfl ?_ | refine W.condF rfl ?_ | (refine W.skip ?_; conv => whnf) | (refine W.exit ?_; conv => whnf) | refine W.block ?_ | (refine fun (hlen : (_ : Nat) ≤ _) => ?_; conv => whnf) | (refine okFp_intro (by kernel_rfl) ?_; conv => whnf) | (refine And.intro rfl ?_; conv => whnf) | (refine And.intro (by omega) ?_; conv => whnf) | (refine rowAt_of rfl ?_; conv => whnf) | (refine boolRes_true (by omega) ?_; conv => whnf) | (refine boolRes_false (by omega) ?_; conv => whnf) | (refine boolRes_true rfl ?_; conv => whnf) | (refine W.ret ?_; conv => whnf))
    exact ret0 rfl (congrArg (V.int .i64) (by simp [cmpT, hb])) rfl
  · repeat (first | refine W.seq ?_ | (refine W.reg env hN (by kernel_rfl) ?_; conv => whnf) | refine W.condT rfl ?_ | refine W.condF rfl ?_ | (refine W.skip ?_; conv => whnf) | (refine W.exit ?_; conv => whnf) | refine W.block ?_ | (refine fun (hlen : (_ : Nat) ≤ _) => ?_; conv => whnf) | (refine okFp_intro (by kernel_rfl) ?_; conv => whnf) | (refine And.intro rfl ?_; conv => whnf) | (refine And.intro (by omega) ?_; conv => whnf) | (refine rowAt_of rfl ?_; conv => whnf) | (refine boolRes_true (by omega) ?_; conv => whnf) | (refine boolRes_false (by omega) ?_; conv => whnf) | (refine boolRes_true rfl ?_; conv => whnf))
    refine boolRes_split (fun hb => ?_) (fun hb => ?_) <;> conv => whnf
    · repeat (first | refine W.seq ?_ | (refine W.reg env hN (by kernel_rfl) ?_; conv => whnf) | refine W.condT rfl ?_ | refine W.condF rfl ?_ | (refine W.skip ?_; conv => whnf) | (refine W.exit ?_; conv => whnf) | refine W.block ?_ | (refine fun (hlen : (_ : Nat) ≤ _) => ?_; conv => whnf) | (refine okFp_intro (by kernel_rfl) ?_; conv => whnf) | (refine And.intro rfl ?_; conv => whnf) | (refine And.intro (by omega) ?_; conv => whnf) | (refine rowAt_of rfl ?_; conv => whnf) | (refine boolRes_true (by omega) ?_; conv => whnf) | (refine boolRes_false (by omega) ?_; conv => whnf) | (refine boolRes_true rfl ?_; conv => whnf) | (refine W.ret ?_; conv => whnf))
      exact ret0 rfl (congrArg (V.int .i64) (by simp [cmpT, hb])) rfl
    · rename_i h1
      repeat (first | refine W.seq ?_ | (refine W.reg env hN (by kernel_rfl) ?_; conv => whnf) | refine W.condT rfl ?_ | refine W.condF rfl ?_ | (refine W.skip ?_; conv => whnf) | (refine W.exit ?_; conv => whnf) | refine W.block ?_ | (refine fun (hlen : (_ : Nat) ≤ _) => ?_; conv => whnf) | (refine okFp_intro (by kernel_rfl) ?_; conv => whnf) | (refine And.intro rfl ?_; conv => whnf) | (refine And.intro (by omega) ?_; conv => whnf) | (refine rowAt_of rfl ?_; conv => whnf) | (refine boolRes_true (by omega) ?_; conv => whnf) | (refine boolRes_false (by omega) ?_; conv => whnf) | (refine boolRes_true rfl ?_; conv => whnf) | (refine W.ret ?_; conv => whnf))
      exact ret0 rfl (congrArg (V.int .i64) (by
        have h2 : Op.bytesLess a b = false := by simpa using h1
        have h3 : a = b := by
          by_cases he : a = b
          · exact he
          · exact absurd ⟨h2, he⟩ hb
        simp [cmpT, h3, less_irrefl])) rfl
set_option maxHeartbeats 1000000 in
theorem byText_spec (a b : Count) : Spec Try.prog 51 [.agg a.row, .agg b.row] [] (.int .i64 (cmpT a.text b.text)) [] := by
  refine Spec.body env Try.func51 rfl (by kernel_rfl) (Nat.le_of_ble_eq_true (by kernel_rfl)) (keysSub rfl) fun Γ hN hK => ?_; have hML : maxLen = 9223372036854775807 := by unfold maxLen; rfl
  repeat (first | refine W.seq ?_ | (refine W.reg env hN (by kernel_rfl) ?_; conv => whnf) | refine W.condT rfl ?_ | refine W.condF rfl ?_ | (refine W.skip ?_; conv => whnf) | (refine W.exit ?_; conv => whnf) | refine W.block ?_ | (refine fun (hlen : (_ : Nat) ≤ _) => ?_; conv => whnf) | (refine okFp_intro (by kernel_rfl) ?_; conv => whnf) | (refine And.intro rfl ?_; conv => whnf) | (refine And.intro (by omega) ?_; conv => whnf) | (refine rowAt_of rfl ?_; conv => whnf) | (refine boolRes_true (by omega) ?_; conv => whnf) | (refine boolRes_false (by omega) ?_; conv => whnf) | (refine boolRes_true rfl ?_; conv => whnf))
  (refine ⟨_, _, _, callG [] [] [] rfl rfl rfl (by kernel_rfl) (cmp_spec a.text b.text) (by repeat' (first | exact trivial | exact Lent.refl _ | exact Lent.norm _ | apply And.intro)) rfl ⟨rfl, rfl, rfl, rfl, rfl, by repeat' (first | exact trivial | rfl | apply And.intro), rfl, rfl⟩, ?_⟩; conv => whnf)
  repeat (first | refine W.seq ?_ | (refine W.reg env hN (by kernel_rfl) ?_; conv => whnf) | refine W.condT rfl ?_ | refine W.condF rfl ?_ | (refine W.skip ?_; conv => whnf) | (refine W.exit ?_; conv => whnf) | refine W.block ?_ | (refine fun (hlen : (_ : Nat) ≤ _) => ?_; conv => whnf) | (refine okFp_intro (by kernel_rfl) ?_; conv => whnf) | (refine And.intro rfl ?_; conv => whnf) | (refine And.intro (by omega) ?_; conv => whnf) | (refine rowAt_of rfl ?_; conv => whnf) | (refine boolRes_true (by omega) ?_; conv => whnf) | (refine boolRes_false (by omega) ?_; conv => whnf) | (refine boolRes_true rfl ?_; conv => whnf) | (refine W.ret ?_; conv => whnf))
  exact ret0 rfl rfl rfl
end Go.Sx.Sp
namespace Go.Sx.Sp
open Go Go.Sx Go.Proofs
def Sorted (l : List Count) : Prop := l.Pairwise fun a b => Op.bytesLess a.text b.text = true
def rank (l : List Count) (t : List UInt8) : Nat := (l.takeWhile fun c => Op.bytesLess c.text t).length
def found (l : List Count) (t : List UInt8) : Bool := match l[rank l t]? with | some c => decide (c.text = t) | none => false
theorem rank_le (l : List Count) (t : List UInt8) : rank l t ≤ l.length := by
  unfold rank
  induction l with
  | nil => simp
  | cons c l ih => rw [List.takeWhile_cons]; split <;> simp; exact ih
theorem rank_lt {t : List UInt8} : ∀ {l : List Count} {k : Nat} {c : Count}, k < rank l t → l[k]? = some c → Op.bytesLess c.text t = true
  | [], k, c, h, _ => by simp [rank] at h
  | d :: l, k, c, h, hk => by
    unfold rank at h
    rw [List.takeWhile_cons] at h
    split at h
    · rename_i hd
      cases k with
      | zero => simp at hk; subst hk; exact hd
      | succ k => exact rank_lt (k := k) (by simpa [rank] using h) (by simpa using hk)
    · simp at h
theorem rank_ge {t : List UInt8} : ∀ {l : List Count} {k : Nat} {c : Count}, Sorted l → rank l t ≤ k → l[k]? = some c → Op.bytesLess c.text t = false
  | [], k, c, _, _, hk => by simp at hk
  | d :: l, k, c, hs, h, hk => by
    obtain ⟨h1, h2⟩ := List.pairwise_cons.1 hs
    unfold rank at h
    rw [List.takeWhile_cons] at h
    split at h
    · rename_i hd
      cases k with
      | zero => simp at h
      | succ k => exact rank_ge (k := k) h2 (by simpa [rank] using h) (by simpa using hk)
    · rename_i hd
      have hd : Op.bytesLess d.text t = false := by simpa using hd
      cases k with
      | zero => simp at hk; subst hk; exact hd
      | succ k =>
        have hm := h1 c (List.mem_of_getElem? (by simpa using hk))
        cases hc : Op.bytesLess c.text t with
        | false => rfl
        | true => rw [less_trans hm hc] at hd; cases hd
theorem countRows_get {l : List Count} {k : Nat} (h : k < l.length) : (countRows l)[k]? = some (Count.row l[k]) := by simp [countRows, h]
set_option maxHeartbeats 2000000 in
theorem search_spec (l : List Count) (t : List UInt8) (z : Int) (hs : Sorted l) (hl : l.length ≤ 4294967296) : Spec Try.prog 50 [.sl (countRows l) false, .agg [.str t, .int .i64 z], .fn 51 []] [] (.tup [.int .i64 (rank l t), .bool (found l t)]) [] := by
  refine Spec.body env Try.func50 rfl (by kernel_rfl) (Nat.le_of_ble_eq_true (by kernel_rfl)) (keysSub rfl) fun Γ hN hK => ?_; have hML : maxLen = 9223372036854775807 := by unfold maxLen; rfl
  have hcl := countRows_len l
  repeat (first | refine W.seq ?_ | (refine W.reg env hN (by kernel_rfl) ?_; conv => whnf) | refine W.condT rfl ?_ | refine W.condF rfl ?_ | (refine W.skip ?_; conv => whnf) | (refine W.exit ?_; conv => whnf) | refine W.block ?_ | (refine fun (hlen : (_ : Nat) ≤ _) => ?_; conv => whnf) | (refine okFp_intro (by kernel_rfl) ?_; conv => whnf) | (refine And.intro rfl ?_; conv => whnf) | (refine And.intro (by omega) ?_; conv => whnf) | (refine rowAt_of rfl ?_; conv => whnf) | (refine boolRes_true (by omega) ?_; conv => whnf) | (refine boolRes_false (by omega) ?_; conv => whnf) | (refine boolRes_true rfl ?_; conv => whnf))
  refine W.loopG (fun n st => ∃ i j : Nat, i ≤ j ∧ j ≤ l.length ∧ i ≤ rank l t ∧ rank l t ≤ j ∧ n = j - i ∧ st = ⟨[(0, .sl (countRows l) false), (2, .fn 51 []), (4, .bp 4 0), (8, .int .i64 (countRows l).length), (9, .int .i64 i), (10, .int .i64 j)], [(4, [.rows 2 [[.str t, .int .i64 z]] none])], [4]⟩)
    l.length _ ⟨0, (countRows l).length, by omega, by omega, by omega, by rw [hcl]; exact rank_le l t, by omega, rfl⟩ ⟨[(4, 4)], [], [], LeG.mk' rfl rfl rfl (by repeat' (first | exact trivial | exact ⟨_, .refl _, rfl⟩ | apply And.intro)) (.cons 4 rfl rfl (.refl _) rfl .nil) rfl rfl (by rw [hK]; rfl)⟩ ?_
  rintro n st ⟨i, j, hij, hjl, hri, hrj, rfl, rfl⟩
  have hmid : (IntKind.u64.wrap ((i : Int) + j)).fdiv (2 ^ min (Int.toNat 1) IntKind.u64.bits) = ((i + j) / 2 : Nat) := by
    rw [IntWalk.u64_in _ (by omega), show (2 : Int) ^ min (Int.toNat 1) IntKind.u64.bits = 2 by decide, Int.fdiv_eq_ediv_of_nonneg _ (by omega)]
    omega
  repeat (first | refine W.seq ?_ | (refine W.reg env hN (by kernel_rfl) ?_; conv => whnf) | refine W.condT rfl ?_ | refine W.condF rfl ?_ | (refine W.skip ?_; conv => whnf) | (refine W.exit ?_; conv => whnf) | refine W.block ?_ | (refine fun (hlen : (_ : Nat) ≤ _) => ?_; conv => whnf) | (refine okFp_intro (by kernel_rfl) ?_; conv => whnf) | (refine And.intro rfl ?_; conv => whnf) | (refine And.intro (by omega) ?_; conv => whnf) | (refine rowAt_of rfl ?_; conv => whnf) | (refine boolRes_true (by omega) ?_; conv => whnf) | (refine boolRes_false (by omega) ?_; conv => whnf) | (refine boolRes_true rfl ?_; conv => whnf))
  refine boolRes_split (fun hb => ?_) (fun hb => ?_) <;> conv => whnf
  · repeat (first | refine W.seq ?_ | (refine W.reg env hN (by kernel_rfl) ?_; conv => whnf) | refine W.condT rfl ?_ | refine W.condF rfl ?_ | (refine W.skip ?_; conv => whnf) | (refine W.exit ?_; conv => whnf) | refine W.block ?_ | (refine fun (hlen : (_ : Nat) ≤ _) => ?_; conv => whnf) | (refine okFp_intro (by kernel_rfl) ?_; conv => whnf) | (refine And.intro rfl ?_; conv => whnf) | (refine And.intro (by omega) ?_; conv => whnf) | (refine rowAt_of rfl ?_; conv => whnf) | (refine boolRes_true (by omega) ?_; conv => whnf) | (refine boolRes_false (by omega) ?_; conv => whnf) | (refine boolRes_true rfl ?_; conv => whnf))
    rw [hmid]
    have hlt : (i + j) / 2 < l.length := by omega
    repeat (first | refine W.seq ?_ | (refine W.reg env hN (by kernel_rfl) ?_; conv => whnf) | refine W.condT rfl ?_ | refine W.condF rfl ?_ | (refine W.skip ?_; conv => whnf) | (refine W.exit ?_; conv => whnf) | refine W.block ?_ | (refine fun (hlen : (_ : Nat) ≤ _) => ?_; conv => whnf) | (refine okFp_intro (by kernel_rfl) ?_; conv => whnf) | (refine And.intro rfl ?_; conv => whnf) | (refine And.intro (by omega) ?_; conv => whnf) | (refine rowAt_of rfl ?_; conv => whnf) | (refine boolRes_true (by omega) ?_; conv => whnf) | (refine boolRes_false (by omega) ?_; conv => whnf) | (refine boolRes_true rfl ?_; conv => whnf))
    refine rowAt_of (countRows_get hlt) ?_
    conv => whnf
    repeat (first | refine W.seq ?_ | (refine W.reg env hN (by kernel_rfl) ?_; conv => whnf) | refine W.condT rfl ?_ | refine W.condF rfl ?_ | (refine W.skip ?_; conv => whnf) | (refine W.exit ?_; conv => whnf) | refine W.block ?_ | (refine fun (hlen : (_ : Nat) ≤ _) => ?_; conv => whnf) | (refine okFp_intro (by kernel_rfl) ?_; conv => whnf) | (refine And.intro rfl ?_; conv => whnf) | (refine And.intro (by omega) ?_; conv => whnf) | (refine rowAt_of rfl ?_; conv => whnf) | (refine boolRes_true (by omega) ?_; conv => whnf) | (refine boolRes_false (by omega) ?_; conv => whnf) | (refine boolRes_true rfl ?_; conv => whnf))
    (refine ⟨_, _, _, callG [] [] [] rfl rfl rfl (by kernel_rfl) (byText_spec l[(i + j) / 2] ⟨t, z⟩) (by repeat' (first | exact trivial | exact Lent.refl _ | exact Lent.norm _ | apply And.intro)) rfl ⟨rfl, rfl, rfl, rfl, rfl, by repeat' (first | exact trivial | rfl | apply And.intro), rfl, rfl⟩, ?_⟩; conv => whnf)
    repeat (first | refine W.seq ?_ | (refine W.reg env hN (by kernel_rfl) ?_; conv => whnf) | refine W.condT rfl ?_ | refine W.condF rfl ?_ | (refine W.skip ?_; conv => whnf) | (refine W.exit ?_; conv => whnf) | refine W.block ?_ | (refine fun (hlen : (_ : Nat) ≤ _) => ?_; conv => whnf) | (refine okFp_intro (by kernel_rfl) ?_; conv => whnf) | (refine And.intro rfl ?_; conv => whnf) | (refine And.intro (by omega) ?_; conv => whnf) | (refine rowAt_of rfl ?_; conv => whnf) | (refine boolRes_true (by omega) ?_; conv => whnf) | (refine boolRes_false (by omega) ?_; conv => whnf) | (refine boolRes_true rfl ?_; conv => whnf))
    refine boolRes_split (fun hb => ?_) (fun hb => ?_) <;> conv => whnf
    · repeat (first | refine W.seq ?_ | (refine W.reg env hN (by kernel_rfl) ?_; conv => whnf) | refine W.condT rfl ?_ | refine W.condF rfl ?_ | (refine W.skip ?_; conv => whnf) | (refine W.exit ?_; conv => whnf) | refine W.block ?_ | (refine fun (hlen : (_ : Nat) ≤ _) => ?_; conv => whnf) | (refine okFp_intro (by kernel_rfl) ?_; conv => whnf) | (refine And.intro rfl ?_; conv => whnf) | (refine And.intro (by omega) ?_; conv => whnf) | (refine rowAt_of rfl ?_; conv => whnf) | (refine boolRes_true (by omega) ?_; conv => whnf) | (refine boolRes_false (by omega) ?_; conv => whnf) | (refine boolRes_true rfl ?_; conv => whnf))
      refine ⟨_, _, ?_, ⟨(i + j) / 2 + 1, j, by omega, by omega, ?_, by omega, rfl, rfl⟩, ⟨[(4, 4)], [], [], LeG.mk' rfl rfl rfl (by repeat' (first | exact trivial | exact ⟨_, .refl _, rfl⟩ | apply And.intro)) (.cons 4 rfl rfl (.refl _) rfl .nil) rfl rfl (by rw [hK]; rfl)⟩⟩
      · omega
      · rcases Nat.lt_or_ge ((i + j) / 2) (rank l t) with h | h
        · omega
        · have := rank_ge hs h (List.getElem?_eq_getElem hlt)
          rw [cmpT_neg.1 hb] at this; cases this
    · repeat (first | refine W.seq ?_ | (refine W.reg env hN (by kernel_rfl) ?_; conv => whnf) | refine W.condT rfl ?_ | refine W.condF rfl ?_ | (refine W.skip ?_; conv => whnf) | (refine W.exit ?_; conv => whnf) | refine W.block ?_ | (refine fun (hlen : (_ : Nat) ≤ _) => ?_; conv => whnf) | (refine okFp_intro (by kernel_rfl) ?_; conv => whnf) | (refine And.intro rfl ?_; conv => whnf) | (refine And.intro (by omega) ?_; conv => whnf) | (refine rowAt_of rfl ?_; conv => whnf) | (refine boolRes_true (by omega) ?_; conv => whnf) | (refine boolRes_false (by omega) ?_; conv => whnf) | (refine boolRes_true rfl ?_; conv => whnf))
      refine ⟨_, _, ?_, ⟨i, (i + j) / 2, by omega, by omega, by omega, ?_, rfl, rfl⟩, ⟨[(4, 4)], [], [], LeG.mk' rfl rfl rfl (by repeat' (first | exact trivial | exact ⟨_, .refl _, rfl⟩ | apply And.intro)) (.cons 4 rfl rfl (.refl _) rfl .nil) rfl rfl (by rw [hK]; rfl)⟩⟩
      · omega
      · rcases Nat.lt_or_ge ((i + j) / 2) (rank l t) with h | h
        · exact absurd (cmpT_neg.2 (rank_lt h (List.getElem?_eq_getElem hlt))) hb
        · exact h
  · have hij2 : i = rank l t := by omega
    subst hij2
    repeat (first | refine W.seq ?_ | (refine W.reg env hN (by kernel_rfl) ?_; conv => whnf) | refine W.condT rfl ?_ | refine W.condF rfl ?_ | (refine W.skip ?_; conv => whnf) | (refine W.exit ?_; conv => whnf) | refine W.block ?_ | (refine fun (hlen : (_ : Nat) ≤ _) => ?_; conv => whnf) | (refine okFp_intro (by kernel_rfl) ?_; conv => whnf) | (refine And.intro rfl ?_; conv => whnf) | (refine And.intro (by omega) ?_; conv => whnf) | (refine rowAt_of rfl ?_; conv => whnf) | (refine boolRes_true (by omega) ?_; conv => whnf) | (refine boolRes_false (by omega) ?_; conv => whnf) | (refine boolRes_true rfl ?_; conv => whnf))
    refine boolRes_split (fun hb => ?_) (fun hb => ?_) <;> conv => whnf
    · have hlt : rank l t < l.length := by omega
      repeat (first | refine W.seq ?_ | (refine W.reg env hN (by kernel_rfl) ?_; conv => whnf) | refine W.condT rfl ?_ | refine W.condF rfl ?_ | (refine W.skip ?_; conv => whnf) | (refine W.exit ?_; conv => whnf) | refine W.block ?_ | (refine fun (hlen : (_ : Nat) ≤ _) => ?_; conv => whnf) | (refine okFp_intro (by kernel_rfl) ?_; conv => whnf) | (refine And.intro rfl ?_; conv => whnf) | (refine And.intro (by omega) ?_; conv => whnf) | (refine rowAt_of rfl ?_; conv => whnf) | (refine boolRes_true (by omega) ?_; conv => whnf) | (refine boolRes_false (by omega) ?_; conv => whnf) | (refine boolRes_true rfl ?_; conv => whnf))
      refine rowAt_of (countRows_get hlt) ?_
      conv => whnf
      repeat (first | refine W.seq ?_ | (refine W.reg env hN (by kernel_rfl) ?_; conv => whnf) | refine W.condT rfl ?_ | refine W.condF rfl ?_ | (refine W.skip ?_; conv => whnf) | (refine W.exit ?_; conv => whnf) | refine W.block ?_ | (refine fun (hlen : (_ : Nat) ≤ _) => ?_; conv => whnf) | (refine okFp_intro (by kernel_rfl) ?_; conv => whnf) | (refine And.intro rfl ?_; conv => whnf) | (refine And.intro (by omega) ?_; conv => whnf) | (refine rowAt_of rfl ?_; conv => whnf) | (refine boolRes_true (by omega) ?_; conv => whnf) | (refine boolRes_false (by omega) ?_; conv => whnf) | (refine boolRes_true rfl ?_; conv => whnf))
      (refine ⟨_, _, _, callG [] [] [] rfl rfl rfl (by kernel_rfl) (byText_spec l[rank l t] ⟨t, z⟩) (by repeat' (first | exact trivial | exact Lent.refl _ | exact Lent.norm _ | apply And.intro)) rfl ⟨rfl, rfl, rfl, rfl, rfl, by repeat' (first | exact trivial | rfl | apply And.intro), rfl, rfl⟩, ?_⟩; conv => whnf)
      repeat (first | refine W.seq ?_ | (refine W.reg env hN (by kernel_rfl) ?_; conv => whnf) | refine W.condT rfl ?_ | refine W.condF rfl ?_ | (refine W.skip ?_; conv => whnf) | (refine W.exit ?_; conv => whnf) | refine W.block ?_ | (refine fun (hlen : (_ : Nat) ≤ _) => ?_; conv => whnf) | (refine okFp_intro (by kernel_rfl) ?_; conv => whnf) | (refine And.intro rfl ?_; conv => whnf) | (refine And.intro (by omega) ?_; conv => whnf) | (refine rowAt_of rfl ?_; conv => whnf) | (refine boolRes_true (by omega) ?_; conv => whnf) | (refine boolRes_false (by omega) ?_; conv => whnf) | (refine boolRes_true rfl ?_; conv => whnf))
      refine boolRes_keep ?_
      conv => whnf
      repeat (first | refine W.seq ?_ | (refine W.reg env hN (by kernel_rfl) ?_; conv => whnf) | refine W.condT rfl ?_ | refine W.condF rfl ?_ | (refine W.skip ?_; conv => whnf) | (refine W.exit ?_; conv => whnf) | refine W.block ?_ | (refine fun (hlen : (_ : Nat) ≤ _) => ?_; conv => whnf) | (refine okFp_intro (by kernel_rfl) ?_; conv => whnf) | (refine And.intro rfl ?_; conv => whnf) | (refine And.intro (by omega) ?_; conv => whnf) | (refine rowAt_of rfl ?_; conv => whnf) | (refine boolRes_true (by omega) ?_; conv => whnf) | (refine boolRes_false (by omega) ?_; conv => whnf) | (refine boolRes_true rfl ?_; conv => whnf) | (refine W.ret ?_; conv => whnf))
      refine ret0 rfl (congrArg (fun b => V.tup [.int .i64 (rank l t), .bool b]) ?_) rfl
      simp only [found, List.getElem?_eq_getElem hlt]
      exact decide_eq_decide.2 cmpT_zero
    · repeat (first | refine W.seq ?_ | (refine W.reg env hN (by kernel_rfl) ?_; conv => whnf) | refine W.condT rfl ?_ | refine W.condF rfl ?_ | (refine W.skip ?_; conv => whnf) | (refine W.exit ?_; conv => whnf) | refine W.block ?_ | (refine fun (hlen : (_ : Nat) ≤ _) => ?_; conv => whnf) | (refine okFp_intro (by kernel_rfl) ?_; conv => whnf) | (refine And.intro rfl ?_; conv => whnf) | (refine And.intro (by omega) ?_; conv => whnf) | (refine rowAt_of rfl ?_; conv => whnf) | (refine boolRes_true (by omega) ?_; conv => whnf) | (refine boolRes_false (by omega) ?_; conv => whnf) | (refine boolRes_true rfl ?_; conv => whnf) | (refine W.ret ?_; conv => whnf))
      refine ret0 rfl (congrArg (fun b => V.tup [.int .i64 (rank l t), .bool b]) ?_) rfl
      have : l[rank l t]? = none := List.getElem?_eq_none (by omega)
      simp [found, this]
end Go.Sx.Sp
namespace Go.Sx.Sp
open Go Go.Sx Go.Proofs
attribute [local irreducible] GoodW
theorem ov0 : (Try.f59.body).isNone = true := by kernel_rfl
theorem ov1 : Extern.findNext Try.f59 = none := by kernel_rfl
theorem ov2 : Extern.find Try.f59 = some (Extern.SlicesOverlaps.overlaps #[29, 29] #[4]) := by kernel_rfl
theorem ov3 : (Try.f59.name == "runtime.NumGoroutine") = false := by kernel_rfl
theorem ov4 : look T 29 = some ⟨.sl 44, 1, 24, [.nils]⟩ := rfl
theorem ov5 : look T 44 = some ⟨.st [(0, 9), (1, 3)], 2, 24, [.str [], .int .i64 0]⟩ := rfl
theorem ov {N : Nat} {o : Oper} {h : Nat → List Blk} {ρ : Operand → V} {c : Call} {fop : Operand} (hop : o.op = .call c) (hc : c.callee = .value fop) (hfn : ρ fop = .fn 59 []) (hd : dstOK N o.dst = true)
    {k1 i1 o1 l1 n1 k2 i2 o2 l2 n2 sz1 : Nat} {rows1 rows2 : List (List V)} {ks1 ks2 : Option (List Nat)} (hargs : c.args.toList.map ρ = [.osl k1 i1 o1 l1 n1, .osl k2 i2 o2 l2 n2]) (hne : k1 ≠ k2)
    (hh1 : (h k1)[i1]? = some (.rows sz1 rows1 ks1)) (hh2 : (h k2)[i2]? = some (.rows 2 rows2 ks2)) (hn1 : n1 = rows1.length) (hn2 : n2 = rows2.length) :
    GoodW Try.prog N o ρ h (.bool false) [] [k1, k2] := by
  refine overlaps_good (P := Try.prog) (T := T) (fn := Try.f59) hop hc hfn hd env.table ov4 rfl ov5 Try.func59 ov3 ov0 ov1 ov2 hargs hne hh1 hh2 hn1 hn2 rfl
theorem take_pre {α : Type} {A B : List α} {i : Nat} (h : A.length = i) : (A ++ B).take i = A := by subst h; simp
theorem drop_pre {α : Type} {A B : List α} {i : Nat} (k : Nat) (h : A.length = i) : (A ++ B).drop (i + k) = B.drop k := by subst h; simp
set_option maxHeartbeats 2000000 in
theorem insert_nil (c : Count) : Spec Try.prog 52 [.nils, .int .i64 0, .osl 2 0 0 1 1] [(2, .rows 2 [c.row] none)] (.osl 40 0 0 1 1) [(2, .rows 2 [c.row] none), (40, .rows 2 [c.row] (some []))] := by
  refine Spec.body env Try.func52 rfl (by kernel_rfl) (Nat.le_of_ble_eq_true (by kernel_rfl)) (keysSub rfl) fun Γ hN hK => ?_; have hML : maxLen = 9223372036854775807 := by unfold maxLen; rfl
  refine W.ownNil 0 40 2 rfl rfl ?_
  repeat (first | refine W.seq ?_ | (refine W.reg env hN (by kernel_rfl) ?_; conv => whnf) | refine W.condT rfl ?_ | refine W.condF rfl ?_ | (refine W.skip ?_; conv => whnf) | (refine W.exit ?_; conv => whnf) | refine W.block ?_ | (refine fun (hlen : (_ : Nat) ≤ _) => ?_; conv => whnf) | (refine okFp_intro (by kernel_rfl) ?_; conv => whnf) | (refine And.intro rfl ?_; conv => whnf) | (refine And.intro (by omega) ?_; conv => whnf) | (refine rowAt_of rfl ?_; conv => whnf) | (refine boolRes_true (by omega) ?_; conv => whnf) | (refine boolRes_false (by omega) ?_; conv => whnf) | (refine boolRes_true rfl ?_; conv => whnf))
  refine ⟨⟨rfl, rfl⟩, fits24 (n := 1) (by omega), .inl ⟨rfl, rfl, ?_⟩⟩
  conv => whnf
  repeat (first | refine W.seq ?_ | (refine W.reg env hN (by kernel_rfl) ?_; conv => whnf) | refine W.condT rfl ?_ | refine W.condF rfl ?_ | (refine W.skip ?_; conv => whnf) | (refine W.exit ?_; conv => whnf) | refine W.block ?_ | (refine fun (hlen : (_ : Nat) ≤ _) => ?_; conv => whnf) | (refine okFp_intro (by kernel_rfl) ?_; conv => whnf) | (refine And.intro rfl ?_; conv => whnf) | (refine And.intro (by omega) ?_; conv => whnf) | (refine rowAt_of rfl ?_; conv => whnf) | (refine boolRes_true (by omega) ?_; conv => whnf) | (refine boolRes_false (by omega) ?_; conv => whnf) | (refine boolRes_true rfl ?_; conv => whnf))
  (refine W.ret ?_; conv => whnf)
  exact retH rfl (.refl _) rfl rfl rfl ⟨rfl, rfl, rfl, rfl, trivial⟩
set_option maxHeartbeats 2000000 in
theorem insert_spec (l : List Count) (i : Nat) (c : Count) (hi : i ≤ l.length) (hl : l.length ≤ 4294967296) : Spec Try.prog 52 [.osl 0 0 0 (countRows l).length (countRows l).length, .int .i64 i, .osl 2 0 0 1 1] [(0, .rows 2 (countRows l) (some [])), (2, .rows 2 [c.row] none)] (.osl 40 0 0 (l.length + 1) (l.length + 1))
    [(0, .gone), (2, .rows 2 [c.row] none), (40, .rows 2 (countRows (l.take i ++ c :: l.drop i)) (some []))] := by
  have hcl := countRows_len l
  have hro : countRows (l.take i ++ c :: l.drop i) = (countRows l).take i ++ c.row :: (countRows l).drop i := by simp [countRows]
  rw [hro, ← hcl]
  rw [← hcl] at hi hl
  generalize countRows l = R at *
  refine Spec.body env Try.func52 rfl (by kernel_rfl) (Nat.le_of_ble_eq_true (by kernel_rfl)) (keysSub rfl) fun Γ hN hK => ?_; have hML : maxLen = 9223372036854775807 := by unfold maxLen; rfl
  repeat (first | refine W.seq ?_ | (refine W.reg env hN (by kernel_rfl) ?_; conv => whnf) | refine W.condT rfl ?_ | refine W.condF rfl ?_ | (refine W.skip ?_; conv => whnf) | (refine W.exit ?_; conv => whnf) | refine W.block ?_ | (refine fun (hlen : (_ : Nat) ≤ _) => ?_; conv => whnf) | (refine okFp_intro (by kernel_rfl) ?_; conv => whnf) | (refine And.intro rfl ?_; conv => whnf) | (refine And.intro (by omega) ?_; conv => whnf) | (refine rowAt_of rfl ?_; conv => whnf) | (refine boolRes_true (by omega) ?_; conv => whnf) | (refine boolRes_false (by omega) ?_; conv => whnf) | (refine boolRes_true rfl ?_; conv => whnf))
  refine boolRes_split (fun hb => ?_) (fun hb => ?_) <;> conv => whnf
  · have hin : i = R.length := by omega
    subst hin
    rw [List.take_length, List.drop_length]
    repeat (first | refine W.seq ?_ | (refine W.reg env hN (by kernel_rfl) ?_; conv => whnf) | refine W.condT rfl ?_ | refine W.condF rfl ?_ | (refine W.skip ?_; conv => whnf) | (refine W.exit ?_; conv => whnf) | refine W.block ?_ | (refine fun (hlen : (_ : Nat) ≤ _) => ?_; conv => whnf) | (refine okFp_intro (by kernel_rfl) ?_; conv => whnf) | (refine And.intro rfl ?_; conv => whnf) | (refine And.intro (by omega) ?_; conv => whnf) | (refine rowAt_of rfl ?_; conv => whnf) | (refine boolRes_true (by omega) ?_; conv => whnf) | (refine boolRes_false (by omega) ?_; conv => whnf) | (refine boolRes_true rfl ?_; conv => whnf))
    refine ⟨⟨rfl, rfl⟩, fits24 (n := R.length + 1) (by omega), .inl ⟨rfl, rfl, ?_⟩⟩
    conv => whnf
    repeat (first | refine W.seq ?_ | (refine W.reg env hN (by kernel_rfl) ?_; conv => whnf) | refine W.condT rfl ?_ | refine W.condF rfl ?_ | (refine W.skip ?_; conv => whnf) | (refine W.exit ?_; conv => whnf) | refine W.block ?_ | (refine fun (hlen : (_ : Nat) ≤ _) => ?_; conv => whnf) | (refine okFp_intro (by kernel_rfl) ?_; conv => whnf) | (refine And.intro rfl ?_; conv => whnf) | (refine And.intro (by omega) ?_; conv => whnf) | (refine rowAt_of rfl ?_; conv => whnf) | (refine boolRes_true (by omega) ?_; conv => whnf) | (refine boolRes_false (by omega) ?_; conv => whnf) | (refine boolRes_true rfl ?_; conv => whnf))
    refine W.adopt (n := R.length + 1) (sz := 2) (rows := R ++ [c.row]) (ks := some []) 6 0 40 (by rfl) (by rfl) (by simp) (by rfl) ?_
    (refine W.ret ?_; conv => whnf)
    exact retH rfl (.refl _) rfl rfl rfl ⟨rfl, rfl, rfl, rfl, rfl, rfl, trivial⟩
  · refine W.condF rfl ?_
    refine W.skip ?_
    conv => whnf
    refine W.capSplit (n := R.length) (l := R.length) (sz := 2) (rows := R) (ks := some []) 0 (by rfl) (by rfl) rfl fun cap hc1 hc2 => ?_
    repeat (first | refine W.seq ?_ | (refine W.reg env hN (by kernel_rfl) ?_; conv => whnf) | refine W.condT rfl ?_ | refine W.condF rfl ?_ | (refine W.skip ?_; conv => whnf) | (refine W.exit ?_; conv => whnf) | refine W.block ?_ | (refine fun (hlen : (_ : Nat) ≤ _) => ?_; conv => whnf) | (refine okFp_intro (by kernel_rfl) ?_; conv => whnf) | (refine And.intro rfl ?_; conv => whnf) | (refine And.intro (by omega) ?_; conv => whnf) | (refine rowAt_of rfl ?_; conv => whnf) | (refine boolRes_true (by omega) ?_; conv => whnf) | (refine boolRes_false (by omega) ?_; conv => whnf) | (refine boolRes_true rfl ?_; conv => whnf))
    refine boolRes_split (fun hb => ?_) (fun hb => ?_) <;> conv => whnf
    · have e1 : ((i : Int)).toNat = i := Int.toNat_natCast i
      have e2 : ((R.length : Int) + (1 : Nat) - (i : Int)).toNat = R.length + 1 - i := by omega
      have e3 : i + (R.length + 1 - i) = R.length + 1 := by omega
      have e4 : ((i : Int) + (1 : Nat)).toNat = i + 1 := by omega
      have e5 : (((R.length + 1 : Nat) : Int)).toNat = R.length + 1 := by omega
      refine W.condT rfl ?_
      refine W.seq ?_
      (refine W.reg env hN (by kernel_rfl) ?_; conv => whnf)
      repeat (first | (refine fun (hlen : (_ : Nat) ≤ _) => ?_; conv => whnf) | (refine okFp_intro (by kernel_rfl) ?_; conv => whnf) | (refine And.intro rfl ?_; conv => whnf) | (refine And.intro (by omega) ?_; conv => whnf) | (refine rowAt_of rfl ?_; conv => whnf) | (refine boolRes_true (by omega) ?_; conv => whnf) | (refine boolRes_false (by omega) ?_; conv => whnf) | (refine boolRes_true rfl ?_; conv => whnf))
      refine .inr ⟨rfl, ?_⟩
      conv => whnf
      repeat (first | (refine fun (hlen : (_ : Nat) ≤ _) => ?_; conv => whnf) | (refine okFp_intro (by kernel_rfl) ?_; conv => whnf) | (refine And.intro rfl ?_; conv => whnf) | (refine And.intro (by omega) ?_; conv => whnf) | (refine rowAt_of rfl ?_; conv => whnf) | (refine boolRes_true (by omega) ?_; conv => whnf) | (refine boolRes_false (by omega) ?_; conv => whnf) | (refine boolRes_true rfl ?_; conv => whnf))
      refine ⟨fits24 (by omega), ?_⟩
      conv => whnf
      refine W.leG (mp := [(0, 0), (2, 2), (40, 40)]) (bo := []) (st' := ⟨[(0, .oslc 0 0 0 R.length R.length cap), (1, .int .i64 i), (2, .osl 2 0 0 1 1), (7, .int .i64 1), (8, .int .i64 R.length), (9, .osl 40 0 0 (R.length + 1) (R.length + 1))], [(0, [.rows 2 R (some [])]), (2, [.rows 2 [c.row] none]), (40, [.rows 2 (R.take i ++ List.replicate (R.length + 1 - i) [.str [], .int .i64 0]) (some [])])], [0, 2, 40]⟩)
        (LeG.mk' rfl rfl rfl ⟨⟨_, .refl _, rfl⟩, ⟨_, .refl _, rfl⟩, ⟨_, .refl _, rfl⟩, ⟨_, .refl _, rfl⟩, ⟨_, .refl _, rfl⟩, ⟨_, .refl _, (by show V.osl 40 0 0 ((i : Int).toNat + ((R.length : Int) + (1 : Nat) - (i : Int)).toNat) ((i : Int).toNat + ((R.length : Int) + (1 : Nat) - (i : Int)).toNat) = _; rw [e1, e2, e3])⟩, trivial⟩
          (.cons 0 rfl rfl (.refl _) rfl (.cons 2 rfl rfl (.refl _) rfl (.cons 40 rfl rfl (.refl _) (by show _ = [Blk.rows 2 (R.take (i : Int).toNat ++ List.replicate ((R.length : Int) + (1 : Nat) - (i : Int)).toNat [.str [], .int .i64 0]) (some [])]; rw [e1, e2]) .nil))) rfl rfl (by rw [hK]; rfl)) ?_
      refine W.seq ?_
      (refine W.reg env hN (by kernel_rfl) ?_; conv => whnf)
      repeat (first | (refine fun (hlen : (_ : Nat) ≤ _) => ?_; conv => whnf) | (refine okFp_intro (by kernel_rfl) ?_; conv => whnf) | (refine And.intro rfl ?_; conv => whnf) | (refine And.intro (by omega) ?_; conv => whnf) | (refine rowAt_of rfl ?_; conv => whnf) | (refine boolRes_true (by omega) ?_; conv => whnf) | (refine boolRes_false (by omega) ?_; conv => whnf) | (refine boolRes_true rfl ?_; conv => whnf))
      refine ⟨by simp; omega, by omega, ?_⟩
      conv => whnf
      repeat (first | (refine fun (hlen : (_ : Nat) ≤ _) => ?_; conv => whnf) | (refine okFp_intro (by kernel_rfl) ?_; conv => whnf) | (refine And.intro rfl ?_; conv => whnf) | (refine And.intro (by omega) ?_; conv => whnf) | (refine rowAt_of rfl ?_; conv => whnf) | (refine boolRes_true (by omega) ?_; conv => whnf) | (refine boolRes_false (by omega) ?_; conv => whnf) | (refine boolRes_true rfl ?_; conv => whnf))
      refine ⟨by simp; omega, ?_⟩
      conv => whnf
      refine W.leG (mp := [(0, 0), (2, 2), (40, 40)]) (bo := []) (st' := ⟨[(0, .oslc 0 0 0 R.length R.length cap), (1, .int .i64 i), (7, .int .i64 1), (9, .osl 40 0 0 (R.length + 1) (R.length + 1))], [(0, [.rows 2 R (some [])]), (2, [.rows 2 [c.row] none]), (40, [.rows 2 (R.take i ++ c.row :: List.replicate (R.length - i) [.str [], .int .i64 0]) (some [])])], [0, 2, 40]⟩)
        (LeG.mk' rfl rfl rfl (by repeat' (first | exact trivial | exact ⟨_, .refl _, rfl⟩ | apply And.intro))
          (.cons 0 rfl rfl (.refl _) rfl (.cons 2 rfl rfl (.refl _) rfl (.cons 40 rfl rfl (.refl _) (by
            show _ = [Blk.rows 2 (List.take (0 + (i : Int).toNat) (R.take i ++ List.replicate (R.length + 1 - i) [.str [], .int .i64 0]) ++ (List.take (min 1 (((R.length + 1 : Nat) : Int).toNat - (i : Int).toNat)) [c.row] ++ List.drop (0 + (i : Int).toNat + min 1 (((R.length + 1 : Nat) : Int).toNat - (i : Int).toNat)) (R.take i ++ List.replicate (R.length + 1 - i) [.str [], .int .i64 0]))) (some [])]
            rw [e1, e5, show min 1 (R.length + 1 - i) = 1 by omega, Nat.zero_add]
            have hti : (R.take i).length = i := by simp; omega
            rw [take_pre hti, drop_pre 1 hti, List.drop_replicate, show R.length + 1 - i - 1 = R.length - i by omega]
            rfl) .nil))) rfl rfl (by rw [hK]; rfl)) ?_
      refine W.seq ?_
      (refine W.reg env hN (by kernel_rfl) ?_; conv => whnf)
      repeat (first | (refine fun (hlen : (_ : Nat) ≤ _) => ?_; conv => whnf) | (refine okFp_intro (by kernel_rfl) ?_; conv => whnf) | (refine And.intro rfl ?_; conv => whnf) | (refine And.intro (by omega) ?_; conv => whnf) | (refine rowAt_of rfl ?_; conv => whnf) | (refine boolRes_true (by omega) ?_; conv => whnf) | (refine boolRes_false (by omega) ?_; conv => whnf) | (refine boolRes_true rfl ?_; conv => whnf))
      refine ⟨by simp; omega, by omega, ?_⟩
      conv => whnf
      repeat (first | (refine fun (hlen : (_ : Nat) ≤ _) => ?_; conv => whnf) | (refine okFp_intro (by kernel_rfl) ?_; conv => whnf) | (refine And.intro rfl ?_; conv => whnf) | (refine And.intro (by omega) ?_; conv => whnf) | (refine rowAt_of rfl ?_; conv => whnf) | (refine boolRes_true (by omega) ?_; conv => whnf) | (refine boolRes_false (by omega) ?_; conv => whnf) | (refine boolRes_true rfl ?_; conv => whnf))
      refine .inl ?_
      conv => whnf
      repeat (first | (refine fun (hlen : (_ : Nat) ≤ _) => ?_; conv => whnf) | (refine okFp_intro (by kernel_rfl) ?_; conv => whnf) | (refine And.intro rfl ?_; conv => whnf) | (refine And.intro (by omega) ?_; conv => whnf) | (refine rowAt_of rfl ?_; conv => whnf) | (refine boolRes_true (by omega) ?_; conv => whnf) | (refine boolRes_false (by omega) ?_; conv => whnf) | (refine boolRes_true rfl ?_; conv => whnf))
      refine ⟨⟨rfl, by simp; omega⟩, ?_⟩
      conv => whnf
      repeat (first | (refine fun (hlen : (_ : Nat) ≤ _) => ?_; conv => whnf) | (refine okFp_intro (by kernel_rfl) ?_; conv => whnf) | (refine And.intro rfl ?_; conv => whnf) | (refine And.intro (by omega) ?_; conv => whnf) | (refine rowAt_of rfl ?_; conv => whnf) | (refine boolRes_true (by omega) ?_; conv => whnf) | (refine boolRes_false (by omega) ?_; conv => whnf) | (refine boolRes_true rfl ?_; conv => whnf))
      refine W.leG (mp := [(0, 0), (2, 2), (40, 40)]) (bo := []) (st' := ⟨[(9, .osl 40 0 0 (R.length + 1) (R.length + 1))], [(0, [.gone]), (2, [.rows 2 [c.row] none]), (40, [.rows 2 (R.take i ++ c.row :: R.drop i) (some [])])], [0, 2, 40]⟩)
        (LeG.mk' rfl rfl rfl (by repeat' (first | exact trivial | exact ⟨_, .refl _, rfl⟩ | apply And.intro))
          (.gone 0 rfl rfl rfl (.cons 2 rfl rfl (.refl _) rfl (.cons 40 rfl rfl (.refl _) (by
            show _ = [Blk.rows 2 (List.take (0 + ((i : Int) + (1 : Nat)).toNat) (R.take i ++ c.row :: List.replicate (R.length - i) [.str [], .int .i64 0]) ++ (List.take (min (List.take ((R.length : Int).toNat - (i : Int).toNat) (List.drop (0 + (i : Int).toNat) R)).length (((R.length + 1 : Nat) : Int).toNat - ((i : Int) + (1 : Nat)).toNat)) (List.take ((R.length : Int).toNat - (i : Int).toNat) (List.drop (0 + (i : Int).toNat) R)) ++ List.drop (0 + ((i : Int) + (1 : Nat)).toNat + min (List.take ((R.length : Int).toNat - (i : Int).toNat) (List.drop (0 + (i : Int).toNat) R)).length (((R.length + 1 : Nat) : Int).toNat - ((i : Int) + (1 : Nat)).toNat)) (R.take i ++ c.row :: List.replicate (R.length - i) [.str [], .int .i64 0]))) (some [])]
            have hti : (R.take i ++ [c.row]).length = i + 1 := by simp; omega
            have hdr : (List.drop i R).length = R.length - i := by simp
            rw [e1, e4, e5, Int.toNat_natCast, Nat.zero_add, Nat.zero_add, List.take_of_length_le (l := List.drop i R) (by omega), hdr, show R.length + 1 - (i + 1) = R.length - i by omega, Nat.min_self,
              show R.take i ++ c.row :: List.replicate (R.length - i) [V.str [], .int .i64 0] = (R.take i ++ [c.row]) ++ List.replicate (R.length - i) [V.str [], .int .i64 0] by simp, take_pre hti, drop_pre _ hti, List.take_of_length_le (l := List.drop i R) (by omega)]
            simp) .nil))) rfl rfl (by rw [hK]; rfl)) ?_
      repeat (first | refine W.seq ?_ | (refine W.reg env hN (by kernel_rfl) ?_; conv => whnf) | refine W.condT rfl ?_ | refine W.condF rfl ?_ | (refine W.skip ?_; conv => whnf) | (refine W.exit ?_; conv => whnf) | refine W.block ?_ | (refine fun (hlen : (_ : Nat) ≤ _) => ?_; conv => whnf) | (refine okFp_intro (by kernel_rfl) ?_; conv => whnf) | (refine And.intro rfl ?_; conv => whnf) | (refine And.intro (by omega) ?_; conv => whnf) | (refine rowAt_of rfl ?_; conv => whnf) | (refine boolRes_true (by omega) ?_; conv => whnf) | (refine boolRes_false (by omega) ?_; conv => whnf) | (refine boolRes_true rfl ?_; conv => whnf))
      (refine W.ret ?_; conv => whnf)
      exact retH rfl (.refl _) rfl rfl rfl ⟨rfl, rfl, rfl, rfl, rfl, rfl, trivial⟩
    · refine W.condF rfl ?_
      refine W.skip ?_
      conv => whnf
      have e1 : ((i : Int)).toNat = i := Int.toNat_natCast i
      have e2 : ((R.length : Int) + (1 : Nat)).toNat = R.length + 1 := by omega
      have hEl : (R ++ List.replicate 1 (List.replicate 2 V.dead)).length = R.length + 1 := by simp
      refine W.extend (n := R.length) (l := R.length) (cap := cap) (sz := 2) (rows := R) (ks := some []) 0 1 (by rfl) (by rfl) rfl (by omega) ?_
      refine W.seq ?_
      (refine W.reg env hN (by kernel_rfl) ?_; conv => whnf)
      repeat (first | (refine fun (hlen : (_ : Nat) ≤ _) => ?_; conv => whnf) | (refine okFp_intro (by kernel_rfl) ?_; conv => whnf) | (refine And.intro rfl ?_; conv => whnf) | (refine And.intro (by omega) ?_; conv => whnf) | (refine rowAt_of rfl ?_; conv => whnf) | (refine boolRes_true (by omega) ?_; conv => whnf) | (refine boolRes_false (by omega) ?_; conv => whnf) | (refine boolRes_true rfl ?_; conv => whnf))
      refine .inl ?_
      conv => whnf
      refine W.leG (mp := [(0, 0), (2, 2)]) (bo := []) (st' := ⟨[(0, .osl 0 0 0 (R.length + 1) (R.length + 1)), (1, .int .i64 i), (2, .osl 2 0 0 1 1), (7, .int .i64 1), (8, .int .i64 R.length)], [(0, [.rows 2 (R ++ List.replicate 1 (List.replicate 2 .dead)) (some [])]), (2, [.rows 2 [c.row] none])], [0, 2]⟩)
        (LeG.mk' rfl rfl rfl ⟨⟨_, .refl _, rfl⟩, ⟨_, .refl _, rfl⟩, ⟨_, .refl _, rfl⟩, ⟨_, .refl _, rfl⟩, ⟨_, .refl _, rfl⟩, trivial⟩
          (.cons 0 rfl rfl (.refl _) rfl (.cons 2 rfl rfl (.refl _) rfl .nil)) rfl rfl (by rw [hK]; rfl)) ?_
      generalize hE : R ++ List.replicate 1 (List.replicate 2 V.dead) = E at *
      refine W.seq ?_
      refine W.seq ?_
      (refine W.reg env hN (by kernel_rfl) ?_; conv => whnf)
      repeat (first | (refine fun (hlen : (_ : Nat) ≤ _) => ?_; conv => whnf) | (refine okFp_intro (by kernel_rfl) ?_; conv => whnf) | (refine And.intro rfl ?_; conv => whnf) | (refine And.intro (by omega) ?_; conv => whnf) | (refine rowAt_of rfl ?_; conv => whnf) | (refine boolRes_true (by omega) ?_; conv => whnf) | (refine boolRes_false (by omega) ?_; conv => whnf) | (refine boolRes_true rfl ?_; conv => whnf))
      refine ⟨_, _, _, ov (k1 := 2) (k2 := 0) (rows1 := [c.row]) (rows2 := E) (sz1 := 2) rfl rfl rfl (by kernel_rfl) rfl (by omega) rfl rfl rfl hEl.symm, ?_⟩
      conv => whnf
      repeat (first | (refine fun (hlen : (_ : Nat) ≤ _) => ?_; conv => whnf) | (refine okFp_intro (by kernel_rfl) ?_; conv => whnf) | (refine And.intro rfl ?_; conv => whnf) | (refine And.intro (by omega) ?_; conv => whnf) | (refine rowAt_of rfl ?_; conv => whnf) | (refine boolRes_true (by omega) ?_; conv => whnf) | (refine boolRes_false (by omega) ?_; conv => whnf) | (refine boolRes_true rfl ?_; conv => whnf))
      refine W.condT rfl ?_
      refine W.seq ?_
      (refine W.reg env hN (by kernel_rfl) ?_; conv => whnf)
      repeat (first | (refine fun (hlen : (_ : Nat) ≤ _) => ?_; conv => whnf) | (refine okFp_intro (by kernel_rfl) ?_; conv => whnf) | (refine And.intro rfl ?_; conv => whnf) | (refine And.intro (by omega) ?_; conv => whnf) | (refine rowAt_of rfl ?_; conv => whnf) | (refine boolRes_true (by omega) ?_; conv => whnf) | (refine boolRes_false (by omega) ?_; conv => whnf) | (refine boolRes_true rfl ?_; conv => whnf))
      have e4 : ((i : Int) + (1 : Nat)).toNat = i + 1 := by omega
      have e5 : (((R.length + 1 : Nat) : Int)).toNat = R.length + 1 := by omega
      have hti : (R.take (i + 1)).length = i + 1 := by simp; omega
      have hEt : E.take (i + 1) = R.take (i + 1) := by rw [← hE, List.take_append_of_le_length (by omega)]
      have hEd : E.drop i = R.drop i ++ [[.dead, .dead]] := by rw [← hE, List.drop_append_of_le_length (by omega)]; rfl
      have hdr : (List.drop i R).length = R.length - i := by simp
      have hE0 : E.drop (R.length + 1) = [] := List.drop_of_length_le (by omega)
      refine W.leG (mp := [(0, 0), (2, 2)]) (bo := []) (st' := ⟨[(0, .osl 0 0 0 (R.length + 1) (R.length + 1)), (1, .int .i64 i), (2, .osl 2 0 0 1 1)], [(0, [.rows 2 (R.take (i + 1) ++ R.drop i) (some [])]), (2, [.rows 2 [c.row] none])], [0, 2]⟩)
        (LeG.mk' rfl rfl rfl (by repeat' (first | exact trivial | exact ⟨_, .refl _, rfl⟩ | apply And.intro))
          (.cons 0 rfl rfl (.refl _) (by
            show _ = [Blk.rows 2 (List.take (0 + ((i : Int) + (1 : Nat)).toNat) E ++ (List.take (min (List.take (((R.length + 1 : Nat) : Int).toNat - (i : Int).toNat) (List.drop (0 + (i : Int).toNat) E)).length (((R.length + 1 : Nat) : Int).toNat - ((i : Int) + (1 : Nat)).toNat)) (List.take (((R.length + 1 : Nat) : Int).toNat - (i : Int).toNat) (List.drop (0 + (i : Int).toNat) E)) ++ List.drop (0 + ((i : Int) + (1 : Nat)).toNat + min (List.take (((R.length + 1 : Nat) : Int).toNat - (i : Int).toNat) (List.drop (0 + (i : Int).toNat) E)).length (((R.length + 1 : Nat) : Int).toNat - ((i : Int) + (1 : Nat)).toNat)) E)) (some [])]
            rw [e1, e4, e5, Nat.zero_add, Nat.zero_add, hEt, hEd, List.take_of_length_le (l := R.drop i ++ [[V.dead, .dead]]) (by rw [List.length_append, hdr, List.length_singleton]; omega), show min (R.drop i ++ [[V.dead, .dead]]).length (R.length + 1 - (i + 1)) = R.length - i by rw [List.length_append, hdr, List.length_singleton]; omega,
              show i + 1 + (R.length - i) = R.length + 1 by omega, hE0, take_pre hdr, List.append_nil]) (.cons 2 rfl rfl (.refl _) rfl .nil)) rfl rfl (by rw [hK]; rfl)) ?_
      refine W.seq ?_
      (refine W.reg env hN (by kernel_rfl) ?_; conv => whnf)
      repeat (first | (refine fun (hlen : (_ : Nat) ≤ _) => ?_; conv => whnf) | (refine okFp_intro (by kernel_rfl) ?_; conv => whnf) | (refine And.intro rfl ?_; conv => whnf) | (refine And.intro (by omega) ?_; conv => whnf) | (refine rowAt_of rfl ?_; conv => whnf) | (refine boolRes_true (by omega) ?_; conv => whnf) | (refine boolRes_false (by omega) ?_; conv => whnf) | (refine boolRes_true rfl ?_; conv => whnf))
      refine ⟨by simp; omega, by omega, ?_⟩
      conv => whnf
      repeat (first | (refine fun (hlen : (_ : Nat) ≤ _) => ?_; conv => whnf) | (refine okFp_intro (by kernel_rfl) ?_; conv => whnf) | (refine And.intro rfl ?_; conv => whnf) | (refine And.intro (by omega) ?_; conv => whnf) | (refine rowAt_of rfl ?_; conv => whnf) | (refine boolRes_true (by omega) ?_; conv => whnf) | (refine boolRes_false (by omega) ?_; conv => whnf) | (refine boolRes_true rfl ?_; conv => whnf))
      refine ⟨⟨rfl, by simp; omega⟩, ?_⟩
      conv => whnf
      repeat (first | (refine fun (hlen : (_ : Nat) ≤ _) => ?_; conv => whnf) | (refine okFp_intro (by kernel_rfl) ?_; conv => whnf) | (refine And.intro rfl ?_; conv => whnf) | (refine And.intro (by omega) ?_; conv => whnf) | (refine rowAt_of rfl ?_; conv => whnf) | (refine boolRes_true (by omega) ?_; conv => whnf) | (refine boolRes_false (by omega) ?_; conv => whnf) | (refine boolRes_true rfl ?_; conv => whnf))
      have hi2 : i < R.length := by omega
      have hX : R.take (i + 1) ++ R.drop i = R.take i ++ (R[i] :: R.drop i) := by
        rw [List.take_add_one, List.getElem?_eq_getElem hi2, List.append_assoc]; rfl
      have htk : (R.take i).length = i := by simp; omega
      refine W.leG (mp := [(0, 0), (2, 2)]) (bo := []) (st' := ⟨[(0, .osl 0 0 0 (R.length + 1) (R.length + 1))], [(0, [.rows 2 (R.take i ++ c.row :: R.drop i) (some [])]), (2, [.rows 2 [c.row] none])], [0, 2]⟩)
        (LeG.mk' rfl rfl rfl (by repeat' (first | exact trivial | exact ⟨_, .refl _, rfl⟩ | apply And.intro))
          (.cons 0 rfl rfl (.refl _) (by
            show _ = [Blk.rows 2 (List.take (0 + (i : Int).toNat) (R.take (i + 1) ++ R.drop i) ++ (List.take (min 1 (((R.length + 1 : Nat) : Int).toNat - (i : Int).toNat)) [c.row] ++ List.drop (0 + (i : Int).toNat + min 1 (((R.length + 1 : Nat) : Int).toNat - (i : Int).toNat)) (R.take (i + 1) ++ R.drop i))) (some [])]
            rw [e1, e5, Nat.zero_add, show min 1 (R.length + 1 - i) = 1 by omega, hX, take_pre htk, drop_pre 1 htk]
            rfl) (.cons 2 rfl rfl (.refl _) rfl .nil)) rfl rfl (by rw [hK]; rfl)) ?_
      refine W.seq ?_
      (refine W.reg env hN (by kernel_rfl) ?_; conv => whnf)
      refine W.adopt (n := R.length + 1) (sz := 2) (rows := R.take i ++ c.row :: R.drop i) (ks := some []) 6 0 40 (by rfl) (by rfl) (by simp; omega) (by rfl) ?_
      (refine W.ret ?_; conv => whnf)
      exact retH rfl (.refl _) rfl rfl rfl ⟨rfl, rfl, rfl, rfl, rfl, rfl, trivial⟩
end Go.Sx.Sp
