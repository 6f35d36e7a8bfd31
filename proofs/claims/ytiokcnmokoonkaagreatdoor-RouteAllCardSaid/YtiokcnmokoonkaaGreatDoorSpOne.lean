/- Types of the program, and library functions. -/
import Derived.Test.YtiokcnmokoonkaaGreatDoorSxThree
import Derived.Test.YtiokcnmokoonkaaGreatDoorProg
import Derived.Test.YtiokcnmokoonkaaGreatDoorSxFour
import Derived.Test.YtiokcnmokoonkaaGreatDoorSxFive
import Derived.Shelf.Unicode.ValidAny
import Derived.Lib.LaidTab
import Derived.Test.YtiokcnmokoonkaaGreatDoorSxSix
import Derived.Shelf.Small.Strs
import Derived.Ground.SlsfProg
import Derived.Shelf.SlGeneric
set_option linter.unusedVariables false
set_option linter.unusedSimpArgs false
namespace Go.Sx.Sp
open Go Go.Sx Go.Proofs
theorem tok1:TOK Tryz.prog 1 ⟨.fn,1,8,[.nilf]⟩:=tok_of (by kernel_rfl)
theorem tok2:TOK Tryz.prog 2 ⟨.int .i64,1,8,[.int .i64 0]⟩:=tok_of (by kernel_rfl)
theorem tok3:TOK Tryz.prog 3 ⟨.int .i64,1,8,[.int .i64 0]⟩:=tok_of (by kernel_rfl)
theorem tok4:TOK Tryz.prog 4 ⟨.bool,1,1,[.bool false]⟩:=tok_of (by kernel_rfl)
theorem tok5:TOK Tryz.prog 5 ⟨.int .u8,1,1,[.int .u8 0]⟩:=tok_of (by kernel_rfl)
theorem tok6:TOK Tryz.prog 6 ⟨.int .u8,1,1,[.int .u8 0]⟩:=tok_of (by kernel_rfl)
theorem tok7:TOK Tryz.prog 7 ⟨.st [(0,2),(1,3),(2,4),(3,6)],4,24,[.int .i64 0,.int .i64 0,.bool false,.int .u8 0]⟩:=tok_of (by kernel_rfl)
theorem tok8:TOK Tryz.prog 8 ⟨.st [(0,2),(1,3),(2,4),(3,6)],4,24,[.int .i64 0,.int .i64 0,.bool false,.int .u8 0]⟩:=tok_of (by kernel_rfl)
theorem tok9:TOK Tryz.prog 9 ⟨.str,1,16,[.str []]⟩:=tok_of (by kernel_rfl)
theorem tok10:TOK Tryz.prog 10 ⟨.str,1,16,[.str []]⟩:=tok_of (by kernel_rfl)
theorem tok11:TOK Tryz.prog 11 ⟨.str,1,16,[.str []]⟩:=tok_of (by kernel_rfl)
theorem tok12:TOK Tryz.prog 12 ⟨.int .u64,1,8,[.int .u64 0]⟩:=tok_of (by kernel_rfl)
theorem tok13:TOK Tryz.prog 13 ⟨.st [(0,9),(1,12)],2,24,[.str [],.int .u64 0]⟩:=tok_of (by kernel_rfl)
theorem tok14:TOK Tryz.prog 14 ⟨.st [(0,9),(1,12)],2,24,[.str [],.int .u64 0]⟩:=tok_of (by kernel_rfl)
theorem tok15:TOK Tryz.prog 15 ⟨.ptr 236,1,8,[.nilp]⟩:=tok_of (by kernel_rfl)
theorem tok16:TOK Tryz.prog 16 ⟨.ptr 239,1,8,[.nilp]⟩:=tok_of (by kernel_rfl)
theorem tok17:TOK Tryz.prog 17 ⟨.ptr 248,1,8,[.nilp]⟩:=tok_of (by kernel_rfl)
theorem tok18:TOK Tryz.prog 18 ⟨.st [(0,17)],1,8,[.nilp]⟩:=tok_of (by kernel_rfl)
theorem tok19:TOK Tryz.prog 19 ⟨.st [(0,17)],1,8,[.nilp]⟩:=tok_of (by kernel_rfl)
theorem tok20:TOK Tryz.prog 20 ⟨.iface,1,16,[.nili]⟩:=tok_of (by kernel_rfl)
theorem tok21:TOK Tryz.prog 21 ⟨.int .i32,1,4,[.int .i32 0]⟩:=tok_of (by kernel_rfl)
theorem tok22:TOK Tryz.prog 22 ⟨.sl 3,1,24,[.nils]⟩:=tok_of (by kernel_rfl)
theorem tok23:TOK Tryz.prog 23 ⟨.sl 35,1,24,[.nils]⟩:=tok_of (by kernel_rfl)
theorem tok24:TOK Tryz.prog 24 ⟨.fn,1,8,[.nilf]⟩:=tok_of (by kernel_rfl)
theorem tok25:TOK Tryz.prog 25 ⟨.fn,1,8,[.nilf]⟩:=tok_of (by kernel_rfl)
theorem tok26:TOK Tryz.prog 26 ⟨.ptr 81,1,8,[.nilp]⟩:=tok_of (by kernel_rfl)
theorem tok27:TOK Tryz.prog 27 ⟨.fn,1,8,[.nilf]⟩:=tok_of (by kernel_rfl)
theorem tok28:TOK Tryz.prog 28 ⟨.sl 51,1,24,[.nils]⟩:=tok_of (by kernel_rfl)
theorem tok29:TOK Tryz.prog 29 ⟨.fn,1,8,[.nilf]⟩:=tok_of (by kernel_rfl)
theorem tok30:TOK Tryz.prog 30 ⟨.fn,1,8,[.nilf]⟩:=tok_of (by kernel_rfl)
theorem tok31:TOK Tryz.prog 31 ⟨.fn,1,8,[.nilf]⟩:=tok_of (by kernel_rfl)
theorem tok32:TOK Tryz.prog 32 ⟨.st [(0,3),(1,3)],2,16,[.int .i64 0,.int .i64 0]⟩:=tok_of (by kernel_rfl)
theorem tok33:TOK Tryz.prog 33 ⟨.st [(0,3),(1,3)],2,16,[.int .i64 0,.int .i64 0]⟩:=tok_of (by kernel_rfl)
theorem tok34:TOK Tryz.prog 34 ⟨.st [(0,33),(2,33),(4,3),(5,3),(6,3),(7,3),(8,3),(9,3),(10,3)],11,88,[.int .i64 0,.int .i64 0,.int .i64 0,.int .i64 0,.int .i64 0,.int .i64 0,.int .i64 0,.int .i64 0,.int .i64 0,.int .i64 0,.int .i64 0]⟩:=tok_of (by kernel_rfl)
theorem tok35:TOK Tryz.prog 35 ⟨.st [(0,33),(2,33),(4,3),(5,3),(6,3),(7,3),(8,3),(9,3),(10,3)],11,88,[.int .i64 0,.int .i64 0,.int .i64 0,.int .i64 0,.int .i64 0,.int .i64 0,.int .i64 0,.int .i64 0,.int .i64 0,.int .i64 0,.int .i64 0]⟩:=tok_of (by kernel_rfl)
theorem tok36:TOK Tryz.prog 36 ⟨.sl 23,1,24,[.nils]⟩:=tok_of (by kernel_rfl)
theorem tok37:TOK Tryz.prog 37 ⟨.arr 3 3,3,24,[.int .i64 0,.int .i64 0,.int .i64 0]⟩:=tok_of (by kernel_rfl)
theorem tok38:TOK Tryz.prog 38 ⟨.fn,1,8,[.nilf]⟩:=tok_of (by kernel_rfl)
theorem tok39:TOK Tryz.prog 39 ⟨.sl 37,1,24,[.nils]⟩:=tok_of (by kernel_rfl)
theorem tok40:TOK Tryz.prog 40 ⟨.sl 55,1,24,[.nils]⟩:=tok_of (by kernel_rfl)
theorem tok41:TOK Tryz.prog 41 ⟨.int .i64,1,8,[.int .i64 0]⟩:=tok_of (by kernel_rfl)
theorem tok43:TOK Tryz.prog 43 ⟨.fn,1,8,[.nilf]⟩:=tok_of (by kernel_rfl)
theorem tok44:TOK Tryz.prog 44 ⟨.fn,1,8,[.nilf]⟩:=tok_of (by kernel_rfl)
theorem tok45:TOK Tryz.prog 45 ⟨.sl 59,1,24,[.nils]⟩:=tok_of (by kernel_rfl)
theorem tok47:TOK Tryz.prog 47 ⟨.fn,1,8,[.nilf]⟩:=tok_of (by kernel_rfl)
theorem tok48:TOK Tryz.prog 48 ⟨.fn,1,8,[.nilf]⟩:=tok_of (by kernel_rfl)
theorem tok49:TOK Tryz.prog 49 ⟨.sl 79,1,24,[.nils]⟩:=tok_of (by kernel_rfl)
theorem tok50:TOK Tryz.prog 50 ⟨.st [(0,3),(1,9),(2,49)],3,48,[.int .i64 0,.str [],.nils]⟩:=tok_of (by kernel_rfl)
theorem tok51:TOK Tryz.prog 51 ⟨.st [(0,3),(1,9),(2,49)],3,48,[.int .i64 0,.str [],.nils]⟩:=tok_of (by kernel_rfl)
theorem tok52:TOK Tryz.prog 52 ⟨.fn,1,8,[.nilf]⟩:=tok_of (by kernel_rfl)
theorem tok53:TOK Tryz.prog 53 ⟨.sl 61,1,24,[.nils]⟩:=tok_of (by kernel_rfl)
theorem tok54:TOK Tryz.prog 54 ⟨.st [(0,3),(1,53)],2,32,[.int .i64 0,.nils]⟩:=tok_of (by kernel_rfl)
theorem tok55:TOK Tryz.prog 55 ⟨.st [(0,3),(1,53)],2,32,[.int .i64 0,.nils]⟩:=tok_of (by kernel_rfl)
theorem tok56:TOK Tryz.prog 56 ⟨.st [(0,3),(1,3),(2,3),(3,22)],4,48,[.int .i64 0,.int .i64 0,.int .i64 0,.nils]⟩:=tok_of (by kernel_rfl)
theorem tok57:TOK Tryz.prog 57 ⟨.st [(0,3),(1,3),(2,3),(3,22)],4,48,[.int .i64 0,.int .i64 0,.int .i64 0,.nils]⟩:=tok_of (by kernel_rfl)
theorem tok58:TOK Tryz.prog 58 ⟨.st [(0,55),(2,57)],6,80,[.int .i64 0,.nils,.int .i64 0,.int .i64 0,.int .i64 0,.nils]⟩:=tok_of (by kernel_rfl)
theorem tok59:TOK Tryz.prog 59 ⟨.st [(0,55),(2,57)],6,80,[.int .i64 0,.nils,.int .i64 0,.int .i64 0,.int .i64 0,.nils]⟩:=tok_of (by kernel_rfl)
theorem tok60:TOK Tryz.prog 60 ⟨.st [(0,33),(2,33)],4,32,[.int .i64 0,.int .i64 0,.int .i64 0,.int .i64 0]⟩:=tok_of (by kernel_rfl)
theorem tok61:TOK Tryz.prog 61 ⟨.st [(0,33),(2,33)],4,32,[.int .i64 0,.int .i64 0,.int .i64 0,.int .i64 0]⟩:=tok_of (by kernel_rfl)
theorem tok62:TOK Tryz.prog 62 ⟨.fn,1,8,[.nilf]⟩:=tok_of (by kernel_rfl)
theorem tok63:TOK Tryz.prog 63 ⟨.fn,1,8,[.nilf]⟩:=tok_of (by kernel_rfl)
theorem tok64:TOK Tryz.prog 64 ⟨.map 65 4,1,8,[.nilm]⟩:=tok_of (by kernel_rfl)
theorem tok65:TOK Tryz.prog 65 ⟨.arr 2 33,4,32,[.int .i64 0,.int .i64 0,.int .i64 0,.int .i64 0]⟩:=tok_of (by kernel_rfl)
theorem tok66:TOK Tryz.prog 66 ⟨.fn,1,8,[.nilf]⟩:=tok_of (by kernel_rfl)
theorem tok67:TOK Tryz.prog 67 ⟨.fn,1,8,[.nilf]⟩:=tok_of (by kernel_rfl)
theorem tok69:TOK Tryz.prog 69 ⟨.fn,1,8,[.nilf]⟩:=tok_of (by kernel_rfl)
theorem tok70:TOK Tryz.prog 70 ⟨.fn,1,8,[.nilf]⟩:=tok_of (by kernel_rfl)
theorem tok72:TOK Tryz.prog 72 ⟨.fn,1,8,[.nilf]⟩:=tok_of (by kernel_rfl)
theorem tok73:TOK Tryz.prog 73 ⟨.fn,1,8,[.nilf]⟩:=tok_of (by kernel_rfl)
theorem tok74:TOK Tryz.prog 74 ⟨.fn,1,8,[.nilf]⟩:=tok_of (by kernel_rfl)
theorem tok75:TOK Tryz.prog 75 ⟨.st [(0,4),(1,9)],2,24,[.bool false,.str []]⟩:=tok_of (by kernel_rfl)
theorem tok76:TOK Tryz.prog 76 ⟨.st [(0,4),(1,9)],2,24,[.bool false,.str []]⟩:=tok_of (by kernel_rfl)
theorem tok77:TOK Tryz.prog 77 ⟨.sl 76,1,24,[.nils]⟩:=tok_of (by kernel_rfl)
theorem tok78:TOK Tryz.prog 78 ⟨.st [(0,9),(1,77)],2,40,[.str [],.nils]⟩:=tok_of (by kernel_rfl)
theorem tok79:TOK Tryz.prog 79 ⟨.st [(0,9),(1,77)],2,40,[.str [],.nils]⟩:=tok_of (by kernel_rfl)
theorem tok80:TOK Tryz.prog 80 ⟨.st [(0,22),(1,3)],2,32,[.nils,.int .i64 0]⟩:=tok_of (by kernel_rfl)
theorem tok81:TOK Tryz.prog 81 ⟨.st [(0,22),(1,3)],2,32,[.nils,.int .i64 0]⟩:=tok_of (by kernel_rfl)
theorem tok82:TOK Tryz.prog 82 ⟨.fn,1,8,[.nilf]⟩:=tok_of (by kernel_rfl)
theorem tok84:TOK Tryz.prog 84 ⟨.fn,1,8,[.nilf]⟩:=tok_of (by kernel_rfl)
theorem tok85:TOK Tryz.prog 85 ⟨.sl 185,1,24,[.nils]⟩:=tok_of (by kernel_rfl)
theorem tok86:TOK Tryz.prog 86 ⟨.st [(0,4),(1,85)],2,32,[.bool false,.nils]⟩:=tok_of (by kernel_rfl)
theorem tok87:TOK Tryz.prog 87 ⟨.st [(0,4),(1,85)],2,32,[.bool false,.nils]⟩:=tok_of (by kernel_rfl)
theorem tok88:TOK Tryz.prog 88 ⟨.st [(0,87),(2,87)],4,64,[.bool false,.nils,.bool false,.nils]⟩:=tok_of (by kernel_rfl)
theorem tok89:TOK Tryz.prog 89 ⟨.st [(0,87),(2,87)],4,64,[.bool false,.nils,.bool false,.nils]⟩:=tok_of (by kernel_rfl)
theorem tok90:TOK Tryz.prog 90 ⟨.fn,1,8,[.nilf]⟩:=tok_of (by kernel_rfl)
theorem tok91:TOK Tryz.prog 91 ⟨.fn,1,8,[.nilf]⟩:=tok_of (by kernel_rfl)
theorem tok92:TOK Tryz.prog 92 ⟨.map 3 53,1,8,[.nilm]⟩:=tok_of (by kernel_rfl)
theorem tok93:TOK Tryz.prog 93 ⟨.map 3 53,1,8,[.nilm]⟩:=tok_of (by kernel_rfl)
theorem tok94:TOK Tryz.prog 94 ⟨.fn,1,8,[.nilf]⟩:=tok_of (by kernel_rfl)
theorem tok95:TOK Tryz.prog 95 ⟨.fn,1,8,[.nilf]⟩:=tok_of (by kernel_rfl)
theorem tok96:TOK Tryz.prog 96 ⟨.fn,1,8,[.nilf]⟩:=tok_of (by kernel_rfl)
theorem tok97:TOK Tryz.prog 97 ⟨.fn,1,8,[.nilf]⟩:=tok_of (by kernel_rfl)
theorem tok98:TOK Tryz.prog 98 ⟨.fn,1,8,[.nilf]⟩:=tok_of (by kernel_rfl)
theorem tok100:TOK Tryz.prog 100 ⟨.fn,1,8,[.nilf]⟩:=tok_of (by kernel_rfl)
theorem tok101:TOK Tryz.prog 101 ⟨.fn,1,8,[.nilf]⟩:=tok_of (by kernel_rfl)
theorem tok102:TOK Tryz.prog 102 ⟨.fn,1,8,[.nilf]⟩:=tok_of (by kernel_rfl)
theorem tok104:TOK Tryz.prog 104 ⟨.fn,1,8,[.nilf]⟩:=tok_of (by kernel_rfl)
theorem tok105:TOK Tryz.prog 105 ⟨.sl 108,1,24,[.nils]⟩:=tok_of (by kernel_rfl)
theorem tok106:TOK Tryz.prog 106 ⟨.fn,1,8,[.nilf]⟩:=tok_of (by kernel_rfl)
theorem tok107:TOK Tryz.prog 107 ⟨.fn,1,8,[.nilf]⟩:=tok_of (by kernel_rfl)
theorem tok108:TOK Tryz.prog 108 ⟨.sl 4,1,24,[.nils]⟩:=tok_of (by kernel_rfl)
theorem tok109:TOK Tryz.prog 109 ⟨.sl 9,1,24,[.nils]⟩:=tok_of (by kernel_rfl)
theorem tok110:TOK Tryz.prog 110 ⟨.fn,1,8,[.nilf]⟩:=tok_of (by kernel_rfl)
theorem tok111:TOK Tryz.prog 111 ⟨.fn,1,8,[.nilf]⟩:=tok_of (by kernel_rfl)
theorem tok113:TOK Tryz.prog 113 ⟨.fn,1,8,[.nilf]⟩:=tok_of (by kernel_rfl)
theorem tok114:TOK Tryz.prog 114 ⟨.fn,1,8,[.nilf]⟩:=tok_of (by kernel_rfl)
theorem tok115:TOK Tryz.prog 115 ⟨.fn,1,8,[.nilf]⟩:=tok_of (by kernel_rfl)
theorem tok116:TOK Tryz.prog 116 ⟨.fn,1,8,[.nilf]⟩:=tok_of (by kernel_rfl)
theorem tok117:TOK Tryz.prog 117 ⟨.fn,1,8,[.nilf]⟩:=tok_of (by kernel_rfl)
theorem tok118:TOK Tryz.prog 118 ⟨.fn,1,8,[.nilf]⟩:=tok_of (by kernel_rfl)
theorem tok119:TOK Tryz.prog 119 ⟨.fn,1,8,[.nilf]⟩:=tok_of (by kernel_rfl)
theorem tok120:TOK Tryz.prog 120 ⟨.fn,1,8,[.nilf]⟩:=tok_of (by kernel_rfl)
theorem tok121:TOK Tryz.prog 121 ⟨.fn,1,8,[.nilf]⟩:=tok_of (by kernel_rfl)
theorem tok122:TOK Tryz.prog 122 ⟨.map 3 3,1,8,[.nilm]⟩:=tok_of (by kernel_rfl)
theorem tok123:TOK Tryz.prog 123 ⟨.fn,1,8,[.nilf]⟩:=tok_of (by kernel_rfl)
theorem tok124:TOK Tryz.prog 124 ⟨.map 3 4,1,8,[.nilm]⟩:=tok_of (by kernel_rfl)
theorem tok125:TOK Tryz.prog 125 ⟨.fn,1,8,[.nilf]⟩:=tok_of (by kernel_rfl)
theorem tok126:TOK Tryz.prog 126 ⟨.fn,1,8,[.nilf]⟩:=tok_of (by kernel_rfl)
theorem tok128:TOK Tryz.prog 128 ⟨.fn,1,8,[.nilf]⟩:=tok_of (by kernel_rfl)
theorem tok129:TOK Tryz.prog 129 ⟨.fn,1,8,[.nilf]⟩:=tok_of (by kernel_rfl)
theorem tok130:TOK Tryz.prog 130 ⟨.fn,1,8,[.nilf]⟩:=tok_of (by kernel_rfl)
theorem tok131:TOK Tryz.prog 131 ⟨.fn,1,8,[.nilf]⟩:=tok_of (by kernel_rfl)
theorem tok132:TOK Tryz.prog 132 ⟨.ptr 158,1,8,[.nilp]⟩:=tok_of (by kernel_rfl)
theorem tok133:TOK Tryz.prog 133 ⟨.fn,1,8,[.nilf]⟩:=tok_of (by kernel_rfl)
theorem tok134:TOK Tryz.prog 134 ⟨.fn,1,8,[.nilf]⟩:=tok_of (by kernel_rfl)
theorem tok135:TOK Tryz.prog 135 ⟨.fn,1,8,[.nilf]⟩:=tok_of (by kernel_rfl)
theorem tok136:TOK Tryz.prog 136 ⟨.fn,1,8,[.nilf]⟩:=tok_of (by kernel_rfl)
theorem tok137:TOK Tryz.prog 137 ⟨.fn,1,8,[.nilf]⟩:=tok_of (by kernel_rfl)
theorem tok138:TOK Tryz.prog 138 ⟨.fn,1,8,[.nilf]⟩:=tok_of (by kernel_rfl)
theorem tok139:TOK Tryz.prog 139 ⟨.fn,1,8,[.nilf]⟩:=tok_of (by kernel_rfl)
theorem tok140:TOK Tryz.prog 140 ⟨.fn,1,8,[.nilf]⟩:=tok_of (by kernel_rfl)
theorem tok141:TOK Tryz.prog 141 ⟨.fn,1,8,[.nilf]⟩:=tok_of (by kernel_rfl)
theorem tok142:TOK Tryz.prog 142 ⟨.fn,1,8,[.nilf]⟩:=tok_of (by kernel_rfl)
theorem tok143:TOK Tryz.prog 143 ⟨.fn,1,8,[.nilf]⟩:=tok_of (by kernel_rfl)
theorem tok144:TOK Tryz.prog 144 ⟨.map 9 3,1,8,[.nilm]⟩:=tok_of (by kernel_rfl)
theorem tok145:TOK Tryz.prog 145 ⟨.fn,1,8,[.nilf]⟩:=tok_of (by kernel_rfl)
theorem tok146:TOK Tryz.prog 146 ⟨.fn,1,8,[.nilf]⟩:=tok_of (by kernel_rfl)
theorem tok147:TOK Tryz.prog 147 ⟨.fn,1,8,[.nilf]⟩:=tok_of (by kernel_rfl)
theorem tok148:TOK Tryz.prog 148 ⟨.fn,1,8,[.nilf]⟩:=tok_of (by kernel_rfl)
theorem tok149:TOK Tryz.prog 149 ⟨.fn,1,8,[.nilf]⟩:=tok_of (by kernel_rfl)
theorem tok150:TOK Tryz.prog 150 ⟨.fn,1,8,[.nilf]⟩:=tok_of (by kernel_rfl)
theorem tok151:TOK Tryz.prog 151 ⟨.int .u64,1,8,[.int .u64 0]⟩:=tok_of (by kernel_rfl)
theorem tok152:TOK Tryz.prog 152 ⟨.fn,1,8,[.nilf]⟩:=tok_of (by kernel_rfl)
theorem tok153:TOK Tryz.prog 153 ⟨.fn,1,8,[.nilf]⟩:=tok_of (by kernel_rfl)
theorem tok154:TOK Tryz.prog 154 ⟨.fn,1,8,[.nilf]⟩:=tok_of (by kernel_rfl)
theorem tok155:TOK Tryz.prog 155 ⟨.fn,1,8,[.nilf]⟩:=tok_of (by kernel_rfl)
theorem tok156:TOK Tryz.prog 156 ⟨.sl 160,1,24,[.nils]⟩:=tok_of (by kernel_rfl)
theorem tok157:TOK Tryz.prog 157 ⟨.st [(0,156)],1,24,[.nils]⟩:=tok_of (by kernel_rfl)
theorem tok158:TOK Tryz.prog 158 ⟨.st [(0,156)],1,24,[.nils]⟩:=tok_of (by kernel_rfl)
theorem tok159:TOK Tryz.prog 159 ⟨.st [(0,51),(3,3),(4,3),(5,3),(6,22),(7,22),(8,144)],9,128,[.int .i64 0,.str [],.nils,.int .i64 0,.int .i64 0,.int .i64 0,.nils,.nils,.nilm]⟩:=tok_of (by kernel_rfl)
theorem tok160:TOK Tryz.prog 160 ⟨.st [(0,51),(3,3),(4,3),(5,3),(6,22),(7,22),(8,144)],9,128,[.int .i64 0,.str [],.nils,.int .i64 0,.int .i64 0,.int .i64 0,.nils,.nils,.nilm]⟩:=tok_of (by kernel_rfl)
theorem tok161:TOK Tryz.prog 161 ⟨.fn,1,8,[.nilf]⟩:=tok_of (by kernel_rfl)
theorem tok162:TOK Tryz.prog 162 ⟨.fn,1,8,[.nilf]⟩:=tok_of (by kernel_rfl)
theorem tok163:TOK Tryz.prog 163 ⟨.fn,1,8,[.nilf]⟩:=tok_of (by kernel_rfl)
theorem tok164:TOK Tryz.prog 164 ⟨.sl 166,1,24,[.nils]⟩:=tok_of (by kernel_rfl)
theorem tok165:TOK Tryz.prog 165 ⟨.fn,1,8,[.nilf]⟩:=tok_of (by kernel_rfl)
theorem tok166:TOK Tryz.prog 166 ⟨.map 9 4,1,8,[.nilm]⟩:=tok_of (by kernel_rfl)
theorem tok167:TOK Tryz.prog 167 ⟨.fn,1,8,[.nilf]⟩:=tok_of (by kernel_rfl)
theorem tok168:TOK Tryz.prog 168 ⟨.fn,1,8,[.nilf]⟩:=tok_of (by kernel_rfl)
theorem tok169:TOK Tryz.prog 169 ⟨.fn,1,8,[.nilf]⟩:=tok_of (by kernel_rfl)
theorem tok170:TOK Tryz.prog 170 ⟨.fn,1,8,[.nilf]⟩:=tok_of (by kernel_rfl)
theorem tok171:TOK Tryz.prog 171 ⟨.fn,1,8,[.nilf]⟩:=tok_of (by kernel_rfl)
theorem tok173:TOK Tryz.prog 173 ⟨.fn,1,8,[.nilf]⟩:=tok_of (by kernel_rfl)
theorem tok174:TOK Tryz.prog 174 ⟨.fn,1,8,[.nilf]⟩:=tok_of (by kernel_rfl)
theorem tok175:TOK Tryz.prog 175 ⟨.fn,1,8,[.nilf]⟩:=tok_of (by kernel_rfl)
theorem tok176:TOK Tryz.prog 176 ⟨.fn,1,8,[.nilf]⟩:=tok_of (by kernel_rfl)
theorem tok177:TOK Tryz.prog 177 ⟨.fn,1,8,[.nilf]⟩:=tok_of (by kernel_rfl)
theorem tok178:TOK Tryz.prog 178 ⟨.int .i64,1,8,[.int .i64 0]⟩:=tok_of (by kernel_rfl)
theorem tok180:TOK Tryz.prog 180 ⟨.fn,1,8,[.nilf]⟩:=tok_of (by kernel_rfl)
theorem tok181:TOK Tryz.prog 181 ⟨.fn,1,8,[.nilf]⟩:=tok_of (by kernel_rfl)
theorem tok182:TOK Tryz.prog 182 ⟨.fn,1,8,[.nilf]⟩:=tok_of (by kernel_rfl)
theorem tok183:TOK Tryz.prog 183 ⟨.fn,1,8,[.nilf]⟩:=tok_of (by kernel_rfl)
theorem tok184:TOK Tryz.prog 184 ⟨.fn,1,8,[.nilf]⟩:=tok_of (by kernel_rfl)
theorem tok185:TOK Tryz.prog 185 ⟨.int .u32,1,4,[.int .u32 0]⟩:=tok_of (by kernel_rfl)
theorem tok186:TOK Tryz.prog 186 ⟨.fn,1,8,[.nilf]⟩:=tok_of (by kernel_rfl)
theorem tok187:TOK Tryz.prog 187 ⟨.int .u64,1,8,[.int .u64 0]⟩:=tok_of (by kernel_rfl)
theorem tok188:TOK Tryz.prog 188 ⟨.fn,1,8,[.nilf]⟩:=tok_of (by kernel_rfl)
theorem tok189:TOK Tryz.prog 189 ⟨.fn,1,8,[.nilf]⟩:=tok_of (by kernel_rfl)
theorem tok190:TOK Tryz.prog 190 ⟨.fn,1,8,[.nilf]⟩:=tok_of (by kernel_rfl)
theorem tok191:TOK Tryz.prog 191 ⟨.fn,1,8,[.nilf]⟩:=tok_of (by kernel_rfl)
theorem tok192:TOK Tryz.prog 192 ⟨.fn,1,8,[.nilf]⟩:=tok_of (by kernel_rfl)
theorem tok193:TOK Tryz.prog 193 ⟨.fn,1,8,[.nilf]⟩:=tok_of (by kernel_rfl)
theorem tok194:TOK Tryz.prog 194 ⟨.ptr 160,1,8,[.nilp]⟩:=tok_of (by kernel_rfl)
theorem tok195:TOK Tryz.prog 195 ⟨.fn,1,8,[.nilf]⟩:=tok_of (by kernel_rfl)
theorem tok196:TOK Tryz.prog 196 ⟨.fn,1,8,[.nilf]⟩:=tok_of (by kernel_rfl)
theorem tok197:TOK Tryz.prog 197 ⟨.fn,1,8,[.nilf]⟩:=tok_of (by kernel_rfl)
theorem tok198:TOK Tryz.prog 198 ⟨.fn,1,8,[.nilf]⟩:=tok_of (by kernel_rfl)
theorem tok199:TOK Tryz.prog 199 ⟨.fn,1,8,[.nilf]⟩:=tok_of (by kernel_rfl)
theorem tok200:TOK Tryz.prog 200 ⟨.fn,1,8,[.nilf]⟩:=tok_of (by kernel_rfl)
theorem tok201:TOK Tryz.prog 201 ⟨.fn,1,8,[.nilf]⟩:=tok_of (by kernel_rfl)
theorem tok202:TOK Tryz.prog 202 ⟨.fn,1,8,[.nilf]⟩:=tok_of (by kernel_rfl)
theorem tok203:TOK Tryz.prog 203 ⟨.fn,1,8,[.nilf]⟩:=tok_of (by kernel_rfl)
theorem tok204:TOK Tryz.prog 204 ⟨.fn,1,8,[.nilf]⟩:=tok_of (by kernel_rfl)
theorem tok205:TOK Tryz.prog 205 ⟨.fn,1,8,[.nilf]⟩:=tok_of (by kernel_rfl)
theorem tok206:TOK Tryz.prog 206 ⟨.fn,1,8,[.nilf]⟩:=tok_of (by kernel_rfl)
theorem tok207:TOK Tryz.prog 207 ⟨.int .u64,1,8,[.int .u64 0]⟩:=tok_of (by kernel_rfl)
theorem tok208:TOK Tryz.prog 208 ⟨.fn,1,8,[.nilf]⟩:=tok_of (by kernel_rfl)
theorem tok209:TOK Tryz.prog 209 ⟨.fn,1,8,[.nilf]⟩:=tok_of (by kernel_rfl)
theorem tok210:TOK Tryz.prog 210 ⟨.fn,1,8,[.nilf]⟩:=tok_of (by kernel_rfl)
theorem tok211:TOK Tryz.prog 211 ⟨.ptr 3,1,8,[.nilp]⟩:=tok_of (by kernel_rfl)
theorem tok212:TOK Tryz.prog 212 ⟨.fn,1,8,[.nilf]⟩:=tok_of (by kernel_rfl)
theorem tok213:TOK Tryz.prog 213 ⟨.fn,1,8,[.nilf]⟩:=tok_of (by kernel_rfl)
theorem tok214:TOK Tryz.prog 214 ⟨.fn,1,8,[.nilf]⟩:=tok_of (by kernel_rfl)
theorem tok215:TOK Tryz.prog 215 ⟨.fn,1,8,[.nilf]⟩:=tok_of (by kernel_rfl)
theorem tok216:TOK Tryz.prog 216 ⟨.fn,1,8,[.nilf]⟩:=tok_of (by kernel_rfl)
theorem tok217:TOK Tryz.prog 217 ⟨.fn,1,8,[.nilf]⟩:=tok_of (by kernel_rfl)
theorem tok218:TOK Tryz.prog 218 ⟨.fn,1,8,[.nilf]⟩:=tok_of (by kernel_rfl)
theorem tok219:TOK Tryz.prog 219 ⟨.fn,1,8,[.nilf]⟩:=tok_of (by kernel_rfl)
theorem tok220:TOK Tryz.prog 220 ⟨.fn,1,8,[.nilf]⟩:=tok_of (by kernel_rfl)
theorem tok221:TOK Tryz.prog 221 ⟨.ptr 207,1,8,[.nilp]⟩:=tok_of (by kernel_rfl)
theorem tok223:TOK Tryz.prog 223 ⟨.fn,1,8,[.nilf]⟩:=tok_of (by kernel_rfl)
theorem tok224:TOK Tryz.prog 224 ⟨.fn,1,8,[.nilf]⟩:=tok_of (by kernel_rfl)
theorem tok225:TOK Tryz.prog 225 ⟨.fn,1,8,[.nilf]⟩:=tok_of (by kernel_rfl)
theorem tok226:TOK Tryz.prog 226 ⟨.arr 256 5,256,256,[.int .u8 0,.int .u8 0,.int .u8 0,.int .u8 0,.int .u8 0,.int .u8 0,.int .u8 0,.int .u8 0,.int .u8 0,.int .u8 0,.int .u8 0,.int .u8 0,.int .u8 0,.int .u8 0,.int .u8 0,.int .u8 0,.int .u8 0,.int .u8 0,.int .u8 0,.int .u8 0,.int .u8 0,.int .u8 0,.int .u8 0,.int .u8 0,.int .u8 0,.int .u8 0,.int .u8 0,.int .u8 0,.int .u8 0,.int .u8 0,.int .u8 0,.int .u8 0,.int .u8 0,.int .u8 0,.int .u8 0,.int .u8 0,.int .u8 0,.int .u8 0,.int .u8 0,.int .u8 0,.int .u8 0,.int .u8 0,.int .u8 0,.int .u8 0,.int .u8 0,.int .u8 0,.int .u8 0,.int .u8 0,.int .u8 0,.int .u8 0,.int .u8 0,.int .u8 0,.int .u8 0,.int .u8 0,.int .u8 0,.int .u8 0,.int .u8 0,.int .u8 0,.int .u8 0,.int .u8 0,.int .u8 0,.int .u8 0,.int .u8 0,.int .u8 0,.int .u8 0,.int .u8 0,.int .u8 0,.int .u8 0,.int .u8 0,.int .u8 0,.int .u8 0,.int .u8 0,.int .u8 0,.int .u8 0,.int .u8 0,.int .u8 0,.int .u8 0,.int .u8 0,.int .u8 0,.int .u8 0,.int .u8 0,.int .u8 0,.int .u8 0,.int .u8 0,.int .u8 0,.int .u8 0,.int .u8 0,.int .u8 0,.int .u8 0,.int .u8 0,.int .u8 0,.int .u8 0,.int .u8 0,.int .u8 0,.int .u8 0,.int .u8 0,.int .u8 0,.int .u8 0,.int .u8 0,.int .u8 0,.int .u8 0,.int .u8 0,.int .u8 0,.int .u8 0,.int .u8 0,.int .u8 0,.int .u8 0,.int .u8 0,.int .u8 0,.int .u8 0,.int .u8 0,.int .u8 0,.int .u8 0,.int .u8 0,.int .u8 0,.int .u8 0,.int .u8 0,.int .u8 0,.int .u8 0,.int .u8 0,.int .u8 0,.int .u8 0,.int .u8 0,.int .u8 0,.int .u8 0,.int .u8 0,.int .u8 0,.int .u8 0,.int .u8 0,.int .u8 0,.int .u8 0,.int .u8 0,.int .u8 0,.int .u8 0,.int .u8 0,.int .u8 0,.int .u8 0,.int .u8 0,.int .u8 0,.int .u8 0,.int .u8 0,.int .u8 0,.int .u8 0,.int .u8 0,.int .u8 0,.int .u8 0,.int .u8 0,.int .u8 0,.int .u8 0,.int .u8 0,.int .u8 0,.int .u8 0,.int .u8 0,.int .u8 0,.int .u8 0,.int .u8 0,.int .u8 0,.int .u8 0,.int .u8 0,.int .u8 0,.int .u8 0,.int .u8 0,.int .u8 0,.int .u8 0,.int .u8 0,.int .u8 0,.int .u8 0,.int .u8 0,.int .u8 0,.int .u8 0,.int .u8 0,.int .u8 0,.int .u8 0,.int .u8 0,.int .u8 0,.int .u8 0,.int .u8 0,.int .u8 0,.int .u8 0,.int .u8 0,.int .u8 0,.int .u8 0,.int .u8 0,.int .u8 0,.int .u8 0,.int .u8 0,.int .u8 0,.int .u8 0,.int .u8 0,.int .u8 0,.int .u8 0,.int .u8 0,.int .u8 0,.int .u8 0,.int .u8 0,.int .u8 0,.int .u8 0,.int .u8 0,.int .u8 0,.int .u8 0,.int .u8 0,.int .u8 0,.int .u8 0,.int .u8 0,.int .u8 0,.int .u8 0,.int .u8 0,.int .u8 0,.int .u8 0,.int .u8 0,.int .u8 0,.int .u8 0,.int .u8 0,.int .u8 0,.int .u8 0,.int .u8 0,.int .u8 0,.int .u8 0,.int .u8 0,.int .u8 0,.int .u8 0,.int .u8 0,.int .u8 0,.int .u8 0,.int .u8 0,.int .u8 0,.int .u8 0,.int .u8 0,.int .u8 0,.int .u8 0,.int .u8 0,.int .u8 0,.int .u8 0,.int .u8 0,.int .u8 0,.int .u8 0,.int .u8 0,.int .u8 0,.int .u8 0,.int .u8 0,.int .u8 0,.int .u8 0,.int .u8 0,.int .u8 0,.int .u8 0,.int .u8 0,.int .u8 0,.int .u8 0,.int .u8 0,.int .u8 0,.int .u8 0,.int .u8 0,.int .u8 0,.int .u8 0,.int .u8 0,.int .u8 0]⟩:=tok_of (by kernel_rfl)
theorem tok227:TOK Tryz.prog 227 ⟨.st [(0,5),(1,5)],2,2,[.int .u8 0,.int .u8 0]⟩:=tok_of (by kernel_rfl)
theorem tok228:TOK Tryz.prog 228 ⟨.st [(0,5),(1,5)],2,2,[.int .u8 0,.int .u8 0]⟩:=tok_of (by kernel_rfl)
theorem tok229:TOK Tryz.prog 229 ⟨.arr 16 228,32,32,[.int .u8 0,.int .u8 0,.int .u8 0,.int .u8 0,.int .u8 0,.int .u8 0,.int .u8 0,.int .u8 0,.int .u8 0,.int .u8 0,.int .u8 0,.int .u8 0,.int .u8 0,.int .u8 0,.int .u8 0,.int .u8 0,.int .u8 0,.int .u8 0,.int .u8 0,.int .u8 0,.int .u8 0,.int .u8 0,.int .u8 0,.int .u8 0,.int .u8 0,.int .u8 0,.int .u8 0,.int .u8 0,.int .u8 0,.int .u8 0,.int .u8 0,.int .u8 0]⟩:=tok_of (by kernel_rfl)
theorem tok230:TOK Tryz.prog 230 ⟨.fn,1,8,[.nilf]⟩:=tok_of (by kernel_rfl)
theorem tok232:TOK Tryz.prog 232 ⟨.fn,1,8,[.nilf]⟩:=tok_of (by kernel_rfl)
theorem tok233:TOK Tryz.prog 233 ⟨.fn,1,8,[.nilf]⟩:=tok_of (by kernel_rfl)
theorem tok234:TOK Tryz.prog 234 ⟨.fn,1,8,[.nilf]⟩:=tok_of (by kernel_rfl)
theorem tok235:TOK Tryz.prog 235 ⟨.st [(0,17),(1,17),(2,17),(3,9)],4,40,[.nilp,.nilp,.nilp,.str []]⟩:=tok_of (by kernel_rfl)
theorem tok236:TOK Tryz.prog 236 ⟨.st [(0,17),(1,17),(2,17),(3,9)],4,40,[.nilp,.nilp,.nilp,.str []]⟩:=tok_of (by kernel_rfl)
theorem tok237:TOK Tryz.prog 237 ⟨.arr 0 16,0,0,[]⟩:=tok_of (by kernel_rfl)
theorem tok238:TOK Tryz.prog 238 ⟨.st [(0,237)],0,0,[]⟩:=tok_of (by kernel_rfl)
theorem tok239:TOK Tryz.prog 239 ⟨.st [(0,237)],0,0,[]⟩:=tok_of (by kernel_rfl)
theorem tok240:TOK Tryz.prog 240 ⟨.fn,1,8,[.nilf]⟩:=tok_of (by kernel_rfl)
theorem tok241:TOK Tryz.prog 241 ⟨.int .u8,1,1,[.int .u8 0]⟩:=tok_of (by kernel_rfl)
theorem tok242:TOK Tryz.prog 242 ⟨.int .u8,1,1,[.int .u8 0]⟩:=tok_of (by kernel_rfl)
theorem tok243:TOK Tryz.prog 243 ⟨.fn,1,8,[.nilf]⟩:=tok_of (by kernel_rfl)
theorem tok244:TOK Tryz.prog 244 ⟨.ptr 5,1,8,[.nilp]⟩:=tok_of (by kernel_rfl)
theorem tok245:TOK Tryz.prog 245 ⟨.int .i32,1,4,[.int .i32 0]⟩:=tok_of (by kernel_rfl)
theorem tok246:TOK Tryz.prog 246 ⟨.int .i32,1,4,[.int .i32 0]⟩:=tok_of (by kernel_rfl)
theorem tok247:TOK Tryz.prog 247 ⟨.st [(0,12),(1,12),(2,185),(3,241),(4,5),(5,5),(6,242),(7,243),(8,244),(9,245),(10,246)],11,48,[.int .u64 0,.int .u64 0,.int .u32 0,.int .u8 0,.int .u8 0,.int .u8 0,.int .u8 0,.nilf,.nilp,.int .i32 0,.int .i32 0]⟩:=tok_of (by kernel_rfl)
theorem tok248:TOK Tryz.prog 248 ⟨.st [(0,12),(1,12),(2,185),(3,241),(4,5),(5,5),(6,242),(7,243),(8,244),(9,245),(10,246)],11,48,[.int .u64 0,.int .u64 0,.int .u32 0,.int .u8 0,.int .u8 0,.int .u8 0,.int .u8 0,.nilf,.nilp,.int .i32 0,.int .i32 0]⟩:=tok_of (by kernel_rfl)
def T:List (Nat × TI):=[(1,⟨.fn,1,8,[.nilf]⟩),
 (2,⟨.int .i64,1,8,[.int .i64 0]⟩),
 (3,⟨.int .i64,1,8,[.int .i64 0]⟩),
 (4,⟨.bool,1,1,[.bool false]⟩),
 (5,⟨.int .u8,1,1,[.int .u8 0]⟩),
 (6,⟨.int .u8,1,1,[.int .u8 0]⟩),
 (7,⟨.st [(0,2),(1,3),(2,4),(3,6)],4,24,[.int .i64 0,.int .i64 0,.bool false,.int .u8 0]⟩),
 (8,⟨.st [(0,2),(1,3),(2,4),(3,6)],4,24,[.int .i64 0,.int .i64 0,.bool false,.int .u8 0]⟩),
 (9,⟨.str,1,16,[.str []]⟩),
 (10,⟨.str,1,16,[.str []]⟩),
 (11,⟨.str,1,16,[.str []]⟩),
 (12,⟨.int .u64,1,8,[.int .u64 0]⟩),
 (13,⟨.st [(0,9),(1,12)],2,24,[.str [],.int .u64 0]⟩),
 (14,⟨.st [(0,9),(1,12)],2,24,[.str [],.int .u64 0]⟩),
 (15,⟨.ptr 236,1,8,[.nilp]⟩),
 (16,⟨.ptr 239,1,8,[.nilp]⟩),
 (17,⟨.ptr 248,1,8,[.nilp]⟩),
 (18,⟨.st [(0,17)],1,8,[.nilp]⟩),
 (19,⟨.st [(0,17)],1,8,[.nilp]⟩),
 (20,⟨.iface,1,16,[.nili]⟩),
 (21,⟨.int .i32,1,4,[.int .i32 0]⟩),
 (22,⟨.sl 3,1,24,[.nils]⟩),
 (23,⟨.sl 35,1,24,[.nils]⟩),
 (24,⟨.fn,1,8,[.nilf]⟩),
 (25,⟨.fn,1,8,[.nilf]⟩),
 (26,⟨.ptr 81,1,8,[.nilp]⟩),
 (27,⟨.fn,1,8,[.nilf]⟩),
 (28,⟨.sl 51,1,24,[.nils]⟩),
 (29,⟨.fn,1,8,[.nilf]⟩),
 (30,⟨.fn,1,8,[.nilf]⟩),
 (31,⟨.fn,1,8,[.nilf]⟩),
 (32,⟨.st [(0,3),(1,3)],2,16,[.int .i64 0,.int .i64 0]⟩),
 (33,⟨.st [(0,3),(1,3)],2,16,[.int .i64 0,.int .i64 0]⟩),
 (34,⟨.st [(0,33),(2,33),(4,3),(5,3),(6,3),(7,3),(8,3),(9,3),(10,3)],11,88,[.int .i64 0,.int .i64 0,.int .i64 0,.int .i64 0,.int .i64 0,.int .i64 0,.int .i64 0,.int .i64 0,.int .i64 0,.int .i64 0,.int .i64 0]⟩),
 (35,⟨.st [(0,33),(2,33),(4,3),(5,3),(6,3),(7,3),(8,3),(9,3),(10,3)],11,88,[.int .i64 0,.int .i64 0,.int .i64 0,.int .i64 0,.int .i64 0,.int .i64 0,.int .i64 0,.int .i64 0,.int .i64 0,.int .i64 0,.int .i64 0]⟩),
 (36,⟨.sl 23,1,24,[.nils]⟩),
 (37,⟨.arr 3 3,3,24,[.int .i64 0,.int .i64 0,.int .i64 0]⟩),
 (38,⟨.fn,1,8,[.nilf]⟩),
 (39,⟨.sl 37,1,24,[.nils]⟩),
 (40,⟨.sl 55,1,24,[.nils]⟩),
 (41,⟨.int .i64,1,8,[.int .i64 0]⟩),
 (43,⟨.fn,1,8,[.nilf]⟩),
 (44,⟨.fn,1,8,[.nilf]⟩),
 (45,⟨.sl 59,1,24,[.nils]⟩),
 (47,⟨.fn,1,8,[.nilf]⟩),
 (48,⟨.fn,1,8,[.nilf]⟩),
 (49,⟨.sl 79,1,24,[.nils]⟩),
 (50,⟨.st [(0,3),(1,9),(2,49)],3,48,[.int .i64 0,.str [],.nils]⟩),
 (51,⟨.st [(0,3),(1,9),(2,49)],3,48,[.int .i64 0,.str [],.nils]⟩),
 (52,⟨.fn,1,8,[.nilf]⟩),
 (53,⟨.sl 61,1,24,[.nils]⟩),
 (54,⟨.st [(0,3),(1,53)],2,32,[.int .i64 0,.nils]⟩),
 (55,⟨.st [(0,3),(1,53)],2,32,[.int .i64 0,.nils]⟩),
 (56,⟨.st [(0,3),(1,3),(2,3),(3,22)],4,48,[.int .i64 0,.int .i64 0,.int .i64 0,.nils]⟩),
 (57,⟨.st [(0,3),(1,3),(2,3),(3,22)],4,48,[.int .i64 0,.int .i64 0,.int .i64 0,.nils]⟩),
 (58,⟨.st [(0,55),(2,57)],6,80,[.int .i64 0,.nils,.int .i64 0,.int .i64 0,.int .i64 0,.nils]⟩),
 (59,⟨.st [(0,55),(2,57)],6,80,[.int .i64 0,.nils,.int .i64 0,.int .i64 0,.int .i64 0,.nils]⟩),
 (60,⟨.st [(0,33),(2,33)],4,32,[.int .i64 0,.int .i64 0,.int .i64 0,.int .i64 0]⟩),
 (61,⟨.st [(0,33),(2,33)],4,32,[.int .i64 0,.int .i64 0,.int .i64 0,.int .i64 0]⟩),
 (62,⟨.fn,1,8,[.nilf]⟩),
 (63,⟨.fn,1,8,[.nilf]⟩),
 (64,⟨.map 65 4,1,8,[.nilm]⟩),
 (65,⟨.arr 2 33,4,32,[.int .i64 0,.int .i64 0,.int .i64 0,.int .i64 0]⟩),
 (66,⟨.fn,1,8,[.nilf]⟩),
 (67,⟨.fn,1,8,[.nilf]⟩),
 (69,⟨.fn,1,8,[.nilf]⟩),
 (70,⟨.fn,1,8,[.nilf]⟩),
 (72,⟨.fn,1,8,[.nilf]⟩),
 (73,⟨.fn,1,8,[.nilf]⟩),
 (74,⟨.fn,1,8,[.nilf]⟩),
 (75,⟨.st [(0,4),(1,9)],2,24,[.bool false,.str []]⟩),
 (76,⟨.st [(0,4),(1,9)],2,24,[.bool false,.str []]⟩),
 (77,⟨.sl 76,1,24,[.nils]⟩),
 (78,⟨.st [(0,9),(1,77)],2,40,[.str [],.nils]⟩),
 (79,⟨.st [(0,9),(1,77)],2,40,[.str [],.nils]⟩),
 (80,⟨.st [(0,22),(1,3)],2,32,[.nils,.int .i64 0]⟩),
 (81,⟨.st [(0,22),(1,3)],2,32,[.nils,.int .i64 0]⟩),
 (82,⟨.fn,1,8,[.nilf]⟩),
 (84,⟨.fn,1,8,[.nilf]⟩),
 (85,⟨.sl 185,1,24,[.nils]⟩),
 (86,⟨.st [(0,4),(1,85)],2,32,[.bool false,.nils]⟩),
 (87,⟨.st [(0,4),(1,85)],2,32,[.bool false,.nils]⟩),
 (88,⟨.st [(0,87),(2,87)],4,64,[.bool false,.nils,.bool false,.nils]⟩),
 (89,⟨.st [(0,87),(2,87)],4,64,[.bool false,.nils,.bool false,.nils]⟩),
 (90,⟨.fn,1,8,[.nilf]⟩),
 (91,⟨.fn,1,8,[.nilf]⟩),
 (92,⟨.map 3 53,1,8,[.nilm]⟩),
 (93,⟨.map 3 53,1,8,[.nilm]⟩),
 (94,⟨.fn,1,8,[.nilf]⟩),
 (95,⟨.fn,1,8,[.nilf]⟩),
 (96,⟨.fn,1,8,[.nilf]⟩),
 (97,⟨.fn,1,8,[.nilf]⟩),
 (98,⟨.fn,1,8,[.nilf]⟩),
 (100,⟨.fn,1,8,[.nilf]⟩),
 (101,⟨.fn,1,8,[.nilf]⟩),
 (102,⟨.fn,1,8,[.nilf]⟩),
 (104,⟨.fn,1,8,[.nilf]⟩),
 (105,⟨.sl 108,1,24,[.nils]⟩),
 (106,⟨.fn,1,8,[.nilf]⟩),
 (107,⟨.fn,1,8,[.nilf]⟩),
 (108,⟨.sl 4,1,24,[.nils]⟩),
 (109,⟨.sl 9,1,24,[.nils]⟩),
 (110,⟨.fn,1,8,[.nilf]⟩),
 (111,⟨.fn,1,8,[.nilf]⟩),
 (113,⟨.fn,1,8,[.nilf]⟩),
 (114,⟨.fn,1,8,[.nilf]⟩),
 (115,⟨.fn,1,8,[.nilf]⟩),
 (116,⟨.fn,1,8,[.nilf]⟩),
 (117,⟨.fn,1,8,[.nilf]⟩),
 (118,⟨.fn,1,8,[.nilf]⟩),
 (119,⟨.fn,1,8,[.nilf]⟩),
 (120,⟨.fn,1,8,[.nilf]⟩),
 (121,⟨.fn,1,8,[.nilf]⟩),
 (122,⟨.map 3 3,1,8,[.nilm]⟩),
 (123,⟨.fn,1,8,[.nilf]⟩),
 (124,⟨.map 3 4,1,8,[.nilm]⟩),
 (125,⟨.fn,1,8,[.nilf]⟩),
 (126,⟨.fn,1,8,[.nilf]⟩),
 (128,⟨.fn,1,8,[.nilf]⟩),
 (129,⟨.fn,1,8,[.nilf]⟩),
 (130,⟨.fn,1,8,[.nilf]⟩),
 (131,⟨.fn,1,8,[.nilf]⟩),
 (132,⟨.ptr 158,1,8,[.nilp]⟩),
 (133,⟨.fn,1,8,[.nilf]⟩),
 (134,⟨.fn,1,8,[.nilf]⟩),
 (135,⟨.fn,1,8,[.nilf]⟩),
 (136,⟨.fn,1,8,[.nilf]⟩),
 (137,⟨.fn,1,8,[.nilf]⟩),
 (138,⟨.fn,1,8,[.nilf]⟩),
 (139,⟨.fn,1,8,[.nilf]⟩),
 (140,⟨.fn,1,8,[.nilf]⟩),
 (141,⟨.fn,1,8,[.nilf]⟩),
 (142,⟨.fn,1,8,[.nilf]⟩),
 (143,⟨.fn,1,8,[.nilf]⟩),
 (144,⟨.map 9 3,1,8,[.nilm]⟩),
 (145,⟨.fn,1,8,[.nilf]⟩),
 (146,⟨.fn,1,8,[.nilf]⟩),
 (147,⟨.fn,1,8,[.nilf]⟩),
 (148,⟨.fn,1,8,[.nilf]⟩),
 (149,⟨.fn,1,8,[.nilf]⟩),
 (150,⟨.fn,1,8,[.nilf]⟩),
 (151,⟨.int .u64,1,8,[.int .u64 0]⟩),
 (152,⟨.fn,1,8,[.nilf]⟩),
 (153,⟨.fn,1,8,[.nilf]⟩),
 (154,⟨.fn,1,8,[.nilf]⟩),
 (155,⟨.fn,1,8,[.nilf]⟩),
 (156,⟨.sl 160,1,24,[.nils]⟩),
 (157,⟨.st [(0,156)],1,24,[.nils]⟩),
 (158,⟨.st [(0,156)],1,24,[.nils]⟩),
 (159,⟨.st [(0,51),(3,3),(4,3),(5,3),(6,22),(7,22),(8,144)],9,128,[.int .i64 0,.str [],.nils,.int .i64 0,.int .i64 0,.int .i64 0,.nils,.nils,.nilm]⟩),
 (160,⟨.st [(0,51),(3,3),(4,3),(5,3),(6,22),(7,22),(8,144)],9,128,[.int .i64 0,.str [],.nils,.int .i64 0,.int .i64 0,.int .i64 0,.nils,.nils,.nilm]⟩),
 (161,⟨.fn,1,8,[.nilf]⟩),
 (162,⟨.fn,1,8,[.nilf]⟩),
 (163,⟨.fn,1,8,[.nilf]⟩),
 (164,⟨.sl 166,1,24,[.nils]⟩),
 (165,⟨.fn,1,8,[.nilf]⟩),
 (166,⟨.map 9 4,1,8,[.nilm]⟩),
 (167,⟨.fn,1,8,[.nilf]⟩),
 (168,⟨.fn,1,8,[.nilf]⟩),
 (169,⟨.fn,1,8,[.nilf]⟩),
 (170,⟨.fn,1,8,[.nilf]⟩),
 (171,⟨.fn,1,8,[.nilf]⟩),
 (173,⟨.fn,1,8,[.nilf]⟩),
 (174,⟨.fn,1,8,[.nilf]⟩),
 (175,⟨.fn,1,8,[.nilf]⟩),
 (176,⟨.fn,1,8,[.nilf]⟩),
 (177,⟨.fn,1,8,[.nilf]⟩),
 (178,⟨.int .i64,1,8,[.int .i64 0]⟩),
 (180,⟨.fn,1,8,[.nilf]⟩),
 (181,⟨.fn,1,8,[.nilf]⟩),
 (182,⟨.fn,1,8,[.nilf]⟩),
 (183,⟨.fn,1,8,[.nilf]⟩),
 (184,⟨.fn,1,8,[.nilf]⟩),
 (185,⟨.int .u32,1,4,[.int .u32 0]⟩),
 (186,⟨.fn,1,8,[.nilf]⟩),
 (187,⟨.int .u64,1,8,[.int .u64 0]⟩),
 (188,⟨.fn,1,8,[.nilf]⟩),
 (189,⟨.fn,1,8,[.nilf]⟩),
 (190,⟨.fn,1,8,[.nilf]⟩),
 (191,⟨.fn,1,8,[.nilf]⟩),
 (192,⟨.fn,1,8,[.nilf]⟩),
 (193,⟨.fn,1,8,[.nilf]⟩),
 (194,⟨.ptr 160,1,8,[.nilp]⟩),
 (195,⟨.fn,1,8,[.nilf]⟩),
 (196,⟨.fn,1,8,[.nilf]⟩),
 (197,⟨.fn,1,8,[.nilf]⟩),
 (198,⟨.fn,1,8,[.nilf]⟩),
 (199,⟨.fn,1,8,[.nilf]⟩),
 (200,⟨.fn,1,8,[.nilf]⟩),
 (201,⟨.fn,1,8,[.nilf]⟩),
 (202,⟨.fn,1,8,[.nilf]⟩),
 (203,⟨.fn,1,8,[.nilf]⟩),
 (204,⟨.fn,1,8,[.nilf]⟩),
 (205,⟨.fn,1,8,[.nilf]⟩),
 (206,⟨.fn,1,8,[.nilf]⟩),
 (207,⟨.int .u64,1,8,[.int .u64 0]⟩),
 (208,⟨.fn,1,8,[.nilf]⟩),
 (209,⟨.fn,1,8,[.nilf]⟩),
 (210,⟨.fn,1,8,[.nilf]⟩),
 (211,⟨.ptr 3,1,8,[.nilp]⟩),
 (212,⟨.fn,1,8,[.nilf]⟩),
 (213,⟨.fn,1,8,[.nilf]⟩),
 (214,⟨.fn,1,8,[.nilf]⟩),
 (215,⟨.fn,1,8,[.nilf]⟩),
 (216,⟨.fn,1,8,[.nilf]⟩),
 (217,⟨.fn,1,8,[.nilf]⟩),
 (218,⟨.fn,1,8,[.nilf]⟩),
 (219,⟨.fn,1,8,[.nilf]⟩),
 (220,⟨.fn,1,8,[.nilf]⟩),
 (221,⟨.ptr 207,1,8,[.nilp]⟩),
 (223,⟨.fn,1,8,[.nilf]⟩),
 (224,⟨.fn,1,8,[.nilf]⟩),
 (225,⟨.fn,1,8,[.nilf]⟩),
 (226,⟨.arr 256 5,256,256,[.int .u8 0,.int .u8 0,.int .u8 0,.int .u8 0,.int .u8 0,.int .u8 0,.int .u8 0,.int .u8 0,.int .u8 0,.int .u8 0,.int .u8 0,.int .u8 0,.int .u8 0,.int .u8 0,.int .u8 0,.int .u8 0,.int .u8 0,.int .u8 0,.int .u8 0,.int .u8 0,.int .u8 0,.int .u8 0,.int .u8 0,.int .u8 0,.int .u8 0,.int .u8 0,.int .u8 0,.int .u8 0,.int .u8 0,.int .u8 0,.int .u8 0,.int .u8 0,.int .u8 0,.int .u8 0,.int .u8 0,.int .u8 0,.int .u8 0,.int .u8 0,.int .u8 0,.int .u8 0,.int .u8 0,.int .u8 0,.int .u8 0,.int .u8 0,.int .u8 0,.int .u8 0,.int .u8 0,.int .u8 0,.int .u8 0,.int .u8 0,.int .u8 0,.int .u8 0,.int .u8 0,.int .u8 0,.int .u8 0,.int .u8 0,.int .u8 0,.int .u8 0,.int .u8 0,.int .u8 0,.int .u8 0,.int .u8 0,.int .u8 0,.int .u8 0,.int .u8 0,.int .u8 0,.int .u8 0,.int .u8 0,.int .u8 0,.int .u8 0,.int .u8 0,.int .u8 0,.int .u8 0,.int .u8 0,.int .u8 0,.int .u8 0,.int .u8 0,.int .u8 0,.int .u8 0,.int .u8 0,.int .u8 0,.int .u8 0,.int .u8 0,.int .u8 0,.int .u8 0,.int .u8 0,.int .u8 0,.int .u8 0,.int .u8 0,.int .u8 0,.int .u8 0,.int .u8 0,.int .u8 0,.int .u8 0,.int .u8 0,.int .u8 0,.int .u8 0,.int .u8 0,.int .u8 0,.int .u8 0,.int .u8 0,.int .u8 0,.int .u8 0,.int .u8 0,.int .u8 0,.int .u8 0,.int .u8 0,.int .u8 0,.int .u8 0,.int .u8 0,.int .u8 0,.int .u8 0,.int .u8 0,.int .u8 0,.int .u8 0,.int .u8 0,.int .u8 0,.int .u8 0,.int .u8 0,.int .u8 0,.int .u8 0,.int .u8 0,.int .u8 0,.int .u8 0,.int .u8 0,.int .u8 0,.int .u8 0,.int .u8 0,.int .u8 0,.int .u8 0,.int .u8 0,.int .u8 0,.int .u8 0,.int .u8 0,.int .u8 0,.int .u8 0,.int .u8 0,.int .u8 0,.int .u8 0,.int .u8 0,.int .u8 0,.int .u8 0,.int .u8 0,.int .u8 0,.int .u8 0,.int .u8 0,.int .u8 0,.int .u8 0,.int .u8 0,.int .u8 0,.int .u8 0,.int .u8 0,.int .u8 0,.int .u8 0,.int .u8 0,.int .u8 0,.int .u8 0,.int .u8 0,.int .u8 0,.int .u8 0,.int .u8 0,.int .u8 0,.int .u8 0,.int .u8 0,.int .u8 0,.int .u8 0,.int .u8 0,.int .u8 0,.int .u8 0,.int .u8 0,.int .u8 0,.int .u8 0,.int .u8 0,.int .u8 0,.int .u8 0,.int .u8 0,.int .u8 0,.int .u8 0,.int .u8 0,.int .u8 0,.int .u8 0,.int .u8 0,.int .u8 0,.int .u8 0,.int .u8 0,.int .u8 0,.int .u8 0,.int .u8 0,.int .u8 0,.int .u8 0,.int .u8 0,.int .u8 0,.int .u8 0,.int .u8 0,.int .u8 0,.int .u8 0,.int .u8 0,.int .u8 0,.int .u8 0,.int .u8 0,.int .u8 0,.int .u8 0,.int .u8 0,.int .u8 0,.int .u8 0,.int .u8 0,.int .u8 0,.int .u8 0,.int .u8 0,.int .u8 0,.int .u8 0,.int .u8 0,.int .u8 0,.int .u8 0,.int .u8 0,.int .u8 0,.int .u8 0,.int .u8 0,.int .u8 0,.int .u8 0,.int .u8 0,.int .u8 0,.int .u8 0,.int .u8 0,.int .u8 0,.int .u8 0,.int .u8 0,.int .u8 0,.int .u8 0,.int .u8 0,.int .u8 0,.int .u8 0,.int .u8 0,.int .u8 0,.int .u8 0,.int .u8 0,.int .u8 0,.int .u8 0,.int .u8 0,.int .u8 0,.int .u8 0,.int .u8 0,.int .u8 0,.int .u8 0,.int .u8 0,.int .u8 0,.int .u8 0,.int .u8 0,.int .u8 0,.int .u8 0,.int .u8 0,.int .u8 0,.int .u8 0,.int .u8 0,.int .u8 0,.int .u8 0]⟩),
 (227,⟨.st [(0,5),(1,5)],2,2,[.int .u8 0,.int .u8 0]⟩),
 (228,⟨.st [(0,5),(1,5)],2,2,[.int .u8 0,.int .u8 0]⟩),
 (229,⟨.arr 16 228,32,32,[.int .u8 0,.int .u8 0,.int .u8 0,.int .u8 0,.int .u8 0,.int .u8 0,.int .u8 0,.int .u8 0,.int .u8 0,.int .u8 0,.int .u8 0,.int .u8 0,.int .u8 0,.int .u8 0,.int .u8 0,.int .u8 0,.int .u8 0,.int .u8 0,.int .u8 0,.int .u8 0,.int .u8 0,.int .u8 0,.int .u8 0,.int .u8 0,.int .u8 0,.int .u8 0,.int .u8 0,.int .u8 0,.int .u8 0,.int .u8 0,.int .u8 0,.int .u8 0]⟩),
 (230,⟨.fn,1,8,[.nilf]⟩),
 (232,⟨.fn,1,8,[.nilf]⟩),
 (233,⟨.fn,1,8,[.nilf]⟩),
 (234,⟨.fn,1,8,[.nilf]⟩),
 (235,⟨.st [(0,17),(1,17),(2,17),(3,9)],4,40,[.nilp,.nilp,.nilp,.str []]⟩),
 (236,⟨.st [(0,17),(1,17),(2,17),(3,9)],4,40,[.nilp,.nilp,.nilp,.str []]⟩),
 (237,⟨.arr 0 16,0,0,[]⟩),
 (238,⟨.st [(0,237)],0,0,[]⟩),
 (239,⟨.st [(0,237)],0,0,[]⟩),
 (240,⟨.fn,1,8,[.nilf]⟩),
 (241,⟨.int .u8,1,1,[.int .u8 0]⟩),
 (242,⟨.int .u8,1,1,[.int .u8 0]⟩),
 (243,⟨.fn,1,8,[.nilf]⟩),
 (244,⟨.ptr 5,1,8,[.nilp]⟩),
 (245,⟨.int .i32,1,4,[.int .i32 0]⟩),
 (246,⟨.int .i32,1,4,[.int .i32 0]⟩),
 (247,⟨.st [(0,12),(1,12),(2,185),(3,241),(4,5),(5,5),(6,242),(7,243),(8,244),(9,245),(10,246)],11,48,[.int .u64 0,.int .u64 0,.int .u32 0,.int .u8 0,.int .u8 0,.int .u8 0,.int .u8 0,.nilf,.nilp,.int .i32 0,.int .i32 0]⟩),
 (248,⟨.st [(0,12),(1,12),(2,185),(3,241),(4,5),(5,5),(6,242),(7,243),(8,244),(9,245),(10,246)],11,48,[.int .u64 0,.int .u64 0,.int .u32 0,.int .u8 0,.int .u8 0,.int .u8 0,.int .u8 0,.nilf,.nilp,.int .i32 0,.int .i32 0]⟩)]
set_option maxRecDepth 20000 in
theorem env:Env Tryz.prog T:=⟨table_cons tok1 (table_cons tok2 (table_cons tok3 (table_cons tok4 (table_cons tok5 (table_cons tok6 (table_cons tok7 (table_cons tok8 (table_cons tok9 (table_cons tok10 (table_cons tok11 (table_cons tok12 (table_cons tok13 (table_cons tok14 (table_cons tok15 (table_cons tok16 (table_cons tok17 (table_cons tok18 (table_cons tok19 (table_cons tok20 (table_cons tok21 (table_cons tok22 (table_cons tok23 (table_cons tok24 (table_cons tok25 (table_cons tok26 (table_cons tok27 (table_cons tok28 (table_cons tok29 (table_cons tok30 (table_cons tok31 (table_cons tok32 (table_cons tok33 (table_cons tok34 (table_cons tok35 (table_cons tok36 (table_cons tok37 (table_cons tok38 (table_cons tok39 (table_cons tok40 (table_cons tok41 (table_cons tok43 (table_cons tok44 (table_cons tok45 (table_cons tok47 (table_cons tok48 (table_cons tok49 (table_cons tok50 (table_cons tok51 (table_cons tok52 (table_cons tok53 (table_cons tok54 (table_cons tok55 (table_cons tok56 (table_cons tok57 (table_cons tok58 (table_cons tok59 (table_cons tok60 (table_cons tok61 (table_cons tok62 (table_cons tok63 (table_cons tok64 (table_cons tok65 (table_cons tok66 (table_cons tok67 (table_cons tok69 (table_cons tok70 (table_cons tok72 (table_cons tok73 (table_cons tok74 (table_cons tok75 (table_cons tok76 (table_cons tok77 (table_cons tok78 (table_cons tok79 (table_cons tok80 (table_cons tok81 (table_cons tok82 (table_cons tok84 (table_cons tok85 (table_cons tok86 (table_cons tok87 (table_cons tok88 (table_cons tok89 (table_cons tok90 (table_cons tok91 (table_cons tok92 (table_cons tok93 (table_cons tok94 (table_cons tok95 (table_cons tok96 (table_cons tok97 (table_cons tok98 (table_cons tok100 (table_cons tok101 (table_cons tok102 (table_cons tok104 (table_cons tok105 (table_cons tok106 (table_cons tok107 (table_cons tok108 (table_cons tok109 (table_cons tok110 (table_cons tok111 (table_cons tok113 (table_cons tok114 (table_cons tok115 (table_cons tok116 (table_cons tok117 (table_cons tok118 (table_cons tok119 (table_cons tok120 (table_cons tok121 (table_cons tok122 (table_cons tok123 (table_cons tok124 (table_cons tok125 (table_cons tok126 (table_cons tok128 (table_cons tok129 (table_cons tok130 (table_cons tok131 (table_cons tok132 (table_cons tok133 (table_cons tok134 (table_cons tok135 (table_cons tok136 (table_cons tok137 (table_cons tok138 (table_cons tok139 (table_cons tok140 (table_cons tok141 (table_cons tok142 (table_cons tok143 (table_cons tok144 (table_cons tok145 (table_cons tok146 (table_cons tok147 (table_cons tok148 (table_cons tok149 (table_cons tok150 (table_cons tok151 (table_cons tok152 (table_cons tok153 (table_cons tok154 (table_cons tok155 (table_cons tok156 (table_cons tok157 (table_cons tok158 (table_cons tok159 (table_cons tok160 (table_cons tok161 (table_cons tok162 (table_cons tok163 (table_cons tok164 (table_cons tok165 (table_cons tok166 (table_cons tok167 (table_cons tok168 (table_cons tok169 (table_cons tok170 (table_cons tok171 (table_cons tok173 (table_cons tok174 (table_cons tok175 (table_cons tok176 (table_cons tok177 (table_cons tok178 (table_cons tok180 (table_cons tok181 (table_cons tok182 (table_cons tok183 (table_cons tok184 (table_cons tok185 (table_cons tok186 (table_cons tok187 (table_cons tok188 (table_cons tok189 (table_cons tok190 (table_cons tok191 (table_cons tok192 (table_cons tok193 (table_cons tok194 (table_cons tok195 (table_cons tok196 (table_cons tok197 (table_cons tok198 (table_cons tok199 (table_cons tok200 (table_cons tok201 (table_cons tok202 (table_cons tok203 (table_cons tok204 (table_cons tok205 (table_cons tok206 (table_cons tok207 (table_cons tok208 (table_cons tok209 (table_cons tok210 (table_cons tok211 (table_cons tok212 (table_cons tok213 (table_cons tok214 (table_cons tok215 (table_cons tok216 (table_cons tok217 (table_cons tok218 (table_cons tok219 (table_cons tok220 (table_cons tok221 (table_cons tok223 (table_cons tok224 (table_cons tok225 (table_cons tok226 (table_cons tok227 (table_cons tok228 (table_cons tok229 (table_cons tok230 (table_cons tok232 (table_cons tok233 (table_cons tok234 (table_cons tok235 (table_cons tok236 (table_cons tok237 (table_cons tok238 (table_cons tok239 (table_cons tok240 (table_cons tok241 (table_cons tok242 (table_cons tok243 (table_cons tok244 (table_cons tok245 (table_cons tok246 (table_cons tok247 (table_cons tok248 (table_nil))))))))))))))))))))))))))))))))))))))))))))))))))))))))))))))))))))))))))))))))))))))))))))))))))))))))))))))))))))))))))))))))))))))))))))))))))))))))))))))))))))))))))))))))))))))))))))))))))))))))))))))))))))))))))))))))))))))))))),by kernel_rfl⟩
end Go.Sx.Sp
namespace Go.Proofs
open Go.Shelf
def Tryz.laysValid_ren:Go.Shelf.Ren:=⟨fun | 196=>161 | 259=>172 | n=>n,fun | 9=>9 | 4=>4 | 3=>3 | 5=>5 | 12=>12 | 119=>226 | 0=>0 | 46=>151 | 139=>229 | 138=>228 | 53=>187 | n=>n,fun | 3=>0 | 4=>1 | n=>n⟩
theorem Tryz.laysValid:Go.Proofs.Lays.n196 Tryz.prog Tryz.laysValid_ren:={
 mixed:=by kernel_rfl
 f196:=Tryz.func161.trans (congrArg some (by kernel_rfl))
 f259:=Tryz.func172.trans (congrArg some (by kernel_rfl))
 t0:=Tryz.underlying0
 a0:=Tryz.isAgg0
 z0:=Tryz.sizeOf0
 v0:=Tryz.zeroValue0
 t3:=Tryz.underlying3
 a3:=Tryz.isAgg3
 z3:=Tryz.sizeOf3
 v3:=Tryz.zeroValue3
 t4:=Tryz.underlying4
 a4:=Tryz.isAgg4
 z4:=Tryz.sizeOf4
 v4:=Tryz.zeroValue4
 t5:=Tryz.underlying5
 a5:=Tryz.isAgg5
 z5:=Tryz.sizeOf5
 v5:=Tryz.zeroValue5
 t9:=Tryz.underlying9
 a9:=Tryz.isAgg9
 z9:=Tryz.sizeOf9
 v9:=Tryz.zeroValue9
 t12:=Tryz.underlying12
 a12:=Tryz.isAgg12
 z12:=Tryz.sizeOf12
 v12:=Tryz.zeroValue12
 t46:=Tryz.underlying151
 a46:=Tryz.isAgg151
 z46:=Tryz.sizeOf151
 v46:=Tryz.zeroValue151
 t53:=Tryz.underlying187
 a53:=Tryz.isAgg187
 z53:=Tryz.sizeOf187
 v53:=Tryz.zeroValue187
 t119:=Tryz.underlying226
 a119:=Tryz.isAgg226
 z119:=Tryz.sizeOf226
 t138:=Tryz.underlying228
 a138:=Tryz.isAgg228
 z138:=Tryz.sizeOf228
 v138:=Tryz.zeroValue228
 t139:=Tryz.underlying229
 a139:=Tryz.isAgg229
 z139:=Tryz.sizeOf229
 v139:=Tryz.zeroValue229
 g3:=by kernel_rfl
 g4:=by kernel_rfl }
end Go.Proofs
namespace Go.Sx.Sp
open Go Go.Sx Go.Proofs Go.RowKit
def tabsOK (w:World):Prop:=Lib.Utf8Tabs 0 1 w
instance:Glob:=⟨tabsOK,[0,1],False,fun w w' hs h=>by
 have h0:=hs 0 (by simp)
 have h1:=hs 1 (by simp)
 refine ⟨fun c hc=>?_,fun i hi=>?_⟩
 ·rw [cell?_of_heap h0]; exact h.1 c hc
 ·rw [cell?_of_heap h1,cell?_of_heap h1]; exact h.2 i hi⟩
set_option maxRecDepth 1000000 in
theorem utf8_spec (s:List UInt8):Spec Tryz.prog 161 [.str s] [] (.bool (Lib.validD s)) []:=by
 refine Spec.ofCalls (fun cargs w=>enters_of Tryz.func161 (by kernel_rfl) rfl cargs w) fun w F m cargs hl ha hg=>?_
 match cargs,hl with
 | [c],_ =>
  obtain ⟨rfl,hs⟩:=(ha 0 (.str s) c rfl rfl).str_inv
  have hsz:(⟨s.toArray⟩:ByteArray).size ≤ 9223372036854775807:=by
   have:maxLen=9223372036854775807:=by unfold maxLen; rfl
   simpa [ByteArray.size,this] using hs
  refine (Any.utf8_ValidString Tryz.laysValid ⟨s.toArray⟩ w hsz hg).mono fun e w' ⟨he,hb⟩=>?_
  exact ⟨_,he,fun w' F m=>.bool _,hb,fun h=>h.elim⟩
end Go.Sx.Sp
namespace Go.Proofs
open Go.Shelf
def Tryz.sortPath_ren:Go.Shelf.Ren:=⟨fun | 6=>66 | 15=>90 | 14=>92 | 28=>120 | 29=>121 | 20=>123 | 21=>124 | 22=>125 | 23=>126 | 24=>127 | 25=>128 | 26=>129 | 27=>130 | 46=>158 | 47=>154 | 48=>155 | 49=>159 | 50=>160 | 57=>171 | n=>n,fun | 22=>40 | 24=>55 | 25=>67 | 3=>3 | 39=>151 | 0=>0 | 53=>185 | 55=>187 | 4=>4 | 46=>179 | 45=>178 | 50=>127 | 5=>5 | 9=>9 | 66=>207 | 70=>211 | 76=>221 | 77=>222 | n=>n,fun | n=>n⟩
theorem Tryz.sortPath:Go.Proofs.SlLaysF0.n6 Tryz.prog Tryz.sortPath_ren:={
 mixed:=by kernel_rfl
 f6:=⟨Tryz.f66.name,by decide,Tryz.func66.trans (congrArg some (by kernel_rfl))⟩
 f14:=⟨Tryz.f92.name,by decide,Tryz.func92.trans (congrArg some (by kernel_rfl))⟩
 f15:=Tryz.func90.trans (congrArg some (by kernel_rfl))
 f20:=⟨Tryz.f123.name,by decide,Tryz.func123.trans (congrArg some (by kernel_rfl))⟩
 f21:=⟨Tryz.f124.name,by decide,Tryz.func124.trans (congrArg some (by kernel_rfl))⟩
 f22:=⟨Tryz.f125.name,by decide,Tryz.func125.trans (congrArg some (by kernel_rfl))⟩
 f23:=⟨Tryz.f126.name,by decide,Tryz.func126.trans (congrArg some (by kernel_rfl))⟩
 f24:=⟨Tryz.f127.name,by decide,Tryz.func127.trans (congrArg some (by kernel_rfl))⟩
 f25:=⟨Tryz.f128.name,by decide,Tryz.func128.trans (congrArg some (by kernel_rfl))⟩
 f26:=⟨Tryz.f129.name,by decide,Tryz.func129.trans (congrArg some (by kernel_rfl))⟩
 f27:=⟨Tryz.f130.name,by decide,Tryz.func130.trans (congrArg some (by kernel_rfl))⟩
 f28:=Tryz.func120.trans (congrArg some (by kernel_rfl))
 f29:=Tryz.func121.trans (congrArg some (by kernel_rfl))
 f46:=⟨Tryz.f158.name,by decide,Tryz.func158.trans (congrArg some (by kernel_rfl))⟩
 f47:=Tryz.func154.trans (congrArg some (by kernel_rfl))
 f48:=Tryz.func155.trans (congrArg some (by kernel_rfl))
 f49:=⟨Tryz.f159.name,by decide,Tryz.func159.trans (congrArg some (by kernel_rfl))⟩
 f50:=⟨Tryz.f160.name,by decide,Tryz.func160.trans (congrArg some (by kernel_rfl))⟩
 f57:=⟨Tryz.f171.name,by decide,Tryz.func171.trans (congrArg some (by kernel_rfl))⟩
 t0:=Tryz.underlying0
 a0:=Tryz.isAgg0
 z0:=Tryz.sizeOf0
 v0:=Tryz.zeroValue0
 t3:=Tryz.underlying3
 a3:=Tryz.isAgg3
 z3:=Tryz.sizeOf3
 v3:=Tryz.zeroValue3
 t4:=Tryz.underlying4
 a4:=Tryz.isAgg4
 z4:=Tryz.sizeOf4
 v4:=Tryz.zeroValue4
 t5:=Tryz.underlying5
 a5:=Tryz.isAgg5
 z5:=Tryz.sizeOf5
 v5:=Tryz.zeroValue5
 t9:=Tryz.underlying9
 a9:=Tryz.isAgg9
 z9:=Tryz.sizeOf9
 v9:=Tryz.zeroValue9
 t22:=Tryz.underlying40
 a22:=Tryz.isAgg40
 z22:=Tryz.sizeOf40
 v22:=Tryz.zeroValue40
 t25:=Tryz.underlying67
 a25:=Tryz.isAgg67
 z25:=Tryz.sizeOf67
 v25:=Tryz.zeroValue67
 t39:=Tryz.underlying151
 a39:=Tryz.isAgg151
 z39:=Tryz.sizeOf151
 v39:=Tryz.zeroValue151
 t45:=Tryz.underlying178
 a45:=Tryz.isAgg178
 z45:=Tryz.sizeOf178
 v45:=Tryz.zeroValue178
 t46:=Tryz.underlying179
 a46:=Tryz.isAgg179
 z46:=Tryz.sizeOf179
 v46:=Tryz.zeroValue179
 t50:=Tryz.underlying127
 a50:=Tryz.isAgg127
 z50:=Tryz.sizeOf127
 v50:=Tryz.zeroValue127
 t53:=Tryz.underlying185
 a53:=Tryz.isAgg185
 z53:=Tryz.sizeOf185
 v53:=Tryz.zeroValue185
 t55:=Tryz.underlying187
 a55:=Tryz.isAgg187
 z55:=Tryz.sizeOf187
 v55:=Tryz.zeroValue187
 t66:=Tryz.underlying207
 a66:=Tryz.isAgg207
 z66:=Tryz.sizeOf207
 v66:=Tryz.zeroValue207
 t70:=Tryz.underlying211
 a70:=Tryz.isAgg211
 z70:=Tryz.sizeOf211
 v70:=Tryz.zeroValue211
 t76:=Tryz.underlying221
 a76:=Tryz.isAgg221
 z76:=Tryz.sizeOf221
 v76:=Tryz.zeroValue221
 t77:=Tryz.underlying222
 a77:=Tryz.isAgg222
 z77:=Tryz.sizeOf222
 v77:=Tryz.zeroValue222 }
def Tryz.sortStep_ren:Go.Shelf.Ren:=⟨fun | 6=>61 | 15=>90 | 14=>89 | 28=>120 | 29=>121 | 20=>112 | 21=>113 | 22=>114 | 23=>115 | 24=>116 | 25=>117 | 26=>118 | 27=>119 | 46=>153 | 47=>154 | 48=>155 | 49=>156 | 50=>157 | 57=>170 | n=>n,fun | 22=>53 | 24=>61 | 25=>121 | 3=>3 | 39=>151 | 0=>0 | 53=>185 | 55=>187 | 4=>4 | 46=>179 | 45=>178 | 50=>127 | 5=>5 | 9=>9 | 66=>207 | 70=>211 | 76=>221 | 77=>222 | n=>n,fun | n=>n⟩
theorem Tryz.sortStep:Go.Proofs.SlLaysF0.n6 Tryz.prog Tryz.sortStep_ren:={
 mixed:=by kernel_rfl
 f6:=⟨Tryz.f61.name,by decide,Tryz.func61.trans (congrArg some (by kernel_rfl))⟩
 f14:=⟨Tryz.f89.name,by decide,Tryz.func89.trans (congrArg some (by kernel_rfl))⟩
 f15:=Tryz.func90.trans (congrArg some (by kernel_rfl))
 f20:=⟨Tryz.f112.name,by decide,Tryz.func112.trans (congrArg some (by kernel_rfl))⟩
 f21:=⟨Tryz.f113.name,by decide,Tryz.func113.trans (congrArg some (by kernel_rfl))⟩
 f22:=⟨Tryz.f114.name,by decide,Tryz.func114.trans (congrArg some (by kernel_rfl))⟩
 f23:=⟨Tryz.f115.name,by decide,Tryz.func115.trans (congrArg some (by kernel_rfl))⟩
 f24:=⟨Tryz.f116.name,by decide,Tryz.func116.trans (congrArg some (by kernel_rfl))⟩
 f25:=⟨Tryz.f117.name,by decide,Tryz.func117.trans (congrArg some (by kernel_rfl))⟩
 f26:=⟨Tryz.f118.name,by decide,Tryz.func118.trans (congrArg some (by kernel_rfl))⟩
 f27:=⟨Tryz.f119.name,by decide,Tryz.func119.trans (congrArg some (by kernel_rfl))⟩
 f28:=Tryz.func120.trans (congrArg some (by kernel_rfl))
 f29:=Tryz.func121.trans (congrArg some (by kernel_rfl))
 f46:=⟨Tryz.f153.name,by decide,Tryz.func153.trans (congrArg some (by kernel_rfl))⟩
 f47:=Tryz.func154.trans (congrArg some (by kernel_rfl))
 f48:=Tryz.func155.trans (congrArg some (by kernel_rfl))
 f49:=⟨Tryz.f156.name,by decide,Tryz.func156.trans (congrArg some (by kernel_rfl))⟩
 f50:=⟨Tryz.f157.name,by decide,Tryz.func157.trans (congrArg some (by kernel_rfl))⟩
 f57:=⟨Tryz.f170.name,by decide,Tryz.func170.trans (congrArg some (by kernel_rfl))⟩
 t0:=Tryz.underlying0
 a0:=Tryz.isAgg0
 z0:=Tryz.sizeOf0
 v0:=Tryz.zeroValue0
 t3:=Tryz.underlying3
 a3:=Tryz.isAgg3
 z3:=Tryz.sizeOf3
 v3:=Tryz.zeroValue3
 t4:=Tryz.underlying4
 a4:=Tryz.isAgg4
 z4:=Tryz.sizeOf4
 v4:=Tryz.zeroValue4
 t5:=Tryz.underlying5
 a5:=Tryz.isAgg5
 z5:=Tryz.sizeOf5
 v5:=Tryz.zeroValue5
 t9:=Tryz.underlying9
 a9:=Tryz.isAgg9
 z9:=Tryz.sizeOf9
 v9:=Tryz.zeroValue9
 t22:=Tryz.underlying53
 a22:=Tryz.isAgg53
 z22:=Tryz.sizeOf53
 v22:=Tryz.zeroValue53
 t25:=Tryz.underlying121
 a25:=Tryz.isAgg121
 z25:=Tryz.sizeOf121
 v25:=Tryz.zeroValue121
 t39:=Tryz.underlying151
 a39:=Tryz.isAgg151
 z39:=Tryz.sizeOf151
 v39:=Tryz.zeroValue151
 t45:=Tryz.underlying178
 a45:=Tryz.isAgg178
 z45:=Tryz.sizeOf178
 v45:=Tryz.zeroValue178
 t46:=Tryz.underlying179
 a46:=Tryz.isAgg179
 z46:=Tryz.sizeOf179
 v46:=Tryz.zeroValue179
 t50:=Tryz.underlying127
 a50:=Tryz.isAgg127
 z50:=Tryz.sizeOf127
 v50:=Tryz.zeroValue127
 t53:=Tryz.underlying185
 a53:=Tryz.isAgg185
 z53:=Tryz.sizeOf185
 v53:=Tryz.zeroValue185
 t55:=Tryz.underlying187
 a55:=Tryz.isAgg187
 z55:=Tryz.sizeOf187
 v55:=Tryz.zeroValue187
 t66:=Tryz.underlying207
 a66:=Tryz.isAgg207
 z66:=Tryz.sizeOf207
 v66:=Tryz.zeroValue207
 t70:=Tryz.underlying211
 a70:=Tryz.isAgg211
 z70:=Tryz.sizeOf211
 v70:=Tryz.zeroValue211
 t76:=Tryz.underlying221
 a76:=Tryz.isAgg221
 z76:=Tryz.sizeOf221
 v76:=Tryz.zeroValue221
 t77:=Tryz.underlying222
 a77:=Tryz.isAgg222
 z77:=Tryz.sizeOf222
 v77:=Tryz.zeroValue222 }
def Tryz.sortRoute_ren:Go.Shelf.Ren:=⟨fun | 6=>74 | 15=>90 | 14=>100 | 28=>120 | 29=>121 | 20=>134 | 21=>135 | 22=>136 | 23=>137 | 24=>138 | 25=>139 | 26=>140 | 27=>141 | 46=>163 | 47=>154 | 48=>155 | 49=>164 | 50=>165 | 57=>173 | n=>n,fun | 22=>45 | 24=>59 | 25=>62 | 3=>3 | 39=>151 | 0=>0 | 53=>185 | 55=>187 | 4=>4 | 46=>179 | 45=>178 | 50=>127 | 5=>5 | 9=>9 | 66=>207 | 70=>211 | 76=>221 | 77=>222 | n=>n,fun | n=>n⟩
theorem Tryz.sortRoute:Go.Proofs.SlLaysF0.n6 Tryz.prog Tryz.sortRoute_ren:={
 mixed:=by kernel_rfl
 f6:=⟨Tryz.f74.name,by decide,Tryz.func74.trans (congrArg some (by kernel_rfl))⟩
 f14:=⟨Tryz.f100.name,by decide,Tryz.func100.trans (congrArg some (by kernel_rfl))⟩
 f15:=Tryz.func90.trans (congrArg some (by kernel_rfl))
 f20:=⟨Tryz.f134.name,by decide,Tryz.func134.trans (congrArg some (by kernel_rfl))⟩
 f21:=⟨Tryz.f135.name,by decide,Tryz.func135.trans (congrArg some (by kernel_rfl))⟩
 f22:=⟨Tryz.f136.name,by decide,Tryz.func136.trans (congrArg some (by kernel_rfl))⟩
 f23:=⟨Tryz.f137.name,by decide,Tryz.func137.trans (congrArg some (by kernel_rfl))⟩
 f24:=⟨Tryz.f138.name,by decide,Tryz.func138.trans (congrArg some (by kernel_rfl))⟩
 f25:=⟨Tryz.f139.name,by decide,Tryz.func139.trans (congrArg some (by kernel_rfl))⟩
 f26:=⟨Tryz.f140.name,by decide,Tryz.func140.trans (congrArg some (by kernel_rfl))⟩
 f27:=⟨Tryz.f141.name,by decide,Tryz.func141.trans (congrArg some (by kernel_rfl))⟩
 f28:=Tryz.func120.trans (congrArg some (by kernel_rfl))
 f29:=Tryz.func121.trans (congrArg some (by kernel_rfl))
 f46:=⟨Tryz.f163.name,by decide,Tryz.func163.trans (congrArg some (by kernel_rfl))⟩
 f47:=Tryz.func154.trans (congrArg some (by kernel_rfl))
 f48:=Tryz.func155.trans (congrArg some (by kernel_rfl))
 f49:=⟨Tryz.f164.name,by decide,Tryz.func164.trans (congrArg some (by kernel_rfl))⟩
 f50:=⟨Tryz.f165.name,by decide,Tryz.func165.trans (congrArg some (by kernel_rfl))⟩
 f57:=⟨Tryz.f173.name,by decide,Tryz.func173.trans (congrArg some (by kernel_rfl))⟩
 t0:=Tryz.underlying0
 a0:=Tryz.isAgg0
 z0:=Tryz.sizeOf0
 v0:=Tryz.zeroValue0
 t3:=Tryz.underlying3
 a3:=Tryz.isAgg3
 z3:=Tryz.sizeOf3
 v3:=Tryz.zeroValue3
 t4:=Tryz.underlying4
 a4:=Tryz.isAgg4
 z4:=Tryz.sizeOf4
 v4:=Tryz.zeroValue4
 t5:=Tryz.underlying5
 a5:=Tryz.isAgg5
 z5:=Tryz.sizeOf5
 v5:=Tryz.zeroValue5
 t9:=Tryz.underlying9
 a9:=Tryz.isAgg9
 z9:=Tryz.sizeOf9
 v9:=Tryz.zeroValue9
 t22:=Tryz.underlying45
 a22:=Tryz.isAgg45
 z22:=Tryz.sizeOf45
 v22:=Tryz.zeroValue45
 t25:=Tryz.underlying62
 a25:=Tryz.isAgg62
 z25:=Tryz.sizeOf62
 v25:=Tryz.zeroValue62
 t39:=Tryz.underlying151
 a39:=Tryz.isAgg151
 z39:=Tryz.sizeOf151
 v39:=Tryz.zeroValue151
 t45:=Tryz.underlying178
 a45:=Tryz.isAgg178
 z45:=Tryz.sizeOf178
 v45:=Tryz.zeroValue178
 t46:=Tryz.underlying179
 a46:=Tryz.isAgg179
 z46:=Tryz.sizeOf179
 v46:=Tryz.zeroValue179
 t50:=Tryz.underlying127
 a50:=Tryz.isAgg127
 z50:=Tryz.sizeOf127
 v50:=Tryz.zeroValue127
 t53:=Tryz.underlying185
 a53:=Tryz.isAgg185
 z53:=Tryz.sizeOf185
 v53:=Tryz.zeroValue185
 t55:=Tryz.underlying187
 a55:=Tryz.isAgg187
 z55:=Tryz.sizeOf187
 v55:=Tryz.zeroValue187
 t66:=Tryz.underlying207
 a66:=Tryz.isAgg207
 z66:=Tryz.sizeOf207
 v66:=Tryz.zeroValue207
 t70:=Tryz.underlying211
 a70:=Tryz.isAgg211
 z70:=Tryz.sizeOf211
 v70:=Tryz.zeroValue211
 t76:=Tryz.underlying221
 a76:=Tryz.isAgg221
 z76:=Tryz.sizeOf221
 v76:=Tryz.zeroValue221
 t77:=Tryz.underlying222
 a77:=Tryz.isAgg222
 z77:=Tryz.sizeOf222
 v77:=Tryz.zeroValue222 }
end Go.Proofs
