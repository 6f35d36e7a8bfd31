/- Types of the program, and library functions. -/
import Derived.Test.YtfigakbjegopkaaGreatDoorSxThree
import Derived.Test.YtfigakbjegopkaaGreatDoorProg
import Derived.Test.YtfigakbjegopkaaGreatDoorSxFour
import Derived.Test.YtfigakbjegopkaaGreatDoorSxFive
import Derived.Shelf.Unicode.ValidAny
import Derived.Lib.LaidTab
import Derived.Test.YtfigakbjegopkaaGreatDoorSxSix
import Derived.Shelf.Small.Strs
import Derived.Ground.SlsfProg
import Derived.Shelf.SlGeneric
set_option linter.unusedVariables false
set_option linter.unusedSimpArgs false
namespace Go.Sx.Sp
open Go Go.Sx Go.Proofs
def tokL (P:Program) (t:Nat):Option (TK×Nat×Nat×List V×Nat×Bool×Bool):=(P.underlying t).bind fun d=>(P.info? t).bind fun i=>i.zero.map fun z=>(tkOf d,i.size,i.bytes,z.cells.toList.map constV,z.cells.size,(z.cells.all fun c=>c.oneCell'),(z.cells.toList.map constV).all V.one)
theorem table_all {P:Program}:∀ {T:List (Nat×TI)},(T.map fun e=>tokL P e.1)=(T.map fun e=>some (e.2.k,e.2.sz,e.2.bytes,e.2.zero,e.2.sz,true,true))→TableOK P T
 | [],_=>table_nil
 | e::T,h=>by
  have h:=List.cons.inj h
  exact table_cons (tok_of h.1) (table_all h.2)
def T:List (Nat×TI):=[(1,⟨.fn,1,8,[.nilf]⟩),
 (2,⟨.int .i64,1,8,[.int .i64 0]⟩),
 (3,⟨.int .i64,1,8,[.int .i64 0]⟩),
 (4,⟨.bool,1,1,[.bool false]⟩),
 (5,⟨.int .u8,1,1,[.int .u8 0]⟩),
 (6,⟨.int .u8,1,1,[.int .u8 0]⟩),
 (7,⟨.st [(0,2),(1,3),(2,4),(3,6)],4,24,[.int .i64 0,.int .i64 0,.bool false,.int .u8 0]⟩),
 (8,⟨.st [(0,2),(1,3),(2,4),(3,6)],4,24,[.int .i64 0,.int .i64 0,.bool false,.int .u8 0]⟩),
 (9,⟨.str,1,16,[.str []]⟩),
 (10,⟨.str,1,16,[.str []]⟩),
 (11,⟨.str,1,16,[.str []]⟩),
 (12,⟨.int .u64,1,8,[.int .u64 0]⟩),
 (13,⟨.st [(0,9),(1,12)],2,24,[.str [],.int .u64 0]⟩),
 (14,⟨.st [(0,9),(1,12)],2,24,[.str [],.int .u64 0]⟩),
 (15,⟨.ptr 233,1,8,[.nilp]⟩),
 (16,⟨.ptr 236,1,8,[.nilp]⟩),
 (17,⟨.ptr 245,1,8,[.nilp]⟩),
 (18,⟨.st [(0,17)],1,8,[.nilp]⟩),
 (19,⟨.st [(0,17)],1,8,[.nilp]⟩),
 (20,⟨.iface,1,16,[.nili]⟩),
 (21,⟨.int .i32,1,4,[.int .i32 0]⟩),
 (22,⟨.sl 3,1,24,[.nils]⟩),
 (23,⟨.sl 35,1,24,[.nils]⟩),
 (24,⟨.fn,1,8,[.nilf]⟩),
 (25,⟨.fn,1,8,[.nilf]⟩),
 (26,⟨.ptr 67,1,8,[.nilp]⟩),
 (27,⟨.fn,1,8,[.nilf]⟩),
 (28,⟨.sl 51,1,24,[.nils]⟩),
 (29,⟨.fn,1,8,[.nilf]⟩),
 (30,⟨.fn,1,8,[.nilf]⟩),
 (31,⟨.fn,1,8,[.nilf]⟩),
 (32,⟨.st [(0,3),(1,3)],2,16,[.int .i64 0,.int .i64 0]⟩),
 (33,⟨.st [(0,3),(1,3)],2,16,[.int .i64 0,.int .i64 0]⟩),
 (34,⟨.st [(0,33),(2,33),(4,3),(5,3),(6,3),(7,3),(8,3),(9,3),(10,3)],11,88,[.int .i64 0,.int .i64 0,.int .i64 0,.int .i64 0,.int .i64 0,.int .i64 0,.int .i64 0,.int .i64 0,.int .i64 0,.int .i64 0,.int .i64 0]⟩),
 (35,⟨.st [(0,33),(2,33),(4,3),(5,3),(6,3),(7,3),(8,3),(9,3),(10,3)],11,88,[.int .i64 0,.int .i64 0,.int .i64 0,.int .i64 0,.int .i64 0,.int .i64 0,.int .i64 0,.int .i64 0,.int .i64 0,.int .i64 0,.int .i64 0]⟩),
 (36,⟨.sl 23,1,24,[.nils]⟩),
 (37,⟨.arr 3 3,3,24,[.int .i64 0,.int .i64 0,.int .i64 0]⟩),
 (38,⟨.fn,1,8,[.nilf]⟩),
 (39,⟨.sl 37,1,24,[.nils]⟩),
 (40,⟨.sl 62,1,24,[.nils]⟩),
 (41,⟨.int .i64,1,8,[.int .i64 0]⟩),
 (43,⟨.fn,1,8,[.nilf]⟩),
 (44,⟨.fn,1,8,[.nilf]⟩),
 (45,⟨.sl 64,1,24,[.nils]⟩),
 (47,⟨.fn,1,8,[.nilf]⟩),
 (48,⟨.fn,1,8,[.nilf]⟩),
 (49,⟨.sl 57,1,24,[.nils]⟩),
 (50,⟨.st [(0,3),(1,9),(2,49)],3,48,[.int .i64 0,.str [],.nils]⟩),
 (51,⟨.st [(0,3),(1,9),(2,49)],3,48,[.int .i64 0,.str [],.nils]⟩),
 (52,⟨.fn,1,8,[.nilf]⟩),
 (53,⟨.st [(0,4),(1,9)],2,24,[.bool false,.str []]⟩),
 (54,⟨.st [(0,4),(1,9)],2,24,[.bool false,.str []]⟩),
 (55,⟨.sl 54,1,24,[.nils]⟩),
 (56,⟨.st [(0,9),(1,55)],2,40,[.str [],.nils]⟩),
 (57,⟨.st [(0,9),(1,55)],2,40,[.str [],.nils]⟩),
 (58,⟨.st [(0,3),(1,3),(2,3),(3,22)],4,48,[.int .i64 0,.int .i64 0,.int .i64 0,.nils]⟩),
 (59,⟨.st [(0,3),(1,3),(2,3),(3,22)],4,48,[.int .i64 0,.int .i64 0,.int .i64 0,.nils]⟩),
 (60,⟨.sl 106,1,24,[.nils]⟩),
 (61,⟨.st [(0,3),(1,60)],2,32,[.int .i64 0,.nils]⟩),
 (62,⟨.st [(0,3),(1,60)],2,32,[.int .i64 0,.nils]⟩),
 (63,⟨.st [(0,62),(2,59)],6,80,[.int .i64 0,.nils,.int .i64 0,.int .i64 0,.int .i64 0,.nils]⟩),
 (64,⟨.st [(0,62),(2,59)],6,80,[.int .i64 0,.nils,.int .i64 0,.int .i64 0,.int .i64 0,.nils]⟩),
 (65,⟨.fn,1,8,[.nilf]⟩),
 (66,⟨.st [(0,22),(1,3)],2,32,[.nils,.int .i64 0]⟩),
 (67,⟨.st [(0,22),(1,3)],2,32,[.nils,.int .i64 0]⟩),
 (68,⟨.fn,1,8,[.nilf]⟩),
 (70,⟨.fn,1,8,[.nilf]⟩),
 (71,⟨.sl 180,1,24,[.nils]⟩),
 (72,⟨.st [(0,4),(1,71)],2,32,[.bool false,.nils]⟩),
 (73,⟨.st [(0,4),(1,71)],2,32,[.bool false,.nils]⟩),
 (74,⟨.st [(0,73),(2,73)],4,64,[.bool false,.nils,.bool false,.nils]⟩),
 (75,⟨.st [(0,73),(2,73)],4,64,[.bool false,.nils,.bool false,.nils]⟩),
 (76,⟨.fn,1,8,[.nilf]⟩),
 (78,⟨.fn,1,8,[.nilf]⟩),
 (79,⟨.fn,1,8,[.nilf]⟩),
 (80,⟨.map 3 60,1,8,[.nilm]⟩),
 (81,⟨.map 3 60,1,8,[.nilm]⟩),
 (82,⟨.fn,1,8,[.nilf]⟩),
 (83,⟨.fn,1,8,[.nilf]⟩),
 (84,⟨.fn,1,8,[.nilf]⟩),
 (85,⟨.fn,1,8,[.nilf]⟩),
 (87,⟨.fn,1,8,[.nilf]⟩),
 (88,⟨.fn,1,8,[.nilf]⟩),
 (89,⟨.fn,1,8,[.nilf]⟩),
 (90,⟨.fn,1,8,[.nilf]⟩),
 (91,⟨.fn,1,8,[.nilf]⟩),
 (92,⟨.sl 9,1,24,[.nils]⟩),
 (93,⟨.fn,1,8,[.nilf]⟩),
 (94,⟨.fn,1,8,[.nilf]⟩),
 (96,⟨.fn,1,8,[.nilf]⟩),
 (97,⟨.fn,1,8,[.nilf]⟩),
 (98,⟨.fn,1,8,[.nilf]⟩),
 (99,⟨.fn,1,8,[.nilf]⟩),
 (100,⟨.fn,1,8,[.nilf]⟩),
 (101,⟨.fn,1,8,[.nilf]⟩),
 (102,⟨.fn,1,8,[.nilf]⟩),
 (104,⟨.fn,1,8,[.nilf]⟩),
 (105,⟨.st [(0,33),(2,33)],4,32,[.int .i64 0,.int .i64 0,.int .i64 0,.int .i64 0]⟩),
 (106,⟨.st [(0,33),(2,33)],4,32,[.int .i64 0,.int .i64 0,.int .i64 0,.int .i64 0]⟩),
 (107,⟨.fn,1,8,[.nilf]⟩),
 (108,⟨.fn,1,8,[.nilf]⟩),
 (109,⟨.map 3 3,1,8,[.nilm]⟩),
 (110,⟨.fn,1,8,[.nilf]⟩),
 (111,⟨.map 3 4,1,8,[.nilm]⟩),
 (112,⟨.fn,1,8,[.nilf]⟩),
 (113,⟨.fn,1,8,[.nilf]⟩),
 (115,⟨.fn,1,8,[.nilf]⟩),
 (116,⟨.fn,1,8,[.nilf]⟩),
 (117,⟨.fn,1,8,[.nilf]⟩),
 (118,⟨.fn,1,8,[.nilf]⟩),
 (119,⟨.fn,1,8,[.nilf]⟩),
 (120,⟨.fn,1,8,[.nilf]⟩),
 (121,⟨.ptr 151,1,8,[.nilp]⟩),
 (122,⟨.fn,1,8,[.nilf]⟩),
 (123,⟨.fn,1,8,[.nilf]⟩),
 (124,⟨.fn,1,8,[.nilf]⟩),
 (126,⟨.fn,1,8,[.nilf]⟩),
 (127,⟨.sl 130,1,24,[.nils]⟩),
 (128,⟨.fn,1,8,[.nilf]⟩),
 (129,⟨.fn,1,8,[.nilf]⟩),
 (130,⟨.sl 4,1,24,[.nils]⟩),
 (131,⟨.fn,1,8,[.nilf]⟩),
 (132,⟨.fn,1,8,[.nilf]⟩),
 (133,⟨.fn,1,8,[.nilf]⟩),
 (134,⟨.fn,1,8,[.nilf]⟩),
 (135,⟨.map 9 3,1,8,[.nilm]⟩),
 (136,⟨.fn,1,8,[.nilf]⟩),
 (137,⟨.fn,1,8,[.nilf]⟩),
 (138,⟨.fn,1,8,[.nilf]⟩),
 (139,⟨.fn,1,8,[.nilf]⟩),
 (140,⟨.fn,1,8,[.nilf]⟩),
 (141,⟨.fn,1,8,[.nilf]⟩),
 (142,⟨.fn,1,8,[.nilf]⟩),
 (143,⟨.int .u64,1,8,[.int .u64 0]⟩),
 (144,⟨.fn,1,8,[.nilf]⟩),
 (145,⟨.fn,1,8,[.nilf]⟩),
 (146,⟨.fn,1,8,[.nilf]⟩),
 (147,⟨.fn,1,8,[.nilf]⟩),
 (148,⟨.fn,1,8,[.nilf]⟩),
 (149,⟨.sl 153,1,24,[.nils]⟩),
 (150,⟨.st [(0,149)],1,24,[.nils]⟩),
 (151,⟨.st [(0,149)],1,24,[.nils]⟩),
 (152,⟨.st [(0,51),(3,3),(4,3),(5,3),(6,22),(7,22),(8,135)],9,128,[.int .i64 0,.str [],.nils,.int .i64 0,.int .i64 0,.int .i64 0,.nils,.nils,.nilm]⟩),
 (153,⟨.st [(0,51),(3,3),(4,3),(5,3),(6,22),(7,22),(8,135)],9,128,[.int .i64 0,.str [],.nils,.int .i64 0,.int .i64 0,.int .i64 0,.nils,.nils,.nilm]⟩),
 (154,⟨.fn,1,8,[.nilf]⟩),
 (155,⟨.fn,1,8,[.nilf]⟩),
 (156,⟨.fn,1,8,[.nilf]⟩),
 (157,⟨.sl 159,1,24,[.nils]⟩),
 (158,⟨.fn,1,8,[.nilf]⟩),
 (159,⟨.map 9 4,1,8,[.nilm]⟩),
 (160,⟨.fn,1,8,[.nilf]⟩),
 (161,⟨.fn,1,8,[.nilf]⟩),
 (162,⟨.fn,1,8,[.nilf]⟩),
 (163,⟨.fn,1,8,[.nilf]⟩),
 (164,⟨.fn,1,8,[.nilf]⟩),
 (165,⟨.fn,1,8,[.nilf]⟩),
 (166,⟨.fn,1,8,[.nilf]⟩),
 (168,⟨.fn,1,8,[.nilf]⟩),
 (169,⟨.fn,1,8,[.nilf]⟩),
 (170,⟨.fn,1,8,[.nilf]⟩),
 (171,⟨.fn,1,8,[.nilf]⟩),
 (172,⟨.fn,1,8,[.nilf]⟩),
 (173,⟨.int .i64,1,8,[.int .i64 0]⟩),
 (175,⟨.fn,1,8,[.nilf]⟩),
 (176,⟨.fn,1,8,[.nilf]⟩),
 (177,⟨.fn,1,8,[.nilf]⟩),
 (178,⟨.fn,1,8,[.nilf]⟩),
 (179,⟨.fn,1,8,[.nilf]⟩),
 (180,⟨.int .u32,1,4,[.int .u32 0]⟩),
 (181,⟨.fn,1,8,[.nilf]⟩),
 (182,⟨.int .u64,1,8,[.int .u64 0]⟩),
 (183,⟨.fn,1,8,[.nilf]⟩),
 (184,⟨.fn,1,8,[.nilf]⟩),
 (185,⟨.fn,1,8,[.nilf]⟩),
 (186,⟨.fn,1,8,[.nilf]⟩),
 (187,⟨.fn,1,8,[.nilf]⟩),
 (188,⟨.fn,1,8,[.nilf]⟩),
 (189,⟨.fn,1,8,[.nilf]⟩),
 (190,⟨.fn,1,8,[.nilf]⟩),
 (191,⟨.ptr 153,1,8,[.nilp]⟩),
 (192,⟨.fn,1,8,[.nilf]⟩),
 (193,⟨.fn,1,8,[.nilf]⟩),
 (194,⟨.fn,1,8,[.nilf]⟩),
 (195,⟨.fn,1,8,[.nilf]⟩),
 (196,⟨.fn,1,8,[.nilf]⟩),
 (197,⟨.fn,1,8,[.nilf]⟩),
 (198,⟨.fn,1,8,[.nilf]⟩),
 (199,⟨.fn,1,8,[.nilf]⟩),
 (200,⟨.fn,1,8,[.nilf]⟩),
 (201,⟨.fn,1,8,[.nilf]⟩),
 (202,⟨.fn,1,8,[.nilf]⟩),
 (203,⟨.fn,1,8,[.nilf]⟩),
 (204,⟨.int .u64,1,8,[.int .u64 0]⟩),
 (205,⟨.fn,1,8,[.nilf]⟩),
 (206,⟨.fn,1,8,[.nilf]⟩),
 (207,⟨.fn,1,8,[.nilf]⟩),
 (208,⟨.ptr 3,1,8,[.nilp]⟩),
 (209,⟨.fn,1,8,[.nilf]⟩),
 (210,⟨.fn,1,8,[.nilf]⟩),
 (211,⟨.fn,1,8,[.nilf]⟩),
 (212,⟨.fn,1,8,[.nilf]⟩),
 (213,⟨.fn,1,8,[.nilf]⟩),
 (214,⟨.fn,1,8,[.nilf]⟩),
 (215,⟨.fn,1,8,[.nilf]⟩),
 (216,⟨.fn,1,8,[.nilf]⟩),
 (217,⟨.fn,1,8,[.nilf]⟩),
 (218,⟨.ptr 204,1,8,[.nilp]⟩),
 (220,⟨.fn,1,8,[.nilf]⟩),
 (221,⟨.fn,1,8,[.nilf]⟩),
 (222,⟨.fn,1,8,[.nilf]⟩),
 (223,⟨.arr 256 5,256,256,[.int .u8 0,.int .u8 0,.int .u8 0,.int .u8 0,.int .u8 0,.int .u8 0,.int .u8 0,.int .u8 0,.int .u8 0,.int .u8 0,.int .u8 0,.int .u8 0,.int .u8 0,.int .u8 0,.int .u8 0,.int .u8 0,.int .u8 0,.int .u8 0,.int .u8 0,.int .u8 0,.int .u8 0,.int .u8 0,.int .u8 0,.int .u8 0,.int .u8 0,.int .u8 0,.int .u8 0,.int .u8 0,.int .u8 0,.int .u8 0,.int .u8 0,.int .u8 0,.int .u8 0,.int .u8 0,.int .u8 0,.int .u8 0,.int .u8 0,.int .u8 0,.int .u8 0,.int .u8 0,.int .u8 0,.int .u8 0,.int .u8 0,.int .u8 0,.int .u8 0,.int .u8 0,.int .u8 0,.int .u8 0,.int .u8 0,.int .u8 0,.int .u8 0,.int .u8 0,.int .u8 0,.int .u8 0,.int .u8 0,.int .u8 0,.int .u8 0,.int .u8 0,.int .u8 0,.int .u8 0,.int .u8 0,.int .u8 0,.int .u8 0,.int .u8 0,.int .u8 0,.int .u8 0,.int .u8 0,.int .u8 0,.int .u8 0,.int .u8 0,.int .u8 0,.int .u8 0,.int .u8 0,.int .u8 0,.int .u8 0,.int .u8 0,.int .u8 0,.int .u8 0,.int .u8 0,.int .u8 0,.int .u8 0,.int .u8 0,.int .u8 0,.int .u8 0,.int .u8 0,.int .u8 0,.int .u8 0,.int .u8 0,.int .u8 0,.int .u8 0,.int .u8 0,.int .u8 0,.int .u8 0,.int .u8 0,.int .u8 0,.int .u8 0,.int .u8 0,.int .u8 0,.int .u8 0,.int .u8 0,.int .u8 0,.int .u8 0,.int .u8 0,.int .u8 0,.int .u8 0,.int .u8 0,.int .u8 0,.int .u8 0,.int .u8 0,.int .u8 0,.int .u8 0,.int .u8 0,.int .u8 0,.int .u8 0,.int .u8 0,.int .u8 0,.int .u8 0,.int .u8 0,.int .u8 0,.int .u8 0,.int .u8 0,.int .u8 0,.int .u8 0,.int .u8 0,.int .u8 0,.int .u8 0,.int .u8 0,.int .u8 0,.int .u8 0,.int .u8 0,.int .u8 0,.int .u8 0,.int .u8 0,.int .u8 0,.int .u8 0,.int .u8 0,.int .u8 0,.int .u8 0,.int .u8 0,.int .u8 0,.int .u8 0,.int .u8 0,.int .u8 0,.int .u8 0,.int .u8 0,.int .u8 0,.int .u8 0,.int .u8 0,.int .u8 0,.int .u8 0,.int .u8 0,.int .u8 0,.int .u8 0,.int .u8 0,.int .u8 0,.int .u8 0,.int .u8 0,.int .u8 0,.int .u8 0,.int .u8 0,.int .u8 0,.int .u8 0,.int .u8 0,.int .u8 0,.int .u8 0,.int .u8 0,.int .u8 0,.int .u8 0,.int .u8 0,.int .u8 0,.int .u8 0,.int .u8 0,.int .u8 0,.int .u8 0,.int .u8 0,.int .u8 0,.int .u8 0,.int .u8 0,.int .u8 0,.int .u8 0,.int .u8 0,.int .u8 0,.int .u8 0,.int .u8 0,.int .u8 0,.int .u8 0,.int .u8 0,.int .u8 0,.int .u8 0,.int .u8 0,.int .u8 0,.int .u8 0,.int .u8 0,.int .u8 0,.int .u8 0,.int .u8 0,.int .u8 0,.int .u8 0,.int .u8 0,.int .u8 0,.int .u8 0,.int .u8 0,.int .u8 0,.int .u8 0,.int .u8 0,.int .u8 0,.int .u8 0,.int .u8 0,.int .u8 0,.int .u8 0,.int .u8 0,.int .u8 0,.int .u8 0,.int .u8 0,.int .u8 0,.int .u8 0,.int .u8 0,.int .u8 0,.int .u8 0,.int .u8 0,.int .u8 0,.int .u8 0,.int .u8 0,.int .u8 0,.int .u8 0,.int .u8 0,.int .u8 0,.int .u8 0,.int .u8 0,.int .u8 0,.int .u8 0,.int .u8 0,.int .u8 0,.int .u8 0,.int .u8 0,.int .u8 0,.int .u8 0,.int .u8 0,.int .u8 0,.int .u8 0,.int .u8 0,.int .u8 0,.int .u8 0,.int .u8 0,.int .u8 0,.int .u8 0,.int .u8 0,.int .u8 0,.int .u8 0,.int .u8 0,.int .u8 0,.int .u8 0,.int .u8 0,.int .u8 0,.int .u8 0,.int .u8 0]⟩),
 (224,⟨.st [(0,5),(1,5)],2,2,[.int .u8 0,.int .u8 0]⟩),
 (225,⟨.st [(0,5),(1,5)],2,2,[.int .u8 0,.int .u8 0]⟩),
 (226,⟨.arr 16 225,32,32,[.int .u8 0,.int .u8 0,.int .u8 0,.int .u8 0,.int .u8 0,.int .u8 0,.int .u8 0,.int .u8 0,.int .u8 0,.int .u8 0,.int .u8 0,.int .u8 0,.int .u8 0,.int .u8 0,.int .u8 0,.int .u8 0,.int .u8 0,.int .u8 0,.int .u8 0,.int .u8 0,.int .u8 0,.int .u8 0,.int .u8 0,.int .u8 0,.int .u8 0,.int .u8 0,.int .u8 0,.int .u8 0,.int .u8 0,.int .u8 0,.int .u8 0,.int .u8 0]⟩),
 (227,⟨.fn,1,8,[.nilf]⟩),
 (229,⟨.fn,1,8,[.nilf]⟩),
 (230,⟨.fn,1,8,[.nilf]⟩),
 (231,⟨.fn,1,8,[.nilf]⟩),
 (232,⟨.st [(0,17),(1,17),(2,17),(3,9)],4,40,[.nilp,.nilp,.nilp,.str []]⟩),
 (233,⟨.st [(0,17),(1,17),(2,17),(3,9)],4,40,[.nilp,.nilp,.nilp,.str []]⟩),
 (234,⟨.arr 0 16,0,0,[]⟩),
 (235,⟨.st [(0,234)],0,0,[]⟩),
 (236,⟨.st [(0,234)],0,0,[]⟩),
 (237,⟨.fn,1,8,[.nilf]⟩),
 (238,⟨.int .u8,1,1,[.int .u8 0]⟩),
 (239,⟨.int .u8,1,1,[.int .u8 0]⟩),
 (240,⟨.fn,1,8,[.nilf]⟩),
 (241,⟨.ptr 5,1,8,[.nilp]⟩),
 (242,⟨.int .i32,1,4,[.int .i32 0]⟩),
 (243,⟨.int .i32,1,4,[.int .i32 0]⟩),
 (244,⟨.st [(0,12),(1,12),(2,180),(3,238),(4,5),(5,5),(6,239),(7,240),(8,241),(9,242),(10,243)],11,48,[.int .u64 0,.int .u64 0,.int .u32 0,.int .u8 0,.int .u8 0,.int .u8 0,.int .u8 0,.nilf,.nilp,.int .i32 0,.int .i32 0]⟩),
 (245,⟨.st [(0,12),(1,12),(2,180),(3,238),(4,5),(5,5),(6,239),(7,240),(8,241),(9,242),(10,243)],11,48,[.int .u64 0,.int .u64 0,.int .u32 0,.int .u8 0,.int .u8 0,.int .u8 0,.int .u8 0,.nilf,.nilp,.int .i32 0,.int .i32 0]⟩)]
set_option maxRecDepth 20000 in
theorem env:Env Tryz.prog T:=⟨table_all (by kernel_rfl),by kernel_rfl⟩
end Go.Sx.Sp
namespace Go.Proofs
open Go.Shelf
def Tryz.laysValid_ren:Go.Shelf.Ren:=⟨fun | 196=>157 | 259=>168 | n=>n,fun | 9=>9 | 4=>4 | 3=>3 | 5=>5 | 12=>12 | 119=>223 | 0=>0 | 46=>143 | 139=>226 | 138=>225 | 53=>182 | n=>n,fun | 3=>0 | 4=>1 | n=>n⟩
theorem Tryz.laysValid:Go.Proofs.Lays.n196 Tryz.prog Tryz.laysValid_ren:={
 mixed:=by kernel_rfl
 f196:=Tryz.func157.trans (congrArg some (by kernel_rfl))
 f259:=Tryz.func168.trans (congrArg some (by kernel_rfl))
 t0:=Tryz.underlying0
 a0:=Tryz.isAgg0
 z0:=Tryz.sizeOf0
 v0:=Tryz.zeroValue0
 t3:=Tryz.underlying3
 a3:=Tryz.isAgg3
 z3:=Tryz.sizeOf3
 v3:=Tryz.zeroValue3
 t4:=Tryz.underlying4
 a4:=Tryz.isAgg4
 z4:=Tryz.sizeOf4
 v4:=Tryz.zeroValue4
 t5:=Tryz.underlying5
 a5:=Tryz.isAgg5
 z5:=Tryz.sizeOf5
 v5:=Tryz.zeroValue5
 t9:=Tryz.underlying9
 a9:=Tryz.isAgg9
 z9:=Tryz.sizeOf9
 v9:=Tryz.zeroValue9
 t12:=Tryz.underlying12
 a12:=Tryz.isAgg12
 z12:=Tryz.sizeOf12
 v12:=Tryz.zeroValue12
 t46:=Tryz.underlying143
 a46:=Tryz.isAgg143
 z46:=Tryz.sizeOf143
 v46:=Tryz.zeroValue143
 t53:=Tryz.underlying182
 a53:=Tryz.isAgg182
 z53:=Tryz.sizeOf182
 v53:=Tryz.zeroValue182
 t119:=Tryz.underlying223
 a119:=Tryz.isAgg223
 z119:=Tryz.sizeOf223
 t138:=Tryz.underlying225
 a138:=Tryz.isAgg225
 z138:=Tryz.sizeOf225
 v138:=Tryz.zeroValue225
 t139:=Tryz.underlying226
 a139:=Tryz.isAgg226
 z139:=Tryz.sizeOf226
 v139:=Tryz.zeroValue226
 g3:=by kernel_rfl
 g4:=by kernel_rfl }
end Go.Proofs
namespace Go.Sx.Sp
open Go Go.Sx Go.Proofs Go.RowKit
def tabsOK (w:World):Prop:=Lib.Utf8Tabs 0 1 w
instance:Glob:=⟨tabsOK,[0,1],False,fun w w' hs h=>by
 have h0:=hs 0 (by simp)
 have h1:=hs 1 (by simp)
 refine ⟨fun c hc=>?_,fun i hi=>?_⟩
 ·rw [cell?_of_heap h0];exact h.1 c hc
 ·rw [cell?_of_heap h1,cell?_of_heap h1];exact h.2 i hi⟩
set_option maxRecDepth 1000000 in
theorem utf8_spec (s:List UInt8):Spec Tryz.prog 157 [.str s] [] (.bool (Lib.validD s)) []:=by
 refine Spec.ofCalls (fun cargs w=>enters_of Tryz.func157 (by kernel_rfl) rfl cargs w) fun w F m cargs hl ha hg=>?_
 match cargs,hl with
 | [c],_ =>
  obtain ⟨rfl,hs⟩:=(ha 0 (.str s) c rfl rfl).str_inv
  have hsz:(⟨s.toArray⟩:ByteArray).size≤9223372036854775807:=by
   have:maxLen=9223372036854775807:=by unfold maxLen;rfl
   simpa [ByteArray.size,this] using hs
  refine (Any.utf8_ValidString Tryz.laysValid ⟨s.toArray⟩ w hsz hg).mono fun e w' ⟨he,hb⟩=>?_
  exact ⟨_,he,fun w' F m=>.bool _,hb,fun h=>h.elim⟩
end Go.Sx.Sp
namespace Go.Proofs
open Go.Shelf
def Tryz.sortPath_ren:Go.Shelf.Ren:=⟨fun | 6=>53 | 15=>81 | 14=>83 | 28=>115 | 29=>116 | 20=>118 | 21=>119 | 22=>120 | 23=>121 | 24=>122 | 25=>123 | 26=>124 | 27=>125 | 46=>154 | 47=>150 | 48=>151 | 49=>155 | 50=>156 | 57=>167 | n=>n,fun | 22=>40 | 24=>62 | 25=>91 | 3=>3 | 39=>143 | 0=>0 | 53=>180 | 55=>182 | 4=>4 | 46=>174 | 45=>173 | 50=>114 | 5=>5 | 9=>9 | 66=>204 | 70=>208 | 76=>218 | 77=>219 | n=>n,fun | n=>n⟩
theorem Tryz.sortPath:Go.Proofs.SlLaysF0.n6 Tryz.prog Tryz.sortPath_ren:={
 mixed:=by kernel_rfl
 f6:=⟨Tryz.f53.name,by decide,Tryz.func53.trans (congrArg some (by kernel_rfl))⟩
 f14:=⟨Tryz.f83.name,by decide,Tryz.func83.trans (congrArg some (by kernel_rfl))⟩
 f15:=Tryz.func81.trans (congrArg some (by kernel_rfl))
 f20:=⟨Tryz.f118.name,by decide,Tryz.func118.trans (congrArg some (by kernel_rfl))⟩
 f21:=⟨Tryz.f119.name,by decide,Tryz.func119.trans (congrArg some (by kernel_rfl))⟩
 f22:=⟨Tryz.f120.name,by decide,Tryz.func120.trans (congrArg some (by kernel_rfl))⟩
 f23:=⟨Tryz.f121.name,by decide,Tryz.func121.trans (congrArg some (by kernel_rfl))⟩
 f24:=⟨Tryz.f122.name,by decide,Tryz.func122.trans (congrArg some (by kernel_rfl))⟩
 f25:=⟨Tryz.f123.name,by decide,Tryz.func123.trans (congrArg some (by kernel_rfl))⟩
 f26:=⟨Tryz.f124.name,by decide,Tryz.func124.trans (congrArg some (by kernel_rfl))⟩
 f27:=⟨Tryz.f125.name,by decide,Tryz.func125.trans (congrArg some (by kernel_rfl))⟩
 f28:=Tryz.func115.trans (congrArg some (by kernel_rfl))
 f29:=Tryz.func116.trans (congrArg some (by kernel_rfl))
 f46:=⟨Tryz.f154.name,by decide,Tryz.func154.trans (congrArg some (by kernel_rfl))⟩
 f47:=Tryz.func150.trans (congrArg some (by kernel_rfl))
 f48:=Tryz.func151.trans (congrArg some (by kernel_rfl))
 f49:=⟨Tryz.f155.name,by decide,Tryz.func155.trans (congrArg some (by kernel_rfl))⟩
 f50:=⟨Tryz.f156.name,by decide,Tryz.func156.trans (congrArg some (by kernel_rfl))⟩
 f57:=⟨Tryz.f167.name,by decide,Tryz.func167.trans (congrArg some (by kernel_rfl))⟩
 t0:=Tryz.underlying0
 a0:=Tryz.isAgg0
 z0:=Tryz.sizeOf0
 v0:=Tryz.zeroValue0
 t3:=Tryz.underlying3
 a3:=Tryz.isAgg3
 z3:=Tryz.sizeOf3
 v3:=Tryz.zeroValue3
 t4:=Tryz.underlying4
 a4:=Tryz.isAgg4
 z4:=Tryz.sizeOf4
 v4:=Tryz.zeroValue4
 t5:=Tryz.underlying5
 a5:=Tryz.isAgg5
 z5:=Tryz.sizeOf5
 v5:=Tryz.zeroValue5
 t9:=Tryz.underlying9
 a9:=Tryz.isAgg9
 z9:=Tryz.sizeOf9
 v9:=Tryz.zeroValue9
 t22:=Tryz.underlying40
 a22:=Tryz.isAgg40
 z22:=Tryz.sizeOf40
 v22:=Tryz.zeroValue40
 t25:=Tryz.underlying91
 a25:=Tryz.isAgg91
 z25:=Tryz.sizeOf91
 v25:=Tryz.zeroValue91
 t39:=Tryz.underlying143
 a39:=Tryz.isAgg143
 z39:=Tryz.sizeOf143
 v39:=Tryz.zeroValue143
 t45:=Tryz.underlying173
 a45:=Tryz.isAgg173
 z45:=Tryz.sizeOf173
 v45:=Tryz.zeroValue173
 t46:=Tryz.underlying174
 a46:=Tryz.isAgg174
 z46:=Tryz.sizeOf174
 v46:=Tryz.zeroValue174
 t50:=Tryz.underlying114
 a50:=Tryz.isAgg114
 z50:=Tryz.sizeOf114
 v50:=Tryz.zeroValue114
 t53:=Tryz.underlying180
 a53:=Tryz.isAgg180
 z53:=Tryz.sizeOf180
 v53:=Tryz.zeroValue180
 t55:=Tryz.underlying182
 a55:=Tryz.isAgg182
 z55:=Tryz.sizeOf182
 v55:=Tryz.zeroValue182
 t66:=Tryz.underlying204
 a66:=Tryz.isAgg204
 z66:=Tryz.sizeOf204
 v66:=Tryz.zeroValue204
 t70:=Tryz.underlying208
 a70:=Tryz.isAgg208
 z70:=Tryz.sizeOf208
 v70:=Tryz.zeroValue208
 t76:=Tryz.underlying218
 a76:=Tryz.isAgg218
 z76:=Tryz.sizeOf218
 v76:=Tryz.zeroValue218
 t77:=Tryz.underlying219
 a77:=Tryz.isAgg219
 z77:=Tryz.sizeOf219
 v77:=Tryz.zeroValue219 }
def Tryz.sortStep_ren:Go.Shelf.Ren:=⟨fun | 6=>48 | 15=>81 | 14=>80 | 28=>115 | 29=>116 | 20=>107 | 21=>108 | 22=>109 | 23=>110 | 24=>111 | 25=>112 | 26=>113 | 27=>114 | 46=>149 | 47=>150 | 48=>151 | 49=>152 | 50=>153 | 57=>166 | n=>n,fun | 22=>60 | 24=>106 | 25=>108 | 3=>3 | 39=>143 | 0=>0 | 53=>180 | 55=>182 | 4=>4 | 46=>174 | 45=>173 | 50=>114 | 5=>5 | 9=>9 | 66=>204 | 70=>208 | 76=>218 | 77=>219 | n=>n,fun | n=>n⟩
theorem Tryz.sortStep:Go.Proofs.SlLaysF0.n6 Tryz.prog Tryz.sortStep_ren:={
 mixed:=by kernel_rfl
 f6:=⟨Tryz.f48.name,by decide,Tryz.func48.trans (congrArg some (by kernel_rfl))⟩
 f14:=⟨Tryz.f80.name,by decide,Tryz.func80.trans (congrArg some (by kernel_rfl))⟩
 f15:=Tryz.func81.trans (congrArg some (by kernel_rfl))
 f20:=⟨Tryz.f107.name,by decide,Tryz.func107.trans (congrArg some (by kernel_rfl))⟩
 f21:=⟨Tryz.f108.name,by decide,Tryz.func108.trans (congrArg some (by kernel_rfl))⟩
 f22:=⟨Tryz.f109.name,by decide,Tryz.func109.trans (congrArg some (by kernel_rfl))⟩
 f23:=⟨Tryz.f110.name,by decide,Tryz.func110.trans (congrArg some (by kernel_rfl))⟩
 f24:=⟨Tryz.f111.name,by decide,Tryz.func111.trans (congrArg some (by kernel_rfl))⟩
 f25:=⟨Tryz.f112.name,by decide,Tryz.func112.trans (congrArg some (by kernel_rfl))⟩
 f26:=⟨Tryz.f113.name,by decide,Tryz.func113.trans (congrArg some (by kernel_rfl))⟩
 f27:=⟨Tryz.f114.name,by decide,Tryz.func114.trans (congrArg some (by kernel_rfl))⟩
 f28:=Tryz.func115.trans (congrArg some (by kernel_rfl))
 f29:=Tryz.func116.trans (congrArg some (by kernel_rfl))
 f46:=⟨Tryz.f149.name,by decide,Tryz.func149.trans (congrArg some (by kernel_rfl))⟩
 f47:=Tryz.func150.trans (congrArg some (by kernel_rfl))
 f48:=Tryz.func151.trans (congrArg some (by kernel_rfl))
 f49:=⟨Tryz.f152.name,by decide,Tryz.func152.trans (congrArg some (by kernel_rfl))⟩
 f50:=⟨Tryz.f153.name,by decide,Tryz.func153.trans (congrArg some (by kernel_rfl))⟩
 f57:=⟨Tryz.f166.name,by decide,Tryz.func166.trans (congrArg some (by kernel_rfl))⟩
 t0:=Tryz.underlying0
 a0:=Tryz.isAgg0
 z0:=Tryz.sizeOf0
 v0:=Tryz.zeroValue0
 t3:=Tryz.underlying3
 a3:=Tryz.isAgg3
 z3:=Tryz.sizeOf3
 v3:=Tryz.zeroValue3
 t4:=Tryz.underlying4
 a4:=Tryz.isAgg4
 z4:=Tryz.sizeOf4
 v4:=Tryz.zeroValue4
 t5:=Tryz.underlying5
 a5:=Tryz.isAgg5
 z5:=Tryz.sizeOf5
 v5:=Tryz.zeroValue5
 t9:=Tryz.underlying9
 a9:=Tryz.isAgg9
 z9:=Tryz.sizeOf9
 v9:=Tryz.zeroValue9
 t22:=Tryz.underlying60
 a22:=Tryz.isAgg60
 z22:=Tryz.sizeOf60
 v22:=Tryz.zeroValue60
 t25:=Tryz.underlying108
 a25:=Tryz.isAgg108
 z25:=Tryz.sizeOf108
 v25:=Tryz.zeroValue108
 t39:=Tryz.underlying143
 a39:=Tryz.isAgg143
 z39:=Tryz.sizeOf143
 v39:=Tryz.zeroValue143
 t45:=Tryz.underlying173
 a45:=Tryz.isAgg173
 z45:=Tryz.sizeOf173
 v45:=Tryz.zeroValue173
 t46:=Tryz.underlying174
 a46:=Tryz.isAgg174
 z46:=Tryz.sizeOf174
 v46:=Tryz.zeroValue174
 t50:=Tryz.underlying114
 a50:=Tryz.isAgg114
 z50:=Tryz.sizeOf114
 v50:=Tryz.zeroValue114
 t53:=Tryz.underlying180
 a53:=Tryz.isAgg180
 z53:=Tryz.sizeOf180
 v53:=Tryz.zeroValue180
 t55:=Tryz.underlying182
 a55:=Tryz.isAgg182
 z55:=Tryz.sizeOf182
 v55:=Tryz.zeroValue182
 t66:=Tryz.underlying204
 a66:=Tryz.isAgg204
 z66:=Tryz.sizeOf204
 v66:=Tryz.zeroValue204
 t70:=Tryz.underlying208
 a70:=Tryz.isAgg208
 z70:=Tryz.sizeOf208
 v70:=Tryz.zeroValue208
 t76:=Tryz.underlying218
 a76:=Tryz.isAgg218
 z76:=Tryz.sizeOf218
 v76:=Tryz.zeroValue218
 t77:=Tryz.underlying219
 a77:=Tryz.isAgg219
 z77:=Tryz.sizeOf219
 v77:=Tryz.zeroValue219 }
def Tryz.sortRoute_ren:Go.Shelf.Ren:=⟨fun | 6=>63 | 15=>81 | 14=>91 | 28=>115 | 29=>116 | 20=>129 | 21=>130 | 22=>131 | 23=>132 | 24=>133 | 25=>134 | 26=>135 | 27=>136 | 46=>159 | 47=>150 | 48=>151 | 49=>160 | 50=>161 | 57=>169 | n=>n,fun | 22=>45 | 24=>64 | 25=>65 | 3=>3 | 39=>143 | 0=>0 | 53=>180 | 55=>182 | 4=>4 | 46=>174 | 45=>173 | 50=>114 | 5=>5 | 9=>9 | 66=>204 | 70=>208 | 76=>218 | 77=>219 | n=>n,fun | n=>n⟩
theorem Tryz.sortRoute:Go.Proofs.SlLaysF0.n6 Tryz.prog Tryz.sortRoute_ren:={
 mixed:=by kernel_rfl
 f6:=⟨Tryz.f63.name,by decide,Tryz.func63.trans (congrArg some (by kernel_rfl))⟩
 f14:=⟨Tryz.f91.name,by decide,Tryz.func91.trans (congrArg some (by kernel_rfl))⟩
 f15:=Tryz.func81.trans (congrArg some (by kernel_rfl))
 f20:=⟨Tryz.f129.name,by decide,Tryz.func129.trans (congrArg some (by kernel_rfl))⟩
 f21:=⟨Tryz.f130.name,by decide,Tryz.func130.trans (congrArg some (by kernel_rfl))⟩
 f22:=⟨Tryz.f131.name,by decide,Tryz.func131.trans (congrArg some (by kernel_rfl))⟩
 f23:=⟨Tryz.f132.name,by decide,Tryz.func132.trans (congrArg some (by kernel_rfl))⟩
 f24:=⟨Tryz.f133.name,by decide,Tryz.func133.trans (congrArg some (by kernel_rfl))⟩
 f25:=⟨Tryz.f134.name,by decide,Tryz.func134.trans (congrArg some (by kernel_rfl))⟩
 f26:=⟨Tryz.f135.name,by decide,Tryz.func135.trans (congrArg some (by kernel_rfl))⟩
 f27:=⟨Tryz.f136.name,by decide,Tryz.func136.trans (congrArg some (by kernel_rfl))⟩
 f28:=Tryz.func115.trans (congrArg some (by kernel_rfl))
 f29:=Tryz.func116.trans (congrArg some (by kernel_rfl))
 f46:=⟨Tryz.f159.name,by decide,Tryz.func159.trans (congrArg some (by kernel_rfl))⟩
 f47:=Tryz.func150.trans (congrArg some (by kernel_rfl))
 f48:=Tryz.func151.trans (congrArg some (by kernel_rfl))
 f49:=⟨Tryz.f160.name,by decide,Tryz.func160.trans (congrArg some (by kernel_rfl))⟩
 f50:=⟨Tryz.f161.name,by decide,Tryz.func161.trans (congrArg some (by kernel_rfl))⟩
 f57:=⟨Tryz.f169.name,by decide,Tryz.func169.trans (congrArg some (by kernel_rfl))⟩
 t0:=Tryz.underlying0
 a0:=Tryz.isAgg0
 z0:=Tryz.sizeOf0
 v0:=Tryz.zeroValue0
 t3:=Tryz.underlying3
 a3:=Tryz.isAgg3
 z3:=Tryz.sizeOf3
 v3:=Tryz.zeroValue3
 t4:=Tryz.underlying4
 a4:=Tryz.isAgg4
 z4:=Tryz.sizeOf4
 v4:=Tryz.zeroValue4
 t5:=Tryz.underlying5
 a5:=Tryz.isAgg5
 z5:=Tryz.sizeOf5
 v5:=Tryz.zeroValue5
 t9:=Tryz.underlying9
 a9:=Tryz.isAgg9
 z9:=Tryz.sizeOf9
 v9:=Tryz.zeroValue9
 t22:=Tryz.underlying45
 a22:=Tryz.isAgg45
 z22:=Tryz.sizeOf45
 v22:=Tryz.zeroValue45
 t25:=Tryz.underlying65
 a25:=Tryz.isAgg65
 z25:=Tryz.sizeOf65
 v25:=Tryz.zeroValue65
 t39:=Tryz.underlying143
 a39:=Tryz.isAgg143
 z39:=Tryz.sizeOf143
 v39:=Tryz.zeroValue143
 t45:=Tryz.underlying173
 a45:=Tryz.isAgg173
 z45:=Tryz.sizeOf173
 v45:=Tryz.zeroValue173
 t46:=Tryz.underlying174
 a46:=Tryz.isAgg174
 z46:=Tryz.sizeOf174
 v46:=Tryz.zeroValue174
 t50:=Tryz.underlying114
 a50:=Tryz.isAgg114
 z50:=Tryz.sizeOf114
 v50:=Tryz.zeroValue114
 t53:=Tryz.underlying180
 a53:=Tryz.isAgg180
 z53:=Tryz.sizeOf180
 v53:=Tryz.zeroValue180
 t55:=Tryz.underlying182
 a55:=Tryz.isAgg182
 z55:=Tryz.sizeOf182
 v55:=Tryz.zeroValue182
 t66:=Tryz.underlying204
 a66:=Tryz.isAgg204
 z66:=Tryz.sizeOf204
 v66:=Tryz.zeroValue204
 t70:=Tryz.underlying208
 a70:=Tryz.isAgg208
 z70:=Tryz.sizeOf208
 v70:=Tryz.zeroValue208
 t76:=Tryz.underlying218
 a76:=Tryz.isAgg218
 z76:=Tryz.sizeOf218
 v76:=Tryz.zeroValue218
 t77:=Tryz.underlying219
 a77:=Tryz.isAgg219
 z77:=Tryz.sizeOf219
 v77:=Tryz.zeroValue219 }
end Go.Proofs
