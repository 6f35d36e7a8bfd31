/- Types of the program, and library functions. -/
import Derived.Test.YthhhdpnchjnfnaaDoorSxThree
import Derived.Test.YthhhdpnchjnfnaaDoorProg
import Derived.Test.YthhhdpnchjnfnaaDoorSxFour
import Derived.Test.YthhhdpnchjnfnaaDoorSxFive
import Derived.Shelf.Unicode.ValidAny
import Derived.Lib.LaidTab
import Derived.Test.YthhhdpnchjnfnaaDoorSxSix
import Derived.Shelf.Small.Strs
import Derived.Ground.SlsfProg
import Derived.Shelf.SlGeneric
set_option linter.unusedVariables false
set_option linter.unusedSimpArgs false
namespace Go.Sx.Sp
open Go Go.Sx Go.Proofs
def tokL (P:Program) (t:Nat):Option (TK×Nat×Nat×List V×Nat×Bool×Bool):=(P.underlying t).bind fun d=>(P.info? t).bind fun i=>i.zero.map fun z=>(tkOf d,i.size,i.bytes,z.cells.toList.map constV,z.cells.size,(z.cells.all fun c=>c.oneCell'),(z.cells.toList.map constV).all V.one)
theorem table_all {P:Program}:∀ {T:List (Nat×TI)},(T.map fun e=>tokL P e.1)=(T.map fun e=>some (e.2.k,e.2.sz,e.2.bytes,e.2.zero,e.2.sz,true,true))→TableOK P T
 | [],_=>table_nil
 | e::T,h=>by
  have h:=List.cons.inj h
  exact table_cons (tok_of h.1) (table_all h.2)
def T:List (Nat×TI):=[(1,⟨.fn,1,8,[.nilf]⟩),
 (2,⟨.int .i64,1,8,[.int .i64 0]⟩),
 (3,⟨.int .i64,1,8,[.int .i64 0]⟩),
 (4,⟨.bool,1,1,[.bool false]⟩),
 (5,⟨.int .u8,1,1,[.int .u8 0]⟩),
 (6,⟨.int .u8,1,1,[.int .u8 0]⟩),
 (7,⟨.st [(0,2),(1,3),(2,4),(3,6)],4,24,[.int .i64 0,.int .i64 0,.bool false,.int .u8 0]⟩),
 (8,⟨.st [(0,2),(1,3),(2,4),(3,6)],4,24,[.int .i64 0,.int .i64 0,.bool false,.int .u8 0]⟩),
 (9,⟨.str,1,16,[.str []]⟩),
 (10,⟨.str,1,16,[.str []]⟩),
 (11,⟨.str,1,16,[.str []]⟩),
 (12,⟨.int .u64,1,8,[.int .u64 0]⟩),
 (13,⟨.st [(0,9),(1,12)],2,24,[.str [],.int .u64 0]⟩),
 (14,⟨.st [(0,9),(1,12)],2,24,[.str [],.int .u64 0]⟩),
 (15,⟨.ptr 131,1,8,[.nilp]⟩),
 (16,⟨.ptr 134,1,8,[.nilp]⟩),
 (17,⟨.ptr 143,1,8,[.nilp]⟩),
 (18,⟨.st [(0,17)],1,8,[.nilp]⟩),
 (19,⟨.st [(0,17)],1,8,[.nilp]⟩),
 (20,⟨.iface,1,16,[.nili]⟩),
 (21,⟨.int .i32,1,4,[.int .i32 0]⟩),
 (22,⟨.sl 3,1,24,[.nils]⟩),
 (23,⟨.sl 40,1,24,[.nils]⟩),
 (24,⟨.sl 23,1,24,[.nils]⟩),
 (25,⟨.st [(0,23),(1,24)],2,48,[.nils,.nils]⟩),
 (26,⟨.st [(0,23),(1,24)],2,48,[.nils,.nils]⟩),
 (27,⟨.fn,1,8,[.nilf]⟩),
 (28,⟨.fn,1,8,[.nilf]⟩),
 (29,⟨.ptr 52,1,8,[.nilp]⟩),
 (30,⟨.fn,1,8,[.nilf]⟩),
 (31,⟨.sl 49,1,24,[.nils]⟩),
 (32,⟨.st [(0,3),(1,9),(2,31)],3,48,[.int .i64 0,.str [],.nils]⟩),
 (33,⟨.st [(0,3),(1,9),(2,31)],3,48,[.int .i64 0,.str [],.nils]⟩),
 (34,⟨.fn,1,8,[.nilf]⟩),
 (35,⟨.int .i64,1,8,[.int .i64 0]⟩),
 (37,⟨.fn,1,8,[.nilf]⟩),
 (38,⟨.fn,1,8,[.nilf]⟩),
 (39,⟨.st [(0,4),(1,9)],2,24,[.bool false,.str []]⟩),
 (40,⟨.st [(0,4),(1,9)],2,24,[.bool false,.str []]⟩),
 (41,⟨.fn,1,8,[.nilf]⟩),
 (43,⟨.fn,1,8,[.nilf]⟩),
 (44,⟨.fn,1,8,[.nilf]⟩),
 (45,⟨.fn,1,8,[.nilf]⟩),
 (46,⟨.fn,1,8,[.nilf]⟩),
 (47,⟨.fn,1,8,[.nilf]⟩),
 (48,⟨.st [(0,9),(1,23)],2,40,[.str [],.nils]⟩),
 (49,⟨.st [(0,9),(1,23)],2,40,[.str [],.nils]⟩),
 (50,⟨.fn,1,8,[.nilf]⟩),
 (51,⟨.st [(0,22),(1,3)],2,32,[.nils,.int .i64 0]⟩),
 (52,⟨.st [(0,22),(1,3)],2,32,[.nils,.int .i64 0]⟩),
 (53,⟨.map 9 4,1,8,[.nilm]⟩),
 (54,⟨.fn,1,8,[.nilf]⟩),
 (55,⟨.fn,1,8,[.nilf]⟩),
 (56,⟨.fn,1,8,[.nilf]⟩),
 (57,⟨.fn,1,8,[.nilf]⟩),
 (58,⟨.fn,1,8,[.nilf]⟩),
 (59,⟨.sl 9,1,24,[.nils]⟩),
 (60,⟨.fn,1,8,[.nilf]⟩),
 (61,⟨.fn,1,8,[.nilf]⟩),
 (62,⟨.fn,1,8,[.nilf]⟩),
 (63,⟨.sl 4,1,24,[.nils]⟩),
 (64,⟨.fn,1,8,[.nilf]⟩),
 (65,⟨.fn,1,8,[.nilf]⟩),
 (66,⟨.map 9 3,1,8,[.nilm]⟩),
 (67,⟨.fn,1,8,[.nilf]⟩),
 (68,⟨.fn,1,8,[.nilf]⟩),
 (69,⟨.fn,1,8,[.nilf]⟩),
 (70,⟨.fn,1,8,[.nilf]⟩),
 (71,⟨.fn,1,8,[.nilf]⟩),
 (72,⟨.fn,1,8,[.nilf]⟩),
 (73,⟨.fn,1,8,[.nilf]⟩),
 (75,⟨.fn,1,8,[.nilf]⟩),
 (76,⟨.fn,1,8,[.nilf]⟩),
 (77,⟨.fn,1,8,[.nilf]⟩),
 (78,⟨.fn,1,8,[.nilf]⟩),
 (79,⟨.fn,1,8,[.nilf]⟩),
 (80,⟨.fn,1,8,[.nilf]⟩),
 (81,⟨.fn,1,8,[.nilf]⟩),
 (82,⟨.fn,1,8,[.nilf]⟩),
 (83,⟨.fn,1,8,[.nilf]⟩),
 (84,⟨.fn,1,8,[.nilf]⟩),
 (85,⟨.fn,1,8,[.nilf]⟩),
 (86,⟨.fn,1,8,[.nilf]⟩),
 (87,⟨.fn,1,8,[.nilf]⟩),
 (88,⟨.sl 33,1,24,[.nils]⟩),
 (89,⟨.fn,1,8,[.nilf]⟩),
 (90,⟨.fn,1,8,[.nilf]⟩),
 (91,⟨.int .u64,1,8,[.int .u64 0]⟩),
 (92,⟨.fn,1,8,[.nilf]⟩),
 (93,⟨.fn,1,8,[.nilf]⟩),
 (94,⟨.fn,1,8,[.nilf]⟩),
 (95,⟨.fn,1,8,[.nilf]⟩),
 (96,⟨.fn,1,8,[.nilf]⟩),
 (97,⟨.arr 256 5,256,256,[.int .u8 0,.int .u8 0,.int .u8 0,.int .u8 0,.int .u8 0,.int .u8 0,.int .u8 0,.int .u8 0,.int .u8 0,.int .u8 0,.int .u8 0,.int .u8 0,.int .u8 0,.int .u8 0,.int .u8 0,.int .u8 0,.int .u8 0,.int .u8 0,.int .u8 0,.int .u8 0,.int .u8 0,.int .u8 0,.int .u8 0,.int .u8 0,.int .u8 0,.int .u8 0,.int .u8 0,.int .u8 0,.int .u8 0,.int .u8 0,.int .u8 0,.int .u8 0,.int .u8 0,.int .u8 0,.int .u8 0,.int .u8 0,.int .u8 0,.int .u8 0,.int .u8 0,.int .u8 0,.int .u8 0,.int .u8 0,.int .u8 0,.int .u8 0,.int .u8 0,.int .u8 0,.int .u8 0,.int .u8 0,.int .u8 0,.int .u8 0,.int .u8 0,.int .u8 0,.int .u8 0,.int .u8 0,.int .u8 0,.int .u8 0,.int .u8 0,.int .u8 0,.int .u8 0,.int .u8 0,.int .u8 0,.int .u8 0,.int .u8 0,.int .u8 0,.int .u8 0,.int .u8 0,.int .u8 0,.int .u8 0,.int .u8 0,.int .u8 0,.int .u8 0,.int .u8 0,.int .u8 0,.int .u8 0,.int .u8 0,.int .u8 0,.int .u8 0,.int .u8 0,.int .u8 0,.int .u8 0,.int .u8 0,.int .u8 0,.int .u8 0,.int .u8 0,.int .u8 0,.int .u8 0,.int .u8 0,.int .u8 0,.int .u8 0,.int .u8 0,.int .u8 0,.int .u8 0,.int .u8 0,.int .u8 0,.int .u8 0,.int .u8 0,.int .u8 0,.int .u8 0,.int .u8 0,.int .u8 0,.int .u8 0,.int .u8 0,.int .u8 0,.int .u8 0,.int .u8 0,.int .u8 0,.int .u8 0,.int .u8 0,.int .u8 0,.int .u8 0,.int .u8 0,.int .u8 0,.int .u8 0,.int .u8 0,.int .u8 0,.int .u8 0,.int .u8 0,.int .u8 0,.int .u8 0,.int .u8 0,.int .u8 0,.int .u8 0,.int .u8 0,.int .u8 0,.int .u8 0,.int .u8 0,.int .u8 0,.int .u8 0,.int .u8 0,.int .u8 0,.int .u8 0,.int .u8 0,.int .u8 0,.int .u8 0,.int .u8 0,.int .u8 0,.int .u8 0,.int .u8 0,.int .u8 0,.int .u8 0,.int .u8 0,.int .u8 0,.int .u8 0,.int .u8 0,.int .u8 0,.int .u8 0,.int .u8 0,.int .u8 0,.int .u8 0,.int .u8 0,.int .u8 0,.int .u8 0,.int .u8 0,.int .u8 0,.int .u8 0,.int .u8 0,.int .u8 0,.int .u8 0,.int .u8 0,.int .u8 0,.int .u8 0,.int .u8 0,.int .u8 0,.int .u8 0,.int .u8 0,.int .u8 0,.int .u8 0,.int .u8 0,.int .u8 0,.int .u8 0,.int .u8 0,.int .u8 0,.int .u8 0,.int .u8 0,.int .u8 0,.int .u8 0,.int .u8 0,.int .u8 0,.int .u8 0,.int .u8 0,.int .u8 0,.int .u8 0,.int .u8 0,.int .u8 0,.int .u8 0,.int .u8 0,.int .u8 0,.int .u8 0,.int .u8 0,.int .u8 0,.int .u8 0,.int .u8 0,.int .u8 0,.int .u8 0,.int .u8 0,.int .u8 0,.int .u8 0,.int .u8 0,.int .u8 0,.int .u8 0,.int .u8 0,.int .u8 0,.int .u8 0,.int .u8 0,.int .u8 0,.int .u8 0,.int .u8 0,.int .u8 0,.int .u8 0,.int .u8 0,.int .u8 0,.int .u8 0,.int .u8 0,.int .u8 0,.int .u8 0,.int .u8 0,.int .u8 0,.int .u8 0,.int .u8 0,.int .u8 0,.int .u8 0,.int .u8 0,.int .u8 0,.int .u8 0,.int .u8 0,.int .u8 0,.int .u8 0,.int .u8 0,.int .u8 0,.int .u8 0,.int .u8 0,.int .u8 0,.int .u8 0,.int .u8 0,.int .u8 0,.int .u8 0,.int .u8 0,.int .u8 0,.int .u8 0,.int .u8 0,.int .u8 0,.int .u8 0,.int .u8 0,.int .u8 0,.int .u8 0,.int .u8 0,.int .u8 0,.int .u8 0,.int .u8 0,.int .u8 0,.int .u8 0,.int .u8 0,.int .u8 0,.int .u8 0,.int .u8 0,.int .u8 0]⟩),
 (98,⟨.st [(0,5),(1,5)],2,2,[.int .u8 0,.int .u8 0]⟩),
 (99,⟨.st [(0,5),(1,5)],2,2,[.int .u8 0,.int .u8 0]⟩),
 (100,⟨.arr 16 99,32,32,[.int .u8 0,.int .u8 0,.int .u8 0,.int .u8 0,.int .u8 0,.int .u8 0,.int .u8 0,.int .u8 0,.int .u8 0,.int .u8 0,.int .u8 0,.int .u8 0,.int .u8 0,.int .u8 0,.int .u8 0,.int .u8 0,.int .u8 0,.int .u8 0,.int .u8 0,.int .u8 0,.int .u8 0,.int .u8 0,.int .u8 0,.int .u8 0,.int .u8 0,.int .u8 0,.int .u8 0,.int .u8 0,.int .u8 0,.int .u8 0,.int .u8 0,.int .u8 0]⟩),
 (101,⟨.fn,1,8,[.nilf]⟩),
 (102,⟨.int .i64,1,8,[.int .i64 0]⟩),
 (104,⟨.fn,1,8,[.nilf]⟩),
 (105,⟨.fn,1,8,[.nilf]⟩),
 (106,⟨.fn,1,8,[.nilf]⟩),
 (107,⟨.fn,1,8,[.nilf]⟩),
 (108,⟨.fn,1,8,[.nilf]⟩),
 (109,⟨.int .u32,1,4,[.int .u32 0]⟩),
 (110,⟨.fn,1,8,[.nilf]⟩),
 (111,⟨.int .u64,1,8,[.int .u64 0]⟩),
 (112,⟨.fn,1,8,[.nilf]⟩),
 (113,⟨.fn,1,8,[.nilf]⟩),
 (114,⟨.fn,1,8,[.nilf]⟩),
 (115,⟨.fn,1,8,[.nilf]⟩),
 (116,⟨.fn,1,8,[.nilf]⟩),
 (117,⟨.int .u64,1,8,[.int .u64 0]⟩),
 (118,⟨.fn,1,8,[.nilf]⟩),
 (119,⟨.fn,1,8,[.nilf]⟩),
 (120,⟨.fn,1,8,[.nilf]⟩),
 (121,⟨.ptr 3,1,8,[.nilp]⟩),
 (122,⟨.fn,1,8,[.nilf]⟩),
 (123,⟨.fn,1,8,[.nilf]⟩),
 (124,⟨.fn,1,8,[.nilf]⟩),
 (125,⟨.ptr 117,1,8,[.nilp]⟩),
 (127,⟨.fn,1,8,[.nilf]⟩),
 (128,⟨.fn,1,8,[.nilf]⟩),
 (129,⟨.fn,1,8,[.nilf]⟩),
 (130,⟨.st [(0,17),(1,17),(2,17),(3,9)],4,40,[.nilp,.nilp,.nilp,.str []]⟩),
 (131,⟨.st [(0,17),(1,17),(2,17),(3,9)],4,40,[.nilp,.nilp,.nilp,.str []]⟩),
 (132,⟨.arr 0 16,0,0,[]⟩),
 (133,⟨.st [(0,132)],0,0,[]⟩),
 (134,⟨.st [(0,132)],0,0,[]⟩),
 (135,⟨.fn,1,8,[.nilf]⟩),
 (136,⟨.int .u8,1,1,[.int .u8 0]⟩),
 (137,⟨.int .u8,1,1,[.int .u8 0]⟩),
 (138,⟨.fn,1,8,[.nilf]⟩),
 (139,⟨.ptr 5,1,8,[.nilp]⟩),
 (140,⟨.int .i32,1,4,[.int .i32 0]⟩),
 (141,⟨.int .i32,1,4,[.int .i32 0]⟩),
 (142,⟨.st [(0,12),(1,12),(2,109),(3,136),(4,5),(5,5),(6,137),(7,138),(8,139),(9,140),(10,141)],11,48,[.int .u64 0,.int .u64 0,.int .u32 0,.int .u8 0,.int .u8 0,.int .u8 0,.int .u8 0,.nilf,.nilp,.int .i32 0,.int .i32 0]⟩),
 (143,⟨.st [(0,12),(1,12),(2,109),(3,136),(4,5),(5,5),(6,137),(7,138),(8,139),(9,140),(10,141)],11,48,[.int .u64 0,.int .u64 0,.int .u32 0,.int .u8 0,.int .u8 0,.int .u8 0,.int .u8 0,.nilf,.nilp,.int .i32 0,.int .i32 0]⟩)]
set_option maxRecDepth 20000 in
theorem env:Env Tryd.prog T:=⟨table_all (by kernel_rfl),by kernel_rfl⟩
end Go.Sx.Sp
namespace Go.Proofs
open Go.Shelf
def Tryd.laysValid_ren:Go.Shelf.Ren:=⟨fun | 196=>60 | 259=>68 | n=>n,fun | 9=>9 | 4=>4 | 3=>3 | 5=>5 | 12=>12 | 119=>97 | 0=>0 | 46=>91 | 139=>100 | 138=>99 | 53=>111 | n=>n,fun | 3=>0 | 4=>1 | n=>n⟩
theorem Tryd.laysValid:Go.Proofs.Lays.n196 Tryd.prog Tryd.laysValid_ren:={
 mixed:=by kernel_rfl
 f196:=Tryd.func60.trans (congrArg some (by kernel_rfl))
 f259:=Tryd.func68.trans (congrArg some (by kernel_rfl))
 t0:=Tryd.underlying0
 a0:=Tryd.isAgg0
 z0:=Tryd.sizeOf0
 v0:=Tryd.zeroValue0
 t3:=Tryd.underlying3
 a3:=Tryd.isAgg3
 z3:=Tryd.sizeOf3
 v3:=Tryd.zeroValue3
 t4:=Tryd.underlying4
 a4:=Tryd.isAgg4
 z4:=Tryd.sizeOf4
 v4:=Tryd.zeroValue4
 t5:=Tryd.underlying5
 a5:=Tryd.isAgg5
 z5:=Tryd.sizeOf5
 v5:=Tryd.zeroValue5
 t9:=Tryd.underlying9
 a9:=Tryd.isAgg9
 z9:=Tryd.sizeOf9
 v9:=Tryd.zeroValue9
 t12:=Tryd.underlying12
 a12:=Tryd.isAgg12
 z12:=Tryd.sizeOf12
 v12:=Tryd.zeroValue12
 t46:=Tryd.underlying91
 a46:=Tryd.isAgg91
 z46:=Tryd.sizeOf91
 v46:=Tryd.zeroValue91
 t53:=Tryd.underlying111
 a53:=Tryd.isAgg111
 z53:=Tryd.sizeOf111
 v53:=Tryd.zeroValue111
 t119:=Tryd.underlying97
 a119:=Tryd.isAgg97
 z119:=Tryd.sizeOf97
 t138:=Tryd.underlying99
 a138:=Tryd.isAgg99
 z138:=Tryd.sizeOf99
 v138:=Tryd.zeroValue99
 t139:=Tryd.underlying100
 a139:=Tryd.isAgg100
 z139:=Tryd.sizeOf100
 v139:=Tryd.zeroValue100
 g3:=by kernel_rfl
 g4:=by kernel_rfl }
end Go.Proofs
namespace Go.Sx.Sp
open Go Go.Sx Go.Proofs Go.RowKit
def tabsOK (w:World):Prop:=Lib.Utf8Tabs 0 1 w
instance:Glob:=⟨tabsOK,[0,1],False,fun w w' hs h=>by
 have h0:=hs 0 (by simp)
 have h1:=hs 1 (by simp)
 refine ⟨fun c hc=>?_,fun i hi=>?_⟩
 ·rw [cell?_of_heap h0];exact h.1 c hc
 ·rw [cell?_of_heap h1,cell?_of_heap h1];exact h.2 i hi⟩
set_option maxRecDepth 1000000 in
theorem utf8_spec (s:List UInt8):Spec Tryd.prog 60 [.str s] [] (.bool (Lib.validD s)) []:=by
 refine Spec.ofCalls (fun cargs w=>enters_of Tryd.func60 (by kernel_rfl) rfl cargs w) fun w F m cargs hl ha hg=>?_
 match cargs,hl with
 | [c],_ =>
  obtain ⟨rfl,hs⟩:=(ha 0 (.str s) c rfl rfl).str_inv
  have hsz:(⟨s.toArray⟩:ByteArray).size≤9223372036854775807:=by
   have:maxLen=9223372036854775807:=by unfold maxLen;rfl
   simpa [ByteArray.size,this] using hs
  refine (Any.utf8_ValidString Tryd.laysValid ⟨s.toArray⟩ w hsz hg).mono fun e w' ⟨he,hb⟩=>?_
  exact ⟨_,he,fun w' F m=>.bool _,hb,fun h=>h.elim⟩
end Go.Sx.Sp
namespace Go.Proofs
open Go.Shelf
def Tryd.sortCell_ren:Go.Shelf.Ren:=⟨fun | 6=>49 | 15=>62 | 14=>61 | 28=>77 | 29=>78 | 20=>69 | 21=>70 | 22=>71 | 23=>72 | 24=>73 | 25=>74 | 26=>75 | 27=>76 | 46=>88 | 47=>89 | 48=>90 | 49=>91 | 50=>92 | 57=>97 | n=>n,fun | 22=>23 | 24=>40 | 25=>82 | 3=>3 | 39=>91 | 0=>0 | 53=>109 | 55=>111 | 4=>4 | 46=>103 | 45=>102 | 50=>74 | 5=>5 | 9=>9 | 66=>117 | 70=>121 | 76=>125 | 77=>126 | n=>n,fun | n=>n⟩
theorem Tryd.sortCell:Go.Proofs.SlLaysF0.n6 Tryd.prog Tryd.sortCell_ren:={
 mixed:=by kernel_rfl
 f6:=⟨Tryd.f49.name,by decide,Tryd.func49.trans (congrArg some (by kernel_rfl))⟩
 f14:=⟨Tryd.f61.name,by decide,Tryd.func61.trans (congrArg some (by kernel_rfl))⟩
 f15:=Tryd.func62.trans (congrArg some (by kernel_rfl))
 f20:=⟨Tryd.f69.name,by decide,Tryd.func69.trans (congrArg some (by kernel_rfl))⟩
 f21:=⟨Tryd.f70.name,by decide,Tryd.func70.trans (congrArg some (by kernel_rfl))⟩
 f22:=⟨Tryd.f71.name,by decide,Tryd.func71.trans (congrArg some (by kernel_rfl))⟩
 f23:=⟨Tryd.f72.name,by decide,Tryd.func72.trans (congrArg some (by kernel_rfl))⟩
 f24:=⟨Tryd.f73.name,by decide,Tryd.func73.trans (congrArg some (by kernel_rfl))⟩
 f25:=⟨Tryd.f74.name,by decide,Tryd.func74.trans (congrArg some (by kernel_rfl))⟩
 f26:=⟨Tryd.f75.name,by decide,Tryd.func75.trans (congrArg some (by kernel_rfl))⟩
 f27:=⟨Tryd.f76.name,by decide,Tryd.func76.trans (congrArg some (by kernel_rfl))⟩
 f28:=Tryd.func77.trans (congrArg some (by kernel_rfl))
 f29:=Tryd.func78.trans (congrArg some (by kernel_rfl))
 f46:=⟨Tryd.f88.name,by decide,Tryd.func88.trans (congrArg some (by kernel_rfl))⟩
 f47:=Tryd.func89.trans (congrArg some (by kernel_rfl))
 f48:=Tryd.func90.trans (congrArg some (by kernel_rfl))
 f49:=⟨Tryd.f91.name,by decide,Tryd.func91.trans (congrArg some (by kernel_rfl))⟩
 f50:=⟨Tryd.f92.name,by decide,Tryd.func92.trans (congrArg some (by kernel_rfl))⟩
 f57:=⟨Tryd.f97.name,by decide,Tryd.func97.trans (congrArg some (by kernel_rfl))⟩
 t0:=Tryd.underlying0
 a0:=Tryd.isAgg0
 z0:=Tryd.sizeOf0
 v0:=Tryd.zeroValue0
 t3:=Tryd.underlying3
 a3:=Tryd.isAgg3
 z3:=Tryd.sizeOf3
 v3:=Tryd.zeroValue3
 t4:=Tryd.underlying4
 a4:=Tryd.isAgg4
 z4:=Tryd.sizeOf4
 v4:=Tryd.zeroValue4
 t5:=Tryd.underlying5
 a5:=Tryd.isAgg5
 z5:=Tryd.sizeOf5
 v5:=Tryd.zeroValue5
 t9:=Tryd.underlying9
 a9:=Tryd.isAgg9
 z9:=Tryd.sizeOf9
 v9:=Tryd.zeroValue9
 t22:=Tryd.underlying23
 a22:=Tryd.isAgg23
 z22:=Tryd.sizeOf23
 v22:=Tryd.zeroValue23
 t25:=Tryd.underlying82
 a25:=Tryd.isAgg82
 z25:=Tryd.sizeOf82
 v25:=Tryd.zeroValue82
 t39:=Tryd.underlying91
 a39:=Tryd.isAgg91
 z39:=Tryd.sizeOf91
 v39:=Tryd.zeroValue91
 t45:=Tryd.underlying102
 a45:=Tryd.isAgg102
 z45:=Tryd.sizeOf102
 v45:=Tryd.zeroValue102
 t46:=Tryd.underlying103
 a46:=Tryd.isAgg103
 z46:=Tryd.sizeOf103
 v46:=Tryd.zeroValue103
 t50:=Tryd.underlying74
 a50:=Tryd.isAgg74
 z50:=Tryd.sizeOf74
 v50:=Tryd.zeroValue74
 t53:=Tryd.underlying109
 a53:=Tryd.isAgg109
 z53:=Tryd.sizeOf109
 v53:=Tryd.zeroValue109
 t55:=Tryd.underlying111
 a55:=Tryd.isAgg111
 z55:=Tryd.sizeOf111
 v55:=Tryd.zeroValue111
 t66:=Tryd.underlying117
 a66:=Tryd.isAgg117
 z66:=Tryd.sizeOf117
 v66:=Tryd.zeroValue117
 t70:=Tryd.underlying121
 a70:=Tryd.isAgg121
 z70:=Tryd.sizeOf121
 v70:=Tryd.zeroValue121
 t76:=Tryd.underlying125
 a76:=Tryd.isAgg125
 z76:=Tryd.sizeOf125
 v76:=Tryd.zeroValue125
 t77:=Tryd.underlying126
 a77:=Tryd.isAgg126
 z77:=Tryd.sizeOf126
 v77:=Tryd.zeroValue126 }
def Tryd.sortLine_ren:Go.Shelf.Ren:=⟨fun | 6=>51 | 15=>62 | 14=>64 | 28=>77 | 29=>78 | 20=>80 | 21=>81 | 22=>82 | 23=>83 | 24=>84 | 25=>85 | 26=>86 | 27=>87 | 46=>94 | 47=>89 | 48=>90 | 49=>95 | 50=>96 | 57=>98 | n=>n,fun | 22=>24 | 24=>23 | 25=>84 | 3=>3 | 39=>91 | 0=>0 | 53=>109 | 55=>111 | 4=>4 | 46=>103 | 45=>102 | 50=>74 | 5=>5 | 9=>9 | 66=>117 | 70=>121 | 76=>125 | 77=>126 | n=>n,fun | n=>n⟩
theorem Tryd.sortLine:Go.Proofs.SlLaysF.n6 Tryd.prog Tryd.sortLine_ren:={
 mixed:=by kernel_rfl
 f6:=⟨Tryd.f51.name,by decide,Tryd.func51.trans (congrArg some (by kernel_rfl))⟩
 f14:=⟨Tryd.f64.name,by decide,Tryd.func64.trans (congrArg some (by kernel_rfl))⟩
 f15:=Tryd.func62.trans (congrArg some (by kernel_rfl))
 f20:=⟨Tryd.f80.name,by decide,Tryd.func80.trans (congrArg some (by kernel_rfl))⟩
 f21:=⟨Tryd.f81.name,by decide,Tryd.func81.trans (congrArg some (by kernel_rfl))⟩
 f22:=⟨Tryd.f82.name,by decide,Tryd.func82.trans (congrArg some (by kernel_rfl))⟩
 f23:=⟨Tryd.f83.name,by decide,Tryd.func83.trans (congrArg some (by kernel_rfl))⟩
 f24:=⟨Tryd.f84.name,by decide,Tryd.func84.trans (congrArg some (by kernel_rfl))⟩
 f25:=⟨Tryd.f85.name,by decide,Tryd.func85.trans (congrArg some (by kernel_rfl))⟩
 f26:=⟨Tryd.f86.name,by decide,Tryd.func86.trans (congrArg some (by kernel_rfl))⟩
 f27:=⟨Tryd.f87.name,by decide,Tryd.func87.trans (congrArg some (by kernel_rfl))⟩
 f28:=Tryd.func77.trans (congrArg some (by kernel_rfl))
 f29:=Tryd.func78.trans (congrArg some (by kernel_rfl))
 f46:=⟨Tryd.f94.name,by decide,Tryd.func94.trans (congrArg some (by kernel_rfl))⟩
 f47:=Tryd.func89.trans (congrArg some (by kernel_rfl))
 f48:=Tryd.func90.trans (congrArg some (by kernel_rfl))
 f49:=⟨Tryd.f95.name,by decide,Tryd.func95.trans (congrArg some (by kernel_rfl))⟩
 f50:=⟨Tryd.f96.name,by decide,Tryd.func96.trans (congrArg some (by kernel_rfl))⟩
 f57:=⟨Tryd.f98.name,by decide,Tryd.func98.trans (congrArg some (by kernel_rfl))⟩
 t0:=Tryd.underlying0
 a0:=Tryd.isAgg0
 z0:=Tryd.sizeOf0
 v0:=Tryd.zeroValue0
 t3:=Tryd.underlying3
 a3:=Tryd.isAgg3
 z3:=Tryd.sizeOf3
 v3:=Tryd.zeroValue3
 t4:=Tryd.underlying4
 a4:=Tryd.isAgg4
 z4:=Tryd.sizeOf4
 v4:=Tryd.zeroValue4
 t5:=Tryd.underlying5
 a5:=Tryd.isAgg5
 z5:=Tryd.sizeOf5
 v5:=Tryd.zeroValue5
 t9:=Tryd.underlying9
 a9:=Tryd.isAgg9
 z9:=Tryd.sizeOf9
 v9:=Tryd.zeroValue9
 t22:=Tryd.underlying24
 a22:=Tryd.isAgg24
 z22:=Tryd.sizeOf24
 v22:=Tryd.zeroValue24
 a24:=Tryd.isAgg23
 z24:=Tryd.sizeOf23
 t25:=Tryd.underlying84
 a25:=Tryd.isAgg84
 z25:=Tryd.sizeOf84
 v25:=Tryd.zeroValue84
 t39:=Tryd.underlying91
 a39:=Tryd.isAgg91
 z39:=Tryd.sizeOf91
 v39:=Tryd.zeroValue91
 t45:=Tryd.underlying102
 a45:=Tryd.isAgg102
 z45:=Tryd.sizeOf102
 v45:=Tryd.zeroValue102
 t46:=Tryd.underlying103
 a46:=Tryd.isAgg103
 z46:=Tryd.sizeOf103
 v46:=Tryd.zeroValue103
 t50:=Tryd.underlying74
 a50:=Tryd.isAgg74
 z50:=Tryd.sizeOf74
 v50:=Tryd.zeroValue74
 t53:=Tryd.underlying109
 a53:=Tryd.isAgg109
 z53:=Tryd.sizeOf109
 v53:=Tryd.zeroValue109
 t55:=Tryd.underlying111
 a55:=Tryd.isAgg111
 z55:=Tryd.sizeOf111
 v55:=Tryd.zeroValue111
 t66:=Tryd.underlying117
 a66:=Tryd.isAgg117
 z66:=Tryd.sizeOf117
 v66:=Tryd.zeroValue117
 t70:=Tryd.underlying121
 a70:=Tryd.isAgg121
 z70:=Tryd.sizeOf121
 v70:=Tryd.zeroValue121
 t76:=Tryd.underlying125
 a76:=Tryd.isAgg125
 z76:=Tryd.sizeOf125
 v76:=Tryd.zeroValue125
 t77:=Tryd.underlying126
 a77:=Tryd.isAgg126
 z77:=Tryd.sizeOf126
 v77:=Tryd.zeroValue126 }
def Tryd.laysCompare_ren:Go.Shelf.Ren:=⟨fun | 106=>63 | 213=>79 | 265=>93 | n=>n,fun | 9=>9 | 3=>3 | n=>n,fun | n=>n⟩
theorem Tryd.laysCompare:Go.Proofs.Lays.n106 Tryd.prog Tryd.laysCompare_ren:={
 mixed:=by kernel_rfl
 f106:=Tryd.func63.trans (congrArg some (by kernel_rfl))
 f213:=Tryd.func79.trans (congrArg some (by kernel_rfl))
 f265:=Tryd.func93.trans (congrArg some (by kernel_rfl))
 t3:=Tryd.underlying3
 a3:=Tryd.isAgg3
 z3:=Tryd.sizeOf3
 v3:=Tryd.zeroValue3
 t9:=Tryd.underlying9
 a9:=Tryd.isAgg9
 z9:=Tryd.sizeOf9
 v9:=Tryd.zeroValue9 }
end Go.Proofs
