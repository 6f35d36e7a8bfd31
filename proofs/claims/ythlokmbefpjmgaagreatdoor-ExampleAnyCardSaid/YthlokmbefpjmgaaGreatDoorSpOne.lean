/- Types of the program, and library functions. -/
import Derived.Test.YthlokmbefpjmgaaGreatDoorSxThree
import Derived.Test.YthlokmbefpjmgaaGreatDoorProg
import Derived.Test.YthlokmbefpjmgaaGreatDoorSxFour
import Derived.Test.YthlokmbefpjmgaaGreatDoorSxFive
import Derived.Shelf.Unicode.ValidAny
import Derived.Shelf.Strconv.Itoa3
import Derived.Lib.LaidTab
import Derived.Test.YthlokmbefpjmgaaGreatDoorSxSix
import Derived.Shelf.Small.Strs
import Derived.Ground.SlsfProg
import Derived.Shelf.SlGeneric
set_option linter.unusedVariables false
set_option linter.unusedSimpArgs false
namespace Go.Sx.Sp
open Go Go.Sx Go.Proofs
def tokL (P:Program) (t:Nat):Option (TK×Nat×Nat×List V×Nat×Bool×Bool):=(P.underlying t).bind fun d=>(P.info? t).bind fun i=>i.zero.map fun z=>(tkOf d,i.size,i.bytes,z.cells.toList.map constV,z.cells.size,(z.cells.all fun c=>c.oneCell'),(z.cells.toList.map constV).all V.one)
theorem table_all {P:Program}:∀ {T:List (Nat×TI)},(T.map fun e=>tokL P e.1)=(T.map fun e=>some (e.2.k,e.2.sz,e.2.bytes,e.2.zero,e.2.sz,true,true))→TableOK P T
 | [],_=>table_nil
 | e::T,h=>by
  have h:=List.cons.inj h;exact table_cons (tok_of h.1) (table_all h.2)
def tS (n e:Nat):Nat×TI:=(n,⟨.sl e,1,24,[.nils]⟩)
def tP (n e:Nat):Nat×TI:=(n,⟨.ptr e,1,8,[.nilp]⟩)
def tN (n:Nat):Nat×TI:=(n,⟨.fn,1,8,[.nilf]⟩)
def T:List (Nat×TI):=[tN 1,(2,⟨.int .i64,1,8,[.int .i64 0]⟩),(3,⟨.int .i64,1,8,[.int .i64 0]⟩),(4,⟨.bool,1,1,[.bool false]⟩),(5,⟨.int .u8,1,1,[.int .u8 0]⟩),(6,⟨.int .u8,1,1,[.int .u8 0]⟩),(7,⟨.st [(0,2),(1,3),(2,4),(3,6)],4,24,[.int .i64 0,.int .i64 0,.bool false,.int .u8 0]⟩),(8,⟨.st [(0,2),(1,3),(2,4),(3,6)],4,24,[.int .i64 0,.int .i64 0,.bool false,.int .u8 0]⟩),(9,⟨.str,1,16,[.str []]⟩),(10,⟨.str,1,16,[.str []]⟩),(11,⟨.str,1,16,[.str []]⟩),(12,⟨.int .u64,1,8,[.int .u64 0]⟩),(13,⟨.st [(0,9),(1,12)],2,24,[.str [],.int .u64 0]⟩),(14,⟨.st [(0,9),(1,12)],2,24,[.str [],.int .u64 0]⟩),tP 15 299,tP 16 302,tP 17 310,(18,⟨.st [(0,17)],1,8,[.nilp]⟩),(19,⟨.st [(0,17)],1,8,[.nilp]⟩),(20,⟨.iface,1,16,[.nili]⟩),(21,⟨.int .i32,1,4,[.int .i32 0]⟩),tS 22 3,tS 23 30,(24,⟨.st [(0,3),(1,9),(2,23)],3,48,[.int .i64 0,.str [],.nils]⟩),(25,⟨.st [(0,3),(1,9),(2,23)],3,48,[.int .i64 0,.str [],.nils]⟩),tN 26,tN 27,tS 28 65,(29,⟨.st [(0,9),(1,28)],2,40,[.str [],.nils]⟩),(30,⟨.st [(0,9),(1,28)],2,40,[.str [],.nils]⟩),tP 31 71,tN 32,tS 33 25,tN 34,tS 35 131,tN 36,tN 37,tN 38,tN 39,tS 40 47,(41,⟨.int .i64,1,8,[.int .i64 0]⟩),tN 43,tN 44,tS 45 99,(46,⟨.st [(0,3),(1,45)],2,32,[.int .i64 0,.nils]⟩),(47,⟨.st [(0,3),(1,45)],2,32,[.int .i64 0,.nils]⟩),tN 48,tS 49 116,tS 50 67,(51,⟨.st [(0,47),(2,49),(3,50)],4,80,[.int .i64 0,.nils,.nils,.nils]⟩),(52,⟨.st [(0,47),(2,49),(3,50)],4,80,[.int .i64 0,.nils,.nils,.nils]⟩),(53,⟨.st [(0,52),(4,3)],5,88,[.int .i64 0,.nils,.nils,.nils,.int .i64 0]⟩),(54,⟨.st [(0,52),(4,3)],5,88,[.int .i64 0,.nils,.nils,.nils,.int .i64 0]⟩),tS 55 54,tN 57,tN 58,tN 60,tN 61,tN 62,tN 63,(64,⟨.st [(0,4),(1,9)],2,24,[.bool false,.str []]⟩),(65,⟨.st [(0,4),(1,9)],2,24,[.bool false,.str []]⟩),(66,⟨.st [(0,3),(1,3)],2,16,[.int .i64 0,.int .i64 0]⟩),(67,⟨.st [(0,3),(1,3)],2,16,[.int .i64 0,.int .i64 0]⟩),tN 68,tN 69,(70,⟨.st [(0,22),(1,3)],2,32,[.nils,.int .i64 0]⟩),(71,⟨.st [(0,22),(1,3)],2,32,[.nils,.int .i64 0]⟩),tN 73,tS 74 200,(75,⟨.st [(0,4),(1,74)],2,32,[.bool false,.nils]⟩),(76,⟨.st [(0,4),(1,74)],2,32,[.bool false,.nils]⟩),(77,⟨.st [(0,76),(2,76)],4,64,[.bool false,.nils,.bool false,.nils]⟩),(78,⟨.st [(0,76),(2,76)],4,64,[.bool false,.nils,.bool false,.nils]⟩),tN 79,tN 80,(82,⟨.map 3 45,1,8,[.nilm]⟩),tN 83,tN 84,tN 85,tN 86,tN 87,tN 89,tS 90 28,(91,⟨.st [(0,47),(2,50),(3,90),(4,3)],5,88,[.int .i64 0,.nils,.nils,.nils,.int .i64 0]⟩),(92,⟨.st [(0,47),(2,50),(3,90),(4,3)],5,88,[.int .i64 0,.nils,.nils,.nils,.int .i64 0]⟩),tN 94,tN 95,tN 96,tN 97,(98,⟨.st [(0,67),(2,67)],4,32,[.int .i64 0,.int .i64 0,.int .i64 0,.int .i64 0]⟩),(99,⟨.st [(0,67),(2,67)],4,32,[.int .i64 0,.int .i64 0,.int .i64 0,.int .i64 0]⟩),tS 100 22,tN 102,tN 103,(104,⟨.st [(0,3),(1,3),(2,3),(3,22)],4,48,[.int .i64 0,.int .i64 0,.int .i64 0,.nils]⟩),(105,⟨.st [(0,3),(1,3),(2,3),
 (3,22)],4,48,[.int .i64 0,.int .i64 0,.int .i64 0,.nils]⟩),tN 107,tS 108 50,tN 109,tN 110,tN 111,tN 112,tN 114,(115,⟨.st [(0,67),(2,3),(3,9)],4,40,[.int .i64 0,.int .i64 0,.int .i64 0,.str []]⟩),(116,⟨.st [(0,67),(2,3),(3,9)],4,40,[.int .i64 0,.int .i64 0,.int .i64 0,.str []]⟩),tN 117,tN 118,tN 119,tN 120,tN 121,tN 122,tS 123 9,tN 124,tN 126,tN 127,tN 128,tN 129,(130,⟨.st [(0,67),(2,67),(4,3),(5,3),(6,3),(7,3),(8,3),(9,3),(10,3)],11,88,List.replicate 11 (.int .i64 0)⟩),(131,⟨.st [(0,67),(2,67),(4,3),(5,3),(6,3),(7,3),(8,3),(9,3),(10,3)],11,88,List.replicate 11 (.int .i64 0)⟩),tN 133,tN 134,tN 137,(138,⟨.map 3 3,1,8,[.nilm]⟩),(140,⟨.map 3 4,1,8,[.nilm]⟩),tN 141,tN 143,(145,⟨.int .u64,1,8,[.int .u64 0]⟩),tN 148,tN 149,tN 151,tN 152,tN 153,tP 154 206,tN 158,(159,⟨.map 9 4,1,8,[.nilm]⟩),tN 160,tN 163,tN 164,tN 166,tS 171 173,tS 173 4,tN 175,tN 176,tN 178,(180,⟨.st [(0,3),(1,3),(2,9),(3,22)],4,56,[.int .i64 0,.int .i64 0,.str [],.nils]⟩),tS 182 180,(186,⟨.map 9 3,1,8,[.nilm]⟩),tN 187,tN 190,tN 191,tN 192,(193,⟨.int .i64,1,8,[.int .i64 0]⟩),(200,⟨.int .u32,1,4,[.int .u32 0]⟩),(202,⟨.int .u64,1,8,[.int .u64 0]⟩),tS 204 208,(206,⟨.st [(0,204)],1,24,[.nils]⟩),(208,⟨.st [(0,25),(3,3),(4,3),(5,3),(6,22),(7,22),(8,186)],9,128,[.int .i64 0,.str [],.nils,.int .i64 0,.int .i64 0,.int .i64 0,.nils,.nils,.nilm]⟩),tN 209,tN 210,tS 212 213,(213,⟨.map 9 22,1,8,[.nilm]⟩),tN 215,tN 216,tN 218,tP 222 100,tN 236,(240,⟨.int .u64,1,8,[.int .u64 0]⟩),tP 244 3,tN 247,tN 248,tP 249 208,tN 254,tN 256,tP 266 240,(270,⟨.arr 256 5,256,256,List.replicate 256 (.int .u8 0)⟩),(272,⟨.st [(0,5),(1,5)],2,2,[.int .u8 0,.int .u8 0]⟩),(273,⟨.arr 16 272,32,32,List.replicate 32 (.int .u8 0)⟩),(284,⟨.arr 24 5,24,24,List.replicate 24 (.int .u8 0)⟩),tS 286 5,tN 290,(292,⟨.arr 20 202,20,160,List.replicate 20 (.int .u64 0)⟩),(293,⟨.arr 65 5,65,65,List.replicate 65 (.int .u8 0)⟩),(295,⟨.arr 32 5,32,32,List.replicate 32 (.int .u8 0)⟩),(296,⟨.arr 64 5,64,64,List.replicate 64 (.int .u8 0)⟩),(299,⟨.st [(0,17),(1,17),(2,17),(3,9)],4,40,[.nilp,.nilp,.nilp,.str []]⟩),(300,⟨.arr 0 16,0,0,[]⟩),(302,⟨.st [(0,300)],0,0,[]⟩),(303,⟨.int .u8,1,1,[.int .u8 0]⟩),(304,⟨.int .u8,1,1,[.int .u8 0]⟩),tN 305,tP 306 5,(307,⟨.int .i32,1,4,[.int .i32 0]⟩),(308,⟨.int .i32,1,4,[.int .i32 0]⟩),(310,⟨.st [(0,12),(1,12),(2,200),(3,303),(4,5),(5,5),(6,304),(7,305),(8,306),(9,307),(10,308)],11,48,[.int .u64 0,.int .u64 0,.int .u32 0,.int .u8 0,.int .u8 0,.int .u8 0,.int .u8 0,.nilf,.nilp,.int .i32 0,.int .i32 0]⟩)]
set_option maxRecDepth 20000 in
theorem env:Env Tryz.prog T:=⟨table_all (by kernel_rfl),by kernel_rfl⟩
end Go.Sx.Sp
namespace Go.Proofs
open Go.Shelf
def Tryz.laysValid_ren:Go.Shelf.Ren:=⟨fun | 196=>179 | 259=>209 | n=>n,fun | 9=>9 | 4=>4 | 3=>3 | 5=>5 | 12=>12 | 119=>270 | 0=>0 | 46=>145 | 139=>273 | 138=>272 | 53=>202 | n=>n,fun | 3=>0 | 4=>1 | n=>n⟩
theorem Tryz.laysValid:Go.Proofs.Lays.n196 Tryz.prog Tryz.laysValid_ren:={
 mixed:=by kernel_rfl
 f196:=Tryz.func179.trans (congrArg some (by kernel_rfl))
 f259:=Tryz.func209.trans (congrArg some (by kernel_rfl))
 t0:=Tryz.underlying0
 a0:=Tryz.isAgg0
 z0:=Tryz.sizeOf0
 v0:=Tryz.zeroValue0
 t3:=Tryz.underlying3
 a3:=Tryz.isAgg3
 z3:=Tryz.sizeOf3
 v3:=Tryz.zeroValue3
 t4:=Tryz.underlying4
 a4:=Tryz.isAgg4
 z4:=Tryz.sizeOf4
 v4:=Tryz.zeroValue4
 t5:=Tryz.underlying5
 a5:=Tryz.isAgg5
 z5:=Tryz.sizeOf5
 v5:=Tryz.zeroValue5
 t9:=Tryz.underlying9
 a9:=Tryz.isAgg9
 z9:=Tryz.sizeOf9
 v9:=Tryz.zeroValue9
 t12:=Tryz.underlying12
 a12:=Tryz.isAgg12
 z12:=Tryz.sizeOf12
 v12:=Tryz.zeroValue12
 t46:=Tryz.underlying145
 a46:=Tryz.isAgg145
 z46:=Tryz.sizeOf145
 v46:=Tryz.zeroValue145
 t53:=Tryz.underlying202
 a53:=Tryz.isAgg202
 z53:=Tryz.sizeOf202
 v53:=Tryz.zeroValue202
 t119:=Tryz.underlying270
 a119:=Tryz.isAgg270
 z119:=Tryz.sizeOf270
 t138:=Tryz.underlying272
 a138:=Tryz.isAgg272
 z138:=Tryz.sizeOf272
 v138:=Tryz.zeroValue272
 t139:=Tryz.underlying273
 a139:=Tryz.isAgg273
 z139:=Tryz.sizeOf273
 v139:=Tryz.zeroValue273
 g3:=by kernel_rfl
 g4:=by kernel_rfl }
def Tryz.laysItoa_ren:Go.Shelf.Ren:=⟨fun | 171=>155 | 243=>192 | 246=>213 | 283=>222 | 284=>223 | 285=>224 | 286=>225 | 129=>132 | 317=>227 | 318=>228 | 319=>229 | 320=>230 | 337=>232 | 338=>233 | n=>n,fun | 3=>3 | 9=>9 | 2=>2 | 4=>4 | 171=>284 | 0=>0 | 53=>202 | 37=>286 | 5=>5 | 173=>287 | 212=>292 | 51=>200 | 20=>20 | 213=>293 | 46=>145 | 232=>295 | 233=>296 | n=>n,fun | 17=>2 | 18=>3 | 19=>4 | n=>n⟩
theorem Tryz.laysItoa:Go.Proofs.LaysM.n171 Tryz.prog Tryz.laysItoa_ren:={
 mixed:=by kernel_rfl
 f129:=Tryz.func132.trans (congrArg some (by kernel_rfl))
 f171:=Tryz.func155.trans (congrArg some (by kernel_rfl))
 f243:=Tryz.func192.trans (congrArg some (by kernel_rfl))
 f246:=Tryz.func213.trans (congrArg some (by kernel_rfl))
 f283:=Tryz.func222.trans (congrArg some (by kernel_rfl))
 f284:=Tryz.func223.trans (congrArg some (by kernel_rfl))
 f285:=Tryz.func224.trans (congrArg some (by kernel_rfl))
 f286:=Tryz.func225.trans (congrArg some (by kernel_rfl))
 f317:=Tryz.func227.trans (congrArg some (by kernel_rfl))
 f318:=Tryz.func228.trans (congrArg some (by kernel_rfl))
 f319:=Tryz.func229.trans (congrArg some (by kernel_rfl))
 f320:=Tryz.func230.trans (congrArg some (by kernel_rfl))
 f337:=Tryz.func232.trans (congrArg some (by kernel_rfl))
 f338:=Tryz.func233.trans (congrArg some (by kernel_rfl))
 t0:=Tryz.underlying0
 a0:=Tryz.isAgg0
 z0:=Tryz.sizeOf0
 v0:=Tryz.zeroValue0
 t2:=Tryz.underlying2
 a2:=Tryz.isAgg2
 z2:=Tryz.sizeOf2
 v2:=Tryz.zeroValue2
 t3:=Tryz.underlying3
 a3:=Tryz.isAgg3
 z3:=Tryz.sizeOf3
 v3:=Tryz.zeroValue3
 t4:=Tryz.underlying4
 a4:=Tryz.isAgg4
 z4:=Tryz.sizeOf4
 v4:=Tryz.zeroValue4
 t5:=Tryz.underlying5
 a5:=Tryz.isAgg5
 z5:=Tryz.sizeOf5
 v5:=Tryz.zeroValue5
 t9:=Tryz.underlying9
 a9:=Tryz.isAgg9
 z9:=Tryz.sizeOf9
 v9:=Tryz.zeroValue9
 t20:=Tryz.underlying20
 a20:=Tryz.isAgg20
 z20:=Tryz.sizeOf20
 v20:=Tryz.zeroValue20
 t37:=Tryz.underlying286
 a37:=Tryz.isAgg286
 z37:=Tryz.sizeOf286
 v37:=Tryz.zeroValue286
 t46:=Tryz.underlying145
 a46:=Tryz.isAgg145
 z46:=Tryz.sizeOf145
 v46:=Tryz.zeroValue145
 t51:=Tryz.underlying200
 a51:=Tryz.isAgg200
 z51:=Tryz.sizeOf200
 v51:=Tryz.zeroValue200
 t53:=Tryz.underlying202
 a53:=Tryz.isAgg202
 z53:=Tryz.sizeOf202
 v53:=Tryz.zeroValue202
 t171:=Tryz.underlying284
 a171:=Tryz.isAgg284
 z171:=Tryz.sizeOf284
 v171:=Tryz.zeroValue284
 t173:=Tryz.underlying287
 a173:=Tryz.isAgg287
 z173:=Tryz.sizeOf287
 v173:=Tryz.zeroValue287
 t212:=Tryz.underlying292
 a212:=Tryz.isAgg292
 z212:=Tryz.sizeOf292
 v212:=Tryz.zeroValue292
 t213:=Tryz.underlying293
 a213:=Tryz.isAgg293
 z213:=Tryz.sizeOf293
 t232:=Tryz.underlying295
 a232:=Tryz.isAgg295
 z232:=Tryz.sizeOf295
 v232:=Tryz.zeroValue295
 t233:=Tryz.underlying296
 a233:=Tryz.isAgg296
 z233:=Tryz.sizeOf296
 v233:=Tryz.zeroValue296
 g17:=by kernel_rfl
 g18:=by kernel_rfl
 g19:=by kernel_rfl
 i0:=by kernel_rfl
 i2:=by kernel_rfl
 i3:=by kernel_rfl
 i4:=by kernel_rfl
 i5:=by kernel_rfl
 i9:=by kernel_rfl
 i20:=by kernel_rfl
 i37:=by kernel_rfl
 i46:=by kernel_rfl
 i51:=by kernel_rfl
 i53:=by kernel_rfl
 i171:=by kernel_rfl
 i173:=by kernel_rfl
 i212:=by kernel_rfl
 i232:=by kernel_rfl
 i233:=by kernel_rfl
 m17:=by kernel_rfl
 m18:=by kernel_rfl
 m19:=by kernel_rfl }
end Go.Proofs
namespace Go.Sx.Sp
open Go Go.Sx Go.Proofs Go.RowKit Go.Sort
def tabsOK (w:World):Prop:=Lib.Utf8Tabs 0 1 w∧Lib.TabIs Tryz.prog w "internal/strconv.uint64pow10" .u64 Lib.pow10Tab
instance:Glob:=⟨tabsOK,[0,1,2],False,fun w w' hs h=>by
 have h0:=hs 0 (by simp)
 have h1:=hs 1 (by simp)
 have h3:=hs 2 (by simp)
 refine ⟨⟨fun c hc=>?_,fun i hi=>?_⟩,?_⟩
 ·rw [cell?_of_heap h0];exact h.1.1 c hc
 ·rw [cell?_of_heap h1,cell?_of_heap h1];exact h.1.2 i hi
 ·have hg:Tryz.prog.globalNamed "internal/strconv.uint64pow10"=some 2:=by kernel_rfl
  have:=h.2
  simp only [Lib.TabIs,World.var?,hg,Option.bind_some] at this ⊢
  rw [h3];exact this⟩
set_option maxRecDepth 1000000 in
theorem utf8_spec (s:List UInt8):Spec Tryz.prog 179 [.str s] [] (.bool (Lib.validD s)) []:=by
 refine Spec.ofCalls (fun cargs w=>enters_of Tryz.func179 (by kernel_rfl) rfl cargs w) fun w F m cargs hl ha hg=>?_
 match cargs,hl with
 | [c],_ =>
  obtain ⟨rfl,hs⟩:=(ha 0 (.str s) c rfl rfl).str_inv;have hsz:(⟨s.toArray⟩:ByteArray).size≤9223372036854775807:=by
   have:maxLen=9223372036854775807:=by unfold maxLen;rfl
   simpa [ByteArray.size,this] using hs
  refine (Any.utf8_ValidString Tryz.laysValid ⟨s.toArray⟩ w hsz hg.1).mono fun e w' ⟨he,hb⟩=>?_;exact ⟨_,he,fun w' F m=>.bool _,hb,fun h=>h.elim⟩
theorem below_grown (w:World) (k:Nat) (os:Array Obj):Below w.heap.size w (grow (w.drewN k) os):=
 ⟨rfl,rfl,rfl,by show w.heap.size≤(w.heap++os).size;rw [Array.size_append];omega,fun b hb=>by show (w.heap++os)[b]?=w.heap[b]?;rw [Array.getElem?_append_left hb]⟩
set_option maxRecDepth 1000000 in
theorem itoa_spec (n:Int) (h0:-9223372036854775808≤n) (h1:n≤9223372036854775807) (hn:(Lib.itoa n).length≤100):Spec Tryz.prog 155 [.int .i64 n] [] (.str (Lib.itoa n)) []:=by
 refine Spec.ofCalls (fun cargs w=>enters_of Tryz.func155 (by kernel_rfl) rfl cargs w) fun w F m cargs hl ha hg=>?_
 match cargs,hl with
 | [c],_ =>
  have:=(ha 0 (.int .i64 n) c rfl rfl).int_inv;subst this;refine (Any.strconv_Itoa Tryz.laysItoa n h0 h1 w hg.2).mono fun e w' ⟨he,k,os,hb⟩=>?_;subst hb;exact ⟨_,he,fun w' F m=>.str _ (Nat.le_trans hn (by unfold maxLen;omega)),below_grown w k os,fun h=>h.elim⟩
end Go.Sx.Sp
namespace Go.Proofs
open Go.Shelf
def Tryz.sortPath_ren:Go.Shelf.Ren:=⟨fun | 6=>34 | 15=>77 | 14=>76 | 28=>131 | 29=>132 | 20=>123 | 21=>124 | 22=>125 | 23=>126 | 24=>127 | 25=>128 | 26=>129 | 27=>130 | 46=>174 | 47=>175 | 48=>176 | 49=>177 | 50=>178 | 57=>208 | n=>n,fun | 22=>40 | 24=>47 | 25=>86 | 3=>3 | 39=>145 | 0=>0 | 53=>200 | 55=>202 | 4=>4 | 46=>194 | 45=>193 | 50=>142 | 5=>5 | 9=>9 | 66=>240 | 70=>244 | 76=>266 | 77=>267 | n=>n,fun | n=>n⟩
theorem Tryz.sortPath:Go.Proofs.SlLaysF0.n6 Tryz.prog Tryz.sortPath_ren:={
 mixed:=by kernel_rfl
 f6:=⟨Tryz.f34.name,by decide,Tryz.func34.trans (congrArg some (by kernel_rfl))⟩
 f14:=⟨Tryz.f76.name,by decide,Tryz.func76.trans (congrArg some (by kernel_rfl))⟩
 f15:=Tryz.func77.trans (congrArg some (by kernel_rfl))
 f20:=⟨Tryz.f123.name,by decide,Tryz.func123.trans (congrArg some (by kernel_rfl))⟩
 f21:=⟨Tryz.f124.name,by decide,Tryz.func124.trans (congrArg some (by kernel_rfl))⟩
 f22:=⟨Tryz.f125.name,by decide,Tryz.func125.trans (congrArg some (by kernel_rfl))⟩
 f23:=⟨Tryz.f126.name,by decide,Tryz.func126.trans (congrArg some (by kernel_rfl))⟩
 f24:=⟨Tryz.f127.name,by decide,Tryz.func127.trans (congrArg some (by kernel_rfl))⟩
 f25:=⟨Tryz.f128.name,by decide,Tryz.func128.trans (congrArg some (by kernel_rfl))⟩
 f26:=⟨Tryz.f129.name,by decide,Tryz.func129.trans (congrArg some (by kernel_rfl))⟩
 f27:=⟨Tryz.f130.name,by decide,Tryz.func130.trans (congrArg some (by kernel_rfl))⟩
 f28:=Tryz.func131.trans (congrArg some (by kernel_rfl))
 f29:=Tryz.func132.trans (congrArg some (by kernel_rfl))
 f46:=⟨Tryz.f174.name,by decide,Tryz.func174.trans (congrArg some (by kernel_rfl))⟩
 f47:=Tryz.func175.trans (congrArg some (by kernel_rfl))
 f48:=Tryz.func176.trans (congrArg some (by kernel_rfl))
 f49:=⟨Tryz.f177.name,by decide,Tryz.func177.trans (congrArg some (by kernel_rfl))⟩
 f50:=⟨Tryz.f178.name,by decide,Tryz.func178.trans (congrArg some (by kernel_rfl))⟩
 f57:=⟨Tryz.f208.name,by decide,Tryz.func208.trans (congrArg some (by kernel_rfl))⟩
 t0:=Tryz.underlying0
 a0:=Tryz.isAgg0
 z0:=Tryz.sizeOf0
 v0:=Tryz.zeroValue0
 t3:=Tryz.underlying3
 a3:=Tryz.isAgg3
 z3:=Tryz.sizeOf3
 v3:=Tryz.zeroValue3
 t4:=Tryz.underlying4
 a4:=Tryz.isAgg4
 z4:=Tryz.sizeOf4
 v4:=Tryz.zeroValue4
 t5:=Tryz.underlying5
 a5:=Tryz.isAgg5
 z5:=Tryz.sizeOf5
 v5:=Tryz.zeroValue5
 t9:=Tryz.underlying9
 a9:=Tryz.isAgg9
 z9:=Tryz.sizeOf9
 v9:=Tryz.zeroValue9
 t22:=Tryz.underlying40
 a22:=Tryz.isAgg40
 z22:=Tryz.sizeOf40
 v22:=Tryz.zeroValue40
 t25:=Tryz.underlying86
 a25:=Tryz.isAgg86
 z25:=Tryz.sizeOf86
 v25:=Tryz.zeroValue86
 t39:=Tryz.underlying145
 a39:=Tryz.isAgg145
 z39:=Tryz.sizeOf145
 v39:=Tryz.zeroValue145
 t45:=Tryz.underlying193
 a45:=Tryz.isAgg193
 z45:=Tryz.sizeOf193
 v45:=Tryz.zeroValue193
 t46:=Tryz.underlying194
 a46:=Tryz.isAgg194
 z46:=Tryz.sizeOf194
 v46:=Tryz.zeroValue194
 t50:=Tryz.underlying142
 a50:=Tryz.isAgg142
 z50:=Tryz.sizeOf142
 v50:=Tryz.zeroValue142
 t53:=Tryz.underlying200
 a53:=Tryz.isAgg200
 z53:=Tryz.sizeOf200
 v53:=Tryz.zeroValue200
 t55:=Tryz.underlying202
 a55:=Tryz.isAgg202
 z55:=Tryz.sizeOf202
 v55:=Tryz.zeroValue202
 t66:=Tryz.underlying240
 a66:=Tryz.isAgg240
 z66:=Tryz.sizeOf240
 v66:=Tryz.zeroValue240
 t70:=Tryz.underlying244
 a70:=Tryz.isAgg244
 z70:=Tryz.sizeOf244
 v70:=Tryz.zeroValue244
 t76:=Tryz.underlying266
 a76:=Tryz.isAgg266
 z76:=Tryz.sizeOf266
 v76:=Tryz.zeroValue266
 t77:=Tryz.underlying267
 a77:=Tryz.isAgg267
 z77:=Tryz.sizeOf267
 v77:=Tryz.zeroValue267 }
def Tryz.sortStep_ren:Go.Shelf.Ren:=⟨fun | 6=>72 | 15=>77 | 14=>122 | 28=>131 | 29=>132 | 20=>166 | 21=>167 | 22=>168 | 23=>169 | 24=>170 | 25=>171 | 26=>172 | 27=>173 | 46=>205 | 47=>175 | 48=>176 | 49=>206 | 50=>207 | 57=>220 | n=>n,fun | 22=>45 | 24=>99 | 25=>137 | 3=>3 | 39=>145 | 0=>0 | 53=>200 | 55=>202 | 4=>4 | 46=>194 | 45=>193 | 50=>142 | 5=>5 | 9=>9 | 66=>240 | 70=>244 | 76=>266 | 77=>267 | n=>n,fun | n=>n⟩
theorem Tryz.sortStep:Go.Proofs.SlLaysF0.n6 Tryz.prog Tryz.sortStep_ren:={
 mixed:=by kernel_rfl
 f6:=⟨Tryz.f72.name,by decide,Tryz.func72.trans (congrArg some (by kernel_rfl))⟩
 f14:=⟨Tryz.f122.name,by decide,Tryz.func122.trans (congrArg some (by kernel_rfl))⟩
 f15:=Tryz.func77.trans (congrArg some (by kernel_rfl))
 f20:=⟨Tryz.f166.name,by decide,Tryz.func166.trans (congrArg some (by kernel_rfl))⟩
 f21:=⟨Tryz.f167.name,by decide,Tryz.func167.trans (congrArg some (by kernel_rfl))⟩
 f22:=⟨Tryz.f168.name,by decide,Tryz.func168.trans (congrArg some (by kernel_rfl))⟩
 f23:=⟨Tryz.f169.name,by decide,Tryz.func169.trans (congrArg some (by kernel_rfl))⟩
 f24:=⟨Tryz.f170.name,by decide,Tryz.func170.trans (congrArg some (by kernel_rfl))⟩
 f25:=⟨Tryz.f171.name,by decide,Tryz.func171.trans (congrArg some (by kernel_rfl))⟩
 f26:=⟨Tryz.f172.name,by decide,Tryz.func172.trans (congrArg some (by kernel_rfl))⟩
 f27:=⟨Tryz.f173.name,by decide,Tryz.func173.trans (congrArg some (by kernel_rfl))⟩
 f28:=Tryz.func131.trans (congrArg some (by kernel_rfl))
 f29:=Tryz.func132.trans (congrArg some (by kernel_rfl))
 f46:=⟨Tryz.f205.name,by decide,Tryz.func205.trans (congrArg some (by kernel_rfl))⟩
 f47:=Tryz.func175.trans (congrArg some (by kernel_rfl))
 f48:=Tryz.func176.trans (congrArg some (by kernel_rfl))
 f49:=⟨Tryz.f206.name,by decide,Tryz.func206.trans (congrArg some (by kernel_rfl))⟩
 f50:=⟨Tryz.f207.name,by decide,Tryz.func207.trans (congrArg some (by kernel_rfl))⟩
 f57:=⟨Tryz.f220.name,by decide,Tryz.func220.trans (congrArg some (by kernel_rfl))⟩
 t0:=Tryz.underlying0
 a0:=Tryz.isAgg0
 z0:=Tryz.sizeOf0
 v0:=Tryz.zeroValue0
 t3:=Tryz.underlying3
 a3:=Tryz.isAgg3
 z3:=Tryz.sizeOf3
 v3:=Tryz.zeroValue3
 t4:=Tryz.underlying4
 a4:=Tryz.isAgg4
 z4:=Tryz.sizeOf4
 v4:=Tryz.zeroValue4
 t5:=Tryz.underlying5
 a5:=Tryz.isAgg5
 z5:=Tryz.sizeOf5
 v5:=Tryz.zeroValue5
 t9:=Tryz.underlying9
 a9:=Tryz.isAgg9
 z9:=Tryz.sizeOf9
 v9:=Tryz.zeroValue9
 t22:=Tryz.underlying45
 a22:=Tryz.isAgg45
 z22:=Tryz.sizeOf45
 v22:=Tryz.zeroValue45
 t25:=Tryz.underlying137
 a25:=Tryz.isAgg137
 z25:=Tryz.sizeOf137
 v25:=Tryz.zeroValue137
 t39:=Tryz.underlying145
 a39:=Tryz.isAgg145
 z39:=Tryz.sizeOf145
 v39:=Tryz.zeroValue145
 t45:=Tryz.underlying193
 a45:=Tryz.isAgg193
 z45:=Tryz.sizeOf193
 v45:=Tryz.zeroValue193
 t46:=Tryz.underlying194
 a46:=Tryz.isAgg194
 z46:=Tryz.sizeOf194
 v46:=Tryz.zeroValue194
 t50:=Tryz.underlying142
 a50:=Tryz.isAgg142
 z50:=Tryz.sizeOf142
 v50:=Tryz.zeroValue142
 t53:=Tryz.underlying200
 a53:=Tryz.isAgg200
 z53:=Tryz.sizeOf200
 v53:=Tryz.zeroValue200
 t55:=Tryz.underlying202
 a55:=Tryz.isAgg202
 z55:=Tryz.sizeOf202
 v55:=Tryz.zeroValue202
 t66:=Tryz.underlying240
 a66:=Tryz.isAgg240
 z66:=Tryz.sizeOf240
 v66:=Tryz.zeroValue240
 t70:=Tryz.underlying244
 a70:=Tryz.isAgg244
 z70:=Tryz.sizeOf244
 v70:=Tryz.zeroValue244
 t76:=Tryz.underlying266
 a76:=Tryz.isAgg266
 z76:=Tryz.sizeOf266
 v76:=Tryz.zeroValue266
 t77:=Tryz.underlying267
 a77:=Tryz.isAgg267
 z77:=Tryz.sizeOf267
 v77:=Tryz.zeroValue267 }
def Tryz.sortFound_ren:Go.Shelf.Ren:=⟨fun | 6=>101 | 15=>77 | 14=>149 | 28=>131 | 29=>132 | 20=>184 | 21=>185 | 22=>186 | 23=>187 | 24=>188 | 25=>189 | 26=>190 | 27=>191 | 46=>210 | 47=>175 | 48=>176 | 49=>211 | 50=>212 | 57=>221 | n=>n,fun | 22=>55 | 24=>54 | 25=>62 | 3=>3 | 39=>145 | 0=>0 | 53=>200 | 55=>202 | 4=>4 | 46=>194 | 45=>193 | 50=>142 | 5=>5 | 9=>9 | 66=>240 | 70=>244 | 76=>266 | 77=>267 | n=>n,fun | n=>n⟩
theorem Tryz.sortFound:Go.Proofs.SlLaysF0.n6 Tryz.prog Tryz.sortFound_ren:={
 mixed:=by kernel_rfl
 f6:=⟨Tryz.f101.name,by decide,Tryz.func101.trans (congrArg some (by kernel_rfl))⟩
 f14:=⟨Tryz.f149.name,by decide,Tryz.func149.trans (congrArg some (by kernel_rfl))⟩
 f15:=Tryz.func77.trans (congrArg some (by kernel_rfl))
 f20:=⟨Tryz.f184.name,by decide,Tryz.func184.trans (congrArg some (by kernel_rfl))⟩
 f21:=⟨Tryz.f185.name,by decide,Tryz.func185.trans (congrArg some (by kernel_rfl))⟩
 f22:=⟨Tryz.f186.name,by decide,Tryz.func186.trans (congrArg some (by kernel_rfl))⟩
 f23:=⟨Tryz.f187.name,by decide,Tryz.func187.trans (congrArg some (by kernel_rfl))⟩
 f24:=⟨Tryz.f188.name,by decide,Tryz.func188.trans (congrArg some (by kernel_rfl))⟩
 f25:=⟨Tryz.f189.name,by decide,Tryz.func189.trans (congrArg some (by kernel_rfl))⟩
 f26:=⟨Tryz.f190.name,by decide,Tryz.func190.trans (congrArg some (by kernel_rfl))⟩
 f27:=⟨Tryz.f191.name,by decide,Tryz.func191.trans (congrArg some (by kernel_rfl))⟩
 f28:=Tryz.func131.trans (congrArg some (by kernel_rfl))
 f29:=Tryz.func132.trans (congrArg some (by kernel_rfl))
 f46:=⟨Tryz.f210.name,by decide,Tryz.func210.trans (congrArg some (by kernel_rfl))⟩
 f47:=Tryz.func175.trans (congrArg some (by kernel_rfl))
 f48:=Tryz.func176.trans (congrArg some (by kernel_rfl))
 f49:=⟨Tryz.f211.name,by decide,Tryz.func211.trans (congrArg some (by kernel_rfl))⟩
 f50:=⟨Tryz.f212.name,by decide,Tryz.func212.trans (congrArg some (by kernel_rfl))⟩
 f57:=⟨Tryz.f221.name,by decide,Tryz.func221.trans (congrArg some (by kernel_rfl))⟩
 t0:=Tryz.underlying0
 a0:=Tryz.isAgg0
 z0:=Tryz.sizeOf0
 v0:=Tryz.zeroValue0
 t3:=Tryz.underlying3
 a3:=Tryz.isAgg3
 z3:=Tryz.sizeOf3
 v3:=Tryz.zeroValue3
 t4:=Tryz.underlying4
 a4:=Tryz.isAgg4
 z4:=Tryz.sizeOf4
 v4:=Tryz.zeroValue4
 t5:=Tryz.underlying5
 a5:=Tryz.isAgg5
 z5:=Tryz.sizeOf5
 v5:=Tryz.zeroValue5
 t9:=Tryz.underlying9
 a9:=Tryz.isAgg9
 z9:=Tryz.sizeOf9
 v9:=Tryz.zeroValue9
 t22:=Tryz.underlying55
 a22:=Tryz.isAgg55
 z22:=Tryz.sizeOf55
 v22:=Tryz.zeroValue55
 t25:=Tryz.underlying62
 a25:=Tryz.isAgg62
 z25:=Tryz.sizeOf62
 v25:=Tryz.zeroValue62
 t39:=Tryz.underlying145
 a39:=Tryz.isAgg145
 z39:=Tryz.sizeOf145
 v39:=Tryz.zeroValue145
 t45:=Tryz.underlying193
 a45:=Tryz.isAgg193
 z45:=Tryz.sizeOf193
 v45:=Tryz.zeroValue193
 t46:=Tryz.underlying194
 a46:=Tryz.isAgg194
 z46:=Tryz.sizeOf194
 v46:=Tryz.zeroValue194
 t50:=Tryz.underlying142
 a50:=Tryz.isAgg142
 z50:=Tryz.sizeOf142
 v50:=Tryz.zeroValue142
 t53:=Tryz.underlying200
 a53:=Tryz.isAgg200
 z53:=Tryz.sizeOf200
 v53:=Tryz.zeroValue200
 t55:=Tryz.underlying202
 a55:=Tryz.isAgg202
 z55:=Tryz.sizeOf202
 v55:=Tryz.zeroValue202
 t66:=Tryz.underlying240
 a66:=Tryz.isAgg240
 z66:=Tryz.sizeOf240
 v66:=Tryz.zeroValue240
 t70:=Tryz.underlying244
 a70:=Tryz.isAgg244
 z70:=Tryz.sizeOf244
 v70:=Tryz.zeroValue244
 t76:=Tryz.underlying266
 a76:=Tryz.isAgg266
 z76:=Tryz.sizeOf266
 v76:=Tryz.zeroValue266
 t77:=Tryz.underlying267
 a77:=Tryz.isAgg267
 z77:=Tryz.sizeOf267
 v77:=Tryz.zeroValue267 }
end Go.Proofs
