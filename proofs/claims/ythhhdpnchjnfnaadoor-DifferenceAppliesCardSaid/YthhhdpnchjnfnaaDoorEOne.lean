/- Orders by a text. -/
import Derived.Test.YthhhdpnchjnfnaaDoorQTwo
import Derived.Test.YthhhdpnchjnfnaaDoorSpOne
import Derived.Test.YthhhdpnchjnfnaaDoorSxSix
import Derived.Test.YthhhdpnchjnfnaaDoorSxFour
set_option linter.unusedVariables false
set_option linter.unusedSimpArgs false
namespace Go.Sx.Sp
open Go Go.Sx Go.Proofs Go.RowKit Go.Shelf
attribute [local irreducible] GoodW
attribute [local instance] GQ
set_option maxRecDepth 1000000 in
theorem compare_spec (a b:Str):Spec Tryd.prog 63 [.str a,.str b] [] (.int .i64 (Lib.compareBytes a b)) []:=by
 refine Spec.ofCalls (fun cargs w=>enters_of Tryd.func63 (by kernel_rfl) rfl cargs w) fun w F m cargs hl ha hg=>?_
 match cargs,hl with
 | [c,d],_ =>
  obtain ⟨rfl,_⟩:=(ha 0 (.str a) c rfl rfl).str_inv
  obtain ⟨rfl,_⟩:=(ha 1 (.str b) d rfl rfl).str_inv
  refine (Any.strings_Compare Tryd.laysCompare ⟨a.toArray⟩ ⟨b.toArray⟩ w).mono fun e w' ⟨he,hb⟩=>?_
  subst hb
  exact ⟨_,he,fun w' F m=>.int _ _,⟨rfl,rfl,rfl,Nat.le_refl _,fun _ _=>rfl⟩,fun _=>Nat.le_refl _⟩
set_option maxHeartbeats 1000000 in
theorem texts_spec (x y:Cell):Spec Tryd.prog 50 [.agg x.row,.agg y.row] [] (.int .i64 (Lib.compareBytes x.text y.text)) []:=by
 have sp:=compare_spec x.text y.text
 refine gEn env Tryd.func50 fun Γ hN hK hML=>?_
 (refine gGo ?_;intros)
 (refine gPC (sp) ?_;conv=>whnf)
 (refine gGr ?_;intros)
 exact ret0 rfl rfl rfl
def keyAt (k:Nat) (r:List Cell):Str:=(r.getD k ⟨false,[]⟩).text
set_option maxHeartbeats 1000000 in
theorem byCol_spec (k:Nat) (x y:List Cell) (hx:k<x.length) (hy:k<y.length):Spec Tryd.prog 52 [.sl (cellRows x) false,.sl (cellRows y) false,.ro [.int .i64 k] 0] [] (.int .i64 (Lib.compareBytes (keyAt k x) (keyAt k y))) []:=by
 have h1:keyAt k x=x[k].text:=by simp [keyAt,hx]
 have h2:keyAt k y=y[k].text:=by simp [keyAt,hy]
 rw [h1,h2]
 have gx:=cellRows_get hx
 have gy:=cellRows_get hy
 generalize x[k]=a at *
 generalize y[k]=b at *
 have sp:=texts_spec a b
 refine gEn env Tryd.func52 fun Γ hN hK hML=>?_
 (refine gGo ?_;intros)
 refine rowAt_of (by simpa using gx) ?_
 conv=>whnf
 (refine gGo ?_;intros)
 refine rowAt_of (by simpa using gy) ?_
 conv=>whnf
 (refine gGo ?_;intros)
 (refine gPC (sp) ?_;conv=>whnf)
 (refine gGr ?_;intros)
 exact ret0 rfl rfl rfl
end Go.Sx.Sp
