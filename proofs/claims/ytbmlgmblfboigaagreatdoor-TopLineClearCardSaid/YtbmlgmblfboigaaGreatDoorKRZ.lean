/- Lemmas for the statement. -/
import Derived.Test.YtbmlgmblfboigaaGreatDoorKRY
namespace Go.Proofs.YtbmlgmblfboigaaGreatDoor
open Go Go.ChangeShapes Go.WideShapes Go.ChangeAt Go.RowKit Go.Joins Go.Deep
set_option linter.unusedSimpArgs false
set_option linter.unusedVariables false
theorem WQ:Tryz.prog.cellsOf 44=3:=by kernel_rfl
set_option maxRecDepth 100000 in
set_option maxHeartbeats 1000000 in
theorem K7{H:Type}{enc:TypeId×Value->H}{W:World}{base:Nat}{v:Value}{d:DataW H}{p:List MemPlace}(hv:Value.okWide Tryz.prog W .any base 44 v)
 (h:DataW.Trod enc Tryz.prog W 0 (λ_=>true) true 44 v d p):∃ b d e:Int,R0 (λ_=>False) W (.agg [mA b,mA d,mA e]) v:=by
 obtain⟨cs,rfl,hsz⟩:=okWide_struct Tryz.underlying44 hv;rw [WQ]at hsz;obtain⟨c0,c1,c2,rfl⟩:∃ c0 c1 c2,cs= #[c0,c1,c2]:=by
  obtain⟨a,b,c,e⟩:=JO (l:=cs.toList) (by simpa using hsz);exact⟨a,b,c,by rw [<- Array.toArray_toList (xs:=cs),e]⟩
 obtain⟨fuel,hf⟩:=h;obtain⟨y0,y1,y2,n,hx,_,h0,h1,h2⟩:=trod_struct3 Tryz.underlying44 hf;simp [Value.cells,px]at h0 h1 h2;obtain⟨z0,e0,_⟩:=DataW.trod_int Tryz.underlying3 h0;obtain⟨z1,e1,_⟩:=DataW.trod_int Tryz.underlying3 h1;obtain⟨z2,e2,_⟩:=DataW.trod_int Tryz.underlying3 h2;simp at e0 e1 e2;subst e0 e1 e2;refine⟨z0,z1,z2,I4 (xs:= [_,_,_]) rfl λi a x ha hx=>?_⟩
 match i,ha,hx with
 | 0,ha,hx=>cases ha;cases hx;exact .v _
 | 1,ha,hx=>cases ha;cases hx;exact .v _
 | 2,ha,hx=>cases ha;cases hx;exact .v _
end Go.Proofs.YtbmlgmblfboigaaGreatDoor
