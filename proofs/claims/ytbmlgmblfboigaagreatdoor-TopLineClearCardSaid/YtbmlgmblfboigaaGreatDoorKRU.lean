/- Lemmas for the statement. -/
import Derived.Test.YtbmlgmblfboigaaGreatDoorKRZ
import Derived.Test.YtbmlgmblfboigaaGreatDoorM15
set_option maxRecDepth 100000
set_option maxHeartbeats 1000000
namespace Go.Proofs.YtbmlgmblfboigaaGreatDoor
open Go Go.ChangeShapes Go.WideShapes Go.ChangeAt Go.RowKit Go.Joins Go.Deep
set_option linter.unusedSimpArgs false
set_option linter.unusedVariables false
theorem WB:Tryz.prog.cellsOf 54=4:=by kernel_rfl
theorem WC:Tryz.prog.cellsOf 48=2:=by kernel_rfl
theorem KH{H:Type}{enc:TypeId×Value->H}{W:World}{fuel:Nat}{c0:Value}{y:DataW H×List MemPlace}(h:DataW.trod enc Tryz.prog W 0 (λ_=>true) true fuel 45 [c0]=some y):
 ∃ xs:List yt,R0 (λ_=>False) W (.row 4 (xs.map svE)) c0:=
 sS svE (λ_=>rfl) ah Tryz.underlying45 WB (λfuel cs x hlen hx=>by
  obtain⟨u0,u1,u2,u3,rfl⟩:=list4 hlen;obtain⟨y0,y1,y2,n,_,_,h0,h1,h2⟩:=trod_struct3 Tryz.underlying54 hx;simp [px,WC]at h0 h1 h2;obtain⟨z0,e0,_⟩:=DataW.trod_int Tryz.underlying3 h0;obtain⟨z3,e3,_⟩:=DataW.trod_int Tryz.underlying3 h2;obtain⟨w0,w1,n',_,_,g0,g1⟩:=trod_struct2 Tryz.underlying48 h1;simp [px]at g0 g1;obtain⟨z1,e1,_⟩:=DataW.trod_int Tryz.underlying3 g0;obtain⟨z2,e2,_⟩:=DataW.trod_int Tryz.underlying3 g1;simp at e0 e1 e2 e3;subst e0 e1 e2 e3;refine⟨⟨z0,z1,z2,z3⟩,λj av v h1 h2=>?_⟩
  match j,h1,h2 with
  | 0,h1,h2=>cases h1;cases h2;exact .v _
  | 1,h1,h2=>cases h1;cases h2;exact .v _
  | 2,h1,h2=>cases h1;cases h2;exact .v _
  | 3,h1,h2=>cases h1;cases h2;exact .v _) h
theorem Lm{H:Type}{enc:TypeId×Value->H}{W:World}{base:Nat}{v:Value}{d:DataW H}{p:List MemPlace}(hv:Value.okWide Tryz.prog W .any base 45 v)
 (h:DataW.Trod enc Tryz.prog W 0 (λ_=>true) true 45 v d p):∃ xs:List yt,R0 (λ_=>False) W (.row 4 (xs.map svE)) v:=by
 obtain⟨a,n,c,rfl⟩:=okWide_slice Tryz.underlying45 hv;obtain⟨fuel,hf⟩:=h;exact KH hf
end Go.Proofs.YtbmlgmblfboigaaGreatDoor
