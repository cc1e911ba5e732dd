/- Lemmas for the statement. -/
import Derived.Test.YtbmlgmblfboigaaGreatDoorA9
import Derived.Laws.IdiomStrings
namespace Go.Proofs.YtbmlgmblfboigaaGreatDoor
open Go Go.RowKit
set_option linter.unusedVariables false
set_option linter.unusedSimpArgs false
section
variable {P:Program} {N:Nat} {Q:AQ} {e:Nat->AV} {mem:List Ob} {d:Option Tmp} {ty t t2:TypeId} {pos:String} {af:Array Edge} {g:Option (Nat×Bool)} {x y z:Operand}
theorem vI{pb:Nat->Prop}{w0:Bs}{w:World}{θ:List Value}(hs:bX pb w0 w θ mem){b:Nat}(hb:w.heap.size<=b):¬ aM pb θ mem b:=by
 rintro(hq|⟨j,o,v,q1,q2,q3,q4⟩)
 ·have:=(hs.low _ hq).1;have:=hs.ext.size;omega
 ·have:=((hs.ob j o v q1 q3).lt q2 q4).2;omega
theorem QB{s:ByteArray}{src dst eT:TypeId}(h1:P.underlying src=some .string)(h2:P.underlying dst=some (.slice eT))(h3:P.underlying eT=some (.int .u8))(hx:ag e x= .v (.string s)):bm P ⟨d,.convert src dst x,ty,pos,af,g⟩ e mem (.row 1 (s.data.toList.map bE)):=by
 intro pb w0 θ w ev hs h;have h4:=h x (by simp [Op.operands]);rw [hx]at h4;rw [vP h4.val,Sem.run_bind,run_bytes_of_string w src dst eT s h1 h2 h3];have hext:Ext w (w.drew.alloc (.cells (bytesRow s (grownCap w s.size 0 eT)) eT ((bytesRow s (grownCap w s.size 0 eT)).size,(bytesRow s (grownCap w s.size 0 eT)).size +1))):=(Ext.refl w).drew.alloc _;have hsz:s.data.toList.length=s.size:=rfl;have hfl:∀ (l:List UInt8),(l.map bE).flatten =l.map (λb=>AV.v (.int .u8 b.toNat)):=λl=>by
  induction l with
  | nil=>rfl
  | cons a l ih=>simp [bE,ih]
 refine⟨.ro ?_,hext⟩
 by_cases h0:s.data.toList= []
 ·rw [h0];have:s.size=0:=by rw [<- hsz,h0];rfl
  rw [this];exact .nil _ _ _
 ·have hl:s.size=(s.data.toList.map bE).length :=by rw [TV];exact hsz.symm
  rw [hl];refine .row 1 _ w.heap.size 0 _ (λi=>.int .u8 ((s.data.toList.getD i 0).toNat)) (by simpa using h0) (by rw [<- hl];exact grownCap_ge w s.size 0 eT) (λl hl=>by obtain⟨q,_,rfl⟩:=TW.1 hl;rfl) (by simp) (vI hs (Tf _)) (λi a ha=>?_) (λi a ha=>?_)
  ·rw [hfl,Tm]at ha;have hi:i<s.data.toList.length:=by
    cases hq:s.data.toList[i]? with
    | none=>rw [hq]at ha;cases ha
    | some q=>exact(S9.1 hq).1
   have hc:=cell_of_row (w.drew.alloc (.cells (bytesRow s (grownCap w s.size 0 eT)) eT ((bytesRow s (grownCap w s.size 0 eT)).size,(bytesRow s (grownCap w s.size 0 eT)).size +1))) w.heap.size (0+i) (bytesRow s (grownCap w s.size 0 eT)) eT _ (heap_alloc_new w.drew _);rw [<- hl,hc,Tv];have hi':i<s.data.size:=by simpa using hi
   have hi2:i<s.size:=hi;simp [bytesRow,Array.getElem?_append,hi2,Ta]
  ·rw [hfl,Tm]at ha;cases hq:s.data.toList[i]? with
   | none=>rw [hq]at ha;cases ha
   | some q=>
    rw [hq]at ha;simp at ha;subst ha;have:s.data.toList.getD i 0=q:=by rw [Ta,hq];rfl
    rw [this];exact .v _
theorem iQ{f:FuncId}{as:Array Operand}{ts:Array TypeId}{args:List AV}{r:AV}(hx:ag e x= .v (.func (.func f) #[] #[]))(hargs:cT e as.toList=args)(hro:cm.roL args=true)(hc:bF P f args (λq=>q=r))(dV:∀ args w,(callFunc f args).run P w= .ok (.enter f args) w):
 bm P ⟨d,.call ⟨.value x,as,ts⟩,ty,pos,af,g⟩ e mem r:=by
 intro pb w0 θ w ev hs h;have hvs:(as.toList.map (aO ev)).length =args.length:=by rw [<- hargs];simp [cT]
 have h0:=h x (by simp [Op.operands,Call.operands]);rw [hx]at h0;rw [km h0.val rfl];refine oL dV ((hc (aM pb θ mem) w _ hvs λi a v ha hv=>?_).mono ?_)
 ·have ha':=ha;rw [<- hargs,cT,Tm]at ha';rw [Tm]at hv;cases hx:as.toList[i]? with
  | none=>rw [hx]at hv;cases hv
  | some x=>
   rw [hx]at ha' hv;simp at ha' hv;subst ha' hv;have hmem:x∈as:=by have:=TD hx;simpa using this
   exact(h x (by simp [Op.operands,Call.operands,hmem])).gW (ga hro ha)
 ·rintro en w' ⟨q,v,he,rfl,h4,h5⟩;exact⟨v,he,.ro (R0.back hs h4),h5⟩
end
end Go.Proofs.YtbmlgmblfboigaaGreatDoor
