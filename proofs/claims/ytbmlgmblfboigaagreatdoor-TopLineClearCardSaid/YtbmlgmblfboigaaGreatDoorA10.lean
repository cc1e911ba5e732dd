/- Lemmas for the statement. -/
import Derived.Test.YtbmlgmblfboigaaGreatDoorA9
import Derived.Laws.IdiomStrings
namespace Go.Proofs.YtbmlgmblfboigaaGreatDoor
open Go Go.RowKit
set_option linter.unusedVariables false
set_option linter.unusedSimpArgs false
section
variable {P:Program} {N:Nat} {Q:AQ} {e:Nat->AV} {mem:List Ob} {d:Option Tmp} {ty t t2:TypeId} {pos:String} {af:Array Edge} {g:Option (Nat×Bool)} {x y z:Operand}
theorem yF{pb:Nat->Prop}{w0:Bs}{w:World}{θ:List Value}(hs:cm pb w0 w θ mem){b:Nat}(hb:w.heap.size<=b):¬ aO pb θ mem b:=by
 rintro(hq|⟨j,o,v,q1,q2,q3,q4⟩)
 ·have:=(hs.low _ hq).1;have:=hs.ext.size;omega
 ·have:=((hs.ob j o v q1 q3).lt q2 q4).2;omega
theorem U9{s:ByteArray}{src dst eT:TypeId}(h1:P.underlying src=some .string)(h2:P.underlying dst=some (.slice eT))(h3:P.underlying eT=some (.int .u8))(hx:ak e x= .v (.string s)):bw P ⟨d,.convert src dst x,ty,pos,af,g⟩ e mem (.row 1 (s.data.toList.map bE)):=by
 intro pb w0 θ w ev hs h;have h4:=h x cE;rw [hx]at h4;rw [Dk h4.val,Sem.run_bind,run_bytes_of_string w src dst eT s h1 h2 h3];have hext:Ext w (w.drew.alloc (.cells (bytesRow s (grownCap w s.size 0 eT)) eT ((bytesRow s (grownCap w s.size 0 eT)).size,(bytesRow s (grownCap w s.size 0 eT)).size +1))):=(Ext.refl w).drew.alloc _;have hsz:s.data.toList.length=s.size:=rfl;have hfl:∀ (l:List UInt8),(l.map bE).flatten =l.map (λb=>AV.v (.int .u8 b.toNat)):=λl=>by
  induction l with
  | nil=>rfl
  | cons a l ih=>simp [bE,ih]
 refine⟨.ro ?_,hext⟩
 by_cases h0:s.data.toList= []
 ·rw [h0];have:s.size=0:=by rw [<- hsz,h0];rfl
  rw [this];exact .nil _ _ _
 ·have hl:s.size=(s.data.toList.map bE).length :=by rw [XK];exact hsz.symm
  rw [hl];refine .row 1 _ w.heap.size 0 _ (λi=>.int .u8 ((s.data.toList.getD i 0).toNat)) (by simpa using h0) (by rw [<- hl];exact grownCap_ge w s.size 0 eT) (λl hl=>by obtain⟨q,_,rfl⟩:=XL.1 hl;rfl) aN (yF hs (Xf _)) (λi a ha=>?_) (λi a ha=>?_)
  ·rw [hfl,Xh]at ha;have hi:i<s.data.toList.length:=by
    cases hq:s.data.toList[i]? with
    | none=>rw [hq]at ha;cases ha
    | some q=>exact(Xe.1 hq).1
   have hc:=cell_of_row (w.drew.alloc (.cells (bytesRow s (grownCap w s.size 0 eT)) eT ((bytesRow s (grownCap w s.size 0 eT)).size,(bytesRow s (grownCap w s.size 0 eT)).size +1))) w.heap.size (0+i) (bytesRow s (grownCap w s.size 0 eT)) eT _ (heap_alloc_new w.drew _);rw [<- hl,hc,Xl];have hi':i<s.data.size:=by simpa using hi
   have hi2:i<s.size:=hi;simp [bytesRow,Array.getElem?_append,hi2,Xc]
  ·rw [hfl,Xh]at ha;cases hq:s.data.toList[i]? with
   | none=>rw [hq]at ha;cases ha
   | some q=>
    rw [hq]at ha;simp at ha;subst ha;have:s.data.toList.getD i 0=q:=by rw [Xc,hq];rfl
    rw [this];exact .v _
theorem kz{f:FuncId}{as:Array Operand}{ts:Array TypeId}{args:List AV}{r:AV}(hx:ak e x= .v (.func (.func f) #[] #[]))(hargs:cX e as.toList=args)(hro:cC.roL args=true)(hc:bN P f args (λq=>q=r))(dY:∀ args w,(callFunc f args).run P w= .ok (.enter f args) w):
 bw P ⟨d,.call ⟨.value x,as,ts⟩,ty,pos,af,g⟩ e mem r:=by
 intro pb w0 θ w ev hs h;have hvs:(as.toList.map (aT ev)).length =args.length:=by rw [<- hargs];simp [cX]
 have h0:=h x fl;rw [hx]at h0;rw [k6 h0.val rfl];refine oJ dY ((hc (aO pb θ mem) w _ hvs λi a v ha hv=>?_).mono ?_)
 ·have ha':=ha;rw [<- hargs,cX,Xh]at ha';rw [Xh]at hv;cases hx:as.toList[i]? with
  | none=>rw [hx]at hv;cases hv
  | some x=>
   rw [hx]at ha' hv;simp at ha' hv;subst ha' hv;have hmem:x∈as:=by have:=Xp hx;simpa using this
   exact(h x mR).gr (gy hro ha)
 ·rintro en w' ⟨q,v,he,rfl,h4,h5⟩;exact⟨v,he,.ro (R0.back hs h4),h5⟩
end
end Go.Proofs.YtbmlgmblfboigaaGreatDoor
