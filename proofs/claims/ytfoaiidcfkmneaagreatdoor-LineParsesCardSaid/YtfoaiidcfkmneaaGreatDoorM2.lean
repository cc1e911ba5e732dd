/- Texts of this claim, one behind the other: lemmas for the statement. -/
import Derived.Test.YtfoaiidcfkmneaaGreatDoorA9
import Derived.Laws.IdiomStrings
set_option linter.unusedSimpArgs false
set_option linter.unusedVariables false
namespace Go.Proofs.YtfoaiidcfkmneaaGreatDoor
open Go Go.RowKit
section
variable {P:Program} {N:Nat} {Q:AQ} {e:Nat->AV} {mem:List Ob} {d:Option Tmp} {ty t t2:TypeId} {pos:String} {af:Array Edge} {g:Option (Nat×Bool)} {x y z:Operand}
theorem AO{pb:Nat->Prop}{w0:Bs}{w:World}{θ:List Value}(hs:cr pb w0 w θ mem){b:Nat}(hb:w.heap.size<=b):¬ aP pb θ mem b:=by
 rintro(hq|⟨j,o,v,q1,q2,q3,q4⟩)
 ·have:=(hs.low _ hq).1;have:=hs.ext.size;omega
 ·have:=((hs.ob j o v q1 q3).lt q2 q4).2;omega
theorem Ql{s:ByteArray}{src dst eT:TypeId}(h1:P.underlying src=some .string)(h2:P.underlying dst=some (.slice eT))(h3:P.underlying eT=some (.int .u8))(hx:al e x= .v (.string s)):bH P ⟨d,.convert src dst x,ty,pos,af,g⟩ e mem (.row 1 (s.data.toList.map bE)):=by
 intro pb w0 θ w ev hs h;have h4:=h x cB;rw [hx]at h4;rw [AZ h4.val,Sem.run_bind,run_bytes_of_string w src dst eT s h1 h2 h3];have hext:Ext w (w.drew.alloc (.cells (bytesRow s (grownCap w s.size 0 eT)) eT ((bytesRow s (grownCap w s.size 0 eT)).size,(bytesRow s (grownCap w s.size 0 eT)).size +1))):=(Ext.refl w).drew.alloc _;have hsz:s.data.toList.length=s.size:=rfl;have hfl:∀ (l:List UInt8),(l.map bE).flatten =l.map (λb=>AV.v (.int .u8 b.toNat)):=λl=>by
  induction l with
  | nil=>rfl
  | cons a l ih=>simp [bE,ih]
 refine⟨.ro ?_,hext⟩
 by_cases h0:s.data.toList= []
 ·rw [h0];have:s.size=0:=by rw [<- hsz,h0];rfl
  rw [this];exact .nil _ _ _
 ·have hl:s.size=(s.data.toList.map bE).length :=by rw [SZ];exact hsz.symm
  rw [hl];refine .row 1 _ w.heap.size 0 _ (λi=>.int .u8 ((s.data.toList.getD i 0).toNat)) (by simpa using h0) (by rw [<- hl];exact grownCap_ge w s.size 0 eT) (λl hl=>by obtain⟨q,_,rfl⟩:=TG.1 hl;rfl) aL (AO hs (SR _)) (λi a ha=>?_) (λi a ha=>?_)
  ·rw [hfl,SU]at ha;have hi:i<s.data.toList.length:=by
    cases hq:s.data.toList[i]? with
    | none=>rw [hq]at ha;cases ha
    | some q=>exact(SN.1 hq).1
   have hc:=cell_of_row (w.drew.alloc (.cells (bytesRow s (grownCap w s.size 0 eT)) eT ((bytesRow s (grownCap w s.size 0 eT)).size,(bytesRow s (grownCap w s.size 0 eT)).size +1))) w.heap.size (0+i) (bytesRow s (grownCap w s.size 0 eT)) eT _ (heap_alloc_new w.drew _);rw [<- hl,hc,S0];have hi':i<s.data.size:=by simpa using hi
   have hi2:i<s.size:=hi;simp [bytesRow,Array.getElem?_append,hi2,SO]
  ·rw [hfl,SU]at ha;cases hq:s.data.toList[i]? with
   | none=>rw [hq]at ha;cases ha
   | some q=>
    rw [hq]at ha;simp at ha;subst ha;have:s.data.toList.getD i 0=q:=by rw [SO,hq];rfl
    rw [this];exact .v _
theorem jT{f:FuncId}{as:Array Operand}{ts:Array TypeId}{args:List AV}{r:AV}(hx:al e x= .v (.func (.func f) #[] #[]))(hargs:dc e as.toList=args)(hro:cS.roL args=true)(hc:bT P f args (λq=>q=r))(eH:∀ args w,(callFunc f args).run P w= .ok (.enter f args) w):
 bH P ⟨d,.call ⟨.value x,as,ts⟩,ty,pos,af,g⟩ e mem r:=by
 intro pb w0 θ w ev hs h;have hvs:(as.toList.map (aZ ev)).length =args.length:=by rw [<- hargs];simp [dc]
 have h0:=h x kE;rw [hx]at h0;rw [ly h0.val rfl];refine qn eH ((hc (aP pb θ mem) w _ hvs λi a v ha hv=>?_).mono ?_)
 ·have ha':=ha;rw [<- hargs,dc,SU]at ha';rw [SU]at hv;cases hx:as.toList[i]? with
  | none=>rw [hx]at hv;cases hv
  | some x=>
   rw [hx]at ha' hv;simp at ha' hv;subst ha' hv;have hmem:x∈as:=by have:=S9 hx;simpa using this
   exact(h x nT).iN (hP hro ha)
 ·rintro en w' ⟨q,v,he,rfl,h4,h5⟩;exact⟨v,he,.ro (R0.back hs h4),h5⟩
end
end Go.Proofs.YtfoaiidcfkmneaaGreatDoor
namespace Go.Proofs.YtfoaiidcfkmneaaGreatDoor
open Go Go.RowKit Go.Proofs
section
variable {P:Program} {e:Nat->AV} {mem:List Ob} {d:Option Tmp} {ty t t2:TypeId} {pos:String} {af:Array Edge} {g:Option (Nat×Bool)} {x y z:Operand}
theorem u5{θ:List Value}{pr:Nat->Prop}{w:World}{l:List AV}{xs:List Value}{v:Value}(h:R1 θ pr w (.agg l) v)(hl:l=xs.map AV.v):v= .agg xs.toArray:=by
 subst hl;obtain⟨ys,rfl,h1,h2⟩:=h.sN
 congr 2
 apply List.ext_getElem nV;intro j a1 a2;exact(h2 j (.v xs[j]) ys[j] (by simp [a2]) (by simp [a1])).val
theorem EG{l m:List AV}{xs ys:List Value}{b:Bool}(hx:al e x= .agg l)(hy:al e y= .agg m)(hl:l=xs.map AV.v/\m=ys.map AV.v/\ ∀ w,(do eqGuard .eql t x y (.agg xs.toArray) (.agg ys.toArray);binOp .eql t (.agg xs.toArray) (.agg ys.toArray):Sem Value).run P w= .ok (.bool b) w):bH P ⟨d,.binOp .eql t x y t2,ty,pos,af,g⟩ e mem (.v (.bool b)):=by
 intro pb w0 θ w ev hs h;have h1:=h x cB;have h2:=h y cB;rw [hx]at h1;rw [hy]at h2;rw [xJ (u5 h1 hl.1) (u5 h2 hl.2.1),Sem.run_bind,hl.2.2];exact⟨.ro (.v _),Ext.refl w⟩
end
theorem dj:(∀ {α β:Type} (f:α->β) (l:List α),(l.map f).length =l.length)/\(∀ {α:Type} (l:List α) (i:Nat) (a:α),(l.set i a).length =l.length)/\(∀ {α:Type} (l m:List α),(l++m).length =l.length+m.length)/\(∀ {α:Type} (n:Nat) (a:α),(List.replicate n a).length =n)/\
 (∀ {α:Type} (a:α) (l:List α),(a::l).length =l.length+1)/\(∀ {α:Type},([]:List α).length =0)/\(∀ {α:Type} (n:Nat) (l:List α),(l.drop n).length =l.length - n)/\(∀ {α:Type} (n:Nat) (l:List α),(l.take n).length =min n l.length)/\(∀ {α:Type} (l:List α),l.reverse.length=l.length):=
 ⟨λf l=>SZ f,λ_ _ _=>TE ..,λ_ _=>Tq,λ_ _=>List.length_replicate,λ_ _=>rfl,rfl,λ_ _=>TZ,λ_ _=>TF,λ_=>List.length_reverse⟩
theorem qS:(∀ {α:Type} (a:α) (l:List α),(a::l).length =l.length+1)/\(∀ {α:Type},([]:List α).length =0)/\(∀ n:Nat,0+n=n)/\(∀ {α:Type} (a:α) (n:Nat) (l:List α),(a::l).take (n+1)=a::l.take n)/\(∀ {α:Type} (l:List α),l.take 0= [])/\(∀ {α:Type} (n:Nat),([]:List α).take n= [])/\
 (∀ {α:Type} (a:α) (n:Nat) (l:List α),(a::l).drop (n+1)=l.drop n)/\(∀ {α:Type} (l:List α),l.drop 0=l)/\(∀ {α:Type} (n:Nat),([]:List α).drop n= [])/\(∀ {α:Type} (a:α) (l m:List α),a::l++m=a::(l++m))/\(∀ {α:Type} (l:List α),[]++l=l)/\(∀ {α:Type} (l:List α),l++ []=l)/\
 (∀ {α:Type} (a b:α) (l:List α),(a::l).headD b=a)/\(∀ {α:Type} (a b:α) (l:List α),(a::l).set 0 b=b::l)/\(∀ {α:Type} (a b:α) (n:Nat) (l:List α),(a::l).set (n+1) b=a::l.set n b):=
 ⟨λ_ _=>rfl,rfl,S0,λ_ _ _=>rfl,λ_=>rfl,λ_=>List.take_nil,λ_ _ _=>rfl,λ_=>rfl,λ_=>List.drop_nil,λ_ _ _=>rfl,λ_=>rfl,TX,λ_ _ _=>rfl,λ_ _ _=>rfl,λ_ _ _ _=>rfl⟩
theorem pS:(∀ (n:Nat) (l:List AV),gx true n l= .agg (l.take n))/\(∀ (n:Nat) (l:List AV),gx false n l=l.headD .any)/\(∀ n:Int,iE n= [.v (.int .i64 n)])/\(∀ n:UInt8,bE n= [.v (.int .u8 n.toNat)])/\
 (∀ {α:Type} (cells:List α) (off:Nat) (l:List α),setAt cells off l=cells.take off++l++cells.drop (off+l.length))/\(∀ (x:Value) (l:List Value),(x::l).map AV.v=AV.v x::l.map AV.v)/\(([]:List Value).map AV.v= [])/\
 (∀ cs:Array Value,cellsA (.v (.agg cs))=some (cs.toList.map .v))/\(∀ l,cellsA (.agg l)=some l)/\(∀ k n,cellsA (.v (.int k n))=some [.v (.int k n)])/\(∀ b,cellsA (.v (.bool b))=some [.v (.bool b)])/\(∀ b,cellsA (.v (.string b))=some [.v (.string b)])/\
 (∀ a n c,cellsA (.v (.slice a n c))=some [.v (.slice a n c)])/\(∀ a,cellsA (.v (.pointer a))=some [.v (.pointer a)])/\(∀ k l,cellsA (.row k l)=some [.row k l])/\(∀ l,cellsA (.ref l)=some [.ref l])/\(∀ j,cellsA (.own j)=some [.own j])/\(∀ j o,cellsA (.ptr j o)=some [.ptr j o])/\(∀ f l m,cellsA (.clo f l m)=some [.clo f l m])/\
 (∀ {α:Type} (a:α) (l:List α),(a::l).length =l.length+1)/\(∀ {α:Type},([]:List α).length =0)/\(∀ n:Nat,0+n=n)/\(∀ {α:Type} (a:α) (n:Nat) (l:List α),(a::l).take (n+1)=a::l.take n)/\(∀ {α:Type} (l:List α),l.take 0= [])/\(∀ {α:Type} (n:Nat),([]:List α).take n= [])/\
 (∀ {α:Type} (a:α) (n:Nat) (l:List α),(a::l).drop (n+1)=l.drop n)/\(∀ {α:Type} (l:List α),l.drop 0=l)/\(∀ {α:Type} (n:Nat),([]:List α).drop n= [])/\(∀ {α:Type} (a:α) (l m:List α),a::l++m=a::(l++m))/\(∀ {α:Type} (l:List α),[]++l=l)/\(∀ {α:Type} (l:List α),l++ []=l)/\
 (∀ {α:Type} (a b:α) (l:List α),(a::l).headD b=a)/\(∀ {α:Type} (a b:α) (l:List α),(a::l).set 0 b=b::l)/\(∀ {α:Type} (a b:α) (n:Nat) (l:List α),(a::l).set (n+1) b=a::l.set n b):=
 ⟨λ_ _=>rfl,λ_ _=>rfl,λ_=>rfl,λ_=>rfl,λ_ _ _=>rfl,λ_ _=>rfl,rfl,λ_=>rfl,λ_=>rfl,λ_ _=>rfl,λ_=>rfl,λ_=>rfl,λ_ _ _=>rfl,λ_=>rfl,λ_ _=>rfl,λ_=>rfl,λ_=>rfl,λ_ _=>rfl,λ_ _ _=>rfl,qS⟩
end Go.Proofs.YtfoaiidcfkmneaaGreatDoor
