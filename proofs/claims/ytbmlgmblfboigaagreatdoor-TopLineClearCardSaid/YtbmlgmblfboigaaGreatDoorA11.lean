/- Lemmas for the statement. -/
import Derived.Test.YtbmlgmblfboigaaGreatDoorA10
namespace Go.Proofs.YtbmlgmblfboigaaGreatDoor
open Go Go.RowKit Go.Proofs
set_option linter.unusedSimpArgs false
set_option linter.unusedVariables false
section
variable {P:Program} {e:Nat->AV} {mem:List Ob} {d:Option Tmp} {ty t t2:TypeId} {pos:String} {af:Array Edge} {g:Option (Nat×Bool)} {x y z:Operand}
theorem rB{k bytes eT:Nat}{zv:Value}(ht:bO P t eT k bytes zv):bw P ⟨d,.buildSlice t 0 #[],ty,pos,af,g⟩ e mem .emp :=by
 intro pb w0 θ w ev hs h;obtain⟨i,hi,hz,hsz,hby⟩:=ht.info;have hrun:(Instr.buildSlice t 0 #[]).run P w= .ok (.slice (some ⟨w.heap.size,0,none⟩) 0 0) (w.alloc (.cells #[] eT)):=by
  simp [Instr.buildSlice,run_underlying ht.1,sizeOf,typeInfo,hi,Instr.fill,newRow];rw [show(Array.range 0).map (λ_=>(default:Value))= #[]from Array.eq_empty_of_size_eq_zero aN]
 have e1:execOp (aT ev) ⟨d,.buildSlice t 0 #[],ty,pos,af,g⟩=(do pure (.value (<- Instr.buildSlice t 0 ((#[]:Array (Nat×Operand)).map λ(i,x)=>(i,aT ev x))))):=rfl;rw [e1,Sem.run_bind,Array.map_empty,hrun];exact⟨.ro (.emp _),(Ext.refl w).alloc _⟩
theorem um{k bytes eT:Nat}{zv:Value}{els:List (List AV)}(ht:bO P t eT k bytes zv)(hk:(zv.cells.size==k&&decide (0<k)&&decide (0<bytes))=true)(hx:ak e x= .emp)(hy:ak e y= .row k els)(hb:els.length*bytes<=140737488355328):
 bw P ⟨d,.call ⟨.builtin .append,#[x,y],#[t,t]⟩,ty,pos,af,g⟩ e mem (.row k els):=by
 intro pb w0 θ w ev hs h;simp only [Xg,decide_eq_true_eq]at hk;obtain⟨⟨_,hk0⟩,hb0⟩:=hk;obtain⟨i,hi,hz,hsz,hby⟩:=ht.info;have h1:=h x fl;have h2:=h y fl;rw [hx]at h1;rw [hy]at h2;generalize hv:aT ev x=v at h1;generalize hu:aT ev y=u at h2;have h1':∃ A,v= .slice A 0 0:=by
  cases h1 with|ro h1=>cases h1 with|emp A=>exact⟨A,rfl⟩
 obtain⟨B,rfl⟩:=h1';obtain⟨A,c,news,rfl,h6,h7,h8⟩:=xo h2.getRow;have hfl:=fF h7;have h63:els.length<=140737488355328:=by
  have:=YO els.length hb0;omega
 rw [kx (fL hv (fL hu kC))]
 by_cases h0:els= []
 ·subst h0;have hA:(Builtin.append_ #[t,t] ty #[.slice B 0 0,.slice A 0 c]).run P w= .ok (.slice B 0 0) w:=by
   cases B<;>cases A<;>simp [Builtin.append_,run_underlying ht.1,sizeOf,typeInfo,hi,Builtin.lenOf,Builtin.firstCells,loadCells,loadCellsFrom,storeCells]
  have e1:∀ cs,(builtin .append #[t,t] ty cs [.slice B 0 0,.slice A 0 c].toArray).run P w= .ok (.value (.slice B 0 0)) w:=by
   intro cs;simp only [builtin,Sem.run_bind,hA,Result.andThen_ok,Sem.run_pure]
  have e2:=e1;rw [show([]:List (List AV)).length =0 from rfl];rw [e1];exact⟨.ro (.nil _ _ _),Ext.refl w⟩
 ·have hpos:0<els.length:=XJ.2 h0;obtain⟨b,o,rfl,hrow⟩:=h6.2 hpos;have hcells:∀ j u,news[j]? =some u->w.cell? ((⟨b,o,none⟩:Addr).add j)=some u:=λj u hj=>by rw [Addr.add_lit];exact hrow.2 j u hj
  have hnl:news.length=els.length*i.size:=by rw [hsz];exact h6.1
  have hA:∃ cap,els.length<=cap/\(Builtin.append_ #[t,t] ty #[.slice B 0 0,.slice (some ⟨b,o,none⟩) els.length c]).run P w= .ok (.slice (some ⟨w.heap.size,0,none⟩) els.length cap) (w.drew.alloc (.cells (news.toArray++Builtin.zeroCells zv.cells (cap - els.length)) eT)):=by
   refine⟨grownCap w els.length 0 eT,grownCap_ge w els.length 0 eT,?_⟩;cases B with
   | none=>exact run_append_nil (P:=P) (w:=w) t ty eT i zv ht.1 hi hz _ _ _ news hnl hcells hpos ah (by rw [hby];omega)
   | some B=>
    have:=run_append_grow (P:=P) (w:=w) t ty eT i zv ht.1 hi hz B 0 0 [] aN (by intro j v hj;simp at hj) ⟨b,o,none⟩ els.length c news hnl hcells ah ah (growslice_fits ah (by rw [hby,Xl];exact hb))
    simpa using this
  obtain⟨cap,hcap,hA⟩:=hA;have e1:∀ cs,(builtin .append #[t,t] ty cs [.slice B 0 0,.slice (some ⟨b,o,none⟩) els.length c].toArray).run P w= .ok (.value (.slice (some ⟨w.heap.size,0,none⟩) els.length cap)) (w.drew.alloc (.cells (news.toArray++Builtin.zeroCells zv.cells (cap - els.length)) eT)):=by
   intro cs;simp only [builtin,Sem.run_bind,hA,Result.andThen_ok,Sem.run_pure]
  rw [e1];have hext:Ext w (w.drew.alloc (.cells (news.toArray++Builtin.zeroCells zv.cells (cap - els.length)) eT)):=(Ext.refl w).drew.alloc _;refine⟨.ro ?_,hext⟩;refine .row k els w.heap.size 0 cap (λi=>news.getD i undef) h0 hcap h7 aN (yF hs (Xf _)) (λj a ha=>?_) (λj a ha=>?_)
  ·have hj:j<news.length:=by rw [hnl,hsz, <- hfl];exact(Xe.1 ha).1
   have hc:=cell_of_row (w.drew.alloc (.cells (news.toArray++Builtin.zeroCells zv.cells (cap - els.length)) eT)) w.heap.size (0+j) (news.toArray++Builtin.zeroCells zv.cells (cap - els.length)) eT _ (heap_alloc_new w.drew _);rw [hc,Xl,X7 (by simpa using hj)];simp [Xc,hj]
  ·have hj:j<news.length:=by rw [hnl,hsz, <- hfl];exact(Xe.1 ha).1
   have hg:news[j]? =some (news.getD j undef):=by simp [Xc,hj]
   exact(h8 j a _ ha hg).ext hext
theorem wz{θ:List Value}{pr:Nat->Prop}{w:World}{l:List AV}{xs:List Value}{v:Value}(h:R1 θ pr w (.agg l) v)(hl:l=xs.map AV.v):v= .agg xs.toArray:=by
 subst hl;obtain⟨ys,rfl,h1,h2⟩:=h.sd
 congr 2
 apply List.ext_getElem mT;intro j a1 a2;exact(h2 j (.v xs[j]) ys[j] (by simp [a2]) (by simp [a1])).val
theorem Tc{l m:List AV}{xs ys:List Value}{b:Bool}(hx:ak e x= .agg l)(hy:ak e y= .agg m)(hl:l=xs.map AV.v/\m=ys.map AV.v/\ ∀ w,(do eqGuard .eql t x y (.agg xs.toArray) (.agg ys.toArray);binOp .eql t (.agg xs.toArray) (.agg ys.toArray):Sem Value).run P w= .ok (.bool b) w):bw P ⟨d,.binOp .eql t x y t2,ty,pos,af,g⟩ e mem (.v (.bool b)):=by
 intro pb w0 θ w ev hs h;have h1:=h x cE;have h2:=h y cE;rw [hx]at h1;rw [hy]at h2;rw [vx (wz h1 hl.1) (wz h2 hl.2.1),Sem.run_bind,hl.2.2];exact⟨.ro (.v _),Ext.refl w⟩
end
theorem cS:(∀ {α β:Type} (f:α->β) (l:List α),(l.map f).length =l.length)/\(∀ {α:Type} (l:List α) (i:Nat) (a:α),(l.set i a).length =l.length)/\(∀ {α:Type} (l m:List α),(l++m).length =l.length+m.length)/\(∀ {α:Type} (n:Nat) (a:α),(List.replicate n a).length =n)/\
 (∀ {α:Type} (a:α) (l:List α),(a::l).length =l.length+1)/\(∀ {α:Type},([]:List α).length =0)/\(∀ {α:Type} (n:Nat) (l:List α),(l.drop n).length =l.length - n)/\(∀ {α:Type} (n:Nat) (l:List α),(l.take n).length =min n l.length)/\(∀ {α:Type} (l:List α),l.reverse.length=l.length):=
 ⟨λf l=>XK f,λ_ _ _=>XU ..,λ_ _=>XD,λ_ _=>List.length_replicate,λ_ _=>rfl,rfl,λ_ _=>X4,λ_ _=>XO,λ_=>List.length_reverse⟩
theorem qS:(∀ {α:Type} (a:α) (l:List α),(a::l).length =l.length+1)/\(∀ {α:Type},([]:List α).length =0)/\(∀ n:Nat,0+n=n)/\(∀ {α:Type} (a:α) (n:Nat) (l:List α),(a::l).take (n+1)=a::l.take n)/\(∀ {α:Type} (l:List α),l.take 0= [])/\(∀ {α:Type} (n:Nat),([]:List α).take n= [])/\
 (∀ {α:Type} (a:α) (n:Nat) (l:List α),(a::l).drop (n+1)=l.drop n)/\(∀ {α:Type} (l:List α),l.drop 0=l)/\(∀ {α:Type} (n:Nat),([]:List α).drop n= [])/\(∀ {α:Type} (a:α) (l m:List α),a::l++m=a::(l++m))/\(∀ {α:Type} (l:List α),[]++l=l)/\(∀ {α:Type} (l:List α),l++ []=l)/\
 (∀ {α:Type} (a b:α) (l:List α),(a::l).headD b=a)/\(∀ {α:Type} (a b:α) (l:List α),(a::l).set 0 b=b::l)/\(∀ {α:Type} (a b:α) (n:Nat) (l:List α),(a::l).set (n+1) b=a::l.set n b):=
 ⟨λ_ _=>rfl,rfl,Xl,λ_ _ _=>rfl,λ_=>rfl,λ_=>List.take_nil,λ_ _ _=>rfl,λ_=>rfl,λ_=>List.drop_nil,λ_ _ _=>rfl,λ_=>rfl,X3,λ_ _ _=>rfl,λ_ _ _=>rfl,λ_ _ _ _=>rfl⟩
theorem pS:(∀ (n:Nat) (l:List AV),fW true n l= .agg (l.take n))/\(∀ (n:Nat) (l:List AV),fW false n l=l.headD .any)/\(∀ n:Int,iE n= [.v (.int .i64 n)])/\(∀ n:UInt8,bE n= [.v (.int .u8 n.toNat)])/\
 (∀ {α:Type} (cells:List α) (off:Nat) (l:List α),setAt cells off l=cells.take off++l++cells.drop (off+l.length))/\(∀ (x:Value) (l:List Value),(x::l).map AV.v=AV.v x::l.map AV.v)/\(([]:List Value).map AV.v= [])/\
 (∀ cs:Array Value,cellsA (.v (.agg cs))=some (cs.toList.map .v))/\(∀ l,cellsA (.agg l)=some l)/\(∀ k n,cellsA (.v (.int k n))=some [.v (.int k n)])/\(∀ b,cellsA (.v (.bool b))=some [.v (.bool b)])/\(∀ b,cellsA (.v (.string b))=some [.v (.string b)])/\
 (∀ a n c,cellsA (.v (.slice a n c))=some [.v (.slice a n c)])/\(∀ a,cellsA (.v (.pointer a))=some [.v (.pointer a)])/\(∀ k l,cellsA (.row k l)=some [.row k l])/\(∀ l,cellsA (.ref l)=some [.ref l])/\(∀ j,cellsA (.own j)=some [.own j])/\(∀ j o,cellsA (.ptr j o)=some [.ptr j o])/\(∀ f l m,cellsA (.clo f l m)=some [.clo f l m])/\
 (∀ {α:Type} (a:α) (l:List α),(a::l).length =l.length+1)/\(∀ {α:Type},([]:List α).length =0)/\(∀ n:Nat,0+n=n)/\(∀ {α:Type} (a:α) (n:Nat) (l:List α),(a::l).take (n+1)=a::l.take n)/\(∀ {α:Type} (l:List α),l.take 0= [])/\(∀ {α:Type} (n:Nat),([]:List α).take n= [])/\
 (∀ {α:Type} (a:α) (n:Nat) (l:List α),(a::l).drop (n+1)=l.drop n)/\(∀ {α:Type} (l:List α),l.drop 0=l)/\(∀ {α:Type} (n:Nat),([]:List α).drop n= [])/\(∀ {α:Type} (a:α) (l m:List α),a::l++m=a::(l++m))/\(∀ {α:Type} (l:List α),[]++l=l)/\(∀ {α:Type} (l:List α),l++ []=l)/\
 (∀ {α:Type} (a b:α) (l:List α),(a::l).headD b=a)/\(∀ {α:Type} (a b:α) (l:List α),(a::l).set 0 b=b::l)/\(∀ {α:Type} (a b:α) (n:Nat) (l:List α),(a::l).set (n+1) b=a::l.set n b):=
 ⟨λ_ _=>rfl,λ_ _=>rfl,λ_=>rfl,λ_=>rfl,λ_ _ _=>rfl,λ_ _=>rfl,rfl,λ_=>rfl,λ_=>rfl,λ_ _=>rfl,λ_=>rfl,λ_=>rfl,λ_ _ _=>rfl,λ_=>rfl,λ_ _=>rfl,λ_=>rfl,λ_=>rfl,λ_ _=>rfl,λ_ _ _=>rfl,qS⟩
end Go.Proofs.YtbmlgmblfboigaaGreatDoor
