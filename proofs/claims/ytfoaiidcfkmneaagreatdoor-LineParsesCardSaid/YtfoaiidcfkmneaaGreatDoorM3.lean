/- Texts of this claim, one behind the other: lemmas for the statement. -/
import Derived.Test.YtfoaiidcfkmneaaGreatDoorA12
import Derived.Test.YtfoaiidcfkmneaaGreatDoorM1
import Derived.RangeFuncNested
import Derived.RangeFuncBound
import Derived.RangeFuncCalls
import Derived.RangeFuncLeaves
import Derived.OwnWalkIn
import Derived.TacticsInMore
import Derived.LoopNIn
import Derived.LoopIn
set_option linter.unusedSimpArgs false
set_option linter.unusedVariables false
namespace Go.Proofs.YtfoaiidcfkmneaaGreatDoor
open Go Go.RowKit Go.Proofs
section
variable {P:Program}
def iQ(P:Program)(h:Nat)(T:TypeId)(x y:Value)(b:Bool):Prop:=∀ (d:Nat) (w:World),(Op.equalIn (d+h) T x y).run P w= .ok b w
theorem nL{T:TypeId}{k k':IntKind}(hu:P.underlying T=some (.int k))(a b:Int):iQ P 1 T (.int k' a) (.int k' b) (decide (a=b)):=λd w=>by
 unfold Op.equalIn;simp [Sem.run_bind,run_underlying hu,yz]
inductive tt (P:Program) (h:Nat) (xs ys:Array Value):List Field->Bool->Prop
 | nil:tt P h xs ys [] true
 | cons {f:Field} {l:List Field} {x y:Value} {b c:Bool}:(f.name != "_")=true->(∀ w,(part f.type xs f.offset).run P w= .ok x w)->(∀ w,(part f.type ys f.offset).run P w= .ok y w)->iQ P h f.type x y b->tt P h xs ys l c->tt P h xs ys (f::l) (b&&c)
theorem IJ{T:TypeId}{fs:Array Field}{h:Nat}{xs ys:Array Value}{b:Bool}(hu:P.underlying T=some (.struct fs))(hst:P.stoodInHeld T=false)(hf:tt P h xs ys fs.toList b):iQ P (h+1) T (.agg xs) (.agg ys) b:=λd w=>by
 rw [show d+(h+1)=(d+h)+1 by omega,Op.equalIn];simp only [Sem.run_bind,run_underlying hu,Result.andThen_ok];have hpr:(program).run P w= .ok P w:=rfl;simp only [hpr,Result.andThen_ok,hst,SV,if_false];clear hu hst;obtain⟨l⟩:=fs;simp only [List.forIn_toArray]at hf ⊢
 induction hf with
 | nil=>rfl
 | cons h1 h2 h3 h4 h5 ih=>
  rename_i f l x y b c
  have hn:f.name≠ "_" :=by simpa using h1
  simp only [List.forIn_cons,Sem.run_bind,hn,h2,h3,h4 d,ne_eq,not_false_eq_true,if_true,Result.andThen_ok];cases b
  ·simp [Sem.run_bind,Sem.run_pure]
  ·simp [Sem.run_bind,Sem.run_pure];have:=ih;simp [Sem.run_bind,Sem.run_pure]at this;exact this
inductive pY (P:Program) (h:Nat) (xs ys:Array Value):List (TypeId×Nat)->Bool->Prop
 | nil:pY P h xs ys [] true
 | cons {t o:Nat} {l:List (TypeId×Nat)} {x y:Value} {b c:Bool}:(∀ w,(part t xs o).run P w= .ok x w)->(∀ w,(part t ys o).run P w= .ok y w)->iQ P h t x y b->pY P h xs ys l c->pY P h xs ys ((t,o)::l) (b&&c)
theorem pY.fields{h:Nat}{xs ys:Array Value}:∀ {fs:List Field} {b:Bool},pY P h xs ys (fs.map λf=>(f.type,f.offset)) b->(fs.all λf=>f.name != "_")=true->tt P h xs ys fs b
 | [],_,hs,_=>by cases hs;exact .nil
 | f::l,_,hs,hn=>by
  simp only [Um,SS]at hn;cases hs with
  | cons h2 h3 h4 h5=>exact .cons hn.1 h2 h3 h4 (pY.fields h5 hn.2)
theorem iQ.up{h:Nat}{T:TypeId}{x y:Value}{b:Bool}(hv:iQ P h T x y b)(k:Nat):iQ P (h+k) T x y b:=λd w=>by
 rw [show d+(h+k)=(d+k)+h by omega];exact hv _ w
theorem tO{T:TypeId}{h:Nat}{xs ys:Array Value}{b:Bool}(sp:List (TypeId×Nat))(hu:P.underlying T=some (.struct (eX P T)))(hst:P.stoodInHeld T=false)(hs:((eX P T).toList.map λf=>(f.type,f.offset))=sp)(hn:((eX P T).toList.all λf=>f.name != "_")=true)(hf:pY P h xs ys sp b):iQ P (h+1) T (.agg xs) (.agg ys) b:=by
 subst hs;exact IJ hu hst (hf.fields hn)
section
variable {e:Nat->AV} {mem:List Ob} {d:Option Tmp} {ty t t2:TypeId} {pos:String} {af:Array Edge} {g:Option (Nat×Bool)} {x y:Operand}
theorem IK{h:Nat}{xs ys:Array Value}{b:Bool}(hg:P.eqGuardType P.depth t=false)(hv:iQ P h t (.agg xs) (.agg ys) b)(hh:h<=Op.maxDepth)(w:World):(do eqGuard .eql t x y (.agg xs) (.agg ys);binOp .eql t (.agg xs) (.agg ys):Sem Value).run P w= .ok (.bool b) w:=by
 have hpr:(program).run P w= .ok P w:=rfl;have h1:=hv (Op.maxDepth - h) w;rw [Nat.sub_add_cancel hh]at h1;simp [eqGuard,binOp,Op.equal,Sem.run_bind,hpr,hg,h1]
theorem Cb{h:Nat}{l m:List AV}{xs ys:List Value}{b:Bool}(hx:al e x= .agg l)(hy:al e y= .agg m)(hl:l=xs.map AV.v)(hm:m=ys.map AV.v)(hg:P.eqGuardType P.depth t=false)(hv:iQ P h t (.agg xs.toArray) (.agg ys.toArray) b)(hh:h<=Op.maxDepth):bH P ⟨d,.binOp .eql t x y t2,ty,pos,af,g⟩ e mem (.v (.bool b)):=
 EG hx hy ⟨hl,hm,λw=>IK hg hv hh w⟩
theorem IM{h:Nat}{xs ys:Array Value}{b:Bool}(hg:P.eqGuardType P.depth t=false)(hv:iQ P h t (.agg xs) (.agg ys) b)(hh:h<=Op.maxDepth)(w:World):(do eqGuard .neq t x y (.agg xs) (.agg ys);binOp .neq t (.agg xs) (.agg ys):Sem Value).run P w= .ok (.bool (!b)) w:=by
 have hpr:(program).run P w= .ok P w:=rfl;have h1:=hv (Op.maxDepth - h) w;rw [Nat.sub_add_cancel hh]at h1;simp [eqGuard,binOp,Op.equal,Sem.run_bind,hpr,hg,h1]
theorem Cc{h:Nat}{l m:List AV}{xs ys:List Value}{b:Bool}(hx:al e x= .agg l)(hy:al e y= .agg m)(hl:l=xs.map AV.v)(hm:m=ys.map AV.v)(hg:P.eqGuardType P.depth t=false)(hv:iQ P h t (.agg xs.toArray) (.agg ys.toArray) b)(hh:h<=Op.maxDepth):bH P ⟨d,.binOp .neq t x y t2,ty,pos,af,g⟩ e mem (.v (.bool (!b))):=by
 intro pb w0 θ w ev hs h;have h1:=h x cB;have h2:=h y cB;rw [hx]at h1;rw [hy]at h2;rw [xJ (u5 h1 hl) (u5 h2 hm),Sem.run_bind,IM hg hv hh];exact⟨.ro (.v _),Ext.refl w⟩
end
end
end Go.Proofs.YtfoaiidcfkmneaaGreatDoor
namespace Go.Proofs.YtfoaiidcfkmneaaGreatDoor
open Go Go.RowKit
def Aj(T:TypeId->Bool):Obj->Bool
 | .cells _ t _=>T t
 | _=>false
structure jL (T:TypeId->Bool) (n0:Nat) (W W':World):Prop where
 below:Below n0 W W'
 same:∀ (k:Nat) (o:Obj),W.heap[k]? =some o->Aj T o=false->W'.heap[k]? =some o
structure Calm (B:Nat) (W W':World):Prop where
 below:Below B W W'
 same:∀ (k:Nat) (c:Array Value) (t:TypeId) (f:Nat×Nat),W.heap[k]? =some (.cells c t f)->W'.heap[k]? =some (.cells c t f)
theorem ql{W W':World}(h:Ext W W'){k:Nat}{o:Obj}(hk:W.heap[k]? =some o):W'.heap[k]? =some o:=(h.block k (Tc.1 hk).1).trans hk
theorem Calm.putObj{B:Nat}{W:World}{l:Nat}{o:Obj}(o':Obj)(hB:B<=l)(h:W.heap[l]? =some o)(ho:o.isCells=false):Calm B W (W.putObj l o'):=
 ⟨(Below.refl B W).grown (grownBy_putObj' W l o') (by have:=(Tc.1 h).1;omega) (λk e=>by cases e;omega),λk c t f hk=>by
  by_cases e:k=l
  ·subst e;rw [h]at hk;cases hk;cases ho
  ·exact(World.putObj_heap_other e).trans hk⟩
theorem jL.refl(T:TypeId->Bool)(n0:Nat)(W:World):jL T n0 W W:=⟨Below.refl _ _,λ_ _ h _=>h⟩
theorem jL.trans{T:TypeId->Bool}{n0:Nat}{A B C:World}(h:jL T n0 A B)(k:jL T n0 B C):jL T n0 A C:=⟨h.below.trans k.below,λi o hi ho=>k.same i o (h.same i o hi ho) ho⟩
theorem jL.ext{T:TypeId->Bool}{n0:Nat}{A B C:World}(h:jL T n0 A B)(k:Ext B C)(hn:n0<=A.heap.size):jL T n0 A C:=
 h.trans ⟨k.mono (Tm hn h.below.size),λ_ _ hk _=>ql k hk⟩
theorem jL.setCell{T:TypeId->Bool}{n0:Nat}{A B:World}(h:jL T n0 A B){p:Addr}(hp:n0<=p.block){c:Array Value}{t:TypeId}{f:Nat×Nat}(hb:B.heap[p.block]? =some (.cells c t f))(ht:T t=true)(v:Value):jL T n0 A (B.setCell p v):=
 ⟨h.below.setCell hp v,λk o hk ho=>by
  have h1:=h.same k o hk ho;refine(Below.heap_setCell B p v k ?_).trans h1;rintro rfl;rw [hb]at h1;cases h1;simp only [Aj]at ho;rw [ht]at ho;cases ho⟩
theorem jL.grown{T:TypeId->Bool}{n0:Nat}{A B C:World}(h:jL T n0 A B){row:Option Nat}(hg:B.grownBy C row)(hn:n0<=A.heap.size)(hr:∀ g,row=some g->n0<=g/\ ∃ c t f,B.heap[g]? =some (.cells c t f)/\T t=true):jL T n0 A C:=
 ⟨h.below.grown hg (Tm hn h.below.size) (λg e=>(hr g e).1),λk o hk ho=>by
  have h1:=h.same k o hk ho;refine(hg.block k (Tc.1 h1).1 ?_).trans h1;intro e;obtain⟨_,c,t,f,hb,ht⟩:=hr k e.symm;rw [hb]at h1;cases h1;simp only [Aj]at ho;rw [ht]at ho;cases ho⟩
end Go.Proofs.YtfoaiidcfkmneaaGreatDoor
