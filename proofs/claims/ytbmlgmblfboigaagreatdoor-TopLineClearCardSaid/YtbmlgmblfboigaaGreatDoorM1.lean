/- Texts of this claim, one behind the other: lemmas for the statement. -/
import Derived.StillTail
import Derived.Below
import Derived.WalkKit
import Derived.WalkSpells
import Derived.WalkLawsBesides
import Derived.Maps.AppendAt
import Derived.Laws.Rows
import Derived.Deep.AppendLies
import Derived.Lib.Hide
set_option linter.unusedVariables false
set_option linter.unusedSimpArgs false
/- Lemmas for the statement. -/
namespace Go.Proofs.YtbmlgmblfboigaaGreatDoor
open Go Go.RowKit
abbrev Xc:=@List.getD_eq_getElem?_getD
abbrev Xd:=@List.getElem?_eq_getElem
abbrev Xe:=@List.getElem?_eq_some_iff
abbrev Xf:=@Nat.le_refl
abbrev Xg:=@Bool.and_eq_true
abbrev Xh:=@List.getElem?_map
abbrev Xi:=@Bool.false_eq_true
abbrev Xj:=@List.getElem?_append_left
abbrev Xk:=@List.getElem?_append_right
abbrev Xl:=@Nat.zero_add
abbrev Xm:=@List.getElem?_set_ne
abbrev Xn:=@Array.getD_eq_getD_getElem?
abbrev Xo:=@List.length_cons
abbrev Xp:=@List.mem_of_getElem?
abbrev Xq:=@List.getElem?_eq_none
abbrev Xr:=@Nat.add_zero
abbrev Xs:=@List.length_nil
abbrev Xt:=@List.getElem?_set_self
abbrev Xu:=@Array.getElem?_eq_some_iff
abbrev Xv:=@List.all_eq_true
abbrev Xw:=@List.getElem?_cons_succ
abbrev Xx:=@Nat.sub_self
abbrev Xy:=@Nat.zero_le
abbrev Xz:=@Nat.le_trans
abbrev XA:=@List.getElem?_cons_zero
abbrev XB:=@List.getElem?_nil
abbrev XC:=@Nat.lt_or_ge
abbrev XD:=@List.length_append
abbrev XE:=@Int.toNat_natCast
abbrev XF:=@Bool.not_eq_true'
abbrev XG:=@Nat.lt_of_lt_of_le
abbrev XH:=@List.getElem?_drop
abbrev XI:=@List.map_cons
abbrev XJ:=@List.length_pos_iff
abbrev XK:=@List.length_map
abbrev XL:=@List.mem_map
abbrev XM:=@List.mem_cons
abbrev XN:=@List.getElem_of_mem
abbrev XO:=@List.length_take
abbrev XP:=@List.append_assoc
abbrev XQ:=@Nat.add_assoc
abbrev XR:=@List.getElem_mem
abbrev XS:=@List.eq_nil_of_length_eq_zero
abbrev XT:=@List.flatten_cons
abbrev XU:=@List.length_set
abbrev XV:=@List.ext_getElem?
abbrev XW:=@Nat.min_eq_left
abbrev XX:=@List.mem_range
abbrev XY:=@List.getElem?_take_of_lt
abbrev XZ:=@Nat.succ_mul
abbrev X0:=@Nat.le_succ_of_le
abbrev X1:=@Bool.or_eq_true
abbrev X2:=@List.take_take
abbrev X3:=@List.append_nil
abbrev X4:=@List.length_drop
abbrev X5:=@List.any_eq_true
abbrev X6:=@Nat.le_of_not_lt
abbrev X7:=@Array.getElem?_append_left
abbrev X8:=@List.take_length
abbrev X9:=@Array.getElem?_eq_getElem
abbrev Ya:=@List.set_cons_succ
abbrev Yb:=@Array.getElem?_append_right
abbrev Yc:=@List.take_append_drop
abbrev Yd:=@List.drop_drop
abbrev Ye:=@Nat.eq_zero_or_pos
abbrev Yf:=@List.all_cons
abbrev Yg:=@List.mem_append
abbrev Yh:=@List.pairwise_cons
abbrev Yi:=@List.set_cons_zero
abbrev Yj:=@List.mem_of_mem_take
abbrev Yk:=@Nat.le_of_lt
abbrev Yl:=@Bool.eq_iff_iff
abbrev Ym:=@Nat.not_lt_zero
abbrev Yn:=@Int.toNat_of_nonneg
abbrev Yo:=@Array.getElem?_replicate
abbrev Yp:=@List.take_of_length_le
abbrev Yq:=@Nat.add_comm
abbrev Yr:=@List.cons_append
abbrev Ys:=@List.drop_eq_getElem_cons
abbrev Yt:=@List.getElem?_range
abbrev Yu:=@Nat.mul_le_mul_right
abbrev Yv:=@List.drop_zero
abbrev Yw:=@List.flatten_append
abbrev Yx:=@List.nil_append
abbrev Yy:=@List.length_eq_zero_iff
abbrev Yz:=@Int.mul_assoc
abbrev YA:=@Int.le_refl
abbrev YB:=@List.map_append
abbrev YC:=@Array.getElem?_setIfInBounds_ne
abbrev YD:=@List.range_succ
abbrev YE:=@List.drop_eq_nil_of_le
abbrev YF:=@Array.toList_map
abbrev YG:=@Array.length_toList
abbrev YH:=@List.getElem?_zip_eq_some
abbrev YI:=@Bool.true_and
abbrev YJ:=@List.mem_cons_self
abbrev YK:=@List.take_add_one
abbrev YL:=@List.drop_one
abbrev YM:=@List.size_toArray
abbrev YN:=@Array.toList_inj
abbrev YO:=@Nat.le_mul_of_pos_right
abbrev YP:=@Array.foldl_toList
abbrev YQ:=@Bool.or_eq_false_iff
abbrev YR:=@Bool.and_true
abbrev YT:=@Int.mul_nonneg
abbrev YU:=@List.tail_cons
abbrev YV:=@List.mem_cons_of_mem
abbrev YW:=@Bool.false_ne_true
abbrev YX:=@List.eq_of_mem_replicate
abbrev YY:=@List.mem_toArray
theorem ah{p:Prop}(h:p:=by omega):p:=h
theorem ai{p:Prop}(h:p:=by kernel_rfl):p:=h
theorem az{p:Prop}(h:p:=by exact J8 rfl):p:=h
theorem aD{p:Prop}(h:p:=by decide):p:=h
theorem aN{p:Prop}(h:p:=by simp):p:=h
theorem aU{p:Prop}(h:p:=by exact Nat.le_of_ble_eq_true rfl):p:=h
theorem bk{p:Prop}(h:p:=by simp only [pS,Value.cells,Nat.reduceAdd]<;>rfl):p:=h
theorem bm{p:Prop}(h:p:=by exact .inr rfl):p:=h
theorem bo{p:Prop}(h:p:=by simp<;>omega):p:=h
theorem b7{p:Prop}(h:p:=by simp only [cS]<;>rfl):p:=h
theorem cr{p:Prop}(h:p:=by exact λh_=>by(try dsimp only at h_)<;>omega):p:=h
theorem cE{p:Prop}(h:p:=by simp [Op.operands]):p:=h
theorem cJ{p:Prop}(h:p:=by simp;omega):p:=h
theorem c7{p:Prop}(h:p:=by simp only [pS,Value.cells,Nat.reduceAdd,ct]<;>rfl):p:=h
theorem dc{p:Prop}(h:p:=by simp only [pS,Value.cells,Nat.reduceAdd,bX,cF,XE,gv,sY]<;>rfl):p:=h
theorem dz{p:Prop}(h:p:=by simp only [pS,Value.cells,Nat.reduceAdd,aV,aW,bn]<;>rfl):p:=h
theorem dG{p:Prop}(h:p:=by simp only [pS,Value.cells,Nat.reduceAdd,bX,cF,XE,gv,jW,jV,hgj,jP,jQ,jY,jZ,j4,j5,j6,j7]<;>rfl):p:=h
theorem dP{p:Prop}(h:p:=by simp only [cS]<;>omega):p:=h
theorem dQ{p:Prop}(h:p:=by exact λh_=>by(try dsimp only at h_)<;>first|omega|exact h_.elim):p:=h
theorem ec{p:Prop}(h:p:=by simp only [pS,Value.cells,Nat.reduceAdd,svE,fw]<;>rfl):p:=h
theorem ej{p:Prop}(h:p:=by exact λhj_=>by(exfalso;omega)):p:=h
theorem ek{p:Prop}(h:p:=by simp only [pS,Value.cells,Nat.reduceAdd,bX,cF,ct]<;>rfl):p:=h
theorem ew{p:Prop}(h:p:=by simp only [pS,Value.cells,Nat.reduceAdd,bX]<;>rfl):p:=h
theorem eL{p:Prop}(h:p:=by rfl):p:=h
theorem fe{p:Prop}(h:p:=by simp only [pS,Value.cells,Nat.reduceAdd,ct,bX,cF]<;>rfl):p:=h
theorem fl{p:Prop}(h:p:=by simp [Op.operands,Call.operands]):p:=h
theorem fz{p:Prop}(h:p:=by simp only [pS,Value.cells,Nat.reduceAdd,bX,jR]<;>rfl):p:=h
theorem gP{p:Prop}(h:p:=by simp only [pS,Value.cells,Nat.reduceAdd,ct,gK,bK]<;>rfl):p:=h
theorem gQ{p:Prop}(h:p:=by exact J8 rfl):p:=h
theorem gR{p:Prop}(h:p:=by exact λhj_=>by(simp [KR];done)):p:=h
theorem ib{p:Prop}(h:p:=by simp only [pS,Value.cells,Nat.reduceAdd,ct,uT]<;>rfl):p:=h
theorem iF{p:Prop}(h:p:=by simp only [pS,Value.cells,Nat.reduceAdd,aV,aW,bn,bU,bK,cp,cq,eM,eH,dS,dT]<;>rfl):p:=h
theorem jo{p:Prop}(h:p:=by exact λj_ hj_ h_=>by exact h_):p:=h
theorem jt{p:Prop}(h:p:=by simp only [pS,Value.cells,Nat.reduceAdd,aV,aW,bn,bU,bK,cp,cq,kK]<;>rfl):p:=h
theorem jU{p:Prop}(h:p:=by simp only [pS,Value.cells,Nat.reduceAdd,aV,aW,bn,bU,bK,cp,cq]<;>rfl):p:=h
theorem kE{p:Prop}(h:p:=by exact λj_ hj_ h_=>by(subst h_;simp [KR];done)):p:=h
theorem kF{p:Prop}(h:p:=by simp only [pS,Value.cells,Nat.reduceAdd,aV,aW,bn,bU,bK,cp,cq,fM,fN]<;>rfl):p:=h
theorem kG{p:Prop}(h:p:=by exact λh_=>by(try dsimp only at h_)<;>rcases h_ with h_|h_<;>omega):p:=h
theorem lh{p:Prop}(h:p:=by exact λj_ hj_ h_=>by(try dsimp only at h_)<;>(try subst h_)<;>(simp [KR];done)):p:=h
theorem lK{p:Prop}(h:p:=by simpa using h):p:=h
theorem mj{p:Prop}(h:p:=by rw [e];rfl):p:=h
theorem mm{p:Prop}(h:p:=by exact .nil):p:=h
theorem mn{p:Prop}(h:p:=by simp at*;omega):p:=h
theorem mR{p:Prop}(h:p:=by simp [Op.operands,Call.operands,hmem]):p:=h
theorem mS{p:Prop}(h:p:=by simpa using ht'):p:=h
theorem mT{p:Prop}(h:p:=by simpa using h1):p:=h
theorem mU{p:Prop}(h:p:=by simp only [pS,Value.cells,Nat.reduceAdd,cF]<;>rfl):p:=h
theorem nG{p:Prop}(h:p:=by rw [tN,ha];rfl):p:=h
theorem nH{p:Prop}(h:p:=by(simp only [pS,Value.cells,Nat.reduceAdd,cF,bU,bK]<;>rfl)):p:=h
theorem nI{p:Prop}(h:p:=by simp only [pS,Value.cells,Nat.reduceAdd,aV,aW,bn,eI]<;>rfl):p:=h
theorem oS{p:Prop}(h:p:=by simpa using he):p:=h
theorem oU{p:Prop}(h:p:=by have:=hlt q hq (by omega);omega):p:=h
theorem qt{p:Prop}(h:p:=by exact λj_ hj_ h_=>by(try dsimp only at h_)<;>(try subst h_)<;>rfl):p:=h
theorem rU{p:Prop}(h:p:=by simpa [cellsA]using hl.symm):p:=h
theorem rV{p:Prop}(h:p:=by rw [iy];exact h1):p:=h
theorem rW{p:Prop}(h:p:=by simp only [pS,Value.cells,Nat.reduceAdd,qM]<;>rfl):p:=h
theorem rX{p:Prop}(h:p:=by rw [X4];omega):p:=h
theorem rY{p:Prop}(h:p:=by simp only [pS,Value.cells,Nat.reduceAdd,aV,aW]<;>rfl):p:=h
theorem rZ{p:Prop}(h:p:=by simp only [pS,Value.cells,Nat.reduceAdd,aV,aW,bn,rO,sA]<;>rfl):p:=h
theorem ug{p:Prop}(h:p:=by exact λb hb=>by have hb':some w.heap.size=some b:=hb;cases hb';exact Xf _):p:=h
theorem uh{p:Prop}(h:p:=by(simp only [pS,Value.cells,Nat.reduceAdd]<;>rfl)):p:=h
theorem xh{p:Prop}(h:p:=by exact λhj_=>by(exact Or.inr (Or.inr (Or.inr (Or.inr (Or.inr ⟨q0,hq0,rfl⟩)))))):p:=h
theorem xi{p:Prop}(h:p:=by rw [YB,hR.keys];rfl):p:=h
theorem xj{p:Prop}(h:p:=by rw [pR];exact hfm.trans (zM ha_)):p:=h
theorem xk{p:Prop}(h:p:=by simp only [pS,Value.cells,Nat.reduceAdd,iE]<;>rfl):p:=h
theorem AU{p:Prop}(h:p:=by exact λj_ hj_ h_=>by(try dsimp only at h_)<;>(try subst h_)<;>first|exact h_.elim|(first|exact Or.inr (Or.inr (Or.inr (Or.inr (Or.inr ⟨q0,hq0,rfl⟩))))|(simp [KR];done))|rfl|(simp;done)|(exfalso;omega)):p:=h
theorem AX{p:Prop}(h:p:=by exact λq_ h1_ h2_=>by(have:=hlt2 q_ h1_ (by omega);omega)):p:=h
theorem AY{p:Prop}(h:p:=by exact λj_ hj_ h_=>by(try dsimp only at h_)<;>(try subst h_)<;>first|exact h_.elim|rfl|(simp;done)|(exfalso;omega)):p:=h
theorem II{p:Prop}(h:p:=by rw [fF (λl hl=>hk l (Yj hl))];simp;rw [XW (by omega)];omega):p:=h
theorem IJ{p:Prop}(h:p:=by exact λj_ hj_ h_=>by(try dsimp only at h_)<;>rcases h_ with h_|h_<;>subst h_<;>first|(simp [KR];done)|(exfalso;omega)):p:=h
def Ext(w w':World):Prop:=Below w.heap.size w w'
theorem Ext.refl(w:World):Ext w w:=Below.refl _ w
theorem Ext.trans{a b c:World}(h:Ext a b)(k:Ext b c):Ext a c:=Below.trans h (k.mono h.size)
theorem Ext.drew{a b:World}(h:Ext a b):Ext a b.drew:=Below.drew h
theorem Ext.alloc{a b:World}(h:Ext a b)(o:Obj):Ext a (b.alloc o):=Below.alloc h h.size o
theorem Ext.setCell{a b:World}(h:Ext a b){p:Addr}(hp:a.heap.size<=p.block)(v:Value):Ext a (b.setCell p v):=Below.setCell h hp v
theorem Ext.one(w:World):Ext w {w with drawn:=w.drawn+1}:=⟨rfl,rfl,rfl,Xf _,λ_ _=>rfl⟩
def dw(P:Program)(φ:Value->World->Prop):Result Next->Prop
 | .ok (.value u) w'=>φ u w'
 | .ok .skip w'=>φ undef w'
 | .ok (.enter f args) w'=>Calls P f args w' λe w''=>∃ u,e= .returned u/\φ u w''
 | _=>False
theorem KO{P:Program}{φ:Value->World->Prop}(u:Value)(w:World):dw P φ (.ok (.value u) w)=φ u w:=rfl
theorem K2{P:Program}{φ:Value->World->Prop}(w:World):dw P φ (.ok .skip w)=φ undef w:=rfl
section
variable {P:Program} {ops:Array Oper}
theorem Oper.yS{o:Oper}{a:Act}{w:World}{φ:Value->World->Prop}{K:Act->World->Prop}{Q:Exit->Act->World->Prop}
 (hK:∀ v w',φ v w'->K (a.put o.dst v) w')(h:dw P φ ((execOp a.eval o).run P w)):o.wp P a w K Q:=by
 unfold Oper.wp;generalize (execOp a.eval o).run P w=r at*;cases r with
 | ok n w'=>
  cases n<;>simp only [dw]at h<;>simp only [Oper.upon]
  case value u=>exact hK _ _ h
  case skip=>exact hK _ _ h
  case enter f args=>
   exact h.mono λe w'' ⟨u,he,hu⟩=>by subst he;exact hK _ _ hu
 | halt x w'=>simp only [dw]at h
def cQ(V:Nat->Value)(m:Nat->Bool):List Oper->Nat->Act->Act
 | [],_,a=>a
 | o::l,k,a=>cQ V m l (k+1) (if m k then a.put o.dst (V k)else a)
def dn(V:Nat->Value):List Oper->Nat->Act->Act
 | [],_,a=>a
 | o::l,k,a=>dn V l (k+1) (a.put o.dst (V k))
theorem qa(V:Nat->Value)(m:Nat->Bool):∀ (l:List Oper) (k:Nat) (a:Act),(∀ i,i<l.length->m (k+i)=true)->cQ V m l k a=dn V l k a
 | [],_,_,_=>rfl
 | o::l,k,a,h=>by
  have h0:m k=true:=by simpa using h 0 (by simp)
  simp only [cQ,dn,h0,if_true];exact qa V m l (k+1) _ λi hi=>by have:=h (i+1) (by simp;omega);rwa [XQ,Yq 1 i]
theorem pV(V:Nat->Value)(m:Nat->Bool):∀ (l:List Oper) (k:Nat) (a:Act),(∀ i,i<l.length->m (k+i)=false)->cQ V m l k a=a
 | [],_,_,_=>rfl
 | o::l,k,a,h=>by
  have h0:m k=false:=by simpa using h 0 (by simp)
  simp only [cQ,h0];exact pV V m l (k+1) _ λi hi=>by have:=h (i+1) (by simp;omega);rwa [XQ,Yq 1 i]
theorem Pj(a:Act){x y:Option Tmp}(v u:Value)(h:∀ d,x=some d->y≠some d):(a.put x v).put y u=(a.put y u).put x v:=Act.put_comm a v u h
theorem EB(V:Nat->Value)(m:Nat->Bool)(d:Option Tmp)(v:Value):∀ (l:List Oper) (k:Nat) (a:Act),
 (∀ (i:Nat) (o:Oper),l[i]? =some o-> ∀ t,d=some t->o.dst≠some t)->(cQ V m l k a).put d v=cQ V m l k (a.put d v)
 | [],_,_,_=>rfl
 | o::l,k,a,h=>by
  have h0:=h 0 o rfl;have ih:=λb=>EB V m d v l (k+1) b λi o' ho=>h (i+1) o' (by simpa using ho)
  simp only [cQ];cases m k
  ·exact ih a
  ·simp only [if_true];rw [ih,Pj a (V k) v λt ht hd=>h0 t hd ht]
theorem rf(V V':Nat->Value)(m m':Nat->Bool):∀ (l:List Oper) (k:Nat) (a:Act),(∀ i,i<l.length->m (k+i)=m' (k+i)/\(m (k+i)=true->V (k+i)=V' (k+i)))->
 cQ V m l k a=cQ V' m' l k a
 | [],_,_,_=>rfl
 | o::l,k,a,h=>by
  have h0:=h 0 (by simp);simp only [Xr]at h0;have ih:=λb=>rf V V' m m' l (k+1) b λi hi=>by have:=h (i+1) (by simp;omega);rwa [XQ,Yq 1 i]
  simp only [cQ];rw [<- h0.1];cases hm:m k
  ·exact ih a
  ·simp only [if_true];rw [h0.2 hm];exact ih _
theorem vv(V:Nat->Value)(m:Nat->Bool)(v:Value):∀ (l:List Oper) (k:Nat) (a:Act) (i:Nat) (o:Oper),l[i]? =some o->m (k+i)=false->
 (∀ (j:Nat) (o':Oper),l[j]? =some o'->j≠i-> ∀ t,o.dst=some t->o'.dst≠some t)->
 (cQ V m l k a).put o.dst v=cQ (λj=>if j=k+i then v else V j) (λj=>if j=k+i then true else m j) l k a
 | [],_,_,_,_,hi,_,_=>by simp at hi
 | o1::l,k,a,0,o,hi,hm,hd=>by
  have:o1=o:=by simpa using hi
  subst this;simp only [Xr]at hm ⊢;simp only [cQ,hm,if_true,Xi,if_false];rw [EB V m o1.dst v l (k+1) _ λi o' ho=>hd (i+1) o' (by simpa using ho) (by omega)];refine rf _ _ _ _ l (k+1) _ λi hi=>?_
  have:k+1+i≠k:=by omega
  simp [this]
 | o1::l,k,a,i+1,o,hi,hm,hd=>by
  have hk:k≠k+(i+1):=by omega
  simp only [cQ,if_neg hk];have:=vv V m v l (k+1) (if m k=true then a.put o1.dst (V k)else a) i o (by simpa using hi) (by rw [<- hm];congr 1;omega)
   (λj o' ho hj=>hd (j+1) o' (by simpa using ho) (by omega))
  rw [this];refine rf _ _ _ _ l (k+1) _ λj _=>?_
  have e:(k+1+i)=(k+(i+1)):=by omega
  rw [e];simp
theorem LN{a:Act}{d:Option Tmp}{v:Value}{t:Tmp}(h:d≠some t):(a.put d v).tmps[t]? =a.tmps[t]? :=by
 cases d with
 | none=>rfl
 | some d=>exact YC (λe=>h (by rw [e]))
theorem vw(V:Nat->Value)(m m':Nat->Bool)(t:Tmp):∀ (l:List Oper) (k:Nat) (a b:Act),a.tmps.size=b.tmps.size->a.tmps[t]? =b.tmps[t]? ->
 (∀ (i:Nat) (o:Oper),l[i]? =some o->o.dst=some t->m (k+i)=m' (k+i))->(cQ V m l k a).tmps[t]? =(cQ V m' l k b).tmps[t]?
 | [],_,_,_,_,h,_=>h
 | o::l,k,a,b,hs,h,hm=>by
  have h0:=hm 0 o rfl;simp only [Xr]at h0;have ih:=λa b hs h=>vw V m m' t l (k+1) a b hs h λi o' ho hd=>by have:=hm (i+1) o' (by simpa using ho) hd;rwa [XQ,Yq 1 i]
  have size:∀ (c:Act) (x:Bool),(if x=true then c.put o.dst (V k)else c).tmps.size =c.tmps.size:=λc x=>by
   cases x<;>cases ho:o.dst<;>simp [Act.put]
  simp only [cQ];refine ih _ _ (by rw [size,size];exact hs) ?_
  by_cases hd:o.dst=some t
  ·rw [h0 hd];cases m' k
   ·exact h
   ·simp only [if_true,hd,Act.put];simp [Array.getElem?_setIfInBounds,hs]
  ·have hne:∀ (c:Act) (x:Bool),(if x=true then c.put o.dst (V k)else c).tmps[t]? =c.tmps[t]? :=λc x=>by
    cases x
    ·rfl
    ·exact LN hd
   rw [hne,hne];exact h
def nB(F:Nat->Value->World->Prop)(V:Nat->Value)(w:World):List Edge->Prop
 | []=>True
 | e::l=>(if Region.binds .any e=true then F e.on (V e.on) w else True)/\nB F V w l
theorem yJ{F:Nat->Value->World->Prop}{V:Nat->Value}{w:World}:∀ {l:List Edge},(∀ e∈l,Region.binds .any e=true->F e.on (V e.on) w)->nB F V w l
 | [],_=>trivial
 | e::l,h=>⟨by split;exact h e (by simp) (by assumption);trivial,yJ λe' he hb=>h e' (by simp [he]) hb⟩
def wo(m:Nat->Bool):List Edge->Prop
 | []=>True
 | e::l=>(if Region.binds .any e=true then m e.on=true else True)/\wo m l
theorem yK{m:Nat->Bool}:∀ {l:List Edge},(∀ e∈l,Region.binds .any e=true->m e.on=true)->wo m l
 | [],_=>trivial
 | e::l,h=>⟨by split;exact h e (by simp) (by assumption);trivial,yK λe' he hb=>h e' (by simp [he]) hb⟩
def qf(F:Nat->Value->World->Prop)(V:Nat->Value)(w:World):Nat->Prop
 | 0=>True
 | n+1=>qf F V w n/\F n (V n) w
theorem yL{F:Nat->Value->World->Prop}{V:Nat->Value}{w:World}:∀ {n:Nat},(∀ k,k<n->F k (V k) w)->qf F V w n
 | 0,_=>trivial
 | n+1,h=>⟨yL λk hk=>h k (by omega),h n (by omega)⟩
def Steps(P:Program)(ops:Array Oper)(B:(Nat->Bool)->World->Prop)(F:Nat->Value->World->Prop)(V:Nat->Value):List Oper->Nat->Act->Prop
 | [],_,_=>True
 | o::l,k,a=>(∀ m w,m k=false->wo m o.after.toList->B m w->nB F V w o.after.toList->
  if Region.wanted o (yielded ops a.tmps)then dw P (λv w'=>F k v w'/\B (λj=>j==k||m j) w'/\ ∀ j u,j≠k->m j=true->F j u w->F j u w') ((execOp a.eval o).run P w)else F k undef w/\B (λj=>j==k||m j) w)/\
  Steps P ops B F V l (k+1) (a.put o.dst (V k))
def fm(o:Oper)(k:Nat):Bool:=o.after.toList.any λe=>e.on==k&&Region.binds .any e
def oV(ops:Array Oper)(k i:Nat):Bool:=match ops[k]? with
 | none=>false
 | some o=>fm o i
def xl(o:Oper)(i:Nat):Bool:=o.after.toList.all λe=> !Region.binds .any e||decide (e.on<i)
def fo(ops:Array Oper)(n:Nat):Bool:=
 Region.noSelect ops&&decide (n<=ops.size)&&
 ((List.range n).all λi=>match ops[i]? with
  | none=>false
  | some o=>xl o i&&(match o.guard with|none=>true|some (g,_)=>fm o g)&&
   ((List.range n).all λk=>match (ops[k]?).bind (·.dst)with
    | none=>true
    | some t=>(!(o.looksAt ops).contains t||(decide (k<i)&&fm o k)||(decide (i<k)&&oV ops k i))&&(k==i||o.dst != some t)))&&
 (decide (n=ops.size)||(decide (n<ops.size)&&Region.sinkB .any ops n&&Region.chainB .any ops n))&&
 Region.seqB .any ops (ops.size - n) n ((List.range n).foldl (λl i=>l.setIfInBounds i true) (Array.replicate ops.size false))
def fC(listed:Array Bool):Nat->Nat
 | 0=>0
 | n+1=>fC listed n+(if listed.getD n false then 0 else 1)
theorem zX{listed:Array Bool}{i:Nat}(hs:i<listed.size)(h:listed.getD i false=false):∀ n,i<n->fC (listed.setIfInBounds i true) n+1=fC listed n:=by
 have far:∀ n,n<=i->fC (listed.setIfInBounds i true) n=fC listed n:=by
  intro n
  induction n with
  | zero=>intro _;rfl
  | succ n ih=>
   intro hn;simp only [fC];rw [ih (by omega),getD_set_ne false (by omega)]
 intro n
 induction n with
 | zero=>intro h;omega
 | succ n ih=>
  intro hn;simp only [fC]
  by_cases hin:i=n
  ·subst hin;rw [far i (Xf _),h];have:(listed.setIfInBounds i true).getD i false=true:=by simp [hs]
   rw [this];simp
  ·have:=ih (by omega);rw [getD_set_ne false hin];omega
theorem ta{listed:Array Bool}:∀ {n:Nat},fC listed n=0-> ∀ i,i<n->listed.getD i false=true
 | 0,_,_,hi=>by omega
 | n+1,h,i,hi=>by
  simp only [fC]at h
  by_cases hin:i=n
  ·subst hin;cases hb:listed.getD i false with
   | true=>rfl
   | false=>rw [hb]at h;simp at h
  ·exact ta (n:=n) (by omega) i (by omega)
theorem wq{listed:Array Bool}:∀ {n:Nat},fC listed n≠0-> ∃ i,i<n/\listed.getD i false=false/\ ∀ j,j<i->listed.getD j false=true
 | 0,h=>absurd rfl h
 | n+1,h=>by
  by_cases h0:fC listed n=0
  ·refine⟨n,by omega,?_,λj hj=>ta h0 j hj⟩;simp only [fC,h0]at h;cases hb:listed.getD n false with
   | true=>rw [hb]at h;simp at h
   | false=>rfl
  ·obtain⟨i,hi,h1,h2⟩:=wq h0;exact⟨i,by omega,h1,h2⟩
theorem zm{B:(Nat->Bool)->World->Prop}{F:Nat->Value->World->Prop}{V:Nat->Value}:∀ {l:List Oper} {k:Nat} {a:Act},Steps P ops B F V l k a-> ∀ {i:Nat} {o:Oper},l[i]? =some o->
 ∀ m w,m (k+i)=false->wo m o.after.toList->B m w->nB F V w o.after.toList->
  if Region.wanted o (yielded ops (dn V (l.take i) k a).tmps)then dw P (λv w'=>F (k+i) v w'/\B (λj=>j==k+i||m j) w'/\ ∀ j u,j≠k+i->m j=true->F j u w->F j u w') ((execOp (dn V (l.take i) k a).eval o).run P w)
  else F (k+i) undef w/\B (λj=>j==k+i||m j) w
 | [],_,_,_,_,_,hi=>by simp at hi
 | o1::l,k,a,h,0,o,hi=>by
  have:o1=o:=by simpa using hi
  subst this;exact h.1
 | o1::l,k,a,h,i+1,o,hi=>by
  have:=zm h.2 (i:=i) (o:=o) (by simpa using hi)
  simpa [dn,XQ,Yq 1 i]using this
theorem pK(n m:Nat):((List.range n).foldl (λl i=>l.setIfInBounds i true) (Array.replicate m false)).size =m:=by
 induction n with
 | zero=>simp
 | succ n ih=>rw [YD,List.foldl_append];simpa using ih
theorem yy(n m j:Nat)(hj:j<m):((List.range n).foldl (λl i=>l.setIfInBounds i true) (Array.replicate m false)).getD j false=decide (j<n):=by
 induction n with
 | zero=>simp [hj]
 | succ n ih=>
  rw [YD,List.foldl_append];simp only [List.foldl_cons,List.foldl_nil]
  by_cases h:n=j
  ·subst h;have:=pK n m;simp [this,hj]
  ·rw [getD_set_ne false h,ih];simp;omega
theorem rm{o:Oper}{t:Tmp}(h:Operand.tmp t∈o.op.operands):(o.looksAt ops).contains t=true:=by
 have:t∈o.looksAt ops:=List.mem_append_left _ (List.mem_filterMap.2 ⟨.tmp t,by simpa using h,rfl⟩)
 simpa using this
theorem pN{o:Oper}{g:Nat}{b:Bool}{t:Tmp}(hg:o.guard=some (g,b))(h:(ops[g]?).bind (·.dst)=some t):(o.looksAt ops).contains t=true:=by
 have:t∈o.looksAt ops:=by
  unfold Oper.looksAt;rw [hg];exact List.mem_append_right _ (by simp [h])
 simpa using this
theorem SV{Q:Exit->Act->World->Prop}{a0:Act}{w0:World}{l:List Oper}(n:Nat)(B:(Nat->Bool)->World->Prop)(F:Nat->Value->World->Prop)(ex:Nat->Option Value)
 (hB:fo l.toArray n=true)(hb:B (λ_=>false) {w0 with drawn:=w0.drawn+1})(hex:∀ k v w,F k v w-> ∀ c,ex k=some c->v=c)
 (steps:∀ V,(∀ k c,ex k=some c->V k=c)->Steps P l.toArray B F V (l.take n) 0 a0)
 (tail:∀ V w,(∀ k c,ex k=some c->V k=c)->B (λk=>decide (k<n)) w->qf F V w n->wpList P l.toArray Q (l.drop n) (dn V (l.take n) 0 a0) w):wpAny P .any l.toArray Q l.toArray.size (Array.replicate l.toArray.size false) a0 {w0 with drawn:=w0.drawn+1}:=by
 simp only [fo,Xg,decide_eq_true_eq]at hB;obtain⟨⟨⟨⟨hsel,hn⟩,hheads⟩,htails⟩,hseq⟩:=hB;have hn':n<=l.length:=by simpa using hn
 have htl:(l.take n).length =n:=by simp;omega
 have hopl:∀ i:Nat,l.toArray[i]? =l[i]? :=λi=>by simp
 have htk:∀ i:Nat,i<n->(l.take n)[i]? =l[i]? :=λi hi=>by simp [hi]
 -- what the Bool says of a head
 have head:∀ i o,i<n->l[i]? =some o->(∀ e∈o.after,Region.binds .any e=true->e.on<i)/\(∀ g b,o.guard=some (g,b)->fm o g=true)/\
  ∀ k t,k<n->(l[k]?).bind (·.dst)=some t->((o.looksAt l.toArray).contains t=true->(k<i/\fm o k=true)\/(i<k/\oV l.toArray k i=true))/\(k=i\/o.dst≠some t):=by
  intro i o hi ho;have h1:=Xv.1 hheads i (XX.2 hi);rw [hopl,ho]at h1;simp only [Xg]at h1;obtain⟨⟨h1,h2⟩,h3⟩:=h1;refine⟨λe he hb=>?_,λg b hg=>?_,λk t hk ht=>?_⟩
  ·have:=Xv.1 h1 e (by simpa using he)
   simpa [hb]using this
  ·rw [hg]at h2;exact h2
  ·have:=Xv.1 h3 k (XX.2 hk);rw [hopl,ht]at this;simp only [Xg,X1,XF,decide_eq_true_eq,beq_iff_eq,bne_iff_ne,ne_eq]at this;exact⟨λhc=>by
    rcases this.1 with(h|h)|h
    ·exact absurd h (by rw [hc];simp)
    ·exact .inl h
    ·exact .inr h,this.2⟩
 have waits:∀ {o:Oper} {k:Nat},fm o k=true-> ∃ e∈o.after,e.on=k/\Region.binds .any e=true:=λ{o k} h=>by
  obtain⟨e,he,hk⟩:=X5.1 h;exact⟨e,by simpa using he,by simpa using hk⟩
 -- a tail waits
 have tails:∀ (i0:Nat),i0<n-> ∀ listed:Array Bool,HeadInv .any l.toArray n listed->listed.getD i0 true=false-> ∀ t,n<=t->t<l.length->t∉Region.ready .any l.toArray listed:=by
  intro i0 hi0 listed inv hun t ht htlt;simp only [X1,Xg,decide_eq_true_eq]at htails;rcases htails with he|⟨⟨h1,h2⟩,h3⟩
  ·simp only [YM]at he;omega
  ·exact tail_waits h2 h3 h1 inv _ i0 rfl hi0 hun t ht
 -- the run
 have key:∀ (h:Nat) (listed:Array Bool) (w:World) (V:Nat->Value),(∀ k c,ex k=some c->V k=c)->fC listed n=h->listed.size=l.length->HeadInv .any l.toArray n listed->(∀ t,n<=t->listed.getD t false=false)->B (λk=>listed.getD k false) w->
  (∀ k,k<n->listed.getD k false=true->F k (V k) w)->
  wpAny P .any l.toArray Q (h+(l.length - n)) listed (cQ V (λk=>listed.getD k false) (l.take n) 0 a0) w:=by
  intro h
  induction h with
  | zero=>
   intro listed w V hV hu hsz inv hta hBw hF;have hall:=ta hu;have hcan:listed=(List.range n).foldl (λl i=>l.setIfInBounds i true) (Array.replicate l.toArray.size false):=by
    refine Array.ext (by rw [pK];simpa using hsz) λj h1 h2=>?_
    have e1:listed.getD j false=listed[j]:=by simp [h1]
    have e2:=yy n l.toArray.size j (by rw [pK]at h2;exact h2);rw [Xn,X9 h2,Option.getD_some]at e2;rw [e2, <- e1]
    by_cases hjn:j<n
    ·rw [hall j hjn];simp [hjn]
    ·rw [hta j (by omega)];simp [hjn]
   rw [qa V _ (l.take n) 0 a0 λi hi=>by rw [Xl];exact hall i (by rw [htl]at hi;exact hi)];have hdl:(l.drop n).length =l.toArray.size - n:=by simp
   have:=wpAny_of_seq (P:=P) (md:=.any) (Q':=Q) (l.drop n) n listed (dn V (l.take n) 0 a0) w (λj=>by simp [XH]) (by rw [hdl,hcan];exact hseq)
    (tail V w hV (by rwa [show(λk=>listed.getD k false)=(λk=>decide (k<n))from funext λk=>by
     by_cases hk:k<n
     ·rw [hall k hk];simp [hk]
     ·rw [hta k (by omega)];simp [hk]]at hBw) (yL λk hk=>hF k hk (hall k hk)))
   rw [Xl]
   simpa using this
  | succ h ih=>
   intro listed w V hV hu hsz inv hta hBw hF;rw [show h+1+(l.length - n)=(h+(l.length - n))+1 by omega];obtain⟨i0,hi0,hi1,hi2⟩:=wq (listed:=listed) (n:=n) (by omega);refine⟨λh0=>?_,λi hi=>?_⟩
   ·
    obtain⟨o,ho⟩:∃ o,l[i0]? =some o:=⟨l[i0]'(by omega),Xd _⟩;have:i0∈Region.ready .any l.toArray listed:=mem_ready.2 ⟨getD_in (by omega) hi1,o,by rw [hopl];exact ho,λe he hb=>hi2 _ ((head i0 o hi0 ho).1 e he hb)⟩;rw [h0]at this;cases this
   ·obtain⟨hun,o,ho,hall⟩:=mem_ready.1 hi;rw [hopl]at ho;have hlt:i<l.length:=by rcases XC i l.length with h|h;exact h;rw [Xq h]at ho;cases ho
    have hin:i<n:=by
     rcases XC i n with h|h
     ·exact h
     ·exact absurd hi (tails i0 hi0 listed inv (getD_in (by omega) hi1) i h hlt)
    obtain⟨hed,hgd,hlk⟩:=head i o hin ho;have hdeps:∀ e∈o.after,Region.binds .any e=true->listed.getD e.on false=true:=λe he hb=>hall e he hb
    have hfalse:listed.getD i false=false:=getD_both hun
    -- the frame as the text has it looks the same to this operation
    have same:∀ t,(o.looksAt l.toArray).contains t=true->(cQ V (λk=>listed.getD k false) (l.take n) 0 a0).tmps[t]? =(dn V (l.take i) 0 a0).tmps[t]? :=by
     intro t ht;have e1:dn V (l.take i) 0 a0=cQ V (λk=>decide (k<i)) (l.take n) 0 a0:=by
      have:l.take n=l.take i++(l.take n).drop i:=by
       conv=>lhs;rw [<- Yc i (l.take n)]
       rw [X2,XW (by omega)]
      rw [this];have app:∀ (l1 l2:List Oper) (k:Nat) (a:Act) (m:Nat->Bool),cQ V m (l1++l2) k a=cQ V m l2 (k+l1.length) (cQ V m l1 k a):=by
       intro l1
       induction l1 with
       | nil=>intro l2 k a m;rfl
       | cons x l1 ih=>intro l2 k a m;simp only [Yr,cQ,Xo];rw [ih];congr 1;omega
      rw [app,pV,qa]
      ·intro j hj;simp at hj ⊢;omega
      ·intro j hj;simp at hj ⊢;omega
     rw [e1];refine vw V _ _ t (l.take n) 0 a0 a0 rfl rfl λk ok hk hd=>?_
     have hkn:k<n:=by rcases XC k n with h|h;exact h;rw [Xq (by rw [htl];exact h)]at hk;cases hk
     rw [htk k hkn]at hk;rcases (hlk k t hkn (by rw [hk];exact hd)).1 ht with⟨h1,h2⟩|⟨h1,h2⟩
     ·obtain⟨e,he,hek,hb⟩:=waits h2;have:=hdeps e he hb;rw [hek]at this;simp only [Xl];rw [this];simp [h1]
     ·have hkf:listed.getD k false=false:=by
       cases hbk:listed.getD k false with
       | false=>rfl
       | true=>
        have hk':l.toArray[k]? =some ok:=by rw [hopl];exact hk
        unfold oV at h2;rw [hk']at h2;obtain⟨e,he,hek,hb⟩:=waits h2;have:=inv.closed k ok hk' hbk e he hb;rw [hek,hfalse]at this;cases this
      simp only [Xl];rw [hkf];simp;omega
    have hexec:execOp (cQ V (λk=>listed.getD k false) (l.take n) 0 a0).eval o=execOp (dn V (l.take i) 0 a0).eval o:=
     execOp_congr o (λcs b=>Region.noSelect_spec hsel i o cs b (by rw [hopl];exact ho)) λx hx=>by
      cases x with
      | tmp t=>
       have:=same t (rm hx)
       show Array.getD _ t undef=Array.getD _ t undef
       rw [Xn,Xn,this]
      | _=>rfl
    have hwant:Region.wanted o (yielded l.toArray (cQ V (λk=>listed.getD k false) (l.take n) 0 a0).tmps)=Region.wanted o (yielded l.toArray (dn V (l.take i) 0 a0).tmps):=by
     unfold Region.wanted;cases hg:o.guard with
     | none=>rfl
     | some gb=>
      obtain⟨g,b⟩:=gb;simp only []
      congr 1
      unfold yielded;cases hd:(l.toArray[g]?).bind (·.dst)with
      | none=>rfl
      | some t=>simp only [Option.bind_some];rw [same t (pN hg hd)]
    have hst:=zm (steps V hV) (i:=i) (o:=o) (by rw [htk i hin];exact ho) (λk=>listed.getD k false) w (by simpa using hfalse) (yK λe he hb=>hdeps e (by simpa using he) hb) hBw (yJ λe he hb=>by
     have he':e∈o.after:=by simpa using he
     have h1:=hed e he' hb;exact hF _ (by omega) (hdeps e he' hb))
    rw [X2,XW (Yk hin)]at hst;rw [<- hwant, <- hexec]at hst;simp only [Xl]at hst
    -- and behind it
    have hnext:∀ v w',(F i v w'/\B (λj=>j==i||listed.getD j false) w'/\ ∀ j u,j≠i->listed.getD j false=true->F j u w->F j u w')->
     wpAny P .any l.toArray Q (h+(l.length - n)) (listed.setIfInBounds i true) ((cQ V (λk=>listed.getD k false) (l.take n) 0 a0).put o.dst v) w':=by
     intro v w' ⟨h1,h2,h3⟩;have hput:=vv V (λk=>listed.getD k false) v (l.take n) 0 a0 i o (by rw [htk i hin];exact ho) (by simpa using hfalse) (λj o' ho' hj t ht hd=>by
      have hjn:j<n:=by rcases XC j n with h|h;exact h;rw [Xq (by rw [htl];exact h)]at ho';cases ho'
      rw [htk j hjn]at ho';rcases (hlk j t hjn (by rw [ho'];exact hd)).2 with h|h
      ·exact hj h
      ·exact h ht)
     rw [hput];simp only [Xl];have hcongr:cQ (λj=>if j=i then v else V j) (λj=>if j=i then true else listed.getD j false) (l.take n) 0 a0=
      cQ (λj=>if j=i then v else V j) (λk=>(listed.setIfInBounds i true).getD k false) (l.take n) 0 a0:=by
      refine rf _ _ _ _ _ _ _ λj _=>⟨?_,λ_=>rfl⟩
      simp only [Xl]
      by_cases hji:j=i
      ·subst hji;rw [if_pos rfl];simp [show j<listed.size by omega]
      ·rw [if_neg hji,getD_set_ne false (Ne.symm hji)]
     rw [hcongr];refine ih (listed.setIfInBounds i true) w' _ (λk c hc=>by
      by_cases hki:k=i
      ·subst hki;rw [if_pos rfl];exact hex k v w' h1 c hc
      ·rw [if_neg hki];exact hV k c hc) (by have:=zX (by omega) hfalse n hin;omega) (by simpa using hsz) (inv.set hi hin)
      (λt ht=>by rw [getD_set_ne false (by omega)];exact hta t ht) (by
       rwa [show(λk=>(listed.setIfInBounds i true).getD k false)=(λj=>j==i||listed.getD j false)from funext λk=>by
        by_cases hki:k=i
        ·subst hki;simp [show k<listed.size by omega]
        ·rw [getD_set_ne false (Ne.symm hki)];simp [hki]]) λk hk hl=>?_
     by_cases hki:k=i
     ·subst hki;simpa using h1
     ·rw [getD_set_ne false (Ne.symm hki)]at hl;simp only [if_neg hki];exact h3 k _ hki hl (hF k hk hl)
    unfold wpOp;rw [hopl,ho];simp only []
    split
    ·rename_i hw
     rw [if_pos hw]at hst;exact .inl (Oper.yS hnext hst)
    ·rename_i hw
     rw [if_neg hw]at hst;exact hnext undef w ⟨hst.1,hst.2,λ_ _ _ _ h=>h⟩
 have hu:fC (Array.replicate l.toArray.size false) n=n:=by
  have:∀ k,fC (Array.replicate l.toArray.size false) k=k:=by
   intro k
   induction k with
   | zero=>rfl
   | succ k ih=>simp only [fC];rw [ih,getD_replicate_false];simp
  exact this n
 have H:=key n (Array.replicate l.toArray.size false) {w0 with drawn:=w0.drawn+1} (λk=>(ex k).getD undef) (λk c hc=>by simp [hc]) hu (by simp)
  ⟨by simp,λj oj _ hl=>(by rw [getD_replicate_false]at hl;cases hl),λt _ ht=>getD_in (by simpa using ht) (getD_replicate_false _ _)⟩ (λt _=>getD_replicate_false _ _) (by simpa only [getD_replicate_false]using hb)
  (λk _ hl=>by rw [getD_replicate_false]at hl;cases hl)
 rw [pV _ _ _ _ _ (λi _=>getD_replicate_false _ _)]at H;rw [show n+(l.length - n)=l.toArray.size by simp;omega]at H;exact H
end
end Go.Proofs.YtbmlgmblfboigaaGreatDoor
namespace Go.Proofs.YtbmlgmblfboigaaGreatDoor
open Go Go.RowKit
attribute [go_sem] Instr.field asAgg
@[go_sem high] theorem Pm {P:Program} (w:World) (ts:Array TypeId) (t:TypeId) (k k':IntKind) (x y:Int):(Builtin.max_ ts t #[.int k x,.int k' y]).run P w= .ok (.int k (max x y)) w:=by
 rw [run_max_int2,show(if y>x then y else x)=max x y by omega]
@[go_sem high] theorem Pn {P:Program} (w:World) (ts:Array TypeId) (t:TypeId) (k k':IntKind) (x y:Int):(Builtin.min_ ts t #[.int k x,.int k' y]).run P w= .ok (.int k (min x y)) w:=by
 rw [run_min_int2,show(if y<x then y else x)=min x y by omega]
theorem wrap_eq(n:Int):IntKind.i64.wrap n=wrap64 n:=by rw [IntKind.wrap_i64];unfold wrap64;rfl
@[simp] theorem W9 (m n:Nat):((m:Int)==(n:Int))=(m==n):=by rw [Yl];simp [Int.natCast_inj]
@[simp] theorem Xa (m n:Nat):((m:Int) != (n:Int))=(m != n):=by simp [bne]
def Row(w:World)(b o:Nat)(xs:List Value):Prop:=b<w.heap.size/\ ∀ j u,xs[j]? =some u->w.cell? ⟨b,o+j,none⟩=some u
def Rd(w:World)(k:Nat)(a:Option Addr)(n:Nat)(xs:List Value):Prop:=
 xs.length=n*k/\(0<n-> ∃ b o,a=some ⟨b,o,none⟩/\Row w b o xs)
theorem Row.ext{w w':World}{b o:Nat}{xs:List Value}(h:Row w b o xs)(hx:Ext w w'):Row w' b o xs:=
 ⟨XG h.1 hx.size,λj u hu=>(Below.cell hx (p:=⟨b,o+j,none⟩) h.1).trans (h.2 j u hu)⟩
theorem Row.at{w:World}{b o:Nat}{xs:List Value}(h:Row w b o xs){j:Nat}{u:Value}(hu:xs[j]? =some u):w.cell? ⟨b,o+j,none⟩=some u:=h.2 j u hu
theorem Rd.ext{w w':World}{k:Nat}{a:Option Addr}{n:Nat}{xs:List Value}(h:Rd w k a n xs)(hx:Ext w w'):Rd w' k a n xs:=
 ⟨h.1,λhn=>let ⟨b,o,e,r⟩:=h.2 hn;⟨b,o,e,r.ext hx⟩⟩
theorem Rd.nil(w:World)(k:Nat)(a:Option Addr):Rd w k a 0 []:=⟨by simp,λh=>absurd h (by omega)⟩
theorem Row.new(w:World)(cs:Array Value)(t:TypeId):Row (w.alloc (.cells cs t)) w.heap.size 0 cs.toList:=
 ⟨by simp,λj u hu=>by
  have:cs[j]? =some u:=by simpa using hu
  rw [Xl,cell_of_row (w.alloc (.cells cs t)) w.heap.size j cs t (0,0) (heap_alloc_new w _)];exact this⟩
theorem Rd.new(w:World)(k n:Nat)(cs:Array Value)(t:TypeId)(h:cs.size=n*k):Rd (w.alloc (.cells cs t)) k (some ⟨w.heap.size,0,none⟩) n cs.toList:=
 ⟨by simpa using h,λ_=>⟨_,0,rfl,Row.new w cs t⟩⟩
structure SF where
 p:Value->World->Prop
 ex:Option Value
 st:∀ v w w',Ext w w'->p v w->p v w'
 law:∀ v w,p v w-> ∀ c,ex=some c->v=c
def SF.any:SF:=⟨λ_ _=>True,none,λ_ _ _ _ h=>h,λ_ _ _ _ h=>by cases h⟩
def SF.is(c:Value):SF:=⟨λv _=>v=c,some c,λ_ _ _ _ h=>h,λ_ _ h _ hc=>by cases hc;exact h⟩
def Fs(l:List SF)(i:Nat):Value->World->Prop:=(l.getD i SF.any).p
theorem V1(l:List SF)(i:Nat)(v:Value)(w w':World)(h:Ext w w')(hp:Fs l i v w):Fs l i v w':=(l.getD i SF.any).st v w w' h hp
def val(l:List SF)(V:Nat->Value)(k:Nat):Value:=((l.getD k SF.any).ex).getD (V k)
def sB(p:Value->World->Prop)(w:World)(v:Value)(w':World):Prop:=p v w'/\Ext w w'
theorem sB.mk{p:Value->World->Prop}{w w':World}{v:Value}(h:p v w')(hx:Ext w w'):sB p w v w':=⟨h,hx⟩
def sc(P:Program)(f:FuncId)(args:Array Value)(w:World)(φ:Value->World->Prop):Prop:=Calls P f args w λe w''=>∃ u,e= .returned u/\φ u w''
attribute [go_sem] KO K2
@[go_sem] theorem W8 {P:Program} {φ:Value->World->Prop} (f:FuncId) (args:Array Value) (w:World):dw P φ (.ok (.enter f args) w)=sc P f args w φ:=rfl
theorem sc.of{P:Program}{f:FuncId}{args:Array Value}{w:World}{c:Value}{p:Value->World->Prop}(h:Calls P f args w λe w'=>e= .returned c/\Ext w w')
 (hp:∀ w',Ext w w'->p c w'):sc P f args w (sB p w):=
 h.mono λ_ _ ⟨he,hx⟩=>⟨c,he,hp _ hx,hx⟩
theorem sc.same{P:Program}{f:FuncId}{args:Array Value}{w:World}{c:Value}{p:Value->World->Prop}(h:Calls P f args w λe w'=>e= .returned c/\w=w')
 (hp:p c w):sc P f args w (sB p w):=
 h.mono λ_ _ ⟨he,hx⟩=>⟨c,he,hx ▸ hp,hx ▸ Ext.refl w⟩
theorem dw.mono{P:Program}{φ ψ:Value->World->Prop}(h:∀ v w,φ v w->ψ v w){r:Result Next}(hr:dw P φ r):dw P ψ r:=by
 cases r with
 | ok n w'=>
  cases n<;>simp only [dw]at hr ⊢
  case value u=>exact h _ _ hr
  case skip=>exact h _ _ hr
  case enter f args=>exact Calls.mono hr λe w'' ⟨u,he,hu⟩=>⟨u,he,h _ _ hu⟩
 | halt x w'=>simp only [dw]at hr
def AZ(P:Program)(ops:Array Oper)(w0:World)(F:Nat->Value->World->Prop)(V:Nat->Value):List Oper->Nat->Act->Prop
 | [],_,_=>True
 | o::l,k,a=>(∀ w,Ext w0 w->nB F V w o.after.toList->if Region.wanted o (yielded ops a.tmps)then dw P (sB (F k) w) ((execOp a.eval o).run P w)else F k undef w)/\AZ P ops w0 F V l (k+1) (a.put o.dst (V k))
theorem yv{P:Program}{ops:Array Oper}{w0:World}{Fl:List SF}{V:Nat->Value}:∀ {l:List Oper} {k:Nat} {a:Act},
 AZ P ops w0 (Fs Fl) V l k a->Steps P ops (λ_=>Ext w0) (Fs Fl) V l k a
 | [],_,_,_=>trivial
 | o::l,k,a,h=>⟨λ_ w _ _ hw hf=>by
  have h1:=h.1 w hw hf
  split
  ·rename_i hy
   rw [if_pos hy]at h1;exact dw.mono (λv w' ⟨h2,h3⟩=>⟨h2,hw.trans h3,λj u _ _ hj=>V1 Fl j u w w' h3 hj⟩) h1
  ·rename_i hy
   rw [if_neg hy]at h1;exact⟨h1,hw⟩,yv h.2⟩
theorem qu{Fl:List SF}{V:Nat->Value}(h:∀ k c,(Fl.getD k SF.any).ex =some c->V k=c):val Fl V=V:=by
 funext k
 unfold val;cases he:(Fl.getD k SF.any).ex with
 | none=>rfl
 | some c=>exact(h k c he).symm
theorem Ext.below{w W w1:World}{B:Nat}(h:Ext w W)(hb:Below B W w1)(hB:w.heap.size<=B):Ext w w1:=Below.trans h (hb.mono hB)
def Bx(w:World)(B:Nat)(t:TypeId)(cs:Array Value):Prop:=w.heap[B]? =some (.cells cs t (0,0))
theorem Bx.lt{w:World}{B:Nat}{t:TypeId}{cs:Array Value}(h:Bx w B t cs):B<w.heap.size:=(Xu.1 h).1
theorem Bx.cell{w:World}{B:Nat}{t:TypeId}{cs:Array Value}(h:Bx w B t cs)(j:Nat):w.cell? ⟨B,j,none⟩=cs[j]? :=cell_of_row w B j cs t (0,0) h
theorem Bx.new(w:World)(cs:Array Value)(t:TypeId):Bx (w.alloc (.cells cs t)) w.heap.size t cs:=heap_alloc_new w _
theorem Bx.ext{w w':World}{B:Nat}{t:TypeId}{cs:Array Value}(h:Bx w B t cs)(hx:Ext w w'):Bx w' B t cs:=(hx.block B h.lt).trans h
theorem Bx.ext'{w w':World}{B:Nat}{t:TypeId}{cs:Array Value}(hx:Ext w w')(h:Bx w B t cs):Bx w' B t cs:=h.ext hx
theorem Bx.alloc{w:World}{B:Nat}{t:TypeId}{cs:Array Value}(h:Bx w B t cs)(o:Obj):Bx (w.alloc o) B t cs:=h.ext ((Ext.refl w).alloc o)
theorem Bx.drew{w:World}{B:Nat}{t:TypeId}{cs:Array Value}(h:Bx w B t cs):Bx w.drew B t cs:=h
theorem Bx.other{w:World}{B:Nat}{t:TypeId}{cs:Array Value}(h:Bx w B t cs){p:Addr}(hp:B≠p.block)(v:Value):Bx (w.setCell p v) B t cs:=(heap_setCell_other w p B v hp).trans h
def SF.box(B0:Nat)(t:TypeId)(cs:Array Value):SF:=⟨λv w=>∃ B,v= .pointer (some ⟨B,0,none⟩)/\B0<=B/\Bx w B t cs,none,λ_ _ _ hx ⟨B,h,hc,r⟩=>⟨B,h,hc,r.ext hx⟩,λ_ _ _ _ h=>by cases h⟩
def aT(e:Nat->Value):Operand->Value
 | .tmp t=>e t
 | .const v=>v
 | .global g=>.pointer (some ⟨g,0,none⟩)
 | .func f=>.func (.func f) #[] #[]
def kq(e:Nat->Value)(dst:Option Tmp)(v:Value):Nat->Value:=
 match dst with
 | some d=>λt=>if t=d then v else e t
 | none=>e
theorem Po(e:Nat->Value)(d:Tmp)(v:Value)(t:Nat):kq e (some d) v t=if t=d then v else e t:=rfl
theorem Pq(e:Nat->Value)(v:Value)(t:Nat):kq e none v t=e t:=rfl
theorem SX(e:Nat->Value)(t:Nat):aT e (.tmp t)=e t:=rfl
theorem M9(e:Nat->Value)(v:Value):aT e (.const v)=v:=rfl
theorem LO(e:Nat->Value)(g:Nat):aT e (.global g)= .pointer (some ⟨g,0,none⟩):=rfl
theorem Pv(e:Nat->Value)(f:FuncId):aT e (.func f)= .func (.func f) #[] #[]:=rfl
attribute [go_sem] SX M9 LO Pv Po Pq
theorem EC{a:Act}{e:Nat->Value}(h:∀ t,e t=a.tmps.getD t undef):a.eval=aT e:=by
 funext x
 cases x with
 | tmp t=>exact(h t).symm
 | const v=>rfl
 | global g=>rfl
 | func f=>rfl
def qw(V:Nat->Value)(o:Oper):Bool:=
 match o.guard with
 | none=>true
 | some (j,b)=>match V j with
  | .bool x=>x==b
  | _=>false
def ui(P:Program)(w0:World)(F:Nat->Value->World->Prop)(V:Nat->Value):List Oper->Nat->(Nat->Value)->Prop
 | [],_,_=>True
 | o::l,k,e=>(∀ w,Ext w0 w->nB F V w o.after.toList->if qw V o=true then dw P (sB (F k) w) ((execOp (aT e) o).run P w)else F k undef w)/\ui P w0 F V l (k+1) (kq e o.dst (V k))
def fP(ops:List Oper):List Oper->Nat->Nat->Bool
 | [],_,_=>true
 | o::l,k,sz=>(match o.dst with|some d=>decide (d<sz)&&(ops.take k).all (λp=>p.dst != some d)|none=>true)&&
  (match o.guard with|none=>true|some (j,_)=>decide (j<k)&&((ops[j]?).bind (·.dst)).isSome)&&fP ops l (k+1) sz
theorem yz{P:Program}{ops:List Oper}{w0:World}{F:Nat->Value->World->Prop}{V:Nat->Value}:∀ {l r:List Oper} {k:Nat} {a:Act} {e:Nat->Value} {sz:Nat},fP ops l k sz=true->a.tmps.size=sz->
 (∀ t,e t=a.tmps.getD t undef)->ops.drop k=l++r->(∀ (j d:Nat),j<k->((ops[j]?).bind (·.dst))=some d->d<sz/\a.tmps.getD d undef=V j)->ui P w0 F V l k e->AZ P ops.toArray w0 F V l k a
 | [],_,_,_,_,_,_,_,_,_,_,_=>trivial
 | o::l,r,k,a,e,sz,hB,hs,he,hd,hj,h=>by
  simp only [fP,Xg]at hB;obtain⟨⟨h1,h2⟩,h3⟩:=hB;have hk:k<ops.length:=by
   rcases XC k ops.length with hk|hk
   ·exact hk
   ·rw [YE hk]at hd;cases hd
  have hok:ops[k]? =some o:=by
   rw [Ys hk]at hd;rw [Xd hk,(List.cons.inj hd).1]
  refine⟨λw hx hf=>?_,?_⟩
  ·have hw:=h.1 w hx hf;have hg:Region.wanted o (yielded ops.toArray a.tmps)=qw V o:=by
    unfold Region.wanted qw;cases hgd:o.guard with
    | none=>rfl
    | some g=>
     obtain⟨j,b⟩:=g;rw [hgd]at h2;simp only [Xg,decide_eq_true_eq]at h2;obtain⟨hjk,hsm⟩:=h2;obtain⟨d,hd'⟩:=Option.isSome_iff_exists.1 hsm;obtain⟨hlt,hv⟩:=hj j d hjk hd';have hy:yielded ops.toArray a.tmps j=match V j with| .bool b=>some b|_=>none:=by
      unfold yielded;have e1:ops.toArray[j]? =ops[j]? :=by simp
      rw [e1,hd'];simp only [Option.bind_some];have e2:a.tmps[d]? =some (V j):=by
       rw [<- hv,Xn,X9 (by omega)];rfl
      rw [e2];cases V j<;>rfl
     simp only [hy];cases V j<;>simp
   rw [<- EC he, <- hg]at hw;exact hw
  ·refine yz h3 ?_ ?_ (by rw [<- Yd,hd];rfl) ?_ h.2
   ·cases ho:o.dst<;>simp [Act.put,ho,hs]
   ·intro t;cases ho:o.dst with
    | none=>simpa [kq,Act.put]using he t
    | some d=>
     rw [ho]at h1;simp only [Xg,decide_eq_true_eq]at h1
     by_cases ht:t=d
     ·subst ht;simp [kq,Act.put,Xn,hs,h1.1]
     ·simp only [kq,Act.put,if_neg ht];rw [he t,Xn,Xn,YC (λh=>ht h.symm)]
   ·intro j d hjk hd'
    by_cases hjj:j=k
    ·subst hjj;rw [hok]at hd';simp only [Option.bind_some]at hd';rw [hd']at h1;simp only [Xg,decide_eq_true_eq]at h1;refine⟨h1.1,?_⟩;simp [hd',Act.put,Xn,hs,h1.1]
    ·obtain⟨hlt,hv⟩:=hj j d (by omega) hd';refine⟨hlt,?_⟩;cases ho:o.dst with
     | none=>simpa [Act.put]using hv
     | some d2=>
      rw [ho]at h1;simp only [Xg,decide_eq_true_eq,Xv]at h1;have hjlt:j<ops.length:=by omega
      have hmem:ops[j]∈ops.take k:=List.mem_take_iff_getElem.2 ⟨j,by omega,rfl⟩;have hne:=h1.2 _ hmem;have hd2:ops[j].dst =some d:=by rw [Xd hjlt]at hd';simpa using hd'
      have hdd:d2≠d:=by
       intro e';rw [hd2,e']at hne;simp at hne
      simp only [Act.put];rw [Xn,YC hdd, <- Xn];exact hv
def pa(V:Nat->Value):List (Option Tmp)->Nat->Act->Act
 | [],_,a=>a
 | d::l,k,a=>pa V l (k+1) (a.put d (V k))
theorem pW(V:Nat->Value):∀ (l:List Oper) (k:Nat) (a:Act),dn V l k a=pa V (l.map (·.dst)) k a
 | [],_,_=>rfl
 | o::l,k,a=>pW V l (k+1) _
section
variable {P:Program} {w0:World} {Fl:List SF} {V:Nat->Value} {o:Oper} {l:List Oper} {k:Nat} {e:Nat->Value}
theorem C5{F:Nat->Value->World->Prop}{w:World}(j:Nat):∀ {l:List Edge},(l.any λe=>Region.binds .any e&&e.on==j)=true->nB F V w l->F j (V j) w
 | [],h,_=>by simp at h
 | e::l,h,hf=>by
  simp only [List.any_cons,X1,Xg,beq_iff_eq]at h;rcases h with⟨h1,h2⟩|h
  ·have:=hf.1;rw [if_pos h1,h2]at this;exact this
  ·exact C5 j h hf.2
theorem vb{F:Nat->Value->World->Prop}{w:World}{j:Nat}:∀ {n:Nat},j<n->qf F V w n->F j (V j) w
 | n+1,h,hf=>by
  by_cases e:j=n
  ·subst e;exact hf.2
  ·exact vb (by omega) hf.1
end
section
variable {ρ:Operand->Value} {d:Option Tmp} {ty:TypeId} {pos:String} {af:Array Edge} {g:Option (Nat×Bool)} {x y z u:Operand} {a b c f:Value}
theorem Hm{q:Bool}(h:ρ x= .bool q)(h1:ρ y=a)(h2:ρ z=b):execOp ρ ⟨d,.pick x y z,ty,pos,af,g⟩=pure (.value (if q then a else b)):=by
 subst h1;subst h2
 show(do pure (Next.value (if <- asBool (ρ x)then ρ y else ρ z)):Sem Next)=_
 rw [h];rfl
theorem Px{t:TypeId}:execOp ρ ⟨d,.alloc t,ty,pos,af,g⟩=(do pure (.value (<- Instr.alloc t true (.tuple #[])))):=rfl
theorem wu{t:TypeId}(h:ρ x=a):execOp ρ ⟨d,.load t x,ty,pos,af,g⟩=(do pure (.value (<- Instr.loadAt t a))):=by subst h;rfl
theorem vx{op:BinOp}{t t2:TypeId}(h:ρ x=a)(h2:ρ y=b):execOp ρ ⟨d,.binOp op t x y t2,ty,pos,af,g⟩=(do pure (.value (<- (do eqGuard op t x y a b;binOp op t a b)))):=by subst h;subst h2;rfl
theorem SY{op:UnOp}{t:TypeId}(h:ρ x=a):execOp ρ ⟨d,.unOp op t x,ty,pos,af,g⟩=(do pure (.value (<- Op.unary op a))):=by subst h;rfl
theorem Dk{s t:TypeId}(h:ρ x=a):execOp ρ ⟨d,.convert s t x,ty,pos,af,g⟩=(do pure (.value (<- convert s t a))):=by subst h;rfl
theorem CU{s:TypeId}{i:Nat}(h:ρ x=a):execOp ρ ⟨d,.fieldAddr s x i,ty,pos,af,g⟩=(do pure (.value (<- Instr.fieldAt s a i))):=by subst h;rfl
theorem yC{t:TypeId}(h:ρ x=a)(h2:ρ y=b):execOp ρ ⟨d,.indexAddr t x y,ty,pos,af,g⟩=(do pure (.value (<- Instr.indexAt t a b))):=by subst h;subst h2;rfl
theorem ED{t:TypeId}(h:ρ x=a)(h2:ρ y=b):execOp ρ ⟨d,.index t x y,ty,pos,af,g⟩=(do pure (.value (<- Instr.index t a b))):=by subst h;subst h2;rfl
theorem LP{i:Nat}(h:ρ x=a):execOp ρ ⟨d,.extract x i,ty,pos,af,g⟩=(do pure (.value (<- Instr.extract a i))):=by subst h;rfl
theorem Dl{t:TypeId}(h:ρ x=a)(h2:ρ y=b):execOp ρ ⟨d,.slice t x (some y) none none,ty,pos,af,g⟩=(do pure (.value (<- Instr.sliceAt t a (some b) none none))):=by subst h;subst h2;rfl
theorem Dm{t:TypeId}(h:ρ x=a)(h2:ρ y=b):execOp ρ ⟨d,.slice t x none (some y) none,ty,pos,af,g⟩=(do pure (.value (<- Instr.sliceAt t a none (some b) none))):=by subst h;subst h2;rfl
theorem LR{t:TypeId}(h:ρ x=a)(h2:ρ y=b)(h3:ρ z=c):execOp ρ ⟨d,.slice t x (some y) (some z) none,ty,pos,af,g⟩=(do pure (.value (<- Instr.sliceAt t a (some b) (some c) none))):=by subst h;subst h2;subst h3;rfl
theorem kC:([]:List Operand).map ρ= []:=rfl
theorem fL{l:List Operand}{vs:List Value}(h:ρ x=a)(h2:l.map ρ=vs):(x::l).map ρ=a::vs:=by rw [XI,h,h2]
theorem Py(h:ρ x= .bool true)(h1:ρ y=a):execOp ρ ⟨d,.pick x y z,ty,pos,af,g⟩=pure (.value a):=Hm h h1 rfl
theorem Pz(h:ρ x= .bool false)(h2:ρ z=b):execOp ρ ⟨d,.pick x y z,ty,pos,af,g⟩=pure (.value b):=Hm h rfl h2
theorem k6{as:Array Operand}{ts:Array TypeId}{vs:List Value}(h:ρ x=f)(h2:as.toList.map ρ=vs):execOp ρ ⟨d,.call ⟨.value x,as,ts⟩,ty,pos,af,g⟩=(do let q <- Deferred.ofValue f vs.toArray;invoke q.target q.args):=by
 have:as.map ρ=vs.toArray:=by apply YN.1;rw [YF];simpa using h2
 subst h
 show(do let q <- (do let args:=as.map ρ;Deferred.ofValue (ρ x) args);invoke q.target q.args)=_
 rw [this]
theorem kx{bi:Builtin}{as:Array Operand}{ts:Array TypeId}{vs:List Value}(h2:as.toList.map ρ=vs):execOp ρ ⟨d,.call ⟨.builtin bi,as,ts⟩,ty,pos,af,g⟩=builtin bi ts ty (as.map λo=>match o with|Operand.const _=>true|_=>false) vs.toArray:=by
 have:as.map ρ=vs.toArray:=by apply YN.1;rw [YF];simpa using h2
 show(do let q <- (do let args:=as.map ρ;(pure {target:=.builtin bi ts ty (as.map λo=>match o with|Operand.const _=>true|_=>false),args}:Sem Deferred));invoke q.target q.args)=_
 rw [this];rfl
end
theorem oJ{P:Program}{φ:Value->World->Prop}{w:World}{f:FuncId}{vs:List Value}(dY:∀ args w,(callFunc f args).run P w= .ok (.enter f args) w)(h:sc P f vs.toArray w φ):
 dw P φ ((do let q <- Deferred.ofValue (.func (.func f) #[] #[]) vs.toArray;invoke q.target q.args:Sem Next).run P w):=by
 have e:((do let q <- Deferred.ofValue (.func (.func f) #[] #[]) vs.toArray;invoke q.target q.args:Sem Next).run P w)=(callFunc f (#[]++vs.toArray++ #[])).run P w:=rfl;rw [e,dY];have:(#[]++vs.toArray++ #[]:Array Value)=vs.toArray:=by simp
 rw [this];exact h
end Go.Proofs.YtbmlgmblfboigaaGreatDoor
namespace Go.Proofs.YtbmlgmblfboigaaGreatDoor
open Go Go.RowKit
section
variable {P:Program} {w:World} {base:Nat} {e:TypeId} {k n:Nat} {v:Value} {xs:List Value}
theorem rp(h:w.ownsRow base e k v n xs):∃ A c,v= .slice A n c/\n<=c:=by
 rcases h.2 with⟨rfl,rfl⟩|⟨g,cap,cur,rfl,_,_,hn,_⟩
 ·exact⟨none,0,rfl,Xf _⟩
 ·exact⟨_,_,rfl,hn⟩
theorem _root_.Go.World.ownsRow.rj{b':Nat}(h:w.ownsRow base e k v n xs)(hb:b'<=base):w.ownsRow b' e k v n xs:=by
 refine⟨h.1,?_⟩;rcases h.2 with h2|⟨g,cap,cur,hv,hg,r⟩
 ·exact .inl h2
 ·exact .inr ⟨g,cap,cur,hv,by omega,r⟩
theorem Rd.below{B:Nat}{w':World}{A:Option Addr}(h:Rd w k A n xs)(hb:Below B w w')(hB:0<n-> ∀ b o,A=some ⟨b,o,none⟩->b<B):Rd w' k A n xs:=
 ⟨h.1,λhn=>by
  obtain⟨b,o,e,r⟩:=h.2 hn;have hlt:=hB hn b o e;exact⟨b,o,e,XG r.1 hb.size,λj u hu=>(Below.cell hb (p:=⟨b,o+j,none⟩) hlt).trans (r.2 j u hu)⟩⟩
theorem Kx(t ty:TypeId)(i:TypeInfo)(ht:P.underlying t=some (.slice e))(hi:P.info? e=some i)
 (hown:w.ownsRow base e k v n xs)(c:Nat)(A:Option Addr)(hc:A=none\/True)(hA:A=none):(Builtin.append_ #[t,t] ty #[v,.slice A 0 c]).run P w= .ok v w:=by
 subst hA;rcases hown.2 with⟨rfl,rfl⟩|⟨g,cap,cur,rfl,_,_,hnc,_⟩
 ·simp [Builtin.append_,run_underlying ht,sizeOf,typeInfo,hi,Builtin.lenOf,Builtin.firstCells]
 ·simp [Builtin.append_,run_underlying ht,sizeOf,typeInfo,hi,Builtin.lenOf,Builtin.firstCells,hnc,storeCells]
theorem CO(t ty:TypeId)(i:TypeInfo)(z:Value)(bytes:Nat)(ht:P.underlying t=some (.slice e))(hi:P.info? e=some i)(hz:i.zero=some z)
 (hsize:i.size=k)(hby:i.bytes=bytes)(hzs:z.cells.size=k)(hsz:0<k)
 (hown:w.ownsRow base e k v n xs)(A:Option Addr)(m c:Nat)(news:List Value)(hr:Rd w k A m news)(h1:∀ u∈news,u.oneCell'=true)
 (h63:n+m<=maxLen)(hbytes:(n+m)*bytes<=140737488355328)(hbase:base<=w.heap.size):
 ∃ v' w',(Builtin.append_ #[t,t] ty #[v,.slice A m c]).run P w= .ok v' w'/\w'.ownsRow base e k v' (n+m) (xs++news)/\w.grownBy w' v.ownBlock/\
  (v'.ownBlock=v.ownBlock\/v'.ownBlock=some w.heap.size):=by
 rcases A with _|ad
 ·have hm:m=0:=by
   rcases Ye m with h0|h0
   ·exact h0
   ·obtain⟨_,_,h,_⟩:=hr.2 h0;cases h
  subst hm;have hn:news= []:=XS (by simpa using hr.1);subst hn;exact⟨v,w,Kx t ty i ht hi hown c none (.inl rfl) rfl,by simpa using hown,World.grownBy.refl w _,.inl rfl⟩
 ·have hcells:∀ j u,news[j]? =some u->w.cell? (ad.add j)=some u:=by
   intro j u hu;rcases Ye m with h0|h0
   ·subst h0;have hn:news= []:=XS (by simpa using hr.1);subst hn;simp at hu
   ·obtain⟨b,o,h,hrow⟩:=hr.2 h0
    injection h with h
    subst h;rw [Addr.add_lit];exact hrow.2 j u hu
  obtain⟨v',w',hrun,h2,h3,_,h5⟩:=run_append_own_at (P:=P) w base t ty e i z k bytes ht hi hz hsize hby hzs hsz v n xs hown ad m c news hr.1 hcells h1 h63 hbytes hbase;exact⟨v',w',hrun,h2,h3,h5⟩
end
end Go.Proofs.YtbmlgmblfboigaaGreatDoor
namespace Go.Proofs.YtbmlgmblfboigaaGreatDoor
open Go Go.RowKit
def RowOf(w:World)(row:Option Nat)(e:TypeId):Prop:=∀ g,row=some g-> ∃ cur,w.heap[g]? =some (.cells cur e (0,0))
theorem Bx.grown{w w':World}{B:Nat}{t e:TypeId}{cs:Array Value}{row:Option Nat}(h:Bx w B t cs)(hg:w.grownBy w' row)(hr:RowOf w row e)(hne:t≠e):Bx w' B t cs:=
 (hg.block B h.lt λhs=>by
  obtain⟨cur,hc⟩:=hr B hs.symm;have h':w.heap[B]? =some (.cells cs t (0,0)):=h;rw [h']at hc;cases hc;exact hne rfl).trans h
theorem Na{w w':World}{base n k:Nat}{e f:TypeId}{v:Value}{xs:List Value}{row:Option Nat}(h:w.ownsRow base e k v n xs)(hg:w.grownBy w' row)(hr:RowOf w row f)(hne:e≠f):w'.ownsRow base e k v n xs:=
 h.kept hg (by
  rcases h.2 with⟨rfl,_⟩|⟨g',cap,cur,rfl,_,hh,_⟩
  ·exact .inl rfl
  ·refine .inr λhs=>?_
   obtain⟨cur',hc⟩:=hr g' hs.symm;rw [hh]at hc;cases hc;exact hne rfl)
end Go.Proofs.YtbmlgmblfboigaaGreatDoor
