/- Lemmas for the statement. -/
import Derived.Test.YtbmlgmblfboigaaGreatDoorA15
namespace Go.Proofs.YtbmlgmblfboigaaGreatDoor
open Go Go.RowKit
set_option linter.unusedVariables false
set_option linter.unusedSimpArgs false
def qL(pr:Nat->Prop)(w:World)(gs:List (Nat×List AV)):Prop:=∀ x∈gs,R0 pr w (.ref x.2) (.pointer (some ⟨x.1,0,none⟩))/\oh w x.1 x.2.length
def iH(P:Program)(gs:List (Nat×List AV))(f:FuncId)(args:List AV)(ψ:AV->Prop):Prop:=
 ∀ (pr:Nat->Prop) (w:World) (vs:List Value),vs.length=args.length->(∀ (i:Nat) (a:AV) (x:Value),args[i]? =some a->vs[i]? =some x->R0 pr w a x)->qL pr w gs->
  Calls P f vs.toArray w λen w'=>∃ r v,en= .returned v/\ψ r/\R0 (λb=>pr b/\b<w.heap.size) w' r v/\Ext w w'
theorem iH.mono{P:Program}{gs:List (Nat×List AV)}{f:FuncId}{args:List AV}{ψ ψ':AV->Prop}(h:iH P gs f args ψ)(hp:∀ r,ψ r->ψ' r):iH P gs f args ψ':=λpr w vs h1 h2 h3=>
 (h pr w vs h1 h2 h3).mono λ_ _ ⟨r,v,h3,h4,h5⟩=>⟨r,v,h3,hp r h4,h5⟩
theorem iH.wide{P:Program}{gs gs':List (Nat×List AV)}{f:FuncId}{args:List AV}{ψ:AV->Prop}(h:iH P gs f args ψ)(hs:∀ x∈gs,x∈gs'):iH P gs' f args ψ:=λpr w vs h1 h2 h3=>h pr w vs h1 h2 λx hx=>h3 x (hs x hx)
section
variable {P:Program} {N:Nat} {Q:AQ} {e:Nat->AV} {mem:List Ob} {d:Option Tmp} {ty t t2:TypeId} {pos:String} {af:Array Edge} {g:Option (Nat×Bool)} {x y z:Operand}
theorem tf{f:FuncId}{fn:Func}{c:Code}{args:List AV}{ψ:AV->Prop}(gs:List (Nat×List AV))(N:Nat)(hf:P.funcs[f]? =some fn)(hb:fn.body=some c)(hn:fn.ntmps=N)(hN:args.length<=N)(hA:∀ e m,(∀ (t:Nat) (a:AV),args[t]? =some a->ak e (.tmp t)=a)->m= [.bT gs]->AW .top P N c (iL P N fn ψ) e m):iH P gs f args ψ:=by
 subst hn;have h:=hA (om args) [.bT gs] (λt a ha=>by show args.getD t _=a;rw [Xc,ha];rfl) rfl;intro pr w vs h1 h2 hgl;have hθ:∀ {j:Nat} {v:Value},[undef][j]? =some v->v=undef:=λ{j v} h=>by
  cases j with
  | zero=>cases h;rfl
  | succ j=>cases h
 have hpr:∀ b,¬ pr b-> ¬ aO (λb=>pr b/\b<w.heap.size) [undef] [.bT gs] b:=λb hn hp=>by
  rcases hp with hp|⟨j,o,v,_,_,q,q2⟩
  ·exact hn hp.1
  ·rw [hθ q]at q2;cases q2
 refine(callsIn_wide (n:=9)).1 (callsIn_of_wp_marks hf hb trivial (wpIn_mono (h Fence.wide 9 rfl (λb=>pr b/\b<w.heap.size) ⟨w,λ_=>False,[]⟩ [undef] {tmps:=vs.toArray++Array.replicate (fn.ntmps - vs.toArray.size) undef,defers:= []} w ⟨?_,Mks.nil _ _ _,λt=>?_,?_⟩) ?_))
 ·simp;omega
 ·show R1 _ _ _ (args.getD t (.v undef)) ((vs.toArray++Array.replicate (fn.ntmps - vs.toArray.size) undef).getD t undef)
  by_cases ht:t<args.length
  ·have e1:args.getD t (.v undef)=args[t]:=by simp [Xc,ht]
   have ht':t<vs.length:=by omega
   have e2:(vs.toArray++Array.replicate (fn.ntmps - vs.toArray.size) undef).getD t undef=vs[t]:=by
    rw [Xn,X7 mS];simp [ht']
   rw [e1,e2];exact .ro ((h2 t _ _ (Xd ht) (Xd ht')).mono (Xf _) (λ_ _ _=>rfl) λb _ hn=>hpr b hn)
  ·have e1:args.getD t (.v undef)= .v undef:=by simp [Xc,Xq (X6 ht)]
   have e2:(vs.toArray++Array.replicate (fn.ntmps - vs.toArray.size) undef).getD t undef=undef:=by
    rw [Xn,Yb cJ,Yo]
    split<;>rfl
   rw [e1,e2];exact .ro (.v _)
 ·refine⟨gq.refl w _,λb hb=>⟨hb.2,id⟩,rfl,λj o v hm hv=>?_,λi j o p v u b _ _ _ _ hv _ hb _=>by rw [hθ hv]at hb;cases hb⟩;cases j with
  | zero=>
   cases hm;exact⟨hθ hv,λx hx=>⟨(hgl x hx).1.mono (Xf _) (λ_ _ _=>rfl) λb _ hn=>hpr b hn,(hgl x hx).2⟩⟩
  | succ j=>cases hm
 ·rintro x a w' ⟨e',mem',θ',hfit,-,hx,r,hψ,hr⟩;have fin:LeavesInM Fence.wide 9 P fn a.tmps (λen w'=>∃ r v,en= .returned v/\ψ r/\R0 (λb=>pr b/\b<w.heap.size) w' r v/\Ext w w') a.defers .returning w':=by
   refine pP hfit.dfr λw2 hc=>?_
   obtain⟨v,h3,h4⟩:=hr _ _ _ w2 {a with defers:= []} ⟨hfit.size,Mks.nil _ _ _,λt=>(hfit.sl t).calm hc,hfit.sim.calm hc⟩;exact⟨v,h3,r,v,rfl,hψ,h4,(hfit.sim.calm hc).ext.pd⟩
  rcases hx with rfl|rfl
  ·exact fin
  ·exact fin
theorem cm.bT{pb:Nat->Prop}{w0:Bs}{w:World}{θ:List Value}(hs:cm pb w0 w θ mem){j:Nat}{gs:List (Nat×List AV)}(hm:mem[j]? =some (.bT gs)):qL (aO pb θ mem) w gs:=by
 have hj:j<θ.length:=by rw [hs.len];exact(Xe.1 hm).1
 exact(hs.ob j _ _ hm (Xd hj)).2
theorem tg{gs:List (Nat×List AV)}{f:FuncId}{as:Array Operand}{ts:Array TypeId}{args:List AV}{r:AV}(hargs:cX e as.toList=args)(hro:cC.roL args=true){j:Nat}(hg:mem[j]? =some (.bT gs))(hc:iH P gs f args (λq=>q=r))(dY:∀ args w,(callFunc f args).run P w= .ok (.enter f args) w):
 bw P ⟨d,.call ⟨.value (.func f),as,ts⟩,ty,pos,af,g⟩ e mem r:=by
 intro pb w0 θ w ev hs h;have hvs:(as.toList.map (aT ev)).length =args.length:=by rw [<- hargs];simp [cX]
 rw [k6 (f:=.func (.func f) #[] #[]) rfl rfl];refine oJ dY ((hc (aO pb θ mem) w _ hvs (λi a v ha hv=>?_) (λx hx=>?_)).mono ?_)
 ·have ha':=ha;rw [<- hargs,cX,Xh]at ha';rw [Xh]at hv;cases hx:as.toList[i]? with
  | none=>rw [hx]at hv;cases hv
  | some x=>
   rw [hx]at ha' hv;simp at ha' hv;subst ha' hv;have hmem:x∈as:=by have:=Xp hx;simpa using this
   exact(h x mR).gr (gy hro ha)
 ·exact hs.bT hg x hx
 ·rintro en w' ⟨q,v,he,rfl,h4,h5⟩;exact⟨v,he,.ro (R0.back hs h4),h5⟩
def yb(P:Program)(t len eT:Nat)(row:Bool)(k:Nat):Prop:=P.underlying t=some (.array len eT)/\aQ P eT row k
theorem Tf{α:Type}{k:Nat}{els:List (List α)}{i:Nat}{el:List α}(hk:∀ l∈els,l.length=k)(hel:els[i]? =some el):(els.flatten.drop (i*k)).take k=el:=by
 have hl:=hk el (Xp hel);apply XV;intro q
 by_cases hq:q<k
 ·rw [XY hq,XH,flat_get hk hel hq]
 ·rw [Xq cJ,Xq ah]
theorem PQ{row:Bool}{k:Nat}{els:List (List AV)}{i:Nat}{el:List AV}(hk:∀ l∈els,l.length=k)(hel:els[i]? =some el)(h1:row=true\/k=1):fW row k (els.flatten.drop (i*k))=fW row k el:=by
 have hl:=hk el (Xp hel);have hd:=Tf hk hel;cases row with
 | true=>rw [Hq,Hq,hd,Yp ah]
 | false=>
  have hk1:k=1:=h1.resolve_left aN;subst hk1;rw [Hr,Hr, <- hd];cases List.drop (i*1) els.flatten<;>rfl
theorem HD{len eT k:Nat}{row:Bool}{l el:List AV}{els:List (List AV)}{i:Int}{kk:IntKind}(ht:yb P t len eT row k)(h1:(row||k==1)=true)(hx:ak e x= .agg l)(hy:ak e y= .v (.int kk i))(hl:l=els.flatten)(hk:∀ l∈els,l.length=k)(h0:0<=i)(hi:i<len)(hel:els[i.toNat]? =some el):
 bw P ⟨d,.index t x y,ty,pos,af,g⟩ e mem (fW row k el):=by
 have h1:row=true\/k=1:=by simpa using h1
 rw [<- PQ hk hel h1, <- hl];have hle:i.toNat*k+k<=l.length:=by
  have hi2:=(Xe.1 hel).1;rw [hl,fF hk, <- XZ];exact Yu k hi2
 intro pb w0 θ w ev hs h;have h1':=h x cE;have h2':=h y cE;rw [hx]at h1';rw [hy]at h2';obtain⟨xs,h2,h3,h4⟩:=h1'.sd;rw [ED h2 h2'.val,Sem.run_bind];unfold Instr.index;simp only [asIntOf,Sem.run_bind,Sem.run_pure,Result.andThen_ok,run_underlying ht.1,h0,hi,and_self,if_true,part,ht.2.agg,ht.2.sizeOf];cases row with
 | true=>
  simp only [if_true,Sem.run_bind,ht.2.sizeOf,Result.andThen_ok,Sem.run_pure];refine⟨?_,Ext.refl w⟩;have:(xs.toArray.extract (i.toNat*k) (i.toNat*k+k))=((xs.drop (i.toNat*k)).take k).toArray :=by simp [List.extract_toArray,List.extract_eq_take_drop]
  rw [this];refine .agg _ _ cJ λj a x ha hx=>?_
  have hj:j<k:=by have:=(Xe.1 ha).1;simp at this;omega
  rw [XY hj,XH]at ha hx;exact h4 _ a x ha hx
 | false=>
  have hn1:k=1:=h1.resolve_left aN;subst hn1;have hlt:i.toNat*1<xs.length:=by omega
  simp only [Xi,if_false,List.getElem?_toArray,Xd hlt,Sem.run_pure,Result.andThen_ok];refine⟨?_,Ext.refl w⟩;have hll:i.toNat*1<l.length:=by omega
  have:fW false 1 (l.drop (i.toNat*1))=l[i.toNat*1]:=by
   unfold fW;simp only [Xi,if_false,List.headD_eq_head?_getD,List.head?_drop,Xd hll,Option.getD_some]
  rw [this];exact h4 _ _ _ (Xd hll) (Xd hlt)
theorem Ni{M:Mode}{c:Code}{s j:Nat}{T:TypeId}{cells:List AV}(hs:ak e (.tmp s)= .ptr j 0)(hm:mem[j]? =some (.box T cells))(hro:cC.roL cells=true)(h:∀ m1 e1,m1=mem.set j .gone ->e1=aS e (some s) (.ref cells)->AW M P N c Q e1 m1):AW M P N c Q e mem:=by
 refine Hn (λpb w0 θ w hsim=>⟨θ,Step.drop hsim j,λt x hr=>?_⟩) (h _ _ rfl rfl)
 by_cases ht:t=s
 ·subst ht;rw [show e t= .ptr j 0 from hs]at hr;simp only [aS,if_true];obtain⟨b,y,hθ,hbase,rfl⟩:=hr.gk;obtain⟨b',xs,h1,rfl,h2,h3,h4⟩:=hsim.ob j _ y hm hθ;cases hbase;refine .ro (.ref cells b' 0 (λi=>xs.getD i undef) (Xu.1 h2).1 (aO.dropped hsim hm aN hθ rfl) (λi a ha=>?_) λi a ha=>?_)
  ·have hi:i<xs.length:=by rw [h3];exact(Xe.1 ha).1
   rw [Xl,cell_of_row w b' i xs.toArray T (0,0) h2];simp [hi,Xc]
  ·have hi:i<xs.length:=by rw [h3];exact(Xe.1 ha).1
   have:=h4 i a (xs.getD i undef) ha (by simp [hi,Xc]);exact((Step.drop hsim j).keep _ _ this).gr (gy hro ha)
 ·simp only [aS,if_neg ht];exact(Step.drop hsim j).keep _ _ hr
end
theorem HE:∀ {l m:List AV},cC.roL l=true->cC.roL m=true->cC.roL (l++m)=true
 | [],_,_,h=>h
 | a::l,m,h,h2=>by
  simp only [Yr,cC.roL,Xg]at h ⊢;exact⟨h.1,HE h.2 h2⟩
theorem PR{α:Type}{f:α->List AV}(h:∀ a,cC.roL (f a)=true):∀ xs:List α,cC.roL (xs.map f).flatten =true
 | []=>rfl
 | a::xs=>by rw [XI,XT];exact HE (h a) (PR h xs)
theorem bN.sub{P:Program}{f:FuncId}{args args':List AV}{ψ:AV->Prop}(hc:bN P f args ψ)(hl:args'.length=args.length)(h:∀ (pr:Nat->Prop) (w:World) (i:Nat) (a:AV) (x:Value),args[i]? =some a-> ∃ a',args'[i]? =some a'/\(R0 pr w a' x->R0 pr w a x)):bN P f args' ψ:=
 λpr w vs h1 h2=>hc pr w vs ah λi a x ha hx=>by
  obtain⟨a',h3,h4⟩:=h pr w i a x ha;exact h4 (h2 i a' x h3 hx)
theorem tM{P:Program}{e:Nat->AV}{mem:List Ob}{d:Option Tmp}{ty:TypeId}{pos:String}{af:Array Edge}{g:Option (Nat×Bool)}{x:Operand}{l:List AV}{T:TypeId}{a:AV}(hx:ak e x=a)(hc:cellsA a=some l)(hro:cC.roL l=true):
 bw P ⟨d,.box T x,ty,pos,af,g⟩ e mem (.ref l):=by
 intro pb w0 θ w ev hs h;refine dw.mono (λv w' ⟨h1,h2,h3,_⟩=>?_) (IM (P:=P) (d:=d) (ty:=ty) (pos:=pos) (af:=af) (g:=g) (T:=T) hx hc pb w0 θ w ev hs h);obtain⟨b,xs,h4,rfl,h5,h6,h7⟩:=h3 θ (aO pb θ mem) (λa x hr=>hr.ext h1);have hb:=h2 b rfl;refine⟨.ro (.ref l b 0 (λi=>xs.getD i undef) (Xu.1 h5).1 (yF hs hb) (λi a ha=>?_) λi a ha=>?_),h1⟩
 ·have hi:i<xs.length:=by rw [h6];exact(Xe.1 ha).1
  rw [Xl,cell_of_row w' b i xs.toArray T (0,0) h5];simp [hi,Xc]
 ·have hi:i<xs.length:=by rw [h6];exact(Xe.1 ha).1
  exact(h7 i a (xs.getD i undef) ha (by simp [hi,Xc])).gr (gy hro ha)
end Go.Proofs.YtbmlgmblfboigaaGreatDoor
