/- Lemmas for the statement. -/
import Derived.Test.YtfoaiidcfkmneaaGreatDoorA15
namespace Go.Proofs.YtfoaiidcfkmneaaGreatDoor
open Go Go.RowKit
set_option linter.unusedVariables false
set_option linter.unusedSimpArgs false
def pJ(pr:Nat->Prop)(w:World)(gs:List (Nat×List AV)):Prop:=∀ x∈gs,R0 pr w (.ref x.2) (.pointer (some ⟨x.1,0,none⟩))/\nr w x.1 x.2.length
def iF(P:Program)(gs:List (Nat×List AV))(f:FuncId)(args:List AV)(ψ:AV->Prop):Prop:=
 ∀ (pr:Nat->Prop) (w:World) (vs:List Value),vs.length=args.length->(∀ (i:Nat) (a:AV) (x:Value),args[i]? =some a->vs[i]? =some x->R0 pr w a x)->pJ pr w gs->
  Calls P f vs.toArray w λen w'=>∃ r v,en= .returned v/\ψ r/\R0 (λb=>pr b/\b<w.heap.size) w' r v/\Ext w w'
theorem iF.mono{P:Program}{gs:List (Nat×List AV)}{f:FuncId}{args:List AV}{ψ ψ':AV->Prop}(h:iF P gs f args ψ)(hp:∀ r,ψ r->ψ' r):iF P gs f args ψ':=λpr w vs h1 h2 h3=>
 (h pr w vs h1 h2 h3).mono λ_ _ ⟨r,v,h3,h4,h5⟩=>⟨r,v,h3,hp r h4,h5⟩
theorem iF.wide{P:Program}{gs gs':List (Nat×List AV)}{f:FuncId}{args:List AV}{ψ:AV->Prop}(h:iF P gs f args ψ)(hs:∀ x∈gs,x∈gs'):iF P gs' f args ψ:=λpr w vs h1 h2 h3=>h pr w vs h1 h2 λx hx=>h3 x (hs x hx)
section
variable {P:Program} {N:Nat} {Q:AQ} {e:Nat->AV} {mem:List Ob} {d:Option Tmp} {ty t t2:TypeId} {pos:String} {af:Array Edge} {g:Option (Nat×Bool)} {x y z:Operand}
theorem LF{f:FuncId}{fn:Func}{c:Code}{args:List AV}{ψ:AV->Prop}(gs:List (Nat×List AV))(N:Nat)(hf:P.funcs[f]? =some fn)(hb:fn.body=some c)(hn:fn.ntmps=N)(hN:args.length<=N)(hA:∀ e m,(∀ (t:Nat) (a:AV),args[t]? =some a->al e (.tmp t)=a)->m= [.bY gs]->AW .top P N c (ic P N fn ψ) e m):iF P gs f args ψ:=by
 subst hn;have h:=hA (pW args) [.bY gs] (λt a ha=>by show args.getD t _=a;rw [SO,ha];rfl) rfl;intro pr w vs h1 h2 hgl;have hθ:∀ {j:Nat} {v:Value},[undef][j]? =some v->v=undef:=λ{j v} h=>by
  cases j with
  | zero=>cases h;rfl
  | succ j=>cases h
 have hpr:∀ b,¬ pr b-> ¬ aP (λb=>pr b/\b<w.heap.size) [undef] [.bY gs] b:=λb hn hp=>by
  rcases hp with hp|⟨j,o,v,_,_,q,q2⟩
  ·exact hn hp.1
  ·rw [hθ q]at q2;cases q2
 refine(callsIn_wide (n:=9)).1 (callsIn_of_wp_marks hf hb trivial (wpIn_mono (h Fence.wide 9 rfl (λb=>pr b/\b<w.heap.size) ⟨w,λ_=>False,[]⟩ [undef] {tmps:=vs.toArray++Array.replicate (fn.ntmps - vs.toArray.size) undef,defers:= []} w ⟨?_,Mks.nil _ _ _,λt=>?_,?_⟩) ?_))
 ·simp;omega
 ·show R1 _ _ _ (args.getD t (.v undef)) ((vs.toArray++Array.replicate (fn.ntmps - vs.toArray.size) undef).getD t undef)
  by_cases ht:t<args.length
  ·have e1:args.getD t (.v undef)=args[t]:=by simp [SO,ht]
   have ht':t<vs.length:=by omega
   have e2:(vs.toArray++Array.replicate (fn.ntmps - vs.toArray.size) undef).getD t undef=vs[t]:=by
    rw [S3,Up nU];simp [ht']
   rw [e1,e2];exact .ro ((h2 t _ _ (SQ ht) (SQ ht')).mono (SR _) (λ_ _ _=>rfl) λb _ hn=>hpr b hn)
  ·have e1:args.getD t (.v undef)= .v undef:=by simp [SO,S5 (Ug ht)]
   have e2:(vs.toArray++Array.replicate (fn.ntmps - vs.toArray.size) undef).getD t undef=undef:=by
    rw [S3,Ur cZ,UF]
    split<;>rfl
   rw [e1,e2];exact .ro (.v _)
 ·refine⟨g7.refl w _,λb hb=>⟨hb.2,id⟩,rfl,λj o v hm hv=>?_,λi j o p v u b _ _ _ _ hv _ hb _=>by rw [hθ hv]at hb;cases hb⟩;cases j with
  | zero=>
   cases hm;exact⟨hθ hv,λx hx=>⟨(hgl x hx).1.mono (SR _) (λ_ _ _=>rfl) λb _ hn=>hpr b hn,(hgl x hx).2⟩⟩
  | succ j=>cases hm
 ·rintro x a w' ⟨e',mem',θ',hfit,-,hx,r,hψ,hr⟩;have fin:LeavesInM Fence.wide 9 P fn a.tmps (λen w'=>∃ r v,en= .returned v/\ψ r/\R0 (λb=>pr b/\b<w.heap.size) w' r v/\Ext w w') a.defers .returning w':=by
   refine rI hfit.dfr λw2 hc=>?_
   obtain⟨v,h3,h4⟩:=hr _ _ _ w2 {a with defers:= []} ⟨hfit.size,Mks.nil _ _ _,λt=>(hfit.sl t).calm hc,hfit.sim.calm hc⟩;exact⟨v,h3,r,v,rfl,hψ,h4,(hfit.sim.calm hc).ext.sZ⟩
  rcases hx with rfl|rfl
  ·exact fin
  ·exact fin
theorem cr.bY{pb:Nat->Prop}{w0:Bs}{w:World}{θ:List Value}(hs:cr pb w0 w θ mem){j:Nat}{gs:List (Nat×List AV)}(hm:mem[j]? =some (.bY gs)):pJ (aP pb θ mem) w gs:=by
 have hj:j<θ.length:=by rw [hs.len];exact(SN.1 hm).1
 exact(hs.ob j _ _ hm (SQ hj)).2
theorem uo{gs:List (Nat×List AV)}{f:FuncId}{as:Array Operand}{ts:Array TypeId}{args:List AV}{r:AV}(hargs:dc e as.toList=args)(hro:cS.roL args=true){j:Nat}(hg:mem[j]? =some (.bY gs))(hc:iF P gs f args (λq=>q=r))(eH:∀ args w,(callFunc f args).run P w= .ok (.enter f args) w):
 bH P ⟨d,.call ⟨.value (.func f),as,ts⟩,ty,pos,af,g⟩ e mem r:=by
 intro pb w0 θ w ev hs h;have hvs:(as.toList.map (aZ ev)).length =args.length:=by rw [<- hargs];simp [dc]
 rw [ly (f:=.func (.func f) #[] #[]) rfl rfl];refine qn eH ((hc (aP pb θ mem) w _ hvs (λi a v ha hv=>?_) (λx hx=>?_)).mono ?_)
 ·have ha':=ha;rw [<- hargs,dc,SU]at ha';rw [SU]at hv;cases hx:as.toList[i]? with
  | none=>rw [hx]at hv;cases hv
  | some x=>
   rw [hx]at ha' hv;simp at ha' hv;subst ha' hv;have hmem:x∈as:=by have:=S9 hx;simpa using this
   exact(h x nT).iN (hP hro ha)
 ·exact hs.bY hg x hx
 ·rintro en w' ⟨q,v,he,rfl,h4,h5⟩;exact⟨v,he,.ro (R0.back hs h4),h5⟩
def wF(P:Program)(t len eT:Nat)(row:Bool)(k:Nat):Prop:=P.underlying t=some (.array len eT)/\aV P eT row k
theorem OL{α:Type}{k:Nat}{els:List (List α)}{i:Nat}{el:List α}(hk:∀ l∈els,l.length=k)(hel:els[i]? =some el):(els.flatten.drop (i*k)).take k=el:=by
 have hl:=hk el (S9 hel);apply TW;intro q
 by_cases hq:q<k
 ·rw [TO hq,Tj,flat_get hk hel hq]
 ·rw [S5 cZ,S5 ah]
theorem LG{row:Bool}{k:Nat}{els:List (List AV)}{i:Nat}{el:List AV}(hk:∀ l∈els,l.length=k)(hel:els[i]? =some el)(h1:row=true\/k=1):gx row k (els.flatten.drop (i*k))=gx row k el:=by
 have hl:=hk el (S9 hel);have hd:=OL hk hel;cases row with
 | true=>rw [EE,EE,hd,T9 ah]
 | false=>
  have hk1:k=1:=h1.resolve_left aL;subst hk1;rw [EF,EF, <- hd];cases List.drop (i*1) els.flatten<;>rfl
theorem ER{len eT k:Nat}{row:Bool}{l el:List AV}{els:List (List AV)}{i:Int}{kk:IntKind}(ht:wF P t len eT row k)(h1:(row||k==1)=true)(hx:al e x= .agg l)(hy:al e y= .v (.int kk i))(hl:l=els.flatten)(hk:∀ l∈els,l.length=k)(h0:0<=i)(hi:i<len)(hel:els[i.toNat]? =some el):
 bH P ⟨d,.index t x y,ty,pos,af,g⟩ e mem (gx row k el):=by
 have h1:row=true\/k=1:=by simpa using h1
 rw [<- LG hk hel h1, <- hl];have hle:i.toNat*k+k<=l.length:=by
  have hi2:=(SN.1 hel).1;rw [hl,iR hk, <- TV];exact UB k hi2
 intro pb w0 θ w ev hs h;have h1':=h x cB;have h2':=h y cB;rw [hx]at h1';rw [hy]at h2';obtain⟨xs,h2,h3,h4⟩:=h1'.sN;rw [BX h2 h2'.val,Sem.run_bind];unfold Instr.index;simp only [asIntOf,Sem.run_bind,Sem.run_pure,Result.andThen_ok,run_underlying ht.1,h0,hi,and_self,if_true,part,ht.2.agg,ht.2.sizeOf];cases row with
 | true=>
  simp only [if_true,Sem.run_bind,ht.2.sizeOf,Result.andThen_ok,Sem.run_pure];refine⟨?_,Ext.refl w⟩;have:(xs.toArray.extract (i.toNat*k) (i.toNat*k+k))=((xs.drop (i.toNat*k)).take k).toArray :=by simp [List.extract_toArray,List.extract_eq_take_drop]
  rw [this];refine .agg _ _ cZ λj a x ha hx=>?_
  have hj:j<k:=by have:=(SN.1 ha).1;simp at this;omega
  rw [TO hj,Tj]at ha hx;exact h4 _ a x ha hx
 | false=>
  have hn1:k=1:=h1.resolve_left aL;subst hn1;have hlt:i.toNat*1<xs.length:=by omega
  simp only [SV,if_false,List.getElem?_toArray,SQ hlt,Sem.run_pure,Result.andThen_ok];refine⟨?_,Ext.refl w⟩;have hll:i.toNat*1<l.length:=by omega
  have:gx false 1 (l.drop (i.toNat*1))=l[i.toNat*1]:=by
   unfold gx;simp only [SV,if_false,List.headD_eq_head?_getD,List.head?_drop,SQ hll,Option.getD_some]
  rw [this];exact h4 _ _ _ (SQ hll) (SQ hlt)
theorem Jt{M:Mode}{c:Code}{s j:Nat}{T:TypeId}{cells:List AV}(hs:al e (.tmp s)= .ptr j 0)(hm:mem[j]? =some (.box T cells))(hro:cS.roL cells=true)(h:∀ m1 e1,m1=mem.set j .gone ->e1=aT e (some s) (.ref cells)->AW M P N c Q e1 m1):AW M P N c Q e mem:=by
 refine EC (λpb w0 θ w hsim=>⟨θ,Step.drop hsim j,λt x hr=>?_⟩) (h _ _ rfl rfl)
 by_cases ht:t=s
 ·subst ht;rw [show e t= .ptr j 0 from hs]at hr;simp only [aT,if_true];obtain⟨b,y,hθ,hbase,rfl⟩:=hr.iC;obtain⟨b',xs,h1,rfl,h2,h3,h4⟩:=hsim.ob j _ y hm hθ;cases hbase;refine .ro (.ref cells b' 0 (λi=>xs.getD i undef) (Tc.1 h2).1 (aP.dropped hsim hm aL hθ rfl) (λi a ha=>?_) λi a ha=>?_)
  ·have hi:i<xs.length:=by rw [h3];exact(SN.1 ha).1
   rw [S0,cell_of_row w b' i xs.toArray T (0,0) h2];simp [hi,SO]
  ·have hi:i<xs.length:=by rw [h3];exact(SN.1 ha).1
   have:=h4 i a (xs.getD i undef) ha (by simp [hi,SO]);exact((Step.drop hsim j).keep _ _ this).iN (hP hro ha)
 ·simp only [aT,if_neg ht];exact(Step.drop hsim j).keep _ _ hr
theorem OM{j off len k:Nat}{i:Int}{kk:IntKind}(ht:wE P t len k)(hx:al e x= .ptr j off)(hy:al e y= .v (.int kk i))(h0:0<=i)(h1:i<len):
 bH P ⟨d,.indexAddr t x y,ty,pos,af,g⟩ e mem (.ptr j (off+i.toNat*k)):=lI ht hx hy cZ
end
theorem ES:∀ {l m:List AV},cS.roL l=true->cS.roL m=true->cS.roL (l++m)=true
 | [],_,_,h=>h
 | a::l,m,h,h2=>by
  simp only [Uj,cS.roL,SS]at h ⊢;exact⟨h.1,ES h.2 h2⟩
theorem LH{α:Type}{f:α->List AV}(h:∀ a,cS.roL (f a)=true):∀ xs:List α,cS.roL (xs.map f).flatten =true
 | []=>rfl
 | a::xs=>by rw [TC,Uh];exact ES (h a) (LH h xs)
theorem bT.sub{P:Program}{f:FuncId}{args args':List AV}{ψ:AV->Prop}(hc:bT P f args ψ)(hl:args'.length=args.length)(h:∀ (pr:Nat->Prop) (w:World) (i:Nat) (a:AV) (x:Value),args[i]? =some a-> ∃ a',args'[i]? =some a'/\(R0 pr w a' x->R0 pr w a x)):bT P f args' ψ:=
 λpr w vs h1 h2=>hc pr w vs ah λi a x ha hx=>by
  obtain⟨a',h3,h4⟩:=h pr w i a x ha;exact h4 (h2 i a' x h3 hx)
theorem sj{P:Program}{e:Nat->AV}{mem:List Ob}{d:Option Tmp}{ty:TypeId}{pos:String}{af:Array Edge}{g:Option (Nat×Bool)}{x:Operand}{l:List AV}{T:TypeId}{a:AV}(hx:al e x=a)(hc:cellsA a=some l)(hro:cS.roL l=true):
 bH P ⟨d,.box T x,ty,pos,af,g⟩ e mem (.ref l):=by
 intro pb w0 θ w ev hs h;refine dt.mono (λv w' ⟨h1,h2,h3,_⟩=>?_) (FY (P:=P) (d:=d) (ty:=ty) (pos:=pos) (af:=af) (g:=g) (T:=T) hx hc pb w0 θ w ev hs h);obtain⟨b,xs,h4,rfl,h5,h6,h7⟩:=h3 θ (aP pb θ mem) (λa x hr=>hr.ext h1);have hb:=h2 b rfl;refine⟨.ro (.ref l b 0 (λi=>xs.getD i undef) (Tc.1 h5).1 (AO hs hb) (λi a ha=>?_) λi a ha=>?_),h1⟩
 ·have hi:i<xs.length:=by rw [h6];exact(SN.1 ha).1
  rw [S0,cell_of_row w' b i xs.toArray T (0,0) h5];simp [hi,SO]
 ·have hi:i<xs.length:=by rw [h6];exact(SN.1 ha).1
  exact(h7 i a (xs.getD i undef) ha (by simp [hi,SO])).iN (hP hro ha)
end Go.Proofs.YtfoaiidcfkmneaaGreatDoor
