/- Lemmas for the statement. -/
import Derived.Test.YtbmlgmblfboigaaGreatDoorA40
namespace Go.Proofs.YtbmlgmblfboigaaGreatDoor
open Go Go.RowKit
set_option linter.unusedVariables false
set_option linter.unusedSimpArgs false
def Gj(P:Program)(gs:List (Nat×List AV))(f:FuncId)(args:List AV)(m0:List Ob)(ψ χ:AV->List Ob->Prop):Prop:=
 ∀ (pb:Nat->Prop) (w:World) (θ:List Value) (vs:List Value),bX pb ⟨w,dY θ (.bL gs::m0),[]⟩ w θ (.bL gs::m0)->vs.length=args.length->(∀ (i:Nat) (a:AV) (x:Value),args[i]? =some a->vs[i]? =some x->R1 θ (aM pb θ (.bL gs::m0)) w a x)->
  Calls P f vs.toArray w λen w'=>∃ r v θ' m',R1 θ' (aM pb θ' (.bL gs::m')) w' r v/\Step pb ⟨w,dY θ (.bL gs::m0),[]⟩ θ (.bL gs::m0) w θ' (.bL gs::m') w'/\m0.length<=m'.length/\((en= .returned v/\ψ r m')\/(en= .panicked [{v:=v,recovered:=false}]/\χ r m'))
def iY(P:Program)(gs:List (Nat×List AV))(f:FuncId)(args:List AV)(m0:List Ob)(r:AV)(m1:List Ob):Prop:=Gj P gs f args m0 (λq m=>q=r/\m=m1) (λ_ _=>False)
theorem Step.calm{pb:Nat->Prop}{w w' w2:World}{L:Nat->Prop}{θ θ':List Value}{mem mem':List Ob}(h:Step pb ⟨w,L,[]⟩ θ mem w θ' mem' w')(hc:db w.heap.size w' w2):Step pb ⟨w,L,[]⟩ θ mem w θ' mem' w2:=
 ⟨h.sim.calm hc,λa x hr=>(h.keep a x hr).calm hc,TP h.sz hc.below.size,λb hb hn=>(hc.below.block b hb).trans (h.same b hb hn),h.np⟩
theorem QJ{pb:Nat->Prop}{w w':World}{L:Nat->Prop}{gs:List (Nat×List AV)}{θ0 θ:List Value}{m0 mem m1:List Ob}(hs0:bX pb ⟨w,L,[]⟩ w θ0 (.bL gs::m0))(hst:Step pb ⟨w,L,[]⟩ θ0 (.bL gs::m0) w θ mem w')(hg:mem[0]? =some (.bL gs)){ts:List Nat}(hnd:ts.Nodup)(hpre:ts.take m0.length=List.range' 1 m0.length)(hE:gI (rho ts mem.length) mem ts m1):
 ∃ θ1,Step pb ⟨w,L,[]⟩ θ0 (.bL gs::m0) w θ1 (.bL gs::m1) w'/\ ∀ r v,R1 θ (aM pb θ mem) w' (rn (rho ts mem.length) r) v->R1 θ1 (aM pb θ1 (.bL gs::m1)) w' r v:=by
 have hlen:=hE.len;obtain⟨ρ,hρ⟩:∃ ρ,ρ=rho ts mem.length:=⟨_,rfl⟩;rw [<- hρ]at hE ⊢;obtain⟨θ1,hθ1⟩:∃ θ1:List Value,θ1=undef::ts.map (λt=>θ.getD t undef):=⟨_,rfl⟩;have hml:θ.length=mem.length:=hst.sim.len;have g0:θ[0]? =some undef:=by
  have h00:0<θ.length:=by have:=(S9.1 hg).1;omega
  have h1:θ[0]? =some θ[0]:=Tc h00;have:=(hst.sim.ob 0 (.bL gs) _ hg h1).1;rw [h1,this]
 have th:∀ (i t:Nat),ts[i]? =some t->θ1[i+1]? =some (θ.getD t undef):=λi t hi=>by rw [hθ1];simp [hi]
 have un:∀ (j:Nat) (v:Value),v≠undef->θ[ρ j]? =some v->θ1[j]? =some v:=by
  intro j v hv h;cases j with
  | zero=>rw [hρ]at h;simp only [rho]at h;rw [<- hml]at h;simp at h
  | succ i=>
   cases hq:ts[i]? with
   | some t=>rw [hρ,lj hq]at h;rw [th i t hq,Ta,h];rfl
   | none=>
    rw [hρ]at h;simp only [rho,hq]at h;have:=(S9.1 h).1;omega
 have live:∀ (i:Nat) (o:Ob) (v:Value),m1[i]? =some o->o≠ .gone ->θ1[i+1]? =some v-> ∃ t,ts[i]? =some t/\mem[t]? =some (o.rn ρ)/\θ[t]? =some v:=by
  intro i o v h1 h2 h3;obtain⟨t,h4,h5⟩:=(hE.get i o h1).resolve_left h2;have hlt:t<θ.length:=by rw [hml];exact(S9.1 h5).1
  rw [th i t h4]at h3;simp [Ta,hlt]at h3;exact⟨t,h4,h5,by rw [Tc hlt,h3]⟩
 have jH:∀ b,aM pb θ1 (.bL gs::m1) b->aM pb θ mem b:=by
  rintro b (h|⟨j,o,v,h1,h2,h3,h4⟩)
  ·exact .inl h
  ·cases j with
   | zero=>rw [hθ1]at h3;simp at h3;rw [<- h3]at h4;cases h4
   | succ i=>
    obtain⟨t,h5,h6,h7⟩:=live i o v (by simpa using h1) h2 h3;exact .inr ⟨t,_,v,h6,λe=>h2 (qN e),h7,h4⟩
 refine⟨θ1,⟨⟨hst.sim.ext,hst.sim.low,by rw [hθ1];simp [hlen],λj o v hm hv=>?_,λi j o p v u b h1 h2 h3 h4 h5 h6 h7 h8=>?_⟩,λa x h=>?_,hst.sz,hst.same,λb hb hn hp=>hst.np b hb hn (jH b hp)⟩,λr v h=>(h.un un r rfl).jH jH⟩
 ·cases j with
  | zero=>
   simp at hm;subst hm;rw [hθ1]at hv;simp at hv;subst hv;have h:=hst.sim.ob 0 (.bL gs) _ hg g0;exact⟨rfl,λx hx=>⟨(h.2 x hx).1.mono (Tf _) (λ_ _ _=>rfl) λb _ hn hp=>hn (jH b hp),(h.2 x hx).2⟩⟩
  | succ i=>
   by_cases hgo:o= .gone
   ·subst hgo;trivial
   ·obtain⟨t,h5,h6,h7⟩:=live i o v (by simpa using hm) hgo hv;exact(dq.un un (hst.sim.ob t _ v h6 h7)).jH jH
 ·cases i with
  | zero=>rw [hθ1]at h5;simp at h5;rw [<- h5]at h7;cases h7
  | succ i=>
   cases j with
   | zero=>rw [hθ1]at h6;simp at h6;rw [<- h6]at h8;cases h8
   | succ j=>
    obtain⟨t,a1,a2,a3⟩:=live i o v (by simpa using h1) h2 h5;obtain⟨t',b1,b2,b3⟩:=live j p u (by simpa using h3) h4 h6;have:t=t':=hst.sim.dis t t' _ _ v u b a2 (λe=>h2 (qN e)) b2 (λe=>h4 (qN e)) a3 b3 h7 h8;subst this;have:=(List.getElem?_inj (S9.1 a1).1 hnd).1 (a1.trans b1.symm);omega
 ·have g00:∀ v,θ0[0]? =some v->v=undef:=λv h=>(hs0.ob 0 (.bL gs) v (by simp) h).1
  have pre:∀ (j:Nat) (x:Value),x≠undef->θ0[j]? =some x-> ∃ i,j=i+1/\ts[i]? =some j:=by
   intro j x hx hj;cases j with
   | zero=>exact absurd (g00 x hj) hx
   | succ i=>
    have hi:i<m0.length:=by have:=(S9.1 hj).1;rw [hs0.len]at this;simpa using this
    refine⟨i,rfl,?_⟩;have h1:(ts.take m0.length)[i]? =some (i+1):=by rw [hpre,List.getElem?_range' hi];congr 1;omega
    rwa [List.getElem?_take,if_pos hi]at h1
  induction h with
  | ro h=>exact .ro (h.mono hst.sz hst.same λb hb hn hp=>hst.np b hb hn (jH b hp))
  | own j x h h0=>
   obtain⟨i,rfl,hi⟩:=pre j x (tu h0) h;have h1:=(hst.keep _ _ (.own _ x h h0)).gy;exact .own _ x (by rw [th i _ hi,Ta,h1];rfl) h0
  | ptr j off b x h h2=>
   obtain⟨i,rfl,hi⟩:=pre j x (λe=>by rw [e]at h2;cases h2) h;obtain⟨b',y,h3,h4,h5⟩:=(hst.keep _ _ (.ptr _ off b x h h2)).fC;cases h5;exact .ptr _ off b y (by rw [th i _ hi,Ta,h3];rfl) h4
  | agg l xs h1 _ ih=>exact .agg l xs h1 ih
  | tuple l xs h1 _ ih=>exact .tuple l xs h1 ih
  | clo fn l m xs ys h1 _ h3 _ ih1 ih2=>exact .clo fn l m xs ys h1 ih1 h3 ih2
def l8(P:Program)(fn:Func)(e:Nat->AV)(mem:List Ob)(r:AV):Prop:=∀ pb w0 θ w (a:Act),Fit fn.ntmps pb w0 e mem θ a w-> ∃ v,(results fn a.tmps).run P w= .ok v w/\R1 θ (aM pb θ mem) w r v
section
variable {P:Program} {e:Nat->AV} {mem:List Ob} {fn:Func}
theorem lY(hr:fn.results= #[]):l8 P fn e mem (.tuple []):=λpb w0 θ w act hf=>⟨.tuple #[],by unfold results;rw [hr];simp,.tuple [] [] rfl λi a u ha=>by simp at ha⟩
theorem iW{rv:ResultVar}{a:AV}(hr:fn.results= #[rv])(h1:j5 P e mem rv a):l8 P fn e mem a:=λpb w0 θ w act hf=>by
 obtain⟨v,h2,h3⟩:=lI hf h1;exact⟨v,zP hr _ h2,h3⟩
theorem Gk{rv1 rv2:ResultVar}{a1 a2:AV}(hr:fn.results= #[rv1,rv2])(h1:j5 P e mem rv1 a1)(h2:j5 P e mem rv2 a2):l8 P fn e mem (.tuple [a1,a2]):=λpb w0 θ w act hf=>by
 obtain⟨v1,q1,q2⟩:=lI hf h1;obtain⟨v2,q3,q4⟩:=lI hf h2;refine⟨.tuple #[v1,v2],zQ hr _ q1 q3,.tuple _ [v1,v2] rfl λi a u ha hu=>?_⟩;rcases i with _|_|i
 ·simp at ha hu;subst ha hu;exact q2
 ·simp at ha hu;subst ha hu;exact q4
 ·simp at ha
def zp(P:Program)(fn:Func)(gs:List (Nat×List AV))(m0:List Ob)(ψ:AV->List Ob->Prop):AQ:=λx e mem=>(x= .normal \/x= .ret)/\ ∃ ts r m1,ψ r m1/\mem[0]? =some (.bL gs)/\ts.Nodup/\ts.take m0.length=List.range' 1 m0.length/\gI (rho ts mem.length) mem ts m1/\l8 P fn e mem (rn (rho ts mem.length) r)
theorem LA{f:FuncId}{c:Code}{args:List AV}{m0:List Ob}{ψ χ:AV->List Ob->Prop}(gs:List (Nat×List AV))(N:Nat)(hf:P.funcs[f]? =some fn)(hb:fn.body=some c)(hn:fn.ntmps=N)(hN:args.length<=N)(hA:∀ e m,(∀ (t:Nat) (a:AV),args[t]? =some a->ag e (.tmp t)=a)->m= .bL gs::m0->AW .top P N c (zp P fn gs m0 ψ) e m):Gj P gs f args m0 ψ χ:=by
 subst hn;have h:=hA (ou args) (.bL gs::m0) (λt a ha=>by show args.getD t _=a;rw [Ta,ha];rfl) rfl;intro pb w θ vs hs h1 h2;refine(callsIn_wide (n:=9)).1 (callsIn_of_wp_marks hf hb trivial (wpIn_mono (h Fence.wide 9 rfl pb ⟨w,dY θ (.bL gs::m0),[]⟩ θ {tmps:=vs.toArray++Array.replicate (fn.ntmps - vs.toArray.size) undef,defers:= []} w ⟨?_,Mks.nil _ _ _,λt=>?_,hs⟩) ?_))
 ·simp;omega
 ·show R1 _ _ _ (args.getD t (.v undef)) ((vs.toArray++Array.replicate (fn.ntmps - vs.toArray.size) undef).getD t undef)
  by_cases ht:t<args.length
  ·have e1:args.getD t (.v undef)=args[t]:=by simp [Ta,ht]
   have ht':t<vs.length:=by omega
   have e2:(vs.toArray++Array.replicate (fn.ntmps - vs.toArray.size) undef).getD t undef=vs[t]:=by
    rw [TA,Uw (by simpa using ht')];simp [ht']
   rw [e1,e2];exact h2 t _ _ (Tc ht) (Tc ht')
  ·have e1:args.getD t (.v undef)= .v undef:=by simp [Ta,TE (Ut ht)]
   have e2:(vs.toArray++Array.replicate (fn.ntmps - vs.toArray.size) undef).getD t undef=undef:=by
    rw [TA,UH (by simp;omega),U0]
    split<;>rfl
   rw [e1,e2];exact .ro (.v _)
 ·rintro x a w' ⟨e',mem',θ',hfit,hst,hx,ts,r,m1,hψ,hg,hnd,hpre,hE,hr⟩;have hk:m0.length<=m1.length:=by
   have h3:=congrArg List.length hpre;rw [T8,List.length_range']at h3;have:=hE.len;omega
  have fin:LeavesInM Fence.wide 9 P fn a.tmps (λen w'=>∃ r v θ' m',R1 θ' (aM pb θ' (.bL gs::m')) w' r v/\Step pb ⟨w,dY θ (.bL gs::m0),[]⟩ θ (.bL gs::m0) w θ' (.bL gs::m') w'/\m0.length<=m'.length/\((en= .returned v/\ψ r m')\/(en= .panicked [{v:=v,recovered:=false}]/\χ r m'))) a.defers .returning w':=by
   refine qg hfit.dfr λw2 hc=>?_
   have hst2:=hst.calm hc;obtain⟨v,h3,h4⟩:=hr _ _ _ w2 {a with defers:= []} ⟨hfit.size,Mks.nil _ _ _,λt=>(hfit.sl t).calm hc,hfit.sim.calm hc⟩;obtain⟨θ1,h5,h6⟩:=QJ hs hst2 hg hnd hpre hE;exact⟨v,h3,r,v,θ1,m1,h6 r v h4,h5,hk,.inl ⟨rfl,hψ⟩⟩
  rcases hx with rfl|rfl
  ·exact fin
  ·exact fin
theorem nI{f:FuncId}{c:Code}{args:List AV}{m0 m1:List Ob}{r:AV}(gs:List (Nat×List AV))(N:Nat)(hf:P.funcs[f]? =some fn)(hb:fn.body=some c)(hn:fn.ntmps=N)(hN:args.length<=N)(hA:∀ e m,(∀ (t:Nat) (a:AV),args[t]? =some a->ag e (.tmp t)=a)->m= .bL gs::m0->AW .top P N c (zp P fn gs m0 (λq m=>q=r/\m=m1)) e m):iY P gs f args m0 r m1:=LA gs N hf hb hn hN hA
end
inductive mR (mem:List Ob):List (Nat×List AV)->Prop
 | nil:mR mem []
 | at_ {j:Nat} {gs gs':List (Nat×List AV)}:mem[j]? =some (.bL gs')->(∀ x∈gs,x∈gs')->mR mem gs
theorem mR.refl{mem:List Ob}{j:Nat}{gs:List (Nat×List AV)}(h:mem[j]? =some (.bL gs)):mR mem gs:=.at_ h λ_ h=>h
theorem mR.ok{pb:Nat->Prop}{w0:Bs}{w:World}{θ:List Value}{mem:List Ob}{gs:List (Nat×List AV)}(h:mR mem gs)(hs:bX pb w0 w θ mem):nX (aM pb θ mem) w gs:=by
 cases h with
 | nil=>intro x hx;cases hx
 | at_ h1 h2=>intro x hx;exact hs.bL h1 x (h2 x hx)
def Gl(m0:List Ob):Bool:=m0.all λo=>match o with| .bL _=>false| .gone =>false|_=>true
section
variable {P:Program} {e:Nat->AV} {mem:List Ob} {d:Option Tmp} {ty t:TypeId} {pos:String} {af:Array Edge} {g:Option (Nat×Bool)} {x y:Operand}
theorem RL{n:Nat}{gs:List (Nat×List AV)}{f:FuncId}{as:Array Operand}{tys:Array TypeId}{args:List AV}{m0 m1:List Ob}{r:AV}(ts:List Nat)(hl:mem.length=n)(hargs:cT e as.toList=rn.rnL (rho ts n) args)(hc:iY P gs f args m0 r m1)(hgl:mR mem gs)(hnd:ts.Nodup)(hE:gI (rho ts n) mem ts m0)(hlv:Gl m0=true)(dV:∀ args w,(callFunc f args).run P w= .ok (.enter f args) w):
 ej P ⟨d,.call ⟨.value (.func f),as,tys⟩,ty,pos,af,g⟩ e mem (rn (rho ts n) r) (fe ts (m1.map (Ob.rn (rho ts n))) mem):=by
 subst hl;intro pb w0 θ w ev hs h;have hvs:(as.toList.map (aO ev)).length =args.length:=by have:=congrArg List.length hargs;rw [fi]at this;simpa [cT]using this
 obtain⟨pbc,θ0,hs0,hun,hback⟩:=OZ hs (hgl.ok hs) hnd hE hlv;rw [km (f:=.func (.func f) #[] #[]) rfl rfl];refine oL dV ((hc pbc w θ0 _ hs0 hvs λi a v ha hv=>?_).mono ?_)
 ·rw [Tm]at hv;cases hx:as.toList[i]? with
  | none=>rw [hx]at hv;cases hv
  | some x=>
   rw [hx]at hv;simp at hv;subst hv;have hmem:x∈as:=by have:=TD hx;simpa using this
   refine hun a _ ?_;have h3:=congrArg (λl=>l[i]?) hargs;simp only [cT,Tm,hx,ju,ha,Option.map_some,Option.some.injEq]at h3;rw [<- h3];exact h x (by simp [Op.operands,Call.operands,hmem])
 ·rintro en w' ⟨r',v,θ',m',h4,h5,h6,⟨rfl,rfl,rfl⟩|⟨_,h7⟩⟩
  ·obtain⟨θ2,h7,h8⟩:=hback w' θ' m' h6 h5;exact⟨v,rfl,θ2,h8 _ _ h4,h7⟩
  ·exact h7.elim
end
end Go.Proofs.YtbmlgmblfboigaaGreatDoor
