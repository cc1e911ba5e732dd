/- Lemmas for the statement. -/
import Derived.Test.YtfoaiidcfkmneaaGreatDoorA40
namespace Go.Proofs.YtfoaiidcfkmneaaGreatDoor
open Go Go.RowKit
set_option linter.unusedVariables false
set_option linter.unusedSimpArgs false
def GX(P:Program)(gs:List (Nat×List AV))(f:FuncId)(args:List AV)(m0:List Ob)(ψ χ:AV->List Ob->Prop):Prop:=
 ∀ (pb:Nat->Prop) (w:World) (θ:List Value) (vs:List Value),cr pb ⟨w,eP θ (.bY gs::m0),[]⟩ w θ (.bY gs::m0)->vs.length=args.length->(∀ (i:Nat) (a:AV) (x:Value),args[i]? =some a->vs[i]? =some x->R1 θ (aP pb θ (.bY gs::m0)) w a x)->
  Calls P f vs.toArray w λen w'=>∃ r v θ' m',R1 θ' (aP pb θ' (.bY gs::m')) w' r v/\Step pb ⟨w,eP θ (.bY gs::m0),[]⟩ θ (.bY gs::m0) w θ' (.bY gs::m') w'/\m0.length<=m'.length/\((en= .returned v/\ψ r m')\/(en= .panicked [{v:=v,recovered:=false}]/\χ r m'))
def wG(P:Program)(gs:List (Nat×List AV))(f:FuncId)(args:List AV)(m0:List Ob)(r:AV)(m1:List Ob):Prop:=GX P gs f args m0 (λq m=>q=r/\m=m1) (λ_ _=>False)
theorem Step.calm{pb:Nat->Prop}{w w' w2:World}{L:Nat->Prop}{θ θ':List Value}{mem mem':List Ob}(h:Step pb ⟨w,L,[]⟩ θ mem w θ' mem' w')(hc:dw w.heap.size w' w2):Step pb ⟨w,L,[]⟩ θ mem w θ' mem' w2:=
 ⟨h.sim.calm hc,λa x hr=>(h.keep a x hr).calm hc,Tm h.sz hc.below.size,λb hb hn=>(hc.below.block b hb).trans (h.same b hb hn),h.np⟩
theorem Qs{pb:Nat->Prop}{w w':World}{L:Nat->Prop}{gs:List (Nat×List AV)}{θ0 θ:List Value}{m0 mem m1:List Ob}(hs0:cr pb ⟨w,L,[]⟩ w θ0 (.bY gs::m0))(hst:Step pb ⟨w,L,[]⟩ θ0 (.bY gs::m0) w θ mem w')(hg:mem[0]? =some (.bY gs)){ts:List Nat}(hnd:ts.Nodup)(hpre:ts.take m0.length=List.range' 1 m0.length)(hE:iI (rho ts mem.length) mem ts m1):
 ∃ θ1,Step pb ⟨w,L,[]⟩ θ0 (.bY gs::m0) w θ1 (.bY gs::m1) w'/\ ∀ r v,R1 θ (aP pb θ mem) w' (rn (rho ts mem.length) r) v->R1 θ1 (aP pb θ1 (.bY gs::m1)) w' r v:=by
 have hlen:=hE.len;obtain⟨ρ,hρ⟩:∃ ρ,ρ=rho ts mem.length:=⟨_,rfl⟩;rw [<- hρ]at hE ⊢;obtain⟨θ1,hθ1⟩:∃ θ1:List Value,θ1=undef::ts.map (λt=>θ.getD t undef):=⟨_,rfl⟩;have hml:θ.length=mem.length:=hst.sim.len;have g0:θ[0]? =some undef:=by
  have h00:0<θ.length:=by have:=(SN.1 hg).1;omega
  have h1:θ[0]? =some θ[0]:=SQ h00;have:=(hst.sim.ob 0 (.bY gs) _ hg h1).1;rw [h1,this]
 have th:∀ (i t:Nat),ts[i]? =some t->θ1[i+1]? =some (θ.getD t undef):=λi t hi=>by rw [hθ1];simp [hi]
 have un:∀ (j:Nat) (v:Value),v≠undef->θ[ρ j]? =some v->θ1[j]? =some v:=by
  intro j v hv h;cases j with
  | zero=>rw [hρ]at h;simp only [rho]at h;rw [<- hml]at h;simp at h
  | succ i=>
   cases hq:ts[i]? with
   | some t=>rw [hρ,mj hq]at h;rw [th i t hq,SO,h];rfl
   | none=>
    rw [hρ]at h;simp only [rho,hq]at h;have:=(SN.1 h).1;omega
 have live:∀ (i:Nat) (o:Ob) (v:Value),m1[i]? =some o->o≠ .gone ->θ1[i+1]? =some v-> ∃ t,ts[i]? =some t/\mem[t]? =some (o.rn ρ)/\θ[t]? =some v:=by
  intro i o v h1 h2 h3;obtain⟨t,h4,h5⟩:=(hE.get i o h1).resolve_left h2;have hlt:t<θ.length:=by rw [hml];exact(SN.1 h5).1
  rw [th i t h4]at h3;simp [SO,hlt]at h3;exact⟨t,h4,h5,by rw [SQ hlt,h3]⟩
 have kL:∀ b,aP pb θ1 (.bY gs::m1) b->aP pb θ mem b:=by
  rintro b (h|⟨j,o,v,h1,h2,h3,h4⟩)
  ·exact .inl h
  ·cases j with
   | zero=>rw [hθ1]at h3;simp at h3;rw [<- h3]at h4;cases h4
   | succ i=>
    obtain⟨t,h5,h6,h7⟩:=live i o v nV h2 h3;exact .inr ⟨t,_,v,h6,λe=>h2 (so e),h7,h4⟩
 refine⟨θ1,⟨⟨hst.sim.ext,hst.sim.low,by rw [hθ1];simp [hlen],λj o v hm hv=>?_,λi j o p v u b h1 h2 h3 h4 h5 h6 h7 h8=>?_⟩,λa x h=>?_,hst.sz,hst.same,λb hb hn hp=>hst.np b hb hn (kL b hp)⟩,λr v h=>(h.un un r rfl).kL kL⟩
 ·cases j with
  | zero=>
   simp at hm;subst hm;rw [hθ1]at hv;simp at hv;subst hv;have h:=hst.sim.ob 0 (.bY gs) _ hg g0;exact⟨rfl,λx hx=>⟨(h.2 x hx).1.mono (SR _) (λ_ _ _=>rfl) λb _ hn hp=>hn (kL b hp),(h.2 x hx).2⟩⟩
  | succ i=>
   by_cases hgo:o= .gone
   ·subst hgo;trivial
   ·obtain⟨t,h5,h6,h7⟩:=live i o v (by simpa using hm) hgo hv;exact(dG.un un (hst.sim.ob t _ v h6 h7)).kL kL
 ·cases i with
  | zero=>rw [hθ1]at h5;simp at h5;rw [<- h5]at h7;cases h7
  | succ i=>
   cases j with
   | zero=>rw [hθ1]at h6;simp at h6;rw [<- h6]at h8;cases h8
   | succ j=>
    obtain⟨t,a1,a2,a3⟩:=live i o v nV h2 h5;obtain⟨t',b1,b2,b3⟩:=live j p u (by simpa using h3) h4 h6;have:t=t':=hst.sim.dis t t' _ _ v u b a2 (λe=>h2 (so e)) b2 (λe=>h4 (so e)) a3 b3 h7 h8;subst this;have:=(List.getElem?_inj (SN.1 a1).1 hnd).1 (a1.trans b1.symm);omega
 ·have g00:∀ v,θ0[0]? =some v->v=undef:=λv h=>(hs0.ob 0 (.bY gs) v aL h).1
  have pre:∀ (j:Nat) (x:Value),x≠undef->θ0[j]? =some x-> ∃ i,j=i+1/\ts[i]? =some j:=by
   intro j x hx hj;cases j with
   | zero=>exact absurd (g00 x hj) hx
   | succ i=>
    have hi:i<m0.length:=by have:=(SN.1 hj).1;rw [hs0.len]at this;simpa using this
    refine⟨i,rfl,?_⟩;have h1:(ts.take m0.length)[i]? =some (i+1):=by rw [hpre,List.getElem?_range' hi];congr 1;omega
    rwa [List.getElem?_take,if_pos hi]at h1
  induction h with
  | ro h=>exact .ro (h.mono hst.sz hst.same λb hb hn hp=>hst.np b hb hn (kL b hp))
  | own j x h h0=>
   obtain⟨i,rfl,hi⟩:=pre j x (u1 h0) h;have h1:=(hst.keep _ _ (.own _ x h h0)).j6;exact .own _ x (by rw [th i _ hi,SO,h1];rfl) h0
  | ptr j off b x h h2=>
   obtain⟨i,rfl,hi⟩:=pre j x (λe=>by rw [e]at h2;cases h2) h;obtain⟨b',y,h3,h4,h5⟩:=(hst.keep _ _ (.ptr _ off b x h h2)).iC;cases h5;exact .ptr _ off b y (by rw [th i _ hi,SO,h3];rfl) h4
  | agg l xs h1 _ ih=>exact .agg l xs h1 ih
  | tuple l xs h1 _ ih=>exact .tuple l xs h1 ih
  | clo fn l m xs ys h1 _ h3 _ ih1 ih2=>exact .clo fn l m xs ys h1 ih1 h3 ih2
def ow(P:Program)(fn:Func)(e:Nat->AV)(mem:List Ob)(r:AV):Prop:=∀ pb w0 θ w (a:Act),Fit fn.ntmps pb w0 e mem θ a w-> ∃ v,(results fn a.tmps).run P w= .ok v w/\R1 θ (aP pb θ mem) w r v
section
variable {P:Program} {e:Nat->AV} {mem:List Ob} {fn:Func}
theorem pK(hr:fn.results= #[]):ow P fn e mem (.tuple []):=λpb w0 θ w act hf=>⟨.tuple #[],by unfold results;rw [hr];simp,.tuple [] [] rfl λi a u ha=>by simp at ha⟩
theorem lj{rv:ResultVar}{a:AV}(hr:fn.results= #[rv])(h1:kf P e mem rv a):ow P fn e mem a:=λpb w0 θ w act hf=>by
 obtain⟨v,h2,h3⟩:=lx hf h1;exact⟨v,AN hr _ h2,h3⟩
def Am(P:Program)(fn:Func)(gs:List (Nat×List AV))(m0:List Ob)(ψ:AV->List Ob->Prop):AQ:=λx e mem=>(x= .normal \/x= .ret)/\ ∃ ts r m1,ψ r m1/\mem[0]? =some (.bY gs)/\ts.Nodup/\ts.take m0.length=List.range' 1 m0.length/\iI (rho ts mem.length) mem ts m1/\ow P fn e mem (rn (rho ts mem.length) r)
theorem LN{f:FuncId}{c:Code}{args:List AV}{m0:List Ob}{ψ χ:AV->List Ob->Prop}(gs:List (Nat×List AV))(N:Nat)(hf:P.funcs[f]? =some fn)(hb:fn.body=some c)(hn:fn.ntmps=N)(hN:args.length<=N)(hA:∀ e m,(∀ (t:Nat) (a:AV),args[t]? =some a->al e (.tmp t)=a)->m= .bY gs::m0->AW .top P N c (Am P fn gs m0 ψ) e m):GX P gs f args m0 ψ χ:=by
 subst hn;have h:=hA (pW args) (.bY gs::m0) (λt a ha=>by show args.getD t _=a;rw [SO,ha];rfl) rfl;intro pb w θ vs hs h1 h2;refine(callsIn_wide (n:=9)).1 (callsIn_of_wp_marks hf hb trivial (wpIn_mono (h Fence.wide 9 rfl pb ⟨w,eP θ (.bY gs::m0),[]⟩ θ {tmps:=vs.toArray++Array.replicate (fn.ntmps - vs.toArray.size) undef,defers:= []} w ⟨?_,Mks.nil _ _ _,λt=>?_,hs⟩) ?_))
 ·simp;omega
 ·show R1 _ _ _ (args.getD t (.v undef)) ((vs.toArray++Array.replicate (fn.ntmps - vs.toArray.size) undef).getD t undef)
  by_cases ht:t<args.length
  ·have e1:args.getD t (.v undef)=args[t]:=by simp [SO,ht]
   have ht':t<vs.length:=by omega
   have e2:(vs.toArray++Array.replicate (fn.ntmps - vs.toArray.size) undef).getD t undef=vs[t]:=by
    rw [S3,Up nU];simp [ht']
   rw [e1,e2];exact h2 t _ _ (SQ ht) (SQ ht')
  ·have e1:args.getD t (.v undef)= .v undef:=by simp [SO,S5 (Ug ht)]
   have e2:(vs.toArray++Array.replicate (fn.ntmps - vs.toArray.size) undef).getD t undef=undef:=by
    rw [S3,Ur cZ,UF]
    split<;>rfl
   rw [e1,e2];exact .ro (.v _)
 ·rintro x a w' ⟨e',mem',θ',hfit,hst,hx,ts,r,m1,hψ,hg,hnd,hpre,hE,hr⟩;have hk:m0.length<=m1.length:=by
   have h3:=congrArg List.length hpre;rw [TF,List.length_range']at h3;have:=hE.len;omega
  have fin:LeavesInM Fence.wide 9 P fn a.tmps (λen w'=>∃ r v θ' m',R1 θ' (aP pb θ' (.bY gs::m')) w' r v/\Step pb ⟨w,eP θ (.bY gs::m0),[]⟩ θ (.bY gs::m0) w θ' (.bY gs::m') w'/\m0.length<=m'.length/\((en= .returned v/\ψ r m')\/(en= .panicked [{v:=v,recovered:=false}]/\χ r m'))) a.defers .returning w':=by
   refine rI hfit.dfr λw2 hc=>?_
   have hst2:=hst.calm hc;obtain⟨v,h3,h4⟩:=hr _ _ _ w2 {a with defers:= []} ⟨hfit.size,Mks.nil _ _ _,λt=>(hfit.sl t).calm hc,hfit.sim.calm hc⟩;obtain⟨θ1,h5,h6⟩:=Qs hs hst2 hg hnd hpre hE;exact⟨v,h3,r,v,θ1,m1,h6 r v h4,h5,hk,.inl ⟨rfl,hψ⟩⟩
  rcases hx with rfl|rfl
  ·exact fin
  ·exact fin
theorem OS{f:FuncId}{c:Code}{args:List AV}{m0 m1:List Ob}{r:AV}(gs:List (Nat×List AV))(N:Nat)(hf:P.funcs[f]? =some fn)(hb:fn.body=some c)(hn:fn.ntmps=N)(hN:args.length<=N)(hA:∀ e m,(∀ (t:Nat) (a:AV),args[t]? =some a->al e (.tmp t)=a)->m= .bY gs::m0->AW .top P N c (Am P fn gs m0 (λq m=>q=r/\m=m1)) e m):wG P gs f args m0 r m1:=LN gs N hf hb hn hN hA
end
inductive ox (mem:List Ob):List (Nat×List AV)->Prop
 | nil:ox mem []
 | at_ {j:Nat} {gs gs':List (Nat×List AV)}:mem[j]? =some (.bY gs')->(∀ x∈gs,x∈gs')->ox mem gs
theorem ox.refl{mem:List Ob}{j:Nat}{gs:List (Nat×List AV)}(h:mem[j]? =some (.bY gs)):ox mem gs:=.at_ h λ_ h=>h
theorem ox.ok{pb:Nat->Prop}{w0:Bs}{w:World}{θ:List Value}{mem:List Ob}{gs:List (Nat×List AV)}(h:ox mem gs)(hs:cr pb w0 w θ mem):pJ (aP pb θ mem) w gs:=by
 cases h with
 | nil=>intro x hx;cases hx
 | at_ h1 h2=>intro x hx;exact hs.bY h1 x (h2 x hx)
def GY(m0:List Ob):Bool:=m0.all λo=>match o with| .bY _=>false| .gone =>false|_=>true
section
variable {P:Program} {e:Nat->AV} {mem:List Ob} {d:Option Tmp} {ty t:TypeId} {pos:String} {af:Array Edge} {g:Option (Nat×Bool)} {x y:Operand}
theorem Rr{n:Nat}{gs:List (Nat×List AV)}{f:FuncId}{as:Array Operand}{tys:Array TypeId}{args:List AV}{m0 m1:List Ob}{r:AV}(ts:List Nat)(hl:mem.length=n)(hargs:dc e as.toList=rn.rnL (rho ts n) args)(hc:wG P gs f args m0 r m1)(hgl:ox mem gs)(hnd:ts.Nodup)(hE:iI (rho ts n) mem ts m0)(hlv:GY m0=true)(eH:∀ args w,(callFunc f args).run P w= .ok (.enter f args) w):
 fq P ⟨d,.call ⟨.value (.func f),as,tys⟩,ty,pos,af,g⟩ e mem (rn (rho ts n) r) (gi ts (m1.map (Ob.rn (rho ts n))) mem):=by
 subst hl;intro pb w0 θ w ev hs h;have hvs:(as.toList.map (aZ ev)).length =args.length:=by have:=congrArg List.length hargs;rw [iw]at this;simpa [dc]using this
 obtain⟨pbc,θ0,hs0,hun,hback⟩:=OR hs (hgl.ok hs) hnd hE hlv;rw [ly (f:=.func (.func f) #[] #[]) rfl rfl];refine qn eH ((hc pbc w θ0 _ hs0 hvs λi a v ha hv=>?_).mono ?_)
 ·rw [SU]at hv;cases hx:as.toList[i]? with
  | none=>rw [hx]at hv;cases hv
  | some x=>
   rw [hx]at hv;simp at hv;subst hv;have hmem:x∈as:=by have:=S9 hx;simpa using this
   refine hun a _ ?_;have h3:=congrArg (λl=>l[i]?) hargs;simp only [dc,SU,hx,sn,ha,Option.map_some,Option.some.injEq]at h3;rw [<- h3];exact h x nT
 ·rintro en w' ⟨r',v,θ',m',h4,h5,h6,⟨rfl,rfl,rfl⟩|⟨_,h7⟩⟩
  ·obtain⟨θ2,h7,h8⟩:=hback w' θ' m' h6 h5;exact⟨v,rfl,θ2,h8 _ _ h4,h7⟩
  ·exact h7.elim
end
end Go.Proofs.YtfoaiidcfkmneaaGreatDoor
