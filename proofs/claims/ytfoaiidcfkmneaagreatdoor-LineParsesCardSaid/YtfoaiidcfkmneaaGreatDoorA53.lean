/- Lemmas for the statement. -/
import Derived.Test.YtfoaiidcfkmneaaGreatDoorA52
import Derived.Test.YtfoaiidcfkmneaaGreatDoorM4
import Derived.Test.YtfoaiidcfkmneaaGreatDoorA16
import Derived.WalkSmall
namespace Go.Proofs.YtfoaiidcfkmneaaGreatDoor
open Go Go.RowKit Go.Proofs
set_option linter.unusedSimpArgs false
set_option linter.unusedVariables false
def ew(P:Program)(f:FuncId)(args:List AV)(mem:List Ob)(ψ:AV->List Ob->Prop)(χ:Value->List Ob->Prop):Prop:=
 ∀ (pb:Nat->Prop) (w:World) (θ:List Value) (vs:List Value),cr pb ⟨w,eP θ mem,[]⟩ w θ mem->vs.length=args.length->(∀ (i:Nat) (a:AV) (x:Value),args[i]? =some a->vs[i]? =some x->R1 θ (aP pb θ mem) w a x)->
  Calls P f vs.toArray w λen w'=>∃ θ' mem',Step pb ⟨w,eP θ mem,[]⟩ θ mem w θ' mem' w'/\((∃ r v,en= .returned v/\R1 θ' (aP pb θ' mem') w' r v/\ψ r mem')\/ ∃ v,en= .panicked [{v:=v,recovered:=false}]/\χ v mem')
theorem all_in{pb:Nat->Prop}{w0:Bs}{w:World}{θ:List Value}{mem:List Ob}(hs:cr pb w0 w θ mem):cr pb ⟨w,eP θ mem,[]⟩ w θ mem:=
 ⟨g7.refl w _,λb hb=>⟨S4 (hs.low b hb).1 hs.ext.size,λ⟨j,o,v,h1,h2,h3,h4⟩=>by
  have h5:=hs.low b hb;rcases ((hs.ob j o v h1 h3).lt h2 h4).1 with h6|h6
  ·omega
  ·exact h5.2 h6⟩,hs.len,λj o v hm hv=>by
  by_cases hg:o= .gone
  ·subst hg;trivial
  ·exact(hs.ob j o v hm hv).base λb hb _=>.inr ⟨j,o,v,hm,hg,hv,hb⟩,hs.dis⟩
theorem nM{pb:Nat->Prop}{w0:Bs}{w w':World}{θ θ':List Value}{mem mem':List Ob}(hs:cr pb w0 w θ mem)(h:Step pb ⟨w,eP θ mem,[]⟩ θ mem w θ' mem' w'):Step pb w0 θ mem w θ' mem' w':=by
 have hok:∀ b,eP θ mem b->w0.gn b:=λb ⟨j,o,v,h1,h2,h3,h4⟩=>((hs.ob j o v h1 h3).lt h2 h4).1
 have hbs:∀ b,Bs.gn ⟨w,eP θ mem,[]⟩ b->w0.gn b:=λb hb=>by
  rcases hb with hb|hb
  ·exact .inl (Tm hs.ext.size hb)
  ·exact hok b hb
 refine⟨⟨⟨hs.ext.below.trans (h.sim.ext.below.mono (S8 _)),λb hb hl=>?_⟩,hs.low,h.sim.len,λj o v hm hv=>(h.sim.ob j o v hm hv).base λb _ hb=>hbs b hb,h.sim.dis⟩,h.keep,h.sz,h.same,h.np⟩;refine(h.sim.ext.block b (S4 hb hs.ext.size) λhq=>?_).trans (hs.ext.block b hb hl);rcases hok b hq with h1|h1
 ·omega
 ·exact hl h1
def rm(P:Program)(fn:Func)(ψ:AV->List Ob->Prop)(χ:Value->List Ob->Prop):AQ:=λx e mem=>match x with
 | .normal =>∃ r,ow P fn e mem r/\ψ r mem
 | .ret =>∃ r,ow P fn e mem r/\ψ r mem
 | .panic ch=>∃ v,ch= [{v:=v,recovered:=false}]/\χ v mem
 | _=>False
theorem Ik{n:Nat}{P:Program}{fn:Func}{tmps:Array Value}{R:Ending->World->Prop}{pr:Nat->Prop}{B:Nat}{ch:List PanicEntry}{ds:List Deferred}{w:World}(hm:Mks (B,[]) pr w ds)(h:∀ w',dw B w w'->R (.panicked ch) w'):LeavesInM Fence.wide n P fn tmps R ds (.panicking ch) w:=by
 obtain⟨ms,rfl,h1⟩:=hm;exact qf aL h1 λw' hc=>h w' hc
theorem gr{P:Program}{fn:Func}{f:FuncId}{c:Code}{args:List AV}{mem:List Ob}{ψ:AV->List Ob->Prop}{χ:Value->List Ob->Prop}(N:Nat)(hf:P.funcs[f]? =some fn)(hb:fn.body=some c)(hn:fn.ntmps=N)(hN:args.length<=N)(hA:∀ e m,(∀ (t:Nat) (a:AV),args[t]? =some a->al e (.tmp t)=a)->m=mem->AW .top P N c (rm P fn ψ χ) e m):ew P f args mem ψ χ:=by
 subst hn;have h:=hA (pW args) mem (λt a ha=>by show args.getD t _=a;rw [SO,ha];rfl) rfl;intro pb w θ vs hs h1 h2;refine(callsIn_wide (n:=9)).1 (callsIn_of_wp_marks hf hb trivial (wpIn_mono (h Fence.wide 9 rfl pb ⟨w,eP θ mem,[]⟩ θ {tmps:=vs.toArray++Array.replicate (fn.ntmps - vs.toArray.size) undef,defers:= []} w ⟨?_,Mks.nil _ _ _,λt=>?_,hs⟩) ?_))
 ·simp;omega
 ·show R1 _ _ _ (args.getD t (.v undef)) ((vs.toArray++Array.replicate (fn.ntmps - vs.toArray.size) undef).getD t undef)
  by_cases ht:t<args.length
  ·have e1:args.getD t (.v undef)=args[t]:=by simp [SO,ht]
   have ht':t<vs.length:=by omega
   have e2:(vs.toArray++Array.replicate (fn.ntmps - vs.toArray.size) undef).getD t undef=vs[t]:=by
    rw [S3,Up nU];simp [ht']
   rw [e1,e2];exact h2 t _ _ (SQ ht) (SQ ht')
  ·have e1:args.getD t (.v undef)= .v undef:=by simp [SO,S5 (Ug ht)]
   have e2:(vs.toArray++Array.replicate (fn.ntmps - vs.toArray.size) undef).getD t undef=undef:=by
    rw [S3,Ur cZ,UF]
    split<;>rfl
   rw [e1,e2];exact .ro (.v _)
 ·rintro x a w' ⟨e',mem',θ',hfit,hst,hx⟩;have fin:(∃ r,ow P fn e' mem' r/\ψ r mem')->LeavesInM Fence.wide 9 P fn a.tmps (λen w'=>∃ θ' mem',Step pb ⟨w,eP θ mem,[]⟩ θ mem w θ' mem' w'/\((∃ r v,en= .returned v/\R1 θ' (aP pb θ' mem') w' r v/\ψ r mem')\/ ∃ v,en= .panicked [{v:=v,recovered:=false}]/\χ v mem')) a.defers .returning w':=λ⟨r,hr,hψ⟩=>by
   refine rI hfit.dfr λw2 hc=>?_
   have hst2:=hst.calm hc;obtain⟨v,h3,h4⟩:=hr _ _ _ w2 {a with defers:= []} ⟨hfit.size,Mks.nil _ _ _,λt=>(hfit.sl t).calm hc,hfit.sim.calm hc⟩;exact⟨v,h3,θ',mem',hst2,.inl ⟨r,v,rfl,h4,hψ⟩⟩
  cases x with
  | normal=>exact fin hx
  | ret=>exact fin hx
  | panic ch=>
   obtain⟨v,rfl,hχ⟩:=hx;exact Ik hfit.dfr λw2 hc=>⟨θ',mem',hst.calm hc,.inr ⟨v,rfl,hχ⟩⟩
  | exit id=>exact hx.elim
  | goto l=>exact hx.elim
  | outgrown=>exact hx.elim
theorem eG{K:(Nat->AV)->List Ob->Prop}{Q:AQ}{ch:List PanicEntry}{e:Nat->AV}{mem:List Ob}(h:Q (.panic ch) e mem):lM K Q (.panic ch) e mem:=h
def Ac(I:Nat->List Ob->Prop)(Q:AQ)(e:Nat->AV)(i j:Nat)(o:Ob):AQ
 | .normal,_,m=>I (i+1) m/\m[j]? =some o
 | .panic ch,_,m=>Q (.panic ch) e m
 | _,_,_=>False
theorem zB{I:Nat->List Ob->Prop}{Q:AQ}{e e':Nat->AV}{i j:Nat}{o:Ob}{m:List Ob}{ch:List PanicEntry}(h:Q (.panic ch) e m):Ac I Q e i j o (.panic ch) e' m:=h
theorem F3{I:Nat->List Ob->Prop}{Q:AQ}{e e':Nat->AV}{i j:Nat}{o:Ob}{m:List Ob}(ho:m[j]? =some o)(h:I (i+1) m):Ac I Q e i j o .normal e' m:=⟨h,ho⟩
theorem ew.mono{P:Program}{f:FuncId}{args:List AV}{mem:List Ob}{ψ ψ':AV->List Ob->Prop}{χ χ':Value->List Ob->Prop}(h:ew P f args mem ψ χ)(hp:∀ r m,ψ r m->ψ' r m)(hx:∀ v m,χ v m->χ' v m):ew P f args mem ψ' χ':=λpb w θ vs h1 h2 h3=>
 (h pb w θ vs h1 h2 h3).mono λen w' ⟨θ',mem',g1,g2⟩=>⟨θ',mem',g1,g2.imp (λ⟨r,v,a,b,c⟩=>⟨r,v,a,b,hp r mem' c⟩) (λ⟨v,a,b⟩=>⟨v,a,hx v mem' b⟩)⟩
theorem gJ{id:Nat}{Q:AQ}{ch:List PanicEntry}{e:Nat->AV}{mem:List Ob}(h:Q (.panic ch) e mem):oa id Q (.panic ch) e mem:=h
section
variable {P:Program} {N:Nat} {Q:AQ} {e:Nat->AV} {mem:List Ob} {ops:Array Oper} {l:List Oper} {d:Option Tmp} {ty t t2:TypeId} {pos:String} {af:Array Edge} {g:Option (Nat×Bool)} {x y z:Operand}
theorem dn{f:FuncId}{as:Array Operand}{tys:Array TypeId}{args:List AV}{ψ:AV->List Ob->Prop}{χ:Value->List Ob->Prop}(hc:ew P f args mem ψ χ)(hargs:dc e as.toList=args)(eH:∀ args w,(callFunc f args).run P w= .ok (.enter f args) w)(hg:Gd ops ⟨d,.call ⟨.value (.func f),as,tys⟩,ty,pos,af,g⟩ e)(hd:dV N d=true)
 (h:∀ r m',ψ r m'->AL P N ops l Q (aT e d r) m')(hp:∀ v m',χ v m'->Q (.panic [{v:=v,recovered:=false}]) e m'):AL P N ops (⟨d,.call ⟨.value (.func f),as,tys⟩,ty,pos,af,g⟩::l) Q e mem:=by
 intro pb w0 θ a w hf
 show(if Region.wanted _ (yielded ops a.tmps)then _ else _)
 rw [if_pos (mH hf hg)];refine .inl ?_;have hvs:(as.toList.map (aZ (λt=>a.tmps.getD t undef))).length =args.length:=by rw [<- hargs];simp [dc]
 unfold Oper.wp;rw [gQ];have e1:execOp (aZ (λt=>a.tmps.getD t undef)) ⟨d,.call ⟨.value (.func f),as,tys⟩,ty,pos,af,g⟩=_:=ly (f:=.func (.func f) #[] #[]) rfl rfl;rw [e1];have e2:((do let q <- Deferred.ofValue (.func (.func f) #[] #[]) (as.toList.map (aZ (λt=>a.tmps.getD t undef))).toArray;invoke q.target q.args:Sem Next).run P w)=(callFunc f (as.toList.map (aZ (λt=>a.tmps.getD t undef))).toArray).run P w:=by
  simp [Deferred.ofValue,invoke]
 rw [show((do let q <- Deferred.ofValue (.func (.func f) #[] #[]) (as.toList.map (aZ (λt=>a.tmps.getD t undef))).toArray;invoke q.target q.args:Sem Next).run P w)= .ok (.enter f (as.toList.map (aZ (λt=>a.tmps.getD t undef))).toArray) w from e2.trans (eH _ _)];rw [Oper.upon_enter];refine(hc pb w θ _ (all_in hf.sim) hvs λi b v hb hv=>?_).mono ?_
 ·rw [SU]at hv;rw [<- hargs,dc,SU]at hb;cases hq:as.toList[i]? with
  | none=>rw [hq]at hv;cases hv
  | some q=>
   rw [hq]at hb hv;cases hb;cases hv;exact j8 hf q
 ·rintro en w' ⟨θ',mem',hst,⟨r,v,rfl,h3,h4⟩|⟨v,rfl,h4⟩⟩
  ·have hs:=nM hf.sim hst;exact kS (λ_ _ _ hq=>hq.after hs) (h r mem' h4 pb w0 θ' _ w' (hf.put hs hd h3))
  ·have hs:=nM hf.sim hst;exact⟨e,mem',θ',⟨hf.size,hf.dfr.step hs,λt=>hs.keep _ _ (hf.sl t),hs.sim⟩,hs,hp v mem' h4⟩
theorem LR{T:TypeId}{p:Value}(hx:al e x= .v (.iface T p))(hg:Gd ops ⟨d,.panic x,ty,pos,af,g⟩ e)(h:Q (.panic [{v:=.iface T p,recovered:=false}]) e mem):AL P N ops (⟨d,.panic x,ty,pos,af,g⟩::l) Q e mem:=by
 intro pb w0 θ a w hf
 show(if Region.wanted _ (yielded ops a.tmps)then _ else _)
 rw [if_pos (mH hf hg)];refine .inl ?_;unfold Oper.wp;have hv:=j8 hf x;rw [hx]at hv;rw [gQ];have e1:execOp (aZ (λt=>a.tmps.getD t undef)) ⟨d,.panic x,ty,pos,af,g⟩=(do pure (.value (<- Instr.panic (aZ (λt=>a.tmps.getD t undef) x)))):=rfl;rw [e1,hv.val,Sem.run_bind,run_panic_iface];exact⟨e,mem,θ,hf,Step.refl hf.sim,h⟩
theorem IS(l:List Value){T:TypeId}{td:TypeDesc}(hu:P.underlying T=some td)(hni:isIf (some td)=false)(hx:al e x= .agg (l.map .v)):bH P ⟨d,.makeInterface T x,ty,pos,af,g⟩ e mem (.v (.iface T (.agg l.toArray))):=by
 intro pb w0 θ w ev hs h;have h1:=h x cB;rw [hx]at h1;obtain⟨xs,h2,h3,h4⟩:=h1.sN;have e1:execOp (aZ ev) ⟨d,.makeInterface T x,ty,pos,af,g⟩=(do pure (.value (<- Instr.makeInterface T (aZ ev x)))):=rfl;have hxl:xs=l:=by
  apply List.ext_getElem (by rw [h3,SZ]);intro i q1 q2;exact(h4 i (.v l[i]) xs[i] (by rw [SU,SQ q2];rfl) (SQ q1)).val
 have hrun:(Instr.makeInterface T (aZ ev x)).run P w= .ok (.iface T (.agg l.toArray)) w:=by
  rw [h2,hxl];unfold Instr.makeInterface;rw [Sem.run_bind,run_underlying hu];cases td<;>first|rfl|(simp [isIf]at hni)
 rw [e1,Sem.run_bind,hrun];exact⟨.ro (.v _),Ext.refl w⟩
theorem Br(hx:al e x= .v .nilIface)(hi:isIf (P.underlying t)=true):bH P ⟨d,.binOp .neq t x (.const .nilIface) t2,ty,pos,af,g⟩ e mem (.v (.bool false)):=
 pC hx rfl λw=>by
  obtain⟨ms,hu⟩:=rK hi;have:(Op.equalIn (Op.maxDepth - 1+1) t .nilIface .nilIface).run P w= .ok true w:=by
   unfold Op.equalIn;simp [Sem.run_bind,run_underlying hu]
  have h2:Op.maxDepth - 1+1=Op.maxDepth:=rfl;rw [h2]at this;simp [eqGuard,binOp,Op.equal,Sem.run_bind,this]
theorem Jx{te:TypeId}{pe:Value}(hx:al e x= .v (.iface te pe))(hi:isIf (P.underlying t)=true):bH P ⟨d,.binOp .neq t x (.const .nilIface) t2,ty,pos,af,g⟩ e mem (.v (.bool true)):=
 pC hx rfl λw=>by
  obtain⟨ms,hu⟩:=rK hi;have:(Op.equalIn (Op.maxDepth - 1+1) t (.iface te pe) .nilIface).run P w= .ok false w:=by
   unfold Op.equalIn;simp [Sem.run_bind,run_underlying hu]
  have h2:Op.maxDepth - 1+1=Op.maxDepth:=rfl;rw [h2]at this;simp [eqGuard,binOp,Op.equal,Sem.run_bind,this]
theorem uu{len eT i:Nat}{l:List AV}{a:AV}{kk:IntKind}(ht:wF P t len eT false 1)(hx:al e x= .agg l)(hy:al e y= .v (.int kk (i:Int)))(hi:decide (i<len)=true)(ha:l[i]? =some a):bH P ⟨d,.index t x y,ty,pos,af,g⟩ e mem a:=by
 have hfl:∀ l:List AV,l=(l.map λa=> [a]).flatten :=λl=>by induction l with|nil=>rfl|cons a l ih=>simp [<- ih]
 have hd:i<len:=by simpa using hi
 exact ER (els:=l.map λa=> [a]) ht rfl hx hy (hfl l) (λq hq=>by obtain⟨_,_,rfl⟩:=TG.1 hq;rfl) ah ah (by rw [Ti,SU,ha];rfl)
structure bP (mem m:List Ob) (K:Nat->Prop):Prop where
 len:mem.length<=m.length
 same:∀ j,j<mem.length-> ¬ K j->m[j]? =mem[j]?
theorem bP.refl(mem:List Ob)(K:Nat->Prop):bP mem mem K:=⟨SR _,λ_ _ _=>rfl⟩
theorem bP.trans{a b c:List Ob}{K K':Nat->Prop}(h:bP a b K)(h':bP b c K')(hk:∀ j,j<a.length->K' j->K j):bP a c K:=
 ⟨Tm h.len h'.len,λj hj hn=>(h'.same j (S4 hj h.len) λhq=>hn (hk j hj hq)).trans (h.same j hj hn)⟩
theorem bP.at_{mem m:List Ob}{K:Nat->Prop}(h:bP mem m K){j:Nat}{o:Ob}(hj:mem[j]? =some o)(hn:¬ K j):m[j]? =some o:=(h.same j (SN.1 hj).1 hn).trans hj
theorem bP.len_{mem m:List Ob}{K:Nat->Prop}(h:bP mem m K){n:Nat}(hl:mem.length=n):∃ n',m.length=n'/\n<=n':=⟨_,rfl,by rw [<- hl];exact h.len⟩
theorem dB.all{mem m:List Ob}{K:Nat->Prop}{f:Nat->Nat}{n i x e w:Nat}{r:Nat->List (List AV)}{lo hi k:Nat}(h:dB mem f n i x e w r lo hi k)(hK:bP mem m K)(hn:∀ q,q<n->q≠i-> ¬ K (f q)):dB m f n i x e w r lo hi k:=
 h.of_same λq h1 h2=>hK.same _ (SN.1 (h.at_ q h1 h2)).1 (hn q h1 h2)
end
end Go.Proofs.YtfoaiidcfkmneaaGreatDoor
namespace Go.Proofs.YtfoaiidcfkmneaaGreatDoor.RestR
open Go Go.RowKit Go.Proofs
variable {m0 mem m:List Ob} {K:Nat->Prop} {o:Ob} {i j n:Nat}
theorem aI(hm:m=mem++ [o])(h:bP m0 mem K):bP m0 m K:=h.trans (K':=λ_=>False) ⟨by subst hm;simp,λj hj _=>by subst hm;rw [SX hj]⟩ λ_ _ h=>h.elim
theorem au(hm:m=mem.set j o)(h:bP m0 mem K)(hj:j<m0.length->K j):bP m0 m K:=h.trans (K':=λq=>q=j) ⟨by subst hm;simp,λq hq hn=>by subst hm;rw [SY (λe=>hn e.symm)]⟩ λq hq he=>by subst he;exact hj hq
theorem cC(hm:m=mem.set j .gone ++ [o])(h:bP m0 mem K)(hj:j<m0.length->K j):bP m0 m K:=aI hm (au rfl h hj)
theorem bJ{k:Nat}(hm:m=mem++List.replicate k .gone)(h:bP m0 mem K):bP m0 m K:=h.trans (K':=λ_=>False) ⟨by subst hm;simp,λj hj _=>by subst hm;rw [SX hj]⟩ λ_ _ h=>h.elim
theorem cY(hm:m=(mem.set i .gone).set j o)(h:bP m0 mem K)(h1:i<m0.length->K i)(h2:j<m0.length->K j):bP m0 m K:=au hm (au rfl h h1) h2
end Go.Proofs.YtfoaiidcfkmneaaGreatDoor.RestR
