/- Lemmas for the statement. -/
import Derived.Test.YtfoaiidcfkmneaaGreatDoorA58
namespace Go.Proofs.YtfoaiidcfkmneaaGreatDoor
open Go Go.RowKit Go.Proofs
set_option linter.unusedSimpArgs false
set_option linter.unusedVariables false
section
variable {P:Program} {N:Nat} {Q:AQ} {e:Nat->AV} {mem:List Ob} {ops:Array Oper} {l:List Oper} {d:Option Tmp} {ty t t2:TypeId} {pos:String} {af:Array Edge} {g:Option (Nat×Bool)} {x y z:Operand}
theorem IX{T xT:TypeId}{td:TypeDesc}(hu:P.underlying T=some td)(hni:isIf (some td)=false)(l:List Value)(hx:al e x= .v (.iface T (.agg l.toArray))):bH P ⟨d,.typeAssert x xT T true,ty,pos,af,g⟩ e mem (.tuple [.agg (l.map .v),.v (.bool true)]):=by
 intro pb w0 θ w ev hs h;have h1:=h x cB;rw [hx]at h1;have e1:execOp (aZ ev) ⟨d,.typeAssert x xT T true,ty,pos,af,g⟩=(do pure (.value (<- Instr.typeAssert (aZ ev x) xT T true))):=rfl;have hrun:(Instr.typeAssert (aZ ev x) xT T true).run P w= .ok (.tuple #[.agg l.toArray,.bool true]) w:=by
  rw [h1.val];unfold Instr.typeAssert;rw [Sem.run_bind,run_underlying hu];cases td<;>first|(simp [isIf]at hni;done)|simp
 rw [e1,Sem.run_bind,hrun];refine⟨.tuple _ [.agg l.toArray,.bool true] rfl λi a u ha hu=>?_,Ext.refl w⟩
 match i with
 | 0=>
  cases ha;cases hu;refine .ro (.agg _ l aL λi a u ha hu=>?_);rw [SU,hu]at ha;cases ha;exact .v _
 | 1=>cases ha;cases hu;exact .ro (.v _)
 | i+2=>cases ha
end
theorem AP{P:Program}{pr:Nat->Prop}{B:Nat}{cs:List Frame}:∀ (ms:List Deferred) (w:World) (fr:Frame),fr.mode≠ .run ->fr.defers=ms->ij B pr w ms->
 ∃ w',dw B w w'/\StepsIn (Machine.fenced P Fence.wide) P (lone fr cs w) (lone {fr with defers:= []} cs w')
 | [],w,fr,hm,hd,_=>⟨w,dw.refl _ _,by
  have hx_:({fr with defers:= []}:Frame)=fr:=by rw [<- hd]
  rw [hx_];exact StepsIn.refl _⟩
 | d::ds,w,fr,hm,hd,hk=>by
  obtain⟨D,h1,h2,h3,h4,h5⟩:=hk.1 d aL;have hc:dw B w (w.putObj D (.deferred none)):=dw.put _ h5 h4;obtain⟨w',g1,g2⟩:=AP (cs:=cs) (P:=P) (pr:=pr) (B:=B) ds (w.putObj D (.deferred none)) {fr with defers:= []++ds} hm rfl ⟨λd' hd'=>by
   obtain⟨D',g1,g2,g3,g4,g5⟩:=hk.1 d' (by simp [hd']);have hne:D'≠D:=λe=>(Uo.1 hk.2).1 d' hd' (by rw [h1,g1,e])
   exact⟨D',g1,S4 g2 hc.below.size,g3,(World.putObj_heap_other hne).trans g4,g5⟩,(Uo.1 hk.2).2⟩
  exact⟨w',hc.trans g1,.head (fenced_wide _ _) (step_collected hm hd h1 (run_takeDeferred h4)) g2⟩
section
variable {P:Program}
theorem AE{g:FuncId}{fn:Func}{B:Code}{id:Nat}{d:Tmp}{ty:TypeId}{pos:String}{af:Array Edge}{rv:Value}{u u':FrameMode}(hf:P.funcs[g]? =some fn)(hb:fn.body=some (.seq (.region id #[⟨some d,.call ⟨.builtin .recover,#[],#[]⟩,ty,pos,af,none⟩] false) B))(hd:d<fn.ntmps)
 (hrec:∀ (c₀:Frame) (cs:List Frame),c₀.mode=u->(recoverD (c₀::cs)=some (rv,{c₀ with mode:=u'}::cs))\/(recoverD (c₀::cs)=none/\rv= .nilIface /\u'=u))
 {vs:List Value}{w:World}{pb L:Nat->Prop}{θ:List Value}{mem:List Ob}{e:Nat->AV}(hfit:Fit fn.ntmps pb ⟨w,L,[]⟩ e mem θ {tmps:=vs.toArray++Array.replicate (fn.ntmps - vs.toArray.size) undef,defers:= []} w)
 {ψ:List Ob->Prop}(hA:AW .top P fn.ntmps B (rm P fn (λ_ m=>ψ m) (λ_ _=>False)) (aT e (some d) (.v rv)) mem)(c₀:Frame)(cs:List Frame)(hu:c₀.mode=u):
 ∃ x w' fr θ' mem',ψ mem'/\Step pb ⟨w,L,[]⟩ θ mem w θ' mem' w'/\StepsIn (Machine.fenced P Fence.wide) P (lone (Frame.enter P g vs.toArray .deferred) (c₀::cs) w) (lone fr ({c₀ with mode:=u'}::cs) w')/\fr.kind= .deferred /\fr.fn=g/\fr.going P w' (.returned x):=by
 obtain⟨a0,ha0⟩:∃ a0:Act,a0= {tmps:=vs.toArray++Array.replicate (fn.ntmps - vs.toArray.size) undef,defers:= []}:=⟨_,rfl⟩;rw [<- ha0]at hfit
 let b:Frame:= {(default:Frame)with fn:=g,kind:=.deferred,roundOf:=none}
 have henter:Frame.enter P g vs.toArray .deferred =b.atR a0 [.code (.seq (.region id #[⟨some d,.call ⟨.builtin .recover,#[],#[]⟩,ty,pos,af,none⟩] false) B)]:=by
  rw [ha0];simp [Frame.enter,Frame.atR,hf,hb,b]
 have hput:Fit fn.ntmps pb ⟨w,L,[]⟩ (aT e (some d) (.v rv)) mem θ (a0.put (some d) rv) w:=hfit.put (Step.refl hfit.sim) (by simpa [dV]using hd) (.ro (.v _));have h0:(Code.seq (.region id #[⟨some d,.call ⟨.builtin .recover,#[],#[]⟩,ty,pos,af,none⟩] false) B).wpSIn Fence.wide 8 P (λx a cs' w'=>cs'= {c₀ with mode:=u'}::cs/\LQ fn.ntmps pb ⟨w,L,[]⟩ θ mem w (rm P fn (λ_ m=>ψ m) (λ_ _=>False)) x a w') a0 (c₀::cs) w:=by
  have hB:∀ cs',cs'= {c₀ with mode:=u'}::cs->B.wpSIn Fence.wide 8 P (λx a cs' w'=>cs'= {c₀ with mode:=u'}::cs/\LQ fn.ntmps pb ⟨w,L,[]⟩ θ mem w (rm P fn (λ_ m=>ψ m) (λ_ _=>False)) x a w') (a0.put (some d) rv) cs' w:=λcs' hcs=>
   wpSIn_of_wpIn rfl (wpIn_mono (hA Fence.wide 8 rfl pb ⟨w,L,[]⟩ θ _ w hput) λx a w' h=>⟨hcs,h⟩)
  refine wpSIn_seq (wpSIn_region ?_);have hex:(execOp a0.eval ⟨some d,.call ⟨.builtin .recover,#[],#[]⟩,ty,pos,af,none⟩).run P w= .ok .recover w:=by simp [go_sem]
  show(∀ f,_->_)/\(if Region.wanted _ _=true then _ else _)
  refine⟨λ_ _=>trivial,?_⟩;rw [if_pos (by rfl:Region.wanted _ _=true)]
  erw [hex]
  rcases hrec c₀ cs hu with h|⟨h,h2,h3⟩
  ·rw [h];exact hB _ rfl
  ·rw [h, <- h2];exact hB _ (by rw [h3, <- hu])
 obtain⟨x,a',cs',w',hl,⟨rfl,e',mem',θ',hfit',hst,hq⟩,harr⟩:=h0 b [] rfl rfl trivial (room_wide _);rw [<- henter]at harr;have fin:∀ fr:Frame,fr.mode= .returning ->fr.defers=a'.defers->fr.tmps=a'.tmps->fr.kind= .deferred ->fr.fn=g->(∃ r,ow P fn e' mem' r/\ψ mem')->StepsIn (Machine.fenced P Fence.wide) P (lone (Frame.enter P g vs.toArray .deferred) (c₀::cs) w) (lone fr ({c₀ with mode:=u'}::cs) w')->
  ∃ x w' fr θ' mem',ψ mem'/\Step pb ⟨w,L,[]⟩ θ mem w θ' mem' w'/\StepsIn (Machine.fenced P Fence.wide) P (lone (Frame.enter P g vs.toArray .deferred) (c₀::cs) w) (lone fr ({c₀ with mode:=u'}::cs) w')/\fr.kind= .deferred /\fr.fn=g/\fr.going P w' (.returned x):=by
  rintro fr hm hdf htm hk hg ⟨r,hr,hψ⟩ hsteps;obtain⟨ms,hms,hm0⟩:=hfit'.dfr;have hms':a'.defers=ms:=by rw [hms];exact TX ms
  obtain⟨w2,hc,hs2⟩:=AP (P:=P) (cs:= {c₀ with mode:=u'}::cs) ms w' fr (by rw [hm];simp) (hdf.trans hms') hm0;obtain⟨v,h3,h4⟩:=hr _ _ _ w2 {a' with defers:= []} ⟨hfit'.size,Mks.nil _ _ _,λt=>(hfit'.sl t).calm hc,hfit'.sim.calm hc⟩;exact⟨v,w2,{fr with defers:= []},θ',mem',hψ,hst.calm hc,hsteps.trans hs2,hk,hg,hm,rfl,fn,by show P.funcs[fr.fn]? =_;rw [hg];exact hf,by show(results fn fr.tmps).run P w2=_;rw [htm];exact h3⟩
 cases x with
 | normal=>exact fin {b.atR a' []with mode:=.returning} rfl rfl rfl rfl rfl hq (StepsIn.trans harr (.one (fenced_wide _ _) (stepR_end rfl)))
 | ret=>
  obtain⟨todo,hs⟩:=harr.1 rfl;exact fin {b.atR a' todo with mode:=.returning} rfl rfl rfl rfl rfl hq hs
 | panic ch=>obtain⟨_,_,hq⟩:=hq;exact hq.elim
 | exit i=>exact hq.elim
 | goto t=>exact hq.elim
 | outgrown=>exact hq.elim
theorem F9{fn:Func}{pb L:Nat->Prop}{w:World}{θ vs:List Value}{mem:List Ob}{args:List AV}(hs:cr pb ⟨w,L,[]⟩ w θ mem)(h1:vs.length=args.length)(hN:args.length<=fn.ntmps)(h2:∀ (i:Nat) (a:AV) (x:Value),args[i]? =some a->vs[i]? =some x->R1 θ (aP pb θ mem) w a x):
 Fit fn.ntmps pb ⟨w,L,[]⟩ (pW args) mem θ {tmps:=vs.toArray++Array.replicate (fn.ntmps - vs.toArray.size) undef,defers:= []} w:=by
 refine⟨by simp;omega,Mks.nil _ _ _,λt=>?_,hs⟩
 show R1 _ _ _ (args.getD t (.v undef)) ((vs.toArray++Array.replicate (fn.ntmps - vs.toArray.size) undef).getD t undef)
 by_cases ht:t<args.length
 ·have e1:args.getD t (.v undef)=args[t]:=by simp [SO,ht]
  have ht':t<vs.length:=by omega
  have e2:(vs.toArray++Array.replicate (fn.ntmps - vs.toArray.size) undef).getD t undef=vs[t]:=by
   rw [S3,Up nU];simp [ht']
  rw [e1,e2];exact h2 t _ _ (SQ ht) (SQ ht')
 ·have e1:args.getD t (.v undef)= .v undef:=by simp [SO,S5 (Ug ht)]
  have e2:(vs.toArray++Array.replicate (fn.ntmps - vs.toArray.size) undef).getD t undef=undef:=by
   rw [S3,Ur cZ,UF]
   split<;>rfl
  rw [e1,e2];exact .ro (.v _)
theorem LV{g:FuncId}{fn:Func}{B:Code}{id:Nat}{d:Tmp}{ty:TypeId}{pos:String}{af:Array Edge}{v:Value}{caps:List AV}{mem:List Ob}{Φ:List Ob->Prop}(N:Nat)(hf:P.funcs[g]? =some fn)(hb:fn.body=some (.seq (.region id #[⟨some d,.call ⟨.builtin .recover,#[],#[]⟩,ty,pos,af,none⟩] false) B))(hn:fn.ntmps=N)(hN:caps.length<=N)(hd:d<N)
 (hA:∀ e m,(∀ (t:Nat) (a:AV),caps[t]? =some a->al e (.tmp t)=a)->m=mem->AW .top P N B (rm P fn (λ_ m=>Φ m) (λ_ _=>False)) (aT e (some d) (.v v)) m):wx P g caps mem v Φ:=by
 subst hn;intro pb w θ vs hs h1 h2;refine⟨trivial,λc₀ cs hu _=>?_⟩;obtain⟨x,w',fr,θ',mem',hψ,hst,hsteps,h3,h4,h5⟩:=AE (u':=.panicking [{v:=v,recovered:=true}]) hf hb hd (λc₀ cs hu=>.inl (by simp [recoverD,hu])) (F9 hs h1 hN h2) (hA (pW caps) mem (λt a ha=>by show caps.getD t _=a;rw [SO,ha];rfl) rfl) c₀ cs hu;exact⟨.returned x,_,w',fr,⟨x,θ',mem',rfl,rfl,hψ,hst⟩,hsteps,h3,h4,h5⟩
theorem LW{g:FuncId}{fn:Func}{B:Code}{id:Nat}{d:Tmp}{ty:TypeId}{pos:String}{af:Array Edge}{K:Nat}(N:Nat)(hf:P.funcs[g]? =some fn)(hb:fn.body=some (.seq (.region id #[⟨some d,.call ⟨.builtin .recover,#[],#[]⟩,ty,pos,af,none⟩] false) B))(hn:fn.ntmps=N)(hN:K<=N)(hd:d<N)
 (hA:∀ e m,m= []->AW .top P N B (rm P fn (λ_ _=>True) (λ_ _=>False)) (aT e (some d) (.v .nilIface)) m)(vs:Array Value)(w:World)(hvs:vs.size=K):CallsDIn Fence.wide 8 P g vs .returning w λen u' w'=>∃ v,en= .returned v/\u'= .returning /\Ext w w':=by
 subst hn;refine⟨trivial,λc₀ cs hu _=>?_⟩;have hs:cr (λ_=>False) ⟨w,λ_=>False,[]⟩ w [] []:=⟨g7.refl w _,λb hb=>hb.elim,rfl,λj o v hm=>by simp at hm,λi j o p v u b hm=>by simp at hm⟩;obtain⟨x,w',fr,θ',mem',hψ,hst,hsteps,h3,h4,h5⟩:=AE (u':=.returning) hf hb hd (λc₀ cs hu=>.inr ⟨by simp [recoverD,hu],rfl,rfl⟩) (F9 (vs:=vs.toList) (args:=List.replicate K .any) hs (by simp [hvs]) (by simpa using hN) (λi a x ha hx=>by
  have:=S9 ha;rw [US this];exact .ro (.any _))) (hA _ [] rfl) c₀ cs hu
 exact⟨.returned x,_,w',fr,⟨x,rfl,rfl,hst.sim.ext.sZ⟩,hsteps,h3,h4,h5⟩
end
end Go.Proofs.YtfoaiidcfkmneaaGreatDoor
