/- Lemmas for the statement. -/
import Derived.Test.YtfoaiidcfkmneaaGreatDoorM8
import Derived.Test.YtfoaiidcfkmneaaGreatDoorM7
namespace Go.Proofs.YtfoaiidcfkmneaaGreatDoor
open Go Go.RowKit Go.Proofs
set_option linter.unusedSimpArgs false
set_option linter.unusedVariables false
def lX(P:Program)(c:Code)(Q:Exit->Act->World->Prop)(a:Act)(w:World):Prop:=
 ∀ (b:Frame) (k:List Item) (cs:List Frame),b.roundOf=none->(∃ fn,P.funcs[b.fn]? =some fn)->
  ∃ e a' w',Q e a' w'/\ArrivesIn (Machine.fenced P Fence.wide) P (lone (b.atR a (.code c::k)) cs w) b k cs e a' w'
section
variable {P:Program} {Q:Exit->Act->World->Prop} {a:Act} {w:World}
theorem vQ{n:Nat}{c:Code}(h:c.wpIn Fence.wide n P Q a w):lX P c Q a w:=λb k cs hr _=>h b k cs hr trivial (room_wide _)
theorem o5{c:Code}{Q':Exit->Act->World->Prop}(h:lX P c Q a w)(hq:∀ e a w,Q e a w->Q' e a w):lX P c Q' a w:=λb k cs hr hf=>
 let ⟨e,a',w',q,r⟩:=h b k cs hr hf;⟨e,a',w',hq _ _ _ q,r⟩
theorem vf{x y:Code}(h:lX P x (Exit.then (lX P y Q) Q) a w):lX P (.seq x y) Q a w:=by
 intro b k cs hro hb;have h0:(lone (b.atR a (.code (.seq x y)::k)) cs w).fenced P Fence.wide:=fenced_wide _ _;obtain⟨e,a₁,w₁,hq,harr⟩:=h b (.code y::k) cs hro hb;cases e with
 | normal=>
  obtain⟨e₂,a₂,w₂,hq₂,harr₂⟩:=hq b k cs hro hb;exact⟨e₂,a₂,w₂,hq₂,.of_steps (.head h0 stepR_seq harr) harr₂⟩
 | exit id=>exact⟨_,a₁,w₁,hq,.of_steps (.one h0 stepR_seq) (.pass (x:=.code y) rfl (λ_ _=>.inl aL) harr)⟩
 | goto l=>exact⟨_,a₁,w₁,hq,.of_steps (.one h0 stepR_seq) (.pass (x:=.code y) rfl (λ_ _=>.inl aL) harr)⟩
 | ret=>exact⟨_,a₁,w₁,hq,.of_steps (.one h0 stepR_seq) (.pass (x:=.code y) rfl (λ_ _=>.inl aL) harr)⟩
 | panic ch=>exact⟨_,a₁,w₁,hq,.of_steps (.one h0 stepR_seq) (.pass (x:=.code y) rfl (λ_ _=>.inl aL) harr)⟩
 | outgrown=>exact⟨_,a₁,w₁,hq,.of_steps (.one h0 stepR_seq) (.pass (x:=.code y) rfl (λ_ _=>.inl aL) harr)⟩
def tl(P:Program)(R:Ending->World->Prop)(ch:List PanicEntry):List Deferred->World->Prop
 | [],w=>R (.panicked ch) w
 | d::ds,w=>∃ r w',d.target= .collected r/\(Instr.takeDeferred r).run P w= .ok [] w'/\tl P R ch ds w'
theorem A6{P:Program}{R:Ending->World->Prop}{ch:List PanicEntry}{pr:Nat->Prop}{B:Nat}:∀ {ms:List Deferred} {w:World},ij B pr w ms->(∀ w',dw B w w'->R (.panicked ch) w')->tl P R ch ms w
 | [],w,_,h=>h w (dw.refl _ _)
 | d::ds,w,hm,h=>by
  obtain⟨D,h1,h2,h3,h4,h5⟩:=hm.1 d aL;refine⟨D,_,h1,run_takeDeferred h4,?_⟩;have hc:dw B w (w.putObj D (.deferred none)):=dw.put _ h5 h4;refine A6 (pr:=pr) (B:=B) ⟨λd' hd'=>?_,(Uo.1 hm.2).2⟩ (λw' hw'=>h w' (hc.trans hw'));obtain⟨D',g1,g2,g3,g4,g5⟩:=hm.1 d' (by simp [hd']);have hne:D'≠D:=λe=>(Uo.1 hm.2).1 d' hd' (by rw [h1,g1,e])
  exact⟨D',g1,S4 g2 hc.below.size,g3,(World.putObj_heap_other hne).trans g4,g5⟩
theorem A7{P:Program}{F:Fence}{n:Nat}{R:Ending->World->Prop}{ch:List PanicEntry}{c:Frame}{cs:List Frame}:∀ (ds:List Deferred) (w:World) (fr:Frame),fr.mode= .panicking ch->fr.defers=ds->F.fn fr.fn->F.room ((c::cs).length +1+n)->(∃ fn,P.funcs[fr.fn]? =some fn)->tl P R ch ds w->
 ∃ w',R (.panicked ch) w'/\StepsIn (Machine.fenced P F) P (lone fr (c::cs) w) (lone (c.raise ch) cs w')
 | [],w,fr,hm,hd,hF,hr,hf,h=>by
  have hl:fr.leaving P w (.panicked ch):=⟨hm,hd,hf⟩;exact⟨w,h,.one (fenced_leaving hF hr hl) (step_leave_panicked hl)⟩
 | d::ds,w,fr,hm,hd,hF,hr,hf,h=>by
  obtain⟨r,w',ht,hk,hrest⟩:=h;have hrun:fr.mode≠ .run :=by rw [hm];simp
  have h1:=step_collected (P:=P) (cs:=c::cs) hrun hd ht hk;have i1:(lone fr (c::cs) w).fenced P F:=fenced_out hF hr hrun hd (λg hg=>by rw [ht]at hg;simp [Target.leads]at hg);obtain⟨w2,h2,h3⟩:=A7 ds w' {fr with defers:= []++ds} hm rfl hF hr hf hrest;exact⟨w2,h2,.head i1 h1 h3⟩
def IV(P:Program)(l:Nat)(R:Ending->World->Prop):Exit->Act->World->Prop
 | .panic ch,a,w=>tl P R ch a.defers w
 | x,a,w=>roundPost P l R x a w
theorem HC{n l:Nat}{f:FuncId}{tmps:Array Value}{assign body:Code}{R:Ending->World->Prop}(hf:∃ fn,P.funcs[f]? =some fn)
 (h:assign.wpIn (Fence.wide.inRound l) n P (Exit.then (λa₁ w₁=>∃ w₂,(Instr.beginRound l).run P w₁= .ok () w₂/\body.wpIn (Fence.wide.inRound l) n P (IV P l R) a₁ w₂) (λ_ _ _=>False)) {tmps:=tmps,defers:= []} w):
 RoundIn Fence.wide n P l f tmps assign body w R:=by
 refine⟨trivial,λc cs hr=>?_⟩
 let b:Frame:= {(default:Frame)with fn:=f,kind:=.normal,roundOf:=some l}
 have hb0:Frame.round l f tmps assign body .normal =b.atR {tmps:=tmps,defers:= []} [.code assign,.beginRound,.code body]:=by
  simp [Frame.round,Frame.atR,b]
 have hr':(Fence.wide.inRound l).room ((c::cs).length +1+n):=hr;have hF':(Fence.wide.inRound l).fn b.fn:=trivial;obtain⟨e,a₁,w₁,hq,harr⟩:=h b [.beginRound,.code body] (c::cs) rfl hF' hr';rw [<- hb0]at harr;cases e with
 | normal=>
  obtain⟨w₂,hbr,hbody⟩:=hq;have s1:StepsIn (Machine.fenced P (Fence.wide.inRound l)) P (lone (b.atR a₁ [.beginRound,.code body]) (c::cs) w₁) (lone (b.atR a₁ [.code body]) (c::cs) w₂):=
   .one (fenced_calm (fr:=b.atR a₁ [.beginRound,.code body]) hF' hr' rfl) (stepR_beginRound rfl hbr)
  obtain⟨e₂,a₂,w₃,hq₂,harr₂⟩:=hbody b [] (c::cs) rfl hF' hr';cases e₂ with
  | normal=>
   obtain⟨v,w₄,hend,hR⟩:=hq₂;exact⟨.returned v,w₄,hR,(StepsIn.trans harr s1).trans (StepsIn.trans harr₂ (.one (fenced_calm (fr:=b.atR a₂ []) hF' hr' rfl) (stepR_round_end rfl rfl hend)))⟩
  | ret=>
   obtain⟨v,w₄,hend,hR⟩:=hq₂;obtain⟨k₁,hs⟩:=harr₂.2 rfl;exact⟨.returned v,w₄,hR,(StepsIn.trans harr s1).trans (StepsIn.trans hs (.one (fenced_calm (fr:=b.atR a₂ (.code .ret ::k₁)) hF' hr' rfl) (stepR_round_ret rfl rfl hend)))⟩
  | exit id=>
   obtain⟨v,w₄,hend,hR⟩:=hq₂;obtain⟨k₁,hk,hs⟩:=harr₂.2 rfl rfl;exact⟨.returned v,w₄,hR,(StepsIn.trans harr s1).trans (StepsIn.trans hs (.one (fenced_calm (fr:=b.atR a₂ (.code (.exit id)::k₁)) hF' hr' rfl) (stepR_round_exit rfl rfl hk hend)))⟩
  | goto t=>
   obtain⟨v,w₄,hend,hR⟩:=hq₂;obtain⟨k₁,hk,hs⟩:=harr₂.2 rfl rfl;exact⟨.returned v,w₄,hR,(StepsIn.trans harr s1).trans (StepsIn.trans hs (.one (fenced_calm (fr:=b.atR a₂ (.code (.goto t)::k₁)) hF' hr' rfl) (stepR_round_goto rfl rfl hk hend)))⟩
  | panic chain=>
   obtain⟨todo,hs⟩:=harr₂;obtain⟨w₄,hR,hs2⟩:=A7 (F:=Fence.wide.inRound l) (n:=n) (c:=c) (cs:=cs) a₂.defers w₃ {b.atR a₂ todo with mode:=.panicking chain} rfl rfl trivial hr' hf hq₂;exact⟨.panicked chain,w₄,hR,(StepsIn.trans harr s1).trans (StepsIn.trans hs hs2)⟩
  | outgrown=>exact hq₂.elim
 | exit id=>exact hq.elim
 | goto t=>exact hq.elim
 | ret=>exact hq.elim
 | panic chain=>exact hq.elim
 | outgrown=>exact hq.elim
theorem Jy{n:Nat}{g:Operand}{ps:Array Tmp}{assign body:Code}
 (h:∀ fn,(∃ f,P.funcs[fn]? =some f)-> ∃ (l:Nat) (mark:List Deferred) (w₁:World) (d:Deferred) (w₁':World) (f:FuncId) (args:Array Value) (w₂:World),
  (Instr.enterLoop fn a.tmps ps assign body none).run P w= .ok (l,mark) w₁/\(resolve a.eval (rangeCall g l) 0).run P w₁= .ok d w₁'/\(invoke d.target d.args).run P w₁'= .ok (.enter f args) w₂/\
  CallsIn Fence.wide (n - 1) P f args w₂ (λen w₃=>match en with
   | .returned _=>∃ w₄,(Instr.endLoop l).run P w₃= .ok none w₄/\Q .normal {a with defers:=mark++a.defers} w₄
   | .panicked chain=>Q (.panic chain) {a with defers:=mark++a.defers} w₃
   | .outgrown =>False)):lX P (.rangeFunc g ps assign body) Q a w:=by
 intro b k cs hro hb;obtain⟨l,mark,w₁,d,w₁',f,args,w₂,he,hres,hinv,hF,hcall⟩:=h b.fn hb;rw [<- hro]at he;have h0:(lone (b.atR a (.code (.rangeFunc g ps assign body)::k)) cs w).fenced P Fence.wide:=fenced_wide _ _;have henter:=stepR_rangeFunc (P:=P) (b:=b) (a:=a) (k:=k) (cs:=cs) (w:=w) he hres hinv;obtain⟨e,w₃,fr,hR,hsteps,hfn,hleave⟩:=hcall (b.atR {a with defers:=mark++a.defers} (.inRangeFunc l::k)::cs) (room_wide _);cases e with
 | outgrown=>exact hR.elim
 | returned v=>
  have hl:(lone fr (b.atR {a with defers:=mark++a.defers} (.inRangeFunc l::k)::cs) w₃).fenced P Fence.wide:=fenced_wide _ _;obtain⟨w₄,hend,hj⟩:=hR;refine⟨.normal,_,w₄,hj,?_⟩;refine .head h0 henter (StepsIn.trans hsteps (.head hl ?_ (.one (fenced_wide _ _) (stepR_endRangeFunc hend))));rw [<- finish_atR_inRangeFunc l v];exact step_leave_returned hleave
 | panicked chain=>
  have hl:(lone fr (b.atR {a with defers:=mark++a.defers} (.inRangeFunc l::k)::cs) w₃).fenced P Fence.wide:=fenced_wide _ _;refine⟨.panic chain,_,w₃,hR,.inRangeFunc l::k,.head h0 henter (StepsIn.trans hsteps (.one hl ?_))⟩;rw [<- Frame.raise_atR];exact step_leave_panicked hleave
theorem HF{n:Nat}{f:FuncId}{fn:Func}{c:Code}{args:Array Value}{R:Ending->World->Prop}(hf:P.funcs[f]? =some fn)(hb:fn.body=some c)
 (h:lX P c (bodyPostM Fence.wide n P fn R) {tmps:=args++Array.replicate (fn.ntmps - args.size) undef,defers:= []} w):CallsIn Fence.wide n P f args w R:=by
 refine⟨trivial,λcs hr=>?_⟩
 let b:Frame:= {(default:Frame)with fn:=f,kind:=.normal,roundOf:=none}
 have henter:Frame.enter P f args .normal =b.atR {tmps:=args++Array.replicate (fn.ntmps - args.size) undef,defers:= []} [.code c]:=by
  simp [Frame.enter,Frame.atR,hf,hb,b]
 obtain⟨e,a',w',hq,harr⟩:=h b [] cs rfl ⟨fn,hf⟩;rw [<- henter]at harr;cases e with
 | normal=>
  obtain⟨e',w'',fr',hR,hs,hfn,hl⟩:=leaves_stepsInM a'.defers .returning w' {b.atR a' []with mode:=.returning} cs rfl rfl rfl hf rfl trivial hr hq;exact⟨e',w'',fr',hR,ComesIn.of_steps (StepsIn.trans harr (.one (fenced_wide _ _) (stepR_end rfl))) hs,hfn,hl⟩
 | ret=>
  obtain⟨todo,hs₀⟩:=harr.1 rfl;obtain⟨e',w'',fr',hR,hs,hfn,hl⟩:=leaves_stepsInM a'.defers .returning w' {b.atR a' todo with mode:=.returning} cs rfl rfl rfl hf rfl trivial hr hq;exact⟨e',w'',fr',hR,ComesIn.of_steps hs₀ hs,hfn,hl⟩
 | panic chain=>
  obtain⟨todo,hs₀⟩:=harr;obtain⟨e',w'',fr',hR,hs,hfn,hl⟩:=leaves_stepsInM a'.defers (.panicking chain) w' {b.atR a' todo with mode:=.panicking chain} cs rfl rfl rfl hf rfl trivial hr hq;exact⟨e',w'',fr',hR,ComesIn.of_steps hs₀ hs,hfn,hl⟩
 | exit id=>exact hq.elim
 | goto l=>exact hq.elim
 | outgrown=>exact⟨.outgrown,w',b,hq,harr.resolve_left (by simp [b]),rfl,trivial⟩
end
def AF(P:Program)(N:Nat)(c:Code)(Q:AQ)(e:Nat->AV)(mem:List Ob):Prop:=∀ pb w0 θ a w,Fit N pb w0 e mem θ a w->lX P c (LQ N pb w0 θ mem w Q) a w
section
variable {P:Program} {N:Nat} {Q:AQ} {e:Nat->AV} {mem:List Ob}
theorem zX{c:Code}(h:AW .top P N c Q e mem):AF P N c Q e mem:=λpb w0 θ a w hf=>vQ (h Fence.wide 8 rfl pb w0 θ a w hf)
theorem zD{x y:Code}(h:AF P N x (lM (AF P N y Q) Q) e mem):AF P N (.seq x y) Q e mem:=by
 intro pb w0 θ a w hf;refine vf (o5 (h pb w0 θ a w hf) ?_);rintro x a' w' ⟨e',mem',θ',h1,hst,h2⟩;cases x with
 | normal=>exact o5 (h2 pb w0 θ' a' w' h1) λ_ _ _ hq=>hq.after hst
 | _=>exact⟨e',mem',θ',h1,hst,h2⟩
end
theorem Jz{P:Program}{N:Nat}{Q:AQ}{e:Nat->AV}{mem:List Ob}{g:Operand}{p q:Tmp}{ia:Nat}{tq:TypeId}{pq:String}{aq:Array Edge}{body:Code}{gf:FuncId}{l m:List AV}{ys:List (List AV)}{j:Nat}{T:TypeId}{c0:List AV}(hg:al e g= .clo (.func gf) l m)(gen:zC P gf l m j T c0 ys)
 (eg:∀ args w,(callFunc gf args).run P w= .ok (.enter gf args) w)(hps:∀ y∈ys,y.length=1)(hN:p<N)(hNq:q<N)(hmj:mem[j]? =some (.box T c0))(I:Nat->List Ob->Prop)(hI:∀ i m c c',m[j]? =some (.box T c)->I i m->I i (m.set j (.box T c')))(h0:I 0 mem)
 (round:∀ i a m' c,ys[i]? =some [a]->I i m'->m'[j]? =some (.box T c)->AW .rnd P N body (Ac I Q e i j (.box T c)) (aT (aT e (some p) a) (some q) a) m')(done:∀ m' c,I ys.length m'->m'[j]? =some (.box T c)->Q .normal e m'):AF P N (.rangeFunc g #[p] (.region ia #[⟨some q,.assign (.tmp p),tq,pq,aq,none⟩] false) body) Q e mem:=by
 obtain⟨asg,hasg⟩:∃ c:Code,c= .region ia #[⟨some q,.assign (.tmp p),tq,pq,aq,none⟩] false:=⟨_,rfl⟩;rw [<- hasg];intro pb w0 θ a w hf;refine Jy (n:=9) ?_;intro fn hfn;obtain⟨rec,hrec⟩:∃ rec:LoopState->Option Code->Loop,rec=λst pe=> {state:=st,pending:=pe,fn,tmps:=a.tmps,params:= #[p],assign:=asg,body,defers:=w.heap.size}:=⟨_,rfl⟩
 obtain⟨W1,hW1⟩:∃ W1,(w.alloc (.deferred (some []))).alloc (.loop (rec .ready none))=W1:=⟨_,rfl⟩;have hL1:W1.heap[w.heap.size+1]? =some (.loop (rec .ready none)):=by
  rw [<- hW1];have:=World.alloc_heap_new (w.alloc (.deferred (some []))) (.loop (rec .ready none));rwa [World.size_alloc]at this
 have hK1:W1.heap[w.heap.size]? =some (.deferred (some [])):=by
  rw [<- hW1];exact(Below.heap_alloc _ _ _ aL).trans (World.alloc_heap_new w _)
 have hx1:Ext w W1:=by rw [<- hW1];exact((Ext.refl w).alloc _).alloc _
 have hw0:=hf.sim.ext.size;have hnp:∀ b,w.heap.size<=b-> ¬ aP pb θ mem b:=by
  rintro b hb (hp|⟨j,o,v,h1,h2,h3,h4⟩)
  ·have:=(hf.sim.low b hp).1;omega
  ·have:=((hf.sim.ob j o v h1 h3).lt h2 h4).2;omega
 have hgv:=j8 hf g;rw [hg]at hgv;obtain⟨xs,us,hge,hxl,hxr,hul,hur⟩:∃ xs us:List Value,aZ (λt=>a.tmps.getD t undef) g= .func (.func gf) xs.toArray us.toArray/\xs.length=l.length/\(∀ (i:Nat) (b:AV) (x:Value),l[i]? =some b->xs[i]? =some x->R1 θ (aP pb θ mem) w b x)/\us.length=m.length/\(∀ (i:Nat) (b:AV) (x:Value),m[i]? =some b->us[i]? =some x->R1 θ (aP pb θ mem) w b x):=by
  generalize aZ (λt=>a.tmps.getD t undef) g=z at hgv;cases hgv with
  | ro h=>cases h with|clo _ _ _ xs us h1 h2 h3 h4=>exact⟨xs,us,rfl,h1,λi b x hb hx=>.ro (h2 i b x hb hx),h3,λi b x hb hx=>.ro (h4 i b x hb hx)⟩
  | clo _ _ _ xs us h1 h2 h3 h4=>exact⟨xs,us,rfl,h1,h2,h3,h4⟩
 refine⟨w.heap.size+1,[{target:=.collected w.heap.size,args:= #[]}],W1,{target:=.fn (.func gf) us.toArray,args:=xs.toArray++ #[.func (.yield (w.heap.size+1)) #[] #[]]},W1,gf,
  (xs++ .func (.yield (w.heap.size+1)) #[] #[]::us).toArray,W1,?_,?_,?_,?_⟩
 ·rw [<- hW1,hrec];exact run_enterLoop_outer _ _ _ _ _
 ·have:resolve a.eval (rangeCall g (w.heap.size+1)) 0=resolve (aZ (λt=>a.tmps.getD t undef)) (rangeCall g (w.heap.size+1)) 0:=by rw [gQ]
  rw [this];simp only [rangeCall,resolve,hge];simp [go_sem,aZ,Deferred.ofValue]
 ·simp [invoke,go_sem,eg]
 ·have hW1s:W1.heap.size=w.heap.size+2:=by rw [<- hW1];simp
  have h8:=gen (w.heap.size+1) pb ⟨w0.w,w0.lb,[]⟩ θ mem W1 xs us
   (λb i c θ' m' w'=>eA pb (w.heap.size+1) θ mem W1 θ' m' w'/\w'.heap[w.heap.size]? =some (.deferred (some []))/\w'.heap[w.heap.size+1]? =some (.loop (rec .ready none))/\I i m'/\b=true)
   (λch w'=>∃ θ' m',eA pb (w.heap.size+1) θ mem W1 θ' m' w'/\cr pb ⟨w0.w,w0.lb,[]⟩ w' θ' m'/\w'.heap[w.heap.size]? =some (.deferred (some []))/\Q (.panic ch) e m')
   hxl hul (λi b x hb hx=>(hxr i b x hb hx).ext hx1) (λi b x hb hx=>(hur i b x hb hx).ext hx1) ?_ ?_ rfl ((hf.sim.ext' hx1).ds rfl rfl) hmj ⟨eA.of (w0:=w0) (Step.refl (hf.sim.ext' hx1)),hK1,hL1,h0,rfl⟩
  rotate_left
  ·constructor
   ·rintro b i c θ' m' A B hs ⟨h1,h2,h3,h4,h5⟩ hx;exact⟨h1.trans (eA.of (Step.ext hs hx)),ql hx h2,ql hx h3,h4,h5⟩
   ·rintro i c c' θ' m' A θ2 B hs hmj' ⟨h1,h2,h3,h4,h5⟩ hst;have q1:w.heap.size<A.heap.size:=(Tc.1 h2).1;have hnd:∀ b,w.heap.size<=b->b<W1.heap.size-> ¬ aP pb θ' m' b:=λb hb hb'=>h1.np b hb' (hnp b hb)
    have q2:w.heap.size+1<A.heap.size:=(Tc.1 h3).1;exact⟨h1.trans (eA.of hst),(hst.same _ q1 (hnd _ (SR _) ah)).trans h2,(hst.same _ q2 (hnd _ ah ah)).trans h3,hI i m' c c' hmj' h4,h5⟩
  ·rintro i y c θ1 m1 w1 ws hy hwl hwr hs1 hmj1 ⟨hk1,hd1,hl1,hi1,-⟩;have hsz1:=hk1.sz;have hlt:w.heap.size+1<w1.heap.size:=(Tc.1 hl1).1;have hpl:y.length=1:=hps y (S9 hy)
   match y,hpl,hy,hwl,hwr with
   | [av],_,hy,hwl,hwr=>
   match ws,hwl,hwr with
   | [wv],_,hwr=>
   have hyy:=run_yield (P:=P) (args:= #[wv]) hl1 (by rw [hrec];simp);rw [hrec]at hyy;refine⟨fn,_,asg,body,hyy,HC hfn ?_⟩;have hn1:∀ b,w.heap.size<=b->b<W1.heap.size-> ¬ aP pb θ1 m1 b:=λb hb hb'=>hk1.np b hb' (hnp b hb)
   have hfr:∀ t,R1 θ1 (aP pb θ1 m1) w1 (e t) (a.tmps.getD t undef):=λt=>hk1.keep _ _ ((hf.sl t).ext hx1)
   have hz:(#[p].zip #[wv]).foldl (λt (q:Tmp×Value)=>t.setIfInBounds q.1 q.2) a.tmps=a.tmps.setIfInBounds p wv:=by rw [<- Array.foldl_toList];simp
   rw [hz];have hpv:(a.tmps.setIfInBounds p wv).getD p undef=wv:=by have:=hf.size;simp [S3,this,hN]
   rw [hasg];refine wpIn_region_lit (l:= [_]) ?_
   show(if Region.wanted _ (yielded _ _)then _ else _)
   rw [if_pos (by rfl:Region.wanted _ _=true)];refine⟨λf _=>trivial,?_⟩;rw [Oper.semAt_eq _ _ _ (λc hc=>by cases hc)];have hex:(execOp ({tmps:=a.tmps.setIfInBounds p wv,defers:= []}:Act).eval ⟨some q,.assign (.tmp p),tq,pq,aq,none⟩).run P w1= .ok (.value wv) w1:=by
    rw [gQ]
    show Result.ok (Next.value ((a.tmps.setIfInBounds p wv).getD p undef)) w1=_
    rw [hpv]
   rw [hex]
   show ∃ w₂,_
   refine⟨_,run_beginRound hl1 (by rw [hrec]),?_⟩;obtain⟨wb,hwb⟩:∃ wb,wb=w1.putObj (w.heap.size+1) (.loop {rec .ready none with state:=.busy}):=⟨_,rfl⟩;rw [<- hwb];have hlb:wb.heap[w.heap.size+1]? =some (.loop {rec .ready none with state:=.busy}):=by rw [hwb];exact World.putObj_heap_same hlt
   have hdb:wb.heap[w.heap.size]? =some (.deferred (some [])):=by rw [hwb];exact(World.putObj_heap_other ah).trans hd1
   have hcb:dw w0.w.heap.size w1 wb:=by rw [hwb];exact dw.pP _ ah hl1
   have hkb:eA pb (w.heap.size+1) θ1 m1 w1 θ1 m1 wb:=by rw [hwb];exact eA.put _ hl1
   have hszb:wb.heap.size=w1.heap.size:=by rw [hwb];simp
   have hsb:cr pb ⟨w0.w,w0.lb,[]⟩ wb θ1 m1:=hs1.calm hcb;have hfb:Fit N pb ⟨wb,eP θ1 m1,[]⟩ (aT (aT e (some p) av) (some q) av) m1 θ1 (({tmps:=a.tmps.setIfInBounds p wv,defers:= []}:Act).put (some q) wv) wb:=by
    have hq:Fit N pb ⟨wb,eP θ1 m1,[]⟩ e m1 θ1 {tmps:=a.tmps,defers:= []} wb:=⟨hf.size,Mks.nil _ _ _,λt=>hkb.keep _ _ (hfr t),all_in hsb⟩;have h1:=hq.put (Step.refl hq.sim) (d:=some p) (by simpa [dV]using hN) (r:=av) (v:=wv) (hkb.keep _ _ (.ro (hwr 0 av wv rfl rfl)));exact h1.put (Step.refl hq.sim) (d:=some q) (by simpa [dV]using hNq) (r:=av) (v:=wv) (hkb.keep _ _ (.ro (hwr 0 av wv rfl rfl)))
   refine wpIn_mono (round i av m1 c hy hi1 hmj1 (Fence.wide.inRound (w.heap.size+1)) 7 ⟨_,rfl⟩ pb ⟨wb,eP θ1 m1,[]⟩ θ1 _ wb hfb) ?_;rintro x3 a3 w3 ⟨e3,m3,θ3,hf3,hst3',hq3⟩;have hst3:=nM hsb hst3';have hl3:w3.heap[w.heap.size+1]? =some (.loop {rec .ready none with state:=.busy}):=(hst3.same _ ah (hn1 _ ah ah)).trans hlb;have hd3:w3.heap[w.heap.size]? =some (.deferred (some [])):=(hst3.same _ ah (hn1 _ ah ah)).trans hdb;have hk3:eA pb (w.heap.size+1) θ1 m1 w1 θ3 m3 w3:=hkb.trans (eA.of hst3);cases x3 with
   | normal=>
    have hr:=run_endRound (P:=P) none hl3;refine⟨_,_,hr,.inl ⟨true,θ3,m3,rfl,?_⟩⟩;have hc4:=dw.pP (B:=w0.w.heap.size) (.loop {({rec .ready none with state:=.busy}:Loop)with state:=if(none:Option Code).isNone then .ready else .done,pending:=none}) ah hl3;have hk4:=eA.put (pb:=pb) (θ:=θ3) (mem:=m3) (.loop {({rec .ready none with state:=.busy}:Loop)with state:=if(none:Option Code).isNone then .ready else .done,pending:=none}) hl3;have hkk:eA pb (w.heap.size+1) θ1 m1 w1 θ3 m3 _:=hk3.trans hk4;have hl4:=World.putObj_heap_same (w:=w3) (r:=w.heap.size+1) (o:=.loop {({rec .ready none with state:=.busy}:Loop)with state:=if(none:Option Code).isNone then .ready else .done,pending:=none}) (Tc.1 hl3).1;exact⟨hst3.sim.calm hc4,hkk.keep,hq3.2,hk1.trans hkk,(World.putObj_heap_other ah).trans hd3,by rw [hl4,hrec];rfl,hq3.1,rfl⟩
   | panic ch=>
    obtain⟨ms,hms,hm0⟩:=hf3.dfr;have hms':a3.defers=ms:=by rw [hms];exact TX ms
    show tl P _ ch a3.defers w3
    rw [hms'];refine A6 hm0 λw4 hc=>.inr ⟨ch,rfl,θ3,m3,?_,?_,?_,hq3⟩
    ·have hc':dw w0.w.heap.size w3 w4:=⟨hc.below.mono (by have:=hs1.ext.size;show w0.w.heap.size<=wb.heap.size;omega),hc.cells,hc.maps⟩;have hst4:Step pb ⟨w0.w,w0.lb,[]⟩ θ1 m1 wb θ3 m3 w4:=nM hsb (hst3'.calm hc);exact hk1.trans (hkb.trans (eA.of hst4))
    ·exact hst3.sim.calm ⟨hc.below.mono (by have:=hs1.ext.size;show w0.w.heap.size<=wb.heap.size;omega),hc.cells,hc.maps⟩
    ·exact(hc.below.block _ (by show w.heap.size<wb.heap.size;omega)).trans hd3
   | _=>exact hq3.elim
  ·refine CallsIn.mono ((callsIn_wide (n:=9 - 1)).2 ((callsIn_wide (n:=8)).1 h8)) ?_;have fit2:∀ θ2 m2 w2',eA pb (w.heap.size+1) θ mem W1 θ2 m2 w2'->cr pb ⟨w0.w,w0.lb,[]⟩ w2' θ2 m2->w2'.heap[w.heap.size]? =some (.deferred (some []))->Step pb w0 θ mem w θ2 m2 w2'/\Fit N pb w0 e m2 θ2 {a with defers:= {target:=.collected w.heap.size,args:= #[]}::a.defers} w2':=by
    intro θ2 m2 w2' hk2 hs2 hd2;have hstep:Step pb w0 θ mem w θ2 m2 w2':=
     ⟨hs2.ds (w1:=w0) rfl rfl,λb x hr=>hk2.keep b x (hr.ext hx1),Tm hx1.size hk2.sz,λb hb hn=>(hk2.same b ah hn ah).trans (hx1.block b hb),λb hb hn=>hk2.np b ah hn⟩
    refine⟨hstep,hf.size,?_,λt=>hstep.keep _ _ (hf.sl t),hstep.sim⟩;obtain⟨ms,hms,hm0⟩:=hf.dfr;have hm:=hm0.mono hstep.sz hstep.same hstep.np;refine⟨_::ms,by rw [hms];rfl,λd hd=>?_,Uo.2 ⟨λd hd hcon=>?_,hm.2⟩⟩
    ·rcases TL.1 hd with rfl|hd
     ·exact⟨_,rfl,(Tc.1 hd2).1,hk2.np _ ah (hnp _ (SR _)),hd2,hw0⟩
     ·exact hm.1 d hd
    ·obtain⟨D,g1,g2,_⟩:=hm0.1 d hd;rw [g1]at hcon
     injection hcon with hcon
     omega
   rintro en w2 (⟨⟨v,rfl⟩,b,i,c2,θ2,m2,hs2,hm2,⟨hk2,hd2,hl2,hi2,hb2⟩,hbi⟩|⟨ch,rfl,θ2,m2,hk2,hs2,hd2,hq2⟩)
   ·have h5:=hbi hb2;subst h5;have hr:=run_endLoop (P:=P) hl2 (by rw [hrec];simp);have hp:(rec .ready none).pending =none:=by rw [hrec]
    refine⟨_,hr.trans (congrArg (λp=>Result.ok p _) hp),?_⟩;have hc4:=dw.pP (B:=w0.w.heap.size) (.loop {rec .ready none with state:=.exhausted}) ah hl2;have hk4:=hk2.trans (eA.put (pb:=pb) (θ:=θ2) (mem:=m2) (.loop {rec .ready none with state:=.exhausted}) hl2);obtain⟨h1,h2⟩:=fit2 θ2 m2 _ hk4 (hs2.calm hc4) ((World.putObj_heap_other ah).trans hd2);exact⟨e,m2,θ2,h2,h1,done m2 c2 hi2 hm2⟩
   ·obtain⟨h1,h2⟩:=fit2 θ2 m2 _ hk2 hs2 hd2;exact⟨e,m2,θ2,h2,h1,hq2⟩
end Go.Proofs.YtfoaiidcfkmneaaGreatDoor
