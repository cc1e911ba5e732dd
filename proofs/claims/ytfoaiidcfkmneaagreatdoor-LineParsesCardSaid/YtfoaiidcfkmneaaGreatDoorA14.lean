/- Lemmas for the statement. -/
import Derived.Test.YtfoaiidcfkmneaaGreatDoorM3
namespace Go.Proofs.YtfoaiidcfkmneaaGreatDoor
open Go Go.RowKit Go.Proofs
set_option linter.unusedSimpArgs false
set_option linter.unusedVariables false
abbrev JJ:=Bool->Nat->List Value->List Ob->World->Prop
def YS(P:Program)(lb:Nat)(pb:Nat->Prop)(w0:Bs)(ys:List (List AV))(J:JJ):Prop:=
 ∀ (i:Nat) (y:List AV) (θ:List Value) (mem:List Ob) (w:World) (ws:List Value),ys[i]? =some y->ws.length=y.length->(∀ (k:Nat) (a:AV) (x:Value),y[k]? =some a->ws[k]? =some x->R0 (aP pb θ mem) w a x)->cr pb w0 w θ mem->J true i θ mem w->
  YieldAt Fence.wide 7 P lb ws.toArray w λen w2=>∃ (b:Bool) (θ2:List Value) (mem2:List Ob),en= .returned (.bool b)/\cr pb w0 w2 θ2 mem2/\(∀ a x,R1 θ (aP pb θ mem) w a x->R1 θ2 (aP pb θ2 mem2) w2 a x)/\(∀ ds,Mks w0.bd (aP pb θ mem) w ds->Mks w0.bd (aP pb θ2 mem2) w2 ds)/\J b (i+1) θ2 mem2 w2
def Ak(pb:Nat->Prop)(w0:Bs)(J:JJ):Prop:=∀ b i θ mem A B,cr pb w0 A θ mem->J b i θ mem A->Ext A B->J b i θ mem B
def wo(P:Program)(f:FuncId)(l m:List AV)(ys:List (List AV)):Prop:=
 ∀ (lb:Nat) (pb:Nat->Prop) (w0:Bs) (θ:List Value) (mem:List Ob) (w:World) (vs us:List Value) (J:JJ),vs.length=l.length->us.length=m.length->(∀ (i:Nat) (a:AV) (x:Value),l[i]? =some a->vs[i]? =some x->R1 θ (aP pb θ mem) w a x)->(∀ (i:Nat) (a:AV) (x:Value),m[i]? =some a->us[i]? =some x->R1 θ (aP pb θ mem) w a x)->
  Ak pb w0 J->YS P lb pb w0 ys J->w0.ds= []->cr pb w0 w θ mem->J true 0 θ mem w->
  CallsIn Fence.wide 8 P f (vs++ .func (.yield lb) #[] #[]::us).toArray w λen w'=>(∃ v,en= .returned v)/\ ∃ b i θ' mem',cr pb w0 w' θ' mem'/\J b i θ' mem' w'/\(b=true->i=ys.length)
def ov(N:Nat)(pb:Nat->Prop)(w0:Bs)(e:Nat->AV)(mem:List Ob)(θ:List Value)(a:Act)(w:World):Prop:=Fit N pb w0 e mem θ a w/\a.defers= []
theorem qB{a:Act}(d:Option Tmp)(v:Value)(h:a.defers= []):(a.put d v).defers = []:=by cases d<;>exact h
abbrev IQ:=Exit->(Nat->AV)->Bool->Nat->Prop
def LI(N:Nat)(pb:Nat->Prop)(w0:Bs)(J:JJ)(Q:IQ):Exit->Act->World->Prop:=λx a w=>∃ e b i θ mem,ov N pb w0 e mem θ a w/\J b i θ mem w/\Q x e b i
def IW(lb:Nat)(ys:List (List AV))(P:Program)(N:Nat)(c:Code)(Q:IQ)(e:Nat->AV)(b:Bool)(i:Nat):Prop:=
 ∀ pb w0 J,Ak pb w0 J->YS P lb pb w0 ys J-> ∀ θ mem a w,ov N pb w0 e mem θ a w->J b i θ mem w->c.wpIn Fence.wide 8 P (LI N pb w0 J Q) a w
def IL(lb:Nat)(ys:List (List AV))(P:Program)(N:Nat)(ops:Array Oper)(l:List Oper)(Q:IQ)(e:Nat->AV)(b:Bool)(i:Nat):Prop:=
 ∀ pb w0 J,Ak pb w0 J->YS P lb pb w0 ys J-> ∀ θ mem a w,ov N pb w0 e mem θ a w->J b i θ mem w->wpListIn Fence.wide 8 P ops (LI N pb w0 J Q) l a w
section
variable {lb:Nat} {ys:List (List AV)} {P:Program} {N:Nat} {Q:IQ} {e:Nat->AV} {b:Bool} {i:Nat}
def s7(K:(Nat->AV)->Bool->Nat->Prop)(Q:IQ):IQ
 | .normal,e,b,i=>K e b i
 | x,e,b,i=>Q x e b i
theorem qY{x y:Code}(h:IW lb ys P N x (s7 (IW lb ys P N y Q) Q) e b i):IW lb ys P N (.seq x y) Q e b i:=by
 intro pb w0 J hJ hY θ mem a w hf hj;refine wpIn_seq (wpIn_mono (h pb w0 J hJ hY θ mem a w hf hj) ?_);rintro x a' w' ⟨e',b',i',θ',mem',h1,h2,h3⟩;cases x with
 | normal=>exact h3 pb w0 J hJ hY θ' mem' a' w' h1 h2
 | _=>exact⟨e',b',i',θ',mem',h1,h2,h3⟩
theorem yC{c:Operand}{x y:Code}{t:Bool}(hc:al e c= .v (.bool t))(ht:t=true->IW lb ys P N x Q e b i)(hf:t=false->IW lb ys P N y Q e b i):IW lb ys P N (.cond c x y) Q e b i:=by
 intro pb w0 J hJ hY θ mem a w hfit hj;have hv:a.eval c= .bool t:=by
  cases c with
  | tmp s=>have:=hfit.1.sl s;rw [show e s= .v (.bool t)from hc]at this;exact this.val
  | const v=>exact(show v= .bool t by simpa [al]using hc)
  | global g=>cases hc
  | func f=>cases hc
 refine wpIn_cond_split hv (λh=>ht h pb w0 J hJ hY θ mem a w hfit hj) (λh=>hf h pb w0 J hJ hY θ mem a w hfit hj)
theorem OH{c:Operand}{x y:Code}(hc:al e c= .v (.bool true))(h:IW lb ys P N x Q e b i):IW lb ys P N (.cond c x y) Q e b i:=yC hc (λ_=>h) (λh=>by cases h)
theorem xN{c:Operand}{x y:Code}(hc:al e c= .v (.bool false))(h:IW lb ys P N y Q e b i):IW lb ys P N (.cond c x y) Q e b i:=yC hc (λh=>by cases h) (λ_=>h)
theorem u6(h:Q .normal e b i):IW lb ys P N .skip Q e b i:=λ_ _ _ _ _ θ mem _ _ hf hj=>wpIn_skip ⟨e,b,i,θ,mem,hf,hj,h⟩
theorem OI{id:Nat}(h:Q (.exit id) e b i):IW lb ys P N (.exit id) Q e b i:=λ_ _ _ _ _ θ mem _ _ hf hj=>wpIn_exit ⟨e,b,i,θ,mem,hf,hj,h⟩
theorem Qo(h:Q .ret e b i):IW lb ys P N .ret Q e b i:=λ_ _ _ _ _ θ mem _ _ hf hj=>wpIn_ret ⟨e,b,i,θ,mem,hf,hj,h⟩
def sR(id:Nat)(Q:IQ):IQ
 | .exit k,e,b,i=>if k=id then Q .normal e b i else Q (.exit k) e b i
 | x,e,b,i=>Q x e b i
theorem Cd{id:Nat}{c:Code}(h:IW lb ys P N c (sR id Q) e b i):IW lb ys P N (.block id c) Q e b i:=by
 intro pb w0 J hJ hY θ mem a w hf hj;refine wpIn_block (wpIn_mono (h pb w0 J hJ hY θ mem a w hf hj) ?_);rintro x a' w' ⟨e',b',i',θ',mem',h1,h2,h3⟩;cases x with
 | exit k=>
  simp only [sR]at h3;simp only [Exit.inBlock]
  by_cases hi:k=id
  ·rw [if_pos hi]at h3 ⊢;exact⟨e',b',i',θ',mem',h1,h2,h3⟩
  ·rw [if_neg hi]at h3 ⊢;exact⟨e',b',i',θ',mem',h1,h2,h3⟩
 | _=>exact⟨e',b',i',θ',mem',h1,h2,h3⟩
theorem OJ{S:Type}{c:Code}(I:S->(Nat->AV)->Bool->Nat->Prop)(μ:S->Nat)(s0:S)(h0:I s0 e b i)
 (round:∀ s e b i,I s e b i->IW lb ys P N c (s7 (λe' b' i'=>∃ s',I s' e' b' i'/\μ s'<μ s) Q) e b i):IW lb ys P N (.loop c) Q e b i:=by
 intro pb w0 J hJ hY θ mem a w hf hj
 let p:Act->World->Nat->Prop:=λa w n=>∃ s e b i θ mem,ov N pb w0 e mem θ a w/\J b i θ mem w/\I s e b i/\μ s=n
 refine wpIn_loop (λa w=>∃ n,p a w n) (λa w=>qV (p a w)) ⟨_,s0,e,b,i,θ,mem,hf,hj,h0,rfl⟩ ?_;rintro a w ⟨n,hn⟩;obtain⟨⟨s,e,b,i,θ,mem,h1,h2,h3,h4⟩,-⟩:=qe hn;refine wpIn_mono (round s e b i h3 pb w0 J hJ hY θ mem a w h1 h2) ?_;rintro x a' w' ⟨e',b',i',θ',mem',h5,h6,h7⟩;cases x with
 | normal=>
  obtain⟨s',h8,h9⟩:=h7;have hp:p a' w' (μ s'):=⟨s',e',b',i',θ',mem',h5,h6,h8,rfl⟩;have:=(qe hp).2 _ hp;exact⟨⟨_,hp⟩,ah⟩
 | _=>exact⟨e',b',i',θ',mem',h5,h6,h7⟩
theorem pv{id:Nat}{l:List Oper}(h:IL lb ys P N l.toArray l Q e b i):IW lb ys P N (.region id l.toArray false) Q e b i:=λpb w0 J hJ hY θ mem a w hf hj=>wpIn_region_lit (h pb w0 J hJ hY θ mem a w hf hj)
theorem jX{K:(Nat->AV)->Bool->Nat->Prop}(h:K e b i):s7 K Q .normal e b i:=h
theorem EM{K:(Nat->AV)->Bool->Nat->Prop}{id:Nat}(h:Q (.exit id) e b i):s7 K Q (.exit id) e b i:=h
theorem EN{K:(Nat->AV)->Bool->Nat->Prop}(h:Q .ret e b i):s7 K Q .ret e b i:=h
theorem xO{id:Nat}(h:Q .normal e b i):sR id Q .normal e b i:=h
theorem Ce{id:Nat}(h:Q .ret e b i):sR id Q .ret e b i:=h
theorem IN{id:Nat}(h:Q .normal e b i):sR id Q (.exit id) e b i:=by show(if id=id then _ else _);rw [if_pos rfl];exact h
theorem um{n:Nat}{o:Oper}{a:Act}{w:World}{φ:Value->World->Prop}{K:Act->World->Prop}{R:Exit->Act->World->Prop}(hnd:∀ c,o.op≠ .defer c)(hK:∀ v w',φ v w'->K (a.put o.dst v) w')(h:dt P φ ((execOp a.eval o).run P w)):o.wpIn Fence.wide n P a w K R:=by
 refine⟨λf _=>trivial,?_⟩;rw [Oper.semAt_eq _ _ _ hnd];generalize (execOp a.eval o).run P w=r at*;cases r with
 | ok x w'=>
  cases x<;>simp only [dt]at h<;>simp only [Oper.uponIn]
  case value v=>exact hK _ _ h
  case skip=>exact hK _ _ h
  case enter f args=>exact⟨λhn=>(by cases hn),callsIn_wide.2 (h.mono λe w'' ⟨u,he,hu⟩=>by subst he;exact hK _ _ hu)⟩
 | halt x w'=>simp only [dt]at h
def wM(op:Op):Bool:=match op with| .defer _=>false|_=>true
theorem zz{op:Op}(h:wM op=true):∀ c,op≠ .defer c:=λc hc=>by rw [hc]at h;cases h
section
variable {ops:Array Oper} {l:List Oper} {d:Option Tmp} {ty:TypeId} {pos:String} {af:Array Edge} {g:Option (Nat×Bool)} {op:Op}
theorem dO{r:AV}(ho:∀ mem,bH P ⟨d,op,ty,pos,af,g⟩ e mem r)(hg:Gd ops ⟨d,op,ty,pos,af,g⟩ e)(hd:(dV N d&&wM op)=true)(h:IL lb ys P N ops l Q (aT e d r) b i):IL lb ys P N ops (⟨d,op,ty,pos,af,g⟩::l) Q e b i:=by
 simp only [SS]at hd;intro pb w0 J hJ hY θ mem a w hf hj
 show(if Region.wanted _ (yielded ops a.tmps)then _ else _)
 rw [if_pos (mH hf.1 hg)];refine um (φ:=λv w'=>R1 θ (aP pb θ mem) w' r v/\Ext w w') (zz hd.2) ?_ ?_
 ·rintro v w' ⟨h1,h2⟩;exact h pb w0 J hJ hY θ mem _ w' ⟨hf.1.put (Step.ext hf.1.sim h2) hd.1 h1,qB _ _ hf.2⟩ (hJ _ _ _ _ _ _ hf.1.sim hj h2)
 ·rw [gQ];exact ho mem pb w0 θ w _ hf.1.sim λx _=>j8 hf.1 x
theorem jY(hg:Ng ops ⟨d,op,ty,pos,af,g⟩ e)(hd:dV N d=true)(h:IL lb ys P N ops l Q (aT e d (.v undef)) b i):IL lb ys P N ops (⟨d,op,ty,pos,af,g⟩::l) Q e b i:=by
 intro pb w0 J hJ hY θ mem a w hf hj
 show(if Region.wanted _ (yielded ops a.tmps)then _ else _)
 rw [if_neg (by rw [AI hf.1 hg];exact UR)];exact⟨λf _=>trivial,h pb w0 J hJ hY θ mem _ w ⟨hf.1.put (Step.ext hf.1.sim (Ext.refl w)) hd (.ro (.v _)),qB _ _ hf.2⟩ hj⟩
theorem EO{s:Tmp}{t:Bool}(hb:al e (.tmp s)= .v (.bool t))(ht:al e (.tmp s)= .v (.bool true)->t=true->IL lb ys P N ops l Q e b i)(hf:al e (.tmp s)= .v (.bool false)->t=false->IL lb ys P N ops l Q e b i):IL lb ys P N ops l Q e b i:=zw hb ht hf
theorem l9(h:∀ e1,e1=e->Q .normal e1 b i):IL lb ys P N ops [] Q e b i:=λ_ _ _ _ _ θ mem _ _ hf hj=>⟨e,b,i,θ,mem,hf,hj,h e rfl⟩
theorem LA{x:Operand}{as:Array Operand}{ts:Array TypeId}{y:List AV}(hx:al e x= .v (.func (.yield lb) #[] #[]))(hargs:dc e as.toList=y)(hro:cS.roL y=true)(hg:Gd ops ⟨d,.call ⟨.value x,as,ts⟩,ty,pos,af,g⟩ e)(hd:dV N d=true)(hb:b=true)(hy:ys[i]? =some y)
 (h:∀ b',IL lb ys P N ops l Q (aT e d (.v (.bool b'))) b' (i+1)):IL lb ys P N ops (⟨d,.call ⟨.value x,as,ts⟩,ty,pos,af,g⟩::l) Q e b i:=by
 subst hb;intro pb w0 J hJ hY θ mem a w hf hj
 show(if Region.wanted _ (yielded ops a.tmps)then _ else _)
 rw [if_pos (mH hf.1 hg)];have hws:(as.toList.map (aZ λt=>a.tmps.getD t undef)).length =y.length:=by rw [<- hargs];simp [dc]
 obtain⟨fn,tmps,assign,body,h1,h2⟩:=hY i y θ mem w (as.toList.map (aZ λt=>a.tmps.getD t undef)) hy hws (λk v u ha hv=>by
  have ha':=ha;rw [<- hargs,dc,SU]at ha';rw [SU]at hv;cases hq:as.toList[k]? with
  | none=>rw [hq]at hv;cases hv
  | some q=>
   rw [hq]at ha' hv;simp only [Option.map_some,Option.some.injEq]at ha' hv;subst ha' hv;exact(j8 hf.1 q).iN (hP hro ha)) hf.1.sim hj
 refine⟨λf _=>trivial,?_⟩;rw [Oper.semAt_eq _ _ _ (λc hc=>by cases hc),gQ];have hxv:=j8 hf.1 x;rw [hx]at hxv;rw [ly hxv.val rfl];have e1:(do let q <- Deferred.ofValue (.func (.yield lb) #[] #[]) (as.toList.map (aZ λt=>a.tmps.getD t undef)).toArray;invoke q.target q.args:Sem Next).run P w=(Instr.yield lb (as.toList.map (aZ λt=>a.tmps.getD t undef)).toArray).run P w:=by
  simp [Deferred.ofValue,Sem.run_bind,invoke]
 rw [e1,h1];refine⟨λhn=>(by cases hn),h2.mono ?_⟩;rintro en w2 ⟨b',θ2,mem2,rfl,g1,g2,g3,g4⟩;refine h b' pb w0 J hJ hY θ2 mem2 _ w2 ?_ g4;have hf2:Fit N pb w0 e mem2 θ2 a w2:=⟨hf.1.size,g3 _ hf.1.dfr,λt=>g2 _ _ (hf.1.sl t),g1⟩;exact⟨hf2.put (Step.refl g1) hd (.ro (.v _)),qB _ _ hf.2⟩
end
end
def Ab(n:Nat):IQ:=λx _ b i=>(x= .normal \/x= .ret)/\(b=true->i=n)
theorem Rl{n:Nat}{e:Nat->AV}{b:Bool}{i:Nat}(h:b=true->i=n):Ab n .normal e b i:=⟨.inl rfl,h⟩
theorem Rm{n:Nat}{e:Nat->AV}{b:Bool}{i:Nat}(h:b=true->i=n):Ab n .ret e b i:=⟨.inr rfl,h⟩
theorem Qp{P:Program}{f:FuncId}{fn:Func}{c:Code}{l m:List AV}{ys:List (List AV)}(N:Nat)(hf:P.funcs[f]? =some fn)(hb:fn.body=some c)(hn:fn.ntmps=N)(hN:l.length+1+m.length<=N)(hres:∀ tmps w,∃ v,(results fn tmps).run P w= .ok v w)
 (hA:∀ lb e,(∀ (t:Nat) (a:AV),(l++ .v (.func (.yield lb) #[] #[])::m)[t]? =some a->al e (.tmp t)=a)->IW lb ys P N c (Ab ys.length) e true 0):wo P f l m ys:=by
 subst hn;intro lb pb w0 θ mem w vs us J hvl hul hvr hur hJ hY hd0 hs hj;obtain⟨as,has⟩:∃ as,as=l++ .v (.func (.yield lb) #[] #[])::m:=⟨_,rfl⟩;obtain⟨zs,hzs⟩:∃ zs,zs=vs++ .func (.yield lb) #[] #[]::us:=⟨_,rfl⟩;have hlen:zs.length=as.length:=by rw [has,hzs];simp [hvl,hul]
 have hasl:as.length=l.length+1+m.length:=by rw [has];simp;omega
 have hR:∀ (t:Nat) (a:AV) (x:Value),as[t]? =some a->zs[t]? =some x->R1 θ (aP pb θ mem) w a x:=by
  intro t a x ha hx;rw [has]at ha;rw [hzs]at hx
  by_cases h1:t<l.length
  ·rw [SX h1]at ha;rw [SX ah]at hx;exact hvr t a x ha hx
  ·rw [S1 ah]at ha;rw [S1 ah,hvl]at hx;cases hk:t - l.length with
   | zero=>rw [hk]at ha hx;simp at ha hx;subst ha hx;exact .ro (.v _)
   | succ k=>rw [hk]at ha hx;exact hur k a x (by simpa using ha) (by simpa using hx)
 rw [<- hzs];refine callsIn_of_wp hf hb trivial (wpIn_mono (hA lb (λt=>as.getD t (.v undef)) (λt a ha=>by rw [<- has]at ha;show as.getD t _=a;rw [SO,ha];rfl) pb w0 J hJ hY θ mem {tmps:=zs.toArray++Array.replicate (fn.ntmps - zs.toArray.size) undef,defers:= []} w ⟨⟨?_,⟨[],(by show([]:List Deferred)= []++w0.ds;rw [hd0];rfl),ij.nil _ _ _⟩,λt=>?_,hs⟩,rfl⟩ hj) ?_) rfl
 ·simp;omega
 ·show R1 _ _ _ (as.getD t (.v undef)) ((zs.toArray++Array.replicate (fn.ntmps - zs.toArray.size) undef).getD t undef)
  by_cases ht:t<as.length
  ·have e1:as.getD t (.v undef)=as[t]:=by simp [SO,ht]
   have ht':t<zs.length:=by omega
   have e2:(zs.toArray++Array.replicate (fn.ntmps - zs.toArray.size) undef).getD t undef=zs[t]:=by
    rw [S3,Up nU];simp [ht']
   rw [e1,e2];exact hR t _ _ (SQ ht) (SQ ht')
  ·have e1:as.getD t (.v undef)= .v undef:=by simp [SO,S5 (Ug ht)]
   have e2:(zs.toArray++Array.replicate (fn.ntmps - zs.toArray.size) undef).getD t undef=undef:=by
    rw [S3,Ur cZ]
    by_cases h3:t - zs.length<fn.ntmps - zs.length
    ·simp [h3]
    ·simp [h3]
   rw [e1,e2];exact .ro (.v _)
 ·rintro x a w' ⟨e,b,i,θ',mem',hf',hj',hx,hbi⟩;obtain⟨v,hv⟩:=hres a.tmps w';rcases hx with rfl|rfl
  ·exact⟨hf'.2,v,hv,⟨v,rfl⟩,b,i,θ',mem',hf'.1.sim,hj',hbi⟩
  ·exact⟨hf'.2,v,hv,⟨v,rfl⟩,b,i,θ',mem',hf'.1.sim,hj',hbi⟩
theorem dw.pP{B L:Nat}{w:World}{st:Loop}(o':Obj)(hB:B<=L)(h:w.heap[L]? =some (.loop st)):dw B w (w.putObj L o'):=
 ⟨(Below.refl B w).grown (grownBy_putObj' w L o') (by have:=(Tc.1 h).1;omega) (λk e=>by cases e;omega),λb c t f hk=>by
  by_cases e:b=L
  ·subst e;rw [h]at hk;cases hk
  ·exact(World.putObj_heap_other e).trans hk,λb m c hk=>by
  by_cases e:b=L
  ·subst e;rw [h]at hk;cases hk
  ·exact(World.putObj_heap_other e).trans hk⟩
structure eA (pb:Nat->Prop) (L:Nat) (θ:List Value) (mem:List Ob) (w:World) (θ':List Value) (mem':List Ob) (w':World):Prop where
 keep:∀ a x,R1 θ (aP pb θ mem) w a x->R1 θ' (aP pb θ' mem') w' a x
 sz:w.heap.size<=w'.heap.size
 same:∀ b,b<w.heap.size-> ¬ aP pb θ mem b->b≠L->w'.heap[b]? =w.heap[b]?
 np:∀ b,b<w.heap.size-> ¬ aP pb θ mem b-> ¬ aP pb θ' mem' b
section
variable {pb:Nat->Prop} {L:Nat} {w0:Bs} {θ θ' θ'':List Value} {mem mem' mem'':List Ob} {w w' w'':World}
theorem eA.of(h:Step pb w0 θ mem w θ' mem' w'):eA pb L θ mem w θ' mem' w':=⟨h.keep,h.sz,λb hb hn _=>h.same b hb hn,h.np⟩
theorem eA.trans(h:eA pb L θ mem w θ' mem' w')(k:eA pb L θ' mem' w' θ'' mem'' w''):eA pb L θ mem w θ'' mem'' w'':=
 ⟨λa x hr=>k.keep a x (h.keep a x hr),Tm h.sz k.sz,λb hb hn hL=>(k.same b (S4 hb h.sz) (h.np b hb hn) hL).trans (h.same b hb hn hL),λb hb hn=>k.np b (S4 hb h.sz) (h.np b hb hn)⟩
theorem eA.put{st:Loop}(o':Obj)(h:w.heap[L]? =some (.loop st)):eA pb L θ mem w θ mem (w.putObj L o'):=
 ⟨λ_ _ hr=>hr.calm (dw.pP (B:=L) o' (SR _) h),aL,λ_ _ _ hL=>World.putObj_heap_other hL,λ_ _ hn=>hn⟩
theorem ij.wq{B:Nat}{st:Loop}{ds:List Deferred}(h:ij B (aP pb θ mem) w ds)(k:eA pb L θ mem w θ' mem' w')(hL:w.heap[L]? =some (.loop st)):ij B (aP pb θ' mem') w' ds:=
 ⟨λd hd=>by
  obtain⟨D,h1,h2,h3,h4,h5⟩:=h.1 d hd;have hne:D≠L:=λe=>by rw [e,hL]at h4;cases h4
  exact⟨D,h1,S4 h2 k.sz,k.np D h2 h3,(k.same D h2 h3 hne).trans h4,h5⟩,h.2⟩
theorem Mks.wq{B:Nat×List Deferred}{st:Loop}{ds:List Deferred}(h:Mks B (aP pb θ mem) w ds)(k:eA pb L θ mem w θ' mem' w')(hL:w.heap[L]? =some (.loop st)):Mks B (aP pb θ' mem') w' ds:=
 let ⟨ms,h1,h2⟩:=h;⟨ms,h1,h2.wq k hL⟩
end
def wN:(Nat->AV)->List (Tmp×AV)->Nat->AV
 | e,[]=>e
 | e,(p,a)::l=>wN (aT e (some p) a) l
theorem EP{N:Nat}{pr:Nat->Prop}{θ:List Value}{w:World}:∀ (qs:List (Tmp×AV)) (zs:List (Tmp×Value)) (e:Nat->AV) (ts:Array Value),zs.length=qs.length->(∀ (k:Nat) (p:Tmp) (a:AV),qs[k]? =some (p,a)->p<N/\ ∃ x,zs[k]? =some (p,x)/\R1 θ pr w a x)->ts.size=N->(∀ t,R1 θ pr w (e t) (ts.getD t undef))->
 (zs.foldl (λt (q:Tmp×Value)=>t.setIfInBounds q.1 q.2) ts).size =N/\ ∀ t,R1 θ pr w (wN e qs t) ((zs.foldl (λt (q:Tmp×Value)=>t.setIfInBounds q.1 q.2) ts).getD t undef)
 | [],[],e,ts,_,_,hs,h=>⟨hs,h⟩
 | [],z::zs,_,_,hl,_,_,_=>by simp at hl
 | q::qs,[],_,_,hl,_,_,_=>by simp at hl
 | (p,a)::qs,z::zs,e,ts,hl,hq,hs,h=>by
  obtain⟨hp,x,hx,hr⟩:=hq 0 p a rfl;simp at hx;subst hx;refine EP qs zs _ _ (by simpa using hl) (λk p' a' hk=>hq (k+1) p' a' hk) (by simp [hs]) λt=>?_
  by_cases ht:t=p
  ·subst ht;have:(ts.setIfInBounds t x).getD t undef=x:=by simp [S3,hs,hp]
   rw [this];simp only [aT,if_true];exact hr
  ·have:(ts.setIfInBounds p x).getD t undef=ts.getD t undef:=by
    rw [S3,Uy (λh=>ht h.symm), <- S3]
   rw [this];simp only [aT,if_neg ht];exact h t
def tj(I:Nat->List Ob->Prop)(Q:AQ)(e:Nat->AV)(i:Nat):AQ
 | .normal,_,m=>I (i+1) m
 | .ret,_,m=>Q .ret e m
 | .exit id,_,m=>Q (.exit id) e m
 | _,_,_=>False
def zT(K:(Nat->AV)->List Ob->Prop):AQ
 | .normal,e,m=>K e m
 | _,_,_=>False
theorem LC{P:Program}{N:Nat}{Q:AQ}{e:Nat->AV}{mem:List Ob}{g:Operand}{ps:Array Tmp}{assign body:Code}{gf:FuncId}{l m:List AV}{ys:List (List AV)}(hg:al e g= .clo (.func gf) l m)(gen:wo P gf l m ys)
 (eg:∀ args w,(callFunc gf args).run P w= .ok (.enter gf args) w)(hps:∀ y∈ys,y.length=ps.size)(hN:∀ p∈ps.toList,p<N)(I:Nat->List Ob->Prop)(h0:I 0 mem)
 (round:∀ i y m',ys[i]? =some y->I i m'->AW .rnd P N assign (zT λe' m''=>AW .rnd P N body (tj I Q e i) e' m'') (wN e (ps.toList.zip y)) m')(done:∀ m',I ys.length m'->Q .normal e m'):AW .top P N (.rangeFunc g ps assign body) Q e mem:=by
 intro F n hF pb w0 θ a w hf;cases hF;refine wpIn_rangeFunc ?_;intro fn hfn;obtain⟨rec,hrec⟩:∃ rec:LoopState->Option Code->Loop,rec=λst pe=> {state:=st,pending:=pe,fn,tmps:=a.tmps,params:=ps,assign,body,defers:=w.heap.size}:=⟨_,rfl⟩
 obtain⟨W1,hW1⟩:∃ W1,(w.alloc (.deferred (some []))).alloc (.loop (rec .ready none))=W1:=⟨_,rfl⟩;have hL1:W1.heap[w.heap.size+1]? =some (.loop (rec .ready none)):=by
  rw [<- hW1];have:=World.alloc_heap_new (w.alloc (.deferred (some []))) (.loop (rec .ready none));rwa [World.size_alloc]at this
 have hK1:W1.heap[w.heap.size]? =some (.deferred (some [])):=by
  rw [<- hW1];exact(Below.heap_alloc _ _ _ aL).trans (World.alloc_heap_new w _)
 have hx1:Ext w W1:=by rw [<- hW1];exact((Ext.refl w).alloc _).alloc _
 have hw0:=hf.sim.ext.size;have hnp:∀ b,w.heap.size<=b-> ¬ aP pb θ mem b:=by
  rintro b hb (hp|⟨j,o,v,h1,h2,h3,h4⟩)
  ·have:=(hf.sim.low b hp).1;omega
  ·have:=((hf.sim.ob j o v h1 h3).lt h2 h4).2;omega
 have hgv:=j8 hf g;rw [hg]at hgv;obtain⟨xs,us,hge,hxl,hxr,hul,hur⟩:∃ xs us:List Value,aZ (λt=>a.tmps.getD t undef) g= .func (.func gf) xs.toArray us.toArray/\xs.length=l.length/\(∀ (i:Nat) (b:AV) (x:Value),l[i]? =some b->xs[i]? =some x->R1 θ (aP pb θ mem) w b x)/\us.length=m.length/\(∀ (i:Nat) (b:AV) (x:Value),m[i]? =some b->us[i]? =some x->R1 θ (aP pb θ mem) w b x):=by
  generalize aZ (λt=>a.tmps.getD t undef) g=z at hgv;cases hgv with
  | ro h=>cases h with|clo _ _ _ xs us h1 h2 h3 h4=>exact⟨xs,us,rfl,h1,λi b x hb hx=>.ro (h2 i b x hb hx),h3,λi b x hb hx=>.ro (h4 i b x hb hx)⟩
  | clo _ _ _ xs us h1 h2 h3 h4=>exact⟨xs,us,rfl,h1,h2,h3,h4⟩
 refine⟨w.heap.size+1,[{target:=.collected w.heap.size,args:= #[]}],W1,{target:=.fn (.func gf) us.toArray,args:=xs.toArray++ #[.func (.yield (w.heap.size+1)) #[] #[]]},W1,gf,
  (xs++ .func (.yield (w.heap.size+1)) #[] #[]::us).toArray,W1,?_,?_,λ_ _=>trivial,?_,λhd=>(by cases hd),?_⟩
 ·rw [<- hW1,hrec];exact run_enterLoop_outer _ _ _ _ _
 ·have:resolve a.eval (rangeCall g (w.heap.size+1)) 0=resolve (aZ (λt=>a.tmps.getD t undef)) (rangeCall g (w.heap.size+1)) 0:=by rw [gQ]
  rw [this];simp only [rangeCall,resolve,hge];simp [go_sem,aZ,Deferred.ofValue]
 ·simp [invoke,go_sem,eg]
 ·have h8:=gen (w.heap.size+1) pb ⟨w0.w,w0.lb,[]⟩ θ mem W1 xs us
   (λb i θ' m' w'=>eA pb (w.heap.size+1) θ mem W1 θ' m' w'/\w'.heap[w.heap.size]? =some (.deferred (some []))/\((b=true/\w'.heap[w.heap.size+1]? =some (.loop (rec .ready none))/\I i m')\/
    (b=false/\ ∃ c,w'.heap[w.heap.size+1]? =some (.loop (rec .done (some c)))/\((c= .ret /\Q .ret e m')\/ ∃ id,c= .exit id/\Q (.exit id) e m'))))
   hxl hul (λi b x hb hx=>(hxr i b x hb hx).ext hx1) (λi b x hb hx=>(hur i b x hb hx).ext hx1) ?_ ?_ rfl ((hf.sim.ext' hx1).ds rfl rfl) ⟨eA.of (w0:=w0) (Step.refl (hf.sim.ext' hx1)),hK1,.inl ⟨rfl,hL1,h0⟩⟩
  rotate_left
  ·rintro b i θ' m' A B hs ⟨h1,h2,h3⟩ hx;refine⟨h1.trans (eA.of (Step.ext hs hx)),ql hx h2,?_⟩;rcases h3 with⟨rfl,h3,h4⟩|⟨rfl,c,h3,h4⟩
   ·exact .inl ⟨rfl,ql hx h3,h4⟩
   ·exact .inr ⟨rfl,c,ql hx h3,h4⟩
  ·rintro i y θ1 m1 w1 ws hy hwl hwr hs1 ⟨hk1,hd1,hj1⟩;obtain⟨-,hl1,hi1⟩:True/\w1.heap[w.heap.size+1]? =some (.loop (rec .ready none))/\I i m1:=by
    rcases hj1 with⟨_,h3,h4⟩|⟨h,_⟩
    ·exact⟨trivial,h3,h4⟩
    ·cases h
   have hsz1:=hk1.sz;have hlt:w.heap.size+1<w1.heap.size:=(Tc.1 hl1).1;have hpl:y.length=ps.size:=hps y (S9 hy);have hyy:=run_yield (P:=P) (args:=ws.toArray) hl1 (by rw [hrec];simp [hwl,hpl]);rw [hrec]at hyy;refine⟨fn,_,assign,body,hyy,roundIn_of_wpIn hfn ?_⟩
   -- the frame of the round
   have hn1:∀ b,w.heap.size<=b->b<W1.heap.size-> ¬ aP pb θ1 m1 b:=λb hb hb'=>hk1.np b hb' (hnp b hb)
   have hW1s:W1.heap.size=w.heap.size+2:=by rw [<- hW1];simp
   have hfr:∀ t,R1 θ1 (aP pb θ1 m1) w1 (e t) (a.tmps.getD t undef):=λt=>hk1.keep _ _ ((hf.sl t).ext hx1)
   have hup:=EP (N:=N) (pr:=aP pb θ1 m1) (θ:=θ1) (w:=w1) (ps.toList.zip y) (ps.toList.zip ws) e a.tmps (by simp [hwl]) (λk p b hk=>by
    obtain⟨hk1',hk2'⟩:ps.toList[k]? =some p/\y[k]? =some b:=by
     rw [List.getElem?_zip_eq_some]at hk;exact hk
    refine⟨hN p (S9 hk1'),?_⟩;have hlk:k<y.length:=(SN.1 hk2').1;have hlw:k<ws.length:=by omega
    refine⟨ws[k],by rw [List.getElem?_zip_eq_some];exact⟨hk1',SQ hlw⟩,.ro (hwr k b _ hk2' (SQ hlw))⟩) hf.size hfr
   have hzip:(ps.zip ws.toArray).foldl (λt (q:Tmp×Value)=>t.setIfInBounds q.1 q.2) a.tmps=(ps.toList.zip ws).foldl (λt (q:Tmp×Value)=>t.setIfInBounds q.1 q.2) a.tmps:=by
    rw [<- Array.foldl_toList];simp
   have hfit1:Fit N pb ⟨w0.w,w0.lb,[]⟩ (wN e (ps.toList.zip y)) m1 θ1 {tmps:=(ps.zip ws.toArray).foldl (λt (q:Tmp×Value)=>t.setIfInBounds q.1 q.2) a.tmps,defers:= []} w1:=by
    refine⟨?_,Mks.nil _ _ _,?_,hs1⟩
    ·show((ps.zip ws.toArray).foldl _ a.tmps).size =N
     rw [hzip];exact hup.1
    ·intro t
     show R1 _ _ _ _ (((ps.zip ws.toArray).foldl _ a.tmps).getD t undef)
     rw [hzip];exact hup.2 t
   refine wpIn_mono (round i y m1 hy hi1 (Fence.wide.inRound (w.heap.size+1)) 7 ⟨_,rfl⟩ pb ⟨w0.w,w0.lb,[]⟩ θ1 _ w1 hfit1) ?_;rintro x1 a1 w1' ⟨e1,m2,θ2,hf1,hst1,hq1⟩;cases x1 with
   | normal=>
    have hq1:AW .rnd P N body (tj I Q e i) e1 m2:=hq1;have hl1':w1'.heap[w.heap.size+1]? =some (.loop (rec .ready none)):=(hst1.same _ hlt (hn1 _ ah ah)).trans hl1;have hd1':w1'.heap[w.heap.size]? =some (.deferred (some [])):=(hst1.same _ ah (hn1 _ ah ah)).trans hd1;have hn2:∀ b,w.heap.size<=b->b<W1.heap.size-> ¬ aP pb θ2 m2 b:=λb hb hb'=>hst1.np b ah (hn1 b hb hb')
    refine⟨_,run_beginRound hl1' (by rw [hrec]),?_⟩;obtain⟨wb,hwb⟩:∃ wb,wb=w1'.putObj (w.heap.size+1) (.loop {rec .ready none with state:=.busy}):=⟨_,rfl⟩;rw [<- hwb];have hlt':w.heap.size+1<w1'.heap.size:=(Tc.1 hl1').1;have hlb:wb.heap[w.heap.size+1]? =some (.loop {rec .ready none with state:=.busy}):=by rw [hwb];exact World.putObj_heap_same hlt'
    have hdb:wb.heap[w.heap.size]? =some (.deferred (some [])):=by rw [hwb];exact(World.putObj_heap_other ah).trans hd1'
    have hcb:dw w0.w.heap.size w1' wb:=by rw [hwb];exact dw.pP _ ah hl1'
    have hkb:eA pb (w.heap.size+1) θ2 m2 w1' θ2 m2 wb:=by rw [hwb];exact eA.put _ hl1'
    have hszb:wb.heap.size=w1'.heap.size:=by rw [hwb];simp
    have hfb:Fit N pb ⟨w0.w,w0.lb,[]⟩ e1 m2 θ2 a1 wb:=⟨hf1.size,hf1.dfr.wq hkb hl1',λt=>(hf1.sl t).calm hcb,hf1.sim.calm hcb⟩;refine wpIn_mono (hq1 (Fence.wide.inRound (w.heap.size+1)) 7 ⟨_,rfl⟩ pb ⟨w0.w,w0.lb,[]⟩ θ2 a1 wb hfb) ?_;rintro x3 a3 w3 ⟨e3,m3,θ3,hf3,hst3,hq3⟩;have hl3:w3.heap[w.heap.size+1]? =some (.loop {rec .ready none with state:=.busy}):=(hst3.same _ ah (hn2 _ ah ah)).trans hlb;have hd3:w3.heap[w.heap.size]? =some (.deferred (some [])):=(hst3.same _ ah (hn2 _ ah ah)).trans hdb;have fin:∀ (jump:Option Code),((jump=none/\I (i+1) m3)\/ ∃ c,jump=some c/\((c= .ret /\Q .ret e m3)\/ ∃ id,c= .exit id/\Q (.exit id) e m3))-> ∃ v w4,(Instr.endRound (w.heap.size+1) jump).run P w3= .ok v w4/\ ∃ (b:Bool) (θ4:List Value) (m4:List Ob),Ending.returned v= .returned (.bool b)/\cr pb ⟨w0.w,w0.lb,[]⟩ w4 θ4 m4/\(∀ a x,R1 θ1 (aP pb θ1 m1) w1 a x->R1 θ4 (aP pb θ4 m4) w4 a x)/\
     (∀ ds,Mks (Bs.bd ⟨w0.w,w0.lb,[]⟩) (aP pb θ1 m1) w1 ds->Mks (Bs.bd ⟨w0.w,w0.lb,[]⟩) (aP pb θ4 m4) w4 ds)/\eA pb (w.heap.size+1) θ mem W1 θ4 m4 w4/\w4.heap[w.heap.size]? =some (.deferred (some []))/\((b=true/\w4.heap[w.heap.size+1]? =some (.loop (rec .ready none))/\I (i+1) m4)\/
     (b=false/\ ∃ c,w4.heap[w.heap.size+1]? =some (.loop (rec .done (some c)))/\((c= .ret /\Q .ret e m4)\/ ∃ id,c= .exit id/\Q (.exit id) e m4))):=by
     intro jump hj;have hr:=run_endRound (P:=P) jump hl3;refine⟨_,_,hr,jump.isNone,θ3,m3,rfl,?_⟩;have hc4:=dw.pP (B:=w0.w.heap.size) (.loop {({rec .ready none with state:=.busy}:Loop)with state:=if jump.isNone then .ready else .done,pending:=jump}) ah hl3;have hk4:=eA.put (pb:=pb) (θ:=θ3) (mem:=m3) (.loop {({rec .ready none with state:=.busy}:Loop)with state:=if jump.isNone then .ready else .done,pending:=jump}) hl3;have hkk:eA pb (w.heap.size+1) θ1 m1 w1 θ3 m3 _:=(((eA.of hst1).trans hkb).trans (eA.of hst3)).trans hk4;have hl4:=World.putObj_heap_same (w:=w3) (r:=w.heap.size+1) (o:=.loop {({rec .ready none with state:=.busy}:Loop)with state:=if jump.isNone then .ready else .done,pending:=jump}) (Tc.1 hl3).1;refine⟨hf3.sim.calm hc4,hkk.keep,λds hm=>hm.wq hkk hl1,hk1.trans hkk,(World.putObj_heap_other ah).trans hd3,?_⟩;rcases hj with⟨rfl,hj⟩|⟨c,rfl,hj⟩
     ·exact .inl ⟨rfl,by rw [hl4,hrec];rfl,hj⟩
     ·exact .inr ⟨rfl,c,by rw [hl4,hrec];rfl,hj⟩
    cases x3 with
    | normal=>exact fin none (.inl ⟨rfl,hq3⟩)
    | ret=>exact fin (some .ret) (.inr ⟨_,rfl,.inl ⟨rfl,hq3⟩⟩)
    | exit id=>exact fin (some (.exit id)) (.inr ⟨_,rfl,.inr ⟨id,rfl,hq3⟩⟩)
    | goto t=>exact hq3.elim
    | panic ch=>exact hq3.elim
    | outgrown=>exact hq3.elim
   | _=>exact hq1.elim
  ·refine CallsIn.mono ((callsIn_wide (n:=n - 1)).2 ((callsIn_wide (n:=8)).1 h8)) ?_;rintro en w2 ⟨⟨v,rfl⟩,b,i,θ2,m2,hs2,⟨hk2,hd2,hj2⟩,hbi⟩;obtain⟨st,hl2,hst2⟩:∃ st:Loop,w2.heap[w.heap.size+1]? =some (.loop st)/\st.state≠ .busy /\st.pending=(if b then none else st.pending):=by
    rcases hj2 with⟨rfl,h3,_⟩|⟨rfl,c,h3,_⟩
    ·exact⟨_,h3,by rw [hrec];simp,by rw [hrec];rfl⟩
    ·exact⟨_,h3,by rw [hrec];simp,rfl⟩
   have hW1s:W1.heap.size=w.heap.size+2:=by rw [<- hW1];simp
   have hsz2:=hk2.sz;have hr:=run_endLoop (P:=P) hl2 hst2.1;have hc4:=dw.pP (B:=w0.w.heap.size) (.loop {st with state:=.exhausted}) ah hl2;have hk4:=(hk2.trans (eA.put (pb:=pb) (θ:=θ2) (mem:=m2) (.loop {st with state:=.exhausted}) hl2));have hstep:Step pb w0 θ mem w θ2 m2 (w2.putObj (w.heap.size+1) (.loop {st with state:=.exhausted})):=
    ⟨(hs2.ds (w1:=w0) rfl rfl).calm hc4,λb x hr=>hk4.keep b x (hr.ext hx1),Tm hx1.size hk4.sz,λb hb hn=>(hk4.same b ah hn ah).trans (hx1.block b hb),λb hb hn=>hk4.np b ah hn⟩
   have hfe:Fit N pb w0 e m2 θ2 {a with defers:= {target:=.collected w.heap.size,args:= #[]}::a.defers} (w2.putObj (w.heap.size+1) (.loop {st with state:=.exhausted})):=by
    refine⟨hf.size,?_,λt=>hstep.keep _ _ (hf.sl t),hstep.sim⟩;obtain⟨ms,hms,hm0⟩:=hf.dfr;have hm:=hm0.mono hstep.sz hstep.same hstep.np;refine⟨_::ms,by rw [hms];rfl,λd hd=>?_,Uo.2 ⟨λd hd hcon=>?_,hm.2⟩⟩
    ·rcases TL.1 hd with rfl|hd
     ·exact⟨_,rfl,by simp;omega,hk4.np _ ah (hnp _ (SR _)),(World.putObj_heap_other ah).trans hd2,hw0⟩
     ·exact hm.1 d hd
    ·obtain⟨D,g1,g2,_⟩:=hm0.1 d hd;rw [g1]at hcon
     injection hcon with hcon
     omega
   rcases hj2 with⟨rfl,h3,h4⟩|⟨rfl,c,h3,h4⟩
   ·rw [hl2]at h3;cases h3;have h5:=hbi rfl;subst h5;have hp:(rec .ready none).pending =none:=by rw [hrec]
    exact⟨none,_,hr.trans (congrArg (λp=>Result.ok p _) hp),⟨e,m2,θ2,hfe,hstep,done m2 h4⟩⟩
   ·rw [hl2]at h3;cases h3;have hp:(rec .done (some c)).pending =some c:=by rw [hrec]
    refine⟨some c,_,hr.trans (congrArg (λp=>Result.ok p _) hp),?_⟩;rcases h4 with⟨rfl,h4⟩|⟨id,rfl,h4⟩
    ·exact wpIn_ret ⟨e,m2,θ2,hfe,hstep,h4⟩
    ·exact wpIn_exit ⟨e,m2,θ2,hfe,hstep,h4⟩
section
variable {lb:Nat} {ys:List (List AV)} {P:Program} {N:Nat} {Q:IQ} {e:Nat->AV} {b:Bool} {i:Nat} {ops:Array Oper} {l:List Oper} {d:Option Tmp} {ty:TypeId} {pos:String} {af:Array Edge} {g:Option (Nat×Bool)}
theorem Jp{x:Operand}{as:Array Operand}{ts:Array TypeId}{y:List AV}(hx:al e x= .v (.func (.yield lb) #[] #[]))(hargs:dc e as.toList=y)(hro:cS.roL y=true)(hg:Gd ops ⟨d,.call ⟨.value x,as,ts⟩,ty,pos,af,g⟩ e)(hd:dV N d=true)(hy:ys[i]? =some y)
 (ht:IL lb ys P N ops l Q (aT e d (.v (.bool true))) true (i+1))(hf:IL lb ys P N ops l Q (aT e d (.v (.bool false))) false (i+1)):IL lb ys P N ops (⟨d,.call ⟨.value x,as,ts⟩,ty,pos,af,g⟩::l) Q e true i:=
 LA hx hargs hro hg hd rfl hy λb'=>by cases b'<;>assumption
end
theorem Rn{I:Nat->List Ob->Prop}{Q:AQ}{e e':Nat->AV}{i:Nat}{m:List Ob}(h:I (i+1) m):tj I Q e i .normal e' m:=h
theorem Ro{I:Nat->List Ob->Prop}{Q:AQ}{e e':Nat->AV}{i:Nat}{m:List Ob}(h:Q .ret e m):tj I Q e i .ret e' m:=h
theorem OK{K:(Nat->AV)->List Ob->Prop}{e:Nat->AV}{m:List Ob}(h:K e m):zT K .normal e m:=h
section
variable {P:Program} {N:Nat} {Q:AQ} {e:Nat->AV} {mem:List Ob} {g:Operand} {assign body:Code} {gf:FuncId} {l m:List AV}
theorem Jq{ys:List (List AV)}{p:Tmp}(hg:al e g= .clo (.func gf) l m)(gen:wo P gf l m ys)(eg:∀ args w,(callFunc gf args).run P w= .ok (.enter gf args) w)(hps:∀ y∈ys,y.length=1)(hN:p<N)(I:Nat->List Ob->Prop)(h0:I 0 mem)
 (round:∀ i a m',ys[i]? =some [a]->I i m'->AW .rnd P N assign (zT λe' m''=>AW .rnd P N body (tj I Q e i) e' m'') (aT e (some p) a) m')(done:∀ m',I ys.length m'->Q .normal e m'):AW .top P N (.rangeFunc g #[p] assign body) Q e mem:=by
 refine LC hg gen eg hps (λq hq=>by simp at hq;subst hq;exact hN) I h0 (λi y m' hy hI=>?_) done;have hl:=hps y (S9 hy)
 match y,hl,hy with
 | [a],_,hy=>exact round i a m' hy hI
end
theorem lZ{M:Mode}{P:Program}{N:Nat}{Q:AQ}{e:Nat->AV}{mem:List Ob}{c:Code}{j m:Nat}{T:TypeId}{cells:List AV}(eT k o:Nat)(hm:mem[j]? =some (.box T cells))(ho:cells[o]? =some (.v (.slice none 0 0)))(hl:mem.length=m)
 (h:∀ m0 m1,m0=mem++ [.row eT k []]->m1=m0.set j (.box T (cells.set o (.own m)))->AW M P N c Q e m1):AW M P N c Q e mem:=by
 refine λF n hF pb w0 θ a w hf=>?_
 subst hl;have st:Step pb w0 θ mem w (θ++ [.slice none 0 0]) (mem++ [.row eT k []]) w:=Step.new hf.sim (Ext.refl w) _ _ (λb hb=>by cases hb) λθ' pr _=>
  ⟨[],World.ownsRow_nil w _ eT k,(λb hb=>by cases hb),aL,λi a u h=>by simp at h⟩
 have hjl:j<mem.length:=(SN.1 hm).1;have hm':(mem++ [Ob.row eT k []])[j]? =some (.box T cells):=by rw [SX hjl];exact hm
 obtain⟨v,hv⟩:∃ v,(θ++ [Value.slice none 0 0])[j]? =some v:=⟨_,SQ (by simp [hf.sim.len];omega)⟩;obtain⟨b',xs,hb1,hb2,hb3,hb4,hb5⟩:=st.sim.ob j _ v hm' hv;have st2:Step pb w0 (θ++ [.slice none 0 0]) (mem++ [.row eT k []]) w (θ++ [.slice none 0 0]) ((mem++ [Ob.row eT k []]).set j (Ob.box T (cells.set o (.own mem.length)))) w:=
  Step.write (o':=Ob.box T (cells.set o (.own mem.length))) st.sim hm' aL hv (Below.refl 0 w) (λ_ _ _=>rfl) λpr keep=>⟨b',xs,hb1,hb2,hb3,by simpa using hb4,λi a x ha hx=>by
   by_cases hi:o=i
   ·subst hi;have hlt:o<cells.length:=(SN.1 ho).1;rw [S7 hlt]at ha;cases ha;have:=hb5 o _ x ho hx;rw [this.val];exact .own _ _ (by rw [<- hf.sim.len];simp) rfl
   ·rw [SY hi]at ha;exact keep _ _ (hb5 i a x ha hx)⟩
 have st3:=st.trans st2;exact wpIn_mono (h _ _ rfl rfl F n hF pb w0 (θ++ [.slice none 0 0]) a w ⟨hf.size,hf.dfr.step st3,λt=>st3.keep _ _ (hf.sl t),st3.sim⟩) λ_ _ _ hq=>hq.after st3
theorem vN{M:Mode}{P:Program}{N:Nat}{Q:AQ}{e:Nat->AV}{mem:List Ob}{c:Code}(h:∀ e1,e1=e->AW M P N c Q e1 mem):AW M P N c Q e mem:=h e rfl
end Go.Proofs.YtfoaiidcfkmneaaGreatDoor
