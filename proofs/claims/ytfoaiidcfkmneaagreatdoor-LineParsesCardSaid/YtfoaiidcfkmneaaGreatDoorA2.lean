/- Lemmas for the statement. -/
import Derived.Test.YtfoaiidcfkmneaaGreatDoorA1
import Derived.OrdersIn
import Derived.LoopIn
import Derived.TacticsIn
import Derived.RangeFuncBound
import Derived.RangeFuncNested
import Derived.RangeFuncCalls
set_option linter.unusedVariables false
set_option linter.unusedSimpArgs false
namespace Go.Proofs.YtfoaiidcfkmneaaGreatDoor
open Go Go.RowKit
def al(e:Nat->AV):Operand->AV
 | .tmp t=>e t
 | .const v=>.v v
 | .global g=>.v (.pointer (some ⟨g,0,none⟩))
 | .func f=>.v (.func (.func f) #[] #[])
def aT(e:Nat->AV)(d:Option Tmp)(r:AV):Nat->AV:=
 match d with
 | some d=>λt=>if t=d then r else e t
 | none=>e
def dV(N:Nat)(d:Option Tmp):Bool:=match d with|some d=>decide (d<N)|none=>true
structure Fit (N:Nat) (pb:Nat->Prop) (w0:Bs) (e:Nat->AV) (mem:List Ob) (θ:List Value) (a:Act) (w:World):Prop where
 size:a.tmps.size=N
 dfr:Mks w0.bd (aP pb θ mem) w a.defers
 sl:∀ t,R1 θ (aP pb θ mem) w (e t) (a.tmps.getD t undef)
 sim:cr pb w0 w θ mem
abbrev AQ:=Exit->(Nat->AV)->List Ob->Prop
def LQ(N:Nat)(pb:Nat->Prop)(w0:Bs)(θ0:List Value)(mem0:List Ob)(w1:World)(Q:AQ):Exit->Act->World->Prop:=λx a w=>∃ e mem θ,Fit N pb w0 e mem θ a w/\Step pb w0 θ0 mem0 w1 θ mem w/\Q x e mem
inductive Mode where
 | top
 | rnd
 | it
def Mode.ok:Mode->Fence->Nat->Prop
 | .top,F,_=>F=Fence.wide
 | .rnd,F,_=>∃ l,F=Fence.wide.inRound l
 | .it,F,n=>F=Fence.wide/\n=8
theorem Mode.Hn{M:Mode}{F:Fence}{n:Nat}(h:M.ok F n):F=Fence.wide\/ ∃ l,F=Fence.wide.inRound l:=by
 cases M with
 | top=>exact .inl h
 | rnd=>exact .inr h
 | it=>exact .inl h.1
def NP(Q:Exit->Act->World->Prop):Exit->Act->World->Prop
 | .normal,a,w=>Q .normal a w
 | .panic ch,a,w=>Q (.panic ch) a w
 | _,_,_=>False
def AW(M:Mode)(P:Program)(N:Nat)(c:Code)(Q:AQ)(e:Nat->AV)(mem:List Ob):Prop:=∀ F n,M.ok F n-> ∀ pb w0 θ a w,Fit N pb w0 e mem θ a w->c.wpIn F n P (LQ N pb w0 θ mem w Q) a w
def AL(P:Program)(N:Nat)(ops:Array Oper)(l:List Oper)(Q:AQ)(e:Nat->AV)(mem:List Ob):Prop:=∀ pb w0 θ a w,Fit N pb w0 e mem θ a w->wpList P ops (NP (LQ N pb w0 θ mem w Q)) l a w
theorem Step.refl{pb:Nat->Prop}{w0:Bs}{w:World}{θ:List Value}{mem:List Ob}(h:cr pb w0 w θ mem):Step pb w0 θ mem w θ mem w:=Step.ext h (Ext.refl w)
theorem Step.trans{pb:Nat->Prop}{w0:Bs}{a b c:World}{θ θ' θ'':List Value}{mem mem' mem'':List Ob}(h:Step pb w0 θ mem a θ' mem' b)(k:Step pb w0 θ' mem' b θ'' mem'' c):Step pb w0 θ mem a θ'' mem'' c:=
 ⟨k.sim,λx v hr=>k.keep x v (h.keep x v hr),Tm h.sz k.sz,λi hi hn=>(k.same i (S4 hi h.sz) (h.np i hi hn)).trans (h.same i hi hn),λi hi hn=>k.np i (S4 hi h.sz) (h.np i hi hn)⟩
theorem LQ.after{N:Nat}{pb:Nat->Prop}{w0:Bs}{w1 w2:World}{θ θ':List Value}{mem mem':List Ob}{Q:AQ}(h:Step pb w0 θ mem w1 θ' mem' w2){x:Exit}{a:Act}{w:World}(hq:LQ N pb w0 θ' mem' w2 Q x a w):LQ N pb w0 θ mem w1 Q x a w:=
 let ⟨e,m,t,h1,h2,h3⟩:=hq;⟨e,m,t,h1,h.trans h2,h3⟩
theorem Fit.put{N:Nat}{pb:Nat->Prop}{w0:Bs}{w w':World}{e:Nat->AV}{mem mem':List Ob}{θ θ':List Value}{a:Act}(h:Fit N pb w0 e mem θ a w)(hs:Step pb w0 θ mem w θ' mem' w'){d:Option Tmp}(hd:dV N d=true){r:AV}{v:Value}
 (hr:R1 θ' (aP pb θ' mem') w' r v):Fit N pb w0 (aT e d r) mem' θ' (a.put d v) w':=by
 refine⟨?_,?_,λt=>?_,hs.sim⟩
 ·cases d<;>simp [Act.put,h.size]
 ·have e:(a.put d v).defers =a.defers:=by cases d<;>rfl
  rw [e];exact h.dfr.step hs
 ·cases d with
  | none=>exact hs.keep _ _ (h.sl t)
  | some d=>
   have hlt:d<N:=by simpa [dV]using hd
   by_cases ht:t=d
   ·subst ht;have:(a.tmps.setIfInBounds t v).getD t undef=v:=by simp [S3,h.size,hlt]
    simp only [aT,Act.put,this,if_true];exact hr
   ·have:(a.tmps.setIfInBounds d v).getD t undef=a.tmps.getD t undef:=by
     rw [S3,Uy (λh=>ht h.symm), <- S3]
    simp only [aT,Act.put,this,if_neg ht];exact hs.keep _ _ (h.sl t)
section
variable {M:Mode} {P:Program} {N:Nat} {Q:AQ} {e:Nat->AV} {mem:List Ob}
def lM(K:(Nat->AV)->List Ob->Prop)(Q:AQ):AQ
 | .normal,e,mem=>K e mem
 | x,e,mem=>Q x e mem
theorem ax{x y:Code}(h:AW M P N x (lM (AW M P N y Q) Q) e mem):AW M P N (.seq x y) Q e mem:=by
 intro F n hF pb w0 θ a w hf;refine wpIn_seq (wpIn_mono (h F n hF pb w0 θ a w hf) ?_);rintro x a' w' ⟨e',mem',θ',h1,hst,h2⟩;cases x with
 | normal=>exact wpIn_mono (h2 F n hF pb w0 θ' a' w' h1) λ_ _ _ hq=>hq.after hst
 | _=>exact⟨e',mem',θ',h1,hst,h2⟩
theorem yy{c:Operand}{x y:Code}{t:Bool}(hc:al e c= .v (.bool t))(ht:t=true->AW M P N x Q e mem)(hf:t=false->AW M P N y Q e mem):AW M P N (.cond c x y) Q e mem:=by
 intro F n hF pb w0 θ a w hfit;have hv:a.eval c= .bool t:=by
  cases c with
  | tmp s=>have:=hfit.sl s;rw [show e s= .v (.bool t)from hc]at this;exact this.val
  | const v=>exact(show v= .bool t by simpa [al]using hc)
  | global g=>cases hc
  | func f=>cases hc
 refine wpIn_cond_split hv (λh=>ht h F n hF pb w0 θ a w hfit) (λh=>hf h F n hF pb w0 θ a w hfit)
theorem lA{c:Operand}{x y:Code}(hc:al e c= .v (.bool true))(h:AW M P N x Q e mem):AW M P N (.cond c x y) Q e mem:=yy hc (λ_=>h) (λh=>by cases h)
theorem iS{c:Operand}{x y:Code}(hc:al e c= .v (.bool false))(h:AW M P N y Q e mem):AW M P N (.cond c x y) Q e mem:=yy hc (λh=>by cases h) (λ_=>h)
theorem bF(h:Q .normal e mem):AW M P N .skip Q e mem:=λ_ _ _ _ _ θ _ _ hf=>wpIn_skip ⟨e,mem,θ,hf,Step.refl hf.sim,h⟩
theorem dJ{id:Nat}(h:Q (.exit id) e mem):AW M P N (.exit id) Q e mem:=λ_ _ _ _ _ θ _ _ hf=>wpIn_exit ⟨e,mem,θ,hf,Step.refl hf.sim,h⟩
theorem bm(h:Q .ret e mem):AW M P N .ret Q e mem:=λ_ _ _ _ _ θ _ _ hf=>wpIn_ret ⟨e,mem,θ,hf,Step.refl hf.sim,h⟩
def oa(id:Nat)(Q:AQ):AQ
 | .exit i,e,mem=>if i=id then Q .normal e mem else Q (.exit i) e mem
 | x,e,mem=>Q x e mem
theorem ca{id:Nat}{c:Code}(h:AW M P N c (oa id Q) e mem):AW M P N (.block id c) Q e mem:=by
 intro F n hF pb w0 θ a w hf;refine wpIn_block (wpIn_mono (h F n hF pb w0 θ a w hf) ?_);rintro x a' w' ⟨e',mem',θ',h1,hst,h2⟩;cases x with
 | exit i=>
  simp only [oa]at h2;simp only [Exit.inBlock]
  by_cases hi:i=id
  ·rw [if_pos hi]at h2 ⊢;exact⟨e',mem',θ',h1,hst,h2⟩
  ·rw [if_neg hi]at h2 ⊢;exact⟨e',mem',θ',h1,hst,h2⟩
 | _=>exact⟨e',mem',θ',h1,hst,h2⟩
theorem Lq{p:Nat->Prop}:∀ n,p n-> ∃ m,p m/\ ∀ k,p k->m<=k:=by
 intro n
 induction n using Nat.strongRecOn with
 | _ n ih=>
  intro hn
  by_cases h:∃ m,m<n/\p m
  ·obtain⟨m,hm,hp⟩:=h;exact ih m hm hp
  ·exact⟨n,hn,λk hk=>Ug λhlt=>h ⟨k,hlt,hk⟩⟩
open Classical in
noncomputable def qV(p:Nat->Prop):Nat:=if h:∃ m,p m/\ ∀ k,p k->m<=k then Classical.choose h else 0
theorem qe{p:Nat->Prop}{n:Nat}(hn:p n):p (qV p)/\ ∀ k,p k->qV p<=k:=by
 have h:=Lq n hn;unfold qV;rw [dif_pos h];exact Classical.choose_spec h
theorem eL{S:Type}{c:Code}(I:S->(Nat->AV)->List Ob->Prop)(μ:S->Nat)(s0:S)(h0:I s0 e mem)
 (round:∀ s e mem,I s e mem->AW M P N c (lM (λe' mem'=>∃ s',I s' e' mem'/\μ s'<μ s) Q) e mem):AW M P N (.loop c) Q e mem:=by
 intro F n hF pb w0 θ a w hf
 let p:Act->World->Nat->Prop:=λa' w' n=>∃ s e' mem' θ',Fit N pb w0 e' mem' θ' a' w'/\Step pb w0 θ mem w θ' mem' w'/\I s e' mem'/\μ s=n
 refine wpIn_loop (λa w=>∃ n,p a w n) (λa w=>qV (p a w)) ⟨_,s0,e,mem,θ,hf,Step.refl hf.sim,h0,rfl⟩ ?_;rintro a w2 ⟨m,hn⟩;obtain⟨⟨s,e,mem,θ,h1,hst,h2,h3⟩,-⟩:=qe hn;refine wpIn_mono (round s e mem h2 F n hF pb w0 θ a w2 h1) ?_;rintro x a' w' ⟨e',mem',θ',h4,hst2,h5⟩;cases x with
 | normal=>
  obtain⟨s',h6,h7⟩:=h5;have hp:p a' w' (μ s'):=⟨s',e',mem',θ',h4,hst.trans hst2,h6,rfl⟩;have:=(qe hp).2 _ hp;exact⟨⟨_,hp⟩,ah⟩
 | _=>exact⟨e',mem',θ',h4,hst.trans hst2,h5⟩
theorem Ox{c:Code}{Q':AQ}(h:AW M P N c Q e mem)(hq:∀ x e mem,Q x e mem->Q' x e mem):AW M P N c Q' e mem:=λF n hF pb w0 θ a w hf=>
 wpIn_mono (h F n hF pb w0 θ a w hf) λ_ _ _ ⟨e',mem',θ',h1,hst,h2⟩=>⟨e',mem',θ',h1,hst,hq _ _ _ h2⟩
theorem fZ{c:Code}(M0:(Nat->AV)->List Ob->Prop){K:(Nat->AV)->List Ob->Prop}(h:AW M P N c (lM M0 Q) e mem)(hk:∀ e mem,M0 e mem->K e mem):AW M P N c (lM K Q) e mem:=
 Ox h λx e mem hx=>by cases x<;>first|exact hx|exact hk _ _ hx
def bH(P:Program)(o:Oper)(e:Nat->AV)(mem:List Ob)(r:AV):Prop:=
 ∀ (pb:Nat->Prop) (w0:Bs) (θ:List Value) (w:World) (ev:Nat->Value),cr pb w0 w θ mem->(∀ x∈o.op.operands,R1 θ (aP pb θ mem) w (al e x) (aZ ev x))->
  dt P (λv w'=>R1 θ (aP pb θ mem) w' r v/\Ext w w') ((execOp (aZ ev) o).run P w)
def fq(P:Program)(o:Oper)(e:Nat->AV)(mem:List Ob)(r:AV)(mem':List Ob):Prop:=
 ∀ (pb:Nat->Prop) (w0:Bs) (θ:List Value) (w:World) (ev:Nat->Value),cr pb w0 w θ mem->(∀ x∈o.op.operands,R1 θ (aP pb θ mem) w (al e x) (aZ ev x))->
  dt P (λv w'=>∃ θ',R1 θ' (aP pb θ' mem') w' r v/\Step pb w0 θ mem w θ' mem' w') ((execOp (aZ ev) o).run P w)
theorem bH.st{o:Oper}{r:AV}(h:bH P o e mem r):fq P o e mem r mem:=λpb w0 θ w ev hs hx=>
 dt.mono (λ_ _ ⟨h1,h2⟩=>⟨θ,h1,Step.ext hs h2⟩) (h pb w0 θ w ev hs hx)
def lN(P:Program)(o:Oper)(e:Nat->AV)(mem:List Ob)(ob:Ob)(h:Nat->AV):Prop:=
 ∀ (pb:Nat->Prop) (w0:Bs) (θ:List Value) (w:World) (ev:Nat->Value),cr pb w0 w θ mem->(∀ x∈o.op.operands,R1 θ (aP pb θ mem) w (al e x) (aZ ev x))->
  dt P (λv w'=>Ext w w'/\(∀ b,cH v=some b->w.heap.size<=b)/\(∀ θ' pr,(∀ a x,R1 θ (aP pb θ mem) w a x->R1 θ' pr w' a x)->dG θ' pr w0.gn w' v ob)/\ ∀ θ' pr j,θ'[j]? =some v->R1 θ' pr w' (h j) v) ((execOp (aZ ev) o).run P w)
theorem s6{o:Oper}{ob:Ob}{h:Nat->AV}{m:Nat}(hn:lN P o e mem ob h)(hl:mem.length=m):fq P o e mem (h m) (mem++ [ob]):=λpb w0 θ w ev hs hx=>
 dt.mono (λv w' ⟨h1,h2,h3,h4⟩=>⟨θ++ [v],h4 _ _ _ (by rw [<- hl, <- hs.len];simp),Step.new hs h1 v ob h2 h3⟩) (hn pb w0 θ w ev hs hx)
def nf(P:Program)(o:Oper)(e:Nat->AV)(mem:List Ob)(j:Nat)(ob:Ob):Prop:=
 ∀ (pb:Nat->Prop) (w0:Bs) (θ:List Value) (w:World) (ev:Nat->Value),cr pb w0 w θ mem->(∀ x∈o.op.operands,R1 θ (aP pb θ mem) w (al e x) (aZ ev x))->
  dt P (λv w'=>v=undef/\Step pb w0 θ mem w θ (mem.set j ob) w') ((execOp (aZ ev) o).run P w)
theorem qW{o:Oper}{j:Nat}{ob:Ob}(h:nf P o e mem j ob):fq P o e mem (.v undef) (mem.set j ob):=λpb w0 θ w ev hs hx=>
 dt.mono (λv w' ⟨h1,h2⟩=>⟨θ,by subst h1;exact .ro (.v _),h2⟩) (h pb w0 θ w ev hs hx)
def Gd(ops:Array Oper)(o:Oper)(e:Nat->AV):Prop:=match o.guard with|none=>True|some (j,b)=>∃ d,(ops[j]?).bind (·.dst)=some d/\al e (.tmp d)= .v (.bool b)
def Ng(ops:Array Oper)(o:Oper)(e:Nat->AV):Prop:=match o.guard with|none=>False|some (j,b)=>∃ d,(ops[j]?).bind (·.dst)=some d/\(al e (.tmp d)= .v (.bool (!b))\/al e (.tmp d)= .v undef)
theorem rJ{ops:Array Oper}{a:Act}{j d:Nat}{b:Bool}(hd:(ops[j]?).bind (·.dst)=some d)(hv:a.tmps.getD d undef= .bool b):yielded ops a.tmps j=some b:=by
 unfold yielded;rw [hd];simp only [Option.bind_some];rw [S3]at hv;cases h:a.tmps[d]? with
 | none=>rw [h]at hv;cases hv
 | some v=>rw [h]at hv;simp at hv;subst hv;rfl
theorem Au{ops:Array Oper}{a:Act}{j d:Nat}(hd:(ops[j]?).bind (·.dst)=some d)(hv:a.tmps.getD d undef=undef):yielded ops a.tmps j=none:=by
 unfold yielded;rw [hd];simp only [Option.bind_some];rw [S3]at hv;cases h:a.tmps[d]? with
 | none=>rfl
 | some v=>rw [h]at hv;simp at hv;subst hv;rfl
theorem mH{pb:Nat->Prop}{w0:Bs}{w:World}{θ:List Value}{a:Act}{ops:Array Oper}{o:Oper}(hf:Fit N pb w0 e mem θ a w)(hg:Gd ops o e):Region.wanted o (yielded ops a.tmps)=true:=by
 unfold Region.wanted;unfold Gd at hg;cases h:o.guard with
 | none=>rfl
 | some g=>
  obtain⟨j,b⟩:=g;rw [h]at hg;obtain⟨d,h1,h2⟩:=hg;have h3:=hf.sl d;rw [show e d=_ from h2]at h3;simp [rJ h1 h3.val]
theorem AI{pb:Nat->Prop}{w0:Bs}{w:World}{θ:List Value}{a:Act}{ops:Array Oper}{o:Oper}(hf:Fit N pb w0 e mem θ a w)(hg:Ng ops o e):Region.wanted o (yielded ops a.tmps)=false:=by
 unfold Region.wanted;unfold Ng at hg;cases h:o.guard with
 | none=>rw [h]at hg;exact hg.elim
 | some g=>
  obtain⟨j,b⟩:=g;rw [h]at hg;obtain⟨d,h1,h2⟩:=hg;have h3:=hf.sl d;rcases h2 with h2|h2
  ·rw [show e d=_ from h2]at h3;simp [rJ h1 h3.val]
  ·rw [show e d=_ from h2]at h3;simp [Au h1 h3.val]
section
variable {ops:Array Oper} {l:List Oper} {o:Oper}
theorem Oy{Q1 Q2:Exit->Act->World->Prop}(hq:∀ x a w,Q1 x a w->Q2 x a w):∀ x a w,NP Q1 x a w->NP Q2 x a w:=λx a w h=>by
 cases x<;>first|exact hq _ _ _ h|exact h.elim
theorem kS{Q1 Q2:Exit->Act->World->Prop}(hq:∀ x a w,Q1 x a w->Q2 x a w):∀ {l:List Oper} {a:Act} {w:World},wpList P ops (NP Q1) l a w->wpList P ops (NP Q2) l a w
 | [],_,_,h=>hq _ _ _ h
 | o::l,a,w,h=>by
  have h':(if Region.wanted o (yielded ops a.tmps)then o.wp P a w (wpList P ops (NP Q1) l) (NP Q1)\/(o.asks P a w/\LetsOut (NP Q1))else wpList P ops (NP Q1) l (a.put o.dst undef) w):=h
  show(if Region.wanted o (yielded ops a.tmps)then _ else _)
  split
  ·rename_i hw
   rw [if_pos hw]at h';rcases h' with h'|⟨_,⟨a',w',hf⟩⟩
   ·refine .inl ?_;unfold Oper.wp at h' ⊢;generalize (execOp a.eval o).run P w=r at*;cases r with
    | ok x w'=>
     cases x<;>simp only [Oper.upon]at h' ⊢
     case value v=>exact kS hq h'
     case skip=>exact kS hq h'
     case defer d=>exact kS hq h'
     case enter f args=>
      refine h'.mono λen w'' he=>?_
      cases en with
      | returned v=>exact kS hq he
      | panicked ch=>exact hq _ _ _ he
      | outgrown=>obtain⟨_,_,hf⟩:=he;exact hf.elim
     case row row args=>exact h'.mono λv w'' he=>kS hq he
    | halt x w'=>cases x<;>simp only [Oper.upon]at h' ⊢ <;>exact Oy hq _ _ _ h'
   ·exact hf.elim
  ·rename_i hw
   rw [if_neg hw]at h';exact kS hq h'
theorem j7(h:Q .normal e mem):AL P N ops [] Q e mem:=λ_ _ θ _ _ hf=>⟨e,mem,θ,hf,Step.refl hf.sim,h⟩
theorem gQ(a:Act):a.eval=aZ (λt=>a.tmps.getD t undef):=BW (λ_=>rfl)
theorem j8{pb:Nat->Prop}{w0:Bs}{w:World}{θ:List Value}{a:Act}(hf:Fit N pb w0 e mem θ a w)(x:Operand):R1 θ (aP pb θ mem) w (al e x) (aZ (λt=>a.tmps.getD t undef) x):=by
 cases x with
 | tmp t=>exact hf.sl t
 | const v=>exact .ro (.v v)
 | global g=>exact .ro (.v _)
 | func f=>exact .ro (.v _)
theorem GO{r:AV}{mem':List Ob}(ho:fq P o e mem r mem')(hg:Gd ops o e)(hd:dV N o.dst=true)(h:AL P N ops l Q (aT e o.dst r) mem'):AL P N ops (o::l) Q e mem:=by
 intro pb w0 θ a w hf
 show(if Region.wanted o (yielded ops a.tmps)then _ else _)
 rw [if_pos (mH hf hg)];refine .inl (Oper.xr (φ:=λv w'=>∃ θ',R1 θ' (aP pb θ' mem') w' r v/\Step pb w0 θ mem w θ' mem' w') ?_ ?_)
 ·rintro v w' ⟨θ',h1,h2⟩;exact kS (λ_ _ _ hq=>hq.after h2) (h pb w0 θ' _ w' (hf.put h2 hd h1))
 ·rw [gQ];exact ho pb w0 θ w _ hf.sim λx _=>j8 hf x
theorem GP{r:AV}(ho:bH P o e mem r)(hg:Gd ops o e)(hd:dV N o.dst=true)(h:AL P N ops l Q (aT e o.dst r) mem):AL P N ops (o::l) Q e mem:=GO ho.st hg hd h
theorem Oz(hg:Ng ops o e)(hd:dV N o.dst=true)(h:AL P N ops l Q (aT e o.dst (.v undef)) mem):AL P N ops (o::l) Q e mem:=by
 intro pb w0 θ a w hf
 show(if Region.wanted o (yielded ops a.tmps)then _ else _)
 rw [if_neg (by rw [AI hf hg];exact UR)];exact h pb w0 θ _ w (hf.put (Step.ext hf.sim (Ext.refl w)) hd (.ro (.v _)))
theorem EC{c:Code}{e':Nat->AV}{mem':List Ob}(ht:∀ pb w0 θ w,cr pb w0 w θ mem-> ∃ θ',Step pb w0 θ mem w θ' mem' w/\ ∀ t x,R1 θ (aP pb θ mem) w (e t) x->R1 θ' (aP pb θ' mem') w (e' t) x)(h:AW M P N c Q e' mem'):AW M P N c Q e mem:=
 λF n hF pb w0 θ a w hf=>let ⟨θ',h1,h2⟩:=ht pb w0 θ w hf.sim;wpIn_mono (h F n hF pb w0 θ' a w ⟨hf.size,hf.dfr.step h1,λt=>h2 t _ (hf.sl t),h1.sim⟩) λ_ _ _ hq=>hq.after h1
end
def jr(l:List Oper):Bool:=l.all λo=>match o.op with| .defer _=>false|_=>true
theorem HH{n l0:Nat}{row:String}{args:Array Value}{w:World}{R:Value->World->Prop}(h:Rows P row args w R):RowsIn (Fence.wide.inRound l0) n P row args w R:=
 λc cs _=>let ⟨v,w',r,s⟩:=h c cs;⟨v,w',r,by rw [fenced_inRound];exact stepsIn_wide.2 s⟩
theorem Az{n l0:Nat}{Q:Exit->Act->World->Prop}{K:Exit->Act->World->Prop}{o:Oper}(hnd:∀ c,o.op≠ .defer c){X X':Act->World->Prop}(hQ:∀ x a w,NP K x a w->Q x a w)(hX:∀ a w,X a w->X' a w){a:Act}{w:World}
 (h:o.wp P a w X (NP K)\/(o.asks P a w/\LetsOut (NP K))):o.wpIn (Fence.wide.inRound l0) n P a w X' Q:=by
 rcases h with h|⟨_,⟨a',w',hf⟩⟩
 ·refine⟨λf _=>trivial,?_⟩;rw [Oper.semAt_eq _ _ _ hnd];unfold Oper.wp at h;generalize (execOp a.eval o).run P w=r at*;cases r with
  | ok x w'=>
   cases x<;>simp only [Oper.upon]at h<;>simp only [Oper.uponIn]
   case value v=>exact hX _ _ h
   case skip=>exact hX _ _ h
   case defer d=>exact hX _ _ h
   case enter f args=>
    refine⟨λhn=>(by cases hn),CallsIn.inRound l0 (callsIn_wide.2 (h.mono λe w'' he=>?_))⟩;cases e with
    | returned v=>exact hX _ _ he
    | panicked ch=>exact hQ _ _ _ he
    | outgrown=>obtain⟨_,_,hf⟩:=he;exact hf.elim
   case row row args=>exact⟨λhn=>(by cases hn),HH (h.mono λv w'' he=>hX _ _ he)⟩
  | halt x w'=>cases x<;>simp only [Oper.upon]at h<;>exact hQ _ _ _ h
 ·exact hf.elim
theorem wX{n l0:Nat}{ops:Array Oper}{Q:Exit->Act->World->Prop}{K:Exit->Act->World->Prop}(hQ:∀ x a w,NP K x a w->Q x a w):∀ {l:List Oper},jr l=true-> ∀ {a:Act} {w:World},wpList P ops (NP K) l a w->wpListIn (Fence.wide.inRound l0) n P ops Q l a w
 | [],_,_,_,h=>hQ _ _ _ h
 | o::l,hd,a,w,h=>by
  simp only [jr,Um,SS]at hd;have hnd:∀ c,o.op≠ .defer c:=λc hc=>by have:=hd.1;rw [hc]at this;cases this
  have h':(if Region.wanted o (yielded ops a.tmps)then o.wp P a w (wpList P ops (NP K) l) (NP K)\/(o.asks P a w/\LetsOut (NP K))else wpList P ops (NP K) l (a.put o.dst undef) w):=h
  show(if Region.wanted o (yielded ops a.tmps)then _ else _)
  split
  ·rename_i hw
   rw [if_pos hw]at h';exact Az hnd hQ (λa w hx=>wX hQ hd.2 hx) h'
  ·rename_i hw
   rw [if_neg hw]at h';exact⟨λf _=>trivial,wX hQ hd.2 h'⟩
theorem tL{n l0:Nat}{md:Region.Mode}{ops:Array Oper}{Q:Exit->Act->World->Prop}{K:Exit->Act->World->Prop}(hQ:∀ x a w,NP K x a w->Q x a w)(hd:jr ops.toList=true):∀ {m:Nat} {listed:Array Bool} {a:Act} {w:World},wpAny P md ops (NP K) m listed a w->wpAnyIn (Fence.wide.inRound l0) n P md ops Q m listed a w
 | 0,_,_,_,h=>⟨h.1,hQ _ _ _ h.2⟩
 | m+1,_,_,_,h=>⟨λe=>hQ _ _ _ (h.1 e),λi hi=>by
  have h2:=h.2 i hi;unfold wpOp at h2;unfold wpOpIn;cases ho:ops[i]? with
  | none=>simp only [ho]at h2 ⊢;exact tL hQ hd h2
  | some o=>
   simp only [ho]at h2 ⊢;have hnd:∀ c,o.op≠ .defer c:=λc hc=>by
    have:=Td.1 hd o (by have:=Array.mem_of_getElem? ho;simpa using this);rw [hc]at this;cases this
   split
   ·rename_i hw
    rw [if_pos hw]at h2;exact Az hnd hQ (λa w hx=>tL hQ hd hx) h2
   ·rename_i hw
    rw [if_neg hw]at h2;exact⟨λf _=>trivial,tL hQ hd h2⟩⟩
theorem tM{Q:Exit->Act->World->Prop}:∀ x a w,NP Q x a w->Q x a w:=λx a w hx=>by
 cases x<;>first|exact hx|exact hx.elim
theorem OA{id:Nat}{l:List Oper}(hd:jr l=true)(h:AL P N l.toArray l Q e mem):AW M P N (.region id l.toArray false) Q e mem:=by
 intro F n hF pb w0 θ a w hf;rcases Mode.Hn hF with rfl|⟨l0,rfl⟩
 ·exact wpIn_wide.2 (wp_mono (wp_region_lit (h pb w0 θ a w hf)) tM)
 ·exact wpIn_region_lit (wX tM hd (h pb w0 θ a w hf))
theorem zq{id:Nat}{l:List Oper}(hm:P.follows .mixedOrders =true)(hd:jr l=true)(h:∀ pb w0 θ a w,Fit N pb w0 e mem θ a w->wpAny P .any l.toArray (NP (LQ N pb w0 θ mem w Q)) l.toArray.size (Array.replicate l.toArray.size false) a {w with drawn:=w.drawn+1}):AW M P N (.region id l.toArray true) Q e mem:=by
 intro F n hF pb w0 θ a w hf;rcases Mode.Hn hF with rfl|⟨l0,rfl⟩
 ·exact wpIn_wide.2 (wp_mono (wp_region_any hm (h pb w0 θ a w hf)) tM)
 ·exact wpIn_region_any hm (tL tM (by simpa using hd) (h pb w0 θ a w hf))
end
theorem aa{e:Nat->AV}{t:Tmp}{r:AV}:al (aT e (some t) r) (.tmp t)=r:=if_pos rfl
theorem eW{e:Nat->AV}{t d:Tmp}{r a:AV}(hd:(t==d)=false)(h:al e (.tmp t)=a):al (aT e (some d) r) (.tmp t)=a:=by
 have:t≠d:=by simpa using hd
 show(if t=d then r else e t)=a
 rw [if_neg this];exact h
theorem aE{e:Nat->AV}{t:Tmp}{r a:AV}(h:al e (.tmp t)=a):al (aT e none r) (.tmp t)=a:=h
def bT(P:Program)(f:FuncId)(args:List AV)(ψ:AV->Prop):Prop:=
 ∀ (pr:Nat->Prop) (w:World) (vs:List Value),vs.length=args.length->(∀ (i:Nat) (a:AV) (x:Value),args[i]? =some a->vs[i]? =some x->R0 pr w a x)->
  Calls P f vs.toArray w λen w'=>∃ r v,en= .returned v/\ψ r/\R0 (λb=>pr b/\b<w.heap.size) w' r v/\Ext w w'
theorem bT.mono{P:Program}{f:FuncId}{args:List AV}{ψ ψ':AV->Prop}(h:bT P f args ψ)(hp:∀ r,ψ r->ψ' r):bT P f args ψ':=λpr w vs h1 h2=>
 (h pr w vs h1 h2).mono λ_ _ ⟨r,v,h3,h4,h5⟩=>⟨r,v,h3,hp r h4,h5⟩
theorem bT.args{P:Program}{f:FuncId}{args args':List AV}{ψ:AV->Prop}(h:bT P f args ψ)(he:args'=args):bT P f args' ψ:=he ▸ h
def pW(args:List AV):Nat->AV:=λt=>args.getD t (.v undef)
end Go.Proofs.YtfoaiidcfkmneaaGreatDoor
