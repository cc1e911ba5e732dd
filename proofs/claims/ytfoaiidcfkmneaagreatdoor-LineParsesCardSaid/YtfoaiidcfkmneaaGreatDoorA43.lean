/- Lemmas for the statement. -/
import Derived.Test.YtfoaiidcfkmneaaGreatDoorM6
import Derived.Test.YtfoaiidcfkmneaaGreatDoorA25
namespace Go.Proofs.YtfoaiidcfkmneaaGreatDoor
open Go Go.RowKit Go.Proofs
set_option linter.unusedSimpArgs false
set_option linter.unusedVariables false
abbrev J2:=Bool->Nat->List AV->List Value->List Ob->World->Prop
def Ad(pb:Nat->Prop)(w0:Bs)(j:Nat)(T:TypeId)(J:J2):Prop:=(∀ b i c θ mem A B,cr pb w0 A θ mem->J b i c θ mem A->Ext A B->J b i c θ mem B)/\
 ∀ i c c' θ mem A θ' B,cr pb w0 A θ mem->mem[j]? =some (.box T c)->J true i c θ mem A->Step pb w0 θ mem A θ' (mem.set j (.box T c')) B->J true i c' θ' (mem.set j (.box T c')) B
def An(P:Program)(lb:Nat)(pb:Nat->Prop)(w0:Bs)(j:Nat)(T:TypeId)(ys:List (List AV))(J:J2)(X:List PanicEntry->World->Prop):Prop:=
 ∀ (i:Nat) (y:List AV) (c:List AV) (θ:List Value) (mem:List Ob) (w:World) (ws:List Value),ys[i]? =some y->ws.length=y.length->(∀ (k:Nat) (a:AV) (x:Value),y[k]? =some a->ws[k]? =some x->R0 (aP pb θ mem) w a x)->cr pb w0 w θ mem->mem[j]? =some (.box T c)->J true i c θ mem w->
  YieldAt Fence.wide 7 P lb ws.toArray w λen w2=>(∃ (b:Bool) (θ2:List Value) (mem2:List Ob),en= .returned (.bool b)/\cr pb w0 w2 θ2 mem2/\(∀ a x,R1 θ (aP pb θ mem) w a x->R1 θ2 (aP pb θ2 mem2) w2 a x)/\mem2[j]? =some (.box T c)/\J b (i+1) c θ2 mem2 w2)\/ ∃ ch,en= .panicked ch/\X ch w2
def zC(P:Program)(f:FuncId)(l m:List AV)(j:Nat)(T:TypeId)(c0:List AV)(ys:List (List AV)):Prop:=
 ∀ (lb:Nat) (pb:Nat->Prop) (w0:Bs) (θ:List Value) (mem:List Ob) (w:World) (vs us:List Value) (J:J2) (X:List PanicEntry->World->Prop),vs.length=l.length->us.length=m.length->(∀ (i:Nat) (a:AV) (x:Value),l[i]? =some a->vs[i]? =some x->R1 θ (aP pb θ mem) w a x)->(∀ (i:Nat) (a:AV) (x:Value),m[i]? =some a->us[i]? =some x->R1 θ (aP pb θ mem) w a x)->
  Ad pb w0 j T J->An P lb pb w0 j T ys J X->w0.ds= []->cr pb w0 w θ mem->mem[j]? =some (.box T c0)->J true 0 c0 θ mem w->
  CallsIn Fence.wide 8 P f (vs++ .func (.yield lb) #[] #[]::us).toArray w λen w'=>((∃ v,en= .returned v)/\ ∃ b i c θ' mem',cr pb w0 w' θ' mem'/\mem'[j]? =some (.box T c)/\J b i c θ' mem' w'/\(b=true->i=ys.length))\/ ∃ ch,en= .panicked ch/\X ch w'
abbrev mr:=Exit->(Nat->AV)->Bool->Nat->List AV->Prop
def Hr(N:Nat)(pb:Nat->Prop)(w0:Bs)(j:Nat)(T:TypeId)(J:J2)(X:List PanicEntry->World->Prop)(Q:mr):Exit->Act->World->Prop:=λx a w=>(∃ e b i c θ mem,ov N pb w0 e mem θ a w/\mem[j]? =some (.box T c)/\J b i c θ mem w/\Q x e b i c)\/ ∃ ch,x= .panic ch/\a.defers= []/\X ch w
def JW(lb:Nat)(ys:List (List AV))(j:Nat)(T:TypeId)(P:Program)(N:Nat)(code:Code)(Q:mr)(e:Nat->AV)(b:Bool)(i:Nat)(c:List AV):Prop:=
 ∀ pb w0 J X,Ad pb w0 j T J->An P lb pb w0 j T ys J X-> ∀ θ mem a w,ov N pb w0 e mem θ a w->mem[j]? =some (.box T c)->J b i c θ mem w->code.wpIn Fence.wide 8 P (Hr N pb w0 j T J X Q) a w
section
variable {lb:Nat} {ys:List (List AV)} {j:Nat} {T:TypeId} {P:Program} {N:Nat} {Q:mr} {e:Nat->AV} {b:Bool} {i:Nat} {c:List AV}
def s9(K:(Nat->AV)->Bool->Nat->List AV->Prop)(Q:mr):mr
 | .normal,e,b,i,c=>K e b i c
 | x,e,b,i,c=>Q x e b i c
theorem oe{x y:Code}(h:JW lb ys j T P N x (s9 (JW lb ys j T P N y Q) Q) e b i c):JW lb ys j T P N (.seq x y) Q e b i c:=by
 intro pb w0 J X hJ hY θ mem a w hf hm hj;refine wpIn_seq (wpIn_mono (h pb w0 J X hJ hY θ mem a w hf hm hj) ?_);rintro x a' w' (⟨e',b',i',c',θ',mem',h1,h2,h3,h4⟩|⟨ch,rfl,h1,h2⟩)
 ·cases x with
  | normal=>exact h4 pb w0 J X hJ hY θ' mem' a' w' h1 h2 h3
  | _=>exact .inl ⟨e',b',i',c',θ',mem',h1,h2,h3,h4⟩
 ·exact .inr ⟨ch,rfl,h1,h2⟩
theorem ve{q:Operand}{x y:Code}{t:Bool}(hc:al e q= .v (.bool t))(ht:t=true->JW lb ys j T P N x Q e b i c)(hf:t=false->JW lb ys j T P N y Q e b i c):JW lb ys j T P N (.cond q x y) Q e b i c:=by
 intro pb w0 J X hJ hY θ mem a w hfit hm hj;have hv:a.eval q= .bool t:=by
  cases q with
  | tmp s=>have:=hfit.1.sl s;rw [show e s= .v (.bool t)from hc]at this;exact this.val
  | const v=>exact(show v= .bool t by simpa [al]using hc)
  | global g=>cases hc
  | func f=>cases hc
 refine wpIn_cond_split hv (λh=>ht h pb w0 J X hJ hY θ mem a w hfit hm hj) (λh=>hf h pb w0 J X hJ hY θ mem a w hfit hm hj)
theorem EV{q:Operand}{x y:Code}(hc:al e q= .v (.bool true))(h:JW lb ys j T P N x Q e b i c):JW lb ys j T P N (.cond q x y) Q e b i c:=ve hc (λ_=>h) (λh=>by cases h)
theorem Ci{q:Operand}{x y:Code}(hc:al e q= .v (.bool false))(h:JW lb ys j T P N y Q e b i c):JW lb ys j T P N (.cond q x y) Q e b i c:=ve hc (λh=>by cases h) (λ_=>h)
theorem yE(h:Q .normal e b i c):JW lb ys j T P N .skip Q e b i c:=λ_ _ _ _ _ _ θ mem _ _ hf hm hj=>wpIn_skip (.inl ⟨e,b,i,c,θ,mem,hf,hm,hj,h⟩)
theorem OX{id:Nat}(h:Q (.exit id) e b i c):JW lb ys j T P N (.exit id) Q e b i c:=λ_ _ _ _ _ _ θ mem _ _ hf hm hj=>wpIn_exit (.inl ⟨e,b,i,c,θ,mem,hf,hm,hj,h⟩)
theorem F6(h:Q .ret e b i c):JW lb ys j T P N .ret Q e b i c:=λ_ _ _ _ _ _ θ mem _ _ hf hm hj=>wpIn_ret (.inl ⟨e,b,i,c,θ,mem,hf,hm,hj,h⟩)
def sS(id:Nat)(Q:mr):mr
 | .exit k,e,b,i,c=>if k=id then Q .normal e b i c else Q (.exit k) e b i c
 | x,e,b,i,c=>Q x e b i c
theorem Cj{id:Nat}{x:Code}(h:JW lb ys j T P N x (sS id Q) e b i c):JW lb ys j T P N (.block id x) Q e b i c:=by
 intro pb w0 J X hJ hY θ mem a w hf hm hj;refine wpIn_block (wpIn_mono (h pb w0 J X hJ hY θ mem a w hf hm hj) ?_);rintro x a' w' (⟨e',b',i',c',θ',mem',h1,h2,h3,h4⟩|⟨ch,rfl,h1,h2⟩)
 ·cases x with
  | exit k=>
   simp only [sS]at h4;simp only [Exit.inBlock]
   by_cases hi:k=id
   ·rw [if_pos hi]at h4 ⊢;exact .inl ⟨e',b',i',c',θ',mem',h1,h2,h3,h4⟩
   ·rw [if_neg hi]at h4 ⊢;exact .inl ⟨e',b',i',c',θ',mem',h1,h2,h3,h4⟩
  | _=>exact .inl ⟨e',b',i',c',θ',mem',h1,h2,h3,h4⟩
 ·exact .inr ⟨ch,rfl,h1,h2⟩
theorem OY{S:Type}{x:Code}(I:S->(Nat->AV)->Bool->Nat->List AV->Prop)(μ:S->Nat)(s0:S)(h0:I s0 e b i c)
 (round:∀ s e b i c,I s e b i c->JW lb ys j T P N x (s9 (λe' b' i' c'=>∃ s',I s' e' b' i' c'/\μ s'<μ s) Q) e b i c):JW lb ys j T P N (.loop x) Q e b i c:=by
 intro pb w0 J X hJ hY θ mem a w hf hm hj
 let p:Act->World->Nat->Prop:=λa w n=>∃ s e b i c θ mem,ov N pb w0 e mem θ a w/\mem[j]? =some (.box T c)/\J b i c θ mem w/\I s e b i c/\μ s=n
 refine wpIn_loop (λa w=>∃ n,p a w n) (λa w=>qV (p a w)) ⟨_,s0,e,b,i,c,θ,mem,hf,hm,hj,h0,rfl⟩ ?_;rintro a w ⟨n,hn⟩;obtain⟨⟨s,e,b,i,c,θ,mem,h1,h2,h3,h4,h5⟩,-⟩:=qe hn;refine wpIn_mono (round s e b i c h4 pb w0 J X hJ hY θ mem a w h1 h2 h3) ?_;rintro x a' w' (⟨e',b',i',c',θ',mem',h6,h7,h8,h9⟩|⟨ch,rfl,h6,h7⟩)
 ·cases x with
  | normal=>
   obtain⟨s',q1,q2⟩:=h9;have hp:p a' w' (μ s'):=⟨s',e',b',i',c',θ',mem',h6,h7,h8,q1,rfl⟩;have:=(qe hp).2 _ hp;exact⟨⟨_,hp⟩,ah⟩
  | _=>exact .inl ⟨e',b',i',c',θ',mem',h6,h7,h8,h9⟩
 ·exact .inr ⟨ch,rfl,h6,h7⟩
def JL(lb:Nat)(ys:List (List AV))(j:Nat)(T:TypeId)(P:Program)(N:Nat)(ops:Array Oper)(l:List Oper)(Q:mr)(e:Nat->AV)(b:Bool)(i:Nat)(c:List AV):Prop:=
 ∀ pb w0 J X,Ad pb w0 j T J->An P lb pb w0 j T ys J X-> ∀ θ mem a w,ov N pb w0 e mem θ a w->mem[j]? =some (.box T c)->J b i c θ mem w->wpListIn Fence.wide 8 P ops (Hr N pb w0 j T J X Q) l a w
theorem pw{id:Nat}{l:List Oper}(h:JL lb ys j T P N l.toArray l Q e b i c):JW lb ys j T P N (.region id l.toArray false) Q e b i c:=λpb w0 J X hJ hY θ mem a w hf hm hj=>wpIn_region_lit (h pb w0 J X hJ hY θ mem a w hf hm hj)
theorem kA{K:(Nat->AV)->Bool->Nat->List AV->Prop}(h:K e b i c):s9 K Q .normal e b i c:=h
theorem EW{K:(Nat->AV)->Bool->Nat->List AV->Prop}{id:Nat}(h:Q (.exit id) e b i c):s9 K Q (.exit id) e b i c:=h
theorem EX{K:(Nat->AV)->Bool->Nat->List AV->Prop}(h:Q .ret e b i c):s9 K Q .ret e b i c:=h
theorem Cm{id:Nat}(h:Q .normal e b i c):sS id Q .normal e b i c:=h
theorem uv{id:Nat}(h:Q .ret e b i c):sS id Q .ret e b i c:=h
theorem IU{id:Nat}(h:Q .normal e b i c):sS id Q (.exit id) e b i c:=by show(if id=id then _ else _);rw [if_pos rfl];exact h
section
variable {ops:Array Oper} {l:List Oper} {d:Option Tmp} {ty:TypeId} {pos:String} {af:Array Edge} {g:Option (Nat×Bool)} {op:Op}
theorem gU{r:AV}(ho:∀ mem,mem[j]? =some (.box T c)->bH P ⟨d,op,ty,pos,af,g⟩ e mem r)(hg:Gd ops ⟨d,op,ty,pos,af,g⟩ e)(hd:(dV N d&&wM op)=true)(h:JL lb ys j T P N ops l Q (aT e d r) b i c):JL lb ys j T P N ops (⟨d,op,ty,pos,af,g⟩::l) Q e b i c:=by
 simp only [SS]at hd;intro pb w0 J X hJ hY θ mem a w hf hm hj
 show(if Region.wanted _ (yielded ops a.tmps)then _ else _)
 rw [if_pos (mH hf.1 hg)];refine um (φ:=λv w'=>R1 θ (aP pb θ mem) w' r v/\Ext w w') (zz hd.2) ?_ ?_
 ·rintro v w' ⟨h1,h2⟩;exact h pb w0 J X hJ hY θ mem _ w' ⟨hf.1.put (Step.ext hf.1.sim h2) hd.1 h1,qB _ _ hf.2⟩ hm (hJ.1 _ _ _ _ _ _ _ hf.1.sim hj h2)
 ·rw [gQ];exact ho mem hm pb w0 θ w _ hf.1.sim λx _=>j8 hf.1 x
theorem GZ{r:AV}{c':List AV}(hb:b=true)(ho:∀ mem,mem[j]? =some (.box T c)->fq P ⟨d,op,ty,pos,af,g⟩ e mem r (mem.set j (.box T c')))(hg:Gd ops ⟨d,op,ty,pos,af,g⟩ e)(hd:(dV N d&&wM op)=true)(h:JL lb ys j T P N ops l Q (aT e d r) b i c'):JL lb ys j T P N ops (⟨d,op,ty,pos,af,g⟩::l) Q e b i c:=by
 subst hb;simp only [SS]at hd;intro pb w0 J X hJ hY θ mem a w hf hm hj
 show(if Region.wanted _ (yielded ops a.tmps)then _ else _)
 rw [if_pos (mH hf.1 hg)];refine um (φ:=λv w'=>∃ θ',R1 θ' (aP pb θ' (mem.set j (.box T c'))) w' r v/\Step pb w0 θ mem w θ' (mem.set j (.box T c')) w') (zz hd.2) ?_ ?_
 ·rintro v w' ⟨θ',h1,h2⟩;exact h pb w0 J X hJ hY θ' _ _ w' ⟨hf.1.put h2 hd.1 h1,qB _ _ hf.2⟩ (S7 (SN.1 hm).1) (hJ.2 _ _ _ _ _ _ _ _ hf.1.sim hm hj h2)
 ·rw [gQ];exact ho mem hm pb w0 θ w _ hf.1.sim λx _=>j8 hf.1 x
theorem ma(h:∀ e1,e1=e->Q .normal e1 b i c):JL lb ys j T P N ops [] Q e b i c:=λ_ _ _ _ _ _ θ mem _ _ hf hm hj=>.inl ⟨e,b,i,c,θ,mem,hf,hm,hj,h e rfl⟩
theorem CB{x:Operand}{as:Array Operand}{ts:Array TypeId}{y:List AV}(hx:al e x= .v (.func (.yield lb) #[] #[]))(hargs:dc e as.toList=y)(hro:cS.roL y=true)(hg:Gd ops ⟨d,.call ⟨.value x,as,ts⟩,ty,pos,af,g⟩ e)(hd:dV N d=true)(hb:b=true)(hy:ys[i]? =some y)
 (ht:JL lb ys j T P N ops l Q (aT e d (.v (.bool true))) true (i+1) c)(hf:JL lb ys j T P N ops l Q (aT e d (.v (.bool false))) false (i+1) c):JL lb ys j T P N ops (⟨d,.call ⟨.value x,as,ts⟩,ty,pos,af,g⟩::l) Q e b i c:=by
 subst hb;have h:∀ b',JL lb ys j T P N ops l Q (aT e d (.v (.bool b'))) b' (i+1) c:=λb'=>by cases b'<;>assumption
 intro pb w0 J X hJ hY θ mem a w hf hm hj
 show(if Region.wanted _ (yielded ops a.tmps)then _ else _)
 rw [if_pos (mH hf.1 hg)];have hws:(as.toList.map (aZ λt=>a.tmps.getD t undef)).length =y.length:=by rw [<- hargs];simp [dc]
 obtain⟨fn,tmps,assign,body,h1,h2⟩:=hY i y c θ mem w (as.toList.map (aZ λt=>a.tmps.getD t undef)) hy hws (λk v u ha hv=>by
  have ha':=ha;rw [<- hargs,dc,SU]at ha';rw [SU]at hv;cases hq:as.toList[k]? with
  | none=>rw [hq]at hv;cases hv
  | some q=>
   rw [hq]at ha' hv;simp only [Option.map_some,Option.some.injEq]at ha' hv;subst ha' hv;exact(j8 hf.1 q).iN (hP hro ha)) hf.1.sim hm hj
 refine⟨λf _=>trivial,?_⟩;rw [Oper.semAt_eq _ _ _ (λc hc=>by cases hc),gQ];have hxv:=j8 hf.1 x;rw [hx]at hxv;rw [ly hxv.val rfl];have e1:(do let q <- Deferred.ofValue (.func (.yield lb) #[] #[]) (as.toList.map (aZ λt=>a.tmps.getD t undef)).toArray;invoke q.target q.args:Sem Next).run P w=(Instr.yield lb (as.toList.map (aZ λt=>a.tmps.getD t undef)).toArray).run P w:=by
  simp [Deferred.ofValue,Sem.run_bind,invoke]
 rw [e1,h1];refine⟨λhn=>(by cases hn),h2.mono ?_⟩;rintro en w2 (⟨b',θ2,mem2,rfl,g1,g2,g3,g4⟩|⟨ch,rfl,hX⟩)
 ·refine h b' pb w0 J X hJ hY θ2 mem2 _ w2 ?_ g3 g4;have hf2:Fit N pb w0 e mem2 θ2 a w2:=⟨hf.1.size,by rw [hf.2];exact Mks.RX (hf.2 ▸ hf.1.dfr),λt=>g2 _ _ (hf.1.sl t),g1⟩;exact⟨hf2.put (Step.refl g1) hd (.ro (.v _)),qB _ _ hf.2⟩
 ·exact .inr ⟨ch,rfl,hf.2,hX⟩
end
def rE(lb:Nat)(ys:List (List AV))(j:Nat)(T:TypeId)(P:Program)(N:Nat)(ops:Array Oper)(tail:List Oper)(Q:mr)(b:Bool)(i:Nat)(c:List AV):List Oper->(Nat->AV)->Prop
 | [],e=>JL lb ys j T P N ops tail Q e b i c
 | o::l,e=>∃ r,((Gd ops o e/\ ∀ mem,mem[j]? =some (.box T c)->bH P o e mem r)\/(Ng ops o e/\r= .v undef))/\rE lb ys j T P N ops tail Q b i c l (aT e o.dst r)
theorem OZ{ops:Array Oper}{tail:List Oper}(h:JL lb ys j T P N ops tail Q e b i c):rE lb ys j T P N ops tail Q b i c [] e:=h
theorem mY{d:Option Tmp}{ty:TypeId}{pos:String}{af:Array Edge}{g:Option (Nat×Bool)}{ops:Array Oper}{tail l:List Oper}{op:Op}{r:AV}(ho:∀ mem,mem[j]? =some (.box T c)->bH P ⟨d,op,ty,pos,af,g⟩ e mem r)(hg:Gd ops ⟨d,op,ty,pos,af,g⟩ e)(hd:dV N d=true)(h:rE lb ys j T P N ops tail Q b i c l (aT e d r)):rE lb ys j T P N ops tail Q b i c (⟨d,op,ty,pos,af,g⟩::l) e:=⟨r,.inl ⟨hg,ho⟩,h⟩
theorem CC{mem:List Ob}(hm:mem[j]? =some (.box T c)){ops:Array Oper}{tail:List Oper}:∀ {l:List Oper} {e:Nat->AV},rE lb ys j T P N ops tail Q b i c l e-> ∃ rs,rs.length=l.length/\wL P ops mem l e rs/\JL lb ys j T P N ops tail Q (fc l e rs) b i c
 | [],e,h=>⟨[],rfl,rfl,h⟩
 | o::l,e,⟨r,h1,h2⟩=>by
  obtain⟨rs,h3,h4,h5⟩:=CC hm h2;exact⟨r::rs,by simp [h3],⟨r,rs,rfl,h1.imp (λh=>⟨h.1,h.2 mem hm⟩) id,h4⟩,h5⟩
theorem O0{id:Nat}{l:List Oper}(n:Nat)(hm:P.follows .mixedOrders =true)(hd:jr l=true)(hB:fV l.toArray n=true)(hE:gy l (l.take n) 0 N=true)(h:rE lb ys j T P N l.toArray (l.drop n) Q b i c (l.take n) e):JW lb ys j T P N (.region id l.toArray true) Q e b i c:=by
 intro pb w0 J X hJ hY θ mem a w hf0 hmj hj;have hf:=hf0.1;obtain⟨rs,h1,h2,h3⟩:=CC hmj h;refine wpIn_region_any hm ?_;have hn:n<=l.length:=by
  simp only [fV,SS,decide_eq_true_eq]at hB
  simpa using hB.1.1.1.2
 have hlen:rs.length=n:=by rw [h1];simp;omega
 have hsz:((l.take n).map (·.dst)).all (λd=>dV N d)=true:=by
  have key:∀ (m:List Oper) (k:Nat),gy l m k N=true->(m.map (·.dst)).all (λd=>dV N d)=true:=by
   intro m
   induction m with
   | nil=>intro _ _;rfl
   | cons o m ih=>
    intro k hk;simp only [gy,SS]at hk;simp only [TC,Um,SS];refine⟨?_,ih _ hk.2⟩;have:=hk.1.1;cases hd:o.dst with
    | none=>rfl
    | some d=>rw [hd]at this;simp only [SS]at this;exact this.1
  exact key _ _ hE
 have hfit0:∀ V,Fits l rs V e (λt=>a.tmps.getD t undef) 0 e (λt=>a.tmps.getD t undef):=λV t=>.inr ⟨λj o hj _=>absurd hj (Ut _),rfl,rfl⟩
 have hex:∀ k c,((rs.map (nt θ (aP pb θ mem))).getD k SF.any).ex ≠some c:=by
  intro k c hc;rw [SO,SU]at hc;cases hr:rs[k]? with
  | none=>rw [hr]at hc;cases hc
  | some r=>rw [hr]at hc;cases hc
 have hval:∀ V,val (rs.map (nt θ (aP pb θ mem))) V=V:=λV=>qU λk c hc=>absurd hc (hex k c)
 refine Jw n (rs.map (nt θ (aP pb θ mem))) ((l.take n).map (·.dst)) hd hB (by rw [hf.size];exact hE) rfl (λV e0 he0=>?_) (λV w' hx hft=>?_)
 ·rw [hval];have he:e0=λt=>a.tmps.getD t undef:=funext he0
  subst he;exact xd hB hf.sim hf.sl hn hlen rfl rfl h2 (hfit0 V)
 ·rw [hval]at hft ⊢;obtain⟨a1,a2,a3⟩:=oW V N ((l.take n).map (·.dst)) 0 a hf.size hsz;have hfit:=si (l:=l) (rs:=rs) (V:=V) (e0:=e) (v0:=λt=>a.tmps.getD t undef) hn hlen rfl rfl (hfit0 V) (S8 _);refine h3 pb w0 J X hJ hY θ mem _ w' ⟨⟨a1,by rw [a2];exact hf.dfr.step (Step.ext hf.sim hx),λt=>?_,hf.sim.ext' hx⟩,by rw [a2];exact hf0.2⟩ hmj (hJ.1 _ _ _ _ _ _ _ hf.sim hj hx);rw [a3 t];simp only [Uu]at hfit;rcases hfit t with⟨j,o,r,b1,b2,b3,b4,b5,b6⟩|⟨b1,b2,b3⟩
  ·rw [b5,b6];have hF:=xc b1 hft;unfold Fs at hF;rw [SO,SU,b4]at hF;exact hF
  ·rw [b2,b3];exact(hf.sl t).ext hx
end
def zW(n:Nat):mr:=λx _ b i _=>(x= .normal \/x= .ret)/\(b=true->i=n)
theorem Qy{n:Nat}{e:Nat->AV}{b:Bool}{i:Nat}{c:List AV}(h:b=true->i=n):zW n .normal e b i c:=⟨.inl rfl,h⟩
theorem F7{n:Nat}{e:Nat->AV}{b:Bool}{i:Nat}{c:List AV}(h:b=true->i=n):zW n .ret e b i c:=⟨.inr rfl,h⟩
theorem O1{P:Program}{f:FuncId}{fn:Func}{cd:Code}{l m:List AV}{j:Nat}{T:TypeId}{c0:List AV}{ys:List (List AV)}(N:Nat)(hf:P.funcs[f]? =some fn)(hb:fn.body=some cd)(hn:fn.ntmps=N)(hN:l.length+1+m.length<=N)(hres:∀ tmps w,∃ v,(results fn tmps).run P w= .ok v w)
 (hA:∀ lb e,(∀ (t:Nat) (a:AV),(l++ .v (.func (.yield lb) #[] #[])::m)[t]? =some a->al e (.tmp t)=a)->JW lb ys j T P N cd (zW ys.length) e true 0 c0):zC P f l m j T c0 ys:=by
 subst hn;intro lb pb w0 θ mem w vs us J X hvl hul hvr hur hJ hY hd0 hs hmj hj;obtain⟨as,has⟩:∃ as,as=l++ .v (.func (.yield lb) #[] #[])::m:=⟨_,rfl⟩;obtain⟨zs,hzs⟩:∃ zs,zs=vs++ .func (.yield lb) #[] #[]::us:=⟨_,rfl⟩;have hlen:zs.length=as.length:=by rw [has,hzs];simp [hvl,hul]
 have hasl:as.length=l.length+1+m.length:=by rw [has];simp;omega
 have hR:∀ (t:Nat) (a:AV) (x:Value),as[t]? =some a->zs[t]? =some x->R1 θ (aP pb θ mem) w a x:=by
  intro t a x ha hx;rw [has]at ha;rw [hzs]at hx
  by_cases h1:t<l.length
  ·rw [SX h1]at ha;rw [SX ah]at hx;exact hvr t a x ha hx
  ·rw [S1 ah]at ha;rw [S1 ah,hvl]at hx;cases hk:t - l.length with
   | zero=>rw [hk]at ha hx;simp at ha hx;subst ha hx;exact .ro (.v _)
   | succ k=>rw [hk]at ha hx;exact hur k a x (by simpa using ha) (by simpa using hx)
 rw [<- hzs];refine callsIn_of_wp hf hb trivial (wpIn_mono (hA lb (λt=>as.getD t (.v undef)) (λt a ha=>by rw [<- has]at ha;show as.getD t _=a;rw [SO,ha];rfl) pb w0 J X hJ hY θ mem {tmps:=zs.toArray++Array.replicate (fn.ntmps - zs.toArray.size) undef,defers:= []} w ⟨⟨?_,⟨[],(by show([]:List Deferred)= []++w0.ds;rw [hd0];rfl),ij.nil _ _ _⟩,λt=>?_,hs⟩,rfl⟩ hmj hj) ?_) rfl
 ·simp;omega
 ·show R1 _ _ _ (as.getD t (.v undef)) ((zs.toArray++Array.replicate (fn.ntmps - zs.toArray.size) undef).getD t undef)
  by_cases ht:t<as.length
  ·have e1:as.getD t (.v undef)=as[t]:=by simp [SO,ht]
   have ht':t<zs.length:=by omega
   have e2:(zs.toArray++Array.replicate (fn.ntmps - zs.toArray.size) undef).getD t undef=zs[t]:=by
    rw [S3,Up nU];simp [ht']
   rw [e1,e2];exact hR t _ _ (SQ ht) (SQ ht')
  ·have e1:as.getD t (.v undef)= .v undef:=by simp [SO,S5 (Ug ht)]
   have e2:(zs.toArray++Array.replicate (fn.ntmps - zs.toArray.size) undef).getD t undef=undef:=by
    rw [S3,Ur cZ]
    by_cases h3:t - zs.length<fn.ntmps - zs.length
    ·simp [h3]
    ·simp [h3]
   rw [e1,e2];exact .ro (.v _)
 ·rintro x a w' (⟨e,b,i,c,θ',mem',hf',hm',hj',hx,hbi⟩|⟨ch,rfl,h1,h2⟩)
  ·obtain⟨v,hv⟩:=hres a.tmps w';rcases hx with rfl|rfl
   ·exact⟨hf'.2,v,hv,.inl ⟨⟨v,rfl⟩,b,i,c,θ',mem',hf'.1.sim,hm',hj',hbi⟩⟩
   ·exact⟨hf'.2,v,hv,.inl ⟨⟨v,rfl⟩,b,i,c,θ',mem',hf'.1.sim,hm',hj',hbi⟩⟩
  ·exact⟨h1,.inr ⟨ch,rfl,h2⟩⟩
end Go.Proofs.YtfoaiidcfkmneaaGreatDoor
