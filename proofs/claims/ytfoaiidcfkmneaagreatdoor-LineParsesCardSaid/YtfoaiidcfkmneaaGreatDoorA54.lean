/- Lemmas for the statement. -/
import Derived.Test.YtfoaiidcfkmneaaGreatDoorA53
import Derived.Test.YtfoaiidcfkmneaaGreatDoorA12
namespace Go.Proofs.YtfoaiidcfkmneaaGreatDoor
open Go Go.RowKit Go.Proofs
set_option linter.unusedSimpArgs false
set_option linter.unusedVariables false
def fU(P:Program)(o:Oper)(e:Nat->AV)(mem:List Ob)(Ψ:AV->List Ob->Prop)(χ:Value->List Ob->Prop):Prop:=
 ∀ (pb:Nat->Prop) (w0:Bs) (θ:List Value) (w:World) (ev:Nat->Value),cr pb w0 w θ mem->(∀ x∈o.op.operands,R1 θ (aP pb θ mem) w (al e x) (aZ ev x))->
  hH P (λch w'=>∃ v mem' θ',ch= [{v:=v,recovered:=false}]/\χ v mem'/\Step pb w0 θ mem w θ' mem' w') (λv w'=>∃ r mem' θ',Ψ r mem'/\R1 θ' (aP pb θ' mem') w' r v/\Step pb w0 θ mem w θ' mem' w') ((execOp (aZ ev) o).run P w)
section
variable {M:Mode} {P:Program} {N:Nat} {Q:AQ} {e:Nat->AV} {mem:List Ob} {l:List Oper} {d:Option Tmp} {ty t t2:TypeId} {pos:String} {af:Array Edge} {g:Option (Nat×Bool)} {x y z:Operand}
theorem fq.ki{o:Oper}{r:AV}{mem':List Ob}{Ψ:AV->List Ob->Prop}{χ:Value->List Ob->Prop}(h:fq P o e mem r mem')(hΨ:Ψ r mem'):fU P o e mem Ψ χ:=λpb w0 θ w ev hs hx=>
 (dt.mono (λ_ _ ⟨θ',h1,h2⟩=>⟨r,mem',θ',hΨ,h1,h2⟩) (h pb w0 θ w ev hs hx)).Hq
theorem bH.ki{o:Oper}{r:AV}{Ψ:AV->List Ob->Prop}{χ:Value->List Ob->Prop}(h:bH P o e mem r)(hΨ:Ψ r mem):fU P o e mem Ψ χ:=h.st.ki hΨ
theorem fU.mono{o:Oper}{Ψ Ψ':AV->List Ob->Prop}{χ:Value->List Ob->Prop}(h:fU P o e mem Ψ χ)(hm:∀ r m,Ψ r m->Ψ' r m):fU P o e mem Ψ' χ:=λpb w0 θ w ev hs hx=>
 hH.mono (λ_ _ ⟨r,mem',θ',h1,h2⟩=>⟨r,mem',θ',hm _ _ h1,h2⟩) (h pb w0 θ w ev hs hx)
theorem EY{f:FuncId}{as:Array Operand}{tys:Array TypeId}{args:List AV}{ψ:AV->List Ob->Prop}{χ:Value->List Ob->Prop}(hc:ew P f args mem ψ χ)(hargs:dc e as.toList=args)(eH:∀ args w,(callFunc f args).run P w= .ok (.enter f args) w):
 fU P ⟨d,.call ⟨.value (.func f),as,tys⟩,ty,pos,af,g⟩ e mem ψ χ:=by
 intro pb w0 θ w ev hs h;have hvs:(as.toList.map (aZ ev)).length =args.length:=by rw [<- hargs];simp [dc]
 rw [ly (f:=.func (.func f) #[] #[]) rfl rfl];have e2:((do let q <- Deferred.ofValue (.func (.func f) #[] #[]) (as.toList.map (aZ ev)).toArray;invoke q.target q.args:Sem Next).run P w)= .ok (.enter f (as.toList.map (aZ ev)).toArray) w:=by
  simp [Deferred.ofValue,invoke,eH]
 rw [e2];refine(hc pb w θ _ (all_in hs) hvs λi a v ha hv=>?_).mono ?_
 ·rw [SU]at hv;rw [<- hargs,dc,SU]at ha;cases hx:as.toList[i]? with
  | none=>rw [hx]at hv;cases hv
  | some x=>
   rw [hx]at hv ha;cases ha;cases hv;have hmem:x∈as:=by have:=S9 hx;simpa using this
   exact h x nT
 ·rintro en w' ⟨θ',mem',hst,⟨r,v,rfl,h3,h4⟩|⟨v,rfl,h4⟩⟩
  ·exact .inl ⟨v,rfl,r,mem',θ',h4,h3,nM hs hst⟩
  ·exact .inr ⟨_,rfl,v,mem',θ',rfl,h4,nM hs hst⟩
theorem hH.Rw{X X':List PanicEntry->World->Prop}{φ φ':Value->World->Prop}{r:Result Next}(hx:∀ ch w,X ch w->X' ch w)(hm:∀ v w,φ v w->φ' v w)(h:hH P X φ r):hH P X' φ' r:=by
 cases r with
 | ok n w'=>cases n<;>simp only [hH]at h ⊢ <;>first|exact hm _ _ h|exact h.mono λ_ _ hq=>hq.imp (λ⟨u,h1,h2⟩=>⟨u,h1,hm _ _ h2⟩) (λ⟨u,h1,h2⟩=>⟨u,h1,hx _ _ h2⟩)
 | halt x w'=>simp only [hH]at h
theorem xw(V:Nat->Value)(m:Nat->Bool)(N:Nat):∀ (l:List Oper) (k:Nat) (a:Act),(l.map (·.dst)).all (λd=>dV N d)=true->a.tmps.size=N->(cP V m l k a).tmps.size =N/\(cP V m l k a).defers =a.defers
 | [],_,a,_,h=>⟨h,rfl⟩
 | o::l,k,a,hd,h=>by
  simp only [TC,Um,SS]at hd;have hq:∀ v,(a.put o.dst v).tmps.size =N/\(a.put o.dst v).defers =a.defers:=λv=>by cases o.dst<;>simp [Act.put,h]
  show(cP V m l (k+1) (if m k then a.put o.dst (V k)else a)).tmps.size =N/\(cP V m l (k+1) (if m k then a.put o.dst (V k)else a)).defers =a.defers
  split
  ·obtain⟨h1,h2⟩:=xw V m N l (k+1) (a.put o.dst (V k)) hd.2 (hq _).1;exact⟨h1,h2.trans (hq _).2⟩
  ·exact xw V m N l (k+1) a hd.2 h
theorem CE{id:Nat}(S:Type)(n:Nat)(hm:P.follows .mixedOrders =true)(hd:jr l=true)(hB:fV l.toArray n=true)(hE:gy l (l.take n) 0 N=true)
 (rs:S->List AV)(hlen:∀ s,(rs s).length =n)(Rel:(Nat->Bool)->S->List Ob->Prop)(χ:Value->List Ob->Prop)(hX:∀ v M e',χ v M->Q (.panic [{v:=v,recovered:=false}]) e' M)(s0:S)(hr0:Rel (λ_=>false) s0 mem)
 (steps:∀ i o m s M,i<n->l[i]? =some o->m i=false->(∀ ed∈o.after,Region.binds .any ed=true->m ed.on=true)->(∀ k o,m k=true->l[k]? =some o-> ∀ ed∈o.after,Region.binds .any ed=true->m ed.on=true)->Rel m s M->
  Gd l.toArray o (fc (l.take i) e (rs s))/\fU P o (fc (l.take i) e (rs s)) M (λr M'=>∃ s',(rs s')[i]? =some r/\(∀ k x,m k=true->(rs s)[k]? =some x->(rs s')[k]? =some x)/\Rel (λj=>j==i||m j) s' M') χ)
 (tail:∀ s M,Rel (λk=>decide (k<n)) s M->AL P N l.toArray (l.drop n) Q (fc (l.take n) e (rs s)) M):AW M P N (.region id l.toArray true) Q e mem:=by
 refine zq hm hd λpb w0 θ a w hf=>?_
 have hn:n<=l.length:=by
  simp only [fV,SS,decide_eq_true_eq]at hB
  simpa using hB.1.1.1.2
 have hsz:∀ i,i<=n->((l.take i).map (·.dst)).all (λd=>dV N d)=true:=by
  intro i hi;have key:∀ (m:List Oper) (k:Nat),gy l m k N=true->(m.map (·.dst)).all (λd=>dV N d)=true:=by
   intro m
   induction m with
   | nil=>intro _ _;rfl
   | cons o m ih=>
    intro k hk;simp only [gy,SS]at hk;simp only [TC,Um,SS];refine⟨?_,ih _ hk.2⟩;have:=hk.1.1;cases hd:o.dst with
    | none=>rfl
    | some d=>rw [hd]at this;simp only [SS]at this;exact this.1
  have:=key _ _ hE;rw [Td]at this ⊢;intro d hd;obtain⟨o,ho,rfl⟩:=TG.1 hd;refine this _ (TG.2 ⟨o,?_,rfl⟩);have e1:l.take i=(l.take n).take i:=by rw [TT,TI hi]
  rw [e1]at ho;exact Uc ho
 have fits:∀ s V i,i<=n->Fits l (rs s) V e (λt=>a.tmps.getD t undef) i (fc (l.take i) e (rs s)) (λt=>(dh V (l.take i) 0 a).tmps.getD t undef):=by
  intro s V i hi;have hls:=hlen s;obtain⟨a1,a2,a3⟩:=oW V N ((l.take i).map (·.dst)) 0 a hf.size (hsz i hi);have h0:Fits l ((rs s).take i) V e (λt=>a.tmps.getD t undef) 0 e (λt=>a.tmps.getD t undef):=λt=>.inr ⟨λj o hj _=>absurd hj (Ut _),rfl,rfl⟩
  have hfit:=si (l:=l) (n:=i) (rs:=(rs s).take i) (V:=V) (e0:=e) (v0:=λt=>a.tmps.getD t undef) ah cZ (m:=l.take i) (k:=0) (rs':=(rs s).take i) rfl rfl h0 (S8 _);have e2:∀ (m:List Oper) (rs:List AV) (e:Nat->AV),fc m e (rs.take m.length)=fc m e rs:=by
   intro m
   induction m with
   | nil=>intro rs e;cases rs<;>rfl
   | cons o m ih=>intro rs e;cases rs with
    | nil=>rfl
    | cons r rs=>exact ih rs _
  have e3:(l.take i).length =i:=by simp;omega
  have e4:fc (l.take i) e ((rs s).take i)=fc (l.take i) e (rs s):=by
   have:=e2 (l.take i) (rs s) e;rwa [e3]at this
  intro t;have:=hfit t;rw [e4]at this;rw [oV];simp only [a3 t];rcases this with⟨j,o,x,b1,b2,b3,b4,b5,b6⟩|⟨b1,b2,b3⟩
  ·exact .inl ⟨j,o,x,b1,b2,b3,by rw [TO b1]at b4;exact b4,b5,b6⟩
  ·exact .inr ⟨b1,b2,b3⟩
 let BB:(Nat->Bool)->(Nat->Value)->World->Prop:=λm V w'=>∃ s θ' M,Rel m s M/\Step pb w0 θ mem w θ' M w'/\
  (∀ k x,k<n->m k=true->(rs s)[k]? =some x->R1 θ' (aP pb θ' M) w' x (V k))/\ ∀ k o,m k=true->l[k]? =some o-> ∀ ed∈o.after,Region.binds .any ed=true->m ed.on=true
 refine Bm n BB (λch w'=>∃ v M θ',ch= [{v:=v,recovered:=false}]/\χ v M/\Step pb w0 θ mem w θ' M w') ?_ hB ?_ ?_ ?_
 ·rintro V m ch w' ⟨v,M,θ',rfl,hχ,hst⟩;obtain⟨b1,b2⟩:=xw V m N (l.take n) 0 a (hsz n (SR _)) hf.size;exact⟨λ_=>.any,M,θ',⟨b1,by rw [b2];exact hf.dfr.step hst,λt=>.ro (.any _),hst.sim⟩,hst,hX v M _ hχ⟩
 ·exact⟨s0,θ,mem,hr0,Step.ext hf.sim (Ext.one w),λk x _ hk=>(by cases hk),λk o hk=>(by cases hk)⟩
 ·intro V i o m w1 hin hok hmi hdep ⟨s,θ1,M1,hRel,hst0,hrs,hcl⟩;have hs:=hst0.sim;have h0:∀ t,R1 θ1 (aP pb θ1 M1) w1 (e t) (a.tmps.getD t undef):=λt=>hst0.keep _ _ (hf.sl t)
  have hfit:=fits s V i (Uk hin);obtain⟨hedge,hgw,hlk⟩:=uj hB hin hok;have wt0:∀ {k:Nat},fC o k=true->m k=true:=λ{k} hw=>by
   unfold fC at hw;rw [T8]at hw;obtain⟨ed,he,hk⟩:=hw;simp only [SS,beq_iff_eq]at hk;rw [<- hk.1];exact hdep ed nW hk.2
  have slot:∀ t,(o.looksAt l.toArray).contains t=true->R1 θ1 (aP pb θ1 M1) w1 (fc (l.take i) e (rs s) t) ((dh V (l.take i) 0 a).tmps.getD t undef):=by
   intro t ht;rcases hfit t with⟨j,o',y,a1,a2,a3,a4,a5,a6⟩|⟨a1,a2,a3⟩
   ·have:=((hlk j t ah (by rw [a2];exact a3)).1 ht).resolve_right (λh=>absurd h.1 ah);rw [a5,show(dh V (l.take i) 0 a).tmps.getD t undef=V j from a6];exact hrs j y ah (wt0 this.2) a4
   ·rw [a2,show(dh V (l.take i) 0 a).tmps.getD t undef=a.tmps.getD t undef from a3];exact h0 t
  have opr:∀ y∈o.op.operands,R1 θ1 (aP pb θ1 M1) w1 (al (fc (l.take i) e (rs s)) y) (aZ (λt=>(dh V (l.take i) 0 a).tmps.getD t undef) y):=by
   intro y hym;cases y with
   | tmp t=>exact slot t (qm hym)
   | const v=>exact .ro (.v v)
   | global g=>exact .ro (.v _)
   | func f=>exact .ro (.v _)
  obtain⟨hg,hop⟩:=steps i o m s M1 hin hok hmi hdep hcl hRel;have wtd:Region.wanted o (yielded l.toArray (dh V (l.take i) 0 a).tmps)=true:=by
   unfold Region.wanted;unfold Gd at hg;cases hgd:o.guard with
   | none=>rfl
   | some g=>
    obtain⟨j,b⟩:=g;rw [hgd]at hg;obtain⟨d,g1,g2⟩:=hg;have hv:=slot d (oO hgd g1);rw [show fc (l.take i) e (rs s) d=_ from g2]at hv;simp [rJ g1 hv.val]
  have hcl':∀ k o',(k==i||m k)=true->l[k]? =some o'-> ∀ ed∈o'.after,Region.binds .any ed=true->(ed.on==i||m ed.on)=true:=by
   intro k o' hk ho' ed he hb
   by_cases hki:k=i
   ·subst hki;rw [hok]at ho';cases ho';rw [hdep ed he hb];simp
   ·rw [hcl k o' (by simpa [hki]using hk) ho' ed he hb];simp
  rw [if_pos wtd,gQ];refine hH.Rw (λch w' ⟨v,M',θ',h1,h2,h3⟩=>⟨v,M',θ',h1,h2,hst0.trans h3⟩) (λv w' ⟨r,M',θ',⟨s',h1,h2,h3⟩,h4,h5⟩=>?_) (hop pb w0 θ1 w1 _ hs opr);refine⟨s',θ',M',h3,hst0.trans h5,λk x hk hmk hxk=>?_,hcl'⟩
  by_cases hki:k=i
  ·subst hki;rw [h1]at hxk;cases hxk;simp only [if_true];exact h4
  ·simp only [if_neg hki];have hmk':m k=true:=by simpa [hki]using hmk
   have hlt:k<(rs s).length :=by rw [hlen];exact hk
   have:=h2 k _ hmk' (SQ hlt);rw [hxk]at this;cases this;exact h5.keep _ _ (hrs k _ hk hmk' (SQ hlt))
 ·intro V w' ⟨s,θ1,M1,hRel,hst0,hrs,_⟩;obtain⟨a1,a2,a3⟩:=oW V N ((l.take n).map (·.dst)) 0 a hf.size (hsz n (SR _));rw [<- oV]at a1 a2;have h0:∀ t,R1 θ1 (aP pb θ1 M1) w' (e t) (a.tmps.getD t undef):=λt=>hst0.keep _ _ (hf.sl t)
  refine kS (λ_ _ _ hq=>hq.after hst0) (tail s M1 hRel pb w0 θ1 _ w' ⟨a1,by rw [a2];exact hf.dfr.step hst0,λt=>?_,hst0.sim⟩);rcases fits s V n (SR _) t with⟨j,o,y,b1,b2,b3,b4,b5,b6⟩|⟨b1,b2,b3⟩
  ·rw [b5,show(dh V (l.take n) 0 a).tmps.getD t undef=V j from b6];exact hrs j y b1 (by simpa using b1) b4
  ·rw [b2,show(dh V (l.take n) 0 a).tmps.getD t undef=a.tmps.getD t undef from b3];exact h0 t
end
end Go.Proofs.YtfoaiidcfkmneaaGreatDoor
