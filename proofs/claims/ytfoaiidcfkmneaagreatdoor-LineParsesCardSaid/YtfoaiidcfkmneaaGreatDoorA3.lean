/- Lemmas for the statement. -/
import Derived.Test.YtfoaiidcfkmneaaGreatDoorA2
set_option linter.unusedSimpArgs false
namespace Go.Proofs.YtfoaiidcfkmneaaGreatDoor
open Go Go.RowKit
set_option linter.unusedVariables false
section
variable {M:Mode} {P:Program} {N:Nat} {Q:AQ} {mem:List Ob} {ops:Array Oper} {tail:List Oper}
def DS(P:Program)(N:Nat)(ops:Array Oper)(tail:List Oper)(Q:AQ)(mem:List Ob):List Oper->(Nat->AV)->Prop
 | [],e=>AL P N ops tail Q e mem
 | o::l,e=>∃ r,((Gd ops o e/\bH P o e mem r)\/(Ng ops o e/\r= .v undef))/\DS P N ops tail Q mem l (aT e o.dst r)
theorem dE{e:Nat->AV}(h:AL P N ops tail Q e mem):DS P N ops tail Q mem [] e:=h
theorem GR{e:Nat->AV}{o:Oper}{l:List Oper}{r:AV}(ho:bH P o e mem r)(hg:Gd ops o e)(_hd:dV N o.dst=true)(h:DS P N ops tail Q mem l (aT e o.dst r)):DS P N ops tail Q mem (o::l) e:=⟨r,.inl ⟨hg,ho⟩,h⟩
theorem OD{e:Nat->AV}{o:Oper}{l:List Oper}(hg:Ng ops o e)(_hd:dV N o.dst=true)(h:DS P N ops tail Q mem l (aT e o.dst (.v undef))):DS P N ops tail Q mem (o::l) e:=⟨_,.inr ⟨hg,rfl⟩,h⟩
def nt(θ:List Value)(pr:Nat->Prop)(a:AV):SF:=⟨λv w=>R1 θ pr w a v,none,λ_ _ _ hx h=>h.ext hx,λ_ _ _ _ h=>by cases h⟩
def wL(P:Program)(ops:Array Oper)(mem:List Ob):List Oper->(Nat->AV)->List AV->Prop
 | [],_,rs=>rs= []
 | o::l,e,rs=>∃ r rs',rs=r::rs'/\((Gd ops o e/\bH P o e mem r)\/(Ng ops o e/\r= .v undef))/\wL P ops mem l (aT e o.dst r) rs'
def fc:List Oper->(Nat->AV)->List AV->(Nat->AV)
 | o::l,e,r::rs=>fc l (aT e o.dst r) rs
 | _,e,_=>e
theorem ED:∀ {l:List Oper} {e:Nat->AV},DS P N ops tail Q mem l e-> ∃ rs,rs.length=l.length/\wL P ops mem l e rs/\AL P N ops tail Q (fc l e rs) mem
 | [],e,h=>⟨[],rfl,rfl,h⟩
 | o::l,e,⟨r,h1,h2⟩=>by
  obtain⟨rs,h3,h4,h5⟩:=ED h2;exact⟨r::rs,by simp [h3],⟨r,rs,rfl,h1,h4⟩,h5⟩
def tf(V:Nat->Value):List (Option Tmp)->Nat->(Nat->Value)->(Nat->Value)
 | [],_,e=>e
 | d::l,k,e=>tf V l (k+1) (jQ e d (V k))
def Fits(ops:List Oper)(rs:List AV)(V:Nat->Value)(e0:Nat->AV)(v0:Nat->Value)(k:Nat)(e:Nat->AV)(ev:Nat->Value):Prop:=
 ∀ t,(∃ j o a,j<k/\ops[j]? =some o/\o.dst=some t/\rs[j]? =some a/\e t=a/\ev t=V j)\/((∀ j o,j<k->ops[j]? =some o->o.dst≠some t)/\e t=e0 t/\ev t=v0 t)
theorem Fits.step{ops:List Oper}{rs:List AV}{V:Nat->Value}{e0:Nat->AV}{v0:Nat->Value}{k:Nat}{e:Nat->AV}{ev:Nat->Value}(h:Fits ops rs V e0 v0 k e ev){o:Oper}{r:AV}(ho:ops[k]? =some o)(hr:rs[k]? =some r):
 Fits ops rs V e0 v0 (k+1) (aT e o.dst r) (jQ ev o.dst (V k)):=by
 intro t
 by_cases ht:o.dst=some t
 ·refine .inl ⟨k,o,r,ah,ho,ht,hr,?_,?_⟩
  ·rw [ht];simp [aT]
  ·rw [ht];simp [jQ]
 ·have e1:aT e o.dst r t=e t:=by
   cases hd:o.dst with
   | none=>rfl
   | some d=>simp only [aT];rw [if_neg (λe=>ht (by rw [hd,e]))]
  have e2:jQ ev o.dst (V k) t=ev t:=by
   cases hd:o.dst with
   | none=>rfl
   | some d=>simp only [jQ];rw [if_neg (λe=>ht (by rw [hd,e]))]
  rw [e1,e2];rcases h t with⟨j,o',a,h1,h2,h3,h4,h5,h6⟩|⟨h1,h2,h3⟩
  ·exact .inl ⟨j,o',a,ah,h2,h3,h4,h5,h6⟩
  ·refine .inr ⟨λj o' hj ho'=>?_,h2,h3⟩
   by_cases hjk:j=k
   ·subst hjk;rw [ho]at ho';cases ho';exact ht
   ·exact h1 j o' ah ho'
theorem uj{l:List Oper}{n:Nat}(h:fV l.toArray n=true){i:Nat}{o:Oper}(hi:i<n)(ho:l[i]? =some o):
 vJ o i=true/\(∀ g b,o.guard=some (g,b)->fC o g=true)/\ ∀ k t,k<n->(l[k]?).bind (·.dst)=some t->((o.looksAt l.toArray).contains t=true->(k<i/\fC o k=true)\/(i<k/\nZ l.toArray k i=true))/\(k=i\/o.dst≠some t):=by
 simp only [fV,SS]at h;obtain⟨⟨⟨⟨_,_⟩,h1⟩,_⟩,_⟩:=h;have h2:=Td.1 h1 i (T0.2 hi);have e:∀ i:Nat,l.toArray[i]? =l[i]? :=λi=>by simp
 rw [e,ho]at h2;simp only [SS]at h2;obtain⟨⟨h2,h3⟩,h4⟩:=h2;refine⟨h2,λg b hg=>by rw [hg]at h3;exact h3,λk t hk ht=>?_⟩;have:=Td.1 h4 k (T0.2 hk);rw [e,ht]at this;simp only [SS,TJ,Tz,decide_eq_true_eq,beq_iff_eq,bne_iff_ne,ne_eq]at this;exact⟨λhc=>by
  rcases this.1 with(h|h)|h
  ·exact absurd h (by rw [hc];simp)
  ·exact .inl h
  ·exact .inr h,this.2⟩
theorem Lr{o:Oper}{k i:Nat}(h:fC o k=true)(he:vJ o i=true):k<i:=by
 unfold fC at h;rw [T8]at h;obtain⟨e,h1,h2⟩:=h;unfold vJ at he;have:=Td.1 he e h1;simp only [SS,beq_iff_eq,TJ,Tz,decide_eq_true_eq]at h2 this;rcases this with h3|h3
 ·rw [h2.2]at h3;cases h3
 ·omega
theorem IF{F:Nat->Value->World->Prop}{V:Nat->Value}{w:World}{o:Oper}{k:Nat}(h:fC o k=true)(hf:mQ F V w o.after.toList):F k (V k) w:=by
 refine AH k ?_ hf;unfold fC at h;rw [T8]at h ⊢;obtain⟨e,h1,h2⟩:=h;exact⟨e,h1,by rw [Bool.and_comm];exact h2⟩
theorem xd{pb:Nat->Prop}{w0:Bs}{w1:World}{θ:List Value}{l:List Oper}{n:Nat}{rs:List AV}{V:Nat->Value}{e0:Nat->AV}{v0:Nat->Value}(hB:fV l.toArray n=true)(hs:cr pb w0 w1 θ mem)(h0:∀ t,R1 θ (aP pb θ mem) w1 (e0 t) (v0 t))(hn:n<=l.length)(hlen:rs.length=n):
 ∀ {m:List Oper} {k:Nat} {e:Nat->AV} {ev:Nat->Value} {rs':List AV},(l.take n).drop k=m->rs.drop k=rs'->wL P l.toArray mem m e rs'->Fits l rs V e0 v0 k e ev->
  sM P w1 (Fs (rs.map (nt θ (aP pb θ mem)))) V m k ev
 | [],_,_,_,_,_,_,_,_=>trivial
 | o::m,k,e,ev,rs',hm,hrs,hd,hfit=>by
  obtain⟨r,rs'',rfl,h1,h2⟩:=hd;have hk:k<n:=by
   rcases Tf k n with h|h
   ·exact h
   ·rw [Ue cZ]at hm;cases hm
  have hok:l[k]? =some o:=by
   have:((l.take n).drop k)[0]? =some o:=by rw [hm];rfl
   rw [Tj,TO ah]at this
   simpa using this
  have hrk:rs[k]? =some r:=by
   have:(rs.drop k)[0]? =some r:=by rw [hrs];rfl
   rw [Tj]at this
   simpa using this
  have hFk:Fs (rs.map (nt θ (aP pb θ mem))) k=λv w=>R1 θ (aP pb θ mem) w r v:=by
   unfold Fs;rw [SO,SU,hrk];rfl
  obtain⟨hedge,hgw,hlk⟩:=uj hB hk hok
  -- a slot that the operation looks at
  have slot:∀ w,Ext w1 w->mQ (Fs (rs.map (nt θ (aP pb θ mem)))) V w o.after.toList-> ∀ t,(o.looksAt l.toArray).contains t=true->R1 θ (aP pb θ mem) w (e t) (ev t):=by
   intro w hx hf t ht;rcases hfit t with⟨j,o',a,a1,a2,a3,a4,a5,a6⟩|⟨a1,a2,a3⟩
   ·have hjn:j<n:=by omega
    have:=((hlk j t hjn (by rw [a2];exact a3)).1 ht).resolve_right (λh=>absurd h.1 ah);have hF:=IF this.2 hf;rw [a5,a6];unfold Fs at hF;rw [SO,SU,a4]at hF;exact hF
   ·rw [a2,a3];exact(h0 t).ext hx
  refine⟨λw hx hf=>?_,?_⟩
  ·rw [hFk];have hguard:∀ (g:Nat) (b:Bool),o.guard=some (g,b)-> ∀ d,(l.toArray[g]?).bind (·.dst)=some d-> ∀ q,e d= .v q->V g=q:=by
    intro g b hg d hd q hq;have ht:(o.looksAt l.toArray).contains d=true:=oO hg hd;have hv:=slot w hx hf d ht;rw [hq]at hv;have hd':(l[g]?).bind (·.dst)=some d:=by simpa using hd
    have hgk:g<k:=Lr (hgw g b hg) hedge;obtain⟨og,h3⟩:∃ og,l[g]? =some og:=⟨l[g]' ah,SQ _⟩;have h3d:og.dst=some d:=by rw [h3]at hd';exact hd'
    rcases hfit d with⟨j,o',a,a1,a2,a3,a4,a5,a6⟩|⟨a1,a2,a3⟩
    ·have hjg:g=j:=((uj hB ah a2).2.2 g d ah hd').2.resolve_right (λh=>h a3);subst hjg;rw [<- a6];exact hv.val
    ·exact absurd h3d (a1 g og hgk h3)
   rcases h1 with⟨h1,h3⟩|⟨h1,h3⟩
   ·have hgd:pB V o=true:=by
     unfold pB;unfold Gd at h1;cases hg:o.guard with
     | none=>rfl
     | some q=>
      obtain⟨g,b⟩:=q;rw [hg]at h1;obtain⟨d,h4,h5⟩:=h1;simp [hguard g b hg d h4 (.bool b) h5]
    rw [if_pos hgd];refine dt.mono (λv w' ⟨h4,h5⟩=>⟨h4,h5⟩) (h3 pb w0 θ w ev (hs.ext' hx) λx hxm=>?_);cases x with
    | tmp t=>exact slot w hx hf t (qm hxm)
    | const v=>exact .ro (.v v)
    | global g=>exact .ro (.v _)
    | func f=>exact .ro (.v _)
   ·have hgd:pB V o=false:=by
     unfold pB;unfold Ng at h1;cases hg:o.guard with
     | none=>rw [hg]at h1;exact h1.elim
     | some q=>
      obtain⟨g,b⟩:=q;rw [hg]at h1;obtain⟨d,h4,h5⟩:=h1;rcases h5 with h5|h5
      ·simp [hguard g b hg d h4 (.bool (!b)) h5]
      ·simp [hguard g b hg d h4 undef h5,undef]
    rw [if_neg (by rw [hgd];exact UR),h3];exact .ro (.v undef)
  ·refine xd hB hs h0 hn hlen (by rw [<- Uf,hm];rfl) (by rw [<- Uf,hrs];rfl) h2 (hfit.step hok hrk)
theorem si{l:List Oper}{n:Nat}{rs:List AV}{V:Nat->Value}{e0:Nat->AV}{v0:Nat->Value}(hn:n<=l.length)(hlen:rs.length=n):∀ {m:List Oper} {k:Nat} {e:Nat->AV} {ev:Nat->Value} {rs':List AV},(l.take n).drop k=m->rs.drop k=rs'->Fits l rs V e0 v0 k e ev->k<=n->
 Fits l rs V e0 v0 n (fc m e rs') (tf V (m.map (·.dst)) k ev)
 | [],k,e,ev,rs',hm,hrs,hfit,hkn=>by
  have:n<=k:=by
   have:=congrArg List.length hm;simp at this;omega
  obtain rfl:k=n:=by omega
  simpa [fc,tf]using hfit
 | o::m,k,e,ev,rs',hm,hrs,hfit,hkn=>by
  have hk:k<n:=by
   rcases Tf k n with h|h
   ·exact h
   ·rw [Ue cZ]at hm;cases hm
  have hok:l[k]? =some o:=by
   have:((l.take n).drop k)[0]? =some o:=by rw [hm];rfl
   rw [Tj,TO ah]at this
   simpa using this
  obtain⟨r,rs'',rfl⟩:∃ r rs'',rs'=r::rs'':=by
   rw [<- hrs,TU ah];exact⟨_,_,rfl⟩
  have hrk:rs[k]? =some r:=by
   have:(rs.drop k)[0]? =some r:=by rw [hrs];rfl
   rw [Tj]at this
   simpa using this
  have:=si hn hlen (m:=m) (k:=k+1) (rs':=rs'') (by rw [<- Uf,hm];rfl) (by rw [<- Uf,hrs];rfl) (hfit.step hok hrk) ah;exact this
theorem oW(V:Nat->Value)(N:Nat):∀ (ds:List (Option Tmp)) (k:Nat) (a:Act),a.tmps.size=N->(ds.all λd=>dV N d)=true->
 (oq V ds k a).tmps.size =N/\(oq V ds k a).defers =a.defers/\ ∀ t,(oq V ds k a).tmps.getD t undef=tf V ds k (λt=>a.tmps.getD t undef) t
 | [],k,a,hs,_=>⟨hs,rfl,λ_=>rfl⟩
 | d::ds,k,a,hs,hd=>by
  simp only [Um,SS]at hd;have hput:(λt=>(a.put d (V k)).tmps.getD t undef)=jQ (λt=>a.tmps.getD t undef) d (V k):=by
   funext t
   cases d with
   | none=>rfl
   | some d=>
    have hlt:d<N:=by simpa [dV]using hd.1
    by_cases ht:t=d
    ·subst ht;simp [jQ,Act.put,S3,hs,hlt]
    ·simp only [jQ,Act.put,if_neg ht];rw [S3,Uy (λh=>ht h.symm), <- S3]
  obtain⟨h1,h2,h3⟩:=oW V N ds (k+1) (a.put d (V k)) (by cases d<;>simp [Act.put,hs]) hd.2;refine⟨h1,h2.trans (by cases d<;>rfl),λt=>?_⟩
  show(oq V ds (k+1) (a.put d (V k))).tmps.getD t undef=tf V ds (k+1) (jQ (λt=>a.tmps.getD t undef) d (V k)) t
  rw [h3 t,hput]
theorem OE{a0:Act}{w0:World}{l:List Oper}{Q:Exit->Act->World->Prop}(n:Nat)(Fl:List SF)(ds:List (Option Tmp))
 (hB:fV l.toArray n=true)(hE:gy l (l.take n) 0 a0.tmps.size=true)(hds:(l.take n).map (·.dst)=ds)
 (steps:∀ V e0,(∀ t,e0 t=a0.tmps.getD t undef)->sM P w0 (Fs Fl) (val Fl V) (l.take n) 0 e0)
 (tail:∀ V w,Ext w0 w->pg (Fs Fl) (val Fl V) w n->wpList P l.toArray Q (l.drop n) (oq (val Fl V) ds 0 a0) w):wpAny P .any l.toArray Q l.toArray.size (Array.replicate l.toArray.size false) a0 {w0 with drawn:=w0.drawn+1}:=
 Ot n (λ_=>Ext w0) (Fs Fl) (λk=>(Fl.getD k SF.any).ex) hB (Ext.one w0) (λk v w h c hc=>(Fl.getD k SF.any).law v w h c hc)
  (λV hV=>wW (by
   have:=wZ (ops:=l) (r:=l.drop n) hE rfl (λ_=>rfl) aL (λ_ _ h=>absurd h (Ut _)) (steps V (λt=>a0.tmps.getD t undef) (λ_=>rfl))
   rwa [qU hV]at this))
  (λV w hV hw hf=>by have:=tail V w hw;rw [qU hV]at this;rw [oV,hds];exact this hf)
theorem eu{id:Nat}{l:List Oper}{e:Nat->AV}(n:Nat)(hm:P.follows .mixedOrders =true)(hd:jr l=true)(hB:fV l.toArray n=true)(hE:gy l (l.take n) 0 N=true)(h:DS P N l.toArray (l.drop n) Q mem (l.take n) e):AW M P N (.region id l.toArray true) Q e mem:=by
 refine zq hm hd λpb w0 θ a w hf=>?_
 obtain⟨rs,h1,h2,h3⟩:=ED h;have hn:n<=l.length:=by
  simp only [fV,SS,decide_eq_true_eq]at hB
  simpa using hB.1.1.1.2
 have hlen:rs.length=n:=by rw [h1];simp;omega
 have hsz:((l.take n).map (·.dst)).all (λd=>dV N d)=true:=by
  have key:∀ (m:List Oper) (k:Nat),gy l m k N=true->(m.map (·.dst)).all (λd=>dV N d)=true:=by
   intro m
   induction m with
   | nil=>intro _ _;rfl
   | cons o m ih=>
    intro k hk;simp only [gy,SS]at hk;simp only [TC,Um,SS];refine⟨?_,ih _ hk.2⟩;have:=hk.1.1;cases hd:o.dst with
    | none=>rfl
    | some d=>rw [hd]at this;simp only [SS]at this;exact this.1
  exact key _ _ hE
 have hfit0:∀ V,Fits l rs V e (λt=>a.tmps.getD t undef) 0 e (λt=>a.tmps.getD t undef):=λV t=>.inr ⟨λj o hj _=>absurd hj (Ut _),rfl,rfl⟩
 have hex:∀ k c,((rs.map (nt θ (aP pb θ mem))).getD k SF.any).ex ≠some c:=by
  intro k c hc;rw [SO,SU]at hc;cases hr:rs[k]? with
  | none=>rw [hr]at hc;cases hc
  | some r=>rw [hr]at hc;cases hc
 have hval:∀ V,val (rs.map (nt θ (aP pb θ mem))) V=V:=λV=>qU λk c hc=>absurd hc (hex k c)
 refine OE n (rs.map (nt θ (aP pb θ mem))) ((l.take n).map (·.dst)) hB (by rw [hf.size];exact hE) rfl (λV e0 he0=>?_) (λV w' hx hft=>?_)
 ·rw [hval];have he:e0=λt=>a.tmps.getD t undef:=funext he0
  subst he;exact xd hB hf.sim hf.sl hn hlen rfl rfl h2 (hfit0 V)
 ·rw [hval]at hft ⊢;obtain⟨a1,a2,a3⟩:=oW V N ((l.take n).map (·.dst)) 0 a hf.size hsz;have hfit:=si (l:=l) (rs:=rs) (V:=V) (e0:=e) (v0:=λt=>a.tmps.getD t undef) hn hlen rfl rfl (hfit0 V) (S8 _);refine kS (λ_ _ _ hq=>hq.after (Step.ext hf.sim hx)) (h3 pb w0 θ _ w' ⟨a1,by rw [a2];exact hf.dfr.step (Step.ext hf.sim hx),λt=>?_,hf.sim.ext' hx⟩);rw [a3 t];simp only [Uu]at hfit;rcases hfit t with⟨j,o,r,b1,b2,b3,b4,b5,b6⟩|⟨b1,b2,b3⟩
  ·rw [b5,b6];have hF:=xc b1 hft;unfold Fs at hF;rw [SO,SU,b4]at hF;exact hF
  ·rw [b2,b3];exact(hf.sl t).ext hx
end
end Go.Proofs.YtfoaiidcfkmneaaGreatDoor
