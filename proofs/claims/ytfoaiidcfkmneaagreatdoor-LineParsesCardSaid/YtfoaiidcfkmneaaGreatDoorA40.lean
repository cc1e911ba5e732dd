/- Lemmas for the statement. -/
import Derived.Test.YtfoaiidcfkmneaaGreatDoorA16
namespace Go.Proofs.YtfoaiidcfkmneaaGreatDoor
open Go Go.RowKit
set_option linter.unusedVariables false
set_option linter.unusedSimpArgs false
def rn(ρ:Nat->Nat):AV->AV
 | .own j=>.own (ρ j)
 | .ptr j o=>.ptr (ρ j) o
 | .agg l=>.agg (rnL l)
 | .tuple l=>.tuple (rnL l)
 | .clo f l m=>.clo f (rnL l) (rnL m)
 | .any =>.any
 | .v x=>.v x
 | .row k els=>.row k els
 | .ref cells=>.ref cells
 | .emp =>.emp
where rnL:List AV->List AV
 | []=> []
 | a::l=>rn ρ a::rnL l
theorem iw{ρ:Nat->Nat}:∀ l:List AV,(rn.rnL ρ l).length =l.length
 | []=>rfl
 | a::l=>by simp [rn.rnL,iw l]
theorem sn{ρ:Nat->Nat}:∀ (l:List AV) (i:Nat),(rn.rnL ρ l)[i]? =(l[i]?).map (rn ρ)
 | [],i=>by simp [rn.rnL]
 | a::l,0=>by simp [rn.rnL]
 | a::l,i+1=>by simp [rn.rnL,sn l i]
theorem l6{ρ:Nat->Nat}{l:List AV}{i:Nat}{b:AV}(h:(rn.rnL ρ l)[i]? =some b):∃ a,l[i]? =some a/\b=rn ρ a:=by
 rw [sn]at h;cases hq:l[i]? with
 | none=>rw [hq]at h;cases h
 | some a=>rw [hq]at h;cases h;exact⟨a,rfl,rfl⟩
def Ob.rn(ρ:Nat->Nat):Ob->Ob
 | .box t cells=>.box t (rn.rnL ρ cells)
 | .row e k els=>.row e k els
 | .gone =>.gone
 | .rowH e k els=>.rowH e k (els.map (rn.rnL ρ))
 | .mp es=>.mp (es.map λx=>(x.1,Proofs.YtfoaiidcfkmneaaGreatDoor.rn ρ x.2))
 | .bY gs=>.bY gs
theorem xP(ρ:Nat->Nat):∀ els:List (List AV),(els.map (rn.rnL ρ)).flatten =rn.rnL ρ els.flatten
 | []=>rfl
 | l::els=>by
  have:∀ a b:List AV,rn.rnL ρ (a++b)=rn.rnL ρ a++rn.rnL ρ b:=λa b=>by induction a with|nil=>rfl|cons x a ih=>simp [rn.rnL,ih]
  rw [TC,Uh,Uh,this,xP ρ els]
theorem R0.rn{ρ:Nat->Nat}{pr:Nat->Prop}{w:World}{a:AV}{x:Value}(h:R0 pr w a x):R0 pr w (rn ρ a) x:=by
 induction h with
 | any x=>exact .any x
 | v x=>exact .v x
 | nil k c A=>exact .nil k c A
 | emp A=>exact .emp A
 | row k els b o c f h1 h2 h3 h4 h5 h6 h7 _=>exact .row k els b o c f h1 h2 h3 h4 h5 h6 h7
 | ref cells b o f h4 h5 h6 h7 _=>exact .ref cells b o f h4 h5 h6 h7
 | agg l xs h1 _ ih=>exact .agg _ xs qN λi a x ha hx=>by obtain⟨b,hb,rfl⟩:=l6 ha;exact ih i b x hb hx
 | tuple l xs h1 _ ih=>exact .tuple _ xs qN λi a x ha hx=>by obtain⟨b,hb,rfl⟩:=l6 ha;exact ih i b x hb hx
 | clo fn l m xs ys h1 _ h3 _ ih1 ih2=>exact .clo fn _ _ xs ys qN (λi a x ha hx=>by obtain⟨b,hb,rfl⟩:=l6 ha;exact ih1 i b x hb hx) (by rw [iw];exact h3) (λi a x ha hx=>by obtain⟨b,hb,rfl⟩:=l6 ha;exact ih2 i b x hb hx)
theorem R1.rn{ρ:Nat->Nat}{θ θ2:List Value}{pr:Nat->Prop}{w:World}(hθ:∀ (j:Nat) (v:Value),v≠undef->θ[j]? =some v->θ2[ρ j]? =some v){a:AV}{x:Value}(h:R1 θ pr w a x):R1 θ2 pr w (rn ρ a) x:=by
 induction h with
 | ro h=>exact .ro h.rn
 | own j x h h0=>exact .own _ x (hθ j x (u1 h0) h) h0
 | ptr j off b x h h2=>exact .ptr _ off b x (hθ j x (λe=>by rw [e]at h2;cases h2) h) h2
 | agg l xs h1 _ ih=>exact .agg _ xs qN λi a x ha hx=>by obtain⟨b,hb,rfl⟩:=l6 ha;exact ih i b x hb hx
 | tuple l xs h1 _ ih=>exact .tuple _ xs qN λi a x ha hx=>by obtain⟨b,hb,rfl⟩:=l6 ha;exact ih i b x hb hx
 | clo fn l m xs ys h1 _ h3 _ ih1 ih2=>exact .clo fn _ _ xs ys qN (λi a x ha hx=>by obtain⟨b,hb,rfl⟩:=l6 ha;exact ih1 i b x hb hx) (by rw [iw];exact h3) (λi a x ha hx=>by obtain⟨b,hb,rfl⟩:=l6 ha;exact ih2 i b x hb hx)
theorem R0.un{ρ:Nat->Nat}{pr:Nat->Prop}{w:World}{b:AV}{x:Value}(h:R0 pr w b x):∀ a,b=Proofs.YtfoaiidcfkmneaaGreatDoor.rn ρ a->R0 pr w a x:=by
 induction h with
 | any x=>intro a ha;cases a<;>simp [Proofs.YtfoaiidcfkmneaaGreatDoor.rn]at ha;exact .any x
 | v x=>intro a ha;cases a<;>simp [Proofs.YtfoaiidcfkmneaaGreatDoor.rn]at ha;subst ha;exact .v _
 | nil k c A=>intro a ha;cases a<;>simp [Proofs.YtfoaiidcfkmneaaGreatDoor.rn]at ha;obtain⟨rfl,rfl⟩:=ha;exact .nil _ c A
 | emp A=>intro a ha;cases a<;>simp [Proofs.YtfoaiidcfkmneaaGreatDoor.rn]at ha;exact .emp A
 | row k els b o c f h1 h2 h3 h4 h5 h6 h7 _=>intro a ha;cases a<;>simp [Proofs.YtfoaiidcfkmneaaGreatDoor.rn]at ha;obtain⟨rfl,rfl⟩:=ha;exact .row _ _ b o c f h1 h2 h3 h4 h5 h6 h7
 | ref cells b o f h4 h5 h6 h7 _=>intro a ha;cases a<;>simp [Proofs.YtfoaiidcfkmneaaGreatDoor.rn]at ha;subst ha;exact .ref _ b o f h4 h5 h6 h7
 | agg l xs h1 _ ih=>
  intro a ha;cases a<;>simp [Proofs.YtfoaiidcfkmneaaGreatDoor.rn]at ha;subst ha
  exact .agg _ xs (by rw [h1,iw]) λi a x ha hx=>ih i _ x mV hx a rfl
 | tuple l xs h1 _ ih=>
  intro a ha;cases a<;>simp [Proofs.YtfoaiidcfkmneaaGreatDoor.rn]at ha;subst ha
  exact .tuple _ xs (by rw [h1,iw]) λi a x ha hx=>ih i _ x mV hx a rfl
 | clo fn l m xs ys h1 _ h3 _ ih1 ih2=>
  intro a ha;cases a<;>simp [Proofs.YtfoaiidcfkmneaaGreatDoor.rn]at ha;obtain⟨rfl,rfl,rfl⟩:=ha
  exact .clo _ _ _ xs ys (by rw [h1,iw]) (λi a x ha hx=>ih1 i _ x mV hx a rfl) (by rw [h3,iw]) (λi a x ha hx=>ih2 i _ x mV hx a rfl)
theorem R1.un{ρ:Nat->Nat}{θ θ2:List Value}{pr:Nat->Prop}{w:World}(hθ:∀ (j:Nat) (v:Value),v≠undef->θ2[ρ j]? =some v->θ[j]? =some v){b:AV}{x:Value}(h:R1 θ2 pr w b x):∀ a,b=Proofs.YtfoaiidcfkmneaaGreatDoor.rn ρ a->R1 θ pr w a x:=by
 induction h with
 | ro h=>intro a ha;exact .ro (h.un a ha)
 | own j x h h0=>intro a ha;cases a<;>simp [Proofs.YtfoaiidcfkmneaaGreatDoor.rn]at ha;subst ha;exact .own _ x (hθ _ x (u1 h0) h) h0
 | ptr j off b x h h2=>intro a ha;cases a<;>simp [Proofs.YtfoaiidcfkmneaaGreatDoor.rn]at ha;obtain⟨rfl,rfl⟩:=ha;exact .ptr _ _ b x (hθ _ x (λe=>by rw [e]at h2;cases h2) h) h2
 | agg l xs h1 _ ih=>
  intro a ha;cases a<;>simp [Proofs.YtfoaiidcfkmneaaGreatDoor.rn]at ha;subst ha
  exact .agg _ xs (by rw [h1,iw]) λi a x ha hx=>ih i _ x mV hx a rfl
 | tuple l xs h1 _ ih=>
  intro a ha;cases a<;>simp [Proofs.YtfoaiidcfkmneaaGreatDoor.rn]at ha;subst ha
  exact .tuple _ xs (by rw [h1,iw]) λi a x ha hx=>ih i _ x mV hx a rfl
 | clo fn l m xs ys h1 _ h3 _ ih1 ih2=>
  intro a ha;cases a<;>simp [Proofs.YtfoaiidcfkmneaaGreatDoor.rn]at ha;obtain⟨rfl,rfl,rfl⟩:=ha
  exact .clo _ _ _ xs ys (by rw [h1,iw]) (λi a x ha hx=>ih1 i _ x mV hx a rfl) (by rw [h3,iw]) (λi a x ha hx=>ih2 i _ x mV hx a rfl)
theorem dG.rn{ρ:Nat->Nat}{θ θ2:List Value}{pr bs:Nat->Prop}{w:World}(hθ:∀ (j:Nat) (v:Value),v≠undef->θ[j]? =some v->θ2[ρ j]? =some v){v:Value}{o:Ob}(h:dG θ pr bs w v o):dG θ2 pr bs w v (o.rn ρ):=by
 cases o with
 | box t cells=>
  obtain⟨b,xs,h1,h2,h3,h4,h5⟩:=h;exact⟨b,xs,h1,h2,h3,by rw [iw];exact h4,λi a x ha hx=>by obtain⟨c,hc,rfl⟩:=l6 ha;exact(h5 i c x hc hx).rn hθ⟩
 | row e k els=>exact h
 | gone=>trivial
 | rowH e k els=>
  obtain⟨xs,h1,h2,h3,h4⟩:=h;exact⟨xs,by rw [SZ];exact h1,h2,λl hl=>by obtain⟨l0,hl0,rfl⟩:=TG.1 hl;rw [iw];exact h3 l0 hl0,λi a x ha hx=>by rw [xP]at ha;obtain⟨c,hc,rfl⟩:=l6 ha;exact(h4 i c x hc hx).rn hθ⟩
 | mp es=>
  obtain⟨b,m,cl,h1,h2,h3,h4,h5⟩:=h;exact⟨b,m,cl,h1,h2,h3,by rw [SZ];exact h4,λi e k a he ha=>by
   rw [SU]at ha;cases hq:es[i]? with
   | none=>rw [hq]at ha;cases ha
   | some x=>rw [hq]at ha;cases ha;exact⟨(h5 i e x.1 x.2 he hq).1,(h5 i e x.1 x.2 he hq).2.rn hθ⟩⟩
 | bY gs=>exact h
theorem dG.un{ρ:Nat->Nat}{θ θ2:List Value}{pr bs:Nat->Prop}{w:World}(hθ:∀ (j:Nat) (v:Value),v≠undef->θ2[ρ j]? =some v->θ[j]? =some v){v:Value}{o:Ob}(h:dG θ2 pr bs w v (o.rn ρ)):dG θ pr bs w v o:=by
 cases o with
 | box t cells=>
  obtain⟨b,xs,h1,h2,h3,h4,h5⟩:=h;exact⟨b,xs,h1,h2,h3,by rw [h4,iw],λi a x ha hx=>(h5 i _ x mV hx).un hθ a rfl⟩
 | row e k els=>exact h
 | gone=>trivial
 | rowH e k els=>
  obtain⟨xs,h1,h2,h3,h4⟩:=h;exact⟨xs,by rw [SZ]at h1;exact h1,h2,λl hl=>by have:=h3 _ (TG.2 ⟨l,hl,rfl⟩);rw [iw]at this;exact this,λi a x ha hx=>(h4 i _ x (by rw [xP,sn,ha];rfl) hx).un hθ a rfl⟩
 | mp es=>
  obtain⟨b,m,cl,h1,h2,h3,h4,h5⟩:=h;exact⟨b,m,cl,h1,h2,h3,by rw [h4,SZ],λi e k a he ha=>by
   have h6:=h5 i e k (Proofs.YtfoaiidcfkmneaaGreatDoor.rn ρ a) he (by rw [SU,ha];rfl);exact⟨h6.1,h6.2.un hθ a rfl⟩⟩
 | bY gs=>exact h
theorem dG.base{θ:List Value}{pr bs bs':Nat->Prop}{w:World}{v:Value}{o:Ob}(h:dG θ pr bs w v o)(hb:∀ b,cH v=some b->bs b->bs' b):dG θ pr bs' w v o:=by
 cases o with
 | box t cells=>
  obtain⟨b,xs,h1,h2,h3⟩:=h;exact⟨b,xs,hb b (by rw [h2];rfl) h1,h2,h3⟩
 | row e k els=>obtain⟨xs,h1,h2,h3⟩:=h;exact⟨xs,h1,λb hq=>hb b hq (h2 b hq),h3⟩
 | gone=>trivial
 | rowH e k els=>obtain⟨xs,h1,h2,h3⟩:=h;exact⟨xs,h1,λb hq=>hb b hq (h2 b hq),h3⟩
 | mp es=>
  obtain⟨b,m,cl,h1,h2,h3⟩:=h;exact⟨b,m,cl,hb b (by rw [h2];rfl) h1,h2,h3⟩
 | bY gs=>exact h
theorem so{ρ:Nat->Nat}{o:Ob}(h:o.rn ρ= .gone):o= .gone :=by cases o<;>simp [Ob.rn]at h;rfl
def rho(ts:List Nat)(B:Nat):Nat->Nat
 | 0=>B
 | j+1=>match ts[j]? with
  | some t=>t
  | none=>B+(j - ts.length)
def gi{α:Type}:List Nat->List α->List α->List α
 | t::ts,x::xs,l=>gi ts xs (l.set t x)
 | [],xs,l=>l++xs
 | _::_,[],l=>l
section
variable {α:Type}
theorem va:∀ (ts:List Nat) (xs l:List α),ts.length<=xs.length->(gi ts xs l).length =l.length+(xs.length - ts.length)
 | [],xs,l,_=>by simp [gi]
 | t::ts,x::xs,l,h=>by simp [gi,va ts xs (l.set t x) kD]
 | t::ts,[],l,h=>by simp at h
theorem s8:∀ (ts:List Nat) (xs l:List α) (t:Nat),ts.length<=xs.length->t∉ts->t<l.length->(gi ts xs l)[t]? =l[t]?
 | [],xs,l,t,_,_,ht=>by simp only [gi];rw [SX ht]
 | s::ts,x::xs,l,t,h,hn,ht=>by
  simp only [TL,not_or]at hn;simp only [gi];rw [s8 ts xs (l.set s x) t kD hn.2 (by simpa using ht),SY (λe=>hn.1 e.symm)]
 | s::ts,[],l,t,h,_,_=>by simp at h
theorem zU:∀ (ts:List Nat) (xs l:List α) (i t:Nat),ts.length<=xs.length->ts.Nodup->(∀ t∈ts,t<l.length)->ts[i]? =some t->(gi ts xs l)[t]? =xs[i]?
 | [],xs,l,i,t,_,_,_,ht=>by simp at ht
 | s::ts,x::xs,l,i,t,h,hn,hl,ht=>by
  simp only [List.nodup_cons]at hn;simp only [gi];cases i with
  | zero=>
   simp at ht;subst ht;rw [s8 ts xs (l.set s x) s kD hn.1 (by simpa using hl s aL),S7 (hl s aL)];rfl
  | succ i=>rw [zU ts xs (l.set s x) i t kD hn.2 (λq hq=>by simpa using hl q (by simp [hq])) (by simpa using ht)];rfl
 | s::ts,[],l,i,t,h,_,_,_=>by simp at h
theorem wu:∀ (ts:List Nat) (xs l:List α) (i:Nat),ts.length<=xs.length->(gi ts xs l)[l.length+i]? =xs[ts.length+i]?
 | [],xs,l,i,_=>by simp [gi,S1]
 | s::ts,x::xs,l,i,h=>by
  have:=wu ts xs (l.set s x) i kD;simp only [gi];rw [TE]at this;rw [this,Ta,show ts.length+1+i=(ts.length+i)+1 by omega];rfl
 | s::ts,[],l,i,h=>by simp at h
end
theorem mj{ts:List Nat}{B i t:Nat}(h:ts[i]? =some t):rho ts B (i+1)=t:=by simp [rho,h]
theorem zV{ts:List Nat}{B i:Nat}:rho ts B (ts.length+i+1)=B+i:=by simp [rho]
inductive iI (ρ:Nat->Nat) (mem:List Ob):List Nat->List Ob->Prop
 | nil:iI ρ mem [] []
 | ob {t:Nat} {ts:List Nat} {o:Ob} {os:List Ob}:mem[t]? =some (o.rn ρ)->iI ρ mem ts os->iI ρ mem (t::ts) (o::os)
 | gone {t:Nat} {ts:List Nat} {os:List Ob}:iI ρ mem ts os->iI ρ mem (t::ts) (.gone ::os)
theorem iI.len{ρ:Nat->Nat}{mem:List Ob}{ts:List Nat}{os:List Ob}(h:iI ρ mem ts os):ts.length=os.length:=by
 induction h with
 | nil=>rfl
 | ob _ _ ih=>simp [ih]
 | gone _ ih=>simp [ih]
theorem iI.get{ρ:Nat->Nat}{mem:List Ob}{ts:List Nat}{os:List Ob}(h:iI ρ mem ts os):∀ (i:Nat) (o:Ob),os[i]? =some o->o= .gone \/ ∃ t,ts[i]? =some t/\mem[t]? =some (o.rn ρ):=by
 induction h with
 | nil=>intro i o h;simp at h
 | ob h1 _ ih=>
  intro i o h;cases i with
  | zero=>simp at h;subst h;exact .inr ⟨_,rfl,h1⟩
  | succ i=>exact ih i o h
 | gone _ ih=>
  intro i o h;cases i with
  | zero=>simp at h;exact .inl h.symm
  | succ i=>exact ih i o h
def eP(θ:List Value)(mem:List Ob)(b:Nat):Prop:=∃ (j:Nat) (o:Ob) (v:Value),mem[j]? =some o/\o≠ .gone /\θ[j]? =some v/\cH v=some b
theorem cr.lt{pb:Nat->Prop}{w0:Bs}{w:World}{θ:List Value}{mem:List Ob}(h:cr pb w0 w θ mem){b:Nat}(hb:aP pb θ mem b):b<w.heap.size:=by
 rcases hb with hp|⟨j,o,v,h1,h2,h3,h4⟩
 ·exact S4 (h.low b hp).1 h.ext.size
 ·exact((h.ob j o v h1 h3).lt h2 h4).2
theorem R1.kL{θ:List Value}{pr pr':Nat->Prop}{w:World}(hp:∀ b,pr' b->pr b){a:AV}{x:Value}(h:R1 θ pr w a x):R1 θ pr' w a x:=h.mono (λ_ _ h=>h) (SR _) (λ_ _ _=>rfl) λb _ hn hb=>hn (hp b hb)
theorem dG.kL{θ:List Value}{pr pr' bs:Nat->Prop}{w:World}(hp:∀ b,pr' b->pr b){v:Value}{o:Ob}(h:dG θ pr bs w v o):dG θ pr' bs w v o:=h.mono (λ_ _ h=>h) (SR _) (λ_ _ _=>rfl) (λb _ hn hb=>hn (hp b hb)) λ_ _=>rfl
theorem OR{pb:Nat->Prop}{w0:Bs}{w:World}{θ:List Value}{mem:List Ob}(hs:cr pb w0 w θ mem){gs:List (Nat×List AV)}(hg:pJ (aP pb θ mem) w gs){ts:List Nat}{m0:List Ob}(hnd:ts.Nodup)(hE:iI (rho ts mem.length) mem ts m0)(hng:m0.all (λo=>match o with| .bY _=>false| .gone =>false|_=>true)=true):
 ∃ (pbc:Nat->Prop) (θ0:List Value),cr pbc ⟨w,eP θ0 (.bY gs::m0),[]⟩ w θ0 (.bY gs::m0)/\(∀ a x,R1 θ (aP pb θ mem) w (rn (rho ts mem.length) a) x->R1 θ0 (aP pbc θ0 (.bY gs::m0)) w a x)/\
  ∀ (w':World) (θ1:List Value) (m1:List Ob),m0.length<=m1.length->Step pbc ⟨w,eP θ0 (.bY gs::m0),[]⟩ θ0 (.bY gs::m0) w θ1 (.bY gs::m1) w'->
   ∃ θ',Step pb w0 θ mem w θ' (gi ts (m1.map (Ob.rn (rho ts mem.length))) mem) w'/\ ∀ a x,R1 θ1 (aP pbc θ1 (.bY gs::m1)) w' a x->R1 θ' (aP pb θ' (gi ts (m1.map (Ob.rn (rho ts mem.length))) mem)) w' (rn (rho ts mem.length) a) x:=by
 have hlen:=hE.len;obtain⟨ρ,hρ⟩:∃ ρ,ρ=rho ts mem.length:=⟨_,rfl⟩;rw [<- hρ]at hE ⊢;have real:∀ (i:Nat) (o:Ob),m0[i]? =some o->o≠ .gone /\(∀ gs,o≠ .bY gs):=by
  intro i o hi;have:=Td.1 hng o (S9 hi);cases o<;>simp_all
 have place:∀ (i:Nat) (o:Ob),m0[i]? =some o-> ∃ t,ts[i]? =some t/\mem[t]? =some (o.rn ρ):=λi o hi=>(hE.get i o hi).resolve_left (real i o hi).1
 have tlt:∀ t∈ts,t<mem.length:=λt ht=>by
  obtain⟨i,hi,rfl⟩:=TK ht;obtain⟨t',h1,h2⟩:=place i _ (SQ ah);rw [SQ hi]at h1;cases h1;exact(SN.1 h2).1
 obtain⟨θ0,hθ0⟩:∃ θ0:List Value,θ0=undef::ts.map (λt=>θ.getD t undef):=⟨_,rfl⟩;have th0:∀ (i t:Nat),ts[i]? =some t->θ0[i+1]? =θ[t]? :=λi t hi=>by
  have hlt:t<θ.length:=by rw [hs.len];exact tlt t (S9 hi)
  rw [hθ0];simp [hi,SO,hlt]
 have un0:∀ (j:Nat) (v:Value),v≠undef->θ[ρ j]? =some v->θ0[j]? =some v:=by
  intro j v hv h;cases j with
  | zero=>rw [hρ]at h;simp only [rho]at h;rw [<- hs.len]at h;simp at h
  | succ i=>
   cases hq:ts[i]? with
   | some t=>rw [hρ,mj hq]at h;rw [th0 i t hq];exact h
   | none=>
    rw [hρ]at h;simp only [rho,hq]at h;have:=(SN.1 h).1;rw [hs.len]at this;omega
 have lent_of:∀ b,eP θ0 (.bY gs::m0) b-> ∃ (i t:Nat) (o:Ob) (v:Value),m0[i]? =some o/\ts[i]? =some t/\mem[t]? =some (o.rn ρ)/\θ[t]? =some v/\θ0[i+1]? =some v/\cH v=some b:=by
  rintro b ⟨j,o,v,h1,h2,h3,h4⟩;cases j with
  | zero=>rw [hθ0]at h3;simp at h3;rw [<- h3]at h4;cases h4
  | succ i=>
   simp only [UE]at h1;obtain⟨t,h5,h6⟩:=place i o h1;exact⟨i,t,o,v,h1,h5,h6,by rw [<- th0 i t h5];exact h3,h3,h4⟩
 have rne:∀ {i:Nat} {o:Ob},m0[i]? =some o->o.rn ρ≠ .gone :=λ{i o} h e=>(real i o h).1 (so e)
 have lent_prot:∀ b,eP θ0 (.bY gs::m0) b->aP pb θ mem b:=λb hb=>by
  obtain⟨i,t,o,v,h1,h2,h3,h4,h5,h6⟩:=lent_of b hb;exact .inr ⟨t,_,v,h3,rne h1,h4,h6⟩
 obtain⟨pbc,hpbc⟩:∃ pbc:Nat->Prop,pbc=λb=>aP pb θ mem b/\ ¬ eP θ0 (.bY gs::m0) b:=⟨_,rfl⟩
 have prot0:∀ b,aP pbc θ0 (.bY gs::m0) b↔aP pb θ mem b:=λb=>by
  constructor
  ·rintro(h|h)
   ·rw [hpbc]at h;exact h.1
   ·exact lent_prot b h
  ·intro h
   by_cases hl:eP θ0 (.bY gs::m0) b
   ·exact .inr hl
   ·exact .inl (by rw [hpbc];exact⟨h,hl⟩)
 have hs0:cr pbc ⟨w,eP θ0 (.bY gs::m0),[]⟩ w θ0 (.bY gs::m0):=by
  refine⟨g7.refl w _,λb hb=>?_,by rw [hθ0];simp [hlen],λj o v hm hv=>?_,λi j o p v u b h1 h2 h3 h4 h5 h6 h7 h8=>?_⟩
  ·rw [hpbc]at hb;exact⟨hs.lt hb.1,hb.2⟩
  ·cases j with
   | zero=>
    simp at hm;subst hm;rw [hθ0]at hv;simp at hv;subst hv;exact⟨rfl,λx hx=>⟨(hg x hx).1.mono (SR _) (λ_ _ _=>rfl) λb _ hn hp=>hn ((prot0 b).1 hp),(hg x hx).2⟩⟩
   | succ i=>
    simp only [UE]at hm;obtain⟨t,h5,h6⟩:=place i o hm;have h7:θ[t]? =some v:=by rw [<- th0 i t h5];exact hv
    have h8:dG θ0 (aP pbc θ0 (.bY gs::m0)) w0.gn w v o:=dG.kL (λb hb=>(prot0 b).1 hb) (dG.un un0 (hs.ob t _ v h6 h7));exact h8.base λb hb _=>.inr ⟨i+1,o,v,by simpa using hm,(real i o hm).1,hv,hb⟩
  ·cases i with
   | zero=>rw [hθ0]at h5;simp at h5;rw [<- h5]at h7;cases h7
   | succ i=>
    cases j with
    | zero=>rw [hθ0]at h6;simp at h6;rw [<- h6]at h8;cases h8
    | succ j=>
     simp only [UE]at h1 h3;obtain⟨t,a1,a2⟩:=place i o h1;obtain⟨t',b1,b2⟩:=place j p h3;have:t=t':=hs.dis t t' _ _ v u b a2 (rne h1) b2 (rne h3) (by rw [<- th0 i t a1];exact h5) (by rw [<- th0 j t' b1];exact h6) h7 h8;subst this;have hi:=(SN.1 a1).1;have:=(List.getElem?_inj hi hnd).1 (a1.trans b1.symm);omega
 refine⟨pbc,θ0,hs0,λa x h=>(h.un un0 a rfl).kL λb hb=>(prot0 b).1 hb,λw' θ1 m1 hl1 hst=>?_⟩
 -- what it leaves
 have hlθ1:θ1.length=m1.length+1:=by have:=hst.sim.len;simpa using this
 obtain⟨θ',hθ'⟩:∃ θ',θ'=gi ts θ1.tail θ:=⟨_,rfl⟩;obtain⟨mem',hmem'⟩:∃ mem',mem'=gi ts (m1.map (Ob.rn ρ)) mem:=⟨_,rfl⟩;rw [<- hmem'];have htl:θ1.tail.length=m1.length:=by simp [hlθ1]
 have hk1:ts.length<=θ1.tail.length:=by omega
 have hk2:ts.length<=(m1.map (Ob.rn ρ)).length :=by simp;omega
 have hθlen:θ'.length=θ.length+(m1.length - ts.length):=by rw [hθ',va _ _ _ hk1,htl]
 have hmlen:mem'.length=mem.length+(m1.length - ts.length):=by rw [hmem',va _ _ _ hk2,SZ]
 have tltθ:∀ t∈ts,t<θ.length:=λt ht=>by rw [hs.len];exact tlt t ht
 -- the places of the callee's objects
 have at_m:∀ i,mem'[ρ (i+1)]? =if i<m1.length then(m1[i]?).map (Ob.rn ρ)else mem'[ρ (i+1)]? :=by
  intro i
  split
  ·rename_i hi
   rw [<- SU];cases hq:ts[i]? with
   | some t=>rw [show ρ (i+1)=t by rw [hρ,mj hq],hmem'];exact zU ts _ mem i t hk2 hnd tlt hq
   | none=>
    have h1:ts.length<=i:=by simpa using hq
    obtain⟨q,rfl⟩:=Nat.exists_eq_add_of_le h1;rw [show ρ (ts.length+q+1)=mem.length+q by rw [hρ,zV],hmem'];exact wu ts _ mem q hk2
  ·rfl
 have at_m:∀ i,i<m1.length->mem'[ρ (i+1)]? =(m1[i]?).map (Ob.rn ρ):=λi hi=>by rw [at_m i,if_pos hi]
 have at_θ:∀ i,i<m1.length->θ'[ρ (i+1)]? =θ1[i+1]? :=by
  intro i hi;have htail:θ1.tail[i]? =θ1[i+1]? :=by rw [List.getElem?_tail]
  rw [<- htail];cases hq:ts[i]? with
  | some t=>rw [hρ,mj hq,hθ'];exact zU ts _ θ i t hk1 hnd tltθ hq
  | none=>
   have h1:ts.length<=i:=by simpa using hq
   obtain⟨q,rfl⟩:=Nat.exists_eq_add_of_le h1;rw [hρ,zV,hθ', <- hs.len];exact wu ts _ θ q hk1
 have oth_m:∀ t,t∉ts->t<mem.length->mem'[t]? =mem[t]? :=λt h1 h2=>by rw [hmem'];exact s8 ts _ mem t hk2 h1 h2
 have oth_θ:∀ t,t∉ts->t<mem.length->θ'[t]? =θ[t]? :=λt h1 h2=>by rw [hθ'];exact s8 ts _ θ t hk1 h1 (by rw [hs.len];exact h2)
 have rho_inj:∀ i j,i<m1.length->j<m1.length->ρ (i+1)=ρ (j+1)->i=j:=by
  intro i j hi hj h;rw [hρ]at h;cases hq:ts[i]? with
  | some t=>
   rw [mj hq]at h;have ht:=tlt t (S9 hq);cases hq2:ts[j]? with
   | some t'=>
    rw [mj hq2]at h;subst h;exact(List.getElem?_inj (SN.1 hq).1 hnd).1 (hq.trans hq2.symm)
   | none=>simp only [rho,hq2]at h;omega
  | none=>
   have h1:ts.length<=i:=by simpa using hq
   cases hq2:ts[j]? with
   | some t'=>have ht:=tlt t' (S9 hq2);rw [mj hq2]at h;simp only [rho,hq]at h;omega
   | none=>
    have h2:ts.length<=j:=by simpa using hq2
    simp only [rho,hq,hq2]at h;omega
 have split:∀ (j:Nat) (o:Ob) (v:Value),mem'[j]? =some o->θ'[j]? =some v->(j∉ts/\mem[j]? =some o/\θ[j]? =some v)\/ ∃ (i:Nat) (o1:Ob),i<m1.length/\j=ρ (i+1)/\m1[i]? =some o1/\o=o1.rn ρ/\θ1[i+1]? =some v:=by
  intro j o v hm hv;have cal:∀ i,i<m1.length->j=ρ (i+1)-> ∃ (i:Nat) (o1:Ob),i<m1.length/\j=ρ (i+1)/\m1[i]? =some o1/\o=o1.rn ρ/\θ1[i+1]? =some v:=by
   intro i hi hj;rw [hj,at_m i hi]at hm;rw [hj,at_θ i hi]at hv;rw [SQ hi]at hm;simp at hm;exact⟨i,m1[i],hi,hj,SQ hi,hm.symm,hv⟩
  by_cases hjt:j∈ts
  ·obtain⟨i,hi,rfl⟩:=TK hjt;exact .inr (cal i ah (by rw [hρ,mj (SQ hi)]))
  ·by_cases hjl:j<mem.length
   ·exact .inl ⟨hjt,by rw [<- oth_m j hjt hjl];exact hm,by rw [<- oth_θ j hjt hjl];exact hv⟩
   ·have hj2:=(SN.1 hm).1;rw [hmlen]at hj2;refine .inr (cal (ts.length+(j - mem.length)) ah ?_);rw [hρ,zV];omega
 have g1:θ1[0]? =some undef:=by
  have h1:θ1[0]? =some θ1[0]:=SQ ah;have:=(hst.sim.ob 0 (.bY gs) _ rfl h1).1;rw [h1,this]
 have up1:∀ (j:Nat) (v:Value),v≠undef->θ1[j]? =some v->θ'[ρ j]? =some v:=by
  intro j v hv h;cases j with
  | zero=>rw [g1]at h;cases h;exact absurd rfl hv
  | succ i=>
   have hi:i<m1.length:=by have:=(SN.1 h).1;omega
   rw [at_θ i hi];exact h
 -- other objects' blocks
 have other_not:∀ (j:Nat) (o:Ob) (v:Value) (b:Nat),j∉ts->mem[j]? =some o->o≠ .gone ->θ[j]? =some v->cH v=some b-> ¬ eP θ0 (.bY gs::m0) b:=by
  intro j o v b h1 h2 h3 h4 h5 hl;obtain⟨i,t,o',v',q1,q2,q3,q4,q5,q6⟩:=lent_of b hl;have:=hs.dis j t _ _ v v' b h2 h3 q3 (rne q1) h4 q4 h5 q6;subst this;exact h1 (S9 q2)
 have pb_not:∀ b,pb b-> ¬ eP θ0 (.bY gs::m0) b:=by
  intro b hb hl;obtain⟨i,t,o',v',q1,q2,q3,q4,q5,q6⟩:=lent_of b hl;have h1:=hs.low b hb;rcases ((hs.ob t _ v' q3 q4).lt (rne q1) q6).1 with h2|h2
  ·omega
  ·exact h1.2 h2
 have other_in:∀ (j:Nat) (o:Ob) (v:Value),j∉ts->mem[j]? =some o->θ[j]? =some v->o≠ .gone ->mem'[j]? =some o/\θ'[j]? =some v:=λj o v h1 h2 h3 _=>by
  have hj:=(SN.1 h2).1;exact⟨by rw [oth_m j h1 hj];exact h2,by rw [oth_θ j h1 hj];exact h3⟩
 have prot1:∀ b,aP pbc θ1 (.bY gs::m1) b↔aP pb θ' mem' b:=by
  intro b
  constructor
  ·rintro(h|⟨j,o,v,h1,h2,h3,h4⟩)
   ·rw [hpbc]at h;rcases h with⟨h|⟨j,o,v,h1,h2,h3,h4⟩,hl⟩
    ·exact .inl h
    ·have hjt:j∉ts:=by
      intro hjt;obtain⟨i,hi,rfl⟩:=TK hjt;have hm0:=SQ (show i<m0.length by omega);have h9:=th0 i _ (SQ hi);exact hl ⟨i+1,m0[i],v,aL,(real i _ hm0).1,by rw [h9];exact h3,h4⟩
     obtain⟨a1,a2⟩:=other_in j o v hjt h1 h3 h2;exact .inr ⟨j,o,v,a1,h2,a2,h4⟩
   ·cases j with
    | zero=>rw [g1]at h3;cases h3;cases h4
    | succ i=>
     simp only [UE]at h1;have hi:=(SN.1 h1).1;exact .inr ⟨ρ (i+1),o.rn ρ,v,by rw [at_m i hi,h1];rfl,λe=>h2 (so e),by rw [at_θ i hi];exact h3,h4⟩
  ·rintro(h|⟨j,o,v,h1,h2,h3,h4⟩)
   ·exact .inl (by rw [hpbc];exact⟨.inl h,pb_not b h⟩)
   ·rcases split j o v h1 h3 with⟨a1,a2,a3⟩|⟨i,o1,a1,a2,a3,a4,a5⟩
    ·exact .inl (by rw [hpbc];exact⟨.inr ⟨j,o,v,a2,h2,a3,h4⟩,other_not j o v b a1 a2 h2 a3 h4⟩)
    ·exact .inr ⟨i+1,o1,v,by simpa using a3,λe=>h2 (by rw [a4,e];rfl),a5,h4⟩
 have same:∀ b,b<w.heap.size-> ¬ eP θ0 (.bY gs::m0) b->w'.heap[b]? =w.heap[b]? :=λb hb hl=>hst.sim.ext.block b hb hl
 have same':∀ b,b<w.heap.size-> ¬ aP pb θ mem b->w'.heap[b]? =w.heap[b]? :=λb hb hn=>same b hb λhl=>hn (lent_prot b hl)
 have np':∀ b,b<w.heap.size-> ¬ aP pb θ mem b-> ¬ aP pb θ' mem' b:=λb hb hn hp=>hst.np b hb (λh=>hn ((prot0 b).1 h)) ((prot1 b).2 hp)
 have okb1:∀ b,Bs.gn ⟨w,eP θ0 (.bY gs::m0),[]⟩ b->w0.gn b:=by
  rintro b (h|h)
  ·exact .inl (Tm hs.ext.size h)
  ·obtain⟨i,t,o',v',q1,q2,q3,q4,q5,q6⟩:=lent_of b h;exact((hs.ob t _ v' q3 q4).lt (rne q1) q6).1
 -- handles
 have hkeep:∀ (j:Nat) (v:Value),wA v=true->θ[j]? =some v->θ'[j]? =some v:=by
  intro j v hv h;have hj:j<mem.length:=by rw [<- hs.len];exact(SN.1 h).1
  by_cases hjt:j∈ts
  ·obtain⟨i,hi,rfl⟩:=TK hjt;have hi':=SQ hi;have h1:R1 θ0 (aP pbc θ0 (.bY gs::m0)) w (.own (i+1)) v:=.own _ _ (by rw [th0 i _ hi'];exact h) hv;have h2:=(hst.keep _ _ h1).j6;have h3:=at_θ i ah;rw [hρ,mj hi',h2]at h3;exact h3
  ·rw [oth_θ j hjt hj];exact h
 have pkeep:∀ (j b:Nat) (x:Value),θ[j]? =some x->cH x=some b-> ∃ y,θ'[j]? =some y/\cH y=some b:=by
  intro j b x h hb;have hj:j<mem.length:=by rw [<- hs.len];exact(SN.1 h).1
  by_cases hjt:j∈ts
  ·obtain⟨i,hi,rfl⟩:=TK hjt;have hi':=SQ hi;have h1:R1 θ0 (aP pbc θ0 (.bY gs::m0)) w (.ptr (i+1) 0) (.pointer (some ⟨b,0,none⟩)):=.ptr _ _ b x (by rw [th0 i _ hi'];exact h) hb;obtain⟨b',y,h2,h3,h4⟩:=(hst.keep _ _ h1).iC;cases h4;have h5:=at_θ i ah;rw [hρ,mj hi',h2]at h5;exact⟨y,h5,h3⟩
  ·exact⟨x,by rw [oth_θ j hjt hj];exact h,hb⟩
 have keep':∀ a x,R1 θ (aP pb θ mem) w a x->R1 θ' (aP pb θ' mem') w' a x:=by
  intro a x h
  induction h with
  | ro h=>exact .ro (h.mono hst.sz same' np')
  | own j x h h0=>exact .own j x (hkeep j x h0 h) h0
  | ptr j off b x h h2=>obtain⟨y,h3,h4⟩:=pkeep j b x h h2;exact .ptr j off b y h3 h4
  | agg l xs h1 _ ih=>exact .agg l xs h1 ih
  | tuple l xs h1 _ ih=>exact .tuple l xs h1 ih
  | clo fn l m xs ys h1 _ h3 _ ih1 ih2=>exact .clo fn l m xs ys h1 ih1 h3 ih2
 have hsim:cr pb w0 w' θ' mem':=by
  refine⟨⟨hs.ext.below.trans (hst.sim.ext.below.mono (S8 _)),λb hb hl=>?_⟩,hs.low,by rw [hθlen,hmlen,hs.len],λj o v hm hv=>?_,λi j o p v u b h1 h2 h3 h4 h5 h6 h7 h8=>?_⟩
  ·have hb2:b<w.heap.size:=S4 hb hs.ext.size;refine(same b hb2 λhle=>?_).trans (hs.ext.block b hb hl);obtain⟨i,t,o',v',q1,q2,q3,q4,q5,q6⟩:=lent_of b hle;rcases ((hs.ob t _ v' q3 q4).lt (rne q1) q6).1 with h2|h2
   ·omega
   ·exact hl h2
  ·rcases split j o v hm hv with⟨a1,a2,a3⟩|⟨i,o1,a1,a2,a3,a4,a5⟩
   ·by_cases hgo:o= .gone
    ·subst hgo;trivial
    ·have h1:=hs.ob j o v a2 a3;have hv':∀ b,cH v=some b->w'.heap[b]? =w.heap[b]? :=λb hb=>same b (h1.lt hgo hb).2 (other_not j o v b a1 a2 hgo a3 hb)
     cases o with
     | box t cells=>
      obtain⟨b',xs,q1,rfl,q2,q3,q4⟩:=h1;exact⟨b',xs,q1,rfl,(hv' b' rfl).trans q2,q3,λi a x ha hx=>keep' _ _ (q4 i a x ha hx)⟩
     | row e k els=>
      obtain⟨xs,q1,hbs,q2,q3⟩:=h1;exact⟨xs,tR q1 hv',hbs,q2,λi a x ha hx=>(q3 i a x ha hx).mono hst.sz same' np'⟩
     | gone=>trivial
     | rowH e k els=>
      obtain⟨xs,q1,hbs,q2,q3⟩:=h1;exact⟨xs,tR q1 hv',hbs,q2,λi a x ha hx=>keep' _ _ (q3 i a x ha hx)⟩
     | mp es=>
      obtain⟨b',m,cl,q1,rfl,q2,q3,q4⟩:=h1;exact⟨b',m,cl,q1,rfl,(hv' b' rfl).trans q2,q3,λi e k a he ha=>⟨(q4 i e k a he ha).1,keep' _ _ (q4 i e k a he ha).2⟩⟩
     | bY gs=>exact⟨h1.1,λx hx=>⟨(h1.2 x hx).1.mono hst.sz same' np',(h1.2 x hx).2.keep (h1.2 x hx).1 same'⟩⟩
   ·subst a4;have h1:=hst.sim.ob (i+1) o1 v (by simpa using a3) a5;exact((dG.rn up1 h1).kL λb hb=>(prot1 b).2 hb).base λb _ hb=>okb1 b hb
  ·have live:∀ {i:Nat} {o1:Ob} {v:Value} {b:Nat},i<m1.length->m1[i]? =some o1->o1.rn ρ≠ .gone ->θ1[i+1]? =some v->cH v=some b->Bs.gn ⟨w,eP θ0 (.bY gs::m0),[]⟩ b:=by
    intro i o1 v b q1 q2 q3 q4 q5;exact((hst.sim.ob (i+1) o1 v (by simpa using q2) q4).lt (λe=>q3 (by rw [e];rfl)) q5).1
   rcases split i o v h1 h5 with⟨a1,a2,a3⟩|⟨i',o1,a1,a2,a3,a4,a5⟩<;>rcases split j p u h3 h6 with⟨c1,c2,c3⟩|⟨j',o2,c1,c2,c3,c4,c5⟩
   ·exact hs.dis i j o p v u b a2 h2 c2 h4 a3 c3 h7 h8
   ·subst c4;rcases live c1 c3 h4 c5 h8 with h9|h9
    ·have:=((hs.ob i o v a2 a3).lt h2 h7).2;simp only at h9;omega
    ·exact absurd h9 (other_not i o v b a1 a2 h2 a3 h7)
   ·subst a4;rcases live a1 a3 h2 a5 h7 with h9|h9
    ·have:=((hs.ob j p u c2 c3).lt h4 h8).2;simp only at h9;omega
    ·exact absurd h9 (other_not j p u b c1 c2 h4 c3 h8)
   ·subst a4 c4;have:=hst.sim.dis (i'+1) (j'+1) o1 o2 v u b (by simpa using a3) (λe=>h2 (by rw [e];rfl)) (by simpa using c3) (λe=>h4 (by rw [e];rfl)) a5 c5 h7 h8;rw [a2,c2];congr 1
 exact⟨θ',⟨hsim,keep',hst.sz,same',np'⟩,λa x h=>(h.rn up1).kL λb hb=>(prot1 b).2 hb⟩
end Go.Proofs.YtfoaiidcfkmneaaGreatDoor
