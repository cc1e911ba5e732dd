/- Lemmas for the statement. -/
import Derived.Test.YtbmlgmblfboigaaGreatDoorA14
namespace Go.Proofs.YtbmlgmblfboigaaGreatDoor
open Go Go.RowKit Go.Proofs
set_option linter.unusedSimpArgs false
set_option linter.unusedVariables false
section
variable {P:Program} {ops:Array Oper}
theorem CW{md:Region.Mode}{Q':Exit->Act->World->Prop}:∀ (l:List Oper) (k:Nat) (listed:Array Bool) (a:Act) (w:World),(∀ j,l[j]? =ops[k+j]?)->
 Region.seqB md ops l.length k listed=true->wpListIn Fence.wide 8 P ops Q' l a w->wpAnyIn Fence.wide 8 P md ops Q' l.length listed a w
 | [],_,_,_,_,_,hB,h=>⟨by simpa [Region.seqB]using hB,h⟩
 | o::l,k,listed,a,w,hl,hB,h=>by
  have h0:ops[k]? =some o:=by simpa using (hl 0).symm
  simp only [Xo,Region.seqB,Xg,decide_eq_true_eq]at hB;refine⟨λh1=>(by rw [hB.1]at h1;cases h1),λi hi=>?_⟩;rw [hB.1]at hi;have hik:i=k:=by simpa using hi
  subst hik;have hw:wpOpIn Fence.wide 8 P ops Q' i (wpListIn Fence.wide 8 P ops Q' l) a w:=by unfold wpOpIn;simp only [h0];exact h
  exact wpOpIn_mono (λa' w' h'=>CW l (i+1) _ a' w' (λj=>by have:=hl (j+1);simpa [XQ,Yq 1 j]using this) hB.2 h') hw
theorem Nk{Q:Exit->Act->World->Prop}{a0:Act}{w0:World}{l:List Oper}(n:Nat)(B:(Nat->Bool)->World->Prop)(F:Nat->Value->World->Prop)(ex:Nat->Option Value)
 (hdf:jj l=true)(hB:fo l.toArray n=true)(hb:B (λ_=>false) {w0 with drawn:=w0.drawn+1})(hex:∀ k v w,F k v w-> ∀ c,ex k=some c->v=c)
 (steps:∀ V,(∀ k c,ex k=some c->V k=c)->Steps P l.toArray B F V (l.take n) 0 a0)
 (tail:∀ V w,(∀ k c,ex k=some c->V k=c)->B (λk=>decide (k<n)) w->qf F V w n->wpListIn Fence.wide 8 P l.toArray Q (l.drop n) (dn V (l.take n) 0 a0) w):wpAnyIn Fence.wide 8 P .any l.toArray Q l.toArray.size (Array.replicate l.toArray.size false) a0 {w0 with drawn:=w0.drawn+1}:=by
 simp only [fo,Xg,decide_eq_true_eq]at hB;obtain⟨⟨⟨⟨hsel,hn⟩,hheads⟩,htails⟩,hseq⟩:=hB;have hn':n<=l.length:=by simpa using hn
 have htl:(l.take n).length =n:=by simp;omega
 have hopl:∀ i:Nat,l.toArray[i]? =l[i]? :=λi=>by simp
 have htk:∀ i:Nat,i<n->(l.take n)[i]? =l[i]? :=λi hi=>by simp [hi]
 -- what the Bool says of a head
 have head:∀ i o,i<n->l[i]? =some o->(∀ e∈o.after,Region.binds .any e=true->e.on<i)/\(∀ g b,o.guard=some (g,b)->fm o g=true)/\
  ∀ k t,k<n->(l[k]?).bind (·.dst)=some t->((o.looksAt l.toArray).contains t=true->(k<i/\fm o k=true)\/(i<k/\oV l.toArray k i=true))/\(k=i\/o.dst≠some t):=by
  intro i o hi ho;have h1:=Xv.1 hheads i (XX.2 hi);rw [hopl,ho]at h1;simp only [Xg]at h1;obtain⟨⟨h1,h2⟩,h3⟩:=h1;refine⟨λe he hb=>?_,λg b hg=>?_,λk t hk ht=>?_⟩
  ·have:=Xv.1 h1 e oS
   simpa [hb]using this
  ·rw [hg]at h2;exact h2
  ·have:=Xv.1 h3 k (XX.2 hk);rw [hopl,ht]at this;simp only [Xg,X1,XF,decide_eq_true_eq,beq_iff_eq,bne_iff_ne,ne_eq]at this;exact⟨λhc=>by
    rcases this.1 with(h|h)|h
    ·exact absurd h (by rw [hc];simp)
    ·exact .inl h
    ·exact .inr h,this.2⟩
 have waits:∀ {o:Oper} {k:Nat},fm o k=true-> ∃ e∈o.after,e.on=k/\Region.binds .any e=true:=λ{o k} h=>by
  obtain⟨e,he,hk⟩:=X5.1 h;exact⟨e,by simpa using he,by simpa using hk⟩
 -- a tail waits
 have tails:∀ (i0:Nat),i0<n-> ∀ listed:Array Bool,HeadInv .any l.toArray n listed->listed.getD i0 true=false-> ∀ t,n<=t->t<l.length->t∉Region.ready .any l.toArray listed:=by
  intro i0 hi0 listed inv hun t ht htlt;simp only [X1,Xg,decide_eq_true_eq]at htails;rcases htails with he|⟨⟨h1,h2⟩,h3⟩
  ·simp only [YM]at he;omega
  ·exact tail_waits h2 h3 h1 inv _ i0 rfl hi0 hun t ht
 -- the run
 have key:∀ (h:Nat) (listed:Array Bool) (w:World) (V:Nat->Value),(∀ k c,ex k=some c->V k=c)->fC listed n=h->listed.size=l.length->HeadInv .any l.toArray n listed->(∀ t,n<=t->listed.getD t false=false)->B (λk=>listed.getD k false) w->
  (∀ k,k<n->listed.getD k false=true->F k (V k) w)->
  wpAnyIn Fence.wide 8 P .any l.toArray Q (h+(l.length - n)) listed (cQ V (λk=>listed.getD k false) (l.take n) 0 a0) w:=by
  intro h
  induction h with
  | zero=>
   intro listed w V hV hu hsz inv hta hBw hF;have hall:=ta hu;have hcan:listed=(List.range n).foldl (λl i=>l.setIfInBounds i true) (Array.replicate l.toArray.size false):=by
    refine Array.ext (by rw [pK];simpa using hsz) λj h1 h2=>?_
    have e1:listed.getD j false=listed[j]:=by simp [h1]
    have e2:=yy n l.toArray.size j (by rw [pK]at h2;exact h2);rw [Xn,X9 h2,Option.getD_some]at e2;rw [e2, <- e1]
    by_cases hjn:j<n
    ·rw [hall j hjn];simp [hjn]
    ·rw [hta j ah];simp [hjn]
   rw [qa V _ (l.take n) 0 a0 λi hi=>by rw [Xl];exact hall i (by rw [htl]at hi;exact hi)];have hdl:(l.drop n).length =l.toArray.size - n:=by simp
   have:=CW (P:=P) (md:=.any) (Q':=Q) (l.drop n) n listed (dn V (l.take n) 0 a0) w (λj=>by simp [XH]) (by rw [hdl,hcan];exact hseq)
    (tail V w hV (by rwa [show(λk=>listed.getD k false)=(λk=>decide (k<n))from funext λk=>by
     by_cases hk:k<n
     ·rw [hall k hk];simp [hk]
     ·rw [hta k ah];simp [hk]]at hBw) (yL λk hk=>hF k hk (hall k hk)))
   rw [Xl]
   simpa using this
  | succ h ih=>
   intro listed w V hV hu hsz inv hta hBw hF;rw [show h+1+(l.length - n)=(h+(l.length - n))+1 by omega];obtain⟨i0,hi0,hi1,hi2⟩:=wq (listed:=listed) (n:=n) ah;refine⟨λh0=>?_,λi hi=>?_⟩
   ·
    obtain⟨o,ho⟩:∃ o,l[i0]? =some o:=⟨l[i0]' ah,Xd _⟩;have:i0∈Region.ready .any l.toArray listed:=mem_ready.2 ⟨getD_in ah hi1,o,by rw [hopl];exact ho,λe he hb=>hi2 _ ((head i0 o hi0 ho).1 e he hb)⟩;rw [h0]at this;cases this
   ·obtain⟨hun,o,ho,hall⟩:=mem_ready.1 hi;rw [hopl]at ho;have hlt:i<l.length:=by rcases XC i l.length with h|h;exact h;rw [Xq h]at ho;cases ho
    have hin:i<n:=by
     rcases XC i n with h|h
     ·exact h
     ·exact absurd hi (tails i0 hi0 listed inv (getD_in ah hi1) i h hlt)
    obtain⟨hed,hgd,hlk⟩:=head i o hin ho;have hdeps:∀ e∈o.after,Region.binds .any e=true->listed.getD e.on false=true:=λe he hb=>hall e he hb
    have hfalse:listed.getD i false=false:=getD_both hun
    -- the frame as the text has it looks the same to this operation
    have same:∀ t,(o.looksAt l.toArray).contains t=true->(cQ V (λk=>listed.getD k false) (l.take n) 0 a0).tmps[t]? =(dn V (l.take i) 0 a0).tmps[t]? :=by
     intro t ht;have e1:dn V (l.take i) 0 a0=cQ V (λk=>decide (k<i)) (l.take n) 0 a0:=by
      have:l.take n=l.take i++(l.take n).drop i:=by
       conv=>lhs;rw [<- Yc i (l.take n)]
       rw [X2,XW ah]
      rw [this];have app:∀ (l1 l2:List Oper) (k:Nat) (a:Act) (m:Nat->Bool),cQ V m (l1++l2) k a=cQ V m l2 (k+l1.length) (cQ V m l1 k a):=by
       intro l1
       induction l1 with
       | nil=>intro l2 k a m;rfl
       | cons x l1 ih=>intro l2 k a m;simp only [Yr,cQ,Xo];rw [ih];congr 1;omega
      rw [app,pV,qa]
      ·intro j hj;simp at hj ⊢;omega
      ·intro j hj;simp at hj ⊢;omega
     rw [e1];refine vw V _ _ t (l.take n) 0 a0 a0 rfl rfl λk ok hk hd=>?_
     have hkn:k<n:=by rcases XC k n with h|h;exact h;rw [Xq (by rw [htl];exact h)]at hk;cases hk
     rw [htk k hkn]at hk;rcases (hlk k t hkn (by rw [hk];exact hd)).1 ht with⟨h1,h2⟩|⟨h1,h2⟩
     ·obtain⟨e,he,hek,hb⟩:=waits h2;have:=hdeps e he hb;rw [hek]at this;simp only [Xl];rw [this];simp [h1]
     ·have hkf:listed.getD k false=false:=by
       cases hbk:listed.getD k false with
       | false=>rfl
       | true=>
        have hk':l.toArray[k]? =some ok:=by rw [hopl];exact hk
        unfold oV at h2;rw [hk']at h2;obtain⟨e,he,hek,hb⟩:=waits h2;have:=inv.closed k ok hk' hbk e he hb;rw [hek,hfalse]at this;cases this
      simp only [Xl];rw [hkf];simp;omega
    have hexec:execOp (cQ V (λk=>listed.getD k false) (l.take n) 0 a0).eval o=execOp (dn V (l.take i) 0 a0).eval o:=
     execOp_congr o (λcs b=>Region.noSelect_spec hsel i o cs b (by rw [hopl];exact ho)) λx hx=>by
      cases x with
      | tmp t=>
       have:=same t (rm hx)
       show Array.getD _ t undef=Array.getD _ t undef
       rw [Xn,Xn,this]
      | _=>rfl
    have hwant:Region.wanted o (yielded l.toArray (cQ V (λk=>listed.getD k false) (l.take n) 0 a0).tmps)=Region.wanted o (yielded l.toArray (dn V (l.take i) 0 a0).tmps):=by
     unfold Region.wanted;cases hg:o.guard with
     | none=>rfl
     | some gb=>
      obtain⟨g,b⟩:=gb;simp only []
      congr 1
      unfold yielded;cases hd:(l.toArray[g]?).bind (·.dst)with
      | none=>rfl
      | some t=>simp only [Option.bind_some];rw [same t (pN hg hd)]
    have hst:=zm (steps V hV) (i:=i) (o:=o) (by rw [htk i hin];exact ho) (λk=>listed.getD k false) w (by simpa using hfalse) (yK λe he hb=>hdeps e oS hb) hBw (yJ λe he hb=>by
     have he':e∈o.after:=by simpa using he
     have h1:=hed e he' hb;exact hF _ ah (hdeps e he' hb))
    rw [X2,XW (Yk hin)]at hst;rw [<- hwant, <- hexec]at hst;simp only [Xl]at hst
    -- and behind it
    have hnext:∀ v w',(F i v w'/\B (λj=>j==i||listed.getD j false) w'/\ ∀ j u,j≠i->listed.getD j false=true->F j u w->F j u w')->
     wpAnyIn Fence.wide 8 P .any l.toArray Q (h+(l.length - n)) (listed.setIfInBounds i true) ((cQ V (λk=>listed.getD k false) (l.take n) 0 a0).put o.dst v) w':=by
     intro v w' ⟨h1,h2,h3⟩;have hput:=vv V (λk=>listed.getD k false) v (l.take n) 0 a0 i o (by rw [htk i hin];exact ho) (by simpa using hfalse) (λj o' ho' hj t ht hd=>by
      have hjn:j<n:=by rcases XC j n with h|h;exact h;rw [Xq (by rw [htl];exact h)]at ho';cases ho'
      rw [htk j hjn]at ho';rcases (hlk j t hjn (by rw [ho'];exact hd)).2 with h|h
      ·exact hj h
      ·exact h ht)
     rw [hput];simp only [Xl];have hcongr:cQ (λj=>if j=i then v else V j) (λj=>if j=i then true else listed.getD j false) (l.take n) 0 a0=
      cQ (λj=>if j=i then v else V j) (λk=>(listed.setIfInBounds i true).getD k false) (l.take n) 0 a0:=by
      refine rf _ _ _ _ _ _ _ λj _=>⟨?_,λ_=>rfl⟩
      simp only [Xl]
      by_cases hji:j=i
      ·subst hji;rw [if_pos rfl];simp [show j<listed.size by omega]
      ·rw [if_neg hji,getD_set_ne false (Ne.symm hji)]
     rw [hcongr];refine ih (listed.setIfInBounds i true) w' _ (λk c hc=>by
      by_cases hki:k=i
      ·subst hki;rw [if_pos rfl];exact hex k v w' h1 c hc
      ·rw [if_neg hki];exact hV k c hc) (by have:=zX ah hfalse n hin;omega) (by simpa using hsz) (inv.set hi hin)
      (λt ht=>by rw [getD_set_ne false ah];exact hta t ht) (by
       rwa [show(λk=>(listed.setIfInBounds i true).getD k false)=(λj=>j==i||listed.getD j false)from funext λk=>by
        by_cases hki:k=i
        ·subst hki;simp [show k<listed.size by omega]
        ·rw [getD_set_ne false (Ne.symm hki)];simp [hki]]) λk hk hl=>?_
     by_cases hki:k=i
     ·subst hki;simpa using h1
     ·rw [getD_set_ne false (Ne.symm hki)]at hl;simp only [if_neg hki];exact h3 k _ hki hl (hF k hk hl)
    have hnd:∀ c,o.op≠ .defer c:=λc hc=>by
     have:=Xv.1 hdf o (Xp ho);rw [hc]at this;cases this
    unfold wpOpIn;rw [hopl,ho];simp only []
    split
    ·rename_i hw
     rw [if_pos hw]at hst;exact vB hnd hnext hst
    ·rename_i hw
     rw [if_neg hw]at hst;exact⟨λf _=>trivial,hnext undef w ⟨hst.1,hst.2,λ_ _ _ _ h=>h⟩⟩
 have hu:fC (Array.replicate l.toArray.size false) n=n:=by
  have:∀ k,fC (Array.replicate l.toArray.size false) k=k:=by
   intro k
   induction k with
   | zero=>rfl
   | succ k ih=>simp only [fC];rw [ih,getD_replicate_false];simp
  exact this n
 have H:=key n (Array.replicate l.toArray.size false) {w0 with drawn:=w0.drawn+1} (λk=>(ex k).getD undef) (λk c hc=>by simp [hc]) hu aN
  ⟨aN,λj oj _ hl=>(by rw [getD_replicate_false]at hl;cases hl),λt _ ht=>getD_in (by simpa using ht) (getD_replicate_false _ _)⟩ (λt _=>getD_replicate_false _ _) (by simpa only [getD_replicate_false]using hb)
  (λk _ hl=>by rw [getD_replicate_false]at hl;cases hl)
 rw [pV _ _ _ _ _ (λi _=>getD_replicate_false _ _)]at H;rw [show n+(l.length - n)=l.toArray.size by simp;omega]at H;exact H
theorem DT{a0:Act}{w0:World}{l:List Oper}{Q:Exit->Act->World->Prop}(n:Nat)(Fl:List SF)(ds:List (Option Tmp))
 (hdf:jj l=true)(hB:fo l.toArray n=true)(hE:fP l (l.take n) 0 a0.tmps.size=true)(hds:(l.take n).map (·.dst)=ds)
 (steps:∀ V e0,(∀ t,e0 t=a0.tmps.getD t undef)->ui P w0 (Fs Fl) (val Fl V) (l.take n) 0 e0)
 (tail:∀ V w,Ext w0 w->qf (Fs Fl) (val Fl V) w n->wpListIn Fence.wide 8 P l.toArray Q (l.drop n) (pa (val Fl V) ds 0 a0) w):wpAnyIn Fence.wide 8 P .any l.toArray Q l.toArray.size (Array.replicate l.toArray.size false) a0 {w0 with drawn:=w0.drawn+1}:=
 Nk n (λ_=>Ext w0) (Fs Fl) (λk=>(Fl.getD k SF.any).ex) hdf hB (Ext.one w0) (λk v w h c hc=>(Fl.getD k SF.any).law v w h c hc)
  (λV hV=>yv (by
   have:=yz (ops:=l) (r:=l.drop n) hE rfl (λ_=>rfl) aN (λ_ _ h=>absurd h (Ym _)) (steps V (λt=>a0.tmps.getD t undef) (λ_=>rfl))
   rwa [qu hV]at this))
  (λV w hV hw hf=>by have:=tail V w hw;rw [qu hV]at this;rw [pW,hds];exact this hf)
end
section
variable {lb:Nat} {ys:List (List AV)} {P:Program} {N:Nat} {Q:IQ} {e:Nat->AV} {b:Bool} {i:Nat}
def kr(lb:Nat)(ys:List (List AV))(P:Program)(N:Nat)(ops:Array Oper)(tail:List Oper)(Q:IQ)(b:Bool)(i:Nat):List Oper->(Nat->AV)->Prop
 | [],e=>IL lb ys P N ops tail Q e b i
 | o::l,e=>∃ r,((Gd ops o e/\ ∀ mem,bw P o e mem r)\/(Ng ops o e/\r= .v undef))/\kr lb ys P N ops tail Q b i l (aS e o.dst r)
theorem HG{ops:Array Oper}{tail:List Oper}(h:IL lb ys P N ops tail Q e b i):kr lb ys P N ops tail Q b i [] e:=h
theorem Vk{ops:Array Oper}{tail l:List Oper}{o:Oper}{r:AV}(ho:∀ mem,bw P o e mem r)(hg:Gd ops o e)(_hd:dA N o.dst=true)(h:kr lb ys P N ops tail Q b i l (aS e o.dst r)):kr lb ys P N ops tail Q b i (o::l) e:=⟨r,.inl ⟨hg,ho⟩,h⟩
theorem PV{ops:Array Oper}{tail l:List Oper}{o:Oper}(hg:Ng ops o e)(_hd:dA N o.dst=true)(h:kr lb ys P N ops tail Q b i l (aS e o.dst (.v undef))):kr lb ys P N ops tail Q b i (o::l) e:=⟨_,.inr ⟨hg,rfl⟩,h⟩
theorem PW{ops:Array Oper}{tail l:List Oper}{s:Tmp}{t:Bool}(hb:ak e (.tmp s)= .v (.bool t))(ht:ak e (.tmp s)= .v (.bool true)->t=true->kr lb ys P N ops tail Q b i l e)(hf:ak e (.tmp s)= .v (.bool false)->t=false->kr lb ys P N ops tail Q b i l e):kr lb ys P N ops tail Q b i l e:=xp hb ht hf
theorem mO{d:Option Tmp}{ty:TypeId}{pos:String}{af:Array Edge}{g:Option (Nat×Bool)}{ops:Array Oper}{tail l:List Oper}{op:Op}{r:AV}(ho:∀ mem,bw P ⟨d,op,ty,pos,af,g⟩ e mem r)(hg:Gd ops ⟨d,op,ty,pos,af,g⟩ e)(hd:dA N d=true)(h:kr lb ys P N ops tail Q b i l (aS e d r)):kr lb ys P N ops tail Q b i (⟨d,op,ty,pos,af,g⟩::l) e:=Vk ho hg hd h
theorem DU{d:Option Tmp}{ty:TypeId}{pos:String}{af:Array Edge}{g:Option (Nat×Bool)}{ops:Array Oper}{tail l:List Oper}{op:Op}(hg:Ng ops ⟨d,op,ty,pos,af,g⟩ e)(hd:dA N d=true)(h:kr lb ys P N ops tail Q b i l (aS e d (.v undef))):kr lb ys P N ops tail Q b i (⟨d,op,ty,pos,af,g⟩::l) e:=PV hg hd h
theorem EO{mem:List Ob}{ops:Array Oper}{tail:List Oper}:∀ {l:List Oper} {e:Nat->AV},kr lb ys P N ops tail Q b i l e-> ∃ rs,rs.length=l.length/\uP P ops mem l e rs/\IL lb ys P N ops tail Q (eQ l e rs) b i
 | [],e,h=>⟨[],rfl,rfl,h⟩
 | o::l,e,⟨r,h1,h2⟩=>by
  obtain⟨rs,h3,h4,h5⟩:=EO (mem:=mem) h2;exact⟨r::rs,by simp [h3],⟨r,rs,rfl,h1.imp (λh=>⟨h.1,h.2 mem⟩) id,h4⟩,h5⟩
theorem Tt{id:Nat}{l:List Oper}{e:Nat->AV}(n:Nat)(hm:P.follows .mixedOrders =true)(hd:jj l=true)(hB:fo l.toArray n=true)(hE:fP l (l.take n) 0 N=true)(h:kr lb ys P N l.toArray (l.drop n) Q b i (l.take n) e):IW lb ys P N (.region id l.toArray true) Q e b i:=by
 intro pb w0 J hJ hY θ mem a w hf0 hj;have hf:=hf0.1;obtain⟨rs,h1,h2,h3⟩:=EO (mem:=mem) h;refine wpIn_region_any hm ?_;have hn:n<=l.length:=by
  simp only [fo,Xg,decide_eq_true_eq]at hB
  simpa using hB.1.1.1.2
 have hlen:rs.length=n:=by rw [h1];simp;omega
 have hsz:((l.take n).map (·.dst)).all (λd=>dA N d)=true:=by
  have key:∀ (m:List Oper) (k:Nat),fP l m k N=true->(m.map (·.dst)).all (λd=>dA N d)=true:=by
   intro m
   induction m with
   | nil=>intro _ _;rfl
   | cons o m ih=>
    intro k hk;simp only [fP,Xg]at hk;simp only [XI,Yf,Xg];refine⟨?_,ih _ hk.2⟩;have:=hk.1.1;cases hd:o.dst with
    | none=>rfl
    | some d=>rw [hd]at this;simp only [Xg]at this;exact this.1
  exact key _ _ hE
 have hfit0:∀ V,Fits l rs V e (λt=>a.tmps.getD t undef) 0 e (λt=>a.tmps.getD t undef):=λV t=>.inr ⟨λj o hj _=>absurd hj (Ym _),rfl,rfl⟩
 have hex:∀ k c,((rs.map (lW θ (aO pb θ mem))).getD k SF.any).ex ≠some c:=by
  intro k c hc;rw [Xc,Xh]at hc;cases hr:rs[k]? with
  | none=>rw [hr]at hc;cases hc
  | some r=>rw [hr]at hc;cases hc
 have hval:∀ V,val (rs.map (lW θ (aO pb θ mem))) V=V:=λV=>qu λk c hc=>absurd hc (hex k c)
 refine DT n (rs.map (lW θ (aO pb θ mem))) ((l.take n).map (·.dst)) hd hB (by rw [hf.size];exact hE) rfl (λV e0 he0=>?_) (λV w' hx hft=>?_)
 ·rw [hval];have he:e0=λt=>a.tmps.getD t undef:=funext he0
  subst he;exact vc hB hf.sim hf.sl hn hlen rfl rfl h2 (hfit0 V)
 ·rw [hval]at hft ⊢;obtain⟨a1,a2,a3⟩:=oD V N ((l.take n).map (·.dst)) 0 a hf.size hsz;have hfit:=rA (l:=l) (rs:=rs) (V:=V) (e0:=e) (v0:=λt=>a.tmps.getD t undef) hn hlen rfl rfl (hfit0 V) (Xy _);refine h3 pb w0 J hJ hY θ mem _ w' ⟨⟨a1,by rw [a2];exact hf.dfr.step (Step.ext hf.sim hx),λt=>?_,hf.sim.ext' hx⟩,by rw [a2];exact hf0.2⟩ (hJ _ _ _ _ _ _ hf.sim hj hx);rw [a3 t];simp only [Yv]at hfit;rcases hfit t with⟨j,o,r,b1,b2,b3,b4,b5,b6⟩|⟨b1,b2,b3⟩
  ·rw [b5,b6];have hF:=vb b1 hft;unfold Fs at hF;rw [Xc,Xh,b4]at hF;exact hF
  ·rw [b2,b3];exact(hf.sl t).ext hx
end
end Go.Proofs.YtbmlgmblfboigaaGreatDoor
