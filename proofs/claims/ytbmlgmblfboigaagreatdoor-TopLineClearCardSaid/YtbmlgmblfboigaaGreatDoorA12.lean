/- Lemmas for the statement. -/
import Derived.Test.YtbmlgmblfboigaaGreatDoorA11
import Derived.Laws.Cover1
namespace Go.Proofs.YtbmlgmblfboigaaGreatDoor
open Go Go.RowKit Go.Proofs
set_option linter.unusedSimpArgs false
set_option linter.unusedVariables false
section
variable {P:Program} {ops:Array Oper}
def hZ(P:Program)(X:List PanicEntry->World->Prop)(φ:Value->World->Prop):Result Next->Prop
 | .ok (.value u) w'=>φ u w'
 | .ok .skip w'=>φ undef w'
 | .ok (.enter f args) w'=>Calls P f args w' λe w''=>(∃ u,e= .returned u/\φ u w'')\/ ∃ ch,e= .panicked ch/\X ch w''
 | _=>False
theorem dw.J9{X:List PanicEntry->World->Prop}{φ:Value->World->Prop}{r:Result Next}(h:dw P φ r):hZ P X φ r:=by
 cases r with
 | ok n w'=>cases n<;>simp only [dw]at h<;>first|exact h|exact h.mono λ_ _ hq=>.inl hq
 | halt x w'=>simp only [dw]at h
theorem hZ.mono{X:List PanicEntry->World->Prop}{φ φ':Value->World->Prop}{r:Result Next}(hm:∀ v w,φ v w->φ' v w)(h:hZ P X φ r):hZ P X φ' r:=by
 cases r with
 | ok n w'=>cases n<;>simp only [hZ]at h ⊢ <;>first|exact hm _ _ h|exact h.mono λ_ _ hq=>hq.imp (λ⟨u,h1,h2⟩=>⟨u,h1,hm _ _ h2⟩) id
 | halt x w'=>simp only [hZ]at h
theorem Oper.LY{o:Oper}{a:Act}{w:World}{X:List PanicEntry->World->Prop}{φ:Value->World->Prop}{K:Act->World->Prop}{Q:Exit->Act->World->Prop}
 (hK:∀ v w',φ v w'->K (a.put o.dst v) w')(hX:∀ ch w',X ch w'->Q (.panic ch) a w')(h:hZ P X φ ((execOp a.eval o).run P w)):o.wp P a w K Q:=by
 unfold Oper.wp;generalize (execOp a.eval o).run P w=r at*;cases r with
 | ok n w'=>
  cases n<;>simp only [hZ]at h<;>simp only [Oper.upon]
  case value u=>exact hK _ _ h
  case skip=>exact hK _ _ h
  case enter f args=>
   refine h.mono λe w'' he=>?_
   rcases he with⟨u,he,hu⟩|⟨ch,he,hu⟩
   ·subst he;exact hK _ _ hu
   ·subst he;exact hX _ _ hu
 | halt x w'=>simp only [hZ]at h
theorem DN{Q:Exit->Act->World->Prop}{a0:Act}{w0:World}{l:List Oper}(n:Nat)(B:(Nat->Bool)->(Nat->Value)->World->Prop)(X:List PanicEntry->World->Prop)(hX:∀ V m ch w,X ch w->Q (.panic ch) (cQ V m (l.take n) 0 a0) w)
 (hB:fo l.toArray n=true)(hb:B (λ_=>false) (λ_=>undef) {w0 with drawn:=w0.drawn+1})
 (steps:∀ V i o m w,i<n->l[i]? =some o->m i=false->(∀ e∈o.after,Region.binds .any e=true->m e.on=true)->B m V w->
  if Region.wanted o (yielded l.toArray (dn V (l.take i) 0 a0).tmps)then hZ P X (λv w'=>B (λj=>j==i||m j) (λj=>if j=i then v else V j) w') ((execOp (dn V (l.take i) 0 a0).eval o).run P w)
  else B (λj=>j==i||m j) (λj=>if j=i then undef else V j) w)
 (tail:∀ V w,B (λk=>decide (k<n)) V w->wpList P l.toArray Q (l.drop n) (dn V (l.take n) 0 a0) w):wpAny P .any l.toArray Q l.toArray.size (Array.replicate l.toArray.size false) a0 {w0 with drawn:=w0.drawn+1}:=by
 simp only [fo,Xg,decide_eq_true_eq]at hB;obtain⟨⟨⟨⟨hsel,hn⟩,hheads⟩,htails⟩,hseq⟩:=hB;have hn':n<=l.length:=by simpa using hn
 have htl:(l.take n).length =n:=by simp;omega
 have hopl:∀ i:Nat,l.toArray[i]? =l[i]? :=λi=>by simp
 have htk:∀ i:Nat,i<n->(l.take n)[i]? =l[i]? :=λi hi=>by simp [hi]
 -- what the Bool says of a head
 have head:∀ i o,i<n->l[i]? =some o->(∀ e∈o.after,Region.binds .any e=true->e.on<i)/\(∀ g b,o.guard=some (g,b)->fm o g=true)/\
  ∀ k t,k<n->(l[k]?).bind (·.dst)=some t->((o.looksAt l.toArray).contains t=true->(k<i/\fm o k=true)\/(i<k/\oV l.toArray k i=true))/\(k=i\/o.dst≠some t):=by
  intro i o hi ho;have h1:=Xv.1 hheads i (XX.2 hi);rw [hopl,ho]at h1;simp only [Xg]at h1;obtain⟨⟨h1,h2⟩,h3⟩:=h1;refine⟨λe he hb=>?_,λg b hg=>?_,λk t hk ht=>?_⟩
  ·have:=Xv.1 h1 e oS
   simpa [hb]using this
  ·rw [hg]at h2;exact h2
  ·have:=Xv.1 h3 k (XX.2 hk);rw [hopl,ht]at this;simp only [Xg,X1,XF,decide_eq_true_eq,beq_iff_eq,bne_iff_ne,ne_eq]at this;exact⟨λhc=>by
    rcases this.1 with(h|h)|h
    ·exact absurd h (by rw [hc];simp)
    ·exact .inl h
    ·exact .inr h,this.2⟩
 have waits:∀ {o:Oper} {k:Nat},fm o k=true-> ∃ e∈o.after,e.on=k/\Region.binds .any e=true:=λ{o k} h=>by
  obtain⟨e,he,hk⟩:=X5.1 h;exact⟨e,by simpa using he,by simpa using hk⟩
 -- a tail waits
 have tails:∀ (i0:Nat),i0<n-> ∀ listed:Array Bool,HeadInv .any l.toArray n listed->listed.getD i0 true=false-> ∀ t,n<=t->t<l.length->t∉Region.ready .any l.toArray listed:=by
  intro i0 hi0 listed inv hun t ht htlt;simp only [X1,Xg,decide_eq_true_eq]at htails;rcases htails with he|⟨⟨h1,h2⟩,h3⟩
  ·simp only [YM]at he;omega
  ·exact tail_waits h2 h3 h1 inv _ i0 rfl hi0 hun t ht
 -- the run
 have key:∀ (h:Nat) (listed:Array Bool) (w:World) (V:Nat->Value),fC listed n=h->listed.size=l.length->HeadInv .any l.toArray n listed->(∀ t,n<=t->listed.getD t false=false)->B (λk=>listed.getD k false) V w->
  wpAny P .any l.toArray Q (h+(l.length - n)) listed (cQ V (λk=>listed.getD k false) (l.take n) 0 a0) w:=by
  intro h
  induction h with
  | zero=>
   intro listed w V hu hsz inv hta hBw;have hall:=ta hu;have hcan:listed=(List.range n).foldl (λl i=>l.setIfInBounds i true) (Array.replicate l.toArray.size false):=by
    refine Array.ext (by rw [pK];simpa using hsz) λj h1 h2=>?_
    have e1:listed.getD j false=listed[j]:=by simp [h1]
    have e2:=yy n l.toArray.size j (by rw [pK]at h2;exact h2);rw [Xn,X9 h2,Option.getD_some]at e2;rw [e2, <- e1]
    by_cases hjn:j<n
    ·rw [hall j hjn];simp [hjn]
    ·rw [hta j ah];simp [hjn]
   rw [qa V _ (l.take n) 0 a0 λi hi=>by rw [Xl];exact hall i (by rw [htl]at hi;exact hi)];have hdl:(l.drop n).length =l.toArray.size - n:=by simp
   have:=wpAny_of_seq (P:=P) (md:=.any) (Q':=Q) (l.drop n) n listed (dn V (l.take n) 0 a0) w (λj=>by simp [XH]) (by rw [hdl,hcan];exact hseq)
    (tail V w (by rwa [show(λk=>listed.getD k false)=(λk=>decide (k<n))from funext λk=>by
     by_cases hk:k<n
     ·rw [hall k hk];simp [hk]
     ·rw [hta k ah];simp [hk]]at hBw))
   rw [Xl]
   simpa using this
  | succ h ih=>
   intro listed w V hu hsz inv hta hBw;rw [show h+1+(l.length - n)=(h+(l.length - n))+1 by omega];obtain⟨i0,hi0,hi1,hi2⟩:=wq (listed:=listed) (n:=n) ah;refine⟨λh0=>?_,λi hi=>?_⟩
   ·
    obtain⟨o,ho⟩:∃ o,l[i0]? =some o:=⟨l[i0]' ah,Xd _⟩;have:i0∈Region.ready .any l.toArray listed:=mem_ready.2 ⟨getD_in ah hi1,o,by rw [hopl];exact ho,λe he hb=>hi2 _ ((head i0 o hi0 ho).1 e he hb)⟩;rw [h0]at this;cases this
   ·obtain⟨hun,o,ho,hall⟩:=mem_ready.1 hi;rw [hopl]at ho;have hlt:i<l.length:=by rcases XC i l.length with h|h;exact h;rw [Xq h]at ho;cases ho
    have hin:i<n:=by
     rcases XC i n with h|h
     ·exact h
     ·exact absurd hi (tails i0 hi0 listed inv (getD_in ah hi1) i h hlt)
    obtain⟨hed,hgd,hlk⟩:=head i o hin ho;have hdeps:∀ e∈o.after,Region.binds .any e=true->listed.getD e.on false=true:=λe he hb=>hall e he hb
    have hfalse:listed.getD i false=false:=getD_both hun
    -- the frame as the text has it looks the same to this operation
    have same:∀ t,(o.looksAt l.toArray).contains t=true->(cQ V (λk=>listed.getD k false) (l.take n) 0 a0).tmps[t]? =(dn V (l.take i) 0 a0).tmps[t]? :=by
     intro t ht;have e1:dn V (l.take i) 0 a0=cQ V (λk=>decide (k<i)) (l.take n) 0 a0:=by
      have:l.take n=l.take i++(l.take n).drop i:=by
       conv=>lhs;rw [<- Yc i (l.take n)]
       rw [X2,XW ah]
      rw [this];have app:∀ (l1 l2:List Oper) (k:Nat) (a:Act) (m:Nat->Bool),cQ V m (l1++l2) k a=cQ V m l2 (k+l1.length) (cQ V m l1 k a):=by
       intro l1
       induction l1 with
       | nil=>intro l2 k a m;rfl
       | cons x l1 ih=>intro l2 k a m;simp only [Yr,cQ,Xo];rw [ih];congr 1;omega
      rw [app,pV,qa]
      ·intro j hj;simp at hj ⊢;omega
      ·intro j hj;simp at hj ⊢;omega
     rw [e1];refine vw V _ _ t (l.take n) 0 a0 a0 rfl rfl λk ok hk hd=>?_
     have hkn:k<n:=by rcases XC k n with h|h;exact h;rw [Xq (by rw [htl];exact h)]at hk;cases hk
     rw [htk k hkn]at hk;rcases (hlk k t hkn (by rw [hk];exact hd)).1 ht with⟨h1,h2⟩|⟨h1,h2⟩
     ·obtain⟨e,he,hek,hb⟩:=waits h2;have:=hdeps e he hb;rw [hek]at this;simp only [Xl];rw [this];simp [h1]
     ·have hkf:listed.getD k false=false:=by
       cases hbk:listed.getD k false with
       | false=>rfl
       | true=>
        have hk':l.toArray[k]? =some ok:=by rw [hopl];exact hk
        unfold oV at h2;rw [hk']at h2;obtain⟨e,he,hek,hb⟩:=waits h2;have:=inv.closed k ok hk' hbk e he hb;rw [hek,hfalse]at this;cases this
      simp only [Xl];rw [hkf];simp;omega
    have hexec:execOp (cQ V (λk=>listed.getD k false) (l.take n) 0 a0).eval o=execOp (dn V (l.take i) 0 a0).eval o:=
     execOp_congr o (λcs b=>Region.noSelect_spec hsel i o cs b (by rw [hopl];exact ho)) λx hx=>by
      cases x with
      | tmp t=>
       have:=same t (rm hx)
       show Array.getD _ t undef=Array.getD _ t undef
       rw [Xn,Xn,this]
      | _=>rfl
    have hwant:Region.wanted o (yielded l.toArray (cQ V (λk=>listed.getD k false) (l.take n) 0 a0).tmps)=Region.wanted o (yielded l.toArray (dn V (l.take i) 0 a0).tmps):=by
     unfold Region.wanted;cases hg:o.guard with
     | none=>rfl
     | some gb=>
      obtain⟨g,b⟩:=gb;simp only []
      congr 1
      unfold yielded;cases hd:(l.toArray[g]?).bind (·.dst)with
      | none=>rfl
      | some t=>simp only [Option.bind_some];rw [same t (pN hg hd)]
    have hst:=steps V i o (λk=>listed.getD k false) w hin ho (by simpa using hfalse) (λe he hb=>hdeps e he hb) hBw;rw [<- hwant, <- hexec]at hst
    -- and behind it
    have hnext:∀ v w',B (λj=>j==i||listed.getD j false) (λj=>if j=i then v else V j) w'->
     wpAny P .any l.toArray Q (h+(l.length - n)) (listed.setIfInBounds i true) ((cQ V (λk=>listed.getD k false) (l.take n) 0 a0).put o.dst v) w':=by
     intro v w' h2;have hput:=vv V (λk=>listed.getD k false) v (l.take n) 0 a0 i o (by rw [htk i hin];exact ho) (by simpa using hfalse) (λj o' ho' hj t ht hd=>by
      have hjn:j<n:=by rcases XC j n with h|h;exact h;rw [Xq (by rw [htl];exact h)]at ho';cases ho'
      rw [htk j hjn]at ho';rcases (hlk j t hjn (by rw [ho'];exact hd)).2 with h|h
      ·exact hj h
      ·exact h ht)
     rw [hput];simp only [Xl];have hcongr:cQ (λj=>if j=i then v else V j) (λj=>if j=i then true else listed.getD j false) (l.take n) 0 a0=
      cQ (λj=>if j=i then v else V j) (λk=>(listed.setIfInBounds i true).getD k false) (l.take n) 0 a0:=by
      refine rf _ _ _ _ _ _ _ λj _=>⟨?_,λ_=>rfl⟩
      simp only [Xl]
      by_cases hji:j=i
      ·subst hji;rw [if_pos rfl];simp [show j<listed.size by omega]
      ·rw [if_neg hji,getD_set_ne false (Ne.symm hji)]
     rw [hcongr];refine ih (listed.setIfInBounds i true) w' _ (by have:=zX ah hfalse n hin;omega) (by simpa using hsz) (inv.set hi hin)
      (λt ht=>by rw [getD_set_ne false ah];exact hta t ht) (by
       rwa [show(λk=>(listed.setIfInBounds i true).getD k false)=(λj=>j==i||listed.getD j false)from funext λk=>by
        by_cases hki:k=i
        ·subst hki;simp [show k<listed.size by omega]
        ·rw [getD_set_ne false (Ne.symm hki)];simp [hki]])
    unfold wpOp;rw [hopl,ho];simp only []
    split
    ·rename_i hw
     rw [if_pos hw]at hst;exact .inl (Oper.LY hnext (λch w' h=>hX V _ ch w' h) hst)
    ·rename_i hw
     rw [if_neg hw]at hst;exact hnext undef w hst
 have hu:fC (Array.replicate l.toArray.size false) n=n:=by
  have:∀ k,fC (Array.replicate l.toArray.size false) k=k:=by
   intro k
   induction k with
   | zero=>rfl
   | succ k ih=>simp only [fC];rw [ih,getD_replicate_false];simp
  exact this n
 have H:=key n (Array.replicate l.toArray.size false) {w0 with drawn:=w0.drawn+1} (λ_=>undef) hu aN
  ⟨aN,λj oj _ hl=>(by rw [getD_replicate_false]at hl;cases hl),λt _ ht=>getD_in (by simpa using ht) (getD_replicate_false _ _)⟩ (λt _=>getD_replicate_false _ _) (by simpa only [getD_replicate_false]using hb)
 rw [pV _ _ _ _ _ (λi _=>getD_replicate_false _ _)]at H;rw [show n+(l.length - n)=l.toArray.size by simp;omega]at H;exact H
theorem PE{Q:Exit->Act->World->Prop}{a0:Act}{w0:World}{l:List Oper}(n:Nat)(B:(Nat->Bool)->(Nat->Value)->World->Prop)
 (hB:fo l.toArray n=true)(hb:B (λ_=>false) (λ_=>undef) {w0 with drawn:=w0.drawn+1})
 (steps:∀ V i o m w,i<n->l[i]? =some o->m i=false->(∀ e∈o.after,Region.binds .any e=true->m e.on=true)->B m V w->
  if Region.wanted o (yielded l.toArray (dn V (l.take i) 0 a0).tmps)then dw P (λv w'=>B (λj=>j==i||m j) (λj=>if j=i then v else V j) w') ((execOp (dn V (l.take i) 0 a0).eval o).run P w)
  else B (λj=>j==i||m j) (λj=>if j=i then undef else V j) w)
 (tail:∀ V w,B (λk=>decide (k<n)) V w->wpList P l.toArray Q (l.drop n) (dn V (l.take n) 0 a0) w):wpAny P .any l.toArray Q l.toArray.size (Array.replicate l.toArray.size false) a0 {w0 with drawn:=w0.drawn+1}:=by
 refine DN n B (λ_ _=>False) (λ_ _ _ _ h=>h.elim) hB hb (λV i o m w h1 h2 h3 h4 h5=>?_) tail;have:=steps V i o m w h1 h2 h3 h4 h5
 split at this
 ·rename_i h;rw [if_pos h];exact this.J9
 ·rename_i h;rw [if_neg h];exact this
end
structure Eff where
 op:Nat
 idx:Nat
 ob:Ob
def eZ(base:List Ob)(m:Nat->Bool):List Eff->List Ob
 | []=>base
 | q::l=>eZ (if m q.op=true then base.set q.idx q.ob else base) m l
theorem Ht(m:Nat->Bool):∀ (l:List Eff) (base:List Ob),(eZ base m l).length =base.length
 | [],_=>rfl
 | q::l,base=>by
  simp only [eZ];rw [Ht m l]
  split<;>simp
theorem qh(m:Nat->Bool):∀ (l l':List Eff) (base:List Ob),eZ base m (l++l')=eZ (eZ base m l) m l'
 | [],_,_=>rfl
 | q::l,l',base=>qh m l l' _
theorem qi{m m':Nat->Bool}{j:Nat}:∀ {l:List Eff} {base base':List Ob},base.length=base'.length->base[j]? =base'[j]? ->(∀ q∈l,q.idx=j->m q.op=m' q.op)->(eZ base m l)[j]? =(eZ base' m' l)[j]?
 | [],_,_,_,h,_=>h
 | q::l,base,base',hl,h,hq=>by
  simp only [eZ];have hq0:=hq q aN;refine qi ?_ ?_ λq' hq'=>hq q' (by simp [hq'])
  ·split<;>split<;>simp [hl]
  ·by_cases hj:q.idx=j
   ·rw [hq0 hj]
    split
    ·subst hj
     by_cases hlt:q.idx<base.length
     ·rw [Xt hlt,Xt ah]
     ·rw [Xq cJ,Xq cJ]
    ·exact h
   ·have e:∀ (b:Bool) (M:List Ob),(if b=true then M.set q.idx q.ob else M)[j]? =M[j]? :=λb M=>by
     split
     ·rw [Xm hj]
     ·rfl
    rw [e,e];exact h
theorem EJ{m:Nat->Bool}{j:Nat}{l:List Eff}{base:List Ob}(hq:∀ q∈l,q.idx=j->m q.op=false):(eZ base m l)[j]? =base[j]? :=by
 have h:=qi (m:=m) (m':=λ_=>false) (j:=j) (l:=l) (base:=base) (base':=base) rfl rfl hq;rw [h];have:∀ (l:List Eff) (base:List Ob),eZ base (λ_=>false) l=base:=by
  intro l
  induction l with
  | nil=>intro _;rfl
  | cons q l ih=>intro base;simp only [eZ];rw [ih];simp
 rw [this]
section
variable {M:Mode} {P:Program} {N:Nat} {Q:AQ} {mem:List Ob} {ops:List Oper} {tail:List Oper}
inductive Wt (ops:List Oper):Nat->Nat->Prop
 | one {i k:Nat} {o:Oper}:ops[i]? =some o->fm o k=true->Wt ops i k
 | trans {i k l:Nat}:Wt ops i k->Wt ops k l->Wt ops i l
theorem gV(i k:Nat)(h:(match ops[i]? with|some o=>fm o k|none=>false)=true):Wt ops i k:=by
 cases ho:ops[i]? with
 | none=>rw [ho]at h;cases h
 | some o=>rw [ho]at h;exact .one ho h
def mD(R:List Nat)(mt M:List Ob):Prop:=∀ j∈R,M[j]? =mt[j]?
theorem cn{R:List Nat}{mt M:List Ob}{j:Nat}{o:Option Ob}(h:mD R mt M)(hm:mt[j]? =o)(hj:j∈R):M[j]? =o:=(h j hj).trans hm
def mE(ops:List Oper)(k:Nat)(R:List Nat):List Eff->Prop
 | []=>True
 | q::l=>(q.idx∉R\/Wt ops k q.op)/\mE ops k R l
theorem mE.at{k:Nat}{R:List Nat}:∀ {l:List Eff},mE ops k R l-> ∀ q∈l,q.idx∈R->Wt ops k q.op
 | _::_,h,q,hq,hR=>by
  rcases XM.1 hq with rfl|hq
  ·exact h.1.resolve_left (λhn=>hn hR)
  ·exact h.2.at q hq hR
theorem Hu{k:Nat}:∀ {l:List Eff},mE ops k [] l
 | []=>trivial
 | _::_=>⟨.inl aN,Hu⟩
def nU(ops:List Oper)(k j:Nat):List (Nat×List Nat)->Prop
 | []=>True
 | q::l=>(j∉q.2\/Wt ops k q.1)/\nU ops k j l
theorem nU.at{k j:Nat}:∀ {l:List (Nat×List Nat)},nU ops k j l-> ∀ q∈l,j∈q.2->Wt ops k q.1
 | _::_,h,q,hq,hR=>by
  rcases XM.1 hq with rfl|hq
  ·exact h.1.resolve_left (λhn=>hn hR)
  ·exact h.2.at q hq hR
structure One where
 r:AV
 R:List Nat
 eff:Option (Nat×Ob)
 new:Bool
 old:Option (Nat×Ob)
 pj:Option ((Value->Value)×(Value->Value))
def One.jC(k:Nat)(x:One):List Eff:=match x.eff with|some (j,ob)=>(match x.old with|some (i,oi)=> [⟨k,i,oi⟩,⟨k,j,ob⟩]|none=> [⟨k,j,ob⟩])|none=> []
def One.wr(x:One)(j:Nat):Prop:=(∃ ob,x.eff=some (j,ob))\/((∃ oi,x.old=some (j,oi))/\x.eff≠none)
def One.acc(k:Nat)(x:One):List (Nat×List Nat):=if x.R= []then []else [(k,x.R)]
def One.jc(k:Nat)(x:One):List (Nat×(Value->Value)):=if x.new=true then(match x.pj with|none=> [(k,λv=>v)]|some (p1,p2)=> [(k,p1),(k,p2)])else []
def One.mt(x:One)(mt:List Ob):List Ob:=match x.eff with|some (j,ob)=>(match x.old with|some (i,oi)=>(mt.set i oi).set j ob|none=>mt.set j ob)|none=>mt
theorem One.Va(x:One)(mt:List Ob):(x.mt mt).length =mt.length:=by
 unfold One.mt
 split
 ·split<;>simp
 ·rfl
theorem One.JB{x:One}{j:Nat}(mt:List Ob)(h:¬ x.wr j):(x.mt mt)[j]? =mt[j]? :=by
 unfold One.mt
 split
 ·rename_i j' ob he
  have h1:j'≠j:=λe=>h (.inl ⟨ob,by rw [he,e]⟩)
  split
  ·rename_i i oi ho
   have h2:i≠j:=λe=>h (.inr ⟨⟨oi,by rw [ho,e]⟩,by rw [he];simp⟩)
   rw [Xm h1,Xm h2]
  ·rw [Xm h1]
 ·rfl
theorem One.V6{x:One}{j:Nat}{mt mt':List Ob}(hl:mt.length=mt'.length)(h:x.wr j):(x.mt mt)[j]? =(x.mt mt')[j]? :=by
 have same:∀ (i:Nat) (o:Ob) (a b:List Ob),a.length=b.length->(a.set i o)[i]? =(b.set i o)[i]? :=λi o a b hab=>by
  by_cases hi:i<a.length
  ·rw [Xt hi,Xt ah]
  ·rw [Xq cJ,Xq cJ]
 unfold One.mt
 split
 ·rename_i j' ob he
  split
  ·rename_i i oi ho
   by_cases hj:j'=j
   ·subst hj;exact same _ _ _ _ (by simp [hl])
   ·rw [Xm hj,Xm hj];rcases h with⟨ob',h⟩|⟨⟨_,h⟩,_⟩
    ·rw [he]at h;cases h;exact absurd rfl hj
    ·rw [ho]at h;cases h;exact same _ _ _ _ hl
  ·rename_i ho
   rcases h with⟨ob',h⟩|⟨⟨_,h⟩,_⟩
   ·rw [he]at h;cases h;exact same _ _ _ _ hl
   ·rw [ho]at h;cases h
 ·rename_i he
  rcases h with⟨ob',h⟩|⟨_,h⟩
  ·rw [he]at h;cases h
  ·exact absurd he h
theorem One.Hv(x:One)(k:Nat)(mt:List Ob)(m:Nat->Bool)(hm:m k=true):eZ mt m (x.jC k)=x.mt mt:=by
 unfold One.jC One.mt
 split
 ·split<;>simp [eZ,hm]
 ·rfl
theorem One.PG(x:One)(k:Nat)(mt:List Ob)(m:Nat->Bool)(hm:m k=false):eZ mt m (x.jC k)=mt:=by
 unfold One.jC
 split
 ·split<;>simp [eZ,hm]
 ·rfl
def WH(P:Program)(o:Oper)(e:Nat->AV)(mem:List Ob)(ob1 ob2:Ob)(p1 p2:Value->Value)(h:Nat->Nat->AV):Prop:=
 ∀ (pb:Nat->Prop) (w0:Bs) (θ:List Value) (w:World) (ev:Nat->Value),cm pb w0 w θ mem->(∀ x∈o.op.operands,R1 θ (aO pb θ mem) w (ak e x) (aT ev x))->
  dw P (λv w'=>Ext w w'/\(∀ b,cA (p1 v)=some b->w.heap.size<=b)/\(∀ b,cA (p2 v)=some b->w.heap.size<=b)/\(∀ b,cA (p1 v)=some b->cA (p2 v)=some b->False)/\
   (∀ θ' pr,(∀ a x,R1 θ (aO pb θ mem) w a x->R1 θ' pr w' a x)->dI θ' pr w0.gp w' (p1 v) ob1/\dI θ' pr w0.gp w' (p2 v) ob2)/\
   ∀ θ' (pr:Nat->Prop) i j,(∀ b,b<w'.heap.size->pr b->(aO pb θ mem b/\b<w.heap.size)\/cA (p1 v)=some b\/cA (p2 v)=some b)->θ'[i]? =some (p1 v)->θ'[j]? =some (p2 v)->R1 θ' pr w' (h i j) v) ((execOp (aT ev) o).run P w)
theorem Step.V7{pb:Nat->Prop}{w0:Bs}{w w':World}{θ:List Value}{mem:List Ob}(h:cm pb w0 w θ mem){k1 k2:Nat}(hne:k1≠k2)(hm1:mem[k1]? =some .gone)(hv1:θ[k1]? =some undef)(hm2:mem[k2]? =some .gone)(hv2:θ[k2]? =some undef)(hx:Ext w w')(v1 v2:Value)(o1 o2:Ob)
 (hb1:∀ b,cA v1=some b->w.heap.size<=b)(hb2:∀ b,cA v2=some b->w.heap.size<=b)(hd:∀ b,cA v1=some b->cA v2=some b->False)
 (ho:∀ θ' pr,(∀ a x,R1 θ (aO pb θ mem) w a x->R1 θ' pr w' a x)->dI θ' pr w0.gp w' v1 o1/\dI θ' pr w0.gp w' v2 o2):Step pb w0 θ mem w ((θ.set k1 v1).set k2 v2) ((mem.set k1 o1).set k2 o2) w':=by
 have hk1m:k1<mem.length:=(Xe.1 hm1).1;have hk1t:k1<θ.length:=(Xe.1 hv1).1;have hk2m:k2<mem.length:=(Xe.1 hm2).1;have hk2t:k2<θ.length:=(Xe.1 hv2).1;have hθ:∀ (j:Nat) (x:Value),x≠undef->θ[j]? =some x->((θ.set k1 v1).set k2 v2)[j]? =some x:=λj x hx hj=>by
  by_cases hj1:k1=j
  ·subst hj1;rw [hv1]at hj;cases hj;exact absurd rfl hx
  ·by_cases hj2:k2=j
   ·subst hj2;rw [hv2]at hj;cases hj;exact absurd rfl hx
   ·rw [Xm hj2,Xm hj1];exact hj
 have split:∀ {j:Nat} {p:Ob} {u:Value},((mem.set k1 o1).set k2 o2)[j]? =some p->((θ.set k1 v1).set k2 v2)[j]? =some u->(mem[j]? =some p/\θ[j]? =some u)\/(j=k1/\p=o1/\u=v1)\/(j=k2/\p=o2/\u=v2):=by
  intro j p u hm hu
  by_cases hj2:k2=j
  ·subst hj2;rw [Xt (by simpa using hk2m)]at hm;rw [Xt (by simpa using hk2t)]at hu;cases hm;cases hu;exact .inr (.inr ⟨rfl,rfl,rfl⟩)
  ·rw [Xm hj2]at hm hu
   by_cases hj1:k1=j
   ·subst hj1;rw [Xt hk1m]at hm;rw [Xt hk1t]at hu;cases hm;cases hu;exact .inr (.inl ⟨rfl,rfl,rfl⟩)
   ·rw [Xm hj1]at hm hu;exact .inl ⟨hm,hu⟩
 have hp:∀ b,b<w.heap.size-> ¬ aO pb θ mem b-> ¬ aO pb ((θ.set k1 v1).set k2 v2) ((mem.set k1 o1).set k2 o2) b:=by
  intro b hlt hn hq;rcases hq with hq|⟨j,p,u,h1,h2,h3,h4⟩
  ·exact hn (.inl hq)
  rcases split h1 h3 with⟨h5,h6⟩|⟨rfl,rfl,rfl⟩|⟨rfl,rfl,rfl⟩
  ·exact hn (.inr ⟨j,p,u,h5,h2,h6,h4⟩)
  ·exact absurd (hb1 b h4) ah
  ·exact absurd (hb2 b h4) ah
 have keep:∀ a x,R1 θ (aO pb θ mem) w a x->R1 ((θ.set k1 v1).set k2 v2) (aO pb ((θ.set k1 v1).set k2 v2) ((mem.set k1 o1).set k2 o2)) w' a x:=λa x hr=>hr.mono' hθ hx.size (λb hb _=>hx.block b hb) hp
 refine⟨⟨h.ext.ext hx,h.low,by simp [h.len],λj p u hm hu=>?_,λi j p q u u' b h1 h2 h3 h4 h5 h6 h7 h8=>?_⟩,keep,hx.size,λb hb _=>hx.block b hb,hp⟩
 ·rcases split hm hu with⟨h5,h6⟩|⟨rfl,rfl,rfl⟩|⟨rfl,rfl,rfl⟩
  ·by_cases hg:p= .gone
   ·subst hg;trivial
   ·exact(h.ob j p u h5 h6).mono' hθ hx.size (λb hb _=>hx.block b hb) hp (λb hb=>hx.block b ((h.ob j p u h5 h6).lt hg hb).2)
  ·exact(ho _ _ keep).1
  ·exact(ho _ _ keep).2
 ·rcases split h1 h5 with⟨a1,a2⟩|⟨rfl,rfl,rfl⟩|⟨rfl,rfl,rfl⟩<;>rcases split h3 h6 with⟨a3,a4⟩|⟨rfl,rfl,rfl⟩|⟨rfl,rfl,rfl⟩
  ·exact h.dis i j p q u u' b a1 h2 a3 h4 a2 a4 h7 h8
  ·have:=((h.ob i p u a1 a2).lt h2 h7).2;have:=hb1 b h8;omega
  ·have:=((h.ob i p u a1 a2).lt h2 h7).2;have:=hb2 b h8;omega
  ·have:=((h.ob j q u' a3 a4).lt h4 h8).2;have:=hb1 b h7;omega
  ·rfl
  ·exact(hd b h7 h8).elim
  ·have:=((h.ob j q u' a3 a4).lt h4 h8).2;have:=hb2 b h7;omega
  ·exact(hd b h8 h7).elim
  ·rfl
def Does(P:Program)(ops:List Oper)(n0:Nat)(o:Oper)(k:Nat)(e:Nat->AV)(mt:List Ob)(c:Nat)(x:One):Prop:=
 match x.eff with
 | none=>x.new=false/\((Gd ops.toArray o e/\ ∀ M,mD x.R mt M->bw P o e M x.r)\/(Ng ops.toArray o e/\x.r= .v undef))
 | some (j,ob)=>j∈x.R/\(∀ i oi,x.old=some (i,oi)->i∈x.R)/\Gd ops.toArray o e/\(if x.new=true then(match x.pj with
  | none=>mt[j]? =some .gone /\j=n0+c/\ ∃ h:Nat->AV,x.r=h j/\ ∀ M,mD x.R mt M->(match x.old with|some (i,oi)=>oi= .gone /\sC P o e M i ob h|none=>kN P o e M ob h)
  | some (p1,p2)=>∃ i oi,x.old=some (i,oi)/\mt[i]? =some .gone /\mt[j]? =some .gone /\i=n0+c/\j=n0+c+1/\ ∃ h:Nat->Nat->AV,x.r=h i j/\ ∀ M,mD x.R mt M->WH P o e M oi ob p1 p2 h)
  else x.old=none/\x.r= .any /\ ∀ M,mD x.R mt M->nO P o e M j ob)
def DH(P:Program)(N:Nat)(ops:List Oper)(tail:List Oper)(Q:AQ)(n0 K:Nat):List Oper->Nat->(Nat->AV)->List Ob->Nat->List Eff->List (Nat×List Nat)->Prop
 | [],_,e,mt,c,_,_=>c=K/\AL P N ops.toArray tail Q e mt
 | o::l,k,e,mt,c,E,A=>∃ x:One,Does P ops n0 o k e mt c x/\mE ops k x.R E/\(∀ j,x.wr j->nU ops k j A)/\ ∀ mt',mt'=x.mt mt->DH P N ops tail Q n0 K l (k+1) (aS e o.dst x.r) mt' (c+(x.jc k).length) (E++x.jC k) (A++x.acc k)
def Ce(P:Program)(ops:List Oper)(n0:Nat):List Oper->Nat->(Nat->AV)->List Ob->Nat->List Eff->List (Nat×List Nat)->List One->Prop
 | [],_,_,_,_,_,_,xs=>xs= []
 | o::l,k,e,mt,c,E,A,xs=>∃ x xs',xs=x::xs'/\Does P ops n0 o k e mt c x/\mE ops k x.R E/\(∀ j,x.wr j->nU ops k j A)/\Ce P ops n0 l (k+1) (aS e o.dst x.r) (x.mt mt) (c+(x.jc k).length) (E++x.jC k) (A++x.acc k) xs'
def ot:List One->List Ob->List Ob
 | [],mt=>mt
 | x::l,mt=>ot l (x.mt mt)
def fp:Nat->List One->List Eff
 | _,[]=> []
 | k,x::l=>x.jC k++fp (k+1) l
def ft:Nat->List One->List (Nat×(Value->Value))
 | _,[]=> []
 | k,x::l=>x.jc k++ft (k+1) l
theorem Hw{n0 K:Nat}:∀ {l:List Oper} {k:Nat} {e:Nat->AV} {mt:List Ob} {c:Nat} {E:List Eff} {A:List (Nat×List Nat)},DH P N ops tail Q n0 K l k e mt c E A->
 ∃ xs,xs.length=l.length/\Ce P ops n0 l k e mt c E A xs/\c+(ft k xs).length =K/\AL P N ops.toArray tail Q (eQ l e (xs.map (·.r))) (ot xs mt)
 | [],_,e,mt,c,E,A,⟨h1,h2⟩=>⟨[],rfl,rfl,h1,h2⟩
 | o::l,k,e,mt,c,E,A,⟨x,h1,h2,h3,h4⟩=>by
  obtain⟨xs,g1,g2,g3,g4⟩:=Hw (h4 _ rfl);exact⟨x::xs,by simp [g1],⟨x,xs,rfl,h1,h2,h3,g2⟩,by simp only [ft,XD];omega,g4⟩
theorem A8{x:One}{k:Nat}{q:Eff}(h:q∈x.jC k):q.op=k/\x.wr q.idx:=by
 unfold One.jC at h;cases hx:x.eff with
 | none=>rw [hx]at h;simp at h
 | some p=>
  obtain⟨j,ob⟩:=p;rw [hx]at h;cases ho:x.old with
  | none=>rw [ho]at h;simp at h;subst h;exact⟨rfl,.inl ⟨ob,hx⟩⟩
  | some p=>
   obtain⟨i,oi⟩:=p;rw [ho]at h;simp at h;rcases h with rfl|rfl
   ·exact⟨rfl,.inr ⟨⟨oi,ho⟩,by rw [hx];simp⟩⟩
   ·exact⟨rfl,.inl ⟨ob,hx⟩⟩
theorem rC:∀ {xs:List One} {k:Nat} {q:Eff},q∈fp k xs-> ∃ i x,xs[i]? =some x/\q.op=k+i/\x.wr q.idx
 | x::l,k,q,h=>by
  rcases Yg.1 h with h|h
  ·exact⟨0,x,rfl,(A8 h).1,(A8 h).2⟩
  ·obtain⟨i,y,h1,h2,h3⟩:=rC h;exact⟨i+1,y,h1,ah,h3⟩
theorem Vb{x:One}{k:Nat}{q:Nat×(Value->Value)}(h:q∈x.jc k):q.1=k/\x.new=true:=by
 unfold One.jc at h
 by_cases hx:x.new=true
 ·rw [if_pos hx]at h;cases hp:x.pj with
  | none=>rw [hp]at h;simp at h;subst h;exact⟨rfl,hx⟩
  | some p=>
   rw [hp]at h;simp at h;rcases h with rfl|rfl
   ·exact⟨rfl,hx⟩
   ·exact⟨rfl,hx⟩
 ·rw [if_neg hx]at h;simp at h
theorem xr:∀ {xs:List One} {k:Nat} {q:Nat×(Value->Value)},q∈ft k xs-> ∃ i x,xs[i]? =some x/\q.1=k+i/\x.new=true
 | x::l,k,q,h=>by
  rcases Yg.1 h with h|h
  ·obtain⟨h1,h2⟩:=Vb h;exact⟨0,x,rfl,ah,h2⟩
  ·obtain⟨i,y,h1,h2,h3⟩:=xr h;exact⟨i+1,y,h1,ah,h3⟩
theorem xt{n0:Nat}:∀ {l:List Oper} {k:Nat} {e:Nat->AV} {mt:List Ob} {c:Nat} {E:List Eff} {A:List (Nat×List Nat)} {xs:List One},Ce P ops n0 l k e mt c E A xs-> ∀ {i:Nat} {o:Oper},l[i]? =some o->
 ∃ x,xs[i]? =some x/\Does P ops n0 o (k+i) (eQ (l.take i) e (xs.map (·.r))) (ot (xs.take i) mt) (c+(ft k (xs.take i)).length) x/\mE ops (k+i) x.R (E++fp k (xs.take i))/\
  (∀ j,x.wr j->(∀ i' y,i'<i->xs[i']? =some y->j∈y.R->Wt ops (k+i) (k+i'))/\ ∀ q∈A,j∈q.2->Wt ops (k+i) q.1)
 | [],_,_,_,_,_,_,_,_,i,o,hi=>by simp at hi
 | o1::l,k,e,mt,c,E,A,xs,⟨x,xs',h1,h2,h3,h4,h5⟩,0,o,ho=>by
  subst h1;obtain rfl:o1=o:=by simpa using ho
  exact⟨x,rfl,h2,by simpa [fp]using h3,λj hx=>⟨λi' y h=>by omega,(h4 j hx).at⟩⟩
 | o1::l,k,e,mt,c,E,A,xs,⟨x,xs',h1,h2,h3,h4,h5⟩,i+1,o,ho=>by
  subst h1;obtain⟨y,g1,g2,g3,g4⟩:=xt h5 (show l[i]? =some o from by simpa using ho);have hk:k+1+i=k+(i+1):=by omega
  rw [hk]at g2 g3 g4;refine⟨y,g1,?_,by simpa [fp]using g3,λj hx=>⟨λi' z hi' hz hj=>?_,λq hq=>(g4 j hx).2 q (by simp [hq])⟩⟩
  ·have e1:c+(ft k ((x::xs').take (i+1))).length =c+(x.jc k).length +(ft (k+1) (xs'.take i)).length :=by simp [ft];omega
   rw [e1];exact g2
  ·cases i' with
   | zero=>
    obtain rfl:x=z:=by simpa using hz
    have:(k,x.R)∈A++x.acc k:=by
     unfold One.acc;rw [if_neg (λe=>by rw [e]at hj;simp at hj)];simp
    exact(g4 j hx).2 (k,x.R) this hj
   | succ i'=>
    have:=(g4 j hx).1 i' z ah (by simpa using hz) hj
    rwa [show k+1+i'=k+(i'+1)by omega]at this
theorem Ac:∀ (xs:List One) (k:Nat) (mt:List Ob),ot xs mt=eZ mt (λ_=>true) (fp k xs)
 | [],_,_=>rfl
 | x::l,k,mt=>by
  simp only [ot,fp];rw [qh,Ac l (k+1)]
  congr 1
  exact(One.Hv x k mt _ rfl).symm
theorem EK:∀ (xs ys:List One) (k:Nat),fp k (xs++ys)=fp k xs++fp (k+xs.length) ys
 | [],_,_=>by simp [fp]
 | x::l,ys,k=>by simp only [Yr,fp,EK l ys,XP,Xo];rw [show k+1+l.length=k+(l.length+1)by omega]
theorem Hy:∀ (xs ys:List One) (k:Nat),ft k (xs++ys)=ft k xs++ft (k+xs.length) ys
 | [],_,_=>by simp [ft]
 | x::l,ys,k=>by simp only [Yr,ft,Hy l ys,XP,Xo];rw [show k+1+l.length=k+(l.length+1)by omega]
theorem cm.room{pb:Nat->Prop}{w0:Bs}{w:World}:∀ (K:Nat) {θ:List Value} {mem:List Ob},cm pb w0 w θ mem->Step pb w0 θ mem w (θ++List.replicate K undef) (mem++List.replicate K .gone) w
 | 0,θ,mem,h=>by simp only [List.replicate_zero,X3];exact Step.refl h
 | K+1,θ,mem,h=>by
  have s:=Step.new h (Ext.refl w) undef .gone (λb hb=>by cases hb) (λ_ _ _=>trivial);have h1:=cm.room K s.sim;simp only [XP,List.singleton_append, <- List.replicate_succ]at h1;exact s.trans h1
theorem PH{β γ:Type}{sf:List γ}{p:Nat}{q:γ}{f g:γ->β}(A:List β)(hp:sf[p]? =some q)(hfg:∀ p' q',sf[p']? =some q'->p'≠p->g q'=f q'):(A++sf.map f).set (A.length+p) (g q)=A++sf.map g:=by
 have hlt:=(Xe.1 hp).1;refine XV λi=>?_
 by_cases hi:A.length+p=i
 ·subst hi;rw [Xt (by simp;exact hlt),Xk ah,show A.length+p - A.length=p by omega,Xh,hp];rfl
 ·rw [Xm hi];rcases XC i A.length with h|h
  ·rw [Xj h,Xj h]
  ·rw [Xk h,Xk h,Xh,Xh];cases hq:sf[i - A.length]? with
   | none=>rfl
   | some q'=>simp only [Option.map_some];rw [hfg _ q' hq ah]
theorem PK{β γ:Type}{sf:List γ}{p:Nat}{q1 q2:γ}{f g:γ->β}(A:List β)(hp1:sf[p]? =some q1)(hp2:sf[p+1]? =some q2)(hfg:∀ p' q',sf[p']? =some q'->p'≠p->p'≠p+1->g q'=f q'):((A++sf.map f).set (A.length+p) (g q1)).set (A.length+p+1) (g q2)=A++sf.map g:=by
 have hlt:=(Xe.1 hp1).1;have hlt2:=(Xe.1 hp2).1;refine XV λi=>?_
 by_cases hi2:A.length+p+1=i
 ·subst hi2;rw [Xt cJ,Xk ah,show A.length+p+1 - A.length=p+1 by omega,Xh,hp2];rfl
 ·rw [Xm hi2]
  by_cases hi:A.length+p=i
  ·subst hi;rw [Xt cJ,Xk ah,show A.length+p - A.length=p by omega,Xh,hp1];rfl
  ·rw [Xm hi];rcases XC i A.length with h|h
   ·rw [Xj h,Xj h]
   ·rw [Xk h,Xk h,Xh,Xh];cases hq:sf[i - A.length]? with
    | none=>rfl
    | some q'=>simp only [Option.map_some];rw [hfg _ q' hq ah ah]
theorem Td{α β:Type}(l:List α)(b:β):(l.map λ_=>b)=List.replicate l.length b:=by
 induction l with
 | nil=>rfl
 | cons x l ih=>simp [List.replicate_succ,ih]
theorem PL{id:Nat}{l:List Oper}{e:Nat->AV}(n K:Nat)(hm:P.follows .mixedOrders =true)(hd:jj l=true)(hB:fo l.toArray n=true)(hE:fP l (l.take n) 0 N=true)
 (h:∀ mt,mt=mem++List.replicate K .gone ->DH P N l (l.drop n) Q mem.length K (l.take n) 0 e mt 0 [] []):AW M P N (.region id l.toArray true) Q e mem:=by
 refine A0 hm hd λpb w0 θ a w hf=>?_
 obtain⟨xs,h1,h2,hK,h3⟩:=Hw (h _ rfl);rw [Xl]at hK;have hn:n<=l.length:=by
  simp only [fo,Xg,decide_eq_true_eq]at hB
  simpa using hB.1.1.1.2
 have hlen:xs.length=n:=by rw [h1];simp;omega
 have hrl:(xs.map (·.r)).length =n:=by simp [hlen]
 have hsz:∀ i,i<=n->((l.take i).map (·.dst)).all (λd=>dA N d)=true:=by
  intro i hi;have key:∀ (m:List Oper) (k:Nat),fP l m k N=true->(m.map (·.dst)).all (λd=>dA N d)=true:=by
   intro m
   induction m with
   | nil=>intro _ _;rfl
   | cons o m ih=>
    intro k hk;simp only [fP,Xg]at hk;simp only [XI,Yf,Xg];refine⟨?_,ih _ hk.2⟩;have:=hk.1.1;cases hd:o.dst with
    | none=>rfl
    | some d=>rw [hd]at this;simp only [Xg]at this;exact this.1
  have:=key _ _ hE;rw [Xv]at this ⊢;intro d hd;obtain⟨o,ho,rfl⟩:=XL.1 hd;refine this _ (XL.2 ⟨o,?_,rfl⟩);have e1:l.take i=(l.take n).take i:=by rw [X2,XW hi]
  rw [e1]at ho;exact Yj ho
 -- the slots in the order of the text
 have fits:∀ V i,i<=n->Fits l (xs.map (·.r)) V e (λt=>a.tmps.getD t undef) i (eQ ((l.take n).take i) e (xs.map (·.r))) (λt=>(dn V (l.take i) 0 a).tmps.getD t undef):=by
  intro V i hi;obtain⟨a1,a2,a3⟩:=oD V N ((l.take i).map (·.dst)) 0 a hf.size (hsz i hi);have h0:Fits l ((xs.map (·.r)).take i) V e (λt=>a.tmps.getD t undef) 0 e (λt=>a.tmps.getD t undef):=λt=>.inr ⟨λj o hj _=>absurd hj (Ym _),rfl,rfl⟩
  have hfit:=rA (l:=l) (n:=i) (rs:=(xs.map (·.r)).take i) (V:=V) (e0:=e) (v0:=λt=>a.tmps.getD t undef) ah cJ (m:=l.take i) (k:=0) (rs':=(xs.map (·.r)).take i) rfl rfl h0 (Xy _);have e2:∀ (m:List Oper) (rs:List AV) (e:Nat->AV),eQ m e (rs.take m.length)=eQ m e rs:=by
   intro m
   induction m with
   | nil=>intro rs e;cases rs<;>rfl
   | cons o m ih=>intro rs e;cases rs with
    | nil=>rfl
    | cons r rs=>exact ih rs _
  have e3:(l.take i).length =i:=by simp;omega
  have e4:eQ (l.take i) e ((xs.map (·.r)).take i)=eQ (l.take i) e (xs.map (·.r)):=by
   have:=e2 (l.take i) (xs.map (·.r)) e;rwa [e3]at this
  rw [X2,XW hi];intro t;have:=hfit t;rw [e4]at this;rw [pW];simp only [a3 t];rcases this with⟨j,o,x,b1,b2,b3,b4,b5,b6⟩|⟨b1,b2,b3⟩
  ·exact .inl ⟨j,o,x,b1,b2,b3,by rw [XY b1]at b4;exact b4,b5,b6⟩
  ·exact .inr ⟨b1,b2,b3⟩
 let base:=mem++List.replicate K Ob.gone
 let th:(Nat->Bool)->(Nat->Value)->List Value:=λm V=>θ++(ft 0 xs).map λq=>if m q.1=true then q.2 (V q.1)else undef
 let me:(Nat->Bool)->List Ob:=λm=>eZ base m (fp 0 xs)
 let BB:(Nat->Bool)->(Nat->Value)->World->Prop:=λm V w'=>Step pb w0 θ mem w (th m V) (me m) w'/\
  (∀ k x,k<n->m k=true->xs[k]? =some x->R1 (th m V) (aO pb (th m V) (me m)) w' x.r (V k))/\ ∀ k o,m k=true->l[k]? =some o-> ∀ ed∈o.after,Region.binds .any ed=true->m ed.on=true
 have wtm:∀ {m:Nat->Bool},(∀ k o,m k=true->l[k]? =some o-> ∀ ed∈o.after,Region.binds .any ed=true->m ed.on=true)-> ∀ {i k:Nat},Wt l i k->m i=true->m k=true:=by
  intro m hcl i k hw
  induction hw with
  | one ho hw=>
   intro hi;unfold fm at hw;rw [X5]at hw;obtain⟨ed,he,hk⟩:=hw;simp only [Xg,beq_iff_eq]at hk;rw [<- hk.1];exact hcl _ _ hi ho ed oS hk.2
  | trans _ _ ih1 ih2=>exact λhi=>ih2 (ih1 hi)
 refine PE n BB hB ?_ ?_ ?_
 ·have g1:=(Step.ext hf.sim (Ext.one w)).trans (cm.room K (hf.sim.ext' (Ext.one w)));have e1:th (λ_=>false) (λ_=>undef)=θ++List.replicate K undef:=by
   simp only [th,Xi,if_false,Td,hK]
  have e2:me (λ_=>false)=base:=by
   have:∀ (l:List Eff) (base:List Ob),eZ base (λ_=>false) l=base:=by
    intro l
    induction l with
    | nil=>intro _;rfl
    | cons q l ih=>intro base;simp only [eZ];rw [ih];simp
   exact this _ _
  refine⟨by rw [e1,e2];exact g1,?_,?_⟩
  ·intro k x _ hk;cases hk
  ·intro k o hk;cases hk
 ·intro V i o m w1 hin hok hmi hdep ⟨hst0,hrs,hcl⟩;have hs:=hst0.sim;have h0:∀ t,R1 (th m V) (aO pb (th m V) (me m)) w1 (e t) (a.tmps.getD t undef):=λt=>hst0.keep _ _ (hf.sl t)
  have hio:(l.take n)[i]? =some o:=by rw [XY hin];exact hok
  obtain⟨x,hx,hdo,hchk,hchk2⟩:=xt h2 hio;simp only [Xl,Yx]at hdo hchk hchk2;have hfit:=fits V i (Yk hin);obtain⟨hedge,hgw,hlk⟩:=vy hB hin hok
  -- those that it waits for are through, and those that wait for it are not
  have wt0:∀ {k:Nat},fm o k=true->m k=true:=λ{k} hw=>by
   unfold fm at hw;rw [X5]at hw;obtain⟨ed,he,hk⟩:=hw;simp only [Xg,beq_iff_eq]at hk;rw [<- hk.1];exact hdep ed oS hk.2
  have wt1:∀ {k:Nat},Wt l i k->m k=true:=by
   have key:∀ {j k:Nat},Wt l j k->j=i->m k=true:=by
    intro j k hw
    induction hw with
    | one ho hw=>rintro rfl;rw [hok]at ho;cases ho;exact wt0 hw
    | trans _ h2 ih1 _=>exact λhj=>wtm hcl h2 (ih1 hj)
   exact λ{_} hw=>key hw rfl
  have wt2:∀ {k:Nat},Wt l k i->m k=false:=λ{k} hw=>by
   cases hk:m k with
   | false=>rfl
   | true=>have:=wtm hcl hw hk;rw [hmi]at this;cases this
  have slot:∀ t,(o.looksAt l.toArray).contains t=true->R1 (th m V) (aO pb (th m V) (me m)) w1 (eQ ((l.take n).take i) e (xs.map (·.r)) t) ((dn V (l.take i) 0 a).tmps.getD t undef):=by
   intro t ht;rcases hfit t with⟨j,o',y,a1,a2,a3,a4,a5,a6⟩|⟨a1,a2,a3⟩
   ·have:=((hlk j t ah (by rw [a2];exact a3)).1 ht).resolve_right (λh=>absurd h.1 ah);rw [a5,show(dn V (l.take i) 0 a).tmps.getD t undef=V j from a6];rw [Xh]at a4;cases hy:xs[j]? with
    | none=>rw [hy]at a4;cases a4
    | some z=>
     rw [hy]at a4;obtain rfl:z.r=y:=by simpa using a4
     exact hrs j z ah (wt0 this.2) hy
   ·rw [a2,show(dn V (l.take i) 0 a).tmps.getD t undef=a.tmps.getD t undef from a3];exact h0 t
  have opr:∀ y∈o.op.operands,R1 (th m V) (aO pb (th m V) (me m)) w1 (ak (eQ ((l.take n).take i) e (xs.map (·.r))) y) (aT (λt=>(dn V (l.take i) 0 a).tmps.getD t undef) y):=by
   intro y hym;cases y with
   | tmp t=>exact slot t (rm hym)
   | const v=>exact .ro (.v v)
   | global g=>exact .ro (.v _)
   | func f=>exact .ro (.v _)
  have wtd:Gd l.toArray o (eQ ((l.take n).take i) e (xs.map (·.r)))->Region.wanted o (yielded l.toArray (dn V (l.take i) 0 a).tmps)=true:=by
   intro hg;unfold Region.wanted;unfold Gd at hg;cases hgd:o.guard with
   | none=>rfl
   | some g=>
    obtain⟨j,b⟩:=g;rw [hgd]at hg;obtain⟨d,g1,g2⟩:=hg;have hv:=slot d (pN hgd g1);rw [show eQ ((l.take n).take i) e (xs.map (·.r)) d=_ from g2]at hv;simp [sT g1 hv.val]
  have uwd:Ng l.toArray o (eQ ((l.take n).take i) e (xs.map (·.r)))->Region.wanted o (yielded l.toArray (dn V (l.take i) 0 a).tmps)=false:=by
   intro hg;unfold Region.wanted;unfold Ng at hg;cases hgd:o.guard with
   | none=>rw [hgd]at hg;exact hg.elim
   | some g=>
    obtain⟨j,b⟩:=g;rw [hgd]at hg;obtain⟨d,g1,g2⟩:=hg;have hv:=slot d (pN hgd g1);rcases g2 with g2|g2
    ·rw [show eQ ((l.take n).take i) e (xs.map (·.r)) d=_ from g2]at hv;simp [sT g1 hv.val]
    ·rw [show eQ ((l.take n).take i) e (xs.map (·.r)) d=_ from g2]at hv;simp [CP g1 hv.val]
  have hsplit:xs=xs.take i++x::xs.drop (i+1):=by
   have:=Yc i xs;rw [Ys ah]at this;have e:xs[i]' ah=x:=by rw [Xd ah]at hx;simpa using hx
   rw [e]at this;exact this.symm
  have htk:(xs.take i).length =i:=by simp;omega
  have heff:fp 0 xs=fp 0 (xs.take i)++(x.jC i++fp (i+1) (xs.drop (i+1))):=by
   have:=EK (xs.take i) (x::xs.drop (i+1)) 0;rw [<- hsplit,htk,Xl]at this;exact this
  have hnws:ft 0 xs=ft 0 (xs.take i)++(x.jc i++ft (i+1) (xs.drop (i+1))):=by
   have:=Hy (xs.take i) (x::xs.drop (i+1)) 0;rw [<- hsplit,htk,Xl]at this;exact this
  -- the places that it asks for are as the text has them
  have hagr:mD x.R (ot (xs.take i) base) (me m):=by
   intro j hj;have hmt:ot (xs.take i) base=eZ base (λ_=>true) (fp 0 (xs.take i)):=Ac _ 0 _;rw [hmt]
   show(eZ base m (fp 0 xs))[j]? =_
   rw [heff,qh];have late:∀ q∈x.jC i++fp (i+1) (xs.drop (i+1)),q.idx=j->m q.op=false:=by
    intro q hq hqj;rcases Yg.1 hq with hq|hq
    ·rw [(A8 hq).1];exact hmi
    ·obtain⟨k,y,h5,h6,h7⟩:=rC hq;rw [XH]at h5;obtain⟨ok,hok'⟩:∃ ok,(l.take n)[i+1+k]? =some ok:=by
      have:i+1+k<xs.length:=(Xe.1 h5).1;exact⟨_,Xd cJ⟩
     obtain⟨y',g1,_,_,g4⟩:=xt h2 hok';rw [h5]at g1;cases g1;simp only [Xl]at g4;have:=(g4 q.idx h7).1 i x ah hx (by rw [hqj];exact hj);rw [h6];exact wt2 this
   rw [EJ late];refine qi rfl rfl λq hq hqj=>?_
   exact(wt1 (hchk.at q hq (by rw [hqj];exact hj)))
  have hcl':∀ k o',(k==i||m k)=true->l[k]? =some o'-> ∀ ed∈o'.after,Region.binds .any ed=true->(ed.on==i||m ed.on)=true:=by
   intro k o' hk ho' ed hed hb
   by_cases hki:k=i
   ·subst hki;rw [hok]at ho';cases ho';simp [hdep ed hed hb]
   ·simp [hcl k o' (by simpa [hki]using hk) ho' ed hed hb]
  have thn:x.new=false-> ∀ v,th (λj=>j==i||m j) (λj=>if j=i then v else V j)=th m V:=λhnew v=>by
   show θ++_=θ++_
   congr 1
   refine List.map_congr_left λq hq=>?_
   have:q.1≠i:=by
    rintro rfl;obtain⟨k,y,h5,h6,h7⟩:=xr hq;rw [Xl]at h6;rw [<- h6]at h5;rw [hx]at h5;cases h5;rw [hnew]at h7;cases h7
   simp [this]
  unfold Does at hdo;cases hxe:x.eff with
  | none=>
   rw [hxe]at hdo;obtain⟨hnew,hdo⟩:=hdo;have e2:me (λj=>j==i||m j)=me m:=by
    show eZ base _ _=eZ base _ _
    refine XV λj=>qi rfl rfl λq hq _=>?_
    obtain⟨k,y,h5,h6,h7⟩:=rC hq;have:q.op≠i:=by
     intro e';have:k=i:=by omega
     subst this;rw [hx]at h5;cases h5;rcases h7 with⟨ob,h7⟩|⟨_,h7⟩
     ·rw [hxe]at h7;cases h7
     ·exact h7 hxe
    simp [this]
   have fin:∀ v w',R1 (th m V) (aO pb (th m V) (me m)) w' x.r v->Ext w1 w'->BB (λj=>j==i||m j) (λj=>if j=i then v else V j) w':=by
    intro v w' hv hxt;refine⟨by rw [thn hnew,e2];exact hst0.trans (Step.ext hs hxt),λk y hk hmk hyk=>?_,hcl'⟩;rw [thn hnew,e2]
    by_cases hki:k=i
    ·subst hki;rw [hx]at hyk;cases hyk;simpa using hv
    ·simp only [if_neg hki];exact(hrs k y hk (by simpa [hki]using hmk) hyk).ext hxt
   rcases hdo with⟨hg,hro⟩|⟨hg,hr⟩
   ·rw [if_pos (wtd hg),gm];exact dw.mono (λv w' ⟨g1,g2⟩=>fin v w' g1 g2) (hro _ hagr pb w0 _ w1 _ hs opr)
   ·rw [if_neg (by rw [uwd hg];exact YW)];exact fin undef w1 (by rw [hr];exact .ro (.v _)) (Ext.refl _)
  | some p=>
   obtain⟨j,ob⟩:=p;rw [hxe]at hdo;obtain⟨hjR,hiR,hg,hdo⟩:=hdo;have hthlen:(th m V).length =mem.length+K:=by
    show(θ++_).length =_
    rw [XD,XK,hK,hf.sim.len]
   have hwR:∀ j,x.wr j->j∈x.R:=λj' h=>by
    rcases h with⟨ob',h⟩|⟨⟨oi,h⟩,_⟩
    ·rw [hxe]at h;cases h;exact hjR
    ·exact hiR _ _ h
   -- the objects with this one written
   have e2:x.mt (me m)=me (λk=>k==i||m k):=by
    show x.mt (eZ base m (fp 0 xs))=eZ base _ (fp 0 xs)
    rw [heff,qh,qh,qh,qh,One.PG x i _ m hmi,One.Hv x i _ (λk=>k==i||m k) aN];have e3:eZ base (λk=>k==i||m k) (fp 0 (xs.take i))=eZ base m (fp 0 (xs.take i)):=by
     refine XV λj'=>qi rfl rfl λq hq _=>?_
     obtain⟨k,y,h5,h6,h7⟩:=rC hq;have h8:=(Xe.1 h5).1;have:q.op≠i:=by rw [htk]at h8;omega
     simp [this]
    rw [e3];generalize eZ base m (fp 0 (xs.take i))=B0;have late:∀ q∈fp (i+1) (xs.drop (i+1)),(x.wr q.idx->(q.op==i||m q.op)=false/\m q.op=false)/\(q.op==i||m q.op)=m q.op:=by
     intro q hq;obtain⟨k,y,h5,h6,h7⟩:=rC hq;have h9:q.op≠i:=by omega
     refine⟨λhwr=>?_,by simp [h9]⟩;rw [XH]at h5;obtain⟨ok,hok'⟩:∃ ok,(l.take n)[i+1+k]? =some ok:=by
      have:i+1+k<xs.length:=(Xe.1 h5).1;exact⟨_,Xd cJ⟩
     obtain⟨y',g1,_,_,g4⟩:=xt h2 hok';rw [h5]at g1;cases g1;simp only [Xl]at g4;have:=(g4 q.idx h7).1 i x ah hx (hwR _ hwr);have h8:m q.op=false:=by rw [h6];exact wt2 this
     simp [h8,h9]
    refine XV λj'=>?_
    by_cases hwr:x.wr j'
    ·rw [EJ (λq hq hqj=>((late q hq).1 (by rw [hqj];exact hwr)).1)];exact One.V6 (Ht _ _ _) hwr
    ·rw [One.JB _ hwr];refine qi (One.Va x B0).symm (One.JB _ hwr).symm λq hq _=>?_
     exact((late q hq).2).symm
   cases hnew:x.new with
   | false=>
    rw [hnew]at hdo;simp only [Xi,if_false]at hdo;obtain⟨hold,hr,hst⟩:=hdo;rw [if_pos (wtd hg),gm];refine dw.mono (λv w' ⟨_,st⟩=>?_) (hst _ hagr pb w0 _ w1 _ hs opr);have e4:(me m).set j ob=x.mt (me m):=by simp only [One.mt,hxe,hold]
    rw [e4,e2]at st;refine⟨by rw [thn hnew];exact hst0.trans st,λk y hk hmk hyk=>?_,hcl'⟩;rw [thn hnew]
    by_cases hki:k=i
    ·subst hki;rw [hx]at hyk;cases hyk;rw [hr];exact .ro (.any _)
    ·simp only [if_neg hki];exact st.keep _ _ (hrs k y hk (by simpa [hki]using hmk) hyk)
   | true=>
    rw [hnew]at hdo;simp only [if_true]at hdo;have other:∀ p' q',(ft 0 xs)[p']? =some q'->(p'<(ft 0 (xs.take i)).length \/(ft 0 (xs.take i)).length +(x.jc i).length <=p')->q'.1≠i:=by
     intro p' q' hp' hne e';rw [hnws]at hp';rcases hne with hlt|hge
     ·rw [Xj hlt]at hp';obtain⟨k,y,h5,h6,h7⟩:=xr (Xp hp');have:=(Xe.1 h5).1;simp at this;omega
     ·rw [Xk ah,Xk ah]at hp';obtain⟨k,y,h5,h6,h7⟩:=xr (Xp hp');omega
    cases hpj:x.pj with
    | none=>
     rw [hpj]at hdo;obtain⟨hgone,hj0,hh,hr,hnw⟩:=hdo;have hxn:x.jc i= [(i,λv=>v)]:=by simp [One.jc,hnew,hpj]
     have hjK:j<mem.length+K:=by
      rw [hj0, <- hK,hnws,hxn];simp
     have hpos:(ft 0 xs)[j - mem.length]? =some (i,λv=>v):=by
      rw [hnws,hxn,hj0,Xk ah];simp
     have hvk:(th m V)[j]? =some undef:=by
      show(θ++_)[j]? =_
      rw [Xk (by rw [hf.sim.len];omega),hf.sim.len,Xh,hpos];simp [hmi]
     have hmk:(me m)[j]? =some .gone :=(hagr j hjR).trans hgone;rw [if_pos (wtd hg),gm];have hnw':dw P (λv w'=>Step pb w0 (th m V) (me m) w1 ((th m V).set j v) (x.mt (me m)) w'/\ ∀ θ' pr j,θ'[j]? =some v->R1 θ' pr w' (hh j) v) ((execOp (aT λt=>(dn V (l.take i) 0 a).tmps.getD t undef) o).run P w1):=by
      have hnw:=hnw _ hagr;cases hold:x.old with
      | none=>
       rw [hold]at hnw;refine dw.mono (λv w' ⟨g1,g2,g3,g4⟩=>⟨?_,g4⟩) (hnw pb w0 _ w1 _ hs opr);have e4:x.mt (me m)=(me m).set j ob:=by simp only [One.mt,hxe,hold]
       rw [e4];exact Step.fill hs hmk hvk g1 v ob g2 g3
      | some q0=>
       obtain⟨i0,oi⟩:=q0;rw [hold]at hnw;obtain⟨hoi,hnw⟩:=hnw;subst hoi;refine dw.mono (λv w' ⟨o0,v0,f1,f2,f3,f4,f5,f6,f7,f8⟩=>⟨?_,f8⟩) (hnw pb w0 _ w1 _ hs opr);have e4:x.mt (me m)=((me m).set i0 .gone).set j ob:=by simp only [One.mt,hxe,hold]
       rw [e4];exact Step.V3 hs f1 f2 f3 hmk hvk f4 f5 v ob f6 f7
     refine dw.mono (λv w' ⟨st,g4⟩=>?_) hnw';have e1:(th m V).set j v=th (λk=>k==i||m k) (λk=>if k=i then v else V k):=by
      have:=PH (f:=λq:Nat×(Value->Value)=>if m q.1=true then q.2 (V q.1)else undef) (g:=λq:Nat×(Value->Value)=>if(q.1==i||m q.1)=true then q.2 (if q.1=i then v else V q.1)else undef) θ hpos (λp' q' hp' hne=>by
       have:=other p' q' hp' (by rw [hxn];simp;omega);simp [this])
      simp only [beq_self_eq_true,Bool.true_or,if_true]at this;rw [show θ.length+(j - mem.length)=j by rw [hf.sim.len];omega]at this;exact this
     rw [e1,e2]at st;refine⟨hst0.trans st,λk y hk hmk' hyk=>?_,hcl'⟩
     by_cases hki:k=i
     ·subst hki;rw [hx]at hyk;cases hyk;simp only [if_true];rw [hr];refine g4 _ _ _ ?_;rw [<- e1,Xt (Xe.1 hvk).1]
     ·simp only [if_neg hki];exact st.keep _ _ (hrs k y hk (by simpa [hki]using hmk') hyk)
    | some pp=>
     obtain⟨p1,p2⟩:=pp;rw [hpj]at hdo;obtain⟨i0,oi,hold,hgone1,hgone2,hi0,hj0,hh,hr,hnw⟩:=hdo;have hxn:x.jc i= [(i,p1),(i,p2)]:=by simp [One.jc,hnew,hpj]
     have hjK:j<mem.length+K:=by
      rw [hj0, <- hK,hnws,hxn];simp;omega
     have hpos1:(ft 0 xs)[i0 - mem.length]? =some (i,p1):=by
      rw [hnws,hxn,hi0,Xk ah];simp
     have hpos2:(ft 0 xs)[i0 - mem.length+1]? =some (i,p2):=by
      rw [hnws,hxn,hi0,Xk ah,show mem.length+(ft 0 (xs.take i)).length - mem.length+1 - (ft 0 (xs.take i)).length =1 by omega];rfl
     have hvk1:(th m V)[i0]? =some undef:=by
      show(θ++_)[i0]? =_
      rw [Xk (by rw [hf.sim.len];omega),hf.sim.len,Xh,hpos1];simp [hmi]
     have hvk2:(th m V)[j]? =some undef:=by
      show(θ++_)[j]? =_
      rw [Xk (by rw [hf.sim.len];omega),hf.sim.len,Xh,show j - mem.length=i0 - mem.length+1 by omega,hpos2];simp [hmi]
     have hmk1:(me m)[i0]? =some .gone :=(hagr i0 (hiR _ _ hold)).trans hgone1;have hmk2:(me m)[j]? =some .gone :=(hagr j hjR).trans hgone2;rw [if_pos (wtd hg),gm];refine dw.mono (λv w' ⟨g1,g2,g2',gd,g3,g4⟩=>?_) (hnw _ hagr pb w0 _ w1 _ hs opr);have e4:x.mt (me m)=((me m).set i0 oi).set j ob:=by simp only [One.mt,hxe,hold]
     have st:=Step.V7 hs (show i0≠j by omega) hmk1 hvk1 hmk2 hvk2 g1 (p1 v) (p2 v) oi ob g2 g2' gd g3;have e1:((th m V).set i0 (p1 v)).set j (p2 v)=th (λk=>k==i||m k) (λk=>if k=i then v else V k):=by
      have:=PK (f:=λq:Nat×(Value->Value)=>if m q.1=true then q.2 (V q.1)else undef) (g:=λq:Nat×(Value->Value)=>if(q.1==i||m q.1)=true then q.2 (if q.1=i then v else V q.1)else undef) θ hpos1 hpos2 (λp' q' hp' hne hne2=>by
       have:=other p' q' hp' (by rw [hxn];simp;omega);simp [this])
      simp only [beq_self_eq_true,Bool.true_or,if_true]at this;rw [show θ.length+(i0 - mem.length)=i0 by rw [hf.sim.len];omega,show i0+1=j by omega]at this;exact this
     have h1θ:(((th m V).set i0 (p1 v)).set j (p2 v))[i0]? =some (p1 v):=by
      rw [Xm ah,Xt (Xe.1 hvk1).1]
     have h2θ:(((th m V).set i0 (p1 v)).set j (p2 v))[j]? =some (p2 v):=by
      rw [Xt (by simpa using (Xe.1 hvk2).1)]
     have hR:=g4 (((th m V).set i0 (p1 v)).set j (p2 v)) (aO pb (((th m V).set i0 (p1 v)).set j (p2 v)) (((me m).set i0 oi).set j ob)) i0 j (λb hb hp=>by
      rcases hp with hp|⟨q,oo,u,q1,q2,q3,q4⟩
      ·exact .inl ⟨.inl hp,by have:=(hs.low b hp).1;have:=hs.ext.size;omega⟩
      ·by_cases hq2:j=q
       ·subst hq2;rw [h2θ]at q3;cases q3;exact .inr (.inr q4)
       ·by_cases hq1:i0=q
        ·subst hq1;rw [h1θ]at q3;cases q3;exact .inr (.inl q4)
        ·rw [Xm hq2,Xm hq1]at q1 q3;exact .inl ⟨.inr ⟨q,oo,u,q1,q2,q3,q4⟩,((hs.ob q oo u q1 q3).lt q2 q4).2⟩) h1θ h2θ
     rw [<- e4]at st hR;rw [e1,e2]at st hR;refine⟨hst0.trans st,λk y hk hmk' hyk=>?_,hcl'⟩
     by_cases hki:k=i
     ·subst hki;rw [hx]at hyk;cases hyk;simp only [if_true];rw [hr];exact hR
     ·simp only [if_neg hki];exact st.keep _ _ (hrs k y hk (by simpa [hki]using hmk') hyk)
 ·intro V w' ⟨hst0,hrs,_⟩;have e2:me (λk=>decide (k<n))=ot xs base:=by
   rw [Ac xs 0];refine XV λj=>qi rfl rfl λq hq _=>?_
   obtain⟨k,y,h5,h6,h7⟩:=rC hq;have:=(Xe.1 h5).1;simp;omega
  obtain⟨a1,a2,a3⟩:=oD V N ((l.take n).map (·.dst)) 0 a hf.size (hsz n (Xf _));rw [<- pW]at a1 a2;rw [e2]at hst0 hrs;have h0:∀ t,R1 (th (λk=>decide (k<n)) V) (aO pb (th (λk=>decide (k<n)) V) (ot xs base)) w' (e t) (a.tmps.getD t undef):=λt=>hst0.keep _ _ (hf.sl t)
  refine kW (λ_ _ _ hq=>hq.after hst0) (h3 pb w0 (th (λk=>decide (k<n)) V) _ w' ⟨a1,by rw [a2];exact hf.dfr.step hst0,λt=>?_,hst0.sim⟩);have hfit:=fits V n (Xf _);rw [X2,Nat.min_self]at hfit;rcases hfit t with⟨j,o,y,b1,b2,b3,b4,b5,b6⟩|⟨b1,b2,b3⟩
  ·rw [Xh]at b4;cases hy:xs[j]? with
   | none=>rw [hy]at b4;cases b4
   | some z=>
    rw [hy]at b4;obtain rfl:z.r=y:=by simpa using b4
    rw [b5,show(dn V (l.take n) 0 a).tmps.getD t undef=V j from b6];exact hrs j z b1 (by simpa using b1) hy
  ·rw [b2,show(dn V (l.take n) 0 a).tmps.getD t undef=a.tmps.getD t undef from b3];exact h0 t
end
section
variable {M:Mode} {P:Program} {N:Nat} {Q:AQ} {ops l tail:List Oper} {n0 K k c:Nat} {e:Nat->AV} {mt:List Ob} {E:List Eff} {A:List (Nat×List Nat)} {o:Oper} {d:Option Tmp} {ty:TypeId} {pos:String} {af:Array Edge} {g:Option (Nat×Bool)} {op:Op}
theorem aR{r:AV}(ho:∀ M,mD [] mt M->bw P ⟨d,op,ty,pos,af,g⟩ e M r)(hg:Gd ops.toArray ⟨d,op,ty,pos,af,g⟩ e)(h:DH P N ops tail Q n0 K l (k+1) (aS e d r) mt c E A):DH P N ops tail Q n0 K (⟨d,op,ty,pos,af,g⟩::l) k e mt c E A:=
 ⟨⟨r,[],none,false,none,none⟩,⟨rfl,.inl ⟨hg,ho⟩⟩,Hu,λ_ h=>(by rcases h with⟨_,h⟩|⟨⟨_,h⟩,_⟩<;>cases h),λmt' hm=>by cases hm;simpa [One.jC,One.acc,One.jc,One.mt]using h⟩
theorem cG{r:AV}(j:Nat)(ho:∀ M,mD [j] mt M->bw P ⟨d,op,ty,pos,af,g⟩ e M r)(hg:Gd ops.toArray ⟨d,op,ty,pos,af,g⟩ e)(hc:mE ops k [j] E)(h:DH P N ops tail Q n0 K l (k+1) (aS e d r) mt c E (A++ [(k,[j])])):DH P N ops tail Q n0 K (⟨d,op,ty,pos,af,g⟩::l) k e mt c E A:=
 ⟨⟨r,[j],none,false,none,none⟩,⟨rfl,.inl ⟨hg,ho⟩⟩,hc,λ_ h=>(by rcases h with⟨_,h⟩|⟨⟨_,h⟩,_⟩<;>cases h),λmt' hm=>by cases hm;simpa [One.jC,One.acc,One.jc,One.mt]using h⟩
theorem oZ{ob:Ob}(j:Nat)(ho:∀ M,mD [j] mt M->nO P ⟨d,op,ty,pos,af,g⟩ e M j ob)(hg:Gd ops.toArray ⟨d,op,ty,pos,af,g⟩ e)(hc:mE ops k [j] E)(hc2:nU ops k j A)(h:∀ m,m=mt.set j ob->DH P N ops tail Q n0 K l (k+1) (aS e d .any) m c (E++ [⟨k,j,ob⟩]) (A++ [(k,[j])])):
 DH P N ops tail Q n0 K (⟨d,op,ty,pos,af,g⟩::l) k e mt c E A:=
 ⟨⟨.any,[j],some (j,ob),false,none,none⟩,⟨List.mem_singleton.2 rfl,λ_ _ h=>(by cases h),hg,by simpa using ho⟩,hc,λ_ h=>(by rcases h with⟨_,h⟩|⟨⟨_,h⟩,_⟩<;>cases h;exact hc2),λmt' hm=>by have:=h mt' hm;simpa [One.jC,One.acc,One.jc]using this⟩
theorem kL{ob:Ob}{hh:Nat->AV}(j:Nat)(ho:∀ M,mD [j] mt M->kN P ⟨d,op,ty,pos,af,g⟩ e M ob hh)(hg:Gd ops.toArray ⟨d,op,ty,pos,af,g⟩ e)(hgo:mt[j]? =some .gone)(hj:j=n0+c)(hc:mE ops k [j] E)(hc2:nU ops k j A)
 (h:∀ m,m=mt.set j ob->DH P N ops tail Q n0 K l (k+1) (aS e d (hh j)) m (c+1) (E++ [⟨k,j,ob⟩]) (A++ [(k,[j])])):DH P N ops tail Q n0 K (⟨d,op,ty,pos,af,g⟩::l) k e mt c E A:=
 ⟨⟨hh j,[j],some (j,ob),true,none,none⟩,⟨List.mem_singleton.2 rfl,λ_ _ h=>(by cases h),hg,by simpa using ⟨hgo,hj,hh,rfl,ho⟩⟩,hc,λ_ h=>(by rcases h with⟨_,h⟩|⟨⟨_,h⟩,_⟩<;>cases h;exact hc2),λmt' hm=>by have:=h mt' hm;simpa [One.jC,One.acc,One.jc]using this⟩
theorem pf{ob:Ob}{hh:Nat->AV}(j i:Nat)(ho:∀ M,mD [j,i] mt M->sC P ⟨d,op,ty,pos,af,g⟩ e M i ob hh)(hg:Gd ops.toArray ⟨d,op,ty,pos,af,g⟩ e)(hgo:mt[j]? =some .gone)(hj:j=n0+c)(hc:mE ops k [j,i] E)(hc2:nU ops k j A)(hc3:nU ops k i A)
 (h:∀ m,m=(mt.set i .gone).set j ob->DH P N ops tail Q n0 K l (k+1) (aS e d (hh j)) m (c+1) (E++ [⟨k,i,.gone⟩,⟨k,j,ob⟩]) (A++ [(k,[j,i])])):DH P N ops tail Q n0 K (⟨d,op,ty,pos,af,g⟩::l) k e mt c E A:=
 ⟨⟨hh j,[j,i],some (j,ob),true,some (i,.gone),none⟩,⟨aN,λ_ _ h=>(by cases h;simp),hg,by simpa using ⟨hgo,hj,hh,rfl,ho⟩⟩,hc,λ_ h=>(by
  rcases h with⟨_,h⟩|⟨⟨_,h⟩,_⟩
  ·cases h;exact hc2
  ·cases h;exact hc3),λmt' hm=>by have:=h mt' hm;simpa [One.jC,One.acc,One.jc]using this⟩
theorem gn(hc:c=K)(h:AL P N ops.toArray tail Q e mt):DH P N ops tail Q n0 K [] k e mt c E A:=⟨hc,h⟩
theorem fZ{mem:List Ob}{id:Nat}(n K:Nat)(hl:mem.length=n0)(hm:P.follows .mixedOrders =true)(hd:jj l=true)(hB:fo l.toArray n=true)(hE:fP l (l.take n) 0 N=true)
 (h:∀ mt,mt=mem++List.replicate K .gone ->DH P N l (l.drop n) Q n0 K (l.take n) 0 e mt 0 [] []):AW M P N (.region id l.toArray true) Q e mem:=PL n K hm hd hB hE (by rw [hl];exact h)
end
section
variable {mem m:List Ob} {o:Ob} {q:Option Ob} {i j n K:Nat}
theorem bz(h:m=mem++List.replicate K .gone)(hi:mem[i]? =some o):m[i]? =some o:=by subst h;rw [Xj (Xe.1 hi).1];exact hi
theorem fS(h:m=mem++List.replicate K .gone)(hl:mem.length=n)(p:Nat)(hp:(decide (p<K))=true)(hj:j=n+p):m[j]? =some .gone :=by
 subst h;subst hj;subst hl;rw [Xk ah,List.getElem?_replicate_of_lt (by simp at hp;omega)]
theorem po(h:m=(mem.set i .gone).set j o)(hj:mem[j]? =some .gone):m[j]? =some o:=by subst h;rw [Xt (by have:=(Xe.1 hj).1;simpa using this)]
theorem cL{l:Nat}(h:m=(mem.set i .gone).set j o)(hl:mem[l]? =q)(h1:l≠i)(h2:l≠j):m[l]? =q:=by subst h;rw [Xm (Ne.symm h2),Xm (Ne.symm h1)];exact hl
theorem o4(h:m=(mem.set i .gone).set j o)(hl:mem.length=n):m.length=n:=by subst h;simpa using hl
theorem ga(h:m=mem++List.replicate K .gone)(hl:mem.length=n):m.length=n+K:=by subst h;subst hl;simp
end
section
variable {P:Program} {e:Nat->AV} {mem:List Ob} {d:Option Tmp} {ty t t2:TypeId} {pos:String} {af:Array Edge} {g:Option (Nat×Bool)} {x y z:Operand}
end
end Go.Proofs.YtbmlgmblfboigaaGreatDoor
