/- Lemmas for the statement. -/
import Derived.Test.YtfoaiidcfkmneaaGreatDoorA57
namespace Go.Proofs.YtfoaiidcfkmneaaGreatDoor
open Go Go.RowKit Go.Proofs
set_option linter.unusedSimpArgs false
set_option linter.unusedVariables false
section
variable {P:Program} {N:Nat} {Q:AQ} {e:Nat->AV} {mem:List Ob}
theorem JA{Q:Exit->Act->World->Prop}{a:Act}{w:World}{id:Nat}{c:Code}(h:lX P c (Exit.inBlock id Q) a w):lX P (.block id c) Q a w:=by
 intro b k cs hro hb;have h0:(lone (b.atR a (.code (.block id c)::k)) cs w).fenced P Fence.wide:=fenced_wide _ _;obtain⟨e,a₁,w₁,hq,harr⟩:=h b (.inBlock id::k) cs hro hb;cases e with
 | normal=>exact⟨.normal,a₁,w₁,hq,.head h0 stepR_block (StepsIn.trans harr (.one (fenced_wide _ _) stepR_inBlock))⟩
 | exit id'=>
  by_cases hid:id'=id
  ·simp only [Exit.inBlock,hid,if_true]at hq;exact⟨.normal,a₁,w₁,hq,.head h0 stepR_block (harr.1 k (by simp [exitTo,hid]))⟩
  ·simp only [Exit.inBlock,hid,if_false]at hq;have this:(id==id')=false:=by simp;exact λh=>hid h.symm
   have hx:exitTo id' (.inBlock id::k)=exitTo id' k:=by simp [exitTo,this]
   exact⟨.exit id',a₁,w₁,hq,λk' hk=>.head h0 stepR_block (harr.1 k' (by rw [hx];exact hk)),
    λhr' hk=>let ⟨k₁,h1,h2⟩:=harr.2 hr' (by rw [hx];exact hk);⟨k₁,h1,.head h0 stepR_block h2⟩⟩
 | goto l=>
  have hx:gotoIn l (.inBlock id::k)=gotoIn l k:=by simp [gotoIn]
  exact⟨_,a₁,w₁,hq,λk' hk=>.head h0 stepR_block (harr.1 k' (by rw [hx];exact hk)),
   λhr' hk=>let ⟨k₁,h1,h2⟩:=harr.2 hr' (by rw [hx];exact hk);⟨k₁,h1,.head h0 stepR_block h2⟩⟩
 | ret=>exact⟨_,a₁,w₁,hq,.of_steps (.one h0 stepR_block) harr⟩
 | panic ch=>exact⟨_,a₁,w₁,hq,.of_steps (.one h0 stepR_block) harr⟩
 | outgrown=>exact⟨_,a₁,w₁,hq,.of_steps (.one h0 stepR_block) harr⟩
theorem LU{id:Nat}{c:Code}(h:AF P N c (oa id Q) e mem):AF P N (.block id c) Q e mem:=by
 intro pb w0 θ a w hf;refine JA (o5 (h pb w0 θ a w hf) ?_);rintro x a' w' ⟨e',mem',θ',h1,hst,h2⟩;cases x with
 | exit i=>
  simp only [oa]at h2;simp only [Exit.inBlock]
  by_cases hi:i=id
  ·rw [if_pos hi]at h2 ⊢;exact⟨e',mem',θ',h1,hst,h2⟩
  ·rw [if_neg hi]at h2 ⊢;exact⟨e',mem',θ',h1,hst,h2⟩
 | _=>exact⟨e',mem',θ',h1,hst,h2⟩
theorem Qz{c:Code}(h:∀ e1,e1=e->AF P N c Q e1 mem):AF P N c Q e mem:=h e rfl
theorem O2{M:Mode}{c:Code}{j:Nat}{T:TypeId}{cells:List AV}(k o:Nat)(hm:mem[j]? =some (.box T cells))(ho:cells[o]? =some (.v (.slice none 0 0)))(h:∀ m1,m1=mem.set j (.box T (cells.set o (.row k [])))->AW M P N c Q e m1):AW M P N c Q e mem:=by
 refine λF n hF pb w0 θ a w hf=>?_
 obtain⟨v,hv⟩:∃ v,θ[j]? =some v:=⟨_,SQ (by rw [hf.sim.len];exact(SN.1 hm).1)⟩;obtain⟨b',xs,hb1,hb2,hb3,hb4,hb5⟩:=hf.sim.ob j _ v hm hv;have st:Step pb w0 θ mem w θ (mem.set j (Ob.box T (cells.set o (.row k [])))) w:=
  Step.write (o':=Ob.box T (cells.set o (.row k []))) hf.sim hm aL hv (Below.refl 0 w) (λ_ _ _=>rfl) λpr keep=>⟨b',xs,hb1,hb2,hb3,by simpa using hb4,λi a x ha hx=>by
   by_cases hi:o=i
   ·subst hi;have h2:=hb5 o _ x ho hx;rw [S7 (SN.1 ho).1]at ha;cases ha;rw [h2.val];exact .ro (.nil _ _ _)
   ·rw [SY hi]at ha;exact keep _ _ (hb5 i a x ha hx)⟩
 exact wpIn_mono (h _ rfl F n hF pb w0 θ a w ⟨hf.size,hf.dfr.step st,λt=>st.keep _ _ (hf.sl t),st.sim⟩) λ_ _ _ hq=>hq.after st
def wx(P:Program)(g:FuncId)(caps:List AV)(mem:List Ob)(v:Value)(Φ:List Ob->Prop):Prop:=
 ∀ (pb:Nat->Prop) (w:World) (θ:List Value) (vs:List Value),cr pb ⟨w,eP θ mem,[]⟩ w θ mem->vs.length=caps.length->(∀ (i:Nat) (a:AV) (x:Value),caps[i]? =some a->vs[i]? =some x->R1 θ (aP pb θ mem) w a x)->
  CallsDIn Fence.wide 8 P g vs.toArray (.panicking [{v:=v,recovered:=false}]) w λen u' w'=>∃ x θ' mem',en= .returned x/\settle u'= .returning /\Φ mem'/\Step pb ⟨w,eP θ mem,[]⟩ θ mem w θ' mem' w'
def tm(P:Program)(N:Nat)(fn:Func)(ψ:AV->Prop)(g:FuncId)(caps:List AV):AQ
 | .panic ch,e,m=>∃ v Φ,ch= [{v:=v,recovered:=false}]/\wx P g caps m v Φ/\ ∀ m',Φ m'->ic P N fn ψ .ret e m'
 | x,e,m=>ic P N fn ψ x e m
theorem QA{fn:Func}{ψ:AV->Prop}{g:FuncId}{caps:List AV}(h:ic P N fn ψ .ret e mem):tm P N fn ψ g caps .ret e mem:=h
theorem F8{fn:Func}{ψ:AV->Prop}{g:FuncId}{caps:List AV}{v:Value}{Φ:List Ob->Prop}(hr:wx P g caps mem v Φ)(h:∀ m',Φ m'->ic P N fn ψ .ret e m'):tm P N fn ψ g caps (.panic [{v:=v,recovered:=false}]) e mem:=⟨v,Φ,rfl,hr,h⟩
theorem CJ{f g:FuncId}{fn:Func}{A1 A2 B:Code}{id:Nat}{dM:Tmp}{caps:Array Operand}{t1 t2:TypeId}{p1 p2:String}{af1 af2:Array Edge}{tys:Array TypeId}{args:List AV}{ψ:AV->Prop}(gs:List (Nat×List AV))(capsA:List AV)(N:Nat)(hf:P.funcs[f]? =some fn)
 (hb:fn.body=some (.seq A1 (.seq A2 (.seq (.region id #[⟨some dM,.makeFunc (.func g) #[] caps,t1,p1,af1,none⟩,⟨none,.defer ⟨.value (.tmp dM),#[],tys⟩,t2,p2,af2,none⟩] false) B))))(hn:fn.ntmps=N)(hN:args.length<=N)(hd:dM<N)
 (hg:∀ (vs:Array Value) (w:World),vs.size=capsA.length->CallsDIn Fence.wide 8 P g vs .returning w λen u' w'=>∃ v,en= .returned v/\u'= .returning /\Ext w w')
 (eH:∀ (vs:Array Value) (w:World),(callFunc g vs).run P w= .ok (.enter g vs) w)
 (hA:∀ e m,(∀ (t:Nat) (a:AV),args[t]? =some a->al e (.tmp t)=a)->m= [.bY gs]->AW .top P N A1 (lM (λe m=>AW .top P N A2 (lM (λe m=>dc e caps.toList=capsA/\AF P N B (tm P N fn ψ g capsA) (aT e (some dM) .any) m) (ic P N fn ψ)) e m) (ic P N fn ψ)) e m):iF P gs f args ψ:=by
 subst hn;have h:=hA (pW args) [.bY gs] (λt a ha=>by show args.getD t _=a;rw [SO,ha];rfl) rfl;intro pr w vs h1 h2 hgl;have hθ:∀ {j:Nat} {v:Value},[undef][j]? =some v->v=undef:=λ{j v} h=>by
  cases j with
  | zero=>cases h;rfl
  | succ j=>cases h
 have hpr:∀ b,¬ pr b-> ¬ aP (λb=>pr b/\b<w.heap.size) [undef] [.bY gs] b:=λb hn hp=>by
  rcases hp with hp|⟨j,o,v,_,_,q,q2⟩
  ·exact hn hp.1
  ·rw [hθ q]at q2;cases q2
 have out:∀ (x:Exit) (a:Act) (w':World) (e':Nat->AV) (m':List Ob) (θ':List Value),Fit fn.ntmps (λb=>pr b/\b<w.heap.size) ⟨w,λ_=>False,[]⟩ e' m' θ' a w'->ic P fn.ntmps fn ψ x e' m'->
  bodyPostM Fence.wide 9 P fn (λen w'=>∃ r v,en= .returned v/\ψ r/\R0 (λb=>pr b/\b<w.heap.size) w' r v/\Ext w w') x a w':=by
  rintro x a w' e' m' θ' hfit ⟨hx,r,hψ,hr⟩;have fin:LeavesInM Fence.wide 9 P fn a.tmps (λen w'=>∃ r v,en= .returned v/\ψ r/\R0 (λb=>pr b/\b<w.heap.size) w' r v/\Ext w w') a.defers .returning w':=by
   refine rI hfit.dfr λw2 hc=>?_
   obtain⟨v,h3,h4⟩:=hr _ _ _ w2 {a with defers:= []} ⟨hfit.size,Mks.nil _ _ _,λt=>(hfit.sl t).calm hc,hfit.sim.calm hc⟩;exact⟨v,h3,r,v,rfl,hψ,h4,(hfit.sim.calm hc).ext.sZ⟩
  rcases hx with rfl|rfl
  ·exact fin
  ·exact fin
 refine(callsIn_wide (n:=9)).1 (HF hf hb (vf (o5 (vQ (h Fence.wide 9 rfl (λb=>pr b/\b<w.heap.size) ⟨w,λ_=>False,[]⟩ [undef] {tmps:=vs.toArray++Array.replicate (fn.ntmps - vs.toArray.size) undef,defers:= []} w ⟨?_,Mks.nil _ _ _,λt=>?_,?_⟩)) ?_)))
 ·simp;omega
 ·show R1 _ _ _ (args.getD t (.v undef)) ((vs.toArray++Array.replicate (fn.ntmps - vs.toArray.size) undef).getD t undef)
  by_cases ht:t<args.length
  ·have e1:args.getD t (.v undef)=args[t]:=by simp [SO,ht]
   have ht':t<vs.length:=by omega
   have e2:(vs.toArray++Array.replicate (fn.ntmps - vs.toArray.size) undef).getD t undef=vs[t]:=by
    rw [S3,Up nU];simp [ht']
   rw [e1,e2];exact .ro ((h2 t _ _ (SQ ht) (SQ ht')).mono (SR _) (λ_ _ _=>rfl) λb _ hn=>hpr b hn)
  ·have e1:args.getD t (.v undef)= .v undef:=by simp [SO,S5 (Ug ht)]
   have e2:(vs.toArray++Array.replicate (fn.ntmps - vs.toArray.size) undef).getD t undef=undef:=by
    rw [S3,Ur cZ,UF]
    split<;>rfl
   rw [e1,e2];exact .ro (.v _)
 ·refine⟨g7.refl w _,λb hb=>⟨hb.2,λh=>h⟩,rfl,λj o v hm hv=>?_,λi j o p v u b _ _ _ _ hv _ hb _=>by rw [hθ hv]at hb;cases hb⟩;cases j with
  | zero=>
   cases hm;exact⟨hθ hv,λx hx=>⟨(hgl x hx).1.mono (SR _) (λ_ _ _=>rfl) λb _ hn=>hpr b hn,(hgl x hx).2⟩⟩
  | succ j=>cases hm
 ·rintro x a w1 ⟨e1,m1,θ1,hfit1,hst1,hq1⟩;cases x with
  | normal=>
   refine vf (o5 (vQ (hq1 Fence.wide 9 rfl _ _ θ1 a w1 hfit1)) ?_);rintro x a w2 ⟨e2,m2,θ2,hfit2,hst2,hq2⟩;cases x with
   | normal=>
    obtain⟨hcaps,hq2⟩:dc e2 caps.toList=capsA/\AF P fn.ntmps B (tm P fn.ntmps fn ψ g capsA) (aT e2 (some dM) .any) m2:=hq2;obtain⟨ms,hms,hm0⟩:=hfit2.dfr;have hms':a.defers=ms:=by rw [hms];exact TX ms
    obtain⟨cl,hcl⟩:∃ cl,cl=caps.toList.map (aZ (λt=>a.tmps.getD t undef)):=⟨_,rfl⟩;have hclen:cl.length=capsA.length:=by rw [hcl, <- hcaps];simp [dc]
    have hcr:∀ (i:Nat) (b:AV) (x:Value),capsA[i]? =some b->cl[i]? =some x->R1 θ2 (aP (λb=>pr b/\b<w.heap.size) θ2 m2) w2 b x:=λi b x hb hx=>by
     rw [hcl,SU]at hx;rw [<- hcaps,dc,SU]at hb;cases hq:caps.toList[i]? with
     | none=>rw [hq]at hx;cases hx
     | some q=>
      rw [hq]at hb hx;simp only [Option.map_some,Option.some.injEq]at hb hx;subst hb hx;exact j8 hfit2 q
    obtain⟨a3,ha3⟩:∃ a3:Act,a3= {(a.put (some dM) (.func (.func g) #[] cl.toArray))with defers:=⟨.fn (.func g) cl.toArray,#[]⟩::a.defers}:=⟨_,rfl⟩;have hfit3:Fit fn.ntmps (λb=>pr b/\b<w.heap.size) ⟨w2,eP θ2 m2,⟨.fn (.func g) cl.toArray,#[]⟩::ms⟩ (aT e2 (some dM) .any) m2 θ2 a3 w2:=by
     have hp:=hfit2.put (Step.refl hfit2.sim) (d:=some dM) (by simpa [dV]using hd) (r:=.any) (v:=.func (.func g) #[] cl.toArray) (.ro (.any _));refine⟨by rw [ha3];exact hp.size,⟨[],?_,ij.nil _ _ _⟩,λt=>by rw [ha3];exact hp.sl t,(all_in hfit2.sim).ds rfl rfl⟩;rw [ha3,hms'];rfl
    have hB:=hq2 _ _ θ2 a3 w2 hfit3;have hend:∀ x a w3,LQ fn.ntmps (λb=>pr b/\b<w.heap.size) ⟨w2,eP θ2 m2,⟨.fn (.func g) cl.toArray,#[]⟩::ms⟩ θ2 m2 w2 (tm P fn.ntmps fn ψ g capsA) x a w3->bodyPostM Fence.wide 9 P fn (λen w'=>∃ r v,en= .returned v/\ψ r/\R0 (λb=>pr b/\b<w.heap.size) w' r v/\Ext w w') x a w3:=by
     rintro x a4 w4 ⟨e4,m4,θ4,hfit4,hst4,hx⟩;obtain⟨ms4,hms4,hm4⟩:=hfit4.dfr;have hst4':=nM hfit2.sim (w':=w4) (θ':=θ4) (mem':=m4) ⟨hst4.sim.ds rfl rfl,hst4.keep,hst4.sz,hst4.same,hst4.np⟩;have hle:w.heap.size<=w2.heap.size:=hfit2.sim.ext.size
     -- behind the closure
     have tail:∀ (w5 w6:World) (θ6:List Value) (m6:List Ob),dw w2.heap.size w4 w5->Step (λb=>pr b/\b<w.heap.size) ⟨w5,eP θ4 m4,[]⟩ θ4 m4 w5 θ6 m6 w6->ic P fn.ntmps fn ψ .ret e4 m6->
      LeavesInM Fence.wide 9 P fn a4.tmps (λen w'=>∃ r v,en= .returned v/\ψ r/\R0 (λb=>pr b/\b<w.heap.size) w' r v/\Ext w w') ms .returning w6:=by
      rintro w5 w6 θ6 m6 hc5 hst6 ⟨-,r,hψ,hr⟩;have hc5':dw w.heap.size w4 w5:=⟨hc5.below.mono hle,hc5.cells,hc5.maps⟩;have hs5:cr (λb=>pr b/\b<w.heap.size) ⟨w,λ_=>False,[]⟩ w5 θ4 m4:=hst4'.sim.calm hc5';have hst6':=nM hs5 hst6;have hm6:ij w.heap.size (aP (λb=>pr b/\b<w.heap.size) θ2 m2) w6 ms:=by
       refine⟨λd hd=>?_,hm0.2⟩;obtain⟨D,g1,g2,g3,g4,g5⟩:=hm0.1 d hd;have k1:w4.heap[D]? =some (.deferred (some [])):=(hst4.same D g2 g3).trans g4;have k2:w5.heap[D]? =some (.deferred (some [])):=(hc5.below.block D g2).trans k1;have l5:D<w5.heap.size:=(Tc.1 k2).1;have k3:w6.heap[D]? =some (.deferred (some [])):=(hst6'.same D l5 (hst4'.np D g2 g3)).trans k2;exact⟨D,g1,(Tc.1 k3).1,g3,k3,g5⟩
      have hL:=qf (n:=9) (P:=P) (fn:=fn) (tmps:=a4.tmps) (R:=λen w'=>∃ r v,en= .returned v/\ψ r/\R0 (λb=>pr b/\b<w.heap.size) w' r v/\Ext w w') (ds0:= []) (u:=.returning) aL hm6 λw7 hc7=>by
       have hs7:cr (λb=>pr b/\b<w.heap.size) ⟨w,λ_=>False,[]⟩ w7 θ6 m6:=hst6'.sim.calm hc7;obtain⟨v,h3,h4⟩:=hr _ _ _ w7 {a4 with defers:= []} ⟨hfit4.size,Mks.nil _ _ _,λt=>(hst6'.keep _ _ ((hfit4.sl t).calm hc5)).calm hc7,hs7⟩;exact⟨v,h3,r,v,rfl,hψ,h4,hs7.ext.sZ⟩
      rw [TX]at hL;exact hL
     have fin:ic P fn.ntmps fn ψ .ret e4 m4->LeavesInM Fence.wide 9 P fn a4.tmps (λen w'=>∃ r v,en= .returned v/\ψ r/\R0 (λb=>pr b/\b<w.heap.size) w' r v/\Ext w w') a4.defers .returning w4:=λhrq=>by
      rw [hms4];refine qf aL hm4 λw5 hc5=>?_
      refine⟨aL,.inr ⟨λh=>(by cases h),.func g,cl.toArray,g,cl.toArray,rfl,?_,λ_ _=>trivial,?_⟩⟩
      ·simp [invoke,eH]
      ·refine CallsDIn.mono (hg cl.toArray w5 (by simpa using hclen)) ?_;rintro en u' w6 ⟨v0,rfl,rfl,hx6⟩;have hc5':dw w.heap.size w4 w5:=⟨hc5.below.mono hle,hc5.cells,hc5.maps⟩;exact tail w5 w6 θ4 m4 hc5 (Step.ext (all_in (hst4'.sim.calm hc5')) hx6) hrq
     have hret:∀ {x},ic P fn.ntmps fn ψ x e4 m4->ic P fn.ntmps fn ψ .ret e4 m4:=λh=>⟨.inr rfl,h.2⟩
     cases x with
     | normal=>exact fin (hret hx)
     | ret=>exact fin (hret hx)
     | panic ch=>
      obtain⟨v,Φ,rfl,hrec,hrq⟩:=hx
      show LeavesInM Fence.wide 9 P fn a4.tmps _ a4.defers (.panicking _) w4
      rw [hms4];refine qf aL hm4 λw5 hc5=>?_
      have hc5':dw w.heap.size w4 w5:=⟨hc5.below.mono hle,hc5.cells,hc5.maps⟩;refine⟨aL,.inr ⟨λh=>(by cases h),.func g,cl.toArray,g,cl.toArray,rfl,?_,λ_ _=>trivial,?_⟩⟩
      ·simp [invoke,eH]
      ·refine CallsDIn.mono (hrec _ w5 θ4 cl (all_in (hst4'.sim.calm hc5')) hclen λi b x hb hx=>(hst4'.keep _ _ (hcr i b x hb hx)).calm hc5') ?_;rintro en u' w6 ⟨v0,θ6,m6,rfl,hset,hΦ,hst6⟩
       show LeavesInM Fence.wide 9 P fn a4.tmps _ ms (settle u') w6
       rw [hset];exact tail w5 w6 θ6 m6 hc5 hst6 (hrq m6 hΦ)
     | exit i=>exact(by rcases hx.1 with h|h<;>cases h)
     | goto l=>exact(by rcases hx.1 with h|h<;>cases h)
     | outgrown=>exact(by rcases hx.1 with h|h<;>cases h)
    refine vf (o5 (Q:=λx a w=>x= .normal /\a=a3/\w=w2) (vQ (n:=9) (wpIn_wide.2 (wp_region_lit (l:= [_,_]) ?_))) ?_)
    ·show(if Region.wanted _ (yielded _ a.tmps)then _ else _)
     rw [if_pos (by rfl:Region.wanted _ _=true)];refine .inl ?_;unfold Oper.wp;rw [gQ];have e1:execOp (aZ (λt=>a.tmps.getD t undef)) ⟨some dM,.makeFunc (.func g) #[] caps,t1,p1,af1,none⟩=pure (.value (.func (.func g) #[] cl.toArray)):=by
      show(do pure (Next.value (<- Instr.makeFunc (.func g) ((#[]:Array Operand).map (aZ (λt=>a.tmps.getD t undef))) (caps.map (aZ (λt=>a.tmps.getD t undef))))):Sem Next)=_
      have:∀ (q:Array Operand),q.map (aZ (λt=>a.tmps.getD t undef))=(q.toList.map (aZ (λt=>a.tmps.getD t undef))).toArray :=λq=>by apply UL.1;rw [Uz]
      rw [this,this,hcl];rfl
     rw [e1]
     show wpList P _ _ [_] (a.put (some dM) (.func (.func g) #[] cl.toArray)) w2
     unfold wpList;rw [if_pos (by rfl:Region.wanted _ _=true)];refine .inl ?_;unfold Oper.wp;rw [gQ];have hev:(a.put (some dM) (.func (.func g) #[] cl.toArray)).tmps.getD dM undef= .func (.func g) #[] cl.toArray:=by
      have:=hfit2.size;simp [Act.put,S3,this,hd]
     have e2:(execOp (aZ (λt=>(a.put (some dM) (.func (.func g) #[] cl.toArray)).tmps.getD t undef)) ⟨none,.defer ⟨.value (.tmp dM),#[],tys⟩,t2,p2,af2,none⟩).run P w2= .ok (.defer ⟨.fn (.func g) cl.toArray,#[]⟩) w2:=by
      generalize hq:(λt=>(a.put (some dM) (.func (.func g) #[] cl.toArray)).tmps.getD t undef)=ev;have hev2:ev dM= .func (.func g) #[] cl.toArray:=by rw [<- hq];exact hev
      simp [execOp,resolve,aZ,hev2,Deferred.ofValue,go_sem]
     rw [e2,Oper.upon_defer];exact⟨rfl,ha3.symm,rfl⟩
    ·rintro x a5 w5 ⟨rfl,rfl,rfl⟩;exact o5 hB hend
   | _=>exact out _ _ _ _ _ _ hfit2 hq2
  | _=>exact out _ _ _ _ _ _ hfit1 hq1
end
end Go.Proofs.YtfoaiidcfkmneaaGreatDoor
