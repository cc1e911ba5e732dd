/- Texts of this claim, one behind the other: lemmas for the statement. -/
import Derived.Test.YtbmlgmblfboigaaGreatDoorA25
import Derived.Test.YtbmlgmblfboigaaGreatDoorA15
import Derived.Test.YtbmlgmblfboigaaGreatDoorM3
import Derived.Test.YtbmlgmblfboigaaGreatDoorA16
import Derived.Test.YtbmlgmblfboigaaGreatDoorA14
import Derived.RangeFuncNested
set_option linter.unusedSimpArgs false
set_option linter.unusedVariables false
namespace Go.Proofs.YtbmlgmblfboigaaGreatDoor
open Go Go.RowKit Go.Proofs
section
variable {P:Program} {e:Nat->AV} {mem:List Ob} {d:Option Tmp} {ty t:TypeId} {pos:String} {af:Array Edge} {g:Option (Nat×Bool)} {x y:Operand}
def yf(j:Nat):Option AV->AV
 | some a=>a
 | none=>.own j
def Ko:Option AV->Bool
 | some a=>cC a
 | none=>true
def qZ(hl:List (Option AV))(j:Nat):AV:=.agg (hl.map (yf j))
theorem Vl{θ θ2:List Value}{pr pr2:Nat->Prop}{w:World}{hl:List (Option AV)}{j q:Nat}{v u:Value}(hro:hl.all Ko=true)(hv:R1 θ pr w (qZ hl j) v)(hu:θ[j]? =some u)
 (hp:∀ b,b<w.heap.size-> ¬ pr b-> ¬ pr2 b)(hq:θ2[q]? =some u)(hne:uG u=true):R1 θ2 pr2 w (qZ hl q) v:=by
 obtain⟨xs,rfl,h1,h2⟩:=hv.sd;refine .agg _ _ mT λi a x ha hx=>?_
 rw [Xh]at ha;cases ho:hl[i]? with
 | none=>rw [ho]at ha;cases ha
 | some o=>
  rw [ho]at ha;have h3:=h2 i (yf j o) x (by rw [Xh,ho];rfl) hx;cases o with
  | none=>
   simp only [Option.map_some,yf,Option.some.injEq]at ha;subst ha;have:=h3.gU;rw [hu]at this;cases this;exact .own _ _ hq hne
  | some b=>
   simp only [Option.map_some,yf,Option.some.injEq]at ha;subst ha;have hr:cC b=true:=Xv.1 hro _ (Xp ho);exact .ro ((h3.gr hr).mono (Xf _) (λ_ _ _=>rfl) hp)
def Ba(P:Program)(f:FuncId)(args:List AV)(eT:TypeId)(k:Nat)(els:List (List AV))(hl:List (Option AV)):Prop:=
 ∀ (pr:Nat->Prop) (w:World) (vs:List Value),vs.length=args.length->(∀ (i:Nat) (a:AV) (x:Value),args[i]? =some a->vs[i]? =some x->R0 pr w a x)->
  Calls P f vs.toArray w λen w'=>∃ v u xs,en= .returned v/\Ext w w'/\w'.ownsRow w.heap.size eT k u els.length xs/\(∀ l∈els,l.length=k)/\els.flatten=xs.map AV.v/\ ∀ θ (pr2:Nat->Prop) j,(∀ b,b<w'.heap.size->pr2 b->(pr b/\b<w.heap.size)\/cA u=some b)->θ[j]? =some u->R1 θ pr2 w' (qZ hl j) v
theorem EP{m:Nat}{hl0:List (Option AV)}{f:FuncId}{as:Array Operand}{ts:Array TypeId}{args:List AV}{eT:TypeId}{k:Nat}{els:List (List AV)}(hl:mem.length=m)(hargs:cX e as.toList=args)(hro:cC.roL args=true)(hc:Ba P f args eT k els hl0)(dY:∀ args w,(callFunc f args).run P w= .ok (.enter f args) w):
 eE P ⟨d,.call ⟨.value (.func f),as,ts⟩,ty,pos,af,g⟩ e mem (qZ hl0 m) (mem++ [.row eT k els]):=by
 intro pb w0 θ w ev hs h;have hvs:(as.toList.map (aT ev)).length =args.length:=by rw [<- hargs];simp [cX]
 rw [k6 (f:=.func (.func f) #[] #[]) rfl rfl];refine oJ dY ((hc (aO pb θ mem) w _ hvs λi a v ha hv=>?_).mono ?_)
 ·have ha':=ha;rw [<- hargs,cX,Xh]at ha';rw [Xh]at hv;cases hx:as.toList[i]? with
  | none=>rw [hx]at hv;cases hv
  | some x=>
   rw [hx]at ha' hv;simp at ha' hv;subst ha' hv;have hmem:x∈as:=by have:=Xp hx;simpa using this
   exact(h x mR).gr (gy hro ha)
 ·rintro en w' ⟨v,u,xs,he,hx,h9,hk,hfl,hv⟩;refine⟨v,he,θ++ [u],hv _ _ _ (λb hb hp=>?_) (by rw [<- hl, <- hs.len];simp),Step.new hs hx u _ (λb hb=>(kH h9 hb).1) λθ' pr k1=>?_⟩
  ·rcases hp with hp|⟨j,o,y,q1,q2,q3,q4⟩
   ·exact .inl ⟨.inl hp,by have:=(hs.low b hp).1;have:=hs.ext.size;omega⟩
   ·rcases XC j mem.length with hj|hj
    ·rw [Xj hj]at q1;rw [Xj (by rw [hs.len];exact hj)]at q3;exact .inl ⟨.inr ⟨j,o,y,q1,q2,q3,q4⟩,((hs.ob j o y q1 q3).lt q2 q4).2⟩
    ·rw [Xk (by rw [hs.len];exact hj)]at q3;have h0:j - θ.length=0:=by have:=(Xe.1 q3).1;simp at this;omega
     rw [h0]at q3;simp at q3;exact .inr (by rw [q3];exact q4)
  refine⟨xs,h9.rj (Xy _),(λb hb=>.inl (Xz hs.ext.size (kH h9 hb).1)),hk,λn a u ha hu=>?_⟩;rw [hfl,Xh,hu]at ha;simp at ha;subst ha;exact .v _
theorem Lq{j i n k off o:Nat}{row:Bool}{T:TypeId}{els:List (List AV)}{el:List AV}(hx:ak e x= .ptr j off)(hm:mem[j]? =some (.row T k els))(ho:off=i*k+o)(hel:els[i]? =some el)(ht:aQ P t row n)(hn:o+n<=k)(h1:row=true\/n=1):
 bw P ⟨d,.load t x,ty,pos,af,g⟩ e mem (fW row n (el.drop o)):=by
 intro pb w0 θ w ev hs h;have h1':=h x cE;rw [hx]at h1';generalize hv:aT ev x=p at h1';obtain⟨b,v,hθ,hbase,rfl⟩:=h1'.gk;obtain⟨xs,h3,_,h4,h5⟩:=hs.ob j _ v hm hθ;have hk:=h4 el (Xp hel);have hlen:xs.length=els.length*k:=h3.1;have hi:i<els.length:=(Xe.1 hel).1;have hle:(i+1)*k<=els.length*k:=Yu k hi;rw [XZ]at hle;obtain⟨v,h2,h3⟩:=sQ (P:=P) (t:=t) (θ:=θ) (pr:=aO pb θ mem) (w:=w) (b:=b) (o:=off) (cells:=el.drop o) (f:=λq=>xs.getD (i*k+(o+q)) undef) ht cJ h1
  (λq hq=>by
   subst ho;rw [X4]at hq;have hlt:i*k+(o+q)<xs.length:=by omega
   rw [XQ];exact sU h3 hbase _ _ (by simp [hlt,Xc]))
  (λq a ha=>by
   rw [XH]at ha;have hq:=(Xe.1 ha).1;have hlt:i*k+(o+q)<xs.length:=by omega
   exact .ro (h5 (i*k+(o+q)) a _ (by rw [flat_get h4 hel ah];exact ha) (by simp [hlt,Xc])))
 rw [wu hv,Sem.run_bind,h2];exact⟨h3,Ext.refl w⟩
theorem vl{j i n k o:Nat}{row:Bool}{T:TypeId}{els:List (List AV)}{el:List AV}(ht:aQ P t row n)(h1:(row||n==1)=true)(hm:mem[j]? =some (.row T k els))(hx:ak e x= .ptr j (i*k+o))(hn:o+n<=k)(hel:els[i]? =some el):bw P ⟨d,.load t x,ty,pos,af,g⟩ e mem (fW row n (el.drop o)):=
 Lq hx hm rfl hel ht hn mT
theorem vm{j o i n off k ix:Nat}{row:Bool}(hF:cj P t i off row n)(h0:(n != 0)=true)(hx:ak e x= .ptr j (ix*k)):bw P ⟨d,.fieldAddr t x i,ty,pos,af,g⟩ e mem (.ptr j (ix*k+off)):=aI hF h0 hx
theorem vf{j o i n off k ix:Nat}{row:Bool}(hF:cj P t i off row n)(h0:(n != 0)=true)(hx:ak e x= .ptr j (ix*k+o)):bw P ⟨d,.fieldAddr t x i,ty,pos,af,g⟩ e mem (.ptr j (ix*k+(o+off))):=by
 have:=aI (mem:=mem) (d:=d) (ty:=ty) (pos:=pos) (af:=af) (g:=g) hF h0 hx
 rwa [XQ]at this
def JE(P:Program)(fn:Func)(eT:TypeId)(k:Nat)(els:List (List AV))(hl:List (Option AV)):AQ:=λx e mem=>(x= .normal \/x= .ret)/\ ∃ rv j,fn.results= #[rv]/\mem[j]? =some (.row eT k els)/\kO P e mem rv (qZ hl j)
theorem Tu{fn:Func}{eT:TypeId}{k:Nat}{els els':List (List AV)}{hl:List (Option AV)}{x:Exit}{rv:ResultVar}{j:Nat}{r:AV}(hx:x= .normal \/x= .ret)(hr:fn.results= #[rv])(hm:mem[j]? =some (.row eT k els'))(h1:kO P e mem rv r)(hr2:r=qZ hl j)(he:els'=els):JE P fn eT k els hl x e mem:=by
 subst he;subst hr2;exact⟨hx,rv,j,hr,hm,h1⟩
theorem Nl{hl:List (Option AV)}{f:FuncId}{fn:Func}{c:Code}{args:List AV}{eT:TypeId}{k:Nat}{els:List (List AV)}(N:Nat)(hf:P.funcs[f]? =some fn)(hb:fn.body=some c)(hn:fn.ntmps=N)(hN:args.length<=N)(hpl:els.flatten.all uq=true)(hro:hl.all Ko=true)
 (hA:∀ e m,(∀ (t:Nat) (a:AV),args[t]? =some a->ak e (.tmp t)=a)->m= []->AW .top P N c (JE P fn eT k els hl) e m):Ba P f args eT k els hl:=by
 subst hn;have h:=hA (om args) [] (λt a ha=>by show args.getD t _=a;rw [Xc,ha];rfl) rfl;intro pr w vs h1 h2;refine(callsIn_wide (n:=9)).1 (callsIn_of_wp_marks hf hb trivial (wpIn_mono (h Fence.wide 9 rfl (λb=>pr b/\b<w.heap.size) ⟨w,λ_=>False,[]⟩ [] {tmps:=vs.toArray++Array.replicate (fn.ntmps - vs.toArray.size) undef,defers:= []} w ⟨?_,Mks.nil _ _ _,λt=>?_,?_⟩) ?_))
 ·simp;omega
 ·show R1 _ _ _ (args.getD t (.v undef)) ((vs.toArray++Array.replicate (fn.ntmps - vs.toArray.size) undef).getD t undef)
  by_cases ht:t<args.length
  ·have e1:args.getD t (.v undef)=args[t]:=by simp [Xc,ht]
   have ht':t<vs.length:=by omega
   have e2:(vs.toArray++Array.replicate (fn.ntmps - vs.toArray.size) undef).getD t undef=vs[t]:=by
    rw [Xn,X7 mS];simp [ht']
   rw [e1,e2];refine .ro ((h2 t _ _ (Xd ht) (Xd ht')).mono (Xf _) (λ_ _ _=>rfl) λb _ hn hp=>?_);rcases hp with hp|⟨j,o,v,q,_⟩
   ·exact hn hp.1
   ·simp at q
  ·have e1:args.getD t (.v undef)= .v undef:=by simp [Xc,Xq (X6 ht)]
   have e2:(vs.toArray++Array.replicate (fn.ntmps - vs.toArray.size) undef).getD t undef=undef:=by
    rw [Xn,Yb cJ,Yo]
    split<;>rfl
   rw [e1,e2];exact .ro (.v _)
 ·exact⟨gq.refl w _,λb hb=>⟨hb.2,id⟩,rfl,λj o v hm=>by simp at hm,λi j o p v u b hm=>by simp at hm⟩
 ·rintro x a w' ⟨e',mem',θ',hfit,-,hx,rv,j,hr,hm,hres⟩;have fin:LeavesInM Fence.wide 9 P fn a.tmps (λen w'=>∃ v u xs,en= .returned v/\Ext w w'/\w'.ownsRow w.heap.size eT k u els.length xs/\(∀ l∈els,l.length=k)/\els.flatten=xs.map AV.v/\ ∀ θ (pr2:Nat->Prop) q,(∀ b,b<w'.heap.size->pr2 b->(pr b/\b<w.heap.size)\/cA u=some b)->θ[q]? =some u->R1 θ pr2 w' (qZ hl q) v) a.defers .returning w':=by
   refine pP hfit.dfr λw2 hc=>?_
   have hs2:=hfit.sim.calm hc;obtain⟨v,hrun,hv⟩:=mL (⟨hfit.size,Mks.nil _ _ _,λt=>(hfit.sl t).calm hc,hs2⟩:Fit fn.ntmps _ _ e' mem' θ' {a with defers:= []} w2) hres;obtain⟨u,hθ⟩:∃ u,θ'[j]? =some u:=⟨_,Xd (by rw [hs2.len];exact(Xe.1 hm).1)⟩;obtain⟨xs,h3,hbs,h4,h5⟩:=hs2.ob j _ _ hm hθ;refine⟨v,sR (rv:=rv) hr _ hrun,v,u,xs,rfl,hs2.ext.pd,?_,h4,?_,λθ2 pr2 q hp2 hq=>Vl hro hv hθ (λb hb hn hp=>(hp2 b hb hp).elim (λh=>hn (.inl h)) (λh=>hn (.inr ⟨j,_,u,hm,aN,hθ,h⟩))) hq (oW h3)⟩
   ·refine⟨h3.1,?_⟩;rcases h3.2 with h6|⟨gg,cap,cur,he,hg,rest⟩
    ·exact .inl h6
    ·have:=hbs gg (by rw [he];rfl);rcases this with h7|h7
     ·exact .inr ⟨gg,cap,cur,he,h7,rest⟩
     ·exact h7.elim
   ·have hlen:els.flatten.length=xs.length:=by rw [fF h4,h3.1]
    refine XV λn=>?_
    rw [Xh]
    by_cases hlt:n<xs.length
    ·rw [Xd hlt,Xd ah];have h6:=h5 n _ _ (Xd (by omega:n<els.flatten.length)) (Xd hlt);have h7:=Xv.1 hpl _ (XR (by omega:n<els.flatten.length));cases hq:els.flatten[n]' ah with
     | v c=>rw [hq]at h6;cases h6;rfl
     | _=>rw [hq]at h7;cases h7
    ·rw [Xq ah,Xq ah];rfl
  rcases hx with rfl|rfl
  ·exact fin
  ·exact fin
end
end Go.Proofs.YtbmlgmblfboigaaGreatDoor
namespace Go.Proofs.YtbmlgmblfboigaaGreatDoor
open Go Go.RowKit Go.Proofs
theorem Step.news{pb:Nat->Prop}{w0:Bs}{w w':World}{θ:List Value}{mem:List Ob}(h:cm pb w0 w θ mem)(hx:Ext w w')(vs:List Value)(os:List Ob)(hlen:vs.length=os.length)(hb:∀ (i:Nat) (v:Value) (b:Nat),vs[i]? =some v->cA v=some b->w.heap.size<=b)
 (hd:∀ (i j:Nat) (v u:Value) (b:Nat),vs[i]? =some v->vs[j]? =some u->cA v=some b->cA u=some b->i=j)
 (ho:∀ θ' pr,(∀ a x,R1 θ (aO pb θ mem) w a x->R1 θ' pr w' a x)-> ∀ (i:Nat) (v:Value) (o:Ob),vs[i]? =some v->os[i]? =some o->dI θ' pr w0.gp w' v o):Step pb w0 θ mem w (θ++vs) (mem++os) w':=by
 have hθ:∀ (j:Nat) (x:Value),θ[j]? =some x->(θ++vs)[j]? =some x:=λj x hj=>by rw [Xj (Xe.1 hj).1];exact hj
 have split:∀ {j:Nat} {p:Ob} {u:Value},(mem++os)[j]? =some p->(θ++vs)[j]? =some u->(mem[j]? =some p/\θ[j]? =some u)\/(mem.length<=j/\os[j - mem.length]? =some p/\vs[j - mem.length]? =some u):=by
  intro j p u hm hu;rcases XC j mem.length with hj|hj
  ·rw [Xj hj]at hm;rw [Xj (by rw [h.len];exact hj)]at hu;exact .inl ⟨hm,hu⟩
  ·rw [Xk hj]at hm;rw [Xk (by rw [h.len];exact hj),h.len]at hu;exact .inr ⟨hj,hm,hu⟩
 have hp:∀ b,b<w.heap.size-> ¬ aO pb θ mem b-> ¬ aO pb (θ++vs) (mem++os) b:=by
  intro b hlt hn hq;rcases hq with hq|⟨j,p,u,h1,h2,h3,h4⟩
  ·exact hn (.inl hq)
  rcases split h1 h3 with⟨h5,h6⟩|⟨_,_,h6⟩
  ·exact hn (.inr ⟨j,p,u,h5,h2,h6,h4⟩)
  ·have:=hb _ _ b h6 h4;omega
 have keep:∀ a x,R1 θ (aO pb θ mem) w a x->R1 (θ++vs) (aO pb (θ++vs) (mem++os)) w' a x:=λa x hr=>hr.mono hθ hx.size (λb hb _=>hx.block b hb) hp
 refine⟨⟨h.ext.ext hx,h.low,by simp [h.len,hlen],λj p u hm hu=>?_,λi j p q u u' b h1 h2 h3 h4 h5 h6 h7 h8=>?_⟩,keep,hx.size,λb hb _=>hx.block b hb,hp⟩
 ·rcases split hm hu with⟨h5,h6⟩|⟨_,h5,h6⟩
  ·by_cases hg:p= .gone
   ·subst hg;trivial
   ·exact(h.ob j p u h5 h6).mono hθ hx.size (λb hb _=>hx.block b hb) hp (λb hb=>hx.block b ((h.ob j p u h5 h6).lt hg hb).2)
  ·exact ho _ _ keep _ _ _ h6 h5
 ·rcases split h1 h5 with⟨a1,a2⟩|⟨l1,a1,a2⟩<;>rcases split h3 h6 with⟨a3,a4⟩|⟨l2,a3,a4⟩
  ·exact h.dis i j p q u u' b a1 h2 a3 h4 a2 a4 h7 h8
  ·have:=((h.ob i p u a1 a2).lt h2 h7).2;have:=hb _ _ b a4 h8;omega
  ·have:=((h.ob j q u' a3 a4).lt h4 h8).2;have:=hb _ _ b a2 h7;omega
  ·have:=hd _ _ _ _ b a2 a4 h7 h8;omega
section
variable {P:Program} {e:Nat->AV} {mem:List Ob} {d:Option Tmp} {ty t:TypeId} {pos:String} {af:Array Edge} {g:Option (Nat×Bool)} {x y:Operand}
end
end Go.Proofs.YtbmlgmblfboigaaGreatDoor
namespace Go.Proofs.YtbmlgmblfboigaaGreatDoor
open Go Go.RowKit Go.Proofs
section
variable {P:Program} {e:Nat->AV} {mem:List Ob} {d:Option Tmp} {ty t t2:TypeId} {pos:String} {af:Array Edge} {g:Option (Nat×Bool)} {x y z:Operand}
theorem zp{els:List (List AV)}{k bytes eT:Nat}{zv:Value}(hty:bO P t eT k bytes zv)(hg:P.eqGuardType P.depth t=false)(hx:ak e x= .row k els)(hy:ak e y= .v (.slice none 0 0))(hne:els≠ []):
 bw P ⟨d,.binOp .eql t x y t2,ty,pos,af,g⟩ e mem (.v (.bool false)):=by
 intro pb w0 θ w ev hs h;have h1':=h x cE;have h2':=h y cE;rw [hx]at h1';rw [hy]at h2';have hpr:(program).run P w= .ok P w:=rfl;have hu:=hty.1;cases hv:aT ev x with
 | slice A n c=>
  rw [hv]at h1';cases A with
  | none=>
   cases h1'.getRow with
   | nil=>exact absurd rfl hne
  | some A=>
   rw [vx hv h2'.val,Sem.run_bind];have hrun:(do eqGuard .eql t x y (.slice (some A) n c) (.slice none 0 0);binOp .eql t (.slice (some A) n c) (.slice none 0 0):Sem Value).run P w= .ok (.bool false) w:=by
    have h1:∀ d,(Op.equalIn (d+1) t (.slice (some A) n c) (.slice none 0 0)).run P w= .ok false w:=λd=>by
     unfold Op.equalIn;simp [Sem.run_bind,run_underlying hu]
    have h2:=h1 (Op.maxDepth - 1);rw [Nat.sub_add_cancel aD]at h2;simp [eqGuard,binOp,Op.equal,Sem.run_bind,hpr,hg,h2]
   rw [hrun];exact⟨.ro (.v _),Ext.refl w⟩
 | _=>rw [hv]at h1';cases h1'.getRow
end
section
variable {P:Program} {N:Nat} {Q:AQ} {e:Nat->AV} {mem:List Ob}
theorem Dp{M:Mode}{c:Code}{j k eT kk:Nat}{T:TypeId}{cells:List AV}{els:List (List AV)}(o:Nat)(hm:mem[j]? =some (.box T cells))(hk:mem[k]? =some (.row eT kk els))(hjk:k≠j)(ho:cells[o]? =some (.own k))
 (h:∀ m1,m1=(mem.set k .gone).set j (.box T (cells.set o (.row kk els)))->AW M P N c Q e m1):AW M P N c Q e mem:=by
 refine λF n hF pb w0 θ a w hf=>?_
 have hsim:=hf.sim;have D1:=Step.drop hsim k;have hm2:(mem.set k .gone)[j]? =some (.box T cells):=by rw [Xm hjk];exact hm
 obtain⟨v,hv⟩:∃ v,θ[j]? =some v:=⟨_,Xd (by rw [hsim.len];exact(Xe.1 hm).1)⟩;obtain⟨b',xs,hb1,hb2,hb3,hb4,hb5⟩:=hsim.ob j _ v hm hv;obtain⟨b2,xs2,c1,c2,c3,c4,c5⟩:=D1.sim.ob j _ v hm2 hv;have st2:Step pb w0 θ (mem.set k .gone) w θ ((mem.set k .gone).set j (.box T (cells.set o (.row kk els)))) w:=
  Step.write (o':=Ob.box T (cells.set o (.row kk els))) D1.sim hm2 aN hv (Below.refl 0 w) (λ_ _ _=>rfl) λpr keep=>⟨b2,xs2,c1,c2,c3,by simpa using c4,λi a x ha hx=>by
   by_cases hi:o=i
   ·subst hi;have hlt:o<cells.length:=(Xe.1 ho).1;rw [Xt hlt]at ha;cases ha;have hx2:=(c5 o _ x ho hx).gU;exact keep _ _ (.ro (DR hsim hk hx2))
   ·rw [Xm hi]at ha;exact keep _ _ (c5 i a x ha hx)⟩
 have st3:=D1.trans st2;exact wpIn_mono (h _ rfl F n hF pb w0 θ a w ⟨hf.size,hf.dfr.step st3,λt=>st3.keep _ _ (hf.sl t),st3.sim⟩) λ_ _ _ hq=>hq.after st3
end
end Go.Proofs.YtbmlgmblfboigaaGreatDoor
namespace Go.Proofs.YtbmlgmblfboigaaGreatDoor
open Go Go.RowKit Go.Proofs
def nQ(P:Program)(a:AV)(args:List AV)(ψ:AV->Prop):Prop:=∃ f l m,a= .clo (.func f) l m/\cC.roL l=true/\cC.roL m=true/\(∀ args w,(callFunc f args).run P w= .ok (.enter f args) w)/\bN P f (l++args++m) ψ
section
variable {P:Program} {e:Nat->AV} {mem:List Ob} {d:Option Tmp} {ty:TypeId} {pos:String} {af:Array Edge} {g:Option (Nat×Bool)} {x:Operand}
theorem ER{as:Array Operand}{ts:Array TypeId}{args:List AV}{a r:AV}(hx:ak e x=a)(hargs:cX e as.toList=args)(hro:cC.roL args=true)(h:nQ P a args (λq=>q=r)):bw P ⟨d,.call ⟨.value x,as,ts⟩,ty,pos,af,g⟩ e mem r:=by
 obtain⟨f,l,m,rfl,h1,h2,h3,h4⟩:=h;exact EF hx hargs hro h1 h2 h4 h3
end
def qM(a:AV):List AV:= [a]
instance:Inhabited AV:=⟨.any⟩
end Go.Proofs.YtbmlgmblfboigaaGreatDoor
namespace Go.Proofs.YtbmlgmblfboigaaGreatDoor
open Go Go.RowKit Go.Proofs
def kS(P:Program)(N:Nat)(c:Code)(Q:AQ)(e:Nat->AV)(mem:List Ob):Prop:=∀ (l n:Nat) pb w0 θ a w,Fit N pb w0 e mem θ a w->(∃ r:Loop,w.heap[l]? =some (.loop r))-> ¬ aO pb θ mem l->c.wpIn (Fence.wide.inRound l) n P (LQ N pb w0 θ mem w Q) a w
theorem IX{P:Program}{N:Nat}{c:Code}{Q:AQ}{e:Nat->AV}{mem:List Ob}(h:AW .rnd P N c Q e mem):kS P N c Q e mem:=λl n pb w0 θ a w hf _ _=>h _ n ⟨l,rfl⟩ pb w0 θ a w hf
theorem Tv{P:Program}{N:Nat}{Q:AQ}{e:Nat->AV}{mem:List Ob}{x y:Code}(h:kS P N x (lQ (kS P N y Q) Q) e mem):kS P N (.seq x y) Q e mem:=by
 intro l n pb w0 θ a w hf hl hp;refine wpIn_seq (wpIn_mono (h l n pb w0 θ a w hf hl hp) ?_);rintro x a' w' ⟨e',mem',θ',h1,hst,h2⟩;obtain⟨r,hr⟩:=hl;have hlt:=(Xu.1 hr).1;cases x with
 | normal=>exact wpIn_mono (h2 l n pb w0 θ' a' w' h1 ⟨r,(hst.same l hlt hp).trans hr⟩ (hst.np l hlt hp)) λ_ _ _ hq=>hq.after hst
 | _=>exact⟨e',mem',θ',h1,hst,h2⟩
theorem DV{P:Program}{N:Nat}{Q:AQ}{e:Nat->AV}{mem:List Ob}{id:Nat}{c:Code}(h:kS P N c (mV id Q) e mem):kS P N (.block id c) Q e mem:=by
 intro l n pb w0 θ a w hf hl hp;refine wpIn_block (wpIn_mono (h l n pb w0 θ a w hf hl hp) ?_);rintro x a' w' ⟨e',mem',θ',h1,hst,h2⟩;cases x with
 | exit i=>
  simp only [mV]at h2;simp only [Exit.inBlock]
  by_cases hi:i=id
  ·rw [if_pos hi]at h2 ⊢;exact⟨e',mem',θ',h1,hst,h2⟩
  ·rw [if_neg hi]at h2 ⊢;exact⟨e',mem',θ',h1,hst,h2⟩
 | _=>exact⟨e',mem',θ',h1,hst,h2⟩
theorem Nn{P:Program}{N:Nat}{Q:AQ}{e:Nat->AV}{mem:List Ob}{g:Operand}{ps:Array Tmp}{assign body:Code}{gf:FuncId}{l m:List AV}{ys:List (List AV)}(hg:ak e g= .clo (.func gf) l m)(gen:nP P gf l m ys)
 (eg:∀ args w,(callFunc gf args).run P w= .ok (.enter gf args) w)(hps:∀ y∈ys,y.length=ps.size)(hN:∀ p∈ps.toList,p<N)(I:Nat->List Ob->Prop)(h0:I 0 mem)
 (round:∀ i y m',ys[i]? =some y->I i m'->AW .rnd P N assign (qK λe' m''=>kS P N body (my I Q e i) e' m'') (pD e (ps.toList.zip y)) m')(done:∀ m',I ys.length m'->Q .normal e m'):AW .top P N (.rangeFunc g ps assign body) Q e mem:=by
 intro F n hF pb w0 θ a w hf;cases hF;refine wpIn_rangeFunc ?_;intro fn hfn;obtain⟨rec,hrec⟩:∃ rec:LoopState->Option Code->Loop,rec=λst pe=> {state:=st,pending:=pe,fn,tmps:=a.tmps,params:=ps,assign,body,defers:=w.heap.size}:=⟨_,rfl⟩
 obtain⟨W1,hW1⟩:∃ W1,(w.alloc (.deferred (some []))).alloc (.loop (rec .ready none))=W1:=⟨_,rfl⟩;have hL1:W1.heap[w.heap.size+1]? =some (.loop (rec .ready none)):=by
  rw [<- hW1];have:=World.alloc_heap_new (w.alloc (.deferred (some []))) (.loop (rec .ready none));rwa [World.size_alloc]at this
 have hK1:W1.heap[w.heap.size]? =some (.deferred (some [])):=by
  rw [<- hW1];exact(Below.heap_alloc _ _ _ aN).trans (World.alloc_heap_new w _)
 have hx1:Ext w W1:=by rw [<- hW1];exact((Ext.refl w).alloc _).alloc _
 have hw0:=hf.sim.ext.size;have hnp:∀ b,w.heap.size<=b-> ¬ aO pb θ mem b:=by
  rintro b hb (hp|⟨j,o,v,h1,h2,h3,h4⟩)
  ·have:=(hf.sim.low b hp).1;omega
  ·have:=((hf.sim.ob j o v h1 h3).lt h2 h4).2;omega
 have hgv:=ju hf g;rw [hg]at hgv;obtain⟨xs,us,hge,hxl,hxr,hul,hur⟩:∃ xs us:List Value,aT (λt=>a.tmps.getD t undef) g= .func (.func gf) xs.toArray us.toArray/\xs.length=l.length/\(∀ (i:Nat) (b:AV) (x:Value),l[i]? =some b->xs[i]? =some x->R1 θ (aO pb θ mem) w b x)/\us.length=m.length/\(∀ (i:Nat) (b:AV) (x:Value),m[i]? =some b->us[i]? =some x->R1 θ (aO pb θ mem) w b x):=by
  generalize aT (λt=>a.tmps.getD t undef) g=z at hgv;cases hgv with
  | ro h=>cases h with|clo _ _ _ xs us h1 h2 h3 h4=>exact⟨xs,us,rfl,h1,λi b x hb hx=>.ro (h2 i b x hb hx),h3,λi b x hb hx=>.ro (h4 i b x hb hx)⟩
  | clo _ _ _ xs us h1 h2 h3 h4=>exact⟨xs,us,rfl,h1,h2,h3,h4⟩
 refine⟨w.heap.size+1,[{target:=.collected w.heap.size,args:= #[]}],W1,{target:=.fn (.func gf) us.toArray,args:=xs.toArray++ #[.func (.yield (w.heap.size+1)) #[] #[]]},W1,gf,
  (xs++ .func (.yield (w.heap.size+1)) #[] #[]::us).toArray,W1,?_,?_,λ_ _=>trivial,?_,λhd=>(by cases hd),?_⟩
 ·rw [<- hW1,hrec];exact run_enterLoop_outer _ _ _ _ _
 ·have:resolve a.eval (rangeCall g (w.heap.size+1)) 0=resolve (aT (λt=>a.tmps.getD t undef)) (rangeCall g (w.heap.size+1)) 0:=by rw [gm]
  rw [this];simp only [rangeCall,resolve,hge];simp [go_sem,aT,Deferred.ofValue]
 ·simp [invoke,go_sem,eg]
 ·have h8:=gen (w.heap.size+1) pb ⟨w0.w,w0.lb,[]⟩ θ mem W1 xs us
   (λb i θ' m' w'=>cT pb (w.heap.size+1) θ mem W1 θ' m' w'/\w'.heap[w.heap.size]? =some (.deferred (some []))/\((b=true/\w'.heap[w.heap.size+1]? =some (.loop (rec .ready none))/\I i m')\/
    (b=false/\ ∃ c,w'.heap[w.heap.size+1]? =some (.loop (rec .done (some c)))/\((c= .ret /\Q .ret e m')\/ ∃ id,c= .exit id/\Q (.exit id) e m'))))
   hxl hul (λi b x hb hx=>(hxr i b x hb hx).ext hx1) (λi b x hb hx=>(hur i b x hb hx).ext hx1) ?_ ?_ rfl ((hf.sim.ext' hx1).ds rfl rfl) ⟨cT.of (w0:=w0) (Step.refl (hf.sim.ext' hx1)),hK1,.inl ⟨rfl,hL1,h0⟩⟩
  rotate_left
  ·rintro b i θ' m' A B hs ⟨h1,h2,h3⟩ hx;refine⟨h1.trans (cT.of (Step.ext hs hx)),ma hx h2,?_⟩;rcases h3 with⟨rfl,h3,h4⟩|⟨rfl,c,h3,h4⟩
   ·exact .inl ⟨rfl,ma hx h3,h4⟩
   ·exact .inr ⟨rfl,c,ma hx h3,h4⟩
  ·rintro i y θ1 m1 w1 ws hy hwl hwr hs1 ⟨hk1,hd1,hj1⟩;obtain⟨-,hl1,hi1⟩:True/\w1.heap[w.heap.size+1]? =some (.loop (rec .ready none))/\I i m1:=by
    rcases hj1 with⟨_,h3,h4⟩|⟨h,_⟩
    ·exact⟨trivial,h3,h4⟩
    ·cases h
   have hsz1:=hk1.sz;have hlt:w.heap.size+1<w1.heap.size:=(Xu.1 hl1).1;have hpl:y.length=ps.size:=hps y (Xp hy);have hyy:=run_yield (P:=P) (args:=ws.toArray) hl1 (by rw [hrec];simp [hwl,hpl]);rw [hrec]at hyy;refine⟨fn,_,assign,body,hyy,roundIn_of_wpIn hfn ?_⟩
   -- the frame of the round
   have hn1:∀ b,w.heap.size<=b->b<W1.heap.size-> ¬ aO pb θ1 m1 b:=λb hb hb'=>hk1.np b hb' (hnp b hb)
   have hW1s:W1.heap.size=w.heap.size+2:=by rw [<- hW1];simp
   have hfr:∀ t,R1 θ1 (aO pb θ1 m1) w1 (e t) (a.tmps.getD t undef):=λt=>hk1.keep _ _ ((hf.sl t).ext hx1)
   have hup:=wA (N:=N) (pr:=aO pb θ1 m1) (θ:=θ1) (w:=w1) (ps.toList.zip y) (ps.toList.zip ws) e a.tmps (by simp [hwl]) (λk p b hk=>by
    obtain⟨hk1',hk2'⟩:ps.toList[k]? =some p/\y[k]? =some b:=by
     rw [YH]at hk;exact hk
    refine⟨hN p (Xp hk1'),?_⟩;have hlk:k<y.length:=(Xe.1 hk2').1;have hlw:k<ws.length:=by omega
    refine⟨ws[k],by rw [YH];exact⟨hk1',Xd hlw⟩,.ro (hwr k b _ hk2' (Xd hlw))⟩) hf.size hfr
   have hzip:(ps.zip ws.toArray).foldl (λt (q:Tmp×Value)=>t.setIfInBounds q.1 q.2) a.tmps=(ps.toList.zip ws).foldl (λt (q:Tmp×Value)=>t.setIfInBounds q.1 q.2) a.tmps:=by
    rw [<- YP];simp
   have hfit1:Fit N pb ⟨w0.w,w0.lb,[]⟩ (pD e (ps.toList.zip y)) m1 θ1 {tmps:=(ps.zip ws.toArray).foldl (λt (q:Tmp×Value)=>t.setIfInBounds q.1 q.2) a.tmps,defers:= []} w1:=by
    refine⟨?_,Mks.nil _ _ _,?_,hs1⟩
    ·show((ps.zip ws.toArray).foldl _ a.tmps).size =N
     rw [hzip];exact hup.1
    ·intro t
     show R1 _ _ _ _ (((ps.zip ws.toArray).foldl _ a.tmps).getD t undef)
     rw [hzip];exact hup.2 t
   refine wpIn_mono (round i y m1 hy hi1 (Fence.wide.inRound (w.heap.size+1)) 7 ⟨_,rfl⟩ pb ⟨w0.w,w0.lb,[]⟩ θ1 _ w1 hfit1) ?_;rintro x1 a1 w1' ⟨e1,m2,θ2,hf1,hst1,hq1⟩;cases x1 with
   | normal=>
    have hq1:kS P N body (my I Q e i) e1 m2:=hq1;have hl1':w1'.heap[w.heap.size+1]? =some (.loop (rec .ready none)):=(hst1.same _ hlt (hn1 _ ah ah)).trans hl1;have hd1':w1'.heap[w.heap.size]? =some (.deferred (some [])):=(hst1.same _ ah (hn1 _ ah ah)).trans hd1;have hn2:∀ b,w.heap.size<=b->b<W1.heap.size-> ¬ aO pb θ2 m2 b:=λb hb hb'=>hst1.np b ah (hn1 b hb hb')
    refine⟨_,run_beginRound hl1' (by rw [hrec]),?_⟩;obtain⟨wb,hwb⟩:∃ wb,wb=w1'.putObj (w.heap.size+1) (.loop {rec .ready none with state:=.busy}):=⟨_,rfl⟩;rw [<- hwb];have hlt':w.heap.size+1<w1'.heap.size:=(Xu.1 hl1').1;have hlb:wb.heap[w.heap.size+1]? =some (.loop {rec .ready none with state:=.busy}):=by rw [hwb];exact World.putObj_heap_same hlt'
    have hdb:wb.heap[w.heap.size]? =some (.deferred (some [])):=by rw [hwb];exact(World.putObj_heap_other ah).trans hd1'
    have hcb:c6 w0.w.heap.size w1' wb:=by rw [hwb];exact c6.lu _ ah hl1'
    have hkb:cT pb (w.heap.size+1) θ2 m2 w1' θ2 m2 wb:=by rw [hwb];exact cT.put _ hl1'
    have hszb:wb.heap.size=w1'.heap.size:=by rw [hwb];simp
    have hfb:Fit N pb ⟨w0.w,w0.lb,[]⟩ e1 m2 θ2 a1 wb:=⟨hf1.size,hf1.dfr.pg hkb hl1',λt=>(hf1.sl t).calm hcb,hf1.sim.calm hcb⟩;refine wpIn_mono (hq1 (w.heap.size+1) 7 pb ⟨w0.w,w0.lb,[]⟩ θ2 a1 wb hfb ⟨_,hlb⟩ (hn2 _ ah ah)) ?_;rintro x3 a3 w3 ⟨e3,m3,θ3,hf3,hst3,hq3⟩;have hl3:w3.heap[w.heap.size+1]? =some (.loop {rec .ready none with state:=.busy}):=(hst3.same _ ah (hn2 _ ah ah)).trans hlb;have hd3:w3.heap[w.heap.size]? =some (.deferred (some [])):=(hst3.same _ ah (hn2 _ ah ah)).trans hdb;have fin:∀ (jump:Option Code),((jump=none/\I (i+1) m3)\/ ∃ c,jump=some c/\((c= .ret /\Q .ret e m3)\/ ∃ id,c= .exit id/\Q (.exit id) e m3))-> ∃ v w4,(Instr.endRound (w.heap.size+1) jump).run P w3= .ok v w4/\ ∃ (b:Bool) (θ4:List Value) (m4:List Ob),Ending.returned v= .returned (.bool b)/\cm pb ⟨w0.w,w0.lb,[]⟩ w4 θ4 m4/\(∀ a x,R1 θ1 (aO pb θ1 m1) w1 a x->R1 θ4 (aO pb θ4 m4) w4 a x)/\
     (∀ ds,Mks (Bs.bd ⟨w0.w,w0.lb,[]⟩) (aO pb θ1 m1) w1 ds->Mks (Bs.bd ⟨w0.w,w0.lb,[]⟩) (aO pb θ4 m4) w4 ds)/\cT pb (w.heap.size+1) θ mem W1 θ4 m4 w4/\w4.heap[w.heap.size]? =some (.deferred (some []))/\((b=true/\w4.heap[w.heap.size+1]? =some (.loop (rec .ready none))/\I (i+1) m4)\/
     (b=false/\ ∃ c,w4.heap[w.heap.size+1]? =some (.loop (rec .done (some c)))/\((c= .ret /\Q .ret e m4)\/ ∃ id,c= .exit id/\Q (.exit id) e m4))):=by
     intro jump hj;have hr:=run_endRound (P:=P) jump hl3;refine⟨_,_,hr,jump.isNone,θ3,m3,rfl,?_⟩;have hc4:=c6.lu (B:=w0.w.heap.size) (.loop {({rec .ready none with state:=.busy}:Loop)with state:=if jump.isNone then .ready else .done,pending:=jump}) ah hl3;have hk4:=cT.put (pb:=pb) (θ:=θ3) (mem:=m3) (.loop {({rec .ready none with state:=.busy}:Loop)with state:=if jump.isNone then .ready else .done,pending:=jump}) hl3;have hkk:cT pb (w.heap.size+1) θ1 m1 w1 θ3 m3 _:=(((cT.of hst1).trans hkb).trans (cT.of hst3)).trans hk4;have hl4:=World.putObj_heap_same (w:=w3) (r:=w.heap.size+1) (o:=.loop {({rec .ready none with state:=.busy}:Loop)with state:=if jump.isNone then .ready else .done,pending:=jump}) (Xu.1 hl3).1;refine⟨hf3.sim.calm hc4,hkk.keep,λds hm=>hm.pg hkk hl1,hk1.trans hkk,(World.putObj_heap_other ah).trans hd3,?_⟩;rcases hj with⟨rfl,hj⟩|⟨c,rfl,hj⟩
     ·exact .inl ⟨rfl,by rw [hl4,hrec];rfl,hj⟩
     ·exact .inr ⟨rfl,c,by rw [hl4,hrec];rfl,hj⟩
    cases x3 with
    | normal=>exact fin none (.inl ⟨rfl,hq3⟩)
    | ret=>exact fin (some .ret) (.inr ⟨_,rfl,.inl ⟨rfl,hq3⟩⟩)
    | exit id=>exact fin (some (.exit id)) (.inr ⟨_,rfl,.inr ⟨id,rfl,hq3⟩⟩)
    | goto t=>exact hq3.elim
    | panic ch=>exact hq3.elim
    | outgrown=>exact hq3.elim
   | _=>exact hq1.elim
  ·refine CallsIn.mono ((callsIn_wide (n:=n - 1)).2 ((callsIn_wide (n:=8)).1 h8)) ?_;rintro en w2 ⟨⟨v,rfl⟩,b,i,θ2,m2,hs2,⟨hk2,hd2,hj2⟩,hbi⟩;obtain⟨st,hl2,hst2⟩:∃ st:Loop,w2.heap[w.heap.size+1]? =some (.loop st)/\st.state≠ .busy /\st.pending=(if b then none else st.pending):=by
    rcases hj2 with⟨rfl,h3,_⟩|⟨rfl,c,h3,_⟩
    ·exact⟨_,h3,by rw [hrec];simp,by rw [hrec];rfl⟩
    ·exact⟨_,h3,by rw [hrec];simp,rfl⟩
   have hW1s:W1.heap.size=w.heap.size+2:=by rw [<- hW1];simp
   have hsz2:=hk2.sz;have hr:=run_endLoop (P:=P) hl2 hst2.1;have hc4:=c6.lu (B:=w0.w.heap.size) (.loop {st with state:=.exhausted}) ah hl2;have hk4:=(hk2.trans (cT.put (pb:=pb) (θ:=θ2) (mem:=m2) (.loop {st with state:=.exhausted}) hl2));have hstep:Step pb w0 θ mem w θ2 m2 (w2.putObj (w.heap.size+1) (.loop {st with state:=.exhausted})):=
    ⟨(hs2.ds (w1:=w0) rfl rfl).calm hc4,λb x hr=>hk4.keep b x (hr.ext hx1),Xz hx1.size hk4.sz,λb hb hn=>(hk4.same b ah hn ah).trans (hx1.block b hb),λb hb hn=>hk4.np b ah hn⟩
   have hfe:Fit N pb w0 e m2 θ2 {a with defers:= {target:=.collected w.heap.size,args:= #[]}::a.defers} (w2.putObj (w.heap.size+1) (.loop {st with state:=.exhausted})):=by
    refine⟨hf.size,?_,λt=>hstep.keep _ _ (hf.sl t),hstep.sim⟩;obtain⟨ms,hms,hm0⟩:=hf.dfr;have hm:=hm0.mono hstep.sz hstep.same hstep.np;refine⟨_::ms,by rw [hms];rfl,λd hd=>?_,Yh.2 ⟨λd hd hcon=>?_,hm.2⟩⟩
    ·rcases XM.1 hd with rfl|hd
     ·exact⟨_,rfl,by simp;omega,hk4.np _ ah (hnp _ (Xf _)),(World.putObj_heap_other ah).trans hd2,hw0⟩
     ·exact hm.1 d hd
    ·obtain⟨D,g1,g2,_⟩:=hm0.1 d hd;rw [g1]at hcon
     injection hcon with hcon
     omega
   rcases hj2 with⟨rfl,h3,h4⟩|⟨rfl,c,h3,h4⟩
   ·rw [hl2]at h3;cases h3;have h5:=hbi rfl;subst h5;have hp:(rec .ready none).pending =none:=by rw [hrec]
    exact⟨none,_,hr.trans (congrArg (λp=>Result.ok p _) hp),⟨e,m2,θ2,hfe,hstep,done m2 h4⟩⟩
   ·rw [hl2]at h3;cases h3;have hp:(rec .done (some c)).pending =some c:=by rw [hrec]
    refine⟨some c,_,hr.trans (congrArg (λp=>Result.ok p _) hp),?_⟩;rcases h4 with⟨rfl,h4⟩|⟨id,rfl,h4⟩
    ·exact wpIn_ret ⟨e,m2,θ2,hfe,hstep,h4⟩
    ·exact wpIn_exit ⟨e,m2,θ2,hfe,hstep,h4⟩
theorem Np{P:Program}{N:Nat}{Q:AQ}{e:Nat->AV}{mem:List Ob}{g:Operand}{ps:Array Tmp}{assign body:Code}{gf:FuncId}{l m:List AV}{ys:List (List AV)}(hg:ak e g= .clo (.func gf) l m)(gen:nP P gf l m ys)
 (eg:∀ args w,(callFunc gf args).run P w= .ok (.enter gf args) w)(hps:∀ y∈ys,y.length=ps.size)(hN:∀ p∈ps.toList,p<N)(I:Nat->List Ob->Prop)(h0:I 0 mem)
 (round:∀ i y m',ys[i]? =some y->I i m'->AW .rnd P N assign (qK λe' m''=>kS P N body (my I Q e i) e' m'') (pD e (ps.toList.zip y)) m')(done:∀ m',I ys.length m'->Q .normal e m'):kS P N (.rangeFunc g ps assign body) Q e mem:=by
 intro l0 n pb w0 θ a w hf hl0 hp0;obtain⟨r0,hr0⟩:=hl0;refine wpIn_rangeFunc ?_;intro fn hfn;obtain⟨rec,hrec⟩:∃ rec:LoopState->Option Code->Loop,rec=λst pe=> {state:=st,pending:=pe,fn,tmps:=a.tmps,params:=ps,assign,body,defers:=r0.defers}:=⟨_,rfl⟩
 obtain⟨W1,hW1⟩:∃ W1,w.alloc (.loop (rec .ready none))=W1:=⟨_,rfl⟩;have hL1:W1.heap[w.heap.size]? =some (.loop (rec .ready none)):=by
  rw [<- hW1];exact World.alloc_heap_new w _
 have hx1:Ext w W1:=by rw [<- hW1];exact(Ext.refl w).alloc _
 have hw0:=hf.sim.ext.size;have hnp:∀ b,w.heap.size<=b-> ¬ aO pb θ mem b:=by
  rintro b hb (hp|⟨j,o,v,h1,h2,h3,h4⟩)
  ·have:=(hf.sim.low b hp).1;omega
  ·have:=((hf.sim.ob j o v h1 h3).lt h2 h4).2;omega
 have hgv:=ju hf g;rw [hg]at hgv;obtain⟨xs,us,hge,hxl,hxr,hul,hur⟩:∃ xs us:List Value,aT (λt=>a.tmps.getD t undef) g= .func (.func gf) xs.toArray us.toArray/\xs.length=l.length/\(∀ (i:Nat) (b:AV) (x:Value),l[i]? =some b->xs[i]? =some x->R1 θ (aO pb θ mem) w b x)/\us.length=m.length/\(∀ (i:Nat) (b:AV) (x:Value),m[i]? =some b->us[i]? =some x->R1 θ (aO pb θ mem) w b x):=by
  generalize aT (λt=>a.tmps.getD t undef) g=z at hgv;cases hgv with
  | ro h=>cases h with|clo _ _ _ xs us h1 h2 h3 h4=>exact⟨xs,us,rfl,h1,λi b x hb hx=>.ro (h2 i b x hb hx),h3,λi b x hb hx=>.ro (h4 i b x hb hx)⟩
  | clo _ _ _ xs us h1 h2 h3 h4=>exact⟨xs,us,rfl,h1,h2,h3,h4⟩
 refine⟨w.heap.size,[],W1,{target:=.fn (.func gf) us.toArray,args:=xs.toArray++ #[.func (.yield (w.heap.size)) #[] #[]]},W1,gf,
  (xs++ .func (.yield (w.heap.size)) #[] #[]::us).toArray,W1,?_,?_,λ_ _=>trivial,?_,λhd=>(by cases hd),?_⟩
 ·rw [<- hW1,hrec];exact run_enterLoop_inner hr0 _ _ _ _ _
 ·have:resolve a.eval (rangeCall g (w.heap.size)) 0=resolve (aT (λt=>a.tmps.getD t undef)) (rangeCall g (w.heap.size)) 0:=by rw [gm]
  rw [this];simp only [rangeCall,resolve,hge];simp [go_sem,aT,Deferred.ofValue]
 ·simp [invoke,go_sem,eg]
 ·have h8:=gen (w.heap.size) pb ⟨w0.w,w0.lb,[]⟩ θ mem W1 xs us
   (λb i θ' m' w'=>cT pb (w.heap.size) θ mem W1 θ' m' w'/\((b=true/\w'.heap[w.heap.size]? =some (.loop (rec .ready none))/\I i m')\/
    (b=false/\ ∃ c,w'.heap[w.heap.size]? =some (.loop (rec .done (some c)))/\((c= .ret /\Q .ret e m')\/ ∃ id,c= .exit id/\Q (.exit id) e m'))))
   hxl hul (λi b x hb hx=>(hxr i b x hb hx).ext hx1) (λi b x hb hx=>(hur i b x hb hx).ext hx1) ?_ ?_ rfl ((hf.sim.ext' hx1).ds rfl rfl) ⟨cT.of (w0:=w0) (Step.refl (hf.sim.ext' hx1)),.inl ⟨rfl,hL1,h0⟩⟩
  rotate_left
  ·rintro b i θ' m' A B hs ⟨h1,h3⟩ hx;refine⟨h1.trans (cT.of (Step.ext hs hx)),?_⟩;rcases h3 with⟨rfl,h3,h4⟩|⟨rfl,c,h3,h4⟩
   ·exact .inl ⟨rfl,ma hx h3,h4⟩
   ·exact .inr ⟨rfl,c,ma hx h3,h4⟩
  ·rintro i y θ1 m1 w1 ws hy hwl hwr hs1 ⟨hk1,hj1⟩;obtain⟨-,hl1,hi1⟩:True/\w1.heap[w.heap.size]? =some (.loop (rec .ready none))/\I i m1:=by
    rcases hj1 with⟨_,h3,h4⟩|⟨h,_⟩
    ·exact⟨trivial,h3,h4⟩
    ·cases h
   have hsz1:=hk1.sz;have hlt:w.heap.size<w1.heap.size:=(Xu.1 hl1).1;have hpl:y.length=ps.size:=hps y (Xp hy);have hyy:=run_yield (P:=P) (args:=ws.toArray) hl1 (by rw [hrec];simp [hwl,hpl]);rw [hrec]at hyy;refine⟨fn,_,assign,body,hyy,roundIn_of_wpIn hfn ?_⟩
   -- the frame of the round
   have hn1:∀ b,w.heap.size<=b->b<W1.heap.size-> ¬ aO pb θ1 m1 b:=λb hb hb'=>hk1.np b hb' (hnp b hb)
   have hW1s:W1.heap.size=w.heap.size+1:=by rw [<- hW1];simp
   have hfr:∀ t,R1 θ1 (aO pb θ1 m1) w1 (e t) (a.tmps.getD t undef):=λt=>hk1.keep _ _ ((hf.sl t).ext hx1)
   have hup:=wA (N:=N) (pr:=aO pb θ1 m1) (θ:=θ1) (w:=w1) (ps.toList.zip y) (ps.toList.zip ws) e a.tmps (by simp [hwl]) (λk p b hk=>by
    obtain⟨hk1',hk2'⟩:ps.toList[k]? =some p/\y[k]? =some b:=by
     rw [YH]at hk;exact hk
    refine⟨hN p (Xp hk1'),?_⟩;have hlk:k<y.length:=(Xe.1 hk2').1;have hlw:k<ws.length:=by omega
    refine⟨ws[k],by rw [YH];exact⟨hk1',Xd hlw⟩,.ro (hwr k b _ hk2' (Xd hlw))⟩) hf.size hfr
   have hzip:(ps.zip ws.toArray).foldl (λt (q:Tmp×Value)=>t.setIfInBounds q.1 q.2) a.tmps=(ps.toList.zip ws).foldl (λt (q:Tmp×Value)=>t.setIfInBounds q.1 q.2) a.tmps:=by
    rw [<- YP];simp
   have hfit1:Fit N pb ⟨w0.w,w0.lb,[]⟩ (pD e (ps.toList.zip y)) m1 θ1 {tmps:=(ps.zip ws.toArray).foldl (λt (q:Tmp×Value)=>t.setIfInBounds q.1 q.2) a.tmps,defers:= []} w1:=by
    refine⟨?_,Mks.nil _ _ _,?_,hs1⟩
    ·show((ps.zip ws.toArray).foldl _ a.tmps).size =N
     rw [hzip];exact hup.1
    ·intro t
     show R1 _ _ _ _ (((ps.zip ws.toArray).foldl _ a.tmps).getD t undef)
     rw [hzip];exact hup.2 t
   refine wpIn_mono (round i y m1 hy hi1 (Fence.wide.inRound (w.heap.size)) 7 ⟨_,rfl⟩ pb ⟨w0.w,w0.lb,[]⟩ θ1 _ w1 hfit1) ?_;rintro x1 a1 w1' ⟨e1,m2,θ2,hf1,hst1,hq1⟩;cases x1 with
   | normal=>
    have hq1:kS P N body (my I Q e i) e1 m2:=hq1;have hl1':w1'.heap[w.heap.size]? =some (.loop (rec .ready none)):=(hst1.same _ hlt (hn1 _ ah ah)).trans hl1;have hn2:∀ b,w.heap.size<=b->b<W1.heap.size-> ¬ aO pb θ2 m2 b:=λb hb hb'=>hst1.np b ah (hn1 b hb hb')
    refine⟨_,run_beginRound hl1' (by rw [hrec]),?_⟩;obtain⟨wb,hwb⟩:∃ wb,wb=w1'.putObj (w.heap.size) (.loop {rec .ready none with state:=.busy}):=⟨_,rfl⟩;rw [<- hwb];have hlt':w.heap.size<w1'.heap.size:=(Xu.1 hl1').1;have hlb:wb.heap[w.heap.size]? =some (.loop {rec .ready none with state:=.busy}):=by rw [hwb];exact World.putObj_heap_same hlt'
    have hcb:c6 w0.w.heap.size w1' wb:=by rw [hwb];exact c6.lu _ ah hl1'
    have hkb:cT pb (w.heap.size) θ2 m2 w1' θ2 m2 wb:=by rw [hwb];exact cT.put _ hl1'
    have hszb:wb.heap.size=w1'.heap.size:=by rw [hwb];simp
    have hfb:Fit N pb ⟨w0.w,w0.lb,[]⟩ e1 m2 θ2 a1 wb:=⟨hf1.size,hf1.dfr.pg hkb hl1',λt=>(hf1.sl t).calm hcb,hf1.sim.calm hcb⟩;refine wpIn_mono (hq1 (w.heap.size) 7 pb ⟨w0.w,w0.lb,[]⟩ θ2 a1 wb hfb ⟨_,hlb⟩ (hn2 _ ah ah)) ?_;rintro x3 a3 w3 ⟨e3,m3,θ3,hf3,hst3,hq3⟩;have hl3:w3.heap[w.heap.size]? =some (.loop {rec .ready none with state:=.busy}):=(hst3.same _ ah (hn2 _ ah ah)).trans hlb;have fin:∀ (jump:Option Code),((jump=none/\I (i+1) m3)\/ ∃ c,jump=some c/\((c= .ret /\Q .ret e m3)\/ ∃ id,c= .exit id/\Q (.exit id) e m3))-> ∃ v w4,(Instr.endRound (w.heap.size) jump).run P w3= .ok v w4/\ ∃ (b:Bool) (θ4:List Value) (m4:List Ob),Ending.returned v= .returned (.bool b)/\cm pb ⟨w0.w,w0.lb,[]⟩ w4 θ4 m4/\(∀ a x,R1 θ1 (aO pb θ1 m1) w1 a x->R1 θ4 (aO pb θ4 m4) w4 a x)/\
     (∀ ds,Mks (Bs.bd ⟨w0.w,w0.lb,[]⟩) (aO pb θ1 m1) w1 ds->Mks (Bs.bd ⟨w0.w,w0.lb,[]⟩) (aO pb θ4 m4) w4 ds)/\cT pb (w.heap.size) θ mem W1 θ4 m4 w4/\((b=true/\w4.heap[w.heap.size]? =some (.loop (rec .ready none))/\I (i+1) m4)\/
     (b=false/\ ∃ c,w4.heap[w.heap.size]? =some (.loop (rec .done (some c)))/\((c= .ret /\Q .ret e m4)\/ ∃ id,c= .exit id/\Q (.exit id) e m4))):=by
     intro jump hj;have hr:=run_endRound (P:=P) jump hl3;refine⟨_,_,hr,jump.isNone,θ3,m3,rfl,?_⟩;have hc4:=c6.lu (B:=w0.w.heap.size) (.loop {({rec .ready none with state:=.busy}:Loop)with state:=if jump.isNone then .ready else .done,pending:=jump}) ah hl3;have hk4:=cT.put (pb:=pb) (θ:=θ3) (mem:=m3) (.loop {({rec .ready none with state:=.busy}:Loop)with state:=if jump.isNone then .ready else .done,pending:=jump}) hl3;have hkk:cT pb (w.heap.size) θ1 m1 w1 θ3 m3 _:=(((cT.of hst1).trans hkb).trans (cT.of hst3)).trans hk4;have hl4:=World.putObj_heap_same (w:=w3) (r:=w.heap.size) (o:=.loop {({rec .ready none with state:=.busy}:Loop)with state:=if jump.isNone then .ready else .done,pending:=jump}) (Xu.1 hl3).1;refine⟨hf3.sim.calm hc4,hkk.keep,λds hm=>hm.pg hkk hl1,hk1.trans hkk,?_⟩;rcases hj with⟨rfl,hj⟩|⟨c,rfl,hj⟩
     ·exact .inl ⟨rfl,by rw [hl4,hrec];rfl,hj⟩
     ·exact .inr ⟨rfl,c,by rw [hl4,hrec];rfl,hj⟩
    cases x3 with
    | normal=>exact fin none (.inl ⟨rfl,hq3⟩)
    | ret=>exact fin (some .ret) (.inr ⟨_,rfl,.inl ⟨rfl,hq3⟩⟩)
    | exit id=>exact fin (some (.exit id)) (.inr ⟨_,rfl,.inr ⟨id,rfl,hq3⟩⟩)
    | goto t=>exact hq3.elim
    | panic ch=>exact hq3.elim
    | outgrown=>exact hq3.elim
   | _=>exact hq1.elim
  ·refine CallsIn.mono ((callsIn_wide (n:=n - 1)).2 ((callsIn_wide (n:=8)).1 h8)) ?_;rintro en w2 ⟨⟨v,rfl⟩,b,i,θ2,m2,hs2,⟨hk2,hj2⟩,hbi⟩;obtain⟨st,hl2,hst2⟩:∃ st:Loop,w2.heap[w.heap.size]? =some (.loop st)/\st.state≠ .busy /\st.pending=(if b then none else st.pending):=by
    rcases hj2 with⟨rfl,h3,_⟩|⟨rfl,c,h3,_⟩
    ·exact⟨_,h3,by rw [hrec];simp,by rw [hrec];rfl⟩
    ·exact⟨_,h3,by rw [hrec];simp,rfl⟩
   have hW1s:W1.heap.size=w.heap.size+1:=by rw [<- hW1];simp
   have hsz2:=hk2.sz;have hr:=run_endLoop (P:=P) hl2 hst2.1;have hc4:=c6.lu (B:=w0.w.heap.size) (.loop {st with state:=.exhausted}) ah hl2;have hk4:=(hk2.trans (cT.put (pb:=pb) (θ:=θ2) (mem:=m2) (.loop {st with state:=.exhausted}) hl2));have hstep:Step pb w0 θ mem w θ2 m2 (w2.putObj (w.heap.size) (.loop {st with state:=.exhausted})):=
    ⟨(hs2.ds (w1:=w0) rfl rfl).calm hc4,λb x hr=>hk4.keep b x (hr.ext hx1),Xz hx1.size hk4.sz,λb hb hn=>(hk4.same b ah hn ah).trans (hx1.block b hb),λb hb hn=>hk4.np b ah hn⟩
   have hfe:Fit N pb w0 e m2 θ2 a (w2.putObj (w.heap.size) (.loop {st with state:=.exhausted})):=by
    exact⟨hf.size,hf.dfr.step hstep,λt=>hstep.keep _ _ (hf.sl t),hstep.sim⟩
   rcases hj2 with⟨rfl,h3,h4⟩|⟨rfl,c,h3,h4⟩
   ·rw [hl2]at h3;cases h3;have h5:=hbi rfl;subst h5;have hp:(rec .ready none).pending =none:=by rw [hrec]
    exact⟨none,_,hr.trans (congrArg (λp=>Result.ok p _) hp),⟨e,m2,θ2,hfe,hstep,done m2 h4⟩⟩
   ·rw [hl2]at h3;cases h3;have hp:(rec .done (some c)).pending =some c:=by rw [hrec]
    refine⟨some c,_,hr.trans (congrArg (λp=>Result.ok p _) hp),?_⟩;rcases h4 with⟨rfl,h4⟩|⟨id,rfl,h4⟩
    ·exact wpIn_ret ⟨e,m2,θ2,hfe,hstep,h4⟩
    ·exact wpIn_exit ⟨e,m2,θ2,hfe,hstep,h4⟩
section
variable {P:Program} {N:Nat} {Q:AQ} {e:Nat->AV} {mem:List Ob} {g:Operand} {assign body:Code} {gf:FuncId} {l m:List AV}
theorem L9{ys:List (List AV)}{p:Tmp}(hg:ak e g= .clo (.func gf) l m)(gen:nP P gf l m ys)(eg:∀ args w,(callFunc gf args).run P w= .ok (.enter gf args) w)(hps:∀ y∈ys,y.length=1)(hN:p<N)(I:Nat->List Ob->Prop)(h0:I 0 mem)
 (round:∀ i a m',ys[i]? =some [a]->I i m'->AW .rnd P N assign (qK λe' m''=>kS P N body (my I Q e i) e' m'') (aS e (some p) a) m')(done:∀ m',I ys.length m'->Q .normal e m'):AW .top P N (.rangeFunc g #[p] assign body) Q e mem:=by
 refine Nn hg gen eg hps (λq hq=>by simp at hq;subst hq;exact hN) I h0 (λi y m' hy hI=>?_) done;have hl:=hps y (Xp hy)
 match y,hl,hy with
 | [a],_,hy=>exact round i a m' hy hI
theorem Mc{ys:List (List AV)}{p:Tmp}(hg:ak e g= .clo (.func gf) l m)(gen:nP P gf l m ys)(eg:∀ args w,(callFunc gf args).run P w= .ok (.enter gf args) w)(hps:∀ y∈ys,y.length=1)(hN:p<N)(I:Nat->List Ob->Prop)(h0:I 0 mem)
 (round:∀ i a m',ys[i]? =some [a]->I i m'->AW .rnd P N assign (qK λe' m''=>kS P N body (my I Q e i) e' m'') (aS e (some p) a) m')(done:∀ m',I ys.length m'->Q .normal e m'):kS P N (.rangeFunc g #[p] assign body) Q e mem:=by
 refine Np hg gen eg hps (λq hq=>by simp at hq;subst hq;exact hN) I h0 (λi y m' hy hI=>?_) done;have hl:=hps y (Xp hy)
 match y,hl,hy with
 | [a],_,hy=>exact round i a m' hy hI
end
end Go.Proofs.YtbmlgmblfboigaaGreatDoor
