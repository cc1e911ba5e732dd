/- Lemmas for the statement. -/
import Derived.Test.YtbmlgmblfboigaaGreatDoorA14
import Derived.Lib.AppendZerosOnto
namespace Go.Proofs.YtbmlgmblfboigaaGreatDoor
open Go Go.RowKit Go.Proofs
set_option linter.unusedSimpArgs false
set_option linter.unusedVariables false
def BR(P:Program)(f:FuncId)(args:List AV)(eT:TypeId)(k:Nat)(els:List (List AV)):Prop:=
 ∀ (pr:Nat->Prop) (w:World) (vs:List Value),vs.length=args.length->(∀ (i:Nat) (a:AV) (x:Value),args[i]? =some a->vs[i]? =some x->R0 pr w a x)->
  Calls P f vs.toArray w λen w'=>∃ v xs,en= .returned v/\Ext w w'/\w'.ownsRow w.heap.size eT k v els.length xs/\(∀ l∈els,l.length=k)/\els.flatten=xs.map AV.v
section
variable {P:Program} {e:Nat->AV} {mem:List Ob} {d:Option Tmp} {ty t:TypeId} {pos:String} {af:Array Edge} {g:Option (Nat×Bool)} {x y:Operand}
theorem L6{f:FuncId}{as:Array Operand}{ts:Array TypeId}{args:List AV}{eT:TypeId}{k:Nat}{els:List (List AV)}(hargs:cX e as.toList=args)(hro:cC.roL args=true)(hc:BR P f args eT k els)(dY:∀ args w,(callFunc f args).run P w= .ok (.enter f args) w):
 kN P ⟨d,.call ⟨.value (.func f),as,ts⟩,ty,pos,af,g⟩ e mem (.row eT k els) (λj=>.own j):=by
 intro pb w0 θ w ev hs h;have hvs:(as.toList.map (aT ev)).length =args.length:=by rw [<- hargs];simp [cX]
 rw [k6 (f:=.func (.func f) #[] #[]) rfl rfl];refine oJ dY ((hc (aO pb θ mem) w _ hvs λi a v ha hv=>?_).mono ?_)
 ·have ha':=ha;rw [<- hargs,cX,Xh]at ha';rw [Xh]at hv;cases hx:as.toList[i]? with
  | none=>rw [hx]at hv;cases hv
  | some x=>
   rw [hx]at ha' hv;simp at ha' hv;subst ha' hv;have hmem:x∈as:=by have:=Xp hx;simpa using this
   exact(h x mR).gr (gy hro ha)
 ·rintro en w' ⟨v,xs,he,hx,h9,hk,hfl⟩;refine⟨v,he,hx,(λb hb=>(kH h9 hb).1),λθ' pr k1=>?_,λθ' pr j hj=>.own j _ hj (oW h9)⟩;refine⟨xs,h9.rj (Xy _),(λb hb=>.inl (Xz hs.ext.size (kH h9 hb).1)),hk,λn a u ha hu=>?_⟩;rw [hfl,Xh,hu]at ha;simp at ha;subst ha;exact .v _
def J1(fn:Func)(eT:TypeId)(k:Nat)(els:List (List AV)):AQ:=λx e mem=>(x= .normal \/x= .ret)/\ ∃ t,fn.results= #[.tmp t]/\((∃ j,e t= .own j/\mem[j]? =some (.row eT k els))\/(e t= .v (.slice none 0 0)/\els= []))
theorem Ve{fn:Func}{eT:TypeId}{k:Nat}{els els':List (List AV)}{x:Exit}{t j:Nat}(hx:x= .normal \/x= .ret)(hr:fn.results= #[.tmp t])(h1:ak e (.tmp t)= .own j)(hm:mem[j]? =some (.row eT k els'))(he:els'=els):J1 fn eT k els x e mem:=by
 subst he;exact⟨hx,t,hr,.inl ⟨j,h1,hm⟩⟩
def uq(a:AV):Bool:=match a with| .v _=>true|_=>false
theorem PO{f:FuncId}{fn:Func}{c:Code}{args:List AV}{eT:TypeId}{k:Nat}{els:List (List AV)}(N:Nat)(hf:P.funcs[f]? =some fn)(hb:fn.body=some c)(hn:fn.ntmps=N)(hN:args.length<=N)(hpl:els.flatten.all uq=true)
 (hA:∀ e m,(∀ (t:Nat) (a:AV),args[t]? =some a->ak e (.tmp t)=a)->m= []->AW .top P N c (J1 fn eT k els) e m):BR P f args eT k els:=by
 subst hn;have h:=hA (om args) [] (λt a ha=>by show args.getD t _=a;rw [Xc,ha];rfl) rfl;intro pr w vs h1 h2;refine(callsIn_wide (n:=9)).1 (callsIn_of_wp_marks hf hb trivial (wpIn_mono (h Fence.wide 9 rfl (λb=>pr b/\b<w.heap.size) ⟨w,λ_=>False,[]⟩ [] {tmps:=vs.toArray++Array.replicate (fn.ntmps - vs.toArray.size) undef,defers:= []} w ⟨?_,Mks.nil _ _ _,λt=>?_,?_⟩) ?_))
 ·simp;omega
 ·show R1 _ _ _ (args.getD t (.v undef)) ((vs.toArray++Array.replicate (fn.ntmps - vs.toArray.size) undef).getD t undef)
  by_cases ht:t<args.length
  ·have e1:args.getD t (.v undef)=args[t]:=by simp [Xc,ht]
   have ht':t<vs.length:=by omega
   have e2:(vs.toArray++Array.replicate (fn.ntmps - vs.toArray.size) undef).getD t undef=vs[t]:=by
    rw [Xn,X7 mS];simp [ht']
   rw [e1,e2];refine .ro ((h2 t _ _ (Xd ht) (Xd ht')).mono (Xf _) (λ_ _ _=>rfl) λb _ hn hp=>?_);rcases hp with hp|⟨j,o,v,q,_⟩
   ·exact hn hp.1
   ·simp at q
  ·have e1:args.getD t (.v undef)= .v undef:=by simp [Xc,Xq (X6 ht)]
   have e2:(vs.toArray++Array.replicate (fn.ntmps - vs.toArray.size) undef).getD t undef=undef:=by
    rw [Xn,Yb cJ,Yo]
    split<;>rfl
   rw [e1,e2];exact .ro (.v _)
 ·exact⟨gq.refl w _,λb hb=>⟨hb.2,id⟩,rfl,λj o v hm=>by simp at hm,λi j o p v u b hm=>by simp at hm⟩
 ·rintro x a w' ⟨e',mem',θ',hfit,-,hx,t,hr,hcase⟩;have fin:LeavesInM Fence.wide 9 P fn a.tmps (λen w'=>∃ v xs,en= .returned v/\Ext w w'/\w'.ownsRow w.heap.size eT k v els.length xs/\(∀ l∈els,l.length=k)/\els.flatten=xs.map AV.v) a.defers .returning w':=by
   refine pP hfit.dfr λw2 hc=>?_
   have hs2:=hfit.sim.calm hc;have hsl:=(hfit.sl t).calm hc;rcases hcase with⟨j,hej,hm⟩|⟨hej,rfl⟩
   rotate_left
   ·rw [hej]at hsl;exact⟨_,sR (rv:=.tmp t) hr _ rfl,_,[],rfl,hs2.ext.pd,by rw [hsl.val];exact World.ownsRow_nil w2 _ eT k,(λl hl=>by cases hl),rfl⟩
   rw [hej]at hsl;have hθ:=hsl.gU;obtain⟨xs,h3,hbs,h4,h5⟩:=hs2.ob j _ _ hm hθ;refine⟨_,sR (rv:=.tmp t) hr _ rfl,_,xs,rfl,hs2.ext.pd,?_,h4,?_⟩
   ·refine⟨h3.1,?_⟩;rcases h3.2 with h6|⟨gg,cap,cur,he,hg,rest⟩
    ·exact .inl h6
    ·have:=hbs gg (by rw [he];rfl);rcases this with h7|h7
     ·exact .inr ⟨gg,cap,cur,he,h7,rest⟩
     ·exact h7.elim
   ·have hlen:els.flatten.length=xs.length:=by rw [fF h4,h3.1]
    refine XV λn=>?_
    rw [Xh]
    by_cases hlt:n<xs.length
    ·rw [Xd hlt,Xd ah];have h6:=h5 n _ _ (Xd (by omega:n<els.flatten.length)) (Xd hlt);have h7:=Xv.1 hpl _ (XR (by omega:n<els.flatten.length));cases hq:els.flatten[n]' ah with
     | v c=>rw [hq]at h6;cases h6;rfl
     | _=>rw [hq]at h7;cases h7
    ·rw [Xq ah,Xq ah];rfl
  rcases hx with rfl|rfl
  ·exact fin
  ·exact fin
def qR(mem:List Ob)(l:List AV):Prop:=∀ a∈l,lr a=true\/ ∃ j2 T2 k2 els,a= .own j2/\mem[j2]? =some (.row T2 k2 els)
theorem oK:qR mem []:=λa h=>by cases h
theorem fV{a:AV}{l:List AV}(h:lr a=true)(t:qR mem l):qR mem (a::l):=λb hb=>by
 rcases XM.1 hb with rfl|hb
 ·exact .inl h
 ·exact t b hb
theorem mY{j2 k2 T2:Nat}{els:List (List AV)}{l:List AV}(h:mem[j2]? =some (.row T2 k2 els))(t:qR mem l):qR mem (.own j2::l):=λb hb=>by
 rcases XM.1 hb with rfl|hb
 ·exact .inr ⟨_,_,_,_,rfl,h⟩
 ·exact t b hb
theorem Nh{j off n:Nat}{T:TypeId}{cells l:List AV}{a:AV}(hx:ak e x= .ptr j off)(hy:ak e y=a)(hc:cellsA a=some l)(hone:qR mem l)(hm:mem[j]? =some (.box T cells))(hsz:(P.info? t).map (·.size)=some n)(hn:l.length=n)(ho:off+n<=cells.length):
 nO P ⟨d,.store t x y,ty,pos,af,g⟩ e mem j (.box T (setAt cells off l)):=by
 intro pb w0 θ w ev hs h;have h1:=h x cE;have h2:=h y cE;rw [hx]at h1;rw [hy]at h2;obtain⟨b,v,hθ,hbase,hp⟩:=h1.gk;obtain⟨b',xs,h3,rfl,h4,h5,h6⟩:=hs.ob j _ v hm hθ;cases hbase;obtain⟨h7,h8⟩:=rk h2 hc;have hrun:=u9 (P:=P) (θ:=θ) (pr:=aO pb θ mem) (t:=t) (off:=off) (n:=n) (v:=aT ev y) h4 hsz ah ah (λu hu=>by
  obtain⟨i,hi,rfl⟩:=XN hu;have hil:i<l.length:=by simp at hi;omega
  have h9:=h8 i l[i] ((aT ev y).cells.toList[i]) (Xd hil) (by simp at hi;simp [hi]);rcases hone _ (XR hil)with h10|⟨j2,T2,k2,els,h10,h11⟩
  ·exact tL h9 h10
  ·rw [h10]at h9;obtain⟨zs,h12,_⟩:=hs.ob j2 _ _ h11 h9.gU;obtain⟨A,c,hval,_⟩:=rp h12;rw [hval];rfl)
 have e1:execOp (aT ev) ⟨d,.store t x y,ty,pos,af,g⟩=(do Instr.storeAt t (aT ev x) (aT ev y);pure .skip):=rfl;rw [e1,Sem.run_bind,hp,hrun];refine⟨rfl,Step.write hs hm aN hθ (below_setRow (Xy _) _) (λb hb hne=>setRow_other w b' b _ (λe=>hne mj)) λpr k=>?_⟩;have hcl:(aT ev y).cells.toList.length =n:=by simp;omega
 refine⟨b',setAt xs off (aT ev y).cells.toList,h3,rfl,setRow_heap w b' _ _ T (0,0) h4,by rw [l9 _ _ _ ah,l9 _ _ _ ah,h5],λi a u ha hu=>?_⟩;rw [kY _ _ _ ah]at ha hu;rw [hcl]at hu;rw [hn]at ha
 by_cases c1:i<off
 ·rw [if_pos c1]at ha hu;exact k _ _ (h6 i a u ha hu)
 ·rw [if_neg c1]at ha hu
  by_cases c2:i<off+n
  ·rw [if_pos c2]at ha hu;exact k _ _ (h8 _ a u ha (by simpa using hu))
  ·rw [if_neg c2]at ha hu;exact k _ _ (h6 i a u ha hu)
theorem oG{j off n:Nat}{T:TypeId}{cells l:List AV}{a:AV}(hx:ak e x= .ptr j off)(hy:ak e y=a)(hc:cellsA a=some l)(hone:qR mem l)(hm:mem[j]? =some (.box T cells))(hsz:(P.info? t).map (·.size)=some n)(hn:l.length=n)(ho:off+n<=cells.length):
 eE P ⟨d,.store t x y,ty,pos,af,g⟩ e mem (.v undef) (mem.set j (.box T (setAt cells off l))):=sg (Nh hx hy hc hone hm hsz hn ho)
theorem Vf{k bytes eT:Nat}{zv:Value}{els:List (List AV)}(h0:els≠ [])(hpl:els.flatten.all uq=true)(ht:bO P t eT k bytes zv)(hk:(zv.cells.size==k&&decide (0<k)&&decide (0<bytes))=true)(hx:ak e x= .emp)(hy:ak e y= .row k els)(hb:els.length*bytes<=140737488355328):
 kN P ⟨d,.call ⟨.builtin .append,#[x,y],#[t,t]⟩,ty,pos,af,g⟩ e mem (.row eT k els) (λj=>.own j):=by
 intro pb w0 θ w ev hs h;simp only [Xg,decide_eq_true_eq]at hk;obtain⟨⟨hks,hk0⟩,hb0⟩:=hk;simp only [beq_iff_eq]at hks;obtain⟨i,hi,hz,hsz,hby⟩:=ht.info;have h1:=h x fl;have h2:=h y fl;rw [hx]at h1;rw [hy]at h2;generalize hv:aT ev x=v at h1;generalize hu:aT ev y=u at h2;have h1':∃ A,v= .slice A 0 0:=by
  cases h1 with|ro h1=>cases h1 with|emp A=>exact⟨A,rfl⟩
 obtain⟨B,rfl⟩:=h1';obtain⟨A,c,news,rfl,h6,h7,h8⟩:=xo h2.getRow;have hfl:=fF h7;have h63:els.length<=140737488355328:=by
  have:=YO els.length hb0;omega
 rw [kx (fL hv (fL hu kC))];have hpos:0<els.length:=XJ.2 h0;obtain⟨b,o,rfl,hrow⟩:=h6.2 hpos;have hcells:∀ j u,news[j]? =some u->w.cell? ((⟨b,o,none⟩:Addr).add j)=some u:=λj u hj=>by rw [Addr.add_lit];exact hrow.2 j u hj
 have hnl:news.length=els.length*i.size:=by rw [hsz];exact h6.1
 have hA:∃ cap,els.length<=cap/\cap=grownCap w els.length 0 eT/\(Builtin.append_ #[t,t] ty #[.slice B 0 0,.slice (some ⟨b,o,none⟩) els.length c]).run P w= .ok (.slice (some ⟨w.heap.size,0,none⟩) els.length cap) (w.drew.alloc (.cells (news.toArray++Builtin.zeroCells zv.cells (cap - els.length)) eT)):=by
  refine⟨grownCap w els.length 0 eT,grownCap_ge w els.length 0 eT,rfl,?_⟩;cases B with
  | none=>exact run_append_nil (P:=P) (w:=w) t ty eT i zv ht.1 hi hz _ _ _ news hnl hcells hpos ah (by rw [hby];omega)
  | some B=>
   have:=run_append_grow (P:=P) (w:=w) t ty eT i zv ht.1 hi hz B 0 0 [] aN (by intro j v hj;simp at hj) ⟨b,o,none⟩ els.length c news hnl hcells ah ah (growslice_fits ah (by rw [hby,Xl];exact hb))
   simpa using this
 obtain⟨cap,hcap,hcapE,hA⟩:=hA;have e1:∀ cs,(builtin .append #[t,t] ty cs [.slice B 0 0,.slice (some ⟨b,o,none⟩) els.length c].toArray).run P w= .ok (.value (.slice (some ⟨w.heap.size,0,none⟩) els.length cap)) (w.drew.alloc (.cells (news.toArray++Builtin.zeroCells zv.cells (cap - els.length)) eT)):=by
  intro cs;simp only [builtin,Sem.run_bind,hA,Result.andThen_ok,Sem.run_pure]
 rw [e1];have hmax:cap<=maxLen:=by rw [hcapE];exact grownCap_le_maxLen w els.length 0 eT (by simp only [maxLen];omega)
 have hxx:Ext w (w.drew.alloc (.cells (news.toArray++Builtin.zeroCells zv.cells (cap - els.length)) eT)):=(Ext.refl w).drew.alloc _;have hnk:news.length=els.length*k:=h6.1;have h9:(w.drew.alloc (.cells (news.toArray++Builtin.zeroCells zv.cells (cap - els.length)) eT)).ownsRow w.heap.size eT k (.slice (some ⟨w.heap.size,0,none⟩) els.length cap) els.length news:=by
  refine⟨hnk,.inr ⟨w.heap.size,cap,_,rfl,Xf _,World.alloc_heap_new w.drew _,hcap,hmax,?_,?_⟩⟩
  ·rw [Array.size_append,size_zeroCells,hks];simp only [YM];rw [hnk, <- Nat.add_mul,show els.length+(cap - els.length)=cap by omega]
  ·rw [Array.toList_append];rw [List.take_append_of_le_length (by simp [hnk])];exact Yp (by simp [hnk])
 refine⟨hxx,(λb hb=>(kH h9 hb).1),λθ' pr k1=>?_,λθ' pr j hj=>.own j _ hj (oW h9)⟩;refine⟨news,h9.rj (Xy _),(λb hb=>.inl (Xz hs.ext.size (kH h9 hb).1)),h7,λn a u ha hu=>?_⟩;have:=k1 a u (.ro (h8 n a u ha hu));refine this.gr ?_;have hpa:=Xv.1 hpl a (Xp ha);cases a with
 | v c=>rfl
 | _=>cases hpa
theorem Vg{m k bytes eT:Nat}{zv:Value}{els:List (List AV)}(h0:els≠ [])(hpl:els.flatten.all uq=true)(hl:mem.length=m)(ht:bO P t eT k bytes zv)(hk:(zv.cells.size==k&&decide (0<k)&&decide (0<bytes))=true)(hx:ak e x= .emp)(hy:ak e y= .row k els)(hb:els.length*bytes<=140737488355328):
 eE P ⟨d,.call ⟨.builtin .append,#[x,y],#[t,t]⟩,ty,pos,af,g⟩ e mem (.own m) (mem++ [.row eT k els]):=qJ (h:=λj=>.own j) (Vf h0 hpl ht hk hx hy hb) hl
end
end Go.Proofs.YtbmlgmblfboigaaGreatDoor
