/- Lemmas for the statement. -/
import Derived.Test.YtbmlgmblfboigaaGreatDoorA6
import Derived.Test.YtbmlgmblfboigaaGreatDoorA3
namespace Go.Proofs.YtbmlgmblfboigaaGreatDoor
open Go Go.RowKit
set_option linter.unusedVariables false
set_option linter.unusedSimpArgs false
section
variable {P:Program} {e:Nat->AV} {mem:List Ob} {d:Option Tmp} {ty t t2:TypeId} {pos:String} {af:Array Edge} {g:Option (Nat×Bool)} {x y z:Operand}
theorem yq{pr:Nat->Prop}{w:World}{k:Nat}{els:List (List AV)}{v:Value}(h:R0 pr w (.row k els) v):∃ (A:Option Addr) (c:Nat) (news:List Value),v= .slice A els.length c/\Rd w k A els.length news/\(∀ l∈els,l.length=k)/\ ∀ (i:Nat) (a:AV) (u:Value),els.flatten[i]? =some a->news[i]? =some u->R0 pr w a u:=by
 cases h with
 | nil k c A=>exact⟨A,c,[],rfl,Rd.nil w k A,by simp,λi a u h=>by simp at h⟩
 | row _ _ b o c f hne hc hk hb hp hcell hr=>
  have hfl:=fm hk;refine⟨_,c,(List.range els.flatten.length).map f,rfl,⟨by simp only [TV,List.length_range];exact hfl,λ_=>⟨b,o,rfl,hb,λj u hu=>?_⟩⟩,hk,λi a u ha hu=>?_⟩
  ·have hj:j<els.flatten.length:=by have:=(S9.1 hu).1;simpa using this
   rw [Tm,UW hj]at hu;simp at hu;subst hu;exact hcell j _ (Tc hj)
  ·have hj:i<els.flatten.length:=(S9.1 ha).1;rw [Tm,UW hj]at hu;simp at hu;subst hu;exact hr i a ha
theorem Fe{w:World}{base n k:Nat}{eT:TypeId}{v:Value}{xs:List Value}(h:w.ownsRow base eT k v n xs):v.ownBlock=cg v:=by
 obtain⟨A,c,rfl,_⟩:=oM h;cases A<;>rfl
theorem re{w:World}{base n k:Nat}{eT:TypeId}{v:Value}{xs:List Value}(h:w.ownsRow base eT k v n xs):vh v=true:=by
 obtain⟨A,c,rfl,_⟩:=oM h;rfl
theorem I6{j k bytes:Nat}{eT:TypeId}{i:TypeInfo}{z:Value}{els els2:List (List AV)}(hx:ag e x= .own j)(hm:mem[j]? =some (.row eT k els))(hy:ag e y= .row k els2)(hone:els2.flatten.all jG=true)
 (ht:P.underlying t=some (.slice eT))(hi:P.info? eT=some i)(hz:i.zero=some z)(hsz:i.size=k)(hby:i.bytes=bytes)(hzs:z.cells.size=k)(hk0:0<k)(hb0:0<bytes)(hbytes:(els.length+els2.length)*bytes<=140737488355328):
 pP P ⟨d,.call ⟨.builtin .append,#[x,y],#[t,t]⟩,ty,pos,af,g⟩ e mem j (.row eT k (els++els2)) (λj=>.own j):=by
 intro pb w0 θ w ev hs h;have h1:=h x (by simp [Op.operands,Call.operands]);have h2:=h y (by simp [Op.operands,Call.operands]);rw [hx]at h1;rw [hy]at h2;generalize hv:aO ev x=v at h1;generalize hu:aO ev y=u at h2;have hθ:=h1.gy;obtain⟨xs,h3,hbs,h4,h5⟩:=hs.ob j _ v hm hθ;obtain⟨A,c,news,rfl,h6,h7,h8⟩:=yq h2.getRow;have h63:els.length+els2.length<=maxLen:=by
  have:=Vd (els.length+els2.length) hb0;simp only [maxLen];omega
 have hfl2:=fm h7;obtain⟨v',w',hrun,h9,h10,h11⟩:=zz (P:=P) t ty i z bytes ht hi hz hsz hby hzs hk0 h3 A els2.length c news h6 (λq hq=>by
  obtain⟨n,hn,rfl⟩:=T0 hq;have hn2:n<els2.flatten.length:=by rw [hfl2, <- h6.1];exact hn
  exact qK (θ:=θ) (.ro (h8 n _ _ (Tc hn2) (Tc hn))) (TJ.1 hone _ (Um hn2))) h63 hbytes (TO _)
 rw [ji (fp hv (fp hu jt))];have e1:∀ cs,(builtin .append #[t,t] ty cs [v,.slice A els2.length c].toArray).run P w= .ok (.value v') w':=by
  intro cs;simp only [builtin,Sem.run_bind,hrun,Result.andThen_ok,Sem.run_pure]
 rw [e1];have hbv:v.ownBlock=cg v:=Fe h3;have hbv':v'.ownBlock=cg v':=Fe h9;rw [hbv,hbv']at h11;refine⟨_,_,hm,by simp,hθ,(Below.refl 0 _).grown h10 (TO _) (λq hq=>TO _),(λb hb hne=>h10.block b hb (λe=>hne (by rw [<- hbv, <- e]))),?_,λθ' pr k1 k0=>?_,λθ' pr j hj=>.own _ _ hj (re h9)⟩
 ·rcases h11 with h|h
  ·exact .inl h
  ·exact .inr λb hb=>by rw [h]at hb;cases hb;exact Tf _
 ·refine⟨xs++news,by rw [TM];exact h9,(λb hb=>by
   rcases h11 with h|h
   ·rw [h]at hb;exact hbs b hb
   ·rw [h]at hb;cases hb;exact .inl hs.base),λl hl=>?_,λn a u ha hu=>?_⟩
  ·rcases Uu.1 hl with h|h
   ·exact h4 l h
   ·exact h7 l h
  ·rw [UN]at ha;have hfl:=fm h4;have hxl:xs.length=els.length*k:=h3.1;rcases TN n els.flatten.length with hn|hn
   ·rw [Tt hn]at ha;rw [Tt (by omega)]at hu;exact k0 a u (h5 n a u ha hu)
   ·rw [Tu hn]at ha;rw [Tu (by omega),hxl, <- hfl]at hu;exact k0 a u (h8 _ a u ha hu)
theorem Ib{k bytes:Nat}{eT:TypeId}{i:TypeInfo}{z:Value}{els2:List (List AV)}(hx:ag e x= .v (.slice none 0 0))(hy:ag e y= .row k els2)(hone:els2.flatten.all jG=true)
 (ht:P.underlying t=some (.slice eT))(hi:P.info? eT=some i)(hz:i.zero=some z)(hsz:i.size=k)(hby:i.bytes=bytes)(hzs:z.cells.size=k)(hk0:0<k)(hb0:0<bytes)(hbytes:els2.length*bytes<=140737488355328):
 j4 P ⟨d,.call ⟨.builtin .append,#[x,y],#[t,t]⟩,ty,pos,af,g⟩ e mem (.row eT k els2) (λj=>.own j):=by
 intro pb w0 θ w ev hs h;have h1:=h x (by simp [Op.operands,Call.operands]);have h2:=h y (by simp [Op.operands,Call.operands]);rw [hx]at h1;rw [hy]at h2;have hv:=h1.val;generalize hu:aO ev y=u at h2;obtain⟨A,c,news,rfl,h6,h7,h8⟩:=yq h2.getRow;have h63:els2.length<=maxLen:=by
  have:=Vd els2.length hb0;simp only [maxLen];omega
 have hfl2:=fm h7;obtain⟨v',w',hrun,h9,h10,h11⟩:=zz (P:=P) t ty i z bytes ht hi hz hsz hby hzs hk0 (World.ownsRow_nil w w.heap.size eT k) A els2.length c news h6 (λq hq=>by
  obtain⟨n,hn,rfl⟩:=T0 hq;have hn2:n<els2.flatten.length:=by rw [hfl2, <- h6.1];exact hn
  exact qK (θ:=θ) (.ro (h8 n _ _ (Tc hn2) (Tc hn))) (TJ.1 hone _ (Um hn2))) (by omega) (by rw [Tv];exact hbytes) (Tf _)
 rw [ji (fp hv (fp hu jt))];have e1:∀ cs,(builtin .append #[t,t] ty cs [.slice none 0 0,.slice A els2.length c].toArray).run P w= .ok (.value v') w':=by
  intro cs;simp only [builtin,Sem.run_bind,hrun,Result.andThen_ok,Sem.run_pure]
 rw [e1];have hxx:Ext w w':=(Below.refl _ _).grown h10 (Tf _) λq hq=>by cases hq
 refine⟨hxx,(λb hb=>(mK h9 hb).1),λθ' pr k1=>?_,λθ' pr j hj=>.own j _ hj (re h9)⟩;rw [Tv,UO]at h9;refine⟨news,h9.vV (TO _),(λb hb=>.inl (TP hs.base (mK h9 hb).1)),h7,λn a u ha hu=>?_⟩;have:=k1 a u (.ro (h8 n a u ha hu));refine this.gW ?_;cases hz:cm a with
 | true=>rfl
 | false=>
  exfalso
  have h12:=h8 n a u ha hu;exact absurd (Bl h12) (by rw [hz];simp)
theorem GR{zs:List AV}{n i:Nat}(h:i<n*zs.length):(List.replicate n zs).flatten[i]? =zs[i%zs.length]? :=by
 have hz:0<zs.length:=by
  rcases Us zs.length with h0|h0
  ·rw [h0]at h;omega
  ·exact h0
 have hi:i/zs.length<n:=(Nat.div_lt_iff_lt_mul hz).2 h;have h1:i=i/zs.length*zs.length+i%zs.length:=by rw [Nat.mul_comm];exact(Nat.div_add_mod i zs.length).symm
 have:=flat_get (els:=List.replicate n zs) (i:=i/zs.length) (j:=i%zs.length) (el:=zs) (k:=zs.length) (λl hl=>by rw [Ve hl]) (by rw [List.getElem?_replicate];simp [hi]) (Nat.mod_lt _ hz)
 rwa [<- h1]at this
theorem ON{k bytes:Nat}{eT:TypeId}{i:TypeInfo}{zv:Value}{zs:List AV}{n:Int}{kl:IntKind}(hx:ag e x= .v (.int kl n))(hy:ag e y= .v (.int kl n))(h0:0<=n)
 (ht:P.underlying t=some (.slice eT))(hi:P.info? eT=some i)(hz:i.zero=some zv)(hsz:i.size=k)(hby:i.bytes=bytes)(hzs:zv.cells.toList.map AV.v=zs)(hzl:zv.cells.size=k)(hb0:0<bytes)(hbytes:bytes*n.toNat<=281474976710656):
 j4 P ⟨d,.makeSlice t x y,ty,pos,af,g⟩ e mem (.row eT k (List.replicate n.toNat zs)) (λj=>.own j):=by
 intro pb w0 θ w ev hs h;have h1:=h x (by simp [Op.operands]);have h2:=h y (by simp [Op.operands]);rw [hx]at h1;rw [hy]at h2;have hn:((n.toNat:Nat):Int)=n:=UF h0;have h63:n.toNat<=maxLen:=by
  have:=Nat.le_mul_of_pos_left n.toNat hb0;simp only [maxLen];omega
 obtain⟨w',hrun,h9,h10⟩:=run_make_full (P:=P) w w.heap.size t eT i zv k ht hi hz hsz kl kl n.toNat (by rw [hby];exact hbytes) h63 (Tf _);rw [hn]at hrun;have e1:execOp (aO ev) ⟨d,.makeSlice t x y,ty,pos,af,g⟩=(do pure (.value (<- Instr.makeSlice t (aO ev x) (aO ev y)))):=rfl;rw [e1,Sem.run_bind,h1.val,h2.val,hrun];have hzl2:zs.length=k:=by rw [<- hzs];simp [hzl]
 refine⟨(Below.refl _ _).grown h10 (Tf _) λq hq=>(by cases hq),(λb hb=>by have hb':some w.heap.size=some b:=hb;cases hb';exact Tf _),λθ' pr k1=>?_,λθ' pr j hj=>.own j _ hj (re h9)⟩;refine⟨_,by rw [List.length_replicate];exact h9.vV (TO _),(λb hb=>.inl (TP hs.base (mK h9 hb).1)),λl hl=>by rw [Ve hl];exact hzl2,λq a u ha hu=>?_⟩;have hq:q<n.toNat*zs.length:=by
  have:=(S9.1 ha).1
  rwa [fm (k:=zs.length) (λl hl=>by rw [Ve hl]),List.length_replicate]at this
 rw [GR hq]at ha;have hk0:0<k:=by
  rcases Us k with h|h
  ·rw [hzl2,h]at hq;omega
  ·exact h
 simp only [madeCells,UU,Tm,Array.toList_range]at hu;rw [UW (by rw [<- hzl2];exact hq)]at hu;simp only [Option.map_some,Option.some.injEq]at hu;have hlt:q%k<zv.cells.size:=by rw [hzl];exact Nat.mod_lt _ hk0
 rw [hzl2, <- hzs,Tm,Tc (by simpa using hlt)]at ha;simp only [Option.map_some,Option.some.injEq]at ha;have:u=zv.cells[q%k]:=by
  rw [<- hu,hzl,getElem!_pos zv.cells (q%k) hlt]
 subst ha;rw [this];simp only [Array.getElem_toList];exact .v _
def gY(e:Nat->AV)(ps:List (Nat×Operand)):List (Nat×AV):=ps.map λq=>(q.1,ag e q.2)
theorem bY:gY e []= []:=rfl
theorem bo{i:Nat}{ps:List (Nat×Operand)}{a:AV}{l:List (Nat×AV)}(h:ag e x=a)(h2:gY e ps=l):gY e ((i,x)::ps)=(i,a)::l:=by subst h;subst h2;rfl
theorem zY:∀ (vs:List Value) (cs:Array Value) (off k:Nat),off+k+vs.length<=cs.size->((vs.zipIdx k).foldl (λcs (c,j)=>cs.setIfInBounds (off+j) c) cs).toList =setAt cs.toList (off+k) vs
 | [],cs,off,k,h=>by simp [setAt]
 | v::vs,cs,off,k,h=>by
  simp only [List.zipIdx_cons,List.foldl_cons];rw [zY vs _ off (k+1) (by simp at h ⊢;omega)];apply Un;intro q;rw [jj _ _ _ (by simp at h ⊢;omega),jj _ _ _ (by simp at h ⊢;omega)];simp only [Array.toList_setIfInBounds,List.getElem?_set,Tj]
  by_cases h1:q<off+k
  ·rw [if_pos (by omega),if_pos h1,if_neg (by omega)]
  ·by_cases h2:q=off+k
   ·subst h2;rw [if_pos (by omega),if_pos rfl,if_pos (by simp at h;simp;omega),if_neg (by omega),if_pos (by omega)];simp
   ·by_cases h3:q<off+k+(vs.length+1)
    ·rw [if_neg (by omega),if_pos (by omega),if_neg h1,if_pos h3,show q - (off+k)=(q - (off+(k+1)))+1 by omega,TF]
    ·rw [if_neg (by omega),if_neg (by omega),if_neg (by omega),if_neg h1,if_neg h3]
theorem Bm(cs:Array Value)(v:Array Value)(off:Nat)(h:off+v.size<=cs.size):(v.zipIdx.foldl (λcs (c,j)=>cs.setIfInBounds (off+j) c) cs).toList =setAt cs.toList off v.toList:=by
 have:=zY v.toList cs off 0 (by simpa using h);rw [TB]at this;rw [<- this, <- Array.foldl_toList];simp
theorem xt{θ:List Value}{pr:Nat->Prop}{w:World}{ev:Nat->Value}{place:Nat->Option (Nat×Nat)}:∀ {ps:List (Nat×Operand)} {cs:Array Value} {l l':List AV},(∀ q∈ps,R1 θ pr w (ag e q.2) (aO ev q.2))->cs.size=l.length->(∀ (i:Nat) (a:AV) (u:Value),l[i]? =some a->cs.toList[i]? =some u->R1 θ pr w a u)->
 pM place l (gY e ps)=some l'-> ∃ cs',Instr.fill place cs (ps.map λ(i,x)=>(i,aO ev x))=some cs'/\cs'.size=l'.length/\ ∀ (i:Nat) (a:AV) (u:Value),l'[i]? =some a->cs'.toList[i]? =some u->R1 θ pr w a u
 | [],cs,l,l',_,h1,h2,h=>by
  simp only [gY,List.map_nil,pM,Option.some.injEq]at h;subst h;exact⟨cs,rfl,h1,h2⟩
 | (i,x)::ps,cs,l,l',hp,h1,h2,h=>by
  simp only [gY,TU,pM]at h;have hx:R1 θ pr w (ag e x) (aO ev x):=hp (i,x) (by simp);cases hpl:place i with
  | none=>rw [hpl]at h;cases h
  | some os=>
   obtain⟨off,size⟩:=os;cases hc:cellsA (ag e x)with
   | none=>rw [hpl,hc]at h;cases h
   | some q=>
    rw [hpl,hc]at h;simp only at h
    split at h
    ·rename_i hb
     obtain⟨hb1,hb2⟩:=hb;obtain⟨h3,h4⟩:=oH hx hc;have hf:=Bm cs (aO ev x).cells off (by omega);have hsz:((aO ev x).cells.zipIdx.foldl (λcs (c,j)=>cs.setIfInBounds (off+j) c) cs).size =(setAt l off q).length :=by
      have:=congrArg List.length hf;rw [UY]at this;rw [this,kh _ _ _ (by simp;omega),kh _ _ _ (by omega)];simpa using h1
     obtain⟨cs',h5,h6,h7⟩:=xt (λq hq=>hp q (by simp [hq])) hsz (λj a u ha hu=>by
      rw [hf,jj _ _ _ (by simp;omega)]at hu;rw [jj _ _ _ (by omega)]at ha
      by_cases c1:j<off
      ·rw [if_pos c1]at ha hu;exact h2 j a u ha hu
      ·rw [if_neg c1]at ha hu
       by_cases c2:j<off+q.length
       ·rw [if_pos c2]at ha;rw [if_pos (by simp;omega)]at hu;exact h4 _ a u ha (by simpa using hu)
       ·rw [if_neg c2]at ha;rw [if_neg (by simp;omega)]at hu;exact h2 j a u ha hu) h
     refine⟨cs',?_,h6,h7⟩;simp only [TU,Instr.fill,hpl];rw [if_neg (by simp;omega)];exact h5
    ·cases h
theorem sr(ev:Nat->Value)(ps:Array (Nat×Operand)):(ps.map λ(i,x)=>(i,aO ev x))=(ps.toList.map λ(i,x)=>(i,aO ev x)).toArray :=by
 apply U6.1;rw [UU]
theorem dz{ps:Array (Nat×Operand)}{pl:List (Nat×AV)}{fs:Array Field}{places:Array (Nat×Nat)}{zv:Value}{l:List AV}(hps:gY e ps.toList=pl)(hz:(P.info? t).bind (·.zero)=some zv)(hu:P.underlying t=some (.struct fs))
 (hpl:∀ w,(fs.mapM λf=>Prod.mk f.offset<$>sizeOf f.type:Sem (Array (Nat×Nat))).run P w= .ok places w)(hl:pM (places[·]?) (zv.cells.toList.map .v) pl=some l):bm P ⟨d,.build t ps,ty,pos,af,g⟩ e mem (.agg l):=by
 intro pb w0 θ w ev hs h;subst hps;obtain⟨cs',h1,h2,h3⟩:=xt (θ:=θ) (pr:=aM pb θ mem) (w:=w) (ev:=ev) (cs:=zv.cells) (λq hq=>h q.2 (by
  simp only [Op.operands,Vf,TW];exact⟨q,hq,rfl⟩)) (by simp) (λi a u ha hu=>by
   rw [Tm,hu]at ha;simp at ha;subst ha;exact .ro (.v _)) hl
 have hrun:(Instr.build t (ps.map λ(i,x)=>(i,aO ev x))).run P w= .ok (.agg cs') w:=by
  cases hq:P.info? t with
  | none=>rw [hq]at hz;cases hz
  | some i=>
   rw [hq]at hz;simp at hz;unfold Instr.build;rw [sr];simp [Sem.run_bind,zeroValue,typeInfo,hq,hz,run_underlying hu,hpl];simp at h1;simp [h1]
 have e1:execOp (aO ev) ⟨d,.build t ps,ty,pos,af,g⟩=(do pure (.value (<- Instr.build t (ps.map λ(i,x)=>(i,aO ev x))))):=rfl;rw [e1,Sem.run_bind,hrun];exact⟨.agg _ cs'.toList (by simpa using h2) h3,Ext.refl w⟩
theorem vX{ps:Array (Nat×Operand)}{pl:List (Nat×AV)}{n k:Nat}{eT:TypeId}{zv:Value}{l:List AV}(hps:gY e ps.toList=pl)(hz:(P.info? t).bind (·.zero)=some zv)(hu:P.underlying t=some (.array n eT))(hk:(P.info? eT).map (·.size)=some k)
 (hl:pM (λi=>some (i*k,k)) (zv.cells.toList.map .v) pl=some l):bm P ⟨d,.build t ps,ty,pos,af,g⟩ e mem (.agg l):=by
 intro pb w0 θ w ev hs h;subst hps;obtain⟨cs',h1,h2,h3⟩:=xt (θ:=θ) (pr:=aM pb θ mem) (w:=w) (ev:=ev) (cs:=zv.cells) (λq hq=>h q.2 (by
  simp only [Op.operands,Vf,TW];exact⟨q,hq,rfl⟩)) (by simp) (λi a u ha hu=>by
   rw [Tm,hu]at ha;simp at ha;subst ha;exact .ro (.v _)) hl
 have hrun:(Instr.build t (ps.map λ(i,x)=>(i,aO ev x))).run P w= .ok (.agg cs') w:=by
  cases hq:P.info? t with
  | none=>rw [hq]at hz;cases hz
  | some i=>
   rw [hq]at hz;simp at hz;cases hq2:P.info? eT with
   | none=>rw [hq2]at hk;cases hk
   | some i2=>
    rw [hq2]at hk;simp at hk;unfold Instr.build;rw [sr];simp [Sem.run_bind,zeroValue,typeInfo,sizeOf,hq,hq2,hk,hz,run_underlying hu,h1]
 have e1:execOp (aO ev) ⟨d,.build t ps,ty,pos,af,g⟩=(do pure (.value (<- Instr.build t (ps.map λ(i,x)=>(i,aO ev x))))):=rfl;rw [e1,Sem.run_bind,hrun];exact⟨.agg _ cs'.toList (by simpa using h2) h3,Ext.refl w⟩
end
end Go.Proofs.YtbmlgmblfboigaaGreatDoor
