/- Lemmas for the statement. -/
import Derived.Test.YtbmlgmblfboigaaGreatDoorA6
import Derived.Test.YtbmlgmblfboigaaGreatDoorA3
namespace Go.Proofs.YtbmlgmblfboigaaGreatDoor
open Go Go.RowKit
set_option linter.unusedVariables false
set_option linter.unusedSimpArgs false
section
variable {P:Program} {e:Nat->AV} {mem:List Ob} {d:Option Tmp} {ty t t2:TypeId} {pos:String} {af:Array Edge} {g:Option (Nat×Bool)} {x y z:Operand}
theorem xo{pr:Nat->Prop}{w:World}{k:Nat}{els:List (List AV)}{v:Value}(h:R0 pr w (.row k els) v):∃ (A:Option Addr) (c:Nat) (news:List Value),v= .slice A els.length c/\Rd w k A els.length news/\(∀ l∈els,l.length=k)/\ ∀ (i:Nat) (a:AV) (u:Value),els.flatten[i]? =some a->news[i]? =some u->R0 pr w a u:=by
 cases h with
 | nil k c A=>exact⟨A,c,[],rfl,Rd.nil w k A,aN,λi a u h=>by simp at h⟩
 | row _ _ b o c f hne hc hk hb hp hcell hr=>
  have hfl:=fF hk;refine⟨_,c,(List.range els.flatten.length).map f,rfl,⟨by simp only [XK,List.length_range];exact hfl,λ_=>⟨b,o,rfl,hb,λj u hu=>?_⟩⟩,hk,λi a u ha hu=>?_⟩
  ·have hj:j<els.flatten.length:=by have:=(Xe.1 hu).1;simpa using this
   rw [Xh,Yt hj]at hu;simp at hu;subst hu;exact hcell j _ (Xd hj)
  ·have hj:i<els.flatten.length:=(Xe.1 ha).1;rw [Xh,Yt hj]at hu;simp at hu;subst hu;exact hr i a ha
theorem IN{w:World}{base n k:Nat}{eT:TypeId}{v:Value}{xs:List Value}(h:w.ownsRow base eT k v n xs):v.ownBlock=cA v:=by
 obtain⟨A,c,rfl,_⟩:=rp h;cases A<;>rfl
theorem oW{w:World}{base n k:Nat}{eT:TypeId}{v:Value}{xs:List Value}(h:w.ownsRow base eT k v n xs):uG v=true:=by
 obtain⟨A,c,rfl,_⟩:=rp h;rfl
theorem Nb{j k bytes:Nat}{eT:TypeId}{i:TypeInfo}{z:Value}{els els2:List (List AV)}(hx:ak e x= .own j)(hm:mem[j]? =some (.row eT k els))(hy:ak e y= .row k els2)(hone:els2.flatten.all lr=true)
 (ht:P.underlying t=some (.slice eT))(hi:P.info? eT=some i)(hz:i.zero=some z)(hsz:i.size=k)(hby:i.bytes=bytes)(hzs:z.cells.size=k)(hk0:0<k)(hb0:0<bytes)(hbytes:(els.length+els2.length)*bytes<=140737488355328):
 sC P ⟨d,.call ⟨.builtin .append,#[x,y],#[t,t]⟩,ty,pos,af,g⟩ e mem j (.row eT k (els++els2)) (λj=>.own j):=by
 intro pb w0 θ w ev hs h;have h1:=h x fl;have h2:=h y fl;rw [hx]at h1;rw [hy]at h2;generalize hv:aT ev x=v at h1;generalize hu:aT ev y=u at h2;have hθ:=h1.gU;obtain⟨xs,h3,hbs,h4,h5⟩:=hs.ob j _ v hm hθ;obtain⟨A,c,news,rfl,h6,h7,h8⟩:=xo h2.getRow;have h63:els.length+els2.length<=maxLen:=by
  have:=YO (els.length+els2.length) hb0;simp only [maxLen];omega
 have hfl2:=fF h7;obtain⟨v',w',hrun,h9,h10,h11⟩:=CO (P:=P) t ty i z bytes ht hi hz hsz hby hzs hk0 h3 A els2.length c news h6 (λq hq=>by
  obtain⟨n,hn,rfl⟩:=XN hq;have hn2:n<els2.flatten.length:=by rw [hfl2, <- h6.1];exact hn
  exact tL (θ:=θ) (.ro (h8 n _ _ (Xd hn2) (Xd hn))) (Xv.1 hone _ (XR hn2))) h63 hbytes (Xy _)
 rw [kx (fL hv (fL hu kC))];have e1:∀ cs,(builtin .append #[t,t] ty cs [v,.slice A els2.length c].toArray).run P w= .ok (.value v') w':=by
  intro cs;simp only [builtin,Sem.run_bind,hrun,Result.andThen_ok,Sem.run_pure]
 rw [e1];have hbv:v.ownBlock=cA v:=IN h3;have hbv':v'.ownBlock=cA v':=IN h9;rw [hbv,hbv']at h11;refine⟨_,_,hm,aN,hθ,(Below.refl 0 _).grown h10 (Xy _) (λq hq=>Xy _),(λb hb hne=>h10.block b hb (λe=>hne (by rw [<- hbv, <- e]))),?_,λθ' pr k1 k0=>?_,λθ' pr j hj=>.own _ _ hj (oW h9)⟩
 ·rcases h11 with h|h
  ·exact .inl h
  ·exact .inr λb hb=>by rw [h]at hb;cases hb;exact Xf _
 ·refine⟨xs++news,by rw [XD];exact h9,(λb hb=>by
   rcases h11 with h|h
   ·rw [h]at hb;exact hbs b hb
   ·rw [h]at hb;cases hb;exact .inl hs.base),λl hl=>?_,λn a u ha hu=>?_⟩
  ·rcases Yg.1 hl with h|h
   ·exact h4 l h
   ·exact h7 l h
  ·rw [Yw]at ha;have hfl:=fF h4;have hxl:xs.length=els.length*k:=h3.1;rcases XC n els.flatten.length with hn|hn
   ·rw [Xj hn]at ha;rw [Xj ah]at hu;exact k0 a u (h5 n a u ha hu)
   ·rw [Xk hn]at ha;rw [Xk ah,hxl, <- hfl]at hu;exact k0 a u (h8 _ a u ha hu)
theorem LW{k bytes:Nat}{eT:TypeId}{i:TypeInfo}{z:Value}{els2:List (List AV)}(hx:ak e x= .v (.slice none 0 0))(hy:ak e y= .row k els2)(hone:els2.flatten.all lr=true)
 (ht:P.underlying t=some (.slice eT))(hi:P.info? eT=some i)(hz:i.zero=some z)(hsz:i.size=k)(hby:i.bytes=bytes)(hzs:z.cells.size=k)(hk0:0<k)(hb0:0<bytes)(hbytes:els2.length*bytes<=140737488355328):
 kN P ⟨d,.call ⟨.builtin .append,#[x,y],#[t,t]⟩,ty,pos,af,g⟩ e mem (.row eT k els2) (λj=>.own j):=by
 intro pb w0 θ w ev hs h;have h1:=h x fl;have h2:=h y fl;rw [hx]at h1;rw [hy]at h2;have hv:=h1.val;generalize hu:aT ev y=u at h2;obtain⟨A,c,news,rfl,h6,h7,h8⟩:=xo h2.getRow;have h63:els2.length<=maxLen:=by
  have:=YO els2.length hb0;simp only [maxLen];omega
 have hfl2:=fF h7;obtain⟨v',w',hrun,h9,h10,h11⟩:=CO (P:=P) t ty i z bytes ht hi hz hsz hby hzs hk0 (World.ownsRow_nil w w.heap.size eT k) A els2.length c news h6 (λq hq=>by
  obtain⟨n,hn,rfl⟩:=XN hq;have hn2:n<els2.flatten.length:=by rw [hfl2, <- h6.1];exact hn
  exact tL (θ:=θ) (.ro (h8 n _ _ (Xd hn2) (Xd hn))) (Xv.1 hone _ (XR hn2))) ah (by rw [Xl];exact hbytes) (Xf _)
 rw [kx (fL hv (fL hu kC))];have e1:∀ cs,(builtin .append #[t,t] ty cs [.slice none 0 0,.slice A els2.length c].toArray).run P w= .ok (.value v') w':=by
  intro cs;simp only [builtin,Sem.run_bind,hrun,Result.andThen_ok,Sem.run_pure]
 rw [e1];have hxx:Ext w w':=(Below.refl _ _).grown h10 (Xf _) λq hq=>by cases hq
 refine⟨hxx,(λb hb=>(kH h9 hb).1),λθ' pr k1=>?_,λθ' pr j hj=>.own j _ hj (oW h9)⟩;rw [Xl,Yx]at h9;refine⟨news,h9.rj (Xy _),(λb hb=>.inl (Xz hs.base (kH h9 hb).1)),h7,λn a u ha hu=>?_⟩;have:=k1 a u (.ro (h8 n a u ha hu));refine this.gr ?_;cases hz:cC a with
 | true=>rfl
 | false=>
  exfalso
  have h12:=h8 n a u ha hu;exact absurd (EG h12) (by rw [hz];simp)
theorem Kw{zs:List AV}{n i:Nat}(h:i<n*zs.length):(List.replicate n zs).flatten[i]? =zs[i%zs.length]? :=by
 have hz:0<zs.length:=by
  rcases Ye zs.length with h0|h0
  ·rw [h0]at h;omega
  ·exact h0
 have hi:i/zs.length<n:=(Nat.div_lt_iff_lt_mul hz).2 h;have h1:i=i/zs.length*zs.length+i%zs.length:=by rw [Nat.mul_comm];exact(Nat.div_add_mod i zs.length).symm
 have:=flat_get (els:=List.replicate n zs) (i:=i/zs.length) (j:=i%zs.length) (el:=zs) (k:=zs.length) (λl hl=>by rw [YX hl]) (by rw [List.getElem?_replicate];simp [hi]) (Nat.mod_lt _ hz)
 rwa [<- h1]at this
theorem Ta{k bytes:Nat}{eT:TypeId}{i:TypeInfo}{zv:Value}{zs:List AV}{n:Int}{kl:IntKind}(hx:ak e x= .v (.int kl n))(hy:ak e y= .v (.int kl n))(h0:0<=n)
 (ht:P.underlying t=some (.slice eT))(hi:P.info? eT=some i)(hz:i.zero=some zv)(hsz:i.size=k)(hby:i.bytes=bytes)(hzs:zv.cells.toList.map AV.v=zs)(hzl:zv.cells.size=k)(hb0:0<bytes)(hbytes:bytes*n.toNat<=281474976710656):
 kN P ⟨d,.makeSlice t x y,ty,pos,af,g⟩ e mem (.row eT k (List.replicate n.toNat zs)) (λj=>.own j):=by
 intro pb w0 θ w ev hs h;have h1:=h x cE;have h2:=h y cE;rw [hx]at h1;rw [hy]at h2;have hn:((n.toNat:Nat):Int)=n:=Yn h0;have h63:n.toNat<=maxLen:=by
  have:=Nat.le_mul_of_pos_left n.toNat hb0;simp only [maxLen];omega
 obtain⟨w',hrun,h9,h10⟩:=run_make_full (P:=P) w w.heap.size t eT i zv k ht hi hz hsz kl kl n.toNat (by rw [hby];exact hbytes) h63 (Xf _);rw [hn]at hrun;have e1:execOp (aT ev) ⟨d,.makeSlice t x y,ty,pos,af,g⟩=(do pure (.value (<- Instr.makeSlice t (aT ev x) (aT ev y)))):=rfl;rw [e1,Sem.run_bind,h1.val,h2.val,hrun];have hzl2:zs.length=k:=by rw [<- hzs];simp [hzl]
 refine⟨(Below.refl _ _).grown h10 (Xf _) λq hq=>(by cases hq),ug,λθ' pr k1=>?_,λθ' pr j hj=>.own j _ hj (oW h9)⟩;refine⟨_,by rw [List.length_replicate];exact h9.rj (Xy _),(λb hb=>.inl (Xz hs.base (kH h9 hb).1)),λl hl=>by rw [YX hl];exact hzl2,λq a u ha hu=>?_⟩;have hq:q<n.toNat*zs.length:=by
  have:=(Xe.1 ha).1
  rwa [fF (k:=zs.length) (λl hl=>by rw [YX hl]),List.length_replicate]at this
 rw [Kw hq]at ha;have hk0:0<k:=by
  rcases Ye k with h|h
  ·rw [hzl2,h]at hq;omega
  ·exact h
 simp only [madeCells,YF,Xh,Array.toList_range]at hu;rw [Yt (by rw [<- hzl2];exact hq)]at hu;simp only [Option.map_some,Option.some.injEq]at hu;have hlt:q%k<zv.cells.size:=by rw [hzl];exact Nat.mod_lt _ hk0
 rw [hzl2, <- hzs,Xh,Xd (by simpa using hlt)]at ha;simp only [Option.map_some,Option.some.injEq]at ha;have:u=zv.cells[q%k]:=by
  rw [<- hu,hzl,getElem!_pos zv.cells (q%k) hlt]
 subst ha;rw [this];simp only [Array.getElem_toList];exact .v _
def iZ(e:Nat->AV)(ps:List (Nat×Operand)):List (Nat×AV):=ps.map λq=>(q.1,ak e q.2)
theorem b8:iZ e []= []:=rfl
theorem bB{i:Nat}{ps:List (Nat×Operand)}{a:AV}{l:List (Nat×AV)}(h:ak e x=a)(h2:iZ e ps=l):iZ e ((i,x)::ps)=(i,a)::l:=by subst h;subst h2;rfl
theorem Dn:∀ (vs:List Value) (cs:Array Value) (off k:Nat),off+k+vs.length<=cs.size->((vs.zipIdx k).foldl (λcs (c,j)=>cs.setIfInBounds (off+j) c) cs).toList =setAt cs.toList (off+k) vs
 | [],cs,off,k,h=>by simp [setAt]
 | v::vs,cs,off,k,h=>by
  simp only [List.zipIdx_cons,List.foldl_cons];rw [Dn vs _ off (k+1) (by simp at h ⊢;omega)];apply XV;intro q;rw [kY _ _ _ (by simp at h ⊢;omega),kY _ _ _ (by simp at h ⊢;omega)];simp only [Array.toList_setIfInBounds,List.getElem?_set,Xo]
  by_cases h1:q<off+k
  ·rw [if_pos ah,if_pos h1,if_neg ah]
  ·by_cases h2:q=off+k
   ·subst h2;rw [if_pos ah,if_pos rfl,if_pos (by simp at h;simp;omega),if_neg ah,if_pos ah];simp
   ·by_cases h3:q<off+k+(vs.length+1)
    ·rw [if_neg ah,if_pos ah,if_neg h1,if_pos h3,show q - (off+k)=(q - (off+(k+1)))+1 by omega,Xw]
    ·rw [if_neg ah,if_neg ah,if_neg ah,if_neg h1,if_neg h3]
theorem EH(cs:Array Value)(v:Array Value)(off:Nat)(h:off+v.size<=cs.size):(v.zipIdx.foldl (λcs (c,j)=>cs.setIfInBounds (off+j) c) cs).toList =setAt cs.toList off v.toList:=by
 have:=Dn v.toList cs off 0 lK;rw [Xr]at this;rw [<- this, <- YP];simp
theorem Aa{θ:List Value}{pr:Nat->Prop}{w:World}{ev:Nat->Value}{place:Nat->Option (Nat×Nat)}:∀ {ps:List (Nat×Operand)} {cs:Array Value} {l l':List AV},(∀ q∈ps,R1 θ pr w (ak e q.2) (aT ev q.2))->cs.size=l.length->(∀ (i:Nat) (a:AV) (u:Value),l[i]? =some a->cs.toList[i]? =some u->R1 θ pr w a u)->
 sx place l (iZ e ps)=some l'-> ∃ cs',Instr.fill place cs (ps.map λ(i,x)=>(i,aT ev x))=some cs'/\cs'.size=l'.length/\ ∀ (i:Nat) (a:AV) (u:Value),l'[i]? =some a->cs'.toList[i]? =some u->R1 θ pr w a u
 | [],cs,l,l',_,h1,h2,h=>by
  simp only [iZ,List.map_nil,sx,Option.some.injEq]at h;subst h;exact⟨cs,rfl,h1,h2⟩
 | (i,x)::ps,cs,l,l',hp,h1,h2,h=>by
  simp only [iZ,XI,sx]at h;have hx:R1 θ pr w (ak e x) (aT ev x):=hp (i,x) aN;cases hpl:place i with
  | none=>rw [hpl]at h;cases h
  | some os=>
   obtain⟨off,size⟩:=os;cases hc:cellsA (ak e x)with
   | none=>rw [hpl,hc]at h;cases h
   | some q=>
    rw [hpl,hc]at h;simp only at h
    split at h
    ·rename_i hb
     obtain⟨hb1,hb2⟩:=hb;obtain⟨h3,h4⟩:=rk hx hc;have hf:=EH cs (aT ev x).cells off ah;have hsz:((aT ev x).cells.zipIdx.foldl (λcs (c,j)=>cs.setIfInBounds (off+j) c) cs).size =(setAt l off q).length :=by
      have:=congrArg List.length hf;rw [YG]at this;rw [this,l9 _ _ _ cJ,l9 _ _ _ ah];simpa using h1
     obtain⟨cs',h5,h6,h7⟩:=Aa (λq hq=>hp q (by simp [hq])) hsz (λj a u ha hu=>by
      rw [hf,kY _ _ _ cJ]at hu;rw [kY _ _ _ ah]at ha
      by_cases c1:j<off
      ·rw [if_pos c1]at ha hu;exact h2 j a u ha hu
      ·rw [if_neg c1]at ha hu
       by_cases c2:j<off+q.length
       ·rw [if_pos c2]at ha;rw [if_pos cJ]at hu;exact h4 _ a u ha (by simpa using hu)
       ·rw [if_neg c2]at ha;rw [if_neg cJ]at hu;exact h2 j a u ha hu) h
     refine⟨cs',?_,h6,h7⟩;simp only [XI,Instr.fill,hpl];rw [if_neg cJ];exact h5
    ·cases h
theorem vk(ev:Nat->Value)(ps:Array (Nat×Operand)):(ps.map λ(i,x)=>(i,aT ev x))=(ps.toList.map λ(i,x)=>(i,aT ev x)).toArray :=by
 apply YN.1;rw [YF]
theorem dq{ps:Array (Nat×Operand)}{pl:List (Nat×AV)}{fs:Array Field}{places:Array (Nat×Nat)}{zv:Value}{l:List AV}(hps:iZ e ps.toList=pl)(hz:(P.info? t).bind (·.zero)=some zv)(hu:P.underlying t=some (.struct fs))
 (hpl:∀ w,(fs.mapM λf=>Prod.mk f.offset<$>sizeOf f.type:Sem (Array (Nat×Nat))).run P w= .ok places w)(hl:sx (places[·]?) (zv.cells.toList.map .v) pl=some l):bw P ⟨d,.build t ps,ty,pos,af,g⟩ e mem (.agg l):=by
 intro pb w0 θ w ev hs h;subst hps;obtain⟨cs',h1,h2,h3⟩:=Aa (θ:=θ) (pr:=aO pb θ mem) (w:=w) (ev:=ev) (cs:=zv.cells) (λq hq=>h q.2 (by
  simp only [Op.operands,YY,XL];exact⟨q,hq,rfl⟩)) aN (λi a u ha hu=>by
   rw [Xh,hu]at ha;simp at ha;subst ha;exact .ro (.v _)) hl
 have hrun:(Instr.build t (ps.map λ(i,x)=>(i,aT ev x))).run P w= .ok (.agg cs') w:=by
  cases hq:P.info? t with
  | none=>rw [hq]at hz;cases hz
  | some i=>
   rw [hq]at hz;simp at hz;unfold Instr.build;rw [vk];simp [Sem.run_bind,zeroValue,typeInfo,hq,hz,run_underlying hu,hpl];simp at h1;simp [h1]
 have e1:execOp (aT ev) ⟨d,.build t ps,ty,pos,af,g⟩=(do pure (.value (<- Instr.build t (ps.map λ(i,x)=>(i,aT ev x))))):=rfl;rw [e1,Sem.run_bind,hrun];exact⟨.agg _ cs'.toList (by simpa using h2) h3,Ext.refl w⟩
theorem yU{ps:Array (Nat×Operand)}{pl:List (Nat×AV)}{n k:Nat}{eT:TypeId}{zv:Value}{l:List AV}(hps:iZ e ps.toList=pl)(hz:(P.info? t).bind (·.zero)=some zv)(hu:P.underlying t=some (.array n eT))(hk:(P.info? eT).map (·.size)=some k)
 (hl:sx (λi=>some (i*k,k)) (zv.cells.toList.map .v) pl=some l):bw P ⟨d,.build t ps,ty,pos,af,g⟩ e mem (.agg l):=by
 intro pb w0 θ w ev hs h;subst hps;obtain⟨cs',h1,h2,h3⟩:=Aa (θ:=θ) (pr:=aO pb θ mem) (w:=w) (ev:=ev) (cs:=zv.cells) (λq hq=>h q.2 (by
  simp only [Op.operands,YY,XL];exact⟨q,hq,rfl⟩)) aN (λi a u ha hu=>by
   rw [Xh,hu]at ha;simp at ha;subst ha;exact .ro (.v _)) hl
 have hrun:(Instr.build t (ps.map λ(i,x)=>(i,aT ev x))).run P w= .ok (.agg cs') w:=by
  cases hq:P.info? t with
  | none=>rw [hq]at hz;cases hz
  | some i=>
   rw [hq]at hz;simp at hz;cases hq2:P.info? eT with
   | none=>rw [hq2]at hk;cases hk
   | some i2=>
    rw [hq2]at hk;simp at hk;unfold Instr.build;rw [vk];simp [Sem.run_bind,zeroValue,typeInfo,sizeOf,hq,hq2,hk,hz,run_underlying hu,h1]
 have e1:execOp (aT ev) ⟨d,.build t ps,ty,pos,af,g⟩=(do pure (.value (<- Instr.build t (ps.map λ(i,x)=>(i,aT ev x))))):=rfl;rw [e1,Sem.run_bind,hrun];exact⟨.agg _ cs'.toList (by simpa using h2) h3,Ext.refl w⟩
end
end Go.Proofs.YtbmlgmblfboigaaGreatDoor
