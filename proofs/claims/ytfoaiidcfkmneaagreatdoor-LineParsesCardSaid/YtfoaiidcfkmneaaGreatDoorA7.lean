/- Lemmas for the statement. -/
import Derived.Test.YtfoaiidcfkmneaaGreatDoorA6
import Derived.Test.YtfoaiidcfkmneaaGreatDoorA3
namespace Go.Proofs.YtfoaiidcfkmneaaGreatDoor
open Go Go.RowKit
set_option linter.unusedVariables false
set_option linter.unusedSimpArgs false
section
variable {P:Program} {e:Nat->AV} {mem:List Ob} {d:Option Tmp} {ty t t2:TypeId} {pos:String} {af:Array Edge} {g:Option (Nat×Bool)} {x y z:Operand}
theorem FZ{pr:Nat->Prop}{w:World}{k:Nat}{els:List (List AV)}{v:Value}(h:R0 pr w (.row k els) v):∃ (A:Option Addr) (c:Nat) (news:List Value),v= .slice A els.length c/\Rd w k A els.length news/\(∀ l∈els,l.length=k)/\ ∀ (i:Nat) (a:AV) (u:Value),els.flatten[i]? =some a->news[i]? =some u->R0 pr w a u:=by
 cases h with
 | nil k c A=>exact⟨A,c,[],rfl,Rd.nil w k A,aL,λi a u h=>by simp at h⟩
 | row _ _ b o c f hne hc hk hb hp hcell hr=>
  have hfl:=iR hk;refine⟨_,c,(List.range els.flatten.length).map f,rfl,⟨by simp only [SZ,List.length_range];exact hfl,λ_=>⟨b,o,rfl,hb,λj u hu=>?_⟩⟩,hk,λi a u ha hu=>?_⟩
  ·have hj:j<els.flatten.length:=by have:=(SN.1 hu).1;simpa using this
   rw [SU,UA hj]at hu;simp at hu;subst hu;exact hcell j _ (SQ hj)
  ·have hj:i<els.flatten.length:=(SN.1 ha).1;rw [SU,UA hj]at hu;simp at hu;subst hu;exact hr i a ha
theorem F2{w:World}{base n k:Nat}{eT:TypeId}{v:Value}{xs:List Value}(h:w.ownsRow base eT k v n xs):v.ownBlock=cH v:=by
 obtain⟨A,c,rfl,_⟩:=rO h;cases A<;>rfl
theorem zu{w:World}{base n k:Nat}{eT:TypeId}{v:Value}{xs:List Value}(h:w.ownsRow base eT k v n xs):wA v=true:=by
 obtain⟨A,c,rfl,_⟩:=rO h;rfl
theorem Jo{j k bytes:Nat}{eT:TypeId}{i:TypeInfo}{z:Value}{els els2:List (List AV)}(hx:al e x= .own j)(hm:mem[j]? =some (.row eT k els))(hy:al e y= .row k els2)(hone:els2.flatten.all lp=true)
 (ht:P.underlying t=some (.slice eT))(hi:P.info? eT=some i)(hz:i.zero=some z)(hsz:i.size=k)(hby:i.bytes=bytes)(hzs:z.cells.size=k)(hk0:0<k)(hb0:0<bytes)(hbytes:(els.length+els2.length)*bytes<=140737488355328):
 tc P ⟨d,.call ⟨.builtin .append,#[x,y],#[t,t]⟩,ty,pos,af,g⟩ e mem j (.row eT k (els++els2)) (λj=>.own j):=by
 intro pb w0 θ w ev hs h;have h1:=h x kE;have h2:=h y kE;rw [hx]at h1;rw [hy]at h2;generalize hv:aZ ev x=v at h1;generalize hu:aZ ev y=u at h2;have hθ:=h1.j6;obtain⟨xs,h3,hbs,h4,h5⟩:=hs.ob j _ v hm hθ;obtain⟨A,c,news,rfl,h6,h7,h8⟩:=FZ h2.getRow;have h63:els.length+els2.length<=maxLen:=by
  have:=Nat.le_mul_of_pos_right (els.length+els2.length) hb0;simp only [maxLen];omega
 have hfl2:=iR h7;obtain⟨v',w',hrun,h9,h10,h11⟩:=As (P:=P) t ty i z bytes ht hi hz hsz hby hzs hk0 h3 A els2.length c news h6 (λq hq=>by
  obtain⟨n,hn,rfl⟩:=TK hq;have hn2:n<els2.flatten.length:=by rw [hfl2, <- h6.1];exact hn
  exact sh (θ:=θ) (.ro (h8 n _ _ (SQ hn2) (SQ hn))) (Td.1 hone _ (TQ hn2))) h63 hbytes (S8 _)
 rw [oQ (lG hv (lG hu pn))];have e1:∀ cs,(builtin .append #[t,t] ty cs [v,.slice A els2.length c].toArray).run P w= .ok (.value v') w':=by
  intro cs;simp only [builtin,Sem.run_bind,hrun,Result.andThen_ok,Sem.run_pure]
 rw [e1];have hbv:v.ownBlock=cH v:=F2 h3;have hbv':v'.ownBlock=cH v':=F2 h9;rw [hbv,hbv']at h11;refine⟨_,_,hm,aL,hθ,(Below.refl 0 _).grown h10 (S8 _) (λq hq=>S8 _),(λb hb hne=>h10.block b hb (λe=>hne (by rw [<- hbv, <- e]))),?_,λθ' pr k1 k0=>?_,λθ' pr j hj=>.own _ _ hj (zu h9)⟩
 ·rcases h11 with h|h
  ·exact .inl h
  ·exact .inr λb hb=>by rw [h]at hb;cases hb;exact SR _
 ·refine⟨xs++news,by rw [Tq];exact h9,(λb hb=>by
   rcases h11 with h|h
   ·rw [h]at hb;exact hbs b hb
   ·rw [h]at hb;cases hb;exact .inl hs.base),λl hl=>?_,λn a u ha hu=>?_⟩
  ·rcases UD.1 hl with h|h
   ·exact h4 l h
   ·exact h7 l h
  ·rw [UM]at ha;have hfl:=iR h4;have hxl:xs.length=els.length*k:=h3.1;rcases Tf n els.flatten.length with hn|hn
   ·rw [SX hn]at ha;rw [SX ah]at hu;exact k0 a u (h5 n a u ha hu)
   ·rw [S1 hn]at ha;rw [S1 ah,hxl, <- hfl]at hu;exact k0 a u (h8 _ a u ha hu)
theorem IG{k bytes:Nat}{eT:TypeId}{i:TypeInfo}{z:Value}{els2:List (List AV)}(hx:al e x= .v (.slice none 0 0))(hy:al e y= .row k els2)(hone:els2.flatten.all lp=true)
 (ht:P.underlying t=some (.slice eT))(hi:P.info? eT=some i)(hz:i.zero=some z)(hsz:i.size=k)(hby:i.bytes=bytes)(hzs:z.cells.size=k)(hk0:0<k)(hb0:0<bytes)(hbytes:els2.length*bytes<=140737488355328):
 lN P ⟨d,.call ⟨.builtin .append,#[x,y],#[t,t]⟩,ty,pos,af,g⟩ e mem (.row eT k els2) (λj=>.own j):=by
 intro pb w0 θ w ev hs h;have h1:=h x kE;have h2:=h y kE;rw [hx]at h1;rw [hy]at h2;have hv:=h1.val;generalize hu:aZ ev y=u at h2;obtain⟨A,c,news,rfl,h6,h7,h8⟩:=FZ h2.getRow;have h63:els2.length<=maxLen:=by
  have:=Nat.le_mul_of_pos_right els2.length hb0;simp only [maxLen];omega
 have hfl2:=iR h7;obtain⟨v',w',hrun,h9,h10,h11⟩:=As (P:=P) t ty i z bytes ht hi hz hsz hby hzs hk0 (World.ownsRow_nil w w.heap.size eT k) A els2.length c news h6 (λq hq=>by
  obtain⟨n,hn,rfl⟩:=TK hq;have hn2:n<els2.flatten.length:=by rw [hfl2, <- h6.1];exact hn
  exact sh (θ:=θ) (.ro (h8 n _ _ (SQ hn2) (SQ hn))) (Td.1 hone _ (TQ hn2))) ah (by rw [S0];exact hbytes) (SR _)
 rw [oQ (lG hv (lG hu pn))];have e1:∀ cs,(builtin .append #[t,t] ty cs [.slice none 0 0,.slice A els2.length c].toArray).run P w= .ok (.value v') w':=by
  intro cs;simp only [builtin,Sem.run_bind,hrun,Result.andThen_ok,Sem.run_pure]
 rw [e1];have hxx:Ext w w':=(Below.refl _ _).grown h10 (SR _) λq hq=>by cases hq
 refine⟨hxx,(λb hb=>(sO h9 hb).1),λθ' pr k1=>?_,λθ' pr j hj=>.own j _ hj (zu h9)⟩;rw [S0,List.nil_append]at h9;refine⟨news,h9.Bj (S8 _),(λb hb=>.inl (Tm hs.base (sO h9 hb).1)),h7,λn a u ha hu=>?_⟩;have:=k1 a u (.ro (h8 n a u ha hu));refine this.iN ?_;cases hz:cS a with
 | true=>rfl
 | false=>
  exfalso
  have h12:=h8 n a u ha hu;exact absurd (B2 h12) (by rw [hz];simp)
theorem Hw{zs:List AV}{n i:Nat}(h:i<n*zs.length):(List.replicate n zs).flatten[i]? =zs[i%zs.length]? :=by
 have hz:0<zs.length:=by
  rcases Ul zs.length with h0|h0
  ·rw [h0]at h;omega
  ·exact h0
 have hi:i/zs.length<n:=(Nat.div_lt_iff_lt_mul hz).2 h;have h1:i=i/zs.length*zs.length+i%zs.length:=by rw [Nat.mul_comm];exact(Nat.div_add_mod i zs.length).symm
 have:=flat_get (els:=List.replicate n zs) (i:=i/zs.length) (j:=i%zs.length) (el:=zs) (k:=zs.length) (λl hl=>by rw [US hl]) (by rw [List.getElem?_replicate];simp [hi]) (Nat.mod_lt _ hz)
 rwa [<- h1]at this
theorem OF{k bytes:Nat}{eT:TypeId}{i:TypeInfo}{zv:Value}{zs:List AV}{n:Int}{kl:IntKind}(hx:al e x= .v (.int kl n))(hy:al e y= .v (.int kl n))(h0:0<=n)
 (ht:P.underlying t=some (.slice eT))(hi:P.info? eT=some i)(hz:i.zero=some zv)(hsz:i.size=k)(hby:i.bytes=bytes)(hzs:zv.cells.toList.map AV.v=zs)(hzl:zv.cells.size=k)(hb0:0<bytes)(hbytes:bytes*n.toNat<=281474976710656):
 lN P ⟨d,.makeSlice t x y,ty,pos,af,g⟩ e mem (.row eT k (List.replicate n.toNat zs)) (λj=>.own j):=by
 intro pb w0 θ w ev hs h;have h1:=h x cB;have h2:=h y cB;rw [hx]at h1;rw [hy]at h2;have hn:((n.toNat:Nat):Int)=n:=Un h0;have h63:n.toNat<=maxLen:=by
  have:=Nat.le_mul_of_pos_left n.toNat hb0;simp only [maxLen];omega
 obtain⟨w',hrun,h9,h10⟩:=run_make_full (P:=P) w w.heap.size t eT i zv k ht hi hz hsz kl kl n.toNat (by rw [hby];exact hbytes) h63 (SR _);rw [hn]at hrun;have e1:execOp (aZ ev) ⟨d,.makeSlice t x y,ty,pos,af,g⟩=(do pure (.value (<- Instr.makeSlice t (aZ ev x) (aZ ev y)))):=rfl;rw [e1,Sem.run_bind,h1.val,h2.val,hrun];have hzl2:zs.length=k:=by rw [<- hzs];simp [hzl]
 refine⟨(Below.refl _ _).grown h10 (SR _) λq hq=>(by cases hq),sJ,λθ' pr k1=>?_,λθ' pr j hj=>.own j _ hj (zu h9)⟩;refine⟨_,by rw [List.length_replicate];exact h9.Bj (S8 _),(λb hb=>.inl (Tm hs.base (sO h9 hb).1)),λl hl=>by rw [US hl];exact hzl2,λq a u ha hu=>?_⟩;have hq:q<n.toNat*zs.length:=by
  have:=(SN.1 ha).1
  rwa [iR (k:=zs.length) (λl hl=>by rw [US hl]),List.length_replicate]at this
 rw [Hw hq]at ha;have hk0:0<k:=by
  rcases Ul k with h|h
  ·rw [hzl2,h]at hq;omega
  ·exact h
 simp only [madeCells,Uz,SU,Array.toList_range]at hu;rw [UA (by rw [<- hzl2];exact hq)]at hu;simp only [Option.map_some,Option.some.injEq]at hu;have hlt:q%k<zv.cells.size:=by rw [hzl];exact Nat.mod_lt _ hk0
 rw [hzl2, <- hzs,SU,SQ (by simpa using hlt)]at ha;simp only [Option.map_some,Option.some.injEq]at ha;have:u=zv.cells[q%k]:=by
  rw [<- hu,hzl,getElem!_pos zv.cells (q%k) hlt]
 subst ha;rw [this];simp only [Array.getElem_toList];exact .v _
def iO(e:Nat->AV)(ps:List (Nat×Operand)):List (Nat×AV):=ps.map λq=>(q.1,al e q.2)
theorem bW:iO e []= []:=rfl
theorem bz{i:Nat}{ps:List (Nat×Operand)}{a:AV}{l:List (Nat×AV)}(h:al e x=a)(h2:iO e ps=l):iO e ((i,x)::ps)=(i,a)::l:=by subst h;subst h2;rfl
theorem A5:∀ (vs:List Value) (cs:Array Value) (off k:Nat),off+k+vs.length<=cs.size->((vs.zipIdx k).foldl (λcs (c,j)=>cs.setIfInBounds (off+j) c) cs).toList =setAt cs.toList (off+k) vs
 | [],cs,off,k,h=>by simp [setAt]
 | v::vs,cs,off,k,h=>by
  simp only [List.zipIdx_cons,List.foldl_cons];rw [A5 vs _ off (k+1) (by simp at h ⊢;omega)];apply TW;intro q;rw [kr _ _ _ (by simp at h ⊢;omega),kr _ _ _ (by simp at h ⊢;omega)];simp only [Array.toList_setIfInBounds,List.getElem?_set,Ta]
  by_cases h1:q<off+k
  ·rw [if_pos ah,if_pos h1,if_neg ah]
  ·by_cases h2:q=off+k
   ·subst h2;rw [if_pos ah,if_pos rfl,if_pos (by simp at h;simp;omega),if_neg ah,if_pos ah];simp
   ·by_cases h3:q<off+k+(vs.length+1)
    ·rw [if_neg ah,if_pos ah,if_neg h1,if_pos h3,show q - (off+k)=(q - (off+(k+1)))+1 by omega,UE]
    ·rw [if_neg ah,if_neg ah,if_neg ah,if_neg h1,if_neg h3]
theorem B5(cs:Array Value)(v:Array Value)(off:Nat)(h:off+v.size<=cs.size):(v.zipIdx.foldl (λcs (c,j)=>cs.setIfInBounds (off+j) c) cs).toList =setAt cs.toList off v.toList:=by
 have:=A5 v.toList cs off 0 kD;rw [TS]at this;rw [<- this, <- Array.foldl_toList];simp
theorem yA{θ:List Value}{pr:Nat->Prop}{w:World}{ev:Nat->Value}{place:Nat->Option (Nat×Nat)}:∀ {ps:List (Nat×Operand)} {cs:Array Value} {l l':List AV},(∀ q∈ps,R1 θ pr w (al e q.2) (aZ ev q.2))->cs.size=l.length->(∀ (i:Nat) (a:AV) (u:Value),l[i]? =some a->cs.toList[i]? =some u->R1 θ pr w a u)->
 ri place l (iO e ps)=some l'-> ∃ cs',Instr.fill place cs (ps.map λ(i,x)=>(i,aZ ev x))=some cs'/\cs'.size=l'.length/\ ∀ (i:Nat) (a:AV) (u:Value),l'[i]? =some a->cs'.toList[i]? =some u->R1 θ pr w a u
 | [],cs,l,l',_,h1,h2,h=>by
  simp only [iO,List.map_nil,ri,Option.some.injEq]at h;subst h;exact⟨cs,rfl,h1,h2⟩
 | (i,x)::ps,cs,l,l',hp,h1,h2,h=>by
  simp only [iO,TC,ri]at h;have hx:R1 θ pr w (al e x) (aZ ev x):=hp (i,x) aL;cases hpl:place i with
  | none=>rw [hpl]at h;cases h
  | some os=>
   obtain⟨off,size⟩:=os;cases hc:cellsA (al e x)with
   | none=>rw [hpl,hc]at h;cases h
   | some q=>
    rw [hpl,hc]at h;simp only at h
    split at h
    ·rename_i hb
     obtain⟨hb1,hb2⟩:=hb;obtain⟨h3,h4⟩:=qj hx hc;have hf:=B5 cs (aZ ev x).cells off ah;have hsz:((aZ ev x).cells.zipIdx.foldl (λcs (c,j)=>cs.setIfInBounds (off+j) c) cs).size =(setAt l off q).length :=by
      have:=congrArg List.length hf;rw [UC]at this;rw [this,lv _ _ _ cZ,lv _ _ _ ah];simpa using h1
     obtain⟨cs',h5,h6,h7⟩:=yA (λq hq=>hp q (by simp [hq])) hsz (λj a u ha hu=>by
      rw [hf,kr _ _ _ cZ]at hu;rw [kr _ _ _ ah]at ha
      by_cases c1:j<off
      ·rw [if_pos c1]at ha hu;exact h2 j a u ha hu
      ·rw [if_neg c1]at ha hu
       by_cases c2:j<off+q.length
       ·rw [if_pos c2]at ha;rw [if_pos cZ]at hu;exact h4 _ a u ha (by simpa using hu)
       ·rw [if_neg c2]at ha;rw [if_neg cZ]at hu;exact h2 j a u ha hu) h
     refine⟨cs',?_,h6,h7⟩;simp only [TC,Instr.fill,hpl];rw [if_neg cZ];exact h5
    ·cases h
theorem tU(ev:Nat->Value)(ps:Array (Nat×Operand)):(ps.map λ(i,x)=>(i,aZ ev x))=(ps.toList.map λ(i,x)=>(i,aZ ev x)).toArray :=by
 apply UL.1;rw [Uz]
theorem cU{ps:Array (Nat×Operand)}{pl:List (Nat×AV)}{fs:Array Field}{places:Array (Nat×Nat)}{zv:Value}{l:List AV}(hps:iO e ps.toList=pl)(hz:(P.info? t).bind (·.zero)=some zv)(hu:P.underlying t=some (.struct fs))
 (hpl:∀ w,(fs.mapM λf=>Prod.mk f.offset<$>sizeOf f.type:Sem (Array (Nat×Nat))).run P w= .ok places w)(hl:ri (places[·]?) (zv.cells.toList.map .v) pl=some l):bH P ⟨d,.build t ps,ty,pos,af,g⟩ e mem (.agg l):=by
 intro pb w0 θ w ev hs h;subst hps;obtain⟨cs',h1,h2,h3⟩:=yA (θ:=θ) (pr:=aP pb θ mem) (w:=w) (ev:=ev) (cs:=zv.cells) (λq hq=>h q.2 (by
  simp only [Op.operands,UT,TG];exact⟨q,hq,rfl⟩)) aL (λi a u ha hu=>by
   rw [SU,hu]at ha;simp at ha;subst ha;exact .ro (.v _)) hl
 have hrun:(Instr.build t (ps.map λ(i,x)=>(i,aZ ev x))).run P w= .ok (.agg cs') w:=by
  cases hq:P.info? t with
  | none=>rw [hq]at hz;cases hz
  | some i=>
   rw [hq]at hz;simp at hz;unfold Instr.build;rw [tU];simp [Sem.run_bind,zeroValue,typeInfo,hq,hz,run_underlying hu,hpl];simp at h1;simp [h1]
 have e1:execOp (aZ ev) ⟨d,.build t ps,ty,pos,af,g⟩=(do pure (.value (<- Instr.build t (ps.map λ(i,x)=>(i,aZ ev x))))):=rfl;rw [e1,Sem.run_bind,hrun];exact⟨.agg _ cs'.toList (by simpa using h2) h3,Ext.refl w⟩
theorem xu{ps:Array (Nat×Operand)}{pl:List (Nat×AV)}{n k:Nat}{eT:TypeId}{zv:Value}{l:List AV}(hps:iO e ps.toList=pl)(hz:(P.info? t).bind (·.zero)=some zv)(hu:P.underlying t=some (.array n eT))(hk:(P.info? eT).map (·.size)=some k)
 (hl:ri (λi=>some (i*k,k)) (zv.cells.toList.map .v) pl=some l):bH P ⟨d,.build t ps,ty,pos,af,g⟩ e mem (.agg l):=by
 intro pb w0 θ w ev hs h;subst hps;obtain⟨cs',h1,h2,h3⟩:=yA (θ:=θ) (pr:=aP pb θ mem) (w:=w) (ev:=ev) (cs:=zv.cells) (λq hq=>h q.2 (by
  simp only [Op.operands,UT,TG];exact⟨q,hq,rfl⟩)) aL (λi a u ha hu=>by
   rw [SU,hu]at ha;simp at ha;subst ha;exact .ro (.v _)) hl
 have hrun:(Instr.build t (ps.map λ(i,x)=>(i,aZ ev x))).run P w= .ok (.agg cs') w:=by
  cases hq:P.info? t with
  | none=>rw [hq]at hz;cases hz
  | some i=>
   rw [hq]at hz;simp at hz;cases hq2:P.info? eT with
   | none=>rw [hq2]at hk;cases hk
   | some i2=>
    rw [hq2]at hk;simp at hk;unfold Instr.build;rw [tU];simp [Sem.run_bind,zeroValue,typeInfo,sizeOf,hq,hq2,hk,hz,run_underlying hu,h1]
 have e1:execOp (aZ ev) ⟨d,.build t ps,ty,pos,af,g⟩=(do pure (.value (<- Instr.build t (ps.map λ(i,x)=>(i,aZ ev x))))):=rfl;rw [e1,Sem.run_bind,hrun];exact⟨.agg _ cs'.toList (by simpa using h2) h3,Ext.refl w⟩
end
end Go.Proofs.YtfoaiidcfkmneaaGreatDoor
