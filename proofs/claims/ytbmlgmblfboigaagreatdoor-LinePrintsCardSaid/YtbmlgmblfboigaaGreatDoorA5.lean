/- Lemmas for the statement. -/
import Derived.Test.YtbmlgmblfboigaaGreatDoorA4
import Derived.WalkLawsBesides
namespace Go.Proofs.YtbmlgmblfboigaaGreatDoor
open Go Go.RowKit
set_option linter.unusedVariables false
set_option linter.unusedSimpArgs false
section
variable {P:Program} {e:Nat->AV} {mem:List Ob} {d:Option Tmp} {ty t t2:TypeId} {pos:String} {af:Array Edge} {g:Option (Nat×Bool)} {x y z:Operand}
theorem rb(b o n:Nat):(⟨b,o,none⟩:Addr).add n=⟨b,o+n,none⟩:=by unfold Addr.add;split<;>simp_all
theorem zN{fs:Array Field}{f:Field}{i n:Nat}{row:Bool}{b o:Nat}(hu:P.underlying t=some (.struct fs))(hf:fs[i]? =some f)(ht:aN P f.type row n)(h0:n≠0)(w:World):
 (Instr.fieldAt t (.pointer (some ⟨b,o,none⟩)) i).run P w= .ok (.pointer (some ⟨b,o+f.offset,none⟩)) w:=by
 unfold Instr.fieldAt;rw [Sem.run_bind,run_underlying hu];simp [hf,Instr.sureAddr,fieldPlace,ht.sizeOf,h0,Sem.run_bind,rb]
theorem GW{cells:List AV}{fs:Array Field}{f:Field}{i n off:Nat}{row:Bool}(hx:ag e x= .ref cells)(hu:P.underlying t=some (.struct fs))(hf:fs[i]? =some f)(ho:f.offset=off)(ht:aN P f.type row n)(h0:n≠0):
 bm P ⟨d,.fieldAddr t x i,ty,pos,af,g⟩ e mem (.ref (cells.drop off)):=by
 intro pb w0 θ w ev hs h;have h1':=h x (by simp [Op.operands]);rw [hx]at h1';generalize hv:aO ev x=p at h1';cases h1'.getRef with
 | ref _ b o q hb hp hc hr=>
  rw [zD hv,Sem.run_bind,zN hu hf ht h0];refine⟨.ro (.ref _ _ _ (λi=>q (f.offset+i)) hb hp (λi a ha=>?_) (λi a ha=>?_)),Ext.refl w⟩
  ·rw [TS, <- ho]at ha;rw [Ud];exact hc _ a ha
  ·rw [TS, <- ho]at ha;exact hr _ a ha
theorem GX{j o:Nat}{fs:Array Field}{f:Field}{i n off:Nat}{row:Bool}(hx:ag e x= .ptr j o)(hu:P.underlying t=some (.struct fs))(hf:fs[i]? =some f)(ho:f.offset=off)(ht:aN P f.type row n)(h0:n≠0):
 bm P ⟨d,.fieldAddr t x i,ty,pos,af,g⟩ e mem (.ptr j (o+off)):=by
 intro pb w0 θ w ev hs h;have h1':=h x (by simp [Op.operands]);rw [hx]at h1';obtain⟨b,v,hθ,hbase,hp⟩:=h1'.fC;rw [zD hp,Sem.run_bind,zN hu hf ht h0,ho];exact⟨.ptr j _ b v hθ hbase,Ext.refl w⟩
theorem run_indexAt{k len c b o:Nat}{eT:TypeId}{i:Int}{row:Bool}{kk:IntKind}(hu:P.underlying t=some (.slice eT))(ht:aN P eT row k)(h0:0<=i)(h1:i<len)(w:World):
 (Instr.indexAt t (.slice (some ⟨b,o,none⟩) len c) (.int kk i)).run P w= .ok (.pointer (some ⟨b,o+i.toNat*k,none⟩)) w:=by
 unfold Instr.indexAt;simp [asIntOf,run_underlying hu,h0,h1,ht.sizeOf,Sem.run_bind,rb]
theorem Ho{els:List (List AV)}{el:List AV}{k:Nat}{eT:TypeId}{i:Int}{row:Bool}{kk:IntKind}(hx:ag e x= .row k els)(hy:ag e y= .v (.int kk i))(hu:P.underlying t=some (.slice eT))(ht:aN P eT row k)(h0:0<=i)(hel:els[i.toNat]? =some el):
 bm P ⟨d,.indexAddr t x y,ty,pos,af,g⟩ e mem (.ref el):=by
 intro pb w0 θ w ev hs h;have h1':=h x (by simp [Op.operands]);have h2':=h y (by simp [Op.operands]);rw [hx]at h1';rw [hy]at h2';have hi:i.toNat<els.length:=(S9.1 hel).1;generalize hv:aO ev x=p at h1';cases h1'.getRow with
 | nil=>simp at hi
 | row _ _ b o c q hne hc hk hb hp hcell hr=>
  rw [vD hv h2'.val,Sem.run_bind,run_indexAt hu ht h0 (by omega)];have hkl:=hk el (TD hel);refine⟨.ro (.ref _ _ _ (λj=>q (i.toNat*k+j)) hb hp (λj a ha=>?_) (λj a ha=>?_)),Ext.refl w⟩
  ·have hj:j<k:=by have:=(S9.1 ha).1;omega
   rw [Ud];exact hcell _ a (by rw [flat_get hk hel hj];exact ha)
  ·have hj:j<k:=by have:=(S9.1 ha).1;omega
   exact hr _ a (by rw [flat_get hk hel hj];exact ha)
theorem GY{j:Nat}{els:List (List AV)}{k:Nat}{eT T:TypeId}{i:Int}{row:Bool}{kk:IntKind}(hx:ag e x= .own j)(hm:mem[j]? =some (.row T k els))(hy:ag e y= .v (.int kk i))(hu:P.underlying t=some (.slice eT))(ht:aN P eT row k)(h0:0<=i)(h1:i<els.length):
 bm P ⟨d,.indexAddr t x y,ty,pos,af,g⟩ e mem (.ptr j (i.toNat*k)):=by
 intro pb w0 θ w ev hs h;have h1':=h x (by simp [Op.operands]);have h2':=h y (by simp [Op.operands]);rw [hx]at h1';rw [hy]at h2';generalize hv:aO ev x=p at h1';have hθ:=h1'.gy;obtain⟨xs,h3,_,h4,h5⟩:=hs.ob j _ p hm hθ;rcases h3.2 with⟨rfl,hn⟩|⟨gg,cap,cur,rfl,_⟩
 ·omega
 ·rw [vD hv h2'.val,Sem.run_bind,run_indexAt hu ht h0 h1,Tv];exact⟨.ptr j _ gg _ hθ rfl,Ext.refl w⟩
theorem vW{s:ByteArray}{i:Int}{b:UInt8}{kk:IntKind}(hx:ag e x= .v (.string s))(hy:ag e y= .v (.int kk i))(hu:P.underlying t=some .string)(h0:0<=i)(hb:s[i.toNat]? =some b):
 bm P ⟨d,.index t x y,ty,pos,af,g⟩ e mem (.v (.int .u8 b.toNat)):=
 ko _ λev he w=>by
  rw [Bh (he x (by simp [Op.operands]) _ hx) (he y (by simp [Op.operands]) _ hy),Sem.run_bind];unfold Instr.index;simp [asIntOf,run_underlying hu,h0,hb,Sem.run_bind]
theorem bW{els:List (List AV)}{k:Nat}{eT:TypeId}{ts:Array TypeId}(hx:ag e x= .row k els)(hts:ts[0]? =some t)(hu:P.underlying t=some (.slice eT)):bm P ⟨d,.call ⟨.builtin .len,#[x],ts⟩,ty,pos,af,g⟩ e mem (.v (.int .i64 els.length)):=by
 intro pb w0 θ w ev hs h;have h1':=h x (by simp [Op.operands,Call.operands]);rw [hx]at h1';generalize hv:aO ev x=p at h1';rw [ji (fp hv jt)];cases h1'.getRow<;> · simp [builtin,Builtin.len_,hts,run_underlying hu,goInt];exact⟨.ro (.v _),Ext.refl w⟩
theorem qi{j:Nat}{els:List (List AV)}{k:Nat}{eT T:TypeId}{ts:Array TypeId}(hx:ag e x= .own j)(hm:mem[j]? =some (.row T k els))(hts:ts[0]? =some t)(hu:P.underlying t=some (.slice eT)):bm P ⟨d,.call ⟨.builtin .len,#[x],ts⟩,ty,pos,af,g⟩ e mem (.v (.int .i64 els.length)):=by
 intro pb w0 θ w ev hs h;have h1':=h x (by simp [Op.operands,Call.operands]);rw [hx]at h1';generalize hv:aO ev x=p at h1';have hθ:=h1'.gy;obtain⟨xs,h3,_,h4,h5⟩:=hs.ob j _ p hm hθ;obtain⟨A,c,rfl,hc⟩:=oM h3;rw [ji (fp hv jt)];simp [builtin,Builtin.len_,hts,run_underlying hu,goInt];exact⟨.ro (.v _),Ext.refl w⟩
theorem H9{c:Nat}{A:Option Addr}{n:Nat}{eT:TypeId}{ts:Array TypeId}(hx:ag e x= .v (.slice A n c))(hts:ts[0]? =some t)(hu:P.underlying t=some (.slice eT)):bm P ⟨d,.call ⟨.builtin .len,#[x],ts⟩,ty,pos,af,g⟩ e mem (.v (.int .i64 n)):=
 ko _ λev he w=>by
  rw [ji (fp (he x (by simp [Op.operands,Call.operands]) _ hx) jt)];simp [builtin,Builtin.len_,hts,run_underlying hu,goInt]
theorem hH{s:ByteArray}{ts:Array TypeId}(hx:ag e x= .v (.string s))(hts:ts[0]? =some t)(hu:P.underlying t=some .string):bm P ⟨d,.call ⟨.builtin .len,#[x],ts⟩,ty,pos,af,g⟩ e mem (.v (.int .i64 s.size)):=
 ko _ λev he w=>by
  rw [ji (fp (he x (by simp [Op.operands,Call.operands]) _ hx) jt)];simp [builtin,Builtin.len_,hts,run_underlying hu,goInt]
theorem yp{m n:Int}{k:IntKind}{ts:Array TypeId}(hx:ag e x= .v (.int k m))(hy:ag e y= .v (.int k n)):bm P ⟨d,.call ⟨.builtin .max,#[x,y],ts⟩,ty,pos,af,g⟩ e mem (.v (.int k (max m n))):=
 ko _ λev he w=>by
  rw [ji (fp (he x (by simp [Op.operands,Call.operands]) _ hx) (fp (he y (by simp [Op.operands,Call.operands]) _ hy) jt))];simp only [builtin,Sem.run_bind,K4,Result.andThen_ok,Sem.run_pure]
theorem uv{m n:Int}{k:IntKind}{ts:Array TypeId}(hx:ag e x= .v (.int k m))(hy:ag e y= .v (.int k n)):bm P ⟨d,.call ⟨.builtin .min,#[x,y],ts⟩,ty,pos,af,g⟩ e mem (.v (.int k (min m n))):=
 ko _ λev he w=>by
  rw [ji (fp (he x (by simp [Op.operands,Call.operands]) _ hx) (fp (he y (by simp [Op.operands,Call.operands]) _ hy) jt))];simp only [builtin,Sem.run_bind,K5,Result.andThen_ok,Sem.run_pure]
def cm:AV->Bool
 | .own _| .ptr _ _=>false
 | .agg l| .tuple l=>roL l
 | .clo _ l m=>roL l&&roL m
 | _=>true
where roL:List AV->Bool
 | []=>true
 | a::l=>cm a&&roL l
theorem ga:∀ {l:List AV} {i:Nat} {a:AV},cm.roL l=true->l[i]? =some a->cm a=true
 | [],_,_,_,h=>by simp at h
 | b::l,0,a,h,hi=>by simp at hi;subst hi;simp only [cm.roL,Ti]at h;exact h.1
 | b::l,i+1,a,h,hi=>by simp only [cm.roL,Ti]at h;exact ga h.2 (by simpa using hi)
theorem R1.gW{θ:List Value}{pr:Nat->Prop}{w:World}{a:AV}{x:Value}(h:R1 θ pr w a x)(hr:cm a=true):R0 pr w a x:=by
 induction h with
 | ro h=>exact h
 | own j x h _=>simp [cm]at hr
 | ptr j off b x h h2=>simp [cm]at hr
 | agg l xs h1 _ ih=>exact .agg l xs h1 λi a x ha hx=>ih i a x ha hx (ga (by simpa [cm]using hr) ha)
 | tuple l xs h1 _ ih=>exact .tuple l xs h1 λi a x ha hx=>ih i a x ha hx (ga (by simpa [cm]using hr) ha)
 | clo fn l m xs ys h1 _ h3 _ ih1 ih2=>
  simp only [cm,Ti]at hr;exact .clo fn l m xs ys h1 (λi a x ha hx=>ih1 i a x ha hx (ga hr.1 ha)) h3 (λi a x ha hx=>ih2 i a x ha hx (ga hr.2 ha))
theorem R0.back{pb:Nat->Prop}{w0:Bs}{w w':World}{θ:List Value}{mem:List Ob}(hs:bX pb w0 w θ mem){r:AV}{v:Value}(h:R0 (λb=>aM pb θ mem b/\b<w.heap.size) w' r v):R0 (aM pb θ mem) w' r v:=
 h.mono (Tf _) (λ_ _ _=>rfl) λb _ hn hp=>hn ⟨hp,by
  rcases hp with hp|⟨j,o,v,h1,h2,h3,h4⟩
  ·exact TR (hs.low b hp).1 hs.ext.size
  ·exact((hs.ob j o v h1 h3).lt h2 h4).2⟩
def cT(e:Nat->AV)(as:List Operand):List AV:=as.map (ag e)
theorem aI:cT e []= []:=rfl
theorem ax{as:List Operand}{a:AV}{l:List AV}(h:ag e x=a)(h2:cT e as=l):cT e (x::as)=a::l:=by subst h;subst h2;rfl
theorem bj{f:FuncId}{as:Array Operand}{ts:Array TypeId}{args:List AV}{r:AV}(hargs:cT e as.toList=args)(hro:cm.roL args=true)(hc:bF P f args (λq=>q=r))(dV:∀ args w,(callFunc f args).run P w= .ok (.enter f args) w):
 bm P ⟨d,.call ⟨.value (.func f),as,ts⟩,ty,pos,af,g⟩ e mem r:=by
 intro pb w0 θ w ev hs h;have hvs:(as.toList.map (aO ev)).length =args.length:=by rw [<- hargs];simp [cT]
 rw [km (f:=.func (.func f) #[] #[]) rfl rfl];refine oL dV ((hc (aM pb θ mem) w _ hvs λi a v ha hv=>?_).mono ?_)
 ·have ha':=ha;rw [<- hargs,cT,Tm]at ha';rw [Tm]at hv;cases hx:as.toList[i]? with
  | none=>rw [hx]at hv;cases hv
  | some x=>
   rw [hx]at ha' hv;simp at ha' hv;subst ha' hv;have hmem:x∈as:=by have:=TD hx;simpa using this
   exact(h x (by simp [Op.operands,Call.operands,hmem])).gW (ga hro ha)
 ·rintro en w' ⟨q,v,he,rfl,h4,h5⟩;exact⟨v,he,.ro (R0.back hs h4),h5⟩
theorem Bj{f:FuncId}{as:Array Operand}{ts:Array TypeId}{l m args:List AV}{r:AV}(hx:ag e x= .clo (.func f) l m)(hargs:cT e as.toList=args)(hro:cm.roL args=true)(hrl:cm.roL l=true)(hrm:cm.roL m=true)(hc:bF P f (l++args++m) (λq=>q=r))(dV:∀ args w,(callFunc f args).run P w= .ok (.enter f args) w):
 bm P ⟨d,.call ⟨.value x,as,ts⟩,ty,pos,af,g⟩ e mem r:=by
 intro pb w0 θ w ev hs h;have h1':=h x (by simp [Op.operands,Call.operands]);rw [hx]at h1';have h1'':=h1'.gW (by simp [cm,hrl,hrm]);generalize hv:aO ev x=p at h1'';cases h1'' with
 | clo _ _ _ xs ys h2 h3 h4 h5=>
  have hvs:(as.toList.map (aO ev)).length =args.length:=by rw [<- hargs];simp [cT]
  rw [km hv rfl];have e1:((do let q <- Deferred.ofValue (.func (.func f) xs.toArray ys.toArray) (as.toList.map (aO ev)).toArray;invoke q.target q.args:Sem Next).run P w)=(callFunc f (xs.toArray++(as.toList.map (aO ev)).toArray ++ys.toArray)).run P w:=rfl;rw [e1,dV];have e2:xs.toArray++(as.toList.map (aO ev)).toArray ++ys.toArray=(xs++as.toList.map (aO ev)++ys).toArray :=by simp
  rw [e2];refine(hc (aM pb θ mem) w _ (by simp only [TM];omega) λi a v ha hv=>?_).mono ?_
  ·rcases TN i (l++args).length with h6|h6
   ·rw [Tt h6]at ha;rw [Tt (by simp only [TM]at h6 ⊢;omega)]at hv;rcases TN i l.length with h7|h7
    ·rw [Tt h7]at ha;rw [Tt (by omega)]at hv;exact h3 i a v ha hv
    ·rw [Tu h7]at ha;rw [Tu (by omega),h2]at hv;have ha':=ha;rw [<- hargs,cT,Tm]at ha';rw [Tm]at hv;cases hx:as.toList[i - l.length]? with
     | none=>rw [hx]at hv;cases hv
     | some x'=>
      rw [hx]at ha' hv;simp at ha' hv;subst ha' hv;have hmem:x'∈as:=by have:=TD hx;simpa using this
      exact(h x' (by simp [Op.operands,Call.operands,hmem])).gW (ga hro ha)
   ·rw [Tu h6]at ha;rw [Tu (by simp only [TM]at h6 ⊢;omega)]at hv;have e3:i - (xs++as.toList.map (aO ev)).length =i - (l++args).length :=by simp only [TM];omega
    rw [e3]at hv;exact h5 _ a v ha hv
  ·rintro en w' ⟨q,v,he,rfl,h4,h5⟩;exact⟨v,he,.ro (R0.back hs h4),h5⟩
theorem jN{fn:Fn}{fs cs:Array Operand}{l m:List AV}(h1:cT e fs.toList=l)(h2:cT e cs.toList=m):bm P ⟨d,.makeFunc fn fs cs,ty,pos,af,g⟩ e mem (.clo fn l m):=by
 intro pb w0 θ w ev hs h;have e1:execOp (aO ev) ⟨d,.makeFunc fn fs cs,ty,pos,af,g⟩=pure (.value (.func fn (fs.toList.map (aO ev)).toArray (cs.toList.map (aO ev)).toArray)):=by
  show(do pure (Next.value (<- Instr.makeFunc fn (fs.map (aO ev)) (cs.map (aO ev)))):Sem Next)=_
  have:∀ (q:Array Operand),q.map (aO ev)=(q.toList.map (aO ev)).toArray :=λq=>by apply U6.1;rw [UU]
  rw [this,this];rfl
 rw [e1];have key:∀ (q:Array Operand),(∀ x∈q,R1 θ (aM pb θ mem) w (ag e x) (aO ev x))-> ∀ (i:Nat) (a:AV) (x:Value),(cT e q.toList)[i]? =some a->(q.toList.map (aO ev))[i]? =some x->R1 θ (aM pb θ mem) w a x:=by
  intro q hq i a v ha hv;rw [cT,Tm]at ha;rw [Tm]at hv;cases hx:q.toList[i]? with
  | none=>rw [hx]at hv;cases hv
  | some x'=>
   rw [hx]at ha hv;simp at ha hv;subst ha hv;exact hq x' (by have:=TD hx;simpa using this)
 refine⟨.clo fn l m _ _ (by rw [<- h1];simp [cT]) ?_ (by rw [<- h2];simp [cT]) ?_,Ext.refl w⟩
 ·rw [<- h1];exact key fs λx hx=>h x (by simp [Op.operands,hx])
 ·rw [<- h2];exact key cs λx hx=>h x (by simp [Op.operands,hx])
def cellsA:AV->Option (List AV)
 | .any | .tuple _| .emp =>none
 | .v (.agg cs)=>some (cs.toList.map .v)
 | .agg l=>some l
 | a=>some [a]
def setAt{α:Type}(cells:List α)(off:Nat)(l:List α):List α:=cells.take off++l++cells.drop (off+l.length)
def pM(place:Nat->Option (Nat×Nat))(cells:List AV):List (Nat×AV)->Option (List AV)
 | []=>some cells
 | (i,a)::rest=>
  match place i,cellsA a with
  | some (off,size),some l=>if l.length=size/\off+size<=cells.length then pM place (setAt cells off l) rest else none
  | _,_=>none
theorem oH{θ:List Value}{pr:Nat->Prop}{w:World}{a:AV}{x:Value}{l:List AV}(h:R1 θ pr w a x)(hl:cellsA a=some l):x.cells.size=l.length/\ ∀ (i:Nat) (a:AV) (u:Value),l[i]? =some a->x.cells[i]? =some u->R1 θ pr w a u:=by
 have one:∀ (a:AV) (x:Value),R1 θ pr w a x->x.cells= #[x]->l= [a]->x.cells.size=l.length/\ ∀ (i:Nat) (a:AV) (u:Value),l[i]? =some a->x.cells[i]? =some u->R1 θ pr w a u:=by
  intro a x h hc hl;subst hl;rw [hc];refine⟨rfl,λi b u hb hu=>?_⟩;cases i with
  | zero=>simp at hb hu;subst hb hu;exact h
  | succ i=>simp at hb
 cases a with
 | any=>cases hl
 | emp=>cases hl
 | tuple l=>cases hl
 | v c=>
  have hx:=h.val;subst hx;cases x with
  | agg cs=>
   simp only [cellsA,Option.some.injEq]at hl;subst hl;refine⟨by simp [Value.cells],λi b u hb hu=>?_⟩;simp [Value.cells]at hb hu;obtain⟨y,h1,rfl⟩:=hb;rw [hu]at h1;cases h1;exact .ro (.v _)
  | _=>exact one _ _ h rfl (by simpa [cellsA]using hl.symm)
 | agg l'=>
  simp only [cellsA,Option.some.injEq]at hl;subst hl;obtain⟨xs,rfl,h2,h3⟩:=h.q9;exact⟨by simp [Value.cells,h2],λi b u hb hu=>h3 i b u hb (by simpa [Value.cells]using hu)⟩
 | row k els=>
  refine one _ _ h ?_ (by simpa [cellsA]using hl.symm);cases h.getRow<;>rfl
 | ref c=>
  refine one _ _ h ?_ (by simpa [cellsA]using hl.symm);cases h.getRef;rfl
 | clo fn l' m'=>
  refine one _ _ h ?_ (by simpa [cellsA]using hl.symm);cases h with
  | ro h=>cases h;rfl
  | clo=>rfl
 | own j=>
  refine one _ _ h ?_ (by simpa [cellsA]using hl.symm);cases h with
  | ro h=>cases h
  | own _ _ _ h2=>cases x<;>first|rfl|cases h2
 | ptr j o=>
  refine one _ _ h ?_ (by simpa [cellsA]using hl.symm);obtain⟨b,y,_,_,rfl⟩:=h.fC;rfl
end
end Go.Proofs.YtbmlgmblfboigaaGreatDoor
