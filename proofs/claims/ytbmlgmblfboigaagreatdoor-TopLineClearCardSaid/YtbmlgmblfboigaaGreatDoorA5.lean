/- Lemmas for the statement. -/
import Derived.Test.YtbmlgmblfboigaaGreatDoorA4
import Derived.WalkLawsBesides
namespace Go.Proofs.YtbmlgmblfboigaaGreatDoor
open Go Go.RowKit
set_option linter.unusedVariables false
set_option linter.unusedSimpArgs false
section
variable {P:Program} {e:Nat->AV} {mem:List Ob} {d:Option Tmp} {ty t t2:TypeId} {pos:String} {af:Array Edge} {g:Option (Nat×Bool)} {x y z:Operand}
theorem uj(b o n:Nat):(⟨b,o,none⟩:Addr).add n=⟨b,o+n,none⟩:=by unfold Addr.add;split<;>simp_all
theorem C7{fs:Array Field}{f:Field}{i n:Nat}{row:Bool}{b o:Nat}(hu:P.underlying t=some (.struct fs))(hf:fs[i]? =some f)(ht:aQ P f.type row n)(h0:n≠0)(w:World):
 (Instr.fieldAt t (.pointer (some ⟨b,o,none⟩)) i).run P w= .ok (.pointer (some ⟨b,o+f.offset,none⟩)) w:=by
 unfold Instr.fieldAt;rw [Sem.run_bind,run_underlying hu];simp [hf,Instr.sureAddr,fieldPlace,ht.sizeOf,h0,Sem.run_bind,uj]
theorem Kz{cells:List AV}{fs:Array Field}{f:Field}{i n off:Nat}{row:Bool}(hx:ak e x= .ref cells)(hu:P.underlying t=some (.struct fs))(hf:fs[i]? =some f)(ho:f.offset=off)(ht:aQ P f.type row n)(h0:n≠0):
 bw P ⟨d,.fieldAddr t x i,ty,pos,af,g⟩ e mem (.ref (cells.drop off)):=by
 intro pb w0 θ w ev hs h;have h1':=h x cE;rw [hx]at h1';generalize hv:aT ev x=p at h1';cases h1'.getRef with
 | ref _ b o q hb hp hc hr=>
  rw [CU hv,Sem.run_bind,C7 hu hf ht h0];refine⟨.ro (.ref _ _ _ (λi=>q (f.offset+i)) hb hp (λi a ha=>?_) (λi a ha=>?_)),Ext.refl w⟩
  ·rw [XH, <- ho]at ha;rw [XQ];exact hc _ a ha
  ·rw [XH, <- ho]at ha;exact hr _ a ha
theorem KA{j o:Nat}{fs:Array Field}{f:Field}{i n off:Nat}{row:Bool}(hx:ak e x= .ptr j o)(hu:P.underlying t=some (.struct fs))(hf:fs[i]? =some f)(ho:f.offset=off)(ht:aQ P f.type row n)(h0:n≠0):
 bw P ⟨d,.fieldAddr t x i,ty,pos,af,g⟩ e mem (.ptr j (o+off)):=by
 intro pb w0 θ w ev hs h;have h1':=h x cE;rw [hx]at h1';obtain⟨b,v,hθ,hbase,hp⟩:=h1'.gk;rw [CU hp,Sem.run_bind,C7 hu hf ht h0,ho];exact⟨.ptr j _ b v hθ hbase,Ext.refl w⟩
theorem run_indexAt{k len c b o:Nat}{eT:TypeId}{i:Int}{row:Bool}{kk:IntKind}(hu:P.underlying t=some (.slice eT))(ht:aQ P eT row k)(h0:0<=i)(h1:i<len)(w:World):
 (Instr.indexAt t (.slice (some ⟨b,o,none⟩) len c) (.int kk i)).run P w= .ok (.pointer (some ⟨b,o+i.toNat*k,none⟩)) w:=by
 unfold Instr.indexAt;simp [asIntOf,run_underlying hu,h0,h1,ht.sizeOf,Sem.run_bind,uj]
theorem K3{els:List (List AV)}{el:List AV}{k:Nat}{eT:TypeId}{i:Int}{row:Bool}{kk:IntKind}(hx:ak e x= .row k els)(hy:ak e y= .v (.int kk i))(hu:P.underlying t=some (.slice eT))(ht:aQ P eT row k)(h0:0<=i)(hel:els[i.toNat]? =some el):
 bw P ⟨d,.indexAddr t x y,ty,pos,af,g⟩ e mem (.ref el):=by
 intro pb w0 θ w ev hs h;have h1':=h x cE;have h2':=h y cE;rw [hx]at h1';rw [hy]at h2';have hi:i.toNat<els.length:=(Xe.1 hel).1;generalize hv:aT ev x=p at h1';cases h1'.getRow with
 | nil=>simp at hi
 | row _ _ b o c q hne hc hk hb hp hcell hr=>
  rw [yC hv h2'.val,Sem.run_bind,run_indexAt hu ht h0 ah];have hkl:=hk el (Xp hel);refine⟨.ro (.ref _ _ _ (λj=>q (i.toNat*k+j)) hb hp (λj a ha=>?_) (λj a ha=>?_)),Ext.refl w⟩
  ·have hj:j<k:=by have:=(Xe.1 ha).1;omega
   rw [XQ];exact hcell _ a (by rw [flat_get hk hel hj];exact ha)
  ·have hj:j<k:=by have:=(Xe.1 ha).1;omega
   exact hr _ a (by rw [flat_get hk hel hj];exact ha)
theorem KB{j:Nat}{els:List (List AV)}{k:Nat}{eT T:TypeId}{i:Int}{row:Bool}{kk:IntKind}(hx:ak e x= .own j)(hm:mem[j]? =some (.row T k els))(hy:ak e y= .v (.int kk i))(hu:P.underlying t=some (.slice eT))(ht:aQ P eT row k)(h0:0<=i)(h1:i<els.length):
 bw P ⟨d,.indexAddr t x y,ty,pos,af,g⟩ e mem (.ptr j (i.toNat*k)):=by
 intro pb w0 θ w ev hs h;have h1':=h x cE;have h2':=h y cE;rw [hx]at h1';rw [hy]at h2';generalize hv:aT ev x=p at h1';have hθ:=h1'.gU;obtain⟨xs,h3,_,h4,h5⟩:=hs.ob j _ p hm hθ;rcases h3.2 with⟨rfl,hn⟩|⟨gg,cap,cur,rfl,_⟩
 ·omega
 ·rw [yC hv h2'.val,Sem.run_bind,run_indexAt hu ht h0 h1,Xl];exact⟨.ptr j _ gg _ hθ rfl,Ext.refl w⟩
theorem yT{s:ByteArray}{i:Int}{b:UInt8}{kk:IntKind}(hx:ak e x= .v (.string s))(hy:ak e y= .v (.int kk i))(hu:P.underlying t=some .string)(h0:0<=i)(hb:s[i.toNat]? =some b):
 bw P ⟨d,.index t x y,ty,pos,af,g⟩ e mem (.v (.int .u8 b.toNat)):=
 mf _ λev he w=>by
  rw [ED (he x cE _ hx) (he y cE _ hy),Sem.run_bind];unfold Instr.index;simp [asIntOf,run_underlying hu,h0,hb,Sem.run_bind]
theorem ca{els:List (List AV)}{k:Nat}{eT:TypeId}{ts:Array TypeId}(hx:ak e x= .row k els)(hts:ts[0]? =some t)(hu:P.underlying t=some (.slice eT)):bw P ⟨d,.call ⟨.builtin .len,#[x],ts⟩,ty,pos,af,g⟩ e mem (.v (.int .i64 els.length)):=by
 intro pb w0 θ w ev hs h;have h1':=h x fl;rw [hx]at h1';generalize hv:aT ev x=p at h1';rw [kx (fL hv kC)];cases h1'.getRow<;> · simp [builtin,Builtin.len_,hts,run_underlying hu,goInt];exact⟨.ro (.v _),Ext.refl w⟩
theorem rh{j:Nat}{els:List (List AV)}{k:Nat}{eT T:TypeId}{ts:Array TypeId}(hx:ak e x= .own j)(hm:mem[j]? =some (.row T k els))(hts:ts[0]? =some t)(hu:P.underlying t=some (.slice eT)):bw P ⟨d,.call ⟨.builtin .len,#[x],ts⟩,ty,pos,af,g⟩ e mem (.v (.int .i64 els.length)):=by
 intro pb w0 θ w ev hs h;have h1':=h x fl;rw [hx]at h1';generalize hv:aT ev x=p at h1';have hθ:=h1'.gU;obtain⟨xs,h3,_,h4,h5⟩:=hs.ob j _ p hm hθ;obtain⟨A,c,rfl,hc⟩:=rp h3;rw [kx (fL hv kC)];simp [builtin,Builtin.len_,hts,run_underlying hu,goInt];exact⟨.ro (.v _),Ext.refl w⟩
theorem LU{c:Nat}{A:Option Addr}{n:Nat}{eT:TypeId}{ts:Array TypeId}(hx:ak e x= .v (.slice A n c))(hts:ts[0]? =some t)(hu:P.underlying t=some (.slice eT)):bw P ⟨d,.call ⟨.builtin .len,#[x],ts⟩,ty,pos,af,g⟩ e mem (.v (.int .i64 n)):=
 mf _ λev he w=>by
  rw [kx (fL (he x fl _ hx) kC)];simp [builtin,Builtin.len_,hts,run_underlying hu,goInt]
theorem jg{s:ByteArray}{ts:Array TypeId}(hx:ak e x= .v (.string s))(hts:ts[0]? =some t)(hu:P.underlying t=some .string):bw P ⟨d,.call ⟨.builtin .len,#[x],ts⟩,ty,pos,af,g⟩ e mem (.v (.int .i64 s.size)):=
 mf _ λev he w=>by
  rw [kx (fL (he x fl _ hx) kC)];simp [builtin,Builtin.len_,hts,run_underlying hu,goInt]
theorem xn{m n:Int}{k:IntKind}{ts:Array TypeId}(hx:ak e x= .v (.int k m))(hy:ak e y= .v (.int k n)):bw P ⟨d,.call ⟨.builtin .max,#[x,y],ts⟩,ty,pos,af,g⟩ e mem (.v (.int k (max m n))):=
 mf _ λev he w=>by
  rw [kx (fL (he x fl _ hx) (fL (he y fl _ hy) kC))];simp only [builtin,Sem.run_bind,Pm,Result.andThen_ok,Sem.run_pure]
theorem si{m n:Int}{k:IntKind}{ts:Array TypeId}(hx:ak e x= .v (.int k m))(hy:ak e y= .v (.int k n)):bw P ⟨d,.call ⟨.builtin .min,#[x,y],ts⟩,ty,pos,af,g⟩ e mem (.v (.int k (min m n))):=
 mf _ λev he w=>by
  rw [kx (fL (he x fl _ hx) (fL (he y fl _ hy) kC))];simp only [builtin,Sem.run_bind,Pn,Result.andThen_ok,Sem.run_pure]
def cC:AV->Bool
 | .own _| .ptr _ _=>false
 | .agg l| .tuple l=>roL l
 | .clo _ l m=>roL l&&roL m
 | _=>true
where roL:List AV->Bool
 | []=>true
 | a::l=>cC a&&roL l
theorem gy:∀ {l:List AV} {i:Nat} {a:AV},cC.roL l=true->l[i]? =some a->cC a=true
 | [],_,_,_,h=>by simp at h
 | b::l,0,a,h,hi=>by simp at hi;subst hi;simp only [cC.roL,Xg]at h;exact h.1
 | b::l,i+1,a,h,hi=>by simp only [cC.roL,Xg]at h;exact gy h.2 (by simpa using hi)
theorem R1.gr{θ:List Value}{pr:Nat->Prop}{w:World}{a:AV}{x:Value}(h:R1 θ pr w a x)(hr:cC a=true):R0 pr w a x:=by
 induction h with
 | ro h=>exact h
 | own j x h _=>simp [cC]at hr
 | ptr j off b x h h2=>simp [cC]at hr
 | agg l xs h1 _ ih=>exact .agg l xs h1 λi a x ha hx=>ih i a x ha hx (gy (by simpa [cC]using hr) ha)
 | tuple l xs h1 _ ih=>exact .tuple l xs h1 λi a x ha hx=>ih i a x ha hx (gy (by simpa [cC]using hr) ha)
 | clo fn l m xs ys h1 _ h3 _ ih1 ih2=>
  simp only [cC,Xg]at hr;exact .clo fn l m xs ys h1 (λi a x ha hx=>ih1 i a x ha hx (gy hr.1 ha)) h3 (λi a x ha hx=>ih2 i a x ha hx (gy hr.2 ha))
theorem R0.back{pb:Nat->Prop}{w0:Bs}{w w':World}{θ:List Value}{mem:List Ob}(hs:cm pb w0 w θ mem){r:AV}{v:Value}(h:R0 (λb=>aO pb θ mem b/\b<w.heap.size) w' r v):R0 (aO pb θ mem) w' r v:=
 h.mono (Xf _) (λ_ _ _=>rfl) λb _ hn hp=>hn ⟨hp,by
  rcases hp with hp|⟨j,o,v,h1,h2,h3,h4⟩
  ·exact XG (hs.low b hp).1 hs.ext.size
  ·exact((hs.ob j o v h1 h3).lt h2 h4).2⟩
def cX(e:Nat->AV)(as:List Operand):List AV:=as.map (ak e)
theorem aM:cX e []= []:=rfl
theorem aE{as:List Operand}{a:AV}{l:List AV}(h:ak e x=a)(h2:cX e as=l):cX e (x::as)=a::l:=by subst h;subst h2;rfl
theorem bh{f:FuncId}{as:Array Operand}{ts:Array TypeId}{args:List AV}{r:AV}(hargs:cX e as.toList=args)(hro:cC.roL args=true)(hc:bN P f args (λq=>q=r))(dY:∀ args w,(callFunc f args).run P w= .ok (.enter f args) w):
 bw P ⟨d,.call ⟨.value (.func f),as,ts⟩,ty,pos,af,g⟩ e mem r:=by
 intro pb w0 θ w ev hs h;have hvs:(as.toList.map (aT ev)).length =args.length:=by rw [<- hargs];simp [cX]
 rw [k6 (f:=.func (.func f) #[] #[]) rfl rfl];refine oJ dY ((hc (aO pb θ mem) w _ hvs λi a v ha hv=>?_).mono ?_)
 ·have ha':=ha;rw [<- hargs,cX,Xh]at ha';rw [Xh]at hv;cases hx:as.toList[i]? with
  | none=>rw [hx]at hv;cases hv
  | some x=>
   rw [hx]at ha' hv;simp at ha' hv;subst ha' hv;have hmem:x∈as:=by have:=Xp hx;simpa using this
   exact(h x mR).gr (gy hro ha)
 ·rintro en w' ⟨q,v,he,rfl,h4,h5⟩;exact⟨v,he,.ro (R0.back hs h4),h5⟩
theorem EF{f:FuncId}{as:Array Operand}{ts:Array TypeId}{l m args:List AV}{r:AV}(hx:ak e x= .clo (.func f) l m)(hargs:cX e as.toList=args)(hro:cC.roL args=true)(hrl:cC.roL l=true)(hrm:cC.roL m=true)(hc:bN P f (l++args++m) (λq=>q=r))(dY:∀ args w,(callFunc f args).run P w= .ok (.enter f args) w):
 bw P ⟨d,.call ⟨.value x,as,ts⟩,ty,pos,af,g⟩ e mem r:=by
 intro pb w0 θ w ev hs h;have h1':=h x fl;rw [hx]at h1';have h1'':=h1'.gr (by simp [cC,hrl,hrm]);generalize hv:aT ev x=p at h1'';cases h1'' with
 | clo _ _ _ xs ys h2 h3 h4 h5=>
  have hvs:(as.toList.map (aT ev)).length =args.length:=by rw [<- hargs];simp [cX]
  rw [k6 hv rfl];have e1:((do let q <- Deferred.ofValue (.func (.func f) xs.toArray ys.toArray) (as.toList.map (aT ev)).toArray;invoke q.target q.args:Sem Next).run P w)=(callFunc f (xs.toArray++(as.toList.map (aT ev)).toArray ++ys.toArray)).run P w:=rfl;rw [e1,dY];have e2:xs.toArray++(as.toList.map (aT ev)).toArray ++ys.toArray=(xs++as.toList.map (aT ev)++ys).toArray :=by simp
  rw [e2];refine(hc (aO pb θ mem) w _ (by simp only [XD];omega) λi a v ha hv=>?_).mono ?_
  ·rcases XC i (l++args).length with h6|h6
   ·rw [Xj h6]at ha;rw [Xj (by simp only [XD]at h6 ⊢;omega)]at hv;rcases XC i l.length with h7|h7
    ·rw [Xj h7]at ha;rw [Xj ah]at hv;exact h3 i a v ha hv
    ·rw [Xk h7]at ha;rw [Xk ah,h2]at hv;have ha':=ha;rw [<- hargs,cX,Xh]at ha';rw [Xh]at hv;cases hx:as.toList[i - l.length]? with
     | none=>rw [hx]at hv;cases hv
     | some x'=>
      rw [hx]at ha' hv;simp at ha' hv;subst ha' hv;have hmem:x'∈as:=by have:=Xp hx;simpa using this
      exact(h x' mR).gr (gy hro ha)
   ·rw [Xk h6]at ha;rw [Xk (by simp only [XD]at h6 ⊢;omega)]at hv;have e3:i - (xs++as.toList.map (aT ev)).length =i - (l++args).length :=by simp only [XD];omega
    rw [e3]at hv;exact h5 _ a v ha hv
  ·rintro en w' ⟨q,v,he,rfl,h4,h5⟩;exact⟨v,he,.ro (R0.back hs h4),h5⟩
theorem kX{fn:Fn}{fs cs:Array Operand}{l m:List AV}(h1:cX e fs.toList=l)(h2:cX e cs.toList=m):bw P ⟨d,.makeFunc fn fs cs,ty,pos,af,g⟩ e mem (.clo fn l m):=by
 intro pb w0 θ w ev hs h;have e1:execOp (aT ev) ⟨d,.makeFunc fn fs cs,ty,pos,af,g⟩=pure (.value (.func fn (fs.toList.map (aT ev)).toArray (cs.toList.map (aT ev)).toArray)):=by
  show(do pure (Next.value (<- Instr.makeFunc fn (fs.map (aT ev)) (cs.map (aT ev)))):Sem Next)=_
  have:∀ (q:Array Operand),q.map (aT ev)=(q.toList.map (aT ev)).toArray :=λq=>by apply YN.1;rw [YF]
  rw [this,this];rfl
 rw [e1];have key:∀ (q:Array Operand),(∀ x∈q,R1 θ (aO pb θ mem) w (ak e x) (aT ev x))-> ∀ (i:Nat) (a:AV) (x:Value),(cX e q.toList)[i]? =some a->(q.toList.map (aT ev))[i]? =some x->R1 θ (aO pb θ mem) w a x:=by
  intro q hq i a v ha hv;rw [cX,Xh]at ha;rw [Xh]at hv;cases hx:q.toList[i]? with
  | none=>rw [hx]at hv;cases hv
  | some x'=>
   rw [hx]at ha hv;simp at ha hv;subst ha hv;exact hq x' (by have:=Xp hx;simpa using this)
 refine⟨.clo fn l m _ _ (by rw [<- h1];simp [cX]) ?_ (by rw [<- h2];simp [cX]) ?_,Ext.refl w⟩
 ·rw [<- h1];exact key fs λx hx=>h x (by simp [Op.operands,hx])
 ·rw [<- h2];exact key cs λx hx=>h x (by simp [Op.operands,hx])
def cellsA:AV->Option (List AV)
 | .any | .tuple _| .emp =>none
 | .v (.agg cs)=>some (cs.toList.map .v)
 | .agg l=>some l
 | a=>some [a]
def setAt{α:Type}(cells:List α)(off:Nat)(l:List α):List α:=cells.take off++l++cells.drop (off+l.length)
def sx(place:Nat->Option (Nat×Nat))(cells:List AV):List (Nat×AV)->Option (List AV)
 | []=>some cells
 | (i,a)::rest=>
  match place i,cellsA a with
  | some (off,size),some l=>if l.length=size/\off+size<=cells.length then sx place (setAt cells off l) rest else none
  | _,_=>none
theorem rk{θ:List Value}{pr:Nat->Prop}{w:World}{a:AV}{x:Value}{l:List AV}(h:R1 θ pr w a x)(hl:cellsA a=some l):x.cells.size=l.length/\ ∀ (i:Nat) (a:AV) (u:Value),l[i]? =some a->x.cells[i]? =some u->R1 θ pr w a u:=by
 have one:∀ (a:AV) (x:Value),R1 θ pr w a x->x.cells= #[x]->l= [a]->x.cells.size=l.length/\ ∀ (i:Nat) (a:AV) (u:Value),l[i]? =some a->x.cells[i]? =some u->R1 θ pr w a u:=by
  intro a x h hc hl;subst hl;rw [hc];refine⟨rfl,λi b u hb hu=>?_⟩;cases i with
  | zero=>simp at hb hu;subst hb hu;exact h
  | succ i=>simp at hb
 cases a with
 | any=>cases hl
 | emp=>cases hl
 | tuple l=>cases hl
 | v c=>
  have hx:=h.val;subst hx;cases x with
  | agg cs=>
   simp only [cellsA,Option.some.injEq]at hl;subst hl;refine⟨by simp [Value.cells],λi b u hb hu=>?_⟩;simp [Value.cells]at hb hu;obtain⟨y,h1,rfl⟩:=hb;rw [hu]at h1;cases h1;exact .ro (.v _)
  | _=>exact one _ _ h rfl rU
 | agg l'=>
  simp only [cellsA,Option.some.injEq]at hl;subst hl;obtain⟨xs,rfl,h2,h3⟩:=h.sd;exact⟨by simp [Value.cells,h2],λi b u hb hu=>h3 i b u hb (by simpa [Value.cells]using hu)⟩
 | row k els=>
  refine one _ _ h ?_ rU;cases h.getRow<;>rfl
 | ref c=>
  refine one _ _ h ?_ rU;cases h.getRef;rfl
 | clo fn l' m'=>
  refine one _ _ h ?_ rU;cases h with
  | ro h=>cases h;rfl
  | clo=>rfl
 | own j=>
  refine one _ _ h ?_ rU;cases h with
  | ro h=>cases h
  | own _ _ _ h2=>cases x<;>first|rfl|cases h2
 | ptr j o=>
  refine one _ _ h ?_ rU;obtain⟨b,y,_,_,rfl⟩:=h.gk;rfl
end
end Go.Proofs.YtbmlgmblfboigaaGreatDoor
