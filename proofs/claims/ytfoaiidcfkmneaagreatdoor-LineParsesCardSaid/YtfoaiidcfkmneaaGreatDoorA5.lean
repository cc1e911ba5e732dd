/- Lemmas for the statement. -/
import Derived.Test.YtfoaiidcfkmneaaGreatDoorA4
import Derived.WalkLawsBesides
namespace Go.Proofs.YtfoaiidcfkmneaaGreatDoor
open Go Go.RowKit
set_option linter.unusedVariables false
set_option linter.unusedSimpArgs false
section
variable {P:Program} {e:Nat->AV} {mem:List Ob} {d:Option Tmp} {ty t t2:TypeId} {pos:String} {af:Array Edge} {g:Option (Nat×Bool)} {x y z:Operand}
theorem sQ(b o n:Nat):(⟨b,o,none⟩:Addr).add n=⟨b,o+n,none⟩:=by unfold Addr.add;split<;>simp_all
theorem AK{fs:Array Field}{f:Field}{i n:Nat}{row:Bool}{b o:Nat}(hu:P.underlying t=some (.struct fs))(hf:fs[i]? =some f)(ht:aV P f.type row n)(h0:n≠0)(w:World):
 (Instr.fieldAt t (.pointer (some ⟨b,o,none⟩)) i).run P w= .ok (.pointer (some ⟨b,o+f.offset,none⟩)) w:=by
 unfold Instr.fieldAt;rw [Sem.run_bind,run_underlying hu];simp [hf,Instr.sureAddr,fieldPlace,ht.sizeOf,h0,Sem.run_bind,sQ]
theorem Hz{cells:List AV}{fs:Array Field}{f:Field}{i n off:Nat}{row:Bool}(hx:al e x= .ref cells)(hu:P.underlying t=some (.struct fs))(hf:fs[i]? =some f)(ho:f.offset=off)(ht:aV P f.type row n)(h0:n≠0):
 bH P ⟨d,.fieldAddr t x i,ty,pos,af,g⟩ e mem (.ref (cells.drop off)):=by
 intro pb w0 θ w ev hs h;have h1':=h x cB;rw [hx]at h1';generalize hv:aZ ev x=p at h1';cases h1'.getRef with
 | ref _ b o q hb hp hc hr=>
  rw [Ax hv,Sem.run_bind,AK hu hf ht h0];refine⟨.ro (.ref _ _ _ (λi=>q (f.offset+i)) hb hp (λi a ha=>?_) (λi a ha=>?_)),Ext.refl w⟩
  ·rw [Tj, <- ho]at ha;rw [TN];exact hc _ a ha
  ·rw [Tj, <- ho]at ha;exact hr _ a ha
theorem HA{j o:Nat}{fs:Array Field}{f:Field}{i n off:Nat}{row:Bool}(hx:al e x= .ptr j o)(hu:P.underlying t=some (.struct fs))(hf:fs[i]? =some f)(ho:f.offset=off)(ht:aV P f.type row n)(h0:n≠0):
 bH P ⟨d,.fieldAddr t x i,ty,pos,af,g⟩ e mem (.ptr j (o+off)):=by
 intro pb w0 θ w ev hs h;have h1':=h x cB;rw [hx]at h1';obtain⟨b,v,hθ,hbase,hp⟩:=h1'.iC;rw [Ax hp,Sem.run_bind,AK hu hf ht h0,ho];exact⟨.ptr j _ b v hθ hbase,Ext.refl w⟩
theorem run_indexAt{k len c b o:Nat}{eT:TypeId}{i:Int}{row:Bool}{kk:IntKind}(hu:P.underlying t=some (.slice eT))(ht:aV P eT row k)(h0:0<=i)(h1:i<len)(w:World):
 (Instr.indexAt t (.slice (some ⟨b,o,none⟩) len c) (.int kk i)).run P w= .ok (.pointer (some ⟨b,o+i.toNat*k,none⟩)) w:=by
 unfold Instr.indexAt;simp [asIntOf,run_underlying hu,h0,h1,ht.sizeOf,Sem.run_bind,sQ]
theorem HV{els:List (List AV)}{el:List AV}{k:Nat}{eT:TypeId}{i:Int}{row:Bool}{kk:IntKind}(hx:al e x= .row k els)(hy:al e y= .v (.int kk i))(hu:P.underlying t=some (.slice eT))(ht:aV P eT row k)(h0:0<=i)(hel:els[i.toNat]? =some el):
 bH P ⟨d,.indexAddr t x y,ty,pos,af,g⟩ e mem (.ref el):=by
 intro pb w0 θ w ev hs h;have h1':=h x cB;have h2':=h y cB;rw [hx]at h1';rw [hy]at h2';have hi:i.toNat<els.length:=(SN.1 hel).1;generalize hv:aZ ev x=p at h1';cases h1'.getRow with
 | nil=>simp at hi
 | row _ _ b o c q hne hc hk hb hp hcell hr=>
  rw [w9 hv h2'.val,Sem.run_bind,run_indexAt hu ht h0 ah];have hkl:=hk el (S9 hel);refine⟨.ro (.ref _ _ _ (λj=>q (i.toNat*k+j)) hb hp (λj a ha=>?_) (λj a ha=>?_)),Ext.refl w⟩
  ·have hj:j<k:=by have:=(SN.1 ha).1;omega
   rw [TN];exact hcell _ a (by rw [flat_get hk hel hj];exact ha)
  ·have hj:j<k:=by have:=(SN.1 ha).1;omega
   exact hr _ a (by rw [flat_get hk hel hj];exact ha)
theorem HB{j:Nat}{els:List (List AV)}{k:Nat}{eT T:TypeId}{i:Int}{row:Bool}{kk:IntKind}(hx:al e x= .own j)(hm:mem[j]? =some (.row T k els))(hy:al e y= .v (.int kk i))(hu:P.underlying t=some (.slice eT))(ht:aV P eT row k)(h0:0<=i)(h1:i<els.length):
 bH P ⟨d,.indexAddr t x y,ty,pos,af,g⟩ e mem (.ptr j (i.toNat*k)):=by
 intro pb w0 θ w ev hs h;have h1':=h x cB;have h2':=h y cB;rw [hx]at h1';rw [hy]at h2';generalize hv:aZ ev x=p at h1';have hθ:=h1'.j6;obtain⟨xs,h3,_,h4,h5⟩:=hs.ob j _ p hm hθ;rcases h3.2 with⟨rfl,hn⟩|⟨gg,cap,cur,rfl,_⟩
 ·omega
 ·rw [w9 hv h2'.val,Sem.run_bind,run_indexAt hu ht h0 h1,S0];exact⟨.ptr j _ gg _ hθ rfl,Ext.refl w⟩
theorem gC{s:ByteArray}{i:Int}{b:UInt8}{kk:IntKind}(hx:al e x= .v (.string s))(hy:al e y= .v (.int kk i))(hu:P.underlying t=some .string)(h0:0<=i)(hb:s[i.toNat]? =some b):
 bH P ⟨d,.index t x y,ty,pos,af,g⟩ e mem (.v (.int .u8 b.toNat)):=
 l7 _ λev he w=>by
  rw [BX (he x cB _ hx) (he y cB _ hy),Sem.run_bind];unfold Instr.index;simp [asIntOf,run_underlying hu,h0,hb,Sem.run_bind]
theorem cx{els:List (List AV)}{k:Nat}{eT:TypeId}{ts:Array TypeId}(hx:al e x= .row k els)(hts:ts[0]? =some t)(hu:P.underlying t=some (.slice eT)):bH P ⟨d,.call ⟨.builtin .len,#[x],ts⟩,ty,pos,af,g⟩ e mem (.v (.int .i64 els.length)):=by
 intro pb w0 θ w ev hs h;have h1':=h x kE;rw [hx]at h1';generalize hv:aZ ev x=p at h1';rw [oQ (lG hv pn)];cases h1'.getRow<;> · simp [builtin,Builtin.len_,hts,run_underlying hu,goInt];exact⟨.ro (.v _),Ext.refl w⟩
theorem tN{j:Nat}{els:List (List AV)}{k:Nat}{eT T:TypeId}{ts:Array TypeId}(hx:al e x= .own j)(hm:mem[j]? =some (.row T k els))(hts:ts[0]? =some t)(hu:P.underlying t=some (.slice eT)):bH P ⟨d,.call ⟨.builtin .len,#[x],ts⟩,ty,pos,af,g⟩ e mem (.v (.int .i64 els.length)):=by
 intro pb w0 θ w ev hs h;have h1':=h x kE;rw [hx]at h1';generalize hv:aZ ev x=p at h1';have hθ:=h1'.j6;obtain⟨xs,h3,_,h4,h5⟩:=hs.ob j _ p hm hθ;obtain⟨A,c,rfl,hc⟩:=rO h3;rw [oQ (lG hv pn)];simp [builtin,Builtin.len_,hts,run_underlying hu,goInt];exact⟨.ro (.v _),Ext.refl w⟩
theorem eE{s:ByteArray}{ts:Array TypeId}(hx:al e x= .v (.string s))(hts:ts[0]? =some t)(hu:P.underlying t=some .string):bH P ⟨d,.call ⟨.builtin .len,#[x],ts⟩,ty,pos,af,g⟩ e mem (.v (.int .i64 s.size)):=
 l7 _ λev he w=>by
  rw [oQ (lG (he x kE _ hx) pn)];simp [builtin,Builtin.len_,hts,run_underlying hu,goInt]
theorem FX{m n:Int}{k:IntKind}{ts:Array TypeId}(hx:al e x= .v (.int k m))(hy:al e y= .v (.int k n)):bH P ⟨d,.call ⟨.builtin .max,#[x,y],ts⟩,ty,pos,af,g⟩ e mem (.v (.int k (max m n))):=
 l7 _ λev he w=>by
  rw [oQ (lG (he x kE _ hx) (lG (he y kE _ hy) pn))];simp only [builtin,Sem.run_bind,Le,Result.andThen_ok,Sem.run_pure]
theorem vK{m n:Int}{k:IntKind}{ts:Array TypeId}(hx:al e x= .v (.int k m))(hy:al e y= .v (.int k n)):bH P ⟨d,.call ⟨.builtin .min,#[x,y],ts⟩,ty,pos,af,g⟩ e mem (.v (.int k (min m n))):=
 l7 _ λev he w=>by
  rw [oQ (lG (he x kE _ hx) (lG (he y kE _ hy) pn))];simp only [builtin,Sem.run_bind,Lh,Result.andThen_ok,Sem.run_pure]
def cS:AV->Bool
 | .own _| .ptr _ _=>false
 | .agg l| .tuple l=>roL l
 | .clo _ l m=>roL l&&roL m
 | _=>true
where roL:List AV->Bool
 | []=>true
 | a::l=>cS a&&roL l
theorem hP:∀ {l:List AV} {i:Nat} {a:AV},cS.roL l=true->l[i]? =some a->cS a=true
 | [],_,_,_,h=>by simp at h
 | b::l,0,a,h,hi=>by simp at hi;subst hi;simp only [cS.roL,SS]at h;exact h.1
 | b::l,i+1,a,h,hi=>by simp only [cS.roL,SS]at h;exact hP h.2 (by simpa using hi)
theorem R1.iN{θ:List Value}{pr:Nat->Prop}{w:World}{a:AV}{x:Value}(h:R1 θ pr w a x)(hr:cS a=true):R0 pr w a x:=by
 induction h with
 | ro h=>exact h
 | own j x h _=>simp [cS]at hr
 | ptr j off b x h h2=>simp [cS]at hr
 | agg l xs h1 _ ih=>exact .agg l xs h1 λi a x ha hx=>ih i a x ha hx (hP (by simpa [cS]using hr) ha)
 | tuple l xs h1 _ ih=>exact .tuple l xs h1 λi a x ha hx=>ih i a x ha hx (hP (by simpa [cS]using hr) ha)
 | clo fn l m xs ys h1 _ h3 _ ih1 ih2=>
  simp only [cS,SS]at hr;exact .clo fn l m xs ys h1 (λi a x ha hx=>ih1 i a x ha hx (hP hr.1 ha)) h3 (λi a x ha hx=>ih2 i a x ha hx (hP hr.2 ha))
theorem R0.back{pb:Nat->Prop}{w0:Bs}{w w':World}{θ:List Value}{mem:List Ob}(hs:cr pb w0 w θ mem){r:AV}{v:Value}(h:R0 (λb=>aP pb θ mem b/\b<w.heap.size) w' r v):R0 (aP pb θ mem) w' r v:=
 h.mono (SR _) (λ_ _ _=>rfl) λb _ hn hp=>hn ⟨hp,by
  rcases hp with hp|⟨j,o,v,h1,h2,h3,h4⟩
  ·exact S4 (hs.low b hp).1 hs.ext.size
  ·exact((hs.ob j o v h1 h3).lt h2 h4).2⟩
def dc(e:Nat->AV)(as:List Operand):List AV:=as.map (al e)
theorem aN:dc e []= []:=rfl
theorem aG{as:List Operand}{a:AV}{l:List AV}(h:al e x=a)(h2:dc e as=l):dc e (x::as)=a::l:=by subst h;subst h2;rfl
theorem bI{f:FuncId}{as:Array Operand}{ts:Array TypeId}{args:List AV}{r:AV}(hargs:dc e as.toList=args)(hro:cS.roL args=true)(hc:bT P f args (λq=>q=r))(eH:∀ args w,(callFunc f args).run P w= .ok (.enter f args) w):
 bH P ⟨d,.call ⟨.value (.func f),as,ts⟩,ty,pos,af,g⟩ e mem r:=by
 intro pb w0 θ w ev hs h;have hvs:(as.toList.map (aZ ev)).length =args.length:=by rw [<- hargs];simp [dc]
 rw [ly (f:=.func (.func f) #[] #[]) rfl rfl];refine qn eH ((hc (aP pb θ mem) w _ hvs λi a v ha hv=>?_).mono ?_)
 ·have ha':=ha;rw [<- hargs,dc,SU]at ha';rw [SU]at hv;cases hx:as.toList[i]? with
  | none=>rw [hx]at hv;cases hv
  | some x=>
   rw [hx]at ha' hv;simp at ha' hv;subst ha' hv;have hmem:x∈as:=by have:=S9 hx;simpa using this
   exact(h x nT).iN (hP hro ha)
 ·rintro en w' ⟨q,v,he,rfl,h4,h5⟩;exact⟨v,he,.ro (R0.back hs h4),h5⟩
theorem BZ{f:FuncId}{as:Array Operand}{ts:Array TypeId}{l m args:List AV}{r:AV}(hx:al e x= .clo (.func f) l m)(hargs:dc e as.toList=args)(hro:cS.roL args=true)(hrl:cS.roL l=true)(hrm:cS.roL m=true)(hc:bT P f (l++args++m) (λq=>q=r))(eH:∀ args w,(callFunc f args).run P w= .ok (.enter f args) w):
 bH P ⟨d,.call ⟨.value x,as,ts⟩,ty,pos,af,g⟩ e mem r:=by
 intro pb w0 θ w ev hs h;have h1':=h x kE;rw [hx]at h1';have h1'':=h1'.iN (by simp [cS,hrl,hrm]);generalize hv:aZ ev x=p at h1'';cases h1'' with
 | clo _ _ _ xs ys h2 h3 h4 h5=>
  have hvs:(as.toList.map (aZ ev)).length =args.length:=by rw [<- hargs];simp [dc]
  rw [ly hv rfl];have e1:((do let q <- Deferred.ofValue (.func (.func f) xs.toArray ys.toArray) (as.toList.map (aZ ev)).toArray;invoke q.target q.args:Sem Next).run P w)=(callFunc f (xs.toArray++(as.toList.map (aZ ev)).toArray ++ys.toArray)).run P w:=rfl;rw [e1,eH];have e2:xs.toArray++(as.toList.map (aZ ev)).toArray ++ys.toArray=(xs++as.toList.map (aZ ev)++ys).toArray :=by simp
  rw [e2];refine(hc (aP pb θ mem) w _ (by simp only [Tq];omega) λi a v ha hv=>?_).mono ?_
  ·rcases Tf i (l++args).length with h6|h6
   ·rw [SX h6]at ha;rw [SX (by simp only [Tq]at h6 ⊢;omega)]at hv;rcases Tf i l.length with h7|h7
    ·rw [SX h7]at ha;rw [SX ah]at hv;exact h3 i a v ha hv
    ·rw [S1 h7]at ha;rw [S1 ah,h2]at hv;have ha':=ha;rw [<- hargs,dc,SU]at ha';rw [SU]at hv;cases hx:as.toList[i - l.length]? with
     | none=>rw [hx]at hv;cases hv
     | some x'=>
      rw [hx]at ha' hv;simp at ha' hv;subst ha' hv;have hmem:x'∈as:=by have:=S9 hx;simpa using this
      exact(h x' nT).iN (hP hro ha)
   ·rw [S1 h6]at ha;rw [S1 (by simp only [Tq]at h6 ⊢;omega)]at hv;have e3:i - (xs++as.toList.map (aZ ev)).length =i - (l++args).length :=by simp only [Tq];omega
    rw [e3]at hv;exact h5 _ a v ha hv
  ·rintro en w' ⟨q,v,he,rfl,h4,h5⟩;exact⟨v,he,.ro (R0.back hs h4),h5⟩
theorem kT{fn:Fn}{fs cs:Array Operand}{l m:List AV}(h1:dc e fs.toList=l)(h2:dc e cs.toList=m):bH P ⟨d,.makeFunc fn fs cs,ty,pos,af,g⟩ e mem (.clo fn l m):=by
 intro pb w0 θ w ev hs h;have e1:execOp (aZ ev) ⟨d,.makeFunc fn fs cs,ty,pos,af,g⟩=pure (.value (.func fn (fs.toList.map (aZ ev)).toArray (cs.toList.map (aZ ev)).toArray)):=by
  show(do pure (Next.value (<- Instr.makeFunc fn (fs.map (aZ ev)) (cs.map (aZ ev)))):Sem Next)=_
  have:∀ (q:Array Operand),q.map (aZ ev)=(q.toList.map (aZ ev)).toArray :=λq=>by apply UL.1;rw [Uz]
  rw [this,this];rfl
 rw [e1];have key:∀ (q:Array Operand),(∀ x∈q,R1 θ (aP pb θ mem) w (al e x) (aZ ev x))-> ∀ (i:Nat) (a:AV) (x:Value),(dc e q.toList)[i]? =some a->(q.toList.map (aZ ev))[i]? =some x->R1 θ (aP pb θ mem) w a x:=by
  intro q hq i a v ha hv;rw [dc,SU]at ha;rw [SU]at hv;cases hx:q.toList[i]? with
  | none=>rw [hx]at hv;cases hv
  | some x'=>
   rw [hx]at ha hv;simp at ha hv;subst ha hv;exact hq x' (by have:=S9 hx;simpa using this)
 refine⟨.clo fn l m _ _ (by rw [<- h1];simp [dc]) ?_ (by rw [<- h2];simp [dc]) ?_,Ext.refl w⟩
 ·rw [<- h1];exact key fs λx hx=>h x (by simp [Op.operands,hx])
 ·rw [<- h2];exact key cs λx hx=>h x (by simp [Op.operands,hx])
def cellsA:AV->Option (List AV)
 | .any | .tuple _| .emp =>none
 | .v (.agg cs)=>some (cs.toList.map .v)
 | .agg l=>some l
 | a=>some [a]
def setAt{α:Type}(cells:List α)(off:Nat)(l:List α):List α:=cells.take off++l++cells.drop (off+l.length)
def ri(place:Nat->Option (Nat×Nat))(cells:List AV):List (Nat×AV)->Option (List AV)
 | []=>some cells
 | (i,a)::rest=>
  match place i,cellsA a with
  | some (off,size),some l=>if l.length=size/\off+size<=cells.length then ri place (setAt cells off l) rest else none
  | _,_=>none
theorem qj{θ:List Value}{pr:Nat->Prop}{w:World}{a:AV}{x:Value}{l:List AV}(h:R1 θ pr w a x)(hl:cellsA a=some l):x.cells.size=l.length/\ ∀ (i:Nat) (a:AV) (u:Value),l[i]? =some a->x.cells[i]? =some u->R1 θ pr w a u:=by
 have one:∀ (a:AV) (x:Value),R1 θ pr w a x->x.cells= #[x]->l= [a]->x.cells.size=l.length/\ ∀ (i:Nat) (a:AV) (u:Value),l[i]? =some a->x.cells[i]? =some u->R1 θ pr w a u:=by
  intro a x h hc hl;subst hl;rw [hc];refine⟨rfl,λi b u hb hu=>?_⟩;cases i with
  | zero=>simp at hb hu;subst hb hu;exact h
  | succ i=>simp at hb
 cases a with
 | any=>cases hl
 | emp=>cases hl
 | tuple l=>cases hl
 | v c=>
  have hx:=h.val;subst hx;cases x with
  | agg cs=>
   simp only [cellsA,Option.some.injEq]at hl;subst hl;refine⟨by simp [Value.cells],λi b u hb hu=>?_⟩;simp [Value.cells]at hb hu;obtain⟨y,h1,rfl⟩:=hb;rw [hu]at h1;cases h1;exact .ro (.v _)
  | _=>exact one _ _ h rfl qM
 | agg l'=>
  simp only [cellsA,Option.some.injEq]at hl;subst hl;obtain⟨xs,rfl,h2,h3⟩:=h.sN;exact⟨by simp [Value.cells,h2],λi b u hb hu=>h3 i b u hb (by simpa [Value.cells]using hu)⟩
 | row k els=>
  refine one _ _ h ?_ qM;cases h.getRow<;>rfl
 | ref c=>
  refine one _ _ h ?_ qM;cases h.getRef;rfl
 | clo fn l' m'=>
  refine one _ _ h ?_ qM;cases h with
  | ro h=>cases h;rfl
  | clo=>rfl
 | own j=>
  refine one _ _ h ?_ qM;cases h with
  | ro h=>cases h
  | own _ _ _ h2=>cases x<;>first|rfl|cases h2
 | ptr j o=>
  refine one _ _ h ?_ qM;obtain⟨b,y,_,_,rfl⟩:=h.iC;rfl
end
end Go.Proofs.YtfoaiidcfkmneaaGreatDoor
