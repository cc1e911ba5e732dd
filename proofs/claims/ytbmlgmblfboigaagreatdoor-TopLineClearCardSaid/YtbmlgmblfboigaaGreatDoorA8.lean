/- Lemmas for the statement. -/
import Derived.Test.YtbmlgmblfboigaaGreatDoorA7
import Derived.Great.BuildSlice
import Derived.RangeFuncLeaves
import Derived.RangeFuncOwn
namespace Go.Proofs.YtbmlgmblfboigaaGreatDoor
open Go Go.RowKit
set_option linter.unusedVariables false
set_option linter.unusedSimpArgs false
section
variable {P:Program} {e:Nat->AV} {mem:List Ob} {d:Option Tmp} {ty t t2:TypeId} {pos:String} {af:Array Edge} {g:Option (Nat×Bool)} {x y z:Operand}
def mw(k:Nat):Nat->List (Nat×AV)->Option (List (List AV))
 | _,[]=>some []
 | i,(j,a)::l=>if i=j then match cellsA a,mw k (i+1) l with
  | some c,some r=>if c.length=k then some (c::r)else none
  | _,_=>none
  else none
theorem zn{k:Nat}:∀ {l:List (Nat×AV)} {i:Nat} {els:List (List AV)},mw k i l=some els->els.length=l.length/\ ∀ q∈els,q.length=k
 | [],_,_,h=>by simp [mw]at h;subst h;simp
 | (j,a)::l,i,els,h=>by
  simp only [mw]at h
  split at h
  ·split at h
   ·rename_i c r hc hr
    split at h
    ·rename_i hk
     cases h;obtain⟨h1,h2⟩:=zn hr;exact⟨by simp [h1],λq hq=>by
      rcases XM.1 hq with rfl|hq
      ·exact hk
      ·exact h2 q hq⟩
    ·cases h
   ·cases h
  ·cases h
theorem zo{θ:List Value}{pr:Nat->Prop}{w:World}{ev:Nat->Value}{k:Nat}:∀ {ps:List (Nat×Operand)} {cs:Array Value} {n:Nat} {els:List (List AV)},(∀ q∈ps,R1 θ pr w (ak e q.2) (aT ev q.2))->cs.size=(n+ps.length)*k->
 mw k n (iZ e ps)=some els-> ∃ cs',Instr.fill (λi=>some (i*k,k)) cs (ps.map λq=>(q.1,aT ev q.2))=some cs'/\cs'.size=cs.size/\(∀ i,i<n*k->cs'.toList[i]? =cs.toList[i]?)/\ ∀ (i:Nat) (a:AV) (u:Value),els.flatten[i]? =some a->cs'.toList[n*k+i]? =some u->R1 θ pr w a u
 | [],cs,n,els,_,h1,h=>by
  simp only [iZ,List.map_nil,mw,Option.some.injEq]at h;subst h;exact⟨cs,rfl,rfl,λ_ _=>rfl,λi a u h=>by simp at h⟩
 | (j,x)::ps,cs,n,els,hp,h1,h=>by
  simp only [iZ,XI,mw]at h;have hx:R1 θ pr w (ak e x) (aT ev x):=hp (j,x) aN
  split at h
  ·rename_i hnj
   subst hnj
   split at h
   ·rename_i c r hc hr
    split at h
    ·rename_i hk
     cases h;obtain⟨h3,h4⟩:=rk hx hc;have hle:n*k+k<=cs.size:=by
      rw [h1];have:(n+1)*k<=(n+((n,x)::ps).length)*k:=Yu k aN;rw [XZ]at this;exact this
     have hf:=EH cs (aT ev x).cells (n*k) ah;have hsz:((aT ev x).cells.zipIdx.foldl (λcs (c,j)=>cs.setIfInBounds (n*k+j) c) cs).size =cs.size:=by
      have:=congrArg List.length hf;rw [YG]at this;rw [this,l9 _ _ _ cJ];simp
     obtain⟨cs',h5,h6,h7,h8⟩:=zo (n:=n+1) (cs:=((aT ev x).cells.zipIdx.foldl (λcs (c,j)=>cs.setIfInBounds (n*k+j) c) cs)) (λq hq=>hp q (by simp [hq])) (by rw [hsz,h1,Xo,XQ,Yq 1]) hr;refine⟨cs',?_,by rw [h6,hsz],λi hi=>?_,λi a u ha hu=>?_⟩
     ·simp only [XI,Instr.fill];rw [if_neg cJ];exact h5
     ·rw [h7 i (by rw [XZ];omega),hf,kY _ _ _ cJ,if_pos hi]
     ·rw [XT]at ha;rcases XC i c.length with hi|hi
      ·rw [Xj hi]at ha;rw [h7 _ (by rw [XZ];omega),hf,kY _ _ _ cJ,if_neg ah,if_pos cJ,show n*k+i - n*k=i by omega]at hu;exact h4 i a u ha (by simpa using hu)
      ·rw [Xk hi]at ha;refine h8 (i - c.length) a u ha ?_;rw [<- hu];congr 1;rw [XZ];omega
    ·cases h
   ·cases h
  ·cases h
theorem KQ{ps:Array (Nat×Operand)}{pl:List (Nat×AV)}{n k:Nat}{eT:TypeId}{ie:TypeInfo}{zv:Value}{els:List (List AV)}(hps:iZ e ps.toList=pl)(hu:P.underlying t=some (.slice eT))(hie:P.info? eT=some ie)(hk:ie.size=k)(hz:ie.zero=some zv)
 (hn:pl.length=n)(hsm:¬ n*k>2^24)(hpos:¬ n*k=0)(hl:mw k 0 pl=some els)(hro:cC.roL els.flatten=true):bw P ⟨d,.buildSlice t n ps,ty,pos,af,g⟩ e mem (.row k els):=by
 intro pb w0 θ w ev hs h;subst hps;have hpl:ps.toList.length=n:=by rw [<- hn];simp [iZ]
 obtain⟨cs',h1,h2,h3,h4⟩:=zo (θ:=θ) (pr:=aO pb θ mem) (w:=w) (ev:=ev) (k:=k) (n:=0) (cs:=(Array.range (n*k)).map (zv.cells[· %zv.cells.size]!)) (λq hq=>h q.2 (by
  simp only [Op.operands,YY,XL];exact⟨q,hq,rfl⟩)) (by rw [Xl,hpl];simp) hl
 have hrun:=run_buildSlice (P:=P) w t eT n (ps.map λ(i,x)=>(i,aT ev x)) cs' ie zv hu hie hz (by rw [hk];exact hsm) (by rw [hk];exact hpos) (by
  rw [hk,vk];simpa using h1)
 have e1:execOp (aT ev) ⟨d,.buildSlice t n ps,ty,pos,af,g⟩=(do pure (.value (<- Instr.buildSlice t n (ps.map λ(i,x)=>(i,aT ev x))))):=rfl;rw [e1,Sem.run_bind,hrun];obtain⟨hl1,hl2⟩:=zn hl;have hlen:els.length=n:=by rw [hl1];exact hn
 have hfl:=fF hl2;have hsz:cs'.size=n*k:=by rw [h2];simp
 have hx:Ext w (w.alloc (.cells cs' eT)):=(Ext.refl w).alloc _;refine⟨.ro ?_,hx⟩;rw [<- hlen];have hnp:¬ aO pb θ mem w.heap.size:=by
  rintro(hq|⟨j,o,v,q1,q2,q3,q4⟩)
  ·have:=(hs.low _ hq).1;have:=hs.ext.size;omega
  ·have:=((hs.ob j o v q1 q3).lt q2 q4).2;omega
 have hcell:∀ i:Nat,(w.alloc (.cells cs' eT)).cell? ⟨w.heap.size,0+i,none⟩=cs'[i]? :=λi=>by
  rw [Xl];exact cell_of_row _ w.heap.size i cs' eT (0,0) (heap_alloc_new w _)
 refine .row k els w.heap.size 0 els.length (λi=>cs'.getD i undef) (λh0=>hpos (by rw [<- hlen,h0];simp)) (Xf _) hl2 aN hnp (λi a ha=>?_) (λi a ha=>?_)
 ·have hi:i<cs'.size:=by rw [hsz, <- hlen, <- hfl];exact(Xe.1 ha).1
  have:=hcell i;rw [this,X9 hi];simp [hi]
 ·have hi:i<cs'.size:=by rw [hsz, <- hlen, <- hfl];exact(Xe.1 ha).1
  have:=h4 i a (cs'.getD i undef) ha (by rw [Nat.zero_mul,Xl];simp [hi]);exact(this.gr (gy hro ha)).ext hx
theorem DL{s:ByteArray}{a b:Int}{ka kb:IntKind}(hx:ak e x= .v (.string s))(hy:ak e y= .v (.int ka a))(hz:ak e z= .v (.int kb b))(hu:P.underlying t=some .string)(h0:0<=a)(h1:a<=b)(h2:b<=s.size):
 bw P ⟨d,.slice t x (some y) (some z) none,ty,pos,af,g⟩ e mem (.v (.string (s.extract a.toNat b.toNat))):=
by
 obtain⟨a,rfl⟩:∃ n:Nat,a=n:=⟨a.toNat,ah⟩;obtain⟨b,rfl⟩:∃ n:Nat,b=n:=⟨b.toNat,ah⟩;have h1:a<=b:=by omega
 have h2:b<=s.size:=by omega
 refine mf _ λev he w=>?_
 ·rw [LR (he x cE _ hx) (he y cE _ hy) (he z cE _ hz),Sem.run_bind];simp [Instr.sliceAt,run_underlying hu,Instr.slice,Instr.sliceBounds,Instr.sliceBound,asIntOf,h1,h2,Sem.run_bind]
inductive Vw (mem:List Ob):AV->AV->Prop
 | ro (a:AV):cC a=true->Vw mem a a
 | nil (k:Nat):Vw mem (.v (.slice none 0 0)) (.row k [])
 | own (j k:Nat) (eT:TypeId) (els:List (List AV)):mem[j]? =some (.row eT k els)->Vw mem (.own j) (.row k els)
 | ptr (j off:Nat) (T:TypeId) (cells cells':List AV):mem[j]? =some (.box T cells)->cells'.length=cells.length->(∀ (i:Nat) (a b:AV),cells[i]? =some a->cells'[i]? =some b->Vw mem a b)->Vw mem (.ptr j off) (.ref (cells'.drop off))
 | agg (l l':List AV):l'.length=l.length->(∀ (i:Nat) (a b:AV),l[i]? =some a->l'[i]? =some b->Vw mem a b)->Vw mem (.agg l) (.agg l')
 | tuple (l l':List AV):l'.length=l.length->(∀ (i:Nat) (a b:AV),l[i]? =some a->l'[i]? =some b->Vw mem a b)->Vw mem (.tuple l) (.tuple l')
 | clo (fn:Fn) (l l' m m':List AV):l'.length=l.length->(∀ (i:Nat) (a b:AV),l[i]? =some a->l'[i]? =some b->Vw mem a b)->m'.length=m.length->(∀ (i:Nat) (a b:AV),m[i]? =some a->m'[i]? =some b->Vw mem a b)->Vw mem (.clo fn l m) (.clo fn l' m')
def lX(mem:List Ob):List AV->List AV->Prop
 | [],l'=>l'= []
 | a::l,l'=>∃ b r,l'=b::r/\Vw mem a b/\lX mem l r
theorem lX.spec{mem:List Ob}:∀ {l l':List AV},lX mem l l'->l'.length=l.length/\ ∀ (i:Nat) (a b:AV),l[i]? =some a->l'[i]? =some b->Vw mem a b
 | [],l',h=>by cases h;simp
 | a::l,l',⟨b,r,h1,h2,h3⟩=>by
  subst h1;obtain⟨h4,h5⟩:=lX.spec h3;refine⟨by simp [h4],λi a' b' ha hb=>?_⟩;cases i with
  | zero=>simp at ha hb;subst ha hb;exact h2
  | succ i=>exact h5 i a' b' (by simpa using ha) (by simpa using hb)
theorem fJ:lX mem [] []:=rfl
theorem cH{a b:AV}{l r:List AV}(h:Vw mem a b)(h2:lX mem l r):lX mem (a::l) (b::r):=⟨b,r,rfl,h,h2⟩
theorem lN{l l':List AV}(h:lX mem l l'):Vw mem (.agg l) (.agg l'):=.agg l l' h.spec.1 h.spec.2
theorem IP{fn:Fn}{l l' m m':List AV}(h:lX mem l l')(h2:lX mem m m'):Vw mem (.clo fn l m) (.clo fn l' m'):=.clo fn l l' m m' h.spec.1 h.spec.2 h2.spec.1 h2.spec.2
theorem Vw.ok{pb:Nat->Prop}{w0:Bs}{w:World}{θ:List Value}(hs:cm pb w0 w θ mem){a b:AV}(h:Vw mem a b):∀ {x:Value},R1 θ (aO pb θ mem) w a x->R0 pb w b x:=by
 have weak:∀ {a:AV} {x:Value},R0 (aO pb θ mem) w a x->R0 pb w a x:=λh=>h.mono (Xf _) (λ_ _ _=>rfl) (λb _ hn hp=>hn (.inl hp))
 have npb:∀ {j:Nat} {o:Ob} {v:Value} {b:Nat},mem[j]? =some o->o≠ .gone ->θ[j]? =some v->cA v=some b-> ¬ pb b:=λh1 h2 h3 h4 hp=>by
  rcases ((hs.ob _ _ _ h1 h3).lt h2 h4).1 with q|q
  ·have:=(hs.low _ hp).1;omega
  ·exact(hs.low _ hp).2 q
 induction h with
 | ro a ha=>exact λh=>weak (h.gr ha)
 | nil k=>exact λh=>by rw [h.val];exact .nil _ _ _
 | own j k eT els hm=>
  intro x h;have hθ:=h.gU;obtain⟨xs,h1,_,h2,h3⟩:=hs.ob j _ x hm hθ;rcases h1.2 with⟨rfl,hn⟩|⟨gg,cap,cur,rfl,hgb,hh,hcap,hmax,hcs,htake⟩
  ·have:els= []:=XS hn;subst this;exact .nil _ _ _
  ·by_cases h0:els= []
   ·subst h0;exact .nil _ _ _
   ·have hxl:xs.length=els.length*k:=h1.1;have hfl:=fF h2;refine .row k els gg 0 cap (λi=>xs.getD i undef) h0 hcap h2 (Xu.1 hh).1 (npb hm aN hθ rfl) (λi a ha=>?_) (λi a ha=>?_)
    ·have hi:i<xs.length:=by rw [hxl, <- hfl];exact(Xe.1 ha).1
     rw [Xl];exact sU h1 rfl i _ (by simp [hi,Xc])
    ·have hi:i<xs.length:=by rw [hxl, <- hfl];exact(Xe.1 ha).1
     exact weak (h3 i a _ ha (by simp [hi,Xc]))
 | ptr j off T cells cells' hm hl _ ih=>
  intro x h;obtain⟨b,y,hθ,hbase,rfl⟩:=h.gk;obtain⟨b',xs,h3,rfl,h4,h5,h6⟩:=hs.ob j _ y hm hθ;cases hbase;refine .ref _ b' off (λi=>xs.getD (off+i) undef) (Xu.1 h4).1 (npb hm aN hθ rfl) (λi a ha=>?_) (λi a ha=>?_)
  ·rw [XH]at ha;have hi:off+i<xs.length:=by rw [h5, <- hl];exact(Xe.1 ha).1
   rw [cell_of_row w b' (off+i) xs.toArray T (0,0) h4];simp [hi,Xc]
  ·rw [XH]at ha;have hi:off+i<xs.length:=by rw [h5, <- hl];exact(Xe.1 ha).1
   have hic:off+i<cells.length:=by omega
   exact ih (off+i) cells[off+i] a (Xd hic) ha (h6 _ _ _ (Xd hic) (by simp [hi,Xc]))
 | agg l l' hl _ ih=>
  intro x h;obtain⟨xs,rfl,h2,h3⟩:=h.sd;refine .agg l' xs ah λi b u hb hu=>?_
  have hi:i<l.length:=by have:=(Xe.1 hb).1;omega
  exact ih i l[i] b (Xd hi) hb (h3 i _ u (Xd hi) hu)
 | tuple l l' hl _ ih=>
  intro x h;obtain⟨xs,rfl,h2,h3⟩:=h.EE;refine .tuple l' xs ah λi b u hb hu=>?_
  have hi:i<l.length:=by have:=(Xe.1 hb).1;omega
  exact ih i l[i] b (Xd hi) hb (h3 i _ u (Xd hi) hu)
 | clo fn l l' m m' hl _ hm _ ih1 ih2=>
  intro x h;obtain⟨xs,us,rfl,h2,h3,h4,h5⟩:∃ xs us:List Value,x= .func fn xs.toArray us.toArray/\xs.length=l.length/\(∀ (i:Nat) (b:AV) (x:Value),l[i]? =some b->xs[i]? =some x->R1 θ (aO pb θ mem) w b x)/\us.length=m.length/\(∀ (i:Nat) (b:AV) (x:Value),m[i]? =some b->us[i]? =some x->R1 θ (aO pb θ mem) w b x):=by
   cases h with
   | ro h=>cases h with|clo _ _ _ xs us h1 h2 h3 h4=>exact⟨xs,us,rfl,h1,λi b x hb hx=>.ro (h2 i b x hb hx),h3,λi b x hb hx=>.ro (h4 i b x hb hx)⟩
   | clo _ _ _ xs us h1 h2 h3 h4=>exact⟨xs,us,rfl,h1,h2,h3,h4⟩
  refine .clo fn l' m' xs us ah (λi b u hb hu=>?_) ah λi b u hb hu=>?_
  ·have hi:i<l.length:=by have:=(Xe.1 hb).1;omega
   exact ih1 i l[i] b (Xd hi) hb (h3 i _ u (Xd hi) hu)
  ·have hi:i<m.length:=by have:=(Xe.1 hb).1;omega
   exact ih2 i m[i] b (Xd hi) hb (h5 i _ u (Xd hi) hu)
def jA(tmps:Array Value):ResultVar->Sem Value
 | .tmp t=>pure (tmps.getD t undef)
 | .cell q t=>do loadVar t (<- asAddr (tmps.getD q undef))
theorem sR{fn:Func}{rv:ResultVar}(h:fn.results= #[rv])(tmps:Array Value){w w':World}{v:Value}(h1:(jA tmps rv).run P w= .ok v w'):(results fn tmps).run P w= .ok v w':=by
 unfold results;rw [h];cases rv<;>simp [jA]at h1 ⊢ <;>simp_all
theorem Da{fn:Func}{rv1 rv2:ResultVar}(h:fn.results= #[rv1,rv2])(tmps:Array Value){w:World}{v1 v2:Value}(h1:(jA tmps rv1).run P w= .ok v1 w)(h2:(jA tmps rv2).run P w= .ok v2 w):(results fn tmps).run P w= .ok (.tuple #[v1,v2]) w:=by
 have e:results fn tmps=(do let a <- jA tmps rv1;let b <- jA tmps rv2;pure (.tuple #[a,b])):=by
  unfold results;rw [h];cases rv1<;>cases rv2<;>simp [jA]
 rw [e];simp [Sem.run_bind,h1,h2]
theorem KT{fn:Func}{rv1 rv2 rv3:ResultVar}(h:fn.results= #[rv1,rv2,rv3])(tmps:Array Value){w:World}{v1 v2 v3:Value}(h1:(jA tmps rv1).run P w= .ok v1 w)(h2:(jA tmps rv2).run P w= .ok v2 w)(h3:(jA tmps rv3).run P w= .ok v3 w):(results fn tmps).run P w= .ok (.tuple #[v1,v2,v3]) w:=by
 have e:results fn tmps=(do let a <- jA tmps rv1;let b <- jA tmps rv2;let c <- jA tmps rv3;pure (.tuple #[a,b,c])):=by
  unfold results;rw [h];cases rv1<;>cases rv2<;>cases rv3<;>simp [jA]
 rw [e];simp [Sem.run_bind,h1,h2,h3]
def kO(P:Program)(e:Nat->AV)(mem:List Ob):ResultVar->AV->Prop
 | .tmp t,a=>e t=a
 | .cell t T,a=>∃ j T' cells row n,e t= .ptr j 0/\mem[j]? =some (.box T' cells)/\aQ P T row n/\n<=cells.length/\(row=true\/n=1)/\fW row n cells=a
theorem bc{t:Tmp}{a:AV}(h:e t=a):kO P e mem (.tmp t) a:=h
theorem dE{t:Tmp}{T T':TypeId}{j n:Nat}{row:Bool}{cells:List AV}(h:e t= .ptr j 0)(hm:mem[j]? =some (.box T' cells))(ht:aQ P T row n)(hn:n<=cells.length)(h1:row=true\/n=1):kO P e mem (.cell t T) (fW row n cells):=⟨j,T',cells,row,n,h,hm,ht,hn,h1,rfl⟩
theorem mL{pb:Nat->Prop}{w0:Bs}{w:World}{θ:List Value}{N:Nat}{a:Act}(hf:Fit N pb w0 e mem θ a w){rv:ResultVar}{r:AV}(h:kO P e mem rv r):
 ∃ v,(jA a.tmps rv).run P w= .ok v w/\R1 θ (aO pb θ mem) w r v:=by
 cases rv with
 | tmp t=>exact⟨_,rfl,by have:=hf.sl t;rwa [show e t=r from h]at this⟩
 | cell t T=>
  obtain⟨j,T',cells,row,n,h1,h2,h3,h4,h5,rfl⟩:=h;have h6:=hf.sl t;rw [h1]at h6;obtain⟨b,y,hθ,hbase,hv⟩:=h6.gk;obtain⟨b',xs,q3,rfl,q4,q5,q6⟩:=hf.sim.ob j _ y h2 hθ;cases hbase;obtain⟨v,h7,h8⟩:=sQ (P:=P) (t:=T) (θ:=θ) (pr:=aO pb θ mem) (w:=w) (b:=b') (o:=0) (cells:=cells) (f:=λi=>xs.getD i undef) h3 h4 h5
   (λi hi=>by
    have hlt:i<xs.length:=by omega
    rw [Xl,cell_of_row w b' i xs.toArray T' (0,0) q4];simp [hlt,Xc])
   (λi a ha=>by
    have hlt:i<xs.length:=by rw [q5];exact(Xe.1 ha).1
    exact q6 i a _ ha (by simp [hlt,Xc]))
  refine⟨v,?_,h8⟩;simp only [Instr.loadAt,Instr.sureAddr,Sem.run_bind,Sem.run_pure,Result.andThen_ok]at h7;simp only [jA,Sem.run_bind,hv,asAddr,Sem.run_pure,Result.andThen_ok];exact h7
def iL(P:Program)(N:Nat)(fn:Func)(ψ:AV->Prop):AQ:=λx e mem=>(x= .normal \/x= .ret)/\ ∃ r,ψ r/\ ∀ pb w0 θ w (a:Act),Fit N pb w0 e mem θ a w-> ∃ v,(results fn a.tmps).run P w= .ok v w/\R0 pb w r v
theorem bL{N:Nat}{fn:Func}{ψ:AV->Prop}{x:Exit}(hx:x= .normal \/x= .ret){rv:ResultVar}{a r:AV}(hr:fn.results= #[rv])(h1:kO P e mem rv a)(hv:Vw mem a r)(hψ:ψ r):iL P N fn ψ x e mem:=by
 refine⟨hx,r,hψ,λpb w0 θ w act hf=>?_⟩;obtain⟨v,h2,h3⟩:=mL hf h1;exact⟨v,sR hr _ h2,hv.ok hf.sim h3⟩
theorem eh{N:Nat}{fn:Func}{ψ:AV->Prop}{x:Exit}(hx:x= .normal \/x= .ret){rv1 rv2:ResultVar}{a1 a2 r1 r2:AV}(hr:fn.results= #[rv1,rv2])(h1:kO P e mem rv1 a1)(h2:kO P e mem rv2 a2)(hv1:Vw mem a1 r1)(hv2:Vw mem a2 r2)(hψ:ψ (.tuple [r1,r2])):iL P N fn ψ x e mem:=by
 refine⟨hx,_,hψ,λpb w0 θ w act hf=>?_⟩;obtain⟨v1,q1,q2⟩:=mL hf h1;obtain⟨v2,q3,q4⟩:=mL hf h2;refine⟨.tuple #[v1,v2],?_,.tuple _ [v1,v2] rfl λi a u ha hu=>?_⟩
 ·exact Da hr _ q1 q3
 ·rcases i with _|_|i
  ·simp at ha hu;subst ha hu;exact hv1.ok hf.sim q2
  ·simp at ha hu;subst ha hu;exact hv2.ok hf.sim q4
  ·simp at ha
theorem BY{N:Nat}{fn:Func}{ψ:AV->Prop}{x:Exit}(hx:x= .normal \/x= .ret){rv1 rv2 rv3:ResultVar}{a1 a2 a3 r1 r2 r3:AV}(hr:fn.results= #[rv1,rv2,rv3])(h1:kO P e mem rv1 a1)(h2:kO P e mem rv2 a2)(h3:kO P e mem rv3 a3)(hv1:Vw mem a1 r1)(hv2:Vw mem a2 r2)(hv3:Vw mem a3 r3)(hψ:ψ (.tuple [r1,r2,r3])):iL P N fn ψ x e mem:=by
 refine⟨hx,_,hψ,λpb w0 θ w act hf=>?_⟩;obtain⟨v1,q1,q2⟩:=mL hf h1;obtain⟨v2,q3,q4⟩:=mL hf h2;obtain⟨v3,q5,q6⟩:=mL hf h3;refine⟨.tuple #[v1,v2,v3],?_,.tuple _ [v1,v2,v3] rfl λi a u ha hu=>?_⟩
 ·exact KT hr _ q1 q3 q5
 ·rcases i with _|_|_|i
  ·simp at ha hu;subst ha hu;exact hv1.ok hf.sim q2
  ·simp at ha hu;subst ha hu;exact hv2.ok hf.sim q4
  ·simp at ha hu;subst ha hu;exact hv3.ok hf.sim q6
  ·simp at ha
structure c6 (B:Nat) (w w':World):Prop where
 below:Below B w w'
 cells:∀ (b:Nat) (c:Array Value) (t:TypeId) (f:Nat×Nat),w.heap[b]? =some (.cells c t f)->w'.heap[b]? =some (.cells c t f)
 maps:∀ (b:Nat) (m:Array MapEntry) (c:Nat),w.heap[b]? =some (.map m c)->w'.heap[b]? =some (.map m c)
theorem c6.refl(B:Nat)(w:World):c6 B w w:=⟨Below.refl _ _,λ_ _ _ _ h=>h,λ_ _ _ h=>h⟩
theorem c6.trans{B:Nat}{a b c:World}(h:c6 B a b)(k:c6 B b c):c6 B a c:=⟨h.below.trans k.below,λi cs t f hi=>k.cells i cs t f (h.cells i cs t f hi),λi m c hi=>k.maps i m c (h.maps i m c hi)⟩
theorem c6.put{B D:Nat}{w:World}{ds:Option (List Deferred)}(o':Obj)(hB:B<=D)(h:w.heap[D]? =some (.deferred ds)):c6 B w (w.putObj D o'):=
 ⟨(Below.refl B w).grown (grownBy_putObj' w D o') (by have:=(Xu.1 h).1;omega) (λk e=>by cases e;omega),λb c t f hk=>by
  by_cases e:b=D
  ·subst e;rw [h]at hk;cases hk
  ·exact(World.putObj_heap_other e).trans hk,λb m c hk=>by
  by_cases e:b=D
  ·subst e;rw [h]at hk;cases hk
  ·exact(World.putObj_heap_other e).trans hk⟩
theorem LX{w:World}{b o:Nat}{v:Value}(h:w.cell? ⟨b,o,none⟩=some v):∃ c t f,w.heap[b]? =some (.cells c t f):=by
 unfold World.cell? at h;simp only at h
 split at h
 ·rename_i c t f hb;exact⟨c,t,f,hb⟩
 ·cases h
theorem c6.cell{B:Nat}{w w':World}(h:c6 B w w'){b o:Nat}{v:Value}(hc:w.cell? ⟨b,o,none⟩=some v):w'.cell? ⟨b,o,none⟩=some v:=by
 obtain⟨c,t,f,hb⟩:=LX hc;rw [cell_of_heap ((h.cells b c t f hb).trans hb.symm) o];exact hc
theorem R0.calm{pr:Nat->Prop}{B:Nat}{w w':World}(hc:c6 B w w'){a:AV}{x:Value}(h:R0 pr w a x):R0 pr w' a x:=by
 induction h with
 | any x=>exact .any x
 | v x=>exact .v x
 | nil k c A=>exact .nil k c A
 | emp A=>exact .emp A
 | row k els b o c f h1 h2 h3 h4 h5 h6 _ ih=>exact .row k els b o c f h1 h2 h3 (XG h4 hc.below.size) h5 (λi a hi=>hc.cell (h6 i a hi)) ih
 | ref cells b o f h4 h5 h6 _ ih=>exact .ref cells b o f (XG h4 hc.below.size) h5 (λi a hi=>hc.cell (h6 i a hi)) ih
 | agg l xs h1 _ ih=>exact .agg l xs h1 ih
 | tuple l xs h1 _ ih=>exact .tuple l xs h1 ih
 | clo fn l m xs ys h1 _ h3 _ ih1 ih2=>exact .clo fn l m xs ys h1 ih1 h3 ih2
theorem R1.calm{θ:List Value}{pr:Nat->Prop}{B:Nat}{w w':World}(hc:c6 B w w'){a:AV}{x:Value}(h:R1 θ pr w a x):R1 θ pr w' a x:=by
 induction h with
 | ro h=>exact .ro (h.calm hc)
 | own j x h h0=>exact .own j x h h0
 | ptr j off b x h h2=>exact .ptr j off b x h h2
 | agg l xs h1 _ ih=>exact .agg l xs h1 ih
 | tuple l xs h1 _ ih=>exact .tuple l xs h1 ih
 | clo fn l m xs ys h1 _ h3 _ ih1 ih2=>exact .clo fn l m xs ys h1 ih1 h3 ih2
theorem dI.calm{θ:List Value}{pr bs:Nat->Prop}{B:Nat}{w w':World}{v:Value}{o:Ob}(hc:c6 B w w')(h:dI θ pr bs w v o):dI θ pr bs w' v o:=by
 cases o with
 | box t cells=>obtain⟨b',xs,h1,rfl,h2,h3,h4⟩:=h;exact⟨b',xs,h1,rfl,hc.cells _ _ _ _ h2,h3,λi a x ha hx=>(h4 i a x ha hx).calm hc⟩
 | row e k els=>
  obtain⟨xs,h1,hbs,h2,h3⟩:=h;refine⟨xs,⟨h1.1,?_⟩,hbs,h2,λi a x ha hx=>(h3 i a x ha hx).calm hc⟩;rcases h1.2 with h4|⟨g,cap,cur,hv,hg,hh,rest⟩
  ·exact .inl h4
  ·exact .inr ⟨g,cap,cur,hv,hg,hc.cells _ _ _ _ hh,rest⟩
 | gone=>trivial
 | rowH e k els=>
  obtain⟨xs,h1,hbs,h2,h3⟩:=h;refine⟨xs,⟨h1.1,?_⟩,hbs,h2,λi a x ha hx=>(h3 i a x ha hx).calm hc⟩;rcases h1.2 with h4|⟨g,cap,cur,hv,hg,hh,rest⟩
  ·exact .inl h4
  ·exact .inr ⟨g,cap,cur,hv,hg,hc.cells _ _ _ _ hh,rest⟩
 | mp es=>obtain⟨b',m,cl,h1,rfl,h2,h3,h4⟩:=h;exact⟨b',m,cl,h1,rfl,hc.maps _ _ _ h2,h3,λi e k a he ha=>⟨(h4 i e k a he ha).1,(h4 i e k a he ha).2.calm hc⟩⟩
 | bT gs=>exact⟨h.1,λx hx=>⟨(h.2 x hx).1.calm hc,let ⟨cs,t,f,q1,q2⟩:=(h.2 x hx).2;⟨cs,t,f,hc.cells _ _ _ _ q1,q2⟩⟩⟩
theorem cm.calm{pb:Nat->Prop}{w0:Bs}{w w':World}{θ:List Value}{mem:List Ob}(h:cm pb w0 w θ mem)(hc:c6 w0.w.heap.size w w'):cm pb w0 w' θ mem:=
 ⟨⟨h.ext.below.trans (hc.below.mono (Xy _)),λb hb hl=>(hc.below.block b hb).trans (h.ext.block b hb hl)⟩,h.low,h.len,λj o v hm hv=>(h.ob j o v hm hv).calm hc,h.dis⟩
theorem re{n:Nat}{fn:Func}{tmps:Array Value}{R:Ending->World->Prop}{pr:Nat->Prop}{B:Nat}{ds0:List Deferred}{u:FrameMode}(hu:u≠ .run):∀ {ms:List Deferred} {w:World},ik B pr w ms->(∀ w',c6 B w w'->LeavesInM Fence.wide n P fn tmps R ds0 u w')->LeavesInM Fence.wide n P fn tmps R (ms++ds0) u w
 | [],w,_,h=>h w (c6.refl _ _)
 | d::ds,w,hm,h=>by
  obtain⟨D,h1,h2,h3,h4,h5⟩:=hm.1 d aN;refine⟨hu,.inl ⟨D,_,h1,run_takeDeferred h4,?_⟩⟩;have hc:c6 B w (w.putObj D (.deferred none)):=c6.put _ h5 h4;refine re (pr:=pr) (B:=B) hu ⟨λd' hd'=>?_,(Yh.1 hm.2).2⟩ (λw' hw'=>h w' (hc.trans hw'));obtain⟨D',g1,g2,g3,g4,g5⟩:=hm.1 d' (by simp [hd']);have hne:D'≠D:=λe=>(Yh.1 hm.2).1 d' hd' (by rw [h1,g1,e])
  exact⟨D',g1,XG g2 hc.below.size,g3,(World.putObj_heap_other hne).trans g4,g5⟩
theorem pP{n:Nat}{fn:Func}{tmps:Array Value}{R:Ending->World->Prop}{pr:Nat->Prop}{B:Nat}{ds:List Deferred}{w:World}(hm:Mks (B,[]) pr w ds)(h:∀ w',c6 B w w'-> ∃ v,(results fn tmps).run P w'= .ok v w'/\R (.returned v) w'):LeavesInM Fence.wide n P fn tmps R ds .returning w:=by
 obtain⟨ms,rfl,h1⟩:=hm;exact re aN h1 λw' hc=>h w' hc
theorem cw{f:FuncId}{fn:Func}{c:Code}{args:List AV}{ψ:AV->Prop}(N:Nat)(hf:P.funcs[f]? =some fn)(hb:fn.body=some c)(hn:fn.ntmps=N)(hN:args.length<=N)(hA:∀ e m,(∀ (t:Nat) (a:AV),args[t]? =some a->ak e (.tmp t)=a)->m= []->AW .top P N c (iL P N fn ψ) e m):bN P f args ψ:=by
 subst hn;have h:=hA (om args) [] (λt a ha=>by show args.getD t _=a;rw [Xc,ha];rfl) rfl;intro pr w vs h1 h2;refine(callsIn_wide (n:=9)).1 (callsIn_of_wp_marks hf hb trivial (wpIn_mono (h Fence.wide 9 rfl (λb=>pr b/\b<w.heap.size) ⟨w,λ_=>False,[]⟩ [] {tmps:=vs.toArray++Array.replicate (fn.ntmps - vs.toArray.size) undef,defers:= []} w ⟨?_,Mks.nil _ _ _,λt=>?_,?_⟩) ?_))
 ·simp;omega
 ·show R1 _ _ _ (args.getD t (.v undef)) ((vs.toArray++Array.replicate (fn.ntmps - vs.toArray.size) undef).getD t undef)
  by_cases ht:t<args.length
  ·have e1:args.getD t (.v undef)=args[t]:=by simp [Xc,ht]
   have ht':t<vs.length:=by omega
   have e2:(vs.toArray++Array.replicate (fn.ntmps - vs.toArray.size) undef).getD t undef=vs[t]:=by
    rw [Xn,X7 mS];simp [ht']
   rw [e1,e2];refine .ro ((h2 t _ _ (Xd ht) (Xd ht')).mono (Xf _) (λ_ _ _=>rfl) λb _ hn hp=>?_);rcases hp with hp|⟨j,o,v,q,_⟩
   ·exact hn hp.1
   ·simp at q
  ·have e1:args.getD t (.v undef)= .v undef:=by simp [Xc,Xq (X6 ht)]
   have e2:(vs.toArray++Array.replicate (fn.ntmps - vs.toArray.size) undef).getD t undef=undef:=by
    rw [Xn,Yb cJ,Yo]
    split<;>rfl
   rw [e1,e2];exact .ro (.v _)
 ·exact⟨gq.refl w _,λb hb=>⟨hb.2,id⟩,rfl,λj o v hm=>by simp at hm,λi j o p v u b hm=>by simp at hm⟩
 ·rintro x a w' ⟨e',mem',θ',hfit,-,hx,r,hψ,hr⟩;have fin:LeavesInM Fence.wide 9 P fn a.tmps (λen w'=>∃ r v,en= .returned v/\ψ r/\R0 (λb=>pr b/\b<w.heap.size) w' r v/\Ext w w') a.defers .returning w':=by
   refine pP hfit.dfr λw2 hc=>?_
   obtain⟨v,h3,h4⟩:=hr _ _ _ w2 {a with defers:= []} ⟨hfit.size,Mks.nil _ _ _,λt=>(hfit.sl t).calm hc,hfit.sim.calm hc⟩;exact⟨v,h3,r,v,rfl,hψ,h4,(hfit.sim.calm hc).ext.pd⟩
  rcases hx with rfl|rfl
  ·exact fin
  ·exact fin
end
end Go.Proofs.YtbmlgmblfboigaaGreatDoor
