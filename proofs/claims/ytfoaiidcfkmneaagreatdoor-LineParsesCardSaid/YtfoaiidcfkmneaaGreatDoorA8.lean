/- Lemmas for the statement. -/
import Derived.Test.YtfoaiidcfkmneaaGreatDoorA7
import Derived.Great.BuildSlice
import Derived.RangeFuncLeaves
import Derived.RangeFuncOwn
namespace Go.Proofs.YtfoaiidcfkmneaaGreatDoor
open Go Go.RowKit
set_option linter.unusedVariables false
set_option linter.unusedSimpArgs false
section
variable {P:Program} {e:Nat->AV} {mem:List Ob} {d:Option Tmp} {ty t t2:TypeId} {pos:String} {af:Array Edge} {g:Option (Nat×Bool)} {x y z:Operand}
def lO(k:Nat):Nat->List (Nat×AV)->Option (List (List AV))
 | _,[]=>some []
 | i,(j,a)::l=>if i=j then match cellsA a,lO k (i+1) l with
  | some c,some r=>if c.length=k then some (c::r)else none
  | _,_=>none
  else none
theorem xK{k:Nat}:∀ {l:List (Nat×AV)} {i:Nat} {els:List (List AV)},lO k i l=some els->els.length=l.length/\ ∀ q∈els,q.length=k
 | [],_,_,h=>by simp [lO]at h;subst h;simp
 | (j,a)::l,i,els,h=>by
  simp only [lO]at h
  split at h
  ·split at h
   ·rename_i c r hc hr
    split at h
    ·rename_i hk
     cases h;obtain⟨h1,h2⟩:=xK hr;exact⟨by simp [h1],λq hq=>by
      rcases TL.1 hq with rfl|hq
      ·exact hk
      ·exact h2 q hq⟩
    ·cases h
   ·cases h
  ·cases h
theorem xM{θ:List Value}{pr:Nat->Prop}{w:World}{ev:Nat->Value}{k:Nat}:∀ {ps:List (Nat×Operand)} {cs:Array Value} {n:Nat} {els:List (List AV)},(∀ q∈ps,R1 θ pr w (al e q.2) (aZ ev q.2))->cs.size=(n+ps.length)*k->
 lO k n (iO e ps)=some els-> ∃ cs',Instr.fill (λi=>some (i*k,k)) cs (ps.map λq=>(q.1,aZ ev q.2))=some cs'/\cs'.size=cs.size/\(∀ i,i<n*k->cs'.toList[i]? =cs.toList[i]?)/\ ∀ (i:Nat) (a:AV) (u:Value),els.flatten[i]? =some a->cs'.toList[n*k+i]? =some u->R1 θ pr w a u
 | [],cs,n,els,_,h1,h=>by
  simp only [iO,List.map_nil,lO,Option.some.injEq]at h;subst h;exact⟨cs,rfl,rfl,λ_ _=>rfl,λi a u h=>by simp at h⟩
 | (j,x)::ps,cs,n,els,hp,h1,h=>by
  simp only [iO,TC,lO]at h;have hx:R1 θ pr w (al e x) (aZ ev x):=hp (j,x) aL
  split at h
  ·rename_i hnj
   subst hnj
   split at h
   ·rename_i c r hc hr
    split at h
    ·rename_i hk
     cases h;obtain⟨h3,h4⟩:=qj hx hc;have hle:n*k+k<=cs.size:=by
      rw [h1];have:(n+1)*k<=(n+((n,x)::ps).length)*k:=UB k aL;rw [TV]at this;exact this
     have hf:=B5 cs (aZ ev x).cells (n*k) ah;have hsz:((aZ ev x).cells.zipIdx.foldl (λcs (c,j)=>cs.setIfInBounds (n*k+j) c) cs).size =cs.size:=by
      have:=congrArg List.length hf;rw [UC]at this;rw [this,lv _ _ _ cZ];simp
     obtain⟨cs',h5,h6,h7,h8⟩:=xM (n:=n+1) (cs:=((aZ ev x).cells.zipIdx.foldl (λcs (c,j)=>cs.setIfInBounds (n*k+j) c) cs)) (λq hq=>hp q (by simp [hq])) (by rw [hsz,h1,Ta,TN,Us 1]) hr;refine⟨cs',?_,by rw [h6,hsz],λi hi=>?_,λi a u ha hu=>?_⟩
     ·simp only [TC,Instr.fill];rw [if_neg cZ];exact h5
     ·rw [h7 i (by rw [TV];omega),hf,kr _ _ _ cZ,if_pos hi]
     ·rw [Uh]at ha;rcases Tf i c.length with hi|hi
      ·rw [SX hi]at ha;rw [h7 _ (by rw [TV];omega),hf,kr _ _ _ cZ,if_neg ah,if_pos cZ,show n*k+i - n*k=i by omega]at hu;exact h4 i a u ha (by simpa using hu)
      ·rw [S1 hi]at ha;refine h8 (i - c.length) a u ha ?_;rw [<- hu];congr 1;rw [TV];omega
    ·cases h
   ·cases h
  ·cases h
theorem HI{ps:Array (Nat×Operand)}{pl:List (Nat×AV)}{n k:Nat}{eT:TypeId}{ie:TypeInfo}{zv:Value}{els:List (List AV)}(hps:iO e ps.toList=pl)(hu:P.underlying t=some (.slice eT))(hie:P.info? eT=some ie)(hk:ie.size=k)(hz:ie.zero=some zv)
 (hn:pl.length=n)(hsm:¬ n*k>2^24)(hpos:¬ n*k=0)(hl:lO k 0 pl=some els)(hro:cS.roL els.flatten=true):bH P ⟨d,.buildSlice t n ps,ty,pos,af,g⟩ e mem (.row k els):=by
 intro pb w0 θ w ev hs h;subst hps;have hpl:ps.toList.length=n:=by rw [<- hn];simp [iO]
 obtain⟨cs',h1,h2,h3,h4⟩:=xM (θ:=θ) (pr:=aP pb θ mem) (w:=w) (ev:=ev) (k:=k) (n:=0) (cs:=(Array.range (n*k)).map (zv.cells[· %zv.cells.size]!)) (λq hq=>h q.2 (by
  simp only [Op.operands,UT,TG];exact⟨q,hq,rfl⟩)) (by rw [S0,hpl];simp) hl
 have hrun:=run_buildSlice (P:=P) w t eT n (ps.map λ(i,x)=>(i,aZ ev x)) cs' ie zv hu hie hz (by rw [hk];exact hsm) (by rw [hk];exact hpos) (by
  rw [hk,tU];simpa using h1)
 have e1:execOp (aZ ev) ⟨d,.buildSlice t n ps,ty,pos,af,g⟩=(do pure (.value (<- Instr.buildSlice t n (ps.map λ(i,x)=>(i,aZ ev x))))):=rfl;rw [e1,Sem.run_bind,hrun];obtain⟨hl1,hl2⟩:=xK hl;have hlen:els.length=n:=by rw [hl1];exact hn
 have hfl:=iR hl2;have hsz:cs'.size=n*k:=by rw [h2];simp
 have hx:Ext w (w.alloc (.cells cs' eT)):=(Ext.refl w).alloc _;refine⟨.ro ?_,hx⟩;rw [<- hlen];have hnp:¬ aP pb θ mem w.heap.size:=by
  rintro(hq|⟨j,o,v,q1,q2,q3,q4⟩)
  ·have:=(hs.low _ hq).1;have:=hs.ext.size;omega
  ·have:=((hs.ob j o v q1 q3).lt q2 q4).2;omega
 have hcell:∀ i:Nat,(w.alloc (.cells cs' eT)).cell? ⟨w.heap.size,0+i,none⟩=cs'[i]? :=λi=>by
  rw [S0];exact cell_of_row _ w.heap.size i cs' eT (0,0) (heap_alloc_new w _)
 refine .row k els w.heap.size 0 els.length (λi=>cs'.getD i undef) (λh0=>hpos (by rw [<- hlen,h0];simp)) (SR _) hl2 aL hnp (λi a ha=>?_) (λi a ha=>?_)
 ·have hi:i<cs'.size:=by rw [hsz, <- hlen, <- hfl];exact(SN.1 ha).1
  have:=hcell i;rw [this,Ua hi];simp [hi]
 ·have hi:i<cs'.size:=by rw [hsz, <- hlen, <- hfl];exact(SN.1 ha).1
  have:=h4 i a (cs'.getD i undef) ha (by rw [Nat.zero_mul,S0];simp [hi]);exact(this.iN (hP hro ha)).ext hx
theorem qk{s:ByteArray}{a b:Int}{ka kb:IntKind}(hx:al e x= .v (.string s))(hy:al e y= .v (.int ka a))(hz:al e z= .v (.int kb b))(hu:P.underlying t=some .string)(h0:0<=a)(h1:a<=b)(h2:b<=s.size):
 bH P ⟨d,.slice t x (some y) (some z) none,ty,pos,af,g⟩ e mem (.v (.string (s.extract a.toNat b.toNat))):=
by
 obtain⟨a,rfl⟩:∃ n:Nat,a=n:=⟨a.toNat,ah⟩;obtain⟨b,rfl⟩:∃ n:Nat,b=n:=⟨b.toNat,ah⟩;have h1:a<=b:=by omega
 have h2:b<=s.size:=by omega
 refine l7 _ λev he w=>?_
 ·rw [ID (he x cB _ hx) (he y cB _ hy) (he z cB _ hz),Sem.run_bind];simp [Instr.sliceAt,run_underlying hu,Instr.slice,Instr.sliceBounds,Instr.sliceBound,asIntOf,h1,h2,Sem.run_bind]
inductive Vw (mem:List Ob):AV->AV->Prop
 | ro (a:AV):cS a=true->Vw mem a a
 | nil (k:Nat):Vw mem (.v (.slice none 0 0)) (.row k [])
 | own (j k:Nat) (eT:TypeId) (els:List (List AV)):mem[j]? =some (.row eT k els)->Vw mem (.own j) (.row k els)
 | ptr (j off:Nat) (T:TypeId) (cells cells':List AV):mem[j]? =some (.box T cells)->cells'.length=cells.length->(∀ (i:Nat) (a b:AV),cells[i]? =some a->cells'[i]? =some b->Vw mem a b)->Vw mem (.ptr j off) (.ref (cells'.drop off))
 | agg (l l':List AV):l'.length=l.length->(∀ (i:Nat) (a b:AV),l[i]? =some a->l'[i]? =some b->Vw mem a b)->Vw mem (.agg l) (.agg l')
 | tuple (l l':List AV):l'.length=l.length->(∀ (i:Nat) (a b:AV),l[i]? =some a->l'[i]? =some b->Vw mem a b)->Vw mem (.tuple l) (.tuple l')
 | clo (fn:Fn) (l l' m m':List AV):l'.length=l.length->(∀ (i:Nat) (a b:AV),l[i]? =some a->l'[i]? =some b->Vw mem a b)->m'.length=m.length->(∀ (i:Nat) (a b:AV),m[i]? =some a->m'[i]? =some b->Vw mem a b)->Vw mem (.clo fn l m) (.clo fn l' m')
def lr(mem:List Ob):List AV->List AV->Prop
 | [],l'=>l'= []
 | a::l,l'=>∃ b r,l'=b::r/\Vw mem a b/\lr mem l r
theorem lr.spec{mem:List Ob}:∀ {l l':List AV},lr mem l l'->l'.length=l.length/\ ∀ (i:Nat) (a b:AV),l[i]? =some a->l'[i]? =some b->Vw mem a b
 | [],l',h=>by cases h;simp
 | a::l,l',⟨b,r,h1,h2,h3⟩=>by
  subst h1;obtain⟨h4,h5⟩:=lr.spec h3;refine⟨by simp [h4],λi a' b' ha hb=>?_⟩;cases i with
  | zero=>simp at ha hb;subst ha hb;exact h2
  | succ i=>exact h5 i a' b' (by simpa using ha) (by simpa using hb)
theorem gG:lr mem [] []:=rfl
theorem cQ{a b:AV}{l r:List AV}(h:Vw mem a b)(h2:lr mem l r):lr mem (a::l) (b::r):=⟨b,r,rfl,h,h2⟩
theorem k9{l l':List AV}(h:lr mem l l'):Vw mem (.agg l) (.agg l'):=.agg l l' h.spec.1 h.spec.2
theorem Qi{fn:Fn}{l l' m m':List AV}(h:lr mem l l')(h2:lr mem m m'):Vw mem (.clo fn l m) (.clo fn l' m'):=.clo fn l l' m m' h.spec.1 h.spec.2 h2.spec.1 h2.spec.2
theorem Vw.ok{pb:Nat->Prop}{w0:Bs}{w:World}{θ:List Value}(hs:cr pb w0 w θ mem){a b:AV}(h:Vw mem a b):∀ {x:Value},R1 θ (aP pb θ mem) w a x->R0 pb w b x:=by
 have weak:∀ {a:AV} {x:Value},R0 (aP pb θ mem) w a x->R0 pb w a x:=λh=>h.mono (SR _) (λ_ _ _=>rfl) (λb _ hn hp=>hn (.inl hp))
 have npb:∀ {j:Nat} {o:Ob} {v:Value} {b:Nat},mem[j]? =some o->o≠ .gone ->θ[j]? =some v->cH v=some b-> ¬ pb b:=λh1 h2 h3 h4 hp=>by
  rcases ((hs.ob _ _ _ h1 h3).lt h2 h4).1 with q|q
  ·have:=(hs.low _ hp).1;omega
  ·exact(hs.low _ hp).2 q
 induction h with
 | ro a ha=>exact λh=>weak (h.iN ha)
 | nil k=>exact λh=>by rw [h.val];exact .nil _ _ _
 | own j k eT els hm=>
  intro x h;have hθ:=h.j6;obtain⟨xs,h1,_,h2,h3⟩:=hs.ob j _ x hm hθ;rcases h1.2 with⟨rfl,hn⟩|⟨gg,cap,cur,rfl,hgb,hh,hcap,hmax,hcs,htake⟩
  ·have:els= []:=TD hn;subst this;exact .nil _ _ _
  ·by_cases h0:els= []
   ·subst h0;exact .nil _ _ _
   ·have hxl:xs.length=els.length*k:=h1.1;have hfl:=iR h2;refine .row k els gg 0 cap (λi=>xs.getD i undef) h0 hcap h2 (Tc.1 hh).1 (npb hm aL hθ rfl) (λi a ha=>?_) (λi a ha=>?_)
    ·have hi:i<xs.length:=by rw [hxl, <- hfl];exact(SN.1 ha).1
     rw [S0];exact xt h1 rfl i _ (by simp [hi,SO])
    ·have hi:i<xs.length:=by rw [hxl, <- hfl];exact(SN.1 ha).1
     exact weak (h3 i a _ ha (by simp [hi,SO]))
 | ptr j off T cells cells' hm hl _ ih=>
  intro x h;obtain⟨b,y,hθ,hbase,rfl⟩:=h.iC;obtain⟨b',xs,h3,rfl,h4,h5,h6⟩:=hs.ob j _ y hm hθ;cases hbase;refine .ref _ b' off (λi=>xs.getD (off+i) undef) (Tc.1 h4).1 (npb hm aL hθ rfl) (λi a ha=>?_) (λi a ha=>?_)
  ·rw [Tj]at ha;have hi:off+i<xs.length:=by rw [h5, <- hl];exact(SN.1 ha).1
   rw [cell_of_row w b' (off+i) xs.toArray T (0,0) h4];simp [hi,SO]
  ·rw [Tj]at ha;have hi:off+i<xs.length:=by rw [h5, <- hl];exact(SN.1 ha).1
   have hic:off+i<cells.length:=by omega
   exact ih (off+i) cells[off+i] a (SQ hic) ha (h6 _ _ _ (SQ hic) (by simp [hi,SO]))
 | agg l l' hl _ ih=>
  intro x h;obtain⟨xs,rfl,h2,h3⟩:=h.sN;refine .agg l' xs ah λi b u hb hu=>?_
  have hi:i<l.length:=by have:=(SN.1 hb).1;omega
  exact ih i l[i] b (SQ hi) hb (h3 i _ u (SQ hi) hu)
 | tuple l l' hl _ ih=>
  intro x h;obtain⟨xs,rfl,h2,h3⟩:=h.BY;refine .tuple l' xs ah λi b u hb hu=>?_
  have hi:i<l.length:=by have:=(SN.1 hb).1;omega
  exact ih i l[i] b (SQ hi) hb (h3 i _ u (SQ hi) hu)
 | clo fn l l' m m' hl _ hm _ ih1 ih2=>
  intro x h;obtain⟨xs,us,rfl,h2,h3,h4,h5⟩:∃ xs us:List Value,x= .func fn xs.toArray us.toArray/\xs.length=l.length/\(∀ (i:Nat) (b:AV) (x:Value),l[i]? =some b->xs[i]? =some x->R1 θ (aP pb θ mem) w b x)/\us.length=m.length/\(∀ (i:Nat) (b:AV) (x:Value),m[i]? =some b->us[i]? =some x->R1 θ (aP pb θ mem) w b x):=by
   cases h with
   | ro h=>cases h with|clo _ _ _ xs us h1 h2 h3 h4=>exact⟨xs,us,rfl,h1,λi b x hb hx=>.ro (h2 i b x hb hx),h3,λi b x hb hx=>.ro (h4 i b x hb hx)⟩
   | clo _ _ _ xs us h1 h2 h3 h4=>exact⟨xs,us,rfl,h1,h2,h3,h4⟩
  refine .clo fn l' m' xs us ah (λi b u hb hu=>?_) ah λi b u hb hu=>?_
  ·have hi:i<l.length:=by have:=(SN.1 hb).1;omega
   exact ih1 i l[i] b (SQ hi) hb (h3 i _ u (SQ hi) hu)
  ·have hi:i<m.length:=by have:=(SN.1 hb).1;omega
   exact ih2 i m[i] b (SQ hi) hb (h5 i _ u (SQ hi) hu)
def fE(tmps:Array Value):ResultVar->Sem Value
 | .tmp t=>pure (tmps.getD t undef)
 | .cell q t=>do loadVar t (<- asAddr (tmps.getD q undef))
theorem AN{fn:Func}{rv:ResultVar}(h:fn.results= #[rv])(tmps:Array Value){w w':World}{v:Value}(h1:(fE tmps rv).run P w= .ok v w'):(results fn tmps).run P w= .ok v w':=by
 unfold results;rw [h];cases rv<;>simp [fE]at h1 ⊢ <;>simp_all
theorem Ij{fn:Func}{rv1 rv2:ResultVar}(h:fn.results= #[rv1,rv2])(tmps:Array Value){w:World}{v1 v2:Value}(h1:(fE tmps rv1).run P w= .ok v1 w)(h2:(fE tmps rv2).run P w= .ok v2 w):(results fn tmps).run P w= .ok (.tuple #[v1,v2]) w:=by
 have e:results fn tmps=(do let a <- fE tmps rv1;let b <- fE tmps rv2;pure (.tuple #[a,b])):=by
  unfold results;rw [h];cases rv1<;>cases rv2<;>simp [fE]
 rw [e];simp [Sem.run_bind,h1,h2]
theorem HJ{fn:Func}{rv1 rv2 rv3:ResultVar}(h:fn.results= #[rv1,rv2,rv3])(tmps:Array Value){w:World}{v1 v2 v3:Value}(h1:(fE tmps rv1).run P w= .ok v1 w)(h2:(fE tmps rv2).run P w= .ok v2 w)(h3:(fE tmps rv3).run P w= .ok v3 w):(results fn tmps).run P w= .ok (.tuple #[v1,v2,v3]) w:=by
 have e:results fn tmps=(do let a <- fE tmps rv1;let b <- fE tmps rv2;let c <- fE tmps rv3;pure (.tuple #[a,b,c])):=by
  unfold results;rw [h];cases rv1<;>cases rv2<;>cases rv3<;>simp [fE]
 rw [e];simp [Sem.run_bind,h1,h2,h3]
def kf(P:Program)(e:Nat->AV)(mem:List Ob):ResultVar->AV->Prop
 | .tmp t,a=>e t=a
 | .cell t T,a=>∃ j T' cells row n,e t= .ptr j 0/\mem[j]? =some (.box T' cells)/\aV P T row n/\n<=cells.length/\(row=true\/n=1)/\gx row n cells=a
theorem aR{t:Tmp}{a:AV}(h:e t=a):kf P e mem (.tmp t) a:=h
theorem dz{t:Tmp}{T T':TypeId}{j n:Nat}{row:Bool}{cells:List AV}(h:e t= .ptr j 0)(hm:mem[j]? =some (.box T' cells))(ht:aV P T row n)(hn:n<=cells.length)(h1:row=true\/n=1):kf P e mem (.cell t T) (gx row n cells):=⟨j,T',cells,row,n,h,hm,ht,hn,h1,rfl⟩
theorem lx{pb:Nat->Prop}{w0:Bs}{w:World}{θ:List Value}{N:Nat}{a:Act}(hf:Fit N pb w0 e mem θ a w){rv:ResultVar}{r:AV}(h:kf P e mem rv r):
 ∃ v,(fE a.tmps rv).run P w= .ok v w/\R1 θ (aP pb θ mem) w r v:=by
 cases rv with
 | tmp t=>exact⟨_,rfl,by have:=hf.sl t;rwa [show e t=r from h]at this⟩
 | cell t T=>
  obtain⟨j,T',cells,row,n,h1,h2,h3,h4,h5,rfl⟩:=h;have h6:=hf.sl t;rw [h1]at h6;obtain⟨b,y,hθ,hbase,hv⟩:=h6.iC;obtain⟨b',xs,q3,rfl,q4,q5,q6⟩:=hf.sim.ob j _ y h2 hθ;cases hbase;obtain⟨v,h7,h8⟩:=tK (P:=P) (t:=T) (θ:=θ) (pr:=aP pb θ mem) (w:=w) (b:=b') (o:=0) (cells:=cells) (f:=λi=>xs.getD i undef) h3 h4 h5
   (λi hi=>by
    have hlt:i<xs.length:=by omega
    rw [S0,cell_of_row w b' i xs.toArray T' (0,0) q4];simp [hlt,SO])
   (λi a ha=>by
    have hlt:i<xs.length:=by rw [q5];exact(SN.1 ha).1
    exact q6 i a _ ha (by simp [hlt,SO]))
  refine⟨v,?_,h8⟩;simp only [Instr.loadAt,Instr.sureAddr,Sem.run_bind,Sem.run_pure,Result.andThen_ok]at h7;simp only [fE,Sem.run_bind,hv,asAddr,Sem.run_pure,Result.andThen_ok];exact h7
def ic(P:Program)(N:Nat)(fn:Func)(ψ:AV->Prop):AQ:=λx e mem=>(x= .normal \/x= .ret)/\ ∃ r,ψ r/\ ∀ pb w0 θ w (a:Act),Fit N pb w0 e mem θ a w-> ∃ v,(results fn a.tmps).run P w= .ok v w/\R0 pb w r v
theorem bX{N:Nat}{fn:Func}{ψ:AV->Prop}{x:Exit}(hx:x= .normal \/x= .ret){rv:ResultVar}{a r:AV}(hr:fn.results= #[rv])(h1:kf P e mem rv a)(hv:Vw mem a r)(hψ:ψ r):ic P N fn ψ x e mem:=by
 refine⟨hx,r,hψ,λpb w0 θ w act hf=>?_⟩;obtain⟨v,h2,h3⟩:=lx hf h1;exact⟨v,AN hr _ h2,hv.ok hf.sim h3⟩
theorem dP{N:Nat}{fn:Func}{ψ:AV->Prop}{x:Exit}(hx:x= .normal \/x= .ret){rv1 rv2:ResultVar}{a1 a2 r1 r2:AV}(hr:fn.results= #[rv1,rv2])(h1:kf P e mem rv1 a1)(h2:kf P e mem rv2 a2)(hv1:Vw mem a1 r1)(hv2:Vw mem a2 r2)(hψ:ψ (.tuple [r1,r2])):ic P N fn ψ x e mem:=by
 refine⟨hx,_,hψ,λpb w0 θ w act hf=>?_⟩;obtain⟨v1,q1,q2⟩:=lx hf h1;obtain⟨v2,q3,q4⟩:=lx hf h2;refine⟨.tuple #[v1,v2],?_,.tuple _ [v1,v2] rfl λi a u ha hu=>?_⟩
 ·exact Ij hr _ q1 q3
 ·rcases i with _|_|i
  ·simp at ha hu;subst ha hu;exact hv1.ok hf.sim q2
  ·simp at ha hu;subst ha hu;exact hv2.ok hf.sim q4
  ·simp at ha
theorem mm{N:Nat}{fn:Func}{ψ:AV->Prop}{x:Exit}(hx:x= .normal \/x= .ret){rv1 rv2 rv3:ResultVar}{a1 a2 a3 r1 r2 r3:AV}(hr:fn.results= #[rv1,rv2,rv3])(h1:kf P e mem rv1 a1)(h2:kf P e mem rv2 a2)(h3:kf P e mem rv3 a3)(hv1:Vw mem a1 r1)(hv2:Vw mem a2 r2)(hv3:Vw mem a3 r3)(hψ:ψ (.tuple [r1,r2,r3])):ic P N fn ψ x e mem:=by
 refine⟨hx,_,hψ,λpb w0 θ w act hf=>?_⟩;obtain⟨v1,q1,q2⟩:=lx hf h1;obtain⟨v2,q3,q4⟩:=lx hf h2;obtain⟨v3,q5,q6⟩:=lx hf h3;refine⟨.tuple #[v1,v2,v3],?_,.tuple _ [v1,v2,v3] rfl λi a u ha hu=>?_⟩
 ·exact HJ hr _ q1 q3 q5
 ·rcases i with _|_|_|i
  ·simp at ha hu;subst ha hu;exact hv1.ok hf.sim q2
  ·simp at ha hu;subst ha hu;exact hv2.ok hf.sim q4
  ·simp at ha hu;subst ha hu;exact hv3.ok hf.sim q6
  ·simp at ha
structure dw (B:Nat) (w w':World):Prop where
 below:Below B w w'
 cells:∀ (b:Nat) (c:Array Value) (t:TypeId) (f:Nat×Nat),w.heap[b]? =some (.cells c t f)->w'.heap[b]? =some (.cells c t f)
 maps:∀ (b:Nat) (m:Array MapEntry) (c:Nat),w.heap[b]? =some (.map m c)->w'.heap[b]? =some (.map m c)
theorem dw.refl(B:Nat)(w:World):dw B w w:=⟨Below.refl _ _,λ_ _ _ _ h=>h,λ_ _ _ h=>h⟩
theorem dw.trans{B:Nat}{a b c:World}(h:dw B a b)(k:dw B b c):dw B a c:=⟨h.below.trans k.below,λi cs t f hi=>k.cells i cs t f (h.cells i cs t f hi),λi m c hi=>k.maps i m c (h.maps i m c hi)⟩
theorem dw.put{B D:Nat}{w:World}{ds:Option (List Deferred)}(o':Obj)(hB:B<=D)(h:w.heap[D]? =some (.deferred ds)):dw B w (w.putObj D o'):=
 ⟨(Below.refl B w).grown (grownBy_putObj' w D o') (by have:=(Tc.1 h).1;omega) (λk e=>by cases e;omega),λb c t f hk=>by
  by_cases e:b=D
  ·subst e;rw [h]at hk;cases hk
  ·exact(World.putObj_heap_other e).trans hk,λb m c hk=>by
  by_cases e:b=D
  ·subst e;rw [h]at hk;cases hk
  ·exact(World.putObj_heap_other e).trans hk⟩
theorem IH{w:World}{b o:Nat}{v:Value}(h:w.cell? ⟨b,o,none⟩=some v):∃ c t f,w.heap[b]? =some (.cells c t f):=by
 unfold World.cell? at h;simp only at h
 split at h
 ·rename_i c t f hb;exact⟨c,t,f,hb⟩
 ·cases h
theorem dw.cell{B:Nat}{w w':World}(h:dw B w w'){b o:Nat}{v:Value}(hc:w.cell? ⟨b,o,none⟩=some v):w'.cell? ⟨b,o,none⟩=some v:=by
 obtain⟨c,t,f,hb⟩:=IH hc;rw [cell_of_heap ((h.cells b c t f hb).trans hb.symm) o];exact hc
theorem R0.calm{pr:Nat->Prop}{B:Nat}{w w':World}(hc:dw B w w'){a:AV}{x:Value}(h:R0 pr w a x):R0 pr w' a x:=by
 induction h with
 | any x=>exact .any x
 | v x=>exact .v x
 | nil k c A=>exact .nil k c A
 | emp A=>exact .emp A
 | row k els b o c f h1 h2 h3 h4 h5 h6 _ ih=>exact .row k els b o c f h1 h2 h3 (S4 h4 hc.below.size) h5 (λi a hi=>hc.cell (h6 i a hi)) ih
 | ref cells b o f h4 h5 h6 _ ih=>exact .ref cells b o f (S4 h4 hc.below.size) h5 (λi a hi=>hc.cell (h6 i a hi)) ih
 | agg l xs h1 _ ih=>exact .agg l xs h1 ih
 | tuple l xs h1 _ ih=>exact .tuple l xs h1 ih
 | clo fn l m xs ys h1 _ h3 _ ih1 ih2=>exact .clo fn l m xs ys h1 ih1 h3 ih2
theorem R1.calm{θ:List Value}{pr:Nat->Prop}{B:Nat}{w w':World}(hc:dw B w w'){a:AV}{x:Value}(h:R1 θ pr w a x):R1 θ pr w' a x:=by
 induction h with
 | ro h=>exact .ro (h.calm hc)
 | own j x h h0=>exact .own j x h h0
 | ptr j off b x h h2=>exact .ptr j off b x h h2
 | agg l xs h1 _ ih=>exact .agg l xs h1 ih
 | tuple l xs h1 _ ih=>exact .tuple l xs h1 ih
 | clo fn l m xs ys h1 _ h3 _ ih1 ih2=>exact .clo fn l m xs ys h1 ih1 h3 ih2
theorem dG.calm{θ:List Value}{pr bs:Nat->Prop}{B:Nat}{w w':World}{v:Value}{o:Ob}(hc:dw B w w')(h:dG θ pr bs w v o):dG θ pr bs w' v o:=by
 cases o with
 | box t cells=>obtain⟨b',xs,h1,rfl,h2,h3,h4⟩:=h;exact⟨b',xs,h1,rfl,hc.cells _ _ _ _ h2,h3,λi a x ha hx=>(h4 i a x ha hx).calm hc⟩
 | row e k els=>
  obtain⟨xs,h1,hbs,h2,h3⟩:=h;refine⟨xs,⟨h1.1,?_⟩,hbs,h2,λi a x ha hx=>(h3 i a x ha hx).calm hc⟩;rcases h1.2 with h4|⟨g,cap,cur,hv,hg,hh,rest⟩
  ·exact .inl h4
  ·exact .inr ⟨g,cap,cur,hv,hg,hc.cells _ _ _ _ hh,rest⟩
 | gone=>trivial
 | rowH e k els=>
  obtain⟨xs,h1,hbs,h2,h3⟩:=h;refine⟨xs,⟨h1.1,?_⟩,hbs,h2,λi a x ha hx=>(h3 i a x ha hx).calm hc⟩;rcases h1.2 with h4|⟨g,cap,cur,hv,hg,hh,rest⟩
  ·exact .inl h4
  ·exact .inr ⟨g,cap,cur,hv,hg,hc.cells _ _ _ _ hh,rest⟩
 | mp es=>obtain⟨b',m,cl,h1,rfl,h2,h3,h4⟩:=h;exact⟨b',m,cl,h1,rfl,hc.maps _ _ _ h2,h3,λi e k a he ha=>⟨(h4 i e k a he ha).1,(h4 i e k a he ha).2.calm hc⟩⟩
 | bY gs=>exact⟨h.1,λx hx=>⟨(h.2 x hx).1.calm hc,let ⟨cs,t,f,q1,q2⟩:=(h.2 x hx).2;⟨cs,t,f,hc.cells _ _ _ _ q1,q2⟩⟩⟩
theorem cr.calm{pb:Nat->Prop}{w0:Bs}{w w':World}{θ:List Value}{mem:List Ob}(h:cr pb w0 w θ mem)(hc:dw w0.w.heap.size w w'):cr pb w0 w' θ mem:=
 ⟨⟨h.ext.below.trans (hc.below.mono (S8 _)),λb hb hl=>(hc.below.block b hb).trans (h.ext.block b hb hl)⟩,h.low,h.len,λj o v hm hv=>(h.ob j o v hm hv).calm hc,h.dis⟩
theorem qf{n:Nat}{fn:Func}{tmps:Array Value}{R:Ending->World->Prop}{pr:Nat->Prop}{B:Nat}{ds0:List Deferred}{u:FrameMode}(hu:u≠ .run):∀ {ms:List Deferred} {w:World},ij B pr w ms->(∀ w',dw B w w'->LeavesInM Fence.wide n P fn tmps R ds0 u w')->LeavesInM Fence.wide n P fn tmps R (ms++ds0) u w
 | [],w,_,h=>h w (dw.refl _ _)
 | d::ds,w,hm,h=>by
  obtain⟨D,h1,h2,h3,h4,h5⟩:=hm.1 d aL;refine⟨hu,.inl ⟨D,_,h1,run_takeDeferred h4,?_⟩⟩;have hc:dw B w (w.putObj D (.deferred none)):=dw.put _ h5 h4;refine qf (pr:=pr) (B:=B) hu ⟨λd' hd'=>?_,(Uo.1 hm.2).2⟩ (λw' hw'=>h w' (hc.trans hw'));obtain⟨D',g1,g2,g3,g4,g5⟩:=hm.1 d' (by simp [hd']);have hne:D'≠D:=λe=>(Uo.1 hm.2).1 d' hd' (by rw [h1,g1,e])
  exact⟨D',g1,S4 g2 hc.below.size,g3,(World.putObj_heap_other hne).trans g4,g5⟩
theorem rI{n:Nat}{fn:Func}{tmps:Array Value}{R:Ending->World->Prop}{pr:Nat->Prop}{B:Nat}{ds:List Deferred}{w:World}(hm:Mks (B,[]) pr w ds)(h:∀ w',dw B w w'-> ∃ v,(results fn tmps).run P w'= .ok v w'/\R (.returned v) w'):LeavesInM Fence.wide n P fn tmps R ds .returning w:=by
 obtain⟨ms,rfl,h1⟩:=hm;exact qf aL h1 λw' hc=>h w' hc
theorem cA{f:FuncId}{fn:Func}{c:Code}{args:List AV}{ψ:AV->Prop}(N:Nat)(hf:P.funcs[f]? =some fn)(hb:fn.body=some c)(hn:fn.ntmps=N)(hN:args.length<=N)(hA:∀ e m,(∀ (t:Nat) (a:AV),args[t]? =some a->al e (.tmp t)=a)->m= []->AW .top P N c (ic P N fn ψ) e m):bT P f args ψ:=by
 subst hn;have h:=hA (pW args) [] (λt a ha=>by show args.getD t _=a;rw [SO,ha];rfl) rfl;intro pr w vs h1 h2;refine(callsIn_wide (n:=9)).1 (callsIn_of_wp_marks hf hb trivial (wpIn_mono (h Fence.wide 9 rfl (λb=>pr b/\b<w.heap.size) ⟨w,λ_=>False,[]⟩ [] {tmps:=vs.toArray++Array.replicate (fn.ntmps - vs.toArray.size) undef,defers:= []} w ⟨?_,Mks.nil _ _ _,λt=>?_,?_⟩) ?_))
 ·simp;omega
 ·show R1 _ _ _ (args.getD t (.v undef)) ((vs.toArray++Array.replicate (fn.ntmps - vs.toArray.size) undef).getD t undef)
  by_cases ht:t<args.length
  ·have e1:args.getD t (.v undef)=args[t]:=by simp [SO,ht]
   have ht':t<vs.length:=by omega
   have e2:(vs.toArray++Array.replicate (fn.ntmps - vs.toArray.size) undef).getD t undef=vs[t]:=by
    rw [S3,Up nU];simp [ht']
   rw [e1,e2];refine .ro ((h2 t _ _ (SQ ht) (SQ ht')).mono (SR _) (λ_ _ _=>rfl) λb _ hn hp=>?_);rcases hp with hp|⟨j,o,v,q,_⟩
   ·exact hn hp.1
   ·simp at q
  ·have e1:args.getD t (.v undef)= .v undef:=by simp [SO,S5 (Ug ht)]
   have e2:(vs.toArray++Array.replicate (fn.ntmps - vs.toArray.size) undef).getD t undef=undef:=by
    rw [S3,Ur cZ,UF]
    split<;>rfl
   rw [e1,e2];exact .ro (.v _)
 ·exact⟨g7.refl w _,λb hb=>⟨hb.2,id⟩,rfl,λj o v hm=>by simp at hm,λi j o p v u b hm=>by simp at hm⟩
 ·rintro x a w' ⟨e',mem',θ',hfit,-,hx,r,hψ,hr⟩;have fin:LeavesInM Fence.wide 9 P fn a.tmps (λen w'=>∃ r v,en= .returned v/\ψ r/\R0 (λb=>pr b/\b<w.heap.size) w' r v/\Ext w w') a.defers .returning w':=by
   refine rI hfit.dfr λw2 hc=>?_
   obtain⟨v,h3,h4⟩:=hr _ _ _ w2 {a with defers:= []} ⟨hfit.size,Mks.nil _ _ _,λt=>(hfit.sl t).calm hc,hfit.sim.calm hc⟩;exact⟨v,h3,r,v,rfl,hψ,h4,(hfit.sim.calm hc).ext.sZ⟩
  rcases hx with rfl|rfl
  ·exact fin
  ·exact fin
end
end Go.Proofs.YtfoaiidcfkmneaaGreatDoor
