/- Texts of this claim, one behind the other: lemmas for the statement. -/
import Derived.Test.YtbmlgmblfboigaaGreatDoorT0
import Derived.Test.YtbmlgmblfboigaaGreatDoorM9
import Derived.Test.YtbmlgmblfboigaaGreatDoorA59
import Derived.Test.YtbmlgmblfboigaaGreatDoorM5
import Derived.Test.YtbmlgmblfboigaaGreatDoorM11
import Derived.Test.YtbmlgmblfboigaaGreatDoorM4
import Derived.Test.YtbmlgmblfboigaaGreatDoorM6
import Derived.Test.YtbmlgmblfboigaaGreatDoorM3
set_option maxRecDepth 100000
set_option maxHeartbeats 4000000
set_option linter.unusedSimpArgs false
set_option linter.unusedVariables false
namespace Go.Proofs.YtbmlgmblfboigaaGreatDoor
open Go Go.RowKit Go.Proofs Go.Lib
theorem NI:(Tryz.prog.info? 70).bind (·.zero)=some (.agg #[.int .i64 0,.int .i64 0,.int .i64 0]):=by kernel_rfl
theorem IS:bZ Tryz.prog 70 0 0 true 2:=by unfold bZ;kernel_rfl
theorem IU:bZ Tryz.prog 70 1 2 false 1:=by unfold bZ;kernel_rfl
theorem NJ:(Tryz.prog.info? 70).map (·.size)=some 3:=by kernel_rfl
theorem NK:aN Tryz.prog 29 true 2:=⟨by kernel_rfl,by kernel_rfl⟩
theorem NL:aN Tryz.prog 30 false 1:=⟨by kernel_rfl,by kernel_rfl⟩
theorem Dl:isIf (Tryz.prog.underlying 20)=true:=by kernel_rfl
def dw:List AV:= [.v (.string ⟨#[]⟩),.v (.slice none 0 0),.v (.slice none 0 0),.v (.slice none 0 0)]
theorem Aj(vs:Array Value)(w:World)(hvs:vs.size=3):CallsDIn Fence.wide 8 Tryz.prog 26 vs .returning w λen u' w'=>∃ v,en= .returned v/\u'= .returning /\Ext w w':=by
 refine LL (fn:=Tryz.f26) (K:=3) 17 (by kernel_rfl) rfl (by kernel_rfl) (S8 rfl) (S8 rfl) ?_ _ _ (by assumption);intro e_a al ad;refine uB (λam af=>?_);have ab:=ef 6 af aa;have an:al.length=0:=by rw [ad];rfl
 clear ad af;refine bP<|aj<|at_<|ar (Lx ab Dl) rfl<|aY (ae rfl ab) aa ?_;clear ab;intro ao ag ah
 refine ai<|aW ah (λak=>?_) (λak=>?_)
 ·skip;refine at_<|ar (aw ag) rfl<|lu ?_;clear ag ah;intro ap
  refine cv<|⟨_,lY (by kernel_rfl),?_⟩
  trivial
 ·cases ak
theorem Ak{mem:List Ob}{n:Nat}(hn:mem.length=n){jl jm je:Nat}{cnt col er:Int}(hl:mem[jl]? =some (.box 27 dw))(hm:mem[jm]? =some (.box 29 [mA 0,mA 0]))(he:mem[je]? =some (.box 30 [mA 0]))(h1:jl≠jm)(h2:jl≠je)(h3:jm≠je):
 ve Tryz.prog 26 [.ptr jl 0,.ptr jm 0,.ptr je 0] mem (fw cnt col er) (λm'=>m'[jl]? =some (.box 27 dw)/\m'[jm]? =some (.box 29 [mA cnt,mA col])/\m'[je]? =some (.box 30 [mA er])):=by
 have hln:=cI hl hn;have hmn:=cI hm hn;have hen:=cI he hn;refine LK (fn:=Tryz.f26) 17 (by kernel_rfl) rfl (by kernel_rfl) (S8 rfl) (S8 rfl) ?_;intro e_a av hA an;refine uB (λaz ap=>?_);have aA:=ef 6 ap aa;have aR:ag az (.tmp 0)=_:=ef 0 ap (ae rfl (hA 0 _ rfl));have aS:ag az (.tmp 1)=_:=ef 1 ap (ae rfl (hA 1 _ rfl));have aT:ag az (.tmp 2)=_:=ef 2 ap (ae rfl (hA 2 _ rfl));have aD:av.length=n:=by rw [an];exact hn
 have aE:av[jl]? =_:=(congrArg (λq=>q[jl]?) an).trans hl;simp only [pS,Value.cells,Nat.reduceAdd,dw]at aE;have aU:av[jm]? =_:=(congrArg (λq=>q[jm]?) an).trans hm;have aV:av[je]? =_:=(congrArg (λq=>q[je]?) an).trans he;clear hA an ap;refine bP<|aj<|at_<|ar (Ly aA Dl) rfl<|bV (ae rfl aR) (ae rfl aS) (ae rfl aT) (ae rfl aA) aa ?_;clear aR aS aT aA;intro bK aX aY a2 aF a3
 refine ai<|aW a3 (λa5=>?_) (λa5=>?_)
 ·cases a5
 refine aj<|at_<|ar (Ir yS rfl _ aF) rfl<|ar (cH aa rfl) rfl<|ar (cH (ae rfl aa) rfl) rfl<|ei (ae rfl (u2 rfl aX)) (ae rfl (u2 rfl aY)) (ae rfl (u2 rfl a2)) (ae rfl (u2 rfl aF)) (ae rfl aa) aa ?_;clear aX aY a2 aF a3;intro bL a6 a7 a8 bB a9 ba
 refine ai<|aW a9 (λbb=>?_) (λbb=>?_)
 ·skip;refine aj<|at_<|aL (cu NI rfl aD) trivial rfl (λbM ab=>?_)
  have aw:=bH ab aD;simp only [pS,Value.cells,Nat.reduceAdd,dw]at aw;have be:=aJ ab aE;have bf:=aJ ab aU;have bg:=aJ ab aV;have bC:=bG ab aD;clear ab aE aU aV;refine aL (bN aa (ae rfl ba) rfl rfl aw NJ rfl (au rfl)) trivial rfl (λbO ad=>?_);have aG:=bk ad aw;simp only [pS,Value.cells,Nat.reduceAdd,dw]at aG;have bh:=ao ad be (by omega);have bj:=ao ad bf (by omega);have bm:=ao ad bg (by omega);have aH:=bc ad bC;clear ad aw be bf bg;refine aZ (ay (ae rfl a6)) (ay (ae rfl a7)) (ay (ae rfl a8)) (ay aa) ?_;clear a6 a9 ba a7 a8 bB;intro bQ bn bo bq aI;refine ai<|fW 7 0 aH (by kernel_rfl) (by kernel_rfl) (by kernel_rfl) (by kernel_rfl) (λbR af=>?_)
  have ax:=bp af aG;have aK:=bp af bh;have br:=bp af bj;have bu:=bp af bm;have bD:_=n+1:=fX (K:=0) af aH;clear af aG bh bj bm aH;refine aQ (λM_ hM_=>(dz bY yU yR yP rfl)) trivial ?_;refine aQ (λM_ hM_=>(aB IS rfl (ae rfl aI))) trivial ?_;refine cG (n) (λM_ hM_=>(ak (aC NK rfl (cf hM_ ax (by simp)) aa (au rfl)) (by simp only [pS,Value.cells,Nat.reduceAdd,dw]<;>rfl))) trivial trivial ?_;refine aQ (λM_ hM_=>(aB IU rfl (ae rfl (u2 rfl aI)))) trivial ?_;refine cG (n) (λM_ hM_=>(ak (aC NL rfl (cf hM_ ax (by simp)) aa (au rfl)) (by simp only [pS,Value.cells,Nat.reduceAdd,dw]<;>rfl))) trivial trivial ?_;refine pF (jl) (λM_ hM_=>(nw (ae rfl (u4 rfl bn)) (u4 rfl aa) rfl rfl (cf hM_ aK (by simp)) pK rfl (au rfl))) trivial trivial ⟨.inl (by simp<;>omega),⟨.inl (by simp<;>omega),trivial⟩⟩ (λbS ah=>?_);have aM:=bk ah aK;simp only [pS,Value.cells,Nat.reduceAdd,dw]at aM;have bv:=ao ah ax (by omega);have aN:=ao ah br (by omega);have bw:=ao ah bu (by omega);have bE:=bc ah bD;clear ah ax aK br bu;refine pF (jm) (λM_ hM_=>(nw (ay (ae rfl (u4 rfl bo))) (ay (u2 rfl aa)) rfl rfl (cf hM_ aN (by simp)) u5 rfl (au rfl))) trivial ⟨.inl (by simp<;>omega),trivial⟩ ⟨.inl (by simp<;>omega),⟨.inl (by simp<;>omega),⟨.inl (by simp<;>omega),trivial⟩⟩⟩ (λbT al=>?_);have aO:=bk al aN;simp only [pS,Value.cells,Nat.reduceAdd,dw]at aO;have bx:=ao al aM (by omega);have bz:=ao al bv (by omega);have aP:=ao al bw (by omega);have bF:=bc al bE;clear al aM bv aN bw;refine gj rfl ?_;refine aL (bN (ay (ay (ae rfl (u4 rfl bq)))) (ay (ay aa)) rfl rfl aP rj rfl (au rfl)) trivial rfl (λbU am=>?_);have bA:=bk am aP;simp only [pS,Value.cells,Nat.reduceAdd,dw]at bA;have bI:=ao am aO (by omega);have bJ:=ao am bx (by omega);have bW:=ao am bz (by omega);have bX:=bc am bF;clear am aO bx bz aP;refine lu ?_;clear bn bo bq aI;intro bZ;refine cv<|⟨_,lY (by kernel_rfl),?_⟩
  exact⟨bJ,bI,bA⟩
 ·cases bb
end Go.Proofs.YtbmlgmblfboigaaGreatDoor
namespace Go.Proofs.YtbmlgmblfboigaaGreatDoor
open Go Go.RowKit Go.Proofs Go.Shelf Go.Lib
theorem NM:(Tryz.prog.info? 71).bind (·.zero)=some (.pointer none):=by kernel_rfl
theorem NN:(Tryz.prog.info? 77).bind (·.zero)=some (.agg #[.string ByteArray.empty,.slice none 0 0,.slice none 0 0,.slice none 0 0,.int .i64 0,.slice none 0 0,.string ByteArray.empty,.int .i64 0,.string ByteArray.empty,.map none]):=by kernel_rfl
theorem NQ:Tryz.prog.underlying 77=some (.struct (eB Tryz.prog 77)):=by kernel_rfl
theorem NR:∀ w,((eB Tryz.prog 77).mapM λf=>Prod.mk f.offset<$>sizeOf f.type:Sem (Array (Nat×Nat))).run Tryz.prog w= .ok (#[(0,4),(4,1),(5,1),(6,2),(8,1),(9,1)]) w:=λ_=>by kernel_rfl
theorem A4:∀ args w,(callFunc 26 args).run Tryz.prog w= .ok (.enter 26 args) w:=λ_ _=>by kernel_rfl
theorem J9:∀ args w,(callFunc 27 args).run Tryz.prog w= .ok (.enter 27 args) w:=λ_ _=>by kernel_rfl
theorem Ko:∀ args w,(callFunc 28 args).run Tryz.prog w= .ok (.enter 28 args) w:=λ_ _=>by kernel_rfl
theorem Kp:∀ args w,(callFunc 29 args).run Tryz.prog w= .ok (.enter 29 args) w:=λ_ _=>by kernel_rfl
theorem Kq:∀ args w,(callFunc 30 args).run Tryz.prog w= .ok (.enter 30 args) w:=λ_ _=>by kernel_rfl
theorem Kr:∀ args w,(callFunc 31 args).run Tryz.prog w= .ok (.enter 31 args) w:=λ_ _=>by kernel_rfl
theorem Ks:∀ args w,(callFunc 61 args).run Tryz.prog w= .ok (.enter 61 args) w:=λ_ _=>by kernel_rfl
theorem NS:bI Tryz.prog 73 75 2 24 (.agg #[.string ByteArray.empty,.int .i64 0]):=⟨by kernel_rfl,by kernel_rfl,by kernel_rfl⟩
theorem NT:(Tryz.prog.info? 71).map (·.size)=some 1:=by kernel_rfl
theorem wZ:aN Tryz.prog 27 true 4:=⟨by kernel_rfl,by kernel_rfl⟩
theorem Dm:aN Tryz.prog 29 true 2:=⟨by kernel_rfl,by kernel_rfl⟩
theorem Qh:aN Tryz.prog 3 false 1:=⟨by kernel_rfl,by kernel_rfl⟩
theorem Dn:aN Tryz.prog 30 false 1:=⟨by kernel_rfl,by kernel_rfl⟩
theorem oS:aN Tryz.prog 71 false 1:=⟨by kernel_rfl,by kernel_rfl⟩
theorem NU:aN Tryz.prog 73 false 1:=⟨by kernel_rfl,by kernel_rfl⟩
theorem Ro(l:List UInt8)(hl:l.length<=1000000000):bF Tryz.prog 29 [.v (.string (bs l)),.v (.string ⟨#[10]⟩)] (λq=>q= .v (.string (bs (eJ l)))):=Hh (bs l) ⟨#[10]⟩ (by rw [ib];exact hl)
def GH:Ob->Bool
 | .box _ _=>true
 | .bL _=>true
 | _=>false
theorem KR.not{st:RS}{H:RH}{lo b j:Nat}{mem:List Ob}{o:Ob}(h:eK st H lo mem b)(hj:mem[j]? =some o)(hb:j≠b)(ho:GH o=true):¬ KR H b j:=by
 rintro(rfl|rfl|rfl|rfl|rfl|⟨q,hq,rfl⟩)
 ·exact hb rfl
 ·rw [h.M]at hj;cases hj;cases ho
 ·rw [h.J]at hj;cases hj;cases ho
 ·rw [h.B]at hj;cases hj;cases ho
 ·rw [h.S]at hj;cases hj;cases ho
 ·rw [h.fam.at_ q hq (by omega)]at hj;cases hj;cases ho
theorem eK.set{st:RS}{H:RH}{lo b j:Nat}{mem:List Ob}{T:TypeId}{c:List AV}{o':Ob}(h:eK st H lo mem b)(hj:mem[j]? =some (.box T c))(hb:j≠b):eK st H lo (mem.set j o') b:=by
 have hn:=KR.not h hj hb rfl;have ne:∀ k,KR H b k->j≠k:=λk hk e=>hn (e ▸ hk)
 have keep:∀ {k:Nat} {o:Ob},KR H b k->mem[k]? =some o->(mem.set j o')[k]? =some o:=λhk hm=>by rw [Tz (ne _ hk)];exact hm
 exact⟨keep (.inl rfl) h.box,keep (.inr (.inr (.inl rfl))) h.J,keep (.inr (.inr (.inr (.inl rfl)))) h.B,keep (.inr (.inr (.inr (.inr (.inl rfl))))) h.S,keep (.inr (.inl rfl)) h.M,
  h.fam.lT rfl λq hq _ e=>ne _ (.inr (.inr (.inr (.inr (.inr ⟨q,hq,rfl⟩))))) e.symm,h.keys,h.lo⟩
theorem eK.off{st:RS}{H:RH}{lo b j:Nat}{mem:List Ob}{o:Ob}(h:eK st H lo mem b)(hj:mem[j]? =some o)(hb:j≠b)(ho:GH o=true):H.jM≠j/\H.jJ≠j/\H.jB≠j/\H.jS≠j:=by
 have hn:=KR.not h hj hb ho;exact⟨λe=>hn (.inr (.inl e.symm)),λe=>hn (.inr (.inr (.inl e.symm))),λe=>hn (.inr (.inr (.inr (.inl e.symm)))),λe=>hn (.inr (.inr (.inr (.inr (.inl e.symm)))))⟩
theorem fS.SU{i:Nat}{st:RS}(h:fS i st)(hi:i<=1000000)(la:Wd)(l:List UInt8):zw (cO {st with last:=la} l):=⟨(h.vv hi).js,(h.vv hi).bs,(h.vv hi).ss,(h.vv hi).cs⟩
theorem Sl:aN Tryz.prog 27 true 4:=⟨by kernel_rfl,by kernel_rfl⟩
theorem Sm:aN Tryz.prog 29 true 2:=⟨by kernel_rfl,by kernel_rfl⟩
theorem Sr:aN Tryz.prog 30 false 1:=⟨by kernel_rfl,by kernel_rfl⟩
theorem Am{e:Nat->AV}{m:List Ob}{R:j9}{k c er:Int}(hR:R=⟨zL,k,c,er⟩)(s2:ag e (.tmp 2)= .ptr 1 0)(s3:ag e (.tmp 3)= .ptr 2 0)(s4:ag e (.tmp 4)= .ptr 3 0)(h1:m[1]? =some (.box 27 dw))(h2:m[2]? =some (.box 29 [mA k,mA c]))(h3:m[3]? =some (.box 30 [mA er])):
 gG Tryz.prog 47 Tryz.f7 (λq=>q=jc R) .ret e m:=by
 subst hR;exact zc (.inr rfl) (by kernel_rfl) (eb s2 h1 Sl (by decide) (by simp)) (eb s3 h2 Sm (Tf 2) (by simp)) (eb s4 h3 Sr (Tf 1) (by simp))
  (eV (nO (dx (.ro _ rfl) (dx (.nil 4) (dx (.nil 2) (dx (.nil 3) iD)))))) (eV (.ro _ rfl)) (rB (.ro _ rfl)) rfl
theorem Kt{M0:List Ob}{n:Nat}(hn:M0.length=n){st:RS}{la:Wd}{H:RH}{lo b i:Nat}(hR:eK {st with last:=la} H lo M0 b)(hI:fS i st)(hi:i<=1000000):
 dK Tryz.prog 31 [.ptr b 0] M0 (λr m'=>mP st=⟨st.dL,0,0,0⟩/\r= .tuple []/\bz M0 m' (λ_=>False)) (λv m'=>∃ k c e,mP st=⟨zL,k,c,e⟩/\v=fw k c e/\bz M0 m' (λj=>j=b)):=by
 have hs:eE st.dL:=hI.SX hi;have hcn:=hI.cnt
 by_cases hm:st.js.length=0\/bT st.kind bU=true
 ·refine(Hj hn hR (by show -1000000000<=st.cnt/\st.cnt<=1000000000;rw [hcn];omega) hm).mono (λr m h=>h.elim) (λv m h=>?_);exact⟨st.cnt+1,1,6,by unfold mP;rw [if_pos hm],h.1,h.2⟩
 ·have hj:st.js.length≠0:=λe=>hm (.inl e)
  have hk:bT st.kind bU=false:=by
   cases hq:bT st.kind bU with
   | false=>rfl
   | true=>exact absurd (.inr hq) hm
  by_cases he:(b9 st.dL).2=0
  ·refine(IJ hn hR hs he (λe=>hj (by show st.js.length=0;rw [show st.js= []from e];rfl)) hk).mono (λr m h=>?_) (λv m h=>h.elim);exact⟨by unfold mP;rw [if_neg hm,if_pos he],h.1,h.2⟩
  ·obtain⟨r1,r2,r3⟩:=hI.row hj he;have hne:c8 (oh (b9 st.dL).1.1) st.ks st.cs≠ []:=λe=>by rw [e]at r3;simp at r3;omega
   have hks:H.hs.map (·.1)=st.ks:=hR.keys;rw [<- hks]at hne;obtain⟨q0,h1,h2,h3⟩:=Gt hR.fam.len hne;have h3':c8 (oh (b9 st.dL).1.1) st.ks st.cs=cR st.cs q0:=by rw [<- hks];exact h3
   refine(HY hn hR hs he hj hk r1 q0 h1 h2 r2 (by rw [<- h3'];exact r3)).mono (λr m h=>h.elim) (λv m h=>?_);exact⟨_,1,_,by unfold mP;rw [if_neg hm,if_neg he,h3'];rfl,h.1,h.2⟩
section
variable (es er:Value) (hes:eS es) (her:eS er)
include hes her
theorem Ku(tx:List UInt8)(hl:tx.length<=1000000):gk Tryz.prog (gX es er) 7 [.v (.string (bs tx))] (λq=>q=jc (rI tx)):=by
 have hz:(bs tx).size =tx.length:=rfl
 by_cases hbig:60000<tx.length
 ·rw [rI,if_pos hbig];refine BH (fn:=Tryz.f7) (gX es er) [.ptr 1 0,.ptr 2 0,.ptr 3 0] 47 (by kernel_rfl) rfl (by kernel_rfl) (S8 rfl) (S8 rfl) (λvs w h=>Aj vs w h) A4 ?_;intro cN bS hA a6;have bT:ag cN (.tmp 0)=_:=hA 0 _ rfl;have a7:bS.length=1:=by rw [a6];rfl
  have bU:bS[0]? =some (.bL (gX es er)):=by rw [a6];rfl
  clear hA a6;refine at_<|aL (cu ri rfl a7) trivial rfl (λgE aU=>?_)
  have a8:=bH aU a7;simp only [pS,Value.cells,Nat.reduceAdd]at a8;have bX:=aJ aU bU;have aK:=bG aU a7;have aK:_=2:=aK;clear aU bU;refine aL (cu yN rfl aK) trivial rfl (λgF aM=>?_);have a9:=bH aM aK;simp only [pS,Value.cells,Nat.reduceAdd]at a9;have bZ:=aJ aM a8;have b0:=aJ aM bX;have aN:=bG aM aK;have aN:_=3:=aN;clear aM a8 bX;refine aL (cu yO rfl aN) trivial rfl (λgG aw=>?_);have ba:=bH aw aN;simp only [pS,Value.cells,Nat.reduceAdd]at ba;have b1:=aJ aw a9;have bp:=aJ aw bZ;have b2:=aJ aw b0;have aV:=bG aw aN;have aV:_=4:=aV;clear aw a9 bZ b0;refine aZ (ae rfl (u2 rfl bT)) (u2 rfl aa) (ae rfl aa) aa ?_;clear bT;intro gH bb b6 b7 b8;refine ai<|aj<|at_<|ar (ah bb) rfl<|ar (hH aa rfl eI) rfl<|ar (eM aa al) rfl<|bV (ae rfl (u2 rfl bb)) (ae rfl (u2 rfl b6)) (ae rfl (u2 rfl b7)) (ae rfl (u2 rfl b8)) aa ?_;clear bb b6 b7 b8;intro gI cP bv bw bx b9
  refine ai<|aW b9 (λaO=>?_) (λaO=>?_)
  ·replace aO:=bt aO;refine aj<|at_<|ar (dz bY yU yR yP rfl) rfl ?_
   refine ar (dz bY uY uW uU rfl) rfl ?_;refine aL (bN (u2 rfl bv) (ae rfl aa) rfl rfl bp pK rfl (au rfl)) trivial rfl (λiF bz=>?_);have cQ:=bk bz bp;simp only [pS,Value.cells,Nat.reduceAdd]at cQ;have dG:=ao bz ba (by decide);have cR:=ao bz b1 (by decide);have dH:=ao bz b2 (by decide);have gJ:=bc bz aV;clear bz ba b1 bp b2;refine aL (bN (ay (u2 rfl bw)) (ay aa) rfl rfl cR u5 rfl (au rfl)) trivial rfl (λgK ad=>?_);have bA:=bk ad cR;simp only [pS,Value.cells,Nat.reduceAdd]at bA;have ca:=ao ad cQ (by decide);have bB:=ao ad dG (by decide);have cb:=ao ad dH (by decide);have be:=bc ad gJ;clear ad cQ dG cR dH;refine aL (bN (ay (ay (u2 rfl bx))) al rfl rfl bB rj rfl (au rfl)) trivial rfl (λgL ab=>?_);have bD:=bk ab bB;simp only [pS,Value.cells,Nat.reduceAdd]at bD;have cc:=ao ab bA (by decide);have cd:=ao ab ca (by decide);have cx:=ao ab cb (by decide);have bg:=bc ab be;clear ab bA ca bB cb;refine bq (ay (ay (ay (u2 rfl bv)))) (ay (ay (ay (u2 rfl bw)))) (ay (ay (ay (u2 rfl bx)))) ?_;clear cP bv bw bx b9;intro iG dI dJ dK;refine ai<|aX<|bO<|zc (.inr rfl) (by kernel_rfl) (eb dI cd wZ (au rfl) (by simp)) (eb dJ cc Dm (au rfl) (by simp)) (eb dK bD Dn (au rfl) (by simp)) (eV (nO (dx (.ro _ rfl) (dx (.nil 4) (dx (.nil 2) (dx (.nil 3) iD)))))) (eV (.ro _ rfl)) (rB (.ro _ rfl)) ?_
   clear dI dJ dK bD cc cd cx bg;rfl
  ·replace aO:=bf aO;exfalso;omega
 ·rw [rI,if_neg hbig];obtain⟨R,hR⟩:∃ R,R=ir lA ((dF tx).map eJ):=⟨_,rfl⟩;rw [<- hR];have hI0:PI tx 0 lA R:=⟨hR.symm,TO _,fS.zero⟩;have hll:=IC tx;refine BH (fn:=Tryz.f7) (gX es er) [.ptr 1 0,.ptr 2 0,.ptr 3 0] 47 (by kernel_rfl) rfl (by kernel_rfl) (S8 rfl) (S8 rfl) (λvs w h=>Aj vs w h) A4 ?_;intro cN bS hA a6;have bT:ag cN (.tmp 0)=_:=hA 0 _ rfl;have a7:bS.length=1:=by rw [a6];rfl
  have bU:bS[0]? =some (.bL (gX es er)):=by rw [a6];rfl
  clear hA a6;refine at_<|aL (cu ri rfl a7) trivial rfl (λgE aU=>?_)
  have a8:=bH aU a7;simp only [pS,Value.cells,Nat.reduceAdd,aD,aE,aG,dw]at a8;have bX:=aJ aU bU;have aK:=bG aU a7;have aK:_=2:=aK;clear aU bU;refine aL (cu yN rfl aK) trivial rfl (λgF aM=>?_);have a9:=bH aM aK;simp only [pS,Value.cells,Nat.reduceAdd,aD,aE,aG,dw]at a9;have bZ:=aJ aM a8;have b0:=aJ aM bX;have aN:=bG aM aK;have aN:_=3:=aN;clear aM a8 bX;refine aL (cu yO rfl aN) trivial rfl (λgG aw=>?_);have ba:=bH aw aN;simp only [pS,Value.cells,Nat.reduceAdd,aD,aE,aG,dw]at ba;have b1:=aJ aw a9;have bp:=aJ aw bZ;have b2:=aJ aw b0;have aV:=bG aw aN;have aV:_=4:=aV;clear aw a9 bZ b0;refine aZ (ae rfl (u2 rfl bT)) (u2 rfl aa) (ae rfl aa) aa ?_;clear bT;intro gH bb b6 b7 b8;refine ai<|aj<|at_<|ar (ah bb) rfl<|ar (hH aa rfl eI) rfl<|ar (eM aa al) rfl<|bV (ae rfl (u2 rfl bb)) (ae rfl (u2 rfl b6)) (ae rfl (u2 rfl b7)) (ae rfl (u2 rfl b8)) aa ?_;clear bb b6 b7 b8;intro gI cP bv bw bx b9
  refine ai<|aW b9 (λaO=>?_) (λaO=>?_)
  ·replace aO:=bt aO;exfalso;omega
  replace aO:=bf aO;refine br<|ai ⟨(ax bv (ax bw (ax bx aI))),?_⟩
  refine QM (λiH bE=>?_);have dL:=ef 0 bE (ae rfl cP);have dM:=ef 2 bE (ae rfl bv);have dN:=ef 3 bE (ae rfl bw);have dQ:=ef 4 bE (ae rfl bx);have gM:=ef 9 bE (ae rfl b9);clear bE;refine yA ?_;refine y7 ?_;refine at_<|aL (LF aV) trivial rfl (λgK ad=>?_)
  have dR:=bH ad aV;have bB:=aJ ad ba;have bA:=aJ ad b1;have ca:=aJ ad bp;have cb:=aJ ad b2;have be:=bG ad aV;have be:_=5:=be;clear ad ba b1 bp b2;refine ar (dz (bo aa bY) NN NQ NR rfl) rfl ?_;refine aL (dO aa rfl be) trivial rfl (λgL ab=>?_);have cS:=bH ab be;simp only [pS,Value.cells,Nat.reduceAdd,aD,aE,aG,dw]at cS;have dS:=aJ ab dR;have bD:=aJ ab bB;have cc:=aJ ab bA;have cd:=aJ ab ca;have cx:=aJ ab cb;have bg:=bG ab be;have bg:_=6:=bg;clear ab dR bB bA ca cb;refine aL (cu NM rfl bg) trivial rfl (λiI aY=>?_);have cy:=bH aY bg;simp only [pS,Value.cells,Nat.reduceAdd,aD,aE,aG,dw]at cy;have dT:=aJ aY cS;have dV:=aJ aY dS;have dW:=aJ aY bD;have dX:=aJ aY cc;have dY:=aJ aY cd;have dZ:=aJ aY cx;have cT:=bG aY bg;have cT:_=7:=cT;clear aY cS dS bD cc cd cx;refine aL (bN aa (ae rfl aa) rfl rfl cy NT rfl (au rfl)) trivial rfl (λiJ a2=>?_);have ea:=bk a2 cy;simp only [pS,Value.cells,Nat.reduceAdd,aD,aE,aG,dw]at ea;have ec:=ao a2 dT (by decide);have gN:=ao a2 dV (by decide);have gO:=ao a2 dW (by decide);have gP:=ao a2 dX (by decide);have gQ:=ao a2 dY (by decide);have gR:=ao a2 dZ (by decide);have gS:=bc a2 cT;clear a2 cy dT dV dW dX dY dZ;refine bV (ay (u4 rfl dL)) (ay (u4 rfl dM)) (ay (u4 rfl dN)) (ay (u4 rfl dQ)) (ay aa) ?_;clear dL dM dN dQ gM;intro iK ed ee eg ei ej;refine ai<|yA ?_
  refine yA ?_;refine y7 ?_;refine Pg 2 5 ec rfl (λiL a3=>?_);have gT:=ao a3 ea (by decide);have cU:=bk a3 ec;simp only [UQ,UE]at cU;have gU:=ao a3 gN (by decide);have gV:=ao a3 gO (by decide);have gW:=ao a3 gP (by decide);have gY:=ao a3 gQ (by decide);have gZ:=ao a3 gR (by decide);have cV:=bc a3 gS;clear a3;refine su 59 4 1 cU rfl cV (λiM iN aR aS=>?_);have ek:=bH aR cV;have g0:=ao aS ek (by decide);have en:=aJ aR gT;have g1:=ao aS en (by decide);have eo:=aJ aR cU;have cW:=bk aS eo;simp only [UQ,UE]at cW;have ep:=aJ aR gU;have g2:=ao aS ep (by decide);have eu:=aJ aR gV;have g3:=ao aS eu (by decide);have ev:=aJ aR gW;have g4:=ao aS ev (by decide);have ew:=aJ aR gY;have g5:=ao aS ew (by decide);have ez:=aJ aR gZ;have g6:=ao aS ez (by decide);have eA:=bG aR cV;have cX:_=8:=bc aS eA;clear aR aS eA ek en eo ep eu ev ew ez;refine su 95 2 2 cW rfl cX (λiO iP aP aQ=>?_);have eB:=bH aP cX;have g7:=ao aQ eB (by decide);have eC:=aJ aP g0;have g8:=ao aQ eC (by decide);have eD:=aJ aP g1;have g9:=ao aQ eD (by decide);have eE:=aJ aP cW;have cY:=bk aQ eE;simp only [UQ,UE]at cY;have eF:=aJ aP g2;have hh:=ao aQ eF (by decide);have eG:=aJ aP g3;have hv:=ao aQ eG (by decide);have eH:=aJ aP g4;have hC:=ao aQ eH (by decide);have eL:=aJ aP g5;have hD:=ao aQ eL (by decide);have eN:=aJ aP g6;have hG:=ao aQ eN (by decide);have eO:=bG aP cX;have cZ:_=9:=bc aQ eO;clear aP aQ eO eB eC eD eE eF eG eH eL eN;refine su 97 3 3 cY rfl cZ (λiQ iR aF aH=>?_);have eP:=bH aF cZ;have eQ:=ao aH eP (by decide);have eR:=aJ aF g7;have eS:=ao aH eR (by decide);have eT:=aJ aF g8;have eU:=ao aH eT (by decide);have eW:=aJ aF g9;have eX:=ao aH eW (by decide);have eY:=aJ aF cY;have c7:=bk aH eY;simp only [UQ,UE]at c7;have eZ:=aJ aF hh;have e0:=ao aH eZ (by decide);have e3:=aJ aF hv;have e4:=ao aH e3 (by decide);have e5:=aJ aF hC;have e6:=ao aH e5 (by decide);have e7:=aJ aF hD;have e8:=ao aH e7 (by decide);have e9:=aJ aF hG;have fa:=ao aH e9 (by decide);have fb:=bG aF cZ;have cz:_=10:=bc aH fb;clear aF aH fb eP eR eT eW eY eZ e3 e5 e7 e9;refine at_<|ar (ah ed) rfl<|aL (ig (ic (Mc (bs tx)) [] cz (ax aa aI) (by exact .nil) (by decide) .nil rfl J9) (show _=(.clo (.func 61) [] [.ptr 10 0])from rfl)) trivial rfl (λbF az=>?_)
  have hI:=dE az (S8 rfl) eQ (by decide);have hK:=dE az (S8 rfl) eS (by decide);have hN:=dE az (S8 rfl) eU (by decide);have cA:=dE az (S8 rfl) eX (by decide);have hO:=dE az (S8 rfl) c7 (by decide);have hQ:=dE az (S8 rfl) e0 (by decide);have cB:=dE az (S8 rfl) e4 (by decide);have cC:=dE az (S8 rfl) e6 (by decide);have cD:=dE az (S8 rfl) e8 (by decide);have cE:=dE az (S8 rfl) fa (by decide);have fc:bF[10]? =some _:=jT az (S8 rfl) cz 0 rfl
  (try simp only [Ob.rn,rn,rn.rnL,rho,Tj,Tq,TI,TF,TK,Nat.reduceAdd,Nat.reduceSub,TB,TG,aD,aE,aG,dw]at fc)
  have hU:_=11:=hZ az cz 1 rfl;clear az eQ eS eU eX c7 e0 e4 e6 e8 fa cz;refine bV (u2 rfl ee) (u2 rfl eg) (u2 rfl ei) (u2 rfl ej) aa ?_;clear ed ee eg ei ej;intro iS ce cf cg cF c8;refine ai<|LJ ?_
  refine Jg c8 (Jt tx hl 10) Ks (by exact(by rintro y hy;obtain⟨_,_,rfl⟩:=TW.1 hy;rfl)) (S8 rfl) (S8 rfl) fc (λi mem=>∃ s:(RS×Wd×RH),match s with|⟨st,la,H⟩=>(mem[6]? =bF[6]?)/\(mem[3]? =bF[3]?)/\(mem[2]? =bF[2]?)/\(mem[1]? =bF[1]?)/\(mem[0]? =bF[0]?)/\(∃ n,mem.length=n/\11<=n)/\((PI tx i st R/\eK {st with last:=la} H 0 mem 5))) (by rintro i_ m_ c_ d_ hc_ ⟨⟨st,la,H⟩,ci,ck,cm,cn,co,⟨fd,bI,c9⟩,hinv⟩;exact⟨⟨st,la,H⟩,(ao rfl ci (by decide)),(ao rfl ck (by decide)),(ao rfl cm (by decide)),(ao rfl cn (by decide)),(ao rfl co (by decide)),⟨_,LH bI,c9⟩,⟨hinv.1,hinv.2.set hc_ (by decide)⟩⟩) ⟨⟨lA,⟨⟨#[]⟩,0⟩,⟨4,7,8,9,[]⟩⟩,rfl,rfl,rfl,rfl,rfl,⟨_,hU,by omega⟩,?_⟩ ?_ ?_
  ·exact⟨hI0,⟨hO,hN,hK,hI,hQ,bu.zero _,rfl,by simp⟩⟩
  ·rintro i iT hV hW hY ⟨⟨st,la,H⟩,ci,ck,cm,cn,co,⟨fd,bI,c9⟩,hinv⟩ cG
   (obtain⟨hinv,hRd⟩:=hinv;obtain⟨l,hl',rfl,hll',hi'⟩:=Q3 hY;have hcl:=Md l;have hcn:=hinv.rw'.cnt;have hb:=hRd.box;have hJ:=hRd.J;have hB:=hRd.B;have hS:=hRd.S;have hM:=hRd.M;have hF:=hRd.fam;obtain⟨⟨x1,x2,x3,x4⟩,⟨x5,x6,x7⟩,x8,x9,x10⟩:=hRd.ne)
   have bJ:=ci.trans cA;have bK:=ck.trans cB;have bM:=cm.trans cC;have bQ:=cn.trans cD;have cH:=co.trans cE;have bR:=hb;simp only [pS,Value.cells,Nat.reduceAdd,aD,aE,aG,dw]at bR;have da:=hJ;simp only [pS,Value.cells,Nat.reduceAdd,aD,aE,aG,dw]at da;have db:=hB;simp only [pS,Value.cells,Nat.reduceAdd,aD,aE,aG,dw]at db;have dc:=hS;simp only [pS,Value.cells,Nat.reduceAdd,aD,aE,aG,dw]at dc;have fe:=hM;have ff:=hF;refine uB (λiU a5=>?_);have fg:=ef 2 a5 (u2 rfl ce);have fh:=ef 3 a5 (u2 rfl cf);have fi:=ef 4 a5 (u2 rfl cg);have dd:=ef 5 a5 (u2 rfl cF);have fj:=ef 6 a5 aa;have h6:=ef 17 a5 (u2 rfl c8);have h7:=ef 18 a5 (ae rfl aa);clear a5;refine bP<|aj<|at_<|ar (ak (aC oS rfl bJ dd (au rfl)) (by simp only [pS,Value.cells,Nat.reduceAdd,aD,aE,aG,dw]<;>rfl)) rfl ?_
   refine ar (bC aa) rfl<|ar (aB hP rfl aa) rfl<|ar (ak (aC Qh rfl bR aa (au rfl)) (by simp only [pS,Value.cells,Nat.reduceAdd,aD,aE,aG,dw]<;>rfl)) rfl ?_
   (refine ar (cj aa al ?_) rfl ?_; · (unfold In64;omega))
   refine ar (bC (u4 rfl aa)) rfl<|ar (aB hP rfl aa) rfl<|aL (bN aa (u2 rfl aa) rfl rfl bR il rfl (au rfl)) trivial rfl (λiV af=>?_)
   have cp:=bk af bR;simp only [pS,Value.cells,Nat.reduceAdd,aD,aE,aG,dw]at cp;have de:=ao af bJ (by decide);have fk:=ao af bK (by decide);have fl:=ao af bM (by decide);have fm:=ao af bQ (by decide);have fo:=ao af cH (by decide);have fp:=ao af cG (by decide);have fq:=ao af da (by omega);have fs:=ao af db (by omega);have ft:=ao af dc (by omega);have fu:=ao af fe (by omega);have fw:=bu.ao af ff bR rfl;have h8:=bc af bI;clear af bJ bK bM bQ cH cG bR da db dc fe ff;refine bV (ay (ae rfl (u2 rfl (u4 rfl fg)))) (ay (ae rfl (u2 rfl (u4 rfl fh)))) (ay (ae rfl (u2 rfl (u4 rfl fi)))) (ay (ae rfl (u2 rfl (u4 rfl dd)))) (ay (ae rfl (u2 rfl (u4 rfl fj)))) ?_;clear h6 h7 fg fh fi dd fj;intro iW fx fy fz df fA;refine ai<|aj<|ey 6 (by kernel_rfl) (by kernel_rfl) (by kernel_rfl) (by kernel_rfl) ?_
   refine dr (ak (aC oS rfl de df (au rfl)) (by simp only [pS,Value.cells,Nat.reduceAdd,aD,aE,aG,dw]<;>rfl)) rfl ?_;refine dr (ah (ae rfl fA)) rfl<|dr (bj (ax aa (ax al aI)) rfl (Ro l (by omega)) Kp) rfl ?_
   refine dr (bj (ax aa aI) rfl (Iz (eJ l) (by omega)) Ko) rfl ?_;refine dr (bC (ae rfl (u2 rfl aa))) rfl<|dr (aB iz rfl aa) rfl<|dP<|aL (bN aa (u2 rfl aa) rfl rfl cp F7 rfl (au rfl)) trivial rfl (λh9 am=>?_)
   have cI:=bk am cp;simp only [pS,Value.cells,Nat.reduceAdd,aD,aE,aG,dw]at cI;have cq:=ao am de (by decide);have cr:=ao am fk (by decide);have ct:=ao am fl (by decide);have cw:=ao am fm (by decide);have cJ:=ao am fo (by decide);have dg:=ao am fp (by decide);have fB:=ao am fq (by omega);have fC:=ao am fs (by omega);have fD:=ao am ft (by omega);have fE:=ao am fu (by omega);have fF:=bu.ao am fw cp rfl;have dh:=bc am h8;clear am cp de fk fl fm fo fp fq fs ft fu fw;refine aZ (ay (u2 rfl (u4 rfl fx))) (ay (u2 rfl (u4 rfl fy))) (ay (u2 rfl (u4 rfl fz))) (ay (u2 rfl (u4 rfl df))) ?_;clear fx fy fz df fA;intro iX fG fH fI di;refine ai<|aj<|at_<|ar (ak (aC oS rfl cq di (au rfl)) (by simp only [pS,Value.cells,Nat.reduceAdd,aD,aE,aG,dw]<;>rfl)) rfl ?_
   refine ar (bC aa) rfl<|ar (aB iz rfl aa) rfl<|ar (ak (aC NU rfl cI aa (au rfl)) (by simp only [pS,Value.cells,Nat.reduceAdd,aD,aE,aG,dw]<;>rfl)) rfl ?_
   refine ar (ak (bW aa rfl NS.1) (by simp only [bn]<;>rfl)) rfl ?_;refine ar (eM aa al) rfl<|bV (u2 rfl (u4 rfl fG)) (u2 rfl (u4 rfl fH)) (u2 rfl (u4 rfl fI)) (u2 rfl (u4 rfl di)) aa ?_;clear fG fH fI di;intro iY fK fL fM dj fN
   refine ai<|aW fN (λbh=>?_) (λbh=>?_)
   ·replace bh:=bt bh
    (obtain⟨w0,ws,hwd⟩:∃ w0 ws,eh (eJ l) 0=w0::ws:=(by cases hq_:eh (eJ l) 0 with|nil=>(rw [hq_]at bh;simp at bh)|cons a b=>exact⟨a,b,rfl⟩))
    refine at_<|ar (ak (aC oS rfl cq dj (au rfl)) (by simp only [pS,Value.cells,Nat.reduceAdd,aD,aE,aG,dw]<;>rfl)) rfl ?_
    (have aT:eK (cO {st with last:=la} (eJ l)) H 0 h9 5:=⟨cI,fB,fC,fD,fE,fF,hRd.keys,hRd.lo⟩)
    refine c6 (ML dh aT hes her cJ (hinv.rw'.SU (by omega) la (eJ l)) w0 ws hwd (za (by omega) hwd).1 (za (by omega) hwd).2) (ax aa aI) Kq trivial rfl (λiZ i6 dk=>?_) (λi7 i8 dk=>?_)
    rotate_left
    ·
     repeat (first|refine dU ?_|refine fJ ?_|refine yy ?_)
     (rcases dk with⟨c_,e_,he_,hr_,rfl,hz_⟩;have hst_:=hinv.stop hl' hwd he_ hr_;rw [<- hinv.rw'.cnt]at hst_;exact Fq (Ak rfl (hz_.at_ cw (KR.not aT cw (by decide) rfl)) (hz_.at_ ct (KR.not aT ct (by decide) rfl)) (hz_.at_ cr (KR.not aT cr (by decide) rfl)) (by decide) (by decide) (by decide)) (λm' hm_=>Am hst_ ce cf cg hm_.1 hm_.2.1 hm_.2.2))
    obtain⟨hE,rfl,H2,la2,hR2,bm⟩:=dk;have ia:=bm.at_ cq (KR.not aT cq (by decide) rfl);have ib:=bm.at_ cr (KR.not aT cr (by decide) rfl);have ie:=bm.at_ ct (KR.not aT ct (by decide) rfl);have ih:=bm.at_ cw (KR.not aT cw (by decide) rfl);have ij:=bm.at_ cJ (KR.not aT cJ (by decide) rfl);have ik:=bm.at_ dg (KR.not aT dg (by decide) rfl);obtain⟨ja,im,jb⟩:=bm.len_ dh;refine aZ (u2 rfl fK) (u2 rfl fL) (u2 rfl fM) (u2 rfl dj) ?_;clear fK fN fL fM dj;intro jd je jf jg jh;refine cv<|Fj ik ⟨⟨dt (cO st (eJ l)) w0 ws,la2,H2⟩,(ia.trans cA.symm),(ib.trans cB.symm),(ie.trans cC.symm),(ih.trans cD.symm),(ij.trans cE.symm),⟨_,im,by omega⟩,?_⟩
    (refine⟨hinv.step hl' hwd (za (by omega) hwd).1 hE,?_⟩;have hR3:=hR2;rw [MZ,MY]at hR3;exact hR3)
   replace bh:=bf bh
   (have hwd:eh (eJ l) 0= []:=UP.1 (by omega))
   refine br<|cv<|Fj dg ⟨⟨cO st (eJ l),la,H⟩,(cq.trans cA.symm),(cr.trans cB.symm),(ct.trans cC.symm),(cw.trans cD.symm),(cJ.trans cE.symm),⟨_,dh,by omega⟩,?_⟩
   exact⟨hinv.skip hl' hwd,⟨cI,fB,fC,fD,fE,fF,hRd.keys,hRd.lo⟩⟩
  ·rintro hV hW ⟨⟨st,la,H⟩,ci,ck,cm,cn,co,⟨fd,bI,c9⟩,hinv⟩ cG;have bJ:=ci.trans cA;have bK:=ck.trans cB;have bM:=cm.trans cC;have bQ:=cn.trans cD;have cH:=co.trans cE
   (obtain⟨hinv,hRd⟩:=hinv;rw [TV]at hinv;have hlast:=hinv.last;have hb:=hRd.box;have hJ:=hRd.J;have hB:=hRd.B;have hS:=hRd.S;have hM:=hRd.M;have hF:=hRd.fam;obtain⟨⟨x1,x2,x3,x4⟩,⟨x5,x6,x7⟩,x8,x9,x10⟩:=hRd.ne;obtain⟨u11,u12,u13,u14⟩:=hRd.off bQ (by decide) rfl;obtain⟨u21,u22,u23,u24⟩:=hRd.off bM (by decide) rfl;obtain⟨u31,u32,u33,u34⟩:=hRd.off bK (by decide) rfl)
   have fO:=hb;simp only [pS,Value.cells,Nat.reduceAdd,aD,aE,aG,dw]at fO;have fP:=hJ;simp only [pS,Value.cells,Nat.reduceAdd,aD,aE,aG,dw]at fP;have fQ:=hB;simp only [pS,Value.cells,Nat.reduceAdd,aD,aE,aG,dw]at fQ;have fR:=hS;simp only [pS,Value.cells,Nat.reduceAdd,aD,aE,aG,dw]at fR;have io:=hM;have ip:=hF;refine cv<|ai<|y7 ?_
   refine aj<|at_<|ar (ak (aC oS rfl bJ cF (au rfl)) (by simp only [pS,Value.cells,Nat.reduceAdd,aD,aE,aG,dw]<;>rfl)) rfl ?_
   refine c6 (Kt bI hRd hinv.rw' (by omega)) (ax aa aI) Kr trivial rfl (λji jj dl=>?_) (λjk jl dl=>?_)
   rotate_left
   ·
    repeat (refine dU ?_)
    (rcases dl with⟨k_,c_,e_,hf_,rfl,hz_⟩;exact Fq (Ak rfl (hz_.at_ bQ (by simp)) (hz_.at_ bM (by simp)) (hz_.at_ bK (by simp)) (by decide) (by decide) (by decide)) (λm' hm_=>Am (hlast.trans hf_) (ae rfl ce) (ae rfl cf) (ae rfl cg) hm_.1 hm_.2.1 hm_.2.2))
   obtain⟨hfin,rfl,aA⟩:=dl;have dm:=aA.at_ bJ (λh_=>by(try dsimp only at h_)<;>first|omega|exact h_.elim);have fT:=aA.at_ bK (λh_=>by(try dsimp only at h_)<;>first|omega|exact h_.elim);have fU:=aA.at_ bM (λh_=>by(try dsimp only at h_)<;>first|omega|exact h_.elim);have cK:=aA.at_ bQ (λh_=>by(try dsimp only at h_)<;>first|omega|exact h_.elim);have fV:=aA.at_ cH (λh_=>by(try dsimp only at h_)<;>first|omega|exact h_.elim);have fW:=aA.at_ cG (λh_=>by(try dsimp only at h_)<;>first|omega|exact h_.elim);have dn:=aA.at_ fO (λh_=>by(try dsimp only at h_)<;>first|omega|exact h_.elim);have dp:=aA.at_ fP (λh_=>by(try dsimp only at h_)<;>first|omega|exact h_.elim);have dq:=aA.at_ fQ (λh_=>by(try dsimp only at h_)<;>first|omega|exact h_.elim);have du:=aA.at_ fR (λh_=>by(try dsimp only at h_)<;>first|omega|exact h_.elim);have fX:=aA.at_ io (λh_=>by(try dsimp only at h_)<;>first|omega|exact h_.elim);have fY:=ip.all aA (λq_ h1_ h2_ h_=>h_.elim);obtain⟨jm,iq,jn⟩:=aA.len_ bI;refine aZ (u2 rfl ce) (u2 rfl cf) (u2 rfl cg) (u2 rfl cF) ?_;clear c8 ce cf cg cF;intro jp dv dy dA fZ;refine ai<|aj<|at_<|ar (ak (aC oS rfl dm fZ (au rfl)) (by simp only [pS,Value.cells,Nat.reduceAdd,aD,aE,aG,dw]<;>rfl)) rfl ?_
   refine ar (bC aa) rfl<|ar (aB jo rfl aa) rfl<|ar (ak (aC wZ rfl dn aa (au rfl)) (by simp only [pS,Value.cells,Nat.reduceAdd,aD,aE,aG,dw]<;>rfl)) rfl ?_
   refine ar (dz bY uY uW uU rfl) rfl ?_;refine aL (Ar (ae rfl (u4 rfl dv)) (ae rfl aa) rfl (uC rfl (uD dp (uD dq (uD du Bw)))) cK pK rfl (au rfl)) trivial rfl (λjq an=>?_);have dB:=bk an cK;simp only [pS,Value.cells,Nat.reduceAdd,aD,aE,aG,dw]at dB;have f0:=ao an dm (by decide);have ga:=ao an fT (by decide);have cL:=ao an fU (by decide);have gb:=ao an fV (by decide);have gc:=ao an fW (by decide);have gd:=ao an dn (by decide);have ge:=ao an dp (by omega);have gf:=ao an dq (by omega);have gg:=ao an du (by omega);have gh:=ao an fX (by omega);have gi:=bu.ao an fY cK rfl;have iu:=bc an iq;clear an dm fT fU cK fV fW dn dp dq du fX fY;refine aL (bN (ay (ae rfl (u4 rfl dy))) (ay aa) rfl rfl cL u5 rfl (au rfl)) trivial rfl (λjr ap=>?_);have dC:=bk ap cL;simp only [pS,Value.cells,Nat.reduceAdd,aD,aE,aG,dw]at dC;have gj:=ao ap dB (by decide);have gl:=ao ap f0 (by decide);have cM:=ao ap ga (by decide);have gm:=ao ap gb (by decide);have gn:=ao ap gc (by decide);have gp:=ao ap gd (by decide);have gq:=ao ap ge (by omega);have gr:=ao ap gf (by omega);have gt:=ao ap gg (by omega);have gu:=ao ap gh (by omega);have gv:=bu.ao ap gi cL rfl;have iv:=bc ap iu;clear ap dB f0 ga cL gb gc gd ge gf gg gh gi;refine aL (bN (ay (ay (ae rfl (u4 rfl dA)))) al rfl rfl cM rj rfl (au rfl)) trivial rfl (λjs av=>?_);have dD:=bk av cM;simp only [pS,Value.cells,Nat.reduceAdd,aD,aE,aG,dw]at dD;have gw:=ao av dC (by decide);have gx:=ao av gj (by decide);have iw:=ao av gl (by decide);have ix:=ao av gm (by decide);have iy:=ao av gn (by decide);have iA:=ao av gp (by decide);have gy:=ao av gq (by omega);have gz:=ao av gr (by omega);have gA:=ao av gt (by omega);have iB:=ao av gu (by omega);have iC:=bu.ao av gv cM rfl;have iE:=bc av iv;clear av dC gj gl cM gm gn gp gq gr gt gu gv;refine bq (ay (ay (ay (ae rfl (u4 rfl dv))))) (ay (ay (ay (ae rfl (u4 rfl dy))))) (ay (ay (ay (ae rfl (u4 rfl dA))))) ?_;clear dv dy dA fZ;intro jt gB gC gD;refine ai<|aX<|QN ?_
   refine zc (.inr rfl) (by kernel_rfl) (eb gB gx wZ (au rfl) (by simp)) (eb gC gw Dm (au rfl) (by simp)) (eb gD dD Dn (au rfl) (by simp)) (eV (nO (dx (.ro _ rfl) (dx (.own _ _ _ _ gy) (dx (.own _ _ _ _ gz) (dx (.own _ _ _ _ gA) iD)))))) (eV (.ro _ rfl)) (rB (.ro _ rfl)) ?_;clear gB gC gD dD gw gx iw ix iy iA gy gz gA iB iC iE
   (rw [hlast,hfin];rfl)
end
end Go.Proofs.YtbmlgmblfboigaaGreatDoor
namespace Go.Proofs.YtbmlgmblfboigaaGreatDoor
open Go Go.RowKit Go.Proofs Go.Shelf Go.Lib
theorem wx:∀ args w,(callFunc 43 args).run Tryz.prog w= .ok (.enter 43 args) w:=λ_ _=>by kernel_rfl
theorem Kv:∀ args w,(callFunc 79 args).run Tryz.prog w= .ok (.enter 79 args) w:=λ_ _=>by kernel_rfl
theorem Dp:bI Tryz.prog 23 59 4 32 (.agg #[.int .i64 0,.int .i64 0,.int .i64 0,.int .i64 0]):=⟨by kernel_rfl,by kernel_rfl,by kernel_rfl⟩
theorem w8:bI Tryz.prog 24 95 2 16 (.agg #[.int .i64 0,.int .i64 0]):=⟨by kernel_rfl,by kernel_rfl,by kernel_rfl⟩
theorem Dq:bI Tryz.prog 25 97 3 48 (.agg #[.string ByteArray.empty,.int .i64 0,.slice none 0 0]):=⟨by kernel_rfl,by kernel_rfl,by kernel_rfl⟩
theorem oU:bI Tryz.prog 85 3 1 8 (.int .i64 0):=⟨by kernel_rfl,by kernel_rfl,by kernel_rfl⟩
theorem Dt:aN Tryz.prog 23 false 1:=⟨by kernel_rfl,by kernel_rfl⟩
theorem w9:aN Tryz.prog 24 false 1:=⟨by kernel_rfl,by kernel_rfl⟩
theorem Du:aN Tryz.prog 25 false 1:=⟨by kernel_rfl,by kernel_rfl⟩
theorem mH:aN Tryz.prog 3 false 1:=⟨by kernel_rfl,by kernel_rfl⟩
theorem NV:aN Tryz.prog 59 true 4:=⟨by kernel_rfl,by kernel_rfl⟩
theorem NW:aN Tryz.prog 85 false 1:=⟨by kernel_rfl,by kernel_rfl⟩
theorem EZ:aN Tryz.prog 9 false 1:=⟨by kernel_rfl,by kernel_rfl⟩
theorem NX:aN Tryz.prog 97 true 3:=⟨by kernel_rfl,by kernel_rfl⟩
def kR(ns:List Int):List UInt8:=(ns.map nT).flatten
def lE(ns:List Int)(k:Nat):List UInt8:=((ns.take k).map nT).flatten
theorem NY{ns:List Int}{k:Nat}{n:Int}(h:ns[k]? =some n):lE ns (k+1)=lE ns k++ [32]++itoa n:=by
 unfold lE;rw [U4,h];simp [nT]
theorem E0{ns:List Int}(hi:∀ n∈ns,In64 n)(k:Nat):(lE ns k).length <=22*k:=by
 have:=s6 (s:= []) hi k
 simpa [fj,lE]using this
theorem xY(s:List UInt8)(ns:List Int):rowT s ns=s++kR ns++ [10]:=by simp [rowT,fj,kR]
theorem xZ{ns:List Int}(hi:∀ n∈ns,In64 n):(kR ns).length <=22*ns.length:=by
 have:=E0 hi ns.length
 simpa [kR,lE]using this
theorem xa(ns:List Int)(hn:ns.length<=1000)(hi:∀ n∈ns,In64 n):bF Tryz.prog 43 [.row 1 (ns.map iE)] (λq=>q= .v (.string (bs (kR ns)))):=by
 have w1:(⟨#[32]⟩:ByteArray)=bs [32]:=rfl;have z1:(⟨#[32]⟩:ByteArray).size =1:=rfl;refine ck (fn:=Tryz.f43) 20 (by kernel_rfl) rfl (by kernel_rfl) (S8 rfl) ?_;intro aK aL hA av;have ay:ag aK (.tmp 0)=_:=hA 0 _ rfl;have aM:aL.length=0:=by rw [av];rfl
 clear hA av;refine aj<|at_<|ar (aw al) rfl<|aT (ae rfl ay) ?_;clear ay;intro a2 az
 refine ai<|aj<|at_<|ar (aw al) rfl<|aY (ae rfl az) aa ?_;clear az;intro a3 aA aB
 refine ai<|aj<|aj<|at_<|ar (aw al) rfl<|bq (ae rfl aA) (ae rfl aB) aa ?_;clear aA aB;intro aN aC aO aP
 refine ai<|bP<|dN (S:=(Int×List UInt8)) (λs e mem=>match s with|⟨i,s⟩=>(ag e (.tmp 4)= .v (.int .i64 i))/\(ag e (.tmp 3)= .v (.string (bs s)))/\(ag e (.tmp 0)=ag aN (.tmp 0))/\(mem.length=0)/\((0<=i/\i<=ns.length/\s=lE ns i.toNat))) (λs=>match s with|⟨i,s⟩=>(ns.length - i).toNat) ⟨0,[]⟩ ⟨aP,(aO.trans (by rfl)),rfl,aM,?_⟩ ?_
 ·exact⟨by omega,by omega,by simp [lE]⟩
 ·rintro⟨i,s⟩ a5 a6 ⟨an,aD,aQ,aE,hinv⟩;have ao:=aQ.trans aC
  (obtain⟨p1,p2,p3⟩:=hinv;have hK1:=E0 hi i.toNat;have hz:=ib s;rw [<- p3]at hK1)
  refine aj<|aj<|at_<|ar (ah an) rfl<|ar (ah (ae rfl ao)) rfl<|ar (ak (bW aa rfl oU.1) (by simp only [bn]<;>rfl)) rfl ?_
  refine ar (cL (u2 rfl aa) aa) rfl<|aZ (u4 rfl ao) (u4 rfl aD) (u4 rfl an) aa ?_;clear ao aD an;intro a7 ad af am ap
  refine ai<|aW ap (λab=>?_) (λab=>?_)
  ·replace ab:=bt ab
   (have hmem:ns[i.toNat]? =some (ns.getD i.toNat default):=(by rw [Tc (show i.toNat<ns.length by omega),Ta,Tc (show i.toNat<ns.length by omega)];rfl);have hmi:=hi _ (TD hmem);have hil:=wU hmi;have hz2:=ib (itoa (ns.getD i.toNat default));have hstep:=NY hmem;rw [<- show(i+1).toNat =i.toNat+1 by omega]at hstep)
   refine br<|ai<|aj<|bP<|at_<|ar (ah af) rfl ?_
   (refine ar (fB aa al ?_) rfl ?_; · (simp only [TY,size_mk,Tj,Tq]<;>omega))
   refine ar (ah (u2 rfl ad)) rfl<|ar (ah (ae rfl (u2 rfl am))) rfl<|ar (ak (cr oU (ae rfl aa) aa (by omega) (by(refine cP ?_;omega))) (by simp only [pS,Value.cells,Nat.reduceAdd]<;>rfl)) rfl ?_
   refine ar (ak (bw mH rfl aa (au rfl)) (by simp only [pS,Value.cells,Nat.reduceAdd]<;>rfl)) rfl ?_;refine ar (bj (ax aa aI) rfl (Iw (ns.getD i.toNat default) hmi) Kv) rfl ?_
   (refine ar (fB (ae rfl (u4 rfl aa)) aa ?_) rfl ?_; · (simp only [TY,size_mk,Tj,Tq]<;>omega))
   refine ar (aw aa) rfl<|bq (ae rfl (u8 rfl ad)) aa (ae rfl (u8 rfl am)) ?_;clear ad af am ap;intro a8 aF aG aH
   refine cv<|ai<|at_<|ar (ah aH) rfl ?_
   (refine ar (cj aa al ?_) rfl ?_; · ((unfold In64);omega))
   refine ar (aw aa) rfl<|bq (ae rfl (u2 rfl aF)) (ae rfl (u2 rfl aG)) aa ?_;clear aF aG aH;intro a9 aR aU aV
   refine ai<|⟨⟨i+1,lE ns (i+1).toNat⟩,⟨aV,(aU.trans (by(rw [hstep, <- p3,w1,lS,lS]))),(aR.trans aC.symm),aE,?_⟩,?_⟩
   ·exact⟨by omega,by omega,rfl⟩
   ·((try dsimp only);omega)
  replace ab:=bf ab;refine dD<|b7<|b7<|dC<|ai<|aj<|at_<|ar (ah af) rfl<|ar (aw aa) rfl<|aT aa ?_;clear ad af am ap;intro ba aJ
  refine ai<|aX<|bK (.inr rfl) (by kernel_rfl) (aS aJ) (.ro _ rfl) ?_
  clear aJ aE
  (rw [p3,show i.toNat=ns.length by omega];simp [lE,kR])
def rW(l:aU)(i:Nat):List UInt8:=kP (l.js.getD i default)++(if i<l.bs.length then lC (l.bs.getD i default)else [])
def hG(l:aU)(k:Nat):List UInt8:=kG l++((List.range k).map (rW l)).flatten
theorem xb(l:aU)(k:Nat):hG l (k+1)=hG l k++rW l k:=by
 unfold hG;rw [UJ];simp
theorem ya{l:aU}:∀ k,k<=l.bs.length+1->hG l k=fl l k++(if 0<k/\k - 1<l.bs.length then lC (l.bs.getD (k - 1) default)else [])
 | 0,_=>by simp [hG,fl]
 | k+1,hk=>by
  rw [xb,tg,ya k (by omega),rW,mm]
  by_cases h0:k=0
  ·subst h0;simp
  ·rw [if_pos ⟨by omega,by omega⟩,if_neg h0]
   by_cases h1:k<l.bs.length
   ·rw [if_pos h1,if_pos ⟨by omega,by omega⟩];simp
   ·rw [if_neg h1,if_neg (by omega)];simp
theorem Qi{l:aU}(h:dc l):hG l l.js.length=fx l 0:=by
 rw [ya _ (by rw [h.js];exact Tf _),if_neg (by rw [h.js];omega),wY,Uc]
theorem Qj{l:aU}(h:dc l){k:Nat}(hk:k<=l.js.length):(hG l k).length <=300+200*k:=by
 have h1:=tZ h k hk;have hj:=h.js;rw [ya _ (by omega)];rw [TM]
 split
 ·rename_i h2
  have h3:=qy (s:=ix) (kZ (nZ (h.ba (k - 1) h2.2)));have h4:ix.length=4:=rfl;simp only [lC,Tq,Tj]at h3 ⊢;omega
 ·simp;omega
theorem Rq:(⟨#[108,105,110,101,32]⟩:ByteArray)=bs mj:=rfl
theorem E1:(⟨#[106,111,105,110,116]⟩:ByteArray)=bs jg:=rfl
theorem FZ:(⟨#[98,101,97,109]⟩:ByteArray)=bs ix:=rfl
theorem zl:(⟨#[10]⟩:ByteArray)=bs [10]:=rfl
theorem Qk(t:List UInt8)(s:eu):bs t++(⟨#[115,119,105,116,99,104,32]⟩:ByteArray)++s.nam++bs (kR (s.fst::s.acr))++⟨#[10]⟩=bs (t++na s):=by
 show bs t++bs lB++bs s.nam.data.toList++bs (kR (s.fst::s.acr))++bs [10]=_
 simp only [lS]
 congr 1
 simp [na,xY]
theorem IV(l:aU)(hR:dc l):bF Tryz.prog 14 [ep l] (λq=>q= .v (.string (bs (lD l)))):=by
 have hn1:=hR.n1;have hjs:=hR.js;have hs1:=hR.s1;have hnl0:=uN hR;have hL:mj.length=5:=rfl;have hJ5:jg.length=5:=rfl;have hB4:ix.length=4:=rfl;have hS7:lB.length=7:=rfl;have z0:(⟨#[108,105,110,101,32]⟩:ByteArray).size =5:=rfl;have z1:(⟨#[106,111,105,110,116]⟩:ByteArray).size =5:=rfl;have z2:(⟨#[98,101,97,109]⟩:ByteArray).size =4:=rfl;have z3:(⟨#[115,119,105,116,99,104,32]⟩:ByteArray).size =7:=rfl;have z4:(⟨#[10]⟩:ByteArray).size =1:=rfl;have hst0:(⟨#[108,105,110,101,32]⟩:ByteArray)++l.nam++⟨#[10]⟩=bs (hG l 0):=by
  rw [Rq,zl, <- o8 l.nam,lS,lS]
  congr 1
  simp [hG,kG,rowT,fj,jy]
 refine ck (fn:=Tryz.f14) 90 (by kernel_rfl) rfl (by kernel_rfl) (S8 rfl) ?_;intro cK cM hA b0;have b1:ag cK (.tmp 0)=_:=hA 0 _ rfl;have bz:cM.length=0:=by rw [b0];rfl
 clear hA b0;refine aj<|at_<|aL (dO b1 rfl bz) trivial rfl (λcN bA=>?_)
 have aR:=bH bA bz;have bB:=bG bA bz;have bB:_=1:=bB;clear bA;refine ar (aw al) rfl<|aT (ae rfl aa) ?_;clear b1;intro dn bC
 refine ai<|aj<|at_<|ar (aB mC rfl bC) rfl<|ar (ak (aC EZ rfl aR aa (au rfl)) (by simp only [pS,Value.cells,Nat.reduceAdd,aK,aF,aH]<;>rfl)) rfl ?_
 (refine ar (fB al aa ?_) rfl ?_; · (simp only [TY,size_mk,Tj,Tq]<;>omega))
 (refine ar (fB aa al ?_) rfl ?_; · (simp only [TY,size_mk,Tj,Tq]<;>omega))
 refine ar (aw aa) rfl<|aY (ae rfl (u4 rfl bC)) aa ?_;clear bC;intro dp b2 b6
 refine ai<|aj<|aj<|at_<|ar (aw al) rfl<|bq (ae rfl b2) (ae rfl b6) aa ?_;clear b2 b6;intro cO bD cQ cR
 refine ai<|bP<|dN (S:=(Int×List UInt8)) (λs e mem=>match s with|⟨i,s⟩=>(ag e (.tmp 4)= .v (.int .i64 i))/\(ag e (.tmp 3)= .v (.string (bs s)))/\(ag e (.tmp 1)=ag cO (.tmp 1))/\(mem[0]? =cN[0]?)/\(∃ n,mem.length=n/\1<=n)/\((0<=i/\i<=l.js.length/\s=hG l i.toNat))) (λs=>match s with|⟨i,s⟩=>(l.js.length - i).toNat) ⟨0,hG l 0⟩ ⟨cR,(cQ.trans (by(rw [hst0];done))),rfl,rfl,⟨_,bB,Tf _⟩,?_⟩ ?_
 ·exact⟨by omega,by omega,rfl⟩
 ·rintro⟨i,s⟩ dq cS ⟨bE,b8,cT,cU,⟨cV,aV,dt⟩,hinv⟩;have bI:=cT.trans bD;have ad:=cU.trans aR
  (obtain⟨p1,p2,p3⟩:=hinv;have hK1:=Qj hR (k:=i.toNat) (by omega);have hz:=ib s;rw [<- p3]at hK1)
  refine aj<|aj<|at_<|ar (ah bE) rfl<|ar (aB dW rfl (ae rfl bI)) rfl<|ar (ak (aC Dt rfl ad aa (au rfl)) (by simp only [pS,Value.cells,Nat.reduceAdd,aK,aF,aH]<;>rfl)) rfl ?_
  refine ar (ak (bW aa rfl Dp.1) (by simp only [bn]<;>rfl)) rfl ?_;refine ar (cL (ae rfl (u2 rfl aa)) aa) rfl<|aZ (ae rfl (u4 rfl bI)) (ae rfl (u4 rfl b8)) (ae rfl (u4 rfl bE)) aa ?_;clear bI b8 bE;intro du av a2 a3 bJ
  refine ai<|aW bJ (λaz=>?_) (λaz=>?_)
  ·replace az:=bt az
   (have hjt:=ry (hR.ja i.toNat (by omega));have hnj:=xZ (qz hjt);have hzj:=ib (kR [(l.js.getD i.toNat default).acr,(l.js.getD i.toNat default).up,(l.js.getD i.toNat default).lo,(l.js.getD i.toNat default).hi]);simp only [Tj,Tq]at hnj)
   refine br<|ai<|aj<|bP<|aj<|at_<|ar (aB dW rfl av) rfl<|ar (ak (aC Dt rfl ad aa (au rfl)) (by simp only [pS,Value.cells,Nat.reduceAdd,aK,aF,aH]<;>rfl)) rfl ?_
   refine ar (ah (u2 rfl a3)) rfl<|ar (ak (cr Dp (ae rfl aa) aa (by omega) (by(refine cP ?_;omega))) (by simp only [pS,Value.cells,Nat.reduceAdd,aK,aF,aH]<;>rfl)) rfl ?_
   refine ar (ak (bw NV rfl aa (au rfl)) (by simp only [pS,Value.cells,Nat.reduceAdd,aK,aF,aH]<;>rfl)) rfl ?_;refine aL (cu pJ rfl aV) trivial rfl (λdv a5=>?_);have a6:=bH a5 aV;simp only [pS,Value.cells,Nat.reduceAdd,aK,aF,aH]at a6;have b9:=aJ a5 ad;have cW:=bG a5 aV;clear a5 ad;refine aL (bN aa (ae rfl aa) rfl rfl a6 rl rfl (au rfl)) trivial rfl (λdw a7=>?_);have aA:=bk a7 a6;simp only [pS,Value.cells,Nat.reduceAdd,aK,aF,aH]at aA;have aD:=ao a7 b9 (by omega);have ca:=bc a7 cW;clear a7 a6 b9;refine aZ (ay (u2 rfl (u4 rfl av))) (ay (u2 rfl (u4 rfl a2))) (ay (u2 rfl (u4 rfl a3))) (ay aa) ?_;clear bJ av a2 a3;intro dy cb cc cd aE;refine ai<|aj<|at_<|ar (ah cc) rfl ?_
   (refine ar (fB aa al ?_) rfl ?_; · (simp only [TY,size_mk,Tj,Tq]<;>omega))
   refine ar (aB jR rfl (u2 rfl aE)) rfl<|ar (ak (aC mH rfl aA aa (au rfl)) (by simp only [pS,Value.cells,Nat.reduceAdd,aK,aF,aH]<;>rfl)) rfl ?_
   refine ar (aB oW rfl (u4 rfl aE)) rfl<|ar (ak (aC mH rfl aA aa (au rfl)) (by simp only [pS,Value.cells,Nat.reduceAdd,aK,aF,aH]<;>rfl)) rfl ?_
   refine ar (aB fY rfl (u2 rfl (u4 rfl aE))) rfl<|ar (aB jP rfl aa) rfl<|ar (ak (aC mH rfl aA aa (au rfl)) (by simp only [pS,Value.cells,Nat.reduceAdd,aK,aF,aH]<;>rfl)) rfl ?_
   refine ar (aB fY rfl (ae rfl (u8 rfl aE))) rfl<|ar (aB jQ rfl aa) rfl<|ar (ak (aC mH rfl aA aa (au rfl)) (by simp only [pS,Value.cells,Nat.reduceAdd,aK,aF,aH]<;>rfl)) rfl ?_
   refine ar (dT oU (bo (u8 rfl aa) (bo (u2 rfl (u4 rfl aa)) (bo (ae rfl (u2 rfl aa)) (bo aa bY)))) rfl rfl rfl rfl) rfl<|ar (bj (ax aa aI) rfl (xa [(l.js.getD i.toNat default).acr,(l.js.getD i.toNat default).up,(l.js.getD i.toNat default).lo,(l.js.getD i.toNat default).hi] (by simp) (qz hjt)) wx) rfl ?_
   (refine ar (fB (u4 rfl (u8 rfl aa)) aa ?_) rfl ?_; · (simp only [TY,size_mk,Tj,Tq]<;>omega))
   (refine ar (fB aa al ?_) rfl ?_; · (simp only [TY,size_mk,Tj,Tq]<;>omega))
   refine ar (aw aa) rfl<|bq (ae rfl (u16 rfl cb)) aa (ae rfl (u16 rfl cd)) ?_;clear cb cc cd aE;intro dz bL ce bM
   refine ai<|aj<|at_<|ar (ah bM) rfl<|ar (aB dA rfl (ae rfl bL)) rfl<|ar (ak (aC w9 rfl aD aa (au rfl)) (by simp only [pS,Value.cells,Nat.reduceAdd,aK,aF,aH]<;>rfl)) rfl ?_
   refine ar (ak (bW aa rfl w8.1) (by simp only [bn]<;>rfl)) rfl ?_;refine ar (cL (ae rfl (u2 rfl aa)) aa) rfl<|aZ (ae rfl (u4 rfl bL)) (ae rfl (u4 rfl ce)) (ae rfl (u4 rfl bM)) aa ?_;clear bL ce bM;intro dB af a8 am bO
   refine ai<|aW bO (λaG=>?_) (λaG=>?_)
   ·replace aG:=bt aG
    (have hbt:=nZ (hR.ba i.toNat (by omega));have hnb:=xZ (kZ hbt);have hzb:=ib (kR [(l.bs.getD i.toNat default).len,(l.bs.getD i.toNat default).cant]);simp only [Tj,Tq]at hnb;have hstep:hG l (i+1).toNat =hG l i.toNat++(kP (l.js.getD i.toNat default)++lC (l.bs.getD i.toNat default)):=(by rw [show(i+1).toNat =i.toNat+1 by omega,xb,rW,if_pos (by omega)]))
    refine ey 19 (by kernel_rfl) (by kernel_rfl) (by kernel_rfl) (by kernel_rfl) ?_;refine dr (ah a8) rfl ?_
    (refine dr (fB aa al ?_) rfl ?_; · (simp only [TY,size_mk,Tj,Tq]<;>omega))
    refine dr (aB dA rfl (u2 rfl af)) rfl<|dr (ak (aC w9 rfl aD aa (au rfl)) (by simp only [pS,Value.cells,Nat.reduceAdd,aK,aF,aH]<;>rfl)) rfl ?_
    refine dr (ah (u4 rfl am)) rfl<|dr (ak (cr w8 (ae rfl aa) aa (by omega) (by(refine cP ?_;omega))) (by simp only [pS,Value.cells,Nat.reduceAdd,aK,aF,aH]<;>rfl)) rfl ?_
    refine dr (ak (bR ki rfl aa) (by simp only [pS,Value.cells,Nat.reduceAdd,aK,aF,aH]<;>rfl)) rfl ?_;refine dr (ak (bw mH rfl aa (au rfl)) (by simp only [pS,Value.cells,Nat.reduceAdd,aK,aF,aH]<;>rfl)) rfl ?_;refine dr (aB dA rfl (u8 rfl af)) rfl<|dr (ak (aC w9 rfl aD aa (au rfl)) (by simp only [pS,Value.cells,Nat.reduceAdd,aK,aF,aH]<;>rfl)) rfl ?_
    refine dr (ah (u2 rfl (u8 rfl am))) rfl<|dr (ak (cr w8 (ae rfl aa) aa (by omega) (by(refine cP ?_;omega))) (by simp only [pS,Value.cells,Nat.reduceAdd,aK,aF,aH]<;>rfl)) rfl ?_
    refine dr (ak (bR oY rfl aa) (by simp only [pS,Value.cells,Nat.reduceAdd,aK,aF,aH]<;>rfl)) rfl ?_;refine dr (ak (bw mH rfl aa (au rfl)) (by simp only [pS,Value.cells,Nat.reduceAdd,aK,aF,aH]<;>rfl)) rfl ?_;refine dr (dT oU (bo (u2 rfl (u4 rfl aa)) (bo aa bY)) rfl rfl rfl rfl) rfl<|dr (bj (ax aa aI) rfl (xa [(l.bs.getD i.toNat default).len,(l.bs.getD i.toNat default).cant] (by simp) (kZ hbt)) wx) rfl ?_
    (refine dr (fB (u2 rfl (u4 rfl (u8 rfl aa))) aa ?_) rfl ?_; · (simp only [TY,size_mk,Tj,Tq]<;>omega))
    (refine dr (fB aa al ?_) rfl ?_; · (simp only [TY,size_mk,Tj,Tq]<;>omega))
    refine dr (aw aa) rfl<|dP<|bq (ae rfl (u2 rfl (u16 rfl af))) aa (ae rfl (u2 rfl (u16 rfl am))) ?_;clear af a8 bO am;intro dE cg ci cm
    refine cv<|ai<|at_<|ar (ah cm) rfl ?_
    (refine ar (cj aa al ?_) rfl ?_; · ((unfold In64);omega))
    refine ar (aw aa) rfl<|bq (ae rfl (u2 rfl cg)) (ae rfl (u2 rfl ci)) aa ?_;clear cg ci cm;intro dF cX cY cZ
    refine ai<|⟨⟨i+1,hG l (i+1).toNat⟩,⟨cZ,(cY.trans (by(rw [hstep, <- p3];simp only [E1,FZ,zl,lS];congr 1;simp only [kP,lC,xY,TZ];done))),(cX.trans bD.symm),(aD.trans aR.symm),⟨_,ca,by omega⟩,?_⟩,?_⟩
    ·exact⟨by omega,by omega,rfl⟩
    ·((try dsimp only);omega)
   replace aG:=bf aG
   (have hstep:hG l (i+1).toNat =hG l i.toNat++(kP (l.js.getD i.toNat default)):=(by rw [show(i+1).toNat =i.toNat+1 by omega,xb,rW,if_neg (by omega),Uc]))
   refine br<|cv<|ai<|at_<|ar (ah am) rfl ?_
   (refine ar (cj aa al ?_) rfl ?_; · ((unfold In64);omega))
   refine ar (aw aa) rfl<|bq (ae rfl (u2 rfl af)) (ae rfl (u2 rfl a8)) aa ?_;clear af a8 bO am;intro dG c6 c7 c8
   refine ai<|⟨⟨i+1,hG l (i+1).toNat⟩,⟨c8,(c7.trans (by(rw [hstep, <- p3];simp only [E1,FZ,zl,lS];congr 1;simp only [kP,lC,xY,TZ];done))),(c6.trans bD.symm),(aD.trans aR.symm),⟨_,ca,by omega⟩,?_⟩,?_⟩
   ·exact⟨by omega,by omega,rfl⟩
   ·((try dsimp only);omega)
  replace az:=bf az;have hend:s=fx l (Int.toNat 0):=(by rw [p3,show i.toNat=l.js.length by omega,Qi hR];rfl);refine dD<|b7<|b7<|dC<|ai<|aj<|aj<|at_<|ar (aw al) rfl<|bq (ae rfl av) (ae rfl a2) aa ?_;clear bJ av a2 a3;intro c9 co da db
  refine ai<|bP<|dN (S:=(Int×List UInt8)) (λs e mem=>match s with|⟨k,t⟩=>(ag e (.tmp 6)= .v (.int .i64 k))/\(ag e (.tmp 3)= .v (.string (bs t)))/\(ag e (.tmp 1)=ag c9 (.tmp 1))/\(mem[0]? =cS[0]?)/\(∃ n,mem.length=n/\cV<=n)/\((0<=k/\k<=l.ss.length/\t=fx l k.toNat))) (λs=>match s with|⟨k,t⟩=>(l.ss.length - k).toNat) ⟨0,fx l 0⟩ ⟨db,(da.trans (by(rw [hend];rfl))),rfl,rfl,⟨_,aV,Tf _⟩,?_⟩ ?_
  ·exact⟨by omega,by omega,rfl⟩
  ·rintro⟨k,t⟩ dH dI ⟨bQ,cp,dd,de,⟨ab,a9,dJ⟩,hinv⟩;have bS:=dd.trans co;have aM:=de.trans ad
   (obtain⟨q1,q2,q3⟩:=hinv;have hK2:=qT hR k.toNat (by omega);have hzt:=ib t;rw [<- q3]at hK2)
   refine aj<|aj<|at_<|ar (ah bQ) rfl<|ar (aB eF rfl (ae rfl bS)) rfl<|ar (ak (aC Du rfl aM aa (au rfl)) (by simp only [pS,Value.cells,Nat.reduceAdd,aK,aF,aH]<;>rfl)) rfl ?_
   refine ar (ak (bW aa rfl Dq.1) (by simp only [bn]<;>rfl)) rfl ?_;refine ar (cL (ae rfl (u2 rfl aa)) aa) rfl<|aZ (ae rfl (u4 rfl bS)) (ae rfl (u4 rfl cp)) (ae rfl (u4 rfl bQ)) aa ?_;clear bS cp bQ;intro dK bb be bg bT
   refine ai<|aW bT (λaN=>?_) (λaN=>?_)
   ·replace aN:=bt aN
    (obtain⟨c1,c2,c3⟩:=rz hR (i:=k.toNat) (by omega);have hns:=xZ (kZ c3);have hzs:=ib (kR ((l.ss.getD k.toNat default).fst ::(l.ss.getD k.toNat default).acr));simp only [Tj]at hns;have hsa:=Gv q1 (by omega);have hst:=wX hsa;rw [<- show(k+1).toNat =k.toNat+1 by omega]at hst)
    refine br<|ai<|aj<|bP<|aj<|at_<|ar (aB eF rfl bb) rfl<|ar (ak (aC Du rfl aM aa (au rfl)) (by simp only [pS,Value.cells,Nat.reduceAdd,aK,aF,aH]<;>rfl)) rfl ?_
    refine ar (ah (u2 rfl bg)) rfl<|ar (ak (cr Dq (ae rfl aa) aa (by omega) (by(refine cP ?_;omega))) (by simp only [pS,Value.cells,Nat.reduceAdd,aK,aF,aH]<;>rfl)) rfl ?_
    refine ar (ak (bw NX rfl aa (au rfl)) (by simp only [pS,Value.cells,Nat.reduceAdd,aK,aF,aH]<;>rfl)) rfl ?_;refine aL (cu lU rfl a9) trivial rfl (λdL bh=>?_);have bm:=bH bh a9;simp only [pS,Value.cells,Nat.reduceAdd,aK,aF,aH]at bm;have cq:=aJ bh aM;have df:=bG bh a9;clear bh aM;refine aL (bN aa (ae rfl aa) rfl rfl bm lV rfl (au rfl)) trivial rfl (λdM bu=>?_);have bU:=bk bu bm;simp only [pS,Value.cells,Nat.reduceAdd,aK,aF,aH]at bU;have ct:=ao bu cq (by omega);have aO:=bc bu df;clear bu bm cq;refine aZ (ay (u2 rfl (u4 rfl bb))) (ay (u2 rfl (u4 rfl be))) (ay (u2 rfl (u4 rfl bg))) (ay aa) ?_;clear bb be bT bg;intro dQ cw cx cy bv;refine ai<|fW 12 2 aO (by kernel_rfl) (by kernel_rfl) (by kernel_rfl) (by kernel_rfl) (λcz an=>?_)
    have bx:=bp an bU;have cA:=bp an ct;have bV:cz[ab+1]? =_:=fH an aO 0 rfl rfl;have cB:cz[ab+1+1]? =_:=fH an aO 1 rfl rfl;have dg:_=ab+1+2:=fX (K:=2) an aO;clear an bU ct aO;refine aQ (λM_ hM_=>(ah cx)) trivial ?_
    (refine aQ (λM_ hM_=>(fB aa al ?_)) trivial ?_; · (simp only [TY,size_mk,Tj,Tq]<;>omega))
    refine aQ (λM_ hM_=>(aB kj rfl (u2 rfl bv))) trivial ?_;refine cG (ab) (λM_ hM_=>(ak (aC EZ rfl (cf hM_ bx (by simp)) aa (au rfl)) (by simp only [pS,Value.cells,Nat.reduceAdd,aK,aF,aH]<;>rfl))) trivial trivial ?_
    (refine aQ (λM_ hM_=>(fB (u2 rfl aa) aa ?_)) trivial ?_; · (simp only [TY,size_mk,Tj,Tq]<;>omega))
    refine aQ (λM_ hM_=>(aB hU rfl (ae rfl (u4 rfl bv)))) trivial ?_;refine cG (ab) (λM_ hM_=>(ak (aC mH rfl (cf hM_ bx (by simp)) aa (au rfl)) (by simp only [pS,Value.cells,Nat.reduceAdd,aK,aF,aH]<;>rfl))) trivial trivial ?_;refine lh (ab+1) (λM_ hM_=>(yt oU (bo aa bY) rfl rfl rfl rfl)) trivial bV rfl trivial ⟨.inl (by simp<;>omega),⟨.inl (by simp<;>omega),trivial⟩⟩ (λdR ap=>?_);have cC:=bk ap bV;have bX:=ao ap bx (by omega);have cD:=ao ap cA (by omega);have bZ:=ao ap cB (by omega);have dh:=bc ap dg;clear ap bx cA bV cB;refine aQ (λM_ hM_=>(aB fZ rfl (u8 rfl bv))) trivial ?_;refine cG (ab) (λM_ hM_=>(ak (aC NW rfl (cf hM_ bX (by simp)) aa (au rfl)) (by simp only [pS,Value.cells,Nat.reduceAdd,aK,aF,aH]<;>rfl))) trivial ⟨.inl (by simp<;>omega),trivial⟩ ?_;refine lX (ab+1+1) (ab+1) (λM_ hM_=>(k6 oU rfl (cf hM_ cC (by simp)) (u2 rfl aa) aa (by exact EX _) (by simp only [bn]<;>omega))) trivial bZ rfl ⟨.inr (gi 10 7 (by kernel_rfl)),trivial⟩ ⟨.inl (by simp<;>omega),⟨.inl (by simp<;>omega),⟨.inl (by simp<;>omega),⟨.inl (by simp<;>omega),trivial⟩⟩⟩⟩ ⟨.inl (by simp<;>omega),⟨.inl (by simp<;>omega),⟨.inr (gi 10 7 (by kernel_rfl)),⟨.inl (by simp<;>omega),trivial⟩⟩⟩⟩ (λdS aP=>?_);have cE:=l6 aP bZ;simp only [pS,Value.cells,Nat.reduceAdd,aK,aF,aH]at cE;have dU:=cn aP bX (by omega) (by omega);have di:=cn aP cD (by omega) (by omega);have dj:=lQ aP dh;clear aP cC bX cD bZ;refine cG (ab+1+1) (λM_ hM_=>(wL (ax aa aI) (dx (.own _ _ _ _ (cf hM_ cE (by simp))) iD) rfl (xa ((l.ss.getD k.toNat default).fst ::(l.ss.getD k.toNat default).acr) (by rw [Tj];omega) (kZ c3)) wx)) trivial ⟨.inl (by simp<;>omega),⟨.inl (by simp<;>omega),⟨.inr (gi 11 10 (by kernel_rfl)),trivial⟩⟩⟩ ?_;refine gj rfl ?_
    (refine ar (fB (ae rfl (u2 rfl (u4 rfl aa))) aa ?_) rfl ?_; · (simp only [TY,size_mk,Tj,Tq]<;>omega))
    (refine ar (fB aa al ?_) rfl ?_; · (simp only [TY,size_mk,Tj,Tq]<;>omega))
    refine ar (aw aa) rfl<|bq (ae rfl (u2 rfl (u4 rfl (u8 rfl cw)))) aa (ae rfl (u2 rfl (u4 rfl (u8 rfl cy)))) ?_;clear cw cx cy bv;intro dV cF cH cI
    refine cv<|ai<|at_<|ar (ah cI) rfl ?_
    (refine ar (cj aa al ?_) rfl ?_; · ((unfold In64);omega))
    refine ar (aw aa) rfl<|bq (ae rfl (u2 rfl cF)) (ae rfl (u2 rfl cH)) aa ?_;clear cF cH cI;intro dX dk dl dm
    refine ai<|⟨⟨k+1,fx l (k+1).toNat⟩,⟨dm,(dl.trans (by(rw [hst, <- q3];exact congrArg (λq=>AV.v (.string q)) (Qk _ _)))),(dk.trans co.symm),(di.trans ad.symm),⟨_,dj,by omega⟩,?_⟩,?_⟩
    ·exact⟨by omega,by omega,rfl⟩
    ·((try dsimp only);omega)
   replace aN:=bf aN;refine dD<|b7<|b7<|dC<|ai<|aj<|at_<|ar (ah be) rfl<|ar (aw aa) rfl<|aT aa ?_;clear bb be bT bg;intro dY cJ
   refine ai<|aX<|bK (.inr rfl) (by kernel_rfl) (aS cJ) (.ro _ rfl) ?_
   clear cJ aM a9
   (rw [q3,show k.toNat=l.ss.length by omega];rfl)
end Go.Proofs.YtbmlgmblfboigaaGreatDoor
namespace Go.Proofs.YtbmlgmblfboigaaGreatDoor
open Go Go.RowKit Go.Proofs
theorem IX:∀ args w,(callFunc 102 args).run Tryz.prog w= .ok (.enter 102 args) w:=λ_ _=>by kernel_rfl
theorem IY:∀ args w,(callFunc 121 args).run Tryz.prog w= .ok (.enter 121 args) w:=λ_ _=>by kernel_rfl
theorem IZ:∀ args w,(callFunc 122 args).run Tryz.prog w= .ok (.enter 122 args) w:=λ_ _=>by kernel_rfl
theorem Dv:bI Tryz.prog 24 95 2 16 (.agg #[.int .i64 0,.int .i64 0]):=⟨by kernel_rfl,by kernel_rfl,by kernel_rfl⟩
theorem oV:bI Tryz.prog 85 3 1 8 (.int .i64 0):=⟨by kernel_rfl,by kernel_rfl,by kernel_rfl⟩
theorem Dw:aN Tryz.prog 24 false 1:=⟨by kernel_rfl,by kernel_rfl⟩
theorem qX:aN Tryz.prog 3 false 1:=⟨by kernel_rfl,by kernel_rfl⟩
theorem xc:aN Tryz.prog 85 false 1:=⟨by kernel_rfl,by kernel_rfl⟩
theorem yb(n:Int):bF Tryz.prog 103 [mA n] (λq=>q=dH false):=by
 refine ck (fn:=Tryz.f103) 6 (by kernel_rfl) rfl (by kernel_rfl) (S8 rfl) ?_;intro am an hA ad;have af:ag am (.tmp 0)=_:=hA 0 _ rfl;have ao:an.length=0:=by rw [ad];rfl
 clear hA ad;refine aj<|at_<|ar (aw al) rfl<|aT (ae rfl af) ?_;clear af;intro ap ab
 refine ai<|aj<|at_<|ar (ah ab) rfl<|ar (ah (ae rfl ab)) rfl<|ar (ez (ae rfl aa) aa) rfl<|ar (aw aa) rfl<|aT aa ?_;clear ab;intro au ak
 refine ai<|aX<|bK (.inr rfl) (by kernel_rfl) (aS ak) (.ro _ rfl) ?_
 clear ak ao;simp
theorem Ql(n:Int):bF Tryz.prog 122 [mA n] (λq=>q=dH false):=by
 refine ck (fn:=Tryz.f122) 6 (by kernel_rfl) rfl (by kernel_rfl) (S8 rfl) ?_;intro am an hA ad;have af:ag am (.tmp 0)=_:=hA 0 _ rfl;have ao:an.length=0:=by rw [ad];rfl
 clear hA ad;refine aj<|at_<|ar (aw al) rfl<|aT (ae rfl af) ?_;clear af;intro ap ab
 refine ai<|aj<|at_<|ar (ah ab) rfl<|ar (ah (ae rfl ab)) rfl<|ar (ez (ae rfl aa) aa) rfl<|ar (aw aa) rfl<|aT aa ?_;clear ab;intro au ak
 refine ai<|aX<|bK (.inr rfl) (by kernel_rfl) (aS ak) (.ro _ rfl) ?_
 clear ak ao;simp
theorem Qm(m n:Int):bF Tryz.prog 121 [mA m,mA n] (λq=>q=dH (decide (m<n))):=by
 refine ck (fn:=Tryz.f121) 17 (by kernel_rfl) rfl (by kernel_rfl) (S8 rfl) ?_;intro af av hA ak;have am:ag af (.tmp 0)=_:=hA 0 _ rfl;have an:ag af (.tmp 1)=_:=hA 1 _ rfl;have ay:av.length=0:=by rw [ak];rfl
 clear hA ak;refine aj<|at_<|ar (aw al) rfl<|aY (ae rfl am) (ae rfl an) ?_;clear am an;intro aB ad ao
 refine ai<|aj<|at_<|ar (ah ad) rfl<|ar (bj (ax aa aI) rfl (yb _) xl) rfl<|ar (ah aa) rfl<|bM aa (λab ap=>?_) (λab ap=>?_)
 ·cases ap
 refine az ⟨_,rfl,.inl ab⟩ rfl ?_;refine az ⟨_,rfl,.inl (ae rfl ab)⟩ rfl ?_;refine az ⟨_,rfl,.inl (u2 rfl ab)⟩ rfl ?_;refine ar (bJ (ae rfl (u2 rfl ab)) al) rfl<|ar (ah aa) rfl<|aA (ah (u8 rfl ad)) ⟨_,rfl,aa⟩ rfl ?_
 refine aA (ah (ae rfl (u8 rfl ao))) ⟨_,rfl,(ae rfl aa)⟩ rfl ?_;refine aA (cL (ae rfl aa) aa) ⟨_,rfl,(u2 rfl aa)⟩ rfl ?_;refine ar (bJ (ae rfl (u2 rfl aa)) aa) rfl<|ar (aw aa) rfl<|aT aa ?_;clear ab ad ao;intro aC au
 refine ai<|aX<|bK (.inr rfl) (by kernel_rfl) (aS au) (.ro _ rfl) ?_
 clear au ay;rfl
def qc(xs:List Int)(t:Int)(i:Nat):Prop:=∀ k:Nat,k<i->xs.getD k default<t
def nc(xs:List Int)(t:Int)(i:Nat):Prop:=∀ k:Nat,i<=k->k<xs.length->t<=xs.getD k default
def vy(xs:List Int):Prop:=∀ i j:Nat,i<=j->j<xs.length->xs.getD i default<=xs.getD j default
def eP(xs:List Int)(t:Int):Nat:=(xs.takeWhile (λx=>decide (x<t))).length
theorem ua{t:Int}:∀ {xs:List Int} {i:Nat},i<=xs.length->qc xs t i->nc xs t i->eP xs t=i
 | [],i,h,_,_=>by simp at h;subst h;rfl
 | x::xs,0,_,_,h=>by
  have:=h 0 (Tf _) (by simp);simp at this;simp [eP,show ¬ x<t by omega]
 | x::xs,i+1,h,hb,ha=>by
  have:=hb 0 (by omega);simp at this;have ih:=ua (xs:=xs) (i:=i) (t:=t) (by simpa using h) (λk hk=>by have:=hb (k+1) (by omega);simpa using this) (λk h1 h2=>by have:=ha (k+1) (by omega) (by simpa using h2);simpa using this);unfold eP at ih ⊢;simp [this,ih]
theorem qc.step{xs:List Int}{t:Int}(hs:vy xs){i:Nat}(hi:i<xs.length)(h:xs.getD i default<t):qc xs t (i+1):=λk hk=>by
 have:=hs k i (by omega) hi;omega
theorem nc.step{xs:List Int}{t:Int}(hs:vy xs){i:Nat}(h:t<=xs.getD i default):nc xs t i:=λk h1 h2=>by
 have:=hs i k h1 h2;omega
theorem Kw(xs:List Int)(t:Int)(hs:vy xs)(hl:xs.length<=1000000):bF Tryz.prog 102 [.row 1 (xs.map iE),mA t] (λq=>q= .tuple [mA (eP xs t),dH (decide (eP xs t<xs.length/\xs.getD (eP xs t) default=t))]):=by
 refine ck (fn:=Tryz.f102) 54 (by kernel_rfl) rfl (by kernel_rfl) (S8 rfl) ?_;intro a6 bC hA a7;have a8:ag a6 (.tmp 0)=_:=hA 0 _ rfl;have a9:ag a6 (.tmp 1)=_:=hA 1 _ rfl;have bE:bC.length=0:=by rw [a7];rfl
 clear hA a7;refine aj<|at_<|ar (aw al) rfl<|ar (aw al) rfl<|aY (u2 rfl a8) (u2 rfl a9) ?_;clear a8 a9;intro b0 aL ba
 refine ai<|aj<|at_<|ar (ah aL) rfl<|ar (ak (bW aa rfl oV.1) (by simp only [bn]<;>rfl)) rfl ?_
 refine ar (aw aa) rfl<|bq (ae rfl (u2 rfl aL)) (ae rfl (u2 rfl ba)) aa ?_;clear aL ba;intro b1 bb bc aM
 refine ai<|aj<|at_<|ar (ah aM) rfl<|ar (aw al) rfl<|ar (aw (ae rfl aa)) rfl<|bV (ae rfl (u2 rfl bb)) (ae rfl (u2 rfl bc)) (ae rfl (u2 rfl aM)) (ae rfl aa) aa ?_;clear bb bc aM;intro aN aO aP aQ bG bH
 refine ai<|aj<|bP<|dN (S:=(Int×Int)) (λs e mem=>match s with|⟨i,j⟩=>(ag e (.tmp 7)= .v (.int .i64 i))/\(ag e (.tmp 8)= .v (.int .i64 j))/\(ag e (.tmp 0)=ag aN (.tmp 0))/\(ag e (.tmp 1)=ag aN (.tmp 1))/\(ag e (.tmp 6)=ag aN (.tmp 6))/\(mem.length=0)/\((0<=i/\i<=j/\j<=xs.length/\qc xs t i.toNat/\nc xs t j.toNat))) (λs=>match s with|⟨i,j⟩=>(j - i).toNat) ⟨_,_⟩ ⟨bG,bH,rfl,rfl,rfl,bE,?_⟩ ?_
 ·(exact⟨by omega,by omega,by omega,λk hk=>absurd hk (by simp),λk h1 h2=>absurd h1 (by omega)⟩)
 ·rintro⟨i,j⟩ b2 b6 ⟨aR,aT,bI,bK,bL,av,hinv⟩;have be:=bI.trans aO;have bg:=bK.trans aP;have bh:=bL.trans aQ
  (obtain⟨p1,p2,p3,p4,p5⟩:=hinv)
  refine aj<|aj<|at_<|ar (ah aR) rfl<|ar (ah (ae rfl aT)) rfl<|ar (cL (ae rfl aa) aa) rfl<|ei (ae rfl (u2 rfl be)) (ae rfl (u2 rfl bg)) (ae rfl (u2 rfl bh)) (ae rfl (u2 rfl aR)) (ae rfl (u2 rfl aT)) aa ?_;clear be bg bh aR aT;intro b8 am an ao af ap ay
  refine ai<|aW ay (λaB=>?_) (λaB=>?_)
  ·replace aB:=bt aB;refine br<|ai<|bP<|aj<|at_<|ar (ah af) rfl<|ar (ah (ae rfl ap)) rfl ?_
   (refine ar (cj (ae rfl aa) aa ?_) rfl ?_; · ((unfold In64);omega))
   (refine ar (uE aa (by kernel_rfl) (by kernel_rfl) ?_) rfl ?_; · ((unfold dp);omega))
   refine ar (pH (c:=2) aa al (by decide) (by decide)) rfl ?_
   (refine ar (Ff aa (by kernel_rfl) (by kernel_rfl) ?_) rfl ?_; · ((unfold In64);omega))
   refine ar (aw aa) rfl<|ei (ae rfl (u2 rfl (u4 rfl am))) (ae rfl (u2 rfl (u4 rfl an))) (ae rfl (u2 rfl (u4 rfl ao))) (ae rfl (u2 rfl (u4 rfl af))) (ae rfl (u2 rfl (u4 rfl ap))) aa ?_;clear am ay an ao af ap;intro b9 aU aV bk bm bo aZ
   refine ai<|aj<|at_<|ar (ah aU) rfl<|ar (ah (ae rfl aZ)) rfl<|ar (ak (cr oV (ae rfl aa) aa (by omega) (by(refine cP ?_;omega))) (by simp only [pS,Value.cells,Nat.reduceAdd]<;>rfl)) rfl ?_
   refine ar (ak (bw qX rfl aa (au rfl)) (by simp only [pS,Value.cells,Nat.reduceAdd]<;>rfl)) rfl ?_;refine ar (ah (u4 rfl aV)) rfl<|ar (bj (ax (ae rfl aa) (ax aa aI)) rfl (Qm _ _) IY) rfl<|gZ (u2 rfl (u4 rfl aU)) (u2 rfl (u4 rfl aV)) (u2 rfl (u4 rfl bk)) (u2 rfl (u4 rfl bm)) (u2 rfl (u4 rfl bo)) (u2 rfl (u4 rfl aZ)) aa ?_;clear aU aV bk bm bo aZ;intro ca aG aH aJ a2 a3 aK a5
   refine ai<|aW a5 (λaC=>?_) (λaC=>?_)
   ·replace aC:=bt aC;refine at_<|ar (ah aK) rfl ?_
    (refine ar (cj aa al ?_) rfl ?_; · ((unfold In64);omega))
    refine ar (aw aa) rfl<|bV (ae rfl (u2 rfl aG)) (ae rfl (u2 rfl aH)) (ae rfl (u2 rfl aJ)) aa (ae rfl (u2 rfl a3)) ?_;clear aG aH a5 aJ a2 a3 aK;intro cb bN bO bQ bR bS
    refine cv<|ai<|⟨⟨_,_⟩,⟨bR,bS,(bN.trans aO.symm),(bO.trans aP.symm),(bQ.trans aQ.symm),av,?_⟩,?_⟩
    ·(have hk:xs.getD ((i+j)/2).toNat default<t:=(by assumption);refine⟨by omega,by omega,by omega,?_,p5⟩;rw [show((i+j)/2+1).toNat =((i+j)/2).toNat +1 by omega];exact qc.step hs (by omega) hk)
    ·((try dsimp only);omega)
   replace aC:=bf aC;refine at_<|ar (ah aK) rfl<|ar (aw aa) rfl<|bV (u2 rfl aG) (u2 rfl aH) (u2 rfl aJ) (u2 rfl a2) aa ?_;clear aG aH a5 aJ a2 a3 aK;intro cc bT bU bX bY bZ
   refine cv<|ai<|⟨⟨_,_⟩,⟨bY,bZ,(bT.trans aO.symm),(bU.trans aP.symm),(bX.trans aQ.symm),av,?_⟩,?_⟩
   ·(have hk:t<=xs.getD ((i+j)/2).toNat default:=(by omega);exact⟨by omega,by omega,by omega,p4,nc.step hs hk⟩)
   ·((try dsimp only);omega)
  replace aB:=bf aB;refine dD<|b7<|b7<|dC<|ai<|aj<|at_<|ar (ah af) rfl<|ar (ah (ae rfl af)) rfl<|ar (ah (u2 rfl ao)) rfl<|ar (cL (ae rfl aa) aa) rfl<|ar (ah aa) rfl<|bM aa (λab aD=>?_) (λab aD=>?_)
  ·replace aD:=bt aD;refine aA (ah (ae rfl (u4 rfl am))) ⟨_,rfl,ab⟩ rfl ?_;refine aA (ah (u2 rfl (u4 rfl af))) ⟨_,rfl,(ae rfl ab)⟩ rfl ?_;refine aA (ak (cr oV (ae rfl aa) aa (by omega) (by(refine cP ?_;omega))) (by simp only [pS,Value.cells,Nat.reduceAdd]<;>rfl)) ⟨_,rfl,(u2 rfl ab)⟩ rfl ?_;refine aA (ak (bw qX rfl aa (au rfl)) (by simp only [pS,Value.cells,Nat.reduceAdd]<;>rfl)) ⟨_,rfl,(ae rfl (u2 rfl ab))⟩ rfl ?_;refine aA (ah (ae rfl (u8 rfl an))) ⟨_,rfl,(u4 rfl ab)⟩ rfl ?_;refine aA (eH (ae rfl aa) aa) ⟨_,rfl,(ae rfl (u4 rfl ab))⟩ rfl ?_;refine aA (ah aa) ⟨_,rfl,(u2 rfl (u4 rfl ab))⟩ rfl ?_;refine bM aa (λad aE=>?_) (λad aE=>?_)
   ·replace aE:=bt aE;refine az ⟨_,rfl,.inl ad⟩ rfl ?_;refine az ⟨_,rfl,.inl (ae rfl ad)⟩ rfl ?_;refine az ⟨_,rfl,.inl (u2 rfl ad)⟩ rfl ?_;refine az ⟨_,rfl,.inl (ae rfl (u2 rfl ad))⟩ rfl ?_;refine az ⟨_,rfl,.inl (u4 rfl ad)⟩ rfl ?_;refine az ⟨_,rfl,.inl (ae rfl (u4 rfl ad))⟩ rfl ?_;refine az ⟨_,rfl,.inr aa⟩ rfl ?_;refine az ⟨_,rfl,.inr (ae rfl aa)⟩ rfl ?_;refine az ⟨_,rfl,.inl (u8 rfl ad)⟩ rfl ?_;refine aA (bD (ae rfl (u8 rfl ad)) al) ⟨_,rfl,(u16 rfl ab)⟩ rfl ?_;refine ar (bD (ae rfl (u16 rfl ab)) aa) rfl<|ar (aw (u2 rfl (u4 rfl (u16 rfl aa)))) rfl<|ar (aw (ae rfl aa)) rfl<|aY (ae rfl aa) aa ?_;clear ab ad am ay an ao af ap;intro cd bp bu
    refine ai<|aX<|dX (.inr rfl) (by kernel_rfl) (aS bp) (aS bu) (.ro _ rfl) (.ro _ rfl) ?_
    clear bp bu av
    (have hlo:=ua (by omega) p4 (show nc xs t i.toNat by rwa [show i.toNat=j.toNat by omega]);have hi:((i.toNat:Nat):Int)=i:=(by omega);rw [hlo,hi];refine congrArg (λb=>AV.tuple [mA i,dH b]) ?_;symm;(exact decide_eq_true ⟨by omega,by assumption⟩))
   replace aE:=bf aE;refine aA (ah (u4 rfl (u8 rfl am))) ⟨_,rfl,ad⟩ rfl ?_;refine aA (ah (ae rfl (u4 rfl (u8 rfl af)))) ⟨_,rfl,(ae rfl ad)⟩ rfl ?_;refine aA (ak (cr oV (ae rfl aa) aa (by omega) (by(refine cP ?_;omega))) (by simp only [pS,Value.cells,Nat.reduceAdd]<;>rfl)) ⟨_,rfl,(u2 rfl ad)⟩ rfl ?_;refine aA (ak (bw qX rfl aa (au rfl)) (by simp only [pS,Value.cells,Nat.reduceAdd]<;>rfl)) ⟨_,rfl,(ae rfl (u2 rfl ad))⟩ rfl ?_;refine aA (bj (ax aa aI) rfl (Ql _) IZ) ⟨_,rfl,(u4 rfl ad)⟩ rfl ?_;refine aA (ah aa) ⟨_,rfl,(ae rfl (u4 rfl ad))⟩ rfl ?_;refine bM aa (λaF bv=>?_) (λaF bv=>?_)
   ·cases bv
   refine az ⟨_,rfl,.inl aF⟩ rfl ?_;refine az ⟨_,rfl,.inl (ae rfl aF)⟩ rfl ?_;refine aA (bJ (u2 rfl aF) al) ⟨_,rfl,(u8 rfl ad)⟩ rfl ?_;refine aA (bJ (ae rfl (u8 rfl ad)) aa) ⟨_,rfl,(u16 rfl ab)⟩ rfl ?_;refine ar (bD (ae rfl (u16 rfl ab)) aa) rfl<|ar (aw (u2 rfl (u4 rfl (u16 rfl aa)))) rfl<|ar (aw (ae rfl aa)) rfl<|aY (ae rfl aa) aa ?_;clear ab ad aF am ay an ao af ap;intro ce bx bz
   refine ai<|aX<|dX (.inr rfl) (by kernel_rfl) (aS bx) (aS bz) (.ro _ rfl) (.ro _ rfl) ?_
   clear bx bz av
   (have hlo:=ua (by omega) p4 (show nc xs t i.toNat by rwa [show i.toNat=j.toNat by omega]);have hi:((i.toNat:Nat):Int)=i:=(by omega);rw [hlo,hi];refine congrArg (λb=>AV.tuple [mA i,dH b]) ?_;symm;(exact decide_eq_false (λh=>absurd h.2 (by assumption))))
  replace aD:=bf aD;refine az ⟨_,rfl,.inl ab⟩ rfl ?_;refine az ⟨_,rfl,.inl (ae rfl ab)⟩ rfl ?_;refine az ⟨_,rfl,.inl (u2 rfl ab)⟩ rfl ?_;refine az ⟨_,rfl,.inl (ae rfl (u2 rfl ab))⟩ rfl ?_;refine az ⟨_,rfl,.inl (u4 rfl ab)⟩ rfl ?_;refine az ⟨_,rfl,.inl (ae rfl (u4 rfl ab))⟩ rfl ?_;refine az ⟨_,rfl,.inl (u2 rfl (u4 rfl ab))⟩ rfl ?_;refine az ⟨_,rfl,.inr aa⟩ rfl ?_;refine az ⟨_,rfl,.inr (ae rfl aa)⟩ rfl ?_;refine az ⟨_,rfl,.inr (u2 rfl aa)⟩ rfl ?_;refine az ⟨_,rfl,.inr (ae rfl (u2 rfl aa))⟩ rfl ?_;refine az ⟨_,rfl,.inr (u4 rfl aa)⟩ rfl ?_;refine az ⟨_,rfl,.inr (ae rfl (u4 rfl aa))⟩ rfl ?_;refine az ⟨_,rfl,.inr aa⟩ rfl ?_;refine az ⟨_,rfl,.inr (ae rfl aa)⟩ rfl ?_;refine az ⟨_,rfl,.inr (u8 rfl aa)⟩ rfl ?_;refine az ⟨_,rfl,.inl (u16 rfl ab)⟩ rfl ?_;refine ar (bJ (ae rfl (u16 rfl ab)) al) rfl<|ar (aw (u2 rfl (u4 rfl (u16 rfl aa)))) rfl<|ar (aw (ae rfl aa)) rfl<|aY (ae rfl aa) aa ?_;clear ab am ay an ao af ap;intro cf bA bB
  refine ai<|aX<|dX (.inr rfl) (by kernel_rfl) (aS bA) (aS bB) (.ro _ rfl) (.ro _ rfl) ?_
  clear bA bB av
  (have hlo:=ua (by omega) p4 (show nc xs t i.toNat by rwa [show i.toNat=j.toNat by omega]);have hi:((i.toNat:Nat):Int)=i:=(by omega);rw [hlo,hi];refine congrArg (λb=>AV.tuple [mA i,dH b]) ?_;symm;(exact decide_eq_false (λh=>by have:=h.1;omega)))
def fP(bs:List fu)(p:Int):Nat->Nat
 | 0=>0
 | n+1=>if ca bs n<=p then n else fP bs p n
theorem ub{bs:List fu}{p:Int}(h0:0<=p):∀ {n:Nat},1<=n->fP bs p n<n/\ca bs (fP bs p n)<=p/\ ∀ j:Nat,fP bs p n<j->j<n->p<ca bs j
 | n+1,_=>by
  simp only [fP]
  by_cases h:ca bs n<=p
  ·rw [if_pos h];exact⟨by omega,h,λj h1 h2=>by omega⟩
  ·rw [if_neg h];rcases Us n with hn|hn
   ·subst hn;simp [ca]at h;omega
   ·obtain⟨h1,h2,h3⟩:=ub (bs:=bs) h0 (n:=n) hn;refine⟨by omega,h2,λj h4 h5=>?_⟩
    by_cases hj:j=n
    ·subst hj;omega
    ·exact h3 j h4 (by omega)
theorem dc.mono{l:aU}(h:dc l){i:Nat}:∀ {j:Nat},i<=j->j<=l.bs.length->ca l.bs i+1000*((j:Int) - i)<=ca l.bs j
 | 0,h1,_=>by
  obtain rfl:i=0:=by omega
  omega
 | j+1,h1,h2=>by
  by_cases hij:i=j+1
  ·subst hij;omega
  ·have:=h.mono (i:=i) (j:=j) (by omega) (by omega);have:=h.jf j (by omega);simp only [ca];omega
theorem yc{l:aU}(h:dc l){p:Int}{i:Nat}(hi:i<l.bs.length)(h1:ca l.bs i<=p)(h2:i+1<l.bs.length->p<ca l.bs (i+1)):fP l.bs p l.bs.length=i:=by
 have h0:0<=p:=by have:=(h.oy (n:=i) (by omega)).1;omega
 obtain⟨b1,b2,b3⟩:=ub (bs:=l.bs) h0 (n:=l.bs.length) h.n0;rcases Nat.lt_trichotomy (fP l.bs p l.bs.length) i with hlt|he|hgt
 ·have:=b3 i hlt hi;omega
 ·exact he
 ·have:=h.mono (i:=i+1) (j:=fP l.bs p l.bs.length) (by omega) (by omega);have:=h2 (by omega);omega
theorem dc.S0{l:aU}(h:dc l):vy (eR l.bs l.bs.length):=λi j hij hj=>by
 rw [nC]at hj;rw [jO (by omega),jO (by omega)];have:=h.mono hij (by omega);omega
theorem Qn{xs:List Int}{t:Int}:eP xs t<=xs.length/\qc xs t (eP xs t)/\(eP xs t<xs.length->t<=xs.getD (eP xs t) default):=by
 induction xs with
 | nil=>exact⟨by simp [eP],λk hk=>by simp [eP]at hk,λh=>by simp [eP]at h⟩
 | cons x xs ih=>
  obtain⟨h1,h2,h3⟩:=ih
  by_cases hx:x<t
  ·have e:eP (x::xs) t=eP xs t+1:=by simp [eP,hx]
   rw [e];refine⟨by simp;omega,λk hk=>?_,λh=>?_⟩
   ·cases k with
    | zero=>simpa using hx
    | succ k=>have:=h2 k (by omega);simpa using this
   ·have:=h3 (by simp at h;omega);simpa using this
  ·have e:eP (x::xs) t=0:=by simp [eP,hx]
   rw [e];exact⟨by simp,λk hk=>by omega,λ_=>by simp;omega⟩
theorem Ss{l:aU}(h:dc l){p:Int}(h0:0<=p)(h1:p<=ca l.bs l.bs.length)(i:Nat)(hi:i=eP (eR l.bs l.bs.length) p):i<=l.bs.length/\(i<l.bs.length+1->(eR l.bs l.bs.length).getD i default=ca l.bs i)/\
 (ca l.bs i=p->(fP l.bs p l.bs.length:Int)=min (i:Int) (l.bs.length - 1))/\(ca l.bs i≠p->1<=i/\(fP l.bs p l.bs.length:Int)=min ((i:Int) - 1) (l.bs.length - 1)):=by
 subst hi;obtain⟨a1,a2,a3⟩:=Qn (xs:=eR l.bs l.bs.length) (t:=p);rw [nC]at a1 a3;have hn0:=h.n0;have hile:eP (eR l.bs l.bs.length) p<=l.bs.length:=by
  rcases TN (eP (eR l.bs l.bs.length) p) (l.bs.length+1)with h2|h2
  ·omega
  ·have:=a2 l.bs.length (by omega);rw [jO (Tf _)]at this;omega
 have a4:=a3 (by omega);rw [jO hile]at a4;have low:∀ k:Nat,k<eP (eR l.bs l.bs.length) p->ca l.bs k<p:=λk hk=>by
  have:=a2 k hk;rwa [jO (by omega)]at this
 generalize hi:eP (eR l.bs l.bs.length) p=i at*;refine⟨hile,λh=>jO (by omega),λhe=>?_,λhne=>?_⟩
 ·by_cases hlast:i=l.bs.length
  ·have hb:fP l.bs p l.bs.length=l.bs.length - 1:=yc h (by omega) (by have:=low (l.bs.length - 1) (by omega);omega) (λhh=>by omega);rw [hb];omega
  ·have hb:fP l.bs p l.bs.length=i:=yc h (by omega) (by omega) (λhh=>by have:=h.mono (i:=i) (j:=i+1) (by omega) (by omega);omega);rw [hb];omega
 ·have hi1:1<=i:=by
   rcases Us i with h2|h2
   ·rw [h2]at hne a4;simp only [ca]at hne a4;omega
   ·exact h2
  have hb:fP l.bs p l.bs.length=i - 1:=yc h (by omega) (by have:=low (i - 1) (by omega);omega) (λhh=>by rw [show i - 1+1=i by omega];omega);rw [hb];exact⟨hi1,by omega⟩
theorem Su(l:aU)(h:dc l)(p:Int)(h0:0<=p)(h1:p<=ca l.bs l.bs.length):bF Tryz.prog 82 [jd l,mA p] (λq=>q= .tuple [mA (fP l.bs p l.bs.length),mA (p - ca l.bs (fP l.bs p l.bs.length))]):=by
 refine ck (fn:=Tryz.f82) 40 (by kernel_rfl) rfl (by kernel_rfl) (S8 rfl) ?_;intro aA a2 hA aB;have aC:ag aA (.tmp 0)=_:=hA 0 _ rfl;have aD:ag aA (.tmp 1)=_:=hA 1 _ rfl;have aE:a2.length=0:=by rw [aB];rfl
 clear hA aB;have hn1:=h.n1;have hn0:=h.n0;have hpl:=nC (bs:=l.bs) (n:=l.bs.length);have hpb:=h.oy (n:=l.bs.length) (Tf _);obtain⟨g1,g2,g3,g4⟩:=Ss h h0 h1 _ rfl;obtain⟨b1,_,_⟩:=ub (bs:=l.bs) h0 (n:=l.bs.length) h.n0;have hbp:=h.oy (n:=fP l.bs p l.bs.length) (by omega);refine aj<|at_<|ar (aw al) rfl<|ar (aw al) rfl<|aY (u2 rfl aC) (u2 rfl aD) ?_;clear aC aD;intro a3 an ao
 refine ai<|aj<|at_<|ar (ah an) rfl<|ar (fh aa) rfl<|ar (ak (bR kV rfl aa) (by simp only [pS,Value.cells,Nat.reduceAdd]<;>rfl)) rfl ?_
 refine ar (ak (bw xc rfl aa (au rfl)) (by simp only [pS,Value.cells,Nat.reduceAdd]<;>rfl)) rfl ?_;refine ar (ah (u4 rfl ao)) rfl<|ar (bj (ax (ae rfl aa) (ax aa aI)) rfl (Kw _ _ h.S0 (by omega)) IX) rfl ?_
 refine ar (ah aa) rfl<|ar (cH aa rfl) rfl<|ar (cH (ae rfl aa) rfl) rfl<|ar (aw (ae rfl aa)) rfl<|ar (aw (ae rfl aa)) rfl<|aZ (ae rfl (u2 rfl (u8 rfl an))) (ae rfl (u2 rfl (u8 rfl ao))) (ae rfl aa) aa ?_;clear an ao;intro a5 aF aG aH aJ
 refine ai<|aj<|aj<|at_<|ar (ah aJ) rfl<|ar (di aa) rfl<|aZ (u2 rfl aF) (u2 rfl aG) (u2 rfl aH) aa ?_;clear aF aG aH aJ;intro a6 ab af am ap
 refine ai<|aW ap (λad=>?_) (λad=>?_)
 ·replace ad:=dR ad
  (have hf:¬ (eP (eR l.bs l.bs.length) p<(eR l.bs l.bs.length).length /\(eR l.bs l.bs.length).getD (eP (eR l.bs l.bs.length) p) default=p):=(by assumption);have e1:=(g4 (λhe=>hf ⟨by omega,by rw [g2 (by omega)];exact he⟩)).2)
  refine at_<|ar (ah am) rfl ?_
  (refine ar (eL aa al ?_) rfl ?_; · (unfold In64;omega))
  refine ar (aw aa) rfl<|bq (ae rfl (u2 rfl ab)) (ae rfl (u2 rfl af)) aa ?_;clear ab ap af am;intro a7 av aK aL
  refine ai<|aj<|at_<|ar (ah aL) rfl<|ar (ah (ae rfl av)) rfl<|ar (fh aa) rfl<|ar (ak (bR iy rfl aa) (by simp only [pS,Value.cells,Nat.reduceAdd]<;>rfl)) rfl ?_
  refine ar (ak (bR dA rfl aa) (by simp only [pS,Value.cells,Nat.reduceAdd]<;>rfl)) rfl ?_;refine ar (ak (bw Dw rfl aa (au rfl)) (by simp only [pS,Value.cells,Nat.reduceAdd]<;>rfl)) rfl ?_;refine ar (ak (bW aa rfl Dv.1) (by simp only [bn]<;>rfl)) rfl ?_
  (refine ar (eL aa al ?_) rfl ?_; · (unfold In64;omega))
  refine ar (uv (ae rfl (u2 rfl (u4 rfl aa))) aa) rfl<|ar (aw aa) rfl<|bq (u2 rfl (u8 rfl av)) (u2 rfl (u8 rfl aK)) aa ?_;clear av aK aL;intro a8 aM aN ay
  refine ai<|aj<|ey 12 (by kernel_rfl) (by kernel_rfl) (by kernel_rfl) (by kernel_rfl) ?_
  refine dr (ah ay) rfl<|dr (ah (ae rfl aN)) rfl<|dr (ah (u2 rfl aM)) rfl<|dr (fh aa) rfl<|dr (ak (bR kV rfl aa) (by simp only [pS,Value.cells,Nat.reduceAdd]<;>rfl)) rfl ?_
  refine dr (ak (bw xc rfl aa (au rfl)) (by simp only [pS,Value.cells,Nat.reduceAdd]<;>rfl)) rfl ?_;refine dr (ah (u2 rfl (u4 rfl ay))) rfl<|dr (ak (cr oV (ae rfl aa) aa (by omega) (by(refine cP ?_;omega))) (by simp only [pS,Value.cells,Nat.reduceAdd]<;>rfl)) rfl ?_
  refine dr (ak (bw qX rfl aa (au rfl)) (by simp only [pS,Value.cells,Nat.reduceAdd]<;>rfl)) rfl ?_;refine dr (uu (ae rfl (u2 rfl (u4 rfl aa))) aa) rfl<|dr (aw (ae rfl (u8 rfl aa))) rfl<|dr (aw (ae rfl aa)) rfl<|dP<|aY (ae rfl aa) aa ?_;clear aM aN ay;intro a9 aO aP
  refine ai<|aX<|dX (.inr rfl) (by kernel_rfl) (aS aO) (aS aP) (.ro _ rfl) (.ro _ rfl) ?_
  clear aO aP aE
  (rw [<- e1,Td,jO (by omega),wrap_in (by unfold In64;omega)])
 replace ad:=dG ad
 (have hf:(eP (eR l.bs l.bs.length) p<(eR l.bs l.bs.length).length /\(eR l.bs l.bs.length).getD (eP (eR l.bs l.bs.length) p) default=p):=(by assumption);have e1:=g3 (by rw [<- g2 (by omega)];exact hf.2))
 refine br<|ai<|aj<|at_<|ar (ah am) rfl<|ar (ah (ae rfl ab)) rfl<|ar (fh aa) rfl<|ar (ak (bR iy rfl aa) (by simp only [pS,Value.cells,Nat.reduceAdd]<;>rfl)) rfl ?_
 refine ar (ak (bR dA rfl aa) (by simp only [pS,Value.cells,Nat.reduceAdd]<;>rfl)) rfl ?_;refine ar (ak (bw Dw rfl aa (au rfl)) (by simp only [pS,Value.cells,Nat.reduceAdd]<;>rfl)) rfl ?_;refine ar (ak (bW aa rfl Dv.1) (by simp only [bn]<;>rfl)) rfl ?_
 (refine ar (eL aa al ?_) rfl ?_; · (unfold In64;omega))
 refine ar (uv (ae rfl (u2 rfl (u4 rfl aa))) aa) rfl<|ar (aw aa) rfl<|bq (u2 rfl (u8 rfl ab)) (u2 rfl (u8 rfl af)) aa ?_;clear ab ap af am;intro ba aQ aR az
 refine ai<|aj<|ey 12 (by kernel_rfl) (by kernel_rfl) (by kernel_rfl) (by kernel_rfl) ?_
 refine dr (ah az) rfl<|dr (ah (ae rfl aR)) rfl<|dr (ah (u2 rfl aQ)) rfl<|dr (fh aa) rfl<|dr (ak (bR kV rfl aa) (by simp only [pS,Value.cells,Nat.reduceAdd]<;>rfl)) rfl ?_
 refine dr (ak (bw xc rfl aa (au rfl)) (by simp only [pS,Value.cells,Nat.reduceAdd]<;>rfl)) rfl ?_;refine dr (ah (u2 rfl (u4 rfl az))) rfl<|dr (ak (cr oV (ae rfl aa) aa (by omega) (by(refine cP ?_;omega))) (by simp only [pS,Value.cells,Nat.reduceAdd]<;>rfl)) rfl ?_
 refine dr (ak (bw qX rfl aa (au rfl)) (by simp only [pS,Value.cells,Nat.reduceAdd]<;>rfl)) rfl ?_;refine dr (uu (ae rfl (u2 rfl (u4 rfl aa))) aa) rfl<|dr (aw (ae rfl (u8 rfl aa))) rfl<|dr (aw (ae rfl aa)) rfl<|dP<|aY (ae rfl aa) aa ?_;clear aQ aR az;intro bb aT aV
 refine ai<|aX<|dX (.inr rfl) (by kernel_rfl) (aS aT) (aS aV) (.ro _ rfl) (.ro _ rfl) ?_
 clear aT aV aE
 (rw [<- e1,Td,jO (by omega),wrap_in (by unfold In64;omega)])
theorem E2{m:Int}(hm: -4000000000000000000<=m/\m<=4000000000000000000)(n:Int): -4000000000000000000<=m.tdiv n/\m.tdiv n<=4000000000000000000:=by
 have:=Int.natAbs_tdiv_le_natAbs m n;omega
theorem fL{x y:Int}(X Y:Nat)(hx:x.natAbs<=X)(hy:y.natAbs<=Y):(x*y).natAbs <=X*Y:=by rw [Int.natAbs_mul];exact Nat.mul_le_mul hx hy
theorem bB(n:Nat):((n:Int)+1).toNat =n+1:=by omega
def cY(l:aU)(p:Int):Nat:=fP l.bs p l.bs.length
def fy(l:aU)(p:Int):Int:=p - ca l.bs (cY l p)
theorem vg{l:aU}(h:dc l){p:Int}(hp:0<=p/\p<=ca l.bs l.bs.length):cY l p<l.bs.length/\0<=fy l p/\fy l p<=(l.bs.getD (cY l p) default).len :=by
 obtain⟨b1,b2,b3⟩:=ub (bs:=l.bs) hp.1 (n:=l.bs.length) h.n0;refine⟨b1,by unfold fy cY;omega,?_⟩;unfold fy cY
 by_cases hn:fP l.bs p l.bs.length+1<l.bs.length
 ·have:=b3 _ (Nat.lt_succ_self _) hn;simp only [ca]at this;omega
 ·have he:l.bs.length=fP l.bs p l.bs.length+1:=by omega
  have h2:=hp.2;have key:∀ n b:Nat,n=b+1->ca l.bs n=ca l.bs b+(l.bs.getD b default).len :=λn b h=>by subst h;rfl
  have:=key _ _ he;omega
theorem F2(l:aU)(h:dc l)(p:Int)(hp:0<=p/\p<=ca l.bs l.bs.length):bF Tryz.prog 82 [jd l,mA p] (λq=>q= .tuple [mA (cY l p),mA (fy l p)]):=Su l h p hp.1 hp.2
theorem tl:bI Tryz.prog 23 59 4 32 (.agg #[.int .i64 0,.int .i64 0,.int .i64 0,.int .i64 0]):=⟨by kernel_rfl,by kernel_rfl,by kernel_rfl⟩
theorem Dx:bI Tryz.prog 24 95 2 16 (.agg #[.int .i64 0,.int .i64 0]):=⟨by kernel_rfl,by kernel_rfl,by kernel_rfl⟩
theorem tm:aN Tryz.prog 23 false 1:=⟨by kernel_rfl,by kernel_rfl⟩
theorem Dy:aN Tryz.prog 24 false 1:=⟨by kernel_rfl,by kernel_rfl⟩
theorem pw:aN Tryz.prog 3 false 1:=⟨by kernel_rfl,by kernel_rfl⟩
abbrev uA(n:Int):AV:=.v (.int .u64 n)
theorem Kx(x y:Int):x*y=(x/4294967296)*(y/4294967296)*18446744073709551616+(x/4294967296)*(y%4294967296)*4294967296+(x%4294967296)*(y/4294967296)*4294967296+(x%4294967296)*(y%4294967296):=by
 have h1:x=(x/4294967296)*4294967296+x%4294967296:=by omega
 have h2:y=(y/4294967296)*4294967296+y%4294967296:=by omega
 generalize x/4294967296=b at*;generalize x%4294967296=a at*;generalize y/4294967296=d at*;generalize y%4294967296=c at*;subst h1 h2;have e1:b*4294967296*(d*4294967296)=b*d*18446744073709551616:=by
  rw [UR, <- UR 4294967296 d,Int.mul_comm 4294967296 d,UR d, <- UR b d];rfl
 have e2:b*4294967296*c=b*c*4294967296:=by rw [UR,Int.mul_comm 4294967296 c, <- UR]
 have e3:a*(d*4294967296)=a*d*4294967296:=by rw [<- UR]
 rw [Int.add_mul,Int.mul_add,Int.mul_add,e1,e2,e3];omega
theorem uf{a c:Int}(h1:0<=a/\a<4294967296)(h2:0<=c/\c<4294967296):0<=a*c/\a*c<=18446744065119617025:=by
 have:=fL 4294967295 4294967295 (x:=a) (y:=c) (by omega) (by omega);have:=Int.mul_nonneg h1.1 h2.1;omega
theorem NZ(x y:Int)(hx:dp x)(hy:dp y):bF Tryz.prog 89 [uA x,uA y] (λq=>q= .tuple [uA (x*y/18446744073709551616),uA (x*y%18446744073709551616)]):=by
 refine ck (fn:=Tryz.f89) 51 (by kernel_rfl) rfl (by kernel_rfl) (S8 rfl) ?_;intro av bB hA ax;have ay:ag av (.tmp 0)=_:=hA 0 _ rfl;have az:ag av (.tmp 1)=_:=hA 1 _ rfl;have bC:bB.length=0:=by rw [ax];rfl
 clear hA ax;have hx':=hx;have hy':=hy;unfold dp at hx' hy';have q1:=uf (a:=x%4294967296) (c:=y%4294967296) (by omega) (by omega);have q2:=uf (a:=x/4294967296) (c:=y%4294967296) (by omega) (by omega);have q3:=uf (a:=x%4294967296) (c:=y/4294967296) (by omega) (by omega);have q4:=uf (a:=x/4294967296) (c:=y/4294967296) (by omega) (by omega);have hm:=Kx x y;refine aj<|at_<|ar (aw al) rfl<|ar (aw al) rfl<|aY (u2 rfl ay) (u2 rfl az) ?_;clear ay az;intro bD ab aA
 refine ai<|aj<|at_<|ar (ah ab) rfl ?_
 (refine ar (xz (c:=4294967296) aa al 32 (by decide) (by decide) (by decide) ?_) rfl ?_; · ((unfold dp);omega))
 refine ar (aw aa) rfl<|bq (ae rfl (u2 rfl ab)) (ae rfl (u2 rfl aA)) aa ?_;clear ab aA;intro bE ad aB aC
 refine ai<|aj<|at_<|ar (ah ad) rfl<|ar (pH (c:=4294967296) aa al (by decide) (by decide)) rfl ?_
 refine ar (aw aa) rfl<|aZ (ae rfl (u2 rfl ad)) (ae rfl (u2 rfl aB)) (ae rfl (u2 rfl aC)) aa ?_;clear ad aB aC;intro bG aD af aE aF
 refine ai<|aj<|at_<|ar (ah af) rfl ?_
 (refine ar (xz (c:=4294967296) aa al 32 (by decide) (by decide) (by decide) ?_) rfl ?_; · ((unfold dp);omega))
 refine ar (aw aa) rfl<|bV (ae rfl (u2 rfl aD)) (ae rfl (u2 rfl af)) (ae rfl (u2 rfl aE)) (ae rfl (u2 rfl aF)) aa ?_;clear aD af aE aF;intro bH aG ak aH aI aJ
 refine ai<|aj<|at_<|ar (ah ak) rfl<|ar (pH (c:=4294967296) aa al (by decide) (by decide)) rfl ?_
 refine ar (aw aa) rfl<|ei (ae rfl (u2 rfl aG)) (ae rfl (u2 rfl ak)) (ae rfl (u2 rfl aH)) (ae rfl (u2 rfl aI)) (ae rfl (u2 rfl aJ)) aa ?_;clear aG ak aH aI aJ;intro bI aK aL am aM an aN
 refine ai<|aj<|at_<|ar (ah am) rfl<|ar (ah (ae rfl an)) rfl ?_
 (refine ar (tC (ae rfl aa) aa ?_) rfl ?_; · ((unfold dp);omega))
 refine ar (aw aa) rfl<|gZ (u4 rfl aK) (u4 rfl aL) (u4 rfl am) (u4 rfl aM) (u4 rfl an) (u4 rfl aN) aa ?_;clear aK aL am aM an aN;intro bJ aO aP aQ ao aR aT aU
 refine ai<|aj<|at_<|ar (ah ao) rfl<|ar (ah (ae rfl aR)) rfl ?_
 (refine ar (tC (ae rfl aa) aa ?_) rfl ?_; · ((unfold dp);omega))
 refine ar (ah (ae rfl (u2 rfl aU))) rfl<|ar (pH (c:=4294967296) aa al (by decide) (by decide)) rfl ?_
 (refine ar (tB (u2 rfl aa) aa ?_) rfl ?_; · ((unfold dp);omega))
 refine ar (aw aa) rfl<|ei (ae rfl (u2 rfl (u4 rfl aO))) (ae rfl (u2 rfl (u4 rfl aP))) (ae rfl (u2 rfl (u4 rfl aQ))) (ae rfl (u2 rfl (u4 rfl ao))) (ae rfl (u2 rfl (u4 rfl aT))) aa ?_;clear aO aU aP aQ ao aR aT;intro bK aV aW a2 a3 a5 ap
 refine ai<|aj<|at_<|ar (ah ap) rfl ?_
 (refine ar (xz (c:=4294967296) aa al 32 (by decide) (by decide) (by decide) ?_) rfl ?_; · ((unfold dp);omega))
 refine ar (aw aa) rfl<|gZ (ae rfl (u2 rfl aV)) (ae rfl (u2 rfl aW)) (ae rfl (u2 rfl a2)) (ae rfl (u2 rfl a3)) (ae rfl (u2 rfl a5)) (ae rfl (u2 rfl ap)) aa ?_;clear aV ap aW a2 a3 a5;intro bL a6 a7 a8 a9 ba bb bc
 refine ai<|aj<|at_<|ar (ah bb) rfl<|ar (pH (c:=4294967296) aa al (by decide) (by decide)) rfl ?_
 refine ar (aw aa) rfl<|gZ (ae rfl (u2 rfl a6)) (ae rfl (u2 rfl a7)) (ae rfl (u2 rfl a8)) (ae rfl (u2 rfl a9)) (ae rfl (u2 rfl ba)) (ae rfl (u2 rfl bc)) aa ?_;clear a6 bb bc a7 a8 a9 ba;intro bM be bf bg bh au bj bk
 refine ai<|aj<|at_<|ar (ah bj) rfl<|ar (ah (ae rfl bg)) rfl<|ar (ah (u2 rfl au)) rfl ?_
 (refine ar (tC (ae rfl aa) aa ?_) rfl ?_; · ((unfold dp);omega))
 (refine ar (tB (ae rfl (u2 rfl aa)) aa ?_) rfl ?_; · ((unfold dp);omega))
 refine ar (aw aa) rfl<|ei (u2 rfl (u4 rfl be)) (u2 rfl (u4 rfl bf)) (u2 rfl (u4 rfl bh)) (u2 rfl (u4 rfl au)) aa (u2 rfl (u4 rfl bk)) ?_;clear be bj bk bf bg bh au;intro bN bm bn bo bp br bu
 refine ai<|aj<|at_<|ar (ah bo) rfl<|ar (ah (ae rfl bp)) rfl ?_
 (refine ar (tC (ae rfl aa) aa ?_) rfl ?_; · ((unfold dp);omega))
 refine ar (ah (ae rfl (u2 rfl bu))) rfl ?_
 (refine ar (tB (ae rfl aa) aa ?_) rfl ?_; · ((unfold dp);omega))
 refine ar (ah (ae rfl (u4 rfl br))) rfl<|ar (pH (c:=4294967296) aa al (by decide) (by decide)) rfl ?_
 (refine ar (tB (u2 rfl aa) aa ?_) rfl ?_; · ((unfold dp);omega))
 refine ar (aw aa) rfl<|bq (ae rfl (u8 rfl bm)) (ae rfl (u8 rfl bn)) aa ?_;clear bm br bu bn bo bp;intro bO bv bw bx
 refine ai<|aj<|at_<|ar (ah bv) rfl<|ar (ah (ae rfl bw)) rfl<|ar (yn (ae rfl aa) aa) rfl<|ar (aw aa) rfl<|aY (u4 rfl bx) aa ?_;clear bv bw bx;intro bP bz bA
 refine ai<|aX<|dX (.inr rfl) (by kernel_rfl) (aS bz) (aS bA) (.ro _ rfl) (.ro _ rfl) ?_
 clear bz bA bC
 (rw [Lt];refine congrArg (λa=>AV.tuple [uA a,uA (x*y%18446744073709551616)]) ?_;omega)
theorem Ky(lo y:Int)(hl:dp lo)(hy:dp y)(h0:0<y):bF Tryz.prog 90 [uA 0,uA lo,uA y] (λq=>q= .tuple [uA (lo/y),uA (lo%y)]):=by
 refine ck (fn:=Tryz.f90) 135 (by kernel_rfl) rfl (by kernel_rfl) (S8 rfl) ?_;intro ak aL hA ax;have ay:ag ak (.tmp 0)=_:=hA 0 _ rfl;have az:ag ak (.tmp 1)=_:=hA 1 _ rfl;have aA:ag ak (.tmp 2)=_:=hA 2 _ rfl;have aM:aL.length=0:=by rw [ax];rfl
 clear hA ax;have hl':=hl;have hy':=hy;unfold dp at hl' hy';refine aj<|at_<|ar (aw al) rfl<|ar (aw al) rfl<|bq (u2 rfl ay) (u2 rfl az) (u2 rfl aA) ?_;clear ay az aA;intro aO aB aC am
 refine ai<|aj<|aj<|at_<|ar (ah am) rfl<|ar (eH aa al) rfl ?_
 refine aZ (u2 rfl aB) (u2 rfl aC) (u2 rfl am) aa ?_;clear aB aC am;intro aP an aD ao aE;refine ai<|aW aE (λab=>?_) (λab=>?_)
 ·replace ab:=bt ab;exfalso;omega
 replace ab:=bf ab;refine br<|ai<|aj<|aj<|at_<|ar (ah ao) rfl<|ar (ah (ae rfl an)) rfl<|ar (fD (ae rfl aa) aa) rfl<|aZ (ae rfl (u2 rfl an)) (ae rfl (u2 rfl aD)) (ae rfl (u2 rfl ao)) aa ?_;clear an aD aE ao;intro aQ ap aF aG aH
 refine ai<|aW aH (λad=>?_) (λad=>?_)
 ·replace ad:=bt ad;exfalso;omega
 replace ad:=bf ad;refine br<|ai<|aj<|aj<|at_<|ar (ah ap) rfl<|ar (eH aa al) rfl ?_
 refine aZ (u2 rfl ap) (u2 rfl aF) (u2 rfl aG) aa ?_;clear ap aF aH aG;intro aR aN au av aI;refine ai<|aW aI (λaf=>?_) (λaf=>?_)
 ·replace af:=bt af;refine aj<|ey 8 (by kernel_rfl) (by kernel_rfl) (by kernel_rfl) (by kernel_rfl) ?_
  refine dr (ah au) rfl<|dr (ah (ae rfl av)) rfl ?_
  (refine dr (OV (ae rfl aa) aa (by omega) ?_) rfl ?_; · ((unfold dp);omega))
  refine dr (ah (ae rfl (u2 rfl au))) rfl<|dr (ah (u4 rfl av)) rfl ?_
  (refine dr (OW (ae rfl aa) aa (by omega) ?_) rfl ?_; · ((unfold dp);omega))
  refine dr (aw (ae rfl (u2 rfl aa))) rfl<|dr (aw (ae rfl aa)) rfl<|dP<|aY (ae rfl aa) aa ?_;clear aN au aI av;intro aT aJ aK
  refine ai<|aX<|bO<|dX (.inr rfl) (by kernel_rfl) (aS aJ) (aS aK) (.ro _ rfl) (.ro _ rfl) ?_
  clear aJ aK aM;rfl
 ·replace af:=bf af;exfalso;omega
theorem I0(m n:Int):bF Tryz.prog 88 [mA m,mA n] (λq=>q=mA (if m<n then -1 else if n<m then 1 else 0)):=by
 refine ck (fn:=Tryz.f88) 20 (by kernel_rfl) rfl (by kernel_rfl) (S8 rfl) ?_;intro az a3 hA aA;have aB:ag az (.tmp 0)=_:=hA 0 _ rfl;have aC:ag az (.tmp 1)=_:=hA 1 _ rfl;have af:a3.length=0:=by rw [aA];rfl
 clear hA aA;refine aj<|at_<|ar (aw al) rfl<|aY (ae rfl aB) (ae rfl aC) ?_;clear aB aC;intro a5 ak aD
 refine ai<|aj<|at_<|ar (ah ak) rfl<|ar (bj (ax aa aI) rfl (yb _) xl) rfl<|ar (aw aa) rfl<|bq (ae rfl (u2 rfl ak)) (ae rfl (u2 rfl aD)) aa ?_;clear ak aD;intro a6 aE am aF
 refine ai<|aj<|at_<|ar (ah am) rfl<|ar (bj (ax aa aI) rfl (yb _) xl) rfl<|ar (aw aa) rfl<|aZ (ae rfl (u2 rfl aE)) (ae rfl (u2 rfl am)) (ae rfl (u2 rfl aF)) aa ?_;clear aE am aF;intro a7 aG aH aJ aK
 refine ai<|aj<|aj<|at_<|ar (ah aJ) rfl<|aZ (ae rfl aG) (ae rfl aH) (ae rfl aK) aa ?_;clear aG aH aJ aK;intro a8 aL aM aN aO
 refine ai<|aW aO (λaP=>?_) (λaP=>?_)
 ·cases aP
 refine br<|ai<|aj<|aj<|at_<|ar (ah aN) rfl<|bq (ae rfl aL) (ae rfl aM) aa ?_;clear aL aO aM aN;intro a9 an ao aQ
 refine ai<|aW aQ (λaR=>?_) (λaR=>?_)
 ·cases aR
 refine br<|ai<|aj<|aj<|at_<|ar (ah an) rfl<|ar (ah (ae rfl ao)) rfl<|ar (cL (ae rfl aa) aa) rfl<|bq (ae rfl (u2 rfl an)) (ae rfl (u2 rfl ao)) aa ?_;clear an aQ ao;intro ba ap au av
 refine ai<|aW av (λab=>?_) (λab=>?_)
 ·replace ab:=bt ab;refine aj<|at_<|ar (aw al) rfl<|aT aa ?_;clear ap av au;intro bb aU
  refine ai<|aX<|bO<|bK (.inr rfl) (by kernel_rfl) (aS aU) (.ro _ rfl) ?_
  clear aU af
  (simp_all;try omega)
 replace ab:=bf ab;refine br<|ai<|aj<|aj<|at_<|ar (ah ap) rfl<|ar (ah (ae rfl au)) rfl<|ar (eM (ae rfl aa) aa) rfl<|aT aa ?_;clear ap av au;intro bc ay
 refine ai<|aW ay (λad=>?_) (λad=>?_)
 ·replace ad:=bt ad;refine aj<|at_<|ar (aw al) rfl<|aT aa ?_;clear ay;intro be aV
  refine ai<|aX<|bO<|bK (.inr rfl) (by kernel_rfl) (aS aV) (.ro _ rfl) ?_
  clear aV af
  (simp_all;try omega)
 replace ad:=bf ad;refine br<|ai<|aj<|at_<|ar (aw al) rfl<|aT aa ?_;clear ay;intro bg a2
 refine ai<|aX<|bK (.inr rfl) (by kernel_rfl) (aS a2) (.ro _ rfl) ?_
 clear a2 af
 (simp_all;try omega)
theorem I1(n:Int):bF Tryz.prog 57 [mA n] (λq=>q=mA (dB (dh n 0 5000) 2)):=by
 refine ck (fn:=Tryz.f57) 6 (by kernel_rfl) rfl (by kernel_rfl) (S8 rfl) ?_;intro am an hA ab;have ad:ag am (.tmp 0)=_:=hA 0 _ rfl;have ao:an.length=0:=by rw [ab];rfl
 clear hA ab;refine aj<|at_<|ar (aw al) rfl<|aT (ae rfl ad) ?_;clear ad;intro ap af
 refine ai<|aj<|at_<|ar (ah af) rfl<|ar (bj (ax aa (ax al (ax al aI))) rfl (lF _ _ _) lN) rfl<|ar (bj (ax aa (ax al aI)) rfl (eZ _ _) e6) rfl<|ar (aw aa) rfl<|aT aa ?_;clear af;intro au ak
 refine ai<|aX<|bK (.inr rfl) (by kernel_rfl) (aS ak) (.ro _ rfl) ?_
 clear ak ao;rfl
def gn(l:aU)(j:Nat):Int:=((l.js.getD (j+1) default).acr - (l.js.getD j default).acr)*(l.bs.getD (j - 1) default).len - ((l.js.getD j default).acr - (l.js.getD (j - 1) default).acr)*(l.bs.getD j default).len
def oq(l:aU)(j:Nat):Int:=(l.bs.getD (j - 1) default).len *(l.bs.getD j default).len
theorem cK(n:Nat):((n:Int) - 1).toNat =n - 1:=by omega
theorem Qo(l:aU)(h:dc l)(j:Nat)(hj:1<=j/\j+2<=l.js.length):bF Tryz.prog 87 [jd l,mA j] (λq=>q= .tuple [mA (gn l j),mA (oq l j)]):=by
 refine ck (fn:=Tryz.f87) 79 (by kernel_rfl) rfl (by kernel_rfl) (S8 rfl) ?_;intro ax aM hA ay;have az:ag ax (.tmp 0)=_:=hA 0 _ rfl;have aA:ag ax (.tmp 1)=_:=hA 1 _ rfl;have aN:aM.length=0:=by rw [ay];rfl
 clear hA ay;have hn1:=h.n1;have hn0:=h.n0;have hjs:=h.js;have j1:=h.m9 (j - 1) (by omega);have j2:=h.m9 j (by omega);have j3:=h.m9 (j+1) (by omega);have b1:=h.jf (j - 1) (by omega);have b2:=h.jf j (by omega);have m1:=fL (x:=(l.js.getD (j+1) default).acr - (l.js.getD j default).acr) (y:=(l.bs.getD (j - 1) default).len) 40000 30000 (by omega) (by omega);have m2:=fL (x:=(l.js.getD j default).acr - (l.js.getD (j - 1) default).acr) (y:=(l.bs.getD j default).len) 40000 30000 (by omega) (by omega);have m3:=fL (x:=(l.bs.getD (j - 1) default).len) (y:=(l.bs.getD j default).len) 30000 30000 (by omega) (by omega);refine aj<|at_<|ar (aw al) rfl<|ar (aw al) rfl<|aY (u2 rfl az) (u2 rfl aA) ?_;clear az aA;intro aO ab ad
 refine ai<|aj<|ey 21 (by kernel_rfl) (by kernel_rfl) (by kernel_rfl) (by kernel_rfl) ?_
 refine dr (ah ab) rfl<|dr (fh aa) rfl<|dr (ak (bR iy rfl aa) (by simp only [pS,Value.cells,Nat.reduceAdd,aF,aH,Td,bB,cK]<;>rfl)) rfl ?_
 refine dr (ak (bR dA rfl aa) (by simp only [pS,Value.cells,Nat.reduceAdd,aF,aH,Td,bB,cK]<;>rfl)) rfl ?_;refine dr (ak (bw Dy rfl aa (au rfl)) (by simp only [pS,Value.cells,Nat.reduceAdd,aF,aH,Td,bB,cK]<;>rfl)) rfl ?_;refine dr (ah (ae rfl (u4 rfl ad))) rfl ?_
 (refine dr (eL aa al ?_) rfl ?_; · (unfold In64;omega))
 refine dr (ak (cr Dx (u2 rfl aa) aa (by omega) (by(refine cP ?_;omega))) (by simp only [pS,Value.cells,Nat.reduceAdd,aF,aH,Td,bB,cK]<;>rfl)) rfl ?_;refine dr (ak (bR ki rfl aa) (by simp only [pS,Value.cells,Nat.reduceAdd,aF,aH,Td,bB,cK]<;>rfl)) rfl ?_;refine dr (ak (bw pw rfl aa (au rfl)) (by simp only [pS,Value.cells,Nat.reduceAdd,aF,aH,Td,bB,cK]<;>rfl)) rfl ?_;refine dr (ah (u2 rfl (u8 rfl ab))) rfl<|dr (fh aa) rfl<|dr (ak (bR iy rfl aa) (by simp only [pS,Value.cells,Nat.reduceAdd,aF,aH,Td,bB,cK]<;>rfl)) rfl ?_
 refine dr (ak (bR dA rfl aa) (by simp only [pS,Value.cells,Nat.reduceAdd,aF,aH,Td,bB,cK]<;>rfl)) rfl ?_;refine dr (ak (bw Dy rfl aa (au rfl)) (by simp only [pS,Value.cells,Nat.reduceAdd,aF,aH,Td,bB,cK]<;>rfl)) rfl ?_;refine dr (ah (ae rfl (u2 rfl (u4 rfl (u8 rfl ad))))) rfl<|dr (ak (cr Dx (ae rfl aa) aa (by omega) (by(refine fg ?_;omega))) (by simp only [pS,Value.cells,Nat.reduceAdd,aF,aH,Td,bB,cK]<;>rfl)) rfl ?_
 refine dr (ak (bR ki rfl aa) (by simp only [pS,Value.cells,Nat.reduceAdd,aF,aH,Td,bB,cK]<;>rfl)) rfl ?_;refine dr (ak (bw pw rfl aa (au rfl)) (by simp only [pS,Value.cells,Nat.reduceAdd,aF,aH,Td,bB,cK]<;>rfl)) rfl ?_;refine dr (aw (ae rfl (u8 rfl aa))) rfl<|dr (aw (ae rfl aa)) rfl<|dP<|aZ (ae rfl (u4 rfl (u16 rfl ab))) (ae rfl (u4 rfl (u16 rfl ad))) (ae rfl aa) aa ?_;clear ab ad;intro aP af am aB aC
 refine ai<|aj<|ey 21 (by kernel_rfl) (by kernel_rfl) (by kernel_rfl) (by kernel_rfl) ?_
 refine dr (ah af) rfl<|dr (fh aa) rfl<|dr (ak (bR iy rfl aa) (by simp only [pS,Value.cells,Nat.reduceAdd,aF,aH,Td,bB,cK]<;>rfl)) rfl ?_
 refine dr (ak (bR dW rfl aa) (by simp only [pS,Value.cells,Nat.reduceAdd,aF,aH,Td,bB,cK]<;>rfl)) rfl ?_;refine dr (ak (bw tm rfl aa (au rfl)) (by simp only [pS,Value.cells,Nat.reduceAdd,aF,aH,Td,bB,cK]<;>rfl)) rfl ?_;refine dr (ah (ae rfl (u4 rfl am))) rfl<|dr (ak (cr tl (ae rfl aa) aa (by omega) (by(refine fg ?_;omega))) (by simp only [pS,Value.cells,Nat.reduceAdd,aF,aH,Td,bB,cK]<;>rfl)) rfl ?_
 refine dr (ak (bR jR rfl aa) (by simp only [pS,Value.cells,Nat.reduceAdd,aF,aH,Td,bB,cK]<;>rfl)) rfl ?_;refine dr (ak (bw pw rfl aa (au rfl)) (by simp only [pS,Value.cells,Nat.reduceAdd,aF,aH,Td,bB,cK]<;>rfl)) rfl ?_;refine dr (ah (ae rfl (u8 rfl af))) rfl<|dr (fh aa) rfl<|dr (ak (bR iy rfl aa) (by simp only [pS,Value.cells,Nat.reduceAdd,aF,aH,Td,bB,cK]<;>rfl)) rfl ?_
 refine dr (ak (bR dW rfl aa) (by simp only [pS,Value.cells,Nat.reduceAdd,aF,aH,Td,bB,cK]<;>rfl)) rfl ?_;refine dr (ak (bw tm rfl aa (au rfl)) (by simp only [pS,Value.cells,Nat.reduceAdd,aF,aH,Td,bB,cK]<;>rfl)) rfl ?_;refine dr (ah (u2 rfl (u4 rfl (u8 rfl am)))) rfl ?_
 (refine dr (eL aa al ?_) rfl ?_; · (unfold In64;omega))
 refine dr (ak (cr tl (u2 rfl aa) aa (by omega) (by(refine cP ?_;omega))) (by simp only [pS,Value.cells,Nat.reduceAdd,aF,aH,Td,bB,cK]<;>rfl)) rfl ?_;refine dr (ak (bR jR rfl aa) (by simp only [pS,Value.cells,Nat.reduceAdd,aF,aH,Td,bB,cK]<;>rfl)) rfl ?_;refine dr (ak (bw pw rfl aa (au rfl)) (by simp only [pS,Value.cells,Nat.reduceAdd,aF,aH,Td,bB,cK]<;>rfl)) rfl ?_
 (refine dr (eL (u2 rfl (u8 rfl aa)) aa ?_) rfl ?_; · (unfold In64;omega))
 refine dr (aw aa) rfl<|dP<|bV (ae rfl (u4 rfl (u16 rfl af))) (ae rfl (u4 rfl (u16 rfl am))) (ae rfl (u4 rfl (u16 rfl aB))) (ae rfl (u4 rfl (u16 rfl aC))) aa ?_;clear af am aB aC;intro aQ an ao aD aE aG
 refine ai<|aj<|ey 21 (by kernel_rfl) (by kernel_rfl) (by kernel_rfl) (by kernel_rfl) ?_
 refine dr (ah an) rfl<|dr (fh aa) rfl<|dr (ak (bR iy rfl aa) (by simp only [pS,Value.cells,Nat.reduceAdd,aF,aH,Td,bB,cK]<;>rfl)) rfl ?_
 refine dr (ak (bR dW rfl aa) (by simp only [pS,Value.cells,Nat.reduceAdd,aF,aH,Td,bB,cK]<;>rfl)) rfl ?_;refine dr (ak (bw tm rfl aa (au rfl)) (by simp only [pS,Value.cells,Nat.reduceAdd,aF,aH,Td,bB,cK]<;>rfl)) rfl ?_;refine dr (ah (ae rfl (u4 rfl ao))) rfl ?_
 (refine dr (cj aa al ?_) rfl ?_; · (unfold In64;omega))
 refine dr (ak (cr tl (u2 rfl aa) aa (by omega) (by refine fg ?_;(simp only [bn];omega))) (by simp only [pS,Value.cells,Nat.reduceAdd,aF,aH,Td,bB,cK]<;>rfl)) rfl ?_;refine dr (ak (bR jR rfl aa) (by simp only [pS,Value.cells,Nat.reduceAdd,aF,aH,Td,bB,cK]<;>rfl)) rfl ?_;refine dr (ak (bw pw rfl aa (au rfl)) (by simp only [pS,Value.cells,Nat.reduceAdd,aF,aH,Td,bB,cK]<;>rfl)) rfl ?_;refine dr (ah (u2 rfl (u8 rfl an))) rfl<|dr (fh aa) rfl<|dr (ak (bR iy rfl aa) (by simp only [pS,Value.cells,Nat.reduceAdd,aF,aH,Td,bB,cK]<;>rfl)) rfl ?_
 refine dr (ak (bR dW rfl aa) (by simp only [pS,Value.cells,Nat.reduceAdd,aF,aH,Td,bB,cK]<;>rfl)) rfl ?_;refine dr (ak (bw tm rfl aa (au rfl)) (by simp only [pS,Value.cells,Nat.reduceAdd,aF,aH,Td,bB,cK]<;>rfl)) rfl ?_;refine dr (ah (ae rfl (u2 rfl (u4 rfl (u8 rfl ao))))) rfl<|dr (ak (cr tl (ae rfl aa) aa (by omega) (by(refine fg ?_;omega))) (by simp only [pS,Value.cells,Nat.reduceAdd,aF,aH,Td,bB,cK]<;>rfl)) rfl ?_
 refine dr (ak (bR jR rfl aa) (by simp only [pS,Value.cells,Nat.reduceAdd,aF,aH,Td,bB,cK]<;>rfl)) rfl ?_;refine dr (ak (bw pw rfl aa (au rfl)) (by simp only [pS,Value.cells,Nat.reduceAdd,aF,aH,Td,bB,cK]<;>rfl)) rfl ?_
 (refine dr (eL (ae rfl (u8 rfl aa)) aa ?_) rfl ?_; · (unfold In64;omega))
 refine dr (aw aa) rfl<|dP<|aZ (ae rfl (u4 rfl (u16 rfl aD))) (ae rfl (u4 rfl (u16 rfl aE))) (ae rfl (u4 rfl (u16 rfl aG))) aa ?_;clear an ao aD aE aG;intro aR ap av aI aJ
 refine ai<|aj<|at_<|ar (ah aJ) rfl<|ar (ah (ae rfl ap)) rfl ?_
 (refine ar (fa (ae rfl aa) aa ?_) rfl ?_; · (unfold In64;omega))
 refine ar (ah (ae rfl (u2 rfl aI))) rfl<|ar (ah (u4 rfl av)) rfl ?_
 (refine ar (fa (ae rfl aa) aa ?_) rfl ?_; · (unfold In64;omega))
 (refine ar (eL (ae rfl (u2 rfl aa)) aa ?_) rfl ?_; · (unfold In64;omega))
 refine ar (ah (ae rfl (u2 rfl (u4 rfl ap)))) rfl<|ar (ah (u8 rfl av)) rfl ?_
 (refine ar (fa (ae rfl aa) aa ?_) rfl ?_; · (unfold In64;omega))
 refine ar (aw (ae rfl (u2 rfl aa))) rfl<|ar (aw (ae rfl aa)) rfl<|aY (ae rfl aa) aa ?_;clear ap av aI aJ;intro aT aK aL
 refine ai<|aX<|dX (.inr rfl) (by kernel_rfl) (aS aK) (aS aL) (.ro _ rfl) (.ro _ rfl) ?_
 clear aK aL aN;rfl
theorem Kz:∀ args w,(callFunc 87 args).run Tryz.prog w= .ok (.enter 87 args) w:=λ_ _=>by kernel_rfl
theorem KA:∀ args w,(callFunc 88 args).run Tryz.prog w= .ok (.enter 88 args) w:=λ_ _=>by kernel_rfl
theorem KB:∀ args w,(callFunc 89 args).run Tryz.prog w= .ok (.enter 89 args) w:=λ_ _=>by kernel_rfl
theorem KC:∀ args w,(callFunc 90 args).run Tryz.prog w= .ok (.enter 90 args) w:=λ_ _=>by kernel_rfl
theorem Dz:bI Tryz.prog 24 95 2 16 (.agg #[.int .i64 0,.int .i64 0]):=⟨by kernel_rfl,by kernel_rfl,by kernel_rfl⟩
theorem DC:aN Tryz.prog 24 false 1:=⟨by kernel_rfl,by kernel_rfl⟩
theorem ug:aN Tryz.prog 3 false 1:=⟨by kernel_rfl,by kernel_rfl⟩
theorem DD:aN Tryz.prog 95 true 2:=⟨by kernel_rfl,by kernel_rfl⟩
theorem KD(x y:Int)(hx:dp x)(hy:dp y)(h:dp (x*y)):bF Tryz.prog 89 [uA x,uA y] (λq=>q= .tuple [uA 0,uA (x*y)]):=
 (NZ x y hx hy).mono λq hq=>by
  unfold dp at h;rw [hq,show x*y/18446744073709551616=0 by omega,show x*y%18446744073709551616=x*y by omega]
def l9(n:Int):Int:=if n<0 then -1 else if 0<n then 1 else 0
def vk(l:aU)(s:Int)(j:Nat):Int:=2000*s+l9 (gn l j)*((l.bs.getD (j - 1) default).cant +(l.bs.getD j default).cant)*9810
def GI(l:aU)(s:Int)(j:Nat):Int:=vk l s j*((l.bs.getD (j - 1) default).len +(l.bs.getD j default).len)*oq l j
def pW(l:aU)(s:Int)(j:Nat):Int:=if gn l j=0 then 20000000000 else if vk l s j<0 then 0 else min (GI l s j/(2*2000*max (gn l j) (-gn l j))) 20000000000
theorem Rr{l:aU}(h:dc l){j:Nat}(hj:1<=j/\j+2<=l.js.length):(gn l j).natAbs <=2400000000/\1000000<=oq l j/\oq l j<=900000000:=by
 have hjs:=h.js;have j1:=h.m9 (j - 1) (by omega);have j2:=h.m9 j (by omega);have j3:=h.m9 (j+1) (by omega);have b1:=h.jf (j - 1) (by omega);have b2:=h.jf j (by omega);have m1:=fL (x:=(l.js.getD (j+1) default).acr - (l.js.getD j default).acr) (y:=(l.bs.getD (j - 1) default).len) 40000 30000 (by omega) (by omega);have m2:=fL (x:=(l.js.getD j default).acr - (l.js.getD (j - 1) default).acr) (y:=(l.bs.getD j default).len) 40000 30000 (by omega) (by omega);have m3:=fL (x:=(l.bs.getD (j - 1) default).len) (y:=(l.bs.getD j default).len) 30000 30000 (by omega) (by omega);have m4:(1000:Int)*1000<=(l.bs.getD (j - 1) default).len *(l.bs.getD j default).len :=Int.mul_le_mul b1.1 b2.1 (by omega) (by omega);unfold gn oq;omega
theorem Rt{l:aU}(h:dc l){j:Nat}(hj:1<=j/\j+2<=l.js.length){s:Int}(hs:0<=s/\s<=5000):(l9 (gn l j)*((l.bs.getD (j - 1) default).cant +(l.bs.getD j default).cant)).natAbs <=600/\(vk l s j).natAbs <=15886000:=by
 have hjs:=h.js;have b1:=h.jf (j - 1) (by omega);have b2:=h.jf j (by omega);have m1:=fL (x:=l9 (gn l j)) (y:=(l.bs.getD (j - 1) default).cant +(l.bs.getD j default).cant) 1 600 (by unfold l9;split;decide;split<;>decide) (by omega);unfold vk;omega
theorem KE(l:aU)(h:dc l)(s:Int)(hs:0<=s/\s<=5000)(j:Nat)(hj:1<=j/\j+2<=l.js.length)(hu:GI l s j<18446744073709551616):bF Tryz.prog 59 [jd l,mA s,mA j] (λq=>q=mA (pW l s j)):=by
 refine ck (fn:=Tryz.f59) 88 (by kernel_rfl) rfl (by kernel_rfl) (S8 rfl) ?_;intro aJ ci hA bz;have bA:ag aJ (.tmp 0)=_:=hA 0 _ rfl;have bC:ag aJ (.tmp 1)=_:=hA 1 _ rfl;have bD:ag aJ (.tmp 2)=_:=hA 2 _ rfl;have ab:ci.length=0:=by rw [bz];rfl
 clear hA bz;have hn1:=h.n1;have hn0:=h.n0;have hjs:=h.js;have b1:=h.jf (j - 1) (by omega);have b2:=h.jf j (by omega);obtain⟨e1,e2,e3⟩:=Rr h hj;obtain⟨e4,e5⟩:=Rt h hj hs;refine aj<|at_<|ar (aw al) rfl<|bq (ae rfl bA) (ae rfl bC) (ae rfl bD) ?_;clear bA bC bD;intro cq aK bE aM
 refine ai<|aj<|at_<|ar (ah aK) rfl<|ar (ah (ae rfl aM)) rfl<|ar (bj (ax (ae rfl aa) (ax aa aI)) rfl (Qo l h j hj) Kz) rfl<|ar (ah aa) rfl<|ar (cH aa rfl) rfl<|ar (cH (ae rfl aa) rfl) rfl<|ar (aw (ae rfl aa)) rfl<|ar (aw (ae rfl aa)) rfl<|bV (u8 rfl aK) (u8 rfl bE) (u8 rfl aM) (ae rfl aa) aa ?_;clear aK bE aM;intro ct bG bH bI aN bJ
 refine ai<|aj<|aj<|at_<|ar (ah aN) rfl<|ar (eH aa al) rfl ?_
 refine ei (u2 rfl bG) (u2 rfl bH) (u2 rfl bI) (u2 rfl aN) (u2 rfl bJ) aa ?_;clear bG bH bI aN bJ;intro cu an aO ap aP aR aV;refine ai<|aW aV (λad=>?_) (λad=>?_)
 ·replace ad:=bt ad;refine aj<|at_<|ar (aw al) rfl<|aT aa ?_;clear an aO aV ap aP aR;intro cv bL
  refine ai<|aX<|bO<|bK (.inr rfl) (by kernel_rfl) (aS bL) (.ro _ rfl) ?_
  clear bL ab
  (rw [pW,if_pos (by assumption)])
 replace ad:=bf ad;refine br<|ai<|aj<|fW 20 2 ab (by kernel_rfl) (by kernel_rfl) (by kernel_rfl) (by kernel_rfl) (λbM av=>?_)
 have aY:bM[0]? =_:=fH av ab 0 rfl rfl;have bP:bM[1]? =_:=fH av ab 1 rfl rfl;have cm:_=2:=fX (K:=2) av ab;clear av ab;refine aQ (λM_ hM_=>(ah an)) trivial ?_;refine aQ (λM_ hM_=>(fh aa)) trivial ?_;refine aQ (λM_ hM_=>(ak (bR iy rfl aa) (by simp only [pS,Value.cells,Nat.reduceAdd,aF,aH,Td,bB,cK]<;>rfl))) trivial ?_;refine aQ (λM_ hM_=>(ak (bR dA rfl aa) (by simp only [pS,Value.cells,Nat.reduceAdd,aF,aH,Td,bB,cK]<;>rfl))) trivial ?_;refine aQ (λM_ hM_=>(ak (bw DC rfl aa (au rfl)) (by simp only [pS,Value.cells,Nat.reduceAdd,aF,aH,Td,bB,cK]<;>rfl))) trivial ?_;refine aQ (λM_ hM_=>(ah (ae rfl (u4 rfl ap)))) trivial ?_
 (refine aQ (λM_ hM_=>(eL aa al ?_)) trivial ?_; · ((unfold In64);omega))
 refine aQ (λM_ hM_=>(ak (cr Dz (u2 rfl aa) aa (by omega) (by(refine cP ?_;omega))) (by simp only [pS,Value.cells,Nat.reduceAdd,aF,aH,Td,bB,cK]<;>rfl))) trivial ?_;refine aQ (λM_ hM_=>(ak (bw DD rfl aa (au rfl)) (by simp only [pS,Value.cells,Nat.reduceAdd,aF,aH,Td,bB,cK]<;>rfl))) trivial ?_;refine aQ (λM_ hM_=>(ah (ae rfl (u8 rfl an)))) trivial ?_;refine aQ (λM_ hM_=>(fh aa)) trivial ?_;refine aQ (λM_ hM_=>(ak (bR iy rfl aa) (by simp only [pS,Value.cells,Nat.reduceAdd,aF,aH,Td,bB,cK]<;>rfl))) trivial ?_;refine aQ (λM_ hM_=>(ak (bR dA rfl aa) (by simp only [pS,Value.cells,Nat.reduceAdd,aF,aH,Td,bB,cK]<;>rfl))) trivial ?_;refine aQ (λM_ hM_=>(ak (bw DC rfl aa (au rfl)) (by simp only [pS,Value.cells,Nat.reduceAdd,aF,aH,Td,bB,cK]<;>rfl))) trivial ?_;refine aQ (λM_ hM_=>(ah (u2 rfl (u4 rfl (u8 rfl ap))))) trivial ?_;refine aQ (λM_ hM_=>(ak (cr Dz (ae rfl aa) aa (by omega) (by(refine fg ?_;omega))) (by simp only [pS,Value.cells,Nat.reduceAdd,aF,aH,Td,bB,cK]<;>rfl))) trivial ?_;refine aQ (λM_ hM_=>(ak (bw DD rfl aa (au rfl)) (by simp only [pS,Value.cells,Nat.reduceAdd,aF,aH,Td,bB,cK]<;>rfl))) trivial ?_;refine lh (0) (λM_ hM_=>(qp uT rfl)) trivial aY rfl trivial trivial (λcw az=>?_);have a2:=bk az aY;simp only [pS,Value.cells,Nat.reduceAdd,aF,aH,Td,bB,cK]at a2;have a3:=ao az bP (by decide);have cn:=bc az cm;clear az aY bP;refine lh (1) (λM_ hM_=>(qp uT rfl)) trivial a3 rfl ⟨.inl (by simp<;>omega),trivial⟩ ⟨.inl (by simp<;>omega),trivial⟩ (λcx aA=>?_);have a5:=bk aA a3;simp only [pS,Value.cells,Nat.reduceAdd,aF,aH,Td,bB,cK]at a5;have a6:=ao aA a2 (by decide);have co:=bc aA cn;clear aA a2 a3;refine pF (0) (λM_ hM_=>(nw (ae rfl aa) (u2 rfl (u8 rfl aa)) rfl rfl (cf hM_ a6 (by simp)) u7 rfl (au rfl))) trivial ⟨.inr (gi 19 17 (by kernel_rfl)),⟨.inl (by simp<;>omega),trivial⟩⟩ ⟨.inr (gi 19 17 (by kernel_rfl)),⟨.inl (by simp<;>omega),trivial⟩⟩ (λcy aD=>?_);have a7:=bk aD a6;simp only [pS,Value.cells,Nat.reduceAdd,aF,aH,Td,bB,cK]at a7;have a8:=ao aD a5 (by decide);have cp:=bc aD co;clear aD a5 a6;refine gj rfl ?_;refine aL (bN (ay aa) (ay (u2 rfl aa)) rfl rfl a8 u7 rfl (au rfl)) trivial rfl (λcz aE=>?_);have af:=bk aE a8;simp only [pS,Value.cells,Nat.reduceAdd,aF,aH,Td,bB,cK]at af;have aG:=ao aE a7 (by decide);have bQ:=bc aE cp;clear aE a7 a8;refine bV (ay (ay (ae rfl (u2 rfl (u16 rfl aO))))) (ay (ay (ae rfl (u2 rfl (u16 rfl aP))))) (ay (ay (ae rfl (u2 rfl (u16 rfl aR))))) (ay (ay (ae rfl aa))) (ay (ay aa)) ?_;clear an aO aV ap aP aR;intro cA bS bT bU bW bX;refine ai<|aj<|at_<|ar (aw al) rfl<|ei (ae rfl bS) (ae rfl bT) (ae rfl bU) (ae rfl bW) (ae rfl bX) aa ?_;clear bX bS bT bU bW;intro cB bY a9 bZ ba bb be
 refine ai<|aj<|ey 14 (by kernel_rfl) (by kernel_rfl) (by kernel_rfl) (by kernel_rfl) ?_
 refine dr (ah be) rfl<|dr (ah (ae rfl bY)) rfl ?_
 (refine dr (fa (ae rfl aa) aa ?_) rfl ?_; · ((unfold In64);omega))
 refine dr (ah (ae rfl (u2 rfl a9))) rfl<|dr (bj (ax aa (ax al aI)) rfl ((I0 _ _).mono (λq h=>show q=mA (l9 (gn l j))from h)) KA) rfl ?_
 refine dr (aB oY rfl (ae rfl (u4 rfl ba))) rfl<|dr (ak (aC ug rfl aG aa (au rfl)) (by simp only [pS,Value.cells,Nat.reduceAdd,aF,aH,Td,bB,cK]<;>rfl)) rfl ?_
 refine dr (aB oY rfl (ae rfl (u2 rfl (u4 rfl bb)))) rfl<|dr (ak (aC ug rfl af aa (au rfl)) (by simp only [pS,Value.cells,Nat.reduceAdd,aF,aH,Td,bB,cK]<;>rfl)) rfl ?_
 (refine dr (cj (u2 rfl aa) aa ?_) rfl ?_; · ((unfold In64);omega))
 (refine dr (fa (ae rfl (u4 rfl aa)) aa ?_) rfl ?_; · ((unfold In64);omega))
 (refine dr (fa aa al ?_) rfl ?_; · ((unfold In64);omega))
 (refine dr (cj (ae rfl (u8 rfl aa)) aa ?_) rfl ?_; · ((unfold In64);omega))
 refine dr (aw aa) rfl<|dP<|ei (u2 rfl (u4 rfl (u8 rfl a9))) (u2 rfl (u4 rfl (u8 rfl bZ))) (u2 rfl (u4 rfl (u8 rfl ba))) (u2 rfl (u4 rfl (u8 rfl bb))) (u2 rfl (u4 rfl (u8 rfl be))) aa ?_;clear bb be bY a9 bZ ba;intro cC b0 b6 b7 b8 b9 bg
 refine ai<|aj<|aj<|at_<|ar (ah bg) rfl<|ar (cL aa al) rfl<|gZ (u2 rfl b0) (u2 rfl b6) (u2 rfl b7) (u2 rfl b8) (u2 rfl b9) (u2 rfl bg) aa ?_;clear b8 b9 bg b0 b6 b7;intro cD bh bm bn bo bp bu bv
 refine ai<|aW bv (λam=>?_) (λam=>?_)
 ·replace am:=bt am;refine aj<|at_<|ar (aw al) rfl<|aT aa ?_;clear bo bp bu bv bh bm bn;intro cE ca
  refine ai<|aX<|bO<|bK (.inr rfl) (by kernel_rfl) (aS ca) (.ro _ rfl) ?_
  clear ca af aG bQ
  (rw [pW,if_neg (by assumption),if_pos (by assumption)])
 replace am:=bf am
 (have hh:0<=(2000*s+l9 (gn l j)*((l.bs.getD (j - 1) default).cant +(l.bs.getD j default).cant)*9810):=(by omega);have m1:=fL (x:=(2000*s+l9 (gn l j)*((l.bs.getD (j - 1) default).cant +(l.bs.getD j default).cant)*9810)) (y:=((l.bs.getD (j - 1) default).len +(l.bs.getD j default).len)) 15886000 60000 e5 (by omega);have n1:=Int.mul_nonneg hh (show 0<=((l.bs.getD (j - 1) default).len +(l.bs.getD j default).len)by omega);have vv1:dp ((2000*s+l9 (gn l j)*((l.bs.getD (j - 1) default).cant +(l.bs.getD j default).cant)*9810)*((l.bs.getD (j - 1) default).len +(l.bs.getD j default).len)):=⟨n1,by omega⟩;have vv2:dp (oq l j):=⟨by omega,by omega⟩;have vv3:dp ((2000*s+l9 (gn l j)*((l.bs.getD (j - 1) default).cant +(l.bs.getD j default).cant)*9810)*((l.bs.getD (j - 1) default).len +(l.bs.getD j default).len)*oq l j):=⟨Int.mul_nonneg n1 (by omega),hu⟩;have vv4:dp (2*2000*max (gn l j) (-gn l j)):=⟨by omega,by omega⟩;have vv5:0<2*2000*max (gn l j) (-gn l j):=(by omega);have vv6:=Int.ediv_nonneg vv3.1 (Int.le_of_lt vv5);unfold dp at vv1 vv2 vv4)
 refine br<|ai<|aj<|at_<|ar (ah bu) rfl<|ar (aB ki rfl (ae rfl bn)) rfl<|ar (ak (aC ug rfl aG aa (au rfl)) (by simp only [pS,Value.cells,Nat.reduceAdd,aF,aH,Td,bB,cK]<;>rfl)) rfl ?_
 refine ar (aB ki rfl (ae rfl (u2 rfl bo))) rfl<|ar (ak (aC ug rfl af aa (au rfl)) (by simp only [pS,Value.cells,Nat.reduceAdd,aF,aH,Td,bB,cK]<;>rfl)) rfl ?_
 (refine ar (cj (u2 rfl aa) aa ?_) rfl ?_; · ((unfold In64);omega))
 (refine ar (fa (ae rfl (u4 rfl aa)) aa ?_) rfl ?_; · ((unfold In64);omega))
 (refine ar (uE aa (by kernel_rfl) (by kernel_rfl) ?_) rfl ?_; · ((unfold dp);omega))
 refine ar (ah (u8 rfl bm)) rfl ?_
 (refine ar (uE aa (by kernel_rfl) (by kernel_rfl) ?_) rfl ?_; · ((unfold dp);omega))
 refine ar (bj (ax (u2 rfl aa) (ax aa aI)) rfl (KD _ _ vv1 vv2 vv3) KB) rfl<|ar (ah aa) rfl<|ar (cH aa rfl) rfl<|ar (cH (ae rfl aa) rfl) rfl<|ar (aw (ae rfl aa)) rfl<|ar (aw (ae rfl aa)) rfl<|aZ (u16 rfl bh) (u16 rfl bp) (ae rfl aa) aa ?_;clear bo bp bu bv bh bm bn;intro cF bx cb cc cd
 refine ai<|aj<|at_<|ar (ah cc) rfl<|ar (ah (ae rfl cd)) rfl<|ar (ah (u2 rfl cb)) rfl ?_
 (refine ar (fa al aa ?_) rfl ?_; · ((unfold In64);omega))
 refine ar (ah (u4 rfl bx)) rfl<|ar (ah (ae rfl (u4 rfl bx))) rfl ?_
 (refine ar (qI aa ?_) rfl ?_; · ((unfold In64);omega))
 refine ar (yp (u2 rfl aa) aa) rfl ?_
 (refine ar (fa (u4 rfl aa) aa ?_) rfl ?_; · ((unfold In64);omega))
 (refine ar (uE aa (by kernel_rfl) (by kernel_rfl) ?_) rfl ?_; · ((unfold dp);omega))
 refine ar (bj (ax (ae rfl (u8 rfl aa)) (ax (u8 rfl aa) (ax aa aI))) rfl (Ky _ _ vv3 vv4 vv5) KC) rfl<|ar (ah aa) rfl<|ar (cH aa rfl) rfl<|ar (cH (ae rfl aa) rfl) rfl<|ar (aw (ae rfl aa)) rfl<|ar (aw (ae rfl aa)) rfl<|aT (ae rfl aa) ?_;clear cb cc cd bx;intro cG ce
 refine ai<|aj<|at_<|ar (ah ce) rfl<|ar (uv aa al) rfl ?_
 (refine ar (Ff aa (by kernel_rfl) (by kernel_rfl) ?_) rfl ?_; · ((unfold In64);omega))
 refine ar (aw aa) rfl<|aT aa ?_;clear ce;intro cI cg
 refine ai<|aX<|bK (.inr rfl) (by kernel_rfl) (aS cg) (.ro _ rfl) ?_
 clear cg af aG bQ
 (rw [pW,if_neg (by assumption),if_neg (by assumption)];rfl)
theorem I2:bZ Tryz.prog 44 1 1 false 1:=by unfold bZ;kernel_rfl
theorem An:bZ Tryz.prog 44 2 2 false 1:=by unfold bZ;kernel_rfl
theorem KF:∀ args w,(callFunc 46 args).run Tryz.prog w= .ok (.enter 46 args) w:=λ_ _=>by kernel_rfl
theorem KG:∀ args w,(callFunc 57 args).run Tryz.prog w= .ok (.enter 57 args) w:=λ_ _=>by kernel_rfl
theorem KH:∀ args w,(callFunc 58 args).run Tryz.prog w= .ok (.enter 58 args) w:=λ_ _=>by kernel_rfl
theorem KI:∀ args w,(callFunc 59 args).run Tryz.prog w= .ok (.enter 59 args) w:=λ_ _=>by kernel_rfl
theorem A5:bI Tryz.prog 153 30 1 8 (.int .i64 0):=⟨by kernel_rfl,by kernel_rfl,by kernel_rfl⟩
theorem DF:aN Tryz.prog 27 true 4:=⟨by kernel_rfl,by kernel_rfl⟩
theorem qY:aN Tryz.prog 3 false 1:=⟨by kernel_rfl,by kernel_rfl⟩
theorem N1:aN Tryz.prog 44 true 3:=⟨by kernel_rfl,by kernel_rfl⟩
theorem DG(e:Int):iG [0,e]=e:=by
 by_cases h:e=0<;>simp [iG,h]
def ot(s:Int):Int:=dB (dh s 0 5000) 2
theorem Ru{s:Int}:ot s=0↔0<=s/\s<=5000:=by
 unfold ot dB;rw [<- mq];cases dh s 0 5000<;>simp
def rJ(l:aU)(s j:Int):Int:=if ot s=0 then pV j 1 (l.js.length - 2)else ot s
theorem HB(l:aU)(hl:eE l)(hg:(b9 l).2=0)(s j:Int)(hL:0<=s/\s<=5000-> ∀ n:Nat,1<=n/\n+2<=l.js.length->bF Tryz.prog 59 [jd l,mA s,mA n] (λq=>q=mA (pW l s n))):bF Tryz.prog 24 [ep l,mA s,mA j] (λq=>q= .tuple [mA (if rJ l s j=0 then pW l s j.toNat else 0),mA (rJ l s j)]):=by
 refine ck (fn:=Tryz.f24) 34 (by kernel_rfl) rfl (by kernel_rfl) (S8 rfl) ?_;intro ap bm hA aN;have aO:ag ap (.tmp 0)=_:=hA 0 _ rfl;have aP:ag ap (.tmp 1)=_:=hA 1 _ rfl;have aQ:ag ap (.tmp 2)=_:=hA 2 _ rfl;have av:bm.length=0:=by rw [aN];rfl
 clear hA aN;have h:=ky hg;have hn1:=h.n1;have hn0:=h.n0;have hjs:=h.js;refine aj<|at_<|aL (dO aO rfl av) trivial rfl (λbn ay=>?_)
 have am:=bH ay av;have ab:=bG ay av;have ab:_=1:=ab;clear ay;refine ar (aw al) rfl<|ar (aw al) rfl<|bq (ae rfl (u2 rfl aP)) (ae rfl (u2 rfl aQ)) (u2 rfl aa) ?_;clear aO aP aQ;intro bp aR aT aV
 refine ai<|aj<|at_<|ar (ak (aC DF rfl am aV (au rfl)) (by simp only [pS,Value.cells,Nat.reduceAdd]<;>rfl)) rfl ?_
 refine ar (bj (ax aa aI) rfl (vS l hl hg) qZ) rfl<|ar (ah aa) rfl<|ar (cH aa rfl) rfl<|ar (cH (ae rfl aa) rfl) rfl<|ar (aw (ae rfl aa)) rfl<|ar (aw (ae rfl aa)) rfl<|aZ (ae rfl (u2 rfl (u4 rfl aR))) (ae rfl (u2 rfl (u4 rfl aT))) (ae rfl aa) aa ?_;clear aR aT aV;intro bu az a2 a3 a5
 refine ai<|aj<|aj<|at_<|ar (ah a5) rfl<|ar (ah (ae rfl az)) rfl<|ar (bj (ax aa aI) rfl (I1 _) KG) rfl<|ar (dT A5 (bo (u2 rfl aa) (bo aa bY)) rfl rfl rfl rfl) rfl<|ar (bj (ax aa aI) rfl ((sB [_,_] (by simp)).mono (λq h=>h.trans (show mA (iG [0,dB (dh s 0 5000) 2])=mA (ot s)from congrArg mA (DG _)))) uj) rfl ?_
 refine ar (aw aa) rfl<|aZ (u2 rfl (u4 rfl az)) (u2 rfl (u4 rfl a2)) (u2 rfl (u4 rfl a3)) aa ?_;clear az a2 a3 a5;intro bv a6 a7 a8 aA
 refine ai<|aj<|at_<|ar (ah aA) rfl<|ar (ez aa al) rfl<|bV (u2 rfl a6) (u2 rfl a7) (u2 rfl a8) (u2 rfl aA) aa ?_;clear a6 a7 a8 aA;intro bw aB an ao aD aE
 refine ai<|aW aE (λad=>?_) (λad=>?_)
 ·replace ad:=dR ad;refine aj<|at_<|ar (ah aD) rfl<|ar (aw al) rfl<|ar (aw (ae rfl aa)) rfl<|aY (ae rfl aa) aa ?_;clear aB aE an ao aD;intro bx a9 ba
  refine ai<|aX<|bO<|dX (.inr rfl) (by kernel_rfl) (aS a9) (aS ba) (.ro _ rfl) (.ro _ rfl) ?_
  clear a9 ba am ab
  (have hs:¬ ot s=0:=(by assumption);simp [rJ,hs])
 replace ad:=dG ad
 (have hs:ot s=0:=(by assumption);have hs2:=Ru.1 hs)
 refine br<|ai<|aj<|aj<|at_<|ar (ah ao) rfl<|ar (ah (ae rfl an)) rfl<|ar (bj (ax (ae rfl aa) (ax aa aI)) rfl (HA l h _) KH) rfl<|ar (aw aa) rfl<|aZ (u4 rfl aB) (u4 rfl an) (u4 rfl ao) aa ?_;clear aB aE an ao aD;intro bz bb bc be aF
 refine ai<|aj<|at_<|ar (ah aF) rfl<|ar (ez aa al) rfl<|bV (u2 rfl bb) (u2 rfl bc) (u2 rfl be) (u2 rfl aF) aa ?_;clear aF bb bc be;intro bA aG aH aJ aK aM
 refine ai<|aW aM (λaf=>?_) (λaf=>?_)
 ·replace af:=dR af;refine aj<|at_<|ar (ah aK) rfl<|ar (aw al) rfl<|ar (aw (ae rfl aa)) rfl<|aY (ae rfl aa) aa ?_;clear aK aG aM aH aJ;intro bB bf bg
  refine ai<|aX<|bO<|dX (.inr rfl) (by kernel_rfl) (aS bf) (aS bg) (.ro _ rfl) (.ro _ rfl) ?_
  clear bf bg am ab
  (have hm:¬ pV j 1 (l.js.length - 2)=0:=(by assumption);simp [rJ,hs,hm])
 replace af:=dG af
 (have hm:pV j 1 (l.js.length - 2)=0:=(by assumption);have hm2:=Rj.1 hm;have lm:=hL hs2 j.toNat (by omega);rw [show((j.toNat:Nat):Int)=j by omega]at lm)
 refine br<|ai<|aj<|at_<|ar (ah aJ) rfl<|ar (ah (ae rfl aG)) rfl<|ar (ah (u2 rfl aH)) rfl<|ar (bj (ax (u2 rfl aa) (ax (ae rfl aa) (ax aa aI))) rfl (lm) KI) rfl<|ar (aw aa) rfl<|ar (aw al) rfl<|aY (ae rfl aa) aa ?_;clear aK aG aM aH aJ;intro bC bh bk
 refine ai<|aX<|dX (.inr rfl) (by kernel_rfl) (aS bh) (aS bk) (.ro _ rfl) (.ro _ rfl) ?_
 clear bh bk am ab;simp [rJ,hs,hm]
abbrev pX(L c s:Int):AV:=.agg [mA L,mA c,mA s]
def lp(L c s:Int):Int:=dB (dh L 1000 30000&&dh c 0 1000&&dh s 100 30000) 2
theorem F3{L c s:Int}:lp L c s=0↔(1000<=L/\L<=30000)/\(0<=c/\c<=1000)/\100<=s/\s<=30000:=by
 unfold lp dB;rw [<- mq, <- mq, <- mq];cases dh L 1000 30000<;>cases dh c 0 1000<;>cases dh s 100 30000<;>simp
theorem G4(L c s:Int):bF Tryz.prog 46 [pX L c s] (λq=>q=mA (lp L c s)):=by
 refine ck (fn:=Tryz.f46) 17 (by kernel_rfl) rfl (by kernel_rfl) (S8 rfl) ?_;intro aG aH hA av;have ay:ag aG (.tmp 0)=_:=hA 0 _ rfl;have ao:aH.length=0:=by rw [av];rfl
 clear hA av;refine aj<|at_<|aL (dO ay rfl ao) trivial rfl (λaM ap=>?_)
 have af:=bH ap ao;have an:=bG ap ao;have an:_=1:=an;clear ap;refine ar (aw al) rfl<|aT (ae rfl aa) ?_;clear ay;intro aN am
 refine ai<|aj<|at_<|ar (aB nD rfl am) rfl<|ar (ak (aC qY rfl af aa (au rfl)) (by simp only [pS,Value.cells,Nat.reduceAdd]<;>rfl)) rfl ?_
 refine ar (bj (ax aa (ax al (ax al aI))) rfl (lF _ _ _) lN) rfl<|ar (ah aa) rfl<|bM aa (λab aJ=>?_) (λab aJ=>?_)
 ·skip;refine aA (aB I2 rfl (u4 rfl am)) ⟨_,rfl,ab⟩ rfl ?_;refine aA (ak (aC qY rfl af aa (au rfl)) (by simp only [pS,Value.cells,Nat.reduceAdd]<;>rfl)) ⟨_,rfl,(ae rfl ab)⟩ rfl ?_;refine aA (bj (ax aa (ax al (ax al aI))) rfl (lF _ _ _) lN) ⟨_,rfl,(u2 rfl ab)⟩ rfl ?_;refine ar (bD (ae rfl (u2 rfl ab)) aa) rfl<|ar (ah aa) rfl<|bM aa (λad aK=>?_) (λad aK=>?_)
  ·skip;refine aA (aB An rfl (ae rfl (u8 rfl am))) ⟨_,rfl,ad⟩ rfl ?_;refine aA (ak (aC qY rfl af aa (au rfl)) (by simp only [pS,Value.cells,Nat.reduceAdd]<;>rfl)) ⟨_,rfl,(ae rfl ad)⟩ rfl ?_;refine aA (bj (ax aa (ax al (ax al aI))) rfl (lF _ _ _) lN) ⟨_,rfl,(u2 rfl ad)⟩ rfl ?_;refine ar (bD (ae rfl (u2 rfl ad)) aa) rfl<|ar (bj (ax aa (ax al aI)) rfl (eZ _ _) e6) rfl<|ar (aw aa) rfl<|aT aa ?_;clear ab ad am;intro aO aD
   refine ai<|aX<|bK (.inr rfl) (by kernel_rfl) (aS aD) (.ro _ rfl) ?_
   clear aD af an
   (unfold lp;simp_all)
  refine az ⟨_,rfl,.inl ad⟩ rfl ?_;refine az ⟨_,rfl,.inl (ae rfl ad)⟩ rfl ?_;refine az ⟨_,rfl,.inl (u2 rfl ad)⟩ rfl ?_;refine ar (bJ (ae rfl (u2 rfl ad)) al) rfl<|ar (bj (ax aa (ax al aI)) rfl (eZ _ _) e6) rfl<|ar (aw aa) rfl<|aT aa ?_;clear ab ad am;intro aP aE
  refine ai<|aX<|bK (.inr rfl) (by kernel_rfl) (aS aE) (.ro _ rfl) ?_
  clear aE af an
  (unfold lp;simp_all)
 refine az ⟨_,rfl,.inl ab⟩ rfl ?_;refine az ⟨_,rfl,.inl (ae rfl ab)⟩ rfl ?_;refine az ⟨_,rfl,.inl (u2 rfl ab)⟩ rfl ?_;refine ar (bJ (ae rfl (u2 rfl ab)) al) rfl<|ar (ah aa) rfl<|az ⟨_,rfl,.inl aa⟩ rfl ?_
 refine az ⟨_,rfl,.inl (ae rfl aa)⟩ rfl ?_;refine az ⟨_,rfl,.inl (u2 rfl aa)⟩ rfl ?_;refine ar (bJ (ae rfl (u2 rfl aa)) al) rfl<|ar (bj (ax aa (ax al aI)) rfl (eZ _ _) e6) rfl<|ar (aw aa) rfl<|aT aa ?_;clear ab am;intro aQ aF
 refine ai<|aX<|bK (.inr rfl) (by kernel_rfl) (aS aF) (.ro _ rfl) ?_
 clear aF af an
 (unfold lp;simp_all)
def pY(l:aU)(L s p:Int):Int:=dB (dh p 0 (ca l.bs l.bs.length - L)&&decide (p.tmod s=0)) 6
theorem Rw{l:aU}{L s p:Int}:pY l L s p=0↔(0<=p/\p<=ca l.bs l.bs.length - L)/\p.tmod s=0:=by
 unfold pY dB;rw [<- mq];cases dh p 0 (ca l.bs l.bs.length - L)<;>by_cases h:p.tmod s=0<;>simp [h]
theorem Hm(l:aU)(hl:eE l)(hg:(b9 l).2=0)(L c s p:Int)(hv:lp L c s=0):bF Tryz.prog 60 [ep l,pX L c s,mA p] (λq=>q= .tuple [jd l,mA (pY l L s p)]):=by
 refine ck (fn:=Tryz.f60) 39 (by kernel_rfl) rfl (by kernel_rfl) (S8 rfl) ?_;intro az be hA aK;have aM:ag az (.tmp 0)=_:=hA 0 _ rfl;have aN:ag az (.tmp 1)=_:=hA 1 _ rfl;have aO:ag az (.tmp 2)=_:=hA 2 _ rfl;have aA:be.length=0:=by rw [aK];rfl
 clear hA aK;have hf:iG [0,lp L c s]=lp L c s:=DG _;have hv2:=F3.1 hv;have h:=ky hg;have hpb:=h.oy (n:=l.bs.length) (Tf _);refine aj<|at_<|aL (dO aM rfl aA) trivial rfl (λbg aD=>?_)
 have aP:=bH aD aA;have ad:=bG aD aA;have ad:_=1:=ad;clear aD;refine aL (dO (ae rfl aN) rfl ad) trivial rfl (λbh an=>?_);have af:=bH an ad;have aE:=aJ an aP;have ao:=bG an ad;have ao:_=2:=ao;clear an aP;refine ar (aw al) rfl<|ar (aw al) rfl<|bq (u4 rfl aO) (ae rfl (u2 rfl aa)) (u2 rfl aa) ?_;clear aM aN aO;intro bk aQ aR aT
 refine ai<|aj<|at_<|ar (ak (aC DF rfl aE aR (au rfl)) (by simp only [pS,Value.cells,Nat.reduceAdd]<;>rfl)) rfl ?_
 refine ar (bj (ax aa aI) rfl (vS l hl hg) qZ) rfl<|ar (ah aa) rfl<|ar (cH aa rfl) rfl<|ar (cH (ae rfl aa) rfl) rfl<|ar (aw (ae rfl aa)) rfl<|ar (aw (ae rfl aa)) rfl<|aZ (ae rfl (u2 rfl (u4 rfl aQ))) (ae rfl (u2 rfl (u4 rfl aT))) (ae rfl aa) aa ?_;clear aQ aR aT;intro bm aV aF a2 a3
 refine ai<|aj<|aj<|at_<|ar (ah a3) rfl<|ar (ak (aC N1 rfl af (ae rfl aF) (au rfl)) (by simp only [pS,Value.cells,Nat.reduceAdd]<;>rfl)) rfl ?_
 refine ar (bj (ax aa aI) rfl (G4 L c s) KF) rfl<|ar (dT A5 (bo (u2 rfl aa) (bo aa bY)) rfl rfl rfl rfl) rfl<|ar (bj (ax aa aI) rfl ((sB [_,_] (by simp)).mono (λq h=>h.trans (by rw [hf]))) uj) rfl ?_
 refine ar (aw aa) rfl<|aZ (u2 rfl (u4 rfl aV)) (u2 rfl (u4 rfl aF)) (u2 rfl (u4 rfl a2)) aa ?_;clear aV aF a2 a3;intro bn a5 a6 a7 aG
 refine ai<|aj<|at_<|ar (ah aG) rfl<|ar (ez aa al) rfl<|bV (u2 rfl a5) (u2 rfl a6) (u2 rfl a7) (u2 rfl aG) aa ?_;clear a5 a6 a7 aG;intro bp ap av ay a8 aH
 refine ai<|aW aH (λam=>?_) (λam=>?_)
 ·replace am:=dR am;exfalso;omega
 replace am:=dG am;refine br<|ai<|aj<|ey 18 (by kernel_rfl) (by kernel_rfl) (by kernel_rfl) (by kernel_rfl) ?_
 refine dr (ah ay) rfl<|dr (ah (ae rfl ap)) rfl<|dr (ah (u2 rfl ay)) rfl<|dr (bj (ax aa aI) rfl (AX l h) E6) rfl<|dr (aB nD rfl (u4 rfl av)) rfl<|dr (ak (aC qY rfl af aa (au rfl)) (by simp only [pS,Value.cells,Nat.reduceAdd]<;>rfl)) rfl ?_
 (refine dr (eL (u2 rfl aa) aa ?_) rfl ?_; · (unfold In64;omega))
 refine dr (bj (ax (ae rfl (u4 rfl aa)) (ax al (ax aa aI))) rfl (lF _ _ _) lN) rfl<|dr (ah aa) rfl<|kq aa (λab bf=>?_) (λab bf=>?_)
 ·skip;refine cZ (ah (ae rfl (u8 rfl ap))) ⟨_,rfl,ab⟩ rfl ?_;refine cZ (aB An rfl (u2 rfl (u8 rfl av))) ⟨_,rfl,(ae rfl ab)⟩ rfl ?_;refine cZ (ak (aC qY rfl af aa (au rfl)) (by simp only [pS,Value.cells,Nat.reduceAdd]<;>rfl)) ⟨_,rfl,(u2 rfl ab)⟩ rfl ?_;refine cZ (ra (u2 rfl aa) aa (by omega)) ⟨_,rfl,(ae rfl (u2 rfl ab))⟩ rfl ?_;refine cZ (eH aa al) ⟨_,rfl,(u4 rfl ab)⟩ rfl ?_;refine dr (bD (ae rfl (u4 rfl ab)) aa) rfl<|dr (bj (ax aa (ax al aI)) rfl (eZ _ _) e6) rfl<|dr (aw (ae rfl (u2 rfl (u4 rfl (u8 rfl aa))))) rfl<|dr (aw (ae rfl aa)) rfl<|dP<|aY (ae rfl aa) aa ?_;clear ab aH ap av ay a8;intro bu a9 ba
  refine ai<|aX<|dX (.inr rfl) (by kernel_rfl) (aS a9) (aS ba) (.ro _ rfl) (.ro _ rfl) ?_
  clear a9 ba af aE ao
  (unfold pY;simp_all)
 refine cQ ⟨_,rfl,.inl ab⟩ rfl ?_;refine cQ ⟨_,rfl,.inl (ae rfl ab)⟩ rfl ?_;refine cQ ⟨_,rfl,.inl (u2 rfl ab)⟩ rfl ?_;refine cQ ⟨_,rfl,.inl (ae rfl (u2 rfl ab))⟩ rfl ?_;refine cQ ⟨_,rfl,.inl (u4 rfl ab)⟩ rfl ?_;refine dr (bJ (ae rfl (u4 rfl ab)) al) rfl<|dr (bj (ax aa (ax al aI)) rfl (eZ _ _) e6) rfl<|dr (aw (ae rfl (u2 rfl (u4 rfl (u8 rfl aa))))) rfl<|dr (aw (ae rfl aa)) rfl<|dP<|aY (ae rfl aa) aa ?_;clear ab aH ap av ay a8;intro bv bb bc
 refine ai<|aX<|dX (.inr rfl) (by kernel_rfl) (aS bb) (aS bc) (.ro _ rfl) (.ro _ rfl) ?_
 clear bb bc af aE ao
 (unfold pY;simp_all)
theorem Gx{n k:Int}(hk:1<=k):(n.tmod k<0->n.tdiv k - 1=n/k)/\(¬ n.tmod k<0->n.tdiv k=n/k):=by
 have h1:=Int.mul_tdiv_add_tmod n k;have h2:n.tmod k<k:=Int.tmod_lt_of_pos n (by omega);have h3: -k<n.tmod k:=Int.lt_tmod_of_pos n (by omega)
 constructor
 ·intro h;have:=(Int.ediv_emod_unique (a:=n) (b:=k) (r:=n.tmod k+k) (q:=n.tdiv k - 1) (by omega)).2 ⟨by rw [Int.mul_sub];omega,by omega,by omega⟩;exact this.1.symm
 ·intro h;have:=(Int.ediv_emod_unique (a:=n) (b:=k) (r:=n.tmod k) (q:=n.tdiv k) (by omega)).2 ⟨by omega,by omega,h2⟩;exact this.1.symm
theorem A6(n k:Int)(hk:1<=k)(hn: -4000000000000000000<=n/\n<=4000000000000000000):bF Tryz.prog 83 [mA n,mA k] (λq=>q=mA (n/k)):=by
 have hb:=E2 hn k;have hf:=Gx (n:=n) hk;refine ck (fn:=Tryz.f83) 16 (by kernel_rfl) rfl (by kernel_rfl) (S8 rfl) ?_;intro an aD hA ao;have ap:ag an (.tmp 0)=_:=hA 0 _ rfl;have au:ag an (.tmp 1)=_:=hA 1 _ rfl;have av:aD.length=0:=by rw [ao];rfl
 clear hA ao;refine aj<|at_<|ar (aw al) rfl<|aY (ae rfl ap) (ae rfl au) ?_;clear ap au;intro aE af ak
 refine ai<|aj<|at_<|ar (ah af) rfl<|ar (ah (ae rfl ak)) rfl ?_
 (refine ar (xq (ae rfl aa) aa (by omega) ?_) rfl ?_; · (unfold In64;omega))
 refine ar (aw aa) rfl<|bq (u4 rfl af) (u4 rfl ak) aa ?_;clear af ak;intro aF ax ay az
 refine ai<|aj<|aj<|at_<|ar (ah ax) rfl<|ar (ah (ae rfl ay)) rfl<|ar (ra (ae rfl aa) aa (by omega)) rfl ?_
 refine ar (cL aa al) rfl<|aY (u4 rfl az) aa ?_;clear ax ay az;intro aG ad am
 refine ai<|aW am (λab=>?_) (λab=>?_)
 ·replace ab:=bt ab;refine at_<|ar (ah ad) rfl ?_
  (refine ar (eL aa al ?_) rfl ?_; · (unfold In64;omega))
  refine ar (aw aa) rfl<|aT aa ?_;clear am ad;intro aH aA
  refine ai<|aj<|at_<|ar (ah aA) rfl<|ar (aw aa) rfl<|aT aa ?_;clear aA;intro aI aB
  refine ai<|aX<|bK (.inr rfl) (by kernel_rfl) (aS aB) (.ro _ rfl) ?_
  clear aB av
  (refine rN ?_;exact hf.1 (by assumption))
 replace ab:=bf ab;refine br<|ai<|aj<|at_<|ar (ah ad) rfl<|ar (aw aa) rfl<|aT aa ?_;clear am ad;intro aJ aC
 refine ai<|aX<|bK (.inr rfl) (by kernel_rfl) (aS aC) (.ro _ rfl) ?_
 clear aC av
 (refine rN ?_;exact hf.2 (by assumption))
def oa(ws:List Int)(i:Nat)(d:Int):List Int:=ws.set i (ws.getD i default+d)
def jF(ws:List Int)(i:Nat)(d:Int):List Int:=ws.set i (ws.getD i default - d)
theorem cw(ws:List Int)(i:Nat)(d:Int):ws.set i (ws.getD i default+d)=oa ws i d:=rfl
theorem cx(ws:List Int)(i:Nat)(d:Int):ws.set i (ws.getD i default - d)=jF ws i d:=rfl
def ek(ws:List Int):Nat->Nat
 | 0=>0
 | n+1=>ek ws n+(ws.getD n default).natAbs
theorem wy{ws:List Int}{m:Nat}:∀ {n:Nat},m<=n->ek ws m<=ek ws n
 | 0,h=>by
  obtain rfl:m=0:=by omega
  exact Tf _
 | n+1,h=>by
  by_cases hm:m=n+1
  ·subst hm;exact Tf _
  ·have:=wy (ws:=ws) (m:=m) (n:=n) (by omega);simp only [ek];omega
theorem qA{ws:List Int}{n i:Nat}(h:i<n):(ws.getD i default).natAbs <=ek ws n:=by
 have:=wy (ws:=ws) (m:=i+1) (n:=n) (by omega);simp only [ek]at this;omega
theorem KJ(ws:List Int)(i j:Nat)(v:Int):(ws.set i v).getD j default=if i=j/\j<ws.length then v else ws.getD j default:=by
 rw [Ta,List.getElem?_set]
 by_cases h:i=j
 ·subst h
  by_cases hl:i<ws.length
  ·simp [hl]
  ·simp [hl]
 ·simp [h]
theorem xd(ws:List Int)(i:Nat)(v:Int):∀ n:Nat,ek (ws.set i v) n<=ek ws n+if i<n then(v - ws.getD i default).natAbs else 0
 | 0=>by simp [ek]
 | n+1=>by
  have ih:=xd ws i v n;simp only [ek];rw [KJ]
  by_cases h:i=n
  ·subst h;rw [if_neg (by omega)]at ih;rw [if_pos (show i<i+1 by omega)]
   split<;>omega
  ·rw [if_neg (λhc=>h hc.1)]
   by_cases h2:i<n
   ·rw [if_pos h2]at ih;rw [if_pos (by omega)];omega
   ·rw [if_neg h2]at ih;rw [if_neg (by omega)];omega
theorem N2{ws:List Int}{i n A B:Nat}{d:Int}(h:ek ws n<=A)(hd:d.natAbs<=B):ek (oa ws i d) n<=A+B:=by
 have:=xd ws i (ws.getD i default+d) n;unfold oa
 split at this<;>omega
theorem tn{ws:List Int}{i n A B:Nat}{d:Int}(h:ek ws n<=A)(hd:d.natAbs<=B):ek (jF ws i d) n<=A+B:=by
 have:=xd ws i (ws.getD i default - d) n;unfold jF
 split at this<;>omega
theorem DI(m:Nat):∀ n:Nat,ek (List.replicate m 0) n=0
 | 0=>rfl
 | n+1=>by
  simp only [ek,DI m n];rw [Ta,List.getElem?_replicate]
  split<;>rfl
theorem KL(ws:List Int)(i:Nat)(d:Int):(oa ws i d).length =ws.length:=by simp [oa]
theorem sD(ws:List Int)(i:Nat)(d:Int):(jF ws i d).length =ws.length:=by simp [jF]
def lq(l:aU)(L p:Int):Int:=(l.bs.getD (cY l p) default).len *(l.bs.getD (cY l (p+L)) default).len *L
def mV(l:aU)(L p:Int)(j:Nat):List Int:=oa (List.replicate l.js.length 0) j (lq l L p)
def mW(l:aU)(L p:Int)(j:Nat):List Int:=jF (mV l L p j) (cY l p) ((L - (ca l.bs j - p))*((l.bs.getD (cY l p) default).len - fy l p)*(l.bs.getD (cY l (p+L)) default).len)
def mX(l:aU)(L p:Int)(j:Nat):List Int:=jF (mW l L p j) (cY l p+1) ((L - (ca l.bs j - p))*fy l p*(l.bs.getD (cY l (p+L)) default).len)
def mY(l:aU)(L p:Int)(j:Nat):List Int:=jF (mX l L p j) (cY l (p+L)) ((ca l.bs j - p)*((l.bs.getD (cY l (p+L)) default).len - fy l (p+L))*(l.bs.getD (cY l p) default).len)
def kH(l:aU)(L p:Int)(j:Nat):List Int:=jF (mY l L p j) (cY l (p+L)+1) ((ca l.bs j - p)*fy l (p+L)*(l.bs.getD (cY l p) default).len)
theorem DJ{l:aU}{L p:Int}{j:Nat}:(mV l L p j).length =l.js.length:=by simp [mV,KL]
theorem DK{l:aU}{L p:Int}{j:Nat}:(mW l L p j).length =l.js.length:=by simp [mW,sD,DJ]
theorem DL{l:aU}{L p:Int}{j:Nat}:(mX l L p j).length =l.js.length:=by simp [mX,sD,DK]
theorem DN{l:aU}{L p:Int}{j:Nat}:(mY l L p j).length =l.js.length:=by simp [mY,sD,DL]
theorem Qp{l:aU}{L p:Int}{j:Nat}:(kH l L p j).length =l.js.length:=by simp [kH,sD,DN]
structure Pos (l:aU) (L p:Int) (j:Nat):Prop where
 L0:1000<=L
 L1:L<=30000
 p0:0<=p
 p1:p+L<=ca l.bs l.bs.length
 j0:p<=ca l.bs j
 j1:ca l.bs j<=p+L
 jn:j<l.js.length
theorem Pos.bd{l:aU}(h:dc l){L p:Int}{j:Nat}(q:Pos l L p j):1<=lq l L p/\lq l L p<=27000000000000/\((L - (ca l.bs j - p))*((l.bs.getD (cY l p) default).len - fy l p)*(l.bs.getD (cY l (p+L)) default).len).natAbs <=27000000000000/\
 ((L - (ca l.bs j - p))*fy l p*(l.bs.getD (cY l (p+L)) default).len).natAbs <=27000000000000/\((ca l.bs j - p)*((l.bs.getD (cY l (p+L)) default).len - fy l (p+L))*(l.bs.getD (cY l p) default).len).natAbs <=27000000000000/\((ca l.bs j - p)*fy l (p+L)*(l.bs.getD (cY l p) default).len).natAbs <=27000000000000:=by
 obtain⟨L0,L1,p0,p1,j0,j1,jn⟩:=q;obtain⟨a1,a2,a3⟩:=vg h (p:=p) ⟨p0,by omega⟩;obtain⟨b1,b2,b3⟩:=vg h (p:=p+L) ⟨by omega,p1⟩;have c1:=h.jf _ a1;have c2:=h.jf _ b1;have t:∀ {x y z:Int},x.natAbs<=30000->y.natAbs<=30000->z.natAbs<=30000->(x*y*z).natAbs <=27000000000000:=λh1 h2 h3=>fL (30000*30000) 30000 (fL 30000 30000 h1 h2) h3
 have d0:=t (x:=(l.bs.getD (cY l p) default).len) (y:=(l.bs.getD (cY l (p+L)) default).len) (z:=L) (by omega) (by omega) (by omega);have d1:0<lq l L p:=Int.mul_pos (Int.mul_pos (by omega) (by omega)) (by omega);refine⟨by omega,by unfold lq at d1 ⊢;omega,t (by omega) (by omega) (by omega),t (by omega) (by omega) (by omega),t (by omega) (by omega) (by omega),t (by omega) (by omega) (by omega)⟩
theorem Pos.abs{l:aU}(h:dc l){L p:Int}{j:Nat}(q:Pos l L p j):ek (mV l L p j) l.js.length<=27000000000000/\ek (mW l L p j) l.js.length<=54000000000000/\ek (mX l L p j) l.js.length<=81000000000000/\ek (mY l L p j) l.js.length<=108000000000000/\ek (kH l L p j) l.js.length<=135000000000000:=by
 obtain⟨d0,d1,d2,d3,d4,d5⟩:=q.bd h;have e0:ek (List.replicate l.js.length 0) l.js.length<=0:=by rw [DI];exact Tf _
 have e1:ek (mV l L p j) l.js.length<=0+27000000000000:=N2 e0 (by omega);have e2:ek (mW l L p j) l.js.length<=0+27000000000000+27000000000000:=tn e1 d2;have e3:ek (mX l L p j) l.js.length<=0+27000000000000+27000000000000+27000000000000:=tn e2 d3;have e4:ek (mY l L p j) l.js.length<=0+27000000000000+27000000000000+27000000000000+27000000000000:=tn e3 d4;have e5:ek (kH l L p j) l.js.length<=0+27000000000000+27000000000000+27000000000000+27000000000000+27000000000000:=tn e4 d5;omega
def lr(f:Int->fR->Int)(ws:List Int)(js:List fR):Nat->Int
 | 0=>0
 | n+1=>lr f ws js n+f (ws.getD n default) (js.getD n default)
def qd(w:Int)(j:fR):Int:=w*j.acr+min (w*j.lo) (w*j.hi)
def qe(w:Int)(j:fR):Int:=w*j.acr+max (w*j.lo) (w*j.hi)
theorem Gy{w:Int}{j:fR}{A:Nat}(hw:w.natAbs<=A)(h1: -20000<=j.acr/\j.acr<=20000)(h2: -100<=j.lo/\j.hi<=100/\j.lo<=j.hi):(qd w j).natAbs <=20100*A/\(qe w j).natAbs <=20100*A/\(w*j.acr).natAbs <=A*20000/\(w*j.lo).natAbs <=A*100/\(w*j.hi).natAbs <=A*100:=by
 have m1:=fL (x:=w) (y:=j.acr) A 20000 hw (by omega);have m2:=fL (x:=w) (y:=j.lo) A 100 hw (by omega);have m3:=fL (x:=w) (y:=j.hi) A 100 hw (by omega);unfold qd qe;omega
theorem E3{l:aU}(h:dc l){f:Int->fR->Int}(hf:f=qd\/f=qe){ws:List Int}:∀ {n:Nat},n<=l.js.length->(lr f ws l.js n).natAbs <=20100*ek ws n
 | 0,_=>by simp [lr]
 | n+1,hn=>by
  have ih:=E3 h hf (ws:=ws) (n:=n) (by omega);have j1:=h.m9 n (by omega);have:=Gy (w:=ws.getD n default) (j:=l.js.getD n default) (Tf _) j1.1 ⟨j1.2.2.1,j1.2.2.2.1,j1.2.2.2.2⟩;simp only [lr,ek];rcases hf with rfl|rfl<;>omega
def Gz(l:aU)(L p:Int)(j:Nat):Int:=lr qd (kH l L p j) l.js l.js.length/lq l L p
def GA(l:aU)(L p:Int)(j:Nat):Int:= -(-lr qe (kH l L p j) l.js l.js.length/lq l L p)
theorem A7:∀ args w,(callFunc 82 args).run Tryz.prog w= .ok (.enter 82 args) w:=λ_ _=>by kernel_rfl
theorem A8:∀ args w,(callFunc 83 args).run Tryz.prog w= .ok (.enter 83 args) w:=λ_ _=>by kernel_rfl
theorem DO:bI Tryz.prog 23 59 4 32 (.agg #[.int .i64 0,.int .i64 0,.int .i64 0,.int .i64 0]):=⟨by kernel_rfl,by kernel_rfl,by kernel_rfl⟩
theorem DR:bI Tryz.prog 24 95 2 16 (.agg #[.int .i64 0,.int .i64 0]):=⟨by kernel_rfl,by kernel_rfl,by kernel_rfl⟩
theorem iR:bI Tryz.prog 85 3 1 8 (.int .i64 0):=⟨by kernel_rfl,by kernel_rfl,by kernel_rfl⟩
theorem DT:aN Tryz.prog 23 false 1:=⟨by kernel_rfl,by kernel_rfl⟩
theorem DU:aN Tryz.prog 24 false 1:=⟨by kernel_rfl,by kernel_rfl⟩
theorem fo:aN Tryz.prog 3 false 1:=⟨by kernel_rfl,by kernel_rfl⟩
theorem N3:aN Tryz.prog 48 true 2:=⟨by kernel_rfl,by kernel_rfl⟩
theorem N4:aN Tryz.prog 59 true 4:=⟨by kernel_rfl,by kernel_rfl⟩
theorem N5:aN Tryz.prog 85 false 1:=⟨by kernel_rfl,by kernel_rfl⟩
theorem cA(l:aU)(L p:Int):(l.bs.getD (cY l p) default).len *(l.bs.getD (cY l (p+L)) default).len *L=lq l L p:=rfl
theorem cB(l:aU)(L p:Int)(j:Nat):oa (List.replicate l.js.length 0) j (lq l L p)=mV l L p j:=rfl
theorem cC(l:aU)(L p:Int)(j:Nat):jF (mV l L p j) (cY l p) ((L - (ca l.bs j - p))*((l.bs.getD (cY l p) default).len - fy l p)*(l.bs.getD (cY l (p+L)) default).len)=mW l L p j:=rfl
theorem cD(l:aU)(L p:Int)(j:Nat):jF (mW l L p j) (cY l p+1) ((L - (ca l.bs j - p))*fy l p*(l.bs.getD (cY l (p+L)) default).len)=mX l L p j:=rfl
theorem cE(l:aU)(L p:Int)(j:Nat):jF (mX l L p j) (cY l (p+L)) ((ca l.bs j - p)*((l.bs.getD (cY l (p+L)) default).len - fy l (p+L))*(l.bs.getD (cY l p) default).len)=mY l L p j:=rfl
theorem cF(l:aU)(L p:Int)(j:Nat):jF (mY l L p j) (cY l (p+L)+1) ((ca l.bs j - p)*fy l (p+L)*(l.bs.getD (cY l p) default).len)=kH l L p j:=rfl
theorem iu{x:Int}{A:Nat}(h:x.natAbs<=A): -(A:Int)<=x/\x<=A:=by omega
theorem Qq{n k:Int}(hk:1<=k)(hn: -4000000000000000000<=n/\n<=4000000000000000000): -4000000000000000001<=n/k/\n/k<=4000000000000000000:=by
 have hb:=E2 hn k;have hf:=Gx (n:=n) hk
 by_cases h:n.tmod k<0
 ·have:=hf.1 h;omega
 ·have:=hf.2 h;omega
theorem uR{l:aU}(h:dc l){f:Int->fR->Int}(hf:f=qd\/f=qe){ws:List Int}{A:Nat}(hw:ek ws l.js.length<=A){n:Nat}(hn:n<=l.js.length): -(20100*(A:Int))<=lr f ws l.js n/\lr f ws l.js n<=20100*(A:Int):=by
 have h1:=E3 h hf (ws:=ws) hn;have h2:=wy (ws:=ws) hn;omega
theorem HC(l:aU)(h:dc l)(L c s p:Int)(j:Nat)(q:Pos l L p j):bF Tryz.prog 49 [jd l,pX L c s,mA p,mA j] (λq=>q= .agg [mA (Gz l L p j),mA (GA l L p j)]):=by
 refine ck (fn:=Tryz.f49) 204 (by kernel_rfl) rfl (by kernel_rfl) (S8 rfl) ?_;intro bh gS hA dj;have dk:ag bh (.tmp 0)=_:=hA 0 _ rfl;have dl:ag bh (.tmp 1)=_:=hA 1 _ rfl;have dm:ag bh (.tmp 2)=_:=hA 2 _ rfl;have dn:ag bh (.tmp 3)=_:=hA 3 _ rfl;have bL:gS.length=0:=by rw [dj];rfl
 clear hA dj;have hn1:=h.n1;have hn0:=h.n0;have hjs:=h.js;obtain⟨L0,L1,p0,p1,j0,j1,jn⟩:=id q;obtain⟨a1,a2,a3⟩:=vg h (p:=p) ⟨p0,by omega⟩;obtain⟨b1,b2,b3⟩:=vg h (p:=p+L) ⟨by omega,p1⟩;have c1:=h.jf _ a1;have c2:=h.jf _ b1;have hpl:=nC (bs:=l.bs) (n:=l.bs.length);have hpb:=h.oy (n:=l.bs.length) (Tf _);have hpj:=h.oy (n:=j) (by omega);have hgj:=jO (bs:=l.bs) (n:=l.bs.length) (j:=j) (by omega);obtain⟨d0,d1,d2,d3,d4,d5⟩:=q.bd h;replace d2:=iu d2;replace d3:=iu d3;replace d4:=iu d4;replace d5:=iu d5;obtain⟨s1,s2,s3,s4,s5⟩:=q.abs h;have m1:=iu (fL (x:=(l.bs.getD (cY l p) default).len) (y:=(l.bs.getD (cY l (p+L)) default).len) 30000 30000 (by omega) (by omega));have m2:=iu (fL (x:=L - (ca l.bs j - p)) (y:=(l.bs.getD (cY l p) default).len - fy l p) 30000 30000 (by omega) (by omega));have m3:=iu (fL (x:=L - (ca l.bs j - p)) (y:=fy l p) 30000 30000 (by omega) (by omega));have m4:=iu (fL (x:=ca l.bs j - p) (y:=(l.bs.getD (cY l (p+L)) default).len - fy l (p+L)) 30000 30000 (by omega) (by omega));have m5:=iu (fL (x:=ca l.bs j - p) (y:=fy l (p+L)) 30000 30000 (by omega) (by omega));have hdd:(l.bs.getD (cY l p) default).len *(l.bs.getD (cY l (p+L)) default).len *L=lq l L p:=rfl;have g0:(List.replicate l.js.length (0:Int)).getD j default=0:=(by simp [jn]);have g2:=iu (TP (qA (ws:=mV l L p j) (n:=l.js.length) (i:=cY l p) (by omega)) s1);have g3:=iu (TP (qA (ws:=mW l L p j) (n:=l.js.length) (i:=cY l p+1) (by omega)) s2);have g4:=iu (TP (qA (ws:=mX l L p j) (n:=l.js.length) (i:=cY l (p+L)) (by omega)) s3);have g5:=iu (TP (qA (ws:=mY l L p j) (n:=l.js.length) (i:=cY l (p+L)+1) (by omega)) s4);have k0:(List.replicate l.js.length (0:Int)).length =l.js.length:=(by simp);have k1:=DJ (l:=l) (L:=L) (p:=p) (j:=j);have k2:=DK (l:=l) (L:=L) (p:=p) (j:=j);have k3:=DL (l:=l) (L:=L) (p:=p) (j:=j);have k4:=DN (l:=l) (L:=L) (p:=p) (j:=j);have k5:=Qp (l:=l) (L:=L) (p:=p) (j:=j);refine aj<|at_<|aL (dO dl rfl bL) trivial rfl (λh6 bM=>?_)
 have dp:=bH bM bL;have aP:=bG bM bL;have aP:_=1:=aP;clear bM;refine aL (cu uS rfl aP) trivial rfl (λh7 bm=>?_);have bO:=bH bm aP;simp only [pS,Value.cells,Nat.reduceAdd,aF,aH,Td,bB,cz,cy,hgj,cw,cx,cA,cB,cC,cD,cE,cF]at bO;have bp:=aJ bm dp;have aQ:=bG bm aP;have aQ:_=2:=aQ;clear bm dp;refine bV (u2 rfl dk) (u2 rfl dm) (u2 rfl dn) (ae rfl aa) aa ?_;clear dk dl dm dn;intro h8 bQ bS dq dt du;refine ai<|aj<|at_<|ar (ah bQ) rfl<|ar (ah (ae rfl bS)) rfl<|ar (bj (ax (ae rfl aa) (ax aa aI)) rfl (F2 l h p ⟨p0,by omega⟩) A7) rfl ?_
 refine ar (ah aa) rfl<|ar (cH aa rfl) rfl<|ar (cH (ae rfl aa) rfl) rfl<|ar (aw (ae rfl aa)) rfl<|ar (aw (ae rfl aa)) rfl<|gZ (u8 rfl bQ) (u8 rfl bS) (u8 rfl dq) (u8 rfl dt) (u8 rfl du) (ae rfl aa) aa ?_;clear bQ bS dq dt du;intro h9 bT bU dv bX dw dx dy
 refine ai<|aj<|at_<|ar (ah bT) rfl<|ar (ah (ae rfl bU)) rfl<|ar (aB nD rfl (u2 rfl bX)) rfl<|ar (ak (aC fo rfl bp aa (au rfl)) (by simp only [pS,Value.cells,Nat.reduceAdd,aF,aH,Td,bB,cz,cy,hgj,cw,cx,cA,cB,cC,cD,cE,cF]<;>rfl)) rfl ?_
 (refine ar (cj (u2 rfl aa) aa ?_) rfl ?_; · (unfold In64;omega))
 refine ar (bj (ax (u4 rfl aa) (ax aa aI)) rfl (F2 l h (p+L) ⟨by omega,p1⟩) A7) rfl ?_;refine ar (ah aa) rfl<|ar (cH aa rfl) rfl<|ar (cH (ae rfl aa) rfl) rfl<|ar (aw (ae rfl aa)) rfl<|ar (aw (ae rfl aa)) rfl<|rK (ae rfl (u2 rfl (u8 rfl bT))) (ae rfl (u2 rfl (u8 rfl bU))) (ae rfl (u2 rfl (u8 rfl dv))) (ae rfl (u2 rfl (u8 rfl bX))) (ae rfl (u2 rfl (u8 rfl dw))) (ae rfl (u2 rfl (u8 rfl dx))) (ae rfl (u2 rfl (u8 rfl dy))) (ae rfl aa) aa ?_;clear bT dy bU dv bX dw dx;intro ia bZ dB b0 dE dF dG dH dI dJ
 refine ai<|aj<|at_<|ar (ah bZ) rfl<|ar (fh aa) rfl<|ar (ak (bR kV rfl aa) (by simp only [pS,Value.cells,Nat.reduceAdd,aF,aH,Td,bB,cz,cy,hgj,cw,cx,cA,cB,cC,cD,cE,cF]<;>rfl)) rfl ?_
 refine ar (ak (bw N5 rfl aa (au rfl)) (by simp only [pS,Value.cells,Nat.reduceAdd,aF,aH,Td,bB,cz,cy,hgj,cw,cx,cA,cB,cC,cD,cE,cF]<;>rfl)) rfl ?_;refine ar (ah (u4 rfl b0)) rfl<|ar (ak (cr iR (ae rfl aa) aa (by omega) (by(refine fg ?_;omega))) (by simp only [pS,Value.cells,Nat.reduceAdd,aF,aH,Td,bB,cz,cy,hgj,cw,cx,cA,cB,cC,cD,cE,cF]<;>rfl)) rfl ?_
 refine ar (ak (bw fo rfl aa (au rfl)) (by simp only [pS,Value.cells,Nat.reduceAdd,aF,aH,Td,bB,cz,cy,hgj,cw,cx,cA,cB,cC,cD,cE,cF]<;>rfl)) rfl ?_;refine ar (ah (ae rfl (u2 rfl (u4 rfl dB)))) rfl ?_
 (refine ar (eL (ae rfl aa) aa ?_) rfl ?_; · (unfold In64;omega))
 refine ar (aw aa) rfl<|rK (u2 rfl (u8 rfl bZ)) (u2 rfl (u8 rfl b0)) (u2 rfl (u8 rfl dE)) (u2 rfl (u8 rfl dF)) (u2 rfl (u8 rfl dG)) (u2 rfl (u8 rfl dH)) (u2 rfl (u8 rfl dI)) (u2 rfl (u8 rfl dJ)) aa ?_;clear bZ dH dI dJ dB b0 dE dF dG;intro ib bq dK dL dM b6 dQ b8 dR dS
 refine ai<|aj<|ey 20 (by kernel_rfl) (by kernel_rfl) (by kernel_rfl) (by kernel_rfl) ?_
 refine dr (ah bq) rfl<|dr (fh aa) rfl<|dr (ak (bR iy rfl aa) (by simp only [pS,Value.cells,Nat.reduceAdd,aF,aH,Td,bB,cz,cy,hgj,cw,cx,cA,cB,cC,cD,cE,cF]<;>rfl)) rfl ?_
 refine dr (ak (bR dA rfl aa) (by simp only [pS,Value.cells,Nat.reduceAdd,aF,aH,Td,bB,cz,cy,hgj,cw,cx,cA,cB,cC,cD,cE,cF]<;>rfl)) rfl ?_;refine dr (ak (bw DU rfl aa (au rfl)) (by simp only [pS,Value.cells,Nat.reduceAdd,aF,aH,Td,bB,cz,cy,hgj,cw,cx,cA,cB,cC,cD,cE,cF]<;>rfl)) rfl ?_;refine dr (ah (ae rfl (u4 rfl b6))) rfl<|dr (ak (cr DR (ae rfl aa) aa (by omega) (by(refine fg ?_;omega))) (by simp only [pS,Value.cells,Nat.reduceAdd,aF,aH,Td,bB,cz,cy,hgj,cw,cx,cA,cB,cC,cD,cE,cF]<;>rfl)) rfl ?_
 refine dr (ak (bR ki rfl aa) (by simp only [pS,Value.cells,Nat.reduceAdd,aF,aH,Td,bB,cz,cy,hgj,cw,cx,cA,cB,cC,cD,cE,cF]<;>rfl)) rfl ?_;refine dr (ak (bw fo rfl aa (au rfl)) (by simp only [pS,Value.cells,Nat.reduceAdd,aF,aH,Td,bB,cz,cy,hgj,cw,cx,cA,cB,cC,cD,cE,cF]<;>rfl)) rfl ?_;refine dr (ah (ae rfl (u8 rfl bq))) rfl<|dr (fh aa) rfl<|dr (ak (bR iy rfl aa) (by simp only [pS,Value.cells,Nat.reduceAdd,aF,aH,Td,bB,cz,cy,hgj,cw,cx,cA,cB,cC,cD,cE,cF]<;>rfl)) rfl ?_
 refine dr (ak (bR dA rfl aa) (by simp only [pS,Value.cells,Nat.reduceAdd,aF,aH,Td,bB,cz,cy,hgj,cw,cx,cA,cB,cC,cD,cE,cF]<;>rfl)) rfl ?_;refine dr (ak (bw DU rfl aa (au rfl)) (by simp only [pS,Value.cells,Nat.reduceAdd,aF,aH,Td,bB,cz,cy,hgj,cw,cx,cA,cB,cC,cD,cE,cF]<;>rfl)) rfl ?_;refine dr (ah (u2 rfl (u4 rfl (u8 rfl b8)))) rfl<|dr (ak (cr DR (ae rfl aa) aa (by omega) (by(refine fg ?_;omega))) (by simp only [pS,Value.cells,Nat.reduceAdd,aF,aH,Td,bB,cz,cy,hgj,cw,cx,cA,cB,cC,cD,cE,cF]<;>rfl)) rfl ?_
 refine dr (ak (bR ki rfl aa) (by simp only [pS,Value.cells,Nat.reduceAdd,aF,aH,Td,bB,cz,cy,hgj,cw,cx,cA,cB,cC,cD,cE,cF]<;>rfl)) rfl ?_;refine dr (ak (bw fo rfl aa (au rfl)) (by simp only [pS,Value.cells,Nat.reduceAdd,aF,aH,Td,bB,cz,cy,hgj,cw,cx,cA,cB,cC,cD,cE,cF]<;>rfl)) rfl ?_;refine dr (aw (ae rfl (u8 rfl aa))) rfl<|dr (aw (ae rfl aa)) rfl<|dP<|ze (u4 rfl (u16 rfl bq)) (u4 rfl (u16 rfl dK)) (u4 rfl (u16 rfl dL)) (u4 rfl (u16 rfl dM)) (u4 rfl (u16 rfl b6)) (u4 rfl (u16 rfl dQ)) (u4 rfl (u16 rfl b8)) (u4 rfl (u16 rfl dR)) (u4 rfl (u16 rfl dS)) (ae rfl aa) aa ?_;clear bq dQ b8 dR dS dK dL dM b6;intro ic dT dU b9 dV dX dY dZ ea ec cb cc
 refine ai<|aj<|at_<|ar (ah cb) rfl<|ar (ah (ae rfl cc)) rfl ?_
 (refine ar (fa (ae rfl aa) aa ?_) rfl ?_; · (unfold In64;omega))
 refine ar (aB nD rfl (ae rfl (u2 rfl b9))) rfl<|ar (ak (aC fo rfl bp aa (au rfl)) (by simp only [pS,Value.cells,Nat.reduceAdd,aF,aH,Td,bB,cz,cy,hgj,cw,cx,cA,cB,cC,cD,cE,cF]<;>rfl)) rfl ?_
 (refine ar (fa (u2 rfl aa) aa ?_) rfl ?_; · (unfold In64;omega))
 refine ar (aw aa) rfl<|zf (ae rfl (u2 rfl (u4 rfl dT))) (ae rfl (u2 rfl (u4 rfl dU))) (ae rfl (u2 rfl (u4 rfl b9))) (ae rfl (u2 rfl (u4 rfl dV))) (ae rfl (u2 rfl (u4 rfl dX))) (ae rfl (u2 rfl (u4 rfl dY))) (ae rfl (u2 rfl (u4 rfl dZ))) (ae rfl (u2 rfl (u4 rfl ea))) (ae rfl (u2 rfl (u4 rfl ec))) (ae rfl (u2 rfl (u4 rfl cb))) (ae rfl (u2 rfl (u4 rfl cc))) aa ?_;clear dT dY dZ ea ec cb cc dU b9 dV dX;intro ie cd ed ee ef eg eh ei ej ek en eo ep
 refine ai<|aj<|at_<|ar (ah cd) rfl<|ar (fh aa) rfl<|ar (ak (bR iy rfl aa) (by simp only [pS,Value.cells,Nat.reduceAdd,aF,aH,Td,bB,cz,cy,hgj,cw,cx,cA,cB,cC,cD,cE,cF]<;>rfl)) rfl ?_
 refine ar (ak (bR dW rfl aa) (by simp only [pS,Value.cells,Nat.reduceAdd,aF,aH,Td,bB,cz,cy,hgj,cw,cx,cA,cB,cC,cD,cE,cF]<;>rfl)) rfl ?_;refine ar (ak (bw DT rfl aa (au rfl)) (by simp only [pS,Value.cells,Nat.reduceAdd,aF,aH,Td,bB,cz,cy,hgj,cw,cx,cA,cB,cC,cD,cE,cF]<;>rfl)) rfl ?_;refine ar (ak (bW aa rfl DO.1) (by simp only [bn]<;>rfl)) rfl ?_;refine aL (RA iR rfl rfl aQ aa aa (by omega) (by omega)) trivial rfl (λig aR=>?_);have ab:=bH aR aQ;simp only [pS,Value.cells,Nat.reduceAdd,aF,aH,Td,bB,cz,cy,hgj,cw,cx,cA,cB,cC,cD,cE,cF]at ab;have er:=aJ aR bO;have eu:=aJ aR bp;have ce:=bG aR aQ;have ce:_=3:=ce;clear aR bO bp;refine ar (aw aa) rfl<|Sz (u8 rfl cd) (u8 rfl ed) (u8 rfl ee) (u8 rfl ef) (u8 rfl eg) (u8 rfl eh) (u8 rfl ei) (u8 rfl ej) (u8 rfl ek) (u8 rfl en) (u8 rfl eo) (u8 rfl ep) aa ?_;clear cd eh ei ej ek en eo ep ed ee ef eg;intro ih ev ew ez eA eB eC eD eE eF eG eH cf cg
 refine ai<|aj<|at_<|ar (ah cg) rfl<|ar (ah (ae rfl ew)) rfl<|ar (jk iR ab (ae rfl aa) aa (by omega) (by simp only [bn]<;>omega)) rfl ?_
 refine ar (ak (mz fo rfl ab aa (au rfl) (by(refine fg ?_;omega))) (by simp only [pS,Value.cells,Nat.reduceAdd,aF,aH,Td,bB,cz,cy,hgj,cw,cx,cA,cB,cC,cD,cE,cF]<;>rfl)) rfl ?_;refine ar (ah (u4 rfl cf)) rfl ?_
 (refine ar (cj (ae rfl aa) aa ?_) rfl ?_; · (unfold In64;omega))
 refine ar (jk iR ab (ae rfl (u4 rfl aa)) (u4 rfl aa) (by omega) (by simp only [bn]<;>omega)) rfl ?_;refine aL (qf aa (ae rfl aa) rfl rfl rfl ab (TB _).symm (by(refine fg ?_;omega)) il rfl (au rfl)) trivial rfl (λij aS=>?_);have ad:=bk aS ab;simp only [pS,Value.cells,Nat.reduceAdd,aF,aH,Td,bB,cz,cy,hgj,cw,cx,cA,cB,cC,cD,cE,cF]at ad;have eI:=ao aS er (by decide);have ci:=ao aS eu (by decide);have gT:=bc aS ce;clear aS ab er eu;refine zf (ay (ae rfl (u2 rfl (u4 rfl ev)))) (ay (ae rfl (u2 rfl (u4 rfl ez)))) (ay (ae rfl (u2 rfl (u4 rfl eA)))) (ay (ae rfl (u2 rfl (u4 rfl eB)))) (ay (ae rfl (u2 rfl (u4 rfl eC)))) (ay (ae rfl (u2 rfl (u4 rfl eD)))) (ay (ae rfl (u2 rfl (u4 rfl eE)))) (ay (ae rfl (u2 rfl (u4 rfl eF)))) (ay (ae rfl (u2 rfl (u4 rfl eG)))) (ay (ae rfl (u2 rfl (u4 rfl eH)))) (ay (ae rfl (u2 rfl (u4 rfl cf)))) (ay (ae rfl (u2 rfl (u4 rfl cg)))) ?_;clear ev eC eD eE eF eG eH cf cg ew ez eA eB;intro ik eJ cm eK cn co eM eN cp cq ct eO cG;refine ai<|aj<|ey 16 (by kernel_rfl) (by kernel_rfl) (by kernel_rfl) (by kernel_rfl) ?_
 refine dr (ah cG) rfl<|dr (ah (ae rfl cn)) rfl<|dr (jk iR ad (ae rfl aa) aa (by omega) (by simp only [bn]<;>omega)) rfl ?_
 refine dr (ak (mz fo rfl ad aa (au rfl) (by(refine fg ?_;omega))) (by simp only [pS,Value.cells,Nat.reduceAdd,aF,aH,Td,bB,cz,cy,hgj,cw,cx,cA,cB,cC,cD,cE,cF]<;>rfl)) rfl ?_;refine dr (aB nD rfl (u4 rfl cm)) rfl<|dr (ak (aC fo rfl ci aa (au rfl)) (by simp only [pS,Value.cells,Nat.reduceAdd,aF,aH,Td,bB,cz,cy,hgj,cw,cx,cA,cB,cC,cD,cE,cF]<;>rfl)) rfl ?_
 refine dr (ah (u2 rfl (u4 rfl cp))) rfl ?_
 (refine dr (eL (ae rfl aa) aa ?_) rfl ?_; · (unfold In64;omega))
 refine dr (ah (u8 rfl cq)) rfl<|dr (ah (ae rfl (u8 rfl co))) rfl ?_
 (refine dr (eL (ae rfl aa) aa ?_) rfl ?_; · (unfold In64;omega))
 (refine dr (fa (ae rfl (u2 rfl aa)) aa ?_) rfl ?_; · (unfold In64;omega))
 refine dr (ah (u4 rfl (u8 rfl ct))) rfl ?_
 (refine dr (fa (ae rfl aa) aa ?_) rfl ?_; · (unfold In64;omega))
 (refine dr (eL (u2 rfl (u8 rfl aa)) aa ?_) rfl ?_; · (unfold In64;omega))
 refine dr (jk iR ad (u2 rfl (u4 rfl (u8 rfl aa))) (ae rfl (u4 rfl (u8 rfl aa))) (by omega) (by simp only [bn]<;>omega)) rfl ?_;refine dP<|aL (qf aa (ae rfl aa) rfl rfl rfl ad (TB _).symm (by(refine fg ?_;omega)) il rfl (au rfl)) trivial rfl (λim aV=>?_)
 have af:=bk aV ad;simp only [pS,Value.cells,Nat.reduceAdd,aF,aH,Td,bB,cz,cy,hgj,cw,cx,cA,cB,cC,cD,cE,cF]at af;have eP:=ao aV eI (by decide);have cI:=ao aV ci (by decide);have gU:=bc aV gT;clear aV ad eI ci;refine zf (ay (u16 rfl eJ)) (ay (u16 rfl cm)) (ay (u16 rfl eK)) (ay (u16 rfl cn)) (ay (u16 rfl co)) (ay (u16 rfl eM)) (ay (u16 rfl eN)) (ay (u16 rfl cp)) (ay (u16 rfl cq)) (ay (u16 rfl ct)) (ay (u16 rfl eO)) (ay (u16 rfl cG)) ?_;clear eJ co eM eN cp cq ct eO cG cm eK cn;intro io eQ eR eS eT eU eW eX cJ eY cK eZ cM;refine ai<|aj<|ey 15 (by kernel_rfl) (by kernel_rfl) (by kernel_rfl) (by kernel_rfl) ?_
 refine dr (ah cM) rfl<|dr (ah (ae rfl eT)) rfl ?_
 (refine dr (cj aa al ?_) rfl ?_; · (unfold In64;omega))
 refine dr (jk iR af (u2 rfl aa) aa (by omega) (by simp only [bn]<;>omega)) rfl ?_;refine dr (ak (mz fo rfl af aa (au rfl) (by refine fg ?_;(simp only [bn];omega))) (by simp only [pS,Value.cells,Nat.reduceAdd,aF,aH,Td,bB,cz,cy,hgj,cw,cx,cA,cB,cC,cD,cE,cF]<;>rfl)) rfl ?_;refine dr (aB nD rfl (ae rfl (u4 rfl eR))) rfl<|dr (ak (aC fo rfl cI aa (au rfl)) (by simp only [pS,Value.cells,Nat.reduceAdd,aF,aH,Td,bB,cz,cy,hgj,cw,cx,cA,cB,cC,cD,cE,cF]<;>rfl)) rfl ?_
 refine dr (ah (ae rfl (u2 rfl (u4 rfl cJ)))) rfl ?_
 (refine dr (eL (ae rfl aa) aa ?_) rfl ?_; · (unfold In64;omega))
 refine dr (ah (ae rfl (u8 rfl eU))) rfl ?_
 (refine dr (fa (ae rfl aa) aa ?_) rfl ?_; · (unfold In64;omega))
 refine dr (ah (ae rfl (u2 rfl (u8 rfl cK)))) rfl ?_
 (refine dr (fa (ae rfl aa) aa ?_) rfl ?_; · (unfold In64;omega))
 (refine dr (eL (u8 rfl aa) aa ?_) rfl ?_; · (unfold In64;omega))
 refine dr (jk iR af (ae rfl (u4 rfl (u8 rfl aa))) (ae rfl (u2 rfl (u8 rfl aa))) (by omega) (by simp only [bn]<;>omega)) rfl ?_;refine dP<|aL (qf aa (ae rfl aa) rfl rfl rfl af (TB _).symm (by refine fg ?_;(simp only [bn];omega)) il rfl (au rfl)) trivial rfl (λip aY=>?_)
 have am:=bk aY af;simp only [pS,Value.cells,Nat.reduceAdd,aF,aH,Td,bB,cz,cy,hgj,cw,cx,cA,cB,cC,cD,cE,cF]at am;have e0:=ao aY eP (by decide);have e3:=ao aY cI (by decide);have gV:=bc aY gU;clear aY af eP cI;refine rK (ay (ae rfl (u2 rfl (u4 rfl (u8 rfl eQ))))) (ay (ae rfl (u2 rfl (u4 rfl (u8 rfl eS))))) (ay (ae rfl (u2 rfl (u4 rfl (u8 rfl eW))))) (ay (ae rfl (u2 rfl (u4 rfl (u8 rfl eX))))) (ay (ae rfl (u2 rfl (u4 rfl (u8 rfl cJ))))) (ay (ae rfl (u2 rfl (u4 rfl (u8 rfl eY))))) (ay (ae rfl (u2 rfl (u4 rfl (u8 rfl cK))))) (ay (ae rfl (u2 rfl (u4 rfl (u8 rfl eZ))))) (ay (ae rfl (u2 rfl (u4 rfl (u8 rfl cM))))) ?_;clear eQ eU eW eX cJ eY cK eZ cM eR eS eT;intro iq e4 e5 cN cO cQ cR e6 e7 cS;refine ai<|aj<|at_<|ar (ah cS) rfl<|ar (ah (ae rfl cN)) rfl<|ar (jk iR am (ae rfl aa) aa (by omega) (by simp only [bn]<;>omega)) rfl ?_
 refine ar (ak (mz fo rfl am aa (au rfl) (by(refine fg ?_;omega))) (by simp only [pS,Value.cells,Nat.reduceAdd,aF,aH,Td,bB,cz,cy,hgj,cw,cx,cA,cB,cC,cD,cE,cF]<;>rfl)) rfl ?_;refine ar (ah (u4 rfl cQ)) rfl<|ar (ah (ae rfl (u4 rfl e6))) rfl<|ar (ah (u2 rfl (u4 rfl cO))) rfl ?_
 (refine ar (eL (ae rfl aa) aa ?_) rfl ?_; · (unfold In64;omega))
 (refine ar (fa (ae rfl (u2 rfl aa)) aa ?_) rfl ?_; · (unfold In64;omega))
 refine ar (ah (ae rfl (u8 rfl cR))) rfl ?_
 (refine ar (fa (ae rfl aa) aa ?_) rfl ?_; · (unfold In64;omega))
 (refine ar (eL (ae rfl (u2 rfl (u4 rfl aa))) aa ?_) rfl ?_; · (unfold In64;omega))
 refine ar (jk iR am (ae rfl (u2 rfl (u8 rfl aa))) (u2 rfl (u8 rfl aa)) (by omega) (by simp only [bn]<;>omega)) rfl ?_;refine aL (qf aa (ae rfl aa) rfl rfl rfl am (TB _).symm (by(refine fg ?_;omega)) il rfl (au rfl)) trivial rfl (λir a5=>?_);have an:=bk a5 am;simp only [pS,Value.cells,Nat.reduceAdd,aF,aH,Td,bB,cz,cy,hgj,cw,cx,cA,cB,cC,cD,cE,cF]at an;have e8:=ao a5 e0 (by decide);have e9:=ao a5 e3 (by decide);have gW:=bc a5 gV;clear a5 am e0 e3;refine vm (ay (ae rfl (u4 rfl (u8 rfl e4)))) (ay (ae rfl (u4 rfl (u8 rfl e5)))) (ay (ae rfl (u4 rfl (u8 rfl cN)))) (ay (ae rfl (u4 rfl (u8 rfl cO)))) (ay (ae rfl (u4 rfl (u8 rfl cQ)))) (ay (ae rfl (u4 rfl (u8 rfl cR)))) (ay (ae rfl (u4 rfl (u8 rfl e7)))) (ay (ae rfl (u4 rfl (u8 rfl cS)))) ?_;clear e4 cN cO cQ cR e6 e7 cS e5;intro iv fb fc fd fe ff fi fj cT;refine ai<|aj<|at_<|ar (ah cT) rfl<|ar (ah (ae rfl fd)) rfl ?_
 (refine ar (cj aa al ?_) rfl ?_; · (unfold In64;omega))
 refine ar (jk iR an (u2 rfl aa) aa (by omega) (by simp only [bn]<;>omega)) rfl ?_;refine ar (ak (mz fo rfl an aa (au rfl) (by refine fg ?_;(simp only [bn];omega))) (by simp only [pS,Value.cells,Nat.reduceAdd,aF,aH,Td,bB,cz,cy,hgj,cw,cx,cA,cB,cC,cD,cE,cF]<;>rfl)) rfl ?_;refine ar (ah (ae rfl (u4 rfl ff))) rfl<|ar (ah (u2 rfl (u4 rfl fe))) rfl ?_
 (refine ar (fa (ae rfl aa) aa ?_) rfl ?_; · (unfold In64;omega))
 refine ar (ah (u8 rfl fi)) rfl ?_
 (refine ar (fa (ae rfl aa) aa ?_) rfl ?_; · (unfold In64;omega))
 (refine ar (eL (ae rfl (u4 rfl aa)) aa ?_) rfl ?_; · (unfold In64;omega))
 refine ar (jk iR an (u2 rfl (u8 rfl aa)) (u8 rfl aa) (by omega) (by simp only [bn]<;>omega)) rfl ?_;refine aL (qf aa (ae rfl aa) rfl rfl rfl an (TB _).symm (by refine fg ?_;(simp only [bn];omega)) il rfl (au rfl)) trivial rfl (λiw a6=>?_);have cU:=bk a6 an;simp only [pS,Value.cells,Nat.reduceAdd,aF,aH,Td,bB,cz,cy,hgj,cw,cx,cA,cB,cC,cD,cE,cF]at cU;have fk:=ao a6 e8 (by decide);have fl:=ao a6 e9 (by decide);have cV:=bc a6 gW;clear a6 an e8 e9;refine aZ (ay (u4 rfl (u8 rfl fb))) (ay (u4 rfl (u8 rfl fc))) (ay (u4 rfl (u8 rfl fj))) (ay (u4 rfl (u8 rfl cT))) ?_;clear fb fd fe ff fi fj cT fc;intro ix fm fp fq fs;refine ai<|aj<|at_<|ar (dz bY uZ uX uV rfl) rfl ?_
 refine aL (cu uS rfl cV) trivial rfl (λiz aD=>?_);have bu:=bH aD cV;simp only [pS,Value.cells,Nat.reduceAdd,aF,aH,Td,bB,cz,cy,hgj,cw,cx,cA,cB,cC,cD,cE,cF]at bu;have ft:=aJ aD cU;have fu:=aJ aD fk;have fw:=aJ aD fl;have cW:=bG aD cV;have cW:_=4:=cW;clear aD cU fk fl;refine aL (bN aa (ae rfl aa) rfl rfl bu rk rfl (au rfl)) trivial rfl (λcX aE=>?_);have fx:=bk aE bu;simp only [pS,Value.cells,Nat.reduceAdd,aF,aH,Td,bB,cz,cy,hgj,cw,cx,cA,cB,cC,cD,cE,cF]at fx;have cZ:=ao aE ft (by decide);have fz:=ao aE fu (by decide);have fA:=ao aE fw (by decide);have gX:=bc aE cW;clear aE bu ft fu fw;refine bV (ay (u2 rfl fm)) (ay (u2 rfl fp)) (ay (u2 rfl fq)) (ay (u2 rfl fs)) (ay aa) ?_;clear fm fq fs fp;intro iA fB fC fD fE fF;refine ai<|aj<|aj<|at_<|ar (ah fE) rfl<|ar (ak (qi aa cZ rfl iR.1) (by simp only [bn]<;>rfl)) rfl ?_
 refine ar (ah al) rfl<|gZ (ae rfl (u2 rfl fB)) (ae rfl (u2 rfl fC)) (ae rfl (u2 rfl fD)) (ae rfl (u2 rfl fF)) (u2 rfl aa) (ae rfl aa) aa ?_;clear fB fD fE fF fC;intro aG fG fH fI fJ fK fM gY
 refine ai<|bP<|dN (S:=(Int×Int×Int)) (λs e mem=>match s with|⟨i,lo,hi⟩=>(ag e (.tmp 145)= .v (.int .i64 i))/\(ag e (.tmp 0)=ag aG (.tmp 0))/\(ag e (.tmp 8)=ag aG (.tmp 8))/\(ag e (.tmp 16)=ag aG (.tmp 16))/\(ag e (.tmp 18)=ag aG (.tmp 18))/\(ag e (.tmp 143)=ag aG (.tmp 143))/\(ag e (.tmp 144)=ag aG (.tmp 144))/\(mem[3]? =some (.box 48 [mA lo,mA hi]))/\(mem[2]? =cX[2]?)/\(mem[1]? =cX[1]?)/\(mem[0]? =cX[0]?)/\(∃ n,mem.length=n/\4<=n)/\((0<=i/\i<=l.js.length/\lo=lr qd (kH l L p j) l.js i.toNat/\hi=lr qe (kH l L p j) l.js i.toNat))) (λs=>match s with|⟨i,lo,hi⟩=>(l.js.length - i).toNat) ⟨_,_,_⟩ ⟨gY,rfl,rfl,rfl,rfl,rfl,rfl,fx,rfl,rfl,rfl,⟨_,gX,Tf _⟩,?_⟩ ?_
 ·(exact⟨by omega,by omega,rfl,rfl⟩)
 ·rintro⟨i,lo,hi⟩ iB iC ⟨c6,g1,g6,g7,g8,g9,hh,aK,hv,hC,hD,⟨iD,bv,iE⟩,hinv⟩;have fN:=g1.trans fG;have fO:=g6.trans fH;have fP:=g7.trans fI;have fQ:=g8.trans fJ;have fR:=g9.trans fK;have c7:=hh.trans fM;have aM:=hv.trans cZ;have a7:=hC.trans fz;have bx:=hD.trans fA
  (obtain⟨q1,q2,q3,q4⟩:=hinv)
  refine aj<|at_<|ar (cL c6 c7) rfl<|vm (ae rfl fN) (ae rfl fO) (ae rfl fP) (ae rfl fQ) (ae rfl fR) (ae rfl c7) (ae rfl c6) aa ?_;clear fN fR c7 c6 fP fQ fO;intro iF c8 a8 a9 ba bz c9 bb da
  refine ai<|aj<|aW da (λbe=>?_) (λbe=>?_)
  ·replace be:=bt be
   (have j2:=h.m9 i.toNat (by omega);have w1:=qA (ws:=kH l L p j) (n:=l.js.length) (i:=i.toNat) (by omega);obtain⟨f1,f2,f3,f4,f5⟩:=Gy (w:=(kH l L p j).getD i.toNat default) (j:=l.js.getD i.toNat default) (TP w1 s5) j2.1 ⟨j2.2.2.1,j2.2.2.2.1,j2.2.2.2.2⟩;clear w1;replace f3:=iu f3;replace f4:=iu f4;replace f5:=iu f5;clear f1 f2;have w2:=uR h (.inl rfl) s5 (n:=i.toNat) (by omega);have w3:=uR h (.inr rfl) s5 (n:=i.toNat) (by omega))
   refine br<|ai<|aj<|bP<|aj<|at_<|ar (ah bb) rfl<|ar (jk iR aM (ae rfl bz) (ae rfl bb) (by omega) (by simp only [bn]<;>omega)) rfl ?_
   refine ar (ak (mz fo rfl aM aa (au rfl) (by(refine cP ?_;omega))) (by simp only [pS,Value.cells,Nat.reduceAdd,aF,aH,Td,bB,cz,cy,hgj,cw,cx,cA,cB,cC,cD,cE,cF]<;>rfl)) rfl ?_;refine ar (aw (u2 rfl aa)) rfl<|ar (aw (ae rfl aa)) rfl<|rK (ae rfl (u4 rfl c8)) (ae rfl (u4 rfl a8)) (ae rfl (u4 rfl a9)) (ae rfl (u4 rfl ba)) (ae rfl aa) aa (ae rfl (u4 rfl bz)) (ae rfl (u4 rfl c9)) (ae rfl (u4 rfl bb)) ?_;clear c8 bz c9 bb da a9 ba a8;intro iG db fS fT fU fV fW fX fZ f0
   refine ai<|aj<|at_<|ar (ah db) rfl<|ar (fh aa) rfl<|ar (ak (bR iy rfl aa) (by simp only [pS,Value.cells,Nat.reduceAdd,aF,aH,Td,bB,cz,cy,hgj,cw,cx,cA,cB,cC,cD,cE,cF]<;>rfl)) rfl ?_
   refine ar (ak (bR dW rfl aa) (by simp only [pS,Value.cells,Nat.reduceAdd,aF,aH,Td,bB,cz,cy,hgj,cw,cx,cA,cB,cC,cD,cE,cF]<;>rfl)) rfl ?_;refine ar (ak (bw DT rfl aa (au rfl)) (by simp only [pS,Value.cells,Nat.reduceAdd,aF,aH,Td,bB,cz,cy,hgj,cw,cx,cA,cB,cC,cD,cE,cF]<;>rfl)) rfl ?_;refine ar (ah (ae rfl (u4 rfl fV))) rfl<|ar (ak (cr DO (ae rfl aa) aa (by omega) (by(refine cP ?_;omega))) (by simp only [pS,Value.cells,Nat.reduceAdd,aF,aH,Td,bB,cz,cy,hgj,cw,cx,cA,cB,cC,cD,cE,cF]<;>rfl)) rfl ?_
   refine ar (ak (bw N4 rfl aa (au rfl)) (by simp only [pS,Value.cells,Nat.reduceAdd,aF,aH,Td,bB,cz,cy,hgj,cw,cx,cA,cB,cC,cD,cE,cF]<;>rfl)) rfl ?_;refine aL (cu pJ rfl bv) trivial rfl (λiH ap=>?_);have bA:=bH ap bv;simp only [pS,Value.cells,Nat.reduceAdd,aF,aH,Td,bB,cz,cy,hgj,cw,cx,cA,cB,cC,cD,cE,cF]at bA;have ga:=aJ ap aK;have gb:=aJ ap aM;have gc:=aJ ap a7;have gd:=aJ ap bx;have hE:=bG ap bv;clear ap aK aM a7 bx;refine aL (bN aa (ae rfl aa) rfl rfl bA rl rfl (au rfl)) trivial rfl (λiI av=>?_);have aN:=bk av bA;simp only [pS,Value.cells,Nat.reduceAdd,aF,aH,Td,bB,cz,cy,hgj,cw,cx,cA,cB,cC,cD,cE,cF]at aN;have bC:=ao av ga (by omega);have ge:=ao av gb (by omega);have gf:=ao av gc (by omega);have gg:=ao av gd (by omega);have hF:=bc av hE;clear av bA ga gb gc gd;refine rK (ay (ae rfl (u8 rfl db))) (ay (ae rfl (u8 rfl fS))) (ay (ae rfl (u8 rfl fT))) (ay (ae rfl (u8 rfl fU))) (ay (ae rfl (u8 rfl fW))) (ay aa) (ay (ae rfl (u8 rfl fX))) (ay (ae rfl (u8 rfl fZ))) (ay (ae rfl (u8 rfl f0))) ?_;clear db fX fZ f0 fT fU fV fW fS;intro iJ gh gi gj gk bD bE gl gm gn;refine ai<|aj<|ey 12 (by kernel_rfl) (by kernel_rfl) (by kernel_rfl) (by kernel_rfl) ?_
   refine dr (ah bD) rfl<|dr (aB fY rfl (ae rfl bE)) rfl<|dr (aB jP rfl aa) rfl<|dr (ak (aC fo rfl aN aa (au rfl)) (by simp only [pS,Value.cells,Nat.reduceAdd,aF,aH,Td,bB,cz,cy,hgj,cw,cx,cA,cB,cC,cD,cE,cF]<;>rfl)) rfl ?_
   (refine dr (fa (ae rfl (u2 rfl aa)) aa ?_) rfl ?_; · (unfold In64;omega))
   refine dr (ah (ae rfl (u4 rfl bD))) rfl<|dr (aB fY rfl (u2 rfl (u4 rfl bE))) rfl<|dr (aB jQ rfl aa) rfl<|dr (ak (aC fo rfl aN aa (au rfl)) (by simp only [pS,Value.cells,Nat.reduceAdd,aF,aH,Td,bB,cz,cy,hgj,cw,cx,cA,cB,cC,cD,cE,cF]<;>rfl)) rfl ?_
   (refine dr (fa (ae rfl (u2 rfl aa)) aa ?_) rfl ?_; · (unfold In64;omega))
   refine dr (aw (ae rfl (u4 rfl aa))) rfl<|dr (aw (ae rfl aa)) rfl<|dP<|ze (u4 rfl (u8 rfl gh)) (u4 rfl (u8 rfl gi)) (u4 rfl (u8 rfl gj)) (u4 rfl (u8 rfl gk)) (u4 rfl (u8 rfl bD)) (u4 rfl (u8 rfl bE)) (ae rfl aa) aa (u4 rfl (u8 rfl gl)) (u4 rfl (u8 rfl gm)) (u4 rfl (u8 rfl gn)) ?_;clear gh gl gm gn gj gk bD bE gi;intro iK gp gq gr bI dd de df dg gt gu gv
   refine ai<|aj<|at_<|ar (aB jP rfl bI) rfl<|ar (ak (aC fo rfl bC aa (au rfl)) (by simp only [pS,Value.cells,Nat.reduceAdd,aF,aH,Td,bB,cz,cy,hgj,cw,cx,cA,cB,cC,cD,cE,cF]<;>rfl)) rfl ?_
   refine ar (ah (u2 rfl dd)) rfl<|ar (aB jR rfl (ae rfl (u2 rfl de))) rfl<|ar (ak (aC fo rfl aN aa (au rfl)) (by simp only [pS,Value.cells,Nat.reduceAdd,aF,aH,Td,bB,cz,cy,hgj,cw,cx,cA,cB,cC,cD,cE,cF]<;>rfl)) rfl ?_
   (refine ar (fa (u2 rfl aa) aa ?_) rfl ?_; · (unfold In64;omega))
   refine ar (ah (u2 rfl (u4 rfl df))) rfl<|ar (ah (ae rfl (u2 rfl (u4 rfl dg)))) rfl<|ar (uv (ae rfl aa) aa) rfl ?_
   (refine ar (cj (ae rfl (u2 rfl aa)) aa ?_) rfl ?_; · (unfold In64;omega))
   (refine ar (cj (u8 rfl aa) aa ?_) rfl ?_; · (unfold In64;omega))
   refine ar (aB jP rfl (ae rfl (u2 rfl (u8 rfl bI)))) rfl<|aL (bN aa (ae rfl aa) rfl rfl bC il rfl (au rfl)) trivial rfl (λiL az=>?_)
   have bg:=bk az bC;simp only [pS,Value.cells,Nat.reduceAdd,aF,aH,Td,bB,cz,cy,hgj,cw,cx,cA,cB,cC,cD,cE,cF]at bg;have dh:=ao az aN (by omega);have gw:=ao az ge (by decide);have gx:=ao az gf (by decide);have gy:=ao az gg (by decide);have hG:=bc az hF;clear az aN bC ge gf gg;refine ze (ay (u4 rfl (u8 rfl gp))) (ay (u4 rfl (u8 rfl gq))) (ay (u4 rfl (u8 rfl gr))) (ay (u4 rfl (u8 rfl bI))) (ay (u4 rfl (u8 rfl dd))) (ay (u4 rfl (u8 rfl de))) (ay (u4 rfl (u8 rfl df))) (ay (u4 rfl (u8 rfl dg))) (ay (u4 rfl (u8 rfl gt))) (ay (u4 rfl (u8 rfl gu))) (ay (u4 rfl (u8 rfl gv))) ?_;clear gp gt gu gv gr bI dd de df dg gq;intro iM gz gA gB bJ gC gD gE gF gG gH gI;refine ai<|at_<|ar (aB jQ rfl bJ) rfl<|ar (ak (aC fo rfl bg aa (au rfl)) (by simp only [pS,Value.cells,Nat.reduceAdd,aF,aH,Td,bB,cz,cy,hgj,cw,cx,cA,cB,cC,cD,cE,cF]<;>rfl)) rfl ?_
   refine ar (ah (u2 rfl gC)) rfl<|ar (aB jR rfl (ae rfl (u2 rfl gD))) rfl<|ar (ak (aC fo rfl dh aa (au rfl)) (by simp only [pS,Value.cells,Nat.reduceAdd,aF,aH,Td,bB,cz,cy,hgj,cw,cx,cA,cB,cC,cD,cE,cF]<;>rfl)) rfl ?_
   (refine ar (fa (u2 rfl aa) aa ?_) rfl ?_; · (unfold In64;omega))
   refine ar (ah (u2 rfl (u4 rfl gE))) rfl<|ar (ah (ae rfl (u2 rfl (u4 rfl gF)))) rfl<|ar (yp (ae rfl aa) aa) rfl ?_
   (refine ar (cj (ae rfl (u2 rfl aa)) aa ?_) rfl ?_; · (unfold In64;omega))
   (refine ar (cj (u8 rfl aa) aa ?_) rfl ?_; · (unfold In64;omega))
   refine ar (aB jQ rfl (ae rfl (u2 rfl (u8 rfl bJ)))) rfl<|aL (bN aa (ae rfl aa) rfl rfl bg il rfl (au rfl)) trivial rfl (λiN aA=>?_)
   have gJ:=bk aA bg;simp only [pS,Value.cells,Nat.reduceAdd,aF,aH,Td,bB,cz,cy,hgj,cw,cx,cA,cB,cC,cD,cE,cF]at gJ;have iO:=ao aA dh (by omega);have hH:=ao aA gw (by decide);have hI:=ao aA gx (by decide);have hJ:=ao aA gy (by decide);have hK:=bc aA hG;clear aA bg dh gw gx gy;refine gZ (ay (u4 rfl (u8 rfl gz))) (ay (u4 rfl (u8 rfl gA))) (ay (u4 rfl (u8 rfl gB))) (ay (u4 rfl (u8 rfl bJ))) (ay (u4 rfl (u8 rfl gG))) (ay (u4 rfl (u8 rfl gH))) (ay (u4 rfl (u8 rfl gI))) ?_;clear gz gG gH gI gB bJ gC gD gE gF gA;intro iP gK gL gM gN gO gP gQ;refine cv<|ai<|at_ ?_
   (refine ar (cj gQ al ?_) rfl ?_; · (unfold In64;omega))
   refine ar (ah aa) rfl<|gZ (u2 rfl gK) (u2 rfl gL) (u2 rfl gM) (u2 rfl gN) (u2 rfl gO) (u2 rfl gP) aa ?_;clear gK gO gP gQ gM gN gL;intro iQ hM hN hO hP hQ hS hU
   refine ai<|⟨⟨_,_,_⟩,⟨hU,(hM.trans fG.symm),(hN.trans fH.symm),(hO.trans fI.symm),(hP.trans fJ.symm),(hQ.trans fK.symm),(hS.trans fM.symm),gJ,(hH.trans cZ.symm),(hI.trans fz.symm),(hJ.trans fA.symm),⟨_,hK,by omega⟩,?_⟩,?_⟩
   ·(refine⟨by omega,by omega,?_,?_⟩<;>(rw [show(i+1).toNat =i.toNat+1 by omega];first|(rw [q3];rfl)|(rw [q4];rfl)))
   ·((try dsimp only);omega)
  replace be:=bf be
  (have hi':i.toNat=l.js.length:=(by omega);rw [hi']at q3 q4;have w2:=uR h (.inl rfl) s5 (n:=l.js.length) (Tf _);have w3:=uR h (.inr rfl) s5 (n:=l.js.length) (Tf _);have w5:=Qq (n:= -hi) d0 (by omega))
  refine dD<|b7<|b7<|dC<|ai<|aj<|ey 11 (by kernel_rfl) (by kernel_rfl) (by kernel_rfl) (by kernel_rfl) ?_
  refine dr (aB jP rfl ba) rfl<|dr (ak (aC fo rfl aK aa (au rfl)) (by simp only [pS,Value.cells,Nat.reduceAdd,aF,aH,Td,bB,cz,cy,hgj,cw,cx,cA,cB,cC,cD,cE,cF]<;>rfl)) rfl ?_
  refine dr (ah (u2 rfl a9)) rfl<|dr (bj (ax (ae rfl aa) (ax aa aI)) rfl (A6 _ _ d0 (by omega)) A8) rfl ?_
  refine dr (aB jQ rfl (u4 rfl ba)) rfl<|dr (ak (aC fo rfl aK aa (au rfl)) (by simp only [pS,Value.cells,Nat.reduceAdd,aF,aH,Td,bB,cz,cy,hgj,cw,cx,cA,cB,cC,cD,cE,cF]<;>rfl)) rfl ?_
  (refine dr (qI aa ?_) rfl ?_; · (unfold In64;omega))
  refine dr (ah (ae rfl (u2 rfl (u4 rfl a9)))) rfl<|dr (bj (ax (ae rfl aa) (ax aa aI)) rfl (A6 _ _ d0 (by omega)) A8) rfl ?_
  refine dr (Fa aa) rfl<|dr (dz (bo (u2 rfl (u4 rfl aa)) (bo aa bY)) uZ uX uV rfl) rfl ?_
  refine dP<|aL (bN (ae rfl (u2 rfl (u8 rfl a8))) aa rfl rfl a7 rk rfl (au rfl)) trivial rfl (λiS aO=>?_)
  have di:=bk aO a7;simp only [pS,Value.cells,Nat.reduceAdd,aF,aH,Td,bB,cz,cy,hgj,cw,cx,cA,cB,cC,cD,cE,cF]at di;have hV:=ao aO aK (by decide);have hW:=ao aO aM (by decide);have hY:=ao aO bx (by decide);have hZ:=bc aO bv;clear aO aK aM a7 bx;refine aT (ay (ae rfl (u2 rfl (u8 rfl a8)))) ?_;clear c8 bz c9 bb da a9 ba a8;intro iT gR;refine ai<|aX<|bK (.inr rfl) (by kernel_rfl) (eb gR di N3 (au rfl) (by simp)) (eV (.ro _ rfl)) ?_
  clear gR di hV hW hY hZ
  (rw [q4]at w5;rw [q3,q4,wrap_in (by unfold In64;omega)];rfl)
theorem KN:(Tryz.prog.info? 103).bind (·.zero)=some (.pointer none):=by kernel_rfl
theorem tp:GB Tryz.prog 68 2 1:=⟨by kernel_rfl,by kernel_rfl⟩
theorem KO:∀ args w,(callFunc 48 args).run Tryz.prog w= .ok (.enter 48 args) w:=λ_ _=>by kernel_rfl
theorem KP:∀ args w,(callFunc 49 args).run Tryz.prog w= .ok (.enter 49 args) w:=λ_ _=>by kernel_rfl
theorem KQ:∀ args w,(callFunc 60 args).run Tryz.prog w= .ok (.enter 60 args) w:=λ_ _=>by kernel_rfl
theorem KT:∀ args w,(callFunc 81 args).run Tryz.prog w= .ok (.enter 81 args) w:=λ_ _=>by kernel_rfl
theorem DV:bI Tryz.prog 85 3 1 8 (.int .i64 0):=⟨by kernel_rfl,by kernel_rfl,by kernel_rfl⟩
theorem KU:(Tryz.prog.info? 103).map (·.size)=some 1:=by kernel_rfl
theorem wz:aN Tryz.prog 103 false 1:=⟨by kernel_rfl,by kernel_rfl⟩
theorem N6:aN Tryz.prog 27 true 4:=⟨by kernel_rfl,by kernel_rfl⟩
theorem mI:aN Tryz.prog 3 false 1:=⟨by kernel_rfl,by kernel_rfl⟩
theorem DW:aN Tryz.prog 30 false 1:=⟨by kernel_rfl,by kernel_rfl⟩
theorem xe:aN Tryz.prog 44 true 3:=⟨by kernel_rfl,by kernel_rfl⟩
theorem DX:aN Tryz.prog 48 true 2:=⟨by kernel_rfl,by kernel_rfl⟩
theorem N7:aN Tryz.prog 85 false 1:=⟨by kernel_rfl,by kernel_rfl⟩
theorem E4{p:Nat->Bool}{i:Nat}(hp:p i=true):∀ {n:Nat},i<n->((List.range n).filter p)[((List.range i).filter p).length]? =some i
 | n+1,hi=>by
  rw [UJ,List.filter_append]
  by_cases h:i=n
  ·subst h;rw [Tu (Tf _)];simp [hp]
  ·have ih:=E4 hp (n:=n) (by omega);rw [Tt (S9.1 ih).1];exact ih
theorem A9{p:Nat->Bool}{i:Nat}:((List.range (i+1)).filter p).length =((List.range i).filter p).length +if p i then 1 else 0:=by
 rw [UJ,List.filter_append,TM];cases h:p i<;>simp [h]
def jK(l:aU)(L p:Int)(i:Nat):Bool:=decide (p<ca l.bs i)&&decide (ca l.bs i<p+L)
def kJ(l:aU)(L p:Int):List Nat:=(List.range l.js.length).filter (jK l L p)
def ma(l:aU)(L p:Int):List (List AV):=(kJ l L p).map λ(i:Nat)=> [mA (i:Int)]
theorem DY(l:aU)(L p:Int):(ma l L p).length =(kJ l L p).length :=by simp [ma]
theorem N8{l:aU}{L p:Int}:∀ y∈ma l L p,y.length=1:=by
 intro y hy;obtain⟨_,_,rfl⟩:=TW.1 hy;rfl
theorem Qr{l:aU}{L p j:Int}{i:Nat}(h0:0<=j)(hj:j<l.js.length)(h1:p<ca l.bs j.toNat)(h2:ca l.bs j.toNat<p+L)(hi:i=((List.range j.toNat).filter (jK l L p)).length):(ma l L p)[i]? =some [.v (.int .i64 j)]:=by
 subst hi;unfold ma kJ;rw [Tm,E4 (by unfold jK;simp [h1,h2]) (by omega)];simp;omega
theorem N9{l:aU}{L p j:Int}(h0:0<=j)(h1:p<ca l.bs j.toNat)(h2:ca l.bs j.toNat<p+L):((List.range (j+1).toNat).filter (jK l L p)).length =((List.range j.toNat).filter (jK l L p)).length +1:=by
 rw [show(j+1).toNat =j.toNat+1 by omega,A9,if_pos];unfold jK;simp [h1,h2]
theorem E5{l:aU}{L p j:Int}(h0:0<=j)(h:¬ (p<ca l.bs j.toNat/\ca l.bs j.toNat<p+L)):((List.range (j+1).toNat).filter (jK l L p)).length =((List.range j.toNat).filter (jK l L p)).length :=by
 rw [show(j+1).toNat =j.toNat+1 by omega,A9,if_neg];rfl;unfold jK;simp;omega
theorem Qs{l:aU}{L p:Int}{i:Nat}{y:AV}(h:(ma l L p)[i]? =some [y]):∃ s:Nat,(kJ l L p)[i]? =some s/\y=mA (s:Int)/\s<l.js.length/\p<ca l.bs s/\ca l.bs s<p+L:=by
 unfold ma at h;rw [Tm]at h;cases hs:(kJ l L p)[i]? with
 | none=>rw [hs]at h;cases h
 | some s=>
  rw [hs]at h;simp only [Option.map_some,Option.some.injEq,List.cons.injEq,and_true]at h;have hm:=TD hs;unfold kJ at hm;rw [List.mem_filter]at hm;obtain⟨h1,h2⟩:=hm;unfold jK at h2;simp at h1 h2;exact⟨s,rfl,h.symm,h1,h2.1,h2.2⟩
theorem HD(l:aU)(h:dc l)(L c s p:Int)(hL:1000<=L/\L<=30000)(hp:0<=p/\p<=1200000):u9 Tryz.prog 81 [] [.ref [jd l],.ref [mA p],.ref [mA L,mA c,mA s]] (ma l L p):=by
 refine QF (fn:=Tryz.f81) 35 (by kernel_rfl) rfl (by kernel_rfl) (S8 rfl) (λ_ _=>⟨.tuple #[],by kernel_rfl⟩) ?_;intro lb_ aM hA;have aX:ag aM (.tmp 0)=_:=hA 0 _ rfl;have aY:ag aM (.tmp 1)=_:=hA 1 _ rfl;have aZ:ag aM (.tmp 2)=_:=hA 2 _ rfl;have a2:ag aM (.tmp 3)=_:=hA 3 _ rfl;clear hA;have hn1:=h.n1;have hn0:=h.n0;have hjs:=h.js;have hpl:=nC (bs:=l.bs) (n:=l.bs.length);refine pG<|nH ?_
 refine du (λ_=>(ak (bw wz rfl aY (au rfl)) (by simp only [pS,Value.cells,Nat.reduceAdd]<;>rfl))) trivial rfl ?_;refine du (λ_=>(fh aa)) trivial rfl ?_;refine du (λ_=>(ak (bR kV rfl aa) (by simp only [pS,Value.cells,Nat.reduceAdd]<;>rfl))) trivial rfl ?_;refine du (λ_=>(ak (bw N7 rfl aa (au rfl)) (by simp only [pS,Value.cells,Nat.reduceAdd]<;>rfl))) trivial rfl ?_;refine du (λ_=>(ak (bW aa rfl DV.1) (by simp only [bn]<;>rfl))) trivial rfl ?_;refine du (λ_=>(ah al)) trivial rfl ?_;refine k7 (λaG aB=>?_);have aN:=ef 0 aB (u2 rfl (u4 rfl aX));have aO:=ef 2 aB (u2 rfl (u4 rfl aZ));have aP:=ef 3 aB (u2 rfl (u4 rfl a2));have aQ:=ef 10 aB (u2 rfl aa);have aR:=ef 11 aB (ae rfl aa);have bI:=ef 12 aB aa;clear aB aX aY aZ a2;refine iT<|Bt<|OR (S:=Int) (λj e b i=>(ag e (.tmp 12)= .v (.int .i64 j))/\(ag e (.tmp 0)=ag aG (.tmp 0))/\(ag e (.tmp 2)=ag aG (.tmp 2))/\(ag e (.tmp 3)=ag aG (.tmp 3))/\(ag e (.tmp 10)=ag aG (.tmp 10))/\(ag e (.tmp 11)=ag aG (.tmp 11))/\(b=true)/\(i=((List.range j.toNat).filter (jK l L p)).length)/\((0<=j/\j<=l.js.length))) (λj=>(l.js.length - j).toNat) _ ⟨bI,rfl,rfl,rfl,rfl,rfl,rfl,(by rfl),?_⟩ ?_
 ·(exact⟨by omega,by omega⟩)
 ·rintro j cd _ ce ⟨aT,bK,bL,bM,bN,bO,rfl,hix,hinv⟩;have a3:=bK.trans aN;have a5:=bL.trans aO;have a6:=bM.trans aP;have a7:=bN.trans aQ;have aV:=bO.trans aR
  (have p1:=hinv.1;have p2:=hinv.2)
  refine pG<|nH ?_
  refine du (λ_=>(cL aT aV)) trivial rfl ?_;refine k7 (λcf an=>?_);have a8:=ef 0 an (ae rfl a3);have a9:=ef 2 an (ae rfl a5);have ba:=ef 3 an (ae rfl a6);have aW:=ef 10 an (ae rfl a7);have bb:=ef 11 an (ae rfl aV);have aS:=ef 12 an (ae rfl aT);have bc:=ef 13 an aa;clear an a3 a7 aV aT a5 a6;refine iT<|pG<|xy bc (λaH=>?_) (λaH=>?_)
  ·replace aH:=bt aH
   (have hgj:=jO (bs:=l.bs) (n:=l.bs.length) (j:=j.toNat) (by omega))
   refine tA<|iT<|pG<|Bt<|pG<|nH ?_
   refine du (λ_=>(ah aS)) trivial rfl ?_;refine du (λ_=>(ak (cr DV (ae rfl aW) (ae rfl aS) (by omega) (by(refine cP ?_;omega))) (by simp only [pS,Value.cells,Nat.reduceAdd]<;>rfl))) trivial rfl ?_;refine du (λ_=>(ak (bw mI rfl aa (au rfl)) (by simp only [pS,Value.cells,Nat.reduceAdd]<;>rfl))) trivial rfl ?_;refine du (λ_=>(aw (u2 rfl aa))) trivial rfl ?_;refine du (λ_=>(aw (ae rfl aa))) trivial rfl ?_;refine k7 (λcg ai=>?_);have aj:=ef 0 ai (ae rfl (u4 rfl a8));have af:=ef 2 ai (ae rfl (u4 rfl a9));have am:=ef 3 ai (ae rfl (u4 rfl ba));have aJ:=ef 5 ai (ae rfl aa);have aF:=ef 6 ai aa;have ao:=ef 10 ai (ae rfl (u4 rfl aW));have ap:=ef 11 ai (ae rfl (u4 rfl bb));have ar:=ef 12 ai (ae rfl (u4 rfl aS));clear ai a8 aW bb aS bc a9 ba;refine iT<|pG<|nH ?_
   refine du (λ_=>(ah aF)) trivial rfl ?_;refine du (λ_=>(ak (bw mI rfl (ae rfl af) (au rfl)) (by simp only [pS,Value.cells,Nat.reduceAdd]<;>rfl))) trivial rfl ?_;refine du (λ_=>(eM (ae rfl aa) aa)) trivial rfl ?_;refine du (λ_=>(ah aa)) trivial rfl ?_;refine Ej aa (λab aK=>?_) (λab aK=>?_)
   ·replace aK:=bt aK;refine du (λ_=>(ah (u4 rfl aF))) ⟨_,rfl,ab⟩ rfl ?_;refine du (λ_=>(ak (bw mI rfl (ae rfl (u4 rfl af)) (au rfl)) (by simp only [pS,Value.cells,Nat.reduceAdd]<;>rfl))) ⟨_,rfl,(ae rfl ab)⟩ rfl ?_;refine du (λ_=>(ak (bR nD rfl (u2 rfl (u4 rfl am))) (by simp only [pS,Value.cells,Nat.reduceAdd]<;>rfl))) ⟨_,rfl,(u2 rfl ab)⟩ rfl ?_;refine du (λ_=>(ak (bw mI rfl aa (au rfl)) (by simp only [pS,Value.cells,Nat.reduceAdd]<;>rfl))) ⟨_,rfl,(ae rfl (u2 rfl ab))⟩ rfl ?_
    (refine du (λ_=>(cj (u2 rfl aa) aa ?_)) ⟨_,rfl,(u4 rfl ab)⟩ rfl ?_; · (unfold In64;omega))
    refine du (λ_=>(cL (u4 rfl aa) aa)) ⟨_,rfl,(ae rfl (u4 rfl ab))⟩ rfl ?_;refine du (λ_=>(bD (u2 rfl (u4 rfl ab)) aa)) trivial rfl ?_;refine du (λ_=>(ah aa)) trivial rfl ?_;refine Ej aa (λad aL=>?_) (λad aL=>?_)
    ·replace aL:=bt aL;refine du (λ_=>(ah (u4 rfl (u8 rfl aj)))) ⟨_,rfl,ad⟩ rfl ?_;refine du (λ_=>(ah (ae rfl (u4 rfl (u8 rfl aJ))))) ⟨_,rfl,(ae rfl ad)⟩ rfl ?_;refine I7 (ae rfl aa) (ax aa aI) rfl ⟨_,rfl,(u2 rfl ad)⟩ rfl (by exact Qr p1 (by omega) (by omega) (by omega) hix) ?_ ?_
     ·
      refine du (λ_=>(di aa)) ⟨_,rfl,(ae rfl (u2 rfl ad))⟩ rfl ?_;refine du (λ_=>(bD (u4 rfl ad) aa)) trivial rfl ?_;refine k7 (λci av=>?_);have be:=ef 0 av (ae rfl (u16 rfl aj));have bg:=ef 2 av (ae rfl (u16 rfl af));have bh:=ef 3 av (ae rfl (u16 rfl am));have bj:=ef 10 av (ae rfl (u16 rfl ao));have bk:=ef 11 av (ae rfl (u16 rfl ap));have bm:=ef 12 av (ae rfl (u16 rfl ar));have bo:=ef 33 av aa;clear av ab ad aj ao ap ar af am aJ aF;refine iT<|wI bo ?_
      refine tA<|wJ<|iT<|nH ?_
      (refine du (λ_=>(cj bm al ?_)) trivial rfl ?_; · (unfold In64;omega))
      refine du (λ_=>(ah aa)) trivial rfl ?_;refine k7 (λck aC=>?_);have bP:=ef 0 aC (u2 rfl be);have bQ:=ef 2 aC (u2 rfl bg);have bS:=ef 3 aC (u2 rfl bh);have bT:=ef 10 aC (u2 rfl bj);have bU:=ef 11 aC (u2 rfl bk);have bV:=ef 12 aC aa;clear aC be bj bk bm bg bo bh;refine iT<|⟨_,⟨bV,(bP.trans aN.symm),(bQ.trans aO.symm),(bS.trans aP.symm),(bT.trans aQ.symm),(bU.trans aR.symm),rfl,(by(rw [hix,N9 hinv.1 (by omega) (by omega)];done)),?_⟩,?_⟩
      ·(exact⟨by omega,by omega⟩)
      ·((try dsimp only);omega)
     ·
      refine du (λ_=>(di aa)) ⟨_,rfl,(ae rfl (u2 rfl ad))⟩ rfl ?_;refine du (λ_=>(bD (u4 rfl ad) aa)) trivial rfl ?_;refine k7 (λcm ay=>?_);have cn:=ef 0 ay (ae rfl (u16 rfl aj));have co:=ef 2 ay (ae rfl (u16 rfl af));have cp:=ef 3 ay (ae rfl (u16 rfl am));have cq:=ef 10 ay (ae rfl (u16 rfl ao));have ct:=ef 11 ay (ae rfl (u16 rfl ap));have cu:=ef 12 ay (ae rfl (u16 rfl ar));have bX:=ef 33 ay aa;clear ay ab ad aj ao ap ar af am aJ aF;refine iT<|OP bX ?_
      refine QE<|Bv<|Ei<|Ei<|Bv<|RF (λhb_=>(by cases hb_))
    replace aL:=bf aL;refine iU ⟨_,rfl,.inl ad⟩ rfl ?_;refine iU ⟨_,rfl,.inl (ae rfl ad)⟩ rfl ?_;refine iU ⟨_,rfl,.inl (u2 rfl ad)⟩ rfl ?_;refine iU ⟨_,rfl,.inl (ae rfl (u2 rfl ad))⟩ rfl ?_;refine du (λ_=>(bJ (u4 rfl ad) al)) trivial rfl ?_;refine k7 (λcv az=>?_);have bp:=ef 0 az (ae rfl (u16 rfl aj));have bq:=ef 2 az (ae rfl (u16 rfl af));have br:=ef 3 az (ae rfl (u16 rfl am));have bu:=ef 10 az (ae rfl (u16 rfl ao));have bv:=ef 11 az (ae rfl (u16 rfl ap));have bx:=ef 12 az (ae rfl (u16 rfl ar));have bz:=ef 33 az aa;clear az ab ad aj ao ap ar af am aJ aF;refine iT<|wI bz ?_
    refine tA<|wJ<|iT<|nH ?_
    (refine du (λ_=>(cj bx al ?_)) trivial rfl ?_; · (unfold In64;omega))
    refine du (λ_=>(ah aa)) trivial rfl ?_;refine k7 (λcw aD=>?_);have bY:=ef 0 aD (u2 rfl bp);have bZ:=ef 2 aD (u2 rfl bq);have b0:=ef 3 aD (u2 rfl br);have b1:=ef 10 aD (u2 rfl bu);have b2:=ef 11 aD (u2 rfl bv);have b6:=ef 12 aD aa;clear aD bp bu bv bx bq bz br;refine iT<|⟨_,⟨b6,(bY.trans aN.symm),(bZ.trans aO.symm),(b0.trans aP.symm),(b1.trans aQ.symm),(b2.trans aR.symm),rfl,(by(rw [hix,E5 hinv.1 (by omega)];done)),?_⟩,?_⟩
    ·(exact⟨by omega,by omega⟩)
    ·((try dsimp only);omega)
   replace aK:=bf aK;refine iU ⟨_,rfl,.inl ab⟩ rfl ?_;refine iU ⟨_,rfl,.inl (ae rfl ab)⟩ rfl ?_;refine iU ⟨_,rfl,.inl (u2 rfl ab)⟩ rfl ?_;refine iU ⟨_,rfl,.inl (ae rfl (u2 rfl ab))⟩ rfl ?_;refine iU ⟨_,rfl,.inl (u4 rfl ab)⟩ rfl ?_;refine iU ⟨_,rfl,.inl (ae rfl (u4 rfl ab))⟩ rfl ?_;refine du (λ_=>(bJ (u2 rfl (u4 rfl ab)) al)) trivial rfl ?_;refine du (λ_=>(ah aa)) trivial rfl ?_;refine iU ⟨_,rfl,.inl aa⟩ rfl ?_;refine iU ⟨_,rfl,.inl (ae rfl aa)⟩ rfl ?_;refine iU ⟨_,rfl,.inl (u2 rfl aa)⟩ rfl ?_;refine iU ⟨_,rfl,.inl (ae rfl (u2 rfl aa))⟩ rfl ?_;refine du (λ_=>(bJ (u4 rfl aa) al)) trivial rfl ?_;refine k7 (λcx aA=>?_);have bA:=ef 0 aA (ae rfl (u16 rfl aj));have bB:=ef 2 aA (ae rfl (u16 rfl af));have bC:=ef 3 aA (ae rfl (u16 rfl am));have bE:=ef 10 aA (ae rfl (u16 rfl ao));have bF:=ef 11 aA (ae rfl (u16 rfl ap));have bG:=ef 12 aA (ae rfl (u16 rfl ar));have bH:=ef 33 aA aa;clear aA ab aj ao ap ar af am aJ aF;refine iT<|wI bH ?_
   refine tA<|wJ<|iT<|nH ?_
   (refine du (λ_=>(cj bG al ?_)) trivial rfl ?_; · (unfold In64;omega))
   refine du (λ_=>(ah aa)) trivial rfl ?_;refine k7 (λcy aE=>?_);have b7:=ef 0 aE (u2 rfl bA);have b8:=ef 2 aE (u2 rfl bB);have b9:=ef 3 aE (u2 rfl bC);have ca:=ef 10 aE (u2 rfl bE);have cb:=ef 11 aE (u2 rfl bF);have cc:=ef 12 aE aa;clear aE bA bE bF bG bB bH bC;refine iT<|⟨_,⟨cc,(b7.trans aN.symm),(b8.trans aO.symm),(b9.trans aP.symm),(ca.trans aQ.symm),(cb.trans aR.symm),rfl,(by(rw [hix,E5 hinv.1 (by omega)];done)),?_⟩,?_⟩
   ·(exact⟨by omega,by omega⟩)
   ·((try dsimp only);omega)
  replace aH:=bf aH;refine OQ<|Eh<|Eh<|Ij ?_
  refine RE (λhb_=>?_)
  (rw [hix,DY];unfold kJ;rw [show j.toNat=l.js.length by omega];done)
theorem I3(l:aU)(L c s p:Int):bF Tryz.prog 48 [jd l,pX L c s,mA p] (λq=>q= .clo (.func 81) [] [.ref [jd l],.ref [mA p],.ref [mA L,mA c,mA s]]):=by
 refine ck (fn:=Tryz.f48) 8 (by kernel_rfl) rfl (by kernel_rfl) (S8 rfl) ?_;intro ak aM hA ap;have au:ag ak (.tmp 0)=_:=hA 0 _ rfl;have av:ag ak (.tmp 1)=_:=hA 1 _ rfl;have ay:ag ak (.tmp 2)=_:=hA 2 _ rfl;have am:aM.length=0:=by rw [ap];rfl
 clear hA ap;refine aj<|at_<|aL (dO au rfl am) trivial rfl (λaN an=>?_)
 have az:=bH an am
 (skip)
 have ab:=bG an am;have ab:_=1:=ab;clear an;refine aL (dO (ae rfl av) rfl ab) trivial rfl (λaO ah=>?_);have aA:=bH ah ab
 (skip)
 have aB:=aJ ah az;have ad:=bG ah ab;have ad:_=2:=ad;clear ah az;refine aL (dO (u2 rfl ay) rfl ad) trivial rfl (λaP af=>?_);have aC:=bH af ad
 (skip)
 have aD:=aJ af aA;have aE:=aJ af aB;have ao:=bG af ad;have ao:_=3:=ao;clear af aA aB;refine ar (aw al) rfl<|bq (ae rfl (u2 rfl aa)) (u2 rfl aa) (ae rfl aa) ?_;clear au av ay;intro aQ aF aG aH
 refine ai<|aj<|at_<|ar (jN aI (ax aF (ax aH (ax aG aI)))) rfl<|ar (aw aa) rfl<|aT aa ?_;clear aF aG aH;intro aR aK
 refine ai<|aX<|bK (.inr rfl) (by kernel_rfl) (aS aK) (Qz iD (dx (yu aE (dx (.ro _ rfl) iD)) (dx (yu aC (dx (.ro _ rfl) iD)) (dx (yu aD (dx (.ro _ rfl) (dx (.ro _ rfl) (dx (.ro _ rfl) iD)))) iD)))) ?_
 clear aK aC aD aE ao;rfl
def pZ(l:aU)(L p j:Int):Bool:=decide (0<=j)&&decide (j<l.js.length)&&jK l L p j.toNat
def rX(l:aU)(L p j:Int)(i:Nat):Prop:=∀ k:Nat,k<i-> ∀ n:Nat,(kJ l L p)[k]? =some n->(n:Int)≠j
theorem rX.step{l:aU}{L p j:Int}{i n:Nat}(h:rX l L p j i)(hn:(kJ l L p)[i]? =some n)(hne:¬ (n:Int)=j):rX l L p j (i+1):=λk hk m hm=>by
 by_cases hki:k=i
 ·subst hki;rw [hn]at hm;cases hm;exact hne
 ·exact h k (by omega) m hm
theorem Oa{l:aU}{L p j:Int}{n:Nat}(hj:(n:Int)=j)(n1:n<l.js.length)(n2:p<ca l.bs n)(n3:ca l.bs n<p+L):pZ l L p j=true:=by
 subst hj;simp [pZ,jK,n1,n2,n3]
theorem Qu{l:aU}{L p j:Int}(h:rX l L p j (ma l L p).length):pZ l L p j=false:=by
 cases hb:pZ l L p j with
 | false=>rfl
 | true=>
  unfold pZ at hb;simp only [Ti,decide_eq_true_eq]at hb;obtain⟨⟨h0,h1⟩,h2⟩:=hb;have hm:j.toNat∈kJ l L p:=by
   unfold kJ;rw [List.mem_filter];exact⟨Uh.2 (by omega),h2⟩
  obtain⟨k,hk⟩:=List.mem_iff_getElem?.1 hm;have hlt:=(S9.1 hk).1;exact absurd (show((j.toNat:Nat):Int)=j by omega) (h k (by rw [DY];exact hlt) _ hk)
theorem G2(l:aU)(hl:eE l)(hg:(b9 l).2=0)(L c s p j:Int)(hv:lp L c s=0)(hp:pY l L s p=0):bF Tryz.prog 25 [ep l,pX L c s,.agg [mA p,mA j]] (λq=>q=if pZ l L p j then .tuple [.agg [mA (Gz l L p j.toNat),mA (GA l L p j.toNat)],mA 0]else .tuple [.agg [mA 0,mA 0],mA 6]):=by
 refine ck (fn:=Tryz.f25) 40 (by kernel_rfl) rfl (by kernel_rfl) (S8 rfl) ?_;intro ba dh hA b7;have b8:ag ba (.tmp 0)=_:=hA 0 _ rfl;have ca:ag ba (.tmp 1)=_:=hA 1 _ rfl;have cb:ag ba (.tmp 2)=_:=hA 2 _ rfl;have bb:dh.length=0:=by rw [b7];rfl
 clear hA b7;have h:=ky hg;have hv2:=F3.1 hv;have hp2:=Rw.1 hp;have hpb:=h.oy (n:=l.bs.length) (Tf _);refine aj<|at_<|aL (dO b8 rfl bb) trivial rfl (λdC be=>?_)
 have cc:=bH be bb;have aO:=bG be bb;have aO:_=1:=aO;clear be;refine aL (dO (ae rfl ca) rfl aO) trivial rfl (λdD a3=>?_);have cd:=bH a3 aO;have ce:=aJ a3 cc;have aP:=bG a3 aO;have aP:_=2:=aP;clear a3 cc;refine aL (dO (u2 rfl cb) rfl aP) trivial rfl (λdE aQ=>?_);have cf:=bH aQ aP;have cg:=aJ aQ cd;have ci:=aJ aQ ce;have aR:=bG aQ aP;have aR:_=3:=aR;clear aQ cd ce;refine aL (cu uS rfl aR) trivial rfl (λdF aF=>?_);have bg:=bH aF aR;simp only [pS,Value.cells,Nat.reduceAdd]at bg;have cj:=aJ aF cf;have cm:=aJ aF cg;have cn:=aJ aF ci;have aS:=bG aF aR;have aS:_=4:=aS;clear aF cf cg ci;refine aL (cu yO rfl aS) trivial rfl (λdH aB=>?_);have bh:=bH aB aS;simp only [pS,Value.cells,Nat.reduceAdd]at bh;have co:=aJ aB bg;have bm:=aJ aB cj;have bn:=aJ aB cm;have bo:=aJ aB cn;have aT:=bG aB aS;have aT:_=5:=aT;clear aB bg cj cm cn;refine bV (u4 rfl aa) (ae rfl (u2 rfl aa)) (u2 rfl aa) (ae rfl aa) aa ?_;clear b8 ca cb;intro dI cp bp bq cq cr;refine ai<|aj<|at_<|ar (ak (aC N6 rfl bo cp (au rfl)) (by simp only [pS,Value.cells,Nat.reduceAdd]<;>rfl)) rfl ?_
 refine ar (ak (aC xe rfl bn (ae rfl bp) (au rfl)) (by simp only [pS,Value.cells,Nat.reduceAdd]<;>rfl)) rfl ?_;refine ar (uw tp (u2 rfl bq) al rfl) rfl<|ar (ak (aC mI rfl bm aa (au rfl)) (by simp only [pS,Value.cells,Nat.reduceAdd]<;>rfl)) rfl ?_
 refine ar (bj (ax (ae rfl (u2 rfl aa)) (ax (u2 rfl aa) (ax aa aI))) rfl (Hm l hl hg L c s p hv) KQ) rfl<|ar (ah aa) rfl<|ar (cH aa rfl) rfl<|ar (cH (ae rfl aa) rfl) rfl<|aL (cu KN rfl aT) trivial rfl (λdJ ab=>?_)
 have a5:=bH ab aT;simp only [pS,Value.cells,Nat.reduceAdd]at a5;have ct:=aJ ab bh;have cw:=aJ ab co;have cx:=aJ ab bm;have cy:=aJ ab bn;have cz:=aJ ab bo;have bu:=bG ab aT;have bu:_=6:=bu;clear ab bh co bm bn bo;refine aL (bN aa (u2 rfl aa) rfl rfl a5 KU rfl (au rfl)) trivial rfl (λaG ad=>?_);have aV:=bk ad a5;simp only [pS,Value.cells,Nat.reduceAdd]at aV;have bv:=ao ad ct (by decide);have bw:=ao ad cw (by decide);have a6:=ao ad cx (by decide);have a7:=ao ad cy (by decide);have bx:=ao ad cz (by decide);have di:=bc ad bu;clear ad a5 ct cw cx cy cz;refine ar (aw (ay (ae rfl aa))) rfl<|ei (ae rfl (ay (ae rfl (u8 rfl bp)))) (ae rfl (ay (ae rfl (u8 rfl bq)))) (ae rfl (ay (ae rfl (u8 rfl cq)))) (ae rfl (ay (ae rfl (u8 rfl cr)))) (ae rfl (ay aa)) aa ?_;clear cp bp bq cq cr;intro dK cA cB cC cD cE bz
 refine ai<|aj<|aj<|at_<|ar (ah bz) rfl<|ar (ez aa al) rfl<|gZ (u2 rfl cA) (u2 rfl cB) (u2 rfl cC) (u2 rfl cD) (u2 rfl cE) (u2 rfl bz) aa ?_;clear cA cB cC cD cE bz;intro dL bA bB cF cG bC dj cI
 refine ai<|aW cI (λaZ=>?_) (λaZ=>?_)
 ·replace aZ:=dR aZ;exfalso;omega
 replace aZ:=dG aZ;refine br<|ai<|aj<|aj<|at_<|ar (ak (aC wz rfl aV bC (au rfl)) (by simp only [pS,Value.cells,Nat.reduceAdd]<;>rfl)) rfl ?_
 refine ar (ak (aC xe rfl a7 (ae rfl bA) (au rfl)) (by simp only [pS,Value.cells,Nat.reduceAdd]<;>rfl)) rfl ?_;refine ar (uw tp (u2 rfl bB) al rfl) rfl<|ar (ak (aC mI rfl a6 aa (au rfl)) (by simp only [pS,Value.cells,Nat.reduceAdd]<;>rfl)) rfl ?_
 refine ar (bj (ax (ae rfl (u2 rfl aa)) (ax (u2 rfl aa) (ax aa aI))) rfl (I3 l L c s p) KO) rfl<|ei (ae rfl (u4 rfl bA)) (ae rfl (u4 rfl bB)) (ae rfl (u4 rfl cF)) (ae rfl (u4 rfl cG)) (ae rfl (u4 rfl bC)) aa ?_;clear cI bA bB cF cG bC dj;intro dM bD bE aH aK bI a8
 refine ai<|bP<|I8 a8 (HD l h L c s p hv2.1 (by omega)) KT (by exact N8) (S8 rfl) (λi mem=>(mem[5]? =aG[5]?)/\(mem[4]? =aG[4]?)/\(mem[3]? =aG[3]?)/\(mem[2]? =aG[2]?)/\(mem[1]? =aG[1]?)/\(mem[0]? =aG[0]?)/\(mem.length=6)/\((rX l L p j i))) ⟨rfl,rfl,rfl,rfl,rfl,rfl,di,?_⟩ ?_ ?_
 ·(intro k hk;omega)
 ·rintro dN dP dk dl ⟨bJ,bK,bL,bM,bQ,bR,a9,hinv⟩
  (obtain⟨n,hn,rfl,n1,n2,n3⟩:=Qs dl;have hq:Pos l L p n:=⟨by omega,by omega,by omega,by omega,by omega,by omega,n1⟩)
  have aD:=bJ.trans aV;have aM:=bK.trans bv;have af:=bL.trans bw;have am:=bM.trans a6;have aE:=bQ.trans a7;have aN:=bR.trans bx;refine uB (λdQ an=>?_);have cJ:=ef 4 an (ae rfl bD);have cK:=ef 5 an (ae rfl bE);have cL:=ef 6 an (ae rfl aH);have cM:=ef 7 an (ae rfl aK);have cN:=ef 8 an (ae rfl bI);have dm:=ef 27 an (ae rfl a8);have cO:=ef 28 an aa;clear an;refine at_<|ar (aw cO) rfl<|ei (ae rfl cJ) (ae rfl cK) (ae rfl cL) (ae rfl cM) (ae rfl cN) aa ?_;clear dm cO cJ cK cL cM cN;intro dS cP bS cQ cR cS bT
  refine OS ?_;refine bP<|aj<|at_<|ar (ah bT) rfl<|ar (uw tp (ae rfl bS) al rfl) rfl<|ar (ak (aC mI rfl am aa (au rfl)) (by simp only [pS,Value.cells,Nat.reduceAdd]<;>rfl)) rfl ?_
  refine ar (eH (u2 rfl aa) aa) rfl ?_;refine gZ (u4 rfl cP) (u4 rfl bS) (u4 rfl cQ) (u4 rfl cR) (u4 rfl cS) (u4 rfl bT) aa ?_;clear bT cP bS cQ cR cS;intro dT cT cU bU bW cV cW cX;refine ai<|aW cX (λa2=>?_) (λa2=>?_)
  ·replace a2:=bt a2;refine aj<|at_<|ar (ak (aC wz rfl aD cV (au rfl)) (by simp only [pS,Value.cells,Nat.reduceAdd]<;>rfl)) rfl ?_
   refine ar (ak (aC xe rfl aE (ae rfl cT) (au rfl)) (by simp only [pS,Value.cells,Nat.reduceAdd]<;>rfl)) rfl ?_;refine ar (uw tp (u2 rfl cU) al rfl) rfl<|ar (ak (aC mI rfl am aa (au rfl)) (by simp only [pS,Value.cells,Nat.reduceAdd]<;>rfl)) rfl ?_
   refine ar (ah (u4 rfl cW)) rfl<|ar (bj (ax (u4 rfl aa) (ax (ae rfl (u2 rfl aa)) (ax (ae rfl aa) (ax aa aI)))) rfl (HC l h L c s p n hq) KP) rfl<|aL (bN (u2 rfl (u4 rfl bU)) aa rfl rfl af rk rfl (au rfl)) trivial rfl (λdU ap=>?_)
   have bX:=bk ap af;simp only [pS,Value.cells,Nat.reduceAdd]at bX;have cY:=ao ap aD (by decide);have bZ:=ao ap aM (by decide);have cZ:=ao ap am (by decide);have c6:=ao ap aE (by decide);have c7:=ao ap aN (by decide);have dn:=bc ap a9;clear ap aD aM af am aE aN;refine aL (bN (ay (u2 rfl (u4 rfl bW))) al rfl rfl bZ rj rfl (au rfl)) trivial rfl (λdV av=>?_);have b0:=bk av bZ;simp only [pS,Value.cells,Nat.reduceAdd]at b0;have c8:=ao av bX (by decide);have dp:=ao av cY (by decide);have dq:=ao av cZ (by decide);have dr:=ao av c6 (by decide);have dt:=ao av c7 (by decide);have du:=bc av dn;clear av bX cY bZ cZ c6 c7;refine aY (ay (ay (u2 rfl (u4 rfl bU)))) (ay (ay (u2 rfl (u4 rfl bW)))) ?_;clear cW cX cT cU bU bW cV;intro dW dY dZ;refine ai<|aX<|de<|RI<|de<|bO<|dX (.inr rfl) (by kernel_rfl) (eb aH c8 DX (au rfl) (by simp)) (eb aK b0 DW (au rfl) (by simp)) (eV (.ro _ rfl)) (rB (.ro _ rfl)) ?_
   clear a8 bD bE aH aK bI b0 c8 dp dq dr dt du
   (have hj:(n:Int)=j:=(by assumption);rw [if_pos (Oa hj n1 n2 n3), <- hj];rfl)
  replace a2:=bf a2;refine br<|cv<|RG ⟨(aD.trans aV.symm),(aM.trans bv.symm),(af.trans bw.symm),(am.trans a6.symm),(aE.trans a7.symm),(aN.trans bx.symm),a9,?_⟩
  (exact hinv.step hn (by assumption))
 ·rintro dk ⟨bJ,bK,bL,bM,bQ,bR,a9,hinv⟩;have aD:=bJ.trans aV;have aM:=bK.trans bv;have af:=bL.trans bw;have am:=bM.trans a6;have aE:=bQ.trans a7;have aN:=bR.trans bx;refine cv<|ai<|aj<|at_<|ar (dz bY uZ uX uV rfl) rfl ?_
  refine aL (bN (ae rfl aH) aa rfl rfl af rk rfl (au rfl)) trivial rfl (λea az=>?_);have b1:=bk az af;simp only [pS,Value.cells,Nat.reduceAdd]at b1;have c9:=ao az aD (by decide);have b2:=ao az aM (by decide);have da:=ao az am (by decide);have db:=ao az aE (by decide);have dc:=ao az aN (by decide);have dv:=bc az a9;clear az aD aM af am aE aN;refine aL (bN (ay (ae rfl aK)) al rfl rfl b2 rj rfl (au rfl)) trivial rfl (λec aA=>?_);have b6:=bk aA b2;simp only [pS,Value.cells,Nat.reduceAdd]at b6;have dd:=ao aA b1 (by decide);have dw:=ao aA c9 (by decide);have dx:=ao aA da (by decide);have dy:=ao aA db (by decide);have dA:=ao aA dc (by decide);have dB:=bc aA dv;clear aA b1 c9 b2 da db dc;refine aY (ay (ay (ae rfl aH))) (ay (ay (ae rfl aK))) ?_;clear a8 bD bE aH aK bI;intro ed df dg;refine ai<|aX<|dX (.inr rfl) (by kernel_rfl) (eb df dd DX (au rfl) (by simp)) (eb dg b6 DW (au rfl) (by simp)) (eV (.ro _ rfl)) (rB (.ro _ rfl)) ?_
  clear df dg b6 dd dw dx dy dA dB
  (rw [if_neg (by rw [Qu hinv];decide)];rfl)
end Go.Proofs.YtbmlgmblfboigaaGreatDoor
