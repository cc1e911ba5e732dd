/- Texts of this claim, one behind the other: lemmas for the statement. -/
import Derived.Test.YtbmlgmblfboigaaGreatDoorT0
import Derived.Test.YtbmlgmblfboigaaGreatDoorM11
import Derived.Test.YtbmlgmblfboigaaGreatDoorM4
import Derived.Test.YtbmlgmblfboigaaGreatDoorM9
import Derived.Test.YtbmlgmblfboigaaGreatDoorA42
import Derived.Shelf.Strings.OnBuilder
import Derived.Test.YtbmlgmblfboigaaGreatDoorM8
import Derived.Lib.IndexLaws
import Derived.Shelf.Strings.FuncGrows
import Derived.Test.YtbmlgmblfboigaaGreatDoorA53
import Derived.Test.YtbmlgmblfboigaaGreatDoorM10
import Derived.Test.YtbmlgmblfboigaaGreatDoorM6
set_option maxRecDepth 100000
set_option maxHeartbeats 4000000
set_option linter.unusedSimpArgs false
set_option linter.unusedVariables false
namespace Go.Proofs.YtbmlgmblfboigaaGreatDoor
open Go Go.RowKit Go.Proofs
theorem Ef:∀ args w,(callFunc 51 args).run Tryz.prog w= .ok (.enter 51 args) w:=λ_ _=>by kernel_rfl
theorem Eg:∀ args w,(callFunc 53 args).run Tryz.prog w= .ok (.enter 53 args) w:=λ_ _=>by kernel_rfl
theorem Og:∀ args w,(callFunc 54 args).run Tryz.prog w= .ok (.enter 54 args) w:=λ_ _=>by kernel_rfl
theorem Eh:bO Tryz.prog 153 30 1 8 (.int .i64 0):=⟨ai,ai,ai⟩
theorem zE:bO Tryz.prog 23 59 4 32 (.agg #[.int .i64 0,.int .i64 0,.int .i64 0,.int .i64 0]):=⟨ai,ai,ai⟩
theorem zF:aQ Tryz.prog 23 false 1:=⟨ai,ai⟩
theorem lF:aQ Tryz.prog 27 true 4:=⟨ai,ai⟩
theorem gz:aQ Tryz.prog 3 false 1:=⟨ai,ai⟩
theorem Gj:aQ Tryz.prog 48 true 2:=⟨ai,ai⟩
theorem cM.Ks{l:aP}(h:cM l):yk l:=by
 have hjs:=h.js;have hn1:=h.n1;have hn0:=h.n0;refine⟨λhc=>?_,λhc=>?_,λt ht hc=>?_⟩
 ·rw [hc]at hjs;simp at hjs
 ·rw [hc]at hn0;simp at hn0
 ·obtain⟨i,hi,rfl⟩:=List.mem_iff_getElem.1 ht;have h1:=h.sa i hi;have h2:l.ss.getD i default=l.ss[i]:=by rw [Xc,Xd hi];rfl
  unfold fq at h1;rw [h2,hc]at h1
  split at h1
  ·cases h1
  ·split at h1
   ·cases h1
   ·rw [if_pos Xs]at h1;cases h1
def uL:aP:=⟨ByteArray.empty,[],[],[]⟩
def qW(j:ep)(a b:Int):ep:=⟨j.acr,j.up,max (j.acr+j.lo) a - j.acr,min (j.acr+j.hi) b - j.acr⟩
def iV(l:aP)(n:Nat)(a b:Int):Int:=if a<=b then(if max ((l.js.getD n default).acr +(l.js.getD n default).lo) a<=min ((l.js.getD n default).acr +(l.js.getD n default).hi) b then 0 else 13)else 9
def ng(l:aP)(n:Nat)(a b:Int):aP:=l.Bq (l.js.set n (qW (l.js.getD n default) a b))
def uM(l:aP)(n:Nat)(a b:Int):AV:=if iV l n a b=0 then .tuple [dL (ng l n a b),mA 0]else .tuple [dL uL,mA (iV l n a b)]
theorem Je{l:aP}{n:Nat}{a b:Int}(h:iV l n a b=0):uM l n a b= .tuple [dL (ng l n a b),mA 0]:=by unfold uM;rw [if_pos h]
theorem Bv{l:aP}{n:Nat}{a b:Int}(h:iV l n a b≠0):uM l n a b= .tuple [dL uL,mA (iV l n a b)]:=by unfold uM;rw [if_neg h]
theorem yd{a b:Int}:(dy (decide (a<=b)) 9=0↔a<=b)/\(¬ a<=b->dy (decide (a<=b)) 9=9):=by
 by_cases h:a<=b<;>simp [dy,h]
def pB(j:ep)(y:Int):ep:=⟨j.acr,j.up,max (-100) (j.lo - y),min 100 (j.hi+y)⟩
def lT(js:List ep)(y:Int):Nat->List ep
 | 0=>js
 | n+1=>(lT js y n).set n (pB (js.getD n default) y)
theorem tn(js:List ep)(y:Int):∀ n:Nat,(lT js y n).length =js.length
 | 0=>rfl
 | n+1=>by simp only [lT,XU];exact tn js y n
theorem Ii(js:List ep)(y:Int):∀ {n i:Nat},n<=i->(lT js y n).getD i default=js.getD i default
 | 0,_,_=>rfl
 | n+1,i,h=>by
  simp only [lT];rw [Xc,Xm ah, <- Xc];exact Ii js y ah
def lx(l:aP)(y:Int):aP:=l.Bq (lT l.js y l.js.length)
theorem Oh(a b c d:Int):bN Tryz.prog 54 [.agg [mA a,mA b],.agg [mA c,mA d]] (λq=>q= .agg [mA (max a c),mA (min b d)]):=by
 refine cw (fn:=Tryz.f54) 16 ai rfl ai aU ?_;intro aM a3 hA aO;have aP:ak aM (.tmp 0)=_:=hA 0 _ rfl;have aQ:ak aM (.tmp 1)=_:=hA 1 _ rfl;have av:a3.length=0:=by rw [aO];rfl
 clear hA aO;refine au<|at_<|aL (cZ aP rfl av) trivial rfl (λa8 ay=>?_)
 have aR:=bu ay av;have ab:=br ay av;have ab:_=1:=ab;clear ay;refine aL (cZ (ae aQ) rfl ab) trivial rfl (λa9 al=>?_);have aS:=bu al ab;have aT:=aK al aR;have ad:=br al ab;have ad:_=2:=ad;clear al aR;refine aL (cy qE rfl ad) trivial rfl (λba af=>?_);have am:=bu af ad;simp only [pS,Value.cells,Nat.reduceAdd]at am;have an:=aK af aS;have ap:=aK af aT;have aB:=br af ad;have aB:_=3:=aB;clear af aS aT;refine bJ (ag aa) (ae aa) aa ?_;clear aP aQ;intro bb aE aF aG;refine ao<|au<|at_<|ar (aI fx rfl aE) rfl<|ar (ax (aH gz rfl ap aa az) bk) rfl ?_
 refine ar (aI fx rfl (ag aF)) rfl<|ar (ax (aH gz rfl an aa az) bk) rfl ?_
 refine ar (xn (ag aa) aa) rfl<|ar (aI fy rfl (ae (aj aE))) rfl<|ar (ax (aH gz rfl ap aa az) bk) rfl ?_
 refine ar (aI fy rfl (ae (ag (aj aF)))) rfl<|ar (ax (aH gz rfl an aa az) bk) rfl ?_
 refine ar (si (ag aa) aa) rfl<|ar (dq (bB (ae (aj aa)) (bB aa b8)) o9 o8 o7 rfl) rfl ?_
 refine aL (bP (ae (ag (aA aG))) aa rfl rfl am m8 rfl az) trivial rfl (λbc ah=>?_);have aJ:=aZ ah am;simp only [pS,Value.cells,Nat.reduceAdd]at aJ;have a5:=aw ah an aD;have a6:=aw ah ap aD;have a7:=aX ah aB;clear ah am an ap;refine aY (aC (ae (ag (aA aG)))) ?_;clear aE aF aG;intro be a2;refine ao<|bg<|bL bm ai (dE a2 aJ Gj az aN) (eB (.ro _ rfl)) ?_
 clear a2 aJ a5 a6 a7;rfl
theorem KY(l:aP)(hl:eo l)(hg:(cx l).2=0)(n a b:Int)(hm:iT n 0 (l.js.length - 1)≠0):bN Tryz.prog 19 [dL l,mA n,.agg [mA a,mA b]] (λq=>q= .tuple [dL uL,mA (iT n 0 (l.js.length - 1))]):=by
 refine cw (fn:=Tryz.f19) 92 ai rfl ai aU ?_;intro aJ bY hA a7;have a8:ak aJ (.tmp 0)=_:=hA 0 _ rfl;have a9:ak aJ (.tmp 1)=_:=hA 1 _ rfl;have ba:ak aJ (.tmp 2)=_:=hA 2 _ rfl;have aO:bY.length=0:=by rw [a7];rfl
 clear hA a7;have hr:=kJ hg;have hf:∀ z,gW [iT n 0 (l.js.length - 1),z]=iT n 0 (l.js.length - 1):=(λz=>by simp [gW,hm]);refine au<|at_<|aL (cZ a8 rfl aO) trivial rfl (λca aQ=>?_)
 have bb:=bu aQ aO;have ab:=br aQ aO;have ab:_=1:=ab;clear aQ;refine aL (cZ (ae ba) rfl ab) trivial rfl (λcb an=>?_);have be:=bu an ab;have bf:=aK an bb;have ad:=br an ab;have ad:_=2:=ad;clear an bb;refine aL (cy j8 rfl ad) trivial rfl (λcc af=>?_);have ap:=bu af ad;simp only [pS,Value.cells,Nat.reduceAdd]at ap;have av:=aK af be;have aR:=aK af bf;have aS:=br af ad;have aS:_=3:=aS;clear af be bf;refine ar (aB ay) rfl<|bp (aj a9) (ae (ag aa)) (ag aa) (ae aa) ?_;clear a8 a9 ba;intro cd bo aT bv bw
 refine ao<|au<|at_<|ar (ax (aH lF rfl aR aT az) bk) rfl ?_
 refine ar (bh (aE aa aM) rfl (ri l hl hg) qp) rfl<|ar (al aa) rfl<|ar (cI aa rfl) rfl<|ar (cI (ae aa) rfl) rfl<|ar (aB (ae aa)) rfl<|ar (aB (ae aa)) rfl<|dh (ae (ag (aj bo))) (ae (ag (aj aT))) (ae (ag (aj bv))) (ae (ag (aj bw))) (ae aa) aa ?_;clear bo aT bv bw;intro ce bx bz bA bD bE aY
 refine ao<|au<|au<|at_<|ar (al aY) rfl<|ar (dB aa ay) rfl<|fX (ag bx) (ag bz) (ag bA) (ag bD) (ag bE) (ag aY) aa ?_;clear bx bz bA bD bE aY;intro cf a2 bF aF bG bH bZ bI
 refine ao<|bj bI (λaG=>?_) (λaG=>?_)
 ·cases aG
 replace aG:=dp aG;refine bC<|ao<|au<|au<|dZ 12 ai ai ai ai ?_
 refine dr (al bH) rfl<|dr (al (ae a2)) rfl<|dr (bh (aE (ae aa) (aE aa aM)) rfl (C2 l hr n) Ef) rfl<|dr (aI fx rfl (ae (ag aF))) rfl<|dr (ax (aH gz rfl av aa az) bk) rfl ?_
 refine dr (aI fy rfl (ae (aj aF))) rfl<|dr (ax (aH gz rfl av aa az) bk) rfl ?_
 refine dr (fA (ag aa) aa) rfl<|dr (bh (aE aa (aE ay aM)) rfl (fa _ _) fc) rfl<|dr (ez Eh (bB (ag (aj aa)) (bB aa b8)) rfl rfl rfl rfl) rfl<|dr (bh (aE aa aM) rfl ((pX [_,_] aN).mono (λq h=>h.trans (by rw [hf]))) qq) rfl ?_
 refine dr (aB aa) rfl<|dC<|bR (aj (aA a2)) (aj (aA bF)) (aj (aA aF)) (aj (aA bG)) aa ?_;clear a2 bI bF aF bG bH bZ;intro cg bJ bL bM bO a3
 refine ao<|au<|at_<|ar (al a3) rfl<|ar (dB aa ay) rfl<|dh (ag bJ) (ag bL) (ag bM) (ag bO) (ag a3) aa ?_;clear a3 bJ bL bM bO;intro ci b0 b1 b2 a5 bQ bT
 refine ao<|bj bT (λah=>?_) (λah=>?_)
 ·replace ah:=dR ah;refine au<|at_<|ar (dq b8 qH qG qF rfl) rfl ?_
  refine ar (al (ae bQ)) rfl<|aL (bP (ag a5) (ae aa) rfl rfl ap gZ rfl az) trivial rfl (λcj am=>?_)
  have a6:=aZ am ap;simp only [pS,Value.cells,Nat.reduceAdd]at a6;have b6:=aw am av aD;have b7:=aw am aR aD;have b9:=aX am aS;clear am ap av aR;refine ar (aB (aC aa)) rfl<|bq (ae (aC (ag a5))) aa ?_;clear bQ b0 bT b1 b2 a5;intro ck bV bW
  refine ao<|bg<|bS<|eh bm ai (dE bV a6 lF az aN) (bc bW) (eB (lN (cH (.ro _ rfl) (cH (.nil 4) (cH (.nil 2) (cH (.nil 3) fJ)))))) (.ro _ rfl) ?_
  clear bV bW a6 b6 b7 b9;rfl
 ·replace ah:=dp ah;exfalso;omega
theorem Di(l:aP)(hl:eo l)(hg:(cx l).2=0)(n a b:Int)(hm:iT n 0 (l.js.length - 1)=0):bN Tryz.prog 19 [dL l,mA n,.agg [mA a,mA b]] (λq=>q=uM l n.toNat a b):=by
 refine cw (fn:=Tryz.f19) 92 ai rfl ai aU ?_;intro bW eg hA cC;have cD:ak bW (.tmp 0)=_:=hA 0 _ rfl;have cE:ak bW (.tmp 1)=_:=hA 1 _ rfl;have cJ:ak bW (.tmp 2)=_:=hA 2 _ rfl;have bY:eg.length=0:=by rw [cC];rfl
 clear hA cC;have hr:=kJ hg;have hjs:=hr.js;have hn1:=hr.n1;have hm2:=Bo.1 hm;have hj:=hr.kV n.toNat ah;have hf:∀ z,gW [iT n 0 (l.js.length - 1),z]=z:=(λz=>by rw [hm];exact vM z);refine au<|at_<|aL (cZ cD rfl bY) trivial rfl (λeP bZ=>?_)
 have cK:=bu bZ bY;have a6:=br bZ bY;have a6:_=1:=a6;clear bZ;refine aL (cZ (ae cJ) rfl a6) trivial rfl (λeQ bA=>?_);have cL:=bu bA a6;have cM:=aK bA cK;have a7:=br bA a6;have a7:_=2:=a7;clear bA cK;refine aL (cy j8 rfl a7) trivial rfl (λeR a8=>?_);have aQ:=bu a8 a7;simp only [pS,Value.cells,Nat.reduceAdd,bX,jR]at aQ;have aS:=aK a8 cL;have aT:=aK a8 cM;have aY:=br a8 a7;have aY:_=3:=aY;clear a8 cL cM;refine ar (aB ay) rfl<|bp (aj cE) (ae (ag aa)) (ag aa) (ae aa) ?_;clear cD cE cJ;intro eS cN b0 cP cQ
 refine ao<|au<|at_<|ar (ax (aH lF rfl aT b0 az) fz) rfl ?_
 refine ar (bh (aE aa aM) rfl (ri l hl hg) qp) rfl<|ar (al aa) rfl<|ar (cI aa rfl) rfl<|ar (cI (ae aa) rfl) rfl<|ar (aB (ae aa)) rfl<|ar (aB (ae aa)) rfl<|dh (ae (ag (aj cN))) (ae (ag (aj b0))) (ae (ag (aj cP))) (ae (ag (aj cQ))) (ae aa) aa ?_;clear cN b0 cP cQ;intro eT cR cT cU cV cW b1
 refine ao<|au<|au<|at_<|ar (al b1) rfl<|ar (dB aa ay) rfl<|fX (ag cR) (ag cT) (ag cU) (ag cV) (ag cW) (ag b1) aa ?_;clear cR cT cU cV cW b1;intro eU b2 cX bD cY c6 ei c7
 refine ao<|bj c7 (λbE=>?_) (λbE=>?_)
 ·cases bE
 replace bE:=dp bE;refine bC<|ao<|au<|au<|dZ 12 ai ai ai ai ?_
 refine dr (al c6) rfl<|dr (al (ae b2)) rfl<|dr (bh (aE (ae aa) (aE aa aM)) rfl (C2 l hr n) Ef) rfl<|dr (aI fx rfl (ae (ag bD))) rfl<|dr (ax (aH gz rfl aS aa az) fz) rfl ?_
 refine dr (aI fy rfl (ae (aj bD))) rfl<|dr (ax (aH gz rfl aS aa az) fz) rfl ?_
 refine dr (fA (ag aa) aa) rfl<|dr (bh (aE aa (aE ay aM)) rfl (fa _ _) fc) rfl<|dr (ez Eh (bB (ag (aj aa)) (bB aa b8)) rfl rfl rfl rfl) rfl<|dr (bh (aE aa aM) rfl ((pX [_,_] aN).mono (λq h=>h.trans (by rw [hf]))) qq) rfl ?_
 refine dr (aB aa) rfl<|dC<|bR (aj (aA b2)) (aj (aA cX)) (aj (aA bD)) (aj (aA cY)) aa ?_;clear b2 c7 cX bD cY c6 ei;intro eV c8 c9 da db b6
 refine ao<|au<|at_<|ar (al b6) rfl<|ar (dB aa ay) rfl<|dh (ag c8) (ag c9) (ag da) (ag db) (ag b6) aa ?_;clear b6 c8 c9 da db;intro eW b7 b9 ca a9 cb cc
 refine ao<|bj cc (λba=>?_) (λba=>?_)
 ·replace ba:=dR ba;refine au<|at_<|ar (dq b8 qH qG qF rfl) rfl ?_
  refine ar (al (ae cb)) rfl<|aL (bP (ag a9) (ae aa) rfl rfl aQ gZ rfl az) trivial rfl (λeX bb=>?_)
  have cd:=aZ bb aQ;simp only [pS,Value.cells,Nat.reduceAdd,bX,jR]at cd;have ej:=aw bb aS aD;have ek:=aw bb aT aD;have en:=aX bb aY;clear bb aQ aS aT;refine ar (aB (aC aa)) rfl<|bq (ae (aC (ag a9))) aa ?_;clear cb b7 cc b9 ca a9;intro eY dc dd
  refine ao<|bg<|bS<|eh bm ai (dE dc cd lF az aN) (bc dd) (eB (lN (cH (.ro _ rfl) (cH (.nil 4) (cH (.nil 2) (cH (.nil 3) fJ)))))) (.ro _ rfl) ?_
  clear dc dd cd ej ek en
  (have hq:¬ a<=b:=λhc=>absurd (yd.1.2 hc) (by assumption);have hz:iV l n.toNat a b=9:=(by unfold iV;rw [if_neg hq]);rw [Bv ah,hz,yd.2 hq];rfl)
 replace ba:=dp ba;refine bC<|ao<|au<|at_<|ar (ax (aH lF rfl aT b9 az) fz) rfl ?_
 refine aL (EP aY (aE aa aM) rfl (Dz l hl hr.Ks) Eg) trivial rfl (λeZ a2=>?_);have de:=bu a2 aY;have df:=aK a2 aQ;have dg:=aK a2 aS;have di:=aK a2 aT;have be:=br a2 aY;have be:_=4:=be;clear a2 aQ aS aT;refine aL (cy j8 rfl be) trivial rfl (λe0 aF=>?_);have bF:=bu aF be;simp only [pS,Value.cells,Nat.reduceAdd,bX,jR]at bF;have ce:=aK aF de;have dj:=aK aF df;have dk:=aK aF dg;have dl:=aK aF di;have cf:=br aF be;have cf:_=5:=cf;clear aF de df dg di;refine aL (oG aa (ae aa) rfl (fV rfl (mY ce (fV rfl (fV rfl oK)))) bF gZ rfl az) trivial rfl (λe3 aG=>?_);have bG:=aZ aG bF;simp only [pS,Value.cells,Nat.reduceAdd,bX,jR]at bG;have cg:=aw aG ce aD;have dm:=aw aG dj aD;have dn:=aw aG dk aD;have dt:=aw aG dl aD;have bI:=aX aG cf;clear aG bF ce dj dk dl;refine bp (aC (ae (ag b7))) (aC (ae (ag ca))) (aC (ae (ag a9))) (aC aa) ?_;clear cb b7 cc b9 ca a9;intro e4 du dv dw ci;refine ao<|au<|at_<|ar (aI dN rfl ci) rfl<|ar (ax (aH zF rfl bG aa az) fz) rfl ?_
 refine ar (al (ag du)) rfl<|ar (jK zE cg (ae aa) aa ah dP) rfl ?_
 refine ar (aB aa) rfl<|bp (ae (aj dv)) (ae (aj dw)) (ae (aj ci)) aa ?_;clear ci du dv dw;intro e5 dx dy dz a3
 refine ao<|au<|fZ 24 1 bI ai ai ai ai (λep ad=>?_)
 have dA:=bz ad bG;have a5:=bz ad cg;have dD:=bz ad dm;have cj:=bz ad dn;have dF:=bz ad dt;have ck:ep[5]? =_:=fS ad bI 0 rfl rfl;have er:_=6:=ga (K:=1) ad bI;clear ad bG cg dm dn dt bI;refine aR (λM_ hM_=>(al a3)) trivial ?_;refine aR (λM_ hM_=>(bH aa)) trivial ?_;refine aR (λM_ hM_=>(aI iu rfl aa)) trivial ?_;refine cG (3) (λM_ hM_=>(ax (lD gz rfl (cn hM_ a5 aN) aa az (by first|(refine eb ?_;first|omega|(simp only [cS];omega))|(refine cO ?_;first|omega|(simp only [cS];omega))|(refine ky ?_;first|omega|(simp only [cS];omega))|rfl)) fz)) trivial trivial ?_;refine aR (λM_ hM_=>(al (aj a3))) trivial ?_;refine aR (λM_ hM_=>(bH aa)) trivial ?_;refine aR (λM_ hM_=>(vm (o:=0) fU rfl aa)) trivial ?_;refine aR (λM_ hM_=>(vf fx rfl aa)) trivial ?_;refine cG (3) (λM_ hM_=>(ax (vl gz rfl (cn hM_ a5 aN) aa az (by first|(refine eb ?_;first|omega|(simp only [cS];omega))|(refine cO ?_;first|omega|(simp only [cS];omega))|(refine ky ?_;first|omega|(simp only [cS];omega))|rfl)) fz)) trivial trivial ?_
 (refine aR (λM_ hM_=>(cv (ae (aj aa)) aa ?_)) trivial ?_; · (unfold In64;omega))
 refine aR (λM_ hM_=>(al (ag (aA a3)))) trivial ?_;refine aR (λM_ hM_=>(bH aa)) trivial ?_;refine aR (λM_ hM_=>(aI iu rfl aa)) trivial ?_;refine cG (3) (λM_ hM_=>(ax (lD gz rfl (cn hM_ a5 aN) aa az (by first|(refine eb ?_;first|omega|(simp only [cS];omega))|(refine cO ?_;first|omega|(simp only [cS];omega))|(refine ky ?_;first|omega|(simp only [cS];omega))|rfl)) fz)) trivial trivial ?_;refine aR (λM_ hM_=>(al (ag (aj (aA a3))))) trivial ?_;refine aR (λM_ hM_=>(bH aa)) trivial ?_;refine aR (λM_ hM_=>(vm (o:=0) fU rfl aa)) trivial ?_;refine aR (λM_ hM_=>(vf fy rfl aa)) trivial ?_;refine cG (3) (λM_ hM_=>(ax (vl gz rfl (cn hM_ a5 aN) aa az (by first|(refine eb ?_;first|omega|(simp only [cS];omega))|(refine cO ?_;first|omega|(simp only [cS];omega))|(refine ky ?_;first|omega|(simp only [cS];omega))|rfl)) fz)) trivial trivial ?_
 (refine aR (λM_ hM_=>(cv (ae (aj aa)) aa ?_)) trivial ?_; · (unfold In64;omega))
 refine aR (λM_ hM_=>(dq (bB (ag (aA aa)) (bB aa b8)) o9 o8 o7 rfl)) trivial ?_;refine cG (1) (λM_ hM_=>(ax (aH Gj rfl (cn hM_ cj aN) (ae (aj (aJ dx))) az) fz)) trivial trivial ?_;refine aR (λM_ hM_=>(bh (aE (ae aa) (aE aa aM)) rfl (Oh _ _ _ _) Og)) trivial ?_;refine kL (5) (λM_ hM_=>(nv qE rfl)) trivial ck rfl trivial ⟨.inl bo,⟨.inl bo,⟨.inl bo,⟨.inl bo,⟨.inl bo,trivial⟩⟩⟩⟩⟩ (λe6 af=>?_);have bJ:=aZ af ck;simp only [pS,Value.cells,Nat.reduceAdd,bX,jR]at bJ;have dG:=aw af dA aD;have dH:=aw af a5 aD;have dI:=aw af dD aD;have dJ:=aw af cj aD;have dK:=aw af dF aD;have eu:=aX af er;clear af dA a5 dD cj dF ck;refine gn rfl ?_;refine aL (bP aa (ae aa) rfl rfl bJ m8 rfl az) trivial rfl (λe7 am=>?_);have ab:=aZ am bJ;simp only [pS,Value.cells,Nat.reduceAdd,bX,jR]at ab;have bL:=aw am dG aD;have aO:=aw am dH aD;have bk:=aw am dI aD;have bM:=aw am dJ aD;have bO:=aw am dK aD;have dM:=aX am eu;clear am bJ dG dH dI dJ dK;refine bp (aC (aA (aJ dy))) (aC (aA (aJ dz))) (aC (aA (aJ a3))) (aC aa) ?_;clear dz a3 dx dy;intro e8 dO dQ dU bQ;refine ao<|au<|au<|at_<|ar (aI fx rfl bQ) rfl<|ar (ax (aH gz rfl ab aa az) fz) rfl ?_
 refine ar (aI fy rfl (ag bQ)) rfl<|ar (ax (aH gz rfl ab aa az) fz) rfl ?_
 refine ar (ey (ag aa) aa) rfl<|bR (ae (aj dO)) (ae (aj dQ)) (ae (aj dU)) (ae (aj bQ)) aa ?_;clear dQ dU bQ dO;intro e9 bv cm bw bT co
 refine ao<|bj co (λbx=>?_) (λbx=>?_)
 ·replace bx:=bt bx;refine au<|at_<|ar (dq b8 qH qG qF rfl) rfl ?_
  refine aL (bP (ae bv) aa rfl rfl bk gZ rfl az) trivial rfl (λfb an=>?_);have cr:=aZ an bk;simp only [pS,Value.cells,Nat.reduceAdd,bX,jR]at cr;have ev:=aw an ab aD;have ew:=aw an bL aD;have eA:=aw an aO aD;have eD:=aw an bM aD;have eE:=aw an bO aD;have eF:=aX an dM;clear an ab bL aO bk bM bO;refine ar (aB ay) rfl<|bq (ae (aC (ae bv))) aa ?_;clear cm bw bT bv co;intro fd dV dW
  refine ao<|bg<|bS<|eh bm ai (dE dV cr lF az aN) (bc dW) (eB (lN (cH (.ro _ rfl) (cH (.nil 4) (cH (.nil 2) (cH (.nil 3) fJ)))))) (.ro _ rfl) ?_
  clear dV dW cr ev ew eA eD eE eF
  (have hq:a<=b:=yd.1.1 (by assumption);have hz:iV l n.toNat a b=13:=(by unfold iV;rw [if_pos hq,if_neg ah]);rw [Bv ah,hz];rfl)
 replace bx:=bf bx;refine bC<|ao<|au<|dZ 18 ai ai ai ai ?_
 refine dr (al bw) rfl<|dr (aI fx rfl (ae bT)) rfl<|dr (ax (aH gz rfl ab aa az) fz) rfl ?_
 refine dr (al (ae (ag bw))) rfl<|dr (bH aa) rfl<|dr (aI iu rfl aa) rfl<|dr (ax (lD gz rfl aO aa az (by first|(refine eb ?_;first|omega|(simp only [cS];omega))|(refine cO ?_;first|omega|(simp only [cS];omega))|(refine ky ?_;first|omega|(simp only [cS];omega))|rfl)) fz) rfl ?_
 (refine dr (eC (aj aa) aa ?_) rfl ?_; · (unfold In64;omega))
 refine dr (aI fy rfl (aA bT)) rfl<|dr (ax (aH gz rfl ab aa az) fz) rfl ?_
 refine dr (al (ag (aA bw))) rfl<|dr (bH aa) rfl<|dr (aI iu rfl aa) rfl<|dr (ax (lD gz rfl aO aa az (by first|(refine eb ?_;first|omega|(simp only [cS];omega))|(refine cO ?_;first|omega|(simp only [cS];omega))|(refine ky ?_;first|omega|(simp only [cS];omega))|rfl)) fz) rfl ?_
 (refine dr (eC (aj aa) aa ?_) rfl ?_; · (unfold In64;omega))
 refine dr (dq (bB (ae (ag (aj aa))) (bB aa b8)) o9 o8 o7 rfl) rfl ?_;refine dr (bH (ae (ag (aj (aA aa))))) rfl<|dr (vm (o:=0) fU rfl aa) rfl<|dC<|aL (pO aa (ag aa) rfl rfl rfl aO rfl (by first|(refine eb ?_;first|omega|(simp only [cS];omega))|(refine cO ?_;first|omega|(simp only [cS];omega))|(refine ky ?_;first|omega|(simp only [cS];omega))|rfl) m8 rfl az) trivial rfl (λfe ap=>?_)
 have bV:=aZ ap aO;simp only [pS,Value.cells,Nat.reduceAdd,bX,jR]at bV;have dX:=aw ap ab aD;have cu:=aw ap bL aD;have cz:=aw ap bk aD;have dY:=aw ap bM aD;have ea:=aw ap bO aD;have eG:=aX ap dM;clear ap ab bL aO bk bM bO;refine bq (aC (ag (aJ bv))) (aC (ag (aJ cm))) ?_;clear cm bw bT bv co;intro ff cA ec;refine ao<|au<|at_<|ar (ax (aH lF rfl cu ec az) fz) rfl ?_
 refine aL (oG (ae cA) aa rfl (fV rfl (mY bV (fV rfl (fV rfl oK)))) cz gZ rfl az) trivial rfl (λfg av=>?_);have cB:=aZ av cz;simp only [pS,Value.cells,Nat.reduceAdd,bX,jR]at cB;have ed:=aw av bV aD;have eJ:=aw av dX aD;have eK:=aw av cu aD;have eL:=aw av dY aD;have eN:=aw av ea aD;have eO:=aX av eG;clear av bV dX cu cz dY ea;refine ar (aB ay) rfl<|bq (ae (aC (ae cA))) aa ?_;clear ec cA;intro fh ee ef
 refine ao<|bg<|eh bm ai (dE ee cB lF az aN) (bc ef) (eB (lN (cH (.ro _ rfl) (cH (.own _ _ _ _ ed) (cH (.ro _ rfl) (cH (.ro _ rfl) fJ)))))) (.ro _ rfl) ?_
 clear ee ef cB ed eJ eK eL eN eO
 (have hq:a<=b:=yd.1.1 (by assumption);have hz:iV l n.toNat a b=0:=(by unfold iV;rw [if_pos hq,if_pos ah]);rw [Je hz];rfl)
theorem Oi(l:aP)(hl:eo l)(hg:(cx l).2=0)(y:Int)(hy:dx y 0 100=true):bN Tryz.prog 21 [dL l,mA y] (λq=>q= .tuple [dL (lx l y),mA 0]):=by
 refine cw (fn:=Tryz.f21) 56 ai rfl ai aU ?_;intro bS di hA bT;have bW:ak bS (.tmp 0)=_:=hA 0 _ rfl;have bY:ak bS (.tmp 1)=_:=hA 1 _ rfl;have bk:di.length=0:=by rw [bT];rfl
 clear hA bT;have hr:=kJ hg;have hjs:=hr.js;have hn1:=hr.n1;have hy2:=l7.1 hy;refine au<|at_<|aL (cZ bW rfl bk) trivial rfl (λdX bo=>?_)
 have bZ:=bu bo bk;have av:=br bo bk;have av:_=1:=av;clear bo;refine aL (cy j8 rfl av) trivial rfl (λdY aT=>?_);have bv:=bu aT av;simp only [pS,Value.cells,Nat.reduceAdd,bX,jR]at bv;have aY:=aK aT bZ;have aF:=br aT av;have aF:_=2:=aF;clear aT bZ;refine ar (aB ay) rfl<|bJ (ae (ag bY)) (ag aa) (ae aa) ?_;clear bW bY;intro ea b0 bw b1
 refine ao<|au<|au<|at_<|ar (ax (aH lF rfl aY bw az) fz) rfl ?_
 refine ar (bh (aE aa aM) rfl (ri l hl hg) qp) rfl<|ar (al aa) rfl<|ar (cI aa rfl) rfl<|ar (cI (ae aa) rfl) rfl<|ar (aB (ae aa)) rfl<|ar (aB (ae aa)) rfl<|bp (ae (ag (aj b0))) (ae (ag (aj bw))) (ae (ag (aj b1))) aa ?_;clear b0 bw b1;intro ec b2 b6 b9 bx
 refine ao<|au<|at_<|ar (al bx) rfl<|ar (dB aa ay) rfl<|bR (ag b2) (ag b6) (ag b9) (ag bx) aa ?_;clear b2 b6 b9 bx;intro ed bz ca cb dj cc
 refine ao<|bj cc (λa2=>?_) (λa2=>?_)
 ·cases a2
 replace a2:=dp a2;refine bC<|ao<|au<|au<|at_<|ar (al bz) rfl<|ar (bh (aE aa (aE ay (aE ay aM))) rfl ((l8 _ _ _).mono (λq h=>show q=dK true from h.trans (by rw [hy]))) mi) rfl ?_
 refine ar (c8 aa) rfl<|bp (ae (ag bz)) (ae (ag ca)) (ae (ag cb)) aa ?_;clear cc bz ca cb dj;intro ee cd ce cf cg
 refine ao<|bj cg (λa3=>?_) (λa3=>?_)
 ·cases a3
 replace a3:=dm a3;refine bC<|ao<|au<|at_<|ar (ax (aH lF rfl aY ce az) fz) rfl ?_
 refine aL (EP aF (aE aa aM) rfl (Dz l hl hr.Ks) Eg) trivial rfl (λef aG=>?_);have ci:=bu aG aF;have cj:=aK aG bv;have ck:=aK aG aY;have aO:=br aG aF;have aO:_=3:=aO;clear aG bv aY;refine aL (cy j8 rfl aO) trivial rfl (λeg ad=>?_);have a5:=bu ad aO;simp only [pS,Value.cells,Nat.reduceAdd,bX,jR]at a5;have bA:=aK ad ci;have cm:=aK ad cj;have cn:=aK ad ck;have bD:=br ad aO;have bD:_=4:=bD;clear ad ci cj ck;refine aL (oG aa (ae aa) rfl (fV rfl (mY bA (fV rfl (fV rfl oK)))) a5 gZ rfl az) trivial rfl (λbE af=>?_);have a6:=aZ af a5;simp only [pS,Value.cells,Nat.reduceAdd,bX,jR]at a6;have co:=aw af bA aD;have cr:=aw af cm aD;have cu:=aw af cn aD;have dk:=aX af bD;clear af a5 bA cm cn;refine bJ (aC (ae (ag cd))) (aC (ae (ag cf))) (aC aa) ?_;clear cd cg ce cf;intro ei cz cA bF;refine ao<|au<|au<|at_<|ar (aI dN rfl bF) rfl<|ar (ax (aH zF rfl a6 aa az) fz) rfl ?_
 refine ar (ax (rh aa co rfl zE.1) b7) rfl ?_;refine ar (al ay) rfl<|bR (aj cz) (aj cA) (aj bF) (ae aa) aa ?_;clear cz cA bF;intro a7 cC cD cE cG dl
 refine ao<|bV<|eu (S:=(Int×List ep)) (λs e mem=>match s with|⟨i,xs⟩=>(ak e (.tmp 29)= .v (.int .i64 i))/\(ak e (.tmp 1)=ak a7 (.tmp 1))/\(ak e (.tmp 4)=ak a7 (.tmp 4))/\(ak e (.tmp 8)=ak a7 (.tmp 8))/\(ak e (.tmp 28)=ak a7 (.tmp 28))/\(mem[2]? =some (.row 59 4 (xs.map bX)))/\(mem[3]? =bE[3]?)/\(mem[1]? =bE[1]?)/\(mem[0]? =bE[0]?)/\(mem.length=4)/\((0<=i/\i<=l.js.length/\xs=lT l.js y i.toNat))) (λs=>match s with|⟨i,xs⟩=>(l.js.length - i).toNat) ⟨_,l.js⟩ ⟨dl,rfl,rfl,rfl,rfl,co,rfl,rfl,rfl,dk,?_⟩ ?_
 ·(exact⟨ah,ah,rfl⟩)
 ·rintro⟨i,xs⟩ ej ek ⟨bG,dn,dt,du,dv,ab,dw,dy,dz,cJ,hinv⟩;have cL:=dn.trans cC;have cM:=dt.trans cD;have cN:=du.trans cE;have bI:=dv.trans cG;have am:=dw.trans a6;have aQ:=dy.trans cr;have a8:=dz.trans cu
  (obtain⟨p1,p2,p3⟩:=hinv;have hxl:xs.length=l.js.length:=(by rw [p3,tn]);have hge:xs.getD i.toNat default=l.js.getD i.toNat default:=(by rw [p3];exact Ii _ _ (Xf _)))
  refine au<|at_<|ar (cU bG bI) rfl<|dh (ae cL) (ae cM) (ae cN) (ae bI) (ae bG) aa ?_;clear cL bI bG cM cN;intro en bL aR a9 bM ba bO
  refine ao<|au<|bj bO (λaS=>?_) (λaS=>?_)
  ·replace aS:=bt aS
   (have hj:=hr.kV i.toNat ah;rw [<- hge]at hj)
   refine bC<|ao<|au<|bV<|au<|at_<|ar (al ba) rfl<|ar (aB aa) rfl<|dh (ag bL) (ag aR) (ag a9) aa (ag bM) (ag ba) ?_;clear bL bM ba bO aR a9;intro er cP cQ bP cR cT cV
   refine ao<|au<|at_<|ar (aI dN rfl bP) rfl<|ar (ax (aH zF rfl am aa az) fz) rfl ?_
   refine ar (al (ag cR)) rfl<|ar (jK zE ab (ae aa) aa ah dP) rfl ?_
   refine ar (vm (o:=0) fU rfl aa) rfl<|ar (aB aa) rfl<|dh (ag (aj cP)) (ag (aj cQ)) (ag (aj bP)) aa (ag (aj cT)) (ag (aj cV)) ?_;clear cP cT cV cQ bP cR;intro ev bb cW cX be cY c6
   refine ao<|dZ 17 ai ai ai ai ?_
   refine dr (al be) rfl<|dr (al (ae be)) rfl<|dr (bH aa) rfl<|dr (vf fx rfl aa) rfl<|dr (ax (vl gz rfl ab aa az (by first|(refine eb ?_;first|omega|(simp only [cS];omega))|(refine cO ?_;first|omega|(simp only [cS];omega))|(refine ky ?_;first|omega|(simp only [cS];omega))|rfl)) fz) rfl ?_
   refine dr (al (ae (aj bb))) rfl ?_
   (refine dr (eC (ae aa) aa ?_) rfl ?_; · (unfold In64;omega))
   refine dr (xn ay aa) rfl<|dr (al (aA be)) rfl<|dr (bH aa) rfl<|dr (vf fy rfl aa) rfl<|dr (ax (vl gz rfl ab aa az (by first|(refine eb ?_;first|omega|(simp only [cS];omega))|(refine cO ?_;first|omega|(simp only [cS];omega))|(refine ky ?_;first|omega|(simp only [cS];omega))|rfl)) fz) rfl ?_
   refine dr (al (aj (aA bb))) rfl ?_
   (refine dr (cv (ae aa) aa ?_) rfl ?_; · (unfold In64;omega))
   refine dr (si ay aa) rfl<|dr (dq (bB (ae (ag (aj aa))) (bB aa b8)) o9 o8 o7 rfl) rfl ?_
   refine dr (bH (ae (ag (aj (aA aa))))) rfl<|dC<|aL (pO aa (ae aa) rfl rfl rfl ab rfl (by first|(refine eb ?_;first|omega|(simp only [cS];omega))|(refine cO ?_;first|omega|(simp only [cS];omega))|(refine ky ?_;first|omega|(simp only [cS];omega))|rfl) m8 rfl az) trivial rfl (λew an=>?_)
   have c7:=aZ an ab;simp only [pS,Value.cells,Nat.reduceAdd,bX,jR]at c7;have dA:=aw an am aD;have dD:=aw an aQ aD;have dF:=aw an a8 aD;have dG:=aX an cJ;clear an ab am aQ a8;refine bR (aC (ae (aJ bb))) (aC (ae (aJ cW))) (aC (ae (aJ cX))) (aC (ae (aJ cY))) (aC (ae (aJ c6))) ?_;clear be bb cY c6 cW cX;intro ey c9 da db dc dd;refine cK<|ao<|at_ ?_
   (refine ar (cv dd ay ?_) rfl ?_; · (unfold In64;omega))
   refine ar (al aa) rfl<|bR (ag c9) (ag da) (ag db) (ag dc) aa ?_;clear c9 dc dd da db;intro ez dH dI dJ dM dO
   refine ao<|⟨⟨_,_⟩,⟨dO,(dH.trans cC.symm),(dI.trans cD.symm),(dJ.trans cE.symm),(dM.trans cG.symm),c7,(dA.trans a6.symm),(dD.trans cr.symm),(dF.trans cu.symm),dG,?_⟩,?_⟩
   ·(refine⟨ah,ah,?_⟩;rw [show(i+1).toNat =i.toNat+1 by omega];simp only [lT];rw [<- p3, <- hge];rfl)
   ·((try dsimp only);omega)
  replace aS:=bf aS;refine dV<|cB<|cB<|dU<|ao<|au<|at_<|ar (ax (aH lF rfl am a9 az) fz) rfl ?_
  refine aL (oG (ae aR) aa rfl (fV rfl (mY ab (fV rfl (fV rfl oK)))) aQ gZ rfl az) trivial rfl (λeA ap=>?_);have bQ:=aZ ap aQ;simp only [pS,Value.cells,Nat.reduceAdd,bX,jR]at bQ;have de:=aw ap ab aD;have dQ:=aw ap am aD;have dR:=aw ap a8 aD;have dW:=aX ap cJ;clear ap ab am aQ a8;refine ar (aB ay) rfl<|bq (ae (aC (ae aR))) aa ?_;clear bL bM ba bO aR a9;intro eD df dg
  refine ao<|bg<|eh bm ai (dE df bQ lF az aN) (bc dg) (eB (lN (cH (.ro _ rfl) (cH (.own _ _ _ _ de) (cH (.ro _ rfl) (cH (.ro _ rfl) fJ)))))) (.ro _ rfl) ?_
  clear df dg bQ de dQ dR dW
  (have hm:l.js.length=i.toNat:=ah;unfold lx aP.Bq;rw [hm, <- p3];rfl)
theorem zG:(Tryz.prog.info? 59).bind (·.zero)=some (.agg #[.int .i64 0,.int .i64 0,.int .i64 0,.int .i64 0]):=by kernel_rfl
theorem zH:Tryz.prog.underlying 59=some (.struct (eP Tryz.prog 59)):=by kernel_rfl
theorem zI:∀ w,((eP Tryz.prog 59).mapM λf=>Prod.mk f.offset<$>sizeOf f.type:Sem (Array (Nat×Nat))).run Tryz.prog w= .ok (#[(0,1),(1,1),(2,2)]) w:=λ_=>by kernel_rfl
theorem QV:bO Tryz.prog 23 59 4 32 (.agg #[.int .i64 0,.int .i64 0,.int .i64 0,.int .i64 0]):=⟨ai,ai,ai⟩
theorem QW:bO Tryz.prog 24 95 2 16 (.agg #[.int .i64 0,.int .i64 0]):=⟨ai,ai,ai⟩
theorem QX:aQ Tryz.prog 27 true 4:=⟨ai,ai⟩
def od:aP:=⟨⟨#[115,104,111,114,116]⟩,[⟨0,0,0,0⟩,⟨0,100,0,0⟩,⟨200,100,0,0⟩],[⟨10000,0⟩,⟨10000,100⟩],[]⟩
theorem Ij:bN Tryz.prog 23 [] (λq=>q=dL od):=by
 refine cw (fn:=Tryz.f23) 9 ai rfl ai aU ?_;intro aw ap hA am;have ad:ap.length=0:=by rw [am];rfl
 clear hA am;refine au<|at_<|aL (cy j8 rfl ad) trivial rfl (λax af=>?_)
 have ab:=bu af ad;simp only [pS,Value.cells,Nat.reduceAdd]at ab;have ah:=br af ad;have ah:_=1:=ah;clear af;refine aY aa ?_;intro aB aj;refine ao<|au<|at_<|ar (dq b8 zG zH zI rfl) rfl ?_
 refine ar (dq (bB ay b8) zG zH zI rfl) rfl ?_;refine ar (dq (bB ay (bB ay b8)) zG zH zI rfl) rfl ?_;refine ar (ez QV (bB (ag aa) (bB (ae aa) (bB aa b8))) rfl rfl rfl rfl) rfl<|ar (dq (bB ay b8) BM BK BH rfl) rfl ?_
 refine ar (dq (bB ay (bB ay b8)) BM BK BH rfl) rfl ?_;refine ar (ez QW (bB (ae aa) (bB aa b8)) rfl rfl rfl rfl) rfl<|ar (dq (bB ay (bB (ae (ag aa)) (bB aa b8))) qH qG qF rfl) rfl ?_
 refine aL (bP (aA aj) aa rfl rfl ab gZ rfl az) trivial rfl (λaD ak=>?_);have al:=aZ ak ab;simp only [pS,Value.cells,Nat.reduceAdd]at al;have av:=aX ak ah;clear ak ab;refine aY (aC (aA aj)) ?_;clear aj;intro aE an;refine ao<|bg<|bL bm ai (dE an al QX az aN) (eB (lN (cH (.ro _ rfl) (cH (.ro _ rfl) (cH (.ro _ rfl) (cH (.nil 3) fJ)))))) ?_
 clear an al av;rfl
theorem Gk:eo od:=⟨aD,aD,aD,aD,by intro s hs;cases hs⟩
theorem y8:(cx od).2=0:=by kernel_rfl
theorem Us:bN Tryz.prog 24 [dL od,mA 1000,mA 1] (λq=>q= .tuple [mA 745250000,mA 0]):=
 (Lj od Gk y8 1000 1 (λhs n hn=>by
  obtain rfl:n=1:=by
   have:od.js.length=3:=rfl;omega
  exact NZ od (kJ y8) 1000 aD 1 aD aD)).mono λq h=>h.trans ai
theorem Ut:bN Tryz.prog 25 [dL od,mz 10000 60 2500,.agg [mA 2500,mA 1]] (λq=>q= .tuple [.agg [mA (-38),mA (-37)],mA 0]):=
 (KE od Gk y8 10000 60 2500 2500 1 aD aD).mono λq h=>h.trans ai
theorem eY.yl{l m:aP}(n:eY l m)(h:eo l):eo m:=by
 obtain⟨h1,h2,h3,h4,h5⟩:=h;exact⟨by rw [n.nam];exact h1,by rw [n.len];exact h2,by rw [n.bs];exact h3,by rw [n.ss];exact h4,by rw [n.ss];exact h5⟩
theorem JR{c lo hi:Int}:mB c lo hi=2↔ -c<=lo/\hi<=c:=by unfold mB;(repeat' split)<;>omega
theorem Uu:(Tryz.prog.info? 3).bind (·.zero)=some (.int .i64 0):=by kernel_rfl
theorem Gl:(Tryz.prog.info? 50).bind (·.zero)=some (.agg #[.int .i64 0,.int .i64 0,.int .i64 0,.int .i64 0]):=by kernel_rfl
theorem Gm:Tryz.prog.underlying 50=some (.struct (eP Tryz.prog 50)):=by kernel_rfl
theorem Gn:∀ w,((eP Tryz.prog 50).mapM λf=>Prod.mk f.offset<$>sizeOf f.type:Sem (Array (Nat×Nat))).run Tryz.prog w= .ok (#[(0,1),(1,1),(2,2)]) w:=λ_=>by kernel_rfl
theorem Oj:∀ args w,(callFunc 47 args).run Tryz.prog w= .ok (.enter 47 args) w:=λ_ _=>by kernel_rfl
theorem Ol:∀ args w,(callFunc 50 args).run Tryz.prog w= .ok (.enter 50 args) w:=λ_ _=>by kernel_rfl
theorem Om:∀ args w,(callFunc 80 args).run Tryz.prog w= .ok (.enter 80 args) w:=λ_ _=>by kernel_rfl
theorem On:bO Tryz.prog 153 30 1 8 (.int .i64 0):=⟨ai,ai,ai⟩
theorem y9:aQ Tryz.prog 103 false 1:=⟨ai,ai⟩
theorem QY:aQ Tryz.prog 27 true 4:=⟨ai,ai⟩
theorem Az:aQ Tryz.prog 3 false 1:=⟨ai,ai⟩
theorem Gp:aQ Tryz.prog 30 false 1:=⟨ai,ai⟩
theorem tp:aQ Tryz.prog 44 true 3:=⟨ai,ai⟩
theorem Gq:aQ Tryz.prog 48 true 2:=⟨ai,ai⟩
theorem Gs:aQ Tryz.prog 50 true 4:=⟨ai,ai⟩
def mH(l:aP)(L c p:Int)(n:Nat):Bool:=decide (mB c (na l L p n) (nc l L p n)≠2)
def im(l:aP)(L c p:Int)(i:Nat):Option Nat:=((eX l L p).take i).find? (mH l L c p)
def jF(l:aP)(L c u:Int):Nat->Option (Int×Nat)
 | 0=>none
 | k+1=>match jF l L c u k with
  | some r=>some r
  | none=>(im l L c ((k:Int)*u) (eX l L ((k:Int)*u)).length).map λn=>((k:Int)*u,n)
theorem QZ{l:aP}{L c u:Int}{k:Nat}{r:Int×Nat}(h:jF l L c u k=some r):∀ m,k<=m->jF l L c u m=some r:=by
 intro m
 induction m with
 | zero=>
  intro hk;have:k=0:=by omega
  subst this;exact h
 | succ m ih=>
  intro hk
  by_cases hm:k=m+1
  ·subst hm;exact h
  ·unfold jF;rw [ih ah]
theorem Gt{l:aP}{L c p:Int}{i n:Nat}(hn:(eX l L p)[i]? =some n):im l L c p (i+1)=(im l L c p i).or (if mH l L c p n=true then some n else none):=by
 unfold im;rw [YK,hn,List.find?_append]
 congr 1
 simp only [Option.toList,List.find?];cases mH l L c p n<;>rfl
theorem Q0{l:aP}{L c p:Int}{i n:Nat}(hn:(eX l L p)[i]? =some n)(h:im l L c p i=none)(hb:mH l L c p n=false):im l L c p (i+1)=none:=by
 rw [Gt hn,h,hb];rfl
theorem Uw{l:aP}{L c p:Int}{i n:Nat}(hn:(eX l L p)[i]? =some n)(h:im l L c p i=none)(hb:mH l L c p n=true):im l L c p (eX l L p).length =some n:=by
 have h1:im l L c p (i+1)=some n:=by rw [Gt hn,h,hb];rfl
 unfold im at h1 ⊢;rw [X8, <- Yc (i+1) (eX l L p),List.find?_append,h1];rfl
theorem Q3{l:aP}{L c u:Int}{k:Nat}(h:jF l L c u k=none)(hi:im l L c ((k:Int)*u) (eX l L ((k:Int)*u)).length =none):jF l L c u (k+1)=none:=by
 unfold jF;rw [h,hi];rfl
theorem Ux{l:aP}{L c u:Int}{k n m:Nat}(h:jF l L c u k=none)(hi:im l L c ((k:Int)*u) (eX l L ((k:Int)*u)).length =some n)(hk:k<m):jF l L c u m=some ((k:Int)*u,n):=by
 refine QZ (k:=k+1) ?_ m hk;unfold jF;rw [h,hi];rfl
def iq(l:aP)(L c u:Int):Option (Int×Nat):=jF l L c u (kQ l L u)
def Kt(l:aP)(L:Int):Option (Int×Nat)->AV
 | some (p,n)=>.agg [mA p,mA n,mA (na l L p n),mA (nc l L p n)]
 | none=>.agg [mA 0,mA 0,mA 0,mA 0]
def mI:Option (Int×Nat)->Int
 | some _=>0
 | none=>12
theorem Uy{l:aP}{L c p:Int}{n:Nat}:mH l L c p n=true↔mB c (na l L p n) (nc l L p n)≠2:=by unfold mH;simp
theorem VL{l:aP}{L c p:Int}{n:Nat}(h:mB c (na l L p n) (nc l L p n)=2):mH l L c p n=false:=by unfold mH;simp [h]
theorem yu(l:aP)(hl:eo l)(hg:(cx l).2=0)(L c u:Int)(hv:gB L c u=0):bN Tryz.prog 18 [dL l,mz L c u] (λq=>q= .tuple [Kt l L (iq l L c u),mA (mI (iq l L c u))]):=by
 refine cw (fn:=Tryz.f18) 48 ai rfl ai aU ?_;intro da e4 hA dc;have dd:ak da (.tmp 0)=_:=hA 0 _ rfl;have de:ak da (.tmp 1)=_:=hA 1 _ rfl;have b1:e4.length=0:=by rw [dc];rfl
 clear hA dc;have h:=kJ hg;have hv2:=uv.1 hv;have hpb:=h.nq (n:=l.bs.length) (Xf _);refine au<|at_<|aL (cZ dd rfl b1) trivial rfl (λfE b2=>?_)
 have df:=bu b2 b1;have aY:=br b2 b1;have aY:_=1:=aY;clear b2;refine aL (cZ (ae de) rfl aY) trivial rfl (λfG bE=>?_);have dg:=bu bE aY;have di:=aK bE df;have a2:=br bE aY;have a2:_=2:=a2;clear bE df;refine aL (cy xK rfl a2) trivial rfl (λfH a3=>?_);have b6:=bu a3 a2;simp only [pS,Value.cells,Nat.reduceAdd]at b6;have dj:=aK a3 dg;have dk:=aK a3 di;have a5:=br a3 a2;have a5:_=3:=a5;clear a3 dg di;refine aL (cy xJ rfl a5) trivial rfl (λfI aO=>?_);have b7:=bu aO a5;simp only [pS,Value.cells,Nat.reduceAdd]at b7;have dl:=aK aO b6;have dm:=aK aO dj;have b9:=aK aO dk;have a6:=br aO a5;have a6:_=4:=a6;clear aO b6 dj dk;refine bp (ae (ag aa)) (ag aa) (ae aa) aa ?_;clear dd de;intro fJ dn dr dt du;refine ao<|au<|at_<|ar (ax (aH QY rfl b9 dn az) bk) rfl ?_
 refine ar (bh (aE aa aM) rfl (ri l hl hg) qp) rfl<|ar (al aa) rfl<|ar (cI aa rfl) rfl<|ar (cI (ae aa) rfl) rfl<|aL (cy Iz rfl a6) trivial rfl (λfK aA=>?_)
 have bF:=bu aA a6;simp only [pS,Value.cells,Nat.reduceAdd]at bF;have dv:=aK aA b7;have dw:=aK aA dl;have dx:=aK aA dm;have dy:=aK aA b9;have ca:=br aA a6;have ca:_=5:=ca;clear aA b7 dl dm b9;refine aL (bP aa (ag aa) rfl rfl bF IH rfl az) trivial rfl (λa7 aF=>?_);have a8:=aZ aF bF;simp only [pS,Value.cells,Nat.reduceAdd]at a8;have cb:=aw aF dv aD;have cc:=aw aF dw aD;have a9:=aw aF dx aD;have cd:=aw aF dy aD;have e5:=aX aF ca;clear aF bF dv dw dx dy;refine ar (aB (aC (ae aa))) rfl<|bR (ae (aC (ag (aj dr)))) (ae (aC (ag (aj dt)))) (ae (aC (ag (aj du)))) (ae (aC aa)) aa ?_;clear dn dr dt du;intro fL ce dz dA dC dD
 refine ao<|au<|au<|at_<|ar (al dD) rfl<|ar (ax (aH tp rfl a9 (ae ce) az) bk) rfl ?_
 refine ar (bh (aE aa aM) rfl (CL L c u) IA) rfl<|ar (ez On (bB (ag aa) (bB aa b8)) rfl rfl rfl rfl) rfl<|ar (bh (aE aa aM) rfl ((pX [_,_] aN).mono (λq h=>h.trans (show mA (gW [0,gB L c u])=mA 0 by rw [vM,hv]))) qq) rfl ?_
 refine ar (aB aa) rfl<|bR (ag (aj ce)) (ag (aj dz)) (ag (aj dA)) (ag (aj dC)) aa ?_;clear ce dz dA dC dD;intro fO dF dG dH dI cf
 refine ao<|au<|at_<|ar (al cf) rfl<|ar (dB aa ay) rfl<|dh (ag dF) (ag dG) (ag dH) (ag dI) (ag cf) aa ?_;clear dF dG dH dI cf;intro fP cg dJ dK ci e6 dM
 refine ao<|bj dM (λba=>?_) (λba=>?_)
 ·replace ba:=dR ba;exfalso;omega
 replace ba:=dp ba;refine bC<|ao<|au<|au<|at_<|ar (ax (aH y9 rfl a8 ci az) bk) rfl ?_
 refine ar (ax (aH tp rfl a9 (ae cg) az) bk) rfl ?_;refine ar (bh (aE (ae aa) (aE aa aM)) rfl (QO l L c u) Oj) rfl<|bR (ae (ag cg)) (ae (ag dJ)) (ae (ag dK)) (ae (ag ci)) aa ?_;clear dM cg dJ dK ci e6;intro fQ cj aQ aR ck bG
 refine ao<|bV<|L9 bG (MP l h L c u hv2.1 ah) Om (by exact QN) aU (λi mem=>(mem[4]? =a7[4]?)/\(mem[3]? =a7[3]?)/\(mem[2]? =a7[2]?)/\(mem[1]? =a7[1]?)/\(mem[0]? =a7[0]?)/\(∃ n,mem.length=n/\5<=n)/\((jF l L c u i=none))) ⟨rfl,rfl,rfl,rfl,rfl,⟨_,e5,ah⟩,?_⟩ ?_ ?_
 ·rfl
 ·rintro k fR e7 e8 ⟨cm,cn,co,cr,cu,⟨bH,bb,e9⟩,hinv⟩
  (obtain⟨hk,rfl⟩:=Uo e8;have hk1:=hinv;have hkp:=(uw ah _).1 hk;have hk0:0<=(k:Int)*u:=YT ah ah)
  have bc:=cm.trans a8;have be:=cn.trans cb;have aS:=co.trans cc;have bf:=cr.trans a9;have bo:=cu.trans cd;refine sj (λfS aG=>?_);have dN:=ef 3 aG (ae cj);have dO:=ef 4 aG (ae aQ);have dP:=ef 5 aG (ae aR);have dQ:=ef 6 aG (ae ck);have fa:=ef 27 aG (ae bG);have dU:=ef 28 aG aa;clear aG;refine at_<|aL (cy Uu rfl bb) trivial rfl (λfT an=>?_)
  have bI:=bu an bb;simp only [pS,Value.cells,Nat.reduceAdd]at bI;have dV:=aK an bc;have dW:=aK an be;have dX:=aK an aS;have dY:=aK an bf;have dZ:=aK an bo;have fb:=br an bb;clear an bc be aS bf bo;refine aL (bP aa (ae dU) rfl rfl bI iK rfl az) trivial rfl (λaT ap=>?_);have bv:=aZ ap bI;simp only [pS,Value.cells,Nat.reduceAdd]at bv;have bJ:=aw ap dV ah;have cv:=aw ap dW ah;have cz:=aw ap dX ah;have bL:=aw ap dY ah;have cA:=aw ap dZ ah;have fc:=aX ap fb;clear ap bI dV dW dX dY dZ;refine bR (aC (ae dN)) (aC (ae dO)) (aC (ae dP)) (aC (ae dQ)) (aC aa) ?_;clear fa dU dN dO dP dQ;intro fU cB ea eb cC cD;refine Af ?_;refine DV ?_;refine Tv ?_;refine IX ?_;refine at_<|ar (ax (aH y9 rfl bJ cC az) bk) rfl ?_
  refine ar (ax (aH tp rfl bL (ae cB) az) bk) rfl ?_;refine ar (ax (aH Az rfl bv (ag cD) az) bk) rfl ?_;refine ar (bh (aE (ag aa) (aE (ae aa) (aE aa aM))) rfl (Dy l L c u _) IB) rfl<|dh (aj cB) (aj ea) (aj eb) (aj cC) (aj cD) aa ?_;clear cB ea eb cC cD;intro fV fd fe ff fg fh ec
  refine ao<|DV ?_
  refine Mc ec (C4 l h L c u _ hv2.1 ah) IG (by exact F9) aU (λi mem=>(mem[bH]? =aT[bH]?)/\(mem[4]? =aT[4]?)/\(mem[3]? =aT[3]?)/\(mem[2]? =aT[2]?)/\(mem[1]? =aT[1]?)/\(mem[0]? =aT[0]?)/\(∃ n,mem.length=n/\bH+1<=n)/\((im l L c ((k:Int)*u) i=none))) ⟨rfl,rfl,rfl,rfl,rfl,rfl,⟨_,fc,ah⟩,?_⟩ ?_ ?_
  ·rfl
  ·rintro fW fX fi fj ⟨cE,cG,cH,cJ,cL,cM,⟨fk,bw,fl⟩,hinv⟩
   (obtain⟨n,hn,rfl,n1,n2,n3⟩:=Ie fj;have hq:Pos l L _ n:=Ig hv2.1 ah n1 n2 n3)
   have bM:=cE.trans bv;have bx:=cG.trans bJ;have bO:=cH.trans cv;have bQ:=cJ.trans cz;have bz:=cL.trans bL;have bT:=cM.trans cA;refine sj (λfY av=>?_);have ed:=ef 3 av (ae fd);have ee:=ef 4 av (ae fe);have eg:=ef 5 av (ae ff);have ei:=ef 6 av (ae fg);have ej:=ef 8 av (ae fh);have fm:=ef 32 av (ae ec);have ek:=ef 33 av aa;clear av;refine at_<|ar (aB ek) rfl<|dh (ae ed) (ae ee) (ae eg) (ae ei) (ae ej) aa ?_;clear fm ek ed ee eg ei ej;intro fZ cN en ep er cO cP
   refine Af ?_;refine IX ?_;refine bV<|au<|at_<|ar (ax (aH y9 rfl bx er az) bk) rfl ?_
   refine ar (ax (aH tp rfl bz (ae cN) az) bk) rfl ?_;refine ar (ax (aH Az rfl bM (ag cO) az) bk) rfl ?_;refine ar (al (ae (ag cP))) rfl<|ar (bh (aE (ae (ag aa)) (aE (ag aa) (aE (ae aa) (aE aa aM)))) rfl (C3 l h L c u _ n hq) IC) rfl<|aL (cy qE rfl bw) trivial rfl (λf0 ab=>?_)
   have bW:=bu ab bw;simp only [pS,Value.cells,Nat.reduceAdd]at bW;have eu:=aK ab bM;have ev:=aK ab bx;have ew:=aK ab bO;have ey:=aK ab bQ;have eA:=aK ab bz;have eC:=aK ab bT;have fo:=br ab bw;clear ab bM bx bO bQ bz bT;refine aL (bP aa (ae aa) rfl rfl bW m8 rfl az) trivial rfl (λga ad=>?_);have bA:=aZ ad bW;simp only [pS,Value.cells,Nat.reduceAdd]at bA;have bY:=aw ad eu ah;have cQ:=aw ad ev ah;have cR:=aw ad ew ah;have bZ:=aw ad ey ah;have b0:=aw ad eA ah;have cT:=aw ad eC ah;have eD:=aX ad fo;clear ad bW eu ev ew ey eA eC;refine dh (aC (ag (aj cN))) (aC (ag (aj en))) (aC (ag (aj ep))) (aC (ag (aj cO))) (aC (ag (aj cP))) (aC aa) ?_;clear cN en ep er cO cP;intro gb eE eF eG eJ eK cU;refine ao<|au<|at_<|ar (ax (aH tp rfl b0 eE az) bk) rfl ?_
   refine ar (ax (aH Gq rfl bA (ae cU) az) bk) rfl ?_;refine ar (bh (aE (ae aa) (aE aa aM)) rfl (N8 L c u _ _ hv2.2.1) Ol) rfl<|ar (dB aa ay) rfl<|dh (aj eF) (aj eG) (aj eJ) (aj eK) (aj cU) aa ?_;clear cU eE eF eG eJ eK;intro gc cV cW eL eN eO eP
   refine ao<|bj eP (λbD=>?_) (λbD=>?_)
   ·replace bD:=dR bD;refine au<|at_<|ar (ax (aH Az rfl bY eL az) bk) rfl ?_
    refine ar (al (ae eN)) rfl<|ar (ax (aH Gq rfl bA (ag eO) az) bk) rfl ?_
    refine ar (dq (bB (ag aa) (bB (ae aa) (bB aa b8))) Gl Gm Gn rfl) rfl ?_;refine aL (bP (aj cV) aa rfl rfl bZ uy rfl az) trivial rfl (λgd af=>?_);have cX:=aZ af bZ;simp only [pS,Value.cells,Nat.reduceAdd]at cX;have eQ:=aw af bA ah;have eR:=aw af bY ah;have eS:=aw af cQ aD;have cY:=aw af cR aD;have eT:=aw af b0 aD;have eU:=aw af cT aD;have fp:=aX af eD;clear af bA bY cQ cR bZ b0 cT;refine aL (bP (aC (aj cW)) ay rfl rfl cY qI rfl az) trivial rfl (λge am=>?_);have c6:=aZ am cY;simp only [pS,Value.cells,Nat.reduceAdd]at c6;have eV:=aw am cX aD;have fq:=aw am eQ ah;have fs:=aw am eR ah;have ft:=aw am eS aD;have fu:=aw am eT aD;have fx:=aw am eU aD;have fy:=aX am fp;clear am cX eQ eR eS cY eT eU;refine bq (aC (aC (aj cV))) (aC (aC (aj cW))) ?_;clear eO eP cV cW eL eN;intro gf gg gh;refine ao<|bg<|db<|BQ<|db<|db<|BQ<|db<|bS<|eh bm ai (dE aQ eV Gs az aN) (dE aR c6 Gp az aN) (eB (.ro _ rfl)) (qQ (.ro _ rfl)) ?_
    clear bG cj aQ aR ck c6 eV fq fs ft fu fx fy
    (have hA:=Ux hk1 (Uw hn hinv (Uy.2 (by assumption))) hk;rw [show iq l L c u=_ from hA];rfl)
   replace bD:=dp bD;refine bC<|cK<|BP ⟨(bY.trans bv.symm),(cQ.trans bJ.symm),(cR.trans cv.symm),(bZ.trans cz.symm),(b0.trans bL.symm),(cT.trans cA.symm),⟨_,eD,ah⟩,?_⟩
   (exact Q0 hn hinv (VL (by assumption)))
  ·rintro fi ⟨cE,cG,cH,cJ,cL,cM,⟨fk,bw,fl⟩,hinv⟩;have bM:=cE.trans bv;have bx:=cG.trans bJ;have bO:=cH.trans cv;have bQ:=cJ.trans cz;have bz:=cL.trans bL;have bT:=cM.trans cA;refine cK<|cK<|BP ⟨(bx.trans a8.symm),(bO.trans cb.symm),(bQ.trans cc.symm),(bz.trans a9.symm),(bT.trans cd.symm),⟨_,bw,ah⟩,?_⟩
   (exact Q3 hk1 (by rw [<- zA];exact hinv))
 ·rintro e7 ⟨cm,cn,co,cr,cu,⟨bH,bb,e9⟩,hinv⟩;have bc:=cm.trans a8;have be:=cn.trans cb;have aS:=co.trans cc;have bf:=cr.trans a9;have bo:=cu.trans cd;refine cK<|ao<|au<|at_<|ar (dq b8 Gl Gm Gn rfl) rfl ?_
  refine aL (bP (ae aQ) aa rfl rfl aS uy rfl az) trivial rfl (λgi aI=>?_);have c7:=aZ aI aS;simp only [pS,Value.cells,Nat.reduceAdd]at c7;have eW:=aw aI bc aD;have c8:=aw aI be aD;have eX:=aw aI bf aD;have eY:=aw aI bo aD;have fz:=aX aI bb;clear aI bc be aS bf bo;refine aL (bP (aC (ae aR)) ay rfl rfl c8 qI rfl az) trivial rfl (λgj aJ=>?_);have c9:=aZ aJ c8;simp only [pS,Value.cells,Nat.reduceAdd]at c9;have eZ:=aw aJ c7 aD;have fA:=aw aJ eW aD;have fB:=aw aJ eX aD;have fC:=aw aJ eY aD;have fD:=aX aJ fz;clear aJ c7 eW c8 eX eY;refine bq (aC (aC (ae aQ))) (aC (aC (ae aR))) ?_;clear bG cj aQ aR ck;intro gk e0 e3;refine ao<|bg<|eh bm ai (dE e0 eZ Gs az aN) (dE e3 c9 Gp az aN) (eB (.ro _ rfl)) (qQ (.ro _ rfl)) ?_
  clear e0 e3 c9 eZ fA fB fC fD
  (rw [show iq l L c u=none by rw [Ge]at hinv;exact hinv];rfl)
theorem eY.trans{a b c:aP}(h:eY a b)(k:eY b c):eY a c:=
 ⟨k.nam.trans h.nam,k.bs.trans h.bs,k.ss.trans h.ss,k.len.trans h.len,λi hi=>by
  have h1:=h.js i hi;have h2:=k.js i (by rw [h.len];exact hi);exact⟨h2.acr.trans h1.acr,h2.up.trans h1.up,Int.le_trans h1.lo h2.lo,h2.le,Int.le_trans h2.hi h1.hi⟩⟩
theorem yB{α:Type}[Inhabited α]{xs:List α}{i:Nat}{x:α}(h:i<xs.length):(xs.set i x).getD i default=x:=by
 rw [Xc,Xt h];rfl
theorem yx{α:Type}[Inhabited α]{xs:List α}{i j:Nat}{x:α}(h:i≠j):(xs.set i x).getD j default=xs.getD j default:=by
 rw [Xc,Xm h, <- Xc]
theorem cM.bd{l:aP}(h:cM l){i:Nat}(hi:i<l.js.length): -20000<=(l.js.getD i default).acr /\(l.js.getD i default).acr <=20000/\ -100<=(l.js.getD i default).lo /\(l.js.getD i default).hi <=100/\(l.js.getD i default).lo <=(l.js.getD i default).hi :=by
 have:=h.kV i hi;omega
theorem Uz{l:aP}(h:cM l){n:Nat}{a b:Int}(hn:n<l.js.length)(hx:iV l n a b=0):eY l (ng l n a b)/\a<=((ng l n a b).js.getD n default).acr +((ng l n a b).js.getD n default).lo /\((ng l n a b).js.getD n default).acr +((ng l n a b).js.getD n default).hi <=b:=by
 have hb:=h.bd hn;have hab:a<=b/\max ((l.js.getD n default).acr +(l.js.getD n default).lo) a<=min ((l.js.getD n default).acr +(l.js.getD n default).hi) b:=by
  unfold iV at hx
  split at hx
  ·split at hx
   ·exact⟨by assumption,by assumption⟩
   ·cases hx
  ·cases hx
 have e:(ng l n a b).js.getD n default=qW (l.js.getD n default) a b:=yB hn;refine⟨⟨rfl,rfl,rfl,XU ..,λi hi=>?_⟩,?_,?_⟩
 ·by_cases hi2:n=i
  ·subst hi2;rw [e];exact⟨rfl,rfl,by simp only [qW];omega,by simp only [qW];omega,by simp only [qW];omega⟩
  ·rw [show(ng l n a b).js.getD i default=l.js.getD i default from yx hi2];exact⟨rfl,rfl,YA _,(h.bd hi).2.2.2.2,YA _⟩
 ·rw [e];simp only [qW];omega
 ·rw [e];simp only [qW];omega
theorem Ik{l:aP}(h:cM l){y:Int}(hy:0<=y):eY (lx l y) l:=by
 have hl:(lx l y).js.length =l.js.length:=tn _ _ _;refine⟨rfl,rfl,rfl,hl.symm,λi hi=>?_⟩;rw [hl]at hi;have hb:=h.bd hi;have hk:∀ n:Nat,i<n->n<=l.js.length->(lT l.js y n).getD i default=pB (l.js.getD i default) y:=by
  intro n
  induction n with
  | zero=>intro h1;omega
  | succ n ih=>
   intro h1 h2;simp only [lT]
   by_cases hi2:n=i
   ·subst hi2;exact yB (by rw [tn];omega)
   ·rw [yx hi2];exact ih ah ah
 have e:(lx l y).js.getD i default=pB (l.js.getD i default) y:=hk _ hi (Xf _);rw [e];exact⟨rfl,rfl,by simp only [pB];omega,hb.2.2.2.2,by simp only [pB];omega⟩
theorem UA{l:aP}(h:cM l){y:Int}(hy:0<=y):cM (lx l y):=by
 have n:=Ik h hy;refine⟨h.nam,h.n0,h.n1,?_,λi hi=>?_,h.ba,h.s1,λi hi=>?_⟩
 ·exact n.len.symm.trans h.js
 ·rw [<- n.len]at hi;have hb:=h.kV i hi;have hk:∀ n:Nat,i<n->n<=l.js.length->(lT l.js y n).getD i default=pB (l.js.getD i default) y:=by
   intro n
   induction n with
   | zero=>intro h1;omega
   | succ n ih=>
    intro h1 h2;simp only [lT]
    by_cases hi2:n=i
    ·subst hi2;exact yB (by rw [tn];omega)
    ·rw [yx hi2];exact ih ah ah
  rw [show(lx l y).js.getD i default=pB (l.js.getD i default) y from hk _ hi (Xf _)];exact Ih (by simp only [pB];omega)
 ·rw [<- h.sa i hi];exact Ee rfl rfl i
theorem UB{l:aP}{L p:Int}{n:Nat}(hn:n∈eX l L p):n<l.js.length/\p<b9 l.bs n/\b9 l.bs n<p+L:=by
 have hm:=List.mem_filter.1 hn;refine⟨XX.1 hm.1,?_⟩;have:=hm.2;unfold kj at this
 simpa using this
theorem Q4{l:aP}{L c p:Int}:im l L c p (eX l L p).length =none↔ ∀ n∈eX l L p,mH l L c p n=false:=by
 unfold im;rw [X8,List.find?_eq_none];exact⟨λh n hn=>by have:=h n hn;simpa using this,λh n hn=>by simp [h n hn]⟩
theorem UC{l m:aP}(n:eY l m)(h:cM l){L c p:Int}(hL:1000<=L/\L<=30000)(hp:0<=p/\p+L<=b9 l.bs l.bs.length)(hf:im l L c p (eX l L p).length =none):im m L c p (eX m L p).length =none:=by
 rw [Q4]at hf ⊢;intro i hi;rw [n.W5]at hi;obtain⟨k1,k2,k3⟩:=UB hi;have d:=n.dev h (Ig hL hp k1 k2 k3);have:=hf i hi;unfold mH at this ⊢;rw [decide_eq_false_iff_not,Classical.not_not,JR]at this;rw [decide_eq_false_iff_not,Classical.not_not,JR];omega
theorem Q5{l m:aP}(n:eY l m)(L u:Int):kQ m L u=kQ l L u:=by unfold kQ;rw [n.bs]
theorem Il{l m:aP}(n:eY l m)(h:cM l){L c u:Int}(hL:1000<=L/\L<=30000)(hu:1<=u):∀ k:Nat,k<=kQ l L u->jF l L c u k=none->jF m L c u k=none
 | 0,_,_=>rfl
 | k+1,hk,hf=>by
  unfold jF at hf ⊢;cases hr:jF l L c u k with
  | some r=>rw [hr]at hf;cases hf
  | none=>
   rw [hr]at hf;rw [Il n h hL hu k ah hr];have h1:im l L c ((k:Int)*u) (eX l L ((k:Int)*u)).length =none:=by simpa using hf
   have h2:=UC n h (c:=c) hL ⟨YT ah ah,(uw hu k).1 ah⟩ h1
   simpa using h2
theorem UD{l m:aP}(n:eY l m)(h:cM l){L c u:Int}(hv:gB L c u=0)(hf:iq l L c u=none):iq m L c u=none:=by
 have hv2:=uv.1 hv;unfold iq;rw [Q5 n];exact Il n h hv2.1 ah _ (Xf _) hf
theorem JS{z:Option (Int×Nat)}:mI z=12↔z=none:=by cases z<;>simp [mI]
theorem Bw(z:Option (Int×Nat)):mI z=0\/mI z=12:=by cases z<;>simp [mI]
theorem AA(l:aP)(L:Int)(z:Option (Int×Nat)):∃ a b d e:Int,Kt l L z= .agg [mA a,mA b,mA d,mA e]:=by
 cases z with
 | none=>exact⟨_,_,_,_,rfl⟩
 | some r=>exact⟨_,_,_,_,rfl⟩
theorem Im{l m:aP}(n:eY l m)(h:cM l){L c u:Int}(hv:gB L c u=0)(hf:mI (iq l L c u)=12):mI (iq m L c u)=12:=JS.2 (UD n h hv (JS.1 hf))
def km(l:aP)(n a b:Int):aP×Int:=if iT n 0 (l.js.length - 1)=0 then(if iV l n.toNat a b=0 then(ng l n.toNat a b,0)else(uL,iV l n.toNat a b))else(uL,iT n 0 (l.js.length - 1))
theorem Ll(l:aP)(hl:eo l)(hg:(cx l).2=0)(n a b:Int):bN Tryz.prog 19 [dL l,mA n,.agg [mA a,mA b]] (λq=>q= .tuple [dL (km l n a b).1,mA (km l n a b).2]):=by
 by_cases hm:iT n 0 (l.js.length - 1)=0
 ·by_cases hx:iV l n.toNat a b=0
  ·refine(Di l hl hg n a b hm).mono λq h=>h.trans ?_
   unfold km;rw [if_pos hm,if_pos hx,Je hx]
  ·refine(Di l hl hg n a b hm).mono λq h=>h.trans ?_
   unfold km;rw [if_pos hm,if_neg hx,Bv hx]
 ·refine(KY l hl hg n a b hm).mono λq h=>h.trans ?_
  unfold km;rw [if_neg hm]
theorem Oo{l:aP}(h:cM l){n a b:Int}(hz:(km l n a b).2=0):eY l (km l n a b).1/\(0<=n/\n<=l.js.length - 1)/\a<=((km l n a b).1.js.getD n.toNat default).acr +((km l n a b).1.js.getD n.toNat default).lo /\((km l n a b).1.js.getD n.toNat default).acr +((km l n a b).1.js.getD n.toNat default).hi <=b:=by
 unfold km at hz ⊢
 by_cases hm:iT n 0 (l.js.length - 1)=0
 ·rw [if_pos hm]at hz ⊢
  by_cases hx:iV l n.toNat a b=0
  ·rw [if_pos hx];have hn:=Bo.1 hm;have hjs:=h.js;have:=Uz h (n:=n.toNat) ah hx;exact⟨this.1,hn,this.2⟩
  ·rw [if_neg hx]at hz;exact absurd hz hx
 ·rw [if_neg hm]at hz;exact absurd hz hm
end Go.Proofs.YtbmlgmblfboigaaGreatDoor
namespace Go.Proofs.YtbmlgmblfboigaaGreatDoor
open Go Go.RowKit Go.Proofs Go.Lib
def bs(l:List UInt8):ByteArray:=⟨l.toArray⟩
theorem Jf(a b:List UInt8):bs a++bs b=bs (a++b):=by
 apply ByteArray.ext;rw [ByteArray.data_append];simp [bs]
theorem ql(l:List UInt8):(bs l).size =l.length:=rfl
theorem lI(l:List UInt8):(bs l).data.toList =l:=rfl
theorem Oq(l:List UInt8):(bs l).toList =l:=by
 have:=extract_toList (bs l) 0 (bs l).size;rw [ByteArray.extract_zero_size]at this;rw [this,lI,ql];simp
theorem tV(s:ByteArray):bs s.data.toList=s:=rfl
theorem xA(l:List UInt8)(a b:Nat):(bs l).extract a b=bs ((l.drop a).take (b - a)):=by
 have h:=extract_data (bs l) a b;rw [lI]at h;rw [<- tV ((bs l).extract a b),h]
theorem Jg(l:List UInt8)(c:UInt8): -1<=indexByte l c/\indexByte l c<l.length:=by
 induction l with
 | nil=>simp [indexByte]
 | cons a l ih=>
  simp only [indexByte,Xo]
  split
  ·omega
  ·split
   ·omega
   ·omega
end Go.Proofs.YtbmlgmblfboigaaGreatDoor
namespace Go.Proofs.YtbmlgmblfboigaaGreatDoor
open Go Go.RowKit Go.Proofs Go.Shelf Go.Lib
theorem oy:cj Tryz.prog 109 1 1 false 1:=by unfold cj;kernel_rfl
theorem za:∀ args w,(callFunc 99 args).run Tryz.prog w= .ok (.enter 99 args) w:=λ_ _=>by kernel_rfl
theorem sZ:bO Tryz.prog 107 5 1 1 (.int .u8 0):=⟨ai,ai,ai⟩
theorem zb:(Tryz.prog.info? 107).map (·.size)=some 1:=by kernel_rfl
theorem s6:aQ Tryz.prog 107 false 1:=⟨ai,ai⟩
theorem Ot:Tryz.prog.underlying 152=some (.pointer 5):=by kernel_rfl
def DC:Ren:=⟨λn=>if n=240 then 99 else 119,λn=>if n=4 then 4 else if n=5 then 5 else if n=9 then 9 else if n=20 then 20 else if n=37 then 107 else if n=70 then 106 else if n=72 then 109 else if n=164 then 178 else 0,λn=>n⟩
theorem Jh:Lays.n240 Tryz.prog DC:= {mixed:=by kernel_rfl,f240:=by kernel_rfl,f276:=by kernel_rfl,t0:=by kernel_rfl,a0:=λ_=>by kernel_rfl,z0:=λ_=>by kernel_rfl,v0:=λ_=>by kernel_rfl,t4:=by kernel_rfl,a4:=λ_=>by kernel_rfl,z4:=λ_=>by kernel_rfl,v4:=λ_=>by kernel_rfl,t9:=by kernel_rfl,a9:=λ_=>by kernel_rfl,z9:=λ_=>by kernel_rfl,v9:=λ_=>by kernel_rfl,t20:=by kernel_rfl,a20:=λ_=>by kernel_rfl,z20:=λ_=>by kernel_rfl,v20:=λ_=>by kernel_rfl,t70:=by kernel_rfl,a70:=λ_=>by kernel_rfl,z70:=λ_=>by kernel_rfl,v70:=λ_=>by kernel_rfl,t72:=by kernel_rfl,a72:=λ_=>by kernel_rfl,z72:=λ_=>by kernel_rfl,v72:=λ_=>by kernel_rfl,t164:=by kernel_rfl,a164:=λ_=>by kernel_rfl,z164:=λ_=>by kernel_rfl,v164:=λ_=>by kernel_rfl}
theorem JU:Builder.X72 Tryz.prog DC:=⟨ai,ai⟩
theorem Io{θ:List Value}{pr:Nat->Prop}{w:World}{o:Nat}{vs:List Value}{j:Nat}(h1:vs.length= [AV.ptr j o].length)(h2:∀ (i:Nat) (b:AV) (x:Value),[AV.ptr j o][i]? =some b->vs[i]? =some x->R1 θ pr w b x):∃ b y,vs= [.pointer (some ⟨b,o,none⟩)]/\θ[j]? =some y/\cA y=some b:=by
 match vs,h1 with
 | [v],_=>
  obtain⟨b,y,h3,h4,rfl⟩:=(h2 0 _ v rfl rfl).gk;exact⟨b,y,rfl,h3,h4⟩
theorem CN(a:AV)(l:List Ob):kP Tryz.prog [] 99 [.ptr 1 0] (.box 109 [.ptr 1 0,a]::l) (.tuple []) (.box 109 [.ptr 1 0,a]::l):=by
 intro pb w θ vs hs h1 h2;obtain⟨b,y,rfl,h3,h4⟩:=Io h1 h2;obtain⟨b',xs,q1,rfl,q3,q4,q5⟩:=hs.ob 1 (.box _ _) y rfl h3;cases h4
 match xs,q4 with
 | [x0,x1],_=>
  obtain⟨b2,y2,r1,r2,rfl⟩:=(q5 0 _ x0 rfl rfl).gk;rw [h3]at r1;cases r1;cases r2;refine(Any.Builder_copyCheck_used Jh JU b' w (by simp [World.cell?,q3])).mono ?_;rintro en w' ⟨rfl,rfl⟩;exact⟨.tuple [],.tuple #[],θ,_,.tuple [] [] rfl (λi a u ha=>by simp at ha),Step.refl hs,aN,.inl ⟨rfl,rfl,rfl⟩⟩
theorem KG(a:AV):kP Tryz.prog [] 99 [.ptr 1 0] [.box 109 [.v (.pointer none),a]] (.tuple []) [.box 109 [.ptr 1 0,a]]:=by
 intro pb w θ vs hs h1 h2;obtain⟨b,y,rfl,h3,h4⟩:=Io h1 h2;obtain⟨b',xs,q1,rfl,q3,q4,q5⟩:=hs.ob 1 (.box _ _) y rfl h3;cases h4
 match xs,q4 with
 | [x0,x1],_=>
  have e0:=(q5 0 _ x0 rfl rfl).val;subst e0;refine(Any.Builder_copyCheck_fresh Jh JU b' w (by simp [World.cell?,q3]) (by simp only [World.shape?,q3];rfl) (Go.Lib.frozen_of_heap q3 0)).mono ?_;rintro en w' ⟨rfl,rfl⟩;have hb:w.setCell ⟨b',0,none⟩ (.pointer (some ⟨b',0,none⟩))=w.setCell ⟨b',0,none⟩ (.pointer (some ⟨b',0,none⟩)):=rfl;refine⟨.tuple [],.tuple #[],θ,_,.tuple [] [] rfl (λi a u ha=>by simp at ha),Step.write hs (j:=1) (o':=.box _ [.ptr 1 0,a]) rfl aN h3 ?_ ?_ ?_,aN,.inl ⟨rfl,rfl,rfl⟩⟩
  ·exact⟨rfl,rfl,rfl,by simp [World.setCell],λk hk=>by omega⟩
  ·intro b hb hne;exact heap_setCell_other w _ b _ (λe=>hne mj)
  ·intro pr keep;refine⟨b',[.pointer (some ⟨b',0,none⟩),x1],q1,rfl,heap_setCell_same w b' 0 _ _ _ q3,rfl,λi a2 x ha hx=>?_⟩;rcases i with _|_|i
   ·simp at ha hx;subst ha hx;exact .ptr 1 0 b' _ h3 rfl
   ·simp at ha hx;subst ha hx;exact keep _ _ (q5 1 _ x1 rfl rfl)
   ·simp at ha
theorem Ky(s:ByteArray)(hs:s.size<=1000000):kP Tryz.prog [] 76 [.ptr 1 0,.v (.string s)] [.box 109 [.v (.pointer none),.v (.slice none 0 0)]] (.tuple [.v (.int .i64 s.size),.v .nilIface]) [.box 109 [.ptr 1 0,.own 2],.row 5 1 (s.data.toList.map bE)]:=by
 refine qj (fn:=Tryz.f76) [] 19 ai rfl ai aU ?_;intro aQ a8 hA am;have aR:ak aQ (.tmp 0)=_:=hA 0 _ rfl;have aS:ak aQ (.tmp 1)=_:=hA 1 _ rfl;have av:a8.length=2:=by rw [am];rfl
 have aT:=qN am;have az:=sy am;clear hA am;refine au<|at_<|ar (aB ay) rfl<|ar (aB ay) rfl<|bq (ag aR) (ag aS) ?_;clear aR aS;intro bj aF a2
 refine ao<|au<|at_<|ar (al aF) rfl<|aL (jy (jw (KG (.v (.slice none 0 0))) [1] av (aE aa aM) mm aD (.ob az .nil) rfl za) (kf rfl)) trivial rfl (λa9 an=>?_)
 have ab:a9[1]? =some _:=iz an aU aD (eK az iG) 0 rfl rfl
 (try simp only [Ob.rn,rn,rn.rnL,rho,Xo,Xs,XA,Xw,XB,Nat.reduceAdd,Nat.reduceSub,Xr,Xx]at ab)
 (try simp only [pS,Value.cells,Nat.reduceAdd]at ab)
 have a3:=dW an aU aT aD;have aG:_=2:=jk an av 0 rfl;clear an aT az av;refine bq (ag aF) (ag a2) ?_;clear aF a2;intro bk aJ aN;refine ao<|au<|at_<|ar (al aJ) rfl<|ar (al (ae aJ)) rfl<|ar (bH aa) rfl<|ar (aI oy rfl aa) rfl<|ar (ax (aH s6 rfl ab aa gQ) uh) rfl ?_
 refine ar (al (ae (aj aN))) rfl<|aL (PY sZ fj aG (ae aa) aa ah) trivial rfl (λbo ad=>?_)
 have ap:=bu ad aG
 (try simp only [pS,Value.cells,Nat.reduceAdd]at ap)
 have aO:=aK ad ab;have a5:=aK ad a3;have aP:=br ad aG;have aP:_=3:=aP;clear ad ab a3;refine ar (bH (ag (aj aa))) rfl<|ar (aI oy rfl aa) rfl<|aL (l6 aa (ag aa) aO ap zb gQ) trivial rfl (λbp af=>?_)
 have a6:=aZ af aO
 (try simp only [pS,Value.cells,Nat.reduceAdd]at a6)
 have ba:=aw af ap aD;have bb:=aw af a5 aD;have be:=aX af aP;clear af ap aO a5;refine aY (aC (ae (aA aN))) ?_;clear aJ aN;intro bv a7;refine ao<|au<|at_<|ar (al a7) rfl<|ar (jg aa rfl fj) rfl<|ar (aB aa) rfl<|ar (aB ay) rfl<|bq (ae aa) aa ?_;clear a7;intro bw bf bh
 refine ao<|bg<|qz bm [1,2] be bb aD rfl (JG ai (bc bf) (bc bh)) (lO a6 ?_ (lO ba ?_ .nil)) ?_
 all_goals (rfl)
theorem KF(s:ByteArray)(els:List (List AV))(hs:s.size<=1000000)(he:els.length<=1000000000):kP Tryz.prog [] 76 [.ptr 1 0,.v (.string s)] [.box 109 [.ptr 1 0,.own 2],.row 5 1 els] (.tuple [.v (.int .i64 s.size),.v .nilIface]) [.box 109 [.ptr 1 0,.own 3],.gone,.row 5 1 (els++s.data.toList.map bE)]:=by
 refine qj (fn:=Tryz.f76) [] 19 ai rfl ai aU ?_;intro aR ba hA ab;have aS:ak aR (.tmp 0)=_:=hA 0 _ rfl;have aT:ak aR (.tmp 1)=_:=hA 1 _ rfl;have aG:ba.length=3:=by rw [ab];rfl
 have a2:=qN ab;have ap:=sy ab;have av:=xR ab;clear hA ab;refine au<|at_<|ar (aB ay) rfl<|ar (aB ay) rfl<|bq (ag aS) (ag aT) ?_;clear aS aT;intro bk aJ a3
 refine ao<|au<|at_<|ar (al aJ) rfl<|aL (jy (jw (CN (.own 2) [.row 5 1 els]) [1,2] aG (aE aa aM) mm aD (.ob ap (.ob av .nil)) rfl za) (kf rfl)) trivial rfl (λa5 ad=>?_)
 have af:a5[1]? =some _:=iz ad aU aD (eK ap (eK av iG)) 0 rfl rfl
 (try simp only [Ob.rn,rn,rn.rnL,rho,Xo,Xs,XA,Xw,XB,Nat.reduceAdd,Nat.reduceSub,Xr,Xx]at af)
 (try simp only [pS,Value.cells,Nat.reduceAdd]at af)
 have az:a5[2]? =some _:=iz ad aU aD (eK ap (eK av iG)) 1 rfl rfl
 (try simp only [Ob.rn,rn,rn.rnL,rho,Xo,Xs,XA,Xw,XB,Nat.reduceAdd,Nat.reduceSub,Xr,Xx]at az)
 (try simp only [pS,Value.cells,Nat.reduceAdd]at az)
 have a6:=dW ad aU a2 aD;have aK:_=3:=jk ad aG 0 rfl;clear ad a2 ap av aG;refine bq (ag aJ) (ag a3) ?_;clear aJ a3;intro bo aN aO;refine ao<|au<|at_<|ar (al aN) rfl<|ar (al (ae aN)) rfl<|ar (bH aa) rfl<|ar (aI oy rfl aa) rfl<|ar (ax (aH s6 rfl af aa gQ) uh) rfl ?_
 refine ar (al (ae (aj aO))) rfl<|aL (TC sZ fj aK az (ae aa) aa ah) trivial rfl (λbp am=>?_)
 have aF:=qy am aK
 (try simp only [pS,Value.cells,Nat.reduceAdd]at aF)
 have aP:=fG am af aD;have a7:=fG am a6 aD;have aQ:=qb am aK;have aQ:_=4:=aQ;clear am af az a6;refine ar (bH (ag (aj aa))) rfl<|ar (aI oy rfl aa) rfl<|aL (l6 aa (ag aa) aP aF zb gQ) trivial rfl (λbr an=>?_)
 have a8:=aZ an aP
 (try simp only [pS,Value.cells,Nat.reduceAdd]at a8)
 have bb:=aw an aF aD;have be:=aw an a7 aD;have bf:=aX an aQ;clear an aF aP a7;refine aY (aC (ae (aA aO))) ?_;clear aN aO;intro bu a9;refine ao<|au<|at_<|ar (al a9) rfl<|ar (jg aa rfl fj) rfl<|ar (aB aa) rfl<|ar (aB ay) rfl<|bq (ae aa) aa ?_;clear a9;intro bv bh bj
 refine ao<|bg<|qz bm [1,2,3] bf be aD rfl (JG ai (bc bh) (bc bj)) (lO a8 ?_ (.gone (lO bb ?_ .nil))) ?_
 all_goals (rfl)
theorem KL(c:UInt8)(els:List (List AV))(he:els.length<=1000000000):kP Tryz.prog [] 77 [.ptr 1 0,.v (.int .u8 c.toNat)] [.box 109 [.ptr 1 0,.own 2],.row 5 1 els] (.v .nilIface) [.box 109 [.ptr 1 0,.own 3],.gone,.row 5 1 (els++ [bE c])]:=by
 refine qj (fn:=Tryz.f77) [] 17 ai rfl ai aU ?_;intro aN a6 hA ab;have aO:ak aN (.tmp 0)=_:=hA 0 _ rfl;have aP:ak aN (.tmp 1)=_:=hA 1 _ rfl;have aA:a6.length=3:=by rw [ab];rfl
 have aQ:=qN ab;have an:=sy ab;have ap:=xR ab;clear hA ab;refine au<|at_<|ar (aB ay) rfl<|bq (ae aO) (ae aP) ?_;clear aO aP;intro bb aC aR
 refine ao<|au<|at_<|ar (al aC) rfl<|aL (jy (jw (CN (.own 2) [.row 5 1 els]) [1,2] aA (aE aa aM) mm aD (.ob an (.ob ap .nil)) rfl za) (kf rfl)) trivial rfl (λaS ad=>?_)
 have af:aS[1]? =some _:=iz ad aU aD (eK an (eK ap iG)) 0 rfl rfl
 (try simp only [Ob.rn,rn,rn.rnL,rho,Xo,Xs,XA,Xw,XB,Nat.reduceAdd,Nat.reduceSub,Xr,Xx]at af)
 (try simp only [pS,Value.cells,Nat.reduceAdd]at af)
 have av:aS[2]? =some _:=iz ad aU aD (eK an (eK ap iG)) 1 rfl rfl
 (try simp only [Ob.rn,rn,rn.rnL,rho,Xo,Xs,XA,Xw,XB,Nat.reduceAdd,Nat.reduceSub,Xr,Xx]at av)
 (try simp only [pS,Value.cells,Nat.reduceAdd]at av)
 have aT:=dW ad aU aQ aD;have aF:_=3:=jk ad aA 0 rfl;clear ad aQ an ap aA;refine bq (ag aC) (ag aR) ?_;clear aC aR;intro be aG a2;refine ao<|au<|at_<|ar (al aG) rfl<|ar (al (ae aG)) rfl<|ar (bH aa) rfl<|ar (aI oy rfl aa) rfl<|ar (ax (aH s6 rfl af aa gQ) uh) rfl ?_
 refine ar (al (ae (aj a2))) rfl<|ar (ez sZ (bB aa b8) rfl rfl rfl rfl) rfl<|aL (oY sZ rfl aF av (ag aa) aa eL (by(simp only [cS]<;>omega))) trivial rfl (λbf ah=>?_)
 have az:=qy ah aF
 (try simp only [pS,Value.cells,Nat.reduceAdd]at az)
 have aJ:=fG ah af aD;have a3:=fG ah aT aD;have aK:=qb ah aF;have aK:_=4:=aK;clear ah af av aT;refine ar (bH (ae (ag (aj aa)))) rfl<|ar (aI oy rfl aa) rfl<|aL (l6 aa (ag aa) aJ az zb gQ) trivial rfl (λbh am=>?_)
 have a5:=aZ am aJ
 (try simp only [pS,Value.cells,Nat.reduceAdd]at a5)
 have a7:=aw am az aD;have a8:=aw am a3 aD;have a9:=aX am aK;clear am az aJ a3;refine nh ?_;clear aG a2;intro bj;refine ao<|au<|at_<|ar (aB ay) rfl<|aY aa ?_;intro bk ba
 refine ao<|bg<|qz bm [1,2,3] a9 a8 aD rfl (kM ai (bc ba)) (lO a5 ?_ (.gone (lO a7 ?_ .nil))) ?_
 all_goals (rfl)
theorem Ou(l:List UInt8)(h0:0<l.length)(hl:l.length<=1000000000):kP Tryz.prog [] 41 [.ptr 1 0] [.box 109 [.ptr 1 0,.own 2],.row 5 1 (l.map bE)] (.v (.string (bs l))) [.box 109 [.ptr 1 0,.own 2],.gone]:=by
 refine qj (fn:=Tryz.f41) [] 14 ai rfl ai aU ?_;intro av az hA ab;have an:ak av (.tmp 0)=_:=hA 0 _ rfl;have aA:az.length=3:=by rw [ab];rfl
 have ap:=qN ab;have ag:=sy ab;have ad:=xR ab;clear hA ab;refine au<|at_<|ar (aB ay) rfl<|aY (ae an) ?_;clear an;intro aK am
 refine ao<|au<|dZ 10 ai ai ai ai ?_
 refine dr (al am) rfl<|dr (bH aa) rfl<|dr (aI oy rfl aa) rfl<|dr (ax (aH s6 rfl ag aa gQ) uh) rfl ?_
 refine dr (Vn aa ad (by simpa using h0)) rfl ?_;refine dr (al (ae (aj am))) rfl<|dr (bH aa) rfl<|dr (aI oy rfl aa) rfl<|dr (ax (aH s6 rfl ag aa gQ) uh) rfl ?_
 refine dr (ax (rh aa ad rfl sZ.1) (by(simp only [cS]<;>rfl))) rfl ?_;refine dC<|aL (TD Ot ai (ae (aj aa)) aa ad (by(simp only [cS]<;>rfl)) (by simpa using h0) ah) trivial rfl (λaM af=>?_)
 have aC:=aZ af ad;have aE:=aw af ap aD;have aF:=aw af ag aD;have aG:=aX af aA;clear af ap ag ad;clear aC;refine ar (aB aa) rfl<|aY aa ?_;clear am;intro aN aJ
 refine ao<|bg<|qz bm [1,2] aG aE aD rfl (kM ai (bc aJ)) (lO aF ?_ (.gone .nil)) ?_
 all_goals (rfl)
end Go.Proofs.YtbmlgmblfboigaaGreatDoor
namespace Go.Proofs.YtbmlgmblfboigaaGreatDoor
open Go Go.RowKit Go.Proofs Go.Lib
theorem getD_some{l:List UInt8}{k:Nat}(h:k<l.length):l[k]? =some (l.getD k default):=by
 rw [Xd h,Xc,Xd h];rfl
theorem JV{b:UInt8}{n:Nat}(h:b.toNat=n)(hn:n<256):b=UInt8.ofNat n:=by
 apply UInt8.toNat_inj.1;rw [UInt8.toNat_ofNat'];omega
theorem Q6(l:List UInt8):de l=1↔0<l.length/\(l.getD 0 default).toNat =45:=by
 unfold de
 constructor
 ·intro h
  split at h
  ·rename_i hq
   have hl:=(Xe.1 hq).1;rw [getD_some hl]at hq;exact⟨hl,by rw [Option.some.inj hq];rfl⟩
  ·cases h
 ·rintro⟨h1,h2⟩;rw [if_pos];rw [getD_some h1,JV h2 aD];rfl
theorem Q7(l:List UInt8):de l=0\/de l=1:=by unfold de;split<;>omega
theorem UE{l:List UInt8}{D:Nat}(h:iO l D=true):de l<l.length/\l.length - de l<=D/\((l.getD (de l) default).toNat =48->l.length<=1)/\ ∀ k:Nat,de l<=k->k<l.length->48<=(l.getD k default).toNat /\(l.getD k default).toNat <=57:=by
 obtain⟨h1,h2,h3,h4,_⟩:=I7 h;have hlt:de l<l.length:=by
  have:=XJ.2 h1;rw [X4]at this;omega
 refine⟨hlt,h2,λh5=>?_,λk h5 h6=>h4 k _ h5 (getD_some h6)⟩
 by_cases h6:l.length<=1
 ·exact h6
 ·exact absurd ⟨by rw [getD_some hlt,JV h5 aD];rfl,ah⟩ h3
theorem zc{l:List UInt8}{D:Nat}{c:UInt8}(h:iO l D=true)(hc:c.toNat<45):∀ k:Nat,l[k]? ≠some c:=λk hk=>by
 obtain⟨n1,n2,n3,n4⟩:=UE h;have hl:=(Xe.1 hk).1;rw [getD_some hl]at hk;have hk':=Option.some.inj hk;have:=Q7 l
 by_cases hka:de l<=k
 ·have:=n4 k hka hl;rw [hk']at this;omega
 ·have h1:de l=1:=by omega
  have h2:=((Q6 l).1 h1).2;obtain rfl:k=0:=by omega
  rw [hk']at h2;omega
theorem Ji(l:List UInt8)(tx:ByteArray):((⟨l.toArray⟩:ByteArray).toList ==tx.toList)=decide (l=tx.data.toList):=by
 have h1:(⟨l.toArray⟩:ByteArray).toList =l:=Oq l;rw [h1,toList_data];rw [Yl];simp
theorem zd{l:List UInt8}{v:Int}(h:atoiAll l= .ok v)(D:Nat):iO l D=(decide (itoa v=l)&&decide ((trimPrefix l [45]).length <=D))/\iN l=v:=by
 unfold iO iN;rw [h];exact⟨rfl,rfl⟩
theorem Q8{l:List UInt8}(h:∀ v,atoiAll l≠ .ok v)(D:Nat):iO l D=false:=by
 unfold iO;rcases hq:atoiAll l with v|_|_
 ·exact absurd hq (h v)
 ·rfl
 ·rfl
section
variable (es er:Value) (hes:e8 es) (her:e8 er) (tx:ByteArray) (hl:tx.size<=1000000)
include hl
include hes her
end
end Go.Proofs.YtbmlgmblfboigaaGreatDoor
namespace Go.Proofs.YtbmlgmblfboigaaGreatDoor
open Go Go.RowKit Go.Proofs Go.Shelf Go.Lib
def MR:Go.Shelf.Ren:=⟨λ|102=>29|209=>64|207=>92|n=>n,λ|9=>9|4=>4|3=>3|n=>n,λ|n=>n⟩
theorem VM:Go.Proofs.Lays.n102 Tryz.prog MR:= {
 mixed:=by kernel_rfl
 f102:=Tryz.func29.trans (congrArg some ai)
 f207:=Tryz.func92.trans (congrArg some ai)
 f209:=Tryz.func64.trans (congrArg some ai)
 t3:=Tryz.underlying3
 a3:=Tryz.isAgg3
 z3:=Tryz.sizeOf3
 v3:=Tryz.zeroValue3
 t4:=Tryz.underlying4
 a4:=Tryz.isAgg4
 z4:=Tryz.sizeOf4
 v4:=Tryz.zeroValue4
 t9:=Tryz.underlying9
 a9:=Tryz.isAgg9
 z9:=Tryz.sizeOf9
 v9:=Tryz.zeroValue9}
def Cc(n:Nat):Bool:=n==32||n==9
def blk(b:UInt8):Bool:=b==32||b==9
def sK(b:UInt8):Bool:= !blk b
theorem UF(b:UInt8):Cc b.toNat=blk b:=by
 unfold Cc blk;have e1:(b==32)=(b.toNat==32):=by
  rw [Yl,beq_iff_eq,beq_iff_eq];exact⟨λh=>by rw [h];rfl,λh=>UInt8.toNat_inj.1 (by rw [h];rfl)⟩
 have e2:(b==9)=(b.toNat==9):=by
  rw [Yl,beq_iff_eq,beq_iff_eq];exact⟨λh=>by rw [h];rfl,λh=>UInt8.toNat_inj.1 (by rw [h];rfl)⟩
 rw [e1,e2]
theorem DD{q:UInt8->Bool}:∀ {l:List UInt8} {j:Nat},j<l.length->q (l.getD j 0)=false->(∀ k,k<j->q (l.getD k 0)=true)->l.takeWhile q=l.take j/\l.dropWhile q=l.drop j
 | [],j,h,_,_=>by simp at h
 | a::l,0,_,h1,_=>by
  have h1':q a=false:=by simpa using h1
  simp [List.takeWhile,List.dropWhile,h1']
 | a::l,j+1,h,h1,h2=>by
  have ha:q a=true:=by simpa using h2 0 ah
  obtain⟨e1,e2⟩:=DD (q:=q) (l:=l) (j:=j) lK mT (λk hk=>by simpa using h2 (k+1) ah);simp [List.takeWhile,List.dropWhile,ha,e1,e2]
theorem Ei{q:UInt8->Bool}:∀ {l:List UInt8},(∀ k,k<l.length->q (l.getD k 0)=true)->l.takeWhile q=l/\l.dropWhile q= []
 | [],_=>by simp
 | a::l,h=>by
  have ha:q a=true:=by simpa using h 0 aN
  obtain⟨e1,e2⟩:=Ei (q:=q) (l:=l) (λk hk=>by simpa using h (k+1) (by simpa using hk));simp [List.takeWhile,List.dropWhile,ha,e1,e2]
def q8(l:List UInt8):List UInt8:=l.dropWhile blk
def uV(l:List UInt8):List UInt8:=l.takeWhile sK
theorem UG(s:ByteArray)(j:Nat):s.extract j s.size=bs (s.data.toList.drop j):=by
 rw [<- tV s,xA,lI,ql,Yp rX]
theorem UH(s:ByteArray)(j:Nat):s.extract 0 j=bs (s.data.toList.take j):=by
 rw [<- tV s,xA,lI];simp
theorem KZ(s p:ByteArray)(hs:s.size<=1000000000):bN Tryz.prog 29 [.v (.string s),.v (.string p)] (λq=>q= .v (.string (bs (trimSuffix s.data.toList p.data.toList)))):=by
 intro pr w vs h1 h2;rw [Bj h1 h2];refine(Any.strings_TrimSuffix VM s p w ah).mono ?_;rintro en w' ⟨rfl,rfl⟩;exact⟨_,_,rfl,rfl,.v _,Ext.refl _⟩
end Go.Proofs.YtbmlgmblfboigaaGreatDoor
namespace Go.Proofs.YtbmlgmblfboigaaGreatDoor
open Go Go.RowKit Go.Proofs Go.Lib
theorem Q9:(Tryz.prog.info? 70).bind (·.zero)=some (.agg #[.int .i64 0,.int .i64 0,.int .i64 0]):=by kernel_rfl
theorem Rb:∀ w,((eP Tryz.prog 70).mapM λf=>Prod.mk f.offset<$>sizeOf f.type:Sem (Array (Nat×Nat))).run Tryz.prog w= .ok (#[(0,2),(2,1)]) w:=λ_=>by kernel_rfl
theorem yO:cj Tryz.prog 77 3 6 true 2:=by unfold cj;kernel_rfl
theorem Ov:∀ args w,(callFunc 93 args).run Tryz.prog w= .ok (.enter 93 args) w:=λ_ _=>by kernel_rfl
theorem vQ:bO Tryz.prog 73 75 2 24 (.agg #[.string ByteArray.empty,.int .i64 0]):=⟨ai,ai,ai⟩
theorem Ip:aQ Tryz.prog 3 false 1:=⟨ai,ai⟩
theorem vR:aQ Tryz.prog 73 false 1:=⟨ai,ai⟩
theorem vS:aQ Tryz.prog 75 true 2:=⟨ai,ai⟩
theorem UI:aQ Tryz.prog 9 false 1:=⟨ai,ai⟩
structure Wd where
 txt:ByteArray
 col:Int
 deriving Inhabited
def bn(w:Wd):List AV:= [.v (.string w.txt),.v (.int .i64 w.col)]
theorem rO(w:Wd)(ws:List Wd):((w::ws).map bn).drop (1:Int).toNat =ws.map bn:=rfl
theorem sA(w:Wd)(ws:List Wd):(w::ws).getD (0:Int).toNat default=w:=rfl
def aV(nam:ByteArray)(J B S M:AV)(cnt:Int)(ws:List Wd)(last:Wd)(kind:ByteArray):List AV:= [.v (.string nam),J,B,S,.v (.int .i64 cnt),.row 2 (ws.map bn),.v (.string last.txt),.v (.int .i64 last.col),.v (.string kind),M]
def aW:Nat:=77
def gu(cnt col e:Int):Value:=.iface 70 (.agg #[.int .i64 cnt,.int .i64 col,.int .i64 e])
theorem VN(w:Wd)(h: -1000000000<=w.col/\w.col<=1000000000)(hs:w.txt.size<=1000000000):bN Tryz.prog 93 [.agg (bn w)] (λq=>q=mA (w.col+w.txt.size)):=by
 refine cw (fn:=Tryz.f93) 9 ai rfl ai aU ?_;intro ap av hA al;have am:ak ap (.tmp 0)=_:=hA 0 _ rfl;have ab:av.length=0:=by rw [al];rfl
 clear hA al;refine au<|at_<|aL (cZ am rfl ab) trivial rfl (λaw ad=>?_)
 have af:=bu ad ab;have ah:=br ad ab;have ah:_=1:=ah;clear ad;refine ar (aB ay) rfl<|aY (ae aa) ?_;clear am;intro aA aj
 refine ao<|au<|at_<|ar (aI kB rfl aj) rfl<|ar (ax (aH Ip rfl af aa az) bk) rfl ?_
 refine ar (aI iv rfl (ag aj)) rfl<|ar (ax (aH UI rfl af aa az) bk) rfl ?_
 refine ar (jg aa rfl fj) rfl ?_
 (refine ar (cv (ae (ag aa)) aa ?_) rfl ?_; · (unfold In64;omega))
 refine ar (aB aa) rfl<|aY aa ?_;clear aj;intro aC an
 refine ao<|bg<|bL bm ai (bc an) (.ro _ rfl) ?_
 clear an af ah;rfl
section
variable {mem:List Ob} {n:Nat} (hn:mem.length=n) {b:Nat} {nam:ByteArray} {J B S M:AV} {cnt:Int} {w:Wd} {ws:List Wd} {last:Wd} {kind:ByteArray}
include hn
theorem iC(hb:mem[b]? =some (.box aW (aV nam J B S M cnt ws last kind)))(col e:Int):ee Tryz.prog 66 [.ptr b 0,mA col,mA e] mem (λ_ _=>False) (λv m'=>v=gu cnt col e/\bM mem m' (λj=>j=b)):=by
 refine gw (fn:=Tryz.f66) 15 ai rfl ai aU ?_;intro ad af hA ab;have am:ak ad (.tmp 0)=_:=hA 0 _ rfl;have an:ak ad (.tmp 1)=_:=hA 1 _ rfl;have ao:ak ad (.tmp 2)=_:=hA 2 _ rfl;have au:af.length=n:=by rw [ab];exact hn
 have ah:af[b]? =_:=(congrArg (λq=>q[b]?) ab).trans hb;simp only [pS,Value.cells,Nat.reduceAdd,aV,aW]at ah;have ap:bM mem af (λj=>j=b):=by rw [ab];exact bM.refl _ _
 clear hA ab;refine at_<|ar (al am) rfl<|ar (bH aa) rfl<|ar (aI ji rfl aa) rfl<|ar (ax (aH Ip rfl ah aa az) rY) rfl ?_
 refine ar (al (aj an)) rfl<|ar (dq (bB (ae aa) (bB aa b8)) BL BI BG rfl) rfl ?_
 refine ar (al (ag (aj ao))) rfl<|ar (dq (bB (ae aa) (bB aa b8)) Q9 BJ Rb rfl) rfl ?_
 refine ar (Md [_,_,_] BJ rfl aa) rfl<|P1 aa trivial ?_
 repeat (first|refine eA ?_|refine gJ ?_|refine Bc ?_)
 exact⟨_,rfl,rfl,ap⟩
theorem mg(hb:mem[b]? =some (.box aW (aV nam J B S M cnt (w::ws) last kind)))(hl:ws.length<=1000000):ee Tryz.prog 65 [.ptr b 0] mem (λr m'=>r= .agg (bn w)/\bM mem m' (λj=>j=b)/\m'[b]? =some (.box aW (aV nam J B S M cnt ws w kind))) (λ_ _=>False):=by
 have hbn:=cV hb hn;refine gw (fn:=Tryz.f65) 37 ai rfl ai aU ?_;intro bp aJ hA aB;have a5:ak bp (.tmp 0)=_:=hA 0 _ rfl;have aM:aJ.length=n:=by rw [aB];exact hn
 have aO:aJ[b]? =_:=(congrArg (λq=>q[b]?) aB).trans hb;simp only [pS,Value.cells,Nat.reduceAdd,aV,aW,bn,rO,sA]at aO;have a6:bM mem aJ (λj=>j=b):=by rw [aB];exact bM.refl _ _
 clear hA aB;refine au<|at_<|aL (cy ll rfl aM) trivial rfl (λbE ad=>?_)
 have aP:=bu ad aM;simp only [pS,Value.cells,Nat.reduceAdd,aV,aW,bn,rO,sA]at aP;have aQ:=aK ad aO;have a7:=RestR.aK ad a6;have aS:=br ad aM;clear ad aO a6;refine bq (ae a5) aa ?_;clear a5;intro bG aT a8;refine ao<|au<|au<|at_<|ar (al aT) rfl<|ar (bH aa) rfl<|ar (aI jL rfl aa) rfl<|ar (ax (aH vR rfl aQ aa az) rZ) rfl ?_
 refine ar (ax (ca aa rfl vQ.1) b7) rfl ?_;refine ar (e6 aa ay) rfl ?_;refine bJ (ag (aj aT)) (ag (aj a8)) aa ?_;clear aT a8;intro bI ab a9 ba;refine ao<|bj ba (λaE=>?_) (λaE=>?_)
 ·cases aE
 replace aE:=bf aE;refine bC<|ao<|au<|fZ 16 0 aS ai ai ai ai (λbL af=>?_)
 have bb:=bz af aP;have am:=bz af aQ;have bc:=RestR.bz af a7;have bv:_=n+1:=ga (K:=0) af aS;clear af aP aQ a7 aS;refine aR (λM_ hM_=>(al ab)) trivial ?_;refine aR (λM_ hM_=>(al (ae ab))) trivial ?_;refine aR (λM_ hM_=>(al (ag ab))) trivial ?_;refine aR (λM_ hM_=>(bH aa)) trivial ?_;refine aR (λM_ hM_=>(aI jL rfl aa)) trivial ?_;refine cG (b) (λM_ hM_=>(ax (aH vR rfl (cn hM_ am aN) aa az) rZ)) trivial trivial ?_;refine aR (λM_ hM_=>(ax (cP vQ aa ay aD (by refine eb ?_;(simp only [cS];omega))) rZ)) trivial ?_;refine aR (λM_ hM_=>(ax (bF vS rfl aa az) rZ)) trivial ?_;refine aR (λM_ hM_=>(al (aA ab))) trivial ?_;refine aR (λM_ hM_=>(bH aa)) trivial ?_;refine aR (λM_ hM_=>(aI jL rfl aa)) trivial ?_;refine cG (b) (λM_ hM_=>(ax (aH vR rfl (cn hM_ am aN) aa az) rZ)) trivial trivial ?_;refine aR (λM_ hM_=>(Vi vQ aa ay aD dP)) trivial ?_;refine aR (λM_ hM_=>(bH (aj (aA aa)))) trivial ?_;refine aR (λM_ hM_=>(aI yO rfl aa)) trivial ?_;refine oZ (b) (λM_ hM_=>(nw aa (ae (ag (aj aa))) rfl rfl (cn hM_ am aN) lp rfl az)) trivial trivial ⟨.inr (gV 15 5 ai),⟨.inr (gV 15 11 ai),trivial⟩⟩ (λbN an=>?_);have aF:=aZ an am;simp only [pS,Value.cells,Nat.reduceAdd,aV,aW,bn,rO,sA]at aF;have be:=aw an bb ah;have bh:=RestR.aw an bc (λhj_=>by rfl);have bw:=aX an bv;clear an bb am bc;refine gn rfl ?_;refine ar (bH (aC (ae (aj (aA aa))))) rfl<|ar (aI jL rfl aa) rfl<|aL (bP aa (ag (aC (ag aa))) rfl rfl aF Jv rfl az) trivial rfl (λbO ap=>?_)
 have aG:=aZ ap aF;simp only [pS,Value.cells,Nat.reduceAdd,aV,aW,bn,rO,sA]at aG;have a2:=aw ap be ah;have bk:=RestR.aw ap bh (λhj_=>by rfl);have bx:=aX ap bw;clear ap aF be bh;refine bq (aC (ag (aC (ae (ag (aj (aA ab))))))) (aC (ag (aC (ae (ag (aj (aA a9))))))) ?_;clear ab a9 ba;intro bQ bm a3;refine ao<|au<|at_<|ar (al bm) rfl<|ar (bH aa) rfl<|ar (aI yO rfl aa) rfl<|ar (ax (aH vS rfl aG aa az) rZ) rfl ?_
 refine aL (bP (aj a3) aa rfl rfl a2 lp rfl az) trivial rfl (λbR av=>?_);have bo:=aZ av a2;simp only [pS,Value.cells,Nat.reduceAdd,aV,aW,bn,rO,sA]at bo;have bA:=aw av aG ah;have bB:=RestR.aw av bk ej;have bS:=aX av bx;clear av aG a2 bk;refine aY (aC (aj a3)) ?_;clear bm a3;intro bT bD;refine ao<|bg<|⟨_,kM ai (dE bD bo vS az aN),?_⟩
 exact⟨rfl,bB,bA⟩
theorem Gu(hb:mem[b]? =some (.box aW (aV nam J B S M cnt [] last kind)))(hc: -1000000000<=last.col/\last.col<=1000000000)(hs:last.txt.size<=1000000000):ee Tryz.prog 65 [.ptr b 0] mem (λ_ _=>False) (λv m'=>v=gu cnt (last.col+last.txt.size) 6/\bM mem m' (λj=>j=b)):=by
 have hbn:=cV hb hn;refine gw (fn:=Tryz.f65) 37 ai rfl ai aU ?_;intro aF ah hA ad;have aw:ak aF (.tmp 0)=_:=hA 0 _ rfl;have am:ah.length=n:=by rw [ad];exact hn
 have an:ah[b]? =_:=(congrArg (λq=>q[b]?) ad).trans hb;simp only [pS,Value.cells,Nat.reduceAdd,aV,aW,bn]at an;have aA:bM mem ah (λj=>j=b):=by rw [ad];exact bM.refl _ _
 clear hA ad;refine au<|at_<|aL (cy ll rfl am) trivial rfl (λaP ab=>?_)
 have aG:=bu ab am;simp only [pS,Value.cells,Nat.reduceAdd,aV,aW,bn]at aG;have ap:=aK ab an;have aJ:=RestR.aK ab aA;have aN:=br ab am;clear ab an aA;refine bq (ae aw) aa ?_;clear aw;intro aQ av aB;refine ao<|au<|au<|at_<|ar (al av) rfl<|ar (bH aa) rfl<|ar (aI jL rfl aa) rfl<|ar (ax (aH vR rfl ap aa az) dz) rfl ?_
 refine ar (ax (ca aa rfl vQ.1) b7) rfl ?_;refine ar (e6 aa ay) rfl ?_;refine bJ (ag (aj av)) (ag (aj aB)) aa ?_;clear av aB;intro aR aC aS aO;refine ao<|bj aO (λaf=>?_) (λaf=>?_)
 ·replace af:=bt af;refine at_<|ar (al aC) rfl<|ar (al (ae aC)) rfl<|ar (bH aa) rfl<|ar (aI yO rfl aa) rfl<|ar (ax (aH vS rfl ap aa az) dz) rfl ?_
  refine ar (bh (aE aa aM) rfl (VN last hc hs) Ov) rfl<|dt (iC (J:=J) (B:=B) (S:=S) (M:=M) (nam:=nam) (cnt:=cnt) (ws:= []) (last:=last) (kind:=kind) aN ap _ _) (aE (ae (aj aa)) (aE aa (aE ay aM))) iD trivial rfl (λ_ _ h=>h.elim) (λaT aX aD=>?_)
  repeat (refine eA ?_)
  exact⟨_,rfl,aD.1,aJ.trans aD.2 jo⟩
 ·cases af
end
end Go.Proofs.YtbmlgmblfboigaaGreatDoor
namespace Go.Proofs.YtbmlgmblfboigaaGreatDoor
open Go Go.RowKit Go.Proofs Go.Shelf Go.Lib
theorem Gv:(Tryz.prog.info? 75).bind (·.zero)=some (.agg #[.string ByteArray.empty,.int .i64 0]):=by kernel_rfl
theorem Gw:Tryz.prog.underlying 75=some (.struct (eP Tryz.prog 75)):=by kernel_rfl
theorem Gx:∀ w,((eP Tryz.prog 75).mapM λf=>Prod.mk f.offset<$>sizeOf f.type:Sem (Array (Nat×Nat))).run Tryz.prog w= .ok (#[(0,1),(1,1)]) w:=λ_=>by kernel_rfl
theorem Ej:∀ args w,(callFunc 63 args).run Tryz.prog w= .ok (.enter 63 args) w:=λ_ _=>by kernel_rfl
theorem vT:bO Tryz.prog 73 75 2 24 (.agg #[.string ByteArray.empty,.int .i64 0]):=⟨ai,ai,ai⟩
theorem Iq(s:ByteArray)(c:Int): [[AV.v (.string s),AV.v (.int .i64 c)]]= [(⟨s,c⟩:Wd)].map bn:=rfl
def iW(l:List UInt8)(a:Nat):List UInt8:=q8 (l.drop a)
def fB(l:List UInt8)(a:Nat):List UInt8:=uV (iW l a)
def hG(l:List UInt8)(a:Nat):Nat:=l.length - (iW l a).length
theorem UJ(l:List UInt8):(q8 l).length <=l.length:=by
 unfold q8
 induction l with
 | nil=>simp
 | cons b l ih=>simp only [List.dropWhile];split<;>simp;omega
theorem UK(l:List UInt8):(uV l).length <=l.length:=by
 unfold uV
 induction l with
 | nil=>simp
 | cons b l ih=>simp only [List.takeWhile];split<;>simp;omega
theorem zJ(l:List UInt8)(a:Nat):(iW l a).length <=l.length - a:=by
 have:=UJ (l.drop a);rw [X4]at this;exact this
theorem Gy(l:List UInt8)(a:Nat):(fB l a).length <=(iW l a).length :=UK _
theorem AB(l:List UInt8)(a:Nat):hG l a+(fB l a).length <=l.length:=by
 have h1:=zJ l a;have h2:=Gy l a;unfold hG;omega
def ly(l:List UInt8):Nat->Nat->List Wd
 | 0,_=> []
 | f+1,a=>if iW l a= []then []else⟨bs (fB l a),hG l a+1⟩::ly l f (hG l a+(fB l a).length)
def eN(l:List UInt8)(a:Nat):List Wd:=ly l (l.length+1 - a) a
theorem By{l:List UInt8}{a:Nat}(h:iW l a≠ []):fB l a≠ []/\a<=hG l a/\hG l a<l.length:=by
 have h1:=zJ l a;have h2:=XJ.2 h;refine⟨?_,by unfold hG;omega,by unfold hG;omega⟩;unfold fB uV;unfold iW q8 at h ⊢;generalize hq:List.dropWhile blk (List.drop a l)=q at h ⊢;cases q with
 | nil=>exact absurd rfl h
 | cons x q=>
  have:blk x=false:=by
   have h3:=List.head?_dropWhile_not blk (List.drop a l);rw [hq]at h3
   simpa using h3
  simp [List.takeWhile,sK,this]
theorem AD{l:List UInt8}{a:Nat}:fB l a= []↔iW l a= []:=by
 constructor
 ·intro h
  by_cases h0:iW l a= []
  ·exact h0
  ·exact absurd h (By h0).1
 ·intro h;unfold fB;rw [h];rfl
theorem Ox(l:List UInt8):∀ (f g a:Nat),l.length+1<=f+a->l.length+1<=g+a->a<=l.length->ly l f a=ly l g a:=by
 intro f
 induction f with
 | zero=>intro g a h1 h2 h3;omega
 | succ f ih=>
  intro g a h1 h2 h3;cases g with
  | zero=>omega
  | succ g=>
   simp only [ly]
   split
   ·rfl
   ·rename_i h0
    obtain⟨a1,a2,a3⟩:=By h0;have a4:=AB l a;have a5:=XJ.2 a1
    congr 1
    exact ih g _ ah ah a4
theorem ze{l:List UInt8}{a:Nat}(ha:a<=l.length)(h:fB l a= []):eN l a= []:=by
 unfold eN;rw [show l.length+1 - a=(l.length - a)+1 by omega,ly,if_pos (AD.1 h)]
theorem vi{l:List UInt8}{a:Nat}(ha:a<=l.length)(h:fB l a≠ []):eN l a=⟨bs (fB l a),hG l a+1⟩::eN l (hG l a+(fB l a).length):=by
 have h0:iW l a≠ []:=λe=>h (AD.2 e)
 obtain⟨a1,a2,a3⟩:=By h0;have a4:=AB l a;have a5:=XJ.2 a1;unfold eN;rw [show l.length+1 - a=(l.length - a)+1 by omega,ly,if_neg h0]
 congr 1
 exact Ox l _ _ _ ah ah a4
theorem Ek(l:List UInt8):eN l l.length= []:=by
 refine ze (Xf _) (AD.2 ?_);unfold iW q8;rw [List.drop_length];rfl
theorem Ir{l:List UInt8}{i:Nat}(hi:i<l.length):l.drop i=l.getD i default::l.drop (i+1):=by
 rw [Ys hi,Xc,Xd hi];rfl
theorem Re{l:List UInt8}{i:Nat}(hi:i<l.length)(hb:blk (l.getD i default)=true):iW l (i+1)=iW l i:=by
 unfold iW q8;rw [Ir hi];simp only [List.dropWhile,hb]
theorem Gz{l:List UInt8}{i:Nat}(hi:i<l.length)(hb:blk (l.getD i default)=true):eN l (i+1)=eN l i:=by
 have h1:=Re hi hb;have h2:fB l (i+1)=fB l i:=by unfold fB;rw [h1]
 have h3:hG l (i+1)=hG l i:=by unfold hG;rw [h1]
 by_cases h:fB l i= []
 ·rw [ze ah h,ze ah (h2.trans h)]
 ·rw [vi ah h,vi ah (by rw [h2];exact h),h2,h3]
theorem Rf{l:List UInt8}{i:Nat}(hi:i<l.length)(hb:blk (l.getD i default)=false):iW l i=l.drop i/\hG l i=i:=by
 have h1:iW l i=l.drop i:=by
  unfold iW q8;rw [Ir hi];simp only [List.dropWhile,hb]
 refine⟨h1,?_⟩;unfold hG;rw [h1,X4];omega
theorem GA{l:List UInt8}{a i:Nat}(ha:a<l.length)(hai:a<i)(hi:i<=l.length)(hno:∀ k:Nat,a<=k->k<i->blk (l.getD k default)=false)(hend:i=l.length\/blk (l.getD i default)=true):fB l a=(l.drop a).take (i - a)/\hG l a=a/\(fB l a).length =i - a:=by
 obtain⟨h1,h2⟩:=Rf ha (hno a (Xf _) hai);have key:fB l a=(l.drop a).take (i - a):=by
  unfold fB uV;rw [h1];have hg:∀ k,(l.drop a).getD k 0=l.getD (a+k) default:=λk=>by simp [Xc,XH];rfl
  rcases XC i l.length with hlt|hge
  ·refine(DD rX ?_ λk hk=>?_).1
   ·rw [hg,show a+(i - a)=i by omega];rcases hend with h|h
    ·omega
    ·simp only [sK,h];rfl
   ·rw [hg];simp only [sK,hno (a+k) ah ah];rfl
  ·have:=(Ei (q:=sK) (l:=l.drop a) λk hk=>by
    rw [X4]at hk;rw [hg];simp only [sK,hno (a+k) ah ah];rfl).1
   rw [this,Yp rX]
 exact⟨key,h2,by rw [key,XO,X4];omega⟩
theorem Jj(b:UInt8):((b.toNat:Int)=32\/(b.toNat:Int)=9)↔blk b=true:=by
 rw [<- UF];unfold Cc;simp only [X1,beq_iff_eq];omega
theorem GB{l:List UInt8}{i i2:Int}{xs:List Wd}(p1:0<=i)(p2:i<l.length)(p3:xs++eN l i.toNat=eN l 0)(hb:blk (l.getD i.toNat default)=false)(r1:i<=i2)(r2:i2<=l.length)(r3:∀ k:Nat,i.toNat<=k->k<i2.toNat->blk (l.getD k default)=false)
 (he:i2.toNat=l.length\/blk (l.getD i2.toNat default)=true):i<i2/\(xs++ [(⟨bs ((l.drop i.toNat).take (i2.toNat - i.toNat)),i+1⟩:Wd)])++eN l i2.toNat=eN l 0:=by
 have hlt:i<i2:=by
  rcases Int.lt_or_eq_of_le r1 with h|h
  ·exact h
  ·subst h;rcases he with h|h
   ·omega
   ·rw [hb]at h;cases h
 obtain⟨e1,e2,e3⟩:=GA (l:=l) (a:=i.toNat) (i:=i2.toNat) ah ah ah r3 he;refine⟨hlt,?_⟩;have hne:fB l i.toNat≠ []:=λh=>by rw [h]at e3;simp at e3;omega
 rw [<- p3,vi ah hne,e2,e3,show i.toNat+(i2.toNat - i.toNat)=i2.toNat by omega,e1,show((i.toNat:Nat):Int)+1=i+1 by omega];simp
theorem zf(l:List UInt8){a:Nat}(h:l.length<=a):eN l a= []:=by
 rcases Nat.lt_or_eq_of_le h with h|h
 ·unfold eN;rw [show l.length+1 - a=0 by omega];rfl
 ·rw [<- h];exact Ek l
theorem zK{l:List UInt8}{i:Int}(h0:0<=i)(h:(l.length:Int)<=i\/blk (l.getD i.toNat default)=true):eN l (i+1).toNat =eN l i.toNat:=by
 rw [show(i+1).toNat =i.toNat+1 by omega]
 by_cases hi:i.toNat<l.length
 ·rcases h with h|h
  ·omega
  ·exact Gz hi h
 ·rw [zf l ah,zf l ah]
theorem Dj(c:UInt8):bN Tryz.prog 63 [.v (.int .u8 c.toNat)] (λq=>q= .v (.bool (blk c))):=by
 refine cw (fn:=Tryz.f63) 9 ai rfl ai aU ?_;intro av aw hA ah;have aj:ak av (.tmp 0)=_:=hA 0 _ rfl;have am:aw.length=0:=by rw [ah];rfl
 clear hA ah;refine au<|at_<|ar (aB ay) rfl<|aY (ae aj) ?_;clear aj;intro ax af
 refine ao<|au<|at_<|ar (al af) rfl<|ar (e6 aa ay) rfl ?_
 refine ar (al aa) rfl<|bQ aa (λab ad=>?_) (λab ad=>?_)
 ·replace ad:=bt ad;refine aF ⟨_,rfl,.inl ab⟩ rfl ?_;refine aF ⟨_,rfl,.inl (ae ab)⟩ rfl ?_;refine ar (bD (ag ab) ay) rfl<|ar (aB aa) rfl<|aY aa ?_;clear ab af;intro az an
  refine ao<|bg<|bL bm ai (bc an) (.ro _ rfl) ?_
  clear an am
  (have h:=Jj c;refine cu ?_;(simp_all;done))
 replace ad:=bf ad;refine aG (al (ae (ag af))) ⟨_,rfl,ab⟩ rfl ?_;refine aG (e6 aa ay) ⟨_,rfl,(ae ab)⟩ rfl ?_;refine ar (bG (ag ab) aa) rfl<|ar (aB aa) rfl<|aY aa ?_;clear ab af;intro aA ap
 refine ao<|bg<|bL bm ai (bc ap) (.ro _ rfl) ?_
 clear ap am
 (have h:=Jj c;refine cu ?_;(simp_all;done))
theorem MS(l:List UInt8)(hl:l.length<=1000000):bN Tryz.prog 28 [.v (.string (bs l))] (λq=>q= .row 2 ((eN l 0).map bn)):=by
 have hz:(bs l).size =l.length:=rfl;refine cw (fn:=Tryz.f28) 41 ai rfl ai aU ?_;intro cb cc hA bz;have bA:ak cb (.tmp 0)=_:=hA 0 _ rfl;have a3:cc.length=0:=by rw [bz];rfl
 clear hA bz;refine au<|at_<|ar (aB ay) rfl<|aY (ae bA) ?_;clear bA;intro cT bE
 refine ao<|au<|at_<|ar (aB ay) rfl<|bq (ae bE) aa ?_;clear bE;intro cW bF bH
 refine ao<|au<|au<|at_<|ar (aB ay) rfl<|bJ (ae bF) (ae bH) aa ?_;clear bF bH;intro cX cd ce cf
 refine ao<|bV<|EI 75 2 ce a3 (λcY aI a5 aJ=>?_)
 have cg:=bu a5 a3;have a6:=br a5 a3;have a6:_=1:=a6;have aK:ak aI (.tmp 0)=_:=(congrArg (λq=>ak q (.tmp 0)) aJ).trans (ae cd);have ci:ak aI (.tmp 3)=_:=(congrArg (λq=>ak q (.tmp 3)) aJ).trans aa;have cj:ak aI (.tmp 4)=_:=(congrArg (λq=>ak q (.tmp 4)) aJ).trans (ae cf);clear a5 aJ;refine eu (S:=(Int×List Wd)) (λs e mem=>match s with|⟨i,xs⟩=>(ak e (.tmp 4)= .v (.int .i64 i))/\(ak e (.tmp 0)=ak aI (.tmp 0))/\(∃ j,ak e (.tmp 3)= .own j/\mem[j]? =some (.row 75 2 (xs.map bn))/\True)/\(∃ n,mem.length=n/\1<=n)/\((0<=i/\i<=l.length+1/\xs.length<=i/\xs++eN l i.toNat=eN l 0))) (λs=>match s with|⟨i,xs⟩=>(l.length+1 - i).toNat) ⟨0,[]⟩ ⟨cj,rfl,⟨_,ci,cg,trivial⟩,⟨_,a6,Xf _⟩,?_⟩ ?_
 ·exact⟨ah,ah,aN,rfl⟩
 ·rintro⟨i,xs⟩ cZ ck ⟨a7,cm,⟨bI,bM,af,-⟩,⟨cn,aO,c6⟩,hinv⟩;have a8:=cm.trans aK;have c7:=cV af aO
  (obtain⟨p1,p2,p4,p3⟩:=hinv)
  refine au<|au<|at_<|ar (al a7) rfl<|ar (al (ae a8)) rfl<|ar (jg aa rfl fj) rfl<|ar (cU (ag aa) aa) rfl<|bp (aj a8) (aj bM) (aj a7) aa ?_;clear a8 bM a7;intro c9 aP aQ aR a9
  refine ao<|bj a9 (λap=>?_) (λap=>?_)
  ·replace ap:=bt ap;refine bC<|ao<|au<|bV<|au<|au<|at_<|ar (al aP) rfl<|ar (al (ae aR)) rfl<|ar (yT (ae aa) aa fj ah (by refine Ab ?_;omega)) rfl ?_
   refine ar (bh (aE aa aM) rfl (Dj _) Ej) rfl<|bp (aj aP) (aj aQ) (aj aR) aa ?_;clear aP aQ aR a9;intro da aS aT av ba
   refine ao<|bj ba (λco=>?_) (λco=>?_)
   ·skip;refine dV<|cB<|dU<|ao<|at_<|ar (al av) rfl ?_
    (refine ar (cv aa ay ?_) rfl ?_; · (unfold In64;omega))
    refine ar (aB aa) rfl<|bJ (ae (ag aS)) (ae (ag aT)) aa ?_;clear aS ba aT av;intro db cr cu cx
    refine ao<|⟨⟨_,_⟩,⟨cx,(cr.trans aK.symm),⟨_,cu,af,trivial⟩,⟨_,aO,ah⟩,?_⟩,?_⟩
    ·(have hb:blk (l.getD i.toNat default)=true:=(show blk (l.getD i.toNat default)=true by assumption);exact⟨ah,by simp at*;omega,ah,by rw [zK p1 (.inr hb)];exact p3⟩)
    ·((try dsimp only);(simp at*;omega))
   refine bC<|ao<|au<|at_<|ar (al av) rfl<|ar (aB aa) rfl<|bp (ag aS) (ag aT) (ag av) aa ?_;clear aS ba aT av;intro bb bO bP cy bS
   refine ao<|au<|bV<|eu (S:=Int) (λi2 e mem=>(ak e (.tmp 4)= .v (.int .i64 i2))/\(ak e (.tmp 0)=ak bb (.tmp 0))/\(ak e (.tmp 3)=ak bb (.tmp 3))/\(ak e (.tmp 5)=ak bb (.tmp 5))/\(mem[bI]? =ck[bI]?)/\(mem.length=cn)/\((i<=i2/\i2<=l.length/\ ∀ k:Nat,i.toNat<=k->k<i2.toNat->blk (l.getD k default)=false))) (λi2=>(l.length - i2).toNat) i ⟨cy,rfl,rfl,rfl,rfl,aO,?_⟩ ?_
   ·exact⟨ah,ah,λk h1 h2=>by omega⟩
   ·rintro i2 dc dd ⟨am,cz,cA,cC,cD,ad,hinv⟩;have an:=cz.trans bO;have aX:=cA.trans bP;have aZ:=cC.trans bS;have aw:=cD.trans af
    (obtain⟨r1,r2,r3⟩:=hinv)
    refine au<|au<|at_<|ar (al am) rfl<|ar (al (ae an)) rfl<|ar (jg aa rfl fj) rfl<|ar (cU (ag aa) aa) rfl<|ar (al aa) rfl<|bQ aa (λab ax=>?_) (λab ax=>?_)
    ·replace ax:=bt ax;refine aG (al (ae (aj an))) ⟨_,rfl,ab⟩ rfl ?_;refine aG (al (ag (aj am))) ⟨_,rfl,(ae ab)⟩ rfl ?_;refine aG (yT (ae aa) aa fj ah (by refine Ab ?_;omega)) ⟨_,rfl,(ag ab)⟩ rfl ?_;refine aG (bh (aE aa aM) rfl (Dj _) Ej) ⟨_,rfl,(ae (ag ab))⟩ rfl ?_;refine aG (c8 aa) ⟨_,rfl,(aj ab)⟩ rfl ?_;refine ar (bD (ae (aj ab)) aa) rfl<|bR (ae (ag (aA an))) (ae (ag (aA aX))) (ae (ag (aA am))) (ae (ag (aA aZ))) aa ?_;clear ab an aX am aZ;intro de az a2 aC aD be
     refine ao<|bj be (λaH=>?_) (λaH=>?_)
     ·replace aH:=di aH;refine bC<|ao<|bV<|at_<|ar (al aC) rfl ?_
      (refine ar (cv aa ay ?_) rfl ?_; · (unfold In64;omega))
      refine ar (aB aa) rfl<|bp (ae (ag az)) (ae (ag a2)) aa (ae (ag aD)) ?_;clear az be a2 aC aD;intro df cE cG cH cI
      refine cK<|ao<|⟨_,⟨cH,(cE.trans bO.symm),(cG.trans bP.symm),(cI.trans bS.symm),(aw.trans af.symm),ad,?_⟩,?_⟩
      ·(have hb:blk (l.getD i2.toNat default)=false:=(by assumption);exact⟨ah,ah,λk h1 h2=>if hk:k<i2.toNat then r3 k h1 hk else(by rw [show k=i2.toNat by omega];exact hb)⟩)
      ·((try dsimp only);omega)
     replace aH:=dm aH;refine dV<|cB<|cB<|dU<|ao<|at_<|ar (al a2) rfl<|ar (al (ae az)) rfl<|ar (al (ag aD)) rfl<|ar (al (ae (ag aC))) rfl<|ar (DL (ag aa) (ae aa) aa fj ah ah ah) rfl ?_
     refine ar (al (ae (aj aD))) rfl ?_
     (refine ar (cv aa ay ?_) rfl ?_; · (unfold In64;omega))
     refine ar (dq (bB (ag aa) (bB aa b8)) Gv Gw Gx rfl) rfl ?_;refine ar (ez vT (bB aa b8) rfl rfl rfl rfl) rfl<|aL (oY vT rfl ad aw (aA aa) aa eL dP) trivial rfl (λdg bk=>?_)
     have bT:=qy bk ad;simp only [pS,Value.cells,Nat.reduceAdd,lI,xA,Iq,bK]at bT;have cJ:=qb bk ad;clear bk aw;refine ar (aB aa) rfl<|bJ (ae (ag (aA az))) aa (ae (ag (aA aC))) ?_;clear az be a2 aC aD;intro dh bW bY bZ
     refine cK<|ao<|at_<|ar (al bZ) rfl ?_
     (refine ar (cv aa ay ?_) rfl ?_; · (unfold In64;omega))
     refine ar (aB aa) rfl<|bJ (ae (ag bW)) (ae (ag bY)) aa ?_;clear bW bY bZ;intro dj cL cM cN
     refine ao<|⟨⟨_,_⟩,⟨cN,(cL.trans aK.symm),⟨_,cM,bT,trivial⟩,⟨_,cJ,ah⟩,?_⟩,?_⟩
     ·(have hw:=GB p1 mn p3 (show blk (l.getD i.toNat default)=false by assumption) r1 r2 r3 (by(exact .inr (show blk (l.getD i2.toNat default)=true by assumption)));exact⟨ah,ah,by(rw [XD,List.length_singleton];omega),by rw [zK ah (by(exact .inr (show blk (l.getD i2.toNat default)=true by assumption)))];exact hw.2⟩)
     ·((try dsimp only);(simp at*;omega))
    replace ax:=bf ax;refine aF ⟨_,rfl,.inl ab⟩ rfl ?_;refine aF ⟨_,rfl,.inl (ae ab)⟩ rfl ?_;refine aF ⟨_,rfl,.inl (ag ab)⟩ rfl ?_;refine aF ⟨_,rfl,.inl (ae (ag ab))⟩ rfl ?_;refine aF ⟨_,rfl,.inl (aj ab)⟩ rfl ?_;refine ar (bG (ae (aj ab)) ay) rfl<|bR (ae (ag (aA an))) (ae (ag (aA aX))) (ae (ag (aA am))) (ae (ag (aA aZ))) aa ?_;clear ab an aX am aZ;intro dk bo b0 bv bw b1
    refine ao<|hU b1<|dV<|cB<|cB<|dU<|ao<|at_<|ar (al b0) rfl<|ar (al (ae bo)) rfl<|ar (al (ag bw)) rfl<|ar (al (ae (ag bv))) rfl<|ar (DL (ag aa) (ae aa) aa fj ah ah ah) rfl ?_
    refine ar (al (ae (aj bw))) rfl ?_
    (refine ar (cv aa ay ?_) rfl ?_; · (unfold In64;omega))
    refine ar (dq (bB (ag aa) (bB aa b8)) Gv Gw Gx rfl) rfl ?_;refine ar (ez vT (bB aa b8) rfl rfl rfl rfl) rfl<|aL (oY vT rfl ad aw (aA aa) aa eL dP) trivial rfl (λdl bx=>?_)
    have b2:=qy bx ad;simp only [pS,Value.cells,Nat.reduceAdd,lI,xA,Iq,bK]at b2;have cO:=qb bx ad;clear bx aw;refine ar (aB aa) rfl<|bJ (ae (ag (aA bo))) aa (ae (ag (aA bv))) ?_;clear bo b1 b0 bv bw;intro dn b6 b7 b9
    refine cK<|ao<|at_<|ar (al b9) rfl ?_
    (refine ar (cv aa ay ?_) rfl ?_; · (unfold In64;omega))
    refine ar (aB aa) rfl<|bJ (ae (ag b6)) (ae (ag b7)) aa ?_;clear b6 b7 b9;intro dp cP cQ cR
    refine ao<|⟨⟨_,_⟩,⟨cR,(cP.trans aK.symm),⟨_,cQ,b2,trivial⟩,⟨_,cO,ah⟩,?_⟩,?_⟩
    ·(have hw:=GB p1 mn p3 (show blk (l.getD i.toNat default)=false by assumption) r1 r2 r3 (by(exact .inl mn));exact⟨ah,ah,by(rw [XD,List.length_singleton];omega),by rw [zK ah (by(exact .inl mn))];exact hw.2⟩)
    ·((try dsimp only);(simp at*;omega))
  replace ap:=bf ap;refine dV<|cB<|cB<|dU<|ao<|au<|at_<|ar (al aQ) rfl<|ar (aB aa) rfl<|aY aa ?_;clear aP aQ aR a9;intro dr ca
  refine ao<|bg<|bL bm ai (bc ca) (.own _ _ _ _ af) ?_
  clear ca af aO
  (rw [zf l mn,X3]at p3;rw [<- p3])
theorem Oy:∀ args w,(callFunc 62 args).run Tryz.prog w= .ok (.enter 62 args) w:=λ_ _=>by kernel_rfl
theorem Oz:∀ args w,(callFunc 91 args).run Tryz.prog w= .ok (.enter 91 args) w:=λ_ _=>by kernel_rfl
theorem tW:aQ Tryz.prog 9 false 1:=⟨ai,ai⟩
def m7:Nat->List UInt8->List (List UInt8)
 | 0,_=> []
 | f+1,l=>if l= []then []else if 0<=indexByte l 10 then l.take ((indexByte l 10).toNat +1)::m7 f (l.drop ((indexByte l 10).toNat +1))else [l]
def dX(l:List UInt8):List (List UInt8):=m7 l.length l
theorem yI:∀ (f:Nat) (l:List UInt8),l.length<=f->m7 f l=dX l:=by
 have key:∀ (f g:Nat) (l:List UInt8),l.length<=f->l.length<=g->m7 f l=m7 g l:=by
  intro f
  induction f with
  | zero=>
   intro g l hf hg;have:l= []:=XS ah;subst this;cases g<;>simp [m7]
  | succ f ih=>
   intro g l hf hg;cases g with
   | zero=>
    have:l= []:=XS ah;subst this;simp [m7]
   | succ g=>
    simp only [m7]
    split
    ·rfl
    ·split
     ·rename_i h1 h2
      congr 1
      have hp:=XJ.2 h1;exact ih g _ rX rX
     ·rfl
 exact λf l h=>key f l.length l h (Xf _)
theorem oz:dX []= []:=rfl
theorem MU{l:List UInt8}(h:l≠ [])(hi:0<=indexByte l 10):dX l=l.take ((indexByte l 10).toNat +1)::dX (l.drop ((indexByte l 10).toNat +1)):=by
 have hp:=XJ.2 h;rw [<- yI (l.length+1) l ah];simp only [m7];rw [if_neg h,if_pos hi,yI _ _ rX]
theorem MV{l:List UInt8}(h:l≠ [])(hi:¬ 0<=indexByte l 10):dX l= [l]:=by
 have hp:=XJ.2 h;rw [<- yI (l.length+1) l ah];simp only [m7];rw [if_neg h,if_neg hi]
def ou(r:List UInt8):List UInt8:=if 0<=indexByte r 10 then r.take ((indexByte r 10).toNat +1)else r
def ku(r:List UInt8):List UInt8:=if 0<=indexByte r 10 then r.drop ((indexByte r 10).toNat +1)else []
theorem pQ{r:List UInt8}(h:r≠ []):dX r=ou r::dX (ku r):=by
 unfold ou ku
 split
 ·rename_i hi;exact MU h hi
 ·rename_i hi;rw [MV h hi,oz]
theorem nD{r:List UInt8}(h:r≠ []):(ku r).length <r.length:=by
 have:=XJ.2 h;unfold ku
 split
 ·rw [X4];omega
 ·simpa using this
theorem VO(r:List UInt8)(h:0<=indexByte r 10):(bs r).extract 0 (indexByte r 10+1).toNat =bs (ou r):=by
 rw [UH,lI,show(indexByte r 10+1).toNat =(indexByte r 10).toNat +1 by omega,ou,if_pos h]
theorem VP(r:List UInt8)(h:0<=indexByte r 10):(bs r).extract (indexByte r 10+1).toNat (bs r).size =bs (ku r):=by
 rw [UG,lI,show(indexByte r 10+1).toNat =(indexByte r 10).toNat +1 by omega,ku,if_pos h]
theorem BW{r:List UInt8}(h:¬ 0<=indexByte r 10):ou r=r/\ku r= []:=by
 unfold ou ku;rw [if_neg h,if_neg h];exact⟨rfl,rfl⟩
def ym(l:List UInt8):List AV:= [.v (.string (bs l))]
theorem K0(l:List UInt8)(c:Int):bN Tryz.prog 62 [.v (.string (bs l)),.v (.int .u8 c)] (λq=>q= .v (.int .i64 (indexByte l c.toNat.toUInt8))):=by
 have h:=K6 (bs l) c;rw [lI]at h;refine cw (fn:=Tryz.f62) 8 ai rfl ai aU ?_;intro ab an hA ad;have af:ak ab (.tmp 0)=_:=hA 0 _ rfl;have ag:ak ab (.tmp 1)=_:=hA 1 _ rfl;have ap:an.length=0:=by rw [ad];rfl
 clear hA ad;refine au<|at_<|ar (aB ay) rfl<|bq (ae af) (ae ag) ?_;clear af ag;intro av ah aj
 refine ao<|au<|at_<|ar (al ah) rfl<|ar (al (ae aj)) rfl<|ar (bh (aE (ae aa) (aE aa aM)) rfl (h) Oz) rfl<|ar (aB aa) rfl<|aY aa ?_;clear ah aj;intro aw am
 refine ao<|bg<|bL bm ai (bc am) (.ro _ rfl) ?_
 clear am ap;rfl
theorem Rh(s:ByteArray):kP Tryz.prog [] 27 [.v (.string s)] [] (.clo (.func 61) [] [.ptr 1 0]) [.box 9 [.v (.string s)]]:=by
 refine qj (fn:=Tryz.f27) [] 4 ai rfl ai aU ?_;intro am an hA ad;have ah:ak am (.tmp 0)=_:=hA 0 _ rfl;have af:an.length=1:=by rw [ad];rfl
 have aj:=qN ad;clear hA ad;refine au<|at_<|aL (cZ ah rfl af) trivial rfl (λax ab=>?_)
 have ap:=bu ab af
 (skip)
 have av:=aK ab aj;have ag:=br ab af;have ag:_=2:=ag;clear ab aj;refine ar (aB ay) rfl<|aY (ae aa) ?_;clear ah;intro az al
 refine ao<|au<|at_<|ar (kX aM (aE al aM)) rfl<|ar (aB aa) rfl<|aY aa ?_;clear al;intro aA aw
 refine ao<|bg<|qz bm [1] ag av aD rfl (kM ai (bc aw)) (lO ap ?_ .nil) ?_
 all_goals (rfl)
def CC(l r:List UInt8)(i:Nat):Prop:=i+(dX r).length =(dX l).length /\(dX l).drop i=dX r/\r.length<=l.length
theorem wW{l r y q:List UInt8}{i:Nat}(h:CC l r i)(hy:dX r=y::dX q)(hq:q.length<=r.length):((dX l).map ym)[i]? =some [AV.v (.string (bs y))]/\CC l q (i+1):=by
 obtain⟨h1,h2,h3⟩:=h;have h4:(dX l)[i]? =some y:=by
  have:=congrArg (λz=>z[0]?) h2;simp only [XH,hy]at this
  simpa using this
 refine⟨by rw [Xh,h4];rfl,?_,?_,ah⟩
 ·rw [hy]at h1;simp at h1;omega
 ·have:=congrArg (λz=>z.drop 1) h2;simp only [Yd,hy]at this
  simpa using this
theorem OA(l:List UInt8)(hl:l.length<=1000000)(jv:Nat):Be Tryz.prog 61 [] [.ptr jv 0] jv 9 [.v (.string (bs l))] ((dX l).map ym):=by
 refine TL (fn:=Tryz.f61) 25 ai rfl ai aU (λ_ _=>⟨.tuple #[],ai⟩) ?_;intro lb_ ap hA;have aO:ak ap (.tmp 0)=_:=hA 0 _ rfl;have aP:ak ap (.tmp 1)=_:=hA 1 _ rfl;clear hA;refine ET<|TI (S:=(List UInt8×Nat)) (λs e b i c=>match s with|⟨r,k⟩=>(ak e (.tmp 0)=ak ap (.tmp 0))/\(ak e (.tmp 1)=ak ap (.tmp 1))/\(b=true)/\(i=k)/\(c= [.v (.string (bs r))])/\((CC l r k))) (λs=>match s with|⟨r,k⟩=>r.length) ⟨l,0⟩ ⟨rfl,rfl,rfl,eL,rfl,?_⟩ ?_
 ·exact⟨ah,rfl,Xf _⟩
 ·rintro⟨r,k⟩ br _ bu _ ⟨ba,bb,rfl,hix,rfl,hinv⟩;have a2:=ba.trans aO;have aQ:=bb.trans aP
  (obtain⟨p1,p2,p3⟩:=hinv;have hz:(bs r).size =r.length:=rfl;have hi:=K0 r 10;rw [show((10:Int).toNat.toUInt8)=(10:UInt8)from rfl]at hi;obtain⟨g1,g2⟩:=Jg r 10)
  refine o5<|o5<|qk ?_
  refine g7 (λmem_ hm_=>(ax (aH tW rfl hm_ aQ az) bk)) trivial rfl ?_;refine g7 (λmem_ hm_=>(jg aa rfl fj)) trivial rfl ?_;refine g7 (λmem_ hm_=>(ey aa ay)) trivial rfl ?_;refine mZ (λbv ar=>?_);have a3:=ef 0 ar (ae (ag a2));have a5:=ef 1 ar (ae (ag aQ));have a6:=ef 7 ar aa;clear ar a2 aQ;refine k7<|wK a6 (λad=>?_) (λad=>?_)
  ·replace ad:=bt ad;refine Ah<|k7<|ET<|o5<|qk ?_
   refine g7 (λmem_ hm_=>(aB ay)) trivial rfl ?_;refine mZ (λbw aR=>?_);have a7:=ef 0 aR (ae a3);have aS:=ef 1 aR (ae a5);clear aR a3 a5 a6;refine k7<|o5<|o5<|qk ?_
   refine g7 (λmem_ hm_=>(ax (aH tW rfl hm_ aS az) bk)) trivial rfl ?_;refine g7 (λmem_ hm_=>(bh (aE aa (aE ay aM)) rfl (hi) Oy)) trivial rfl ?_;refine g7 (λmem_ hm_=>(aB aa)) trivial rfl ?_;refine mZ (λbx au=>?_);have a8:=ef 0 au (ae (ag a7));have a9:=ef 1 au (ae (ag aS));have aT:=ef 4 au aa;clear au a7 aS;refine k7<|o5<|qk ?_
   refine g7 (λmem_ hm_=>(al aT)) trivial rfl ?_;refine g7 (λmem_ hm_=>(mW aa ay)) trivial rfl ?_;refine mZ (λbz af=>?_);have av:=ef 0 af (ag a8);have ab:=ef 1 af (ag a9);have aw:=ef 4 af (ag aT);have aX:=ef 11 af aa;clear af a8 a9 aT;refine k7<|wK aX (λam=>?_) (λam=>?_)
   ·replace am:=bt am;refine TK 9 ai ai ai ai ?_;refine nK (λmem_ hm_=>(ax (aH tW rfl hm_ ab az) bk)) trivial rfl ?_;refine nK (λmem_ hm_=>(al (ae aw))) trivial rfl ?_
    (refine nK (λmem_ hm_=>(cv aa ay ?_)) trivial rfl ?_; · (unfold In64;omega))
    refine nK (λmem_ hm_=>(Tq (ag aa) aa fj ah ah)) trivial rfl ?_;refine nK (λmem_ hm_=>(ax (aH tW rfl hm_ (aj ab) az) bk)) trivial rfl ?_;refine nK (λmem_ hm_=>(al (ae (aj aw)))) trivial rfl ?_
    (refine nK (λmem_ hm_=>(cv aa ay ?_)) trivial rfl ?_; · (unfold In64;omega))
    refine nK (λmem_ hm_=>(Tn (ag aa) aa fj ah ah)) trivial rfl ?_;refine nK (λmem_ hm_=>(aB (aj aa))) trivial rfl ?_;refine TJ ?_;refine JI rfl (λmem_ hm_=>(bP (ae (aA ab)) (ae aa) rfl rfl hm_ qP rfl az)) trivial rfl ?_;refine mZ (λbA aD=>?_);have an:=ef 0 aD (aC (ae (aA av)));have aF:=ef 1 aD (aC (ae (aA ab)));have aY:=ef 3 aD (aC aa);clear aD av aX ab aw;refine k7<|o5<|qk ?_
    refine g7 (λmem_ hm_=>(al an)) trivial rfl ?_;refine g7 (λmem_ hm_=>(al (ae aY))) trivial rfl ?_;refine EV (ae aa) (aE aa aM) rfl trivial rfl rfl (by(subst hix;have hn:r≠ []:=XJ.1 ah;have h5:=(wW ⟨p1,p2,p3⟩ (pQ hn) (Yk (nD hn))).1;(rw [VO r ah];exact h5))) ?_ ?_
    ·
     refine g7 (λmem_ hm_=>(c8 aa)) trivial rfl ?_;refine mZ (λbB aG=>?_);have bc:=ef 0 aG (aj an);have be:=ef 1 aG (aj aF);have bg:=ef 24 aG aa;clear aG an aF aY;refine k7<|ES bg ?_
     refine Ah<|EU<|k7<|⟨⟨ku r,k+1⟩,⟨(bc.trans aO.symm),(be.trans aP.symm),rfl,ah,(by(rw [<- VP r ah];rfl)),?_⟩,?_⟩
     ·(have hn:r≠ []:=XJ.1 ah;exact(wW ⟨p1,p2,p3⟩ (pQ hn) (Yk (nD hn))).2)
     ·((try dsimp only);(have hn:r≠ []:=XJ.1 ah;exact nD hn))
    ·
     refine g7 (λmem_ hm_=>(c8 aa)) trivial rfl ?_;refine mZ (λbC aI=>?_);have bD:=ef 0 aI (aj an);have bE:=ef 1 aI (aj aF);have bj:=ef 24 aI aa;clear aI an aF aY;refine k7<|HH bj ?_
     refine IZ<|vE<|HJ<|vE<|I0 (λhb_=>(by cases hb_))
   replace am:=bf am;refine qk ?_;refine g7 (λmem_ hm_=>(ax (aH tW rfl hm_ ab az) bk)) trivial rfl ?_;refine g7 (λmem_ hm_=>(aB aa)) trivial rfl ?_;refine JI rfl (λmem_ hm_=>(bP (ag ab) ay rfl rfl hm_ qP rfl az)) trivial rfl ?_;refine mZ (λbF aJ=>?_);have ao:=ef 0 aJ (aC (ag av));have aK:=ef 1 aJ (aC (ag ab));have aZ:=ef 3 aJ (aC aa);clear aJ av aX ab aw;refine k7<|o5<|qk ?_
   refine g7 (λmem_ hm_=>(al ao)) trivial rfl ?_;refine g7 (λmem_ hm_=>(al (ae aZ))) trivial rfl ?_;refine EV (ae aa) (aE aa aM) rfl trivial rfl rfl (by(subst hix;have hn:r≠ []:=XJ.1 ah;have h5:=(wW ⟨p1,p2,p3⟩ (pQ hn) (Yk (nD hn))).1;(rw [(BW (r:=r) ah).1]at h5;exact h5))) ?_ ?_
   ·
    refine g7 (λmem_ hm_=>(c8 aa)) trivial rfl ?_;refine mZ (λbG aL=>?_);have bm:=ef 0 aL (aj ao);have bo:=ef 1 aL (aj aK);have bp:=ef 24 aL aa;clear aL ao aK aZ;refine k7<|ES bp ?_
    refine Ah<|EU<|k7<|⟨⟨ku r,k+1⟩,⟨(bm.trans aO.symm),(bo.trans aP.symm),rfl,ah,(by(rw [(BW (r:=r) ah).2];rfl)),?_⟩,?_⟩
    ·(have hn:r≠ []:=XJ.1 ah;exact(wW ⟨p1,p2,p3⟩ (pQ hn) (Yk (nD hn))).2)
    ·((try dsimp only);(have hn:r≠ []:=XJ.1 ah;exact nD hn))
   ·
    refine g7 (λmem_ hm_=>(c8 aa)) trivial rfl ?_;refine mZ (λbH aN=>?_);have bI:=ef 0 aN (aj ao);have bJ:=ef 1 aN (aj aK);have bq:=ef 24 aN aa;clear aN ao aK aZ;refine k7<|HH bq ?_
    refine IZ<|vE<|HJ<|vE<|I0 (λhb_=>(by cases hb_))
  replace ad:=bf ad;refine TG<|HI<|HI<|Me ?_
  refine Vo (λhb_=>?_)
  (rw [XK];have h0:r= []:=XS ah;rw [h0,oz]at p1;simp at p1;omega)
def e7(l:List UInt8):List UInt8:=trimSuffix l [10]
theorem Ri(l:List UInt8):(e7 l).length <=l.length:=by
 unfold e7 trimSuffix
 split
 ·rw [XO];omega
 ·exact Xf _
theorem MW(l:List UInt8):(dX l).length <=l.length:=by
 have key:∀ (n:Nat) (l:List UInt8),l.length<=n->(dX l).length <=l.length:=by
  intro n
  induction n with
  | zero=>
   intro l h;have:l= []:=XS ah;subst this;simp [oz]
  | succ n ih=>
   intro l h
   by_cases h0:l= []
   ·subst h0;simp [oz]
   ·have h1:=nD h0;have h2:=ih (ku l) ah;rw [pQ h0,Xo];omega
 exact key l.length l (Xf _)
theorem MX{l y:List UInt8}(h:y∈dX l):y.length<=l.length:=by
 have key:∀ (n:Nat) (l:List UInt8),l.length<=n->y∈dX l->y.length<=l.length:=by
  intro n
  induction n with
  | zero=>
   intro l h hy;have:l= []:=XS ah;subst this;simp [oz]at hy
  | succ n ih=>
   intro l h hy
   by_cases h0:l= []
   ·subst h0;simp [oz]at hy
   ·have h1:=nD h0;rw [pQ h0]at hy;rcases XM.1 hy with rfl|hy
    ·unfold ou;split
     ·rw [XO];omega
     ·exact Xf _
    ·have:=ih (ku l) ah hy;omega
 exact key l.length l (Xf _) h
theorem VQ{tx:List UInt8}{i:Nat}{a:AV}(h:((dX tx).map ym)[i]? =some [a]):∃ l,(dX tx)[i]? =some l/\a= .v (.string (bs l))/\l.length<=tx.length/\i<(dX tx).length :=by
 rw [Xh]at h;cases hq:(dX tx)[i]? with
 | none=>rw [hq]at h;cases h
 | some l=>
  rw [hq]at h;simp [ym]at h;exact⟨l,rfl,h.symm,MX (Xp hq),(Xe.1 hq).1⟩
def yn(p:List UInt8):List (List UInt8)->List (List UInt8)
 | []=> [p]
 | x::xs=>(p++x)::xs
def jG:List UInt8->List (List UInt8)
 | []=> [[]]
 | b::l=>if b=10 then []::jG l else yn [b] (jG l)
theorem VR(p:List UInt8)(L:List (List UInt8)):yn p L≠ []:=by cases L<;>simp [yn]
theorem VS(l:List UInt8):jG l≠ []:=by
 cases l with
 | nil=>simp [jG]
 | cons b l=>simp only [jG];split<;>simp [VR]
def strip(L:List (List UInt8)):List (List UInt8):=if L.getLast?=some []then L.dropLast else L
theorem MY{a:List UInt8}{L:List (List UInt8)}(h:L≠ []):strip (a::L)=a::strip L:=by
 cases L with
 | nil=>exact absurd rfl h
 | cons x L=>
  unfold strip;rw [List.getLast?_cons_cons,List.dropLast_cons_cons]
  split<;>rfl
theorem Bz:∀ (l:List UInt8) (j:Nat),j<l.length->l.getD j 0=10->(∀ k,k<j->l.getD k 0≠10)->jG l=l.take j::jG (l.drop (j+1))
 | [],j,h,_,_=>by simp at h
 | b::l,0,h,h1,_=>by
  have:b=10:=h1;subst this;simp [jG]
 | b::l,j+1,h,h1,h2=>by
  have hb:b≠10:=h2 0 ah;simp only [jG,if_neg hb];rw [Bz l j lK h1 (λk hk=>h2 (k+1) ah)];simp [yn]
theorem GF:∀ (l:List UInt8),(∀ k,k<l.length->l.getD k 0≠10)->jG l= [l]
 | [],_=>rfl
 | b::l,h=>by
  have hb:b≠10:=h 0 aN;simp only [jG,if_neg hb];rw [GF l (λk hk=>h (k+1) (by simpa using hk))];rfl
theorem VT{l:List UInt8}{j:Nat}(hj:j<l.length)(h:l.getD j 0=10):e7 (l.take (j+1))=l.take j:=by
 unfold e7 trimSuffix;have hs:hasSuffix (l.take (j+1)) [10]=true:=by
  have:l.take (j+1)=l.take j++ [10]:=by
   rw [YK,Xd hj];rw [Xc,Xd hj]at h;simp at h;simp [h]
  rw [this];simp [hasSuffix]
 rw [if_pos hs,X2,XO]
 congr 1
 simp only [Xo,Xs];omega
theorem VU{l:List UInt8}(h:∀ k,k<l.length->l.getD k 0≠10):e7 l=l:=by
 unfold e7 trimSuffix
 split
 ·rename_i hs
  exfalso
  have h1: [10]<:+l:=by simpa [hasSuffix]using hs
  obtain⟨t,ht⟩:=h1;have:=h t.length (by rw [<- ht];simp);apply this;rw [<- ht];simp
 ·rfl
theorem OB:∀ (n:Nat) (l:List UInt8),l.length<=n->(dX l).map e7=strip (jG l):=by
 intro n
 induction n with
 | zero=>
  intro l h;have:l= []:=XS ah;subst this;rw [oz];rfl
 | succ n ih=>
  intro l h
  by_cases h0:l= []
  ·subst h0;rw [oz];rfl
  ·have hp:=XJ.2 h0;rw [pQ h0,XI];have hlt:=nD h0;rw [ih (ku l) ah]
   by_cases hi:0<=indexByte l 10
   ·obtain⟨j,hj⟩:∃ j:Nat,indexByte l 10=j:=⟨(indexByte l 10).toNat,ah⟩;obtain⟨a1,a2⟩:=indexByte_some hj;have hjl:j<l.length:=(Xe.1 a1).1;have b1:l.getD j 0=10:=by rw [Xc,a1];rfl
    have b2:∀ k,k<j->l.getD k 0≠10:=λk hk he=>a2 k hk (by
     rw [Xc,Xd ah]at he;rw [Xd ah]
     simpa using he)
    have e1:ou l=l.take (j+1):=by unfold ou;rw [if_pos hi,hj];rfl
    have e2:ku l=l.drop (j+1):=by unfold ku;rw [if_pos hi,hj];rfl
    rw [e1,e2,Bz l j hjl b1 b2,MY (VS _),VT hjl b1]
   ·obtain⟨e1,e2⟩:=BW hi;have hb:indexByte l 10= -1:=by have:=(Jg l 10).1;omega
    have b2:∀ k,k<l.length->l.getD k 0≠10:=λk hk he=>indexByte_none hb k (by
     rw [Xc,Xd ah]at he;rw [Xd ah]
     simpa using he)
    rw [e1,e2,GF l b2,VU b2];have hl1:strip [l]= [l]:=by unfold strip;rw [if_neg (by simpa using h0)]
    rw [hl1];rfl
theorem Rj(l:List UInt8):(dX l).map e7=strip (jG l):=OB l.length l (Xf _)
end Go.Proofs.YtbmlgmblfboigaaGreatDoor
