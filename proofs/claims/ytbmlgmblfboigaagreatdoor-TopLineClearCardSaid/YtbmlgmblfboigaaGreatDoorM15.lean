/- Texts of this claim, one behind the other: lemmas for the statement. -/
import Derived.Test.YtbmlgmblfboigaaGreatDoorT0
import Derived.Test.YtbmlgmblfboigaaGreatDoorM10
import Derived.Test.YtbmlgmblfboigaaGreatDoorM14
import Derived.Test.YtbmlgmblfboigaaGreatDoorM12
import Derived.Test.YtbmlgmblfboigaaGreatDoorM11
set_option maxRecDepth 100000
set_option maxHeartbeats 4000000
set_option linter.unusedSimpArgs false
set_option linter.unusedVariables false
namespace Go.Proofs.YtbmlgmblfboigaaGreatDoor
open Go Go.RowKit Go.Proofs
theorem O3:∀ args w,(callFunc 37 args).run Tryz.prog w= .ok (.enter 37 args) w:=λ_ _=>by kernel_rfl
theorem tu:bO Tryz.prog 23 59 4 32 (.agg #[.int .i64 0,.int .i64 0,.int .i64 0,.int .i64 0]):=⟨ai,ai,ai⟩
theorem tw:bO Tryz.prog 24 95 2 16 (.agg #[.int .i64 0,.int .i64 0]):=⟨ai,ai,ai⟩
theorem tz:bO Tryz.prog 25 97 3 48 (.agg #[.string ByteArray.empty,.int .i64 0,.slice none 0 0]):=⟨ai,ai,ai⟩
theorem tA:bO Tryz.prog 85 3 1 8 (.int .i64 0):=⟨ai,ai,ai⟩
theorem SA:Tryz.prog.eqGuardType Tryz.prog.depth 59=false:=by kernel_rfl
theorem SB{a0 b0:Int}{a1 b1:Int}{a2 b2:Int}{a3 b3:Int}:kR Tryz.prog 3 59 (.agg #[.int .i64 a0,.int .i64 a1,.int .i64 a2,.int .i64 a3]) (.agg #[.int .i64 b0,.int .i64 b1,.int .i64 b2,.int .i64 b3]) (decide (a0=b0)&&(decide (a1=b1)&&((decide (a2=b2)&&(decide (a3=b3)&&true))&&true))):=(yM [(3,0),(3,1),(48,2)] ai ai ai ai (.cons (λ_=>by kernel_rfl) (λ_=>by kernel_rfl) (kR.up (rD (k:=.i64) (k':=.i64) ai a0 b0) 1) (.cons (λ_=>by kernel_rfl) (λ_=>by kernel_rfl) (kR.up (rD (k:=.i64) (k':=.i64) ai a1 b1) 1) (.cons (x:=.agg #[.int .i64 a2,.int .i64 a3]) (y:=.agg #[.int .i64 b2,.int .i64 b3]) (λ_=>by kernel_rfl) (λ_=>by kernel_rfl) (yM [(3,0),(3,1)] ai ai ai ai (.cons (λ_=>by kernel_rfl) (λ_=>by kernel_rfl) (rD (k:=.i64) (k':=.i64) ai a2 b2) (.cons (λ_=>by kernel_rfl) (λ_=>by kernel_rfl) (rD (k:=.i64) (k':=.i64) ai a3 b3) .nil))) .nil))))
theorem SC:Tryz.prog.eqGuardType Tryz.prog.depth 95=false:=by kernel_rfl
theorem SD{a0 b0:Int}{a1 b1:Int}:kR Tryz.prog 2 95 (.agg #[.int .i64 a0,.int .i64 a1]) (.agg #[.int .i64 b0,.int .i64 b1]) (decide (a0=b0)&&(decide (a1=b1)&&true)):=(yM [(3,0),(3,1)] ai ai ai ai (.cons (λ_=>by kernel_rfl) (λ_=>by kernel_rfl) (rD (k:=.i64) (k':=.i64) ai a0 b0) (.cons (λ_=>by kernel_rfl) (λ_=>by kernel_rfl) (rD (k:=.i64) (k':=.i64) ai a1 b1) .nil)))
theorem tB:aQ Tryz.prog 23 false 1:=⟨ai,ai⟩
theorem tC:aQ Tryz.prog 24 false 1:=⟨ai,ai⟩
theorem tD:aQ Tryz.prog 25 false 1:=⟨ai,ai⟩
theorem xd:aQ Tryz.prog 3 false 1:=⟨ai,ai⟩
theorem Hh:aQ Tryz.prog 59 true 4:=⟨ai,ai⟩
theorem Hi:aQ Tryz.prog 85 false 1:=⟨ai,ai⟩
theorem xe:aQ Tryz.prog 9 false 1:=⟨ai,ai⟩
theorem Hj:aQ Tryz.prog 95 true 2:=⟨ai,ai⟩
theorem Hk:aQ Tryz.prog 97 true 3:=⟨ai,ai⟩
theorem O4{a b:List Int}(hl:a.length=b.length)(h:∀ q:Nat,q<a.length->a.getD q default=b.getD q default):a=b:=by
 refine List.ext_getElem hl λn h1 h2=>?_
 have:=h n h1;rw [Xc,Xc,Xd h1,Xd h2]at this;exact this
theorem O5(a b:List Int)(ha:a.length<=1000000000)(hb:b.length<=1000000000):bN Tryz.prog 37 [.row 1 (a.map iE),.row 1 (b.map iE)] (λq=>q=dK (decide (a=b))):=by
 refine cw (fn:=Tryz.f37) 26 ai rfl ai aU ?_;intro aN a6 hA aO;have aP:ak aN (.tmp 0)=_:=hA 0 _ rfl;have aQ:ak aN (.tmp 1)=_:=hA 1 _ rfl;have aR:a6.length=0:=by rw [aO];rfl
 clear hA aO;refine au<|at_<|ar (aB ay) rfl<|bq (ae aP) (ae aQ) ?_;clear aP aQ;intro bh av aw
 refine ao<|au<|au<|at_<|ar (al av) rfl<|ar (ax (ca aa rfl tA.1) b7) rfl ?_
 refine ar (al (ag aw)) rfl<|ar (ax (ca aa rfl tA.1) b7) rfl ?_
 refine ar (dB (ag aa) aa) rfl<|bJ (ae (aj av)) (ae (aj aw)) aa ?_;clear av aw;intro bk aC aD aE
 refine ao<|bj aE (λab=>?_) (λab=>?_)
 ·replace ab:=dR ab;refine au<|at_<|ar (aB ay) rfl<|aY aa ?_;clear aC aE aD;intro bo aS
  refine ao<|bg<|bS<|bL bm ai (bc aS) (.ro _ rfl) ?_
  clear aS aR
  (have hne:¬ a=b:=(λhc=>absurd (congrArg List.length hc) ah);rw [decide_eq_false hne])
 replace ab:=dp ab
 (have hl:a.length=b.length:=ah)
 refine bC<|ao<|au<|au<|at_<|ar (aB ay) rfl<|bJ (ae aC) (ae aD) aa ?_;clear aC aE aD;intro aT aX aZ a7
 refine ao<|bV<|eu (S:=Int) (λi e mem=>(ak e (.tmp 5)= .v (.int .i64 i))/\(ak e (.tmp 0)=ak aT (.tmp 0))/\(ak e (.tmp 1)=ak aT (.tmp 1))/\(mem.length=0)/\((0<=i/\i<=a.length/\a.length=b.length/\ ∀ j:Nat,j<i->a.getD j default=b.getD j default))) (λi=>(a.length - i).toNat) _ ⟨a7,rfl,rfl,aR,?_⟩ ?_
 ·(exact⟨ah,ah,hl,λj hj=>by omega⟩)
 ·rintro i br bu ⟨aF,a8,a9,aG,hinv⟩;have aH:=a8.trans aX;have a2:=a9.trans aZ
  (obtain⟨p1,p2,p3,p4⟩:=hinv)
  refine au<|au<|at_<|ar (al aF) rfl<|ar (al (ae aH)) rfl<|ar (ax (ca aa rfl tA.1) b7) rfl ?_
  refine ar (cU (ag aa) aa) rfl<|bp (aj aH) (aj a2) (aj aF) aa ?_;clear aH a2 aF;intro bv an ap ad aI
  refine ao<|bj aI (λaf=>?_) (λaf=>?_)
  ·replace af:=bt af;refine bC<|ao<|au<|bV<|au<|dZ 9 ai ai ai ai ?_
   refine dr (al an) rfl<|dr (al (ae ad)) rfl<|dr (ax (cP tA (ae aa) aa ah (by(refine cO ?_;omega))) xk) rfl ?_
   refine dr (ax (bF xd rfl aa az) xk) rfl ?_;refine dr (al (aj ap)) rfl<|dr (al (ae (aj ad))) rfl<|dr (ax (cP tA (ae aa) aa ah (by(refine cO ?_;omega))) xk) rfl ?_
   refine dr (ax (bF xd rfl aa az) xk) rfl ?_;refine dr (dB (aj aa) aa) rfl<|dC<|bp (ae (aA an)) (ae (aA ap)) (ae (aA ad)) aa ?_;clear an aI ap ad;intro bw aJ aK aL aM
   refine ao<|bj aM (λam=>?_) (λam=>?_)
   ·replace am:=dR am;refine au<|at_<|ar (aB ay) rfl<|aY aa ?_;clear aJ aK aM aL;intro bx a3
    refine ao<|bg<|db<|bS<|bS<|db<|bS<|bL bm ai (bc a3) (.ro _ rfl) ?_
    clear a3 aG
    (have hne:¬ a=b:=(λhc=>absurd (congrArg (λl=>l.getD i.toNat default) hc) (by assumption));rw [decide_eq_false hne])
   replace am:=dp am;refine bC<|cK<|ao<|at_<|ar (al aL) rfl ?_
   (refine ar (cv aa ay ?_) rfl ?_; · (unfold In64;omega))
   refine ar (aB aa) rfl<|bJ (ae (ag aJ)) (ae (ag aK)) aa ?_;clear aJ aK aM aL;intro bz ba bb be
   refine ao<|⟨_,⟨be,(ba.trans aX.symm),(bb.trans aZ.symm),aG,?_⟩,?_⟩
   ·(refine⟨ah,ah,p3,λq hq=>?_⟩;by_cases hj:(q:Int)=i;(rw [show q=i.toNat by omega];omega);exact p4 q ah)
   ·((try dsimp only);omega)
  replace af:=bf af;refine dV<|cB<|cB<|dU<|ao<|au<|at_<|ar (aB ay) rfl<|aY aa ?_;clear an aI ap ad;intro bA a5
  refine ao<|bg<|bL bm ai (bc a5) (.ro _ rfl) ?_
  clear a5 aG
  (rw [decide_eq_true (O4 p3 λj hj=>p4 j ah)])
theorem O6(l:aP)(hl:eo l):bN Tryz.prog 9 [dL l,dL l] (λq=>q=dK true):=by
 obtain⟨h1,h2,h3,h4,h5⟩:=id hl;refine cw (fn:=Tryz.f9) 115 ai rfl ai aU ?_;intro dg eA hA dh;have dj:ak dg (.tmp 0)=_:=hA 0 _ rfl;have dk:ak dg (.tmp 1)=_:=hA 1 _ rfl;have co:eA.length=0:=by rw [dh];rfl
 clear hA dh;refine au<|at_<|aL (cZ dj rfl co) trivial rfl (λff cr=>?_)
 have dl:=bu cr co;have bb:=br cr co;have bb:_=1:=bb;clear cr;refine aL (cZ (ae dk) rfl bb) trivial rfl (λdn cc=>?_);have aO:=bu cc bb;have aQ:=aK cc dl;have cd:=br cc bb;have cd:_=2:=cd;clear cc dl;refine ar (aB ay) rfl<|bq (ag aa) (ae aa) ?_;clear dj dk;intro fg ap av
 refine ao<|au<|au<|at_<|ar (aI oM rfl ap) rfl<|ar (ax (aH xe rfl aQ aa az) ek) rfl ?_
 refine ar (aI oM rfl (ag av)) rfl<|ar (ax (aH xe rfl aO aa az) ek) rfl ?_
 refine ar (eD (ag aa) aa) rfl<|ar (al aa) rfl<|bQ aa (λab be=>?_) (λab be=>?_)
 ·replace be:=di be;refine aF ⟨_,rfl,.inl ab⟩ rfl ?_;refine aF ⟨_,rfl,.inl (ae ab)⟩ rfl ?_;refine aF ⟨_,rfl,.inl (ag ab)⟩ rfl ?_;refine aF ⟨_,rfl,.inl (ae (ag ab))⟩ rfl ?_;refine aF ⟨_,rfl,.inl (aj ab)⟩ rfl ?_;refine aF ⟨_,rfl,.inl (ae (aj ab))⟩ rfl ?_;refine aF ⟨_,rfl,.inl (ag (aj ab))⟩ rfl ?_;refine ar (bD (ae (ag (aj ab))) ay) rfl<|ar (al aa) rfl<|aF ⟨_,rfl,.inl aa⟩ rfl ?_
  refine aF ⟨_,rfl,.inl (ae aa)⟩ rfl ?_;refine aF ⟨_,rfl,.inl (ag aa)⟩ rfl ?_;refine aF ⟨_,rfl,.inl (ae (ag aa))⟩ rfl ?_;refine aF ⟨_,rfl,.inl (aj aa)⟩ rfl ?_;refine aF ⟨_,rfl,.inl (ae (aj aa))⟩ rfl ?_;refine aF ⟨_,rfl,.inl (ag (aj aa))⟩ rfl ?_;refine ar (bD (ae (ag (aj aa))) ay) rfl<|ar (al aa) rfl<|aF ⟨_,rfl,.inl aa⟩ rfl ?_
  refine aF ⟨_,rfl,.inl (ae aa)⟩ rfl ?_;refine aF ⟨_,rfl,.inl (ag aa)⟩ rfl ?_;refine aF ⟨_,rfl,.inl (ae (ag aa))⟩ rfl ?_;refine aF ⟨_,rfl,.inl (aj aa)⟩ rfl ?_;refine aF ⟨_,rfl,.inl (ae (aj aa))⟩ rfl ?_;refine aF ⟨_,rfl,.inl (ag (aj aa))⟩ rfl ?_;refine ar (bD (ae (ag (aj aa))) ay) rfl<|bJ (aJ (aJ ap)) (aJ (aJ av)) aa ?_;clear ab ap av;intro fh eB eC dq
  refine ao<|lG dq<|au<|at_<|ar (aB ay) rfl<|aY aa ?_;clear eB eC dq;intro fi dt
  refine ao<|bg<|bS<|bL bm ai (bc dt) (.ro _ rfl) ?_
  clear dt aO aQ cd
  (simp at*;done)
 replace be:=dm be;refine aG (aI dN rfl (ag (aj ap))) ⟨_,rfl,ab⟩ rfl ?_;refine aG (ax (aH tB rfl aQ aa az) ek) ⟨_,rfl,(ae ab)⟩ rfl ?_;refine aG (ax (ca aa rfl tu.1) b7) ⟨_,rfl,(ag ab)⟩ rfl ?_;refine aG (aI dN rfl (ae (aA av))) ⟨_,rfl,(ae (ag ab))⟩ rfl ?_;refine aG (ax (aH tB rfl aO aa az) ek) ⟨_,rfl,(aj ab)⟩ rfl ?_;refine aG (ax (ca aa rfl tu.1) b7) ⟨_,rfl,(ae (aj ab))⟩ rfl ?_;refine aG (dB (ae (ag aa)) aa) ⟨_,rfl,(ag (aj ab))⟩ rfl ?_;refine ar (bG (ae (ag (aj ab))) aa) rfl<|ar (al aa) rfl<|bQ aa (λaf bk=>?_) (λaf bk=>?_)
 ·replace bk:=dR bk;exfalso;omega
 replace bk:=dp bk;refine aG (aI dO rfl (ae (ag (aj (aA ap))))) ⟨_,rfl,af⟩ rfl ?_;refine aG (ax (aH tC rfl aQ aa az) ek) ⟨_,rfl,(ae af)⟩ rfl ?_;refine aG (ax (ca aa rfl tw.1) b7) ⟨_,rfl,(ag af)⟩ rfl ?_;refine aG (aI dO rfl (ag (aJ av))) ⟨_,rfl,(ae (ag af))⟩ rfl ?_;refine aG (ax (aH tC rfl aO aa az) ek) ⟨_,rfl,(aj af)⟩ rfl ?_;refine aG (ax (ca aa rfl tw.1) b7) ⟨_,rfl,(ae (aj af))⟩ rfl ?_;refine aG (dB (ae (ag aa)) aa) ⟨_,rfl,(ag (aj af))⟩ rfl ?_;refine ar (bG (ae (ag (aj af))) aa) rfl<|ar (al aa) rfl<|bQ aa (λam bv=>?_) (λam bv=>?_)
 ·replace bv:=dR bv;exfalso;omega
 replace bv:=dp bv;refine aG (aI eW rfl (aA (aJ ap))) ⟨_,rfl,am⟩ rfl ?_;refine aG (ax (aH tD rfl aQ aa az) ek) ⟨_,rfl,(ae am)⟩ rfl ?_;refine aG (ax (ca aa rfl tz.1) b7) ⟨_,rfl,(ag am)⟩ rfl ?_;refine aG (aI eW rfl (ae (ag (aA (aJ av))))) ⟨_,rfl,(ae (ag am))⟩ rfl ?_;refine aG (ax (aH tD rfl aO aa az) ek) ⟨_,rfl,(aj am)⟩ rfl ?_;refine aG (ax (ca aa rfl tz.1) b7) ⟨_,rfl,(ae (aj am))⟩ rfl ?_;refine aG (dB (ae (ag aa)) aa) ⟨_,rfl,(ag (aj am))⟩ rfl ?_;refine ar (bG (ae (ag (aj am))) aa) rfl<|bJ (aJ (aJ ap)) (aJ (aJ av)) aa ?_;clear am ab af ap av;intro fj du dv dw
 refine ao<|bj dw (λbw=>?_) (λbw=>?_)
 ·replace bw:=dR bw;exfalso;omega
 replace bw:=dp bw;refine bC<|ao<|au<|au<|at_<|ar (aB ay) rfl<|bJ (ae du) (ae dv) aa ?_;clear du dv dw;intro dx dy dz eE
 refine ao<|bV<|eu (S:=Int) (λi e mem=>(ak e (.tmp 5)= .v (.int .i64 i))/\(ak e (.tmp 2)=ak dx (.tmp 2))/\(ak e (.tmp 3)=ak dx (.tmp 3))/\(mem[1]? =dn[1]?)/\(mem[0]? =dn[0]?)/\(mem.length=2)/\((0<=i/\i<=l.js.length))) (λi=>(l.js.length - i).toNat) _ ⟨eE,rfl,rfl,rfl,rfl,cd,?_⟩ ?_
 ·(exact⟨ah,ah⟩)
 ·rintro i fk dA ⟨cu,eF,eG,eJ,eK,cx,hinv⟩;have cy:=eF.trans dy;have dD:=eG.trans dz;have bx:=eJ.trans aO;have aS:=eK.trans aQ
  (obtain⟨p1,p2⟩:=hinv)
  refine au<|au<|at_<|ar (al cu) rfl<|ar (aI dN rfl (ae cy)) rfl<|ar (ax (aH tB rfl aS aa az) ek) rfl ?_
  refine ar (ax (ca aa rfl tu.1) b7) rfl ?_;refine ar (cU (ae (ag aa)) aa) rfl<|bp (ae (aj cy)) (ae (aj dD)) (ae (aj cu)) aa ?_;clear cy dD cu;intro fl bA bB bE cz
  refine ao<|bj cz (λbH=>?_) (λbH=>?_)
  ·replace bH:=bt bH;refine bC<|ao<|au<|bV<|au<|dZ 11 ai ai ai ai ?_
   refine dr (aI dN rfl bA) rfl<|dr (ax (aH tB rfl aS aa az) ek) rfl ?_
   refine dr (al (ag bE)) rfl<|dr (ax (cP tu (ae aa) aa ah (by(refine cO ?_;omega))) ek) rfl ?_
   refine dr (ax (bF Hh rfl aa az) ek) rfl ?_;refine dr (aI dN rfl (ae (aj bB))) rfl<|dr (ax (aH tB rfl bx aa az) ek) rfl ?_
   refine dr (al (ae (ag (aj bE)))) rfl<|dr (ax (cP tu (ae aa) aa ah (by(refine cO ?_;omega))) ek) rfl ?_
   refine dr (ax (bF Hh rfl aa az) ek) rfl ?_;refine dr (EL (ae (aj aa)) aa rfl rfl SA SB aD) rfl ?_;refine dC<|bp (ae (ag (aA bA))) (ae (ag (aA bB))) (ae (ag (aA bE))) aa ?_;clear bA bB cz bE;intro fm cA cC cD cE
   refine ao<|bj cE (λbI=>?_) (λbI=>?_)
   ·replace bI:=di bI;refine au<|at_<|ar (aB ay) rfl<|aY aa ?_;clear cA cC cE cD;intro fo dE
    refine ao<|bg<|db<|bS<|bS<|db<|bS<|bL bm ai (bc dE) (.ro _ rfl) ?_
    clear dE bx aS cx
    (simp at*;done)
   replace bI:=dm bI;refine bC<|cK<|ao<|at_<|ar (al cD) rfl ?_
   (refine ar (cv aa ay ?_) rfl ?_; · (unfold In64;omega))
   refine ar (aB aa) rfl<|bJ (ae (ag cA)) (ae (ag cC)) aa ?_;clear cA cC cE cD;intro fp eL eN eO
   refine ao<|⟨_,⟨eO,(eL.trans dy.symm),(eN.trans dz.symm),(bx.trans aO.symm),(aS.trans aQ.symm),cx,?_⟩,?_⟩
   ·(exact⟨ah,ah⟩)
   ·((try dsimp only);omega)
  replace bH:=bf bH;refine dV<|cB<|cB<|dU<|ao<|au<|au<|at_<|ar (aB ay) rfl<|bJ (ae bA) (ae bB) aa ?_;clear bA bB cz bE;intro dF dG dH eP
  refine ao<|bV<|eu (S:=Int) (λi e mem=>(ak e (.tmp 6)= .v (.int .i64 i))/\(ak e (.tmp 2)=ak dF (.tmp 2))/\(ak e (.tmp 3)=ak dF (.tmp 3))/\(mem[1]? =dA[1]?)/\(mem[0]? =dA[0]?)/\(mem.length=2)/\((0<=i/\i<=l.bs.length))) (λi=>(l.bs.length - i).toNat) _ ⟨eP,rfl,rfl,rfl,rfl,cx,?_⟩ ?_
  ·(exact⟨ah,ah⟩)
  ·rintro i fq dI ⟨cH,eQ,eR,eS,eT,cI,hinv⟩;have cJ:=eQ.trans dG;have dJ:=eR.trans dH;have bM:=eS.trans bx;have aT:=eT.trans aS
   (obtain⟨p1,p2⟩:=hinv)
   refine au<|au<|at_<|ar (al cH) rfl<|ar (aI dO rfl (ae cJ)) rfl<|ar (ax (aH tC rfl aT aa az) ek) rfl ?_
   refine ar (ax (ca aa rfl tw.1) b7) rfl ?_;refine ar (cU (ae (ag aa)) aa) rfl<|bp (ae (aj cJ)) (ae (aj dJ)) (ae (aj cH)) aa ?_;clear cJ dJ cH;intro fs bO bT bW cL
   refine ao<|bj cL (λbY=>?_) (λbY=>?_)
   ·replace bY:=bt bY;refine bC<|ao<|au<|bV<|au<|dZ 11 ai ai ai ai ?_
    refine dr (aI dO rfl bO) rfl<|dr (ax (aH tC rfl aT aa az) ek) rfl ?_
    refine dr (al (ag bW)) rfl<|dr (ax (cP tw (ae aa) aa ah (by(refine cO ?_;omega))) ek) rfl ?_
    refine dr (ax (bF Hj rfl aa az) ek) rfl ?_;refine dr (aI dO rfl (ae (aj bT))) rfl<|dr (ax (aH tC rfl bM aa az) ek) rfl ?_
    refine dr (al (ae (ag (aj bW)))) rfl<|dr (ax (cP tw (ae aa) aa ah (by(refine cO ?_;omega))) ek) rfl ?_
    refine dr (ax (bF Hj rfl aa az) ek) rfl ?_;refine dr (EL (ae (aj aa)) aa rfl rfl SC SD aD) rfl ?_;refine dC<|bp (ae (ag (aA bO))) (ae (ag (aA bT))) (ae (ag (aA bW))) aa ?_;clear bO bT cL bW;intro ft cM cN cQ cR
    refine ao<|bj cR (λbZ=>?_) (λbZ=>?_)
    ·replace bZ:=di bZ;refine au<|at_<|ar (aB ay) rfl<|aY aa ?_;clear cM cN cQ cR;intro fu dM
     refine ao<|bg<|db<|bS<|bS<|db<|bS<|bL bm ai (bc dM) (.ro _ rfl) ?_
     clear dM bM aT cI
     (simp at*;done)
    replace bZ:=dm bZ;refine bC<|cK<|ao<|at_<|ar (al cQ) rfl ?_
    (refine ar (cv aa ay ?_) rfl ?_; · (unfold In64;omega))
    refine ar (aB aa) rfl<|bJ (ae (ag cM)) (ae (ag cN)) aa ?_;clear cM cN cQ cR;intro fx eU eV eX
    refine ao<|⟨_,⟨eX,(eU.trans dG.symm),(eV.trans dH.symm),(bM.trans bx.symm),(aT.trans aS.symm),cI,?_⟩,?_⟩
    ·(exact⟨ah,ah⟩)
    ·((try dsimp only);omega)
   replace bY:=bf bY;refine dV<|cB<|cB<|dU<|ao<|au<|au<|at_<|ar (aB ay) rfl<|bJ (ae bO) (ae bT) aa ?_;clear bO bT cL bW;intro dP dQ dW eY
   refine ao<|bV<|eu (S:=Int) (λi e mem=>(ak e (.tmp 7)= .v (.int .i64 i))/\(ak e (.tmp 2)=ak dP (.tmp 2))/\(ak e (.tmp 3)=ak dP (.tmp 3))/\(mem[1]? =dI[1]?)/\(mem[0]? =dI[0]?)/\(∃ n,mem.length=n/\2<=n)/\((0<=i/\i<=l.ss.length))) (λi=>(l.ss.length - i).toNat) _ ⟨eY,rfl,rfl,rfl,rfl,⟨_,cI,Xf _⟩,?_⟩ ?_
   ·(exact⟨ah,ah⟩)
   ·rintro i fy fz ⟨cT,eZ,e0,e3,e4,⟨a2,a3,fA⟩,hinv⟩;have cV:=eZ.trans dQ;have dX:=e0.trans dW;have cW:=e3.trans bM;have ce:=e4.trans aT
    (obtain⟨p1,p2⟩:=hinv;have hso:=hl.at i.toNat)
    refine au<|au<|at_<|ar (al cT) rfl<|ar (aI eW rfl (ae cV)) rfl<|ar (ax (aH tD rfl ce aa az) ek) rfl ?_
    refine ar (ax (ca aa rfl tz.1) b7) rfl ?_;refine ar (cU (ae (ag aa)) aa) rfl<|bp (ae (aj cV)) (ae (aj dX)) (ae (aj cT)) aa ?_;clear cV dX cT;intro fB cf cg b0 cX
    refine ao<|bj cX (λb1=>?_) (λb1=>?_)
    ·replace b1:=bt b1;refine bC<|ao<|au<|bV<|au<|fZ 13 2 a3 ai ai ai ai (λdY a5=>?_)
     have cY:=bz a5 cW;have c6:=bz a5 ce;have c7:dY[a2]? =_:=fS a5 a3 0 rfl rfl;have ea:dY[a2+1]? =_:=fS a5 a3 1 rfl rfl;have e5:_=a2+2:=ga (K:=2) a5 a3;clear a5 cW ce a3;refine aR (λM_ hM_=>(aI eW rfl cf)) trivial ?_;refine cG (0) (λM_ hM_=>(ax (aH tD rfl (cn hM_ c6 aN) aa az) ek)) trivial trivial ?_;refine aR (λM_ hM_=>(al (ag b0))) trivial ?_;refine aR (λM_ hM_=>(ax (cP tz (ae aa) aa ah (by(refine cO ?_;omega))) ek)) trivial ?_;refine aR (λM_ hM_=>(ax (bF Hk rfl aa az) ek)) trivial ?_;refine aR (λM_ hM_=>(aI eW rfl (ae (aj cg)))) trivial ?_;refine cG (1) (λM_ hM_=>(ax (aH tD rfl (cn hM_ cY aN) aa az) ek)) trivial trivial ?_;refine aR (λM_ hM_=>(al (ae (ag (aj b0))))) trivial ?_;refine aR (λM_ hM_=>(ax (cP tz (ae aa) aa ah (by(refine cO ?_;omega))) ek)) trivial ?_;refine aR (λM_ hM_=>(ax (bF Hk rfl aa az) ek)) trivial ?_;refine kL (a2) (λM_ hM_=>(nv nM rfl)) trivial c7 rfl trivial ⟨.inl bo,⟨.inl bo,trivial⟩⟩ (λfC a6=>?_);have c9:=aZ a6 c7;simp only [pS,Value.cells,Nat.reduceAdd,bX,cF,ct]at c9;have eb:=aw a6 cY ah;have ec:=aw a6 c6 ah;have da:=aw a6 ea ah;have e6:=aX a6 e5;clear a6 cY c6 c7 ea;refine kL (a2+1) (λM_ hM_=>(nv nM rfl)) trivial da rfl ⟨.inl bo,trivial⟩ ⟨.inl bo,⟨.inl bo,⟨.inl bo,trivial⟩⟩⟩ (λfD a7=>?_);have dc:=aZ a7 da;simp only [pS,Value.cells,Nat.reduceAdd,bX,cF,ct]at dc;have dd:=aw a7 c9 ah;have ed:=aw a7 eb ah;have ee:=aw a7 ec ah;have e7:=aX a7 e6;clear a7 c9 eb ec da;refine oZ (a2) (λM_ hM_=>(nw (ae aa) (ae (ag (aj aa))) rfl rfl (cn hM_ dd aN) nN rfl az)) trivial ⟨.inr (gV 12 10 ai),⟨.inl bo,trivial⟩⟩ ⟨.inl bo,⟨.inl bo,⟨.inr (gV 12 10 ai),⟨.inl bo,trivial⟩⟩⟩⟩ (λfE a8=>?_);have de:=aZ a8 dd;simp only [pS,Value.cells,Nat.reduceAdd,bX,cF,ct]at de;have df:=aw a8 dc ah;have ef:=aw a8 ed ah;have eg:=aw a8 ee ah;have e8:=aX a8 e7;clear a8 dc dd ed ee;refine gn rfl ?_;refine aL (bP (aC aa) (aC (ag aa)) rfl rfl df nN rfl az) trivial rfl (λfG a9=>?_);have b2:=aZ a9 df;simp only [pS,Value.cells,Nat.reduceAdd,bX,cF,ct]at b2;have ci:=aw a9 de ah;have eh:=aw a9 ef ah;have ei:=aw a9 eg ah;have ej:=aX a9 e8;clear a9 de df ef eg;refine bR (aC (aC (aj (aA cf)))) (aC (aC (aj (aA cg)))) (aC (aC (aj (aA b0)))) (aC (aC (ae aa))) (aC (aC aa)) ?_;clear cf cg b0 cX;intro fH cj ck cm b6 b8;refine ao<|au<|at_<|ar (aI mN rfl b6) rfl<|ar (ax (aH xe rfl ci aa az) ek) rfl ?_
     refine ar (aI mN rfl (ag b8)) rfl<|ar (ax (aH xe rfl b2 aa az) ek) rfl ?_
     refine ar (eD (ag aa) aa) rfl<|ar (al aa) rfl<|bQ aa (λad b9=>?_) (λad b9=>?_)
     ·replace b9:=di b9;refine aF ⟨_,rfl,.inl ad⟩ rfl ?_;refine aF ⟨_,rfl,.inl (ae ad)⟩ rfl ?_;refine aF ⟨_,rfl,.inl (ag ad)⟩ rfl ?_;refine aF ⟨_,rfl,.inl (ae (ag ad))⟩ rfl ?_;refine aF ⟨_,rfl,.inl (aj ad)⟩ rfl ?_;refine ar (bD (ae (aj ad)) ay) rfl<|ar (al aa) rfl<|aF ⟨_,rfl,.inl aa⟩ rfl ?_
      refine aF ⟨_,rfl,.inl (ae aa)⟩ rfl ?_;refine aF ⟨_,rfl,.inl (ag aa)⟩ rfl ?_;refine aF ⟨_,rfl,.inl (ae (ag aa))⟩ rfl ?_;refine aF ⟨_,rfl,.inl (aj aa)⟩ rfl ?_;refine aF ⟨_,rfl,.inl (ae (aj aa))⟩ rfl ?_;refine ar (bD (ag (aj aa)) ay) rfl<|bp (aj (aJ cj)) (aj (aJ ck)) (aj (aJ cm)) aa ?_;clear ad cj ck cm b6 b8;intro fI e9 fa fb en
      refine ao<|lG en<|au<|at_<|ar (aB ay) rfl<|aY aa ?_;clear en e9 fa fb;intro fJ ep
      refine ao<|bg<|db<|bS<|bS<|db<|bS<|bL bm ai (bc ep) (.ro _ rfl) ?_
      clear ep b2 ci eh ei ej
      (simp at*;done)
     replace b9:=dm b9;refine aG (aI jN rfl (ag (aj b6))) ⟨_,rfl,ad⟩ rfl ?_;refine aG (ax (aH xd rfl ci aa az) ek) ⟨_,rfl,(ae ad)⟩ rfl ?_;refine aG (aI jN rfl (aA b8)) ⟨_,rfl,(ag ad)⟩ rfl ?_;refine aG (ax (aH xd rfl b2 aa az) ek) ⟨_,rfl,(ae (ag ad))⟩ rfl ?_;refine aG (dB (ag aa) aa) ⟨_,rfl,(aj ad)⟩ rfl ?_;refine ar (bG (ae (aj ad)) aa) rfl<|ar (al aa) rfl<|bQ aa (λan cb=>?_) (λan cb=>?_)
     ·replace cb:=dR cb;exfalso;omega
     replace cb:=dp cb;refine aG (aI gI rfl (ae (aj (aA b6)))) ⟨_,rfl,an⟩ rfl ?_;refine aG (ax (aH Hi rfl ci aa az) ek) ⟨_,rfl,(ae an)⟩ rfl ?_;refine aG (aI gI rfl (ae (ag (aj (aA b8))))) ⟨_,rfl,(ag an)⟩ rfl ?_;refine aG (ax (aH Hi rfl b2 aa az) ek) ⟨_,rfl,(ae (ag an))⟩ rfl ?_;refine aG (bh (aE (ag aa) (aE aa aM)) rfl ((O5 _ _ ah ah).mono (λq h=>show q=dK true from h.trans aN)) O3) ⟨_,rfl,(aj an)⟩ rfl ?_;refine aG (c8 aa) ⟨_,rfl,(ae (aj an))⟩ rfl ?_;refine ar (bG (ag (aj an)) aa) rfl<|bp (aj (aJ cj)) (aj (aJ ck)) (aj (aJ cm)) aa ?_;clear ad an cj ck cm b6 b8;intro fK er ev ew ey
     refine ao<|bj ey (λba=>?_) (λba=>?_)
     ·replace ba:=di ba;cases ba
     replace ba:=dm ba;refine bC<|cK<|ao<|at_<|ar (al ew) rfl ?_
     (refine ar (cv aa ay ?_) rfl ?_; · (unfold In64;omega))
     refine ar (aB aa) rfl<|bJ (ae (ag er)) (ae (ag ev)) aa ?_;clear ey er ev ew;intro fL fc fd fe
     refine ao<|⟨_,⟨fe,(fc.trans dQ.symm),(fd.trans dW.symm),(eh.trans bM.symm),(ei.trans aT.symm),⟨_,ej,ah⟩,?_⟩,?_⟩
     ·(exact⟨ah,ah⟩)
     ·((try dsimp only);omega)
    replace b1:=bf b1;refine dV<|cB<|cB<|dU<|ao<|au<|at_<|ar (aB ay) rfl<|aY aa ?_;clear cf cg b0 cX;intro fO ez
    refine ao<|bg<|bL bm ai (bc ez) (.ro _ rfl) ?_
    clear ez cW ce a3;rfl
end Go.Proofs.YtbmlgmblfboigaaGreatDoor
namespace Go.Proofs.YtbmlgmblfboigaaGreatDoor
open Go Go.RowKit Go.Proofs Go.Shelf Go.Lib
section
variable (es er:Value) (hes:e8 es) (her:e8 er)
include hes her
theorem LM{l:aP}(hg:(cx l).2=0):iH Tryz.prog (gX es er) 7 [.v (.string (bs (ow l)))] (λq=>q=fw ⟨l,0,0,0⟩):=by
 have hR:=kJ hg;have h1:=xc hR l.ss.length (Xf _);have h2:=hR.s1;have h3:=hR.js;have h4:=hR.n1;have:=O2 es er hes her (ow l) (by unfold ow;omega);rw [OU hg]at this;exact this
end
end Go.Proofs.YtbmlgmblfboigaaGreatDoor
namespace Go.Proofs.YtbmlgmblfboigaaGreatDoor
open Go Go.RowKit Go.Proofs Go.Shelf Go.Lib
theorem SE:(Tryz.prog.info? 54).bind (·.zero)=some (.agg #[.int .i64 0,.int .i64 0,.int .i64 0,.int .i64 0]):=by kernel_rfl
theorem SG:(Tryz.prog.info? 68).bind (·.zero)=some (.agg #[.int .i64 0,.int .i64 0]):=by kernel_rfl
theorem SH:Tryz.prog.underlying 68=some (.array 2 3):=by kernel_rfl
theorem SI:(Tryz.prog.info? 3).map (·.size)=some 1:=by kernel_rfl
theorem SJ:(Tryz.prog.info? 44).bind (·.zero)=some (.agg #[.int .i64 0,.int .i64 0,.int .i64 0]):=by kernel_rfl
theorem SK:Tryz.prog.underlying 44=some (.struct (eP Tryz.prog 44)):=by kernel_rfl
theorem SL:∀ w,((eP Tryz.prog 44).mapM λf=>Prod.mk f.offset<$>sizeOf f.type:Sem (Array (Nat×Nat))).run Tryz.prog w= .ok (#[(0,1),(1,1),(2,1)]) w:=λ_=>by kernel_rfl
theorem yQ:cj Tryz.prog 54 0 0 false 1:=by unfold cj;kernel_rfl
theorem yR:cj Tryz.prog 54 1 1 true 2:=by unfold cj;kernel_rfl
theorem vr:∀ args w,(callFunc 10 args).run Tryz.prog w= .ok (.enter 10 args) w:=λ_ _=>by kernel_rfl
theorem O7:∀ args w,(callFunc 11 args).run Tryz.prog w= .ok (.enter 11 args) w:=λ_ _=>by kernel_rfl
theorem s9:∀ args w,(callFunc 12 args).run Tryz.prog w= .ok (.enter 12 args) w:=λ_ _=>by kernel_rfl
theorem vt:∀ args w,(callFunc 13 args).run Tryz.prog w= .ok (.enter 13 args) w:=λ_ _=>by kernel_rfl
theorem vu:∀ args w,(callFunc 15 args).run Tryz.prog w= .ok (.enter 15 args) w:=λ_ _=>by kernel_rfl
theorem Ez:∀ args w,(callFunc 16 args).run Tryz.prog w= .ok (.enter 16 args) w:=λ_ _=>by kernel_rfl
theorem O8:∀ args w,(callFunc 17 args).run Tryz.prog w= .ok (.enter 17 args) w:=λ_ _=>by kernel_rfl
theorem zl:∀ args w,(callFunc 18 args).run Tryz.prog w= .ok (.enter 18 args) w:=λ_ _=>by kernel_rfl
theorem O9:∀ args w,(callFunc 19 args).run Tryz.prog w= .ok (.enter 19 args) w:=λ_ _=>by kernel_rfl
theorem Pe:∀ args w,(callFunc 21 args).run Tryz.prog w= .ok (.enter 21 args) w:=λ_ _=>by kernel_rfl
theorem EA:∀ args w,(callFunc 23 args).run Tryz.prog w= .ok (.enter 23 args) w:=λ_ _=>by kernel_rfl
theorem Pg:∀ args w,(callFunc 24 args).run Tryz.prog w= .ok (.enter 24 args) w:=λ_ _=>by kernel_rfl
theorem Ph:∀ args w,(callFunc 25 args).run Tryz.prog w= .ok (.enter 25 args) w:=λ_ _=>by kernel_rfl
theorem SN:∀ args w,(callFunc 7 args).run Tryz.prog w= .ok (.enter 7 args) w:=λ_ _=>by kernel_rfl
theorem SO:∀ args w,(callFunc 9 args).run Tryz.prog w= .ok (.enter 9 args) w:=λ_ _=>by kernel_rfl
theorem wj:bO Tryz.prog 23 59 4 32 (.agg #[.int .i64 0,.int .i64 0,.int .i64 0,.int .i64 0]):=⟨ai,ai,ai⟩
theorem zU:bO Tryz.prog 45 54 4 32 (.agg #[.int .i64 0,.int .i64 0,.int .i64 0,.int .i64 0]):=⟨ai,ai,ai⟩
theorem SQ:(Tryz.prog.info? 54).map (·.size)=some 4:=by kernel_rfl
theorem wm:aQ Tryz.prog 23 false 1:=⟨ai,ai⟩
theorem gG:aQ Tryz.prog 27 true 4:=⟨ai,ai⟩
theorem mQ:aQ Tryz.prog 3 false 1:=⟨ai,ai⟩
theorem tG:aQ Tryz.prog 44 true 3:=⟨ai,ai⟩
theorem Hl:aQ Tryz.prog 48 true 2:=⟨ai,ai⟩
theorem SR:aQ Tryz.prog 54 true 4:=⟨ai,ai⟩
theorem SS:aQ Tryz.prog 59 true 4:=⟨ai,ai⟩
theorem vd:bN Tryz.prog 15 [] (λq=>q=dK true):=by
 refine cw (fn:=Tryz.f15) 32 ai rfl ai aU ?_;intro a2 aS hA aI;have ap:aS.length=0:=by rw [aI];rfl
 clear hA aI;refine au<|at_<|ar (aB ay) rfl<|nh ?_;intro a3
 refine ao<|au<|at_<|ar (bh aM rfl (Ij) EA) rfl<|ar (bh (aE aa (aE ay (aE ay aM))) rfl (Us) Pg) rfl<|ar (al aa) rfl<|ar (cI aa rfl) rfl<|ar (cI (ae aa) rfl) rfl<|ar (aB (ae aa)) rfl<|ar (aB (ae aa)) rfl<|bq (ae aa) aa ?_;intro a5 aJ aK
 refine ao<|au<|at_<|ar (bh aM rfl (Ij) EA) rfl<|ar (dq (bB ay (bB ay (bB ay b8))) SJ SK SL rfl) rfl ?_
 refine ar (yU (bB ay (bB ay b8)) SG SH SI rfl) rfl ?_;refine ar (bh (aE (ag aa) (aE (ae aa) (aE aa aM))) rfl (Ut) Ph) rfl<|ar (al aa) rfl<|ar (cI aa rfl) rfl<|ar (cI (ae aa) rfl) rfl<|aL (cy qE rfl ap) trivial rfl (λa6 av=>?_)
 have an:=bu av ap;simp only [pS,Value.cells,Nat.reduceAdd]at an;have aw:=br av ap;have aw:_=1:=aw;clear av;refine aL (bP aa (ag aa) rfl rfl an m8 rfl az) trivial rfl (λa7 aD=>?_);have aF:=aZ aD an;simp only [pS,Value.cells,Nat.reduceAdd]at aF;have aT:=aX aD aw;clear aD an;refine ar (aB (aC (ae aa))) rfl<|bp (ae (aC (aA aJ))) (ae (aC (aA aK))) (ae (aC aa)) aa ?_;clear aJ aK;intro a8 aN aO aP aQ
 refine ao<|au<|at_<|ar (al aO) rfl<|ar (e6 aa ay) rfl ?_
 refine ar (al aa) rfl<|bQ aa (λad af=>?_) (λad af=>?_)
 ·replace af:=bt af;refine aG (al (ae (ag aN))) ⟨_,rfl,ad⟩ rfl ?_;refine aG (e6 aa ay) ⟨_,rfl,(ae ad)⟩ rfl ?_;refine ar (bD (ag ad) aa) rfl<|ar (al aa) rfl<|bQ aa (λah ak=>?_) (λah ak=>?_)
  ·replace ak:=bt ak;refine aG (al (ae (ag (aj aQ)))) ⟨_,rfl,ah⟩ rfl ?_;refine aG (e6 aa ay) ⟨_,rfl,(ae ah)⟩ rfl ?_;refine ar (bD (ag ah) aa) rfl<|ar (al aa) rfl<|bQ aa (λab am=>?_) (λab am=>?_)
   ·replace am:=bt am;refine aG (ax (aH Hl rfl aF (ae (ag (aA aP))) az) bk) ⟨_,rfl,ab⟩ rfl ?_;refine aG (dq (bB ay (bB ay b8)) o9 o8 o7 rfl) ⟨_,rfl,(ae ab)⟩ rfl ?_;refine aG (Tc (ae aa) aa (xs:= [.int .i64 (-38),.int .i64 (-37)]) (ys:= [.int .i64 (-38),.int .i64 (-37)]) (b:=true) ⟨rfl,ai,λ_=>by kernel_rfl⟩) ⟨_,rfl,(ag ab)⟩ rfl ?_;refine ar (bD (ae (ag ab)) aa) rfl<|ar (aB aa) rfl<|aY aa ?_;clear ad ah ab aN aO aP aQ;intro a9 aR
    refine ao<|bg<|bL bm ai (bc aR) (.ro _ rfl) ?_
    clear aR aF aT;rfl
   ·replace am:=bf am;exfalso;omega
  ·replace ak:=bf ak;exfalso;omega
 ·replace af:=bf af;exfalso;omega
structure yt where
 n:Int
 a:Int
 b:Int
 y:Int
deriving Inhabited
def svE(x:yt):List AV:= [mA x.n,mA x.a,mA x.b,mA x.y]
section
variable (es er:Value) (hes:e8 es) (her:e8 er)
include hes her
theorem KN(l:aP)(L c u:Int)(xs:List yt):iH Tryz.prog (gX es er) 5 [dL l,mz L c u,.row 4 (xs.map svE)] (λq=>q=bA true):=by
 cases hf:qT l with
 | false=>
  refine tf (fn:=Tryz.f5) (gX es er) 212 ai rfl ai aU ?_;intro aS bv hA aT;have bw:ak aS (.tmp 0)=_:=hA 0 _ rfl;have bx:ak aS (.tmp 1)=_:=hA 1 _ rfl;have bB:ak aS (.tmp 2)=_:=hA 2 _ rfl;have a5:bv.length=1:=by rw [aT];rfl
  have bE:bv[0]? =some (.bT (gX es er)):=by rw [aT];rfl
  clear hA aT;refine au<|at_<|aL (cZ bw rfl a5) trivial rfl (λfh ap=>?_)
  have bH:=bu ap a5;have bI:=aK ap bE;have ab:=br ap a5;have ab:_=2:=ab;clear ap bE;refine aL (cZ (ae bx) rfl ab) trivial rfl (λfi ad=>?_);have a8:=bu ad ab;have aO:=aK ad bH;have b9:=aK ad bI;have am:=br ad ab;have am:_=3:=am;clear ad bH bI;refine ar (aB ay) rfl<|bJ (ae (ag bB)) (ag aa) (ae aa) ?_;clear bw bx bB;intro fj bM bN bO
  refine ao<|au<|au<|at_<|ar (bh aM rfl (vd) vu) rfl<|ar (c8 aa) rfl<|bp (ag bM) (ag bN) (ag bO) aa ?_;clear bM bN bO;intro fk a6 af aQ bb
  refine ao<|bj bb (λav=>?_) (λav=>?_)
  ·cases av
  replace av:=dm av;refine bC<|ao<|au<|au<|dZ 26 ai ai ai ai ?_
  refine dr (ax (aH gG rfl aO af az) bk) rfl ?_;refine dr (bh (aE aa aM) rfl ((wQ l).mono (λq h=>show q=dK false from h.trans (by rw [hf]))) vr) rfl ?_;refine dr (c8 aa) rfl<|dr (al aa) rfl<|gh aa (λan a7=>?_) (λan a7=>?_)
  ·replace a7:=di a7;refine bW ⟨_,rfl,.inl an⟩ rfl ?_;refine bW ⟨_,rfl,.inl (ae an)⟩ rfl ?_;refine bW ⟨_,rfl,.inl (ag an)⟩ rfl ?_;refine dr (bD (ae (ag an)) ay) rfl<|dr (al aa) rfl<|bW ⟨_,rfl,.inl aa⟩ rfl ?_
   refine bW ⟨_,rfl,.inl (ae aa)⟩ rfl ?_;refine bW ⟨_,rfl,.inl (ag aa)⟩ rfl ?_;refine dr (bD (ae (ag aa)) ay) rfl<|dr (al aa) rfl<|bW ⟨_,rfl,.inl aa⟩ rfl ?_
   refine bW ⟨_,rfl,.inl (ae aa)⟩ rfl ?_;refine bW ⟨_,rfl,.inl (ag aa)⟩ rfl ?_;refine bW ⟨_,rfl,.inl (ae (ag aa))⟩ rfl ?_;refine bW ⟨_,rfl,.inl (aj aa)⟩ rfl ?_;refine bW ⟨_,rfl,.inl (ae (aj aa))⟩ rfl ?_;refine dr (bD (ag (aj aa)) ay) rfl<|dr (al aa) rfl<|bW ⟨_,rfl,.inl aa⟩ rfl ?_
   refine bW ⟨_,rfl,.inl (ae aa)⟩ rfl ?_;refine bW ⟨_,rfl,.inl (ag aa)⟩ rfl ?_;refine dr (bD (ae (ag aa)) ay) rfl<|dC<|bp (ag (aA (aJ a6))) (ag (aA (aJ af))) (ag (aA (aJ aQ))) aa ?_;clear an bb a6 af aQ;intro nd k4 k5 k6 gL
   refine ao<|lG gL<|au<|at_<|ar (aB ay) rfl<|aY aa ?_;clear k4 k5 k6 gL;intro nf gM
   refine ao<|bg<|bS<|bL bm ai (bc gM) (.ro _ rfl) ?_
   clear gM a8 aO b9 am
   first|rfl|(simp_all;done)
  ·cases a7
 | true=>
  have hl:=Qw hf
  by_cases hg:(cx l).2=0
  ·by_cases hv:gB L c u=0
   ·obtain⟨a1,b1,d1,e1,hu1⟩:=AA l L (iq l L c u);refine tf (fn:=Tryz.f5) (gX es er) 212 ai rfl ai aU ?_;intro aS bv hA aT;have bw:ak aS (.tmp 0)=_:=hA 0 _ rfl;have bx:ak aS (.tmp 1)=_:=hA 1 _ rfl;have bB:ak aS (.tmp 2)=_:=hA 2 _ rfl;have a5:bv.length=1:=by rw [aT];rfl
    have bE:bv[0]? =some (.bT (gX es er)):=by rw [aT];rfl
    clear hA aT;have hr:=kJ hg;have hn1:=hr.n1;have hn0:=hr.n0;have hjs:=hr.js;have hv2:=uv.1 hv;have hpb:=hr.nq (n:=l.bs.length) (Xf _);have hor:=Bw (iq l L c u);refine au<|at_<|aL (cZ bw rfl a5) trivial rfl (λfh ap=>?_)
    have bH:=bu ap a5;have bI:=aK ap bE;have ab:=br ap a5;have ab:_=2:=ab;clear ap bE;refine aL (cZ (ae bx) rfl ab) trivial rfl (λfi ad=>?_);have a8:=bu ad ab;have aO:=aK ad bH;have b9:=aK ad bI;have am:=br ad ab;have am:_=3:=am;clear ad bH bI;refine ar (aB ay) rfl<|bJ (ae (ag bB)) (ag aa) (ae aa) ?_;clear bw bx bB;intro fj bM bN bO
    refine ao<|au<|au<|at_<|ar (bh aM rfl (vd) vu) rfl<|ar (c8 aa) rfl<|bp (ag bM) (ag bN) (ag bO) aa ?_;clear bM bN bO;intro fk a6 af aQ bb
    refine ao<|bj bb (λav=>?_) (λav=>?_)
    ·cases av
    replace av:=dm av;refine bC<|ao<|au<|au<|dZ 26 ai ai ai ai ?_
    refine dr (ax (aH gG rfl aO af az) ec) rfl ?_;refine dr (bh (aE aa aM) rfl ((wQ l).mono (λq h=>show q=dK true from h.trans (by rw [hf]))) vr) rfl ?_;refine dr (c8 aa) rfl<|dr (al aa) rfl<|gh aa (λcM ee=>?_) (λcM ee=>?_)
    ·cases ee
    replace ee:=dm ee;refine cD (ax (aH gG rfl aO (aj af) az) ec) ⟨_,rfl,cM⟩ rfl ?_;refine cD (bh (aE aa aM) rfl ((vh l hl).mono (λq h=>show q=mA 0 from h.trans (by rw [hg]))) vt) ⟨_,rfl,(ae cM)⟩ rfl ?_;refine cD (dB aa ay) ⟨_,rfl,(ag cM)⟩ rfl ?_;refine dr (bG (ae (ag cM)) aa) rfl<|dr (al aa) rfl<|gh aa (λcN ef=>?_) (λcN ef=>?_)
    ·cases ef
    replace ef:=dp ef;refine cD (ax (aH tG rfl a8 (ae (aA aQ)) az) ec) ⟨_,rfl,cN⟩ rfl ?_;refine cD (bh (aE aa aM) rfl ((CM L c u).mono (λq h=>show q=mA 0 from h.trans (by rw [hv]))) Ez) ⟨_,rfl,(ae cN)⟩ rfl ?_;refine cD (dB aa ay) ⟨_,rfl,(ag cN)⟩ rfl ?_;refine dr (bG (ae (ag cN)) aa) rfl<|dr (al aa) rfl<|gh aa (λcb eg=>?_) (λcb eg=>?_)
    ·cases eg
    replace eg:=dp eg;refine cD (ax (aH gG rfl aO (ag (aj (aA af))) az) ec) ⟨_,rfl,cb⟩ rfl ?_;refine cD (bh (aE aa aM) rfl (Ld l ah hr.len) O8) ⟨_,rfl,(ae cb)⟩ rfl ?_;refine cD (aI tH rfl (aJ aQ)) ⟨_,rfl,(ag cb)⟩ rfl ?_;refine cD (ax (aH mQ rfl a8 aa az) ec) ⟨_,rfl,(ae (ag cb))⟩ rfl ?_;refine cD (A5 (ag aa) aa ah) ⟨_,rfl,(aj cb)⟩ rfl ?_;refine cD (ey aa ay) ⟨_,rfl,(ae (aj cb))⟩ rfl ?_;refine dr (bG (ag (aj cb)) aa) rfl<|dr (al aa) rfl<|gh aa (λbY dl=>?_) (λbY dl=>?_)
    ·replace dl:=bt dl;refine bW ⟨_,rfl,.inl bY⟩ rfl ?_;refine bW ⟨_,rfl,.inl (ae bY)⟩ rfl ?_;refine bW ⟨_,rfl,.inl (ag bY)⟩ rfl ?_;refine dr (bD (ae (ag bY)) ay) rfl<|dC<|bp (ag (aA (aJ a6))) (ag (aA (aJ af))) (ag (aA (aJ aQ))) aa ?_;clear cN cb bY cM bb a6 af aQ;intro ng k7 k8 k9 gN
     refine ao<|lG gN<|au<|at_<|ar (aB ay) rfl<|aY aa ?_;clear k7 k8 k9 gN;intro nh gO
     refine ao<|bg<|bS<|bL bm ai (bc gO) (.ro _ rfl) ?_
     clear gO a8 aO b9 am
     first|rfl|(simp_all;done)
    replace dl:=bf dl;refine cD (al (ag (aj (aJ a6)))) ⟨_,rfl,bY⟩ rfl ?_;refine cD (ax (ca aa rfl zU.1) b7) ⟨_,rfl,(ae bY)⟩ rfl ?_;refine cD (ey aa ay) ⟨_,rfl,(ag bY)⟩ rfl ?_;refine dr (bG (ae (ag bY)) aa) rfl<|dC<|bp (ag (aA (aJ a6))) (ag (aA (aJ af))) (ag (aA (aJ aQ))) aa ?_;clear cN cb bY cM bb a6 af aQ;intro ni fl eh ei fm
    refine ao<|bj fm (λdn=>?_) (λdn=>?_)
    ·replace dn:=bt dn;refine au<|at_<|ar (aB ay) rfl<|aY aa ?_;clear fl eh ei fm;intro nj gP
     refine ao<|bg<|bS<|bL bm ai (bc gP) (.ro _ rfl) ?_
     clear gP a8 aO b9 am
     first|rfl|(simp_all;done)
    replace dn:=bf dn;refine bC<|ao<|au<|fZ 9 1 am ai ai ai ai (λlb c7=>?_)
    have fo:=bz c7 a8;have fp:=bz c7 aO;have gQ:=bz c7 b9;have fq:lb[3]? =_:=fS c7 am 0 rfl rfl;have lc:_=4:=ga (K:=1) c7 am;clear c7 a8 aO b9 am;refine cG (1) (λM_ hM_=>(ax (aH gG rfl (cn hM_ fp aN) eh az) ec)) trivial trivial ?_;refine aR (λM_ hM_=>(bh (aE aa aM) rfl (tl l hl) s9)) trivial ?_;refine cG (2) (λM_ hM_=>(ax (aH tG rfl (cn hM_ fo aN) (ag ei) az) ec)) trivial trivial ?_;refine aR (λM_ hM_=>(bh (aE (ae aa) (aE aa aM)) rfl ((yu l hl hg L c u hv).mono (λq h=>show q= .tuple [.agg [mA a1,mA b1,mA d1,mA e1],mA (mI (iq l L c u))]from h.trans (by rw [hu1]))) zl)) trivial ?_;refine aR (λM_ hM_=>(al aa)) trivial ?_;refine aR (λM_ hM_=>(cI aa rfl)) trivial ?_;refine aR (λM_ hM_=>(cI (ae aa) rfl)) trivial ?_;refine kL (3) (λM_ hM_=>(nv xK rfl)) trivial fq rfl trivial ⟨.inl bo,⟨.inl bo,trivial⟩⟩ (λnk c9=>?_);have ej:=aZ c9 fq;simp only [pS,Value.cells,Nat.reduceAdd,svE,fw]at ej;have gR:=aw c9 fo aD;have gS:=aw c9 fp aD;have gT:=aw c9 gQ aD;have ld:=aX c9 lc;clear c9 fo fp gQ fq;refine oZ (3) (λM_ hM_=>(nw aa (ag aa) rfl rfl (cn hM_ ej aN) uy rfl az)) trivial ⟨.inr (gV 8 7 ai),trivial⟩ ⟨.inl bo,⟨.inl bo,⟨.inr (gV 8 7 ai),trivial⟩⟩⟩ (λlf da=>?_);have fs:=aZ da ej;simp only [pS,Value.cells,Nat.reduceAdd,svE,fw]at fs;have gU:=aw da gR aD;have ft:=aw da gS aD;have gW:=aw da gT aD;have fu:=aX da ld;clear da ej gR gS gT;refine gn rfl ?_;refine ar (aB (aC (ae aa))) rfl<|bp (ae (aC (aA fl))) (ae (aC (aA eh))) (ae (aC (aA ei))) aa ?_;clear fl eh ei fm;intro ek dq dt du cQ
    refine ao<|au<|au<|gl (λe mem=>(ak e (.tmp 66)= .v (.bool false))/\(ak e (.tmp 2)=ak ek (.tmp 2))/\(ak e (.tmp 3)=ak ek (.tmp 3))/\(ak e (.tmp 4)=ak ek (.tmp 4))/\(ak e (.tmp 8)=ak ek (.tmp 8))/\lf=mem) ?_ ?_
    ·
     refine at_<|ar (al cQ) rfl<|ar (dB aa ay) rfl<|ar (al aa) rfl<|bQ aa (λcR dv=>?_) (λcR dv=>?_)
     ·replace dv:=dR dv;refine aG (al (ae (ag cQ))) ⟨_,rfl,cR⟩ rfl ?_;refine aG (dB aa ay) ⟨_,rfl,(ae cR)⟩ rfl ?_;refine ar (bD (ag cR) aa) rfl<|bR (ag (aj dq)) (ag (aj dt)) (ag (aj du)) (ag (aj cQ)) aa ?_;intro nl lg lh li lj lk
      refine ao ⟨(lk).trans (by(first|rfl|(refine cu ?_;simp;omega)|(refine cu ?_;simp_all;done)|(refine cu ?_;simp_all;omega)|(exfalso;simp_all;omega))),(lg).trans (dq).symm,(lh).trans (dt).symm,(li).trans (du).symm,(lj).trans (cQ).symm,rfl⟩
     replace dv:=dp dv;refine aF ⟨_,rfl,.inl cR⟩ rfl ?_;refine aF ⟨_,rfl,.inl (ae cR)⟩ rfl ?_;refine ar (bG (ag cR) ay) rfl<|bR (ag (aj dq)) (ag (aj dt)) (ag (aj du)) (ag (aj cQ)) aa ?_;intro nm ll ln lp lq lr
     refine ao ⟨(lr).trans (by(first|rfl|(refine cu ?_;simp;omega)|(refine cu ?_;simp_all;done)|(refine cu ?_;simp_all;omega)|(exfalso;simp_all;omega))),(ll).trans (dq).symm,(ln).trans (dt).symm,(lp).trans (du).symm,(lq).trans (cQ).symm,rfl⟩
    ·rintro nn _ ⟨gY,lu,lv,lw,ly,rfl⟩;have g0:=lu.trans dq;have fz:=lv.trans dt;have g1:=lw.trans du;have g2:=ly.trans cQ;refine bj gY (λg3=>?_) (λg3=>?_)
     ·cases g3
     refine bC<|ao<|au<|at_<|ar (ax (aH gG rfl ft fz az) ec) rfl ?_
     refine ar (bh (aE aa aM) rfl (tl l hl) s9) rfl<|aL (cy j8 rfl fu) trivial rfl (λnp cT=>?_)
     have en:=bu cT fu;simp only [pS,Value.cells,Nat.reduceAdd,svE,fw]at en;have g4:=aK cT fs;have g5:=aK cT gU;have g6:=aK cT ft;have g7:=aK cT gW;have fA:=br cT fu;have fA:_=5:=fA;clear cT fs gU ft gW;refine aL (bP aa (ae aa) rfl rfl en gZ rfl az) trivial rfl (λep cV=>?_);have g8:=aZ cV en;simp only [pS,Value.cells,Nat.reduceAdd,svE,fw]at g8;have fB:=aw cV g4 aD;have fC:=aw cV g5 aD;have fD:=aw cV g6 aD;have fE:=aw cV g7 aD;have lz:=aX cV fA;clear cV en g4 g5 g6 g7;refine bR (aC (ae (ag g0))) (aC (ae (ag fz))) (aC (ae (ag g1))) (aC (ae (ag g2))) (aC aa) ?_;clear g0 fz g1 gY g2;intro nr g9 hh hC hD hE;refine ao<|au<|au<|at_<|ar (aB ay) rfl<|dh (ae g9) (ae hh) (ae hC) (ae hD) (ae hE) aa ?_;clear g9 hh hC hD hE;intro dw fG fH fI fJ fK lA
     refine ao<|bV<|eu (S:=(Int×aP)) (λs e mem=>match s with|⟨i,m⟩=>(ak e (.tmp 10)= .v (.int .i64 i))/\(ak e (.tmp 2)=ak dw (.tmp 2))/\(ak e (.tmp 3)=ak dw (.tmp 3))/\(ak e (.tmp 4)=ak dw (.tmp 4))/\(ak e (.tmp 8)=ak dw (.tmp 8))/\(ak e (.tmp 9)=ak dw (.tmp 9))/\(mem[4]? =some (.box 27 [.v (.string m.nam),.row 4 (m.js.map bX),.row 2 (m.bs.map cF),.row 3 (m.ss.map ct)]))/\(mem[3]? =ep[3]?)/\(mem[2]? =ep[2]?)/\(mem[1]? =ep[1]?)/\(mem[0]? =ep[0]?)/\(∃ n,mem.length=n/\5<=n)/\((0<=i/\i<=xs.length/\eY l m))) (λs=>match s with|⟨i,m⟩=>(xs.length - i).toNat) ⟨_,l⟩ ⟨lA,rfl,rfl,rfl,rfl,rfl,g8,rfl,rfl,rfl,rfl,⟨_,lz,Xf _⟩,?_⟩ ?_
     ·(exact⟨ah,ah,eY.refl hr⟩)
     ·rintro⟨i,m⟩ nt nu ⟨fL,lB,lC,lD,lE,lF,dy,lH,lI,lJ,lK,⟨db,dc,nx⟩,hinv⟩;have fO:=lB.trans fG;have hF:=lC.trans fH;have hG:=lD.trans fI;have hH:=lE.trans fJ;have hI:=lF.trans fK;have ev:=lH.trans fB;have ew:=lI.trans fC;have ez:=lJ.trans fD;have dd:=lK.trans fE
      (obtain⟨p1,p2,p3⟩:=hinv;have hMr:=p3.Kr hr;have hMl:=p3.yl hl;have hMg:=Br hMr;have hml:=p3.len;obtain⟨a2,b2,d2,e2,hu2⟩:=AA m L (iq m L c u);obtain⟨a3,b3,d3,e3,hu3⟩:=AA (lx m 20) L (iq (lx m 20) L c u);have hWr:=UA hMr (y:=20) aD;have hWn:=Ik hMr (y:=20) aD;have hWg:=Br hWr;have hWl:eo (lx m 20):=⟨hMl.1,by rw [<- hWn.len];exact hMl.2.1,hMl.2.2⟩;have horM:=Bw (iq m L c u);have horW:=Bw (iq (lx m 20) L c u);have hno:=Im p3 hr hv;have hnW:=Im hWn hWr hv)
      refine au<|au<|at_<|ar (al fL) rfl<|ar (al (ae fO)) rfl<|ar (ax (ca aa rfl zU.1) b7) rfl ?_
      refine ar (cU (ag aa) aa) rfl<|fX (aj fO) (aj hF) (aj hG) (aj hH) (aj hI) (aj fL) aa ?_;clear fL fO hF hG hH hI;intro ny eA fP eB eD dz eE fQ
      refine ao<|bj fQ (λdA=>?_) (λdA=>?_)
      ·replace dA:=bt dA;refine bC<|ao<|au<|bV<|au<|at_<|ar (al eA) rfl<|ar (al (ae eE)) rfl<|ar (ax (cP zU (ae aa) aa ah (by first|(refine eb ?_;first|omega|(simp only [cS];omega))|(refine cO ?_;first|omega|(simp only [cS];omega))|(refine ky ?_;first|omega|(simp only [cS];omega))|rfl)) ec) rfl ?_
       refine ar (ax (bF SR rfl aa az) ec) rfl ?_;refine aL (cy SE rfl dc) trivial rfl (λnz cC=>?_);have eF:=bu cC dc;simp only [pS,Value.cells,Nat.reduceAdd,svE,fw]at eF;have hJ:=aK cC dy;have hK:=aK cC ev;have hM:=aK cC ew;have hN:=aK cC ez;have hO:=aK cC dd;have lL:=br cC dc;clear cC dy ev ew ez dd;refine aL (bP aa (ae aa) rfl rfl eF SQ rfl az) trivial rfl (λnA cE=>?_);have fR:=aZ cE eF;simp only [pS,Value.cells,Nat.reduceAdd,svE,fw]at fR;have hP:=aw cE hJ ah;have hQ:=aw cE hK ah;have hS:=aw cE hM ah;have hU:=aw cE hN ah;have hV:=aw cE hO ah;have eG:=aX cE lL;clear cE eF hJ hK hM hN hO;refine fX (aC (ae (aj eA))) (aC (ae (aj fP))) (aC (ae (aj eB))) (aC (ae (aj eD))) (aC (ae (aj dz))) (aC (ae (aj eE))) (aC aa) ?_;clear eE eA fP eB fQ eD dz;intro nB hW hY hZ h6 fT h7 eJ;refine ao<|au<|fZ 12 1 eG ai ai ai ai (λlM ck=>?_)
       have eK:=bz ck fR;have fV:=bz ck hP;have h8:=bz ck hQ;have h9:=bz ck hS;have ia:=bz ck hU;have ib:=bz ck hV;have fW:lM[db+1]? =_:=fS ck eG 0 rfl rfl;have lN:_=db+1+1:=ga (K:=1) ck eG;clear ck fR hP hQ hS hU hV eG;refine cG (4) (λM_ hM_=>(ax (aH gG rfl (cn hM_ fV aN) fT az) ec)) trivial trivial ?_;refine aR (λM_ hM_=>(bh (aE aa aM) rfl (tl m hMl) s9)) trivial ?_;refine aR (λM_ hM_=>(aI yQ rfl (ag eJ))) trivial ?_;refine cG (db) (λM_ hM_=>(ax (aH mQ rfl (cn hM_ eK aN) aa az) ec)) trivial trivial ?_;refine aR (λM_ hM_=>(aI yR rfl (aj eJ))) trivial ?_;refine cG (db) (λM_ hM_=>(ax (aH Hl rfl (cn hM_ eK aN) aa az) ec)) trivial trivial ?_;refine aR (λM_ hM_=>(bh (aE (aj aa) (aE (ag aa) (aE aa aM))) rfl (Ll m hMl hMg _ _ _) O9)) trivial ?_;refine aR (λM_ hM_=>(al aa)) trivial ?_;refine aR (λM_ hM_=>(cI aa rfl)) trivial ?_;refine aR (λM_ hM_=>(cI (ae aa) rfl)) trivial ?_;refine kL (db+1) (λM_ hM_=>(nv j8 rfl)) trivial fW rfl trivial ⟨.inl bo,⟨.inl bo,⟨.inl bo,trivial⟩⟩⟩ (λnC cm=>?_);have eN:=aZ cm fW;simp only [pS,Value.cells,Nat.reduceAdd,svE,fw]at eN;have ic:=aw cm eK ah;have ie:=aw cm fV ah;have ig:=aw cm h8 ah;have ih:=aw cm h9 ah;have ij:=aw cm ia ah;have ik:=aw cm ib ah;have lO:=aX cm lN;clear cm eK fV h8 h9 ia ib fW;refine oZ (db+1) (λM_ hM_=>(nw aa (ag aa) rfl rfl (cn hM_ eN aN) gZ rfl az)) trivial ⟨.inr (gV 11 10 ai),trivial⟩ ⟨.inl bo,⟨.inl bo,⟨.inl bo,⟨.inr (gV 11 10 ai),trivial⟩⟩⟩⟩ (λnD co=>?_);have de:=aZ co eN;simp only [pS,Value.cells,Nat.reduceAdd,svE,fw]at de;have eO:=aw co ic ah;have fY:=aw co ie ah;have f0:=aw co ig ah;have gb:=aw co ih ah;have dD:=aw co ij ah;have gc:=aw co ik ah;have eP:=aX co lO;clear co eN ic ie ig ih ij ik;refine gn rfl ?_;refine ar (aB (aC (ae aa))) rfl<|oq (ae (aC (ae (ag (aA hW))))) (ae (aC (ae (ag (aA hY))))) (ae (aC (ae (ag (aA hZ))))) (ae (aC (ae (ag (aA h6))))) (ae (aC (ae (ag (aA fT))))) (ae (aC (ae (ag (aA h7))))) (ae (aC (ae (ag (aA eJ))))) (ae (aC aa)) aa ?_;clear h7 eJ hW hY hZ h6 fT;intro nE il im io ip ir iv iw ix iz
       refine ao<|au<|au<|at_<|ar (al iz) rfl<|ar (dB aa ay) rfl<|oq (ag il) (ag im) (ag io) (ag ip) (ag ir) (ag iv) (ag iw) (ag ix) aa ?_;clear iv iw ix iz il im io ip ir;intro nF eQ df eR eS eT eU eV dE gd
       refine ao<|bj gd (λdF=>?_) (λdF=>?_)
       ·replace dF:=dR dF;refine dV<|cB<|dU<|ao<|at_<|ar (al eU) rfl ?_
        (refine ar (cv aa ay ?_) rfl ?_; · (unfold In64;omega))
        refine ar (aB aa) rfl<|dh (ae (ag eQ)) (ae (ag df)) (ae (ag eR)) (ae (ag eS)) (ae (ag eT)) aa ?_;clear eU eV dE eQ df eR eS gd eT;intro nG lP lQ lR lS lT lU
        refine ao<|⟨⟨_,m⟩,⟨lU,(lP.trans fG.symm),(lQ.trans fH.symm),(lR.trans fI.symm),(lS.trans fJ.symm),(lT.trans fK.symm),fY,(f0.trans fB.symm),(gb.trans fC.symm),(dD.trans fD.symm),(gc.trans fE.symm),⟨_,eP,ah⟩,?_⟩,?_⟩
        ·(exact⟨ah,ah,p3⟩)
        ·((try dsimp only);omega)
       replace dF:=dp dF
       (have hz:(km m (xs.getD i.toNat default).n (xs.getD i.toNat default).a (xs.getD i.toNat default).b).2=0:=(by first|assumption|(simp_all;done));obtain⟨hX,hXn,hXa,hXb⟩:=Oo hMr hz;have hXr:=hX.Kr hMr;have hXl:=hX.yl hMl;have hXg:=Br hXr;have hXm:=hX.len;have hXbd:=hXr.bd (i:=(xs.getD i.toNat default).n.toNat) ah;have hXw:dx (xs.getD i.toNat default).n 0 (l.js.length - 1)=true:=l7.2 ah)
       refine bC<|ao<|au<|au<|at_<|ar (ax (aH gG rfl de dE az) ec) rfl ?_
       refine ar (bh (aE aa aM) rfl ((vh (km m (xs.getD i.toNat default).n (xs.getD i.toNat default).a (xs.getD i.toNat default).b).1 hXl).mono (λq h=>show q=mA 0 from h.trans (by rw [hXg]))) vt) rfl ?_;refine ar (dB aa ay) rfl<|ar (al aa) rfl<|bQ aa (λcc eW=>?_) (λcc eW=>?_)
       ·cases eW
       replace eW:=dp eW;refine aG (aI dN rfl (aj dE)) ⟨_,rfl,cc⟩ rfl ?_;refine aG (ax (aH wm rfl de aa az) ec) ⟨_,rfl,(ae cc)⟩ rfl ?_;refine aG (ax (ca aa rfl wj.1) b7) ⟨_,rfl,(ag cc)⟩ rfl ?_;refine aG (aI dN rfl (ae (ag (aj df)))) ⟨_,rfl,(ae (ag cc))⟩ rfl ?_;refine aG (ax (aH wm rfl dD aa az) ec) ⟨_,rfl,(aj cc)⟩ rfl ?_;refine aG (ax (ca aa rfl wj.1) b7) ⟨_,rfl,(ae (aj cc))⟩ rfl ?_;refine aG (dB (ae (ag aa)) aa) ⟨_,rfl,(ag (aj cc))⟩ rfl ?_;refine ar (bG (ae (ag (aj cc))) aa) rfl<|ar (al aa) rfl<|bQ aa (λbZ dG=>?_) (λbZ dG=>?_)
       ·replace dG:=dR dG;exfalso;omega
       replace dG:=dp dG;refine aG (aI yQ rfl (ae (aj (aA eV)))) ⟨_,rfl,bZ⟩ rfl ?_;refine aG (ax (aH mQ rfl eO aa az) ec) ⟨_,rfl,(ae bZ)⟩ rfl ?_;refine aG (aI dN rfl (ae (ag (aj (aA df))))) ⟨_,rfl,(ag bZ)⟩ rfl ?_;refine aG (ax (aH wm rfl dD aa az) ec) ⟨_,rfl,(ae (ag bZ))⟩ rfl ?_;refine aG (ax (ca aa rfl wj.1) b7) ⟨_,rfl,(aj bZ)⟩ rfl ?_
       (refine aG (eC aa ay ?_) ⟨_,rfl,(ae (aj bZ))⟩ rfl ?_; · (unfold In64;omega))
       refine aG (bh (aE (aj aa) (aE ay (aE aa aM))) rfl ((pT _ _ _).mono (λq h=>show q=dK true from h.trans (by rw [hXw]))) qo) ⟨_,rfl,(ag (aj bZ))⟩ rfl ?_;refine aG (c8 aa) ⟨_,rfl,(ae (ag (aj bZ)))⟩ rfl ?_;refine ar (bG (aA bZ) aa) rfl<|oq (ag (aj (aJ eQ))) (ag (aj (aJ df))) (ag (aj (aJ eR))) (ag (aj (aJ eS))) (ag (aj (aJ eT))) (ag (aj (aJ eU))) (ag (aj (aJ eV))) (ag (aj (aJ dE))) aa ?_;clear cc bZ eU eV dE eQ df eR eS gd eT;intro nH iA iB iC iD iF iG ge gf iI
       refine ao<|bj iI (λeX=>?_) (λeX=>?_)
       ·cases eX
       replace eX:=dm eX;refine bC<|ao<|au<|at_<|ar (aI dN rfl gf) rfl<|ar (ax (aH wm rfl de aa az) ec) rfl ?_
       refine ar (aI yQ rfl (ag ge)) rfl<|ar (ax (aH mQ rfl eO aa az) ec) rfl ?_
       refine ar (ax (cP wj (ag aa) aa ah (by first|(refine eb ?_;first|omega|(simp only [cS];omega))|(refine cO ?_;first|omega|(simp only [cS];omega))|(refine ky ?_;first|omega|(simp only [cS];omega))|rfl)) eL) rfl ?_;refine ar (ax (bF SS rfl aa az) ec) rfl ?_;refine aL (cy sr rfl eP) trivial rfl (λnI cd=>?_);have eZ:=bu cd eP;simp only [pS,Value.cells,Nat.reduceAdd,svE,fw]at eZ;have iJ:=aK cd de;have iK:=aK cd eO;have iL:=aK cd fY;have iM:=aK cd f0;have iN:=aK cd gb;have iO:=aK cd dD;have iP:=aK cd gc;have lV:=br cd eP;clear cd de eO fY f0 gb dD gc;refine aL (bP aa (ae aa) rfl rfl eZ uz rfl az) trivial rfl (λnJ ce=>?_);have cW:=aZ ce eZ;simp only [pS,Value.cells,Nat.reduceAdd,svE,fw]at cW;have gg:=aw ce iJ ah;have e0:=aw ce iK ah;have gi:=aw ce iL ah;have iQ:=aw ce iM ah;have iR:=aw ce iN ah;have iS:=aw ce iO ah;have iT:=aw ce iP ah;have lW:=aX ce lV;clear ce eZ iJ iK iL iM iN iO iP;refine oq (aC (ae (ag (aj iA)))) (aC (ae (ag (aj iB)))) (aC (ae (ag (aj iC)))) (aC (ae (ag (aj iD)))) (aC (ae (ag (aj iF)))) (aC (ae (ag (aj iG)))) (aC (ae (ag (aj ge)))) (aC (ae (ag (aj gf)))) (aC aa) ?_;clear iG iI ge gf iA iB iC iD iF;intro nK iU iV iW iX iY iZ gj i6 dH;refine ao<|au<|au<|at_<|ar (aI iu rfl dH) rfl<|ar (ax (aH mQ rfl cW aa az) ec) rfl ?_
       refine ar (aI fU rfl (ag dH)) rfl<|ar (aI fx rfl aa) rfl<|ar (ax (aH mQ rfl cW aa az) ec) rfl ?_
       (refine ar (cv (ae (ag aa)) aa ?_) rfl ?_; · (unfold In64;omega))
       refine ar (aI yR rfl (ag (aj gj))) rfl<|ar (aI fx rfl aa) rfl<|ar (ax (aH mQ rfl e0 aa az) ec) rfl ?_
       refine ar (cU (ae (ag aa)) aa) rfl<|ar (al aa) rfl<|bQ aa (λa9 dI=>?_) (λa9 dI=>?_)
       ·replace dI:=bt dI;exfalso;omega
       replace dI:=bf dI;refine aG (aI iu rfl (ae (ag (aA dH)))) ⟨_,rfl,a9⟩ rfl ?_;refine aG (ax (aH mQ rfl cW aa az) ec) ⟨_,rfl,(ae a9)⟩ rfl ?_;refine aG (aI fU rfl (ae (aj (aA dH)))) ⟨_,rfl,(ag a9)⟩ rfl ?_;refine aG (aI fy rfl aa) ⟨_,rfl,(ae (ag a9))⟩ rfl ?_;refine aG (ax (aH mQ rfl cW aa az) ec) ⟨_,rfl,(aj a9)⟩ rfl ?_
       (refine aG (cv (ae (ag aa)) aa ?_) ⟨_,rfl,(ae (aj a9))⟩ rfl ?_; · (unfold In64;omega))
       refine aG (aI yR rfl (ae (aJ gj))) ⟨_,rfl,(ag (aj a9))⟩ rfl ?_;refine aG (aI fy rfl aa) ⟨_,rfl,(ae (ag (aj a9)))⟩ rfl ?_;refine aG (ax (aH mQ rfl e0 aa az) ec) ⟨_,rfl,(aA a9)⟩ rfl ?_;refine aG (ey (ae (ag aa)) aa) ⟨_,rfl,(ae (aA a9))⟩ rfl ?_;refine ar (bG (ag (aA a9)) aa) rfl<|uQ (ag (aj (aJ iU))) (ag (aj (aJ iV))) (ag (aj (aJ iW))) (ag (aj (aJ iX))) (ag (aj (aJ iY))) (ag (aj (aJ iZ))) (ag (aj (aJ i6))) aa ?_;clear a9 iZ gj i6 dH iU iV iW iX iY;intro nL i7 i8 ja jb gk jc jd je
       refine ao<|bj je (λdJ=>?_) (λdJ=>?_)
       ·replace dJ:=bt dJ;exfalso;omega
       replace dJ:=bf dJ;refine bC<|ao<|at_<|ar (ax (aH gG rfl gg jd az) ec) rfl ?_
       refine aL (bP (ae gk) aa rfl rfl gi gZ rfl az) trivial rfl (λnM cf=>?_);have jf:=aZ cf gi;simp only [pS,Value.cells,Nat.reduceAdd,svE,fw]at jf;have nN:=aw cf cW ah;have nO:=aw cf gg ah;have nP:=aw cf e0 ah;have lX:=aw cf iQ aD;have lY:=aw cf iR aD;have lZ:=aw cf iS aD;have l1:=aw cf iT aD;have l3:=aX cf lW;clear cf cW gg e0 gi iQ iR iS iT;refine dh (aC (ae i7)) (aC (ae i8)) (aC (ae ja)) (aC (ae jb)) (aC (ae gk)) (aC (ae jc)) ?_;clear jc jd je i7 i8 ja jb gk;intro nQ jg jh ji jj jk jl;refine cK<|ao<|at_<|ar (al jl) rfl ?_
       (refine ar (cv aa ay ?_) rfl ?_; · (unfold In64;omega))
       refine ar (aB aa) rfl<|dh (ae (ag jg)) (ae (ag jh)) (ae (ag ji)) (ae (ag jj)) (ae (ag jk)) aa ?_;clear jl jg jh ji jj jk;intro nR l4 l5 l6 l8 l9 ma
       refine ao<|⟨⟨_,(km m (xs.getD i.toNat default).n (xs.getD i.toNat default).a (xs.getD i.toNat default).b).1⟩,⟨ma,(l4.trans fG.symm),(l5.trans fH.symm),(l6.trans fI.symm),(l8.trans fJ.symm),(l9.trans fK.symm),jf,(lX.trans fB.symm),(lY.trans fC.symm),(lZ.trans fD.symm),(l1.trans fE.symm),⟨_,l3,ah⟩,?_⟩,?_⟩
       ·(exact⟨ah,ah,p3.trans hX⟩)
       ·((try dsimp only);omega)
      replace dA:=bf dA;refine dV<|cB<|cB<|dU<|ao<|au<|at_<|ar (ax (aH gG rfl dy dz az) ec) rfl ?_
      refine ar (bh (aE aa aM) rfl (tl m hMl) s9) rfl<|ar (tg (aE aa aM) rfl dd (OP es er m hMl hMg) O7) rfl<|ar (al aa) rfl<|ar (cI aa rfl) rfl<|ar (cI (ae aa) rfl) rfl<|ar (aB (ae aa)) rfl<|ar (aB (ae aa)) rfl<|bR (aA eB) (aA eD) (aA dz) (ae aa) aa ?_;clear eE eA fP eB fQ eD dz;intro nS jm jn jo jp jq
      refine ao<|au<|at_<|ar (al jp) rfl<|ar (tg (aE aa aM) rfl dd (LM es er hes her hMg) SN) rfl<|ar (al aa) rfl<|ar (cI aa rfl) rfl<|ar (cI (ae aa) rfl) rfl<|ar (cI (ag aa) rfl) rfl<|aL (cy j8 rfl dc) trivial rfl (λnT cH=>?_)
      have gm:=bu cH dc;simp only [pS,Value.cells,Nat.reduceAdd,svE,fw]at gm;have jr:=aK cH dy;have jt:=aK cH ev;have ju:=aK cH ew;have jv:=aK cH ez;have jw:=aK cH dd;have gp:=br cH dc;clear cH dy ev ew ez dd;refine aL (cy BF rfl gp) trivial rfl (λnU cr=>?_);have gq:=bu cr gp;simp only [pS,Value.cells,Nat.reduceAdd,svE,fw]at gq;have gr:=aK cr gm;have jx:=aK cr jr;have jy:=aK cr jt;have jz:=aK cr ju;have jA:=aK cr jv;have jB:=aK cr jw;have mb:=br cr gp;clear cr gm jr jt ju jv jw;refine aL (bP (ae aa) (aj aa) rfl rfl gr gZ rfl az) trivial rfl (λnV cw=>?_);have gt:=aZ cw gr;simp only [pS,Value.cells,Nat.reduceAdd,svE,fw]at gt;have gu:=aw cw gq ah;have jC:=aw cw jx ah;have jD:=aw cw jy ah;have jE:=aw cw jz ah;have jF:=aw cw jA ah;have jG:=aw cw jB ah;have mc:=aX cw mb;clear cw gq gr jx jy jz jA jB;refine aL (bP (aC aa) (aC (ae (ag aa))) rfl rfl gu xN rfl az) trivial rfl (λnW cz=>?_);have gw:=aZ cz gu;simp only [pS,Value.cells,Nat.reduceAdd,svE,fw]at gw;have gx:=aw cz gt ah;have jH:=aw cz jC ah;have jI:=aw cz jD ah;have gy:=aw cz jE ah;have jJ:=aw cz jF ah;have jK:=aw cz jG ah;have gz:=aX cz mc;clear cz gt gu jC jD jE jF jG;refine ar (aB (aC (aC (ag aa)))) rfl<|dh (ae (aC (aC (aA jm)))) (ae (aC (aC (aA jn)))) (ae (aC (aC (aA jo)))) (ae (aC (aC (aA jq)))) (ae (aC (aC (ae aa)))) aa ?_;clear jp jq jm jn jo;intro nX gA jL jM jN gC jO
      refine ao<|au<|at_<|ar (ax (aH gG rfl gx gC az) ec) rfl ?_
      refine ar (ax (aH tG rfl gy (ae gA) az) ec) rfl ?_;refine ar (bh (aE (ae aa) (aE aa aM)) rfl ((yu m hMl hMg L c u hv).mono (λq h=>show q= .tuple [.agg [mA a2,mA b2,mA d2,mA e2],mA (mI (iq m L c u))]from h.trans (by rw [hu2]))) zl) rfl ?_;refine ar (al aa) rfl<|ar (cI aa rfl) rfl<|ar (cI (ae aa) rfl) rfl<|aL (cy xK rfl gz) trivial rfl (λnY cg=>?_)
      have e4:=bu cg gz;simp only [pS,Value.cells,Nat.reduceAdd,svE,fw]at e4;have jS:=aK cg gw;have jT:=aK cg gx;have jU:=aK cg jH;have jX:=aK cg jI;have j0:=aK cg gy;have j1:=aK cg jJ;have j3:=aK cg jK;have md:=br cg gz;clear cg gw gx jH jI gy jJ jK;refine aL (bP aa (ag aa) rfl rfl e4 uy rfl az) trivial rfl (λj9 ci=>?_);have gD:=aZ ci e4;simp only [pS,Value.cells,Nat.reduceAdd,svE,fw]at gD;have ka:=aw ci jS ah;have gE:=aw ci jT ah;have e5:=aw ci jU ah;have kb:=aw ci jX ah;have kc:=aw ci j0 ah;have kd:=aw ci j1 ah;have ke:=aw ci j3 ah;have gF:=aX ci md;clear ci e4 jS jT jU jX j0 j1 j3;refine ar (aB (aC (ae aa))) rfl<|fX (ae (aC (ae (ag (aj gA))))) (ae (aC (ae (ag (aj jL))))) (ae (aC (ae (ag (aj jM))))) (ae (aC (ae (ag (aj jN))))) (ae (aC (ae (ag (aj gC))))) (ae (aC (ae (ag (aj jO))))) aa ?_;clear jN gC jO gA jL jM;intro e7 dM dO dg me mf mg cX
      refine ao<|au<|au<|gl (λe mem=>(ak e (.tmp 179)= .v (.bool false))/\(ak e (.tmp 4)=ak e7 (.tmp 4))/\(ak e (.tmp 8)=ak e7 (.tmp 8))/\(ak e (.tmp 9)=ak e7 (.tmp 9))/\(ak e (.tmp 21)=ak e7 (.tmp 21))/\j9=mem) ?_ ?_
      ·
       refine at_<|ar (al me) rfl<|ar (dB aa ay) rfl<|ar (al aa) rfl<|bQ aa (λe8 e9=>?_) (λe8 e9=>?_)
       ·cases e9
       replace e9:=dp e9;refine aG (al (ae (ag mg))) ⟨_,rfl,e8⟩ rfl ?_;refine aG (dB aa ay) ⟨_,rfl,(ae e8)⟩ rfl ?_;refine ar (bG (ag e8) aa) rfl<|ar (al aa) rfl<|bQ aa (λdj fa=>?_) (λdj fa=>?_)
       ·cases fa
       replace fa:=dp fa;refine aG (ax (aH gG rfl gE (ae (ag (aj mf))) az) ec) ⟨_,rfl,dj⟩ rfl ?_;refine aG (ax (aH gG rfl e5 (aA dg) az) ec) ⟨_,rfl,(ae dj)⟩ rfl ?_;refine aG (bh (aE (ae aa) (aE aa aM)) rfl (O6 m hMl) SO) ⟨_,rfl,(ag dj)⟩ rfl ?_;refine aG (c8 aa) ⟨_,rfl,(ae (ag dj))⟩ rfl ?_;refine ar (bG (aj dj) aa) rfl<|ar (al aa) rfl<|bQ aa (λcJ fb=>?_) (λcJ fb=>?_)
       ·cases fb
       replace fb:=dm fb;refine aG (al (ae (aj (aA cX)))) ⟨_,rfl,cJ⟩ rfl ?_;refine aG (dB aa ay) ⟨_,rfl,(ae cJ)⟩ rfl ?_;refine aG (al aa) ⟨_,rfl,(ag cJ)⟩ rfl ?_;refine bQ aa (λcY dP=>?_) (λcY dP=>?_)
       ·replace dP:=dR dP;refine aG (al (aJ cX)) ⟨_,rfl,cY⟩ rfl ?_;refine aG (dB aa ay) ⟨_,rfl,(ae cY)⟩ rfl ?_;refine aG (bD (ag cY) aa) ⟨_,rfl,(ae (aj cJ))⟩ rfl ?_;refine ar (bG (ag (aj cJ)) aa) rfl<|bR (aj (aJ dM)) (aj (aJ dO)) (aj (aJ dg)) (aj (aJ cX)) aa ?_;intro nZ mh mi mj ml mm
        refine ao ⟨(mm).trans (by(first|rfl|(refine cu ?_;simp;omega)|(refine cu ?_;simp_all;done)|(refine cu ?_;simp_all;omega)|(exfalso;simp_all;omega))),(mh).trans (dM).symm,(mi).trans (dO).symm,(mj).trans (dg).symm,(ml).trans (cX).symm,rfl⟩
       replace dP:=dp dP;refine aF ⟨_,rfl,.inl cY⟩ rfl ?_;refine aF ⟨_,rfl,.inl (ae cY)⟩ rfl ?_;refine aG (bG (ag cY) ay) ⟨_,rfl,(ae (aj cJ))⟩ rfl ?_;refine ar (bG (ag (aj cJ)) aa) rfl<|bR (aj (aJ dM)) (aj (aJ dO)) (aj (aJ dg)) (aj (aJ cX)) aa ?_;intro n2 mn mo mq mr mu
       refine ao ⟨(mu).trans (by(first|rfl|(refine cu ?_;simp;omega)|(refine cu ?_;simp_all;done)|(refine cu ?_;simp_all;omega)|(exfalso;simp_all;omega))),(mn).trans (dM).symm,(mo).trans (dO).symm,(mq).trans (dg).symm,(mr).trans (cX).symm,rfl⟩
      ·rintro gH _ ⟨mv,mw,mx,my,mB,rfl⟩;have dQ:=mw.trans dM;have mC:=mx.trans dO;have dW:=my.trans dg;have dk:=mB.trans cX;refine bj mv (λkf=>?_) (λkf=>?_)
       ·cases kf
       refine bC<|ao<|au<|au<|gl (λe mem=>(ak e (.tmp 185)= .v (.bool false))/\(ak e (.tmp 4)=ak gH (.tmp 4))/\(ak e (.tmp 9)=ak gH (.tmp 9))/\(ak e (.tmp 21)=ak gH (.tmp 21))/\j9=mem) ?_ ?_
       ·
        refine at_<|ar (al mC) rfl<|ar (e6 aa ay) rfl ?_
        refine ar (al aa) rfl<|bQ aa (λc6 dX=>?_) (λc6 dX=>?_)
        ·replace dX:=bt dX;refine aG (al (ae (ag dk))) ⟨_,rfl,c6⟩ rfl ?_;refine aG (dB aa ay) ⟨_,rfl,(ae c6)⟩ rfl ?_;refine ar (bD (ag c6) aa) rfl<|bp (ag (aj dQ)) (ag (aj dW)) (ag (aj dk)) aa ?_;intro n5 mD mE mF mG
         refine ao ⟨(mG).trans (by(first|rfl|(refine cu ?_;simp;omega)|(refine cu ?_;simp_all;done)|(refine cu ?_;simp_all;omega)|(exfalso;simp_all;omega))),(mD).trans (dQ).symm,(mE).trans (dW).symm,(mF).trans (dk).symm,rfl⟩
        replace dX:=bf dX;refine aF ⟨_,rfl,.inl c6⟩ rfl ?_;refine aF ⟨_,rfl,.inl (ae c6)⟩ rfl ?_;refine ar (bG (ag c6) ay) rfl<|bp (ag (aj dQ)) (ag (aj dW)) (ag (aj dk)) aa ?_;intro n6 mH mJ mK mL
        refine ao ⟨(mL).trans (by(first|rfl|(refine cu ?_;simp;omega)|(refine cu ?_;simp_all;done)|(refine cu ?_;simp_all;omega)|(exfalso;simp_all;omega))),(mH).trans (dQ).symm,(mJ).trans (dW).symm,(mK).trans (dk).symm,rfl⟩
       ·rintro n7 _ ⟨kg,mM,mN,mO,rfl⟩;have kh:=mM.trans dQ;have ki:=mN.trans dW;have kj:=mO.trans dk;refine bj kg (λkn=>?_) (λkn=>?_)
        ·cases kn
        refine bC<|ao<|au<|at_<|ar (ax (aH gG rfl e5 ki az) ec) rfl ?_
        refine ar (bh (aE aa aM) rfl (tl m hMl) s9) rfl<|ar (bh (aE aa (aE ay aM)) rfl (Oi m hMl hMg 20 rfl) Pe) rfl<|ar (al aa) rfl<|ar (cI aa rfl) rfl<|ar (cI (ae aa) rfl) rfl<|aL (cy j8 rfl gF) trivial rfl (λn8 b0=>?_)
        have fc:=bu b0 gF;simp only [pS,Value.cells,Nat.reduceAdd,svE,fw]at fc;have ko:=aK b0 gD;have kp:=aK b0 ka;have kq:=aK b0 gE;have kr:=aK b0 e5;have kt:=aK b0 kb;have ku:=aK b0 kc;have kv:=aK b0 kd;have kw:=aK b0 ke;have mP:=br b0 gF;clear b0 gD ka gE e5 kb kc kd ke;refine aL (bP aa (ag aa) rfl rfl fc gZ rfl az) trivial rfl (λn9 b6=>?_);have fd:=aZ b6 fc;simp only [pS,Value.cells,Nat.reduceAdd,svE,fw]at fd;have kx:=aw b6 ko ah;have kz:=aw b6 kp ah;have kA:=aw b6 kq ah;have kB:=aw b6 kr ah;have kC:=aw b6 kt ah;have gI:=aw b6 ku ah;have kD:=aw b6 kv ah;have kE:=aw b6 kw ah;have gJ:=aX b6 mP;clear b6 fc ko kp kq kr kt ku kv kw;refine ar (aB (aC (ae aa))) rfl<|bp (ae (aC (ae (ag (aj kh))))) (ae (aC (ae (ag (aj kj))))) (ae (aC aa)) aa ?_;clear kg kj kh ki;intro oa kF kG kH kI
        refine ao<|au<|at_<|ar (ax (aH gG rfl fd kH az) ec) rfl ?_
        refine ar (ax (aH tG rfl gI (ae kF) az) ec) rfl ?_;refine ar (bh (aE (ae aa) (aE aa aM)) rfl ((yu (lx m 20) hWl hWg L c u hv).mono (λq h=>show q= .tuple [.agg [mA a3,mA b3,mA d3,mA e3],mA (mI (iq (lx m 20) L c u))]from h.trans (by rw [hu3]))) zl) rfl ?_;refine ar (al aa) rfl<|ar (cI aa rfl) rfl<|ar (cI (ae aa) rfl) rfl<|aL (cy xK rfl gJ) trivial rfl (λob be=>?_)
        have fe:=bu be gJ;simp only [pS,Value.cells,Nat.reduceAdd,svE,fw]at fe;have kM:=aK be fd;have kN:=aK be kx;have kO:=aK be kz;have kP:=aK be kA;have kQ:=aK be kB;have kR:=aK be kC;have kS:=aK be gI;have kT:=aK be kD;have kU:=aK be kE;have mR:=br be gJ;clear be fd kx kz kA kB kC gI kD kE;refine aL (bP aa (ag aa) rfl rfl fe uy rfl az) trivial rfl (λmS bq=>?_);have kV:=aZ bq fe;simp only [pS,Value.cells,Nat.reduceAdd,svE,fw]at kV;have mT:=aw bq kM ah;have mU:=aw bq kN ah;have mV:=aw bq kO ah;have mW:=aw bq kP ah;have mX:=aw bq kQ ah;have mY:=aw bq kR ah;have mZ:=aw bq kS ah;have m0:=aw bq kT ah;have m1:=aw bq kU ah;have m2:=aX bq mR;clear bq fe kM kN kO kP kQ kR kS kT kU;refine ar (aB (aC (ae aa))) rfl<|bJ (ae (aC (ae (ag (aj kG))))) (ae (aC (ae (ag (aj kI))))) aa ?_;clear kG kH kI kF;intro oc m3 m4 kW
        refine ao<|au<|gl (λe mem=>(ak e (.tmp 6)= .v (.bool true))/\mS=mem) ?_ ?_
        ·
         refine at_<|ar (al m4) rfl<|ar (e6 aa ay) rfl ?_
         refine ar (al aa) rfl<|bQ aa (λcL ff=>?_) (λcL ff=>?_)
         ·replace ff:=bt ff;refine aG (al (ae (ag kW))) ⟨_,rfl,cL⟩ rfl ?_;refine aG (e6 aa ay) ⟨_,rfl,(ae cL)⟩ rfl ?_;refine aG (al aa) ⟨_,rfl,(ag cL)⟩ rfl ?_;refine bQ aa (λb8 dY=>?_) (λb8 dY=>?_)
          ·replace dY:=bt dY;refine aF ⟨_,rfl,.inl b8⟩ rfl ?_;refine aF ⟨_,rfl,.inl (ae b8)⟩ rfl ?_;refine aF ⟨_,rfl,.inl (ag b8)⟩ rfl ?_;refine aF ⟨_,rfl,.inr aa⟩ rfl ?_;refine aF ⟨_,rfl,.inr (ae aa)⟩ rfl ?_;refine aF ⟨_,rfl,.inl (ae (aj b8))⟩ rfl ?_;refine aG (bD (ag (aj b8)) ay) ⟨_,rfl,(ae (aA cL))⟩ rfl ?_;refine ar (bD (ag (aA cL)) aa) rfl<|ar (aB aa) rfl<|aY aa ?_;intro od m5
           refine ao ⟨(m5).trans (by(first|rfl|(refine cu ?_;simp;omega)|(refine cu ?_;simp_all;done)|(refine cu ?_;simp_all;omega)|(exfalso;simp_all;omega))),rfl⟩
          replace dY:=bf dY;refine aG (al (ag (aj kW))) ⟨_,rfl,b8⟩ rfl ?_;refine aG (e6 aa ay) ⟨_,rfl,(ae b8)⟩ rfl ?_;refine aG (al aa) ⟨_,rfl,(ag b8)⟩ rfl ?_;refine bQ aa (λfg ea=>?_) (λfg ea=>?_)
          ·replace ea:=bt ea;refine aG (al (ae (aA m3))) ⟨_,rfl,fg⟩ rfl ?_;refine aG (e6 aa ay) ⟨_,rfl,(ae fg)⟩ rfl ?_;refine aG (bD (ag fg) aa) ⟨_,rfl,(ae (aj b8))⟩ rfl ?_;refine aG (bG (ag (aj b8)) aa) ⟨_,rfl,(ae (aA cL))⟩ rfl ?_;refine ar (bD (ag (aA cL)) aa) rfl<|ar (aB aa) rfl<|aY aa ?_;intro oe m6
           refine ao ⟨(m6).trans (by(first|rfl|(refine cu ?_;simp;omega)|(refine cu ?_;simp_all;done)|(refine cu ?_;simp_all;omega)|(exfalso;simp_all;omega))),rfl⟩
          ·replace ea:=bf ea;exfalso;omega
         ·cases ff
        ·rintro og _ ⟨kX,rfl⟩;refine bg<|bL bm ai (bc kX) (.ro _ rfl) ?_
         clear kX kV mT mU mV mW mX mY mZ m0 m1 m2
         first|rfl|(simp_all;done)
   ·skip;refine tf (fn:=Tryz.f5) (gX es er) 212 ai rfl ai aU ?_;intro aS bv hA aT;have bw:ak aS (.tmp 0)=_:=hA 0 _ rfl;have bx:ak aS (.tmp 1)=_:=hA 1 _ rfl;have bB:ak aS (.tmp 2)=_:=hA 2 _ rfl;have a5:bv.length=1:=by rw [aT];rfl
    have bE:bv[0]? =some (.bT (gX es er)):=by rw [aT];rfl
    clear hA aT;refine au<|at_<|aL (cZ bw rfl a5) trivial rfl (λfh ap=>?_)
    have bH:=bu ap a5;have bI:=aK ap bE;have ab:=br ap a5;have ab:_=2:=ab;clear ap bE;refine aL (cZ (ae bx) rfl ab) trivial rfl (λfi ad=>?_);have a8:=bu ad ab;have aO:=aK ad bH;have b9:=aK ad bI;have am:=br ad ab;have am:_=3:=am;clear ad bH bI;refine ar (aB ay) rfl<|bJ (ae (ag bB)) (ag aa) (ae aa) ?_;clear bw bx bB;intro fj bM bN bO
    refine ao<|au<|au<|at_<|ar (bh aM rfl (vd) vu) rfl<|ar (c8 aa) rfl<|bp (ag bM) (ag bN) (ag bO) aa ?_;clear bM bN bO;intro fk a6 af aQ bb
    refine ao<|bj bb (λav=>?_) (λav=>?_)
    ·cases av
    replace av:=dm av;refine bC<|ao<|au<|au<|dZ 26 ai ai ai ai ?_
    refine dr (ax (aH gG rfl aO af az) bk) rfl ?_;refine dr (bh (aE aa aM) rfl ((wQ l).mono (λq h=>show q=dK true from h.trans (by rw [hf]))) vr) rfl ?_;refine dr (c8 aa) rfl<|dr (al aa) rfl<|gh aa (λan a7=>?_) (λan a7=>?_)
    ·cases a7
    replace a7:=dm a7;refine cD (ax (aH gG rfl aO (aj af) az) bk) ⟨_,rfl,an⟩ rfl ?_;refine cD (bh (aE aa aM) rfl ((vh l hl).mono (λq h=>show q=mA 0 from h.trans (by rw [hg]))) vt) ⟨_,rfl,(ae an)⟩ rfl ?_;refine cD (dB aa ay) ⟨_,rfl,(ag an)⟩ rfl ?_;refine dr (bG (ae (ag an)) aa) rfl<|dr (al aa) rfl<|gh aa (λba cj=>?_) (λba cj=>?_)
    ·cases cj
    replace cj:=dp cj;refine cD (ax (aH tG rfl a8 (ae (aA aQ)) az) bk) ⟨_,rfl,ba⟩ rfl ?_;refine cD (bh (aE aa aM) rfl (CM L c u) Ez) ⟨_,rfl,(ae ba)⟩ rfl ?_;refine cD (dB aa ay) ⟨_,rfl,(ag ba)⟩ rfl ?_;refine dr (bG (ae (ag ba)) aa) rfl<|dr (al aa) rfl<|gh aa (λcA ed=>?_) (λcA ed=>?_)
    ·replace ed:=dR ed;refine bW ⟨_,rfl,.inl cA⟩ rfl ?_;refine bW ⟨_,rfl,.inl (ae cA)⟩ rfl ?_;refine bW ⟨_,rfl,.inl (ag cA)⟩ rfl ?_;refine bW ⟨_,rfl,.inl (ae (ag cA))⟩ rfl ?_;refine bW ⟨_,rfl,.inl (aj cA)⟩ rfl ?_;refine bW ⟨_,rfl,.inl (ae (aj cA))⟩ rfl ?_;refine dr (bD (ag (aj cA)) ay) rfl<|dr (al aa) rfl<|bW ⟨_,rfl,.inl aa⟩ rfl ?_
     refine bW ⟨_,rfl,.inl (ae aa)⟩ rfl ?_;refine bW ⟨_,rfl,.inl (ag aa)⟩ rfl ?_;refine dr (bD (ae (ag aa)) ay) rfl<|dC<|bp (ag (aA (aJ a6))) (ag (aA (aJ af))) (ag (aA (aJ aQ))) aa ?_;clear ba cA an bb a6 af aQ;intro oh m7 m8 m9 kY
     refine ao<|lG kY<|au<|at_<|ar (aB ay) rfl<|aY aa ?_;clear m7 m8 m9 kY;intro oj kZ
     refine ao<|bg<|bS<|bL bm ai (bc kZ) (.ro _ rfl) ?_
     clear kZ a8 aO b9 am
     first|rfl|(simp_all;done)
    ·replace ed:=dp ed;exfalso;omega
  ·skip;refine tf (fn:=Tryz.f5) (gX es er) 212 ai rfl ai aU ?_;intro aS bv hA aT;have bw:ak aS (.tmp 0)=_:=hA 0 _ rfl;have bx:ak aS (.tmp 1)=_:=hA 1 _ rfl;have bB:ak aS (.tmp 2)=_:=hA 2 _ rfl;have a5:bv.length=1:=by rw [aT];rfl
   have bE:bv[0]? =some (.bT (gX es er)):=by rw [aT];rfl
   clear hA aT;refine au<|at_<|aL (cZ bw rfl a5) trivial rfl (λfh ap=>?_)
   have bH:=bu ap a5;have bI:=aK ap bE;have ab:=br ap a5;have ab:_=2:=ab;clear ap bE;refine aL (cZ (ae bx) rfl ab) trivial rfl (λfi ad=>?_);have a8:=bu ad ab;have aO:=aK ad bH;have b9:=aK ad bI;have am:=br ad ab;have am:_=3:=am;clear ad bH bI;refine ar (aB ay) rfl<|bJ (ae (ag bB)) (ag aa) (ae aa) ?_;clear bw bx bB;intro fj bM bN bO
   refine ao<|au<|au<|at_<|ar (bh aM rfl (vd) vu) rfl<|ar (c8 aa) rfl<|bp (ag bM) (ag bN) (ag bO) aa ?_;clear bM bN bO;intro fk a6 af aQ bb
   refine ao<|bj bb (λav=>?_) (λav=>?_)
   ·cases av
   replace av:=dm av;refine bC<|ao<|au<|au<|dZ 26 ai ai ai ai ?_
   refine dr (ax (aH gG rfl aO af az) bk) rfl ?_;refine dr (bh (aE aa aM) rfl ((wQ l).mono (λq h=>show q=dK true from h.trans (by rw [hf]))) vr) rfl ?_;refine dr (c8 aa) rfl<|dr (al aa) rfl<|gh aa (λan a7=>?_) (λan a7=>?_)
   ·cases a7
   replace a7:=dm a7;refine cD (ax (aH gG rfl aO (aj af) az) bk) ⟨_,rfl,an⟩ rfl ?_;refine cD (bh (aE aa aM) rfl (vh l hl) vt) ⟨_,rfl,(ae an)⟩ rfl ?_;refine cD (dB aa ay) ⟨_,rfl,(ag an)⟩ rfl ?_;refine dr (bG (ae (ag an)) aa) rfl<|dr (al aa) rfl<|gh aa (λba cj=>?_) (λba cj=>?_)
   ·replace cj:=dR cj;refine bW ⟨_,rfl,.inl ba⟩ rfl ?_;refine bW ⟨_,rfl,.inl (ae ba)⟩ rfl ?_;refine bW ⟨_,rfl,.inl (ag ba)⟩ rfl ?_;refine dr (bD (ae (ag ba)) ay) rfl<|dr (al aa) rfl<|bW ⟨_,rfl,.inl aa⟩ rfl ?_
    refine bW ⟨_,rfl,.inl (ae aa)⟩ rfl ?_;refine bW ⟨_,rfl,.inl (ag aa)⟩ rfl ?_;refine bW ⟨_,rfl,.inl (ae (ag aa))⟩ rfl ?_;refine bW ⟨_,rfl,.inl (aj aa)⟩ rfl ?_;refine bW ⟨_,rfl,.inl (ae (aj aa))⟩ rfl ?_;refine dr (bD (ag (aj aa)) ay) rfl<|dr (al aa) rfl<|bW ⟨_,rfl,.inl aa⟩ rfl ?_
    refine bW ⟨_,rfl,.inl (ae aa)⟩ rfl ?_;refine bW ⟨_,rfl,.inl (ag aa)⟩ rfl ?_;refine dr (bD (ae (ag aa)) ay) rfl<|dC<|bp (ag (aA (aJ a6))) (ag (aA (aJ af))) (ag (aA (aJ aQ))) aa ?_;clear ba an bb a6 af aQ;intro ol na nb nc k0
    refine ao<|lG k0<|au<|at_<|ar (aB ay) rfl<|aY aa ?_;clear na nb nc k0;intro om k2
    refine ao<|bg<|bS<|bL bm ai (bc k2) (.ro _ rfl) ?_
    clear k2 a8 aO b9 am
    first|rfl|(simp_all;done)
   ·replace cj:=dp cj;exfalso;omega
end
end Go.Proofs.YtbmlgmblfboigaaGreatDoor
