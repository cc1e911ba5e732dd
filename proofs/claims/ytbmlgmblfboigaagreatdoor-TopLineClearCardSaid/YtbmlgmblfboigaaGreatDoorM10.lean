/- Texts of this claim, one behind the other: lemmas for the statement. -/
import Derived.Test.YtbmlgmblfboigaaGreatDoorT0
import Derived.Test.YtbmlgmblfboigaaGreatDoorY1
import Derived.Test.YtbmlgmblfboigaaGreatDoorM4
import Derived.Test.YtbmlgmblfboigaaGreatDoorM3
set_option maxRecDepth 100000
set_option maxHeartbeats 4000000
set_option linter.unusedSimpArgs false
set_option linter.unusedVariables false
namespace Go.Proofs.YtbmlgmblfboigaaGreatDoor
open Go Go.RowKit Go.Proofs
theorem vn:∀ args w,(callFunc 115 args).run Tryz.prog w= .ok (.enter 115 args) w:=λ_ _=>by kernel_rfl
theorem zt:bO Tryz.prog 153 30 1 8 (.int .i64 0):=⟨ai,ai,ai⟩
theorem TQ:bO Tryz.prog 23 59 4 32 (.agg #[.int .i64 0,.int .i64 0,.int .i64 0,.int .i64 0]):=⟨ai,ai,ai⟩
theorem TR:bO Tryz.prog 24 95 2 16 (.agg #[.int .i64 0,.int .i64 0]):=⟨ai,ai,ai⟩
theorem Qb:aQ Tryz.prog 168 true 3:=⟨ai,ai⟩
theorem TS:aQ Tryz.prog 23 false 1:=⟨ai,ai⟩
theorem TT:aQ Tryz.prog 24 false 1:=⟨ai,ai⟩
theorem o6:aQ Tryz.prog 3 false 1:=⟨ai,ai⟩
theorem HO:aQ Tryz.prog 30 false 1:=⟨ai,ai⟩
theorem TU:aQ Tryz.prog 59 true 4:=⟨ai,ai⟩
theorem TV:aQ Tryz.prog 95 true 2:=⟨ai,ai⟩
theorem nk{a b:Int}(h:a=b):AV.v (.int .i64 a)= .v (.int .i64 b):=by rw [h]
abbrev lY(l:aP):List AV:= [.v (.string l.nam),.row 4 (l.js.map bX),.row 2 (l.bs.map cF),.row 3 (l.ss.map ct)]
theorem l8(n lo hi:Int):bN Tryz.prog 55 [mA n,mA lo,mA hi] (λq=>q=dK (dx n lo hi)):=by
 refine cw (fn:=Tryz.f55) 15 ai rfl ai aU ?_;intro ah aD hA ap;have av:ak ah (.tmp 0)=_:=hA 0 _ rfl;have aw:ak ah (.tmp 1)=_:=hA 1 _ rfl;have ax:ak ah (.tmp 2)=_:=hA 2 _ rfl;have az:aD.length=0:=by rw [ap];rfl
 clear hA ap;refine au<|at_<|ar (aB ay) rfl<|bJ (ae av) (ae aw) (ae ax) ?_;clear av aw ax;intro aE af am an
 refine ao<|au<|at_<|ar (al am) rfl<|ar (al (ae af)) rfl<|ar (fA (ae aa) aa) rfl<|ar (al aa) rfl<|bQ aa (λab ad=>?_) (λab ad=>?_)
 ·replace ad:=bt ad;refine aG (al (aj af)) ⟨_,rfl,ab⟩ rfl ?_;refine aG (al (ae (aj an))) ⟨_,rfl,(ae ab)⟩ rfl ?_;refine aG (fA (ae aa) aa) ⟨_,rfl,(ag ab)⟩ rfl ?_;refine ar (bD (ae (ag ab)) aa) rfl<|ar (aB aa) rfl<|aY aa ?_;clear ab af am an;intro aH aA
  refine ao<|bg<|bL bm ai (bc aA) (.ro _ rfl) ?_
  clear aA az
  (simp [dx, *];done)
 replace ad:=bf ad;refine aF ⟨_,rfl,.inl ab⟩ rfl ?_;refine aF ⟨_,rfl,.inl (ae ab)⟩ rfl ?_;refine aF ⟨_,rfl,.inl (ag ab)⟩ rfl ?_;refine ar (bG (ae (ag ab)) ay) rfl<|ar (aB aa) rfl<|aY aa ?_;clear ab af am an;intro aI aC
 refine ao<|bg<|bL bm ai (bc aC) (.ro _ rfl) ?_
 clear aC az
 (simp [dx, *];done)
theorem vo(n m:Int)(hm: -1000000000<=m/\m<=1000000000):bN Tryz.prog 115 [mA n,mA m] (λq=>q=dK (eR n m)):=by
 refine cw (fn:=Tryz.f115) 10 ai rfl ai aU ?_;intro ad ap hA af;have ah:ak ad (.tmp 0)=_:=hA 0 _ rfl;have aj:ak ad (.tmp 1)=_:=hA 1 _ rfl;have av:ap.length=0:=by rw [af];rfl
 clear hA af;refine au<|at_<|ar (aB ay) rfl<|bq (ae ah) (ae aj) ?_;clear ah aj;intro aw am ab
 refine ao<|au<|at_<|ar (al am) rfl<|ar (al (ae ab)) rfl ?_
 (refine ar (qg aa ?_) rfl ?_; · (unfold In64;omega))
 refine ar (al (ae (ag ab))) rfl<|ar (bh (aE (ae (ag aa)) (aE (ae aa) (aE aa aM))) rfl (l8 _ _ _) mi) rfl<|ar (aB aa) rfl<|aY aa ?_;clear am ab;intro ax an
 refine ao<|bg<|bL bm ai (bc an) (.ro _ rfl) ?_
 clear an av;rfl
theorem yH(n:Int):bN Tryz.prog 114 [mA n] (λq=>q=dK (eR n 20000)):=by
 refine cw (fn:=Tryz.f114) 5 ai rfl ai aU ?_;intro ah aj hA ab;have ad:ak ah (.tmp 0)=_:=hA 0 _ rfl;have am:aj.length=0:=by rw [ab];rfl
 clear hA ab;refine au<|at_<|ar (aB ay) rfl<|aY (ae ad) ?_;clear ad;intro an af
 refine ao<|au<|at_<|ar (al af) rfl<|ar (bh (aE aa (aE ay aM)) rfl (vo _ _ aD) vn) rfl ?_
 refine ar (aB aa) rfl<|aY aa ?_;clear af;intro ap ag
 refine ao<|bg<|bL bm ai (bc ag) (.ro _ rfl) ?_
 clear ag am;rfl
theorem fa(ok:Bool)(e:Int):bN Tryz.prog 52 [dK ok,mA e] (λq=>q=mA (dy ok e)):=by
 refine cw (fn:=Tryz.f52) 7 ai rfl ai aU ?_;intro af ax hA ag;have ah:ak af (.tmp 0)=_:=hA 0 _ rfl;have aj:ak af (.tmp 1)=_:=hA 1 _ rfl;have am:ax.length=0:=by rw [ag];rfl
 clear hA ag;refine au<|at_<|ar (aB ay) rfl<|bq (ae ah) (ae aj) ?_;clear ah aj;intro aA an ap
 refine ao<|au<|au<|at_<|ar (al an) rfl<|bq (ae ap) aa ?_;clear an ap;intro aC ab ad
 refine ao<|bj ad (λaz=>?_) (λaz=>?_)
 ·skip;refine au<|at_<|ar (aB ay) rfl<|aY aa ?_;clear ab ad;intro aD av
  refine ao<|bg<|bS<|bL bm ai (bc av) (.ro _ rfl) ?_
  clear av am
  (simp [dy, *];done)
 refine bC<|ao<|au<|at_<|ar (al ab) rfl<|ar (aB aa) rfl<|aY aa ?_;clear ab ad;intro aE aw
 refine ao<|bg<|bL bm ai (bc aw) (.ro _ rfl) ?_
 clear aw am
 (simp [dy, *];done)
theorem pX(l:List Int)(hl:l.length<=1000):bN Tryz.prog 45 [.row 1 (l.map iE)] (λq=>q=mA (gW l)):=by
 refine cw (fn:=Tryz.f45) 15 ai rfl ai aU ?_;intro aT aX hA aH;have aI:ak aT (.tmp 0)=_:=hA 0 _ rfl;have aZ:aX.length=0:=by rw [aH];rfl
 clear hA aH;refine au<|at_<|ar (aB ay) rfl<|aY (ae aI) ?_;clear aI;intro a9 aJ
 refine ao<|au<|au<|at_<|ar (al aJ) rfl<|ar (ax (ca aa rfl zt.1) b7) rfl ?_
 refine ar (al ay) rfl<|bJ (ag aa) (ae aa) aa ?_;clear aJ;intro aK aL aM a2
 refine ao<|bV<|eu (S:=Int) (λi e mem=>(ak e (.tmp 7)= .v (.int .i64 i))/\(ak e (.tmp 5)=ak aK (.tmp 5))/\(ak e (.tmp 6)=ak aK (.tmp 6))/\(mem.length=0)/\((0<=i/\i<=l.length/\gW (l.drop i.toNat)=gW l))) (λi=>(l.length - i).toNat) _ ⟨a2,rfl,rfl,aZ,?_⟩ ?_
 ·exact⟨ah,ah,rfl⟩
 ·rintro i ba bb ⟨am,a3,a5,an,hinv⟩;have aN:=a3.trans aL;have ap:=a5.trans aM;refine au<|at_<|ar (cU am ap) rfl<|bp (ae aN) (ae ap) (ae am) aa ?_;clear aN ap am;intro be af av aj aw
  refine ao<|au<|bj aw (λab=>?_) (λab=>?_)
  ·replace ab:=bt ab;refine bC<|ao<|au<|bV<|au<|at_<|ar (ax (cP zt af aj ah (by(refine cO ?_;omega))) bk) rfl ?_
   refine ar (ax (bF HO rfl aa az) bk) rfl ?_;refine ar (aB aa) rfl<|bp aa (ae (ag af)) (ae (ag av)) (ae (ag aj)) ?_;clear af av aj aw;intro bh aA aO aP aQ
   refine ao<|au<|at_<|ar (al aA) rfl<|ar (dB aa ay) rfl<|bR (ag aA) (ag aO) (ag aP) (ag aQ) aa ?_;clear aA aO aP aQ;intro bo aC aD aE aF aG
   refine ao<|bj aG (λad=>?_) (λad=>?_)
   ·replace ad:=dR ad;refine au<|at_<|ar (al aC) rfl<|ar (aB aa) rfl<|aY aa ?_;clear aG aC aD aE aF;intro bq aR
    refine ao<|bg<|db<|bS<|bS<|db<|bS<|bL bm ai (bc aR) (.ro _ rfl) ?_
    clear aR an;obtain⟨h1,h2,h3⟩:=hinv;rw [<- h3,Dc (i:=i.toNat) ah,if_neg (by assumption)];rfl
   replace ad:=dp ad;refine bC<|cK<|ao<|at_ ?_
   (refine ar (cv aF ay ?_) rfl ?_; · (unfold In64;omega))
   refine ar (al aa) rfl<|bJ (ag aD) (ag aE) aa ?_;clear aG aC aD aE aF;intro br a6 a7 a8
   refine ao<|⟨_,⟨a8,(a6.trans aL.symm),(a7.trans aM.symm),an,?_⟩,?_⟩
   ·(obtain⟨h1,h2,h3⟩:=hinv;refine⟨ah,ah,?_⟩;rw [<- h3,Dc (i:=i.toNat) ah,if_pos (by assumption)];congr 2;omega)
   ·((try dsimp only);omega)
  replace ab:=bf ab;refine dV<|cB<|cB<|dU<|ao<|au<|at_<|ar (aB ay) rfl<|aY aa ?_;clear af av aj aw;intro bu aS
  refine ao<|bg<|bL bm ai (bc aS) (.ro _ rfl) ?_
  clear aS an;obtain⟨h1,h2,h3⟩:=hinv;rw [<- h3,YE ah];rfl
abbrev nn(e:Int):AV:=.clo (.func 110) [] [.ref [mA e]]
abbrev pE(k n:Int)(look:AV):AV:=.clo (.func 112) [] [.ref [mA n],.ref [look],.ref [mA k]]
abbrev Kq(k n e:Int):AV:=.agg [mA k,mA n,mA e]
theorem pY(e:Int):bN Tryz.prog 109 [mA e] (λq=>q=nn e):=by
 refine cw (fn:=Tryz.f109) 4 ai rfl ai aU ?_;intro ah aj hA ab;have ad:ak ah (.tmp 0)=_:=hA 0 _ rfl;have al:aj.length=0:=by rw [ab];rfl
 clear hA ab;refine au<|at_<|ar (tM ad rfl eL) rfl ?_
 refine ar (aB ay) rfl<|aY (ae aa) ?_;clear ad;intro am af
 refine ao<|au<|at_<|ar (kX aM (aE af aM)) rfl<|ar (aB aa) rfl<|aY aa ?_;clear af;intro an ag
 refine ao<|bg<|bL bm ai (bc ag) (.ro _ rfl) ?_
 clear ag al;rfl
theorem MG(e:Int):bN Tryz.prog 110 [.ref [mA e]] (λq=>q=Kq 0 0 e):=by
 refine cw (fn:=Tryz.f110) 4 ai rfl ai aU ?_;intro ay aA hA an;have ap:ak ay (.tmp 0)=_:=hA 0 _ rfl;have ad:aA.length=0:=by rw [an];rfl
 clear hA an;refine au<|at_<|aL (cy AM rfl ad) trivial rfl (λaD af=>?_)
 have ab:=bu af ad;simp only [pS,Value.cells,Nat.reduceAdd]at ab;have ah:=br af ad;have ah:_=1:=ah;clear af;refine bq (ae ap) aa ?_;clear ap;intro aE av aj;refine ao<|au<|at_<|ar (ax (bF HO rfl av az) bk) rfl ?_
 refine ar (dq (bB aa b8) AP AO AN rfl) rfl ?_;refine aL (bP (ag aj) aa rfl rfl ab xg rfl az) trivial rfl (λaF al=>?_);have am:=aZ al ab;simp only [pS,Value.cells,Nat.reduceAdd]at am;have aB:=aX al ah;clear al ab;refine aY (aC (ag aj)) ?_;clear av aj;intro aG aw;refine ao<|bg<|bL bm ai (dE aw am Qb az aN) (eB (.ro _ rfl)) ?_
 clear aw am aB;rfl
theorem rI(k n:Int)(fn:Fn)(m:List AV)(hm:cC.roL m=true):bN Tryz.prog 111 [mA k,mA n,.clo fn [] m] (λq=>q=pE k n (.clo fn [] m)):=by
 refine cw (fn:=Tryz.f111) 8 ai rfl ai aU ?_;intro ab av hA ad;have af:ak ab (.tmp 0)=_:=hA 0 _ rfl;have ah:ak ab (.tmp 1)=_:=hA 1 _ rfl;have aj:ak ab (.tmp 2)=_:=hA 2 _ rfl;have aw:av.length=0:=by rw [ad];rfl
 clear hA ad;refine au<|at_<|ar (tM af rfl eL) rfl ?_
 refine ar (tM (ae ah) rfl eL) rfl ?_;refine ar (tM (ag aj) rfl (by(simp only [cC.roL,cC,YR,YI];assumption))) rfl ?_;refine ar (aB ay) rfl<|bJ (ae (ag aa)) (ag aa) (ae aa) ?_;clear af ah aj;intro ax al am an
 refine ao<|au<|at_<|ar (kX aM (aE am (aE an (aE al aM)))) rfl<|ar (aB aa) rfl<|aY aa ?_;clear al am an;intro az ap
 refine ao<|bg<|bL bm ai (bc ap) (.ro _ rfl) ?_
 clear ap aw;rfl
theorem Qc(l:aP)(i:Int)(hi:0<=i/\i<l.js.length):bN Tryz.prog 113 [mA i,.ref (lY l)] (λq=>q=mA (iP (l.js.getD i.toNat default))):=by
 refine cw (fn:=Tryz.f113) 43 ai rfl ai aU ?_;intro aR a8 hA aS;have aT:ak aR (.tmp 0)=_:=hA 0 _ rfl;have a2:ak aR (.tmp 1)=_:=hA 1 _ rfl;have av:a8.length=0:=by rw [aS];rfl
 clear hA aS;refine au<|at_<|ar (aB ay) rfl<|bq (ae aT) (ae a2) ?_;clear aT a2;intro bE a3 a5
 refine ao<|au<|at_<|ar (ax (bY dN rfl a5) ew) rfl ?_
 refine ar (ax (bF TS rfl aa az) ew) rfl ?_;refine ar (al (ag a3)) rfl<|ar (ax (cP TQ (ae aa) aa ah (by(refine cO ?_;omega))) ew) rfl ?_
 refine ar (ax (bF TU rfl aa az) ew) rfl ?_;refine aL (cy sr rfl av) trivial rfl (λbH aw=>?_);have ap:=bu aw av;simp only [pS,Value.cells,Nat.reduceAdd,bX]at ap;have aK:=br aw av;have aK:_=1:=aK;clear aw;refine aL (bP aa (ae aa) rfl rfl ap uz rfl az) trivial rfl (λa9 aO=>?_);have an:=aZ aO ap;simp only [pS,Value.cells,Nat.reduceAdd,bX]at an;have ba:=aX aO aK;clear aO ap;refine aY (aC aa) ?_;clear a3 a5;intro bb ab;refine ao<|au<|gl (λe mem=>(ak e (.tmp 5)= .v (.bool (g8 (l.js.getD i.toNat default))))/\(ak e (.tmp 4)=ak bb (.tmp 4))/\a9=mem) ?_ ?_
 ·
  refine at_<|ar (aI iu rfl ab) rfl<|ar (ax (aH o6 rfl an aa az) ew) rfl ?_
  refine ar (bh (aE aa aM) rfl (yH _) zW) rfl<|ar (al aa) rfl<|bQ aa (λam be=>?_) (λam be=>?_)
  ·skip;refine aG (aI tI rfl (aj ab)) ⟨_,rfl,am⟩ rfl ?_;refine aG (ax (aH o6 rfl an aa az) ew) ⟨_,rfl,(ae am)⟩ rfl ?_;refine aG (bh (aE aa aM) rfl (yH _) zW) ⟨_,rfl,(ag am)⟩ rfl ?_;refine ar (bD (ae (ag am)) aa) rfl<|ar (al aa) rfl<|bQ aa (λad bf=>?_) (λad bf=>?_)
   ·skip;refine aG (aI fU rfl (ae (aA ab))) ⟨_,rfl,ad⟩ rfl ?_;refine aG (aI fx rfl aa) ⟨_,rfl,(ae ad)⟩ rfl ?_;refine aG (ax (aH o6 rfl an aa az) ew) ⟨_,rfl,(ag ad)⟩ rfl ?_;refine aG (bh (aE aa (aE ay aM)) rfl (vo _ _ aD) vn) ⟨_,rfl,(ae (ag ad))⟩ rfl ?_;refine ar (bD (aj ad) aa) rfl<|ar (al aa) rfl<|bQ aa (λaf bj=>?_) (λaf bj=>?_)
    ·skip;refine aG (aI fU rfl (ae (ag (aj (aA ab))))) ⟨_,rfl,af⟩ rfl ?_;refine aG (aI fy rfl aa) ⟨_,rfl,(ae af)⟩ rfl ?_;refine aG (ax (aH o6 rfl an aa az) ew) ⟨_,rfl,(ag af)⟩ rfl ?_;refine aG (bh (aE aa (aE ay aM)) rfl (vo _ _ aD) vn) ⟨_,rfl,(ae (ag af))⟩ rfl ?_;refine ar (bD (aj af) aa) rfl<|ar (aB aa) rfl<|bq (ae (aj (aJ ab))) aa ?_;intro bI bk bo
     refine ao ⟨(bo).trans (by(refine cu ?_;unfold g8;simp_all)),(bk).trans (ab).symm,rfl⟩
    refine aF ⟨_,rfl,.inl af⟩ rfl ?_;refine aF ⟨_,rfl,.inl (ae af)⟩ rfl ?_;refine aF ⟨_,rfl,.inl (ag af)⟩ rfl ?_;refine aF ⟨_,rfl,.inl (ae (ag af))⟩ rfl ?_;refine ar (bG (aj af) ay) rfl<|ar (aB aa) rfl<|bq (ae (aj (aJ ab))) aa ?_;intro bJ bp bv
    refine ao ⟨(bv).trans (by(refine cu ?_;unfold g8;simp_all)),(bp).trans (ab).symm,rfl⟩
   refine aF ⟨_,rfl,.inl ad⟩ rfl ?_;refine aF ⟨_,rfl,.inl (ae ad)⟩ rfl ?_;refine aF ⟨_,rfl,.inl (ag ad)⟩ rfl ?_;refine aF ⟨_,rfl,.inl (ae (ag ad))⟩ rfl ?_;refine ar (bG (aj ad) ay) rfl<|ar (al aa) rfl<|aF ⟨_,rfl,.inl aa⟩ rfl ?_
   refine aF ⟨_,rfl,.inl (ae aa)⟩ rfl ?_;refine aF ⟨_,rfl,.inl (ag aa)⟩ rfl ?_;refine aF ⟨_,rfl,.inl (ae (ag aa))⟩ rfl ?_;refine ar (bG (aj aa) ay) rfl<|ar (aB aa) rfl<|bq (ae (aj (aJ ab))) aa ?_;intro bM bw bx
   refine ao ⟨(bx).trans (by(refine cu ?_;unfold g8;simp_all)),(bw).trans (ab).symm,rfl⟩
  refine aF ⟨_,rfl,.inl am⟩ rfl ?_;refine aF ⟨_,rfl,.inl (ae am)⟩ rfl ?_;refine aF ⟨_,rfl,.inl (ag am)⟩ rfl ?_;refine ar (bG (ae (ag am)) ay) rfl<|ar (al aa) rfl<|aF ⟨_,rfl,.inl aa⟩ rfl ?_
  refine aF ⟨_,rfl,.inl (ae aa)⟩ rfl ?_;refine aF ⟨_,rfl,.inl (ag aa)⟩ rfl ?_;refine aF ⟨_,rfl,.inl (ae (ag aa))⟩ rfl ?_;refine ar (bG (aj aa) ay) rfl<|ar (al aa) rfl<|aF ⟨_,rfl,.inl aa⟩ rfl ?_
  refine aF ⟨_,rfl,.inl (ae aa)⟩ rfl ?_;refine aF ⟨_,rfl,.inl (ag aa)⟩ rfl ?_;refine aF ⟨_,rfl,.inl (ae (ag aa))⟩ rfl ?_;refine ar (bG (aj aa) ay) rfl<|ar (aB aa) rfl<|bq (ae (aj (aJ ab))) aa ?_;intro bO bz bA
  refine ao ⟨(bA).trans (by(refine cu ?_;unfold g8;simp_all)),(bz).trans (ab).symm,rfl⟩
 ·rintro bR _ ⟨a6,bC,rfl⟩;have aQ:=bC.trans ab;refine au<|dZ 13 ai ai ai ai ?_
  refine dr (al a6) rfl<|dr (bh (aE aa (aE ay aM)) rfl (fa _ _) fc) rfl<|dr (aI fU rfl (ag aQ)) rfl<|dr (aI fx rfl aa) rfl<|dr (ax (aH o6 rfl an aa az) ew) rfl ?_
  refine dr (aI fU rfl (ae (aj aQ))) rfl<|dr (aI fy rfl aa) rfl<|dr (ax (aH o6 rfl an aa az) ew) rfl ?_
  refine dr (fA (ae (ag aa)) aa) rfl<|dr (bh (aE aa (aE ay aM)) rfl (fa _ _) fc) rfl<|dr (ez zt (bB (aA aa) (bB aa b8)) rfl rfl rfl rfl) rfl<|dr (bh (aE aa aM) rfl (pX [_,_] aN) qq) rfl ?_
  refine dr (aB aa) rfl<|dC<|aY aa ?_;clear aQ a6;intro bS a7
  refine ao<|bg<|bL bm ai (bc a7) (.ro _ rfl) ?_
  clear a7 an ba
  (refine nk ?_;unfold iP;cases g8 (l.js.getD i.toNat default)<;>simp [gW,dy])
theorem Qd(l:aP)(i:Int)(hi:0<=i/\i<l.bs.length):bN Tryz.prog 116 [mA i,.ref (lY l)] (λq=>q=mA (iQ (l.bs.getD i.toNat default))):=by
 refine cw (fn:=Tryz.f116) 19 ai rfl ai aU ?_;intro aA a2 hA aJ;have aK:ak aA (.tmp 0)=_:=hA 0 _ rfl;have aN:ak aA (.tmp 1)=_:=hA 1 _ rfl;have an:a2.length=0:=by rw [aJ];rfl
 clear hA aJ;refine au<|at_<|ar (aB ay) rfl<|bq (ae aK) (ae aN) ?_;clear aK aN;intro a5 aO aQ
 refine ao<|au<|at_<|ar (ax (bY dO rfl aQ) mU) rfl ?_
 refine ar (ax (bF TT rfl aa az) mU) rfl ?_;refine ar (al (ag aO)) rfl<|ar (ax (cP TR (ae aa) aa ah (by(refine cO ?_;omega))) mU) rfl ?_
 refine ar (ax (bF TV rfl aa az) mU) rfl ?_;refine aL (cy xM rfl an) trivial rfl (λa6 ap=>?_);have af:=bu ap an;simp only [pS,Value.cells,Nat.reduceAdd,cF]at af;have av:=br ap an;have av:_=1:=av;clear ap;refine aL (bP aa (ae aa) rfl rfl af xO rfl az) trivial rfl (λa7 aw=>?_);have ad:=aZ aw af;simp only [pS,Value.cells,Nat.reduceAdd,cF]at ad;have aR:=aX aw av;clear aw af;refine aY (aC aa) ?_;clear aO aQ;intro a8 am;refine ao<|au<|at_<|ar (aI mb rfl am) rfl<|ar (ax (aH o6 rfl ad aa az) mU) rfl ?_
 refine ar (bh (aE aa (aE ay (aE ay aM))) rfl (l8 _ _ _) mi) rfl<|ar (al aa) rfl<|bQ aa (λab a3=>?_) (λab a3=>?_)
 ·skip;refine aG (aI tJ rfl (aj am)) ⟨_,rfl,ab⟩ rfl ?_;refine aG (ax (aH o6 rfl ad aa az) mU) ⟨_,rfl,(ae ab)⟩ rfl ?_;refine aG (bh (aE aa (aE ay aM)) rfl (vo _ _ aD) vn) ⟨_,rfl,(ag ab)⟩ rfl ?_;refine ar (bD (ae (ag ab)) aa) rfl<|ar (bh (aE aa (aE ay aM)) rfl (fa _ _) fc) rfl<|ar (aB aa) rfl<|aY aa ?_;clear ab am;intro a9 aS
  refine ao<|bg<|bL bm ai (bc aS) (.ro _ rfl) ?_
  clear aS ad aR
  (refine nk ?_;unfold iQ lR dy;simp_all)
 refine aF ⟨_,rfl,.inl ab⟩ rfl ?_;refine aF ⟨_,rfl,.inl (ae ab)⟩ rfl ?_;refine aF ⟨_,rfl,.inl (ag ab)⟩ rfl ?_;refine ar (bG (ae (ag ab)) ay) rfl<|ar (bh (aE aa (aE ay aM)) rfl (fa _ _) fc) rfl<|ar (aB aa) rfl<|aY aa ?_;clear ab am;intro ba aT
 refine ao<|bg<|bL bm ai (bc aT) (.ro _ rfl) ?_
 clear aT ad aR
 (refine nk ?_;unfold iQ lR dy;simp_all)
theorem pZ:∀ args w,(callFunc 109 args).run Tryz.prog w= .ok (.enter 109 args) w:=λ_ _=>by kernel_rfl
theorem rl:∀ args w,(callFunc 111 args).run Tryz.prog w= .ok (.enter 111 args) w:=λ_ _=>by kernel_rfl
theorem E2:bO Tryz.prog 107 5 1 1 (.int .u8 0):=⟨ai,ai,ai⟩
theorem E3:bO Tryz.prog 164 166 1 8 (.nilFunc):=⟨ai,ai,ai⟩
theorem Ak:bO Tryz.prog 23 59 4 32 (.agg #[.int .i64 0,.int .i64 0,.int .i64 0,.int .i64 0]):=⟨ai,ai,ai⟩
theorem rJ:bO Tryz.prog 24 95 2 16 (.agg #[.int .i64 0,.int .i64 0]):=⟨ai,ai,ai⟩
theorem wM:bO Tryz.prog 25 97 3 48 (.agg #[.string ByteArray.empty,.int .i64 0,.slice none 0 0]):=⟨ai,ai,ai⟩
theorem Qe:aQ Tryz.prog 122 false 1:=⟨ai,ai⟩
theorem E4:aQ Tryz.prog 168 true 3:=⟨ai,ai⟩
theorem Am:aQ Tryz.prog 23 false 1:=⟨ai,ai⟩
theorem rK:aQ Tryz.prog 24 false 1:=⟨ai,ai⟩
theorem wN:aQ Tryz.prog 25 false 1:=⟨ai,ai⟩
theorem I9:aQ Tryz.prog 3 false 1:=⟨ai,ai⟩
theorem Vy:aQ Tryz.prog 5 false 1:=⟨ai,ai⟩
theorem Vz:aQ Tryz.prog 9 false 1:=⟨ai,ai⟩
theorem VA:Tryz.prog.underlying 5=some (.int .u8):=by kernel_rfl
theorem Qf:Tryz.prog.underlying 107=some (.slice 5):=by kernel_rfl
def mG(k:Int)(e:Nat->Int)(n:Nat):(Int×Int)×Int:=match g9 e n with
 | some i=>((k,i),e i)
 | none=>((0,0),0)
abbrev uS(r:(Int×Int)×Int):AV:=Kq r.1.1 r.1.2 r.2
theorem Qg(k n:Int)(f:FuncId)(m:List AV)(er:Nat->Int)(hn:0<=n/\n<=1000000)(hro:cC.roL m=true)(dY:∀ args w,(callFunc f args).run Tryz.prog w= .ok (.enter f args) w)(hc:∀ i:Int,0<=i->i<n->bN Tryz.prog f ([]++ [mA i]++m) (λq=>q=mA (er i.toNat))):
 bN Tryz.prog 112 [.ref [mA n],.ref [.clo (.func f) [] m],.ref [mA k]] (λq=>q=uS (mG k er n.toNat)):=by
 refine cw (fn:=Tryz.f112) 22 ai rfl ai aU ?_;intro aA ca hA bh;have bo:ak aA (.tmp 0)=_:=hA 0 _ rfl;have bq:ak aA (.tmp 1)=_:=hA 1 _ rfl;have bv:ak aA (.tmp 2)=_:=hA 2 _ rfl;have aD:ca.length=0:=by rw [bh];rfl
 clear hA bh;refine au<|at_<|aL (cy AM rfl aD) trivial rfl (λcb aF=>?_)
 have aG:=bu aF aD;simp only [pS,Value.cells,Nat.reduceAdd]at aG;have aH:=br aF aD;have aH:_=1:=aH;clear aF;refine bp (ae bo) (ae bq) (ae bv) aa ?_;clear bo bq bv;intro cx bw bx bz bA;refine ao<|au<|au<|at_<|ar (ax (bF I9 rfl bw az) bk) rfl ?_
 refine ar (al ay) rfl<|bR (ag bx) (ag bz) (ag bA) (ae aa) aa ?_;clear bw bx bz bA;intro ap bD bE bG bH cc
 refine ao<|bV<|eu (S:=Int) (λi e mem=>(ak e (.tmp 7)= .v (.int .i64 i))/\(ak e (.tmp 1)=ak ap (.tmp 1))/\(ak e (.tmp 2)=ak ap (.tmp 2))/\(ak e (.tmp 3)=ak ap (.tmp 3))/\(ak e (.tmp 6)=ak ap (.tmp 6))/\(mem[0]? =cb[0]?)/\(mem.length=1)/\((0<=i/\i<=n/\ ∀ j:Nat,j<i.toNat->er j=0))) (λi=>(n - i).toNat) _ ⟨cc,rfl,rfl,rfl,rfl,rfl,aH,?_⟩ ?_
 ·(exact⟨ah,ah,λj h=>absurd h ah⟩)
 ·rintro i cz cA ⟨aI,cd,ce,cf,cg,ci,aJ,hinv⟩;have bI:=cd.trans bD;have bJ:=ce.trans bE;have bM:=cf.trans bG;have aK:=cg.trans bH;have ab:=ci.trans aG
  (obtain⟨p1,p2,p3⟩:=hinv)
  refine au<|at_<|ar (cU aI aK) rfl<|dh (ae bI) (ae bJ) (ae bM) (ae aK) (ae aI) aa ?_;clear bI bJ bM aK aI;intro cD aO aP ad aQ av aR
  refine ao<|au<|bj aR (λaf=>?_) (λaf=>?_)
  ·replace af:=bt af;refine bC<|ao<|au<|bV<|au<|at_<|ar (al av) rfl<|ar (aB aa) rfl<|dh (ag aO) (ag aP) (ag ad) aa (ag aQ) (ag av) ?_;clear aO aP ad aQ av aR;intro cE aS bO bQ aT bT bW
   refine ao<|au<|at_<|ar (ax (bF Qe rfl aS az) bk) rfl ?_
   refine ar (al (ae aT)) rfl<|ar (EF (ae aa) (aE aa aM) rfl rfl hro (hc i ah ah) dY) rfl ?_
   refine ar (aB aa) rfl<|fX (aj aS) (aj bO) (aj bQ) (aj aT) aa (aj bT) (aj bW) ?_;clear aS bO bQ aT bT bW;intro cG bY bZ b0 b1 a2 b2 b6
   refine ao<|au<|at_<|ar (al a2) rfl<|ar (dB aa ay) rfl<|uQ (ag bY) (ag bZ) (ag b0) (ag b1) (ag a2) (ag b2) (ag b6) aa ?_;clear bY bZ b0 b1 a2 b2 b6;intro cH a3 aw am a5 a6 a7 a8 a9
   refine ao<|bj a9 (λan=>?_) (λan=>?_)
   ·replace an:=dR an;refine au<|at_<|ar (ax (bF I9 rfl aw az) bk) rfl ?_
    refine ar (al (ae a5)) rfl<|ar (dq (bB (ae aa) (bB aa b8)) mr mq mo rfl) rfl ?_
    refine ar (al (ae (ag a6))) rfl<|ar (dq (bB (ae aa) (bB aa b8)) AP AO AN rfl) rfl ?_
    refine aL (bP (ae (aj am)) aa rfl rfl ab xg rfl az) trivial rfl (λcI ba=>?_);have bb:=aZ ba ab;simp only [pS,Value.cells,Nat.reduceAdd]at bb;have cj:=aX ba aJ;clear ba ab;refine aY (aC (ae (aj am))) ?_;clear a9 a3 aw am a5 a6 a7 a8;intro cJ b7;refine ao<|bg<|db<|bS<|bS<|db<|bS<|bL bm ai (dE b7 bb E4 az aN) (eB (.ro _ rfl)) ?_
    clear b7 bb cj
    (have h:=yW p3 (by assumption) (n:=n.toNat) ah;rw [show mG k er n.toNat=((k,i),er i.toNat)by unfold mG;rw [h];simp only [Yn p1]];rfl)
   replace an:=dp an;refine bC<|cK<|ao<|at_ ?_
   (refine ar (cv a8 ay ?_) rfl ?_; · (unfold In64;omega))
   refine ar (al aa) rfl<|bR (ag a3) (ag aw) (ag am) (ag a7) aa ?_;clear a9 a3 aw am a5 a6 a7 a8;intro cL ck cm cn co cr
   refine ao<|⟨_,⟨cr,(ck.trans bD.symm),(cm.trans bE.symm),(cn.trans bG.symm),(co.trans bH.symm),(ab.trans aG.symm),aJ,?_⟩,?_⟩
   ·(refine⟨ah,ah,λj hj=>?_⟩;by_cases hji:j<i.toNat;(exact p3 j hji);(rw [show j=i.toNat by omega];assumption))
   ·((try dsimp only);omega)
  replace af:=bf af;refine dV<|cB<|cB<|dU<|ao<|au<|at_<|ar (dq b8 AP AO AN rfl) rfl ?_
  refine aL (bP (ae ad) aa rfl rfl ab xg rfl az) trivial rfl (λcM bc=>?_);have be:=aZ bc ab;simp only [pS,Value.cells,Nat.reduceAdd]at be;have cu:=aX bc aJ;clear bc ab;refine aY (aC (ae ad)) ?_;clear aO aP ad aQ av aR;intro cN b9;refine ao<|bg<|bL bm ai (dE b9 be E4 az aN) (eB (.ro _ rfl)) ?_
  clear b9 be cu
  (have h:=sX (f:=er) (n:=n.toNat) (λj hj=>p3 j ah);rw [show mG k er n.toNat=((0,0),0)by unfold mG;rw [h]];rfl)
def yh(l:aP):List (List AV):= [[nn (dy (dF l.nam) 4)],[nn (dy (decide ((0:Int)<l.bs.length/\(l.js.length:Int)=l.bs.length+1)) 10)],[nn (dy (decide ((l.bs.length:Int)<=40)) 8)],
 [pE 1 l.js.length (.clo (.func 113) [] [.ref (lY l)])],[pE 2 l.bs.length (.clo (.func 116) [] [.ref (lY l)])],[nn (dy (decide ((l.ss.length:Int)<=4)) 8)],[pE 3 l.ss.length (.clo (.func 117) [] [.ref (lY l)])]]
theorem vg(s:ByteArray)(hs:s.size<=1000000000):bN Tryz.prog 94 [.v (.string s)] (λq=>q= .v (.bool (dF s))):=by
 refine cw (fn:=Tryz.f94) 54 ai rfl ai aU ?_;intro b2 b6 hA bI;have bJ:ak b2 (.tmp 0)=_:=hA 0 _ rfl;have b8:b6.length=0:=by rw [bI];rfl
 clear hA bI;have hsl:=HM s;refine au<|at_<|ar (aB ay) rfl<|aY (ae bJ) ?_;clear bJ;intro dW br
 refine ao<|au<|au<|at_<|ar (al br) rfl<|ar (U9 fj Qf VA aa) rfl<|ar (ax (ca aa rfl E2.1) b7) rfl ?_
 refine ar (al ay) rfl<|bp (aj br) (ag aa) (ae aa) aa ?_;clear br;intro bu bM bO bP b9
 refine ao<|bV<|eu (S:=Int) (λi e mem=>(ak e (.tmp 9)= .v (.int .i64 i))/\(ak e (.tmp 0)=ak bu (.tmp 0))/\(ak e (.tmp 7)=ak bu (.tmp 7))/\(ak e (.tmp 8)=ak bu (.tmp 8))/\(mem.length=0)/\((0<=i/\i<=s.data.toList.length/\ ∀ j:Nat,j<i.toNat->okB j (s.data.toList.getD j default)=true))) (λi=>(s.data.toList.length - i).toNat) _ ⟨b9,rfl,rfl,rfl,b8,?_⟩ ?_
 ·exact⟨ah,ah,λj hj=>by omega⟩
 ·rintro i dX bT ⟨bv,cb,cc,cd,bb,hinv⟩;have bW:=cb.trans bM;have bY:=cc.trans bO;have bw:=cd.trans bP;refine au<|at_<|ar (cU bv bw) rfl<|bR (ae bW) (ae bY) (ae bw) (ae bv) aa ?_;clear bW bY bw bv;intro dY aP aS be aQ bh
  refine ao<|au<|bj bh (λaT=>?_) (λaT=>?_)
  ·replace aT:=bt aT;refine bC<|ao<|au<|bV<|au<|at_<|ar (al aQ) rfl<|ar (ax (cP E2 (ae aS) (ae aQ) ah (by(refine cO ?_;omega))) bk) rfl ?_
   refine ar (ax (bF Vy rfl aa az) bk) rfl ?_;refine ar (aB (ag aa)) rfl<|ar (aB (ae aa)) rfl<|dh (ae (aj aP)) (ae aa) aa (ae (aj aS)) (ae (aj be)) (ae (aj aQ)) ?_;clear aP bh aS be aQ;intro aR aE aH ad aI aK aL
   refine ao<|au<|gl (λe mem=>(ak e (.tmp 5)= .v (.bool (gA (s.data.toList.getD i.toNat default).toNat)))/\(ak e (.tmp 0)=ak aR (.tmp 0))/\(ak e (.tmp 3)=ak aR (.tmp 3))/\(ak e (.tmp 4)=ak aR (.tmp 4))/\(ak e (.tmp 7)=ak aR (.tmp 7))/\(ak e (.tmp 8)=ak aR (.tmp 8))/\(ak e (.tmp 9)=ak aR (.tmp 9))/\bT=mem) ?_ ?_
   ·
    refine at_<|ar (al ad) rfl<|ar (mW aa ay) rfl<|ar (al aa) rfl<|bQ aa (λaM aX=>?_) (λaM aX=>?_)
    ·replace aX:=bt aX;refine aG (al (ae (ag ad))) ⟨_,rfl,aM⟩ rfl ?_;refine aG (fA aa ay) ⟨_,rfl,(ae aM)⟩ rfl ?_;refine ar (bD (ag aM) aa) rfl<|ar (al aa) rfl<|bQ aa (λan aZ=>?_) (λan aZ=>?_)
     ·replace aZ:=bt aZ;refine aF ⟨_,rfl,.inl an⟩ rfl ?_;refine aF ⟨_,rfl,.inl (ae an)⟩ rfl ?_;refine aF ⟨_,rfl,.inl (ag an)⟩ rfl ?_;refine aF ⟨_,rfl,.inr aa⟩ rfl ?_;refine aF ⟨_,rfl,.inr (ae aa)⟩ rfl ?_;refine aF ⟨_,rfl,.inl (ae (aj an))⟩ rfl ?_;refine ar (bD (ag (aj an)) ay) rfl<|ar (aB aa) rfl<|fX (ae (ag (aj (aA aE)))) (ae (ag (aj (aA aH)))) (ae (ag (aj (aA ad)))) aa (ae (ag (aj (aA aI)))) (ae (ag (aj (aA aK)))) (ae (ag (aj (aA aL)))) ?_;intro dZ ce cf cg ci cj ck cm
      refine ao ⟨(ci).trans (by(refine cu ?_;simp only [gA,decide_eq_true_eq,Xi,true_iff,false_iff];omega)),(ce).trans (aE).symm,(cf).trans (aH).symm,(cg).trans (ad).symm,(cj).trans (aI).symm,(ck).trans (aK).symm,(cm).trans (aL).symm,rfl⟩
     replace aZ:=bf aZ;refine aG (al (ae (ag (aj ad)))) ⟨_,rfl,an⟩ rfl ?_;refine aG (mW aa ay) ⟨_,rfl,(ae an)⟩ rfl ?_;refine aG (al aa) ⟨_,rfl,(ag an)⟩ rfl ?_;refine bQ aa (λbo a2=>?_) (λbo a2=>?_)
     ·replace a2:=bt a2;refine aG (al (ag (aA ad))) ⟨_,rfl,bo⟩ rfl ?_;refine aG (fA aa ay) ⟨_,rfl,(ae bo)⟩ rfl ?_;refine aG (bD (ag bo) aa) ⟨_,rfl,(ae (aj an))⟩ rfl ?_;refine ar (bG (ag (aj an)) aa) rfl<|ar (aB aa) rfl<|fX (ae (ag (aj (aA aE)))) (ae (ag (aj (aA aH)))) (ae (ag (aj (aA ad)))) aa (ae (ag (aj (aA aI)))) (ae (ag (aj (aA aK)))) (ae (ag (aj (aA aL)))) ?_;intro ea cn co cr cx cy cz cA
      refine ao ⟨(cx).trans (by(refine cu ?_;simp only [gA,decide_eq_true_eq,Xi,true_iff,false_iff];omega)),(cn).trans (aE).symm,(co).trans (aH).symm,(cr).trans (ad).symm,(cy).trans (aI).symm,(cz).trans (aK).symm,(cA).trans (aL).symm,rfl⟩
     ·replace a2:=bf a2;exfalso;omega
    replace aX:=bf aX;refine aF ⟨_,rfl,.inl aM⟩ rfl ?_;refine aF ⟨_,rfl,.inl (ae aM)⟩ rfl ?_;refine ar (bG (ag aM) ay) rfl<|ar (al aa) rfl<|aG (al (ae (ag (aj ad)))) ⟨_,rfl,aa⟩ rfl ?_
    refine aG (mW aa ay) ⟨_,rfl,(ae aa)⟩ rfl ?_;refine aG (al aa) ⟨_,rfl,(ag aa)⟩ rfl ?_;refine bQ aa (λaN a3=>?_) (λaN a3=>?_)
    ·replace a3:=bt a3;refine aG (al (ag (aA ad))) ⟨_,rfl,aN⟩ rfl ?_;refine aG (fA aa ay) ⟨_,rfl,(ae aN)⟩ rfl ?_;refine aG (bD (ag aN) aa) ⟨_,rfl,(ae (aj aa))⟩ rfl ?_;refine ar (bG (ag (aj aa)) aa) rfl<|ar (aB aa) rfl<|fX (ae (ag (aj (aA aE)))) (ae (ag (aj (aA aH)))) (ae (ag (aj (aA ad)))) aa (ae (ag (aj (aA aI)))) (ae (ag (aj (aA aK)))) (ae (ag (aj (aA aL)))) ?_;intro eb cC cD cE cG cH cI cJ
     refine ao ⟨(cG).trans (by(refine cu ?_;simp only [gA,decide_eq_true_eq,Xi,true_iff,false_iff];omega)),(cC).trans (aE).symm,(cD).trans (aH).symm,(cE).trans (ad).symm,(cH).trans (aI).symm,(cI).trans (aK).symm,(cJ).trans (aL).symm,rfl⟩
    replace a3:=bf a3;refine aF ⟨_,rfl,.inl aN⟩ rfl ?_;refine aF ⟨_,rfl,.inl (ae aN)⟩ rfl ?_;refine aG (bG (ag aN) ay) ⟨_,rfl,(ae (aj aa))⟩ rfl ?_;refine ar (bG (ag (aj aa)) aa) rfl<|ar (aB aa) rfl<|fX (ae (ag (aj (aA aE)))) (ae (ag (aj (aA aH)))) (ae (ag (aj (aA ad)))) aa (ae (ag (aj (aA aI)))) (ae (ag (aj (aA aK)))) (ae (ag (aj (aA aL)))) ?_;intro ec cL cM cN cQ cR cT cV
    refine ao ⟨(cQ).trans (by(refine cu ?_;simp only [gA,decide_eq_true_eq,Xi,true_iff,false_iff];omega)),(cL).trans (aE).symm,(cM).trans (aH).symm,(cN).trans (ad).symm,(cR).trans (aI).symm,(cT).trans (aK).symm,(cV).trans (aL).symm,rfl⟩
   ·rintro bq _ ⟨cW,cX,cY,cZ,c6,c7,c9,rfl⟩;have ap:=cX.trans aE;have da:=cY.trans aH;have bx:=cZ.trans ad;have av:=c6.trans aI;have aw:=c7.trans aK;have aC:=c9.trans aL;refine au<|gl (λe mem=>(ak e (.tmp 45)= .v (.bool (!okB i.toNat (s.data.toList.getD i.toNat default))))/\(ak e (.tmp 0)=ak bq (.tmp 0))/\(ak e (.tmp 7)=ak bq (.tmp 7))/\(ak e (.tmp 8)=ak bq (.tmp 8))/\(ak e (.tmp 9)=ak bq (.tmp 9))/\bT=mem) ?_ ?_
    ·
     refine at_<|ar (al cW) rfl<|ar (c8 aa) rfl<|ar (al aa) rfl<|bQ aa (λab a5=>?_) (λab a5=>?_)
     ·replace a5:=dR a5;refine aG (al (ae (ag da))) ⟨_,rfl,ab⟩ rfl ?_;refine aG (e6 aa ay) ⟨_,rfl,(ae ab)⟩ rfl ?_;refine aG (al aa) ⟨_,rfl,(ag ab)⟩ rfl ?_;refine bQ aa (λaf a6=>?_) (λaf a6=>?_)
      ·replace a6:=bt a6;refine aF ⟨_,rfl,.inl af⟩ rfl ?_;refine aF ⟨_,rfl,.inl (ae af)⟩ rfl ?_;refine aF ⟨_,rfl,.inl (ag af)⟩ rfl ?_;refine aF ⟨_,rfl,.inr aa⟩ rfl ?_;refine aF ⟨_,rfl,.inr (ae aa)⟩ rfl ?_;refine aF ⟨_,rfl,.inr (ag aa)⟩ rfl ?_;refine aF ⟨_,rfl,.inr aa⟩ rfl ?_;refine aF ⟨_,rfl,.inr (ae aa)⟩ rfl ?_;refine aF ⟨_,rfl,.inr (ae (aj aa))⟩ rfl ?_;refine aF ⟨_,rfl,.inl (ae (aA af))⟩ rfl ?_;refine aG (bD (ag (aA af)) ay) ⟨_,rfl,(ae (aj (aA ab)))⟩ rfl ?_;refine ar (bD (ag (aj (aA ab))) aa) rfl<|bR (ag (aJ ap)) (ag (aJ av)) (ag (aJ aw)) (ag (aJ aC)) aa ?_;intro ed dc dd de df dg
       refine ao ⟨(dg).trans (by(refine cu ?_;simp only [gA,okB,decide_eq_true_eq,decide_eq_false_iff_not,Xi,true_iff,false_iff,XF]at*;omega)),(dc).trans (ap).symm,(dd).trans (av).symm,(de).trans (aw).symm,(df).trans (aC).symm,rfl⟩
      replace a6:=bf a6;refine aG (al (ag (aj bx))) ⟨_,rfl,af⟩ rfl ?_;refine aG (dB aa ay) ⟨_,rfl,(ae af)⟩ rfl ?_;refine aG (al aa) ⟨_,rfl,(ag af)⟩ rfl ?_;refine bQ aa (λam a7=>?_) (λam a7=>?_)
      ·replace a7:=dR a7;refine aG (al (ae (aA bx))) ⟨_,rfl,am⟩ rfl ?_;refine aG (cU aa ay) ⟨_,rfl,(ae am)⟩ rfl ?_;refine aG (al aa) ⟨_,rfl,(ag am)⟩ rfl ?_;refine bQ aa (λaO a8=>?_) (λaO a8=>?_)
       ·replace a8:=bt a8;refine aF ⟨_,rfl,.inl aO⟩ rfl ?_;refine aF ⟨_,rfl,.inl (ae aO)⟩ rfl ?_;refine aG (bD (ag aO) ay) ⟨_,rfl,(ae (aj am))⟩ rfl ?_;refine aG (bD (ag (aj am)) aa) ⟨_,rfl,(ae (aA af))⟩ rfl ?_;refine aG (bG (ag (aA af)) aa) ⟨_,rfl,(ae (aj (aA ab)))⟩ rfl ?_;refine ar (bD (ag (aj (aA ab))) aa) rfl<|bR (ag (aJ ap)) (ag (aJ av)) (ag (aJ aw)) (ag (aJ aC)) aa ?_;intro ee dj dk dl dn dq
        refine ao ⟨(dq).trans (by(refine cu ?_;simp only [gA,okB,decide_eq_true_eq,decide_eq_false_iff_not,Xi,true_iff,false_iff,XF]at*;omega)),(dj).trans (ap).symm,(dk).trans (av).symm,(dl).trans (aw).symm,(dn).trans (aC).symm,rfl⟩
       replace a8:=bf a8;refine aG (al (aj (aA bx))) ⟨_,rfl,aO⟩ rfl ?_;refine aG (ey aa ay) ⟨_,rfl,(ae aO)⟩ rfl ?_;refine aG (bG (ag aO) aa) ⟨_,rfl,(ae (aj am))⟩ rfl ?_;refine aG (bD (ag (aj am)) aa) ⟨_,rfl,(ae (aA af))⟩ rfl ?_;refine aG (bG (ag (aA af)) aa) ⟨_,rfl,(ae (aj (aA ab)))⟩ rfl ?_;refine ar (bD (ag (aj (aA ab))) aa) rfl<|bR (ag (aJ ap)) (ag (aJ av)) (ag (aJ aw)) (ag (aJ aC)) aa ?_;intro ef dr dt du dv dw
       refine ao ⟨(dw).trans (by(refine cu ?_;simp only [gA,okB,decide_eq_true_eq,decide_eq_false_iff_not,Xi,true_iff,false_iff,XF]at*;omega)),(dr).trans (ap).symm,(dt).trans (av).symm,(du).trans (aw).symm,(dv).trans (aC).symm,rfl⟩
      replace a7:=dp a7;refine aF ⟨_,rfl,.inl am⟩ rfl ?_;refine aF ⟨_,rfl,.inl (ae am)⟩ rfl ?_;refine aF ⟨_,rfl,.inl (ag am)⟩ rfl ?_;refine aF ⟨_,rfl,.inr aa⟩ rfl ?_;refine aF ⟨_,rfl,.inr (ae aa)⟩ rfl ?_;refine aF ⟨_,rfl,.inl (ae (aj am))⟩ rfl ?_;refine aG (bG (ag (aj am)) ay) ⟨_,rfl,(ae (aA af))⟩ rfl ?_;refine aG (bG (ag (aA af)) aa) ⟨_,rfl,(ae (aj (aA ab)))⟩ rfl ?_;refine ar (bD (ag (aj (aA ab))) aa) rfl<|bR (ag (aJ ap)) (ag (aJ av)) (ag (aJ aw)) (ag (aJ aC)) aa ?_;intro eg dx dy dz dA dC
      refine ao ⟨(dC).trans (by(refine cu ?_;simp only [gA,okB,decide_eq_true_eq,decide_eq_false_iff_not,Xi,true_iff,false_iff,XF]at*;omega)),(dx).trans (ap).symm,(dy).trans (av).symm,(dz).trans (aw).symm,(dA).trans (aC).symm,rfl⟩
     replace a5:=dp a5;refine aF ⟨_,rfl,.inl ab⟩ rfl ?_;refine aF ⟨_,rfl,.inl (ae ab)⟩ rfl ?_;refine aF ⟨_,rfl,.inl (ag ab)⟩ rfl ?_;refine aF ⟨_,rfl,.inr aa⟩ rfl ?_;refine aF ⟨_,rfl,.inr (ae aa)⟩ rfl ?_;refine aF ⟨_,rfl,.inr (ag aa)⟩ rfl ?_;refine aF ⟨_,rfl,.inr aa⟩ rfl ?_;refine aF ⟨_,rfl,.inr (ae aa)⟩ rfl ?_;refine aF ⟨_,rfl,.inr (ag aa)⟩ rfl ?_;refine aF ⟨_,rfl,.inr aa⟩ rfl ?_;refine aF ⟨_,rfl,.inr (ae aa)⟩ rfl ?_;refine aF ⟨_,rfl,.inr (ae (aj aa))⟩ rfl ?_;refine aF ⟨_,rfl,.inr (ae (aA aa))⟩ rfl ?_;refine aF ⟨_,rfl,.inl (ae (aj (aA ab)))⟩ rfl ?_;refine ar (bG (ag (aj (aA ab))) ay) rfl<|bR (ag (aJ ap)) (ag (aJ av)) (ag (aJ aw)) (ag (aJ aC)) aa ?_;intro eh dD dE dG dH dI
     refine ao ⟨(dI).trans (by(refine cu ?_;simp only [gA,okB,decide_eq_true_eq,decide_eq_false_iff_not,Xi,true_iff,false_iff,XF]at*;omega)),(dD).trans (ap).symm,(dE).trans (av).symm,(dG).trans (aw).symm,(dH).trans (aC).symm,rfl⟩
    ·rintro ei _ ⟨bz,dJ,dK,dL,dM,rfl⟩;have bA:=dJ.trans ap;have bB:=dK.trans av;have bE:=dL.trans aw;have bH:=dM.trans aC;refine bj bz (λa9=>?_) (λa9=>?_)
     ·replace a9:=dR a9;refine au<|at_<|ar (aB ay) rfl<|aY aa ?_;clear bA bz bB bE bH;intro ej bZ
      refine ao<|bg<|db<|bS<|bS<|db<|bS<|bL bm ai (bc bZ) (.ro _ rfl) ?_
      clear bZ bb
      (obtain⟨h1,h2,h3⟩:=hinv;have hn:nf s.data.toList=false:=I3 (i:=i.toNat) ah (by(exact JM (by assumption)));simp [dF,hn])
     replace a9:=dp a9;refine bC<|cK<|ao<|at_ ?_
     (refine ar (cv bH ay ?_) rfl ?_; · (unfold In64;omega))
     refine ar (al aa) rfl<|bp (ag bA) (ag bB) (ag bE) aa ?_;clear bA bz bB bE bH;intro ek dN dO dP dQ
     refine ao<|⟨_,⟨dQ,(dN.trans bM.symm),(dO.trans bO.symm),(dP.trans bP.symm),bb,?_⟩,?_⟩
     ·(obtain⟨h1,h2,h3⟩:=hinv;refine⟨ah,ah,λj hj=>?_⟩;by_cases hj':j<i.toNat;exact h3 j hj';have hji:j=i.toNat:=ah;rw [hji];(exact JK ah))
     ·((try dsimp only);omega)
  replace aT:=bf aT;refine dV<|cB<|cB<|dU<|ao<|au<|at_<|ar (al aP) rfl<|ar (eD aa ay) rfl<|ar (al aa) rfl<|bQ aa (λaD ba=>?_) (λaD ba=>?_)
  ·replace ba:=di ba;refine aG (al (ae (ag aP))) ⟨_,rfl,aD⟩ rfl ?_;refine aG (jg aa rfl fj) ⟨_,rfl,(ae aD)⟩ rfl ?_;refine aG (fA aa ay) ⟨_,rfl,(ag aD)⟩ rfl ?_;refine ar (bD (ae (ag aD)) aa) rfl<|ar (aB aa) rfl<|aY aa ?_;clear aD aP bh aS be aQ;intro en b0
   refine ao<|bg<|bL bm ai (bc b0) (.ro _ rfl) ?_
   clear b0 bb
   (obtain⟨h1,h2,h3⟩:=hinv;have hn:nf s.data.toList=true:=(Bg λj hj=>h3 j ah);refine cu ?_;simp only [Du,dF,hn,YI,Xg,decide_eq_true_eq,XF,decide_eq_false_iff_not,Xi,false_iff,true_iff,Bool.not_eq_false']at*;omega)
  replace ba:=dm ba;refine aF ⟨_,rfl,.inl aD⟩ rfl ?_;refine aF ⟨_,rfl,.inl (ae aD)⟩ rfl ?_;refine aF ⟨_,rfl,.inl (ag aD)⟩ rfl ?_;refine ar (bG (ae (ag aD)) ay) rfl<|ar (aB aa) rfl<|aY aa ?_;clear aD aP bh aS be aQ;intro eo b1
  refine ao<|bg<|bL bm ai (bc b1) (.ro _ rfl) ?_
  clear b1 bb
  (obtain⟨h1,h2,h3⟩:=hinv;have hn:nf s.data.toList=true:=(Bg λj hj=>h3 j ah);refine cu ?_;simp only [Du,dF,hn,YI,Xg,decide_eq_true_eq,XF,decide_eq_false_iff_not,Xi,false_iff,true_iff,Bool.not_eq_false']at*;omega)
theorem Ny(l:aP)(hl:eo l):bN Tryz.prog 97 [dL l] (λq=>q= .row 1 (yh l)):=by
 obtain⟨h1,h2,h3,h4,h5⟩:=id hl;refine cw (fn:=Tryz.f97) 61 ai rfl ai aU ?_;intro aI aK hA ap;have av:ak aI (.tmp 0)=_:=hA 0 _ rfl;have aw:aK.length=0:=by rw [ap];rfl
 clear hA ap;refine au<|at_<|ar (tM av rfl eL) rfl ?_
 refine ar (aB ay) rfl<|aY (ae aa) ?_;clear av;intro aL aC
 refine ao<|au<|at_<|ar (aB BZ) rfl<|bq (ae aC) aa ?_;clear aC;intro aN aD aF
 refine ao<|au<|at_<|ar (aB BZ) rfl<|bJ (ae aD) (ae aF) aa ?_;clear aD aF;intro aO ab af am
 refine ao<|au<|dZ 57 ai ai ai ai ?_
 refine dr (al af) rfl<|dr (ax (bY oM rfl (ae ab)) bk) rfl ?_
 refine dr (ax (bF Vz rfl aa az) bk) rfl ?_;refine dr (bh (aE aa aM) rfl (vg l.nam ah) xf) rfl ?_;refine dr (bh (aE aa (aE ay aM)) rfl (fa _ _) fc) rfl<|dr (kz (aj aa) (aE aa aM) rfl (pY _) pZ) rfl<|dr (al (ag (aj af))) rfl<|dr (ax (bY dO rfl (ae (ag (aj ab)))) bk) rfl ?_
 refine dr (ax (bF rK rfl aa az) bk) rfl ?_;refine dr (ax (ca aa rfl rJ.1) b7) rfl ?_;refine dr (ey aa ay) rfl<|dr (al aa) rfl<|gh aa (λad an=>?_) (λad an=>?_)
 ·replace an:=bt an;refine cD (ax (bY dN rfl (aj (aA ab))) bk) ⟨_,rfl,ad⟩ rfl ?_;refine cD (ax (bF Am rfl aa az) bk) ⟨_,rfl,(ae ad)⟩ rfl ?_;refine cD (ax (ca aa rfl Ak.1) b7) ⟨_,rfl,(ag ad)⟩ rfl ?_;refine cD (ax (bY dO rfl (ae (ag (aj (aA ab))))) bk) ⟨_,rfl,(ae (ag ad))⟩ rfl ?_;refine cD (ax (bF rK rfl aa az) bk) ⟨_,rfl,(aj ad)⟩ rfl ?_;refine cD (ax (ca aa rfl rJ.1) b7) ⟨_,rfl,(ae (aj ad))⟩ rfl ?_
  (refine cD (cv aa ay ?_) ⟨_,rfl,(ag (aj ad))⟩ rfl ?_; · (unfold In64;omega))
  refine cD (e6 (aj aa) aa) ⟨_,rfl,(ae (ag (aj ad)))⟩ rfl ?_;refine dr (bD (aA ad) aa) rfl<|dr (bh (aE aa (aE ay aM)) rfl (fa _ _) fc) rfl<|dr (kz (ae (ag (aj (aA aa)))) (aE aa aM) rfl (pY _) pZ) rfl<|dr (al (ae (ag (aj (aJ af))))) rfl<|dr (ax (bY dO rfl (aA (aJ ab))) bk) rfl ?_
  refine dr (ax (bF rK rfl aa az) bk) rfl ?_;refine dr (ax (ca aa rfl rJ.1) b7) rfl ?_;refine dr (fA aa ay) rfl<|dr (bh (aE aa (aE ay aM)) rfl (fa _ _) fc) rfl<|dr (kz (ae (aj aa)) (aE aa aM) rfl (pY _) pZ) rfl<|dr (al (ag (aj (aA (aJ am))))) rfl<|dr (ax (bY dN rfl (ae (ag (aj (aA (aJ ab)))))) bk) rfl ?_
  refine dr (ax (bF Am rfl aa az) bk) rfl ?_;refine dr (ax (ca aa rfl Ak.1) b7) rfl ?_;refine dr (kX aM (aE (ag (aJ (aJ ab))) aM)) rfl<|dr (kz (aj aa) (aE ay (aE (ae aa) (aE aa aM))) rfl (rI _ _ _ _ rfl) rl) rfl<|dr (al (aj (aJ (aJ am)))) rfl<|dr (ax (bY dO rfl (ae (aj (aJ (aJ ab))))) bk) rfl ?_
  refine dr (ax (bF rK rfl aa az) bk) rfl ?_;refine dr (ax (ca aa rfl rJ.1) b7) rfl ?_;refine dr (kX aM (aE (aA (aJ (aJ ab))) aM)) rfl<|dr (kz (aj aa) (aE ay (aE (ae aa) (aE aa aM))) rfl (rI _ _ _ _ rfl) rl) rfl<|dr (al (ag (aA (aJ (aJ af))))) rfl<|dr (ax (bY eW rfl (ae (ag (aA (aJ (aJ ab)))))) bk) rfl ?_
  refine dr (ax (bF wN rfl aa az) bk) rfl ?_;refine dr (ax (ca aa rfl wM.1) b7) rfl ?_;refine dr (fA aa ay) rfl<|dr (bh (aE aa (aE ay aM)) rfl (fa _ _) fc) rfl<|dr (kz (ae (aj aa)) (aE aa aM) rfl (pY _) pZ) rfl<|dr (al (ae (aJ (aJ (aJ am))))) rfl<|dr (ax (bY eW rfl (ag (aJ (aJ (aJ ab))))) bk) rfl ?_
  refine dr (ax (bF wN rfl aa az) bk) rfl ?_;refine dr (ax (ca aa rfl wM.1) b7) rfl ?_;refine dr (kX aM (aE (ae (aj (aJ (aJ (aJ ab))))) aM)) rfl<|dr (kz (aj aa) (aE ay (aE (ae aa) (aE aa aM))) rfl (rI _ _ _ _ rfl) rl) rfl<|dr (ez E3 (bB (ae (aJ (aJ (aJ aa)))) (bB (aJ (aJ aa)) (bB (ae (aA (aJ aa))) (bB (ae (ag (aJ aa))) (bB (ae (aj (aA aa))) (bB (ag (aj aa)) (bB aa b8))))))) rfl rfl rfl rfl) rfl<|dr (aB aa) rfl<|dC<|aY aa ?_;clear ad ab af am;intro aQ aG
  refine ao<|bg<|bL bm ai (bc aG) (.ro _ rfl) ?_
  clear aG aw
  (have hp:(0:Int)<l.bs.length:=(by assumption);have hd:decide ((0:Int)<l.bs.length/\(l.js.length:Int)=l.bs.length+1)=decide ((l.js.length:Int)=l.bs.length+1):=decide_eq_decide.2 ⟨λh=>h.2,λh=>⟨hp,h⟩⟩;unfold yh;rw [hd])
 replace an:=bf an;refine bW ⟨_,rfl,.inl ad⟩ rfl ?_;refine bW ⟨_,rfl,.inl (ae ad)⟩ rfl ?_;refine bW ⟨_,rfl,.inl (ag ad)⟩ rfl ?_;refine bW ⟨_,rfl,.inl (ae (ag ad))⟩ rfl ?_;refine bW ⟨_,rfl,.inl (aj ad)⟩ rfl ?_;refine bW ⟨_,rfl,.inl (ae (aj ad))⟩ rfl ?_;refine bW ⟨_,rfl,.inl (ag (aj ad))⟩ rfl ?_;refine bW ⟨_,rfl,.inl (ae (ag (aj ad)))⟩ rfl ?_;refine dr (bG (aA ad) ay) rfl<|dr (bh (aE aa (aE ay aM)) rfl (fa _ _) fc) rfl<|dr (kz (ae (ag (aj (aA aa)))) (aE aa aM) rfl (pY _) pZ) rfl<|dr (al (ae (ag (aj (aJ af))))) rfl<|dr (ax (bY dO rfl (aA (aJ ab))) bk) rfl ?_
 refine dr (ax (bF rK rfl aa az) bk) rfl ?_;refine dr (ax (ca aa rfl rJ.1) b7) rfl ?_;refine dr (fA aa ay) rfl<|dr (bh (aE aa (aE ay aM)) rfl (fa _ _) fc) rfl<|dr (kz (ae (aj aa)) (aE aa aM) rfl (pY _) pZ) rfl<|dr (al (ag (aj (aA (aJ am))))) rfl<|dr (ax (bY dN rfl (ae (ag (aj (aA (aJ ab)))))) bk) rfl ?_
 refine dr (ax (bF Am rfl aa az) bk) rfl ?_;refine dr (ax (ca aa rfl Ak.1) b7) rfl ?_;refine dr (kX aM (aE (ag (aJ (aJ ab))) aM)) rfl<|dr (kz (aj aa) (aE ay (aE (ae aa) (aE aa aM))) rfl (rI _ _ _ _ rfl) rl) rfl<|dr (al (aj (aJ (aJ am)))) rfl<|dr (ax (bY dO rfl (ae (aj (aJ (aJ ab))))) bk) rfl ?_
 refine dr (ax (bF rK rfl aa az) bk) rfl ?_;refine dr (ax (ca aa rfl rJ.1) b7) rfl ?_;refine dr (kX aM (aE (aA (aJ (aJ ab))) aM)) rfl<|dr (kz (aj aa) (aE ay (aE (ae aa) (aE aa aM))) rfl (rI _ _ _ _ rfl) rl) rfl<|dr (al (ag (aA (aJ (aJ af))))) rfl<|dr (ax (bY eW rfl (ae (ag (aA (aJ (aJ ab)))))) bk) rfl ?_
 refine dr (ax (bF wN rfl aa az) bk) rfl ?_;refine dr (ax (ca aa rfl wM.1) b7) rfl ?_;refine dr (fA aa ay) rfl<|dr (bh (aE aa (aE ay aM)) rfl (fa _ _) fc) rfl<|dr (kz (ae (aj aa)) (aE aa aM) rfl (pY _) pZ) rfl<|dr (al (ae (aJ (aJ (aJ am))))) rfl<|dr (ax (bY eW rfl (ag (aJ (aJ (aJ ab))))) bk) rfl ?_
 refine dr (ax (bF wN rfl aa az) bk) rfl ?_;refine dr (ax (ca aa rfl wM.1) b7) rfl ?_;refine dr (kX aM (aE (ae (aj (aJ (aJ (aJ ab))))) aM)) rfl<|dr (kz (aj aa) (aE ay (aE (ae aa) (aE aa aM))) rfl (rI _ _ _ _ rfl) rl) rfl<|dr (ez E3 (bB (ae (aJ (aJ (aJ aa)))) (bB (aJ (aJ aa)) (bB (ae (aA (aJ aa))) (bB (ae (ag (aJ aa))) (bB (ae (aj (aA aa))) (bB (ag (aj aa)) (bB aa b8))))))) rfl rfl rfl rfl) rfl<|dr (aB aa) rfl<|dC<|aY aa ?_;clear ad ab af am;intro aR aH
 refine ao<|bg<|bL bm ai (bc aH) (.ro _ rfl) ?_
 clear aH aw
 (have hd:decide ((0:Int)<l.bs.length/\(l.js.length:Int)=l.bs.length+1)=false:=decide_eq_false (λh=>absurd h.1 ah);unfold yh;rw [hd])
theorem MH:cj Tryz.prog 168 0 0 true 2:=by unfold cj;kernel_rfl
theorem Dx:cj Tryz.prog 168 1 2 false 1:=by unfold cj;kernel_rfl
theorem Qh:∀ args w,(callFunc 97 args).run Tryz.prog w= .ok (.enter 97 args) w:=λ_ _=>by kernel_rfl
theorem E5:bO Tryz.prog 164 166 1 8 (.nilFunc):=⟨ai,ai,ai⟩
theorem Qi:aQ Tryz.prog 166 false 1:=⟨ai,ai⟩
theorem TW:aQ Tryz.prog 27 true 4:=⟨ai,ai⟩
theorem HQ:aQ Tryz.prog 30 false 1:=⟨ai,ai⟩
theorem An:aQ Tryz.prog 99 true 2:=⟨ai,ai⟩
def yi(l:aP):List AV:= [nn (dy (dF l.nam) 4),nn (dy (decide ((0:Int)<l.bs.length/\(l.js.length:Int)=l.bs.length+1)) 10),nn (dy (decide ((l.bs.length:Int)<=40)) 8),
 pE 1 l.js.length (.clo (.func 113) [] [.ref (lY l)]),pE 2 l.bs.length (.clo (.func 116) [] [.ref (lY l)]),nn (dy (decide ((l.ss.length:Int)<=4)) 8),pE 3 l.ss.length (.clo (.func 117) [] [.ref (lY l)])]
theorem Wm(l:aP):yh l=(yi l).map qM:=rfl
def lA(l:aP):List ((Int×Int)×Int):= [((0,0),dy (dF l.nam) 4),((0,0),dy (decide ((0:Int)<l.bs.length/\(l.js.length:Int)=l.bs.length+1)) 10),((0,0),dy (decide ((l.bs.length:Int)<=40)) 8),
 mG 1 (λi=>iP (l.js.getD i default)) l.js.length,mG 2 (λi=>iQ (l.bs.getD i default)) l.bs.length,((0,0),dy (decide ((l.ss.length:Int)<=4)) 8),mG 3 (fq l) l.ss.length]
theorem xx(er:Int):nQ Tryz.prog (nn er) [] (λq=>q=uS ((0,0),er)):=⟨_,_,_,rfl,rfl,rfl,λ_ _=>by kernel_rfl,MG er⟩
theorem Bm(k:Int)(n:Nat)(f:FuncId)(m:List AV)(er:Nat->Int)(hn:n<=1000000)(hro:cC.roL m=true)(dY:∀ args w,(callFunc f args).run Tryz.prog w= .ok (.enter f args) w)(hc:∀ i:Int,0<=i->i<n->bN Tryz.prog f ([]++ [mA i]++m) (λq=>q=mA (er i.toNat))):
 nQ Tryz.prog (pE k n (.clo (.func f) [] m)) [] (λq=>q=uS (mG k er n)):=
 ⟨_,_,_,rfl,rfl,by(simp only [cC.roL,cC,YR,YI];done),λ_ _=>by kernel_rfl,Qg k n f m er ah hro dY hc⟩
theorem VB(l:aP)(hl:eo l)(hsw:l.js.length=l.bs.length+1-> ∀ i:Int,0<=i->i<l.ss.length->bN Tryz.prog 117 [mA i,.ref (lY l)] (λq=>q=mA (fq l i.toNat))):∀ i:Nat,i<7->(∀ j:Nat,j<i->((lA l).getD j default).2=0)->nQ Tryz.prog ((yi l).getD i default) [] (λq=>q=uS ((lA l).getD i default))
 | 0,_,_=>xx _
 | 1,_,_=>xx _
 | 2,_,_=>xx _
 | 3,_,_=>Bm _ _ _ _ _ hl.2.1 rfl (λ_ _=>by kernel_rfl) λi h0 h1=>Qc l i ⟨h0,h1⟩
 | 4,_,_=>Bm _ _ _ _ _ hl.2.2.1 rfl (λ_ _=>by kernel_rfl) λi h0 h1=>Qd l i ⟨h0,h1⟩
 | 5,_,_=>xx _
 | 6,_,hz=>Bm _ _ _ _ _ hl.2.2.2.1 rfl (λ_ _=>by kernel_rfl) (hsw (by
  have h1:dy (decide ((0:Int)<l.bs.length/\(l.js.length:Int)=l.bs.length+1)) 10=0:=hz 1 ah
  by_cases hd:(0:Int)<l.bs.length/\(l.js.length:Int)=l.bs.length+1
  ·omega
  ·rw [decide_eq_false hd]at h1;exact absurd h1 aD))
theorem K8(l:aP)(hl:eo l)(r:(Int×Int)×Int)(hr:∀ i:Nat,i<7->(∀ j:Nat,j<i->((lA l).getD j default).2=0)->((lA l).getD i default).2≠0->r=(lA l).getD i default)(hr0:(∀ j:Nat,j<7->((lA l).getD j default).2=0)->r=((0,0),0))
 (hck:∀ i:Nat,i<7->(∀ j:Nat,j<i->((lA l).getD j default).2=0)->nQ Tryz.prog ((yi l).getD i default) [] (λq=>q=uS ((lA l).getD i default))):bN Tryz.prog 70 [dL l] (λq=>q= .tuple [.agg [mA r.1.1,mA r.1.2],mA r.2]):=by
 have h7:(yi l).length =7:=rfl;refine cw (fn:=Tryz.f70) 25 ai rfl ai aU ?_;intro cE cH hA bT;have bW:ak cE (.tmp 0)=_:=hA 0 _ rfl;have a8:cH.length=0:=by rw [bT];rfl
 clear hA bT;refine au<|at_<|aL (cZ bW rfl a8) trivial rfl (λdc a9=>?_)
 have bY:=bu a9 a8;have ab:=br a9 a8;have ab:_=1:=ab;clear a9;refine aL (cy su rfl ab) trivial rfl (λbZ aJ=>?_);have ba:=bu aJ ab;simp only [pS,Value.cells,Nat.reduceAdd,qM]at ba;have bb:=aK aJ bY;have be:=br aJ ab;have be:_=2:=be;clear aJ bY;refine ar (aB ay) rfl<|bq (ag aa) (ae aa) ?_;clear bW;intro dd b0 b1
 refine ao<|au<|au<|at_<|ar (ax (aH TW rfl bb b0 az) rW) rfl ?_
 refine ar (bh (aE aa aM) rfl ((Ny l hl).mono (λq h=>h.trans (by rw [Wm]))) Qh) rfl ?_;refine ar (ax (ca aa rfl E5.1) b7) rfl ?_;refine ar (al ay) rfl<|bp (aj b1) (ag aa) (ae aa) aa ?_;clear b0 b1;intro bk b2 b6 b9 cI
 refine ao<|bV<|eu (S:=Int) (λi e mem=>(ak e (.tmp 10)= .v (.int .i64 i))/\(ak e (.tmp 2)=ak bk (.tmp 2))/\(ak e (.tmp 8)=ak bk (.tmp 8))/\(ak e (.tmp 9)=ak bk (.tmp 9))/\(mem[1]? =bZ[1]?)/\(mem[0]? =bZ[0]?)/\(∃ n,mem.length=n/\2<=n)/\((0<=i/\i<=7/\ ∀ j:Nat,j<i.toNat->((lA l).getD j default).2=0))) (λi=>(7 - i).toNat) _ ⟨cI,rfl,rfl,rfl,rfl,rfl,⟨_,be,Xf _⟩,?_⟩ ?_
 ·(exact⟨ah,ah,λj h=>absurd h ah⟩)
 ·rintro i de df ⟨bv,cJ,cL,cM,cN,cQ,⟨bw,aO,dg⟩,hinv⟩;have cb:=cJ.trans b2;have cc:=cL.trans b6;have bx:=cM.trans b9;have ad:=cN.trans ba;have aQ:=cQ.trans bb
  (obtain⟨p1,p2,p3⟩:=hinv)
  refine au<|at_<|ar (cU bv bx) rfl<|bR (ae cb) (ae cc) (ae bx) (ae bv) aa ?_;clear bv cb cc bx;intro di af aS bA aT bB
  refine ao<|au<|bj bB (λam=>?_) (λam=>?_)
  ·replace am:=bt am;refine bC<|ao<|au<|bV<|au<|at_<|ar (ax (cP E5 aS aT ah (by(refine cO ?_;omega))) rW) rfl ?_
   refine ar (ax (bF Qi rfl aa az) rW) rfl ?_;refine ar (aB aa) rfl<|bR (ae (ag af)) aa (ae (ag aS)) (ae (ag bA)) (ae (ag aT)) ?_;clear aT bB af aS bA;intro dj cd ce cf cg ci
   refine ao<|au<|at_<|ar (al ce) rfl<|ar (ER aa aM rfl (hck i.toNat ah p3)) rfl ?_
   refine aL (cy AM rfl aO) trivial rfl (λdk an=>?_);have aY:=bu an aO;simp only [pS,Value.cells,Nat.reduceAdd,qM]at aY;have cj:=aK an ad;have ck:=aK an aQ;have cR:=br an aO;clear an ad aQ;refine aL (bP aa (ae aa) rfl rfl aY xg rfl az) trivial rfl (λdl ap=>?_);have a2:=aZ ap aY;simp only [pS,Value.cells,Nat.reduceAdd,qM]at a2;have bD:=aw ap cj ah;have bE:=aw ap ck ah;have a3:=aX ap cR;clear ap aY cj ck;refine bR (aC (ae (ag cd))) (aC aa) (aC (ae (ag cf))) (aC (ae (ag cg))) (aC (ae (ag ci))) ?_;clear ci cd ce cf cg;intro dm cm bG co cr cu;refine ao<|au<|at_<|ar (aI Dx rfl bG) rfl<|ar (ax (aH HQ rfl a2 aa az) rW) rfl ?_
   refine ar (dB aa ay) rfl<|dh (ae (ag cm)) (ae (ag bG)) (ae (ag co)) (ae (ag cr)) (ae (ag cu)) aa ?_;clear cu cm bG co cr;intro dn av a5 bH bI bJ bL
   refine ao<|bj bL (λaA=>?_) (λaA=>?_)
   ·replace aA:=dR aA;refine au<|fZ 5 0 a3 ai ai ai ai (λdr aF=>?_)
    have a6:=bz aF a2;have bM:=bz aF bD;have cx:=bz aF bE;have cT:_=bw+1:=ga (K:=0) aF a3;clear aF a2 bD bE a3;refine aR (λM_ hM_=>(aI MH rfl a5)) trivial ?_;refine cG (bw) (λM_ hM_=>(ax (aH An rfl (cn hM_ a6 aN) aa az) rW)) trivial trivial ?_;refine aR (λM_ hM_=>(aI Dx rfl (ag a5))) trivial ?_;refine cG (bw) (λM_ hM_=>(ax (aH HQ rfl (cn hM_ a6 aN) aa az) rW)) trivial trivial ?_;refine oZ (1) (λM_ hM_=>(nw (aj av) (ag aa) rfl rfl (cn hM_ bM aN) j9 rfl az)) trivial trivial ⟨.inl bo,⟨.inl bo,trivial⟩⟩ (λdt aG=>?_);have bO:=aZ aG bM;simp only [pS,Value.cells,Nat.reduceAdd,qM]at bO;have cV:=aw aG a6 ah;have cW:=aw aG cx aD;have cX:=aX aG cT;clear aG a6 bM cx;refine gn rfl ?_;refine ar (aB (aC aa)) rfl<|bq (ae (aC (aj av))) aa ?_;clear bJ bL av a5 bH bI;intro du cz cA
    refine ao<|bg<|db<|bS<|bS<|db<|bS<|eh bm ai (dE cz bO An az aN) (bc cA) (eB (.ro _ rfl)) (.ro _ rfl) ?_
    clear cz cA bO cV cW cX
    (rw [hr i.toNat ah p3 (by assumption)];rfl)
   replace aA:=dp aA;refine bC<|cK<|ao<|at_ ?_
   (refine ar (cv bJ ay ?_) rfl ?_; · (unfold In64;omega))
   refine ar (al aa) rfl<|bp (ag av) (ag bH) (ag bI) aa ?_;clear bJ bL av a5 bH bI;intro dv cY c6 c7 c8
   refine ao<|⟨_,⟨c8,(cY.trans b2.symm),(c6.trans b6.symm),(c7.trans b9.symm),(bD.trans ba.symm),(bE.trans bb.symm),⟨_,a3,ah⟩,?_⟩,?_⟩
   ·(refine⟨ah,ah,λj hj=>?_⟩;by_cases hji:j<i.toNat;(exact p3 j hji);(rw [show j=i.toNat by omega];assumption))
   ·((try dsimp only);omega)
  replace am:=bf am;refine dV<|cB<|cB<|dU<|ao<|au<|at_<|ar (dq b8 mr mq mo rfl) rfl ?_
  refine aL (bP (ae af) aa rfl rfl ad j9 rfl az) trivial rfl (λdw a7=>?_);have bQ:=aZ a7 ad;simp only [pS,Value.cells,Nat.reduceAdd,qM]at bQ;have c9:=aw a7 aQ aD;have da:=aX a7 aO;clear a7 ad aQ;refine ar (aB ay) rfl<|bq (ae (aC (ae af))) aa ?_;clear aT bB af aS bA;intro dx cC cD
  refine ao<|bg<|eh bm ai (dE cC bQ An az aN) (bc cD) (eB (.ro _ rfl)) (.ro _ rfl) ?_
  clear cC cD bQ c9 da
  (rw [hr0 (λj hj=>p3 j ah)];rfl)
def kg:List ((Int×Int)×Int)->(Int×Int)×Int
 | []=>((0,0),0)
 | r::rs=>if r.2=0 then kg rs else r
theorem HS:∀ {rs:List ((Int×Int)×Int)} {i:Nat},i<rs.length->(∀ j:Nat,j<i->(rs.getD j default).2=0)->(rs.getD i default).2≠0->kg rs=rs.getD i default
 | [],_,h,_,_=>absurd h aN
 | r::rs,0,_,_,h=>by
  have h:r.2≠0:=h;simp only [kg];rw [if_neg h];rfl
 | r::rs,i+1,hi,hn,h=>by
  have h0:r.2=0:=hn 0 ah;simp only [kg];rw [if_pos h0];exact HS (rs:=rs) (i:=i) (by simpa using hi) (λj hj=>hn (j+1) ah) h
theorem D3:∀ {rs:List ((Int×Int)×Int)},(∀ j:Nat,j<rs.length->(rs.getD j default).2=0)->kg rs=((0,0),0)
 | [],_=>rfl
 | r::rs,h=>by
  have h0:r.2=0:=h 0 aN;simp only [kg];rw [if_pos h0];exact D3 (rs:=rs) (λj hj=>h (j+1) (by simpa using hj))
theorem tQ{f:Nat->Int}:∀ {n i:Nat},g9 f n=some i->f i≠0/\i<n
 | 0,i,h=>by simp [g9]at h
 | n+1,i,h=>by
  simp only [g9]at h;cases hq:g9 f n with
  | some k=>
   rw [hq]at h;cases h;have:=tQ hq;exact⟨this.1,ah⟩
  | none=>
   rw [hq]at h
   by_cases hz:f n=0
   ·simp [hz]at h
   ·simp [hz]at h;subst h;exact⟨hz,ah⟩
theorem wO(b:Bool)(er:Int)(he:er≠0)(rs:List ((Int×Int)×Int)):kg (((0,0),dy b er)::rs)=if b then kg rs else((0,0),er):=by
 cases b
 ·simp only [kg,dy];simp [he]
 ·simp only [kg,dy];simp
theorem Ao(k:Int)(f:Nat->Int)(n:Nat)(rs:List ((Int×Int)×Int)):kg (mG k f n::rs)=iS k f n (kg rs):=by
 unfold mG iS;cases h:g9 f n with
 | none=>simp only [kg];simp
 | some i=>simp only [kg];rw [if_neg (tQ h).1]
theorem E6(l:aP):cx l=kg (lA l):=by
 unfold lA;rw [wO _ _ aD,wO _ _ aD,wO _ _ aD,Ao,Ao,wO _ _ aD,Ao];unfold cx;cases dF l.nam
 ·rfl
 ·by_cases h2:l.bs.length=0\/l.js.length≠l.bs.length+1
  ·simp only [Bool.not_true,Xi,if_false,if_true];rw [if_pos h2,decide_eq_false ah];rfl
  ·simp only [Bool.not_true,Xi,if_false,if_true];rw [if_neg h2,decide_eq_true (p:=(0:Int)<l.bs.length/\(l.js.length:Int)=l.bs.length+1) ah]
   by_cases h3:40<l.bs.length
   ·rw [if_pos h3,decide_eq_false (p:=(l.bs.length:Int)<=40) ah];rfl
   ·rw [if_neg h3,decide_eq_true (p:=(l.bs.length:Int)<=40) ah];simp only [if_true]
    congr 2
    by_cases h4:4<l.ss.length
    ·rw [if_pos h4,decide_eq_false (p:=(l.ss.length:Int)<=4) ah];rfl
    ·rw [if_neg h4,decide_eq_true (p:=(l.ss.length:Int)<=4) ah];rfl
theorem K9(l:aP)(hl:eo l)(hsw:l.js.length=l.bs.length+1-> ∀ i:Int,0<=i->i<l.ss.length->bN Tryz.prog 117 [mA i,.ref (lY l)] (λq=>q=mA (fq l i.toNat))):bN Tryz.prog 70 [dL l] (λq=>q= .tuple [.agg [mA (cx l).1.1,mA (cx l).1.2],mA (cx l).2]):=
 K8 l hl (cx l) (λi hi h1 h2=>(E6 l).trans (HS (rs:=lA l) hi h1 h2)) (λh=>(E6 l).trans (D3 (rs:=lA l) h)) (VB l hl hsw)
theorem HT:bO Tryz.prog 85 3 1 8 (.int .i64 0):=⟨ai,ai,ai⟩
theorem xy:aQ Tryz.prog 3 false 1:=⟨ai,ai⟩
theorem HU:aQ Tryz.prog 85 false 1:=⟨ai,ai⟩
theorem Ja:aQ Tryz.prog 9 false 1:=⟨ai,ai⟩
theorem Lx(o s:eU):bN Tryz.prog 131 [.agg (ct o),.ref (ct s)] (λq=>q=dK (o.nam.toList==s.nam.toList)):=by
 refine cw (fn:=Tryz.f131) 9 ai rfl ai aU ?_;intro aj aA hA al;have am:ak aj (.tmp 0)=_:=hA 0 _ rfl;have an:ak aj (.tmp 1)=_:=hA 1 _ rfl;have ab:aA.length=0:=by rw [al];rfl
 clear hA al;refine au<|at_<|aL (cZ am rfl ab) trivial rfl (λaC ad=>?_)
 have af:=bu ad ab;simp only [pS,Value.cells,Nat.reduceAdd,ct]at af;have ah:=br ad ab;have ah:_=1:=ah;clear ad;refine ar (aB ay) rfl<|bq (ag an) (ae aa) ?_;clear am an;intro aD ap av
 refine ao<|au<|at_<|ar (aI mN rfl av) rfl<|ar (ax (aH Ja rfl af aa az) c7) rfl ?_
 refine ar (ax (bY mN rfl (ag ap)) c7) rfl ?_;refine ar (ax (bF Ja rfl aa az) c7) rfl ?_;refine ar (fb (ag aa) aa) rfl<|ar (aB aa) rfl<|aY aa ?_;clear ap av;intro aE aw
 refine ao<|bg<|bL bm ai (bc aw) (.ro _ rfl) ?_
 clear aw af ah;rfl
theorem Qj(o s:eU)(ho:o.acr.length<=1000000)(hs:s.acr.length<=1000000):bN Tryz.prog 132 [.agg (ct o),.ref (ct s)] (λq=>q=dK (iR s o)):=by
 refine cw (fn:=Tryz.f132) 24 ai rfl ai aU ?_;intro aw aM hA aC;have aD:ak aw (.tmp 0)=_:=hA 0 _ rfl;have aE:ak aw (.tmp 1)=_:=hA 1 _ rfl;have ap:aM.length=0:=by rw [aC];rfl
 clear hA aC;refine au<|at_<|aL (cZ aD rfl ap) trivial rfl (λaN av=>?_)
 have ad:=bu av ap;simp only [pS,Value.cells,Nat.reduceAdd,ct]at ad;have an:=br av ap;have an:_=1:=an;clear av;refine ar (aB ay) rfl<|bq (ag aE) (ae aa) ?_;clear aD aE;intro aO af ah
 refine ao<|au<|at_<|ar (ax (bY jN rfl af) c7) rfl ?_
 refine ar (ax (bF xy rfl aa az) c7) rfl ?_;refine ar (aI jN rfl (ag ah)) rfl<|ar (ax (aH xy rfl ad aa az) c7) rfl ?_
 refine ar (aI gI rfl (aj ah)) rfl<|ar (ax (aH HU rfl ad aa az) c7) rfl ?_
 refine ar (ax (ca aa rfl HT.1) b7) rfl ?_;refine ar (sh (ae (ag aa)) aa) rfl<|ar (cU (ag (aj aa)) aa) rfl<|ar (al aa) rfl<|bQ aa (λab am=>?_) (λab am=>?_)
 ·replace am:=bt am;refine aG (aI jN rfl (ag (aA ah))) ⟨_,rfl,ab⟩ rfl ?_;refine aG (ax (aH xy rfl ad aa az) c7) ⟨_,rfl,(ae ab)⟩ rfl ?_;refine aG (ax (bY jN rfl (aj (aA af))) c7) ⟨_,rfl,(ag ab)⟩ rfl ?_;refine aG (ax (bF xy rfl aa az) c7) ⟨_,rfl,(ae (ag ab))⟩ rfl ?_;refine aG (ax (bY gI rfl (ag (aj (aA af)))) c7) ⟨_,rfl,(aj ab)⟩ rfl ?_;refine aG (ax (bF HU rfl aa az) c7) ⟨_,rfl,(ae (aj ab))⟩ rfl ?_;refine aG (ax (ca aa rfl HT.1) b7) ⟨_,rfl,(ag (aj ab))⟩ rfl ?_;refine aG (sh (ae (ag aa)) aa) ⟨_,rfl,(ae (ag (aj ab)))⟩ rfl ?_;refine aG (cU (ag (aj aa)) aa) ⟨_,rfl,(aA ab)⟩ rfl ?_;refine ar (bD (ae (aA ab)) aa) rfl<|ar (aB aa) rfl<|aY aa ?_;clear ab af ah;intro aP aJ
  refine ao<|bg<|bL bm ai (bc aJ) (.ro _ rfl) ?_
  clear aJ ad an
  (refine cu ?_;simp only [iR,decide_eq_true_eq,Xi,true_iff,false_iff, <- wrap_eq];omega)
 replace am:=bf am;refine aF ⟨_,rfl,.inl ab⟩ rfl ?_;refine aF ⟨_,rfl,.inl (ae ab)⟩ rfl ?_;refine aF ⟨_,rfl,.inl (ag ab)⟩ rfl ?_;refine aF ⟨_,rfl,.inl (ae (ag ab))⟩ rfl ?_;refine aF ⟨_,rfl,.inl (aj ab)⟩ rfl ?_;refine aF ⟨_,rfl,.inl (ae (aj ab))⟩ rfl ?_;refine aF ⟨_,rfl,.inl (ag (aj ab))⟩ rfl ?_;refine aF ⟨_,rfl,.inl (ae (ag (aj ab)))⟩ rfl ?_;refine aF ⟨_,rfl,.inl (aA ab)⟩ rfl ?_;refine ar (bG (ae (aA ab)) ay) rfl<|ar (aB aa) rfl<|aY aa ?_;clear ab af ah;intro aQ aK
 refine ao<|bg<|bL bm ai (bc aK) (.ro _ rfl) ?_
 clear aK ad an
 (refine cu ?_;simp only [iR,decide_eq_true_eq,Xi,true_iff,false_iff, <- wrap_eq];omega)
theorem La(n:Int):bN Tryz.prog 134 [mA n] (λq=>q=dK (!eR n 20000)):=by
 refine cw (fn:=Tryz.f134) 6 ai rfl ai aU ?_;intro ah aj hA ab;have ad:ak ah (.tmp 0)=_:=hA 0 _ rfl;have am:aj.length=0:=by rw [ab];rfl
 clear hA ab;refine au<|at_<|ar (aB ay) rfl<|aY (ae ad) ?_;clear ad;intro an af
 refine ao<|au<|at_<|ar (al af) rfl<|ar (bh (aE aa aM) rfl (yH n) zW) rfl<|ar (c8 aa) rfl<|ar (aB aa) rfl<|aY aa ?_;clear af;intro ap ag
 refine ao<|bg<|bL bm ai (bc ag) (.ro _ rfl) ?_
 clear ag am;rfl
theorem Nz:∀ args w,(callFunc 134 args).run Tryz.prog w= .ok (.enter 134 args) w:=λ_ _=>by kernel_rfl
theorem NA:∀ args w,(callFunc 142 args).run Tryz.prog w= .ok (.enter 142 args) w:=λ_ _=>by kernel_rfl
theorem NB:∀ args w,(callFunc 143 args).run Tryz.prog w= .ok (.enter 143 args) w:=λ_ _=>by kernel_rfl
theorem HV:bO Tryz.prog 25 97 3 48 (.agg #[.string ByteArray.empty,.int .i64 0,.slice none 0 0]):=⟨ai,ai,ai⟩
theorem HW:bO Tryz.prog 85 3 1 8 (.int .i64 0):=⟨ai,ai,ai⟩
theorem VC:aQ Tryz.prog 3 false 1:=⟨ai,ai⟩
theorem TX:aQ Tryz.prog 97 true 3:=⟨ai,ai⟩
def py{α:Type}(p:α->Bool)(l:List α):Int:=match l.findIdx? p with
 | some i=>i
 | none=> -1
theorem E7{α:Type}[Inhabited α]{g:α->Bool}{l:List α}{i:Nat}(hi:i<l.length)(h:g (l.getD i default)=true)(hn:∀ j:Nat,j<i->g (l.getD j default)=false):py g l=i:=by
 have e:∀ j,(hj:j<l.length)->l.getD j default=l[j]:=λj hj=>by simp [Xc,hj]
 unfold py;rw [show l.findIdx? g=some i from List.findIdx?_eq_some_iff_getElem.2 ⟨hi,by rw [<- e i hi,h],λj hj=>by rw [<- e j ah,hn j hj];decide⟩]
theorem D4{α:Type}[Inhabited α]{g:α->Bool}{l:List α}(hn:∀ j:Nat,j<l.length->g (l.getD j default)=false):py g l= -1:=by
 unfold py;rw [List.findIdx?_eq_none_iff.2 λx hx=>by
  obtain⟨j,hj,rfl⟩:=XN hx;have:=hn j hj
  rwa [Xc,Xd hj]at this]
theorem E8{α:Type}(g:α->Bool)(l:List α):(0<=py g l)↔l.any g=true:=by
 unfold py;rw [X5];cases h:l.findIdx? g with
 | none=>
  rw [List.findIdx?_eq_none_iff]at h;refine⟨λq=>absurd q aD,λ⟨x,hx,hg⟩=>?_⟩;rw [h x hx]at hg;cases hg
 | some i=>
  obtain⟨hi,h1,_⟩:=List.findIdx?_eq_some_iff_getElem.1 h;exact⟨λ_=>⟨_,XR hi,h1⟩,λ_=>by show(0:Int)<=(i:Int);omega⟩
theorem NC(ss:List eU)(c:AV)(p:eU->Bool)(hl:ss.length<=1000000)(hc:∀ i:Nat,i<ss.length->nQ Tryz.prog c [.agg (ct (ss.getD i default))] (λq=>q=dK (p (ss.getD i default)))):
 bN Tryz.prog 142 [.row 3 (ss.map ct),c] (λq=>q=mA (py p ss)):=by
 refine cw (fn:=Tryz.f142) 19 ai rfl ai aU ?_;intro aP ba hA aQ;have aR:ak aP (.tmp 0)=_:=hA 0 _ rfl;have aS:ak aP (.tmp 1)=_:=hA 1 _ rfl;have bb:ba.length=0:=by rw [aQ];rfl
 clear hA aQ;refine au<|at_<|ar (aB ay) rfl<|bq (ae aR) (ae aS) ?_;clear aR aS;intro bA af aT
 refine ao<|au<|au<|at_<|ar (al af) rfl<|ar (ax (ca aa rfl HV.1) b7) rfl ?_
 refine ar (al ay) rfl<|bp (ae (ag af)) (ae (ag aT)) (ae aa) aa ?_;clear af aT;intro am aX aZ a2 be
 refine ao<|bV<|eu (S:=Int) (λi e mem=>(ak e (.tmp 8)= .v (.int .i64 i))/\(ak e (.tmp 0)=ak am (.tmp 0))/\(ak e (.tmp 1)=ak am (.tmp 1))/\(ak e (.tmp 7)=ak am (.tmp 7))/\(mem.length=0)/\((0<=i/\i<=ss.length/\ ∀ j:Nat,j<i.toNat->p (ss.getD j default)=false))) (λi=>(ss.length - i).toNat) _ ⟨be,rfl,rfl,rfl,bb,?_⟩ ?_
 ·(exact⟨ah,ah,λj h=>absurd h ah⟩)
 ·rintro i bB bD ⟨an,bh,bo,br,ap,hinv⟩;have a3:=bh.trans aX;have a5:=bo.trans aZ;have av:=br.trans a2
  (obtain⟨p1,p2,p3⟩:=hinv)
  refine au<|at_<|ar (cU an av) rfl<|bR (ae a3) (ae a5) (ae av) (ae an) aa ?_;clear a3 a5 av an;intro bE aw aA aC ad aD
  refine ao<|au<|bj aD (λab=>?_) (λab=>?_)
  ·replace ab:=bt ab;refine bC<|ao<|au<|bV<|au<|at_<|ar (al ad) rfl<|ar (aB aa) rfl<|bR (ag aw) (ag aA) aa (ag aC) (ag ad) ?_;clear aw aA aC ad aD;intro bG aF aG aH a6 a7
   refine ao<|au<|at_<|ar (al aG) rfl<|ar (al (ae aF)) rfl<|ar (al (ag aH)) rfl<|ar (ax (cP HV (ae aa) aa ah (by(refine cO ?_;omega))) eL) rfl ?_
   refine ar (ax (bF TX rfl aa az) bk) rfl ?_;refine ar (ER (aj aa) (aE aa aM) rfl (hc i.toNat ah)) rfl ?_;refine dh (ag (aj aF)) (ag (aj aG)) (ag (aj aH)) (ag (aj a6)) (ag (aj a7)) aa ?_;clear aF aG aH a6 a7;intro bH aI aJ aK aL aN aO;refine ao<|bj aO (λbu=>?_) (λbu=>?_)
   ·skip;refine au<|at_<|ar (al aK) rfl<|ar (aB aa) rfl<|aY aa ?_;clear aI aO aJ aK aL aN;intro bI a8
    refine ao<|bg<|db<|bS<|bS<|db<|bS<|bL bm ai (bc a8) (.ro _ rfl) ?_
    clear a8 ap
    (rw [E7 (i:=i.toNat) ah (by assumption) p3,Yn p1])
   refine bC<|cK<|ao<|at_ ?_
   (refine ar (cv aN ay ?_) rfl ?_; · (unfold In64;omega))
   refine ar (al aa) rfl<|bp (ag aI) (ag aJ) (ag aL) aa ?_;clear aI aO aJ aK aL aN;intro bJ bv bw bx bz
   refine ao<|⟨_,⟨bz,(bv.trans aX.symm),(bw.trans aZ.symm),(bx.trans a2.symm),ap,?_⟩,?_⟩
   ·(refine⟨ah,ah,λj hj=>?_⟩;by_cases hji:j<i.toNat;(exact p3 j hji);(rw [show j=i.toNat by omega];assumption))
   ·((try dsimp only);omega)
  replace ab:=bf ab;refine dV<|cB<|cB<|dU<|ao<|au<|at_<|ar (aB ay) rfl<|aY aa ?_;clear aw aA aC ad aD;intro bM a9
  refine ao<|bg<|bL bm ai (bc a9) (.ro _ rfl) ?_
  clear a9 ap
  (rw [D4 (λj hj=>p3 j ah)])
theorem C0(ss:List eU)(c:AV)(p:eU->Bool)(hro:cC c=true)(hl:ss.length<=1000000)(hc:∀ i:Nat,i<ss.length->nQ Tryz.prog c [.agg (ct (ss.getD i default))] (λq=>q=dK (p (ss.getD i default)))):
 bN Tryz.prog 130 [.row 3 (ss.map ct),c] (λq=>q=dK (ss.any p)):=by
 refine cw (fn:=Tryz.f130) 9 ai rfl ai aU ?_;intro ab an hA ad;have af:ak ab (.tmp 0)=_:=hA 0 _ rfl;have ag:ak ab (.tmp 1)=_:=hA 1 _ rfl;have ap:an.length=0:=by rw [ad];rfl
 clear hA ad;refine au<|at_<|ar (aB ay) rfl<|bq (ae af) (ae ag) ?_;clear af ag;intro av ah aj
 refine ao<|au<|at_<|ar (al ah) rfl<|ar (al (ae aj)) rfl<|ar (bh (aE (ae aa) (aE aa aM)) (by(simp only [cC.roL,cC,YR,YI];assumption)) (NC ss c p hl hc) NA) rfl ?_
 refine ar (mW aa ay) rfl<|ar (aB aa) rfl<|aY aa ?_;clear ah aj;intro aw am
 refine ao<|bg<|bL bm ai (bc am) (.ro _ rfl) ?_
 clear am ap
 (refine cu ?_;simp only [decide_eq_true_eq,E8])
theorem ND(l:List Int)(hl:l.length<=1000000):bN Tryz.prog 143 [.row 1 (l.map iE),.v (.func (.func 134) #[] #[])] (λq=>q=mA (py (λn=> !eR n 20000) l)):=by
 refine cw (fn:=Tryz.f143) 19 ai rfl ai aU ?_;intro aQ bb hA aR;have aS:ak aQ (.tmp 0)=_:=hA 0 _ rfl;have aT:ak aQ (.tmp 1)=_:=hA 1 _ rfl;have be:bb.length=0:=by rw [aR];rfl
 clear hA aR;refine au<|at_<|ar (aB ay) rfl<|bq (ae aS) (ae aT) ?_;clear aS aT;intro bA am aX
 refine ao<|au<|au<|at_<|ar (al am) rfl<|ar (ax (ca aa rfl HW.1) b7) rfl ?_
 refine ar (al ay) rfl<|bp (ae (ag am)) (ae (ag aX)) (ae aa) aa ?_;clear am aX;intro an aZ a2 a3 bh
 refine ao<|bV<|eu (S:=Int) (λi e mem=>(ak e (.tmp 8)= .v (.int .i64 i))/\(ak e (.tmp 0)=ak an (.tmp 0))/\(ak e (.tmp 1)=ak an (.tmp 1))/\(ak e (.tmp 7)=ak an (.tmp 7))/\(mem.length=0)/\((0<=i/\i<=l.length/\ ∀ j:Nat,j<i.toNat->(!eR (l.getD j default) 20000)=false))) (λi=>(l.length - i).toNat) _ ⟨bh,rfl,rfl,rfl,be,?_⟩ ?_
 ·(exact⟨ah,ah,λj h=>absurd h ah⟩)
 ·rintro i bB bD ⟨ap,bo,br,bu,av,hinv⟩;have a5:=bo.trans aZ;have a6:=br.trans a2;have aw:=bu.trans a3
  (obtain⟨p1,p2,p3⟩:=hinv)
  refine au<|at_<|ar (cU ap aw) rfl<|bR (ae a5) (ae a6) (ae aw) (ae ap) aa ?_;clear a5 a6 aw ap;intro bE aA aC aD af aF
  refine ao<|au<|bj aF (λab=>?_) (λab=>?_)
  ·replace ab:=bt ab;refine bC<|ao<|au<|bV<|au<|at_<|ar (al af) rfl<|ar (aB aa) rfl<|bR (ag aA) (ag aC) aa (ag aD) (ag af) ?_;clear aA aC aD af aF;intro bG aG aH aI a7 a8
   refine ao<|au<|at_<|ar (al aH) rfl<|ar (al (ae aG)) rfl<|ar (al (ag aI)) rfl<|ar (ax (cP HW (ae aa) aa ah (by(refine cO ?_;omega))) bk) rfl ?_
   refine ar (ax (bF VC rfl aa az) bk) rfl ?_;refine ar (kz (aj aa) (aE aa aM) rfl (La _) Nz) rfl<|dh (ag (aj aG)) (ag (aj aH)) (ag (aj aI)) (ag (aj a7)) (ag (aj a8)) aa ?_;clear aG aH aI a7 a8;intro bH aJ aK aL aN aO aP
   refine ao<|bj aP (λad=>?_) (λad=>?_)
   ·replace ad:=di ad;refine au<|at_<|ar (al aL) rfl<|ar (aB aa) rfl<|aY aa ?_;clear aJ aP aK aL aN aO;intro bI a9
    refine ao<|bg<|db<|bS<|bS<|db<|bS<|bL bm ai (bc a9) (.ro _ rfl) ?_
    clear a9 av
    (rw [E7 (i:=i.toNat) ah (by rw [‹eR _ _=false›];rfl) p3,Yn p1])
   replace ad:=dm ad;refine bC<|cK<|ao<|at_ ?_
   (refine ar (cv aO ay ?_) rfl ?_; · (unfold In64;omega))
   refine ar (al aa) rfl<|bp (ag aJ) (ag aK) (ag aN) aa ?_;clear aJ aP aK aL aN aO;intro bJ bv bw bx bz
   refine ao<|⟨_,⟨bz,(bv.trans aZ.symm),(bw.trans a2.symm),(bx.trans a3.symm),av,?_⟩,?_⟩
   ·(refine⟨ah,ah,λj hj=>?_⟩;by_cases hji:j<i.toNat;(exact p3 j hji);(rw [show j=i.toNat by omega];rw [‹eR _ _=true›];rfl))
   ·((try dsimp only);omega)
  replace ab:=bf ab;refine dV<|cB<|cB<|dU<|ao<|au<|at_<|ar (aB ay) rfl<|aY aa ?_;clear aA aC aD af aF;intro bM ba
  refine ao<|bg<|bL bm ai (bc ba) (.ro _ rfl) ?_
  clear ba av
  (rw [D4 (λj hj=>p3 j ah)])
theorem Lc(l:List Int)(hl:l.length<=1000000):bN Tryz.prog 133 [.row 1 (l.map iE),.v (.func (.func 134) #[] #[])] (λq=>q=dK (l.any (λn=> !eR n 20000))):=by
 refine cw (fn:=Tryz.f133) 9 ai rfl ai aU ?_;intro ab an hA ad;have af:ak ab (.tmp 0)=_:=hA 0 _ rfl;have ag:ak ab (.tmp 1)=_:=hA 1 _ rfl;have ap:an.length=0:=by rw [ad];rfl
 clear hA ad;refine au<|at_<|ar (aB ay) rfl<|bq (ae af) (ae ag) ?_;clear af ag;intro av ah aj
 refine ao<|au<|at_<|ar (al ah) rfl<|ar (al (ae aj)) rfl<|ar (bh (aE (ae aa) (aE aa aM)) rfl (ND l hl) NB) rfl<|ar (mW aa ay) rfl<|ar (aB aa) rfl<|aY aa ?_;clear ah aj;intro aw am
 refine ao<|bg<|bL bm ai (bc am) (.ro _ rfl) ?_
 clear am ap
 (refine cu ?_;simp only [decide_eq_true_eq,E8])
theorem NF:∀ args w,(callFunc 118 args).run Tryz.prog w= .ok (.enter 118 args) w:=λ_ _=>by kernel_rfl
theorem D5:∀ args w,(callFunc 130 args).run Tryz.prog w= .ok (.enter 130 args) w:=λ_ _=>by kernel_rfl
theorem NG:∀ args w,(callFunc 133 args).run Tryz.prog w= .ok (.enter 133 args) w:=λ_ _=>by kernel_rfl
theorem Qk:bO Tryz.prog 153 30 1 8 (.int .i64 0):=⟨ai,ai,ai⟩
theorem HY:bO Tryz.prog 23 59 4 32 (.agg #[.int .i64 0,.int .i64 0,.int .i64 0,.int .i64 0]):=⟨ai,ai,ai⟩
theorem HZ:bO Tryz.prog 25 97 3 48 (.agg #[.string ByteArray.empty,.int .i64 0,.slice none 0 0]):=⟨ai,ai,ai⟩
theorem H3:bO Tryz.prog 85 3 1 8 (.int .i64 0):=⟨ai,ai,ai⟩
theorem H4:aQ Tryz.prog 23 false 1:=⟨ai,ai⟩
theorem H5:aQ Tryz.prog 25 false 1:=⟨ai,ai⟩
theorem TY:aQ Tryz.prog 27 true 4:=⟨ai,ai⟩
theorem Jb:aQ Tryz.prog 3 false 1:=⟨ai,ai⟩
theorem Ap:aQ Tryz.prog 85 false 1:=⟨ai,ai⟩
theorem VD:aQ Tryz.prog 9 false 1:=⟨ai,ai⟩
theorem TZ:aQ Tryz.prog 97 true 3:=⟨ai,ai⟩
theorem uT{α:Type}(f:α->List AV)(l:List α)(a:Nat):(l.map f).take a=(l.take a).map f:=List.map_take.symm
theorem VE(o s:eU):nQ Tryz.prog (.clo (.func 131) [] [.ref (ct s)]) [.agg (ct o)] (λq=>q=dK (o.nam.toList==s.nam.toList)):=⟨_,_,_,rfl,rfl,rfl,λ_ _=>by kernel_rfl,Lx o s⟩
theorem VF(o s:eU)(ho:o.acr.length<=1000000)(hs:s.acr.length<=1000000):nQ Tryz.prog (.clo (.func 132) [] [.ref (ct s)]) [.agg (ct o)] (λq=>q=dK (iR s o)):=⟨_,_,_,rfl,rfl,rfl,λ_ _=>by kernel_rfl,Qj o s ho hs⟩
theorem Ly(ss:List eU)(k:Nat)(s:eU)(hl:(ss.take k).length <=1000000):bN Tryz.prog 130 [.row 3 ((ss.map ct).take k),.clo (.func 131) [] [.ref (ct s)]] (λq=>q=dK ((ss.take k).any (λo=>o.nam.toList==s.nam.toList))):=by
 rw [uT];exact C0 (ss.take k) _ _ rfl hl λj _=>VE ((ss.take k).getD j default) s
theorem LA(ss:List eU)(k:Nat)(s:eU)(hl:(ss.take k).length <=1000000)(ho:∀ j:Nat,((ss.take k).getD j default).acr.length <=1000000)(hs:s.acr.length<=1000000):bN Tryz.prog 130 [.row 3 ((ss.map ct).take k),.clo (.func 132) [] [.ref (ct s)]] (λq=>q=dK ((ss.take k).any (λo=>iR s o))):=by
 rw [uT];exact C0 (ss.take k) _ (λo=>iR s o) rfl hl λj _=>VF ((ss.take k).getD j default) s (ho j) hs
def sF(l:aP)(s:eU):Bool:=decide (1<=s.fst/\s.fst<=(l.js.length:Int) - 2/\(s.acr.length:Int)<=l.js.length - 1 - s.fst)
theorem VG{l:aP}{s:eU}(hj:l.js.length=l.bs.length+1)(h0:s.acr.length≠0):sF l s=dx s.fst 1 (l.bs.length - s.acr.length):=by
 rw [Yl];simp only [sF,dx,Xg,decide_eq_true_eq];omega
theorem NH{l:aP}{i:Nat}(hj:l.js.length=l.bs.length+1):gW [dy (dF (l.ss.getD i default).nam) 4,dy (!(l.ss.take i).any (λo=>o.nam.toList==(l.ss.getD i default).nam.toList)) 5,dy (decide ((0:Int)<(l.ss.getD i default).acr.length)) 10,dy (sF l (l.ss.getD i default)) 6,
 dy (!(l.ss.getD i default).acr.any (λn=> !eR n 20000)) 2,dy (!(l.ss.take i).any (λo=>iR (l.ss.getD i default) o)) 13]=fq l i:=by
 unfold fq;generalize l.ss.getD i default=s;generalize (l.ss.take i).any (λo=>o.nam.toList==s.nam.toList)=b1;generalize (l.ss.take i).any (λo=>iR s o)=b2;generalize s.acr.any (λn=> !eR n 20000)=b3
 by_cases h0:s.acr.length=0
 ·rw [decide_eq_false (p:=(0:Int)<s.acr.length) ah,if_pos h0];cases dF s.nam<;>cases b1<;>simp [gW,dy]
 ·rw [decide_eq_true (p:=(0:Int)<s.acr.length) ah,if_neg h0,VG hj h0];cases dF s.nam<;>cases b1<;>cases dx s.fst 1 (l.bs.length - s.acr.length)<;>cases b3<;>cases b2<;>simp [gW,dy]
theorem MI(l:aP)(hl:eo l)(hj:l.js.length=l.bs.length+1)(i:Int)(hi:0<=i/\i<l.ss.length):bN Tryz.prog 118 [dL l,mA i] (λq=>q=mA (fq l i.toNat)):=by
 obtain⟨h1,h2,h3,h4,h5⟩:=id hl;have hs:=hl.at i.toNat;have hoat:∀ j:Nat,((l.ss.take i.toNat).getD j default).acr.length <=1000000:=λj=>by
  by_cases hjl:j<(l.ss.take i.toNat).length
  ·exact(h5 _ (Yj (by rw [Xc,Xd hjl];exact XR hjl))).2
  ·rw [Xc,Xq ah];decide
 have htl:(l.ss.take i.toNat).length <=1000000:=by rw [XO];omega
 refine cw (fn:=Tryz.f118) 69 ai rfl ai aU ?_;intro bk bZ hA bo;have bv:ak bk (.tmp 0)=_:=hA 0 _ rfl;have bw:ak bk (.tmp 1)=_:=hA 1 _ rfl;have aS:bZ.length=0:=by rw [bo];rfl
 clear hA bo;refine au<|at_<|aL (cZ bv rfl aS) trivial rfl (λcv aT=>?_)
 have a2:=bu aT aS;have af:=br aT aS;have af:_=1:=af;clear aT;refine ar (aB ay) rfl<|bq (ag bw) (ae aa) ?_;clear bv bw;intro cx a3 a5
 refine ao<|au<|at_<|ar (aI eW rfl a5) rfl<|ar (ax (aH H5 rfl a2 aa az) ib) rfl ?_
 refine ar (al (ag a3)) rfl<|ar (ax (cP HZ (ae aa) aa ah (by(refine cO ?_;omega))) ib) rfl ?_
 refine ar (ax (bF TZ rfl aa az) ib) rfl ?_;refine aL (cy nM rfl af) trivial rfl (λcz ap=>?_);have av:=bu ap af;simp only [pS,Value.cells,Nat.reduceAdd,ct,uT]at av;have bx:=aK ap a2;have a6:=br ap af;have a6:_=2:=a6;clear ap a2;refine aL (bP aa (ae aa) rfl rfl av nN rfl az) trivial rfl (λcA aO=>?_);have bz:=aZ aO av;simp only [pS,Value.cells,Nat.reduceAdd,ct,uT]at bz;have bA:=aw aO bx aD;have b0:=aX aO a6;clear aO av bx;refine bJ (aC (ag (aj a3))) (aC (ag (aj a5))) (aC aa) ?_;clear a3 a5;intro cB bC a7 bE;refine ao<|au<|at_<|ar (aI eW rfl a7) rfl<|ar (ax (aH H5 rfl bA aa az) ib) rfl ?_
 refine ar (al (ag bC)) rfl<|ar (Vj HZ (ae aa) aa ah dP) rfl ?_
 refine ar (aB aa) rfl<|bJ (ae (aj a7)) (ae (aj bE)) aa ?_;clear bC a7 bE;intro cC b1 b2 b6
 refine ao<|au<|Ni b2 bz eL (λb9 a8 a9 aQ=>?_)
 have ba:=aw a9 bA aD;have cb:=aX a9 b0;have bH:ak a8 (.tmp 2)=_:=(congrArg (λq=>ak q (.tmp 2)) aQ).trans (ae b1);have bb:ak a8 (.tmp 5)=_:=(congrArg (λq=>ak q (.tmp 5)) aQ).trans aa;have be:ak a8 (.tmp 6)=_:=(congrArg (λq=>ak q (.tmp 6)) aQ).trans (ae b6);clear a9 aQ;refine at_<|ar (al be) rfl<|ar (kX aM (aE (ae bb) aM)) rfl<|ar (bh (aE (ae aa) (aE aa aM)) rfl (Ly l.ss i.toNat (l.ss.getD i.toNat default) htl) D5) rfl<|ar (aB aa) rfl<|bp (aj bH) (aj bb) (aj be) aa ?_;clear bH bb be;intro bf bI ad am an
 refine ao<|au<|gl (λe mem=>(ak e (.tmp 8)= .v (.bool (sF l (l.ss.getD i.toNat default))))/\(ak e (.tmp 5)=ak bf (.tmp 5))/\(ak e (.tmp 6)=ak bf (.tmp 6))/\(ak e (.tmp 7)=ak bf (.tmp 7))/\b9=mem) ?_ ?_
 ·
  refine at_<|ar (ax (bY jN rfl ad) ib) rfl ?_
  refine ar (ax (bF Jb rfl aa az) ib) rfl ?_;refine ar (aI dN rfl (ag bI)) rfl<|ar (ax (aH H4 rfl ba aa az) ib) rfl ?_
  refine ar (ax (ca aa rfl HY.1) b7) rfl ?_
  (refine ar (eC aa ay ?_) rfl ?_; · (unfold In64;omega))
  refine ar (bh (aE (aj aa) (aE ay (aE aa aM))) rfl (l8 _ _ _) mi) rfl<|ar (al aa) rfl<|bQ aa (λab cc=>?_) (λab cc=>?_)
  ·skip;refine aG (ax (bY gI rfl (aA ad)) ib) ⟨_,rfl,ab⟩ rfl ?_;refine aG (ax (bF Ap rfl aa az) ib) ⟨_,rfl,(ae ab)⟩ rfl ?_;refine aG (ax (ca aa rfl H3.1) b7) ⟨_,rfl,(ag ab)⟩ rfl ?_;refine aG (aI dN rfl (ae (ag (aA bI)))) ⟨_,rfl,(ae (ag ab))⟩ rfl ?_;refine aG (ax (aH H4 rfl ba aa az) ib) ⟨_,rfl,(aj ab)⟩ rfl ?_;refine aG (ax (ca aa rfl HY.1) b7) ⟨_,rfl,(ae (aj ab))⟩ rfl ?_
   (refine aG (eC aa ay ?_) ⟨_,rfl,(ag (aj ab))⟩ rfl ?_; · (unfold In64;omega))
   refine aG (ax (bY jN rfl (ae (ag (aj (aA ad))))) ib) ⟨_,rfl,(ae (ag (aj ab)))⟩ rfl ?_;refine aG (ax (bF Jb rfl aa az) ib) ⟨_,rfl,(aA ab)⟩ rfl ?_;refine aG (xm (ag aa) aa) ⟨_,rfl,(ae (aA ab))⟩ rfl ?_;refine aG (fA (ae (ag (aj aa))) aa) ⟨_,rfl,(ag (aA ab))⟩ rfl ?_;refine ar (bD (ae (ag (aA ab))) aa) rfl<|ar (aB aa) rfl<|bp (ae (aj (aJ ad))) (ae (aj (aJ am))) (ae (aj (aJ an))) aa ?_;intro cD cd ce cf cg
   refine ao ⟨(cg).trans (by(refine cu ?_;simp only [sF,dx,wrap_eq,Xg,Bool.and_eq_false_imp,decide_eq_true_eq,decide_eq_false_iff_not,Xi,true_iff,false_iff]at*;(try unfold wrap64 at*);omega)),(cd).trans (ad).symm,(ce).trans (am).symm,(cf).trans (an).symm,rfl⟩
  refine aF ⟨_,rfl,.inl ab⟩ rfl ?_;refine aF ⟨_,rfl,.inl (ae ab)⟩ rfl ?_;refine aF ⟨_,rfl,.inl (ag ab)⟩ rfl ?_;refine aF ⟨_,rfl,.inl (ae (ag ab))⟩ rfl ?_;refine aF ⟨_,rfl,.inl (aj ab)⟩ rfl ?_;refine aF ⟨_,rfl,.inl (ae (aj ab))⟩ rfl ?_;refine aF ⟨_,rfl,.inl (ag (aj ab))⟩ rfl ?_;refine aF ⟨_,rfl,.inl (ae (ag (aj ab)))⟩ rfl ?_;refine aF ⟨_,rfl,.inl (aA ab)⟩ rfl ?_;refine aF ⟨_,rfl,.inl (ae (aA ab))⟩ rfl ?_;refine aF ⟨_,rfl,.inl (ag (aA ab))⟩ rfl ?_;refine ar (bG (ae (ag (aA ab))) ay) rfl<|ar (aB aa) rfl<|bp (ae (aj (aJ ad))) (ae (aj (aJ am))) (ae (aj (aJ an))) aa ?_;intro cE ci cj ck cm
  refine ao ⟨(cm).trans (by(refine cu ?_;simp only [sF,dx,wrap_eq,Xg,Bool.and_eq_false_imp,decide_eq_true_eq,decide_eq_false_iff_not,Xi,true_iff,false_iff]at*;(try unfold wrap64 at*);omega)),(ci).trans (ad).symm,(cj).trans (am).symm,(ck).trans (an).symm,rfl⟩
 ·rintro cG _ ⟨bM,cn,co,cr,rfl⟩;have bj:=cn.trans ad;have bO:=co.trans am;have bR:=cr.trans an;refine au<|at_<|ar (al bO) rfl<|ar (kX aM (aE (ae bj) aM)) rfl<|ar (bh (aE (ae aa) (aE aa aM)) rfl (LA l.ss i.toNat (l.ss.getD i.toNat default) htl hoat hs.2) D5) rfl<|ar (aB aa) rfl<|bp (aj bj) (aj bR) (aj bM) aa ?_;clear bj bO bR bM;intro cH aR bS bT bV
  refine ao<|au<|dZ 25 ai ai ai ai ?_
  refine dr (ax (bY mN rfl aR) ib) rfl ?_;refine dr (ax (bF VD rfl aa az) ib) rfl ?_;refine dr (bh (aE aa aM) rfl (vg _ ah) xf) rfl ?_;refine dr (bh (aE aa (aE ay aM)) rfl (fa _ _) fc) rfl<|dr (al (aj bS)) rfl<|dr (c8 aa) rfl<|dr (bh (aE aa (aE ay aM)) rfl (fa _ _) fc) rfl<|dr (ax (bY gI rfl (ae (ag (aj aR)))) ib) rfl ?_
  refine dr (ax (bF Ap rfl aa az) ib) rfl ?_;refine dr (ax (ca aa rfl H3.1) b7) rfl ?_;refine dr (ey aa ay) rfl<|dr (bh (aE aa (aE ay aM)) rfl (fa _ _) fc) rfl<|dr (al (aj (aA bT))) rfl<|dr (bh (aE aa (aE ay aM)) rfl (fa _ _) fc) rfl<|dr (ax (bY gI rfl (ag (aj (aA aR)))) ib) rfl ?_
  refine dr (ax (bF Ap rfl aa az) ib) rfl ?_;refine dr (bh (aE aa (aE BZ aM)) rfl (Lc _ ah) NG) rfl ?_;refine dr (c8 aa) rfl<|dr (bh (aE aa (aE ay aM)) rfl (fa _ _) fc) rfl<|dr (al (ae (ag (aJ bV)))) rfl<|dr (c8 aa) rfl<|dr (bh (aE aa (aE ay aM)) rfl (fa _ _) fc) rfl<|dr (ez Qk (bB (ag (aJ aa)) (bB (ae (ag (aj (aA aa)))) (bB (ag (aA aa)) (bB (aA aa) (bB (ae (ag aa)) (bB aa b8)))))) rfl rfl rfl rfl) rfl<|dr (bh (aE aa aM) rfl (pX [_,_,_,_,_,_] aN) qq) rfl ?_
  refine dr (aB aa) rfl<|dC<|aY aa ?_;clear aR bS bT bV;intro cI bW
  refine ao<|bg<|bL bm ai (bc bW) (.ro _ rfl) ?_
  clear bW ba cb
  (rw [<- NH hj])
theorem Ql(l:aP)(hl:eo l)(hj:l.js.length=l.bs.length+1)(i:Int)(hi:0<=i/\i<l.ss.length):bN Tryz.prog 117 [mA i,.ref (lY l)] (λq=>q=mA (fq l i.toNat)):=by
 refine cw (fn:=Tryz.f117) 7 ai rfl ai aU ?_;intro ab an hA ad;have af:ak ab (.tmp 0)=_:=hA 0 _ rfl;have ag:ak ab (.tmp 1)=_:=hA 1 _ rfl;have ap:an.length=0:=by rw [ad];rfl
 clear hA ad;refine au<|at_<|ar (aB ay) rfl<|bq (ae af) (ae ag) ?_;clear af ag;intro av ah aj
 refine ao<|au<|at_<|ar (ax (bF TY rfl aj az) bk) rfl ?_
 refine ar (al (ae ah)) rfl<|ar (bh (aE (ae aa) (aE aa aM)) rfl (MI l hl hj i hi) NF) rfl<|ar (aB aa) rfl<|aY aa ?_;clear ah aj;intro aw am
 refine ao<|bg<|bL bm ai (bc am) (.ro _ rfl) ?_
 clear am ap;rfl
theorem yA(l:aP)(hl:eo l):bN Tryz.prog 70 [dL l] (λq=>q= .tuple [.agg [mA (cx l).1.1,mA (cx l).1.2],mA (cx l).2]):=
 K9 l hl λhj i h0 h1=>Ql l hl hj i ⟨h0,h1⟩
theorem T0:bO Tryz.prog 24 95 2 16 (.agg #[.int .i64 0,.int .i64 0]):=⟨ai,ai,ai⟩
theorem Aq:bO Tryz.prog 25 97 3 48 (.agg #[.string ByteArray.empty,.int .i64 0,.slice none 0 0]):=⟨ai,ai,ai⟩
theorem rL:bO Tryz.prog 85 3 1 8 (.int .i64 0):=⟨ai,ai,ai⟩
theorem T8:aQ Tryz.prog 24 false 1:=⟨ai,ai⟩
theorem Ar:aQ Tryz.prog 25 false 1:=⟨ai,ai⟩
theorem so:aQ Tryz.prog 3 false 1:=⟨ai,ai⟩
theorem rM:aQ Tryz.prog 85 false 1:=⟨ai,ai⟩
theorem Bn:aQ Tryz.prog 9 false 1:=⟨ai,ai⟩
theorem H6:aQ Tryz.prog 97 true 3:=⟨ai,ai⟩
theorem D6{α:Type}[Inhabited α]{l:List α}{j k:Nat}(h:j<k):(l.take k).getD j default=l.getD j default:=by simp [Xc,h]
theorem yE{α:Type}[Inhabited α]{p:α->Bool}{l:List α}{j k:Nat}(hj:j<k)(hk:k<=l.length)(h:p (l.getD j default)=true):(l.take k).any p=true:=by
 rw [X5];have hl:j<(l.take k).length :=by rw [XO];omega
 refine⟨(l.take k)[j],XR hl,?_⟩;rw [<- D6 (l:=l) hj,Xc,Xd hl]at h;exact h
theorem pL{α:Type}[Inhabited α]{p:α->Bool}{l:List α}{k:Nat}(h:∀ j:Nat,j<k->p (l.getD j default)=false):(l.take k).any p=false:=by
 rw [List.any_eq_false];intro x hx;obtain⟨j,hj,rfl⟩:=XN hx;have hjk:j<k:=by rw [XO]at hj;omega
 have:=h j hjk;rw [<- D6 (l:=l) hjk,Xc,Xd hj]at this
 simpa using this
theorem T9{α:Type}[Inhabited α]{p:α->Bool}{l:List α}{j:Nat}(hj:j<l.length)(h:p (l.getD j default)=true):l.any p=true:=by
 have:=yE (k:=l.length) hj (Xf _) h
 rwa [X8]at this
theorem E9{α:Type}[Inhabited α]{p:α->Bool}{l:List α}(h:∀ j:Nat,j<l.length->p (l.getD j default)=false):l.any p=false:=by
 have:=pL (k:=l.length) h
 rwa [X8]at this
theorem MJ(l:aP)(hl:eo l)(i:Int)(hi:0<=i/\i<l.ss.length):bN Tryz.prog 75 [dL l,mA i] (λq=>q=mA (fq l i.toNat)):=by
 obtain⟨h1,h2,h3,h4,h5⟩:=id hl;have hs:=hl.at i.toNat;refine cw (fn:=Tryz.f75) 92 ai rfl ai aU ?_;intro du ew hA dv;have dw:ak du (.tmp 0)=_:=hA 0 _ rfl;have dy:ak du (.tmp 1)=_:=hA 1 _ rfl;have b9:ew.length=0:=by rw [dv];rfl
 clear hA dv;refine au<|at_<|aL (cZ dw rfl b9) trivial rfl (λfA cb=>?_)
 have cc:=bu cb b9;have av:=br cb b9;have av:_=1:=av;clear cb;refine ar (aB ay) rfl<|bq (ag dy) (ae aa) ?_;clear dw dy;intro fB cd ce
 refine ao<|au<|at_<|ar (aI eW rfl ce) rfl<|ar (ax (aH Ar rfl cc aa az) c7) rfl ?_
 refine ar (al (ag cd)) rfl<|ar (ax (cP Aq (ae aa) aa ah (by(refine cO ?_;omega))) c7) rfl ?_
 refine ar (ax (bF H6 rfl aa az) c7) rfl ?_;refine aL (cy nM rfl av) trivial rfl (λfC bz=>?_);have bA:=bu bz av;simp only [pS,Value.cells,Nat.reduceAdd,ct]at bA;have dz:=aK bz cc;have cf:=br bz av;have cf:_=2:=cf;clear bz cc;refine aL (bP aa (ae aa) rfl rfl bA nN rfl az) trivial rfl (λdA bB=>?_);have aN:=aZ bB bA;simp only [pS,Value.cells,Nat.reduceAdd,ct]at aN;have cg:=aw bB dz aD;have dB:=aX bB cf;clear bB bA dz;refine bJ (aC (ag (aj cd))) (aC (ag (aj ce))) (aC aa) ?_;clear cd ce;intro fD dD dE ci;refine ao<|au<|au<|at_<|ar (aI mN rfl ci) rfl<|ar (ax (aH Bn rfl aN aa az) c7) rfl ?_
 refine ar (bh (aE aa aM) rfl (Dv _ ah) IF) rfl ?_;refine ar (c8 aa) rfl<|bp (aj dD) (aj dE) (aj ci) aa ?_;clear dD dE ci;intro fE cj ck cm cn
 refine ao<|bj cn (λaO=>?_) (λaO=>?_)
 ·replace aO:=di aO;refine au<|at_<|ar (aB ay) rfl<|aY aa ?_;clear cn cj ck cm;intro fG dG
  refine ao<|bg<|bS<|bL bm ai (bc dG) (.ro _ rfl) ?_
  clear dG aN cg dB
  (have e:dF (l.ss.getD i.toNat default).nam =false:=(by assumption);unfold fq;rw [e];rfl)
 replace aO:=dm aO;refine bC<|ao<|au<|au<|at_<|ar (aB ay) rfl<|bp (ae cj) (ae ck) (ae cm) aa ?_;clear cn cj ck cm;intro co dH dI dJ ey
 refine ao<|bV<|eu (S:=Int) (λk e mem=>(ak e (.tmp 6)= .v (.int .i64 k))/\(ak e (.tmp 1)=ak co (.tmp 1))/\(ak e (.tmp 2)=ak co (.tmp 2))/\(ak e (.tmp 5)=ak co (.tmp 5))/\(mem[1]? =dA[1]?)/\(mem[0]? =dA[0]?)/\(mem.length=2)/\((0<=k/\k<=i/\ ∀ j:Nat,j<k.toNat->((l.ss.getD j default).nam.toList ==(l.ss.getD i.toNat default).nam.toList)=false))) (λk=>(i - k).toNat) _ ⟨ey,rfl,rfl,rfl,rfl,rfl,dB,?_⟩ ?_
 ·(exact⟨ah,ah,λj h=>absurd h ah⟩)
 ·rintro k fH dK ⟨cr,ez,eA,eB,eD,eE,aQ,hinv⟩;have cx:=ez.trans dH;have dM:=eA.trans dI;have dN:=eB.trans dJ;have ad:=eD.trans aN;have af:=eE.trans cg
  (obtain⟨p1,p2,p3⟩:=hinv)
  refine au<|au<|at_<|ar (al cr) rfl<|ar (al (ae cx)) rfl<|ar (cU (ae aa) aa) rfl<|bR (ae (ag cx)) (ae (ag dM)) (ae (ag dN)) (ae (ag cr)) aa ?_;clear cx dM dN cr;intro fI bE aR an bH cz
  refine ao<|bj cz (λaS=>?_) (λaS=>?_)
  ·replace aS:=bt aS;refine bC<|ao<|au<|bV<|au<|dZ 9 ai ai ai ai ?_
   refine dr (aI eW rfl aR) rfl<|dr (ax (aH Ar rfl af aa az) c7) rfl ?_
   refine dr (al (ag bH)) rfl<|dr (ax (cP Aq (ae aa) aa ah (by(refine cO ?_;omega))) c7) rfl ?_
   refine dr (ax (bY mN rfl aa) c7) rfl ?_;refine dr (ax (bF Bn rfl aa az) c7) rfl ?_;refine dr (aI mN rfl (ag (aj an))) rfl<|dr (ax (aH Bn rfl ad aa az) c7) rfl ?_
   refine dr (fb (ag aa) aa) rfl<|dC<|bR (ae (aA bE)) (ae (aA aR)) (ae (aA an)) (ae (aA bH)) aa ?_;clear bE cz aR an bH;intro fJ cA cC cD cE cG
   refine ao<|bj cG (λeF=>?_) (λeF=>?_)
   ·skip;refine au<|at_<|ar (aB ay) rfl<|aY aa ?_;clear cA cC cG cD cE;intro fK dP
    refine ao<|bg<|db<|bS<|bS<|db<|bS<|bL bm ai (bc dP) (.ro _ rfl) ?_
    clear dP ad af aQ
    (have e:dF (l.ss.getD i.toNat default).nam =true:=(by assumption);have e2:=yE (l:=l.ss) (k:=i.toNat) (p:=λo=>o.nam.toList==(l.ss.getD i.toNat default).nam.toList) (j:=k.toNat) ah ah (by assumption);unfold fq;rw [e,e2];rfl)
   refine bC<|cK<|ao<|at_<|ar (al cE) rfl ?_
   (refine ar (cv aa ay ?_) rfl ?_; · (unfold In64;omega))
   refine ar (aB aa) rfl<|bp (ae (ag cA)) (ae (ag cC)) (ae (ag cD)) aa ?_;clear cA cC cG cD cE;intro fL eG eJ eK eL
   refine ao<|⟨_,⟨eL,(eG.trans dH.symm),(eJ.trans dI.symm),(eK.trans dJ.symm),(ad.trans aN.symm),(af.trans cg.symm),aQ,?_⟩,?_⟩
   ·(refine⟨ah,ah,λj hj=>?_⟩;by_cases hji:j<k.toNat;(exact p3 j hji);(rw [show j=k.toNat by omega];assumption))
   ·((try dsimp only);omega)
  replace aS:=bf aS;refine dV<|cB<|cB<|dU<|ao<|au<|au<|at_<|ar (aI gI rfl an) rfl<|ar (ax (aH rM rfl ad aa az) c7) rfl ?_
  refine ar (ax (ca aa rfl rL.1) b7) rfl ?_;refine ar (e6 aa ay) rfl ?_;refine bp (aj bE) (aj aR) (aj an) aa ?_;clear bE cz aR an bH;intro fO cH bI aT cI;refine ao<|bj cI (λa2=>?_) (λa2=>?_)
  ·replace a2:=bt a2;refine au<|at_<|ar (aB ay) rfl<|aY aa ?_;clear cH bI cI aT;intro fP dQ
   refine ao<|bg<|bS<|bL bm ai (bc dQ) (.ro _ rfl) ?_
   clear dQ ad af aQ
   (have e:dF (l.ss.getD i.toNat default).nam =true:=(by assumption);have e2:=pL (l:=l.ss) (k:=i.toNat) (p:=λo=>o.nam.toList==(l.ss.getD i.toNat default).nam.toList) (λj hj=>p3 j ah);unfold fq;rw [e,e2,if_pos (show(l.ss.getD i.toNat default).acr.length =0 by omega)];rfl)
  replace a2:=bf a2;refine bC<|ao<|au<|au<|at_<|ar (aI jN rfl aT) rfl<|ar (ax (aH so rfl ad aa az) c7) rfl ?_
  refine ar (aI dO rfl (ag bI)) rfl<|ar (ax (aH T8 rfl af aa az) c7) rfl ?_
  refine ar (ax (ca aa rfl T0.1) b7) rfl ?_;refine ar (aI gI rfl (ae (aj aT))) rfl<|ar (ax (aH rM rfl ad aa az) c7) rfl ?_
  refine ar (ax (ca aa rfl rL.1) b7) rfl ?_
  (refine ar (eC (ae (ag aa)) aa ?_) rfl ?_; · (unfold In64;omega))
  refine ar (bh (aE (ae (ag (aj aa))) (aE ay (aE aa aM))) rfl (pT _ _ _) qo) rfl<|ar (c8 aa) rfl<|bp (ae (ag (aA cH))) (ae (ag (aA bI))) (ae (ag (aA aT))) aa ?_;clear cH bI cI aT;intro fQ cJ cL cM cN
  refine ao<|bj cN (λa3=>?_) (λa3=>?_)
  ·replace a3:=di a3;refine au<|at_<|ar (aB ay) rfl<|aY aa ?_;clear cJ cL cN cM;intro fR dR
   refine ao<|bg<|bS<|bL bm ai (bc dR) (.ro _ rfl) ?_
   clear dR ad af aQ
   (have e:dF (l.ss.getD i.toNat default).nam =true:=(by assumption);have e2:=pL (l:=l.ss) (k:=i.toNat) (p:=λo=>o.nam.toList==(l.ss.getD i.toNat default).nam.toList) (λj hj=>p3 j ah);unfold fq;rw [e,e2,if_neg (show ¬ (l.ss.getD i.toNat default).acr.length =0 by omega), ‹dx _ _ _=false›];rfl)
  replace a3:=dm a3;refine bC<|ao<|au<|au<|at_<|ar (aB ay) rfl<|bp (ae cJ) (ae cL) (ae cM) aa ?_;clear cJ cL cN cM;intro cQ dW dX dY eN
  refine ao<|bV<|eu (S:=Int) (λk2 e mem=>(ak e (.tmp 7)= .v (.int .i64 k2))/\(ak e (.tmp 1)=ak cQ (.tmp 1))/\(ak e (.tmp 2)=ak cQ (.tmp 2))/\(ak e (.tmp 5)=ak cQ (.tmp 5))/\(mem[1]? =dK[1]?)/\(mem[0]? =dK[0]?)/\(mem.length=2)/\((0<=k2/\k2<=(l.ss.getD i.toNat default).acr.length /\ ∀ j:Nat,j<k2.toNat->(!eR ((l.ss.getD i.toNat default).acr.getD j default) 20000)=false))) (λk2=>((l.ss.getD i.toNat default).acr.length - k2).toNat) _ ⟨eN,rfl,rfl,rfl,rfl,rfl,aQ,?_⟩ ?_
  ·(exact⟨ah,ah,λj h=>absurd h ah⟩)
  ·rintro k2 fS ea ⟨cR,eO,eP,eQ,eS,eT,cT,hinv⟩;have eb:=eO.trans dW;have ec:=eP.trans dX;have cV:=eQ.trans dY;have ap:=eS.trans ad;have bM:=eT.trans af
   (obtain⟨q1,q2,q3⟩:=hinv)
   refine au<|au<|at_<|ar (al cR) rfl<|ar (aI gI rfl (ae cV)) rfl<|ar (ax (aH rM rfl ap aa az) c7) rfl ?_
   refine ar (ax (ca aa rfl rL.1) b7) rfl ?_;refine ar (cU (ae (ag aa)) aa) rfl<|bR (ae (aj eb)) (ae (aj ec)) (ae (aj cV)) (ae (aj cR)) aa ?_;clear eb ec cV cR;intro fT bO bT a5 bW cW
   refine ao<|bj cW (λa6=>?_) (λa6=>?_)
   ·replace a6:=bt a6;refine bC<|ao<|au<|bV<|au<|at_<|ar (aI gI rfl a5) rfl<|ar (ax (aH rM rfl ap aa az) c7) rfl ?_
    refine ar (al (ag bW)) rfl<|ar (ax (cP rL (ae aa) aa ah (by(refine cO ?_;omega))) c7) rfl ?_
    refine ar (ax (bF so rfl aa az) c7) rfl ?_;refine ar (bh (aE aa (aE ay aM)) rfl (rH _ _ aD) rT) rfl ?_;refine ar (c8 aa) rfl<|bR (ae (ag (aj bO))) (ae (ag (aj bT))) (ae (ag (aj a5))) (ae (ag (aj bW))) aa ?_;clear bO bT cW a5 bW;intro fU cX cY c6 c9 da
    refine ao<|bj da (λa7=>?_) (λa7=>?_)
    ·replace a7:=di a7;refine au<|at_<|ar (aB ay) rfl<|aY aa ?_;clear cX cY c6 da c9;intro fV ed
     refine ao<|bg<|db<|bS<|bS<|db<|bS<|bL bm ai (bc ed) (.ro _ rfl) ?_
     clear ed ap bM cT
     (have e:dF (l.ss.getD i.toNat default).nam =true:=(by assumption);have e2:=pL (l:=l.ss) (k:=i.toNat) (p:=λo=>o.nam.toList==(l.ss.getD i.toNat default).nam.toList) (λj hj=>p3 j ah);have e4:=T9 (p:=λn=> !eR n 20000) (l:=(l.ss.getD i.toNat default).acr) (j:=k2.toNat) ah (by rw [‹eR _ _=false›];rfl);unfold fq;rw [e,e2,if_neg (show ¬ (l.ss.getD i.toNat default).acr.length =0 by omega), ‹dx _ _ _=true›,e4];rfl)
    replace a7:=dm a7;refine bC<|cK<|ao<|at_<|ar (al c9) rfl ?_
    (refine ar (cv aa ay ?_) rfl ?_; · (unfold In64;omega))
    refine ar (aB aa) rfl<|bp (ae (ag cX)) (ae (ag cY)) (ae (ag c6)) aa ?_;clear cX cY c6 da c9;intro fW eU eV eX eY
    refine ao<|⟨_,⟨eY,(eU.trans dW.symm),(eV.trans dX.symm),(eX.trans dY.symm),(ap.trans ad.symm),(bM.trans af.symm),cT,?_⟩,?_⟩
    ·(refine⟨ah,ah,λj hj=>?_⟩;by_cases hji:j<k2.toNat;(exact q3 j hji);(rw [show j=k2.toNat by omega, ‹eR _ _=true›];rfl))
    ·((try dsimp only);omega)
   replace a6:=bf a6;refine dV<|cB<|cB<|dU<|ao<|au<|au<|at_<|ar (aB ay) rfl<|bp (ae bO) (ae bT) (ae a5) aa ?_;clear bO bT cW a5 bW;intro dc ee ef eg eZ
   refine ao<|bV<|eu (S:=Int) (λk3 e mem=>(ak e (.tmp 8)= .v (.int .i64 k3))/\(ak e (.tmp 1)=ak dc (.tmp 1))/\(ak e (.tmp 2)=ak dc (.tmp 2))/\(ak e (.tmp 5)=ak dc (.tmp 5))/\(mem[1]? =ea[1]?)/\(mem[0]? =ea[0]?)/\(∃ n,mem.length=n/\2<=n)/\((0<=k3/\k3<=i/\ ∀ j:Nat,j<k3.toNat->iR (l.ss.getD i.toNat default) (l.ss.getD j default)=false))) (λk3=>(i - k3).toNat) _ ⟨eZ,rfl,rfl,rfl,rfl,rfl,⟨_,cT,Xf _⟩,?_⟩ ?_
   ·(exact⟨ah,ah,λj h=>absurd h ah⟩)
   ·rintro k3 fX fY ⟨dd,e0,e3,e7,e8,e9,⟨fZ,bZ,f0⟩,hinv⟩;have de:=e0.trans ee;have eh:=e3.trans ef;have ei:=e7.trans eg;have df:=e8.trans ap;have b0:=e9.trans bM
    (obtain⟨r1,r2,r3⟩:=hinv;have hso:=hl.at k3.toNat)
    refine au<|au<|at_<|ar (al dd) rfl<|ar (al (ae de)) rfl<|ar (cU (ae aa) aa) rfl<|bR (ae (ag de)) (ae (ag eh)) (ae (ag ei)) (ae (ag dd)) aa ?_;clear de eh ei dd;intro ga dg b1 dh b2 dj
    refine ao<|bj dj (λa8=>?_) (λa8=>?_)
    ·replace a8:=bt a8;refine bC<|ao<|au<|bV<|au<|at_<|ar (aI eW rfl b1) rfl<|ar (ax (aH Ar rfl b0 aa az) c7) rfl ?_
     refine ar (al (ag b2)) rfl<|ar (ax (cP Aq (ae aa) aa ah (by(refine cO ?_;omega))) c7) rfl ?_
     refine ar (ax (bF H6 rfl aa az) c7) rfl ?_;refine aL (cy nM rfl bZ) trivial rfl (λgb a9=>?_);have b6:=bu a9 bZ;simp only [pS,Value.cells,Nat.reduceAdd,ct]at b6;have ej:=aK a9 df;have ek:=aK a9 b0;have fa:=br a9 bZ;clear a9 df b0;refine aL (bP aa (ae aa) rfl rfl b6 nN rfl az) trivial rfl (λfc ba=>?_);have bb:=aZ ba b6;simp only [pS,Value.cells,Nat.reduceAdd,ct]at bb;have be:=aw ba ej ah;have en:=aw ba ek ah;have ep:=aX ba fa;clear ba b6 ej ek;refine bR (aC (ag (aj dg))) (aC (ag (aj b1))) (aC (ag (aj dh))) (aC (ag (aj b2))) (aC aa) ?_;clear dg b1 dh dj b2;intro b8 bk bo am bv dk;refine ao<|au<|gl (λe mem=>(ak e (.tmp 91)= .v (.bool (iR (l.ss.getD i.toNat default) (l.ss.getD k3.toNat default))))/\(ak e (.tmp 1)=ak b8 (.tmp 1))/\(ak e (.tmp 2)=ak b8 (.tmp 2))/\(ak e (.tmp 5)=ak b8 (.tmp 5))/\(ak e (.tmp 8)=ak b8 (.tmp 8))/\fc=mem) ?_ ?_
     ·
      refine at_<|ar (aI jN rfl am) rfl<|ar (ax (aH so rfl be aa az) c7) rfl ?_
      refine ar (aI jN rfl (ag dk)) rfl<|ar (ax (aH so rfl bb aa az) c7) rfl ?_
      refine ar (aI gI rfl (aj dk)) rfl<|ar (ax (aH rM rfl bb aa az) c7) rfl ?_
      refine ar (ax (ca aa rfl rL.1) b7) rfl ?_;refine ar (sh (ae (ag aa)) aa) rfl<|ar (cU (ag (aj aa)) aa) rfl<|ar (al aa) rfl<|bQ aa (λab bw=>?_) (λab bw=>?_)
      ·replace bw:=bt bw;refine aG (aI jN rfl (ag (aA dk))) ⟨_,rfl,ab⟩ rfl ?_;refine aG (ax (aH so rfl bb aa az) c7) ⟨_,rfl,(ae ab)⟩ rfl ?_;refine aG (aI jN rfl (aj (aA am))) ⟨_,rfl,(ag ab)⟩ rfl ?_;refine aG (ax (aH so rfl be aa az) c7) ⟨_,rfl,(ae (ag ab))⟩ rfl ?_;refine aG (aI gI rfl (ag (aj (aA am)))) ⟨_,rfl,(aj ab)⟩ rfl ?_;refine aG (ax (aH rM rfl be aa az) c7) ⟨_,rfl,(ae (aj ab))⟩ rfl ?_;refine aG (ax (ca aa rfl rL.1) b7) ⟨_,rfl,(ag (aj ab))⟩ rfl ?_;refine aG (sh (ae (ag aa)) aa) ⟨_,rfl,(ae (ag (aj ab)))⟩ rfl ?_;refine aG (cU (ag (aj aa)) aa) ⟨_,rfl,(aA ab)⟩ rfl ?_;refine ar (bD (ae (aA ab)) aa) rfl<|bR (aj (aJ bk)) (aj (aJ bo)) (aj (aJ am)) (aj (aJ bv)) aa ?_;intro gc fd fe ff fg fh
       refine ao ⟨(fh).trans (by(refine cu ?_;simp only [iR,decide_eq_true_eq,Xi,true_iff,false_iff, <- wrap_eq];omega)),(fd).trans (bk).symm,(fe).trans (bo).symm,(ff).trans (am).symm,(fg).trans (bv).symm,rfl⟩
      replace bw:=bf bw;refine aF ⟨_,rfl,.inl ab⟩ rfl ?_;refine aF ⟨_,rfl,.inl (ae ab)⟩ rfl ?_;refine aF ⟨_,rfl,.inl (ag ab)⟩ rfl ?_;refine aF ⟨_,rfl,.inl (ae (ag ab))⟩ rfl ?_;refine aF ⟨_,rfl,.inl (aj ab)⟩ rfl ?_;refine aF ⟨_,rfl,.inl (ae (aj ab))⟩ rfl ?_;refine aF ⟨_,rfl,.inl (ag (aj ab))⟩ rfl ?_;refine aF ⟨_,rfl,.inl (ae (ag (aj ab)))⟩ rfl ?_;refine aF ⟨_,rfl,.inl (aA ab)⟩ rfl ?_;refine ar (bG (ae (aA ab)) ay) rfl<|bR (aj (aJ bk)) (aj (aJ bo)) (aj (aJ am)) (aj (aJ bv)) aa ?_;intro gd fi fj fk fl fm
      refine ao ⟨(fm).trans (by(refine cu ?_;simp only [iR,decide_eq_true_eq,Xi,true_iff,false_iff, <- wrap_eq];omega)),(fi).trans (bk).symm,(fj).trans (bo).symm,(fk).trans (am).symm,(fl).trans (bv).symm,rfl⟩
     ·rintro ge _ ⟨dl,fo,fp,fs,ft,rfl⟩;have dn:=fo.trans bk;have dp:=fp.trans bo;have dq:=fs.trans am;have dt:=ft.trans bv;refine bj dl (λbx=>?_) (λbx=>?_)
      ·replace bx:=bt bx;refine au<|at_<|ar (aB ay) rfl<|aY aa ?_;clear dn dp dq dt dl;intro gf er
       refine ao<|bg<|db<|bS<|bS<|db<|bS<|bL bm ai (bc er) (.ro _ rfl) ?_
       clear er bb be en ep
       (have e:dF (l.ss.getD i.toNat default).nam =true:=(by assumption);have e2:=pL (l:=l.ss) (k:=i.toNat) (p:=λo=>o.nam.toList==(l.ss.getD i.toNat default).nam.toList) (λj hj=>p3 j ah);have e4:=E9 (p:=λn=> !eR n 20000) (l:=(l.ss.getD i.toNat default).acr) (λj hj=>q3 j ah);have e5:=yE (l:=l.ss) (k:=i.toNat) (p:=λo=>iR (l.ss.getD i.toNat default) o) (j:=k3.toNat) ah ah (by(simp only [iR,decide_eq_true_eq,decide_eq_false_iff_not];assumption));unfold fq;rw [e,e2,if_neg (show ¬ (l.ss.getD i.toNat default).acr.length =0 by omega), ‹dx _ _ _=true›,e4,e5];rfl)
      replace bx:=bf bx;refine bC<|cK<|ao<|at_<|ar (al dt) rfl ?_
      (refine ar (cv aa ay ?_) rfl ?_; · (unfold In64;omega))
      refine ar (aB aa) rfl<|bp (ae (ag dn)) (ae (ag dp)) (ae (ag dq)) aa ?_;clear dn dp dq dt dl;intro gg fu fx fy fz
      refine ao<|⟨_,⟨fz,(fu.trans ee.symm),(fx.trans ef.symm),(fy.trans eg.symm),(be.trans ap.symm),(en.trans bM.symm),⟨_,ep,ah⟩,?_⟩,?_⟩
      ·(refine⟨ah,ah,λj hj=>?_⟩;by_cases hji:j<k3.toNat;(exact r3 j hji);(rw [show j=k3.toNat by omega];(simp only [iR,decide_eq_true_eq,decide_eq_false_iff_not];assumption)))
      ·((try dsimp only);omega)
    replace a8:=bf a8;refine dV<|cB<|cB<|dU<|ao<|au<|at_<|ar (aB ay) rfl<|aY aa ?_;clear dg b1 dh dj b2;intro gh ev
    refine ao<|bg<|bL bm ai (bc ev) (.ro _ rfl) ?_
    clear ev df b0 bZ
    (have e:dF (l.ss.getD i.toNat default).nam =true:=(by assumption);have e2:=pL (l:=l.ss) (k:=i.toNat) (p:=λo=>o.nam.toList==(l.ss.getD i.toNat default).nam.toList) (λj hj=>p3 j ah);have e4:=E9 (p:=λn=> !eR n 20000) (l:=(l.ss.getD i.toNat default).acr) (λj hj=>q3 j ah);have e5:=pL (l:=l.ss) (k:=i.toNat) (p:=λo=>iR (l.ss.getD i.toNat default) o) (λj hj=>r3 j ah);unfold fq;rw [e,e2,if_neg (show ¬ (l.ss.getD i.toNat default).acr.length =0 by omega), ‹dx _ _ _=true›,e4,e5];rfl)
theorem NI:∀ args w,(callFunc 75 args).run Tryz.prog w= .ok (.enter 75 args) w:=λ_ _=>by kernel_rfl
theorem zu:bO Tryz.prog 23 59 4 32 (.agg #[.int .i64 0,.int .i64 0,.int .i64 0,.int .i64 0]):=⟨ai,ai,ai⟩
theorem rq:bO Tryz.prog 24 95 2 16 (.agg #[.int .i64 0,.int .i64 0]):=⟨ai,ai,ai⟩
theorem Fa:bO Tryz.prog 25 97 3 48 (.agg #[.string ByteArray.empty,.int .i64 0,.slice none 0 0]):=⟨ai,ai,ai⟩
theorem zw:aQ Tryz.prog 23 false 1:=⟨ai,ai⟩
theorem ru:aQ Tryz.prog 24 false 1:=⟨ai,ai⟩
theorem Fb:aQ Tryz.prog 25 false 1:=⟨ai,ai⟩
theorem Qm:aQ Tryz.prog 27 true 4:=⟨ai,ai⟩
theorem oP:aQ Tryz.prog 3 false 1:=⟨ai,ai⟩
theorem Qn:aQ Tryz.prog 59 true 4:=⟨ai,ai⟩
theorem Ua:aQ Tryz.prog 9 false 1:=⟨ai,ai⟩
theorem ny:aQ Tryz.prog 99 true 2:=⟨ai,ai⟩
theorem vF{k:Int}{f:Nat->Int}{n i:Nat}{z:(Int×Int)×Int}(hn:∀ j,j<i->f j=0)(hi:f i≠0)(h:i<n):iS k f n z=((k,(i:Int)),f i):=by
 unfold iS;rw [yW hn hi h]
theorem oI{k:Int}{f:Nat->Int}{n:Nat}{z:(Int×Int)×Int}(hn:∀ j,j<n->f j=0):iS k f n z=z:=by
 unfold iS;rw [sX hn]
theorem Ub{l:aP}(h1:dF l.nam=true)(h2:¬ (l.bs.length=0\/l.js.length≠l.bs.length+1))(h3:¬ 40<l.bs.length):cx l=iS 1 (λi=>iP (l.js.getD i default)) l.js.length
 (iS 2 (λi=>iQ (l.bs.getD i default)) l.bs.length
  (if 4<l.ss.length then((0,0),8)else iS 3 (fq l) l.ss.length ((0,0),0))):=by
 unfold cx;rw [h1,if_neg h2,if_neg h3];rfl
theorem KW(l:aP)(hl:eo l):bN Tryz.prog 36 [dL l] (λq=>q= .tuple [.agg [mA (cx l).1.1,mA (cx l).1.2],mA (cx l).2]):=by
 obtain⟨h1,h2,h3,h4,h5⟩:=id hl;refine cw (fn:=Tryz.f36) 129 ai rfl ai aU ?_;intro fh fi hA ef;have eg:ak fh (.tmp 0)=_:=hA 0 _ rfl;have c9:fi.length=0:=by rw [ef];rfl
 clear hA ef;refine au<|at_<|aL (cZ eg rfl c9) trivial rfl (λhh da=>?_)
 have ei:=bu da c9;have bo:=br da c9;have bo:_=1:=bo;clear da;refine aL (cy su rfl bo) trivial rfl (λdc co=>?_);have av:=bu co bo;simp only [pS,Value.cells,Nat.reduceAdd,bX]at av;have af:=aK co ei;have be:=br co bo;have be:_=2:=be;clear co ei;refine ar (aB ay) rfl<|bq (ag aa) (ae aa) ?_;clear eg;intro hv dd ej
 refine ao<|au<|au<|at_<|ar (aI oM rfl dd) rfl<|ar (ax (aH Ua rfl af aa az) ew) rfl ?_
 refine ar (bh (aE aa aM) rfl (Dv _ ah) IF) rfl ?_;refine ar (c8 aa) rfl<|bJ (aj dd) (aj ej) aa ?_;clear dd ej;intro ek aT a6 en
 refine ao<|bj en (λbv=>?_) (λbv=>?_)
 ·replace bv:=di bv;refine au<|at_<|ar (dq b8 mr mq mo rfl) rfl ?_
  refine aL (bP (ae a6) aa rfl rfl av j9 rfl az) trivial rfl (λhC cr=>?_);have de:=aZ cr av;simp only [pS,Value.cells,Nat.reduceAdd,bX]at de;have fj:=aw cr af aD;have fk:=aX cr be;clear cr av af;refine ar (aB ay) rfl<|bq (ae (aC (ae a6))) aa ?_;clear en aT a6;intro hD ep er
  refine ao<|bg<|bS<|eh bm ai (dE ep de ny az aN) (bc er) (eB (.ro _ rfl)) (.ro _ rfl) ?_
  clear ep er de fj fk
  (have e:dF l.nam=false:=(by assumption);rw [show cx l=((0,0),4)by unfold cx;rw [e];rfl];rfl)
 replace bv:=dm bv;refine bC<|ao<|au<|au<|gl (λe mem=>(ak e (.tmp 27)= .v (.bool (decide (l.bs.length=0\/l.js.length≠l.bs.length+1))))/\(ak e (.tmp 1)=ak ek (.tmp 1))/\(ak e (.tmp 2)=ak ek (.tmp 2))/\dc=mem) ?_ ?_
 ·
  refine at_<|ar (aI dO rfl aT) rfl<|ar (ax (aH ru rfl af aa az) ew) rfl ?_
  refine ar (ax (ca aa rfl rq.1) b7) rfl ?_;refine ar (e6 aa ay) rfl ?_;refine ar (al aa) rfl<|bQ aa (λab bw=>?_) (λab bw=>?_)
  ·replace bw:=bt bw;refine aF ⟨_,rfl,.inl ab⟩ rfl ?_;refine aF ⟨_,rfl,.inl (ae ab)⟩ rfl ?_;refine aF ⟨_,rfl,.inl (ag ab)⟩ rfl ?_;refine aF ⟨_,rfl,.inl (ae (ag ab))⟩ rfl ?_;refine aF ⟨_,rfl,.inl (aj ab)⟩ rfl ?_;refine aF ⟨_,rfl,.inl (ae (aj ab))⟩ rfl ?_;refine aF ⟨_,rfl,.inl (ag (aj ab))⟩ rfl ?_;refine aF ⟨_,rfl,.inl (ae (ag (aj ab)))⟩ rfl ?_;refine ar (bD (aA ab) ay) rfl<|bJ (ag (aj (aA aT))) (ag (aj (aA a6))) aa ?_;intro hE fl fm fo
   refine ao ⟨(fo).trans (by(refine cu ?_;simp only [decide_eq_true_eq,Xi,true_iff,false_iff,iff_true,iff_false,XF,decide_eq_false_iff_not];omega)),(fl).trans (aT).symm,(fm).trans (a6).symm,rfl⟩
  replace bw:=bf bw;refine aG (aI dN rfl (ae (aj aT))) ⟨_,rfl,ab⟩ rfl ?_;refine aG (ax (aH zw rfl af aa az) ew) ⟨_,rfl,(ae ab)⟩ rfl ?_;refine aG (ax (ca aa rfl zu.1) b7) ⟨_,rfl,(ag ab)⟩ rfl ?_;refine aG (aI dO rfl (aA aT)) ⟨_,rfl,(ae (ag ab))⟩ rfl ?_;refine aG (ax (aH ru rfl af aa az) ew) ⟨_,rfl,(aj ab)⟩ rfl ?_;refine aG (ax (ca aa rfl rq.1) b7) ⟨_,rfl,(ae (aj ab))⟩ rfl ?_
  (refine aG (cv aa ay ?_) ⟨_,rfl,(ag (aj ab))⟩ rfl ?_; · (unfold In64;omega))
  refine aG (dB (aj aa) aa) ⟨_,rfl,(ae (ag (aj ab)))⟩ rfl ?_;refine ar (bG (aA ab) aa) rfl<|bJ (ag (aj (aA aT))) (ag (aj (aA a6))) aa ?_;intro hF fp fs ft
  refine ao ⟨(ft).trans (by(refine cu ?_;simp only [decide_eq_true_eq,Xi,true_iff,false_iff,iff_true,iff_false,XF,decide_eq_false_iff_not];omega)),(fp).trans (aT).symm,(fs).trans (a6).symm,rfl⟩
 ·rintro hG _ ⟨df,fu,fz,rfl⟩;have cz:=fu.trans aT;have bx:=fz.trans a6;refine bj df (λbz=>?_) (λbz=>?_)
  ·replace bz:=bt bz;refine au<|at_<|ar (dq b8 mr mq mo rfl) rfl ?_
   refine aL (bP (ae bx) aa rfl rfl av j9 rfl az) trivial rfl (λhH cA=>?_);have dg:=aZ cA av;simp only [pS,Value.cells,Nat.reduceAdd,bX]at dg;have fA:=aw cA af aD;have fB:=aX cA be;clear cA av af;refine ar (aB ay) rfl<|bq (ae (aC (ae bx))) aa ?_;clear cz df bx;intro hI ev ez
   refine ao<|bg<|bS<|eh bm ai (dE ev dg ny az aN) (bc ez) (eB (.ro _ rfl)) (.ro _ rfl) ?_
   clear ev ez dg fA fB
   (have e:dF l.nam=true:=(by assumption);have hs:l.bs.length=0\/l.js.length≠l.bs.length+1:=(by assumption);rw [show cx l=((0,0),10)by unfold cx;simp only [e,Bool.not_true,Xi,if_false,if_pos hs]];rfl)
  replace bz:=bf bz;refine bC<|ao<|au<|au<|at_<|ar (aI dO rfl cz) rfl<|ar (ax (aH ru rfl af aa az) ew) rfl ?_
  refine ar (ax (ca aa rfl rq.1) b7) rfl ?_;refine ar (ey aa ay) rfl<|bJ (aj cz) (aj bx) aa ?_;clear cz df bx;intro hJ dh bA dj
  refine ao<|bj dj (λbE=>?_) (λbE=>?_)
  ·replace bE:=bt bE;refine au<|at_<|ar (dq b8 mr mq mo rfl) rfl ?_
   refine aL (bP (ae bA) aa rfl rfl av j9 rfl az) trivial rfl (λhK cC=>?_);have dk:=aZ cC av;simp only [pS,Value.cells,Nat.reduceAdd,bX]at dk;have fC:=aw cC af aD;have fD:=aX cC be;clear cC av af;refine ar (aB ay) rfl<|bq (ae (aC (ae bA))) aa ?_;clear dh bA dj;intro hM eA eC
   refine ao<|bg<|bS<|eh bm ai (dE eA dk ny az aN) (bc eC) (eB (.ro _ rfl)) (.ro _ rfl) ?_
   clear eA eC dk fC fD
   (have e:dF l.nam=true:=(by assumption);have hs:¬ (l.bs.length=0\/l.js.length≠l.bs.length+1):=(by assumption);have hg:40<l.bs.length:=ah;rw [show cx l=((0,0),8)by unfold cx;simp only [e,Bool.not_true,Xi,if_false,if_neg hs,if_pos hg]];rfl)
  replace bE:=bf bE
  (have hin:=Ub (l:=l) (by assumption) (by assumption) ah)
  refine bC<|ao<|au<|au<|at_<|ar (aB ay) rfl<|bJ (ae dh) (ae bA) aa ?_;clear dh bA dj;intro eD eE eF fE
  refine ao<|bV<|eu (S:=Int) (λk e mem=>(ak e (.tmp 4)= .v (.int .i64 k))/\(ak e (.tmp 1)=ak eD (.tmp 1))/\(ak e (.tmp 2)=ak eD (.tmp 2))/\(mem[1]? =dc[1]?)/\(mem[0]? =dc[0]?)/\(∃ n,mem.length=n/\2<=n)/\((0<=k/\k<=l.js.length/\ ∀ j:Nat,j<k.toNat->iP (l.js.getD j default)=0))) (λk=>(l.js.length - k).toNat) _ ⟨fE,rfl,rfl,rfl,rfl,⟨_,be,Xf _⟩,?_⟩ ?_
  ·(exact⟨ah,ah,λj h=>absurd h ah⟩)
  ·rintro k hN eG ⟨dl,fG,fH,fI,fJ,⟨eJ,cD,hO⟩,hinv⟩;have dn:=fG.trans eE;have eK:=fH.trans eF;have cE:=fI.trans av;have bk:=fJ.trans af
   (obtain⟨p1,p2,p3⟩:=hinv)
   refine au<|au<|at_<|ar (al dl) rfl<|ar (aI dN rfl (ae dn)) rfl<|ar (ax (aH zw rfl bk aa az) ew) rfl ?_
   refine ar (ax (ca aa rfl zu.1) b7) rfl ?_;refine ar (cU (ae (ag aa)) aa) rfl<|bp (ae (aj dn)) (ae (aj eK)) (ae (aj dl)) aa ?_;clear dn eK dl;intro hP bH cG cH dr
   refine ao<|bj dr (λbI=>?_) (λbI=>?_)
   ·replace bI:=bt bI;refine bC<|ao<|au<|bV<|au<|at_<|ar (aI dN rfl bH) rfl<|ar (ax (aH zw rfl bk aa az) ew) rfl ?_
    refine ar (al (ag cH)) rfl<|ar (ax (cP zu (ae aa) aa ah (by(refine cO ?_;omega))) ew) rfl ?_
    refine ar (ax (bF Qn rfl aa az) ew) rfl ?_;refine aL (cy sr rfl cD) trivial rfl (λhQ bL=>?_);have cI:=bu bL cD;simp only [pS,Value.cells,Nat.reduceAdd,bX]at cI;have eN:=aK bL cE;have eO:=aK bL bk;have fK:=br bL cD;clear bL cE bk;refine aL (bP aa (ae aa) rfl rfl cI uz rfl az) trivial rfl (λfL bM=>?_);have aO:=aZ bM cI;simp only [pS,Value.cells,Nat.reduceAdd,bX]at aO;have a8:=aw bM eN ah;have bO:=aw bM eO ah;have dt:=aX bM fK;clear bM cI eN eO;refine bp (aC (ag (aj bH))) (aC (ag (aj cG))) (aC (ag (aj cH))) (aC aa) ?_;clear bH cG dr cH;intro cJ aY a2 a3 am;refine ao<|au<|au<|gl (λe mem=>(ak e (.tmp 69)= .v (.bool (!g8 (l.js.getD k.toNat default))))/\(ak e (.tmp 1)=ak cJ (.tmp 1))/\(ak e (.tmp 2)=ak cJ (.tmp 2))/\(ak e (.tmp 4)=ak cJ (.tmp 4))/\(ak e (.tmp 5)=ak cJ (.tmp 5))/\fL=mem) ?_ ?_
    ·
     refine at_<|ar (aI iu rfl am) rfl<|ar (ax (aH oP rfl aO aa az) ew) rfl ?_
     refine ar (bh (aE aa (aE ay aM)) rfl (rH _ _ aD) rT) rfl ?_;refine ar (c8 aa) rfl<|ar (al aa) rfl<|bQ aa (λaQ bT=>?_) (λaQ bT=>?_)
     ·replace bT:=di bT;refine aF ⟨_,rfl,.inl aQ⟩ rfl ?_;refine aF ⟨_,rfl,.inl (ae aQ)⟩ rfl ?_;refine aF ⟨_,rfl,.inl (ag aQ)⟩ rfl ?_;refine aF ⟨_,rfl,.inl (ae (ag aQ))⟩ rfl ?_;refine ar (bD (aj aQ) ay) rfl<|ar (al aa) rfl<|aF ⟨_,rfl,.inl aa⟩ rfl ?_
      refine aF ⟨_,rfl,.inl (ae aa)⟩ rfl ?_;refine aF ⟨_,rfl,.inl (ag aa)⟩ rfl ?_;refine aF ⟨_,rfl,.inl (ae (ag aa))⟩ rfl ?_;refine aF ⟨_,rfl,.inl (aj aa)⟩ rfl ?_;refine ar (bD (ae (aj aa)) ay) rfl<|ar (al aa) rfl<|aF ⟨_,rfl,.inl aa⟩ rfl ?_
      refine aF ⟨_,rfl,.inl (ae aa)⟩ rfl ?_;refine aF ⟨_,rfl,.inl (ag aa)⟩ rfl ?_;refine aF ⟨_,rfl,.inl (ae (ag aa))⟩ rfl ?_;refine aF ⟨_,rfl,.inl (aj aa)⟩ rfl ?_;refine ar (bD (ae (aj aa)) ay) rfl<|bR (aA (aJ aY)) (aA (aJ a2)) (aA (aJ a3)) (aA (aJ am)) aa ?_;intro hS fO fP fQ fR fS
      refine ao ⟨(fS).trans (by(refine cu ?_;unfold g8;simp_all)),(fO).trans (aY).symm,(fP).trans (a2).symm,(fQ).trans (a3).symm,(fR).trans (am).symm,rfl⟩
     replace bT:=dm bT;refine aG (aI tI rfl (ae (aj am))) ⟨_,rfl,aQ⟩ rfl ?_;refine aG (ax (aH oP rfl aO aa az) ew) ⟨_,rfl,(ae aQ)⟩ rfl ?_;refine aG (bh (aE aa (aE ay aM)) rfl (rH _ _ aD) rT) ⟨_,rfl,(ag aQ)⟩ rfl ?_;refine aG (c8 aa) ⟨_,rfl,(ae (ag aQ))⟩ rfl ?_;refine ar (bG (aj aQ) aa) rfl<|ar (al aa) rfl<|bQ aa (λan bW=>?_) (λan bW=>?_)
     ·replace bW:=di bW;refine aF ⟨_,rfl,.inl an⟩ rfl ?_;refine aF ⟨_,rfl,.inl (ae an)⟩ rfl ?_;refine aF ⟨_,rfl,.inl (ag an)⟩ rfl ?_;refine aF ⟨_,rfl,.inl (ae (ag an))⟩ rfl ?_;refine aF ⟨_,rfl,.inl (aj an)⟩ rfl ?_;refine ar (bD (ae (aj an)) ay) rfl<|ar (al aa) rfl<|aF ⟨_,rfl,.inl aa⟩ rfl ?_
      refine aF ⟨_,rfl,.inl (ae aa)⟩ rfl ?_;refine aF ⟨_,rfl,.inl (ag aa)⟩ rfl ?_;refine aF ⟨_,rfl,.inl (ae (ag aa))⟩ rfl ?_;refine aF ⟨_,rfl,.inl (aj aa)⟩ rfl ?_;refine ar (bD (ae (aj aa)) ay) rfl<|bR (aA (aJ aY)) (aA (aJ a2)) (aA (aJ a3)) (aA (aJ am)) aa ?_;intro hU fT fV fW fX fY
      refine ao ⟨(fY).trans (by(refine cu ?_;unfold g8;simp_all)),(fT).trans (aY).symm,(fV).trans (a2).symm,(fW).trans (a3).symm,(fX).trans (am).symm,rfl⟩
     replace bW:=dm bW;refine aG (aI fU rfl (ae (ag (aA am)))) ⟨_,rfl,an⟩ rfl ?_;refine aG (aI fx rfl aa) ⟨_,rfl,(ae an)⟩ rfl ?_;refine aG (ax (aH oP rfl aO aa az) ew) ⟨_,rfl,(ag an)⟩ rfl ?_;refine aG (bh (aE aa (aE ay aM)) rfl (rH _ _ aD) rT) ⟨_,rfl,(ae (ag an))⟩ rfl ?_;refine aG (c8 aa) ⟨_,rfl,(aj an)⟩ rfl ?_;refine ar (bG (ae (aj an)) aa) rfl<|ar (al aa) rfl<|bQ aa (λap bZ=>?_) (λap bZ=>?_)
     ·replace bZ:=di bZ;refine aF ⟨_,rfl,.inl ap⟩ rfl ?_;refine aF ⟨_,rfl,.inl (ae ap)⟩ rfl ?_;refine aF ⟨_,rfl,.inl (ag ap)⟩ rfl ?_;refine aF ⟨_,rfl,.inl (ae (ag ap))⟩ rfl ?_;refine aF ⟨_,rfl,.inl (aj ap)⟩ rfl ?_;refine ar (bD (ae (aj ap)) ay) rfl<|bR (aA (aJ aY)) (aA (aJ a2)) (aA (aJ a3)) (aA (aJ am)) aa ?_;intro hV fZ f0 ga gb gc
      refine ao ⟨(gc).trans (by(refine cu ?_;unfold g8;simp_all)),(fZ).trans (aY).symm,(f0).trans (a2).symm,(ga).trans (a3).symm,(gb).trans (am).symm,rfl⟩
     replace bZ:=dm bZ;refine aG (aI fU rfl (ag (aJ am))) ⟨_,rfl,ap⟩ rfl ?_;refine aG (aI fy rfl aa) ⟨_,rfl,(ae ap)⟩ rfl ?_;refine aG (ax (aH oP rfl aO aa az) ew) ⟨_,rfl,(ag ap)⟩ rfl ?_;refine aG (bh (aE aa (aE ay aM)) rfl (rH _ _ aD) rT) ⟨_,rfl,(ae (ag ap))⟩ rfl ?_;refine aG (c8 aa) ⟨_,rfl,(aj ap)⟩ rfl ?_;refine ar (bG (ae (aj ap)) aa) rfl<|bR (aA (aJ aY)) (aA (aJ a2)) (aA (aJ a3)) (aA (aJ am)) aa ?_;intro hW gd ge gf gg gh
     refine ao ⟨(gh).trans (by(refine cu ?_;unfold g8;simp_all)),(gd).trans (aY).symm,(ge).trans (a2).symm,(gf).trans (a3).symm,(gg).trans (am).symm,rfl⟩
    ·rintro hY _ ⟨du,gi,gj,gk,gm,rfl⟩;have dv:=gi.trans aY;have b0:=gj.trans a2;have cL:=gk.trans a3;have cM:=gm.trans am;refine bj du (λb1=>?_) (λb1=>?_)
     ·replace b1:=di b1;refine au<|at_<|ar (al cL) rfl<|ar (dq (bB ay (bB aa b8)) mr mq mo rfl) rfl ?_
      refine aL (bP (ag b0) aa rfl rfl a8 j9 rfl az) trivial rfl (λhZ b2=>?_);have dw:=aZ b2 a8;simp only [pS,Value.cells,Nat.reduceAdd,bX]at dw;have gn:=aw b2 aO ah;have gp:=aw b2 bO aD;have gq:=aX b2 dt;clear b2 aO a8 bO;refine ar (aB ay) rfl<|bq (ae (aC (ag b0))) aa ?_;clear dv b0 cL cM du;intro h6 eP eQ
      refine ao<|bg<|bS<|db<|bS<|bS<|db<|bS<|eh bm ai (dE eP dw ny az aN) (bc eQ) (eB (.ro _ rfl)) (.ro _ rfl) ?_
      clear eP eQ dw gn gp gq
      (have e:iP (l.js.getD k.toNat default)=2:=(by unfold iP;rw [‹g8 _=false›];rfl);rw [hin,vF (i:=k.toNat) p3 (by rw [e];decide) ah,e];(simp only [Yn p1];rfl))
     replace b1:=dm b1;refine bC<|ao<|au<|at_<|ar (aI fU rfl cM) rfl<|ar (aI fx rfl aa) rfl<|ar (ax (aH oP rfl aO aa az) ew) rfl ?_
     refine ar (aI fU rfl (ae (ag cM))) rfl<|ar (aI fy rfl aa) rfl<|ar (ax (aH oP rfl aO aa az) ew) rfl ?_
     refine ar (ey (ae (ag aa)) aa) rfl<|bp (ae (ag (aj dv))) (ae (ag (aj b0))) (ae (ag (aj cL))) aa ?_;clear dv b0 cL cM du;intro h7 dx b6 cN dy
     refine ao<|bj dy (λb9=>?_) (λb9=>?_)
     ·replace b9:=bt b9;refine au<|at_<|ar (al cN) rfl<|ar (dq (bB ay (bB aa b8)) mr mq mo rfl) rfl ?_
      refine aL (bP (ag b6) aa rfl rfl a8 j9 rfl az) trivial rfl (λh8 cb=>?_);have dz:=aZ cb a8;simp only [pS,Value.cells,Nat.reduceAdd,bX]at dz;have gr:=aw cb aO ah;have gt:=aw cb bO aD;have gu:=aX cb dt;clear cb aO a8 bO;refine ar (aB ay) rfl<|bq (ae (aC (ag b6))) aa ?_;clear dx b6 cN dy;intro h9 eR eS
      refine ao<|bg<|db<|bS<|bS<|db<|bS<|eh bm ai (dE eR dz ny az aN) (bc eS) (eB (.ro _ rfl)) (.ro _ rfl) ?_
      clear eR eS dz gr gt gu
      (have e:iP (l.js.getD k.toNat default)=9:=(by unfold iP;rw [‹g8 _=true›,if_pos rfl,if_neg ah]);rw [hin,vF (i:=k.toNat) p3 (by rw [e];decide) ah,e];(simp only [Yn p1];rfl))
     replace b9:=bf b9;refine bC<|cK<|ao<|at_<|ar (al cN) rfl ?_
     (refine ar (cv aa ay ?_) rfl ?_; · (unfold In64;omega))
     refine ar (aB aa) rfl<|bJ (ae (ag dx)) (ae (ag b6)) aa ?_;clear dx b6 cN dy;intro ia gw gx gy
     refine ao<|⟨_,⟨gy,(gw.trans eE.symm),(gx.trans eF.symm),(a8.trans av.symm),(bO.trans af.symm),⟨_,dt,ah⟩,?_⟩,?_⟩
     ·(refine⟨ah,ah,λj hj=>?_⟩;by_cases hji:j<k.toNat;(exact p3 j hji);(rw [show j=k.toNat by omega];unfold iP;rw [‹g8 _=true›,if_pos rfl,if_pos ah]))
     ·((try dsimp only);omega)
   replace bI:=bf bI;refine dV<|cB<|cB<|dU<|ao<|au<|au<|at_<|ar (aB ay) rfl<|bJ (ae bH) (ae cG) aa ?_;clear bH cG dr cH;intro eT eU eV gz
   refine ao<|bV<|eu (S:=Int) (λk2 e mem=>(ak e (.tmp 6)= .v (.int .i64 k2))/\(ak e (.tmp 1)=ak eT (.tmp 1))/\(ak e (.tmp 2)=ak eT (.tmp 2))/\(mem[1]? =eG[1]?)/\(mem[0]? =eG[0]?)/\(mem.length=eJ)/\((0<=k2/\k2<=l.bs.length/\ ∀ j:Nat,j<k2.toNat->iQ (l.bs.getD j default)=0))) (λk2=>(l.bs.length - k2).toNat) _ ⟨gz,rfl,rfl,rfl,rfl,cD,?_⟩ ?_
   ·(exact⟨ah,ah,λj h=>absurd h ah⟩)
   ·rintro k2 ib dA ⟨dC,gA,gB,gC,gD,cQ,hinv⟩;have dD:=gA.trans eU;have eX:=gB.trans eV;have a5:=gC.trans cE;have aR:=gD.trans bk
    (obtain⟨q1,q2,q3⟩:=hinv)
    refine au<|au<|at_<|ar (al dC) rfl<|ar (aI dO rfl (ae dD)) rfl<|ar (ax (aH ru rfl aR aa az) ew) rfl ?_
    refine ar (ax (ca aa rfl rq.1) b7) rfl ?_;refine ar (cU (ae (ag aa)) aa) rfl<|bp (ae (aj dD)) (ae (aj eX)) (ae (aj dC)) aa ?_;clear dD eX dC;intro dG aS a9 a7 eY
    refine ao<|bj eY (λcc=>?_) (λcc=>?_)
    ·replace cc:=bt cc;refine bC<|ao<|au<|bV<|au<|gl (λe mem=>(ak e (.tmp 105)= .v (.bool (!lR (l.bs.getD k2.toNat default))))/\(ak e (.tmp 1)=ak dG (.tmp 1))/\(ak e (.tmp 2)=ak dG (.tmp 2))/\(ak e (.tmp 6)=ak dG (.tmp 6))/\dA=mem) ?_ ?_
     ·
      refine at_<|ar (aI dO rfl aS) rfl<|ar (ax (aH ru rfl aR aa az) ew) rfl ?_
      refine ar (al (ag a7)) rfl<|ar (ax (cP rq (ae aa) aa ah (by(refine cO ?_;omega))) eL) rfl ?_
      refine ar (ax (bY mb rfl aa) ew) rfl ?_;refine ar (ax (bF oP rfl aa az) ew) rfl ?_;refine ar (bh (aE aa (aE ay (aE ay aM))) rfl (pT _ _ _) qo) rfl<|ar (c8 aa) rfl<|ar (al aa) rfl<|bQ aa (λad cd=>?_) (λad cd=>?_)
      ·replace cd:=di cd;refine aF ⟨_,rfl,.inl ad⟩ rfl ?_;refine aF ⟨_,rfl,.inl (ae ad)⟩ rfl ?_;refine aF ⟨_,rfl,.inl (ag ad)⟩ rfl ?_;refine aF ⟨_,rfl,.inl (ae (ag ad))⟩ rfl ?_;refine aF ⟨_,rfl,.inl (aj ad)⟩ rfl ?_;refine aF ⟨_,rfl,.inl (ae (aj ad))⟩ rfl ?_;refine aF ⟨_,rfl,.inl (ag (aj ad))⟩ rfl ?_;refine aF ⟨_,rfl,.inl (ae (ag (aj ad)))⟩ rfl ?_;refine ar (bD (aA ad) ay) rfl<|bp (ag (aJ aS)) (ag (aJ a9)) (ag (aJ a7)) aa ?_;intro ic gE gF gG gH
       refine ao ⟨(gH).trans (by(refine cu ?_;unfold lR;simp_all)),(gE).trans (aS).symm,(gF).trans (a9).symm,(gG).trans (a7).symm,rfl⟩
      replace cd:=dm cd;refine aG (aI dO rfl (ae (aA aS))) ⟨_,rfl,ad⟩ rfl ?_;refine aG (ax (aH ru rfl aR aa az) ew) ⟨_,rfl,(ae ad)⟩ rfl ?_;refine aG (al (ae (ag (aA a7)))) ⟨_,rfl,(ag ad)⟩ rfl ?_;refine aG (ax (cP rq (ae aa) aa ah (by(refine cO ?_;omega))) eL) ⟨_,rfl,(ae (ag ad))⟩ rfl ?_;refine aG (ax (bY tJ rfl aa) eL) ⟨_,rfl,(aj ad)⟩ rfl ?_;refine aG (ax (bF oP rfl aa az) ew) ⟨_,rfl,(ae (aj ad))⟩ rfl ?_;refine aG (bh (aE aa (aE ay aM)) rfl (rH _ _ aD) rT) ⟨_,rfl,(ag (aj ad))⟩ rfl ?_;refine aG (c8 aa) ⟨_,rfl,(ae (ag (aj ad)))⟩ rfl ?_;refine ar (bG (aA ad) aa) rfl<|bp (ag (aJ aS)) (ag (aJ a9)) (ag (aJ a7)) aa ?_;intro ie gI gJ gL gM
      refine ao ⟨(gM).trans (by(refine cu ?_;unfold lR;simp_all)),(gI).trans (aS).symm,(gJ).trans (a9).symm,(gL).trans (a7).symm,rfl⟩
     ·rintro ig _ ⟨dH,gN,gO,gP,rfl⟩;have dI:=gN.trans aS;have ce:=gO.trans a9;have cR:=gP.trans a7;refine bj dH (λcf=>?_) (λcf=>?_)
      ·replace cf:=di cf;refine au<|at_<|ar (al cR) rfl<|ar (dq (bB ay (bB aa b8)) mr mq mo rfl) rfl ?_
       refine aL (bP (ag ce) aa rfl rfl a5 j9 rfl az) trivial rfl (λih cT=>?_);have dJ:=aZ cT a5;simp only [pS,Value.cells,Nat.reduceAdd,bX]at dJ;have gQ:=aw cT aR aD;have gR:=aX cT cQ;clear cT a5 aR;refine ar (aB ay) rfl<|bq (ae (aC (ag ce))) aa ?_;clear dH dI ce cR;intro ij eZ e0
       refine ao<|bg<|db<|bS<|bS<|db<|bS<|eh bm ai (dE eZ dJ ny az aN) (bc e0) (eB (.ro _ rfl)) (.ro _ rfl) ?_
       clear eZ e0 dJ gQ gR
       (have e:iQ (l.bs.getD k2.toNat default)=2:=(by unfold iQ;rw [‹lR _=false›];rfl);rw [hin,oI (λj hj=>p3 j ah),vF (i:=k2.toNat) q3 (by rw [e];decide) ah,e];(simp only [Yn q1];rfl))
      replace cf:=dm cf;refine bC<|cK<|ao<|at_<|ar (al cR) rfl ?_
      (refine ar (cv aa ay ?_) rfl ?_; · (unfold In64;omega))
      refine ar (aB aa) rfl<|bJ (ae (ag dI)) (ae (ag ce)) aa ?_;clear dH dI ce cR;intro ik gS gT gU
      refine ao<|⟨_,⟨gU,(gS.trans eU.symm),(gT.trans eV.symm),(a5.trans cE.symm),(aR.trans bk.symm),cQ,?_⟩,?_⟩
      ·(refine⟨ah,ah,λj hj=>?_⟩;by_cases hji:j<k2.toNat;(exact q3 j hji);(rw [show j=k2.toNat by omega];unfold iQ;rw [‹lR _=true›,if_pos rfl]))
      ·((try dsimp only);omega)
    replace cc:=bf cc;refine dV<|cB<|cB<|dU<|ao<|au<|au<|at_<|ar (aI eW rfl aS) rfl<|ar (ax (aH Fb rfl aR aa az) ew) rfl ?_
    refine ar (ax (ca aa rfl Fa.1) b7) rfl ?_;refine ar (ey aa ay) rfl<|bJ (aj aS) (aj a9) aa ?_;clear aS a9 a7 eY;intro il dK cg dM
    refine ao<|bj dM (λci=>?_) (λci=>?_)
    ·replace ci:=bt ci;refine au<|at_<|ar (dq b8 mr mq mo rfl) rfl ?_
     refine aL (bP (ae cg) aa rfl rfl a5 j9 rfl az) trivial rfl (λim cV=>?_);have dP:=aZ cV a5;simp only [pS,Value.cells,Nat.reduceAdd,bX]at dP;have gV:=aw cV aR aD;have gW:=aX cV cQ;clear cV a5 aR;refine ar (aB ay) rfl<|bq (ae (aC (ae cg))) aa ?_;clear dM dK cg;intro io e3 e4
     refine ao<|bg<|bS<|eh bm ai (dE e3 dP ny az aN) (bc e4) (eB (.ro _ rfl)) (.ro _ rfl) ?_
     clear e3 e4 dP gV gW
     (rw [hin,oI (λj hj=>p3 j ah),oI (λj hj=>q3 j ah),if_pos ah];rfl)
    replace ci:=bf ci;refine bC<|ao<|au<|au<|at_<|ar (aB ay) rfl<|bJ (ae dK) (ae cg) aa ?_;clear dM dK cg;intro e5 e7 e8 gX
    refine ao<|bV<|eu (S:=Int) (λk3 e mem=>(ak e (.tmp 7)= .v (.int .i64 k3))/\(ak e (.tmp 1)=ak e5 (.tmp 1))/\(ak e (.tmp 2)=ak e5 (.tmp 2))/\(mem[1]? =dA[1]?)/\(mem[0]? =dA[0]?)/\(mem.length=eJ)/\((0<=k3/\k3<=l.ss.length/\ ∀ j:Nat,j<k3.toNat->fq l j=0))) (λk3=>(l.ss.length - k3).toNat) _ ⟨gX,rfl,rfl,rfl,rfl,cQ,?_⟩ ?_
    ·(exact⟨ah,ah,λj h=>absurd h ah⟩)
    ·rintro k3 ip iq ⟨dQ,gY,gZ,g0,g1,dW,hinv⟩;have dX:=gY.trans e7;have e9:=gZ.trans e8;have ba:=g0.trans a5;have bb:=g1.trans aR
     (obtain⟨r1,r2,r3⟩:=hinv)
     refine au<|au<|at_<|ar (al dQ) rfl<|ar (aI eW rfl (ae dX)) rfl<|ar (ax (aH Fb rfl bb aa az) ew) rfl ?_
     refine ar (ax (ca aa rfl Fa.1) b7) rfl ?_;refine ar (cU (ae (ag aa)) aa) rfl<|bp (ae (aj dX)) (ae (aj e9)) (ae (aj dQ)) aa ?_;clear dX e9 dQ;intro ir cW cj cX dY
     refine ao<|bj dY (λck=>?_) (λck=>?_)
     ·replace ck:=bt ck;refine bC<|ao<|au<|bV<|au<|at_<|ar (ax (aH Qm rfl bb cW az) ew) rfl ?_
      refine ar (al (ae cX)) rfl<|ar (bh (aE (ae aa) (aE aa aM)) rfl (MJ l hl k3 ⟨ah,ah⟩) NI) rfl ?_
      refine ar (aB aa) rfl<|bp (aj cW) (aj cj) (aj cX) aa ?_;clear dY cW cj cX;intro iv fa fb fc dZ
      refine ao<|au<|at_<|ar (al dZ) rfl<|ar (dB aa ay) rfl<|bR (ag fa) (ag fb) (ag fc) (ag dZ) aa ?_;clear fa fb fc dZ;intro iw ea cm cY eb ec
      refine ao<|bj ec (λcn=>?_) (λcn=>?_)
      ·replace cn:=dR cn;refine au<|at_<|ar (al cY) rfl<|ar (dq (bB ay (bB aa b8)) mr mq mo rfl) rfl ?_
       refine ar (al (ag eb)) rfl<|aL (bP (ae (ag cm)) (ae aa) rfl rfl ba j9 rfl az) trivial rfl (λix c6=>?_)
       have ed:=aZ c6 ba;simp only [pS,Value.cells,Nat.reduceAdd,bX]at ed;have g2:=aw c6 bb aD;have g3:=aX c6 dW;clear c6 ba bb;refine ar (aB (aC aa)) rfl<|bq (ae (aC (ae (ag cm)))) aa ?_;clear ec ea cm cY eb;intro iz fd fe
       refine ao<|bg<|db<|bS<|bS<|db<|bS<|eh bm ai (dE fd ed ny az aN) (bc fe) (eB (.ro _ rfl)) (.ro _ rfl) ?_
       clear fd fe ed g2 g3
       (rw [hin,oI (λj hj=>p3 j ah),oI (λj hj=>q3 j ah),if_neg ah,vF (i:=k3.toNat) r3 (by assumption) ah];(simp only [Yn r1];rfl))
      replace cn:=dp cn;refine bC<|cK<|ao<|at_<|ar (al cY) rfl ?_
      (refine ar (cv aa ay ?_) rfl ?_; · (unfold In64;omega))
      refine ar (aB aa) rfl<|bJ (ae (ag ea)) (ae (ag cm)) aa ?_;clear ec ea cm cY eb;intro iA g4 g5 g6
      refine ao<|⟨_,⟨g6,(g4.trans e7.symm),(g5.trans e8.symm),(ba.trans a5.symm),(bb.trans aR.symm),dW,?_⟩,?_⟩
      ·(refine⟨ah,ah,λj hj=>?_⟩;by_cases hji:j<k3.toNat;(exact r3 j hji);(rw [show j=k3.toNat by omega];assumption))
      ·((try dsimp only);omega)
     replace ck:=bf ck;refine dV<|cB<|cB<|dU<|ao<|au<|at_<|ar (dq b8 mr mq mo rfl) rfl ?_
     refine aL (bP (ae cj) aa rfl rfl ba j9 rfl az) trivial rfl (λiB c7=>?_);have ee:=aZ c7 ba;simp only [pS,Value.cells,Nat.reduceAdd,bX]at ee;have g7:=aw c7 bb aD;have g9:=aX c7 dW;clear c7 ba bb;refine ar (aB ay) rfl<|bq (ae (aC (ae cj))) aa ?_;clear dY cW cj cX;intro iC ff fg
     refine ao<|bg<|eh bm ai (dE ff ee ny az aN) (bc fg) (eB (.ro _ rfl)) (.ro _ rfl) ?_
     clear ff fg ee g7 g9
     (rw [hin,oI (λj hj=>p3 j ah),oI (λj hj=>q3 j ah),if_neg ah,oI (λj hj=>r3 j ah)];rfl)
theorem NJ:∀ args w,(callFunc 36 args).run Tryz.prog w= .ok (.enter 36 args) w:=λ_ _=>by kernel_rfl
theorem NK:∀ args w,(callFunc 44 args).run Tryz.prog w= .ok (.enter 44 args) w:=λ_ _=>by kernel_rfl
theorem Fe:bO Tryz.prog 24 95 2 16 (.agg #[.int .i64 0,.int .i64 0]):=⟨ai,ai,ai⟩
theorem Ff:aQ Tryz.prog 24 false 1:=⟨ai,ai⟩
theorem Fg:aQ Tryz.prog 27 true 4:=⟨ai,ai⟩
theorem Uc:aQ Tryz.prog 3 false 1:=⟨ai,ai⟩
def pz(n most limit:Int):Bool:=decide (n<=most\/(limit<n/\n<=limit+3))
theorem Jc(n most limit:Int)(hl:0<=limit/\limit<=1000):bN Tryz.prog 38 [mA n,mA most,mA limit] (λq=>q=dK (pz n most limit)):=by
 refine cw (fn:=Tryz.f38) 21 ai rfl ai aU ?_;intro av aJ hA ax;have az:ak av (.tmp 0)=_:=hA 0 _ rfl;have aC:ak av (.tmp 1)=_:=hA 1 _ rfl;have aD:ak av (.tmp 2)=_:=hA 2 _ rfl;have aw:aJ.length=0:=by rw [ax];rfl
 clear hA ax;refine au<|at_<|ar (aB ay) rfl<|bJ (ae az) (ae aC) (ae aD) ?_;clear az aC aD;intro aK af ap ah
 refine ao<|au<|at_<|ar (al af) rfl<|ar (al (ae ap)) rfl<|ar (fA (ae aa) aa) rfl<|ar (al aa) rfl<|bQ aa (λab am=>?_) (λab am=>?_)
 ·replace am:=bt am;refine aF ⟨_,rfl,.inl ab⟩ rfl ?_;refine aF ⟨_,rfl,.inl (ae ab)⟩ rfl ?_;refine aF ⟨_,rfl,.inl (ag ab)⟩ rfl ?_;refine aF ⟨_,rfl,.inl (ae (ag ab))⟩ rfl ?_;refine aF ⟨_,rfl,.inr aa⟩ rfl ?_;refine aF ⟨_,rfl,.inr (ae aa)⟩ rfl ?_;refine aF ⟨_,rfl,.inr (ag aa)⟩ rfl ?_;refine aF ⟨_,rfl,.inr (ae (ag aa))⟩ rfl ?_;refine aF ⟨_,rfl,.inl (aA ab)⟩ rfl ?_;refine ar (bD (ae (aA ab)) ay) rfl<|ar (aB aa) rfl<|aY aa ?_;clear ab af ap ah;intro aL aE
  refine ao<|bg<|bL bm ai (bc aE) (.ro _ rfl) ?_
  clear aE aw
  (refine cu ?_;simp only [pz,decide_eq_true_eq,Xi,true_iff,false_iff];omega)
 replace am:=bf am;refine aG (al (aj af)) ⟨_,rfl,ab⟩ rfl ?_;refine aG (al (ae (aj ah))) ⟨_,rfl,(ae ab)⟩ rfl ?_;refine aG (ey (ae aa) aa) ⟨_,rfl,(ag ab)⟩ rfl ?_;refine aG (al aa) ⟨_,rfl,(ae (ag ab))⟩ rfl ?_;refine bQ aa (λad an=>?_) (λad an=>?_)
 ·replace an:=bt an;refine aG (al (aA af)) ⟨_,rfl,ad⟩ rfl ?_;refine aG (al (ae (aA ah))) ⟨_,rfl,(ae ad)⟩ rfl ?_
  (refine aG (cv aa ay ?_) ⟨_,rfl,(ag ad)⟩ rfl ?_; · (unfold In64;omega))
  refine aG (fA (ag aa) aa) ⟨_,rfl,(ae (ag ad))⟩ rfl ?_;refine aG (bD (aj ad) aa) ⟨_,rfl,(aA ab)⟩ rfl ?_;refine ar (bG (ae (aA ab)) aa) rfl<|ar (aB aa) rfl<|aY aa ?_;clear ab ad af ap ah;intro aM aH
  refine ao<|bg<|bL bm ai (bc aH) (.ro _ rfl) ?_
  clear aH aw
  (refine cu ?_;simp only [pz,decide_eq_true_eq,Xi,true_iff,false_iff];omega)
 replace an:=bf an;refine aF ⟨_,rfl,.inl ad⟩ rfl ?_;refine aF ⟨_,rfl,.inl (ae ad)⟩ rfl ?_;refine aF ⟨_,rfl,.inl (ag ad)⟩ rfl ?_;refine aF ⟨_,rfl,.inl (ae (ag ad))⟩ rfl ?_;refine aG (bG (aj ad) ay) ⟨_,rfl,(aA ab)⟩ rfl ?_;refine ar (bG (ae (aA ab)) aa) rfl<|ar (aB aa) rfl<|aY aa ?_;clear ab ad af ap ah;intro aN aI
 refine ao<|bg<|bL bm ai (bc aI) (.ro _ rfl) ?_
 clear aI aw
 (refine cu ?_;simp only [pz,decide_eq_true_eq,Xi,true_iff,false_iff];omega)
theorem vh(l:aP)(hl:eo l):bN Tryz.prog 13 [dL l] (λq=>q=mA (cx l).2):=by
 refine cw (fn:=Tryz.f13) 11 ai rfl ai aU ?_;intro aO aQ hA av;have aA:ak aO (.tmp 0)=_:=hA 0 _ rfl;have aj:aQ.length=0:=by rw [av];rfl
 clear hA av;refine au<|at_<|aL (cZ aA rfl aj) trivial rfl (λaT am=>?_)
 have an:=bu am aj;have ab:=br am aj;have ab:_=1:=ab;clear am;refine ar (aB ay) rfl<|aY (ae aa) ?_;clear aA;intro a2 aF
 refine ao<|au<|at_<|ar (ax (aH Fg rfl an aF az) bk) rfl ?_
 refine ar (bh (aE aa aM) rfl (KW l hl) NJ) rfl<|ar (al aa) rfl<|ar (cI aa rfl) rfl<|ar (cI (ae aa) rfl) rfl<|aL (cy su rfl ab) trivial rfl (λa3 ad=>?_)
 have af:=bu ad ab;simp only [pS,Value.cells,Nat.reduceAdd]at af;have aG:=aK ad an;have ap:=br ad ab;have ap:_=2:=ap;clear ad an;refine aL (bP aa (ag aa) rfl rfl af j9 rfl az) trivial rfl (λa5 ah=>?_);have aI:=aZ ah af;simp only [pS,Value.cells,Nat.reduceAdd]at aI;have aR:=aw ah aG aD;have aS:=aX ah ap;clear ah af aG;refine ar (aB (aC (ae aa))) rfl<|aY aa ?_;clear aF;intro a6 aJ
 refine ao<|au<|at_<|ar (al aJ) rfl<|ar (aB aa) rfl<|aY aa ?_;clear aJ;intro a7 aN
 refine ao<|bg<|bL bm ai (bc aN) (.ro _ rfl) ?_
 clear aN aI aR aS;rfl
def iT(n lo hi:Int):Int:=if dx n lo hi then 0 else 6
def b9(bs:List fY):Nat->Int
 | 0=>0
 | n+1=>b9 bs n+(bs.getD n default).len
theorem wP{bs:List fY}(h:∀ j:Nat,j<bs.length->0<=(bs.getD j default).len /\(bs.getD j default).len <=30000):∀ {n:Nat},n<=bs.length->0<=b9 bs n/\b9 bs n<=30000*n
 | 0,_=>by simp [b9]
 | n+1,hn=>by
  have h1:=wP h (n:=n) ah;have h2:=h n ah;simp only [b9];omega
theorem LC(l:aP)(hb:l.bs.length<=1000)(h:∀ j:Nat,j<l.bs.length->0<=(l.bs.getD j default).len /\(l.bs.getD j default).len <=30000)(n:Int)(hn:0<=n/\n<=l.bs.length):bN Tryz.prog 44 [dL l,mA n] (λq=>q=mA (b9 l.bs n.toNat)):=by
 refine cw (fn:=Tryz.f44) 21 ai rfl ai aU ?_;intro aG be hA aJ;have aK:ak aG (.tmp 0)=_:=hA 0 _ rfl;have aM:ak aG (.tmp 1)=_:=hA 1 _ rfl;have an:be.length=0:=by rw [aJ];rfl
 clear hA aJ;refine au<|at_<|aL (cZ aK rfl an) trivial rfl (λbh ap=>?_)
 have aN:=bu ap an;have av:=br ap an;have av:_=1:=av;clear ap;refine ar (aB ay) rfl<|bq (ag aM) (ae aa) ?_;clear aK aM;intro bE aO aQ
 refine ao<|au<|at_<|ar (aB ay) rfl<|bJ (ae aO) (ae aQ) aa ?_;clear aO aQ;intro bG aR aS aT
 refine ao<|au<|au<|at_<|ar (aB ay) rfl<|bp (ae aR) (ae aS) (ae aT) aa ?_;clear aR aS aT;intro aX aZ a2 bk bo
 refine ao<|bV<|eu (S:=(Int×Int)) (λs e mem=>match s with|⟨k,sm⟩=>(ak e (.tmp 6)= .v (.int .i64 k))/\(ak e (.tmp 5)= .v (.int .i64 sm))/\(ak e (.tmp 1)=ak aX (.tmp 1))/\(ak e (.tmp 2)=ak aX (.tmp 2))/\(mem[0]? =bh[0]?)/\(mem.length=1)/\((0<=k/\k<=n/\sm=b9 l.bs k.toNat))) (λs=>match s with|⟨k,sm⟩=>(n - k).toNat) ⟨_,0⟩ ⟨bo,bk,rfl,rfl,rfl,av,?_⟩ ?_
 ·(exact⟨ah,ah,rfl⟩)
 ·rintro⟨k,sm⟩ bH bI ⟨aw,a3,bv,bw,bx,a5,hinv⟩;have aC:=bv.trans aZ;have a6:=bw.trans a2;have aD:=bx.trans aN
  (obtain⟨p1,p2,p3⟩:=hinv;have hp:=wP h (n:=k.toNat) ah)
  refine au<|au<|at_<|ar (al aw) rfl<|ar (al (ae aC)) rfl<|ar (cU (ae aa) aa) rfl<|bR (ae (ag aC)) (ae (ag a6)) (ae (ag a3)) (ae (ag aw)) aa ?_;clear aC a6 a3 aw;intro bM aE ad af am aF
  refine ao<|bj aF (λab=>?_) (λab=>?_)
  ·replace ab:=bt ab
   (have hk:=h k.toNat ah)
   refine bC<|ao<|au<|bV<|at_<|ar (al af) rfl<|ar (aI dO rfl (ae ad)) rfl<|ar (ax (aH Ff rfl aD aa az) mU) rfl ?_
   refine ar (al (ae (ag am))) rfl<|ar (ax (cP Fe (ae aa) aa ah (by first|(refine eb ?_;first|omega|(simp only [cS];omega))|(refine cO ?_;first|omega|(simp only [cS];omega))|(refine ky ?_;first|omega|(simp only [cS];omega))|rfl)) mU) rfl ?_
   refine ar (ax (bY mb rfl aa) mU) rfl ?_;refine ar (ax (bF Uc rfl aa az) mU) rfl ?_
   (refine ar (cv (ag (aj aa)) aa ?_) rfl ?_; · (unfold In64;omega))
   refine ar (aB aa) rfl<|bp (ae (aA aE)) (ae (aA ad)) aa (ae (aA am)) ?_;clear aE ad af am aF;intro bO a7 a8 a9 ba
   refine cK<|ao<|at_<|ar (al ba) rfl ?_
   (refine ar (cv aa ay ?_) rfl ?_; · (unfold In64;omega))
   refine ar (aB aa) rfl<|bp (ae (ag a7)) (ae (ag a8)) (ae (ag a9)) aa ?_;clear a7 a8 a9 ba;intro bP bz bA bB bD
   refine ao<|⟨⟨_,_⟩,⟨bD,bB,(bz.trans aZ.symm),(bA.trans a2.symm),(aD.trans aN.symm),a5,?_⟩,?_⟩
   ·(refine⟨ah,ah,?_⟩;rw [show(k+1).toNat =k.toNat+1 by omega,b9,p3])
   ·((try dsimp only);omega)
  replace ab:=bf ab;refine dV<|cB<|cB<|dU<|ao<|au<|at_<|ar (al af) rfl<|ar (aB aa) rfl<|aY aa ?_;clear aE ad af am aF;intro bQ bb
  refine ao<|bg<|bL bm ai (bc bb) (.ro _ rfl) ?_
  clear bb aD a5
  (rw [p3,show k.toNat=n.toNat by omega])
theorem Ld(l:aP)(hb:l.bs.length<=1000)(h:∀ j:Nat,j<l.bs.length->0<=(l.bs.getD j default).len /\(l.bs.getD j default).len <=30000):bN Tryz.prog 17 [dL l] (λq=>q=mA (b9 l.bs l.bs.length)):=by
 refine cw (fn:=Tryz.f17) 8 ai rfl ai aU ?_;intro av aw hA am;have an:ak av (.tmp 0)=_:=hA 0 _ rfl;have ab:aw.length=0:=by rw [am];rfl
 clear hA am;refine au<|at_<|aL (cZ an rfl ab) trivial rfl (λaA ad=>?_)
 have af:=bu ad ab;have aj:=br ad ab;have aj:_=1:=aj;clear ad;refine ar (aB ay) rfl<|aY (ae aa) ?_;clear an;intro aC al
 refine ao<|au<|at_<|ar (ax (aH Fg rfl af al az) bk) rfl ?_
 refine ar (aI dO rfl (ae al)) rfl<|ar (ax (aH Ff rfl af aa az) bk) rfl ?_
 refine ar (ax (ca aa rfl Fe.1) b7) rfl ?_;refine ar (bh (aE (ae (ag aa)) (aE aa aM)) rfl (LC l hb h _ ⟨ah,ah⟩) NK) rfl ?_;refine ar (aB aa) rfl<|aY aa ?_;clear al;intro aD ap
 refine ao<|bg<|bL bm ai (bc ap) (.ro _ rfl) ?_
 clear ap af aj;rfl
theorem D7:∀ args w,(callFunc 38 args).run Tryz.prog w= .ok (.enter 38 args) w:=λ_ _=>by kernel_rfl
theorem Qo:bO Tryz.prog 23 59 4 32 (.agg #[.int .i64 0,.int .i64 0,.int .i64 0,.int .i64 0]):=⟨ai,ai,ai⟩
theorem Qp:bO Tryz.prog 24 95 2 16 (.agg #[.int .i64 0,.int .i64 0]):=⟨ai,ai,ai⟩
theorem vG:bO Tryz.prog 25 97 3 48 (.agg #[.string ByteArray.empty,.int .i64 0,.slice none 0 0]):=⟨ai,ai,ai⟩
theorem Qq:bO Tryz.prog 85 3 1 8 (.int .i64 0):=⟨ai,ai,ai⟩
theorem Qr:aQ Tryz.prog 23 false 1:=⟨ai,ai⟩
theorem Qs:aQ Tryz.prog 24 false 1:=⟨ai,ai⟩
theorem vH:aQ Tryz.prog 25 false 1:=⟨ai,ai⟩
theorem Qu:aQ Tryz.prog 85 false 1:=⟨ai,ai⟩
theorem H7:aQ Tryz.prog 9 false 1:=⟨ai,ai⟩
def pF(s:eU):Bool:=decide (s.nam.size<=20/\s.acr.length<=6)
def lS(l:aP):Bool:=decide (l.nam.size<=20/\(l.bs.length<=8\/(40<l.bs.length/\l.bs.length<=43))/\(l.js.length<=9\/(41<l.js.length/\l.js.length<=44))/\l.ss.length<=6)
def qT(l:aP):Bool:=lS l&&l.ss.all pF
theorem Ud{α:Type}[Inhabited α]{p:α->Bool}{l:List α}{j:Nat}(hj:j<l.length)(h:p (l.getD j default)=false):l.all p=false:=by
 rw [List.all_eq_false];exact⟨l[j],XR hj,by rw [Xc,Xd hj]at h;simpa using h⟩
theorem Qv{α:Type}[Inhabited α]{p:α->Bool}{l:List α}(h:∀ j:Nat,j<l.length->p (l.getD j default)=true):l.all p=true:=by
 rw [Xv];intro x hx;obtain⟨j,hj,rfl⟩:=XN hx;have:=h j hj
 rwa [Xc,Xd hj]at this
theorem Qw{l:aP}(h:qT l=true):eo l:=by
 simp only [qT,lS,Xg,decide_eq_true_eq,Xv,pF]at h;obtain⟨⟨a,b,c,d⟩,e⟩:=h;exact⟨ah,ah,ah,ah,λs hs=>by have:=e s hs;omega⟩
theorem wQ(l:aP):bN Tryz.prog 10 [dL l] (λq=>q=dK (qT l)):=by
 refine cw (fn:=Tryz.f10) 53 ai rfl ai aU ?_;intro bB bE hA be;have bk:ak bB (.tmp 0)=_:=hA 0 _ rfl;have aZ:bE.length=0:=by rw [be];rfl
 clear hA be;refine au<|at_<|aL (cZ bk rfl aZ) trivial rfl (λbo a2=>?_)
 have aw:=bu a2 aZ;have aX:=br a2 aZ;have aX:_=1:=aX;clear a2;refine ar (aB ay) rfl<|aY (ae aa) ?_;clear bk;intro bH ad
 refine ao<|au<|au<|gl (λe mem=>(ak e (.tmp 27)= .v (.bool (!lS l)))/\(ak e (.tmp 1)=ak bH (.tmp 1))/\bo=mem) ?_ ?_
 ·
  refine at_<|ar (aI oM rfl ad) rfl<|ar (ax (aH H7 rfl aw aa az) c7) rfl ?_
  refine ar (jg aa rfl fj) rfl<|ar (ey aa ay) rfl<|ar (al aa) rfl<|bQ aa (λaf aK=>?_) (λaf aK=>?_)
  ·replace aK:=bt aK;refine aF ⟨_,rfl,.inl af⟩ rfl ?_;refine aF ⟨_,rfl,.inl (ae af)⟩ rfl ?_;refine aF ⟨_,rfl,.inl (ag af)⟩ rfl ?_;refine aF ⟨_,rfl,.inl (ae (ag af))⟩ rfl ?_;refine aF ⟨_,rfl,.inl (aj af)⟩ rfl ?_;refine ar (bD (ae (aj af)) ay) rfl<|ar (al aa) rfl<|aF ⟨_,rfl,.inl aa⟩ rfl ?_
   refine aF ⟨_,rfl,.inl (ae aa)⟩ rfl ?_;refine aF ⟨_,rfl,.inl (ag aa)⟩ rfl ?_;refine aF ⟨_,rfl,.inl (ae (ag aa))⟩ rfl ?_;refine aF ⟨_,rfl,.inl (aj aa)⟩ rfl ?_;refine ar (bD (ae (aj aa)) ay) rfl<|ar (al aa) rfl<|aF ⟨_,rfl,.inl aa⟩ rfl ?_
   refine aF ⟨_,rfl,.inl (ae aa)⟩ rfl ?_;refine aF ⟨_,rfl,.inl (ag aa)⟩ rfl ?_;refine aF ⟨_,rfl,.inl (ae (ag aa))⟩ rfl ?_;refine ar (bD (aj aa) ay) rfl<|bq (aA (aJ ad)) aa ?_;intro cn bI bM
   refine ao ⟨(bM).trans (by(refine cu ?_;simp only [lS,pz,XF,decide_eq_false_iff_not,decide_eq_true_eq,Xi,true_iff,false_iff,iff_true,iff_false]at*;omega)),(bI).trans (ad).symm,rfl⟩
  replace aK:=bf aK;refine aG (aI dO rfl (ae (aj ad))) ⟨_,rfl,af⟩ rfl ?_;refine aG (ax (aH Qs rfl aw aa az) c7) ⟨_,rfl,(ae af)⟩ rfl ?_;refine aG (ax (ca aa rfl Qp.1) b7) ⟨_,rfl,(ag af)⟩ rfl ?_;refine aG (bh (aE aa (aE ay (aE ay aM))) rfl (Jc _ _ _ aD) D7) ⟨_,rfl,(ae (ag af))⟩ rfl ?_;refine aG (c8 aa) ⟨_,rfl,(aj af)⟩ rfl ?_;refine ar (bG (ae (aj af)) aa) rfl<|ar (al aa) rfl<|bQ aa (λam aN=>?_) (λam aN=>?_)
  ·replace aN:=dR aN;refine aF ⟨_,rfl,.inl am⟩ rfl ?_;refine aF ⟨_,rfl,.inl (ae am)⟩ rfl ?_;refine aF ⟨_,rfl,.inl (ag am)⟩ rfl ?_;refine aF ⟨_,rfl,.inl (ae (ag am))⟩ rfl ?_;refine aF ⟨_,rfl,.inl (aj am)⟩ rfl ?_;refine ar (bD (ae (aj am)) ay) rfl<|ar (al aa) rfl<|aF ⟨_,rfl,.inl aa⟩ rfl ?_
   refine aF ⟨_,rfl,.inl (ae aa)⟩ rfl ?_;refine aF ⟨_,rfl,.inl (ag aa)⟩ rfl ?_;refine aF ⟨_,rfl,.inl (ae (ag aa))⟩ rfl ?_;refine ar (bD (aj aa) ay) rfl<|bq (aA (aJ ad)) aa ?_;intro co bO bP
   refine ao ⟨(bP).trans (by(refine cu ?_;simp only [lS,pz,XF,decide_eq_false_iff_not,decide_eq_true_eq,Xi,true_iff,false_iff,iff_true,iff_false]at*;omega)),(bO).trans (ad).symm,rfl⟩
  replace aN:=dp aN;refine aG (aI dN rfl (aj (aA ad))) ⟨_,rfl,am⟩ rfl ?_;refine aG (ax (aH Qr rfl aw aa az) c7) ⟨_,rfl,(ae am)⟩ rfl ?_;refine aG (ax (ca aa rfl Qo.1) b7) ⟨_,rfl,(ag am)⟩ rfl ?_;refine aG (bh (aE aa (aE ay (aE ay aM))) rfl (Jc _ _ _ aD) D7) ⟨_,rfl,(ae (ag am))⟩ rfl ?_;refine aG (c8 aa) ⟨_,rfl,(aj am)⟩ rfl ?_;refine ar (bG (ae (aj am)) aa) rfl<|ar (al aa) rfl<|bQ aa (λan aO=>?_) (λan aO=>?_)
  ·replace aO:=dR aO;refine aF ⟨_,rfl,.inl an⟩ rfl ?_;refine aF ⟨_,rfl,.inl (ae an)⟩ rfl ?_;refine aF ⟨_,rfl,.inl (ag an)⟩ rfl ?_;refine aF ⟨_,rfl,.inl (ae (ag an))⟩ rfl ?_;refine ar (bD (aj an) ay) rfl<|bq (aA (aJ ad)) aa ?_;intro cr bR bT
   refine ao ⟨(bT).trans (by(refine cu ?_;simp only [lS,pz,XF,decide_eq_false_iff_not,decide_eq_true_eq,Xi,true_iff,false_iff,iff_true,iff_false]at*;omega)),(bR).trans (ad).symm,rfl⟩
  replace aO:=dp aO;refine aG (aI eW rfl (ae (ag (aJ ad)))) ⟨_,rfl,an⟩ rfl ?_;refine aG (ax (aH vH rfl aw aa az) c7) ⟨_,rfl,(ae an)⟩ rfl ?_;refine aG (ax (ca aa rfl vG.1) b7) ⟨_,rfl,(ag an)⟩ rfl ?_;refine aG (ey aa ay) ⟨_,rfl,(ae (ag an))⟩ rfl ?_;refine ar (bG (aj an) aa) rfl<|bq (aA (aJ ad)) aa ?_;intro cx bW bZ
  refine ao ⟨(bZ).trans (by(refine cu ?_;simp only [lS,pz,XF,decide_eq_false_iff_not,decide_eq_true_eq,Xi,true_iff,false_iff,iff_true,iff_false]at*;omega)),(bW).trans (ad).symm,rfl⟩
 ·rintro cy _ ⟨a3,b0,rfl⟩;have a5:=b0.trans ad;refine bj a3 (λaQ=>?_) (λaQ=>?_)
  ·replace aQ:=dR aQ;refine au<|at_<|ar (aB ay) rfl<|aY aa ?_;clear a5 a3;intro cz bp
   refine ao<|bg<|bS<|bL bm ai (bc bp) (.ro _ rfl) ?_
   clear bp aw aX
   (have e:lS l=false:=(by unfold lS;rw [decide_eq_false_iff_not];assumption);rw [qT,e];rfl)
  replace aQ:=dp aQ
  (have hf0:lS l=true:=(by unfold lS;rw [decide_eq_true_eq];assumption);have hss:l.ss.length<=6:=(by simp only [lS,decide_eq_true_eq]at hf0;exact hf0.2.2.2))
  refine bC<|ao<|au<|au<|at_<|ar (aB ay) rfl<|bq (ae a5) aa ?_;clear a5 a3;intro b1 bv b2
  refine ao<|bV<|eu (S:=Int) (λk e mem=>(ak e (.tmp 3)= .v (.int .i64 k))/\(ak e (.tmp 1)=ak b1 (.tmp 1))/\(mem[0]? =bo[0]?)/\(mem.length=1)/\((0<=k/\k<=l.ss.length/\ ∀ j:Nat,j<k.toNat->pF (l.ss.getD j default)=true))) (λk=>(l.ss.length - k).toNat) _ ⟨b2,rfl,rfl,aX,?_⟩ ?_
  ·(exact⟨ah,ah,λj h=>absurd h ah⟩)
  ·rintro k cA b6 ⟨a6,b8,b9,a7,hinv⟩;have a8:=b8.trans bv;have aC:=b9.trans aw
   (obtain⟨p1,p2,p3⟩:=hinv)
   refine au<|au<|at_<|ar (al a6) rfl<|ar (aI eW rfl (ae a8)) rfl<|ar (ax (aH vH rfl aC aa az) c7) rfl ?_
   refine ar (ax (ca aa rfl vG.1) b7) rfl ?_;refine ar (cU (ae (ag aa)) aa) rfl<|bJ (ae (aj a8)) (ae (aj a6)) aa ?_;clear a8 a6;intro bw ap av bx
   refine ao<|bj bx (λaR=>?_) (λaR=>?_)
   ·replace aR:=bt aR;refine bC<|ao<|au<|bV<|au<|gl (λe mem=>(ak e (.tmp 52)= .v (.bool (!pF (l.ss.getD k.toNat default))))/\(ak e (.tmp 1)=ak bw (.tmp 1))/\(ak e (.tmp 3)=ak bw (.tmp 3))/\b6=mem) ?_ ?_
    ·
     refine at_<|ar (aI eW rfl ap) rfl<|ar (ax (aH vH rfl aC aa az) c7) rfl ?_
     refine ar (al (ag av)) rfl<|ar (ax (cP vG (ae aa) aa ah (by(refine cO ?_;omega))) c7) rfl ?_
     refine ar (ax (bY mN rfl aa) c7) rfl ?_;refine ar (ax (bF H7 rfl aa az) c7) rfl ?_;refine ar (jg aa rfl fj) rfl<|ar (ey aa ay) rfl<|ar (al aa) rfl<|bQ aa (λab aS=>?_) (λab aS=>?_)
     ·replace aS:=bt aS;refine aF ⟨_,rfl,.inl ab⟩ rfl ?_;refine aF ⟨_,rfl,.inl (ae ab)⟩ rfl ?_;refine aF ⟨_,rfl,.inl (ag ab)⟩ rfl ?_;refine aF ⟨_,rfl,.inl (ae (ag ab))⟩ rfl ?_;refine aF ⟨_,rfl,.inl (aj ab)⟩ rfl ?_;refine aF ⟨_,rfl,.inl (ae (aj ab))⟩ rfl ?_;refine aF ⟨_,rfl,.inl (ag (aj ab))⟩ rfl ?_;refine aF ⟨_,rfl,.inl (ae (ag (aj ab)))⟩ rfl ?_;refine ar (bD (aA ab) ay) rfl<|bJ (ag (aJ ap)) (ag (aJ av)) aa ?_;intro cC cb cc cd
      refine ao ⟨(cd).trans (by(refine cu ?_;simp only [pF,XF,decide_eq_false_iff_not,decide_eq_true_eq,Xi,true_iff,false_iff];omega)),(cb).trans (ap).symm,(cc).trans (av).symm,rfl⟩
     replace aS:=bf aS;refine aG (aI eW rfl (ae (aA ap))) ⟨_,rfl,ab⟩ rfl ?_;refine aG (ax (aH vH rfl aC aa az) c7) ⟨_,rfl,(ae ab)⟩ rfl ?_;refine aG (al (ae (ag (aA av)))) ⟨_,rfl,(ag ab)⟩ rfl ?_;refine aG (ax (cP vG (ae aa) aa ah (by(refine cO ?_;omega))) c7) ⟨_,rfl,(ae (ag ab))⟩ rfl ?_;refine aG (ax (bY gI rfl aa) c7) ⟨_,rfl,(aj ab)⟩ rfl ?_;refine aG (ax (bF Qu rfl aa az) c7) ⟨_,rfl,(ae (aj ab))⟩ rfl ?_;refine aG (ax (ca aa rfl Qq.1) b7) ⟨_,rfl,(ag (aj ab))⟩ rfl ?_;refine aG (ey aa ay) ⟨_,rfl,(ae (ag (aj ab)))⟩ rfl ?_;refine ar (bG (aA ab) aa) rfl<|bJ (ag (aJ ap)) (ag (aJ av)) aa ?_;intro cD ce cf cg
     refine ao ⟨(cg).trans (by(refine cu ?_;simp only [pF,XF,decide_eq_false_iff_not,decide_eq_true_eq,Xi,true_iff,false_iff];omega)),(ce).trans (ap).symm,(cf).trans (av).symm,rfl⟩
    ·rintro cE _ ⟨a9,ci,cj,rfl⟩;have ba:=ci.trans ap;have bb:=cj.trans av;refine bj a9 (λaT=>?_) (λaT=>?_)
     ·replace aT:=dR aT;refine au<|at_<|ar (aB ay) rfl<|aY aa ?_;clear ba bb a9;intro cG bz
      refine ao<|bg<|db<|bS<|bS<|db<|bS<|bL bm ai (bc bz) (.ro _ rfl) ?_
      clear bz aC a7
      (rw [qT,hf0,Ud (j:=k.toNat) ah (by(unfold pF;rw [decide_eq_false_iff_not];assumption))];rfl)
     replace aT:=dp aT;refine bC<|cK<|ao<|at_<|ar (al bb) rfl ?_
     (refine ar (cv aa ay ?_) rfl ?_; · (unfold In64;omega))
     refine ar (aB aa) rfl<|bq (ae (ag ba)) aa ?_;clear ba bb a9;intro cH ck cm
     refine ao<|⟨_,⟨cm,(ck.trans bv.symm),(aC.trans aw.symm),a7,?_⟩,?_⟩
     ·(refine⟨ah,ah,λj hj=>?_⟩;by_cases hji:j<k.toNat;(exact p3 j hji);(rw [show j=k.toNat by omega];(unfold pF;rw [decide_eq_true_eq];assumption)))
     ·((try dsimp only);omega)
   replace aR:=bf aR;refine dV<|cB<|cB<|dU<|ao<|au<|at_<|ar (aB ay) rfl<|aY aa ?_;clear ap bx av;intro cI bA
   refine ao<|bg<|bL bm ai (bc bA) (.ro _ rfl) ?_
   clear bA aC a7
   (rw [qT,hf0,Qv (λj hj=>p3 j ah)];rfl)
theorem NL:∀ args w,(callFunc 42 args).run Tryz.prog w= .ok (.enter 42 args) w:=λ_ _=>by kernel_rfl
theorem Fh:bO Tryz.prog 23 59 4 32 (.agg #[.int .i64 0,.int .i64 0,.int .i64 0,.int .i64 0]):=⟨ai,ai,ai⟩
theorem Fj:bO Tryz.prog 24 95 2 16 (.agg #[.int .i64 0,.int .i64 0]):=⟨ai,ai,ai⟩
theorem vI:bO Tryz.prog 25 97 3 48 (.agg #[.string ByteArray.empty,.int .i64 0,.slice none 0 0]):=⟨ai,ai,ai⟩
theorem Fo:bO Tryz.prog 85 3 1 8 (.int .i64 0):=⟨ai,ai,ai⟩
theorem Qx:aQ Tryz.prog 23 false 1:=⟨ai,ai⟩
theorem Qy:aQ Tryz.prog 24 false 1:=⟨ai,ai⟩
theorem Fp:aQ Tryz.prog 25 false 1:=⟨ai,ai⟩
theorem Fq:aQ Tryz.prog 27 true 4:=⟨ai,ai⟩
theorem Qz:aQ Tryz.prog 85 false 1:=⟨ai,ai⟩
theorem Ft:aQ Tryz.prog 97 true 3:=⟨ai,ai⟩
theorem gK(a:ByteArray)(b:Int)(c:List Int): [[AV.v (.string a),AV.v (.int .i64 b),AV.row 1 (c.map iE)]]= [(⟨a,b,c⟩:eU)].map ct:=rfl
theorem Fv{l:List eU}{i:Int}(h0:0<=i)(h:i<l.length):l.take (i+1).toNat =l.take i.toNat++ [l.getD i.toNat default]:=by
 rw [show(i+1).toNat =i.toNat+1 by omega,YK,Xd (by omega:i.toNat<l.length),Xc,Xd (by omega:i.toNat<l.length)];rfl
theorem Le(xs:List Int)(hc:xs.length<=1000000):bN Tryz.prog 42 [.row 1 (xs.map iE)] (λq=>q= .row 1 (xs.map iE)):=by
 refine cw (fn:=Tryz.f42) 6 ai rfl ai aU ?_;intro ah aj hA ab;have ad:ak ah (.tmp 0)=_:=hA 0 _ rfl;have am:aj.length=0:=by rw [ab];rfl
 clear hA ab;refine au<|at_<|ar (aB ay) rfl<|aY (ae ad) ?_;clear ad;intro an af
 refine ao<|au<|at_<|ar (rB Fo) rfl<|ar (al (ae af)) rfl<|ar (um Fo rfl (ae aa) aa dP) rfl ?_
 refine ar (aB aa) rfl<|aY aa ?_;clear af;intro ap ag
 refine ao<|bg<|bL bm ai (bc ag) (.ro _ rfl) ?_
 clear ag am;rfl
theorem tl(l:aP)(hl:eo l):bN Tryz.prog 12 [dL l] (λq=>q=dL l):=by
 obtain⟨h1,h2,h3,h4,h5⟩:=id hl;refine cw (fn:=Tryz.f12) 39 ai rfl ai aU ?_;intro dc dd hA bY;have bZ:ak dc (.tmp 0)=_:=hA 0 _ rfl;have bx:dd.length=0:=by rw [bY];rfl
 clear hA bY;refine au<|at_<|aL (cZ bZ rfl bx) trivial rfl (λdG bz=>?_)
 have b0:=bu bz bx;have aF:=br bz bx;have aF:_=1:=aF;clear bz;refine aL (cy j8 rfl aF) trivial rfl (λdH a3=>?_);have bA:=bu a3 aF;simp only [pS,Value.cells,Nat.reduceAdd,ct,gK,bK]at bA;have a5:=aK a3 b0;have bD:=br a3 aF;have bD:_=2:=bD;clear a3 b0;refine bq (ae aa) aa ?_;clear bZ;intro dI a6 b1;refine ao<|au<|at_<|ar (rB Fh) rfl<|ar (aI dN rfl (ae a6)) rfl<|ar (ax (aH Qx rfl a5 aa az) gP) rfl ?_
 refine ar (um Fh rfl (ag aa) aa dP) rfl ?_;refine ar (aI dN rfl (aj a6)) rfl<|aL (bP aa (ae aa) rfl rfl a5 Jt rfl az) trivial rfl (λdJ a7=>?_)
 have aG:=aZ a7 a5;simp only [pS,Value.cells,Nat.reduceAdd,ct,gK,bK]at aG;have b2:=aw a7 bA aD;have de:=aX a7 bD;clear a7 bA a5;refine bq (aC (ae (aj a6))) (aC (ae (aj b1))) ?_;clear a6 b1;intro dK a8 b6;refine ao<|au<|at_<|ar (rB Fj) rfl<|ar (aI dO rfl (ae a8)) rfl<|ar (ax (aH Qy rfl aG aa az) gP) rfl ?_
 refine ar (um Fj rfl (ag aa) aa dP) rfl ?_;refine ar (aI dO rfl (aj a8)) rfl<|aL (bP aa (ae aa) rfl rfl aG Ju rfl az) trivial rfl (λdM a9=>?_)
 have b9:=aZ a9 aG;simp only [pS,Value.cells,Nat.reduceAdd,ct,gK,bK]at b9;have df:=aw a9 b2 aD;have bE:=aX a9 de;clear a9 aG b2;refine bq (aC (ae (aj a8))) (aC (ae (aj b6))) ?_;clear a8 b6;intro dQ cb cc;refine ao<|au<|at_<|ar (aB ay) rfl<|bJ (ae cb) (ae cc) aa ?_;clear cb cc;intro dR cd ce cf
 refine ao<|au<|au<|at_<|ar (aB ay) rfl<|bp (ae cd) (ae ce) (ae cf) aa ?_;clear cd ce cf;intro dW dg dh di dj
 refine ao<|bV<|EI 97 3 di bE (λcg ad aJ aO=>?_)
 have dk:=bu aJ bE;have ci:=aK aJ b9;have cj:=aK aJ df;have bG:=br aJ bE;have bG:_=3:=bG;have ck:ak ad (.tmp 1)=_:=(congrArg (λq=>ak q (.tmp 1)) aO).trans (ae dg);have cm:ak ad (.tmp 2)=_:=(congrArg (λq=>ak q (.tmp 2)) aO).trans (ae dh);have dl:ak ad (.tmp 3)=_:=(congrArg (λq=>ak q (.tmp 3)) aO).trans aa;have dm:ak ad (.tmp 4)=_:=(congrArg (λq=>ak q (.tmp 4)) aO).trans (ae dj);clear aJ aO;refine eu (S:=(Int×List eU)) (λs e mem=>match s with|⟨k,xs⟩=>(ak e (.tmp 4)= .v (.int .i64 k))/\(ak e (.tmp 1)=ak ad (.tmp 1))/\(ak e (.tmp 2)=ak ad (.tmp 2))/\(mem[0]? =cg[0]?)/\(mem[1]? =cg[1]?)/\(∃ j,ak e (.tmp 3)= .own j/\mem[j]? =some (.row 97 3 (xs.map ct))/\j≠0/\j≠1)/\(∃ n,mem.length=n/\3<=n)/\((0<=k/\k<=l.ss.length/\xs=l.ss.take k.toNat))) (λs=>match s with|⟨k,xs⟩=>(l.ss.length - k).toNat) ⟨_,[]⟩ ⟨dm,rfl,rfl,rfl,rfl,⟨_,dl,dk,aD,aD⟩,⟨_,bG,Xf _⟩,?_⟩ ?_
 ·(exact⟨ah,ah,rfl⟩)
 ·rintro⟨k,xs⟩ dX dY ⟨bH,dn,dp,dq,dr,⟨dZ,cn,af,ea,eb⟩,⟨ec,aQ,ed⟩,hinv⟩;have bI:=dn.trans ck;have co:=dp.trans cm;have ab:=dq.trans ci;have ba:=dr.trans cj;have ee:=cV af aQ
  (obtain⟨p1,p2,p3⟩:=hinv;have hso:=hl.at k.toNat;have hxl:xs.length<=1000000:=(by rw [p3,XO];omega))
  refine au<|au<|at_<|ar (al bH) rfl<|ar (aI eW rfl (ae bI)) rfl<|ar (ax (aH Fp rfl ab aa az) gP) rfl ?_
  refine ar (ax (ca aa rfl vI.1) b7) rfl ?_;refine ar (cU (ae (ag aa)) aa) rfl<|bR (ae (aj bI)) (ae (aj co)) (ae (aj cn)) (ae (aj bH)) aa ?_;clear bI co cn bH;intro ef am bb bc be bM
  refine ao<|bj bM (λaR=>?_) (λaR=>?_)
  ·replace aR:=bt aR;refine bC<|ao<|au<|bV<|au<|at_<|ar (aI eW rfl am) rfl<|ar (ax (aH Fp rfl ab aa az) gP) rfl ?_
   refine ar (al (ag be)) rfl<|ar (ax (cP vI (ae aa) aa ah (by(refine cO ?_;omega))) gP) rfl ?_
   refine ar (ax (bF Ft rfl aa az) gP) rfl ?_;refine aL (cy nM rfl aQ) trivial rfl (λeg an=>?_);have bk:=bu an aQ;simp only [pS,Value.cells,Nat.reduceAdd,ct,gK,bK]at bk;have cr:=aK an ab;have cu:=aK an ba;have cx:=aK an af;have dt:=br an aQ;clear an ab ba af;refine aL (bP aa (ae aa) rfl rfl bk nN rfl az) trivial rfl (λeh ap=>?_);have aS:=aZ ap bk;simp only [pS,Value.cells,Nat.reduceAdd,ct,gK,bK]at aS;have cz:=aw ap cr ah;have cA:=aw ap cu ah;have cC:=aw ap cx ah;have du:=aX ap dt;clear ap bk cr cu cx;refine bR (aC (ag (aj am))) (aC (ag (aj bb))) (aC (ag (aj bc))) (aC (ag (aj be))) (aC aa) ?_;clear am bM bb bc be;intro ei cD cE cG cI bo;refine ao<|au<|at_<|ar (aI gI rfl bo) rfl<|ar (ax (aH Qz rfl aS aa az) gP) rfl ?_
   refine ar (bh (aE aa aM) rfl (Le _ ah) NL) rfl ?_;refine ar (aI gI rfl (ae (ag bo))) rfl<|aL (bP aa (ae aa) rfl rfl aS uB rfl az) trivial rfl (λej av=>?_)
   have bv:=aZ av aS;simp only [pS,Value.cells,Nat.reduceAdd,ct,gK,bK]at bv;have cJ:=aw av cz ah;have cL:=aw av cA ah;have cM:=aw av cC ah;have bO:=aX av du;clear av aS cz cA cC;refine bR (aC (aj cD)) (aC (aj cE)) (aC (aj cG)) (aC (aj cI)) (aC (aj bo)) ?_;clear cD cE cG cI bo;intro ek cN cQ cR cT cW;refine ao<|at_<|ar (al cR) rfl<|ar (ax (aH Ft rfl bv (ae cW) az) gP) rfl ?_
   refine ar (ez vI (bB aa b8) rfl rfl rfl rfl) rfl<|aL (oY vI rfl bO cM (ag aa) aa eL dP) trivial rfl (λen aA=>?_)
   have cX:=qy aA bO;simp only [pS,Value.cells,Nat.reduceAdd,ct,gK,bK]at cX;have ep:=fG aA bv ah;have dv:=fG aA cJ ah;have dw:=fG aA cL ah;have dx:=qb aA bO;clear aA bv cJ cL cM;refine ar (aB aa) rfl<|bp (ae (aj cN)) (ae (aj cQ)) aa (ae (aj cT)) ?_;clear cN cQ cR cT cW;intro er cY c6 c7 c8
   refine cK<|ao<|at_<|ar (al c8) rfl ?_
   (refine ar (cv aa ay ?_) rfl ?_; · (unfold In64;omega))
   refine ar (aB aa) rfl<|bp (ae (ag cY)) (ae (ag c6)) (ae (ag c7)) aa ?_;clear cY c6 c7 c8;intro ev dy dz dA dB
   refine ao<|⟨⟨_,_⟩,⟨dB,(dy.trans ck.symm),(dz.trans cm.symm),(dv.trans ci.symm),(dw.trans cj.symm),⟨_,dA,cX,ah,ah⟩,⟨_,dx,ah⟩,?_⟩,?_⟩
   ·(refine⟨ah,ah,?_⟩;rw [Fv p1 ah, <- p3])
   ·((try dsimp only);omega)
  replace aR:=bf aR;refine dV<|cB<|cB<|dU<|ao<|au<|at_<|ar (al bc) rfl<|ar (aI eW rfl (ae am)) rfl<|aL (l6 aa (ae aa) ab af BN az) trivial rfl (λew aT=>?_)
  have bw:=aZ aT ab;simp only [pS,Value.cells,Nat.reduceAdd,ct,gK,bK]at bw;have bQ:=aw aT ba aD;have bS:=aw aT af ah;have dC:=aX aT aQ;clear aT ab ba af;refine bq (aC (ag am)) (aC (ag bb)) ?_;clear am bM bb bc be;intro ey c9 bT;refine ao<|au<|at_<|ar (ax (aH Fq rfl bw c9 az) gP) rfl ?_
  refine aL (oG (ae bT) aa rfl (fV rfl (fV rfl (fV rfl (mY bS oK)))) bQ gZ rfl az) trivial rfl (λeA a2=>?_);have bW:=aZ a2 bQ;simp only [pS,Value.cells,Nat.reduceAdd,ct,gK,bK]at bW;have dD:=aw a2 bw aD;have da:=aw a2 bS ah;have dF:=aX a2 dC;clear a2 bw bQ bS;refine aY (aC (ae bT)) ?_;clear c9 bT;intro eC db;refine ao<|bg<|bL bm ai (dE db bW Fq az aN) (eB (lN (cH (.ro _ rfl) (cH (.ro _ rfl) (cH (.ro _ rfl) (cH (.own _ _ _ _ da) fJ)))))) ?_
  clear db bW dD da dF
  (rw [p3,Yp ah])
theorem NM:(Tryz.prog.info? 145).bind (·.zero)=some (.agg #[.string ByteArray.empty,.slice none 0 0,.slice none 0 0,.slice none 0 0,.slice none 0 0]):=by kernel_rfl
theorem NN:Tryz.prog.underlying 145=some (.struct (eP Tryz.prog 145)):=by kernel_rfl
theorem NQ:∀ w,((eP Tryz.prog 145).mapM λf=>Prod.mk f.offset<$>sizeOf f.type:Sem (Array (Nat×Nat))).run Tryz.prog w= .ok (#[(0,4),(4,1)]) w:=λ_=>by kernel_rfl
theorem Fz:bO Tryz.prog 24 95 2 16 (.agg #[.int .i64 0,.int .i64 0]):=⟨ai,ai,ai⟩
theorem vJ:bO Tryz.prog 85 3 1 8 (.int .i64 0):=⟨ai,ai,ai⟩
theorem QA:aQ Tryz.prog 24 false 1:=⟨ai,ai⟩
theorem FA:aQ Tryz.prog 27 true 4:=⟨ai,ai⟩
theorem H8:aQ Tryz.prog 3 false 1:=⟨ai,ai⟩
theorem FB:aQ Tryz.prog 85 false 1:=⟨ai,ai⟩
theorem QB:aQ Tryz.prog 95 true 2:=⟨ai,ai⟩
def fk(bs:List fY)(n:Nat):List Int:=(List.range (n+1)).map (b9 bs)
def il(l:aP):AV:=.ref (lY l++ [.row 1 ((fk l.bs l.bs.length).map iE)])
theorem QC{bs:List fY}{n:Nat}:fk bs (n+1)=fk bs n++ [b9 bs n+(bs.getD n default).len]:=by
 unfold fk;rw [YD,YB];rfl
theorem qd{bs:List fY}{n:Nat}:(fk bs n).length =n+1:=by simp [fk]
theorem lE{bs:List fY}{n j:Nat}(h:j<=n):(fk bs n).getD j default=b9 bs j:=by
 rw [Xc];simp [fk,Yt (show j<n+1 by omega)]
theorem FC(l:aP)(hl:eo l)(hg:(cx l).2=0)(hb:l.bs.length<=1000)(hp:∀ j:Nat,j<l.bs.length->0<=(l.bs.getD j default).len /\(l.bs.getD j default).len <=30000):bN Tryz.prog 39 [dL l] (λq=>q= .tuple [il l,mA 0]):=by
 refine cw (fn:=Tryz.f39) 50 ai rfl ai aU ?_;intro dE dF hA co;have cr:ak dE (.tmp 0)=_:=hA 0 _ rfl;have bL:dF.length=0:=by rw [co];rfl
 clear hA co;refine au<|at_<|aL (cZ cr rfl bL) trivial rfl (λev bM=>?_)
 have a5:=bu bM bL
 (try simp only [pS,Value.cells,Nat.reduceAdd,cF,bU,bK]at a5)
 have aG:=br bM bL;have aG:_=1:=aG;clear bM;refine ar (aB ay) rfl<|ar (aB ay) rfl<|aY (ag aa) ?_;clear cr;intro ew bO
 refine ao<|au<|au<|at_<|ar (ax (aH FA rfl a5 bO gQ) nH) rfl ?_
 refine ar (bh (aE aa aM) rfl (yA l hl) AS) rfl<|ar (al aa) rfl<|ar (cI aa rfl) rfl<|ar (cI (ae aa) rfl) rfl<|aL (cy su rfl aG) trivial rfl (λey a6=>?_)
 have a7:=bu a6 aG
 (try simp only [pS,Value.cells,Nat.reduceAdd,cF,bU,bK]at a7)
 have cu:=aK a6 a5;have bQ:=br a6 aG;have bQ:_=2:=bQ;clear a6 a5;refine aL (bP aa (ag aa) rfl rfl a7 j9 rfl gQ) trivial rfl (λeA a8=>?_);have a9:=aZ a8 a7
 (try simp only [pS,Value.cells,Nat.reduceAdd,cF,bU,bK]at a9)
 have ba:=aw a8 cu aD;have bb:=aX a8 bQ;clear a8 a7 cu;refine ar (aB (aC (ae aa))) rfl<|bq (ae (aC (ag (aj bO)))) aa ?_;clear bO;intro eB cz bT
 refine ao<|au<|at_<|ar (al bT) rfl<|ar (dB aa ay) rfl<|bJ (ag cz) (ag bT) aa ?_;clear cz bT;intro eC be bW bY
 refine ao<|bj bY (λab=>?_) (λab=>?_)
 ·skip
  first
  |(cases ab;done)|((replace ab:=dR ab);exfalso;omega)|((first|(simp at ab;done)|(exact absurd hg (by simpa using ab))))
  |((first|replace ab:=dR ab|replace ab:=dp ab|replace ab:=bt ab|replace ab:=bf ab|replace ab:=di ab|replace ab:=dm ab|skip)
    refine au<|at_<|ar (al bW) rfl<|ar (aB ay) rfl<|ar (aB (ae aa)) rfl<|bq (ae aa) aa ?_;clear bY be bW;intro eD cA cC
    refine ao<|bg<|bS<|eh bm ai (bc cA) (bc cC) (.ro _ rfl) (.ro _ rfl) ?_
    clear cA cC a9 ba bb;rfl)
 ·skip
  first
  |(cases ab;done)|((replace ab:=dp ab);exfalso;omega)|((first|(simp at ab;done)|(exact absurd hg (by simpa using ab))))
  |((replace ab:=dp ab)
    refine bC<|ao<|au<|at_<|ar (ax (aH FA rfl ba be gQ) nH) rfl ?_
    refine aL (U8 vJ bb (bB ay b8) rfl rfl rfl rfl) trivial rfl (λeE aO=>?_);have bZ:=bu aO bb
    (try simp only [pS,Value.cells,Nat.reduceAdd,cF,bU,bK]at bZ)
    have cD:=aK aO a9;have cE:=aK aO ba;have aQ:=br aO bb;have aQ:_=3:=aQ;clear aO a9 ba;refine ar (dq (bB (ae aa) (bB aa b8)) NM NN NQ rfl) rfl ?_;refine aL (cZ aa rfl aQ) trivial rfl (λcH aF=>?_);have cJ:=bu aF aQ
    (try simp only [pS,Value.cells,Nat.reduceAdd,cF,bU,bK]at cJ)
    have dG:=aK aF bZ;have cM:=aK aF cD;have b0:=aK aF cE;have b1:=br aF aQ;have b1:_=4:=b1;clear aF bZ cD cE;refine ar (aB aa) rfl<|bq (ae (aj be)) aa ?_;clear bY be bW;intro eF cN cQ
    refine ao<|au<|au<|at_<|ar (aI dO rfl cN) rfl<|ar (ax (aH QA rfl b0 aa gQ) nH) rfl ?_
    refine ar (ax (ca aa rfl Fz.1) (by(simp only [cS]<;>rfl))) rfl ?_;refine ar (al ay) rfl<|bp (aj cQ) (ag aa) (ae aa) aa ?_;clear cN cQ;intro b2 cR cT cW dH
    refine ao<|bV<|eu (S:=(Nat×Int×List Int)) (λs e mem=>match s with|⟨k,i,xs⟩=>(ak e (.tmp 24)= .v (.int .i64 i))/\(ak e (.tmp 6)=ak b2 (.tmp 6))/\(ak e (.tmp 22)=ak b2 (.tmp 22))/\(ak e (.tmp 23)=ak b2 (.tmp 23))/\(mem[3]? =some (.box 145 [.v (.string l.nam),.row 4 (l.js.map bX),.row 2 (l.bs.map cF),.row 3 (l.ss.map ct),.own k]))/\(mem[k]? =some (.row 3 1 (xs.map iE)))/\(mem[1]? =cH[1]?)/\(mem[0]? =cH[0]?)/\(∃ n,mem.length=n/\4<=n)/\((2<=k/\k≠3/\0<=i/\i<=l.bs.length/\xs=fk l.bs i.toNat))) (λs=>match s with|⟨k,i,xs⟩=>(l.bs.length - i).toNat) ⟨_,_,[0]⟩ ⟨dH,rfl,rfl,rfl,cJ,dG,rfl,rfl,⟨_,b1,Xf _⟩,?_⟩ ?_
    ·(exact⟨ah,ah,ah,ah,rfl⟩)
    ·rintro⟨k,i,xs⟩ eG eJ ⟨b6,dI,dJ,dK,b7,bk,dM,dN,⟨bv,aS,eK⟩,hinv⟩;have cX:=dI.trans cR;have cY:=dJ.trans cT;have cb:=dK.trans cW;have cc:=dM.trans cM;have cd:=dN.trans b0;have eN:=cV bk aS
     (obtain⟨q1,q2,p1,p2,p3⟩:=hinv;have hxl:xs.length=i.toNat+1:=(by rw [p3,qd]);have hbd:=wP hp (n:=i.toNat) ah;have hxi:xs.getD i.toNat default=b9 l.bs i.toNat:=(by rw [p3];exact lE (Xf _));have hpi:0<=(l.bs.getD i.toNat default).len /\(l.bs.getD i.toNat default).len <=30000:=(by by_cases h:i.toNat<l.bs.length;exact hp _ h;have h0:l.bs.getD i.toNat default=default:=(by rw [Xc,Xq ah];rfl);rw [h0];exact⟨aD,aD⟩))
     refine au<|at_<|ar (cU b6 cb) rfl<|bR (ae cX) (ae cY) (ae cb) (ae b6) aa ?_;clear cY cb b6 cX;intro eO ce bw cf aT cg
     refine ao<|au<|bj cg (λad=>?_) (λad=>?_)
     ·skip
      first
      |(cases ad;done)|((replace ad:=bt ad);exfalso;omega)|((first|(simp at ad;done)|(exact absurd hg (by simpa using ad))))
      |((replace ad:=bt ad)
        refine bC<|ao<|au<|bV<|au<|at_<|ar (al aT) rfl<|ar (ax (cP Fz (ae bw) (ae aT) ah (by(refine cO ?_;omega))) nH) rfl ?_
        refine ar (ax (bF QB rfl aa gQ) nH) rfl ?_;refine aL (cy xM rfl aS) trivial rfl (λeP am=>?_);have bx:=bu am aS
        (try simp only [pS,Value.cells,Nat.reduceAdd,cF,bU,bK]at bx)
        have c6:=aK am b7;have c7:=aK am bk;have c8:=aK am cc;have c9:=aK am cd;have dP:=br am aS;clear am b7 bk cc cd;refine ar (aB (ae (ag aa))) rfl<|aL (bP (ae aa) (ag aa) rfl rfl bx xO rfl gQ) trivial rfl (λeQ an=>?_)
        have ci:=aZ an bx
        (try simp only [pS,Value.cells,Nat.reduceAdd,cF,bU,bK]at ci)
        have da:=aw an c6 ah;have db:=aw an c7 ah;have dc:=aw an c8 ah;have dd:=aw an c9 ah;have bA:=aX an dP;clear an bx c6 c7 c8 c9;refine dh (aC (ae (aj ce))) (aC aa) (aC (ae aa)) (aC (ae (aj bw))) (aC (ae (aj cf))) (aC (ae (aj aT))) ?_;clear bw cf aT cg ce;intro eR a2 de df dg dj dk;refine ao<|fZ 17 1 bA ai ai ai ai (λdQ af=>?_)
        have cj:=bz af ci;have bD:=bz af da;have bE:=bz af db;have dl:=bz af dc;have dn:=bz af dd;have ck:dQ[bv+1]? =_:=fS af bA 0 rfl rfl;have dW:_=bv+1+1:=ga (K:=1) af bA;clear af ci da db dc dd bA;refine aR (λM_ hM_=>(al a2)) trivial ?_;refine aR (λM_ hM_=>(al (ae a2))) trivial ?_;refine aR (λM_ hM_=>(bH aa)) trivial ?_;refine aR (λM_ hM_=>(aI mK rfl aa)) trivial ?_;refine cG (3) (λM_ hM_=>(ax (aH FB rfl (cn hM_ bD aN) aa gQ) nH)) trivial trivial ?_;refine aR (λM_ hM_=>(al (ae (aj a2)))) trivial ?_;refine aR (λM_ hM_=>(bH aa)) trivial ?_;refine aR (λM_ hM_=>(aI mK rfl aa)) trivial ?_;refine cG (3) (λM_ hM_=>(ax (aH FB rfl (cn hM_ bD aN) aa gQ) nH)) trivial trivial ?_;refine aR (λM_ hM_=>(al (ae (aA de)))) trivial ?_;refine cG (k) (λM_ hM_=>(jK vJ (cn hM_ bE aN) (ae aa) aa ah (by(simp only [cS]<;>omega)))) trivial trivial ?_;refine cG (k) (λM_ hM_=>(ax (lD H8 rfl (cn hM_ bE aN) aa gQ (by(refine cO ?_;omega))) nH)) trivial trivial ?_;refine aR (λM_ hM_=>(aI mb rfl (aj (aA df)))) trivial ?_;refine cG (bv) (λM_ hM_=>(ax (aH H8 rfl (cn hM_ cj aN) aa gQ) nH)) trivial trivial ?_
        (refine aR (λM_ hM_=>(cv (ag aa) aa ?_)) trivial ?_; · (unfold In64;omega))
        refine aR (λM_ hM_=>(ez vJ (bB aa b8) rfl rfl rfl rfl)) trivial ?_;refine pf (bv+1) (k) (λM_ hM_=>(nJ vJ rfl (cn hM_ bE aN) (ae (ag (aA aa))) aa eL (by(simp only [cS]<;>omega)))) trivial ck rfl trivial ⟨.inl bo,⟨.inl bo,⟨.inl bo,⟨.inl bo,⟨.inl bo,trivial⟩⟩⟩⟩⟩ ⟨.inl bo,⟨.inl bo,⟨.inr ((gV 16 15 ai).trans ((gV 15 14 ai).trans ((gV 14 11 ai).trans (gV 11 10 ai)))),⟨.inr ((gV 16 15 ai).trans ((gV 15 14 ai).trans (gV 14 11 ai))),⟨.inl bo,trivial⟩⟩⟩⟩⟩ (λeS ap=>?_);have bG:=po ap ck
        (try simp only [pS,Value.cells,Nat.reduceAdd,cF,bU,bK]at bG)
        have dr:=cL ap cj ah ah;have cm:=cL ap bD ah ah;have dt:=cL ap dl ah ah;have du:=cL ap dn ah ah;have dX:=o4 ap dW;clear ap cj bD bE dl dn ck;refine gn rfl ?_;refine ar (bH (aJ aa)) rfl<|ar (aI mK rfl aa) rfl<|aL (l6 aa (ag aa) cm bG uB gQ) trivial rfl (λeT av=>?_)
        have dv:=aZ av cm
        (try simp only [pS,Value.cells,Nat.reduceAdd,cF,bU,bK]at dv)
        have dY:=aw av bG ah;have eU:=aw av dr ah;have dZ:=aw av dt aD;have ea:=aw av du aD;have eb:=aX av dX;clear av bG dr cm dt du;refine bp (aC (ae (ag (aJ a2)))) (aC (ae (ag (aJ dg)))) (aC (ae (ag (aJ dj)))) (aC (ae (ag (aJ dk)))) ?_;clear dg dj dk a2 de df;intro eV dw dx dy dz;refine cK<|ao<|at_ ?_
        (refine ar (cv dz ay ?_) rfl ?_; · (unfold In64;omega))
        refine ar (al aa) rfl<|bp (ag dw) (ag dx) (ag dy) aa ?_;clear dx dy dz dw;intro eW ec ed ee ef
        refine ao<|⟨⟨_,_,_⟩,⟨ef,(ec.trans cR.symm),(ed.trans cT.symm),(ee.trans cW.symm),dv,dY,(dZ.trans cM.symm),(ea.trans b0.symm),⟨_,eb,ah⟩,?_⟩,?_⟩
        ·(refine⟨ah,ah,ah,ah,?_⟩;rw [show(i+1).toNat =i.toNat+1 by omega,QC, <- p3, <- hxi])
        ·((try dsimp only);omega))
     ·skip
      first
      |(cases ad;done)|((replace ad:=bf ad);exfalso;omega)|((first|(simp at ad;done)|(exact absurd hg (by simpa using ad))))
      |((replace ad:=bf ad)
        refine dV<|cB<|cB<|dU<|ao<|au<|L8 (o:=4) ce b7 bk ah rfl rfl (λeX a3 bI az=>?_)
        simp only [Yi,Ya]at az;have eg:=aw bI (aw rfl cc ah) aD;have ei:=aw bI (aw rfl cd ah) aD;have ej:=aX bI (aX rfl aS);have dA:ak a3 (.tmp 6)=_:=(congrArg (λq=>ak q (.tmp 6)) az).trans aa;have ek:ak a3 (.tmp 22)=_:=(congrArg (λq=>ak q (.tmp 22)) az).trans (ae bw);have en:ak a3 (.tmp 23)=_:=(congrArg (λq=>ak q (.tmp 23)) az).trans (ae cf);have ep:ak a3 (.tmp 24)=_:=(congrArg (λq=>ak q (.tmp 24)) az).trans (ae aT);have er:ak a3 (.tmp 25)=_:=(congrArg (λq=>ak q (.tmp 25)) az).trans (ae cg);clear bI az;refine at_<|ar (al dA) rfl<|ar (aB aa) rfl<|ar (aB ay) rfl<|bq (ae aa) aa ?_;clear ek en ep er dA;intro eY dC dD
        refine ao<|bg<|eh bm ai (bc dC) (bc dD) (.ro _ rfl) (.ro _ rfl) ?_
        clear dC dD eg ei ej
        (rw [p3,show i.toNat=l.bs.length by omega];rfl)))
theorem FD:bO Tryz.prog 23 59 4 32 (.agg #[.int .i64 0,.int .i64 0,.int .i64 0,.int .i64 0]):=⟨ai,ai,ai⟩
theorem FG:bO Tryz.prog 85 3 1 8 (.int .i64 0):=⟨ai,ai,ai⟩
theorem FH:aQ Tryz.prog 23 false 1:=⟨ai,ai⟩
theorem Ue:aQ Tryz.prog 3 false 1:=⟨ai,ai⟩
theorem FI:aQ Tryz.prog 85 false 1:=⟨ai,ai⟩
theorem As{f:Nat->Int}:∀ {n i:Nat},g9 f n=some i->i<n/\f i≠0
 | 0,_,h=>by cases h
 | n+1,i,h=>by
  simp only [g9]at h;cases h1:g9 f n with
  | some k=>rw [h1]at h;cases h;exact⟨by have:=(As h1).1;omega,(As h1).2⟩
  | none=>
   rw [h1]at h
   by_cases h2:f n=0
   ·simp [h2]at h
   ·simp [h2]at h;subst h;exact⟨ah,h2⟩
theorem FK{f:Nat->Int}:∀ {n:Nat},g9 f n=none-> ∀ j:Nat,j<n->f j=0
 | 0,_,j,hj=>by omega
 | n+1,h,j,hj=>by
  simp only [g9]at h;cases h1:g9 f n with
  | some k=>rw [h1]at h;cases h
  | none=>
   rw [h1]at h
   by_cases h2:f n=0
   ·by_cases hjn:j=n
    ·rw [hjn];exact h2
    ·exact FK h1 j ah
   ·simp [h2]at h
theorem yX{k:Int}{f:Nat->Int}{n:Nat}{z:(Int×Int)×Int}(h:(iS k f n z).2=0):(∀ j:Nat,j<n->f j=0)/\z.2=0:=by
 unfold iS at h;cases h1:g9 f n with
 | some i=>rw [h1]at h;exact absurd h (As h1).2
 | none=>rw [h1]at h;exact⟨FK h1,h⟩
structure cM (l:aP):Prop where
 nam:dF l.nam=true
 n0:1<=l.bs.length
 n1:l.bs.length<=40
 js:l.js.length=l.bs.length+1
 ja:∀ j:Nat,j<l.js.length->iP (l.js.getD j default)=0
 ba:∀ j:Nat,j<l.bs.length->iQ (l.bs.getD j default)=0
 s1:l.ss.length<=4
 sa:∀ j:Nat,j<l.ss.length->fq l j=0
theorem kJ{l:aP}(h:(cx l).2=0):cM l:=by
 unfold cx at h
 split at h
 ·cases h
 split at h
 ·cases h
 split at h
 ·cases h
 obtain⟨h1,h⟩:=yX h;obtain⟨h2,h⟩:=yX h
 split at h
 ·cases h
 obtain⟨h3,_⟩:=yX h
 rename_i a b c d
 exact⟨by simp_all,ah,ah,ah,h1,h2,ah,h3⟩
theorem l7{n lo hi:Int}:dx n lo hi=true↔lo<=n/\n<=hi:=by simp [dx]
theorem Bo{n lo hi:Int}:iT n lo hi=0↔lo<=n/\n<=hi:=by
 unfold iT;rw [<- l7];cases dx n lo hi<;>simp
theorem cM.kU{l:aP}(h:cM l)(j:Nat)(hj:j<l.bs.length):1000<=(l.bs.getD j default).len /\(l.bs.getD j default).len <=30000/\ -300<=(l.bs.getD j default).cant /\(l.bs.getD j default).cant <=300:=by
 have:=h.ba j hj;unfold iQ at this
 split at this
 ·rename_i hb
  simp only [lR,eR,Xg,l7]at hb;omega
 ·cases this
theorem cM.kV{l:aP}(h:cM l)(j:Nat)(hj:j<l.js.length):(-20000<=(l.js.getD j default).acr /\(l.js.getD j default).acr <=20000)/\(-20000<=(l.js.getD j default).up /\(l.js.getD j default).up <=20000)/\ -100<=(l.js.getD j default).lo /\(l.js.getD j default).hi <=100/\(l.js.getD j default).lo <=(l.js.getD j default).hi :=by
 have:=h.ja j hj;unfold iP at this
 split at this
 ·rename_i hb
  split at this
  ·simp only [g8,eR,Xg,l7]at hb;omega
  ·cases this
 ·cases this
theorem cM.len{l:aP}(h:cM l):∀ j:Nat,j<l.bs.length->0<=(l.bs.getD j default).len /\(l.bs.getD j default).len <=30000:=λj hj=>by have:=h.kU j hj;omega
theorem cM.nq{l:aP}(h:cM l){n:Nat}(hn:n<=l.bs.length):0<=b9 l.bs n/\b9 l.bs n<=1200000:=by
 have:=wP h.len hn;have:=h.n1;omega
theorem ri(l:aP)(hl:eo l)(hg:(cx l).2=0):bN Tryz.prog 39 [dL l] (λq=>q= .tuple [il l,mA 0]):=FC l hl hg (by have:=(kJ hg).n1;omega) (kJ hg).len
theorem D8(l:aP)(h:cM l):bN Tryz.prog 56 [il l] (λq=>q=mA (b9 l.bs l.bs.length)):=by
 refine cw (fn:=Tryz.f56) 15 ai rfl ai aU ?_;intro an ap hA ad;have af:ak an (.tmp 0)=_:=hA 0 _ rfl;have av:ap.length=0:=by rw [ad];rfl
 clear hA ad;have hpl:=qd (bs:=l.bs) (n:=l.bs.length);have hn1:=h.n1;have hn0:=h.n0;refine au<|at_<|ar (aB ay) rfl<|aY (ae af) ?_;clear af;intro aw ab
 refine ao<|au<|dZ 13 ai ai ai ai ?_
 refine dr (al ab) rfl<|dr (fK aa) rfl<|dr (ax (bY mK rfl aa) bk) rfl ?_
 refine dr (ax (bF FI rfl aa az) bk) rfl ?_;refine dr (al (aj ab)) rfl<|dr (fK aa) rfl<|dr (ax (bY mK rfl aa) bk) rfl ?_
 refine dr (ax (bF FI rfl aa az) bk) rfl ?_;refine dr (ax (ca aa rfl FG.1) b7) rfl ?_
 (refine dr (eC aa ay ?_) rfl ?_; · (unfold In64;omega))
 refine dr (ax (cP FG (ag (aj aa)) aa ah (by(refine cO ?_;omega))) bk) rfl ?_;refine dr (ax (bF Ue rfl aa az) bk) rfl ?_;refine dr (aB aa) rfl<|dC<|aY aa ?_;clear ab;intro aA am
 refine ao<|bg<|bL bm ai (bc am) (.ro _ rfl) ?_
 clear am av
 (rw [show((fk l.bs l.bs.length).length - 1:Int).toNat =l.bs.length by omega,lE (Xf _)])
theorem C2(l:aP)(h:cM l)(n:Int):bN Tryz.prog 51 [il l,mA n] (λq=>q=mA (iT n 0 (l.js.length - 1))):=by
 refine cw (fn:=Tryz.f51) 15 ai rfl ai aU ?_;intro ab av hA ad;have af:ak ab (.tmp 0)=_:=hA 0 _ rfl;have ah:ak ab (.tmp 1)=_:=hA 1 _ rfl;have aw:av.length=0:=by rw [ad];rfl
 clear hA ad;have hn1:=h.n1;have hn0:=h.n0;have hj:=h.js;refine au<|at_<|ar (aB ay) rfl<|bq (ae af) (ae ah) ?_;clear af ah;intro aA am an
 refine ao<|au<|at_<|ar (al an) rfl<|ar (al (ae am)) rfl<|ar (fK aa) rfl<|ar (ax (bY jh rfl aa) bk) rfl ?_
 refine ar (ax (bY dN rfl aa) bk) rfl ?_;refine ar (ax (bF FH rfl aa az) bk) rfl ?_;refine ar (ax (ca aa rfl FD.1) b7) rfl ?_
 (refine ar (eC aa ay ?_) rfl ?_; · (unfold In64;omega))
 refine ar (bh (aE (ae (ag (aj aa))) (aE ay (aE aa aM))) rfl (l8 _ _ _) mi) rfl<|ar (bh (aE aa (aE ay aM)) rfl (fa _ _) fc) rfl<|ar (aB aa) rfl<|aY aa ?_;clear am an;intro aC ap
 refine ao<|bg<|bL bm ai (bc ap) (.ro _ rfl) ?_
 clear ap aw;rfl
theorem Lh(l:aP)(h:cM l)(n:Int):bN Tryz.prog 58 [il l,mA n] (λq=>q=mA (iT n 1 (l.js.length - 2))):=by
 refine cw (fn:=Tryz.f58) 15 ai rfl ai aU ?_;intro ab av hA ad;have af:ak ab (.tmp 0)=_:=hA 0 _ rfl;have ah:ak ab (.tmp 1)=_:=hA 1 _ rfl;have aw:av.length=0:=by rw [ad];rfl
 clear hA ad;have hn1:=h.n1;have hn0:=h.n0;have hj:=h.js;refine au<|at_<|ar (aB ay) rfl<|bq (ae af) (ae ah) ?_;clear af ah;intro aA am an
 refine ao<|au<|at_<|ar (al an) rfl<|ar (al (ae am)) rfl<|ar (fK aa) rfl<|ar (ax (bY jh rfl aa) bk) rfl ?_
 refine ar (ax (bY dN rfl aa) bk) rfl ?_;refine ar (ax (bF FH rfl aa az) bk) rfl ?_;refine ar (ax (ca aa rfl FD.1) b7) rfl ?_
 (refine ar (eC aa ay ?_) rfl ?_; · (unfold In64;omega))
 refine ar (bh (aE (ae (ag (aj aa))) (aE ay (aE aa aM))) rfl (l8 _ _ _) mi) rfl<|ar (bh (aE aa (aE ay aM)) rfl (fa _ _) fc) rfl<|ar (aB aa) rfl<|aY aa ?_;clear am an;intro aC ap
 refine ao<|bg<|bL bm ai (bc ap) (.ro _ rfl) ?_
 clear ap aw;rfl
end Go.Proofs.YtbmlgmblfboigaaGreatDoor
