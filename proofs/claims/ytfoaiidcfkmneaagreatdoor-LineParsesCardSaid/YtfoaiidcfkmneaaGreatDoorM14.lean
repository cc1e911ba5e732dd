/- Texts of this claim, one behind the other: lemmas for the statement. -/
import Derived.Test.YtfoaiidcfkmneaaGreatDoorT0
import Derived.Test.YtfoaiidcfkmneaaGreatDoorM13
import Derived.Test.YtfoaiidcfkmneaaGreatDoorM11
import Derived.Test.YtfoaiidcfkmneaaGreatDoorA59
import Derived.Test.YtfoaiidcfkmneaaGreatDoorM7
import Derived.Test.YtfoaiidcfkmneaaGreatDoorM5
import Derived.Test.YtfoaiidcfkmneaaGreatDoorM4
set_option maxRecDepth 100000
set_option maxHeartbeats 4000000
set_option linter.unusedSimpArgs false
set_option linter.unusedVariables false
namespace Go.Proofs.YtfoaiidcfkmneaaGreatDoor
open Go Go.RowKit Go.Proofs
theorem Kp:∀ args w,(callFunc 48 args).run Tryz.prog w= .ok (.enter 48 args) w:=λ_ _=>by kernel_rfl
theorem yh:b9 Tryz.prog 23 74 4 32 (.agg #[.int .i64 0,.int .i64 0,.int .i64 0,.int .i64 0]):=⟨aj,aj,aj⟩
theorem qt:b9 Tryz.prog 24 76 2 16 (.agg #[.int .i64 0,.int .i64 0]):=⟨aj,aj,aj⟩
theorem Dz:b9 Tryz.prog 25 78 3 48 (.agg #[.string ByteArray.empty,.int .i64 0,.slice none 0 0]):=⟨aj,aj,aj⟩
theorem yi:aV Tryz.prog 23 false 1:=⟨aj,aj⟩
theorem qu:aV Tryz.prog 24 false 1:=⟨aj,aj⟩
theorem DC:aV Tryz.prog 25 false 1:=⟨aj,aj⟩
theorem Nk:aV Tryz.prog 27 true 4:=⟨aj,aj⟩
theorem nR:aV Tryz.prog 3 false 1:=⟨aj,aj⟩
theorem Nl:aV Tryz.prog 74 true 4:=⟨aj,aj⟩
theorem mK:aV Tryz.prog 80 true 2:=⟨aj,aj⟩
theorem PY:aV Tryz.prog 9 false 1:=⟨aj,aj⟩
theorem uN{k:Int}{f:Nat->Int}{n i:Nat}{z:(Int×Int)×Int}(hn:∀ j,j<i->f j=0)(hi:f i≠0)(h:i<n):jO k f n z=((k,(i:Int)),f i):=by
 unfold jO;rw [xy hn hi h]
theorem nF{k:Int}{f:Nat->Int}{n:Nat}{z:(Int×Int)×Int}(hn:∀ j,j<n->f j=0):jO k f n z=z:=by
 unfold jO;rw [tW hn]
theorem PZ{l:bN}(h1:dX l.nam=true)(h2:¬ (l.bs.length=0\/l.js.length≠l.bs.length+1))(h3:¬ 40<l.bs.length):cg l=jO 1 (λi=>kM (l.js.getD i default)) l.js.length
 (jO 2 (λi=>lq (l.bs.getD i default)) l.bs.length
  (if 4<l.ss.length then((0,0),8)else jO 3 (gV l) l.ss.length ((0,0),0))):=by
 unfold cg;rw [h1,if_neg h2,if_neg h3];rfl
theorem HO(l:bN)(hl:fw l):bT Tryz.prog 22 [gA l] (λq=>q= .tuple [.agg [mA (cg l).1.1,mA (cg l).1.2],mA (cg l).2]):=by
 obtain⟨h1,h2,h3,h4,h5⟩:=id hl;refine cA (fn:=Tryz.f22) 129 aj rfl aj bO ?_;intro fg fh hA dW;have dZ:al fg (.tmp 0)=_:=hA 0 _ rfl;have cY:fh.length=0:=by rw [dW];rfl
 clear hA dW;refine ax<|at_<|aM (fD dZ rfl cY) trivial rfl (λhh cZ=>?_)
 have ea:=bS cZ cY;have bc:=bR cZ cY;have bc:_=1:=bc;clear cZ;refine aM (cJ re rfl bc) trivial rfl (λc7 cq=>?_);have av:=bS cq bc;simp only [pS,Value.cells,Nat.reduceAdd,dp]at av;have af:=aI cq ea;have ba:=bR cq bc;have ba:_=2:=ba;clear cq ea;refine ar (aB aw) rfl<|bD (ag aa) (ae aa) ?_;clear dZ;intro hv c8 eb
 refine ao<|ax<|ax<|at_<|ar (aJ qy rfl c8) rfl<|ar (az (aK PY rfl af aa aA) eD) rfl ?_
 refine ar (bI (aG aa aN) rfl (xk _ ah) zh) rfl ?_;refine ar (dT aa) rfl<|bB (ai c8) (ai eb) aa ?_;clear c8 eb;intro ec aU a3 ed
 refine ao<|bk ed (λbe=>?_) (λbe=>?_)
 ·replace be:=cT be;refine ax<|at_<|ar (cU bW lL lK lJ rfl) rfl ?_
  refine aM (bV (ae a3) aa rfl rfl av jK rfl aA) trivial rfl (λhC cr=>?_);have c9:=bo cr av;simp only [pS,Value.cells,Nat.reduceAdd,dp]at c9;have fi:=au cr af aD;have fj:=bh cr ba;clear cr av af;refine ar (aB aw) rfl<|bD (ae (aE (ae a3))) aa ?_;clear ed aU a3;intro hD ee ef
  refine ao<|bm<|bw<|dP bp aj (dz ee c9 mK aA aL) (aR ef) (eh (.ro _ rfl)) (.ro _ rfl) ?_
  clear ee ef c9 fi fj
  (have e:dX l.nam=false:=(by assumption);rw [show cg l=((0,0),4)by unfold cg;rw [e];rfl];rfl)
 replace be:=di be;refine bF<|ao<|ax<|ax<|fZ (λe mem=>(al e (.tmp 27)= .v (.bool (decide (l.bs.length=0\/l.js.length≠l.bs.length+1))))/\(al e (.tmp 1)=al ec (.tmp 1))/\(al e (.tmp 2)=al ec (.tmp 2))/\c7=mem) ?_ ?_
 ·
  refine at_<|ar (aJ eK rfl aU) rfl<|ar (az (aK qu rfl af aa aA) eD) rfl ?_
  refine ar (az (cx aa rfl qt.1) ct) rfl ?_;refine ar (dN aa aw) rfl ?_;refine ar (ak aa) rfl<|bK aa (λab bg=>?_) (λab bg=>?_)
  ·replace bg:=bt bg;refine aC ⟨_,rfl,.inl ab⟩ rfl ?_;refine aC ⟨_,rfl,.inl (ae ab)⟩ rfl ?_;refine aC ⟨_,rfl,.inl (ag ab)⟩ rfl ?_;refine aC ⟨_,rfl,.inl (ae (ag ab))⟩ rfl ?_;refine aC ⟨_,rfl,.inl (ai ab)⟩ rfl ?_;refine aC ⟨_,rfl,.inl (ae (ai ab))⟩ rfl ?_;refine aC ⟨_,rfl,.inl (ag (ai ab))⟩ rfl ?_;refine aC ⟨_,rfl,.inl (ae (ag (ai ab)))⟩ rfl ?_;refine ar (bq (ay ab) aw) rfl<|bB (ag (ai (ay aU))) (ag (ai (ay a3))) aa ?_;intro hE fl fm fo
   refine ao ⟨(fo).trans (by(refine b7 ?_;simp only [decide_eq_true_eq,SV,true_iff,false_iff,iff_true,iff_false,Tz,decide_eq_false_iff_not];omega)),(fl).trans (aU).symm,(fm).trans (a3).symm,rfl⟩
  replace bg:=bf bg;refine aF (aJ fk rfl (ae (ai aU))) ⟨_,rfl,ab⟩ rfl ?_;refine aF (az (aK yi rfl af aa aA) eD) ⟨_,rfl,(ae ab)⟩ rfl ?_;refine aF (az (cx aa rfl yh.1) ct) ⟨_,rfl,(ag ab)⟩ rfl ?_;refine aF (aJ eK rfl (ay aU)) ⟨_,rfl,(ae (ag ab))⟩ rfl ?_;refine aF (az (aK qu rfl af aa aA) eD) ⟨_,rfl,(ai ab)⟩ rfl ?_;refine aF (az (cx aa rfl qt.1) ct) ⟨_,rfl,(ae (ai ab))⟩ rfl ?_
  (refine aF (cf aa aw ?_) ⟨_,rfl,(ag (ai ab))⟩ rfl ?_; · (unfold In64;omega))
  refine aF (fp (ai aa) aa) ⟨_,rfl,(ae (ag (ai ab)))⟩ rfl ?_;refine ar (br (ay ab) aa) rfl<|bB (ag (ai (ay aU))) (ag (ai (ay a3))) aa ?_;intro hF fq fs ft
  refine ao ⟨(ft).trans (by(refine b7 ?_;simp only [decide_eq_true_eq,SV,true_iff,false_iff,iff_true,iff_false,Tz,decide_eq_false_iff_not];omega)),(fq).trans (aU).symm,(fs).trans (a3).symm,rfl⟩
 ·rintro hG _ ⟨da,fu,fx,rfl⟩;have cu:=fu.trans aU;have bj:=fx.trans a3;refine bk da (λbn=>?_) (λbn=>?_)
  ·replace bn:=bt bn;refine ax<|at_<|ar (cU bW lL lK lJ rfl) rfl ?_
   refine aM (bV (ae bj) aa rfl rfl av jK rfl aA) trivial rfl (λhH cv=>?_);have db:=bo cv av;simp only [pS,Value.cells,Nat.reduceAdd,dp]at db;have fy:=au cv af aD;have fz:=bh cv ba;clear cv av af;refine ar (aB aw) rfl<|bD (ae (aE (ae bj))) aa ?_;clear cu da bj;intro hI eg en
   refine ao<|bm<|bw<|dP bp aj (dz eg db mK aA aL) (aR en) (eh (.ro _ rfl)) (.ro _ rfl) ?_
   clear eg en db fy fz
   (have e:dX l.nam=true:=(by assumption);have hs:l.bs.length=0\/l.js.length≠l.bs.length+1:=(by assumption);rw [show cg l=((0,0),10)by unfold cg;simp only [e,Bool.not_true,SV,if_false,if_pos hs]];rfl)
  replace bn:=bf bn;refine bF<|ao<|ax<|ax<|at_<|ar (aJ eK rfl cu) rfl<|ar (az (aK qu rfl af aa aA) eD) rfl ?_
  refine ar (az (cx aa rfl qt.1) ct) rfl ?_;refine ar (eF aa aw) rfl<|bB (ai cu) (ai bj) aa ?_;clear cu da bj;intro hJ dc bv dd
  refine ao<|bk dd (λbx=>?_) (λbx=>?_)
  ·replace bx:=bt bx;refine ax<|at_<|ar (cU bW lL lK lJ rfl) rfl ?_
   refine aM (bV (ae bv) aa rfl rfl av jK rfl aA) trivial rfl (λhK cy=>?_);have de:=bo cy av;simp only [pS,Value.cells,Nat.reduceAdd,dp]at de;have fA:=au cy af aD;have fB:=bh cy ba;clear cy av af;refine ar (aB aw) rfl<|bD (ae (aE (ae bv))) aa ?_;clear dc bv dd;intro hM ep er
   refine ao<|bm<|bw<|dP bp aj (dz ep de mK aA aL) (aR er) (eh (.ro _ rfl)) (.ro _ rfl) ?_
   clear ep er de fA fB
   (have e:dX l.nam=true:=(by assumption);have hs:¬ (l.bs.length=0\/l.js.length≠l.bs.length+1):=(by assumption);have hg:40<l.bs.length:=ah;rw [show cg l=((0,0),8)by unfold cg;simp only [e,Bool.not_true,SV,if_false,if_neg hs,if_pos hg]];rfl)
  replace bx:=bf bx
  (have hin:=PZ (l:=l) (by assumption) (by assumption) ah)
  refine bF<|ao<|ax<|ax<|at_<|ar (aB aw) rfl<|bB (ae dc) (ae bv) aa ?_;clear dc bv dd;intro eu ev ew fC
  refine ao<|ca<|eL (S:=Int) (λk e mem=>(al e (.tmp 4)= .v (.int .i64 k))/\(al e (.tmp 1)=al eu (.tmp 1))/\(al e (.tmp 2)=al eu (.tmp 2))/\(mem[1]? =c7[1]?)/\(mem[0]? =c7[0]?)/\(∃ n,mem.length=n/\2<=n)/\((0<=k/\k<=l.js.length/\ ∀ j:Nat,j<k.toNat->kM (l.js.getD j default)=0))) (λk=>(l.js.length - k).toNat) _ ⟨fC,rfl,rfl,rfl,rfl,⟨_,ba,SR _⟩,?_⟩ ?_
  ·(exact⟨ah,ah,λj h=>absurd h ah⟩)
  ·rintro k hN ey ⟨df,fE,fF,fG,fH,⟨ez,cz,hO⟩,hinv⟩;have dg:=fE.trans ev;have eA:=fF.trans ew;have cB:=fG.trans av;have bb:=fH.trans af
   (obtain⟨p1,p2,p3⟩:=hinv)
   refine ax<|ax<|at_<|ar (ak df) rfl<|ar (aJ fk rfl (ae dg)) rfl<|ar (az (aK yi rfl bb aa aA) eD) rfl ?_
   refine ar (az (cx aa rfl yh.1) ct) rfl ?_;refine ar (c6 (ae (ag aa)) aa) rfl<|bu (ae (ai dg)) (ae (ai eA)) (ae (ai df)) aa ?_;clear dg eA df;intro hP bA cC cF dh
   refine ao<|bk dh (λbE=>?_) (λbE=>?_)
   ·replace bE:=bt bE;refine bF<|ao<|ax<|ca<|ax<|at_<|ar (aJ fk rfl bA) rfl<|ar (az (aK yi rfl bb aa aA) eD) rfl ?_
    refine ar (ak (ag cF)) rfl<|ar (az (cE yh (ae aa) aa ah (by(refine dq ?_;omega))) eD) rfl ?_
    refine ar (az (bL Nl rfl aa aA) eD) rfl ?_;refine aM (cJ v7 rfl cz) trivial rfl (λhQ bH=>?_);have cH:=bS bH cz;simp only [pS,Value.cells,Nat.reduceAdd,dp]at cH;have eB:=aI bH cB;have eC:=aI bH bb;have fI:=bR bH cz;clear bH cB bb;refine aM (bV aa (ae aa) rfl rfl cH zS rfl aA) trivial rfl (λfJ bJ=>?_);have aO:=bo bJ cH;simp only [pS,Value.cells,Nat.reduceAdd,dp]at aO;have a6:=au bJ eB ah;have bM:=au bJ eC ah;have dk:=bh bJ fI;clear bJ cH eB eC;refine bu (aE (ag (ai bA))) (aE (ag (ai cC))) (aE (ag (ai cF))) (aE aa) ?_;clear bA cC dh cF;intro cI aV aX aZ am;refine ao<|ax<|ax<|fZ (λe mem=>(al e (.tmp 69)= .v (.bool (!jh (l.js.getD k.toNat default))))/\(al e (.tmp 1)=al cI (.tmp 1))/\(al e (.tmp 2)=al cI (.tmp 2))/\(al e (.tmp 4)=al cI (.tmp 4))/\(al e (.tmp 5)=al cI (.tmp 5))/\fJ=mem) ?_ ?_
    ·
     refine at_<|ar (aJ mO rfl am) rfl<|ar (az (aK nR rfl aO aa aA) eD) rfl ?_
     refine ar (bI (aG aa (aG aw aN)) rfl (qC _ _ aD) qL) rfl ?_;refine ar (dT aa) rfl<|ar (ak aa) rfl<|bK aa (λaP bP=>?_) (λaP bP=>?_)
     ·replace bP:=cT bP;refine aC ⟨_,rfl,.inl aP⟩ rfl ?_;refine aC ⟨_,rfl,.inl (ae aP)⟩ rfl ?_;refine aC ⟨_,rfl,.inl (ag aP)⟩ rfl ?_;refine aC ⟨_,rfl,.inl (ae (ag aP))⟩ rfl ?_;refine ar (bq (ai aP) aw) rfl<|ar (ak aa) rfl<|aC ⟨_,rfl,.inl aa⟩ rfl ?_
      refine aC ⟨_,rfl,.inl (ae aa)⟩ rfl ?_;refine aC ⟨_,rfl,.inl (ag aa)⟩ rfl ?_;refine aC ⟨_,rfl,.inl (ae (ag aa))⟩ rfl ?_;refine aC ⟨_,rfl,.inl (ai aa)⟩ rfl ?_;refine ar (bq (ae (ai aa)) aw) rfl<|ar (ak aa) rfl<|aC ⟨_,rfl,.inl aa⟩ rfl ?_
      refine aC ⟨_,rfl,.inl (ae aa)⟩ rfl ?_;refine aC ⟨_,rfl,.inl (ag aa)⟩ rfl ?_;refine aC ⟨_,rfl,.inl (ae (ag aa))⟩ rfl ?_;refine aC ⟨_,rfl,.inl (ai aa)⟩ rfl ?_;refine ar (bq (ae (ai aa)) aw) rfl<|ck (ay (aH aV)) (ay (aH aX)) (ay (aH aZ)) (ay (aH am)) aa ?_;intro hS fK fL fM fN fO
      refine ao ⟨(fO).trans (by(refine b7 ?_;unfold jh;simp_all)),(fK).trans (aV).symm,(fL).trans (aX).symm,(fM).trans (aZ).symm,(fN).trans (am).symm,rfl⟩
     replace bP:=di bP;refine aF (aJ yu rfl (ae (ai am))) ⟨_,rfl,aP⟩ rfl ?_;refine aF (az (aK nR rfl aO aa aA) eD) ⟨_,rfl,(ae aP)⟩ rfl ?_;refine aF (bI (aG aa (aG aw aN)) rfl (qC _ _ aD) qL) ⟨_,rfl,(ag aP)⟩ rfl ?_;refine aF (dT aa) ⟨_,rfl,(ae (ag aP))⟩ rfl ?_;refine ar (br (ai aP) aa) rfl<|ar (ak aa) rfl<|bK aa (λan bQ=>?_) (λan bQ=>?_)
     ·replace bQ:=cT bQ;refine aC ⟨_,rfl,.inl an⟩ rfl ?_;refine aC ⟨_,rfl,.inl (ae an)⟩ rfl ?_;refine aC ⟨_,rfl,.inl (ag an)⟩ rfl ?_;refine aC ⟨_,rfl,.inl (ae (ag an))⟩ rfl ?_;refine aC ⟨_,rfl,.inl (ai an)⟩ rfl ?_;refine ar (bq (ae (ai an)) aw) rfl<|ar (ak aa) rfl<|aC ⟨_,rfl,.inl aa⟩ rfl ?_
      refine aC ⟨_,rfl,.inl (ae aa)⟩ rfl ?_;refine aC ⟨_,rfl,.inl (ag aa)⟩ rfl ?_;refine aC ⟨_,rfl,.inl (ae (ag aa))⟩ rfl ?_;refine aC ⟨_,rfl,.inl (ai aa)⟩ rfl ?_;refine ar (bq (ae (ai aa)) aw) rfl<|ck (ay (aH aV)) (ay (aH aX)) (ay (aH aZ)) (ay (aH am)) aa ?_;intro hU fP fQ fT fU fV
      refine ao ⟨(fV).trans (by(refine b7 ?_;unfold jh;simp_all)),(fP).trans (aV).symm,(fQ).trans (aX).symm,(fT).trans (aZ).symm,(fU).trans (am).symm,rfl⟩
     replace bQ:=di bQ;refine aF (aJ kW rfl (ae (ag (ay am)))) ⟨_,rfl,an⟩ rfl ?_;refine aF (aJ mM rfl aa) ⟨_,rfl,(ae an)⟩ rfl ?_;refine aF (az (aK nR rfl aO aa aA) eD) ⟨_,rfl,(ag an)⟩ rfl ?_;refine aF (bI (aG aa (aG aw aN)) rfl (qC _ _ aD) qL) ⟨_,rfl,(ae (ag an))⟩ rfl ?_;refine aF (dT aa) ⟨_,rfl,(ai an)⟩ rfl ?_;refine ar (br (ae (ai an)) aa) rfl<|ar (ak aa) rfl<|bK aa (λap bU=>?_) (λap bU=>?_)
     ·replace bU:=cT bU;refine aC ⟨_,rfl,.inl ap⟩ rfl ?_;refine aC ⟨_,rfl,.inl (ae ap)⟩ rfl ?_;refine aC ⟨_,rfl,.inl (ag ap)⟩ rfl ?_;refine aC ⟨_,rfl,.inl (ae (ag ap))⟩ rfl ?_;refine aC ⟨_,rfl,.inl (ai ap)⟩ rfl ?_;refine ar (bq (ae (ai ap)) aw) rfl<|ck (ay (aH aV)) (ay (aH aX)) (ay (aH aZ)) (ay (aH am)) aa ?_;intro hV fW fX fY f0 ga
      refine ao ⟨(ga).trans (by(refine b7 ?_;unfold jh;simp_all)),(fW).trans (aV).symm,(fX).trans (aX).symm,(fY).trans (aZ).symm,(f0).trans (am).symm,rfl⟩
     replace bU:=di bU;refine aF (aJ kW rfl (ag (aH am))) ⟨_,rfl,ap⟩ rfl ?_;refine aF (aJ mN rfl aa) ⟨_,rfl,(ae ap)⟩ rfl ?_;refine aF (az (aK nR rfl aO aa aA) eD) ⟨_,rfl,(ag ap)⟩ rfl ?_;refine aF (bI (aG aa (aG aw aN)) rfl (qC _ _ aD) qL) ⟨_,rfl,(ae (ag ap))⟩ rfl ?_;refine aF (dT aa) ⟨_,rfl,(ai ap)⟩ rfl ?_;refine ar (br (ae (ai ap)) aa) rfl<|ck (ay (aH aV)) (ay (aH aX)) (ay (aH aZ)) (ay (aH am)) aa ?_;intro hW gb gc gd ge gf
     refine ao ⟨(gf).trans (by(refine b7 ?_;unfold jh;simp_all)),(gb).trans (aV).symm,(gc).trans (aX).symm,(gd).trans (aZ).symm,(ge).trans (am).symm,rfl⟩
    ·rintro hY _ ⟨dl,gg,gh,gi,gk,rfl⟩;have dm:=gg.trans aV;have bX:=gh.trans aX;have cK:=gi.trans aZ;have cL:=gk.trans am;refine bk dl (λbY=>?_) (λbY=>?_)
     ·replace bY:=cT bY;refine ax<|at_<|ar (ak cK) rfl<|ar (cU (bz aw (bz aa bW)) lL lK lJ rfl) rfl ?_
      refine aM (bV (ag bX) aa rfl rfl a6 jK rfl aA) trivial rfl (λhZ bZ=>?_);have dn:=bo bZ a6;simp only [pS,Value.cells,Nat.reduceAdd,dp]at dn;have gl:=au bZ aO ah;have gm:=au bZ bM aD;have gn:=bh bZ dk;clear bZ aO a6 bM;refine ar (aB aw) rfl<|bD (ae (aE (ag bX))) aa ?_;clear dm bX cK cL dl;intro h6 eE eG
      refine ao<|bm<|bw<|cD<|bw<|bw<|cD<|bw<|dP bp aj (dz eE dn mK aA aL) (aR eG) (eh (.ro _ rfl)) (.ro _ rfl) ?_
      clear eE eG dn gl gm gn
      (have e:kM (l.js.getD k.toNat default)=2:=(by unfold kM;rw [‹jh _=false›];rfl);rw [hin,uN (i:=k.toNat) p3 (by rw [e];decide) ah,e];(simp only [Un p1];rfl))
     replace bY:=di bY;refine bF<|ao<|ax<|at_<|ar (aJ kW rfl cL) rfl<|ar (aJ mM rfl aa) rfl<|ar (az (aK nR rfl aO aa aA) eD) rfl ?_
     refine ar (aJ kW rfl (ae (ag cL))) rfl<|ar (aJ mN rfl aa) rfl<|ar (az (aK nR rfl aO aa aA) eD) rfl ?_
     refine ar (eF (ae (ag aa)) aa) rfl<|bu (ae (ag (ai dm))) (ae (ag (ai bX))) (ae (ag (ai cK))) aa ?_;clear dm bX cK cL dl;intro h7 dr b0 cM dt
     refine ao<|bk dt (λb1=>?_) (λb1=>?_)
     ·replace b1:=bt b1;refine ax<|at_<|ar (ak cM) rfl<|ar (cU (bz aw (bz aa bW)) lL lK lJ rfl) rfl ?_
      refine aM (bV (ag b0) aa rfl rfl a6 jK rfl aA) trivial rfl (λh8 b2=>?_);have du:=bo b2 a6;simp only [pS,Value.cells,Nat.reduceAdd,dp]at du;have gp:=au b2 aO ah;have gr:=au b2 bM aD;have gt:=bh b2 dk;clear b2 aO a6 bM;refine ar (aB aw) rfl<|bD (ae (aE (ag b0))) aa ?_;clear dr b0 cM dt;intro h9 eH eI
      refine ao<|bm<|cD<|bw<|bw<|cD<|bw<|dP bp aj (dz eH du mK aA aL) (aR eI) (eh (.ro _ rfl)) (.ro _ rfl) ?_
      clear eH eI du gp gr gt
      (have e:kM (l.js.getD k.toNat default)=9:=(by unfold kM;rw [‹jh _=true›,if_pos rfl,if_neg ah]);rw [hin,uN (i:=k.toNat) p3 (by rw [e];decide) ah,e];(simp only [Un p1];rfl))
     replace b1:=bf b1;refine bF<|cG<|ao<|at_<|ar (ak cM) rfl ?_
     (refine ar (cf aa aw ?_) rfl ?_; · (unfold In64;omega))
     refine ar (aB aa) rfl<|bB (ae (ag dr)) (ae (ag b0)) aa ?_;clear dr b0 cM dt;intro ia gv gw gx
     refine ao<|⟨_,⟨gx,(gv.trans ev.symm),(gw.trans ew.symm),(a6.trans av.symm),(bM.trans af.symm),⟨_,dk,ah⟩,?_⟩,?_⟩
     ·(refine⟨ah,ah,λj hj=>?_⟩;by_cases hji:j<k.toNat;(exact p3 j hji);(rw [show j=k.toNat by omega];unfold kM;rw [‹jh _=true›,if_pos rfl,if_pos ah]))
     ·((try dsimp only);omega)
   replace bE:=bf bE;refine dJ<|cw<|cw<|dI<|ao<|ax<|ax<|at_<|ar (aB aw) rfl<|bB (ae bA) (ae cC) aa ?_;clear bA cC dh cF;intro eP eS eT gy
   refine ao<|ca<|eL (S:=Int) (λk2 e mem=>(al e (.tmp 6)= .v (.int .i64 k2))/\(al e (.tmp 1)=al eP (.tmp 1))/\(al e (.tmp 2)=al eP (.tmp 2))/\(mem[1]? =ey[1]?)/\(mem[0]? =ey[0]?)/\(mem.length=ez)/\((0<=k2/\k2<=l.bs.length/\ ∀ j:Nat,j<k2.toNat->lq (l.bs.getD j default)=0))) (λk2=>(l.bs.length - k2).toNat) _ ⟨gy,rfl,rfl,rfl,rfl,cz,?_⟩ ?_
   ·(exact⟨ah,ah,λj h=>absurd h ah⟩)
   ·rintro k2 ib dv ⟨dw,gz,gB,gC,gD,cN,hinv⟩;have dy:=gz.trans eS;have eU:=gB.trans eT;have a2:=gC.trans cB;have aS:=gD.trans bb
    (obtain⟨q1,q2,q3⟩:=hinv)
    refine ax<|ax<|at_<|ar (ak dw) rfl<|ar (aJ eK rfl (ae dy)) rfl<|ar (az (aK qu rfl aS aa aA) eD) rfl ?_
    refine ar (az (cx aa rfl qt.1) ct) rfl ?_;refine ar (c6 (ae (ag aa)) aa) rfl<|bu (ae (ai dy)) (ae (ai eU)) (ae (ai dw)) aa ?_;clear dy eU dw;intro dA aT a7 a5 eW
    refine ao<|bk eW (λb6=>?_) (λb6=>?_)
    ·replace b6:=bt b6;refine bF<|ao<|ax<|ca<|ax<|fZ (λe mem=>(al e (.tmp 105)= .v (.bool (!nj (l.bs.getD k2.toNat default))))/\(al e (.tmp 1)=al dA (.tmp 1))/\(al e (.tmp 2)=al dA (.tmp 2))/\(al e (.tmp 6)=al dA (.tmp 6))/\dv=mem) ?_ ?_
     ·
      refine at_<|ar (aJ eK rfl aT) rfl<|ar (az (aK qu rfl aS aa aA) eD) rfl ?_
      refine ar (ak (ag a5)) rfl<|ar (az (cE qt (ae aa) aa ah (by(refine dq ?_;omega))) dY) rfl ?_
      refine ar (az (cj mP rfl aa) eD) rfl ?_;refine ar (az (bL nR rfl aa aA) eD) rfl ?_;refine ar (bI (aG aa (aG aw (aG aw aN))) rfl (xj _ _ _) zi) rfl<|ar (dT aa) rfl<|ar (ak aa) rfl<|bK aa (λad b8=>?_) (λad b8=>?_)
      ·replace b8:=cT b8;refine aC ⟨_,rfl,.inl ad⟩ rfl ?_;refine aC ⟨_,rfl,.inl (ae ad)⟩ rfl ?_;refine aC ⟨_,rfl,.inl (ag ad)⟩ rfl ?_;refine aC ⟨_,rfl,.inl (ae (ag ad))⟩ rfl ?_;refine aC ⟨_,rfl,.inl (ai ad)⟩ rfl ?_;refine aC ⟨_,rfl,.inl (ae (ai ad))⟩ rfl ?_;refine aC ⟨_,rfl,.inl (ag (ai ad))⟩ rfl ?_;refine aC ⟨_,rfl,.inl (ae (ag (ai ad)))⟩ rfl ?_;refine ar (bq (ay ad) aw) rfl<|bu (ag (aH aT)) (ag (aH a7)) (ag (aH a5)) aa ?_;intro ic gE gF gG gH
       refine ao ⟨(gH).trans (by(refine b7 ?_;unfold nj;simp_all)),(gE).trans (aT).symm,(gF).trans (a7).symm,(gG).trans (a5).symm,rfl⟩
      replace b8:=di b8;refine aF (aJ eK rfl (ae (ay aT))) ⟨_,rfl,ad⟩ rfl ?_;refine aF (az (aK qu rfl aS aa aA) eD) ⟨_,rfl,(ae ad)⟩ rfl ?_;refine aF (ak (ae (ag (ay a5)))) ⟨_,rfl,(ag ad)⟩ rfl ?_;refine aF (az (cE qt (ae aa) aa ah (by(refine dq ?_;omega))) dY) ⟨_,rfl,(ae (ag ad))⟩ rfl ?_;refine aF (az (cj uX rfl aa) dY) ⟨_,rfl,(ai ad)⟩ rfl ?_;refine aF (az (bL nR rfl aa aA) eD) ⟨_,rfl,(ae (ai ad))⟩ rfl ?_;refine aF (bI (aG aa (aG aw aN)) rfl (qC _ _ aD) qL) ⟨_,rfl,(ag (ai ad))⟩ rfl ?_;refine aF (dT aa) ⟨_,rfl,(ae (ag (ai ad)))⟩ rfl ?_;refine ar (br (ay ad) aa) rfl<|bu (ag (aH aT)) (ag (aH a7)) (ag (aH a5)) aa ?_;intro ie gI gJ gL gM
      refine ao ⟨(gM).trans (by(refine b7 ?_;unfold nj;simp_all)),(gI).trans (aT).symm,(gJ).trans (a7).symm,(gL).trans (a5).symm,rfl⟩
     ·rintro ig _ ⟨dB,gN,gO,gP,rfl⟩;have dC:=gN.trans aT;have b9:=gO.trans a7;have cO:=gP.trans a5;refine bk dB (λcb=>?_) (λcb=>?_)
      ·replace cb:=cT cb;refine ax<|at_<|ar (ak cO) rfl<|ar (cU (bz aw (bz aa bW)) lL lK lJ rfl) rfl ?_
       refine aM (bV (ag b9) aa rfl rfl a2 jK rfl aA) trivial rfl (λih cP=>?_);have dD:=bo cP a2;simp only [pS,Value.cells,Nat.reduceAdd,dp]at dD;have gQ:=au cP aS aD;have gR:=bh cP cN;clear cP a2 aS;refine ar (aB aw) rfl<|bD (ae (aE (ag b9))) aa ?_;clear dB dC b9 cO;intro ij eX eZ
       refine ao<|bm<|cD<|bw<|bw<|cD<|bw<|dP bp aj (dz eX dD mK aA aL) (aR eZ) (eh (.ro _ rfl)) (.ro _ rfl) ?_
       clear eX eZ dD gQ gR
       (have e:lq (l.bs.getD k2.toNat default)=2:=(by unfold lq;rw [‹nj _=false›];rfl);rw [hin,nF (λj hj=>p3 j ah),uN (i:=k2.toNat) q3 (by rw [e];decide) ah,e];(simp only [Un q1];rfl))
      replace cb:=di cb;refine bF<|cG<|ao<|at_<|ar (ak cO) rfl ?_
      (refine ar (cf aa aw ?_) rfl ?_; · (unfold In64;omega))
      refine ar (aB aa) rfl<|bB (ae (ag dC)) (ae (ag b9)) aa ?_;clear dB dC b9 cO;intro ik gS gT gU
      refine ao<|⟨_,⟨gU,(gS.trans eS.symm),(gT.trans eT.symm),(a2.trans cB.symm),(aS.trans bb.symm),cN,?_⟩,?_⟩
      ·(refine⟨ah,ah,λj hj=>?_⟩;by_cases hji:j<k2.toNat;(exact q3 j hji);(rw [show j=k2.toNat by omega];unfold lq;rw [‹nj _=true›,if_pos rfl]))
      ·((try dsimp only);omega)
    replace b6:=bf b6;refine dJ<|cw<|cw<|dI<|ao<|ax<|ax<|at_<|ar (aJ gu rfl aT) rfl<|ar (az (aK DC rfl aS aa aA) eD) rfl ?_
    refine ar (az (cx aa rfl Dz.1) ct) rfl ?_;refine ar (eF aa aw) rfl<|bB (ai aT) (ai a7) aa ?_;clear aT a7 a5 eW;intro il dE cc dF
    refine ao<|bk dF (λcd=>?_) (λcd=>?_)
    ·replace cd:=bt cd;refine ax<|at_<|ar (cU bW lL lK lJ rfl) rfl ?_
     refine aM (bV (ae cc) aa rfl rfl a2 jK rfl aA) trivial rfl (λim cQ=>?_);have dG:=bo cQ a2;simp only [pS,Value.cells,Nat.reduceAdd,dp]at dG;have gW:=au cQ aS aD;have gX:=bh cQ cN;clear cQ a2 aS;refine ar (aB aw) rfl<|bD (ae (aE (ae cc))) aa ?_;clear dF dE cc;intro io e0 e3
     refine ao<|bm<|bw<|dP bp aj (dz e0 dG mK aA aL) (aR e3) (eh (.ro _ rfl)) (.ro _ rfl) ?_
     clear e0 e3 dG gW gX
     (rw [hin,nF (λj hj=>p3 j ah),nF (λj hj=>q3 j ah),if_pos ah];rfl)
    replace cd:=bf cd;refine bF<|ao<|ax<|ax<|at_<|ar (aB aw) rfl<|bB (ae dE) (ae cc) aa ?_;clear dF dE cc;intro e4 e5 e6 gY
    refine ao<|ca<|eL (S:=Int) (λk3 e mem=>(al e (.tmp 7)= .v (.int .i64 k3))/\(al e (.tmp 1)=al e4 (.tmp 1))/\(al e (.tmp 2)=al e4 (.tmp 2))/\(mem[1]? =dv[1]?)/\(mem[0]? =dv[0]?)/\(mem.length=ez)/\((0<=k3/\k3<=l.ss.length/\ ∀ j:Nat,j<k3.toNat->gV l j=0))) (λk3=>(l.ss.length - k3).toNat) _ ⟨gY,rfl,rfl,rfl,rfl,cN,?_⟩ ?_
    ·(exact⟨ah,ah,λj h=>absurd h ah⟩)
    ·rintro k3 ip iq ⟨dH,gZ,g0,g1,g2,dK,hinv⟩;have dL:=gZ.trans e5;have e7:=g0.trans e6;have a8:=g1.trans a2;have a9:=g2.trans aS
     (obtain⟨r1,r2,r3⟩:=hinv)
     refine ax<|ax<|at_<|ar (ak dH) rfl<|ar (aJ gu rfl (ae dL)) rfl<|ar (az (aK DC rfl a9 aa aA) eD) rfl ?_
     refine ar (az (cx aa rfl Dz.1) ct) rfl ?_;refine ar (c6 (ae (ag aa)) aa) rfl<|bu (ae (ai dL)) (ae (ai e7)) (ae (ai dH)) aa ?_;clear dL e7 dH;intro ir cR ce cS dM
     refine ao<|bk dM (λci=>?_) (λci=>?_)
     ·replace ci:=bt ci;refine bF<|ao<|ax<|ca<|ax<|at_<|ar (az (aK Nk rfl a9 cR aA) eD) rfl ?_
      refine ar (ak (ae cS)) rfl<|ar (bI (aG (ae aa) (aG aa aN)) rfl (Jd l hl k3 ⟨ah,ah⟩) Kp) rfl ?_
      refine ar (aB aa) rfl<|bu (ai cR) (ai ce) (ai cS) aa ?_;clear dM cR ce cS;intro iu e8 e9 fa dO
      refine ao<|ax<|at_<|ar (ak dO) rfl<|ar (fp aa aw) rfl<|ck (ag e8) (ag e9) (ag fa) (ag dO) aa ?_;clear e8 e9 fa dO;intro iv dQ cm cV dR dS
      refine ao<|bk dS (λco=>?_) (λco=>?_)
      ·replace co:=ff co;refine ax<|at_<|ar (ak cV) rfl<|ar (cU (bz aw (bz aa bW)) lL lK lJ rfl) rfl ?_
       refine ar (ak (ag dR)) rfl<|aM (bV (ae (ag cm)) (ae aa) rfl rfl a8 jK rfl aA) trivial rfl (λix cW=>?_)
       have dU:=bo cW a8;simp only [pS,Value.cells,Nat.reduceAdd,dp]at dU;have g3:=au cW a9 aD;have g4:=bh cW dK;clear cW a8 a9;refine ar (aB (aE aa)) rfl<|bD (ae (aE (ae (ag cm)))) aa ?_;clear dS dQ cm cV dR;intro iy fb fc
       refine ao<|bm<|cD<|bw<|bw<|cD<|bw<|dP bp aj (dz fb dU mK aA aL) (aR fc) (eh (.ro _ rfl)) (.ro _ rfl) ?_
       clear fb fc dU g3 g4
       (rw [hin,nF (λj hj=>p3 j ah),nF (λj hj=>q3 j ah),if_neg ah,uN (i:=k3.toNat) r3 (by assumption) ah];(simp only [Un r1];rfl))
      replace co:=eY co;refine bF<|cG<|ao<|at_<|ar (ak cV) rfl ?_
      (refine ar (cf aa aw ?_) rfl ?_; · (unfold In64;omega))
      refine ar (aB aa) rfl<|bB (ae (ag dQ)) (ae (ag cm)) aa ?_;clear dS dQ cm cV dR;intro iz g5 g6 g7
      refine ao<|⟨_,⟨g7,(g5.trans e5.symm),(g6.trans e6.symm),(a8.trans a2.symm),(a9.trans aS.symm),dK,?_⟩,?_⟩
      ·(refine⟨ah,ah,λj hj=>?_⟩;by_cases hji:j<k3.toNat;(exact r3 j hji);(rw [show j=k3.toNat by omega];assumption))
      ·((try dsimp only);omega)
     replace ci:=bf ci;refine dJ<|cw<|cw<|dI<|ao<|ax<|at_<|ar (cU bW lL lK lJ rfl) rfl ?_
     refine aM (bV (ae ce) aa rfl rfl a8 jK rfl aA) trivial rfl (λiA cX=>?_);have dV:=bo cX a8;simp only [pS,Value.cells,Nat.reduceAdd,dp]at dV;have g8:=au cX a9 aD;have g9:=bh cX dK;clear cX a8 a9;refine ar (aB aw) rfl<|bD (ae (aE (ae ce))) aa ?_;clear dM cR ce cS;intro iB fd fe
     refine ao<|bm<|dP bp aj (dz fd dV mK aA aL) (aR fe) (eh (.ro _ rfl)) (.ro _ rfl) ?_
     clear fd fe dV g8 g9
     (rw [hin,nF (λj hj=>p3 j ah),nF (λj hj=>q3 j ah),if_neg ah,nF (λj hj=>r3 j ah)];rfl)
def rz(n lo hi:Int):Int:=if eC n lo hi then 0 else 6
def cy(bs:List g9):Nat->Int
 | 0=>0
 | n+1=>cy bs n+(bs.getD n default).len
theorem yX{bs:List g9}(h:∀ j:Nat,j<bs.length->0<=(bs.getD j default).len /\(bs.getD j default).len <=30000):∀ {n:Nat},n<=bs.length->0<=cy bs n/\cy bs n<=30000*n
 | 0,_=>by simp [cy]
 | n+1,hn=>by
  have h1:=yX h (n:=n) ah;have h2:=h n ah;simp only [cy];omega
theorem eO(a:ByteArray)(b:Int)(c:List Int): [[AV.v (.string a),AV.v (.int .i64 b),AV.row 1 (c.map iE)]]= [(⟨a,b,c⟩:fM)].map ei:=rfl
end Go.Proofs.YtfoaiidcfkmneaaGreatDoor
namespace Go.Proofs.YtfoaiidcfkmneaaGreatDoor
open Go Go.RowKit Go.Proofs Go.Shelf Go.Lib
theorem Nn:(Tryz.prog.info? 65).bind (·.zero)=some (.agg #[.slice none 0 0,.slice none 0 0,.slice none 0 0,.slice none 0 0]):=by kernel_rfl
theorem o7:wE Tryz.prog 65 4 1:=⟨aj,aj⟩
theorem Kq:∀ args w,(callFunc 18 args).run Tryz.prog w= .ok (.enter 18 args) w:=λ_ _=>by kernel_rfl
theorem Kr:∀ args w,(callFunc 19 args).run Tryz.prog w= .ok (.enter 19 args) w:=λ_ _=>by kernel_rfl
theorem Ks:∀ args w,(callFunc 20 args).run Tryz.prog w= .ok (.enter 20 args) w:=λ_ _=>by kernel_rfl
theorem Kt:∀ args w,(callFunc 21 args).run Tryz.prog w= .ok (.enter 21 args) w:=λ_ _=>by kernel_rfl
theorem Ku:∀ args w,(callFunc 22 args).run Tryz.prog w= .ok (.enter 22 args) w:=λ_ _=>by kernel_rfl
theorem DD:b9 Tryz.prog 23 74 4 32 (.agg #[.int .i64 0,.int .i64 0,.int .i64 0,.int .i64 0]):=⟨aj,aj,aj⟩
theorem DF:b9 Tryz.prog 24 76 2 16 (.agg #[.int .i64 0,.int .i64 0]):=⟨aj,aj,aj⟩
theorem DG:b9 Tryz.prog 25 78 3 48 (.agg #[.string ByteArray.empty,.int .i64 0,.slice none 0 0]):=⟨aj,aj,aj⟩
theorem o8:b9 Tryz.prog 62 9 1 16 (.string ByteArray.empty):=⟨aj,aj,aj⟩
theorem jo:b9 Tryz.prog 64 3 1 8 (.int .i64 0):=⟨aj,aj,aj⟩
theorem uO:b9 Tryz.prog 66 70 2 24 (.agg #[.string ByteArray.empty,.int .i64 0]):=⟨aj,aj,aj⟩
theorem Np:aV Tryz.prog 23 false 1:=⟨aj,aj⟩
theorem Nq:aV Tryz.prog 24 false 1:=⟨aj,aj⟩
theorem Nr:aV Tryz.prog 25 false 1:=⟨aj,aj⟩
theorem mL:aV Tryz.prog 27 true 4:=⟨aj,aj⟩
theorem o9:aV Tryz.prog 29 true 2:=⟨aj,aj⟩
theorem kZ:aV Tryz.prog 3 false 1:=⟨aj,aj⟩
theorem uP:aV Tryz.prog 64 false 1:=⟨aj,aj⟩
theorem vv:aV Tryz.prog 9 false 1:=⟨aj,aj⟩
theorem Q3{p k:ByteArray}(h:dy p k=0):aS k bj=true\/aS k bc=true\/aS k aU=true\/aS k aX=true:=by
 by_cases hk:k=bj
 ·exact .inl (by rw [hk,fj])
 ·obtain⟨_,h1⟩:=yf h hk;rcases h1 with h1|h1|h1<;>rw [h1]<;>simp [fj]
def Df(a b:Nat):Prop:=a≠b
theorem Ss{a b:Nat}(h:Df a b):a≠b:=h
theorem RN{a b:Nat}(h:Df b a):a≠b:=λe=>h e.symm
theorem wH{a b:Nat}(h:a<b):Df a b:=Nat.ne_of_lt h
theorem wI{a b:Nat}(h:b<a):Df a b:=Nat.ne_of_gt h
theorem SD{k:ByteArray}(h:aS k ⟨#[]⟩=true):AV.v (.bool true)= .v (.bool (aS k ⟨#[]⟩||aS k bj||aS k aU)):=by rw [h];rfl
theorem SE{k:ByteArray}(h:aS k bj=true):AV.v (.bool true)= .v (.bool (aS k ⟨#[]⟩||aS k bj||aS k aU)):=by rw [h];simp
theorem SG{k:ByteArray}(h1:aS k ⟨#[]⟩=false)(h2:aS k bj=false):AV.v (.bool (aS k aU))= .v (.bool (aS k ⟨#[]⟩||aS k bj||aS k aU)):=by rw [h1,h2];rfl
theorem eJ(l:List Int):List.drop (Int.toNat 1) (List.map iE l)=List.map iE (List.drop 1 l):=(List.map_drop).symm
def zZ(i:Nat)(a b c:List Int):List Int:=if i=1 then a else if i=2 then b else c
theorem P0{R:iM}{m1 m2 e:Int}{a b c:List Int}(y1:0<=m1)(y2:m1<=3)(hn:¬ m1=0)(z1:m1=1->m2<a.length/\R=⟨zL,a.getD m2.toNat default,1,e⟩)(z2:m1=2->m2<b.length/\R=⟨zL,b.getD m2.toNat default,1,e⟩)(z3:m1=3->m2<c.length/\R=⟨zL,c.getD m2.toNat default,1,e⟩):
 m2<(zZ m1.toNat a b c).length /\R=⟨zL,(zZ m1.toNat a b c).getD m2.toNat default,1,e⟩:=by
 rcases (by omega:m1=1\/m1=2\/m1=3)with h|h|h
 ·rw [h]at z1 ⊢;exact z1 rfl
 ·rw [h]at z2 ⊢;exact z2 rfl
 ·rw [h]at z3 ⊢;exact z3 rfl
theorem Je{P:Program}{e:Nat->AV}{mem:List Ob}{d:Option Tmp}{ty t:TypeId}{pos:String}{af:Array Edge}{g:Option (Nat×Bool)}{x:Operand}{j i:Nat}{T:TypeId}{z:AV}{a b c:List Int}(ht:aV P t false 1)(hm:mem[j]? =some (.box T [z,.row 1 (a.map iE),.row 1 (b.map iE),.row 1 (c.map iE)]))(hx:al e x= .ptr j (0+i*1))(h1:1<=i)(h3:i<=3):
 bH P ⟨d,.load t x,ty,pos,af,g⟩ e mem (.row 1 ((zZ i a b c).map iE)):=by
 rcases (by omega:i=1\/i=2\/i=3)with h|h|h<;>subst h<;>exact az (aK ht rfl hm hx aL) rfl
theorem Jf(tx:List UInt8)(hl:tx.length<=1000000):bT Tryz.prog 6 [.v (.string (bs tx))] (λq=>q=gj (nk tx)):=by
 have hz:∀ l:List UInt8,(bs l).size =l.length:=sr;have hz1:(bs tx).size =tx.length:=rfl
 by_cases hbig:60000<tx.length
 ·rw [nk,if_pos hbig];refine cA (fn:=Tryz.f6) 202 aj rfl aj bO ?_;intro gr gt hA dW;have dX:al gr (.tmp 0)=_:=hA 0 _ rfl;have cV:gt.length=0:=by rw [dW];rfl
  clear hA dW;refine ax<|at_<|aM (cJ mf rfl cV) trivial rfl (λrL cW=>?_)
  have cY:=bS cW cV;simp only [pS,Value.cells,Nat.reduceAdd]at cY;have bX:=bR cW cV;have bX:_=1:=bX;clear cW;refine aM (cJ om rfl bX) trivial rfl (λjv co=>?_);have cZ:=bS co bX;simp only [pS,Value.cells,Nat.reduceAdd]at cZ;have dn:=aI co cY;have cq:=bR co bX;have cq:_=2:=cq;clear co cY;refine ar (aB aw) rfl<|bB (ae (ag dX)) (ag aa) (ae aa) ?_;clear dX;intro rN c6 dZ ea
  refine ao<|ax<|ax<|at_<|ar (ak c6) rfl<|ar (eE aa rfl cK) rfl<|ar (eF aa aw) rfl<|bu (ae (ag c6)) (ae (ag dZ)) (ae (ag ea)) aa ?_;clear c6 dZ ea;intro rO eX dt du eb
  refine ao<|bk eb (λbY=>?_) (λbY=>?_)
  ·replace bY:=bt bY;refine ax<|at_<|ar (cU bW nc na m9 rfl) rfl ?_
   refine ar (cU bW mi mh mg rfl) rfl ?_;refine aM (bV (ag dt) (ae aa) rfl rfl dn jI rfl aA) trivial rfl (λwy eZ=>?_);have gv:=bo eZ dn;simp only [pS,Value.cells,Nat.reduceAdd]at gv;have gx:=au eZ cZ aD;have rP:=bh eZ cq;clear eZ cZ dn;refine aM (bV (aE (ag du)) (aE aa) rfl rfl gx kc rfl aA) trivial rfl (λwz e0=>?_);have gy:=bo e0 gx;simp only [pS,Value.cells,Nat.reduceAdd]at gy;have jw:=au e0 gv aD;have rQ:=bh e0 rP;clear e0 gv gx;refine ar (aB aw) rfl<|bB (ae (aE (aE (ag dt)))) (ae (aE (aE (ag du)))) aa ?_;clear eX eb dt du;intro rR ec ed jx
   refine ao<|bm<|bw<|mm bp aj (dz ec jw mL aA aL) (dz ed gy o9 aA aL) (aR jx) (eh (k9 (cQ (.ro _ rfl) (cQ (.nil 4) (cQ (.nil 2) (cQ (.nil 3) gG)))))) (eh (.ro _ rfl)) (.ro _ rfl) ?_
   clear ec ed jx gy jw rQ
   first|rfl|(simp;done)|(simp_all;done)|omega
  ·replace bY:=bf bY;exfalso;omega
 ·rw [nk,if_neg hbig,yg];obtain⟨cs,hcs⟩:∃ cs,cs=strip (fO tx):=⟨_,rfl⟩;obtain⟨R,hR⟩:∃ R,R=gl kj cs:=⟨_,rfl⟩;rw [<- hcs, <- hR];have hI0:fP cs 1 ⟨#[]⟩ ⟨#[]⟩ [] [] [] 0 [] [] [] R:=by rw [hR];exact fP.zero cs
  have hC:=Ni tx hl;have hne:=sT tx;have hlp:=Tt.2 hne;have hll:cs.length<=tx.length:=by rw [hcs, <- yg,SZ];exact xo tx
  have hclA:∀ k,(cs.getD k default).length <=tx.length:=λk=>by rw [hcs];exact Nj tx k
  have hLl:(fO tx).length <=cs.length+1:=by
   rw [hcs];unfold strip
   split
   ·rw [List.length_dropLast];omega
   ·omega
  generalize fO tx=L at hC hcs hne hlp hLl;clear hR;refine cA (fn:=Tryz.f6) 202 aj rfl aj bO ?_;intro gr gt hA dW;have dX:al gr (.tmp 0)=_:=hA 0 _ rfl;have cV:gt.length=0:=by rw [dW];rfl
  clear hA dW;refine ax<|at_<|aM (cJ mf rfl cV) trivial rfl (λrL cW=>?_)
  have cY:=bS cW cV;simp only [pS,Value.cells,Nat.reduceAdd,eJ,eo,aQ,eM,eN,eO,bG,bC,SZ]at cY;have bX:=bR cW cV;have bX:_=1:=bX;clear cW;refine aM (cJ om rfl bX) trivial rfl (λjv co=>?_);have cZ:=bS co bX;simp only [pS,Value.cells,Nat.reduceAdd,eJ,eo,aQ,eM,eN,eO,bG,bC,SZ]at cZ;have dn:=aI co cY;have cq:=bR co bX;have cq:_=2:=cq;clear co cY;refine ar (aB aw) rfl<|bB (ae (ag dX)) (ag aa) (ae aa) ?_;clear dX;intro rN c6 dZ ea
  refine ao<|ax<|ax<|at_<|ar (ak c6) rfl<|ar (eE aa rfl cK) rfl<|ar (eF aa aw) rfl<|bu (ae (ag c6)) (ae (ag dZ)) (ae (ag ea)) aa ?_;clear c6 dZ ea;intro rO eX dt du eb
  refine ao<|bk eb (λbY=>?_) (λbY=>?_)
  ·replace bY:=bt bY;exfalso;omega
  replace bY:=bf bY;refine bF<|ao<|ax<|at_<|ar (ak eX) rfl<|ar (bI (aG aa (aG aw aN)) rfl (hC) Kq) rfl<|ar (aB aa) rfl<|bB (ae (ag dt)) (ae (ag du)) aa ?_;clear eX eb dt du;intro jA e3 e4 gz
  refine ao<|ax<|fZ (λe mem=>(al e (.tmp 5)= .row 1 (cs.map eo))/\(al e (.tmp 2)=al jA (.tmp 2))/\(al e (.tmp 3)=al jA (.tmp 3))/\jv=mem) ?_ ?_
  ·
   refine ax<|at_<|ar (ak gz) rfl<|ar (ak (ae gz)) rfl<|ar (az (cx aa rfl o8.1) ct) rfl ?_
   (refine ar (eU aa aw ?_) rfl ?_; · (unfold In64;omega))
   refine ar (az (cE o8 (ae (ag aa)) aa ah (by first|(refine dK ?_;first|omega|(simp only [dj];omega))|(refine dq ?_;first|omega|(simp only [dj];omega))|(refine nH ?_;first|omega|(simp only [dj];omega))|rfl)) dL) rfl ?_;refine ar (az (bL vv rfl aa aA) dL) rfl ?_;refine ar (cX aa aw) rfl<|bu (ae (ag (ai e3))) (ae (ag (ai e4))) (ae (ag (ai gz))) aa ?_;intro rR ec ed gA rS
   refine ao<|bk rS (λrT=>?_) (λrT=>?_)
   ·skip;refine at_<|ar (ak gA) rfl<|ar (ak (ae gA)) rfl<|ar (az (cx aa rfl o8.1) ct) rfl ?_
    (refine ar (eU aa aw ?_) rfl ?_; · (unfold In64;omega))
    refine ar (F5 o8 (ae (ag aa)) aa ah dC) rfl ?_;refine ar (aB aa) rfl<|bB (ag (ai ec)) (ag (ai ed)) aa ?_;intro wA rU rV rW
    refine ao ⟨(rW).trans (by(rw [hcs];first|exact Gz hne (by assumption) ah|exact Gy hne (by assumption))),(rU).trans (e3).symm,(rV).trans (e4).symm,rfl⟩
   refine bF<|ao ⟨(gA).trans (by(rw [hcs];first|exact Gz hne (by assumption) ah|exact Gy hne (by assumption))),(ec).trans (e3).symm,(ed).trans (e4).symm,rfl⟩
  ·rintro wB _ ⟨jB,rX,rY,rfl⟩;have jJ:=rX.trans e3;have jL:=rY.trans e4;refine ax<|at_<|aM (cJ mf rfl cq) trivial rfl (λwC ef=>?_)
   have gC:=bS ef cq;simp only [pS,Value.cells,Nat.reduceAdd,eJ,eo,aQ,eM,eN,eO,bG,bC,SZ]at gC;have jM:=aI ef cZ;have jN:=aI ef dn;have eg:=bR ef cq;have eg:_=3:=eg;clear ef cZ dn;refine bu (ae jJ) (ae jL) (ae jB) aa ?_;clear jJ jL jB;intro wD jO jP jQ jR;refine ao<|ax<|at_<|ar (aB aw) rfl<|ck (ae jO) (ae jP) (ae jQ) (ae jR) aa ?_;clear jO jP jQ jR;intro wE jS jT jU jV jW
   refine ao<|ax<|at_<|ar (aB aw) rfl<|dH (ae jS) (ae jT) (ae jU) (ae jV) (ae jW) aa ?_;clear jS jT jU jV jW;intro wF jX jY jZ j0 j1 j3
   refine ao<|ax<|at_<|aM (cJ Nn rfl eg) trivial rfl (λwG dv=>?_)
   have j4:=bS dv eg;simp only [pS,Value.cells,Nat.reduceAdd,eJ,eo,aQ,eM,eN,eO,bG,bC,SZ]at j4;have j5:=aI dv gC;have rZ:=aI dv jM;have r4:=aI dv jN;have en:=bR dv eg;have en:_=4:=en;clear dv gC jM jN;refine fe (ae jX) (ae jY) (ae jZ) (ae j0) (ae j1) (ae j3) aa ?_;clear jX jY jZ j0 j1 j3;intro wJ j6 j7 j8 ka kb ke kf;refine ao<|ax<|ax<|at_<|ar (aB aw) rfl<|ik (ae j6) (ae j7) (ae j8) (ae ka) (ae kb) (ae ke) (ae kf) aa ?_;clear j6 j7 j8 ka kb ke kf;intro er dw dA dB dD r5 r6 dF r7
   refine ao<|ca<|lZ 74 4 1 j5 rfl en (λwK wL c7 c8=>?_)
   have kg:=bS c7 en;have sa:=au c8 kg aD;have ki:=aI c7 j4;have sb:=au c8 ki aD;have km:=aI c7 j5;have gD:=bo c8 km;simp only [TA,Tu]at gD;have kn:=aI c7 rZ;have sc:=au c8 kn aD;have ko:=aI c7 r4;have sd:=au c8 ko aD;have kp:=bR c7 en;have gE:_=5:=bh c8 kp;clear c7 c8 kp kg ki km kn ko;refine lZ 76 2 2 gD rfl gE (λwM wN cO cP=>?_);have kq:=bS cO gE;have se:=au cP kq aD;have kr:=aI cO sa;have sf:=au cP kr aD;have kt:=aI cO sb;have sg:=au cP kt aD;have ku:=aI cO gD;have gF:=bo cP ku;simp only [TA,Tu]at gF;have kv:=aI cO sc;have sh:=au cP kv aD;have kw:=aI cO sd;have si:=au cP kw aD;have kx:=bR cO gE;have gH:_=6:=bh cP kx;clear cO cP kx kq kr kt ku kv kw;refine lZ 78 3 3 gF rfl gH (λwO wP cr cu=>?_);have ky:=bS cr gH;have sj:=au cu ky aD;have kz:=aI cr se;have sk:=au cu kz aD;have kA:=aI cr sf;have sm:=au cu kA aD;have kB:=aI cr sg;have kC:=au cu kB aD;have kD:=aI cr gF;have kE:=bo cu kD;simp only [TA,Tu]at kE;have kF:=aI cr sh;have so:=au cu kF aD;have kG:=aI cr si;have sq:=au cu kG aD;have kH:=bR cr gH;have gI:_=7:=bh cu kH;clear cr cu kH ky kz kA kB kD kF kG;refine lZ 3 1 1 kC rfl gI (λwQ wR b2 b6=>?_);have kI:=bS b2 gI;have su:=au b6 kI aD;have kJ:=aI b2 sj;have sv:=au b6 kJ aD;have kK:=aI b2 sk;have sw:=au b6 kK aD;have kL:=aI b2 sm;have sx:=au b6 kL aD;have kM:=aI b2 kC;have gJ:=bo b6 kM;simp only [TA,Tu]at gJ;have kN:=aI b2 kE;have sy:=au b6 kN aD;have kO:=aI b2 so;have sA:=au b6 kO aD;have kP:=aI b2 sq;have sB:=au b6 kP aD;have kQ:=bR b2 gI;have gL:_=8:=bh b6 kQ;clear b2 b6 kQ kI kJ kK kL kM kN kO kP;refine lZ 3 1 2 gJ rfl gL (λwS wT bZ b0=>?_);have kS:=bS bZ gL;have sC:=au b0 kS aD;have kT:=aI bZ su;have sD:=au b0 kT aD;have kU:=aI bZ sv;have sE:=au b0 kU aD;have kV:=aI bZ sw;have sF:=au b0 kV aD;have kW:=aI bZ sx;have sG:=au b0 kW aD;have kX:=aI bZ gJ;have gM:=bo b0 kX;simp only [TA,Tu]at gM;have kY:=aI bZ sy;have sH:=au b0 kY aD;have k0:=aI bZ sA;have sI:=au b0 k0 aD;have k4:=aI bZ sB;have sJ:=au b0 k4 aD;have k5:=bR bZ gL;have gN:_=9:=bh b0 k5;clear bZ b0 k5 kS kT kU kV kW kX kY k0 k4;refine lZ 3 1 3 gM rfl gN (λwU k6 a2 a3=>?_);have k7:=bS a2 gN;have sK:=au a3 k7 aD;have k8:=aI a2 sC;have sL:=au a3 k8 aD;have lb:=aI a2 sD;have sM:=au a3 lb aD;have lc:=aI a2 sE;have sN:=au a3 lc aD;have ld:=aI a2 sF;have sO:=au a3 ld aD;have lf:=aI a2 sG;have sP:=au a3 lf aD;have lg:=aI a2 gM;have li:=bo a3 lg;simp only [TA,Tu]at li;have lj:=aI a2 sH;have sQ:=au a3 lj aD;have lk:=aI a2 sI;have dG:=au a3 lk aD;have ll:=aI a2 sJ;have dM:=au a3 ll aD;have ln:=bR a2 gN;have sR:_=10:=bh a3 ln;clear a2 a3 ln k7 k8 lb lc ld lf lg lj lk ll;refine eL (S:=(Int×Nat×Nat×Nat×Nat×Nat×Nat×ByteArray×ByteArray×List gB×List g9×List fM×Int×List Int×List Int×List Int)) (λs e mem=>match s with|⟨n,k1,k2,k3,r1,r2,r3,kd,nm,js,bl,ss,z,rj,rb,rs⟩=>(al e (.tmp 10)= .v (.int .i64 n))/\(al e (.tmp 7)= .v (.string kd))/\(al e (.tmp 8)= .v (.int .i64 z))/\(al e (.tmp 2)=al er (.tmp 2))/\(al e (.tmp 3)=al er (.tmp 3))/\(al e (.tmp 5)=al er (.tmp 5))/\(al e (.tmp 6)=al er (.tmp 6))/\(al e (.tmp 9)=al er (.tmp 9))/\(mem[2]? =some (.box 27 [.v (.string nm),.own k1,.own k2,.own k3]))/\(mem[3]? =some (.box 65 [.v (.slice none 0 0),.own r1,.own r2,.own r3]))/\(mem[k1]? =some (.row 74 4 (js.map dp)))/\(mem[k2]? =some (.row 76 2 (bl.map dx)))/\(mem[k3]? =some (.row 78 3 (ss.map ei)))/\(mem[r1]? =some (.row 3 1 (rj.map iE)))/\(mem[r2]? =some (.row 3 1 (rb.map iE)))/\(mem[r3]? =some (.row 3 1 (rs.map iE)))/\(mem[1]? =k6[1]?)/\(mem[0]? =k6[0]?)/\(∃ n,mem.length=n/\10<=n)/\((4<=k1/\4<=k2/\4<=k3/\4<=r1/\4<=r2/\4<=r3/\Df k1 k2/\Df k1 k3/\Df k1 r1/\Df k1 r2/\Df k1 r3/\Df k2 k3/\Df k2 r1/\Df k2 r2/\Df k2 r3/\Df k3 r1/\Df k3 r2/\Df k3 r3/\Df r1 r2/\Df r1 r3/\Df r2 r3/\1<=n/\n<=cs.length+1/\fP cs n kd nm js bl ss z rj rb rs R))) (λs=>match s with|⟨n,k1,k2,k3,r1,r2,r3,kd,nm,js,bl,ss,z,rj,rb,rs⟩=>(cs.length+1 - n).toNat) ⟨1,_,_,_,_,_,_,⟨#[]⟩,⟨#[]⟩,[],[],[],0,[],[],[]⟩ ⟨r7,r5,r6,rfl,rfl,rfl,rfl,rfl,sQ,li,sP,sO,sN,sM,sL,sK,rfl,rfl,⟨_,sR,SR _⟩,?_⟩ ?_
   ·(refine⟨?_,?_,?_,?_,?_,?_,?_,?_,?_,?_,?_,?_,?_,?_,?_,?_,?_,?_,?_,?_,?_,ah,ah,hI0⟩<;>(first|exact wH ah|exact wI ah|omega))
   ·rintro⟨n,k1,k2,k3,r1,r2,r3,kd,nm,js,bl,ss,z,rj,rb,rs⟩ wV sS ⟨gO,lp,lq,sX,sY,sZ,s0,s3,ad,aV,am,an,ap,av,aP,aT,s4,s5,⟨s6,ab,wW⟩,hinv⟩;have lr:=sX.trans dw;have lu:=sY.trans dA;have gP:=sZ.trans dB;have lv:=s0.trans dD;have lx:=s3.trans dF;have aZ:=s4.trans dG;have af:=s5.trans dM;have wX:=cL am ab;have wY:=cL an ab;have wZ:=cL ap ab;have w8:=cL av ab;have w9:=cL aP ab;have xa:=cL aT ab
    (obtain⟨g1,g2,g3,g4,g5,g6,d1,d2,d3,d4,d5,d6,d7,d8,d9,d10,d11,d12,d13,d14,d15,p0,p1,p2⟩:=hinv;have hkd:=p2.kinds;have hsh:=p2.tG ah;have hcl:=hclA (n - 1).toNat;obtain⟨wl,hwl⟩:∃ w,w=ee (cs.getD (n - 1).toNat default) 0:=⟨_,rfl⟩;have hSp:=Is (cs.getD (n - 1).toNat default) ah;rw [<- hwl]at hSp;have hwF:=zM (l:=cs.getD (n - 1).toNat default) ah ((cs.getD (n - 1).toNat default).length +1 - 0) 0;rw [show kh (cs.getD (n - 1).toNat default) ((cs.getD (n - 1).toNat default).length +1 - 0) 0=wl from hwl.symm]at hwF;have hwlen:=hwF.1)
    refine ax<|ax<|at_<|ar (ak gO) rfl<|ar (ak (ae gP)) rfl<|ar (az (cx aa rfl o8.1) ct) rfl ?_
    refine ar (gw (ag aa) aa) rfl<|lU (ai lr) (ai lu) (ai gP) (ai lv) (ai lp) (ai lq) (ai lx) (ai gO) aa ?_;clear gO lr lu gP lv lp lq lx;intro dO cv cy b7 cz ev cB cH gQ ly
    refine ao<|bk ly (λew=>?_) (λew=>?_)
    ·replace ew:=bt ew;refine bF<|ao<|ax<|ca<|ax<|at_<|ar (ak b7) rfl<|ar (ak (ae gQ)) rfl ?_
     (refine ar (eU aa aw ?_) rfl ?_; · (unfold In64;omega))
     refine ar (az (cE o8 (ag aa) aa ah (by first|(refine dK ?_;first|omega|(simp only [dj];omega))|(refine dq ?_;first|omega|(simp only [dj];omega))|(refine nH ?_;first|omega|(simp only [dj];omega))|rfl)) dL) rfl ?_;refine ar (az (bL vv rfl aa aA) dL) rfl ?_;refine ar (bI (aG aa aN) rfl (hSp) Kr) rfl<|ar (aB aa) rfl<|lU (ae (ag (ai cv))) (ae (ag (ai cy))) (ae (ag (ai b7))) (ae (ag (ai cz))) (ae (ag (ai ev))) (ae (ag (ai cB))) (ae (ag (ai cH))) (ae (ag (ai gQ))) aa ?_;clear gQ cv cy ly b7 cz ev cB cH;intro xb lz lA lB lC lD lE lF lG gR
     refine ao<|ax<|ax<|at_<|ar (ak gR) rfl<|ar (az (cx aa rfl uO.1) ct) rfl ?_
     refine ar (dN aa aw) rfl ?_;refine Hi (ae (ag lz)) (ae (ag lA)) (ae (ag lB)) (ae (ag lC)) (ae (ag lD)) (ae (ag lE)) (ae (ag lF)) (ae (ag lG)) (ae (ag gR)) aa ?_;clear lG gR lz lA lB lC lD lE lF;intro xc e5 e6 e7 e8 e9 fa fb fc fd gS;refine ao<|bk gS (λdP=>?_) (λdP=>?_)
     ·replace dP:=bt dP
      (have hw0:wl= []:=TD ah)
      refine dJ<|cw<|dI<|ao<|at_<|ar (ak fc) rfl ?_
      (refine ar (cf aa aw ?_) rfl ?_; · (unfold In64;omega))
      refine ar (aB aa) rfl<|ik (ae (ag e5)) (ae (ag e6)) (ae (ag e7)) (ae (ag e8)) (ae (ag e9)) (ae (ag fa)) (ae (ag fb)) aa ?_;clear fc fd e5 e6 gS e7 e8 e9 fa fb;intro xd s7 s8 s9 tb tc td te tf
      refine ao<|⟨⟨_,_,_,_,_,_,_,_,_,_,_,_,_,_,_,_⟩,⟨tf,tc,td,(s7.trans dw.symm),(s8.trans dA.symm),(s9.trans dB.symm),(tb.trans dD.symm),(te.trans dF.symm),ad,aV,am,an,ap,av,aP,aT,(aZ.trans dG.symm),(af.trans dM.symm),⟨_,ab,ah⟩,?_⟩,?_⟩
      ·(exact⟨g1,g2,g3,g4,g5,g6,d1,d2,d3,d4,d5,d6,d7,d8,d9,d10,d11,d12,d13,d14,d15,ah,ah,p2.skip p0 ah (by rw [<- hwl];exact hw0)⟩)
      ·((try dsimp only);omega)
     replace dP:=bf dP
     (obtain⟨w0,ws,rfl⟩:∃ w0 ws,wl=w0::ws:=(by cases wl with|nil=>simp at dP|cons a b=>exact⟨a,b,rfl⟩);have hWB:=ta ah hwl.symm)
     refine bF<|ao<|ax<|ax<|at_<|ar (ak e9) rfl<|ar (ak (ae fd)) rfl<|ar (az (cE uO aa aw aD (by refine dK ?_;first|omega|(simp only [dj];omega))) dL) rfl ?_
     refine ar (az (cj pf rfl aa) dL) rfl ?_;refine ar (az (bL vv rfl aa aA) dL) rfl ?_;refine ar (bI (aG (ai aa) (aG aa aN)) rfl (H4 kd w0.txt (Sj hkd)) Ks) rfl<|ar (aB aa) rfl<|lU (ae (ag (ai e5))) (ae (ag (ai e6))) (ae (ag (ai e7))) (ae (ag (ai e8))) (ae (ag (ai fa))) (ae (ag (ai fb))) (ae (ag (ai fc))) (ae (ag (ai fd))) aa ?_;clear fc fd e5 e6 gS e7 e8 e9 fa fb;intro xe lH lJ lK lL lM lN lO lP gT
     refine ao<|ax<|at_<|ar (ak gT) rfl<|ar (fp aa aw) rfl<|Hi (ag lH) (ag lJ) (ag lK) (ag lL) (ag lM) (ag lN) (ag lO) (ag lP) (ag gT) aa ?_;clear lO lP gT lH lJ lK lL lM lN;intro xf ey ez gU gV gW gX fg eA gY gZ
     refine ao<|bk gZ (λc9=>?_) (λc9=>?_)
     ·replace c9:=ff c9;have hk:¬ dy kd w0.txt=0:=c9;refine ax<|iq 10 0 ab aj aj aj aj (λxg a5=>?_)
      have lQ:=bJ a5 ad;have lR:=bJ a5 aV;have lS:=bJ a5 am;have lT:=bJ a5 an;have lV:=bJ a5 ap;have lW:=bJ a5 av;have lX:=bJ a5 aP;have lY:=bJ a5 aT;have l1:=bJ a5 aZ;have g0:=bJ a5 af;have ti:_=s6:=ir (K:=0) a5 ab;clear a5 ad aV am an ap av aP aT aZ af ab;refine bg (λM_ hM_=>(cU bW nc na m9 rfl)) trivial ?_;refine bg (λM_ hM_=>(ak (ae fg))) trivial ?_;refine bg (λM_ hM_=>(ak (ag eA))) trivial ?_;refine bg (λM_ hM_=>(az (cE uO aa aw aD (by refine dK ?_;first|omega|(simp only [dj];omega))) dL)) trivial ?_;refine bg (λM_ hM_=>(az (cj qz rfl aa) dL)) trivial ?_;refine bg (λM_ hM_=>(az (bL kZ rfl aa aA) dL)) trivial ?_;refine bg (λM_ hM_=>(cU (bz (ai aa) (bz aa bW)) mi mh mg rfl)) trivial ?_;refine bg (λM_ hM_=>(ak (ae (ag (ai gY))))) trivial ?_;refine od (0) (λM_ hM_=>(mJ (ay ey) (ae (ag (ai aa))) rfl rfl (cI hM_ g0 aL) jI rfl aA)) trivial trivial trivial (λxh a6=>?_);have g7:=bo a6 g0;simp only [pS,Value.cells,Nat.reduceAdd,eJ,eo,aQ,eM,eN,eO,bG,bC,SZ]at g7;have l3:=au a6 lQ aD;have l4:=au a6 lR aD;have l5:=au a6 lS aO;have l6:=au a6 lT aO;have l7:=au a6 lV aO;have l8:=au a6 lW aO;have l9:=au a6 lX aO;have ma:=au a6 lY aO;have g8:=au a6 l1 aD;have tj:=bh a6 ti;clear a6 lQ lR lS lT lV lW lX lY l1 g0;refine od (1) (λM_ hM_=>(mJ (aE (ay ez)) (aE (ae aa)) rfl rfl (cI hM_ g8 aL) kc rfl aA)) trivial ⟨.inl b8,trivial⟩ ⟨.inl b8,trivial⟩ (λxi a7=>?_);have hh:=bo a7 g8;simp only [pS,Value.cells,Nat.reduceAdd,eJ,eo,aQ,eM,eN,eO,bG,bC,SZ]at hh;have mb:=au a7 g7 aD;have tk:=au a7 l3 aD;have tl:=au a7 l4 aD;have tm:=au a7 l5 aO;have tn:=au a7 l6 aO;have to:=au a7 l7 aO;have tp:=au a7 l8 aO;have tq:=au a7 l9 aO;have tr:=au a7 ma aO;have tt:=bh a7 tj;clear a7 g7 l3 l4 l5 l6 l7 l8 l9 ma g8;refine iD rfl ?_;refine ar (aB (aE (aE aa))) rfl<|bB (ae (aE (aE (ay ey)))) (ae (aE (aE (ay ez)))) aa ?_;clear fg eA gY ey ez gU gZ gV gW gX;intro xj mc md me
      refine ao<|bm<|bw<|cD<|bw<|bw<|cD<|bw<|mm bp aj (dz mc mb mL aA aL) (dz md hh o9 aA aL) (aR me) (eh (k9 (cQ (.ro _ rfl) (cQ (.nil 4) (cQ (.nil 2) (cQ (.nil 3) gG)))))) (eh (.ro _ rfl)) (.ro _ rfl) ?_
      clear mc md me hh mb tk tl tm tn to tp tq tr tt
      (rw [p2.RI p0 ah hwl.symm hk];rfl)
     replace c9:=eY c9;have hk:dy kd w0.txt=0:=c9;refine bF<|ao<|ax<|at_<|ar (ak eA) rfl<|ar (az (cE uO aa aw aD (by refine dK ?_;first|omega|(simp only [dj];omega))) dL) rfl ?_
     refine ar (az (cj pf rfl aa) dL) rfl ?_;refine ar (az (bL vv rfl aa aA) dL) rfl ?_;refine ar (aB aa) rfl<|lU (ae (ai ey)) (ae (ai ez)) (ae (ai gU)) (ae (ai gV)) aa (ae (ai gW)) (ae (ai gX)) (ae (ai fg)) (ae (ai eA)) ?_;clear fg eA gY ey ez gU gZ gV gW gX;intro xk mj ml mn mo hv mq mr mu mv
     refine ao<|ax<|at_<|ar (ak hv) rfl<|ar (ak (ae mv)) rfl<|ar (bI (aG (ae aa) (aG aa aN)) rfl ((I5 w0.txt w0 ws hWB.1).mono (λq h=>h.trans (RG _ _ _))) Kt) rfl ?_
     refine ar (ak aa) rfl<|ar (cF aa rfl) rfl<|ar (cF (ae aa) rfl) rfl<|ar (cF (ag aa) rfl) rfl<|ar (cF (ae (ag aa)) rfl) rfl<|ar (aB (ae (ag aa))) rfl<|ar (aB (ae (ag aa))) rfl<|ar (aB (ae (ag aa))) rfl<|ar (aB (ae (ag aa))) rfl<|pN (ai (ay mj)) (ai (ay ml)) (ai (ay mn)) (ai (ay mo)) (ai (ay hv)) (ai (ay mq)) (ai (ay mr)) (ai (ay mu)) (ae (ag aa)) (ag aa) (ae aa) aa ?_;clear mu mv mj ml mn mo hv mq mr;intro xl mw mx my mz mA mB mC mD mE mF mG hD
     refine ao<|ax<|ax<|at_<|ar (ak hD) rfl<|ar (fp aa aw) rfl<|Hj (ag mw) (ag mx) (ag my) (ag mz) (ag mA) (ag mB) (ag mC) (ag mD) (ag mE) (ag mF) (ag mG) (ag hD) aa ?_;clear mD mE mF mG hD mw mx my mz mA mB mC;intro xm eB eC hE hF fh hG hH fi hI hJ hK hM hN
     refine ao<|bk hN (λda=>?_) (λda=>?_)
     ·replace da:=ff da;have hb:¬ (de w0.txt w0 ws).2=0:=da;refine ax<|at_<|ar (cU bW nc na m9 rfl) rfl ?_
      refine ar (ak (ae fi)) rfl<|ar (ak (ag hK)) rfl<|ar (cU (bz (ae aa) (bz aa bW)) mi mh mg rfl) rfl ?_
      refine ar (ak (ai hM)) rfl<|aM (bV (ae (ai eB)) (ai aa) rfl rfl af jI rfl aA) trivial rfl (λxn a8=>?_)
      have hO:=bo a8 af;simp only [pS,Value.cells,Nat.reduceAdd,eJ,eo,aQ,eM,eN,eO,bG,bC,SZ]at hO;have mH:=au a8 ad aD;have mI:=au a8 aV aD;have mK:=au a8 am aO;have mM:=au a8 an aO;have mN:=au a8 ap aO;have mO:=au a8 av aO;have mP:=au a8 aP aO;have mQ:=au a8 aT aO;have hP:=au a8 aZ aD;have tu:=bh a8 ab;clear a8 ad aV am an ap av aP aT aZ af;refine aM (bV (aE (ae (ai eC))) (aE (ae aa)) rfl rfl hP kc rfl aA) trivial rfl (λxp a9=>?_);have hQ:=bo a9 hP;simp only [pS,Value.cells,Nat.reduceAdd,eJ,eo,aQ,eM,eN,eO,bG,bC,SZ]at hQ;have mR:=au a9 hO aD;have tv:=au a9 mH aD;have tw:=au a9 mI aD;have tz:=au a9 mK aO;have tA:=au a9 mM aO;have tB:=au a9 mN aO;have tC:=au a9 mO aO;have tE:=au a9 mP aO;have tF:=au a9 mQ aO;have tH:=bh a9 tu;clear a9 hO mH mI mK mM mN mO mP mQ hP;refine ar (aB (aE (aE aa))) rfl<|bB (ae (aE (aE (ae (ai eB))))) (ae (aE (aE (ae (ai eC))))) aa ?_;clear fi hI hJ hK hM eB eC hE hF fh hN hG hH;intro xq mS mT mU
      refine ao<|bm<|bw<|cD<|bw<|bw<|cD<|bw<|mm bp aj (dz mS mR mL aA aL) (dz mT hQ o9 aA aL) (aR mU) (eh (k9 (cQ (.ro _ rfl) (cQ (.nil 4) (cQ (.nil 2) (cQ (.nil 3) gG)))))) (eh (.ro _ rfl)) (.ro _ rfl) ?_
      clear mS mT mU hQ mR tv tw tz tA tB tC tE tF tH
      (rw [p2.RJ p0 ah hwl.symm hk hb];rfl)
     replace da:=eY da;have hb:(de w0.txt w0 ws).2=0:=da;refine bF<|ao<|ax<|at_<|ar (ak fh) rfl<|tg (ae eB) (ae eC) (ae hE) (ae hF) (ae fh) (ae hG) (ae hH) (ae fi) (ae hI) (ae hJ) aa ?_;clear fi hI hJ hK hM eB eC hE hF fh hN hG hH;intro xr mV mW mX mY mZ m0 m1 m2 m3 m4 hS
     refine ao<|ca<|ax<|at_<|ar (cX hS aw) rfl<|ar (aB aa) rfl<|pN (ag mV) (ag mW) (ag mX) (ag mY) (ag mZ) (ag m0) (ag m1) (ag m2) (ag m3) (ag m4) (ag hS) aa ?_;clear m2 m3 m4 mV mW mX mY mZ hS m0 m1;intro xt fl fm fo eD fq hU fs ft fu hV fw hW
     refine ao<|bk hW (λhY=>?_) (λhY=>?_)
     ·skip
      (have hx:w0.txt=bj:=fB.1 (show aS w0.txt bj=true from hY);have hst:=p2.line p0 ah hwl.symm hWB.1 hk hb hx)
      refine ax<|at_<|ar (ak fu) rfl<|ar (aJ qy rfl (ae eD)) rfl<|aM (bV aa (ae aa) rfl rfl ad ou rfl aA) trivial rfl (λxu ba=>?_)
      have m5:=bo ba ad;simp only [pS,Value.cells,Nat.reduceAdd,eJ,eo,aQ,eM,eN,eO,bG,bC,SZ]at m5;have tI:=au ba aV aD;have tJ:=au ba am aO;have tK:=au ba an aO;have tL:=au ba ap aO;have tM:=au ba av aO;have tN:=au ba aP aO;have tO:=au ba aT aO;have tP:=au ba aZ aD;have tQ:=au ba af aD;have tR:=bh ba ab;clear ba ad aV am an ap av aP aT aZ af;refine fe (aE (ag fl)) (aE (ag fm)) (aE (ag fo)) (aE (ag eD)) (aE (ag fq)) (aE (ag fs)) (aE (ag ft)) ?_;clear ft fu hV fl fm fo eD fq fw hU hW fs;intro xv m6 m7 m8 nb nd nf hZ;refine ao<|at_<|ar (ak hZ) rfl<|ar (aB aa) rfl<|ik (ag m6) (ag m7) (ag m8) (ag nb) (ag nd) aa (ag nf) (ag hZ) ?_;clear hZ m6 m7 m8 nb nd nf;intro xw ng nh ni nj nl nn np nq
      refine cG<|cG<|ao<|at_<|ar (ak nq) rfl ?_
      (refine ar (cf aa aw ?_) rfl ?_; · (unfold In64;omega))
      refine ar (aB aa) rfl<|ik (ae (ag ng)) (ae (ag nh)) (ae (ag ni)) (ae (ag nj)) (ae (ag nl)) (ae (ag nn)) (ae (ag np)) aa ?_;clear nq ng nh ni nj nl nn np;intro xx tS tT tU tV tW tX tY tZ
      refine ao<|⟨⟨_,_,_,_,_,_,_,_,_,_,_,_,_,_,_,_⟩,⟨tZ,tW,tX,(tS.trans dw.symm),(tT.trans dA.symm),(tU.trans dB.symm),(tV.trans dD.symm),(tY.trans dF.symm),m5,tI,tJ,tK,tL,tM,tN,tO,(tP.trans dG.symm),(tQ.trans dM.symm),⟨_,tR,ah⟩,?_⟩,?_⟩
      ·(exact⟨g1,g2,g3,g4,g5,g6,d1,d2,d3,d4,d5,d6,d7,d8,d9,d10,d11,d12,d13,d14,d15,ah,ah,hst⟩)
      ·((try dsimp only);omega)
     have nx1:aS w0.txt bj=false:=hY;refine ax<|at_<|ar (cX fw aw) rfl<|ar (aB aa) rfl<|pN (ag fl) (ag fm) (ag fo) (ag eD) (ag fq) (ag hU) (ag fs) (ag ft) (ag fu) (ag hV) (ag fw) aa ?_;clear ft fu hV fl fm fo eD fq fw hU hW fs;intro xy fx fy fz dQ fA fC fD fE h6 db fF h7
     refine ao<|bk h7 (λh8=>?_) (λh8=>?_)
     ·skip
      (have hx:w0.txt=bc:=fB.1 (show aS w0.txt bc=true from h8);obtain⟨hst,hlen⟩:=p2.RL p0 ah hwl.symm hWB.1 hk hb hx)
      refine ax<|eu 17 aj aj aj aj ?_
      refine dr (aJ fk rfl dQ) rfl<|dr (az (aK Np rfl ad aa aA) dL) rfl ?_
      refine dr (ak (ag db)) rfl<|dr (az (cE jo aa aw aD (by refine dK ?_;first|omega|(simp only [dj];omega))) dL) rfl ?_
      refine dr (az (bL kZ rfl aa aA) dL) rfl ?_;refine dr (ak (ae (ai db))) rfl<|dr (az (cE jo aa aw aD (by refine dK ?_;first|omega|(simp only [dj];omega))) dL) rfl ?_
      refine dr (az (bL kZ rfl aa aA) dL) rfl ?_;refine dr (ak (ay db)) rfl<|dr (az (cE jo aa aw aD (by refine dK ?_;first|omega|(simp only [dj];omega))) dL) rfl ?_
      refine dr (az (bL kZ rfl aa aA) dL) rfl ?_;refine dr (ak (ae (ag (ay db)))) rfl<|dr (az (cE jo aa aw aD (by refine dK ?_;first|omega|(simp only [dj];omega))) dL) rfl ?_
      refine dr (az (bL kZ rfl aa aA) dL) rfl ?_;refine dr (cU (bz (ae (ag aa)) (bz aa bW)) sW sV sU rfl) rfl ?_;refine dr (cU (bz (ag (ay aa)) (bz (ae (ag (ai aa))) (bz aa bW))) wi we wa rfl) rfl ?_;refine dr (ep DD (bz aa bW) rfl rfl rfl rfl) rfl<|dE<|aM (ib DD rfl ab am (ae (ag (ai (ay aa)))) aa dY dC) trivial rfl (λxz bb=>?_)
      have fG:=iY bb ab;simp only [pS,Value.cells,Nat.reduceAdd,eJ,eo,aQ,eM,eN,eO,bG,bC,SZ]at fG;have h9:=cC bb ad aO;have nr:=cC bb aV aO;have ns:=cC bb an aO;have nt:=cC bb ap aO;have nu:=cC bb av aO;have nv:=cC bb aP aO;have nw:=cC bb aT aO;have nx:=cC bb aZ aO;have ny:=cC bb af aO;have ua:=iT bb ab;clear bb ad aV am an ap av aP aT aZ af;refine ar (aJ fk rfl (ag (aH dQ))) rfl<|aM (kR aa (ae aa) h9 fG GK aA) trivial rfl (λxA be=>?_)
      have ia:=bo be h9;simp only [pS,Value.cells,Nat.reduceAdd,eJ,eo,aQ,eM,eN,eO,bG,bC,SZ]at ia;have nz:=au be fG aO;have ic:=au be nr aD;have nA:=au be ns aO;have nB:=au be nt aO;have nC:=au be nu aO;have nD:=au be nv aO;have nE:=au be nw aO;have nF:=au be nx aD;have nG:=au be ny aD;have ie:=bh be ua;clear be fG h9 nr ns nt nu nv nw nx ny;refine ik (aE (ae (ag (aH fx)))) (aE (ae (ag (aH fy)))) (aE (ae (ag (aH fz)))) (aE (ae (ag (aH dQ)))) (aE (ae (ag (aH fA)))) (aE (ae (ag (aH fC)))) (aE (ae (ag (aH fD)))) (aE (ae (ag (aH fE)))) ?_;clear fE h6 db fx fy fz dQ fA fF fC h7 fD;intro xB nI nJ nK nL nM nN fH ig;refine ao<|at_<|ar (lI o7 fH aw rfl) rfl<|ar (az (aK uP rfl ic aa aA) dL) rfl ?_
      refine ar (ak (ag ig)) rfl<|ar (ep jo (bz aa bW) rfl rfl rfl rfl) rfl<|aM (ib jo rfl ie nC (ag aa) aa dY dC) trivial rfl (λxC bn=>?_)
      have fI:=iY bn ie;simp only [pS,Value.cells,Nat.reduceAdd,eJ,eo,aQ,eM,eN,eO,bG,bC,SZ]at fI;have nO:=cC bn ia aO;have nP:=cC bn nz aO;have ih:=cC bn ic aO;have nQ:=cC bn nA aO;have nR:=cC bn nB aO;have nS:=cC bn nD aO;have nT:=cC bn nE aO;have nU:=cC bn nF aO;have nV:=cC bn nG aO;have ub:=iT bn ie;clear bn ia nz ic nA nB nC nD nE nF nG;refine ar (lI o7 (ae (ai fH)) aw rfl) rfl<|aM (kR aa (ae aa) ih fI rf aA) trivial rfl (λxD bv=>?_)
      have nW:=bo bv ih;simp only [pS,Value.cells,Nat.reduceAdd,eJ,eo,aQ,eM,eN,eO,bG,bC,SZ]at nW;have uc:=au bv fI aO;have ud:=au bv nO aD;have ue:=au bv nP aO;have uf:=au bv nQ aO;have ug:=au bv nR aO;have uh:=au bv nS aO;have ui:=au bv nT aO;have uj:=au bv nU aD;have uk:=au bv nV aD;have ul:=bh bv ub;clear bv fI nO nP ih nQ nR nS nT nU nV;refine ik (aE (ag (ai nI))) (aE (ag (ai nJ))) (aE (ag (ai nK))) (aE (ag (ai nL))) (aE (ag (ai nM))) (aE (ag (ai nN))) (aE (ag (ai fH))) (aE (ag (ai ig))) ?_;clear ig nI nJ nK nL nM nN fH;intro xE nX nY nZ n1 n2 n5 n6 n7;refine cG<|cG<|ao<|at_<|ar (ak n7) rfl ?_
      (refine ar (cf aa aw ?_) rfl ?_; · (unfold In64;omega))
      refine ar (aB aa) rfl<|ik (ae (ag nX)) (ae (ag nY)) (ae (ag nZ)) (ae (ag n1)) (ae (ag n2)) (ae (ag n5)) (ae (ag n6)) aa ?_;clear n7 nX nY nZ n1 n2 n5 n6;intro xF um uo uq ur ut uu uv uw
      refine ao<|⟨⟨_,_,_,_,_,_,_,_,_,_,_,_,_,_,_,_⟩,⟨uw,ut,uu,(um.trans dw.symm),(uo.trans dA.symm),(uq.trans dB.symm),(ur.trans dD.symm),(uv.trans dF.symm),ud,nW,ue,uf,ug,uc,uh,ui,(uj.trans dG.symm),(uk.trans dM.symm),⟨_,ul,ah⟩,?_⟩,?_⟩
      ·(refine⟨?_,?_,?_,?_,?_,?_,?_,?_,?_,?_,?_,?_,?_,?_,?_,?_,?_,?_,?_,?_,?_,ah,ah,hst⟩<;>(first|(with_reducible assumption)|exact wH ah|exact wI ah|omega))
      ·((try dsimp only);omega)
     have nx2:aS w0.txt bc=false:=h8;refine ax<|at_<|ar (cX fF aw) rfl<|ar (aB aa) rfl<|pN (ag fx) (ag fy) (ag fz) (ag dQ) (ag fA) (ag fC) (ag fD) (ag fE) (ag h6) (ag db) (ag fF) aa ?_;clear fE h6 db fx fy fz dQ fA fF fC h7 fD;intro xG fJ fK fL dR fN fQ fT fU ij eG il im
     refine ao<|bk im (λio=>?_) (λio=>?_)
     ·skip
      (have hx:w0.txt=aU:=fB.1 (show aS w0.txt aU=true from io);obtain⟨hst,hlen⟩:=p2.Sl p0 ah hwl.symm hWB.1 hk hb hx)
      refine ax<|eu 10 aj aj aj aj ?_
      refine dr (aJ eK rfl dR) rfl<|dr (az (aK Nq rfl ad aa aA) dL) rfl ?_
      refine dr (ak (ag eG)) rfl<|dr (az (cE jo aa aw aD (by refine dK ?_;first|omega|(simp only [dj];omega))) dL) rfl ?_
      refine dr (az (bL kZ rfl aa aA) dL) rfl ?_;refine dr (ak (ae (ai eG))) rfl<|dr (az (cE jo aa aw aD (by refine dK ?_;first|omega|(simp only [dj];omega))) dL) rfl ?_
      refine dr (az (bL kZ rfl aa aA) dL) rfl ?_;refine dr (cU (bz (ae (ag aa)) (bz aa bW)) wj wh wc rfl) rfl ?_;refine dr (ep DF (bz aa bW) rfl rfl rfl rfl) rfl<|dE<|aM (ib DF rfl ab an (ay aa) aa dY dC) trivial rfl (λxH bx=>?_)
      have fV:=iY bx ab;simp only [pS,Value.cells,Nat.reduceAdd,eJ,eo,aQ,eM,eN,eO,bG,bC,SZ]at fV;have ip:=cC bx ad aO;have n8:=cC bx aV aO;have n9:=cC bx am aO;have oa:=cC bx ap aO;have ob:=cC bx av aO;have oc:=cC bx aP aO;have oe:=cC bx aT aO;have og:=cC bx aZ aO;have oh:=cC bx af aO;have ux:=iT bx ab;clear bx ad aV am an ap av aP aT aZ af;refine ar (aJ eK rfl (ae (ag (ay dR)))) rfl<|aM (kR aa (ae aa) ip fV GL aA) trivial rfl (λxI bA=>?_)
      have iu:=bo bA ip;simp only [pS,Value.cells,Nat.reduceAdd,eJ,eo,aQ,eM,eN,eO,bG,bC,SZ]at iu;have oj:=au bA fV aO;have iv:=au bA n8 aD;have ol:=au bA n9 aO;have oo:=au bA oa aO;have oq:=au bA ob aO;have ot:=au bA oc aO;have ov:=au bA oe aO;have ow:=au bA og aD;have ox:=au bA oh aD;have ix:=bh bA ux;clear bA fV ip n8 n9 oa ob oc oe og oh;refine ik (aE (ai (ay fJ))) (aE (ai (ay fK))) (aE (ai (ay fL))) (aE (ai (ay dR))) (aE (ai (ay fN))) (aE (ai (ay fQ))) (aE (ai (ay fT))) (aE (ai (ay fU))) ?_;clear fU im ij eG fJ fK fL dR fN il fQ fT;intro xJ oy oz oA oB oC oD fW iy;refine ao<|at_<|ar (lI o7 fW aw rfl) rfl<|ar (az (aK uP rfl iv aa aA) dL) rfl ?_
      refine ar (ak (ag iy)) rfl<|ar (ep jo (bz aa bW) rfl rfl rfl rfl) rfl<|aM (ib jo rfl ix ot (ag aa) aa dY dC) trivial rfl (λxK bD=>?_)
      have fX:=iY bD ix;simp only [pS,Value.cells,Nat.reduceAdd,eJ,eo,aQ,eM,eN,eO,bG,bC,SZ]at fX;have oE:=cC bD iu aO;have oF:=cC bD oj aO;have iz:=cC bD iv aO;have oG:=cC bD ol aO;have oH:=cC bD oo aO;have oI:=cC bD oq aO;have oJ:=cC bD ov aO;have oK:=cC bD ow aO;have oL:=cC bD ox aO;have uy:=iT bD ix;clear bD iu oj iv ol oo oq ot ov ow ox;refine ar (lI o7 (ae (ai fW)) aw rfl) rfl<|aM (kR aa (ae aa) iz fX rf aA) trivial rfl (λxL bE=>?_)
      have oM:=bo bE iz;simp only [pS,Value.cells,Nat.reduceAdd,eJ,eo,aQ,eM,eN,eO,bG,bC,SZ]at oM;have uz:=au bE fX aO;have uA:=au bE oE aD;have uB:=au bE oF aO;have uC:=au bE oG aO;have uD:=au bE oH aO;have uE:=au bE oI aO;have uF:=au bE oJ aO;have uG:=au bE oK aD;have uH:=au bE oL aD;have uI:=bh bE uy;clear bE fX oE oF iz oG oH oI oJ oK oL;refine ik (aE (ag (ai oy))) (aE (ag (ai oz))) (aE (ag (ai oA))) (aE (ag (ai oB))) (aE (ag (ai oC))) (aE (ag (ai oD))) (aE (ag (ai fW))) (aE (ag (ai iy))) ?_;clear iy oy oz oA oB oC oD fW;intro xM oN oO oP oQ oS oT oU oV;refine cG<|cG<|ao<|at_<|ar (ak oV) rfl ?_
      (refine ar (cf aa aw ?_) rfl ?_; · (unfold In64;omega))
      refine ar (aB aa) rfl<|ik (ae (ag oN)) (ae (ag oO)) (ae (ag oP)) (ae (ag oQ)) (ae (ag oS)) (ae (ag oT)) (ae (ag oU)) aa ?_;clear oV oN oO oP oQ oS oT oU;intro xN uJ uK uL uM uN uQ uR uS
      refine ao<|⟨⟨_,_,_,_,_,_,_,_,_,_,_,_,_,_,_,_⟩,⟨uS,uN,uQ,(uJ.trans dw.symm),(uK.trans dA.symm),(uL.trans dB.symm),(uM.trans dD.symm),(uR.trans dF.symm),uA,oM,uC,uB,uD,uE,uz,uF,(uG.trans dG.symm),(uH.trans dM.symm),⟨_,uI,ah⟩,?_⟩,?_⟩
      ·(refine⟨?_,?_,?_,?_,?_,?_,?_,?_,?_,?_,?_,?_,?_,?_,?_,?_,?_,?_,?_,?_,?_,ah,ah,hst⟩<;>(first|(with_reducible assumption)|exact wH ah|exact wI ah|omega))
      ·((try dsimp only);omega)
     have nx3:aS w0.txt aU=false:=io;refine ax<|at_<|ar (cX il aw) rfl<|ar (aB aa) rfl<|tg (ag fJ) (ag fK) (ag fL) (ag dR) (ag fN) (ag fQ) (ag fT) (ag fU) (ag ij) (ag eG) aa ?_;clear fU im ij eG fJ fK fL dR fN il fQ fT;intro xO oW oX oY fY oZ o0 o1 o3 o4 iA o5
     refine ao<|bk o5 (λiB=>?_) (λiB=>?_)
     ·skip
      (have hx:w0.txt=aX:=fB.1 (show aS w0.txt aX=true from iB);obtain⟨hst,hlen⟩:=p2.switch p0 ah hwl.symm hWB.1 hk hb hx)
      refine ax<|eu 10 aj aj aj aj ?_
      refine dr (aJ gu rfl fY) rfl<|dr (az (aK Nr rfl ad aa aA) dL) rfl ?_
      refine dr (ak (ag o4)) rfl<|dr (ak (ae (ag iA))) rfl<|dr (az (cE jo aa aw aD (by refine dK ?_;first|omega|(simp only [dj];omega))) dL) rfl ?_
      refine dr (az (bL kZ rfl aa aA) dL) rfl ?_;refine dr (ak (ag (ai iA))) rfl<|dr (F4 jo aa aw aD dC) rfl ?_
      refine dr (cU (bz (ae (ai aa)) (bz (ag aa) (bz aa bW))) GI GH GG rfl) rfl ?_;refine dr (ep DG (bz aa bW) rfl rfl rfl rfl) rfl<|dE<|aM (ib DG rfl ab ap (ay aa) aa dY dC) trivial rfl (λxP bH=>?_)
      have f0:=iY bH ab;simp only [pS,Value.cells,Nat.reduceAdd,eJ,eo,aQ,eM,eN,eO,bG,bC,SZ]at f0;have iC:=cC bH ad aO;have o6:=cC bH aV aO;have pa:=cC bH am aO;have pc:=cC bH an aO;have pd:=cC bH av aO;have pe:=cC bH aP aO;have pg:=cC bH aT aO;have ph:=cC bH aZ aO;have pi:=cC bH af aO;have uT:=iT bH ab;clear bH ad aV am an ap av aP aT aZ af;refine ar (aJ gu rfl (ae (ag (ay fY)))) rfl<|aM (kR aa (ae aa) iC f0 GM aA) trivial rfl (λxQ bM=>?_)
      have iF:=bo bM iC;simp only [pS,Value.cells,Nat.reduceAdd,eJ,eo,aQ,eM,eN,eO,bG,bC,SZ]at iF;have pj:=au bM f0 aO;have iG:=au bM o6 aD;have pk:=au bM pa aO;have pm:=au bM pc aO;have pn:=au bM pd aO;have po:=au bM pe aO;have pq:=au bM pg aO;have pr:=au bM ph aD;have pt:=au bM pi aD;have iH:=bh bM uT;clear bM f0 iC o6 pa pc pd pe pg ph pi;refine ik (aE (ai (ay oW))) (aE (ai (ay oX))) (aE (ai (ay oY))) (aE (ai (ay fY))) (aE (ai (ay oZ))) (aE (ai (ay o0))) (aE (ai (ay o1))) (aE (ai (ay o3))) ?_;clear o3 o4 o5 iA oW oX oY fY oZ o0 o1;intro xR pu pv pw px py pz ga iI;refine ao<|at_<|ar (lI o7 ga aw rfl) rfl<|ar (az (aK uP rfl iG aa aA) dL) rfl ?_
      refine ar (ak (ag iI)) rfl<|ar (ep jo (bz aa bW) rfl rfl rfl rfl) rfl<|aM (ib jo rfl iH pq (ag aa) aa dY dC) trivial rfl (λxS bN=>?_)
      have gb:=iY bN iH;simp only [pS,Value.cells,Nat.reduceAdd,eJ,eo,aQ,eM,eN,eO,bG,bC,SZ]at gb;have pA:=cC bN iF aO;have pB:=cC bN pj aO;have iJ:=cC bN iG aO;have pC:=cC bN pk aO;have pD:=cC bN pm aO;have pE:=cC bN pn aO;have pF:=cC bN po aO;have pG:=cC bN pr aO;have pH:=cC bN pt aO;have uU:=iT bN iH;clear bN iF pj iG pk pm pn po pq pr pt;refine ar (lI o7 (ae (ai ga)) aw rfl) rfl<|aM (kR aa (ae aa) iJ gb rf aA) trivial rfl (λxT bP=>?_)
      have pI:=bo bP iJ;simp only [pS,Value.cells,Nat.reduceAdd,eJ,eo,aQ,eM,eN,eO,bG,bC,SZ]at pI;have uV:=au bP gb aO;have uW:=au bP pA aD;have uX:=au bP pB aO;have uY:=au bP pC aO;have uZ:=au bP pD aO;have u0:=au bP pE aO;have u1:=au bP pF aO;have u2:=au bP pG aD;have u3:=au bP pH aD;have u4:=bh bP uU;clear bP gb pA pB iJ pC pD pE pF pG pH;refine ik (aE (ag (ai pu))) (aE (ag (ai pv))) (aE (ag (ai pw))) (aE (ag (ai px))) (aE (ag (ai py))) (aE (ag (ai pz))) (aE (ag (ai ga))) (aE (ag (ai iI))) ?_;clear iI pu pv pw px py pz ga;intro xU pJ pK pM pO pP pQ pR pT;refine cG<|cG<|ao<|at_<|ar (ak pT) rfl ?_
      (refine ar (cf aa aw ?_) rfl ?_; · (unfold In64;omega))
      refine ar (aB aa) rfl<|ik (ae (ag pJ)) (ae (ag pK)) (ae (ag pM)) (ae (ag pO)) (ae (ag pP)) (ae (ag pQ)) (ae (ag pR)) aa ?_;clear pT pJ pK pM pO pP pQ pR;intro xV u5 u6 u7 u9 va vb vc vd
      refine ao<|⟨⟨_,_,_,_,_,_,_,_,_,_,_,_,_,_,_,_⟩,⟨vd,va,vb,(u5.trans dw.symm),(u6.trans dA.symm),(u7.trans dB.symm),(u9.trans dD.symm),(vc.trans dF.symm),uW,pI,uY,uZ,uX,u0,u1,uV,(u2.trans dG.symm),(u3.trans dM.symm),⟨_,u4,ah⟩,?_⟩,?_⟩
      ·(refine⟨?_,?_,?_,?_,?_,?_,?_,?_,?_,?_,?_,?_,?_,?_,?_,?_,?_,?_,?_,?_,?_,ah,ah,hst⟩<;>(first|(with_reducible assumption)|exact wH ah|exact wI ah|omega))
      ·((try dsimp only);omega)
     ·(exfalso;have nx4:aS w0.txt aX=false:=iB;rcases Q3 hk with h_|h_|h_|h_;exact absurd (h_.symm.trans nx1) aD;exact absurd (h_.symm.trans nx2) aD;exact absurd (h_.symm.trans nx3) aD;exact absurd (h_.symm.trans nx4) aD)
    replace ew:=bf ew;refine dJ<|cw<|cw<|dI<|ao<|ax<|ax<|fZ (λe mem=>(al e (.tmp 171)= .v (.bool (aS kd ⟨#[]⟩||aS kd bj||aS kd aU)))/\(al e (.tmp 2)=al dO (.tmp 2))/\(al e (.tmp 3)=al dO (.tmp 3))/\(al e (.tmp 5)=al dO (.tmp 5))/\(al e (.tmp 6)=al dO (.tmp 6))/\(al e (.tmp 8)=al dO (.tmp 8))/\(al e (.tmp 9)=al dO (.tmp 9))/\sS=mem) ?_ ?_
    ·
     refine at_<|ar (ak ev) rfl<|ar (cX aa aw) rfl<|ar (ak aa) rfl<|bK aa (λdc ve=>?_) (λdc ve=>?_)
     ·skip;refine aC ⟨_,rfl,.inl dc⟩ rfl ?_;refine aC ⟨_,rfl,.inl (ae dc)⟩ rfl ?_;refine ar (bq (ag dc) aw) rfl<|ar (ak aa) rfl<|aC ⟨_,rfl,.inl aa⟩ rfl ?_
      refine aC ⟨_,rfl,.inl (ae aa)⟩ rfl ?_;refine ar (bq (ag aa) aw) rfl<|fe (ag (ay cv)) (ag (ay cy)) (ag (ay b7)) (ag (ay cz)) (ag (ay cB)) (ag (ay cH)) aa ?_;intro xX vf vg vh vi vj vk vl
      refine ao ⟨(vl).trans zo,(vf).trans (cv).symm,(vg).trans (cy).symm,(vh).trans (b7).symm,(vi).trans (cz).symm,(vj).trans (cB).symm,(vk).trans (cH).symm,rfl⟩
     refine aF (ak (ae (ag ev))) ⟨_,rfl,dc⟩ rfl ?_;refine aF (cX aa aw) ⟨_,rfl,(ae dc)⟩ rfl ?_;refine ar (br (ag dc) aa) rfl<|ar (ak aa) rfl<|bK aa (λdd vm=>?_) (λdd vm=>?_)
     ·skip;refine aC ⟨_,rfl,.inl dd⟩ rfl ?_;refine aC ⟨_,rfl,.inl (ae dd)⟩ rfl ?_;refine ar (bq (ag dd) aw) rfl<|fe (ag (ay cv)) (ag (ay cy)) (ag (ay b7)) (ag (ay cz)) (ag (ay cB)) (ag (ay cH)) aa ?_;intro xY vn vo vp vq vr vt vu
      refine ao ⟨(vu).trans zo,(vn).trans (cv).symm,(vo).trans (cy).symm,(vp).trans (b7).symm,(vq).trans (cz).symm,(vr).trans (cB).symm,(vt).trans (cH).symm,rfl⟩
     refine aF (ak (ae (ag (ai ev)))) ⟨_,rfl,dd⟩ rfl ?_;refine aF (cX aa aw) ⟨_,rfl,(ae dd)⟩ rfl ?_;refine ar (br (ag dd) aa) rfl<|fe (ag (ay cv)) (ag (ay cy)) (ag (ay b7)) (ag (ay cz)) (ag (ay cB)) (ag (ay cH)) aa ?_;intro xZ vw vx vy vz vA vB vC
     refine ao ⟨(vC).trans zo,(vw).trans (cv).symm,(vx).trans (cy).symm,(vy).trans (b7).symm,(vz).trans (cz).symm,(vA).trans (cB).symm,(vB).trans (cH).symm,rfl⟩
    ·rintro x0 _ ⟨iK,vD,vE,vF,vG,vH,vI,rfl⟩;have eH:=vD.trans cv;have eI:=vE.trans cy;have iL:=vF.trans b7;have gc:=vG.trans cz;have iM:=vH.trans cB;have iN:=vI.trans cH;refine bk iK (λiO=>?_) (λiO=>?_)
     ·skip
      (have hA:kd=⟨#[]⟩\/kd=bj\/kd=aU:=(by have h_:=iO;simp only [TJ,fB,or_assoc]at h_;exact h_))
      refine ax<|at_<|ar (cU bW nc na m9 rfl) rfl ?_
      refine ar (ak (ae iL)) rfl<|ar (az (cx aa rfl o8.1) ct) rfl ?_
      (refine ar (cf aa aw ?_) rfl ?_; · (unfold In64;omega))
      refine ar (cU (bz aa (bz aw bW)) mi mh mg rfl) rfl ?_;refine aM (bV (ae (ai eH)) (ai aa) rfl rfl af jI rfl aA) trivial rfl (λx1 bQ=>?_);have iP:=bo bQ af;simp only [pS,Value.cells,Nat.reduceAdd,eJ,eo,aQ,eM,eN,eO,bG,bC,SZ]at iP;have pU:=au bQ ad aD;have pV:=au bQ aV aD;have pW:=au bQ am aO;have pX:=au bQ an aO;have pY:=au bQ ap aO;have pZ:=au bQ av aO;have p7:=au bQ aP aO;have p8:=au bQ aT aO;have iQ:=au bQ aZ aD;have vJ:=bh bQ ab;clear bQ ad aV am an ap av aP aT aZ af;refine aM (bV (aE (ae (ai eI))) (aE aa) rfl rfl iQ kc rfl aA) trivial rfl (λx2 bU=>?_);have iS:=bo bU iQ;simp only [pS,Value.cells,Nat.reduceAdd,eJ,eo,aQ,eM,eN,eO,bG,bC,SZ]at iS;have p9:=au bU iP aD;have vK:=au bU pU aD;have vL:=au bU pV aD;have vM:=au bU pW aO;have vN:=au bU pX aO;have vO:=au bU pY aO;have vP:=au bU pZ aO;have vQ:=au bU p7 aO;have vR:=au bU p8 aO;have vS:=bh bU vJ;clear bU iP pU pV pW pX pY pZ p7 p8 iQ;refine ar (aB aw) rfl<|bB (ae (aE (aE (ae (ai eH))))) (ae (aE (aE (ae (ai eI))))) aa ?_;clear iK eH eI iL gc iM iN;intro x3 qa qb qc
      refine ao<|bm<|bw<|mm bp aj (dz qa p9 mL aA aL) (dz qb iS o9 aA aL) (aR qc) (eh (k9 (cQ (.ro _ rfl) (cQ (.nil 4) (cQ (.nil 2) (cQ (.nil 3) gG)))))) (eh (.ro _ rfl)) (.ro _ rfl) ?_
      clear qa qb qc iS p9 vK vL vM vN vO vP vQ vR vS
      (rw [p2.Sm ah hA];rfl)
     (have hA:¬ (kd=⟨#[]⟩\/kd=bj\/kd=aU):=(by rintro h_;have h2_:=iO;rcases h_ with h_|h_|h_<;>rw [h_]at h2_<;>simp [fj]at h2_);obtain⟨hF0,hF1⟩:=p2.Sr ah (λh_=>hA (.inl h_)) (λh_=>hA (.inr (.inl h_))) (λh_=>hA (.inr (.inr h_))))
     refine bF<|ao<|ax<|ax<|oR 1 ad am aO rfl (λx4 b1=>?_)
     have gd:=bo b1 (au rfl ad aO);simp only [TA,Tu]at gd;have qd:=au b1 (au rfl aV aO) aD;have qe:=au b1 (au rfl an aO) aO;have qf:=au b1 (au rfl ap aO) aO;have qh:=au b1 (au rfl av aO) aO;have qi:=au b1 (au rfl aP aO) aO;have qj:=au b1 (au rfl aT aO) aO;have qk:=au b1 (au rfl aZ aO) aD;have ql:=au b1 (au rfl af aO) aD;have vT:=bh b1 (bh rfl ab);clear b1 ad aV am an ap av aP aT aZ af;refine oR 2 gd qe aO rfl (λx5 b9=>?_);have ge:=bo b9 (au rfl gd aO);simp only [TA,Tu]at ge;have qm:=au b9 (au rfl qd aO) aD;have qn:=au b9 (au rfl qf aO) aO;have qo:=au b9 (au rfl qh aO) aO;have qp:=au b9 (au rfl qi aO) aO;have qq:=au b9 (au rfl qj aO) aO;have qr:=au b9 (au rfl qk aO) aD;have qs:=au b9 (au rfl ql aO) aD;have vU:=bh b9 (bh rfl vT);clear b9 gd qd qe qf qh qi qj qk ql;refine oR 3 ge qn aO rfl (λx6 cM=>?_);have gf:=bo cM (au rfl ge aO);simp only [TA,Tu]at gf;have qt:=au cM (au rfl qm aO) aD;have qu:=au cM (au rfl qo aO) aO;have qv:=au cM (au rfl qp aO) aO;have qw:=au cM (au rfl qq aO) aO;have qx:=au cM (au rfl qr aO) aD;have qA:=au cM (au rfl qs aO) aD;have iU:=bh cM (bh rfl vU);clear cM ge qm qn qo qp qq qr qs;refine at_<|ar (az (aK mL rfl gf gc aA) dL) rfl ?_
     refine ar (bI (aG aa aN) rfl (HO ⟨nm,js,bl,ss⟩ hsh.1) Ku) rfl<|ar (ak aa) rfl<|ar (cF aa rfl) rfl<|ar (cF (ae aa) rfl) rfl<|aM (cJ re rfl iU) trivial rfl (λx7 cb=>?_)
     have gg:=bS cb iU;simp only [pS,Value.cells,Nat.reduceAdd,eJ,eo,aQ,eM,eN,eO,bG,bC,SZ]at gg;have qB:=aI cb gf;have qC:=aI cb qt;have qD:=aI cb qu;have qE:=aI cb qv;have qF:=aI cb qw;have qH:=aI cb qx;have qI:=aI cb qA;have vV:=bR cb iU;clear cb gf qt qu qv qw qx qA;refine aM (bV aa (ag aa) rfl rfl gg jK rfl aA) trivial rfl (λx8 cc=>?_);have cR:=bo cc gg;simp only [pS,Value.cells,Nat.reduceAdd,eJ,eo,aQ,eM,eN,eO,bG,bC,SZ]at cR;have df:=au cc qB aO;have dg:=au cc qC aO;have dS:=au cc qD aO;have dT:=au cc qE aO;have dU:=au cc qF aO;have dV:=au cc qH aO;have cS:=au cc qI aO;have iV:=bh cc vV;clear cc gg qB qC qD qE qF qH qI;refine ar (aB (aE (ae aa))) rfl<|fe (ae (aE (ag (ai eH)))) (ae (aE (ag (ai eI)))) (ae (aE (ag (ai gc)))) (ae (aE (ag (ai iM)))) (ae (aE (ag (ai iN)))) (ae (aE aa)) aa ?_;clear iK eH eI iL gc iM iN;intro x9 qJ qK qL qM qN qO iW
     refine ao<|ax<|at_<|ar (ak iW) rfl<|ar (fp aa aw) rfl<|ik (ag qJ) (ag qK) (ag qL) (ag qM) (ag qN) (ag qO) (ag iW) aa ?_;clear qO iW qJ qK qL qM qN;intro ya eP eS iX iZ i6 i7 i8 ja
     refine ao<|bk ja (λdh=>?_) (λdh=>?_)
     ·replace dh:=ff dh
      (have hc:¬ (cg ⟨nm,js,bl,ss⟩).2=0:=dh;obtain⟨⟨y1,y2,y3⟩,z0,z1,z2,z3⟩:=hF1 hc)
      refine ax<|at_<|ar (ak iZ) rfl<|ar (aB aa) rfl<|dH (ag eP) (ag eS) (ag i6) (ag i7) (ag i8) aa ?_;clear i7 ja i8 eP eS iX iZ i6;intro yb qP qQ qR jb qS qT
      refine ao<|ax<|ax<|at_<|ar (aJ yv rfl jb) rfl<|ar (az (aK kZ rfl cR aa aA) dL) rfl ?_
      refine ar (fp aa aw) rfl<|fe (ae (ag qP)) (ae (ag qQ)) (ae (ag qR)) (ae (ag jb)) (ae (ag qS)) (ae (ag qT)) aa ?_;clear jb qS qT qP qQ qR;intro yc eT eW jc gh gi jd je
      refine ao<|bk je (λdi=>?_) (λdi=>?_)
      ·replace di:=ff di
       (have hn0:¬ (cg ⟨nm,js,bl,ss⟩).1.1=0:=di;obtain⟨hpk,hpR⟩:=P0 y1 y2 hn0 z1 z2 z3)
       refine oR 1 dg dS aO rfl (λyd cN=>?_);have qU:=au cN (au rfl cR aO) aO;have qV:=au cN (au rfl df aO) aD;have gk:=bo cN (au rfl dg aO);simp only [TA,Tu]at gk;have qW:=au cN (au rfl dT aO) aO;have qX:=au cN (au rfl dU aO) aO;have qY:=au cN (au rfl dV aO) aD;have qZ:=au cN (au rfl cS aO) aD;have vW:=bh cN (bh rfl iV);clear cN cR df dg dS dT dU dV cS;refine oR 2 gk qW aO rfl (λye cT=>?_);have q2:=au cT (au rfl qU aO) aO;have q3:=au cT (au rfl qV aO) aD;have gm:=bo cT (au rfl gk aO);simp only [TA,Tu]at gm;have q4:=au cT (au rfl qX aO) aO;have q5:=au cT (au rfl qY aO) aD;have q6:=au cT (au rfl qZ aO) aD;have vX:=bh cT (bh rfl vW);clear cT qU qV gk qW qX qY qZ;refine oR 3 gm q4 aO rfl (λyf dk=>?_);have gn:=au dk (au rfl q2 aO) aO;have q7:=au dk (au rfl q3 aO) aD;have gp:=bo dk (au rfl gm aO);simp only [TA,Tu]at gp;have q8:=au dk (au rfl q5 aO) aD;have jf:=au dk (au rfl q6 aO) aD;have vY:=bh dk (bh rfl vX);clear dk q2 q3 gm q4 q5 q6;refine eu 9 aj aj aj aj ?_;refine dr (aJ yv rfl gh) rfl<|dr (az (aK kZ rfl gn aa aA) dL) rfl ?_
       refine dr (OM o7 (ag jc) aa ah ah) rfl ?_;refine dr (Je uP gp aa ah ah) rfl ?_;refine dr (aJ EA rfl (ai gh)) rfl<|dr (az (aK kZ rfl gn aa aA) dL) rfl ?_
       refine dr (az (cE jo (ag aa) aa ah (by first|(refine dK ?_;first|omega|(simp only [dj];omega))|(refine dq ?_;first|omega|(simp only [dj];omega))|(refine nH ?_;first|omega|(simp only [dj];omega))|rfl)) dL) rfl ?_;refine dr (az (bL kZ rfl aa aA) dL) rfl ?_;refine dr (aB aa) rfl<|dE<|bu (ae (ay eT)) (ae (ay eW)) (ae (ay gi)) aa ?_;clear gh je gi jd eT eW jc;intro yh jg jh q9 ra
       refine ao<|ax<|at_<|ar (cU bW nc na m9 rfl) rfl ?_
       refine ar (ak (ae ra)) rfl<|ar (cU (bz aa (bz aw bW)) mi mh mg rfl) rfl ?_
       refine ar (ak (ae (ag q9))) rfl<|aM (bV (ai jg) (ae (ag aa)) rfl rfl jf jI rfl aA) trivial rfl (λyi dl=>?_)
       have ji:=bo dl jf;simp only [pS,Value.cells,Nat.reduceAdd,eJ,eo,aQ,eM,eN,eO,bG,bC,SZ]at ji;have rc:=au dl gn aO;have rd:=au dl q7 aD;have rg:=au dl gp aD;have jj:=au dl q8 aD;have vZ:=bh dl vY;clear dl gn q7 gp q8 jf;refine aM (bV (aE (ai jh)) (aE (ae aa)) rfl rfl jj kc rfl aA) trivial rfl (λyj dm=>?_);have jk:=bo dm jj;simp only [pS,Value.cells,Nat.reduceAdd,eJ,eo,aQ,eM,eN,eO,bG,bC,SZ]at jk;have rh:=au dm ji aD;have v3:=au dm rc aO;have v5:=au dm rd aD;have v6:=au dm rg aD;have v7:=bh dm vZ;clear dm ji rc rd rg jj;refine ar (aB (aE (aE aa))) rfl<|bB (ae (aE (aE (ai jg)))) (ae (aE (aE (ai jh)))) aa ?_;clear q9 ra jg jh;intro yk ri rl rm
       refine ao<|bm<|bw<|mm bp aj (dz ri rh mL aA aL) (dz rl jk o9 aA aL) (aR rm) (eh (k9 (cQ (.ro _ rfl) (cQ (.nil 4) (cQ (.nil 2) (cQ (.nil 3) gG)))))) (eh (.ro _ rfl)) (.ro _ rfl) ?_
       clear ri rl rm jk rh v3 v5 v6 v7
       (rw [hpR];rfl)
      replace di:=eY di;have hc0:(cg ⟨nm,js,bl,ss⟩).1.1=0:=di;refine bF<|ao<|ax<|at_<|ar (cU bW nc na m9 rfl) rfl ?_
      refine ar (ak (ae jd)) rfl<|ar (cU (bz aa (bz aw bW)) mi mh mg rfl) rfl ?_
      refine ar (ak (ae (ag gi))) rfl<|aM (bV (ai eT) (ae (ag aa)) rfl rfl cS jI rfl aA) trivial rfl (λyl cd=>?_)
      have jl:=bo cd cS;simp only [pS,Value.cells,Nat.reduceAdd,eJ,eo,aQ,eM,eN,eO,bG,bC,SZ]at jl;have rn:=au cd cR aO;have rp:=au cd df aD;have rq:=au cd dg aD;have rr:=au cd dS aO;have rt:=au cd dT aO;have ru:=au cd dU aO;have jm:=au cd dV aD;have v8:=bh cd iV;clear cd cR df dg dS dT dU dV cS;refine aM (bV (aE (ai eW)) (aE (ae aa)) rfl rfl jm kc rfl aA) trivial rfl (λym ce=>?_);have jn:=bo ce jm;simp only [pS,Value.cells,Nat.reduceAdd,eJ,eo,aQ,eM,eN,eO,bG,bC,SZ]at jn;have rx:=au ce jl aD;have v9:=au ce rn aO;have wb:=au ce rp aD;have wd:=au ce rq aD;have wf:=au ce rr aO;have wg:=au ce rt aO;have wk:=au ce ru aO;have wm:=bh ce v8;clear ce jl rn rp rq rr rt ru jm;refine ar (aB (aE (aE aa))) rfl<|bB (ae (aE (aE (ai eT)))) (ae (aE (aE (ai eW)))) aa ?_;clear gh je gi jd eT eW jc;intro yn ry rz rA
      refine ao<|bm<|bw<|mm bp aj (dz ry rx mL aA aL) (dz rz jn o9 aA aL) (aR rA) (eh (k9 (cQ (.ro _ rfl) (cQ (.nil 4) (cQ (.nil 2) (cQ (.nil 3) gG)))))) (eh (.ro _ rfl)) (.ro _ rfl) ?_
      clear ry rz rA jn rx v9 wb wd wf wg wk wm
      (rw [z0 hc0];rfl)
     replace dh:=eY dh;have hc:(cg ⟨nm,js,bl,ss⟩).2=0:=dh;refine bF<|ao<|ax<|at_<|ar (az (aK mL rfl df iX aA) dL) rfl ?_
     refine ar (cU bW mi mh mg rfl) rfl ?_;refine aM (bV (ag eP) (ae aa) rfl rfl cS jI rfl aA) trivial rfl (λyo ci=>?_);have jp:=bo ci cS;simp only [pS,Value.cells,Nat.reduceAdd,eJ,eo,aQ,eM,eN,eO,bG,bC,SZ]at jp;have rB:=au ci cR aO;have rC:=au ci df aD;have rD:=au ci dg aD;have rE:=au ci dS aO;have rF:=au ci dT aO;have rG:=au ci dU aO;have jq:=au ci dV aD;have wn:=bh ci iV;clear ci cR df dg dS dT dU dV cS;refine aM (bV (aE (ag eS)) (aE aa) rfl rfl jq kc rfl aA) trivial rfl (λyp cm=>?_);have jr:=bo cm jq;simp only [pS,Value.cells,Nat.reduceAdd,eJ,eo,aQ,eM,eN,eO,bG,bC,SZ]at jr;have rH:=au cm jp aD;have wo:=au cm rB aO;have wq:=au cm rC aD;have wt:=au cm rD aD;have wu:=au cm rE aO;have wv:=au cm rF aO;have ww:=au cm rG aO;have wx:=bh cm wn;clear cm jp rB rC rD rE rF rG jq;refine ar (aB aw) rfl<|bB (ae (aE (aE (ag eP)))) (ae (aE (aE (ag eS)))) aa ?_;clear i7 ja i8 eP eS iX iZ i6;intro yq rI rJ rK
     refine ao<|bm<|mm bp aj (dz rI rH mL aA aL) (dz rJ jr o9 aA aL) (aR rK) (eh (.ro _ rfl)) (eh (.ro _ rfl)) (.ro _ rfl) ?_
     clear rI rJ rK jr rH wo wq wt wu wv ww wx
     (rw [hF0 hc];rfl)
end Go.Proofs.YtfoaiidcfkmneaaGreatDoor
namespace Go.Proofs.YtfoaiidcfkmneaaGreatDoor
open Go Go.RowKit Go.Proofs Go.Lib
theorem Ns:(Tryz.prog.info? 49).bind (·.zero)=some (.agg #[.int .i64 0,.int .i64 0,.int .i64 0]):=by kernel_rfl
theorem Jg:cu Tryz.prog 49 0 0 true 2:=by unfold cu;kernel_rfl
theorem Jh:cu Tryz.prog 49 1 2 false 1:=by unfold cu;kernel_rfl
theorem Nu:(Tryz.prog.info? 49).map (·.size)=some 3:=by kernel_rfl
theorem Nv:aV Tryz.prog 29 true 2:=⟨aj,aj⟩
theorem Nw:aV Tryz.prog 30 false 1:=⟨aj,aj⟩
theorem DI:isIf (Tryz.prog.underlying 20)=true:=by kernel_rfl
def eR:List AV:= [.v (.string ⟨#[]⟩),.v (.slice none 0 0),.v (.slice none 0 0),.v (.slice none 0 0)]
theorem Bf(vs:Array Value)(w:World)(hvs:vs.size=3):CallsDIn Fence.wide 8 Tryz.prog 12 vs .returning w λen u' w'=>∃ v,en= .returned v/\u'= .returning /\Ext w w':=by
 refine LW (fn:=Tryz.f12) (K:=3) 17 aj rfl aj bO bO ?_ _ _ (by assumption);intro e_a ak ad;refine vN (λal af=>?_);have ab:=ef 6 af aa;have am:ak.length=0:=by rw [ad];rfl
 clear ad af;refine ca<|ax<|at_<|ar (LL ab DI) rfl<|bD (ae ab) aa ?_;clear ab;intro an ag ah
 refine ao<|bk ah (λai=>?_) (λai=>?_)
 ·skip;refine at_<|ar (aB ag) rfl<|pX ?_;clear ag ah;intro ap
  refine cG<|⟨_,pK aj,?_⟩
  trivial
 ·cases ai
theorem Bg{mem:List Ob}{n:Nat}(hn:mem.length=n){jl jm je:Nat}{cnt col er:Int}(hl:mem[jl]? =some (.box 27 eR))(hm:mem[jm]? =some (.box 29 [mA 0,mA 0]))(he:mem[je]? =some (.box 30 [mA 0]))(h1:jl≠jm)(h2:jl≠je)(h3:jm≠je):
 wx Tryz.prog 12 [.ptr jl 0,.ptr jm 0,.ptr je 0] mem (gp cnt col er) (λm'=>m'[jl]? =some (.box 27 eR)/\m'[jm]? =some (.box 29 [mA cnt,mA col])/\m'[je]? =some (.box 30 [mA er])):=by
 have hln:=cL hl hn;have hmn:=cL hm hn;have hen:=cL he hn;refine LV (fn:=Tryz.f12) 17 aj rfl aj bO bO ?_;intro e_a aw hA ap;refine vN (λaC av=>?_);have aD:=ef 6 av aa;have aX:al aC (.tmp 0)=_:=ef 0 av (ae (hA 0 _ rfl));have aZ:al aC (.tmp 1)=_:=ef 1 av (ae (hA 1 _ rfl));have a2:al aC (.tmp 2)=_:=ef 2 av (ae (hA 2 _ rfl));have aF:aw.length=n:=by rw [ap];exact hn
 have aG:aw[jl]? =_:=(congrArg (λq=>q[jl]?) ap).trans hl;simp only [pS,Value.cells,Nat.reduceAdd,eR]at aG;have a3:aw[jm]? =_:=(congrArg (λq=>q[jm]?) ap).trans hm;have a5:aw[je]? =_:=(congrArg (λq=>q[je]?) ap).trans he;clear hA ap av;refine ca<|ax<|at_<|ar (LM aD DI) rfl<|ck (ae aX) (ae aZ) (ae a2) (ae aD) aa ?_;clear aX aZ a2 aD;intro bX a6 a7 a8 aH a9
 refine ao<|bk a9 (λba=>?_) (λba=>?_)
 ·cases ba
 refine ax<|at_<|ar (IX zR rfl _ aH) rfl<|ar (cF aa rfl) rfl<|ar (cF (ae aa) rfl) rfl<|dH (ae (ag a6)) (ae (ag a7)) (ae (ag a8)) (ae (ag aH)) (ae aa) aa ?_;clear a6 a7 a8 aH a9;intro bY bb bc be bL bf bj
 refine ao<|bk bf (λbm=>?_) (λbm=>?_)
 ·skip;refine ax<|at_<|aM (cJ Ns rfl aF) trivial rfl (λbZ ab=>?_)
  have ay:=bS ab aF;simp only [pS,Value.cells,Nat.reduceAdd,eR]at ay;have bn:=aI ab aG;have bp:=aI ab a3;have bq:=aI ab a5;have bM:=bR ab aF;clear ab aG a3 a5;refine aM (bV aa (ae bj) rfl rfl ay Nu rfl aA) trivial rfl (λb0 ad=>?_);have aN:=bo ad ay;simp only [pS,Value.cells,Nat.reduceAdd,eR]at aN;have br:=au ad bn ah;have bv:=au ad bp ah;have bw:=au ad bq ah;have aO:=bh ad bM;clear ad ay bn bp bq;refine bu (aE (ae bb)) (aE (ae bc)) (aE (ae be)) (aE aa) ?_;clear bb bf bj bc be bL;intro b1 bx bz bA aP;refine ao<|iq 7 0 aO aj aj aj aj (λb2 af=>?_)
  have aB:=bJ af aN;have aR:=bJ af br;have bB:=bJ af bv;have bD:=bJ af bw;have bN:_=n+1:=ir (K:=0) af aO;clear af aN br bv bw aO;refine bg (λM_ hM_=>(cU bW nc na m9 rfl)) trivial ?_;refine bg (λM_ hM_=>(aJ Jg rfl (ae aP))) trivial ?_;refine db (n) (λM_ hM_=>(az (aK Nv rfl (cI hM_ aB aL) aa aA) (by simp only [pS,Value.cells,Nat.reduceAdd,eR]<;>rfl))) trivial trivial ?_;refine bg (λM_ hM_=>(aJ Jh rfl (ae (ag aP)))) trivial ?_;refine db (n) (λM_ hM_=>(az (aK Nw rfl (cI hM_ aB aL) aa aA) (by simp only [pS,Value.cells,Nat.reduceAdd,eR]<;>rfl))) trivial trivial ?_;refine od (jl) (λM_ hM_=>(mJ (ae (ai bx)) (ai aa) rfl rfl (cI hM_ aR aL) jI rfl aA)) trivial trivial ⟨.inl b8,⟨.inl b8,trivial⟩⟩ (λb6 ak=>?_);have aS:=bo ak aR;simp only [pS,Value.cells,Nat.reduceAdd,eR]at aS;have bE:=au ak aB ah;have aT:=au ak bB ah;have bF:=au ak bD ah;have bP:=bh ak bN;clear ak aB aR bB bD;refine od (jm) (λM_ hM_=>(mJ (aE (ae (ai bz))) (aE (ag aa)) rfl rfl (cI hM_ aT aL) kc rfl aA)) trivial ⟨.inl b8,trivial⟩ ⟨.inl b8,⟨.inl b8,⟨.inl b8,trivial⟩⟩⟩ (λb7 am=>?_);have aU:=bo am aT;simp only [pS,Value.cells,Nat.reduceAdd,eR]at aU;have bH:=au am aS ah;have bI:=au am bE ah;have aV:=au am bF ah;have bQ:=bh am bP;clear am aS bE aT bF;refine iD rfl ?_;refine aM (bV (aE (aE (ae (ai bA)))) (aE (aE aa)) rfl rfl aV sX rfl aA) trivial rfl (λb9 an=>?_);have bK:=bo an aV;simp only [pS,Value.cells,Nat.reduceAdd,eR]at bK;have bT:=au an aU ah;have bU:=au an bH ah;have cb:=au an bI ah;have cc:=bh an bQ;clear an aU bH bI aV;refine pX ?_;clear bx bz bA aP;intro cd;refine cG<|⟨_,pK aj,?_⟩
  exact⟨bU,bT,bK⟩
 ·cases bm
end Go.Proofs.YtfoaiidcfkmneaaGreatDoor
namespace Go.Proofs.YtfoaiidcfkmneaaGreatDoor
open Go Go.RowKit Go.Proofs Go.Shelf Go.Lib
theorem Nx:(Tryz.prog.info? 50).bind (·.zero)=some (.pointer none):=by kernel_rfl
theorem Ny:(Tryz.prog.info? 56).bind (·.zero)=some (.agg #[.string ByteArray.empty,.slice none 0 0,.slice none 0 0,.slice none 0 0,.int .i64 0,.slice none 0 0,.string ByteArray.empty,.int .i64 0,.string ByteArray.empty,.map none]):=by kernel_rfl
theorem Nz:Tryz.prog.underlying 56=some (.struct (eX Tryz.prog 56)):=by kernel_rfl
theorem NA:∀ w,((eX Tryz.prog 56).mapM λf=>Prod.mk f.offset<$>sizeOf f.type:Sem (Array (Nat×Nat))).run Tryz.prog w= .ok (#[(0,4),(4,1),(5,1),(6,2),(8,1),(9,1)]) w:=λ_=>by kernel_rfl
theorem BK:∀ args w,(callFunc 12 args).run Tryz.prog w= .ok (.enter 12 args) w:=λ_ _=>by kernel_rfl
theorem Kv:∀ args w,(callFunc 13 args).run Tryz.prog w= .ok (.enter 13 args) w:=λ_ _=>by kernel_rfl
theorem Kw:∀ args w,(callFunc 14 args).run Tryz.prog w= .ok (.enter 14 args) w:=λ_ _=>by kernel_rfl
theorem Kx:∀ args w,(callFunc 15 args).run Tryz.prog w= .ok (.enter 15 args) w:=λ_ _=>by kernel_rfl
theorem Ky:∀ args w,(callFunc 16 args).run Tryz.prog w= .ok (.enter 16 args) w:=λ_ _=>by kernel_rfl
theorem Kz:∀ args w,(callFunc 17 args).run Tryz.prog w= .ok (.enter 17 args) w:=λ_ _=>by kernel_rfl
theorem KA:∀ args w,(callFunc 33 args).run Tryz.prog w= .ok (.enter 33 args) w:=λ_ _=>by kernel_rfl
theorem NB:b9 Tryz.prog 52 54 2 24 (.agg #[.string ByteArray.empty,.int .i64 0]):=⟨aj,aj,aj⟩
theorem NC:(Tryz.prog.info? 50).map (·.size)=some 1:=by kernel_rfl
theorem yj:aV Tryz.prog 27 true 4:=⟨aj,aj⟩
theorem DJ:aV Tryz.prog 29 true 2:=⟨aj,aj⟩
theorem P1:aV Tryz.prog 3 false 1:=⟨aj,aj⟩
theorem DK:aV Tryz.prog 30 false 1:=⟨aj,aj⟩
theorem qw:aV Tryz.prog 50 false 1:=⟨aj,aj⟩
theorem ND:aV Tryz.prog 52 false 1:=⟨aj,aj⟩
theorem Q4(l:List UInt8)(hl:l.length<=1000000000):bT Tryz.prog 15 [.v (.string (bs l)),.v (.string ⟨#[10]⟩)] (λq=>q= .v (.string (bs (fh l)))):=HK (bs l) ⟨#[10]⟩ (by rw [sr];exact hl)
def Hl:Ob->Bool
 | .box _ _=>true
 | .bY _=>true
 | _=>false
theorem KR.not{st:RS}{H:RH}{lo b j:Nat}{mem:List Ob}{o:Ob}(h:fm st H lo mem b)(hj:mem[j]? =some o)(hb:j≠b)(ho:Hl o=true):¬ KR H b j:=by
 rintro(rfl|rfl|rfl|rfl|rfl|⟨q,hq,rfl⟩)
 ·exact hb rfl
 ·rw [h.M]at hj;cases hj;cases ho
 ·rw [h.J]at hj;cases hj;cases ho
 ·rw [h.B]at hj;cases hj;cases ho
 ·rw [h.S]at hj;cases hj;cases ho
 ·rw [h.fam.at_ q hq ah]at hj;cases hj;cases ho
theorem fm.set{st:RS}{H:RH}{lo b j:Nat}{mem:List Ob}{T:TypeId}{c:List AV}{o':Ob}(h:fm st H lo mem b)(hj:mem[j]? =some (.box T c))(hb:j≠b):fm st H lo (mem.set j o') b:=by
 have hn:=KR.not h hj hb rfl;have ne:∀ k,KR H b k->j≠k:=λk hk e=>hn (e ▸ hk)
 have keep:∀ {k:Nat} {o:Ob},KR H b k->mem[k]? =some o->(mem.set j o')[k]? =some o:=λhk hm=>by rw [SY (ne _ hk)];exact hm
 exact⟨keep (.inl rfl) h.box,keep (.inr (.inr (.inl rfl))) h.J,keep (.inr (.inr (.inr (.inl rfl)))) h.B,keep (.inr (.inr (.inr (.inr (.inl rfl))))) h.S,keep (.inr (.inl rfl)) h.M,
  h.fam.m7 rfl λq hq _ e=>ne _ (.inr (.inr (.inr (.inr (.inr ⟨q,hq,rfl⟩))))) e.symm,h.keys,h.lo⟩
theorem fm.off{st:RS}{H:RH}{lo b j:Nat}{mem:List Ob}{o:Ob}(h:fm st H lo mem b)(hj:mem[j]? =some o)(hb:j≠b)(ho:Hl o=true):H.jM≠j/\H.jJ≠j/\H.jB≠j/\H.jS≠j:=by
 have hn:=KR.not h hj hb ho;exact⟨λe=>hn (.inr (.inl e.symm)),λe=>hn (.inr (.inr (.inl e.symm))),λe=>hn (.inr (.inr (.inr (.inl e.symm)))),λe=>hn (.inr (.inr (.inr (.inr (.inl e.symm)))))⟩
theorem fX.Su{i:Nat}{st:RS}(h:fX i st)(hi:i<=1000000)(la:Wd)(l:List UInt8):Aq (cN {st with last:=la} l):=⟨(h.wT hi).js,(h.wT hi).bs,(h.wT hi).ss,(h.wT hi).cs⟩
theorem RO:aV Tryz.prog 27 true 4:=⟨aj,aj⟩
theorem RP:aV Tryz.prog 29 true 2:=⟨aj,aj⟩
theorem RQ:aV Tryz.prog 30 false 1:=⟨aj,aj⟩
theorem Bh{e:Nat->AV}{m:List Ob}{R:iM}{k c er:Int}(hR:R=⟨zL,k,c,er⟩)(s2:al e (.tmp 2)= .ptr 1 0)(s3:al e (.tmp 3)= .ptr 2 0)(s4:al e (.tmp 4)= .ptr 3 0)(h1:m[1]? =some (.box 27 eR))(h2:m[2]? =some (.box 29 [mA k,mA c]))(h3:m[3]? =some (.box 30 [mA er])):
 ic Tryz.prog 47 Tryz.f5 (λq=>q=gj R) .ret e m:=by
 subst hR;exact mm bp aj (dz s2 h1 RO aD aL) (dz s3 h2 RP (SR 2) aL) (dz s4 h3 RQ (SR 1) aL)
  (eh (k9 (cQ (.ro _ rfl) (cQ (.nil 4) (cQ (.nil 2) (cQ (.nil 3) gG)))))) (eh (.ro _ rfl)) (ti (.ro _ rfl)) rfl
theorem KB{M0:List Ob}{n:Nat}(hn:M0.length=n){st:RS}{la:Wd}{H:RH}{lo b i:Nat}(hR:fm {st with last:=la} H lo M0 b)(hI:fX i st)(hi:i<=1000000):
 ew Tryz.prog 17 [.ptr b 0] M0 (λr m'=>ll st=⟨st.dQ,0,0,0⟩/\r= .tuple []/\bP M0 m' (λ_=>False)) (λv m'=>∃ k c e,ll st=⟨zL,k,c,e⟩/\v=gp k c e/\bP M0 m' (λj=>j=b)):=by
 have hs:fw st.dQ:=hI.tG hi;have hcn:=hI.cnt
 by_cases hm:st.js.length=0\/aS st.kind aU=true
 ·refine(HM hn hR (by show -1000000000<=st.cnt/\st.cnt<=1000000000;rw [hcn];omega) hm).mono (λr m h=>h.elim) (λv m h=>?_);exact⟨st.cnt+1,1,6,by unfold ll;rw [if_pos hm],h.1,h.2⟩
 ·have hj:st.js.length≠0:=λe=>hm (.inl e)
  have hk:aS st.kind aU=false:=by
   cases hq:aS st.kind aU with
   | false=>rfl
   | true=>exact absurd (.inr hq) hm
  by_cases he:(cg st.dQ).2=0
  ·refine(I9 hn hR hs he (λe=>hj (by show st.js.length=0;rw [show st.js= []from e];rfl)) hk).mono (λr m h=>?_) (λv m h=>h.elim);exact⟨by unfold ll;rw [if_neg hm,if_pos he],h.1,h.2⟩
  ·obtain⟨r1,r2,r3⟩:=hI.row hj he;have hne:cz (lQ (cg st.dQ).1.1) st.ks st.cs≠ []:=λe=>by rw [e]at r3;simp at r3;omega
   have hks:H.hs.map (·.1)=st.ks:=hR.keys;rw [<- hks]at hne;obtain⟨q0,h1,h2,h3⟩:=G9 hR.fam.len hne;have h3':cz (lQ (cg st.dQ).1.1) st.ks st.cs=cR st.cs q0:=by rw [<- hks];exact h3
   refine(Iz hn hR hs he hj hk r1 q0 h1 h2 r2 (by rw [<- h3'];exact r3)).mono (λr m h=>h.elim) (λv m h=>?_);exact⟨_,1,_,by unfold ll;rw [if_neg hm,if_neg he,h3'];rfl,h.1,h.2⟩
section
variable (es er:Value) (hes:fz es) (her:fz er)
include hes her
theorem KC(tx:List UInt8)(hl:tx.length<=1000000):iF Tryz.prog (gX es er) 5 [.v (.string (bs tx))] (λq=>q=gj (nk tx)):=by
 have hz:(bs tx).size =tx.length:=rfl
 by_cases hbig:60000<tx.length
 ·rw [nk,if_pos hbig];refine CJ (fn:=Tryz.f5) (gX es er) [.ptr 1 0,.ptr 2 0,.ptr 3 0] 47 aj rfl aj bO bO (λvs w h=>Bf vs w h) BK ?_;intro c9 b1 hA a9;have b2:al c9 (.tmp 0)=_:=hA 0 _ rfl;have ba:b1.length=1:=by rw [a9];rfl
  have b6:b1[0]? =some (.bY (gX es er)):=by rw [a9];rfl
  clear hA a9;refine at_<|aM (cJ mf rfl ba) trivial rfl (λhv a2=>?_)
  have bb:=bS a2 ba;simp only [pS,Value.cells,Nat.reduceAdd]at bb;have b7:=aI a2 b6;have aO:=bR a2 ba;have aO:_=2:=aO;clear a2 b6;refine aM (cJ om rfl aO) trivial rfl (λhC aP=>?_);have bc:=bS aP aO;simp only [pS,Value.cells,Nat.reduceAdd]at bc;have b8:=aI aP bb;have b9:=aI aP b7;have aR:=bR aP aO;have aR:_=3:=aR;clear aP bb b7;refine aM (cJ zQ rfl aR) trivial rfl (λhD ay=>?_);have be:=bS ay aR;simp only [pS,Value.cells,Nat.reduceAdd]at be;have cb:=aI ay bc;have bv:=aI ay b8;have cc:=aI ay b9;have a3:=bR ay aR;have a3:_=4:=a3;clear ay bc b8 b9;refine bu (ae (ag b2)) (ag aa) (ae aa) aa ?_;clear b2;intro hG bg cd ce cg;refine ao<|ax<|at_<|ar (ak bg) rfl<|ar (eE aa rfl cK) rfl<|ar (eF aa aw) rfl<|ck (ae (ag bg)) (ae (ag cd)) (ae (ag ce)) (ae (ag cg)) aa ?_;clear bg cd ce cg;intro hH da bx bA bD ci
  refine ao<|bk ci (λaS=>?_) (λaS=>?_)
  ·replace aS:=bt aS;refine ax<|at_<|ar (cU bW nc na m9 rfl) rfl ?_
   refine ar (cU bW mi mh mg rfl) rfl ?_;refine aM (bV (ag bx) (ae aa) rfl rfl bv jI rfl aA) trivial rfl (λjf bE=>?_);have db:=bo bE bv;simp only [pS,Value.cells,Nat.reduceAdd]at db;have dU:=au bE be aD;have dc:=au bE cb aD;have dV:=au bE cc aD;have hI:=bh bE a3;clear bE be cb bv cc;refine aM (bV (aE (ag bA)) (aE aa) rfl rfl dc kc rfl aA) trivial rfl (λhK ad=>?_);have bH:=bo ad dc;simp only [pS,Value.cells,Nat.reduceAdd]at bH;have cj:=au ad db aD;have bJ:=au ad dU aD;have cm:=au ad dV aD;have bj:=bh ad hI;clear ad db dU dc dV;refine aM (bV (aE (aE (ag bD))) aw rfl rfl bJ sX rfl aA) trivial rfl (λhN ab=>?_);have bK:=bo ab bJ;simp only [pS,Value.cells,Nat.reduceAdd]at bK;have co:=au ab bH aD;have cq:=au ab cj aD;have cI:=au ab cm aD;have bn:=bh ab bj;clear ab bH cj bJ cm;refine bB (aE (aE (aE (ag bx)))) (aE (aE (aE (ag bA)))) (aE (aE (aE (ag bD)))) ?_;clear da bx bA bD ci;intro jg dW dX dY;refine ao<|bm<|bw<|mm bp aj (dz dW cq yj aA aL) (dz dX co DJ aA aL) (dz dY bK DK aA aL) (eh (k9 (cQ (.ro _ rfl) (cQ (.nil 4) (cQ (.nil 2) (cQ (.nil 3) gG)))))) (eh (.ro _ rfl)) (ti (.ro _ rfl)) ?_
   clear dW dX dY bK co cq cI bn;rfl
  ·replace aS:=bf aS;exfalso;omega
 ·rw [nk,if_neg hbig];obtain⟨R,hR⟩:∃ R,R=gl kj ((ec tx).map fh):=⟨_,rfl⟩;rw [<- hR];have hI0:PI tx 0 kj R:=⟨hR.symm,S8 _,fX.zero⟩;have hll:=xo tx;refine CJ (fn:=Tryz.f5) (gX es er) [.ptr 1 0,.ptr 2 0,.ptr 3 0] 47 aj rfl aj bO bO (λvs w h=>Bf vs w h) BK ?_;intro c9 b1 hA a9;have b2:al c9 (.tmp 0)=_:=hA 0 _ rfl;have ba:b1.length=1:=by rw [a9];rfl
  have b6:b1[0]? =some (.bY (gX es er)):=by rw [a9];rfl
  clear hA a9;refine at_<|aM (cJ mf rfl ba) trivial rfl (λhv a2=>?_)
  have bb:=bS a2 ba;simp only [pS,Value.cells,Nat.reduceAdd,aW,aY,aQ,eR]at bb;have b7:=aI a2 b6;have aO:=bR a2 ba;have aO:_=2:=aO;clear a2 b6;refine aM (cJ om rfl aO) trivial rfl (λhC aP=>?_);have bc:=bS aP aO;simp only [pS,Value.cells,Nat.reduceAdd,aW,aY,aQ,eR]at bc;have b8:=aI aP bb;have b9:=aI aP b7;have aR:=bR aP aO;have aR:_=3:=aR;clear aP bb b7;refine aM (cJ zQ rfl aR) trivial rfl (λhD ay=>?_);have be:=bS ay aR;simp only [pS,Value.cells,Nat.reduceAdd,aW,aY,aQ,eR]at be;have cb:=aI ay bc;have bv:=aI ay b8;have cc:=aI ay b9;have a3:=bR ay aR;have a3:_=4:=a3;clear ay bc b8 b9;refine bu (ae (ag b2)) (ag aa) (ae aa) aa ?_;clear b2;intro hG bg cd ce cg;refine ao<|ax<|at_<|ar (ak bg) rfl<|ar (eE aa rfl cK) rfl<|ar (eF aa aw) rfl<|ck (ae (ag bg)) (ae (ag cd)) (ae (ag ce)) (ae (ag cg)) aa ?_;clear bg cd ce cg;intro hH da bx bA bD ci
  refine ao<|bk ci (λaS=>?_) (λaS=>?_)
  ·replace aS:=bt aS;exfalso;omega
  replace aS:=bf aS;refine bF<|ao ⟨(aG bx (aG bA (aG bD aN))),?_⟩
  refine Qz (λjh bL=>?_);have ea:=ef 0 bL (ae da);have eb:=ef 2 bL (ae bx);have ed:=ef 3 bL (ae bA);have eg:=ef 4 bL (ae bD);have hO:=ef 9 bL (ae ci);clear bL;refine zD ?_;refine zX ?_;refine at_<|aM (LP a3) trivial rfl (λhK ad=>?_)
  have en:=bS ad a3;have bJ:=aI ad be;have bH:=aI ad cb;have cj:=aI ad bv;have cm:=aI ad cc;have bj:=bR ad a3;have bj:_=5:=bj;clear ad be cb bv cc;refine ar (cU (bz aa bW) Ny Nz NA rfl) rfl ?_;refine aM (fD aa rfl bj) trivial rfl (λhN ab=>?_);have dd:=bS ab bj;simp only [pS,Value.cells,Nat.reduceAdd,aW,aY,aQ,eR]at dd;have ep:=aI ab en;have bK:=aI ab bJ;have co:=aI ab bH;have cq:=aI ab cj;have cI:=aI ab cm;have bn:=bR ab bj;have bn:_=6:=bn;clear ab en bJ bH cj cm;refine aM (cJ Nx rfl bn) trivial rfl (λji a5=>?_);have cL:=bS a5 bn;simp only [pS,Value.cells,Nat.reduceAdd,aW,aY,aQ,eR]at cL;have ev:=aI a5 dd;have ew:=aI a5 ep;have ey:=aI a5 bK;have ez:=aI a5 co;have eA:=aI a5 cq;have eB:=aI a5 cI;have de:=bR a5 bn;have de:_=7:=de;clear a5 dd ep bK co cq cI;refine aM (bV aa (ae aa) rfl rfl cL NC rfl aA) trivial rfl (λjj a6=>?_);have eC:=bo a6 cL;simp only [pS,Value.cells,Nat.reduceAdd,aW,aY,aQ,eR]at eC;have eD:=au a6 ev aD;have hP:=au a6 ew aD;have hQ:=au a6 ey aD;have hU:=au a6 ez aD;have hV:=au a6 eA aD;have hW:=au a6 eB aD;have hY:=bh a6 de;clear a6 cL ev ew ey ez eA eB;refine ck (aE (ai ea)) (aE (ai eb)) (aE (ai ed)) (aE (ai eg)) (aE aa) ?_;clear ea eb ed eg hO;intro jk eH eI eK eL eP;refine ao<|zD ?_
  refine zD ?_;refine zX ?_;refine O2 2 5 eD rfl (λjl a7=>?_);have hZ:=au a7 eC aD;have df:=bo a7 eD;simp only [TA,Tu]at df;have h6:=au a7 hP aD;have h7:=au a7 hQ aD;have h8:=au a7 hU aD;have h9:=au a7 hV aD;have ia:=au a7 hW aD;have dg:=bh a7 hY;clear a7;refine lZ 74 4 1 df rfl dg (λjm jn aV aX=>?_);have eS:=bS aV dg;have ib:=au aX eS aD;have eT:=aI aV hZ;have ic:=au aX eT aD;have eU:=aI aV df;have dh:=bo aX eU;simp only [TA,Tu]at dh;have eW:=aI aV h6;have ie:=au aX eW aD;have eX:=aI aV h7;have ig:=au aX eX aD;have eY:=aI aV h8;have ih:=au aX eY aD;have eZ:=aI aV h9;have ij:=au aX eZ aD;have e0:=aI aV ia;have ik:=au aX e0 aD;have e3:=bR aV dg;have di:_=8:=bh aX e3;clear aV aX e3 eS eT eU eW eX eY eZ e0;refine lZ 76 2 2 dh rfl di (λjo jp aT aU=>?_);have e4:=bS aT di;have il:=au aU e4 aD;have e5:=aI aT ib;have im:=au aU e5 aD;have e6:=aI aT ic;have io:=au aU e6 aD;have e7:=aI aT dh;have dk:=bo aU e7;simp only [TA,Tu]at dk;have e8:=aI aT ie;have ip:=au aU e8 aD;have e9:=aI aT ig;have iq:=au aU e9 aD;have fa:=aI aT ih;have ir:=au aU fa aD;have fb:=aI aT ij;have iu:=au aU fb aD;have fc:=aI aT ik;have iv:=au aU fc aD;have fd:=bR aT di;have dl:_=9:=bh aU fd;clear aT aU fd e4 e5 e6 e7 e8 e9 fa fb fc;refine lZ 78 3 3 dk rfl dl (λjr js aF aH=>?_);have fe:=bS aF dl;have ff:=au aH fe aD;have fg:=aI aF il;have fi:=au aH fg aD;have fj:=aI aF im;have fk:=au aH fj aD;have fl:=aI aF io;have fo:=au aH fl aD;have fp:=aI aF dk;have dm:=bo aH fp;simp only [TA,Tu]at dm;have fq:=aI aF ip;have fs:=au aH fq aD;have ft:=aI aF iq;have fu:=au aH ft aD;have fw:=aI aF ir;have fx:=au aH fw aD;have fy:=aI aF iu;have fz:=au aH fy aD;have fA:=aI aF iv;have fB:=au aH fA aD;have fC:=bR aF dl;have cM:_=10:=bh aH fC;clear aF aH fC fe fg fj fl fp fq ft fw fy fA;refine at_<|ar (ak eH) rfl<|aM (Qx (Qw (M9 (bs tx)) [] cM (aG aa aN) (by exact .nil) aD .nil rfl Kv) (show _=(.clo (.func 33) [] [.ptr 10 0])from rfl)) trivial rfl (λbN aB=>?_)
  have ix:=kX aB bO ff aD;have iy:=kX aB bO fi aD;have iz:=kX aB bO fk aD;have cO:=kX aB bO fo aD;have iA:=kX aB bO dm aD;have iB:=kX aB bO fs aD;have cP:=kX aB bO fu aD;have cR:=kX aB bO fx aD;have cS:=kX aB bO fz aD;have cT:=kX aB bO fB aD;have fE:bN[10]? =some _:=OT aB bO cM 0 rfl
  (try simp only [Ob.rn,rn,rn.rnL,rho,Ta,TB,List.getElem?_cons_zero,UE,List.getElem?_nil,Nat.reduceAdd,Nat.reduceSub,TS,Nat.sub_self,aW,aY,aQ,eR]at fE)
  have iC:_=11:=OU aB cM 1 rfl;clear aB ff fi fk fo dm fs fu fx fz fB cM;refine ck (ag eI) (ag eK) (ag eL) (ag eP) aa ?_;clear eH eI eK eL eP;intro jv cr cu cv cV dq;refine ao<|LU ?_
  refine Jz dq (J7 tx hl 10) KA (by exact(by rintro y hy;obtain⟨_,_,rfl⟩:=TG.1 hy;rfl)) bO bO fE (λi mem=>∃ s:(RS×Wd×RH),match s with|⟨st,la,H⟩=>(mem[6]? =bN[6]?)/\(mem[3]? =bN[3]?)/\(mem[2]? =bN[2]?)/\(mem[1]? =bN[1]?)/\(mem[0]? =bN[0]?)/\(∃ n,mem.length=n/\11<=n)/\((PI tx i st R/\fm {st with last:=la} H 0 mem 5))) (by rintro i_ m_ c_ d_ hc_ ⟨⟨st,la,H⟩,cw,cy,cz,cA,cB,⟨fF,bP,dt⟩,hinv⟩;exact⟨⟨st,la,H⟩,(au rfl cw aD),(au rfl cy aD),(au rfl cz aD),(au rfl cA aD),(au rfl cB aD),⟨_,LS bP,dt⟩,⟨hinv.1,hinv.2.set hc_ aD⟩⟩) ⟨⟨kj,⟨⟨#[]⟩,0⟩,⟨4,7,8,9,[]⟩⟩,rfl,rfl,rfl,rfl,rfl,⟨_,iC,ah⟩,?_⟩ ?_ ?_
  ·exact⟨hI0,⟨iA,iz,iy,ix,iB,bM.zero _,rfl,aL⟩⟩
  ·rintro i jw iD iG iH ⟨⟨st,la,H⟩,cw,cy,cz,cA,cB,⟨fF,bP,dt⟩,hinv⟩ cW
   (obtain⟨hinv,hRd⟩:=hinv;obtain⟨l,hl',rfl,hll',hi'⟩:=QX iH;have hcl:=ye l;have hcn:=hinv.rw'.cnt;have hb:=hRd.box;have hJ:=hRd.J;have hB:=hRd.B;have hS:=hRd.S;have hM:=hRd.M;have hF:=hRd.fam;obtain⟨⟨x1,x2,x3,x4⟩,⟨x5,x6,x7⟩,x8,x9,x10⟩:=hRd.ne)
   have bQ:=cw.trans cO;have bT:=cy.trans cP;have bX:=cz.trans cR;have bZ:=cA.trans cS;have cX:=cB.trans cT;have b0:=hb;simp only [pS,Value.cells,Nat.reduceAdd,aW,aY,aQ,eR]at b0;have du:=hJ;simp only [pS,Value.cells,Nat.reduceAdd,aW,aY,aQ,eR]at du;have dv:=hB;simp only [pS,Value.cells,Nat.reduceAdd,aW,aY,aQ,eR]at dv;have dw:=hS;simp only [pS,Value.cells,Nat.reduceAdd,aW,aY,aQ,eR]at dw;have fG:=hM;have fH:=hF;refine vN (λjx a8=>?_);have fI:=ef 2 a8 (ag cr);have fJ:=ef 3 a8 (ag cu);have fK:=ef 4 a8 (ag cv);have dy:=ef 5 a8 (ag cV);have fL:=ef 6 a8 aa;have iI:=ef 17 a8 (ag dq);have iJ:=ef 18 a8 (ae aa);clear a8;refine ca<|ax<|at_<|ar (az (aK qw rfl bQ dy aA) mW) rfl ?_
   refine ar (bU aa) rfl<|ar (aJ iU rfl aa) rfl<|ar (az (aK P1 rfl b0 aa aA) mW) rfl ?_
   (refine ar (cf aa aw ?_) rfl ?_; · (unfold In64;omega))
   refine ar (bU (ai aa)) rfl<|ar (aJ iU rfl aa) rfl<|aM (bV aa (ag aa) rfl rfl b0 iZ rfl aA) trivial rfl (λjA af=>?_)
   have cC:=bo af b0;simp only [pS,Value.cells,Nat.reduceAdd,aW,aY,aQ,eR]at cC;have dA:=au af bQ aD;have fM:=au af bT aD;have fO:=au af bX aD;have fP:=au af bZ aD;have fQ:=au af cX aD;have fT:=au af cW aD;have fU:=au af du ah;have fV:=au af dv ah;have fW:=au af dw ah;have fY:=au af fG ah;have fZ:=bM.au af fH b0 rfl;have iK:=bh af bP;clear af bQ bT bX bZ cX cW b0 du dv dw fG fH;refine ck (aE (ae (ag (ai fI)))) (aE (ae (ag (ai fJ)))) (aE (ae (ag (ai fK)))) (aE (ae (ag (ai dy)))) (aE (ae (ag (ai fL)))) ?_;clear iI iJ fI fJ fK dy fL;intro jB f0 ga gb dB gc;refine ao<|ax<|eu 6 aj aj aj aj ?_
   refine dr (az (aK qw rfl dA dB aA) mW) rfl ?_;refine dr (ak (ae gc)) rfl<|dr (bI (aG aa (aG aw aN)) rfl (Q4 l ah) Kx) rfl ?_
   refine dr (bI (aG aa aN) rfl (I4 (fh l) ah) Kw) rfl ?_;refine dr (bU (ae (ag aa))) rfl<|dr (aJ jq rfl aa) rfl<|dE<|aM (bV aa (ag aa) rfl rfl cC GN rfl aA) trivial rfl (λiL am=>?_)
   have cY:=bo am cC;simp only [pS,Value.cells,Nat.reduceAdd,aW,aY,aQ,eR]at cY;have cD:=au am dA aD;have cE:=au am fM aD;have cF:=au am fO aD;have cH:=au am fP aD;have cZ:=au am fQ aD;have dC:=au am fT aD;have gd:=au am fU ah;have ge:=au am fV ah;have gf:=au am fW ah;have gg:=au am fY ah;have gh:=bM.au am fZ cC rfl;have dD:=bh am iK;clear am cC dA fM fO fP fQ fT fU fV fW fY fZ;refine bu (aE (ag (ai f0))) (aE (ag (ai ga))) (aE (ag (ai gb))) (aE (ag (ai dB))) ?_;clear f0 ga gb dB gc;intro jJ gi gk gm dF;refine ao<|ax<|at_<|ar (az (aK qw rfl cD dF aA) mW) rfl ?_
   refine ar (bU aa) rfl<|ar (aJ jq rfl aa) rfl<|ar (az (aK ND rfl cY aa aA) mW) rfl ?_
   refine ar (az (cx aa rfl NB.1) ct) rfl ?_;refine ar (eF aa aw) rfl<|ck (ag (ai gi)) (ag (ai gk)) (ag (ai gm)) (ag (ai dF)) aa ?_;clear gi gk gm dF;intro jK gn gp gr dG gt
   refine ao<|bk gt (λbq=>?_) (λbq=>?_)
   ·replace bq:=bt bq
    (obtain⟨w0,ws,hwd⟩:∃ w0 ws,ee (fh l) 0=w0::ws:=(by cases hq_:ee (fh l) 0 with|nil=>(rw [hq_]at bq;simp at bq)|cons a b=>exact⟨a,b,rfl⟩))
    refine at_<|ar (az (aK qw rfl cD dG aA) mW) rfl ?_
    (have aZ:fm (cN {st with last:=la} (fh l)) H 0 iL 5:=⟨cY,gd,ge,gf,gg,gh,hRd.keys,hRd.lo⟩)
    refine dn (MR dD aZ hes her cZ (hinv.rw'.Su ah la (fh l)) w0 ws hwd (ta ah hwd).1 (ta ah hwd).2) (aG aa aN) Ky trivial rfl (λjL jM dH=>?_) (λjN jO dH=>?_)
    rotate_left
    ·
     repeat (first|refine eG ?_|refine gJ ?_|refine zB ?_)
     (rcases dH with⟨c_,e_,he_,hr_,rfl,hz_⟩;have hst_:=hinv.stop hl' hwd he_ hr_;rw [<- hinv.rw'.cnt]at hst_;exact F8 (Bg rfl (hz_.at_ cH (KR.not aZ cH aD rfl)) (hz_.at_ cF (KR.not aZ cF aD rfl)) (hz_.at_ cE (KR.not aZ cE aD rfl)) aD aD aD) (λm' hm_=>Bh hst_ cr cu cv hm_.1 hm_.2.1 hm_.2.2))
    obtain⟨hE,rfl,H2,la2,hR2,br⟩:=dH;have iM:=br.at_ cD (KR.not aZ cD aD rfl);have iN:=br.at_ cE (KR.not aZ cE aD rfl);have iO:=br.at_ cF (KR.not aZ cF aD rfl);have iP:=br.at_ cH (KR.not aZ cH aD rfl);have iQ:=br.at_ cZ (KR.not aZ cZ aD rfl);have iS:=br.at_ dC (KR.not aZ dC aD rfl);obtain⟨jP,iT,jQ⟩:=br.len_ dD;refine bu (ag gn) (ag gp) (ag gr) (ag dG) ?_;clear gn gt gp gr dG;intro jR jS jT jU jV;refine cG<|F3 iS ⟨⟨fN (cN st (fh l)) w0 ws,la2,H2⟩,(iM.trans cO.symm),(iN.trans cP.symm),(iO.trans cR.symm),(iP.trans cS.symm),(iQ.trans cT.symm),⟨_,iT,ah⟩,?_⟩
    (refine⟨hinv.step hl' hwd (ta ah hwd).1 hE,?_⟩;have hR3:=hR2;rw [Nb,Na]at hR3;exact hR3)
   replace bq:=bf bq
   (have hwd:ee (fh l) 0= []:=Uw.1 ah)
   refine bF<|cG<|F3 dC ⟨⟨cN st (fh l),la,H⟩,(cD.trans cO.symm),(cE.trans cP.symm),(cF.trans cR.symm),(cH.trans cS.symm),(cZ.trans cT.symm),⟨_,dD,ah⟩,?_⟩
   exact⟨hinv.skip hl' hwd,⟨cY,gd,ge,gf,gg,gh,hRd.keys,hRd.lo⟩⟩
  ·rintro iD iG ⟨⟨st,la,H⟩,cw,cy,cz,cA,cB,⟨fF,bP,dt⟩,hinv⟩ cW;have bQ:=cw.trans cO;have bT:=cy.trans cP;have bX:=cz.trans cR;have bZ:=cA.trans cS;have cX:=cB.trans cT
   (obtain⟨hinv,hRd⟩:=hinv;rw [SZ]at hinv;have hlast:=hinv.last;have hb:=hRd.box;have hJ:=hRd.J;have hB:=hRd.B;have hS:=hRd.S;have hM:=hRd.M;have hF:=hRd.fam;obtain⟨⟨x1,x2,x3,x4⟩,⟨x5,x6,x7⟩,x8,x9,x10⟩:=hRd.ne;obtain⟨u11,u12,u13,u14⟩:=hRd.off bZ aD rfl;obtain⟨u21,u22,u23,u24⟩:=hRd.off bX aD rfl;obtain⟨u31,u32,u33,u34⟩:=hRd.off bT aD rfl)
   have gu:=hb;simp only [pS,Value.cells,Nat.reduceAdd,aW,aY,aQ,eR]at gu;have gv:=hJ;simp only [pS,Value.cells,Nat.reduceAdd,aW,aY,aQ,eR]at gv;have gw:=hB;simp only [pS,Value.cells,Nat.reduceAdd,aW,aY,aQ,eR]at gw;have gx:=hS;simp only [pS,Value.cells,Nat.reduceAdd,aW,aY,aQ,eR]at gx;have iV:=hM;have iW:=hF;refine cG<|ao<|zX ?_
   refine ax<|at_<|ar (az (aK qw rfl bQ cV aA) mW) rfl ?_
   refine dn (KB bP hRd hinv.rw' ah) (aG aa aN) Kz trivial rfl (λjW jX dI=>?_) (λjY jZ dI=>?_)
   rotate_left
   ·
    repeat (refine eG ?_)
    (rcases dI with⟨k_,c_,e_,hf_,rfl,hz_⟩;exact F8 (Bg rfl (hz_.at_ bZ aL) (hz_.at_ bX aL) (hz_.at_ bT aL) aD aD aD) (λm' hm_=>Bh (hlast.trans hf_) (ae cr) (ae cu) (ae cv) hm_.1 hm_.2.1 hm_.2.2))
   obtain⟨hfin,rfl,aC⟩:=dI;have dJ:=aC.at_ bQ dZ;have gy:=aC.at_ bT dZ;have gz:=aC.at_ bX dZ;have c6:=aC.at_ bZ dZ;have gA:=aC.at_ cX dZ;have gB:=aC.at_ cW dZ;have dK:=aC.at_ gu dZ;have dL:=aC.at_ gv dZ;have dM:=aC.at_ gw dZ;have dN:=aC.at_ gx dZ;have gC:=aC.at_ iV dZ;have gD:=iW.all aC (λq_ h1_ h2_ h_=>h_.elim);obtain⟨j0,iX,j1⟩:=aC.len_ bP;refine bu (ag cr) (ag cu) (ag cv) (ag cV) ?_;clear dq cr cu cv cV;intro j3 dO dP dQ gE;refine ao<|ax<|at_<|ar (az (aK qw rfl dJ gE aA) mW) rfl ?_
   refine ar (bU aa) rfl<|ar (aJ ky rfl aa) rfl<|ar (az (aK yj rfl dK aa aA) mW) rfl ?_
   refine ar (cU bW mi mh mg rfl) rfl ?_;refine aM (Js (ae (ai dO)) (ae aa) rfl (Qq rfl (zA dL (zA dM (zA dN LD)))) c6 jI rfl aA) trivial rfl (λj4 an=>?_);have dR:=bo an c6;simp only [pS,Value.cells,Nat.reduceAdd,aW,aY,aQ,eR]at dR;have gF:=au an dJ aD;have gH:=au an gy aD;have c7:=au an gz aD;have gI:=au an gA aD;have gL:=au an gB aD;have gM:=au an dK aD;have gN:=au an dL ah;have gO:=au an dM ah;have gP:=au an dN ah;have gQ:=au an gC ah;have gR:=bM.au an gD c6 rfl;have iY:=bh an iX;clear an dJ gy gz c6 gA gB dK dL dM dN gC gD;refine aM (bV (aE (ae (ai dP))) (aE aa) rfl rfl c7 kc rfl aA) trivial rfl (λj5 ap=>?_);have dS:=bo ap c7;simp only [pS,Value.cells,Nat.reduceAdd,aW,aY,aQ,eR]at dS;have gS:=au ap dR aD;have gT:=au ap gF aD;have c8:=au ap gH aD;have gU:=au ap gI aD;have gV:=au ap gL aD;have gW:=au ap gM aD;have gY:=au ap gN ah;have gZ:=au ap gO ah;have g0:=au ap gP ah;have g1:=au ap gQ ah;have g2:=bM.au ap gR c7 rfl;have i6:=bh ap iY;clear ap dR gF gH c7 gI gL gM gN gO gP gQ gR;refine aM (bV (aE (aE (ae (ai dQ)))) aw rfl rfl c8 sX rfl aA) trivial rfl (λj6 av=>?_);have dT:=bo av c8;simp only [pS,Value.cells,Nat.reduceAdd,aW,aY,aQ,eR]at dT;have g3:=au av dS aD;have g4:=au av gS aD;have i7:=au av gT aD;have i8:=au av gU aD;have ja:=au av gV aD;have jb:=au av gW aD;have g5:=au av gY ah;have g6:=au av gZ ah;have g7:=au av g0 ah;have jc:=au av g1 ah;have jd:=bM.au av g2 c8 rfl;have je:=bh av i6;clear av dS gS gT c8 gU gV gW gY gZ g0 g1 g2;refine bB (aE (aE (aE (ae (ai dO))))) (aE (aE (aE (ae (ai dP))))) (aE (aE (aE (ae (ai dQ))))) ?_;clear dO dP dQ gE;intro j7 g8 g9 hh;refine ao<|bm<|QA ?_
   refine mm bp aj (dz g8 g4 yj aA aL) (dz g9 g3 DJ aA aL) (dz hh dT DK aA aL) (eh (k9 (cQ (.ro _ rfl) (cQ (.own _ _ _ _ g5) (cQ (.own _ _ _ _ g6) (cQ (.own _ _ _ _ g7) gG)))))) (eh (.ro _ rfl)) (ti (.ro _ rfl)) ?_;clear g8 g9 hh dT g3 g4 i7 i8 ja jb g5 g6 g7 jc jd je
   (rw [hlast,hfin];rfl)
end
end Go.Proofs.YtfoaiidcfkmneaaGreatDoor
namespace Go.Proofs.YtfoaiidcfkmneaaGreatDoor
open Go Go.RowKit Go.Proofs
theorem KD:(Tryz.prog.info? 113).bind (·.zero)=some (.agg #[.string ByteArray.empty,.slice none 0 0,.slice none 0 0,.slice none 0 0,.slice none 0 0]):=by kernel_rfl
theorem KE:Tryz.prog.underlying 113=some (.struct (eX Tryz.prog 113)):=by kernel_rfl
theorem KF:∀ w,((eX Tryz.prog 113).mapM λf=>Prod.mk f.offset<$>sizeOf f.type:Sem (Array (Nat×Nat))).run Tryz.prog w= .ok (#[(0,4),(4,1)]) w:=λ_=>by kernel_rfl
theorem DL:b9 Tryz.prog 24 76 2 16 (.agg #[.int .i64 0,.int .i64 0]):=⟨aj,aj,aj⟩
theorem uQ:b9 Tryz.prog 64 3 1 8 (.int .i64 0):=⟨aj,aj,aj⟩
theorem NF:aV Tryz.prog 24 false 1:=⟨aj,aj⟩
theorem DN:aV Tryz.prog 27 true 4:=⟨aj,aj⟩
theorem FH:aV Tryz.prog 3 false 1:=⟨aj,aj⟩
theorem DO:aV Tryz.prog 64 false 1:=⟨aj,aj⟩
theorem NG:aV Tryz.prog 76 true 2:=⟨aj,aj⟩
def fy(bs:List g9)(n:Nat):List Int:=(List.range (n+1)).map (cy bs)
def ko(l:bN):AV:=.ref (lu l++ [.row 1 ((fy l.bs l.bs.length).map iE)])
theorem NH{bs:List g9}{n:Nat}:fy bs (n+1)=fy bs n++ [cy bs n+(bs.getD n default).len]:=by
 unfold fy;rw [UK,List.map_append];rfl
theorem pa{bs:List g9}{n:Nat}:(fy bs n).length =n+1:=by simp [fy]
theorem kV{bs:List g9}{n j:Nat}(h:j<=n):(fy bs n).getD j default=cy bs j:=by
 rw [SO];simp [fy,UA (show j<n+1 by omega)]
theorem NI(l:bN)(hl:fw l)(hg:(cg l).2=0)(hb:l.bs.length<=1000)(hp:∀ j:Nat,j<l.bs.length->0<=(l.bs.getD j default).len /\(l.bs.getD j default).len <=30000):bT Tryz.prog 24 [gA l] (λq=>q= .tuple [ko l,mA 0]):=by
 refine cA (fn:=Tryz.f24) 50 aj rfl aj bO ?_;intro dz dA hA cm;have co:al dz (.tmp 0)=_:=hA 0 _ rfl;have bx:dA.length=0:=by rw [cm];rfl
 clear hA cm;refine ax<|at_<|aM (fD co rfl bx) trivial rfl (λeg bA=>?_)
 have aX:=bS bA bx
 (try simp only [pS,Value.cells,Nat.reduceAdd,dx,bG,bC]at aX)
 have aF:=bR bA bx;have aF:_=1:=aF;clear bA;refine ar (aB aw) rfl<|ar (aB aw) rfl<|bn (ag aa) ?_;clear co;intro eh bE
 refine ao<|ax<|ax<|at_<|ar (az (aK DN rfl aX bE lF) mX) rfl ?_
 refine ar (bI (aG aa aN) rfl (w8 l hl) zg) rfl<|ar (ak aa) rfl<|ar (cF aa rfl) rfl<|ar (cF (ae aa) rfl) rfl<|aM (cJ re rfl aF) trivial rfl (λen aZ=>?_)
 have a2:=bS aZ aF
 (try simp only [pS,Value.cells,Nat.reduceAdd,dx,bG,bC]at a2)
 have cq:=aI aZ aX;have bH:=bR aZ aF;have bH:_=2:=bH;clear aZ aX;refine aM (bV aa (ag aa) rfl rfl a2 jK rfl lF) trivial rfl (λer a3=>?_);have a5:=bo a3 a2
 (try simp only [pS,Value.cells,Nat.reduceAdd,dx,bG,bC]at a5)
 have a6:=au a3 cq aD;have a7:=bh a3 bH;clear a3 a2 cq;refine ar (aB (aE (ae aa))) rfl<|bD (ae (aE (ag (ai bE)))) aa ?_;clear bE;intro eu cr bK
 refine ao<|ax<|at_<|ar (ak bK) rfl<|ar (fp aa aw) rfl<|bB (ag cr) (ag bK) aa ?_;clear cr bK;intro ev a8 bM bP
 refine ao<|bk bP (λab=>?_) (λab=>?_)
 ·skip
  first
  |(cases ab;done)|((replace ab:=ff ab);exfalso;omega)|((first|(simp at ab;done)|(exact absurd hg (by simpa using ab))))
  |((first|replace ab:=ff ab|replace ab:=eY ab|replace ab:=bt ab|replace ab:=bf ab|replace ab:=cT ab|replace ab:=di ab|skip)
    refine ax<|at_<|ar (ak bM) rfl<|ar (aB aw) rfl<|ar (aB (ae aa)) rfl<|bD (ae aa) aa ?_;clear bP a8 bM;intro ew ct cu
    refine ao<|bm<|bw<|dP bp aj (aR ct) (aR cu) (.ro _ rfl) (.ro _ rfl) ?_
    clear ct cu a5 a6 a7;rfl)
 ·skip
  first
  |(cases ab;done)|((replace ab:=eY ab);exfalso;omega)|((first|(simp at ab;done)|(exact absurd hg (by simpa using ab))))
  |((replace ab:=eY ab)
    refine bF<|ao<|ax<|at_<|ar (az (aK DN rfl a6 a8 lF) mX) rfl ?_
    refine aM (Qk uQ a7 (bz aw bW) rfl rfl rfl rfl) trivial rfl (λey aO=>?_);have bQ:=bS aO a7
    (try simp only [pS,Value.cells,Nat.reduceAdd,dx,bG,bC]at bQ)
    have cv:=aI aO a5;have cz:=aI aO a6;have aP:=bR aO a7;have aP:_=3:=aP;clear aO a5 a6;refine ar (cU (bz (ae aa) (bz aa bW)) KD KE KF rfl) rfl ?_;refine aM (fD aa rfl aP) trivial rfl (λcB aC=>?_);have cC:=bS aC aP
    (try simp only [pS,Value.cells,Nat.reduceAdd,dx,bG,bC]at cC)
    have dB:=aI aC bQ;have cD:=aI aC cv;have bX:=aI aC cz;have bY:=bR aC aP;have bY:_=4:=bY;clear aC bQ cv cz;refine ar (aB aa) rfl<|bD (ae (ai a8)) aa ?_;clear bP a8 bM;intro ez cH cK
    refine ao<|ax<|ax<|at_<|ar (aJ eK rfl cH) rfl<|ar (az (aK NF rfl bX aa lF) mX) rfl ?_
    refine ar (az (cx aa rfl DL.1) (by(simp only [dj]<;>rfl))) rfl ?_;refine ar (ak aw) rfl<|bu (ai cK) (ag aa) (ae aa) aa ?_;clear cH cK;intro bZ cM cN cO dC
    refine ao<|ca<|eL (S:=(Nat×Int×List Int)) (λs e mem=>match s with|⟨k,i,xs⟩=>(al e (.tmp 24)= .v (.int .i64 i))/\(al e (.tmp 6)=al bZ (.tmp 6))/\(al e (.tmp 22)=al bZ (.tmp 22))/\(al e (.tmp 23)=al bZ (.tmp 23))/\(mem[3]? =some (.box 113 [.v (.string l.nam),.row 4 (l.js.map dp),.row 2 (l.bs.map dx),.row 3 (l.ss.map ei),.own k]))/\(mem[k]? =some (.row 3 1 (xs.map iE)))/\(mem[1]? =cB[1]?)/\(mem[0]? =cB[0]?)/\(∃ n,mem.length=n/\4<=n)/\((2<=k/\k≠3/\0<=i/\i<=l.bs.length/\xs=fy l.bs i.toNat))) (λs=>match s with|⟨k,i,xs⟩=>(l.bs.length - i).toNat) ⟨_,_,[0]⟩ ⟨dC,rfl,rfl,rfl,cC,dB,rfl,rfl,⟨_,bY,SR _⟩,?_⟩ ?_
    ·(exact⟨ah,ah,ah,ah,rfl⟩)
    ·rintro⟨k,i,xs⟩ eA eB ⟨b0,dD,dE,dF,b1,a9,dG,dK,⟨ba,aS,eC⟩,hinv⟩;have cP:=dD.trans cM;have cQ:=dE.trans cN;have b2:=dF.trans cO;have b6:=dG.trans cD;have b7:=dK.trans bX;have eD:=cL a9 aS
     (obtain⟨q1,q2,p1,p2,p3⟩:=hinv;have hxl:xs.length=i.toNat+1:=(by rw [p3,pa]);have hbd:=yX hp (n:=i.toNat) ah;have hxi:xs.getD i.toNat default=cy l.bs i.toNat:=(by rw [p3];exact kV (SR _));have hpi:0<=(l.bs.getD i.toNat default).len /\(l.bs.getD i.toNat default).len <=30000:=(by by_cases h:i.toNat<l.bs.length;exact hp _ h;have h0:l.bs.getD i.toNat default=default:=(by rw [SO,S5 ah];rfl);rw [h0];exact⟨aD,aD⟩))
     refine ax<|at_<|ar (c6 b0 b2) rfl<|ck (ae cP) (ae cQ) (ae b2) (ae b0) aa ?_;clear cQ b2 b0 cP;intro eE b9 bb cb aT cc
     refine ao<|ax<|bk cc (λad=>?_) (λad=>?_)
     ·skip
      first
      |(cases ad;done)|((replace ad:=bt ad);exfalso;omega)|((first|(simp at ad;done)|(exact absurd hg (by simpa using ad))))
      |((replace ad:=bt ad)
        refine bF<|ao<|ax<|ca<|ax<|at_<|ar (ak aT) rfl<|ar (az (cE DL (ae bb) (ae aT) ah (by(refine dq ?_;omega))) mX) rfl ?_
        refine ar (az (bL NG rfl aa lF) mX) rfl ?_;refine aM (cJ v8 rfl aS) trivial rfl (λeF am=>?_);have bc:=bS am aS
        (try simp only [pS,Value.cells,Nat.reduceAdd,dx,bG,bC]at bc)
        have cR:=aI am b1;have cS:=aI am a9;have cV:=aI am b6;have cW:=aI am b7;have dL:=bR am aS;clear am b1 a9 b6 b7;refine ar (aB (ae (ag aa))) rfl<|aM (bV (ae aa) (ag aa) rfl rfl bc wm rfl lF) trivial rfl (λeG an=>?_)
        have cd:=bo an bc
        (try simp only [pS,Value.cells,Nat.reduceAdd,dx,bG,bC]at cd)
        have cX:=au an cR ah;have cZ:=au an cS ah;have c7:=au an cV ah;have c8:=au an cW ah;have be:=bh an dL;clear an bc cR cS cV cW;refine dH (aE (ae (ai b9))) (aE aa) (aE (ae aa)) (aE (ae (ai bb))) (aE (ae (ai cb))) (aE (ae (ai aT))) ?_;clear bb cb aT cc b9;intro eH aU c9 da dc dd de;refine ao<|iq 17 1 be aj aj aj aj (λdM af=>?_)
        have ce:=bJ af cd;have bj:=bJ af cX;have bq:=bJ af cZ;have df:=bJ af c7;have dg:=bJ af c8;have ci:dM[ba+1]? =_:=jk af be 0 rfl rfl;have dN:_=ba+1+1:=ir (K:=1) af be;clear af cd cX cZ c7 c8 be;refine bg (λM_ hM_=>(ak aU)) trivial ?_;refine bg (λM_ hM_=>(ak (ae aU))) trivial ?_;refine bg (λM_ hM_=>(bU aa)) trivial ?_;refine bg (λM_ hM_=>(aJ l4 rfl aa)) trivial ?_;refine db (3) (λM_ hM_=>(az (aK DO rfl (cI hM_ bj aL) aa lF) mX)) trivial trivial ?_;refine bg (λM_ hM_=>(ak (ae (ai aU)))) trivial ?_;refine bg (λM_ hM_=>(bU aa)) trivial ?_;refine bg (λM_ hM_=>(aJ l4 rfl aa)) trivial ?_;refine db (3) (λM_ hM_=>(az (aK DO rfl (cI hM_ bj aL) aa lF) mX)) trivial trivial ?_;refine bg (λM_ hM_=>(ak (ae (ay c9)))) trivial ?_;refine db (k) (λM_ hM_=>(ku uQ (cI hM_ bq aL) (ae aa) aa ah (by(simp only [dj]<;>omega)))) trivial trivial ?_;refine db (k) (λM_ hM_=>(az (nG FH rfl (cI hM_ bq aL) aa lF (by(refine dq ?_;omega))) mX)) trivial trivial ?_;refine bg (λM_ hM_=>(aJ mP rfl (ai (ay da)))) trivial ?_;refine db (ba) (λM_ hM_=>(az (aK FH rfl (cI hM_ ce aL) aa lF) mX)) trivial trivial ?_
        (refine bg (λM_ hM_=>(cf (ag aa) aa ?_)) trivial ?_; · (unfold In64;omega))
        refine bg (λM_ hM_=>(ep uQ (bz aa bW) rfl rfl rfl rfl)) trivial ?_;refine pI (ba+1) (k) (λM_ hM_=>(oc uQ rfl (cI hM_ bq aL) (ae (ag (ay aa))) aa dY (by(simp only [dj]<;>omega)))) trivial ci rfl trivial ⟨.inl b8,⟨.inl b8,⟨.inl b8,⟨.inl b8,⟨.inl b8,trivial⟩⟩⟩⟩⟩ ⟨.inl b8,⟨.inl b8,⟨.inr ((kG 16 15 aj).trans ((kG 15 14 aj).trans ((kG 14 11 aj).trans (kG 11 10 aj)))),⟨.inr ((kG 16 15 aj).trans ((kG 15 14 aj).trans (kG 14 11 aj))),⟨.inl b8,trivial⟩⟩⟩⟩⟩ (λeI ap=>?_);have br:=pO ap ci
        (try simp only [pS,Value.cells,Nat.reduceAdd,dx,bG,bC]at br)
        have dh:=cY ap ce ah ah;have cj:=cY ap bj ah ah;have dk:=cY ap df ah ah;have dl:=cY ap dg ah ah;have dO:=pD ap dN;clear ap ce bj bq df dg ci;refine iD rfl ?_;refine ar (bU (aH aa)) rfl<|ar (aJ l4 rfl aa) rfl<|aM (kR aa (ag aa) cj br rf lF) trivial rfl (λeP av=>?_)
        have dm:=bo av cj
        (try simp only [pS,Value.cells,Nat.reduceAdd,dx,bG,bC]at dm)
        have dQ:=au av br ah;have eS:=au av dh ah;have dR:=au av dk aD;have dS:=au av dl aD;have dT:=bh av dO;clear av br dh cj dk dl;refine bu (aE (ae (ag (aH aU)))) (aE (ae (ag (aH dc)))) (aE (ae (ag (aH dd)))) (aE (ae (ag (aH de)))) ?_;clear dc dd de aU c9 da;intro eT dn dr dt du;refine cG<|ao<|at_ ?_
        (refine ar (cf du aw ?_) rfl ?_; · (unfold In64;omega))
        refine ar (ak aa) rfl<|bu (ag dn) (ag dr) (ag dt) aa ?_;clear dr dt du dn;intro eU dU dV dW dX
        refine ao<|⟨⟨_,_,_⟩,⟨dX,(dU.trans cM.symm),(dV.trans cN.symm),(dW.trans cO.symm),dm,dQ,(dR.trans cD.symm),(dS.trans bX.symm),⟨_,dT,ah⟩,?_⟩,?_⟩
        ·(refine⟨ah,ah,ah,ah,?_⟩;rw [show(i+1).toNat =i.toNat+1 by omega,NH, <- p3, <- hxi])
        ·((try dsimp only);omega))
     ·skip
      first
      |(cases ad;done)|((replace ad:=bf ad);exfalso;omega)|((first|(simp at ad;done)|(exact absurd hg (by simpa using ad))))
      |((replace ad:=bf ad)
        refine dJ<|cw<|cw<|dI<|ao<|ax<|IP (o:=4) b9 b1 a9 ah rfl rfl (λeW aV bv aA=>?_)
        simp only [TA,Tu]at aA;have dZ:=au bv (au rfl b6 ah) aD;have ea:=au bv (au rfl b7 ah) aD;have eb:=bh bv (bh rfl aS);have dv:al aV (.tmp 6)=_:=(congrArg (λq=>al q (.tmp 6)) aA).trans aa;have ec:al aV (.tmp 22)=_:=(congrArg (λq=>al q (.tmp 22)) aA).trans (ae bb);have ed:al aV (.tmp 23)=_:=(congrArg (λq=>al q (.tmp 23)) aA).trans (ae cb);have ee:al aV (.tmp 24)=_:=(congrArg (λq=>al q (.tmp 24)) aA).trans (ae aT);have ef:al aV (.tmp 25)=_:=(congrArg (λq=>al q (.tmp 25)) aA).trans (ae cc);clear bv aA;refine at_<|ar (ak dv) rfl<|ar (aB aa) rfl<|ar (aB aw) rfl<|bD (ae aa) aa ?_;clear ec ed ee ef dv;intro eX dw dy
        refine ao<|bm<|dP bp aj (aR dw) (aR dy) (.ro _ rfl) (.ro _ rfl) ?_
        clear dw dy dZ ea eb
        (rw [p3,show i.toNat=l.bs.length by omega];rfl)))
theorem NJ:b9 Tryz.prog 23 74 4 32 (.agg #[.int .i64 0,.int .i64 0,.int .i64 0,.int .i64 0]):=⟨aj,aj,aj⟩
theorem DR:b9 Tryz.prog 64 3 1 8 (.int .i64 0):=⟨aj,aj,aj⟩
theorem NK:aV Tryz.prog 23 false 1:=⟨aj,aj⟩
theorem NL:aV Tryz.prog 27 true 4:=⟨aj,aj⟩
theorem P3:aV Tryz.prog 3 false 1:=⟨aj,aj⟩
theorem DT:aV Tryz.prog 64 false 1:=⟨aj,aj⟩
theorem yY{f:Nat->Int}:∀ {n i:Nat},gW f n=some i->i<n/\f i≠0
 | 0,_,h=>by cases h
 | n+1,i,h=>by
  simp only [gW]at h;cases h1:gW f n with
  | some k=>rw [h1]at h;cases h;exact⟨by have:=(yY h1).1;omega,(yY h1).2⟩
  | none=>
   rw [h1]at h
   by_cases h2:f n=0
   ·simp [h2]at h
   ·simp [h2]at h;subst h;exact⟨ah,h2⟩
theorem DU{f:Nat->Int}:∀ {n:Nat},gW f n=none-> ∀ j:Nat,j<n->f j=0
 | 0,_,j,hj=>by omega
 | n+1,h,j,hj=>by
  simp only [gW]at h;cases h1:gW f n with
  | some k=>rw [h1]at h;cases h
  | none=>
   rw [h1]at h
   by_cases h2:f n=0
   ·by_cases hjn:j=n
    ·rw [hjn];exact h2
    ·exact DU h1 j ah
   ·simp [h2]at h
theorem xF{k:Int}{f:Nat->Int}{n:Nat}{z:(Int×Int)×Int}(h:(jO k f n z).2=0):(∀ j:Nat,j<n->f j=0)/\z.2=0:=by
 unfold jO at h;cases h1:gW f n with
 | some i=>rw [h1]at h;exact absurd h (yY h1).2
 | none=>rw [h1]at h;exact⟨DU h1,h⟩
structure eZ (l:bN):Prop where
 nam:dX l.nam=true
 n0:1<=l.bs.length
 n1:l.bs.length<=40
 js:l.js.length=l.bs.length+1
 ja:∀ j:Nat,j<l.js.length->kM (l.js.getD j default)=0
 ba:∀ j:Nat,j<l.bs.length->lq (l.bs.getD j default)=0
 s1:l.ss.length<=4
 sa:∀ j:Nat,j<l.ss.length->gV l j=0
theorem pH{l:bN}(h:(cg l).2=0):eZ l:=by
 unfold cg at h
 split at h
 ·cases h
 split at h
 ·cases h
 split at h
 ·cases h
 obtain⟨h1,h⟩:=xF h;obtain⟨h2,h⟩:=xF h
 split at h
 ·cases h
 obtain⟨h3,_⟩:=xF h
 rename_i a b c d
 exact⟨by simp_all,ah,ah,ah,h1,h2,ah,h3⟩
theorem nD{n lo hi:Int}:eC n lo hi=true↔lo<=n/\n<=hi:=by simp [eC]
theorem Q5{n lo hi:Int}:rz n lo hi=0↔lo<=n/\n<=hi:=by
 unfold rz;rw [<- nD];cases eC n lo hi<;>simp
theorem eZ.kq{l:bN}(h:eZ l)(j:Nat)(hj:j<l.bs.length):1000<=(l.bs.getD j default).len /\(l.bs.getD j default).len <=30000/\ -300<=(l.bs.getD j default).cant /\(l.bs.getD j default).cant <=300:=by
 have:=h.ba j hj;unfold lq at this
 split at this
 ·rename_i hb
  simp only [nj,fG,SS,nD]at hb;omega
 ·cases this
theorem eZ.nC{l:bN}(h:eZ l)(j:Nat)(hj:j<l.js.length):(-20000<=(l.js.getD j default).acr /\(l.js.getD j default).acr <=20000)/\(-20000<=(l.js.getD j default).up /\(l.js.getD j default).up <=20000)/\ -100<=(l.js.getD j default).lo /\(l.js.getD j default).hi <=100/\(l.js.getD j default).lo <=(l.js.getD j default).hi :=by
 have:=h.ja j hj;unfold kM at this
 split at this
 ·rename_i hb
  split at this
  ·simp only [jh,fG,SS,nD]at hb;omega
  ·cases this
 ·cases this
theorem eZ.len{l:bN}(h:eZ l):∀ j:Nat,j<l.bs.length->0<=(l.bs.getD j default).len /\(l.bs.getD j default).len <=30000:=λj hj=>by have:=h.kq j hj;omega
theorem eZ.qc{l:bN}(h:eZ l){n:Nat}(hn:n<=l.bs.length):0<=cy l.bs n/\cy l.bs n<=1200000:=by
 have:=yX h.len hn;have:=h.n1;omega
theorem xq(l:bN)(hl:fw l)(hg:(cg l).2=0):bT Tryz.prog 24 [gA l] (λq=>q= .tuple [ko l,mA 0]):=NI l hl hg (by have:=(pH hg).n1;omega) (pH hg).len
theorem BL(l:bN)(h:eZ l):bT Tryz.prog 25 [ko l] (λq=>q=mA (cy l.bs l.bs.length)):=by
 refine cA (fn:=Tryz.f25) 15 aj rfl aj bO ?_;intro an ap hA ad;have af:al an (.tmp 0)=_:=hA 0 _ rfl;have au:ap.length=0:=by rw [ad];rfl
 clear hA ad;have hpl:=pa (bs:=l.bs) (n:=l.bs.length);have hn1:=h.n1;have hn0:=h.n0;refine ax<|at_<|ar (aB aw) rfl<|bn (ae af) ?_;clear af;intro av ab
 refine ao<|ax<|eu 13 aj aj aj aj ?_
 refine dr (ak ab) rfl<|dr (fY aa) rfl<|dr (az (cj l4 rfl aa) bQ) rfl ?_
 refine dr (az (bL DT rfl aa aA) bQ) rfl ?_;refine dr (ak (ai ab)) rfl<|dr (fY aa) rfl<|dr (az (cj l4 rfl aa) bQ) rfl ?_
 refine dr (az (bL DT rfl aa aA) bQ) rfl ?_;refine dr (az (cx aa rfl DR.1) ct) rfl ?_
 (refine dr (eU aa aw ?_) rfl ?_; · (unfold In64;omega))
 refine dr (az (cE DR (ag (ai aa)) aa ah (by(refine dq ?_;omega))) bQ) rfl ?_;refine dr (az (bL P3 rfl aa aA) bQ) rfl ?_;refine dr (aB aa) rfl<|dE<|bn aa ?_;clear ab;intro ay am
 refine ao<|bm<|bX bp aj (aR am) (.ro _ rfl) ?_
 clear am au
 (rw [show((fy l.bs l.bs.length).length - 1:Int).toNat =l.bs.length by omega,kV (SR _)])
theorem H9(l:bN)(h:eZ l)(n:Int):bT Tryz.prog 28 [ko l,mA n] (λq=>q=mA (rz n 1 (l.js.length - 2))):=by
 refine cA (fn:=Tryz.f28) 15 aj rfl aj bO ?_;intro ab au hA ad;have af:al ab (.tmp 0)=_:=hA 0 _ rfl;have ah:al ab (.tmp 1)=_:=hA 1 _ rfl;have av:au.length=0:=by rw [ad];rfl
 clear hA ad;have hn1:=h.n1;have hn0:=h.n0;have hj:=h.js;refine ax<|at_<|ar (aB aw) rfl<|bD (ae af) (ae ah) ?_;clear af ah;intro ay am an
 refine ao<|ax<|at_<|ar (ak an) rfl<|ar (ak (ae am)) rfl<|ar (fY aa) rfl<|ar (az (cj jj rfl aa) bQ) rfl ?_
 refine ar (az (cj fk rfl aa) bQ) rfl ?_;refine ar (az (bL NK rfl aa aA) bQ) rfl ?_;refine ar (az (cx aa rfl NJ.1) ct) rfl ?_
 (refine ar (eU aa aw ?_) rfl ?_; · (unfold In64;omega))
 refine ar (bI (aG (ae (ag (ai aa))) (aG aw (aG aa aN))) rfl (mG _ _ _) mU) rfl<|ar (bI (aG aa (aG aw aN)) rfl (fJ _ _) fK) rfl<|ar (aB aa) rfl<|bn aa ?_;clear am an;intro aC ap
 refine ao<|bm<|bX bp aj (aR ap) (.ro _ rfl) ?_
 clear ap av;rfl
theorem HQ(l:bN)(hl:fw l)(hg:(cg l).2=0):bT Tryz.prog 8 [gA l] (λq=>q= .tuple [mA (cy l.bs l.bs.length),mA 0]):=by
 refine cA (fn:=Tryz.f8) 16 aj rfl aj bO ?_;intro aF aH hA am;have an:al aF (.tmp 0)=_:=hA 0 _ rfl;have ad:aH.length=0:=by rw [am];rfl
 clear hA am;refine ax<|at_<|aM (fD an rfl ad) trivial rfl (λaJ af=>?_)
 have ap:=bS af ad;have ah:=bR af ad;have ah:_=1:=ah;clear af;refine ar (aB aw) rfl<|ar (aB aw) rfl<|bn (ag aa) ?_;clear an;intro aL au
 refine ao<|ax<|at_<|ar (az (aK NL rfl ap au aA) bQ) rfl ?_
 refine ar (bI (aG aa aN) rfl (xq l hl hg) zf) rfl<|ar (ak aa) rfl<|ar (cF aa rfl) rfl<|ar (cF (ae aa) rfl) rfl<|ar (aB (ae aa)) rfl<|ar (aB (ae aa)) rfl<|bD (ae aa) aa ?_;clear au;intro aO av ai
 refine ao<|ax<|ax<|at_<|ar (ak ai) rfl<|ar (fp aa aw) rfl<|bB (ag av) (ag ai) aa ?_;clear av ai;intro aP ay aI aC
 refine ao<|bk aC (λab=>?_) (λab=>?_)
 ·replace ab:=ff ab;exfalso;omega
 replace ab:=eY ab;refine bF<|ao<|ax<|at_<|ar (ak ay) rfl<|ar (bI (aG aa aN) rfl (BL l (pH hg)) FP) rfl<|ar (aB aa) rfl<|ar (aB aw) rfl<|bD (ae aa) aa ?_;clear aC ay aI;intro aS aD aE
 refine ao<|bm<|dP bp aj (aR aD) (aR aE) (.ro _ rfl) (.ro _ rfl) ?_
 clear aD aE ap ah;rfl
theorem KG:∀ args w,(callFunc 70 args).run Tryz.prog w= .ok (.enter 70 args) w:=λ_ _=>by kernel_rfl
theorem KH:∀ args w,(callFunc 87 args).run Tryz.prog w= .ok (.enter 87 args) w:=λ_ _=>by kernel_rfl
theorem KI:∀ args w,(callFunc 88 args).run Tryz.prog w= .ok (.enter 88 args) w:=λ_ _=>by kernel_rfl
theorem DV:b9 Tryz.prog 24 76 2 16 (.agg #[.int .i64 0,.int .i64 0]):=⟨aj,aj,aj⟩
theorem qx:b9 Tryz.prog 64 3 1 8 (.int .i64 0):=⟨aj,aj,aj⟩
theorem DW:aV Tryz.prog 24 false 1:=⟨aj,aj⟩
theorem sG:aV Tryz.prog 3 false 1:=⟨aj,aj⟩
theorem yk:aV Tryz.prog 64 false 1:=⟨aj,aj⟩
theorem yZ(n:Int):bT Tryz.prog 68 [mA n] (λq=>q=eI false):=by
 refine cA (fn:=Tryz.f68) 6 aj rfl aj bO ?_;intro ah ai hA ad;have af:al ah (.tmp 0)=_:=hA 0 _ rfl;have am:ai.length=0:=by rw [ad];rfl
 clear hA ad;refine ax<|at_<|ar (aB aw) rfl<|bn (ae af) ?_;clear af;intro an ab
 refine ao<|ax<|at_<|ar (ak ab) rfl<|ar (ak (ae ab)) rfl<|ar (fp (ae aa) aa) rfl<|ar (aB aa) rfl<|bn aa ?_;clear ab;intro ap ag
 refine ao<|bm<|bX bp aj (aR ag) (.ro _ rfl) ?_
 clear ag am;simp
theorem P4(n:Int):bT Tryz.prog 88 [mA n] (λq=>q=eI false):=by
 refine cA (fn:=Tryz.f88) 6 aj rfl aj bO ?_;intro ah ai hA ad;have af:al ah (.tmp 0)=_:=hA 0 _ rfl;have am:ai.length=0:=by rw [ad];rfl
 clear hA ad;refine ax<|at_<|ar (aB aw) rfl<|bn (ae af) ?_;clear af;intro an ab
 refine ao<|ax<|at_<|ar (ak ab) rfl<|ar (ak (ae ab)) rfl<|ar (fp (ae aa) aa) rfl<|ar (aB aa) rfl<|bn aa ?_;clear ab;intro ap ag
 refine ao<|bm<|bX bp aj (aR ag) (.ro _ rfl) ?_
 clear ag am;simp
theorem P5(m n:Int):bT Tryz.prog 87 [mA m,mA n] (λq=>q=eI (decide (m<n))):=by
 refine cA (fn:=Tryz.f87) 17 aj rfl aj bO ?_;intro af av hA ah;have ai:al af (.tmp 0)=_:=hA 0 _ rfl;have am:al af (.tmp 1)=_:=hA 1 _ rfl;have az:av.length=0:=by rw [ah];rfl
 clear hA ah;refine ax<|at_<|ar (aB aw) rfl<|bD (ae ai) (ae am) ?_;clear ai am;intro aA ad an
 refine ao<|ax<|at_<|ar (ak ad) rfl<|ar (bI (aG aa aN) rfl (yZ _) zj) rfl<|ar (ak aa) rfl<|bK aa (λab ap=>?_) (λab ap=>?_)
 ·cases ap
 refine aC ⟨_,rfl,.inl ab⟩ rfl ?_;refine aC ⟨_,rfl,.inl (ae ab)⟩ rfl ?_;refine aC ⟨_,rfl,.inl (ag ab)⟩ rfl ?_;refine ar (br (ae (ag ab)) aw) rfl<|ar (ak aa) rfl<|aF (ak (ay ad)) ⟨_,rfl,aa⟩ rfl ?_
 refine aF (ak (ae (ay an))) ⟨_,rfl,(ae aa)⟩ rfl ?_;refine aF (c6 (ae aa) aa) ⟨_,rfl,(ag aa)⟩ rfl ?_;refine ar (br (ae (ag aa)) aa) rfl<|ar (aB aa) rfl<|bn aa ?_;clear ab ad an;intro aD au
 refine ao<|bm<|bX bp aj (aR au) (.ro _ rfl) ?_
 clear au az;rfl
def rG(xs:List Int)(t:Int)(i:Nat):Prop:=∀ k:Nat,k<i->xs.getD k default<t
def oL(xs:List Int)(t:Int)(i:Nat):Prop:=∀ k:Nat,i<=k->k<xs.length->t<=xs.getD k default
def wU(xs:List Int):Prop:=∀ i j:Nat,i<=j->j<xs.length->xs.getD i default<=xs.getD j default
def fu(xs:List Int)(t:Int):Nat:=(xs.takeWhile (λx=>decide (x<t))).length
theorem vw{t:Int}:∀ {xs:List Int} {i:Nat},i<=xs.length->rG xs t i->oL xs t i->fu xs t=i
 | [],i,h,_,_=>by simp at h;subst h;rfl
 | x::xs,0,_,_,h=>by
  have:=h 0 (SR _) aL;simp at this;simp [fu,show ¬ x<t by omega]
 | x::xs,i+1,h,hb,ha=>by
  have:=hb 0 ah;simp at this;have ih:=vw (xs:=xs) (i:=i) (t:=t) kD (λk hk=>by have:=hb (k+1) ah;simpa using this) (λk h1 h2=>by have:=ha (k+1) ah (by simpa using h2);simpa using this);unfold fu at ih ⊢;simp [this,ih]
theorem rG.step{xs:List Int}{t:Int}(hs:wU xs){i:Nat}(hi:i<xs.length)(h:xs.getD i default<t):rG xs t (i+1):=λk hk=>by
 have:=hs k i ah hi;omega
theorem oL.step{xs:List Int}{t:Int}(hs:wU xs){i:Nat}(h:t<=xs.getD i default):oL xs t i:=λk h1 h2=>by
 have:=hs i k h1 h2;omega
theorem KJ(xs:List Int)(t:Int)(hs:wU xs)(hl:xs.length<=1000000):bT Tryz.prog 70 [.row 1 (xs.map iE),mA t] (λq=>q= .tuple [mA (fu xs t),eI (decide (fu xs t<xs.length/\xs.getD (fu xs t) default=t))]):=by
 refine cA (fn:=Tryz.f70) 54 aj rfl aj bO ?_;intro bg bV hA bh;have bj:al bg (.tmp 0)=_:=hA 0 _ rfl;have bn:al bg (.tmp 1)=_:=hA 1 _ rfl;have bW:bV.length=0:=by rw [bh];rfl
 clear hA bh;refine ax<|at_<|ar (aB aw) rfl<|ar (aB aw) rfl<|bD (ag bj) (ag bn) ?_;clear bj bn;intro ci aV bo
 refine ao<|ax<|at_<|ar (ak aV) rfl<|ar (az (cx aa rfl qx.1) ct) rfl ?_
 refine ar (aB aa) rfl<|bB (ae (ag aV)) (ae (ag bo)) aa ?_;clear aV bo;intro cj bu bv aX
 refine ao<|ax<|at_<|ar (ak aX) rfl<|ar (aB aw) rfl<|ar (aB (ae aa)) rfl<|ck (ae (ag bu)) (ae (ag bv)) (ae (ag aX)) (ae aa) aa ?_;clear bu bv aX;intro aZ a2 a3 a5 bX bY
 refine ao<|ax<|ca<|eL (S:=(Int×Int)) (λs e mem=>match s with|⟨i,j⟩=>(al e (.tmp 7)= .v (.int .i64 i))/\(al e (.tmp 8)= .v (.int .i64 j))/\(al e (.tmp 0)=al aZ (.tmp 0))/\(al e (.tmp 1)=al aZ (.tmp 1))/\(al e (.tmp 6)=al aZ (.tmp 6))/\(mem.length=0)/\((0<=i/\i<=j/\j<=xs.length/\rG xs t i.toNat/\oL xs t j.toNat))) (λs=>match s with|⟨i,j⟩=>(j - i).toNat) ⟨_,_⟩ ⟨bX,bY,rfl,rfl,rfl,bW,?_⟩ ?_
 ·(exact⟨ah,ah,ah,λk hk=>absurd hk aL,λk h1 h2=>absurd h1 ah⟩)
 ·rintro⟨i,j⟩ cm co ⟨a6,a7,bZ,b0,b1,av,hinv⟩;have bw:=bZ.trans a2;have bx:=b0.trans a3;have bz:=b1.trans a5
  (obtain⟨p1,p2,p3,p4,p5⟩:=hinv)
  refine ax<|ax<|at_<|ar (ak a6) rfl<|ar (ak (ae a7)) rfl<|ar (c6 (ae aa) aa) rfl<|dH (ae (ag bw)) (ae (ag bx)) (ae (ag bz)) (ae (ag a6)) (ae (ag a7)) aa ?_;clear bw bx bz a6 a7;intro cq am an ap af au aE
  refine ao<|bk aE (λaI=>?_) (λaI=>?_)
  ·replace aI:=bt aI;refine bF<|ao<|ca<|ax<|at_<|ar (ak af) rfl<|ar (ak (ae au)) rfl ?_
   (refine ar (cf (ae aa) aa ?_) rfl ?_; · ((unfold In64);omega))
   (refine ar (vO aa aj aj ?_) rfl ?_; · ((unfold cO);omega))
   refine ar (qZ (c:=2) aa aw aD aD) rfl ?_
   (refine ar (vP aa aj aj ?_) rfl ?_; · ((unfold In64);omega))
   refine ar (aB aa) rfl<|dH (ae (ag (ai am))) (ae (ag (ai an))) (ae (ag (ai ap))) (ae (ag (ai af))) (ae (ag (ai au))) aa ?_;clear am aE an ap af au;intro cr a8 a9 bA bE bH ba
   refine ao<|ax<|at_<|ar (ak a8) rfl<|ar (ak (ae ba)) rfl<|ar (az (cE qx (ae aa) aa ah (by(refine dq ?_;omega))) bQ) rfl ?_
   refine ar (az (bL sG rfl aa aA) bQ) rfl ?_;refine ar (ak (ai a9)) rfl<|ar (bI (aG (ae aa) (aG aa aN)) rfl (P5 _ _) KH) rfl<|fe (ag (ai a8)) (ag (ai a9)) (ag (ai bA)) (ag (ai bE)) (ag (ai bH)) (ag (ai ba)) aa ?_;clear a8 a9 bA bE bH ba;intro cu aP aS aT bb bc aU be
   refine ao<|bk be (λaJ=>?_) (λaJ=>?_)
   ·replace aJ:=bt aJ;refine at_<|ar (ak aU) rfl ?_
    (refine ar (cf aa aw ?_) rfl ?_; · ((unfold In64);omega))
    refine ar (aB aa) rfl<|ck (ae (ag aP)) (ae (ag aS)) (ae (ag aT)) aa (ae (ag bc)) ?_;clear aP aS be aT bb bc aU;intro cv b2 b6 b7 b8 b9
    refine cG<|ao<|⟨⟨_,_⟩,⟨b8,b9,(b2.trans a2.symm),(b6.trans a3.symm),(b7.trans a5.symm),av,?_⟩,?_⟩
    ·(have hk:xs.getD ((i+j)/2).toNat default<t:=(by assumption);refine⟨ah,ah,ah,?_,p5⟩;rw [show((i+j)/2+1).toNat =((i+j)/2).toNat +1 by omega];exact rG.step hs ah hk)
    ·((try dsimp only);omega)
   replace aJ:=bf aJ;refine at_<|ar (ak aU) rfl<|ar (aB aa) rfl<|ck (ag aP) (ag aS) (ag aT) (ag bb) aa ?_;clear aP aS be aT bb bc aU;intro cy cb cc cd ce cg
   refine cG<|ao<|⟨⟨_,_⟩,⟨ce,cg,(cb.trans a2.symm),(cc.trans a3.symm),(cd.trans a5.symm),av,?_⟩,?_⟩
   ·(have hk:t<=xs.getD ((i+j)/2).toNat default:=ah;exact⟨ah,ah,ah,p4,oL.step hs hk⟩)
   ·((try dsimp only);omega)
  replace aI:=bf aI;refine dJ<|cw<|cw<|dI<|ao<|ax<|at_<|ar (ak af) rfl<|ar (ak (ae af)) rfl<|ar (ak (ag ap)) rfl<|ar (c6 (ae aa) aa) rfl<|ar (ak aa) rfl<|bK aa (λab aK=>?_) (λab aK=>?_)
  ·replace aK:=bt aK;refine aF (ak (ae (ai am))) ⟨_,rfl,ab⟩ rfl ?_;refine aF (ak (ag (ai af))) ⟨_,rfl,(ae ab)⟩ rfl ?_;refine aF (az (cE qx (ae aa) aa ah (by(refine dq ?_;omega))) bQ) ⟨_,rfl,(ag ab)⟩ rfl ?_;refine aF (az (bL sG rfl aa aA) bQ) ⟨_,rfl,(ae (ag ab))⟩ rfl ?_;refine aF (ak (ae (ay an))) ⟨_,rfl,(ai ab)⟩ rfl ?_;refine aF (dN (ae aa) aa) ⟨_,rfl,(ae (ai ab))⟩ rfl ?_;refine aF (ak aa) ⟨_,rfl,(ag (ai ab))⟩ rfl ?_;refine bK aa (λad aM=>?_) (λad aM=>?_)
   ·replace aM:=bt aM;refine aC ⟨_,rfl,.inl ad⟩ rfl ?_;refine aC ⟨_,rfl,.inl (ae ad)⟩ rfl ?_;refine aC ⟨_,rfl,.inl (ag ad)⟩ rfl ?_;refine aC ⟨_,rfl,.inl (ae (ag ad))⟩ rfl ?_;refine aC ⟨_,rfl,.inl (ai ad)⟩ rfl ?_;refine aC ⟨_,rfl,.inl (ae (ai ad))⟩ rfl ?_;refine aC ⟨_,rfl,.inr aa⟩ rfl ?_;refine aC ⟨_,rfl,.inr (ae aa)⟩ rfl ?_;refine aC ⟨_,rfl,.inl (ay ad)⟩ rfl ?_;refine aF (bq (ae (ay ad)) aw) ⟨_,rfl,(aH ab)⟩ rfl ?_;refine ar (bq (ae (aH ab)) aa) rfl<|ar (aB (ag (ai (aH aa)))) rfl<|ar (aB (ae aa)) rfl<|bD (ae aa) aa ?_;clear ab ad am aE an ap af au;intro cz bJ bM
    refine ao<|bm<|dP bp aj (aR bJ) (aR bM) (.ro _ rfl) (.ro _ rfl) ?_
    clear bJ bM av
    (have hlo:=vw ah p4 (show oL xs t i.toNat by rwa [show i.toNat=j.toNat by omega]);have hi:((i.toNat:Nat):Int)=i:=ah;rw [hlo,hi];refine congrArg (λb=>AV.tuple [mA i,eI b]) ?_;symm;(exact decide_eq_true ⟨ah,by assumption⟩))
   replace aM:=bf aM;refine aF (ak (ai (ay am))) ⟨_,rfl,ad⟩ rfl ?_;refine aF (ak (ae (ai (ay af)))) ⟨_,rfl,(ae ad)⟩ rfl ?_;refine aF (az (cE qx (ae aa) aa ah (by(refine dq ?_;omega))) bQ) ⟨_,rfl,(ag ad)⟩ rfl ?_;refine aF (az (bL sG rfl aa aA) bQ) ⟨_,rfl,(ae (ag ad))⟩ rfl ?_;refine aF (bI (aG aa aN) rfl (P4 _) KI) ⟨_,rfl,(ai ad)⟩ rfl ?_;refine aF (ak aa) ⟨_,rfl,(ae (ai ad))⟩ rfl ?_;refine bK aa (λaO bN=>?_) (λaO bN=>?_)
   ·cases bN
   refine aC ⟨_,rfl,.inl aO⟩ rfl ?_;refine aC ⟨_,rfl,.inl (ae aO)⟩ rfl ?_;refine aF (br (ag aO) aw) ⟨_,rfl,(ay ad)⟩ rfl ?_;refine aF (br (ae (ay ad)) aa) ⟨_,rfl,(aH ab)⟩ rfl ?_;refine ar (bq (ae (aH ab)) aa) rfl<|ar (aB (ag (ai (aH aa)))) rfl<|ar (aB (ae aa)) rfl<|bD (ae aa) aa ?_;clear ab ad aO am aE an ap af au;intro cB bP bR
   refine ao<|bm<|dP bp aj (aR bP) (aR bR) (.ro _ rfl) (.ro _ rfl) ?_
   clear bP bR av
   (have hlo:=vw ah p4 (show oL xs t i.toNat by rwa [show i.toNat=j.toNat by omega]);have hi:((i.toNat:Nat):Int)=i:=ah;rw [hlo,hi];refine congrArg (λb=>AV.tuple [mA i,eI b]) ?_;symm;(exact decide_eq_false (λh=>absurd h.2 (by assumption))))
  replace aK:=bf aK;refine aC ⟨_,rfl,.inl ab⟩ rfl ?_;refine aC ⟨_,rfl,.inl (ae ab)⟩ rfl ?_;refine aC ⟨_,rfl,.inl (ag ab)⟩ rfl ?_;refine aC ⟨_,rfl,.inl (ae (ag ab))⟩ rfl ?_;refine aC ⟨_,rfl,.inl (ai ab)⟩ rfl ?_;refine aC ⟨_,rfl,.inl (ae (ai ab))⟩ rfl ?_;refine aC ⟨_,rfl,.inl (ag (ai ab))⟩ rfl ?_;refine aC ⟨_,rfl,.inr aa⟩ rfl ?_;refine aC ⟨_,rfl,.inr (ae aa)⟩ rfl ?_;refine aC ⟨_,rfl,.inr (ag aa)⟩ rfl ?_;refine aC ⟨_,rfl,.inr (ae (ag aa))⟩ rfl ?_;refine aC ⟨_,rfl,.inr (ai aa)⟩ rfl ?_;refine aC ⟨_,rfl,.inr (ae (ai aa))⟩ rfl ?_;refine aC ⟨_,rfl,.inr aa⟩ rfl ?_;refine aC ⟨_,rfl,.inr (ae aa)⟩ rfl ?_;refine aC ⟨_,rfl,.inr (ay aa)⟩ rfl ?_;refine aC ⟨_,rfl,.inl (aH ab)⟩ rfl ?_;refine ar (br (ae (aH ab)) aw) rfl<|ar (aB (ag (ai (aH aa)))) rfl<|ar (aB (ae aa)) rfl<|bD (ae aa) aa ?_;clear ab am aE an ap af au;intro cC bS bU
  refine ao<|bm<|dP bp aj (aR bS) (aR bU) (.ro _ rfl) (.ro _ rfl) ?_
  clear bS bU av
  (have hlo:=vw ah p4 (show oL xs t i.toNat by rwa [show i.toNat=j.toNat by omega]);have hi:((i.toNat:Nat):Int)=i:=ah;rw [hlo,hi];refine congrArg (λb=>AV.tuple [mA i,eI b]) ?_;symm;(exact decide_eq_false (λh=>by have:=h.1;omega)))
def gZ(bs:List g9)(p:Int):Nat->Nat
 | 0=>0
 | n+1=>if cy bs n<=p then n else gZ bs p n
theorem vx{bs:List g9}{p:Int}(h0:0<=p):∀ {n:Nat},1<=n->gZ bs p n<n/\cy bs (gZ bs p n)<=p/\ ∀ j:Nat,gZ bs p n<j->j<n->p<cy bs j
 | n+1,_=>by
  simp only [gZ]
  by_cases h:cy bs n<=p
  ·rw [if_pos h];exact⟨ah,h,λj h1 h2=>by omega⟩
  ·rw [if_neg h];rcases Ul n with hn|hn
   ·subst hn;simp [cy]at h;omega
   ·obtain⟨h1,h2,h3⟩:=vx (bs:=bs) h0 (n:=n) hn;refine⟨ah,h2,λj h4 h5=>?_⟩
    by_cases hj:j=n
    ·subst hj;omega
    ·exact h3 j h4 ah
theorem eZ.mono{l:bN}(h:eZ l){i:Nat}:∀ {j:Nat},i<=j->j<=l.bs.length->cy l.bs i+1000*((j:Int) - i)<=cy l.bs j
 | 0,h1,_=>by
  obtain rfl:i=0:=by omega
  omega
 | j+1,h1,h2=>by
  by_cases hij:i=j+1
  ·subst hij;omega
  ·have:=h.mono (i:=i) (j:=j) ah ah;have:=h.kq j ah;simp only [cy];omega
theorem y7{l:bN}(h:eZ l){p:Int}{i:Nat}(hi:i<l.bs.length)(h1:cy l.bs i<=p)(h2:i+1<l.bs.length->p<cy l.bs (i+1)):gZ l.bs p l.bs.length=i:=by
 have h0:0<=p:=by have:=(h.qc (n:=i) ah).1;omega
 obtain⟨b1,b2,b3⟩:=vx (bs:=l.bs) h0 (n:=l.bs.length) h.n0;rcases Nat.lt_trichotomy (gZ l.bs p l.bs.length) i with hlt|he|hgt
 ·have:=b3 i hlt hi;omega
 ·exact he
 ·have:=h.mono (i:=i+1) (j:=gZ l.bs p l.bs.length) ah ah;have:=h2 ah;omega
theorem eZ.SH{l:bN}(h:eZ l):wU (fy l.bs l.bs.length):=λi j hij hj=>by
 rw [pa]at hj;rw [kV ah,kV ah];have:=h.mono hij ah;omega
theorem P6{xs:List Int}{t:Int}:fu xs t<=xs.length/\rG xs t (fu xs t)/\(fu xs t<xs.length->t<=xs.getD (fu xs t) default):=by
 induction xs with
 | nil=>exact⟨by simp [fu],λk hk=>by simp [fu]at hk,λh=>by simp [fu]at h⟩
 | cons x xs ih=>
  obtain⟨h1,h2,h3⟩:=ih
  by_cases hx:x<t
  ·have e:fu (x::xs) t=fu xs t+1:=by simp [fu,hx]
   rw [e];refine⟨by simp;omega,λk hk=>?_,λh=>?_⟩
   ·cases k with
    | zero=>simpa using hx
    | succ k=>have:=h2 k ah;simpa using this
   ·have:=h3 (by simp at h;omega);simpa using this
  ·have e:fu (x::xs) t=0:=by simp [fu,hx]
   rw [e];exact⟨aL,λk hk=>by omega,λ_=>by simp;omega⟩
theorem RR{l:bN}(h:eZ l){p:Int}(h0:0<=p)(h1:p<=cy l.bs l.bs.length)(i:Nat)(hi:i=fu (fy l.bs l.bs.length) p):i<=l.bs.length/\(i<l.bs.length+1->(fy l.bs l.bs.length).getD i default=cy l.bs i)/\
 (cy l.bs i=p->(gZ l.bs p l.bs.length:Int)=min (i:Int) (l.bs.length - 1))/\(cy l.bs i≠p->1<=i/\(gZ l.bs p l.bs.length:Int)=min ((i:Int) - 1) (l.bs.length - 1)):=by
 subst hi;obtain⟨a1,a2,a3⟩:=P6 (xs:=fy l.bs l.bs.length) (t:=p);rw [pa]at a1 a3;have hn0:=h.n0;have hile:fu (fy l.bs l.bs.length) p<=l.bs.length:=by
  rcases Tf (fu (fy l.bs l.bs.length) p) (l.bs.length+1)with h2|h2
  ·omega
  ·have:=a2 l.bs.length ah;rw [kV (SR _)]at this;omega
 have a4:=a3 ah;rw [kV hile]at a4;have low:∀ k:Nat,k<fu (fy l.bs l.bs.length) p->cy l.bs k<p:=λk hk=>by
  have:=a2 k hk;rwa [kV ah]at this
 generalize hi:fu (fy l.bs l.bs.length) p=i at*;refine⟨hile,λh=>kV ah,λhe=>?_,λhne=>?_⟩
 ·by_cases hlast:i=l.bs.length
  ·have hb:gZ l.bs p l.bs.length=l.bs.length - 1:=y7 h ah (by have:=low (l.bs.length - 1) ah;omega) (λhh=>by omega);rw [hb];omega
  ·have hb:gZ l.bs p l.bs.length=i:=y7 h ah ah (λhh=>by have:=h.mono (i:=i) (j:=i+1) ah ah;omega);rw [hb];omega
 ·have hi1:1<=i:=by
   rcases Ul i with h2|h2
   ·rw [h2]at hne a4;simp only [cy]at hne a4;omega
   ·exact h2
  have hb:gZ l.bs p l.bs.length=i - 1:=y7 h ah (by have:=low (i - 1) ah;omega) (λhh=>by rw [show i - 1+1=i by omega];omega);rw [hb];exact⟨hi1,ah⟩
theorem RU(l:bN)(h:eZ l)(p:Int)(h0:0<=p)(h1:p<=cy l.bs l.bs.length):bT Tryz.prog 57 [ko l,mA p] (λq=>q= .tuple [mA (gZ l.bs p l.bs.length),mA (p - cy l.bs (gZ l.bs p l.bs.length))]):=by
 refine cA (fn:=Tryz.f57) 40 aj rfl aj bO ?_;intro aE a6 hA aF;have aH:al aE (.tmp 0)=_:=hA 0 _ rfl;have aI:al aE (.tmp 1)=_:=hA 1 _ rfl;have aJ:a6.length=0:=by rw [aF];rfl
 clear hA aF;have hn1:=h.n1;have hn0:=h.n0;have hpl:=pa (bs:=l.bs) (n:=l.bs.length);have hpb:=h.qc (n:=l.bs.length) (SR _);obtain⟨g1,g2,g3,g4⟩:=RR h h0 h1 _ rfl;obtain⟨b1,_,_⟩:=vx (bs:=l.bs) h0 (n:=l.bs.length) h.n0;have hbp:=h.qc (n:=gZ l.bs p l.bs.length) ah;refine ax<|at_<|ar (aB aw) rfl<|ar (aB aw) rfl<|bD (ag aH) (ag aI) ?_;clear aH aI;intro a7 an ap
 refine ao<|ax<|at_<|ar (ak an) rfl<|ar (fY aa) rfl<|ar (az (cj l4 rfl aa) bQ) rfl ?_
 refine ar (az (bL yk rfl aa aA) bQ) rfl ?_;refine ar (ak (ai ap)) rfl<|ar (bI (aG (ae aa) (aG aa aN)) rfl (KJ _ _ h.SH ah) KG) rfl ?_
 refine ar (ak aa) rfl<|ar (cF aa rfl) rfl<|ar (cF (ae aa) rfl) rfl<|ar (aB (ae aa)) rfl<|ar (aB (ae aa)) rfl<|bu (ae (ag (ay an))) (ae (ag (ay ap))) (ae aa) aa ?_;clear an ap;intro a8 aK aL aM aO
 refine ao<|ax<|ax<|at_<|ar (ak aO) rfl<|ar (dT aa) rfl<|bu (ag aK) (ag aL) (ag aM) aa ?_;clear aK aL aM aO;intro a9 ab af am au
 refine ao<|bk au (λad=>?_) (λad=>?_)
 ·replace ad:=ff ad
  (have hf:¬ (fu (fy l.bs l.bs.length) p<(fy l.bs l.bs.length).length /\(fy l.bs l.bs.length).getD (fu (fy l.bs l.bs.length) p) default=p):=(by assumption);have e1:=(g4 (λhe=>hf ⟨ah,by rw [g2 ah];exact he⟩)).2)
  refine at_<|ar (ak am) rfl ?_
  (refine ar (eU aa aw ?_) rfl ?_; · (unfold In64;omega))
  refine ar (aB aa) rfl<|bB (ae (ag ab)) (ae (ag af)) aa ?_;clear ab au af am;intro ba av aP aS
  refine ao<|ax<|at_<|ar (ak aS) rfl<|ar (ak (ae av)) rfl<|ar (fY aa) rfl<|ar (az (cj jj rfl aa) bQ) rfl ?_
  refine ar (az (cj eK rfl aa) bQ) rfl ?_;refine ar (az (bL DW rfl aa aA) bQ) rfl ?_;refine ar (az (cx aa rfl DV.1) ct) rfl ?_
  (refine ar (eU aa aw ?_) rfl ?_; · (unfold In64;omega))
  refine ar (vK (ae (ag (ai aa))) aa) rfl<|ar (aB aa) rfl<|bB (ag (ay av)) (ag (ay aP)) aa ?_;clear av aP aS;intro bb aT aU aC
  refine ao<|ax<|eu 12 aj aj aj aj ?_
  refine dr (ak aC) rfl<|dr (ak (ae aU)) rfl<|dr (ak (ag aT)) rfl<|dr (fY aa) rfl<|dr (az (cj l4 rfl aa) bQ) rfl ?_
  refine dr (az (bL yk rfl aa aA) bQ) rfl ?_;refine dr (ak (ag (ai aC))) rfl<|dr (az (cE qx (ae aa) aa ah (by(refine dq ?_;omega))) bQ) rfl ?_
  refine dr (az (bL sG rfl aa aA) bQ) rfl ?_;refine dr (sP (ae (ag (ai aa))) aa) rfl<|dr (aB (ae (ay aa))) rfl<|dr (aB (ae aa)) rfl<|dE<|bD (ae aa) aa ?_;clear aT aU aC;intro bc aV aX
  refine ao<|bm<|dP bp aj (aR aV) (aR aX) (.ro _ rfl) (.ro _ rfl) ?_
  clear aV aX aJ
  (rw [<- e1,Ti,kV ah,wrap_in (by unfold In64;omega)])
 replace ad:=eY ad
 (have hf:(fu (fy l.bs l.bs.length) p<(fy l.bs l.bs.length).length /\(fy l.bs l.bs.length).getD (fu (fy l.bs l.bs.length) p) default=p):=(by assumption);have e1:=g3 (by rw [<- g2 ah];exact hf.2))
 refine bF<|ao<|ax<|at_<|ar (ak am) rfl<|ar (ak (ae ab)) rfl<|ar (fY aa) rfl<|ar (az (cj jj rfl aa) bQ) rfl ?_
 refine ar (az (cj eK rfl aa) bQ) rfl ?_;refine ar (az (bL DW rfl aa aA) bQ) rfl ?_;refine ar (az (cx aa rfl DV.1) ct) rfl ?_
 (refine ar (eU aa aw ?_) rfl ?_; · (unfold In64;omega))
 refine ar (vK (ae (ag (ai aa))) aa) rfl<|ar (aB aa) rfl<|bB (ag (ay ab)) (ag (ay af)) aa ?_;clear ab au af am;intro be aZ a2 aD
 refine ao<|ax<|eu 12 aj aj aj aj ?_
 refine dr (ak aD) rfl<|dr (ak (ae a2)) rfl<|dr (ak (ag aZ)) rfl<|dr (fY aa) rfl<|dr (az (cj l4 rfl aa) bQ) rfl ?_
 refine dr (az (bL yk rfl aa aA) bQ) rfl ?_;refine dr (ak (ag (ai aD))) rfl<|dr (az (cE qx (ae aa) aa ah (by(refine dq ?_;omega))) bQ) rfl ?_
 refine dr (az (bL sG rfl aa aA) bQ) rfl ?_;refine dr (sP (ae (ag (ai aa))) aa) rfl<|dr (aB (ae (ay aa))) rfl<|dr (aB (ae aa)) rfl<|dE<|bD (ae aa) aa ?_;clear aZ a2 aD;intro bf a3 a5
 refine ao<|bm<|dP bp aj (aR a3) (aR a5) (.ro _ rfl) (.ro _ rfl) ?_
 clear a3 a5 aJ
 (rw [<- e1,Ti,kV ah,wrap_in (by unfold In64;omega)])
theorem FI{m:Int}(hm: -4000000000000000000<=m/\m<=4000000000000000000)(n:Int): -4000000000000000000<=m.tdiv n/\m.tdiv n<=4000000000000000000:=by
 have:=Int.natAbs_tdiv_le_natAbs m n;omega
theorem gR{x y:Int}(X Y:Nat)(hx:x.natAbs<=X)(hy:y.natAbs<=Y):(x*y).natAbs <=X*Y:=by rw [Int.natAbs_mul];exact Nat.mul_le_mul hx hy
theorem gq(n:Nat):((n:Int)+1).toNat =n+1:=by omega
def c7(l:bN)(p:Int):Nat:=gZ l.bs p l.bs.length
def fQ(l:bN)(p:Int):Int:=p - cy l.bs (c7 l p)
theorem wz{l:bN}(h:eZ l){p:Int}(hp:0<=p/\p<=cy l.bs l.bs.length):c7 l p<l.bs.length/\0<=fQ l p/\fQ l p<=(l.bs.getD (c7 l p) default).len :=by
 obtain⟨b1,b2,b3⟩:=vx (bs:=l.bs) hp.1 (n:=l.bs.length) h.n0;refine⟨b1,by unfold fQ c7;omega,?_⟩;unfold fQ c7
 by_cases hn:gZ l.bs p l.bs.length+1<l.bs.length
 ·have:=b3 _ (Nat.lt_succ_self _) hn;simp only [cy]at this;omega
 ·have he:l.bs.length=gZ l.bs p l.bs.length+1:=by omega
  have h2:=hp.2;have key:∀ n b:Nat,n=b+1->cy l.bs n=cy l.bs b+(l.bs.getD b default).len :=λn b h=>by subst h;rfl
  have:=key _ _ he;omega
theorem GB(l:bN)(h:eZ l)(p:Int)(hp:0<=p/\p<=cy l.bs l.bs.length):bT Tryz.prog 57 [ko l,mA p] (λq=>q= .tuple [mA (c7 l p),mA (fQ l p)]):=RU l h p hp.1 hp.2
end Go.Proofs.YtfoaiidcfkmneaaGreatDoor
