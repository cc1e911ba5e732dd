/- Texts of this claim, one behind the other: lemmas for the statement. -/
import Derived.Test.YtfoaiidcfkmneaaGreatDoorT0
import Derived.Test.YtfoaiidcfkmneaaGreatDoorM11
import Derived.Test.YtfoaiidcfkmneaaGreatDoorM10
import Derived.Test.YtfoaiidcfkmneaaGreatDoorM7
import Derived.Test.YtfoaiidcfkmneaaGreatDoorA54
set_option maxRecDepth 100000
set_option maxHeartbeats 4000000
set_option linter.unusedSimpArgs false
set_option linter.unusedVariables false
namespace Go.Proofs.YtfoaiidcfkmneaaGreatDoor
open Go Go.RowKit Go.Proofs Go.Shelf Go.Lib
theorem xZ:(Tryz.prog.info? 70).bind (·.zero)=some (.agg #[.string ByteArray.empty,.int .i64 0]):=by kernel_rfl
theorem x0:Tryz.prog.underlying 70=some (.struct (eX Tryz.prog 70)):=by kernel_rfl
theorem ya:∀ w,((eX Tryz.prog 70).mapM λf=>Prod.mk f.offset<$>sizeOf f.type:Sem (Array (Nat×Nat))).run Tryz.prog w= .ok (#[(0,1),(1,1)]) w:=λ_=>by kernel_rfl
theorem JK:∀ args w,(callFunc 67 args).run Tryz.prog w= .ok (.enter 67 args) w:=λ_ _=>by kernel_rfl
theorem qq:b9 Tryz.prog 66 70 2 24 (.agg #[.string ByteArray.empty,.int .i64 0]):=⟨aj,aj,aj⟩
theorem Is(l:List UInt8)(hl:l.length<=1000000):bT Tryz.prog 19 [.v (.string (bs l))] (λq=>q= .row 2 ((ee l 0).map aQ)):=by
 have hz:(bs l).size =l.length:=rfl;refine cA (fn:=Tryz.f19) 53 aj rfl aj bO ?_;intro cJ cM hA bL;have bM:al cJ (.tmp 0)=_:=hA 0 _ rfl;have a9:cM.length=0:=by rw [bL];rfl
 clear hA bL;refine ax<|at_<|ar (aB aw) rfl<|bn (ae bM) ?_;clear bM;intro dA bN
 refine ao<|ax<|at_<|ar (aB aw) rfl<|bD (ae bN) aa ?_;clear bN;intro dB bP bQ
 refine ao<|ax<|ax<|at_<|ar (aB aw) rfl<|bB (ae bP) (ae bQ) aa ?_;clear bP bQ;intro dD cN cO cP
 refine ao<|ca<|uk 70 2 cO a9 (λdE a2 ba a3=>?_)
 have cQ:=bS ba a9;have bb:=bR ba a9;have bb:_=1:=bb;have aD:al a2 (.tmp 0)=_:=(congrArg (λq=>al q (.tmp 0)) a3).trans (ae cN);have cR:al a2 (.tmp 3)=_:=(congrArg (λq=>al q (.tmp 3)) a3).trans aa;have cS:al a2 (.tmp 4)=_:=(congrArg (λq=>al q (.tmp 4)) a3).trans (ae cP);clear ba a3;refine eL (S:=(Int×List Wd)) (λs e mem=>match s with|⟨i,xs⟩=>(al e (.tmp 4)= .v (.int .i64 i))/\(al e (.tmp 0)=al a2 (.tmp 0))/\(∃ j,al e (.tmp 3)= .own j/\mem[j]? =some (.row 70 2 (xs.map aQ))/\True)/\(∃ n,mem.length=n/\1<=n)/\((0<=i/\i<=l.length+1/\xs.length<=i/\xs++ee l i.toNat=ee l 0))) (λs=>match s with|⟨i,xs⟩=>(l.length+1 - i).toNat) ⟨0,[]⟩ ⟨cS,rfl,⟨_,cR,cQ,trivial⟩,⟨_,bb,SR _⟩,?_⟩ ?_
 ·exact⟨ah,ah,aL,rfl⟩
 ·rintro⟨i,xs⟩ dF cT ⟨bc,cV,⟨bU,bV,au,-⟩,⟨cW,aJ,dG⟩,hinv⟩;have be:=cV.trans aD;have dH:=cL au aJ
  (obtain⟨p1,p2,p4,p3⟩:=hinv)
  refine ax<|ax<|at_<|ar (ak bc) rfl<|ar (ak (ae be)) rfl<|ar (eE aa rfl cK) rfl<|ar (c6 (ag aa) aa) rfl<|bu (ai be) (ai bV) (ai bc) aa ?_;clear be bV bc;intro dK av aE az a5
  refine ao<|bk a5 (λaK=>?_) (λaK=>?_)
  ·replace aK:=bt aK;refine bF<|ao<|ax<|ca<|ax<|ax<|at_<|ar (ak av) rfl<|ar (ak (ae az)) rfl<|ar (gC (ae aa) aa cK ah (by refine gI ?_;first|omega|(simp<;>omega;done)|(refine S4 (m:=256) ?_ hU;omega))) rfl ?_
   refine ar (dN aa aw) rfl ?_;refine ar (ak aa) rfl<|bK aa (λad aN=>?_) (λad aN=>?_)
   ·replace aN:=bt aN;refine aC ⟨_,rfl,.inl ad⟩ rfl ?_;refine aC ⟨_,rfl,.inl (ae ad)⟩ rfl ?_;refine aC ⟨_,rfl,.inl (ag ad)⟩ rfl ?_;refine aC ⟨_,rfl,.inl (ae (ag ad))⟩ rfl ?_;refine ar (bq (ai ad) aw) rfl<|bu (ag (ay av)) (ag (ay aE)) (ag (ay az)) aa ?_;clear ad av aE az a5;intro dL bY bZ b0 b1
    refine ao<|lA b1<|dJ<|cw<|dI<|ao<|at_<|ar (ak b0) rfl ?_
    (refine ar (cf aa aw ?_) rfl ?_; · (unfold In64;omega))
    refine ar (aB aa) rfl<|bB (ae (ag bY)) (ae (ag bZ)) aa ?_;clear bY b1 bZ b0;intro dM cX cY cZ
    refine ao<|⟨⟨_,_⟩,⟨cZ,(cX.trans aD.symm),⟨_,cY,au,trivial⟩,⟨_,aJ,ah⟩,?_⟩,?_⟩
    ·first|(have hb:blk (l.getD i.toNat default)=true:=(lh _).1 sK;exact⟨ah,ah,ah,by rw [kx p1 (.inr hb)];exact p3⟩)|(have hw:=kU p1 ah p3 hb0 r1 r2 r3 l8;exact⟨ah,ah,by(rw [Tq,Ub];omega),by rw [kx ah sL];exact hw.2⟩)
    ·((try dsimp only);first|omega|(have hw:=kU p1 ah p3 hb0 r1 r2 r3 l8;omega))
   replace aN:=bf aN;refine aF (ak (ae (ai av))) ⟨_,rfl,ad⟩ rfl ?_;refine aF (ak (ag (ai az))) ⟨_,rfl,(ae ad)⟩ rfl ?_;refine aF (gC (ae aa) aa cK ah (by refine gI ?_;first|omega|(simp<;>omega;done)|(refine S4 (m:=256) ?_ hU;omega))) ⟨_,rfl,(ag ad)⟩ rfl ?_;refine aF (dN aa aw) ⟨_,rfl,(ae (ag ad))⟩ rfl ?_;refine ar (br (ai ad) aa) rfl<|bu (ag (ay av)) (ag (ay aE)) (ag (ay az)) aa ?_;clear ad av aE az a5;intro dO a6 a7 aO bg
   refine ao<|bk bg (λaP=>?_) (λaP=>?_)
   ·replace aP:=bt aP;refine dJ<|cw<|dI<|ao<|at_<|ar (ak aO) rfl ?_
    (refine ar (cf aa aw ?_) rfl ?_; · (unfold In64;omega))
    refine ar (aB aa) rfl<|bB (ae (ag a6)) (ae (ag a7)) aa ?_;clear a6 bg a7 aO;intro dP c7 c8 c9
    refine ao<|⟨⟨_,_⟩,⟨c9,(c7.trans aD.symm),⟨_,c8,au,trivial⟩,⟨_,aJ,ah⟩,?_⟩,?_⟩
    ·first|(have hb:blk (l.getD i.toNat default)=true:=(lh _).1 sK;exact⟨ah,ah,ah,by rw [kx p1 (.inr hb)];exact p3⟩)|(have hw:=kU p1 ah p3 hb0 r1 r2 r3 l8;exact⟨ah,ah,by(rw [Tq,Ub];omega),by rw [kx ah sL];exact hw.2⟩)
    ·((try dsimp only);first|omega|(have hw:=kU p1 ah p3 hb0 r1 r2 r3 l8;omega))
   replace aP:=bf aP;have hb0:blk (l.getD i.toNat default)=false:=E6 (by assumption) (by assumption);refine bF<|ao<|ax<|at_<|ar (ak aO) rfl<|ar (aB aa) rfl<|bu (ag a6) (ag a7) (ag aO) aa ?_;clear a6 bg a7 aO;intro bh b2 b6 b7 da
   refine ao<|ax<|ca<|eL (S:=Int) (λi2 e mem=>(al e (.tmp 5)= .v (.int .i64 i2))/\(al e (.tmp 0)=al bh (.tmp 0))/\(al e (.tmp 3)=al bh (.tmp 3))/\(al e (.tmp 4)=al bh (.tmp 4))/\(mem[bU]? =cT[bU]?)/\(mem.length=cW)/\((i<=i2/\i2<=l.length/\ ∀ k:Nat,i.toNat<=k->k<i2.toNat->blk (l.getD k default)=false))) (λi2=>(l.length - i2).toNat) i ⟨da,rfl,rfl,rfl,rfl,aJ,?_⟩ ?_
   ·exact⟨ah,ah,λk h1 h2=>by omega⟩
   ·rintro i2 dQ dR ⟨an,db,dc,dd,de,am,hinv⟩;have ap:=db.trans b2;have aG:=dc.trans b6;have aI:=dd.trans b7;have aA:=de.trans au
    (obtain⟨r1,r2,r3⟩:=hinv)
    refine ax<|ax<|at_<|ar (ak an) rfl<|ar (ak (ae ap)) rfl<|ar (eE aa rfl cK) rfl<|ar (c6 (ag aa) aa) rfl<|ar (ak aa) rfl<|bK aa (λab aS=>?_) (λab aS=>?_)
    ·replace aS:=bt aS;refine aF (ak (ae (ai ap))) ⟨_,rfl,ab⟩ rfl ?_;refine aF (ak (ag (ai an))) ⟨_,rfl,(ae ab)⟩ rfl ?_;refine aF (gC (ae aa) aa cK ah (by refine gI ?_;first|omega|(simp<;>omega;done)|(refine S4 (m:=256) ?_ hU;omega))) ⟨_,rfl,(ag ab)⟩ rfl ?_;refine aF (fp aa aw) ⟨_,rfl,(ae (ag ab))⟩ rfl ?_;refine ar (bq (ai ab) aa) rfl<|ar (ak aa) rfl<|bK aa (λaf aT=>?_) (λaf aT=>?_)
     ·replace aT:=ff aT;refine aF (ak (ae (ag (ay ap)))) ⟨_,rfl,af⟩ rfl ?_;refine aF (ak (ai (ay an))) ⟨_,rfl,(ae af)⟩ rfl ?_;refine aF (gC (ae aa) aa cK ah (by refine gI ?_;first|omega|(simp<;>omega;done)|(refine S4 (m:=256) ?_ hU;omega))) ⟨_,rfl,(ag af)⟩ rfl ?_;refine aF (fp aa aw) ⟨_,rfl,(ae (ag af))⟩ rfl ?_;refine ar (bq (ai af) aa) rfl<|ck (aH ap) (aH aG) (aH aI) (aH an) aa ?_;clear ab af ap aG aI an;intro dS aU a8 aV aX bj
      refine ao<|bk bj (λaZ=>?_) (λaZ=>?_)
      ·replace aZ:=ff aZ;refine bF<|ao<|ca<|at_<|ar (ak aX) rfl ?_
       (refine ar (cf aa aw ?_) rfl ?_; · (unfold In64;omega))
       refine ar (aB aa) rfl<|bu (ae (ag aU)) (ae (ag a8)) (ae (ag aV)) aa ?_;clear aU bj a8 aV aX;intro dT df dg dh di
       refine cG<|ao<|⟨_,⟨di,(df.trans b2.symm),(dg.trans b6.symm),(dh.trans b7.symm),(aA.trans au.symm),am,?_⟩,?_⟩
       ·(have hb:blk (l.getD i2.toNat default)=false:=E6 (by assumption) (by assumption);exact⟨ah,ah,λk h1 h2=>if hk:k<i2.toNat then r3 k h1 hk else(by rw [show k=i2.toNat by omega];exact hb)⟩)
       ·((try dsimp only);omega)
      replace aZ:=eY aZ;refine dJ<|cw<|cw<|dI<|ao<|ax<|at_<|ar (ak a8) rfl<|ar (ak (ae aU)) rfl<|ar (ak (ag aV)) rfl<|ar (ak (ae (ag aX))) rfl<|ar (qk (ag aa) (ae aa) aa cK ah ah ah) rfl ?_
      refine ar (ak (ae (ai aV))) rfl ?_
      (refine ar (cf aa aw ?_) rfl ?_; · (unfold In64;omega))
      refine ar (cU (bz (ag aa) (bz aa bW)) xZ x0 ya rfl) rfl ?_;refine ar (ep qq (bz aa bW) rfl rfl rfl rfl) rfl<|aM (ib qq rfl am aA (ay aa) aa dY dC) trivial rfl (λdU bo=>?_)
      have b8:=iY bo am;simp only [pS,Value.cells,Nat.reduceAdd,gK,mZ,sx,bC]at b8;have dk:=iT bo am;clear bo aA;refine ar (aB aa) rfl<|bB (ae (ag (ay aU))) aa (ae (ag (ay aX))) ?_;clear aU bj a8 aV aX;intro dV b9 cb cc
      refine ao<|at_<|ar (ak cc) rfl<|ar (aB aa) rfl<|bB (ag b9) (ag cb) aa ?_;clear b9 cb cc;intro dW cd ce cg
      refine cG<|ao<|at_<|ar (ak cg) rfl ?_
      (refine ar (cf aa aw ?_) rfl ?_; · (unfold In64;omega))
      refine ar (aB aa) rfl<|bB (ae (ag cd)) (ae (ag ce)) aa ?_;clear cd ce cg;intro dX dl dm dn
      refine ao<|⟨⟨_,_⟩,⟨dn,(dl.trans aD.symm),⟨_,dm,b8,trivial⟩,⟨_,dk,ah⟩,?_⟩,?_⟩
      ·first|(have hb:blk (l.getD i.toNat default)=true:=(lh _).1 sK;exact⟨ah,ah,ah,by rw [kx p1 (.inr hb)];exact p3⟩)|(have hw:=kU p1 ah p3 hb0 r1 r2 r3 l8;exact⟨ah,ah,by(rw [Tq,Ub];omega),by rw [kx ah sL];exact hw.2⟩)
      ·((try dsimp only);first|omega|(have hw:=kU p1 ah p3 hb0 r1 r2 r3 l8;omega))
     replace aT:=eY aT;refine aC ⟨_,rfl,.inl af⟩ rfl ?_;refine aC ⟨_,rfl,.inl (ae af)⟩ rfl ?_;refine aC ⟨_,rfl,.inl (ag af)⟩ rfl ?_;refine aC ⟨_,rfl,.inl (ae (ag af))⟩ rfl ?_;refine ar (br (ai af) aw) rfl<|ck (aH ap) (aH aG) (aH aI) (aH an) aa ?_;clear ab af ap aG aI an;intro dZ bv ci bw bx cj
     refine ao<|iS cj<|dJ<|cw<|cw<|dI<|ao<|ax<|at_<|ar (ak ci) rfl<|ar (ak (ae bv)) rfl<|ar (ak (ag bw)) rfl<|ar (ak (ae (ag bx))) rfl<|ar (qk (ag aa) (ae aa) aa cK ah ah ah) rfl ?_
     refine ar (ak (ae (ai bw))) rfl ?_
     (refine ar (cf aa aw ?_) rfl ?_; · (unfold In64;omega))
     refine ar (cU (bz (ag aa) (bz aa bW)) xZ x0 ya rfl) rfl ?_;refine ar (ep qq (bz aa bW) rfl rfl rfl rfl) rfl<|aM (ib qq rfl am aA (ay aa) aa dY dC) trivial rfl (λea bA=>?_)
     have cm:=iY bA am;simp only [pS,Value.cells,Nat.reduceAdd,gK,mZ,sx,bC]at cm;have dq:=iT bA am;clear bA aA;refine ar (aB aa) rfl<|bB (ae (ag (ay bv))) aa (ae (ag (ay bx))) ?_;clear bv cj ci bw bx;intro eb co cq cr
     refine ao<|at_<|ar (ak cr) rfl<|ar (aB aa) rfl<|bB (ag co) (ag cq) aa ?_;clear co cq cr;intro ec ct cu cv
     refine cG<|ao<|at_<|ar (ak cv) rfl ?_
     (refine ar (cf aa aw ?_) rfl ?_; · (unfold In64;omega))
     refine ar (aB aa) rfl<|bB (ae (ag ct)) (ae (ag cu)) aa ?_;clear ct cu cv;intro ed dr dt du
     refine ao<|⟨⟨_,_⟩,⟨du,(dr.trans aD.symm),⟨_,dt,cm,trivial⟩,⟨_,dq,ah⟩,?_⟩,?_⟩
     ·first|(have hb:blk (l.getD i.toNat default)=true:=(lh _).1 sK;exact⟨ah,ah,ah,by rw [kx p1 (.inr hb)];exact p3⟩)|(have hw:=kU p1 ah p3 hb0 r1 r2 r3 l8;exact⟨ah,ah,by(rw [Tq,Ub];omega),by rw [kx ah sL];exact hw.2⟩)
     ·((try dsimp only);first|omega|(have hw:=kU p1 ah p3 hb0 r1 r2 r3 l8;omega))
    replace aS:=bf aS;refine aC ⟨_,rfl,.inl ab⟩ rfl ?_;refine aC ⟨_,rfl,.inl (ae ab)⟩ rfl ?_;refine aC ⟨_,rfl,.inl (ag ab)⟩ rfl ?_;refine aC ⟨_,rfl,.inl (ae (ag ab))⟩ rfl ?_;refine ar (br (ai ab) aw) rfl<|ar (ak aa) rfl<|aC ⟨_,rfl,.inl aa⟩ rfl ?_
    refine aC ⟨_,rfl,.inl (ae aa)⟩ rfl ?_;refine aC ⟨_,rfl,.inl (ag aa)⟩ rfl ?_;refine aC ⟨_,rfl,.inl (ae (ag aa))⟩ rfl ?_;refine ar (br (ai aa) aw) rfl<|ck (aH ap) (aH aG) (aH aI) (aH an) aa ?_;clear ab ap aG aI an;intro ef bE cx bH bI cy
    refine ao<|iS cy<|dJ<|cw<|cw<|dI<|ao<|ax<|at_<|ar (ak cx) rfl<|ar (ak (ae bE)) rfl<|ar (ak (ag bH)) rfl<|ar (ak (ae (ag bI))) rfl<|ar (qk (ag aa) (ae aa) aa cK ah ah ah) rfl ?_
    refine ar (ak (ae (ai bH))) rfl ?_
    (refine ar (cf aa aw ?_) rfl ?_; · (unfold In64;omega))
    refine ar (cU (bz (ag aa) (bz aa bW)) xZ x0 ya rfl) rfl ?_;refine ar (ep qq (bz aa bW) rfl rfl rfl rfl) rfl<|aM (ib qq rfl am aA (ay aa) aa dY dC) trivial rfl (λeg bJ=>?_)
    have cz:=iY bJ am;simp only [pS,Value.cells,Nat.reduceAdd,gK,mZ,sx,bC]at cz;have dv:=iT bJ am;clear bJ aA;refine ar (aB aa) rfl<|bB (ae (ag (ay bE))) aa (ae (ag (ay bI))) ?_;clear bE cy cx bH bI;intro eh cB cC cD
    refine ao<|at_<|ar (ak cD) rfl<|ar (aB aa) rfl<|bB (ag cB) (ag cC) aa ?_;clear cB cC cD;intro en cE cF cH
    refine cG<|ao<|at_<|ar (ak cH) rfl ?_
    (refine ar (cf aa aw ?_) rfl ?_; · (unfold In64;omega))
    refine ar (aB aa) rfl<|bB (ae (ag cE)) (ae (ag cF)) aa ?_;clear cE cF cH;intro er dw dy dz
    refine ao<|⟨⟨_,_⟩,⟨dz,(dw.trans aD.symm),⟨_,dy,cz,trivial⟩,⟨_,dv,ah⟩,?_⟩,?_⟩
    ·first|(have hb:blk (l.getD i.toNat default)=true:=(lh _).1 sK;exact⟨ah,ah,ah,by rw [kx p1 (.inr hb)];exact p3⟩)|(have hw:=kU p1 ah p3 hb0 r1 r2 r3 l8;exact⟨ah,ah,by(rw [Tq,Ub];omega),by rw [kx ah sL];exact hw.2⟩)
    ·((try dsimp only);first|omega|(have hw:=kU p1 ah p3 hb0 r1 r2 r3 l8;omega))
  replace aK:=bf aK;refine dJ<|cw<|cw<|dI<|ao<|ax<|at_<|ar (ak aE) rfl<|ar (aB aa) rfl<|bn aa ?_;clear av aE az a5;intro eu cI
  refine ao<|bm<|bX bp aj (aR cI) (.own _ _ _ _ au) ?_
  clear cI au aJ
  (rw [tZ l ah,TX]at p3;rw [<- p3])
theorem H4(p k:ByteArray)(hp:p.toList= []\/p.toList= [108,105,110,101]\/p.toList= [106,111,105,110,116]\/p.toList= [98,101,97,109]\/p.toList= [115,119,105,116,99,104]):bT Tryz.prog 20 [.v (.string p),.v (.string k)] (λq=>q=mA (dy p k)):=by
 refine cA (fn:=Tryz.f20) 49 aj rfl aj bO ?_;intro bb a7 hA be;have bf:al bb (.tmp 0)=_:=hA 0 _ rfl;have bg:al bb (.tmp 1)=_:=hA 1 _ rfl;have aP:a7.length=0:=by rw [be];rfl
 clear hA be;refine ax<|at_<|ar (aB aw) rfl<|bD (ae bf) (ae bg) ?_;clear bf bg;intro cC a8 bh
 refine ao<|ax<|ax<|at_<|ar (ak a8) rfl<|ar (cX aa aw) rfl<|bB (ag a8) (ag bh) aa ?_;clear a8 bh;intro bo aA az bu
 refine ao<|bk bu (λbI=>?_) (λbI=>?_)
 ·skip;refine ax<|ax<|at_<|ar (ak az) rfl<|ar (dS aa aw) rfl<|bn aa ?_;clear aA az bu;intro cD a9
  refine ao<|bk a9 (λaT=>?_) (λaT=>?_)
  ·replace aT:=cT aT;refine ax<|at_<|ar (aB aw) rfl<|bn aa ?_;clear a9;intro cE bv
   refine ao<|bm<|bw<|bw<|bX bp aj (aR bv) (.ro _ rfl) ?_
   clear bv aP
   (first|(simp_all [dy,aS,bj,bc,aU,aX];done)|(simp_all [dy,cv,aS,bj,bc,aU,aX];done)|(simp [dy,cv,aS,bj,bc,aU,aX]at*;simp_all;done))
  replace aT:=di aT;refine bF<|ao<|ax<|at_<|ar (aB aw) rfl<|bn aa ?_;clear a9;intro cF bx
  refine ao<|bm<|bw<|bX bp aj (aR bx) (.ro _ rfl) ?_
  clear bx aP
  (first|(simp_all [dy,aS,bj,bc,aU,aX];done)|(simp_all [dy,cv,aS,bj,bc,aU,aX];done)|(simp [dy,cv,aS,bj,bc,aU,aX]at*;simp_all;done))
 refine bF<|ao<|ax<|ax<|fZ (λe mem=>(al e (.tmp 18)= .v (.bool (!(aS k bc||aS k aU||aS k aX))))/\(al e (.tmp 0)=al bo (.tmp 0))/\(al e (.tmp 1)=al bo (.tmp 1))/\a7=mem) ?_ ?_
 ·
  refine at_<|ar (ak az) rfl<|ar (dS aa aw) rfl<|ar (ak aa) rfl<|bK aa (λaE aV=>?_) (λaE aV=>?_)
  ·replace aV:=cT aV;refine aF (ak (ae (ag az))) ⟨_,rfl,aE⟩ rfl ?_;refine aF (dS aa aw) ⟨_,rfl,(ae aE)⟩ rfl ?_;refine ar (bq (ag aE) aa) rfl<|ar (ak aa) rfl<|bK aa (λaG aZ=>?_) (λaG aZ=>?_)
   ·replace aZ:=cT aZ;refine aF (ak (ae (ag (ai az)))) ⟨_,rfl,aG⟩ rfl ?_;refine aF (dS aa aw) ⟨_,rfl,(ae aG)⟩ rfl ?_;refine ar (bq (ag aG) aa) rfl<|bB (ag (ay aA)) (ag (ay az)) aa ?_;intro cG bJ bL bM
    refine ao ⟨(bM).trans (by(first|(simp_all [aS,bc,aU,aX];done)|(refine b7 ?_;simp_all [aS,bc,aU,aX];done))),(bJ).trans (aA).symm,(bL).trans (az).symm,rfl⟩
   replace aZ:=di aZ;refine aC ⟨_,rfl,.inl aG⟩ rfl ?_;refine aC ⟨_,rfl,.inl (ae aG)⟩ rfl ?_;refine ar (br (ag aG) aw) rfl<|bB (ag (ay aA)) (ag (ay az)) aa ?_;intro cH bN bP bQ
   refine ao ⟨(bQ).trans (by(first|(simp_all [aS,bc,aU,aX];done)|(refine b7 ?_;simp_all [aS,bc,aU,aX];done))),(bN).trans (aA).symm,(bP).trans (az).symm,rfl⟩
  replace aV:=di aV;refine aC ⟨_,rfl,.inl aE⟩ rfl ?_;refine aC ⟨_,rfl,.inl (ae aE)⟩ rfl ?_;refine ar (br (ag aE) aw) rfl<|ar (ak aa) rfl<|aC ⟨_,rfl,.inl aa⟩ rfl ?_
  refine aC ⟨_,rfl,.inl (ae aa)⟩ rfl ?_;refine ar (br (ag aa) aw) rfl<|bB (ag (ay aA)) (ag (ay az)) aa ?_;intro cI bR bS bU
  refine ao ⟨(bU).trans (by(first|(simp_all [aS,bc,aU,aX];done)|(refine b7 ?_;simp_all [aS,bc,aU,aX];done))),(bR).trans (aA).symm,(bS).trans (az).symm,rfl⟩
 ·rintro cJ _ ⟨bz,bV,bW,rfl⟩;have af:=bV.trans aA;have aD:=bW.trans az;refine bk bz (λa2=>?_) (λa2=>?_)
  ·replace a2:=cT a2;refine ax<|at_<|ar (aB aw) rfl<|bn aa ?_;clear af bz aD;intro cK bA
   refine ao<|bm<|bw<|bX bp aj (aR bA) (.ro _ rfl) ?_
   clear bA aP
   (first|(simp_all [dy,aS,bj,bc,aU,aX];done)|(simp_all [dy,cv,aS,bj,bc,aU,aX];done)|(simp [dy,cv,aS,bj,bc,aU,aX]at*;simp_all;done))
  replace a2:=di a2;refine bF<|ao<|ax<|ax<|fZ (λe mem=>(al e (.tmp 48)= .v (.bool (!(cv p k))))/\a7=mem) ?_ ?_
  ·
   refine at_<|ar (ak aD) rfl<|ar (cX aa aw) rfl<|ar (ak aa) rfl<|bK aa (λah bY=>?_) (λah bY=>?_)
   ·skip;refine aF (ak (ae (ag af))) ⟨_,rfl,ah⟩ rfl ?_;refine aF (cX aa aw) ⟨_,rfl,(ae ah)⟩ rfl ?_;refine aF (ak aa) ⟨_,rfl,(ag ah)⟩ rfl ?_;refine bK aa (λaI bZ=>?_) (λaI bZ=>?_)
    ·skip;refine aC ⟨_,rfl,.inl aI⟩ rfl ?_;refine aC ⟨_,rfl,.inl (ae aI)⟩ rfl ?_;refine aF (bq (ag aI) aw) ⟨_,rfl,(ae (ai ah))⟩ rfl ?_;refine ar (bq (ag (ai ah)) aa) rfl<|ar (ak aa) rfl<|aC ⟨_,rfl,.inl aa⟩ rfl ?_
     refine aC ⟨_,rfl,.inl (ae aa)⟩ rfl ?_;refine aC ⟨_,rfl,.inl (ag aa)⟩ rfl ?_;refine aC ⟨_,rfl,.inr aa⟩ rfl ?_;refine aC ⟨_,rfl,.inr (ae aa)⟩ rfl ?_;refine aC ⟨_,rfl,.inl (ae (ai aa))⟩ rfl ?_;refine ar (bq (ag (ai aa)) aw) rfl<|ar (ak aa) rfl<|aC ⟨_,rfl,.inl aa⟩ rfl ?_
     refine aC ⟨_,rfl,.inl (ae aa)⟩ rfl ?_;refine aC ⟨_,rfl,.inl (ag aa)⟩ rfl ?_;refine aC ⟨_,rfl,.inr aa⟩ rfl ?_;refine aC ⟨_,rfl,.inr (ae aa)⟩ rfl ?_;refine aC ⟨_,rfl,.inr (ag aa)⟩ rfl ?_;refine aC ⟨_,rfl,.inr aa⟩ rfl ?_;refine aC ⟨_,rfl,.inr (ae aa)⟩ rfl ?_;refine aC ⟨_,rfl,.inr (ae (ai aa))⟩ rfl ?_;refine aC ⟨_,rfl,.inl (ae (ay aa))⟩ rfl ?_;refine ar (bq (ag (ay aa)) aw) rfl<|bn aa ?_;intro cL b0
     refine ao ⟨(b0).trans (by(first|(simp_all [cv,aS,bj,bc,aU,aX];done)|(refine b7 ?_;simp_all [cv,aS,bj,bc,aU,aX];done)|(refine b7 ?_;rcases hp with h|h|h|h|h<;>simp_all [cv,aS,bj,bc,aU,aX];done))),rfl⟩
    refine aF (ak (ag (ai af))) ⟨_,rfl,aI⟩ rfl ?_;refine aF (cX aa aw) ⟨_,rfl,(ae aI)⟩ rfl ?_;refine aF (br (ag aI) aa) ⟨_,rfl,(ae (ai ah))⟩ rfl ?_;refine ar (bq (ag (ai ah)) aa) rfl<|ar (ak aa) rfl<|bK aa (λam b1=>?_) (λam b1=>?_)
    ·skip;refine aC ⟨_,rfl,.inl am⟩ rfl ?_;refine aC ⟨_,rfl,.inl (ae am)⟩ rfl ?_;refine aC ⟨_,rfl,.inl (ag am)⟩ rfl ?_;refine aC ⟨_,rfl,.inr aa⟩ rfl ?_;refine aC ⟨_,rfl,.inr (ae aa)⟩ rfl ?_;refine aC ⟨_,rfl,.inl (ae (ai am))⟩ rfl ?_;refine ar (bq (ag (ai am)) aw) rfl<|ar (ak aa) rfl<|aC ⟨_,rfl,.inl aa⟩ rfl ?_
     refine aC ⟨_,rfl,.inl (ae aa)⟩ rfl ?_;refine aC ⟨_,rfl,.inl (ag aa)⟩ rfl ?_;refine aC ⟨_,rfl,.inr aa⟩ rfl ?_;refine aC ⟨_,rfl,.inr (ae aa)⟩ rfl ?_;refine aC ⟨_,rfl,.inr (ag aa)⟩ rfl ?_;refine aC ⟨_,rfl,.inr aa⟩ rfl ?_;refine aC ⟨_,rfl,.inr (ae aa)⟩ rfl ?_;refine aC ⟨_,rfl,.inr (ae (ai aa))⟩ rfl ?_;refine aC ⟨_,rfl,.inl (ae (ay aa))⟩ rfl ?_;refine ar (bq (ag (ay aa)) aw) rfl<|bn aa ?_;intro cM b2
     refine ao ⟨(b2).trans (by(first|(simp_all [cv,aS,bj,bc,aU,aX];done)|(refine b7 ?_;simp_all [cv,aS,bj,bc,aU,aX];done)|(refine b7 ?_;rcases hp with h|h|h|h|h<;>simp_all [cv,aS,bj,bc,aU,aX];done))),rfl⟩
    refine aF (ak (ae (ag (ay aD)))) ⟨_,rfl,am⟩ rfl ?_;refine aF (cX aa aw) ⟨_,rfl,(ae am)⟩ rfl ?_;refine aF (ak aa) ⟨_,rfl,(ag am)⟩ rfl ?_;refine bK aa (λaJ b6=>?_) (λaJ b6=>?_)
    ·skip;refine aF (ak (ag (ai (ay af)))) ⟨_,rfl,aJ⟩ rfl ?_;refine aF (dS aa aw) ⟨_,rfl,(ae aJ)⟩ rfl ?_;refine aF (bq (ag aJ) aa) ⟨_,rfl,(ae (ai am))⟩ rfl ?_;refine ar (br (ag (ai am)) aa) rfl<|ar (ak aa) rfl<|bK aa (λab a3=>?_) (λab a3=>?_)
     ·replace a3:=cT a3;refine aC ⟨_,rfl,.inl ab⟩ rfl ?_;refine aC ⟨_,rfl,.inl (ae ab)⟩ rfl ?_;refine aC ⟨_,rfl,.inl (ag ab)⟩ rfl ?_;refine aC ⟨_,rfl,.inr aa⟩ rfl ?_;refine aC ⟨_,rfl,.inr (ae aa)⟩ rfl ?_;refine aC ⟨_,rfl,.inr (ag aa)⟩ rfl ?_;refine aC ⟨_,rfl,.inr aa⟩ rfl ?_;refine aC ⟨_,rfl,.inr (ae aa)⟩ rfl ?_;refine aC ⟨_,rfl,.inr (ae (ai aa))⟩ rfl ?_;refine aC ⟨_,rfl,.inl (ae (ay ab))⟩ rfl ?_;refine ar (bq (ag (ay ab)) aw) rfl<|bn aa ?_;intro cN b8
      refine ao ⟨(b8).trans (by(first|(simp_all [cv,aS,bj,bc,aU,aX];done)|(refine b7 ?_;simp_all [cv,aS,bj,bc,aU,aX];done)|(refine b7 ?_;rcases hp with h|h|h|h|h<;>simp_all [cv,aS,bj,bc,aU,aX];done))),rfl⟩
     replace a3:=di a3;refine aF (ak (ae (ag (aH aD)))) ⟨_,rfl,ab⟩ rfl ?_;refine aF (cX aa aw) ⟨_,rfl,(ae ab)⟩ rfl ?_;refine aF (ak aa) ⟨_,rfl,(ag ab)⟩ rfl ?_;refine bK aa (λan b9=>?_) (λan b9=>?_)
     ·skip;refine aF (ak (ag (ai (aH af)))) ⟨_,rfl,an⟩ rfl ?_;refine aF (cX aa aw) ⟨_,rfl,(ae an)⟩ rfl ?_;refine aF (ak aa) ⟨_,rfl,(ag an)⟩ rfl ?_;refine bK aa (λaK ca=>?_) (λaK ca=>?_)
      ·skip;refine aC ⟨_,rfl,.inl aK⟩ rfl ?_;refine aC ⟨_,rfl,.inl (ae aK)⟩ rfl ?_;refine aF (bq (ag aK) aw) ⟨_,rfl,(ae (ai an))⟩ rfl ?_;refine aF (bq (ag (ai an)) aa) ⟨_,rfl,(ae (ay ab))⟩ rfl ?_;refine ar (br (ag (ay ab)) aa) rfl<|bn aa ?_;intro cO cb
       refine ao ⟨(cb).trans (by(first|(simp_all [cv,aS,bj,bc,aU,aX];done)|(refine b7 ?_;simp_all [cv,aS,bj,bc,aU,aX];done)|(refine b7 ?_;rcases hp with h|h|h|h|h<;>simp_all [cv,aS,bj,bc,aU,aX];done))),rfl⟩
      refine aF (ak (ae (ay (aH af)))) ⟨_,rfl,aK⟩ rfl ?_;refine aF (cX aa aw) ⟨_,rfl,(ae aK)⟩ rfl ?_;refine aF (br (ag aK) aa) ⟨_,rfl,(ae (ai an))⟩ rfl ?_;refine aF (bq (ag (ai an)) aa) ⟨_,rfl,(ae (ay ab))⟩ rfl ?_;refine ar (br (ag (ay ab)) aa) rfl<|bn aa ?_;intro cP cc
      refine ao ⟨(cc).trans (by(first|(simp_all [cv,aS,bj,bc,aU,aX];done)|(refine b7 ?_;simp_all [cv,aS,bj,bc,aU,aX];done)|(refine b7 ?_;rcases hp with h|h|h|h|h<;>simp_all [cv,aS,bj,bc,aU,aX];done))),rfl⟩
     refine aC ⟨_,rfl,.inl an⟩ rfl ?_;refine aC ⟨_,rfl,.inl (ae an)⟩ rfl ?_;refine aC ⟨_,rfl,.inl (ag an)⟩ rfl ?_;refine aC ⟨_,rfl,.inr aa⟩ rfl ?_;refine aC ⟨_,rfl,.inr (ae aa)⟩ rfl ?_;refine aC ⟨_,rfl,.inl (ae (ai an))⟩ rfl ?_;refine aF (br (ag (ai an)) aw) ⟨_,rfl,(ae (ay ab))⟩ rfl ?_;refine ar (br (ag (ay ab)) aa) rfl<|bn aa ?_;intro cQ cd
     refine ao ⟨(cd).trans (by(first|(simp_all [cv,aS,bj,bc,aU,aX];done)|(refine b7 ?_;simp_all [cv,aS,bj,bc,aU,aX];done)|(refine b7 ?_;rcases hp with h|h|h|h|h<;>simp_all [cv,aS,bj,bc,aU,aX];done))),rfl⟩
    refine aC ⟨_,rfl,.inl aJ⟩ rfl ?_;refine aC ⟨_,rfl,.inl (ae aJ)⟩ rfl ?_;refine aF (br (ag aJ) aw) ⟨_,rfl,(ae (ai am))⟩ rfl ?_;refine ar (br (ag (ai am)) aa) rfl<|ar (ak aa) rfl<|aF (ak (ae (ag (aH aD)))) ⟨_,rfl,aa⟩ rfl ?_
    refine aF (cX aa aw) ⟨_,rfl,(ae aa)⟩ rfl ?_;refine aF (ak aa) ⟨_,rfl,(ag aa)⟩ rfl ?_;refine bK aa (λap ce=>?_) (λap ce=>?_)
    ·skip;refine aF (ak (ag (ai (aH af)))) ⟨_,rfl,ap⟩ rfl ?_;refine aF (cX aa aw) ⟨_,rfl,(ae ap)⟩ rfl ?_;refine aF (ak aa) ⟨_,rfl,(ag ap)⟩ rfl ?_;refine bK aa (λaL cf=>?_) (λaL cf=>?_)
     ·skip;refine aC ⟨_,rfl,.inl aL⟩ rfl ?_;refine aC ⟨_,rfl,.inl (ae aL)⟩ rfl ?_;refine aF (bq (ag aL) aw) ⟨_,rfl,(ae (ai ap))⟩ rfl ?_;refine aF (bq (ag (ai ap)) aa) ⟨_,rfl,(ae (ay aa))⟩ rfl ?_;refine ar (br (ag (ay aa)) aa) rfl<|bn aa ?_;intro cR cg
      refine ao ⟨(cg).trans (by(first|(simp_all [cv,aS,bj,bc,aU,aX];done)|(refine b7 ?_;simp_all [cv,aS,bj,bc,aU,aX];done)|(refine b7 ?_;rcases hp with h|h|h|h|h<;>simp_all [cv,aS,bj,bc,aU,aX];done))),rfl⟩
     refine aF (ak (ae (ay (aH af)))) ⟨_,rfl,aL⟩ rfl ?_;refine aF (cX aa aw) ⟨_,rfl,(ae aL)⟩ rfl ?_;refine aF (br (ag aL) aa) ⟨_,rfl,(ae (ai ap))⟩ rfl ?_;refine aF (bq (ag (ai ap)) aa) ⟨_,rfl,(ae (ay aa))⟩ rfl ?_;refine ar (br (ag (ay aa)) aa) rfl<|bn aa ?_;intro cS ci
     refine ao ⟨(ci).trans (by(first|(simp_all [cv,aS,bj,bc,aU,aX];done)|(refine b7 ?_;simp_all [cv,aS,bj,bc,aU,aX];done)|(refine b7 ?_;rcases hp with h|h|h|h|h<;>simp_all [cv,aS,bj,bc,aU,aX];done))),rfl⟩
    refine aC ⟨_,rfl,.inl ap⟩ rfl ?_;refine aC ⟨_,rfl,.inl (ae ap)⟩ rfl ?_;refine aC ⟨_,rfl,.inl (ag ap)⟩ rfl ?_;refine aC ⟨_,rfl,.inr aa⟩ rfl ?_;refine aC ⟨_,rfl,.inr (ae aa)⟩ rfl ?_;refine aC ⟨_,rfl,.inl (ae (ai ap))⟩ rfl ?_;refine aF (br (ag (ai ap)) aw) ⟨_,rfl,(ae (ay aa))⟩ rfl ?_;refine ar (br (ag (ay aa)) aa) rfl<|bn aa ?_;intro cU cj
    refine ao ⟨(cj).trans (by(first|(simp_all [cv,aS,bj,bc,aU,aX];done)|(refine b7 ?_;simp_all [cv,aS,bj,bc,aU,aX];done)|(refine b7 ?_;rcases hp with h|h|h|h|h<;>simp_all [cv,aS,bj,bc,aU,aX];done))),rfl⟩
   refine aC ⟨_,rfl,.inl ah⟩ rfl ?_;refine aC ⟨_,rfl,.inl (ae ah)⟩ rfl ?_;refine aC ⟨_,rfl,.inl (ag ah)⟩ rfl ?_;refine aC ⟨_,rfl,.inr aa⟩ rfl ?_;refine aC ⟨_,rfl,.inr (ae aa)⟩ rfl ?_;refine aC ⟨_,rfl,.inl (ae (ai ah))⟩ rfl ?_;refine ar (br (ag (ai ah)) aw) rfl<|ar (ak aa) rfl<|aF (ak (ae (ag (ay aD)))) ⟨_,rfl,aa⟩ rfl ?_
   refine aF (cX aa aw) ⟨_,rfl,(ae aa)⟩ rfl ?_;refine aF (ak aa) ⟨_,rfl,(ag aa)⟩ rfl ?_;refine bK aa (λaM ck=>?_) (λaM ck=>?_)
   ·skip;refine aF (ak (ag (ai (ay af)))) ⟨_,rfl,aM⟩ rfl ?_;refine aF (dS aa aw) ⟨_,rfl,(ae aM)⟩ rfl ?_;refine aF (bq (ag aM) aa) ⟨_,rfl,(ae (ai aa))⟩ rfl ?_;refine ar (br (ag (ai aa)) aa) rfl<|ar (ak aa) rfl<|bK aa (λad a5=>?_) (λad a5=>?_)
    ·replace a5:=cT a5;refine aC ⟨_,rfl,.inl ad⟩ rfl ?_;refine aC ⟨_,rfl,.inl (ae ad)⟩ rfl ?_;refine aC ⟨_,rfl,.inl (ag ad)⟩ rfl ?_;refine aC ⟨_,rfl,.inr aa⟩ rfl ?_;refine aC ⟨_,rfl,.inr (ae aa)⟩ rfl ?_;refine aC ⟨_,rfl,.inr (ag aa)⟩ rfl ?_;refine aC ⟨_,rfl,.inr aa⟩ rfl ?_;refine aC ⟨_,rfl,.inr (ae aa)⟩ rfl ?_;refine aC ⟨_,rfl,.inr (ae (ai aa))⟩ rfl ?_;refine aC ⟨_,rfl,.inl (ae (ay ad))⟩ rfl ?_;refine ar (bq (ag (ay ad)) aw) rfl<|bn aa ?_;intro cV cm
     refine ao ⟨(cm).trans (by(first|(simp_all [cv,aS,bj,bc,aU,aX];done)|(refine b7 ?_;simp_all [cv,aS,bj,bc,aU,aX];done)|(refine b7 ?_;rcases hp with h|h|h|h|h<;>simp_all [cv,aS,bj,bc,aU,aX];done))),rfl⟩
    replace a5:=di a5;refine aF (ak (ae (ag (aH aD)))) ⟨_,rfl,ad⟩ rfl ?_;refine aF (cX aa aw) ⟨_,rfl,(ae ad)⟩ rfl ?_;refine aF (ak aa) ⟨_,rfl,(ag ad)⟩ rfl ?_;refine bK aa (λau co=>?_) (λau co=>?_)
    ·skip;refine aF (ak (ag (ai (aH af)))) ⟨_,rfl,au⟩ rfl ?_;refine aF (cX aa aw) ⟨_,rfl,(ae au)⟩ rfl ?_;refine aF (ak aa) ⟨_,rfl,(ag au)⟩ rfl ?_;refine bK aa (λaN cq=>?_) (λaN cq=>?_)
     ·skip;refine aC ⟨_,rfl,.inl aN⟩ rfl ?_;refine aC ⟨_,rfl,.inl (ae aN)⟩ rfl ?_;refine aF (bq (ag aN) aw) ⟨_,rfl,(ae (ai au))⟩ rfl ?_;refine aF (bq (ag (ai au)) aa) ⟨_,rfl,(ae (ay ad))⟩ rfl ?_;refine ar (br (ag (ay ad)) aa) rfl<|bn aa ?_;intro cW cr
      refine ao ⟨(cr).trans (by(first|(simp_all [cv,aS,bj,bc,aU,aX];done)|(refine b7 ?_;simp_all [cv,aS,bj,bc,aU,aX];done)|(refine b7 ?_;rcases hp with h|h|h|h|h<;>simp_all [cv,aS,bj,bc,aU,aX];done))),rfl⟩
     refine aF (ak (ae (ay (aH af)))) ⟨_,rfl,aN⟩ rfl ?_;refine aF (cX aa aw) ⟨_,rfl,(ae aN)⟩ rfl ?_;refine aF (br (ag aN) aa) ⟨_,rfl,(ae (ai au))⟩ rfl ?_;refine aF (bq (ag (ai au)) aa) ⟨_,rfl,(ae (ay ad))⟩ rfl ?_;refine ar (br (ag (ay ad)) aa) rfl<|bn aa ?_;intro cY ct
     refine ao ⟨(ct).trans (by(first|(simp_all [cv,aS,bj,bc,aU,aX];done)|(refine b7 ?_;simp_all [cv,aS,bj,bc,aU,aX];done)|(refine b7 ?_;rcases hp with h|h|h|h|h<;>simp_all [cv,aS,bj,bc,aU,aX];done))),rfl⟩
    refine aC ⟨_,rfl,.inl au⟩ rfl ?_;refine aC ⟨_,rfl,.inl (ae au)⟩ rfl ?_;refine aC ⟨_,rfl,.inl (ag au)⟩ rfl ?_;refine aC ⟨_,rfl,.inr aa⟩ rfl ?_;refine aC ⟨_,rfl,.inr (ae aa)⟩ rfl ?_;refine aC ⟨_,rfl,.inl (ae (ai au))⟩ rfl ?_;refine aF (br (ag (ai au)) aw) ⟨_,rfl,(ae (ay ad))⟩ rfl ?_;refine ar (br (ag (ay ad)) aa) rfl<|bn aa ?_;intro cZ cu
    refine ao ⟨(cu).trans (by(first|(simp_all [cv,aS,bj,bc,aU,aX];done)|(refine b7 ?_;simp_all [cv,aS,bj,bc,aU,aX];done)|(refine b7 ?_;rcases hp with h|h|h|h|h<;>simp_all [cv,aS,bj,bc,aU,aX];done))),rfl⟩
   refine aC ⟨_,rfl,.inl aM⟩ rfl ?_;refine aC ⟨_,rfl,.inl (ae aM)⟩ rfl ?_;refine aF (br (ag aM) aw) ⟨_,rfl,(ae (ai aa))⟩ rfl ?_;refine ar (br (ag (ai aa)) aa) rfl<|ar (ak aa) rfl<|aF (ak (ae (ag (aH aD)))) ⟨_,rfl,aa⟩ rfl ?_
   refine aF (cX aa aw) ⟨_,rfl,(ae aa)⟩ rfl ?_;refine aF (ak aa) ⟨_,rfl,(ag aa)⟩ rfl ?_;refine bK aa (λav cw=>?_) (λav cw=>?_)
   ·skip;refine aF (ak (ag (ai (aH af)))) ⟨_,rfl,av⟩ rfl ?_;refine aF (cX aa aw) ⟨_,rfl,(ae av)⟩ rfl ?_;refine aF (ak aa) ⟨_,rfl,(ag av)⟩ rfl ?_;refine bK aa (λaO cx=>?_) (λaO cx=>?_)
    ·skip;refine aC ⟨_,rfl,.inl aO⟩ rfl ?_;refine aC ⟨_,rfl,.inl (ae aO)⟩ rfl ?_;refine aF (bq (ag aO) aw) ⟨_,rfl,(ae (ai av))⟩ rfl ?_;refine aF (bq (ag (ai av)) aa) ⟨_,rfl,(ae (ay aa))⟩ rfl ?_;refine ar (br (ag (ay aa)) aa) rfl<|bn aa ?_;intro c6 cy
     refine ao ⟨(cy).trans (by(first|(simp_all [cv,aS,bj,bc,aU,aX];done)|(refine b7 ?_;simp_all [cv,aS,bj,bc,aU,aX];done)|(refine b7 ?_;rcases hp with h|h|h|h|h<;>simp_all [cv,aS,bj,bc,aU,aX];done))),rfl⟩
    refine aF (ak (ae (ay (aH af)))) ⟨_,rfl,aO⟩ rfl ?_;refine aF (cX aa aw) ⟨_,rfl,(ae aO)⟩ rfl ?_;refine aF (br (ag aO) aa) ⟨_,rfl,(ae (ai av))⟩ rfl ?_;refine aF (bq (ag (ai av)) aa) ⟨_,rfl,(ae (ay aa))⟩ rfl ?_;refine ar (br (ag (ay aa)) aa) rfl<|bn aa ?_;intro c7 cz
    refine ao ⟨(cz).trans (by(first|(simp_all [cv,aS,bj,bc,aU,aX];done)|(refine b7 ?_;simp_all [cv,aS,bj,bc,aU,aX];done)|(refine b7 ?_;rcases hp with h|h|h|h|h<;>simp_all [cv,aS,bj,bc,aU,aX];done))),rfl⟩
   refine aC ⟨_,rfl,.inl av⟩ rfl ?_;refine aC ⟨_,rfl,.inl (ae av)⟩ rfl ?_;refine aC ⟨_,rfl,.inl (ag av)⟩ rfl ?_;refine aC ⟨_,rfl,.inr aa⟩ rfl ?_;refine aC ⟨_,rfl,.inr (ae aa)⟩ rfl ?_;refine aC ⟨_,rfl,.inl (ae (ai av))⟩ rfl ?_;refine aF (br (ag (ai av)) aw) ⟨_,rfl,(ae (ay aa))⟩ rfl ?_;refine ar (br (ag (ay aa)) aa) rfl<|bn aa ?_;intro c8 cB
   refine ao ⟨(cB).trans (by(first|(simp_all [cv,aS,bj,bc,aU,aX];done)|(refine b7 ?_;simp_all [cv,aS,bj,bc,aU,aX];done)|(refine b7 ?_;rcases hp with h|h|h|h|h<;>simp_all [cv,aS,bj,bc,aU,aX];done))),rfl⟩
  ·rintro c9 _ ⟨ba,rfl⟩;refine bk ba (λa6=>?_) (λa6=>?_)
   ·replace a6:=cT a6;refine ax<|at_<|ar (aB aw) rfl<|bn aa ?_;clear ba;intro da bE
    refine ao<|bm<|bw<|bX bp aj (aR bE) (.ro _ rfl) ?_
    clear bE aP
    (first|(simp_all [dy,aS,bj,bc,aU,aX];done)|(simp_all [dy,cv,aS,bj,bc,aU,aX];done)|(simp [dy,cv,aS,bj,bc,aU,aX]at*;simp_all;done))
   replace a6:=di a6;refine bF<|ao<|ax<|at_<|ar (aB aw) rfl<|bn aa ?_;clear ba;intro db bH
   refine ao<|bm<|bX bp aj (aR bH) (.ro _ rfl) ?_
   clear bH aP
   (first|(simp_all [dy,aS,bj,bc,aU,aX];done)|(simp_all [dy,cv,aS,bj,bc,aU,aX];done)|(simp [dy,cv,aS,bj,bc,aU,aX]at*;simp_all;done))
def lP(k:ByteArray):ByteArray:=if aS k bj then⟨#[110]⟩else if aS k bc then⟨#[45,45,45,45]⟩else if aS k aU then⟨#[43,45]⟩else⟨#[110,43,45]⟩
theorem ML(k:ByteArray):bT Tryz.prog 43 [.v (.string k)] (λq=>q= .v (.string (lP k))):=by
 refine cA (fn:=Tryz.f43) 10 aj rfl aj bO ?_;intro aD aE hA ap;have au:al aD (.tmp 0)=_:=hA 0 _ rfl;have ab:aE.length=0:=by rw [ap];rfl
 clear hA ap;refine ax<|at_<|ar (aB aw) rfl<|bn (ae au) ?_;clear au;intro aI av
 refine ao<|ax<|ax<|at_<|ar (ak av) rfl<|bn aa ?_;clear av;intro aJ af
 refine ao<|ca<|ax<|at_<|ar (cX af aw) rfl<|ar (aB aa) rfl<|bD (ag af) aa ?_;clear af;intro aK ad ah
 refine ao<|bk ah (λaF=>?_) (λaF=>?_)
 ·skip;refine ax<|at_<|ar (aB aw) rfl<|bn aa ?_;clear ad ah;intro aL ay
  refine ao<|bm<|cD<|bw<|bX bp aj (aR ay) (.ro _ rfl) ?_
  clear ay ab
  (first|(simp_all [lP,aS,bj,bc,aU,aX];done)|(simp [lP,aS,bj,bc,aU,aX]at*;simp_all;done))
 refine ax<|at_<|ar (cX ad aw) rfl<|ar (aB aa) rfl<|bD (ag ad) aa ?_;clear ad ah;intro aM ai am
 refine ao<|bk am (λaG=>?_) (λaG=>?_)
 ·skip;refine ax<|at_<|ar (aB aw) rfl<|bn aa ?_;clear ai am;intro aN az
  refine ao<|bm<|cD<|bw<|bX bp aj (aR az) (.ro _ rfl) ?_
  clear az ab
  (first|(simp_all [lP,aS,bj,bc,aU,aX];done)|(simp [lP,aS,bj,bc,aU,aX]at*;simp_all;done))
 refine ax<|at_<|ar (cX ai aw) rfl<|ar (aB aa) rfl<|bn aa ?_;clear ai am;intro aO an
 refine ao<|bk an (λaH=>?_) (λaH=>?_)
 ·skip;refine ax<|at_<|ar (aB aw) rfl<|bn aa ?_;clear an;intro aP aA
  refine ao<|bm<|cD<|bw<|bX bp aj (aR aA) (.ro _ rfl) ?_
  clear aA ab
  (first|(simp_all [lP,aS,bj,bc,aU,aX];done)|(simp [lP,aS,bj,bc,aU,aX]at*;simp_all;done))
 refine bF<|cG<|ao<|ax<|at_<|ar (aB aw) rfl<|bn aa ?_;clear an;intro aT aC
 refine ao<|bm<|bX bp aj (aR aC) (.ro _ rfl) ?_
 clear aC ab
 (first|(simp_all [lP,aS,bj,bc,aU,aX];done)|(simp [lP,aS,bj,bc,aU,aX]at*;simp_all;done))
theorem Bc(w:Wd)(hw:w.txt.size<=1000000)(below:Bool):bT Tryz.prog 45 [.v (.string w.txt),.v (.bool below)] (λq=>q= .tuple [mA (jg w.txt.data.toList 6),eI (eB w below)]):=by
 have hsz:w.txt.data.toList.length<=1000000:=by rw [<- size_eq];exact hw
 have hR:ga w.txt.data.toList 6=true->jg w.txt.data.toList 6=jf w.txt.data.toList:=λh=>by unfold jg;rw [if_pos h]
 refine cA (fn:=Tryz.f45) 22 aj rfl aj bO ?_;intro ap aO hA au;have av:al ap (.tmp 0)=_:=hA 0 _ rfl;have az:al ap (.tmp 1)=_:=hA 1 _ rfl;have an:aO.length=0:=by rw [au];rfl
 clear hA au;refine ax<|at_<|ar (aB aw) rfl<|ar (aB aw) rfl<|bD (ag av) (ag az) ?_;clear av az;intro aT aA aE
 refine ao<|ax<|at_<|ar (ak aA) rfl<|ar (bI (aG aa (aG aw aN)) rfl (JC w.txt 6 aD hsz) JK) rfl ?_
 refine ar (ak aa) rfl<|ar (cF aa rfl) rfl<|ar (cF (ae aa) rfl) rfl<|ar (aB (ae aa)) rfl<|ar (aB (ae aa)) rfl<|bB (ae (ag (ai aE))) (ae aa) aa ?_;clear aA aE;intro aU ah af am
 refine ao<|ax<|at_<|ar (ak af) rfl<|ar (ak (ae am)) rfl<|ar (ak aa) rfl<|bK aa (λab aP=>?_) (λab aP=>?_)
 ·skip;refine aF (ak (ae (ag ah))) ⟨_,rfl,ab⟩ rfl ?_;refine aF (ak aa) ⟨_,rfl,(ae ab)⟩ rfl ?_;refine bK aa (λad aS=>?_) (λad aS=>?_)
  ·skip;refine aC ⟨_,rfl,.inl ad⟩ rfl ?_;refine aC ⟨_,rfl,.inl (ae ad)⟩ rfl ?_;refine aF (bq (ag ad) aw) ⟨_,rfl,(ai ab)⟩ rfl ?_;refine ar (bq (ae (ai ab)) aa) rfl<|ar (aB (ay aa)) rfl<|ar (aB (ae aa)) rfl<|bD (ae aa) aa ?_;clear ab ad ah af am;intro aV aH aI
   refine ao<|bm<|dP bp aj (aR aH) (aR aI) (.ro _ rfl) (.ro _ rfl) ?_
   clear aH aI an
   (first|(simp_all [eB];done)|(simp [eB]at*;simp_all;done)|(unfold eB;cases hk:ga w.txt.data.toList 6<;>simp_all))
  refine aF (ak (ae (ai af))) ⟨_,rfl,ad⟩ rfl ?_;refine aF (lH aa aw) ⟨_,rfl,(ae ad)⟩ rfl ?_;refine aF (br (ag ad) aa) ⟨_,rfl,(ai ab)⟩ rfl ?_;refine ar (bq (ae (ai ab)) aa) rfl<|ar (aB (ay aa)) rfl<|ar (aB (ae aa)) rfl<|bD (ae aa) aa ?_;clear ab ad ah af am;intro aX aJ aK
  refine ao<|bm<|dP bp aj (aR aJ) (aR aK) (.ro _ rfl) (.ro _ rfl) ?_
  clear aJ aK an
  (first|(simp_all [eB];done)|(simp [eB]at*;simp_all;done)|(unfold eB;cases hk:ga w.txt.data.toList 6<;>simp_all))
 refine aC ⟨_,rfl,.inl ab⟩ rfl ?_;refine aC ⟨_,rfl,.inl (ae ab)⟩ rfl ?_;refine aC ⟨_,rfl,.inr aa⟩ rfl ?_;refine aC ⟨_,rfl,.inr (ae aa)⟩ rfl ?_;refine aC ⟨_,rfl,.inl (ai ab)⟩ rfl ?_;refine ar (br (ae (ai ab)) aw) rfl<|ar (aB (ay aa)) rfl<|ar (aB (ae aa)) rfl<|bD (ae aa) aa ?_;clear ab ah af am;intro aZ aL aM
 refine ao<|bm<|dP bp aj (aR aL) (aR aM) (.ro _ rfl) (.ro _ rfl) ?_
 clear aL aM an
 (first|(simp_all [eB];done)|(simp [eB]at*;simp_all;done)|(unfold eB;cases hk:ga w.txt.data.toList 6<;>simp_all))
theorem C0:(Tryz.prog.info? 70).bind (·.zero)=some (.agg #[.string ByteArray.empty,.int .i64 0]):=by kernel_rfl
theorem JM:∀ args w,(callFunc 43 args).run Tryz.prog w= .ok (.enter 43 args) w:=λ_ _=>by kernel_rfl
theorem BD:∀ args w,(callFunc 45 args).run Tryz.prog w= .ok (.enter 45 args) w:=λ_ _=>by kernel_rfl
theorem uD:b9 Tryz.prog 64 3 1 8 (.int .i64 0):=⟨aj,aj,aj⟩
theorem nI:b9 Tryz.prog 66 70 2 24 (.agg #[.string ByteArray.empty,.int .i64 0]):=⟨aj,aj,aj⟩
theorem C2:(Tryz.prog.info? 70).map (·.size)=some 2:=by kernel_rfl
theorem sy:aV Tryz.prog 3 false 1:=⟨aj,aj⟩
theorem C3:aV Tryz.prog 70 true 2:=⟨aj,aj⟩
theorem sA:aV Tryz.prog 9 false 1:=⟨aj,aj⟩
def pT:Nat->UInt8
 | 0=>110
 | 1=>45
 | _=>43
def tp(k:ByteArray):List UInt8:=(dF k).map pT
theorem QN(k:ByteArray):lP k=bs (tp k):=by
 unfold lP tp dF
 split
 ·rfl
 ·split
  ·rfl
  ·split<;>rfl
theorem wy(f:Nat):((pT f).toNat :Int)=110↔f=0:=by
 match f with
 | 0=>decide
 | 1=>decide
 | f+2=>simp [pT]
theorem Rz(f:Nat):((pT f).toNat :Int)=45↔f=1:=by
 match f with
 | 0=>decide
 | 1=>decide
 | f+2=>simp [pT]
theorem G7(f:Nat):decide (((pT f).toNat :Int)=45)=(f==1):=by rw [Ud];simp [Rz]
theorem E7{w:Wd}{b:Bool}(h:eB w b=true):jg w.txt.data.toList 6=cV w:=by
 unfold eB at h;rw [SS]at h;unfold jg cV;rw [if_pos h.1]
def kO:ByteArray->List Nat->List Wd->ByteArray
 | a,f::fs,w::ws=>kO (if f=0 then w.txt else a) fs ws
 | a,_,_=>a
def im:List Nat->List Wd->List Int
 | f::fs,w::ws=>if f=0 then im fs ws else cV w::im fs ws
 | [],ws=>ws.map cV
 | _::_,[]=> []
structure BI (fs:List Nat) (w0:Wd) (ws:List Wd) (i:Nat) (nm:ByteArray) (xs:List Int):Prop where
 le:i<=fs.length
 lw:i<=ws.length
 go:dA fs w0 ws=dA (fs.drop i) ((w0::ws).getD i default) (ws.drop i)
 nm':kO nm (fs.drop i) (ws.drop i)=kO ⟨#[]⟩ fs ws
 xs':xs++im (fs.drop i) (ws.drop i)=im fs ws
 xl:xs.length<=i
theorem BI.zero(fs:List Nat)(w0:Wd)(ws:List Wd):BI fs w0 ws 0 ⟨#[]⟩ []:=⟨S8 _,S8 _,rfl,rfl,rfl,SR _⟩
theorem tB{fs:List Nat}{i:Nat}(hi:i<fs.length):fs.drop i=fs.getD i default::fs.drop (i+1):=by rw [TU hi,SO,SQ hi];rfl
theorem tC{ws:List Wd}{i:Nat}(hw:i<ws.length):ws.drop i=ws.getD i default::ws.drop (i+1):=by rw [TU hw,SO,SQ hw];rfl
theorem Gq(f:Nat)(fr:List Nat)(la:Wd):dA (f::fr) la []=(la.col+la.txt.size,6):=by
 by_cases hf:f=0<;>simp [dA,hf,iK,fg,kg]
theorem E8{fr:List Nat}{la w:Wd}{wr:List Wd}(h:dX w.txt=true):dA (0::fr) la (w::wr)=dA fr w wr:=qp (by simp [iK,h])
theorem C4{fr:List Nat}{la w:Wd}{wr:List Wd}(h:dX w.txt=false):dA (0::fr) la (w::wr)=(w.col,4):=by
 rw [xB (by simp [iK,h])];simp [iK,h,kg]
theorem Gs{f:Nat}{fr:List Nat}{la w:Wd}{wr:List Wd}(hf:f≠0)(h:eB w (f==1)=true):dA (f::fr) la (w::wr)=dA fr w wr:=yK hf rfl (by simp only [fg,h,if_true])
theorem E9{f:Nat}{fr:List Nat}{la w:Wd}{wr:List Wd}(hf:f≠0)(h:eB w (f==1)=false):dA (f::fr) la (w::wr)=(w.col,7):=by
 rw [xU hf rfl (by simp [fg,h])];simp [fg,h,kg]
theorem G8{w0:Wd}{ws:List Wd}(i:Nat):(w0::ws).getD (i+1) default=ws.getD i default:=by simp
section
variable {fs:List Nat} {w0:Wd} {ws:List Wd} {i:Nat} {nm:ByteArray} {xs:List Int} (h:BI fs w0 ws i nm xs)
include h
theorem BI.none(hi:i<fs.length)(hw:¬ i<ws.length):dA fs w0 ws=(((w0::ws).getD i default).col +((w0::ws).getD i default).txt.size,6):=by
 rw [h.go,tB hi,show ws.drop i= []from Ue ah,Gq]
theorem BI.name(hi:i<fs.length)(hw:i<ws.length)(hf:fs.getD i default=0)(hn:dX (ws.getD i default).txt =true):BI fs w0 ws (i+1) (ws.getD i default).txt xs:=by
 have e1:=h.go;have e2:=h.nm';have e3:=h.xs';rw [tB hi,tC hw,hf]at e1 e2 e3;exact⟨hi,hw,by rw [e1,G8,E8 hn],e2,e3,TM h.xl⟩
theorem BI.RA(hi:i<fs.length)(hw:i<ws.length)(hf:fs.getD i default=0)(hn:dX (ws.getD i default).txt =false):dA fs w0 ws=((ws.getD i default).col,4):=by
 have e1:=h.go;rw [tB hi,tC hw,hf]at e1;rw [e1,C4 hn]
theorem BI.num(hi:i<fs.length)(hw:i<ws.length)(hf:fs.getD i default≠0)(hn:eB (ws.getD i default) (fs.getD i default==1)=true):BI fs w0 ws (i+1) nm (xs++ [cV (ws.getD i default)]):=by
 have e1:=h.go;have e2:=h.nm';have e3:=h.xs';have e4:=h.xl;rw [tB hi,tC hw]at e1 e2 e3;have hq:=G8 (w0:=w0) (ws:=ws) i;generalize fs.getD i default=f at*;generalize ws.getD i default=w at*;refine⟨hi,hw,?_,?_,?_,by rw [Tq,Ub];omega⟩
 ·rw [e1,Gs hf hn,hq]
 ·rw [<- e2,kO,if_neg hf]
 ·rw [<- e3,im,if_neg hf,TP];rfl
theorem BI.R9(hi:i<fs.length)(hw:i<ws.length)(hf:fs.getD i default≠0)(hn:eB (ws.getD i default) (fs.getD i default==1)=false):dA fs w0 ws=((ws.getD i default).col,7):=by
 have e1:=h.go;rw [tB hi,tC hw]at e1;rw [e1,E9 hf hn]
theorem BI.done(hi:i=fs.length):dA fs w0 ws=(0,0)/\nm=kO ⟨#[]⟩ fs ws/\xs++(ws.drop i).map cV=im fs ws:=by
 have e1:=h.go;have e2:=h.nm';have e3:=h.xs';rw [show fs.drop i= []from Ue ah]at e1 e2 e3;refine⟨by rw [e1];rfl,?_,by rw [<- e3];simp [im]⟩;rw [<- e2];cases ws.drop i<;>rfl
end
def qb(k:ByteArray)(w0:Wd)(ws:List Wd):AV:=if(de k w0 ws).2=0 then .tuple [.v (.string (kO ⟨#[]⟩ (dF k) ws)),.row 1 ((im (dF k) ws).map iE),mA 0,mA 0]else .tuple [.v (.string ⟨#[]⟩),.row 1 (([]:List Int).map iE),mA (de k w0 ws).1,mA (de k w0 ws).2]
theorem sB{k:ByteArray}{w0:Wd}{ws:List Wd}{c e:Int}(h:de k w0 ws=(c,e))(he:e≠0):qb k w0 ws= .tuple [.v (.string ⟨#[]⟩),.row 1 (([]:List Int).map iE),mA c,mA e]:=by
 unfold qb;rw [h,if_neg he]
theorem QO{k:ByteArray}{w0:Wd}{ws:List Wd}(h:(de k w0 ws).2=0){nm:ByteArray}{xs:List Int}(h1:nm=kO ⟨#[]⟩ (dF k) ws)(h2:xs=im (dF k) ws):qb k w0 ws= .tuple [.v (.string nm),.row 1 (xs.map iE),mA 0,mA 0]:=by
 unfold qb;rw [if_pos h,h1,h2]
theorem yb{sw:Bool}{ws:List Wd}{j:Nat}(hj:j<ws.length):il sw (ws.drop j)=if sw&&eB (ws.getD j default) true then il sw (ws.drop (j+1))else((ws.getD j default).col,7):=by
 rw [TU hj,SO,SQ hj];rfl
theorem yc{k:ByteArray}{w0:Wd}{ws:List Wd}{r:Int×Int}(h:dA (dF k) w0 ws=(0,0))(hr:il (aS k aX) (ws.drop (dF k).length)=r):de k w0 ws=r:=by rw [vS (by rw [h]),hr]
theorem I5(k:ByteArray)(w0:Wd)(ws:List Wd)(hB:g8 w0 ws):bT Tryz.prog 21 [.v (.string k),.row 2 ((w0::ws).map aQ)] (λq=>q=qb k w0 ws):=by
 obtain⟨fl,hfl⟩:∃ fl,fl=tp k:=⟨_,rfl⟩;obtain⟨fs,hfs⟩:∃ fs,fs=dF k:=⟨_,rfl⟩;obtain⟨us,hus⟩:∃ us,us=w0::ws:=⟨_,rfl⟩;have hll:fl.length=fs.length:=by rw [hfl,hfs];simp [tp]
 have hl4:fs.length<=4:=by rw [hfs];unfold dF;(repeat' split)<;>decide
 have hfb:∀ i:Nat,i<fs.length->fl.getD i default=pT (fs.getD i default):=λi hi=>by
  rw [hfl,hfs]at*;unfold tp;rw [SO,SU,SQ hi,SO,SQ hi];rfl
 have hz:(bs fl).size =fl.length:=rfl;have hul:us.length=ws.length+1:=by rw [hus];rfl
 have hat:∀ i:Int,0<=i->us.getD (i+1).toNat default=ws.getD i.toNat default:=λi hi=>by rw [hus,show(i+1).toNat =i.toNat+1 by omega];simp
 have hwl:=hB.len;have hall:∀ j:Nat,j<us.length->wQ (us.getD j default):=λj hj=>by
  rw [hus]at hj ⊢;cases j with
  | zero=>exact hB.last
  | succ j=>
   have h1:j<ws.length:=by simpa using hj
   have:(w0::ws).getD (j+1) default=ws[j]:=by simp [h1]
   rw [this];exact hB.all _ (TQ h1)
 rw [<- hus];refine cA (fn:=Tryz.f21) 114 aj rfl aj bO ?_;intro dD fV hA dG;have dL:al dD (.tmp 0)=_:=hA 0 _ rfl;have dM:al dD (.tmp 1)=_:=hA 1 _ rfl;have cg:fV.length=0:=by rw [dG];rfl
 clear hA dG;refine ax<|at_<|ar (aB aw) rfl<|ar (aB aw) rfl<|ar (aB aw) rfl<|ar (aB aw) rfl<|bD (ai dL) (ai dM) ?_;clear dL dM;intro gX ci dO
 refine ao<|ax<|at_<|ar (ak ci) rfl<|ar (bI (aG aa aN) rfl ((ML k).mono (λq h=>show q= .v (.string (bs fl))from h.trans (by rw [QN,hfl]))) JM) rfl ?_
 refine ar (aB aa) rfl<|bB (ae (ag ci)) (ae (ag dO)) aa ?_;clear ci dO;intro gY dP dQ dR
 refine ao<|ax<|at_<|ar (aB aw) rfl<|bu (ae dP) (ae dQ) (ae dR) aa ?_;clear dP dQ dR;intro gZ dU dV dW dX
 refine ao<|ax<|at_<|ar (aB aw) rfl<|ck (ae dU) (ae dV) (ae dW) (ae dX) aa ?_;clear dU dV dW dX;intro g0 dZ ea eb ec ed
 refine ao<|ax<|ax<|at_<|ar (aB aw) rfl<|dH (ae dZ) (ae ea) (ae eb) (ae ec) (ae ed) aa ?_;clear dZ ed ea eb ec;intro g1 fW fX fY fZ f0 ga
 refine ao<|ca<|uk 3 1 f0 cg (λg2 ad cm an=>?_)
 have gb:=bS cm cg;have co:=bR cm cg;have co:_=1:=co;have cq:al ad (.tmp 0)=_:=(congrArg (λq=>al q (.tmp 0)) an).trans (ae fW);have cr:al ad (.tmp 1)=_:=(congrArg (λq=>al q (.tmp 1)) an).trans (ae fX);have cu:al ad (.tmp 8)=_:=(congrArg (λq=>al q (.tmp 8)) an).trans (ae fY);have gc:al ad (.tmp 9)=_:=(congrArg (λq=>al q (.tmp 9)) an).trans (ae fZ);have gd:al ad (.tmp 10)=_:=(congrArg (λq=>al q (.tmp 10)) an).trans aa;have ge:al ad (.tmp 11)=_:=(congrArg (λq=>al q (.tmp 11)) an).trans (ae ga);clear cm an;refine eL (S:=(Int×ByteArray×List Int)) (λs e mem=>match s with|⟨i,nm,xs⟩=>(al e (.tmp 11)= .v (.int .i64 i))/\(al e (.tmp 9)= .v (.string nm))/\(al e (.tmp 0)=al ad (.tmp 0))/\(al e (.tmp 1)=al ad (.tmp 1))/\(al e (.tmp 8)=al ad (.tmp 8))/\(∃ j,al e (.tmp 10)= .own j/\mem[j]? =some (.row 3 1 (xs.map iE))/\True)/\(∃ n,mem.length=n/\1<=n)/\((0<=i/\BI fs w0 ws i.toNat nm xs))) (λs=>match s with|⟨i,nm,xs⟩=>(fs.length - i).toNat) ⟨0,⟨#[]⟩,[]⟩ ⟨ge,gc,rfl,rfl,rfl,⟨_,gd,gb,trivial⟩,⟨_,co,SR _⟩,?_⟩ ?_
 ·exact⟨ah,BI.zero _ _ _⟩
 ·rintro⟨i,nm,xs⟩ g3 g4 ⟨cv,ee,gf,gg,gh,⟨g5,ef,aH,-⟩,⟨gi,am,g6⟩,hinv⟩;have eg:=gf.trans cq;have eh:=gg.trans cr;have cy:=gh.trans cu;have g7:=cL aH am
  (obtain⟨p0,p1⟩:=hinv;have q1:=p1.le;have q2:=p1.lw;have q3:=p1.xl;have e1:=hat i p0)
  refine ax<|ax<|at_<|ar (ak cv) rfl<|ar (ak (ae cy)) rfl<|ar (eE aa rfl cK) rfl<|ar (c6 (ag aa) aa) rfl<|fe (ai eg) (ai eh) (ai cy) (ai ee) (ai ef) (ai cv) aa ?_;clear eg ef cv eh cy ee;intro g9 bc aT be bg bj bv cz
  refine ao<|bk cz (λaU=>?_) (λaU=>?_)
  ·replace aU:=bt aU;refine bF<|ao<|ax<|ca<|ax<|ax<|at_<|ar (ak bv) rfl ?_
   (refine ar (cf aa aw ?_) rfl ?_; · (unfold In64;omega))
   refine ar (ak (ag aT)) rfl<|ar (az (cx aa rfl nI.1) ct) rfl ?_
   refine ar (lH (ag aa) aa) rfl<|fe (ae (ai bc)) (ae (ai aT)) (ae (ai be)) (ae (ai bg)) (ae (ai bj)) (ae (ai bv)) aa ?_;clear bc bj bv aT cz be bg;intro hh cB aL cH cI cM bx cN
   refine ao<|bk cN (λaV=>?_) (λaV=>?_)
   ·replace aV:=bt aV
    (obtain⟨hla1,hla2,hla3⟩:=hall ((us.length:Int) - 1).toNat ah)
    refine ax<|at_<|ar (ak aL) rfl<|ar (ak (ae aL)) rfl<|ar (az (cx aa rfl nI.1) ct) rfl ?_
    (refine ar (eU aa aw ?_) rfl ?_; · (unfold In64;omega))
    refine ar (az (cE nI (ae (ag aa)) aa ah (by first|(refine dK ?_;first|omega|(simp only [dj];omega))|(refine dq ?_;first|omega|(simp only [dj];omega))|(refine nH ?_;first|omega|(simp only [dj];omega))|rfl)) gv) rfl ?_;refine ar (az (bL C3 rfl aa aA) gv) rfl ?_;refine aM (cJ C0 rfl am) trivial rfl (λhv bA=>?_);have bE:=bS bA am;simp only [pS,Value.cells,Nat.reduceAdd,aQ,gK,bG,bC]at bE;have en:=aI bA aH;have gk:=bR bA am;clear bA aH;refine aM (bV aa (ae aa) rfl rfl bE C2 rfl aA) trivial rfl (λhC bH=>?_);have bJ:=bo bH bE;simp only [pS,Value.cells,Nat.reduceAdd,aQ,gK,bG,bC]at bJ;have gl:=au bH en ah;have gm:=bh bH gk;clear bH bE en;refine bn (aE aa) ?_;clear cB cM bx aL cN cH cI;intro hD cO;refine ao<|ax<|eu 10 aj aj aj aj ?_
    refine dr (aJ qz rfl cO) rfl<|dr (az (aK sy rfl bJ aa aA) gv) rfl ?_
    refine dr (aJ pf rfl (ag cO)) rfl<|dr (az (aK sA rfl bJ aa aA) gv) rfl ?_
    refine dr (eE aa rfl cK) rfl ?_
    (refine dr (cf (ae (ag aa)) aa ?_) rfl ?_; · (unfold In64;omega))
    refine dr (aB aw) rfl<|dr (aB aw) rfl<|dr (aB (ag aa)) rfl<|dr (aB aw) rfl<|dE<|bu (ae (ag aa)) (ag aa) (ae aa) aa ?_;clear cO;intro hE er ev ew ey
    refine ao<|bm<|bw<|cD<|bw<|bw<|cD<|bw<|rp bp aj (aR er) (aR ev) (aR ew) (aR ey) (.ro _ rfl) (.nil 1) (.ro _ rfl) (.ro _ rfl) ?_
    clear er ev ew ey bJ gl gm
    (have hn:=p1.none ah ah;rw [<- hus,show i.toNat=((us.length:Int) - 1).toNat by omega]at hn;have hb:de k w0 ws=((us.getD ((us.length:Int) - 1).toNat default).col +(us.getD ((us.length:Int) - 1).toNat default).txt.size,6):=kB (by rw [<- hfs];exact hn) aD;rw [sB hb aD];rfl)
   replace aV:=bf aV;refine bF<|ao<|ax<|at_<|ar (ak aL) rfl<|ar (ak (ae bx)) rfl ?_
   (refine ar (cf aa aw ?_) rfl ?_; · (unfold In64;omega))
   refine ar (az (cE nI (ag aa) aa ah (by first|(refine dK ?_;first|omega|(simp only [dj];omega))|(refine dq ?_;first|omega|(simp only [dj];omega))|(refine nH ?_;first|omega|(simp only [dj];omega))|rfl)) gv) rfl ?_;refine ar (az (bL C3 rfl aa aA) gv) rfl ?_;refine aM (cJ C0 rfl am) trivial rfl (λhF bM=>?_);have bN:=bS bM am;simp only [pS,Value.cells,Nat.reduceAdd,aQ,gK,bG,bC]at bN;have ez:=aI bM aH;have gn:=bR bM am;clear bM aH;refine aM (bV aa (ae aa) rfl rfl bN C2 rfl aA) trivial rfl (λhG bP=>?_);have ab:=bo bP bN;simp only [pS,Value.cells,Nat.reduceAdd,aQ,gK,bG,bC]at ab;have aZ:=au bP ez ah;have aO:=bh bP gn;clear bP bN ez;refine fe (aE (ag (ai cB))) (aE (ag (ai aL))) (aE (ag (ai cH))) (aE (ag (ai cI))) (aE (ag (ai cM))) (aE (ag (ai bx))) (aE aa) ?_;clear cB cM bx aL cN cH cI;intro hH eA eC cP eD eF cQ eG;refine ao<|ax<|ax<|at_<|ar (ak cP) rfl<|ar (ak (ae cQ)) rfl<|ar (gC (ae aa) aa cK ah (by refine gI ?_;first|omega|(simp<;>omega;done)|(refine S4 (m:=256) ?_ hU;omega))) rfl ?_
   refine ar (dN aa aw) rfl ?_;refine ik (ai eA) (ai eC) (ai cP) (ai eD) (ai eF) (ai cQ) (ai eG) aa ?_;clear eA eF cQ eG eC cP eD;intro hI bQ bU a2 cR bX a3 aP cS;refine ao<|bk cS (λa5=>?_) (λa5=>?_)
   ·replace a5:=bt a5;refine ax<|ax<|at_<|ar (aJ pf rfl aP) rfl<|ar (az (aK sA rfl ab aa aA) gv) rfl ?_
    refine ar (bI (aG aa aN) rfl (xk _ (by have:=(hall (i+1).toNat ah).2.2;omega)) zh) rfl ?_;refine ar (dT aa) rfl<|fe (ai bQ) (ai bU) (ai a2) (ai bX) (ai a3) (ai aP) aa ?_;clear bQ bX a3 aP bU cS a2 cR;intro hJ cU cW cX cY cZ bY c7
    refine ao<|bk c7 (λa6=>?_) (λa6=>?_)
    ·replace a6:=cT a6;refine ax<|eu 6 aj aj aj aj ?_
     refine dr (aJ qz rfl bY) rfl<|dr (az (aK sy rfl ab aa aA) gv) rfl ?_
     refine dr (aB aw) rfl<|dr (aB aw) rfl<|dr (aB (ag aa)) rfl<|dr (aB aw) rfl<|dE<|bu (ae (ag aa)) (ag aa) (ae aa) aa ?_;clear cU cY cZ bY cW c7 cX;intro hK eH eI eK eP
     refine ao<|bm<|bw<|bw<|cD<|bw<|bw<|cD<|bw<|rp bp aj (aR eH) (aR eI) (aR eK) (aR eP) (.ro _ rfl) (.nil 1) (.ro _ rfl) (.ro _ rfl) ?_
     clear eH eI eK eP ab aZ aO
     (have hc:=hfb i.toNat ah;have hf:fs.getD i.toNat default=0:=(wy _).1 (by rw [<- hc];assumption);have hn:=p1.RA ah ah hf (by rw [<- e1];assumption);have hb:de k w0 ws=((ws.getD i.toNat default).col,4):=kB (by rw [<- hfs];exact hn) aD;rw [sB hb aD, <- e1];rfl)
    replace a6:=di a6;refine bF<|ao<|ax<|at_<|ar (aJ pf rfl bY) rfl<|ar (az (aK sA rfl ab aa aA) gv) rfl ?_
    refine ar (aB aa) rfl<|dH (ae (ag cU)) (ae (ag cW)) (ae (ag cX)) aa (ae (ag cY)) (ae (ag cZ)) ?_;clear cU cY cZ bY cW c7 cX;intro hM eS eT eW eX eY eZ
    refine ao<|dJ<|cw<|dI<|ao<|at_<|ar (ak eZ) rfl ?_
    (refine ar (cf aa aw ?_) rfl ?_; · (unfold In64;omega))
    refine ar (aB aa) rfl<|dH (ae (ag eS)) (ae (ag eT)) (ae (ag eW)) (ae (ag eX)) (ae (ag eY)) aa ?_;clear eS eY eZ eT eW eX;intro hN gp gr gt gu gw gx
    refine ao<|⟨⟨_,_,_⟩,⟨gx,gu,(gp.trans cq.symm),(gr.trans cr.symm),(gt.trans cu.symm),⟨_,gw,aZ,trivial⟩,⟨_,aO,ah⟩,?_⟩,?_⟩
    ·(have hc:=hfb i.toNat ah;have hf:fs.getD i.toNat default=0:=(wy _).1 (by rw [<- hc];assumption);rw [e1];exact⟨ah,by rw [show(i+1).toNat =i.toNat+1 by omega];exact p1.name ah ah hf (by rw [<- e1];assumption)⟩)
    ·((try dsimp only);omega)
   replace a5:=bf a5;refine bF<|ao<|ax<|eu 12 aj aj aj aj ?_
   refine dr (aJ pf rfl aP) rfl<|dr (az (aK sA rfl ab aa aA) gv) rfl ?_
   refine dr (ak (ag a2)) rfl<|dr (ak (ae (ag a3))) rfl<|dr (gC (ae aa) aa cK ah (by refine gI ?_;first|omega|(simp<;>omega;done)|(refine S4 (m:=256) ?_ hU;omega))) rfl ?_
   refine dr (dN aa aw) rfl ?_;refine dr (bI (aG (ai aa) (aG aa aN)) rfl (Bc _ (hall (i+1).toNat ah).2.2 _) BD) rfl ?_;refine dr (ak aa) rfl<|dr (cF aa rfl) rfl<|dr (cF (ae aa) rfl) rfl<|dr (aB (ae aa)) rfl<|dr (aB (ae aa)) rfl<|dE<|lU (ai (ay bQ)) (ai (ay bU)) (ai (ay a2)) (ai (ay cR)) (ai (ay bX)) (ai (ay a3)) (ai (ay aP)) (ae aa) aa ?_;clear bQ bX a3 aP bU cS a2 cR;intro hO e0 e3 e4 e5 e6 e7 e8 e9 fa
   refine ao<|ax<|ax<|at_<|ar (ak fa) rfl<|ar (dT aa) rfl<|lU (ag e0) (ag e3) (ag e4) (ag e5) (ag e6) (ag e7) (ag e8) (ag e9) aa ?_;clear e0 e6 e7 e8 e9 fa e3 e4 e5;intro hP c8 c9 da db dc dd df dg dh
   refine ao<|bk dh (λa7=>?_) (λa7=>?_)
   ·replace a7:=cT a7;refine ax<|eu 6 aj aj aj aj ?_
    refine dr (aJ qz rfl df) rfl<|dr (az (aK sy rfl ab aa aA) gv) rfl ?_
    refine dr (aB aw) rfl<|dr (aB aw) rfl<|dr (aB (ag aa)) rfl<|dr (aB aw) rfl<|dE<|bu (ae (ag aa)) (ag aa) (ae aa) aa ?_;clear c8 dc dd df dg c9 dh da db;intro hQ fb fc fd ff
    refine ao<|bm<|bw<|cD<|bw<|bw<|cD<|bw<|rp bp aj (aR fb) (aR fc) (aR fd) (aR ff) (.ro _ rfl) (.nil 1) (.ro _ rfl) (.ro _ rfl) ?_
    clear fb fc fd ff ab aZ aO
    (have hc:=hfb i.toNat ah;have hf:fs.getD i.toNat default≠0:=(λh_=>absurd ((wy _).2 h_) (by rw [<- hc];assumption));have hn:=p1.R9 ah ah hf (by rw [<- e1, <- G7, <- hc];assumption);have hb:de k w0 ws=((ws.getD i.toNat default).col,7):=kB (by rw [<- hfs];exact hn) aD;rw [sB hb aD, <- e1];rfl)
   replace a7:=di a7;refine bF<|ao<|at_<|ar (ak dc) rfl<|ar (ak (ae dg)) rfl<|ar (ep uD (bz aa bW) rfl rfl rfl rfl) rfl<|aM (ib uD rfl aO aZ (ag aa) aa dY dC) trivial rfl (λhS bZ=>?_)
   have fg:=iY bZ aO;simp only [pS,Value.cells,Nat.reduceAdd,aQ,gK,bG,bC]at fg;have hV:=cC bZ ab ah;have gy:=iT bZ aO;clear bZ ab aZ;refine ar (aB aa) rfl<|dH (ae (ai c8)) (ae (ai c9)) (ae (ai da)) (ae (ai db)) aa (ae (ai dd)) ?_;clear c8 dc dd df dg c9 dh da db;intro hW fh fi fj fk fm fo
   refine cG<|ao<|at_<|ar (ak fo) rfl ?_
   (refine ar (cf aa aw ?_) rfl ?_; · (unfold In64;omega))
   refine ar (aB aa) rfl<|dH (ae (ag fh)) (ae (ag fi)) (ae (ag fj)) (ae (ag fk)) (ae (ag fm)) aa ?_;clear fh fm fo fi fj fk;intro hY gz gA gB gD gE gF
   refine ao<|⟨⟨_,_,_⟩,⟨gF,gD,(gz.trans cq.symm),(gA.trans cr.symm),(gB.trans cu.symm),⟨_,gE,fg,trivial⟩,⟨_,gy,ah⟩,?_⟩,?_⟩
   ·(have hc:=hfb i.toNat ah;have hf:fs.getD i.toNat default≠0:=(λh_=>absurd ((wy _).2 h_) (by rw [<- hc];assumption));have hn:eB (ws.getD i.toNat default) (fs.getD i.toNat default==1)=true:=(by rw [<- e1, <- G7, <- hc];assumption);rw [e1,E7 hn];exact⟨ah,by rw [show(i+1).toNat =i.toNat+1 by omega];exact p1.num ah ah hf hn⟩)
   ·((try dsimp only);omega)
  replace aU:=bf aU;refine dJ<|cw<|cw<|dI<|ao<|ax<|ax<|at_<|ar (ak be) rfl<|ar (eE aa rfl cK) rfl ?_
  (refine ar (cf aa aw ?_) rfl ?_; · (unfold In64;omega))
  refine ar (aB aa) rfl<|ck (ai bc) (ai aT) (ai bg) (ai bj) aa ?_;clear bc bj bv aT cz be bg;intro dk fp fq ft gG gH
  refine ao<|ca<|eL (S:=(Int×List Int)) (λs e mem=>match s with|⟨j,ys⟩=>(al e (.tmp 16)= .v (.int .i64 j))/\(al e (.tmp 0)=al dk (.tmp 0))/\(al e (.tmp 1)=al dk (.tmp 1))/\(al e (.tmp 9)=al dk (.tmp 9))/\(∃ j,al e (.tmp 10)= .own j/\mem[j]? =some (.row 3 1 (ys.map iE))/\True)/\(∃ n,mem.length=n/\gi<=n)/\((1<=j/\j<=us.length/\il (aS k aX) (ws.drop fs.length)=il (aS k aX) (ws.drop (j - 1).toNat)/\ys++(ws.drop (j - 1).toNat).map cV=im fs ws/\ys.length<=j))) (λs=>match s with|⟨j,ys⟩=>(us.length - j).toNat) ⟨_,xs⟩ ⟨gH,rfl,rfl,rfl,⟨_,gG,aH,trivial⟩,⟨_,am,SR _⟩,?_⟩ ?_
  ·(have hdn:=p1.done ah;exact⟨ah,ah,by rw [show(((bs fl).size :Int)+1 - 1).toNat =fs.length by omega],by rw [show(((bs fl).size :Int)+1 - 1).toNat =i.toNat by omega];exact hdn.2.2,ah⟩)
  ·rintro⟨j,ys⟩ hZ h6 ⟨dl,gJ,gL,gM,⟨h7,fu,ap,-⟩,⟨h8,av,h9⟩,hinv⟩;have fw:=gJ.trans fp;have dm:=gL.trans fq;have fx:=gM.trans ft;have ia:=cL ap av
   (obtain⟨r0,r1,r2,r3,r4⟩:=hinv;have hdn:=p1.done ah;have e2:us.getD j.toNat default=ws.getD (j - 1).toNat default:=(by have h_:=hat (j - 1) ah;rwa [show j - 1+1=j by omega]at h_))
   refine ax<|ax<|at_<|ar (ak dl) rfl<|ar (ak (ae dm)) rfl<|ar (az (cx aa rfl nI.1) ct) rfl ?_
   refine ar (c6 (ag aa) aa) rfl<|dH (ai fw) (ai dm) (ai fx) (ai fu) (ai dl) aa ?_;clear fw fu dl dm fx;intro ic dn b0 b1 b2 b6 dt
   refine ao<|bk dt (λa8=>?_) (λa8=>?_)
   ·replace a8:=bt a8;refine bF<|ao<|ax<|ca<|ax<|at_<|ar (ak b0) rfl<|ar (ak (ae b6)) rfl<|ar (az (cE nI (ae aa) aa ah (by first|(refine dK ?_;first|omega|(simp only [dj];omega))|(refine dq ?_;first|omega|(simp only [dj];omega))|(refine nH ?_;first|omega|(simp only [dj];omega))|rfl)) gv) rfl ?_
    refine ar (az (cj pf rfl aa) gv) rfl ?_;refine ar (az (bL sA rfl aa aA) gv) rfl ?_;refine ar (bI (aG aa (aG aw aN)) rfl (Bc _ (hall j.toNat ah).2.2 _) BD) rfl ?_;refine ar (ak aa) rfl<|ar (cF aa rfl) rfl<|ar (cF (ae aa) rfl) rfl<|ar (aB (ae aa)) rfl<|ar (aB (ae aa)) rfl<|fe (ae (ag (ay dn))) (ae (ag (ay b0))) (ae (ag (ay b1))) (ae (ag (ay b2))) (ae (ag (ay b6))) (ae aa) aa ?_;clear dn b2 b6 b0 dt b1;intro ie a9 b7 b8 b9 cb cc du
    refine ao<|ax<|ax<|at_<|ar (ak a9) rfl<|ar (dS aa aw) rfl<|ar (ak aa) rfl<|bK aa (λaf ba=>?_) (λaf ba=>?_)
    ·replace ba:=cT ba;refine aC ⟨_,rfl,.inl af⟩ rfl ?_;refine aC ⟨_,rfl,.inl (ae af)⟩ rfl ?_;refine ar (bq (ag af) aw) rfl<|fe (ag (ai a9)) (ag (ai b7)) (ag (ai b8)) (ag (ai b9)) (ag (ai cb)) (ag (ai cc)) aa ?_;clear af a9 b9 cb cc du b7 b8;intro ig gN fy gO gP fz gQ fA
     refine ao<|lA fA<|ax<|eu 9 aj aj aj aj ?_
     refine dr (ak fy) rfl<|dr (ak (ae fz)) rfl<|dr (az (cE nI (ae aa) aa ah (by first|(refine dK ?_;first|omega|(simp only [dj];omega))|(refine dq ?_;first|omega|(simp only [dj];omega))|(refine nH ?_;first|omega|(simp only [dj];omega))|rfl)) gv) rfl ?_
     refine dr (az (cj qz rfl aa) gv) rfl ?_;refine dr (az (bL sy rfl aa aA) gv) rfl ?_;refine dr (aB aw) rfl<|dr (aB aw) rfl<|dr (aB (ag aa)) rfl<|dr (aB aw) rfl<|dE<|bu (ae (ag aa)) (ag aa) (ae aa) aa ?_;clear gN fA gP fz gQ fy gO;intro ih fB fC fD fE
     refine ao<|bm<|bw<|cD<|bw<|bw<|cD<|bw<|rp bp aj (aR fB) (aR fC) (aR fD) (aR fE) (.ro _ rfl) (.nil 1) (.ro _ rfl) (.ro _ rfl) ?_
     clear fB fC fD fE ap av
     (have hk:aS k aX=false:=(by assumption);have hb:de k w0 ws=((ws.getD (j - 1).toNat default).col,7):=yc (by rw [<- hfs];exact hdn.1) (by rw [<- hfs,r2,yb ah,hk];rfl);rw [sB hb aD, <- e2];rfl)
    replace ba:=di ba;refine aF (ak (ae (ag du))) ⟨_,rfl,af⟩ rfl ?_;refine aF (dT aa) ⟨_,rfl,(ae af)⟩ rfl ?_;refine ar (br (ag af) aa) rfl<|fe (ag (ai a9)) (ag (ai b7)) (ag (ai b8)) (ag (ai b9)) (ag (ai cb)) (ag (ai cc)) aa ?_;clear af a9 b9 cb cc du b7 b8;intro ij dv cd dw dy ce dz dA
    refine ao<|bk dA (λbb=>?_) (λbb=>?_)
    ·replace bb:=cT bb;refine ax<|eu 9 aj aj aj aj ?_
     refine dr (ak cd) rfl<|dr (ak (ae ce)) rfl<|dr (az (cE nI (ae aa) aa ah (by first|(refine dK ?_;first|omega|(simp only [dj];omega))|(refine dq ?_;first|omega|(simp only [dj];omega))|(refine nH ?_;first|omega|(simp only [dj];omega))|rfl)) gv) rfl ?_
     refine dr (az (cj qz rfl aa) gv) rfl ?_;refine dr (az (bL sy rfl aa aA) gv) rfl ?_;refine dr (aB aw) rfl<|dr (aB aw) rfl<|dr (aB (ag aa)) rfl<|dr (aB aw) rfl<|dE<|bu (ae (ag aa)) (ag aa) (ae aa) aa ?_;clear dv dA dy ce dz cd dw;intro io fF fG fH fI
     refine ao<|bm<|bw<|cD<|bw<|bw<|cD<|bw<|rp bp aj (aR fF) (aR fG) (aR fH) (aR fI) (.ro _ rfl) (.nil 1) (.ro _ rfl) (.ro _ rfl) ?_
     clear fF fG fH fI ap av
     (have hn:eB (ws.getD (j - 1).toNat default) true=false:=(by rw [<- e2];assumption);have hb:de k w0 ws=((ws.getD (j - 1).toNat default).col,7):=yc (by rw [<- hfs];exact hdn.1) (by rw [<- hfs,r2,yb ah,hn,Bool.and_false];rfl);rw [sB hb aD, <- e2];rfl)
    replace bb:=di bb;refine bF<|ao<|at_<|ar (ak dy) rfl<|ar (ak (ae dz)) rfl<|ar (ep uD (bz aa bW) rfl rfl rfl rfl) rfl<|aM (ib uD rfl av ap (ag aa) aa dY dC) trivial rfl (λip dB=>?_)
    have fJ:=iY dB av;simp only [pS,Value.cells,Nat.reduceAdd,aQ,gK,bG,bC]at fJ;have gR:=iT dB av;clear dB ap;refine ar (aB aa) rfl<|ck (ae (ai dv)) (ae (ai cd)) (ae (ai dw)) aa (ae (ai ce)) ?_;clear dv dA dy ce dz cd dw;intro iq fK fL fM fN fO
    refine cG<|ao<|at_<|ar (ak fO) rfl ?_
    (refine ar (cf aa aw ?_) rfl ?_; · (unfold In64;omega))
    refine ar (aB aa) rfl<|ck (ae (ag fK)) (ae (ag fL)) (ae (ag fM)) (ae (ag fN)) aa ?_;clear fK fN fO fL fM;intro ir gS gT gU gV gW
    refine ao<|⟨⟨_,_⟩,⟨gW,(gS.trans fp.symm),(gT.trans fq.symm),(gU.trans ft.symm),⟨_,gV,fJ,trivial⟩,⟨_,gR,ah⟩,?_⟩,?_⟩
    ·(have hk:aS k aX=true:=(by assumption);have hn:eB (ws.getD (j - 1).toNat default) true=true:=(by rw [<- e2];assumption);have hd:=tC (ws:=ws) (i:=(j - 1).toNat) ah;rw [e2,E7 hn];refine⟨ah,ah,?_,?_,by(rw [Tq,Ub];omega)⟩;(rw [r2,yb ah,hk,hn,show(j+1 - 1).toNat =(j - 1).toNat +1 by omega];rfl);(rw [<- r3,hd,show(j+1 - 1).toNat =(j - 1).toNat +1 by omega,TP];rfl))
    ·((try dsimp only);omega)
   replace a8:=bf a8;refine dJ<|cw<|cw<|dI<|ao<|ax<|at_<|ar (ak b1) rfl<|ar (ak (ae b2)) rfl<|ar (aB (ae aa)) rfl<|ar (aB (ae aa)) rfl<|ar (aB aw) rfl<|ar (aB aw) rfl<|bu (ae (ag aa)) (ag aa) (ae aa) aa ?_;clear dn b2 b6 b0 dt b1;intro iu fP fQ fT fU
   refine ao<|bm<|rp bp aj (aR fP) (aR fQ) (aR fT) (aR fU) (.ro _ rfl) (.own _ _ _ _ ap) (.ro _ rfl) (.ro _ rfl) ?_
   clear fP fQ fT fU ap av
   (have hnil:ws.drop (j - 1).toNat = []:=Ue ah;have hb:de k w0 ws=(0,0):=yc (by rw [<- hfs];exact hdn.1) (by rw [<- hfs,r2,hnil];rfl);rw [hnil]at r3;have hn1:nm=kO ⟨#[]⟩ (dF k) ws:=(by rw [<- hfs];exact hdn.2.1);have hx1:ys=im (dF k) ws:=(by rw [<- hfs, <- r3];simp);rw [QO (by rw [hb]) hn1 hx1])
end Go.Proofs.YtfoaiidcfkmneaaGreatDoor
namespace Go.Proofs.YtfoaiidcfkmneaaGreatDoor
open Go Go.RowKit Go.Proofs Go.Lib
theorem C5:b9 Tryz.prog 52 54 2 24 (.agg #[.string ByteArray.empty,.int .i64 0]):=⟨aj,aj,aj⟩
theorem uE:b9 Tryz.prog 64 3 1 8 (.int .i64 0):=⟨aj,aj,aj⟩
theorem yP:aV Tryz.prog 3 false 1:=⟨aj,aj⟩
theorem uF:aV Tryz.prog 51 false 1:=⟨aj,aj⟩
theorem C6:aV Tryz.prog 52 false 1:=⟨aj,aj⟩
theorem vl:aV Tryz.prog 9 false 1:=⟨aj,aj⟩
theorem fB{a b:ByteArray}:aS a b=true↔a=b:=by
 unfold aS;rw [toList_data,toList_data,beq_iff_eq]
 constructor
 ·intro h;obtain⟨⟨x⟩⟩:=a;obtain⟨⟨y⟩⟩:=b;simp at h;rw [h]
 ·intro h;rw [h]
theorem rS{k:ByteArray}{c:Int}:∀ (hs:HL) (cs:List (List Int)) (q:Nat),cs.length=hs.length->q<hs.length->hK hs q=k->(∀ p,p<q->hK hs p≠k)->ft k c (hs.map (·.1)) cs=(hs.map (·.1),cs.set q (cR cs q++ [c]))
 | [],cs,q,_,hq,_,_=>absurd hq aL
 | x::hs,[],q,hl,_,_,_=>by simp at hl
 | x::hs,d::cs,0,hl,hq,hk,hp=>by
  have hx:aS x.1 k=true:=fB.2 hk;simp only [TC,ft,hx,if_true];rfl
 | x::hs,d::cs,q+1,hl,hq,hk,hp=>by
  have hx:¬ aS x.1 k=true:=λh=>hp 0 ah (fB.1 h)
  have ih:=rS (k:=k) (c:=c) hs cs q (by simpa using hl) (by simpa using hq) hk (λp hpq=>hp (p+1) ah);simp only [TC,ft,hx,if_false,UP,List.headD_cons];rw [ih];rfl
theorem rL{k:ByteArray}{c:Int}:∀ (hs:HL) (cs:List (List Int)),cs.length=hs.length->(∀ q,q<hs.length->hK hs q≠k)->ft k c (hs.map (·.1)) cs=(hs.map (·.1)++ [k],cs++ [[c]])
 | [],[],_,_=>rfl
 | [],d::cs,h,_=>by simp at h
 | x::hs,[],hl,_=>by simp at hl
 | x::hs,d::cs,hl,hq=>by
  have hx:¬ aS x.1 k=true:=λh=>hq 0 aL (fB.1 h)
  have ih:=rL (k:=k) (c:=c) hs cs (by simpa using hl) (λq h=>hq (q+1) kD);simp only [TC,ft,hx,if_false,UP,List.headD_cons];rw [ih];rfl
theorem vT{hs:HL}{k:ByteArray}(h:¬ ∃ q,q<hs.length/\hK hs q=k):∀ q,q<hs.length->hK hs q≠k:=λq hq e=>h ⟨q,hq,e⟩
theorem nJ{hs:HL}{k:ByteArray}(h:∀ q,q<hs.length->hK hs q≠k):∀ x∈fx hs,x.1≠k:=λx hx=>by
 obtain⟨q,hq,rfl⟩:=TK hx;have hq':q<hs.length:=by simpa [fx]using hq
 have:=lg hq';rw [SQ hq]at this;rw [Option.some.inj this];exact h q hq'
theorem cn{hs:HL}{q:Nat}{k:ByteArray}{n:Nat}:(fx hs).set q (k,.own n)=fx (hs.set q (k,n)):=by simp [fx,List.map_set]
theorem cp{hs:HL}{k:ByteArray}{n:Nat}:fx hs++ [(k,.own n)]=fx (hs++ [(k,n)]):=by simp [fx]
theorem uG{hs:HL}{q:Nat}{k:ByteArray}{n:Nat}(hq:q<hs.length)(hk:hK hs q=k):(hs.set q (k,n)).map (·.1)=hs.map (·.1):=by
 rw [List.map_set];apply TW;intro i
 by_cases h:q=i
 ·subst h;rw [S7 (by simpa using hq),SU,SQ hq];unfold hK at hk;rw [SO,SQ hq]at hk;simp at hk;simp [hk]
 ·rw [SY h]
def RS.add(st:RS)(k:ByteArray):RS:= {st with ks:=(ft k st.cnt st.ks st.cs).1,cs:=(ft k st.cnt st.ks st.cs).2}
theorem iG:(Tryz.prog).underlying 51=some (.map 9 64):=by kernel_rfl
theorem iH:(Tryz.prog).underlying 9=some .string :=by kernel_rfl
theorem vm:∀ w,(zeroValue 64).run Tryz.prog w= .ok (.slice none 0 0) w:=λ_=>by kernel_rfl
theorem JO{M0:List Ob}{n:Nat}(hn:M0.length=n){st:RS}{H:RH}{lo b:Nat}(hR:fm st H lo M0 b)(c0:Int)(ws:List Wd)(hw:st.ws=⟨bj,c0⟩::ws)(hk:st.kind=⟨#[]⟩)(hW:g8 ⟨bj,c0⟩ ws)(hc:∀ q,(cR st.cs q).length <=1000000):
 ew Tryz.prog 16 [.ptr b 0] M0 (λr m'=>de bj ⟨bj,c0⟩ ws=(0,0)/\r= .tuple []/\ ∃ H',fm {(st.add bj)with nam:=(cm ws).txt,ws:= [],last:=cm ws,kind:=bj} H' lo m' b/\bP M0 m' (KR H b)) (λv m'=>∃ c e,e≠0/\de bj ⟨bj,c0⟩ ws=(c,e)/\v=gp st.cnt c e/\bP M0 m' (KR H b)):=by
 have hwl:=hW.len;have hb:=hR.box;rw [hw,hk]at hb;have hJ:=hR.J;have hB:=hR.B;have hS:=hR.S;have hM:=hR.M;have hF:=hR.fam;have hbn:=cL hb hn;have hJn:=cL hJ hn;have hBn:=cL hB hn;have hSn:=cL hS hn;have hMn:=cL hM hn;obtain⟨⟨x1,x2,x3,x4⟩,⟨x5,x6,x7⟩,x8,x9,x10⟩:=hR.ne;have hnf:=hR.tn;have hlt:=hF.lt hn;have hlo:=hR.lo;refine gr (fn:=Tryz.f16) 193 aj rfl aj bO ?_;intro eY a6 hA aU;have b1:al eY (.tmp 0)=_:=hA 0 _ rfl;have cC:a6.length=n:=by rw [aU];exact hn
 have b2:a6[b]? =_:=(congrArg (λq=>q[b]?) aU).trans hb;simp only [pS,Value.cells,Nat.reduceAdd,aW,aY,aQ,bG,bC,cn,cp]at b2;have eZ:a6[H.jJ]? =_:=(congrArg (λq=>q[H.jJ]?) aU).trans hJ;have e0:a6[H.jB]? =_:=(congrArg (λq=>q[H.jB]?) aU).trans hB;have e3:a6[H.jS]? =_:=(congrArg (λq=>q[H.jS]?) aU).trans hS;have e4:a6[H.jM]? =_:=(congrArg (λq=>q[H.jM]?) aU).trans hM;have e5:bP M0 a6 (KR H b):=by rw [aU];exact bP.refl _ _
 have b6:=hF;rw [<- aU]at b6;clear hA aU;refine ax<|at_<|ar (ak b1) rfl<|dn (lC (last:=st.last) cC b2 ah) (aG aa aN) kC trivial rfl (λgc gd e6=>?_) (λ_ _ h=>h.elim)
 obtain⟨rfl,a7,b7⟩:=e6;simp only [pS,Value.cells,Nat.reduceAdd,aW,aY,aQ,bG,bC,cn,cp]at b7;have cD:=a7.at_ eZ cq;have cF:=a7.at_ e0 cq;have cH:=a7.at_ e3 cq;have cK:=a7.at_ e4 cq;have cM:=e5.trans a7 kF;have cN:=b6.all a7 (λq_ h1_ h2_ h_=>b6.miss b2 rfl q_ h1_ h2_ h_);obtain⟨ad,b9,ge⟩:=a7.len_ cC;refine aM (cJ kH rfl b9) trivial rfl (λgf aP=>?_);have bc:=bS aP b9;simp only [pS,Value.cells,Nat.reduceAdd,aW,aY,aQ,bG,bC,cn,cp]at bc;have cO:=aI aP b7;have cP:=aI aP cD;have cQ:=aI aP cF;have cS:=aI aP cH;have cT:=aI aP cK;have cU:=RestR.aI aP cM;have cV:=bM.aI aP cN;have e7:=bR aP b9;clear aP b7 cD cF cH cK cM cN;refine aM (bV aa (ae aa) rfl rfl bc kJ rfl aA) trivial rfl (λbe aR=>?_);have aZ:=bo aR bc;simp only [pS,Value.cells,Nat.reduceAdd,aW,aY,aQ,bG,bC,cn,cp]at aZ;have aV:=au aR cO ah;have a9:=au aR cP ah;have ba:=au aR cQ ah;have bb:=au aR cS ah;have bE:=au aR cT ah;have bH:=RestR.au aR cU ey;have cb:=bM.au aR cV bc rfl;have a2:=bh aR e7;clear aR bc cO cP cQ cS cT cU cV;refine bD (aE (ae (ag b1))) (aE aa) ?_;clear b1;intro gg cW cc;refine ao<|ax<|at_<|ar (aJ iu rfl cc) rfl<|ar (az (aK vl rfl aZ aa aA) jw) rfl ?_
 refine ar (aB aa) rfl<|bB (ae (ag cW)) (ae (ag cc)) aa ?_;clear cW cc;intro gh cd cZ ce
 refine ao<|ax<|ca<|ax<|ax<|at_<|ar (ak cd) rfl<|ar (bU aa) rfl<|ar (aJ eS rfl aa) rfl<|ar (az (aK vl rfl aV aa aA) jw) rfl ?_
 refine ar (cX aa aw) rfl<|ar (ak aa) rfl<|bK aa (λbm c6=>?_) (λbm c6=>?_)
 ·skip;refine aF (ak (ag (ai ce))) ⟨_,rfl,bm⟩ rfl ?_;refine aF (dS aa aw) ⟨_,rfl,(ae bm)⟩ rfl ?_;refine ar (bq (ag bm) aa) rfl<|ar (aB aa) rfl<|bu (ag (ay cd)) (ag (ay cZ)) (ag (ay ce)) aa ?_;clear bm cd cZ ce;intro gi cf c7 c8 c9
  refine ao<|bk c9 (λbn=>?_) (λbn=>?_)
  ·(simp only [toList_data]at bn;exact absurd bn aD)
  replace bn:=di bn;refine at_<|ar (ak cf) rfl<|ar (bU aa) rfl<|ar (aJ eS rfl aa) rfl<|ar (az (aK vl rfl aV aa aA) jw) rfl ?_
  refine ar (dS aa aw) rfl<|ar (ak aa) rfl<|bK aa (λbp bI=>?_) (λbp bI=>?_)
  ·(simp at bI;done)
  replace bI:=di bI;refine aC ⟨_,rfl,.inl bp⟩ rfl ?_;refine aC ⟨_,rfl,.inl (ae bp)⟩ rfl ?_;refine ar (br (ag bp) aw) rfl<|ar (ak aa) rfl<|aC ⟨_,rfl,.inl aa⟩ rfl ?_
  refine aC ⟨_,rfl,.inl (ae aa)⟩ rfl ?_;refine ar (br (ag aa) aw) rfl<|ar (ak aa) rfl<|aC ⟨_,rfl,.inl aa⟩ rfl ?_
  refine aC ⟨_,rfl,.inl (ae aa)⟩ rfl ?_;refine ar (br (ag aa) aw) rfl<|ar (aB aa) rfl<|bu (ag (aH cf)) (ag (aH c7)) (ag (aH c8)) aa ?_;clear bp cf c9 c7 c8;intro gk cg da dc dd
  refine ao<|iS dd<|ax<|at_<|ar (ak cg) rfl<|ar (bU aa) rfl<|ar (aJ eS rfl aa) rfl<|ar (az (aK vl rfl aV aa aA) jw) rfl ?_
  refine ar (dS aa aw) rfl<|ar (ak aa) rfl<|bK aa (λa8 bN=>?_) (λa8 bN=>?_)
  ·(simp at bN;done)
  replace bN:=di bN;refine aC ⟨_,rfl,.inl a8⟩ rfl ?_;refine aC ⟨_,rfl,.inl (ae a8)⟩ rfl ?_;refine aC ⟨_,rfl,.inl (ag a8)⟩ rfl ?_;refine aC ⟨_,rfl,.inl (ae (ag a8))⟩ rfl ?_;refine ar (br (ai a8) aw) rfl<|ar (aB aa) rfl<|bu (ai (ay cg)) (ai (ay da)) (ai (ay dc)) aa ?_;clear a8 cg dd da dc;intro df af gl aX e8
  refine ao<|iS e8<|bF<|cG<|ao<|ax<|fZ (λe mem=>(al e (.tmp 0)=al df (.tmp 0))/\(al e (.tmp 3)=al df (.tmp 3))/\(mem[ad]? =be[ad]?)/\(mem[b]? =be[b]?)/\(mem[H.jJ]? =be[H.jJ]?)/\(mem[H.jB]? =be[H.jB]?)/\(mem[H.jS]? =be[H.jS]?)/\(∃ n,mem.length=n/\ad+1<=n)/\(∃ hs2:HL,mem[H.jM]? =some (.mp (fx hs2))/\bM mem hs2 (ft bj st.cnt st.ks st.cs).2 hs2.length/\hs2.map (·.1)=(ft bj st.cnt st.ks st.cs).1/\(∀ q,q<hs2.length->lo<=hN hs2 q)/\bP M0 mem (KR H b))) ?_ ?_
  ·
   have dg:=aZ;have dh:=aV;have dk:=a9;have dl:=ba;have dm:=bb;refine(Classical.em (∃ q0,q0<H.hs.length/\hK H.hs q0=bj)).elim (λci=>?_) (λci=>?_)
   ·obtain⟨q0,hq0,hqk⟩:=ci;have hql:=hlt q0 hq0 ah;obtain⟨y1,y2,y3,y4,y5⟩:=hnf q0 hq0;have hcq:=hc q0;obtain⟨dq,dr⟩:=cb.take hq0;refine iq 17 1 a2 aj aj aj aj (λe9 ab=>?_);have dt:=bJ ab aZ;have bv:=bJ ab aV;have du:=bJ ab a9;have dv:=bJ ab ba;have dw:=bJ ab bb;have ck:=bJ ab bE;have dy:=RestR.bJ ab bH;have dz:=bM.bJ ab dr;have dA:=bJ ab dq;have bQ:e9[ad+1]? =_:=jk ab a2 0 rfl rfl;have fa:_=ad+1+1:=ir (K:=1) ab a2;clear ab aZ aV a9 ba bb bE bH dr dq a2;refine bg (λM_ hM_=>(ak af)) trivial ?_;refine bg (λM_ hM_=>(bU aa)) trivial ?_;refine bg (λM_ hM_=>(aJ iv rfl aa)) trivial ?_;refine db (b) (λM_ hM_=>(az (aK uF rfl (cI hM_ bv aL) aa aA) jw)) trivial trivial ?_;refine bg (λM_ hM_=>(ak (ai aX))) trivial ?_;refine bg (λM_ hM_=>(ak (ae (ai af)))) trivial ?_;refine bg (λM_ hM_=>(bU aa)) trivial ?_;refine bg (λM_ hM_=>(aJ iv rfl aa)) trivial ?_;refine db (b) (λM_ hM_=>(az (aK uF rfl (cI hM_ bv aL) aa aA) jw)) trivial trivial ?_;refine bg (λM_ hM_=>(ak (ae (ay aX)))) trivial ?_;refine db (H.jM) (λM_ hM_=>(rR iG iH (cI hM_ ck aL) (ae aa) aa (show(fx H.hs)[q0]? =some (bj,.own (hN H.hs q0))by rw [lg hq0,hqk]) hF.nv)) trivial trivial ?_;refine bg (λM_ hM_=>(ak (ae (ag (ay af))))) trivial ?_;refine bg (λM_ hM_=>(bU aa)) trivial ?_;refine bg (λM_ hM_=>(aJ iU rfl aa)) trivial ?_;refine db (b) (λM_ hM_=>(az (aK yP rfl (cI hM_ bv aL) aa aA) jw)) trivial trivial ?_;refine bg (λM_ hM_=>(ep uE (bz aa bW) rfl rfl rfl rfl)) trivial ?_;refine pI (ad+1) ((hN H.hs q0)) (λM_ hM_=>(oc uE rfl (cI hM_ dA aL) (ae (ai aa)) aa dY dC)) trivial bQ rfl trivial ⟨.inl b8,⟨.inl b8,⟨.inl b8,⟨.inl b8,trivial⟩⟩⟩⟩ ⟨.inl b8,⟨.inl b8,⟨.inl b8,⟨.inl b8,trivial⟩⟩⟩⟩ (λgm am=>?_);have co:=pO am bQ;simp only [pS,Value.cells,Nat.reduceAdd,aW,aY,aQ,bG,bC,cn,cp]at co;have dB:=cY am dt ah ah;have dD:=cY am bv ah ah;have dE:=cY am du ah ah;have dF:=cY am dv ah ah;have dG:=cY am dw ah ah;have bT:=cY am ck ah ah;have dH:=RestR.cY am dy vF ey;have dI:=bM.vR ah am dz bQ rfl;have fb:=pD am fa;clear am dt bv du dv dw ck dy dz dA bQ;refine iD rfl ?_;refine aM (vc iG iH bT (ae (ai (ay aa))) (ai (ay aa)) aa (show(fx H.hs)[q0]? =some (bj,.own (hN H.hs q0))by rw [lg hq0,hqk]) hF.nv) trivial rfl (λgn an=>?_);have dJ:=bo an bT;simp only [pS,Value.cells,Nat.reduceAdd,aW,aY,aQ,bG,bC,cn,cp]at dJ;have fc:=au an co ah;have fd:=au an dB ah;have fe:=au an dD ah;have ff:=au an dE ah;have fg:=au an dF ah;have fh:=au an dG ah;have fi:=RestR.au an dH gP;have fj:=bM.au an dI bT rfl;have fk:=bh an fb;clear an co dB dD dE dF dG bT dH dI;refine bD (aE (ae (aH af))) (aE (ae (aH aX))) ?_;intro gt fl fo;refine ao ⟨(fl).trans (af).symm,(fo).trans (aX).symm,fd.trans dg.symm,fe.trans dh.symm,ff.trans dk.symm,fg.trans dl.symm,fh.trans dm.symm,⟨_,fk,ah⟩,?_⟩
    (have hadd:=rS (c:=st.cnt) H.hs st.cs q0 hF.len hq0 hqk (λp hp e=>absurd (hF.key p q0 ah hq0 (e.trans hqk.symm)) ah);rw [hR.keys]at hadd;rw [hadd];exact⟨_,dJ,fj.put hq0 hqk fc (λq hq=>nX),(uG hq0 hqk).trans hR.keys,(λq hq=>by rw [TE]at hq;rw [pF hq0];split<;>first|exact hlo.2.2.2.2.2 q hq|(show lo<=ad+1;omega)),fi⟩)
   ·have hqm:=vT ci;refine iq 17 1 a2 aj aj aj aj (λfp ap=>?_);have dL:=bJ ap aZ;have bw:=bJ ap aV;have dM:=bJ ap a9;have dN:=bJ ap ba;have dO:=bJ ap bb;have cr:=bJ ap bE;have dP:=RestR.bJ ap bH;have dQ:=bM.bJ ap cb;have bX:fp[ad+1]? =_:=jk ap a2 0 rfl rfl;have fq:_=ad+1+1:=ir (K:=1) ap a2;clear ap aZ aV a9 ba bb bE bH cb a2;refine bg (λM_ hM_=>(ak af)) trivial ?_;refine bg (λM_ hM_=>(bU aa)) trivial ?_;refine bg (λM_ hM_=>(aJ iv rfl aa)) trivial ?_;refine db (b) (λM_ hM_=>(az (aK uF rfl (cI hM_ bw aL) aa aA) jw)) trivial trivial ?_;refine bg (λM_ hM_=>(ak (ai aX))) trivial ?_;refine bg (λM_ hM_=>(ak (ae (ai af)))) trivial ?_;refine bg (λM_ hM_=>(bU aa)) trivial ?_;refine bg (λM_ hM_=>(aJ iv rfl aa)) trivial ?_;refine db (b) (λM_ hM_=>(az (aK uF rfl (cI hM_ bw aL) aa aA) jw)) trivial trivial ?_;refine bg (λM_ hM_=>(ak (ae (ay aX)))) trivial ?_;refine db (H.jM) (λM_ hM_=>(uq iG iH vm (cI hM_ cr aL) (ae aa) aa (nJ hqm))) trivial trivial ?_;refine bg (λM_ hM_=>(ak (ae (ag (ay af))))) trivial ?_;refine bg (λM_ hM_=>(bU aa)) trivial ?_;refine bg (λM_ hM_=>(aJ iU rfl aa)) trivial ?_;refine db (b) (λM_ hM_=>(az (aK yP rfl (cI hM_ bw aL) aa aA) jw)) trivial trivial ?_;refine bg (λM_ hM_=>(ep uE (bz aa bW) rfl rfl rfl rfl)) trivial ?_;refine ot (ad+1) (λM_ hM_=>(u3 uE rfl (ae (ai aa)) aa dY dC)) trivial bX rfl trivial ⟨.inl b8,⟨.inl b8,⟨.inl b8,⟨.inl b8,trivial⟩⟩⟩⟩ (λgu av=>?_);have cu:=bo av bX;simp only [pS,Value.cells,Nat.reduceAdd,aW,aY,aQ,bG,bC,cn,cp]at cu;have dR:=au av dL ah;have dT:=au av bw ah;have dU:=au av dM ah;have dV:=au av dN ah;have dW:=au av dO ah;have bY:=au av cr ah;have dX:=RestR.au av dP ey;have dZ:=bM.au av dQ bX rfl;have fs:=bh av fq;clear av dL bw dM dN dO cr dP dQ bX;refine iD rfl ?_;refine aM (vd iG iH bY (ae (ai (ay aa))) (ai (ay aa)) aa (nJ hqm)) trivial rfl (λgv aO=>?_);have ea:=bo aO bY;simp only [pS,Value.cells,Nat.reduceAdd,aW,aY,aQ,bG,bC,cn,cp]at ea;have fu:=au aO cu ah;have fw:=au aO dR ah;have fy:=au aO dT ah;have fz:=au aO dU ah;have fA:=au aO dV ah;have fB:=au aO dW ah;have fC:=RestR.au aO dX gP;have fD:=bM.au aO dZ bY rfl;have fE:=bh aO fs;clear aO cu dR dT dU dV dW bY dX dZ;refine bD (aE (ae (aH af))) (aE (ae (aH aX))) ?_;intro gw fF fG;refine ao ⟨(fF).trans (af).symm,(fG).trans (aX).symm,fw.trans dg.symm,fy.trans dh.symm,fz.trans dk.symm,fA.trans dl.symm,fB.trans dm.symm,⟨_,fE,ah⟩,?_⟩
    (have hadd:=rL (k:=bj) (c:=st.cnt) H.hs st.cs hF.len hqm;rw [hR.keys]at hadd;rw [hadd];exact⟨_,ea,fD.more hqm fu (λq hq=>nX),vG,(λq hq=>by rw [pG];split<;>first|exact hlo.2.2.2.2.2 q (by assumption)|(rw [if_pos (by simp at hq;omega)];show lo<=ad+1;omega)),fC⟩)
  ·rintro gx gy ⟨fH,fI,fJ,fK,fL,fM,fN,⟨gz,eb,gA⟩,⟨hs2,moM2,hF2,hks2,hlo2,hR2⟩⟩;have ec:=fH.trans af;have cv:=fI.trans aX;have fO:=fJ.trans aZ;have ed:=fK.trans aV;have fP:=fL.trans a9;have fQ:=fM.trans ba;have fT:=fN.trans bb;refine ax<|ax<|at_<|ar (ak cv) rfl<|bB (ae ec) (ae cv) aa ?_;clear ec cv;intro gB ee ef cw
   refine ao<|ca<|ax<|at_<|ar (cX cw aw) rfl<|ar (aB aa) rfl<|bu (ag ee) (ag ef) (ag cw) aa ?_;clear ee ef cw;intro gC bZ eg fU eh
   refine ao<|bk eh (λcy=>?_) (λcy=>?_)
   ·skip;refine at_<|ar (ak bZ) rfl<|ar (ak (ae bZ)) rfl<|dn (Bz (last:=⟨bj,c0⟩) (ws:=ws) eb ed hW) (aG aa aN) FQ trivial rfl (λgD gE cz=>?_) (λgF gG cz=>?_)
    rotate_left
    ·
     repeat (first|refine eG ?_|refine gJ ?_)
     (rcases cz with⟨ha_,rfl,hz_⟩;exact⟨_,rfl,_,_,ha_,kB (by rw [qi];exact xB ha_) ha_,rfl,hR2.trans hz_ jZ⟩)
    obtain⟨hnm,rfl,a3,bx⟩:=cz;have en:=a3.at_ fO cq;simp only [pS,Value.cells,Nat.reduceAdd,aW,aY,aQ,bG,bC,cn,cp]at bx;have er:=a3.at_ fP cq;have eu:=a3.at_ fQ cq;have ev:=a3.at_ fT cq;have ez:=a3.at_ moM2 cq;have eA:=hF2.all a3 (λq_ h1_ h2_ h_=>hF2.miss ed rfl q_ h1_ h2_ h_);have eB:=hR2.trans a3 kF;obtain⟨gH,fV,gI⟩:=a3.len_ eb;refine ar (bU (ag aa)) rfl<|ar (aJ ky rfl aa) rfl<|ar (aJ qy rfl aa) rfl<|aM (bV aa (ae (ag aa)) rfl rfl bx ou rfl aA) trivial rfl (λgL aS=>?_)
    have a5:=bo aS bx;simp only [pS,Value.cells,Nat.reduceAdd,aW,aY,aQ,bG,bC,cn,cp]at a5;have eC:=au aS en ah;have eD:=au aS er ah;have eE:=au aS eu ah;have eH:=au aS ev ah;have eI:=au aS ez ah;have eK:=bM.au aS eA bx rfl;have cA:=RestR.au aS eB gP;have eL:=bh aS fV;clear aS en bx er eu ev ez eA eB;refine bD (aE (ag (ai bZ))) (aE (ag (ai eg))) ?_;clear bZ eh eg fU;intro gM cB eP;refine cG<|ao<|ax<|ax<|at_<|ar (ak cB) rfl<|ar (bU aa) rfl<|ar (aJ jq rfl aa) rfl<|ar (az (aK C6 rfl a5 aa aA) jw) rfl ?_
    refine ar (az (cx aa rfl C5.1) ct) rfl ?_;refine ar (eF aa aw) rfl<|bB (ag (ai cB)) (ag (ai eP)) aa ?_;clear cB eP;intro gN b0 eT eU
    refine ao<|bk eU (λbA=>?_) (λbA=>?_)
    ·replace bA:=bt bA;refine at_<|ar (ak b0) rfl<|ar (ak (ae b0)) rfl<|ar (bU aa) rfl<|ar (aJ jq rfl aa) rfl<|ar (az (aK C6 rfl a5 aa aA) jw) rfl ?_
     refine ar (az (cE C5 aa aw aD (by refine dK ?_;(simp only [dj];omega))) jw) rfl ?_;refine ar (az (cj jV rfl aa) jw) rfl ?_;refine ar (az (bL yP rfl aa aA) jw) rfl ?_;refine dn (ix (last:=cm ws) (ws:=ws.tail) eL a5 _ _) (aG (ae (ag (ai aa))) (aG aa (aG aw aN))) iy trivial rfl (λ_ _ h=>h.elim) (λgO gQ eW=>?_)
     repeat (refine eG ?_)
     exact⟨_,rfl,_,_,aD,xX (r:=ws.tail) (by rw [qi,qp hnm];rfl) Pv (by rw [qi];exact UO) lE,eW.1,cA.trans eW.2 jZ⟩
    replace bA:=bf bA;refine bF<|ao<|at_<|ar (ak b0) rfl<|ar (ak (ae eT)) rfl<|ar (bU (ae aa)) rfl<|ar (aJ eS rfl aa) rfl<|aM (bV aa (ag aa) rfl rfl a5 ou rfl aA) trivial rfl (λgR aT=>?_)
    have eX:=bo aT a5;simp only [pS,Value.cells,Nat.reduceAdd,aW,aY,aQ,bG,bC,cn,cp]at eX;have gS:=au aT eC ah;have fW:=au aT eD ah;have fX:=au aT eE ah;have fY:=au aT eH ah;have f0:=au aT eI ah;have ga:=bM.au aT eK a5 rfl;have gb:=RestR.au aT cA gP;have gT:=bh aT eL;clear aT a5 eC eD eE eH eI eK cA;refine pX ?_;clear b0 eU eT;intro gU;refine⟨_,pK aj,?_⟩
    (have ht:ws.tail= []:=Uw.1 lE;have mb_:=eX;rw [ht]at mb_;refine⟨yL (r:=ws.tail) (by rw [qi,qp hnm];rfl) (by rw [qi];exact UO) (by rw [ht];rfl),rfl,⟨H.jM,H.jJ,H.jB,H.jS,hs2⟩,⟨mb_,fW,fX,fY,f0,ga,hks2,⟨hlo.1,hlo.2.1,by show lo<=H.jJ;omega,by show lo<=H.jB;omega,by show lo<=H.jS;omega,hlo2⟩⟩,gb⟩)
   ·(simp only [toList_data]at cy;exact absurd cy aD)
 ·(simp at c6;done)
theorem C7:b9 Tryz.prog 24 76 2 16 (.agg #[.int .i64 0,.int .i64 0]):=⟨aj,aj,aj⟩
theorem C9:b9 Tryz.prog 52 54 2 24 (.agg #[.string ByteArray.empty,.int .i64 0]):=⟨aj,aj,aj⟩
theorem uH:b9 Tryz.prog 64 3 1 8 (.int .i64 0):=⟨aj,aj,aj⟩
theorem MM:aV Tryz.prog 24 false 1:=⟨aj,aj⟩
theorem yQ:aV Tryz.prog 3 false 1:=⟨aj,aj⟩
theorem uI:aV Tryz.prog 51 false 1:=⟨aj,aj⟩
theorem Da:aV Tryz.prog 52 false 1:=⟨aj,aj⟩
theorem vn:aV Tryz.prog 9 false 1:=⟨aj,aj⟩
theorem j9(a b:Int): [[AV.v (.int .i64 a),AV.v (.int .i64 b)]]= [(⟨a,b⟩:g9)].map dx:=rfl
theorem eV(a b c d:Int): [[AV.v (.int .i64 a),AV.v (.int .i64 b),AV.v (.int .i64 c),AV.v (.int .i64 d)]]= [(⟨a,b,c,d⟩:gB)].map dp:=rfl
theorem xE{mem:List Ob}{n:Nat}(hn:mem.length=n){b:Nat}{nam:ByteArray}{J B S M:AV}{cnt:Int}{ws:List Wd}{last:Wd}{kind:ByteArray}(hb:mem[b]? =some (.box aY (aW nam J B S M cnt ws last kind)))(k:ByteArray)(h:cv kind k=true):ew Tryz.prog 39 [.ptr b 0,.v (.string k)] mem (λr m'=>r=eI true/\bP mem m' (λ_=>False)) (λ_ _=>False):=by
 have:=CU hn hb k;rw [h]at this;exact this
theorem JP{M0:List Ob}{n:Nat}(hn:M0.length=n){st:RS}{H:RH}{lo b:Nat}(hR:fm st H lo M0 b)(c0:Int){es er:Value}(hes:fz es)(her:fz er)(h0:M0[0]? =some (.bY (gX es er)))(hbl:st.bs.length<=1000000)(ws:List Wd)(hw:st.ws=⟨aU,c0⟩::ws)(hk:(st.kind.toList==(⟨#[]⟩:ByteArray).toList)=false)(ho:cv st.kind aU=true)(hW:g8 ⟨aU,c0⟩ ws)(hc:∀ q,(cR st.cs q).length <=1000000):
 ew Tryz.prog 16 [.ptr b 0] M0 (λr m'=>de aU ⟨aU,c0⟩ ws=(0,0)/\r= .tuple []/\ ∃ H',fm {(st.add aU)with bs:=st.bs++ [⟨cV (cm ws),cV (cm ws.tail)⟩],ws:= [],last:=cm ws.tail,kind:=aU} H' lo m' b/\bP M0 m' (KR H b)) (λv m'=>∃ c e,e≠0/\de aU ⟨aU,c0⟩ ws=(c,e)/\v=gp st.cnt c e/\bP M0 m' (KR H b)):=by
 have hwl:=hW.len;have hb:=hR.box;rw [hw]at hb;have hJ:=hR.J;have hB:=hR.B;have hS:=hR.S;have hM:=hR.M;have hF:=hR.fam;have hbn:=cL hb hn;have hJn:=cL hJ hn;have hBn:=cL hB hn;have hSn:=cL hS hn;have hMn:=cL hM hn;obtain⟨⟨x1,x2,x3,x4⟩,⟨x5,x6,x7⟩,x8,x9,x10⟩:=hR.ne;have hnf:=hR.tn;have hlt:=hF.lt hn;have hlo:=hR.lo;obtain⟨z1,z2,z3,z4,z5,z6⟩:=hR.nz h0;refine gr (fn:=Tryz.f16) 193 aj rfl aj bO ?_;intro gt a6 hA aV;have cr:al gt (.tmp 0)=_:=hA 0 _ rfl;have dq:a6.length=n:=by rw [aV];exact hn
 have cu:a6[b]? =_:=(congrArg (λq=>q[b]?) aV).trans hb;simp only [pS,Value.cells,Nat.reduceAdd,aW,aY,aQ,bG,bC,cn,cp,j9]at cu;have gu:a6[H.jJ]? =_:=(congrArg (λq=>q[H.jJ]?) aV).trans hJ;have gv:a6[H.jB]? =_:=(congrArg (λq=>q[H.jB]?) aV).trans hB;have gw:a6[H.jS]? =_:=(congrArg (λq=>q[H.jS]?) aV).trans hS;have gx:a6[H.jM]? =_:=(congrArg (λq=>q[H.jM]?) aV).trans hM;have gy:a6[0]? =_:=(congrArg (λq=>q[0]?) aV).trans h0;have gz:bP M0 a6 (KR H b):=by rw [aV];exact bP.refl _ _
 have cw:=hF;rw [<- aV]at cw;clear hA aV;refine ax<|at_<|ar (ak cr) rfl<|dn (lC (last:=st.last) dq cu ah) (aG aa aN) kC trivial rfl (λiF iI gA=>?_) (λ_ _ h=>h.elim)
 obtain⟨rfl,a7,cy⟩:=gA;simp only [pS,Value.cells,Nat.reduceAdd,aW,aY,aQ,bG,bC,cn,cp,j9]at cy;have dr:=a7.at_ gu cq;have dt:=a7.at_ gv cq;have du:=a7.at_ gw cq;have dv:=a7.at_ gx cq;have dw:=a7.at_ gy cq;have dy:=gz.trans a7 kF;have dz:=cw.all a7 (λq_ h1_ h2_ h_=>cw.miss cu rfl q_ h1_ h2_ h_);obtain⟨dA,cz,iJ⟩:=a7.len_ dq;refine aM (cJ kH rfl cz) trivial rfl (λiK av=>?_);have bv:=bS av cz;simp only [pS,Value.cells,Nat.reduceAdd,aW,aY,aQ,bG,bC,cn,cp,j9]at bv;have dB:=aI av cy;have dD:=aI av dr;have dE:=aI av dt;have dF:=aI av du;have dG:=aI av dv;have dH:=aI av dw;have dI:=RestR.aI av dy;have dJ:=bM.aI av dz;have gB:=bR av cz;clear av cy dr dt du dv dw dy dz;refine aM (bV aa (ae aa) rfl rfl bv kJ rfl aA) trivial rfl (λiL aO=>?_);have cA:=bo aO bv;simp only [pS,Value.cells,Nat.reduceAdd,aW,aY,aQ,bG,bC,cn,cp,j9]at cA;have bw:=au aO dB ah;have gC:=au aO dD ah;have gD:=au aO dE ah;have gE:=au aO dF ah;have gF:=au aO dG ah;have gG:=au aO dH ah;have gH:=RestR.au aO dI ey;have gI:=bM.au aO dJ bv rfl;have dL:=bh aO gB;clear aO bv dB dD dE dF dG dH dI dJ;refine bD (aE (ae (ag cr))) (aE aa) ?_;clear cr;intro iM dM cB;refine ao<|ax<|at_<|ar (aJ iu rfl cB) rfl<|ar (az (aK vn rfl cA aa aA) iW) rfl ?_
 refine ar (aB aa) rfl<|bB (ae (ag dM)) (ae (ag cB)) aa ?_;clear dM cB;intro iN cD dN dO
 refine ao<|ax<|ca<|ax<|ax<|at_<|ar (ak cD) rfl<|ar (bU aa) rfl<|ar (aJ eS rfl aa) rfl<|ar (az (aK vn rfl bw aa aA) iW) rfl ?_
 refine ar (cX aa aw) rfl<|ar (ak aa) rfl<|bK aa (λbx cF=>?_) (λbx cF=>?_)
 ·(rw [hk]at cF;simp at cF;done)
 refine aC ⟨_,rfl,.inl bx⟩ rfl ?_;refine aC ⟨_,rfl,.inl (ae bx)⟩ rfl ?_;refine ar (br (ag bx) aw) rfl<|ar (aB aa) rfl<|bu (ag (ay cD)) (ag (ay dN)) (ag (ay dO)) aa ?_;clear bx cD dN dO;intro iO cH dP b1 dQ
 refine ao<|iS dQ<|at_<|ar (ak cH) rfl<|ar (bU aa) rfl<|ar (aJ eS rfl aa) rfl<|ar (az (aK vn rfl bw aa aA) iW) rfl ?_
 refine ar (dS aa aw) rfl<|ar (ak aa) rfl<|bK aa (λbA bE=>?_) (λbA bE=>?_)
 ·replace bE:=cT bE;refine aF (ak (ag (ai b1))) ⟨_,rfl,bA⟩ rfl ?_;refine aF (dS aa aw) ⟨_,rfl,(ae bA)⟩ rfl ?_;refine ar (bq (ag bA) aa) rfl<|ar (ak aa) rfl<|bK aa (λbH bI=>?_) (λbH bI=>?_)
  ·replace bI:=cT bI;refine aF (ak (ag (ay b1))) ⟨_,rfl,bH⟩ rfl ?_;refine aF (dS aa aw) ⟨_,rfl,(ae bH)⟩ rfl ?_;refine ar (bq (ag bH) aa) rfl<|ar (ak aa) rfl<|bK aa (λbN bQ=>?_) (λbN bQ=>?_)
   ·(simp only [toList_data]at bQ;exact absurd bQ aD)
   replace bQ:=di bQ;refine aC ⟨_,rfl,.inl bN⟩ rfl ?_;refine aC ⟨_,rfl,.inl (ae bN)⟩ rfl ?_;refine ar (br (ag bN) aw) rfl<|ar (aB aa) rfl<|bu (ag (aH cH)) (ag (aH dP)) (ag (aH b1)) aa ?_;clear bA bH bN cH dQ dP b1;intro iP b2 dR cK dU
   refine ao<|iS dU<|ax<|at_<|ar (ak b2) rfl<|ar (bU aa) rfl<|ar (aJ eS rfl aa) rfl<|ar (az (aK vn rfl bw aa aA) iW) rfl ?_
   refine ar (dS aa aw) rfl<|ar (ak aa) rfl<|bK aa (λba bT=>?_) (λba bT=>?_)
   ·replace bT:=cT bT;refine aF (ak (ag (ai b2))) ⟨_,rfl,ba⟩ rfl ?_;refine aF (ak (ae (ag (ai cK)))) ⟨_,rfl,(ae ba)⟩ rfl ?_;refine dn (xE (last:=⟨aU,c0⟩) dL bw aU ho) (aG (ae aa) (aG aa aN)) qK ⟨_,rfl,(ag ba)⟩ rfl (λiQ bb gL=>?_) (λ_ _ h=>h.elim);obtain⟨rfl,aX⟩:=gL;have bc:=aX.at_ cA dZ;have be:=aX.at_ bw dZ;have bj:=aX.at_ gC dZ;have bm:=aX.at_ gD dZ;have bn:=aX.at_ gE dZ;have b6:=aX.at_ gF dZ;have bp:=aX.at_ gG dZ;have b7:=gH.trans aX zl;have cM:=gI.all aX (λq_ h1_ h2_ h_=>h_.elim);obtain⟨aZ,a8,iV⟩:=aX.len_ dL;refine aF (dT aa) ⟨_,rfl,(ae (ag ba))⟩ rfl ?_;refine ar (bq (ai ba) aa) rfl<|ar (aB aa) rfl<|bu (ai (ay b2)) (ai (ay dR)) (ai (ay cK)) aa ?_;clear ba b2 dU dR cK;intro dV aP iX a2 gM
    refine ao<|bk gM (λb9=>?_) (λb9=>?_)
    ·cases b9
    replace b9:=di b9;refine bF<|cG<|ao<|ax<|fZ (λe mem=>(al e (.tmp 0)=al dV (.tmp 0))/\(al e (.tmp 3)=al dV (.tmp 3))/\(mem[dA]? =bb[dA]?)/\(mem[b]? =bb[b]?)/\(mem[H.jJ]? =bb[H.jJ]?)/\(mem[H.jB]? =bb[H.jB]?)/\(mem[H.jS]? =bb[H.jS]?)/\(mem[0]? =bb[0]?)/\(∃ n,mem.length=n/\aZ<=n)/\(∃ hs2:HL,mem[H.jM]? =some (.mp (fx hs2))/\bM mem hs2 (ft aU st.cnt st.ks st.cs).2 hs2.length/\hs2.map (·.1)=(ft aU st.cnt st.ks st.cs).1/\(∀ q,q<hs2.length->lo<=hN hs2 q)/\bP M0 mem (KR H b))) ?_ ?_
    ·
     have dW:=bc;have dX:=be;have ea:=bj;have eb:=bm;have ec:=bn;have ed:=bp;refine(Classical.em (∃ q0,q0<H.hs.length/\hK H.hs q0=aU)).elim (λcN=>?_) (λcN=>?_)
     ·obtain⟨q0,hq0,hqk⟩:=cN;have hql:=hlt q0 hq0 ah;obtain⟨y1,y2,y3,y4,y5⟩:=hnf q0 hq0;have hcq:=hc q0;have y6:=z6 q0 hq0;obtain⟨ee,ef⟩:=cM.take hq0;refine iq 17 1 a8 aj aj aj aj (λgN ab=>?_);have eg:=bJ ab bc;have bX:=bJ ab be;have eh:=bJ ab bj;have en:=bJ ab bm;have eu:=bJ ab bn;have cO:=bJ ab b6;have ev:=bJ ab bp;have ez:=RestR.bJ ab b7;have eA:=bM.bJ ab ef;have eB:=bJ ab ee;have cb:gN[aZ]? =_:=jk ab a8 0 rfl rfl;have gO:_=aZ+1:=ir (K:=1) ab a8;clear ab bc be bj bm bn b6 bp b7 ef ee a8;refine bg (λM_ hM_=>(ak aP)) trivial ?_;refine bg (λM_ hM_=>(bU aa)) trivial ?_;refine bg (λM_ hM_=>(aJ iv rfl aa)) trivial ?_;refine db (b) (λM_ hM_=>(az (aK uI rfl (cI hM_ bX aL) aa aA) iW)) trivial trivial ?_;refine bg (λM_ hM_=>(ak (ai a2))) trivial ?_;refine bg (λM_ hM_=>(ak (ae (ai aP)))) trivial ?_;refine bg (λM_ hM_=>(bU aa)) trivial ?_;refine bg (λM_ hM_=>(aJ iv rfl aa)) trivial ?_;refine db (b) (λM_ hM_=>(az (aK uI rfl (cI hM_ bX aL) aa aA) iW)) trivial trivial ?_;refine bg (λM_ hM_=>(ak (ae (ay a2)))) trivial ?_;refine db (H.jM) (λM_ hM_=>(rR iG iH (cI hM_ cO aL) (ae aa) aa (show(fx H.hs)[q0]? =some (aU,.own (hN H.hs q0))by rw [lg hq0,hqk]) hF.nv)) trivial trivial ?_;refine bg (λM_ hM_=>(ak (ae (ag (ay aP))))) trivial ?_;refine bg (λM_ hM_=>(bU aa)) trivial ?_;refine bg (λM_ hM_=>(aJ iU rfl aa)) trivial ?_;refine db (b) (λM_ hM_=>(az (aK yQ rfl (cI hM_ bX aL) aa aA) iW)) trivial trivial ?_;refine bg (λM_ hM_=>(ep uH (bz aa bW) rfl rfl rfl rfl)) trivial ?_;refine pI (aZ) ((hN H.hs q0)) (λM_ hM_=>(oc uH rfl (cI hM_ eB aL) (ae (ai aa)) aa dY dC)) trivial cb rfl trivial ⟨.inl b8,⟨.inl b8,⟨.inl b8,⟨.inl b8,trivial⟩⟩⟩⟩ ⟨.inl b8,⟨.inl b8,⟨.inl b8,⟨.inl b8,trivial⟩⟩⟩⟩ (λiZ ad=>?_);have cP:=pO ad cb;simp only [pS,Value.cells,Nat.reduceAdd,aW,aY,aQ,bG,bC,cn,cp,j9]at cP;have eC:=cY ad eg ah ah;have eD:=cY ad bX ah ah;have eE:=cY ad eh ah ah;have eH:=cY ad en ah ah;have eI:=cY ad eu ah ah;have cc:=cY ad cO ah ah;have eL:=cY ad ev ah ah;have eP:=RestR.cY ad ez vF ey;have eT:=bM.vR ah ad eA cb rfl;have gQ:=pD ad gO;clear ad eg bX eh en eu cO ev ez eA eB cb;refine iD rfl ?_;refine aM (vc iG iH cc (ae (ai (ay aa))) (ai (ay aa)) aa (show(fx H.hs)[q0]? =some (aU,.own (hN H.hs q0))by rw [lg hq0,hqk]) hF.nv) trivial rfl (λi6 af=>?_);have eU:=bo af cc;simp only [pS,Value.cells,Nat.reduceAdd,aW,aY,aQ,bG,bC,cn,cp,j9]at eU;have gR:=au af cP ah;have gS:=au af eC ah;have gT:=au af eD ah;have gU:=au af eE ah;have gV:=au af eH ah;have gW:=au af eI ah;have gY:=au af eL ah;have gZ:=RestR.au af eP gP;have g0:=bM.au af eT cc rfl;have g1:=bh af gQ;clear af cP eC eD eE eH eI cc eL eP eT;refine bD (aE (ae (aH aP))) (aE (ae (aH a2))) ?_;intro i7 g2 g3;refine ao ⟨(g2).trans (aP).symm,(g3).trans (a2).symm,gS.trans dW.symm,gT.trans dX.symm,gU.trans ea.symm,gV.trans eb.symm,gW.trans ec.symm,gY.trans ed.symm,⟨_,g1,ah⟩,?_⟩
      (have hadd:=rS (c:=st.cnt) H.hs st.cs q0 hF.len hq0 hqk (λp hp e=>absurd (hF.key p q0 ah hq0 (e.trans hqk.symm)) ah);rw [hR.keys]at hadd;rw [hadd];exact⟨_,eU,g0.put hq0 hqk gR (λq hq=>nX),(uG hq0 hqk).trans hR.keys,(λq hq=>by rw [TE]at hq;rw [pF hq0];split<;>first|exact hlo.2.2.2.2.2 q hq|(show lo<=aZ;omega)),gZ⟩)
     ·have hqm:=vT cN;refine iq 17 1 a8 aj aj aj aj (λg4 am=>?_);have eW:=bJ am bc;have bZ:=bJ am be;have eX:=bJ am bj;have eY:=bJ am bm;have eZ:=bJ am bn;have cQ:=bJ am b6;have e0:=bJ am bp;have e3:=RestR.bJ am b7;have e4:=bM.bJ am cM;have cd:g4[aZ]? =_:=jk am a8 0 rfl rfl;have g5:_=aZ+1:=ir (K:=1) am a8;clear am bc be bj bm bn b6 bp b7 cM a8;refine bg (λM_ hM_=>(ak aP)) trivial ?_;refine bg (λM_ hM_=>(bU aa)) trivial ?_;refine bg (λM_ hM_=>(aJ iv rfl aa)) trivial ?_;refine db (b) (λM_ hM_=>(az (aK uI rfl (cI hM_ bZ aL) aa aA) iW)) trivial trivial ?_;refine bg (λM_ hM_=>(ak (ai a2))) trivial ?_;refine bg (λM_ hM_=>(ak (ae (ai aP)))) trivial ?_;refine bg (λM_ hM_=>(bU aa)) trivial ?_;refine bg (λM_ hM_=>(aJ iv rfl aa)) trivial ?_;refine db (b) (λM_ hM_=>(az (aK uI rfl (cI hM_ bZ aL) aa aA) iW)) trivial trivial ?_;refine bg (λM_ hM_=>(ak (ae (ay a2)))) trivial ?_;refine db (H.jM) (λM_ hM_=>(uq iG iH vm (cI hM_ cQ aL) (ae aa) aa (nJ hqm))) trivial trivial ?_;refine bg (λM_ hM_=>(ak (ae (ag (ay aP))))) trivial ?_;refine bg (λM_ hM_=>(bU aa)) trivial ?_;refine bg (λM_ hM_=>(aJ iU rfl aa)) trivial ?_;refine db (b) (λM_ hM_=>(az (aK yQ rfl (cI hM_ bZ aL) aa aA) iW)) trivial trivial ?_;refine bg (λM_ hM_=>(ep uH (bz aa bW) rfl rfl rfl rfl)) trivial ?_;refine ot (aZ) (λM_ hM_=>(u3 uH rfl (ae (ai aa)) aa dY dC)) trivial cd rfl trivial ⟨.inl b8,⟨.inl b8,⟨.inl b8,⟨.inl b8,trivial⟩⟩⟩⟩ (λi8 an=>?_);have cS:=bo an cd;simp only [pS,Value.cells,Nat.reduceAdd,aW,aY,aQ,bG,bC,cn,cp,j9]at cS;have e5:=au an eW ah;have e6:=au an bZ ah;have e7:=au an eX ah;have e8:=au an eY ah;have e9:=au an eZ ah;have ce:=au an cQ ah;have fa:=au an e0 ah;have fb:=RestR.au an e3 ey;have fc:=bM.au an e4 cd rfl;have g6:=bh an g5;clear an eW bZ eX eY eZ cQ e0 e3 e4 cd;refine iD rfl ?_;refine aM (vd iG iH ce (ae (ai (ay aa))) (ai (ay aa)) aa (nJ hqm)) trivial rfl (λja ap=>?_);have fd:=bo ap ce;simp only [pS,Value.cells,Nat.reduceAdd,aW,aY,aQ,bG,bC,cn,cp,j9]at fd;have g7:=au ap cS ah;have g9:=au ap e5 ah;have hh:=au ap e6 ah;have hv:=au ap e7 ah;have hC:=au ap e8 ah;have hD:=au ap e9 ah;have hE:=au ap fa ah;have hG:=RestR.au ap fb gP;have hH:=bM.au ap fc ce rfl;have hI:=bh ap g6;clear ap cS e5 e6 e7 e8 e9 ce fa fb fc;refine bD (aE (ae (aH aP))) (aE (ae (aH a2))) ?_;intro jb hO hP;refine ao ⟨(hO).trans (aP).symm,(hP).trans (a2).symm,g9.trans dW.symm,hh.trans dX.symm,hv.trans ea.symm,hC.trans eb.symm,hD.trans ec.symm,hE.trans ed.symm,⟨_,hI,ah⟩,?_⟩
      (have hadd:=rL (k:=aU) (c:=st.cnt) H.hs st.cs hF.len hqm;rw [hR.keys]at hadd;rw [hadd];exact⟨_,fd,hH.more hqm g7 (λq hq=>nX),vG,(λq hq=>by rw [pG];split<;>first|exact hlo.2.2.2.2.2 q (by assumption)|(rw [if_pos (by simp at hq;omega)];show lo<=aZ;omega)),hG⟩)
    ·rintro jc jd ⟨hQ,hU,hV,hY,hZ,h6,h7,h8,⟨je,fe,jf⟩,⟨hs2,moM2,hF2,hks2,hlo2,hR2⟩⟩;have ff:=hQ.trans aP;have cW:=hU.trans a2;have h9:=hV.trans bc;have fg:=hY.trans be;have ia:=hZ.trans bj;have ic:=h6.trans bm;have ie:=h7.trans bn;have fh:=h8.trans bp;refine ax<|ax<|at_<|ar (ak cW) rfl<|bB (ae ff) (ae cW) aa ?_;clear ff cW;intro jg fi fj cZ
     refine ao<|ca<|ax<|at_<|ar (cX cZ aw) rfl<|ar (aB aa) rfl<|bu (ag fi) (ag fj) (ag cZ) aa ?_;clear fi fj cZ;intro jh fk fl c6 fo
     refine ao<|bk fo (λc7=>?_) (λc7=>?_)
     ·(simp only [toList_data]at c7;exact absurd c7 aD)
     refine ax<|at_<|ar (cX c6 aw) rfl<|ar (aB aa) rfl<|bu (ag fk) (ag fl) (ag c6) aa ?_;clear fk fo fl c6;intro ji fp fq fs fu
     refine ao<|bk fu (λc8=>?_) (λc8=>?_)
     ·(simp only [toList_data]at c8;exact absurd c8 aD)
     refine ax<|at_<|ar (cX fs aw) rfl<|ar (aB aa) rfl<|bB (ag fp) (ag fq) aa ?_;clear fp fu fq fs;intro jj c9 fw fy
     refine ao<|bk fy (λda=>?_) (λda=>?_)
     ·skip;refine ax<|at_<|ar (ak c9) rfl<|dn (mI (last:=⟨aU,c0⟩) (ws:=ws) fe hes her fh fg hW false) (aG aa (aG aw aN)) mT trivial rfl (λjl jm dc=>?_) (λjn jo dc=>?_)
      rotate_left
      ·
       repeat (first|refine eG ?_|refine gJ ?_)
       (rcases dc with⟨ha_,rfl,hz_⟩;exact⟨_,rfl,_,_,ha_,kB (by rw [oS];exact CV ha_) ha_,rfl,hR2.trans hz_ jZ⟩)
      obtain⟨hn1,rfl,a3,dd⟩:=dc;have ig:=a3.at_ h9 cq;simp only [pS,Value.cells,Nat.reduceAdd,aW,aY,aQ,bG,bC,cn,cp,j9]at dd;have ih:=a3.at_ ia cq;have ij:=a3.at_ ic cq;have ik:=a3.at_ ie cq;have fA:=a3.at_ fh cq;have il:=a3.at_ moM2 cq;have fB:=hF2.all a3 (λq_ h1_ h2_ h_=>hF2.miss fg rfl q_ h1_ h2_ h_);have fC:=hR2.trans a3 kF;obtain⟨jp,fD,jr⟩:=a3.len_ fe;refine ar (aB aa) rfl<|bB (ae (ag c9)) (ae (ag fw)) aa ?_;clear c9 fy fw;intro js df fE fF
      refine ao<|ax<|at_<|ar (ak df) rfl<|dn (mI (last:=cm ws) (ws:=ws.tail) fD hes her fA dd (hW.tail (lD hn1)) true) (aG aa (aG aw aN)) mT trivial rfl (λjv jw dg=>?_) (λjx jA dg=>?_)
      rotate_left
      ·
       repeat (first|refine eG ?_|refine gJ ?_)
       (rcases dg with⟨ha_,rfl,hz_⟩;exact⟨_,rfl,_,_,ha_,kB (by rw [oS,su hn1];exact xW ha_) ha_,rfl,fC.trans hz_ jZ⟩)
      obtain⟨hn2,rfl,a5,cf⟩:=dg;have fG:=a5.at_ ig cq;simp only [pS,Value.cells,Nat.reduceAdd,aW,aY,aQ,bG,bC,cn,cp,j9]at cf;have fH:=a5.at_ ih cq;have dh:=a5.at_ ij cq;have fI:=a5.at_ ik cq;have fJ:=a5.at_ fA cq;have fK:=a5.at_ il cq;have fL:=fB.all a5 (λq_ h1_ h2_ h_=>fB.miss dd rfl q_ h1_ h2_ h_);have fM:=fC.trans a5 kF;obtain⟨fN,dk,jI⟩:=a5.len_ fD;refine ar (aB aa) rfl<|bu (ae (ag df)) (ae (ag fE)) (ae (ag fF)) aa ?_;clear df fE fF;intro jK cg fO fP fQ
      refine ao<|at_<|ar (ak cg) rfl<|ar (ak (ae cg)) rfl<|ar (bU aa) rfl<|ar (aJ ky rfl aa) rfl<|ar (aJ eK rfl aa) rfl<|ar (az (aK MM rfl cf aa aA) iW) rfl ?_
      refine ar (ak (ag (ai fP))) rfl<|ar (ak (ae (ag (ai fQ)))) rfl<|ar (cU (bz (ae aa) (bz aa bW)) wj wh wc rfl) rfl ?_
      refine ar (ep C7 (bz aa bW) rfl rfl rfl rfl) rfl<|aM (ib C7 rfl dk dh (ai aa) aa dY dC) trivial rfl (λjL aR=>?_)
      have ci:=iY aR dk;simp only [pS,Value.cells,Nat.reduceAdd,aW,aY,aQ,bG,bC,cn,cp,j9]at ci;have fT:=cC aR fG ah;have ck:=cC aR cf ah;have fU:=cC aR fH ah;have fV:=cC aR fI ah;have fW:=cC aR fJ ah;have fX:=cC aR fK ah;have fY:=bM.cC aR fL dh rfl;have f0:=RestR.cC aR fM gP;have im:=iT aR dk;clear aR fG cf fH dh fI fJ fK fL fM;refine ar (bU (ag (ay aa))) rfl<|ar (aJ ky rfl aa) rfl<|ar (aJ eK rfl aa) rfl<|aM (kR aa (ae (ag aa)) ck ci GL aA) trivial rfl (λjN aS=>?_)
      have a9:=bo aS ck;simp only [pS,Value.cells,Nat.reduceAdd,aW,aY,aQ,bG,bC,cn,cp,j9]at a9;have ga:=au aS ci ah;have gb:=au aS fT ah;have gc:=au aS fU ah;have gd:=au aS fV ah;have ge:=au aS fW ah;have gf:=au aS fX ah;have gg:=bM.au aS fY ck rfl;have dl:=RestR.au aS f0 gP;have gh:=bh aS im;clear aS ci fT ck fU fV fW fX fY f0;refine bD (aE (ag (ai (ay cg)))) (aE (ag (ai (ay fO)))) ?_;clear cg fO fP fQ;intro jO dm gi;refine cG<|ao<|ax<|ax<|at_<|ar (ak dm) rfl<|ar (bU aa) rfl<|ar (aJ jq rfl aa) rfl<|ar (az (aK Da rfl a9 aa aA) iW) rfl ?_
      refine ar (az (cx aa rfl C9.1) ct) rfl ?_;refine ar (eF aa aw) rfl<|bB (ag (ai dm)) (ag (ai gi)) aa ?_;clear dm gi;intro jP co gk gl
      refine ao<|bk gl (λb0=>?_) (λb0=>?_)
      ·replace b0:=bt b0;refine at_<|ar (ak co) rfl<|ar (ak (ae co)) rfl<|ar (bU aa) rfl<|ar (aJ jq rfl aa) rfl<|ar (az (aK Da rfl a9 aa aA) iW) rfl ?_
       refine ar (az (cE C9 aa aw aD (by refine dK ?_;(simp only [dj];omega))) iW) rfl ?_;refine ar (az (cj jV rfl aa) iW) rfl ?_;refine ar (az (bL yQ rfl aa aA) iW) rfl ?_;refine dn (ix (last:=cm ws.tail) (ws:=ws.tail.tail) gh a9 _ _) (aG (ae (ag (ai aa))) (aG aa (aG aw aN))) iy trivial rfl (λ_ _ h=>h.elim) (λjQ jR gm=>?_)
       repeat (refine eG ?_)
       exact⟨_,rfl,_,_,aD,xX (r:=ws.tail.tail) (by rw [oS,su hn1,py hn2];rfl) Px (by rw [oS];exact tz _) lE,gm.1,dl.trans gm.2 jZ⟩
      replace b0:=bf b0;refine bF<|ao<|at_<|ar (ak co) rfl<|ar (ak (ae gk)) rfl<|ar (bU (ae aa)) rfl<|ar (aJ eS rfl aa) rfl<|aM (bV aa (ag aa) rfl rfl a9 ou rfl aA) trivial rfl (λjT aT=>?_)
      have gn:=bo aT a9;simp only [pS,Value.cells,Nat.reduceAdd,aW,aY,aQ,bG,bC,cn,cp,j9]at gn;have io:=au aT ga ah;have jU:=au aT gb ah;have ip:=au aT gc ah;have iz:=au aT gd ah;have jW:=au aT ge ah;have iA:=au aT gf ah;have iB:=bM.au aT gg a9 rfl;have iC:=RestR.au aT dl gP;have jX:=bh aT gh;clear aT a9 ga gb gc gd ge gf gg dl;refine pX ?_;clear co gl gk;intro jY;refine⟨_,pK aj,?_⟩
      (have ht:ws.tail.tail= []:=Uw.1 lE;have mb_:=gn;rw [ht]at mb_;refine⟨yL (r:=ws.tail.tail) (by rw [oS,su hn1,py hn2];rfl) (by rw [oS];exact tz _) (by rw [ht];rfl),rfl,⟨H.jM,H.jJ,fN,H.jS,hs2⟩,⟨mb_,ip,io,iz,iA,iB,hks2,⟨hlo.1,hlo.2.1,by show lo<=H.jJ;omega,by show lo<=fN;omega,by show lo<=H.jS;omega,hlo2⟩⟩,iC⟩)
     ·(simp only [toList_data]at da;exact absurd da aD)
   ·(rw [hk]at bT;simp at bT;done)
  ·(simp only [toList_data]at bI;exact absurd bI aD)
 ·(rw [hk]at bE;simp at bE;done)
theorem ua:wF Tryz.prog 101 4 100 false 1:=⟨aj,aj,aj⟩
theorem JQ:(Tryz.prog.info? 101).bind (·.zero)=some (.agg #[.pointer none,.pointer none,.pointer none,.pointer none]):=by kernel_rfl
theorem JR:Tryz.prog.underlying 101=some (.array 4 100):=by kernel_rfl
theorem JS:(Tryz.prog.info? 100).map (·.size)=some 1:=by kernel_rfl
theorem Db:b9 Tryz.prog 23 74 4 32 (.agg #[.int .i64 0,.int .i64 0,.int .i64 0,.int .i64 0]):=⟨aj,aj,aj⟩
theorem Dc:b9 Tryz.prog 52 54 2 24 (.agg #[.string ByteArray.empty,.int .i64 0]):=⟨aj,aj,aj⟩
theorem uJ:b9 Tryz.prog 64 3 1 8 (.int .i64 0):=⟨aj,aj,aj⟩
theorem MN:aV Tryz.prog 23 false 1:=⟨aj,aj⟩
theorem yR:aV Tryz.prog 3 false 1:=⟨aj,aj⟩
theorem uK:aV Tryz.prog 51 false 1:=⟨aj,aj⟩
theorem Dh:aV Tryz.prog 52 false 1:=⟨aj,aj⟩
theorem MO:aV Tryz.prog 74 true 4:=⟨aj,aj⟩
theorem vo:aV Tryz.prog 9 false 1:=⟨aj,aj⟩
def eQ(a b c d:Int):Nat->List AV
 | 0=> [mA 0,mA 0,mA 0,mA 0]
 | 1=> [mA a,mA 0,mA 0,mA 0]
 | 2=> [mA a,mA b,mA 0,mA 0]
 | 3=> [mA a,mA b,mA c,mA 0]
 | _=> [mA a,mA b,mA c,mA d]
def ej(ws:List Wd):Nat->List Wd
 | 0=>ws
 | 1=>ws.tail
 | 2=>ws.tail.tail
 | 3=>ws.tail.tail.tail
 | _=>ws.tail.tail.tail.tail
def ek(p0:Wd)(ws:List Wd):Nat->Wd
 | 0=>p0
 | 1=>cm ws
 | 2=>cm ws.tail
 | 3=>cm ws.tail.tail
 | _=>cm ws.tail.tail.tail
def Si:Nat->List Nat
 | 0=> [1,1,1,1]
 | 1=> [1,1,1]
 | 2=> [1,1]
 | 3=> [1]
 | _=> []
theorem bM.cY{mem m:List Ob}{hs:HL}{cs:List (List Int)}{i:Nat}{k j:Nat}{o o2 o':Ob}(hm:m=(mem.set k .gone).set j o')(h:bM mem hs cs i)(hk:mem[k]? =some o)(ho:pE o=true)(hj:mem[j]? =some o2)(h2:pE o2=true):bM m hs cs i:=
 (h.m7 rfl (h.miss hk ho)).m7 hm (h.miss hj h2)
theorem I6{M0:List Ob}{n:Nat}(hn:M0.length=n){st:RS}{H:RH}{lo b:Nat}(hR:fm st H lo M0 b)(c0:Int){es er:Value}(hes:fz es)(her:fz er)(h0:M0[0]? =some (.bY (gX es er)))(hjl:st.js.length<=1000000)(ws:List Wd)(hw:st.ws=⟨bc,c0⟩::ws)(hk:(st.kind.toList==(⟨#[]⟩:ByteArray).toList)=false)(ho:cv st.kind bc=true)(hW:g8 ⟨bc,c0⟩ ws)(hc:∀ q,(cR st.cs q).length <=1000000):
 ew Tryz.prog 16 [.ptr b 0] M0 (λr m'=>de bc ⟨bc,c0⟩ ws=(0,0)/\r= .tuple []/\ ∃ H',fm {(st.add bc)with js:=st.js++ [⟨cV (cm ws),cV (cm ws.tail),cV (cm ws.tail.tail),cV (cm ws.tail.tail.tail)⟩],ws:= [],last:=cm ws.tail.tail.tail,kind:=bc} H' lo m' b/\bP M0 m' (KR H b)) (λv m'=>∃ c e,e≠0/\de bc ⟨bc,c0⟩ ws=(c,e)/\v=gp st.cnt c e/\bP M0 m' (KR H b)):=by
 have hwl:=hW.len;have hb:=hR.box;rw [hw]at hb;have hJ:=hR.J;have hB:=hR.B;have hS:=hR.S;have hM:=hR.M;have hF:=hR.fam;have hbn:=cL hb hn;have hJn:=cL hJ hn;have hBn:=cL hB hn;have hSn:=cL hS hn;have hMn:=cL hM hn;obtain⟨⟨x1,x2,x3,x4⟩,⟨x5,x6,x7⟩,x8,x9,x10⟩:=hR.ne;have hnf:=hR.tn;have hlt:=hF.lt hn;have hlo:=hR.lo;obtain⟨z1,z2,z3,z4,z5,z6⟩:=hR.nz h0;refine gr (fn:=Tryz.f16) 193 aj rfl aj bO ?_;intro kK bH hA a9;have dL:al kK (.tmp 0)=_:=hA 0 _ rfl;have fe:bH.length=n:=by rw [a9];exact hn
 have dM:bH[b]? =_:=(congrArg (λq=>q[b]?) a9).trans hb;simp only [pS,Value.cells,Nat.reduceAdd,aW,aY,aQ,bG,bC,cn,cp,eV,eQ,ej,ek]at dM;have kL:bH[H.jJ]? =_:=(congrArg (λq=>q[H.jJ]?) a9).trans hJ;have kM:bH[H.jB]? =_:=(congrArg (λq=>q[H.jB]?) a9).trans hB;have kN:bH[H.jS]? =_:=(congrArg (λq=>q[H.jS]?) a9).trans hS;have kO:bH[H.jM]? =_:=(congrArg (λq=>q[H.jM]?) a9).trans hM;have kP:bH[0]? =_:=(congrArg (λq=>q[0]?) a9).trans h0;have kQ:bP M0 bH (KR H b):=by rw [a9];exact bP.refl _ _
 have dN:=hF;rw [<- a9]at dN;clear hA a9;refine ax<|at_<|ar (ak dL) rfl<|dn (lC (last:=st.last) fe dM ah) (aG aa aN) kC trivial rfl (λnD nE kS=>?_) (λ_ _ h=>h.elim)
 obtain⟨rfl,bI,dO⟩:=kS;simp only [pS,Value.cells,Nat.reduceAdd,aW,aY,aQ,bG,bC,cn,cp,eV,eQ,ej,ek]at dO;have ff:=bI.at_ kL cq;have fg:=bI.at_ kM cq;have fh:=bI.at_ kN cq;have fi:=bI.at_ kO cq;have fj:=bI.at_ kP cq;have fl:=kQ.trans bI kF;have fo:=dN.all bI (λq_ h1_ h2_ h_=>dN.miss dM rfl q_ h1_ h2_ h_);obtain⟨c8,dP,nF⟩:=bI.len_ fe;refine aM (cJ kH rfl dP) trivial rfl (λnG a5=>?_);have co:=bS a5 dP;simp only [pS,Value.cells,Nat.reduceAdd,aW,aY,aQ,bG,bC,cn,cp,eV,eQ,ej,ek]at co;have fp:=aI a5 dO;have fq:=aI a5 ff;have fs:=aI a5 fg;have fu:=aI a5 fh;have fw:=aI a5 fi;have fy:=aI a5 fj;have fA:=RestR.aI a5 fl;have fB:=bM.aI a5 fo;have kT:=bR a5 dP;clear a5 dO ff fg fh fi fj fl fo;refine aM (bV aa (ae aa) rfl rfl co kJ rfl aA) trivial rfl (λnH a6=>?_);have dQ:=bo a6 co;simp only [pS,Value.cells,Nat.reduceAdd,aW,aY,aQ,bG,bC,cn,cp,eV,eQ,ej,ek]at dQ;have cr:=au a6 fp ah;have kU:=au a6 fq ah;have kV:=au a6 fs ah;have kX:=au a6 fu ah;have kY:=au a6 fw ah;have kZ:=au a6 fy ah;have k0:=RestR.au a6 fA ey;have k2:=bM.au a6 fB co rfl;have fC:=bh a6 kT;clear a6 co fp fq fs fu fw fy fA fB;refine bD (aE (ae (ag dL))) (aE aa) ?_;clear dL;intro nI fD dR;refine ao<|ax<|at_<|ar (aJ iu rfl dR) rfl<|ar (az (aK vo rfl dQ aa aA) iz) rfl ?_
 refine ar (aB aa) rfl<|bB (ae (ag fD)) (ae (ag dR)) aa ?_;clear fD dR;intro nK dU fE fF
 refine ao<|ax<|ca<|ax<|ax<|at_<|ar (ak dU) rfl<|ar (bU aa) rfl<|ar (aJ eS rfl aa) rfl<|ar (az (aK vo rfl cr aa aA) iz) rfl ?_
 refine ar (cX aa aw) rfl<|ar (ak aa) rfl<|bK aa (λcu dV=>?_) (λcu dV=>?_)
 ·(rw [hk]at dV;simp at dV;done)
 refine aC ⟨_,rfl,.inl cu⟩ rfl ?_;refine aC ⟨_,rfl,.inl (ae cu)⟩ rfl ?_;refine ar (br (ag cu) aw) rfl<|ar (aB aa) rfl<|bu (ag (ay dU)) (ag (ay fE)) (ag (ay fF)) aa ?_;clear cu dU fE fF;intro nL dW fG dX fH
 refine ao<|iS fH<|at_<|ar (ak dW) rfl<|ar (bU aa) rfl<|ar (aJ eS rfl aa) rfl<|ar (az (aK vo rfl cr aa aA) iz) rfl ?_
 refine ar (dS aa aw) rfl<|ar (ak aa) rfl<|bK aa (λcy cz=>?_) (λcy cz=>?_)
 ·replace cz:=cT cz;refine aF (ak (ag (ai dX))) ⟨_,rfl,cy⟩ rfl ?_;refine aF (dS aa aw) ⟨_,rfl,(ae cy)⟩ rfl ?_;refine ar (bq (ag cy) aa) rfl<|ar (ak aa) rfl<|bK aa (λcA cB=>?_) (λcA cB=>?_)
  ·(simp only [toList_data]at cB;exact absurd cB aD)
  replace cB:=di cB;refine aC ⟨_,rfl,.inl cA⟩ rfl ?_;refine aC ⟨_,rfl,.inl (ae cA)⟩ rfl ?_;refine ar (br (ag cA) aw) rfl<|ar (ak aa) rfl<|aC ⟨_,rfl,.inl aa⟩ rfl ?_
  refine aC ⟨_,rfl,.inl (ae aa)⟩ rfl ?_;refine ar (br (ag aa) aw) rfl<|ar (aB aa) rfl<|bu (ag (aH dW)) (ag (aH fG)) (ag (aH dX)) aa ?_;clear cy cA dW fH fG dX;intro nM c9 fI ea fJ
  refine ao<|iS fJ<|ax<|at_<|ar (ak c9) rfl<|ar (bU aa) rfl<|ar (aJ eS rfl aa) rfl<|ar (az (aK vo rfl cr aa aA) iz) rfl ?_
  refine ar (dS aa aw) rfl<|ar (ak aa) rfl<|bK aa (λbT cC=>?_) (λbT cC=>?_)
  ·replace cC:=cT cC;refine aF (ak (ag (ai c9))) ⟨_,rfl,bT⟩ rfl ?_;refine aF (ak (ae (ag (ai ea)))) ⟨_,rfl,(ae bT)⟩ rfl ?_;refine dn (xE (last:=⟨bc,c0⟩) fC cr bc ho) (aG (ae aa) (aG aa aN)) qK ⟨_,rfl,(ag bT)⟩ rfl (λnN bX k4=>?_) (λ_ _ h=>h.elim);obtain⟨rfl,ba⟩:=k4;have bZ:=ba.at_ dQ dZ;have b0:=ba.at_ cr dZ;have b1:=ba.at_ kU dZ;have b2:=ba.at_ kV dZ;have b6:=ba.at_ kX dZ;have da:=ba.at_ kY dZ;have b7:=ba.at_ kZ dZ;have dc:=k0.trans ba zl;have eb:=k2.all ba (λq_ h1_ h2_ h_=>h_.elim);obtain⟨bA,bN,nO⟩:=ba.len_ fC;refine aF (dT aa) ⟨_,rfl,(ae (ag bT))⟩ rfl ?_;refine ar (bq (ai bT) aa) rfl<|ar (aB aa) rfl<|bu (ai (ay c9)) (ai (ay fI)) (ai (ay ea)) aa ?_;clear bT c9 fJ fI ea;intro fK a7 nP bE k5
   refine ao<|bk k5 (λdd=>?_) (λdd=>?_)
   ·cases dd
   replace dd:=di dd;refine bF<|cG<|ao<|ax<|fZ (λe mem=>(al e (.tmp 0)=al fK (.tmp 0))/\(al e (.tmp 3)=al fK (.tmp 3))/\(mem[c8]? =bX[c8]?)/\(mem[b]? =bX[b]?)/\(mem[H.jJ]? =bX[H.jJ]?)/\(mem[H.jB]? =bX[H.jB]?)/\(mem[H.jS]? =bX[H.jS]?)/\(mem[0]? =bX[0]?)/\(∃ n,mem.length=n/\bA<=n)/\(∃ hs2:HL,mem[H.jM]? =some (.mp (fx hs2))/\bM mem hs2 (ft bc st.cnt st.ks st.cs).2 hs2.length/\hs2.map (·.1)=(ft bc st.cnt st.ks st.cs).1/\(∀ q,q<hs2.length->lo<=hN hs2 q)/\bP M0 mem (KR H b))) ?_ ?_
   ·
    have fL:=bZ;have fM:=b0;have fN:=b1;have fO:=b2;have fP:=b6;have fQ:=b7;refine(Classical.em (∃ q0,q0<H.hs.length/\hK H.hs q0=bc)).elim (λec=>?_) (λec=>?_)
    ·obtain⟨q0,hq0,hqk⟩:=ec;have hql:=hlt q0 hq0 ah;obtain⟨y1,y2,y3,y4,y5⟩:=hnf q0 hq0;have hcq:=hc q0;have y6:=z6 q0 hq0;obtain⟨fT,fU⟩:=eb.take hq0;refine iq 17 1 bN aj aj aj aj (λk6 af=>?_);have fV:=bJ af bZ;have cD:=bJ af b0;have fW:=bJ af b1;have fX:=bJ af b2;have fY:=bJ af b6;have ed:=bJ af da;have f0:=bJ af b7;have ga:=RestR.bJ af dc;have gb:=bM.bJ af fU;have gc:=bJ af fT;have df:k6[bA]? =_:=jk af bN 0 rfl rfl;have k7:_=bA+1:=ir (K:=1) af bN;clear af bZ b0 b1 b2 b6 da b7 dc fU fT bN;refine bg (λM_ hM_=>(ak a7)) trivial ?_;refine bg (λM_ hM_=>(bU aa)) trivial ?_;refine bg (λM_ hM_=>(aJ iv rfl aa)) trivial ?_;refine db (b) (λM_ hM_=>(az (aK uK rfl (cI hM_ cD aL) aa aA) iz)) trivial trivial ?_;refine bg (λM_ hM_=>(ak (ai bE))) trivial ?_;refine bg (λM_ hM_=>(ak (ae (ai a7)))) trivial ?_;refine bg (λM_ hM_=>(bU aa)) trivial ?_;refine bg (λM_ hM_=>(aJ iv rfl aa)) trivial ?_;refine db (b) (λM_ hM_=>(az (aK uK rfl (cI hM_ cD aL) aa aA) iz)) trivial trivial ?_;refine bg (λM_ hM_=>(ak (ae (ay bE)))) trivial ?_;refine db (H.jM) (λM_ hM_=>(rR iG iH (cI hM_ ed aL) (ae aa) aa (show(fx H.hs)[q0]? =some (bc,.own (hN H.hs q0))by rw [lg hq0,hqk]) hF.nv)) trivial trivial ?_;refine bg (λM_ hM_=>(ak (ae (ag (ay a7))))) trivial ?_;refine bg (λM_ hM_=>(bU aa)) trivial ?_;refine bg (λM_ hM_=>(aJ iU rfl aa)) trivial ?_;refine db (b) (λM_ hM_=>(az (aK yR rfl (cI hM_ cD aL) aa aA) iz)) trivial trivial ?_;refine bg (λM_ hM_=>(ep uJ (bz aa bW) rfl rfl rfl rfl)) trivial ?_;refine pI (bA) ((hN H.hs q0)) (λM_ hM_=>(oc uJ rfl (cI hM_ gc aL) (ae (ai aa)) aa dY dC)) trivial df rfl trivial ⟨.inl b8,⟨.inl b8,⟨.inl b8,⟨.inl b8,trivial⟩⟩⟩⟩ ⟨.inl b8,⟨.inl b8,⟨.inl b8,⟨.inl b8,trivial⟩⟩⟩⟩ (λnQ an=>?_);have ee:=pO an df;simp only [pS,Value.cells,Nat.reduceAdd,aW,aY,aQ,bG,bC,cn,cp,eV,eQ,ej,ek]at ee;have gd:=cY an fV ah ah;have ge:=cY an cD ah ah;have gf:=cY an fW ah ah;have gg:=cY an fX ah ah;have gh:=cY an fY ah ah;have dg:=cY an ed ah ah;have gi:=cY an f0 ah ah;have gk:=RestR.cY an ga vF ey;have gl:=bM.vR ah an gb df rfl;have k8:=pD an k7;clear an fV cD fW fX fY ed f0 ga gb gc df;refine iD rfl ?_;refine aM (vc iG iH dg (ae (ai (ay aa))) (ai (ay aa)) aa (show(fx H.hs)[q0]? =some (bc,.own (hN H.hs q0))by rw [lg hq0,hqk]) hF.nv) trivial rfl (λnR ap=>?_);have gm:=bo ap dg;simp only [pS,Value.cells,Nat.reduceAdd,aW,aY,aQ,bG,bC,cn,cp,eV,eQ,ej,ek]at gm;have k9:=au ap ee ah;have lb:=au ap gd ah;have lc:=au ap ge ah;have ld:=au ap gf ah;have lf:=au ap gg ah;have li:=au ap gh ah;have lj:=au ap gi ah;have lk:=RestR.au ap gk gP;have ll:=bM.au ap gl dg rfl;have ln:=bh ap k8;clear ap ee gd ge gf gg gh dg gi gk gl;refine bD (aE (ae (aH a7))) (aE (ae (aH bE))) ?_;intro nS lp lq;refine ao ⟨(lp).trans (a7).symm,(lq).trans (bE).symm,lb.trans fL.symm,lc.trans fM.symm,ld.trans fN.symm,lf.trans fO.symm,li.trans fP.symm,lj.trans fQ.symm,⟨_,ln,ah⟩,?_⟩
     (have hadd:=rS (c:=st.cnt) H.hs st.cs q0 hF.len hq0 hqk (λp hp e=>absurd (hF.key p q0 ah hq0 (e.trans hqk.symm)) ah);rw [hR.keys]at hadd;rw [hadd];exact⟨_,gm,ll.put hq0 hqk k9 (λq hq=>nX),(uG hq0 hqk).trans hR.keys,(λq hq=>by rw [TE]at hq;rw [pF hq0];split<;>first|exact hlo.2.2.2.2.2 q hq|(show lo<=bA;omega)),lk⟩)
    ·have hqm:=vT ec;refine iq 17 1 bN aj aj aj aj (λlr av=>?_);have gn:=bJ av bZ;have cF:=bJ av b0;have gt:=bJ av b1;have gu:=bJ av b2;have gv:=bJ av b6;have ef:=bJ av da;have gw:=bJ av b7;have gx:=RestR.bJ av dc;have gy:=bM.bJ av eb;have dh:lr[bA]? =_:=jk av bN 0 rfl rfl;have lu:_=bA+1:=ir (K:=1) av bN;clear av bZ b0 b1 b2 b6 da b7 dc eb bN;refine bg (λM_ hM_=>(ak a7)) trivial ?_;refine bg (λM_ hM_=>(bU aa)) trivial ?_;refine bg (λM_ hM_=>(aJ iv rfl aa)) trivial ?_;refine db (b) (λM_ hM_=>(az (aK uK rfl (cI hM_ cF aL) aa aA) iz)) trivial trivial ?_;refine bg (λM_ hM_=>(ak (ai bE))) trivial ?_;refine bg (λM_ hM_=>(ak (ae (ai a7)))) trivial ?_;refine bg (λM_ hM_=>(bU aa)) trivial ?_;refine bg (λM_ hM_=>(aJ iv rfl aa)) trivial ?_;refine db (b) (λM_ hM_=>(az (aK uK rfl (cI hM_ cF aL) aa aA) iz)) trivial trivial ?_;refine bg (λM_ hM_=>(ak (ae (ay bE)))) trivial ?_;refine db (H.jM) (λM_ hM_=>(uq iG iH vm (cI hM_ ef aL) (ae aa) aa (nJ hqm))) trivial trivial ?_;refine bg (λM_ hM_=>(ak (ae (ag (ay a7))))) trivial ?_;refine bg (λM_ hM_=>(bU aa)) trivial ?_;refine bg (λM_ hM_=>(aJ iU rfl aa)) trivial ?_;refine db (b) (λM_ hM_=>(az (aK yR rfl (cI hM_ cF aL) aa aA) iz)) trivial trivial ?_;refine bg (λM_ hM_=>(ep uJ (bz aa bW) rfl rfl rfl rfl)) trivial ?_;refine ot (bA) (λM_ hM_=>(u3 uJ rfl (ae (ai aa)) aa dY dC)) trivial dh rfl trivial ⟨.inl b8,⟨.inl b8,⟨.inl b8,⟨.inl b8,trivial⟩⟩⟩⟩ (λnT aO=>?_);have eg:=bo aO dh;simp only [pS,Value.cells,Nat.reduceAdd,aW,aY,aQ,bG,bC,cn,cp,eV,eQ,ej,ek]at eg;have gz:=au aO gn ah;have gA:=au aO cF ah;have gB:=au aO gt ah;have gC:=au aO gu ah;have gD:=au aO gv ah;have dk:=au aO ef ah;have gE:=au aO gw ah;have gF:=RestR.au aO gx ey;have gG:=bM.au aO gy dh rfl;have lv:=bh aO lu;clear aO gn cF gt gu gv ef gw gx gy dh;refine iD rfl ?_;refine aM (vd iG iH dk (ae (ai (ay aa))) (ai (ay aa)) aa (nJ hqm)) trivial rfl (λnU aP=>?_);have gH:=bo aP dk;simp only [pS,Value.cells,Nat.reduceAdd,aW,aY,aQ,bG,bC,cn,cp,eV,eQ,ej,ek]at gH;have lx:=au aP eg ah;have ly:=au aP gz ah;have lz:=au aP gA ah;have lA:=au aP gB ah;have lB:=au aP gC ah;have lF:=au aP gD ah;have lG:=au aP gE ah;have lH:=RestR.au aP gF gP;have lI:=bM.au aP gG dk rfl;have lJ:=bh aP lv;clear aP eg gz gA gB gC gD dk gE gF gG;refine bD (aE (ae (aH a7))) (aE (ae (aH bE))) ?_;intro nV lK lL;refine ao ⟨(lK).trans (a7).symm,(lL).trans (bE).symm,ly.trans fL.symm,lz.trans fM.symm,lA.trans fN.symm,lB.trans fO.symm,lF.trans fP.symm,lG.trans fQ.symm,⟨_,lJ,ah⟩,?_⟩
     (have hadd:=rL (k:=bc) (c:=st.cnt) H.hs st.cs hF.len hqm;rw [hR.keys]at hadd;rw [hadd];exact⟨_,gH,lI.more hqm lx (λq hq=>nX),vG,(λq hq=>by rw [pG];split<;>first|exact hlo.2.2.2.2.2 q (by assumption)|(rw [if_pos (by simp at hq;omega)];show lo<=bA;omega)),lH⟩)
   ·rintro nW nY ⟨lM,lN,lO,lP,lQ,lR,lS,lT,⟨eh,en,nZ⟩,⟨hs2,moM2,hF2,hks2,hlo2,hR2⟩⟩;have gI:=lM.trans a7;have eu:=lN.trans bE;have gL:=lO.trans bZ;have gM:=lP.trans b0;have gN:=lQ.trans b1;have gO:=lR.trans b2;have gQ:=lS.trans b6;have gR:=lT.trans b7;refine ax<|ax<|at_<|ar (ak eu) rfl<|bB (ae gI) (ae eu) aa ?_;clear gI eu;intro n1 gS gT ev
    refine ao<|ca<|ax<|at_<|ar (cX ev aw) rfl<|ar (aB aa) rfl<|bu (ag gS) (ag gT) (ag ev) aa ?_;clear gS gT ev;intro n2 gU gV ez gW
    refine ao<|bk gW (λeA=>?_) (λeA=>?_)
    ·(simp only [toList_data]at eA;exact absurd eA aD)
    refine ax<|at_<|ar (cX ez aw) rfl<|ar (aB aa) rfl<|bu (ag gU) (ag gV) (ag ez) aa ?_;clear gU gW gV ez;intro n5 gY gZ lU g0
    refine ao<|bk g0 (λeB=>?_) (λeB=>?_)
    ·skip;refine ax<|at_<|aM (cJ v7 rfl en) trivial rfl (λb9 aR=>?_)
     have g1:=bS aR en;simp only [pS,Value.cells,Nat.reduceAdd,aW,aY,aQ,bG,bC,cn,cp,eV,eQ,ej,ek]at g1;have cH:=aI aR gL;have lV:=aI aR gM;have cK:=aI aR gN;have cM:=aI aR gO;have cN:=aI aR gQ;have cO:=aI aR gR;have cP:=aI aR moM2;have lW:=bM.aI aR hF2;have lX:=RestR.aI aR hR2;have lY:=bR aR en;clear aR gL gM gN gO gQ gR moM2 hF2 hR2;refine bB (ae gY) (ae gZ) aa ?_;clear gY g0 gZ lU;intro n6 g2 g3 cb;refine ao<|ax<|ax<|at_<|ar (aJ mO rfl cb) rfl<|ar (aJ yu rfl (ae cb)) rfl<|ar (aJ kW rfl (ag cb)) rfl<|ar (aJ mM rfl aa) rfl<|ar (aJ kW rfl (ai cb)) rfl<|ar (aJ mN rfl aa) rfl<|ar (xu (bz (ae (ai aa)) (bz (ai aa) (bz (ag aa) (bz aa bW)))) JQ JR JS rfl) rfl ?_
     refine ar (ak aw) rfl<|ck (ay g2) (ay g3) (ay cb) (ae aa) aa ?_;clear g2 g3 cb;intro dl cQ cS cU cW lZ
     refine ao<|ca<|eL (S:=Nat) (λi e mem=>(al e (.tmp 134)= .v (.int .i64 (i:Int)))/\(al e (.tmp 0)=al dl (.tmp 0))/\(al e (.tmp 3)=al dl (.tmp 3))/\(al e (.tmp 4)=al dl (.tmp 4))/\(al e (.tmp 133)=al dl (.tmp 133))/\(mem[eh]? =some (.box 74 (eQ (cV (cm ws)) (cV (cm ws.tail)) (cV (cm ws.tail.tail)) (cV (cm ws.tail.tail.tail)) i)))/\(mem[b]? =some (.box 56 (aW st.nam (.own H.jJ) (.own H.jB) (.own H.jS) (.own H.jM) st.cnt (ej ws i) (ek ⟨bc,c0⟩ ws i) st.kind)))/\(mem[c8]? =b9[c8]?)/\(mem[H.jJ]? =b9[H.jJ]?)/\(mem[H.jB]? =b9[H.jB]?)/\(mem[H.jS]? =b9[H.jS]?)/\(mem[0]? =b9[0]?)/\(mem[H.jM]? =b9[H.jM]?)/\(∃ n,mem.length=n/\eh+1<=n)/\((i<=4/\g8 (ek ⟨bc,c0⟩ ws i) (ej ws i)/\dA [1,1,1,1] ⟨bc,c0⟩ ws=dA (Si i) (ek ⟨bc,c0⟩ ws i) (ej ws i)/\bM mem hs2 (ft bc st.cnt st.ks st.cs).2 hs2.length/\bP M0 mem (KR H b)))) (λi=>(4 - i)) 0 ⟨lZ,rfl,rfl,rfl,rfl,g1,lV,rfl,rfl,rfl,rfl,rfl,rfl,⟨_,lY,SR _⟩,?_⟩ ?_
     ·(exact⟨ah,hW,rfl,lW,lX⟩)
     ·rintro i n7 n8 ⟨ab,l1,l3,l4,l5,a8,ad,l6,l7,l8,l9,ma,mb,⟨cZ,aS,n9⟩,hinv⟩;have bb:=l1.trans cQ;have be:=l3.trans cS;have bj:=l4.trans cU;have bm:=l5.trans cW;have cc:=l6.trans cH;have cd:=l7.trans cK;have ce:=l8.trans cM;have cg:=l9.trans cN;have bn:=ma.trans cO;have ci:=mb.trans cP
      (obtain⟨ii,hW3,hfm,hF3,hR3⟩:=hinv)
      have mc:i=0\/i=1\/i=2\/i=3\/i=4:=by omega
      rcases mc with rfl|rfl|rfl|rfl|rfl
      ·
       simp only [pS,Value.cells,Nat.reduceAdd,aW,aY,aQ,bG,bC,cn,cp,eV,eQ,ej,ek]at a8;simp only [pS,Value.cells,Nat.reduceAdd,aW,aY,aQ,bG,bC,cn,cp,eV,eQ,ej,ek]at ad;refine ax<|at_<|ar (c6 ab aw) rfl<|dH (ae bb) (ae be) (ae bj) (ae bm) (ae ab) aa ?_;clear bb bm ab be bj;intro oa g4 g5 g6 eC eD g7
       refine ao<|ax<|bk g7 (λdm=>?_) (λdm=>?_)
       ·replace dm:=bt dm;refine bF<|ao<|ax<|ca<|ax<|at_<|ar (uu ua eC eD rfl rfl) rfl<|ar (aB aa) rfl<|dH (ag g4) (ag g5) (ag g6) aa (ag eC) (ag eD) ?_;clear g4 eC eD g7 g5 g6;intro ob eE g9 hh hv hC hD
        refine ao<|at_<|ar (ak hv) rfl<|ar (ak (ae eE)) rfl<|dn (mI (last:=ek ⟨bc,c0⟩ ws 0) (ws:=ej ws 0) aS hes her bn ad hW3 true) (aG aa (aG aw aN)) mT trivial rfl (λod oe eH=>?_) (λog oh eH=>?_)
        rotate_left
        ·
         repeat (first|refine eG ?_|refine gJ ?_)
         (rcases eH with⟨ha_,rfl,hz_⟩;exact⟨_,rfl,_,_,ha_,kB vH ha_,rfl,hR3.trans hz_ jZ⟩)
        obtain⟨hn1,rfl,bp,eI⟩:=eH;have dq:=bp.at_ a8 cq;simp only [pS,Value.cells,Nat.reduceAdd,aW,aY,aQ,bG,bC,cn,cp,eV,eQ,ej,ek]at eI;have hE:=bp.at_ cc cq;have hG:=bp.at_ cd cq;have hH:=bp.at_ ce cq;have hI:=bp.at_ cg cq;have hO:=bp.at_ bn cq;have hP:=bp.at_ ci cq;have hQ:=hF3.all bp (λq_ h1_ h2_ h_=>hF3.miss ad rfl q_ h1_ h2_ h_);have hU:=hR3.trans bp kF;obtain⟨oj,md,ol⟩:=bp.len_ aS;refine ar (bU (ag aa)) rfl<|aM (bV aa (ae aa) rfl rfl dq iZ rfl aA) trivial rfl (λom aT=>?_)
        have hV:=bo aT dq;simp only [pS,Value.cells,Nat.reduceAdd,aW,aY,aQ,bG,bC,cn,cp,eV,eQ,ej,ek]at hV;have me:=au aT eI ah;have mf:=au aT hE ah;have mg:=au aT hG ah;have mh:=au aT hH ah;have mi:=au aT hI ah;have mj:=au aT hO ah;have ml:=au aT hP ah;have mm:=bM.au aT hQ dq rfl;have mn:=RestR.au aT hU ey;have mo:=bh aT md;clear aT dq eI hE hG hH hI hO hP hQ hU;refine ck (aE (ai eE)) (aE (ai g9)) (aE (ai hh)) (aE (ai hC)) (aE (ai hD)) ?_;clear eE hC hD g9 hh hv;intro oo hY hZ h6 h7 h8;refine cG<|ao<|at_ ?_
        (refine ar (cf h8 aw ?_) rfl ?_; · (unfold In64;omega))
        refine ar (ak aa) rfl<|ck (ag hY) (ag hZ) (ag h6) (ag h7) aa ?_;clear hY h7 h8 hZ h6;intro oq mq mr mu mv mw
        refine ao<|⟨0+1,⟨mw,(mq.trans cQ.symm),(mr.trans cS.symm),(mu.trans cU.symm),(mv.trans cW.symm),hV,me,(mf.trans cH.symm),(mg.trans cK.symm),(mh.trans cM.symm),(mi.trans cN.symm),(mj.trans cO.symm),(ml.trans cP.symm),⟨_,mo,ah⟩,?_⟩,?_⟩
        ·(exact⟨ah,hW3.tail (lD hn1),hfm.trans (py hn1),mm,mn⟩)
        ·((try dsimp only);omega)
       ·cases dm
      ·
       simp only [pS,Value.cells,Nat.reduceAdd,aW,aY,aQ,bG,bC,cn,cp,eV,eQ,ej,ek]at a8;simp only [pS,Value.cells,Nat.reduceAdd,aW,aY,aQ,bG,bC,cn,cp,eV,eQ,ej,ek]at ad;refine ax<|at_<|ar (c6 ab aw) rfl<|dH (ae bb) (ae be) (ae bj) (ae bm) (ae ab) aa ?_;clear bb bm ab be bj;intro ov h9 ia ib eK eP ic
       refine ao<|ax<|bk ic (λdr=>?_) (λdr=>?_)
       ·replace dr:=bt dr;refine bF<|ao<|ax<|ca<|ax<|at_<|ar (uu ua eK eP rfl rfl) rfl<|ar (aB aa) rfl<|dH (ag h9) (ag ia) (ag ib) aa (ag eK) (ag eP) ?_;clear h9 eK eP ic ia ib;intro ow eT ie ig ih ij ik
        refine ao<|at_<|ar (ak ih) rfl<|ar (ak (ae eT)) rfl<|dn (mI (last:=ek ⟨bc,c0⟩ ws 1) (ws:=ej ws 1) aS hes her bn ad hW3 true) (aG aa (aG aw aN)) mT trivial rfl (λox oy eU=>?_) (λoz oA eU=>?_)
        rotate_left
        ·
         repeat (first|refine eG ?_|refine gJ ?_)
         (rcases eU with⟨ha_,rfl,hz_⟩;exact⟨_,rfl,_,_,ha_,kB vH ha_,rfl,hR3.trans hz_ jZ⟩)
        obtain⟨hn1,rfl,bv,eW⟩:=eU;have dt:=bv.at_ a8 cq;simp only [pS,Value.cells,Nat.reduceAdd,aW,aY,aQ,bG,bC,cn,cp,eV,eQ,ej,ek]at eW;have il:=bv.at_ cc cq;have im:=bv.at_ cd cq;have io:=bv.at_ ce cq;have ip:=bv.at_ cg cq;have iA:=bv.at_ bn cq;have iB:=bv.at_ ci cq;have iC:=hF3.all bv (λq_ h1_ h2_ h_=>hF3.miss ad rfl q_ h1_ h2_ h_);have iF:=hR3.trans bv kF;obtain⟨oB,mx,oC⟩:=bv.len_ aS;refine ar (bU (ag aa)) rfl<|aM (bV aa (ae aa) rfl rfl dt iZ rfl aA) trivial rfl (λoD aU=>?_)
        have iI:=bo aU dt;simp only [pS,Value.cells,Nat.reduceAdd,aW,aY,aQ,bG,bC,cn,cp,eV,eQ,ej,ek]at iI;have my:=au aU eW ah;have mz:=au aU il ah;have mA:=au aU im ah;have mB:=au aU io ah;have mC:=au aU ip ah;have mD:=au aU iA ah;have mE:=au aU iB ah;have mF:=bM.au aU iC dt rfl;have mG:=RestR.au aU iF ey;have mH:=bh aU mx;clear aU dt eW il im io ip iA iB iC iF;refine ck (aE (ai eT)) (aE (ai ie)) (aE (ai ig)) (aE (ai ij)) (aE (ai ik)) ?_;clear eT ij ik ie ig ih;intro oE iJ iK iL iM iN;refine cG<|ao<|at_ ?_
        (refine ar (cf iN aw ?_) rfl ?_; · (unfold In64;omega))
        refine ar (ak aa) rfl<|ck (ag iJ) (ag iK) (ag iL) (ag iM) aa ?_;clear iJ iM iN iK iL;intro oF mJ mK mL mP mQ
        refine ao<|⟨1+1,⟨mQ,(mJ.trans cQ.symm),(mK.trans cS.symm),(mL.trans cU.symm),(mP.trans cW.symm),iI,my,(mz.trans cH.symm),(mA.trans cK.symm),(mB.trans cM.symm),(mC.trans cN.symm),(mD.trans cO.symm),(mE.trans cP.symm),⟨_,mH,ah⟩,?_⟩,?_⟩
        ·(exact⟨ah,hW3.tail (lD hn1),hfm.trans (py hn1),mF,mG⟩)
        ·((try dsimp only);omega)
       ·cases dr
      ·
       simp only [pS,Value.cells,Nat.reduceAdd,aW,aY,aQ,bG,bC,cn,cp,eV,eQ,ej,ek]at a8;simp only [pS,Value.cells,Nat.reduceAdd,aW,aY,aQ,bG,bC,cn,cp,eV,eQ,ej,ek]at ad;refine ax<|at_<|ar (c6 ab aw) rfl<|dH (ae bb) (ae be) (ae bj) (ae bm) (ae ab) aa ?_;clear bb bm ab be bj;intro oG iO iP iQ eX eY iT
       refine ao<|ax<|bk iT (λdu=>?_) (λdu=>?_)
       ·replace du:=bt du;refine bF<|ao<|ax<|ca<|ax<|at_<|ar (uu ua eX eY rfl rfl) rfl<|ar (aB aa) rfl<|dH (ag iO) (ag iP) (ag iQ) aa (ag eX) (ag eY) ?_;clear iO eX eY iT iP iQ;intro oH eZ iV iW iX iY i6
        refine ao<|at_<|ar (ak iX) rfl<|ar (ak (ae eZ)) rfl<|dn (mI (last:=ek ⟨bc,c0⟩ ws 2) (ws:=ej ws 2) aS hes her bn ad hW3 true) (aG aa (aG aw aN)) mT trivial rfl (λoI oJ e0=>?_) (λoK oL e0=>?_)
        rotate_left
        ·
         repeat (first|refine eG ?_|refine gJ ?_)
         (rcases e0 with⟨ha_,rfl,hz_⟩;exact⟨_,rfl,_,_,ha_,kB vH ha_,rfl,hR3.trans hz_ jZ⟩)
        obtain⟨hn1,rfl,bw,e3⟩:=e0;have dv:=bw.at_ a8 cq;simp only [pS,Value.cells,Nat.reduceAdd,aW,aY,aQ,bG,bC,cn,cp,eV,eQ,ej,ek]at e3;have i7:=bw.at_ cc cq;have i8:=bw.at_ cd cq;have ja:=bw.at_ ce cq;have jb:=bw.at_ cg cq;have jc:=bw.at_ bn cq;have jd:=bw.at_ ci cq;have je:=hF3.all bw (λq_ h1_ h2_ h_=>hF3.miss ad rfl q_ h1_ h2_ h_);have jf:=hR3.trans bw kF;obtain⟨oM,mR,oN⟩:=bw.len_ aS;refine ar (bU (ag aa)) rfl<|aM (bV aa (ae aa) rfl rfl dv iZ rfl aA) trivial rfl (λoO aV=>?_)
        have jg:=bo aV dv;simp only [pS,Value.cells,Nat.reduceAdd,aW,aY,aQ,bG,bC,cn,cp,eV,eQ,ej,ek]at jg;have mS:=au aV e3 ah;have mU:=au aV i7 ah;have mV:=au aV i8 ah;have mW:=au aV ja ah;have mX:=au aV jb ah;have mY:=au aV jc ah;have mZ:=au aV jd ah;have m0:=bM.au aV je dv rfl;have m1:=RestR.au aV jf ey;have m2:=bh aV mR;clear aV dv e3 i7 i8 ja jb jc jd je jf;refine ck (aE (ai eZ)) (aE (ai iV)) (aE (ai iW)) (aE (ai iY)) (aE (ai i6)) ?_;clear eZ iY i6 iV iW iX;intro oP jh ji jj jl jm;refine cG<|ao<|at_ ?_
        (refine ar (cf jm aw ?_) rfl ?_; · (unfold In64;omega))
        refine ar (ak aa) rfl<|ck (ag jh) (ag ji) (ag jj) (ag jl) aa ?_;clear jh jl jm ji jj;intro oQ m3 m4 m5 m6 m7
        refine ao<|⟨2+1,⟨m7,(m3.trans cQ.symm),(m4.trans cS.symm),(m5.trans cU.symm),(m6.trans cW.symm),jg,mS,(mU.trans cH.symm),(mV.trans cK.symm),(mW.trans cM.symm),(mX.trans cN.symm),(mY.trans cO.symm),(mZ.trans cP.symm),⟨_,m2,ah⟩,?_⟩,?_⟩
        ·(exact⟨ah,hW3.tail (lD hn1),hfm.trans (py hn1),m0,m1⟩)
        ·((try dsimp only);omega)
       ·cases du
      ·
       simp only [pS,Value.cells,Nat.reduceAdd,aW,aY,aQ,bG,bC,cn,cp,eV,eQ,ej,ek]at a8;simp only [pS,Value.cells,Nat.reduceAdd,aW,aY,aQ,bG,bC,cn,cp,eV,eQ,ej,ek]at ad;refine ax<|at_<|ar (c6 ab aw) rfl<|dH (ae bb) (ae be) (ae bj) (ae bm) (ae ab) aa ?_;clear bb bm ab be bj;intro oR jn jo jp e4 e5 jr
       refine ao<|ax<|bk jr (λdw=>?_) (λdw=>?_)
       ·replace dw:=bt dw;refine bF<|ao<|ax<|ca<|ax<|at_<|ar (uu ua e4 e5 rfl rfl) rfl<|ar (aB aa) rfl<|dH (ag jn) (ag jo) (ag jp) aa (ag e4) (ag e5) ?_;clear jn e4 e5 jr jo jp;intro oS e6 jv jw jx jA jI
        refine ao<|at_<|ar (ak jx) rfl<|ar (ak (ae e6)) rfl<|dn (mI (last:=ek ⟨bc,c0⟩ ws 3) (ws:=ej ws 3) aS hes her bn ad hW3 true) (aG aa (aG aw aN)) mT trivial rfl (λoT oU e7=>?_) (λoV oW e7=>?_)
        rotate_left
        ·
         repeat (first|refine eG ?_|refine gJ ?_)
         (rcases e7 with⟨ha_,rfl,hz_⟩;exact⟨_,rfl,_,_,ha_,kB vH ha_,rfl,hR3.trans hz_ jZ⟩)
        obtain⟨hn1,rfl,bx,e8⟩:=e7;have dy:=bx.at_ a8 cq;simp only [pS,Value.cells,Nat.reduceAdd,aW,aY,aQ,bG,bC,cn,cp,eV,eQ,ej,ek]at e8;have jK:=bx.at_ cc cq;have jL:=bx.at_ cd cq;have jN:=bx.at_ ce cq;have jO:=bx.at_ cg cq;have jP:=bx.at_ bn cq;have jQ:=bx.at_ ci cq;have jR:=hF3.all bx (λq_ h1_ h2_ h_=>hF3.miss ad rfl q_ h1_ h2_ h_);have jT:=hR3.trans bx kF;obtain⟨oX,m8,oY⟩:=bx.len_ aS;refine ar (bU (ag aa)) rfl<|aM (bV aa (ae aa) rfl rfl dy iZ rfl aA) trivial rfl (λoZ aX=>?_)
        have jU:=bo aX dy;simp only [pS,Value.cells,Nat.reduceAdd,aW,aY,aQ,bG,bC,cn,cp,eV,eQ,ej,ek]at jU;have m9:=au aX e8 ah;have na:=au aX jK ah;have nb:=au aX jL ah;have nc:=au aX jN ah;have nd:=au aX jO ah;have nf:=au aX jP ah;have ng:=au aX jQ ah;have nh:=bM.au aX jR dy rfl;have ni:=RestR.au aX jT ey;have nj:=bh aX m8;clear aX dy e8 jK jL jN jO jP jQ jR jT;refine ck (aE (ai e6)) (aE (ai jv)) (aE (ai jw)) (aE (ai jA)) (aE (ai jI)) ?_;clear e6 jA jI jv jw jx;intro o0 jW jX jY j0 j1;refine cG<|ao<|at_ ?_
        (refine ar (cf j1 aw ?_) rfl ?_; · (unfold In64;omega))
        refine ar (ak aa) rfl<|ck (ag jW) (ag jX) (ag jY) (ag j0) aa ?_;clear jW j0 j1 jX jY;intro o1 nk nl nm nn np
        refine ao<|⟨3+1,⟨np,(nk.trans cQ.symm),(nl.trans cS.symm),(nm.trans cU.symm),(nn.trans cW.symm),jU,m9,(na.trans cH.symm),(nb.trans cK.symm),(nc.trans cM.symm),(nd.trans cN.symm),(nf.trans cO.symm),(ng.trans cP.symm),⟨_,nj,ah⟩,?_⟩,?_⟩
        ·(exact⟨ah,hW3.tail (lD hn1),hfm.trans (py hn1),nh,ni⟩)
        ·((try dsimp only);omega)
       ·cases dw
      ·
       simp only [pS,Value.cells,Nat.reduceAdd,aW,aY,aQ,bG,bC,cn,cp,eV,eQ,ej,ek]at a8;simp only [pS,Value.cells,Nat.reduceAdd,aW,aY,aQ,bG,bC,cn,cp,eV,eQ,ej,ek]at ad;refine ax<|at_<|ar (c6 ab aw) rfl<|dH (ae bb) (ae be) (ae bj) (ae bm) (ae ab) aa ?_;clear bb bm ab be bj;intro o3 dz j3 j4 nq nr j5
       refine ao<|ax<|bk j5 (λdB=>?_) (λdB=>?_)
       ·cases dB
       replace dB:=bf dB;refine dJ<|cw<|cw<|dI<|ao<|iq 9 1 aS aj aj aj aj (λns am=>?_)
       have e9:=bJ am a8;have fa:=bJ am ad;have j6:=bJ am cc;have fb:=bJ am cd;have j7:=bJ am ce;have j8:=bJ am cg;have ka:=bJ am bn;have kb:=bJ am ci;have kc:=bM.bJ am hF3;have ke:=RestR.bJ am hR3;have dD:ns[cZ]? =_:=jk am aS 0 rfl rfl;have nt:_=cZ+1:=ir (K:=1) am aS;clear am a8 ad cc cd ce cg bn ci hF3 hR3 aS;refine bg (λM_ hM_=>(ak dz)) trivial ?_;refine bg (λM_ hM_=>(ak (ae dz))) trivial ?_;refine bg (λM_ hM_=>(bU aa)) trivial ?_;refine bg (λM_ hM_=>(aJ ky rfl aa)) trivial ?_;refine bg (λM_ hM_=>(aJ fk rfl aa)) trivial ?_;refine db (b) (λM_ hM_=>(az (aK MN rfl (cI hM_ fa aL) aa aA) iz)) trivial trivial ?_;refine db (eh) (λM_ hM_=>(az (aK MO rfl (cI hM_ e9 aL) (ag (ai j4)) aA) iz)) trivial trivial ?_;refine bg (λM_ hM_=>(ep Db (bz aa bW) rfl rfl rfl rfl)) trivial ?_;refine pI (cZ) (H.jJ) (λM_ hM_=>(oc Db rfl (cI hM_ fb aL) (ag aa) aa dY dC)) trivial dD rfl trivial ⟨.inl b8,⟨.inl b8,trivial⟩⟩ ⟨.inl b8,⟨.inl b8,trivial⟩⟩ (λo4 aZ=>?_);have dE:=pO aZ dD;simp only [pS,Value.cells,Nat.reduceAdd,aW,aY,aQ,bG,bC,cn,cp,eV,eQ,ej,ek]at dE;have kf:=cY aZ e9 ah ah;have dF:=cY aZ fa ah ah;have kg:=cY aZ j6 ah ah;have kh:=cY aZ j7 ah ah;have ki:=cY aZ j8 ah ah;have kj:=cY aZ ka ah ah;have km:=cY aZ kb ah ah;have kn:=bM.cY aZ kc fb rfl dD rfl;have ko:=RestR.cY aZ ke gP ey;have nu:=pD aZ nt;clear aZ e9 fa j6 fb j7 j8 ka kb kc ke dD;refine iD rfl ?_;refine ar (bU (ay aa)) rfl<|ar (aJ ky rfl aa) rfl<|ar (aJ fk rfl aa) rfl<|aM (kR aa (ae (ag aa)) dF dE GK aA) trivial rfl (λo5 a2=>?_)
       have bQ:=bo a2 dF;simp only [pS,Value.cells,Nat.reduceAdd,aW,aY,aQ,bG,bC,cn,cp,eV,eQ,ej,ek]at bQ;have kp:=au a2 dE ah;have kq:=au a2 kf ah;have kr:=au a2 kg ah;have kt:=au a2 kh ah;have ku:=au a2 ki ah;have kv:=au a2 kj ah;have kw:=au a2 km ah;have kx:=bM.au a2 kn dF rfl;have fc:=RestR.au a2 ko gP;have kz:=bh a2 nu;clear a2 dE kf dF kg kh ki kj km kn ko;refine bD (aE (ai (ay dz))) (aE (ai (ay j3))) ?_;clear dz nq nr j5 j3 j4;intro o6 fd kA;refine cG<|ao<|ax<|ax<|at_<|ar (ak fd) rfl<|ar (bU aa) rfl<|ar (aJ jq rfl aa) rfl<|ar (az (aK Dh rfl bQ aa aA) iz) rfl ?_
       refine ar (az (cx aa rfl Dc.1) ct) rfl ?_;refine ar (eF aa aw) rfl<|bB (ag (ai fd)) (ag (ai kA)) aa ?_;clear fd kA;intro o7 dG kD kE
       refine ao<|bk kE (λc7=>?_) (λc7=>?_)
       ·replace c7:=bt c7;refine at_<|ar (ak dG) rfl<|ar (ak (ae dG)) rfl<|ar (bU aa) rfl<|ar (aJ jq rfl aa) rfl<|ar (az (aK Dh rfl bQ aa aA) iz) rfl ?_
        refine ar (az (cE Dc aa aw aD (by refine dK ?_;(simp only [dj];omega))) iz) rfl ?_;refine ar (az (cj jV rfl aa) iz) rfl ?_;refine ar (az (bL yR rfl aa aA) iz) rfl ?_;refine dn (ix (last:=cm ws.tail.tail.tail) (ws:=ws.tail.tail.tail.tail) kz bQ _ _) (aG (ae (ag (ai aa))) (aG aa (aG aw aN))) iy trivial rfl (λ_ _ h=>h.elim) (λo8 o9 kG=>?_)
        repeat (refine eG ?_)
        exact⟨_,rfl,_,_,aD,xX (r:=ws.tail.tail.tail.tail) (by rw [qg];exact hfm) MF (by rw [qg];exact Hu _) lE,kG.1,fc.trans kG.2 jZ⟩
       replace c7:=bf c7;refine bF<|ao<|at_<|ar (ak dG) rfl<|ar (ak (ae kD)) rfl<|ar (bU (ae aa)) rfl<|ar (aJ eS rfl aa) rfl<|aM (bV aa (ag aa) rfl rfl bQ ou rfl aA) trivial rfl (λpa a3=>?_)
       have kI:=bo a3 bQ;simp only [pS,Value.cells,Nat.reduceAdd,aW,aY,aQ,bG,bC,cn,cp,eV,eQ,ej,ek]at kI;have nw:=au a3 kp ah;have pc:=au a3 kq ah;have pd:=au a3 kr ah;have nx:=au a3 kt ah;have ny:=au a3 ku ah;have pe:=au a3 kv ah;have nA:=au a3 kw ah;have nB:=bM.au a3 kx bQ rfl;have nC:=RestR.au a3 fc gP;have pf:=bh a3 kz;clear a3 bQ kp kq kr kt ku kv kw kx fc;refine pX ?_;clear dG kE kD;intro pg;refine⟨_,pK aj,?_⟩
       (have ht:ws.tail.tail.tail.tail= []:=Uw.1 lE;have mb_:=kI;rw [ht]at mb_;refine⟨yL (r:=ws.tail.tail.tail.tail) (by rw [qg];exact hfm) (by rw [qg];exact Hu _) (by rw [ht];rfl),rfl,⟨H.jM,cZ,H.jB,H.jS,hs2⟩,⟨mb_,nw,nx,ny,nA,nB,hks2,⟨hlo.1,hlo.2.1,by show lo<=cZ;omega,by show lo<=H.jB;omega,by show lo<=H.jS;omega,hlo2⟩⟩,nC⟩)
    ·(simp only [toList_data]at eB;exact absurd eB aD)
  ·(rw [hk]at cC;simp at cC;done)
 ·(rw [hk]at cz;simp at cz;done)
def wB(af:Array Edge)(k:Nat):Bool:=af.toList.any λe=>e.on==k&&Region.binds .any e
theorem oy{af:Array Edge}{k:Nat}{m:Nat->Bool}(h:wB af k=true)(hed:∀ ed∈af,Region.binds .any ed=true->m ed.on=true):m k=true:=by
 unfold wB at h;rw [T8]at h;obtain⟨ed,he,hk⟩:=h;simp only [SS,beq_iff_eq]at hk;rw [<- hk.1];exact hed ed nW hk.2
def oJ(φ:Prop)(mem:List Ob)(b q:Nat)(ob' row:Ob)(m:Nat->Bool)(s:Nat)(M:List Ob):Prop:=
 (m 3=false->M=mem)/\(m 3=true->φ/\ ∃ M1,bP mem M1 (λi=>i=b)/\M1[b]? =some ob'/\(m 5=false->M=M1)/\(m 5=true->s=M1.length/\M=M1.set q .gone ++ [row]))
theorem oJ.other{φ:Prop}{mem:List Ob}{b q:Nat}{ob' row:Ob}{m:Nat->Bool}{s:Nat}{M:List Ob}(h:oJ φ mem b q ob' row m s M){i:Nat}(h3:3≠i)(h5:5≠i):oJ φ mem b q ob' row (λj=>j==i||m j) s M:=by
 have e3:((3==i)||m 3)=m 3:=by rw [beq_eq_false_iff_ne.2 h3];rfl
 have e5:((5==i)||m 5)=m 5:=by rw [beq_eq_false_iff_ne.2 h5];rfl
 unfold oJ;simp only [e3,e5];exact h
theorem oJ.box{φ:Prop}{mem:List Ob}{b q j:Nat}{ob' row o:Ob}{m:Nat->Bool}{s:Nat}{M:List Ob}(h:oJ φ mem b q ob' row m s M)(h53:m 5=true->m 3=true)(hj:mem[j]? =some o)(hjb:j≠b)(hjq:j≠q):M[j]? =some o:=by
 have hlt:=(SN.1 hj).1;cases h3:m 3 with
 | false=>rw [h.1 h3];exact hj
 | true=>
  obtain⟨-,M1,hk,hb',h1,h2⟩:=h.2 h3;have:=hk.at_ hj hjb;cases h5:m 5 with
  | false=>rw [h1 h5];exact this
  | true=>
   have hle:=hk.len;rw [(h2 h5).2,SX cZ,SY (λe=>hjq e.symm)];exact this
theorem vU:cu Tryz.prog 78 2 2 false 1:=by unfold cu;kernel_rfl
theorem vp:b9 Tryz.prog 64 3 1 8 (.int .i64 0):=⟨aj,aj,aj⟩
theorem Fa:aV Tryz.prog 64 false 1:=⟨aj,aj⟩
theorem RB{M:Mode}{N n:Nat}{Q:AQ}{e:Nat->AV}{mem:List Ob}(hl:mem.length=n){id b j q:Nat}{nm fv:AV}{els:List (List AV)}{v:Int}{ob':Ob}{a0 a1 a2 a3 a4 a5 a6:Array Edge}{p0 p1 p2 p3 p4 p5 p6:String}{y0 y1 y2 y3 y4 y5 y6:TypeId}{tys:Array TypeId}{t7:Oper}
 (hm:Tryz.prog.follows .mixedOrders =true)(hd:jr [⟨some 85,.fieldAddr 78 (.tmp 9) 2,y0,p0,a0,none⟩,⟨some 86,.load 64 (.tmp 85),y1,p1,a1,none⟩,⟨some 87,.move (.tmp 0),y2,p2,a2,none⟩,⟨some 88,.call ⟨.value (.func 41),#[.tmp 87,.const (.bool true)],tys⟩,y3,p3,a3,none⟩,⟨some 89,.buildSlice 64 1 #[(0,.tmp 88)],y4,p4,a4,none⟩,⟨some 90,.call ⟨.builtin .append,#[.tmp 86,.tmp 89],#[64,64]⟩,y5,p5,a5,none⟩,⟨some 91,.fieldAddr 78 (.tmp 9) 2,y6,p6,a6,none⟩,t7]=true)(hB:fV (List.toArray [⟨some 85,.fieldAddr 78 (.tmp 9) 2,y0,p0,a0,none⟩,⟨some 86,.load 64 (.tmp 85),y1,p1,a1,none⟩,⟨some 87,.move (.tmp 0),y2,p2,a2,none⟩,⟨some 88,.call ⟨.value (.func 41),#[.tmp 87,.const (.bool true)],tys⟩,y3,p3,a3,none⟩,⟨some 89,.buildSlice 64 1 #[(0,.tmp 88)],y4,p4,a4,none⟩,⟨some 90,.call ⟨.builtin .append,#[.tmp 86,.tmp 89],#[64,64]⟩,y5,p5,a5,none⟩,⟨some 91,.fieldAddr 78 (.tmp 9) 2,y6,p6,a6,none⟩,t7]) 7=true)(hE:gy [⟨some 85,.fieldAddr 78 (.tmp 9) 2,y0,p0,a0,none⟩,⟨some 86,.load 64 (.tmp 85),y1,p1,a1,none⟩,⟨some 87,.move (.tmp 0),y2,p2,a2,none⟩,⟨some 88,.call ⟨.value (.func 41),#[.tmp 87,.const (.bool true)],tys⟩,y3,p3,a3,none⟩,⟨some 89,.buildSlice 64 1 #[(0,.tmp 88)],y4,p4,a4,none⟩,⟨some 90,.call ⟨.builtin .append,#[.tmp 86,.tmp 89],#[64,64]⟩,y5,p5,a5,none⟩,⟨some 91,.fieldAddr 78 (.tmp 9) 2,y6,p6,a6,none⟩,t7] (List.take 7 [⟨some 85,.fieldAddr 78 (.tmp 9) 2,y0,p0,a0,none⟩,⟨some 86,.load 64 (.tmp 85),y1,p1,a1,none⟩,⟨some 87,.move (.tmp 0),y2,p2,a2,none⟩,⟨some 88,.call ⟨.value (.func 41),#[.tmp 87,.const (.bool true)],tys⟩,y3,p3,a3,none⟩,⟨some 89,.buildSlice 64 1 #[(0,.tmp 88)],y4,p4,a4,none⟩,⟨some 90,.call ⟨.builtin .append,#[.tmp 86,.tmp 89],#[64,64]⟩,y5,p5,a5,none⟩,⟨some 91,.fieldAddr 78 (.tmp 9) 2,y6,p6,a6,none⟩,t7]) 0 N=true)
 (hw:(wB a1 0&&wB a3 2&&wB a4 3&&wB a5 4&&wB a5 1)=true)
 (hs:al e (.tmp 9)= .ptr j 0)(hz:al e (.tmp 0)= .ptr b 0)(hj:mem[j]? =some (.box 78 [nm,fv,.own q]))(hq:mem[q]? =some (.row 3 1 els))(hjb:j≠b)(hqb:q≠b)(hel:els.length<=1000000)
 (eH:∀ args w,(callFunc 41 args).run Tryz.prog w= .ok (.enter 41 args) w)
 {φ:Prop}{χ:Value->List Ob->Prop}(hc:ew Tryz.prog 41 [.ptr b 0,.v (.bool true)] mem (λr m'=>φ/\r=mA v/\bP mem m' (λi=>i=b)/\m'[b]? =some ob') χ)(hX:∀ u M e',χ u M->Q (.panic [{v:=u,recovered:=false}]) e' M)
 (h:φ-> ∀ s m',m'.length=s+1->n<=s->bP mem m' (λi=>i=b\/i=q)->m'[b]? =some ob'->m'[s]? =some (.row 3 1 (els++ [[mA v]]))->AL Tryz.prog N (List.toArray [⟨some 85,.fieldAddr 78 (.tmp 9) 2,y0,p0,a0,none⟩,⟨some 86,.load 64 (.tmp 85),y1,p1,a1,none⟩,⟨some 87,.move (.tmp 0),y2,p2,a2,none⟩,⟨some 88,.call ⟨.value (.func 41),#[.tmp 87,.const (.bool true)],tys⟩,y3,p3,a3,none⟩,⟨some 89,.buildSlice 64 1 #[(0,.tmp 88)],y4,p4,a4,none⟩,⟨some 90,.call ⟨.builtin .append,#[.tmp 86,.tmp 89],#[64,64]⟩,y5,p5,a5,none⟩,⟨some 91,.fieldAddr 78 (.tmp 9) 2,y6,p6,a6,none⟩,t7]) [t7] Q (aT (aT (aT (aT (aT (aT (aT e (some 85) (.ptr j 2)) (some 86) (.own q)) (some 87) (.ptr b 0)) (some 88) (mA v)) (some 89) (.row 1 [[mA v]])) (some 90) (.own s)) (some 91) (.ptr j 2)) m'):
 AW M Tryz.prog N (.region id (List.toArray [⟨some 85,.fieldAddr 78 (.tmp 9) 2,y0,p0,a0,none⟩,⟨some 86,.load 64 (.tmp 85),y1,p1,a1,none⟩,⟨some 87,.move (.tmp 0),y2,p2,a2,none⟩,⟨some 88,.call ⟨.value (.func 41),#[.tmp 87,.const (.bool true)],tys⟩,y3,p3,a3,none⟩,⟨some 89,.buildSlice 64 1 #[(0,.tmp 88)],y4,p4,a4,none⟩,⟨some 90,.call ⟨.builtin .append,#[.tmp 86,.tmp 89],#[64,64]⟩,y5,p5,a5,none⟩,⟨some 91,.fieldAddr 78 (.tmp 9) 2,y6,p6,a6,none⟩,t7]) true) Q e mem:=by
 have hjq:j≠q:=λhe=>by rw [he,hq]at hj;cases hj
 have hqn:q<mem.length:=(SN.1 hq).1;have hjn:j<mem.length:=(SN.1 hj).1;simp only [SS]at hw;obtain⟨⟨⟨⟨w1,w3⟩,w4⟩,w54⟩,w51⟩:=hw;refine CE Nat 7 hm hd hB hE (λs=> [.ptr j 2,.own q,.ptr b 0,mA v,.row 1 [[mA v]],.own s,.ptr j 2]) (λs=>rfl) (oJ φ mem b q ob' (.row 3 1 (els++ [[mA v]]))) χ hX 0 ⟨λ_=>rfl,λh=>(by cases h)⟩ ?_ ?_
 ·intro i o m s M hi ho hmi hed hcl hR;have k4:m 4=true->m 3=true:=λh4=>oy w4 (hcl 4 _ h4 rfl)
  have k54:m 5=true->m 4=true:=λh5=>oy w54 (hcl 5 _ h5 rfl)
  have k51:m 5=true->m 1=true:=λh5=>oy w51 (hcl 5 _ h5 rfl)
  have hbox:=hR.box (λh5=>k4 (k54 h5)) hj hjb hjq;have hi7:i=0\/i=1\/i=2\/i=3\/i=4\/i=5\/i=6:=by omega
  rcases hi7 with rfl|rfl|rfl|rfl|rfl|rfl|rfl
  ·obtain rfl:=Option.some.inj ho;refine⟨trivial,?_⟩
   show fU _ _ e M _ _
   exact bH.ki (r:=.ptr j 2) (az (aJ (o:=0) (off:=2) vU rfl hs) rfl) ⟨s,rfl,λ_ _ _ h=>h,hR.other aD aD⟩
  ·obtain rfl:=Option.some.inj ho;refine⟨trivial,?_⟩
   show fU _ _ (aT e (some 85) (.ptr j 2)) M _ _
   exact bH.ki (r:=.own q) (az (aK (off:=2) Fa rfl hbox aa aL) rfl) ⟨s,rfl,λ_ _ _ h=>h,hR.other aD aD⟩
  ·obtain rfl:=Option.some.inj ho;refine⟨trivial,?_⟩
   show fU _ _ (aT (aT e (some 85) (.ptr j 2)) (some 86) (.own q)) M _ _
   exact bH.ki (r:=.ptr b 0) (ak hz) ⟨s,rfl,λ_ _ _ h=>h,hR.other aD aD⟩
  ·obtain rfl:=Option.some.inj ho;have h5:m 5=false:=by
    cases h5:m 5 with
    | false=>rfl
    | true=>rw [k4 (k54 h5)]at hmi;cases hmi
   obtain rfl:=hR.1 hmi;refine⟨trivial,?_⟩
   show fU _ _ (aT (aT (aT e (some 85) (.ptr j 2)) (some 86) (.own q)) (some 87) (.ptr b 0)) M _ _
   refine fU.mono (EY hc ?_ eH) ?_
   ·rfl
   rintro r M' ⟨hφ,rfl,hk,hb'⟩;exact⟨s,rfl,λ_ _ _ h=>h,λh3=>(by simp at h3),λ_=>⟨hφ,M',hk,hb',λ_=>rfl,λh=>(by simp [h5]at h)⟩⟩
  ·obtain rfl:=Option.some.inj ho;refine⟨trivial,?_⟩
   show fU _ _ (aT (aT (aT (aT e (some 85) (.ptr j 2)) (some 86) (.own q)) (some 87) (.ptr b 0)) (some 88) (mA v)) M _ _
   exact bH.ki (r:=.row 1 [[mA v]]) (ep vp (bz aa bW) rfl rfl rfl rfl) ⟨s,rfl,λ_ _ _ h=>h,hR.other aD aD⟩
  ·obtain rfl:=Option.some.inj ho;have h3:m 3=true:=k4 (oy w54 hed);obtain⟨hφ,M1,hk,hb',hM,_⟩:=hR.2 h3;obtain rfl:=hM hmi;have hq1:M[q]? =some (.row 3 1 els):=hk.at_ hq hqb;refine⟨trivial,?_⟩
   show fU _ _ (aT (aT (aT (aT (aT e (some 85) (.ptr j 2)) (some 86) (.own q)) (some 87) (.ptr b 0)) (some 88) (mA v)) (some 89) (.row 1 [[mA v]])) M _ _
   refine fq.ki (r:=.own M.length) (ib (x:=.tmp 86) (y:=.tmp 89) vp rfl rfl hq1 rfl rfl rfl cZ) ⟨M.length,rfl,λk x hk' h=>?_,λh=>(by simp [h3]at h),λ_=>⟨hφ,M,hk,hb',λh=>(by simp at h),λ_=>⟨rfl,rfl⟩⟩⟩;have hk5:k≠5:=λh55=>(by rw [h55,hmi]at hk';cases hk')
   clear hk';rcases k with _|_|_|_|_|_|_|k
   all_goals first|exact h|exact absurd rfl hk5
  ·obtain rfl:=Option.some.inj ho;refine⟨trivial,?_⟩
   show fU _ _ (aT (aT (aT (aT (aT (aT e (some 85) (.ptr j 2)) (some 86) (.own q)) (some 87) (.ptr b 0)) (some 88) (mA v)) (some 89) (.row 1 [[mA v]])) (some 90) (.own s)) M _ _
   exact bH.ki (r:=.ptr j 2) (az (aJ (o:=0) (off:=2) vU rfl hs) rfl) ⟨s,rfl,λ_ _ _ h=>h,hR.other aD aD⟩
 ·intro s M hR;obtain⟨hφ,M1,hk,hb',_,hM⟩:=hR.2 rfl;obtain⟨rfl,rfl⟩:=hM rfl;have hle:=hk.len;refine h hφ M1.length _ aL ah ?_ ?_ ?_
  ·refine⟨by simp;omega,λi hi hn=>?_⟩;rw [SX cZ,SY (λhe=>hn (.inr he.symm))];exact hk.same i hi (λhe=>hn (.inl he))
  ·have hbl:=(SN.1 hb').1;rw [SX (by simpa using hbl),SY hqb];exact hb'
  ·rw [S1 aL];simp
theorem RD{M:Mode}{N n:Nat}{Q:AQ}{e:Nat->AV}{mem:List Ob}(hl:mem.length=n){id b j q:Nat}{nm fv:AV}{els:List (List AV)}{v:Int}{ob':Ob}{a0 a1 a2 a3 a4 a5 a6:Array Edge}{p0 p1 p2 p3 p4 p5 p6:String}{y0 y1 y2 y3 y4 y5 y6:TypeId}{tys:Array TypeId}{t7:Oper}
 (hm:Tryz.prog.follows .mixedOrders =true)(hd:jr [⟨some 98,.fieldAddr 78 (.tmp 9) 2,y0,p0,a0,none⟩,⟨some 99,.load 64 (.tmp 98),y1,p1,a1,none⟩,⟨some 100,.move (.tmp 0),y2,p2,a2,none⟩,⟨some 101,.call ⟨.value (.func 41),#[.tmp 100,.const (.bool true)],tys⟩,y3,p3,a3,none⟩,⟨some 102,.buildSlice 64 1 #[(0,.tmp 101)],y4,p4,a4,none⟩,⟨some 103,.call ⟨.builtin .append,#[.tmp 99,.tmp 102],#[64,64]⟩,y5,p5,a5,none⟩,⟨some 104,.fieldAddr 78 (.tmp 9) 2,y6,p6,a6,none⟩,t7]=true)(hB:fV (List.toArray [⟨some 98,.fieldAddr 78 (.tmp 9) 2,y0,p0,a0,none⟩,⟨some 99,.load 64 (.tmp 98),y1,p1,a1,none⟩,⟨some 100,.move (.tmp 0),y2,p2,a2,none⟩,⟨some 101,.call ⟨.value (.func 41),#[.tmp 100,.const (.bool true)],tys⟩,y3,p3,a3,none⟩,⟨some 102,.buildSlice 64 1 #[(0,.tmp 101)],y4,p4,a4,none⟩,⟨some 103,.call ⟨.builtin .append,#[.tmp 99,.tmp 102],#[64,64]⟩,y5,p5,a5,none⟩,⟨some 104,.fieldAddr 78 (.tmp 9) 2,y6,p6,a6,none⟩,t7]) 7=true)(hE:gy [⟨some 98,.fieldAddr 78 (.tmp 9) 2,y0,p0,a0,none⟩,⟨some 99,.load 64 (.tmp 98),y1,p1,a1,none⟩,⟨some 100,.move (.tmp 0),y2,p2,a2,none⟩,⟨some 101,.call ⟨.value (.func 41),#[.tmp 100,.const (.bool true)],tys⟩,y3,p3,a3,none⟩,⟨some 102,.buildSlice 64 1 #[(0,.tmp 101)],y4,p4,a4,none⟩,⟨some 103,.call ⟨.builtin .append,#[.tmp 99,.tmp 102],#[64,64]⟩,y5,p5,a5,none⟩,⟨some 104,.fieldAddr 78 (.tmp 9) 2,y6,p6,a6,none⟩,t7] (List.take 7 [⟨some 98,.fieldAddr 78 (.tmp 9) 2,y0,p0,a0,none⟩,⟨some 99,.load 64 (.tmp 98),y1,p1,a1,none⟩,⟨some 100,.move (.tmp 0),y2,p2,a2,none⟩,⟨some 101,.call ⟨.value (.func 41),#[.tmp 100,.const (.bool true)],tys⟩,y3,p3,a3,none⟩,⟨some 102,.buildSlice 64 1 #[(0,.tmp 101)],y4,p4,a4,none⟩,⟨some 103,.call ⟨.builtin .append,#[.tmp 99,.tmp 102],#[64,64]⟩,y5,p5,a5,none⟩,⟨some 104,.fieldAddr 78 (.tmp 9) 2,y6,p6,a6,none⟩,t7]) 0 N=true)
 (hw:(wB a1 0&&wB a3 2&&wB a4 3&&wB a5 4&&wB a5 1)=true)
 (hs:al e (.tmp 9)= .ptr j 0)(hz:al e (.tmp 0)= .ptr b 0)(hj:mem[j]? =some (.box 78 [nm,fv,.own q]))(hq:mem[q]? =some (.row 3 1 els))(hjb:j≠b)(hqb:q≠b)(hel:els.length<=1000000)
 (eH:∀ args w,(callFunc 41 args).run Tryz.prog w= .ok (.enter 41 args) w)
 {φ:Prop}{χ:Value->List Ob->Prop}(hc:ew Tryz.prog 41 [.ptr b 0,.v (.bool true)] mem (λr m'=>φ/\r=mA v/\bP mem m' (λi=>i=b)/\m'[b]? =some ob') χ)(hX:∀ u M e',χ u M->Q (.panic [{v:=u,recovered:=false}]) e' M)
 (h:φ-> ∀ s m',m'.length=s+1->n<=s->bP mem m' (λi=>i=b\/i=q)->m'[b]? =some ob'->m'[s]? =some (.row 3 1 (els++ [[mA v]]))->AL Tryz.prog N (List.toArray [⟨some 98,.fieldAddr 78 (.tmp 9) 2,y0,p0,a0,none⟩,⟨some 99,.load 64 (.tmp 98),y1,p1,a1,none⟩,⟨some 100,.move (.tmp 0),y2,p2,a2,none⟩,⟨some 101,.call ⟨.value (.func 41),#[.tmp 100,.const (.bool true)],tys⟩,y3,p3,a3,none⟩,⟨some 102,.buildSlice 64 1 #[(0,.tmp 101)],y4,p4,a4,none⟩,⟨some 103,.call ⟨.builtin .append,#[.tmp 99,.tmp 102],#[64,64]⟩,y5,p5,a5,none⟩,⟨some 104,.fieldAddr 78 (.tmp 9) 2,y6,p6,a6,none⟩,t7]) [t7] Q (aT (aT (aT (aT (aT (aT (aT e (some 98) (.ptr j 2)) (some 99) (.own q)) (some 100) (.ptr b 0)) (some 101) (mA v)) (some 102) (.row 1 [[mA v]])) (some 103) (.own s)) (some 104) (.ptr j 2)) m'):
 AW M Tryz.prog N (.region id (List.toArray [⟨some 98,.fieldAddr 78 (.tmp 9) 2,y0,p0,a0,none⟩,⟨some 99,.load 64 (.tmp 98),y1,p1,a1,none⟩,⟨some 100,.move (.tmp 0),y2,p2,a2,none⟩,⟨some 101,.call ⟨.value (.func 41),#[.tmp 100,.const (.bool true)],tys⟩,y3,p3,a3,none⟩,⟨some 102,.buildSlice 64 1 #[(0,.tmp 101)],y4,p4,a4,none⟩,⟨some 103,.call ⟨.builtin .append,#[.tmp 99,.tmp 102],#[64,64]⟩,y5,p5,a5,none⟩,⟨some 104,.fieldAddr 78 (.tmp 9) 2,y6,p6,a6,none⟩,t7]) true) Q e mem:=by
 have hjq:j≠q:=λhe=>by rw [he,hq]at hj;cases hj
 have hqn:q<mem.length:=(SN.1 hq).1;have hjn:j<mem.length:=(SN.1 hj).1;simp only [SS]at hw;obtain⟨⟨⟨⟨w1,w3⟩,w4⟩,w54⟩,w51⟩:=hw;refine CE Nat 7 hm hd hB hE (λs=> [.ptr j 2,.own q,.ptr b 0,mA v,.row 1 [[mA v]],.own s,.ptr j 2]) (λs=>rfl) (oJ φ mem b q ob' (.row 3 1 (els++ [[mA v]]))) χ hX 0 ⟨λ_=>rfl,λh=>(by cases h)⟩ ?_ ?_
 ·intro i o m s M hi ho hmi hed hcl hR;have k4:m 4=true->m 3=true:=λh4=>oy w4 (hcl 4 _ h4 rfl)
  have k54:m 5=true->m 4=true:=λh5=>oy w54 (hcl 5 _ h5 rfl)
  have k51:m 5=true->m 1=true:=λh5=>oy w51 (hcl 5 _ h5 rfl)
  have hbox:=hR.box (λh5=>k4 (k54 h5)) hj hjb hjq;have hi7:i=0\/i=1\/i=2\/i=3\/i=4\/i=5\/i=6:=by omega
  rcases hi7 with rfl|rfl|rfl|rfl|rfl|rfl|rfl
  ·obtain rfl:=Option.some.inj ho;refine⟨trivial,?_⟩
   show fU _ _ e M _ _
   exact bH.ki (r:=.ptr j 2) (az (aJ (o:=0) (off:=2) vU rfl hs) rfl) ⟨s,rfl,λ_ _ _ h=>h,hR.other aD aD⟩
  ·obtain rfl:=Option.some.inj ho;refine⟨trivial,?_⟩
   show fU _ _ (aT e (some 98) (.ptr j 2)) M _ _
   exact bH.ki (r:=.own q) (az (aK (off:=2) Fa rfl hbox aa aL) rfl) ⟨s,rfl,λ_ _ _ h=>h,hR.other aD aD⟩
  ·obtain rfl:=Option.some.inj ho;refine⟨trivial,?_⟩
   show fU _ _ (aT (aT e (some 98) (.ptr j 2)) (some 99) (.own q)) M _ _
   exact bH.ki (r:=.ptr b 0) (ak hz) ⟨s,rfl,λ_ _ _ h=>h,hR.other aD aD⟩
  ·obtain rfl:=Option.some.inj ho;have h5:m 5=false:=by
    cases h5:m 5 with
    | false=>rfl
    | true=>rw [k4 (k54 h5)]at hmi;cases hmi
   obtain rfl:=hR.1 hmi;refine⟨trivial,?_⟩
   show fU _ _ (aT (aT (aT e (some 98) (.ptr j 2)) (some 99) (.own q)) (some 100) (.ptr b 0)) M _ _
   refine fU.mono (EY hc ?_ eH) ?_
   ·rfl
   rintro r M' ⟨hφ,rfl,hk,hb'⟩;exact⟨s,rfl,λ_ _ _ h=>h,λh3=>(by simp at h3),λ_=>⟨hφ,M',hk,hb',λ_=>rfl,λh=>(by simp [h5]at h)⟩⟩
  ·obtain rfl:=Option.some.inj ho;refine⟨trivial,?_⟩
   show fU _ _ (aT (aT (aT (aT e (some 98) (.ptr j 2)) (some 99) (.own q)) (some 100) (.ptr b 0)) (some 101) (mA v)) M _ _
   exact bH.ki (r:=.row 1 [[mA v]]) (ep vp (bz aa bW) rfl rfl rfl rfl) ⟨s,rfl,λ_ _ _ h=>h,hR.other aD aD⟩
  ·obtain rfl:=Option.some.inj ho;have h3:m 3=true:=k4 (oy w54 hed);obtain⟨hφ,M1,hk,hb',hM,_⟩:=hR.2 h3;obtain rfl:=hM hmi;have hq1:M[q]? =some (.row 3 1 els):=hk.at_ hq hqb;refine⟨trivial,?_⟩
   show fU _ _ (aT (aT (aT (aT (aT e (some 98) (.ptr j 2)) (some 99) (.own q)) (some 100) (.ptr b 0)) (some 101) (mA v)) (some 102) (.row 1 [[mA v]])) M _ _
   refine fq.ki (r:=.own M.length) (ib (x:=.tmp 99) (y:=.tmp 102) vp rfl rfl hq1 rfl rfl rfl cZ) ⟨M.length,rfl,λk x hk' h=>?_,λh=>(by simp [h3]at h),λ_=>⟨hφ,M,hk,hb',λh=>(by simp at h),λ_=>⟨rfl,rfl⟩⟩⟩;have hk5:k≠5:=λh55=>(by rw [h55,hmi]at hk';cases hk')
   clear hk';rcases k with _|_|_|_|_|_|_|k
   all_goals first|exact h|exact absurd rfl hk5
  ·obtain rfl:=Option.some.inj ho;refine⟨trivial,?_⟩
   show fU _ _ (aT (aT (aT (aT (aT (aT e (some 98) (.ptr j 2)) (some 99) (.own q)) (some 100) (.ptr b 0)) (some 101) (mA v)) (some 102) (.row 1 [[mA v]])) (some 103) (.own s)) M _ _
   exact bH.ki (r:=.ptr j 2) (az (aJ (o:=0) (off:=2) vU rfl hs) rfl) ⟨s,rfl,λ_ _ _ h=>h,hR.other aD aD⟩
 ·intro s M hR;obtain⟨hφ,M1,hk,hb',_,hM⟩:=hR.2 rfl;obtain⟨rfl,rfl⟩:=hM rfl;have hle:=hk.len;refine h hφ M1.length _ aL ah ?_ ?_ ?_
  ·refine⟨by simp;omega,λi hi hn=>?_⟩;rw [SX cZ,SY (λhe=>hn (.inr he.symm))];exact hk.same i hi (λhe=>hn (.inl he))
  ·have hbl:=(SN.1 hb').1;rw [SX (by simpa using hbl),SY hqb];exact hb'
  ·rw [S1 aL];simp
end Go.Proofs.YtfoaiidcfkmneaaGreatDoor
