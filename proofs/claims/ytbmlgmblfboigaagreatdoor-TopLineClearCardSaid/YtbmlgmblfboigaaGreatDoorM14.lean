/- Texts of this claim, one behind the other: lemmas for the statement. -/
import Derived.Test.YtbmlgmblfboigaaGreatDoorT0
import Derived.Test.YtbmlgmblfboigaaGreatDoorM13
import Derived.Test.YtbmlgmblfboigaaGreatDoorM12
import Derived.Test.YtbmlgmblfboigaaGreatDoorM7
import Derived.Test.YtbmlgmblfboigaaGreatDoorM10
import Derived.Test.YtbmlgmblfboigaaGreatDoorM9
import Derived.Test.YtbmlgmblfboigaaGreatDoorA59
import Derived.Test.YtbmlgmblfboigaaGreatDoorM6
import Derived.Test.YtbmlgmblfboigaaGreatDoorM4
set_option maxRecDepth 100000
set_option maxHeartbeats 4000000
set_option linter.unusedSimpArgs false
set_option linter.unusedVariables false
namespace Go.Proofs.YtbmlgmblfboigaaGreatDoor
open Go Go.RowKit Go.Proofs Go.Lib
theorem Rr:(Tryz.prog.info? 97).bind (·.zero)=some (.agg #[.string ByteArray.empty,.int .i64 0,.slice none 0 0]):=by kernel_rfl
theorem Rt:Tryz.prog.underlying 97=some (.struct (eP Tryz.prog 97)):=by kernel_rfl
theorem Ru:∀ w,((eP Tryz.prog 97).mapM λf=>Prod.mk f.offset<$>sizeOf f.type:Sem (Array (Nat×Nat))).run Tryz.prog w= .ok (#[(0,1),(1,1),(2,1)]) w:=λ_=>by kernel_rfl
theorem GV:bO Tryz.prog 25 97 3 48 (.agg #[.string ByteArray.empty,.int .i64 0,.slice none 0 0]):=⟨ai,ai,ai⟩
theorem GW:bO Tryz.prog 73 75 2 24 (.agg #[.string ByteArray.empty,.int .i64 0]):=⟨ai,ai,ai⟩
theorem v8:bO Tryz.prog 85 3 1 8 (.int .i64 0):=⟨ai,ai,ai⟩
theorem Rw:aQ Tryz.prog 25 false 1:=⟨ai,ai⟩
theorem Iu:aQ Tryz.prog 3 false 1:=⟨ai,ai⟩
theorem wa:aQ Tryz.prog 72 false 1:=⟨ai,ai⟩
theorem GX:aQ Tryz.prog 73 false 1:=⟨ai,ai⟩
theorem xb:aQ Tryz.prog 9 false 1:=⟨ai,ai⟩
theorem Rx:aQ Tryz.prog 97 true 3:=⟨ai,ai⟩
theorem fM(a:ByteArray)(b:Int)(c:List Int): [[AV.v (.string a),AV.v (.int .i64 b),AV.row 1 (c.map iE)]]= [(⟨a,b,c⟩:eU)].map ct:=rfl
theorem fN(v:Int): [[mA v]]= [v].map iE:=rfl
theorem LH{M0:List Ob}{n:Nat}(hn:M0.length=n){st:RS}{H:RH}{lo b:Nat}(hR:e9 st H lo M0 b)(c0:Int){es er:Value}(hes:e8 es)(her:e8 er)(h0:M0[0]? =some (.bT (gX es er)))(hsl:st.ss.length<=1000000)(ws:List Wd)(hw:st.ws=⟨cf,c0⟩::ws)(hk:(st.kind.toList==(⟨#[]⟩:ByteArray).toList)=false)(ho:iY st.kind cf=true)(hW:jH ⟨cf,c0⟩ ws)(hW5:ws.length<=100000)(hc:∀ q,(cR st.cs q).length <=1000000):
 ee Tryz.prog 30 [.ptr b 0] M0 (λr m'=>jd cf ⟨cf,c0⟩ ws=(0,0)/\r= .tuple []/\ ∃ H' la,e9 {(st.add cf)with ss:=st.ss++ [⟨(cN ws).txt,eG (cN ws.tail),ws.tail.tail.map eG⟩],ws:= [],last:=la,kind:=cf} H' lo m' b/\bM M0 m' (KR H b)) (λv m'=>∃ c e,e≠0/\jd cf ⟨cf,c0⟩ ws=(c,e)/\v=gu st.cnt c e/\bM M0 m' (KR H b)):=by
 have hwl:=hW.len;have hb:=hR.box;rw [hw]at hb;have hJ:=hR.J;have hB:=hR.B;have hS:=hR.S;have hM:=hR.M;have hF:=hR.fam;have hbn:=cV hb hn;have hJn:=cV hJ hn;have hBn:=cV hB hn;have hSn:=cV hS hn;have hMn:=cV hM hn;obtain⟨⟨x1,x2,x3,x4⟩,⟨x5,x6,x7⟩,x8,x9,x10⟩:=hR.ne;have hnf:=hR.uN;have hlt:=hF.lt hn;have hlo:=hR.lo;obtain⟨z1,z2,z3,z4,z5,z6⟩:=hR.nz h0;have h00:0<n:=cV h0 hn;refine gw (fn:=Tryz.f30) 193 ai rfl ai aU ?_;intro jE bw hA bb;have dd:ak jE (.tmp 0)=_:=hA 0 _ rfl;have eK:bw.length=n:=by rw [bb];exact hn
 have de:bw[b]? =_:=(congrArg (λq=>q[b]?) bb).trans hb;simp only [pS,Value.cells,Nat.reduceAdd,aV,aW,bn,bU,bK,cp,cq,fM,fN]at de;have jF:bw[H.jJ]? =_:=(congrArg (λq=>q[H.jJ]?) bb).trans hJ;have jG:bw[H.jB]? =_:=(congrArg (λq=>q[H.jB]?) bb).trans hB;have jI:bw[H.jS]? =_:=(congrArg (λq=>q[H.jS]?) bb).trans hS;have jK:bw[H.jM]? =_:=(congrArg (λq=>q[H.jM]?) bb).trans hM;have jO:bw[0]? =_:=(congrArg (λq=>q[0]?) bb).trans h0;have jT:bM M0 bw (KR H b):=by rw [bb];exact bM.refl _ _
 have df:=hF;rw [<- bb]at df;clear hA bb;refine au<|at_<|ar (al dd) rfl<|dt (mg (last:=st.last) eK de ah) (aE aa aM) lg trivial rfl (λmx my jU=>?_) (λ_ _ h=>h.elim)
 obtain⟨rfl,bx,dg⟩:=jU;simp only [pS,Value.cells,Nat.reduceAdd,aV,aW,bn,bU,bK,cp,cq,fM,fN]at dg;have eN:=bx.at_ jF cr;have eO:=bx.at_ jG cr;have eP:=bx.at_ jI cr;have eQ:=bx.at_ jK cr;have eR:=bx.at_ jO cr;have eS:=jT.trans bx lh;have eT:=df.all bx (λq_ h1_ h2_ h_=>df.miss de rfl q_ h1_ h2_ h_);obtain⟨cC,dh,mz⟩:=bx.len_ eK;refine aL (cy ll rfl dh) trivial rfl (λmA a8=>?_);have b1:=bu a8 dh;simp only [pS,Value.cells,Nat.reduceAdd,aV,aW,bn,bU,bK,cp,cq,fM,fN]at b1;have eU:=aK a8 dg;have eV:=aK a8 eN;have eX:=aK a8 eO;have eY:=aK a8 eP;have eZ:=aK a8 eQ;have e0:=aK a8 eR;have e3:=RestR.aK a8 eS;have e4:=bI.aK a8 eT;have jX:=br a8 dh;clear a8 dg eN eO eP eQ eR eS eT;refine aL (bP aa (ae aa) rfl rfl b1 lp rfl az) trivial rfl (λmB a9=>?_);have dj:=aZ a9 b1;simp only [pS,Value.cells,Nat.reduceAdd,aV,aW,bn,bU,bK,cp,cq,fM,fN]at dj;have b2:=aw a9 eU ah;have j0:=aw a9 eV ah;have j1:=aw a9 eX ah;have j3:=aw a9 eY ah;have j8:=aw a9 eZ ah;have j9:=aw a9 e0 ah;have ka:=RestR.aw a9 e3 ej;have kb:=bI.aw a9 e4 b1 rfl;have e5:=aX a9 jX;clear a9 b1 eU eV eX eY eZ e0 e3 e4;refine bq (aC (ae (ag dd))) (aC aa) ?_;clear dd;intro mC e6 dk;refine ao<|au<|at_<|ar (aI iv rfl dk) rfl<|ar (ax (aH xb rfl dj aa az) kF) rfl ?_
 refine ar (aB aa) rfl<|bJ (ae (ag e6)) (ae (ag dk)) aa ?_;clear e6 dk;intro mD dl e7 fa
 refine ao<|au<|bV<|au<|au<|at_<|ar (al dl) rfl<|ar (bH aa) rfl<|ar (aI eJ rfl aa) rfl<|ar (ax (aH xb rfl b2 aa az) kF) rfl ?_
 refine ar (fb aa ay) rfl<|ar (al aa) rfl<|bQ aa (λb6 dn=>?_) (λb6 dn=>?_)
 ·(rw [hk]at dn;simp at dn;done)
 refine aF ⟨_,rfl,.inl b6⟩ rfl ?_;refine aF ⟨_,rfl,.inl (ae b6)⟩ rfl ?_;refine ar (bG (ag b6) ay) rfl<|ar (aB aa) rfl<|bp (ag (aA dl)) (ag (aA e7)) (ag (aA fa)) aa ?_;clear b6 dl e7 fa;intro mE dp fc b9 fd
 refine ao<|hU fd<|at_<|ar (al dp) rfl<|ar (bH aa) rfl<|ar (aI eJ rfl aa) rfl<|ar (ax (aH xb rfl b2 aa az) kF) rfl ?_
 refine ar (eD aa ay) rfl<|ar (al aa) rfl<|bQ aa (λcb cc=>?_) (λcb cc=>?_)
 ·replace cc:=di cc;refine aG (al (ag (aj b9))) ⟨_,rfl,cb⟩ rfl ?_;refine aG (eD aa ay) ⟨_,rfl,(ae cb)⟩ rfl ?_;refine ar (bD (ag cb) aa) rfl<|ar (al aa) rfl<|bQ aa (λcd ce=>?_) (λcd ce=>?_)
  ·replace ce:=di ce;refine aG (al (ag (aA b9))) ⟨_,rfl,cd⟩ rfl ?_;refine aG (eD aa ay) ⟨_,rfl,(ae cd)⟩ rfl ?_;refine ar (bD (ag cd) aa) rfl<|ar (al aa) rfl<|bQ aa (λcg ci=>?_) (λcg ci=>?_)
   ·replace ci:=di ci;refine aG (al (ag (aj (aA b9)))) ⟨_,rfl,cg⟩ rfl ?_;refine aG (eD aa ay) ⟨_,rfl,(ae cg)⟩ rfl ?_;refine ar (bD (ag cg) aa) rfl<|ar (aB aa) rfl<|bp (ag (aJ dp)) (ag (aJ fc)) (ag (aJ b9)) aa ?_;clear cb cd cg dp fd fc b9;intro mF cD fe dr ff
    refine ao<|bj ff (λcj=>?_) (λcj=>?_)
    ·(simp only [toList_data]at cj;exact absurd cj aD)
    replace cj:=dm cj;refine au<|at_<|ar (al cD) rfl<|ar (bH aa) rfl<|ar (aI eJ rfl aa) rfl<|ar (ax (aH xb rfl b2 aa az) kF) rfl ?_
    refine ar (eD aa ay) rfl<|ar (al aa) rfl<|bQ aa (λbE ck=>?_) (λbE ck=>?_)
    ·replace ck:=di ck;refine aG (al (ag (aj cD))) ⟨_,rfl,bE⟩ rfl ?_;refine aG (al (ae (ag (aj dr)))) ⟨_,rfl,(ae bE)⟩ rfl ?_;refine dt (zi (last:=⟨cf,c0⟩) e5 b2 cf ho) (aE (ae aa) (aE aa aM)) rS ⟨_,rfl,(ag bE)⟩ rfl (λmG bL kc=>?_) (λ_ _ h=>h.elim);obtain⟨rfl,bc⟩:=kc;have bN:=bc.at_ dj dQ;have bO:=bc.at_ b2 dQ;have bR:=bc.at_ j0 dQ;have bS:=bc.at_ j1 dQ;have bW:=bc.at_ j3 dQ;have cE:=bc.at_ j8 dQ;have bY:=bc.at_ j9 dQ;have cH:=ka.trans bc AU;have du:=kb.all bc (λq_ h1_ h2_ h_=>h_.elim);obtain⟨bg,bA,mH⟩:=bc.len_ e5;refine aG (c8 aa) ⟨_,rfl,(ae (ag bE))⟩ rfl ?_;refine ar (bD (aj bE) aa) rfl<|ar (aB aa) rfl<|bp (aj (aA cD)) (aj (aA fe)) (aj (aA dr)) aa ?_;clear bE cD ff fe dr;intro fh ba mI bh kd
     refine ao<|bj kd (λcI=>?_) (λcI=>?_)
     ·cases cI
     replace cI:=dm cI;refine bC<|cK<|ao<|au<|gl (λe mem=>(ak e (.tmp 0)=ak fh (.tmp 0))/\(ak e (.tmp 3)=ak fh (.tmp 3))/\(mem[cC]? =bL[cC]?)/\(mem[b]? =bL[b]?)/\(mem[H.jJ]? =bL[H.jJ]?)/\(mem[H.jB]? =bL[H.jB]?)/\(mem[H.jS]? =bL[H.jS]?)/\(mem[0]? =bL[0]?)/\(∃ n,mem.length=n/\bg<=n)/\(∃ hs2:HL,mem[H.jM]? =some (.mp (fi hs2))/\bI mem hs2 (fg cf st.cnt st.ks st.cs).2 hs2.length/\hs2.map (·.1)=(fg cf st.cnt st.ks st.cs).1/\(∀ q,q<hs2.length->lo<=hN hs2 q)/\bM M0 mem (KR H b))) ?_ ?_
     ·
      have fj:=bN;have fk:=bO;have fl:=bR;have fm:=bS;have fo:=bW;have fp:=bY;refine(Classical.em (∃ q0,q0<H.hs.length/\hK H.hs q0=cf)).elim (λdv=>?_) (λdv=>?_)
      ·obtain⟨q0,hq0,hqk⟩:=dv;have hql:=hlt q0 hq0 ah;obtain⟨y1,y2,y3,y4,y5⟩:=hnf q0 hq0;have hcq:=hc q0;have y6:=z6 q0 hq0;obtain⟨fq,fs⟩:=du.take hq0;refine fZ 17 1 bA ai ai ai ai (λke ab=>?_);have ft:=bz ab bN;have cm:=bz ab bO;have fu:=bz ab bR;have fx:=bz ab bS;have fy:=bz ab bW;have dw:=bz ab cE;have fz:=bz ab bY;have fA:=RestR.bz ab cH;have fB:=bI.bz ab fs;have fC:=bz ab fq;have cM:ke[bg]? =_:=fS ab bA 0 rfl rfl;have kf:_=bg+1:=ga (K:=1) ab bA;clear ab bN bO bR bS bW cE bY cH fs fq bA;refine aR (λM_ hM_=>(al ba)) trivial ?_;refine aR (λM_ hM_=>(bH aa)) trivial ?_;refine aR (λM_ hM_=>(aI iw rfl aa)) trivial ?_;refine cG (b) (λM_ hM_=>(ax (aH wa rfl (cn hM_ cm aN) aa az) kF)) trivial trivial ?_;refine aR (λM_ hM_=>(al (aj bh))) trivial ?_;refine aR (λM_ hM_=>(al (ae (aj ba)))) trivial ?_;refine aR (λM_ hM_=>(bH aa)) trivial ?_;refine aR (λM_ hM_=>(aI iw rfl aa)) trivial ?_;refine cG (b) (λM_ hM_=>(ax (aH wa rfl (cn hM_ cm aN) aa az) kF)) trivial trivial ?_;refine aR (λM_ hM_=>(al (ae (aA bh)))) trivial ?_;refine cG (H.jM) (λM_ hM_=>(tj iI iJ (cn hM_ dw aN) (ae aa) aa (show(fi H.hs)[q0]? =some (cf,.own (hN H.hs q0))by rw [lP hq0,hqk]) hF.ov)) trivial trivial ?_;refine aR (λM_ hM_=>(al (ae (ag (aA ba))))) trivial ?_;refine aR (λM_ hM_=>(bH aa)) trivial ?_;refine aR (λM_ hM_=>(aI ji rfl aa)) trivial ?_;refine cG (b) (λM_ hM_=>(ax (aH Iu rfl (cn hM_ cm aN) aa az) kF)) trivial trivial ?_;refine aR (λM_ hM_=>(ez v8 (bB aa b8) rfl rfl rfl rfl)) trivial ?_;refine pf (bg) ((hN H.hs q0)) (λM_ hM_=>(nJ v8 rfl (cn hM_ fC aN) (ae (aj aa)) aa eL dP)) trivial cM rfl trivial ⟨.inl bo,⟨.inl bo,⟨.inl bo,⟨.inl bo,trivial⟩⟩⟩⟩ ⟨.inl bo,⟨.inl bo,⟨.inl bo,⟨.inl bo,trivial⟩⟩⟩⟩ (λmJ av=>?_);have dx:=po av cM;simp only [pS,Value.cells,Nat.reduceAdd,aV,aW,bn,bU,bK,cp,cq,fM,fN]at dx;have fD:=cL av ft ah ah;have fE:=cL av cm ah ah;have fG:=cL av fu ah ah;have fH:=cL av fx ah ah;have fI:=cL av fy ah ah;have cO:=cL av dw ah ah;have fJ:=cL av fz ah ah;have fK:=RestR.cL av fA xh ej;have fL:=bI.xB ah av fB cM rfl;have kg:=o4 av kf;clear av ft cm fu fx fy dw fz fA fB fC cM;refine gn rfl ?_;refine aL (wI iI iJ cO (ae (aj (aA aa))) (aj (aA aa)) aa (show(fi H.hs)[q0]? =some (cf,.own (hN H.hs q0))by rw [lP hq0,hqk]) hF.ov) trivial rfl (λmK aO=>?_);have fO:=aZ aO cO;simp only [pS,Value.cells,Nat.reduceAdd,aV,aW,bn,bU,bK,cp,cq,fM,fN]at fO;have kh:=aw aO dx ah;have ki:=aw aO fD ah;have kj:=aw aO fE ah;have km:=aw aO fG ah;have kn:=aw aO fH ah;have ko:=aw aO fI ah;have kp:=aw aO fJ ah;have kq:=RestR.aw aO fK gR;have kr:=bI.aw aO fL cO rfl;have kt:=aX aO kg;clear aO dx fD fE fG fH fI cO fJ fK fL;refine bq (aC (ae (aJ ba))) (aC (ae (aJ bh))) ?_;intro mL ku kv;refine ao ⟨(ku).trans (ba).symm,(kv).trans (bh).symm,ki.trans fj.symm,kj.trans fk.symm,km.trans fl.symm,kn.trans fm.symm,ko.trans fo.symm,kp.trans fp.symm,⟨_,kt,ah⟩,?_⟩
       (have hadd:=tr (c:=st.cnt) H.hs st.cs q0 hF.len hq0 hqk (λp hp e=>absurd (hF.key p q0 ah hq0 (e.trans hqk.symm)) ah);rw [hR.keys]at hadd;rw [hadd];exact⟨_,fO,kr.put hq0 hqk kh (λq hq=>oU),(vW hq0 hqk).trans hR.keys,(λq hq=>by rw [XU]at hq;rw [qB hq0];split<;>first|exact hlo.2.2.2.2.2 q hq|(show lo<=bg;omega)),kq⟩)
      ·have hqm:=xE dv;refine fZ 17 1 bA ai ai ai ai (λkw aP=>?_);have fP:=bz aP bN;have co:=bz aP bO;have fQ:=bz aP bR;have fR:=bz aP bS;have fT:=bz aP bW;have dy:=bz aP cE;have fU:=bz aP bY;have fV:=RestR.bz aP cH;have fW:=bI.bz aP du;have cP:kw[bg]? =_:=fS aP bA 0 rfl rfl;have kx:_=bg+1:=ga (K:=1) aP bA;clear aP bN bO bR bS bW cE bY cH du bA;refine aR (λM_ hM_=>(al ba)) trivial ?_;refine aR (λM_ hM_=>(bH aa)) trivial ?_;refine aR (λM_ hM_=>(aI iw rfl aa)) trivial ?_;refine cG (b) (λM_ hM_=>(ax (aH wa rfl (cn hM_ co aN) aa az) kF)) trivial trivial ?_;refine aR (λM_ hM_=>(al (aj bh))) trivial ?_;refine aR (λM_ hM_=>(al (ae (aj ba)))) trivial ?_;refine aR (λM_ hM_=>(bH aa)) trivial ?_;refine aR (λM_ hM_=>(aI iw rfl aa)) trivial ?_;refine cG (b) (λM_ hM_=>(ax (aH wa rfl (cn hM_ co aN) aa az) kF)) trivial trivial ?_;refine aR (λM_ hM_=>(al (ae (aA bh)))) trivial ?_;refine cG (H.jM) (λM_ hM_=>(vC iI iJ wZ (cn hM_ dy aN) (ae aa) aa (oL hqm))) trivial trivial ?_;refine aR (λM_ hM_=>(al (ae (ag (aA ba))))) trivial ?_;refine aR (λM_ hM_=>(bH aa)) trivial ?_;refine aR (λM_ hM_=>(aI ji rfl aa)) trivial ?_;refine cG (b) (λM_ hM_=>(ax (aH Iu rfl (cn hM_ co aN) aa az) kF)) trivial trivial ?_;refine aR (λM_ hM_=>(ez v8 (bB aa b8) rfl rfl rfl rfl)) trivial ?_;refine kL (bg) (λM_ hM_=>(wy v8 rfl (ae (aj aa)) aa eL dP)) trivial cP rfl trivial ⟨.inl bo,⟨.inl bo,⟨.inl bo,⟨.inl bo,trivial⟩⟩⟩⟩ (λmM aQ=>?_);have dz:=aZ aQ cP;simp only [pS,Value.cells,Nat.reduceAdd,aV,aW,bn,bU,bK,cp,cq,fM,fN]at dz;have fX:=aw aQ fP ah;have fY:=aw aQ co ah;have f0:=aw aQ fQ ah;have gb:=aw aQ fR ah;have gc:=aw aQ fT ah;have cQ:=aw aQ dy ah;have gd:=aw aQ fU ah;have ge:=RestR.aw aQ fV ej;have gf:=bI.aw aQ fW cP rfl;have ky:=aX aQ kx;clear aQ fP co fQ fR fT dy fU fV fW cP;refine gn rfl ?_;refine aL (wJ iI iJ cQ (ae (aj (aA aa))) (aj (aA aa)) aa (oL hqm)) trivial rfl (λmN aS=>?_);have gg:=aZ aS cQ;simp only [pS,Value.cells,Nat.reduceAdd,aV,aW,bn,bU,bK,cp,cq,fM,fN]at gg;have kz:=aw aS dz ah;have kA:=aw aS fX ah;have kB:=aw aS fY ah;have kC:=aw aS f0 ah;have kD:=aw aS gb ah;have kH:=aw aS gc ah;have kI:=aw aS gd ah;have kJ:=RestR.aw aS ge gR;have kM:=bI.aw aS gf cQ rfl;have kN:=aX aS ky;clear aS dz fX fY f0 gb gc cQ gd ge gf;refine bq (aC (ae (aJ ba))) (aC (ae (aJ bh))) ?_;intro mO kO kP;refine ao ⟨(kO).trans (ba).symm,(kP).trans (bh).symm,kA.trans fj.symm,kB.trans fk.symm,kC.trans fl.symm,kD.trans fm.symm,kH.trans fo.symm,kI.trans fp.symm,⟨_,kN,ah⟩,?_⟩
       (have hadd:=s7 (k:=cf) (c:=st.cnt) H.hs st.cs hF.len hqm;rw [hR.keys]at hadd;rw [hadd];exact⟨_,gg,kM.more hqm kz (λq hq=>oU),xi,(λq hq=>by rw [qC];split<;>first|exact hlo.2.2.2.2.2 q (by assumption)|(rw [if_pos (by simp at hq;omega)];show lo<=bg;omega)),kJ⟩)
     ·rintro mQ mR ⟨kQ,kR,kS,kT,kU,kV,kW,kX,⟨kY,dA,mS⟩,⟨hs2,moM2,hF2,hks2,hlo2,hR2⟩⟩;have gh:=kQ.trans ba;have dB:=kR.trans bh;have k0:=kS.trans bN;have gi:=kT.trans bO;have k2:=kU.trans bR;have k4:=kV.trans bS;have k5:=kW.trans bW;have k6:=kX.trans bY;refine au<|au<|at_<|ar (al dB) rfl<|bJ (ae gh) (ae dB) aa ?_;clear gh dB;intro mT gj gk dC
      refine ao<|bV<|au<|at_<|ar (fb dC ay) rfl<|ar (aB aa) rfl<|bp (ag gj) (ag gk) (ag dC) aa ?_;clear gj gk dC;intro mU gm gp dD gq
      refine ao<|bj gq (λdE=>?_) (λdE=>?_)
      ·(simp only [toList_data]at dE;exact absurd dE aD)
      refine au<|at_<|ar (fb dD ay) rfl<|ar (aB aa) rfl<|bp (ag gm) (ag gp) (ag dD) aa ?_;clear gm gq gp dD;intro mV gr gt gx gy
      refine ao<|bj gy (λdF=>?_) (λdF=>?_)
      ·(simp only [toList_data]at dF;exact absurd dF aD)
      refine au<|at_<|ar (fb gx ay) rfl<|ar (aB aa) rfl<|bJ (ag gr) (ag gt) aa ?_;clear gr gy gt gx;intro mW dG gz gA
      refine ao<|bj gA (λdH=>?_) (λdH=>?_)
      ·(simp only [toList_data]at dH;exact absurd dH aD)
      refine au ?_;obtain⟨nz,hnz⟩:∃ z,z=kY:=⟨_,rfl⟩;have hlt2:=hF2.lt (dA.trans hnz.symm);have hnz2:n<=nz:=by omega
      refine at_<|ar (al dG) rfl<|dt (En (last:=⟨cf,c0⟩) (ws:=ws) dA gi hW) (aE aa aM) IE trivial rfl (λmX mY dI=>?_) (λmZ m0 dI=>?_)
      rotate_left
      ·
       repeat (first|refine eA ?_|refine gJ ?_)
       (rcases dI with⟨ha_,rfl,hz_⟩;exact⟨_,rfl,_,_,ha_,mP (by rw [pM];exact Eo ha_) ha_,rfl,hR2.trans hz_ kE⟩)
      obtain⟨hnm,rfl,bk,dJ⟩:=dI;have gB:=bk.at_ k0 cr;simp only [pS,Value.cells,Nat.reduceAdd,aV,aW,bn,bU,bK,cp,cq,fM,fN]at dJ;have gC:=bk.at_ k2 cr;have gD:=bk.at_ k4 cr;have gE:=bk.at_ k5 cr;have gF:=bk.at_ k6 cr;have gG:=bk.at_ moM2 cr;have gH:=hF2.all bk (λq_ h1_ h2_ h_=>hF2.miss gi rfl q_ h1_ h2_ h_);have gI:=hR2.trans bk lh;obtain⟨dK,dL,m1⟩:=bk.len_ dA;refine ar (dq (bB aa b8) Rr Rt Ru rfl) rfl ?_;refine aL (cy nM rfl dL) trivial rfl (λm2 aT=>?_);have cu:=bu aT dL;simp only [pS,Value.cells,Nat.reduceAdd,aV,aW,bn,bU,bK,cp,cq,fM,fN]at cu;have gL:=aK aT gB;have gM:=aK aT dJ;have gN:=aK aT gC;have gO:=aK aT gD;have gP:=aK aT gE;have gQ:=aK aT gF;have gS:=aK aT gG;have gT:=bI.aK aT gH;have gU:=RestR.aK aT gI;have k7:=br aT dL;clear aT gB dJ gC gD gE gF gG gH gI;refine aL (bP aa (ae aa) rfl rfl cu nN rfl az) trivial rfl (λm3 aY=>?_);have gV:=aZ aY cu;simp only [pS,Value.cells,Nat.reduceAdd,aV,aW,bn,bU,bK,cp,cq,fM,fN]at gV;have k8:=aw aY gL ah;have gW:=aw aY gM ah;have lb:=aw aY gN ah;have lc:=aw aY gO ah;have ld:=aw aY gP ah;have gY:=aw aY gQ ah;have lf:=aw aY gS ah;have gZ:=bI.aw aY gT cu rfl;have g0:=RestR.aw aY gU ej;have g1:=aX aY k7;clear aY cu gL gM gN gO gP gQ gS gT gU;refine bJ (aC (aj dG)) (aC (aj gz)) (aC aa) ?_;clear dG gA gz;intro m4 dM g2 dN;refine ao<|au<|at_<|ar (al dM) rfl<|dt (nu (last:=cN ws) (ws:=ws.tail) g1 hes her gY gW (hW.tail (AE hnm)) false) (aE aa (aE ay aM)) nF trivial rfl (λm5 m6 dO=>?_) (λm7 m8 dO=>?_)
      rotate_left
      ·
       repeat (first|refine eA ?_|refine gJ ?_)
       (rcases dO with⟨ha_,rfl,hz_⟩;exact⟨_,rfl,_,_,ha_,mP (by rw [pM,qe hnm];exact GI ha_) ha_,rfl,g0.trans hz_ kE⟩)
      obtain⟨hn1,rfl,be,dR⟩:=dO;have cT:=be.at_ gV cr;have g3:=be.at_ k8 cr;simp only [pS,Value.cells,Nat.reduceAdd,aV,aW,bn,bU,bK,cp,cq,fM,fN]at dR;have g4:=be.at_ lb cr;have g5:=be.at_ lc cr;have g6:=be.at_ ld cr;have g7:=be.at_ gY cr;have g8:=be.at_ lf cr;have g9:=gZ.all be (λq_ h1_ h2_ h_=>gZ.miss gW rfl q_ h1_ h2_ h_);have hh:=g0.trans be lh;obtain⟨li,lj,m9⟩:=be.len_ g1;refine ar (aI jN rfl (ag dN)) rfl<|aL (bP aa (ae aa) rfl rfl cT iK rfl az) trivial rfl (λna a2=>?_)
      have dW:=aZ a2 cT;simp only [pS,Value.cells,Nat.reduceAdd,aV,aW,bn,bU,bK,cp,cq,fM,fN]at dW;have lk:=aw a2 g3 ah;have ln:=aw a2 dR ah;have lq:=aw a2 g4 ah;have lr:=aw a2 g5 ah;have lu:=aw a2 g6 ah;have lv:=aw a2 g7 ah;have lw:=aw a2 g8 ah;have lx:=bI.aw a2 g9 cT rfl;have ly:=RestR.aw a2 hh ej;have dX:=aX a2 lj;clear a2 cT g3 dR g4 g5 g6 g7 g8 g9 hh;refine bJ (aC (ae (ag dM))) (aC (ae (ag g2))) (aC (ae (ag dN))) ?_;clear dM g2 dN;intro nb dY hv dZ;refine ao<|au<|sV 3 1 2 dW rfl dX (λnc nd ad af=>?_)
      have hC:=bu ad dX;have lA:=aw af hC ah;have hD:=aK ad dW;have ea:=aZ af hD;simp only [Yi,Ya]at ea;have hE:=aK ad lk;have lB:=aw af hE ah;have hG:=aK ad ln;have hH:=aw af hG ah;have hI:=aK ad lq;have lC:=aw af hI ah;have hO:=aK ad lr;have lD:=aw af hO ah;have hP:=aK ad lu;have lE:=aw af hP ah;have hQ:=aK ad lv;have hV:=aw af hQ ah;have hY:=aK ad lw;have lF:=aw af hY ah;have hZ:=bI.aK ad lx;have h6:=bI.nL hZ af AX;have h7:=RestR.aK ad ly;have h8:=RestR.aw af h7 ej;have h9:=br ad dX;have ia:_=li+1:=aX af h9;clear ad af h9 hC hD hE hG hI hO hP hQ hY hZ h7;refine Wq ia ai ai ai ai ai dZ dY ea lA ah ah aN nF (nu (last:=cN ws.tail) (ws:=ws.tail.tail) ia hes her hV hH ((hW.tail (AE hnm)).tail (lJ hn1)) true) (λu_ M_ e_ h_=>by(repeat (first|refine eA ?_|refine gJ ?_));rcases h_ with⟨ha_,rfl,hz_⟩;exact⟨_,rfl,_,_,ha_,mP (by rw [pM,qe hnm,qn hn1];exact zM ha_) ha_,rfl,h8.trans hz_ kE⟩) (λhn2 lG nf lH ng bm eb cU=>?_);have cW:=bm.at_ ea kG;have ib:=bm.at_ lB kG;have ic:=bm.at_ lC kG;have ie:=bm.at_ lD kG;have ig:=bm.at_ lE kG;have ih:=bm.at_ hV kG;have ij:=bm.at_ lF kG;have ik:=h6.all bm (λq_ h1_ h2_ h_=>by rcases h_ with h_|h_<;>first|exact absurd h_ (h6.miss hH rfl q_ h1_ h2_)|(revert h_;(have:=hlt2 q_ h1_ ah;omega)));have il:=h8.trans bm IJ;simp only [pS,Value.cells,Nat.reduceAdd,aV,aW,bn,bU,bK,cp,cq,fM,fN]at eb;simp only [pS,Value.cells,Nat.reduceAdd,aV,aW,bn,bU,bK,cp,cq,fM,fN]at cU;refine aL (l6 aa (ae aa) cW cU uB az) trivial rfl (λbZ am=>?_);have im:=aZ am cW;simp only [pS,Value.cells,Nat.reduceAdd,aV,aW,bn,bU,bK,cp,cq,fM,fN]at im;have io:=aw am ib ah;have ip:=aw am ic ah;have iq:=aw am ie ah;have ir:=aw am ig ah;have iu:=aw am ih ah;have ix:=aw am ij ah;have lI:=bI.aw am ik cW rfl;have lK:=RestR.aw am il ej;have lL:=aw am eb ah;have lM:=aw am cU ah;have lN:=aX am lH;clear am cW ib ic ie ig ih ij ik il eb cU;refine bJ (aC (ae (ag (aj dY)))) (aC (ae (ag (aj hv)))) (aC (ae (ag (aj dZ)))) ?_;clear dY hv dZ;intro ec iz iA iB;refine ao<|au<|bV<|eu (S:=(Nat×List Int×List Wd×Wd)) (λs e mem=>match s with|⟨k,vs,zs,lz⟩=>(ak e (.tmp 0)=ak ec (.tmp 0))/\(ak e (.tmp 3)=ak ec (.tmp 3))/\(ak e (.tmp 9)=ak ec (.tmp 9))/\(mem[dK]? =some (.box 97 [.v (.string (cN ws).txt),.v (.int .i64 (eG (cN ws.tail))),.own k]))/\(mem[k]? =some (.row 3 1 (vs.map iE)))/\(mem[b]? =some (.box 77 (aV st.nam (.own H.jJ) (.own H.jB) (.own H.jS) (.own H.jM) st.cnt zs lz st.kind)))/\(mem[cC]? =bZ[cC]?)/\(mem[H.jJ]? =bZ[H.jJ]?)/\(mem[H.jB]? =bZ[H.jB]?)/\(mem[H.jS]? =bZ[H.jS]?)/\(mem[0]? =bZ[0]?)/\(mem[H.jM]? =bZ[H.jM]?)/\(∃ n,mem.length=n/\lG+1<=n)/\((ws.tail.tail.map eG=vs++zs.map eG/\jd cf ⟨cf,c0⟩ ws=lZ true zs/\jH lz zs/\vs.length+zs.length<=200000/\nz<=k/\k≠dK/\bI mem hs2 (fg cf st.cnt st.ks st.cs).2 hs2.length/\bM M0 mem (KR H b)))) (λs=>match s with|⟨k,vs,zs,lz⟩=>zs.length) ⟨_,[eG (cN ws.tail.tail)],ws.tail.tail.tail,cN ws.tail.tail⟩ ⟨rfl,rfl,rfl,im,lM,lL,rfl,rfl,rfl,rfl,rfl,rfl,⟨_,lN,Xf _⟩,?_⟩ ?_
      ·(exact⟨BA (lJ hn2),(by rw [xC (by rw [pM,qe hnm,qn hn1,k9 hn2];rfl),GK,pM];exact congrArg (lZ true) (Ku ws)),((hW.tail (AE hnm)).tail (lJ hn1)).tail (lJ hn2),cJ,ah,ah,lI,lK⟩)
      ·rintro⟨k,vs,zs,lz⟩ ni nj ⟨lO,lQ,lR,cv,ed,cw,lS,lT,lU,lV,lW,lX,⟨cx,ef,nk⟩,hinv⟩;have eg:=lO.trans iz;have iC:=lQ.trans iA;have iD:=lR.trans iB;have eh:=lS.trans io;have ei:=lT.trans ip;have ek:=lU.trans iq;have en:=lV.trans ir;have cX:=lW.trans iu;have eo:=lX.trans ix
       (obtain⟨hvs,hbh,hzs,hvl,hnk,hnk9,hF3,hR3⟩:=hinv;have hzl:=hzs.len)
       refine au<|au<|at_<|ar (al eg) rfl<|ar (bH aa) rfl<|ar (aI jL rfl aa) rfl<|ar (ax (aH GX rfl cw aa az) kF) rfl ?_
       refine ar (ax (ca aa rfl GW.1) b7) rfl ?_;refine ar (ey aa ay) rfl<|bp (ag (aj eg)) (ag (aj iC)) (ag (aj iD)) aa ?_;clear eg iC iD;intro nl bF cY cz ep
       refine ao<|bj ep (λcA=>?_) (λcA=>?_)
       ·replace cA:=bt cA;refine bC<|ao<|bV<|Ws ef ai ai ai ai ai cz bF cv ed ah ah cJ nF (nu (last:=lz) (ws:=zs) ef hes her cX cw hzs true) (λu_ M_ e_ h_=>by(repeat (first|refine eA ?_|refine gJ ?_));rcases h_ with⟨ha_,rfl,hz_⟩;exact⟨_,rfl,_,_,ha_,hbh.trans (UQ ah ha_),rfl,hR3.trans hz_ kE⟩) (λhn3 lY nm l1 nn bv ev cZ=>?_)
        have c6:=bv.at_ cv kG;have iF:=bv.at_ eh kG;have iG:=bv.at_ ei kG;have iH:=bv.at_ ek kG;have iL:=bv.at_ en kG;have iM:=bv.at_ cX kG;have iN:=bv.at_ eo kG;have iO:=hF3.all bv (λq_ h1_ h2_ h_=>by rcases h_ with h_|h_<;>first|exact absurd h_ (hF3.miss cw rfl q_ h1_ h2_)|(revert h_;(have:=hlt2 q_ h1_ ah;omega)));have iP:=hR3.trans bv IJ;simp only [pS,Value.cells,Nat.reduceAdd,aV,aW,bn,bU,bK,cp,cq,fM,fN]at ev;simp only [pS,Value.cells,Nat.reduceAdd,aV,aW,bn,bU,bK,cp,cq,fM,fN]at cZ;refine aL (l6 aa (ae aa) c6 cZ uB az) trivial rfl (λnp an=>?_);have iQ:=aZ an c6;simp only [pS,Value.cells,Nat.reduceAdd,aV,aW,bn,bU,bK,cp,cq,fM,fN]at iQ;have l3:=aw an iF ah;have l4:=aw an iG ah;have l5:=aw an iH ah;have l7:=aw an iL ah;have l8:=aw an iM ah;have l9:=aw an iN ah;have ma:=bI.aw an iO c6 rfl;have mb:=RestR.aw an iP ej;have mc:=aw an ev ah;have md:=aw an cZ ah;have me:=aX an l1;clear an c6 iF iG iH iL iM iN iO iP ev cZ;refine bJ (aC (ae (ag (aj bF)))) (aC (ae (ag (aj cY)))) (aC (ae (ag (aj cz)))) ?_;clear bF cY ep cz;intro nq mf mh mi;refine cK<|ao<|⟨⟨lY,vs++ [eG (cN zs)],zs.tail,cN zs⟩,⟨(mf.trans iz.symm),(mh.trans iA.symm),(mi.trans iB.symm),iQ,md,mc,(l3.trans io.symm),(l4.trans ip.symm),(l5.trans iq.symm),(l7.trans ir.symm),(l8.trans iu.symm),(l9.trans ix.symm),⟨_,me,ah⟩,?_⟩,?_⟩
        ·(exact⟨(by rw [hvs,BA (lJ hn3)];simp),hbh.trans (Jm hn3),hzs.tail (lJ hn3),cJ,ah,ah,ma,mb⟩)
        ·((try dsimp only);(simp;omega))
       replace cA:=bf cA;refine dV<|cB<|cB<|dU<|ao<|Dp 2 cv ed ah rfl (λnr a3=>?_)
       have ew:=aZ a3 (aw rfl cv ah);simp only [Yi,Ya]at ew;have iR:=aw a3 (aw rfl cw ah) ah;have iS:=aw a3 (aw rfl eh ah) ah;have iT:=aw a3 (aw rfl ei ah) ah;have iU:=aw a3 (aw rfl ek ah) ah;have iV:=aw a3 (aw rfl en ah) ah;have iW:=aw a3 (aw rfl cX ah) ah;have iX:=aw a3 (aw rfl eo ah) ah;have iZ:=bI.nL (bI.nL hF3 rfl AX) a3 AX;have i6:=RestR.aw a3 (RestR.aw rfl hR3 ej) ej;have c7:=aX a3 (aX rfl ef);clear a3 cv ed cw eh ei ek en cX eo hF3 hR3;obtain rfl:zs= []:=Yy.1 ah;obtain rfl:vs=ws.tail.tail.map eG:=by rw [hvs];simp
       refine fZ 9 1 c7 ai ai ai ai (λmj ap=>?_);have eB:=bz ap ew;have eC:=bz ap iR;have i7:=bz ap iS;have i8:=bz ap iT;have ja:=bz ap iU;have eE:=bz ap iV;have jb:=bz ap iW;have jc:=bz ap iX;have je:=bI.bz ap iZ;have jf:=RestR.bz ap i6;have c9:mj[cx]? =_:=fS ap c7 0 rfl rfl;have ml:_=cx+1:=ga (K:=1) ap c7;clear ap ew iR iS iT iU iV iW iX iZ i6 c7;refine aR (λM_ hM_=>(al bF)) trivial ?_;refine aR (λM_ hM_=>(al (ae bF))) trivial ?_;refine aR (λM_ hM_=>(bH aa)) trivial ?_;refine aR (λM_ hM_=>(aI kZ rfl aa)) trivial ?_;refine aR (λM_ hM_=>(aI eW rfl aa)) trivial ?_;refine cG (b) (λM_ hM_=>(ax (aH Rw rfl (cn hM_ eC aN) aa az) kF)) trivial trivial ?_;refine cG (dK) (λM_ hM_=>(ax (aH Rx rfl (cn hM_ eB aN) (ag (aj cz)) az) kF)) trivial trivial ?_;refine aR (λM_ hM_=>(ez GV (bB aa b8) rfl rfl rfl rfl)) trivial ?_;refine pf (cx) (H.jS) (λM_ hM_=>(nJ GV rfl (cn hM_ eE aN) (ag aa) aa eL dP)) trivial c9 rfl trivial ⟨.inl bo,⟨.inl bo,trivial⟩⟩ ⟨.inl bo,⟨.inl bo,trivial⟩⟩ (λnt a5=>?_);have da:=po a5 c9;simp only [pS,Value.cells,Nat.reduceAdd,aV,aW,bn,bU,bK,cp,cq,fM,fN]at da;have jg:=cL a5 eB ah ah;have db:=cL a5 eC ah ah;have jh:=cL a5 i7 ah ah;have jj:=cL a5 i8 ah ah;have jk:=cL a5 ja ah ah;have jl:=cL a5 jb ah ah;have jm:=cL a5 jc ah ah;have jn:=bI.cL a5 je eE rfl c9 rfl;have jo:=RestR.cL a5 jf gR ej;have mm:=o4 a5 ml;clear a5 eB eC i7 i8 ja eE jb jc je jf c9;refine gn rfl ?_;refine ar (bH (aA aa)) rfl<|ar (aI kZ rfl aa) rfl<|ar (aI eW rfl aa) rfl<|aL (l6 aa (ae (ag aa)) db da BN az) trivial rfl (λnv a6=>?_)
       have b0:=aZ a6 db;simp only [pS,Value.cells,Nat.reduceAdd,aV,aW,bn,bU,bK,cp,cq,fM,fN]at b0;have jp:=aw a6 da ah;have jq:=aw a6 jg ah;have jr:=aw a6 jh ah;have js:=aw a6 jj ah;have jt:=aw a6 jk ah;have ju:=aw a6 jl ah;have jv:=aw a6 jm ah;have jw:=bI.aw a6 jn db rfl;have jx:=RestR.aw a6 jo gR;have mn:=aX a6 mm;clear a6 da jg db jh jj jk jl jm jn jo;refine bq (aC (aj (aA bF))) (aC (aj (aA cY))) ?_;clear bF cY ep cz;intro nw eF jy;refine cK<|ao<|au<|au<|at_<|ar (al eF) rfl<|ar (bH aa) rfl<|ar (aI jL rfl aa) rfl<|ar (ax (aH GX rfl b0 aa az) kF) rfl ?_
       refine ar (ax (ca aa rfl GW.1) b7) rfl ?_;refine ar (ey aa ay) rfl<|bJ (ag (aj eF)) (ag (aj jy)) aa ?_;clear eF jy;intro nx jz jA jC
       refine ao<|bj jC (λdc=>?_) (λdc=>?_)
       ·cases dc
       replace dc:=bf dc;refine bC<|ao<|at_<|ar (al jz) rfl<|ar (al (ae jA)) rfl<|ar (bH (ae aa)) rfl<|ar (aI eJ rfl aa) rfl<|aL (bP aa (ag aa) rfl rfl b0 qP rfl az) trivial rfl (λny a7=>?_)
       have jD:=aZ a7 b0;simp only [pS,Value.cells,Nat.reduceAdd,aV,aW,bn,bU,bK,cp,cq,fM,fN]at jD;have mo:=aw a7 jp ah;have nA:=aw a7 jq ah;have nB:=aw a7 jr ah;have mq:=aw a7 js ah;have mr:=aw a7 jt ah;have nC:=aw a7 ju ah;have mu:=aw a7 jv ah;have mv:=bI.aw a7 jw b0 rfl;have mw:=RestR.aw a7 jx gR;have nD:=aX a7 mn;clear a7 b0 jp jq jr js jt ju jv jw jx;refine nh ?_;clear jz jC jA;intro nE;refine⟨_,nR ai,?_⟩;exact⟨hbh,rfl,⟨H.jM,H.jJ,H.jB,cx,hs2⟩,lz,⟨jD,mq,mr,mo,mu,mv,hks2,⟨hlo.1,hlo.2.1,by show lo<=H.jJ;omega,by show lo<=H.jB;omega,by show lo<=cx;omega,hlo2⟩⟩,mw⟩
    ·(rw [hk]at ck;simp at ck;done)
   ·(simp only [toList_data]at ci;exact absurd ci aD)
  ·(simp only [toList_data]at ce;exact absurd ce aD)
 ·(rw [hk]at cc;simp at cc;done)
theorem tX:aQ Tryz.prog 3 false 1:=⟨ai,ai⟩
theorem nE:aQ Tryz.prog 9 false 1:=⟨ai,ai⟩
section
variable {M0:List Ob} {n:Nat} (hn:M0.length=n) {b:Nat} {nam:ByteArray} {J B S M:AV} {cnt:Int} {w:Wd} {ws:List Wd} {last:Wd} {kind:ByteArray}
include hn
theorem zO(hb:M0[b]? =some (.box aW (aV nam J B S M cnt ws last kind)))(k:ByteArray)(t:Bool)(h:iY kind k=t):ee Tryz.prog 67 [.ptr b 0,.v (.string k)] M0 (λr m'=>r=dK t/\bM M0 m' (λ_=>False)) (λ_ _=>False):=by
 have:=GG hn hb k;rw [h]at this;exact this
theorem Ep(hb:M0[b]? =some (.box aW (aV nam J B S M cnt (w::ws) last kind)))(hl:ws.length<=1000000)(h:(kind.toList==(⟨#[]⟩:ByteArray).toList && !(w.txt.toList==(⟨#[108,105,110,101]⟩:ByteArray).toList)|| !(kind.toList==(⟨#[]⟩:ByteArray).toList)&& !(w.txt.toList==(⟨#[106,111,105,110,116]⟩:ByteArray).toList)&& !(w.txt.toList==(⟨#[98,101,97,109]⟩:ByteArray).toList)&& !(w.txt.toList==(⟨#[115,119,105,116,99,104]⟩:ByteArray).toList))=true):
 ee Tryz.prog 30 [.ptr b 0] M0 (λ_ _=>False) (λv m'=>v=gu cnt w.col 7/\bM M0 m' (λj=>j=b)):=by
 have hbn:=cV hb hn;refine gw (fn:=Tryz.f30) 193 ai rfl ai aU ?_;intro bF aT hA aO;have aY:ak bF (.tmp 0)=_:=hA 0 _ rfl;have be:aT.length=n:=by rw [aO];exact hn
 have bf:aT[b]? =_:=(congrArg (λq=>q[b]?) aO).trans hb;simp only [pS,Value.cells,Nat.reduceAdd,aV,aW,bn]at bf;have bI:bM M0 aT (λj=>j=b):=by rw [aO];exact bM.refl _ _
 clear hA aO;refine au<|at_<|ar (al aY) rfl<|dt (mg (J:=J) (B:=B) (S:=S) (M:=M) (nam:=nam) (cnt:=cnt) (w:=w) (ws:=ws) (last:=last) (kind:=kind) be bf hl) (aE aa aM) lg trivial rfl (λbZ b0 bL=>?_) (λ_ _ h=>h.elim)
 obtain⟨rfl,bg,a2⟩:=bL;simp only [pS,Value.cells,Nat.reduceAdd,aV,aW,bn]at a2;have bh:=bI.trans bg qt;obtain⟨b1,a3,b2⟩:=bg.len_ be;refine aL (cy ll rfl a3) trivial rfl (λb6 ad=>?_);have aP:=bu ad a3;simp only [pS,Value.cells,Nat.reduceAdd,aV,aW,bn]at aP;have bk:=aK ad a2;have bm:=RestR.aK ad bh;have bN:=br ad a3;clear ad a2 bh;refine aL (bP aa (ae aa) rfl rfl aP lp rfl az) trivial rfl (λb7 af=>?_);have aQ:=aZ af aP;simp only [pS,Value.cells,Nat.reduceAdd,aV,aW,bn]at aQ;have aR:=aw af bk ah;have bo:=RestR.aw af bm ej;have bv:=aX af bN;clear af aP bk bm;refine bq (aC (ae (ag aY))) (aC aa) ?_;clear aY;intro b8 bw a5;refine ao<|au<|at_<|ar (aI iv rfl a5) rfl<|ar (ax (aH nE rfl aQ aa az) dz) rfl ?_
 refine ar (aB aa) rfl<|bJ (ae (ag bw)) (ae (ag a5)) aa ?_;clear bw a5;intro b9 am aS an
 refine ao<|au<|bV<|au<|au<|at_<|ar (al am) rfl<|ar (bH aa) rfl<|ar (aI eJ rfl aa) rfl<|ar (ax (aH nE rfl aR aa az) dz) rfl ?_
 refine ar (fb aa ay) rfl<|ar (al aa) rfl<|bQ aa (λab bO=>?_) (λab bO=>?_)
 ·skip;refine aG (al (ag (aj an))) ⟨_,rfl,ab⟩ rfl ?_;refine aG (eD aa ay) ⟨_,rfl,(ae ab)⟩ rfl ?_;refine ar (bD (ag ab) aa) rfl<|ar (aB aa) rfl<|bp (ag (aA am)) (ag (aA aS)) (ag (aA an)) aa ?_;clear ab am aS an;intro ca bR bS cb bx
  refine ao<|bj bx (λa6=>?_) (λa6=>?_)
  ·replace a6:=di a6;refine bC<|ao<|bj bx (λa7=>?_) (λa7=>?_)
   ·replace a7:=di a7;refine at_<|ar (al bR) rfl<|ar (aI kB rfl (ae bS)) rfl<|ar (ax (aH tX rfl aQ aa az) dz) rfl ?_
    refine dt (iC (J:=J) (B:=B) (S:=S) (M:=M) (nam:=nam) (cnt:=cnt) (ws:=ws) (last:=w) (kind:=kind) bv aR _ _) (aE (ag aa) (aE aa (aE ay aM))) iD trivial rfl (λ_ _ h=>h.elim) (λcc cd bz=>?_)
    repeat (first|refine eA ?_|refine gJ ?_)
    exact⟨_,rfl,bz.1,bo.trans bz.2 jo⟩
   ·(simp_all;done)
  ·(simp_all;done)
 refine aF ⟨_,rfl,.inl ab⟩ rfl ?_;refine aF ⟨_,rfl,.inl (ae ab)⟩ rfl ?_;refine ar (bG (ag ab) ay) rfl<|ar (aB aa) rfl<|bp (ag (aA am)) (ag (aA aS)) (ag (aA an)) aa ?_;clear ab am aS an;intro ce a8 bA ap bB
 refine ao<|hU bB<|at_<|ar (al a8) rfl<|ar (bH aa) rfl<|ar (aI eJ rfl aa) rfl<|ar (ax (aH nE rfl aR aa az) dz) rfl ?_
 refine ar (eD aa ay) rfl<|ar (al aa) rfl<|bQ aa (λav a9=>?_) (λav a9=>?_)
 ·replace a9:=di a9;refine aG (al (ag (aj ap))) ⟨_,rfl,av⟩ rfl ?_;refine aG (eD aa ay) ⟨_,rfl,(ae av)⟩ rfl ?_;refine ar (bD (ag av) aa) rfl<|ar (al aa) rfl<|bQ aa (λaD ba=>?_) (λaD ba=>?_)
  ·replace ba:=di ba;refine aG (al (ag (aA ap))) ⟨_,rfl,aD⟩ rfl ?_;refine aG (eD aa ay) ⟨_,rfl,(ae aD)⟩ rfl ?_;refine ar (bD (ag aD) aa) rfl<|ar (al aa) rfl<|bQ aa (λaN bb=>?_) (λaN bb=>?_)
   ·replace bb:=di bb;refine aG (al (ag (aj (aA ap)))) ⟨_,rfl,aN⟩ rfl ?_;refine aG (eD aa ay) ⟨_,rfl,(ae aN)⟩ rfl ?_;refine ar (bD (ag aN) aa) rfl<|ar (aB aa) rfl<|bp (ag (aJ a8)) (ag (aJ bA)) (ag (aJ ap)) aa ?_;clear av aD aN a8 bB bA ap;intro cf bT bW cg bY
    refine ao<|bj bY (λbc=>?_) (λbc=>?_)
    ·replace bc:=di bc;refine at_<|ar (al bT) rfl<|ar (aI kB rfl (ae bW)) rfl<|ar (ax (aH tX rfl aQ aa az) dz) rfl ?_
     refine dt (iC (J:=J) (B:=B) (S:=S) (M:=M) (nam:=nam) (cnt:=cnt) (ws:=ws) (last:=w) (kind:=kind) bv aR _ _) (aE (ag aa) (aE aa (aE ay aM))) iD trivial rfl (λ_ _ h=>h.elim) (λci cj bE=>?_)
     repeat (first|refine eA ?_|refine gJ ?_)
     exact⟨_,rfl,bE.1,bo.trans bE.2 jo⟩
    ·(simp_all;done)
   ·(simp_all;done)
  ·(simp_all;done)
 ·(simp_all;done)
theorem LJ(hb:M0[b]? =some (.box aW (aV nam J B S M cnt (w::ws) last kind)))(hl:ws.length<=1000000)(h:(kind.toList==(⟨#[]⟩:ByteArray).toList)=false)(h2:(w.txt.toList==(⟨#[106,111,105,110,116]⟩:ByteArray).toList ||w.txt.toList==(⟨#[98,101,97,109]⟩:ByteArray).toList ||w.txt.toList==(⟨#[115,119,105,116,99,104]⟩:ByteArray).toList)=true)(ho:iY kind w.txt=false):
 ee Tryz.prog 30 [.ptr b 0] M0 (λ_ _=>False) (λv m'=>v=gu cnt w.col 9/\bM M0 m' (λj=>j=b)):=by
 have hbn:=cV hb hn;refine gw (fn:=Tryz.f30) 193 ai rfl ai aU ?_;intro cd bh hA a3;have bk:ak cd (.tmp 0)=_:=hA 0 _ rfl;have bN:bh.length=n:=by rw [a3];exact hn
 have bO:bh[b]? =_:=(congrArg (λq=>q[b]?) a3).trans hb;simp only [pS,Value.cells,Nat.reduceAdd,aV,aW,bn]at bO;have ce:bM M0 bh (λj=>j=b):=by rw [a3];exact bM.refl _ _
 clear hA a3;refine au<|at_<|ar (al bk) rfl<|dt (mg (J:=J) (B:=B) (S:=S) (M:=M) (nam:=nam) (cnt:=cnt) (w:=w) (ws:=ws) (last:=last) (kind:=kind) bN bO hl) (aE aa aM) lg trivial rfl (λcO cP cf=>?_) (λ_ _ h=>h.elim)
 obtain⟨rfl,bR,bm⟩:=cf;simp only [pS,Value.cells,Nat.reduceAdd,aV,aW,bn]at bm;have bS:=ce.trans bR qt;obtain⟨cQ,bo,cR⟩:=bR.len_ bN;refine aL (cy ll rfl bo) trivial rfl (λcT aQ=>?_);have a5:=bu aQ bo;simp only [pS,Value.cells,Nat.reduceAdd,aV,aW,bn]at a5;have bT:=aK aQ bm;have bW:=RestR.aK aQ bS;have cg:=br aQ bo;clear aQ bm bS;refine aL (bP aa (ae aa) rfl rfl a5 lp rfl az) trivial rfl (λcU aR=>?_);have aS:=aZ aR a5;simp only [pS,Value.cells,Nat.reduceAdd,aV,aW,bn]at aS;have ab:=aw aR bT ah;have bv:=RestR.aw aR bW ej;have aO:=aX aR cg;clear aR a5 bT bW;refine bq (aC (ae (ag bk))) (aC aa) ?_;clear bk;intro cW bY bw;refine ao<|au<|at_<|ar (aI iv rfl bw) rfl<|ar (ax (aH nE rfl aS aa az) dz) rfl ?_
 refine ar (aB aa) rfl<|bJ (ae (ag bY)) (ae (ag bw)) aa ?_;clear bY bw;intro cX bx bZ b0
 refine ao<|au<|bV<|au<|au<|at_<|ar (al bx) rfl<|ar (bH aa) rfl<|ar (aI eJ rfl aa) rfl<|ar (ax (aH nE rfl ab aa az) dz) rfl ?_
 refine ar (fb aa ay) rfl<|ar (al aa) rfl<|bQ aa (λaT ci=>?_) (λaT ci=>?_)
 ·(simp_all;done)
 refine aF ⟨_,rfl,.inl aT⟩ rfl ?_;refine aF ⟨_,rfl,.inl (ae aT)⟩ rfl ?_;refine ar (bG (ag aT) ay) rfl<|ar (aB aa) rfl<|bp (ag (aA bx)) (ag (aA bZ)) (ag (aA b0)) aa ?_;clear aT bx bZ b0;intro cY an aP af a6
 refine ao<|hU a6<|at_<|ar (al an) rfl<|ar (bH aa) rfl<|ar (aI eJ rfl aa) rfl<|ar (ax (aH nE rfl ab aa az) dz) rfl ?_
 refine ar (eD aa ay) rfl<|ar (al aa) rfl<|bQ aa (λap bz=>?_) (λap bz=>?_)
 ·replace bz:=di bz;refine aG (al (ag (aj af))) ⟨_,rfl,ap⟩ rfl ?_;refine aG (eD aa ay) ⟨_,rfl,(ae ap)⟩ rfl ?_;refine ar (bD (ag ap) aa) rfl<|ar (al aa) rfl<|bQ aa (λad aY=>?_) (λad aY=>?_)
  ·replace aY:=di aY;refine aG (al (ag (aA af))) ⟨_,rfl,ad⟩ rfl ?_;refine aG (eD aa ay) ⟨_,rfl,(ae ad)⟩ rfl ?_;refine ar (bD (ag ad) aa) rfl<|ar (al aa) rfl<|bQ aa (λam a2=>?_) (λam a2=>?_)
   ·replace a2:=di a2;refine aG (al (ag (aj (aA af)))) ⟨_,rfl,am⟩ rfl ?_;refine aG (eD aa ay) ⟨_,rfl,(ae am)⟩ rfl ?_;refine ar (bD (ag am) aa) rfl<|ar (aB aa) rfl<|bp (ag (aJ an)) (ag (aJ aP)) (ag (aJ af)) aa ?_;clear ap ad am an a6 aP af;intro cZ a7 b1 bA b2
    refine ao<|bj b2 (λbB=>?_) (λbB=>?_)
    ·(simp_all;done)
    replace bB:=dm bB;refine au<|at_<|ar (al a7) rfl<|ar (bH aa) rfl<|ar (aI eJ rfl aa) rfl<|ar (ax (aH nE rfl ab aa az) dz) rfl ?_
    refine ar (eD aa ay) rfl<|ar (al aa) rfl<|bQ aa (λav bC=>?_) (λav bC=>?_)
    ·replace bC:=di bC;refine aG (al (ag (aj a7))) ⟨_,rfl,av⟩ rfl ?_;refine aG (al (ae (ag (aj bA)))) ⟨_,rfl,(ae av)⟩ rfl ?_;refine dt (zO (J:=J) (B:=B) (S:=S) (M:=M) (nam:=nam) (cnt:=cnt) (ws:=ws) (last:=w) (kind:=kind) aO ab w.txt false ho) (aE (ae aa) (aE aa aM)) rS ⟨_,rfl,(ag av)⟩ rfl (λc6 c7 cj=>?_) (λ_ _ h=>h.elim);obtain⟨rfl,a8⟩:=cj;have ck:=a8.at_ aS dQ;have cm:=a8.at_ ab dQ;have cn:=bv.trans a8 AY;obtain⟨c9,co,da⟩:=a8.len_ aO;refine aG (c8 aa) ⟨_,rfl,(ae (ag av))⟩ rfl ?_;refine ar (bD (aj av) aa) rfl<|ar (aB aa) rfl<|bp (aj (aA a7)) (aj (aA b1)) (aj (aA bA)) aa ?_;clear av a7 b2 b1 bA;intro db cr cu dc cv
     refine ao<|bj cv (λa9=>?_) (λa9=>?_)
     ·replace a9:=di a9;refine at_<|ar (al cr) rfl<|ar (aI kB rfl (ae cu)) rfl<|ar (ax (aH tX rfl ck aa az) dz) rfl ?_
      refine dt (iC (J:=J) (B:=B) (S:=S) (M:=M) (nam:=nam) (cnt:=cnt) (ws:=ws) (last:=w) (kind:=kind) co cm _ _) (aE (ag aa) (aE aa (aE ay aM))) iD trivial rfl (λ_ _ h=>h.elim) (λdd de b6=>?_)
      repeat (first|refine eA ?_|refine gJ ?_)
      exact⟨_,rfl,b6.1,cn.trans b6.2 jo⟩
     ·cases a9
    ·(simp_all;done)
   replace a2:=dm a2;refine aF ⟨_,rfl,.inl am⟩ rfl ?_;refine aF ⟨_,rfl,.inl (ae am)⟩ rfl ?_;refine ar (bG (ag am) ay) rfl<|ar (aB aa) rfl<|bp (ag (aJ an)) (ag (aJ aP)) (ag (aJ af)) aa ?_;clear ap ad am an a6 aP af;intro df ba b7 bE b8
   refine ao<|hU b8<|au<|at_<|ar (al ba) rfl<|ar (bH aa) rfl<|ar (aI eJ rfl aa) rfl<|ar (ax (aH nE rfl ab aa az) dz) rfl ?_
   refine ar (eD aa ay) rfl<|ar (al aa) rfl<|bQ aa (λaD bF=>?_) (λaD bF=>?_)
   ·replace bF:=di bF;refine aG (al (ag (aj ba))) ⟨_,rfl,aD⟩ rfl ?_;refine aG (al (ae (ag (aj bE)))) ⟨_,rfl,(ae aD)⟩ rfl ?_;refine dt (zO (J:=J) (B:=B) (S:=S) (M:=M) (nam:=nam) (cnt:=cnt) (ws:=ws) (last:=w) (kind:=kind) aO ab w.txt false ho) (aE (ae aa) (aE aa aM)) rS ⟨_,rfl,(ag aD)⟩ rfl (λdg dh cw=>?_) (λ_ _ h=>h.elim);obtain⟨rfl,bb⟩:=cw;have cx:=bb.at_ aS dQ;have cz:=bb.at_ ab dQ;have cA:=bv.trans bb AY;obtain⟨dj,cB,dk⟩:=bb.len_ aO;refine aG (c8 aa) ⟨_,rfl,(ae (ag aD))⟩ rfl ?_;refine ar (bD (aj aD) aa) rfl<|ar (aB aa) rfl<|bp (aj (aA ba)) (aj (aA b7)) (aj (aA bE)) aa ?_;clear aD ba b8 b7 bE;intro dl cC cD dn cE
    refine ao<|bj cE (λbc=>?_) (λbc=>?_)
    ·replace bc:=di bc;refine at_<|ar (al cC) rfl<|ar (aI kB rfl (ae cD)) rfl<|ar (ax (aH tX rfl cx aa az) dz) rfl ?_
     refine dt (iC (J:=J) (B:=B) (S:=S) (M:=M) (nam:=nam) (cnt:=cnt) (ws:=ws) (last:=w) (kind:=kind) cB cz _ _) (aE (ag aa) (aE aa (aE ay aM))) iD trivial rfl (λ_ _ h=>h.elim) (λdp dq b9=>?_)
     repeat (first|refine eA ?_|refine gJ ?_)
     exact⟨_,rfl,b9.1,cA.trans b9.2 jo⟩
    ·cases bc
   ·(simp_all;done)
  replace aY:=dm aY;refine aF ⟨_,rfl,.inl ad⟩ rfl ?_;refine aF ⟨_,rfl,.inl (ae ad)⟩ rfl ?_;refine ar (bG (ag ad) ay) rfl<|ar (al aa) rfl<|aF ⟨_,rfl,.inl aa⟩ rfl ?_
  refine aF ⟨_,rfl,.inl (ae aa)⟩ rfl ?_;refine ar (bG (ag aa) ay) rfl<|ar (aB aa) rfl<|bp (ag (aJ an)) (ag (aJ aP)) (ag (aJ af)) aa ?_;clear ap ad an a6 aP af;intro dr be ca bI cb
  refine ao<|hU cb<|au<|at_<|ar (al be) rfl<|ar (bH aa) rfl<|ar (aI eJ rfl aa) rfl<|ar (ax (aH nE rfl ab aa az) dz) rfl ?_
  refine ar (eD aa ay) rfl<|ar (al aa) rfl<|bQ aa (λaN bL=>?_) (λaN bL=>?_)
  ·replace bL:=di bL;refine aG (al (ag (aj be))) ⟨_,rfl,aN⟩ rfl ?_;refine aG (al (ae (ag (aj bI)))) ⟨_,rfl,(ae aN)⟩ rfl ?_;refine dt (zO (J:=J) (B:=B) (S:=S) (M:=M) (nam:=nam) (cnt:=cnt) (ws:=ws) (last:=w) (kind:=kind) aO ab w.txt false ho) (aE (ae aa) (aE aa aM)) rS ⟨_,rfl,(ag aN)⟩ rfl (λdu dv cG=>?_) (λ_ _ h=>h.elim);obtain⟨rfl,bf⟩:=cG;have cH:=bf.at_ aS dQ;have cI:=bf.at_ ab dQ;have cJ:=bv.trans bf AY;obtain⟨dw,cK,dx⟩:=bf.len_ aO;refine aG (c8 aa) ⟨_,rfl,(ae (ag aN))⟩ rfl ?_;refine ar (bD (aj aN) aa) rfl<|ar (aB aa) rfl<|bp (aj (aA be)) (aj (aA ca)) (aj (aA bI)) aa ?_;clear aN be cb ca bI;intro dy cL cM dA cN
   refine ao<|bj cN (λbg=>?_) (λbg=>?_)
   ·replace bg:=di bg;refine at_<|ar (al cL) rfl<|ar (aI kB rfl (ae cM)) rfl<|ar (ax (aH tX rfl cH aa az) dz) rfl ?_
    refine dt (iC (J:=J) (B:=B) (S:=S) (M:=M) (nam:=nam) (cnt:=cnt) (ws:=ws) (last:=w) (kind:=kind) cK cI _ _) (aE (ag aa) (aE aa (aE ay aM))) iD trivial rfl (λ_ _ h=>h.elim) (λdB dC cc=>?_)
    repeat (first|refine eA ?_|refine gJ ?_)
    exact⟨_,rfl,cc.1,cJ.trans cc.2 jo⟩
   ·cases bg
  ·(simp_all;done)
 ·(simp_all;done)
end
end Go.Proofs.YtbmlgmblfboigaaGreatDoor
namespace Go.Proofs.YtbmlgmblfboigaaGreatDoor
open Go Go.RowKit Go.Proofs Go.Lib
def eV(p:ByteArray)(w0:Wd)(ws:List Wd):Int×Int:=if fE p w0.txt=0 then jd w0.txt w0 ws else(w0.col,fE p w0.txt)
def dJ(st:RS)(w0:Wd)(ws:List Wd):RS:=
 if cg w0.txt cz then {(st.add cz)with nam:=(cN ws).txt,ws:= [],last:=cN ws,kind:=cz}
 else if cg w0.txt bZ then {(st.add bZ)with js:=st.js++ [⟨eG (cN ws),eG (cN ws.tail),eG (cN ws.tail.tail),eG (cN ws.tail.tail.tail)⟩],ws:= [],last:=cN ws.tail.tail.tail,kind:=bZ}
 else if cg w0.txt ck then {(st.add ck)with bs:=st.bs++ [⟨eG (cN ws),eG (cN ws.tail)⟩],ws:= [],last:=cN ws.tail,kind:=ck}
 else {(st.add cf)with ss:=st.ss++ [⟨(cN ws).txt,eG (cN ws.tail),ws.tail.tail.map eG⟩],ws:= [],last:=w0,kind:=cf}
structure CJ (st:RS):Prop where
 js:st.js.length<=1000000
 bs:st.bs.length<=1000000
 ss:st.ss.length<=1000000
 cs:∀ q,(cR st.cs q).length <=1000000
theorem qD{a b:ByteArray}(h:a≠b):cg a b=false:=by
 cases hq:cg a b with
 | false=>rfl
 | true=>exact absurd (jT.1 hq) h
theorem uW:cg bZ cz=false:=by rw [ig];decide
theorem uX:cg ck cz=false:=by rw [ig];decide
theorem uY:cg cf cz=false:=by rw [ig];decide
theorem uZ:cg ck bZ=false:=by rw [ig];decide
theorem u5:cg cf bZ=false:=by rw [ig];decide
theorem u6:cg cf ck=false:=by rw [ig];decide
theorem gx(a:ByteArray):cg a a=true:=jT.2 rfl
theorem Ry{M0:List Ob}{n:Nat}(hn:M0.length=n){st:RS}{H:RH}{lo b:Nat}(hR:e9 st H lo M0 b){es er:Value}(hes:e8 es)(her:e8 er)(h0:M0[0]? =some (.bT (gX es er)))(hB:CJ st)(w0:Wd)(ws:List Wd)(hw:st.ws=w0::ws)(hW:jH w0 ws)(hl:ws.length<=100000):
 ee Tryz.prog 30 [.ptr b 0] M0 (λr m'=>eV st.kind w0 ws=(0,0)/\r= .tuple []/\ ∃ H' la,e9 {(dJ st w0 ws)with last:=la} H' lo m' b/\bM M0 m' (KR H b)) (λv m'=>∃ c e,e≠0/\eV st.kind w0 ws=(c,e)/\v=gu st.cnt c e/\bM M0 m' (KR H b)):=by
 obtain⟨tx,c0⟩:=w0;have hb:=hR.box;rw [hw]at hb
 by_cases hk:cg st.kind ⟨#[]⟩=true
 ·by_cases ht:tx=cz
  ·subst ht;have hkk:fE st.kind cz=0:=by simp [fE,hk,gx]
   refine(OE hn hR c0 ws hw (jT.1 hk) hW hB.cs).mono (λr m h=>?_) (λv m h=>?_)
   ·obtain⟨h1,h2,H',h3,h4⟩:=h;exact⟨by simp only [eV];rw [if_pos hkk];exact h1,h2,H',cN ws,by rw [dJ,if_pos (gx _)];exact h3,h4⟩
   ·obtain⟨c,e,h1,h2,h3⟩:=h;exact⟨c,e,h1,by simp only [eV];rw [if_pos hkk];exact h2,h3⟩
  ·have hkk:fE st.kind tx=7:=by simp [fE,hk,qD ht]
   have hk':(st.kind.toList==(⟨#[]⟩:ByteArray).toList)=true:=hk;have ht':(tx.toList==(⟨#[108,105,110,101]⟩:ByteArray).toList)=false:=qD ht;refine(Ep hn hb hW.len (by rw [hk',ht'];rfl)).mono (λr m h=>h.elim) (λv m h=>?_);exact⟨c0,7,aD,by simp only [eV];rw [hkk];rfl,h.1,⟨h.2.len,λj hj hn=>h.2.same j hj λe=>hn (.inl e)⟩⟩
 ·have hk0:cg st.kind ⟨#[]⟩=false:=by simpa using hk
  have hk':(st.kind.toList==(⟨#[]⟩:ByteArray).toList)=false:=hk0
  by_cases hin:(cg tx bZ||cg tx ck||cg tx cf)=true
  ·cases ho:iY st.kind tx with
   | false=>
    have hkk:fE st.kind tx=9:=by unfold fE;rw [hk0,hin,ho];rfl
    refine(LJ hn hb hW.len hk' hin ho).mono (λr m h=>h.elim) (λv m h=>?_);exact⟨c0,9,aD,by simp only [eV];rw [hkk];rfl,h.1,⟨h.2.len,λj hj hn=>h.2.same j hj λe=>hn (.inl e)⟩⟩
   | true=>
    have hkk:fE st.kind tx=0:=by unfold fE;rw [hk0,hin,ho];rfl
    by_cases h1:tx=bZ
    ·subst h1;refine(M3 hn hR c0 hes her h0 hB.js ws hw hk' ho hW hB.cs).mono (λr m h=>?_) (λv m h=>?_)
     ·obtain⟨h1,h2,H',h3,h4⟩:=h;exact⟨by simp only [eV];rw [if_pos hkk];exact h1,h2,H',cN ws.tail.tail.tail,by simp only [dJ,uW,gx,if_true,Xi,if_false];exact h3,h4⟩
     ·obtain⟨c,e,h1,h2,h3⟩:=h;exact⟨c,e,h1,by simp only [eV];rw [if_pos hkk];exact h2,h3⟩
    by_cases h2:tx=ck
    ·subst h2;refine(OF hn hR c0 hes her h0 hB.bs ws hw hk' ho hW hB.cs).mono (λr m h=>?_) (λv m h=>?_)
     ·obtain⟨h1,h2,H',h3,h4⟩:=h;exact⟨by simp only [eV];rw [if_pos hkk];exact h1,h2,H',cN ws.tail,by simp only [dJ,uX,uZ,gx,if_true,Xi,if_false];exact h3,h4⟩
     ·obtain⟨c,e,h1,h2,h3⟩:=h;exact⟨c,e,h1,by simp only [eV];rw [if_pos hkk];exact h2,h3⟩
    have h3:tx=cf:=by
     rw [qD h1,qD h2]at hin;exact jT.1 (by simpa using hin)
    subst h3;refine(LH hn hR c0 hes her h0 hB.ss ws hw hk' ho hW hl hB.cs).mono (λr m h=>?_) (λv m h=>?_)
    ·obtain⟨h1,h2,H',la,h3,h4⟩:=h;exact⟨by simp only [eV];rw [if_pos hkk];exact h1,h2,H',la,by simp only [dJ,uY,u5,u6,Xi,if_false];exact h3,h4⟩
    ·obtain⟨c,e,h1,h2,h3⟩:=h;exact⟨c,e,h1,by simp only [eV];rw [if_pos hkk];exact h2,h3⟩
  ·have hin0:(cg tx bZ||cg tx ck||cg tx cf)=false:=by simpa using hin
   have hkk:fE st.kind tx=7:=by unfold fE;rw [hk0,hin0];rfl
   have hin1:((tx.toList==(⟨#[106,111,105,110,116]⟩:ByteArray).toList)||(tx.toList==(⟨#[98,101,97,109]⟩:ByteArray).toList)||(tx.toList==(⟨#[115,119,105,116,99,104]⟩:ByteArray).toList))=false:=hin0;simp only [YQ]at hin1;refine(Ep hn hb hW.len (by rw [hk',hin1.1.1,hin1.1.2,hin1.2];rfl)).mono (λr m h=>h.elim) (λv m h=>?_);exact⟨c0,7,aD,by simp only [eV];rw [hkk];rfl,h.1,⟨h.2.len,λj hj hn=>h.2.same j hj λe=>hn (.inl e)⟩⟩
theorem Rz:bO Tryz.prog 23 59 4 32 (.agg #[.int .i64 0,.int .i64 0,.int .i64 0,.int .i64 0]):=⟨ai,ai,ai⟩
theorem RA:aQ Tryz.prog 23 false 1:=⟨ai,ai⟩
theorem RB:aQ Tryz.prog 27 true 4:=⟨ai,ai⟩
theorem UR:aQ Tryz.prog 9 false 1:=⟨ai,ai⟩
def RS.ei(st:RS):aP:=⟨st.nam,st.js,st.bs,st.ss⟩
theorem M4{M0:List Ob}{n:Nat}(hn:M0.length=n){st:RS}{H:RH}{lo b:Nat}(hR:e9 st H lo M0 b)(hs:eo st.ei)(hl:(cx st.ei).2=0)(hj:st.js≠ [])(hk:(st.kind.toList==ck.toList)=false):
 ee Tryz.prog 31 [.ptr b 0] M0 (λr m'=>r= .tuple []/\bM M0 m' (λ_=>False)) (λ_ _=>False):=by
 have hb:=hR.box;have hJ:=hR.J;have hB:=hR.B;have hS:=hR.S;have hM:=hR.M;have hbn:=cV hb hn;have hJn:=cV hJ hn;have hBn:=cV hB hn;have hSn:=cV hS hn;have hMn:=cV hM hn;obtain⟨⟨x1,x2,x3,x4⟩,⟨x5,x6,x7⟩,x8,x9,x10⟩:=hR.ne;have hjl:=XJ.2 hj;have hK:bM M0 M0 (λ_=>False):=bM.refl _ _;refine gw (fn:=Tryz.f31) 58 ai rfl ai aU ?_;intro bh an hA af;have aJ:ak bh (.tmp 0)=_:=hA 0 _ rfl;have aP:an.length=n:=by rw [af];exact hn
 have ap:an[b]? =_:=(congrArg (λq=>q[b]?) af).trans hb;simp only [pS,Value.cells,Nat.reduceAdd,aV,aW,bn]at ap;have aN:an[H.jJ]? =_:=(congrArg (λq=>q[H.jJ]?) af).trans hJ;have aQ:an[H.jB]? =_:=(congrArg (λq=>q[H.jB]?) af).trans hB;have aR:an[H.jS]? =_:=(congrArg (λq=>q[H.jS]?) af).trans hS;have aY:an[H.jM]? =_:=(congrArg (λq=>q[H.jM]?) af).trans hM;have a2:bM M0 an ((λ_=>False)):=by rw [af];exact bM.refl _ _
 clear hA af;refine au<|au<|at_<|ar (al aJ) rfl<|ar (bH aa) rfl<|ar (aI kZ rfl aa) rfl<|ar (aI dN rfl aa) rfl<|ar (ax (aH RA rfl ap aa az) dz) rfl ?_
 refine ar (ax (rh aa aN rfl Rz.1) b7) rfl ?_;refine ar (e6 aa ay) rfl ?_;refine ar (al aa) rfl<|bQ aa (λam av=>?_) (λam av=>?_)
 ·replace av:=bt av;exfalso;omega
 replace av:=bf av;refine aG (al (aA aJ)) ⟨_,rfl,am⟩ rfl ?_;refine aG (bH aa) ⟨_,rfl,(ae am)⟩ rfl ?_;refine aG (aI eJ rfl aa) ⟨_,rfl,(ag am)⟩ rfl ?_;refine aG (ax (aH UR rfl ap aa az) dz) ⟨_,rfl,(ae (ag am))⟩ rfl ?_;refine aG (fb aa ay) ⟨_,rfl,(aj am)⟩ rfl ?_;refine ar (bG (ae (aj am)) aa) rfl<|bq (ag (aj (aA aJ))) aa ?_;clear am aJ;intro bw aS a3
 refine ao<|bj a3 (λa5=>?_) (λa5=>?_)
 ·(exact absurd (hk.symm.trans a5) aD)
 refine bC<|ao<|au<|at_<|ar (al aS) rfl<|ar (bH aa) rfl<|ar (aI kZ rfl aa) rfl<|ar (ax (aH RB rfl ap aa az) dz) rfl ?_
 refine ar (EY (aE aa aM) (cH (lN (cH (.ro _ rfl) (cH (.own _ _ _ _ aN) (cH (.own _ _ _ _ aQ) (cH (.own _ _ _ _ aR) fJ))))) fJ) rfl (yA st.ei hs) AS) rfl<|ar (al aa) rfl<|ar (cI aa rfl) rfl<|ar (cI (ae aa) rfl) rfl<|aL (cy su rfl aP) trivial rfl (λbx ab=>?_)
 have aO:=bu ab aP;simp only [pS,Value.cells,Nat.reduceAdd,aV,aW,bn]at aO;have a6:=aK ab ap;have a7:=aK ab aN;have a8:=aK ab aQ;have a9:=aK ab aR;have ba:=aK ab aY;have bb:=RestR.aK ab a2;have bk:=br ab aP;clear ab ap aN aQ aR aY a2;refine aL (bP aa (ag aa) rfl rfl aO j9 rfl az) trivial rfl (λbz ad=>?_);have bm:=aZ ad aO;simp only [pS,Value.cells,Nat.reduceAdd,aV,aW,bn]at bm;have bA:=aw ad a6 ah;have bB:=aw ad a7 ah;have bD:=aw ad a8 ah;have bE:=aw ad a9 ah;have bF:=aw ad ba ah;have bo:=RestR.aw ad bb ej;have bI:=aX ad bk;clear ad aO a6 a7 a8 a9 ba bb;refine ar (aB (aC (ae aa))) rfl<|bJ (ae (aC (ae (aA aS)))) (ae (aC aa)) aa ?_;clear aS a3;intro bL bc be aT
 refine ao<|au<|au<|at_<|ar (al aT) rfl<|ar (e6 aa ay) rfl ?_
 refine bp (ag bc) (ag be) (ag aT) aa ?_;clear bc be aT;intro bN bO bR bT bv;refine ao<|bj bv (λaF=>?_) (λaF=>?_)
 ·replace aF:=bt aF;refine bg<|bS<|⟨_,nR ai,?_⟩
  exact⟨rfl,bo⟩
 ·replace aF:=bf aF;exfalso;omega
theorem OJ:(Tryz.prog.info? 139).bind (·.zero)=some (.agg #[.string ByteArray.empty,.string ByteArray.empty,.string ByteArray.empty,.string ByteArray.empty]):=by kernel_rfl
theorem OK:Tryz.prog.underlying 139=some (.array 4 9):=by kernel_rfl
theorem OL:(Tryz.prog.info? 9).map (·.size)=some 1:=by kernel_rfl
theorem M5:cj Tryz.prog 99 0 0 false 1:=by unfold cj;kernel_rfl
theorem M6:cj Tryz.prog 99 1 1 false 1:=by unfold cj;kernel_rfl
theorem GY:bO Tryz.prog 23 59 4 32 (.agg #[.int .i64 0,.int .i64 0,.int .i64 0,.int .i64 0]):=⟨ai,ai,ai⟩
theorem RD:bO Tryz.prog 85 3 1 8 (.int .i64 0):=⟨ai,ai,ai⟩
theorem GZ:aQ Tryz.prog 23 false 1:=⟨ai,ai⟩
theorem RE:aQ Tryz.prog 27 true 4:=⟨ai,ai⟩
theorem tY:aQ Tryz.prog 3 false 1:=⟨ai,ai⟩
theorem RF:aQ Tryz.prog 72 false 1:=⟨ai,ai⟩
theorem Iw:aQ Tryz.prog 9 false 1:=⟨ai,ai⟩
def qX(k:Int):ByteArray:=if k=1 then bZ else if k=2 then ck else if k=3 then cf else cz
theorem Wu:yb Tryz.prog 139 4 9 false 1:=⟨ai,ai,ai⟩
theorem US{k:Int}(h0:0<=k)(h3:k<=3): [[AV.v (.string cz)],[AV.v (.string bZ)],[AV.v (.string ck)],[AV.v (.string cf)]][k.toNat]? =some [AV.v (.string (qX k))]:=by
 have:k=0\/k=1\/k=2\/k=3:=by omega
 rcases this with rfl|rfl|rfl|rfl<;>rfl
section
variable {M0:List Ob} {n:Nat} (hn:M0.length=n) {st:RS} {H:RH} {lo b:Nat} (hR:e9 st H lo M0 b)
include hn hR
theorem K1(hc: -1000000000<=st.cnt/\st.cnt<=1000000000)(h:st.js.length=0\/(st.kind.toList==(⟨#[98,101,97,109]⟩:ByteArray).toList)=true):
 ee Tryz.prog 31 [.ptr b 0] M0 (λ_ _=>False) (λv m'=>v=gu (st.cnt+1) 1 6/\bM M0 m' (λj=>j=b)):=by
 have hb:=hR.box;have hJ:=hR.J;have hbn:=cV hb hn;have hJn:=cV hJ hn;obtain⟨⟨x1,x2,x3,x4⟩,⟨x5,x6,x7⟩,x8,x9,x10⟩:=hR.ne;refine gw (fn:=Tryz.f31) 58 ai rfl ai aU ?_;intro a3 aD hA am;have af:ak a3 (.tmp 0)=_:=hA 0 _ rfl;have aO:aD.length=n:=by rw [am];exact hn
 have ad:aD[b]? =_:=(congrArg (λq=>q[b]?) am).trans hb;simp only [pS,Value.cells,Nat.reduceAdd,aV,aW,bn]at ad;have an:aD[H.jJ]? =_:=(congrArg (λq=>q[H.jJ]?) am).trans hJ;have aJ:bM M0 aD (λj=>j=b):=by rw [am];exact bM.refl _ _
 clear hA am;refine au<|au<|at_<|ar (al af) rfl<|ar (bH aa) rfl<|ar (aI kZ rfl aa) rfl<|ar (aI dN rfl aa) rfl<|ar (ax (aH GZ rfl ad aa az) dz) rfl ?_
 refine ar (ax (rh aa an rfl GY.1) b7) rfl ?_;refine ar (e6 aa ay) rfl ?_;refine ar (al aa) rfl<|bQ aa (λab ap=>?_) (λab ap=>?_)
 ·replace ap:=bt ap;refine aF ⟨_,rfl,.inl ab⟩ rfl ?_;refine aF ⟨_,rfl,.inl (ae ab)⟩ rfl ?_;refine aF ⟨_,rfl,.inl (ag ab)⟩ rfl ?_;refine aF ⟨_,rfl,.inl (ae (ag ab))⟩ rfl ?_;refine aF ⟨_,rfl,.inl (aj ab)⟩ rfl ?_;refine ar (bD (ae (aj ab)) ay) rfl<|bq (ag (aj (aA af))) aa ?_;clear ab af;intro bc aK aP
  refine ao<|lG aP<|au<|at_<|ar (al aK) rfl<|ar (bH aa) rfl<|ar (aI ji rfl aa) rfl<|ar (ax (aH tY rfl ad aa az) dz) rfl ?_
  (refine ar (cv aa ay ?_) rfl ?_; · (unfold In64;omega))
  refine ar (bH (aj aa)) rfl<|ar (aI ji rfl aa) rfl<|aL (bP aa (ag aa) rfl rfl ad iK rfl az) trivial rfl (λbe av=>?_)
  have aQ:=aZ av ad;simp only [pS,Value.cells,Nat.reduceAdd,aV,aW,bn]at aQ;have bg:=aw av an ah;have a5:=RestR.aw av aJ (λhj_=>by rfl);have a6:=aX av aO;clear av ad an aJ;refine aY (aC (ae (ag (aj aK)))) ?_;clear aK aP;intro bh a7;refine ao<|at_<|ar (al a7) rfl<|dt (iC (last:=st.last) (ws:=st.ws) (cnt:=st.cnt+1) a6 aQ _ _) (aE aa (aE ay (aE ay aM))) iD trivial rfl (λ_ _ h=>h.elim) (λbk bm aR=>?_)
  repeat (refine eA ?_)
  exact⟨_,rfl,aR.1,a5.trans aR.2 jo⟩
 replace ap:=bf ap;refine aG (al (aA af)) ⟨_,rfl,ab⟩ rfl ?_;refine aG (bH aa) ⟨_,rfl,(ae ab)⟩ rfl ?_;refine aG (aI eJ rfl aa) ⟨_,rfl,(ag ab)⟩ rfl ?_;refine aG (ax (aH Iw rfl ad aa az) dz) ⟨_,rfl,(ae (ag ab))⟩ rfl ?_;refine aG (fb aa ay) ⟨_,rfl,(aj ab)⟩ rfl ?_;refine ar (bG (ae (aj ab)) aa) rfl<|bq (ag (aj (aA af))) aa ?_;clear ab af;intro bo aN aS
 refine ao<|bj aS (λa8=>?_) (λa8=>?_)
 ·skip;refine au<|at_<|ar (al aN) rfl<|ar (bH aa) rfl<|ar (aI ji rfl aa) rfl<|ar (ax (aH tY rfl ad aa az) dz) rfl ?_
  (refine ar (cv aa ay ?_) rfl ?_; · (unfold In64;omega))
  refine ar (bH (aj aa)) rfl<|ar (aI ji rfl aa) rfl<|aL (bP aa (ag aa) rfl rfl ad iK rfl az) trivial rfl (λbp aB=>?_)
  have aT:=aZ aB ad;simp only [pS,Value.cells,Nat.reduceAdd,aV,aW,bn]at aT;have br:=aw aB an ah;have a9:=RestR.aw aB aJ (λhj_=>by rfl);have ba:=aX aB aO;clear aB ad an aJ;refine aY (aC (ae (ag (aj aN)))) ?_;clear aN aS;intro bu bb;refine ao<|at_<|ar (al bb) rfl<|dt (iC (last:=st.last) (ws:=st.ws) (cnt:=st.cnt+1) ba aT _ _) (aE aa (aE ay (aE ay aM))) iD trivial rfl (λ_ _ h=>h.elim) (λbv bw a2=>?_)
  repeat (refine eA ?_)
  exact⟨_,rfl,a2.1,a9.trans a2.2 jo⟩
 ·(simp_all;done)
theorem LK(hs:eo st.ei)(he:(cx st.ei).2≠0)(hj:st.js.length≠0)(hk:(st.kind.toList==(⟨#[98,101,97,109]⟩:ByteArray).toList)=false)(h03:0<=(cx st.ei).1.1/\(cx st.ei).1.1<=3)(q0:Nat)(hq0:q0<H.hs.length)(hqk:hK H.hs q0=qX (cx st.ei).1.1)(hi0:0<=(cx st.ei).1.2)(hi1:(cx st.ei).1.2<(cR st.cs q0).length):
 ee Tryz.prog 31 [.ptr b 0] M0 (λ_ _=>False) (λv m'=>v=gu ((cR st.cs q0).getD (cx st.ei).1.2.toNat default) 1 (cx st.ei).2/\bM M0 m' (λj=>j=b)):=by
 have hb:=hR.box;have hJ:=hR.J;have hB:=hR.B;have hS:=hR.S;have hM:=hR.M;have hF:=hR.fam;have hbn:=cV hb hn;have hJn:=cV hJ hn;have hBn:=cV hB hn;have hSn:=cV hS hn;have hMn:=cV hM hn;obtain⟨⟨x1,x2,x3,x4⟩,⟨x5,x6,x7⟩,x8,x9,x10⟩:=hR.ne;obtain⟨y1,y2,y3,y4,y5⟩:=hR.uN q0 hq0;have hlt:=hF.lt hn;have hql:=hlt q0 hq0 ah;have hra:=US h03.1 h03.2;refine gw (fn:=Tryz.f31) 58 ai rfl ai aU ?_;intro bY ap hA am;have aQ:ak bY (.tmp 0)=_:=hA 0 _ rfl;have aY:ap.length=n:=by rw [am];exact hn
 have av:ap[b]? =_:=(congrArg (λq=>q[b]?) am).trans hb;simp only [pS,Value.cells,Nat.reduceAdd,aV,aW,bn]at av;have aR:ap[H.jJ]? =_:=(congrArg (λq=>q[H.jJ]?) am).trans hJ;have a2:ap[H.jB]? =_:=(congrArg (λq=>q[H.jB]?) am).trans hB;have a3:ap[H.jS]? =_:=(congrArg (λq=>q[H.jS]?) am).trans hS;have ba:ap[H.jM]? =_:=(congrArg (λq=>q[H.jM]?) am).trans hM;have bb:bM M0 ap (λj=>j=b):=by rw [am];exact bM.refl _ _
 have a5:=hF;rw [<- am]at a5;clear hA am;refine au<|au<|at_<|ar (al aQ) rfl<|ar (bH aa) rfl<|ar (aI kZ rfl aa) rfl<|ar (aI dN rfl aa) rfl<|ar (ax (aH GZ rfl av aa az) dz) rfl ?_
 refine ar (ax (rh aa aR rfl GY.1) b7) rfl ?_;refine ar (e6 aa ay) rfl ?_;refine ar (al aa) rfl<|bQ aa (λan aF=>?_) (λan aF=>?_)
 ·replace aF:=bt aF;exfalso;omega
 replace aF:=bf aF;refine aG (al (aA aQ)) ⟨_,rfl,an⟩ rfl ?_;refine aG (bH aa) ⟨_,rfl,(ae an)⟩ rfl ?_;refine aG (aI eJ rfl aa) ⟨_,rfl,(ag an)⟩ rfl ?_;refine aG (ax (aH Iw rfl av aa az) dz) ⟨_,rfl,(ae (ag an))⟩ rfl ?_;refine aG (fb aa ay) ⟨_,rfl,(aj an)⟩ rfl ?_;refine ar (bG (ae (aj an)) aa) rfl<|bq (ag (aj (aA aQ))) aa ?_;clear an aQ;intro cd a6 bc
 refine ao<|bj bc (λb0=>?_) (λb0=>?_)
 ·(simp_all;done)
 refine bC<|ao<|au<|at_<|ar (al a6) rfl<|ar (bH aa) rfl<|ar (aI kZ rfl aa) rfl<|ar (ax (aH RE rfl av aa az) dz) rfl ?_
 refine ar (EY (aE aa aM) (cH (lN (cH (.ro _ rfl) (cH (.own _ _ _ _ aR) (cH (.own _ _ _ _ a2) (cH (.own _ _ _ _ a3) fJ))))) fJ) rfl (yA st.ei hs) AS) rfl<|ar (al aa) rfl<|ar (cI aa rfl) rfl<|ar (cI (ae aa) rfl) rfl<|aL (cy su rfl aY) trivial rfl (λce ad=>?_)
 have aJ:=bu ad aY;simp only [pS,Value.cells,Nat.reduceAdd,aV,aW,bn]at aJ;have be:=aK ad av;have bg:=aK ad aR;have bh:=aK ad a2;have bk:=aK ad a3;have bm:=aK ad ba;have bo:=RestR.aK ad bb;have bv:=bI.aK ad a5;have b1:=br ad aY;clear ad av aR a2 a3 ba bb a5;refine aL (bP aa (ag aa) rfl rfl aJ j9 rfl az) trivial rfl (λcg af=>?_);have aN:=aZ af aJ;simp only [pS,Value.cells,Nat.reduceAdd,aV,aW,bn]at aN;have aO:=aw af be ah;have bw:=aw af bg ah;have bx:=aw af bh ah;have bz:=aw af bk ah;have a7:=aw af bm ah;have bA:=RestR.aw af bo ej;have b2:=bI.aw af bv aJ rfl;have b6:=aX af b1;clear af aJ be bg bh bk bm bo bv;refine ar (aB (aC (ae aa))) rfl<|bJ (ae (aC (ae (aA a6)))) (ae (aC aa)) aa ?_;clear a6 bc;intro ci bD bE a8
 refine ao<|au<|au<|at_<|ar (al a8) rfl<|ar (e6 aa ay) rfl ?_
 refine bp (ag bD) (ag bE) (ag a8) aa ?_;clear bD bE a8;intro cj bF a9 bL bN;refine ao<|bj bN (λaP=>?_) (λaP=>?_)
 ·replace aP:=bt aP;exfalso;omega
 replace aP:=bf aP;refine bC<|ao<|au<|at_<|ar (yU (bB ay (bB ay (bB ay (bB ay b8)))) OJ OK OL rfl) rfl ?_
 refine ar (aI M5 rfl (ae a9)) rfl<|ar (ax (aH tY rfl aN aa az) dz) rfl ?_
 refine ar (ax (HD (els:= [[AV.v (.string cz)],[AV.v (.string bZ)],[AV.v (.string ck)],[AV.v (.string cf)]]) Wu rfl (ag aa) aa rfl aD h03.1 ah hra) rfl) rfl ?_;refine ar (aB aa) rfl<|bp (ae (aj bF)) (ae (aj a9)) (ae (aj bL)) aa ?_;clear bF a9 bN bL;intro cm aS bO bR bS
 refine ao<|au ?_
 obtain⟨aT,bT⟩:=b2.take hq0;refine dZ 13 ai ai ai ai ?_;refine dr (al aS) rfl<|dr (al (ae aS)) rfl<|dr (bH aa) rfl<|dr (aI iw rfl aa) rfl<|dr (ax (aH RF rfl aO aa az) dz) rfl ?_
 refine dr (al (ae (aj bS))) rfl<|dr (tj iI iJ a7 (ae aa) aa (show(fi H.hs)[q0]? =some (qX (cx st.ei).1.1,.own (hN H.hs q0))by rw [lP hq0,hqk]) hF.ov) rfl ?_
 refine dr (aI M6 rfl (ae (ag (aj bO)))) rfl<|dr (ax (aH tY rfl aN aa az) dz) rfl ?_
 refine dr (jK RD aT (ag aa) aa ah dP) rfl ?_;refine dr (ax (lD tY rfl aT aa az (by(refine cO ?_;omega))) dz) rfl ?_;refine dr (bH (ag (aA aa))) rfl<|dr (aI ji rfl aa) rfl<|dC<|aL (bP aa (ag aa) rfl rfl aO iK rfl az) trivial rfl (λcn ab=>?_)
 have bV:=aZ ab aO;simp only [pS,Value.cells,Nat.reduceAdd,aV,aW,bn]at bV;have co:=aw ab aN ah;have cr:=aw ab bw ah;have cu:=aw ab bx ah;have cv:=aw ab bz ah;have cw:=aw ab a7 ah;have b9:=RestR.aw ab bA (λhj_=>by rfl);have cA:=bI.aw ab bT aO rfl;have cB:=aw ab aT ah;have ca:=aX ab b6;clear ab aN aO bw bx bz a7 bA bT aT;refine bq (aC (ae (aj (aA aS)))) (aC (ae (aj (aA bR)))) ?_;clear aS bO bR bS;intro cC cb cc;refine ao<|at_<|ar (al cb) rfl<|ar (al (ae cc)) rfl<|dt (iC (last:=st.last) (ws:=st.ws) (cnt:=(cR st.cs q0).getD (cx st.ei).1.2.toNat default) ca bV _ _) (aE (ae aa) (aE ay (aE aa aM))) iD trivial rfl (λ_ _ h=>h.elim) (λcD cE bW=>?_)
 repeat (first|refine eA ?_|refine gJ ?_|refine Bc ?_)
 exact⟨_,rfl,bW.1,b9.trans bW.2 jo⟩
end
end Go.Proofs.YtbmlgmblfboigaaGreatDoor
namespace Go.Proofs.YtbmlgmblfboigaaGreatDoor
open Go Go.RowKit Go.Proofs Go.Shelf Go.Lib
structure lV where
 ei:aP
 ml:Int
 mc:Int
 e:Int
def zL:aP:=⟨⟨#[]⟩,[],[],[]⟩
def fw(r:lV):AV:=.tuple [dL r.ei,.agg [mA r.ml,mA r.mc],mA r.e]
def nr:RS:=⟨⟨#[]⟩,[],[],[],0,[],⟨⟨#[]⟩,0⟩,⟨#[]⟩,[],[]⟩
def cY(st:RS)(l:List UInt8):RS:= {st with cnt:=st.cnt+1,ws:=eN l 0}
def du(k:ByteArray):List ByteArray->List (List Int)->List Int
 | [],_=> []
 | a::ks,cs=>if cg a k then cs.headD []else du k ks cs.tail
def pn(st:RS):lV:=
 if st.js.length=0\/cg st.kind ck=true then⟨zL,st.cnt+1,1,6⟩
 else if(cx st.ei).2=0 then⟨st.ei,0,0,0⟩
 else⟨zL,(du (qX (cx st.ei).1.1) st.ks st.cs).getD (cx st.ei).1.2.toNat default,1,(cx st.ei).2⟩
def jE:RS->List (List UInt8)->lV
 | st,[]=>pn st
 | st,l::ls=>match eN l 0 with
  | []=>jE (cY st l) ls
  | w0::ws=>if eV st.kind w0 ws=(0,0)then jE (dJ (cY st l) w0 ws) ls else⟨zL,st.cnt+1,(eV st.kind w0 ws).1,(eV st.kind w0 ws).2⟩
def uO(tx:List UInt8):lV:=if 60000<tx.length then⟨zL,0,0,8⟩else jE nr ((dX tx).map e7)
theorem RG(st:RS)(la w0:Wd)(ws:List Wd):dJ {st with last:=la} w0 ws=dJ st w0 ws:=by
 unfold dJ RS.add
 split
 ·rfl
 ·split
  ·rfl
  ·split<;>rfl
theorem RI(st:RS)(la:Wd)(l:List UInt8):cY {st with last:=la} l= {(cY st l)with last:=la}:=rfl
theorem Jn(k k':ByteArray)(c:Int):∀ (ks:List ByteArray) (cs:List (List Int)),du k' (fg k c ks cs).1 (fg k c ks cs).2=if k=k' then du k' ks cs++ [c]else du k' ks cs
 | [],cs=>by
  by_cases h:k=k'
  ·subst h;simp [fg,du,gx]
  ·simp [fg,du,qD h,h]
 | a::ks,cs=>by
  simp only [fg]
  by_cases ha:cg a k=true
  ·have hk:=jT.1 ha;subst hk;simp only [gx,if_true,du,List.headD_cons,YU]
   by_cases h:a=k'
   ·subst h;simp [gx]
   ·simp [qD h,h]
  ·have ha':cg a k=false:=by simpa using ha
   simp only [ha',Xi,if_false,du,List.headD_cons,YU]
   by_cases h:cg a k'=true
   ·have hk:=jT.1 h;subst hk;have hne:¬ k=a:=λe=>by rw [e,gx]at ha';cases ha'
    simp [gx,hne]
   ·have h':cg a k'=false:=by simpa using h
    simp only [h',Xi,if_false];exact Jn k k' c ks cs.tail
theorem Jo(k:ByteArray)(c:Int):∀ (ks:List ByteArray) (cs:List (List Int)) (B:Nat),(∀ q,(cR cs q).length <=B)-> ∀ q,(cR (fg k c ks cs).2 q).length <=B+1
 | [],cs,B,h,q=>by
  cases q with
  | zero=>simp [fg,cR]
  | succ q=>show([]:List Int).length <=_;simp
 | a::ks,cs,B,h,q=>by
  have h0:(cs.headD []).length <=B:=by have:=h 0;cases cs<;>simp_all [cR]
  have ht:∀ q,(cR cs.tail q).length <=B:=λq=>by have:=h (q+1);cases cs<;>simp_all [cR]
  simp only [fg]
  split
  ·cases q with
   | zero=>simp [cR];simpa using h0
   | succ q=>have:=ht q;simp only [cR,List.getD_cons_succ]at this ⊢;omega
  ·cases q with
   | zero=>simp [cR]at h0 ⊢;omega
   | succ q=>
    have:=Jo k c ks cs.tail B ht q
    simpa only [cR,List.getD_cons_succ]using this
theorem JX{k:ByteArray}:∀ {hs:HL} {cs:List (List Int)},cs.length=hs.length->du k (hs.map (·.1)) cs≠ []-> ∃ q,q<hs.length/\hK hs q=k/\du k (hs.map (·.1)) cs=cR cs q
 | [],cs,_,h=>absurd rfl h
 | x::hs,[],hl,_=>by simp at hl
 | x::hs,d::cs,hl,h=>by
  by_cases hx:cg x.1 k=true
  ·exact⟨0,aN,jT.1 hx,by simp [du,hx,cR]⟩
  ·have hx':cg x.1 k=false:=by simpa using hx
   have e:du k ((x::hs).map (·.1)) (d::cs)=du k (hs.map (·.1)) cs:=by simp [du,hx']
   rw [e]at h ⊢;obtain⟨q,h1,h2,h3⟩:=JX (by simpa using hl) h;exact⟨q+1,by simpa using h1,h2,h3⟩
structure hP (i:Nat) (st:RS):Prop where
 cnt:st.cnt=i
 ln:st.kind=⟨#[]⟩\/du cz st.ks st.cs≠ []
 j0:st.kind=⟨#[]⟩->st.js= []
 jl:(du bZ st.ks st.cs).length =st.js.length
 bl:(du ck st.ks st.cs).length =st.bs.length
 sl:(du cf st.ks st.cs).length =st.ss.length
 cb:∀ q,(cR st.cs q).length <=i
 jb:st.js.length<=i
 bb:st.bs.length<=i
 sb:st.ss.length<=i
 nb:st.nam.size<=1000000
 ab:∀ s∈st.ss,s.nam.size<=1000000/\s.acr.length<=1000000
theorem hP.zero:hP 0 nr:=⟨rfl,.inl rfl,λ_=>rfl,rfl,rfl,rfl,λq=>Xf 0,by simp [nr],by simp [nr],by simp [nr],Xy _,λs h=>by simp [nr]at h⟩
theorem hP.yl{i:Nat}{st:RS}(h:hP i st)(hi:i<=1000000):eo st.ei:=⟨h.nb,Xz h.jb hi,Xz h.bb hi,Xz h.sb hi,h.ab⟩
theorem hP.yo{i:Nat}{st:RS}(h:hP i st)(hi:i<=1000000):CJ st:=⟨Xz h.jb hi,Xz h.bb hi,Xz h.sb hi,λq=>Xz (h.cb q) hi⟩
theorem hP.skip{i:Nat}{st:RS}(h:hP i st)(l:List UInt8):hP (i+1) (cY st l):=
 ⟨by show st.cnt+1=_;rw [h.cnt];rfl,h.ln,h.j0,h.jl,h.bl,h.sl,λq=>X0 (h.cb q),X0 h.jb,X0 h.bb,X0 h.sb,h.nb,h.ab⟩
theorem VV{p:ByteArray}{w0:Wd}{ws:List Wd}(h:eV p w0 ws=(0,0)):fE p w0.txt=0/\jd w0.txt w0 ws=(0,0):=by
 unfold eV at h
 by_cases hk:fE p w0.txt=0
 ·rw [if_pos hk]at h;exact⟨hk,h⟩
 ·rw [if_neg hk]at h;injection h with h1 h2;exact absurd h2 hk
theorem RJ{p k:ByteArray}(h:fE p k=0)(hk:k≠cz):p≠⟨#[]⟩/\(k=bZ\/k=ck\/k=cf):=by
 unfold fE at h
 by_cases hp:cg p ⟨#[]⟩=true
 ·rw [if_pos hp,qD hk]at h;simp at h
 ·rw [if_neg hp]at h;refine⟨λe=>hp (by rw [e];exact gx _),?_⟩
  by_cases hin:(cg k bZ||cg k ck||cg k cf)=true
  ·simp only [X1]at hin;rcases hin with(h1|h1)|h1
   ·exact .inl (jT.1 h1)
   ·exact .inr (.inl (jT.1 h1))
   ·exact .inr (.inr (jT.1 h1))
  ·rw [if_neg hin]at h;simp at h
theorem JY{last:Wd}{ws:List Wd}(h:jH last ws):(cN ws).txt.size <=1000000:=by
 match ws,h with
 | [],_=>exact Xy _
 | w::ws,h=>exact(h.all w aN).2.2
theorem WS:(cz:ByteArray)≠⟨#[]⟩:=λh=>by have:=congrArg ByteArray.size h;revert this;decide
theorem WT:(bZ:ByteArray)≠⟨#[]⟩:=λh=>by have:=congrArg ByteArray.size h;revert this;decide
theorem WU:(ck:ByteArray)≠⟨#[]⟩:=λh=>by have:=congrArg ByteArray.size h;revert this;decide
theorem WV:(cf:ByteArray)≠⟨#[]⟩:=λh=>by have:=congrArg ByteArray.size h;revert this;decide
theorem lU{a b:ByteArray}(h:cg a b=false):¬ a=b:=λe=>by rw [e,gx]at h;cases h
theorem rQ(a b:ByteArray):cg a b=cg b a:=by
 cases h:cg a b with
 | true=>rw [jT.1 h,gx]
 | false=>cases h2:cg b a with
  | true=>rw [jT.1 h2,gx]at h;cases h
  | false=>rfl
theorem hP.step{i:Nat}{st:RS}(h:hP i st){l:List UInt8}{w0:Wd}{ws:List Wd}(hE:eV st.kind w0 ws=(0,0))(hW:jH w0 ws):hP (i+1) (dJ (cY st l) w0 ws):=by
 obtain⟨hk,hb⟩:=VV hE;have hc:(cY st l).cnt =((i+1:Nat):Int):=by show st.cnt+1=_;rw [h.cnt];rfl
 have ncl:=lU (rQ cz bZ ▸ uW);have nlb:=lU (rQ cz ck ▸ uX);have nls:=lU (rQ cz cf ▸ uY);have njl:=lU uW;have nbl:=lU uX;have nsl:=lU uY;have nbj:=lU uZ;have nsj:=lU u5;have nsb:=lU u6;have njb:=lU (rQ bZ ck ▸ uZ);have njs:=lU (rQ bZ cf ▸ u5);have nbs:=lU (rQ ck cf ▸ u6);have hcb:∀ k q,(cR ((cY st l).add k).cs q).length <=i+1:=λk=>Jo k _ _ _ i h.cb
 have lk:∀ k k',du k' ((cY st l).add k).ks ((cY st l).add k).cs =if k=k' then du k' st.ks st.cs++ [(cY st l).cnt]else du k' st.ks st.cs:=λk k'=>Jn k k' _ _ _
 have hwl:=hW.len;obtain⟨tx,c0⟩:=w0
 by_cases h1:tx=cz
 ·subst h1;simp only [dJ,gx,if_true];refine⟨hc,.inr (by show du cz ((cY st l).add cz).ks ((cY st l).add cz).cs ≠ [];rw [lk,if_pos rfl];simp),λe=>absurd e WS,?_,?_,?_,hcb _,X0 h.jb,X0 h.bb,X0 h.sb,JY hW,h.ab⟩
  ·show(du bZ ((cY st l).add cz).ks ((cY st l).add cz).cs).length =_;rw [lk,if_neg ncl];exact h.jl
  ·show(du ck ((cY st l).add cz).ks ((cY st l).add cz).cs).length =_;rw [lk,if_neg nlb];exact h.bl
  ·show(du cf ((cY st l).add cz).ks ((cY st l).add cz).cs).length =_;rw [lk,if_neg nls];exact h.sl
 obtain⟨hp,hcase⟩:=RJ hk h1;have hln:du cz st.ks st.cs≠ []:=h.ln.resolve_left hp;rcases hcase with rfl|rfl|rfl
 ·simp only [dJ,uW,gx,if_true,Xi,if_false];refine⟨hc,.inr (by show du cz ((cY st l).add bZ).ks ((cY st l).add bZ).cs ≠ [];rw [lk,if_neg njl];exact hln),λe=>absurd e WT,?_,?_,?_,hcb _,?_,X0 h.bb,X0 h.sb,h.nb,h.ab⟩
  ·show(du bZ ((cY st l).add bZ).ks ((cY st l).add bZ).cs).length =(st.js++ [_]).length;rw [lk,if_pos rfl];simp [h.jl]
  ·show(du ck ((cY st l).add bZ).ks ((cY st l).add bZ).cs).length =_;rw [lk,if_neg njb];exact h.bl
  ·show(du cf ((cY st l).add bZ).ks ((cY st l).add bZ).cs).length =_;rw [lk,if_neg njs];exact h.sl
  ·show(st.js++ [_]).length <=_;have:=h.jb;simp;omega
 ·simp only [dJ,uX,uZ,gx,if_true,Xi,if_false];refine⟨hc,.inr (by show du cz ((cY st l).add ck).ks ((cY st l).add ck).cs ≠ [];rw [lk,if_neg nbl];exact hln),λe=>absurd e WU,?_,?_,?_,hcb _,X0 h.jb,?_,X0 h.sb,h.nb,h.ab⟩
  ·show(du bZ ((cY st l).add ck).ks ((cY st l).add ck).cs).length =_;rw [lk,if_neg nbj];exact h.jl
  ·show(du ck ((cY st l).add ck).ks ((cY st l).add ck).cs).length =(st.bs++ [_]).length;rw [lk,if_pos rfl];simp [h.bl]
  ·show(du cf ((cY st l).add ck).ks ((cY st l).add ck).cs).length =_;rw [lk,if_neg nbs];exact h.sl
  ·show(st.bs++ [_]).length <=_;have:=h.bb;simp;omega
 ·simp only [dJ,uY,u5,u6,Xi,if_false];refine⟨hc,.inr (by show du cz ((cY st l).add cf).ks ((cY st l).add cf).cs ≠ [];rw [lk,if_neg nsl];exact hln),λe=>absurd e WV,?_,?_,?_,hcb _,X0 h.jb,X0 h.bb,?_,h.nb,?_⟩
  ·show(du bZ ((cY st l).add cf).ks ((cY st l).add cf).cs).length =_;rw [lk,if_neg nsj];exact h.jl
  ·show(du ck ((cY st l).add cf).ks ((cY st l).add cf).cs).length =_;rw [lk,if_neg nsb];exact h.bl
  ·show(du cf ((cY st l).add cf).ks ((cY st l).add cf).cs).length =(st.ss++ [_]).length;rw [lk,if_pos rfl];simp [h.sl]
  ·show(st.ss++ [_]).length <=_;have:=h.sb;simp;omega
  ·intro s hs;rcases Yg.1 hs with hs|hs
   ·exact h.ab s hs
   ·simp at hs;subst hs;exact⟨JY hW,by simp;omega⟩
theorem RL{l:aP}(h:(cx l).2≠0):(cx l).1.1=0/\(cx l).1.2=0\/(∃ i:Nat,(cx l).1.2=i/\((cx l).1.1=1/\i<l.js.length\/(cx l).1.1=2/\i<l.bs.length\/(cx l).1.1=3/\i<l.ss.length)):=by
 unfold cx at h ⊢
 split
 ·exact .inl ⟨rfl,rfl⟩
 split
 ·exact .inl ⟨rfl,rfl⟩
 split
 ·exact .inl ⟨rfl,rfl⟩
 rename_i h1 h2 h3
 rw [if_neg h1,if_neg h2,if_neg h3]at h;unfold iS at h ⊢
 split
 ·rename_i i hi;exact .inr ⟨i,rfl,.inl ⟨rfl,(tQ hi).2⟩⟩
 split
 ·rename_i i hi;exact .inr ⟨i,rfl,.inr (.inl ⟨rfl,(tQ hi).2⟩)⟩
 split
 ·exact .inl ⟨rfl,rfl⟩
 split
 ·rename_i i hi;exact .inr ⟨i,rfl,.inr (.inr ⟨rfl,(tQ hi).2⟩)⟩
 ·exact .inl ⟨rfl,rfl⟩
theorem hP.row{i:Nat}{st:RS}(h:hP i st)(hj:st.js.length≠0)(he:(cx st.ei).2≠0):(0<=(cx st.ei).1.1/\(cx st.ei).1.1<=3)/\0<=(cx st.ei).1.2/\(cx st.ei).1.2<(du (qX (cx st.ei).1.1) st.ks st.cs).length :=by
 have hln:du cz st.ks st.cs≠ []:=h.ln.resolve_left λe=>hj (by rw [h.j0 e];rfl)
 have hln':=XJ.2 hln;rcases RL he with⟨h1,h2⟩|⟨k,h1,⟨h2,h3⟩|⟨h2,h3⟩|⟨h2,h3⟩⟩
 ·rw [h1,h2];exact⟨ah,ah,by show(0:Int)<((du cz st.ks st.cs).length :Int);omega⟩
 ·rw [h1,h2];exact⟨ah,ah,by show(k:Int)<((du bZ st.ks st.cs).length :Int);rw [h.jl];exact Int.ofNat_lt.2 h3⟩
 ·rw [h1,h2];exact⟨ah,ah,by show(k:Int)<((du ck st.ks st.cs).length :Int);rw [h.bl];exact Int.ofNat_lt.2 h3⟩
 ·rw [h1,h2];exact⟨ah,ah,by show(k:Int)<((du cf st.ks st.cs).length :Int);rw [h.sl];exact Int.ofNat_lt.2 h3⟩
theorem Jp{l:List UInt8}(hl:l.length<=100000):∀ (f a:Nat),(ly l f a).length <=f/\ ∀ w∈ly l f a,CE w
 | 0,a=>⟨by simp [ly],λw h=>by simp [ly]at h⟩
 | f+1,a=>by
  simp only [ly]
  split
  ·exact⟨aN,λw h=>by simp at h⟩
  ·have ih:=Jp hl f (hG l a+(fB l a).length);have h1:=zJ l a;have h2:=Gy l a;have h3:=AB l a;refine⟨by simp;exact ih.1,λw hw=>?_⟩;rcases XM.1 hw with rfl|hw
   ·refine⟨by show(-1000000000:Int)<=(hG l a:Int)+1;omega,by show(hG l a:Int)+1<=1000000000;omega,by show(bs (fB l a)).size <=_;rw [ql];omega⟩
   ·exact ih.2 w hw
theorem BX{l:List UInt8}(hl:l.length<=60000){w0:Wd}{ws:List Wd}(h:eN l 0=w0::ws):jH w0 ws/\ws.length<=100000:=by
 have h1:=Jp (l:=l) ah (l.length+1 - 0) 0;have h2:ly l (l.length+1 - 0) 0=w0::ws:=h;rw [h2]at h1;obtain⟨h3,h4⟩:=h1;simp at h3;exact⟨⟨h4 w0 aN,ah,λw hw=>h4 w (by simp [hw])⟩,ah⟩
structure PI (tx:List UInt8) (i:Nat) (st:RS) (R:lV):Prop where
 go:jE st (((dX tx).map e7).drop i)=R
 le:i<=(dX tx).length
 rw':hP i st
theorem PI.drop{tx:List UInt8}{i:Nat}{st:RS}{R:lV}{l:List UInt8}(h:PI tx i st R)(hl:(dX tx)[i]? =some l):jE st (e7 l::((dX tx).map e7).drop (i+1))=R:=by
 rw [<- h.go]
 congr 1
 have hi:=(Xe.1 hl).1;have hd:=Ys (l:=(dX tx).map e7) (i:=i) (by rw [XK];exact hi);rw [hd]
 congr 1
 rw [List.getElem_map];have:=(Xe.1 hl).2;rw [this]
theorem PI.skip{tx:List UInt8}{i:Nat}{st:RS}{R:lV}{l:List UInt8}(h:PI tx i st R)(hl:(dX tx)[i]? =some l)(hn:eN (e7 l) 0= []):PI tx (i+1) (cY st (e7 l)) R:=by
 have h1:=h.drop hl;rw [jE,hn]at h1;exact⟨h1,(Xe.1 hl).1,h.rw'.skip _⟩
theorem PI.stop{tx:List UInt8}{i:Nat}{st:RS}{R:lV}{l:List UInt8}{w0:Wd}{ws:List Wd}{c e:Int}(h:PI tx i st R)(hl:(dX tx)[i]? =some l)(hn:eN (e7 l) 0=w0::ws)(he:e≠0)(hr:eV st.kind w0 ws=(c,e)):R=⟨zL,(i:Int)+1,c,e⟩:=by
 have h1:=h.drop hl;rw [jE,hn]at h1;simp only [hr]at h1;rw [if_neg (λhq=>he (by injection hq)),h.rw'.cnt]at h1;exact h1.symm
theorem PI.step{tx:List UInt8}{i:Nat}{st:RS}{R:lV}{l:List UInt8}{w0:Wd}{ws:List Wd}(h:PI tx i st R)(hl:(dX tx)[i]? =some l)(hn:eN (e7 l) 0=w0::ws)(hW:jH w0 ws)(hr:eV st.kind w0 ws=(0,0)):PI tx (i+1) (dJ (cY st (e7 l)) w0 ws) R:=by
 have h1:=h.drop hl;rw [jE,hn]at h1;simp only [hr,if_true]at h1;exact⟨h1,(Xe.1 hl).1,h.rw'.step hr hW⟩
theorem PI.last{tx:List UInt8}{st:RS}{R:lV}(h:PI tx (dX tx).length st R):R=pn st:=by
 rw [<- h.go,YE aN];rfl
theorem zj:∀ args w,(callFunc 76 args).run Tryz.prog w= .ok (.enter 76 args) w:=λ_ _=>by kernel_rfl
theorem zk:∀ args w,(callFunc 77 args).run Tryz.prog w= .ok (.enter 77 args) w:=λ_ _=>by kernel_rfl
theorem zP:bO Tryz.prog 85 3 1 8 (.int .i64 0):=⟨ai,ai,ai⟩
theorem UT:aQ Tryz.prog 3 false 1:=⟨ai,ai⟩
theorem G0{n:Int}(h:In64 n):(itoa n).length <=21:=itoa_length_le n (by unfold In64 at h;omega) (by unfold In64 at h;omega)
def nT(n:Int):List UInt8:=32::itoa n
def hH(s:List UInt8)(ns:List Int)(k:Nat):List UInt8:=s++((ns.take k).map nT).flatten
def rowT(s:List UInt8)(ns:List Int):List UInt8:=hH s ns ns.length++ [10]
theorem Es{s:List UInt8}{ns:List Int}{k:Nat}{n:Int}(h:ns[k]? =some n):hH s ns (k+1)=hH s ns k++ [32]++itoa n:=by
 unfold hH;rw [YK,h];simp [nT]
theorem zQ{s:List UInt8}{ns:List Int}(hi:∀ n∈ns,In64 n):∀ k,(hH s ns k).length <=s.length+22*k
 | 0=>by simp [hH]
 | k+1=>by
  have ih:=zQ (s:=s) hi k;cases hq:ns[k]? with
  | none=>
   have hl:ns.length<=k:=by simpa using hq
   unfold hH at ih ⊢;rw [Yp ah];rw [Yp hl]at ih;omega
  | some n=>
   have:=G0 (hi n (Xp hq));rw [Es hq];simp only [XD,Xo,Xs];omega
theorem W6(a b:List UInt8):(a.map bE)++((bs b).data.toList.map bE)=(a++b).map bE:=by rw [lI,YB]
theorem W7(a:List UInt8)(c:UInt8):(a.map bE)++ [bE c]=(a++ [c]).map bE:=by rw [YB];rfl
theorem BC(c:UInt8)(k:Int)(hk:(c.toNat:Int)=k)(x:List UInt8)(he:x.length<=1000000000):kP Tryz.prog [] 77 [.ptr 1 0,.v (.int .u8 k)] [.box 109 [.ptr 1 0,.own 2],.row 5 1 (x.map bE)] (.v .nilIface) [.box 109 [.ptr 1 0,.own 3],.gone,.row 5 1 ((x++ [c]).map bE)]:=by
 have h:=KL c (x.map bE) (by rw [XK];exact he);rw [hk,W7]at h;exact h
theorem Jq(s x:List UInt8)(hs:s.length<=1000000)(he:x.length<=1000000000):kP Tryz.prog [] 76 [.ptr 1 0,.v (.string (bs s))] [.box 109 [.ptr 1 0,.own 2],.row 5 1 (x.map bE)] (.tuple [.v (.int .i64 (bs s).size),.v .nilIface]) [.box 109 [.ptr 1 0,.own 3],.gone,.row 5 1 ((x++s).map bE)]:=by
 have h:=KF (bs s) (x.map bE) (by rw [ql];exact hs) (by rw [XK];exact he);rw [W6]at h;exact h
section
variable (es er:Value)
theorem wc(tx x:List UInt8)(ns:List Int)(hs:tx.length<=1000)(hx:x.length<=100000000)(hn:ns.length<=1000)(hi:∀ n∈ns,In64 n):kP Tryz.prog (gX es er) 40 [.ptr 1 0,.v (.string (bs tx)),.row 1 (ns.map iE)] [.box 109 [.ptr 1 0,.own 2],.row 5 1 (x.map bE)] (.tuple []) [.box 109 [.ptr 1 0,.own 3],.gone,.row 5 1 ((x++rowT tx ns).map bE)]:=by
 have hW0:=Jq tx x ah ah;rw [show x++tx=x++hH tx ns (Int.toNat 0)by simp [hH]]at hW0;refine qj (fn:=Tryz.f40) (gX es er) 26 ai rfl ai aU ?_;intro aP bZ hA an;have aQ:ak aP (.tmp 0)=_:=hA 0 _ rfl;have a8:ak aP (.tmp 1)=_:=hA 1 _ rfl;have a9:ak aP (.tmp 2)=_:=hA 2 _ rfl;have aF:bZ.length=3:=by rw [an];rfl
 have ba:=qN an;have aR:=sy an;have aS:=xR an;clear hA an;refine au<|at_<|ar (al aQ) rfl<|ar (al (ae a8)) rfl<|aL (jy (jw (hW0) [1,2] aF (aE (ae aa) (aE aa aM)) mm aD (.ob aR (.ob aS .nil)) rfl zj) (kf rfl)) trivial rfl (λaT ap=>?_)
 have bb:aT[1]? =some _:=iz ap aU aD (eK aR (eK aS iG)) 0 rfl rfl
 (try simp only [Ob.rn,rn,rn.rnL,rho,Xo,Xs,XA,Xw,XB,Nat.reduceAdd,Nat.reduceSub,Xr,Xx]at bb)
 have bc:=dW ap aU ba aD;have be:aT[3]? =some _:=lH ap aU aF 0 rfl
 (try simp only [Ob.rn,rn,rn.rnL,rho,Xo,Xs,XA,Xw,XB,Nat.reduceAdd,Nat.reduceSub,Xr,Xx]at be)
 have b0:_=4:=jk ap aF 1 rfl;clear ap ba aR aS aF;refine bq (ae (ag aQ)) (ae (ag a9)) ?_;clear aQ a8 a9;intro ck bg bh;refine ao<|au<|au<|at_<|ar (al bh) rfl<|ar (ax (ca aa rfl zP.1) b7) rfl ?_
 refine ar (al ay) rfl<|bp (ae (ag bg)) (ag aa) (ae aa) aa ?_;clear bg bh;intro aX bm br bu b1
 refine ao<|bV<|eu (S:=(Int×Nat)) (λs e mem=>match s with|⟨i,jr⟩=>(ak e (.tmp 13)= .v (.int .i64 i))/\(ak e (.tmp 0)=ak aX (.tmp 0))/\(ak e (.tmp 11)=ak aX (.tmp 11))/\(ak e (.tmp 12)=ak aX (.tmp 12))/\(mem[1]? =some (.box 109 [.ptr 1 0,.own jr]))/\(mem[jr]? =some (.row 5 1 ((x++hH tx ns i.toNat).map bE)))/\(mem[0]? =aT[0]?)/\(∃ n,mem.length=n/\4<=n)/\((0<=i/\i<=ns.length/\3<=jr))) (λs=>match s with|⟨i,jr⟩=>(ns.length - i).toNat) ⟨0,3⟩ ⟨b1,rfl,rfl,rfl,bb,be,rfl,⟨_,b0,Xf _⟩,?_⟩ ?_
 ·exact⟨ah,ah,ah⟩
 ·rintro⟨i,jr⟩ cm cn ⟨aY,b2,b6,b8,am,af,b9,⟨ad,ab,co⟩,hinv⟩;have bv:=b2.trans bm;have bw:=b6.trans br;have aZ:=b8.trans bu;have aG:=b9.trans bc;have cr:=cV af ab
  (obtain⟨p1,p2,p3⟩:=hinv;have hK1:=zQ (s:=tx) hi i.toNat)
  refine au<|at_<|ar (cU aY aZ) rfl<|bR (ae bv) (ae bw) (ae aZ) (ae aY) aa ?_;clear bv bw aZ aY;intro cu aH aI a2 aJ a3
  refine ao<|au<|bj a3 (λav=>?_) (λav=>?_)
  ·replace av:=bt av
   (have hmem:ns[i.toNat]? =some (ns.getD i.toNat default):=(by rw [Xd (show i.toNat<ns.length by omega),Xc,Xd (show i.toNat<ns.length by omega)];rfl);have hmi:=hi _ (Xp hmem);have hil:=G0 hmi;have hstep:=Es (s:=tx) hmem;have hW:=Jq (itoa (ns.getD i.toNat default)) (x++hH tx ns i.toNat++ [32]) ah cJ;rw [show x++hH tx ns i.toNat++ [32]++itoa (ns.getD i.toNat default)=x++hH tx ns (i+1).toNat by rw [show(i+1).toNat =i.toNat+1 by omega,hstep];simp]at hW)
   refine bC<|ao<|au<|bV<|au<|at_<|ar (ax (cP zP aI aJ ah (by(refine cO ?_;omega))) bk) rfl ?_
   refine ar (ax (bF UT rfl aa az) bk) rfl ?_;refine ar (aB aa) rfl<|bR (ae (ag aH)) aa (ae (ag aI)) (ae (ag a2)) (ae (ag aJ)) ?_;clear aH aI a2 aJ a3;intro cw a5 bx bz bA bB
   refine ao<|au<|at_<|ar (al a5) rfl<|aL (jy (jw ((BC 32 32 rfl (x++hH tx ns i.toNat) cJ)) [1,jr] ab (aE aa (aE ay aM)) mm bo (.ob am (.ob af .nil)) rfl zk) (kf rfl)) trivial rfl (λbD aw=>?_)
   have aK:bD[1]? =some _:=iz aw aU bo (eK am (eK af iG)) 0 rfl rfl
   (try simp only [Ob.rn,rn,rn.rnL,rho,Xo,Xs,XA,Xw,XB,Nat.reduceAdd,Nat.reduceSub,Xr,Xx]at aK)
   have a6:=dW aw aU aG bo;have aN:bD[ad]? =some _:=lH aw aU ab 0 rfl
   (try simp only [Ob.rn,rn,rn.rnL,rho,Xo,Xs,XA,Xw,XB,Nat.reduceAdd,Nat.reduceSub,Xr,Xx]at aN)
   have aO:_=ad+1:=jk aw ab 1 rfl;clear aw am af aG ab;refine bR (ag a5) (ag bx) (ag bz) (ag bA) (ag bB) ?_;clear a5 bz bA bB bx;intro cx a7 bG bH bI bJ;refine ao<|at_<|ar (al a7) rfl<|ar (al (ae bG)) rfl<|ar (tg (aE aa aM) rfl a6 (Aj es er (ns.getD i.toNat default) hmi) AT) rfl<|aL (jy (jw (hW) [1,ad] aO (aE (ag aa) (aE aa aM)) mm bo (.ob aK (.ob aN .nil)) rfl zj) (kf rfl)) trivial rfl (λbL aA=>?_)
   have bM:bL[1]? =some _:=iz aA aU bo (eK aK (eK aN iG)) 0 rfl rfl
   (try simp only [Ob.rn,rn,rn.rnL,rho,Xo,Xs,XA,Xw,XB,Nat.reduceAdd,Nat.reduceSub,Xr,Xx]at bM)
   have cb:=dW aA aU a6 bo;have bN:bL[ad+1]? =some _:=lH aA aU aO 0 rfl
   (try simp only [Ob.rn,rn,rn.rnL,rho,Xo,Xs,XA,Xw,XB,Nat.reduceAdd,Nat.reduceSub,Xr,Xx]at bN)
   have cc:_=ad+1+1:=jk aA aO 1 rfl;clear aA aK a6 aN aO;refine bp (aj a7) (aj bH) (aj bI) (aj bJ) ?_;clear a7 bH bI bJ bG;intro cy bO bP bQ bS;refine cK<|ao<|at_ ?_
   (refine ar (cv bS ay ?_) rfl ?_; · (unfold In64;omega))
   refine ar (al aa) rfl<|bp (ag bO) (ag bP) (ag bQ) aa ?_;clear bO bP bQ bS;intro cz cd ce cf cg
   refine ao<|⟨⟨_,_⟩,⟨cg,(cd.trans bm.symm),(ce.trans br.symm),(cf.trans bu.symm),bM,bN,(cb.trans bc.symm),⟨_,cc,ah⟩,?_⟩,?_⟩
   ·exact⟨ah,ah,ah⟩
   ·((try dsimp only);omega)
  replace av:=bf av;have hend:x++hH tx ns i.toNat++ [10]=x++rowT tx ns:=(by rw [show i.toNat=ns.length by omega];simp [rowT]);refine dV<|cB<|cB<|dU<|ao<|at_<|ar (al aH) rfl<|aL (jy (jw ((BC 10 10 rfl (x++hH tx ns i.toNat) cJ)) [1,jr] ab (aE aa (aE ay aM)) mm bo (.ob am (.ob af .nil)) rfl zk) (kf rfl)) trivial rfl (λbT aC=>?_)
  have bW:bT[1]? =some _:=iz aC aU bo (eK am (eK af iG)) 0 rfl rfl
  (try simp only [Ob.rn,rn,rn.rnL,rho,Xo,Xs,XA,Xw,XB,Nat.reduceAdd,Nat.reduceSub,Xr,Xx]at bW)
  have ci:=dW aC aU aG bo;have bY:bT[ad]? =some _:=lH aC aU ab 0 rfl
  (try simp only [Ob.rn,rn,rn.rnL,rho,Xo,Xs,XA,Xw,XB,Nat.reduceAdd,Nat.reduceSub,Xr,Xx]at bY)
  have cj:_=ad+1:=jk aC ab 1 rfl;clear aC am af aG ab;refine nh ?_;clear aH aI a2 aJ a3;intro cA;refine qz (.inl rfl) [1,2,ad] cj ci bo rfl (nR ai) (lO bW ?_ (.gone (lO bY ?_ .nil))) ?_
  all_goals ((first|rfl|(rw [hend];rfl)))
theorem OM(tx:List UInt8)(hs:tx.length<=1000):kP Tryz.prog (gX es er) 40 [.ptr 1 0,.v (.string (bs tx)),.v (.slice none 0 0)] [.box 109 [.v (.pointer none),.v (.slice none 0 0)]] (.tuple []) [.box 109 [.ptr 1 0,.own 2],.row 5 1 ((rowT tx []).map bE)]:=by
 have hW0:=Ky (bs tx) (by rw [ql];omega);rw [lI]at hW0;refine qj (fn:=Tryz.f40) (gX es er) 26 ai rfl ai aU ?_;intro av a3 hA am;have aw:ak av (.tmp 0)=_:=hA 0 _ rfl;have aH:ak av (.tmp 1)=_:=hA 1 _ rfl;have aI:ak av (.tmp 2)=_:=hA 2 _ rfl;have an:a3.length=2:=by rw [am];rfl
 have aJ:=qN am;have ax:=sy am;clear hA am;refine au<|at_<|ar (al aw) rfl<|ar (al (ae aH)) rfl<|aL (jy (jw (hW0) [1] an (aE (ae aa) (aE aa aM)) mm aD (.ob ax .nil) rfl zj) (kf rfl)) trivial rfl (λad af=>?_)
 have aK:ad[1]? =some _:=iz af aU aD (eK ax iG) 0 rfl rfl
 (try simp only [Ob.rn,rn,rn.rnL,rho,Xo,Xs,XA,Xw,XB,Nat.reduceAdd,Nat.reduceSub,Xr,Xx]at aK)
 have a5:=dW af aU aJ aD;have aN:ad[2]? =some _:=lH af aU an 0 rfl
 (try simp only [Ob.rn,rn,rn.rnL,rho,Xo,Xs,XA,Xw,XB,Nat.reduceAdd,Nat.reduceSub,Xr,Xx]at aN)
 have a6:_=3:=jk af an 1 rfl;clear af aJ ax an;refine bq (ae (ag aw)) (ae (ag aI)) ?_;clear aw aH aI;intro bx aO aP;refine ao<|au<|au<|at_<|ar (al aP) rfl<|ar (LU aa rfl zP.1) rfl<|ar (al ay) rfl<|bp (ae (ag aO)) (ag aa) (ae aa) aa ?_;clear aO aP;intro az a7 a8 a9 ba
 refine ao<|bV<|eu (S:=Int) (λi e mem=>(ak e (.tmp 13)= .v (.int .i64 i))/\(ak e (.tmp 0)=ak az (.tmp 0))/\(ak e (.tmp 11)=ak az (.tmp 11))/\(ak e (.tmp 12)=ak az (.tmp 12))/\(mem[1]? =ad[1]?)/\(mem[0]? =ad[0]?)/\(mem[2]? =ad[2]?)/\(∃ n,mem.length=n/\3<=n)/\((i=0))) (λi=>0) 0 ⟨ba,rfl,rfl,rfl,rfl,rfl,rfl,⟨_,a6,Xf _⟩,?_⟩ ?_
 ·rfl
 ·rintro i bz bA ⟨aA,bb,bc,be,bg,bh,bk,⟨aB,ap,bB⟩,hinv⟩;have aQ:=bb.trans a7;have aR:=bc.trans a8;have aC:=be.trans a9;have aF:=bg.trans aK;have aS:=bh.trans a5;have aG:=bk.trans aN
  (subst hinv)
  refine au<|at_<|ar (cU aA aC) rfl<|bR (ae aQ) (ae aR) (ae aC) (ae aA) aa ?_;clear aQ aR aC aA;intro bC aT bm br bu aX
  refine ao<|au<|bj aX (λab=>?_) (λab=>?_)
  ·replace ab:=bt ab;cases ab
  replace ab:=bf ab;refine dV<|cB<|cB<|dU<|ao<|at_<|ar (al aT) rfl<|aL (jy (jw ((BC 10 10 rfl tx ah)) [1,2] ap (aE aa (aE ay aM)) mm aD (.ob aF (.ob aG .nil)) rfl zk) (kf rfl)) trivial rfl (λaY aj=>?_)
  have aZ:aY[1]? =some _:=iz aj aU aD (eK aF (eK aG iG)) 0 rfl rfl
  (try simp only [Ob.rn,rn,rn.rnL,rho,Xo,Xs,XA,Xw,XB,Nat.reduceAdd,Nat.reduceSub,Xr,Xx]at aZ)
  have bv:=dW aj aU aS aD;have a2:aY[aB]? =some _:=lH aj aU ap 0 rfl
  (try simp only [Ob.rn,rn,rn.rnL,rho,Xo,Xs,XA,Xw,XB,Nat.reduceAdd,Nat.reduceSub,Xr,Xx]at a2)
  have bw:_=aB+1:=jk aj ap 1 rfl;clear aj aF aS aG ap;refine nh ?_;clear aT bm br bu aX;intro bD;refine qz (.inl rfl) [1,aB] bw bv bo rfl (nR ai) (lO aZ ?_ (lO a2 ?_ .nil)) ?_
  all_goals ((first|rfl|(simp [rowT,hH];rfl)))
end
end Go.Proofs.YtbmlgmblfboigaaGreatDoor
namespace Go.Proofs.YtbmlgmblfboigaaGreatDoor
open Go Go.RowKit Go.Proofs Go.Shelf Go.Lib
theorem ON:(Tryz.prog.info? 109).bind (·.zero)=some (.agg #[.pointer none,.slice none 0 0]):=by kernel_rfl
theorem s8:∀ args w,(callFunc 40 args).run Tryz.prog w= .ok (.enter 40 args) w:=λ_ _=>by kernel_rfl
theorem OO:∀ args w,(callFunc 41 args).run Tryz.prog w= .ok (.enter 41 args) w:=λ_ _=>by kernel_rfl
theorem G1:bO Tryz.prog 23 59 4 32 (.agg #[.int .i64 0,.int .i64 0,.int .i64 0,.int .i64 0]):=⟨ai,ai,ai⟩
theorem G2:bO Tryz.prog 24 95 2 16 (.agg #[.int .i64 0,.int .i64 0]):=⟨ai,ai,ai⟩
theorem G3:bO Tryz.prog 25 97 3 48 (.agg #[.string ByteArray.empty,.int .i64 0,.slice none 0 0]):=⟨ai,ai,ai⟩
theorem tt:bO Tryz.prog 85 3 1 8 (.int .i64 0):=⟨ai,ai,ai⟩
theorem RN:aQ Tryz.prog 23 false 1:=⟨ai,ai⟩
theorem G4:aQ Tryz.prog 24 false 1:=⟨ai,ai⟩
theorem RO:aQ Tryz.prog 25 false 1:=⟨ai,ai⟩
theorem RP:aQ Tryz.prog 27 true 4:=⟨ai,ai⟩
theorem mh:aQ Tryz.prog 3 false 1:=⟨ai,ai⟩
theorem RQ:aQ Tryz.prog 59 true 4:=⟨ai,ai⟩
theorem RR:aQ Tryz.prog 85 false 1:=⟨ai,ai⟩
theorem Ix:aQ Tryz.prog 9 false 1:=⟨ai,ai⟩
theorem RU:aQ Tryz.prog 97 true 3:=⟨ai,ai⟩
def q9:List UInt8:= [108,105,110,101,32]
def l3:List UInt8:= [106,111,105,110,116]
def l4:List UInt8:= [98,101,97,109]
def pI:List UInt8:= [115,119,105,116,99,104,32]
def yp(b:fY):List UInt8:=rowT l4 [b.len,b.cant]
def sO(j:ep):List UInt8:=rowT l3 [j.acr,j.up,j.lo,j.hi]
def sP(s:eU):List UInt8:=rowT (pI++s.nam.data.toList) (s.fst::s.acr)
def oe(l:aP):List UInt8:=rowT (q9++l.nam.data.toList) []
def pJ(l:aP)(i:Nat):List UInt8:=(if i=0 then []else yp (l.bs.getD (i - 1) default))++sO (l.js.getD i default)
def gC(l:aP)(k:Nat):List UInt8:=oe l++((List.range k).map (pJ l)).flatten
def jI(l:aP)(k:Nat):List UInt8:=gC l l.js.length++((l.ss.take k).map sP).flatten
def ow(l:aP):List UInt8:=jI l l.ss.length
theorem zR(l:aP)(k:Nat):gC l (k+1)=gC l k++pJ l k:=by
 unfold gC;rw [YD];simp
theorem G5{l:aP}{k:Nat}{s:eU}(h:l.ss[k]? =some s):jI l (k+1)=jI l k++sP s:=by
 unfold jI;rw [YK,h];simp
theorem G6(l:aP):jI l 0=gC l l.js.length:=by simp [jI]
theorem we{s:List UInt8}{ns:List Int}(hi:∀ n∈ns,In64 n):(rowT s ns).length <=s.length+22*ns.length+1:=by
 have:=zQ (s:=s) hi ns.length;simp [rowT];omega
theorem xX{j:ep}(h:iP j=0):∀ n∈ [j.acr,j.up,j.lo,j.hi],-20000<=n/\n<=20000:=by
 unfold iP at h
 split at h
 ·rename_i hb
  unfold g8 eR dx at hb;simp only [Xg,decide_eq_true_eq]at hb;intro n hn;simp at hn;rcases hn with rfl|rfl|rfl|rfl<;>omega
 ·cases h
theorem uF{b:fY}(h:iQ b=0):∀ n∈ [b.len,b.cant],-30000<=n/\n<=30000:=by
 unfold iQ at h
 split at h
 ·rename_i hb
  unfold lR eR dx at hb;simp only [Xg,decide_eq_true_eq]at hb;intro n hn;simp at hn;rcases hn with rfl|rfl<;>omega
 ·cases h
theorem xY{l:aP}(h:cM l){i:Nat}(hi:i<l.ss.length):(l.ss.getD i default).nam.size <=12/\(l.ss.getD i default).acr.length <=40/\ ∀ n∈(l.ss.getD i default).fst ::(l.ss.getD i default).acr,-30000<=n/\n<=30000:=by
 have h0:=h.sa i hi;have hb:=h.n1;unfold fq at h0
 split at h0
 ·cases h0
 split at h0
 ·cases h0
 split at h0
 ·cases h0
 split at h0
 ·cases h0
 split at h0
 ·cases h0
 rename_i h1 h2 h3 h4 h5
 generalize l.ss.getD i default=s at*;have hn:dF s.nam=true:=by simpa using h1
 unfold dF at hn;simp only [Xg,decide_eq_true_eq]at hn;have hw:dx s.fst 1 (l.bs.length - s.acr.length)=true:=by simpa using h4
 unfold dx at hw;simp only [Xg,decide_eq_true_eq]at hw;refine⟨hn.2,ah,λn hm=>?_⟩;rcases XM.1 hm with rfl|hm
 ·omega
 ·have h6:(s.acr.any λn=> !eR n 20000)=false:=by simpa using h5
  rw [List.any_eq_false]at h6;have:=h6 n hm;unfold eR dx at this;simp only [Bool.not_eq_true,Bool.not_eq_false',Xg,decide_eq_true_eq]at this;omega
theorem tZ{l:List Int}(h:∀ n∈l,-30000<=n/\n<=30000):∀ n∈l,In64 n:=λn hn=>by have:=h n hn;unfold In64;omega
theorem zS{l:List Int}(h:∀ n∈l,-20000<=n/\n<=20000):∀ n∈l,In64 n:=λn hn=>by have:=h n hn;unfold In64;omega
theorem BD{l:aP}(h:cM l):l.nam.size<=12:=by
 have:=h.nam;unfold dF at this;simp only [Xg,decide_eq_true_eq]at this;exact this.2
theorem RV{l:aP}(h:cM l):(oe l).length <=20:=by
 have h1:=BD h;have h2:l.nam.data.toList.length=l.nam.size:=rfl;have h3:q9.length=5:=rfl;simp [oe,rowT,hH];omega
theorem UU{l:aP}(h:cM l){k:Nat}(hk:k<l.js.length):(pJ l k).length <=200:=by
 have h1:=we (s:=l3) (zS (xX (h.ja k hk)));have h3:l3.length=5:=rfl;have h4:l4.length=4:=rfl;have hj:=h.js;unfold pJ;simp only [XD]
 split
 ·simp only [sO,Xs,Xo]at h1 ⊢;omega
 ·have h2:=we (s:=l4) (tZ (uF (h.ba (k - 1) ah)));simp only [sO,yp,Xs,Xo]at h1 h2 ⊢;omega
theorem AK{l:aP}(h:cM l):∀ k,k<=l.js.length->(gC l k).length <=20+200*k
 | 0,_=>by have:=RV h;simp [gC];omega
 | k+1,hk=>by
  have h1:=AK h k ah;have h2:=UU h (k:=k) ah;rw [zR];simp only [XD];omega
theorem UW{l:aP}(h:cM l){i:Nat}(hi:i<l.ss.length):(sP (l.ss.getD i default)).length <=1000:=by
 obtain⟨h1,h2,h3⟩:=xY h hi;have h4:=we (s:=pI++(l.ss.getD i default).nam.data.toList) (tZ h3);have h5:(l.ss.getD i default).nam.data.toList.length =(l.ss.getD i default).nam.size :=rfl;have h6:pI.length=7:=rfl;simp only [sP,XD,Xo]at h4 ⊢;omega
theorem xc{l:aP}(h:cM l):∀ k,k<=l.ss.length->(jI l k).length <=20+200*l.js.length+1000*k
 | 0,_=>by have:=AK h l.js.length (Xf _);rw [G6];omega
 | k+1,hk=>by
  have h1:=xc h k ah;have h2:=UW h (i:=k) ah;have hm:l.ss[k]? =some (l.ss.getD k default):=by rw [Xc,Xd (show k<l.ss.length by omega)];rfl
  rw [G5 hm];simp only [XD];omega
theorem UX(l:aP)(k:Nat):0<(jI l k).length :=by simp [jI,gC,oe,rowT];omega
theorem Wv{l:aP}{i:Int}(h0:0<=i)(h:i<l.ss.length):l.ss[i.toNat]? =some (l.ss.getD i.toNat default):=by rw [Xc,Xd (show i.toNat<l.ss.length by omega)];rfl
theorem UY(l:List Int):(l.map iE).flatten.all lr=true:=by
 induction l with
 | nil=>rfl
 | cons a l ih=>simp only [XI,XT,List.all_append,ih,YR];rfl
section
variable (es er:Value)
theorem OP(l:aP)(hl:eo l)(hg:(cx l).2=0):iH Tryz.prog (gX es er) 11 [dL l] (λq=>q= .tuple [.v (.string (bs (ow l))),mA 0]):=by
 have hR:=kJ hg;have hn1:=hR.n1;have hjs:=hR.js;have hs1:=hR.s1;obtain⟨nm,hnm⟩:∃ nm,l.nam=bs nm:=⟨l.nam.data.toList,(tV _).symm⟩;have hnz:nm.length<=12:=by have:=BD hR;rw [hnm,ql]at this;exact this
 have hh:oe l=rowT (q9++nm) []:=by unfold oe;rw [hnm,lI]
 have hL:q9.length=5:=rfl;have hJ5:l3.length=5:=rfl;have hB4:l4.length=4:=rfl;have hS7:pI.length=7:=rfl;have w0:(⟨#[108,105,110,101,32]⟩:ByteArray)=bs q9:=rfl;have w1:(⟨#[106,111,105,110,116]⟩:ByteArray)=bs l3:=rfl;have w2:(⟨#[98,101,97,109]⟩:ByteArray)=bs l4:=rfl;have w3:(⟨#[115,119,105,116,99,104,32]⟩:ByteArray)=bs pI:=rfl;have z0:(⟨#[108,105,110,101,32]⟩:ByteArray).size =5:=rfl;have z3:(⟨#[115,119,105,116,99,104,32]⟩:ByteArray).size =7:=rfl;have hnl0:=BD hR;have hF:=OM es er (q9++nm) cJ;rw [<- hh,show oe l=gC l (Int.toNat 0)by simp [gC], <- Jf, <- hnm]at hF;refine tf (fn:=Tryz.f11) (gX es er) 81 ai rfl ai aU ?_;intro gg dX hA cX;have dY:ak gg (.tmp 0)=_:=hA 0 _ rfl;have cY:dX.length=1:=by rw [cX];rfl
 have ea:dX[0]? =some (.bT (gX es er)):=by rw [cX];rfl
 clear hA cX;refine au<|at_<|aL (cZ dY rfl cY) trivial rfl (λhY cb=>?_)
 have c6:=bu cb cY;have eb:=aK cb ea;have bI:=br cb cY;have bI:_=2:=bI;clear cb ea;refine ar (aB ay) rfl<|ar (aB ay) rfl<|aY (ag aa) ?_;clear dY;intro hZ c7
 refine ao<|au<|au<|at_<|ar (ax (aH RP rfl c6 c7 az) fe) rfl ?_
 refine ar (bh (aE aa aM) rfl (FC l hl hg ah (λj hj=>by have h_:=uF (hR.ba j hj) _ (YJ ..);have h2_:=hR.ba j hj;unfold iQ at h2_;split at h2_<;>(rename_i hb_;unfold lR dx at hb_;simp only [Xg,decide_eq_true_eq]at hb_;omega))) qp) rfl ?_;refine ar (al aa) rfl<|ar (cI aa rfl) rfl<|ar (cI (ae aa) rfl) rfl<|ar (aB (ae aa)) rfl<|ar (aB (ae aa)) rfl<|bq (ae (ag (aj c7))) aa ?_;clear c7;intro h6 ec c8
 refine ao<|au<|at_<|ar (al c8) rfl<|ar (dB aa ay) rfl<|bJ (ag ec) (ag c8) aa ?_;clear ec c8;intro h7 ed gh ee
 refine ao<|bj ee (λbL=>?_) (λbL=>?_)
 ·replace bL:=dR bL;exfalso;omega
 replace bL:=dp bL;refine bC<|ao<|au<|at_<|aL (cy ON rfl bI) trivial rfl (λh8 bM=>?_)
 have cc:=bu bM bI;simp only [pS,Value.cells,Nat.reduceAdd,ct,bX,cF]at cc;have c9:=aK bM c6;have da:=aK bM eb;have bb:=br bM bI;have bb:_=3:=bb;clear bM c6 eb;refine bq (ae ed) aa ?_;clear ee ed gh;intro h9 db dc;refine ao<|au<|at_<|ar (aI oM rfl db) rfl<|ar (ax (aH Ix rfl c9 aa az) fe) rfl ?_
 (refine ar (HF ay aa ?_) rfl ?_; · (simp only [ByteArray.size_append,size_mk,Xo,Xs]<;>omega))
 refine aL (jy (jw (hF) [2] bb (aE (ae (ag dc)) (aE aa (aE ay aM))) (by exact .refl da) aD (.ob cc .nil) rfl s8) (kf rfl)) trivial rfl (λcd be=>?_);have ef:cd[2]? =some _:=iz be aU aD (eK cc iG) 0 rfl rfl
 (try simp only [Ob.rn,rn,rn.rnL,rho,Xo,Xs,XA,Xw,XB,Nat.reduceAdd,Nat.reduceSub,Xr,Xx,ct,bX,cF]at ef)
 have ce:=dW be aU c9 aD;have dd:=dW be aU da aD;have eg:cd[3]? =some _:=lH be aU bb 0 rfl
 (try simp only [Ob.rn,rn,rn.rnL,rho,Xo,Xs,XA,Xw,XB,Nat.reduceAdd,Nat.reduceSub,Xr,Xx,ct,bX,cF]at eg)
 have gi:_=4:=jk be bb 1 rfl;clear be cc c9 da bb;refine bq (aj db) (aj dc) ?_;clear db dc;intro ia de ei;refine ao<|au<|au<|at_<|ar (aI dN rfl de) rfl<|ar (ax (aH RN rfl ce aa az) fe) rfl ?_
 refine ar (ax (ca aa rfl G1.1) b7) rfl ?_;refine ar (al ay) rfl<|bR (aj de) (aj ei) (ag aa) (ae aa) aa ?_;clear de ei;intro cf df dg di dj gj
 refine ao<|bV<|eu (S:=(Int×Nat)) (λs e mem=>match s with|⟨i,jr⟩=>(ak e (.tmp 26)= .v (.int .i64 i))/\(ak e (.tmp 1)=ak cf (.tmp 1))/\(ak e (.tmp 6)=ak cf (.tmp 6))/\(ak e (.tmp 24)=ak cf (.tmp 24))/\(ak e (.tmp 25)=ak cf (.tmp 25))/\(mem[2]? =some (.box 109 [.ptr 2 0,.own jr]))/\(mem[jr]? =some (.row 5 1 ((gC l i.toNat).map bE)))/\(mem[1]? =cd[1]?)/\(mem[0]? =cd[0]?)/\(∃ n,mem.length=n/\4<=n)/\((0<=i/\i<=l.js.length/\3<=jr))) (λs=>match s with|⟨i,jr⟩=>(l.js.length - i).toNat) ⟨0,3⟩ ⟨gj,rfl,rfl,rfl,rfl,ef,eg,rfl,rfl,⟨_,gi,Xf _⟩,?_⟩ ?_
 ·exact⟨ah,ah,ah⟩
 ·rintro⟨i,jr⟩ ib ej ⟨dk,gk,gl,gm,gp,dl,bN,gq,gr,⟨av,bO,ic⟩,hinv⟩;have ek:=gk.trans df;have en:=gl.trans dg;have ep:=gm.trans di;have dm:=gp.trans dj;have bQ:=gq.trans ce;have cg:=gr.trans dd;have ie:=cV bN bO
  (obtain⟨p1,p2,p3⟩:=hinv;have hK1:=AK hR i.toNat ah)
  refine au<|at_<|ar (cU dk dm) rfl<|dh (ae ek) (ae en) (ae ep) (ae dm) (ae dk) aa ?_;clear ek ep dm dk en;intro ig ci cj ck dn bS dq
  refine ao<|au<|bj dq (λbW=>?_) (λbW=>?_)
  ·replace bW:=bt bW
   (have hjt:=xX (hR.ja i.toNat ah))
   refine bC<|ao<|au<|bV<|au<|at_<|ar (al bS) rfl<|ar (ax (cP G1 (ae ck) (ae bS) ah (by(refine cO ?_;omega))) fe) rfl ?_
   refine ar (ax (bF RQ rfl aa az) fe) rfl ?_;refine aL (cy sr rfl bO) trivial rfl (λih aO=>?_);have cm:=bu aO bO;simp only [pS,Value.cells,Nat.reduceAdd,ct,bX,cF]at cm;have ev:=aK aO dl;have ew:=aK aO bN;have eA:=aK aO bQ;have eB:=aK aO cg;have gt:=br aO bO;clear aO dl bN bQ cg;refine ar (aB (ae (ag aa))) rfl<|aL (bP (ae aa) (ag aa) rfl rfl cm uz rfl az) trivial rfl (λij aQ=>?_)
   have am:=aZ aQ cm;simp only [pS,Value.cells,Nat.reduceAdd,ct,bX,cF]at am;have bk:=aw aQ ev ah;have bv:=aw aQ ew ah;have bw:=aw aQ eA ah;have bx:=aw aQ eB ah;have aF:=aX aQ gt;clear aQ cm ev ew eA eB;refine fX (aC (ae (aj ci))) (aC (ae (aj cj))) (aC aa) (aC (ae aa)) (aC (ae (aj ck))) (aC (ae (aj dn))) (aC (ae (aj bS))) ?_;clear ci ck dn bS dq cj;intro ik eD eE dt eF eG eJ eL;refine ao<|au<|au<|at_<|ar (al dt) rfl<|ar (ey aa ay) rfl<|uQ (ag eD) (ag eE) (ag dt) (ag eF) (ag eG) (ag eJ) (ag eL) aa ?_;clear eD eG eJ eL eE dt eF;intro il bA bD co aS cr cu cw du
   refine ao<|bj du (λbZ=>?_) (λbZ=>?_)
   ·replace bZ:=bt bZ
    (have hbt:=uF (hR.ba (i - 1).toNat ah);have hbl:=we (s:=l4) (tZ hbt);have hRb:=wc es er l4 (gC l i.toNat) [(l.bs.getD (i - 1).toNat default).len,(l.bs.getD (i - 1).toNat default).cant] ah ah aN (tZ hbt);have hRj:=wc es er l3 (gC l i.toNat++rowT l4 [(l.bs.getD (i - 1).toNat default).len,(l.bs.getD (i - 1).toNat default).cant]) [(l.js.getD i.toNat default).acr,(l.js.getD i.toNat default).up,(l.js.getD i.toNat default).lo,(l.js.getD i.toNat default).hi] ah (by simp at hbl ⊢;omega) aN (zS hjt);rw [show(gC l i.toNat++rowT l4 [(l.bs.getD (i - 1).toNat default).len,(l.bs.getD (i - 1).toNat default).cant])++rowT l3 [(l.js.getD i.toNat default).acr,(l.js.getD i.toNat default).up,(l.js.getD i.toNat default).lo,(l.js.getD i.toNat default).hi]=gC l (i+1).toNat by rw [show(i+1).toNat =i.toNat+1 by omega,zR,pJ,if_neg ah,show i.toNat - 1=(i - 1).toNat by omega];simp [yp,sO]]at hRj)
    refine dZ 15 ai ai ai ai ?_;refine dr (aI dO rfl bA) rfl<|dr (ax (aH G4 rfl bw aa az) fe) rfl ?_
    refine dr (al (ag co)) rfl ?_
    (refine dr (eC aa ay ?_) rfl ?_; · ((unfold In64);omega))
    refine dr (ax (cP G2 (ag aa) aa ah (by(refine cO ?_;omega))) fe) rfl ?_;refine dr (ax (bY mb rfl aa) fe) rfl ?_;refine dr (ax (bF mh rfl aa az) fe) rfl ?_;refine dr (aI dO rfl (ae (ag (aj bA)))) rfl<|dr (ax (aH G4 rfl bw aa az) fe) rfl ?_
    refine dr (al (ae (aA co))) rfl ?_
    (refine dr (eC aa ay ?_) rfl ?_; · ((unfold In64);omega))
    refine dr (ax (cP G2 (ag aa) aa ah (by(refine cO ?_;omega))) fe) rfl ?_;refine dr (ax (bY tJ rfl aa) fe) rfl ?_;refine dr (ax (bF mh rfl aa az) fe) rfl ?_;refine dr (ez tt (bB (ae (ag (aj aa))) (bB aa b8)) rfl rfl rfl rfl) rfl<|dC<|aL (jy (jw (hRb) [2,jr] aF (aE (ae (ag (aj (aA bD)))) (aE ay (aE aa aM))) (by exact .refl bx) bo (.ob bk (.ob bv .nil)) rfl s8) (kf rfl)) trivial rfl (λeN aT=>?_)
    have cz:eN[2]? =some _:=iz aT aU bo (eK bk (eK bv iG)) 0 rfl rfl
    (try simp only [Ob.rn,rn,rn.rnL,rho,Xo,Xs,XA,Xw,XB,Nat.reduceAdd,Nat.reduceSub,Xr,Xx,ct,bX,cF]at cz)
    have bG:=dW aT aU am bo;have eO:=dW aT aU bw bo;have dv:=dW aT aU bx bo;have cA:eN[av+1]? =some _:=lH aT aU aF 0 rfl
    (try simp only [Ob.rn,rn,rn.rnL,rho,Xo,Xs,XA,Xw,XB,Nat.reduceAdd,Nat.reduceSub,Xr,Xx,ct,bX,cF]at cA)
    have cC:_=av+1+1:=jk aT aF 1 rfl;clear aT am bk bv bw bx aF;refine dh (aJ bA) (aJ bD) (aJ aS) (aJ cr) (aJ cu) (aJ cw) ?_;clear bA cr cu cw du bD co aS;intro im eP dw b0 eQ eR eS;refine ao<|at_<|ar (aI iu rfl b0) rfl<|ar (ax (aH mh rfl bG aa az) fe) rfl ?_
    refine ar (aI tI rfl (ag b0)) rfl<|ar (ax (aH mh rfl bG aa az) fe) rfl ?_
    refine ar (aI fU rfl (aj b0)) rfl<|ar (aI fx rfl aa) rfl<|ar (ax (aH mh rfl bG aa az) fe) rfl ?_
    refine ar (aI fU rfl (ae (ag (aj b0)))) rfl<|ar (aI fy rfl aa) rfl<|ar (ax (aH mh rfl bG aa az) fe) rfl ?_
    refine ar (ez tt (bB (aA aa) (bB (ag (aj aa)) (bB (ae (ag aa)) (bB aa b8)))) rfl rfl rfl rfl) rfl<|aL (jy (jw (hRj) [2,av+1] cC (aE (ae (ag (aA dw))) (aE ay (aE aa aM))) (by exact .refl dv) bo (.ob cz (.ob cA .nil)) rfl s8) (kf rfl)) trivial rfl (λeT a2=>?_)
    have eU:eT[2]? =some _:=iz a2 aU bo (eK cz (eK cA iG)) 0 rfl rfl
    (try simp only [Ob.rn,rn,rn.rnL,rho,Xo,Xs,XA,Xw,XB,Nat.reduceAdd,Nat.reduceSub,Xr,Xx,ct,bX,cF]at eU)
    have io:=dW a2 aU bG bo;have gu:=dW a2 aU eO bo;have gw:=dW a2 aU dv bo;have eV:eT[av+1+1]? =some _:=lH a2 aU cC 0 rfl
    (try simp only [Ob.rn,rn,rn.rnL,rho,Xo,Xs,XA,Xw,XB,Nat.reduceAdd,Nat.reduceSub,Xr,Xx,ct,bX,cF]at eV)
    have gx:_=av+1+1+1:=jk a2 cC 1 rfl;clear a2 cz bG eO dv cA cC;refine bR (aj (aA eP)) (aj (aA dw)) (aj (aA eQ)) (aj (aA eR)) (aj (aA eS)) ?_;clear eP eQ eR eS dw b0;intro ip eX eY eZ e0 e3;refine cK<|ao<|at_ ?_
    (refine ar (cv e3 ay ?_) rfl ?_; · ((unfold In64);omega))
    refine ar (al aa) rfl<|bR (ag eX) (ag eY) (ag eZ) (ag e0) aa ?_;clear eX eZ e0 e3 eY;intro iq gy gz gA gB gD
    refine ao<|⟨⟨_,_⟩,⟨gD,(gy.trans df.symm),(gz.trans dg.symm),(gA.trans di.symm),(gB.trans dj.symm),eU,eV,(gu.trans ce.symm),(gw.trans dd.symm),⟨_,gx,ah⟩,?_⟩,?_⟩
    ·exact⟨ah,ah,ah⟩
    ·((try dsimp only);omega)
   replace bZ:=bf bZ
   (have hRj:=wc es er l3 (gC l i.toNat) [(l.js.getD i.toNat default).acr,(l.js.getD i.toNat default).up,(l.js.getD i.toNat default).lo,(l.js.getD i.toNat default).hi] ah ah aN (zS hjt);rw [show gC l i.toNat++rowT l3 [(l.js.getD i.toNat default).acr,(l.js.getD i.toNat default).up,(l.js.getD i.toNat default).lo,(l.js.getD i.toNat default).hi]=gC l (i+1).toNat by rw [show(i+1).toNat =i.toNat+1 by omega,zR,pJ,if_pos ah];simp [sO]]at hRj)
   refine bC<|ao<|at_<|ar (aI iu rfl aS) rfl<|ar (ax (aH mh rfl am aa az) fe) rfl ?_
   refine ar (aI tI rfl (ag aS)) rfl<|ar (ax (aH mh rfl am aa az) fe) rfl ?_
   refine ar (aI fU rfl (aj aS)) rfl<|ar (aI fx rfl aa) rfl<|ar (ax (aH mh rfl am aa az) fe) rfl ?_
   refine ar (aI fU rfl (ae (ag (aj aS)))) rfl<|ar (aI fy rfl aa) rfl<|ar (ax (aH mh rfl am aa az) fe) rfl ?_
   refine ar (ez tt (bB (aA aa) (bB (ag (aj aa)) (bB (ae (ag aa)) (bB aa b8)))) rfl rfl rfl rfl) rfl<|aL (jy (jw (hRj) [2,jr] aF (aE (ae (ag (aA bD))) (aE ay (aE aa aM))) (by exact .refl bx) bo (.ob bk (.ob bv .nil)) rfl s8) (kf rfl)) trivial rfl (λe4 a3=>?_)
   have e5:e4[2]? =some _:=iz a3 aU bo (eK bk (eK bv iG)) 0 rfl rfl
   (try simp only [Ob.rn,rn,rn.rnL,rho,Xo,Xs,XA,Xw,XB,Nat.reduceAdd,Nat.reduceSub,Xr,Xx,ct,bX,cF]at e5)
   have ir:=dW a3 aU am bo;have gE:=dW a3 aU bw bo;have gF:=dW a3 aU bx bo;have e6:e4[av+1]? =some _:=lH a3 aU aF 0 rfl
   (try simp only [Ob.rn,rn,rn.rnL,rho,Xo,Xs,XA,Xw,XB,Nat.reduceAdd,Nat.reduceSub,Xr,Xx,ct,bX,cF]at e6)
   have gG:_=av+1+1:=jk a3 aF 1 rfl;clear a3 am bk bv bw bx aF;refine bR (aj (aA bA)) (aj (aA bD)) (aj (aA cr)) (aj (aA cu)) (aj (aA cw)) ?_;clear bA cr cu cw du bD co aS;intro iv e7 e8 e9 fa fb;refine cK<|ao<|at_ ?_
   (refine ar (cv fb ay ?_) rfl ?_; · ((unfold In64);omega))
   refine ar (al aa) rfl<|bR (ag e7) (ag e8) (ag e9) (ag fa) aa ?_;clear e7 e9 fa fb e8;intro iw gH gJ gL gM gN
   refine ao<|⟨⟨_,_⟩,⟨gN,(gH.trans df.symm),(gJ.trans dg.symm),(gL.trans di.symm),(gM.trans dj.symm),e5,e6,(gE.trans ce.symm),(gF.trans dd.symm),⟨_,gG,ah⟩,?_⟩,?_⟩
   ·exact⟨ah,ah,ah⟩
   ·((try dsimp only);omega)
  replace bW:=bf bW;have hend:gC l i.toNat=jI l (Int.toNat 0):=(by rw [show Int.toNat 0=0 from rfl,G6,show i.toNat=l.js.length by omega]);refine dV<|cB<|cB<|dU<|ao<|au<|au ?_
  rw [hend]at bN;refine at_<|ar (aI eW rfl ci) rfl<|ar (ax (aH RO rfl bQ aa az) fe) rfl ?_
  refine ar (ax (ca aa rfl G3.1) b7) rfl ?_;refine ar (al ay) rfl<|bp (aj cj) (ag aa) (ae aa) aa ?_;clear ci ck dn bS dq cj;intro dy fc fd ff gO
  refine ao<|bV<|eu (S:=(Int×Nat)) (λs e mem=>match s with|⟨k,jq⟩=>(ak e (.tmp 65)= .v (.int .i64 k))/\(ak e (.tmp 6)=ak dy (.tmp 6))/\(ak e (.tmp 63)=ak dy (.tmp 63))/\(ak e (.tmp 64)=ak dy (.tmp 64))/\(mem[2]? =some (.box 109 [.ptr 2 0,.own jq]))/\(mem[jq]? =some (.row 5 1 ((jI l k.toNat).map bE)))/\(mem[1]? =ej[1]?)/\(mem[0]? =ej[0]?)/\(∃ n,mem.length=n/\av<=n)/\((0<=k/\k<=l.ss.length/\3<=jq))) (λs=>match s with|⟨k,jq⟩=>(l.ss.length - k).toNat) ⟨0,_⟩ ⟨gO,rfl,rfl,rfl,dl,bN,rfl,rfl,⟨_,bO,Xf _⟩,?_⟩ ?_
  ·exact⟨ah,ah,ah⟩
  ·rintro⟨k,jq⟩ ix iA ⟨dz,gP,gQ,gR,b1,bH,gS,gT,⟨af,a5,iB⟩,hinv⟩;have fg:=gP.trans fc;have fh:=gQ.trans fd;have dA:=gR.trans ff;have cD:=gS.trans bQ;have cE:=gT.trans cg;have iC:=cV bH a5
   (obtain⟨p1,p2,p3⟩:=hinv;have hK2:=xc hR k.toNat ah)
   refine au<|at_<|ar (cU dz dA) rfl<|bR (ae fg) (ae fh) (ae dA) (ae dz) aa ?_;clear fh dA dz fg;intro iD cH cM dD cN dE
   refine ao<|au<|bj dE (λb2=>?_) (λb2=>?_)
   ·replace b2:=bt b2
    (obtain⟨c1,c2,c3⟩:=xY hR (i:=k.toNat) ah;have hsa:=Wv p1 ah;have hst:=G5 hsa;have hnl:(l.ss.getD k.toNat default).nam.data.toList.length =(l.ss.getD k.toNat default).nam.size :=rfl;have hRs:=wc es er (pI++(l.ss.getD k.toNat default).nam.data.toList) (jI l k.toNat) ((l.ss.getD k.toNat default).fst ::(l.ss.getD k.toNat default).acr) (by rw [XD];omega) ah (by rw [Xo];omega) (tZ c3);rw [show jI l k.toNat++rowT (pI++(l.ss.getD k.toNat default).nam.data.toList) ((l.ss.getD k.toNat default).fst ::(l.ss.getD k.toNat default).acr)=jI l (k+1).toNat by rw [show(k+1).toNat =k.toNat+1 by omega,hst];rfl, <- Jf,tV]at hRs)
    refine bC<|ao<|au<|bV<|au<|at_<|ar (ax (cP G3 cM cN ah (by(refine cO ?_;omega))) fe) rfl ?_
    refine ar (ax (bF RU rfl aa az) fe) rfl ?_;refine aL (cy nM rfl a5) trivial rfl (λiF a6=>?_);have cQ:=bu a6 a5;simp only [pS,Value.cells,Nat.reduceAdd,ct,bX,cF]at cQ;have fi:=aK a6 b1;have fj:=aK a6 bH;have fk:=aK a6 cD;have fl:=aK a6 cE;have gU:=br a6 a5;clear a6 b1 bH cD cE;refine aL (bP aa (ae aa) rfl rfl cQ nN rfl az) trivial rfl (λiI a7=>?_);have dF:=aZ a7 cQ;simp only [pS,Value.cells,Nat.reduceAdd,ct,bX,cF]at dF;have fm:=aw a7 fi ah;have fo:=aw a7 fj ah;have fp:=aw a7 fk ah;have fq:=aw a7 fl ah;have b6:=aX a7 gU;clear a7 cQ fi fj fk fl;refine bR (aC (ae (ag cH))) (aC aa) (aC (ae (ag cM))) (aC (ae (ag dD))) (aC (ae (ag cN))) ?_;clear cM dD cN dE cH;intro iJ gW cR gY gZ g0;refine ao<|fZ 9 2 b6 ai ai ai ai (λfs an=>?_)
    have cT:=bz an dF;have ft:=bz an fm;have fu:=bz an fo;have fz:=bz an fp;have fA:=bz an fq;have dG:fs[af+1]? =_:=fS an b6 0 rfl rfl;have fB:fs[af+1+1]? =_:=fS an b6 1 rfl rfl;have g1:_=af+1+2:=ga (K:=2) an b6;clear an dF fm fo fp fq b6;refine aR (λM_ hM_=>(aI mN rfl cR)) trivial ?_;refine cG (af) (λM_ hM_=>(ax (aH Ix rfl (cn hM_ cT aN) aa az) fe)) trivial trivial ?_
    (refine aR (λM_ hM_=>(HF ay aa ?_)) trivial ?_; · (simp only [ByteArray.size_append,size_mk,Xo,Xs]<;>omega))
    refine aR (λM_ hM_=>(aI jN rfl (ae (ag cR)))) trivial ?_;refine cG (af) (λM_ hM_=>(ax (aH mh rfl (cn hM_ cT aN) aa az) fe)) trivial trivial ?_;refine kL (af+1) (λM_ hM_=>(IS tt (bB aa b8) rfl rfl rfl rfl)) trivial dG rfl trivial ⟨.inl bo,⟨.inl bo,trivial⟩⟩ (λiK ap=>?_);have fC:=aZ ap dG;have dH:=aw ap cT ah;have fD:=aw ap ft ah;have fE:=aw ap fu ah;have fG:=aw ap fz ah;have fH:=aw ap fA ah;have dI:=aw ap fB ah;have g2:=aX ap g1;clear ap cT ft fu fz fA dG fB;refine aR (λM_ hM_=>(aI gI rfl (ag (aj cR)))) trivial ?_;refine cG (af) (λM_ hM_=>(ax (aH RR rfl (cn hM_ dH aN) aa az) fe)) trivial ⟨.inl bo,trivial⟩ ?_;refine pf (af+1+1) (af+1) (λM_ hM_=>(nJ tt rfl (cn hM_ fC aN) (ag aa) aa (by exact UY _) dP)) trivial dI rfl ⟨.inr (gV 8 5 ai),trivial⟩ ⟨.inl bo,⟨.inl bo,⟨.inl bo,⟨.inl bo,trivial⟩⟩⟩⟩ ⟨.inl bo,⟨.inl bo,⟨.inr (gV 8 5 ai),⟨.inl bo,trivial⟩⟩⟩⟩ (λiL aG=>?_);have fI:=po aG dI;simp only [pS,Value.cells,Nat.reduceAdd,ct,bX,cF]at fI;have g3:=cL aG dH ah ah;have g4:=cL aG fD ah ah;have g5:=cL aG fE ah ah;have g6:=cL aG fG ah ah;have g7:=cL aG fH ah ah;have g8:=o4 aG g2;clear aG fC dH fD fE fG fH dI;refine gn rfl ?_;refine MA aa fI (λiM ad a8 ab=>?_);have fJ:=aw a8 g3 ah;have dJ:=aw a8 g4 ah;have dK:=aw a8 g5 ah;have fK:=aw a8 g6 ah;have dM:=aw a8 g7 ah;have cW:=aX a8 g8;have dQ:ak ad (.tmp 6)=_:=(congrArg (λq=>ak q (.tmp 6)) ab).trans (ae (ae (aA gW)));have g9:ak ad (.tmp 10)=_:=(congrArg (λq=>ak q (.tmp 10)) ab).trans (ae (ae (aA cR)));have fL:ak ad (.tmp 63)=_:=(congrArg (λq=>ak q (.tmp 63)) ab).trans (ae (ae (aA gY)));have fO:ak ad (.tmp 64)=_:=(congrArg (λq=>ak q (.tmp 64)) ab).trans (ae (ae (aA gZ)));have fP:ak ad (.tmp 65)=_:=(congrArg (λq=>ak q (.tmp 65)) ab).trans (ae (ae (aA g0)));have hv:ak ad (.tmp 69)=_:=(congrArg (λq=>ak q (.tmp 69)) ab).trans (ae (aA aa));have hC:ak ad (.tmp 70)=_:=(congrArg (λq=>ak q (.tmp 70)) ab).trans (ae (ae (ag (aj aa))));have fQ:ak ad (.tmp 71)=_:=(congrArg (λq=>ak q (.tmp 71)) ab).trans (ae (ag (aj aa)));have hD:ak ad (.tmp 72)=_:=(congrArg (λq=>ak q (.tmp 72)) ab).trans (ae (ae (aj aa)));have hE:ak ad (.tmp 73)=_:=(congrArg (λq=>ak q (.tmp 73)) ab).trans (ae (aj aa));have hG:ak ad (.tmp 74)=_:=(congrArg (λq=>ak q (.tmp 74)) ab).trans (ae (ae (ag aa)));have hH:ak ad (.tmp 75)=_:=(congrArg (λq=>ak q (.tmp 75)) ab).trans (ae (ag aa));have hI:ak ad (.tmp 76)=_:=(congrArg (λq=>ak q (.tmp 76)) ab).trans (ae (ae aa));have fR:ak ad (.tmp 77)=_:=(congrArg (λq=>ak q (.tmp 77)) ab).trans aa;clear a8 ab;refine aL (jy (jw (hRs) [2,jq] cW (aE dQ (aE fQ (aE fR aM))) (by exact .refl dM) bo (.ob dJ (.ob dK .nil)) rfl s8) (kf rfl)) trivial rfl (λfT a9=>?_);have fV:fT[2]? =some _:=iz a9 aU bo (eK dJ (eK dK iG)) 0 rfl rfl
    (try simp only [Ob.rn,rn,rn.rnL,rho,Xo,Xs,XA,Xw,XB,Nat.reduceAdd,Nat.reduceSub,Xr,Xx,ct,bX,cF]at fV)
    have iN:=dW a9 aU fJ bo;have hJ:=dW a9 aU fK bo;have hK:=dW a9 aU dM bo;have fW:fT[af+1+2]? =some _:=lH a9 aU cW 0 rfl
    (try simp only [Ob.rn,rn,rn.rnL,rho,Xo,Xs,XA,Xw,XB,Nat.reduceAdd,Nat.reduceSub,Xr,Xx,ct,bX,cF]at fW)
    have hM:_=af+1+2+1:=jk a9 cW 1 rfl;clear a9 fJ dJ dK fK dM cW;refine bp (ae dQ) (ae fL) (ae fO) (ae fP) ?_;clear g9 fL fO fP hv dQ hC fQ hD hE hG hH hI fR;intro iO fY f0 gb gc;refine cK<|ao<|at_ ?_
    (refine ar (cv gc ay ?_) rfl ?_; · ((unfold In64);omega))
    refine ar (al aa) rfl<|bp (ag fY) (ag f0) (ag gb) aa ?_;clear f0 gb gc fY;intro iP hN hO hP hQ
    refine ao<|⟨⟨_,_⟩,⟨hQ,(hN.trans fc.symm),(hO.trans fd.symm),(hP.trans ff.symm),fV,fW,(hJ.trans bQ.symm),(hK.trans cg.symm),⟨_,hM,ah⟩,?_⟩,?_⟩
    ·exact⟨ah,ah,ah⟩
    ·((try dsimp only);omega)
   replace b2:=bf b2;refine dV<|cB<|cB<|dU<|ao<|au<|at_<|aL (jy (jw (Ou (jI l k.toNat) (UX _ _) ah) [2,jq] a5 (aE cH aM) mm bo (.ob b1 (.ob bH .nil)) rfl OO) (kf rfl)) trivial rfl (λhS b9=>?_)
   have gd:hS[2]? =some _:=iz b9 aU bo (eK b1 (eK bH iG)) 0 rfl rfl
   (try simp only [Ob.rn,rn,rn.rnL,rho,Xo,Xs,XA,Xw,XB,Nat.reduceAdd,Nat.reduceSub,Xr,Xx,ct,bX,cF]at gd)
   have hU:=dW b9 aU cD bo;have hV:=dW b9 aU cE bo;have hW:_=af:=jk b9 a5 0 rfl;clear b9 b1 bH cD cE a5;refine ar (aB aa) rfl<|ar (aB ay) rfl<|bq (ae aa) aa ?_;clear cM dD cN dE cH;intro iR ge gf
   refine ao<|bg<|eh bm ai (bc ge) (bc gf) (.ro _ rfl) (.ro _ rfl) ?_
   clear ge gf gd hU hV hW
   (rw [show k.toNat=l.ss.length by omega];rfl)
end
end Go.Proofs.YtbmlgmblfboigaaGreatDoor
namespace Go.Proofs.YtbmlgmblfboigaaGreatDoor
open Go Go.RowKit Go.Proofs Go.Shelf Go.Lib
def ir(w:List UInt8):Prop:=w≠ []/\ ∀ k:Nat,w[k]? ≠some 32/\w[k]? ≠some 9/\w[k]? ≠some 10
theorem UZ{w:List UInt8}{D:Nat}(h:iO w D=true):ir w:=
 ⟨λe=>(I7 h).1 mj,λk=>⟨zc h aD k,zc h aD k,zc h aD k⟩⟩
theorem U0{j:Nat}{c:UInt8}(h:okB j c=true):c≠32/\c≠9/\c≠10:=by
 have h1:=of_decide_eq_true h;refine⟨λe=>?_,λe=>?_,λe=>?_⟩<;>(subst e;revert h1;simp)
theorem wh{nm:List UInt8}(h:dF (bs nm)=true):ir nm:=by
 unfold dF at h;simp only [Xg,decide_eq_true_eq]at h;obtain⟨⟨h1,h2⟩,h3⟩:=h;have hz:(bs nm).size =nm.length:=rfl;refine⟨λe=>by rw [e]at hz h2;rw [hz]at h2;simp at h2,λk=>?_⟩;cases hq:nm[k]? with
 | none=>simp
 | some b=>
  have hk:=(Xe.1 hq).1;unfold nf at h1;have h4:=Xv.1 h1 k (XX.2 hk);rw [show(bs nm).data.toList =nm from rfl,Xc,hq]at h4;obtain⟨a1,a2,a3⟩:=U0 h4
  simpa using ⟨a1,a2,a3⟩
theorem xG{w:List UInt8}(h0:w≠ [])(h:w.all (λb=>b != 32&&b != 9&&b != 10)=true):ir w:=by
 refine⟨h0,λk=>?_⟩;cases hq:w[k]? with
 | none=>simp
 | some b=>
  have h1:=Xv.1 h b (Xp hq);simp only [Xg,bne_iff_ne]at h1
  simpa using ⟨h1.1.1,h1.1.2,h1.2⟩
theorem VW{b:UInt8}(h1:b≠32)(h2:b≠9):blk b=false:=by unfold blk;simp [h1,h2]
def Wd.t(w:Wd):List UInt8:=w.txt.data.toList
def wT(l:List UInt8)(a:Nat):List (List UInt8):=(eN l a).map Wd.t
theorem J5(pre w r:List UInt8)(hc:ir w)(hr:r= []\/ ∃ r',r=32::r'):wT (pre++w++r) pre.length=w::wT (pre++w++r) (pre++w).length :=by
 have hp:=XJ.2 hc.1;have hl:(pre++w++r).length =pre.length+w.length+r.length:=by simp [XQ]
 have hin:∀ k,pre.length<=k->k<pre.length+w.length->(pre++w++r).getD k default=w.getD (k - pre.length) default:=λk h1 h2=>by
  rw [Xc,Xc,XP,Xk h1,Xj ah]
 obtain⟨e1,e2,e3⟩:=GA (l:=pre++w++r) (a:=pre.length) (i:=pre.length+w.length) ah ah ah (λk h1 h2=>by
  rw [hin k h1 h2];have h3:=hc.2 (k - pre.length);rw [Xd ah]at h3;rw [Xc,Xd ah];exact VW (λe=>h3.1 (congrArg some e)) (λe=>h3.2.1 (congrArg some e)))
  (by
   rcases hr with rfl|⟨r',rfl⟩
   ·left;simp
   ·right
    rw [Xc,Xk aN,XD,Xx];rfl)
 have e4:fB (pre++w++r) pre.length=w:=by
  rw [e1,show pre.length+w.length - pre.length=w.length by omega,XP,List.drop_left' rfl,List.take_left' rfl]
 unfold wT;rw [vi ah (by rw [e4];exact hc.1),e2,e4,XI,XD];rfl
theorem Ww(pre r:List UInt8):wT (pre++32::r) pre.length=wT (pre++32::r) (pre++ [32]).length :=by
 unfold wT;rw [XD,List.length_singleton,Gz aN (by rw [Xc,Xk (Xf _),Xx];rfl)]
theorem U1(pre w r:List UInt8)(hc:ir w)(hr:r= []\/ ∃ r',r=32::r'):wT (pre++ [32]++w++r) pre.length=w::wT (pre++ [32]++w++r) (pre++ [32]++w).length :=by
 rw [<- J5 (pre++ [32]) w r hc hr];have h:=Ww pre (w++r);have e:pre++ [32]++w++r=pre++32::(w++r):=by simp
 rw [e];exact h
theorem VX(l:List UInt8):wT l l.length= []:=by unfold wT;rw [Ek];rfl
def fR(ws:List (List UInt8)):List UInt8:=(ws.map λw=>32::w).flatten
theorem Jr(ws:List (List UInt8)):fR ws= []\/ ∃ r',fR ws=32::r':=by
 cases ws with
 | nil=>exact .inl rfl
 | cons w ws=>exact .inr ⟨w++fR ws,rfl⟩
theorem Js:∀ (ws:List (List UInt8)) (pre:List UInt8),(∀ w∈ws,ir w)->wT (pre++fR ws) pre.length=ws
 | [],pre,_=>by rw [show fR []= []from rfl,X3];exact VX pre
 | w::ws,pre,h=>by
  have e:pre++fR (w::ws)=pre++ [32]++w++fR ws:=by simp [fR]
  have ih:=Js ws (pre++ [32]++w) (λx hx=>h x (YV _ hx));rw [e,U1 pre w (fR ws) (h w (YJ ..)) (Jr ws),ih]
theorem xH(w:List UInt8)(ws:List (List UInt8))(hw:ir w)(h:∀ w∈ws,ir w):wT (w++fR ws) 0=w::ws:=by
 have h1:=J5 [] w (fR ws) hw (Jr ws);have h2:=Js ws w h;rw [show([]++w:List UInt8)=w from rfl,show([]:List UInt8).length =0 from rfl,h2]at h1;exact h1
def ox(l:List UInt8):Prop:=∀ b∈l,b≠10
theorem ua{a b:List UInt8}(ha:ox a)(hb:ox b):ox (a++b):=λx hx=>by
 rcases Yg.1 hx with h|h
 ·exact ha x h
 ·exact hb x h
theorem ub{w:List UInt8}(h:ir w):ox w:=λb hb e=>by
 obtain⟨k,hk,rfl⟩:=XN hb;exact(h.2 k).2.2 (by rw [Xd hk,e])
theorem uf:∀ (ws:List (List UInt8)),(∀ w∈ws,ir w)->ox (fR ws)
 | [],_=>λb hb=>by simp [fR]at hb
 | w::ws,h=>λb hb=>by
  have ih:=uf ws (λx hx=>h x (YV _ hx));rw [show fR (w::ws)=32::(w++fR ws)from rfl]at hb;rcases XM.1 hb with rfl|hb
  ·decide
  ·exact ua (ub (h w (YJ ..))) ih b hb
theorem RX{a:List UInt8}(h:ox a)(r:List UInt8):jG (a++ [10]++r)=a::jG r:=by
 rw [Bz (a++ [10]++r) a.length aN (by rw [Xc,XP,Xk (Xf _),Xx];rfl) (λk hk=>by
  rw [Xc,XP,Xj hk,Xd hk];exact h _ (XR hk))]
 congr 1
 ·rw [XP,List.take_left' rfl]
 ·rw [List.drop_left' aN]
theorem Et:∀ (L:List (List UInt8)),(∀ a∈L,ox a)->jG ((L.map λa=>a++ [10]).flatten)=L++ [[]]
 | [],_=>rfl
 | a::L,h=>by
  have ih:=Et L (λx hx=>h x (YV _ hx));rw [XI,XT,RX (h a (YJ ..)),ih];rfl
theorem OQ(L:List (List UInt8)):strip (L++ [[]])=L:=by
 unfold strip;rw [List.getLast?_append,if_pos eL,List.dropLast_concat]
def jf(ns:List Int):List (List UInt8):=ns.map itoa
theorem xI(s:List UInt8)(ns:List Int):rowT s ns=(s++fR (jf ns))++ [10]:=by
 unfold rowT hH fR jf;rw [X8,List.map_map];rfl
theorem G7{n:Int}{below:Bool}(h:n.natAbs<10^6)(hb:below=true\/0<=n):(iO (itoa n) 6&&(below||decide (0<=iN (itoa n))))=true/\iN (itoa n)=n/\ir (itoa n):=by
 obtain⟨h1,h2⟩:=P7 (v:=n) (D:=6) aD (Dw 6 _ aD h);refine⟨?_,h2,UZ h1⟩;rw [h1,h2];rcases hb with rfl|hb
 ·rfl
 ·rw [decide_eq_true hb,Bool.or_true];rfl
theorem rR{ns:List Int}(h:∀ n∈ns,n.natAbs<10^6):∀ w∈jf ns,ir w:=λw hw=>by
 obtain⟨n,hn,rfl⟩:=XL.1 hw;exact(G7 (below:=true) (h n hn) (.inl rfl)).2.2
theorem yP{ws:List Wd}{x:List UInt8}{xs:List (List UInt8)}(h:ws.map Wd.t=x::xs):∃ w r,ws=w::r/\w.t=x/\r.map Wd.t=xs:=by
 match ws,h with
 | w::r,h=>simp at h;exact⟨w,r,rfl,h.1,h.2⟩
theorem nS{ws:List Wd}{n:Int}{xs:List (List UInt8)}{below:Bool}(h:ws.map Wd.t=itoa n::xs)(hn:n.natAbs<10^6)(hb:below=true\/0<=n):fh below ws=0/\eG (cN ws)=n/\ws.tail.map Wd.t=xs:=by
 obtain⟨w,r,rfl,h1,h2⟩:=yP h;obtain⟨a1,a2,a3⟩:=G7 hn hb;have hok:jz w below=true:=by unfold jz;rw [show w.txt.data.toList=itoa n from h1];exact a1
 exact⟨by simp [fh,hok],by show iN w.txt.data.toList=n;rw [show w.txt.data.toList=itoa n from h1];exact a2,h2⟩
theorem JZ{ws:List Wd}{nm:List UInt8}{xs:List (List UInt8)}(h:ws.map Wd.t=nm::xs)(hn:dF (bs nm)=true):ko ws=0/\(cN ws).txt =bs nm/\ws.tail.map Wd.t=xs:=by
 obtain⟨w,r,rfl,h1,h2⟩:=yP h;have e:w.txt=bs nm:=by rw [<- h1];rfl
 exact⟨by simp [ko,e,hn],e,h2⟩
theorem xZ{ws:List Wd}(h:ws.map Wd.t= []):ws= []:=by simpa using h
theorem Cd:∀ {ns:List Int} {ws:List Wd},ws.map Wd.t=jf ns->(∀ n∈ns,n.natAbs<10^6)->lZ true ws=(0,0)/\ws.map eG=ns
 | [],ws,h,_=>by rw [xZ h];exact⟨rfl,rfl⟩
 | n::ns,ws,h,hn=>by
  obtain⟨a1,a2,a3⟩:=nS (below:=true) (xs:=jf ns) h (hn n (YJ ..)) (.inl rfl);obtain⟨b1,b2⟩:=Cd a3 (λx hx=>hn x (YV _ hx));exact⟨(Jm a1).trans b1,by rw [BA (lJ a1),a2,b2]⟩
theorem VY{a w:List UInt8}{ws:List (List UInt8)}(h:wT a 0=w::ws):∃ c0 r,eN a 0=⟨bs w,c0⟩::r/\r.map Wd.t=ws:=by
 obtain⟨w0,r,h1,h2,h3⟩:=yP (ws:=eN a 0) h;exact⟨w0.col,r,by rw [h1, <- h2];rfl,h3⟩
theorem go_step{st:RS}{a w:List UInt8}{ws:List (List UInt8)}{L:List (List UInt8)}{R:lV}(h:wT a 0=w::ws)(hg:∀ c0 r,r.map Wd.t=ws->eV st.kind ⟨bs w,c0⟩ r=(0,0)/\jE (dJ (cY st a) ⟨bs w,c0⟩ r) L=R):jE st (a::L)=R:=by
 obtain⟨c0,r,h1,h2⟩:=VY h;obtain⟨g1,g2⟩:=hg c0 r h2;rw [jE,h1];simp only [g1,if_true];exact g2
theorem U2{c0:Int}{r:List Wd}{nm:List UInt8}{st:RS}(hk:st.kind=⟨#[]⟩)(h:r.map Wd.t= [nm])(hn:dF (bs nm)=true):eV st.kind ⟨cz,c0⟩ r=(0,0)/\(dJ st ⟨cz,c0⟩ r).nam =bs nm/\(dJ st ⟨cz,c0⟩ r).js =st.js/\(dJ st ⟨cz,c0⟩ r).bs =st.bs/\(dJ st ⟨cz,c0⟩ r).ss =st.ss/\(dJ st ⟨cz,c0⟩ r).kind =cz:=by
 obtain⟨a1,a2,a3⟩:=JZ h hn;have a4:=xZ a3;have hki:fE st.kind cz=0:=by rw [hk];simp [fE,gx]
 refine⟨?_,?_⟩
 ·unfold eV;rw [if_pos hki];exact rP (r:=r.tail) (by rw [pU,qe a1];rfl) (by rw [pU];exact YL) (by rw [a4];rfl)
 ·unfold dJ;rw [if_pos (gx _)];exact⟨a2,rfl,rfl,rfl,rfl⟩
theorem RY{p:ByteArray}(h:p=cz\/p=ck):fE p bZ=0:=by
 unfold fE iY;rcases h with rfl|rfl<;>(simp only [ig];decide)
theorem U3{p:ByteArray}(h:p=bZ):fE p ck=0:=by
 subst h;unfold fE iY;simp only [ig];decide
theorem OR{p:ByteArray}(h:p=bZ\/p=cf):fE p cf=0:=by
 unfold fE iY;rcases h with rfl|rfl<;>(simp only [ig];decide)
theorem RZ{c0:Int}{r:List Wd}{j:ep}{st:RS}(hk:st.kind=cz\/st.kind=ck)(h:r.map Wd.t=jf [j.acr,j.up,j.lo,j.hi])(hn:∀ n∈ [j.acr,j.up,j.lo,j.hi],n.natAbs<10^6):eV st.kind ⟨bZ,c0⟩ r=(0,0)/\(dJ st ⟨bZ,c0⟩ r).nam =st.nam/\(dJ st ⟨bZ,c0⟩ r).js =st.js++ [j]/\(dJ st ⟨bZ,c0⟩ r).bs =st.bs/\(dJ st ⟨bZ,c0⟩ r).ss =st.ss/\(dJ st ⟨bZ,c0⟩ r).kind =bZ:=by
 obtain⟨a1,a2,a3⟩:=nS (below:=true) h (hn _ aN) (.inl rfl);obtain⟨b1,b2,b3⟩:=nS (below:=true) a3 (hn _ aN) (.inl rfl);obtain⟨c1,c2,c3⟩:=nS (below:=true) b3 (hn _ aN) (.inl rfl);obtain⟨d1,d2,d3⟩:=nS (below:=true) c3 (hn _ aN) (.inl rfl);have d4:=xZ d3;refine⟨?_,?_⟩
 ·unfold eV;rw [if_pos (RY hk)];exact rP (r:=r.tail.tail.tail.tail) (by rw [pR,k9 a1,k9 b1,k9 c1,k9 d1];rfl) (by rw [pR];exact CG _) (by rw [d4];rfl)
 ·unfold dJ;rw [if_neg (by show ¬ cg bZ cz=true;rw [uW];decide),if_pos (gx _)];refine⟨rfl,?_,rfl,rfl,rfl⟩
  show st.js++ [_]=_
  rw [a2,b2,c2,d2]
theorem U4{c0:Int}{r:List Wd}{b:fY}{st:RS}(hk:st.kind=bZ)(h:r.map Wd.t=jf [b.len,b.cant])(hn:∀ n∈ [b.len,b.cant],n.natAbs<10^6)(h0:0<=b.len):eV st.kind ⟨ck,c0⟩ r=(0,0)/\(dJ st ⟨ck,c0⟩ r).nam =st.nam/\(dJ st ⟨ck,c0⟩ r).js =st.js/\(dJ st ⟨ck,c0⟩ r).bs =st.bs++ [b]/\(dJ st ⟨ck,c0⟩ r).ss =st.ss/\(dJ st ⟨ck,c0⟩ r).kind =ck:=by
 obtain⟨a1,a2,a3⟩:=nS (below:=false) h (hn _ aN) (.inr h0);obtain⟨b1,b2,b3⟩:=nS (below:=true) a3 (hn _ aN) (.inl rfl);have d4:=xZ b3;refine⟨?_,?_⟩
 ·unfold eV;rw [if_pos (U3 hk)];exact rP (r:=r.tail.tail) (by rw [oC,qn a1,k9 b1];rfl) (by rw [oC];exact sN _) (by rw [d4];rfl)
 ·unfold dJ;rw [if_neg (by show ¬ cg ck cz=true;rw [uX];decide),if_neg (by show ¬ cg ck bZ=true;rw [uZ];decide),if_pos (gx _)];refine⟨rfl,rfl,?_,rfl,rfl⟩
  show st.bs++ [_]=_
  rw [a2,b2]
theorem OS{c0:Int}{r:List Wd}{s:eU}{st:RS}(hk:st.kind=bZ\/st.kind=cf)(h:r.map Wd.t=s.nam.data.toList::jf (s.fst::s.acr))(hn:∀ n∈s.fst::s.acr,n.natAbs<10^6)(hnm:dF s.nam=true)(h0:0<=s.fst)(ha:s.acr≠ []):eV st.kind ⟨cf,c0⟩ r=(0,0)/\(dJ st ⟨cf,c0⟩ r).nam =st.nam/\(dJ st ⟨cf,c0⟩ r).js =st.js/\(dJ st ⟨cf,c0⟩ r).bs =st.bs/\(dJ st ⟨cf,c0⟩ r).ss =st.ss++ [s]/\(dJ st ⟨cf,c0⟩ r).kind =cf:=by
 obtain⟨n1,n2,n3⟩:=JZ h hnm;obtain⟨a1,a2,a3⟩:=nS (below:=false) n3 (hn _ aN) (.inr h0);obtain⟨x,xs,hx⟩:∃ x xs,s.acr=x::xs:=by
  cases hq:s.acr with
  | nil=>exact absurd hq ha
  | cons x xs=>exact⟨x,xs,rfl⟩
 have a3':r.tail.tail.map Wd.t=jf s.acr:=a3;obtain⟨r1,r2⟩:=Cd a3' (λn hm=>hn n (YV _ hm));rw [hx]at a3';obtain⟨b1,b2,b3⟩:=nS (below:=true) (xs:=jf xs) a3' (hn _ (by rw [hx];simp)) (.inl rfl);obtain⟨c1,c2⟩:=Cd b3 (λn hm=>hn n (by rw [hx];simp [hm]));refine⟨?_,?_⟩
 ·unfold eV;rw [if_pos (OR hk)];rw [xC (by rw [pM,qe n1,qn a1,k9 b1];rfl),GK,pM];exact(congrArg (lZ true) (Ku r)).trans c1
 ·unfold dJ;rw [if_neg (by show ¬ cg cf cz=true;rw [uY];decide),if_neg (by show ¬ cg cf bZ=true;rw [u5];decide),if_neg (by show ¬ cg cf ck=true;rw [u6];decide)];refine⟨rfl,rfl,rfl,?_,rfl⟩
  show st.ss++ [_]=_
  rw [n2,a2,r2];rfl
theorem G8:ir [108,105,110,101]:=xG aD aD
theorem Eu:ir l3:=xG aD aD
theorem G9:ir l4:=xG aD aD
theorem DF:ir [115,119,105,116,99,104]:=xG aD aD
def yq(l:aP):List UInt8:= [108,105,110,101]++fR [l.nam.data.toList]
def CH(b:fY):List UInt8:=l4++fR (jf [b.len,b.cant])
def yr(j:ep):List UInt8:=l3++fR (jf [j.acr,j.up,j.lo,j.hi])
def ra(s:eU):List UInt8:= [115,119,105,116,99,104]++fR (s.nam.data.toList::jf (s.fst::s.acr))
theorem WW(l:aP):oe l=yq l++ [10]:=by
 unfold oe yq;rw [xI];simp [fR,jf,q9]
theorem WX(b:fY):yp b=CH b++ [10]:=xI _ _
theorem WY(j:ep):sO j=yr j++ [10]:=xI _ _
theorem WZ(s:eU):sP s=ra s++ [10]:=by
 unfold sP ra;rw [xI];simp [fR,pI]
def mJ(l:aP):Nat->Nat->List (List UInt8)
 | _,0=> []
 | k,n+1=>(if k=0 then []else [CH (l.bs.getD (k - 1) default)])++yr (l.js.getD k default)::mJ l (k+1) n
theorem Ha(l:aP):∀ n k,((mJ l k n).map λa=>a++ [10]).flatten =((List.range' k n).map (pJ l)).flatten
 | 0,k=>rfl
 | n+1,k=>by
  rw [List.range'_succ,XI,XT, <- Ha l n (k+1),mJ,pJ,WY]
  by_cases hk:k=0
  ·rw [if_pos hk,if_pos hk];simp
  ·rw [if_neg hk,if_neg hk,WX];simp
def u7(l:aP):List (List UInt8):=yq l::(mJ l 0 l.js.length++l.ss.map ra)
theorem Wx(l:aP):ow l=((u7 l).map λa=>a++ [10]).flatten :=by
 unfold ow jI gC u7;rw [X8,XI,XT,YB,Yw,Ha,WW, <- List.range_eq_range'];rw [XP]
 congr 2
 rw [List.map_map]
 congr 1
 apply List.map_congr_left;intro s _;exact WZ s
theorem wi{ns:List Int}(h:∀ n∈ns,-30000<=n/\n<=30000):∀ n∈ns,n.natAbs<10^6:=λn hn=>by have:=h n hn;omega
theorem Ew{ns:List Int}(h:∀ n∈ns,-20000<=n/\n<=20000):∀ n∈ns,n.natAbs<10^6:=λn hn=>by have:=h n hn;omega
theorem Iy{l:aP}(h:cM l){i:Nat}(hi:i<l.ss.length):dF (l.ss.getD i default).nam =true/\0<=(l.ss.getD i default).fst /\(l.ss.getD i default).acr ≠ []:=by
 have h0:=h.sa i hi;unfold fq at h0
 split at h0
 ·cases h0
 split at h0
 ·cases h0
 split at h0
 ·cases h0
 split at h0
 ·cases h0
 rename_i h1 h2 h3 h4
 have hw:dx (l.ss.getD i default).fst 1 (l.bs.length - (l.ss.getD i default).acr.length)=true:=by simpa using h4
 unfold dx at hw;simp only [Xg,decide_eq_true_eq]at hw;exact⟨by simpa using h1,ah,λe=>h3 mj⟩
theorem VZ{b:fY}(h:iQ b=0):0<=b.len:=by
 unfold iQ at h
 split at h
 ·rename_i hb
  unfold lR dx at hb;simp only [Xg,decide_eq_true_eq]at hb;omega
 ·cases h
theorem getD_at{α:Type}[Inhabited α]{l:List α}{i:Nat}(h:i<l.length):l[i]? =some (l.getD i default):=by rw [Xc,Xd h];rfl
theorem BE{α:Type}[Inhabited α]{l:List α}{i:Nat}(h:i<l.length):l.take (i+1)=l.take i++ [l.getD i default]:=by rw [YK,getD_at h];rfl
theorem U5{l:aP}(h:cM l):∀ a∈u7 l,ox a:=by
 have hnm:ir l.nam.data.toList:=wh (nm:=l.nam.data.toList) h.nam;intro a ha;unfold u7 at ha;rcases XM.1 ha with rfl|ha
 ·exact ua (ub G8) (uf _ (λw hw=>by simp at hw;subst hw;exact hnm))
 ·rcases Yg.1 ha with ha|ha
  ·have key:∀ n k,k+n<=l.js.length-> ∀ a∈mJ l k n,ox a:=by
    intro n
    induction n with
    | zero=>intro k _ a ha;simp [mJ]at ha
    | succ n ih=>
     intro k hk a ha;have hj:=h.js;rw [mJ]at ha;rcases Yg.1 ha with ha|ha
     ·split at ha
      ·simp at ha
      ·simp at ha;subst ha;exact ua (ub G9) (uf _ (rR (wi (uF (h.ba (k - 1) ah)))))
     ·rcases XM.1 ha with rfl|ha
      ·exact ua (ub Eu) (uf _ (rR (Ew (xX (h.ja k ah)))))
      ·exact ih (k+1) ah a ha
   exact key _ 0 ah a ha
  ·obtain⟨s,hs,rfl⟩:=XL.1 ha;obtain⟨i,hi,rfl⟩:=XN hs;have e:l.ss[i]=l.ss.getD i default:=by rw [Xc,Xd hi];rfl
   rw [e];obtain⟨m1,m2,m3⟩:=Iy h hi;refine ua (ub DF) (uf _ λw hw=>?_);rcases XM.1 hw with rfl|hw
   ·exact wh (nm:=(l.ss.getD i default).nam.data.toList) m1
   ·exact rR (wi (xY h hi).2.2) w hw
structure Kv (l:aP) (st:RS) (j b s:Nat):Prop where
 nam:st.nam=l.nam
 js:st.js=l.js.take j
 bs:st.bs=l.bs.take b
 ss:st.ss=l.ss.take s
theorem LL{l:aP}(h:cM l)(hg:(cx l).2=0):∀ n st,n<=l.ss.length->Kv l st l.js.length l.bs.length (l.ss.length - n)->(st.kind=bZ\/st.kind=cf)->jE st ((l.ss.drop (l.ss.length - n)).map ra)=⟨l,0,0,0⟩:=by
 intro n
 induction n with
 | zero=>
  intro st _ hr hk;rw [YE ah,List.map_nil,jE];have hl:st.ei=l:=by
   unfold RS.ei;rw [hr.nam,hr.js,hr.bs,hr.ss,X8,X8,Nat.sub_zero,X8]
  have hj:st.js.length≠0:=by rw [hr.js,X8,h.js];omega
  have hb:cg st.kind ck=false:=by
   rcases hk with e|e<;>(rw [e];simp only [ig];decide)
  unfold pn;rw [hl,if_neg (by rintro(h1|h1);exact hj h1;rw [hb]at h1;cases h1),if_pos hg]
 | succ n ih=>
  intro st hn hr hk;have hi:l.ss.length - (n+1)<l.ss.length:=by omega
  obtain⟨m1,m2,m3⟩:=Iy h hi;have hd:l.ss.drop (l.ss.length - (n+1))=l.ss.getD (l.ss.length - (n+1)) default::l.ss.drop (l.ss.length - n):=by
   rw [Ys hi,show l.ss.length - (n+1)+1=l.ss.length - n by omega]
   congr 1
   rw [Xc,Xd hi];rfl
  rw [hd,XI];have hsm:=wi (xY h hi).2.2;have hw:=xH [115,119,105,116,99,104] ((l.ss.getD (l.ss.length - (n+1)) default).nam.data.toList ::jf ((l.ss.getD (l.ss.length - (n+1)) default).fst ::(l.ss.getD (l.ss.length - (n+1)) default).acr)) DF (λw hw=>by
   rcases XM.1 hw with rfl|hw
   ·exact wh (nm:=(l.ss.getD (l.ss.length - (n+1)) default).nam.data.toList) m1
   ·exact rR hsm w hw)
  refine go_step hw λc0 r hrw=>?_
  obtain⟨g1,g2,g3,g4,g5,g6⟩:=OS (c0:=c0) (st:=cY st (ra (l.ss.getD (l.ss.length - (n+1)) default))) hk hrw hsm m1 m2 m3;refine⟨g1,ih _ ah ⟨g2.trans hr.nam,g3.trans hr.js,g4.trans hr.bs,?_⟩ (.inr g6)⟩;refine g5.trans ?_
  show st.ss++ [_]=_
  rw [hr.ss,show l.ss.length - n=l.ss.length - (n+1)+1 by omega,BE hi]
theorem OT{l:aP}(h:cM l)(hg:(cx l).2=0):∀ n k st,k+n=l.js.length->Kv l st k (k - 1) 0->(k=0/\st.kind=cz\/0<k/\st.kind=bZ)->jE st (mJ l k n++l.ss.map ra)=⟨l,0,0,0⟩:=by
 intro n
 induction n with
 | zero=>
  intro k st hk hr hkd;have hj:=h.js;rw [mJ,Yx];have:=LL h hg l.ss.length st (Xf _) ⟨hr.nam,by rw [hr.js,show k=l.js.length by omega],by rw [hr.bs,show k - 1=l.bs.length by omega],by rw [hr.ss,Xx]⟩ (.inl (by rcases hkd with⟨h1,_⟩|⟨_,h2⟩;omega;exact h2))
  rwa [Xx,Yv]at this
 | succ n ih=>
  intro k st hk hr hkd;have hj:=h.js;have hjk:k<l.js.length:=by omega
  have hjs:=Ew (xX (h.ja k hjk));have joint:∀ st,st.nam=l.nam->st.js=l.js.take k->st.bs=l.bs.take k->st.ss=l.ss.take 0->(st.kind=cz\/st.kind=ck)->jE st (yr (l.js.getD k default)::(mJ l (k+1) n++l.ss.map ra))=⟨l,0,0,0⟩:=by
   intro st q1 q2 q3 q4 q5;have hw:=xH l3 (jf [(l.js.getD k default).acr,(l.js.getD k default).up,(l.js.getD k default).lo,(l.js.getD k default).hi]) Eu (rR hjs);refine go_step hw λc0 r hrw=>?_
   obtain⟨g1,g2,g3,g4,g5,g6⟩:=RZ (c0:=c0) (st:=cY st (yr (l.js.getD k default))) q5 hrw hjs;refine⟨g1,ih (k+1) _ ah ⟨g2.trans q1,?_,g4.trans q3,g5.trans q4⟩ (.inr ⟨ah,g6⟩)⟩;refine g3.trans ?_
   show st.js++ [_]=_
   rw [q2,BE hjk]
  rw [mJ];rcases hkd with⟨rfl,hkd⟩|⟨h0,hkd⟩
  ·rw [if_pos rfl,Yx];exact joint st hr.nam hr.js (by rw [hr.bs]) hr.ss (.inl hkd)
  ·rw [if_neg ah];have hbk:k - 1<l.bs.length:=by omega
   have hbs:=wi (uF (h.ba (k - 1) hbk));have hw:=xH l4 (jf [(l.bs.getD (k - 1) default).len,(l.bs.getD (k - 1) default).cant]) G9 (rR hbs);refine go_step hw λc0 r hrw=>?_
   obtain⟨g1,g2,g3,g4,g5,g6⟩:=U4 (c0:=c0) (st:=cY st (CH (l.bs.getD (k - 1) default))) hkd hrw hbs (VZ (h.ba (k - 1) hbk));refine⟨g1,joint _ (g2.trans hr.nam) (g3.trans hr.js) ?_ (g5.trans hr.ss) (.inr g6)⟩;refine g4.trans ?_
   show st.bs++ [_]=_
   rw [hr.bs, <- BE hbk,show k - 1+1=k by omega]
theorem OU{l:aP}(hg:(cx l).2=0):uO (ow l)=⟨l,0,0,0⟩:=by
 have h:=kJ hg;have hlen:(ow l).length <=60000:=by
  have h1:=xc h l.ss.length (Xf _);have h2:=h.s1;have h3:=h.js;have h4:=h.n1;unfold ow;omega
 unfold uO;rw [if_neg ah,Rj,Wx,Et _ (U5 h),OQ];unfold u7;have hnm:ir l.nam.data.toList:=wh (nm:=l.nam.data.toList) h.nam;have hw:=xH [108,105,110,101] [l.nam.data.toList] G8 (λw hw=>by simp at hw;subst hw;exact hnm);refine go_step hw λc0 r hrw=>?_
 obtain⟨g1,g2,g3,g4,g5,g6⟩:=U2 (c0:=c0) (st:=cY nr (yq l)) rfl hrw h.nam;exact⟨g1,OT h hg l.js.length 0 _ ah ⟨g2,g3.trans rfl,g4.trans rfl,g5.trans rfl⟩ (.inl ⟨rfl,g6⟩)⟩
end Go.Proofs.YtbmlgmblfboigaaGreatDoor
namespace Go.Proofs.YtbmlgmblfboigaaGreatDoor
open Go Go.RowKit Go.Proofs Go.Lib
theorem R7:(Tryz.prog.info? 70).bind (·.zero)=some (.agg #[.int .i64 0,.int .i64 0,.int .i64 0]):=by kernel_rfl
theorem M7:cj Tryz.prog 70 0 0 true 2:=by unfold cj;kernel_rfl
theorem M8:cj Tryz.prog 70 1 2 false 1:=by unfold cj;kernel_rfl
theorem R9:(Tryz.prog.info? 70).map (·.size)=some 3:=by kernel_rfl
theorem Si:aQ Tryz.prog 29 true 2:=⟨ai,ai⟩
theorem Sj:aQ Tryz.prog 30 false 1:=⟨ai,ai⟩
theorem He:isIf (Tryz.prog.underlying 20)=true:=by kernel_rfl
def eI:List AV:= [.v (.string ⟨#[]⟩),.v (.slice none 0 0),.v (.slice none 0 0),.v (.slice none 0 0)]
theorem DG(vs:Array Value)(w:World)(hvs:vs.size=3):CallsDIn Fence.wide 8 Tryz.prog 26 vs .returning w λen u' w'=>∃ v,en= .returned v/\u'= .returning /\Ext w w':=by
 refine P6 (fn:=Tryz.f26) (K:=3) 17 ai rfl ai aU aU ?_ _ _ (by assumption);intro e_a ak ad;refine sj (λal af=>?_);have ab:=ef 6 af aa;have am:ak.length=0:=by rw [ad];rfl
 clear ad af;refine bV<|au<|at_<|ar (PT ab He) rfl<|bq (ae ab) aa ?_;clear ab;intro an ag ah
 refine ao<|bj ah (λaj=>?_) (λaj=>?_)
 ·skip;refine at_<|ar (aB ag) rfl<|nh ?_;clear ag ah;intro ap
  refine cK<|⟨_,nR ai,?_⟩
  trivial
 ·cases aj
theorem DI{mem:List Ob}{n:Nat}(hn:mem.length=n){jl jm je:Nat}{cnt col er:Int}(hl:mem[jl]? =some (.box 27 eI))(hm:mem[jm]? =some (.box 29 [mA 0,mA 0]))(he:mem[je]? =some (.box 30 [mA 0]))(h1:jl≠jm)(h2:jl≠je)(h3:jm≠je):
 xU Tryz.prog 26 [.ptr jl 0,.ptr jm 0,.ptr je 0] mem (gu cnt col er) (λm'=>m'[jl]? =some (.box 27 eI)/\m'[jm]? =some (.box 29 [mA cnt,mA col])/\m'[je]? =some (.box 30 [mA er])):=by
 have hln:=cV hl hn;have hmn:=cV hm hn;have hen:=cV he hn;refine P5 (fn:=Tryz.f26) 17 ai rfl ai aU aU ?_;intro e_a ay hA ap;refine sj (λaD av=>?_);have aE:=ef 6 av aa;have a3:ak aD (.tmp 0)=_:=ef 0 av (ae (hA 0 _ rfl));have a5:ak aD (.tmp 1)=_:=ef 1 av (ae (hA 1 _ rfl));have a6:ak aD (.tmp 2)=_:=ef 2 av (ae (hA 2 _ rfl));have aF:ay.length=n:=by rw [ap];exact hn
 have aG:ay[jl]? =_:=(congrArg (λq=>q[jl]?) ap).trans hl;simp only [pS,Value.cells,Nat.reduceAdd,eI]at aG;have a7:ay[jm]? =_:=(congrArg (λq=>q[jm]?) ap).trans hm;have a8:ay[je]? =_:=(congrArg (λq=>q[je]?) ap).trans he;clear hA ap av;refine bV<|au<|at_<|ar (PU aE He) rfl<|bR (ae a3) (ae a5) (ae a6) (ae aE) aa ?_;clear a3 a5 a6 aE;intro b0 a9 ba bb aJ bc
 refine ao<|bj bc (λbe=>?_) (λbe=>?_)
 ·cases be
 refine au<|at_<|ar (MC BJ rfl _ aJ) rfl<|ar (cI aa rfl) rfl<|ar (cI (ae aa) rfl) rfl<|dh (ae (ag a9)) (ae (ag ba)) (ae (ag bb)) (ae (ag aJ)) (ae aa) aa ?_;clear a9 ba bb aJ bc;intro b1 bf bg bh bO bk bm
 refine ao<|bj bk (λbq=>?_) (λbq=>?_)
 ·skip;refine au<|at_<|aL (cy R7 rfl aF) trivial rfl (λb2 ab=>?_)
  have aA:=bu ab aF;simp only [pS,Value.cells,Nat.reduceAdd,eI]at aA;have bv:=aK ab aG;have bw:=aK ab a7;have bx:=aK ab a8;have bQ:=br ab aF;clear ab aG a7 a8;refine aL (bP aa (ae bm) rfl rfl aA R9 rfl az) trivial rfl (λb6 ad=>?_);have aM:=aZ ad aA;simp only [pS,Value.cells,Nat.reduceAdd,eI]at aM;have bA:=aw ad bv ah;have bB:=aw ad bw ah;have bC:=aw ad bx ah;have aO:=aX ad bQ;clear ad aA bv bw bx;refine bp (aC (ae bf)) (aC (ae bg)) (aC (ae bh)) (aC aa) ?_;clear bf bk bm bg bh bO;intro b7 bD bE bF aP;refine ao<|fZ 7 0 aO ai ai ai ai (λb9 af=>?_)
  have aB:=bz af aM;have aQ:=bz af bA;have bG:=bz af bB;have bH:=bz af bC;have bS:_=n+1:=ga (K:=0) af aO;clear af aM bA bB bC aO;refine aR (λM_ hM_=>(dq b8 qH qG qF rfl)) trivial ?_;refine aR (λM_ hM_=>(aI M7 rfl (ae aP))) trivial ?_;refine cG (n) (λM_ hM_=>(ax (aH Si rfl (cn hM_ aB aN) aa az) (by simp only [pS,Value.cells,Nat.reduceAdd,eI]<;>rfl))) trivial trivial ?_;refine aR (λM_ hM_=>(aI M8 rfl (ae (ag aP)))) trivial ?_;refine cG (n) (λM_ hM_=>(ax (aH Sj rfl (cn hM_ aB aN) aa az) (by simp only [pS,Value.cells,Nat.reduceAdd,eI]<;>rfl))) trivial trivial ?_;refine oZ (jl) (λM_ hM_=>(nw (ae (aj bD)) (aj aa) rfl rfl (cn hM_ aQ aN) gZ rfl az)) trivial trivial ⟨.inl bo,⟨.inl bo,trivial⟩⟩ (λca al=>?_);have aS:=aZ al aQ;simp only [pS,Value.cells,Nat.reduceAdd,eI]at aS;have bI:=aw al aB ah;have aT:=aw al bG ah;have bJ:=aw al bH ah;have bT:=aX al bS;clear al aB aQ bG bH;refine oZ (jm) (λM_ hM_=>(nw (aC (ae (aj bE))) (aC (ag aa)) rfl rfl (cn hM_ aT aN) xN rfl az)) trivial ⟨.inl bo,trivial⟩ ⟨.inl bo,⟨.inl bo,⟨.inl bo,trivial⟩⟩⟩ (λcb am=>?_);have aY:=aZ am aT;simp only [pS,Value.cells,Nat.reduceAdd,eI]at aY;have bL:=aw am aS ah;have bM:=aw am bI ah;have a2:=aw am bJ ah;have bW:=aX am bT;clear am aS bI aT bJ;refine gn rfl ?_;refine aL (bP (aC (aC (ae (aj bF)))) (aC (aC aa)) rfl rfl a2 qI rfl az) trivial rfl (λcc an=>?_);have bN:=aZ an a2;simp only [pS,Value.cells,Nat.reduceAdd,eI]at bN;have bY:=aw an aY ah;have bZ:=aw an bL ah;have cd:=aw an bM ah;have ce:=aX an bW;clear an aY bL bM a2;refine nh ?_;clear bD bE bF aP;intro cf;refine cK<|⟨_,nR ai,?_⟩
  exact⟨bZ,bY,bN⟩
 ·cases bq
end Go.Proofs.YtbmlgmblfboigaaGreatDoor
namespace Go.Proofs.YtbmlgmblfboigaaGreatDoor
open Go Go.RowKit Go.Proofs Go.Shelf Go.Lib
theorem Sl:(Tryz.prog.info? 71).bind (·.zero)=some (.pointer none):=by kernel_rfl
theorem Sm:(Tryz.prog.info? 77).bind (·.zero)=some (.agg #[.string ByteArray.empty,.slice none 0 0,.slice none 0 0,.slice none 0 0,.int .i64 0,.slice none 0 0,.string ByteArray.empty,.int .i64 0,.string ByteArray.empty,.map none]):=by kernel_rfl
theorem Sr:Tryz.prog.underlying 77=some (.struct (eP Tryz.prog 77)):=by kernel_rfl
theorem Ss:∀ w,((eP Tryz.prog 77).mapM λf=>Prod.mk f.offset<$>sizeOf f.type:Sem (Array (Nat×Nat))).run Tryz.prog w= .ok (#[(0,4),(4,1),(5,1),(6,2),(8,1),(9,1)]) w:=λ_=>by kernel_rfl
theorem Ey:∀ args w,(callFunc 26 args).run Tryz.prog w= .ok (.enter 26 args) w:=λ_ _=>by kernel_rfl
theorem OV:∀ args w,(callFunc 27 args).run Tryz.prog w= .ok (.enter 27 args) w:=λ_ _=>by kernel_rfl
theorem OW:∀ args w,(callFunc 28 args).run Tryz.prog w= .ok (.enter 28 args) w:=λ_ _=>by kernel_rfl
theorem OX:∀ args w,(callFunc 29 args).run Tryz.prog w= .ok (.enter 29 args) w:=λ_ _=>by kernel_rfl
theorem OY:∀ args w,(callFunc 30 args).run Tryz.prog w= .ok (.enter 30 args) w:=λ_ _=>by kernel_rfl
theorem OZ:∀ args w,(callFunc 31 args).run Tryz.prog w= .ok (.enter 31 args) w:=λ_ _=>by kernel_rfl
theorem O0:∀ args w,(callFunc 61 args).run Tryz.prog w= .ok (.enter 61 args) w:=λ_ _=>by kernel_rfl
theorem Su:bO Tryz.prog 73 75 2 24 (.agg #[.string ByteArray.empty,.int .i64 0]):=⟨ai,ai,ai⟩
theorem Sv:(Tryz.prog.info? 71).map (·.size)=some 1:=by kernel_rfl
theorem zT:aQ Tryz.prog 27 true 4:=⟨ai,ai⟩
theorem Hf:aQ Tryz.prog 29 true 2:=⟨ai,ai⟩
theorem U6:aQ Tryz.prog 3 false 1:=⟨ai,ai⟩
theorem Hg:aQ Tryz.prog 30 false 1:=⟨ai,ai⟩
theorem rz:aQ Tryz.prog 71 false 1:=⟨ai,ai⟩
theorem Sz:aQ Tryz.prog 73 false 1:=⟨ai,ai⟩
theorem V0(l:List UInt8)(hl:l.length<=1000000000):bN Tryz.prog 29 [.v (.string (bs l)),.v (.string ⟨#[10]⟩)] (λq=>q= .v (.string (bs (e7 l)))):=KZ (bs l) ⟨#[10]⟩ (by rw [ql];exact hl)
def J6:Ob->Bool
 | .box _ _=>true
 | .bT _=>true
 | _=>false
theorem KR.not{st:RS}{H:RH}{lo b j:Nat}{mem:List Ob}{o:Ob}(h:e9 st H lo mem b)(hj:mem[j]? =some o)(hb:j≠b)(ho:J6 o=true):¬ KR H b j:=by
 rintro(rfl|rfl|rfl|rfl|rfl|⟨q,hq,rfl⟩)
 ·exact hb rfl
 ·rw [h.M]at hj;cases hj;cases ho
 ·rw [h.J]at hj;cases hj;cases ho
 ·rw [h.B]at hj;cases hj;cases ho
 ·rw [h.S]at hj;cases hj;cases ho
 ·rw [h.fam.at_ q hq ah]at hj;cases hj;cases ho
theorem e9.set{st:RS}{H:RH}{lo b j:Nat}{mem:List Ob}{T:TypeId}{c:List AV}{o':Ob}(h:e9 st H lo mem b)(hj:mem[j]? =some (.box T c))(hb:j≠b):e9 st H lo (mem.set j o') b:=by
 have hn:=KR.not h hj hb rfl;have ne:∀ k,KR H b k->j≠k:=λk hk e=>hn (e ▸ hk)
 have keep:∀ {k:Nat} {o:Ob},KR H b k->mem[k]? =some o->(mem.set j o')[k]? =some o:=λhk hm=>by rw [Xm (ne _ hk)];exact hm
 exact⟨keep (.inl rfl) h.box,keep (.inr (.inr (.inl rfl))) h.J,keep (.inr (.inr (.inr (.inl rfl)))) h.B,keep (.inr (.inr (.inr (.inr (.inl rfl))))) h.S,keep (.inr (.inl rfl)) h.M,
  h.fam.nL rfl λq hq _ e=>ne _ (.inr (.inr (.inr (.inr (.inr ⟨q,hq,rfl⟩))))) e.symm,h.keys,h.lo⟩
theorem e9.off{st:RS}{H:RH}{lo b j:Nat}{mem:List Ob}{o:Ob}(h:e9 st H lo mem b)(hj:mem[j]? =some o)(hb:j≠b)(ho:J6 o=true):H.jM≠j/\H.jJ≠j/\H.jB≠j/\H.jS≠j:=by
 have hn:=KR.not h hj hb ho;exact⟨λe=>hn (.inr (.inl e.symm)),λe=>hn (.inr (.inr (.inl e.symm))),λe=>hn (.inr (.inr (.inr (.inl e.symm)))),λe=>hn (.inr (.inr (.inr (.inr (.inl e.symm)))))⟩
theorem hP.W0{i:Nat}{st:RS}(h:hP i st)(hi:i<=1000000)(la:Wd)(l:List UInt8):CJ (cY {st with last:=la} l):=⟨(h.yo hi).js,(h.yo hi).bs,(h.yo hi).ss,(h.yo hi).cs⟩
theorem Wy:aQ Tryz.prog 27 true 4:=⟨ai,ai⟩
theorem Wz:aQ Tryz.prog 29 true 2:=⟨ai,ai⟩
theorem WA:aQ Tryz.prog 30 false 1:=⟨ai,ai⟩
theorem DJ{e:Nat->AV}{m:List Ob}{R:lV}{k c er:Int}(hR:R=⟨zL,k,c,er⟩)(s2:ak e (.tmp 2)= .ptr 1 0)(s3:ak e (.tmp 3)= .ptr 2 0)(s4:ak e (.tmp 4)= .ptr 3 0)(h1:m[1]? =some (.box 27 eI))(h2:m[2]? =some (.box 29 [mA k,mA c]))(h3:m[3]? =some (.box 30 [mA er])):
 iL Tryz.prog 47 Tryz.f7 (λq=>q=fw R) .ret e m:=by
 subst hR;exact BY bm ai (dE s2 h1 Wy aD aN) (dE s3 h2 Wz (Xf 2) aN) (dE s4 h3 WA (Xf 1) aN)
  (eB (lN (cH (.ro _ rfl) (cH (.nil 4) (cH (.nil 2) (cH (.nil 3) fJ)))))) (eB (.ro _ rfl)) (qQ (.ro _ rfl)) rfl
theorem O1{M0:List Ob}{n:Nat}(hn:M0.length=n){st:RS}{la:Wd}{H:RH}{lo b i:Nat}(hR:e9 {st with last:=la} H lo M0 b)(hI:hP i st)(hi:i<=1000000):
 ee Tryz.prog 31 [.ptr b 0] M0 (λr m'=>pn st=⟨st.ei,0,0,0⟩/\r= .tuple []/\bM M0 m' (λ_=>False)) (λv m'=>∃ k c e,pn st=⟨zL,k,c,e⟩/\v=gu k c e/\bM M0 m' (λj=>j=b)):=by
 have hs:eo st.ei:=hI.yl hi;have hcn:=hI.cnt
 by_cases hm:st.js.length=0\/cg st.kind ck=true
 ·refine(K1 hn hR (by show -1000000000<=st.cnt/\st.cnt<=1000000000;rw [hcn];omega) hm).mono (λr m h=>h.elim) (λv m h=>?_);exact⟨st.cnt+1,1,6,by unfold pn;rw [if_pos hm],h.1,h.2⟩
 ·have hj:st.js.length≠0:=λe=>hm (.inl e)
  have hk:cg st.kind ck=false:=by
   cases hq:cg st.kind ck with
   | false=>rfl
   | true=>exact absurd (.inr hq) hm
  by_cases he:(cx st.ei).2=0
  ·refine(M4 hn hR hs he (λe=>hj (by show st.js.length=0;rw [show st.js= []from e];rfl)) hk).mono (λr m h=>?_) (λv m h=>h.elim);exact⟨by unfold pn;rw [if_neg hm,if_pos he],h.1,h.2⟩
  ·obtain⟨r1,r2,r3⟩:=hI.row hj he;have hne:du (qX (cx st.ei).1.1) st.ks st.cs≠ []:=λe=>by rw [e]at r3;simp at r3;omega
   have hks:H.hs.map (·.1)=st.ks:=hR.keys;rw [<- hks]at hne;obtain⟨q0,h1,h2,h3⟩:=JX hR.fam.len hne;have h3':du (qX (cx st.ei).1.1) st.ks st.cs=cR st.cs q0:=by rw [<- hks];exact h3
   refine(LK hn hR hs he hj hk r1 q0 h1 h2 r2 (by rw [<- h3'];exact r3)).mono (λr m h=>h.elim) (λv m h=>?_);exact⟨_,1,_,by unfold pn;rw [if_neg hm,if_neg he,h3'];rfl,h.1,h.2⟩
section
variable (es er:Value) (hes:e8 es) (her:e8 er)
include hes her
theorem O2(tx:List UInt8)(hl:tx.length<=1000000):iH Tryz.prog (gX es er) 7 [.v (.string (bs tx))] (λq=>q=fw (uO tx)):=by
 have hz:(bs tx).size =tx.length:=rfl
 by_cases hbig:60000<tx.length
 ·rw [uO,if_pos hbig];refine EZ (fn:=Tryz.f7) (gX es er) [.ptr 1 0,.ptr 2 0,.ptr 3 0] 47 ai rfl ai aU aU (λvs w h=>DG vs w h) Ey ?_;intro dc b6 hA bb;have b9:ak dc (.tmp 0)=_:=hA 0 _ rfl;have bc:b6.length=1:=by rw [bb];rfl
  have cb:b6[0]? =some (.bT (gX es er)):=by rw [bb];rfl
  clear hA bb;refine at_<|aL (cy j8 rfl bc) trivial rfl (λg7 a5=>?_)
  have be:=bu a5 bc;simp only [pS,Value.cells,Nat.reduceAdd]at be;have cc:=aK a5 cb;have aO:=br a5 bc;have aO:_=2:=aO;clear a5 cb;refine aL (cy BF rfl aO) trivial rfl (λg8 aP=>?_);have bk:=bu aP aO;simp only [pS,Value.cells,Nat.reduceAdd]at bk;have cd:=aK aP be;have ce:=aK aP cc;have aQ:=br aP aO;have aQ:_=3:=aQ;clear aP be cc;refine aL (cy xJ rfl aQ) trivial rfl (λg9 aA=>?_);have bo:=bu aA aQ;simp only [pS,Value.cells,Nat.reduceAdd]at bo;have cf:=aK aA bk;have bA:=aK aA cd;have cg:=aK aA ce;have a6:=br aA aQ;have a6:_=4:=a6;clear aA bk cd ce;refine bp (ae (ag b9)) (ag aa) (ae aa) aa ?_;clear b9;intro hh bq ci cj ck;refine ao<|au<|at_<|ar (al bq) rfl<|ar (jg aa rfl fj) rfl<|ar (ey aa ay) rfl<|bR (ae (ag bq)) (ae (ag ci)) (ae (ag cj)) (ae (ag ck)) aa ?_;clear bq ci cj ck;intro hv dd bD bE bF cm
  refine ao<|bj cm (λaR=>?_) (λaR=>?_)
  ·replace aR:=bt aR;refine au<|at_<|ar (dq b8 qH qG qF rfl) rfl ?_
   refine ar (dq b8 BL BI BG rfl) rfl ?_;refine aL (bP (ag bD) (ae aa) rfl rfl bA gZ rfl az) trivial rfl (λja bG=>?_);have de:=aZ bG bA;simp only [pS,Value.cells,Nat.reduceAdd]at de;have ec:=aw bG bo aD;have df:=aw bG cf aD;have ed:=aw bG cg aD;have hC:=aX bG a6;clear bG bo cf bA cg;refine aL (bP (aC (ag bE)) (aC aa) rfl rfl df xN rfl az) trivial rfl (λhD ad=>?_);have bL:=aZ ad df;simp only [pS,Value.cells,Nat.reduceAdd]at bL;have cn:=aw ad de aD;have bM:=aw ad ec aD;have co:=aw ad ed aD;have bv:=aX ad hC;clear ad de ec df ed;refine aL (bP (aC (aC (ag bF))) ay rfl rfl bM qI rfl az) trivial rfl (λhG ab=>?_);have bN:=aZ ab bM;simp only [pS,Value.cells,Nat.reduceAdd]at bN;have cr:=aw ab bL aD;have cu:=aw ab cn aD;have cN:=aw ab co aD;have bw:=aX ab bv;clear ab bL cn bM co;refine bJ (aC (aC (aC (ag bD)))) (aC (aC (aC (ag bE)))) (aC (aC (aC (ag bF)))) ?_;clear dd bD bE bF cm;intro jb ee eg eh;refine ao<|bg<|bS<|BY bm ai (dE ee cu zT az aN) (dE eg cr Hf az aN) (dE eh bN Hg az aN) (eB (lN (cH (.ro _ rfl) (cH (.nil 4) (cH (.nil 2) (cH (.nil 3) fJ)))))) (eB (.ro _ rfl)) (qQ (.ro _ rfl)) ?_
   clear ee eg eh bN cr cu cN bw;rfl
  ·replace aR:=bf aR;exfalso;omega
 ·rw [uO,if_neg hbig];obtain⟨R,hR⟩:∃ R,R=jE nr ((dX tx).map e7):=⟨_,rfl⟩;rw [<- hR];have hI0:PI tx 0 nr R:=⟨hR.symm,Xy _,hP.zero⟩;have hll:=MW tx;refine EZ (fn:=Tryz.f7) (gX es er) [.ptr 1 0,.ptr 2 0,.ptr 3 0] 47 ai rfl ai aU aU (λvs w h=>DG vs w h) Ey ?_;intro dc b6 hA bb;have b9:ak dc (.tmp 0)=_:=hA 0 _ rfl;have bc:b6.length=1:=by rw [bb];rfl
  have cb:b6[0]? =some (.bT (gX es er)):=by rw [bb];rfl
  clear hA bb;refine at_<|aL (cy j8 rfl bc) trivial rfl (λg7 a5=>?_)
  have be:=bu a5 bc;simp only [pS,Value.cells,Nat.reduceAdd,aV,aW,bn,eI]at be;have cc:=aK a5 cb;have aO:=br a5 bc;have aO:_=2:=aO;clear a5 cb;refine aL (cy BF rfl aO) trivial rfl (λg8 aP=>?_);have bk:=bu aP aO;simp only [pS,Value.cells,Nat.reduceAdd,aV,aW,bn,eI]at bk;have cd:=aK aP be;have ce:=aK aP cc;have aQ:=br aP aO;have aQ:_=3:=aQ;clear aP be cc;refine aL (cy xJ rfl aQ) trivial rfl (λg9 aA=>?_);have bo:=bu aA aQ;simp only [pS,Value.cells,Nat.reduceAdd,aV,aW,bn,eI]at bo;have cf:=aK aA bk;have bA:=aK aA cd;have cg:=aK aA ce;have a6:=br aA aQ;have a6:_=4:=a6;clear aA bk cd ce;refine bp (ae (ag b9)) (ag aa) (ae aa) aa ?_;clear b9;intro hh bq ci cj ck;refine ao<|au<|at_<|ar (al bq) rfl<|ar (jg aa rfl fj) rfl<|ar (ey aa ay) rfl<|bR (ae (ag bq)) (ae (ag ci)) (ae (ag cj)) (ae (ag ck)) aa ?_;clear bq ci cj ck;intro hv dd bD bE bF cm
  refine ao<|bj cm (λaR=>?_) (λaR=>?_)
  ·replace aR:=bt aR;exfalso;omega
  replace aR:=bf aR;refine bC<|ao ⟨(aE bD (aE bE (aE bF aM))),?_⟩
  refine Vp (λjc bO=>?_);have ei:=ef 0 bO (ae dd);have ej:=ef 2 bO (ae bD);have ek:=ef 3 bO (ae bE);have en:=ef 4 bO (ae bF);have hH:=ef 9 bO (ae cm);clear bO;refine Bf ?_;refine BV ?_;refine at_<|aL (P0 a6) trivial rfl (λhD ad=>?_)
  have eo:=bu ad a6;have bM:=aK ad bo;have bL:=aK ad cf;have cn:=aK ad bA;have co:=aK ad cg;have bv:=br ad a6;have bv:_=5:=bv;clear ad bo cf bA cg;refine ar (dq (bB aa b8) Sm Sr Ss rfl) rfl ?_;refine aL (cZ aa rfl bv) trivial rfl (λhG ab=>?_);have dg:=bu ab bv;simp only [pS,Value.cells,Nat.reduceAdd,aV,aW,bn,eI]at dg;have ep:=aK ab eo;have bN:=aK ab bM;have cr:=aK ab bL;have cu:=aK ab cn;have cN:=aK ab co;have bw:=br ab bv;have bw:_=6:=bw;clear ab eo bM bL cn co;refine aL (cy Sl rfl bw) trivial rfl (λjd a7=>?_);have cO:=bu a7 bw;simp only [pS,Value.cells,Nat.reduceAdd,aV,aW,bn,eI]at cO;have eu:=aK a7 dg;have ev:=aK a7 ep;have ew:=aK a7 bN;have ez:=aK a7 cr;have eC:=aK a7 cu;have eD:=aK a7 cN;have dh:=br a7 bw;have dh:_=7:=dh;clear a7 dg ep bN cr cu cN;refine aL (bP aa (ae aa) rfl rfl cO Sv rfl az) trivial rfl (λje a8=>?_);have eE:=aZ a8 cO;simp only [pS,Value.cells,Nat.reduceAdd,aV,aW,bn,eI]at eE;have eF:=aw a8 eu aD;have hI:=aw a8 ev aD;have hK:=aw a8 ew aD;have hN:=aw a8 ez aD;have hO:=aw a8 eC aD;have hQ:=aw a8 eD aD;have hU:=aX a8 dh;clear a8 cO eu ev ew ez eC eD;refine bR (aC (aj ei)) (aC (aj ej)) (aC (aj ek)) (aC (aj en)) (aC aa) ?_;clear ei ej ek en hH;intro jf eG eJ eK eL eO;refine ao<|Bf ?_
  refine Bf ?_;refine BV ?_;refine TM 2 5 eF rfl (λjh a9=>?_);have hV:=aw a9 eE aD;have di:=aZ a9 eF;simp only [Yi,Ya]at di;have hW:=aw a9 hI aD;have hY:=aw a9 hK aD;have hZ:=aw a9 hN aD;have h6:=aw a9 hO aD;have h7:=aw a9 hQ aD;have dj:=aX a9 hU;clear a9;refine sV 59 4 1 di rfl dj (λjj jl aY a2=>?_);have eP:=bu aY dj;have h8:=aw a2 eP aD;have eQ:=aK aY hV;have h9:=aw a2 eQ aD;have eR:=aK aY di;have dk:=aZ a2 eR;simp only [Yi,Ya]at dk;have eS:=aK aY hW;have ia:=aw a2 eS aD;have eT:=aK aY hY;have ib:=aw a2 eT aD;have eU:=aK aY hZ;have ic:=aw a2 eU aD;have eV:=aK aY h6;have ie:=aw a2 eV aD;have eW:=aK aY h7;have ig:=aw a2 eW aD;have eX:=br aY dj;have dl:_=8:=aX a2 eX;clear aY a2 eX eP eQ eR eS eT eU eV eW;refine sV 95 2 2 dk rfl dl (λjm jn aS aT=>?_);have eY:=bu aS dl;have ih:=aw aT eY aD;have eZ:=aK aS h8;have ij:=aw aT eZ aD;have e0:=aK aS h9;have ik:=aw aT e0 aD;have e3:=aK aS dk;have dm:=aZ aT e3;simp only [Yi,Ya]at dm;have e4:=aK aS ia;have il:=aw aT e4 aD;have e5:=aK aS ib;have im:=aw aT e5 aD;have e6:=aK aS ic;have io:=aw aT e6 aD;have e8:=aK aS ie;have ip:=aw aT e8 aD;have fa:=aK aS ig;have iq:=aw aT fa aD;have fb:=br aS dl;have dn:_=9:=aX aT fb;clear aS aT fb eY eZ e0 e3 e4 e5 e6 e8 fa;refine sV 97 3 3 dm rfl dn (λjo jp aG aJ=>?_);have fc:=bu aG dn;have fd:=aw aJ fc aD;have fe:=aK aG ih;have ff:=aw aJ fe aD;have fg:=aK aG ij;have fh:=aw aJ fg aD;have fi:=aK aG ik;have fk:=aw aJ fi aD;have fl:=aK aG dm;have dp:=aZ aJ fl;simp only [Yi,Ya]at dp;have fm:=aK aG il;have fo:=aw aJ fm aD;have fp:=aK aG im;have fq:=aw aJ fp aD;have fs:=aK aG io;have ft:=aw aJ fs aD;have fu:=aK aG ip;have fx:=aw aJ fu aD;have fy:=aK aG iq;have fz:=aw aJ fy aD;have fA:=br aG dn;have cP:_=10:=aX aJ fA;clear aG aJ fA fc fe fg fi fl fm fp fs fu fy;refine at_<|ar (al eG) rfl<|aL (jy (jw (Rh (bs tx)) [] cP (aE aa aM) mm aD .nil rfl OV) (show _=(.clo (.func 61) [] [.ptr 10 0])from rfl)) trivial rfl (λbQ aB=>?_)
  have ir:=dW aB aU fd aD;have iu:=dW aB aU ff aD;have iv:=dW aB aU fh aD;have cQ:=dW aB aU fk aD;have iw:=dW aB aU dp aD;have ix:=dW aB aU fo aD;have cR:=dW aB aU fq aD;have cT:=dW aB aU ft aD;have cU:=dW aB aU fx aD;have cV:=dW aB aU fz aD;have fB:bQ[10]? =some _:=lH aB aU cP 0 rfl
  (try simp only [Ob.rn,rn,rn.rnL,rho,Xo,Xs,XA,Xw,XB,Nat.reduceAdd,Nat.reduceSub,Xr,Xx,aV,aW,bn,eI]at fB)
  have iz:_=11:=jk aB cP 1 rfl;clear aB fd ff fh fk dp fo fq ft fx fz cP;refine bR (ag eJ) (ag eK) (ag eL) (ag eO) aa ?_;clear eG eJ eK eL eO;intro jq cw cx cz cW du;refine ao<|P4 ?_
  refine Ns du (OA tx hl 10) O0 (by exact(by rintro y hy;obtain⟨_,_,rfl⟩:=XL.1 hy;rfl)) aU aU fB (λi mem=>∃ s:(RS×Wd×RH),match s with|⟨st,la,H⟩=>(mem[6]? =bQ[6]?)/\(mem[3]? =bQ[3]?)/\(mem[2]? =bQ[2]?)/\(mem[1]? =bQ[1]?)/\(mem[0]? =bQ[0]?)/\(∃ n,mem.length=n/\11<=n)/\((PI tx i st R/\e9 {st with last:=la} H 0 mem 5))) (by rintro i_ m_ c_ d_ hc_ ⟨⟨st,la,H⟩,cA,cB,cC,cD,cE,⟨fC,bW,dv⟩,hinv⟩;exact⟨⟨st,la,H⟩,(aw rfl cA aD),(aw rfl cB aD),(aw rfl cC aD),(aw rfl cD aD),(aw rfl cE aD),⟨_,P3 bW,dv⟩,⟨hinv.1,hinv.2.set hc_ aD⟩⟩) ⟨⟨nr,⟨⟨#[]⟩,0⟩,⟨4,7,8,9,[]⟩⟩,rfl,rfl,rfl,rfl,rfl,⟨_,iz,ah⟩,?_⟩ ?_ ?_
  ·exact⟨hI0,⟨iw,iv,iu,ir,ix,bI.zero _,rfl,aN⟩⟩
  ·rintro i jr iA iB iC ⟨⟨st,la,H⟩,cA,cB,cC,cD,cE,⟨fC,bW,dv⟩,hinv⟩ cX
   (obtain⟨hinv,hRd⟩:=hinv;obtain⟨l,hl',rfl,hll',hi'⟩:=VQ iC;have hcl:=Ri l;have hcn:=hinv.rw'.cnt;have hb:=hRd.box;have hJ:=hRd.J;have hB:=hRd.B;have hS:=hRd.S;have hM:=hRd.M;have hF:=hRd.fam;obtain⟨⟨x1,x2,x3,x4⟩,⟨x5,x6,x7⟩,x8,x9,x10⟩:=hRd.ne)
   have bY:=cA.trans cQ;have bZ:=cB.trans cR;have b0:=cC.trans cT;have b1:=cD.trans cU;have c6:=cE.trans cV;have b2:=hb;simp only [pS,Value.cells,Nat.reduceAdd,aV,aW,bn,eI]at b2;have dw:=hJ;simp only [pS,Value.cells,Nat.reduceAdd,aV,aW,bn,eI]at dw;have dx:=hB;simp only [pS,Value.cells,Nat.reduceAdd,aV,aW,bn,eI]at dx;have dy:=hS;simp only [pS,Value.cells,Nat.reduceAdd,aV,aW,bn,eI]at dy;have fD:=hM;have fE:=hF;refine sj (λjs ba=>?_);have fG:=ef 2 ba (ag cw);have fH:=ef 3 ba (ag cx);have fI:=ef 4 ba (ag cz);have dz:=ef 5 ba (ag cW);have fK:=ef 6 ba aa;have iD:=ef 17 ba (ag du);have iF:=ef 18 ba (ae aa);clear ba;refine bV<|au<|at_<|ar (ax (aH rz rfl bY dz az) nI) rfl ?_
   refine ar (bH aa) rfl<|ar (aI ji rfl aa) rfl<|ar (ax (aH U6 rfl b2 aa az) nI) rfl ?_
   (refine ar (cv aa ay ?_) rfl ?_; · (unfold In64;omega))
   refine ar (bH (aj aa)) rfl<|ar (aI ji rfl aa) rfl<|aL (bP aa (ag aa) rfl rfl b2 iK rfl az) trivial rfl (λjt af=>?_)
   have cG:=aZ af b2;simp only [pS,Value.cells,Nat.reduceAdd,aV,aW,bn,eI]at cG;have dA:=aw af bY aD;have fL:=aw af bZ aD;have fO:=aw af b0 aD;have fP:=aw af b1 aD;have fQ:=aw af c6 aD;have fR:=aw af cX aD;have fS:=aw af dw ah;have fT:=aw af dx ah;have fU:=aw af dy ah;have fW:=aw af fD ah;have fX:=bI.aw af fE b2 rfl;have iG:=aX af bW;clear af bY bZ b0 b1 c6 cX b2 dw dx dy fD fE;refine bR (aC (ae (ag (aj fG)))) (aC (ae (ag (aj fH)))) (aC (ae (ag (aj fI)))) (aC (ae (ag (aj dz)))) (aC (ae (ag (aj fK)))) ?_;clear iD iF fG fH fI dz fK;intro ju fY fZ f0 dB ga;refine ao<|au<|dZ 6 ai ai ai ai ?_
   refine dr (ax (aH rz rfl dA dB az) nI) rfl ?_;refine dr (al (ae ga)) rfl<|dr (bh (aE aa (aE ay aM)) rfl (V0 l ah) OX) rfl ?_
   refine dr (bh (aE aa aM) rfl (MS (e7 l) ah) OW) rfl ?_;refine dr (bH (ae (ag aa))) rfl<|dr (aI jL rfl aa) rfl<|dC<|aL (bP aa (ag aa) rfl rfl cG Jv rfl az) trivial rfl (λiI am=>?_)
   have c7:=aZ am cG;simp only [pS,Value.cells,Nat.reduceAdd,aV,aW,bn,eI]at c7;have cI:=aw am dA aD;have cJ:=aw am fL aD;have cL:=aw am fO aD;have cM:=aw am fP aD;have c8:=aw am fQ aD;have dD:=aw am fR aD;have gb:=aw am fS ah;have gc:=aw am fT ah;have gd:=aw am fU ah;have ge:=aw am fW ah;have gf:=bI.aw am fX cG rfl;have dF:=aX am iG;clear am cG dA fL fO fP fQ fR fS fT fU fW fX;refine bp (aC (ag (aj fY))) (aC (ag (aj fZ))) (aC (ag (aj f0))) (aC (ag (aj dB))) ?_;clear fY fZ f0 dB ga;intro jv gg gh gi dG;refine ao<|au<|at_<|ar (ax (aH rz rfl cI dG az) nI) rfl ?_
   refine ar (bH aa) rfl<|ar (aI jL rfl aa) rfl<|ar (ax (aH Sz rfl c7 aa az) nI) rfl ?_
   refine ar (ax (ca aa rfl Su.1) b7) rfl ?_;refine ar (ey aa ay) rfl<|bR (ag (aj gg)) (ag (aj gh)) (ag (aj gi)) (ag (aj dG)) aa ?_;clear gg gh gi dG;intro jx gj gk gl dH gm
   refine ao<|bj gm (λbx=>?_) (λbx=>?_)
   ·replace bx:=bt bx
    (obtain⟨w0,ws,hwd⟩:∃ w0 ws,eN (e7 l) 0=w0::ws:=(by cases hq_:eN (e7 l) 0 with|nil=>(rw [hq_]at bx;simp at bx)|cons a b=>exact⟨a,b,rfl⟩))
    refine at_<|ar (ax (aH rz rfl cI dH az) nI) rfl ?_
    (have a3:e9 (cY {st with last:=la} (e7 l)) H 0 iI 5:=⟨c7,gb,gc,gd,ge,gf,hRd.keys,hRd.lo⟩)
    refine dt (Ry dF a3 hes her c8 (hinv.rw'.W0 ah la (e7 l)) w0 ws hwd (BX ah hwd).1 (BX ah hwd).2) (aE aa aM) OY trivial rfl (λjz jA dI=>?_) (λjB jC dI=>?_)
    rotate_left
    ·
     repeat (first|refine eA ?_|refine gJ ?_|refine Bc ?_)
     (rcases dI with⟨c_,e_,he_,hr_,rfl,hz_⟩;have hst_:=hinv.stop hl' hwd he_ hr_;rw [<- hinv.rw'.cnt]at hst_;exact I1 (DI rfl (hz_.at_ cM (KR.not a3 cM aD rfl)) (hz_.at_ cL (KR.not a3 cL aD rfl)) (hz_.at_ cJ (KR.not a3 cJ aD rfl)) aD aD aD) (λm' hm_=>DJ hst_ cw cx cz hm_.1 hm_.2.1 hm_.2.2))
    obtain⟨hE,rfl,H2,la2,hR2,bz⟩:=dI;have iJ:=bz.at_ cI (KR.not a3 cI aD rfl);have iL:=bz.at_ cJ (KR.not a3 cJ aD rfl);have iM:=bz.at_ cL (KR.not a3 cL aD rfl);have iN:=bz.at_ cM (KR.not a3 cM aD rfl);have iO:=bz.at_ c8 (KR.not a3 c8 aD rfl);have iP:=bz.at_ dD (KR.not a3 dD aD rfl);obtain⟨jD,iQ,jF⟩:=bz.len_ dF;refine bp (ag gj) (ag gk) (ag gl) (ag dH) ?_;clear gj gm gk gl dH;intro jG jH jI jJ jK;refine cK<|IY iP ⟨⟨dJ (cY st (e7 l)) w0 ws,la2,H2⟩,(iJ.trans cQ.symm),(iL.trans cR.symm),(iM.trans cT.symm),(iN.trans cU.symm),(iO.trans cV.symm),⟨_,iQ,ah⟩,?_⟩
    (refine⟨hinv.step hl' hwd (BX ah hwd).1 hE,?_⟩;have hR3:=hR2;rw [RI,RG]at hR3;exact hR3)
   replace bx:=bf bx
   (have hwd:eN (e7 l) 0= []:=Yy.1 ah)
   refine bC<|cK<|IY dD ⟨⟨cY st (e7 l),la,H⟩,(cI.trans cQ.symm),(cJ.trans cR.symm),(cL.trans cT.symm),(cM.trans cU.symm),(c8.trans cV.symm),⟨_,dF,ah⟩,?_⟩
   exact⟨hinv.skip hl' hwd,⟨c7,gb,gc,gd,ge,gf,hRd.keys,hRd.lo⟩⟩
  ·rintro iA iB ⟨⟨st,la,H⟩,cA,cB,cC,cD,cE,⟨fC,bW,dv⟩,hinv⟩ cX;have bY:=cA.trans cQ;have bZ:=cB.trans cR;have b0:=cC.trans cT;have b1:=cD.trans cU;have c6:=cE.trans cV
   (obtain⟨hinv,hRd⟩:=hinv;rw [XK]at hinv;have hlast:=hinv.last;have hb:=hRd.box;have hJ:=hRd.J;have hB:=hRd.B;have hS:=hRd.S;have hM:=hRd.M;have hF:=hRd.fam;obtain⟨⟨x1,x2,x3,x4⟩,⟨x5,x6,x7⟩,x8,x9,x10⟩:=hRd.ne;obtain⟨u11,u12,u13,u14⟩:=hRd.off b1 aD rfl;obtain⟨u21,u22,u23,u24⟩:=hRd.off b0 aD rfl;obtain⟨u31,u32,u33,u34⟩:=hRd.off bZ aD rfl)
   have gn:=hb;simp only [pS,Value.cells,Nat.reduceAdd,aV,aW,bn,eI]at gn;have gp:=hJ;simp only [pS,Value.cells,Nat.reduceAdd,aV,aW,bn,eI]at gp;have gq:=hB;simp only [pS,Value.cells,Nat.reduceAdd,aV,aW,bn,eI]at gq;have gr:=hS;simp only [pS,Value.cells,Nat.reduceAdd,aV,aW,bn,eI]at gr;have iR:=hM;have iS:=hF;refine cK<|ao<|BV ?_
   refine au<|at_<|ar (ax (aH rz rfl bY cW az) nI) rfl ?_
   refine dt (O1 bW hRd hinv.rw' ah) (aE aa aM) OZ trivial rfl (λjM jN dK=>?_) (λjO jS dK=>?_)
   rotate_left
   ·
    repeat (refine eA ?_)
    (rcases dK with⟨k_,c_,e_,hf_,rfl,hz_⟩;exact I1 (DI rfl (hz_.at_ b1 aN) (hz_.at_ b0 aN) (hz_.at_ bZ aN) aD aD aD) (λm' hm_=>DJ (hlast.trans hf_) (ae cw) (ae cx) (ae cz) hm_.1 hm_.2.1 hm_.2.2))
   obtain⟨hfin,rfl,aF⟩:=dK;have dL:=aF.at_ bY dQ;have gt:=aF.at_ bZ dQ;have gu:=aF.at_ b0 dQ;have c9:=aF.at_ b1 dQ;have gw:=aF.at_ c6 dQ;have gx:=aF.at_ cX dQ;have dM:=aF.at_ gn dQ;have dN:=aF.at_ gp dQ;have dO:=aF.at_ gq dQ;have dP:=aF.at_ gr dQ;have gy:=aF.at_ iR dQ;have gz:=iS.all aF (λq_ h1_ h2_ h_=>h_.elim);obtain⟨jT,iT,jU⟩:=aF.len_ bW;refine bp (ag cw) (ag cx) (ag cz) (ag cW) ?_;clear du cw cx cz cW;intro jX dR dU dV gA;refine ao<|au<|at_<|ar (ax (aH rz rfl dL gA az) nI) rfl ?_
   refine ar (bH aa) rfl<|ar (aI kZ rfl aa) rfl<|ar (ax (aH zT rfl dM aa az) nI) rfl ?_
   refine ar (dq b8 BL BI BG rfl) rfl ?_;refine aL (oG (ae (aj dR)) (ae aa) rfl (fV rfl (mY dN (mY dO (mY dP oK)))) c9 gZ rfl az) trivial rfl (λj0 an=>?_);have dY:=aZ an c9;simp only [pS,Value.cells,Nat.reduceAdd,aV,aW,bn,eI]at dY;have gB:=aw an dL aD;have gC:=aw an gt aD;have da:=aw an gu aD;have gD:=aw an gw aD;have gE:=aw an gx aD;have gF:=aw an dM aD;have gG:=aw an dN ah;have gH:=aw an dO ah;have gI:=aw an dP ah;have gL:=aw an gy ah;have gM:=bI.aw an gz c9 rfl;have iU:=aX an iT;clear an dL gt gu c9 gw gx dM dN dO dP gy gz;refine aL (bP (aC (ae (aj dU))) (aC aa) rfl rfl da xN rfl az) trivial rfl (λj1 ap=>?_);have ea:=aZ ap da;simp only [pS,Value.cells,Nat.reduceAdd,aV,aW,bn,eI]at ea;have gN:=aw ap dY aD;have gO:=aw ap gB aD;have db:=aw ap gC aD;have gP:=aw ap gD aD;have gQ:=aw ap gE aD;have gR:=aw ap gF aD;have gS:=aw ap gG ah;have gT:=aw ap gH ah;have gU:=aw ap gI ah;have gV:=aw ap gL ah;have gW:=bI.aw ap gM da rfl;have iV:=aX ap iU;clear ap dY gB gC da gD gE gF gG gH gI gL gM;refine aL (bP (aC (aC (ae (aj dV)))) ay rfl rfl db qI rfl az) trivial rfl (λj3 av=>?_);have eb:=aZ av db;simp only [pS,Value.cells,Nat.reduceAdd,aV,aW,bn,eI]at eb;have gY:=aw av ea aD;have g0:=aw av gN aD;have iW:=aw av gO aD;have iX:=aw av gP aD;have iY:=aw av gQ aD;have iZ:=aw av gR aD;have g1:=aw av gS ah;have g2:=aw av gT ah;have g3:=aw av gU ah;have i6:=aw av gV ah;have i7:=bI.aw av gW db rfl;have i8:=aX av iV;clear av ea gN gO db gP gQ gR gS gT gU gV gW;refine bJ (aC (aC (aC (ae (aj dR))))) (aC (aC (aC (ae (aj dU))))) (aC (aC (aC (ae (aj dV))))) ?_;clear dR dU dV gA;intro j9 g4 g5 g6;refine ao<|bg<|Vq ?_
   refine BY bm ai (dE g4 g0 zT az aN) (dE g5 gY Hf az aN) (dE g6 eb Hg az aN) (eB (lN (cH (.ro _ rfl) (cH (.own _ _ _ _ g1) (cH (.own _ _ _ _ g2) (cH (.own _ _ _ _ g3) fJ)))))) (eB (.ro _ rfl)) (qQ (.ro _ rfl)) ?_;clear g4 g5 g6 eb gY g0 iW iX iY iZ g1 g2 g3 i6 i7 i8
   (rw [hlast,hfin];rfl)
end
end Go.Proofs.YtbmlgmblfboigaaGreatDoor
namespace Go.Proofs.YtbmlgmblfboigaaGreatDoor
open Go Go.RowKit Go.Proofs Go.Shelf Go.Lib
end Go.Proofs.YtbmlgmblfboigaaGreatDoor
