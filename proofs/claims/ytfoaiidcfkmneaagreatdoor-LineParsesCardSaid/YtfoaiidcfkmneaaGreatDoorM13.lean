/- Texts of this claim, one behind the other: lemmas for the statement. -/
import Derived.Test.YtfoaiidcfkmneaaGreatDoorT0
import Derived.Test.YtfoaiidcfkmneaaGreatDoorM12
import Derived.Test.YtfoaiidcfkmneaaGreatDoorM11
import Derived.Test.YtfoaiidcfkmneaaGreatDoorM8
import Derived.Test.YtfoaiidcfkmneaaGreatDoorM7
import Derived.Test.YtfoaiidcfkmneaaGreatDoorM10
set_option maxRecDepth 100000
set_option maxHeartbeats 4000000
set_option linter.unusedSimpArgs false
set_option linter.unusedVariables false
namespace Go.Proofs.YtfoaiidcfkmneaaGreatDoor
open Go Go.RowKit Go.Proofs Go.Lib
theorem Di:b9 Tryz.prog 25 78 3 48 (.agg #[.string ByteArray.empty,.int .i64 0,.slice none 0 0]):=⟨aj,aj,aj⟩
theorem Dj:b9 Tryz.prog 52 54 2 24 (.agg #[.string ByteArray.empty,.int .i64 0]):=⟨aj,aj,aj⟩
theorem uL:b9 Tryz.prog 64 3 1 8 (.int .i64 0):=⟨aj,aj,aj⟩
theorem MP:aV Tryz.prog 25 false 1:=⟨aj,aj⟩
theorem Fb:aV Tryz.prog 3 false 1:=⟨aj,aj⟩
theorem uM:aV Tryz.prog 51 false 1:=⟨aj,aj⟩
theorem Dk:aV Tryz.prog 52 false 1:=⟨aj,aj⟩
theorem MQ:aV Tryz.prog 78 true 3:=⟨aj,aj⟩
theorem vq:aV Tryz.prog 9 false 1:=⟨aj,aj⟩
theorem fR(a:ByteArray)(b:Int)(c:List Int): [[AV.v (.string a),AV.v (.int .i64 b),AV.row 1 (c.map iE)]]= [(⟨a,b,c⟩:fM)].map ei:=rfl
theorem fS(v:Int): [[mA v]]= [v].map iE:=rfl
theorem It{M0:List Ob}{n:Nat}(hn:M0.length=n){st:RS}{H:RH}{lo b:Nat}(hR:fm st H lo M0 b)(c0:Int){es er:Value}(hes:fz es)(her:fz er)(h0:M0[0]? =some (.bY (gX es er)))(hsl:st.ss.length<=1000000)(ws:List Wd)(hw:st.ws=⟨aX,c0⟩::ws)(hk:(st.kind.toList==(⟨#[]⟩:ByteArray).toList)=false)(ho:cv st.kind aX=true)(hW:g8 ⟨aX,c0⟩ ws)(hW5:ws.length<=100000)(hc:∀ q,(cR st.cs q).length <=1000000):
 ew Tryz.prog 16 [.ptr b 0] M0 (λr m'=>de aX ⟨aX,c0⟩ ws=(0,0)/\r= .tuple []/\ ∃ H' la,fm {(st.add aX)with ss:=st.ss++ [⟨(cm ws).txt,cV (cm ws.tail),ws.tail.tail.map cV⟩],ws:= [],last:=la,kind:=aX} H' lo m' b/\bP M0 m' (KR H b)) (λv m'=>∃ c e,e≠0/\de aX ⟨aX,c0⟩ ws=(c,e)/\v=gp st.cnt c e/\bP M0 m' (KR H b)):=by
 have hwl:=hW.len;have hb:=hR.box;rw [hw]at hb;have hJ:=hR.J;have hB:=hR.B;have hS:=hR.S;have hM:=hR.M;have hF:=hR.fam;have hbn:=cL hb hn;have hJn:=cL hJ hn;have hBn:=cL hB hn;have hSn:=cL hS hn;have hMn:=cL hM hn;obtain⟨⟨x1,x2,x3,x4⟩,⟨x5,x6,x7⟩,x8,x9,x10⟩:=hR.ne;have hnf:=hR.tn;have hlt:=hF.lt hn;have hlo:=hR.lo;obtain⟨z1,z2,z3,z4,z5,z6⟩:=hR.nz h0;have h00:0<n:=cL h0 hn;refine gr (fn:=Tryz.f16) 193 aj rfl aj bO ?_;intro j1 bp hA a9;have dd:al j1 (.tmp 0)=_:=hA 0 _ rfl;have eT:bp.length=n:=by rw [a9];exact hn
 have df:bp[b]? =_:=(congrArg (λq=>q[b]?) a9).trans hb;simp only [pS,Value.cells,Nat.reduceAdd,aW,aY,aQ,bG,bC,cn,cp,fR,fS]at df;have j3:bp[H.jJ]? =_:=(congrArg (λq=>q[H.jJ]?) a9).trans hJ;have j6:bp[H.jB]? =_:=(congrArg (λq=>q[H.jB]?) a9).trans hB;have j7:bp[H.jS]? =_:=(congrArg (λq=>q[H.jS]?) a9).trans hS;have j8:bp[H.jM]? =_:=(congrArg (λq=>q[H.jM]?) a9).trans hM;have ka:bp[0]? =_:=(congrArg (λq=>q[0]?) a9).trans h0;have kb:bP M0 bp (KR H b):=by rw [a9];exact bP.refl _ _
 have dg:=hF;rw [<- a9]at dg;clear hA a9;refine ax<|at_<|ar (ak dd) rfl<|dn (lC (last:=st.last) eT df ah) (aG aa aN) kC trivial rfl (λmE mF kc=>?_) (λ_ _ h=>h.elim)
 obtain⟨rfl,bv,dh⟩:=kc;simp only [pS,Value.cells,Nat.reduceAdd,aW,aY,aQ,bG,bC,cn,cp,fR,fS]at dh;have eU:=bv.at_ j3 cq;have eW:=bv.at_ j6 cq;have eX:=bv.at_ j7 cq;have eY:=bv.at_ j8 cq;have eZ:=bv.at_ ka cq;have e0:=kb.trans bv kF;have e3:=dg.all bv (λq_ h1_ h2_ h_=>dg.miss df rfl q_ h1_ h2_ h_);obtain⟨cA,dk,mG⟩:=bv.len_ eT;refine aM (cJ kH rfl dk) trivial rfl (λmH a6=>?_);have b0:=bS a6 dk;simp only [pS,Value.cells,Nat.reduceAdd,aW,aY,aQ,bG,bC,cn,cp,fR,fS]at b0;have e4:=aI a6 dh;have e5:=aI a6 eU;have e6:=aI a6 eW;have e7:=aI a6 eX;have e8:=aI a6 eY;have e9:=aI a6 eZ;have fa:=RestR.aI a6 e0;have fb:=bM.aI a6 e3;have ke:=bR a6 dk;clear a6 dh eU eW eX eY eZ e0 e3;refine aM (bV aa (ae aa) rfl rfl b0 kJ rfl aA) trivial rfl (λmJ a7=>?_);have dl:=bo a7 b0;simp only [pS,Value.cells,Nat.reduceAdd,aW,aY,aQ,bG,bC,cn,cp,fR,fS]at dl;have b1:=au a7 e4 ah;have kf:=au a7 e5 ah;have kg:=au a7 e6 ah;have kh:=au a7 e7 ah;have ki:=au a7 e8 ah;have kj:=au a7 e9 ah;have km:=RestR.au a7 fa ey;have kn:=bM.au a7 fb b0 rfl;have fc:=bh a7 ke;clear a7 b0 e4 e5 e6 e7 e8 e9 fa fb;refine bD (aE (ae (ag dd))) (aE aa) ?_;clear dd;intro mK fd dm;refine ao<|ax<|at_<|ar (aJ iu rfl dm) rfl<|ar (az (aK vq rfl dl aa aA) j4) rfl ?_
 refine ar (aB aa) rfl<|bB (ae (ag fd)) (ae (ag dm)) aa ?_;clear fd dm;intro mL dq fe ff
 refine ao<|ax<|ca<|ax<|ax<|at_<|ar (ak dq) rfl<|ar (bU aa) rfl<|ar (aJ eS rfl aa) rfl<|ar (az (aK vq rfl b1 aa aA) j4) rfl ?_
 refine ar (cX aa aw) rfl<|ar (ak aa) rfl<|bK aa (λb2 dr=>?_) (λb2 dr=>?_)
 ·(rw [hk]at dr;simp at dr;done)
 refine aC ⟨_,rfl,.inl b2⟩ rfl ?_;refine aC ⟨_,rfl,.inl (ae b2)⟩ rfl ?_;refine ar (br (ag b2) aw) rfl<|ar (aB aa) rfl<|bu (ag (ay dq)) (ag (ay fe)) (ag (ay ff)) aa ?_;clear b2 dq fe ff;intro mM dt fg b6 fh
 refine ao<|iS fh<|at_<|ar (ak dt) rfl<|ar (bU aa) rfl<|ar (aJ eS rfl aa) rfl<|ar (az (aK vq rfl b1 aa aA) j4) rfl ?_
 refine ar (dS aa aw) rfl<|ar (ak aa) rfl<|bK aa (λb7 b9=>?_) (λb7 b9=>?_)
 ·replace b9:=cT b9;refine aF (ak (ag (ai b6))) ⟨_,rfl,b7⟩ rfl ?_;refine aF (dS aa aw) ⟨_,rfl,(ae b7)⟩ rfl ?_;refine ar (bq (ag b7) aa) rfl<|ar (ak aa) rfl<|bK aa (λcb cc=>?_) (λcb cc=>?_)
  ·replace cc:=cT cc;refine aF (ak (ag (ay b6))) ⟨_,rfl,cb⟩ rfl ?_;refine aF (dS aa aw) ⟨_,rfl,(ae cb)⟩ rfl ?_;refine ar (bq (ag cb) aa) rfl<|ar (ak aa) rfl<|bK aa (λcd ce=>?_) (λcd ce=>?_)
   ·replace ce:=cT ce;refine aF (ak (ag (ai (ay b6)))) ⟨_,rfl,cd⟩ rfl ?_;refine aF (dS aa aw) ⟨_,rfl,(ae cd)⟩ rfl ?_;refine ar (bq (ag cd) aa) rfl<|ar (aB aa) rfl<|bu (ag (aH dt)) (ag (aH fg)) (ag (aH b6)) aa ?_;clear b7 cb cd dt fh fg b6;intro mN cB fi du fj
    refine ao<|bk fj (λcf=>?_) (λcf=>?_)
    ·(simp only [toList_data]at cf;exact absurd cf aD)
    replace cf:=di cf;refine ax<|at_<|ar (ak cB) rfl<|ar (bU aa) rfl<|ar (aJ eS rfl aa) rfl<|ar (az (aK vq rfl b1 aa aA) j4) rfl ?_
    refine ar (dS aa aw) rfl<|ar (ak aa) rfl<|bK aa (λbx cg=>?_) (λbx cg=>?_)
    ·replace cg:=cT cg;refine aF (ak (ag (ai cB))) ⟨_,rfl,bx⟩ rfl ?_;refine aF (ak (ae (ag (ai du)))) ⟨_,rfl,(ae bx)⟩ rfl ?_;refine dn (xE (last:=⟨aX,c0⟩) fc b1 aX ho) (aG (ae aa) (aG aa aN)) qK ⟨_,rfl,(ag bx)⟩ rfl (λmO bE ko=>?_) (λ_ _ h=>h.elim);obtain⟨rfl,ba⟩:=ko;have bH:=ba.at_ dl dZ;have bI:=ba.at_ b1 dZ;have bL:=ba.at_ kf dZ;have bN:=ba.at_ kg dZ;have bQ:=ba.at_ kh dZ;have cC:=ba.at_ ki dZ;have bT:=ba.at_ kj dZ;have cD:=km.trans ba zl;have dv:=kn.all ba (λq_ h1_ h2_ h_=>h_.elim);obtain⟨bc,bw,mP⟩:=ba.len_ fc;refine aF (dT aa) ⟨_,rfl,(ae (ag bx))⟩ rfl ?_;refine ar (bq (ai bx) aa) rfl<|ar (aB aa) rfl<|bu (ai (ay cB)) (ai (ay fi)) (ai (ay du)) aa ?_;clear bx cB fj fi du;intro fk a8 mQ be kp
     refine ao<|bk kp (λcE=>?_) (λcE=>?_)
     ·cases cE
     replace cE:=di cE;refine bF<|cG<|ao<|ax<|fZ (λe mem=>(al e (.tmp 0)=al fk (.tmp 0))/\(al e (.tmp 3)=al fk (.tmp 3))/\(mem[cA]? =bE[cA]?)/\(mem[b]? =bE[b]?)/\(mem[H.jJ]? =bE[H.jJ]?)/\(mem[H.jB]? =bE[H.jB]?)/\(mem[H.jS]? =bE[H.jS]?)/\(mem[0]? =bE[0]?)/\(∃ n,mem.length=n/\bc<=n)/\(∃ hs2:HL,mem[H.jM]? =some (.mp (fx hs2))/\bM mem hs2 (ft aX st.cnt st.ks st.cs).2 hs2.length/\hs2.map (·.1)=(ft aX st.cnt st.ks st.cs).1/\(∀ q,q<hs2.length->lo<=hN hs2 q)/\bP M0 mem (KR H b))) ?_ ?_
     ·
      have fl:=bH;have fo:=bI;have fp:=bL;have fq:=bN;have fs:=bQ;have fu:=bT;refine(Classical.em (∃ q0,q0<H.hs.length/\hK H.hs q0=aX)).elim (λdw=>?_) (λdw=>?_)
      ·obtain⟨q0,hq0,hqk⟩:=dw;have hql:=hlt q0 hq0 ah;obtain⟨y1,y2,y3,y4,y5⟩:=hnf q0 hq0;have hcq:=hc q0;have y6:=z6 q0 hq0;obtain⟨fw,fy⟩:=dv.take hq0;refine iq 17 1 bw aj aj aj aj (λkq ab=>?_);have fA:=bJ ab bH;have ci:=bJ ab bI;have fB:=bJ ab bL;have fC:=bJ ab bN;have fD:=bJ ab bQ;have dy:=bJ ab cC;have fE:=bJ ab bT;have fF:=RestR.bJ ab cD;have fG:=bM.bJ ab fy;have fH:=bJ ab fw;have cF:kq[bc]? =_:=jk ab bw 0 rfl rfl;have kr:_=bc+1:=ir (K:=1) ab bw;clear ab bH bI bL bN bQ cC bT cD fy fw bw;refine bg (λM_ hM_=>(ak a8)) trivial ?_;refine bg (λM_ hM_=>(bU aa)) trivial ?_;refine bg (λM_ hM_=>(aJ iv rfl aa)) trivial ?_;refine db (b) (λM_ hM_=>(az (aK uM rfl (cI hM_ ci aL) aa aA) j4)) trivial trivial ?_;refine bg (λM_ hM_=>(ak (ai be))) trivial ?_;refine bg (λM_ hM_=>(ak (ae (ai a8)))) trivial ?_;refine bg (λM_ hM_=>(bU aa)) trivial ?_;refine bg (λM_ hM_=>(aJ iv rfl aa)) trivial ?_;refine db (b) (λM_ hM_=>(az (aK uM rfl (cI hM_ ci aL) aa aA) j4)) trivial trivial ?_;refine bg (λM_ hM_=>(ak (ae (ay be)))) trivial ?_;refine db (H.jM) (λM_ hM_=>(rR iG iH (cI hM_ dy aL) (ae aa) aa (show(fx H.hs)[q0]? =some (aX,.own (hN H.hs q0))by rw [lg hq0,hqk]) hF.nv)) trivial trivial ?_;refine bg (λM_ hM_=>(ak (ae (ag (ay a8))))) trivial ?_;refine bg (λM_ hM_=>(bU aa)) trivial ?_;refine bg (λM_ hM_=>(aJ iU rfl aa)) trivial ?_;refine db (b) (λM_ hM_=>(az (aK Fb rfl (cI hM_ ci aL) aa aA) j4)) trivial trivial ?_;refine bg (λM_ hM_=>(ep uL (bz aa bW) rfl rfl rfl rfl)) trivial ?_;refine pI (bc) ((hN H.hs q0)) (λM_ hM_=>(oc uL rfl (cI hM_ fH aL) (ae (ai aa)) aa dY dC)) trivial cF rfl trivial ⟨.inl b8,⟨.inl b8,⟨.inl b8,⟨.inl b8,trivial⟩⟩⟩⟩ ⟨.inl b8,⟨.inl b8,⟨.inl b8,⟨.inl b8,trivial⟩⟩⟩⟩ (λmR av=>?_);have dz:=pO av cF;simp only [pS,Value.cells,Nat.reduceAdd,aW,aY,aQ,bG,bC,cn,cp,fR,fS]at dz;have fI:=cY av fA ah ah;have fJ:=cY av ci ah ah;have fK:=cY av fB ah ah;have fL:=cY av fC ah ah;have fM:=cY av fD ah ah;have cH:=cY av dy ah ah;have fN:=cY av fE ah ah;have fO:=RestR.cY av fF vF ey;have fP:=bM.vR ah av fG cF rfl;have kt:=pD av kr;clear av fA ci fB fC fD dy fE fF fG fH cF;refine iD rfl ?_;refine aM (vc iG iH cH (ae (ai (ay aa))) (ai (ay aa)) aa (show(fx H.hs)[q0]? =some (aX,.own (hN H.hs q0))by rw [lg hq0,hqk]) hF.nv) trivial rfl (λmS aO=>?_);have fQ:=bo aO cH;simp only [pS,Value.cells,Nat.reduceAdd,aW,aY,aQ,bG,bC,cn,cp,fR,fS]at fQ;have ku:=au aO dz ah;have kv:=au aO fI ah;have kw:=au aO fJ ah;have kx:=au aO fK ah;have kz:=au aO fL ah;have kA:=au aO fM ah;have kD:=au aO fN ah;have kE:=RestR.au aO fO gP;have kG:=bM.au aO fP cH rfl;have kI:=bh aO kt;clear aO dz fI fJ fK fL fM cH fN fO fP;refine bD (aE (ae (aH a8))) (aE (ae (aH be))) ?_;intro mU kK kL;refine ao ⟨(kK).trans (a8).symm,(kL).trans (be).symm,kv.trans fl.symm,kw.trans fo.symm,kx.trans fp.symm,kz.trans fq.symm,kA.trans fs.symm,kD.trans fu.symm,⟨_,kI,ah⟩,?_⟩
       (have hadd:=rS (c:=st.cnt) H.hs st.cs q0 hF.len hq0 hqk (λp hp e=>absurd (hF.key p q0 ah hq0 (e.trans hqk.symm)) ah);rw [hR.keys]at hadd;rw [hadd];exact⟨_,fQ,kG.put hq0 hqk ku (λq hq=>nX),(uG hq0 hqk).trans hR.keys,(λq hq=>by rw [TE]at hq;rw [pF hq0];split<;>first|exact hlo.2.2.2.2.2 q hq|(show lo<=bc;omega)),kE⟩)
      ·have hqm:=vT dw;refine iq 17 1 bw aj aj aj aj (λkM aP=>?_);have fT:=bJ aP bH;have cj:=bJ aP bI;have fU:=bJ aP bL;have fV:=bJ aP bN;have fW:=bJ aP bQ;have dA:=bJ aP cC;have fX:=bJ aP bT;have fY:=RestR.bJ aP cD;have f0:=bM.bJ aP dv;have cK:kM[bc]? =_:=jk aP bw 0 rfl rfl;have kN:_=bc+1:=ir (K:=1) aP bw;clear aP bH bI bL bN bQ cC bT cD dv bw;refine bg (λM_ hM_=>(ak a8)) trivial ?_;refine bg (λM_ hM_=>(bU aa)) trivial ?_;refine bg (λM_ hM_=>(aJ iv rfl aa)) trivial ?_;refine db (b) (λM_ hM_=>(az (aK uM rfl (cI hM_ cj aL) aa aA) j4)) trivial trivial ?_;refine bg (λM_ hM_=>(ak (ai be))) trivial ?_;refine bg (λM_ hM_=>(ak (ae (ai a8)))) trivial ?_;refine bg (λM_ hM_=>(bU aa)) trivial ?_;refine bg (λM_ hM_=>(aJ iv rfl aa)) trivial ?_;refine db (b) (λM_ hM_=>(az (aK uM rfl (cI hM_ cj aL) aa aA) j4)) trivial trivial ?_;refine bg (λM_ hM_=>(ak (ae (ay be)))) trivial ?_;refine db (H.jM) (λM_ hM_=>(uq iG iH vm (cI hM_ dA aL) (ae aa) aa (nJ hqm))) trivial trivial ?_;refine bg (λM_ hM_=>(ak (ae (ag (ay a8))))) trivial ?_;refine bg (λM_ hM_=>(bU aa)) trivial ?_;refine bg (λM_ hM_=>(aJ iU rfl aa)) trivial ?_;refine db (b) (λM_ hM_=>(az (aK Fb rfl (cI hM_ cj aL) aa aA) j4)) trivial trivial ?_;refine bg (λM_ hM_=>(ep uL (bz aa bW) rfl rfl rfl rfl)) trivial ?_;refine ot (bc) (λM_ hM_=>(u3 uL rfl (ae (ai aa)) aa dY dC)) trivial cK rfl trivial ⟨.inl b8,⟨.inl b8,⟨.inl b8,⟨.inl b8,trivial⟩⟩⟩⟩ (λmV aR=>?_);have dB:=bo aR cK;simp only [pS,Value.cells,Nat.reduceAdd,aW,aY,aQ,bG,bC,cn,cp,fR,fS]at dB;have ga:=au aR fT ah;have gb:=au aR cj ah;have gc:=au aR fU ah;have gd:=au aR fV ah;have ge:=au aR fW ah;have cM:=au aR dA ah;have gf:=au aR fX ah;have gg:=RestR.au aR fY ey;have gh:=bM.au aR f0 cK rfl;have kO:=bh aR kN;clear aR fT cj fU fV fW dA fX fY f0 cK;refine iD rfl ?_;refine aM (vd iG iH cM (ae (ai (ay aa))) (ai (ay aa)) aa (nJ hqm)) trivial rfl (λmW aS=>?_);have gi:=bo aS cM;simp only [pS,Value.cells,Nat.reduceAdd,aW,aY,aQ,bG,bC,cn,cp,fR,fS]at gi;have kP:=au aS dB ah;have kQ:=au aS ga ah;have kS:=au aS gb ah;have kT:=au aS gc ah;have kU:=au aS gd ah;have kV:=au aS ge ah;have kW:=au aS gf ah;have kX:=RestR.au aS gg gP;have kY:=bM.au aS gh cM rfl;have kZ:=bh aS kO;clear aS dB ga gb gc gd ge cM gf gg gh;refine bD (aE (ae (aH a8))) (aE (ae (aH be))) ?_;intro mX k0 k2;refine ao ⟨(k0).trans (a8).symm,(k2).trans (be).symm,kQ.trans fl.symm,kS.trans fo.symm,kT.trans fp.symm,kU.trans fq.symm,kV.trans fs.symm,kW.trans fu.symm,⟨_,kZ,ah⟩,?_⟩
       (have hadd:=rL (k:=aX) (c:=st.cnt) H.hs st.cs hF.len hqm;rw [hR.keys]at hadd;rw [hadd];exact⟨_,gi,kY.more hqm kP (λq hq=>nX),vG,(λq hq=>by rw [pG];split<;>first|exact hlo.2.2.2.2.2 q (by assumption)|(rw [if_pos (by simp at hq;omega)];show lo<=bc;omega)),kX⟩)
     ·rintro mY mZ ⟨k4,k5,k6,k7,k8,k9,lb,lc,⟨ld,dD,m0⟩,⟨hs2,moM2,hF2,hks2,hlo2,hR2⟩⟩;have gk:=k4.trans a8;have dE:=k5.trans be;have lf:=k6.trans bH;have gl:=k7.trans bI;have li:=k8.trans bL;have lj:=k9.trans bN;have lk:=lb.trans bQ;have ll:=lc.trans bT;refine ax<|ax<|at_<|ar (ak dE) rfl<|bB (ae gk) (ae dE) aa ?_;clear gk dE;intro m1 gm gn dF
      refine ao<|ca<|ax<|at_<|ar (cX dF aw) rfl<|ar (aB aa) rfl<|bu (ag gm) (ag gn) (ag dF) aa ?_;clear gm gn dF;intro m2 gt gv dG gw
      refine ao<|bk gw (λdH=>?_) (λdH=>?_)
      ·(simp only [toList_data]at dH;exact absurd dH aD)
      refine ax<|at_<|ar (cX dG aw) rfl<|ar (aB aa) rfl<|bu (ag gt) (ag gv) (ag dG) aa ?_;clear gt gw gv dG;intro m3 gx gy gz gA
      refine ao<|bk gA (λdK=>?_) (λdK=>?_)
      ·(simp only [toList_data]at dK;exact absurd dK aD)
      refine ax<|at_<|ar (cX gz aw) rfl<|ar (aB aa) rfl<|bB (ag gx) (ag gy) aa ?_;clear gx gA gy gz;intro m4 dL gB gC
      refine ao<|bk gC (λdM=>?_) (λdM=>?_)
      ·(simp only [toList_data]at dM;exact absurd dM aD)
      refine ax ?_;obtain⟨nz,hnz⟩:∃ z,z=ld:=⟨_,rfl⟩;have hlt2:=hF2.lt (dD.trans hnz.symm);have hnz2:n<=nz:=by omega
      refine at_<|ar (ak dL) rfl<|dn (Bz (last:=⟨aX,c0⟩) (ws:=ws) dD gl hW) (aG aa aN) FQ trivial rfl (λm5 m6 dN=>?_) (λm8 m9 dN=>?_)
      rotate_left
      ·
       repeat (first|refine eG ?_|refine gJ ?_)
       (rcases dN with⟨ha_,rfl,hz_⟩;exact⟨_,rfl,_,_,ha_,kB (by rw [qd];exact xB ha_) ha_,rfl,hR2.trans hz_ jZ⟩)
      obtain⟨hnm,rfl,bj,dO⟩:=dN;have gD:=bj.at_ lf cq;simp only [pS,Value.cells,Nat.reduceAdd,aW,aY,aQ,bG,bC,cn,cp,fR,fS]at dO;have gE:=bj.at_ li cq;have gF:=bj.at_ lj cq;have gG:=bj.at_ lk cq;have gH:=bj.at_ ll cq;have gI:=bj.at_ moM2 cq;have gL:=hF2.all bj (λq_ h1_ h2_ h_=>hF2.miss gl rfl q_ h1_ h2_ h_);have gM:=hR2.trans bj kF;obtain⟨dP,dQ,na⟩:=bj.len_ dD;refine ar (cU (bz aa bW) GI GH GG rfl) rfl ?_;refine aM (cJ ra rfl dQ) trivial rfl (λnb aT=>?_);have ck:=bS aT dQ;simp only [pS,Value.cells,Nat.reduceAdd,aW,aY,aQ,bG,bC,cn,cp,fR,fS]at ck;have gN:=aI aT gD;have gO:=aI aT dO;have gQ:=aI aT gE;have gR:=aI aT gF;have gS:=aI aT gG;have gT:=aI aT gH;have gU:=aI aT gI;have gV:=bM.aI aT gL;have gW:=RestR.aI aT gM;have ln:=bR aT dQ;clear aT gD dO gE gF gG gH gI gL gM;refine aM (bV aa (ae aa) rfl rfl ck rh rfl aA) trivial rfl (λnc aU=>?_);have gY:=bo aU ck;simp only [pS,Value.cells,Nat.reduceAdd,aW,aY,aQ,bG,bC,cn,cp,fR,fS]at gY;have lp:=au aU gN ah;have gZ:=au aU gO ah;have lq:=au aU gQ ah;have lr:=au aU gR ah;have lu:=au aU gS ah;have g0:=au aU gT ah;have lv:=au aU gU ah;have g1:=bM.au aU gV ck rfl;have g2:=RestR.au aU gW ey;have g3:=bh aU ln;clear aU ck gN gO gQ gR gS gT gU gV gW;refine bB (aE (ai dL)) (aE (ai gB)) (aE aa) ?_;clear dL gC gB;intro nd dR g4 dU;refine ao<|ax<|at_<|ar (ak dR) rfl<|dn (mI (last:=cm ws) (ws:=ws.tail) g3 hes her g0 gZ (hW.tail (yJ hnm)) false) (aG aa (aG aw aN)) mT trivial rfl (λnf ng dV=>?_) (λnh ni dV=>?_)
      rotate_left
      ·
       repeat (first|refine eG ?_|refine gJ ?_)
       (rcases dV with⟨ha_,rfl,hz_⟩;exact⟨_,rfl,_,_,ha_,kB (by rw [qd,qp hnm];exact CV ha_) ha_,rfl,g2.trans hz_ jZ⟩)
      obtain⟨hn1,rfl,bb,dW⟩:=dV;have cN:=bb.at_ gY cq;have g5:=bb.at_ lp cq;simp only [pS,Value.cells,Nat.reduceAdd,aW,aY,aQ,bG,bC,cn,cp,fR,fS]at dW;have g6:=bb.at_ lq cq;have g7:=bb.at_ lr cq;have g9:=bb.at_ lu cq;have hh:=bb.at_ g0 cq;have hv:=bb.at_ lv cq;have hC:=g1.all bb (λq_ h1_ h2_ h_=>g1.miss gZ rfl q_ h1_ h2_ h_);have hD:=g2.trans bb kF;obtain⟨lx,ly,nj⟩:=bb.len_ g3;refine ar (aJ jW rfl (ag dU)) rfl<|aM (bV aa (ae aa) rfl rfl cN iZ rfl aA) trivial rfl (λnk aV=>?_)
      have dX:=bo aV cN;simp only [pS,Value.cells,Nat.reduceAdd,aW,aY,aQ,bG,bC,cn,cp,fR,fS]at dX;have lA:=au aV g5 ah;have lB:=au aV dW ah;have lE:=au aV g6 ah;have lF:=au aV g7 ah;have lG:=au aV g9 ah;have lH:=au aV hh ah;have lI:=au aV hv ah;have lJ:=bM.au aV hC cN rfl;have lK:=RestR.au aV hD ey;have ea:=bh aV ly;clear aV cN g5 dW g6 g7 g9 hh hv hC hD;refine bB (aE (ae (ag dR))) (aE (ae (ag g4))) (aE (ae (ag dU))) ?_;clear dR g4 dU;intro nl eb hE ec;refine ao<|ax<|lZ 3 1 2 dX rfl ea (λnm nn ad af=>?_)
      have hG:=bS ad ea;have lL:=au af hG ah;have hH:=aI ad dX;have ed:=bo af hH;simp only [TA,Tu]at ed;have hI:=aI ad lA;have lM:=au af hI ah;have hO:=aI ad lB;have hP:=au af hO ah;have hQ:=aI ad lE;have lN:=au af hQ ah;have hU:=aI ad lF;have lO:=au af hU ah;have hV:=aI ad lG;have lP:=au af hV ah;have hY:=aI ad lH;have hZ:=au af hY ah;have h6:=aI ad lI;have lQ:=au af h6 ah;have h7:=bM.aI ad lJ;have h8:=bM.m7 h7 af zm;have h9:=RestR.aI ad lK;have ia:=RestR.au af h9 ey;have ib:=bR ad ea;have ic:_=lx+1:=bh af ib;clear ad af ib hG hH hI hO hQ hU hV hY h6 h7 h9;refine RB ic aj aj aj aj aj ec eb ed lL ah ah aL mT (mI (last:=cm ws.tail) (ws:=ws.tail.tail) ic hes her hZ hP ((hW.tail (yJ hnm)).tail (lD hn1)) true) (λu_ M_ e_ h_=>by(repeat (first|refine eG ?_|refine gJ ?_));rcases h_ with⟨ha_,rfl,hz_⟩;exact⟨_,rfl,_,_,ha_,kB (by rw [qd,qp hnm,su hn1];exact xW ha_) ha_,rfl,ia.trans hz_ jZ⟩) (λhn2 lR np lS nq bm ee cO=>?_);have cP:=bm.at_ ed j5;have ie:=bm.at_ lM j5;have ig:=bm.at_ lN j5;have ih:=bm.at_ lO j5;have ij:=bm.at_ lP j5;have ik:=bm.at_ hZ j5;have im:=bm.at_ lQ j5;have io:=h8.all bm (λq_ h1_ h2_ h_=>by rcases h_ with h_|h_<;>first|exact absurd h_ (h8.miss hP rfl q_ h1_ h2_)|(revert h_;(have:=hlt2 q_ h1_ ah;omega)));have ip:=ia.trans bm FT;simp only [pS,Value.cells,Nat.reduceAdd,aW,aY,aQ,bG,bC,cn,cp,fR,fS]at ee;simp only [pS,Value.cells,Nat.reduceAdd,aW,aY,aQ,bG,bC,cn,cp,fR,fS]at cO;refine aM (kR aa (ae aa) cP cO rf aA) trivial rfl (λbX am=>?_);have ix:=bo am cP;simp only [pS,Value.cells,Nat.reduceAdd,aW,aY,aQ,bG,bC,cn,cp,fR,fS]at ix;have iy:=au am ie ah;have iz:=au am ig ah;have iA:=au am ih ah;have iB:=au am ij ah;have iC:=au am ik ah;have iF:=au am im ah;have lT:=bM.au am io cP rfl;have lU:=RestR.au am ip ey;have lV:=au am ee ah;have lW:=au am cO ah;have lX:=bh am lS;clear am cP ie ig ih ij ik im io ip ee cO;refine bB (aE (ae (ag (ai eb)))) (aE (ae (ag (ai hE)))) (aE (ae (ag (ai ec)))) ?_;clear eb hE ec;intro ef iI iJ iK;refine ao<|ax<|ca<|eL (S:=(Nat×List Int×List Wd×Wd)) (λs e mem=>match s with|⟨k,vs,zs,lz⟩=>(al e (.tmp 0)=al ef (.tmp 0))/\(al e (.tmp 3)=al ef (.tmp 3))/\(al e (.tmp 9)=al ef (.tmp 9))/\(mem[dP]? =some (.box 78 [.v (.string (cm ws).txt),.v (.int .i64 (cV (cm ws.tail))),.own k]))/\(mem[k]? =some (.row 3 1 (vs.map iE)))/\(mem[b]? =some (.box 56 (aW st.nam (.own H.jJ) (.own H.jB) (.own H.jS) (.own H.jM) st.cnt zs lz st.kind)))/\(mem[cA]? =bX[cA]?)/\(mem[H.jJ]? =bX[H.jJ]?)/\(mem[H.jB]? =bX[H.jB]?)/\(mem[H.jS]? =bX[H.jS]?)/\(mem[0]? =bX[0]?)/\(mem[H.jM]? =bX[H.jM]?)/\(∃ n,mem.length=n/\lR+1<=n)/\((ws.tail.tail.map cV=vs++zs.map cV/\de aX ⟨aX,c0⟩ ws=il true zs/\g8 lz zs/\vs.length+zs.length<=200000/\nz<=k/\k≠dP/\bM mem hs2 (ft aX st.cnt st.ks st.cs).2 hs2.length/\bP M0 mem (KR H b)))) (λs=>match s with|⟨k,vs,zs,lz⟩=>zs.length) ⟨_,[cV (cm ws.tail.tail)],ws.tail.tail.tail,cm ws.tail.tail⟩ ⟨rfl,rfl,rfl,ix,lW,lV,rfl,rfl,rfl,rfl,rfl,rfl,⟨_,lX,SR _⟩,?_⟩ ?_
      ·(exact⟨Gp (lD hn2),(by rw [vS (by rw [qd,qp hnm,su hn1,py hn2];rfl),MG,qd];exact congrArg (il true) (SC ws)),((hW.tail (yJ hnm)).tail (lD hn1)).tail (lD hn2),cZ,ah,ah,lT,lU⟩)
      ·rintro⟨k,vs,zs,lz⟩ nr ns ⟨lY,l1,l3,co,eg,cr,l4,l5,l6,l7,l8,l9,⟨cu,eh,nt⟩,hinv⟩;have en:=lY.trans iI;have iL:=l1.trans iJ;have iM:=l3.trans iK;have eu:=l4.trans iy;have ev:=l5.trans iz;have ez:=l6.trans iA;have eA:=l7.trans iB;have cQ:=l8.trans iC;have eB:=l9.trans iF
       (obtain⟨hvs,hbh,hzs,hvl,hnk,hnk9,hF3,hR3⟩:=hinv;have hzl:=hzs.len)
       refine ax<|ax<|at_<|ar (ak en) rfl<|ar (bU aa) rfl<|ar (aJ jq rfl aa) rfl<|ar (az (aK Dk rfl cr aa aA) j4) rfl ?_
       refine ar (az (cx aa rfl Dj.1) ct) rfl ?_;refine ar (eF aa aw) rfl<|bu (ag (ai en)) (ag (ai iL)) (ag (ai iM)) aa ?_;clear en iL iM;intro nu bA cS cy eC
       refine ao<|bk eC (λcz=>?_) (λcz=>?_)
       ·replace cz:=bt cz;refine bF<|ao<|ca<|RD eh aj aj aj aj aj cy bA co eg ah ah cZ mT (mI (last:=lz) (ws:=zs) eh hes her cQ cr hzs true) (λu_ M_ e_ h_=>by(repeat (first|refine eG ?_|refine gJ ?_));rcases h_ with⟨ha_,rfl,hz_⟩;exact⟨_,rfl,_,_,ha_,hbh.trans (Py ah ha_),rfl,hR3.trans hz_ jZ⟩) (λhn3 ma nw mb nx bn eD cW=>?_)
        have c6:=bn.at_ co j5;have iN:=bn.at_ eu j5;have iO:=bn.at_ ev j5;have iP:=bn.at_ ez j5;have iQ:=bn.at_ eA j5;have iT:=bn.at_ cQ j5;have iV:=bn.at_ eB j5;have iW:=hF3.all bn (λq_ h1_ h2_ h_=>by rcases h_ with h_|h_<;>first|exact absurd h_ (hF3.miss cr rfl q_ h1_ h2_)|(revert h_;(have:=hlt2 q_ h1_ ah;omega)));have iX:=hR3.trans bn FT;simp only [pS,Value.cells,Nat.reduceAdd,aW,aY,aQ,bG,bC,cn,cp,fR,fS]at eD;simp only [pS,Value.cells,Nat.reduceAdd,aW,aY,aQ,bG,bC,cn,cp,fR,fS]at cW;refine aM (kR aa (ae aa) c6 cW rf aA) trivial rfl (λny an=>?_);have iY:=bo an c6;simp only [pS,Value.cells,Nat.reduceAdd,aW,aY,aQ,bG,bC,cn,cp,fR,fS]at iY;have mc:=au an iN ah;have md:=au an iO ah;have me:=au an iP ah;have mf:=au an iQ ah;have mg:=au an iT ah;have mh:=au an iV ah;have mi:=bM.au an iW c6 rfl;have mj:=RestR.au an iX ey;have ml:=au an eD ah;have mm:=au an cW ah;have mn:=bh an mb;clear an c6 iN iO iP iQ iT iV iW iX eD cW;refine bB (aE (ae (ag (ai bA)))) (aE (ae (ag (ai cS)))) (aE (ae (ag (ai cy)))) ?_;clear bA cS eC cy;intro nA mo mq mr;refine cG<|ao<|⟨⟨ma,vs++ [cV (cm zs)],zs.tail,cm zs⟩,⟨(mo.trans iI.symm),(mq.trans iJ.symm),(mr.trans iK.symm),iY,mm,ml,(mc.trans iy.symm),(md.trans iz.symm),(me.trans iA.symm),(mf.trans iB.symm),(mg.trans iC.symm),(mh.trans iF.symm),⟨_,mn,ah⟩,?_⟩,?_⟩
        ·(exact⟨(by rw [hvs,Gp (lD hn3)];simp),hbh.trans (QL hn3),hzs.tail (lD hn3),cZ,ah,ah,mi,mj⟩)
        ·((try dsimp only);(simp;omega))
       replace cz:=bf cz;refine dJ<|cw<|cw<|dI<|ao<|oR 2 co eg ah rfl (λnB aZ=>?_)
       have eE:=bo aZ (au rfl co ah);simp only [TA,Tu]at eE;have i6:=au aZ (au rfl cr ah) ah;have i7:=au aZ (au rfl eu ah) ah;have i8:=au aZ (au rfl ev ah) ah;have ja:=au aZ (au rfl ez ah) ah;have jb:=au aZ (au rfl eA ah) ah;have jc:=au aZ (au rfl cQ ah) ah;have jd:=au aZ (au rfl eB ah) ah;have je:=bM.m7 (bM.m7 hF3 rfl zm) aZ zm;have jf:=RestR.au aZ (RestR.au rfl hR3 ey) ey;have c7:=bh aZ (bh rfl eh);clear aZ co eg cr eu ev ez eA cQ eB hF3 hR3;obtain rfl:zs= []:=Uw.1 ah;obtain rfl:vs=ws.tail.tail.map cV:=by rw [hvs];simp
       refine iq 9 1 c7 aj aj aj aj (λmu ap=>?_);have eH:=bJ ap eE;have eI:=bJ ap i6;have jg:=bJ ap i7;have jh:=bJ ap i8;have ji:=bJ ap ja;have eK:=bJ ap jb;have jj:=bJ ap jc;have jl:=bJ ap jd;have jm:=bM.bJ ap je;have jn:=RestR.bJ ap jf;have c8:mu[cu]? =_:=jk ap c7 0 rfl rfl;have mv:_=cu+1:=ir (K:=1) ap c7;clear ap eE i6 i7 i8 ja jb jc jd je jf c7;refine bg (λM_ hM_=>(ak bA)) trivial ?_;refine bg (λM_ hM_=>(ak (ae bA))) trivial ?_;refine bg (λM_ hM_=>(bU aa)) trivial ?_;refine bg (λM_ hM_=>(aJ ky rfl aa)) trivial ?_;refine bg (λM_ hM_=>(aJ gu rfl aa)) trivial ?_;refine db (b) (λM_ hM_=>(az (aK MP rfl (cI hM_ eI aL) aa aA) j4)) trivial trivial ?_;refine db (dP) (λM_ hM_=>(az (aK MQ rfl (cI hM_ eH aL) (ag (ai cy)) aA) j4)) trivial trivial ?_;refine bg (λM_ hM_=>(ep Di (bz aa bW) rfl rfl rfl rfl)) trivial ?_;refine pI (cu) (H.jS) (λM_ hM_=>(oc Di rfl (cI hM_ eK aL) (ag aa) aa dY dC)) trivial c8 rfl trivial ⟨.inl b8,⟨.inl b8,trivial⟩⟩ ⟨.inl b8,⟨.inl b8,trivial⟩⟩ (λnC a2=>?_);have c9:=pO a2 c8;simp only [pS,Value.cells,Nat.reduceAdd,aW,aY,aQ,bG,bC,cn,cp,fR,fS]at c9;have jo:=cY a2 eH ah ah;have da:=cY a2 eI ah ah;have jp:=cY a2 jg ah ah;have jr:=cY a2 jh ah ah;have js:=cY a2 ji ah ah;have jv:=cY a2 jj ah ah;have jw:=cY a2 jl ah ah;have jx:=bM.cY a2 jm eK rfl c8 rfl;have jA:=RestR.cY a2 jn gP ey;have mw:=pD a2 mv;clear a2 eH eI jg jh ji eK jj jl jm jn c8;refine iD rfl ?_;refine ar (bU (ay aa)) rfl<|ar (aJ ky rfl aa) rfl<|ar (aJ gu rfl aa) rfl<|aM (kR aa (ae (ag aa)) da c9 GM aA) trivial rfl (λnD a3=>?_)
       have bZ:=bo a3 da;simp only [pS,Value.cells,Nat.reduceAdd,aW,aY,aQ,bG,bC,cn,cp,fR,fS]at bZ;have jI:=au a3 c9 ah;have jK:=au a3 jo ah;have jL:=au a3 jp ah;have jN:=au a3 jr ah;have jO:=au a3 js ah;have jP:=au a3 jv ah;have jQ:=au a3 jw ah;have jR:=bM.au a3 jx da rfl;have jT:=RestR.au a3 jA gP;have mx:=bh a3 mw;clear a3 c9 jo da jp jr js jv jw jx jA;refine bD (aE (ai (ay bA))) (aE (ai (ay cS))) ?_;clear bA cS eC cy;intro nE eP jU;refine cG<|ao<|ax<|ax<|at_<|ar (ak eP) rfl<|ar (bU aa) rfl<|ar (aJ jq rfl aa) rfl<|ar (az (aK Dk rfl bZ aa aA) j4) rfl ?_
       refine ar (az (cx aa rfl Dj.1) ct) rfl ?_;refine ar (eF aa aw) rfl<|bB (ag (ai eP)) (ag (ai jU)) aa ?_;clear eP jU;intro nF jV jX jY
       refine ao<|bk jY (λdc=>?_) (λdc=>?_)
       ·cases dc
       replace dc:=bf dc;refine bF<|ao<|at_<|ar (ak jV) rfl<|ar (ak (ae jX)) rfl<|ar (bU (ae aa)) rfl<|ar (aJ eS rfl aa) rfl<|aM (bV aa (ag aa) rfl rfl bZ ou rfl aA) trivial rfl (λnG a5=>?_)
       have j0:=bo a5 bZ;simp only [pS,Value.cells,Nat.reduceAdd,aW,aY,aQ,bG,bC,cn,cp,fR,fS]at j0;have my:=au a5 jI ah;have nH:=au a5 jK ah;have nI:=au a5 jL ah;have mz:=au a5 jN ah;have mA:=au a5 jO ah;have nK:=au a5 jP ah;have mB:=au a5 jQ ah;have mC:=bM.au a5 jR bZ rfl;have mD:=RestR.au a5 jT gP;have nL:=bh a5 mx;clear a5 bZ jI jK jL jN jO jP jQ jR jT;refine pX ?_;clear jV jY jX;intro nM;refine⟨_,pK aj,?_⟩;exact⟨hbh,rfl,⟨H.jM,H.jJ,H.jB,cu,hs2⟩,lz,⟨j0,mz,mA,my,mB,mC,hks2,⟨hlo.1,hlo.2.1,by show lo<=H.jJ;omega,by show lo<=H.jB;omega,by show lo<=cu;omega,hlo2⟩⟩,mD⟩
    ·(rw [hk]at cg;simp at cg;done)
   ·(simp only [toList_data]at ce;exact absurd ce aD)
  ·(simp only [toList_data]at cc;exact absurd cc aD)
 ·(rw [hk]at b9;simp at b9;done)
theorem sC:aV Tryz.prog 3 false 1:=⟨aj,aj⟩
theorem mR:aV Tryz.prog 9 false 1:=⟨aj,aj⟩
section
variable {M0:List Ob} {n:Nat} (hn:M0.length=n) {b:Nat} {nam:ByteArray} {J B S M:AV} {cnt:Int} {w:Wd} {ws:List Wd} {last:Wd} {kind:ByteArray}
include hn
theorem yd(hb:M0[b]? =some (.box aY (aW nam J B S M cnt ws last kind)))(k:ByteArray)(t:Bool)(h:cv kind k=t):ew Tryz.prog 39 [.ptr b 0,.v (.string k)] M0 (λr m'=>r=eI t/\bP M0 m' (λ_=>False)) (λ_ _=>False):=by
 have:=CU hn hb k;rw [h]at this;exact this
theorem BE(hb:M0[b]? =some (.box aY (aW nam J B S M cnt (w::ws) last kind)))(hl:ws.length<=1000000)(h:(kind.toList==(⟨#[]⟩:ByteArray).toList && !(w.txt.toList==(⟨#[108,105,110,101]⟩:ByteArray).toList)|| !(kind.toList==(⟨#[]⟩:ByteArray).toList)&& !(w.txt.toList==(⟨#[106,111,105,110,116]⟩:ByteArray).toList)&& !(w.txt.toList==(⟨#[98,101,97,109]⟩:ByteArray).toList)&& !(w.txt.toList==(⟨#[115,119,105,116,99,104]⟩:ByteArray).toList))=true):
 ew Tryz.prog 16 [.ptr b 0] M0 (λ_ _=>False) (λv m'=>v=gp cnt w.col 7/\bP M0 m' (λj=>j=b)):=by
 have hbn:=cL hb hn;refine gr (fn:=Tryz.f16) 193 aj rfl aj bO ?_;intro bE aU hA aO;have aV:al bE (.tmp 0)=_:=hA 0 _ rfl;have bb:aU.length=n:=by rw [aO];exact hn
 have bc:aU[b]? =_:=(congrArg (λq=>q[b]?) aO).trans hb;simp only [pS,Value.cells,Nat.reduceAdd,aW,aY,aQ]at bc;have bH:bP M0 aU (λj=>j=b):=by rw [aO];exact bP.refl _ _
 clear hA aO;refine ax<|at_<|ar (ak aV) rfl<|dn (lC (J:=J) (B:=B) (S:=S) (M:=M) (nam:=nam) (cnt:=cnt) (w:=w) (ws:=ws) (last:=last) (kind:=kind) bb bc hl) (aG aa aN) kC trivial rfl (λbX bY bI=>?_) (λ_ _ h=>h.elim)
 obtain⟨rfl,be,aX⟩:=bI;simp only [pS,Value.cells,Nat.reduceAdd,aW,aY,aQ]at aX;have bf:=bH.trans be pA;obtain⟨bZ,aZ,b0⟩:=be.len_ bb;refine aM (cJ kH rfl aZ) trivial rfl (λb1 ad=>?_);have aP:=bS ad aZ;simp only [pS,Value.cells,Nat.reduceAdd,aW,aY,aQ]at aP;have bg:=aI ad aX;have bj:=RestR.aI ad bf;have bJ:=bR ad aZ;clear ad aX bf;refine aM (bV aa (ae aa) rfl rfl aP kJ rfl aA) trivial rfl (λb2 af=>?_);have aR:=bo af aP;simp only [pS,Value.cells,Nat.reduceAdd,aW,aY,aQ]at aR;have aS:=au af bg ah;have bm:=RestR.au af bj ey;have bn:=bh af bJ;clear af aP bg bj;refine bD (aE (ae (ag aV))) (aE aa) ?_;clear aV;intro b6 bp a2;refine ao<|ax<|at_<|ar (aJ iu rfl a2) rfl<|ar (az (aK mR rfl aR aa aA) du) rfl ?_
 refine ar (aB aa) rfl<|bB (ae (ag bp)) (ae (ag a2)) aa ?_;clear bp a2;intro b7 am aT an
 refine ao<|ax<|ca<|ax<|ax<|at_<|ar (ak am) rfl<|ar (bU aa) rfl<|ar (aJ eS rfl aa) rfl<|ar (az (aK mR rfl aS aa aA) du) rfl ?_
 refine ar (cX aa aw) rfl<|ar (ak aa) rfl<|bK aa (λab bL=>?_) (λab bL=>?_)
 ·skip;refine aF (ak (ag (ai an))) ⟨_,rfl,ab⟩ rfl ?_;refine aF (dS aa aw) ⟨_,rfl,(ae ab)⟩ rfl ?_;refine ar (bq (ag ab) aa) rfl<|ar (aB aa) rfl<|bu (ag (ay am)) (ag (ay aT)) (ag (ay an)) aa ?_;clear ab am aT an;intro b8 bM bN b9 bv
  refine ao<|bk bv (λa3=>?_) (λa3=>?_)
  ·replace a3:=cT a3;refine bF<|ao<|bk bv (λa5=>?_) (λa5=>?_)
   ·replace a5:=cT a5;refine at_<|ar (ak bM) rfl<|ar (aJ jV rfl (ae bN)) rfl<|ar (az (aK sC rfl aR aa aA) du) rfl ?_
    refine dn (ix (J:=J) (B:=B) (S:=S) (M:=M) (nam:=nam) (cnt:=cnt) (ws:=ws) (last:=w) (kind:=kind) bn aS _ _) (aG (ag aa) (aG aa (aG aw aN))) iy trivial rfl (λ_ _ h=>h.elim) (λcb cc bw=>?_)
    repeat (first|refine eG ?_|refine gJ ?_)
    exact⟨_,rfl,bw.1,bm.trans bw.2 iV⟩
   ·(simp_all;done)
  ·(simp_all;done)
 refine aC ⟨_,rfl,.inl ab⟩ rfl ?_;refine aC ⟨_,rfl,.inl (ae ab)⟩ rfl ?_;refine ar (br (ag ab) aw) rfl<|ar (aB aa) rfl<|bu (ag (ay am)) (ag (ay aT)) (ag (ay an)) aa ?_;clear ab am aT an;intro cd a6 bx ap bz
 refine ao<|iS bz<|at_<|ar (ak a6) rfl<|ar (bU aa) rfl<|ar (aJ eS rfl aa) rfl<|ar (az (aK mR rfl aS aa aA) du) rfl ?_
 refine ar (dS aa aw) rfl<|ar (ak aa) rfl<|bK aa (λav a7=>?_) (λav a7=>?_)
 ·replace a7:=cT a7;refine aF (ak (ag (ai ap))) ⟨_,rfl,av⟩ rfl ?_;refine aF (dS aa aw) ⟨_,rfl,(ae av)⟩ rfl ?_;refine ar (bq (ag av) aa) rfl<|ar (ak aa) rfl<|bK aa (λaD a8=>?_) (λaD a8=>?_)
  ·replace a8:=cT a8;refine aF (ak (ag (ay ap))) ⟨_,rfl,aD⟩ rfl ?_;refine aF (dS aa aw) ⟨_,rfl,(ae aD)⟩ rfl ?_;refine ar (bq (ag aD) aa) rfl<|ar (ak aa) rfl<|bK aa (λaL a9=>?_) (λaL a9=>?_)
   ·replace a9:=cT a9;refine aF (ak (ag (ai (ay ap)))) ⟨_,rfl,aL⟩ rfl ?_;refine aF (dS aa aw) ⟨_,rfl,(ae aL)⟩ rfl ?_;refine ar (bq (ag aL) aa) rfl<|ar (aB aa) rfl<|bu (ag (aH a6)) (ag (aH bx)) (ag (aH ap)) aa ?_;clear av aD aL a6 bz bx ap;intro ce bQ bT cf bW
    refine ao<|bk bW (λba=>?_) (λba=>?_)
    ·replace ba:=cT ba;refine at_<|ar (ak bQ) rfl<|ar (aJ jV rfl (ae bT)) rfl<|ar (az (aK sC rfl aR aa aA) du) rfl ?_
     refine dn (ix (J:=J) (B:=B) (S:=S) (M:=M) (nam:=nam) (cnt:=cnt) (ws:=ws) (last:=w) (kind:=kind) bn aS _ _) (aG (ag aa) (aG aa (aG aw aN))) iy trivial rfl (λ_ _ h=>h.elim) (λcg ci bA=>?_)
     repeat (first|refine eG ?_|refine gJ ?_)
     exact⟨_,rfl,bA.1,bm.trans bA.2 iV⟩
    ·(simp_all;done)
   ·(simp_all;done)
  ·(simp_all;done)
 ·(simp_all;done)
theorem Iu(hb:M0[b]? =some (.box aY (aW nam J B S M cnt (w::ws) last kind)))(hl:ws.length<=1000000)(h:(kind.toList==(⟨#[]⟩:ByteArray).toList)=false)(h2:(w.txt.toList==(⟨#[106,111,105,110,116]⟩:ByteArray).toList ||w.txt.toList==(⟨#[98,101,97,109]⟩:ByteArray).toList ||w.txt.toList==(⟨#[115,119,105,116,99,104]⟩:ByteArray).toList)=true)(ho:cv kind w.txt=false):
 ew Tryz.prog 16 [.ptr b 0] M0 (λ_ _=>False) (λv m'=>v=gp cnt w.col 9/\bP M0 m' (λj=>j=b)):=by
 have hbn:=cL hb hn;refine gr (fn:=Tryz.f16) 193 aj rfl aj bO ?_;intro cc bf hA aZ;have bg:al cc (.tmp 0)=_:=hA 0 _ rfl;have bJ:bf.length=n:=by rw [aZ];exact hn
 have bL:bf[b]? =_:=(congrArg (λq=>q[b]?) aZ).trans hb;simp only [pS,Value.cells,Nat.reduceAdd,aW,aY,aQ]at bL;have cd:bP M0 bf (λj=>j=b):=by rw [aZ];exact bP.refl _ _
 clear hA aZ;refine ax<|at_<|ar (ak bg) rfl<|dn (lC (J:=J) (B:=B) (S:=S) (M:=M) (nam:=nam) (cnt:=cnt) (w:=w) (ws:=ws) (last:=last) (kind:=kind) bJ bL hl) (aG aa aN) kC trivial rfl (λcN cO ce=>?_) (λ_ _ h=>h.elim)
 obtain⟨rfl,bM,bj⟩:=ce;simp only [pS,Value.cells,Nat.reduceAdd,aW,aY,aQ]at bj;have bN:=cd.trans bM pA;obtain⟨cP,bm,cQ⟩:=bM.len_ bJ;refine aM (cJ kH rfl bm) trivial rfl (λcR aR=>?_);have a2:=bS aR bm;simp only [pS,Value.cells,Nat.reduceAdd,aW,aY,aQ]at a2;have bQ:=aI aR bj;have bT:=RestR.aI aR bN;have cf:=bR aR bm;clear aR bj bN;refine aM (bV aa (ae aa) rfl rfl a2 kJ rfl aA) trivial rfl (λcS aS=>?_);have aT:=bo aS a2;simp only [pS,Value.cells,Nat.reduceAdd,aW,aY,aQ]at aT;have ab:=au aS bQ ah;have bn:=RestR.au aS bT ey;have aO:=bh aS cf;clear aS a2 bQ bT;refine bD (aE (ae (ag bg))) (aE aa) ?_;clear bg;intro cU bW bp;refine ao<|ax<|at_<|ar (aJ iu rfl bp) rfl<|ar (az (aK mR rfl aT aa aA) du) rfl ?_
 refine ar (aB aa) rfl<|bB (ae (ag bW)) (ae (ag bp)) aa ?_;clear bW bp;intro cV bv bX bY
 refine ao<|ax<|ca<|ax<|ax<|at_<|ar (ak bv) rfl<|ar (bU aa) rfl<|ar (aJ eS rfl aa) rfl<|ar (az (aK mR rfl ab aa aA) du) rfl ?_
 refine ar (cX aa aw) rfl<|ar (ak aa) rfl<|bK aa (λaU cg=>?_) (λaU cg=>?_)
 ·(simp_all;done)
 refine aC ⟨_,rfl,.inl aU⟩ rfl ?_;refine aC ⟨_,rfl,.inl (ae aU)⟩ rfl ?_;refine ar (br (ag aU) aw) rfl<|ar (aB aa) rfl<|bu (ag (ay bv)) (ag (ay bX)) (ag (ay bY)) aa ?_;clear aU bv bX bY;intro cW an aP af a3
 refine ao<|iS a3<|at_<|ar (ak an) rfl<|ar (bU aa) rfl<|ar (aJ eS rfl aa) rfl<|ar (az (aK mR rfl ab aa aA) du) rfl ?_
 refine ar (dS aa aw) rfl<|ar (ak aa) rfl<|bK aa (λap bw=>?_) (λap bw=>?_)
 ·replace bw:=cT bw;refine aF (ak (ag (ai af))) ⟨_,rfl,ap⟩ rfl ?_;refine aF (dS aa aw) ⟨_,rfl,(ae ap)⟩ rfl ?_;refine ar (bq (ag ap) aa) rfl<|ar (ak aa) rfl<|bK aa (λad aV=>?_) (λad aV=>?_)
  ·replace aV:=cT aV;refine aF (ak (ag (ay af))) ⟨_,rfl,ad⟩ rfl ?_;refine aF (dS aa aw) ⟨_,rfl,(ae ad)⟩ rfl ?_;refine ar (bq (ag ad) aa) rfl<|ar (ak aa) rfl<|bK aa (λam aX=>?_) (λam aX=>?_)
   ·replace aX:=cT aX;refine aF (ak (ag (ai (ay af)))) ⟨_,rfl,am⟩ rfl ?_;refine aF (dS aa aw) ⟨_,rfl,(ae am)⟩ rfl ?_;refine ar (bq (ag am) aa) rfl<|ar (aB aa) rfl<|bu (ag (aH an)) (ag (aH aP)) (ag (aH af)) aa ?_;clear ap ad am an a3 aP af;intro cY a5 bZ bx b0
    refine ao<|bk b0 (λbz=>?_) (λbz=>?_)
    ·(simp_all;done)
    replace bz:=di bz;refine ax<|at_<|ar (ak a5) rfl<|ar (bU aa) rfl<|ar (aJ eS rfl aa) rfl<|ar (az (aK mR rfl ab aa aA) du) rfl ?_
    refine ar (dS aa aw) rfl<|ar (ak aa) rfl<|bK aa (λav bA=>?_) (λav bA=>?_)
    ·replace bA:=cT bA;refine aF (ak (ag (ai a5))) ⟨_,rfl,av⟩ rfl ?_;refine aF (ak (ae (ag (ai bx)))) ⟨_,rfl,(ae av)⟩ rfl ?_;refine dn (yd (J:=J) (B:=B) (S:=S) (M:=M) (nam:=nam) (cnt:=cnt) (ws:=ws) (last:=w) (kind:=kind) aO ab w.txt false ho) (aG (ae aa) (aG aa aN)) qK ⟨_,rfl,(ag av)⟩ rfl (λcZ c6 ci=>?_) (λ_ _ h=>h.elim);obtain⟨rfl,a6⟩:=ci;have cj:=a6.at_ aT dZ;have ck:=a6.at_ ab dZ;have cm:=bn.trans a6 zn;obtain⟨c7,co,c8⟩:=a6.len_ aO;refine aF (dT aa) ⟨_,rfl,(ae (ag av))⟩ rfl ?_;refine ar (bq (ai av) aa) rfl<|ar (aB aa) rfl<|bu (ai (ay a5)) (ai (ay bZ)) (ai (ay bx)) aa ?_;clear av a5 b0 bZ bx;intro c9 cq cr da ct
     refine ao<|bk ct (λa7=>?_) (λa7=>?_)
     ·replace a7:=cT a7;refine at_<|ar (ak cq) rfl<|ar (aJ jV rfl (ae cr)) rfl<|ar (az (aK sC rfl cj aa aA) du) rfl ?_
      refine dn (ix (J:=J) (B:=B) (S:=S) (M:=M) (nam:=nam) (cnt:=cnt) (ws:=ws) (last:=w) (kind:=kind) co ck _ _) (aG (ag aa) (aG aa (aG aw aN))) iy trivial rfl (λ_ _ h=>h.elim) (λdb dc b1=>?_)
      repeat (first|refine eG ?_|refine gJ ?_)
      exact⟨_,rfl,b1.1,cm.trans b1.2 iV⟩
     ·cases a7
    ·(simp_all;done)
   replace aX:=di aX;refine aC ⟨_,rfl,.inl am⟩ rfl ?_;refine aC ⟨_,rfl,.inl (ae am)⟩ rfl ?_;refine ar (br (ag am) aw) rfl<|ar (aB aa) rfl<|bu (ag (aH an)) (ag (aH aP)) (ag (aH af)) aa ?_;clear ap ad am an a3 aP af;intro dd a8 b2 bE b6
   refine ao<|iS b6<|ax<|at_<|ar (ak a8) rfl<|ar (bU aa) rfl<|ar (aJ eS rfl aa) rfl<|ar (az (aK mR rfl ab aa aA) du) rfl ?_
   refine ar (dS aa aw) rfl<|ar (ak aa) rfl<|bK aa (λaD bF=>?_) (λaD bF=>?_)
   ·replace bF:=cT bF;refine aF (ak (ag (ai a8))) ⟨_,rfl,aD⟩ rfl ?_;refine aF (ak (ae (ag (ai bE)))) ⟨_,rfl,(ae aD)⟩ rfl ?_;refine dn (yd (J:=J) (B:=B) (S:=S) (M:=M) (nam:=nam) (cnt:=cnt) (ws:=ws) (last:=w) (kind:=kind) aO ab w.txt false ho) (aG (ae aa) (aG aa aN)) qK ⟨_,rfl,(ag aD)⟩ rfl (λde df cu=>?_) (λ_ _ h=>h.elim);obtain⟨rfl,a9⟩:=cu;have cw:=a9.at_ aT dZ;have cx:=a9.at_ ab dZ;have cy:=bn.trans a9 zn;obtain⟨dg,cz,dh⟩:=a9.len_ aO;refine aF (dT aa) ⟨_,rfl,(ae (ag aD))⟩ rfl ?_;refine ar (bq (ai aD) aa) rfl<|ar (aB aa) rfl<|bu (ai (ay a8)) (ai (ay b2)) (ai (ay bE)) aa ?_;clear aD a8 b6 b2 bE;intro dk cA cB dl cC
    refine ao<|bk cC (λba=>?_) (λba=>?_)
    ·replace ba:=cT ba;refine at_<|ar (ak cA) rfl<|ar (aJ jV rfl (ae cB)) rfl<|ar (az (aK sC rfl cw aa aA) du) rfl ?_
     refine dn (ix (J:=J) (B:=B) (S:=S) (M:=M) (nam:=nam) (cnt:=cnt) (ws:=ws) (last:=w) (kind:=kind) cz cx _ _) (aG (ag aa) (aG aa (aG aw aN))) iy trivial rfl (λ_ _ h=>h.elim) (λdm dq b7=>?_)
     repeat (first|refine eG ?_|refine gJ ?_)
     exact⟨_,rfl,b7.1,cy.trans b7.2 iV⟩
    ·cases ba
   ·(simp_all;done)
  replace aV:=di aV;refine aC ⟨_,rfl,.inl ad⟩ rfl ?_;refine aC ⟨_,rfl,.inl (ae ad)⟩ rfl ?_;refine ar (br (ag ad) aw) rfl<|ar (ak aa) rfl<|aC ⟨_,rfl,.inl aa⟩ rfl ?_
  refine aC ⟨_,rfl,.inl (ae aa)⟩ rfl ?_;refine ar (br (ag aa) aw) rfl<|ar (aB aa) rfl<|bu (ag (aH an)) (ag (aH aP)) (ag (aH af)) aa ?_;clear ap ad an a3 aP af;intro dr bb b8 bH b9
  refine ao<|iS b9<|ax<|at_<|ar (ak bb) rfl<|ar (bU aa) rfl<|ar (aJ eS rfl aa) rfl<|ar (az (aK mR rfl ab aa aA) du) rfl ?_
  refine ar (dS aa aw) rfl<|ar (ak aa) rfl<|bK aa (λaL bI=>?_) (λaL bI=>?_)
  ·replace bI:=cT bI;refine aF (ak (ag (ai bb))) ⟨_,rfl,aL⟩ rfl ?_;refine aF (ak (ae (ag (ai bH)))) ⟨_,rfl,(ae aL)⟩ rfl ?_;refine dn (yd (J:=J) (B:=B) (S:=S) (M:=M) (nam:=nam) (cnt:=cnt) (ws:=ws) (last:=w) (kind:=kind) aO ab w.txt false ho) (aG (ae aa) (aG aa aN)) qK ⟨_,rfl,(ag aL)⟩ rfl (λdt dv cD=>?_) (λ_ _ h=>h.elim);obtain⟨rfl,bc⟩:=cD;have cE:=bc.at_ aT dZ;have cF:=bc.at_ ab dZ;have cG:=bn.trans bc zn;obtain⟨dw,cH,dy⟩:=bc.len_ aO;refine aF (dT aa) ⟨_,rfl,(ae (ag aL))⟩ rfl ?_;refine ar (bq (ai aL) aa) rfl<|ar (aB aa) rfl<|bu (ai (ay bb)) (ai (ay b8)) (ai (ay bH)) aa ?_;clear aL bb b9 b8 bH;intro dz cI cK dA cM
   refine ao<|bk cM (λbe=>?_) (λbe=>?_)
   ·replace be:=cT be;refine at_<|ar (ak cI) rfl<|ar (aJ jV rfl (ae cK)) rfl<|ar (az (aK sC rfl cE aa aA) du) rfl ?_
    refine dn (ix (J:=J) (B:=B) (S:=S) (M:=M) (nam:=nam) (cnt:=cnt) (ws:=ws) (last:=w) (kind:=kind) cH cF _ _) (aG (ag aa) (aG aa (aG aw aN))) iy trivial rfl (λ_ _ h=>h.elim) (λdB dC cb=>?_)
    repeat (first|refine eG ?_|refine gJ ?_)
    exact⟨_,rfl,cb.1,cG.trans cb.2 iV⟩
   ·cases be
  ·(simp_all;done)
 ·(simp_all;done)
end
end Go.Proofs.YtfoaiidcfkmneaaGreatDoor
namespace Go.Proofs.YtfoaiidcfkmneaaGreatDoor
open Go Go.RowKit Go.Proofs Go.Lib
def fo(p:ByteArray)(w0:Wd)(ws:List Wd):Int×Int:=if dy p w0.txt=0 then de w0.txt w0 ws else(w0.col,dy p w0.txt)
def fN(st:RS)(w0:Wd)(ws:List Wd):RS:=
 if aS w0.txt bj then {(st.add bj)with nam:=(cm ws).txt,ws:= [],last:=cm ws,kind:=bj}
 else if aS w0.txt bc then {(st.add bc)with js:=st.js++ [⟨cV (cm ws),cV (cm ws.tail),cV (cm ws.tail.tail),cV (cm ws.tail.tail.tail)⟩],ws:= [],last:=cm ws.tail.tail.tail,kind:=bc}
 else if aS w0.txt aU then {(st.add aU)with bs:=st.bs++ [⟨cV (cm ws),cV (cm ws.tail)⟩],ws:= [],last:=cm ws.tail,kind:=aU}
 else {(st.add aX)with ss:=st.ss++ [⟨(cm ws).txt,cV (cm ws.tail),ws.tail.tail.map cV⟩],ws:= [],last:=w0,kind:=aX}
structure Aq (st:RS):Prop where
 js:st.js.length<=1000000
 bs:st.bs.length<=1000000
 ss:st.ss.length<=1000000
 cs:∀ q,(cR st.cs q).length <=1000000
theorem m8{a b:ByteArray}(h:a≠b):aS a b=false:=by
 cases hq:aS a b with
 | false=>rfl
 | true=>exact absurd (fB.1 hq) h
theorem mz:aS bc bj=false:=by rw [jN];decide
theorem mB:aS aU bj=false:=by rw [jN];decide
theorem mC:aS aX bj=false:=by rw [jN];decide
theorem nw:aS aU bc=false:=by rw [jN];decide
theorem ny:aS aX bc=false:=by rw [jN];decide
theorem nA:aS aX aU=false:=by rw [jN];decide
theorem fj(a:ByteArray):aS a a=true:=fB.2 rfl
theorem MR{M0:List Ob}{n:Nat}(hn:M0.length=n){st:RS}{H:RH}{lo b:Nat}(hR:fm st H lo M0 b){es er:Value}(hes:fz es)(her:fz er)(h0:M0[0]? =some (.bY (gX es er)))(hB:Aq st)(w0:Wd)(ws:List Wd)(hw:st.ws=w0::ws)(hW:g8 w0 ws)(hl:ws.length<=100000):
 ew Tryz.prog 16 [.ptr b 0] M0 (λr m'=>fo st.kind w0 ws=(0,0)/\r= .tuple []/\ ∃ H' la,fm {(fN st w0 ws)with last:=la} H' lo m' b/\bP M0 m' (KR H b)) (λv m'=>∃ c e,e≠0/\fo st.kind w0 ws=(c,e)/\v=gp st.cnt c e/\bP M0 m' (KR H b)):=by
 obtain⟨tx,c0⟩:=w0;have hb:=hR.box;rw [hw]at hb
 by_cases hk:aS st.kind ⟨#[]⟩=true
 ·by_cases ht:tx=bj
  ·subst ht;have hkk:dy st.kind bj=0:=by simp [dy,hk,fj]
   refine(JO hn hR c0 ws hw (fB.1 hk) hW hB.cs).mono (λr m h=>?_) (λv m h=>?_)
   ·obtain⟨h1,h2,H',h3,h4⟩:=h;exact⟨by simp only [fo];rw [if_pos hkk];exact h1,h2,H',cm ws,by rw [fN,if_pos (fj _)];exact h3,h4⟩
   ·obtain⟨c,e,h1,h2,h3⟩:=h;exact⟨c,e,h1,by simp only [fo];rw [if_pos hkk];exact h2,h3⟩
  ·have hkk:dy st.kind tx=7:=by simp [dy,hk,m8 ht]
   have hk':(st.kind.toList==(⟨#[]⟩:ByteArray).toList)=true:=hk;have ht':(tx.toList==(⟨#[108,105,110,101]⟩:ByteArray).toList)=false:=m8 ht;refine(BE hn hb hW.len (by rw [hk',ht'];rfl)).mono (λr m h=>h.elim) (λv m h=>?_);exact⟨c0,7,aD,by simp only [fo];rw [hkk];rfl,h.1,⟨h.2.len,λj hj hn=>h.2.same j hj λe=>hn (.inl e)⟩⟩
 ·have hk0:aS st.kind ⟨#[]⟩=false:=by simpa using hk
  have hk':(st.kind.toList==(⟨#[]⟩:ByteArray).toList)=false:=hk0
  by_cases hin:(aS tx bc||aS tx aU||aS tx aX)=true
  ·cases ho:cv st.kind tx with
   | false=>
    have hkk:dy st.kind tx=9:=by unfold dy;rw [hk0,hin,ho];rfl
    refine(Iu hn hb hW.len hk' hin ho).mono (λr m h=>h.elim) (λv m h=>?_);exact⟨c0,9,aD,by simp only [fo];rw [hkk];rfl,h.1,⟨h.2.len,λj hj hn=>h.2.same j hj λe=>hn (.inl e)⟩⟩
   | true=>
    have hkk:dy st.kind tx=0:=by unfold dy;rw [hk0,hin,ho];rfl
    by_cases h1:tx=bc
    ·subst h1;refine(I6 hn hR c0 hes her h0 hB.js ws hw hk' ho hW hB.cs).mono (λr m h=>?_) (λv m h=>?_)
     ·obtain⟨h1,h2,H',h3,h4⟩:=h;exact⟨by simp only [fo];rw [if_pos hkk];exact h1,h2,H',cm ws.tail.tail.tail,by simp only [fN,mz,fj,if_true,SV,if_false];exact h3,h4⟩
     ·obtain⟨c,e,h1,h2,h3⟩:=h;exact⟨c,e,h1,by simp only [fo];rw [if_pos hkk];exact h2,h3⟩
    by_cases h2:tx=aU
    ·subst h2;refine(JP hn hR c0 hes her h0 hB.bs ws hw hk' ho hW hB.cs).mono (λr m h=>?_) (λv m h=>?_)
     ·obtain⟨h1,h2,H',h3,h4⟩:=h;exact⟨by simp only [fo];rw [if_pos hkk];exact h1,h2,H',cm ws.tail,by simp only [fN,mB,nw,fj,if_true,SV,if_false];exact h3,h4⟩
     ·obtain⟨c,e,h1,h2,h3⟩:=h;exact⟨c,e,h1,by simp only [fo];rw [if_pos hkk];exact h2,h3⟩
    have h3:tx=aX:=by
     rw [m8 h1,m8 h2]at hin;exact fB.1 (by simpa using hin)
    subst h3;refine(It hn hR c0 hes her h0 hB.ss ws hw hk' ho hW hl hB.cs).mono (λr m h=>?_) (λv m h=>?_)
    ·obtain⟨h1,h2,H',la,h3,h4⟩:=h;exact⟨by simp only [fo];rw [if_pos hkk];exact h1,h2,H',la,by simp only [fN,mC,ny,nA,SV,if_false];exact h3,h4⟩
    ·obtain⟨c,e,h1,h2,h3⟩:=h;exact⟨c,e,h1,by simp only [fo];rw [if_pos hkk];exact h2,h3⟩
  ·have hin0:(aS tx bc||aS tx aU||aS tx aX)=false:=by simpa using hin
   have hkk:dy st.kind tx=7:=by unfold dy;rw [hk0,hin0];rfl
   have hin1:((tx.toList==(⟨#[106,111,105,110,116]⟩:ByteArray).toList)||(tx.toList==(⟨#[98,101,97,109]⟩:ByteArray).toList)||(tx.toList==(⟨#[115,119,105,116,99,104]⟩:ByteArray).toList))=false:=hin0;simp only [UN]at hin1;refine(BE hn hb hW.len (by rw [hk',hin1.1.1,hin1.1.2,hin1.2];rfl)).mono (λr m h=>h.elim) (λv m h=>?_);exact⟨c0,7,aD,by simp only [fo];rw [hkk];rfl,h.1,⟨h.2.len,λj hj hn=>h.2.same j hj λe=>hn (.inl e)⟩⟩
end Go.Proofs.YtfoaiidcfkmneaaGreatDoor
namespace Go.Proofs.YtfoaiidcfkmneaaGreatDoor
open Go Go.RowKit Go.Proofs
theorem I7:cu Tryz.prog 134 0 0 true 2:=by unfold cu;kernel_rfl
theorem Be:cu Tryz.prog 134 1 2 false 1:=by unfold cu;kernel_rfl
theorem MS:∀ args w,(callFunc 66 args).run Tryz.prog w= .ok (.enter 66 args) w:=λ_ _=>by kernel_rfl
theorem Dl:b9 Tryz.prog 130 132 1 8 (.nilFunc):=⟨aj,aj,aj⟩
theorem MU:aV Tryz.prog 132 false 1:=⟨aj,aj⟩
theorem PH:aV Tryz.prog 27 true 4:=⟨aj,aj⟩
theorem Fe:aV Tryz.prog 30 false 1:=⟨aj,aj⟩
theorem yS:aV Tryz.prog 80 true 2:=⟨aj,aj⟩
def wR(l:bN):List AV:= [my (dW (dX l.nam) 4),my (dW (decide ((0:Int)<l.bs.length/\(l.js.length:Int)=l.bs.length+1)) 10),my (dW (decide ((l.bs.length:Int)<=40)) 8),
 oI 1 l.js.length (.clo (.func 80) [] [.ref (lu l)]),oI 2 l.bs.length (.clo (.func 83) [] [.ref (lu l)]),my (dW (decide ((l.ss.length:Int)<=4)) 8),oI 3 l.ss.length (.clo (.func 84) [] [.ref (lu l)])]
theorem RE(l:bN):wP l=(wR l).map pL:=rfl
def kP(l:bN):List ((Int×Int)×Int):= [((0,0),dW (dX l.nam) 4),((0,0),dW (decide ((0:Int)<l.bs.length/\(l.js.length:Int)=l.bs.length+1)) 10),((0,0),dW (decide ((l.bs.length:Int)<=40)) 8),
 lY 1 (λi=>kM (l.js.getD i default)) l.js.length,lY 2 (λi=>lq (l.bs.getD i default)) l.bs.length,((0,0),dW (decide ((l.ss.length:Int)<=4)) 8),lY 3 (gV l) l.ss.length]
theorem vV(er:Int):ng Tryz.prog (my er) [] (λq=>q=tw ((0,0),er)):=⟨_,_,_,rfl,rfl,rfl,λ_ _=>by kernel_rfl,I1 er⟩
theorem zK(k:Int)(n:Nat)(f:FuncId)(m:List AV)(er:Nat->Int)(hn:n<=1000000)(hro:cS.roL m=true)(eH:∀ args w,(callFunc f args).run Tryz.prog w= .ok (.enter f args) w)(hc:∀ i:Int,0<=i->i<n->bT Tryz.prog f ([]++ [mA i]++m) (λq=>q=mA (er i.toNat))):
 ng Tryz.prog (oI k n (.clo (.func f) [] m)) [] (λq=>q=tw (lY k er n)):=
 ⟨_,_,_,rfl,rfl,by(simp only [cS.roL,cS,Bool.and_true,UH];done),λ_ _=>by kernel_rfl,MA k n f m er ah hro eH hc⟩
theorem QP(l:bN)(hl:fw l)(hsw:l.js.length=l.bs.length+1-> ∀ i:Int,0<=i->i<l.ss.length->bT Tryz.prog 84 [mA i,.ref (lu l)] (λq=>q=mA (gV l i.toNat))):∀ i:Nat,i<7->(∀ j:Nat,j<i->((kP l).getD j default).2=0)->ng Tryz.prog ((wR l).getD i default) [] (λq=>q=tw ((kP l).getD i default))
 | 0,_,_=>vV _
 | 1,_,_=>vV _
 | 2,_,_=>vV _
 | 3,_,_=>zK _ _ _ _ _ hl.2.1 rfl (λ_ _=>by kernel_rfl) λi h0 h1=>Mc l i ⟨h0,h1⟩
 | 4,_,_=>zK _ _ _ _ _ hl.2.2.1 rfl (λ_ _=>by kernel_rfl) λi h0 h1=>Md l i ⟨h0,h1⟩
 | 5,_,_=>vV _
 | 6,_,hz=>zK _ _ _ _ _ hl.2.2.2.1 rfl (λ_ _=>by kernel_rfl) (hsw (by
  have h1:dW (decide ((0:Int)<l.bs.length/\(l.js.length:Int)=l.bs.length+1)) 10=0:=hz 1 ah
  by_cases hd:(0:Int)<l.bs.length/\(l.js.length:Int)=l.bs.length+1
  ·omega
  ·rw [decide_eq_false hd]at h1;exact absurd h1 aD))
theorem H5(l:bN)(hl:fw l)(r:(Int×Int)×Int)(hr:∀ i:Nat,i<7->(∀ j:Nat,j<i->((kP l).getD j default).2=0)->((kP l).getD i default).2≠0->r=(kP l).getD i default)(hr0:(∀ j:Nat,j<7->((kP l).getD j default).2=0)->r=((0,0),0))
 (hck:∀ i:Nat,i<7->(∀ j:Nat,j<i->((kP l).getD j default).2=0)->ng Tryz.prog ((wR l).getD i default) [] (λq=>q=tw ((kP l).getD i default))):bT Tryz.prog 42 [gA l] (λq=>q= .tuple [.agg [mA r.1.1,mA r.1.2],mA r.2]):=by
 have h7:(wR l).length =7:=rfl;refine cA (fn:=Tryz.f42) 25 aj rfl aj bO ?_;intro cz cB hA bM;have bP:al cz (.tmp 0)=_:=hA 0 _ rfl;have a5:cB.length=0:=by rw [bM];rfl
 clear hA bM;refine ax<|at_<|aM (fD bP rfl a5) trivial rfl (λcZ a6=>?_)
 have bQ:=bS a6 a5;have ab:=bR a6 a5;have ab:_=1:=ab;clear a6;refine aM (cJ re rfl ab) trivial rfl (λbU aH=>?_);have a7:=bS aH ab;simp only [pS,Value.cells,Nat.reduceAdd,pL]at a7;have a8:=aI aH bQ;have a9:=bR aH ab;have a9:_=2:=a9;clear aH bQ;refine ar (aB aw) rfl<|bD (ag aa) (ae aa) ?_;clear bP;intro c7 bX bY
 refine ao<|ax<|ax<|at_<|ar (az (aK PH rfl a8 bX aA) qR) rfl ?_
 refine ar (bI (aG aa aN) rfl ((JD l hl).mono (λq h=>h.trans (by rw [RE]))) MS) rfl ?_;refine ar (az (cx aa rfl Dl.1) ct) rfl ?_;refine ar (ak aw) rfl<|bu (ai bY) (ag aa) (ae aa) aa ?_;clear bX bY;intro ba bZ b0 b1 cC
 refine ao<|ca<|eL (S:=Int) (λi e mem=>(al e (.tmp 10)= .v (.int .i64 i))/\(al e (.tmp 2)=al ba (.tmp 2))/\(al e (.tmp 8)=al ba (.tmp 8))/\(al e (.tmp 9)=al ba (.tmp 9))/\(mem[1]? =bU[1]?)/\(mem[0]? =bU[0]?)/\(∃ n,mem.length=n/\2<=n)/\((0<=i/\i<=7/\ ∀ j:Nat,j<i.toNat->((kP l).getD j default).2=0))) (λi=>(7 - i).toNat) _ ⟨cC,rfl,rfl,rfl,rfl,rfl,⟨_,a9,SR _⟩,?_⟩ ?_
 ·(exact⟨ah,ah,λj h=>absurd h ah⟩)
 ·rintro i c8 c9 ⟨bb,cF,cH,cK,cL,cM,⟨bc,aO,da⟩,hinv⟩;have b2:=cF.trans bZ;have b6:=cH.trans b0;have be:=cK.trans b1;have ad:=cL.trans a7;have aP:=cM.trans a8
  (obtain⟨p1,p2,p3⟩:=hinv)
  refine ax<|at_<|ar (c6 bb be) rfl<|ck (ae b2) (ae b6) (ae be) (ae bb) aa ?_;clear bb b2 b6 be;intro dc af aS bj aT bn
  refine ao<|ax<|bk bn (λam=>?_) (λam=>?_)
  ·replace am:=bt am;refine bF<|ao<|ax<|ca<|ax<|at_<|ar (az (cE Dl aS aT ah (by(refine dq ?_;omega))) qR) rfl ?_
   refine ar (az (bL MU rfl aa aA) qR) rfl ?_;refine ar (aB aa) rfl<|ck (ae (ag af)) aa (ae (ag aS)) (ae (ag bj)) (ae (ag aT)) ?_;clear aT bn af aS bj;intro dd b7 b9 cb cc cd
   refine ao<|ax<|at_<|ar (ak b9) rfl<|ar (CH aa aN rfl (hck i.toNat ah p3)) rfl ?_
   refine aM (cJ zb rfl aO) trivial rfl (λde an=>?_);have aU:=bS an aO;simp only [pS,Value.cells,Nat.reduceAdd,pL]at aU;have ce:=aI an ad;have cg:=aI an aP;have cN:=bR an aO;clear an ad aP;refine aM (bV aa (ae aa) rfl rfl aU vE rfl aA) trivial rfl (λdf ap=>?_);have aV:=bo ap aU;simp only [pS,Value.cells,Nat.reduceAdd,pL]at aV;have bq:=au ap ce ah;have br:=au ap cg ah;have aX:=bh ap cN;clear ap aU ce cg;refine ck (aE (ae (ag b7))) (aE aa) (aE (ae (ag cb))) (aE (ae (ag cc))) (aE (ae (ag cd))) ?_;clear cd b7 b9 cb cc;intro dg ci bv cj cm co;refine ao<|ax<|at_<|ar (aJ Be rfl bv) rfl<|ar (az (aK Fe rfl aV aa aA) qR) rfl ?_
   refine ar (fp aa aw) rfl<|dH (ae (ag ci)) (ae (ag bv)) (ae (ag cj)) (ae (ag cm)) (ae (ag co)) aa ?_;clear co ci bv cj cm;intro dh av aZ bx bz bA bB
   refine ao<|bk bB (λay=>?_) (λay=>?_)
   ·replace ay:=ff ay;refine ax<|iq 5 0 aX aj aj aj aj (λdi aC=>?_)
    have a2:=bJ aC aV;have bE:=bJ aC bq;have cq:=bJ aC br;have cO:_=bc+1:=ir (K:=0) aC aX;clear aC aV bq br aX;refine bg (λM_ hM_=>(aJ I7 rfl aZ)) trivial ?_;refine db (bc) (λM_ hM_=>(az (aK yS rfl (cI hM_ a2 aL) aa aA) qR)) trivial trivial ?_;refine bg (λM_ hM_=>(aJ Be rfl (ag aZ))) trivial ?_;refine db (bc) (λM_ hM_=>(az (aK Fe rfl (cI hM_ a2 aL) aa aA) qR)) trivial trivial ?_;refine od (1) (λM_ hM_=>(mJ (ai av) (ag aa) rfl rfl (cI hM_ bE aL) jK rfl aA)) trivial trivial ⟨.inl b8,⟨.inl b8,trivial⟩⟩ (λdk aF=>?_);have bH:=bo aF bE;simp only [pS,Value.cells,Nat.reduceAdd,pL]at bH;have cP:=au aF a2 ah;have cQ:=au aF cq aD;have cR:=bh aF cO;clear aF a2 bE cq;refine iD rfl ?_;refine ar (aB (aE aa)) rfl<|bD (ae (aE (ai av))) aa ?_;clear bA bB av aZ bx bz;intro dl cr cu
    refine ao<|bm<|cD<|bw<|bw<|cD<|bw<|dP bp aj (dz cr bH yS aA aL) (aR cu) (eh (.ro _ rfl)) (.ro _ rfl) ?_
    clear cr cu bH cP cQ cR
    (rw [hr i.toNat ah p3 (by assumption)];rfl)
   replace ay:=eY ay;refine bF<|cG<|ao<|at_ ?_
   (refine ar (cf bA aw ?_) rfl ?_; · (unfold In64;omega))
   refine ar (ak aa) rfl<|bu (ag av) (ag bx) (ag bz) aa ?_;clear bA bB av aZ bx bz;intro dm cS cT cV cW
   refine ao<|⟨_,⟨cW,(cS.trans bZ.symm),(cT.trans b0.symm),(cV.trans b1.symm),(bq.trans a7.symm),(br.trans a8.symm),⟨_,aX,ah⟩,?_⟩,?_⟩
   ·(refine⟨ah,ah,λj hj=>?_⟩;by_cases hji:j<i.toNat;(exact p3 j hji);(rw [show j=i.toNat by omega];assumption))
   ·((try dsimp only);omega)
  replace am:=bf am;refine dJ<|cw<|cw<|dI<|ao<|ax<|at_<|ar (cU bW lL lK lJ rfl) rfl ?_
  refine aM (bV (ae af) aa rfl rfl ad jK rfl aA) trivial rfl (λdn a3=>?_);have bK:=bo a3 ad;simp only [pS,Value.cells,Nat.reduceAdd,pL]at bK;have cX:=au a3 aP aD;have cY:=bh a3 aO;clear a3 ad aP;refine ar (aB aw) rfl<|bD (ae (aE (ae af))) aa ?_;clear aT bn af aS bj;intro dr cv cy
  refine ao<|bm<|dP bp aj (dz cv bK yS aA aL) (aR cy) (eh (.ro _ rfl)) (.ro _ rfl) ?_
  clear cv cy bK cX cY
  (rw [hr0 (λj hj=>p3 j ah)];rfl)
def jP:List ((Int×Int)×Int)->(Int×Int)×Int
 | []=>((0,0),0)
 | r::rs=>if r.2=0 then jP rs else r
theorem Ff:∀ {rs:List ((Int×Int)×Int)} {i:Nat},i<rs.length->(∀ j:Nat,j<i->(rs.getD j default).2=0)->(rs.getD i default).2≠0->jP rs=rs.getD i default
 | [],_,h,_,_=>absurd h aL
 | r::rs,0,_,_,h=>by
  have h:r.2≠0:=h;simp only [jP];rw [if_neg h];rfl
 | r::rs,i+1,hi,hn,h=>by
  have h0:r.2=0:=hn 0 ah;simp only [jP];rw [if_pos h0];exact Ff (rs:=rs) (i:=i) (by simpa using hi) (λj hj=>hn (j+1) ah) h
theorem BF:∀ {rs:List ((Int×Int)×Int)},(∀ j:Nat,j<rs.length->(rs.getD j default).2=0)->jP rs=((0,0),0)
 | [],_=>rfl
 | r::rs,h=>by
  have h0:r.2=0:=h 0 aL;simp only [jP];rw [if_pos h0];exact BF (rs:=rs) (λj hj=>h (j+1) (by simpa using hj))
theorem sD{f:Nat->Int}:∀ {n i:Nat},gW f n=some i->f i≠0/\i<n
 | 0,i,h=>by simp [gW]at h
 | n+1,i,h=>by
  simp only [gW]at h;cases hq:gW f n with
  | some k=>
   rw [hq]at h;cases h;have:=sD hq;exact⟨this.1,ah⟩
  | none=>
   rw [hq]at h
   by_cases hz:f n=0
   ·simp [hz]at h
   ·simp [hz]at h;subst h;exact⟨hz,ah⟩
theorem vr(b:Bool)(er:Int)(he:er≠0)(rs:List ((Int×Int)×Int)):jP (((0,0),dW b er)::rs)=if b then jP rs else((0,0),er):=by
 cases b
 ·simp only [jP,dW];simp [he]
 ·simp only [jP,dW];simp
theorem yT(k:Int)(f:Nat->Int)(n:Nat)(rs:List ((Int×Int)×Int)):jP (lY k f n::rs)=jO k f n (jP rs):=by
 unfold lY jO;cases h:gW f n with
 | none=>simp only [jP];simp
 | some i=>simp only [jP];rw [if_neg (sD h).1]
theorem Dm(l:bN):cg l=jP (kP l):=by
 unfold kP;rw [vr _ _ aD,vr _ _ aD,vr _ _ aD,yT,yT,vr _ _ aD,yT];unfold cg;cases dX l.nam
 ·rfl
 ·by_cases h2:l.bs.length=0\/l.js.length≠l.bs.length+1
  ·simp only [Bool.not_true,SV,if_false,if_true];rw [if_pos h2,decide_eq_false ah];rfl
  ·simp only [Bool.not_true,SV,if_false,if_true];rw [if_neg h2,decide_eq_true (p:=(0:Int)<l.bs.length/\(l.js.length:Int)=l.bs.length+1) ah]
   by_cases h3:40<l.bs.length
   ·rw [if_pos h3,decide_eq_false (p:=(l.bs.length:Int)<=40) ah];rfl
   ·rw [if_neg h3,decide_eq_true (p:=(l.bs.length:Int)<=40) ah];simp only [if_true]
    congr 2
    by_cases h4:4<l.ss.length
    ·rw [if_pos h4,decide_eq_false (p:=(l.ss.length:Int)<=4) ah];rfl
    ·rw [if_neg h4,decide_eq_true (p:=(l.ss.length:Int)<=4) ah];rfl
theorem H6(l:bN)(hl:fw l)(hsw:l.js.length=l.bs.length+1-> ∀ i:Int,0<=i->i<l.ss.length->bT Tryz.prog 84 [mA i,.ref (lu l)] (λq=>q=mA (gV l i.toNat))):bT Tryz.prog 42 [gA l] (λq=>q= .tuple [.agg [mA (cg l).1.1,mA (cg l).1.2],mA (cg l).2]):=
 H5 l hl (cg l) (λi hi h1 h2=>(Dm l).trans (Ff (rs:=kP l) hi h1 h2)) (λh=>(Dm l).trans (BF (rs:=kP l) h)) (QP l hl hsw)
theorem Fg:b9 Tryz.prog 64 3 1 8 (.int .i64 0):=⟨aj,aj,aj⟩
theorem vW:aV Tryz.prog 3 false 1:=⟨aj,aj⟩
theorem Fh:aV Tryz.prog 64 false 1:=⟨aj,aj⟩
theorem Gt:aV Tryz.prog 9 false 1:=⟨aj,aj⟩
theorem Iw(o s:fM):bT Tryz.prog 97 [.agg (ei o),.ref (ei s)] (λq=>q=eI (o.nam.toList==s.nam.toList)):=by
 refine cA (fn:=Tryz.f97) 9 aj rfl aj bO ?_;intro ai ay hA ak;have am:al ai (.tmp 0)=_:=hA 0 _ rfl;have an:al ai (.tmp 1)=_:=hA 1 _ rfl;have ab:ay.length=0:=by rw [ak];rfl
 clear hA ak;refine ax<|at_<|aM (fD am rfl ab) trivial rfl (λaC ad=>?_)
 have af:=bS ad ab;simp only [pS,Value.cells,Nat.reduceAdd,ei]at af;have ah:=bR ad ab;have ah:_=1:=ah;clear ad;refine ar (aB aw) rfl<|bD (ag an) (ae aa) ?_;clear am an;intro aD ap au
 refine ao<|ax<|at_<|ar (aJ nK rfl au) rfl<|ar (az (aK Gt rfl af aa aA) eb) rfl ?_
 refine ar (az (cj nK rfl (ag ap)) eb) rfl ?_;refine ar (az (bL Gt rfl aa aA) eb) rfl ?_;refine ar (cX (ag aa) aa) rfl<|ar (aB aa) rfl<|bn aa ?_;clear ap au;intro aE av
 refine ao<|bm<|bX bp aj (aR av) (.ro _ rfl) ?_
 clear av af ah;rfl
theorem MV(o s:fM)(ho:o.acr.length<=1000000)(hs:s.acr.length<=1000000):bT Tryz.prog 98 [.agg (ei o),.ref (ei s)] (λq=>q=eI (iJ s o)):=by
 refine cA (fn:=Tryz.f98) 24 aj rfl aj bO ?_;intro av aL hA aD;have aE:al av (.tmp 0)=_:=hA 0 _ rfl;have aG:al av (.tmp 1)=_:=hA 1 _ rfl;have ap:aL.length=0:=by rw [aD];rfl
 clear hA aD;refine ax<|at_<|aM (fD aE rfl ap) trivial rfl (λaN au=>?_)
 have ad:=bS au ap;simp only [pS,Value.cells,Nat.reduceAdd,ei]at ad;have an:=bR au ap;have an:_=1:=an;clear au;refine ar (aB aw) rfl<|bD (ag aG) (ae aa) ?_;clear aE aG;intro aO af ah
 refine ao<|ax<|at_<|ar (az (cj jW rfl af) eb) rfl ?_
 refine ar (az (bL vW rfl aa aA) eb) rfl ?_;refine ar (aJ jW rfl (ag ah)) rfl<|ar (az (aK vW rfl ad aa aA) eb) rfl ?_
 refine ar (aJ kz rfl (ai ah)) rfl<|ar (az (aK Fh rfl ad aa aA) eb) rfl ?_
 refine ar (az (cx aa rfl Fg.1) ct) rfl ?_;refine ar (qX (ae (ag aa)) aa) rfl<|ar (c6 (ag (ai aa)) aa) rfl<|ar (ak aa) rfl<|bK aa (λab am=>?_) (λab am=>?_)
 ·replace am:=bt am;refine aF (aJ jW rfl (ag (ay ah))) ⟨_,rfl,ab⟩ rfl ?_;refine aF (az (aK vW rfl ad aa aA) eb) ⟨_,rfl,(ae ab)⟩ rfl ?_;refine aF (az (cj jW rfl (ai (ay af))) eb) ⟨_,rfl,(ag ab)⟩ rfl ?_;refine aF (az (bL vW rfl aa aA) eb) ⟨_,rfl,(ae (ag ab))⟩ rfl ?_;refine aF (az (cj kz rfl (ag (ai (ay af)))) eb) ⟨_,rfl,(ai ab)⟩ rfl ?_;refine aF (az (bL Fh rfl aa aA) eb) ⟨_,rfl,(ae (ai ab))⟩ rfl ?_;refine aF (az (cx aa rfl Fg.1) ct) ⟨_,rfl,(ag (ai ab))⟩ rfl ?_;refine aF (qX (ae (ag aa)) aa) ⟨_,rfl,(ae (ag (ai ab)))⟩ rfl ?_;refine aF (c6 (ag (ai aa)) aa) ⟨_,rfl,(ay ab)⟩ rfl ?_;refine ar (bq (ae (ay ab)) aa) rfl<|ar (aB aa) rfl<|bn aa ?_;clear ab af ah;intro aP aH
  refine ao<|bm<|bX bp aj (aR aH) (.ro _ rfl) ?_
  clear aH ad an
  (refine b7 ?_;simp only [iJ,decide_eq_true_eq,SV,true_iff,false_iff, <- wrap_eq];omega)
 replace am:=bf am;refine aC ⟨_,rfl,.inl ab⟩ rfl ?_;refine aC ⟨_,rfl,.inl (ae ab)⟩ rfl ?_;refine aC ⟨_,rfl,.inl (ag ab)⟩ rfl ?_;refine aC ⟨_,rfl,.inl (ae (ag ab))⟩ rfl ?_;refine aC ⟨_,rfl,.inl (ai ab)⟩ rfl ?_;refine aC ⟨_,rfl,.inl (ae (ai ab))⟩ rfl ?_;refine aC ⟨_,rfl,.inl (ag (ai ab))⟩ rfl ?_;refine aC ⟨_,rfl,.inl (ae (ag (ai ab)))⟩ rfl ?_;refine aC ⟨_,rfl,.inl (ay ab)⟩ rfl ?_;refine ar (br (ae (ay ab)) aw) rfl<|ar (aB aa) rfl<|bn aa ?_;clear ab af ah;intro aS aI
 refine ao<|bm<|bX bp aj (aR aI) (.ro _ rfl) ?_
 clear aI ad an
 (refine b7 ?_;simp only [iJ,decide_eq_true_eq,SV,true_iff,false_iff, <- wrap_eq];omega)
theorem H7(n:Int):bT Tryz.prog 100 [mA n] (λq=>q=eI (!fG n 20000)):=by
 refine cA (fn:=Tryz.f100) 6 aj rfl aj bO ?_;intro ah ai hA ab;have ad:al ah (.tmp 0)=_:=hA 0 _ rfl;have am:ai.length=0:=by rw [ab];rfl
 clear hA ab;refine ax<|at_<|ar (aB aw) rfl<|bn (ae ad) ?_;clear ad;intro an af
 refine ao<|ax<|at_<|ar (ak af) rfl<|ar (bI (aG aa aN) rfl (xe n) zk) rfl<|ar (dT aa) rfl<|ar (aB aa) rfl<|bn aa ?_;clear af;intro ap ag
 refine ao<|bm<|bX bp aj (aR ag) (.ro _ rfl) ?_
 clear ag am;rfl
theorem JU:∀ args w,(callFunc 100 args).run Tryz.prog w= .ok (.enter 100 args) w:=λ_ _=>by kernel_rfl
theorem JV:∀ args w,(callFunc 108 args).run Tryz.prog w= .ok (.enter 108 args) w:=λ_ _=>by kernel_rfl
theorem JX:∀ args w,(callFunc 109 args).run Tryz.prog w= .ok (.enter 109 args) w:=λ_ _=>by kernel_rfl
theorem Fj:b9 Tryz.prog 25 78 3 48 (.agg #[.string ByteArray.empty,.int .i64 0,.slice none 0 0]):=⟨aj,aj,aj⟩
theorem Fo:b9 Tryz.prog 64 3 1 8 (.int .i64 0):=⟨aj,aj,aj⟩
theorem QQ:aV Tryz.prog 3 false 1:=⟨aj,aj⟩
theorem PK:aV Tryz.prog 78 true 3:=⟨aj,aj⟩
def oz{α:Type}(p:α->Bool)(l:List α):Int:=match l.findIdx? p with
 | some i=>i
 | none=> -1
theorem Dn{α:Type}[Inhabited α]{g:α->Bool}{l:List α}{i:Nat}(hi:i<l.length)(h:g (l.getD i default)=true)(hn:∀ j:Nat,j<i->g (l.getD j default)=false):oz g l=i:=by
 have e:∀ j,(hj:j<l.length)->l.getD j default=l[j]:=λj hj=>by simp [SO,hj]
 unfold oz;rw [show l.findIdx? g=some i from List.findIdx?_eq_some_iff_getElem.2 ⟨hi,by rw [<- e i hi,h],λj hj=>by rw [<- e j ah,hn j hj];decide⟩]
theorem BG{α:Type}[Inhabited α]{g:α->Bool}{l:List α}(hn:∀ j:Nat,j<l.length->g (l.getD j default)=false):oz g l= -1:=by
 unfold oz;rw [List.findIdx?_eq_none_iff.2 λx hx=>by
  obtain⟨j,hj,rfl⟩:=TK hx;have:=hn j hj
  rwa [SO,SQ hj]at this]
theorem Dp{α:Type}(g:α->Bool)(l:List α):(0<=oz g l)↔l.any g=true:=by
 unfold oz;rw [T8];cases h:l.findIdx? g with
 | none=>
  rw [List.findIdx?_eq_none_iff]at h;refine⟨λq=>absurd q aD,λ⟨x,hx,hg⟩=>?_⟩;rw [h x hx]at hg;cases hg
 | some i=>
  obtain⟨hi,h1,_⟩:=List.findIdx?_eq_some_iff_getElem.1 h;exact⟨λ_=>⟨_,TQ hi,h1⟩,λ_=>by show(0:Int)<=(i:Int);omega⟩
theorem JY(ss:List fM)(c:AV)(p:fM->Bool)(hl:ss.length<=1000000)(hc:∀ i:Nat,i<ss.length->ng Tryz.prog c [.agg (ei (ss.getD i default))] (λq=>q=eI (p (ss.getD i default)))):
 bT Tryz.prog 108 [.row 3 (ss.map ei),c] (λq=>q=mA (oz p ss)):=by
 refine cA (fn:=Tryz.f108) 19 aj rfl aj bO ?_;intro aP ba hA aS;have aT:al aP (.tmp 0)=_:=hA 0 _ rfl;have aU:al aP (.tmp 1)=_:=hA 1 _ rfl;have bb:ba.length=0:=by rw [aS];rfl
 clear hA aS;refine ax<|at_<|ar (aB aw) rfl<|bD (ae aT) (ae aU) ?_;clear aT aU;intro bx af aV
 refine ao<|ax<|ax<|at_<|ar (ak af) rfl<|ar (az (cx aa rfl Fj.1) ct) rfl ?_
 refine ar (ak aw) rfl<|bu (ae (ag af)) (ae (ag aV)) (ae aa) aa ?_;clear af aV;intro am aX aZ a2 bc
 refine ao<|ca<|eL (S:=Int) (λi e mem=>(al e (.tmp 8)= .v (.int .i64 i))/\(al e (.tmp 0)=al am (.tmp 0))/\(al e (.tmp 1)=al am (.tmp 1))/\(al e (.tmp 7)=al am (.tmp 7))/\(mem.length=0)/\((0<=i/\i<=ss.length/\ ∀ j:Nat,j<i.toNat->p (ss.getD j default)=false))) (λi=>(ss.length - i).toNat) _ ⟨bc,rfl,rfl,rfl,bb,?_⟩ ?_
 ·(exact⟨ah,ah,λj h=>absurd h ah⟩)
 ·rintro i bz bA ⟨an,be,bg,bh,ap,hinv⟩;have a3:=be.trans aX;have a5:=bg.trans aZ;have au:=bh.trans a2
  (obtain⟨p1,p2,p3⟩:=hinv)
  refine ax<|at_<|ar (c6 an au) rfl<|ck (ae a3) (ae a5) (ae au) (ae an) aa ?_;clear a3 a5 au an;intro bB av ay aC ad aD
  refine ao<|ax<|bk aD (λab=>?_) (λab=>?_)
  ·replace ab:=bt ab;refine bF<|ao<|ax<|ca<|ax<|at_<|ar (ak ad) rfl<|ar (aB aa) rfl<|ck (ag av) (ag ay) aa (ag aC) (ag ad) ?_;clear av ay aC ad aD;intro bE aE aF aH a6 a7
   refine ao<|ax<|at_<|ar (ak aF) rfl<|ar (ak (ae aE)) rfl<|ar (ak (ag aH)) rfl<|ar (az (cE Fj (ae aa) aa ah (by(refine dq ?_;omega))) dY) rfl ?_
   refine ar (az (bL PK rfl aa aA) bQ) rfl ?_;refine ar (CH (ai aa) (aG aa aN) rfl (hc i.toNat ah)) rfl ?_;refine dH (ag (ai aE)) (ag (ai aF)) (ag (ai aH)) (ag (ai a6)) (ag (ai a7)) aa ?_;clear aE aF aH a6 a7;intro bH aI aJ aK aL aM aO;refine ao<|bk aO (λbj=>?_) (λbj=>?_)
   ·skip;refine ax<|at_<|ar (ak aK) rfl<|ar (aB aa) rfl<|bn aa ?_;clear aI aO aJ aK aL aM;intro bI a8
    refine ao<|bm<|cD<|bw<|bw<|cD<|bw<|bX bp aj (aR a8) (.ro _ rfl) ?_
    clear a8 ap
    (rw [Dn (i:=i.toNat) ah (by assumption) p3,Un p1])
   refine bF<|cG<|ao<|at_ ?_
   (refine ar (cf aM aw ?_) rfl ?_; · (unfold In64;omega))
   refine ar (ak aa) rfl<|bu (ag aI) (ag aJ) (ag aL) aa ?_;clear aI aO aJ aK aL aM;intro bJ bo bq br bv
   refine ao<|⟨_,⟨bv,(bo.trans aX.symm),(bq.trans aZ.symm),(br.trans a2.symm),ap,?_⟩,?_⟩
   ·(refine⟨ah,ah,λj hj=>?_⟩;by_cases hji:j<i.toNat;(exact p3 j hji);(rw [show j=i.toNat by omega];assumption))
   ·((try dsimp only);omega)
  replace ab:=bf ab;refine dJ<|cw<|cw<|dI<|ao<|ax<|at_<|ar (aB aw) rfl<|bn aa ?_;clear av ay aC ad aD;intro bK a9
  refine ao<|bm<|bX bp aj (aR a9) (.ro _ rfl) ?_
  clear a9 ap
  (rw [BG (λj hj=>p3 j ah)])
theorem AG(ss:List fM)(c:AV)(p:fM->Bool)(hro:cS c=true)(hl:ss.length<=1000000)(hc:∀ i:Nat,i<ss.length->ng Tryz.prog c [.agg (ei (ss.getD i default))] (λq=>q=eI (p (ss.getD i default)))):
 bT Tryz.prog 96 [.row 3 (ss.map ei),c] (λq=>q=eI (ss.any p)):=by
 refine cA (fn:=Tryz.f96) 9 aj rfl aj bO ?_;intro ab an hA ad;have af:al ab (.tmp 0)=_:=hA 0 _ rfl;have ag:al ab (.tmp 1)=_:=hA 1 _ rfl;have ap:an.length=0:=by rw [ad];rfl
 clear hA ad;refine ax<|at_<|ar (aB aw) rfl<|bD (ae af) (ae ag) ?_;clear af ag;intro au ah ai
 refine ao<|ax<|at_<|ar (ak ah) rfl<|ar (ak (ae ai)) rfl<|ar (bI (aG (ae aa) (aG aa aN)) (by(simp only [cS.roL,cS,Bool.and_true,UH];assumption)) (JY ss c p hl hc) JV) rfl ?_
 refine ar (lH aa aw) rfl<|ar (aB aa) rfl<|bn aa ?_;clear ah ai;intro av am
 refine ao<|bm<|bX bp aj (aR am) (.ro _ rfl) ?_
 clear am ap
 (refine b7 ?_;simp only [decide_eq_true_eq,Dp])
theorem JZ(l:List Int)(hl:l.length<=1000000):bT Tryz.prog 109 [.row 1 (l.map iE),.v (.func (.func 100) #[] #[])] (λq=>q=mA (oz (λn=> !fG n 20000) l)):=by
 refine cA (fn:=Tryz.f109) 19 aj rfl aj bO ?_;intro aS bb hA aT;have aU:al aS (.tmp 0)=_:=hA 0 _ rfl;have aV:al aS (.tmp 1)=_:=hA 1 _ rfl;have bc:bb.length=0:=by rw [aT];rfl
 clear hA aT;refine ax<|at_<|ar (aB aw) rfl<|bD (ae aU) (ae aV) ?_;clear aU aV;intro bx am aX
 refine ao<|ax<|ax<|at_<|ar (ak am) rfl<|ar (az (cx aa rfl Fo.1) ct) rfl ?_
 refine ar (ak aw) rfl<|bu (ae (ag am)) (ae (ag aX)) (ae aa) aa ?_;clear am aX;intro an aZ a2 a3 be
 refine ao<|ca<|eL (S:=Int) (λi e mem=>(al e (.tmp 8)= .v (.int .i64 i))/\(al e (.tmp 0)=al an (.tmp 0))/\(al e (.tmp 1)=al an (.tmp 1))/\(al e (.tmp 7)=al an (.tmp 7))/\(mem.length=0)/\((0<=i/\i<=l.length/\ ∀ j:Nat,j<i.toNat->(!fG (l.getD j default) 20000)=false))) (λi=>(l.length - i).toNat) _ ⟨be,rfl,rfl,rfl,bc,?_⟩ ?_
 ·(exact⟨ah,ah,λj h=>absurd h ah⟩)
 ·rintro i bz bA ⟨ap,bg,bh,bj,au,hinv⟩;have a5:=bg.trans aZ;have a6:=bh.trans a2;have av:=bj.trans a3
  (obtain⟨p1,p2,p3⟩:=hinv)
  refine ax<|at_<|ar (c6 ap av) rfl<|ck (ae a5) (ae a6) (ae av) (ae ap) aa ?_;clear a5 a6 av ap;intro bB ay aC aD af aE
  refine ao<|ax<|bk aE (λab=>?_) (λab=>?_)
  ·replace ab:=bt ab;refine bF<|ao<|ax<|ca<|ax<|at_<|ar (ak af) rfl<|ar (aB aa) rfl<|ck (ag ay) (ag aC) aa (ag aD) (ag af) ?_;clear ay aC aD af aE;intro bE aF aH aI a7 a8
   refine ao<|ax<|at_<|ar (ak aH) rfl<|ar (ak (ae aF)) rfl<|ar (ak (ag aI)) rfl<|ar (az (cE Fo (ae aa) aa ah (by(refine dq ?_;omega))) bQ) rfl ?_
   refine ar (az (bL QQ rfl aa aA) bQ) rfl ?_;refine ar (jT (ai aa) (aG aa aN) rfl (H7 _) JU) rfl<|dH (ag (ai aF)) (ag (ai aH)) (ag (ai aI)) (ag (ai a7)) (ag (ai a8)) aa ?_;clear aF aH aI a7 a8;intro bH aJ aK aL aM aO aP
   refine ao<|bk aP (λad=>?_) (λad=>?_)
   ·replace ad:=cT ad;refine ax<|at_<|ar (ak aL) rfl<|ar (aB aa) rfl<|bn aa ?_;clear aJ aP aK aL aM aO;intro bI a9
    refine ao<|bm<|cD<|bw<|bw<|cD<|bw<|bX bp aj (aR a9) (.ro _ rfl) ?_
    clear a9 au
    (rw [Dn (i:=i.toNat) ah (by rw [‹fG _ _=false›];rfl) p3,Un p1])
   replace ad:=di ad;refine bF<|cG<|ao<|at_ ?_
   (refine ar (cf aO aw ?_) rfl ?_; · (unfold In64;omega))
   refine ar (ak aa) rfl<|bu (ag aJ) (ag aK) (ag aM) aa ?_;clear aJ aP aK aL aM aO;intro bJ bo bq br bv
   refine ao<|⟨_,⟨bv,(bo.trans aZ.symm),(bq.trans a2.symm),(br.trans a3.symm),au,?_⟩,?_⟩
   ·(refine⟨ah,ah,λj hj=>?_⟩;by_cases hji:j<i.toNat;(exact p3 j hji);(rw [show j=i.toNat by omega];rw [‹fG _ _=true›];rfl))
   ·((try dsimp only);omega)
  replace ab:=bf ab;refine dJ<|cw<|cw<|dI<|ao<|ax<|at_<|ar (aB aw) rfl<|bn aa ?_;clear ay aC aD af aE;intro bK ba
  refine ao<|bm<|bX bp aj (aR ba) (.ro _ rfl) ?_
  clear ba au
  (rw [BG (λj hj=>p3 j ah)])
theorem H8(l:List Int)(hl:l.length<=1000000):bT Tryz.prog 99 [.row 1 (l.map iE),.v (.func (.func 100) #[] #[])] (λq=>q=eI (l.any (λn=> !fG n 20000))):=by
 refine cA (fn:=Tryz.f99) 9 aj rfl aj bO ?_;intro ab an hA ad;have af:al ab (.tmp 0)=_:=hA 0 _ rfl;have ag:al ab (.tmp 1)=_:=hA 1 _ rfl;have ap:an.length=0:=by rw [ad];rfl
 clear hA ad;refine ax<|at_<|ar (aB aw) rfl<|bD (ae af) (ae ag) ?_;clear af ag;intro au ah ai
 refine ao<|ax<|at_<|ar (ak ah) rfl<|ar (ak (ae ai)) rfl<|ar (bI (aG (ae aa) (aG aa aN)) rfl (JZ l hl) JX) rfl<|ar (lH aa aw) rfl<|ar (aB aa) rfl<|bn aa ?_;clear ah ai;intro av am
 refine ao<|bm<|bX bp aj (aR am) (.ro _ rfl) ?_
 clear am ap
 (refine b7 ?_;simp only [decide_eq_true_eq,Dp])
theorem MW:∀ args w,(callFunc 85 args).run Tryz.prog w= .ok (.enter 85 args) w:=λ_ _=>by kernel_rfl
theorem Dq:∀ args w,(callFunc 96 args).run Tryz.prog w= .ok (.enter 96 args) w:=λ_ _=>by kernel_rfl
theorem MX:∀ args w,(callFunc 99 args).run Tryz.prog w= .ok (.enter 99 args) w:=λ_ _=>by kernel_rfl
theorem MY:b9 Tryz.prog 114 30 1 8 (.int .i64 0):=⟨aj,aj,aj⟩
theorem Fp:b9 Tryz.prog 23 74 4 32 (.agg #[.int .i64 0,.int .i64 0,.int .i64 0,.int .i64 0]):=⟨aj,aj,aj⟩
theorem Fq:b9 Tryz.prog 25 78 3 48 (.agg #[.string ByteArray.empty,.int .i64 0,.slice none 0 0]):=⟨aj,aj,aj⟩
theorem Ft:b9 Tryz.prog 64 3 1 8 (.int .i64 0):=⟨aj,aj,aj⟩
theorem Fv:aV Tryz.prog 23 false 1:=⟨aj,aj⟩
theorem Fz:aV Tryz.prog 25 false 1:=⟨aj,aj⟩
theorem PL:aV Tryz.prog 27 true 4:=⟨aj,aj⟩
theorem Gu:aV Tryz.prog 3 false 1:=⟨aj,aj⟩
theorem yU:aV Tryz.prog 64 false 1:=⟨aj,aj⟩
theorem PM:aV Tryz.prog 78 true 3:=⟨aj,aj⟩
theorem QR:aV Tryz.prog 9 false 1:=⟨aj,aj⟩
theorem tD{α:Type}(f:α->List AV)(l:List α)(a:Nat):(l.map f).take a=(l.take a).map f:=List.map_take.symm
theorem QS(o s:fM):ng Tryz.prog (.clo (.func 97) [] [.ref (ei s)]) [.agg (ei o)] (λq=>q=eI (o.nam.toList==s.nam.toList)):=⟨_,_,_,rfl,rfl,rfl,λ_ _=>by kernel_rfl,Iw o s⟩
theorem QT(o s:fM)(ho:o.acr.length<=1000000)(hs:s.acr.length<=1000000):ng Tryz.prog (.clo (.func 98) [] [.ref (ei s)]) [.agg (ei o)] (λq=>q=eI (iJ s o)):=⟨_,_,_,rfl,rfl,rfl,λ_ _=>by kernel_rfl,MV o s ho hs⟩
theorem Ix(ss:List fM)(k:Nat)(s:fM)(hl:(ss.take k).length <=1000000):bT Tryz.prog 96 [.row 3 ((ss.map ei).take k),.clo (.func 97) [] [.ref (ei s)]] (λq=>q=eI ((ss.take k).any (λo=>o.nam.toList==s.nam.toList))):=by
 rw [tD];exact AG (ss.take k) _ _ rfl hl λj _=>QS ((ss.take k).getD j default) s
theorem Iy(ss:List fM)(k:Nat)(s:fM)(hl:(ss.take k).length <=1000000)(ho:∀ j:Nat,((ss.take k).getD j default).acr.length <=1000000)(hs:s.acr.length<=1000000):bT Tryz.prog 96 [.row 3 ((ss.map ei).take k),.clo (.func 98) [] [.ref (ei s)]] (λq=>q=eI ((ss.take k).any (λo=>iJ s o))):=by
 rw [tD];exact AG (ss.take k) _ (λo=>iJ s o) rfl hl λj _=>QT ((ss.take k).getD j default) s (ho j) hs
def ry(l:bN)(s:fM):Bool:=decide (1<=s.fst/\s.fst<=(l.js.length:Int) - 2/\(s.acr.length:Int)<=l.js.length - 1 - s.fst)
theorem QU{l:bN}{s:fM}(hj:l.js.length=l.bs.length+1)(h0:s.acr.length≠0):ry l s=eC s.fst 1 (l.bs.length - s.acr.length):=by
 rw [Ud];simp only [ry,eC,SS,decide_eq_true_eq];omega
theorem J0{l:bN}{i:Nat}(hj:l.js.length=l.bs.length+1):jA [dW (dX (l.ss.getD i default).nam) 4,dW (!(l.ss.take i).any (λo=>o.nam.toList==(l.ss.getD i default).nam.toList)) 5,dW (decide ((0:Int)<(l.ss.getD i default).acr.length)) 10,dW (ry l (l.ss.getD i default)) 6,
 dW (!(l.ss.getD i default).acr.any (λn=> !fG n 20000)) 2,dW (!(l.ss.take i).any (λo=>iJ (l.ss.getD i default) o)) 13]=gV l i:=by
 unfold gV;generalize l.ss.getD i default=s;generalize (l.ss.take i).any (λo=>o.nam.toList==s.nam.toList)=b1;generalize (l.ss.take i).any (λo=>iJ s o)=b2;generalize s.acr.any (λn=> !fG n 20000)=b3
 by_cases h0:s.acr.length=0
 ·rw [decide_eq_false (p:=(0:Int)<s.acr.length) ah,if_pos h0];cases dX s.nam<;>cases b1<;>simp [jA,dW]
 ·rw [decide_eq_true (p:=(0:Int)<s.acr.length) ah,if_neg h0,QU hj h0];cases dX s.nam<;>cases b1<;>cases eC s.fst 1 (l.bs.length - s.acr.length)<;>cases b3<;>cases b2<;>simp [jA,dW]
theorem I8(l:bN)(hl:fw l)(hj:l.js.length=l.bs.length+1)(i:Int)(hi:0<=i/\i<l.ss.length):bT Tryz.prog 85 [gA l,mA i] (λq=>q=mA (gV l i.toNat)):=by
 obtain⟨h1,h2,h3,h4,h5⟩:=id hl;have hs:=hl.at i.toNat;have hoat:∀ j:Nat,((l.ss.take i.toNat).getD j default).acr.length <=1000000:=λj=>by
  by_cases hjl:j<(l.ss.take i.toNat).length
  ·exact(h5 _ (Uc (by rw [SO,SQ hjl];exact TQ hjl))).2
  ·rw [SO,S5 ah];decide
 have htl:(l.ss.take i.toNat).length <=1000000:=by rw [TF];omega
 refine cA (fn:=Tryz.f85) 69 aj rfl aj bO ?_;intro bc bY hA be;have bf:al bc (.tmp 0)=_:=hA 0 _ rfl;have bg:al bc (.tmp 1)=_:=hA 1 _ rfl;have aT:bY.length=0:=by rw [be];rfl
 clear hA be;refine ax<|at_<|aM (fD bf rfl aT) trivial rfl (λcq aU=>?_)
 have aV:=bS aU aT;have af:=bR aU aT;have af:_=1:=af;clear aU;refine ar (aB aw) rfl<|bD (ag bg) (ae aa) ?_;clear bf bg;intro cr aX aZ
 refine ao<|ax<|at_<|ar (aJ gu rfl aZ) rfl<|ar (az (aK Fz rfl aV aa aA) hZ) rfl ?_
 refine ar (ak (ag aX)) rfl<|ar (az (cE Fq (ae aa) aa ah (by(refine dq ?_;omega))) hZ) rfl ?_
 refine ar (az (bL PM rfl aa aA) hZ) rfl ?_;refine aM (cJ ra rfl af) trivial rfl (λcu ap=>?_);have av:=bS ap af;simp only [pS,Value.cells,Nat.reduceAdd,ei,tD]at av;have bj:=aI ap aV;have a2:=bR ap af;have a2:_=2:=a2;clear ap aV;refine aM (bV aa (ae aa) rfl rfl av rh rfl aA) trivial rfl (λcv aO=>?_);have bk:=bo aO av;simp only [pS,Value.cells,Nat.reduceAdd,ei,tD]at bk;have bv:=au aO bj aD;have bZ:=bh aO a2;clear aO av bj;refine bB (aE (ag (ai aX))) (aE (ag (ai aZ))) (aE aa) ?_;clear aX aZ;intro cw bw a3 bx;refine ao<|ax<|at_<|ar (aJ gu rfl a3) rfl<|ar (az (aK Fz rfl bv aa aA) hZ) rfl ?_
 refine ar (ak (ag bw)) rfl<|ar (F5 Fq (ae aa) aa ah dC) rfl ?_
 refine ar (aB aa) rfl<|bB (ae (ai a3)) (ae (ai bx)) aa ?_;clear bw a3 bx;intro cy b0 b1 b2
 refine ao<|ax<|Jt b1 bk dY (λb6 a5 a6 aP=>?_)
 have a7:=au a6 bv aD;have b8:=bh a6 bZ;have bA:al a5 (.tmp 2)=_:=(congrArg (λq=>al q (.tmp 2)) aP).trans (ae b0);have a8:al a5 (.tmp 5)=_:=(congrArg (λq=>al q (.tmp 5)) aP).trans aa;have a9:al a5 (.tmp 6)=_:=(congrArg (λq=>al q (.tmp 6)) aP).trans (ae b2);clear a6 aP;refine at_<|ar (ak a9) rfl<|ar (kT aN (aG (ae a8) aN)) rfl<|ar (bI (aG (ae aa) (aG aa aN)) rfl (Ix l.ss i.toNat (l.ss.getD i.toNat default) htl) Dq) rfl<|ar (aB aa) rfl<|bu (ai bA) (ai a8) (ai a9) aa ?_;clear bA a8 a9;intro ba bE ad am an
 refine ao<|ax<|fZ (λe mem=>(al e (.tmp 8)= .v (.bool (ry l (l.ss.getD i.toNat default))))/\(al e (.tmp 5)=al ba (.tmp 5))/\(al e (.tmp 6)=al ba (.tmp 6))/\(al e (.tmp 7)=al ba (.tmp 7))/\b6=mem) ?_ ?_
 ·
  refine at_<|ar (az (cj jW rfl ad) hZ) rfl ?_
  refine ar (az (bL Gu rfl aa aA) hZ) rfl ?_;refine ar (aJ fk rfl (ag bE)) rfl<|ar (az (aK Fv rfl a7 aa aA) hZ) rfl ?_
  refine ar (az (cx aa rfl Fp.1) ct) rfl ?_
  (refine ar (eU aa aw ?_) rfl ?_; · (unfold In64;omega))
  refine ar (bI (aG (ai aa) (aG aw (aG aa aN))) rfl (mG _ _ _) mU) rfl<|ar (ak aa) rfl<|bK aa (λab b9=>?_) (λab b9=>?_)
  ·skip;refine aF (az (cj kz rfl (ay ad)) hZ) ⟨_,rfl,ab⟩ rfl ?_;refine aF (az (bL yU rfl aa aA) hZ) ⟨_,rfl,(ae ab)⟩ rfl ?_;refine aF (az (cx aa rfl Ft.1) ct) ⟨_,rfl,(ag ab)⟩ rfl ?_;refine aF (aJ fk rfl (ae (ag (ay bE)))) ⟨_,rfl,(ae (ag ab))⟩ rfl ?_;refine aF (az (aK Fv rfl a7 aa aA) hZ) ⟨_,rfl,(ai ab)⟩ rfl ?_;refine aF (az (cx aa rfl Fp.1) ct) ⟨_,rfl,(ae (ai ab))⟩ rfl ?_
   (refine aF (eU aa aw ?_) ⟨_,rfl,(ag (ai ab))⟩ rfl ?_; · (unfold In64;omega))
   refine aF (az (cj jW rfl (ae (ag (ai (ay ad))))) hZ) ⟨_,rfl,(ae (ag (ai ab)))⟩ rfl ?_;refine aF (az (bL Gu rfl aa aA) hZ) ⟨_,rfl,(ay ab)⟩ rfl ?_;refine aF (sP (ag aa) aa) ⟨_,rfl,(ae (ay ab))⟩ rfl ?_;refine aF (gw (ae (ag (ai aa))) aa) ⟨_,rfl,(ag (ay ab))⟩ rfl ?_;refine ar (bq (ae (ag (ay ab))) aa) rfl<|ar (aB aa) rfl<|bu (ae (ai (aH ad))) (ae (ai (aH am))) (ae (ai (aH an))) aa ?_;intro cz ca cb cc cd
   refine ao ⟨(cd).trans (by(refine b7 ?_;simp only [ry,eC,wrap_eq,SS,Bool.and_eq_false_imp,decide_eq_true_eq,decide_eq_false_iff_not,SV,true_iff,false_iff]at*;(try unfold wrap64 at*);omega)),(ca).trans (ad).symm,(cb).trans (am).symm,(cc).trans (an).symm,rfl⟩
  refine aC ⟨_,rfl,.inl ab⟩ rfl ?_;refine aC ⟨_,rfl,.inl (ae ab)⟩ rfl ?_;refine aC ⟨_,rfl,.inl (ag ab)⟩ rfl ?_;refine aC ⟨_,rfl,.inl (ae (ag ab))⟩ rfl ?_;refine aC ⟨_,rfl,.inl (ai ab)⟩ rfl ?_;refine aC ⟨_,rfl,.inl (ae (ai ab))⟩ rfl ?_;refine aC ⟨_,rfl,.inl (ag (ai ab))⟩ rfl ?_;refine aC ⟨_,rfl,.inl (ae (ag (ai ab)))⟩ rfl ?_;refine aC ⟨_,rfl,.inl (ay ab)⟩ rfl ?_;refine aC ⟨_,rfl,.inl (ae (ay ab))⟩ rfl ?_;refine aC ⟨_,rfl,.inl (ag (ay ab))⟩ rfl ?_;refine ar (br (ae (ag (ay ab))) aw) rfl<|ar (aB aa) rfl<|bu (ae (ai (aH ad))) (ae (ai (aH am))) (ae (ai (aH an))) aa ?_;intro cB ce cf cg ci
  refine ao ⟨(ci).trans (by(refine b7 ?_;simp only [ry,eC,wrap_eq,SS,Bool.and_eq_false_imp,decide_eq_true_eq,decide_eq_false_iff_not,SV,true_iff,false_iff]at*;(try unfold wrap64 at*);omega)),(ce).trans (ad).symm,(cf).trans (am).symm,(cg).trans (an).symm,rfl⟩
 ·rintro cC _ ⟨bF,ck,cm,co,rfl⟩;have bb:=ck.trans ad;have bH:=cm.trans am;have bJ:=co.trans an;refine ax<|at_<|ar (ak bH) rfl<|ar (kT aN (aG (ae bb) aN)) rfl<|ar (bI (aG (ae aa) (aG aa aN)) rfl (Iy l.ss i.toNat (l.ss.getD i.toNat default) htl hoat hs.2) Dq) rfl<|ar (aB aa) rfl<|bu (ai bb) (ai bJ) (ai bF) aa ?_;clear bb bH bJ bF;intro cD aS bM bP bQ
  refine ao<|ax<|eu 25 aj aj aj aj ?_
  refine dr (az (cj nK rfl aS) hZ) rfl ?_;refine dr (az (bL QR rfl aa aA) hZ) rfl ?_;refine dr (bI (aG aa aN) rfl (tP _ ah) vD) rfl ?_;refine dr (bI (aG aa (aG aw aN)) rfl (fJ _ _) fK) rfl<|dr (ak (ai bM)) rfl<|dr (dT aa) rfl<|dr (bI (aG aa (aG aw aN)) rfl (fJ _ _) fK) rfl<|dr (az (cj kz rfl (ae (ag (ai aS)))) hZ) rfl ?_
  refine dr (az (bL yU rfl aa aA) hZ) rfl ?_;refine dr (az (cx aa rfl Ft.1) ct) rfl ?_;refine dr (eF aa aw) rfl<|dr (bI (aG aa (aG aw aN)) rfl (fJ _ _) fK) rfl<|dr (ak (ai (ay bP))) rfl<|dr (bI (aG aa (aG aw aN)) rfl (fJ _ _) fK) rfl<|dr (az (cj kz rfl (ag (ai (ay aS)))) hZ) rfl ?_
  refine dr (az (bL yU rfl aa aA) hZ) rfl ?_;refine dr (bI (aG aa (aG Aa aN)) rfl (H8 _ ah) MX) rfl ?_;refine dr (dT aa) rfl<|dr (bI (aG aa (aG aw aN)) rfl (fJ _ _) fK) rfl<|dr (ak (ae (ag (aH bQ)))) rfl<|dr (dT aa) rfl<|dr (bI (aG aa (aG aw aN)) rfl (fJ _ _) fK) rfl<|dr (ep MY (bz (ag (aH aa)) (bz (ae (ag (ai (ay aa)))) (bz (ag (ay aa)) (bz (ay aa) (bz (ae (ag aa)) (bz aa bW)))))) rfl rfl rfl rfl) rfl<|dr (bI (aG aa aN) rfl (tY [_,_,_,_,_,_] aL) vC) rfl ?_
  refine dr (aB aa) rfl<|dE<|bn aa ?_;clear aS bM bP bQ;intro cF bU
  refine ao<|bm<|bX bp aj (aR bU) (.ro _ rfl) ?_
  clear bU a7 b8
  (rw [<- J0 hj])
theorem MZ(l:bN)(hl:fw l)(hj:l.js.length=l.bs.length+1)(i:Int)(hi:0<=i/\i<l.ss.length):bT Tryz.prog 84 [mA i,.ref (lu l)] (λq=>q=mA (gV l i.toNat)):=by
 refine cA (fn:=Tryz.f84) 7 aj rfl aj bO ?_;intro ab an hA ad;have af:al ab (.tmp 0)=_:=hA 0 _ rfl;have ag:al ab (.tmp 1)=_:=hA 1 _ rfl;have ap:an.length=0:=by rw [ad];rfl
 clear hA ad;refine ax<|at_<|ar (aB aw) rfl<|bD (ae af) (ae ag) ?_;clear af ag;intro au ah ai
 refine ao<|ax<|at_<|ar (az (bL PL rfl ai aA) bQ) rfl ?_
 refine ar (ak (ae ah)) rfl<|ar (bI (aG (ae aa) (aG aa aN)) rfl (I8 l hl hj i hi) MW) rfl<|ar (aB aa) rfl<|bn aa ?_;clear ah ai;intro av am
 refine ao<|bm<|bX bp aj (aR am) (.ro _ rfl) ?_
 clear am ap;rfl
theorem w8(l:bN)(hl:fw l):bT Tryz.prog 42 [gA l] (λq=>q= .tuple [.agg [mA (cg l).1.1,mA (cg l).1.2],mA (cg l).2]):=
 H6 l hl λhj i h0 h1=>MZ l hl hj i ⟨h0,h1⟩
end Go.Proofs.YtfoaiidcfkmneaaGreatDoor
namespace Go.Proofs.YtfoaiidcfkmneaaGreatDoor
open Go Go.RowKit Go.Proofs Go.Lib
theorem M3:b9 Tryz.prog 23 74 4 32 (.agg #[.int .i64 0,.int .i64 0,.int .i64 0,.int .i64 0]):=⟨aj,aj,aj⟩
theorem M4:aV Tryz.prog 23 false 1:=⟨aj,aj⟩
theorem M5:aV Tryz.prog 27 true 4:=⟨aj,aj⟩
theorem PN:aV Tryz.prog 9 false 1:=⟨aj,aj⟩
def RS.dQ(st:RS):bN:=⟨st.nam,st.js,st.bs,st.ss⟩
theorem I9{M0:List Ob}{n:Nat}(hn:M0.length=n){st:RS}{H:RH}{lo b:Nat}(hR:fm st H lo M0 b)(hs:fw st.dQ)(hl:(cg st.dQ).2=0)(hj:st.js≠ [])(hk:(st.kind.toList==aU.toList)=false):
 ew Tryz.prog 17 [.ptr b 0] M0 (λr m'=>r= .tuple []/\bP M0 m' (λ_=>False)) (λ_ _=>False):=by
 have hb:=hR.box;have hJ:=hR.J;have hB:=hR.B;have hS:=hR.S;have hM:=hR.M;have hbn:=cL hb hn;have hJn:=cL hJ hn;have hBn:=cL hB hn;have hSn:=cL hS hn;have hMn:=cL hM hn;obtain⟨⟨x1,x2,x3,x4⟩,⟨x5,x6,x7⟩,x8,x9,x10⟩:=hR.ne;have hjl:=Tt.2 hj;have hK:bP M0 M0 (λ_=>False):=bP.refl _ _;refine gr (fn:=Tryz.f17) 58 aj rfl aj bO ?_;intro be an hA af;have aH:al be (.tmp 0)=_:=hA 0 _ rfl;have aP:an.length=n:=by rw [af];exact hn
 have ap:an[b]? =_:=(congrArg (λq=>q[b]?) af).trans hb;simp only [pS,Value.cells,Nat.reduceAdd,aW,aY,aQ]at ap;have aL:an[H.jJ]? =_:=(congrArg (λq=>q[H.jJ]?) af).trans hJ;have aR:an[H.jB]? =_:=(congrArg (λq=>q[H.jB]?) af).trans hB;have aS:an[H.jS]? =_:=(congrArg (λq=>q[H.jS]?) af).trans hS;have aX:an[H.jM]? =_:=(congrArg (λq=>q[H.jM]?) af).trans hM;have aZ:bP M0 an ((λ_=>False)):=by rw [af];exact bP.refl _ _
 clear hA af;refine ax<|ax<|at_<|ar (ak aH) rfl<|ar (bU aa) rfl<|ar (aJ ky rfl aa) rfl<|ar (aJ fk rfl aa) rfl<|ar (az (aK M4 rfl ap aa aA) du) rfl ?_
 refine ar (az (tN aa aL rfl M3.1) ct) rfl ?_;refine ar (dN aa aw) rfl ?_;refine ar (ak aa) rfl<|bK aa (λam av=>?_) (λam av=>?_)
 ·replace av:=bt av;exfalso;omega
 replace av:=bf av;refine aF (ak (ay aH)) ⟨_,rfl,am⟩ rfl ?_;refine aF (bU aa) ⟨_,rfl,(ae am)⟩ rfl ?_;refine aF (aJ eS rfl aa) ⟨_,rfl,(ag am)⟩ rfl ?_;refine aF (az (aK PN rfl ap aa aA) du) ⟨_,rfl,(ae (ag am))⟩ rfl ?_;refine aF (cX aa aw) ⟨_,rfl,(ai am)⟩ rfl ?_;refine ar (br (ae (ai am)) aa) rfl<|bD (ag (ai (ay aH))) aa ?_;clear am aH;intro bq aT a2
 refine ao<|bk a2 (λa3=>?_) (λa3=>?_)
 ·(exact absurd (hk.symm.trans a3) aD)
 refine bF<|ao<|ax<|at_<|ar (ak aT) rfl<|ar (bU aa) rfl<|ar (aJ ky rfl aa) rfl<|ar (az (aK M5 rfl ap aa aA) du) rfl ?_
 refine ar (CG (aG aa aN) (cQ (k9 (cQ (.ro _ rfl) (cQ (.own _ _ _ _ aL) (cQ (.own _ _ _ _ aR) (cQ (.own _ _ _ _ aS) gG))))) gG) rfl (w8 st.dQ hs) zg) rfl<|ar (ak aa) rfl<|ar (cF aa rfl) rfl<|ar (cF (ae aa) rfl) rfl<|aM (cJ re rfl aP) trivial rfl (λbv ab=>?_)
 have aO:=bS ab aP;simp only [pS,Value.cells,Nat.reduceAdd,aW,aY,aQ]at aO;have a5:=aI ab ap;have a6:=aI ab aL;have a7:=aI ab aR;have a8:=aI ab aS;have a9:=aI ab aX;have ba:=RestR.aI ab aZ;have bg:=bR ab aP;clear ab ap aL aR aS aX aZ;refine aM (bV aa (ag aa) rfl rfl aO jK rfl aA) trivial rfl (λbx ad=>?_);have bj:=bo ad aO;simp only [pS,Value.cells,Nat.reduceAdd,aW,aY,aQ]at bj;have bz:=au ad a5 ah;have bA:=au ad a6 ah;have bE:=au ad a7 ah;have bH:=au ad a8 ah;have bI:=au ad a9 ah;have bn:=RestR.au ad ba ey;have bJ:=bh ad bg;clear ad aO a5 a6 a7 a8 a9 ba;refine ar (aB (aE (ae aa))) rfl<|bB (ae (aE (ae (ay aT)))) (ae (aE aa)) aa ?_;clear aT a2;intro bL bb bc aV
 refine ao<|ax<|ax<|at_<|ar (ak aV) rfl<|ar (dN aa aw) rfl ?_
 refine bu (ag bb) (ag bc) (ag aV) aa ?_;clear bb bc aV;intro bM bN bQ bT bp;refine ao<|bk bp (λaC=>?_) (λaC=>?_)
 ·replace aC:=bt aC;refine bm<|bw<|⟨_,pK aj,?_⟩
  exact⟨rfl,bn⟩
 ·replace aC:=bf aC;exfalso;omega
theorem J1:(Tryz.prog.info? 105).bind (·.zero)=some (.agg #[.string ByteArray.empty,.string ByteArray.empty,.string ByteArray.empty,.string ByteArray.empty]):=by kernel_rfl
theorem J3:Tryz.prog.underlying 105=some (.array 4 9):=by kernel_rfl
theorem J4:(Tryz.prog.info? 9).map (·.size)=some 1:=by kernel_rfl
theorem Dt:b9 Tryz.prog 23 74 4 32 (.agg #[.int .i64 0,.int .i64 0,.int .i64 0,.int .i64 0]):=⟨aj,aj,aj⟩
theorem M6:b9 Tryz.prog 64 3 1 8 (.int .i64 0):=⟨aj,aj,aj⟩
theorem Du:aV Tryz.prog 23 false 1:=⟨aj,aj⟩
theorem M7:aV Tryz.prog 27 true 4:=⟨aj,aj⟩
theorem sE:aV Tryz.prog 3 false 1:=⟨aj,aj⟩
theorem M8:aV Tryz.prog 51 false 1:=⟨aj,aj⟩
theorem FA:aV Tryz.prog 9 false 1:=⟨aj,aj⟩
def lQ(k:Int):ByteArray:=if k=1 then bc else if k=2 then aU else if k=3 then aX else bj
theorem RF:wF Tryz.prog 105 4 9 false 1:=⟨aj,aj,aj⟩
theorem PO{k:Int}(h0:0<=k)(h3:k<=3): [[AV.v (.string bj)],[AV.v (.string bc)],[AV.v (.string aU)],[AV.v (.string aX)]][k.toNat]? =some [AV.v (.string (lQ k))]:=by
 have:k=0\/k=1\/k=2\/k=3:=by omega
 rcases this with rfl|rfl|rfl|rfl<;>rfl
section
variable {M0:List Ob} {n:Nat} (hn:M0.length=n) {st:RS} {H:RH} {lo b:Nat} (hR:fm st H lo M0 b)
include hn hR
theorem HM(hc: -1000000000<=st.cnt/\st.cnt<=1000000000)(h:st.js.length=0\/(st.kind.toList==(⟨#[98,101,97,109]⟩:ByteArray).toList)=true):
 ew Tryz.prog 17 [.ptr b 0] M0 (λ_ _=>False) (λv m'=>v=gp (st.cnt+1) 1 6/\bP M0 m' (λj=>j=b)):=by
 have hb:=hR.box;have hJ:=hR.J;have hbn:=cL hb hn;have hJn:=cL hJ hn;obtain⟨⟨x1,x2,x3,x4⟩,⟨x5,x6,x7⟩,x8,x9,x10⟩:=hR.ne;refine gr (fn:=Tryz.f17) 58 aj rfl aj bO ?_;intro aX aD hA am;have af:al aX (.tmp 0)=_:=hA 0 _ rfl;have aO:aD.length=n:=by rw [am];exact hn
 have ad:aD[b]? =_:=(congrArg (λq=>q[b]?) am).trans hb;simp only [pS,Value.cells,Nat.reduceAdd,aW,aY,aQ]at ad;have an:aD[H.jJ]? =_:=(congrArg (λq=>q[H.jJ]?) am).trans hJ;have aH:bP M0 aD (λj=>j=b):=by rw [am];exact bP.refl _ _
 clear hA am;refine ax<|ax<|at_<|ar (ak af) rfl<|ar (bU aa) rfl<|ar (aJ ky rfl aa) rfl<|ar (aJ fk rfl aa) rfl<|ar (az (aK Du rfl ad aa aA) du) rfl ?_
 refine ar (az (tN aa an rfl Dt.1) ct) rfl ?_;refine ar (dN aa aw) rfl ?_;refine ar (ak aa) rfl<|bK aa (λab ap=>?_) (λab ap=>?_)
 ·replace ap:=bt ap;refine aC ⟨_,rfl,.inl ab⟩ rfl ?_;refine aC ⟨_,rfl,.inl (ae ab)⟩ rfl ?_;refine aC ⟨_,rfl,.inl (ag ab)⟩ rfl ?_;refine aC ⟨_,rfl,.inl (ae (ag ab))⟩ rfl ?_;refine aC ⟨_,rfl,.inl (ai ab)⟩ rfl ?_;refine ar (bq (ae (ai ab)) aw) rfl<|bD (ag (ai (ay af))) aa ?_;clear ab af;intro a9 aI aP
  refine ao<|lA aP<|ax<|at_<|ar (ak aI) rfl<|ar (bU aa) rfl<|ar (aJ iU rfl aa) rfl<|ar (az (aK sE rfl ad aa aA) du) rfl ?_
  (refine ar (cf aa aw ?_) rfl ?_; · (unfold In64;omega))
  refine ar (bU (ai aa)) rfl<|ar (aJ iU rfl aa) rfl<|aM (bV aa (ag aa) rfl rfl ad iZ rfl aA) trivial rfl (λba av=>?_)
  have aR:=bo av ad;simp only [pS,Value.cells,Nat.reduceAdd,aW,aY,aQ]at aR;have bb:=au av an ah;have aZ:=RestR.au av aH (λhj_=>by rfl);have a2:=bh av aO;clear av ad an aH;refine bn (aE (ae (ag (ai aI)))) ?_;clear aI aP;intro bc a3;refine ao<|at_<|ar (ak a3) rfl<|dn (ix (last:=st.last) (ws:=st.ws) (cnt:=st.cnt+1) a2 aR _ _) (aG aa (aG aw (aG aw aN))) iy trivial rfl (λ_ _ h=>h.elim) (λbe bg aS=>?_)
  repeat (refine eG ?_)
  exact⟨_,rfl,aS.1,aZ.trans aS.2 iV⟩
 replace ap:=bf ap;refine aF (ak (ay af)) ⟨_,rfl,ab⟩ rfl ?_;refine aF (bU aa) ⟨_,rfl,(ae ab)⟩ rfl ?_;refine aF (aJ eS rfl aa) ⟨_,rfl,(ag ab)⟩ rfl ?_;refine aF (az (aK FA rfl ad aa aA) du) ⟨_,rfl,(ae (ag ab))⟩ rfl ?_;refine aF (cX aa aw) ⟨_,rfl,(ai ab)⟩ rfl ?_;refine ar (br (ae (ai ab)) aa) rfl<|bD (ag (ai (ay af))) aa ?_;clear ab af;intro bj aL aT
 refine ao<|bk aT (λa5=>?_) (λa5=>?_)
 ·skip;refine ax<|at_<|ar (ak aL) rfl<|ar (bU aa) rfl<|ar (aJ iU rfl aa) rfl<|ar (az (aK sE rfl ad aa aA) du) rfl ?_
  (refine ar (cf aa aw ?_) rfl ?_; · (unfold In64;omega))
  refine ar (bU (ai aa)) rfl<|ar (aJ iU rfl aa) rfl<|aM (bV aa (ag aa) rfl rfl ad iZ rfl aA) trivial rfl (λbm aB=>?_)
  have aU:=bo aB ad;simp only [pS,Value.cells,Nat.reduceAdd,aW,aY,aQ]at aU;have bp:=au aB an ah;have a6:=RestR.au aB aH (λhj_=>by rfl);have a7:=bh aB aO;clear aB ad an aH;refine bn (aE (ae (ag (ai aL)))) ?_;clear aL aT;intro bu a8;refine ao<|at_<|ar (ak a8) rfl<|dn (ix (last:=st.last) (ws:=st.ws) (cnt:=st.cnt+1) a7 aU _ _) (aG aa (aG aw (aG aw aN))) iy trivial rfl (λ_ _ h=>h.elim) (λbv bw aV=>?_)
  repeat (refine eG ?_)
  exact⟨_,rfl,aV.1,a6.trans aV.2 iV⟩
 ·(simp_all;done)
theorem Iz(hs:fw st.dQ)(he:(cg st.dQ).2≠0)(hj:st.js.length≠0)(hk:(st.kind.toList==(⟨#[98,101,97,109]⟩:ByteArray).toList)=false)(h03:0<=(cg st.dQ).1.1/\(cg st.dQ).1.1<=3)(q0:Nat)(hq0:q0<H.hs.length)(hqk:hK H.hs q0=lQ (cg st.dQ).1.1)(hi0:0<=(cg st.dQ).1.2)(hi1:(cg st.dQ).1.2<(cR st.cs q0).length):
 ew Tryz.prog 17 [.ptr b 0] M0 (λ_ _=>False) (λv m'=>v=gp ((cR st.cs q0).getD (cg st.dQ).1.2.toNat default) 1 (cg st.dQ).2/\bP M0 m' (λj=>j=b)):=by
 have hb:=hR.box;have hJ:=hR.J;have hB:=hR.B;have hS:=hR.S;have hM:=hR.M;have hF:=hR.fam;have hbn:=cL hb hn;have hJn:=cL hJ hn;have hBn:=cL hB hn;have hSn:=cL hS hn;have hMn:=cL hM hn;obtain⟨⟨x1,x2,x3,x4⟩,⟨x5,x6,x7⟩,x8,x9,x10⟩:=hR.ne;obtain⟨y1,y2,y3,y4,y5⟩:=hR.tn q0 hq0;have hlt:=hF.lt hn;have hql:=hlt q0 hq0 ah;have hra:=PO h03.1 h03.2;refine gr (fn:=Tryz.f17) 58 aj rfl aj bO ?_;intro b2 ap hA am;have aR:al b2 (.tmp 0)=_:=hA 0 _ rfl;have aZ:ap.length=n:=by rw [am];exact hn
 have av:ap[b]? =_:=(congrArg (λq=>q[b]?) am).trans hb;simp only [pS,Value.cells,Nat.reduceAdd,aW,aY,aQ]at av;have aS:ap[H.jJ]? =_:=(congrArg (λq=>q[H.jJ]?) am).trans hJ;have a2:ap[H.jB]? =_:=(congrArg (λq=>q[H.jB]?) am).trans hB;have a3:ap[H.jS]? =_:=(congrArg (λq=>q[H.jS]?) am).trans hS;have ba:ap[H.jM]? =_:=(congrArg (λq=>q[H.jM]?) am).trans hM;have bb:bP M0 ap (λj=>j=b):=by rw [am];exact bP.refl _ _
 have a5:=hF;rw [<- am]at a5;clear hA am;refine ax<|ax<|at_<|ar (ak aR) rfl<|ar (bU aa) rfl<|ar (aJ ky rfl aa) rfl<|ar (aJ fk rfl aa) rfl<|ar (az (aK Du rfl av aa aA) du) rfl ?_
 refine ar (az (tN aa aS rfl Dt.1) ct) rfl ?_;refine ar (dN aa aw) rfl ?_;refine ar (ak aa) rfl<|bK aa (λan aC=>?_) (λan aC=>?_)
 ·replace aC:=bt aC;exfalso;omega
 replace aC:=bf aC;refine aF (ak (ay aR)) ⟨_,rfl,an⟩ rfl ?_;refine aF (bU aa) ⟨_,rfl,(ae an)⟩ rfl ?_;refine aF (aJ eS rfl aa) ⟨_,rfl,(ag an)⟩ rfl ?_;refine aF (az (aK FA rfl av aa aA) du) ⟨_,rfl,(ae (ag an))⟩ rfl ?_;refine aF (cX aa aw) ⟨_,rfl,(ai an)⟩ rfl ?_;refine ar (br (ae (ai an)) aa) rfl<|bD (ag (ai (ay aR))) aa ?_;clear an aR;intro ce a6 be
 refine ao<|bk be (λb6=>?_) (λb6=>?_)
 ·(simp_all;done)
 refine bF<|ao<|ax<|at_<|ar (ak a6) rfl<|ar (bU aa) rfl<|ar (aJ ky rfl aa) rfl<|ar (az (aK M7 rfl av aa aA) du) rfl ?_
 refine ar (CG (aG aa aN) (cQ (k9 (cQ (.ro _ rfl) (cQ (.own _ _ _ _ aS) (cQ (.own _ _ _ _ a2) (cQ (.own _ _ _ _ a3) gG))))) gG) rfl (w8 st.dQ hs) zg) rfl<|ar (ak aa) rfl<|ar (cF aa rfl) rfl<|ar (cF (ae aa) rfl) rfl<|aM (cJ re rfl aZ) trivial rfl (λcf ad=>?_)
 have aH:=bS ad aZ;simp only [pS,Value.cells,Nat.reduceAdd,aW,aY,aQ]at aH;have bg:=aI ad av;have bm:=aI ad aS;have bn:=aI ad a2;have bp:=aI ad a3;have bq:=aI ad ba;have bv:=RestR.aI ad bb;have bw:=bM.aI ad a5;have b7:=bR ad aZ;clear ad av aS a2 a3 ba bb a5;refine aM (bV aa (ag aa) rfl rfl aH jK rfl aA) trivial rfl (λci af=>?_);have aL:=bo af aH;simp only [pS,Value.cells,Nat.reduceAdd,aW,aY,aQ]at aL;have aO:=au af bg ah;have bx:=au af bm ah;have bA:=au af bn ah;have bE:=au af bp ah;have a7:=au af bq ah;have bH:=RestR.au af bv ey;have b8:=bM.au af bw aH rfl;have b9:=bh af b7;clear af aH bg bm bn bp bq bv bw;refine ar (aB (aE (ae aa))) rfl<|bB (ae (aE (ae (ay a6)))) (ae (aE aa)) aa ?_;clear a6 be;intro cj bI bJ a8
 refine ao<|ax<|ax<|at_<|ar (ak a8) rfl<|ar (dN aa aw) rfl ?_
 refine bu (ag bI) (ag bJ) (ag a8) aa ?_;clear bI bJ a8;intro ck bL a9 bN bQ;refine ao<|bk bQ (λaP=>?_) (λaP=>?_)
 ·replace aP:=bt aP;exfalso;omega
 replace aP:=bf aP;refine bF<|ao<|ax<|at_<|ar (xu (bz aw (bz aw (bz aw (bz aw bW)))) J1 J3 J4 rfl) rfl ?_
 refine ar (aJ yv rfl (ae a9)) rfl<|ar (az (aK sE rfl aL aa aA) du) rfl ?_
 refine ar (az (ER (els:= [[AV.v (.string bj)],[AV.v (.string bc)],[AV.v (.string aU)],[AV.v (.string aX)]]) RF rfl (ag aa) aa rfl aD h03.1 ah hra) rfl) rfl ?_;refine ar (aB aa) rfl<|bu (ae (ai bL)) (ae (ai a9)) (ae (ai bN)) aa ?_;clear bL a9 bQ bN;intro cm aT bT bX bY
 refine ao<|ax ?_
 obtain⟨aV,bZ⟩:=b8.take hq0;refine eu 13 aj aj aj aj ?_;refine dr (ak aT) rfl<|dr (ak (ae aT)) rfl<|dr (bU aa) rfl<|dr (aJ iv rfl aa) rfl<|dr (az (aK M8 rfl aO aa aA) du) rfl ?_
 refine dr (ak (ae (ai bY))) rfl<|dr (rR iG iH a7 (ae aa) aa (show(fx H.hs)[q0]? =some (lQ (cg st.dQ).1.1,.own (hN H.hs q0))by rw [lg hq0,hqk]) hF.nv) rfl ?_
 refine dr (aJ EA rfl (ae (ag (ai bT)))) rfl<|dr (az (aK sE rfl aL aa aA) du) rfl ?_
 refine dr (ku M6 aV (ag aa) aa ah dC) rfl ?_;refine dr (az (nG sE rfl aV aa aA (by(refine dq ?_;omega))) du) rfl ?_;refine dr (bU (ag (ay aa))) rfl<|dr (aJ iU rfl aa) rfl<|dE<|aM (bV aa (ag aa) rfl rfl aO iZ rfl aA) trivial rfl (λco ab=>?_)
 have b0:=bo ab aO;simp only [pS,Value.cells,Nat.reduceAdd,aW,aY,aQ]at b0;have cq:=au ab aL ah;have cr:=au ab bx ah;have cu:=au ab bA ah;have cv:=au ab bE ah;have cw:=au ab a7 ah;have ca:=RestR.au ab bH (λhj_=>by rfl);have cx:=bM.au ab bZ aO rfl;have cy:=au ab aV ah;have cb:=bh ab b9;clear ab aL aO bx bA bE a7 bH bZ aV;refine bD (aE (ae (ai (ay aT)))) (aE (ae (ai (ay bX)))) ?_;clear aT bT bX bY;intro cz cc cd;refine ao<|at_<|ar (ak cc) rfl<|ar (ak (ae cd)) rfl<|dn (ix (last:=st.last) (ws:=st.ws) (cnt:=(cR st.cs q0).getD (cg st.dQ).1.2.toNat default) cb b0 _ _) (aG (ae aa) (aG aw (aG aa aN))) iy trivial rfl (λ_ _ h=>h.elim) (λcA cB b1=>?_)
 repeat (first|refine eG ?_|refine gJ ?_|refine zB ?_)
 exact⟨_,rfl,b1.1,ca.trans b1.2 iV⟩
end
end Go.Proofs.YtfoaiidcfkmneaaGreatDoor
namespace Go.Proofs.YtfoaiidcfkmneaaGreatDoor
open Go Go.RowKit Go.Proofs Go.Shelf Go.Lib
theorem J5:∀ args w,(callFunc 34 args).run Tryz.prog w= .ok (.enter 34 args) w:=λ_ _=>by kernel_rfl
theorem J6:∀ args w,(callFunc 59 args).run Tryz.prog w= .ok (.enter 59 args) w:=λ_ _=>by kernel_rfl
theorem sF:aV Tryz.prog 9 false 1:=⟨aj,aj⟩
def mb:Nat->List UInt8->List (List UInt8)
 | 0,_=> []
 | f+1,l=>if l= []then []else if 0<=indexByte l 10 then l.take ((indexByte l 10).toNat +1)::mb f (l.drop ((indexByte l 10).toNat +1))else [l]
def ec(l:List UInt8):List (List UInt8):=mb l.length l
theorem xf:∀ (f:Nat) (l:List UInt8),l.length<=f->mb f l=ec l:=by
 have key:∀ (f g:Nat) (l:List UInt8),l.length<=f->l.length<=g->mb f l=mb g l:=by
  intro f
  induction f with
  | zero=>
   intro g l hf hg;have:l= []:=TD ah;subst this;cases g<;>simp [mb]
  | succ f ih=>
   intro g l hf hg;cases g with
   | zero=>
    have:l= []:=TD ah;subst this;simp [mb]
   | succ g=>
    simp only [mb]
    split
    ·rfl
    ·split
     ·rename_i h1 h2
      congr 1
      have hp:=Tt.2 h1;exact ih g _ pz pz
     ·rfl
 exact λf l h=>key f l.length l h (SR _)
theorem nE:ec []= []:=rfl
theorem Ja{l:List UInt8}(h:l≠ [])(hi:0<=indexByte l 10):ec l=l.take ((indexByte l 10).toNat +1)::ec (l.drop ((indexByte l 10).toNat +1)):=by
 have hp:=Tt.2 h;rw [<- xf (l.length+1) l ah];simp only [mb];rw [if_neg h,if_pos hi,xf _ _ pz]
theorem Jb{l:List UInt8}(h:l≠ [])(hi:¬ 0<=indexByte l 10):ec l= [l]:=by
 have hp:=Tt.2 h;rw [<- xf (l.length+1) l ah];simp only [mb];rw [if_neg h,if_neg hi]
def nB(r:List UInt8):List UInt8:=if 0<=indexByte r 10 then r.take ((indexByte r 10).toNat +1)else r
def jR(r:List UInt8):List UInt8:=if 0<=indexByte r 10 then r.drop ((indexByte r 10).toNat +1)else []
theorem oP{r:List UInt8}(h:r≠ []):ec r=nB r::ec (jR r):=by
 unfold nB jR
 split
 ·rename_i hi;exact Ja h hi
 ·rename_i hi;rw [Jb h hi,nE]
theorem mS{r:List UInt8}(h:r≠ []):(jR r).length <r.length:=by
 have:=Tt.2 h;unfold jR
 split
 ·rw [TZ];omega
 ·simpa using this
theorem QV(r:List UInt8)(h:0<=indexByte r 10):(bs r).extract 0 (indexByte r 10+1).toNat =bs (nB r):=by
 rw [PD,gK,show(indexByte r 10+1).toNat =(indexByte r 10).toNat +1 by omega,nB,if_pos h]
theorem QW(r:List UInt8)(h:0<=indexByte r 10):(bs r).extract (indexByte r 10+1).toNat (bs r).size =bs (jR r):=by
 rw [PC,gK,show(indexByte r 10+1).toNat =(indexByte r 10).toNat +1 by omega,jR,if_pos h]
theorem zY{r:List UInt8}(h:¬ 0<=indexByte r 10):nB r=r/\jR r= []:=by
 unfold nB jR;rw [if_neg h,if_neg h];exact⟨rfl,rfl⟩
def wS(l:List UInt8):List AV:= [.v (.string (bs l))]
theorem HN(l:List UInt8)(c:Int):bT Tryz.prog 34 [.v (.string (bs l)),.v (.int .u8 c)] (λq=>q= .v (.int .i64 (indexByte l c.toNat.toUInt8))):=by
 have h:=H3 (bs l) c;rw [gK]at h;refine cA (fn:=Tryz.f34) 8 aj rfl aj bO ?_;intro ab an hA ad;have af:al ab (.tmp 0)=_:=hA 0 _ rfl;have ag:al ab (.tmp 1)=_:=hA 1 _ rfl;have ap:an.length=0:=by rw [ad];rfl
 clear hA ad;refine ax<|at_<|ar (aB aw) rfl<|bD (ae af) (ae ag) ?_;clear af ag;intro au ah ai
 refine ao<|ax<|at_<|ar (ak ah) rfl<|ar (ak (ae ai)) rfl<|ar (bI (aG (ae aa) (aG aa aN)) rfl (h) J6) rfl<|ar (aB aa) rfl<|bn aa ?_;clear ah ai;intro av am
 refine ao<|bm<|bX bp aj (aR am) (.ro _ rfl) ?_
 clear am ap;rfl
theorem M9(s:ByteArray):wG Tryz.prog [] 13 [.v (.string s)] [] (.clo (.func 33) [] [.ptr 1 0]) [.box 9 [.v (.string s)]]:=by
 refine OS (fn:=Tryz.f13) [] 4 aj rfl aj bO ?_;intro am an hA ad;have ah:al am (.tmp 0)=_:=hA 0 _ rfl;have af:an.length=1:=by rw [ad];rfl
 have ai:=Rt ad;clear hA ad;refine ax<|at_<|aM (fD ah rfl af) trivial rfl (λay ab=>?_)
 have ap:=bS ab af
 (skip)
 have au:=aI ab ai;have ag:=bR ab af;have ag:_=2:=ag;clear ab ai;refine ar (aB aw) rfl<|bn (ae aa) ?_;clear ah;intro az ak
 refine ao<|ax<|at_<|ar (kT aN (aG ak aN)) rfl<|ar (aB aa) rfl<|bn aa ?_;clear ak;intro aA av
 refine ao<|bm<|Qu bp [1] ag au aD rfl (lj aj (aR av)) (Qv ap ?_ .nil) ?_
 all_goals (rfl)
def Ap(l r:List UInt8)(i:Nat):Prop:=i+(ec r).length =(ec l).length /\(ec l).drop i=ec r/\r.length<=l.length
theorem vt{l r y q:List UInt8}{i:Nat}(h:Ap l r i)(hy:ec r=y::ec q)(hq:q.length<=r.length):((ec l).map wS)[i]? =some [AV.v (.string (bs y))]/\Ap l q (i+1):=by
 obtain⟨h1,h2,h3⟩:=h;have h4:(ec l)[i]? =some y:=by
  have:=congrArg (λz=>z[0]?) h2;simp only [Tj,hy]at this
  simpa using this
 refine⟨by rw [SU,h4];rfl,?_,?_,ah⟩
 ·rw [hy]at h1;simp at h1;omega
 ·have:=congrArg (λz=>z.drop 1) h2;simp only [Uf,hy]at this
  simpa using this
theorem J7(l:List UInt8)(hl:l.length<=1000000)(jv:Nat):zC Tryz.prog 33 [] [.ptr jv 0] jv 9 [.v (.string (bs l))] ((ec l).map wS):=by
 refine O1 (fn:=Tryz.f33) 25 aj rfl aj bO (λ_ _=>⟨.tuple #[],aj⟩) ?_;intro lb_ ap hA;have aO:al ap (.tmp 0)=_:=hA 0 _ rfl;have aP:al ap (.tmp 1)=_:=hA 1 _ rfl;clear hA;refine Cj<|OY (S:=(List UInt8×Nat)) (λs e b i c=>match s with|⟨r,k⟩=>(al e (.tmp 0)=al ap (.tmp 0))/\(al e (.tmp 1)=al ap (.tmp 1))/\(b=true)/\(i=k)/\(c= [.v (.string (bs r))])/\((Ap l r k))) (λs=>match s with|⟨r,k⟩=>r.length) ⟨l,0⟩ ⟨rfl,rfl,rfl,dY,rfl,?_⟩ ?_
 ·exact⟨ah,rfl,SR _⟩
 ·rintro⟨r,k⟩ bo _ bp _ ⟨ba,bb,rfl,hix,rfl,hinv⟩;have a2:=ba.trans aO;have aR:=bb.trans aP
  (obtain⟨p1,p2,p3⟩:=hinv;have hz:(bs r).size =r.length:=rfl;have hi:=HN r 10;rw [show((10:Int).toNat.toUInt8)=(10:UInt8)from rfl]at hi;obtain⟨g1,g2⟩:=Gj r 10)
  refine oe<|oe<|pw ?_
  refine gU (λmem_ hm_=>(az (aK sF rfl hm_ aR aA) bQ)) trivial rfl ?_;refine gU (λmem_ hm_=>(eE aa rfl cK)) trivial rfl ?_;refine gU (λmem_ hm_=>(eF aa aw)) trivial rfl ?_;refine ma (λbq ar=>?_);have a3:=ef 0 ar (ae (ag a2));have a5:=ef 1 ar (ae (ag aR));have a6:=ef 7 ar aa;clear ar a2 aR;refine kA<|ve a6 (λad=>?_) (λad=>?_)
  ·replace ad:=bt ad;refine yE<|kA<|Cj<|oe<|pw ?_
   refine gU (λmem_ hm_=>(aB aw)) trivial rfl ?_;refine ma (λbr aS=>?_);have a7:=ef 0 aS (ae a3);have aT:=ef 1 aS (ae a5);clear aS a3 a5 a6;refine kA<|oe<|oe<|pw ?_
   refine gU (λmem_ hm_=>(az (aK sF rfl hm_ aT aA) bQ)) trivial rfl ?_;refine gU (λmem_ hm_=>(bI (aG aa (aG aw aN)) rfl (hi) J5)) trivial rfl ?_;refine gU (λmem_ hm_=>(aB aa)) trivial rfl ?_;refine ma (λbu au=>?_);have a8:=ef 0 au (ae (ag a7));have a9:=ef 1 au (ae (ag aT));have aU:=ef 4 au aa;clear au a7 aT;refine kA<|oe<|pw ?_
   refine gU (λmem_ hm_=>(ak aU)) trivial rfl ?_;refine gU (λmem_ hm_=>(lH aa aw)) trivial rfl ?_;refine ma (λbv af=>?_);have av:=ef 0 af (ag a8);have ab:=ef 1 af (ag a9);have ax:=ef 4 af (ag aU);have aV:=ef 11 af aa;clear af a8 a9 aU;refine kA<|ve aV (λam=>?_) (λam=>?_)
   ·replace am:=bt am;refine O0 9 aj aj aj aj ?_;refine mY (λmem_ hm_=>(az (aK sF rfl hm_ ab aA) bQ)) trivial rfl ?_;refine mY (λmem_ hm_=>(ak (ae ax))) trivial rfl ?_
    (refine mY (λmem_ hm_=>(cf aa aw ?_)) trivial rfl ?_; · (unfold In64;omega))
    refine mY (λmem_ hm_=>(OQ (ag aa) aa cK ah ah)) trivial rfl ?_;refine mY (λmem_ hm_=>(az (aK sF rfl hm_ (ai ab) aA) bQ)) trivial rfl ?_;refine mY (λmem_ hm_=>(ak (ae (ai ax)))) trivial rfl ?_
    (refine mY (λmem_ hm_=>(cf aa aw ?_)) trivial rfl ?_; · (unfold In64;omega))
    refine mY (λmem_ hm_=>(EU (ag aa) aa cK ah ah)) trivial rfl ?_;refine mY (λmem_ hm_=>(aB (ai aa))) trivial rfl ?_;refine OZ ?_;refine GZ rfl (λmem_ hm_=>(bV (ae (ay ab)) (ae aa) rfl rfl hm_ ou rfl aA)) trivial rfl ?_;refine ma (λbw aC=>?_);have an:=ef 0 aC (aE (ae (ay av)));have aD:=ef 1 aC (aE (ae (ay ab)));have aX:=ef 3 aC (aE aa);clear aC av aV ab ax;refine kA<|oe<|pw ?_
    refine gU (λmem_ hm_=>(ak an)) trivial rfl ?_;refine gU (λmem_ hm_=>(ak (ae aX))) trivial rfl ?_;refine CB (ae aa) (aG aa aN) rfl trivial rfl rfl (by(subst hix;have hn:r≠ []:=Tt.1 ah;have h5:=(vt ⟨p1,p2,p3⟩ (oP hn) (Uk (mS hn))).1;(rw [QV r ah];exact h5))) ?_ ?_
    ·
     refine gU (λmem_ hm_=>(dT aa)) trivial rfl ?_;refine ma (λbx aF=>?_);have bc:=ef 0 aF (ai an);have be:=ef 1 aF (ai aD);have bg:=ef 24 aF aa;clear aF an aD aX;refine kA<|Ci bg ?_
     refine yE<|Cm<|kA<|⟨⟨jR r,k+1⟩,⟨(bc.trans aO.symm),(be.trans aP.symm),rfl,ah,(by(rw [<- QW r ah];rfl)),?_⟩,?_⟩
     ·(have hn:r≠ []:=Tt.1 ah;exact(vt ⟨p1,p2,p3⟩ (oP hn) (Uk (mS hn))).2)
     ·((try dsimp only);(have hn:r≠ []:=Tt.1 ah;exact mS hn))
    ·
     refine gU (λmem_ hm_=>(dT aa)) trivial rfl ?_;refine ma (λbz aH=>?_);have bA:=ef 0 aH (ai an);have bB:=ef 1 aH (ai aD);have bh:=ef 24 aH aa;clear aH an aD aX;refine kA<|EV bh ?_
     refine F6<|uv<|EX<|uv<|F7 (λhb_=>(by cases hb_))
   replace am:=bf am;refine pw ?_;refine gU (λmem_ hm_=>(az (aK sF rfl hm_ ab aA) bQ)) trivial rfl ?_;refine gU (λmem_ hm_=>(aB aa)) trivial rfl ?_;refine GZ rfl (λmem_ hm_=>(bV (ag ab) aw rfl rfl hm_ ou rfl aA)) trivial rfl ?_;refine ma (λbD aI=>?_);have ao:=ef 0 aI (aE (ag av));have aJ:=ef 1 aI (aE (ag ab));have aZ:=ef 3 aI (aE aa);clear aI av aV ab ax;refine kA<|oe<|pw ?_
   refine gU (λmem_ hm_=>(ak ao)) trivial rfl ?_;refine gU (λmem_ hm_=>(ak (ae aZ))) trivial rfl ?_;refine CB (ae aa) (aG aa aN) rfl trivial rfl rfl (by(subst hix;have hn:r≠ []:=Tt.1 ah;have h5:=(vt ⟨p1,p2,p3⟩ (oP hn) (Uk (mS hn))).1;(rw [(zY (r:=r) ah).1]at h5;exact h5))) ?_ ?_
   ·
    refine gU (λmem_ hm_=>(dT aa)) trivial rfl ?_;refine ma (λbE aL=>?_);have bj:=ef 0 aL (ai ao);have bk:=ef 1 aL (ai aJ);have bm:=ef 24 aL aa;clear aL ao aJ aZ;refine kA<|Ci bm ?_
    refine yE<|Cm<|kA<|⟨⟨jR r,k+1⟩,⟨(bj.trans aO.symm),(bk.trans aP.symm),rfl,ah,(by(rw [(zY (r:=r) ah).2];rfl)),?_⟩,?_⟩
    ·(have hn:r≠ []:=Tt.1 ah;exact(vt ⟨p1,p2,p3⟩ (oP hn) (Uk (mS hn))).2)
    ·((try dsimp only);(have hn:r≠ []:=Tt.1 ah;exact mS hn))
   ·
    refine gU (λmem_ hm_=>(dT aa)) trivial rfl ?_;refine ma (λbF aM=>?_);have bH:=ef 0 aM (ai ao);have bJ:=ef 1 aM (ai aJ);have bn:=ef 24 aM aa;clear aM ao aJ aZ;refine kA<|EV bn ?_
    refine F6<|uv<|EX<|uv<|F7 (λhb_=>(by cases hb_))
  replace ad:=bf ad;refine OX<|EW<|EW<|IU ?_
  refine Qy (λhb_=>?_)
  (rw [SZ];have h0:r= []:=TD ah;rw [h0,nE]at p1;simp at p1;omega)
def fh(l:List UInt8):List UInt8:=trimSuffix l [10]
theorem ye(l:List UInt8):(fh l).length <=l.length:=by
 unfold fh trimSuffix
 split
 ·rw [TF];omega
 ·exact SR _
theorem xo(l:List UInt8):(ec l).length <=l.length:=by
 have key:∀ (n:Nat) (l:List UInt8),l.length<=n->(ec l).length <=l.length:=by
  intro n
  induction n with
  | zero=>
   intro l h;have:l= []:=TD ah;subst this;simp [nE]
  | succ n ih=>
   intro l h
   by_cases h0:l= []
   ·subst h0;simp [nE]
   ·have h1:=mS h0;have h2:=ih (jR l) ah;rw [oP h0,Ta];omega
 exact key l.length l (SR _)
theorem xp{l y:List UInt8}(h:y∈ec l):y.length<=l.length:=by
 have key:∀ (n:Nat) (l:List UInt8),l.length<=n->y∈ec l->y.length<=l.length:=by
  intro n
  induction n with
  | zero=>
   intro l h hy;have:l= []:=TD ah;subst this;simp [nE]at hy
  | succ n ih=>
   intro l h hy
   by_cases h0:l= []
   ·subst h0;simp [nE]at hy
   ·have h1:=mS h0;rw [oP h0]at hy;rcases TL.1 hy with rfl|hy
    ·unfold nB;split
     ·rw [TF];omega
     ·exact SR _
    ·have:=ih (jR l) ah hy;omega
 exact key l.length l (SR _) h
theorem QX{tx:List UInt8}{i:Nat}{a:AV}(h:((ec tx).map wS)[i]? =some [a]):∃ l,(ec tx)[i]? =some l/\a= .v (.string (bs l))/\l.length<=tx.length/\i<(ec tx).length :=by
 rw [SU]at h;cases hq:(ec tx)[i]? with
 | none=>rw [hq]at h;cases h
 | some l=>
  rw [hq]at h;simp [wS]at h;exact⟨l,rfl,h.symm,xp (S9 hq),(SN.1 hq).1⟩
structure iM where
 dQ:bN
 ml:Int
 mc:Int
 e:Int
def zL:bN:=⟨⟨#[]⟩,[],[],[]⟩
def gj(r:iM):AV:=.tuple [gA r.dQ,.agg [mA r.ml,mA r.mc],mA r.e]
def kj:RS:=⟨⟨#[]⟩,[],[],[],0,[],⟨⟨#[]⟩,0⟩,⟨#[]⟩,[],[]⟩
def cN(st:RS)(l:List UInt8):RS:= {st with cnt:=st.cnt+1,ws:=ee l 0}
def cz(k:ByteArray):List ByteArray->List (List Int)->List Int
 | [],_=> []
 | a::ks,cs=>if aS a k then cs.headD []else cz k ks cs.tail
def ll(st:RS):iM:=
 if st.js.length=0\/aS st.kind aU=true then⟨zL,st.cnt+1,1,6⟩
 else if(cg st.dQ).2=0 then⟨st.dQ,0,0,0⟩
 else⟨zL,(cz (lQ (cg st.dQ).1.1) st.ks st.cs).getD (cg st.dQ).1.2.toNat default,1,(cg st.dQ).2⟩
def gl:RS->List (List UInt8)->iM
 | st,[]=>ll st
 | st,l::ls=>match ee l 0 with
  | []=>gl (cN st l) ls
  | w0::ws=>if fo st.kind w0 ws=(0,0)then gl (fN (cN st l) w0 ws) ls else⟨zL,st.cnt+1,(fo st.kind w0 ws).1,(fo st.kind w0 ws).2⟩
def nk(tx:List UInt8):iM:=if 60000<tx.length then⟨zL,0,0,8⟩else gl kj ((ec tx).map fh)
theorem Na(st:RS)(la w0:Wd)(ws:List Wd):fN {st with last:=la} w0 ws=fN st w0 ws:=by
 unfold fN RS.add
 split
 ·rfl
 ·split
  ·rfl
  ·split<;>rfl
theorem Nb(st:RS)(la:Wd)(l:List UInt8):cN {st with last:=la} l= {(cN st l)with last:=la}:=rfl
theorem q7(k k':ByteArray)(c:Int):∀ (ks:List ByteArray) (cs:List (List Int)),cz k' (ft k c ks cs).1 (ft k c ks cs).2=if k=k' then cz k' ks cs++ [c]else cz k' ks cs
 | [],cs=>by
  by_cases h:k=k'
  ·subst h;simp [ft,cz,fj]
  ·simp [ft,cz,m8 h,h]
 | a::ks,cs=>by
  simp only [ft]
  by_cases ha:aS a k=true
  ·have hk:=fB.1 ha;subst hk;simp only [fj,if_true,cz,List.headD_cons,UP]
   by_cases h:a=k'
   ·subst h;simp [fj]
   ·simp [m8 h,h]
  ·have ha':aS a k=false:=by simpa using ha
   simp only [ha',SV,if_false,cz,List.headD_cons,UP]
   by_cases h:aS a k'=true
   ·have hk:=fB.1 h;subst hk;have hne:¬ k=a:=λe=>by rw [e,fj]at ha';cases ha'
    simp [fj,hne]
   ·have h':aS a k'=false:=by simpa using h
    simp only [h',SV,if_false];exact q7 k k' c ks cs.tail
theorem Gv(k:ByteArray)(c:Int):∀ (ks:List ByteArray) (cs:List (List Int)) (B:Nat),(∀ q,(cR cs q).length <=B)-> ∀ q,(cR (ft k c ks cs).2 q).length <=B+1
 | [],cs,B,h,q=>by
  cases q with
  | zero=>simp [ft,cR]
  | succ q=>show([]:List Int).length <=_;simp
 | a::ks,cs,B,h,q=>by
  have h0:(cs.headD []).length <=B:=by have:=h 0;cases cs<;>simp_all [cR]
  have ht:∀ q,(cR cs.tail q).length <=B:=λq=>by have:=h (q+1);cases cs<;>simp_all [cR]
  simp only [ft]
  split
  ·cases q with
   | zero=>simp [cR];simpa using h0
   | succ q=>have:=ht q;simp only [cR,List.getD_cons_succ]at this ⊢;omega
  ·cases q with
   | zero=>simp [cR]at h0 ⊢;omega
   | succ q=>
    have:=Gv k c ks cs.tail B ht q
    simpa only [cR,List.getD_cons_succ]using this
theorem G9{k:ByteArray}:∀ {hs:HL} {cs:List (List Int)},cs.length=hs.length->cz k (hs.map (·.1)) cs≠ []-> ∃ q,q<hs.length/\hK hs q=k/\cz k (hs.map (·.1)) cs=cR cs q
 | [],cs,_,h=>absurd rfl h
 | x::hs,[],hl,_=>by simp at hl
 | x::hs,d::cs,hl,h=>by
  by_cases hx:aS x.1 k=true
  ·exact⟨0,aL,fB.1 hx,by simp [cz,hx,cR]⟩
  ·have hx':aS x.1 k=false:=by simpa using hx
   have e:cz k ((x::hs).map (·.1)) (d::cs)=cz k (hs.map (·.1)) cs:=by simp [cz,hx']
   rw [e]at h ⊢;obtain⟨q,h1,h2,h3⟩:=G9 (by simpa using hl) h;exact⟨q+1,by simpa using h1,h2,h3⟩
structure fX (i:Nat) (st:RS):Prop where
 cnt:st.cnt=i
 ln:st.kind=⟨#[]⟩\/cz bj st.ks st.cs≠ []
 j0:st.kind=⟨#[]⟩->st.js= []
 jl:(cz bc st.ks st.cs).length =st.js.length
 bl:(cz aU st.ks st.cs).length =st.bs.length
 sl:(cz aX st.ks st.cs).length =st.ss.length
 cb:∀ q,(cR st.cs q).length <=i
 jb:st.js.length<=i
 bb:st.bs.length<=i
 sb:st.ss.length<=i
 nb:st.nam.size<=1000000
 ab:∀ s∈st.ss,s.nam.size<=1000000/\s.acr.length<=1000000
theorem fX.zero:fX 0 kj:=⟨rfl,.inl rfl,λ_=>rfl,rfl,rfl,rfl,λq=>SR 0,by simp [kj],by simp [kj],by simp [kj],S8 _,λs h=>by simp [kj]at h⟩
theorem fX.tG{i:Nat}{st:RS}(h:fX i st)(hi:i<=1000000):fw st.dQ:=⟨h.nb,Tm h.jb hi,Tm h.bb hi,Tm h.sb hi,h.ab⟩
theorem fX.wT{i:Nat}{st:RS}(h:fX i st)(hi:i<=1000000):Aq st:=⟨Tm h.jb hi,Tm h.bb hi,Tm h.sb hi,λq=>Tm (h.cb q) hi⟩
theorem fX.skip{i:Nat}{st:RS}(h:fX i st)(l:List UInt8):fX (i+1) (cN st l):=
 ⟨by show st.cnt+1=_;rw [h.cnt];rfl,h.ln,h.j0,h.jl,h.bl,h.sl,λq=>TM (h.cb q),TM h.jb,TM h.bb,TM h.sb,h.nb,h.ab⟩
theorem Gw{p:ByteArray}{w0:Wd}{ws:List Wd}(h:fo p w0 ws=(0,0)):dy p w0.txt=0/\de w0.txt w0 ws=(0,0):=by
 unfold fo at h
 by_cases hk:dy p w0.txt=0
 ·rw [if_pos hk]at h;exact⟨hk,h⟩
 ·rw [if_neg hk]at h;injection h with h1 h2;exact absurd h2 hk
theorem FB{p k:ByteArray}(h:dy p k=0)(hk:k=bj):p=⟨#[]⟩:=by
 subst hk;unfold dy at h
 by_cases hp:aS p ⟨#[]⟩=true
 ·exact fB.1 hp
 ·rw [if_neg hp]at h;have:(aS bj bc||aS bj aU||aS bj aX)=false:=by simp only [jN];decide
  rw [this]at h;simp at h
theorem yf{p k:ByteArray}(h:dy p k=0)(hk:k≠bj):p≠⟨#[]⟩/\(k=bc\/k=aU\/k=aX):=by
 unfold dy at h
 by_cases hp:aS p ⟨#[]⟩=true
 ·rw [if_pos hp,m8 hk]at h;simp at h
 ·rw [if_neg hp]at h;refine⟨λe=>hp (by rw [e];exact fj _),?_⟩
  by_cases hin:(aS k bc||aS k aU||aS k aX)=true
  ·simp only [TJ]at hin;rcases hin with(h1|h1)|h1
   ·exact .inl (fB.1 h1)
   ·exact .inr (.inl (fB.1 h1))
   ·exact .inr (.inr (fB.1 h1))
  ·rw [if_neg hin]at h;simp at h
theorem Ha{last:Wd}{ws:List Wd}(h:g8 last ws):(cm ws).txt.size <=1000000:=by
 match ws,h with
 | [],_=>exact S8 _
 | w::ws,h=>exact(h.all w aL).2.2
theorem Hk:(bj:ByteArray)≠⟨#[]⟩:=λh=>by have:=congrArg ByteArray.size h;revert this;decide
theorem Af:(bc:ByteArray)≠⟨#[]⟩:=λh=>by have:=congrArg ByteArray.size h;revert this;decide
theorem Ag:(aU:ByteArray)≠⟨#[]⟩:=λh=>by have:=congrArg ByteArray.size h;revert this;decide
theorem Ah:(aX:ByteArray)≠⟨#[]⟩:=λh=>by have:=congrArg ByteArray.size h;revert this;decide
theorem fa{a b:ByteArray}(h:aS a b=false):¬ a=b:=λe=>by rw [e,fj]at h;cases h
theorem kY(a b:ByteArray):aS a b=aS b a:=by
 cases h:aS a b with
 | true=>rw [fB.1 h,fj]
 | false=>cases h2:aS b a with
  | true=>rw [fB.1 h2,fj]at h;cases h
  | false=>rfl
theorem fX.step{i:Nat}{st:RS}(h:fX i st){l:List UInt8}{w0:Wd}{ws:List Wd}(hE:fo st.kind w0 ws=(0,0))(hW:g8 w0 ws):fX (i+1) (fN (cN st l) w0 ws):=by
 obtain⟨hk,hb⟩:=Gw hE;have hc:(cN st l).cnt =((i+1:Nat):Int):=by show st.cnt+1=_;rw [h.cnt];rfl
 have ncl:=fa (kY bj bc ▸ mz);have nlb:=fa (kY bj aU ▸ mB);have nls:=fa (kY bj aX ▸ mC);have njl:=fa mz;have nbl:=fa mB;have nsl:=fa mC;have nbj:=fa nw;have nsj:=fa ny;have nsb:=fa nA;have njb:=fa (kY bc aU ▸ nw);have njs:=fa (kY bc aX ▸ ny);have nbs:=fa (kY aU aX ▸ nA);have hcb:∀ k q,(cR ((cN st l).add k).cs q).length <=i+1:=λk=>Gv k _ _ _ i h.cb
 have lk:∀ k k',cz k' ((cN st l).add k).ks ((cN st l).add k).cs =if k=k' then cz k' st.ks st.cs++ [(cN st l).cnt]else cz k' st.ks st.cs:=λk k'=>q7 k k' _ _ _
 have hwl:=hW.len;obtain⟨tx,c0⟩:=w0
 by_cases h1:tx=bj
 ·subst h1;simp only [fN,fj,if_true];refine⟨hc,.inr (by show cz bj ((cN st l).add bj).ks ((cN st l).add bj).cs ≠ [];rw [lk,if_pos rfl];simp),λe=>absurd e Hk,?_,?_,?_,hcb _,TM h.jb,TM h.bb,TM h.sb,Ha hW,h.ab⟩
  ·show(cz bc ((cN st l).add bj).ks ((cN st l).add bj).cs).length =_;rw [lk,if_neg ncl];exact h.jl
  ·show(cz aU ((cN st l).add bj).ks ((cN st l).add bj).cs).length =_;rw [lk,if_neg nlb];exact h.bl
  ·show(cz aX ((cN st l).add bj).ks ((cN st l).add bj).cs).length =_;rw [lk,if_neg nls];exact h.sl
 obtain⟨hp,hcase⟩:=yf hk h1;have hln:cz bj st.ks st.cs≠ []:=h.ln.resolve_left hp;rcases hcase with rfl|rfl|rfl
 ·simp only [fN,mz,fj,if_true,SV,if_false];refine⟨hc,.inr (by show cz bj ((cN st l).add bc).ks ((cN st l).add bc).cs ≠ [];rw [lk,if_neg njl];exact hln),λe=>absurd e Af,?_,?_,?_,hcb _,?_,TM h.bb,TM h.sb,h.nb,h.ab⟩
  ·show(cz bc ((cN st l).add bc).ks ((cN st l).add bc).cs).length =(st.js++ [_]).length;rw [lk,if_pos rfl];simp [h.jl]
  ·show(cz aU ((cN st l).add bc).ks ((cN st l).add bc).cs).length =_;rw [lk,if_neg njb];exact h.bl
  ·show(cz aX ((cN st l).add bc).ks ((cN st l).add bc).cs).length =_;rw [lk,if_neg njs];exact h.sl
  ·show(st.js++ [_]).length <=_;have:=h.jb;simp;omega
 ·simp only [fN,mB,nw,fj,if_true,SV,if_false];refine⟨hc,.inr (by show cz bj ((cN st l).add aU).ks ((cN st l).add aU).cs ≠ [];rw [lk,if_neg nbl];exact hln),λe=>absurd e Ag,?_,?_,?_,hcb _,TM h.jb,?_,TM h.sb,h.nb,h.ab⟩
  ·show(cz bc ((cN st l).add aU).ks ((cN st l).add aU).cs).length =_;rw [lk,if_neg nbj];exact h.jl
  ·show(cz aU ((cN st l).add aU).ks ((cN st l).add aU).cs).length =(st.bs++ [_]).length;rw [lk,if_pos rfl];simp [h.bl]
  ·show(cz aX ((cN st l).add aU).ks ((cN st l).add aU).cs).length =_;rw [lk,if_neg nbs];exact h.sl
  ·show(st.bs++ [_]).length <=_;have:=h.bb;simp;omega
 ·simp only [fN,mC,ny,nA,SV,if_false];refine⟨hc,.inr (by show cz bj ((cN st l).add aX).ks ((cN st l).add aX).cs ≠ [];rw [lk,if_neg nsl];exact hln),λe=>absurd e Ah,?_,?_,?_,hcb _,TM h.jb,TM h.bb,?_,h.nb,?_⟩
  ·show(cz bc ((cN st l).add aX).ks ((cN st l).add aX).cs).length =_;rw [lk,if_neg nsj];exact h.jl
  ·show(cz aU ((cN st l).add aX).ks ((cN st l).add aX).cs).length =_;rw [lk,if_neg nsb];exact h.bl
  ·show(cz aX ((cN st l).add aX).ks ((cN st l).add aX).cs).length =(st.ss++ [_]).length;rw [lk,if_pos rfl];simp [h.sl]
  ·show(st.ss++ [_]).length <=_;have:=h.sb;simp;omega
  ·intro s hs;rcases UD.1 hs with hs|hs
   ·exact h.ab s hs
   ·simp at hs;subst hs;exact⟨Ha hW,by simp;omega⟩
theorem Dw{l:bN}(h:(cg l).2≠0):(cg l).1.1=0/\(cg l).1.2=0\/(∃ i:Nat,(cg l).1.2=i/\((cg l).1.1=1/\i<l.js.length\/(cg l).1.1=2/\i<l.bs.length\/(cg l).1.1=3/\i<l.ss.length)):=by
 unfold cg at h ⊢
 split
 ·exact .inl ⟨rfl,rfl⟩
 split
 ·exact .inl ⟨rfl,rfl⟩
 split
 ·exact .inl ⟨rfl,rfl⟩
 rename_i h1 h2 h3
 rw [if_neg h1,if_neg h2,if_neg h3]at h;unfold jO at h ⊢
 split
 ·rename_i i hi;exact .inr ⟨i,rfl,.inl ⟨rfl,(sD hi).2⟩⟩
 split
 ·rename_i i hi;exact .inr ⟨i,rfl,.inr (.inl ⟨rfl,(sD hi).2⟩)⟩
 split
 ·exact .inl ⟨rfl,rfl⟩
 split
 ·rename_i i hi;exact .inr ⟨i,rfl,.inr (.inr ⟨rfl,(sD hi).2⟩)⟩
 ·exact .inl ⟨rfl,rfl⟩
theorem fX.row{i:Nat}{st:RS}(h:fX i st)(hj:st.js.length≠0)(he:(cg st.dQ).2≠0):(0<=(cg st.dQ).1.1/\(cg st.dQ).1.1<=3)/\0<=(cg st.dQ).1.2/\(cg st.dQ).1.2<(cz (lQ (cg st.dQ).1.1) st.ks st.cs).length :=by
 have hln:cz bj st.ks st.cs≠ []:=h.ln.resolve_left λe=>hj (by rw [h.j0 e];rfl)
 have hln':=Tt.2 hln;rcases Dw he with⟨h1,h2⟩|⟨k,h1,⟨h2,h3⟩|⟨h2,h3⟩|⟨h2,h3⟩⟩
 ·rw [h1,h2];exact⟨ah,ah,by show(0:Int)<((cz bj st.ks st.cs).length :Int);omega⟩
 ·rw [h1,h2];exact⟨ah,ah,by show(k:Int)<((cz bc st.ks st.cs).length :Int);rw [h.jl];exact Int.ofNat_lt.2 h3⟩
 ·rw [h1,h2];exact⟨ah,ah,by show(k:Int)<((cz aU st.ks st.cs).length :Int);rw [h.bl];exact Int.ofNat_lt.2 h3⟩
 ·rw [h1,h2];exact⟨ah,ah,by show(k:Int)<((cz aX st.ks st.cs).length :Int);rw [h.sl];exact Int.ofNat_lt.2 h3⟩
theorem zM{l:List UInt8}(hl:l.length<=100000):∀ (f a:Nat),(kh l f a).length <=f/\ ∀ w∈kh l f a,wQ w
 | 0,a=>⟨by simp [kh],λw h=>by simp [kh]at h⟩
 | f+1,a=>by
  simp only [kh]
  split
  ·exact⟨aL,λw h=>by simp at h⟩
  ·have ih:=zM hl f (gY l a+(fW l a).length);have h1:=xY l a;have h2:=CZ l a;have h3:=yM l a;refine⟨by simp;exact ih.1,λw hw=>?_⟩;rcases TL.1 hw with rfl|hw
   ·refine⟨by show(-1000000000:Int)<=(gY l a:Int)+1;omega,by show(gY l a:Int)+1<=1000000000;omega,by show(bs (fW l a)).size <=_;rw [sr];omega⟩
   ·exact ih.2 w hw
theorem ta{l:List UInt8}(hl:l.length<=60000){w0:Wd}{ws:List Wd}(h:ee l 0=w0::ws):g8 w0 ws/\ws.length<=100000:=by
 have h1:=zM (l:=l) ah (l.length+1 - 0) 0;have h2:kh l (l.length+1 - 0) 0=w0::ws:=h;rw [h2]at h1;obtain⟨h3,h4⟩:=h1;simp at h3;exact⟨⟨h4 w0 aL,ah,λw hw=>h4 w (by simp [hw])⟩,ah⟩
structure PI (tx:List UInt8) (i:Nat) (st:RS) (R:iM):Prop where
 go:gl st (((ec tx).map fh).drop i)=R
 le:i<=(ec tx).length
 rw':fX i st
theorem PI.drop{tx:List UInt8}{i:Nat}{st:RS}{R:iM}{l:List UInt8}(h:PI tx i st R)(hl:(ec tx)[i]? =some l):gl st (fh l::((ec tx).map fh).drop (i+1))=R:=by
 rw [<- h.go]
 congr 1
 have hi:=(SN.1 hl).1;have hd:=TU (l:=(ec tx).map fh) (i:=i) (by rw [SZ];exact hi);rw [hd]
 congr 1
 rw [List.getElem_map];have:=(SN.1 hl).2;rw [this]
theorem PI.skip{tx:List UInt8}{i:Nat}{st:RS}{R:iM}{l:List UInt8}(h:PI tx i st R)(hl:(ec tx)[i]? =some l)(hn:ee (fh l) 0= []):PI tx (i+1) (cN st (fh l)) R:=by
 have h1:=h.drop hl;rw [gl,hn]at h1;exact⟨h1,(SN.1 hl).1,h.rw'.skip _⟩
theorem PI.stop{tx:List UInt8}{i:Nat}{st:RS}{R:iM}{l:List UInt8}{w0:Wd}{ws:List Wd}{c e:Int}(h:PI tx i st R)(hl:(ec tx)[i]? =some l)(hn:ee (fh l) 0=w0::ws)(he:e≠0)(hr:fo st.kind w0 ws=(c,e)):R=⟨zL,(i:Int)+1,c,e⟩:=by
 have h1:=h.drop hl;rw [gl,hn]at h1;simp only [hr]at h1;rw [if_neg (λhq=>he (by injection hq)),h.rw'.cnt]at h1;exact h1.symm
theorem PI.step{tx:List UInt8}{i:Nat}{st:RS}{R:iM}{l:List UInt8}{w0:Wd}{ws:List Wd}(h:PI tx i st R)(hl:(ec tx)[i]? =some l)(hn:ee (fh l) 0=w0::ws)(hW:g8 w0 ws)(hr:fo st.kind w0 ws=(0,0)):PI tx (i+1) (fN (cN st (fh l)) w0 ws) R:=by
 have h1:=h.drop hl;rw [gl,hn]at h1;simp only [hr,if_true]at h1;exact⟨h1,(SN.1 hl).1,h.rw'.step hr hW⟩
theorem PI.last{tx:List UInt8}{st:RS}{R:iM}(h:PI tx (ec tx).length st R):R=ll st:=by
 rw [<- h.go,Ue aL];rfl
def kQ(p:List UInt8):List (List UInt8)->List (List UInt8)
 | []=> [p]
 | x::xs=>(p++x)::xs
def fO:List UInt8->List (List UInt8)
 | []=> [[]]
 | b::l=>if b=10 then []::fO l else kQ [b] (fO l)
theorem FC{L:List (List UInt8)}(h:L≠ []):kQ [] L=L:=by cases L with|nil=>exact absurd rfl h|cons x L=>rfl
theorem PQ(p q:List UInt8)(L:List (List UInt8))(h:L≠ []):kQ p (kQ q L)=kQ (p++q) L:=by
 cases L with
 | nil=>exact absurd rfl h
 | cons x L=>simp [kQ]
theorem QY(p:List UInt8)(L:List (List UInt8)):kQ p L≠ []:=by cases L<;>simp [kQ]
theorem sT(l:List UInt8):fO l≠ []:=by
 cases l with
 | nil=>simp [fO]
 | cons b l=>simp only [fO];split<;>simp [QY]
def strip(L:List (List UInt8)):List (List UInt8):=if L.getLast?=some []then L.dropLast else L
theorem Jc{a:List UInt8}{L:List (List UInt8)}(h:L≠ []):strip (a::L)=a::strip L:=by
 cases L with
 | nil=>exact absurd rfl h
 | cons x L=>
  unfold strip;rw [List.getLast?_cons_cons,List.dropLast_cons_cons]
  split<;>rfl
theorem Gx:∀ (l:List UInt8) (j:Nat),j<l.length->l.getD j 0=10->(∀ k,k<j->l.getD k 0≠10)->fO l=l.take j::fO (l.drop (j+1))
 | [],j,h,_,_=>by simp at h
 | b::l,0,h,h1,_=>by
  have:b=10:=h1;subst this;simp [fO]
 | b::l,j+1,h,h1,h2=>by
  have hb:b≠10:=h2 0 ah;simp only [fO,if_neg hb];rw [Gx l j kD h1 (λk hk=>h2 (k+1) ah)];simp [kQ]
theorem Dx:∀ (l:List UInt8),(∀ k,k<l.length->l.getD k 0≠10)->fO l= [l]
 | [],_=>rfl
 | b::l,h=>by
  have hb:b≠10:=h 0 aL;simp only [fO,if_neg hb];rw [Dx l (λk hk=>h (k+1) (by simpa using hk))];rfl
theorem Nc(l:List UInt8):∀ i:Nat,i<=l.length->(rF (bs l) 10)=cls (bs l) 10 i++(kQ ((l.drop (opn (bs l) 10 i)).take (i - opn (bs l) 10 i)) (fO (l.drop i))).map bs:=by
 have hz:(bs l).size =l.length:=rfl;have key:∀ n i:Nat,i+n=l.length->(rF (bs l) 10)=cls (bs l) 10 i++(kQ ((l.drop (opn (bs l) 10 i)).take (i - opn (bs l) 10 i)) (fO (l.drop i))).map bs:=by
  intro n
  induction n with
  | zero=>
   intro i hi;have:i=l.length:=by omega
   subst this;unfold rF;rw [hz,List.drop_length,mZ];simp [fO,kQ]
  | succ n ih=>
   intro i hi;rw [ih (i+1) ah];have hd:l.drop i=l.getD i default::l.drop (i+1):=yO ah;have ho:=zI (bs l) 10 i
   by_cases hb:l.getD i default=10
   ·have h1:=G3 (tx:=bs l) (c:=10) (i:=i) hb;rw [h1.1,h1.2,hd,hb];simp only [fO,if_pos];rw [mZ,Nat.sub_self,List.take_zero,FC (sT _),TP];simp [kQ]
   ·have h1:=G4 (tx:=bs l) (c:=10) (i:=i) hb;rw [h1.1,h1.2,hd];simp only [fO,if_neg hb];rw [PQ _ _ _ (sT _)]
    congr 3
    rw [show i+1 - opn (bs l) 10 i=(i - opn (bs l) 10 i)+1 by omega,List.take_add_one,Tj,show opn (bs l) 10 i+(i - opn (bs l) 10 i)=i by omega,SO,SQ ah];rfl
 intro i hi;exact key (l.length - i) i ah
theorem PR(l:List UInt8):rF (bs l) 10=(fO l).map bs:=by
 rw [Nc l 0 (S8 _)];simp [cls,opn,FC (sT l)]
theorem QZ{l:List UInt8}{j:Nat}(hj:j<l.length)(h:l.getD j 0=10):fh (l.take (j+1))=l.take j:=by
 unfold fh trimSuffix;have hs:hasSuffix (l.take (j+1)) [10]=true:=by
  have:l.take (j+1)=l.take j++ [10]:=by
   rw [List.take_add_one,SQ hj];rw [SO,SQ hj]at h;simp at h;simp [h]
  rw [this];simp [hasSuffix]
 rw [if_pos hs,TT,TF]
 congr 1
 simp only [Ta,TB];omega
theorem Q0{l:List UInt8}(h:∀ k,k<l.length->l.getD k 0≠10):fh l=l:=by
 unfold fh trimSuffix
 split
 ·rename_i hs
  exfalso
  have h1: [10]<:+l:=by simpa [hasSuffix]using hs
  obtain⟨t,ht⟩:=h1;have:=h t.length (by rw [<- ht];simp);apply this;rw [<- ht];simp
 ·rfl
theorem J8:∀ (n:Nat) (l:List UInt8),l.length<=n->(ec l).map fh=strip (fO l):=by
 intro n
 induction n with
 | zero=>
  intro l h;have:l= []:=TD ah;subst this;rw [nE];rfl
 | succ n ih=>
  intro l h
  by_cases h0:l= []
  ·subst h0;rw [nE];rfl
  ·have hp:=Tt.2 h0;rw [oP h0,TC];have hlt:=mS h0;rw [ih (jR l) ah]
   by_cases hi:0<=indexByte l 10
   ·obtain⟨j,hj⟩:∃ j:Nat,indexByte l 10=j:=⟨(indexByte l 10).toNat,ah⟩;obtain⟨a1,a2⟩:=indexByte_some hj;have hjl:j<l.length:=(SN.1 a1).1;have b1:l.getD j 0=10:=by rw [SO,a1];rfl
    have b2:∀ k,k<j->l.getD k 0≠10:=λk hk he=>a2 k hk (by
     rw [SO,SQ ah]at he;rw [SQ ah]
     simpa using he)
    have e1:nB l=l.take (j+1):=by unfold nB;rw [if_pos hi,hj];rfl
    have e2:jR l=l.drop (j+1):=by unfold jR;rw [if_pos hi,hj];rfl
    rw [e1,e2,Gx l j hjl b1 b2,Jc (sT _),QZ hjl b1]
   ·obtain⟨e1,e2⟩:=zY hi;have hb:indexByte l 10= -1:=by have:=(Gj l 10).1;omega
    have b2:∀ k,k<l.length->l.getD k 0≠10:=λk hk he=>indexByte_none hb k (by
     rw [SO,SQ ah]at he;rw [SQ ah]
     simpa using he)
    rw [e1,e2,Dx l b2,Q0 b2];have hl1:strip [l]= [l]:=by unfold strip;rw [if_neg (by simpa using h0)]
    rw [hl1];rfl
theorem yg(l:List UInt8):(ec l).map fh=strip (fO l):=J8 l.length l (SR _)
theorem FD:∀ {fs:List Nat} {w0:Wd} {ws:List Wd},(dA fs w0 ws).2=0->fs.length<=ws.length
 | [],_,_,_=>S8 _
 | f::fs,w0,[],h=>by rw [Gq]at h;cases h
 | f::fs,w0,w::ws,h=>by
  have ih:(dA fs w ws).2=0->fs.length<=ws.length:=FD
  by_cases hf:f=0
  ·subst hf;cases hn:dX w.txt with
   | true=>rw [E8 hn]at h;have:=ih h;simp;omega
   | false=>rw [C4 hn]at h;cases h
  ·cases hn:eB w (f==1)with
   | true=>rw [Gs hf hn]at h;have:=ih h;simp;omega
   | false=>rw [E9 hf hn]at h;cases h
theorem vu{k:ByteArray}{w0:Wd}{ws:List Wd}(h:de k w0 ws=(0,0)):(dF k).length <=ws.length:=by
 unfold de at h
 by_cases hf:(dA (dF k) w0 ws).2=0
 ·exact FD hf
 ·rw [if_neg hf]at h;exact absurd (by rw [h]) hf
theorem PS{w0:Wd}{ws:List Wd}(h:de bj w0 ws=(0,0)):kO ⟨#[]⟩ (dF bj) ws=(cm ws).txt :=by
 have hl:=vu h;rw [qi]at hl ⊢
 match ws,hl with
 | w::ws,_=>simp [kO,cm]
theorem Nh{w0:Wd}{ws:List Wd}(h:de bc w0 ws=(0,0)):im (dF bc) ws=cV (cm ws)::cV (cm ws.tail)::cV (cm ws.tail.tail)::cV (cm ws.tail.tail.tail)::ws.tail.tail.tail.tail.map cV:=by
 have hl:=vu h;rw [qg]at hl ⊢
 match ws,hl with
 | a::b::c::d::ws,_=>simp [im,cm]
theorem PT{w0:Wd}{ws:List Wd}(h:de aU w0 ws=(0,0)):im (dF aU) ws=cV (cm ws)::cV (cm ws.tail)::ws.tail.tail.map cV:=by
 have hl:=vu h;rw [oS]at hl ⊢
 match ws,hl with
 | a::b::ws,_=>simp [im,cm]
theorem J9{w0:Wd}{ws:List Wd}(h:de aX w0 ws=(0,0)):kO ⟨#[]⟩ (dF aX) ws=(cm ws).txt /\im (dF aX) ws=cV (cm ws.tail)::ws.tail.tail.map cV:=by
 have hl:=vu h;rw [qd]at hl ⊢
 match ws,hl with
 | a::b::c::ws,_=>simp [kO,im,cm]
theorem PU{p:ByteArray}(h:dy p aU=0)(hp:p≠⟨#[]⟩):p=bc:=by
 unfold dy at h;rw [m8 hp]at h
 by_cases hq:cv p aU=true
 ·unfold cv at hq;rw [nw,fj]at hq;exact fB.1 (by simpa using hq)
 ·rw [if_neg aD,if_pos (by rw [fj];simp),if_neg hq]at h;cases h
theorem Ko{p:ByteArray}(h:dy p aX=0)(hp:p≠⟨#[]⟩):p=bc\/p=aX:=by
 unfold dy at h;rw [m8 hp]at h
 by_cases hq:cv p aX=true
 ·unfold cv at hq;rw [ny,nA]at hq;simp only [SV,if_false,TJ]at hq;exact hq.imp fB.1 fB.1
 ·rw [if_neg aD,if_pos (by rw [fj];simp),if_neg hq]at h;cases h
structure km (ls:List (List UInt8)) (i:Nat) (st:RS) (R:iM):Prop where
 go:gl st (ls.drop i)=R
 le:i<=ls.length
 rw':fX i st
 kd:st.kind=⟨#[]⟩\/st.kind=bj\/st.kind=bc\/st.kind=aU\/st.kind=aX
 j1:st.kind=bj->st.js= []
 j2:st.kind=bc\/st.kind=aU\/st.kind=aX->st.js≠ []
 kn:st.kind=⟨#[]⟩->cz bj st.ks st.cs= []
theorem km.zero(ls:List (List UInt8)):km ls 0 kj (gl kj ls):=⟨rfl,S8 _,fX.zero,.inl rfl,λ_=>rfl,λh=>by rcases h with h|h|h<;>exact absurd h.symm (by first|exact Af|exact Ag|exact Ah),λ_=>rfl⟩
section
variable {ls:List (List UInt8)} {i:Nat} {st:RS} {R:iM} (h:km ls i st R)
include h
theorem km.drop(hi:i<ls.length):gl st (ls.getD i default::ls.drop (i+1))=R:=by
 rw [<- h.go,TU hi,SO,SQ hi];rfl
theorem km.skip(hi:i<ls.length)(hn:ee (ls.getD i default) 0= []):km ls (i+1) (cN st (ls.getD i default)) R:=by
 have h1:=h.drop hi;rw [gl,hn]at h1;exact⟨h1,hi,h.rw'.skip _,h.kd,h.j1,h.j2,h.kn⟩
theorem km.stop(hi:i<ls.length){w0:Wd}{ws:List Wd}(hn:ee (ls.getD i default) 0=w0::ws){c e:Int}(he:e≠0)(hr:fo st.kind w0 ws=(c,e)):R=⟨zL,(i:Int)+1,c,e⟩:=by
 have h1:=h.drop hi;rw [gl,hn]at h1;simp only [hr]at h1;rw [if_neg (λhq=>he (by injection hq)),h.rw'.cnt]at h1;exact h1.symm
theorem km.step(hi:i<ls.length){w0:Wd}{ws:List Wd}(hn:ee (ls.getD i default) 0=w0::ws)(hW:g8 w0 ws)(hr:fo st.kind w0 ws=(0,0)):km ls (i+1) (fN (cN st (ls.getD i default)) w0 ws) R:=by
 have h1:=h.drop hi;rw [gl,hn]at h1;simp only [hr,if_true]at h1;obtain⟨hk,hb⟩:=Gw hr;refine⟨h1,hi,h.rw'.step hr hW,?_,?_,?_,?_⟩
 all_goals
  by_cases h2:w0.txt=bj
  ·have hp:=FB hk h2;have hj:=h.rw'.j0 hp;simp only [fN,h2,fj,if_true]
   first
    | exact λ_=>hj
    | (simp;done)
    | (intro h3;rcases h3 with h3|h3|h3<;>exact absurd h3.symm (by first|exact fa mz|exact fa mB|exact fa mC))
    | (intro h3;exact absurd h3 Hk)
  ·obtain⟨hp,hc⟩:=yf hk h2;obtain⟨tx,c0⟩:=w0;have hj2:st.kind=bc\/st.kind=aU\/st.kind=aX->st.js≠ []:=h.j2;rcases hc with h3|h3|h3<;>(simp only at h3;subst h3)<;>simp only [fN,mz,mB,nw,mC,ny,nA,fj,if_true,SV,if_false]
   all_goals first
    | (simp;done)
    | (intro _;exact hj2 (.inl (PU hk hp)))
    | (intro _;exact hj2 ((Ko hk hp).imp id .inr))
    | (intro h4;exact absurd h4 Af)
    | (intro h4;exact absurd h4 Ag)
    | (intro h4;exact absurd h4 Ah)
    | (intro h4;exact absurd h4 (fa mz))
    | (intro h4;exact absurd h4 (fa mB))
    | (intro h4;exact absurd h4 (fa mC))
    | (intro _;simp;done)
    | skip
 all_goals skip
theorem km.last(hi:i=ls.length):R=ll st:=by
 rw [<- h.go,Ue ah];rfl
end
end Go.Proofs.YtfoaiidcfkmneaaGreatDoor
namespace Go.Proofs.YtfoaiidcfkmneaaGreatDoor
open Go Go.RowKit Go.Proofs Go.Shelf Go.Lib
def eo(l:List UInt8):List AV:= [.v (.string (bs l))]
theorem eM(a b c d:Int): [[AV.v (.int .i64 a),AV.v (.int .i64 b),AV.v (.int .i64 c),AV.v (.int .i64 d)]]= [(⟨a,b,c,d⟩:gB)].map dp:=rfl
theorem eN(a b:Int): [[AV.v (.int .i64 a),AV.v (.int .i64 b)]]= [(⟨a,b⟩:g9)].map dx:=rfl
theorem Ni(tx:List UInt8)(hl:tx.length<=1000000):bT Tryz.prog 18 [.v (.string (bs tx)),.v (.int .u8 10)] (λq=>q= .row 1 ((fO tx).map eo)):=by
 have h:=O7 (bs tx) 10 hl;rw [PR,List.map_map]at h;exact h
theorem BH{L:List (List UInt8)}(hne:L≠ []):L=strip L++ [[]]/\L.getD (L.length - 1) default= []\/strip L=L/\L.getD (L.length - 1) default≠ []:=by
 have hl:=Tt.2 hne;have hg:L.getLast?=some (L.getD (L.length - 1) default):=by
  rw [List.getLast?_eq_getElem?,SO,SQ ah];rfl
 unfold strip;rw [hg]
 by_cases h:L.getD (L.length - 1) default= []
 ·refine .inl ⟨?_,h⟩;rw [if_pos (by rw [h])];have h2:=List.dropLast_concat_getLast hne;rw [List.getLast?_eq_some_getLast hne]at hg
  injection hg with hg
  rw [<- hg]at h;rw [h]at h2;exact h2.symm
 ·exact .inr ⟨by rw [if_neg (λe=>h (by injection e))],h⟩
theorem Gy{L:List (List UInt8)}(hne:L≠ [])(h:((bs (L.getD ((L.length:Int) - 1).toNat default)).toList ==(⟨#[]⟩:ByteArray).toList)=false):AV.row 1 (L.map eo)= .row 1 ((strip L).map eo):=by
 rcases BH hne with h2|h2
 ·exfalso
  rw [show((L.length:Int) - 1).toNat =L.length - 1 by omega,h2.2,show(⟨#[]⟩:ByteArray)=bs []from rfl,tV]at h;simp at h
 ·rw [h2.1]
theorem Gz{L:List (List UInt8)}{n:Nat}(hne:L≠ [])(h:((bs (L.getD ((L.length:Int) - 1).toNat default)).toList ==(⟨#[]⟩:ByteArray).toList)=true)(hn:n=L.length - 1):AV.row 1 (List.take n (L.map eo))= .row 1 ((strip L).map eo):=by
 rcases BH hne with h2|h2
 ·have h3:=h2.1;generalize strip L=cs at h3 ⊢;subst h3;have e:n=cs.length:=by rw [hn];simp
  rw [e,List.map_append,List.take_left' aL]
 ·exfalso
  have h3:=h2.2;rw [show((L.length:Int) - 1).toNat =L.length - 1 by omega,show(⟨#[]⟩:ByteArray)=bs []from rfl,tV,tV]at h;exact h3 (eq_of_beq h)
theorem Nj(tx:List UInt8)(k:Nat):((strip (fO tx)).getD k default).length <=tx.length:=by
 rw [<- yg,SO,SU];cases h:(ec tx)[k]? with
 | none=>exact S8 _
 | some l=>
  show(fh l).length <=_
  have h1:=xp (S9 h);have h2:=ye l;omega
theorem GA(sw:Bool):∀ ws:List Wd,il sw ws=(0,0)\/(il sw ws).2=7
 | []=>.inl rfl
 | w::ws=>by
  unfold il
  split
  ·exact GA sw ws
  ·exact .inr rfl
theorem q8{k:ByteArray}{w0:Wd}{ws:List Wd}(h:(de k w0 ws).2=0):de k w0 ws=(0,0):=by
 unfold de at h ⊢
 by_cases hf:(dA (dF k) w0 ws).2=0
 ·rw [if_pos hf]at h ⊢;rcases GA (aS k aX) (ws.drop (dF k).length)with h1|h1
  ·exact h1
  ·rw [h1]at h;cases h
 ·rw [if_neg hf]at h;exact absurd h hf
def oK(k:ByteArray)(w0:Wd)(ws:List Wd):ByteArray:=if(de k w0 ws).2=0 then kO ⟨#[]⟩ (dF k) ws else⟨#[]⟩
def hG(k:ByteArray)(w0:Wd)(ws:List Wd):List Int:=if(de k w0 ws).2=0 then im (dF k) ws else []
theorem RG(k:ByteArray)(w0:Wd)(ws:List Wd):qb k w0 ws= .tuple [.v (.string (oK k w0 ws)),.row 1 ((hG k w0 ws).map iE),mA (de k w0 ws).1,mA (de k w0 ws).2]:=by
 unfold qb oK hG
 by_cases h:(de k w0 ws).2=0
 ·rw [if_pos h,if_pos h,if_pos h,q8 h]
 ·rw [if_neg h,if_neg h,if_neg h]
theorem Sj{k:ByteArray}(h:k=⟨#[]⟩\/k=bj\/k=bc\/k=aU\/k=aX):k.toList= []\/k.toList= [108,105,110,101]\/k.toList= [106,111,105,110,116]\/k.toList= [98,101,97,109]\/k.toList= [115,119,105,116,99,104]:=by
 rcases h with rfl|rfl|rfl|rfl|rfl<;>simp only [toList_data]<;>simp [bj,bc,aU,aX]
def fP(cs:List (List UInt8))(n:Int)(kd nm:ByteArray)(js:List gB)(bs:List g9)(ss:List fM)(z:Int)(rj rb rs:List Int)(R:iM):Prop:=
 ∃ st:RS,km cs (n - 1).toNat st R/\st.kind=kd/\st.nam=nm/\st.js=js/\st.bs=bs/\st.ss=ss/\(cz bj st.ks st.cs).getD 0 0=z/\cz bc st.ks st.cs=rj/\cz aU st.ks st.cs=rb/\cz aX st.ks st.cs=rs
theorem fP.zero(cs:List (List UInt8)):fP cs 1 ⟨#[]⟩ ⟨#[]⟩ [] [] [] 0 [] [] [] (gl kj cs):=⟨kj,km.zero cs,rfl,rfl,rfl,rfl,rfl,rfl,rfl,rfl,rfl⟩
section
variable {cs:List (List UInt8)} {n:Int} {kd nm:ByteArray} {js:List gB} {bl:List g9} {ss:List fM} {z:Int} {rj rb rs:List Int} {R:iM} (h:fP cs n kd nm js bl ss z rj rb rs R) (h1:1<=n) (h2:n<=cs.length)
include h h1 h2
theorem fP.skip(hn:ee (cs.getD (n - 1).toNat default) 0= []):fP cs (n+1) kd nm js bl ss z rj rb rs R:=by
 obtain⟨st,hI,e⟩:=h;have:=hI.skip ah hn;rw [show(n - 1).toNat +1=(n+1 - 1).toNat by omega]at this;exact⟨_,this,e⟩
variable {w0:Wd} {ws:List Wd} (hn:ee (cs.getD (n - 1).toNat default) 0=w0::ws)
include hn
theorem fP.RI(hk:dy kd w0.txt≠0):R=⟨zL,n,w0.col,dy kd w0.txt⟩:=by
 obtain⟨st,hI,e1,e⟩:=h;subst e1;have:=hI.stop ah hn (c:=w0.col) hk (by unfold fo;rw [if_neg hk]);rw [this];congr 1;omega
theorem fP.RJ(hk:dy kd w0.txt=0)(hb:(de w0.txt w0 ws).2≠0):R=⟨zL,n,(de w0.txt w0 ws).1,(de w0.txt w0 ws).2⟩:=by
 obtain⟨st,hI,e1,e⟩:=h;subst e1;have:=hI.stop ah hn hb (by unfold fo;rw [if_pos hk]);rw [this];congr 1;omega
variable (hW:g8 w0 ws) (hk:dy kd w0.txt=0) (hb:(de w0.txt w0 ws).2=0)
include hW hk hb
theorem fP.go:∃ st:RS,km cs (n - 1).toNat st R/\km cs (n+1 - 1).toNat (fN (cN st (cs.getD (n - 1).toNat default)) w0 ws) R/\st.cnt+1=n/\st.kind=kd/\st.nam=nm/\st.js=js/\st.bs=bl/\st.ss=ss/\(cz bj st.ks st.cs).getD 0 0=z/\cz bc st.ks st.cs=rj/\cz aU st.ks st.cs=rb/\cz aX st.ks st.cs=rs:=by
 obtain⟨st,hI,e1,e⟩:=h;have hr:fo st.kind w0 ws=(0,0):=by unfold fo;rw [e1,if_pos hk,q8 hb]
 have h3:=hI.step ah hn hW hr;rw [show(n - 1).toNat +1=(n+1 - 1).toNat by omega]at h3;exact⟨st,hI,h3,by rw [hI.rw'.cnt];omega,e1,e⟩
theorem fP.line(hx:w0.txt=bj):fP cs (n+1) w0.txt (oK w0.txt w0 ws) js bl ss n rj rb rs R:=by
 obtain⟨st,hI,h3,hc,e1,e2,e3,e4,e5,e6,e7,e8,e9⟩:=h.go h1 h2 hn hW hk hb;have hz:=q8 hb;have hp:st.kind=⟨#[]⟩:=by rw [e1];exact FB hk hx
 have lk:∀ k',cz k' ((cN st (cs.getD (n - 1).toNat default)).add bj).ks ((cN st (cs.getD (n - 1).toNat default)).add bj).cs =if bj=k' then cz k' st.ks st.cs++ [st.cnt+1]else cz k' st.ks st.cs:=λk'=>q7 bj k' _ _ _
 have hnm:oK w0.txt w0 ws=(cm ws).txt :=by
  unfold oK;rw [if_pos hb];rw [hx]at hz ⊢;exact PS hz
 have ncl:=fa (kY bj bc ▸ mz);have nlb:=fa (kY bj aU ▸ mB);have nls:=fa (kY bj aX ▸ mC);refine⟨_,h3,?_,?_,?_,?_,?_,?_,?_,?_,?_⟩<;>simp only [fN,hx,fj,if_true]
 ·rw [hnm.symm,hx]
 ·exact e3
 ·exact e4
 ·exact e5
 ·rw [lk,if_pos rfl,hI.kn hp];exact hc
 ·rw [lk,if_neg ncl];exact e7
 ·rw [lk,if_neg nlb];exact e8
 ·rw [lk,if_neg nls];exact e9
theorem fP.RL(hx:w0.txt=bc):fP cs (n+1) w0.txt nm (js++ [⟨(hG w0.txt w0 ws).getD 0 default,(hG w0.txt w0 ws).getD 1 default,(hG w0.txt w0 ws).getD 2 default,(hG w0.txt w0 ws).getD 3 default⟩]) bl ss z (rj++ [n]) rb rs R/\4<=(hG w0.txt w0 ws).length :=by
 obtain⟨st,hI,h3,hc,e1,e2,e3,e4,e5,e6,e7,e8,e9⟩:=h.go h1 h2 hn hW hk hb;have hz:=q8 hb;have lk:∀ k',cz k' ((cN st (cs.getD (n - 1).toNat default)).add bc).ks ((cN st (cs.getD (n - 1).toNat default)).add bc).cs =if bc=k' then cz k' st.ks st.cs++ [st.cnt+1]else cz k' st.ks st.cs:=λk'=>q7 bc k' _ _ _
 have hr:hG w0.txt w0 ws=cV (cm ws)::cV (cm ws.tail)::cV (cm ws.tail.tail)::cV (cm ws.tail.tail.tail)::ws.tail.tail.tail.tail.map cV:=by
  unfold hG;rw [if_pos hb];rw [hx]at hz ⊢;exact Nh hz
 have njl:=fa mz;have njb:=fa (kY bc aU ▸ nw);have njs:=fa (kY bc aX ▸ ny);rw [hr];refine⟨⟨_,h3,?_,?_,?_,?_,?_,?_,?_,?_,?_⟩,aL⟩<;>simp only [fN,hx,mz,fj,if_true,SV,if_false]
 ·exact e2
 ·rw [<- e3];rfl
 ·exact e4
 ·exact e5
 ·rw [lk,if_neg njl];exact e6
 ·rw [lk,if_pos rfl,e7,hc]
 ·rw [lk,if_neg njb];exact e8
 ·rw [lk,if_neg njs];exact e9
theorem fP.Sl(hx:w0.txt=aU):fP cs (n+1) w0.txt nm js (bl++ [⟨(hG w0.txt w0 ws).getD 0 default,(hG w0.txt w0 ws).getD 1 default⟩]) ss z rj (rb++ [n]) rs R/\2<=(hG w0.txt w0 ws).length :=by
 obtain⟨st,hI,h3,hc,e1,e2,e3,e4,e5,e6,e7,e8,e9⟩:=h.go h1 h2 hn hW hk hb;have hz:=q8 hb;have lk:∀ k',cz k' ((cN st (cs.getD (n - 1).toNat default)).add aU).ks ((cN st (cs.getD (n - 1).toNat default)).add aU).cs =if aU=k' then cz k' st.ks st.cs++ [st.cnt+1]else cz k' st.ks st.cs:=λk'=>q7 aU k' _ _ _
 have hr:hG w0.txt w0 ws=cV (cm ws)::cV (cm ws.tail)::ws.tail.tail.map cV:=by
  unfold hG;rw [if_pos hb];rw [hx]at hz ⊢;exact PT hz
 have nbl:=fa mB;have nbj:=fa nw;have nbs:=fa (kY aU aX ▸ nA);rw [hr];refine⟨⟨_,h3,?_,?_,?_,?_,?_,?_,?_,?_,?_⟩,aL⟩<;>simp only [fN,hx,mB,nw,fj,if_true,SV,if_false]
 ·exact e2
 ·exact e3
 ·rw [<- e4];rfl
 ·exact e5
 ·rw [lk,if_neg nbl];exact e6
 ·rw [lk,if_neg nbj];exact e7
 ·rw [lk,if_pos rfl,e8,hc]
 ·rw [lk,if_neg nbs];exact e9
theorem fP.switch(hx:w0.txt=aX):fP cs (n+1) w0.txt nm js bl (ss++ [⟨oK w0.txt w0 ws,(hG w0.txt w0 ws).getD 0 default,(hG w0.txt w0 ws).drop 1⟩]) z rj rb (rs++ [n]) R/\1<=(hG w0.txt w0 ws).length :=by
 obtain⟨st,hI,h3,hc,e1,e2,e3,e4,e5,e6,e7,e8,e9⟩:=h.go h1 h2 hn hW hk hb;have hz:=q8 hb;have lk:∀ k',cz k' ((cN st (cs.getD (n - 1).toNat default)).add aX).ks ((cN st (cs.getD (n - 1).toNat default)).add aX).cs =if aX=k' then cz k' st.ks st.cs++ [st.cnt+1]else cz k' st.ks st.cs:=λk'=>q7 aX k' _ _ _
 have hr:oK w0.txt w0 ws=(cm ws).txt /\hG w0.txt w0 ws=cV (cm ws.tail)::ws.tail.tail.map cV:=by
  unfold oK hG;rw [if_pos hb,if_pos hb];rw [hx]at hz ⊢;exact J9 hz
 have nsl:=fa mC;have nsj:=fa ny;have nsb:=fa nA;rw [hr.1,hr.2];refine⟨⟨_,h3,?_,?_,?_,?_,?_,?_,?_,?_,?_⟩,aL⟩<;>simp only [fN,hx,mC,ny,nA,SV,if_false]
 ·exact e2
 ·exact e3
 ·exact e4
 ·rw [<- e5];rfl
 ·rw [lk,if_neg nsl];exact e6
 ·rw [lk,if_neg nsj];exact e7
 ·rw [lk,if_neg nsb];exact e8
 ·rw [lk,if_pos rfl,e9,hc]
end
section
variable {cs:List (List UInt8)} {n:Int} {kd nm:ByteArray} {js:List gB} {bl:List g9} {ss:List fM} {z:Int} {rj rb rs:List Int} {R:iM} (h:fP cs n kd nm js bl ss z rj rb rs R)
include h
theorem fP.kinds:kd=⟨#[]⟩\/kd=bj\/kd=bc\/kd=aU\/kd=aX:=by
 obtain⟨st,hI,e1,e⟩:=h;rw [<- e1];exact hI.kd
theorem fP.tG(hc:cs.length<=60001):fw ⟨nm,js,bl,ss⟩/\rj.length<=60001/\rb.length<=60001/\rs.length<=60001/\js.length<=60001/\bl.length<=60001/\ss.length<=60001:=by
 obtain⟨st,hI,e1,e2,e3,e4,e5,e6,e7,e8,e9⟩:=h;have hr:=hI.rw';have hle:=hI.le;have a1:=hr.jb;have a2:=hr.bb;have a3:=hr.sb;have a4:=hr.jl;have a5:=hr.bl;have a6:=hr.sl;have hs:=hr.tG ah;rw [e7]at a4;rw [e8]at a5;rw [e9]at a6;rw [e3]at a1 a4;rw [e4]at a2 a5;rw [e5]at a3 a6;refine⟨?_,ah,ah,ah,ah,ah,ah⟩;have:st.dQ=⟨nm,js,bl,ss⟩:=by unfold RS.dQ;rw [e2,e3,e4,e5]
 rw [<- this];exact hs
variable (hn:n=cs.length+1)
include hn
theorem fP.Sm(hk:kd=⟨#[]⟩\/kd=bj\/kd=aU):R=⟨zL,cs.length+1,1,6⟩:=by
 obtain⟨st,hI,e1,e2,e3,e4,e5,e6,e7,e8,e9⟩:=h;rw [hI.last ah];unfold ll;have hc:st.cnt=cs.length:=by rw [hI.rw'.cnt];omega
 rw [if_pos,hc];rcases hk with hk|hk|hk
 ·left;rw [hI.rw'.j0 (by rw [e1,hk])];rfl
 ·left;rw [hI.j1 (by rw [e1,hk])];rfl
 ·right;rw [e1,hk,fj]
theorem fP.Sr(h1:kd≠⟨#[]⟩)(h2:kd≠bj)(h3:kd≠aU):((cg ⟨nm,js,bl,ss⟩).2=0->R=⟨⟨nm,js,bl,ss⟩,0,0,0⟩)/\((cg ⟨nm,js,bl,ss⟩).2≠0->(0<=(cg ⟨nm,js,bl,ss⟩).1.1/\(cg ⟨nm,js,bl,ss⟩).1.1<=3/\0<=(cg ⟨nm,js,bl,ss⟩).1.2)/\
 ((cg ⟨nm,js,bl,ss⟩).1.1=0->R=⟨zL,z,1,(cg ⟨nm,js,bl,ss⟩).2⟩)/\
 ((cg ⟨nm,js,bl,ss⟩).1.1=1->(cg ⟨nm,js,bl,ss⟩).1.2<rj.length/\R=⟨zL,rj.getD (cg ⟨nm,js,bl,ss⟩).1.2.toNat default,1,(cg ⟨nm,js,bl,ss⟩).2⟩)/\
 ((cg ⟨nm,js,bl,ss⟩).1.1=2->(cg ⟨nm,js,bl,ss⟩).1.2<rb.length/\R=⟨zL,rb.getD (cg ⟨nm,js,bl,ss⟩).1.2.toNat default,1,(cg ⟨nm,js,bl,ss⟩).2⟩)/\
 ((cg ⟨nm,js,bl,ss⟩).1.1=3->(cg ⟨nm,js,bl,ss⟩).1.2<rs.length/\R=⟨zL,rs.getD (cg ⟨nm,js,bl,ss⟩).1.2.toNat default,1,(cg ⟨nm,js,bl,ss⟩).2⟩)):=by
 obtain⟨st,hI,e1,e2,e3,e4,e5,e6,e7,e8,e9⟩:=h;have hlin:st.dQ=⟨nm,js,bl,ss⟩:=by unfold RS.dQ;rw [e2,e3,e4,e5]
 have hj:st.js≠ []:=by
  rcases hI.kd with h4|h4|h4|h4|h4
  ·exact absurd (e1.symm.trans h4) h1
  ·exact absurd (e1.symm.trans h4) h2
  ·exact hI.j2 (.inl h4)
  ·exact absurd (e1.symm.trans h4) h3
  ·exact hI.j2 (.inr (.inr h4))
 have hR:R=ll st:=hI.last ah;have hnb:¬ (st.js.length=0\/aS st.kind aU=true):=by
  rintro(h5|h5)
  ·exact hj (TD h5)
  ·exact h3 (e1.symm.trans (fB.1 h5))
 unfold ll at hR;rw [if_neg hnb,hlin]at hR;refine⟨λhz=>by rw [hR,if_pos hz],λhz=>?_⟩;rw [if_neg hz]at hR;have hrow:=hI.rw'.row (λh5=>hj (TD h5)) (by rw [hlin];exact hz);rw [hlin]at hrow;obtain⟨⟨r1,r2⟩,r3,r4⟩:=hrow;have l0:lQ 0=bj:=rfl;have l1:lQ 1=bc:=rfl;have l2:lQ 2=aU:=rfl;have l3:lQ 3=aX:=rfl;refine⟨⟨r1,r2,r3⟩,λhq=>?_,λhq=>?_,λhq=>?_,λhq=>?_⟩<;>rw [hq]at hR r4
 ·have:(cg ⟨nm,js,bl,ss⟩).1.2=0:=by
   rcases Dw hz with h6|⟨i,_,h7|h7|h7⟩
   ·exact h6.2
   all_goals (rw [hq]at h7;exact absurd h7.1 aD)
  rw [hR,this,l0, <- e6];rfl
 ·rw [l1,e7]at hR r4;exact⟨r4,hR⟩
 ·rw [l2,e8]at hR r4;exact⟨r4,hR⟩
 ·rw [l3,e9]at hR r4;exact⟨r4,hR⟩
end
end Go.Proofs.YtfoaiidcfkmneaaGreatDoor
namespace Go.Proofs.YtfoaiidcfkmneaaGreatDoor
open Go Go.RowKit Go.Proofs
theorem PV:b9 Tryz.prog 24 76 2 16 (.agg #[.int .i64 0,.int .i64 0]):=⟨aj,aj,aj⟩
theorem yV:b9 Tryz.prog 25 78 3 48 (.agg #[.string ByteArray.empty,.int .i64 0,.slice none 0 0]):=⟨aj,aj,aj⟩
theorem qH:b9 Tryz.prog 64 3 1 8 (.int .i64 0):=⟨aj,aj,aj⟩
theorem PW:aV Tryz.prog 24 false 1:=⟨aj,aj⟩
theorem yW:aV Tryz.prog 25 false 1:=⟨aj,aj⟩
theorem q9:aV Tryz.prog 3 false 1:=⟨aj,aj⟩
theorem qI:aV Tryz.prog 64 false 1:=⟨aj,aj⟩
theorem FG:aV Tryz.prog 78 true 3:=⟨aj,aj⟩
theorem zN:aV Tryz.prog 9 false 1:=⟨aj,aj⟩
theorem BJ{α:Type}[Inhabited α]{l:List α}{j k:Nat}(h:j<k):(l.take k).getD j default=l.getD j default:=by simp [SO,h]
theorem xb{α:Type}[Inhabited α]{p:α->Bool}{l:List α}{j k:Nat}(hj:j<k)(hk:k<=l.length)(h:p (l.getD j default)=true):(l.take k).any p=true:=by
 rw [T8];have hl:j<(l.take k).length :=by rw [TF];omega
 refine⟨(l.take k)[j],TQ hl,?_⟩;rw [<- BJ (l:=l) hj,SO,SQ hl]at h;exact h
theorem oN{α:Type}[Inhabited α]{p:α->Bool}{l:List α}{k:Nat}(h:∀ j:Nat,j<k->p (l.getD j default)=false):(l.take k).any p=false:=by
 rw [List.any_eq_false];intro x hx;obtain⟨j,hj,rfl⟩:=TK hx;have hjk:j<k:=by rw [TF]at hj;omega
 have:=h j hjk;rw [<- BJ (l:=l) hjk,SO,SQ hj]at this
 simpa using this
theorem PX{α:Type}[Inhabited α]{p:α->Bool}{l:List α}{j:Nat}(hj:j<l.length)(h:p (l.getD j default)=true):l.any p=true:=by
 have:=xb (k:=l.length) hj (SR _) h
 rwa [UG]at this
theorem Dy{α:Type}[Inhabited α]{p:α->Bool}{l:List α}(h:∀ j:Nat,j<l.length->p (l.getD j default)=false):l.any p=false:=by
 have:=oN (k:=l.length) h
 rwa [UG]at this
theorem Jd(l:bN)(hl:fw l)(i:Int)(hi:0<=i/\i<l.ss.length):bT Tryz.prog 48 [gA l,mA i] (λq=>q=mA (gV l i.toNat)):=by
 obtain⟨h1,h2,h3,h4,h5⟩:=id hl;have hs:=hl.at i.toNat;refine cA (fn:=Tryz.f48) 92 aj rfl aj bO ?_;intro dl ep hA dm;have dn:al dl (.tmp 0)=_:=hA 0 _ rfl;have dt:al dl (.tmp 1)=_:=hA 1 _ rfl;have b1:ep.length=0:=by rw [dm];rfl
 clear hA dm;refine ax<|at_<|aM (fD dn rfl b1) trivial rfl (λfz b2=>?_)
 have b6:=bS b2 b1;have av:=bR b2 b1;have av:_=1:=av;clear b2;refine ar (aB aw) rfl<|bD (ag dt) (ae aa) ?_;clear dn dt;intro fA b8 b9
 refine ao<|ax<|at_<|ar (aJ gu rfl b9) rfl<|ar (az (aK yW rfl b6 aa aA) eb) rfl ?_
 refine ar (ak (ag b8)) rfl<|ar (az (cE yV (ae aa) aa ah (by(refine dq ?_;omega))) eb) rfl ?_
 refine ar (az (bL FG rfl aa aA) eb) rfl ?_;refine aM (cJ ra rfl av) trivial rfl (λfB bj=>?_);have bv:=bS bj av;simp only [pS,Value.cells,Nat.reduceAdd,ei]at bv;have du:=aI bj b6;have cb:=bR bj av;have cb:_=2:=cb;clear bj b6;refine aM (bV aa (ae aa) rfl rfl bv rh rfl aA) trivial rfl (λdv bx=>?_);have aL:=bo bx bv;simp only [pS,Value.cells,Nat.reduceAdd,ei]at aL;have cc:=au bx du aD;have dw:=bh bx cb;clear bx bv du;refine bB (aE (ag (ai b8))) (aE (ag (ai b9))) (aE aa) ?_;clear b8 b9;intro fC dy dz cd;refine ao<|ax<|ax<|at_<|ar (aJ nK rfl cd) rfl<|ar (az (aK zN rfl aL aa aA) eb) rfl ?_
 refine ar (bI (aG aa aN) rfl (xk _ ah) zh) rfl ?_;refine ar (dT aa) rfl<|bu (ai dy) (ai dz) (ai cd) aa ?_;clear dy dz cd;intro fE ce cg ci cm
 refine ao<|bk cm (λaO=>?_) (λaO=>?_)
 ·replace aO:=cT aO;refine ax<|at_<|ar (aB aw) rfl<|bn aa ?_;clear cm ce cg ci;intro fF dA
  refine ao<|bm<|bw<|bX bp aj (aR dA) (.ro _ rfl) ?_
  clear dA aL cc dw
  (have e:dX (l.ss.getD i.toNat default).nam =false:=(by assumption);unfold gV;rw [e];rfl)
 replace aO:=di aO;refine bF<|ao<|ax<|ax<|at_<|ar (aB aw) rfl<|bu (ae ce) (ae cg) (ae ci) aa ?_;clear cm ce cg ci;intro co dB dC dD er
 refine ao<|ca<|eL (S:=Int) (λk e mem=>(al e (.tmp 6)= .v (.int .i64 k))/\(al e (.tmp 1)=al co (.tmp 1))/\(al e (.tmp 2)=al co (.tmp 2))/\(al e (.tmp 5)=al co (.tmp 5))/\(mem[1]? =dv[1]?)/\(mem[0]? =dv[0]?)/\(mem.length=2)/\((0<=k/\k<=i/\ ∀ j:Nat,j<k.toNat->((l.ss.getD j default).nam.toList ==(l.ss.getD i.toNat default).nam.toList)=false))) (λk=>(i - k).toNat) _ ⟨er,rfl,rfl,rfl,rfl,rfl,dw,?_⟩ ?_
 ·(exact⟨ah,ah,λj h=>absurd h ah⟩)
 ·rintro k fH dF ⟨cq,ev,ew,ey,ez,eA,aP,hinv⟩;have cr:=ev.trans dB;have dG:=ew.trans dC;have dH:=ey.trans dD;have ad:=ez.trans aL;have af:=eA.trans cc
  (obtain⟨p1,p2,p3⟩:=hinv)
  refine ax<|ax<|at_<|ar (ak cq) rfl<|ar (ak (ae cr)) rfl<|ar (c6 (ae aa) aa) rfl<|ck (ae (ag cr)) (ae (ag dG)) (ae (ag dH)) (ae (ag cq)) aa ?_;clear cr dG dH cq;intro fI bz aS an bA cu
  refine ao<|bk cu (λaT=>?_) (λaT=>?_)
  ·replace aT:=bt aT;refine bF<|ao<|ax<|ca<|ax<|eu 9 aj aj aj aj ?_
   refine dr (aJ gu rfl aS) rfl<|dr (az (aK yW rfl af aa aA) eb) rfl ?_
   refine dr (ak (ag bA)) rfl<|dr (az (cE yV (ae aa) aa ah (by(refine dq ?_;omega))) eb) rfl ?_
   refine dr (az (cj nK rfl aa) eb) rfl ?_;refine dr (az (bL zN rfl aa aA) eb) rfl ?_;refine dr (aJ nK rfl (ag (ai an))) rfl<|dr (az (aK zN rfl ad aa aA) eb) rfl ?_
   refine dr (cX (ag aa) aa) rfl<|dE<|ck (ae (ay bz)) (ae (ay aS)) (ae (ay an)) (ae (ay bA)) aa ?_;clear bz cu aS an bA;intro fJ cv cy cz cB cC
   refine ao<|bk cC (λeB=>?_) (λeB=>?_)
   ·skip;refine ax<|at_<|ar (aB aw) rfl<|bn aa ?_;clear cv cy cC cz cB;intro fK dK
    refine ao<|bm<|cD<|bw<|bw<|cD<|bw<|bX bp aj (aR dK) (.ro _ rfl) ?_
    clear dK ad af aP
    (have e:dX (l.ss.getD i.toNat default).nam =true:=(by assumption);have e2:=xb (l:=l.ss) (k:=i.toNat) (p:=λo=>o.nam.toList==(l.ss.getD i.toNat default).nam.toList) (j:=k.toNat) ah ah (by assumption);unfold gV;rw [e,e2];rfl)
   refine bF<|cG<|ao<|at_<|ar (ak cB) rfl ?_
   (refine ar (cf aa aw ?_) rfl ?_; · (unfold In64;omega))
   refine ar (aB aa) rfl<|bu (ae (ag cv)) (ae (ag cy)) (ae (ag cz)) aa ?_;clear cv cy cC cz cB;intro fL eD eE eF eG
   refine ao<|⟨_,⟨eG,(eD.trans dB.symm),(eE.trans dC.symm),(eF.trans dD.symm),(ad.trans aL.symm),(af.trans cc.symm),aP,?_⟩,?_⟩
   ·(refine⟨ah,ah,λj hj=>?_⟩;by_cases hji:j<k.toNat;(exact p3 j hji);(rw [show j=k.toNat by omega];assumption))
   ·((try dsimp only);omega)
  replace aT:=bf aT;refine dJ<|cw<|cw<|dI<|ao<|ax<|ax<|at_<|ar (aJ kz rfl an) rfl<|ar (az (aK qI rfl ad aa aA) eb) rfl ?_
  refine ar (az (cx aa rfl qH.1) ct) rfl ?_;refine ar (dN aa aw) rfl ?_;refine bu (ai bz) (ai aS) (ai an) aa ?_;clear bz cu aS an bA;intro fM cF bE aU cH;refine ao<|bk cH (λaV=>?_) (λaV=>?_)
  ·replace aV:=bt aV;refine ax<|at_<|ar (aB aw) rfl<|bn aa ?_;clear cF bE cH aU;intro fN dL
   refine ao<|bm<|bw<|bX bp aj (aR dL) (.ro _ rfl) ?_
   clear dL ad af aP
   (have e:dX (l.ss.getD i.toNat default).nam =true:=(by assumption);have e2:=oN (l:=l.ss) (k:=i.toNat) (p:=λo=>o.nam.toList==(l.ss.getD i.toNat default).nam.toList) (λj hj=>p3 j ah);unfold gV;rw [e,e2,if_pos (show(l.ss.getD i.toNat default).acr.length =0 by omega)];rfl)
  replace aV:=bf aV;refine bF<|ao<|ax<|ax<|at_<|ar (aJ jW rfl aU) rfl<|ar (az (aK q9 rfl ad aa aA) eb) rfl ?_
  refine ar (aJ eK rfl (ag bE)) rfl<|ar (az (aK PW rfl af aa aA) eb) rfl ?_
  refine ar (az (cx aa rfl PV.1) ct) rfl ?_;refine ar (aJ kz rfl (ae (ai aU))) rfl<|ar (az (aK qI rfl ad aa aA) eb) rfl ?_
  refine ar (az (cx aa rfl qH.1) ct) rfl ?_
  (refine ar (eU (ae (ag aa)) aa ?_) rfl ?_; · (unfold In64;omega))
  refine ar (bI (aG (ae (ag (ai aa))) (aG aw (aG aa aN))) rfl (xj _ _ _) zi) rfl<|ar (dT aa) rfl<|bu (ae (ag (ay cF))) (ae (ag (ay bE))) (ae (ag (ay aU))) aa ?_;clear cF bE cH aU;intro fO cI cK cL cM
  refine ao<|bk cM (λaX=>?_) (λaX=>?_)
  ·replace aX:=cT aX;refine ax<|at_<|ar (aB aw) rfl<|bn aa ?_;clear cI cK cM cL;intro fP dM
   refine ao<|bm<|bw<|bX bp aj (aR dM) (.ro _ rfl) ?_
   clear dM ad af aP
   (have e:dX (l.ss.getD i.toNat default).nam =true:=(by assumption);have e2:=oN (l:=l.ss) (k:=i.toNat) (p:=λo=>o.nam.toList==(l.ss.getD i.toNat default).nam.toList) (λj hj=>p3 j ah);unfold gV;rw [e,e2,if_neg (show ¬ (l.ss.getD i.toNat default).acr.length =0 by omega), ‹eC _ _ _=false›];rfl)
  replace aX:=di aX;refine bF<|ao<|ax<|ax<|at_<|ar (aB aw) rfl<|bu (ae cI) (ae cK) (ae cL) aa ?_;clear cI cK cM cL;intro cN dO dP dQ eH
  refine ao<|ca<|eL (S:=Int) (λk2 e mem=>(al e (.tmp 7)= .v (.int .i64 k2))/\(al e (.tmp 1)=al cN (.tmp 1))/\(al e (.tmp 2)=al cN (.tmp 2))/\(al e (.tmp 5)=al cN (.tmp 5))/\(mem[1]? =dF[1]?)/\(mem[0]? =dF[0]?)/\(mem.length=2)/\((0<=k2/\k2<=(l.ss.getD i.toNat default).acr.length /\ ∀ j:Nat,j<k2.toNat->(!fG ((l.ss.getD i.toNat default).acr.getD j default) 20000)=false))) (λk2=>((l.ss.getD i.toNat default).acr.length - k2).toNat) _ ⟨eH,rfl,rfl,rfl,rfl,rfl,aP,?_⟩ ?_
  ·(exact⟨ah,ah,λj h=>absurd h ah⟩)
  ·rintro k2 fQ dR ⟨cO,eI,eP,eS,eT,eW,cP,hinv⟩;have dS:=eI.trans dO;have dU:=eP.trans dP;have cQ:=eS.trans dQ;have ap:=eT.trans ad;have bH:=eW.trans af
   (obtain⟨q1,q2,q3⟩:=hinv)
   refine ax<|ax<|at_<|ar (ak cO) rfl<|ar (aJ kz rfl (ae cQ)) rfl<|ar (az (aK qI rfl ap aa aA) eb) rfl ?_
   refine ar (az (cx aa rfl qH.1) ct) rfl ?_;refine ar (c6 (ae (ag aa)) aa) rfl<|ck (ae (ai dS)) (ae (ai dU)) (ae (ai cQ)) (ae (ai cO)) aa ?_;clear dS dU cQ cO;intro fT bJ bM aZ bP cR
   refine ao<|bk cR (λa2=>?_) (λa2=>?_)
   ·replace a2:=bt a2;refine bF<|ao<|ax<|ca<|ax<|at_<|ar (aJ kz rfl aZ) rfl<|ar (az (aK qI rfl ap aa aA) eb) rfl ?_
    refine ar (ak (ag bP)) rfl<|ar (az (cE qH (ae aa) aa ah (by(refine dq ?_;omega))) eb) rfl ?_
    refine ar (az (bL q9 rfl aa aA) eb) rfl ?_;refine ar (bI (aG aa (aG aw aN)) rfl (qC _ _ aD) qL) rfl ?_;refine ar (dT aa) rfl<|ck (ae (ag (ai bJ))) (ae (ag (ai bM))) (ae (ag (ai aZ))) (ae (ag (ai bP))) aa ?_;clear bJ bM cR aZ bP;intro fU cS cU cV cW cY
    refine ao<|bk cY (λa3=>?_) (λa3=>?_)
    ·replace a3:=cT a3;refine ax<|at_<|ar (aB aw) rfl<|bn aa ?_;clear cS cU cV cY cW;intro fV dV
     refine ao<|bm<|cD<|bw<|bw<|cD<|bw<|bX bp aj (aR dV) (.ro _ rfl) ?_
     clear dV ap bH cP
     (have e:dX (l.ss.getD i.toNat default).nam =true:=(by assumption);have e2:=oN (l:=l.ss) (k:=i.toNat) (p:=λo=>o.nam.toList==(l.ss.getD i.toNat default).nam.toList) (λj hj=>p3 j ah);have e4:=PX (p:=λn=> !fG n 20000) (l:=(l.ss.getD i.toNat default).acr) (j:=k2.toNat) ah (by rw [‹fG _ _=false›];rfl);unfold gV;rw [e,e2,if_neg (show ¬ (l.ss.getD i.toNat default).acr.length =0 by omega), ‹eC _ _ _=true›,e4];rfl)
    replace a3:=di a3;refine bF<|cG<|ao<|at_<|ar (ak cW) rfl ?_
    (refine ar (cf aa aw ?_) rfl ?_; · (unfold In64;omega))
    refine ar (aB aa) rfl<|bu (ae (ag cS)) (ae (ag cU)) (ae (ag cV)) aa ?_;clear cS cU cV cY cW;intro fW eX eY eZ e0
    refine ao<|⟨_,⟨e0,(eX.trans dO.symm),(eY.trans dP.symm),(eZ.trans dQ.symm),(ap.trans ad.symm),(bH.trans af.symm),cP,?_⟩,?_⟩
    ·(refine⟨ah,ah,λj hj=>?_⟩;by_cases hji:j<k2.toNat;(exact q3 j hji);(rw [show j=k2.toNat by omega, ‹fG _ _=true›];rfl))
    ·((try dsimp only);omega)
   replace a2:=bf a2;refine dJ<|cw<|cw<|dI<|ao<|ax<|ax<|at_<|ar (aB aw) rfl<|bu (ae bJ) (ae bM) (ae aZ) aa ?_;clear bJ bM cR aZ bP;intro cZ dW dY dZ e3
   refine ao<|ca<|eL (S:=Int) (λk3 e mem=>(al e (.tmp 8)= .v (.int .i64 k3))/\(al e (.tmp 1)=al cZ (.tmp 1))/\(al e (.tmp 2)=al cZ (.tmp 2))/\(al e (.tmp 5)=al cZ (.tmp 5))/\(mem[1]? =dR[1]?)/\(mem[0]? =dR[0]?)/\(∃ n,mem.length=n/\2<=n)/\((0<=k3/\k3<=i/\ ∀ j:Nat,j<k3.toNat->iJ (l.ss.getD i.toNat default) (l.ss.getD j default)=false))) (λk3=>(i - k3).toNat) _ ⟨e3,rfl,rfl,rfl,rfl,rfl,⟨_,cP,SR _⟩,?_⟩ ?_
   ·(exact⟨ah,ah,λj h=>absurd h ah⟩)
   ·rintro k3 fX fY ⟨c7,e6,e7,e8,e9,fa,⟨f0,bQ,ga⟩,hinv⟩;have c8:=e6.trans dW;have ea:=e7.trans dY;have ec:=e8.trans dZ;have c9:=e9.trans ap;have bU:=fa.trans bH
    (obtain⟨r1,r2,r3⟩:=hinv;have hso:=hl.at k3.toNat)
    refine ax<|ax<|at_<|ar (ak c7) rfl<|ar (ak (ae c8)) rfl<|ar (c6 (ae aa) aa) rfl<|ck (ae (ag c8)) (ae (ag ea)) (ae (ag ec)) (ae (ag c7)) aa ?_;clear c8 ea ec c7;intro gb da bW db bY dc
    refine ao<|bk dc (λa5=>?_) (λa5=>?_)
    ·replace a5:=bt a5;refine bF<|ao<|ax<|ca<|ax<|at_<|ar (aJ gu rfl bW) rfl<|ar (az (aK yW rfl bU aa aA) eb) rfl ?_
     refine ar (ak (ag bY)) rfl<|ar (az (cE yV (ae aa) aa ah (by(refine dq ?_;omega))) eb) rfl ?_
     refine ar (az (bL FG rfl aa aA) eb) rfl ?_;refine aM (cJ ra rfl bQ) trivial rfl (λgc a6=>?_);have bZ:=bS a6 bQ;simp only [pS,Value.cells,Nat.reduceAdd,ei]at bZ;have ed:=aI a6 c9;have ee:=aI a6 bU;have fb:=bR a6 bQ;clear a6 c9 bU;refine aM (bV aa (ae aa) rfl rfl bZ rh rfl aA) trivial rfl (λfc a7=>?_);have a8:=bo a7 bZ;simp only [pS,Value.cells,Nat.reduceAdd,ei]at a8;have a9:=au a7 ed ah;have ef:=au a7 ee ah;have eg:=bh a7 fb;clear a7 bZ ed ee;refine ck (aE (ag (ai da))) (aE (ag (ai bW))) (aE (ag (ai db))) (aE (ag (ai bY))) (aE aa) ?_;clear da bW db dc bY;intro b0 ba bb am bc dd;refine ao<|ax<|fZ (λe mem=>(al e (.tmp 91)= .v (.bool (iJ (l.ss.getD i.toNat default) (l.ss.getD k3.toNat default))))/\(al e (.tmp 1)=al b0 (.tmp 1))/\(al e (.tmp 2)=al b0 (.tmp 2))/\(al e (.tmp 5)=al b0 (.tmp 5))/\(al e (.tmp 8)=al b0 (.tmp 8))/\fc=mem) ?_ ?_
     ·
      refine at_<|ar (aJ jW rfl am) rfl<|ar (az (aK q9 rfl a9 aa aA) eb) rfl ?_
      refine ar (aJ jW rfl (ag dd)) rfl<|ar (az (aK q9 rfl a8 aa aA) eb) rfl ?_
      refine ar (aJ kz rfl (ai dd)) rfl<|ar (az (aK qI rfl a8 aa aA) eb) rfl ?_
      refine ar (az (cx aa rfl qH.1) ct) rfl ?_;refine ar (qX (ae (ag aa)) aa) rfl<|ar (c6 (ag (ai aa)) aa) rfl<|ar (ak aa) rfl<|bK aa (λab be=>?_) (λab be=>?_)
      ·replace be:=bt be;refine aF (aJ jW rfl (ag (ay dd))) ⟨_,rfl,ab⟩ rfl ?_;refine aF (az (aK q9 rfl a8 aa aA) eb) ⟨_,rfl,(ae ab)⟩ rfl ?_;refine aF (aJ jW rfl (ai (ay am))) ⟨_,rfl,(ag ab)⟩ rfl ?_;refine aF (az (aK q9 rfl a9 aa aA) eb) ⟨_,rfl,(ae (ag ab))⟩ rfl ?_;refine aF (aJ kz rfl (ag (ai (ay am)))) ⟨_,rfl,(ai ab)⟩ rfl ?_;refine aF (az (aK qI rfl a9 aa aA) eb) ⟨_,rfl,(ae (ai ab))⟩ rfl ?_;refine aF (az (cx aa rfl qH.1) ct) ⟨_,rfl,(ag (ai ab))⟩ rfl ?_;refine aF (qX (ae (ag aa)) aa) ⟨_,rfl,(ae (ag (ai ab)))⟩ rfl ?_;refine aF (c6 (ag (ai aa)) aa) ⟨_,rfl,(ay ab)⟩ rfl ?_;refine ar (bq (ae (ay ab)) aa) rfl<|ck (ai (aH ba)) (ai (aH bb)) (ai (aH am)) (ai (aH bc)) aa ?_;intro gd fd fe ff fg fh
       refine ao ⟨(fh).trans (by(refine b7 ?_;simp only [iJ,decide_eq_true_eq,SV,true_iff,false_iff, <- wrap_eq];omega)),(fd).trans (ba).symm,(fe).trans (bb).symm,(ff).trans (am).symm,(fg).trans (bc).symm,rfl⟩
      replace be:=bf be;refine aC ⟨_,rfl,.inl ab⟩ rfl ?_;refine aC ⟨_,rfl,.inl (ae ab)⟩ rfl ?_;refine aC ⟨_,rfl,.inl (ag ab)⟩ rfl ?_;refine aC ⟨_,rfl,.inl (ae (ag ab))⟩ rfl ?_;refine aC ⟨_,rfl,.inl (ai ab)⟩ rfl ?_;refine aC ⟨_,rfl,.inl (ae (ai ab))⟩ rfl ?_;refine aC ⟨_,rfl,.inl (ag (ai ab))⟩ rfl ?_;refine aC ⟨_,rfl,.inl (ae (ag (ai ab)))⟩ rfl ?_;refine aC ⟨_,rfl,.inl (ay ab)⟩ rfl ?_;refine ar (br (ae (ay ab)) aw) rfl<|ck (ai (aH ba)) (ai (aH bb)) (ai (aH am)) (ai (aH bc)) aa ?_;intro ge fi fj fk fl fm
      refine ao ⟨(fm).trans (by(refine b7 ?_;simp only [iJ,decide_eq_true_eq,SV,true_iff,false_iff, <- wrap_eq];omega)),(fi).trans (ba).symm,(fj).trans (bb).symm,(fk).trans (am).symm,(fl).trans (bc).symm,rfl⟩
     ·rintro gf _ ⟨de,fo,fp,fq,fs,rfl⟩;have df:=fo.trans ba;have dg:=fp.trans bb;have dh:=fq.trans am;have dk:=fs.trans bc;refine bk de (λbg=>?_) (λbg=>?_)
      ·replace bg:=bt bg;refine ax<|at_<|ar (aB aw) rfl<|bn aa ?_;clear df dg dh dk de;intro gg eh
       refine ao<|bm<|cD<|bw<|bw<|cD<|bw<|bX bp aj (aR eh) (.ro _ rfl) ?_
       clear eh a8 a9 ef eg
       (have e:dX (l.ss.getD i.toNat default).nam =true:=(by assumption);have e2:=oN (l:=l.ss) (k:=i.toNat) (p:=λo=>o.nam.toList==(l.ss.getD i.toNat default).nam.toList) (λj hj=>p3 j ah);have e4:=Dy (p:=λn=> !fG n 20000) (l:=(l.ss.getD i.toNat default).acr) (λj hj=>q3 j ah);have e5:=xb (l:=l.ss) (k:=i.toNat) (p:=λo=>iJ (l.ss.getD i.toNat default) o) (j:=k3.toNat) ah ah (by(simp only [iJ,decide_eq_true_eq,decide_eq_false_iff_not];assumption));unfold gV;rw [e,e2,if_neg (show ¬ (l.ss.getD i.toNat default).acr.length =0 by omega), ‹eC _ _ _=true›,e4,e5];rfl)
      replace bg:=bf bg;refine bF<|cG<|ao<|at_<|ar (ak dk) rfl ?_
      (refine ar (cf aa aw ?_) rfl ?_; · (unfold In64;omega))
      refine ar (aB aa) rfl<|bu (ae (ag df)) (ae (ag dg)) (ae (ag dh)) aa ?_;clear df dg dh dk de;intro gh ft fu fx fy
      refine ao<|⟨_,⟨fy,(ft.trans dW.symm),(fu.trans dY.symm),(fx.trans dZ.symm),(a9.trans ap.symm),(ef.trans bH.symm),⟨_,eg,ah⟩,?_⟩,?_⟩
      ·(refine⟨ah,ah,λj hj=>?_⟩;by_cases hji:j<k3.toNat;(exact r3 j hji);(rw [show j=k3.toNat by omega];(simp only [iJ,decide_eq_true_eq,decide_eq_false_iff_not];assumption)))
      ·((try dsimp only);omega)
    replace a5:=bf a5;refine dJ<|cw<|cw<|dI<|ao<|ax<|at_<|ar (aB aw) rfl<|bn aa ?_;clear da bW db dc bY;intro gi en
    refine ao<|bm<|bX bp aj (aR en) (.ro _ rfl) ?_
    clear en c9 bU bQ
    (have e:dX (l.ss.getD i.toNat default).nam =true:=(by assumption);have e2:=oN (l:=l.ss) (k:=i.toNat) (p:=λo=>o.nam.toList==(l.ss.getD i.toNat default).nam.toList) (λj hj=>p3 j ah);have e4:=Dy (p:=λn=> !fG n 20000) (l:=(l.ss.getD i.toNat default).acr) (λj hj=>q3 j ah);have e5:=oN (l:=l.ss) (k:=i.toNat) (p:=λo=>iJ (l.ss.getD i.toNat default) o) (λj hj=>r3 j ah);unfold gV;rw [e,e2,if_neg (show ¬ (l.ss.getD i.toNat default).acr.length =0 by omega), ‹eC _ _ _=true›,e4,e5];rfl)
end Go.Proofs.YtfoaiidcfkmneaaGreatDoor
