/- Texts of this claim, one behind the other: lemmas for the statement. -/
import Derived.Test.YtbmlgmblfboigaaGreatDoorT0
import Derived.Test.YtbmlgmblfboigaaGreatDoorM9
import Derived.Test.YtbmlgmblfboigaaGreatDoorA54
import Derived.Test.YtbmlgmblfboigaaGreatDoorM6
set_option maxRecDepth 100000
set_option maxHeartbeats 4000000
set_option linter.unusedSimpArgs false
set_option linter.unusedVariables false
namespace Go.Proofs.YtbmlgmblfboigaaGreatDoor
open Go Go.RowKit Go.Proofs Go.Lib
theorem Cd:bI Tryz.prog 24 95 2 16 (.agg #[.int .i64 0,.int .i64 0]):=⟨by kernel_rfl,by kernel_rfl,by kernel_rfl⟩
theorem Ce:bI Tryz.prog 73 75 2 24 (.agg #[.string ByteArray.empty,.int .i64 0]):=⟨by kernel_rfl,by kernel_rfl,by kernel_rfl⟩
theorem sU:bI Tryz.prog 85 3 1 8 (.int .i64 0):=⟨by kernel_rfl,by kernel_rfl,by kernel_rfl⟩
theorem MD:aN Tryz.prog 24 false 1:=⟨by kernel_rfl,by kernel_rfl⟩
theorem xK:aN Tryz.prog 3 false 1:=⟨by kernel_rfl,by kernel_rfl⟩
theorem sV:aN Tryz.prog 72 false 1:=⟨by kernel_rfl,by kernel_rfl⟩
theorem Cf:aN Tryz.prog 73 false 1:=⟨by kernel_rfl,by kernel_rfl⟩
theorem tU:aN Tryz.prog 9 false 1:=⟨by kernel_rfl,by kernel_rfl⟩
theorem eA(a b:Int): [[AV.v (.int .i64 a),AV.v (.int .i64 b)]]= [(⟨a,b⟩:fu)].map aH:=rfl
theorem c7(a b c d:Int): [[AV.v (.int .i64 a),AV.v (.int .i64 b),AV.v (.int .i64 c),AV.v (.int .i64 d)]]= [(⟨a,b,c,d⟩:fR)].map aF:=rfl
theorem wm{mem:List Ob}{n:Nat}(hn:mem.length=n){b:Nat}{nam:ByteArray}{J B S M:AV}{cnt:Int}{ws:List Wd}{last:Wd}{kind:ByteArray}(hb:mem[b]? =some (.box aE (aD nam J B S M cnt ws last kind)))(k:ByteArray)(h:gV kind k=true):dK Tryz.prog 67 [.ptr b 0,.v (.string k)] mem (λr m'=>r=dH true/\bz mem m' (λ_=>False)) (λ_ _=>False):=by
 have:=B2 hn hb k;rw [h]at this;exact this
theorem Jy{M0:List Ob}{n:Nat}(hn:M0.length=n){st:RS}{H:RH}{lo b:Nat}(hR:eK st H lo M0 b)(c0:Int){es er:Value}(hes:eS es)(her:eS er)(h0:M0[0]? =some (.bL (gX es er)))(hbl:st.bs.length<=1000000)(ws:List Wd)(hw:st.ws=⟨bU,c0⟩::ws)(hk:(st.kind.toList==(⟨#[]⟩:ByteArray).toList)=false)(ho:gV st.kind bU=true)(hW:iw ⟨bU,c0⟩ ws)(hc:∀ q,(cR st.cs q).length <=1000000):
 dK Tryz.prog 30 [.ptr b 0] M0 (λr m'=>g9 bU ⟨bU,c0⟩ ws=(0,0)/\r= .tuple []/\ ∃ H',eK {(st.add bU)with bs:=st.bs++ [⟨dZ (cq ws),dZ (cq ws.tail)⟩],ws:= [],last:=cq ws.tail,kind:=bU} H' lo m' b/\bz M0 m' (KR H b)) (λv m'=>∃ c e,e≠0/\g9 bU ⟨bU,c0⟩ ws=(c,e)/\v=fw st.cnt c e/\bz M0 m' (KR H b)):=by
 have hwl:=hW.len;have hb:=hR.box;rw [hw]at hb;have hJ:=hR.J;have hB:=hR.B;have hS:=hR.S;have hM:=hR.M;have hF:=hR.fam;have hbn:=cI hb hn;have hJn:=cI hJ hn;have hBn:=cI hB hn;have hSn:=cI hS hn;have hMn:=cI hM hn;obtain⟨⟨x1,x2,x3,x4⟩,⟨x5,x6,x7⟩,x8,x9,x10⟩:=hR.ne;have hnf:=hR.rH;have hlt:=hF.lt hn;have hlo:=hR.lo;obtain⟨z1,z2,z3,z4,z5,z6⟩:=hR.nz h0;refine fz (fn:=Tryz.f30) 193 (by kernel_rfl) rfl (by kernel_rfl) (S8 rfl) ?_;intro fK a2 hA aO;have cg:ag fK (.tmp 0)=_:=hA 0 _ rfl;have cY:a2.length=n:=by rw [aO];exact hn
 have ci:a2[b]? =_:=(congrArg (λq=>q[b]?) aO).trans hb;simp only [pS,Value.cells,Nat.reduceAdd,aD,aE,aG,aV,aP,bg,bh,eA]at ci;have fL:a2[H.jJ]? =_:=(congrArg (λq=>q[H.jJ]?) aO).trans hJ;have fM:a2[H.jB]? =_:=(congrArg (λq=>q[H.jB]?) aO).trans hB;have fN:a2[H.jS]? =_:=(congrArg (λq=>q[H.jS]?) aO).trans hS;have fO:a2[H.jM]? =_:=(congrArg (λq=>q[H.jM]?) aO).trans hM;have fP:a2[0]? =_:=(congrArg (λq=>q[0]?) aO).trans h0;have fQ:bz M0 a2 (KR H b):=by rw [aO];exact bz.refl _ _
 have cj:=hF;rw [<- aO]at cj;clear hA aO;refine aj<|at_<|ar (ah cg) rfl<|c6 (ku (last:=st.last) cY ci (by omega)) (ax aa aI) jA trivial rfl (λhQ hU fR=>?_) (λ_ _ h=>h.elim)
 obtain⟨rfl,a3,ck⟩:=fR;simp only [pS,Value.cells,Nat.reduceAdd,aD,aE,aG,aV,aP,bg,bh,eA]at ck;have cZ:=a3.at_ fL (λh_=>by(try dsimp only at h_)<;>omega);have c7:=a3.at_ fM (λh_=>by(try dsimp only at h_)<;>omega);have c8:=a3.at_ fN (λh_=>by(try dsimp only at h_)<;>omega);have c9:=a3.at_ fO (λh_=>by(try dsimp only at h_)<;>omega);have da:=a3.at_ fP (λh_=>by(try dsimp only at h_)<;>omega);have db:=fQ.trans a3 (λj_ hj_ h_=>by(try dsimp only at h_)<;>(try subst h_)<;>(simp [KR];done));have dc:=cj.all a3 (λq_ h1_ h2_ h_=>cj.miss ci rfl q_ h1_ h2_ h_);obtain⟨dd,cm,hV⟩:=a3.len_ cY;refine aL (cu jD rfl cm) trivial rfl (λhY av=>?_);have bv:=bH av cm;simp only [pS,Value.cells,Nat.reduceAdd,aD,aE,aG,aV,aP,bg,bh,eA]at bv;have de:=aJ av ck;have df:=aJ av cZ;have dg:=aJ av c7;have dh:=aJ av c8;have dk:=aJ av c9;have dl:=aJ av da;have dm:=RestR.aJ av db;have dn:=bu.aJ av dc;have fS:=bG av cm;clear av ck cZ c7 c8 c9 da db dc;refine aL (bN aa (ae rfl aa) rfl rfl bv jE rfl (au rfl)) trivial rfl (λhZ aF=>?_);have co:=bk aF bv;simp only [pS,Value.cells,Nat.reduceAdd,aD,aE,aG,aV,aP,bg,bh,eA]at co;have bx:=ao aF de (by omega);have fT:=ao aF df (by omega);have fV:=ao aF dg (by omega);have fY:=ao aF dh (by omega);have fZ:=ao aF dk (by omega);have f0:=ao aF dl (by omega);have ga:=RestR.ao aF dm (λhj_=>by(exfalso;omega));have gb:=bu.ao aF dn bv rfl;have dp:=bc aF fS;clear aF bv de df dg dh dk dl dm dn;refine aY (ay (ae rfl (u2 rfl cg))) (ay aa) ?_;clear cg;intro h6 dq cp;refine ai<|aj<|at_<|ar (aB gr rfl cp) rfl<|ar (ak (aC tU rfl co aa (au rfl)) (by simp only [pS,Value.cells,Nat.reduceAdd,aD,aE,aG,aV,aP,bg,bh,eA]<;>rfl)) rfl ?_
 refine ar (aw aa) rfl<|bq (ae rfl (u2 rfl dq)) (ae rfl (u2 rfl cp)) aa ?_;clear dq cp;intro h7 ct dr dt
 refine ai<|aj<|bP<|aj<|aj<|at_<|ar (ah ct) rfl<|ar (bC aa) rfl<|ar (aB ec rfl aa) rfl<|ar (ak (aC tU rfl bx aa (au rfl)) (by simp only [pS,Value.cells,Nat.reduceAdd,aD,aE,aG,aV,aP,bg,bh,eA]<;>rfl)) rfl ?_
 refine ar (eG aa al) rfl<|ar (ah aa) rfl<|bM aa (λbA cw=>?_) (λbA cw=>?_)
 ·(rw [hk]at cw;simp at cw;done)
 refine az ⟨_,rfl,.inl bA⟩ rfl ?_;refine az ⟨_,rfl,.inl (ae rfl bA)⟩ rfl ?_;refine ar (bJ (u2 rfl bA) al) rfl<|ar (aw aa) rfl<|aZ (u2 rfl (u8 rfl ct)) (u2 rfl (u8 rfl dr)) (u2 rfl (u8 rfl dt)) aa ?_;clear bA ct dr dt;intro h8 cx du bX dv
 refine ai<|iP dv<|at_<|ar (ah cx) rfl<|ar (bC aa) rfl<|ar (aB ec rfl aa) rfl<|ar (ak (aC tU rfl bx aa (au rfl)) (by simp only [pS,Value.cells,Nat.reduceAdd,aD,aE,aG,aV,aP,bg,bh,eA]<;>rfl)) rfl ?_
 refine ar (dS aa al) rfl<|ar (ah aa) rfl<|bM aa (λbB bE=>?_) (λbB bE=>?_)
 ·replace bE:=cV bE;refine aA (ah (u2 rfl (u4 rfl bX))) ⟨_,rfl,bB⟩ rfl ?_;refine aA (dS aa al) ⟨_,rfl,(ae rfl bB)⟩ rfl ?_;refine ar (bD (u2 rfl bB) aa) rfl<|ar (ah aa) rfl<|bM aa (λbF bI=>?_) (λbF bI=>?_)
  ·replace bI:=cV bI;refine aA (ah (u2 rfl (u8 rfl bX))) ⟨_,rfl,bF⟩ rfl ?_;refine aA (dS aa al) ⟨_,rfl,(ae rfl bF)⟩ rfl ?_;refine ar (bD (u2 rfl bF) aa) rfl<|ar (ah aa) rfl<|bM aa (λbK bO=>?_) (λbK bO=>?_)
   ·(simp only [toList_data]at bO;exact absurd bO (by decide))
   replace bO:=dj bO;refine az ⟨_,rfl,.inl bK⟩ rfl ?_;refine az ⟨_,rfl,.inl (ae rfl bK)⟩ rfl ?_;refine ar (bJ (u2 rfl bK) al) rfl<|ar (aw aa) rfl<|aZ (u2 rfl (u16 rfl cx)) (u2 rfl (u16 rfl du)) (u2 rfl (u16 rfl bX)) aa ?_;clear bB bF bK cx dv du bX;intro h9 bZ dw cy dx
   refine ai<|iP dx<|aj<|at_<|ar (ah bZ) rfl<|ar (bC aa) rfl<|ar (aB ec rfl aa) rfl<|ar (ak (aC tU rfl bx aa (au rfl)) (by simp only [pS,Value.cells,Nat.reduceAdd,aD,aE,aG,aV,aP,bg,bh,eA]<;>rfl)) rfl ?_
   refine ar (dS aa al) rfl<|ar (ah aa) rfl<|bM aa (λa7 bQ=>?_) (λa7 bQ=>?_)
   ·replace bQ:=cV bQ;refine aA (ah (u2 rfl (u4 rfl bZ))) ⟨_,rfl,a7⟩ rfl ?_;refine aA (ah (ae rfl (u2 rfl (u4 rfl cy)))) ⟨_,rfl,(ae rfl a7)⟩ rfl ?_;refine c6 (wm (last:=⟨bU,c0⟩) dp bx bU ho) (ax (ae rfl aa) (ax aa aI)) px ⟨_,rfl,(u2 rfl a7)⟩ rfl (λia a8 gc=>?_) (λ_ _ h=>h.elim);obtain⟨rfl,aR⟩:=gc;have a9:=aR.at_ co (λh_=>by(try dsimp only at h_)<;>first|omega|exact h_.elim);have ba:=aR.at_ bx (λh_=>by(try dsimp only at h_)<;>first|omega|exact h_.elim);have bb:=aR.at_ fT (λh_=>by(try dsimp only at h_)<;>first|omega|exact h_.elim);have be:=aR.at_ fV (λh_=>by(try dsimp only at h_)<;>first|omega|exact h_.elim);have bj:=aR.at_ fY (λh_=>by(try dsimp only at h_)<;>first|omega|exact h_.elim);have b0:=aR.at_ fZ (λh_=>by(try dsimp only at h_)<;>first|omega|exact h_.elim);have bm:=aR.at_ f0 (λh_=>by(try dsimp only at h_)<;>first|omega|exact h_.elim);have b1:=ga.trans aR (λj_ hj_ h_=>by(try dsimp only at h_)<;>(try subst h_)<;>first|exact h_.elim|(first|exact Or.inr (Or.inr (Or.inr (Or.inr (Or.inr ⟨q0,hq0,rfl⟩))))|(simp [KR];done))|rfl|(simp;done)|(exfalso;omega));have cz:=gb.all aR (λq_ h1_ h2_ h_=>h_.elim);obtain⟨aS,a5,ib⟩:=aR.len_ dp;refine aA (di aa) ⟨_,rfl,(ae rfl (u2 rfl a7))⟩ rfl ?_;refine ar (bD (u4 rfl a7) aa) rfl<|ar (aw aa) rfl<|aZ (u4 rfl (u8 rfl bZ)) (u4 rfl (u8 rfl dw)) (u4 rfl (u8 rfl cy)) aa ?_;clear a7 bZ dx dw cy;intro dy aH ic aT gd
    refine ai<|aW gd (λb2=>?_) (λb2=>?_)
    ·cases b2
    replace b2:=dj b2;refine br<|cv<|ai<|aj<|gz (λe mem=>(ag e (.tmp 0)=ag dy (.tmp 0))/\(ag e (.tmp 3)=ag dy (.tmp 3))/\(mem[dd]? =a8[dd]?)/\(mem[b]? =a8[b]?)/\(mem[H.jJ]? =a8[H.jJ]?)/\(mem[H.jB]? =a8[H.jB]?)/\(mem[H.jS]? =a8[H.jS]?)/\(mem[0]? =a8[0]?)/\(∃ n,mem.length=n/\aS<=n)/\(∃ hs2:HL,mem[H.jM]? =some (.mp (eQ hs2))/\bu mem hs2 (eN bU st.cnt st.ks st.cs).2 hs2.length/\hs2.map (·.1)=(eN bU st.cnt st.ks st.cs).1/\(∀ q,q<hs2.length->lo<=hN hs2 q)/\bz M0 mem (KR H b))) ?_ ?_
    ·
     have dB:=a9;have dC:=ba;have dD:=bb;have dE:=be;have dF:=bj;have dG:=bm;refine(Classical.em (∃ q0,q0<H.hs.length/\hK H.hs q0=bU)).elim (λcA=>?_) (λcA=>?_)
     ·obtain⟨q0,hq0,hqk⟩:=cA;have hql:=hlt q0 hq0 (by omega);obtain⟨y1,y2,y3,y4,y5⟩:=hnf q0 hq0;have hcq:=hc q0;have y6:=z6 q0 hq0;obtain⟨dH,dI⟩:=cz.take hq0;refine fW 17 1 a5 (by kernel_rfl) (by kernel_rfl) (by kernel_rfl) (by kernel_rfl) (λge ab=>?_);have dJ:=bp ab a9;have bS:=bp ab ba;have dL:=bp ab bb;have dM:=bp ab be;have dN:=bp ab bj;have cB:=bp ab b0;have dO:=bp ab bm;have dP:=RestR.bp ab b1;have dQ:=bu.bp ab dI;have dR:=bp ab dH;have b6:ge[aS]? =_:=fH ab a5 0 rfl rfl;have gf:_=aS+1:=fX (K:=1) ab a5;clear ab a9 ba bb be bj b0 bm b1 dI dH a5;refine aQ (λM_ hM_=>(ah aH)) trivial ?_;refine aQ (λM_ hM_=>(bC aa)) trivial ?_;refine aQ (λM_ hM_=>(aB gu rfl aa)) trivial ?_;refine cG (b) (λM_ hM_=>(ak (aC sV rfl (cf hM_ bS (by simp)) aa (au rfl)) (by simp only [pS,Value.cells,Nat.reduceAdd,aD,aE,aG,aV,aP,bg,bh,eA]<;>rfl))) trivial trivial ?_;refine aQ (λM_ hM_=>(ah (u4 rfl aT))) trivial ?_;refine aQ (λM_ hM_=>(ah (ae rfl (u4 rfl aH)))) trivial ?_;refine aQ (λM_ hM_=>(bC aa)) trivial ?_;refine aQ (λM_ hM_=>(aB gu rfl aa)) trivial ?_;refine cG (b) (λM_ hM_=>(ak (aC sV rfl (cf hM_ bS (by simp)) aa (au rfl)) (by simp only [pS,Value.cells,Nat.reduceAdd,aD,aE,aG,aV,aP,bg,bh,eA]<;>rfl))) trivial trivial ?_;refine aQ (λM_ hM_=>(ah (ae rfl (u8 rfl aT)))) trivial ?_;refine cG (H.jM) (λM_ hM_=>(qu gB gC (cf hM_ cB (by simp)) (ae rfl aa) aa (show(eQ H.hs)[q0]? =some (bU,.own (hN H.hs q0))by rw [jY hq0,hqk]) hF.mi)) trivial trivial ?_;refine aQ (λM_ hM_=>(ah (ae rfl (u2 rfl (u8 rfl aH))))) trivial ?_;refine aQ (λM_ hM_=>(bC aa)) trivial ?_;refine aQ (λM_ hM_=>(aB hP rfl aa)) trivial ?_;refine cG (b) (λM_ hM_=>(ak (aC xK rfl (cf hM_ bS (by simp)) aa (au rfl)) (by simp only [pS,Value.cells,Nat.reduceAdd,aD,aE,aG,aV,aP,bg,bh,eA]<;>rfl))) trivial trivial ?_;refine aQ (λM_ hM_=>(dT sU (bo aa bY) rfl rfl rfl rfl)) trivial ?_;refine lX (aS) ((hN H.hs q0)) (λM_ hM_=>(k6 sU rfl (cf hM_ dR (by simp)) (ae rfl (u4 rfl aa)) aa (by rfl) (by simp only [bn]<;>omega))) trivial b6 rfl trivial ⟨.inl (by simp<;>omega),⟨.inl (by simp<;>omega),⟨.inl (by simp<;>omega),⟨.inl (by simp<;>omega),trivial⟩⟩⟩⟩ ⟨.inl (by simp<;>omega),⟨.inl (by simp<;>omega),⟨.inl (by simp<;>omega),⟨.inl (by simp<;>omega),trivial⟩⟩⟩⟩ (λie ad=>?_);have cC:=l6 ad b6;simp only [pS,Value.cells,Nat.reduceAdd,aD,aE,aG,aV,aP,bg,bh,eA]at cC;have dV:=cn ad dJ (by omega) (by omega);have dW:=cn ad bS (by omega) (by omega);have dX:=cn ad dL (by omega) (by omega);have dY:=cn ad dM (by omega) (by omega);have ea:=cn ad dN (by omega) (by omega);have b7:=cn ad cB (by omega) (by omega);have eb:=cn ad dO (by omega) (by omega);have ed:=RestR.cn ad dP (λhj_=>by(exact Or.inr (Or.inr (Or.inr (Or.inr (Or.inr ⟨q0,hq0,rfl⟩)))))) (λhj_=>by(exfalso;omega));have ee:=bu.uH (by omega) ad dQ b6 rfl;have gg:=lQ ad gf;clear ad dJ bS dL dM dN cB dO dP dQ dR b6;refine gj rfl ?_;refine aL (tI gB gC b7 (ae rfl (u4 rfl (u8 rfl aa))) (u4 rfl (u8 rfl aa)) aa (show(eQ H.hs)[q0]? =some (bU,.own (hN H.hs q0))by rw [jY hq0,hqk]) hF.mi) trivial rfl (λig af=>?_);have ef:=bk af b7;simp only [pS,Value.cells,Nat.reduceAdd,aD,aE,aG,aV,aP,bg,bh,eA]at ef;have gh:=ao af cC (by omega);have gi:=ao af dV (by omega);have gk:=ao af dW (by omega);have gl:=ao af dX (by omega);have gm:=ao af dY (by omega);have gn:=ao af ea (by omega);have gp:=ao af eb (by omega);have gq:=RestR.ao af ed (λhj_=>by(simp [KR];done));have gt:=bu.ao af ee b7 rfl;have gv:=bc af gg;clear af cC dV dW dX dY ea b7 eb ed ee;refine aY (ay (ae rfl (u16 rfl aH))) (ay (ae rfl (u16 rfl aT))) ?_;intro ih gy gA;refine ai ⟨(gy).trans (aH).symm,(gA).trans (aT).symm,gi.trans dB.symm,gk.trans dC.symm,gl.trans dD.symm,gm.trans dE.symm,gn.trans dF.symm,gp.trans dG.symm,⟨_,gv,by omega⟩,?_⟩
      (have hadd:=qw (c:=st.cnt) H.hs st.cs q0 hF.len hq0 hqk (λp hp e=>absurd (hF.key p q0 (by omega) hq0 (e.trans hqk.symm)) (by omega));rw [hR.keys]at hadd;rw [hadd];exact⟨_,ef,gt.put hq0 hqk gh (λq hq=>(by have:=hlt q hq (by omega);omega)),(sT hq0 hqk).trans hR.keys,(λq hq=>by rw [Ul]at hq;rw [nS hq0];split<;>first|exact hlo.2.2.2.2.2 q hq|(show lo<=aS;omega)),gq⟩)
     ·have hqm:=uJ cA;refine fW 17 1 a5 (by kernel_rfl) (by kernel_rfl) (by kernel_rfl) (by kernel_rfl) (λgD am=>?_);have eg:=bp am a9;have bT:=bp am ba;have eh:=bp am bb;have ei:=bp am be;have ej:=bp am bj;have cD:=bp am b0;have ek:=bp am bm;have en:=RestR.bp am b1;have eo:=bu.bp am cz;have b8:gD[aS]? =_:=fH am a5 0 rfl rfl;have gE:_=aS+1:=fX (K:=1) am a5;clear am a9 ba bb be bj b0 bm b1 cz a5;refine aQ (λM_ hM_=>(ah aH)) trivial ?_;refine aQ (λM_ hM_=>(bC aa)) trivial ?_;refine aQ (λM_ hM_=>(aB gu rfl aa)) trivial ?_;refine cG (b) (λM_ hM_=>(ak (aC sV rfl (cf hM_ bT (by simp)) aa (au rfl)) (by simp only [pS,Value.cells,Nat.reduceAdd,aD,aE,aG,aV,aP,bg,bh,eA]<;>rfl))) trivial trivial ?_;refine aQ (λM_ hM_=>(ah (u4 rfl aT))) trivial ?_;refine aQ (λM_ hM_=>(ah (ae rfl (u4 rfl aH)))) trivial ?_;refine aQ (λM_ hM_=>(bC aa)) trivial ?_;refine aQ (λM_ hM_=>(aB gu rfl aa)) trivial ?_;refine cG (b) (λM_ hM_=>(ak (aC sV rfl (cf hM_ bT (by simp)) aa (au rfl)) (by simp only [pS,Value.cells,Nat.reduceAdd,aD,aE,aG,aV,aP,bg,bh,eA]<;>rfl))) trivial trivial ?_;refine aQ (λM_ hM_=>(ah (ae rfl (u8 rfl aT)))) trivial ?_;refine cG (H.jM) (λM_ hM_=>(sK gB gC tR (cf hM_ cD (by simp)) (ae rfl aa) aa (mB hqm))) trivial trivial ?_;refine aQ (λM_ hM_=>(ah (ae rfl (u2 rfl (u8 rfl aH))))) trivial ?_;refine aQ (λM_ hM_=>(bC aa)) trivial ?_;refine aQ (λM_ hM_=>(aB hP rfl aa)) trivial ?_;refine cG (b) (λM_ hM_=>(ak (aC xK rfl (cf hM_ bT (by simp)) aa (au rfl)) (by simp only [pS,Value.cells,Nat.reduceAdd,aD,aE,aG,aV,aP,bg,bh,eA]<;>rfl))) trivial trivial ?_;refine aQ (λM_ hM_=>(dT sU (bo aa bY) rfl rfl rfl rfl)) trivial ?_;refine lh (aS) (λM_ hM_=>(tw sU rfl (ae rfl (u4 rfl aa)) aa (by rfl) (by simp only [bn]<;>omega))) trivial b8 rfl trivial ⟨.inl (by simp<;>omega),⟨.inl (by simp<;>omega),⟨.inl (by simp<;>omega),⟨.inl (by simp<;>omega),trivial⟩⟩⟩⟩ (λij an=>?_);have cE:=bk an b8;simp only [pS,Value.cells,Nat.reduceAdd,aD,aE,aG,aV,aP,bg,bh,eA]at cE;have ep:=ao an eg (by omega);have eu:=ao an bT (by omega);have ev:=ao an eh (by omega);have ew:=ao an ei (by omega);have ey:=ao an ej (by omega);have b9:=ao an cD (by omega);have ez:=ao an ek (by omega);have eB:=RestR.ao an en (λhj_=>by(exfalso;omega));have eC:=bu.ao an eo b8 rfl;have gF:=bc an gE;clear an eg bT eh ei ej cD ek en eo b8;refine gj rfl ?_;refine aL (tJ gB gC b9 (ae rfl (u4 rfl (u8 rfl aa))) (u4 rfl (u8 rfl aa)) aa (mB hqm)) trivial rfl (λik ap=>?_);have eD:=bk ap b9;simp only [pS,Value.cells,Nat.reduceAdd,aD,aE,aG,aV,aP,bg,bh,eA]at eD;have gG:=ao ap cE (by omega);have gH:=ao ap ep (by omega);have gI:=ao ap eu (by omega);have gJ:=ao ap ev (by omega);have gK:=ao ap ew (by omega);have gL:=ao ap ey (by omega);have gM:=ao ap ez (by omega);have gN:=RestR.ao ap eB (λhj_=>by(simp [KR];done));have gO:=bu.ao ap eC b9 rfl;have gP:=bc ap gF;clear ap cE ep eu ev ew ey b9 ez eB eC;refine aY (ay (ae rfl (u16 rfl aH))) (ay (ae rfl (u16 rfl aT))) ?_;intro il gQ gR;refine ai ⟨(gQ).trans (aH).symm,(gR).trans (aT).symm,gH.trans dB.symm,gI.trans dC.symm,gJ.trans dD.symm,gK.trans dE.symm,gL.trans dF.symm,gM.trans dG.symm,⟨_,gP,by omega⟩,?_⟩
      (have hadd:=qm (k:=bU) (c:=st.cnt) H.hs st.cs hF.len hqm;rw [hR.keys]at hadd;rw [hadd];exact⟨_,eD,gO.more hqm gG (λq hq=>(by have:=hlt q hq (by omega);omega)),(by rw [Ux,hR.keys];rfl),(λq hq=>by rw [nU];split<;>first|exact hlo.2.2.2.2.2 q (by assumption)|(rw [if_pos (by simp at hq;omega)];show lo<=aS;omega)),gN⟩)
    ·rintro im io ⟨gS,gT,gU,gW,gY,gZ,g0,g1,⟨ip,eE,iq⟩,⟨hs2,moM2,hF2,hks2,hlo2,hR2⟩⟩;have eF:=gS.trans aH;have cF:=gT.trans aT;have g2:=gU.trans a9;have eH:=gW.trans ba;have g3:=gY.trans bb;have g4:=gZ.trans be;have g5:=g0.trans bj;have eI:=g1.trans bm;refine aj<|aj<|at_<|ar (ah cF) rfl<|bq (ae rfl eF) (ae rfl cF) aa ?_;clear eF cF;intro ir eJ eL cH
     refine ai<|bP<|aj<|at_<|ar (eG cH al) rfl<|ar (aw aa) rfl<|aZ (u2 rfl eJ) (u2 rfl eL) (u2 rfl cH) aa ?_;clear eJ eL cH;intro iu eO eP cJ eR
     refine ai<|aW eR (λcK=>?_) (λcK=>?_)
     ·(simp only [toList_data]at cK;exact absurd cK (by decide))
     refine aj<|at_<|ar (eG cJ al) rfl<|ar (aw aa) rfl<|aZ (u2 rfl eO) (u2 rfl eP) (u2 rfl cJ) aa ?_;clear eO eR eP cJ;intro iv eT eU eV eW
     refine ai<|aW eW (λcL=>?_) (λcL=>?_)
     ·(simp only [toList_data]at cL;exact absurd cL (by decide))
     refine aj<|at_<|ar (eG eV al) rfl<|ar (aw aa) rfl<|bq (u2 rfl eT) (u2 rfl eU) aa ?_;clear eT eW eU eV;intro ix cM eX eY
     refine ai<|aW eY (λcN=>?_) (λcN=>?_)
     ·skip;refine aj<|at_<|ar (ah cM) rfl<|c6 (lH (last:=⟨bU,c0⟩) (ws:=ws) eE hes her eI eH hW false) (ax aa (ax al aI)) lO trivial rfl (λiy iA cO=>?_) (λiB iC cO=>?_)
      rotate_left
      ·
       repeat (first|refine dU ?_|refine fJ ?_)
       (rcases cO with⟨ha_,rfl,hz_⟩;exact⟨_,rfl,_,_,ha_,kY (by rw [mw];exact B6 ha_) ha_,rfl,hR2.trans hz_ (λj_ hj_ h_=>by(subst h_;simp [KR];done))⟩)
      obtain⟨hn1,rfl,aU,cP⟩:=cO;have g6:=aU.at_ g2 (λh_=>by(try dsimp only at h_)<;>omega);simp only [pS,Value.cells,Nat.reduceAdd,aD,aE,aG,aV,aP,bg,bh,eA]at cP;have g7:=aU.at_ g3 (λh_=>by(try dsimp only at h_)<;>omega);have g8:=aU.at_ g4 (λh_=>by(try dsimp only at h_)<;>omega);have hh:=aU.at_ g5 (λh_=>by(try dsimp only at h_)<;>omega);have eZ:=aU.at_ eI (λh_=>by(try dsimp only at h_)<;>omega);have hv:=aU.at_ moM2 (λh_=>by(try dsimp only at h_)<;>omega);have e0:=hF2.all aU (λq_ h1_ h2_ h_=>hF2.miss eH rfl q_ h1_ h2_ h_);have e3:=hR2.trans aU (λj_ hj_ h_=>by(try dsimp only at h_)<;>(try subst h_)<;>(simp [KR];done));obtain⟨iD,e4,iE⟩:=aU.len_ eE;refine ar (aw aa) rfl<|bq (ae rfl (u2 rfl cM)) (ae rfl (u2 rfl eX)) aa ?_;clear cM eY eX;intro iF cQ e5 e6
      refine ai<|aj<|at_<|ar (ah cQ) rfl<|c6 (lH (last:=cq ws) (ws:=ws.tail) e4 hes her eZ cP (hW.tail (jU hn1)) true) (ax aa (ax al aI)) lO trivial rfl (λiG iH cS=>?_) (λiI iJ cS=>?_)
      rotate_left
      ·
       repeat (first|refine dU ?_|refine fJ ?_)
       (rcases cS with⟨ha_,rfl,hz_⟩;exact⟨_,rfl,_,_,ha_,kY (by rw [mw,nL hn1];exact oP ha_) ha_,rfl,e3.trans hz_ (λj_ hj_ h_=>by(subst h_;simp [KR];done))⟩)
      obtain⟨hn2,rfl,aX,ca⟩:=cS;have e7:=aX.at_ g6 (λh_=>by(try dsimp only at h_)<;>omega);simp only [pS,Value.cells,Nat.reduceAdd,aD,aE,aG,aV,aP,bg,bh,eA]at ca;have e8:=aX.at_ g7 (λh_=>by(try dsimp only at h_)<;>omega);have cT:=aX.at_ g8 (λh_=>by(try dsimp only at h_)<;>omega);have e9:=aX.at_ hh (λh_=>by(try dsimp only at h_)<;>omega);have fa:=aX.at_ eZ (λh_=>by(try dsimp only at h_)<;>omega);have fb:=aX.at_ hv (λh_=>by(try dsimp only at h_)<;>omega);have fc:=e0.all aX (λq_ h1_ h2_ h_=>e0.miss cP rfl q_ h1_ h2_ h_);have fd:=e3.trans aX (λj_ hj_ h_=>by(try dsimp only at h_)<;>(try subst h_)<;>(simp [KR];done));obtain⟨fe,cU,iK⟩:=aX.len_ e4;refine ar (aw aa) rfl<|aZ (ae rfl (u2 rfl cQ)) (ae rfl (u2 rfl e5)) (ae rfl (u2 rfl e6)) aa ?_;clear cQ e5 e6;intro iL cb ff fh fi
      refine ai<|at_<|ar (ah cb) rfl<|ar (ah (ae rfl cb)) rfl<|ar (bC aa) rfl<|ar (aB jo rfl aa) rfl<|ar (aB dA rfl aa) rfl<|ar (ak (aC MD rfl ca aa (au rfl)) (by simp only [pS,Value.cells,Nat.reduceAdd,aD,aE,aG,aV,aP,bg,bh,eA]<;>rfl)) rfl ?_
      refine ar (ah (u2 rfl (u4 rfl fh))) rfl<|ar (ah (ae rfl (u2 rfl (u4 rfl fi)))) rfl<|ar (dz (bo (ae rfl aa) (bo aa bY)) yV yT yQ rfl) rfl ?_
      refine ar (dT Cd (bo aa bY) rfl rfl rfl rfl) rfl<|aL (nP Cd rfl cU cT (u4 rfl aa) aa (by rfl) (by simp only [bn]<;>omega)) trivial rfl (λiM aK=>?_)
      have cc:=pE aK cU;simp only [pS,Value.cells,Nat.reduceAdd,aD,aE,aG,aV,aP,bg,bh,eA]at cc;have fj:=fU aK e7 (by omega);have cd:=fU aK ca (by omega);have fk:=fU aK e8 (by omega);have fl:=fU aK e9 (by omega);have fm:=fU aK fa (by omega);have fo:=fU aK fb (by omega);have fp:=bu.fU aK fc cT rfl;have fq:=RestR.fU aK fd (λhj_=>by(simp [KR];done));have hC:=oN aK cU;clear aK e7 ca e8 cT e9 fa fb fc fd;refine ar (bC (u2 rfl (u8 rfl aa))) rfl<|ar (aB jo rfl aa) rfl<|ar (aB dA rfl aa) rfl<|aL (kS aa (ae rfl (u2 rfl aa)) cd cc F5 (au rfl)) trivial rfl (λiN aM=>?_)
      have a6:=bk aM cd;simp only [pS,Value.cells,Nat.reduceAdd,aD,aE,aG,aV,aP,bg,bh,eA]at a6;have fs:=ao aM cc (by omega);have ft:=ao aM fj (by omega);have fu:=ao aM fk (by omega);have fx:=ao aM fl (by omega);have fy:=ao aM fm (by omega);have fA:=ao aM fo (by omega);have fB:=bu.ao aM fp cd rfl;have cW:=RestR.ao aM fq (λhj_=>by(simp [KR];done));have fC:=bc aM hC;clear aM cc fj cd fk fl fm fo fp fq;refine aY (ay (u2 rfl (u4 rfl (u8 rfl cb)))) (ay (u2 rfl (u4 rfl (u8 rfl ff)))) ?_;clear cb ff fh fi;intro iO cX fD;refine cv<|ai<|aj<|aj<|at_<|ar (ah cX) rfl<|ar (bC aa) rfl<|ar (aB iz rfl aa) rfl<|ar (ak (aC Cf rfl a6 aa (au rfl)) (by simp only [pS,Value.cells,Nat.reduceAdd,aD,aE,aG,aV,aP,bg,bh,eA]<;>rfl)) rfl ?_
      refine ar (ak (bW aa rfl Ce.1) (by simp only [bn]<;>rfl)) rfl ?_;refine ar (eM aa al) rfl<|bq (u2 rfl (u4 rfl cX)) (u2 rfl (u4 rfl fD)) aa ?_;clear cX fD;intro iQ ce fE fF
      refine ai<|aW fF (λbV=>?_) (λbV=>?_)
      ·replace bV:=bt bV;refine at_<|ar (ah ce) rfl<|ar (ah (ae rfl ce)) rfl<|ar (bC aa) rfl<|ar (aB iz rfl aa) rfl<|ar (ak (aC Cf rfl a6 aa (au rfl)) (by simp only [pS,Value.cells,Nat.reduceAdd,aD,aE,aG,aV,aP,bg,bh,eA]<;>rfl)) rfl ?_
       refine ar (ak (cr Ce aa al (by decide) (by refine fg ?_;(simp only [bn];omega))) (by simp only [pS,Value.cells,Nat.reduceAdd,aD,aE,aG,aV,aP,bg,bh,eA]<;>rfl)) rfl ?_;refine ar (ak (bR iS rfl aa) (by simp only [pS,Value.cells,Nat.reduceAdd,aD,aE,aG,aV,aP,bg,bh,eA]<;>rfl)) rfl ?_;refine ar (ak (bw xK rfl aa (au rfl)) (by simp only [pS,Value.cells,Nat.reduceAdd,aD,aE,aG,aV,aP,bg,bh,eA]<;>rfl)) rfl ?_;refine c6 (gw (last:=cq ws.tail) (ws:=ws.tail.tail) fC a6 _ _) (ax (ae rfl (u2 rfl (u4 rfl aa))) (ax aa (ax al aI))) gx trivial rfl (λ_ _ h=>h.elim) (λiR iT fG=>?_)
       repeat (refine dU ?_)
       exact⟨_,rfl,_,_,by decide,wQ (r:=ws.tail.tail) (by rw [mw,nL hn1,jz hn2];rfl) PQ (by rw [mw];exact qb _) (by simp at*;omega),fG.1,cW.trans fG.2 (λj_ hj_ h_=>by(subst h_;simp [KR];done))⟩
      replace bV:=bf bV;refine br<|ai<|at_<|ar (ah ce) rfl<|ar (ah (ae rfl fE)) rfl<|ar (bC (ae rfl aa)) rfl<|ar (aB ec rfl aa) rfl<|aL (bN aa (u2 rfl aa) rfl rfl a6 oc rfl (au rfl)) trivial rfl (λiU aN=>?_)
      have fI:=bk aN a6;simp only [pS,Value.cells,Nat.reduceAdd,aD,aE,aG,aV,aP,bg,bh,eA]at fI;have hD:=ao aN fs (by omega);have iV:=ao aN ft (by omega);have hE:=ao aN fu (by omega);have hG:=ao aN fx (by omega);have iW:=ao aN fy (by omega);have hH:=ao aN fA (by omega);have hI:=bu.ao aN fB a6 rfl;have hO:=RestR.ao aN cW (λhj_=>by(simp [KR];done));have iX:=bc aN fC;clear aN a6 fs ft fu fx fy fA fB cW;refine lu ?_;clear ce fF fE;intro iY;refine⟨_,lY (by kernel_rfl),?_⟩
      (have ht:ws.tail.tail= []:=UP.1 (by simp at*;omega);have mb_:=fI;rw [ht]at mb_;refine⟨pf (r:=ws.tail.tail) (by rw [mw,nL hn1,jz hn2];rfl) (by rw [mw];exact qb _) (by rw [ht];rfl),rfl,⟨H.jM,H.jJ,fe,H.jS,hs2⟩,⟨mb_,hE,hD,hG,hH,hI,hks2,⟨hlo.1,hlo.2.1,by show lo<=H.jJ;omega,by show lo<=fe;omega,by show lo<=H.jS;omega,hlo2⟩⟩,hO⟩)
     ·(simp only [toList_data]at cN;exact absurd cN (by decide))
   ·(rw [hk]at bQ;simp at bQ;done)
  ·(simp only [toList_data]at bI;exact absurd bI (by decide))
 ·(rw [hk]at bE;simp at bE;done)
theorem sC:vj Tryz.prog 135 4 134 false 1:=⟨by kernel_rfl,by kernel_rfl,by kernel_rfl⟩
theorem Jz:(Tryz.prog.info? 135).bind (·.zero)=some (.agg #[.pointer none,.pointer none,.pointer none,.pointer none]):=by kernel_rfl
theorem JA:Tryz.prog.underlying 135=some (.array 4 134):=by kernel_rfl
theorem JB:(Tryz.prog.info? 134).map (·.size)=some 1:=by kernel_rfl
theorem Ci:bI Tryz.prog 23 59 4 32 (.agg #[.int .i64 0,.int .i64 0,.int .i64 0,.int .i64 0]):=⟨by kernel_rfl,by kernel_rfl,by kernel_rfl⟩
theorem Cj:bI Tryz.prog 73 75 2 24 (.agg #[.string ByteArray.empty,.int .i64 0]):=⟨by kernel_rfl,by kernel_rfl,by kernel_rfl⟩
theorem sW:bI Tryz.prog 85 3 1 8 (.int .i64 0):=⟨by kernel_rfl,by kernel_rfl,by kernel_rfl⟩
theorem ME:aN Tryz.prog 23 false 1:=⟨by kernel_rfl,by kernel_rfl⟩
theorem xM:aN Tryz.prog 3 false 1:=⟨by kernel_rfl,by kernel_rfl⟩
theorem MF:aN Tryz.prog 59 true 4:=⟨by kernel_rfl,by kernel_rfl⟩
theorem sX:aN Tryz.prog 72 false 1:=⟨by kernel_rfl,by kernel_rfl⟩
theorem Cm:aN Tryz.prog 73 false 1:=⟨by kernel_rfl,by kernel_rfl⟩
theorem tV:aN Tryz.prog 9 false 1:=⟨by kernel_rfl,by kernel_rfl⟩
def cX(a b c d:Int):Nat->List AV
 | 0=> [mA 0,mA 0,mA 0,mA 0]
 | 1=> [mA a,mA 0,mA 0,mA 0]
 | 2=> [mA a,mA b,mA 0,mA 0]
 | 3=> [mA a,mA b,mA c,mA 0]
 | _=> [mA a,mA b,mA c,mA d]
def cM(ws:List Wd):Nat->List Wd
 | 0=>ws
 | 1=>ws.tail
 | 2=>ws.tail.tail
 | 3=>ws.tail.tail.tail
 | _=>ws.tail.tail.tail.tail
def cN(p0:Wd)(ws:List Wd):Nat->Wd
 | 0=>p0
 | 1=>cq ws
 | 2=>cq ws.tail
 | 3=>cq ws.tail.tail
 | _=>cq ws.tail.tail.tail
def SI:Nat->List Nat
 | 0=> [1,1,1,1]
 | 1=> [1,1,1]
 | 2=> [1,1]
 | 3=> [1]
 | _=> []
theorem bu.cn{mem m:List Ob}{hs:HL}{cs:List (List Int)}{i:Nat}{k j:Nat}{o o2 o':Ob}(hm:m=(mem.set k .gone).set j o')(h:bu mem hs cs i)(hk:mem[k]? =some o)(ho:nR o=true)(hj:mem[j]? =some o2)(h2:nR o2=true):bu m hs cs i:=
 (h.lT rfl (h.miss hk ho)).lT hm (h.miss hj h2)
theorem IG{M0:List Ob}{n:Nat}(hn:M0.length=n){st:RS}{H:RH}{lo b:Nat}(hR:eK st H lo M0 b)(c0:Int){es er:Value}(hes:eS es)(her:eS er)(h0:M0[0]? =some (.bL (gX es er)))(hjl:st.js.length<=1000000)(ws:List Wd)(hw:st.ws=⟨bQ,c0⟩::ws)(hk:(st.kind.toList==(⟨#[]⟩:ByteArray).toList)=false)(ho:gV st.kind bQ=true)(hW:iw ⟨bQ,c0⟩ ws)(hc:∀ q,(cR st.cs q).length <=1000000):
 dK Tryz.prog 30 [.ptr b 0] M0 (λr m'=>g9 bQ ⟨bQ,c0⟩ ws=(0,0)/\r= .tuple []/\ ∃ H',eK {(st.add bQ)with js:=st.js++ [⟨dZ (cq ws),dZ (cq ws.tail),dZ (cq ws.tail.tail),dZ (cq ws.tail.tail.tail)⟩],ws:= [],last:=cq ws.tail.tail.tail,kind:=bQ} H' lo m' b/\bz M0 m' (KR H b)) (λv m'=>∃ c e,e≠0/\g9 bQ ⟨bQ,c0⟩ ws=(c,e)/\v=fw st.cnt c e/\bz M0 m' (KR H b)):=by
 have hwl:=hW.len;have hb:=hR.box;rw [hw]at hb;have hJ:=hR.J;have hB:=hR.B;have hS:=hR.S;have hM:=hR.M;have hF:=hR.fam;have hbn:=cI hb hn;have hJn:=cI hJ hn;have hBn:=cI hB hn;have hSn:=cI hS hn;have hMn:=cI hM hn;obtain⟨⟨x1,x2,x3,x4⟩,⟨x5,x6,x7⟩,x8,x9,x10⟩:=hR.ne;have hnf:=hR.rH;have hlt:=hF.lt hn;have hlo:=hR.lo;obtain⟨z1,z2,z3,z4,z5,z6⟩:=hR.nz h0;refine fz (fn:=Tryz.f30) 193 (by kernel_rfl) rfl (by kernel_rfl) (S8 rfl) ?_;intro jZ bF hA a7;have dr:ag jZ (.tmp 0)=_:=hA 0 _ rfl;have eJ:bF.length=n:=by rw [a7];exact hn
 have dt:bF[b]? =_:=(congrArg (λq=>q[b]?) a7).trans hb;simp only [pS,Value.cells,Nat.reduceAdd,aD,aE,aG,aV,aP,bg,bh,c7,cX,cM,cN]at dt;have j0:bF[H.jJ]? =_:=(congrArg (λq=>q[H.jJ]?) a7).trans hJ;have j1:bF[H.jB]? =_:=(congrArg (λq=>q[H.jB]?) a7).trans hB;have j3:bF[H.jS]? =_:=(congrArg (λq=>q[H.jS]?) a7).trans hS;have j4:bF[H.jM]? =_:=(congrArg (λq=>q[H.jM]?) a7).trans hM;have j5:bF[0]? =_:=(congrArg (λq=>q[0]?) a7).trans h0;have j6:bz M0 bF (KR H b):=by rw [a7];exact bz.refl _ _
 have du:=hF;rw [<- a7]at du;clear hA a7;refine aj<|at_<|ar (ah dr) rfl<|c6 (ku (last:=st.last) eJ dt (by omega)) (ax aa aI) jA trivial rfl (λmU mV j7=>?_) (λ_ _ h=>h.elim)
 obtain⟨rfl,bI,dv⟩:=j7;simp only [pS,Value.cells,Nat.reduceAdd,aD,aE,aG,aV,aP,bg,bh,c7,cX,cM,cN]at dv;have eL:=bI.at_ j0 (λh_=>by(try dsimp only at h_)<;>omega);have eO:=bI.at_ j1 (λh_=>by(try dsimp only at h_)<;>omega);have eP:=bI.at_ j3 (λh_=>by(try dsimp only at h_)<;>omega);have eR:=bI.at_ j4 (λh_=>by(try dsimp only at h_)<;>omega);have eT:=bI.at_ j5 (λh_=>by(try dsimp only at h_)<;>omega);have eU:=j6.trans bI (λj_ hj_ h_=>by(try dsimp only at h_)<;>(try subst h_)<;>(simp [KR];done));have eV:=du.all bI (λq_ h1_ h2_ h_=>du.miss dt rfl q_ h1_ h2_ h_);obtain⟨cP,dw,mW⟩:=bI.len_ eJ;refine aL (cu jD rfl dw) trivial rfl (λmX a2=>?_);have ce:=bH a2 dw;simp only [pS,Value.cells,Nat.reduceAdd,aD,aE,aG,aV,aP,bg,bh,c7,cX,cM,cN]at ce;have eW:=aJ a2 dv;have eX:=aJ a2 eL;have eZ:=aJ a2 eO;have e0:=aJ a2 eP;have e3:=aJ a2 eR;have e4:=aJ a2 eT;have e5:=RestR.aJ a2 eU;have e6:=bu.aJ a2 eV;have j8:=bG a2 dw;clear a2 dv eL eO eP eR eT eU eV;refine aL (bN aa (ae rfl aa) rfl rfl ce jE rfl (au rfl)) trivial rfl (λmY a3=>?_);have dx:=bk a3 ce;simp only [pS,Value.cells,Nat.reduceAdd,aD,aE,aG,aV,aP,bg,bh,c7,cX,cM,cN]at dx;have cg:=ao a3 eW (by omega);have j9:=ao a3 eX (by omega);have ka:=ao a3 eZ (by omega);have kb:=ao a3 e0 (by omega);have kc:=ao a3 e3 (by omega);have kd:=ao a3 e4 (by omega);have ke:=RestR.ao a3 e5 (λhj_=>by(exfalso;omega));have kf:=bu.ao a3 e6 ce rfl;have e7:=bc a3 j8;clear a3 ce eW eX eZ e0 e3 e4 e5 e6;refine aY (ay (ae rfl (u2 rfl dr))) (ay aa) ?_;clear dr;intro mZ e8 dy;refine ai<|aj<|at_<|ar (aB gr rfl dy) rfl<|ar (ak (aC tV rfl dx aa (au rfl)) (by simp only [pS,Value.cells,Nat.reduceAdd,aD,aE,aG,aV,aP,bg,bh,c7,cX,cM,cN]<;>rfl)) rfl ?_
 refine ar (aw aa) rfl<|bq (ae rfl (u2 rfl e8)) (ae rfl (u2 rfl dy)) aa ?_;clear e8 dy;intro m0 dz e9 fa
 refine ai<|aj<|bP<|aj<|aj<|at_<|ar (ah dz) rfl<|ar (bC aa) rfl<|ar (aB ec rfl aa) rfl<|ar (ak (aC tV rfl cg aa (au rfl)) (by simp only [pS,Value.cells,Nat.reduceAdd,aD,aE,aG,aV,aP,bg,bh,c7,cX,cM,cN]<;>rfl)) rfl ?_
 refine ar (eG aa al) rfl<|ar (ah aa) rfl<|bM aa (λci dA=>?_) (λci dA=>?_)
 ·(rw [hk]at dA;simp at dA;done)
 refine az ⟨_,rfl,.inl ci⟩ rfl ?_;refine az ⟨_,rfl,.inl (ae rfl ci)⟩ rfl ?_;refine ar (bJ (u2 rfl ci) al) rfl<|ar (aw aa) rfl<|aZ (u2 rfl (u8 rfl dz)) (u2 rfl (u8 rfl e9)) (u2 rfl (u8 rfl fa)) aa ?_;clear ci dz e9 fa;intro m1 dB fb dE fc
 refine ai<|iP fc<|at_<|ar (ah dB) rfl<|ar (bC aa) rfl<|ar (aB ec rfl aa) rfl<|ar (ak (aC tV rfl cg aa (au rfl)) (by simp only [pS,Value.cells,Nat.reduceAdd,aD,aE,aG,aV,aP,bg,bh,c7,cX,cM,cN]<;>rfl)) rfl ?_
 refine ar (dS aa al) rfl<|ar (ah aa) rfl<|bM aa (λck cm=>?_) (λck cm=>?_)
 ·replace cm:=cV cm;refine aA (ah (u2 rfl (u4 rfl dE))) ⟨_,rfl,ck⟩ rfl ?_;refine aA (dS aa al) ⟨_,rfl,(ae rfl ck)⟩ rfl ?_;refine ar (bD (u2 rfl ck) aa) rfl<|ar (ah aa) rfl<|bM aa (λco cp=>?_) (λco cp=>?_)
  ·(simp only [toList_data]at cp;exact absurd cp (by decide))
  replace cp:=dj cp;refine az ⟨_,rfl,.inl co⟩ rfl ?_;refine az ⟨_,rfl,.inl (ae rfl co)⟩ rfl ?_;refine ar (bJ (u2 rfl co) al) rfl<|ar (ah aa) rfl<|az ⟨_,rfl,.inl aa⟩ rfl ?_
  refine az ⟨_,rfl,.inl (ae rfl aa)⟩ rfl ?_;refine ar (bJ (u2 rfl aa) al) rfl<|ar (aw aa) rfl<|aZ (u2 rfl (u16 rfl dB)) (u2 rfl (u16 rfl fb)) (u2 rfl (u16 rfl dE)) aa ?_;clear ck co dB fc fb dE;intro m2 cQ fd dF fe
  refine ai<|iP fe<|aj<|at_<|ar (ah cQ) rfl<|ar (bC aa) rfl<|ar (aB ec rfl aa) rfl<|ar (ak (aC tV rfl cg aa (au rfl)) (by simp only [pS,Value.cells,Nat.reduceAdd,aD,aE,aG,aV,aP,bg,bh,c7,cX,cM,cN]<;>rfl)) rfl ?_
  refine ar (dS aa al) rfl<|ar (ah aa) rfl<|bM aa (λbS ct=>?_) (λbS ct=>?_)
  ·replace ct:=cV ct;refine aA (ah (u2 rfl (u4 rfl cQ))) ⟨_,rfl,bS⟩ rfl ?_;refine aA (ah (ae rfl (u2 rfl (u4 rfl dF)))) ⟨_,rfl,(ae rfl bS)⟩ rfl ?_;refine c6 (wm (last:=⟨bQ,c0⟩) e7 cg bQ ho) (ax (ae rfl aa) (ax aa aI)) px ⟨_,rfl,(u2 rfl bS)⟩ rfl (λm3 bT kg=>?_) (λ_ _ h=>h.elim);obtain⟨rfl,a8⟩:=kg;have bU:=a8.at_ dx (λh_=>by(try dsimp only at h_)<;>first|omega|exact h_.elim);have bX:=a8.at_ cg (λh_=>by(try dsimp only at h_)<;>first|omega|exact h_.elim);have bZ:=a8.at_ j9 (λh_=>by(try dsimp only at h_)<;>first|omega|exact h_.elim);have b0:=a8.at_ ka (λh_=>by(try dsimp only at h_)<;>first|omega|exact h_.elim);have b1:=a8.at_ kb (λh_=>by(try dsimp only at h_)<;>first|omega|exact h_.elim);have cS:=a8.at_ kc (λh_=>by(try dsimp only at h_)<;>first|omega|exact h_.elim);have b2:=a8.at_ kd (λh_=>by(try dsimp only at h_)<;>first|omega|exact h_.elim);have cT:=ke.trans a8 (λj_ hj_ h_=>by(try dsimp only at h_)<;>(try subst h_)<;>first|exact h_.elim|(first|exact Or.inr (Or.inr (Or.inr (Or.inr (Or.inr ⟨q0,hq0,rfl⟩))))|(simp [KR];done))|rfl|(simp;done)|(exfalso;omega));have dG:=kf.all a8 (λq_ h1_ h2_ h_=>h_.elim);obtain⟨bB,bK,m4⟩:=a8.len_ e7;refine aA (di aa) ⟨_,rfl,(ae rfl (u2 rfl bS))⟩ rfl ?_;refine ar (bD (u4 rfl bS) aa) rfl<|ar (aw aa) rfl<|aZ (u4 rfl (u8 rfl cQ)) (u4 rfl (u8 rfl fd)) (u4 rfl (u8 rfl dF)) aa ?_;clear bS cQ fe fd dF;intro ff a5 m5 bE kh
   refine ai<|aW kh (λcU=>?_) (λcU=>?_)
   ·cases cU
   replace cU:=dj cU;refine br<|cv<|ai<|aj<|gz (λe mem=>(ag e (.tmp 0)=ag ff (.tmp 0))/\(ag e (.tmp 3)=ag ff (.tmp 3))/\(mem[cP]? =bT[cP]?)/\(mem[b]? =bT[b]?)/\(mem[H.jJ]? =bT[H.jJ]?)/\(mem[H.jB]? =bT[H.jB]?)/\(mem[H.jS]? =bT[H.jS]?)/\(mem[0]? =bT[0]?)/\(∃ n,mem.length=n/\bB<=n)/\(∃ hs2:HL,mem[H.jM]? =some (.mp (eQ hs2))/\bu mem hs2 (eN bQ st.cnt st.ks st.cs).2 hs2.length/\hs2.map (·.1)=(eN bQ st.cnt st.ks st.cs).1/\(∀ q,q<hs2.length->lo<=hN hs2 q)/\bz M0 mem (KR H b))) ?_ ?_
   ·
    have fh:=bU;have fi:=bX;have fj:=bZ;have fk:=b0;have fl:=b1;have fm:=b2;refine(Classical.em (∃ q0,q0<H.hs.length/\hK H.hs q0=bQ)).elim (λdH=>?_) (λdH=>?_)
    ·obtain⟨q0,hq0,hqk⟩:=dH;have hql:=hlt q0 hq0 (by omega);obtain⟨y1,y2,y3,y4,y5⟩:=hnf q0 hq0;have hcq:=hc q0;have y6:=z6 q0 hq0;obtain⟨fo,fp⟩:=dG.take hq0;refine fW 17 1 bK (by kernel_rfl) (by kernel_rfl) (by kernel_rfl) (by kernel_rfl) (λki af=>?_);have fq:=bp af bU;have cw:=bp af bX;have fs:=bp af bZ;have ft:=bp af b0;have fu:=bp af b1;have dI:=bp af cS;have fx:=bp af b2;have fy:=RestR.bp af cT;have fA:=bu.bp af fp;have fB:=bp af fo;have cW:ki[bB]? =_:=fH af bK 0 rfl rfl;have kj:_=bB+1:=fX (K:=1) af bK;clear af bU bX bZ b0 b1 cS b2 cT fp fo bK;refine aQ (λM_ hM_=>(ah a5)) trivial ?_;refine aQ (λM_ hM_=>(bC aa)) trivial ?_;refine aQ (λM_ hM_=>(aB gu rfl aa)) trivial ?_;refine cG (b) (λM_ hM_=>(ak (aC sX rfl (cf hM_ cw (by simp)) aa (au rfl)) (by simp only [pS,Value.cells,Nat.reduceAdd,aD,aE,aG,aV,aP,bg,bh,c7,cX,cM,cN]<;>rfl))) trivial trivial ?_;refine aQ (λM_ hM_=>(ah (u4 rfl bE))) trivial ?_;refine aQ (λM_ hM_=>(ah (ae rfl (u4 rfl a5)))) trivial ?_;refine aQ (λM_ hM_=>(bC aa)) trivial ?_;refine aQ (λM_ hM_=>(aB gu rfl aa)) trivial ?_;refine cG (b) (λM_ hM_=>(ak (aC sX rfl (cf hM_ cw (by simp)) aa (au rfl)) (by simp only [pS,Value.cells,Nat.reduceAdd,aD,aE,aG,aV,aP,bg,bh,c7,cX,cM,cN]<;>rfl))) trivial trivial ?_;refine aQ (λM_ hM_=>(ah (ae rfl (u8 rfl bE)))) trivial ?_;refine cG (H.jM) (λM_ hM_=>(qu gB gC (cf hM_ dI (by simp)) (ae rfl aa) aa (show(eQ H.hs)[q0]? =some (bQ,.own (hN H.hs q0))by rw [jY hq0,hqk]) hF.mi)) trivial trivial ?_;refine aQ (λM_ hM_=>(ah (ae rfl (u2 rfl (u8 rfl a5))))) trivial ?_;refine aQ (λM_ hM_=>(bC aa)) trivial ?_;refine aQ (λM_ hM_=>(aB hP rfl aa)) trivial ?_;refine cG (b) (λM_ hM_=>(ak (aC xM rfl (cf hM_ cw (by simp)) aa (au rfl)) (by simp only [pS,Value.cells,Nat.reduceAdd,aD,aE,aG,aV,aP,bg,bh,c7,cX,cM,cN]<;>rfl))) trivial trivial ?_;refine aQ (λM_ hM_=>(dT sW (bo aa bY) rfl rfl rfl rfl)) trivial ?_;refine lX (bB) ((hN H.hs q0)) (λM_ hM_=>(k6 sW rfl (cf hM_ fB (by simp)) (ae rfl (u4 rfl aa)) aa (by rfl) (by simp only [bn]<;>omega))) trivial cW rfl trivial ⟨.inl (by simp<;>omega),⟨.inl (by simp<;>omega),⟨.inl (by simp<;>omega),⟨.inl (by simp<;>omega),trivial⟩⟩⟩⟩ ⟨.inl (by simp<;>omega),⟨.inl (by simp<;>omega),⟨.inl (by simp<;>omega),⟨.inl (by simp<;>omega),trivial⟩⟩⟩⟩ (λm6 an=>?_);have dJ:=l6 an cW;simp only [pS,Value.cells,Nat.reduceAdd,aD,aE,aG,aV,aP,bg,bh,c7,cX,cM,cN]at dJ;have fC:=cn an fq (by omega) (by omega);have fD:=cn an cw (by omega) (by omega);have fE:=cn an fs (by omega) (by omega);have fF:=cn an ft (by omega) (by omega);have fG:=cn an fu (by omega) (by omega);have cY:=cn an dI (by omega) (by omega);have fI:=cn an fx (by omega) (by omega);have fK:=RestR.cn an fy (λhj_=>by(exact Or.inr (Or.inr (Or.inr (Or.inr (Or.inr ⟨q0,hq0,rfl⟩)))))) (λhj_=>by(exfalso;omega));have fL:=bu.uH (by omega) an fA cW rfl;have km:=lQ an kj;clear an fq cw fs ft fu dI fx fy fA fB cW;refine gj rfl ?_;refine aL (tI gB gC cY (ae rfl (u4 rfl (u8 rfl aa))) (u4 rfl (u8 rfl aa)) aa (show(eQ H.hs)[q0]? =some (bQ,.own (hN H.hs q0))by rw [jY hq0,hqk]) hF.mi) trivial rfl (λm7 ap=>?_);have fM:=bk ap cY;simp only [pS,Value.cells,Nat.reduceAdd,aD,aE,aG,aV,aP,bg,bh,c7,cX,cM,cN]at fM;have kn:=ao ap dJ (by omega);have ko:=ao ap fC (by omega);have kp:=ao ap fD (by omega);have kq:=ao ap fE (by omega);have kr:=ao ap fF (by omega);have kt:=ao ap fG (by omega);have kv:=ao ap fI (by omega);have kw:=RestR.ao ap fK (λhj_=>by(simp [KR];done));have kx:=bu.ao ap fL cY rfl;have ky:=bc ap km;clear ap dJ fC fD fE fF fG cY fI fK fL;refine aY (ay (ae rfl (u16 rfl a5))) (ay (ae rfl (u16 rfl bE))) ?_;intro m8 kz kA;refine ai ⟨(kz).trans (a5).symm,(kA).trans (bE).symm,ko.trans fh.symm,kp.trans fi.symm,kq.trans fj.symm,kr.trans fk.symm,kt.trans fl.symm,kv.trans fm.symm,⟨_,ky,by omega⟩,?_⟩
     (have hadd:=qw (c:=st.cnt) H.hs st.cs q0 hF.len hq0 hqk (λp hp e=>absurd (hF.key p q0 (by omega) hq0 (e.trans hqk.symm)) (by omega));rw [hR.keys]at hadd;rw [hadd];exact⟨_,fM,kx.put hq0 hqk kn (λq hq=>(by have:=hlt q hq (by omega);omega)),(sT hq0 hqk).trans hR.keys,(λq hq=>by rw [Ul]at hq;rw [nS hq0];split<;>first|exact hlo.2.2.2.2.2 q hq|(show lo<=bB;omega)),kw⟩)
    ·have hqm:=uJ dH;refine fW 17 1 bK (by kernel_rfl) (by kernel_rfl) (by kernel_rfl) (by kernel_rfl) (λkB av=>?_);have fN:=bp av bU;have cx:=bp av bX;have fO:=bp av bZ;have fP:=bp av b0;have fQ:=bp av b1;have dL:=bp av cS;have fR:=bp av b2;have fS:=RestR.bp av cT;have fT:=bu.bp av dG;have cZ:kB[bB]? =_:=fH av bK 0 rfl rfl;have kC:_=bB+1:=fX (K:=1) av bK;clear av bU bX bZ b0 b1 cS b2 cT dG bK;refine aQ (λM_ hM_=>(ah a5)) trivial ?_;refine aQ (λM_ hM_=>(bC aa)) trivial ?_;refine aQ (λM_ hM_=>(aB gu rfl aa)) trivial ?_;refine cG (b) (λM_ hM_=>(ak (aC sX rfl (cf hM_ cx (by simp)) aa (au rfl)) (by simp only [pS,Value.cells,Nat.reduceAdd,aD,aE,aG,aV,aP,bg,bh,c7,cX,cM,cN]<;>rfl))) trivial trivial ?_;refine aQ (λM_ hM_=>(ah (u4 rfl bE))) trivial ?_;refine aQ (λM_ hM_=>(ah (ae rfl (u4 rfl a5)))) trivial ?_;refine aQ (λM_ hM_=>(bC aa)) trivial ?_;refine aQ (λM_ hM_=>(aB gu rfl aa)) trivial ?_;refine cG (b) (λM_ hM_=>(ak (aC sX rfl (cf hM_ cx (by simp)) aa (au rfl)) (by simp only [pS,Value.cells,Nat.reduceAdd,aD,aE,aG,aV,aP,bg,bh,c7,cX,cM,cN]<;>rfl))) trivial trivial ?_;refine aQ (λM_ hM_=>(ah (ae rfl (u8 rfl bE)))) trivial ?_;refine cG (H.jM) (λM_ hM_=>(sK gB gC tR (cf hM_ dL (by simp)) (ae rfl aa) aa (mB hqm))) trivial trivial ?_;refine aQ (λM_ hM_=>(ah (ae rfl (u2 rfl (u8 rfl a5))))) trivial ?_;refine aQ (λM_ hM_=>(bC aa)) trivial ?_;refine aQ (λM_ hM_=>(aB hP rfl aa)) trivial ?_;refine cG (b) (λM_ hM_=>(ak (aC xM rfl (cf hM_ cx (by simp)) aa (au rfl)) (by simp only [pS,Value.cells,Nat.reduceAdd,aD,aE,aG,aV,aP,bg,bh,c7,cX,cM,cN]<;>rfl))) trivial trivial ?_;refine aQ (λM_ hM_=>(dT sW (bo aa bY) rfl rfl rfl rfl)) trivial ?_;refine lh (bB) (λM_ hM_=>(tw sW rfl (ae rfl (u4 rfl aa)) aa (by rfl) (by simp only [bn]<;>omega))) trivial cZ rfl trivial ⟨.inl (by simp<;>omega),⟨.inl (by simp<;>omega),⟨.inl (by simp<;>omega),⟨.inl (by simp<;>omega),trivial⟩⟩⟩⟩ (λm9 aF=>?_);have dM:=bk aF cZ;simp only [pS,Value.cells,Nat.reduceAdd,aD,aE,aG,aV,aP,bg,bh,c7,cX,cM,cN]at dM;have fU:=ao aF fN (by omega);have fV:=ao aF cx (by omega);have fZ:=ao aF fO (by omega);have f0:=ao aF fP (by omega);have ga:=ao aF fQ (by omega);have c8:=ao aF dL (by omega);have gb:=ao aF fR (by omega);have gc:=RestR.ao aF fS (λhj_=>by(exfalso;omega));have gd:=bu.ao aF fT cZ rfl;have kD:=bc aF kC;clear aF fN cx fO fP fQ dL fR fS fT cZ;refine gj rfl ?_;refine aL (tJ gB gC c8 (ae rfl (u4 rfl (u8 rfl aa))) (u4 rfl (u8 rfl aa)) aa (mB hqm)) trivial rfl (λna aH=>?_);have ge:=bk aH c8;simp only [pS,Value.cells,Nat.reduceAdd,aD,aE,aG,aV,aP,bg,bh,c7,cX,cM,cN]at ge;have kE:=ao aH dM (by omega);have kF:=ao aH fU (by omega);have kG:=ao aH fV (by omega);have kH:=ao aH fZ (by omega);have kI:=ao aH f0 (by omega);have kJ:=ao aH ga (by omega);have kK:=ao aH gb (by omega);have kL:=RestR.ao aH gc (λhj_=>by(simp [KR];done));have kM:=bu.ao aH gd c8 rfl;have kN:=bc aH kD;clear aH dM fU fV fZ f0 ga c8 gb gc gd;refine aY (ay (ae rfl (u16 rfl a5))) (ay (ae rfl (u16 rfl bE))) ?_;intro nb kO kP;refine ai ⟨(kO).trans (a5).symm,(kP).trans (bE).symm,kF.trans fh.symm,kG.trans fi.symm,kH.trans fj.symm,kI.trans fk.symm,kJ.trans fl.symm,kK.trans fm.symm,⟨_,kN,by omega⟩,?_⟩
     (have hadd:=qm (k:=bQ) (c:=st.cnt) H.hs st.cs hF.len hqm;rw [hR.keys]at hadd;rw [hadd];exact⟨_,ge,kM.more hqm kE (λq hq=>(by have:=hlt q hq (by omega);omega)),(by rw [Ux,hR.keys];rfl),(λq hq=>by rw [nU];split<;>first|exact hlo.2.2.2.2.2 q (by assumption)|(rw [if_pos (by simp at hq;omega)];show lo<=bB;omega)),kL⟩)
   ·rintro nc nd ⟨kQ,kR,kU,kV,kW,kX,kZ,k0,⟨dO,dP,nf⟩,⟨hs2,moM2,hF2,hks2,hlo2,hR2⟩⟩;have gf:=kQ.trans a5;have dQ:=kR.trans bE;have gg:=kU.trans bU;have gh:=kV.trans bX;have gi:=kW.trans bZ;have gk:=kX.trans b0;have gl:=kZ.trans b1;have gm:=k0.trans b2;refine aj<|aj<|at_<|ar (ah dQ) rfl<|bq (ae rfl gf) (ae rfl dQ) aa ?_;clear gf dQ;intro ng gn gp dR
    refine ai<|bP<|aj<|at_<|ar (eG dR al) rfl<|ar (aw aa) rfl<|aZ (u2 rfl gn) (u2 rfl gp) (u2 rfl dR) aa ?_;clear gn gp dR;intro nh gq gt dV gv
    refine ai<|aW gv (λdX=>?_) (λdX=>?_)
    ·(simp only [toList_data]at dX;exact absurd dX (by decide))
    refine aj<|at_<|ar (eG dV al) rfl<|ar (aw aa) rfl<|aZ (u2 rfl gq) (u2 rfl gt) (u2 rfl dV) aa ?_;clear gq gv gt dV;intro ni gy gA k2 gD
    refine ai<|aW gD (λdY=>?_) (λdY=>?_)
    ·skip;refine aj<|at_<|aL (cu pJ rfl dP) trivial rfl (λb6 aK=>?_)
     have gE:=bH aK dP;simp only [pS,Value.cells,Nat.reduceAdd,aD,aE,aG,aV,aP,bg,bh,c7,cX,cM,cN]at gE;have cy:=aJ aK gg;have k4:=aJ aK gh;have cz:=aJ aK gi;have cA:=aJ aK gk;have cB:=aJ aK gl;have cC:=aJ aK gm;have cD:=aJ aK moM2;have k5:=bu.aJ aK hF2;have k7:=RestR.aJ aK hR2;have k8:=bG aK dP;clear aK gg gh gi gk gl gm moM2 hF2 hR2;refine bq (ae rfl gy) (ae rfl gA) aa ?_;clear gy gD gA k2;intro nj gF gG b8;refine ai<|aj<|aj<|at_<|ar (aB jR rfl b8) rfl<|ar (aB oW rfl (ae rfl b8)) rfl<|ar (aB fY rfl (u2 rfl b8)) rfl<|ar (aB jP rfl aa) rfl<|ar (aB fY rfl (u4 rfl b8)) rfl<|ar (aB jQ rfl aa) rfl<|ar (vX (bo (ae rfl (u4 rfl aa)) (bo (u4 rfl aa) (bo (u2 rfl aa) (bo aa bY)))) Jz JA JB rfl) rfl ?_
     refine ar (ah al) rfl<|bV (u8 rfl gF) (u8 rfl gG) (u8 rfl b8) (ae rfl aa) aa ?_;clear gF gG b8;intro c9 cE cF cH cJ k9
     refine ai<|bP<|dN (S:=Nat) (λi e mem=>(ag e (.tmp 134)= .v (.int .i64 (i:Int)))/\(ag e (.tmp 0)=ag c9 (.tmp 0))/\(ag e (.tmp 3)=ag c9 (.tmp 3))/\(ag e (.tmp 4)=ag c9 (.tmp 4))/\(ag e (.tmp 133)=ag c9 (.tmp 133))/\(mem[dO]? =some (.box 59 (cX (dZ (cq ws)) (dZ (cq ws.tail)) (dZ (cq ws.tail.tail)) (dZ (cq ws.tail.tail.tail)) i)))/\(mem[b]? =some (.box 77 (aD st.nam (.own H.jJ) (.own H.jB) (.own H.jS) (.own H.jM) st.cnt (cM ws i) (cN ⟨bQ,c0⟩ ws i) st.kind)))/\(mem[cP]? =b6[cP]?)/\(mem[H.jJ]? =b6[H.jJ]?)/\(mem[H.jB]? =b6[H.jB]?)/\(mem[H.jS]? =b6[H.jS]?)/\(mem[0]? =b6[0]?)/\(mem[H.jM]? =b6[H.jM]?)/\(∃ n,mem.length=n/\dO+1<=n)/\((i<=4/\iw (cN ⟨bQ,c0⟩ ws i) (cM ws i)/\eY [1,1,1,1] ⟨bQ,c0⟩ ws=eY (SI i) (cN ⟨bQ,c0⟩ ws i) (cM ws i)/\bu mem hs2 (eN bQ st.cnt st.ks st.cs).2 hs2.length/\bz M0 mem (KR H b)))) (λi=>(4 - i)) 0 ⟨k9,rfl,rfl,rfl,rfl,gE,k4,rfl,rfl,rfl,rfl,rfl,rfl,⟨_,k8,Tf _⟩,?_⟩ ?_
     ·(exact⟨by omega,hW,rfl,k5,k7⟩)
     ·rintro i nk nl ⟨ab,lb,lc,ld,lf,a6,ad,lg,li,lj,lk,ll,ln,⟨cK,aM,nm⟩,hinv⟩;have a9:=lb.trans cE;have ba:=lc.trans cF;have bb:=ld.trans cH;have be:=lf.trans cJ;have b9:=lg.trans cy;have ca:=li.trans cz;have cb:=lj.trans cA;have cc:=lk.trans cB;have bj:=ll.trans cC;have cd:=ln.trans cD
      (obtain⟨ii,hW3,hfm,hF3,hR3⟩:=hinv)
      have lp:i=0\/i=1\/i=2\/i=3\/i=4:=by omega
      rcases lp with rfl|rfl|rfl|rfl|rfl
      ·
       simp only [pS,Value.cells,Nat.reduceAdd,aD,aE,aG,aV,aP,bg,bh,c7,cX,cM,cN]at a6;simp only [pS,Value.cells,Nat.reduceAdd,aD,aE,aG,aV,aP,bg,bh,c7,cX,cM,cN]at ad;refine aj<|at_<|ar (cL ab al) rfl<|ei (ae rfl a9) (ae rfl ba) (ae rfl bb) (ae rfl be) (ae rfl ab) aa ?_;clear a9 be ab ba bb;intro nn gH gI gJ ea eb gK
       refine ai<|aj<|aW gK (λda=>?_) (λda=>?_)
       ·replace da:=bt da;refine br<|ai<|aj<|bP<|aj<|at_<|ar (sL sC ea eb rfl rfl) rfl<|ar (aw aa) rfl<|ei (u2 rfl gH) (u2 rfl gI) (u2 rfl gJ) aa (u2 rfl ea) (u2 rfl eb) ?_;clear gH ea eb gK gI gJ;intro np ed gL gM gN gO gP
        refine ai<|at_<|ar (ah gN) rfl<|ar (ah (ae rfl ed)) rfl<|c6 (lH (last:=cN ⟨bQ,c0⟩ ws 0) (ws:=cM ws 0) aM hes her bj ad hW3 true) (ax aa (ax al aI)) lO trivial rfl (λnq nr ee=>?_) (λnt nu ee=>?_)
        rotate_left
        ·
         repeat (first|refine dU ?_|refine fJ ?_)
         (rcases ee with⟨ha_,rfl,hz_⟩;exact⟨_,rfl,_,_,ha_,kY (by rw [kT];exact hfm.trans (oP ha_)) ha_,rfl,hR3.trans hz_ (λj_ hj_ h_=>by(subst h_;simp [KR];done))⟩)
        obtain⟨hn1,rfl,bm,ef⟩:=ee;have db:=bm.at_ a6 (λh_=>by(try dsimp only at h_)<;>omega);simp only [pS,Value.cells,Nat.reduceAdd,aD,aE,aG,aV,aP,bg,bh,c7,cX,cM,cN]at ef;have gQ:=bm.at_ b9 (λh_=>by(try dsimp only at h_)<;>omega);have gR:=bm.at_ ca (λh_=>by(try dsimp only at h_)<;>omega);have gS:=bm.at_ cb (λh_=>by(try dsimp only at h_)<;>omega);have gT:=bm.at_ cc (λh_=>by(try dsimp only at h_)<;>omega);have gU:=bm.at_ bj (λh_=>by(try dsimp only at h_)<;>omega);have gW:=bm.at_ cd (λh_=>by(try dsimp only at h_)<;>omega);have gY:=hF3.all bm (λq_ h1_ h2_ h_=>hF3.miss ad rfl q_ h1_ h2_ h_);have gZ:=hR3.trans bm (λj_ hj_ h_=>by(try dsimp only at h_)<;>(try subst h_)<;>(simp [KR];done));obtain⟨nv,lq,nw⟩:=bm.len_ aM;refine ar (bC (u2 rfl aa)) rfl<|aL (bN aa (ae rfl aa) rfl rfl db il rfl (au rfl)) trivial rfl (λnx aN=>?_)
        have g0:=bk aN db;simp only [pS,Value.cells,Nat.reduceAdd,aD,aE,aG,aV,aP,bg,bh,c7,cX,cM,cN]at g0;have lr:=ao aN ef (by omega);have lv:=ao aN gQ (by omega);have lw:=ao aN gR (by omega);have lx:=ao aN gS (by omega);have ly:=ao aN gT (by omega);have lz:=ao aN gU (by omega);have lA:=ao aN gW (by omega);have lB:=bu.ao aN gY db rfl;have lC:=RestR.ao aN gZ (λhj_=>by(exfalso;omega));have lD:=bc aN lq;clear aN db ef gQ gR gS gT gU gW gY gZ;refine bV (ay (u4 rfl ed)) (ay (u4 rfl gL)) (ay (u4 rfl gM)) (ay (u4 rfl gO)) (ay (u4 rfl gP)) ?_;clear ed gO gP gL gM gN;intro ny g1 g2 g3 g4 g5;refine cv<|ai<|at_ ?_
        (refine ar (cj g5 al ?_) rfl ?_; · (unfold In64;omega))
        refine ar (ah aa) rfl<|bV (u2 rfl g1) (u2 rfl g2) (u2 rfl g3) (u2 rfl g4) aa ?_;clear g1 g4 g5 g2 g3;intro nA lE lF lG lI lJ
        refine ai<|⟨0+1,⟨lJ,(lE.trans cE.symm),(lF.trans cF.symm),(lG.trans cH.symm),(lI.trans cJ.symm),g0,lr,(lv.trans cy.symm),(lw.trans cz.symm),(lx.trans cA.symm),(ly.trans cB.symm),(lz.trans cC.symm),(lA.trans cD.symm),⟨_,lD,by omega⟩,?_⟩,?_⟩
        ·(exact⟨by omega,hW3.tail (jU hn1),hfm.trans (jz hn1),lB,lC⟩)
        ·((try dsimp only);omega)
       ·cases da
      ·
       simp only [pS,Value.cells,Nat.reduceAdd,aD,aE,aG,aV,aP,bg,bh,c7,cX,cM,cN]at a6;simp only [pS,Value.cells,Nat.reduceAdd,aD,aE,aG,aV,aP,bg,bh,c7,cX,cM,cN]at ad;refine aj<|at_<|ar (cL ab al) rfl<|ei (ae rfl a9) (ae rfl ba) (ae rfl bb) (ae rfl be) (ae rfl ab) aa ?_;clear a9 be ab ba bb;intro nB g6 g7 g8 eg eh hh
       refine ai<|aj<|aW hh (λdc=>?_) (λdc=>?_)
       ·replace dc:=bt dc;refine br<|ai<|aj<|bP<|aj<|at_<|ar (sL sC eg eh rfl rfl) rfl<|ar (aw aa) rfl<|ei (u2 rfl g6) (u2 rfl g7) (u2 rfl g8) aa (u2 rfl eg) (u2 rfl eh) ?_;clear g6 eg eh hh g7 g8;intro nC ej hv hC hD hE hG
        refine ai<|at_<|ar (ah hD) rfl<|ar (ah (ae rfl ej)) rfl<|c6 (lH (last:=cN ⟨bQ,c0⟩ ws 1) (ws:=cM ws 1) aM hes her bj ad hW3 true) (ax aa (ax al aI)) lO trivial rfl (λnD nE ek=>?_) (λnF nG ek=>?_)
        rotate_left
        ·
         repeat (first|refine dU ?_|refine fJ ?_)
         (rcases ek with⟨ha_,rfl,hz_⟩;exact⟨_,rfl,_,_,ha_,kY (by rw [kT];exact hfm.trans (oP ha_)) ha_,rfl,hR3.trans hz_ (λj_ hj_ h_=>by(subst h_;simp [KR];done))⟩)
        obtain⟨hn1,rfl,bv,en⟩:=ek;have dd:=bv.at_ a6 (λh_=>by(try dsimp only at h_)<;>omega);simp only [pS,Value.cells,Nat.reduceAdd,aD,aE,aG,aV,aP,bg,bh,c7,cX,cM,cN]at en;have hH:=bv.at_ b9 (λh_=>by(try dsimp only at h_)<;>omega);have hI:=bv.at_ ca (λh_=>by(try dsimp only at h_)<;>omega);have hO:=bv.at_ cb (λh_=>by(try dsimp only at h_)<;>omega);have hQ:=bv.at_ cc (λh_=>by(try dsimp only at h_)<;>omega);have hU:=bv.at_ bj (λh_=>by(try dsimp only at h_)<;>omega);have hV:=bv.at_ cd (λh_=>by(try dsimp only at h_)<;>omega);have hY:=hF3.all bv (λq_ h1_ h2_ h_=>hF3.miss ad rfl q_ h1_ h2_ h_);have hZ:=hR3.trans bv (λj_ hj_ h_=>by(try dsimp only at h_)<;>(try subst h_)<;>(simp [KR];done));obtain⟨nH,lK,nI⟩:=bv.len_ aM;refine ar (bC (u2 rfl aa)) rfl<|aL (bN aa (ae rfl aa) rfl rfl dd il rfl (au rfl)) trivial rfl (λnJ aO=>?_)
        have h6:=bk aO dd;simp only [pS,Value.cells,Nat.reduceAdd,aD,aE,aG,aV,aP,bg,bh,c7,cX,cM,cN]at h6;have lL:=ao aO en (by omega);have lM:=ao aO hH (by omega);have lN:=ao aO hI (by omega);have lP:=ao aO hO (by omega);have lR:=ao aO hQ (by omega);have lS:=ao aO hU (by omega);have lT:=ao aO hV (by omega);have lU:=bu.ao aO hY dd rfl;have lV:=RestR.ao aO hZ (λhj_=>by(exfalso;omega));have lW:=bc aO lK;clear aO dd en hH hI hO hQ hU hV hY hZ;refine bV (ay (u4 rfl ej)) (ay (u4 rfl hv)) (ay (u4 rfl hC)) (ay (u4 rfl hE)) (ay (u4 rfl hG)) ?_;clear ej hE hG hv hC hD;intro nK h7 h8 h9 ia ib;refine cv<|ai<|at_ ?_
        (refine ar (cj ib al ?_) rfl ?_; · (unfold In64;omega))
        refine ar (ah aa) rfl<|bV (u2 rfl h7) (u2 rfl h8) (u2 rfl h9) (u2 rfl ia) aa ?_;clear h7 ia ib h8 h9;intro nL lZ l1 l3 l4 l5
        refine ai<|⟨1+1,⟨l5,(lZ.trans cE.symm),(l1.trans cF.symm),(l3.trans cH.symm),(l4.trans cJ.symm),h6,lL,(lM.trans cy.symm),(lN.trans cz.symm),(lP.trans cA.symm),(lR.trans cB.symm),(lS.trans cC.symm),(lT.trans cD.symm),⟨_,lW,by omega⟩,?_⟩,?_⟩
        ·(exact⟨by omega,hW3.tail (jU hn1),hfm.trans (jz hn1),lU,lV⟩)
        ·((try dsimp only);omega)
       ·cases dc
      ·
       simp only [pS,Value.cells,Nat.reduceAdd,aD,aE,aG,aV,aP,bg,bh,c7,cX,cM,cN]at a6;simp only [pS,Value.cells,Nat.reduceAdd,aD,aE,aG,aV,aP,bg,bh,c7,cX,cM,cN]at ad;refine aj<|at_<|ar (cL ab al) rfl<|ei (ae rfl a9) (ae rfl ba) (ae rfl bb) (ae rfl be) (ae rfl ab) aa ?_;clear a9 be ab ba bb;intro nM ic ie ig eo ep ih
       refine ai<|aj<|aW ih (λde=>?_) (λde=>?_)
       ·replace de:=bt de;refine br<|ai<|aj<|bP<|aj<|at_<|ar (sL sC eo ep rfl rfl) rfl<|ar (aw aa) rfl<|ei (u2 rfl ic) (u2 rfl ie) (u2 rfl ig) aa (u2 rfl eo) (u2 rfl ep) ?_;clear ic eo ep ih ie ig;intro nN eu ij ik im io ip
        refine ai<|at_<|ar (ah im) rfl<|ar (ah (ae rfl eu)) rfl<|c6 (lH (last:=cN ⟨bQ,c0⟩ ws 2) (ws:=cM ws 2) aM hes her bj ad hW3 true) (ax aa (ax al aI)) lO trivial rfl (λnO nP ev=>?_) (λnQ nR ev=>?_)
        rotate_left
        ·
         repeat (first|refine dU ?_|refine fJ ?_)
         (rcases ev with⟨ha_,rfl,hz_⟩;exact⟨_,rfl,_,_,ha_,kY (by rw [kT];exact hfm.trans (oP ha_)) ha_,rfl,hR3.trans hz_ (λj_ hj_ h_=>by(subst h_;simp [KR];done))⟩)
        obtain⟨hn1,rfl,bx,ew⟩:=ev;have df:=bx.at_ a6 (λh_=>by(try dsimp only at h_)<;>omega);simp only [pS,Value.cells,Nat.reduceAdd,aD,aE,aG,aV,aP,bg,bh,c7,cX,cM,cN]at ew;have iq:=bx.at_ b9 (λh_=>by(try dsimp only at h_)<;>omega);have ir:=bx.at_ ca (λh_=>by(try dsimp only at h_)<;>omega);have iu:=bx.at_ cb (λh_=>by(try dsimp only at h_)<;>omega);have iv:=bx.at_ cc (λh_=>by(try dsimp only at h_)<;>omega);have ix:=bx.at_ bj (λh_=>by(try dsimp only at h_)<;>omega);have iy:=bx.at_ cd (λh_=>by(try dsimp only at h_)<;>omega);have iA:=hF3.all bx (λq_ h1_ h2_ h_=>hF3.miss ad rfl q_ h1_ h2_ h_);have iB:=hR3.trans bx (λj_ hj_ h_=>by(try dsimp only at h_)<;>(try subst h_)<;>(simp [KR];done));obtain⟨nT,l7,nV⟩:=bx.len_ aM;refine ar (bC (u2 rfl aa)) rfl<|aL (bN aa (ae rfl aa) rfl rfl df il rfl (au rfl)) trivial rfl (λnW aR=>?_)
        have iC:=bk aR df;simp only [pS,Value.cells,Nat.reduceAdd,aD,aE,aG,aV,aP,bg,bh,c7,cX,cM,cN]at iC;have l8:=ao aR ew (by omega);have l9:=ao aR iq (by omega);have ma:=ao aR ir (by omega);have mb:=ao aR iu (by omega);have mc:=ao aR iv (by omega);have md:=ao aR ix (by omega);have me:=ao aR iy (by omega);have mf:=bu.ao aR iA df rfl;have mg:=RestR.ao aR iB (λhj_=>by(exfalso;omega));have mh:=bc aR l7;clear aR df ew iq ir iu iv ix iy iA iB;refine bV (ay (u4 rfl eu)) (ay (u4 rfl ij)) (ay (u4 rfl ik)) (ay (u4 rfl io)) (ay (u4 rfl ip)) ?_;clear eu io ip ij ik im;intro nX iD iE iF iG iH;refine cv<|ai<|at_ ?_
        (refine ar (cj iH al ?_) rfl ?_; · (unfold In64;omega))
        refine ar (ah aa) rfl<|bV (u2 rfl iD) (u2 rfl iE) (u2 rfl iF) (u2 rfl iG) aa ?_;clear iD iG iH iE iF;intro nY mj ml mm mn mo
        refine ai<|⟨2+1,⟨mo,(mj.trans cE.symm),(ml.trans cF.symm),(mm.trans cH.symm),(mn.trans cJ.symm),iC,l8,(l9.trans cy.symm),(ma.trans cz.symm),(mb.trans cA.symm),(mc.trans cB.symm),(md.trans cC.symm),(me.trans cD.symm),⟨_,mh,by omega⟩,?_⟩,?_⟩
        ·(exact⟨by omega,hW3.tail (jU hn1),hfm.trans (jz hn1),mf,mg⟩)
        ·((try dsimp only);omega)
       ·cases de
      ·
       simp only [pS,Value.cells,Nat.reduceAdd,aD,aE,aG,aV,aP,bg,bh,c7,cX,cM,cN]at a6;simp only [pS,Value.cells,Nat.reduceAdd,aD,aE,aG,aV,aP,bg,bh,c7,cX,cM,cN]at ad;refine aj<|at_<|ar (cL ab al) rfl<|ei (ae rfl a9) (ae rfl ba) (ae rfl bb) (ae rfl be) (ae rfl ab) aa ?_;clear a9 be ab ba bb;intro nZ iI iJ iK ey ez iL
       refine ai<|aj<|aW iL (λdg=>?_) (λdg=>?_)
       ·replace dg:=bt dg;refine br<|ai<|aj<|bP<|aj<|at_<|ar (sL sC ey ez rfl rfl) rfl<|ar (aw aa) rfl<|ei (u2 rfl iI) (u2 rfl iJ) (u2 rfl iK) aa (u2 rfl ey) (u2 rfl ez) ?_;clear iI ey ez iL iJ iK;intro n1 eA iM iN iO iQ iR
        refine ai<|at_<|ar (ah iO) rfl<|ar (ah (ae rfl eA)) rfl<|c6 (lH (last:=cN ⟨bQ,c0⟩ ws 3) (ws:=cM ws 3) aM hes her bj ad hW3 true) (ax aa (ax al aI)) lO trivial rfl (λn2 n5 eB=>?_) (λn6 n7 eB=>?_)
        rotate_left
        ·
         repeat (first|refine dU ?_|refine fJ ?_)
         (rcases eB with⟨ha_,rfl,hz_⟩;exact⟨_,rfl,_,_,ha_,kY (by rw [kT];exact hfm.trans (oP ha_)) ha_,rfl,hR3.trans hz_ (λj_ hj_ h_=>by(subst h_;simp [KR];done))⟩)
        obtain⟨hn1,rfl,bA,eC⟩:=eB;have dh:=bA.at_ a6 (λh_=>by(try dsimp only at h_)<;>omega);simp only [pS,Value.cells,Nat.reduceAdd,aD,aE,aG,aV,aP,bg,bh,c7,cX,cM,cN]at eC;have iT:=bA.at_ b9 (λh_=>by(try dsimp only at h_)<;>omega);have iU:=bA.at_ ca (λh_=>by(try dsimp only at h_)<;>omega);have iV:=bA.at_ cb (λh_=>by(try dsimp only at h_)<;>omega);have iW:=bA.at_ cc (λh_=>by(try dsimp only at h_)<;>omega);have iX:=bA.at_ bj (λh_=>by(try dsimp only at h_)<;>omega);have iY:=bA.at_ cd (λh_=>by(try dsimp only at h_)<;>omega);have iZ:=hF3.all bA (λq_ h1_ h2_ h_=>hF3.miss ad rfl q_ h1_ h2_ h_);have i6:=hR3.trans bA (λj_ hj_ h_=>by(try dsimp only at h_)<;>(try subst h_)<;>(simp [KR];done));obtain⟨n8,mq,n9⟩:=bA.len_ aM;refine ar (bC (u2 rfl aa)) rfl<|aL (bN aa (ae rfl aa) rfl rfl dh il rfl (au rfl)) trivial rfl (λoa aS=>?_)
        have i7:=bk aS dh;simp only [pS,Value.cells,Nat.reduceAdd,aD,aE,aG,aV,aP,bg,bh,c7,cX,cM,cN]at i7;have mr:=ao aS eC (by omega);have mu:=ao aS iT (by omega);have mv:=ao aS iU (by omega);have mw:=ao aS iV (by omega);have mx:=ao aS iW (by omega);have my:=ao aS iX (by omega);have mz:=ao aS iY (by omega);have mA:=bu.ao aS iZ dh rfl;have mC:=RestR.ao aS i6 (λhj_=>by(exfalso;omega));have mD:=bc aS mq;clear aS dh eC iT iU iV iW iX iY iZ i6;refine bV (ay (u4 rfl eA)) (ay (u4 rfl iM)) (ay (u4 rfl iN)) (ay (u4 rfl iQ)) (ay (u4 rfl iR)) ?_;clear eA iQ iR iM iN iO;intro ob i8 ja jb jc jd;refine cv<|ai<|at_ ?_
        (refine ar (cj jd al ?_) rfl ?_; · (unfold In64;omega))
        refine ar (ah aa) rfl<|bV (u2 rfl i8) (u2 rfl ja) (u2 rfl jb) (u2 rfl jc) aa ?_;clear i8 jc jd ja jb;intro od mE mF mG mH mI
        refine ai<|⟨3+1,⟨mI,(mE.trans cE.symm),(mF.trans cF.symm),(mG.trans cH.symm),(mH.trans cJ.symm),i7,mr,(mu.trans cy.symm),(mv.trans cz.symm),(mw.trans cA.symm),(mx.trans cB.symm),(my.trans cC.symm),(mz.trans cD.symm),⟨_,mD,by omega⟩,?_⟩,?_⟩
        ·(exact⟨by omega,hW3.tail (jU hn1),hfm.trans (jz hn1),mA,mC⟩)
        ·((try dsimp only);omega)
       ·cases dg
      ·
       simp only [pS,Value.cells,Nat.reduceAdd,aD,aE,aG,aV,aP,bg,bh,c7,cX,cM,cN]at a6;simp only [pS,Value.cells,Nat.reduceAdd,aD,aE,aG,aV,aP,bg,bh,c7,cX,cM,cN]at ad;refine aj<|at_<|ar (cL ab al) rfl<|ei (ae rfl a9) (ae rfl ba) (ae rfl bb) (ae rfl be) (ae rfl ab) aa ?_;clear a9 be ab ba bb;intro oe dk je jf mJ mK jg
       refine ai<|aj<|aW jg (λdl=>?_) (λdl=>?_)
       ·cases dl
       replace dl:=bf dl;refine dD<|b7<|b7<|dC<|ai<|fW 9 1 aM (by kernel_rfl) (by kernel_rfl) (by kernel_rfl) (by kernel_rfl) (λmL am=>?_)
       have eD:=bp am a6;have eE:=bp am ad;have jh:=bp am b9;have eF:=bp am ca;have ji:=bp am cb;have jj:=bp am cc;have jk:=bp am bj;have jl:=bp am cd;have jm:=bu.bp am hF3;have jn:=RestR.bp am hR3;have dm:mL[cK]? =_:=fH am aM 0 rfl rfl;have mM:_=cK+1:=fX (K:=1) am aM;clear am a6 ad b9 ca cb cc bj cd hF3 hR3 aM;refine aQ (λM_ hM_=>(ah dk)) trivial ?_;refine aQ (λM_ hM_=>(ah (ae rfl dk))) trivial ?_;refine aQ (λM_ hM_=>(bC aa)) trivial ?_;refine aQ (λM_ hM_=>(aB jo rfl aa)) trivial ?_;refine aQ (λM_ hM_=>(aB dW rfl aa)) trivial ?_;refine cG (b) (λM_ hM_=>(ak (aC ME rfl (cf hM_ eE (by simp)) aa (au rfl)) (by simp only [pS,Value.cells,Nat.reduceAdd,aD,aE,aG,aV,aP,bg,bh,c7,cX,cM,cN]<;>rfl))) trivial trivial ?_;refine cG (dO) (λM_ hM_=>(ak (aC MF rfl (cf hM_ eD (by simp)) (u2 rfl (u4 rfl jf)) (au rfl)) (by simp only [pS,Value.cells,Nat.reduceAdd,aD,aE,aG,aV,aP,bg,bh,c7,cX,cM,cN]<;>rfl))) trivial trivial ?_;refine aQ (λM_ hM_=>(dT Ci (bo aa bY) rfl rfl rfl rfl)) trivial ?_;refine lX (cK) (H.jJ) (λM_ hM_=>(k6 Ci rfl (cf hM_ eF (by simp)) (u2 rfl aa) aa (by rfl) (by simp only [bn]<;>omega))) trivial dm rfl trivial ⟨.inl (by simp<;>omega),⟨.inl (by simp<;>omega),trivial⟩⟩ ⟨.inl (by simp<;>omega),⟨.inl (by simp<;>omega),trivial⟩⟩ (λog aT=>?_);have dn:=l6 aT dm;simp only [pS,Value.cells,Nat.reduceAdd,aD,aE,aG,aV,aP,bg,bh,c7,cX,cM,cN]at dn;have jp:=cn aT eD (by omega) (by omega);have dp:=cn aT eE (by omega) (by omega);have jq:=cn aT jh (by omega) (by omega);have jr:=cn aT ji (by omega) (by omega);have jt:=cn aT jj (by omega) (by omega);have ju:=cn aT jk (by omega) (by omega);have jv:=cn aT jl (by omega) (by omega);have jw:=bu.cn aT jm eF rfl dm rfl;have jx:=RestR.cn aT jn (λhj_=>by(simp [KR];done)) (λhj_=>by(exfalso;omega));have mN:=lQ aT mM;clear aT eD eE jh eF ji jj jk jl jm jn dm;refine gj rfl ?_;refine ar (bC (u8 rfl aa)) rfl<|ar (aB jo rfl aa) rfl<|ar (aB dW rfl aa) rfl<|aL (kS aa (ae rfl (u2 rfl aa)) dp dn F4 (au rfl)) trivial rfl (λoh aU=>?_)
       have bO:=bk aU dp;simp only [pS,Value.cells,Nat.reduceAdd,aD,aE,aG,aV,aP,bg,bh,c7,cX,cM,cN]at bO;have jy:=ao aU dn (by omega);have jC:=ao aU jp (by omega);have jF:=ao aU jq (by omega);have jG:=ao aU jr (by omega);have jH:=ao aU jt (by omega);have jI:=ao aU ju (by omega);have jK:=ao aU jv (by omega);have jL:=bu.ao aU jw dp rfl;have eH:=RestR.ao aU jx (λhj_=>by(simp [KR];done));have jN:=bc aU mN;clear aU dn jp dp jq jr jt ju jv jw jx;refine aY (ay (u4 rfl (u8 rfl dk))) (ay (u4 rfl (u8 rfl je))) ?_;clear dk mJ mK jg je jf;intro oj eI jO;refine cv<|ai<|aj<|aj<|at_<|ar (ah eI) rfl<|ar (bC aa) rfl<|ar (aB iz rfl aa) rfl<|ar (ak (aC Cm rfl bO aa (au rfl)) (by simp only [pS,Value.cells,Nat.reduceAdd,aD,aE,aG,aV,aP,bg,bh,c7,cX,cM,cN]<;>rfl)) rfl ?_
       refine ar (ak (bW aa rfl Cj.1) (by simp only [bn]<;>rfl)) rfl ?_;refine ar (eM aa al) rfl<|bq (u2 rfl (u4 rfl eI)) (u2 rfl (u4 rfl jO)) aa ?_;clear eI jO;intro ol dq jT jV
       refine ai<|aW jV (λcO=>?_) (λcO=>?_)
       ·replace cO:=bt cO;refine at_<|ar (ah dq) rfl<|ar (ah (ae rfl dq)) rfl<|ar (bC aa) rfl<|ar (aB iz rfl aa) rfl<|ar (ak (aC Cm rfl bO aa (au rfl)) (by simp only [pS,Value.cells,Nat.reduceAdd,aD,aE,aG,aV,aP,bg,bh,c7,cX,cM,cN]<;>rfl)) rfl ?_
        refine ar (ak (cr Cj aa al (by decide) (by refine fg ?_;(simp only [bn];omega))) (by simp only [pS,Value.cells,Nat.reduceAdd,aD,aE,aG,aV,aP,bg,bh,c7,cX,cM,cN]<;>rfl)) rfl ?_;refine ar (ak (bR iS rfl aa) (by simp only [pS,Value.cells,Nat.reduceAdd,aD,aE,aG,aV,aP,bg,bh,c7,cX,cM,cN]<;>rfl)) rfl ?_;refine ar (ak (bw xM rfl aa (au rfl)) (by simp only [pS,Value.cells,Nat.reduceAdd,aD,aE,aG,aV,aP,bg,bh,c7,cX,cM,cN]<;>rfl)) rfl ?_;refine c6 (gw (last:=cq ws.tail.tail.tail) (ws:=ws.tail.tail.tail.tail) jN bO _ _) (ax (ae rfl (u2 rfl (u4 rfl aa))) (ax aa (ax al aI))) gx trivial rfl (λ_ _ h=>h.elim) (λom oo jW=>?_)
        repeat (refine dU ?_)
        exact⟨_,rfl,_,_,by decide,wQ (r:=ws.tail.tail.tail.tail) (by rw [kT];exact hfm) MC (by rw [kT];exact zu _) (by simp at*;omega),jW.1,eH.trans jW.2 (λj_ hj_ h_=>by(subst h_;simp [KR];done))⟩
       replace cO:=bf cO;refine br<|ai<|at_<|ar (ah dq) rfl<|ar (ah (ae rfl jT)) rfl<|ar (bC (ae rfl aa)) rfl<|ar (aB ec rfl aa) rfl<|aL (bN aa (u2 rfl aa) rfl rfl bO oc rfl (au rfl)) trivial rfl (λoq aX=>?_)
       have jX:=bk aX bO;simp only [pS,Value.cells,Nat.reduceAdd,aD,aE,aG,aV,aP,bg,bh,c7,cX,cM,cN]at jX;have mO:=ao aX jy (by omega);have ot:=ao aX jC (by omega);have ou:=ao aX jF (by omega);have mP:=ao aX jG (by omega);have mQ:=ao aX jH (by omega);have ov:=ao aX jI (by omega);have mR:=ao aX jK (by omega);have mS:=bu.ao aX jL bO rfl;have mT:=RestR.ao aX eH (λhj_=>by(simp [KR];done));have ow:=bc aX jN;clear aX bO jy jC jF jG jH jI jK jL eH;refine lu ?_;clear dq jV jT;intro ox;refine⟨_,lY (by kernel_rfl),?_⟩
       (have ht:ws.tail.tail.tail.tail= []:=UP.1 (by simp at*;omega);have mb_:=jX;rw [ht]at mb_;refine⟨pf (r:=ws.tail.tail.tail.tail) (by rw [kT];exact hfm) (by rw [kT];exact zu _) (by rw [ht];rfl),rfl,⟨H.jM,cK,H.jB,H.jS,hs2⟩,⟨mb_,mO,mP,mQ,mR,mS,hks2,⟨hlo.1,hlo.2.1,by show lo<=cK;omega,by show lo<=H.jB;omega,by show lo<=H.jS;omega,hlo2⟩⟩,mT⟩)
    ·(simp only [toList_data]at dY;exact absurd dY (by decide))
  ·(rw [hk]at ct;simp at ct;done)
 ·(rw [hk]at cm;simp at cm;done)
def wB(af:Array Edge)(k:Nat):Bool:=af.toList.any λe=>e.on==k&&Region.binds .any e
theorem mS{af:Array Edge}{k:Nat}{m:Nat->Bool}(h:wB af k=true)(hed:∀ ed∈af,Region.binds .any ed=true->m ed.on=true):m k=true:=by
 unfold wB at h;rw [Uo]at h;obtain⟨ed,he,hk⟩:=h;simp only [Ti,beq_iff_eq]at hk;rw [<- hk.1];exact hed ed (by simpa using he) hk.2
def m7(φ:Prop)(mem:List Ob)(b q:Nat)(ob' row:Ob)(m:Nat->Bool)(s:Nat)(M:List Ob):Prop:=
 (m 3=false->M=mem)/\(m 3=true->φ/\ ∃ M1,bz mem M1 (λi=>i=b)/\M1[b]? =some ob'/\(m 5=false->M=M1)/\(m 5=true->s=M1.length/\M=M1.set q .gone ++ [row]))
theorem m7.other{φ:Prop}{mem:List Ob}{b q:Nat}{ob' row:Ob}{m:Nat->Bool}{s:Nat}{M:List Ob}(h:m7 φ mem b q ob' row m s M){i:Nat}(h3:3≠i)(h5:5≠i):m7 φ mem b q ob' row (λj=>j==i||m j) s M:=by
 have e3:((3==i)||m 3)=m 3:=by rw [beq_eq_false_iff_ne.2 h3];rfl
 have e5:((5==i)||m 5)=m 5:=by rw [beq_eq_false_iff_ne.2 h5];rfl
 unfold m7;simp only [e3,e5];exact h
theorem m7.box{φ:Prop}{mem:List Ob}{b q j:Nat}{ob' row o:Ob}{m:Nat->Bool}{s:Nat}{M:List Ob}(h:m7 φ mem b q ob' row m s M)(h53:m 5=true->m 3=true)(hj:mem[j]? =some o)(hjb:j≠b)(hjq:j≠q):M[j]? =some o:=by
 have hlt:=(S9.1 hj).1;cases h3:m 3 with
 | false=>rw [h.1 h3];exact hj
 | true=>
  obtain⟨-,M1,hk,hb',h1,h2⟩:=h.2 h3;have:=hk.at_ hj hjb;cases h5:m 5 with
  | false=>rw [h1 h5];exact this
  | true=>
   have hle:=hk.len;rw [(h2 h5).2,Tt (by simp;omega),Tz (λe=>hjq e.symm)];exact this
theorem uK:bZ Tryz.prog 97 2 2 false 1:=by unfold bZ;kernel_rfl
theorem tW:bI Tryz.prog 85 3 1 8 (.int .i64 0):=⟨by kernel_rfl,by kernel_rfl,by kernel_rfl⟩
theorem EE:aN Tryz.prog 85 false 1:=⟨by kernel_rfl,by kernel_rfl⟩
theorem RZ{M:Mode}{N n:Nat}{Q:AQ}{e:Nat->AV}{mem:List Ob}(hl:mem.length=n){id b j q:Nat}{nm fv:AV}{els:List (List AV)}{v:Int}{ob':Ob}{a0 a1 a2 a3 a4 a5 a6:Array Edge}{p0 p1 p2 p3 p4 p5 p6:String}{y0 y1 y2 y3 y4 y5 y6:TypeId}{tys:Array TypeId}{t7:Oper}
 (hm:Tryz.prog.follows .mixedOrders =true)(hd:iC [⟨some 85,.fieldAddr 97 (.tmp 9) 2,y0,p0,a0,none⟩,⟨some 86,.load 85 (.tmp 85),y1,p1,a1,none⟩,⟨some 87,.move (.tmp 0),y2,p2,a2,none⟩,⟨some 88,.call ⟨.value (.func 69),#[.tmp 87,.const (.bool true)],tys⟩,y3,p3,a3,none⟩,⟨some 89,.buildSlice 85 1 #[(0,.tmp 88)],y4,p4,a4,none⟩,⟨some 90,.call ⟨.builtin .append,#[.tmp 86,.tmp 89],#[85,85]⟩,y5,p5,a5,none⟩,⟨some 91,.fieldAddr 97 (.tmp 9) 2,y6,p6,a6,none⟩,t7]=true)(hB:fc (List.toArray [⟨some 85,.fieldAddr 97 (.tmp 9) 2,y0,p0,a0,none⟩,⟨some 86,.load 85 (.tmp 85),y1,p1,a1,none⟩,⟨some 87,.move (.tmp 0),y2,p2,a2,none⟩,⟨some 88,.call ⟨.value (.func 69),#[.tmp 87,.const (.bool true)],tys⟩,y3,p3,a3,none⟩,⟨some 89,.buildSlice 85 1 #[(0,.tmp 88)],y4,p4,a4,none⟩,⟨some 90,.call ⟨.builtin .append,#[.tmp 86,.tmp 89],#[85,85]⟩,y5,p5,a5,none⟩,⟨some 91,.fieldAddr 97 (.tmp 9) 2,y6,p6,a6,none⟩,t7]) 7=true)(hE:fF [⟨some 85,.fieldAddr 97 (.tmp 9) 2,y0,p0,a0,none⟩,⟨some 86,.load 85 (.tmp 85),y1,p1,a1,none⟩,⟨some 87,.move (.tmp 0),y2,p2,a2,none⟩,⟨some 88,.call ⟨.value (.func 69),#[.tmp 87,.const (.bool true)],tys⟩,y3,p3,a3,none⟩,⟨some 89,.buildSlice 85 1 #[(0,.tmp 88)],y4,p4,a4,none⟩,⟨some 90,.call ⟨.builtin .append,#[.tmp 86,.tmp 89],#[85,85]⟩,y5,p5,a5,none⟩,⟨some 91,.fieldAddr 97 (.tmp 9) 2,y6,p6,a6,none⟩,t7] (List.take 7 [⟨some 85,.fieldAddr 97 (.tmp 9) 2,y0,p0,a0,none⟩,⟨some 86,.load 85 (.tmp 85),y1,p1,a1,none⟩,⟨some 87,.move (.tmp 0),y2,p2,a2,none⟩,⟨some 88,.call ⟨.value (.func 69),#[.tmp 87,.const (.bool true)],tys⟩,y3,p3,a3,none⟩,⟨some 89,.buildSlice 85 1 #[(0,.tmp 88)],y4,p4,a4,none⟩,⟨some 90,.call ⟨.builtin .append,#[.tmp 86,.tmp 89],#[85,85]⟩,y5,p5,a5,none⟩,⟨some 91,.fieldAddr 97 (.tmp 9) 2,y6,p6,a6,none⟩,t7]) 0 N=true)
 (hw:(wB a1 0&&wB a3 2&&wB a4 3&&wB a5 4&&wB a5 1)=true)
 (hs:ag e (.tmp 9)= .ptr j 0)(hz:ag e (.tmp 0)= .ptr b 0)(hj:mem[j]? =some (.box 97 [nm,fv,.own q]))(hq:mem[q]? =some (.row 3 1 els))(hjb:j≠b)(hqb:q≠b)(hel:els.length<=1000000)
 (dV:∀ args w,(callFunc 69 args).run Tryz.prog w= .ok (.enter 69 args) w)
 {φ:Prop}{χ:Value->List Ob->Prop}(hc:dK Tryz.prog 69 [.ptr b 0,.v (.bool true)] mem (λr m'=>φ/\r=mA v/\bz mem m' (λi=>i=b)/\m'[b]? =some ob') χ)(hX:∀ u M e',χ u M->Q (.panic [{v:=u,recovered:=false}]) e' M)
 (h:φ-> ∀ s m',m'.length=s+1->n<=s->bz mem m' (λi=>i=b\/i=q)->m'[b]? =some ob'->m'[s]? =some (.row 3 1 (els++ [[mA v]]))->AL Tryz.prog N (List.toArray [⟨some 85,.fieldAddr 97 (.tmp 9) 2,y0,p0,a0,none⟩,⟨some 86,.load 85 (.tmp 85),y1,p1,a1,none⟩,⟨some 87,.move (.tmp 0),y2,p2,a2,none⟩,⟨some 88,.call ⟨.value (.func 69),#[.tmp 87,.const (.bool true)],tys⟩,y3,p3,a3,none⟩,⟨some 89,.buildSlice 85 1 #[(0,.tmp 88)],y4,p4,a4,none⟩,⟨some 90,.call ⟨.builtin .append,#[.tmp 86,.tmp 89],#[85,85]⟩,y5,p5,a5,none⟩,⟨some 91,.fieldAddr 97 (.tmp 9) 2,y6,p6,a6,none⟩,t7]) [t7] Q (aR (aR (aR (aR (aR (aR (aR e (some 85) (.ptr j 2)) (some 86) (.own q)) (some 87) (.ptr b 0)) (some 88) (mA v)) (some 89) (.row 1 [[mA v]])) (some 90) (.own s)) (some 91) (.ptr j 2)) m'):
 AW M Tryz.prog N (.region id (List.toArray [⟨some 85,.fieldAddr 97 (.tmp 9) 2,y0,p0,a0,none⟩,⟨some 86,.load 85 (.tmp 85),y1,p1,a1,none⟩,⟨some 87,.move (.tmp 0),y2,p2,a2,none⟩,⟨some 88,.call ⟨.value (.func 69),#[.tmp 87,.const (.bool true)],tys⟩,y3,p3,a3,none⟩,⟨some 89,.buildSlice 85 1 #[(0,.tmp 88)],y4,p4,a4,none⟩,⟨some 90,.call ⟨.builtin .append,#[.tmp 86,.tmp 89],#[85,85]⟩,y5,p5,a5,none⟩,⟨some 91,.fieldAddr 97 (.tmp 9) 2,y6,p6,a6,none⟩,t7]) true) Q e mem:=by
 have hjq:j≠q:=λhe=>by rw [he,hq]at hj;cases hj
 have hqn:q<mem.length:=(S9.1 hq).1;have hjn:j<mem.length:=(S9.1 hj).1;simp only [Ti]at hw;obtain⟨⟨⟨⟨w1,w3⟩,w4⟩,w54⟩,w51⟩:=hw;refine BF Nat 7 hm hd hB hE (λs=> [.ptr j 2,.own q,.ptr b 0,mA v,.row 1 [[mA v]],.own s,.ptr j 2]) (λs=>rfl) (m7 φ mem b q ob' (.row 3 1 (els++ [[mA v]]))) χ hX 0 ⟨λ_=>rfl,λh=>(by cases h)⟩ ?_ ?_
 ·intro i o m s M hi ho hmi hed hcl hR;have k4:m 4=true->m 3=true:=λh4=>mS w4 (hcl 4 _ h4 rfl)
  have k54:m 5=true->m 4=true:=λh5=>mS w54 (hcl 5 _ h5 rfl)
  have k51:m 5=true->m 1=true:=λh5=>mS w51 (hcl 5 _ h5 rfl)
  have hbox:=hR.box (λh5=>k4 (k54 h5)) hj hjb hjq;have hi7:i=0\/i=1\/i=2\/i=3\/i=4\/i=5\/i=6:=by omega
  rcases hi7 with rfl|rfl|rfl|rfl|rfl|rfl|rfl
  ·obtain rfl:=Option.some.inj ho;refine⟨trivial,?_⟩
   show fb _ _ e M _ _
   exact bm.iZ (r:=.ptr j 2) (ak (aB (o:=0) (off:=2) uK rfl hs) rfl) ⟨s,rfl,λ_ _ _ h=>h,hR.other (by decide) (by decide)⟩
  ·obtain rfl:=Option.some.inj ho;refine⟨trivial,?_⟩
   show fb _ _ (aR e (some 85) (.ptr j 2)) M _ _
   exact bm.iZ (r:=.own q) (ak (aC (off:=2) EE rfl hbox aa (by simp)) rfl) ⟨s,rfl,λ_ _ _ h=>h,hR.other (by decide) (by decide)⟩
  ·obtain rfl:=Option.some.inj ho;refine⟨trivial,?_⟩
   show fb _ _ (aR (aR e (some 85) (.ptr j 2)) (some 86) (.own q)) M _ _
   exact bm.iZ (r:=.ptr b 0) (ah hz) ⟨s,rfl,λ_ _ _ h=>h,hR.other (by decide) (by decide)⟩
  ·obtain rfl:=Option.some.inj ho;have h5:m 5=false:=by
    cases h5:m 5 with
    | false=>rfl
    | true=>rw [k4 (k54 h5)]at hmi;cases hmi
   obtain rfl:=hR.1 hmi;refine⟨trivial,?_⟩
   show fb _ _ (aR (aR (aR e (some 85) (.ptr j 2)) (some 86) (.own q)) (some 87) (.ptr b 0)) M _ _
   refine fb.mono (Et hc ?_ dV) ?_
   ·rfl
   rintro r M' ⟨hφ,rfl,hk,hb'⟩;exact⟨s,rfl,λ_ _ _ h=>h,λh3=>(by simp at h3),λ_=>⟨hφ,M',hk,hb',λ_=>rfl,λh=>(by simp [h5]at h)⟩⟩
  ·obtain rfl:=Option.some.inj ho;refine⟨trivial,?_⟩
   show fb _ _ (aR (aR (aR (aR e (some 85) (.ptr j 2)) (some 86) (.own q)) (some 87) (.ptr b 0)) (some 88) (mA v)) M _ _
   exact bm.iZ (r:=.row 1 [[mA v]]) (dT tW (bo aa bY) rfl rfl rfl rfl) ⟨s,rfl,λ_ _ _ h=>h,hR.other (by decide) (by decide)⟩
  ·obtain rfl:=Option.some.inj ho;have h3:m 3=true:=k4 (mS w54 hed);obtain⟨hφ,M1,hk,hb',hM,_⟩:=hR.2 h3;obtain rfl:=hM hmi;have hq1:M[q]? =some (.row 3 1 els):=hk.at_ hq hqb;refine⟨trivial,?_⟩
   show fb _ _ (aR (aR (aR (aR (aR e (some 85) (.ptr j 2)) (some 86) (.own q)) (some 87) (.ptr b 0)) (some 88) (mA v)) (some 89) (.row 1 [[mA v]])) M _ _
   refine ej.iZ (r:=.own M.length) (nP (x:=.tmp 86) (y:=.tmp 89) tW rfl rfl hq1 rfl rfl rfl (by simp;omega)) ⟨M.length,rfl,λk x hk' h=>?_,λh=>(by simp [h3]at h),λ_=>⟨hφ,M,hk,hb',λh=>(by simp at h),λ_=>⟨rfl,rfl⟩⟩⟩;have hk5:k≠5:=λh55=>(by rw [h55,hmi]at hk';cases hk')
   clear hk';rcases k with _|_|_|_|_|_|_|k
   all_goals first|exact h|exact absurd rfl hk5
  ·obtain rfl:=Option.some.inj ho;refine⟨trivial,?_⟩
   show fb _ _ (aR (aR (aR (aR (aR (aR e (some 85) (.ptr j 2)) (some 86) (.own q)) (some 87) (.ptr b 0)) (some 88) (mA v)) (some 89) (.row 1 [[mA v]])) (some 90) (.own s)) M _ _
   exact bm.iZ (r:=.ptr j 2) (ak (aB (o:=0) (off:=2) uK rfl hs) rfl) ⟨s,rfl,λ_ _ _ h=>h,hR.other (by decide) (by decide)⟩
 ·intro s M hR;obtain⟨hφ,M1,hk,hb',_,hM⟩:=hR.2 rfl;obtain⟨rfl,rfl⟩:=hM rfl;have hle:=hk.len;refine h hφ M1.length _ (by simp) (by omega) ?_ ?_ ?_
  ·refine⟨by simp;omega,λi hi hn=>?_⟩;rw [Tt (by simp;omega),Tz (λhe=>hn (.inr he.symm))];exact hk.same i hi (λhe=>hn (.inl he))
  ·have hbl:=(S9.1 hb').1;rw [Tt (by simpa using hbl),Tz hqb];exact hb'
  ·rw [Tu (by simp)];simp
theorem R2{M:Mode}{N n:Nat}{Q:AQ}{e:Nat->AV}{mem:List Ob}(hl:mem.length=n){id b j q:Nat}{nm fv:AV}{els:List (List AV)}{v:Int}{ob':Ob}{a0 a1 a2 a3 a4 a5 a6:Array Edge}{p0 p1 p2 p3 p4 p5 p6:String}{y0 y1 y2 y3 y4 y5 y6:TypeId}{tys:Array TypeId}{t7:Oper}
 (hm:Tryz.prog.follows .mixedOrders =true)(hd:iC [⟨some 98,.fieldAddr 97 (.tmp 9) 2,y0,p0,a0,none⟩,⟨some 99,.load 85 (.tmp 98),y1,p1,a1,none⟩,⟨some 100,.move (.tmp 0),y2,p2,a2,none⟩,⟨some 101,.call ⟨.value (.func 69),#[.tmp 100,.const (.bool true)],tys⟩,y3,p3,a3,none⟩,⟨some 102,.buildSlice 85 1 #[(0,.tmp 101)],y4,p4,a4,none⟩,⟨some 103,.call ⟨.builtin .append,#[.tmp 99,.tmp 102],#[85,85]⟩,y5,p5,a5,none⟩,⟨some 104,.fieldAddr 97 (.tmp 9) 2,y6,p6,a6,none⟩,t7]=true)(hB:fc (List.toArray [⟨some 98,.fieldAddr 97 (.tmp 9) 2,y0,p0,a0,none⟩,⟨some 99,.load 85 (.tmp 98),y1,p1,a1,none⟩,⟨some 100,.move (.tmp 0),y2,p2,a2,none⟩,⟨some 101,.call ⟨.value (.func 69),#[.tmp 100,.const (.bool true)],tys⟩,y3,p3,a3,none⟩,⟨some 102,.buildSlice 85 1 #[(0,.tmp 101)],y4,p4,a4,none⟩,⟨some 103,.call ⟨.builtin .append,#[.tmp 99,.tmp 102],#[85,85]⟩,y5,p5,a5,none⟩,⟨some 104,.fieldAddr 97 (.tmp 9) 2,y6,p6,a6,none⟩,t7]) 7=true)(hE:fF [⟨some 98,.fieldAddr 97 (.tmp 9) 2,y0,p0,a0,none⟩,⟨some 99,.load 85 (.tmp 98),y1,p1,a1,none⟩,⟨some 100,.move (.tmp 0),y2,p2,a2,none⟩,⟨some 101,.call ⟨.value (.func 69),#[.tmp 100,.const (.bool true)],tys⟩,y3,p3,a3,none⟩,⟨some 102,.buildSlice 85 1 #[(0,.tmp 101)],y4,p4,a4,none⟩,⟨some 103,.call ⟨.builtin .append,#[.tmp 99,.tmp 102],#[85,85]⟩,y5,p5,a5,none⟩,⟨some 104,.fieldAddr 97 (.tmp 9) 2,y6,p6,a6,none⟩,t7] (List.take 7 [⟨some 98,.fieldAddr 97 (.tmp 9) 2,y0,p0,a0,none⟩,⟨some 99,.load 85 (.tmp 98),y1,p1,a1,none⟩,⟨some 100,.move (.tmp 0),y2,p2,a2,none⟩,⟨some 101,.call ⟨.value (.func 69),#[.tmp 100,.const (.bool true)],tys⟩,y3,p3,a3,none⟩,⟨some 102,.buildSlice 85 1 #[(0,.tmp 101)],y4,p4,a4,none⟩,⟨some 103,.call ⟨.builtin .append,#[.tmp 99,.tmp 102],#[85,85]⟩,y5,p5,a5,none⟩,⟨some 104,.fieldAddr 97 (.tmp 9) 2,y6,p6,a6,none⟩,t7]) 0 N=true)
 (hw:(wB a1 0&&wB a3 2&&wB a4 3&&wB a5 4&&wB a5 1)=true)
 (hs:ag e (.tmp 9)= .ptr j 0)(hz:ag e (.tmp 0)= .ptr b 0)(hj:mem[j]? =some (.box 97 [nm,fv,.own q]))(hq:mem[q]? =some (.row 3 1 els))(hjb:j≠b)(hqb:q≠b)(hel:els.length<=1000000)
 (dV:∀ args w,(callFunc 69 args).run Tryz.prog w= .ok (.enter 69 args) w)
 {φ:Prop}{χ:Value->List Ob->Prop}(hc:dK Tryz.prog 69 [.ptr b 0,.v (.bool true)] mem (λr m'=>φ/\r=mA v/\bz mem m' (λi=>i=b)/\m'[b]? =some ob') χ)(hX:∀ u M e',χ u M->Q (.panic [{v:=u,recovered:=false}]) e' M)
 (h:φ-> ∀ s m',m'.length=s+1->n<=s->bz mem m' (λi=>i=b\/i=q)->m'[b]? =some ob'->m'[s]? =some (.row 3 1 (els++ [[mA v]]))->AL Tryz.prog N (List.toArray [⟨some 98,.fieldAddr 97 (.tmp 9) 2,y0,p0,a0,none⟩,⟨some 99,.load 85 (.tmp 98),y1,p1,a1,none⟩,⟨some 100,.move (.tmp 0),y2,p2,a2,none⟩,⟨some 101,.call ⟨.value (.func 69),#[.tmp 100,.const (.bool true)],tys⟩,y3,p3,a3,none⟩,⟨some 102,.buildSlice 85 1 #[(0,.tmp 101)],y4,p4,a4,none⟩,⟨some 103,.call ⟨.builtin .append,#[.tmp 99,.tmp 102],#[85,85]⟩,y5,p5,a5,none⟩,⟨some 104,.fieldAddr 97 (.tmp 9) 2,y6,p6,a6,none⟩,t7]) [t7] Q (aR (aR (aR (aR (aR (aR (aR e (some 98) (.ptr j 2)) (some 99) (.own q)) (some 100) (.ptr b 0)) (some 101) (mA v)) (some 102) (.row 1 [[mA v]])) (some 103) (.own s)) (some 104) (.ptr j 2)) m'):
 AW M Tryz.prog N (.region id (List.toArray [⟨some 98,.fieldAddr 97 (.tmp 9) 2,y0,p0,a0,none⟩,⟨some 99,.load 85 (.tmp 98),y1,p1,a1,none⟩,⟨some 100,.move (.tmp 0),y2,p2,a2,none⟩,⟨some 101,.call ⟨.value (.func 69),#[.tmp 100,.const (.bool true)],tys⟩,y3,p3,a3,none⟩,⟨some 102,.buildSlice 85 1 #[(0,.tmp 101)],y4,p4,a4,none⟩,⟨some 103,.call ⟨.builtin .append,#[.tmp 99,.tmp 102],#[85,85]⟩,y5,p5,a5,none⟩,⟨some 104,.fieldAddr 97 (.tmp 9) 2,y6,p6,a6,none⟩,t7]) true) Q e mem:=by
 have hjq:j≠q:=λhe=>by rw [he,hq]at hj;cases hj
 have hqn:q<mem.length:=(S9.1 hq).1;have hjn:j<mem.length:=(S9.1 hj).1;simp only [Ti]at hw;obtain⟨⟨⟨⟨w1,w3⟩,w4⟩,w54⟩,w51⟩:=hw;refine BF Nat 7 hm hd hB hE (λs=> [.ptr j 2,.own q,.ptr b 0,mA v,.row 1 [[mA v]],.own s,.ptr j 2]) (λs=>rfl) (m7 φ mem b q ob' (.row 3 1 (els++ [[mA v]]))) χ hX 0 ⟨λ_=>rfl,λh=>(by cases h)⟩ ?_ ?_
 ·intro i o m s M hi ho hmi hed hcl hR;have k4:m 4=true->m 3=true:=λh4=>mS w4 (hcl 4 _ h4 rfl)
  have k54:m 5=true->m 4=true:=λh5=>mS w54 (hcl 5 _ h5 rfl)
  have k51:m 5=true->m 1=true:=λh5=>mS w51 (hcl 5 _ h5 rfl)
  have hbox:=hR.box (λh5=>k4 (k54 h5)) hj hjb hjq;have hi7:i=0\/i=1\/i=2\/i=3\/i=4\/i=5\/i=6:=by omega
  rcases hi7 with rfl|rfl|rfl|rfl|rfl|rfl|rfl
  ·obtain rfl:=Option.some.inj ho;refine⟨trivial,?_⟩
   show fb _ _ e M _ _
   exact bm.iZ (r:=.ptr j 2) (ak (aB (o:=0) (off:=2) uK rfl hs) rfl) ⟨s,rfl,λ_ _ _ h=>h,hR.other (by decide) (by decide)⟩
  ·obtain rfl:=Option.some.inj ho;refine⟨trivial,?_⟩
   show fb _ _ (aR e (some 98) (.ptr j 2)) M _ _
   exact bm.iZ (r:=.own q) (ak (aC (off:=2) EE rfl hbox aa (by simp)) rfl) ⟨s,rfl,λ_ _ _ h=>h,hR.other (by decide) (by decide)⟩
  ·obtain rfl:=Option.some.inj ho;refine⟨trivial,?_⟩
   show fb _ _ (aR (aR e (some 98) (.ptr j 2)) (some 99) (.own q)) M _ _
   exact bm.iZ (r:=.ptr b 0) (ah hz) ⟨s,rfl,λ_ _ _ h=>h,hR.other (by decide) (by decide)⟩
  ·obtain rfl:=Option.some.inj ho;have h5:m 5=false:=by
    cases h5:m 5 with
    | false=>rfl
    | true=>rw [k4 (k54 h5)]at hmi;cases hmi
   obtain rfl:=hR.1 hmi;refine⟨trivial,?_⟩
   show fb _ _ (aR (aR (aR e (some 98) (.ptr j 2)) (some 99) (.own q)) (some 100) (.ptr b 0)) M _ _
   refine fb.mono (Et hc ?_ dV) ?_
   ·rfl
   rintro r M' ⟨hφ,rfl,hk,hb'⟩;exact⟨s,rfl,λ_ _ _ h=>h,λh3=>(by simp at h3),λ_=>⟨hφ,M',hk,hb',λ_=>rfl,λh=>(by simp [h5]at h)⟩⟩
  ·obtain rfl:=Option.some.inj ho;refine⟨trivial,?_⟩
   show fb _ _ (aR (aR (aR (aR e (some 98) (.ptr j 2)) (some 99) (.own q)) (some 100) (.ptr b 0)) (some 101) (mA v)) M _ _
   exact bm.iZ (r:=.row 1 [[mA v]]) (dT tW (bo aa bY) rfl rfl rfl rfl) ⟨s,rfl,λ_ _ _ h=>h,hR.other (by decide) (by decide)⟩
  ·obtain rfl:=Option.some.inj ho;have h3:m 3=true:=k4 (mS w54 hed);obtain⟨hφ,M1,hk,hb',hM,_⟩:=hR.2 h3;obtain rfl:=hM hmi;have hq1:M[q]? =some (.row 3 1 els):=hk.at_ hq hqb;refine⟨trivial,?_⟩
   show fb _ _ (aR (aR (aR (aR (aR e (some 98) (.ptr j 2)) (some 99) (.own q)) (some 100) (.ptr b 0)) (some 101) (mA v)) (some 102) (.row 1 [[mA v]])) M _ _
   refine ej.iZ (r:=.own M.length) (nP (x:=.tmp 99) (y:=.tmp 102) tW rfl rfl hq1 rfl rfl rfl (by simp;omega)) ⟨M.length,rfl,λk x hk' h=>?_,λh=>(by simp [h3]at h),λ_=>⟨hφ,M,hk,hb',λh=>(by simp at h),λ_=>⟨rfl,rfl⟩⟩⟩;have hk5:k≠5:=λh55=>(by rw [h55,hmi]at hk';cases hk')
   clear hk';rcases k with _|_|_|_|_|_|_|k
   all_goals first|exact h|exact absurd rfl hk5
  ·obtain rfl:=Option.some.inj ho;refine⟨trivial,?_⟩
   show fb _ _ (aR (aR (aR (aR (aR (aR e (some 98) (.ptr j 2)) (some 99) (.own q)) (some 100) (.ptr b 0)) (some 101) (mA v)) (some 102) (.row 1 [[mA v]])) (some 103) (.own s)) M _ _
   exact bm.iZ (r:=.ptr j 2) (ak (aB (o:=0) (off:=2) uK rfl hs) rfl) ⟨s,rfl,λ_ _ _ h=>h,hR.other (by decide) (by decide)⟩
 ·intro s M hR;obtain⟨hφ,M1,hk,hb',_,hM⟩:=hR.2 rfl;obtain⟨rfl,rfl⟩:=hM rfl;have hle:=hk.len;refine h hφ M1.length _ (by simp) (by omega) ?_ ?_ ?_
  ·refine⟨by simp;omega,λi hi hn=>?_⟩;rw [Tt (by simp;omega),Tz (λhe=>hn (.inr he.symm))];exact hk.same i hi (λhe=>hn (.inl he))
  ·have hbl:=(S9.1 hb').1;rw [Tt (by simpa using hbl),Tz hqb];exact hb'
  ·rw [Tu (by simp)];simp
theorem MG:(Tryz.prog.info? 97).bind (·.zero)=some (.agg #[.string ByteArray.empty,.int .i64 0,.slice none 0 0]):=by kernel_rfl
theorem MH:Tryz.prog.underlying 97=some (.struct (eB Tryz.prog 97)):=by kernel_rfl
theorem MI:∀ w,((eB Tryz.prog 97).mapM λf=>Prod.mk f.offset<$>sizeOf f.type:Sem (Array (Nat×Nat))).run Tryz.prog w= .ok (#[(0,1),(1,1),(2,1)]) w:=λ_=>by kernel_rfl
theorem CB:bI Tryz.prog 25 97 3 48 (.agg #[.string ByteArray.empty,.int .i64 0,.slice none 0 0]):=⟨by kernel_rfl,by kernel_rfl,by kernel_rfl⟩
theorem CC:bI Tryz.prog 73 75 2 24 (.agg #[.string ByteArray.empty,.int .i64 0]):=⟨by kernel_rfl,by kernel_rfl,by kernel_rfl⟩
theorem sY:bI Tryz.prog 85 3 1 8 (.int .i64 0):=⟨by kernel_rfl,by kernel_rfl,by kernel_rfl⟩
theorem MJ:aN Tryz.prog 25 false 1:=⟨by kernel_rfl,by kernel_rfl⟩
theorem EF:aN Tryz.prog 3 false 1:=⟨by kernel_rfl,by kernel_rfl⟩
theorem sZ:aN Tryz.prog 72 false 1:=⟨by kernel_rfl,by kernel_rfl⟩
theorem CE:aN Tryz.prog 73 false 1:=⟨by kernel_rfl,by kernel_rfl⟩
theorem tX:aN Tryz.prog 9 false 1:=⟨by kernel_rfl,by kernel_rfl⟩
theorem MK:aN Tryz.prog 97 true 3:=⟨by kernel_rfl,by kernel_rfl⟩
theorem dI(a:ByteArray)(b:Int)(c:List Int): [[AV.v (.string a),AV.v (.int .i64 b),AV.row 1 (c.map iE)]]= [(⟨a,b,c⟩:eu)].map aK:=rfl
theorem dJ(v:Int): [[mA v]]= [v].map iE:=rfl
theorem HS{M0:List Ob}{n:Nat}(hn:M0.length=n){st:RS}{H:RH}{lo b:Nat}(hR:eK st H lo M0 b)(c0:Int){es er:Value}(hes:eS es)(her:eS er)(h0:M0[0]? =some (.bL (gX es er)))(hsl:st.ss.length<=1000000)(ws:List Wd)(hw:st.ws=⟨bS,c0⟩::ws)(hk:(st.kind.toList==(⟨#[]⟩:ByteArray).toList)=false)(ho:gV st.kind bS=true)(hW:iw ⟨bS,c0⟩ ws)(hW5:ws.length<=100000)(hc:∀ q,(cR st.cs q).length <=1000000):
 dK Tryz.prog 30 [.ptr b 0] M0 (λr m'=>g9 bS ⟨bS,c0⟩ ws=(0,0)/\r= .tuple []/\ ∃ H' la,eK {(st.add bS)with ss:=st.ss++ [⟨(cq ws).txt,dZ (cq ws.tail),ws.tail.tail.map dZ⟩],ws:= [],last:=la,kind:=bS} H' lo m' b/\bz M0 m' (KR H b)) (λv m'=>∃ c e,e≠0/\g9 bS ⟨bS,c0⟩ ws=(c,e)/\v=fw st.cnt c e/\bz M0 m' (KR H b)):=by
 have hwl:=hW.len;have hb:=hR.box;rw [hw]at hb;have hJ:=hR.J;have hB:=hR.B;have hS:=hR.S;have hM:=hR.M;have hF:=hR.fam;have hbn:=cI hb hn;have hJn:=cI hJ hn;have hBn:=cI hB hn;have hSn:=cI hS hn;have hMn:=cI hM hn;obtain⟨⟨x1,x2,x3,x4⟩,⟨x5,x6,x7⟩,x8,x9,x10⟩:=hR.ne;have hnf:=hR.rH;have hlt:=hF.lt hn;have hlo:=hR.lo;obtain⟨z1,z2,z3,z4,z5,z6⟩:=hR.nz h0;have h00:0<n:=cI h0 hn;refine fz (fn:=Tryz.f30) 193 (by kernel_rfl) rfl (by kernel_rfl) (S8 rfl) ?_;intro jb bm hA a6;have cP:ag jb (.tmp 0)=_:=hA 0 _ rfl;have eh:bm.length=n:=by rw [a6];exact hn
 have cQ:bm[b]? =_:=(congrArg (λq=>q[b]?) a6).trans hb;simp only [pS,Value.cells,Nat.reduceAdd,aD,aE,aG,aV,aP,bg,bh,dI,dJ]at cQ;have jc:bm[H.jJ]? =_:=(congrArg (λq=>q[H.jJ]?) a6).trans hJ;have jd:bm[H.jB]? =_:=(congrArg (λq=>q[H.jB]?) a6).trans hB;have je:bm[H.jS]? =_:=(congrArg (λq=>q[H.jS]?) a6).trans hS;have jf:bm[H.jM]? =_:=(congrArg (λq=>q[H.jM]?) a6).trans hM;have jg:bm[0]? =_:=(congrArg (λq=>q[0]?) a6).trans h0;have jh:bz M0 bm (KR H b):=by rw [a6];exact bz.refl _ _
 have cS:=hF;rw [<- a6]at cS;clear hA a6;refine aj<|at_<|ar (ah cP) rfl<|c6 (ku (last:=st.last) eh cQ (by omega)) (ax aa aI) jA trivial rfl (λlK lL ji=>?_) (λ_ _ h=>h.elim)
 obtain⟨rfl,bv,cT⟩:=ji;simp only [pS,Value.cells,Nat.reduceAdd,aD,aE,aG,aV,aP,bg,bh,dI,dJ]at cT;have ei:=bv.at_ jc (λh_=>by(try dsimp only at h_)<;>omega);have ej:=bv.at_ jd (λh_=>by(try dsimp only at h_)<;>omega);have ek:=bv.at_ je (λh_=>by(try dsimp only at h_)<;>omega);have en:=bv.at_ jf (λh_=>by(try dsimp only at h_)<;>omega);have eo:=bv.at_ jg (λh_=>by(try dsimp only at h_)<;>omega);have ep:=jh.trans bv (λj_ hj_ h_=>by(try dsimp only at h_)<;>(try subst h_)<;>(simp [KR];done));have eu:=cS.all bv (λq_ h1_ h2_ h_=>cS.miss cQ rfl q_ h1_ h2_ h_);obtain⟨co,cU,lM⟩:=bv.len_ eh;refine aL (cu jD rfl cU) trivial rfl (λlN a2=>?_);have bU:=bH a2 cU;simp only [pS,Value.cells,Nat.reduceAdd,aD,aE,aG,aV,aP,bg,bh,dI,dJ]at bU;have ev:=aJ a2 cT;have ew:=aJ a2 ei;have ey:=aJ a2 ej;have ez:=aJ a2 ek;have eA:=aJ a2 en;have eB:=aJ a2 eo;have eC:=RestR.aJ a2 ep;have eD:=bu.aJ a2 eu;have jj:=bG a2 cU;clear a2 cT ei ej ek en eo ep eu;refine aL (bN aa (ae rfl aa) rfl rfl bU jE rfl (au rfl)) trivial rfl (λlP a3=>?_);have cW:=bk a3 bU;simp only [pS,Value.cells,Nat.reduceAdd,aD,aE,aG,aV,aP,bg,bh,dI,dJ]at cW;have bV:=ao a3 ev (by omega);have jk:=ao a3 ew (by omega);have jl:=ao a3 ey (by omega);have jm:=ao a3 ez (by omega);have jn:=ao a3 eA (by omega);have jp:=ao a3 eB (by omega);have jq:=RestR.ao a3 eC (λhj_=>by(exfalso;omega));have jr:=bu.ao a3 eD bU rfl;have eE:=bc a3 jj;clear a3 bU ev ew ey ez eA eB eC eD;refine aY (ay (ae rfl (u2 rfl cP))) (ay aa) ?_;clear cP;intro lR eH cX;refine ai<|aj<|at_<|ar (aB gr rfl cX) rfl<|ar (ak (aC tX rfl cW aa (au rfl)) (by simp only [pS,Value.cells,Nat.reduceAdd,aD,aE,aG,aV,aP,bg,bh,dI,dJ]<;>rfl)) rfl ?_
 refine ar (aw aa) rfl<|bq (ae rfl (u2 rfl eH)) (ae rfl (u2 rfl cX)) aa ?_;clear eH cX;intro lS cY eI eJ
 refine ai<|aj<|bP<|aj<|aj<|at_<|ar (ah cY) rfl<|ar (bC aa) rfl<|ar (aB ec rfl aa) rfl<|ar (ak (aC tX rfl bV aa (au rfl)) (by simp only [pS,Value.cells,Nat.reduceAdd,aD,aE,aG,aV,aP,bg,bh,dI,dJ]<;>rfl)) rfl ?_
 refine ar (eG aa al) rfl<|ar (ah aa) rfl<|bM aa (λbX cZ=>?_) (λbX cZ=>?_)
 ·(rw [hk]at cZ;simp at cZ;done)
 refine az ⟨_,rfl,.inl bX⟩ rfl ?_;refine az ⟨_,rfl,.inl (ae rfl bX)⟩ rfl ?_;refine ar (bJ (u2 rfl bX) al) rfl<|ar (aw aa) rfl<|aZ (u2 rfl (u8 rfl cY)) (u2 rfl (u8 rfl eI)) (u2 rfl (u8 rfl eJ)) aa ?_;clear bX cY eI eJ;intro lW c7 eL bZ eO
 refine ai<|iP eO<|at_<|ar (ah c7) rfl<|ar (bC aa) rfl<|ar (aB ec rfl aa) rfl<|ar (ak (aC tX rfl bV aa (au rfl)) (by simp only [pS,Value.cells,Nat.reduceAdd,aD,aE,aG,aV,aP,bg,bh,dI,dJ]<;>rfl)) rfl ?_
 refine ar (dS aa al) rfl<|ar (ah aa) rfl<|bM aa (λb0 b1=>?_) (λb0 b1=>?_)
 ·replace b1:=cV b1;refine aA (ah (u2 rfl (u4 rfl bZ))) ⟨_,rfl,b0⟩ rfl ?_;refine aA (dS aa al) ⟨_,rfl,(ae rfl b0)⟩ rfl ?_;refine ar (bD (u2 rfl b0) aa) rfl<|ar (ah aa) rfl<|bM aa (λb2 b6=>?_) (λb2 b6=>?_)
  ·replace b6:=cV b6;refine aA (ah (u2 rfl (u8 rfl bZ))) ⟨_,rfl,b2⟩ rfl ?_;refine aA (dS aa al) ⟨_,rfl,(ae rfl b2)⟩ rfl ?_;refine ar (bD (u2 rfl b2) aa) rfl<|ar (ah aa) rfl<|bM aa (λb8 b9=>?_) (λb8 b9=>?_)
   ·replace b9:=cV b9;refine aA (ah (u2 rfl (u4 rfl (u8 rfl bZ)))) ⟨_,rfl,b8⟩ rfl ?_;refine aA (dS aa al) ⟨_,rfl,(ae rfl b8)⟩ rfl ?_;refine ar (bD (u2 rfl b8) aa) rfl<|ar (aw aa) rfl<|aZ (u2 rfl (u16 rfl c7)) (u2 rfl (u16 rfl eL)) (u2 rfl (u16 rfl bZ)) aa ?_;clear b0 b2 b8 c7 eO eL bZ;intro lZ cp eP c8 eR
    refine ai<|aW eR (λca=>?_) (λca=>?_)
    ·(simp only [toList_data]at ca;exact absurd ca (by decide))
    replace ca:=dj ca;refine aj<|at_<|ar (ah cp) rfl<|ar (bC aa) rfl<|ar (aB ec rfl aa) rfl<|ar (ak (aC tX rfl bV aa (au rfl)) (by simp only [pS,Value.cells,Nat.reduceAdd,aD,aE,aG,aV,aP,bg,bh,dI,dJ]<;>rfl)) rfl ?_
    refine ar (dS aa al) rfl<|ar (ah aa) rfl<|bM aa (λbx cb=>?_) (λbx cb=>?_)
    ·replace cb:=cV cb;refine aA (ah (u2 rfl (u4 rfl cp))) ⟨_,rfl,bx⟩ rfl ?_;refine aA (ah (ae rfl (u2 rfl (u4 rfl c8)))) ⟨_,rfl,(ae rfl bx)⟩ rfl ?_;refine c6 (wm (last:=⟨bS,c0⟩) eE bV bS ho) (ax (ae rfl aa) (ax aa aI)) px ⟨_,rfl,(u2 rfl bx)⟩ rfl (λl1 bB js=>?_) (λ_ _ h=>h.elim);obtain⟨rfl,a7⟩:=js;have bE:=a7.at_ cW (λh_=>by(try dsimp only at h_)<;>first|omega|exact h_.elim);have bF:=a7.at_ bV (λh_=>by(try dsimp only at h_)<;>first|omega|exact h_.elim);have bI:=a7.at_ jk (λh_=>by(try dsimp only at h_)<;>first|omega|exact h_.elim);have bK:=a7.at_ jl (λh_=>by(try dsimp only at h_)<;>first|omega|exact h_.elim);have bO:=a7.at_ jm (λh_=>by(try dsimp only at h_)<;>first|omega|exact h_.elim);have cr:=a7.at_ jn (λh_=>by(try dsimp only at h_)<;>first|omega|exact h_.elim);have bQ:=a7.at_ jp (λh_=>by(try dsimp only at h_)<;>first|omega|exact h_.elim);have ct:=jq.trans a7 (λj_ hj_ h_=>by(try dsimp only at h_)<;>(try subst h_)<;>first|exact h_.elim|(first|exact Or.inr (Or.inr (Or.inr (Or.inr (Or.inr ⟨q0,hq0,rfl⟩))))|(simp [KR];done))|rfl|(simp;done)|(exfalso;omega));have c9:=jr.all a7 (λq_ h1_ h2_ h_=>h_.elim);obtain⟨a9,bw,l3⟩:=a7.len_ eE;refine aA (di aa) ⟨_,rfl,(ae rfl (u2 rfl bx))⟩ rfl ?_;refine ar (bD (u4 rfl bx) aa) rfl<|ar (aw aa) rfl<|aZ (u4 rfl (u8 rfl cp)) (u4 rfl (u8 rfl eP)) (u4 rfl (u8 rfl c8)) aa ?_;clear bx cp eR eP c8;intro eT a5 l4 ba jt
     refine ai<|aW jt (λcw=>?_) (λcw=>?_)
     ·cases cw
     replace cw:=dj cw;refine br<|cv<|ai<|aj<|gz (λe mem=>(ag e (.tmp 0)=ag eT (.tmp 0))/\(ag e (.tmp 3)=ag eT (.tmp 3))/\(mem[co]? =bB[co]?)/\(mem[b]? =bB[b]?)/\(mem[H.jJ]? =bB[H.jJ]?)/\(mem[H.jB]? =bB[H.jB]?)/\(mem[H.jS]? =bB[H.jS]?)/\(mem[0]? =bB[0]?)/\(∃ n,mem.length=n/\a9<=n)/\(∃ hs2:HL,mem[H.jM]? =some (.mp (eQ hs2))/\bu mem hs2 (eN bS st.cnt st.ks st.cs).2 hs2.length/\hs2.map (·.1)=(eN bS st.cnt st.ks st.cs).1/\(∀ q,q<hs2.length->lo<=hN hs2 q)/\bz M0 mem (KR H b))) ?_ ?_
     ·
      have eU:=bE;have eV:=bF;have eW:=bI;have eX:=bK;have eY:=bO;have eZ:=bQ;refine(Classical.em (∃ q0,q0<H.hs.length/\hK H.hs q0=bS)).elim (λda=>?_) (λda=>?_)
      ·obtain⟨q0,hq0,hqk⟩:=da;have hql:=hlt q0 hq0 (by omega);obtain⟨y1,y2,y3,y4,y5⟩:=hnf q0 hq0;have hcq:=hc q0;have y6:=z6 q0 hq0;obtain⟨e0,e3⟩:=c9.take hq0;refine fW 17 1 bw (by kernel_rfl) (by kernel_rfl) (by kernel_rfl) (by kernel_rfl) (λju ab=>?_);have e4:=bp ab bE;have cc:=bp ab bF;have e5:=bp ab bI;have e6:=bp ab bK;have e7:=bp ab bO;have db:=bp ab cr;have e8:=bp ab bQ;have e9:=RestR.bp ab ct;have fa:=bu.bp ab e3;have fb:=bp ab e0;have cx:ju[a9]? =_:=fH ab bw 0 rfl rfl;have jv:_=a9+1:=fX (K:=1) ab bw;clear ab bE bF bI bK bO cr bQ ct e3 e0 bw;refine aQ (λM_ hM_=>(ah a5)) trivial ?_;refine aQ (λM_ hM_=>(bC aa)) trivial ?_;refine aQ (λM_ hM_=>(aB gu rfl aa)) trivial ?_;refine cG (b) (λM_ hM_=>(ak (aC sZ rfl (cf hM_ cc (by simp)) aa (au rfl)) (by simp only [pS,Value.cells,Nat.reduceAdd,aD,aE,aG,aV,aP,bg,bh,dI,dJ]<;>rfl))) trivial trivial ?_;refine aQ (λM_ hM_=>(ah (u4 rfl ba))) trivial ?_;refine aQ (λM_ hM_=>(ah (ae rfl (u4 rfl a5)))) trivial ?_;refine aQ (λM_ hM_=>(bC aa)) trivial ?_;refine aQ (λM_ hM_=>(aB gu rfl aa)) trivial ?_;refine cG (b) (λM_ hM_=>(ak (aC sZ rfl (cf hM_ cc (by simp)) aa (au rfl)) (by simp only [pS,Value.cells,Nat.reduceAdd,aD,aE,aG,aV,aP,bg,bh,dI,dJ]<;>rfl))) trivial trivial ?_;refine aQ (λM_ hM_=>(ah (ae rfl (u8 rfl ba)))) trivial ?_;refine cG (H.jM) (λM_ hM_=>(qu gB gC (cf hM_ db (by simp)) (ae rfl aa) aa (show(eQ H.hs)[q0]? =some (bS,.own (hN H.hs q0))by rw [jY hq0,hqk]) hF.mi)) trivial trivial ?_;refine aQ (λM_ hM_=>(ah (ae rfl (u2 rfl (u8 rfl a5))))) trivial ?_;refine aQ (λM_ hM_=>(bC aa)) trivial ?_;refine aQ (λM_ hM_=>(aB hP rfl aa)) trivial ?_;refine cG (b) (λM_ hM_=>(ak (aC EF rfl (cf hM_ cc (by simp)) aa (au rfl)) (by simp only [pS,Value.cells,Nat.reduceAdd,aD,aE,aG,aV,aP,bg,bh,dI,dJ]<;>rfl))) trivial trivial ?_;refine aQ (λM_ hM_=>(dT sY (bo aa bY) rfl rfl rfl rfl)) trivial ?_;refine lX (a9) ((hN H.hs q0)) (λM_ hM_=>(k6 sY rfl (cf hM_ fb (by simp)) (ae rfl (u4 rfl aa)) aa (by rfl) (by simp only [bn]<;>omega))) trivial cx rfl trivial ⟨.inl (by simp<;>omega),⟨.inl (by simp<;>omega),⟨.inl (by simp<;>omega),⟨.inl (by simp<;>omega),trivial⟩⟩⟩⟩ ⟨.inl (by simp<;>omega),⟨.inl (by simp<;>omega),⟨.inl (by simp<;>omega),⟨.inl (by simp<;>omega),trivial⟩⟩⟩⟩ (λl5 av=>?_);have dc:=l6 av cx;simp only [pS,Value.cells,Nat.reduceAdd,aD,aE,aG,aV,aP,bg,bh,dI,dJ]at dc;have fc:=cn av e4 (by omega) (by omega);have fd:=cn av cc (by omega) (by omega);have fe:=cn av e5 (by omega) (by omega);have ff:=cn av e6 (by omega) (by omega);have fg:=cn av e7 (by omega) (by omega);have cy:=cn av db (by omega) (by omega);have fh:=cn av e8 (by omega) (by omega);have fi:=RestR.cn av e9 (λhj_=>by(exact Or.inr (Or.inr (Or.inr (Or.inr (Or.inr ⟨q0,hq0,rfl⟩)))))) (λhj_=>by(exfalso;omega));have fj:=bu.uH (by omega) av fa cx rfl;have jw:=lQ av jv;clear av e4 cc e5 e6 e7 db e8 e9 fa fb cx;refine gj rfl ?_;refine aL (tI gB gC cy (ae rfl (u4 rfl (u8 rfl aa))) (u4 rfl (u8 rfl aa)) aa (show(eQ H.hs)[q0]? =some (bS,.own (hN H.hs q0))by rw [jY hq0,hqk]) hF.mi) trivial rfl (λl7 aF=>?_);have fk:=bk aF cy;simp only [pS,Value.cells,Nat.reduceAdd,aD,aE,aG,aV,aP,bg,bh,dI,dJ]at fk;have jx:=ao aF dc (by omega);have jy:=ao aF fc (by omega);have jC:=ao aF fd (by omega);have jF:=ao aF fe (by omega);have jG:=ao aF ff (by omega);have jH:=ao aF fg (by omega);have jI:=ao aF fh (by omega);have jK:=RestR.ao aF fi (λhj_=>by(simp [KR];done));have jL:=bu.ao aF fj cy rfl;have jN:=bc aF jw;clear aF dc fc fd fe ff fg cy fh fi fj;refine aY (ay (ae rfl (u16 rfl a5))) (ay (ae rfl (u16 rfl ba))) ?_;intro l8 jO jP;refine ai ⟨(jO).trans (a5).symm,(jP).trans (ba).symm,jy.trans eU.symm,jC.trans eV.symm,jF.trans eW.symm,jG.trans eX.symm,jH.trans eY.symm,jI.trans eZ.symm,⟨_,jN,by omega⟩,?_⟩
       (have hadd:=qw (c:=st.cnt) H.hs st.cs q0 hF.len hq0 hqk (λp hp e=>absurd (hF.key p q0 (by omega) hq0 (e.trans hqk.symm)) (by omega));rw [hR.keys]at hadd;rw [hadd];exact⟨_,fk,jL.put hq0 hqk jx (λq hq=>(by have:=hlt q hq (by omega);omega)),(sT hq0 hqk).trans hR.keys,(λq hq=>by rw [Ul]at hq;rw [nS hq0];split<;>first|exact hlo.2.2.2.2.2 q hq|(show lo<=a9;omega)),jK⟩)
      ·have hqm:=uJ da;refine fW 17 1 bw (by kernel_rfl) (by kernel_rfl) (by kernel_rfl) (by kernel_rfl) (λjQ aH=>?_);have fl:=bp aH bE;have cd:=bp aH bF;have fm:=bp aH bI;have fo:=bp aH bK;have fp:=bp aH bO;have dd:=bp aH cr;have fq:=bp aH bQ;have fs:=RestR.bp aH ct;have ft:=bu.bp aH c9;have cz:jQ[a9]? =_:=fH aH bw 0 rfl rfl;have jR:_=a9+1:=fX (K:=1) aH bw;clear aH bE bF bI bK bO cr bQ ct c9 bw;refine aQ (λM_ hM_=>(ah a5)) trivial ?_;refine aQ (λM_ hM_=>(bC aa)) trivial ?_;refine aQ (λM_ hM_=>(aB gu rfl aa)) trivial ?_;refine cG (b) (λM_ hM_=>(ak (aC sZ rfl (cf hM_ cd (by simp)) aa (au rfl)) (by simp only [pS,Value.cells,Nat.reduceAdd,aD,aE,aG,aV,aP,bg,bh,dI,dJ]<;>rfl))) trivial trivial ?_;refine aQ (λM_ hM_=>(ah (u4 rfl ba))) trivial ?_;refine aQ (λM_ hM_=>(ah (ae rfl (u4 rfl a5)))) trivial ?_;refine aQ (λM_ hM_=>(bC aa)) trivial ?_;refine aQ (λM_ hM_=>(aB gu rfl aa)) trivial ?_;refine cG (b) (λM_ hM_=>(ak (aC sZ rfl (cf hM_ cd (by simp)) aa (au rfl)) (by simp only [pS,Value.cells,Nat.reduceAdd,aD,aE,aG,aV,aP,bg,bh,dI,dJ]<;>rfl))) trivial trivial ?_;refine aQ (λM_ hM_=>(ah (ae rfl (u8 rfl ba)))) trivial ?_;refine cG (H.jM) (λM_ hM_=>(sK gB gC tR (cf hM_ dd (by simp)) (ae rfl aa) aa (mB hqm))) trivial trivial ?_;refine aQ (λM_ hM_=>(ah (ae rfl (u2 rfl (u8 rfl a5))))) trivial ?_;refine aQ (λM_ hM_=>(bC aa)) trivial ?_;refine aQ (λM_ hM_=>(aB hP rfl aa)) trivial ?_;refine cG (b) (λM_ hM_=>(ak (aC EF rfl (cf hM_ cd (by simp)) aa (au rfl)) (by simp only [pS,Value.cells,Nat.reduceAdd,aD,aE,aG,aV,aP,bg,bh,dI,dJ]<;>rfl))) trivial trivial ?_;refine aQ (λM_ hM_=>(dT sY (bo aa bY) rfl rfl rfl rfl)) trivial ?_;refine lh (a9) (λM_ hM_=>(tw sY rfl (ae rfl (u4 rfl aa)) aa (by rfl) (by simp only [bn]<;>omega))) trivial cz rfl trivial ⟨.inl (by simp<;>omega),⟨.inl (by simp<;>omega),⟨.inl (by simp<;>omega),⟨.inl (by simp<;>omega),trivial⟩⟩⟩⟩ (λl9 aK=>?_);have de:=bk aK cz;simp only [pS,Value.cells,Nat.reduceAdd,aD,aE,aG,aV,aP,bg,bh,dI,dJ]at de;have fu:=ao aK fl (by omega);have fx:=ao aK cd (by omega);have fy:=ao aK fm (by omega);have fA:=ao aK fo (by omega);have fB:=ao aK fp (by omega);have cA:=ao aK dd (by omega);have fC:=ao aK fq (by omega);have fD:=RestR.ao aK fs (λhj_=>by(exfalso;omega));have fE:=bu.ao aK ft cz rfl;have jT:=bc aK jR;clear aK fl cd fm fo fp dd fq fs ft cz;refine gj rfl ?_;refine aL (tJ gB gC cA (ae rfl (u4 rfl (u8 rfl aa))) (u4 rfl (u8 rfl aa)) aa (mB hqm)) trivial rfl (λma aM=>?_);have fF:=bk aM cA;simp only [pS,Value.cells,Nat.reduceAdd,aD,aE,aG,aV,aP,bg,bh,dI,dJ]at fF;have jV:=ao aM de (by omega);have jW:=ao aM fu (by omega);have jX:=ao aM fx (by omega);have jZ:=ao aM fy (by omega);have j0:=ao aM fA (by omega);have j1:=ao aM fB (by omega);have j3:=ao aM fC (by omega);have j4:=RestR.ao aM fD (λhj_=>by(simp [KR];done));have j5:=bu.ao aM fE cA rfl;have j6:=bc aM jT;clear aM de fu fx fy fA fB cA fC fD fE;refine aY (ay (ae rfl (u16 rfl a5))) (ay (ae rfl (u16 rfl ba))) ?_;intro mb j7 j8;refine ai ⟨(j7).trans (a5).symm,(j8).trans (ba).symm,jW.trans eU.symm,jX.trans eV.symm,jZ.trans eW.symm,j0.trans eX.symm,j1.trans eY.symm,j3.trans eZ.symm,⟨_,j6,by omega⟩,?_⟩
       (have hadd:=qm (k:=bS) (c:=st.cnt) H.hs st.cs hF.len hqm;rw [hR.keys]at hadd;rw [hadd];exact⟨_,fF,j5.more hqm jV (λq hq=>(by have:=hlt q hq (by omega);omega)),(by rw [Ux,hR.keys];rfl),(λq hq=>by rw [nU];split<;>first|exact hlo.2.2.2.2.2 q (by assumption)|(rw [if_pos (by simp at hq;omega)];show lo<=a9;omega)),j4⟩)
     ·rintro mc md ⟨j9,ka,kb,kc,kd,ke,kf,kh,⟨ki,df,me⟩,⟨hs2,moM2,hF2,hks2,hlo2,hR2⟩⟩;have fG:=j9.trans a5;have dg:=ka.trans ba;have kj:=kb.trans bE;have fI:=kc.trans bF;have km:=kd.trans bI;have kn:=ke.trans bK;have ko:=kf.trans bO;have kp:=kh.trans bQ;refine aj<|aj<|at_<|ar (ah dg) rfl<|bq (ae rfl fG) (ae rfl dg) aa ?_;clear fG dg;intro mf fK fL dh
      refine ai<|bP<|aj<|at_<|ar (eG dh al) rfl<|ar (aw aa) rfl<|aZ (u2 rfl fK) (u2 rfl fL) (u2 rfl dh) aa ?_;clear fK fL dh;intro mg fM fN dk fO
      refine ai<|aW fO (λdl=>?_) (λdl=>?_)
      ·(simp only [toList_data]at dl;exact absurd dl (by decide))
      refine aj<|at_<|ar (eG dk al) rfl<|ar (aw aa) rfl<|aZ (u2 rfl fM) (u2 rfl fN) (u2 rfl dk) aa ?_;clear fM fO fN dk;intro mh fP fQ fR fS
      refine ai<|aW fS (λdm=>?_) (λdm=>?_)
      ·(simp only [toList_data]at dm;exact absurd dm (by decide))
      refine aj<|at_<|ar (eG fR al) rfl<|ar (aw aa) rfl<|bq (u2 rfl fP) (u2 rfl fQ) aa ?_;clear fP fS fQ fR;intro mj dn fT fU
      refine ai<|aW fU (λdp=>?_) (λdp=>?_)
      ·(simp only [toList_data]at dp;exact absurd dp (by decide))
      refine aj ?_;obtain⟨nz,hnz⟩:∃ z,z=ki:=⟨_,rfl⟩;have hlt2:=hF2.lt (df.trans hnz.symm);have hnz2:n<=nz:=by omega
      refine at_<|ar (ah dn) rfl<|c6 (AI (last:=⟨bS,c0⟩) (ws:=ws) df fI hW) (ax aa aI) E7 trivial rfl (λml mm dq=>?_) (λmn mo dq=>?_)
      rotate_left
      ·
       repeat (first|refine dU ?_|refine fJ ?_)
       (rcases dq with⟨ha_,rfl,hz_⟩;exact⟨_,rfl,_,_,ha_,kY (by rw [nh];exact AK ha_) ha_,rfl,hR2.trans hz_ (λj_ hj_ h_=>by(subst h_;simp [KR];done))⟩)
      obtain⟨hnm,rfl,bb,dr⟩:=dq;have fV:=bb.at_ kj (λh_=>by(try dsimp only at h_)<;>omega);simp only [pS,Value.cells,Nat.reduceAdd,aD,aE,aG,aV,aP,bg,bh,dI,dJ]at dr;have fY:=bb.at_ km (λh_=>by(try dsimp only at h_)<;>omega);have fZ:=bb.at_ kn (λh_=>by(try dsimp only at h_)<;>omega);have f0:=bb.at_ ko (λh_=>by(try dsimp only at h_)<;>omega);have ga:=bb.at_ kp (λh_=>by(try dsimp only at h_)<;>omega);have gb:=bb.at_ moM2 (λh_=>by(try dsimp only at h_)<;>omega);have gc:=hF2.all bb (λq_ h1_ h2_ h_=>hF2.miss fI rfl q_ h1_ h2_ h_);have gd:=hR2.trans bb (λj_ hj_ h_=>by(try dsimp only at h_)<;>(try subst h_)<;>(simp [KR];done));obtain⟨dt,du,mq⟩:=bb.len_ df;refine ar (dz (bo aa bY) MG MH MI rfl) rfl ?_;refine aL (cu lU rfl du) trivial rfl (λmr aN=>?_);have ce:=bH aN du;simp only [pS,Value.cells,Nat.reduceAdd,aD,aE,aG,aV,aP,bg,bh,dI,dJ]at ce;have ge:=aJ aN fV;have gf:=aJ aN dr;have gg:=aJ aN fY;have gh:=aJ aN fZ;have gi:=aJ aN f0;have gk:=aJ aN ga;have gl:=aJ aN gb;have gm:=bu.aJ aN gc;have gn:=RestR.aJ aN gd;have kq:=bG aN du;clear aN fV dr fY fZ f0 ga gb gc gd;refine aL (bN aa (ae rfl aa) rfl rfl ce lV rfl (au rfl)) trivial rfl (λmu aO=>?_);have gp:=bk aO ce;simp only [pS,Value.cells,Nat.reduceAdd,aD,aE,aG,aV,aP,bg,bh,dI,dJ]at gp;have kr:=ao aO ge (by omega);have gq:=ao aO gf (by omega);have kt:=ao aO gg (by omega);have kv:=ao aO gh (by omega);have kw:=ao aO gi (by omega);have gt:=ao aO gk (by omega);have kx:=ao aO gl (by omega);have gv:=bu.ao aO gm ce rfl;have gw:=RestR.ao aO gn (λhj_=>by(exfalso;omega));have gx:=bc aO kq;clear aO ce ge gf gg gh gi gk gl gm gn;refine bq (ay (u4 rfl dn)) (ay (u4 rfl fT)) (ay aa) ?_;clear dn fU fT;intro mv dv gy dw;refine ai<|aj<|at_<|ar (ah dv) rfl<|c6 (lH (last:=cq ws) (ws:=ws.tail) gx hes her gt gq (hW.tail (xI hnm)) false) (ax aa (ax al aI)) lO trivial rfl (λmw mx dx=>?_) (λmy mz dx=>?_)
      rotate_left
      ·
       repeat (first|refine dU ?_|refine fJ ?_)
       (rcases dx with⟨ha_,rfl,hz_⟩;exact⟨_,rfl,_,_,ha_,kY (by rw [nh,nB hnm];exact B6 ha_) ha_,rfl,gw.trans hz_ (λj_ hj_ h_=>by(subst h_;simp [KR];done))⟩)
      obtain⟨hn1,rfl,a8,dy⟩:=dx;have cB:=a8.at_ gp (λh_=>by(try dsimp only at h_)<;>omega);have gA:=a8.at_ kr (λh_=>by(try dsimp only at h_)<;>omega);simp only [pS,Value.cells,Nat.reduceAdd,aD,aE,aG,aV,aP,bg,bh,dI,dJ]at dy;have gD:=a8.at_ kt (λh_=>by(try dsimp only at h_)<;>omega);have gE:=a8.at_ kv (λh_=>by(try dsimp only at h_)<;>omega);have gF:=a8.at_ kw (λh_=>by(try dsimp only at h_)<;>omega);have gG:=a8.at_ gt (λh_=>by(try dsimp only at h_)<;>omega);have gH:=a8.at_ kx (λh_=>by(try dsimp only at h_)<;>omega);have gI:=gv.all a8 (λq_ h1_ h2_ h_=>gv.miss gq rfl q_ h1_ h2_ h_);have gJ:=gw.trans a8 (λj_ hj_ h_=>by(try dsimp only at h_)<;>(try subst h_)<;>(simp [KR];done));obtain⟨ky,kz,mA⟩:=a8.len_ gx;refine ar (aB hU rfl (u2 rfl dw)) rfl<|aL (bN aa (ae rfl aa) rfl rfl cB il rfl (au rfl)) trivial rfl (λmC aR=>?_)
      have dA:=bk aR cB;simp only [pS,Value.cells,Nat.reduceAdd,aD,aE,aG,aV,aP,bg,bh,dI,dJ]at dA;have kA:=ao aR gA (by omega);have kB:=ao aR dy (by omega);have kC:=ao aR gD (by omega);have kD:=ao aR gE (by omega);have kE:=ao aR gF (by omega);have kF:=ao aR gG (by omega);have kG:=ao aR gH (by omega);have kH:=bu.ao aR gI cB rfl;have kI:=RestR.ao aR gJ (λhj_=>by(exfalso;omega));have dB:=bc aR kz;clear aR cB gA dy gD gE gF gG gH gI gJ;refine bq (ay (ae rfl (u2 rfl dv))) (ay (ae rfl (u2 rfl gy))) (ay (ae rfl (u2 rfl dw))) ?_;clear dv gy dw;intro mD dE gK dF;refine ai<|aj<|su 3 1 2 dA rfl dB (λmE mF ad af=>?_)
      have gL:=bH ad dB;have kJ:=ao af gL (by omega);have gM:=aJ ad dA;have dG:=bk af gM;simp only [UQ,UE]at dG;have gN:=aJ ad kA;have kK:=ao af gN (by omega);have gO:=aJ ad kB;have gP:=ao af gO (by omega);have gQ:=aJ ad kC;have kL:=ao af gQ (by omega);have gR:=aJ ad kD;have kM:=ao af gR (by omega);have gS:=aJ ad kE;have kN:=ao af gS (by omega);have gT:=aJ ad kF;have gU:=ao af gT (by omega);have gW:=aJ ad kG;have kO:=ao af gW (by omega);have gY:=bu.aJ ad kH;have gZ:=bu.lT gY af (λq_ h1_ h2_=>by(have:=hlt2 q_ h1_ (by omega);omega));have g0:=RestR.aJ ad kI;have g1:=RestR.ao af g0 (λhj_=>by(exfalso;omega));have g2:=bG ad dB;have g3:_=ky+1:=bc af g2;clear ad af g2 gL gM gN gO gQ gR gS gT gW gY g0;refine RZ g3 (by kernel_rfl) (by kernel_rfl) (by kernel_rfl) (by kernel_rfl) (by kernel_rfl) dF dE dG kJ (by omega) (by omega) (by simp) lO (lH (last:=cq ws.tail) (ws:=ws.tail.tail) g3 hes her gU gP ((hW.tail (xI hnm)).tail (jU hn1)) true) (λu_ M_ e_ h_=>by(repeat (first|refine dU ?_|refine fJ ?_));rcases h_ with⟨ha_,rfl,hz_⟩;exact⟨_,rfl,_,_,ha_,kY (by rw [nh,nB hnm,nL hn1];exact oP ha_) ha_,rfl,g1.trans hz_ (λj_ hj_ h_=>by(subst h_;simp [KR];done))⟩) (λhn2 kP mG kQ mH be dH cC=>?_);have cD:=be.at_ dG (λh_=>by(try dsimp only at h_)<;>rcases h_ with h_|h_<;>omega);have g4:=be.at_ kK (λh_=>by(try dsimp only at h_)<;>rcases h_ with h_|h_<;>omega);have g5:=be.at_ kL (λh_=>by(try dsimp only at h_)<;>rcases h_ with h_|h_<;>omega);have g6:=be.at_ kM (λh_=>by(try dsimp only at h_)<;>rcases h_ with h_|h_<;>omega);have g7:=be.at_ kN (λh_=>by(try dsimp only at h_)<;>rcases h_ with h_|h_<;>omega);have g8:=be.at_ gU (λh_=>by(try dsimp only at h_)<;>rcases h_ with h_|h_<;>omega);have hh:=be.at_ kO (λh_=>by(try dsimp only at h_)<;>rcases h_ with h_|h_<;>omega);have hv:=gZ.all be (λq_ h1_ h2_ h_=>by rcases h_ with h_|h_<;>first|exact absurd h_ (gZ.miss gP rfl q_ h1_ h2_)|(revert h_;(have:=hlt2 q_ h1_ (by omega);omega)));have hC:=g1.trans be (λj_ hj_ h_=>by(try dsimp only at h_)<;>rcases h_ with h_|h_<;>subst h_<;>first|(simp [KR];done)|(exfalso;omega));simp only [pS,Value.cells,Nat.reduceAdd,aD,aE,aG,aV,aP,bg,bh,dI,dJ]at dH;simp only [pS,Value.cells,Nat.reduceAdd,aD,aE,aG,aV,aP,bg,bh,dI,dJ]at cC;refine aL (kS aa (ae rfl aa) cD cC u6 (au rfl)) trivial rfl (λbR am=>?_);have hD:=bk am cD;simp only [pS,Value.cells,Nat.reduceAdd,aD,aE,aG,aV,aP,bg,bh,dI,dJ]at hD;have hE:=ao am g4 (by omega);have hG:=ao am g5 (by omega);have hH:=ao am g6 (by omega);have hI:=ao am g7 (by omega);have hO:=ao am g8 (by omega);have hQ:=ao am hh (by omega);have kR:=bu.ao am hv cD rfl;have kT:=RestR.ao am hC (λhj_=>by(exfalso;omega));have kU:=ao am dH (by omega);have kV:=ao am cC (by omega);have kW:=bc am kQ;clear am cD g4 g5 g6 g7 g8 hh hv hC dH cC;refine bq (ay (ae rfl (u2 rfl (u4 rfl dE)))) (ay (ae rfl (u2 rfl (u4 rfl gK)))) (ay (ae rfl (u2 rfl (u4 rfl dF)))) ?_;clear dE gK dF;intro dL hV hY hZ;refine ai<|aj<|bP<|dN (S:=(Nat×List Int×List Wd×Wd)) (λs e mem=>match s with|⟨k,vs,zs,lz⟩=>(ag e (.tmp 0)=ag dL (.tmp 0))/\(ag e (.tmp 3)=ag dL (.tmp 3))/\(ag e (.tmp 9)=ag dL (.tmp 9))/\(mem[dt]? =some (.box 97 [.v (.string (cq ws).txt),.v (.int .i64 (dZ (cq ws.tail))),.own k]))/\(mem[k]? =some (.row 3 1 (vs.map iE)))/\(mem[b]? =some (.box 77 (aD st.nam (.own H.jJ) (.own H.jB) (.own H.jS) (.own H.jM) st.cnt zs lz st.kind)))/\(mem[co]? =bR[co]?)/\(mem[H.jJ]? =bR[H.jJ]?)/\(mem[H.jB]? =bR[H.jB]?)/\(mem[H.jS]? =bR[H.jS]?)/\(mem[0]? =bR[0]?)/\(mem[H.jM]? =bR[H.jM]?)/\(∃ n,mem.length=n/\kP+1<=n)/\((ws.tail.tail.map dZ=vs++zs.map dZ/\g9 bS ⟨bS,c0⟩ ws=kg true zs/\iw lz zs/\vs.length+zs.length<=200000/\nz<=k/\k≠dt/\bu mem hs2 (eN bS st.cnt st.ks st.cs).2 hs2.length/\bz M0 mem (KR H b)))) (λs=>match s with|⟨k,vs,zs,lz⟩=>zs.length) ⟨_,[dZ (cq ws.tail.tail)],ws.tail.tail.tail,cq ws.tail.tail⟩ ⟨rfl,rfl,rfl,hD,kV,kU,rfl,rfl,rfl,rfl,rfl,rfl,⟨_,kW,Tf _⟩,?_⟩ ?_
      ·(exact⟨yI (jU hn2),(by rw [uI (by rw [nh,nB hnm,nL hn1,jz hn2];rfl),B9,nh];exact congrArg (kg true) (GP ws)),((hW.tail (xI hnm)).tail (jU hn1)).tail (jU hn2),(by simp;omega),by omega,by omega,kR,kT⟩)
      ·rintro⟨k,vs,zs,lz⟩ mI mJ ⟨kX,kZ,k0,cg,dM,ci,k2,k4,k5,k7,k8,k9,⟨cj,dO,mK⟩,hinv⟩;have dP:=kX.trans hV;have h6:=kZ.trans hY;have h7:=k0.trans hZ;have dQ:=k2.trans hE;have dR:=k4.trans hG;have dV:=k5.trans hH;have dW:=k7.trans hI;have cE:=k8.trans hO;have dX:=k9.trans hQ
       (obtain⟨hvs,hbh,hzs,hvl,hnk,hnk9,hF3,hR3⟩:=hinv;have hzl:=hzs.len)
       refine aj<|aj<|at_<|ar (ah dP) rfl<|ar (bC aa) rfl<|ar (aB iz rfl aa) rfl<|ar (ak (aC CE rfl ci aa (au rfl)) (by simp only [pS,Value.cells,Nat.reduceAdd,aD,aE,aG,aV,aP,bg,bh,dI,dJ]<;>rfl)) rfl ?_
       refine ar (ak (bW aa rfl CC.1) (by simp only [bn]<;>rfl)) rfl ?_;refine ar (eM aa al) rfl<|aZ (u2 rfl (u4 rfl dP)) (u2 rfl (u4 rfl h6)) (u2 rfl (u4 rfl h7)) aa ?_;clear dP h6 h7;intro mL bA cF ck dY
       refine ai<|aW dY (λcm=>?_) (λcm=>?_)
       ·replace cm:=bt cm;refine br<|ai<|bP<|R2 dO (by kernel_rfl) (by kernel_rfl) (by kernel_rfl) (by kernel_rfl) (by kernel_rfl) ck bA cg dM (by omega) (by omega) (by simp;omega) lO (lH (last:=lz) (ws:=zs) dO hes her cE ci hzs true) (λu_ M_ e_ h_=>by(repeat (first|refine dU ?_|refine fJ ?_));rcases h_ with⟨ha_,rfl,hz_⟩;exact⟨_,rfl,_,_,ha_,hbh.trans (PR (by omega) ha_),rfl,hR3.trans hz_ (λj_ hj_ h_=>by(subst h_;simp [KR];done))⟩) (λhn3 lb mM lc mN bj ea cH=>?_)
        have cJ:=bj.at_ cg (λh_=>by(try dsimp only at h_)<;>rcases h_ with h_|h_<;>omega);have h8:=bj.at_ dQ (λh_=>by(try dsimp only at h_)<;>rcases h_ with h_|h_<;>omega);have h9:=bj.at_ dR (λh_=>by(try dsimp only at h_)<;>rcases h_ with h_|h_<;>omega);have ia:=bj.at_ dV (λh_=>by(try dsimp only at h_)<;>rcases h_ with h_|h_<;>omega);have ib:=bj.at_ dW (λh_=>by(try dsimp only at h_)<;>rcases h_ with h_|h_<;>omega);have ic:=bj.at_ cE (λh_=>by(try dsimp only at h_)<;>rcases h_ with h_|h_<;>omega);have ie:=bj.at_ dX (λh_=>by(try dsimp only at h_)<;>rcases h_ with h_|h_<;>omega);have ig:=hF3.all bj (λq_ h1_ h2_ h_=>by rcases h_ with h_|h_<;>first|exact absurd h_ (hF3.miss ci rfl q_ h1_ h2_)|(revert h_;(have:=hlt2 q_ h1_ (by omega);omega)));have ih:=hR3.trans bj (λj_ hj_ h_=>by(try dsimp only at h_)<;>rcases h_ with h_|h_<;>subst h_<;>first|(simp [KR];done)|(exfalso;omega));simp only [pS,Value.cells,Nat.reduceAdd,aD,aE,aG,aV,aP,bg,bh,dI,dJ]at ea;simp only [pS,Value.cells,Nat.reduceAdd,aD,aE,aG,aV,aP,bg,bh,dI,dJ]at cH;refine aL (kS aa (ae rfl aa) cJ cH u6 (au rfl)) trivial rfl (λmO an=>?_);have ij:=bk an cJ;simp only [pS,Value.cells,Nat.reduceAdd,aD,aE,aG,aV,aP,bg,bh,dI,dJ]at ij;have ld:=ao an h8 (by omega);have lf:=ao an h9 (by omega);have lg:=ao an ia (by omega);have li:=ao an ib (by omega);have lj:=ao an ic (by omega);have lk:=ao an ie (by omega);have ll:=bu.ao an ig cJ rfl;have ln:=RestR.ao an ih (λhj_=>by(exfalso;omega));have lp:=ao an ea (by omega);have lq:=ao an cH (by omega);have lr:=bc an lc;clear an cJ h8 h9 ia ib ic ie ig ih ea cH;refine bq (ay (ae rfl (u2 rfl (u4 rfl bA)))) (ay (ae rfl (u2 rfl (u4 rfl cF)))) (ay (ae rfl (u2 rfl (u4 rfl ck)))) ?_;clear bA cF dY ck;intro mP lv lw lx;refine cv<|ai<|⟨⟨lb,vs++ [dZ (cq zs)],zs.tail,cq zs⟩,⟨(lv.trans hV.symm),(lw.trans hY.symm),(lx.trans hZ.symm),ij,lq,lp,(ld.trans hE.symm),(lf.trans hG.symm),(lg.trans hH.symm),(li.trans hI.symm),(lj.trans hO.symm),(lk.trans hQ.symm),⟨_,lr,by omega⟩,?_⟩,?_⟩
        ·(exact⟨(by rw [hvs,yI (jU hn3)];simp),hbh.trans (FO hn3),hzs.tail (jU hn3),(by simp;omega),by omega,by omega,ll,ln⟩)
        ·((try dsimp only);(simp;omega))
       replace cm:=bf cm;refine dD<|b7<|b7<|dC<|ai<|Il 2 cg dM (by omega) rfl (λmQ aS=>?_)
       have eb:=bk aS (ao rfl cg (by omega));simp only [UQ,UE]at eb;have ik:=ao aS (ao rfl ci (by omega)) (by omega);have im:=ao aS (ao rfl dQ (by omega)) (by omega);have io:=ao aS (ao rfl dR (by omega)) (by omega);have ip:=ao aS (ao rfl dV (by omega)) (by omega);have iq:=ao aS (ao rfl dW (by omega)) (by omega);have ir:=ao aS (ao rfl cE (by omega)) (by omega);have iu:=ao aS (ao rfl dX (by omega)) (by omega);have iv:=bu.lT (bu.lT hF3 rfl (λq_ h1_ h2_=>by(have:=hlt2 q_ h1_ (by omega);omega))) aS (λq_ h1_ h2_=>by(have:=hlt2 q_ h1_ (by omega);omega));have ix:=RestR.ao aS (RestR.ao rfl hR3 (λhj_=>by(exfalso;omega))) (λhj_=>by(exfalso;omega));have cK:=bc aS (bc rfl dO);clear aS cg dM ci dQ dR dV dW cE dX hF3 hR3;obtain rfl:zs= []:=UP.1 (by omega);obtain rfl:vs=ws.tail.tail.map dZ:=by rw [hvs];simp
       refine fW 9 1 cK (by kernel_rfl) (by kernel_rfl) (by kernel_rfl) (by kernel_rfl) (λly ap=>?_);have ed:=bp ap eb;have ee:=bp ap ik;have iy:=bp ap im;have iA:=bp ap io;have iB:=bp ap ip;have ef:=bp ap iq;have iC:=bp ap ir;have iD:=bp ap iu;have iF:=bu.bp ap iv;have iG:=RestR.bp ap ix;have cL:ly[cj]? =_:=fH ap cK 0 rfl rfl;have lA:_=cj+1:=fX (K:=1) ap cK;clear ap eb ik im io ip iq ir iu iv ix cK;refine aQ (λM_ hM_=>(ah bA)) trivial ?_;refine aQ (λM_ hM_=>(ah (ae rfl bA))) trivial ?_;refine aQ (λM_ hM_=>(bC aa)) trivial ?_;refine aQ (λM_ hM_=>(aB jo rfl aa)) trivial ?_;refine aQ (λM_ hM_=>(aB eF rfl aa)) trivial ?_;refine cG (b) (λM_ hM_=>(ak (aC MJ rfl (cf hM_ ee (by simp)) aa (au rfl)) (by simp only [pS,Value.cells,Nat.reduceAdd,aD,aE,aG,aV,aP,bg,bh,dI,dJ]<;>rfl))) trivial trivial ?_;refine cG (dt) (λM_ hM_=>(ak (aC MK rfl (cf hM_ ed (by simp)) (u2 rfl (u4 rfl ck)) (au rfl)) (by simp only [pS,Value.cells,Nat.reduceAdd,aD,aE,aG,aV,aP,bg,bh,dI,dJ]<;>rfl))) trivial trivial ?_;refine aQ (λM_ hM_=>(dT CB (bo aa bY) rfl rfl rfl rfl)) trivial ?_;refine lX (cj) (H.jS) (λM_ hM_=>(k6 CB rfl (cf hM_ ef (by simp)) (u2 rfl aa) aa (by rfl) (by simp only [bn]<;>omega))) trivial cL rfl trivial ⟨.inl (by simp<;>omega),⟨.inl (by simp<;>omega),trivial⟩⟩ ⟨.inl (by simp<;>omega),⟨.inl (by simp<;>omega),trivial⟩⟩ (λmR aT=>?_);have cM:=l6 aT cL;simp only [pS,Value.cells,Nat.reduceAdd,aD,aE,aG,aV,aP,bg,bh,dI,dJ]at cM;have iH:=cn aT ed (by omega) (by omega);have cN:=cn aT ee (by omega) (by omega);have iI:=cn aT iy (by omega) (by omega);have iJ:=cn aT iA (by omega) (by omega);have iK:=cn aT iB (by omega) (by omega);have iL:=cn aT iC (by omega) (by omega);have iM:=cn aT iD (by omega) (by omega);have iN:=bu.cn aT iF ef rfl cL rfl;have iO:=RestR.cn aT iG (λhj_=>by(simp [KR];done)) (λhj_=>by(exfalso;omega));have lB:=lQ aT lA;clear aT ed ee iy iA iB ef iC iD iF iG cL;refine gj rfl ?_;refine ar (bC (u8 rfl aa)) rfl<|ar (aB jo rfl aa) rfl<|ar (aB eF rfl aa) rfl<|aL (kS aa (ae rfl (u2 rfl aa)) cN cM F6 (au rfl)) trivial rfl (λmS aU=>?_)
       have bT:=bk aU cN;simp only [pS,Value.cells,Nat.reduceAdd,aD,aE,aG,aV,aP,bg,bh,dI,dJ]at bT;have iQ:=ao aU cM (by omega);have iR:=ao aU iH (by omega);have iS:=ao aU iI (by omega);have iT:=ao aU iJ (by omega);have iU:=ao aU iK (by omega);have iV:=ao aU iL (by omega);have iW:=ao aU iM (by omega);have iX:=bu.ao aU iN cN rfl;have iY:=RestR.ao aU iO (λhj_=>by(simp [KR];done));have lC:=bc aU lB;clear aU cM iH cN iI iJ iK iL iM iN iO;refine aY (ay (u4 rfl (u8 rfl bA))) (ay (u4 rfl (u8 rfl cF))) ?_;clear bA cF dY ck;intro mT eg iZ;refine cv<|ai<|aj<|aj<|at_<|ar (ah eg) rfl<|ar (bC aa) rfl<|ar (aB iz rfl aa) rfl<|ar (ak (aC CE rfl bT aa (au rfl)) (by simp only [pS,Value.cells,Nat.reduceAdd,aD,aE,aG,aV,aP,bg,bh,dI,dJ]<;>rfl)) rfl ?_
       refine ar (ak (bW aa rfl CC.1) (by simp only [bn]<;>rfl)) rfl ?_;refine ar (eM aa al) rfl<|bq (u2 rfl (u4 rfl eg)) (u2 rfl (u4 rfl iZ)) aa ?_;clear eg iZ;intro mU i6 i7 i8
       refine ai<|aW i8 (λcO=>?_) (λcO=>?_)
       ·cases cO
       replace cO:=bf cO;refine br<|ai<|at_<|ar (ah i6) rfl<|ar (ah (ae rfl i7)) rfl<|ar (bC (ae rfl aa)) rfl<|ar (aB ec rfl aa) rfl<|aL (bN aa (u2 rfl aa) rfl rfl bT oc rfl (au rfl)) trivial rfl (λmV aX=>?_)
       have ja:=bk aX bT;simp only [pS,Value.cells,Nat.reduceAdd,aD,aE,aG,aV,aP,bg,bh,dI,dJ]at ja;have lD:=ao aX iQ (by omega);have mW:=ao aX iR (by omega);have mX:=ao aX iS (by omega);have lE:=ao aX iT (by omega);have lF:=ao aX iU (by omega);have mY:=ao aX iV (by omega);have lG:=ao aX iW (by omega);have lI:=bu.ao aX iX bT rfl;have lJ:=RestR.ao aX iY (λhj_=>by(simp [KR];done));have mZ:=bc aX lC;clear aX bT iQ iR iS iT iU iV iW iX iY;refine lu ?_;clear i6 i8 i7;intro m0;refine⟨_,lY (by kernel_rfl),?_⟩;exact⟨hbh,rfl,⟨H.jM,H.jJ,H.jB,cj,hs2⟩,lz,⟨ja,lE,lF,lD,lG,lI,hks2,⟨hlo.1,hlo.2.1,by show lo<=H.jJ;omega,by show lo<=H.jB;omega,by show lo<=cj;omega,hlo2⟩⟩,lJ⟩
    ·(rw [hk]at cb;simp at cb;done)
   ·(simp only [toList_data]at b9;exact absurd b9 (by decide))
  ·(simp only [toList_data]at b6;exact absurd b6 (by decide))
 ·(rw [hk]at b1;simp at b1;done)
theorem qP:aN Tryz.prog 3 false 1:=⟨by kernel_rfl,by kernel_rfl⟩
theorem lM:aN Tryz.prog 9 false 1:=⟨by kernel_rfl,by kernel_rfl⟩
section
variable {M0:List Ob} {n:Nat} (hn:M0.length=n) {b:Nat} {nam:ByteArray} {J B S M:AV} {cnt:Int} {w:Wd} {ws:List Wd} {last:Wd} {kind:ByteArray}
include hn
theorem wR(hb:M0[b]? =some (.box aE (aD nam J B S M cnt ws last kind)))(k:ByteArray)(t:Bool)(h:gV kind k=t):dK Tryz.prog 67 [.ptr b 0,.v (.string k)] M0 (λr m'=>r=dH t/\bz M0 m' (λ_=>False)) (λ_ _=>False):=by
 have:=B2 hn hb k;rw [h]at this;exact this
theorem AM(hb:M0[b]? =some (.box aE (aD nam J B S M cnt (w::ws) last kind)))(hl:ws.length<=1000000)(h:(kind.toList==(⟨#[]⟩:ByteArray).toList && !(w.txt.toList==(⟨#[108,105,110,101]⟩:ByteArray).toList)|| !(kind.toList==(⟨#[]⟩:ByteArray).toList)&& !(w.txt.toList==(⟨#[106,111,105,110,116]⟩:ByteArray).toList)&& !(w.txt.toList==(⟨#[98,101,97,109]⟩:ByteArray).toList)&& !(w.txt.toList==(⟨#[115,119,105,116,99,104]⟩:ByteArray).toList))=true):
 dK Tryz.prog 30 [.ptr b 0] M0 (λ_ _=>False) (λv m'=>v=fw cnt w.col 7/\bz M0 m' (λj=>j=b)):=by
 have hbn:=cI hb hn;refine fz (fn:=Tryz.f30) 193 (by kernel_rfl) rfl (by kernel_rfl) (S8 rfl) ?_;intro bv aQ hA aK;have aR:ag bv (.tmp 0)=_:=hA 0 _ rfl;have a8:aQ.length=n:=by rw [aK];exact hn
 have a9:aQ[b]? =_:=(congrArg (λq=>q[b]?) aK).trans hb;simp only [pS,Value.cells,Nat.reduceAdd,aD,aE,aG]at a9;have bw:bz M0 aQ (λj=>j=b):=by rw [aK];exact bz.refl _ _
 clear hA aK;refine aj<|at_<|ar (ah aR) rfl<|c6 (ku (J:=J) (B:=B) (S:=S) (M:=M) (nam:=nam) (cnt:=cnt) (w:=w) (ws:=ws) (last:=last) (kind:=kind) a8 a9 hl) (ax aa aI) jA trivial rfl (λbO bQ bx=>?_) (λ_ _ h=>h.elim)
 obtain⟨rfl,ba,aS⟩:=bx;simp only [pS,Value.cells,Nat.reduceAdd,aD,aE,aG]at aS;have bb:=bw.trans ba (λj_ hj_ h_=>by(try dsimp only at h_)<;>(try subst h_)<;>rfl);obtain⟨bR,aT,bS⟩:=ba.len_ a8;refine aL (cu jD rfl aT) trivial rfl (λbT ad=>?_);have aM:=bH ad aT;simp only [pS,Value.cells,Nat.reduceAdd,aD,aE,aG]at aM;have be:=aJ ad aS;have bf:=RestR.aJ ad bb;have bA:=bG ad aT;clear ad aS bb;refine aL (bN aa (ae rfl aa) rfl rfl aM jE rfl (au rfl)) trivial rfl (λbU af=>?_);have aN:=bk af aM;simp only [pS,Value.cells,Nat.reduceAdd,aD,aE,aG]at aN;have aO:=ao af be (by omega);have bg:=RestR.ao af bf (λhj_=>by(exfalso;omega));have bh:=bc af bA;clear af aM be bf;refine aY (ay (ae rfl (u2 rfl aR))) (ay aa) ?_;clear aR;intro bV bj aU;refine ai<|aj<|at_<|ar (aB gr rfl aU) rfl<|ar (ak (aC lM rfl aN aa (au rfl)) (by simp only [pS,Value.cells,Nat.reduceAdd,aD,aE,aG]<;>rfl)) rfl ?_
 refine ar (aw aa) rfl<|bq (ae rfl (u2 rfl bj)) (ae rfl (u2 rfl aU)) aa ?_;clear bj aU;intro bW am aP an
 refine ai<|aj<|bP<|aj<|aj<|at_<|ar (ah am) rfl<|ar (bC aa) rfl<|ar (aB ec rfl aa) rfl<|ar (ak (aC lM rfl aO aa (au rfl)) (by simp only [pS,Value.cells,Nat.reduceAdd,aD,aE,aG]<;>rfl)) rfl ?_
 refine ar (eG aa al) rfl<|ar (ah aa) rfl<|bM aa (λab bB=>?_) (λab bB=>?_)
 ·skip;refine aA (ah (u2 rfl (u4 rfl an))) ⟨_,rfl,ab⟩ rfl ?_;refine aA (dS aa al) ⟨_,rfl,(ae rfl ab)⟩ rfl ?_;refine ar (bD (u2 rfl ab) aa) rfl<|ar (aw aa) rfl<|aZ (u2 rfl (u8 rfl am)) (u2 rfl (u8 rfl aP)) (u2 rfl (u8 rfl an)) aa ?_;clear ab am aP an;intro bX bE bF bY bm
  refine ai<|aW bm (λaV=>?_) (λaV=>?_)
  ·replace aV:=cV aV;refine br<|ai<|aW bm (λaX=>?_) (λaX=>?_)
   ·replace aX:=cV aX;refine at_<|ar (ah bE) rfl<|ar (aB iS rfl (ae rfl bF)) rfl<|ar (ak (aC qP rfl aN aa (au rfl)) (by simp only [pS,Value.cells,Nat.reduceAdd,aD,aE,aG]<;>rfl)) rfl ?_
    refine c6 (gw (J:=J) (B:=B) (S:=S) (M:=M) (nam:=nam) (cnt:=cnt) (ws:=ws) (last:=w) (kind:=kind) bh aO _ _) (ax (u2 rfl aa) (ax aa (ax al aI))) gx trivial rfl (λ_ _ h=>h.elim) (λbZ b0 bn=>?_)
    repeat (first|refine dU ?_|refine fJ ?_)
    exact⟨_,rfl,bn.1,bg.trans bn.2 (λj_ hj_ h_=>by exact h_)⟩
   ·(simp_all;done)
  ·(simp_all;done)
 refine az ⟨_,rfl,.inl ab⟩ rfl ?_;refine az ⟨_,rfl,.inl (ae rfl ab)⟩ rfl ?_;refine ar (bJ (u2 rfl ab) al) rfl<|ar (aw aa) rfl<|aZ (u2 rfl (u8 rfl am)) (u2 rfl (u8 rfl aP)) (u2 rfl (u8 rfl an)) aa ?_;clear ab am aP an;intro b1 a2 bo ap bp
 refine ai<|iP bp<|at_<|ar (ah a2) rfl<|ar (bC aa) rfl<|ar (aB ec rfl aa) rfl<|ar (ak (aC lM rfl aO aa (au rfl)) (by simp only [pS,Value.cells,Nat.reduceAdd,aD,aE,aG]<;>rfl)) rfl ?_
 refine ar (dS aa al) rfl<|ar (ah aa) rfl<|bM aa (λav a3=>?_) (λav a3=>?_)
 ·replace a3:=cV a3;refine aA (ah (u2 rfl (u4 rfl ap))) ⟨_,rfl,av⟩ rfl ?_;refine aA (dS aa al) ⟨_,rfl,(ae rfl av)⟩ rfl ?_;refine ar (bD (u2 rfl av) aa) rfl<|ar (ah aa) rfl<|bM aa (λaF a5=>?_) (λaF a5=>?_)
  ·replace a5:=cV a5;refine aA (ah (u2 rfl (u8 rfl ap))) ⟨_,rfl,aF⟩ rfl ?_;refine aA (dS aa al) ⟨_,rfl,(ae rfl aF)⟩ rfl ?_;refine ar (bD (u2 rfl aF) aa) rfl<|ar (ah aa) rfl<|bM aa (λaH a6=>?_) (λaH a6=>?_)
   ·replace a6:=cV a6;refine aA (ah (u2 rfl (u4 rfl (u8 rfl ap)))) ⟨_,rfl,aH⟩ rfl ?_;refine aA (dS aa al) ⟨_,rfl,(ae rfl aH)⟩ rfl ?_;refine ar (bD (u2 rfl aH) aa) rfl<|ar (aw aa) rfl<|aZ (u2 rfl (u16 rfl a2)) (u2 rfl (u16 rfl bo)) (u2 rfl (u16 rfl ap)) aa ?_;clear av aF aH a2 bp bo ap;intro b2 bI bK b6 bL
    refine ai<|aW bL (λa7=>?_) (λa7=>?_)
    ·replace a7:=cV a7;refine at_<|ar (ah bI) rfl<|ar (aB iS rfl (ae rfl bK)) rfl<|ar (ak (aC qP rfl aN aa (au rfl)) (by simp only [pS,Value.cells,Nat.reduceAdd,aD,aE,aG]<;>rfl)) rfl ?_
     refine c6 (gw (J:=J) (B:=B) (S:=S) (M:=M) (nam:=nam) (cnt:=cnt) (ws:=ws) (last:=w) (kind:=kind) bh aO _ _) (ax (u2 rfl aa) (ax aa (ax al aI))) gx trivial rfl (λ_ _ h=>h.elim) (λb7 b8 bu=>?_)
     repeat (first|refine dU ?_|refine fJ ?_)
     exact⟨_,rfl,bu.1,bg.trans bu.2 (λj_ hj_ h_=>by exact h_)⟩
    ·(simp_all;done)
   ·(simp_all;done)
  ·(simp_all;done)
 ·(simp_all;done)
theorem HT(hb:M0[b]? =some (.box aE (aD nam J B S M cnt (w::ws) last kind)))(hl:ws.length<=1000000)(h:(kind.toList==(⟨#[]⟩:ByteArray).toList)=false)(h2:(w.txt.toList==(⟨#[106,111,105,110,116]⟩:ByteArray).toList ||w.txt.toList==(⟨#[98,101,97,109]⟩:ByteArray).toList ||w.txt.toList==(⟨#[115,119,105,116,99,104]⟩:ByteArray).toList)=true)(ho:gV kind w.txt=false):
 dK Tryz.prog 30 [.ptr b 0] M0 (λ_ _=>False) (λv m'=>v=fw cnt w.col 9/\bz M0 m' (λj=>j=b)):=by
 have hbn:=cI hb hn;refine fz (fn:=Tryz.f30) 193 (by kernel_rfl) rfl (by kernel_rfl) (S8 rfl) ?_;intro b0 bb hA aT;have be:ag b0 (.tmp 0)=_:=hA 0 _ rfl;have bA:bb.length=n:=by rw [aT];exact hn
 have bB:bb[b]? =_:=(congrArg (λq=>q[b]?) aT).trans hb;simp only [pS,Value.cells,Nat.reduceAdd,aD,aE,aG]at bB;have b1:bz M0 bb (λj=>j=b):=by rw [aT];exact bz.refl _ _
 clear hA aT;refine aj<|at_<|ar (ah be) rfl<|c6 (ku (J:=J) (B:=B) (S:=S) (M:=M) (nam:=nam) (cnt:=cnt) (w:=w) (ws:=ws) (last:=last) (kind:=kind) bA bB hl) (ax aa aI) jA trivial rfl (λcA cB b2=>?_) (λ_ _ h=>h.elim)
 obtain⟨rfl,bE,bf⟩:=b2;simp only [pS,Value.cells,Nat.reduceAdd,aD,aE,aG]at bf;have bF:=b1.trans bE (λj_ hj_ h_=>by(try dsimp only at h_)<;>(try subst h_)<;>rfl);obtain⟨cC,bg,cD⟩:=bE.len_ bA;refine aL (cu jD rfl bg) trivial rfl (λcE aN=>?_);have aU:=bH aN bg;simp only [pS,Value.cells,Nat.reduceAdd,aD,aE,aG]at aU;have bI:=aJ aN bf;have bK:=RestR.aJ aN bF;have b6:=bG aN bg;clear aN bf bF;refine aL (bN aa (ae rfl aa) rfl rfl aU jE rfl (au rfl)) trivial rfl (λcF aO=>?_);have aP:=bk aO aU;simp only [pS,Value.cells,Nat.reduceAdd,aD,aE,aG]at aP;have ab:=ao aO bI (by omega);have bh:=RestR.ao aO bK (λhj_=>by(exfalso;omega));have aK:=bc aO b6;clear aO aU bI bK;refine aY (ay (ae rfl (u2 rfl be))) (ay aa) ?_;clear be;intro cG bL bj;refine ai<|aj<|at_<|ar (aB gr rfl bj) rfl<|ar (ak (aC lM rfl aP aa (au rfl)) (by simp only [pS,Value.cells,Nat.reduceAdd,aD,aE,aG]<;>rfl)) rfl ?_
 refine ar (aw aa) rfl<|bq (ae rfl (u2 rfl bL)) (ae rfl (u2 rfl bj)) aa ?_;clear bL bj;intro cH bm bO bQ
 refine ai<|aj<|bP<|aj<|aj<|at_<|ar (ah bm) rfl<|ar (bC aa) rfl<|ar (aB ec rfl aa) rfl<|ar (ak (aC lM rfl ab aa (au rfl)) (by simp only [pS,Value.cells,Nat.reduceAdd,aD,aE,aG]<;>rfl)) rfl ?_
 refine ar (eG aa al) rfl<|ar (ah aa) rfl<|bM aa (λaQ b7=>?_) (λaQ b7=>?_)
 ·(simp_all;done)
 refine az ⟨_,rfl,.inl aQ⟩ rfl ?_;refine az ⟨_,rfl,.inl (ae rfl aQ)⟩ rfl ?_;refine ar (bJ (u2 rfl aQ) al) rfl<|ar (aw aa) rfl<|aZ (u2 rfl (u8 rfl bm)) (u2 rfl (u8 rfl bO)) (u2 rfl (u8 rfl bQ)) aa ?_;clear aQ bm bO bQ;intro cJ an aM af aV
 refine ai<|iP aV<|at_<|ar (ah an) rfl<|ar (bC aa) rfl<|ar (aB ec rfl aa) rfl<|ar (ak (aC lM rfl ab aa (au rfl)) (by simp only [pS,Value.cells,Nat.reduceAdd,aD,aE,aG]<;>rfl)) rfl ?_
 refine ar (dS aa al) rfl<|ar (ah aa) rfl<|bM aa (λap bn=>?_) (λap bn=>?_)
 ·replace bn:=cV bn;refine aA (ah (u2 rfl (u4 rfl af))) ⟨_,rfl,ap⟩ rfl ?_;refine aA (dS aa al) ⟨_,rfl,(ae rfl ap)⟩ rfl ?_;refine ar (bD (u2 rfl ap) aa) rfl<|ar (ah aa) rfl<|bM aa (λad aR=>?_) (λad aR=>?_)
  ·replace aR:=cV aR;refine aA (ah (u2 rfl (u8 rfl af))) ⟨_,rfl,ad⟩ rfl ?_;refine aA (dS aa al) ⟨_,rfl,(ae rfl ad)⟩ rfl ?_;refine ar (bD (u2 rfl ad) aa) rfl<|ar (ah aa) rfl<|bM aa (λam aS=>?_) (λam aS=>?_)
   ·replace aS:=cV aS;refine aA (ah (u2 rfl (u4 rfl (u8 rfl af)))) ⟨_,rfl,am⟩ rfl ?_;refine aA (dS aa al) ⟨_,rfl,(ae rfl am)⟩ rfl ?_;refine ar (bD (u2 rfl am) aa) rfl<|ar (aw aa) rfl<|aZ (u2 rfl (u16 rfl an)) (u2 rfl (u16 rfl aM)) (u2 rfl (u16 rfl af)) aa ?_;clear ap ad am an aV aM af;intro cK aX bR bo bS
    refine ai<|aW bS (λbp=>?_) (λbp=>?_)
    ·(simp_all;done)
    replace bp:=dj bp;refine aj<|at_<|ar (ah aX) rfl<|ar (bC aa) rfl<|ar (aB ec rfl aa) rfl<|ar (ak (aC lM rfl ab aa (au rfl)) (by simp only [pS,Value.cells,Nat.reduceAdd,aD,aE,aG]<;>rfl)) rfl ?_
    refine ar (dS aa al) rfl<|ar (ah aa) rfl<|bM aa (λav br=>?_) (λav br=>?_)
    ·replace br:=cV br;refine aA (ah (u2 rfl (u4 rfl aX))) ⟨_,rfl,av⟩ rfl ?_;refine aA (ah (ae rfl (u2 rfl (u4 rfl bo)))) ⟨_,rfl,(ae rfl av)⟩ rfl ?_;refine c6 (wR (J:=J) (B:=B) (S:=S) (M:=M) (nam:=nam) (cnt:=cnt) (ws:=ws) (last:=w) (kind:=kind) aK ab w.txt false ho) (ax (ae rfl aa) (ax aa aI)) px ⟨_,rfl,(u2 rfl av)⟩ rfl (λcL cM b8=>?_) (λ_ _ h=>h.elim);obtain⟨rfl,a2⟩:=b8;have b9:=a2.at_ aP (λh_=>by(try dsimp only at h_)<;>first|omega|exact h_.elim);have ca:=a2.at_ ab (λh_=>by(try dsimp only at h_)<;>first|omega|exact h_.elim);have cb:=bh.trans a2 (λj_ hj_ h_=>by(try dsimp only at h_)<;>(try subst h_)<;>first|exact h_.elim|rfl|(simp;done)|(exfalso;omega));obtain⟨cN,cc,cO⟩:=a2.len_ aK;refine aA (di aa) ⟨_,rfl,(ae rfl (u2 rfl av))⟩ rfl ?_;refine ar (bD (u4 rfl av) aa) rfl<|ar (aw aa) rfl<|aZ (u4 rfl (u8 rfl aX)) (u4 rfl (u8 rfl bR)) (u4 rfl (u8 rfl bo)) aa ?_;clear av aX bS bR bo;intro cP cd ce cQ cf
     refine ai<|aW cf (λa3=>?_) (λa3=>?_)
     ·replace a3:=cV a3;refine at_<|ar (ah cd) rfl<|ar (aB iS rfl (ae rfl ce)) rfl<|ar (ak (aC qP rfl b9 aa (au rfl)) (by simp only [pS,Value.cells,Nat.reduceAdd,aD,aE,aG]<;>rfl)) rfl ?_
      refine c6 (gw (J:=J) (B:=B) (S:=S) (M:=M) (nam:=nam) (cnt:=cnt) (ws:=ws) (last:=w) (kind:=kind) cc ca _ _) (ax (u2 rfl aa) (ax aa (ax al aI))) gx trivial rfl (λ_ _ h=>h.elim) (λcR cS bT=>?_)
      repeat (first|refine dU ?_|refine fJ ?_)
      exact⟨_,rfl,bT.1,cb.trans bT.2 (λj_ hj_ h_=>by exact h_)⟩
     ·cases a3
    ·(simp_all;done)
   replace aS:=dj aS;refine az ⟨_,rfl,.inl am⟩ rfl ?_;refine az ⟨_,rfl,.inl (ae rfl am)⟩ rfl ?_;refine ar (bJ (u2 rfl am) al) rfl<|ar (aw aa) rfl<|aZ (u2 rfl (u16 rfl an)) (u2 rfl (u16 rfl aM)) (u2 rfl (u16 rfl af)) aa ?_;clear ap ad am an aV aM af;intro cT a5 bU bu bV
   refine ai<|iP bV<|aj<|at_<|ar (ah a5) rfl<|ar (bC aa) rfl<|ar (aB ec rfl aa) rfl<|ar (ak (aC lM rfl ab aa (au rfl)) (by simp only [pS,Value.cells,Nat.reduceAdd,aD,aE,aG]<;>rfl)) rfl ?_
   refine ar (dS aa al) rfl<|ar (ah aa) rfl<|bM aa (λaF bv=>?_) (λaF bv=>?_)
   ·replace bv:=cV bv;refine aA (ah (u2 rfl (u4 rfl a5))) ⟨_,rfl,aF⟩ rfl ?_;refine aA (ah (ae rfl (u2 rfl (u4 rfl bu)))) ⟨_,rfl,(ae rfl aF)⟩ rfl ?_;refine c6 (wR (J:=J) (B:=B) (S:=S) (M:=M) (nam:=nam) (cnt:=cnt) (ws:=ws) (last:=w) (kind:=kind) aK ab w.txt false ho) (ax (ae rfl aa) (ax aa aI)) px ⟨_,rfl,(u2 rfl aF)⟩ rfl (λcU cW cg=>?_) (λ_ _ h=>h.elim);obtain⟨rfl,a6⟩:=cg;have ci:=a6.at_ aP (λh_=>by(try dsimp only at h_)<;>first|omega|exact h_.elim);have cj:=a6.at_ ab (λh_=>by(try dsimp only at h_)<;>first|omega|exact h_.elim);have ck:=bh.trans a6 (λj_ hj_ h_=>by(try dsimp only at h_)<;>(try subst h_)<;>first|exact h_.elim|rfl|(simp;done)|(exfalso;omega));obtain⟨cX,cm,cY⟩:=a6.len_ aK;refine aA (di aa) ⟨_,rfl,(ae rfl (u2 rfl aF))⟩ rfl ?_;refine ar (bD (u4 rfl aF) aa) rfl<|ar (aw aa) rfl<|aZ (u4 rfl (u8 rfl a5)) (u4 rfl (u8 rfl bU)) (u4 rfl (u8 rfl bu)) aa ?_;clear aF a5 bV bU bu;intro cZ cn co c7 cp
    refine ai<|aW cp (λa7=>?_) (λa7=>?_)
    ·replace a7:=cV a7;refine at_<|ar (ah cn) rfl<|ar (aB iS rfl (ae rfl co)) rfl<|ar (ak (aC qP rfl ci aa (au rfl)) (by simp only [pS,Value.cells,Nat.reduceAdd,aD,aE,aG]<;>rfl)) rfl ?_
     refine c6 (gw (J:=J) (B:=B) (S:=S) (M:=M) (nam:=nam) (cnt:=cnt) (ws:=ws) (last:=w) (kind:=kind) cm cj _ _) (ax (u2 rfl aa) (ax aa (ax al aI))) gx trivial rfl (λ_ _ h=>h.elim) (λc8 c9 bW=>?_)
     repeat (first|refine dU ?_|refine fJ ?_)
     exact⟨_,rfl,bW.1,ck.trans bW.2 (λj_ hj_ h_=>by exact h_)⟩
    ·cases a7
   ·(simp_all;done)
  replace aR:=dj aR;refine az ⟨_,rfl,.inl ad⟩ rfl ?_;refine az ⟨_,rfl,.inl (ae rfl ad)⟩ rfl ?_;refine ar (bJ (u2 rfl ad) al) rfl<|ar (ah aa) rfl<|az ⟨_,rfl,.inl aa⟩ rfl ?_
  refine az ⟨_,rfl,.inl (ae rfl aa)⟩ rfl ?_;refine ar (bJ (u2 rfl aa) al) rfl<|ar (aw aa) rfl<|aZ (u2 rfl (u16 rfl an)) (u2 rfl (u16 rfl aM)) (u2 rfl (u16 rfl af)) aa ?_;clear ap ad an aV aM af;intro da a8 bX bw bY
  refine ai<|iP bY<|aj<|at_<|ar (ah a8) rfl<|ar (bC aa) rfl<|ar (aB ec rfl aa) rfl<|ar (ak (aC lM rfl ab aa (au rfl)) (by simp only [pS,Value.cells,Nat.reduceAdd,aD,aE,aG]<;>rfl)) rfl ?_
  refine ar (dS aa al) rfl<|ar (ah aa) rfl<|bM aa (λaH bx=>?_) (λaH bx=>?_)
  ·replace bx:=cV bx;refine aA (ah (u2 rfl (u4 rfl a8))) ⟨_,rfl,aH⟩ rfl ?_;refine aA (ah (ae rfl (u2 rfl (u4 rfl bw)))) ⟨_,rfl,(ae rfl aH)⟩ rfl ?_;refine c6 (wR (J:=J) (B:=B) (S:=S) (M:=M) (nam:=nam) (cnt:=cnt) (ws:=ws) (last:=w) (kind:=kind) aK ab w.txt false ho) (ax (ae rfl aa) (ax aa aI)) px ⟨_,rfl,(u2 rfl aH)⟩ rfl (λdb dc cq=>?_) (λ_ _ h=>h.elim);obtain⟨rfl,a9⟩:=cq;have cr:=a9.at_ aP (λh_=>by(try dsimp only at h_)<;>first|omega|exact h_.elim);have ct:=a9.at_ ab (λh_=>by(try dsimp only at h_)<;>first|omega|exact h_.elim);have cv:=bh.trans a9 (λj_ hj_ h_=>by(try dsimp only at h_)<;>(try subst h_)<;>first|exact h_.elim|rfl|(simp;done)|(exfalso;omega));obtain⟨dd,cw,de⟩:=a9.len_ aK;refine aA (di aa) ⟨_,rfl,(ae rfl (u2 rfl aH))⟩ rfl ?_;refine ar (bD (u4 rfl aH) aa) rfl<|ar (aw aa) rfl<|aZ (u4 rfl (u8 rfl a8)) (u4 rfl (u8 rfl bX)) (u4 rfl (u8 rfl bw)) aa ?_;clear aH a8 bY bX bw;intro df cx cy dg cz
   refine ai<|aW cz (λba=>?_) (λba=>?_)
   ·replace ba:=cV ba;refine at_<|ar (ah cx) rfl<|ar (aB iS rfl (ae rfl cy)) rfl<|ar (ak (aC qP rfl cr aa (au rfl)) (by simp only [pS,Value.cells,Nat.reduceAdd,aD,aE,aG]<;>rfl)) rfl ?_
    refine c6 (gw (J:=J) (B:=B) (S:=S) (M:=M) (nam:=nam) (cnt:=cnt) (ws:=ws) (last:=w) (kind:=kind) cw ct _ _) (ax (u2 rfl aa) (ax aa (ax al aI))) gx trivial rfl (λ_ _ h=>h.elim) (λdh dk bZ=>?_)
    repeat (first|refine dU ?_|refine fJ ?_)
    exact⟨_,rfl,bZ.1,cv.trans bZ.2 (λj_ hj_ h_=>by exact h_)⟩
   ·cases ba
  ·(simp_all;done)
 ·(simp_all;done)
end
end Go.Proofs.YtbmlgmblfboigaaGreatDoor
namespace Go.Proofs.YtbmlgmblfboigaaGreatDoor
open Go Go.RowKit Go.Proofs Go.Lib
def ew(p:ByteArray)(w0:Wd)(ws:List Wd):Int×Int:=if e9 p w0.txt=0 then g9 w0.txt w0 ws else(w0.col,e9 p w0.txt)
def dt(st:RS)(w0:Wd)(ws:List Wd):RS:=
 if bT w0.txt b8 then {(st.add b8)with nam:=(cq ws).txt,ws:= [],last:=cq ws,kind:=b8}
 else if bT w0.txt bQ then {(st.add bQ)with js:=st.js++ [⟨dZ (cq ws),dZ (cq ws.tail),dZ (cq ws.tail.tail),dZ (cq ws.tail.tail.tail)⟩],ws:= [],last:=cq ws.tail.tail.tail,kind:=bQ}
 else if bT w0.txt bU then {(st.add bU)with bs:=st.bs++ [⟨dZ (cq ws),dZ (cq ws.tail)⟩],ws:= [],last:=cq ws.tail,kind:=bU}
 else {(st.add bS)with ss:=st.ss++ [⟨(cq ws).txt,dZ (cq ws.tail),ws.tail.tail.map dZ⟩],ws:= [],last:=w0,kind:=bS}
structure zw (st:RS):Prop where
 js:st.js.length<=1000000
 bs:st.bs.length<=1000000
 ss:st.ss.length<=1000000
 cs:∀ q,(cR st.cs q).length <=1000000
theorem nV{a b:ByteArray}(h:a≠b):bT a b=false:=by
 cases hq:bT a b with
 | false=>rfl
 | true=>exact absurd (iF.1 hq) h
theorem rP:bT bQ b8=false:=by rw [gm];decide
theorem rQ:bT bU b8=false:=by rw [gm];decide
theorem rR:bT bS b8=false:=by rw [gm];decide
theorem rS:bT bU bQ=false:=by rw [gm];decide
theorem rT:bT bS bQ=false:=by rw [gm];decide
theorem rU:bT bS bU=false:=by rw [gm];decide
theorem fA(a:ByteArray):bT a a=true:=iF.2 rfl
theorem ML{M0:List Ob}{n:Nat}(hn:M0.length=n){st:RS}{H:RH}{lo b:Nat}(hR:eK st H lo M0 b){es er:Value}(hes:eS es)(her:eS er)(h0:M0[0]? =some (.bL (gX es er)))(hB:zw st)(w0:Wd)(ws:List Wd)(hw:st.ws=w0::ws)(hW:iw w0 ws)(hl:ws.length<=100000):
 dK Tryz.prog 30 [.ptr b 0] M0 (λr m'=>ew st.kind w0 ws=(0,0)/\r= .tuple []/\ ∃ H' la,eK {(dt st w0 ws)with last:=la} H' lo m' b/\bz M0 m' (KR H b)) (λv m'=>∃ c e,e≠0/\ew st.kind w0 ws=(c,e)/\v=fw st.cnt c e/\bz M0 m' (KR H b)):=by
 obtain⟨tx,c0⟩:=w0;have hb:=hR.box;rw [hw]at hb
 by_cases hk:bT st.kind ⟨#[]⟩=true
 ·by_cases ht:tx=b8
  ·subst ht;have hkk:e9 st.kind b8=0:=by simp [e9,hk,fA]
   refine(Jx hn hR c0 ws hw (iF.1 hk) hW hB.cs).mono (λr m h=>?_) (λv m h=>?_)
   ·obtain⟨h1,h2,H',h3,h4⟩:=h;exact⟨by simp only [ew];rw [if_pos hkk];exact h1,h2,H',cq ws,by rw [dt,if_pos (fA _)];exact h3,h4⟩
   ·obtain⟨c,e,h1,h2,h3⟩:=h;exact⟨c,e,h1,by simp only [ew];rw [if_pos hkk];exact h2,h3⟩
  ·have hkk:e9 st.kind tx=7:=by simp [e9,hk,nV ht]
   have hk':(st.kind.toList==(⟨#[]⟩:ByteArray).toList)=true:=hk;have ht':(tx.toList==(⟨#[108,105,110,101]⟩:ByteArray).toList)=false:=nV ht;refine(AM hn hb hW.len (by rw [hk',ht'];rfl)).mono (λr m h=>h.elim) (λv m h=>?_);exact⟨c0,7,by decide,by simp only [ew];rw [hkk];rfl,h.1,⟨h.2.len,λj hj hn=>h.2.same j hj λe=>hn (.inl e)⟩⟩
 ·have hk0:bT st.kind ⟨#[]⟩=false:=by simpa using hk
  have hk':(st.kind.toList==(⟨#[]⟩:ByteArray).toList)=false:=hk0
  by_cases hin:(bT tx bQ||bT tx bU||bT tx bS)=true
  ·cases ho:gV st.kind tx with
   | false=>
    have hkk:e9 st.kind tx=9:=by unfold e9;rw [hk0,hin,ho];rfl
    refine(HT hn hb hW.len hk' hin ho).mono (λr m h=>h.elim) (λv m h=>?_);exact⟨c0,9,by decide,by simp only [ew];rw [hkk];rfl,h.1,⟨h.2.len,λj hj hn=>h.2.same j hj λe=>hn (.inl e)⟩⟩
   | true=>
    have hkk:e9 st.kind tx=0:=by unfold e9;rw [hk0,hin,ho];rfl
    by_cases h1:tx=bQ
    ·subst h1;refine(IG hn hR c0 hes her h0 hB.js ws hw hk' ho hW hB.cs).mono (λr m h=>?_) (λv m h=>?_)
     ·obtain⟨h1,h2,H',h3,h4⟩:=h;exact⟨by simp only [ew];rw [if_pos hkk];exact h1,h2,H',cq ws.tail.tail.tail,by simp only [dt,rP,fA,if_true,Tn,if_false];exact h3,h4⟩
     ·obtain⟨c,e,h1,h2,h3⟩:=h;exact⟨c,e,h1,by simp only [ew];rw [if_pos hkk];exact h2,h3⟩
    by_cases h2:tx=bU
    ·subst h2;refine(Jy hn hR c0 hes her h0 hB.bs ws hw hk' ho hW hB.cs).mono (λr m h=>?_) (λv m h=>?_)
     ·obtain⟨h1,h2,H',h3,h4⟩:=h;exact⟨by simp only [ew];rw [if_pos hkk];exact h1,h2,H',cq ws.tail,by simp only [dt,rQ,rS,fA,if_true,Tn,if_false];exact h3,h4⟩
     ·obtain⟨c,e,h1,h2,h3⟩:=h;exact⟨c,e,h1,by simp only [ew];rw [if_pos hkk];exact h2,h3⟩
    have h3:tx=bS:=by
     rw [nV h1,nV h2]at hin;exact iF.1 (by simpa using hin)
    subst h3;refine(HS hn hR c0 hes her h0 hB.ss ws hw hk' ho hW hl hB.cs).mono (λr m h=>?_) (λv m h=>?_)
    ·obtain⟨h1,h2,H',la,h3,h4⟩:=h;exact⟨by simp only [ew];rw [if_pos hkk];exact h1,h2,H',la,by simp only [dt,rR,rT,rU,Tn,if_false];exact h3,h4⟩
    ·obtain⟨c,e,h1,h2,h3⟩:=h;exact⟨c,e,h1,by simp only [ew];rw [if_pos hkk];exact h2,h3⟩
  ·have hin0:(bT tx bQ||bT tx bU||bT tx bS)=false:=by simpa using hin
   have hkk:e9 st.kind tx=7:=by unfold e9;rw [hk0,hin0];rfl
   have hin1:((tx.toList==(⟨#[106,111,105,110,116]⟩:ByteArray).toList)||(tx.toList==(⟨#[98,101,97,109]⟩:ByteArray).toList)||(tx.toList==(⟨#[115,119,105,116,99,104]⟩:ByteArray).toList))=false:=hin0;simp only [U7]at hin1;refine(AM hn hb hW.len (by rw [hk',hin1.1.1,hin1.1.2,hin1.2];rfl)).mono (λr m h=>h.elim) (λv m h=>?_);exact⟨c0,7,by decide,by simp only [ew];rw [hkk];rfl,h.1,⟨h.2.len,λj hj hn=>h.2.same j hj λe=>hn (.inl e)⟩⟩
end Go.Proofs.YtbmlgmblfboigaaGreatDoor
namespace Go.Proofs.YtbmlgmblfboigaaGreatDoor
open Go Go.RowKit Go.Proofs
theorem IH:bZ Tryz.prog 168 0 0 true 2:=by unfold bZ;kernel_rfl
theorem Ag:bZ Tryz.prog 168 1 2 false 1:=by unfold bZ;kernel_rfl
theorem MM:∀ args w,(callFunc 97 args).run Tryz.prog w= .ok (.enter 97 args) w:=λ_ _=>by kernel_rfl
theorem CG:bI Tryz.prog 164 166 1 8 (.nilFunc):=⟨by kernel_rfl,by kernel_rfl,by kernel_rfl⟩
theorem MN:aN Tryz.prog 166 false 1:=⟨by kernel_rfl,by kernel_rfl⟩
theorem PS:aN Tryz.prog 27 true 4:=⟨by kernel_rfl,by kernel_rfl⟩
theorem EG:aN Tryz.prog 30 false 1:=⟨by kernel_rfl,by kernel_rfl⟩
theorem xN:aN Tryz.prog 99 true 2:=⟨by kernel_rfl,by kernel_rfl⟩
def vu(l:aU):List AV:= [ly (dB (dn l.nam) 4),ly (dB (decide ((0:Int)<l.bs.length/\(l.js.length:Int)=l.bs.length+1)) 10),ly (dB (decide ((l.bs.length:Int)<=40)) 8),
 mZ 1 l.js.length (.clo (.func 113) [] [.ref (kf l)]),mZ 2 l.bs.length (.clo (.func 116) [] [.ref (kf l)]),ly (dB (decide ((l.ss.length:Int)<=4)) 8),mZ 3 l.ss.length (.clo (.func 117) [] [.ref (kf l)])]
theorem R7(l:aU):vq l=(vu l).map jZ:=rfl
def jL(l:aU):List ((Int×Int)×Int):= [((0,0),dB (dn l.nam) 4),((0,0),dB (decide ((0:Int)<l.bs.length/\(l.js.length:Int)=l.bs.length+1)) 10),((0,0),dB (decide ((l.bs.length:Int)<=40)) 8),
 kO 1 (λi=>iJ (l.js.getD i default)) l.js.length,kO 2 (λi=>gQ (l.bs.getD i default)) l.bs.length,((0,0),dB (decide ((l.ss.length:Int)<=4)) 8),kO 3 (fq l) l.ss.length]
theorem uL(er:Int):lZ Tryz.prog (ly er) [] (λq=>q=rO ((0,0),er)):=⟨_,_,_,rfl,rfl,rfl,λ_ _=>by kernel_rfl,Iy er⟩
theorem yJ(k:Int)(n:Nat)(f:FuncId)(m:List AV)(er:Nat->Int)(hn:n<=1000000)(hro:cm.roL m=true)(dV:∀ args w,(callFunc f args).run Tryz.prog w= .ok (.enter f args) w)(hc:∀ i:Int,0<=i->i<n->bF Tryz.prog f ([]++ [mA i]++m) (λq=>q=mA (er i.toNat))):
 lZ Tryz.prog (mZ k n (.clo (.func f) [] m)) [] (λq=>q=rO (kO k er n)):=
 ⟨_,_,_,rfl,rfl,by(simp only [cm.roL,cm,Bool.and_true,U2];done),λ_ _=>by kernel_rfl,LZ k n f m er (by omega) hro dV hc⟩
theorem Q8(l:aU)(hl:eE l)(hsw:l.js.length=l.bs.length+1-> ∀ i:Int,0<=i->i<l.ss.length->bF Tryz.prog 117 [mA i,.ref (kf l)] (λq=>q=mA (fq l i.toNat))):∀ i:Nat,i<7->(∀ j:Nat,j<i->((jL l).getD j default).2=0)->lZ Tryz.prog ((vu l).getD i default) [] (λq=>q=rO ((jL l).getD i default))
 | 0,_,_=>uL _
 | 1,_,_=>uL _
 | 2,_,_=>uL _
 | 3,_,_=>yJ _ _ _ _ _ hl.2.1 rfl (λ_ _=>by kernel_rfl) λi h0 h1=>LW l i ⟨h0,h1⟩
 | 4,_,_=>yJ _ _ _ _ _ hl.2.2.1 rfl (λ_ _=>by kernel_rfl) λi h0 h1=>LX l i ⟨h0,h1⟩
 | 5,_,_=>uL _
 | 6,_,hz=>yJ _ _ _ _ _ hl.2.2.2.1 rfl (λ_ _=>by kernel_rfl) (hsw (by
  have h1:dB (decide ((0:Int)<l.bs.length/\(l.js.length:Int)=l.bs.length+1)) 10=0:=hz 1 (by omega)
  by_cases hd:(0:Int)<l.bs.length/\(l.js.length:Int)=l.bs.length+1
  ·omega
  ·rw [decide_eq_false hd]at h1;exact absurd h1 (by decide)))
theorem Hu(l:aU)(hl:eE l)(r:(Int×Int)×Int)(hr:∀ i:Nat,i<7->(∀ j:Nat,j<i->((jL l).getD j default).2=0)->((jL l).getD i default).2≠0->r=(jL l).getD i default)(hr0:(∀ j:Nat,j<7->((jL l).getD j default).2=0)->r=((0,0),0))
 (hck:∀ i:Nat,i<7->(∀ j:Nat,j<i->((jL l).getD j default).2=0)->lZ Tryz.prog ((vu l).getD i default) [] (λq=>q=rO ((jL l).getD i default))):bF Tryz.prog 70 [ep l] (λq=>q= .tuple [.agg [mA r.1.1,mA r.1.2],mA r.2]):=by
 have h7:(vu l).length =7:=rfl;refine ck (fn:=Tryz.f70) 25 (by kernel_rfl) rfl (by kernel_rfl) (S8 rfl) ?_;intro cg ci hA bB;have bC:ag cg (.tmp 0)=_:=hA 0 _ rfl;have aV:ci.length=0:=by rw [bB];rfl
 clear hA bB;refine aj<|at_<|aL (dO bC rfl aV) trivial rfl (λcI a2=>?_)
 have bD:=bH a2 aV;have ab:=bG a2 aV;have ab:_=1:=ab;clear a2;refine aL (cu nW rfl ab) trivial rfl (λbE aE=>?_);have a3:=bH aE ab;simp only [pS,Value.cells,Nat.reduceAdd,jZ]at a3;have a5:=aJ aE bD;have a6:=bG aE ab;have a6:_=2:=a6;clear aE bD;refine ar (aw al) rfl<|aY (u2 rfl aa) (ae rfl aa) ?_;clear bC;intro cJ bI bJ
 refine ai<|aj<|aj<|at_<|ar (ak (aC PS rfl a5 bI (au rfl)) (by simp only [pS,Value.cells,Nat.reduceAdd,jZ]<;>rfl)) rfl ?_
 refine ar (bj (ax aa aI) rfl ((Jo l hl).mono (λq h=>h.trans (by rw [R7]))) MM) rfl ?_;refine ar (ak (bW aa rfl CG.1) (by simp only [bn]<;>rfl)) rfl ?_;refine ar (ah al) rfl<|aZ (u4 rfl bJ) (u2 rfl aa) (ae rfl aa) aa ?_;clear bI bJ;intro a7 bK bL bM cm
 refine ai<|bP<|dN (S:=Int) (λi e mem=>(ag e (.tmp 10)= .v (.int .i64 i))/\(ag e (.tmp 2)=ag a7 (.tmp 2))/\(ag e (.tmp 8)=ag a7 (.tmp 8))/\(ag e (.tmp 9)=ag a7 (.tmp 9))/\(mem[1]? =bE[1]?)/\(mem[0]? =bE[0]?)/\(∃ n,mem.length=n/\2<=n)/\((0<=i/\i<=7/\ ∀ j:Nat,j<i.toNat->((jL l).getD j default).2=0))) (λi=>(7 - i).toNat) _ ⟨cm,rfl,rfl,rfl,rfl,rfl,⟨_,a6,Tf _⟩,?_⟩ ?_
 ·(exact⟨by omega,by omega,λj h=>absurd h (by omega)⟩)
 ·rintro i cK cM ⟨a8,cn,co,cp,cq,ct,⟨a9,aF,cN⟩,hinv⟩;have bQ:=cn.trans bK;have bR:=co.trans bL;have ba:=cp.trans bM;have ad:=cq.trans a3;have aG:=ct.trans a5
  (obtain⟨p1,p2,p3⟩:=hinv)
  refine aj<|at_<|ar (cL a8 ba) rfl<|bV (ae rfl bQ) (ae rfl bR) (ae rfl ba) (ae rfl a8) aa ?_;clear a8 bQ bR ba;intro cO af aH bb aK be
  refine ai<|aj<|aW be (λam=>?_) (λam=>?_)
  ·replace am:=bt am;refine br<|ai<|aj<|bP<|aj<|at_<|ar (ak (cr CG aH aK (by omega) (by(refine cP ?_;omega))) (by simp only [pS,Value.cells,Nat.reduceAdd,jZ]<;>rfl)) rfl ?_
   refine ar (ak (bw MN rfl aa (au rfl)) (by simp only [pS,Value.cells,Nat.reduceAdd,jZ]<;>rfl)) rfl ?_;refine ar (aw aa) rfl<|bV (ae rfl (u2 rfl af)) aa (ae rfl (u2 rfl aH)) (ae rfl (u2 rfl bb)) (ae rfl (u2 rfl aK)) ?_;clear aK be af aH bb;intro cQ bS bT bU bX bZ
   refine ai<|aj<|at_<|ar (ah bT) rfl<|ar (BG aa aI rfl (hck i.toNat (by omega) p3)) rfl ?_
   refine aL (cu ye rfl aF) trivial rfl (λcR an=>?_);have aM:=bH an aF;simp only [pS,Value.cells,Nat.reduceAdd,jZ]at aM;have b0:=aJ an ad;have b1:=aJ an aG;have cw:=bG an aF;clear an ad aG;refine aL (bN aa (ae rfl aa) rfl rfl aM uo rfl (au rfl)) trivial rfl (λcS ap=>?_);have aN:=bk ap aM;simp only [pS,Value.cells,Nat.reduceAdd,jZ]at aN;have bg:=ao ap b0 (by omega);have bh:=ao ap b1 (by omega);have aO:=bc ap cw;clear ap aM b0 b1;refine bV (ay (ae rfl (u2 rfl bS))) (ay aa) (ay (ae rfl (u2 rfl bU))) (ay (ae rfl (u2 rfl bX))) (ay (ae rfl (u2 rfl bZ))) ?_;clear bZ bS bT bU bX;intro cT b2 bm b6 b8 b9;refine ai<|aj<|at_<|ar (aB Ag rfl bm) rfl<|ar (ak (aC EG rfl aN aa (au rfl)) (by simp only [pS,Value.cells,Nat.reduceAdd,jZ]<;>rfl)) rfl ?_
   refine ar (ez aa al) rfl<|ei (ae rfl (u2 rfl b2)) (ae rfl (u2 rfl bm)) (ae rfl (u2 rfl b6)) (ae rfl (u2 rfl b8)) (ae rfl (u2 rfl b9)) aa ?_;clear b9 b2 bm b6 b8;intro cU av aP bo bq bu bv
   refine ai<|aW bv (λaz=>?_) (λaz=>?_)
   ·replace az:=dR az;refine aj<|fW 5 0 aO (by kernel_rfl) (by kernel_rfl) (by kernel_rfl) (by kernel_rfl) (λcV aA=>?_)
    have aR:=bp aA aN;have bx:=bp aA bg;have ca:=bp aA bh;have cx:_=a9+1:=fX (K:=0) aA aO;clear aA aN bg bh aO;refine aQ (λM_ hM_=>(aB IH rfl aP)) trivial ?_;refine cG (a9) (λM_ hM_=>(ak (aC xN rfl (cf hM_ aR (by simp)) aa (au rfl)) (by simp only [pS,Value.cells,Nat.reduceAdd,jZ]<;>rfl))) trivial trivial ?_;refine aQ (λM_ hM_=>(aB Ag rfl (u2 rfl aP))) trivial ?_;refine cG (a9) (λM_ hM_=>(ak (aC EG rfl (cf hM_ aR (by simp)) aa (au rfl)) (by simp only [pS,Value.cells,Nat.reduceAdd,jZ]<;>rfl))) trivial trivial ?_;refine pF (1) (λM_ hM_=>(nw (u4 rfl av) (u2 rfl aa) rfl rfl (cf hM_ bx (by simp)) ij rfl (au rfl))) trivial trivial ⟨.inl (by simp<;>omega),⟨.inl (by simp<;>omega),trivial⟩⟩ (λcW aD=>?_);have bz:=bk aD bx;simp only [pS,Value.cells,Nat.reduceAdd,jZ]at bz;have cy:=ao aD aR (by omega);have cz:=ao aD ca (by decide);have cA:=bc aD cx;clear aD aR bx ca;refine gj rfl ?_;refine ar (aw (ay aa)) rfl<|aY (ae rfl (ay (u4 rfl av))) aa ?_;clear bu bv av aP bo bq;intro cX cb cc
    refine ai<|aX<|de<|bO<|bO<|de<|bO<|dX (.inr rfl) (by kernel_rfl) (eb cb bz xN (au rfl) (by simp)) (aS cc) (eV (.ro _ rfl)) (.ro _ rfl) ?_
    clear cb cc bz cy cz cA
    (rw [hr i.toNat (by omega) p3 (by assumption)];rfl)
   replace az:=dG az;refine br<|cv<|ai<|at_ ?_
   (refine ar (cj bu al ?_) rfl ?_; · (unfold In64;omega))
   refine ar (ah aa) rfl<|aZ (u2 rfl av) (u2 rfl bo) (u2 rfl bq) aa ?_;clear bu bv av aP bo bq;intro cY cB cC cD cE
   refine ai<|⟨_,⟨cE,(cB.trans bK.symm),(cC.trans bL.symm),(cD.trans bM.symm),(bg.trans a3.symm),(bh.trans a5.symm),⟨_,aO,by omega⟩,?_⟩,?_⟩
   ·(refine⟨by omega,by omega,λj hj=>?_⟩;by_cases hji:j<i.toNat;(exact p3 j hji);(rw [show j=i.toNat by omega];assumption))
   ·((try dsimp only);omega)
  replace am:=bf am;refine dD<|b7<|b7<|dC<|ai<|aj<|at_<|ar (dz bY kB kA kz rfl) rfl ?_
  refine aL (bN (ae rfl af) aa rfl rfl ad ij rfl (au rfl)) trivial rfl (λcZ aT=>?_);have bA:=bk aT ad;simp only [pS,Value.cells,Nat.reduceAdd,jZ]at bA;have cF:=ao aT aG (by decide);have cH:=bc aT aF;clear aT ad aG;refine ar (aw al) rfl<|aY (ae rfl (ay (ae rfl af))) aa ?_;clear aK be af aH bb;intro c6 cd ce
  refine ai<|aX<|dX (.inr rfl) (by kernel_rfl) (eb cd bA xN (au rfl) (by simp)) (aS ce) (eV (.ro _ rfl)) (.ro _ rfl) ?_
  clear cd ce bA cF cH
  (rw [hr0 (λj hj=>p3 j (by omega))];rfl)
def iM:List ((Int×Int)×Int)->(Int×Int)×Int
 | []=>((0,0),0)
 | r::rs=>if r.2=0 then iM rs else r
theorem EH:∀ {rs:List ((Int×Int)×Int)} {i:Nat},i<rs.length->(∀ j:Nat,j<i->(rs.getD j default).2=0)->(rs.getD i default).2≠0->iM rs=rs.getD i default
 | [],_,h,_,_=>absurd h (by simp)
 | r::rs,0,_,_,h=>by
  have h:r.2≠0:=h;simp only [iM];rw [if_neg h];rfl
 | r::rs,i+1,hi,hn,h=>by
  have h0:r.2=0:=hn 0 (by omega);simp only [iM];rw [if_pos h0];exact EH (rs:=rs) (i:=i) (by simpa using hi) (λj hj=>hn (j+1) (by omega)) h
theorem AN:∀ {rs:List ((Int×Int)×Int)},(∀ j:Nat,j<rs.length->(rs.getD j default).2=0)->iM rs=((0,0),0)
 | [],_=>rfl
 | r::rs,h=>by
  have h0:r.2=0:=h 0 (by simp);simp only [iM];rw [if_pos h0];exact AN (rs:=rs) (λj hj=>h (j+1) (by simpa using hj))
theorem qQ{f:Nat->Int}:∀ {n i:Nat},fN f n=some i->f i≠0/\i<n
 | 0,i,h=>by simp [fN]at h
 | n+1,i,h=>by
  simp only [fN]at h;cases hq:fN f n with
  | some k=>
   rw [hq]at h;cases h;have:=qQ hq;exact⟨this.1,by omega⟩
  | none=>
   rw [hq]at h
   by_cases hz:f n=0
   ·simp [hz]at h
   ·simp [hz]at h;subst h;exact⟨hz,by omega⟩
theorem tY(b:Bool)(er:Int)(he:er≠0)(rs:List ((Int×Int)×Int)):iM (((0,0),dB b er)::rs)=if b then iM rs else((0,0),er):=by
 cases b
 ·simp only [iM,dB];simp [he]
 ·simp only [iM,dB];simp
theorem xO(k:Int)(f:Nat->Int)(n:Nat)(rs:List ((Int×Int)×Int)):iM (kO k f n::rs)=iK k f n (iM rs):=by
 unfold kO iK;cases h:fN f n with
 | none=>simp only [iM];simp
 | some i=>simp only [iM];rw [if_neg (qQ h).1]
theorem CH(l:aU):b9 l=iM (jL l):=by
 unfold jL;rw [tY _ _ (by decide),tY _ _ (by decide),tY _ _ (by decide),xO,xO,tY _ _ (by decide),xO];unfold b9;cases dn l.nam
 ·rfl
 ·by_cases h2:l.bs.length=0\/l.js.length≠l.bs.length+1
  ·simp only [Bool.not_true,Tn,if_false,if_true];rw [if_pos h2,decide_eq_false (by omega)];rfl
  ·simp only [Bool.not_true,Tn,if_false,if_true];rw [if_neg h2,decide_eq_true (p:=(0:Int)<l.bs.length/\(l.js.length:Int)=l.bs.length+1) (by omega)]
   by_cases h3:40<l.bs.length
   ·rw [if_pos h3,decide_eq_false (p:=(l.bs.length:Int)<=40) (by omega)];rfl
   ·rw [if_neg h3,decide_eq_true (p:=(l.bs.length:Int)<=40) (by omega)];simp only [if_true]
    congr 2
    by_cases h4:4<l.ss.length
    ·rw [if_pos h4,decide_eq_false (p:=(l.ss.length:Int)<=4) (by omega)];rfl
    ·rw [if_neg h4,decide_eq_true (p:=(l.ss.length:Int)<=4) (by omega)];rfl
theorem Hv(l:aU)(hl:eE l)(hsw:l.js.length=l.bs.length+1-> ∀ i:Int,0<=i->i<l.ss.length->bF Tryz.prog 117 [mA i,.ref (kf l)] (λq=>q=mA (fq l i.toNat))):bF Tryz.prog 70 [ep l] (λq=>q= .tuple [.agg [mA (b9 l).1.1,mA (b9 l).1.2],mA (b9 l).2]):=
 Hu l hl (b9 l) (λi hi h1 h2=>(CH l).trans (EH (rs:=jL l) hi h1 h2)) (λh=>(CH l).trans (AN (rs:=jL l) h)) (Q8 l hl hsw)
theorem EI:bI Tryz.prog 85 3 1 8 (.int .i64 0):=⟨by kernel_rfl,by kernel_rfl,by kernel_rfl⟩
theorem uM:aN Tryz.prog 3 false 1:=⟨by kernel_rfl,by kernel_rfl⟩
theorem EJ:aN Tryz.prog 85 false 1:=⟨by kernel_rfl,by kernel_rfl⟩
theorem FP:aN Tryz.prog 9 false 1:=⟨by kernel_rfl,by kernel_rfl⟩
theorem HU(o s:eu):bF Tryz.prog 131 [.agg (aK o),.ref (aK s)] (λq=>q=dH (o.nam.toList==s.nam.toList)):=by
 refine ck (fn:=Tryz.f131) 9 (by kernel_rfl) rfl (by kernel_rfl) (S8 rfl) ?_;intro am az hA an;have ao:ag am (.tmp 0)=_:=hA 0 _ rfl;have ap:ag am (.tmp 1)=_:=hA 1 _ rfl;have ab:az.length=0:=by rw [an];rfl
 clear hA an;refine aj<|at_<|aL (dO ao rfl ab) trivial rfl (λaA ad=>?_)
 have af:=bH ad ab;simp only [pS,Value.cells,Nat.reduceAdd,aK]at af;have ah:=bG ad ab;have ah:_=1:=ah;clear ad;refine ar (aw al) rfl<|aY (u2 rfl ap) (ae rfl aa) ?_;clear ao ap;intro aD av ax
 refine ai<|aj<|at_<|ar (aB kj rfl ax) rfl<|ar (ak (aC FP rfl af aa (au rfl)) (by simp only [pS,Value.cells,Nat.reduceAdd,aK]<;>rfl)) rfl ?_
 refine ar (ak (bR kj rfl (u2 rfl av)) (by simp only [pS,Value.cells,Nat.reduceAdd,aK]<;>rfl)) rfl ?_;refine ar (ak (bw FP rfl aa (au rfl)) (by simp only [pS,Value.cells,Nat.reduceAdd,aK]<;>rfl)) rfl ?_;refine ar (eG (u2 rfl aa) aa) rfl<|ar (aw aa) rfl<|aT aa ?_;clear av ax;intro aE ay
 refine ai<|aX<|bK (.inr rfl) (by kernel_rfl) (aS ay) (.ro _ rfl) ?_
 clear ay af ah;rfl
theorem MO(o s:eu)(ho:o.acr.length<=1000000)(hs:s.acr.length<=1000000):bF Tryz.prog 132 [.agg (aK o),.ref (aK s)] (λq=>q=dH (gR s o)):=by
 refine ck (fn:=Tryz.f132) 24 (by kernel_rfl) rfl (by kernel_rfl) (S8 rfl) ?_;intro ax aH hA ay;have aD:ag ax (.tmp 0)=_:=hA 0 _ rfl;have aE:ag ax (.tmp 1)=_:=hA 1 _ rfl;have ap:aH.length=0:=by rw [ay];rfl
 clear hA ay;refine aj<|at_<|aL (dO aD rfl ap) trivial rfl (λaI av=>?_)
 have ad:=bH av ap;simp only [pS,Value.cells,Nat.reduceAdd,aK]at ad;have ao:=bG av ap;have ao:_=1:=ao;clear av;refine ar (aw al) rfl<|aY (u2 rfl aE) (ae rfl aa) ?_;clear aD aE;intro aJ af am
 refine ai<|aj<|at_<|ar (ak (bR hU rfl af) (by simp only [pS,Value.cells,Nat.reduceAdd,aK]<;>rfl)) rfl ?_
 refine ar (ak (bw uM rfl aa (au rfl)) (by simp only [pS,Value.cells,Nat.reduceAdd,aK]<;>rfl)) rfl ?_;refine ar (aB hU rfl (u2 rfl am)) rfl<|ar (ak (aC uM rfl ad aa (au rfl)) (by simp only [pS,Value.cells,Nat.reduceAdd,aK]<;>rfl)) rfl ?_
 refine ar (aB fZ rfl (u4 rfl am)) rfl<|ar (ak (aC EJ rfl ad aa (au rfl)) (by simp only [pS,Value.cells,Nat.reduceAdd,aK]<;>rfl)) rfl ?_
 refine ar (ak (bW aa rfl EI.1) (by simp only [bn]<;>rfl)) rfl ?_;refine ar (pD (ae rfl (u2 rfl aa)) aa) rfl<|ar (cL (u2 rfl (u4 rfl aa)) aa) rfl<|ar (ah aa) rfl<|bM aa (λab an=>?_) (λab an=>?_)
 ·replace an:=bt an;refine aA (aB hU rfl (u2 rfl (u8 rfl am))) ⟨_,rfl,ab⟩ rfl ?_;refine aA (ak (aC uM rfl ad aa (au rfl)) (by simp only [pS,Value.cells,Nat.reduceAdd,aK]<;>rfl)) ⟨_,rfl,(ae rfl ab)⟩ rfl ?_;refine aA (ak (bR hU rfl (u4 rfl (u8 rfl af))) (by simp only [pS,Value.cells,Nat.reduceAdd,aK]<;>rfl)) ⟨_,rfl,(u2 rfl ab)⟩ rfl ?_;refine aA (ak (bw uM rfl aa (au rfl)) (by simp only [pS,Value.cells,Nat.reduceAdd,aK]<;>rfl)) ⟨_,rfl,(ae rfl (u2 rfl ab))⟩ rfl ?_;refine aA (ak (bR fZ rfl (u2 rfl (u4 rfl (u8 rfl af)))) (by simp only [pS,Value.cells,Nat.reduceAdd,aK]<;>rfl)) ⟨_,rfl,(u4 rfl ab)⟩ rfl ?_;refine aA (ak (bw EJ rfl aa (au rfl)) (by simp only [pS,Value.cells,Nat.reduceAdd,aK]<;>rfl)) ⟨_,rfl,(ae rfl (u4 rfl ab))⟩ rfl ?_;refine aA (ak (bW aa rfl EI.1) (by simp only [bn]<;>rfl)) ⟨_,rfl,(u2 rfl (u4 rfl ab))⟩ rfl ?_;refine aA (pD (ae rfl (u2 rfl aa)) aa) ⟨_,rfl,(ae rfl (u2 rfl (u4 rfl ab)))⟩ rfl ?_;refine aA (cL (u2 rfl (u4 rfl aa)) aa) ⟨_,rfl,(u8 rfl ab)⟩ rfl ?_;refine ar (bD (ae rfl (u8 rfl ab)) aa) rfl<|ar (aw aa) rfl<|aT aa ?_;clear ab af am;intro aM aF
  refine ai<|aX<|bK (.inr rfl) (by kernel_rfl) (aS aF) (.ro _ rfl) ?_
  clear aF ad ao
  (refine cJ ?_;simp only [gR,decide_eq_true_eq,Tn,true_iff,false_iff, <- wrap_eq];omega)
 replace an:=bf an;refine az ⟨_,rfl,.inl ab⟩ rfl ?_;refine az ⟨_,rfl,.inl (ae rfl ab)⟩ rfl ?_;refine az ⟨_,rfl,.inl (u2 rfl ab)⟩ rfl ?_;refine az ⟨_,rfl,.inl (ae rfl (u2 rfl ab))⟩ rfl ?_;refine az ⟨_,rfl,.inl (u4 rfl ab)⟩ rfl ?_;refine az ⟨_,rfl,.inl (ae rfl (u4 rfl ab))⟩ rfl ?_;refine az ⟨_,rfl,.inl (u2 rfl (u4 rfl ab))⟩ rfl ?_;refine az ⟨_,rfl,.inl (ae rfl (u2 rfl (u4 rfl ab)))⟩ rfl ?_;refine az ⟨_,rfl,.inl (u8 rfl ab)⟩ rfl ?_;refine ar (bJ (ae rfl (u8 rfl ab)) al) rfl<|ar (aw aa) rfl<|aT aa ?_;clear ab af am;intro aN aG
 refine ai<|aX<|bK (.inr rfl) (by kernel_rfl) (aS aG) (.ro _ rfl) ?_
 clear aG ad ao
 (refine cJ ?_;simp only [gR,decide_eq_true_eq,Tn,true_iff,false_iff, <- wrap_eq];omega)
theorem Hw(n:Int):bF Tryz.prog 134 [mA n] (λq=>q=dH (!eC n 20000)):=by
 refine ck (fn:=Tryz.f134) 6 (by kernel_rfl) rfl (by kernel_rfl) (S8 rfl) ?_;intro am an hA ab;have ad:ag am (.tmp 0)=_:=hA 0 _ rfl;have ao:an.length=0:=by rw [ab];rfl
 clear hA ab;refine aj<|at_<|ar (aw al) rfl<|aT (ae rfl ad) ?_;clear ad;intro ap af
 refine ai<|aj<|at_<|ar (ah af) rfl<|ar (bj (ax aa aI) rfl (vK n) xm) rfl<|ar (di aa) rfl<|ar (aw aa) rfl<|aT aa ?_;clear af;intro au ak
 refine ai<|aX<|bK (.inr rfl) (by kernel_rfl) (aS ak) (.ro _ rfl) ?_
 clear ak ao;rfl
theorem JC:∀ args w,(callFunc 134 args).run Tryz.prog w= .ok (.enter 134 args) w:=λ_ _=>by kernel_rfl
theorem JD:∀ args w,(callFunc 142 args).run Tryz.prog w= .ok (.enter 142 args) w:=λ_ _=>by kernel_rfl
theorem JE:∀ args w,(callFunc 143 args).run Tryz.prog w= .ok (.enter 143 args) w:=λ_ _=>by kernel_rfl
theorem EK:bI Tryz.prog 25 97 3 48 (.agg #[.string ByteArray.empty,.int .i64 0,.slice none 0 0]):=⟨by kernel_rfl,by kernel_rfl,by kernel_rfl⟩
theorem EL:bI Tryz.prog 85 3 1 8 (.int .i64 0):=⟨by kernel_rfl,by kernel_rfl,by kernel_rfl⟩
theorem Q9:aN Tryz.prog 3 false 1:=⟨by kernel_rfl,by kernel_rfl⟩
theorem PT:aN Tryz.prog 97 true 3:=⟨by kernel_rfl,by kernel_rfl⟩
def mT{α:Type}(p:α->Bool)(l:List α):Int:=match l.findIdx? p with
 | some i=>i
 | none=> -1
theorem CJ{α:Type}[Inhabited α]{g:α->Bool}{l:List α}{i:Nat}(hi:i<l.length)(h:g (l.getD i default)=true)(hn:∀ j:Nat,j<i->g (l.getD j default)=false):mT g l=i:=by
 have e:∀ j,(hj:j<l.length)->l.getD j default=l[j]:=λj hj=>by simp [Ta,hj]
 unfold mT;rw [show l.findIdx? g=some i from List.findIdx?_eq_some_iff_getElem.2 ⟨hi,by rw [<- e i hi,h],λj hj=>by rw [<- e j (by omega),hn j hj];decide⟩]
theorem AO{α:Type}[Inhabited α]{g:α->Bool}{l:List α}(hn:∀ j:Nat,j<l.length->g (l.getD j default)=false):mT g l= -1:=by
 unfold mT;rw [List.findIdx?_eq_none_iff.2 λx hx=>by
  obtain⟨j,hj,rfl⟩:=T0 hx;have:=hn j hj
  rwa [Ta,Tc hj]at this]
theorem CL{α:Type}(g:α->Bool)(l:List α):(0<=mT g l)↔l.any g=true:=by
 unfold mT;rw [Uo];cases h:l.findIdx? g with
 | none=>
  rw [List.findIdx?_eq_none_iff]at h;refine⟨λq=>absurd q (by decide),λ⟨x,hx,hg⟩=>?_⟩;rw [h x hx]at hg;cases hg
 | some i=>
  obtain⟨hi,h1,_⟩:=List.findIdx?_eq_some_iff_getElem.1 h;exact⟨λ_=>⟨_,Um hi,h1⟩,λ_=>by show(0:Int)<=(i:Int);omega⟩
theorem JF(ss:List eu)(c:AV)(p:eu->Bool)(hl:ss.length<=1000000)(hc:∀ i:Nat,i<ss.length->lZ Tryz.prog c [.agg (aK (ss.getD i default))] (λq=>q=dH (p (ss.getD i default)))):
 bF Tryz.prog 142 [.row 3 (ss.map aK),c] (λq=>q=mA (mT p ss)):=by
 refine ck (fn:=Tryz.f142) 19 (by kernel_rfl) rfl (by kernel_rfl) (S8 rfl) ?_;intro aM a9 hA aN;have aO:ag aM (.tmp 0)=_:=hA 0 _ rfl;have aP:ag aM (.tmp 1)=_:=hA 1 _ rfl;have ba:a9.length=0:=by rw [aN];rfl
 clear hA aN;refine aj<|at_<|ar (aw al) rfl<|aY (ae rfl aO) (ae rfl aP) ?_;clear aO aP;intro bp af aQ
 refine ai<|aj<|aj<|at_<|ar (ah af) rfl<|ar (ak (bW aa rfl EK.1) (by simp only [bn]<;>rfl)) rfl ?_
 refine ar (ah al) rfl<|aZ (ae rfl (u2 rfl af)) (ae rfl (u2 rfl aQ)) (ae rfl aa) aa ?_;clear af aQ;intro am aR aU aV bb
 refine ai<|bP<|dN (S:=Int) (λi e mem=>(ag e (.tmp 8)= .v (.int .i64 i))/\(ag e (.tmp 0)=ag am (.tmp 0))/\(ag e (.tmp 1)=ag am (.tmp 1))/\(ag e (.tmp 7)=ag am (.tmp 7))/\(mem.length=0)/\((0<=i/\i<=ss.length/\ ∀ j:Nat,j<i.toNat->p (ss.getD j default)=false))) (λi=>(ss.length - i).toNat) _ ⟨bb,rfl,rfl,rfl,ba,?_⟩ ?_
 ·(exact⟨by omega,by omega,λj h=>absurd h (by omega)⟩)
 ·rintro i bq bu ⟨an,bc,be,bg,ao,hinv⟩;have a2:=bc.trans aR;have a3:=be.trans aU;have ap:=bg.trans aV
  (obtain⟨p1,p2,p3⟩:=hinv)
  refine aj<|at_<|ar (cL an ap) rfl<|bV (ae rfl a2) (ae rfl a3) (ae rfl ap) (ae rfl an) aa ?_;clear a2 a3 ap an;intro bv av ay az ad aA
  refine ai<|aj<|aW aA (λab=>?_) (λab=>?_)
  ·replace ab:=bt ab;refine br<|ai<|aj<|bP<|aj<|at_<|ar (ah ad) rfl<|ar (aw aa) rfl<|bV (u2 rfl av) (u2 rfl ay) aa (u2 rfl az) (u2 rfl ad) ?_;clear av ay az ad aA;intro bx aB aC aD a5 a6
   refine ai<|aj<|at_<|ar (ah aC) rfl<|ar (ah (ae rfl aB)) rfl<|ar (ah (u2 rfl aD)) rfl<|ar (ak (cr EK (ae rfl aa) aa (by omega) (by(refine cP ?_;omega))) (by rfl)) rfl ?_
   refine ar (ak (bw PT rfl aa (au rfl)) (by simp only [pS,Value.cells,Nat.reduceAdd]<;>rfl)) rfl ?_;refine ar (BG (u4 rfl aa) (ax aa aI) rfl (hc i.toNat (by omega))) rfl ?_;refine ei (u2 rfl (u4 rfl aB)) (u2 rfl (u4 rfl aC)) (u2 rfl (u4 rfl aD)) (u2 rfl (u4 rfl a5)) (u2 rfl (u4 rfl a6)) aa ?_;clear aB aC aD a5 a6;intro bz aE aF aG aH aJ aL;refine ai<|aW aL (λbh=>?_) (λbh=>?_)
   ·skip;refine aj<|at_<|ar (ah aG) rfl<|ar (aw aa) rfl<|aT aa ?_;clear aE aL aF aG aH aJ;intro bA a7
    refine ai<|aX<|de<|bO<|bO<|de<|bO<|bK (.inr rfl) (by kernel_rfl) (aS a7) (.ro _ rfl) ?_
    clear a7 ao
    (rw [CJ (i:=i.toNat) (by omega) (by assumption) p3,UF p1])
   refine br<|cv<|ai<|at_ ?_
   (refine ar (cj aJ al ?_) rfl ?_; · (unfold In64;omega))
   refine ar (ah aa) rfl<|aZ (u2 rfl aE) (u2 rfl aF) (u2 rfl aH) aa ?_;clear aE aL aF aG aH aJ;intro bB bj bk bm bo
   refine ai<|⟨_,⟨bo,(bj.trans aR.symm),(bk.trans aU.symm),(bm.trans aV.symm),ao,?_⟩,?_⟩
   ·(refine⟨by omega,by omega,λj hj=>?_⟩;by_cases hji:j<i.toNat;(exact p3 j hji);(rw [show j=i.toNat by omega];assumption))
   ·((try dsimp only);omega)
  replace ab:=bf ab;refine dD<|b7<|b7<|dC<|ai<|aj<|at_<|ar (aw al) rfl<|aT aa ?_;clear av ay az ad aA;intro bC a8
  refine ai<|aX<|bK (.inr rfl) (by kernel_rfl) (aS a8) (.ro _ rfl) ?_
  clear a8 ao
  (rw [AO (λj hj=>p3 j (by omega))])
theorem zJ(ss:List eu)(c:AV)(p:eu->Bool)(hro:cm c=true)(hl:ss.length<=1000000)(hc:∀ i:Nat,i<ss.length->lZ Tryz.prog c [.agg (aK (ss.getD i default))] (λq=>q=dH (p (ss.getD i default)))):
 bF Tryz.prog 130 [.row 3 (ss.map aK),c] (λq=>q=dH (ss.any p)):=by
 refine ck (fn:=Tryz.f130) 9 (by kernel_rfl) rfl (by kernel_rfl) (S8 rfl) ?_;intro ab ap hA ad;have af:ag ab (.tmp 0)=_:=hA 0 _ rfl;have ak:ag ab (.tmp 1)=_:=hA 1 _ rfl;have au:ap.length=0:=by rw [ad];rfl
 clear hA ad;refine aj<|at_<|ar (aw al) rfl<|aY (ae rfl af) (ae rfl ak) ?_;clear af ak;intro av am an
 refine ai<|aj<|at_<|ar (ah am) rfl<|ar (ah (ae rfl an)) rfl<|ar (bj (ax (ae rfl aa) (ax aa aI)) (by(simp only [cm.roL,cm,Bool.and_true,U2];assumption)) (JF ss c p hl hc) JD) rfl ?_
 refine ar (lP aa al) rfl<|ar (aw aa) rfl<|aT aa ?_;clear am an;intro ay ao
 refine ai<|aX<|bK (.inr rfl) (by kernel_rfl) (aS ao) (.ro _ rfl) ?_
 clear ao au
 (refine cJ ?_;simp only [decide_eq_true_eq,CL])
theorem JG(l:List Int)(hl:l.length<=1000000):bF Tryz.prog 143 [.row 1 (l.map iE),.v (.func (.func 134) #[] #[])] (λq=>q=mA (mT (λn=> !eC n 20000) l)):=by
 refine ck (fn:=Tryz.f143) 19 (by kernel_rfl) rfl (by kernel_rfl) (S8 rfl) ?_;intro aM a9 hA aN;have aO:ag aM (.tmp 0)=_:=hA 0 _ rfl;have aP:ag aM (.tmp 1)=_:=hA 1 _ rfl;have ba:a9.length=0:=by rw [aN];rfl
 clear hA aN;refine aj<|at_<|ar (aw al) rfl<|aY (ae rfl aO) (ae rfl aP) ?_;clear aO aP;intro bo am aQ
 refine ai<|aj<|aj<|at_<|ar (ah am) rfl<|ar (ak (bW aa rfl EL.1) (by simp only [bn]<;>rfl)) rfl ?_
 refine ar (ah al) rfl<|aZ (ae rfl (u2 rfl am)) (ae rfl (u2 rfl aQ)) (ae rfl aa) aa ?_;clear am aQ;intro an aR aU aV bb
 refine ai<|bP<|dN (S:=Int) (λi e mem=>(ag e (.tmp 8)= .v (.int .i64 i))/\(ag e (.tmp 0)=ag an (.tmp 0))/\(ag e (.tmp 1)=ag an (.tmp 1))/\(ag e (.tmp 7)=ag an (.tmp 7))/\(mem.length=0)/\((0<=i/\i<=l.length/\ ∀ j:Nat,j<i.toNat->(!eC (l.getD j default) 20000)=false))) (λi=>(l.length - i).toNat) _ ⟨bb,rfl,rfl,rfl,ba,?_⟩ ?_
 ·(exact⟨by omega,by omega,λj h=>absurd h (by omega)⟩)
 ·rintro i bp bq ⟨ao,bc,be,bg,ap,hinv⟩;have a2:=bc.trans aR;have a3:=be.trans aU;have av:=bg.trans aV
  (obtain⟨p1,p2,p3⟩:=hinv)
  refine aj<|at_<|ar (cL ao av) rfl<|bV (ae rfl a2) (ae rfl a3) (ae rfl av) (ae rfl ao) aa ?_;clear a2 a3 av ao;intro bu ay az aA af aB
  refine ai<|aj<|aW aB (λab=>?_) (λab=>?_)
  ·replace ab:=bt ab;refine br<|ai<|aj<|bP<|aj<|at_<|ar (ah af) rfl<|ar (aw aa) rfl<|bV (u2 rfl ay) (u2 rfl az) aa (u2 rfl aA) (u2 rfl af) ?_;clear ay az aA af aB;intro bv aC aD aE a5 a6
   refine ai<|aj<|at_<|ar (ah aD) rfl<|ar (ah (ae rfl aC)) rfl<|ar (ah (u2 rfl aE)) rfl<|ar (ak (cr EL (ae rfl aa) aa (by omega) (by(refine cP ?_;omega))) (by simp only [pS,Value.cells,Nat.reduceAdd]<;>rfl)) rfl ?_
   refine ar (ak (bw Q9 rfl aa (au rfl)) (by simp only [pS,Value.cells,Nat.reduceAdd]<;>rfl)) rfl ?_;refine ar (iQ (u4 rfl aa) (ax aa aI) rfl (Hw _) JC) rfl<|ei (u2 rfl (u4 rfl aC)) (u2 rfl (u4 rfl aD)) (u2 rfl (u4 rfl aE)) (u2 rfl (u4 rfl a5)) (u2 rfl (u4 rfl a6)) aa ?_;clear aC aD aE a5 a6;intro bx aF aG aH aJ aK aL
   refine ai<|aW aL (λad=>?_) (λad=>?_)
   ·replace ad:=cV ad;refine aj<|at_<|ar (ah aH) rfl<|ar (aw aa) rfl<|aT aa ?_;clear aF aL aG aH aJ aK;intro bz a7
    refine ai<|aX<|de<|bO<|bO<|de<|bO<|bK (.inr rfl) (by kernel_rfl) (aS a7) (.ro _ rfl) ?_
    clear a7 ap
    (rw [CJ (i:=i.toNat) (by omega) (by rw [‹eC _ _=false›];rfl) p3,UF p1])
   replace ad:=dj ad;refine br<|cv<|ai<|at_ ?_
   (refine ar (cj aK al ?_) rfl ?_; · (unfold In64;omega))
   refine ar (ah aa) rfl<|aZ (u2 rfl aF) (u2 rfl aG) (u2 rfl aJ) aa ?_;clear aF aL aG aH aJ aK;intro bA bh bj bk bm
   refine ai<|⟨_,⟨bm,(bh.trans aR.symm),(bj.trans aU.symm),(bk.trans aV.symm),ap,?_⟩,?_⟩
   ·(refine⟨by omega,by omega,λj hj=>?_⟩;by_cases hji:j<i.toNat;(exact p3 j hji);(rw [show j=i.toNat by omega];rw [‹eC _ _=true›];rfl))
   ·((try dsimp only);omega)
  replace ab:=bf ab;refine dD<|b7<|b7<|dC<|ai<|aj<|at_<|ar (aw al) rfl<|aT aa ?_;clear ay az aA af aB;intro bB a8
  refine ai<|aX<|bK (.inr rfl) (by kernel_rfl) (aS a8) (.ro _ rfl) ?_
  clear a8 ap
  (rw [AO (λj hj=>p3 j (by omega))])
theorem Hy(l:List Int)(hl:l.length<=1000000):bF Tryz.prog 133 [.row 1 (l.map iE),.v (.func (.func 134) #[] #[])] (λq=>q=dH (l.any (λn=> !eC n 20000))):=by
 refine ck (fn:=Tryz.f133) 9 (by kernel_rfl) rfl (by kernel_rfl) (S8 rfl) ?_;intro ab ap hA ad;have af:ag ab (.tmp 0)=_:=hA 0 _ rfl;have ak:ag ab (.tmp 1)=_:=hA 1 _ rfl;have au:ap.length=0:=by rw [ad];rfl
 clear hA ad;refine aj<|at_<|ar (aw al) rfl<|aY (ae rfl af) (ae rfl ak) ?_;clear af ak;intro av am an
 refine ai<|aj<|at_<|ar (ah am) rfl<|ar (ah (ae rfl an)) rfl<|ar (bj (ax (ae rfl aa) (ax aa aI)) rfl (JG l hl) JE) rfl<|ar (lP aa al) rfl<|ar (aw aa) rfl<|aT aa ?_;clear am an;intro ay ao
 refine ai<|aX<|bK (.inr rfl) (by kernel_rfl) (aS ao) (.ro _ rfl) ?_
 clear ao au
 (refine cJ ?_;simp only [decide_eq_true_eq,CL])
theorem JH:∀ args w,(callFunc 118 args).run Tryz.prog w= .ok (.enter 118 args) w:=λ_ _=>by kernel_rfl
theorem AP:∀ args w,(callFunc 130 args).run Tryz.prog w= .ok (.enter 130 args) w:=λ_ _=>by kernel_rfl
theorem JI:∀ args w,(callFunc 133 args).run Tryz.prog w= .ok (.enter 133 args) w:=λ_ _=>by kernel_rfl
theorem MP:bI Tryz.prog 153 30 1 8 (.int .i64 0):=⟨by kernel_rfl,by kernel_rfl,by kernel_rfl⟩
theorem EM:bI Tryz.prog 23 59 4 32 (.agg #[.int .i64 0,.int .i64 0,.int .i64 0,.int .i64 0]):=⟨by kernel_rfl,by kernel_rfl,by kernel_rfl⟩
theorem EN:bI Tryz.prog 25 97 3 48 (.agg #[.string ByteArray.empty,.int .i64 0,.slice none 0 0]):=⟨by kernel_rfl,by kernel_rfl,by kernel_rfl⟩
theorem EO:bI Tryz.prog 85 3 1 8 (.int .i64 0):=⟨by kernel_rfl,by kernel_rfl,by kernel_rfl⟩
theorem EP:aN Tryz.prog 23 false 1:=⟨by kernel_rfl,by kernel_rfl⟩
theorem ER:aN Tryz.prog 25 false 1:=⟨by kernel_rfl,by kernel_rfl⟩
theorem PU:aN Tryz.prog 27 true 4:=⟨by kernel_rfl,by kernel_rfl⟩
theorem FQ:aN Tryz.prog 3 false 1:=⟨by kernel_rfl,by kernel_rfl⟩
theorem xP:aN Tryz.prog 85 false 1:=⟨by kernel_rfl,by kernel_rfl⟩
theorem Rb:aN Tryz.prog 9 false 1:=⟨by kernel_rfl,by kernel_rfl⟩
theorem PV:aN Tryz.prog 97 true 3:=⟨by kernel_rfl,by kernel_rfl⟩
theorem fk{α:Type}(f:α->List AV)(l:List α)(a:Nat):(l.map f).take a=(l.take a).map f:=List.map_take.symm
theorem Re(o s:eu):lZ Tryz.prog (.clo (.func 131) [] [.ref (aK s)]) [.agg (aK o)] (λq=>q=dH (o.nam.toList==s.nam.toList)):=⟨_,_,_,rfl,rfl,rfl,λ_ _=>by kernel_rfl,HU o s⟩
theorem Rf(o s:eu)(ho:o.acr.length<=1000000)(hs:s.acr.length<=1000000):lZ Tryz.prog (.clo (.func 132) [] [.ref (aK s)]) [.agg (aK o)] (λq=>q=dH (gR s o)):=⟨_,_,_,rfl,rfl,rfl,λ_ _=>by kernel_rfl,MO o s ho hs⟩
theorem HV(ss:List eu)(k:Nat)(s:eu)(hl:(ss.take k).length <=1000000):bF Tryz.prog 130 [.row 3 ((ss.map aK).take k),.clo (.func 131) [] [.ref (aK s)]] (λq=>q=dH ((ss.take k).any (λo=>o.nam.toList==s.nam.toList))):=by
 rw [fk];exact zJ (ss.take k) _ _ rfl hl λj _=>Re ((ss.take k).getD j default) s
theorem HW(ss:List eu)(k:Nat)(s:eu)(hl:(ss.take k).length <=1000000)(ho:∀ j:Nat,((ss.take k).getD j default).acr.length <=1000000)(hs:s.acr.length<=1000000):bF Tryz.prog 130 [.row 3 ((ss.map aK).take k),.clo (.func 132) [] [.ref (aK s)]] (λq=>q=dH ((ss.take k).any (λo=>gR s o))):=by
 rw [fk];exact zJ (ss.take k) _ (λo=>gR s o) rfl hl λj _=>Rf ((ss.take k).getD j default) s (ho j) hs
def pU(l:aU)(s:eu):Bool:=decide (1<=s.fst/\s.fst<=(l.js.length:Int) - 2/\(s.acr.length:Int)<=l.js.length - 1 - s.fst)
theorem Rh{l:aU}{s:eu}(hj:l.js.length=l.bs.length+1)(h0:s.acr.length≠0):pU l s=dh s.fst 1 (l.bs.length - s.acr.length):=by
 rw [UC];simp only [pU,dh,Ti,decide_eq_true_eq];omega
theorem JK{l:aU}{i:Nat}(hj:l.js.length=l.bs.length+1):iG [dB (dn (l.ss.getD i default).nam) 4,dB (!(l.ss.take i).any (λo=>o.nam.toList==(l.ss.getD i default).nam.toList)) 5,dB (decide ((0:Int)<(l.ss.getD i default).acr.length)) 10,dB (pU l (l.ss.getD i default)) 6,
 dB (!(l.ss.getD i default).acr.any (λn=> !eC n 20000)) 2,dB (!(l.ss.take i).any (λo=>gR (l.ss.getD i default) o)) 13]=fq l i:=by
 unfold fq;generalize l.ss.getD i default=s;generalize (l.ss.take i).any (λo=>o.nam.toList==s.nam.toList)=b1;generalize (l.ss.take i).any (λo=>gR s o)=b2;generalize s.acr.any (λn=> !eC n 20000)=b3
 by_cases h0:s.acr.length=0
 ·rw [decide_eq_false (p:=(0:Int)<s.acr.length) (by omega),if_pos h0];cases dn s.nam<;>cases b1<;>simp [iG,dB]
 ·rw [decide_eq_true (p:=(0:Int)<s.acr.length) (by omega),if_neg h0,Rh hj h0];cases dn s.nam<;>cases b1<;>cases dh s.fst 1 (l.bs.length - s.acr.length)<;>cases b3<;>cases b2<;>simp [iG,dB]
theorem II(l:aU)(hl:eE l)(hj:l.js.length=l.bs.length+1)(i:Int)(hi:0<=i/\i<l.ss.length):bF Tryz.prog 118 [ep l,mA i] (λq=>q=mA (fq l i.toNat)):=by
 obtain⟨h1,h2,h3,h4,h5⟩:=id hl;have hs:=hl.at i.toNat;have hoat:∀ j:Nat,((l.ss.take i.toNat).getD j default).acr.length <=1000000:=λj=>by
  by_cases hjl:j<(l.ss.take i.toNat).length
  ·exact(h5 _ (Uy (by rw [Ta,Tc hjl];exact Um hjl))).2
  ·rw [Ta,TE (by omega)];decide
 have htl:(l.ss.take i.toNat).length <=1000000:=by rw [T8];omega
 refine ck (fn:=Tryz.f118) 69 (by kernel_rfl) rfl (by kernel_rfl) (S8 rfl) ?_;intro a7 bC hA a8;have a9:ag a7 (.tmp 0)=_:=hA 0 _ rfl;have ba:ag a7 (.tmp 1)=_:=hA 1 _ rfl;have aG:bC.length=0:=by rw [a8];rfl
 clear hA a8;refine aj<|at_<|aL (dO a9 rfl aG) trivial rfl (λb9 aH=>?_)
 have aM:=bH aH aG;have af:=bG aH aG;have af:_=1:=af;clear aH;refine ar (aw al) rfl<|aY (u2 rfl ba) (ae rfl aa) ?_;clear a9 ba;intro ca aN aO
 refine ai<|aj<|at_<|ar (aB eF rfl aO) rfl<|ar (ak (aC ER rfl aM aa (au rfl)) (by simp only [pS,Value.cells,Nat.reduceAdd,aK,fk]<;>rfl)) rfl ?_
 refine ar (ah (u2 rfl aN)) rfl<|ar (ak (cr EN (ae rfl aa) aa (by omega) (by(refine cP ?_;omega))) (by simp only [pS,Value.cells,Nat.reduceAdd,aK,fk]<;>rfl)) rfl ?_
 refine ar (ak (bw PV rfl aa (au rfl)) (by simp only [pS,Value.cells,Nat.reduceAdd,aK,fk]<;>rfl)) rfl ?_;refine aL (cu lU rfl af) trivial rfl (λcb ap=>?_);have av:=bH ap af;simp only [pS,Value.cells,Nat.reduceAdd,aK,fk]at av;have bb:=aJ ap aM;have aP:=bG ap af;have aP:_=2:=aP;clear ap aM;refine aL (bN aa (ae rfl aa) rfl rfl av lV rfl (au rfl)) trivial rfl (λcc aD=>?_);have be:=bk aD av;simp only [pS,Value.cells,Nat.reduceAdd,aK,fk]at be;have bf:=ao aD bb (by decide);have bE:=bc aD aP;clear aD av bb;refine bq (ay (u2 rfl (u4 rfl aN))) (ay (u2 rfl (u4 rfl aO))) (ay aa) ?_;clear aN aO;intro cd bg aQ bh;refine ai<|aj<|at_<|ar (aB eF rfl aQ) rfl<|ar (ak (aC ER rfl bf aa (au rfl)) (by simp only [pS,Value.cells,Nat.reduceAdd,aK,fk]<;>rfl)) rfl ?_
 refine ar (ah (u2 rfl bg)) rfl<|ar (QI EN (ae rfl aa) aa (by omega) (by simp only [bn]<;>omega)) rfl ?_
 refine ar (aw aa) rfl<|bq (ae rfl (u4 rfl aQ)) (ae rfl (u4 rfl bh)) aa ?_;clear bg aQ bh;intro ce bI bL bO
 refine ai<|aj<|Ja bL be (by rfl) (λbP aR aV aE=>?_)
 have aW:=ao aV bf (by decide);have bQ:=bc aV bE;have bm:ag aR (.tmp 2)=_:=(congrArg (λq=>ag q (.tmp 2)) aE).trans (ae rfl bI);have a2:ag aR (.tmp 5)=_:=(congrArg (λq=>ag q (.tmp 5)) aE).trans aa;have a3:ag aR (.tmp 6)=_:=(congrArg (λq=>ag q (.tmp 6)) aE).trans (ae rfl bO);clear aV aE;refine at_<|ar (ah a3) rfl<|ar (jN aI (ax (ae rfl a2) aI)) rfl<|ar (bj (ax (ae rfl aa) (ax aa aI)) rfl (HV l.ss i.toNat (l.ss.getD i.toNat default) htl) AP) rfl<|ar (aw aa) rfl<|aZ (u4 rfl bm) (u4 rfl a2) (u4 rfl a3) aa ?_;clear bm a2 a3;intro a5 bp ad am an
 refine ai<|aj<|gz (λe mem=>(ag e (.tmp 8)= .v (.bool (pU l (l.ss.getD i.toNat default))))/\(ag e (.tmp 5)=ag a5 (.tmp 5))/\(ag e (.tmp 6)=ag a5 (.tmp 6))/\(ag e (.tmp 7)=ag a5 (.tmp 7))/\bP=mem) ?_ ?_
 ·
  refine at_<|ar (ak (bR hU rfl ad) (by simp only [pS,Value.cells,Nat.reduceAdd,aK,fk]<;>rfl)) rfl ?_
  refine ar (ak (bw FQ rfl aa (au rfl)) (by simp only [pS,Value.cells,Nat.reduceAdd,aK,fk]<;>rfl)) rfl ?_;refine ar (aB dW rfl (u2 rfl bp)) rfl<|ar (ak (aC EP rfl aW aa (au rfl)) (by simp only [pS,Value.cells,Nat.reduceAdd,aK,fk]<;>rfl)) rfl ?_
  refine ar (ak (bW aa rfl EM.1) (by simp only [bn]<;>rfl)) rfl ?_
  (refine ar (eL aa al ?_) rfl ?_; · (unfold In64;omega))
  refine ar (bj (ax (u4 rfl aa) (ax al (ax aa aI))) rfl (lF _ _ _) lN) rfl<|ar (ah aa) rfl<|bM aa (λab bS=>?_) (λab bS=>?_)
  ·skip;refine aA (ak (bR fZ rfl (u8 rfl ad)) (by simp only [pS,Value.cells,Nat.reduceAdd,aK,fk]<;>rfl)) ⟨_,rfl,ab⟩ rfl ?_;refine aA (ak (bw xP rfl aa (au rfl)) (by simp only [pS,Value.cells,Nat.reduceAdd,aK,fk]<;>rfl)) ⟨_,rfl,(ae rfl ab)⟩ rfl ?_;refine aA (ak (bW aa rfl EO.1) (by simp only [bn]<;>rfl)) ⟨_,rfl,(u2 rfl ab)⟩ rfl ?_;refine aA (aB dW rfl (ae rfl (u2 rfl (u8 rfl bp)))) ⟨_,rfl,(ae rfl (u2 rfl ab))⟩ rfl ?_;refine aA (ak (aC EP rfl aW aa (au rfl)) (by simp only [pS,Value.cells,Nat.reduceAdd,aK,fk]<;>rfl)) ⟨_,rfl,(u4 rfl ab)⟩ rfl ?_;refine aA (ak (bW aa rfl EM.1) (by simp only [bn]<;>rfl)) ⟨_,rfl,(ae rfl (u4 rfl ab))⟩ rfl ?_
   (refine aA (eL aa al ?_) ⟨_,rfl,(u2 rfl (u4 rfl ab))⟩ rfl ?_; · (unfold In64;omega))
   refine aA (ak (bR hU rfl (ae rfl (u2 rfl (u4 rfl (u8 rfl ad))))) (by simp only [pS,Value.cells,Nat.reduceAdd,aK,fk]<;>rfl)) ⟨_,rfl,(ae rfl (u2 rfl (u4 rfl ab)))⟩ rfl ?_;refine aA (ak (bw FQ rfl aa (au rfl)) (by simp only [pS,Value.cells,Nat.reduceAdd,aK,fk]<;>rfl)) ⟨_,rfl,(u8 rfl ab)⟩ rfl ?_;refine aA (uu (u2 rfl aa) aa) ⟨_,rfl,(ae rfl (u8 rfl ab))⟩ rfl ?_;refine aA (fD (ae rfl (u2 rfl (u4 rfl aa))) aa) ⟨_,rfl,(u2 rfl (u8 rfl ab))⟩ rfl ?_;refine ar (bD (ae rfl (u2 rfl (u8 rfl ab))) aa) rfl<|ar (aw aa) rfl<|aZ (ae rfl (u4 rfl (u16 rfl ad))) (ae rfl (u4 rfl (u16 rfl am))) (ae rfl (u4 rfl (u16 rfl an))) aa ?_;intro cf bT bU bV bX
   refine ai ⟨(bX).trans (by(refine cJ ?_;simp only [pU,dh,wrap_eq,Ti,Bool.and_eq_false_imp,decide_eq_true_eq,decide_eq_false_iff_not,Tn,true_iff,false_iff]at*;(try unfold wrap64 at*);omega)),(bT).trans (ad).symm,(bU).trans (am).symm,(bV).trans (an).symm,rfl⟩
  refine az ⟨_,rfl,.inl ab⟩ rfl ?_;refine az ⟨_,rfl,.inl (ae rfl ab)⟩ rfl ?_;refine az ⟨_,rfl,.inl (u2 rfl ab)⟩ rfl ?_;refine az ⟨_,rfl,.inl (ae rfl (u2 rfl ab))⟩ rfl ?_;refine az ⟨_,rfl,.inl (u4 rfl ab)⟩ rfl ?_;refine az ⟨_,rfl,.inl (ae rfl (u4 rfl ab))⟩ rfl ?_;refine az ⟨_,rfl,.inl (u2 rfl (u4 rfl ab))⟩ rfl ?_;refine az ⟨_,rfl,.inl (ae rfl (u2 rfl (u4 rfl ab)))⟩ rfl ?_;refine az ⟨_,rfl,.inl (u8 rfl ab)⟩ rfl ?_;refine az ⟨_,rfl,.inl (ae rfl (u8 rfl ab))⟩ rfl ?_;refine az ⟨_,rfl,.inl (u2 rfl (u8 rfl ab))⟩ rfl ?_;refine ar (bJ (ae rfl (u2 rfl (u8 rfl ab))) al) rfl<|ar (aw aa) rfl<|aZ (ae rfl (u4 rfl (u16 rfl ad))) (ae rfl (u4 rfl (u16 rfl am))) (ae rfl (u4 rfl (u16 rfl an))) aa ?_;intro cg bZ b0 b1 b2
  refine ai ⟨(b2).trans (by(refine cJ ?_;simp only [pU,dh,wrap_eq,Ti,Bool.and_eq_false_imp,decide_eq_true_eq,decide_eq_false_iff_not,Tn,true_iff,false_iff]at*;(try unfold wrap64 at*);omega)),(bZ).trans (ad).symm,(b0).trans (am).symm,(b1).trans (an).symm,rfl⟩
 ·rintro ci _ ⟨br,b6,b7,b8,rfl⟩;have a6:=b6.trans ad;have bu:=b7.trans am;have bv:=b8.trans an;refine aj<|at_<|ar (ah bu) rfl<|ar (jN aI (ax (ae rfl a6) aI)) rfl<|ar (bj (ax (ae rfl aa) (ax aa aI)) rfl (HW l.ss i.toNat (l.ss.getD i.toNat default) htl hoat hs.2) AP) rfl<|ar (aw aa) rfl<|aZ (u4 rfl a6) (u4 rfl bv) (u4 rfl br) aa ?_;clear a6 bu bv br;intro cj aF bx bz bA
  refine ai<|aj<|ey 25 (by kernel_rfl) (by kernel_rfl) (by kernel_rfl) (by kernel_rfl) ?_
  refine dr (ak (bR kj rfl aF) (by simp only [pS,Value.cells,Nat.reduceAdd,aK,fk]<;>rfl)) rfl ?_;refine dr (ak (bw Rb rfl aa (au rfl)) (by simp only [pS,Value.cells,Nat.reduceAdd,aK,fk]<;>rfl)) rfl ?_;refine dr (bj (ax aa aI) rfl (si _ (by omega)) um) rfl ?_;refine dr (bj (ax aa (ax al aI)) rfl (eZ _ _) e6) rfl<|dr (ah (u4 rfl bx)) rfl<|dr (di aa) rfl<|dr (bj (ax aa (ax al aI)) rfl (eZ _ _) e6) rfl<|dr (ak (bR fZ rfl (ae rfl (u2 rfl (u4 rfl aF)))) (by simp only [pS,Value.cells,Nat.reduceAdd,aK,fk]<;>rfl)) rfl ?_
  refine dr (ak (bw xP rfl aa (au rfl)) (by simp only [pS,Value.cells,Nat.reduceAdd,aK,fk]<;>rfl)) rfl ?_;refine dr (ak (bW aa rfl EO.1) (by simp only [bn]<;>rfl)) rfl ?_;refine dr (eM aa al) rfl<|dr (bj (ax aa (ax al aI)) rfl (eZ _ _) e6) rfl<|dr (ah (u4 rfl (u8 rfl bz))) rfl<|dr (bj (ax aa (ax al aI)) rfl (eZ _ _) e6) rfl<|dr (ak (bR fZ rfl (u2 rfl (u4 rfl (u8 rfl aF)))) (by simp only [pS,Value.cells,Nat.reduceAdd,aK,fk]<;>rfl)) rfl ?_
  refine dr (ak (bw xP rfl aa (au rfl)) (by simp only [pS,Value.cells,Nat.reduceAdd,aK,fk]<;>rfl)) rfl ?_;refine dr (bj (ax aa (ax zd aI)) rfl (Hy _ (by omega)) JI) rfl ?_;refine dr (di aa) rfl<|dr (bj (ax aa (ax al aI)) rfl (eZ _ _) e6) rfl<|dr (ah (ae rfl (u2 rfl (u16 rfl bA)))) rfl<|dr (di aa) rfl<|dr (bj (ax aa (ax al aI)) rfl (eZ _ _) e6) rfl<|dr (dT MP (bo (u2 rfl (u16 rfl aa)) (bo (ae rfl (u2 rfl (u4 rfl (u8 rfl aa)))) (bo (u2 rfl (u8 rfl aa)) (bo (u8 rfl aa) (bo (ae rfl (u2 rfl aa)) (bo aa bY)))))) rfl rfl rfl rfl) rfl<|dr (bj (ax aa aI) rfl (sB [_,_,_,_,_,_] (by simp)) uj) rfl ?_
  refine dr (aw aa) rfl<|dP<|aT aa ?_;clear aF bx bz bA;intro cm bB
  refine ai<|aX<|bK (.inr rfl) (by kernel_rfl) (aS bB) (.ro _ rfl) ?_
  clear bB aW bQ
  (rw [<- JK hj])
theorem MQ(l:aU)(hl:eE l)(hj:l.js.length=l.bs.length+1)(i:Int)(hi:0<=i/\i<l.ss.length):bF Tryz.prog 117 [mA i,.ref (kf l)] (λq=>q=mA (fq l i.toNat)):=by
 refine ck (fn:=Tryz.f117) 7 (by kernel_rfl) rfl (by kernel_rfl) (S8 rfl) ?_;intro ab av hA ad;have af:ag ab (.tmp 0)=_:=hA 0 _ rfl;have am:ag ab (.tmp 1)=_:=hA 1 _ rfl;have ay:av.length=0:=by rw [ad];rfl
 clear hA ad;refine aj<|at_<|ar (aw al) rfl<|aY (ae rfl af) (ae rfl am) ?_;clear af am;intro az an ao
 refine ai<|aj<|at_<|ar (ak (bw PU rfl ao (au rfl)) (by simp only [pS,Value.cells,Nat.reduceAdd]<;>rfl)) rfl ?_
 refine ar (ah (ae rfl an)) rfl<|ar (bj (ax (ae rfl aa) (ax aa aI)) rfl (II l hl hj i hi) JH) rfl<|ar (aw aa) rfl<|aT aa ?_;clear an ao;intro aA ap
 refine ai<|aX<|bK (.inr rfl) (by kernel_rfl) (aS ap) (.ro _ rfl) ?_
 clear ap ay;rfl
theorem sd(l:aU)(hl:eE l):bF Tryz.prog 70 [ep l] (λq=>q= .tuple [.agg [mA (b9 l).1.1,mA (b9 l).1.2],mA (b9 l).2]):=
 Hv l hl λhj i h0 h1=>MQ l hl hj i ⟨h0,h1⟩
end Go.Proofs.YtbmlgmblfboigaaGreatDoor
