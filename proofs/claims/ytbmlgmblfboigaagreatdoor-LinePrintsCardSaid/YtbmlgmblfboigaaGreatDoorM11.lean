/- Texts of this claim, one behind the other: lemmas for the statement. -/
import Derived.Test.YtbmlgmblfboigaaGreatDoorT0
import Derived.Test.YtbmlgmblfboigaaGreatDoorM10
import Derived.Test.YtbmlgmblfboigaaGreatDoorM9
import Derived.Test.YtbmlgmblfboigaaGreatDoorM6
import Derived.Test.YtbmlgmblfboigaaGreatDoorM8
import Derived.Test.YtbmlgmblfboigaaGreatDoorM3
set_option maxRecDepth 100000
set_option maxHeartbeats 4000000
set_option linter.unusedSimpArgs false
set_option linter.unusedVariables false
namespace Go.Proofs.YtbmlgmblfboigaaGreatDoor
open Go Go.RowKit Go.Proofs Go.Lib
theorem MR:bI Tryz.prog 23 59 4 32 (.agg #[.int .i64 0,.int .i64 0,.int .i64 0,.int .i64 0]):=⟨by kernel_rfl,by kernel_rfl,by kernel_rfl⟩
theorem MS:aN Tryz.prog 23 false 1:=⟨by kernel_rfl,by kernel_rfl⟩
theorem MU:aN Tryz.prog 27 true 4:=⟨by kernel_rfl,by kernel_rfl⟩
theorem PW:aN Tryz.prog 9 false 1:=⟨by kernel_rfl,by kernel_rfl⟩
def RS.dL(st:RS):aU:=⟨st.nam,st.js,st.bs,st.ss⟩
theorem IJ{M0:List Ob}{n:Nat}(hn:M0.length=n){st:RS}{H:RH}{lo b:Nat}(hR:eK st H lo M0 b)(hs:eE st.dL)(hl:(b9 st.dL).2=0)(hj:st.js≠ [])(hk:(st.kind.toList==bU.toList)=false):
 dK Tryz.prog 31 [.ptr b 0] M0 (λr m'=>r= .tuple []/\bz M0 m' (λ_=>False)) (λ_ _=>False):=by
 have hb:=hR.box;have hJ:=hR.J;have hB:=hR.B;have hS:=hR.S;have hM:=hR.M;have hbn:=cI hb hn;have hJn:=cI hJ hn;have hBn:=cI hB hn;have hSn:=cI hS hn;have hMn:=cI hM hn;obtain⟨⟨x1,x2,x3,x4⟩,⟨x5,x6,x7⟩,x8,x9,x10⟩:=hR.ne;have hjl:=TT.2 hj;have hK:bz M0 M0 (λ_=>False):=bz.refl _ _;refine fz (fn:=Tryz.f31) 58 (by kernel_rfl) rfl (by kernel_rfl) (S8 rfl) ?_;intro ba an hA af;have aF:ag ba (.tmp 0)=_:=hA 0 _ rfl;have aM:an.length=n:=by rw [af];exact hn
 have ap:an[b]? =_:=(congrArg (λq=>q[b]?) af).trans hb;simp only [pS,Value.cells,Nat.reduceAdd,aD,aE,aG]at ap;have aH:an[H.jJ]? =_:=(congrArg (λq=>q[H.jJ]?) af).trans hJ;have aN:an[H.jB]? =_:=(congrArg (λq=>q[H.jB]?) af).trans hB;have aO:an[H.jS]? =_:=(congrArg (λq=>q[H.jS]?) af).trans hS;have aR:an[H.jM]? =_:=(congrArg (λq=>q[H.jM]?) af).trans hM;have aS:bz M0 an ((λ_=>False)):=by rw [af];exact bz.refl _ _
 clear hA af;refine aj<|aj<|at_<|ar (ah aF) rfl<|ar (bC aa) rfl<|ar (aB jo rfl aa) rfl<|ar (aB dW rfl aa) rfl<|ar (ak (aC MS rfl ap aa (au rfl)) (by simp only [pS,Value.cells,Nat.reduceAdd,aD,aE,aG]<;>rfl)) rfl ?_
 refine ar (ak (qi aa aH rfl MR.1) (by simp only [bn]<;>rfl)) rfl ?_;refine ar (eH aa al) rfl ?_;refine ar (ah aa) rfl<|bM aa (λam av=>?_) (λam av=>?_)
 ·replace av:=bt av;exfalso;omega
 replace av:=bf av;refine aA (ah (u8 rfl aF)) ⟨_,rfl,am⟩ rfl ?_;refine aA (bC aa) ⟨_,rfl,(ae rfl am)⟩ rfl ?_;refine aA (aB ec rfl aa) ⟨_,rfl,(u2 rfl am)⟩ rfl ?_;refine aA (ak (aC PW rfl ap aa (au rfl)) (by simp only [pS,Value.cells,Nat.reduceAdd,aD,aE,aG]<;>rfl)) ⟨_,rfl,(ae rfl (u2 rfl am))⟩ rfl ?_;refine aA (eG aa al) ⟨_,rfl,(u4 rfl am)⟩ rfl ?_;refine ar (bJ (ae rfl (u4 rfl am)) aa) rfl<|aY (u2 rfl (u4 rfl (u8 rfl aF))) aa ?_;clear am aF;intro bj aP aT
 refine ai<|aW aT (λaU=>?_) (λaU=>?_)
 ·(exact absurd (hk.symm.trans aU) (by decide))
 refine br<|ai<|aj<|at_<|ar (ah aP) rfl<|ar (bC aa) rfl<|ar (aB jo rfl aa) rfl<|ar (ak (aC MU rfl ap aa (au rfl)) (by simp only [pS,Value.cells,Nat.reduceAdd,aD,aE,aG]<;>rfl)) rfl ?_
 refine ar (wL (ax aa aI) (dx (nO (dx (.ro _ rfl) (dx (.own _ _ _ _ aH) (dx (.own _ _ _ _ aN) (dx (.own _ _ _ _ aO) iD))))) iD) rfl (sd st.dL hs) uk) rfl<|ar (ah aa) rfl<|ar (cH aa rfl) rfl<|ar (cH (ae rfl aa) rfl) rfl<|aL (cu nW rfl aM) trivial rfl (λbm ab=>?_)
 have aK:=bH ab aM;simp only [pS,Value.cells,Nat.reduceAdd,aD,aE,aG]at aK;have aV:=aJ ab ap;have a2:=aJ ab aH;have a3:=aJ ab aN;have a5:=aJ ab aO;have a6:=aJ ab aR;have a7:=RestR.aJ ab aS;have bb:=bG ab aM;clear ab ap aH aN aO aR aS;refine aL (bN aa (u2 rfl aa) rfl rfl aK ij rfl (au rfl)) trivial rfl (λbo ad=>?_);have be:=bk ad aK;simp only [pS,Value.cells,Nat.reduceAdd,aD,aE,aG]at be;have bp:=ao ad aV (by omega);have bu:=ao ad a2 (by omega);have bv:=ao ad a3 (by omega);have bw:=ao ad a5 (by omega);have bx:=ao ad a6 (by omega);have bg:=RestR.ao ad a7 (λhj_=>by(exfalso;omega));have bA:=bc ad bb;clear ad aK aV a2 a3 a5 a6 a7;refine ar (aw (ay (ae rfl aa))) rfl<|bq (ae rfl (ay (ae rfl (u8 rfl aP)))) (ae rfl (ay aa)) aa ?_;clear aP aT;intro bB a8 a9 aQ
 refine ai<|aj<|aj<|at_<|ar (ah aQ) rfl<|ar (eH aa al) rfl ?_
 refine aZ (u2 rfl a8) (u2 rfl a9) (u2 rfl aQ) aa ?_;clear a8 a9 aQ;intro bD bE bF bI bh;refine ai<|aW bh (λaz=>?_) (λaz=>?_)
 ·replace az:=bt az;refine aX<|bO<|⟨_,lY (by kernel_rfl),?_⟩
  exact⟨rfl,bg⟩
 ·replace az:=bf az;exfalso;omega
theorem JM:(Tryz.prog.info? 139).bind (·.zero)=some (.agg #[.string ByteArray.empty,.string ByteArray.empty,.string ByteArray.empty,.string ByteArray.empty]):=by kernel_rfl
theorem JO:Tryz.prog.underlying 139=some (.array 4 9):=by kernel_rfl
theorem JP:(Tryz.prog.info? 9).map (·.size)=some 1:=by kernel_rfl
theorem IK:bZ Tryz.prog 99 0 0 false 1:=by unfold bZ;kernel_rfl
theorem IM:bZ Tryz.prog 99 1 1 false 1:=by unfold bZ;kernel_rfl
theorem CM:bI Tryz.prog 23 59 4 32 (.agg #[.int .i64 0,.int .i64 0,.int .i64 0,.int .i64 0]):=⟨by kernel_rfl,by kernel_rfl,by kernel_rfl⟩
theorem MV:bI Tryz.prog 85 3 1 8 (.int .i64 0):=⟨by kernel_rfl,by kernel_rfl,by kernel_rfl⟩
theorem CN:aN Tryz.prog 23 false 1:=⟨by kernel_rfl,by kernel_rfl⟩
theorem MW:aN Tryz.prog 27 true 4:=⟨by kernel_rfl,by kernel_rfl⟩
theorem qR:aN Tryz.prog 3 false 1:=⟨by kernel_rfl,by kernel_rfl⟩
theorem MX:aN Tryz.prog 72 false 1:=⟨by kernel_rfl,by kernel_rfl⟩
theorem ES:aN Tryz.prog 9 false 1:=⟨by kernel_rfl,by kernel_rfl⟩
def oh(k:Int):ByteArray:=if k=1 then bQ else if k=2 then bU else if k=3 then bS else b8
theorem R9:vj Tryz.prog 139 4 9 false 1:=⟨by kernel_rfl,by kernel_rfl,by kernel_rfl⟩
theorem PX{k:Int}(h0:0<=k)(h3:k<=3): [[AV.v (.string b8)],[AV.v (.string bQ)],[AV.v (.string bU)],[AV.v (.string bS)]][k.toNat]? =some [AV.v (.string (oh k))]:=by
 have:k=0\/k=1\/k=2\/k=3:=by omega
 rcases this with rfl|rfl|rfl|rfl<;>rfl
section
variable {M0:List Ob} {n:Nat} (hn:M0.length=n) {st:RS} {H:RH} {lo b:Nat} (hR:eK st H lo M0 b)
include hn hR
theorem Hj(hc: -1000000000<=st.cnt/\st.cnt<=1000000000)(h:st.js.length=0\/(st.kind.toList==(⟨#[98,101,97,109]⟩:ByteArray).toList)=true):
 dK Tryz.prog 31 [.ptr b 0] M0 (λ_ _=>False) (λv m'=>v=fw (st.cnt+1) 1 6/\bz M0 m' (λj=>j=b)):=by
 have hb:=hR.box;have hJ:=hR.J;have hbn:=cI hb hn;have hJn:=cI hJ hn;obtain⟨⟨x1,x2,x3,x4⟩,⟨x5,x6,x7⟩,x8,x9,x10⟩:=hR.ne;refine fz (fn:=Tryz.f31) 58 (by kernel_rfl) rfl (by kernel_rfl) (S8 rfl) ?_;intro aU aF hA am;have af:ag aU (.tmp 0)=_:=hA 0 _ rfl;have aM:aF.length=n:=by rw [am];exact hn
 have ad:aF[b]? =_:=(congrArg (λq=>q[b]?) am).trans hb;simp only [pS,Value.cells,Nat.reduceAdd,aD,aE,aG]at ad;have an:aF[H.jJ]? =_:=(congrArg (λq=>q[H.jJ]?) am).trans hJ;have aH:bz M0 aF (λj=>j=b):=by rw [am];exact bz.refl _ _
 clear hA am;refine aj<|aj<|at_<|ar (ah af) rfl<|ar (bC aa) rfl<|ar (aB jo rfl aa) rfl<|ar (aB dW rfl aa) rfl<|ar (ak (aC CN rfl ad aa (au rfl)) (by simp only [pS,Value.cells,Nat.reduceAdd,aD,aE,aG]<;>rfl)) rfl ?_
 refine ar (ak (qi aa an rfl CM.1) (by simp only [bn]<;>rfl)) rfl ?_;refine ar (eH aa al) rfl ?_;refine ar (ah aa) rfl<|bM aa (λab ap=>?_) (λab ap=>?_)
 ·replace ap:=bt ap;refine az ⟨_,rfl,.inl ab⟩ rfl ?_;refine az ⟨_,rfl,.inl (ae rfl ab)⟩ rfl ?_;refine az ⟨_,rfl,.inl (u2 rfl ab)⟩ rfl ?_;refine az ⟨_,rfl,.inl (ae rfl (u2 rfl ab))⟩ rfl ?_;refine az ⟨_,rfl,.inl (u4 rfl ab)⟩ rfl ?_;refine ar (bD (ae rfl (u4 rfl ab)) al) rfl<|aY (u2 rfl (u4 rfl (u8 rfl af))) aa ?_;clear ab af;intro a7 aJ aN
  refine ai<|oZ aN<|aj<|at_<|ar (ah aJ) rfl<|ar (bC aa) rfl<|ar (aB hP rfl aa) rfl<|ar (ak (aC qR rfl ad aa (au rfl)) (by simp only [pS,Value.cells,Nat.reduceAdd,aD,aE,aG]<;>rfl)) rfl ?_
  (refine ar (cj aa al ?_) rfl ?_; · (unfold In64;omega))
  refine ar (bC (u4 rfl aa)) rfl<|ar (aB hP rfl aa) rfl<|aL (bN aa (u2 rfl aa) rfl rfl ad il rfl (au rfl)) trivial rfl (λa8 av=>?_)
  have aO:=bk av ad;simp only [pS,Value.cells,Nat.reduceAdd,aD,aE,aG]at aO;have a9:=ao av an (by omega);have aV:=RestR.ao av aH (λhj_=>by rfl);have aX:=bc av aM;clear av ad an aH;refine aT (ay (ae rfl (u2 rfl (u4 rfl aJ)))) ?_;clear aJ aN;intro ba aZ;refine ai<|at_<|ar (ah aZ) rfl<|c6 (gw (last:=st.last) (ws:=st.ws) (cnt:=st.cnt+1) aX aO _ _) (ax aa (ax al (ax al aI))) gx trivial rfl (λ_ _ h=>h.elim) (λbb be aP=>?_)
  repeat (refine dU ?_)
  exact⟨_,rfl,aP.1,aV.trans aP.2 (λj_ hj_ h_=>by exact h_)⟩
 replace ap:=bf ap;refine aA (ah (u8 rfl af)) ⟨_,rfl,ab⟩ rfl ?_;refine aA (bC aa) ⟨_,rfl,(ae rfl ab)⟩ rfl ?_;refine aA (aB ec rfl aa) ⟨_,rfl,(u2 rfl ab)⟩ rfl ?_;refine aA (ak (aC ES rfl ad aa (au rfl)) (by simp only [pS,Value.cells,Nat.reduceAdd,aD,aE,aG]<;>rfl)) ⟨_,rfl,(ae rfl (u2 rfl ab))⟩ rfl ?_;refine aA (eG aa al) ⟨_,rfl,(u4 rfl ab)⟩ rfl ?_;refine ar (bJ (ae rfl (u4 rfl ab)) aa) rfl<|aY (u2 rfl (u4 rfl (u8 rfl af))) aa ?_;clear ab af;intro bg aK aQ
 refine ai<|aW aQ (λa2=>?_) (λa2=>?_)
 ·skip;refine aj<|at_<|ar (ah aK) rfl<|ar (bC aa) rfl<|ar (aB hP rfl aa) rfl<|ar (ak (aC qR rfl ad aa (au rfl)) (by simp only [pS,Value.cells,Nat.reduceAdd,aD,aE,aG]<;>rfl)) rfl ?_
  (refine ar (cj aa al ?_) rfl ?_; · (unfold In64;omega))
  refine ar (bC (u4 rfl aa)) rfl<|ar (aB hP rfl aa) rfl<|aL (bN aa (u2 rfl aa) rfl rfl ad il rfl (au rfl)) trivial rfl (λbh aw=>?_)
  have aR:=bk aw ad;simp only [pS,Value.cells,Nat.reduceAdd,aD,aE,aG]at aR;have bj:=ao aw an (by omega);have a3:=RestR.ao aw aH (λhj_=>by rfl);have a5:=bc aw aM;clear aw ad an aH;refine aT (ay (ae rfl (u2 rfl (u4 rfl aK)))) ?_;clear aK aQ;intro bm a6;refine ai<|at_<|ar (ah a6) rfl<|c6 (gw (last:=st.last) (ws:=st.ws) (cnt:=st.cnt+1) a5 aR _ _) (ax aa (ax al (ax al aI))) gx trivial rfl (λ_ _ h=>h.elim) (λbo bp aS=>?_)
  repeat (refine dU ?_)
  exact⟨_,rfl,aS.1,a3.trans aS.2 (λj_ hj_ h_=>by exact h_)⟩
 ·(simp_all;done)
theorem HY(hs:eE st.dL)(he:(b9 st.dL).2≠0)(hj:st.js.length≠0)(hk:(st.kind.toList==(⟨#[98,101,97,109]⟩:ByteArray).toList)=false)(h03:0<=(b9 st.dL).1.1/\(b9 st.dL).1.1<=3)(q0:Nat)(hq0:q0<H.hs.length)(hqk:hK H.hs q0=oh (b9 st.dL).1.1)(hi0:0<=(b9 st.dL).1.2)(hi1:(b9 st.dL).1.2<(cR st.cs q0).length):
 dK Tryz.prog 31 [.ptr b 0] M0 (λ_ _=>False) (λv m'=>v=fw ((cR st.cs q0).getD (b9 st.dL).1.2.toNat default) 1 (b9 st.dL).2/\bz M0 m' (λj=>j=b)):=by
 have hb:=hR.box;have hJ:=hR.J;have hB:=hR.B;have hS:=hR.S;have hM:=hR.M;have hF:=hR.fam;have hbn:=cI hb hn;have hJn:=cI hJ hn;have hBn:=cI hB hn;have hSn:=cI hS hn;have hMn:=cI hM hn;obtain⟨⟨x1,x2,x3,x4⟩,⟨x5,x6,x7⟩,x8,x9,x10⟩:=hR.ne;obtain⟨y1,y2,y3,y4,y5⟩:=hR.rH q0 hq0;have hlt:=hF.lt hn;have hql:=hlt q0 hq0 (by omega);have hra:=PX h03.1 h03.2;refine fz (fn:=Tryz.f31) 58 (by kernel_rfl) rfl (by kernel_rfl) (S8 rfl) ?_;intro bP ap hA am;have aN:ag bP (.tmp 0)=_:=hA 0 _ rfl;have aR:ap.length=n:=by rw [am];exact hn
 have av:ap[b]? =_:=(congrArg (λq=>q[b]?) am).trans hb;simp only [pS,Value.cells,Nat.reduceAdd,aD,aE,aG]at av;have aO:ap[H.jJ]? =_:=(congrArg (λq=>q[H.jJ]?) am).trans hJ;have aS:ap[H.jB]? =_:=(congrArg (λq=>q[H.jB]?) am).trans hB;have aT:ap[H.jS]? =_:=(congrArg (λq=>q[H.jS]?) am).trans hS;have a5:ap[H.jM]? =_:=(congrArg (λq=>q[H.jM]?) am).trans hM;have a6:bz M0 ap (λj=>j=b):=by rw [am];exact bz.refl _ _
 have aU:=hF;rw [<- am]at aU;clear hA am;refine aj<|aj<|at_<|ar (ah aN) rfl<|ar (bC aa) rfl<|ar (aB jo rfl aa) rfl<|ar (aB dW rfl aa) rfl<|ar (ak (aC CN rfl av aa (au rfl)) (by simp only [pS,Value.cells,Nat.reduceAdd,aD,aE,aG]<;>rfl)) rfl ?_
 refine ar (ak (qi aa aO rfl CM.1) (by simp only [bn]<;>rfl)) rfl ?_;refine ar (eH aa al) rfl ?_;refine ar (ah aa) rfl<|bM aa (λan az=>?_) (λan az=>?_)
 ·replace az:=bt az;exfalso;omega
 replace az:=bf az;refine aA (ah (u8 rfl aN)) ⟨_,rfl,an⟩ rfl ?_;refine aA (bC aa) ⟨_,rfl,(ae rfl an)⟩ rfl ?_;refine aA (aB ec rfl aa) ⟨_,rfl,(u2 rfl an)⟩ rfl ?_;refine aA (ak (aC ES rfl av aa (au rfl)) (by simp only [pS,Value.cells,Nat.reduceAdd,aD,aE,aG]<;>rfl)) ⟨_,rfl,(ae rfl (u2 rfl an))⟩ rfl ?_;refine aA (eG aa al) ⟨_,rfl,(u4 rfl an)⟩ rfl ?_;refine ar (bJ (ae rfl (u4 rfl an)) aa) rfl<|aY (u2 rfl (u4 rfl (u8 rfl aN))) aa ?_;clear an aN;intro b2 aV a7
 refine ai<|aW a7 (λbR=>?_) (λbR=>?_)
 ·(simp_all;done)
 refine br<|ai<|aj<|at_<|ar (ah aV) rfl<|ar (bC aa) rfl<|ar (aB jo rfl aa) rfl<|ar (ak (aC MW rfl av aa (au rfl)) (by simp only [pS,Value.cells,Nat.reduceAdd,aD,aE,aG]<;>rfl)) rfl ?_
 refine ar (wL (ax aa aI) (dx (nO (dx (.ro _ rfl) (dx (.own _ _ _ _ aO) (dx (.own _ _ _ _ aS) (dx (.own _ _ _ _ aT) iD))))) iD) rfl (sd st.dL hs) uk) rfl<|ar (ah aa) rfl<|ar (cH aa rfl) rfl<|ar (cH (ae rfl aa) rfl) rfl<|aL (cu nW rfl aR) trivial rfl (λb6 ad=>?_)
 have aF:=bH ad aR;simp only [pS,Value.cells,Nat.reduceAdd,aD,aE,aG]at aF;have a8:=aJ ad av;have a9:=aJ ad aO;have ba:=aJ ad aS;have bb:=aJ ad aT;have be:=aJ ad a5;have bg:=RestR.aJ ad a6;have bh:=bu.aJ ad aU;have bT:=bG ad aR;clear ad av aO aS aT a5 a6 aU;refine aL (bN aa (u2 rfl aa) rfl rfl aF ij rfl (au rfl)) trivial rfl (λb7 af=>?_);have aH:=bk af aF;simp only [pS,Value.cells,Nat.reduceAdd,aD,aE,aG]at aH;have aK:=ao af a8 (by omega);have bj:=ao af a9 (by omega);have bm:=ao af ba (by omega);have bp:=ao af bb (by omega);have aX:=ao af be (by omega);have bv:=RestR.ao af bg (λhj_=>by(exfalso;omega));have bV:=bu.ao af bh aF rfl;have bW:=bc af bT;clear af aF a8 a9 ba bb be bg bh;refine ar (aw (ay (ae rfl aa))) rfl<|bq (ae rfl (ay (ae rfl (u8 rfl aV)))) (ae rfl (ay aa)) aa ?_;clear aV a7;intro ca bw bx a2
 refine ai<|aj<|aj<|at_<|ar (ah a2) rfl<|ar (eH aa al) rfl ?_
 refine aZ (u2 rfl bw) (u2 rfl bx) (u2 rfl a2) aa ?_;clear bw bx a2;intro cb bA a3 bB bD;refine ai<|aW bD (λaM=>?_) (λaM=>?_)
 ·replace aM:=bt aM;exfalso;omega
 replace aM:=bf aM;refine br<|ai<|aj<|at_<|ar (vX (bo al (bo al (bo al (bo al bY)))) JM JO JP rfl) rfl ?_
 refine ar (aB IK rfl (ae rfl a3)) rfl<|ar (ak (aC qR rfl aH aa (au rfl)) (by simp only [pS,Value.cells,Nat.reduceAdd,aD,aE,aG]<;>rfl)) rfl ?_
 refine ar (ak (Em (els:= [[AV.v (.string b8)],[AV.v (.string bQ)],[AV.v (.string bU)],[AV.v (.string bS)]]) R9 rfl (u2 rfl aa) aa rfl (by decide) h03.1 (by omega) hra) rfl) rfl ?_;refine ar (aw aa) rfl<|aZ (ae rfl (u4 rfl bA)) (ae rfl (u4 rfl a3)) (ae rfl (u4 rfl bB)) aa ?_;clear bA a3 bD bB;intro cc aP bE bF bI
 refine ai<|aj ?_
 obtain⟨aQ,bK⟩:=bV.take hq0;refine ey 13 (by kernel_rfl) (by kernel_rfl) (by kernel_rfl) (by kernel_rfl) ?_;refine dr (ah aP) rfl<|dr (ah (ae rfl aP)) rfl<|dr (bC aa) rfl<|dr (aB gu rfl aa) rfl<|dr (ak (aC MX rfl aK aa (au rfl)) (by simp only [pS,Value.cells,Nat.reduceAdd,aD,aE,aG]<;>rfl)) rfl ?_
 refine dr (ah (ae rfl (u4 rfl bI))) rfl<|dr (qu gB gC aX (ae rfl aa) aa (show(eQ H.hs)[q0]? =some (oh (b9 st.dL).1.1,.own (hN H.hs q0))by rw [jY hq0,hqk]) hF.mi) rfl ?_
 refine dr (aB IM rfl (ae rfl (u2 rfl (u4 rfl bE)))) rfl<|dr (ak (aC qR rfl aH aa (au rfl)) (by simp only [pS,Value.cells,Nat.reduceAdd,aD,aE,aG]<;>rfl)) rfl ?_
 refine dr (jk MV aQ (u2 rfl aa) aa (by omega) (by simp only [bn]<;>omega)) rfl ?_;refine dr (ak (mz qR rfl aQ aa (au rfl) (by(refine cP ?_;omega))) (by simp only [pS,Value.cells,Nat.reduceAdd,aD,aE,aG]<;>rfl)) rfl ?_;refine dr (bC (u2 rfl (u8 rfl aa))) rfl<|dr (aB hP rfl aa) rfl<|dP<|aL (bN aa (u2 rfl aa) rfl rfl aK il rfl (au rfl)) trivial rfl (λcd ab=>?_)
 have bL:=bk ab aK;simp only [pS,Value.cells,Nat.reduceAdd,aD,aE,aG]at bL;have ce:=ao ab aH (by omega);have cf:=ao ab bj (by omega);have cg:=ao ab bm (by omega);have ci:=ao ab bp (by omega);have cj:=ao ab aX (by omega);have bX:=RestR.ao ab bv (λhj_=>by rfl);have ck:=bu.ao ab bK aK rfl;have cm:=ao ab aQ (by omega);have bZ:=bc ab bW;clear ab aH aK bj bm bp aX bv bK aQ;refine aY (ay (ae rfl (u4 rfl (u8 rfl aP)))) (ay (ae rfl (u4 rfl (u8 rfl bF)))) ?_;clear aP bE bF bI;intro cn b0 b1;refine ai<|at_<|ar (ah b0) rfl<|ar (ah (ae rfl b1)) rfl<|c6 (gw (last:=st.last) (ws:=st.ws) (cnt:=(cR st.cs q0).getD (b9 st.dL).1.2.toNat default) bZ bL _ _) (ax (ae rfl aa) (ax al (ax aa aI))) gx trivial rfl (λ_ _ h=>h.elim) (λco cp bO=>?_)
 repeat (first|refine dU ?_|refine fJ ?_|refine yy ?_)
 exact⟨_,rfl,bO.1,bX.trans bO.2 (λj_ hj_ h_=>by exact h_)⟩
end
end Go.Proofs.YtbmlgmblfboigaaGreatDoor
namespace Go.Proofs.YtbmlgmblfboigaaGreatDoor
open Go Go.RowKit Go.Proofs Go.Shelf Go.Lib
structure j9 where
 dL:aU
 ml:Int
 mc:Int
 e:Int
def zL:aU:=⟨⟨#[]⟩,[],[],[]⟩
def jc(r:j9):AV:=.tuple [ep r.dL,.agg [mA r.ml,mA r.mc],mA r.e]
def lA:RS:=⟨⟨#[]⟩,[],[],[],0,[],⟨⟨#[]⟩,0⟩,⟨#[]⟩,[],[]⟩
def cO(st:RS)(l:List UInt8):RS:= {st with cnt:=st.cnt+1,ws:=eh l 0}
def c8(k:ByteArray):List ByteArray->List (List Int)->List Int
 | [],_=> []
 | a::ks,cs=>if bT a k then cs.headD []else c8 k ks cs.tail
def mP(st:RS):j9:=
 if st.js.length=0\/bT st.kind bU=true then⟨zL,st.cnt+1,1,6⟩
 else if(b9 st.dL).2=0 then⟨st.dL,0,0,0⟩
 else⟨zL,(c8 (oh (b9 st.dL).1.1) st.ks st.cs).getD (b9 st.dL).1.2.toNat default,1,(b9 st.dL).2⟩
def ir:RS->List (List UInt8)->j9
 | st,[]=>mP st
 | st,l::ls=>match eh l 0 with
  | []=>ir (cO st l) ls
  | w0::ws=>if ew st.kind w0 ws=(0,0)then ir (dt (cO st l) w0 ws) ls else⟨zL,st.cnt+1,(ew st.kind w0 ws).1,(ew st.kind w0 ws).2⟩
def rI(tx:List UInt8):j9:=if 60000<tx.length then⟨zL,0,0,8⟩else ir lA ((dF tx).map eJ)
theorem MY(st:RS)(la w0:Wd)(ws:List Wd):dt {st with last:=la} w0 ws=dt st w0 ws:=by
 unfold dt RS.add
 split
 ·rfl
 ·split
  ·rfl
  ·split<;>rfl
theorem MZ(st:RS)(la:Wd)(l:List UInt8):cO {st with last:=la} l= {(cO st l)with last:=la}:=rfl
theorem FR(k k':ByteArray)(c:Int):∀ (ks:List ByteArray) (cs:List (List Int)),c8 k' (eN k c ks cs).1 (eN k c ks cs).2=if k=k' then c8 k' ks cs++ [c]else c8 k' ks cs
 | [],cs=>by
  by_cases h:k=k'
  ·subst h;simp [eN,c8,fA]
  ·simp [eN,c8,nV h,h]
 | a::ks,cs=>by
  simp only [eN]
  by_cases ha:bT a k=true
  ·have hk:=iF.1 ha;subst hk;simp only [fA,if_true,c8,List.headD_cons,U8]
   by_cases h:a=k'
   ·subst h;simp [fA]
   ·simp [nV h,h]
  ·have ha':bT a k=false:=by simpa using ha
   simp only [ha',Tn,if_false,c8,List.headD_cons,U8]
   by_cases h:bT a k'=true
   ·have hk:=iF.1 h;subst hk;have hne:¬ k=a:=λe=>by rw [e,fA]at ha';cases ha'
    simp [fA,hne]
   ·have h':bT a k'=false:=by simpa using h
    simp only [h',Tn,if_false];exact FR k k' c ks cs.tail
theorem FT(k:ByteArray)(c:Int):∀ (ks:List ByteArray) (cs:List (List Int)) (B:Nat),(∀ q,(cR cs q).length <=B)-> ∀ q,(cR (eN k c ks cs).2 q).length <=B+1
 | [],cs,B,h,q=>by
  cases q with
  | zero=>simp [eN,cR]
  | succ q=>show([]:List Int).length <=_;simp
 | a::ks,cs,B,h,q=>by
  have h0:(cs.headD []).length <=B:=by have:=h 0;cases cs<;>simp_all [cR]
  have ht:∀ q,(cR cs.tail q).length <=B:=λq=>by have:=h (q+1);cases cs<;>simp_all [cR]
  simp only [eN]
  split
  ·cases q with
   | zero=>simp [cR];simpa using h0
   | succ q=>have:=ht q;simp only [cR,List.getD_cons_succ]at this ⊢;omega
  ·cases q with
   | zero=>simp [cR]at h0 ⊢;omega
   | succ q=>
    have:=FT k c ks cs.tail B ht q
    simpa only [cR,List.getD_cons_succ]using this
theorem Gt{k:ByteArray}:∀ {hs:HL} {cs:List (List Int)},cs.length=hs.length->c8 k (hs.map (·.1)) cs≠ []-> ∃ q,q<hs.length/\hK hs q=k/\c8 k (hs.map (·.1)) cs=cR cs q
 | [],cs,_,h=>absurd rfl h
 | x::hs,[],hl,_=>by simp at hl
 | x::hs,d::cs,hl,h=>by
  by_cases hx:bT x.1 k=true
  ·exact⟨0,by simp,iF.1 hx,by simp [c8,hx,cR]⟩
  ·have hx':bT x.1 k=false:=by simpa using hx
   have e:c8 k ((x::hs).map (·.1)) (d::cs)=c8 k (hs.map (·.1)) cs:=by simp [c8,hx']
   rw [e]at h ⊢;obtain⟨q,h1,h2,h3⟩:=Gt (by simpa using hl) h;exact⟨q+1,by simpa using h1,h2,h3⟩
structure fS (i:Nat) (st:RS):Prop where
 cnt:st.cnt=i
 ln:st.kind=⟨#[]⟩\/c8 b8 st.ks st.cs≠ []
 j0:st.kind=⟨#[]⟩->st.js= []
 jl:(c8 bQ st.ks st.cs).length =st.js.length
 bl:(c8 bU st.ks st.cs).length =st.bs.length
 sl:(c8 bS st.ks st.cs).length =st.ss.length
 cb:∀ q,(cR st.cs q).length <=i
 jb:st.js.length<=i
 bb:st.bs.length<=i
 sb:st.ss.length<=i
 nb:st.nam.size<=1000000
 ab:∀ s∈st.ss,s.nam.size<=1000000/\s.acr.length<=1000000
theorem fS.zero:fS 0 lA:=⟨rfl,.inl rfl,λ_=>rfl,rfl,rfl,rfl,λq=>Tf 0,by simp [lA],by simp [lA],by simp [lA],TO _,λs h=>by simp [lA]at h⟩
theorem fS.SX{i:Nat}{st:RS}(h:fS i st)(hi:i<=1000000):eE st.dL:=⟨h.nb,TP h.jb hi,TP h.bb hi,TP h.sb hi,h.ab⟩
theorem fS.vv{i:Nat}{st:RS}(h:fS i st)(hi:i<=1000000):zw st:=⟨TP h.jb hi,TP h.bb hi,TP h.sb hi,λq=>TP (h.cb q) hi⟩
theorem fS.skip{i:Nat}{st:RS}(h:fS i st)(l:List UInt8):fS (i+1) (cO st l):=
 ⟨by show st.cnt+1=_;rw [h.cnt];rfl,h.ln,h.j0,h.jl,h.bl,h.sl,λq=>Ug (h.cb q),Ug h.jb,Ug h.bb,Ug h.sb,h.nb,h.ab⟩
theorem Ri{p:ByteArray}{w0:Wd}{ws:List Wd}(h:ew p w0 ws=(0,0)):e9 p w0.txt=0/\g9 w0.txt w0 ws=(0,0):=by
 unfold ew at h
 by_cases hk:e9 p w0.txt=0
 ·rw [if_pos hk]at h;exact⟨hk,h⟩
 ·rw [if_neg hk]at h;injection h with h1 h2;exact absurd h2 hk
theorem M3{p k:ByteArray}(h:e9 p k=0)(hk:k≠b8):p≠⟨#[]⟩/\(k=bQ\/k=bU\/k=bS):=by
 unfold e9 at h
 by_cases hp:bT p ⟨#[]⟩=true
 ·rw [if_pos hp,nV hk]at h;simp at h
 ·rw [if_neg hp]at h;refine⟨λe=>hp (by rw [e];exact fA _),?_⟩
  by_cases hin:(bT k bQ||bT k bU||bT k bS)=true
  ·simp only [Ui]at hin;rcases hin with(h1|h1)|h1
   ·exact .inl (iF.1 h1)
   ·exact .inr (.inl (iF.1 h1))
   ·exact .inr (.inr (iF.1 h1))
  ·rw [if_neg hin]at h;simp at h
theorem Gu{last:Wd}{ws:List Wd}(h:iw last ws):(cq ws).txt.size <=1000000:=by
 match ws,h with
 | [],_=>exact TO _
 | w::ws,h=>exact(h.all w (by simp)).2.2
theorem SJ:(b8:ByteArray)≠⟨#[]⟩:=λh=>by have:=congrArg ByteArray.size h;revert this;decide
theorem SK:(bQ:ByteArray)≠⟨#[]⟩:=λh=>by have:=congrArg ByteArray.size h;revert this;decide
theorem SL:(bU:ByteArray)≠⟨#[]⟩:=λh=>by have:=congrArg ByteArray.size h;revert this;decide
theorem SN:(bS:ByteArray)≠⟨#[]⟩:=λh=>by have:=congrArg ByteArray.size h;revert this;decide
theorem j7{a b:ByteArray}(h:bT a b=false):¬ a=b:=λe=>by rw [e,fA]at h;cases h
theorem pg(a b:ByteArray):bT a b=bT b a:=by
 cases h:bT a b with
 | true=>rw [iF.1 h,fA]
 | false=>cases h2:bT b a with
  | true=>rw [iF.1 h2,fA]at h;cases h
  | false=>rfl
theorem fS.step{i:Nat}{st:RS}(h:fS i st){l:List UInt8}{w0:Wd}{ws:List Wd}(hE:ew st.kind w0 ws=(0,0))(hW:iw w0 ws):fS (i+1) (dt (cO st l) w0 ws):=by
 obtain⟨hk,hb⟩:=Ri hE;have hc:(cO st l).cnt =((i+1:Nat):Int):=by show st.cnt+1=_;rw [h.cnt];rfl
 have ncl:=j7 (pg b8 bQ ▸ rP);have nlb:=j7 (pg b8 bU ▸ rQ);have nls:=j7 (pg b8 bS ▸ rR);have njl:=j7 rP;have nbl:=j7 rQ;have nsl:=j7 rR;have nbj:=j7 rS;have nsj:=j7 rT;have nsb:=j7 rU;have njb:=j7 (pg bQ bU ▸ rS);have njs:=j7 (pg bQ bS ▸ rT);have nbs:=j7 (pg bU bS ▸ rU);have hcb:∀ k q,(cR ((cO st l).add k).cs q).length <=i+1:=λk=>FT k _ _ _ i h.cb
 have lk:∀ k k',c8 k' ((cO st l).add k).ks ((cO st l).add k).cs =if k=k' then c8 k' st.ks st.cs++ [(cO st l).cnt]else c8 k' st.ks st.cs:=λk k'=>FR k k' _ _ _
 have hwl:=hW.len;obtain⟨tx,c0⟩:=w0
 by_cases h1:tx=b8
 ·subst h1;simp only [dt,fA,if_true];refine⟨hc,.inr (by show c8 b8 ((cO st l).add b8).ks ((cO st l).add b8).cs ≠ [];rw [lk,if_pos rfl];simp),λe=>absurd e SJ,?_,?_,?_,hcb _,Ug h.jb,Ug h.bb,Ug h.sb,Gu hW,h.ab⟩
  ·show(c8 bQ ((cO st l).add b8).ks ((cO st l).add b8).cs).length =_;rw [lk,if_neg ncl];exact h.jl
  ·show(c8 bU ((cO st l).add b8).ks ((cO st l).add b8).cs).length =_;rw [lk,if_neg nlb];exact h.bl
  ·show(c8 bS ((cO st l).add b8).ks ((cO st l).add b8).cs).length =_;rw [lk,if_neg nls];exact h.sl
 obtain⟨hp,hcase⟩:=M3 hk h1;have hln:c8 b8 st.ks st.cs≠ []:=h.ln.resolve_left hp;rcases hcase with rfl|rfl|rfl
 ·simp only [dt,rP,fA,if_true,Tn,if_false];refine⟨hc,.inr (by show c8 b8 ((cO st l).add bQ).ks ((cO st l).add bQ).cs ≠ [];rw [lk,if_neg njl];exact hln),λe=>absurd e SK,?_,?_,?_,hcb _,?_,Ug h.bb,Ug h.sb,h.nb,h.ab⟩
  ·show(c8 bQ ((cO st l).add bQ).ks ((cO st l).add bQ).cs).length =(st.js++ [_]).length;rw [lk,if_pos rfl];simp [h.jl]
  ·show(c8 bU ((cO st l).add bQ).ks ((cO st l).add bQ).cs).length =_;rw [lk,if_neg njb];exact h.bl
  ·show(c8 bS ((cO st l).add bQ).ks ((cO st l).add bQ).cs).length =_;rw [lk,if_neg njs];exact h.sl
  ·show(st.js++ [_]).length <=_;have:=h.jb;simp;omega
 ·simp only [dt,rQ,rS,fA,if_true,Tn,if_false];refine⟨hc,.inr (by show c8 b8 ((cO st l).add bU).ks ((cO st l).add bU).cs ≠ [];rw [lk,if_neg nbl];exact hln),λe=>absurd e SL,?_,?_,?_,hcb _,Ug h.jb,?_,Ug h.sb,h.nb,h.ab⟩
  ·show(c8 bQ ((cO st l).add bU).ks ((cO st l).add bU).cs).length =_;rw [lk,if_neg nbj];exact h.jl
  ·show(c8 bU ((cO st l).add bU).ks ((cO st l).add bU).cs).length =(st.bs++ [_]).length;rw [lk,if_pos rfl];simp [h.bl]
  ·show(c8 bS ((cO st l).add bU).ks ((cO st l).add bU).cs).length =_;rw [lk,if_neg nbs];exact h.sl
  ·show(st.bs++ [_]).length <=_;have:=h.bb;simp;omega
 ·simp only [dt,rR,rT,rU,Tn,if_false];refine⟨hc,.inr (by show c8 b8 ((cO st l).add bS).ks ((cO st l).add bS).cs ≠ [];rw [lk,if_neg nsl];exact hln),λe=>absurd e SN,?_,?_,?_,hcb _,Ug h.jb,Ug h.bb,?_,h.nb,?_⟩
  ·show(c8 bQ ((cO st l).add bS).ks ((cO st l).add bS).cs).length =_;rw [lk,if_neg nsj];exact h.jl
  ·show(c8 bU ((cO st l).add bS).ks ((cO st l).add bS).cs).length =_;rw [lk,if_neg nsb];exact h.bl
  ·show(c8 bS ((cO st l).add bS).ks ((cO st l).add bS).cs).length =(st.ss++ [_]).length;rw [lk,if_pos rfl];simp [h.sl]
  ·show(st.ss++ [_]).length <=_;have:=h.sb;simp;omega
  ·intro s hs;rcases Uu.1 hs with hs|hs
   ·exact h.ab s hs
   ·simp at hs;subst hs;exact⟨Gu hW,by simp;omega⟩
theorem M4{l:aU}(h:(b9 l).2≠0):(b9 l).1.1=0/\(b9 l).1.2=0\/(∃ i:Nat,(b9 l).1.2=i/\((b9 l).1.1=1/\i<l.js.length\/(b9 l).1.1=2/\i<l.bs.length\/(b9 l).1.1=3/\i<l.ss.length)):=by
 unfold b9 at h ⊢
 split
 ·exact .inl ⟨rfl,rfl⟩
 split
 ·exact .inl ⟨rfl,rfl⟩
 split
 ·exact .inl ⟨rfl,rfl⟩
 rename_i h1 h2 h3
 rw [if_neg h1,if_neg h2,if_neg h3]at h;unfold iK at h ⊢
 split
 ·rename_i i hi;exact .inr ⟨i,rfl,.inl ⟨rfl,(qQ hi).2⟩⟩
 split
 ·rename_i i hi;exact .inr ⟨i,rfl,.inr (.inl ⟨rfl,(qQ hi).2⟩)⟩
 split
 ·exact .inl ⟨rfl,rfl⟩
 split
 ·rename_i i hi;exact .inr ⟨i,rfl,.inr (.inr ⟨rfl,(qQ hi).2⟩)⟩
 ·exact .inl ⟨rfl,rfl⟩
theorem fS.row{i:Nat}{st:RS}(h:fS i st)(hj:st.js.length≠0)(he:(b9 st.dL).2≠0):(0<=(b9 st.dL).1.1/\(b9 st.dL).1.1<=3)/\0<=(b9 st.dL).1.2/\(b9 st.dL).1.2<(c8 (oh (b9 st.dL).1.1) st.ks st.cs).length :=by
 have hln:c8 b8 st.ks st.cs≠ []:=h.ln.resolve_left λe=>hj (by rw [h.j0 e];rfl)
 have hln':=TT.2 hln;rcases M4 he with⟨h1,h2⟩|⟨k,h1,⟨h2,h3⟩|⟨h2,h3⟩|⟨h2,h3⟩⟩
 ·rw [h1,h2];exact⟨by omega,by omega,by show(0:Int)<((c8 b8 st.ks st.cs).length :Int);omega⟩
 ·rw [h1,h2];exact⟨by omega,by omega,by show(k:Int)<((c8 bQ st.ks st.cs).length :Int);rw [h.jl];exact Int.ofNat_lt.2 h3⟩
 ·rw [h1,h2];exact⟨by omega,by omega,by show(k:Int)<((c8 bU st.ks st.cs).length :Int);rw [h.bl];exact Int.ofNat_lt.2 h3⟩
 ·rw [h1,h2];exact⟨by omega,by omega,by show(k:Int)<((c8 bS st.ks st.cs).length :Int);rw [h.sl];exact Int.ofNat_lt.2 h3⟩
theorem FU{l:List UInt8}(hl:l.length<=100000):∀ (f a:Nat),(jI l f a).length <=f/\ ∀ w∈jI l f a,zt w
 | 0,a=>⟨by simp [jI],λw h=>by simp [jI]at h⟩
 | f+1,a=>by
  simp only [jI]
  split
  ·exact⟨by simp,λw h=>by simp at h⟩
  ·have ih:=FU hl f (fO l a+(e7 l a).length);have h1:=wO l a;have h2:=BV l a;have h3:=xG l a;refine⟨by simp;exact ih.1,λw hw=>?_⟩;rcases TX.1 hw with rfl|hw
   ·refine⟨by show(-1000000000:Int)<=(fO l a:Int)+1;omega,by show(fO l a:Int)+1<=1000000000;omega,by show(bs (e7 l a)).size <=_;rw [ib];omega⟩
   ·exact ih.2 w hw
theorem za{l:List UInt8}(hl:l.length<=60000){w0:Wd}{ws:List Wd}(h:eh l 0=w0::ws):iw w0 ws/\ws.length<=100000:=by
 have h1:=FU (l:=l) (by omega) (l.length+1 - 0) 0;have h2:jI l (l.length+1 - 0) 0=w0::ws:=h;rw [h2]at h1;obtain⟨h3,h4⟩:=h1;simp at h3;exact⟨⟨h4 w0 (by simp),by omega,λw hw=>h4 w (by simp [hw])⟩,by omega⟩
structure PI (tx:List UInt8) (i:Nat) (st:RS) (R:j9):Prop where
 go:ir st (((dF tx).map eJ).drop i)=R
 le:i<=(dF tx).length
 rw':fS i st
theorem PI.drop{tx:List UInt8}{i:Nat}{st:RS}{R:j9}{l:List UInt8}(h:PI tx i st R)(hl:(dF tx)[i]? =some l):ir st (eJ l::((dF tx).map eJ).drop (i+1))=R:=by
 rw [<- h.go]
 congr 1
 have hi:=(S9.1 hl).1;have hd:=UL (l:=(dF tx).map eJ) (i:=i) (by rw [TV];exact hi);rw [hd]
 congr 1
 rw [List.getElem_map];have:=(S9.1 hl).2;rw [this]
theorem PI.skip{tx:List UInt8}{i:Nat}{st:RS}{R:j9}{l:List UInt8}(h:PI tx i st R)(hl:(dF tx)[i]? =some l)(hn:eh (eJ l) 0= []):PI tx (i+1) (cO st (eJ l)) R:=by
 have h1:=h.drop hl;rw [ir,hn]at h1;exact⟨h1,(S9.1 hl).1,h.rw'.skip _⟩
theorem PI.stop{tx:List UInt8}{i:Nat}{st:RS}{R:j9}{l:List UInt8}{w0:Wd}{ws:List Wd}{c e:Int}(h:PI tx i st R)(hl:(dF tx)[i]? =some l)(hn:eh (eJ l) 0=w0::ws)(he:e≠0)(hr:ew st.kind w0 ws=(c,e)):R=⟨zL,(i:Int)+1,c,e⟩:=by
 have h1:=h.drop hl;rw [ir,hn]at h1;simp only [hr]at h1;rw [if_neg (λhq=>he (by injection hq)),h.rw'.cnt]at h1;exact h1.symm
theorem PI.step{tx:List UInt8}{i:Nat}{st:RS}{R:j9}{l:List UInt8}{w0:Wd}{ws:List Wd}(h:PI tx i st R)(hl:(dF tx)[i]? =some l)(hn:eh (eJ l) 0=w0::ws)(hW:iw w0 ws)(hr:ew st.kind w0 ws=(0,0)):PI tx (i+1) (dt (cO st (eJ l)) w0 ws) R:=by
 have h1:=h.drop hl;rw [ir,hn]at h1;simp only [hr,if_true]at h1;exact⟨h1,(S9.1 hl).1,h.rw'.step hr hW⟩
theorem PI.last{tx:List UInt8}{st:RS}{R:j9}(h:PI tx (dF tx).length st R):R=mP st:=by
 rw [<- h.go,UT (by simp)];rfl
theorem wo:∀ args w,(callFunc 76 args).run Tryz.prog w= .ok (.enter 76 args) w:=λ_ _=>by kernel_rfl
theorem wq:∀ args w,(callFunc 77 args).run Tryz.prog w= .ok (.enter 77 args) w:=λ_ _=>by kernel_rfl
theorem wS:bI Tryz.prog 85 3 1 8 (.int .i64 0):=⟨by kernel_rfl,by kernel_rfl,by kernel_rfl⟩
theorem PY:aN Tryz.prog 3 false 1:=⟨by kernel_rfl,by kernel_rfl⟩
theorem wU{n:Int}(h:In64 n):(itoa n).length <=21:=itoa_length_le n (by unfold In64 at h;omega) (by unfold In64 at h;omega)
def nT(n:Int):List UInt8:=32::itoa n
def fj(s:List UInt8)(ns:List Int)(k:Nat):List UInt8:=s++((ns.take k).map nT).flatten
def rowT(s:List UInt8)(ns:List Int):List UInt8:=fj s ns ns.length++ [10]
theorem AS{s:List UInt8}{ns:List Int}{k:Nat}{n:Int}(h:ns[k]? =some n):fj s ns (k+1)=fj s ns k++ [32]++itoa n:=by
 unfold fj;rw [U4,h];simp [nT]
theorem s6{s:List UInt8}{ns:List Int}(hi:∀ n∈ns,In64 n):∀ k,(fj s ns k).length <=s.length+22*k
 | 0=>by simp [fj]
 | k+1=>by
  have ih:=s6 (s:=s) hi k;cases hq:ns[k]? with
  | none=>
   have hl:ns.length<=k:=by simpa using hq
   unfold fj at ih ⊢;rw [U1 (by omega)];rw [U1 hl]at ih;omega
  | some n=>
   have:=wU (hi n (TD hq));rw [AS hq];simp only [TM,Tj,Tq];omega
theorem SY(a b:List UInt8):(a.map bE)++((bs b).data.toList.map bE)=(a++b).map bE:=by rw [jy,Ux]
theorem SZ(a:List UInt8)(c:UInt8):(a.map bE)++ [bE c]=(a++ [c]).map bE:=by rw [Ux];rfl
theorem yK(c:UInt8)(k:Int)(hk:(c.toNat:Int)=k)(x:List UInt8)(he:x.length<=1000000000):iY Tryz.prog [] 77 [.ptr 1 0,.v (.int .u8 k)] [.box 109 [.ptr 1 0,.own 2],.row 5 1 (x.map bE)] (.v .nilIface) [.box 109 [.ptr 1 0,.own 3],.gone,.row 5 1 ((x++ [c]).map bE)]:=by
 have h:=G7 c (x.map bE) (by rw [TV];exact he);rw [hk,SZ]at h;exact h
theorem FV(s x:List UInt8)(hs:s.length<=1000000)(he:x.length<=1000000000):iY Tryz.prog [] 76 [.ptr 1 0,.v (.string (bs s))] [.box 109 [.ptr 1 0,.own 2],.row 5 1 (x.map bE)] (.tuple [.v (.int .i64 (bs s).size),.v .nilIface]) [.box 109 [.ptr 1 0,.own 3],.gone,.row 5 1 ((x++s).map bE)]:=by
 have h:=G1 (bs s) (x.map bE) (by rw [ib];exact hs) (by rw [TV];exact he);rw [SY]at h;exact h
section
variable (es er:Value)
theorem s7(tx x:List UInt8)(ns:List Int)(hs:tx.length<=1000)(hx:x.length<=100000000)(hn:ns.length<=1000)(hi:∀ n∈ns,In64 n):iY Tryz.prog (gX es er) 40 [.ptr 1 0,.v (.string (bs tx)),.row 1 (ns.map iE)] [.box 109 [.ptr 1 0,.own 2],.row 5 1 (x.map bE)] (.tuple []) [.box 109 [.ptr 1 0,.own 3],.gone,.row 5 1 ((x++rowT tx ns).map bE)]:=by
 have hW0:=FV tx x (by omega) (by omega);rw [show x++tx=x++fj tx ns (Int.toNat 0)by simp [fj]]at hW0;refine nI (fn:=Tryz.f40) (gX es er) 26 (by kernel_rfl) rfl (by kernel_rfl) (S8 rfl) ?_;intro aJ bK hA an;have aK:ag aJ (.tmp 0)=_:=hA 0 _ rfl;have a2:ag aJ (.tmp 1)=_:=hA 1 _ rfl;have a3:ag aJ (.tmp 2)=_:=hA 2 _ rfl;have aA:bK.length=3:=by rw [an];rfl
 have a5:=nY an;have aM:=pN an;have aN:=vd an;clear hA an;refine aj<|at_<|ar (ah aK) rfl<|ar (ah (ae rfl a2)) rfl<|aL (ig (ic (hW0) [1,2] aA (ax (ae rfl aa) (ax aa aI)) (by exact .nil) (by decide) (.ob aM (.ob aN .nil)) rfl wo) (iI rfl)) trivial rfl (λaO ao=>?_)
 have a6:aO[1]? =some _:=gv ao (S8 rfl) (by decide) (ee aM (ee aN gA)) 0 rfl rfl
 (try simp only [Ob.rn,rn,rn.rnL,rho,Tj,Tq,TI,TF,TK,Nat.reduceAdd,Nat.reduceSub,TB,TG]at a6)
 have a7:=dE ao (S8 rfl) a5 (by decide);have a8:aO[3]? =some _:=jT ao (S8 rfl) aA 0 rfl
 (try simp only [Ob.rn,rn,rn.rnL,rho,Tj,Tq,TI,TF,TK,Nat.reduceAdd,Nat.reduceSub,TB,TG]at a8)
 have bL:_=4:=hZ ao aA 1 rfl;clear ao a5 aM aN aA;refine aY (ae rfl (u2 rfl aK)) (ae rfl (u2 rfl a3)) ?_;clear aK a2 a3;intro b2 a9 ba;refine ai<|aj<|aj<|at_<|ar (ah ba) rfl<|ar (ak (bW aa rfl wS.1) (by simp only [bn]<;>rfl)) rfl ?_
 refine ar (ah al) rfl<|aZ (ae rfl (u2 rfl a9)) (u2 rfl aa) (ae rfl aa) aa ?_;clear a9 ba;intro aP bb bc be bM
 refine ai<|bP<|dN (S:=(Int×Nat)) (λs e mem=>match s with|⟨i,jr⟩=>(ag e (.tmp 13)= .v (.int .i64 i))/\(ag e (.tmp 0)=ag aP (.tmp 0))/\(ag e (.tmp 11)=ag aP (.tmp 11))/\(ag e (.tmp 12)=ag aP (.tmp 12))/\(mem[1]? =some (.box 109 [.ptr 1 0,.own jr]))/\(mem[jr]? =some (.row 5 1 ((x++fj tx ns i.toNat).map bE)))/\(mem[0]? =aO[0]?)/\(∃ n,mem.length=n/\4<=n)/\((0<=i/\i<=ns.length/\3<=jr))) (λs=>match s with|⟨i,jr⟩=>(ns.length - i).toNat) ⟨0,3⟩ ⟨bM,rfl,rfl,rfl,a6,a8,rfl,⟨_,bL,Tf _⟩,?_⟩ ?_
 ·exact⟨by omega,by omega,by omega⟩
 ·rintro⟨i,jr⟩ b6 b8 ⟨aQ,bN,bO,bQ,am,af,bR,⟨ad,ab,b9⟩,hinv⟩;have bg:=bN.trans bb;have bh:=bO.trans bc;have aR:=bQ.trans be;have aB:=bR.trans a7;have ca:=cI af ab
  (obtain⟨p1,p2,p3⟩:=hinv;have hK1:=s6 (s:=tx) hi i.toNat)
  refine aj<|at_<|ar (cL aQ aR) rfl<|bV (ae rfl bg) (ae rfl bh) (ae rfl aR) (ae rfl aQ) aa ?_;clear bg bh aR aQ;intro cb aC aD aS aE aT
  refine ai<|aj<|aW aT (λap=>?_) (λap=>?_)
  ·replace ap:=bt ap
   (have hmem:ns[i.toNat]? =some (ns.getD i.toNat default):=(by rw [Tc (show i.toNat<ns.length by omega),Ta,Tc (show i.toNat<ns.length by omega)];rfl);have hmi:=hi _ (TD hmem);have hil:=wU hmi;have hstep:=AS (s:=tx) hmem;have hW:=FV (itoa (ns.getD i.toNat default)) (x++fj tx ns i.toNat++ [32]) (by omega) (by simp;omega);rw [show x++fj tx ns i.toNat++ [32]++itoa (ns.getD i.toNat default)=x++fj tx ns (i+1).toNat by rw [show(i+1).toNat =i.toNat+1 by omega,hstep];simp]at hW)
   refine br<|ai<|aj<|bP<|aj<|at_<|ar (ak (cr wS aD aE (by omega) (by(refine cP ?_;omega))) (by simp only [pS,Value.cells,Nat.reduceAdd]<;>rfl)) rfl ?_
   refine ar (ak (bw PY rfl aa (au rfl)) (by simp only [pS,Value.cells,Nat.reduceAdd]<;>rfl)) rfl ?_;refine ar (aw aa) rfl<|bV (ae rfl (u2 rfl aC)) aa (ae rfl (u2 rfl aD)) (ae rfl (u2 rfl aS)) (ae rfl (u2 rfl aE)) ?_;clear aC aD aS aE aT;intro cc aU bj bk bm bo
   refine ai<|aj<|at_<|ar (ah aU) rfl<|aL (ig (ic ((yK 32 32 rfl (x++fj tx ns i.toNat) (by simp;omega))) [1,jr] ab (ax aa (ax al aI)) (by exact .nil) (by simp<;>omega) (.ob am (.ob af .nil)) rfl wq) (iI rfl)) trivial rfl (λbp av=>?_)
   have aF:bp[1]? =some _:=gv av (S8 rfl) (by simp<;>omega) (ee am (ee af gA)) 0 rfl rfl
   (try simp only [Ob.rn,rn,rn.rnL,rho,Tj,Tq,TI,TF,TK,Nat.reduceAdd,Nat.reduceSub,TB,TG]at aF)
   have aV:=dE av (S8 rfl) aB (by simp<;>omega);have aG:bp[ad]? =some _:=jT av (S8 rfl) ab 0 rfl
   (try simp only [Ob.rn,rn,rn.rnL,rho,Tj,Tq,TI,TF,TK,Nat.reduceAdd,Nat.reduceSub,TB,TG]at aG)
   have aH:_=ad+1:=hZ av ab 1 rfl;clear av am af aB ab;refine bV (u2 rfl aU) (u2 rfl bj) (u2 rfl bk) (u2 rfl bm) (u2 rfl bo) ?_;clear aU bk bm bo bj;intro cd aX bq bu bv bx;refine ai<|at_<|ar (ah aX) rfl<|ar (ah (ae rfl bq)) rfl<|ar (oO (ax aa aI) rfl aV (xC es er (ns.getD i.toNat default) hmi) yj) rfl<|aL (ig (ic (hW) [1,ad] aH (ax (u2 rfl aa) (ax aa aI)) (by exact .nil) (by simp<;>omega) (.ob aF (.ob aG .nil)) rfl wo) (iI rfl)) trivial rfl (λbz ay=>?_)
   have bA:bz[1]? =some _:=gv ay (S8 rfl) (by simp<;>omega) (ee aF (ee aG gA)) 0 rfl rfl
   (try simp only [Ob.rn,rn,rn.rnL,rho,Tj,Tq,TI,TF,TK,Nat.reduceAdd,Nat.reduceSub,TB,TG]at bA)
   have bS:=dE ay (S8 rfl) aV (by simp<;>omega);have bB:bz[ad+1]? =some _:=jT ay (S8 rfl) aH 0 rfl
   (try simp only [Ob.rn,rn,rn.rnL,rho,Tj,Tq,TI,TF,TK,Nat.reduceAdd,Nat.reduceSub,TB,TG]at bB)
   have bT:_=ad+1+1:=hZ ay aH 1 rfl;clear ay aF aV aG aH;refine aZ (u4 rfl aX) (u4 rfl bu) (u4 rfl bv) (u4 rfl bx) ?_;clear aX bu bv bx bq;intro ce bC bD bF bG;refine cv<|ai<|at_ ?_
   (refine ar (cj bG al ?_) rfl ?_; · (unfold In64;omega))
   refine ar (ah aa) rfl<|aZ (u2 rfl bC) (u2 rfl bD) (u2 rfl bF) aa ?_;clear bC bD bF bG;intro cf bU bX bY bZ
   refine ai<|⟨⟨_,_⟩,⟨bZ,(bU.trans bb.symm),(bX.trans bc.symm),(bY.trans be.symm),bA,bB,(bS.trans a7.symm),⟨_,bT,by omega⟩,?_⟩,?_⟩
   ·exact⟨by omega,by omega,by omega⟩
   ·((try dsimp only);omega)
  replace ap:=bf ap;have hend:x++fj tx ns i.toNat++ [10]=x++rowT tx ns:=(by rw [show i.toNat=ns.length by omega];simp [rowT]);refine dD<|b7<|b7<|dC<|ai<|at_<|ar (ah aC) rfl<|aL (ig (ic ((yK 10 10 rfl (x++fj tx ns i.toNat) (by simp;omega))) [1,jr] ab (ax aa (ax al aI)) (by exact .nil) (by simp<;>omega) (.ob am (.ob af .nil)) rfl wq) (iI rfl)) trivial rfl (λbH az=>?_)
  have bI:bH[1]? =some _:=gv az (S8 rfl) (by simp<;>omega) (ee am (ee af gA)) 0 rfl rfl
  (try simp only [Ob.rn,rn,rn.rnL,rho,Tj,Tq,TI,TF,TK,Nat.reduceAdd,Nat.reduceSub,TB,TG]at bI)
  have b0:=dE az (S8 rfl) aB (by simp<;>omega);have bJ:bH[ad]? =some _:=jT az (S8 rfl) ab 0 rfl
  (try simp only [Ob.rn,rn,rn.rnL,rho,Tj,Tq,TI,TF,TK,Nat.reduceAdd,Nat.reduceSub,TB,TG]at bJ)
  have b1:_=ad+1:=hZ az ab 1 rfl;clear az am af aB ab;refine lu ?_;clear aC aD aS aE aT;intro cg;refine nQ (.inl rfl) [1,2,ad] b1 b0 (by simp<;>omega) rfl (lY (by kernel_rfl)) (jX bI ?_ (.gone (jX bJ ?_ .nil))) ?_
  all_goals ((first|rfl|(rw [hend];rfl)))
theorem JQ(tx:List UInt8)(hs:tx.length<=1000):iY Tryz.prog (gX es er) 40 [.ptr 1 0,.v (.string (bs tx)),.v (.slice none 0 0)] [.box 109 [.v (.pointer none),.v (.slice none 0 0)]] (.tuple []) [.box 109 [.ptr 1 0,.own 2],.row 5 1 ((rowT tx []).map bE)]:=by
 have hW0:=GV (bs tx) (by rw [ib];omega);rw [jy]at hW0;refine nI (fn:=Tryz.f40) (gX es er) 26 (by kernel_rfl) rfl (by kernel_rfl) (S8 rfl) ?_;intro ap aU hA am;have au:ag ap (.tmp 0)=_:=hA 0 _ rfl;have aD:ag ap (.tmp 1)=_:=hA 1 _ rfl;have aE:ag ap (.tmp 2)=_:=hA 2 _ rfl;have an:aU.length=2:=by rw [am];rfl
 have aF:=nY am;have av:=pN am;clear hA am;refine aj<|at_<|ar (ah au) rfl<|ar (ah (ae rfl aD)) rfl<|aL (ig (ic (hW0) [1] an (ax (ae rfl aa) (ax aa aI)) (by exact .nil) (by decide) (.ob av .nil) rfl wo) (iI rfl)) trivial rfl (λad af=>?_)
 have aG:ad[1]? =some _:=gv af (S8 rfl) (by decide) (ee av gA) 0 rfl rfl
 (try simp only [Ob.rn,rn,rn.rnL,rho,Tj,Tq,TI,TF,TK,Nat.reduceAdd,Nat.reduceSub,TB,TG]at aG)
 have aV:=dE af (S8 rfl) aF (by decide);have aH:ad[2]? =some _:=jT af (S8 rfl) an 0 rfl
 (try simp only [Ob.rn,rn,rn.rnL,rho,Tj,Tq,TI,TF,TK,Nat.reduceAdd,Nat.reduceSub,TB,TG]at aH)
 have aX:_=3:=hZ af an 1 rfl;clear af aF av an;refine aY (ae rfl (u2 rfl au)) (ae rfl (u2 rfl aE)) ?_;clear au aD aE;intro bm aJ aK;refine ai<|aj<|aj<|at_<|ar (ah aK) rfl<|ar (H9 aa rfl wS.1) rfl<|ar (ah al) rfl<|aZ (ae rfl (u2 rfl aJ)) (u2 rfl aa) (ae rfl aa) aa ?_;clear aJ aK;intro aw a2 a3 a5 a6
 refine ai<|bP<|dN (S:=Int) (λi e mem=>(ag e (.tmp 13)= .v (.int .i64 i))/\(ag e (.tmp 0)=ag aw (.tmp 0))/\(ag e (.tmp 11)=ag aw (.tmp 11))/\(ag e (.tmp 12)=ag aw (.tmp 12))/\(mem[1]? =ad[1]?)/\(mem[0]? =ad[0]?)/\(mem[2]? =ad[2]?)/\(∃ n,mem.length=n/\3<=n)/\((i=0))) (λi=>0) 0 ⟨a6,rfl,rfl,rfl,rfl,rfl,rfl,⟨_,aX,Tf _⟩,?_⟩ ?_
 ·rfl
 ·rintro i bn bo ⟨ay,a7,a8,a9,ba,bb,bc,⟨az,ao,bp⟩,hinv⟩;have aM:=a7.trans a2;have aN:=a8.trans a3;have aA:=a9.trans a5;have aB:=ba.trans aG;have aO:=bb.trans aV;have aC:=bc.trans aH
  (subst hinv)
  refine aj<|at_<|ar (cL ay aA) rfl<|bV (ae rfl aM) (ae rfl aN) (ae rfl aA) (ae rfl ay) aa ?_;clear aM aN aA ay;intro bq aP be bg bh aQ
  refine ai<|aj<|aW aQ (λab=>?_) (λab=>?_)
  ·replace ab:=bt ab;cases ab
  replace ab:=bf ab;refine dD<|b7<|b7<|dC<|ai<|at_<|ar (ah aP) rfl<|aL (ig (ic ((yK 10 10 rfl tx (by omega))) [1,2] ao (ax aa (ax al aI)) (by exact .nil) (by decide) (.ob aB (.ob aC .nil)) rfl wq) (iI rfl)) trivial rfl (λaR ak=>?_)
  have aS:aR[1]? =some _:=gv ak (S8 rfl) (by decide) (ee aB (ee aC gA)) 0 rfl rfl
  (try simp only [Ob.rn,rn,rn.rnL,rho,Tj,Tq,TI,TF,TK,Nat.reduceAdd,Nat.reduceSub,TB,TG]at aS)
  have bj:=dE ak (S8 rfl) aO (by decide);have aT:aR[az]? =some _:=jT ak (S8 rfl) ao 0 rfl
  (try simp only [Ob.rn,rn,rn.rnL,rho,Tj,Tq,TI,TF,TK,Nat.reduceAdd,Nat.reduceSub,TB,TG]at aT)
  have bk:_=az+1:=hZ ak ao 1 rfl;clear ak aB aO aC ao;refine lu ?_;clear aP be bg bh aQ;intro br;refine nQ (.inl rfl) [1,az] bk bj (by simp<;>omega) rfl (lY (by kernel_rfl)) (jX aS ?_ (jX aT ?_ .nil)) ?_
  all_goals ((first|rfl|(simp [rowT,fj];rfl)))
end
end Go.Proofs.YtbmlgmblfboigaaGreatDoor
namespace Go.Proofs.YtbmlgmblfboigaaGreatDoor
open Go Go.RowKit Go.Proofs
theorem PZ:bI Tryz.prog 24 95 2 16 (.agg #[.int .i64 0,.int .i64 0]):=⟨by kernel_rfl,by kernel_rfl,by kernel_rfl⟩
theorem xQ:bI Tryz.prog 25 97 3 48 (.agg #[.string ByteArray.empty,.int .i64 0,.slice none 0 0]):=⟨by kernel_rfl,by kernel_rfl,by kernel_rfl⟩
theorem pn:bI Tryz.prog 85 3 1 8 (.int .i64 0):=⟨by kernel_rfl,by kernel_rfl,by kernel_rfl⟩
theorem P0:aN Tryz.prog 24 false 1:=⟨by kernel_rfl,by kernel_rfl⟩
theorem xR:aN Tryz.prog 25 false 1:=⟨by kernel_rfl,by kernel_rfl⟩
theorem pI:aN Tryz.prog 3 false 1:=⟨by kernel_rfl,by kernel_rfl⟩
theorem po:aN Tryz.prog 85 false 1:=⟨by kernel_rfl,by kernel_rfl⟩
theorem yL:aN Tryz.prog 9 false 1:=⟨by kernel_rfl,by kernel_rfl⟩
theorem ET:aN Tryz.prog 97 true 3:=⟨by kernel_rfl,by kernel_rfl⟩
theorem AT{α:Type}[Inhabited α]{l:List α}{j k:Nat}(h:j<k):(l.take k).getD j default=l.getD j default:=by simp [Ta,h]
theorem vF{α:Type}[Inhabited α]{p:α->Bool}{l:List α}{j k:Nat}(hj:j<k)(hk:k<=l.length)(h:p (l.getD j default)=true):(l.take k).any p=true:=by
 rw [Uo];have hl:j<(l.take k).length :=by rw [T8];omega
 refine⟨(l.take k)[j],Um hl,?_⟩;rw [<- AT (l:=l) hj,Ta,Tc hl]at h;exact h
theorem ng{α:Type}[Inhabited α]{p:α->Bool}{l:List α}{k:Nat}(h:∀ j:Nat,j<k->p (l.getD j default)=false):(l.take k).any p=false:=by
 rw [List.any_eq_false];intro x hx;obtain⟨j,hj,rfl⟩:=T0 hx;have hjk:j<k:=by rw [T8]at hj;omega
 have:=h j hjk;rw [<- AT (l:=l) hjk,Ta,Tc hj]at this
 simpa using this
theorem P1{α:Type}[Inhabited α]{p:α->Bool}{l:List α}{j:Nat}(hj:j<l.length)(h:p (l.getD j default)=true):l.any p=true:=by
 have:=vF (k:=l.length) hj (Tf _) h
 rwa [Uz]at this
theorem CO{α:Type}[Inhabited α]{p:α->Bool}{l:List α}(h:∀ j:Nat,j<l.length->p (l.getD j default)=false):l.any p=false:=by
 have:=ng (k:=l.length) h
 rwa [Uz]at this
theorem IN(l:aU)(hl:eE l)(i:Int)(hi:0<=i/\i<l.ss.length):bF Tryz.prog 75 [ep l,mA i] (λq=>q=mA (fq l i.toNat)):=by
 obtain⟨h1,h2,h3,h4,h5⟩:=id hl;have hs:=hl.at i.toNat;refine ck (fn:=Tryz.f75) 92 (by kernel_rfl) rfl (by kernel_rfl) (S8 rfl) ?_;intro cX dS hA cY;have cZ:ag cX (.tmp 0)=_:=hA 0 _ rfl;have c6:ag cX (.tmp 1)=_:=hA 1 _ rfl;have bQ:dS.length=0:=by rw [cY];rfl
 clear hA cY;refine aj<|at_<|aL (dO cZ rfl bQ) trivial rfl (λe6 bS=>?_)
 have bT:=bH bS bQ;have av:=bG bS bQ;have av:_=1:=av;clear bS;refine ar (aw al) rfl<|aY (u2 rfl c6) (ae rfl aa) ?_;clear cZ c6;intro e7 bU bX
 refine ai<|aj<|at_<|ar (aB eF rfl bX) rfl<|ar (ak (aC xR rfl bT aa (au rfl)) (by simp only [pS,Value.cells,Nat.reduceAdd,aK]<;>rfl)) rfl ?_
 refine ar (ah (u2 rfl bU)) rfl<|ar (ak (cr xQ (ae rfl aa) aa (by omega) (by(refine cP ?_;omega))) (by simp only [pS,Value.cells,Nat.reduceAdd,aK]<;>rfl)) rfl ?_
 refine ar (ak (bw ET rfl aa (au rfl)) (by simp only [pS,Value.cells,Nat.reduceAdd,aK]<;>rfl)) rfl ?_;refine aL (cu lU rfl av) trivial rfl (λe8 be=>?_);have bg:=bH be av;simp only [pS,Value.cells,Nat.reduceAdd,aK]at bg;have c7:=aJ be bT;have bY:=bG be av;have bY:_=2:=bY;clear be bT;refine aL (bN aa (ae rfl aa) rfl rfl bg lV rfl (au rfl)) trivial rfl (λc8 bh=>?_);have aD:=bk bh bg;simp only [pS,Value.cells,Nat.reduceAdd,aK]at aD;have bZ:=ao bh c7 (by decide);have c9:=bc bh bY;clear bh bg c7;refine bq (ay (u2 rfl (u4 rfl bU))) (ay (u2 rfl (u4 rfl bX))) (ay aa) ?_;clear bU bX;intro e9 da db b0;refine ai<|aj<|aj<|at_<|ar (aB kj rfl b0) rfl<|ar (ak (aC yL rfl aD aa (au rfl)) (by simp only [pS,Value.cells,Nat.reduceAdd,aK]<;>rfl)) rfl ?_
 refine ar (bj (ax aa aI) rfl (Ac _ (by omega)) E8) rfl ?_;refine ar (di aa) rfl<|aZ (u4 rfl da) (u4 rfl db) (u4 rfl b0) aa ?_;clear da db b0;intro fa b1 b2 b6 b8
 refine ai<|aW b8 (λaE=>?_) (λaE=>?_)
 ·replace aE:=cV aE;refine aj<|at_<|ar (aw al) rfl<|aT aa ?_;clear b8 b1 b2 b6;intro fb dc
  refine ai<|aX<|bO<|bK (.inr rfl) (by kernel_rfl) (aS dc) (.ro _ rfl) ?_
  clear dc aD bZ c9
  (have e:dn (l.ss.getD i.toNat default).nam =false:=(by assumption);unfold fq;rw [e];rfl)
 replace aE:=dj aE;refine br<|ai<|aj<|aj<|at_<|ar (aw al) rfl<|aZ (ae rfl b1) (ae rfl b2) (ae rfl b6) aa ?_;clear b8 b1 b2 b6;intro b9 dd df dg dT
 refine ai<|bP<|dN (S:=Int) (λk e mem=>(ag e (.tmp 6)= .v (.int .i64 k))/\(ag e (.tmp 1)=ag b9 (.tmp 1))/\(ag e (.tmp 2)=ag b9 (.tmp 2))/\(ag e (.tmp 5)=ag b9 (.tmp 5))/\(mem[1]? =c8[1]?)/\(mem[0]? =c8[0]?)/\(mem.length=2)/\((0<=k/\k<=i/\ ∀ j:Nat,j<k.toNat->((l.ss.getD j default).nam.toList ==(l.ss.getD i.toNat default).nam.toList)=false))) (λk=>(i - k).toNat) _ ⟨dT,rfl,rfl,rfl,rfl,rfl,c9,?_⟩ ?_
 ·(exact⟨by omega,by omega,λj h=>absurd h (by omega)⟩)
 ·rintro k fc dk ⟨ca,dU,dV,dW,dX,dY,aF,hinv⟩;have cb:=dU.trans dd;have dl:=dV.trans df;have dm:=dW.trans dg;have ad:=dX.trans aD;have af:=dY.trans bZ
  (obtain⟨p1,p2,p3⟩:=hinv)
  refine aj<|aj<|at_<|ar (ah ca) rfl<|ar (ah (ae rfl cb)) rfl<|ar (cL (ae rfl aa) aa) rfl<|bV (ae rfl (u2 rfl cb)) (ae rfl (u2 rfl dl)) (ae rfl (u2 rfl dm)) (ae rfl (u2 rfl ca)) aa ?_;clear cb dl dm ca;intro fd bm aG an bo cc
  refine ai<|aW cc (λaH=>?_) (λaH=>?_)
  ·replace aH:=bt aH;refine br<|ai<|aj<|bP<|aj<|ey 9 (by kernel_rfl) (by kernel_rfl) (by kernel_rfl) (by kernel_rfl) ?_
   refine dr (aB eF rfl aG) rfl<|dr (ak (aC xR rfl af aa (au rfl)) (by simp only [pS,Value.cells,Nat.reduceAdd,aK]<;>rfl)) rfl ?_
   refine dr (ah (u2 rfl bo)) rfl<|dr (ak (cr xQ (ae rfl aa) aa (by omega) (by(refine cP ?_;omega))) (by simp only [pS,Value.cells,Nat.reduceAdd,aK]<;>rfl)) rfl ?_
   refine dr (ak (bR kj rfl aa) (by simp only [pS,Value.cells,Nat.reduceAdd,aK]<;>rfl)) rfl ?_;refine dr (ak (bw yL rfl aa (au rfl)) (by simp only [pS,Value.cells,Nat.reduceAdd,aK]<;>rfl)) rfl ?_;refine dr (aB kj rfl (u2 rfl (u4 rfl an))) rfl<|dr (ak (aC yL rfl ad aa (au rfl)) (by simp only [pS,Value.cells,Nat.reduceAdd,aK]<;>rfl)) rfl ?_
   refine dr (eG (u2 rfl aa) aa) rfl<|dP<|bV (ae rfl (u8 rfl bm)) (ae rfl (u8 rfl aG)) (ae rfl (u8 rfl an)) (ae rfl (u8 rfl bo)) aa ?_;clear bm cc aG an bo;intro fe cd ce cf cg ci
   refine ai<|aW ci (λdZ=>?_) (λdZ=>?_)
   ·skip;refine aj<|at_<|ar (aw al) rfl<|aT aa ?_;clear cd ce ci cf cg;intro ff dp
    refine ai<|aX<|de<|bO<|bO<|de<|bO<|bK (.inr rfl) (by kernel_rfl) (aS dp) (.ro _ rfl) ?_
    clear dp ad af aF
    (have e:dn (l.ss.getD i.toNat default).nam =true:=(by assumption);have e2:=vF (l:=l.ss) (k:=i.toNat) (p:=λo=>o.nam.toList==(l.ss.getD i.toNat default).nam.toList) (j:=k.toNat) (by omega) (by omega) (by assumption);unfold fq;rw [e,e2];rfl)
   refine br<|cv<|ai<|at_<|ar (ah cg) rfl ?_
   (refine ar (cj aa al ?_) rfl ?_; · (unfold In64;omega))
   refine ar (aw aa) rfl<|aZ (ae rfl (u2 rfl cd)) (ae rfl (u2 rfl ce)) (ae rfl (u2 rfl cf)) aa ?_;clear cd ce ci cf cg;intro fg ea eb ec ed
   refine ai<|⟨_,⟨ed,(ea.trans dd.symm),(eb.trans df.symm),(ec.trans dg.symm),(ad.trans aD.symm),(af.trans bZ.symm),aF,?_⟩,?_⟩
   ·(refine⟨by omega,by omega,λj hj=>?_⟩;by_cases hji:j<k.toNat;(exact p3 j hji);(rw [show j=k.toNat by omega];assumption))
   ·((try dsimp only);omega)
  replace aH:=bf aH;refine dD<|b7<|b7<|dC<|ai<|aj<|aj<|at_<|ar (aB fZ rfl an) rfl<|ar (ak (aC po rfl ad aa (au rfl)) (by simp only [pS,Value.cells,Nat.reduceAdd,aK]<;>rfl)) rfl ?_
  refine ar (ak (bW aa rfl pn.1) (by simp only [bn]<;>rfl)) rfl ?_;refine ar (eH aa al) rfl ?_;refine aZ (u4 rfl bm) (u4 rfl aG) (u4 rfl an) aa ?_;clear bm cc aG an bo;intro fh cm bp aM cn;refine ai<|aW cn (λaN=>?_) (λaN=>?_)
  ·replace aN:=bt aN;refine aj<|at_<|ar (aw al) rfl<|aT aa ?_;clear cm bp cn aM;intro fi dq
   refine ai<|aX<|bO<|bK (.inr rfl) (by kernel_rfl) (aS dq) (.ro _ rfl) ?_
   clear dq ad af aF
   (have e:dn (l.ss.getD i.toNat default).nam =true:=(by assumption);have e2:=ng (l:=l.ss) (k:=i.toNat) (p:=λo=>o.nam.toList==(l.ss.getD i.toNat default).nam.toList) (λj hj=>p3 j (by omega));unfold fq;rw [e,e2,if_pos (show(l.ss.getD i.toNat default).acr.length =0 by omega)];rfl)
  replace aN:=bf aN;refine br<|ai<|aj<|aj<|at_<|ar (aB hU rfl aM) rfl<|ar (ak (aC pI rfl ad aa (au rfl)) (by simp only [pS,Value.cells,Nat.reduceAdd,aK]<;>rfl)) rfl ?_
  refine ar (aB dA rfl (u2 rfl bp)) rfl<|ar (ak (aC P0 rfl af aa (au rfl)) (by simp only [pS,Value.cells,Nat.reduceAdd,aK]<;>rfl)) rfl ?_
  refine ar (ak (bW aa rfl PZ.1) (by simp only [bn]<;>rfl)) rfl ?_;refine ar (aB fZ rfl (ae rfl (u4 rfl aM))) rfl<|ar (ak (aC po rfl ad aa (au rfl)) (by simp only [pS,Value.cells,Nat.reduceAdd,aK]<;>rfl)) rfl ?_
  refine ar (ak (bW aa rfl pn.1) (by simp only [bn]<;>rfl)) rfl ?_
  (refine ar (eL (ae rfl (u2 rfl aa)) aa ?_) rfl ?_; · (unfold In64;omega))
  refine ar (bj (ax (ae rfl (u2 rfl (u4 rfl aa))) (ax al (ax aa aI))) rfl (vQ _ _ _) yi) rfl<|ar (di aa) rfl<|aZ (ae rfl (u2 rfl (u8 rfl cm))) (ae rfl (u2 rfl (u8 rfl bp))) (ae rfl (u2 rfl (u8 rfl aM))) aa ?_;clear cm bp cn aM;intro fj co cp cq ct
  refine ai<|aW ct (λaO=>?_) (λaO=>?_)
  ·replace aO:=cV aO;refine aj<|at_<|ar (aw al) rfl<|aT aa ?_;clear co cp ct cq;intro fk dt
   refine ai<|aX<|bO<|bK (.inr rfl) (by kernel_rfl) (aS dt) (.ro _ rfl) ?_
   clear dt ad af aF
   (have e:dn (l.ss.getD i.toNat default).nam =true:=(by assumption);have e2:=ng (l:=l.ss) (k:=i.toNat) (p:=λo=>o.nam.toList==(l.ss.getD i.toNat default).nam.toList) (λj hj=>p3 j (by omega));unfold fq;rw [e,e2,if_neg (show ¬ (l.ss.getD i.toNat default).acr.length =0 by omega), ‹dh _ _ _=false›];rfl)
  replace aO:=dj aO;refine br<|ai<|aj<|aj<|at_<|ar (aw al) rfl<|aZ (ae rfl co) (ae rfl cp) (ae rfl cq) aa ?_;clear co cp ct cq;intro cw du dv dw ee
  refine ai<|bP<|dN (S:=Int) (λk2 e mem=>(ag e (.tmp 7)= .v (.int .i64 k2))/\(ag e (.tmp 1)=ag cw (.tmp 1))/\(ag e (.tmp 2)=ag cw (.tmp 2))/\(ag e (.tmp 5)=ag cw (.tmp 5))/\(mem[1]? =dk[1]?)/\(mem[0]? =dk[0]?)/\(mem.length=2)/\((0<=k2/\k2<=(l.ss.getD i.toNat default).acr.length /\ ∀ j:Nat,j<k2.toNat->(!eC ((l.ss.getD i.toNat default).acr.getD j default) 20000)=false))) (λk2=>((l.ss.getD i.toNat default).acr.length - k2).toNat) _ ⟨ee,rfl,rfl,rfl,rfl,rfl,aF,?_⟩ ?_
  ·(exact⟨by omega,by omega,λj h=>absurd h (by omega)⟩)
  ·rintro k2 fl dx ⟨cx,ef,eg,eh,ei,ej,cy,hinv⟩;have dy:=ef.trans du;have dz:=eg.trans dv;have cz:=eh.trans dw;have ap:=ei.trans ad;have bu:=ej.trans af
   (obtain⟨q1,q2,q3⟩:=hinv)
   refine aj<|aj<|at_<|ar (ah cx) rfl<|ar (aB fZ rfl (ae rfl cz)) rfl<|ar (ak (aC po rfl ap aa (au rfl)) (by simp only [pS,Value.cells,Nat.reduceAdd,aK]<;>rfl)) rfl ?_
   refine ar (ak (bW aa rfl pn.1) (by simp only [bn]<;>rfl)) rfl ?_;refine ar (cL (ae rfl (u2 rfl aa)) aa) rfl<|bV (ae rfl (u4 rfl dy)) (ae rfl (u4 rfl dz)) (ae rfl (u4 rfl cz)) (ae rfl (u4 rfl cx)) aa ?_;clear dy dz cz cx;intro fm bv bx aP bz cA
   refine ai<|aW cA (λaQ=>?_) (λaQ=>?_)
   ·replace aQ:=bt aQ;refine br<|ai<|aj<|bP<|aj<|at_<|ar (aB fZ rfl aP) rfl<|ar (ak (aC po rfl ap aa (au rfl)) (by simp only [pS,Value.cells,Nat.reduceAdd,aK]<;>rfl)) rfl ?_
    refine ar (ah (u2 rfl bz)) rfl<|ar (ak (cr pn (ae rfl aa) aa (by omega) (by(refine cP ?_;omega))) (by simp only [pS,Value.cells,Nat.reduceAdd,aK]<;>rfl)) rfl ?_
    refine ar (ak (bw pI rfl aa (au rfl)) (by simp only [pS,Value.cells,Nat.reduceAdd,aK]<;>rfl)) rfl ?_;refine ar (bj (ax aa (ax al aI)) rfl (o7 _ _ (by decide)) py) rfl ?_;refine ar (di aa) rfl<|bV (ae rfl (u2 rfl (u4 rfl bv))) (ae rfl (u2 rfl (u4 rfl bx))) (ae rfl (u2 rfl (u4 rfl aP))) (ae rfl (u2 rfl (u4 rfl bz))) aa ?_;clear bv bx cA aP bz;intro fo cB cC cD cE cF
    refine ai<|aW cF (λaR=>?_) (λaR=>?_)
    ·replace aR:=cV aR;refine aj<|at_<|ar (aw al) rfl<|aT aa ?_;clear cB cC cD cF cE;intro fp dB
     refine ai<|aX<|de<|bO<|bO<|de<|bO<|bK (.inr rfl) (by kernel_rfl) (aS dB) (.ro _ rfl) ?_
     clear dB ap bu cy
     (have e:dn (l.ss.getD i.toNat default).nam =true:=(by assumption);have e2:=ng (l:=l.ss) (k:=i.toNat) (p:=λo=>o.nam.toList==(l.ss.getD i.toNat default).nam.toList) (λj hj=>p3 j (by omega));have e4:=P1 (p:=λn=> !eC n 20000) (l:=(l.ss.getD i.toNat default).acr) (j:=k2.toNat) (by omega) (by rw [‹eC _ _=false›];rfl);unfold fq;rw [e,e2,if_neg (show ¬ (l.ss.getD i.toNat default).acr.length =0 by omega), ‹dh _ _ _=true›,e4];rfl)
    replace aR:=dj aR;refine br<|cv<|ai<|at_<|ar (ah cE) rfl ?_
    (refine ar (cj aa al ?_) rfl ?_; · (unfold In64;omega))
    refine ar (aw aa) rfl<|aZ (ae rfl (u2 rfl cB)) (ae rfl (u2 rfl cC)) (ae rfl (u2 rfl cD)) aa ?_;clear cB cC cD cF cE;intro fs ek en eo er
    refine ai<|⟨_,⟨er,(ek.trans du.symm),(en.trans dv.symm),(eo.trans dw.symm),(ap.trans ad.symm),(bu.trans af.symm),cy,?_⟩,?_⟩
    ·(refine⟨by omega,by omega,λj hj=>?_⟩;by_cases hji:j<k2.toNat;(exact q3 j hji);(rw [show j=k2.toNat by omega, ‹eC _ _=true›];rfl))
    ·((try dsimp only);omega)
   replace aQ:=bf aQ;refine dD<|b7<|b7<|dC<|ai<|aj<|aj<|at_<|ar (aw al) rfl<|aZ (ae rfl bv) (ae rfl bx) (ae rfl aP) aa ?_;clear bv bx cA aP bz;intro cG dE dF dG eu
   refine ai<|bP<|dN (S:=Int) (λk3 e mem=>(ag e (.tmp 8)= .v (.int .i64 k3))/\(ag e (.tmp 1)=ag cG (.tmp 1))/\(ag e (.tmp 2)=ag cG (.tmp 2))/\(ag e (.tmp 5)=ag cG (.tmp 5))/\(mem[1]? =dx[1]?)/\(mem[0]? =dx[0]?)/\(∃ n,mem.length=n/\2<=n)/\((0<=k3/\k3<=i/\ ∀ j:Nat,j<k3.toNat->gR (l.ss.getD i.toNat default) (l.ss.getD j default)=false))) (λk3=>(i - k3).toNat) _ ⟨eu,rfl,rfl,rfl,rfl,rfl,⟨_,cy,Tf _⟩,?_⟩ ?_
   ·(exact⟨by omega,by omega,λj h=>absurd h (by omega)⟩)
   ·rintro k3 ft fu ⟨cH,ev,ew,ez,eA,eB,⟨fw,bA,fx⟩,hinv⟩;have cI:=ev.trans dE;have dH:=ew.trans dF;have dI:=ez.trans dG;have cK:=eA.trans ap;have bB:=eB.trans bu
    (obtain⟨r1,r2,r3⟩:=hinv;have hso:=hl.at k3.toNat)
    refine aj<|aj<|at_<|ar (ah cH) rfl<|ar (ah (ae rfl cI)) rfl<|ar (cL (ae rfl aa) aa) rfl<|bV (ae rfl (u2 rfl cI)) (ae rfl (u2 rfl dH)) (ae rfl (u2 rfl dI)) (ae rfl (u2 rfl cH)) aa ?_;clear cI dH dI cH;intro fy cM bC cN bE cO
    refine ai<|aW cO (λaV=>?_) (λaV=>?_)
    ·replace aV:=bt aV;refine br<|ai<|aj<|bP<|aj<|at_<|ar (aB eF rfl bC) rfl<|ar (ak (aC xR rfl bB aa (au rfl)) (by simp only [pS,Value.cells,Nat.reduceAdd,aK]<;>rfl)) rfl ?_
     refine ar (ah (u2 rfl bE)) rfl<|ar (ak (cr xQ (ae rfl aa) aa (by omega) (by(refine cP ?_;omega))) (by simp only [pS,Value.cells,Nat.reduceAdd,aK]<;>rfl)) rfl ?_
     refine ar (ak (bw ET rfl aa (au rfl)) (by simp only [pS,Value.cells,Nat.reduceAdd,aK]<;>rfl)) rfl ?_;refine aL (cu lU rfl bA) trivial rfl (λfz a2=>?_);have bI:=bH a2 bA;simp only [pS,Value.cells,Nat.reduceAdd,aK]at bI;have dJ:=aJ a2 cK;have dK:=aJ a2 bB;have eD:=bG a2 bA;clear a2 cK bB;refine aL (bN aa (ae rfl aa) rfl rfl bI lV rfl (au rfl)) trivial rfl (λeI a3=>?_);have a5:=bk a3 bI;simp only [pS,Value.cells,Nat.reduceAdd,aK]at a5;have a6:=ao a3 dJ (by omega);have dL:=ao a3 dK (by omega);have dM:=bc a3 eD;clear a3 bI dJ dK;refine bV (ay (u2 rfl (u4 rfl cM))) (ay (u2 rfl (u4 rfl bC))) (ay (u2 rfl (u4 rfl cN))) (ay (u2 rfl (u4 rfl bE))) (ay aa) ?_;clear cM bC cN cO bE;intro bL a7 a8 am a9 cQ;refine ai<|aj<|gz (λe mem=>(ag e (.tmp 91)= .v (.bool (gR (l.ss.getD i.toNat default) (l.ss.getD k3.toNat default))))/\(ag e (.tmp 1)=ag bL (.tmp 1))/\(ag e (.tmp 2)=ag bL (.tmp 2))/\(ag e (.tmp 5)=ag bL (.tmp 5))/\(ag e (.tmp 8)=ag bL (.tmp 8))/\eI=mem) ?_ ?_
     ·
      refine at_<|ar (aB hU rfl am) rfl<|ar (ak (aC pI rfl a6 aa (au rfl)) (by simp only [pS,Value.cells,Nat.reduceAdd,aK]<;>rfl)) rfl ?_
      refine ar (aB hU rfl (u2 rfl cQ)) rfl<|ar (ak (aC pI rfl a5 aa (au rfl)) (by simp only [pS,Value.cells,Nat.reduceAdd,aK]<;>rfl)) rfl ?_
      refine ar (aB fZ rfl (u4 rfl cQ)) rfl<|ar (ak (aC po rfl a5 aa (au rfl)) (by simp only [pS,Value.cells,Nat.reduceAdd,aK]<;>rfl)) rfl ?_
      refine ar (ak (bW aa rfl pn.1) (by simp only [bn]<;>rfl)) rfl ?_;refine ar (pD (ae rfl (u2 rfl aa)) aa) rfl<|ar (cL (u2 rfl (u4 rfl aa)) aa) rfl<|ar (ah aa) rfl<|bM aa (λab ba=>?_) (λab ba=>?_)
      ·replace ba:=bt ba;refine aA (aB hU rfl (u2 rfl (u8 rfl cQ))) ⟨_,rfl,ab⟩ rfl ?_;refine aA (ak (aC pI rfl a5 aa (au rfl)) (by simp only [pS,Value.cells,Nat.reduceAdd,aK]<;>rfl)) ⟨_,rfl,(ae rfl ab)⟩ rfl ?_;refine aA (aB hU rfl (u4 rfl (u8 rfl am))) ⟨_,rfl,(u2 rfl ab)⟩ rfl ?_;refine aA (ak (aC pI rfl a6 aa (au rfl)) (by simp only [pS,Value.cells,Nat.reduceAdd,aK]<;>rfl)) ⟨_,rfl,(ae rfl (u2 rfl ab))⟩ rfl ?_;refine aA (aB fZ rfl (u2 rfl (u4 rfl (u8 rfl am)))) ⟨_,rfl,(u4 rfl ab)⟩ rfl ?_;refine aA (ak (aC po rfl a6 aa (au rfl)) (by simp only [pS,Value.cells,Nat.reduceAdd,aK]<;>rfl)) ⟨_,rfl,(ae rfl (u4 rfl ab))⟩ rfl ?_;refine aA (ak (bW aa rfl pn.1) (by simp only [bn]<;>rfl)) ⟨_,rfl,(u2 rfl (u4 rfl ab))⟩ rfl ?_;refine aA (pD (ae rfl (u2 rfl aa)) aa) ⟨_,rfl,(ae rfl (u2 rfl (u4 rfl ab)))⟩ rfl ?_;refine aA (cL (u2 rfl (u4 rfl aa)) aa) ⟨_,rfl,(u8 rfl ab)⟩ rfl ?_;refine ar (bD (ae rfl (u8 rfl ab)) aa) rfl<|bV (u4 rfl (u16 rfl a7)) (u4 rfl (u16 rfl a8)) (u4 rfl (u16 rfl am)) (u4 rfl (u16 rfl a9)) aa ?_;intro fA eJ eK eM eN eO
       refine ai ⟨(eO).trans (by(refine cJ ?_;simp only [gR,decide_eq_true_eq,Tn,true_iff,false_iff, <- wrap_eq];omega)),(eJ).trans (a7).symm,(eK).trans (a8).symm,(eM).trans (am).symm,(eN).trans (a9).symm,rfl⟩
      replace ba:=bf ba;refine az ⟨_,rfl,.inl ab⟩ rfl ?_;refine az ⟨_,rfl,.inl (ae rfl ab)⟩ rfl ?_;refine az ⟨_,rfl,.inl (u2 rfl ab)⟩ rfl ?_;refine az ⟨_,rfl,.inl (ae rfl (u2 rfl ab))⟩ rfl ?_;refine az ⟨_,rfl,.inl (u4 rfl ab)⟩ rfl ?_;refine az ⟨_,rfl,.inl (ae rfl (u4 rfl ab))⟩ rfl ?_;refine az ⟨_,rfl,.inl (u2 rfl (u4 rfl ab))⟩ rfl ?_;refine az ⟨_,rfl,.inl (ae rfl (u2 rfl (u4 rfl ab)))⟩ rfl ?_;refine az ⟨_,rfl,.inl (u8 rfl ab)⟩ rfl ?_;refine ar (bJ (ae rfl (u8 rfl ab)) al) rfl<|bV (u4 rfl (u16 rfl a7)) (u4 rfl (u16 rfl a8)) (u4 rfl (u16 rfl am)) (u4 rfl (u16 rfl a9)) aa ?_;intro fB eP eQ eR eS eT
      refine ai ⟨(eT).trans (by(refine cJ ?_;simp only [gR,decide_eq_true_eq,Tn,true_iff,false_iff, <- wrap_eq];omega)),(eP).trans (a7).symm,(eQ).trans (a8).symm,(eR).trans (am).symm,(eS).trans (a9).symm,rfl⟩
     ·rintro fC _ ⟨cR,eU,eV,eW,eX,rfl⟩;have cS:=eU.trans a7;have cT:=eV.trans a8;have cU:=eW.trans am;have cW:=eX.trans a9;refine aW cR (λbb=>?_) (λbb=>?_)
      ·replace bb:=bt bb;refine aj<|at_<|ar (aw al) rfl<|aT aa ?_;clear cS cT cU cW cR;intro fD dQ
       refine ai<|aX<|de<|bO<|bO<|de<|bO<|bK (.inr rfl) (by kernel_rfl) (aS dQ) (.ro _ rfl) ?_
       clear dQ a5 a6 dL dM
       (have e:dn (l.ss.getD i.toNat default).nam =true:=(by assumption);have e2:=ng (l:=l.ss) (k:=i.toNat) (p:=λo=>o.nam.toList==(l.ss.getD i.toNat default).nam.toList) (λj hj=>p3 j (by omega));have e4:=CO (p:=λn=> !eC n 20000) (l:=(l.ss.getD i.toNat default).acr) (λj hj=>q3 j (by omega));have e5:=vF (l:=l.ss) (k:=i.toNat) (p:=λo=>gR (l.ss.getD i.toNat default) o) (j:=k3.toNat) (by omega) (by omega) (by(simp only [gR,decide_eq_true_eq,decide_eq_false_iff_not];assumption));unfold fq;rw [e,e2,if_neg (show ¬ (l.ss.getD i.toNat default).acr.length =0 by omega), ‹dh _ _ _=true›,e4,e5];rfl)
      replace bb:=bf bb;refine br<|cv<|ai<|at_<|ar (ah cW) rfl ?_
      (refine ar (cj aa al ?_) rfl ?_; · (unfold In64;omega))
      refine ar (aw aa) rfl<|aZ (ae rfl (u2 rfl cS)) (ae rfl (u2 rfl cT)) (ae rfl (u2 rfl cU)) aa ?_;clear cS cT cU cW cR;intro fE eY eZ e0 e3
      refine ai<|⟨_,⟨e3,(eY.trans dE.symm),(eZ.trans dF.symm),(e0.trans dG.symm),(a6.trans ap.symm),(dL.trans bu.symm),⟨_,dM,by omega⟩,?_⟩,?_⟩
      ·(refine⟨by omega,by omega,λj hj=>?_⟩;by_cases hji:j<k3.toNat;(exact r3 j hji);(rw [show j=k3.toNat by omega];(simp only [gR,decide_eq_true_eq,decide_eq_false_iff_not];assumption)))
      ·((try dsimp only);omega)
    replace aV:=bf aV;refine dD<|b7<|b7<|dC<|ai<|aj<|at_<|ar (aw al) rfl<|aT aa ?_;clear cM bC cN cO bE;intro fF dR
    refine ai<|aX<|bK (.inr rfl) (by kernel_rfl) (aS dR) (.ro _ rfl) ?_
    clear dR cK bB bA
    (have e:dn (l.ss.getD i.toNat default).nam =true:=(by assumption);have e2:=ng (l:=l.ss) (k:=i.toNat) (p:=λo=>o.nam.toList==(l.ss.getD i.toNat default).nam.toList) (λj hj=>p3 j (by omega));have e4:=CO (p:=λn=> !eC n 20000) (l:=(l.ss.getD i.toNat default).acr) (λj hj=>q3 j (by omega));have e5:=ng (l:=l.ss) (k:=i.toNat) (p:=λo=>gR (l.ss.getD i.toNat default) o) (λj hj=>r3 j (by omega));unfold fq;rw [e,e2,if_neg (show ¬ (l.ss.getD i.toNat default).acr.length =0 by omega), ‹dh _ _ _=true›,e4,e5];rfl)
theorem JR:∀ args w,(callFunc 75 args).run Tryz.prog w= .ok (.enter 75 args) w:=λ_ _=>by kernel_rfl
theorem wV:bI Tryz.prog 23 59 4 32 (.agg #[.int .i64 0,.int .i64 0,.int .i64 0,.int .i64 0]):=⟨by kernel_rfl,by kernel_rfl,by kernel_rfl⟩
theorem oQ:bI Tryz.prog 24 95 2 16 (.agg #[.int .i64 0,.int .i64 0]):=⟨by kernel_rfl,by kernel_rfl,by kernel_rfl⟩
theorem CP:bI Tryz.prog 25 97 3 48 (.agg #[.string ByteArray.empty,.int .i64 0,.slice none 0 0]):=⟨by kernel_rfl,by kernel_rfl,by kernel_rfl⟩
theorem wW:aN Tryz.prog 23 false 1:=⟨by kernel_rfl,by kernel_rfl⟩
theorem oR:aN Tryz.prog 24 false 1:=⟨by kernel_rfl,by kernel_rfl⟩
theorem CQ:aN Tryz.prog 25 false 1:=⟨by kernel_rfl,by kernel_rfl⟩
theorem M5:aN Tryz.prog 27 true 4:=⟨by kernel_rfl,by kernel_rfl⟩
theorem mG:aN Tryz.prog 3 false 1:=⟨by kernel_rfl,by kernel_rfl⟩
theorem M6:aN Tryz.prog 59 true 4:=⟨by kernel_rfl,by kernel_rfl⟩
theorem P3:aN Tryz.prog 9 false 1:=⟨by kernel_rfl,by kernel_rfl⟩
theorem lJ:aN Tryz.prog 99 true 2:=⟨by kernel_rfl,by kernel_rfl⟩
theorem s8{k:Int}{f:Nat->Int}{n i:Nat}{z:(Int×Int)×Int}(hn:∀ j,j<i->f j=0)(hi:f i≠0)(h:i<n):iK k f n z=((k,(i:Int)),f i):=by
 unfold iK;rw [vZ hn hi h]
theorem my{k:Int}{f:Nat->Int}{n:Nat}{z:(Int×Int)×Int}(hn:∀ j,j<n->f j=0):iK k f n z=z:=by
 unfold iK;rw [sx hn]
theorem P4{l:aU}(h1:dn l.nam=true)(h2:¬ (l.bs.length=0\/l.js.length≠l.bs.length+1))(h3:¬ 40<l.bs.length):b9 l=iK 1 (λi=>iJ (l.js.getD i default)) l.js.length
 (iK 2 (λi=>gQ (l.bs.getD i default)) l.bs.length
  (if 4<l.ss.length then((0,0),8)else iK 3 (fq l) l.ss.length ((0,0),0))):=by
 unfold b9;rw [h1,if_neg h2,if_neg h3];rfl
theorem Hk(l:aU)(hl:eE l):bF Tryz.prog 36 [ep l] (λq=>q= .tuple [.agg [mA (b9 l).1.1,mA (b9 l).1.2],mA (b9 l).2]):=by
 obtain⟨h1,h2,h3,h4,h5⟩:=id hl;refine ck (fn:=Tryz.f36) 129 (by kernel_rfl) rfl (by kernel_rfl) (S8 rfl) ?_;intro eN eO hA dy;have dB:ag eN (.tmp 0)=_:=hA 0 _ rfl;have cE:eO.length=0:=by rw [dy];rfl
 clear hA dy;refine aj<|at_<|aL (dO dB rfl cE) trivial rfl (λgA cF=>?_)
 have dE:=bH cF cE;have a7:=bG cF cE;have a7:_=1:=a7;clear cF;refine aL (cu nW rfl a7) trivial rfl (λcG b8=>?_);have av:=bH b8 a7;simp only [pS,Value.cells,Nat.reduceAdd,aF]at av;have af:=aJ b8 dE;have a5:=bG b8 a7;have a5:_=2:=a5;clear b8 dE;refine ar (aw al) rfl<|aY (u2 rfl aa) (ae rfl aa) ?_;clear dB;intro gB cH dF
 refine ai<|aj<|aj<|at_<|ar (aB mC rfl cH) rfl<|ar (ak (aC P3 rfl af aa (au rfl)) (by simp only [pS,Value.cells,Nat.reduceAdd,aF]<;>rfl)) rfl ?_
 refine ar (bj (ax aa aI) rfl (Ac _ (by omega)) E8) rfl ?_;refine ar (di aa) rfl<|bq (u4 rfl cH) (u4 rfl dF) aa ?_;clear cH dF;intro dH aK aQ dI
 refine ai<|aW dI (λa8=>?_) (λa8=>?_)
 ·replace a8:=cV a8;refine aj<|at_<|ar (dz bY kB kA kz rfl) rfl ?_
  refine aL (bN (ae rfl aQ) aa rfl rfl av ij rfl (au rfl)) trivial rfl (λgC ca=>?_);have cI:=bk ca av;simp only [pS,Value.cells,Nat.reduceAdd,aF]at cI;have eP:=ao ca af (by decide);have eQ:=bc ca a5;clear ca av af;refine ar (aw al) rfl<|aY (ae rfl (ay (ae rfl aQ))) aa ?_;clear dI aK aQ;intro gD dJ dK
  refine ai<|aX<|bO<|dX (.inr rfl) (by kernel_rfl) (eb dJ cI lJ (au rfl) (by simp)) (aS dK) (eV (.ro _ rfl)) (.ro _ rfl) ?_
  clear dJ dK cI eP eQ
  (have e:dn l.nam=false:=(by assumption);rw [show b9 l=((0,0),4)by unfold b9;rw [e];rfl];rfl)
 replace a8:=dj a8;refine br<|ai<|aj<|aj<|gz (λe mem=>(ag e (.tmp 27)= .v (.bool (decide (l.bs.length=0\/l.js.length≠l.bs.length+1))))/\(ag e (.tmp 1)=ag dH (.tmp 1))/\(ag e (.tmp 2)=ag dH (.tmp 2))/\cG=mem) ?_ ?_
 ·
  refine at_<|ar (aB dA rfl aK) rfl<|ar (ak (aC oR rfl af aa (au rfl)) (by simp only [pS,Value.cells,Nat.reduceAdd,aF]<;>rfl)) rfl ?_
  refine ar (ak (bW aa rfl oQ.1) (by simp only [bn]<;>rfl)) rfl ?_;refine ar (eH aa al) rfl ?_;refine ar (ah aa) rfl<|bM aa (λab a9=>?_) (λab a9=>?_)
  ·replace a9:=bt a9;refine az ⟨_,rfl,.inl ab⟩ rfl ?_;refine az ⟨_,rfl,.inl (ae rfl ab)⟩ rfl ?_;refine az ⟨_,rfl,.inl (u2 rfl ab)⟩ rfl ?_;refine az ⟨_,rfl,.inl (ae rfl (u2 rfl ab))⟩ rfl ?_;refine az ⟨_,rfl,.inl (u4 rfl ab)⟩ rfl ?_;refine az ⟨_,rfl,.inl (ae rfl (u4 rfl ab))⟩ rfl ?_;refine az ⟨_,rfl,.inl (u2 rfl (u4 rfl ab))⟩ rfl ?_;refine az ⟨_,rfl,.inl (ae rfl (u2 rfl (u4 rfl ab)))⟩ rfl ?_;refine ar (bD (u8 rfl ab) al) rfl<|bq (u2 rfl (u4 rfl (u8 rfl aK))) (u2 rfl (u4 rfl (u8 rfl aQ))) aa ?_;intro gE eR eS eT
   refine ai ⟨(eT).trans (by(refine cJ ?_;simp only [decide_eq_true_eq,Tn,true_iff,false_iff,iff_true,iff_false,TQ,decide_eq_false_iff_not];omega)),(eR).trans (aK).symm,(eS).trans (aQ).symm,rfl⟩
  replace a9:=bf a9;refine aA (aB dW rfl (ae rfl (u4 rfl aK))) ⟨_,rfl,ab⟩ rfl ?_;refine aA (ak (aC wW rfl af aa (au rfl)) (by simp only [pS,Value.cells,Nat.reduceAdd,aF]<;>rfl)) ⟨_,rfl,(ae rfl ab)⟩ rfl ?_;refine aA (ak (bW aa rfl wV.1) (by simp only [bn]<;>rfl)) ⟨_,rfl,(u2 rfl ab)⟩ rfl ?_;refine aA (aB dA rfl (u8 rfl aK)) ⟨_,rfl,(ae rfl (u2 rfl ab))⟩ rfl ?_;refine aA (ak (aC oR rfl af aa (au rfl)) (by simp only [pS,Value.cells,Nat.reduceAdd,aF]<;>rfl)) ⟨_,rfl,(u4 rfl ab)⟩ rfl ?_;refine aA (ak (bW aa rfl oQ.1) (by simp only [bn]<;>rfl)) ⟨_,rfl,(ae rfl (u4 rfl ab))⟩ rfl ?_
  (refine aA (cj aa al ?_) ⟨_,rfl,(u2 rfl (u4 rfl ab))⟩ rfl ?_; · (unfold In64;omega))
  refine aA (ez (u4 rfl aa) aa) ⟨_,rfl,(ae rfl (u2 rfl (u4 rfl ab)))⟩ rfl ?_;refine ar (bJ (u8 rfl ab) aa) rfl<|bq (u2 rfl (u4 rfl (u8 rfl aK))) (u2 rfl (u4 rfl (u8 rfl aQ))) aa ?_;intro gF eU eW eX
  refine ai ⟨(eX).trans (by(refine cJ ?_;simp only [decide_eq_true_eq,Tn,true_iff,false_iff,iff_true,iff_false,TQ,decide_eq_false_iff_not];omega)),(eU).trans (aK).symm,(eW).trans (aQ).symm,rfl⟩
 ·rintro gG _ ⟨cK,eY,eZ,rfl⟩;have cb:=eY.trans aK;have ba:=eZ.trans aQ;refine aW cK (λbb=>?_) (λbb=>?_)
  ·replace bb:=bt bb;refine aj<|at_<|ar (dz bY kB kA kz rfl) rfl ?_
   refine aL (bN (ae rfl ba) aa rfl rfl av ij rfl (au rfl)) trivial rfl (λgH cc=>?_);have cM:=bk cc av;simp only [pS,Value.cells,Nat.reduceAdd,aF]at cM;have e0:=ao cc af (by decide);have e3:=bc cc a5;clear cc av af;refine ar (aw al) rfl<|aY (ae rfl (ay (ae rfl ba))) aa ?_;clear cb cK ba;intro gI dL dM
   refine ai<|aX<|bO<|dX (.inr rfl) (by kernel_rfl) (eb dL cM lJ (au rfl) (by simp)) (aS dM) (eV (.ro _ rfl)) (.ro _ rfl) ?_
   clear dL dM cM e0 e3
   (have e:dn l.nam=true:=(by assumption);have hs:l.bs.length=0\/l.js.length≠l.bs.length+1:=(by assumption);rw [show b9 l=((0,0),10)by unfold b9;simp only [e,Bool.not_true,Tn,if_false,if_pos hs]];rfl)
  replace bb:=bf bb;refine br<|ai<|aj<|aj<|at_<|ar (aB dA rfl cb) rfl<|ar (ak (aC oR rfl af aa (au rfl)) (by simp only [pS,Value.cells,Nat.reduceAdd,aF]<;>rfl)) rfl ?_
  refine ar (ak (bW aa rfl oQ.1) (by simp only [bn]<;>rfl)) rfl ?_;refine ar (eM aa al) rfl<|bq (u4 rfl cb) (u4 rfl ba) aa ?_;clear cb cK ba;intro gJ cN be cO
  refine ai<|aW cO (λbg=>?_) (λbg=>?_)
  ·replace bg:=bt bg;refine aj<|at_<|ar (dz bY kB kA kz rfl) rfl ?_
   refine aL (bN (ae rfl be) aa rfl rfl av ij rfl (au rfl)) trivial rfl (λgK cd=>?_);have cQ:=bk cd av;simp only [pS,Value.cells,Nat.reduceAdd,aF]at cQ;have e4:=ao cd af (by decide);have e5:=bc cd a5;clear cd av af;refine ar (aw al) rfl<|aY (ae rfl (ay (ae rfl be))) aa ?_;clear cN be cO;intro gL dP dQ
   refine ai<|aX<|bO<|dX (.inr rfl) (by kernel_rfl) (eb dP cQ lJ (au rfl) (by simp)) (aS dQ) (eV (.ro _ rfl)) (.ro _ rfl) ?_
   clear dP dQ cQ e4 e5
   (have e:dn l.nam=true:=(by assumption);have hs:¬ (l.bs.length=0\/l.js.length≠l.bs.length+1):=(by assumption);have hg:40<l.bs.length:=(by omega);rw [show b9 l=((0,0),8)by unfold b9;simp only [e,Bool.not_true,Tn,if_false,if_neg hs,if_pos hg]];rfl)
  replace bg:=bf bg
  (have hin:=P4 (l:=l) (by assumption) (by assumption) (by omega))
  refine br<|ai<|aj<|aj<|at_<|ar (aw al) rfl<|bq (ae rfl cN) (ae rfl be) aa ?_;clear cN be cO;intro dS dT dU e6
  refine ai<|bP<|dN (S:=Int) (λk e mem=>(ag e (.tmp 4)= .v (.int .i64 k))/\(ag e (.tmp 1)=ag dS (.tmp 1))/\(ag e (.tmp 2)=ag dS (.tmp 2))/\(mem[1]? =cG[1]?)/\(mem[0]? =cG[0]?)/\(∃ n,mem.length=n/\2<=n)/\((0<=k/\k<=l.js.length/\ ∀ j:Nat,j<k.toNat->iJ (l.js.getD j default)=0))) (λk=>(l.js.length - k).toNat) _ ⟨e6,rfl,rfl,rfl,rfl,⟨_,a5,Tf _⟩,?_⟩ ?_
  ·(exact⟨by omega,by omega,λj h=>absurd h (by omega)⟩)
  ·rintro k gM dV ⟨cR,e7,e8,e9,fa,⟨dY,ce,gN⟩,hinv⟩;have cS:=e7.trans dT;have dZ:=e8.trans dU;have cf:=e9.trans av;have a6:=fa.trans af
   (obtain⟨p1,p2,p3⟩:=hinv)
   refine aj<|aj<|at_<|ar (ah cR) rfl<|ar (aB dW rfl (ae rfl cS)) rfl<|ar (ak (aC wW rfl a6 aa (au rfl)) (by simp only [pS,Value.cells,Nat.reduceAdd,aF]<;>rfl)) rfl ?_
   refine ar (ak (bW aa rfl wV.1) (by simp only [bn]<;>rfl)) rfl ?_;refine ar (cL (ae rfl (u2 rfl aa)) aa) rfl<|aZ (ae rfl (u4 rfl cS)) (ae rfl (u4 rfl dZ)) (ae rfl (u4 rfl cR)) aa ?_;clear cS dZ cR;intro gO bh cg ci cT
   refine ai<|aW cT (λbm=>?_) (λbm=>?_)
   ·replace bm:=bt bm;refine br<|ai<|aj<|bP<|aj<|at_<|ar (aB dW rfl bh) rfl<|ar (ak (aC wW rfl a6 aa (au rfl)) (by simp only [pS,Value.cells,Nat.reduceAdd,aF]<;>rfl)) rfl ?_
    refine ar (ah (u2 rfl ci)) rfl<|ar (ak (cr wV (ae rfl aa) aa (by omega) (by(refine cP ?_;omega))) (by simp only [pS,Value.cells,Nat.reduceAdd,aF]<;>rfl)) rfl ?_
    refine ar (ak (bw M6 rfl aa (au rfl)) (by simp only [pS,Value.cells,Nat.reduceAdd,aF]<;>rfl)) rfl ?_;refine aL (cu pJ rfl ce) trivial rfl (λgR bp=>?_);have cm:=bH bp ce;simp only [pS,Value.cells,Nat.reduceAdd,aF]at cm;have ea:=aJ bp cf;have ec:=aJ bp a6;have fb:=bG bp ce;clear bp cf a6;refine aL (bN aa (ae rfl aa) rfl rfl cm rl rfl (au rfl)) trivial rfl (λfc bu=>?_);have aD:=bk bu cm;simp only [pS,Value.cells,Nat.reduceAdd,aF]at aD;have aT:=ao bu ea (by omega);have bv:=ao bu ec (by omega);have cU:=bc bu fb;clear bu cm ea ec;refine aZ (ay (u2 rfl (u4 rfl bh))) (ay (u2 rfl (u4 rfl cg))) (ay (u2 rfl (u4 rfl ci))) (ay aa) ?_;clear bh cg cT ci;intro cn aM aN aO am;refine ai<|aj<|aj<|gz (λe mem=>(ag e (.tmp 69)= .v (.bool (!gP (l.js.getD k.toNat default))))/\(ag e (.tmp 1)=ag cn (.tmp 1))/\(ag e (.tmp 2)=ag cn (.tmp 2))/\(ag e (.tmp 4)=ag cn (.tmp 4))/\(ag e (.tmp 5)=ag cn (.tmp 5))/\fc=mem) ?_ ?_
    ·
     refine at_<|ar (aB jR rfl am) rfl<|ar (ak (aC mG rfl aD aa (au rfl)) (by simp only [pS,Value.cells,Nat.reduceAdd,aF]<;>rfl)) rfl ?_
     refine ar (bj (ax aa (ax al aI)) rfl (o7 _ _ (by decide)) py) rfl ?_;refine ar (di aa) rfl<|ar (ah aa) rfl<|bM aa (λaE bx=>?_) (λaE bx=>?_)
     ·replace bx:=cV bx;refine az ⟨_,rfl,.inl aE⟩ rfl ?_;refine az ⟨_,rfl,.inl (ae rfl aE)⟩ rfl ?_;refine az ⟨_,rfl,.inl (u2 rfl aE)⟩ rfl ?_;refine az ⟨_,rfl,.inl (ae rfl (u2 rfl aE))⟩ rfl ?_;refine ar (bD (u4 rfl aE) al) rfl<|ar (ah aa) rfl<|az ⟨_,rfl,.inl aa⟩ rfl ?_
      refine az ⟨_,rfl,.inl (ae rfl aa)⟩ rfl ?_;refine az ⟨_,rfl,.inl (u2 rfl aa)⟩ rfl ?_;refine az ⟨_,rfl,.inl (ae rfl (u2 rfl aa))⟩ rfl ?_;refine az ⟨_,rfl,.inl (u4 rfl aa)⟩ rfl ?_;refine ar (bD (ae rfl (u4 rfl aa)) al) rfl<|ar (ah aa) rfl<|az ⟨_,rfl,.inl aa⟩ rfl ?_
      refine az ⟨_,rfl,.inl (ae rfl aa)⟩ rfl ?_;refine az ⟨_,rfl,.inl (u2 rfl aa)⟩ rfl ?_;refine az ⟨_,rfl,.inl (ae rfl (u2 rfl aa))⟩ rfl ?_;refine az ⟨_,rfl,.inl (u4 rfl aa)⟩ rfl ?_;refine ar (bD (ae rfl (u4 rfl aa)) al) rfl<|bV (u8 rfl (u16 rfl aM)) (u8 rfl (u16 rfl aN)) (u8 rfl (u16 rfl aO)) (u8 rfl (u16 rfl am)) aa ?_;intro gS fd fe ff fg fh
      refine ai ⟨(fh).trans (by(refine cJ ?_;unfold gP;simp_all)),(fd).trans (aM).symm,(fe).trans (aN).symm,(ff).trans (aO).symm,(fg).trans (am).symm,rfl⟩
     replace bx:=dj bx;refine aA (aB oW rfl (ae rfl (u4 rfl am))) ⟨_,rfl,aE⟩ rfl ?_;refine aA (ak (aC mG rfl aD aa (au rfl)) (by simp only [pS,Value.cells,Nat.reduceAdd,aF]<;>rfl)) ⟨_,rfl,(ae rfl aE)⟩ rfl ?_;refine aA (bj (ax aa (ax al aI)) rfl (o7 _ _ (by decide)) py) ⟨_,rfl,(u2 rfl aE)⟩ rfl ?_;refine aA (di aa) ⟨_,rfl,(ae rfl (u2 rfl aE))⟩ rfl ?_;refine ar (bJ (u4 rfl aE) aa) rfl<|ar (ah aa) rfl<|bM aa (λan bz=>?_) (λan bz=>?_)
     ·replace bz:=cV bz;refine az ⟨_,rfl,.inl an⟩ rfl ?_;refine az ⟨_,rfl,.inl (ae rfl an)⟩ rfl ?_;refine az ⟨_,rfl,.inl (u2 rfl an)⟩ rfl ?_;refine az ⟨_,rfl,.inl (ae rfl (u2 rfl an))⟩ rfl ?_;refine az ⟨_,rfl,.inl (u4 rfl an)⟩ rfl ?_;refine ar (bD (ae rfl (u4 rfl an)) al) rfl<|ar (ah aa) rfl<|az ⟨_,rfl,.inl aa⟩ rfl ?_
      refine az ⟨_,rfl,.inl (ae rfl aa)⟩ rfl ?_;refine az ⟨_,rfl,.inl (u2 rfl aa)⟩ rfl ?_;refine az ⟨_,rfl,.inl (ae rfl (u2 rfl aa))⟩ rfl ?_;refine az ⟨_,rfl,.inl (u4 rfl aa)⟩ rfl ?_;refine ar (bD (ae rfl (u4 rfl aa)) al) rfl<|bV (u8 rfl (u16 rfl aM)) (u8 rfl (u16 rfl aN)) (u8 rfl (u16 rfl aO)) (u8 rfl (u16 rfl am)) aa ?_;intro gT fi fj fk fl fm
      refine ai ⟨(fm).trans (by(refine cJ ?_;unfold gP;simp_all)),(fi).trans (aM).symm,(fj).trans (aN).symm,(fk).trans (aO).symm,(fl).trans (am).symm,rfl⟩
     replace bz:=dj bz;refine aA (aB fY rfl (ae rfl (u2 rfl (u8 rfl am)))) ⟨_,rfl,an⟩ rfl ?_;refine aA (aB jP rfl aa) ⟨_,rfl,(ae rfl an)⟩ rfl ?_;refine aA (ak (aC mG rfl aD aa (au rfl)) (by simp only [pS,Value.cells,Nat.reduceAdd,aF]<;>rfl)) ⟨_,rfl,(u2 rfl an)⟩ rfl ?_;refine aA (bj (ax aa (ax al aI)) rfl (o7 _ _ (by decide)) py) ⟨_,rfl,(ae rfl (u2 rfl an))⟩ rfl ?_;refine aA (di aa) ⟨_,rfl,(u4 rfl an)⟩ rfl ?_;refine ar (bJ (ae rfl (u4 rfl an)) aa) rfl<|ar (ah aa) rfl<|bM aa (λap bA=>?_) (λap bA=>?_)
     ·replace bA:=cV bA;refine az ⟨_,rfl,.inl ap⟩ rfl ?_;refine az ⟨_,rfl,.inl (ae rfl ap)⟩ rfl ?_;refine az ⟨_,rfl,.inl (u2 rfl ap)⟩ rfl ?_;refine az ⟨_,rfl,.inl (ae rfl (u2 rfl ap))⟩ rfl ?_;refine az ⟨_,rfl,.inl (u4 rfl ap)⟩ rfl ?_;refine ar (bD (ae rfl (u4 rfl ap)) al) rfl<|bV (u8 rfl (u16 rfl aM)) (u8 rfl (u16 rfl aN)) (u8 rfl (u16 rfl aO)) (u8 rfl (u16 rfl am)) aa ?_;intro gU fo fp fs ft fu
      refine ai ⟨(fu).trans (by(refine cJ ?_;unfold gP;simp_all)),(fo).trans (aM).symm,(fp).trans (aN).symm,(fs).trans (aO).symm,(ft).trans (am).symm,rfl⟩
     replace bA:=dj bA;refine aA (aB fY rfl (u2 rfl (u16 rfl am))) ⟨_,rfl,ap⟩ rfl ?_;refine aA (aB jQ rfl aa) ⟨_,rfl,(ae rfl ap)⟩ rfl ?_;refine aA (ak (aC mG rfl aD aa (au rfl)) (by simp only [pS,Value.cells,Nat.reduceAdd,aF]<;>rfl)) ⟨_,rfl,(u2 rfl ap)⟩ rfl ?_;refine aA (bj (ax aa (ax al aI)) rfl (o7 _ _ (by decide)) py) ⟨_,rfl,(ae rfl (u2 rfl ap))⟩ rfl ?_;refine aA (di aa) ⟨_,rfl,(u4 rfl ap)⟩ rfl ?_;refine ar (bJ (ae rfl (u4 rfl ap)) aa) rfl<|bV (u8 rfl (u16 rfl aM)) (u8 rfl (u16 rfl aN)) (u8 rfl (u16 rfl aO)) (u8 rfl (u16 rfl am)) aa ?_;intro gV fw fx fy fz fA
     refine ai ⟨(fA).trans (by(refine cJ ?_;unfold gP;simp_all)),(fw).trans (aM).symm,(fx).trans (aN).symm,(fy).trans (aO).symm,(fz).trans (am).symm,rfl⟩
    ·rintro gW _ ⟨cW,fB,fC,fD,fE,rfl⟩;have cX:=fB.trans aM;have bB:=fC.trans aN;have co:=fD.trans aO;have cp:=fE.trans am;refine aW cW (λbC=>?_) (λbC=>?_)
     ·replace bC:=cV bC;refine aj<|at_<|ar (ah co) rfl<|ar (dz (bo al (bo aa bY)) kB kA kz rfl) rfl ?_
      refine aL (bN (u2 rfl bB) aa rfl rfl aT ij rfl (au rfl)) trivial rfl (λgX bE=>?_);have cY:=bk bE aT;simp only [pS,Value.cells,Nat.reduceAdd,aF]at cY;have fF:=ao bE aD (by omega);have fG:=ao bE bv (by decide);have fH:=bc bE cU;clear bE aD aT bv;refine ar (aw al) rfl<|aY (ae rfl (ay (u2 rfl bB))) aa ?_;clear cX bB co cp cW;intro gY ed ee
      refine ai<|aX<|bO<|de<|bO<|bO<|de<|bO<|dX (.inr rfl) (by kernel_rfl) (eb ed cY lJ (au rfl) (by simp)) (aS ee) (eV (.ro _ rfl)) (.ro _ rfl) ?_
      clear ed ee cY fF fG fH
      (have e:iJ (l.js.getD k.toNat default)=2:=(by unfold iJ;rw [‹gP _=false›];rfl);rw [hin,s8 (i:=k.toNat) p3 (by rw [e];decide) (by omega),e];(simp only [UF p1];rfl))
     replace bC:=dj bC;refine br<|ai<|aj<|at_<|ar (aB fY rfl cp) rfl<|ar (aB jP rfl aa) rfl<|ar (ak (aC mG rfl aD aa (au rfl)) (by simp only [pS,Value.cells,Nat.reduceAdd,aF]<;>rfl)) rfl ?_
     refine ar (aB fY rfl (ae rfl (u2 rfl cp))) rfl<|ar (aB jQ rfl aa) rfl<|ar (ak (aC mG rfl aD aa (au rfl)) (by simp only [pS,Value.cells,Nat.reduceAdd,aF]<;>rfl)) rfl ?_
     refine ar (eM (ae rfl (u2 rfl aa)) aa) rfl<|aZ (ae rfl (u2 rfl (u4 rfl cX))) (ae rfl (u2 rfl (u4 rfl bB))) (ae rfl (u2 rfl (u4 rfl co))) aa ?_;clear cX bB co cp cW;intro gZ cZ bI cq c6
     refine ai<|aW c6 (λbK=>?_) (λbK=>?_)
     ·replace bK:=bt bK;refine aj<|at_<|ar (ah cq) rfl<|ar (dz (bo al (bo aa bY)) kB kA kz rfl) rfl ?_
      refine aL (bN (u2 rfl bI) aa rfl rfl aT ij rfl (au rfl)) trivial rfl (λg0 bL=>?_);have c7:=bk bL aT;simp only [pS,Value.cells,Nat.reduceAdd,aF]at c7;have fI:=ao bL aD (by omega);have fJ:=ao bL bv (by decide);have fK:=bc bL cU;clear bL aD aT bv;refine ar (aw al) rfl<|aY (ae rfl (ay (u2 rfl bI))) aa ?_;clear cZ bI cq c6;intro g1 ef eg
      refine ai<|aX<|de<|bO<|bO<|de<|bO<|dX (.inr rfl) (by kernel_rfl) (eb ef c7 lJ (au rfl) (by simp)) (aS eg) (eV (.ro _ rfl)) (.ro _ rfl) ?_
      clear ef eg c7 fI fJ fK
      (have e:iJ (l.js.getD k.toNat default)=9:=(by unfold iJ;rw [‹gP _=true›,if_pos rfl,if_neg (by omega)]);rw [hin,s8 (i:=k.toNat) p3 (by rw [e];decide) (by omega),e];(simp only [UF p1];rfl))
     replace bK:=bf bK;refine br<|cv<|ai<|at_<|ar (ah cq) rfl ?_
     (refine ar (cj aa al ?_) rfl ?_; · (unfold In64;omega))
     refine ar (aw aa) rfl<|bq (ae rfl (u2 rfl cZ)) (ae rfl (u2 rfl bI)) aa ?_;clear cZ bI cq c6;intro g2 fL fM fN
     refine ai<|⟨_,⟨fN,(fL.trans dT.symm),(fM.trans dU.symm),(aT.trans av.symm),(bv.trans af.symm),⟨_,cU,by omega⟩,?_⟩,?_⟩
     ·(refine⟨by omega,by omega,λj hj=>?_⟩;by_cases hji:j<k.toNat;(exact p3 j hji);(rw [show j=k.toNat by omega];unfold iJ;rw [‹gP _=true›,if_pos rfl,if_pos (by omega)]))
     ·((try dsimp only);omega)
   replace bm:=bf bm;refine dD<|b7<|b7<|dC<|ai<|aj<|aj<|at_<|ar (aw al) rfl<|bq (ae rfl bh) (ae rfl cg) aa ?_;clear bh cg cT ci;intro eh ei ej fO
   refine ai<|bP<|dN (S:=Int) (λk2 e mem=>(ag e (.tmp 6)= .v (.int .i64 k2))/\(ag e (.tmp 1)=ag eh (.tmp 1))/\(ag e (.tmp 2)=ag eh (.tmp 2))/\(mem[1]? =dV[1]?)/\(mem[0]? =dV[0]?)/\(mem.length=dY)/\((0<=k2/\k2<=l.bs.length/\ ∀ j:Nat,j<k2.toNat->gQ (l.bs.getD j default)=0))) (λk2=>(l.bs.length - k2).toNat) _ ⟨fO,rfl,rfl,rfl,rfl,ce,?_⟩ ?_
   ·(exact⟨by omega,by omega,λj h=>absurd h (by omega)⟩)
   ·rintro k2 g3 c8 ⟨c9,fP,fQ,fR,fS,ct,hinv⟩;have da:=fP.trans ei;have ek:=fQ.trans ej;have aP:=fR.trans cf;have aG:=fS.trans a6
    (obtain⟨q1,q2,q3⟩:=hinv)
    refine aj<|aj<|at_<|ar (ah c9) rfl<|ar (aB dA rfl (ae rfl da)) rfl<|ar (ak (aC oR rfl aG aa (au rfl)) (by simp only [pS,Value.cells,Nat.reduceAdd,aF]<;>rfl)) rfl ?_
    refine ar (ak (bW aa rfl oQ.1) (by simp only [bn]<;>rfl)) rfl ?_;refine ar (cL (ae rfl (u2 rfl aa)) aa) rfl<|aZ (ae rfl (u4 rfl da)) (ae rfl (u4 rfl ek)) (ae rfl (u4 rfl c9)) aa ?_;clear da ek c9;intro db aH aV aR en
    refine ai<|aW en (λbQ=>?_) (λbQ=>?_)
    ·replace bQ:=bt bQ;refine br<|ai<|aj<|bP<|aj<|gz (λe mem=>(ag e (.tmp 105)= .v (.bool (!j6 (l.bs.getD k2.toNat default))))/\(ag e (.tmp 1)=ag db (.tmp 1))/\(ag e (.tmp 2)=ag db (.tmp 2))/\(ag e (.tmp 6)=ag db (.tmp 6))/\c8=mem) ?_ ?_
     ·
      refine at_<|ar (aB dA rfl aH) rfl<|ar (ak (aC oR rfl aG aa (au rfl)) (by simp only [pS,Value.cells,Nat.reduceAdd,aF]<;>rfl)) rfl ?_
      refine ar (ah (u2 rfl aR)) rfl<|ar (ak (cr oQ (ae rfl aa) aa (by omega) (by(refine cP ?_;omega))) (by rfl)) rfl ?_
      refine ar (ak (bR ki rfl aa) (by simp only [pS,Value.cells,Nat.reduceAdd,aF]<;>rfl)) rfl ?_;refine ar (ak (bw mG rfl aa (au rfl)) (by simp only [pS,Value.cells,Nat.reduceAdd,aF]<;>rfl)) rfl ?_;refine ar (bj (ax aa (ax al (ax al aI))) rfl (vQ _ _ _) yi) rfl<|ar (di aa) rfl<|ar (ah aa) rfl<|bM aa (λad bS=>?_) (λad bS=>?_)
      ·replace bS:=cV bS;refine az ⟨_,rfl,.inl ad⟩ rfl ?_;refine az ⟨_,rfl,.inl (ae rfl ad)⟩ rfl ?_;refine az ⟨_,rfl,.inl (u2 rfl ad)⟩ rfl ?_;refine az ⟨_,rfl,.inl (ae rfl (u2 rfl ad))⟩ rfl ?_;refine az ⟨_,rfl,.inl (u4 rfl ad)⟩ rfl ?_;refine az ⟨_,rfl,.inl (ae rfl (u4 rfl ad))⟩ rfl ?_;refine az ⟨_,rfl,.inl (u2 rfl (u4 rfl ad))⟩ rfl ?_;refine az ⟨_,rfl,.inl (ae rfl (u2 rfl (u4 rfl ad)))⟩ rfl ?_;refine ar (bD (u8 rfl ad) al) rfl<|aZ (u2 rfl (u16 rfl aH)) (u2 rfl (u16 rfl aV)) (u2 rfl (u16 rfl aR)) aa ?_;intro g4 fT fU fV fW
       refine ai ⟨(fW).trans (by(refine cJ ?_;unfold j6;simp_all)),(fT).trans (aH).symm,(fU).trans (aV).symm,(fV).trans (aR).symm,rfl⟩
      replace bS:=dj bS;refine aA (aB dA rfl (ae rfl (u8 rfl aH))) ⟨_,rfl,ad⟩ rfl ?_;refine aA (ak (aC oR rfl aG aa (au rfl)) (by simp only [pS,Value.cells,Nat.reduceAdd,aF]<;>rfl)) ⟨_,rfl,(ae rfl ad)⟩ rfl ?_;refine aA (ah (ae rfl (u2 rfl (u8 rfl aR)))) ⟨_,rfl,(u2 rfl ad)⟩ rfl ?_;refine aA (ak (cr oQ (ae rfl aa) aa (by omega) (by(refine cP ?_;omega))) (by rfl)) ⟨_,rfl,(ae rfl (u2 rfl ad))⟩ rfl ?_;refine aA (ak (bR oY rfl aa) (by rfl)) ⟨_,rfl,(u4 rfl ad)⟩ rfl ?_;refine aA (ak (bw mG rfl aa (au rfl)) (by simp only [pS,Value.cells,Nat.reduceAdd,aF]<;>rfl)) ⟨_,rfl,(ae rfl (u4 rfl ad))⟩ rfl ?_;refine aA (bj (ax aa (ax al aI)) rfl (o7 _ _ (by decide)) py) ⟨_,rfl,(u2 rfl (u4 rfl ad))⟩ rfl ?_;refine aA (di aa) ⟨_,rfl,(ae rfl (u2 rfl (u4 rfl ad)))⟩ rfl ?_;refine ar (bJ (u8 rfl ad) aa) rfl<|aZ (u2 rfl (u16 rfl aH)) (u2 rfl (u16 rfl aV)) (u2 rfl (u16 rfl aR)) aa ?_;intro g5 fX fZ f0 ga
      refine ai ⟨(ga).trans (by(refine cJ ?_;unfold j6;simp_all)),(fX).trans (aH).symm,(fZ).trans (aV).symm,(f0).trans (aR).symm,rfl⟩
     ·rintro g6 _ ⟨dc,gb,gc,gd,rfl⟩;have dd:=gb.trans aH;have bT:=gc.trans aV;have cw:=gd.trans aR;refine aW dc (λbU=>?_) (λbU=>?_)
      ·replace bU:=cV bU;refine aj<|at_<|ar (ah cw) rfl<|ar (dz (bo al (bo aa bY)) kB kA kz rfl) rfl ?_
       refine aL (bN (u2 rfl bT) aa rfl rfl aP ij rfl (au rfl)) trivial rfl (λg7 cx=>?_);have df:=bk cx aP;simp only [pS,Value.cells,Nat.reduceAdd,aF]at df;have ge:=ao cx aG (by decide);have gf:=bc cx ct;clear cx aP aG;refine ar (aw al) rfl<|aY (ae rfl (ay (u2 rfl bT))) aa ?_;clear dc dd bT cw;intro g8 eo er
       refine ai<|aX<|de<|bO<|bO<|de<|bO<|dX (.inr rfl) (by kernel_rfl) (eb eo df lJ (au rfl) (by simp)) (aS er) (eV (.ro _ rfl)) (.ro _ rfl) ?_
       clear eo er df ge gf
       (have e:gQ (l.bs.getD k2.toNat default)=2:=(by unfold gQ;rw [‹j6 _=false›];rfl);rw [hin,my (λj hj=>p3 j (by omega)),s8 (i:=k2.toNat) q3 (by rw [e];decide) (by omega),e];(simp only [UF q1];rfl))
      replace bU:=dj bU;refine br<|cv<|ai<|at_<|ar (ah cw) rfl ?_
      (refine ar (cj aa al ?_) rfl ?_; · (unfold In64;omega))
      refine ar (aw aa) rfl<|bq (ae rfl (u2 rfl dd)) (ae rfl (u2 rfl bT)) aa ?_;clear dc dd bT cw;intro g9 gg gh gi
      refine ai<|⟨_,⟨gi,(gg.trans ei.symm),(gh.trans ej.symm),(aP.trans cf.symm),(aG.trans a6.symm),ct,?_⟩,?_⟩
      ·(refine⟨by omega,by omega,λj hj=>?_⟩;by_cases hji:j<k2.toNat;(exact q3 j hji);(rw [show j=k2.toNat by omega];unfold gQ;rw [‹j6 _=true›,if_pos rfl]))
      ·((try dsimp only);omega)
    replace bQ:=bf bQ;refine dD<|b7<|b7<|dC<|ai<|aj<|aj<|at_<|ar (aB eF rfl aH) rfl<|ar (ak (aC CQ rfl aG aa (au rfl)) (by simp only [pS,Value.cells,Nat.reduceAdd,aF]<;>rfl)) rfl ?_
    refine ar (ak (bW aa rfl CP.1) (by simp only [bn]<;>rfl)) rfl ?_;refine ar (eM aa al) rfl<|bq (u4 rfl aH) (u4 rfl aV) aa ?_;clear aH aV aR en;intro hh dg bX dh
    refine ai<|aW dh (λbZ=>?_) (λbZ=>?_)
    ·replace bZ:=bt bZ;refine aj<|at_<|ar (dz bY kB kA kz rfl) rfl ?_
     refine aL (bN (ae rfl bX) aa rfl rfl aP ij rfl (au rfl)) trivial rfl (λhv cy=>?_);have dk:=bk cy aP;simp only [pS,Value.cells,Nat.reduceAdd,aF]at dk;have gj:=ao cy aG (by decide);have gk:=bc cy ct;clear cy aP aG;refine ar (aw al) rfl<|aY (ae rfl (ay (ae rfl bX))) aa ?_;clear dh dg bX;intro hC eu ev
     refine ai<|aX<|bO<|dX (.inr rfl) (by kernel_rfl) (eb eu dk lJ (au rfl) (by simp)) (aS ev) (eV (.ro _ rfl)) (.ro _ rfl) ?_
     clear eu ev dk gj gk
     (rw [hin,my (λj hj=>p3 j (by omega)),my (λj hj=>q3 j (by omega)),if_pos (by omega)];rfl)
    replace bZ:=bf bZ;refine br<|ai<|aj<|aj<|at_<|ar (aw al) rfl<|bq (ae rfl dg) (ae rfl bX) aa ?_;clear dh dg bX;intro ew ey eA gl
    refine ai<|bP<|dN (S:=Int) (λk3 e mem=>(ag e (.tmp 7)= .v (.int .i64 k3))/\(ag e (.tmp 1)=ag ew (.tmp 1))/\(ag e (.tmp 2)=ag ew (.tmp 2))/\(mem[1]? =c8[1]?)/\(mem[0]? =c8[0]?)/\(mem.length=dY)/\((0<=k3/\k3<=l.ss.length/\ ∀ j:Nat,j<k3.toNat->fq l j=0))) (λk3=>(l.ss.length - k3).toNat) _ ⟨gl,rfl,rfl,rfl,rfl,ct,?_⟩ ?_
    ·(exact⟨by omega,by omega,λj h=>absurd h (by omega)⟩)
    ·rintro k3 hD hE ⟨dl,gm,gn,gp,gq,dm,hinv⟩;have dp:=gm.trans ey;have eB:=gn.trans eA;have a2:=gp.trans aP;have a3:=gq.trans aG
     (obtain⟨r1,r2,r3⟩:=hinv)
     refine aj<|aj<|at_<|ar (ah dl) rfl<|ar (aB eF rfl (ae rfl dp)) rfl<|ar (ak (aC CQ rfl a3 aa (au rfl)) (by simp only [pS,Value.cells,Nat.reduceAdd,aF]<;>rfl)) rfl ?_
     refine ar (ak (bW aa rfl CP.1) (by simp only [bn]<;>rfl)) rfl ?_;refine ar (cL (ae rfl (u2 rfl aa)) aa) rfl<|aZ (ae rfl (u4 rfl dp)) (ae rfl (u4 rfl eB)) (ae rfl (u4 rfl dl)) aa ?_;clear dp eB dl;intro hF cz b0 cA dq
     refine ai<|aW dq (λb1=>?_) (λb1=>?_)
     ·replace b1:=bt b1;refine br<|ai<|aj<|bP<|aj<|at_<|ar (ak (aC M5 rfl a3 cz (au rfl)) (by simp only [pS,Value.cells,Nat.reduceAdd,aF]<;>rfl)) rfl ?_
      refine ar (ah (ae rfl cA)) rfl<|ar (bj (ax (ae rfl aa) (ax aa aI)) rfl (IN l hl k3 ⟨by omega,by omega⟩) JR) rfl ?_
      refine ar (aw aa) rfl<|aZ (u4 rfl cz) (u4 rfl b0) (u4 rfl cA) aa ?_;clear dq cz b0 cA;intro hG eC eD eG dr
      refine ai<|aj<|at_<|ar (ah dr) rfl<|ar (ez aa al) rfl<|bV (u2 rfl eC) (u2 rfl eD) (u2 rfl eG) (u2 rfl dr) aa ?_;clear eC eD eG dr;intro hH dt b2 cB du dv
      refine ai<|aW dv (λb6=>?_) (λb6=>?_)
      ·replace b6:=dR b6;refine aj<|at_<|ar (ah cB) rfl<|ar (dz (bo al (bo aa bY)) kB kA kz rfl) rfl ?_
       refine ar (ah (u2 rfl du)) rfl<|aL (bN (ae rfl (u2 rfl b2)) (ae rfl aa) rfl rfl a2 ij rfl (au rfl)) trivial rfl (λhI cC=>?_)
       have dw:=bk cC a2;simp only [pS,Value.cells,Nat.reduceAdd,aF]at dw;have gr:=ao cC a3 (by decide);have gt:=bc cC dm;clear cC a2 a3;refine ar (aw (ay aa)) rfl<|aY (ae rfl (ay (ae rfl (u2 rfl b2)))) aa ?_;clear dv dt b2 cB du;intro hJ eI eJ
       refine ai<|aX<|de<|bO<|bO<|de<|bO<|dX (.inr rfl) (by kernel_rfl) (eb eI dw lJ (au rfl) (by simp)) (aS eJ) (eV (.ro _ rfl)) (.ro _ rfl) ?_
       clear eI eJ dw gr gt
       (rw [hin,my (λj hj=>p3 j (by omega)),my (λj hj=>q3 j (by omega)),if_neg (by omega),s8 (i:=k3.toNat) r3 (by assumption) (by omega)];(simp only [UF r1];rfl))
      replace b6:=dG b6;refine br<|cv<|ai<|at_<|ar (ah cB) rfl ?_
      (refine ar (cj aa al ?_) rfl ?_; · (unfold In64;omega))
      refine ar (aw aa) rfl<|bq (ae rfl (u2 rfl dt)) (ae rfl (u2 rfl b2)) aa ?_;clear dv dt b2 cB du;intro hK gu gv gw
      refine ai<|⟨_,⟨gw,(gu.trans ey.symm),(gv.trans eA.symm),(a2.trans aP.symm),(a3.trans aG.symm),dm,?_⟩,?_⟩
      ·(refine⟨by omega,by omega,λj hj=>?_⟩;by_cases hji:j<k3.toNat;(exact r3 j hji);(rw [show j=k3.toNat by omega];assumption))
      ·((try dsimp only);omega)
     replace b1:=bf b1;refine dD<|b7<|b7<|dC<|ai<|aj<|at_<|ar (dz bY kB kA kz rfl) rfl ?_
     refine aL (bN (ae rfl b0) aa rfl rfl a2 ij rfl (au rfl)) trivial rfl (λhM cD=>?_);have dx:=bk cD a2;simp only [pS,Value.cells,Nat.reduceAdd,aF]at dx;have gx:=ao cD a3 (by decide);have gy:=bc cD dm;clear cD a2 a3;refine ar (aw al) rfl<|aY (ae rfl (ay (ae rfl b0))) aa ?_;clear dq cz b0 cA;intro hN eK eL
     refine ai<|aX<|dX (.inr rfl) (by kernel_rfl) (eb eK dx lJ (au rfl) (by simp)) (aS eL) (eV (.ro _ rfl)) (.ro _ rfl) ?_
     clear eK eL dx gx gy
     (rw [hin,my (λj hj=>p3 j (by omega)),my (λj hj=>q3 j (by omega)),if_neg (by omega),my (λj hj=>r3 j (by omega))];rfl)
theorem JS:∀ args w,(callFunc 36 args).run Tryz.prog w= .ok (.enter 36 args) w:=λ_ _=>by kernel_rfl
theorem M7:aN Tryz.prog 27 true 4:=⟨by kernel_rfl,by kernel_rfl⟩
def mU(n most limit:Int):Bool:=decide (n<=most\/(limit<n/\n<=limit+3))
theorem FW(n most limit:Int)(hl:0<=limit/\limit<=1000):bF Tryz.prog 38 [mA n,mA most,mA limit] (λq=>q=dH (mU n most limit)):=by
 refine ck (fn:=Tryz.f38) 21 (by kernel_rfl) rfl (by kernel_rfl) (S8 rfl) ?_;intro ap aF hA av;have ax:ag ap (.tmp 0)=_:=hA 0 _ rfl;have ay:ag ap (.tmp 1)=_:=hA 1 _ rfl;have aB:ag ap (.tmp 2)=_:=hA 2 _ rfl;have au:aF.length=0:=by rw [av];rfl
 clear hA av;refine aj<|at_<|ar (aw al) rfl<|bq (ae rfl ax) (ae rfl ay) (ae rfl aB) ?_;clear ax ay aB;intro aG af ao ak
 refine ai<|aj<|at_<|ar (ah af) rfl<|ar (ah (ae rfl ao)) rfl<|ar (fD (ae rfl aa) aa) rfl<|ar (ah aa) rfl<|bM aa (λab am=>?_) (λab am=>?_)
 ·replace am:=bt am;refine az ⟨_,rfl,.inl ab⟩ rfl ?_;refine az ⟨_,rfl,.inl (ae rfl ab)⟩ rfl ?_;refine az ⟨_,rfl,.inl (u2 rfl ab)⟩ rfl ?_;refine az ⟨_,rfl,.inl (ae rfl (u2 rfl ab))⟩ rfl ?_;refine az ⟨_,rfl,.inr aa⟩ rfl ?_;refine az ⟨_,rfl,.inr (ae rfl aa)⟩ rfl ?_;refine az ⟨_,rfl,.inr (u2 rfl aa)⟩ rfl ?_;refine az ⟨_,rfl,.inr (ae rfl (u2 rfl aa))⟩ rfl ?_;refine az ⟨_,rfl,.inl (u8 rfl ab)⟩ rfl ?_;refine ar (bD (ae rfl (u8 rfl ab)) al) rfl<|ar (aw aa) rfl<|aT aa ?_;clear ab af ao ak;intro aH aC
  refine ai<|aX<|bK (.inr rfl) (by kernel_rfl) (aS aC) (.ro _ rfl) ?_
  clear aC au
  (refine cJ ?_;simp only [mU,decide_eq_true_eq,Tn,true_iff,false_iff];omega)
 replace am:=bf am;refine aA (ah (u4 rfl af)) ⟨_,rfl,ab⟩ rfl ?_;refine aA (ah (ae rfl (u4 rfl ak))) ⟨_,rfl,(ae rfl ab)⟩ rfl ?_;refine aA (eM (ae rfl aa) aa) ⟨_,rfl,(u2 rfl ab)⟩ rfl ?_;refine aA (ah aa) ⟨_,rfl,(ae rfl (u2 rfl ab))⟩ rfl ?_;refine bM aa (λad an=>?_) (λad an=>?_)
 ·replace an:=bt an;refine aA (ah (u8 rfl af)) ⟨_,rfl,ad⟩ rfl ?_;refine aA (ah (ae rfl (u8 rfl ak))) ⟨_,rfl,(ae rfl ad)⟩ rfl ?_
  (refine aA (cj aa al ?_) ⟨_,rfl,(u2 rfl ad)⟩ rfl ?_; · (unfold In64;omega))
  refine aA (fD (u2 rfl aa) aa) ⟨_,rfl,(ae rfl (u2 rfl ad))⟩ rfl ?_;refine aA (bD (u4 rfl ad) aa) ⟨_,rfl,(u8 rfl ab)⟩ rfl ?_;refine ar (bJ (ae rfl (u8 rfl ab)) aa) rfl<|ar (aw aa) rfl<|aT aa ?_;clear ab ad af ao ak;intro aI aD
  refine ai<|aX<|bK (.inr rfl) (by kernel_rfl) (aS aD) (.ro _ rfl) ?_
  clear aD au
  (refine cJ ?_;simp only [mU,decide_eq_true_eq,Tn,true_iff,false_iff];omega)
 replace an:=bf an;refine az ⟨_,rfl,.inl ad⟩ rfl ?_;refine az ⟨_,rfl,.inl (ae rfl ad)⟩ rfl ?_;refine az ⟨_,rfl,.inl (u2 rfl ad)⟩ rfl ?_;refine az ⟨_,rfl,.inl (ae rfl (u2 rfl ad))⟩ rfl ?_;refine aA (bJ (u4 rfl ad) al) ⟨_,rfl,(u8 rfl ab)⟩ rfl ?_;refine ar (bJ (ae rfl (u8 rfl ab)) aa) rfl<|ar (aw aa) rfl<|aT aa ?_;clear ab ad af ao ak;intro aJ aE
 refine ai<|aX<|bK (.inr rfl) (by kernel_rfl) (aS aE) (.ro _ rfl) ?_
 clear aE au
 (refine cJ ?_;simp only [mU,decide_eq_true_eq,Tn,true_iff,false_iff];omega)
theorem Ah(l:aU)(hl:eE l):bF Tryz.prog 13 [ep l] (λq=>q=mA (b9 l).2):=by
 refine ck (fn:=Tryz.f13) 11 (by kernel_rfl) rfl (by kernel_rfl) (S8 rfl) ?_;intro aK aM hA aA;have aB:ag aK (.tmp 0)=_:=hA 0 _ rfl;have an:aM.length=0:=by rw [aA];rfl
 clear hA aA;refine aj<|at_<|aL (dO aB rfl an) trivial rfl (λaP ap=>?_)
 have av:=bH ap an;have ab:=bG ap an;have ab:_=1:=ab;clear ap;refine ar (aw al) rfl<|aT (ae rfl aa) ?_;clear aB;intro aQ aD
 refine ai<|aj<|at_<|ar (ak (aC M7 rfl av aD (au rfl)) (by simp only [pS,Value.cells,Nat.reduceAdd]<;>rfl)) rfl ?_
 refine ar (bj (ax aa aI) rfl (Hk l hl) JS) rfl<|ar (ah aa) rfl<|ar (cH aa rfl) rfl<|ar (cH (ae rfl aa) rfl) rfl<|aL (cu nW rfl ab) trivial rfl (λaR ad=>?_)
 have af:=bH ad ab;simp only [pS,Value.cells,Nat.reduceAdd]at af;have aE:=aJ ad av;have az:=bG ad ab;have az:_=2:=az;clear ad av;refine aL (bN aa (u2 rfl aa) rfl rfl af ij rfl (au rfl)) trivial rfl (λaV am=>?_);have aF:=bk am af;simp only [pS,Value.cells,Nat.reduceAdd]at aF;have aN:=ao am aE (by decide);have aO:=bc am az;clear am af aE;refine ar (aw (ay (ae rfl aa))) rfl<|aT aa ?_;clear aD;intro aW aG
 refine ai<|aj<|at_<|ar (ah aG) rfl<|ar (aw aa) rfl<|aT aa ?_;clear aG;intro aY aH
 refine ai<|aX<|bK (.inr rfl) (by kernel_rfl) (aS aH) (.ro _ rfl) ?_
 clear aH aF aN aO;rfl
def pV(n lo hi:Int):Int:=if dh n lo hi then 0 else 6
def ca(bs:List fu):Nat->Int
 | 0=>0
 | n+1=>ca bs n+(bs.getD n default).len
theorem xU{bs:List fu}(h:∀ j:Nat,j<bs.length->0<=(bs.getD j default).len /\(bs.getD j default).len <=30000):∀ {n:Nat},n<=bs.length->0<=ca bs n/\ca bs n<=30000*n
 | 0,_=>by simp [ca]
 | n+1,hn=>by
  have h1:=xU h (n:=n) (by omega);have h2:=h n (by omega);simp only [ca];omega
theorem AU:∀ args w,(callFunc 38 args).run Tryz.prog w= .ok (.enter 38 args) w:=λ_ _=>by kernel_rfl
theorem M8:bI Tryz.prog 23 59 4 32 (.agg #[.int .i64 0,.int .i64 0,.int .i64 0,.int .i64 0]):=⟨by kernel_rfl,by kernel_rfl,by kernel_rfl⟩
theorem M9:bI Tryz.prog 24 95 2 16 (.agg #[.int .i64 0,.int .i64 0]):=⟨by kernel_rfl,by kernel_rfl,by kernel_rfl⟩
theorem s9:bI Tryz.prog 25 97 3 48 (.agg #[.string ByteArray.empty,.int .i64 0,.slice none 0 0]):=⟨by kernel_rfl,by kernel_rfl,by kernel_rfl⟩
theorem Na:bI Tryz.prog 85 3 1 8 (.int .i64 0):=⟨by kernel_rfl,by kernel_rfl,by kernel_rfl⟩
theorem Nb:aN Tryz.prog 23 false 1:=⟨by kernel_rfl,by kernel_rfl⟩
theorem Nc:aN Tryz.prog 24 false 1:=⟨by kernel_rfl,by kernel_rfl⟩
theorem ta:aN Tryz.prog 25 false 1:=⟨by kernel_rfl,by kernel_rfl⟩
theorem Nh:aN Tryz.prog 85 false 1:=⟨by kernel_rfl,by kernel_rfl⟩
theorem EU:aN Tryz.prog 9 false 1:=⟨by kernel_rfl,by kernel_rfl⟩
def m8(s:eu):Bool:=decide (s.nam.size<=20/\s.acr.length<=6)
def j8(l:aU):Bool:=decide (l.nam.size<=20/\(l.bs.length<=8\/(40<l.bs.length/\l.bs.length<=43))/\(l.js.length<=9\/(41<l.js.length/\l.js.length<=44))/\l.ss.length<=6)
def om(l:aU):Bool:=j8 l&&l.ss.all m8
theorem P5{α:Type}[Inhabited α]{p:α->Bool}{l:List α}{j:Nat}(hj:j<l.length)(h:p (l.getD j default)=false):l.all p=false:=by
 rw [List.all_eq_false];exact⟨l[j],Um hj,by rw [Ta,Tc hj]at h;simpa using h⟩
theorem Ni{α:Type}[Inhabited α]{p:α->Bool}{l:List α}(h:∀ j:Nat,j<l.length->p (l.getD j default)=true):l.all p=true:=by
 rw [TJ];intro x hx;obtain⟨j,hj,rfl⟩:=T0 hx;have:=h j hj
 rwa [Ta,Tc hj]at this
theorem Nj{l:aU}(h:om l=true):eE l:=by
 simp only [om,j8,Ti,decide_eq_true_eq,TJ,m8]at h;obtain⟨⟨a,b,c,d⟩,e⟩:=h;exact⟨by omega,by omega,by omega,by omega,λs hs=>by have:=e s hs;omega⟩
theorem xW(l:aU):bF Tryz.prog 10 [ep l] (λq=>q=dH (om l)):=by
 refine ck (fn:=Tryz.f10) 53 (by kernel_rfl) rfl (by kernel_rfl) (S8 rfl) ?_;intro bk bm hA a7;have a8:ag bk (.tmp 0)=_:=hA 0 _ rfl;have aO:bm.length=0:=by rw [a7];rfl
 clear hA a7;refine aj<|at_<|aL (dO a8 rfl aO) trivial rfl (λa9 aP=>?_)
 have av:=bH aP aO;have aN:=bG aP aO;have aN:_=1:=aN;clear aP;refine ar (aw al) rfl<|aT (ae rfl aa) ?_;clear a8;intro bo ad
 refine ai<|aj<|aj<|gz (λe mem=>(ag e (.tmp 27)= .v (.bool (!j8 l)))/\(ag e (.tmp 1)=ag bo (.tmp 1))/\a9=mem) ?_ ?_
 ·
  refine at_<|ar (aB mC rfl ad) rfl<|ar (ak (aC EU rfl av aa (au rfl)) (by simp only [pS,Value.cells,Nat.reduceAdd,aK]<;>rfl)) rfl ?_
  refine ar (hH aa rfl eI) rfl<|ar (eM aa al) rfl<|ar (ah aa) rfl<|bM aa (λaf aD=>?_) (λaf aD=>?_)
  ·replace aD:=bt aD;refine az ⟨_,rfl,.inl af⟩ rfl ?_;refine az ⟨_,rfl,.inl (ae rfl af)⟩ rfl ?_;refine az ⟨_,rfl,.inl (u2 rfl af)⟩ rfl ?_;refine az ⟨_,rfl,.inl (ae rfl (u2 rfl af))⟩ rfl ?_;refine az ⟨_,rfl,.inl (u4 rfl af)⟩ rfl ?_;refine ar (bD (ae rfl (u4 rfl af)) al) rfl<|ar (ah aa) rfl<|az ⟨_,rfl,.inl aa⟩ rfl ?_
   refine az ⟨_,rfl,.inl (ae rfl aa)⟩ rfl ?_;refine az ⟨_,rfl,.inl (u2 rfl aa)⟩ rfl ?_;refine az ⟨_,rfl,.inl (ae rfl (u2 rfl aa))⟩ rfl ?_;refine az ⟨_,rfl,.inl (u4 rfl aa)⟩ rfl ?_;refine ar (bD (ae rfl (u4 rfl aa)) al) rfl<|ar (ah aa) rfl<|az ⟨_,rfl,.inl aa⟩ rfl ?_
   refine az ⟨_,rfl,.inl (ae rfl aa)⟩ rfl ?_;refine az ⟨_,rfl,.inl (u2 rfl aa)⟩ rfl ?_;refine az ⟨_,rfl,.inl (ae rfl (u2 rfl aa))⟩ rfl ?_;refine ar (bD (u4 rfl aa) al) rfl<|aY (u8 rfl (u16 rfl ad)) aa ?_;intro b8 bp bu
   refine ai ⟨(bu).trans (by(refine cJ ?_;simp only [j8,mU,TQ,decide_eq_false_iff_not,decide_eq_true_eq,Tn,true_iff,false_iff,iff_true,iff_false]at*;omega)),(bp).trans (ad).symm,rfl⟩
  replace aD:=bf aD;refine aA (aB dA rfl (ae rfl (u4 rfl ad))) ⟨_,rfl,af⟩ rfl ?_;refine aA (ak (aC Nc rfl av aa (au rfl)) (by simp only [pS,Value.cells,Nat.reduceAdd,aK]<;>rfl)) ⟨_,rfl,(ae rfl af)⟩ rfl ?_;refine aA (ak (bW aa rfl M9.1) (by simp only [bn]<;>rfl)) ⟨_,rfl,(u2 rfl af)⟩ rfl ?_;refine aA (bj (ax aa (ax al (ax al aI))) rfl (FW _ _ _ (by decide)) AU) ⟨_,rfl,(ae rfl (u2 rfl af))⟩ rfl ?_;refine aA (di aa) ⟨_,rfl,(u4 rfl af)⟩ rfl ?_;refine ar (bJ (ae rfl (u4 rfl af)) aa) rfl<|ar (ah aa) rfl<|bM aa (λam aE=>?_) (λam aE=>?_)
  ·replace aE:=dR aE;refine az ⟨_,rfl,.inl am⟩ rfl ?_;refine az ⟨_,rfl,.inl (ae rfl am)⟩ rfl ?_;refine az ⟨_,rfl,.inl (u2 rfl am)⟩ rfl ?_;refine az ⟨_,rfl,.inl (ae rfl (u2 rfl am))⟩ rfl ?_;refine az ⟨_,rfl,.inl (u4 rfl am)⟩ rfl ?_;refine ar (bD (ae rfl (u4 rfl am)) al) rfl<|ar (ah aa) rfl<|az ⟨_,rfl,.inl aa⟩ rfl ?_
   refine az ⟨_,rfl,.inl (ae rfl aa)⟩ rfl ?_;refine az ⟨_,rfl,.inl (u2 rfl aa)⟩ rfl ?_;refine az ⟨_,rfl,.inl (ae rfl (u2 rfl aa))⟩ rfl ?_;refine ar (bD (u4 rfl aa) al) rfl<|aY (u8 rfl (u16 rfl ad)) aa ?_;intro b9 bv bx
   refine ai ⟨(bx).trans (by(refine cJ ?_;simp only [j8,mU,TQ,decide_eq_false_iff_not,decide_eq_true_eq,Tn,true_iff,false_iff,iff_true,iff_false]at*;omega)),(bv).trans (ad).symm,rfl⟩
  replace aE:=dG aE;refine aA (aB dW rfl (u4 rfl (u8 rfl ad))) ⟨_,rfl,am⟩ rfl ?_;refine aA (ak (aC Nb rfl av aa (au rfl)) (by simp only [pS,Value.cells,Nat.reduceAdd,aK]<;>rfl)) ⟨_,rfl,(ae rfl am)⟩ rfl ?_;refine aA (ak (bW aa rfl M8.1) (by simp only [bn]<;>rfl)) ⟨_,rfl,(u2 rfl am)⟩ rfl ?_;refine aA (bj (ax aa (ax al (ax al aI))) rfl (FW _ _ _ (by decide)) AU) ⟨_,rfl,(ae rfl (u2 rfl am))⟩ rfl ?_;refine aA (di aa) ⟨_,rfl,(u4 rfl am)⟩ rfl ?_;refine ar (bJ (ae rfl (u4 rfl am)) aa) rfl<|ar (ah aa) rfl<|bM aa (λan aF=>?_) (λan aF=>?_)
  ·replace aF:=dR aF;refine az ⟨_,rfl,.inl an⟩ rfl ?_;refine az ⟨_,rfl,.inl (ae rfl an)⟩ rfl ?_;refine az ⟨_,rfl,.inl (u2 rfl an)⟩ rfl ?_;refine az ⟨_,rfl,.inl (ae rfl (u2 rfl an))⟩ rfl ?_;refine ar (bD (u4 rfl an) al) rfl<|aY (u8 rfl (u16 rfl ad)) aa ?_;intro ca bz bA
   refine ai ⟨(bA).trans (by(refine cJ ?_;simp only [j8,mU,TQ,decide_eq_false_iff_not,decide_eq_true_eq,Tn,true_iff,false_iff,iff_true,iff_false]at*;omega)),(bz).trans (ad).symm,rfl⟩
  replace aF:=dG aF;refine aA (aB eF rfl (ae rfl (u2 rfl (u16 rfl ad)))) ⟨_,rfl,an⟩ rfl ?_;refine aA (ak (aC ta rfl av aa (au rfl)) (by simp only [pS,Value.cells,Nat.reduceAdd,aK]<;>rfl)) ⟨_,rfl,(ae rfl an)⟩ rfl ?_;refine aA (ak (bW aa rfl s9.1) (by simp only [bn]<;>rfl)) ⟨_,rfl,(u2 rfl an)⟩ rfl ?_;refine aA (eM aa al) ⟨_,rfl,(ae rfl (u2 rfl an))⟩ rfl ?_;refine ar (bJ (u4 rfl an) aa) rfl<|aY (u8 rfl (u16 rfl ad)) aa ?_;intro cb bB bC
  refine ai ⟨(bC).trans (by(refine cJ ?_;simp only [j8,mU,TQ,decide_eq_false_iff_not,decide_eq_true_eq,Tn,true_iff,false_iff,iff_true,iff_false]at*;omega)),(bB).trans (ad).symm,rfl⟩
 ·rintro cc _ ⟨aQ,bE,rfl⟩;have aR:=bE.trans ad;refine aW aQ (λaG=>?_) (λaG=>?_)
  ·replace aG:=dR aG;refine aj<|at_<|ar (aw al) rfl<|aT aa ?_;clear aR aQ;intro cd ba
   refine ai<|aX<|bO<|bK (.inr rfl) (by kernel_rfl) (aS ba) (.ro _ rfl) ?_
   clear ba av aN
   (have e:j8 l=false:=(by unfold j8;rw [decide_eq_false_iff_not];assumption);rw [om,e];rfl)
  replace aG:=dG aG
  (have hf0:j8 l=true:=(by unfold j8;rw [decide_eq_true_eq];assumption);have hss:l.ss.length<=6:=(by simp only [j8,decide_eq_true_eq]at hf0;exact hf0.2.2.2))
  refine br<|ai<|aj<|aj<|at_<|ar (aw al) rfl<|aY (ae rfl aR) aa ?_;clear aR aQ;intro bI bb bL
  refine ai<|bP<|dN (S:=Int) (λk e mem=>(ag e (.tmp 3)= .v (.int .i64 k))/\(ag e (.tmp 1)=ag bI (.tmp 1))/\(mem[0]? =a9[0]?)/\(mem.length=1)/\((0<=k/\k<=l.ss.length/\ ∀ j:Nat,j<k.toNat->m8 (l.ss.getD j default)=true))) (λk=>(l.ss.length - k).toNat) _ ⟨bL,rfl,rfl,aN,?_⟩ ?_
  ·(exact⟨by omega,by omega,λj h=>absurd h (by omega)⟩)
  ·rintro k ce bN ⟨aV,bQ,bS,aZ,hinv⟩;have a2:=bQ.trans bb;have ay:=bS.trans av
   (obtain⟨p1,p2,p3⟩:=hinv)
   refine aj<|aj<|at_<|ar (ah aV) rfl<|ar (aB eF rfl (ae rfl a2)) rfl<|ar (ak (aC ta rfl ay aa (au rfl)) (by simp only [pS,Value.cells,Nat.reduceAdd,aK]<;>rfl)) rfl ?_
   refine ar (ak (bW aa rfl s9.1) (by simp only [bn]<;>rfl)) rfl ?_;refine ar (cL (ae rfl (u2 rfl aa)) aa) rfl<|bq (ae rfl (u4 rfl a2)) (ae rfl (u4 rfl aV)) aa ?_;clear a2 aV;intro bc ao ap be
   refine ai<|aW be (λaH=>?_) (λaH=>?_)
   ·replace aH:=bt aH;refine br<|ai<|aj<|bP<|aj<|gz (λe mem=>(ag e (.tmp 52)= .v (.bool (!m8 (l.ss.getD k.toNat default))))/\(ag e (.tmp 1)=ag bc (.tmp 1))/\(ag e (.tmp 3)=ag bc (.tmp 3))/\bN=mem) ?_ ?_
    ·
     refine at_<|ar (aB eF rfl ao) rfl<|ar (ak (aC ta rfl ay aa (au rfl)) (by simp only [pS,Value.cells,Nat.reduceAdd,aK]<;>rfl)) rfl ?_
     refine ar (ah (u2 rfl ap)) rfl<|ar (ak (cr s9 (ae rfl aa) aa (by omega) (by(refine cP ?_;omega))) (by simp only [pS,Value.cells,Nat.reduceAdd,aK]<;>rfl)) rfl ?_
     refine ar (ak (bR kj rfl aa) (by simp only [pS,Value.cells,Nat.reduceAdd,aK]<;>rfl)) rfl ?_;refine ar (ak (bw EU rfl aa (au rfl)) (by simp only [pS,Value.cells,Nat.reduceAdd,aK]<;>rfl)) rfl ?_;refine ar (hH aa rfl eI) rfl<|ar (eM aa al) rfl<|ar (ah aa) rfl<|bM aa (λab aJ=>?_) (λab aJ=>?_)
     ·replace aJ:=bt aJ;refine az ⟨_,rfl,.inl ab⟩ rfl ?_;refine az ⟨_,rfl,.inl (ae rfl ab)⟩ rfl ?_;refine az ⟨_,rfl,.inl (u2 rfl ab)⟩ rfl ?_;refine az ⟨_,rfl,.inl (ae rfl (u2 rfl ab))⟩ rfl ?_;refine az ⟨_,rfl,.inl (u4 rfl ab)⟩ rfl ?_;refine az ⟨_,rfl,.inl (ae rfl (u4 rfl ab))⟩ rfl ?_;refine az ⟨_,rfl,.inl (u2 rfl (u4 rfl ab))⟩ rfl ?_;refine az ⟨_,rfl,.inl (ae rfl (u2 rfl (u4 rfl ab)))⟩ rfl ?_;refine ar (bD (u8 rfl ab) al) rfl<|bq (u2 rfl (u16 rfl ao)) (u2 rfl (u16 rfl ap)) aa ?_;intro cf bT bU bV
      refine ai ⟨(bV).trans (by(refine cJ ?_;simp only [m8,TQ,decide_eq_false_iff_not,decide_eq_true_eq,Tn,true_iff,false_iff];omega)),(bT).trans (ao).symm,(bU).trans (ap).symm,rfl⟩
     replace aJ:=bf aJ;refine aA (aB eF rfl (ae rfl (u8 rfl ao))) ⟨_,rfl,ab⟩ rfl ?_;refine aA (ak (aC ta rfl ay aa (au rfl)) (by simp only [pS,Value.cells,Nat.reduceAdd,aK]<;>rfl)) ⟨_,rfl,(ae rfl ab)⟩ rfl ?_;refine aA (ah (ae rfl (u2 rfl (u8 rfl ap)))) ⟨_,rfl,(u2 rfl ab)⟩ rfl ?_;refine aA (ak (cr s9 (ae rfl aa) aa (by omega) (by(refine cP ?_;omega))) (by simp only [pS,Value.cells,Nat.reduceAdd,aK]<;>rfl)) ⟨_,rfl,(ae rfl (u2 rfl ab))⟩ rfl ?_;refine aA (ak (bR fZ rfl aa) (by simp only [pS,Value.cells,Nat.reduceAdd,aK]<;>rfl)) ⟨_,rfl,(u4 rfl ab)⟩ rfl ?_;refine aA (ak (bw Nh rfl aa (au rfl)) (by simp only [pS,Value.cells,Nat.reduceAdd,aK]<;>rfl)) ⟨_,rfl,(ae rfl (u4 rfl ab))⟩ rfl ?_;refine aA (ak (bW aa rfl Na.1) (by simp only [bn]<;>rfl)) ⟨_,rfl,(u2 rfl (u4 rfl ab))⟩ rfl ?_;refine aA (eM aa al) ⟨_,rfl,(ae rfl (u2 rfl (u4 rfl ab)))⟩ rfl ?_;refine ar (bJ (u8 rfl ab) aa) rfl<|bq (u2 rfl (u16 rfl ao)) (u2 rfl (u16 rfl ap)) aa ?_;intro cg bX bY bZ
     refine ai ⟨(bZ).trans (by(refine cJ ?_;simp only [m8,TQ,decide_eq_false_iff_not,decide_eq_true_eq,Tn,true_iff,false_iff];omega)),(bX).trans (ao).symm,(bY).trans (ap).symm,rfl⟩
    ·rintro ci _ ⟨a3,b0,b1,rfl⟩;have a5:=b0.trans ao;have a6:=b1.trans ap;refine aW a3 (λaM=>?_) (λaM=>?_)
     ·replace aM:=dR aM;refine aj<|at_<|ar (aw al) rfl<|aT aa ?_;clear a5 a6 a3;intro cm bg
      refine ai<|aX<|de<|bO<|bO<|de<|bO<|bK (.inr rfl) (by kernel_rfl) (aS bg) (.ro _ rfl) ?_
      clear bg ay aZ
      (rw [om,hf0,P5 (j:=k.toNat) (by omega) (by(unfold m8;rw [decide_eq_false_iff_not];assumption))];rfl)
     replace aM:=dG aM;refine br<|cv<|ai<|at_<|ar (ah a6) rfl ?_
     (refine ar (cj aa al ?_) rfl ?_; · (unfold In64;omega))
     refine ar (aw aa) rfl<|aY (ae rfl (u2 rfl a5)) aa ?_;clear a5 a6 a3;intro cn b2 b6
     refine ai<|⟨_,⟨b6,(b2.trans bb.symm),(ay.trans av.symm),aZ,?_⟩,?_⟩
     ·(refine⟨by omega,by omega,λj hj=>?_⟩;by_cases hji:j<k.toNat;(exact p3 j hji);(rw [show j=k.toNat by omega];(unfold m8;rw [decide_eq_true_eq];assumption)))
     ·((try dsimp only);omega)
   replace aH:=bf aH;refine dD<|b7<|b7<|dC<|ai<|aj<|at_<|ar (aw al) rfl<|aT aa ?_;clear ao be ap;intro co bh
   refine ai<|aX<|bK (.inr rfl) (by kernel_rfl) (aS bh) (.ro _ rfl) ?_
   clear bh ay aZ
   (rw [om,hf0,Ni (λj hj=>p3 j (by omega))];rfl)
theorem JU:∀ args w,(callFunc 42 args).run Tryz.prog w= .ok (.enter 42 args) w:=λ_ _=>by kernel_rfl
theorem CS:bI Tryz.prog 23 59 4 32 (.agg #[.int .i64 0,.int .i64 0,.int .i64 0,.int .i64 0]):=⟨by kernel_rfl,by kernel_rfl,by kernel_rfl⟩
theorem CU:bI Tryz.prog 24 95 2 16 (.agg #[.int .i64 0,.int .i64 0]):=⟨by kernel_rfl,by kernel_rfl,by kernel_rfl⟩
theorem tc:bI Tryz.prog 25 97 3 48 (.agg #[.string ByteArray.empty,.int .i64 0,.slice none 0 0]):=⟨by kernel_rfl,by kernel_rfl,by kernel_rfl⟩
theorem CV:bI Tryz.prog 85 3 1 8 (.int .i64 0):=⟨by kernel_rfl,by kernel_rfl,by kernel_rfl⟩
theorem Nk:aN Tryz.prog 23 false 1:=⟨by kernel_rfl,by kernel_rfl⟩
theorem Nl:aN Tryz.prog 24 false 1:=⟨by kernel_rfl,by kernel_rfl⟩
theorem CW:aN Tryz.prog 25 false 1:=⟨by kernel_rfl,by kernel_rfl⟩
theorem CX:aN Tryz.prog 27 true 4:=⟨by kernel_rfl,by kernel_rfl⟩
theorem Nn:aN Tryz.prog 85 false 1:=⟨by kernel_rfl,by kernel_rfl⟩
theorem CY:aN Tryz.prog 97 true 3:=⟨by kernel_rfl,by kernel_rfl⟩
theorem gh(a:ByteArray)(b:Int)(c:List Int): [[AV.v (.string a),AV.v (.int .i64 b),AV.row 1 (c.map iE)]]= [(⟨a,b,c⟩:eu)].map aK:=rfl
theorem Np{l:List eu}{i:Int}(h0:0<=i)(h:i<l.length):l.take (i+1).toNat =l.take i.toNat++ [l.getD i.toNat default]:=by
 rw [show(i+1).toNat =i.toNat+1 by omega,U4,Tc (by omega:i.toNat<l.length),Ta,Tc (by omega:i.toNat<l.length)];rfl
theorem Hz(xs:List Int)(hc:xs.length<=1000000):bF Tryz.prog 42 [.row 1 (xs.map iE)] (λq=>q= .row 1 (xs.map iE)):=by
 refine ck (fn:=Tryz.f42) 6 (by kernel_rfl) rfl (by kernel_rfl) (S8 rfl) ?_;intro am an hA ab;have ad:ag am (.tmp 0)=_:=hA 0 _ rfl;have ao:an.length=0:=by rw [ab];rfl
 clear hA ab;refine aj<|at_<|ar (aw al) rfl<|aT (ae rfl ad) ?_;clear ad;intro ap af
 refine ai<|aj<|at_<|ar (xw CV) rfl<|ar (ah (ae rfl af)) rfl<|ar (yv CV rfl (ae rfl aa) aa (by simp only [bn]<;>omega)) rfl ?_
 refine ar (aw aa) rfl<|aT aa ?_;clear af;intro au ak
 refine ai<|aX<|bK (.inr rfl) (by kernel_rfl) (aS ak) (.ro _ rfl) ?_
 clear ak ao;rfl
theorem CZ(l:aU)(hl:eE l):bF Tryz.prog 12 [ep l] (λq=>q=ep l):=by
 obtain⟨h1,h2,h3,h4,h5⟩:=id hl;refine ck (fn:=Tryz.f12) 39 (by kernel_rfl) rfl (by kernel_rfl) (S8 rfl) ?_;intro cM cN hA bJ;have bL:ag cM (.tmp 0)=_:=hA 0 _ rfl;have bg:cN.length=0:=by rw [bJ];rfl
 clear hA bJ;refine aj<|at_<|aL (dO bL rfl bg) trivial rfl (λdk bh=>?_)
 have bM:=bH bh bg;have aA:=bG bh bg;have aA:_=1:=aA;clear bh;refine aL (cu ri rfl aA) trivial rfl (λdl aQ=>?_);have bm:=bH aQ aA;simp only [pS,Value.cells,Nat.reduceAdd,aK,gh,aP]at bm;have aR:=aJ aQ bM;have bp:=bG aQ aA;have bp:_=2:=bp;clear aQ bM;refine aY (ae rfl aa) aa ?_;clear bL;intro dm aS bO;refine ai<|aj<|at_<|ar (xw CS) rfl<|ar (aB dW rfl (ae rfl aS)) rfl<|ar (ak (aC Nk rfl aR aa (au rfl)) (by simp only [pS,Value.cells,Nat.reduceAdd,aK,gh,aP]<;>rfl)) rfl ?_
 refine ar (yv CS rfl (u2 rfl aa) aa (by simp only [bn]<;>omega)) rfl ?_;refine ar (aB dW rfl (u4 rfl aS)) rfl<|aL (bN aa (ae rfl aa) rfl rfl aR F4 rfl (au rfl)) trivial rfl (λdn aV=>?_)
 have aD:=bk aV aR;simp only [pS,Value.cells,Nat.reduceAdd,aK,gh,aP]at aD;have bQ:=ao aV bm (by decide);have cO:=bc aV bp;clear aV bm aR;refine aY (ay (ae rfl (u4 rfl aS))) (ay (ae rfl (u4 rfl bO))) ?_;clear aS bO;intro dp a2 bR;refine ai<|aj<|at_<|ar (xw CU) rfl<|ar (aB dA rfl (ae rfl a2)) rfl<|ar (ak (aC Nl rfl aD aa (au rfl)) (by simp only [pS,Value.cells,Nat.reduceAdd,aK,gh,aP]<;>rfl)) rfl ?_
 refine ar (yv CU rfl (u2 rfl aa) aa (by simp only [bn]<;>omega)) rfl ?_;refine ar (aB dA rfl (u4 rfl a2)) rfl<|aL (bN aa (ae rfl aa) rfl rfl aD F5 rfl (au rfl)) trivial rfl (λdq a3=>?_)
 have bS:=bk a3 aD;simp only [pS,Value.cells,Nat.reduceAdd,aK,gh,aP]at bS;have cQ:=ao a3 bQ (by decide);have bu:=bc a3 cO;clear a3 aD bQ;refine aY (ay (ae rfl (u4 rfl a2))) (ay (ae rfl (u4 rfl bR))) ?_;clear a2 bR;intro dr bT bU;refine ai<|aj<|at_<|ar (aw al) rfl<|bq (ae rfl bT) (ae rfl bU) aa ?_;clear bT bU;intro dt bX bZ b0
 refine ai<|aj<|aj<|at_<|ar (aw al) rfl<|aZ (ae rfl bX) (ae rfl bZ) (ae rfl b0) aa ?_;clear bX bZ b0;intro du cR cS cT cU
 refine ai<|bP<|Bn 97 3 cT bu (λb1 ad aE aF=>?_)
 have cV:=bH aE bu;have b2:=aJ aE bS;have b6:=aJ aE cQ;have bv:=bG aE bu;have bv:_=3:=bv;have b8:ag ad (.tmp 1)=_:=(congrArg (λq=>ag q (.tmp 1)) aF).trans (ae rfl cR);have b9:ag ad (.tmp 2)=_:=(congrArg (λq=>ag q (.tmp 2)) aF).trans (ae rfl cS);have cW:ag ad (.tmp 3)=_:=(congrArg (λq=>ag q (.tmp 3)) aF).trans aa;have cX:ag ad (.tmp 4)=_:=(congrArg (λq=>ag q (.tmp 4)) aF).trans (ae rfl cU);clear aE aF;refine dN (S:=(Int×List eu)) (λs e mem=>match s with|⟨k,xs⟩=>(ag e (.tmp 4)= .v (.int .i64 k))/\(ag e (.tmp 1)=ag ad (.tmp 1))/\(ag e (.tmp 2)=ag ad (.tmp 2))/\(mem[0]? =b1[0]?)/\(mem[1]? =b1[1]?)/\(∃ j,ag e (.tmp 3)= .own j/\mem[j]? =some (.row 97 3 (xs.map aK))/\j≠0/\j≠1)/\(∃ n,mem.length=n/\3<=n)/\((0<=k/\k<=l.ss.length/\xs=l.ss.take k.toNat))) (λs=>match s with|⟨k,xs⟩=>(l.ss.length - k).toNat) ⟨_,[]⟩ ⟨cX,rfl,rfl,rfl,rfl,⟨_,cW,cV,(by decide),(by decide)⟩,⟨_,bv,Tf _⟩,?_⟩ ?_
 ·(exact⟨by omega,by omega,rfl⟩)
 ·rintro⟨k,xs⟩ dv dw ⟨bx,cY,cZ,c6,c7,⟨dy,ca,af,dz,dB⟩,⟨dE,aG,dF⟩,hinv⟩;have bz:=cY.trans b8;have cb:=cZ.trans b9;have ab:=c6.trans b2;have a5:=c7.trans b6;have dG:=cI af aG
  (obtain⟨p1,p2,p3⟩:=hinv;have hso:=hl.at k.toNat;have hxl:xs.length<=1000000:=(by rw [p3,T8];omega))
  refine aj<|aj<|at_<|ar (ah bx) rfl<|ar (aB eF rfl (ae rfl bz)) rfl<|ar (ak (aC CW rfl ab aa (au rfl)) (by simp only [pS,Value.cells,Nat.reduceAdd,aK,gh,aP]<;>rfl)) rfl ?_
  refine ar (ak (bW aa rfl tc.1) (by simp only [bn]<;>rfl)) rfl ?_;refine ar (cL (ae rfl (u2 rfl aa)) aa) rfl<|bV (ae rfl (u4 rfl bz)) (ae rfl (u4 rfl cb)) (ae rfl (u4 rfl ca)) (ae rfl (u4 rfl bx)) aa ?_;clear bz cb ca bx;intro dH am a6 a7 a8 bA
  refine ai<|aW bA (λaH=>?_) (λaH=>?_)
  ·replace aH:=bt aH;refine br<|ai<|aj<|bP<|aj<|at_<|ar (aB eF rfl am) rfl<|ar (ak (aC CW rfl ab aa (au rfl)) (by simp only [pS,Value.cells,Nat.reduceAdd,aK,gh,aP]<;>rfl)) rfl ?_
   refine ar (ah (u2 rfl a8)) rfl<|ar (ak (cr tc (ae rfl aa) aa (by omega) (by(refine cP ?_;omega))) (by simp only [pS,Value.cells,Nat.reduceAdd,aK,gh,aP]<;>rfl)) rfl ?_
   refine ar (ak (bw CY rfl aa (au rfl)) (by simp only [pS,Value.cells,Nat.reduceAdd,aK,gh,aP]<;>rfl)) rfl ?_;refine aL (cu lU rfl aG) trivial rfl (λdI an=>?_);have a9:=bH an aG;simp only [pS,Value.cells,Nat.reduceAdd,aK,gh,aP]at a9;have cc:=aJ an ab;have cd:=aJ an a5;have ce:=aJ an af;have c8:=bG an aG;clear an ab a5 af;refine aL (bN aa (ae rfl aa) rfl rfl a9 lV rfl (au rfl)) trivial rfl (λdJ ap=>?_);have aM:=bk ap a9;simp only [pS,Value.cells,Nat.reduceAdd,aK,gh,aP]at aM;have cf:=ao ap cc (by omega);have cg:=ao ap cd (by omega);have ci:=ao ap ce (by omega);have c9:=bc ap c8;clear ap a9 cc cd ce;refine bV (ay (u2 rfl (u4 rfl am))) (ay (u2 rfl (u4 rfl a6))) (ay (u2 rfl (u4 rfl a7))) (ay (u2 rfl (u4 rfl a8))) (ay aa) ?_;clear am bA a6 a7 a8;intro dK cm cn co cp ba;refine ai<|aj<|at_<|ar (aB fZ rfl ba) rfl<|ar (ak (aC Nn rfl aM aa (au rfl)) (by simp only [pS,Value.cells,Nat.reduceAdd,aK,gh,aP]<;>rfl)) rfl ?_
   refine ar (bj (ax aa aI) rfl (Hz _ (by omega)) JU) rfl ?_;refine ar (aB fZ rfl (ae rfl (u2 rfl ba))) rfl<|aL (bN aa (ae rfl aa) rfl rfl aM u6 rfl (au rfl)) trivial rfl (λdL av=>?_)
   have bb:=bk av aM;simp only [pS,Value.cells,Nat.reduceAdd,aK,gh,aP]at bb;have cq:=ao av cf (by omega);have ct:=ao av cg (by omega);have cw:=ao av ci (by omega);have bB:=bc av c9;clear av aM cf cg ci;refine bV (ay (u4 rfl cm)) (ay (u4 rfl cn)) (ay (u4 rfl co)) (ay (u4 rfl cp)) (ay (u4 rfl ba)) ?_;clear cm cn co cp ba;intro dM cx cy cz cA cB;refine ai<|at_<|ar (ah cz) rfl<|ar (ak (aC CY rfl bb (ae rfl cB) (au rfl)) (by simp only [pS,Value.cells,Nat.reduceAdd,aK,gh,aP]<;>rfl)) rfl ?_
   refine ar (dT tc (bo aa bY) rfl rfl rfl rfl) rfl<|aL (nP tc rfl bB cw (u2 rfl aa) aa (by rfl) (by simp only [bn]<;>omega)) trivial rfl (λdP az=>?_)
   have cC:=pE az bB;simp only [pS,Value.cells,Nat.reduceAdd,aK,gh,aP]at cC;have dQ:=fU az bb (by omega);have da:=fU az cq (by omega);have db:=fU az ct (by omega);have dc:=oN az bB;clear az bb cq ct cw;refine ar (aw aa) rfl<|aZ (ae rfl (u4 rfl cx)) (ae rfl (u4 rfl cy)) aa (ae rfl (u4 rfl cA)) ?_;clear cx cy cz cA cB;intro dR cD cE cF cG
   refine cv<|ai<|at_<|ar (ah cG) rfl ?_
   (refine ar (cj aa al ?_) rfl ?_; · (unfold In64;omega))
   refine ar (aw aa) rfl<|aZ (ae rfl (u2 rfl cD)) (ae rfl (u2 rfl cE)) (ae rfl (u2 rfl cF)) aa ?_;clear cD cE cF cG;intro dS dd de df dg
   refine ai<|⟨⟨_,_⟩,⟨dg,(dd.trans b8.symm),(de.trans b9.symm),(da.trans b2.symm),(db.trans b6.symm),⟨_,df,cC,(by omega),(by omega)⟩,⟨_,dc,by omega⟩,?_⟩,?_⟩
   ·(refine⟨by omega,by omega,?_⟩;rw [Np p1 (by omega), <- p3])
   ·((try dsimp only);omega)
  replace aH:=bf aH;refine dD<|b7<|b7<|dC<|ai<|aj<|at_<|ar (ah a7) rfl<|ar (aB eF rfl (ae rfl am)) rfl<|aL (kS aa (ae rfl aa) ab af F6 (au rfl)) trivial rfl (λdU aN=>?_)
  have be:=bk aN ab;simp only [pS,Value.cells,Nat.reduceAdd,aK,gh,aP]at be;have bC:=ao aN a5 (by decide);have bD:=ao aN af (by omega);have dh:=bc aN aG;clear aN ab a5 af;refine aY (ay (u2 rfl am)) (ay (u2 rfl a6)) ?_;clear am bA a6 a7 a8;intro dV cH bE;refine ai<|aj<|at_<|ar (ak (aC CX rfl be cH (au rfl)) (by simp only [pS,Value.cells,Nat.reduceAdd,aK,gh,aP]<;>rfl)) rfl ?_
  refine aL (Ar (ae rfl bE) aa rfl (uC rfl (uC rfl (uC rfl (uD bD Bw)))) bC pK rfl (au rfl)) trivial rfl (λdX aO=>?_);have bI:=bk aO bC;simp only [pS,Value.cells,Nat.reduceAdd,aK,gh,aP]at bI;have di:=ao aO be (by decide);have cJ:=ao aO bD (by omega);have dj:=bc aO dh;clear aO be bC bD;refine aT (ay (ae rfl bE)) ?_;clear cH bE;intro dY cK;refine ai<|aX<|bK (.inr rfl) (by kernel_rfl) (eb cK bI CX (au rfl) (by simp)) (eV (nO (dx (.ro _ rfl) (dx (.ro _ rfl) (dx (.ro _ rfl) (dx (.own _ _ _ _ cJ) iD)))))) ?_
  clear cK bI di cJ dj
  (rw [p3,U1 (by omega)])
theorem Nq:aN Tryz.prog 27 true 4:=⟨by kernel_rfl,by kernel_rfl⟩
theorem JV(l:aU)(hl:eE l)(hb:(b9 l).2≠0):bF Tryz.prog 39 [ep l] (λq=>q= .tuple [.v (.pointer none),mA (b9 l).2]):=by
 refine ck (fn:=Tryz.f39) 50 (by kernel_rfl) rfl (by kernel_rfl) (S8 rfl) ?_;intro aQ aR hA aE;have aF:ag aQ (.tmp 0)=_:=hA 0 _ rfl;have ap:aR.length=0:=by rw [aE];rfl
 clear hA aE;refine aj<|at_<|aL (dO aF rfl ap) trivial rfl (λa3 av=>?_)
 have az:=bH av ap;have ab:=bG av ap;have ab:_=1:=ab;clear av;refine ar (aw al) rfl<|ar (aw al) rfl<|aT (u2 rfl aa) ?_;clear aF;intro a5 aA
 refine ai<|aj<|aj<|at_<|ar (ak (aC Nq rfl az aA (au rfl)) (by simp only [pS,Value.cells,Nat.reduceAdd]<;>rfl)) rfl ?_
 refine ar (bj (ax aa aI) rfl (sd l hl) uk) rfl<|ar (ah aa) rfl<|ar (cH aa rfl) rfl<|ar (cH (ae rfl aa) rfl) rfl<|aL (cu nW rfl ab) trivial rfl (λa6 af=>?_)
 have am:=bH af ab;simp only [pS,Value.cells,Nat.reduceAdd]at am;have aG:=aJ af az;have aB:=bG af ab;have aB:_=2:=aB;clear af az;refine aL (bN aa (u2 rfl aa) rfl rfl am ij rfl (au rfl)) trivial rfl (λa7 an=>?_);have aH:=bk an am;simp only [pS,Value.cells,Nat.reduceAdd]at aH;have aV:=ao an aG (by decide);have aZ:=bc an aB;clear an am aG;refine ar (aw (ay (ae rfl aa))) rfl<|aY (ae rfl (ay (u2 rfl (u4 rfl aA)))) aa ?_;clear aA;intro a8 aK aD
 refine ai<|aj<|at_<|ar (ah aD) rfl<|ar (ez aa al) rfl<|bq (u2 rfl aK) (u2 rfl aD) aa ?_;clear aK aD;intro a9 a2 aM aN
 refine ai<|aW aN (λad=>?_) (λad=>?_)
 ·replace ad:=dR ad;refine aj<|at_<|ar (ah aM) rfl<|ar (aw al) rfl<|ar (aw (ae rfl aa)) rfl<|aY (ae rfl aa) aa ?_;clear aN a2 aM;intro ba aO aP
  refine ai<|aX<|bO<|dX (.inr rfl) (by kernel_rfl) (aS aO) (aS aP) (.ro _ rfl) (.ro _ rfl) ?_
  clear aO aP aH aV aZ;rfl
 ·replace ad:=dG ad;exfalso;omega
theorem JX:(Tryz.prog.info? 145).bind (·.zero)=some (.agg #[.string ByteArray.empty,.slice none 0 0,.slice none 0 0,.slice none 0 0,.slice none 0 0]):=by kernel_rfl
theorem JY:Tryz.prog.underlying 145=some (.struct (eB Tryz.prog 145)):=by kernel_rfl
theorem JZ:∀ w,((eB Tryz.prog 145).mapM λf=>Prod.mk f.offset<$>sizeOf f.type:Sem (Array (Nat×Nat))).run Tryz.prog w= .ok (#[(0,4),(4,1)]) w:=λ_=>by kernel_rfl
theorem C0:bI Tryz.prog 24 95 2 16 (.agg #[.int .i64 0,.int .i64 0]):=⟨by kernel_rfl,by kernel_rfl,by kernel_rfl⟩
theorem tf:bI Tryz.prog 85 3 1 8 (.int .i64 0):=⟨by kernel_rfl,by kernel_rfl,by kernel_rfl⟩
theorem Nr:aN Tryz.prog 24 false 1:=⟨by kernel_rfl,by kernel_rfl⟩
theorem C2:aN Tryz.prog 27 true 4:=⟨by kernel_rfl,by kernel_rfl⟩
theorem EV:aN Tryz.prog 3 false 1:=⟨by kernel_rfl,by kernel_rfl⟩
theorem C3:aN Tryz.prog 85 false 1:=⟨by kernel_rfl,by kernel_rfl⟩
theorem Ns:aN Tryz.prog 95 true 2:=⟨by kernel_rfl,by kernel_rfl⟩
def eR(bs:List fu)(n:Nat):List Int:=(List.range (n+1)).map (ca bs)
def jd(l:aU):AV:=.ref (kf l++ [.row 1 ((eR l.bs l.bs.length).map iE)])
theorem Nu{bs:List fu}{n:Nat}:eR bs (n+1)=eR bs n++ [ca bs n+(bs.getD n default).len]:=by
 unfold eR;rw [UJ,Ux];rfl
theorem nC{bs:List fu}{n:Nat}:(eR bs n).length =n+1:=by simp [eR]
theorem jO{bs:List fu}{n j:Nat}(h:j<=n):(eR bs n).getD j default=ca bs j:=by
 rw [Ta];simp [eR,UW (show j<n+1 by omega)]
theorem C4(l:aU)(hl:eE l)(hg:(b9 l).2=0)(hb:l.bs.length<=1000)(hp:∀ j:Nat,j<l.bs.length->0<=(l.bs.getD j default).len /\(l.bs.getD j default).len <=30000):bF Tryz.prog 39 [ep l] (λq=>q= .tuple [jd l,mA 0]):=by
 refine ck (fn:=Tryz.f39) 50 (by kernel_rfl) rfl (by kernel_rfl) (S8 rfl) ?_;intro dh di hA cd;have ce:ag dh (.tmp 0)=_:=hA 0 _ rfl;have bA:di.length=0:=by rw [cd];rfl
 clear hA cd;refine aj<|at_<|aL (dO ce rfl bA) trivial rfl (λdV bB=>?_)
 have a2:=bH bB bA
 (try simp only [pS,Value.cells,Nat.reduceAdd,aH,aV,aP]at a2)
 have aD:=bG bB bA;have aD:_=1:=aD;clear bB;refine ar (aw al) rfl<|ar (aw al) rfl<|aT (u2 rfl aa) ?_;clear ce;intro dW bD
 refine ai<|aj<|aj<|at_<|ar (ak (aC C2 rfl a2 bD (by exact au rfl)) (by(simp only [pS,Value.cells,Nat.reduceAdd,aH,aV,aP]<;>rfl))) rfl ?_
 refine ar (bj (ax aa aI) rfl (sd l hl) uk) rfl<|ar (ah aa) rfl<|ar (cH aa rfl) rfl<|ar (cH (ae rfl aa) rfl) rfl<|aL (cu nW rfl aD) trivial rfl (λdY a3=>?_)
 have a5:=bH a3 aD
 (try simp only [pS,Value.cells,Nat.reduceAdd,aH,aV,aP]at a5)
 have cg:=aJ a3 a2;have bE:=bG a3 aD;have bE:_=2:=bE;clear a3 a2;refine aL (bN aa (u2 rfl aa) rfl rfl a5 ij rfl (by exact au rfl)) trivial rfl (λdZ a6=>?_);have a7:=bk a6 a5
 (try simp only [pS,Value.cells,Nat.reduceAdd,aH,aV,aP]at a7)
 have a8:=ao a6 cg (by decide);have a9:=bc a6 bE;clear a6 a5 cg;refine ar (aw (ay (ae rfl aa))) rfl<|aY (ae rfl (ay (u2 rfl (u4 rfl bD)))) aa ?_;clear bD;intro ea ci bI
 refine ai<|aj<|at_<|ar (ah bI) rfl<|ar (ez aa al) rfl<|bq (u2 rfl ci) (u2 rfl bI) aa ?_;clear ci bI;intro eb ba bJ bK
 refine ai<|aW bK (λab=>?_) (λab=>?_)
 ·skip
  first
  |(cases ab;done)|((replace ab:=dR ab);exfalso;omega)|((first|(simp at ab;done)|(exact absurd hg (by simpa using ab))))
  |((first|replace ab:=dR ab|replace ab:=dG ab|replace ab:=bt ab|replace ab:=bf ab|replace ab:=cV ab|replace ab:=dj ab|skip)
    refine aj<|at_<|ar (ah bJ) rfl<|ar (aw al) rfl<|ar (aw (ae rfl aa)) rfl<|aY (ae rfl aa) aa ?_;clear bK ba bJ;intro ec cm co
    refine ai<|aX<|bO<|dX (.inr rfl) (by kernel_rfl) (aS cm) (aS co) (.ro _ rfl) (.ro _ rfl) ?_
    clear cm co a7 a8 a9;rfl)
 ·skip
  first
  |(cases ab;done)|((replace ab:=dG ab);exfalso;omega)|((first|(simp at ab;done)|(exact absurd hg (by simpa using ab))))
  |((replace ab:=dG ab)
    refine br<|ai<|aj<|at_<|ar (ak (aC C2 rfl a8 ba (by exact au rfl)) (by(simp only [pS,Value.cells,Nat.reduceAdd,aH,aV,aP]<;>rfl))) rfl ?_
    refine aL (QA tf a9 (bo al bY) rfl rfl rfl rfl) trivial rfl (λed aE=>?_);have bL:=bH aE a9
    (try simp only [pS,Value.cells,Nat.reduceAdd,aH,aV,aP]at bL)
    have cp:=aJ aE a7;have cq:=aJ aE a8;have aG:=bG aE a9;have aG:_=3:=aG;clear aE a7 a8;refine ar (dz (bo (ae rfl aa) (bo aa bY)) JX JY JZ rfl) rfl ?_;refine aL (dO aa rfl aG) trivial rfl (λct aA=>?_);have cw:=bH aA aG
    (try simp only [pS,Value.cells,Nat.reduceAdd,aH,aV,aP]at cw)
    have dk:=aJ aA bL;have cx:=aJ aA cp;have bM:=aJ aA cq;have bQ:=bG aA aG;have bQ:_=4:=bQ;clear aA bL cp cq;refine ar (aw aa) rfl<|aY (ae rfl (u4 rfl ba)) aa ?_;clear bK ba bJ;intro ee cy cz
    refine ai<|aj<|aj<|at_<|ar (aB dA rfl cy) rfl<|ar (ak (aC Nr rfl bM aa (by exact au rfl)) (by(simp only [pS,Value.cells,Nat.reduceAdd,aH,aV,aP]<;>rfl))) rfl ?_
    refine ar (ak (bW aa rfl C0.1) (by(simp only [bn]<;>rfl))) rfl ?_;refine ar (ah al) rfl<|aZ (u4 rfl cz) (u2 rfl aa) (ae rfl aa) aa ?_;clear cy cz;intro bR cA cB cC dl
    refine ai<|bP<|dN (S:=(Nat×Int×List Int)) (λs e mem=>match s with|⟨k,i,xs⟩=>(ag e (.tmp 24)= .v (.int .i64 i))/\(ag e (.tmp 6)=ag bR (.tmp 6))/\(ag e (.tmp 22)=ag bR (.tmp 22))/\(ag e (.tmp 23)=ag bR (.tmp 23))/\(mem[3]? =some (.box 145 [.v (.string l.nam),.row 4 (l.js.map aF),.row 2 (l.bs.map aH),.row 3 (l.ss.map aK),.own k]))/\(mem[k]? =some (.row 3 1 (xs.map iE)))/\(mem[1]? =ct[1]?)/\(mem[0]? =ct[0]?)/\(∃ n,mem.length=n/\4<=n)/\((2<=k/\k≠3/\0<=i/\i<=l.bs.length/\xs=eR l.bs i.toNat))) (λs=>match s with|⟨k,i,xs⟩=>(l.bs.length - i).toNat) ⟨_,_,[0]⟩ ⟨dl,rfl,rfl,rfl,cw,dk,rfl,rfl,⟨_,bQ,Tf _⟩,?_⟩ ?_
    ·(exact⟨by omega,by omega,by omega,by omega,rfl⟩)
    ·rintro⟨k,i,xs⟩ ef eg ⟨bS,dm,dn,dp,bT,bb,dq,dr,⟨be,aM,eh⟩,hinv⟩;have cD:=dm.trans cA;have cE:=dn.trans cB;have bU:=dp.trans cC;have bX:=dq.trans cx;have bZ:=dr.trans bM;have ej:=cI bb aM
     (obtain⟨q1,q2,p1,p2,p3⟩:=hinv;have hxl:xs.length=i.toNat+1:=(by rw [p3,nC]);have hbd:=xU hp (n:=i.toNat) (by omega);have hxi:xs.getD i.toNat default=ca l.bs i.toNat:=(by rw [p3];exact jO (Tf _));have hpi:0<=(l.bs.getD i.toNat default).len /\(l.bs.getD i.toNat default).len <=30000:=(by by_cases h:i.toNat<l.bs.length;exact hp _ h;have h0:l.bs.getD i.toNat default=default:=(by rw [Ta,TE (by omega)];rfl);rw [h0];exact⟨by decide,by decide⟩))
     refine aj<|at_<|ar (cL bS bU) rfl<|bV (ae rfl cD) (ae rfl cE) (ae rfl bU) (ae rfl bS) aa ?_;clear cE bU bS cD;intro ek b0 bg b1 aN b2
     refine ai<|aj<|aW b2 (λad=>?_) (λad=>?_)
     ·skip
      first
      |(cases ad;done)|((replace ad:=bt ad);exfalso;omega)|((first|(simp at ad;done)|(exact absurd hg (by simpa using ad))))
      |((replace ad:=bt ad)
        refine br<|ai<|aj<|bP<|aj<|at_<|ar (ah aN) rfl<|ar (ak (cr C0 (ae rfl bg) (ae rfl aN) (by omega) (by(refine cP ?_;omega))) (by(simp only [pS,Value.cells,Nat.reduceAdd,aH,aV,aP]<;>rfl))) rfl ?_
        refine ar (ak (bw Ns rfl aa (by exact au rfl)) (by(simp only [pS,Value.cells,Nat.reduceAdd,aH,aV,aP]<;>rfl))) rfl ?_;refine aL (cu uT rfl aM) trivial rfl (λen am=>?_);have bh:=bH am aM
        (try simp only [pS,Value.cells,Nat.reduceAdd,aH,aV,aP]at bh)
        have cF:=aJ am bT;have cJ:=aJ am bb;have cK:=aJ am bX;have cM:=aJ am bZ;have dt:=bG am aM;clear am bT bb bX bZ;refine ar (aw (ae rfl (u2 rfl aa))) rfl<|aL (bN (ae rfl aa) (u2 rfl aa) rfl rfl bh u7 rfl (by exact au rfl)) trivial rfl (λeo an=>?_)
        have b6:=bk an bh
        (try simp only [pS,Value.cells,Nat.reduceAdd,aH,aV,aP]at b6)
        have cN:=ao an cF (by omega);have cO:=ao an cJ (by omega);have cQ:=ao an cK (by omega);have cR:=ao an cM (by omega);have bm:=bc an dt;clear an bh cF cJ cK cM;refine ei (ay (ae rfl (u4 rfl b0))) (ay aa) (ay (ae rfl aa)) (ay (ae rfl (u4 rfl bg))) (ay (ae rfl (u4 rfl b1))) (ay (ae rfl (u4 rfl aN))) ?_;clear bg b1 aN b2 b0;intro er aO cS cT cU cW cX;refine ai<|fW 17 1 bm (by kernel_rfl) (by kernel_rfl) (by kernel_rfl) (by kernel_rfl) (λdu af=>?_)
        have b8:=bp af b6;have bu:=bp af cN;have bv:=bp af cO;have cY:=bp af cQ;have cZ:=bp af cR;have cb:du[be+1]? =_:=fH af bm 0 rfl rfl;have dv:_=be+1+1:=fX (K:=1) af bm;clear af b6 cN cO cQ cR bm;refine aQ (λM_ hM_=>(ah aO)) trivial ?_;refine aQ (λM_ hM_=>(ah (ae rfl aO))) trivial ?_;refine aQ (λM_ hM_=>(bC aa)) trivial ?_;refine aQ (λM_ hM_=>(aB kV rfl aa)) trivial ?_;refine cG (3) (λM_ hM_=>(ak (aC C3 rfl (cf hM_ bu (by simp)) aa (by exact au rfl)) (by(simp only [pS,Value.cells,Nat.reduceAdd,aH,aV,aP]<;>rfl)))) trivial trivial ?_;refine aQ (λM_ hM_=>(ah (ae rfl (u4 rfl aO)))) trivial ?_;refine aQ (λM_ hM_=>(bC aa)) trivial ?_;refine aQ (λM_ hM_=>(aB kV rfl aa)) trivial ?_;refine cG (3) (λM_ hM_=>(ak (aC C3 rfl (cf hM_ bu (by simp)) aa (by exact au rfl)) (by(simp only [pS,Value.cells,Nat.reduceAdd,aH,aV,aP]<;>rfl)))) trivial trivial ?_;refine aQ (λM_ hM_=>(ah (ae rfl (u8 rfl cS)))) trivial ?_;refine cG (k) (λM_ hM_=>(jk tf (cf hM_ bv (by simp)) (ae rfl aa) aa (by omega) (by(simp only [bn]<;>omega)))) trivial trivial ?_;refine cG (k) (λM_ hM_=>(ak (mz EV rfl (cf hM_ bv (by simp)) aa (by exact au rfl) (by(refine cP ?_;omega))) (by(simp only [pS,Value.cells,Nat.reduceAdd,aH,aV,aP]<;>rfl)))) trivial trivial ?_;refine aQ (λM_ hM_=>(aB ki rfl (u4 rfl (u8 rfl cT)))) trivial ?_;refine cG (be) (λM_ hM_=>(ak (aC EV rfl (cf hM_ b8 (by simp)) aa (by exact au rfl)) (by(simp only [pS,Value.cells,Nat.reduceAdd,aH,aV,aP]<;>rfl)))) trivial trivial ?_
        (refine aQ (λM_ hM_=>(cj (u2 rfl aa) aa ?_)) trivial ?_; · (unfold In64;omega))
        refine aQ (λM_ hM_=>(dT tf (bo aa bY) rfl rfl rfl rfl)) trivial ?_;refine lX (be+1) (k) (λM_ hM_=>(k6 tf rfl (cf hM_ bv (by simp)) (ae rfl (u2 rfl (u8 rfl aa))) aa (by rfl) (by(simp only [bn]<;>omega)))) trivial cb rfl trivial ⟨.inl (by simp<;>omega),⟨.inl (by simp<;>omega),⟨.inl (by simp<;>omega),⟨.inl (by simp<;>omega),⟨.inl (by simp<;>omega),trivial⟩⟩⟩⟩⟩ ⟨.inl (by simp<;>omega),⟨.inl (by simp<;>omega),⟨.inr ((gi 16 15 (by kernel_rfl)).trans ((gi 15 14 (by kernel_rfl)).trans ((gi 14 11 (by kernel_rfl)).trans (gi 11 10 (by kernel_rfl))))),⟨.inr ((gi 16 15 (by kernel_rfl)).trans ((gi 15 14 (by kernel_rfl)).trans (gi 14 11 (by kernel_rfl)))),⟨.inl (by simp<;>omega),trivial⟩⟩⟩⟩⟩ (λeu ap=>?_);have bx:=l6 ap cb
        (try simp only [pS,Value.cells,Nat.reduceAdd,aH,aV,aP]at bx)
        have c6:=cn ap b8 (by omega) (by omega);have cc:=cn ap bu (by omega) (by omega);have c7:=cn ap cY (by omega) (by omega);have c8:=cn ap cZ (by omega) (by omega);have dw:=lQ ap dv;clear ap b8 bu bv cY cZ cb;refine gj rfl ?_;refine ar (bC (u16 rfl aa)) rfl<|ar (aB kV rfl aa) rfl<|aL (kS aa (u2 rfl aa) cc bx u6 (by exact au rfl)) trivial rfl (λev av=>?_)
        have c9:=bk av cc
        (try simp only [pS,Value.cells,Nat.reduceAdd,aH,aV,aP]at c9)
        have dx:=ao av bx (by omega);have ew:=ao av c6 (by omega);have dy:=ao av c7 (by decide);have dB:=ao av c8 (by decide);have dE:=bc av dw;clear av bx c6 cc c7 c8;refine aZ (ay (ae rfl (u2 rfl (u16 rfl aO)))) (ay (ae rfl (u2 rfl (u16 rfl cU)))) (ay (ae rfl (u2 rfl (u16 rfl cW)))) (ay (ae rfl (u2 rfl (u16 rfl cX)))) ?_;clear cU cW cX aO cS cT;intro ey da db dc dd;refine cv<|ai<|at_ ?_
        (refine ar (cj dd al ?_) rfl ?_; · (unfold In64;omega))
        refine ar (ah aa) rfl<|aZ (u2 rfl da) (u2 rfl db) (u2 rfl dc) aa ?_;clear db dc dd da;intro eA dF dH dI dJ
        refine ai<|⟨⟨_,_,_⟩,⟨dJ,(dF.trans cA.symm),(dH.trans cB.symm),(dI.trans cC.symm),c9,dx,(dy.trans cx.symm),(dB.trans bM.symm),⟨_,dE,by omega⟩,?_⟩,?_⟩
        ·(refine⟨by omega,by omega,by omega,by omega,?_⟩;rw [show(i+1).toNat =i.toNat+1 by omega,Nu, <- p3, <- hxi])
        ·((try dsimp only);omega))
     ·skip
      first
      |(cases ad;done)|((replace ad:=bf ad);exfalso;omega)|((first|(simp at ad;done)|(exact absurd hg (by simpa using ad))))
      |((replace ad:=bf ad)
        refine dD<|b7<|b7<|dC<|ai<|aj<|Ik (o:=4) b0 bT bb (by omega) rfl rfl (λeB aR bz az=>?_)
        simp only [UQ,UE]at az;have dK:=ao bz (ao rfl bX (by omega)) (by decide);have dL:=ao bz (ao rfl bZ (by omega)) (by decide);have dM:=bc bz (bc rfl aM);have de:ag aR (.tmp 6)=_:=(congrArg (λq=>ag q (.tmp 6)) az).trans aa;have dP:ag aR (.tmp 22)=_:=(congrArg (λq=>ag q (.tmp 22)) az).trans (ae rfl bg);have dQ:ag aR (.tmp 23)=_:=(congrArg (λq=>ag q (.tmp 23)) az).trans (ae rfl b1);have dS:ag aR (.tmp 24)=_:=(congrArg (λq=>ag q (.tmp 24)) az).trans (ae rfl aN);have dU:ag aR (.tmp 25)=_:=(congrArg (λq=>ag q (.tmp 25)) az).trans (ae rfl b2);clear bz az;refine at_<|ar (ah de) rfl<|ar (aw aa) rfl<|ar (aw al) rfl<|aY (ae rfl aa) aa ?_;clear dP dQ dS dU de;intro eC df dg
        refine ai<|aX<|dX (.inr rfl) (by kernel_rfl) (aS df) (aS dg) (.ro _ rfl) (.ro _ rfl) ?_
        clear df dg dK dL dM
        (rw [p3,show i.toNat=l.bs.length by omega];rfl)))
theorem Nv:bI Tryz.prog 23 59 4 32 (.agg #[.int .i64 0,.int .i64 0,.int .i64 0,.int .i64 0]):=⟨by kernel_rfl,by kernel_rfl,by kernel_rfl⟩
theorem C5:bI Tryz.prog 85 3 1 8 (.int .i64 0):=⟨by kernel_rfl,by kernel_rfl,by kernel_rfl⟩
theorem Nw:aN Tryz.prog 23 false 1:=⟨by kernel_rfl,by kernel_rfl⟩
theorem Nx:aN Tryz.prog 27 true 4:=⟨by kernel_rfl,by kernel_rfl⟩
theorem P6:aN Tryz.prog 3 false 1:=⟨by kernel_rfl,by kernel_rfl⟩
theorem C6:aN Tryz.prog 85 false 1:=⟨by kernel_rfl,by kernel_rfl⟩
theorem xX{f:Nat->Int}:∀ {n i:Nat},fN f n=some i->i<n/\f i≠0
 | 0,_,h=>by cases h
 | n+1,i,h=>by
  simp only [fN]at h;cases h1:fN f n with
  | some k=>rw [h1]at h;cases h;exact⟨by have:=(xX h1).1;omega,(xX h1).2⟩
  | none=>
   rw [h1]at h
   by_cases h2:f n=0
   ·simp [h2]at h
   ·simp [h2]at h;subst h;exact⟨by omega,h2⟩
theorem C7{f:Nat->Int}:∀ {n:Nat},fN f n=none-> ∀ j:Nat,j<n->f j=0
 | 0,_,j,hj=>by omega
 | n+1,h,j,hj=>by
  simp only [fN]at h;cases h1:fN f n with
  | some k=>rw [h1]at h;cases h
  | none=>
   rw [h1]at h
   by_cases h2:f n=0
   ·by_cases hjn:j=n
    ·rw [hjn];exact h2
    ·exact C7 h1 j (by omega)
   ·simp [h2]at h
theorem wu{k:Int}{f:Nat->Int}{n:Nat}{z:(Int×Int)×Int}(h:(iK k f n z).2=0):(∀ j:Nat,j<n->f j=0)/\z.2=0:=by
 unfold iK at h;cases h1:fN f n with
 | some i=>rw [h1]at h;exact absurd h (xX h1).2
 | none=>rw [h1]at h;exact⟨C7 h1,h⟩
structure dc (l:aU):Prop where
 nam:dn l.nam=true
 n0:1<=l.bs.length
 n1:l.bs.length<=40
 js:l.js.length=l.bs.length+1
 ja:∀ j:Nat,j<l.js.length->iJ (l.js.getD j default)=0
 ba:∀ j:Nat,j<l.bs.length->gQ (l.bs.getD j default)=0
 s1:l.ss.length<=4
 sa:∀ j:Nat,j<l.ss.length->fq l j=0
theorem ky{l:aU}(h:(b9 l).2=0):dc l:=by
 unfold b9 at h
 split at h
 ·cases h
 split at h
 ·cases h
 split at h
 ·cases h
 obtain⟨h1,h⟩:=wu h;obtain⟨h2,h⟩:=wu h
 split at h
 ·cases h
 obtain⟨h3,_⟩:=wu h
 rename_i a b c d
 exact⟨by simp_all,by omega,by omega,by omega,h1,h2,by omega,h3⟩
theorem mq{n lo hi:Int}:dh n lo hi=true↔lo<=n/\n<=hi:=by simp [dh]
theorem Rj{n lo hi:Int}:pV n lo hi=0↔lo<=n/\n<=hi:=by
 unfold pV;rw [<- mq];cases dh n lo hi<;>simp
theorem dc.jf{l:aU}(h:dc l)(j:Nat)(hj:j<l.bs.length):1000<=(l.bs.getD j default).len /\(l.bs.getD j default).len <=30000/\ -300<=(l.bs.getD j default).cant /\(l.bs.getD j default).cant <=300:=by
 have:=h.ba j hj;unfold gQ at this
 split at this
 ·rename_i hb
  simp only [j6,eC,Ti,mq]at hb;omega
 ·cases this
theorem dc.m9{l:aU}(h:dc l)(j:Nat)(hj:j<l.js.length):(-20000<=(l.js.getD j default).acr /\(l.js.getD j default).acr <=20000)/\(-20000<=(l.js.getD j default).up /\(l.js.getD j default).up <=20000)/\ -100<=(l.js.getD j default).lo /\(l.js.getD j default).hi <=100/\(l.js.getD j default).lo <=(l.js.getD j default).hi :=by
 have:=h.ja j hj;unfold iJ at this
 split at this
 ·rename_i hb
  split at this
  ·simp only [gP,eC,Ti,mq]at hb;omega
  ·cases this
 ·cases this
theorem dc.len{l:aU}(h:dc l):∀ j:Nat,j<l.bs.length->0<=(l.bs.getD j default).len /\(l.bs.getD j default).len <=30000:=λj hj=>by have:=h.jf j hj;omega
theorem dc.oy{l:aU}(h:dc l){n:Nat}(hn:n<=l.bs.length):0<=ca l.bs n/\ca l.bs n<=1200000:=by
 have:=xU h.len hn;have:=h.n1;omega
theorem vS(l:aU)(hl:eE l)(hg:(b9 l).2=0):bF Tryz.prog 39 [ep l] (λq=>q= .tuple [jd l,mA 0]):=C4 l hl hg (by have:=(ky hg).n1;omega) (ky hg).len
theorem AX(l:aU)(h:dc l):bF Tryz.prog 56 [jd l] (λq=>q=mA (ca l.bs l.bs.length)):=by
 refine ck (fn:=Tryz.f56) 15 (by kernel_rfl) rfl (by kernel_rfl) (S8 rfl) ?_;intro an ao hA ad;have af:ag an (.tmp 0)=_:=hA 0 _ rfl;have ap:ao.length=0:=by rw [ad];rfl
 clear hA ad;have hpl:=nC (bs:=l.bs) (n:=l.bs.length);have hn1:=h.n1;have hn0:=h.n0;refine aj<|at_<|ar (aw al) rfl<|aT (ae rfl af) ?_;clear af;intro av ab
 refine ai<|aj<|ey 13 (by kernel_rfl) (by kernel_rfl) (by kernel_rfl) (by kernel_rfl) ?_
 refine dr (ah ab) rfl<|dr (fh aa) rfl<|dr (ak (bR kV rfl aa) (by simp only [pS,Value.cells,Nat.reduceAdd]<;>rfl)) rfl ?_
 refine dr (ak (bw C6 rfl aa (au rfl)) (by simp only [pS,Value.cells,Nat.reduceAdd]<;>rfl)) rfl ?_;refine dr (ah (u4 rfl ab)) rfl<|dr (fh aa) rfl<|dr (ak (bR kV rfl aa) (by simp only [pS,Value.cells,Nat.reduceAdd]<;>rfl)) rfl ?_
 refine dr (ak (bw C6 rfl aa (au rfl)) (by simp only [pS,Value.cells,Nat.reduceAdd]<;>rfl)) rfl ?_;refine dr (ak (bW aa rfl C5.1) (by simp only [bn]<;>rfl)) rfl ?_
 (refine dr (eL aa al ?_) rfl ?_; · (unfold In64;omega))
 refine dr (ak (cr C5 (u2 rfl (u4 rfl aa)) aa (by omega) (by(refine cP ?_;omega))) (by simp only [pS,Value.cells,Nat.reduceAdd]<;>rfl)) rfl ?_;refine dr (ak (bw P6 rfl aa (au rfl)) (by simp only [pS,Value.cells,Nat.reduceAdd]<;>rfl)) rfl ?_;refine dr (aw aa) rfl<|dP<|aT aa ?_;clear ab;intro ax am
 refine ai<|aX<|bK (.inr rfl) (by kernel_rfl) (aS am) (.ro _ rfl) ?_
 clear am ap
 (rw [show((eR l.bs l.bs.length).length - 1:Int).toNat =l.bs.length by omega,jO (Tf _)])
theorem HA(l:aU)(h:dc l)(n:Int):bF Tryz.prog 58 [jd l,mA n] (λq=>q=mA (pV n 1 (l.js.length - 2))):=by
 refine ck (fn:=Tryz.f58) 15 (by kernel_rfl) rfl (by kernel_rfl) (S8 rfl) ?_;intro ab av hA ad;have af:ag ab (.tmp 0)=_:=hA 0 _ rfl;have am:ag ab (.tmp 1)=_:=hA 1 _ rfl;have ay:av.length=0:=by rw [ad];rfl
 clear hA ad;have hn1:=h.n1;have hn0:=h.n0;have hj:=h.js;refine aj<|at_<|ar (aw al) rfl<|aY (ae rfl af) (ae rfl am) ?_;clear af am;intro az an ao
 refine ai<|aj<|at_<|ar (ah ao) rfl<|ar (ah (ae rfl an)) rfl<|ar (fh aa) rfl<|ar (ak (bR iy rfl aa) (by simp only [pS,Value.cells,Nat.reduceAdd]<;>rfl)) rfl ?_
 refine ar (ak (bR dW rfl aa) (by simp only [pS,Value.cells,Nat.reduceAdd]<;>rfl)) rfl ?_;refine ar (ak (bw Nw rfl aa (au rfl)) (by simp only [pS,Value.cells,Nat.reduceAdd]<;>rfl)) rfl ?_;refine ar (ak (bW aa rfl Nv.1) (by simp only [bn]<;>rfl)) rfl ?_
 (refine ar (eL aa al ?_) rfl ?_; · (unfold In64;omega))
 refine ar (bj (ax (ae rfl (u2 rfl (u4 rfl aa))) (ax al (ax aa aI))) rfl (lF _ _ _) lN) rfl<|ar (bj (ax aa (ax al aI)) rfl (eZ _ _) e6) rfl<|ar (aw aa) rfl<|aT aa ?_;clear an ao;intro aA ap
 refine ai<|aX<|bK (.inr rfl) (by kernel_rfl) (aS ap) (.ro _ rfl) ?_
 clear ap ay;rfl
theorem Hl(l:aU)(hl:eE l)(hg:(b9 l).2=0):bF Tryz.prog 22 [ep l] (λq=>q= .tuple [mA (ca l.bs l.bs.length),mA 0]):=by
 refine ck (fn:=Tryz.f22) 16 (by kernel_rfl) rfl (by kernel_rfl) (S8 rfl) ?_;intro aF aG hA ao;have ap:ag aF (.tmp 0)=_:=hA 0 _ rfl;have ad:aG.length=0:=by rw [ao];rfl
 clear hA ao;refine aj<|at_<|aL (dO ap rfl ad) trivial rfl (λaJ af=>?_)
 have av:=bH af ad;have am:=bG af ad;have am:_=1:=am;clear af;refine ar (aw al) rfl<|ar (aw al) rfl<|aT (u2 rfl aa) ?_;clear ap;intro aK ay
 refine ai<|aj<|at_<|ar (ak (aC Nx rfl av ay (au rfl)) (by simp only [pS,Value.cells,Nat.reduceAdd]<;>rfl)) rfl ?_
 refine ar (bj (ax aa aI) rfl (vS l hl hg) qZ) rfl<|ar (ah aa) rfl<|ar (cH aa rfl) rfl<|ar (cH (ae rfl aa) rfl) rfl<|ar (aw (ae rfl aa)) rfl<|ar (aw (ae rfl aa)) rfl<|aY (ae rfl aa) aa ?_;clear ay;intro aM az an
 refine ai<|aj<|aj<|at_<|ar (ah an) rfl<|ar (ez aa al) rfl<|bq (u2 rfl az) (u2 rfl an) aa ?_;clear az an;intro aN aA aH aB
 refine ai<|aW aB (λab=>?_) (λab=>?_)
 ·replace ab:=dR ab;exfalso;omega
 replace ab:=dG ab;refine br<|ai<|aj<|at_<|ar (ah aA) rfl<|ar (bj (ax aa aI) rfl (AX l (ky hg)) E6) rfl<|ar (aw aa) rfl<|ar (aw al) rfl<|aY (ae rfl aa) aa ?_;clear aB aA aH;intro aO aD aE
 refine ai<|aX<|dX (.inr rfl) (by kernel_rfl) (aS aD) (aS aE) (.ro _ rfl) (.ro _ rfl) ?_
 clear aD aE av am;rfl
end Go.Proofs.YtbmlgmblfboigaaGreatDoor
namespace Go.Proofs.YtbmlgmblfboigaaGreatDoor
open Go Go.RowKit Go.Proofs Go.Shelf Go.Lib
theorem J0:(Tryz.prog.info? 109).bind (·.zero)=some (.agg #[.pointer none,.slice none 0 0]):=by kernel_rfl
theorem qn:∀ args w,(callFunc 40 args).run Tryz.prog w= .ok (.enter 40 args) w:=λ_ _=>by kernel_rfl
theorem J1:∀ args w,(callFunc 41 args).run Tryz.prog w= .ok (.enter 41 args) w:=λ_ _=>by kernel_rfl
theorem C9:bI Tryz.prog 23 59 4 32 (.agg #[.int .i64 0,.int .i64 0,.int .i64 0,.int .i64 0]):=⟨by kernel_rfl,by kernel_rfl,by kernel_rfl⟩
theorem Da:bI Tryz.prog 24 95 2 16 (.agg #[.int .i64 0,.int .i64 0]):=⟨by kernel_rfl,by kernel_rfl,by kernel_rfl⟩
theorem Db:bI Tryz.prog 25 97 3 48 (.agg #[.string ByteArray.empty,.int .i64 0,.slice none 0 0]):=⟨by kernel_rfl,by kernel_rfl,by kernel_rfl⟩
theorem qx:bI Tryz.prog 85 3 1 8 (.int .i64 0):=⟨by kernel_rfl,by kernel_rfl,by kernel_rfl⟩
theorem Ny:aN Tryz.prog 23 false 1:=⟨by kernel_rfl,by kernel_rfl⟩
theorem Dc:aN Tryz.prog 24 false 1:=⟨by kernel_rfl,by kernel_rfl⟩
theorem Nz:aN Tryz.prog 25 false 1:=⟨by kernel_rfl,by kernel_rfl⟩
theorem Df:aN Tryz.prog 27 true 4:=⟨by kernel_rfl,by kernel_rfl⟩
theorem kx:aN Tryz.prog 3 false 1:=⟨by kernel_rfl,by kernel_rfl⟩
theorem NA:aN Tryz.prog 59 true 4:=⟨by kernel_rfl,by kernel_rfl⟩
theorem NB:aN Tryz.prog 85 false 1:=⟨by kernel_rfl,by kernel_rfl⟩
theorem EW:aN Tryz.prog 9 false 1:=⟨by kernel_rfl,by kernel_rfl⟩
theorem NC:aN Tryz.prog 97 true 3:=⟨by kernel_rfl,by kernel_rfl⟩
def mj:List UInt8:= [108,105,110,101,32]
def jg:List UInt8:= [106,111,105,110,116]
def ix:List UInt8:= [98,101,97,109]
def lB:List UInt8:= [115,119,105,116,99,104,32]
def lC(b:fu):List UInt8:=rowT ix [b.len,b.cant]
def kP(j:fR):List UInt8:=rowT jg [j.acr,j.up,j.lo,j.hi]
def na(s:eu):List UInt8:=rowT (lB++s.nam.data.toList) (s.fst::s.acr)
def kG(l:aU):List UInt8:=rowT (mj++l.nam.data.toList) []
def mm(l:aU)(i:Nat):List UInt8:=(if i=0 then []else lC (l.bs.getD (i - 1) default))++kP (l.js.getD i default)
def fl(l:aU)(k:Nat):List UInt8:=kG l++((List.range k).map (mm l)).flatten
def fx(l:aU)(k:Nat):List UInt8:=fl l l.js.length++((l.ss.take k).map na).flatten
def lD(l:aU):List UInt8:=fx l l.ss.length
theorem tg(l:aU)(k:Nat):fl l (k+1)=fl l k++mm l k:=by
 unfold fl;rw [UJ];simp
theorem wX{l:aU}{k:Nat}{s:eu}(h:l.ss[k]? =some s):fx l (k+1)=fx l k++na s:=by
 unfold fx;rw [U4,h];simp
theorem wY(l:aU):fx l 0=fl l l.js.length:=by simp [fx]
theorem qy{s:List UInt8}{ns:List Int}(hi:∀ n∈ns,In64 n):(rowT s ns).length <=s.length+22*ns.length+1:=by
 have:=s6 (s:=s) hi ns.length;simp [rowT];omega
theorem ry{j:fR}(h:iJ j=0):∀ n∈ [j.acr,j.up,j.lo,j.hi],-20000<=n/\n<=20000:=by
 unfold iJ at h
 split at h
 ·rename_i hb
  unfold gP eC dh at hb;simp only [Ti,decide_eq_true_eq]at hb;intro n hn;simp at hn;rcases hn with rfl|rfl|rfl|rfl<;>omega
 ·cases h
theorem nZ{b:fu}(h:gQ b=0):∀ n∈ [b.len,b.cant],-30000<=n/\n<=30000:=by
 unfold gQ at h
 split at h
 ·rename_i hb
  unfold j6 eC dh at hb;simp only [Ti,decide_eq_true_eq]at hb;intro n hn;simp at hn;rcases hn with rfl|rfl<;>omega
 ·cases h
theorem rz{l:aU}(h:dc l){i:Nat}(hi:i<l.ss.length):(l.ss.getD i default).nam.size <=12/\(l.ss.getD i default).acr.length <=40/\ ∀ n∈(l.ss.getD i default).fst ::(l.ss.getD i default).acr,-30000<=n/\n<=30000:=by
 have h0:=h.sa i hi;have hb:=h.n1;unfold fq at h0
 split at h0
 ·cases h0
 split at h0
 ·cases h0
 split at h0
 ·cases h0
 split at h0
 ·cases h0
 split at h0
 ·cases h0
 rename_i h1 h2 h3 h4 h5
 generalize l.ss.getD i default=s at*;have hn:dn s.nam=true:=by simpa using h1
 unfold dn at hn;simp only [Ti,decide_eq_true_eq]at hn;have hw:dh s.fst 1 (l.bs.length - s.acr.length)=true:=by simpa using h4
 unfold dh at hw;simp only [Ti,decide_eq_true_eq]at hw;refine⟨hn.2,by omega,λn hm=>?_⟩;rcases TX.1 hm with rfl|hm
 ·omega
 ·have h6:(s.acr.any λn=> !eC n 20000)=false:=by simpa using h5
  rw [List.any_eq_false]at h6;have:=h6 n hm;unfold eC dh at this;simp only [Bool.not_eq_true,Bool.not_eq_false',Ti,decide_eq_true_eq]at this;omega
theorem kZ{l:List Int}(h:∀ n∈l,-30000<=n/\n<=30000):∀ n∈l,In64 n:=λn hn=>by have:=h n hn;unfold In64;omega
theorem qz{l:List Int}(h:∀ n∈l,-20000<=n/\n<=20000):∀ n∈l,In64 n:=λn hn=>by have:=h n hn;unfold In64;omega
theorem uN{l:aU}(h:dc l):l.nam.size<=12:=by
 have:=h.nam;unfold dn at this;simp only [Ti,decide_eq_true_eq]at this;exact this.2
theorem ND{l:aU}(h:dc l):(kG l).length <=20:=by
 have h1:=uN h;have h2:l.nam.data.toList.length=l.nam.size:=rfl;have h3:mj.length=5:=rfl;simp [kG,rowT,fj];omega
theorem P7{l:aU}(h:dc l){k:Nat}(hk:k<l.js.length):(mm l k).length <=200:=by
 have h1:=qy (s:=jg) (qz (ry (h.ja k hk)));have h3:jg.length=5:=rfl;have h4:ix.length=4:=rfl;have hj:=h.js;unfold mm;simp only [TM]
 split
 ·simp only [kP,Tq,Tj]at h1 ⊢;omega
 ·have h2:=qy (s:=ix) (kZ (nZ (h.ba (k - 1) (by omega))));simp only [kP,lC,Tq,Tj]at h1 h2 ⊢;omega
theorem tZ{l:aU}(h:dc l):∀ k,k<=l.js.length->(fl l k).length <=20+200*k
 | 0,_=>by have:=ND h;simp [fl];omega
 | k+1,hk=>by
  have h1:=tZ h k (by omega);have h2:=P7 h (k:=k) (by omega);rw [tg];simp only [TM];omega
theorem P8{l:aU}(h:dc l){i:Nat}(hi:i<l.ss.length):(na (l.ss.getD i default)).length <=1000:=by
 obtain⟨h1,h2,h3⟩:=rz h hi;have h4:=qy (s:=lB++(l.ss.getD i default).nam.data.toList) (kZ h3);have h5:(l.ss.getD i default).nam.data.toList.length =(l.ss.getD i default).nam.size :=rfl;have h6:lB.length=7:=rfl;simp only [na,TM,Tj]at h4 ⊢;omega
theorem qT{l:aU}(h:dc l):∀ k,k<=l.ss.length->(fx l k).length <=20+200*l.js.length+1000*k
 | 0,_=>by have:=tZ h l.js.length (Tf _);rw [wY];omega
 | k+1,hk=>by
  have h1:=qT h k (by omega);have h2:=P8 h (i:=k) (by omega);have hm:l.ss[k]? =some (l.ss.getD k default):=by rw [Ta,Tc (show k<l.ss.length by omega)];rfl
  rw [wX hm];simp only [TM];omega
theorem P9(l:aU)(k:Nat):0<(fx l k).length :=by simp [fx,fl,kG,rowT];omega
theorem Gv{l:aU}{i:Int}(h0:0<=i)(h:i<l.ss.length):l.ss[i.toNat]? =some (l.ss.getD i.toNat default):=by rw [Ta,Tc (show i.toNat<l.ss.length by omega)];rfl
theorem EX(l:List Int):(l.map iE).flatten.all jG=true:=by
 induction l with
 | nil=>rfl
 | cons a l ih=>simp only [TU,Uf,List.all_append,ih,Bool.and_true];rfl
section
variable (es er:Value)
theorem IP(l:aU)(hl:eE l)(hb:(b9 l).2≠0):gk Tryz.prog (gX es er) 11 [ep l] (λq=>q= .tuple [.v (.string ⟨#[]⟩),mA (b9 l).2]):=by
 refine qq (fn:=Tryz.f11) (gX es er) 81 (by kernel_rfl) rfl (by kernel_rfl) (S8 rfl) ?_;intro aH av hA af;have ay:ag aH (.tmp 0)=_:=hA 0 _ rfl;have am:av.length=1:=by rw [af];rfl
 have az:av[0]? =some (.bL (gX es er)):=by rw [af];rfl
 clear hA af;refine aj<|at_<|aL (dO ay rfl am) trivial rfl (λaN ad=>?_)
 have aA:=bH ad am;have aK:=aJ ad az;have an:=bG ad am;have an:_=2:=an;clear ad az;refine ar (aw al) rfl<|ar (aw al) rfl<|aT (u2 rfl aa) ?_;clear ay;intro aO ao
 refine ai<|aj<|aj<|at_<|ar (ak (aC Df rfl aA ao (au rfl)) (by simp only [pS,Value.cells,Nat.reduceAdd]<;>rfl)) rfl ?_
 refine ar (bj (ax aa aI) rfl (JV l hl hb) qZ) rfl<|ar (ah aa) rfl<|ar (cH aa rfl) rfl<|ar (cH (ae rfl aa) rfl) rfl<|ar (aw (ae rfl aa)) rfl<|ar (aw (ae rfl aa)) rfl<|aY (ae rfl (u2 rfl (u4 rfl ao))) aa ?_;clear ao;intro aP aB ap
 refine ai<|aj<|at_<|ar (ah ap) rfl<|ar (ez aa al) rfl<|bq (u2 rfl aB) (u2 rfl ap) aa ?_;clear aB ap;intro aQ aM aD aE
 refine ai<|aW aE (λab=>?_) (λab=>?_)
 ·replace ab:=dR ab;refine aj<|at_<|ar (ah aD) rfl<|ar (aw al) rfl<|ar (aw (ae rfl aa)) rfl<|aY (ae rfl aa) aa ?_;clear aE aM aD;intro aR aF aG
  refine ai<|aX<|bO<|dX (.inr rfl) (by kernel_rfl) (aS aF) (aS aG) (.ro _ rfl) (.ro _ rfl) ?_
  clear aF aG aA aK an;rfl
 ·replace ab:=dG ab;exfalso;omega
theorem J3(l:aU)(hl:eE l)(hg:(b9 l).2=0):gk Tryz.prog (gX es er) 11 [ep l] (λq=>q= .tuple [.v (.string (bs (lD l))),mA 0]):=by
 have hR:=ky hg;have hn1:=hR.n1;have hjs:=hR.js;have hs1:=hR.s1;obtain⟨nm,hnm⟩:∃ nm,l.nam=bs nm:=⟨l.nam.data.toList,(o8 _).symm⟩;have hnz:nm.length<=12:=by have:=uN hR;rw [hnm,ib]at this;exact this
 have hh:kG l=rowT (mj++nm) []:=by unfold kG;rw [hnm,jy]
 have hL:mj.length=5:=rfl;have hJ5:jg.length=5:=rfl;have hB4:ix.length=4:=rfl;have hS7:lB.length=7:=rfl;have w0:(⟨#[108,105,110,101,32]⟩:ByteArray)=bs mj:=rfl;have w1:(⟨#[106,111,105,110,116]⟩:ByteArray)=bs jg:=rfl;have w2:(⟨#[98,101,97,109]⟩:ByteArray)=bs ix:=rfl;have w3:(⟨#[115,119,105,116,99,104,32]⟩:ByteArray)=bs lB:=rfl;have z0:(⟨#[108,105,110,101,32]⟩:ByteArray).size =5:=rfl;have z3:(⟨#[115,119,105,116,99,104,32]⟩:ByteArray).size =7:=rfl;have hnl0:=uN hR;have hF:=JQ es er (mj++nm) (by simp;omega);rw [<- hh,show kG l=fl l (Int.toNat 0)by simp [fl], <- lS, <- hnm]at hF;refine qq (fn:=Tryz.f11) (gX es er) 81 (by kernel_rfl) rfl (by kernel_rfl) (S8 rfl) ?_;intro fw dl hA cy;have dm:ag fw (.tmp 0)=_:=hA 0 _ rfl;have cz:dl.length=1:=by rw [cy];rfl
 have dn:dl[0]? =some (.bL (gX es er)):=by rw [cy];rfl
 clear hA cy;refine aj<|at_<|aL (dO dm rfl cz) trivial rfl (λgY bQ=>?_)
 have cA:=bH bQ cz;have dp:=aJ bQ dn;have bu:=bG bQ cz;have bu:_=2:=bu;clear bQ dn;refine ar (aw al) rfl<|ar (aw al) rfl<|aT (u2 rfl aa) ?_;clear dm;intro g0 cB
 refine ai<|aj<|aj<|at_<|ar (ak (aC Df rfl cA cB (au rfl)) (by simp only [pS,Value.cells,Nat.reduceAdd,aK,aF,aH]<;>rfl)) rfl ?_
 refine ar (bj (ax aa aI) rfl (C4 l hl hg (by omega) (λj hj=>by have h_:=nZ (hR.ba j hj) _ (U3 ..);have h2_:=hR.ba j hj;unfold gQ at h2_;split at h2_<;>(rename_i hb_;unfold j6 dh at hb_;simp only [Ti,decide_eq_true_eq]at hb_;omega))) qZ) rfl ?_;refine ar (ah aa) rfl<|ar (cH aa rfl) rfl<|ar (cH (ae rfl aa) rfl) rfl<|ar (aw (ae rfl aa)) rfl<|ar (aw (ae rfl aa)) rfl<|aY (ae rfl (u2 rfl (u4 rfl cB))) aa ?_;clear cB;intro g1 dq cC
 refine ai<|aj<|at_<|ar (ah cC) rfl<|ar (ez aa al) rfl<|bq (u2 rfl dq) (u2 rfl cC) aa ?_;clear dq cC;intro g2 dt fy du
 refine ai<|aW du (λbv=>?_) (λbv=>?_)
 ·replace bv:=dR bv;exfalso;omega
 replace bv:=dG bv;refine br<|ai<|aj<|at_<|aL (cu J0 rfl bu) trivial rfl (λg3 bx=>?_)
 have bS:=bH bx bu;simp only [pS,Value.cells,Nat.reduceAdd,aK,aF,aH]at bS;have cD:=aJ bx cA;have cE:=aJ bx dp;have a5:=bG bx bu;have a5:_=3:=a5;clear bx cA dp;refine aY (ae rfl dt) aa ?_;clear du dt fy;intro g4 cF cJ;refine ai<|aj<|at_<|ar (aB mC rfl cF) rfl<|ar (ak (aC EW rfl cD aa (au rfl)) (by simp only [pS,Value.cells,Nat.reduceAdd,aK,aF,aH]<;>rfl)) rfl ?_
 (refine ar (fB al aa ?_) rfl ?_; · (simp only [TY,size_mk,Tj,Tq]<;>omega))
 refine aL (ig (ic (hF) [2] a5 (ax (ae rfl (u2 rfl cJ)) (ax aa (ax al aI))) (by exact .refl cE) (by decide) (.ob bS .nil) rfl qn) (iI rfl)) trivial rfl (λbT a6=>?_);have dv:bT[2]? =some _:=gv a6 (S8 rfl) (by decide) (ee bS gA) 0 rfl rfl
 (try simp only [Ob.rn,rn,rn.rnL,rho,Tj,Tq,TI,TF,TK,Nat.reduceAdd,Nat.reduceSub,TB,TG,aK,aF,aH]at dv)
 have bU:=dE a6 (S8 rfl) cD (by decide);have cK:=dE a6 (S8 rfl) cE (by decide);have dw:bT[3]? =some _:=jT a6 (S8 rfl) a5 0 rfl
 (try simp only [Ob.rn,rn,rn.rnL,rho,Tj,Tq,TI,TF,TK,Nat.reduceAdd,Nat.reduceSub,TB,TG,aK,aF,aH]at dw)
 have fz:_=4:=hZ a6 a5 1 rfl;clear a6 bS cD cE a5;refine aY (u4 rfl cF) (u4 rfl cJ) ?_;clear cF cJ;intro g5 cM dx;refine ai<|aj<|aj<|at_<|ar (aB dW rfl cM) rfl<|ar (ak (aC Ny rfl bU aa (au rfl)) (by simp only [pS,Value.cells,Nat.reduceAdd,aK,aF,aH]<;>rfl)) rfl ?_
 refine ar (ak (bW aa rfl C9.1) (by simp only [bn]<;>rfl)) rfl ?_;refine ar (ah al) rfl<|bV (u4 rfl cM) (u4 rfl dx) (u2 rfl aa) (ae rfl aa) aa ?_;clear cM dx;intro bX cN cO cQ cR fA
 refine ai<|bP<|dN (S:=(Int×Nat)) (λs e mem=>match s with|⟨i,jr⟩=>(ag e (.tmp 26)= .v (.int .i64 i))/\(ag e (.tmp 1)=ag bX (.tmp 1))/\(ag e (.tmp 6)=ag bX (.tmp 6))/\(ag e (.tmp 24)=ag bX (.tmp 24))/\(ag e (.tmp 25)=ag bX (.tmp 25))/\(mem[2]? =some (.box 109 [.ptr 2 0,.own jr]))/\(mem[jr]? =some (.row 5 1 ((fl l i.toNat).map bE)))/\(mem[1]? =bT[1]?)/\(mem[0]? =bT[0]?)/\(∃ n,mem.length=n/\4<=n)/\((0<=i/\i<=l.js.length/\3<=jr))) (λs=>match s with|⟨i,jr⟩=>(l.js.length - i).toNat) ⟨0,3⟩ ⟨fA,rfl,rfl,rfl,rfl,dv,dw,rfl,rfl,⟨_,fz,Tf _⟩,?_⟩ ?_
 ·exact⟨by omega,by omega,by omega⟩
 ·rintro⟨i,jr⟩ g6 dy ⟨cS,fC,fD,fE,fF,cT,bz,fG,fI,⟨av,bA,g7⟩,hinv⟩;have dz:=fC.trans cN;have dB:=fD.trans cO;have dF:=fE.trans cQ;have cU:=fF.trans cR;have bB:=fG.trans bU;have bZ:=fI.trans cK;have g8:=cI bz bA
  (obtain⟨p1,p2,p3⟩:=hinv;have hK1:=tZ hR i.toNat (by omega))
  refine aj<|at_<|ar (cL cS cU) rfl<|ei (ae rfl dz) (ae rfl dB) (ae rfl dF) (ae rfl cU) (ae rfl cS) aa ?_;clear dz dF cU cS dB;intro g9 b0 b1 b2 cV bC cW
  refine ai<|aj<|aW cW (λbD=>?_) (λbD=>?_)
  ·replace bD:=bt bD
   (have hjt:=ry (hR.ja i.toNat (by omega)))
   refine br<|ai<|aj<|bP<|aj<|at_<|ar (ah bC) rfl<|ar (ak (cr C9 (ae rfl b2) (ae rfl bC) (by omega) (by(refine cP ?_;omega))) (by simp only [pS,Value.cells,Nat.reduceAdd,aK,aF,aH]<;>rfl)) rfl ?_
   refine ar (ak (bw NA rfl aa (au rfl)) (by simp only [pS,Value.cells,Nat.reduceAdd,aK,aF,aH]<;>rfl)) rfl ?_;refine aL (cu pJ rfl bA) trivial rfl (λhv aD=>?_);have b6:=bH aD bA;simp only [pS,Value.cells,Nat.reduceAdd,aK,aF,aH]at b6;have dH:=aJ aD cT;have dI:=aJ aD bz;have dJ:=aJ aD bB;have dK:=aJ aD bZ;have fJ:=bG aD bA;clear aD cT bz bB bZ;refine ar (aw (ae rfl (u2 rfl aa))) rfl<|aL (bN (ae rfl aa) (u2 rfl aa) rfl rfl b6 rl rfl (au rfl)) trivial rfl (λhC aE=>?_)
   have am:=bk aE b6;simp only [pS,Value.cells,Nat.reduceAdd,aK,aF,aH]at am;have a7:=ao aE dH (by omega);have a8:=ao aE dI (by omega);have a9:=ao aE dJ (by omega);have bb:=ao aE dK (by omega);have az:=bc aE fJ;clear aE b6 dH dI dJ dK;refine gZ (ay (ae rfl (u4 rfl b0))) (ay (ae rfl (u4 rfl b1))) (ay aa) (ay (ae rfl aa)) (ay (ae rfl (u4 rfl b2))) (ay (ae rfl (u4 rfl cV))) (ay (ae rfl (u4 rfl bC))) ?_;clear b0 b2 cV bC cW b1;intro hD dL dM cX dQ dS dU dV;refine ai<|aj<|aj<|at_<|ar (ah cX) rfl<|ar (eM aa al) rfl<|vm (u2 rfl dL) (u2 rfl dM) (u2 rfl cX) (u2 rfl dQ) (u2 rfl dS) (u2 rfl dU) (u2 rfl dV) aa ?_;clear dL dS dU dV dM cX dQ;intro hE be bg b8 aG ca cb cc cY
   refine ai<|aW cY (λbF=>?_) (λbF=>?_)
   ·replace bF:=bt bF
    (have hbt:=nZ (hR.ba (i - 1).toNat (by omega));have hbl:=qy (s:=ix) (kZ hbt);have hRb:=s7 es er ix (fl l i.toNat) [(l.bs.getD (i - 1).toNat default).len,(l.bs.getD (i - 1).toNat default).cant] (by omega) (by omega) (by simp) (kZ hbt);have hRj:=s7 es er jg (fl l i.toNat++rowT ix [(l.bs.getD (i - 1).toNat default).len,(l.bs.getD (i - 1).toNat default).cant]) [(l.js.getD i.toNat default).acr,(l.js.getD i.toNat default).up,(l.js.getD i.toNat default).lo,(l.js.getD i.toNat default).hi] (by omega) (by simp at hbl ⊢;omega) (by simp) (qz hjt);rw [show(fl l i.toNat++rowT ix [(l.bs.getD (i - 1).toNat default).len,(l.bs.getD (i - 1).toNat default).cant])++rowT jg [(l.js.getD i.toNat default).acr,(l.js.getD i.toNat default).up,(l.js.getD i.toNat default).lo,(l.js.getD i.toNat default).hi]=fl l (i+1).toNat by rw [show(i+1).toNat =i.toNat+1 by omega,tg,mm,if_neg (by omega),show i.toNat - 1=(i - 1).toNat by omega];simp [lC,kP]]at hRj)
    refine ey 15 (by kernel_rfl) (by kernel_rfl) (by kernel_rfl) (by kernel_rfl) ?_;refine dr (aB dA rfl be) rfl<|dr (ak (aC Dc rfl a9 aa (au rfl)) (by simp only [pS,Value.cells,Nat.reduceAdd,aK,aF,aH]<;>rfl)) rfl ?_
    refine dr (ah (u2 rfl b8)) rfl ?_
    (refine dr (eL aa al ?_) rfl ?_; · ((unfold In64);omega))
    refine dr (ak (cr Da (u2 rfl aa) aa (by omega) (by(refine cP ?_;omega))) (by simp only [pS,Value.cells,Nat.reduceAdd,aK,aF,aH]<;>rfl)) rfl ?_;refine dr (ak (bR ki rfl aa) (by simp only [pS,Value.cells,Nat.reduceAdd,aK,aF,aH]<;>rfl)) rfl ?_;refine dr (ak (bw kx rfl aa (au rfl)) (by simp only [pS,Value.cells,Nat.reduceAdd,aK,aF,aH]<;>rfl)) rfl ?_;refine dr (aB dA rfl (ae rfl (u2 rfl (u4 rfl be)))) rfl<|dr (ak (aC Dc rfl a9 aa (au rfl)) (by simp only [pS,Value.cells,Nat.reduceAdd,aK,aF,aH]<;>rfl)) rfl ?_
    refine dr (ah (ae rfl (u8 rfl b8))) rfl ?_
    (refine dr (eL aa al ?_) rfl ?_; · ((unfold In64);omega))
    refine dr (ak (cr Da (u2 rfl aa) aa (by omega) (by(refine cP ?_;omega))) (by simp only [pS,Value.cells,Nat.reduceAdd,aK,aF,aH]<;>rfl)) rfl ?_;refine dr (ak (bR oY rfl aa) (by simp only [pS,Value.cells,Nat.reduceAdd,aK,aF,aH]<;>rfl)) rfl ?_;refine dr (ak (bw kx rfl aa (au rfl)) (by simp only [pS,Value.cells,Nat.reduceAdd,aK,aF,aH]<;>rfl)) rfl ?_;refine dr (dT qx (bo (ae rfl (u2 rfl (u4 rfl aa))) (bo aa bY)) rfl rfl rfl rfl) rfl<|dP<|aL (ig (ic (hRb) [2,jr] az (ax (ae rfl (u2 rfl (u4 rfl (u8 rfl bg)))) (ax al (ax aa aI))) (by exact .refl bb) (by simp<;>omega) (.ob a7 (.ob a8 .nil)) rfl qn) (iI rfl)) trivial rfl (λdY aM=>?_)
    have cd:dY[2]? =some _:=gv aM (S8 rfl) (by simp<;>omega) (ee a7 (ee a8 gA)) 0 rfl rfl
    (try simp only [Ob.rn,rn,rn.rnL,rho,Tj,Tq,TI,TF,TK,Nat.reduceAdd,Nat.reduceSub,TB,TG,aK,aF,aH]at cd)
    have bh:=dE aM (S8 rfl) am (by simp<;>omega);have dZ:=dE aM (S8 rfl) a9 (by simp<;>omega);have cZ:=dE aM (S8 rfl) bb (by simp<;>omega);have ce:dY[av+1]? =some _:=jT aM (S8 rfl) az 0 rfl
    (try simp only [Ob.rn,rn,rn.rnL,rho,Tj,Tq,TI,TF,TK,Nat.reduceAdd,Nat.reduceSub,TB,TG,aK,aF,aH]at ce)
    have cg:_=av+1+1:=hZ aM az 1 rfl;clear aM am a7 a8 a9 bb az;refine ei (u16 rfl be) (u16 rfl bg) (u16 rfl aG) (u16 rfl ca) (u16 rfl cb) (u16 rfl cc) ?_;clear be ca cb cc cY bg b8 aG;intro hG ea c6 bI eb ec ed;refine ai<|at_<|ar (aB jR rfl bI) rfl<|ar (ak (aC kx rfl bh aa (au rfl)) (by simp only [pS,Value.cells,Nat.reduceAdd,aK,aF,aH]<;>rfl)) rfl ?_
    refine ar (aB oW rfl (u2 rfl bI)) rfl<|ar (ak (aC kx rfl bh aa (au rfl)) (by simp only [pS,Value.cells,Nat.reduceAdd,aK,aF,aH]<;>rfl)) rfl ?_
    refine ar (aB fY rfl (u4 rfl bI)) rfl<|ar (aB jP rfl aa) rfl<|ar (ak (aC kx rfl bh aa (au rfl)) (by simp only [pS,Value.cells,Nat.reduceAdd,aK,aF,aH]<;>rfl)) rfl ?_
    refine ar (aB fY rfl (ae rfl (u2 rfl (u4 rfl bI)))) rfl<|ar (aB jQ rfl aa) rfl<|ar (ak (aC kx rfl bh aa (au rfl)) (by simp only [pS,Value.cells,Nat.reduceAdd,aK,aF,aH]<;>rfl)) rfl ?_
    refine ar (dT qx (bo (u8 rfl aa) (bo (u2 rfl (u4 rfl aa)) (bo (ae rfl (u2 rfl aa)) (bo aa bY)))) rfl rfl rfl rfl) rfl<|aL (ig (ic (hRj) [2,av+1] cg (ax (ae rfl (u2 rfl (u8 rfl c6))) (ax al (ax aa aI))) (by exact .refl cZ) (by simp<;>omega) (.ob cd (.ob ce .nil)) rfl qn) (iI rfl)) trivial rfl (λef aN=>?_)
    have eg:ef[2]? =some _:=gv aN (S8 rfl) (by simp<;>omega) (ee cd (ee ce gA)) 0 rfl rfl
    (try simp only [Ob.rn,rn,rn.rnL,rho,Tj,Tq,TI,TF,TK,Nat.reduceAdd,Nat.reduceSub,TB,TG,aK,aF,aH]at eg)
    have hH:=dE aN (S8 rfl) bh (by simp<;>omega);have fK:=dE aN (S8 rfl) dZ (by simp<;>omega);have fL:=dE aN (S8 rfl) cZ (by simp<;>omega);have eh:ef[av+1+1]? =some _:=jT aN (S8 rfl) cg 0 rfl
    (try simp only [Ob.rn,rn,rn.rnL,rho,Tj,Tq,TI,TF,TK,Nat.reduceAdd,Nat.reduceSub,TB,TG,aK,aF,aH]at eh)
    have fM:_=av+1+1+1:=hZ aN cg 1 rfl;clear aN cd bh dZ cZ ce cg;refine bV (u4 rfl (u8 rfl ea)) (u4 rfl (u8 rfl c6)) (u4 rfl (u8 rfl eb)) (u4 rfl (u8 rfl ec)) (u4 rfl (u8 rfl ed)) ?_;clear ea eb ec ed c6 bI;intro hI ej ek en eo eu;refine cv<|ai<|at_ ?_
    (refine ar (cj eu al ?_) rfl ?_; · ((unfold In64);omega))
    refine ar (ah aa) rfl<|bV (u2 rfl ej) (u2 rfl ek) (u2 rfl en) (u2 rfl eo) aa ?_;clear ej en eo eu ek;intro hJ fN fO fP fQ fR
    refine ai<|⟨⟨_,_⟩,⟨fR,(fN.trans cN.symm),(fO.trans cO.symm),(fP.trans cQ.symm),(fQ.trans cR.symm),eg,eh,(fK.trans bU.symm),(fL.trans cK.symm),⟨_,fM,by omega⟩,?_⟩,?_⟩
    ·exact⟨by omega,by omega,by omega⟩
    ·((try dsimp only);omega)
   replace bF:=bf bF
   (have hRj:=s7 es er jg (fl l i.toNat) [(l.js.getD i.toNat default).acr,(l.js.getD i.toNat default).up,(l.js.getD i.toNat default).lo,(l.js.getD i.toNat default).hi] (by omega) (by omega) (by simp) (qz hjt);rw [show fl l i.toNat++rowT jg [(l.js.getD i.toNat default).acr,(l.js.getD i.toNat default).up,(l.js.getD i.toNat default).lo,(l.js.getD i.toNat default).hi]=fl l (i+1).toNat by rw [show(i+1).toNat =i.toNat+1 by omega,tg,mm,if_pos (by omega)];simp [kP]]at hRj)
   refine br<|ai<|at_<|ar (aB jR rfl aG) rfl<|ar (ak (aC kx rfl am aa (au rfl)) (by simp only [pS,Value.cells,Nat.reduceAdd,aK,aF,aH]<;>rfl)) rfl ?_
   refine ar (aB oW rfl (u2 rfl aG)) rfl<|ar (ak (aC kx rfl am aa (au rfl)) (by simp only [pS,Value.cells,Nat.reduceAdd,aK,aF,aH]<;>rfl)) rfl ?_
   refine ar (aB fY rfl (u4 rfl aG)) rfl<|ar (aB jP rfl aa) rfl<|ar (ak (aC kx rfl am aa (au rfl)) (by simp only [pS,Value.cells,Nat.reduceAdd,aK,aF,aH]<;>rfl)) rfl ?_
   refine ar (aB fY rfl (ae rfl (u2 rfl (u4 rfl aG)))) rfl<|ar (aB jQ rfl aa) rfl<|ar (ak (aC kx rfl am aa (au rfl)) (by simp only [pS,Value.cells,Nat.reduceAdd,aK,aF,aH]<;>rfl)) rfl ?_
   refine ar (dT qx (bo (u8 rfl aa) (bo (u2 rfl (u4 rfl aa)) (bo (ae rfl (u2 rfl aa)) (bo aa bY)))) rfl rfl rfl rfl) rfl<|aL (ig (ic (hRj) [2,jr] az (ax (ae rfl (u2 rfl (u8 rfl bg))) (ax al (ax aa aI))) (by exact .refl bb) (by simp<;>omega) (.ob a7 (.ob a8 .nil)) rfl qn) (iI rfl)) trivial rfl (λev aO=>?_)
   have ew:ev[2]? =some _:=gv aO (S8 rfl) (by simp<;>omega) (ee a7 (ee a8 gA)) 0 rfl rfl
   (try simp only [Ob.rn,rn,rn.rnL,rho,Tj,Tq,TI,TF,TK,Nat.reduceAdd,Nat.reduceSub,TB,TG,aK,aF,aH]at ew)
   have hK:=dE aO (S8 rfl) am (by simp<;>omega);have fS:=dE aO (S8 rfl) a9 (by simp<;>omega);have fT:=dE aO (S8 rfl) bb (by simp<;>omega);have eA:ev[av+1]? =some _:=jT aO (S8 rfl) az 0 rfl
   (try simp only [Ob.rn,rn,rn.rnL,rho,Tj,Tq,TI,TF,TK,Nat.reduceAdd,Nat.reduceSub,TB,TG,aK,aF,aH]at eA)
   have fU:_=av+1+1:=hZ aO az 1 rfl;clear aO am a7 a8 a9 bb az;refine bV (u4 rfl (u8 rfl be)) (u4 rfl (u8 rfl bg)) (u4 rfl (u8 rfl ca)) (u4 rfl (u8 rfl cb)) (u4 rfl (u8 rfl cc)) ?_;clear be ca cb cc cY bg b8 aG;intro hM eB eC eD eG eH;refine cv<|ai<|at_ ?_
   (refine ar (cj eH al ?_) rfl ?_; · ((unfold In64);omega))
   refine ar (ah aa) rfl<|bV (u2 rfl eB) (u2 rfl eC) (u2 rfl eD) (u2 rfl eG) aa ?_;clear eB eD eG eH eC;intro hN fV f0 ga gb gc
   refine ai<|⟨⟨_,_⟩,⟨gc,(fV.trans cN.symm),(f0.trans cO.symm),(ga.trans cQ.symm),(gb.trans cR.symm),ew,eA,(fS.trans bU.symm),(fT.trans cK.symm),⟨_,fU,by omega⟩,?_⟩,?_⟩
   ·exact⟨by omega,by omega,by omega⟩
   ·((try dsimp only);omega)
  replace bD:=bf bD;have hend:fl l i.toNat=fx l (Int.toNat 0):=(by rw [show Int.toNat 0=0 from rfl,wY,show i.toNat=l.js.length by omega]);refine dD<|b7<|b7<|dC<|ai<|aj<|aj ?_
  rw [hend]at bz;refine at_<|ar (aB eF rfl b0) rfl<|ar (ak (aC Nz rfl bB aa (au rfl)) (by simp only [pS,Value.cells,Nat.reduceAdd,aK,aF,aH]<;>rfl)) rfl ?_
  refine ar (ak (bW aa rfl Db.1) (by simp only [bn]<;>rfl)) rfl ?_;refine ar (ah al) rfl<|aZ (u4 rfl b1) (u2 rfl aa) (ae rfl aa) aa ?_;clear b0 b2 cV bC cW b1;intro c7 eI eJ eK gd
  refine ai<|bP<|dN (S:=(Int×Nat)) (λs e mem=>match s with|⟨k,jq⟩=>(ag e (.tmp 65)= .v (.int .i64 k))/\(ag e (.tmp 6)=ag c7 (.tmp 6))/\(ag e (.tmp 63)=ag c7 (.tmp 63))/\(ag e (.tmp 64)=ag c7 (.tmp 64))/\(mem[2]? =some (.box 109 [.ptr 2 0,.own jq]))/\(mem[jq]? =some (.row 5 1 ((fx l k.toNat).map bE)))/\(mem[1]? =dy[1]?)/\(mem[0]? =dy[0]?)/\(∃ n,mem.length=n/\av<=n)/\((0<=k/\k<=l.ss.length/\3<=jq))) (λs=>match s with|⟨k,jq⟩=>(l.ss.length - k).toNat) ⟨0,_⟩ ⟨gd,rfl,rfl,rfl,cT,bz,rfl,rfl,⟨_,bA,Tf _⟩,?_⟩ ?_
  ·exact⟨by omega,by omega,by omega⟩
  ·rintro⟨k,jq⟩ hO hP ⟨c8,ge,gf,gg,bJ,bm,gh,gl,⟨af,aP,hQ⟩,hinv⟩;have eN:=ge.trans eI;have eO:=gf.trans eJ;have c9:=gg.trans eK;have ci:=gh.trans bB;have ck:=gl.trans bZ;have hS:=cI bm aP
   (obtain⟨p1,p2,p3⟩:=hinv;have hK2:=qT hR k.toNat (by omega))
   refine aj<|at_<|ar (cL c8 c9) rfl<|bV (ae rfl eN) (ae rfl eO) (ae rfl c9) (ae rfl c8) aa ?_;clear eO c9 c8 eN;intro hV cm co da cp db
   refine ai<|aj<|aW db (λbK=>?_) (λbK=>?_)
   ·replace bK:=bt bK
    (obtain⟨c1,c2,c3⟩:=rz hR (i:=k.toNat) (by omega);have hsa:=Gv p1 (by omega);have hst:=wX hsa;have hnl:(l.ss.getD k.toNat default).nam.data.toList.length =(l.ss.getD k.toNat default).nam.size :=rfl;have hRs:=s7 es er (lB++(l.ss.getD k.toNat default).nam.data.toList) (fx l k.toNat) ((l.ss.getD k.toNat default).fst ::(l.ss.getD k.toNat default).acr) (by rw [TM];omega) (by omega) (by rw [Tj];omega) (kZ c3);rw [show fx l k.toNat++rowT (lB++(l.ss.getD k.toNat default).nam.data.toList) ((l.ss.getD k.toNat default).fst ::(l.ss.getD k.toNat default).acr)=fx l (k+1).toNat by rw [show(k+1).toNat =k.toNat+1 by omega,hst];rfl, <- lS,o8]at hRs)
    refine br<|ai<|aj<|bP<|aj<|at_<|ar (ak (cr Db co cp (by omega) (by(refine cP ?_;omega))) (by simp only [pS,Value.cells,Nat.reduceAdd,aK,aF,aH]<;>rfl)) rfl ?_
    refine ar (ak (bw NC rfl aa (au rfl)) (by simp only [pS,Value.cells,Nat.reduceAdd,aK,aF,aH]<;>rfl)) rfl ?_;refine aL (cu lU rfl aP) trivial rfl (λhW aR=>?_);have cq:=bH aR aP;simp only [pS,Value.cells,Nat.reduceAdd,aK,aF,aH]at cq;have eP:=aJ aR bJ;have eQ:=aJ aR bm;have eR:=aJ aR ci;have eS:=aJ aR ck;have gm:=bG aR aP;clear aR bJ bm ci ck;refine aL (bN aa (ae rfl aa) rfl rfl cq lV rfl (au rfl)) trivial rfl (λhY aV=>?_);have dc:=bk aV cq;simp only [pS,Value.cells,Nat.reduceAdd,aK,aF,aH]at dc;have eT:=ao aV eP (by omega);have eU:=ao aV eQ (by omega);have eV:=ao aV eR (by omega);have eW:=ao aV eS (by omega);have bM:=bc aV gm;clear aV cq eP eQ eR eS;refine bV (ay (ae rfl (u2 rfl cm))) (ay aa) (ay (ae rfl (u2 rfl co))) (ay (ae rfl (u2 rfl da))) (ay (ae rfl (u2 rfl cp))) ?_;clear co da cp db cm;intro h6 gn ct gp gq gr;refine ai<|fW 9 2 bM (by kernel_rfl) (by kernel_rfl) (by kernel_rfl) (by kernel_rfl) (λeX an=>?_)
    have cw:=bp an dc;have eY:=bp an eT;have eZ:=bp an eU;have e0:=bp an eV;have e3:=bp an eW;have dd:eX[af+1]? =_:=fH an bM 0 rfl rfl;have e4:eX[af+1+1]? =_:=fH an bM 1 rfl rfl;have gt:_=af+1+2:=fX (K:=2) an bM;clear an dc eT eU eV eW bM;refine aQ (λM_ hM_=>(aB kj rfl ct)) trivial ?_;refine cG (af) (λM_ hM_=>(ak (aC EW rfl (cf hM_ cw (by simp)) aa (au rfl)) (by simp only [pS,Value.cells,Nat.reduceAdd,aK,aF,aH]<;>rfl))) trivial trivial ?_
    (refine aQ (λM_ hM_=>(fB al aa ?_)) trivial ?_; · (simp only [TY,size_mk,Tj,Tq]<;>omega))
    refine aQ (λM_ hM_=>(aB hU rfl (ae rfl (u2 rfl ct)))) trivial ?_;refine cG (af) (λM_ hM_=>(ak (aC kx rfl (cf hM_ cw (by simp)) aa (au rfl)) (by simp only [pS,Value.cells,Nat.reduceAdd,aK,aF,aH]<;>rfl))) trivial trivial ?_;refine lh (af+1) (λM_ hM_=>(yt qx (bo aa bY) rfl rfl rfl rfl)) trivial dd rfl trivial ⟨.inl (by simp<;>omega),⟨.inl (by simp<;>omega),trivial⟩⟩ (λh7 ap=>?_);have e5:=bk ap dd;have de:=ao ap cw (by omega);have e6:=ao ap eY (by omega);have e7:=ao ap eZ (by omega);have e8:=ao ap e0 (by omega);have e9:=ao ap e3 (by omega);have df:=ao ap e4 (by omega);have gu:=bc ap gt;clear ap cw eY eZ e0 e3 dd e4;refine aQ (λM_ hM_=>(aB fZ rfl (u2 rfl (u4 rfl ct)))) trivial ?_;refine cG (af) (λM_ hM_=>(ak (aC NB rfl (cf hM_ de (by simp)) aa (au rfl)) (by simp only [pS,Value.cells,Nat.reduceAdd,aK,aF,aH]<;>rfl))) trivial ⟨.inl (by simp<;>omega),trivial⟩ ?_;refine lX (af+1+1) (af+1) (λM_ hM_=>(k6 qx rfl (cf hM_ e5 (by simp)) (u2 rfl aa) aa (by exact EX _) (by simp only [bn]<;>omega))) trivial df rfl ⟨.inr (gi 8 5 (by kernel_rfl)),trivial⟩ ⟨.inl (by simp<;>omega),⟨.inl (by simp<;>omega),⟨.inl (by simp<;>omega),⟨.inl (by simp<;>omega),trivial⟩⟩⟩⟩ ⟨.inl (by simp<;>omega),⟨.inl (by simp<;>omega),⟨.inr (gi 8 5 (by kernel_rfl)),⟨.inl (by simp<;>omega),trivial⟩⟩⟩⟩ (λh8 aA=>?_);have fa:=l6 aA df;simp only [pS,Value.cells,Nat.reduceAdd,aK,aF,aH]at fa;have gw:=cn aA de (by omega) (by omega);have gx:=cn aA e6 (by omega) (by omega);have gy:=cn aA e7 (by omega) (by omega);have gz:=cn aA e8 (by omega) (by omega);have gB:=cn aA e9 (by omega) (by omega);have gC:=lQ aA gu;clear aA e5 de e6 e7 e8 e9 df;refine gj rfl ?_;refine Ip aa fa (λh9 ad a2 ab=>?_);have fb:=ao a2 gw (by omega);have dg:=ao a2 gx (by omega);have di:=ao a2 gy (by omega);have fc:=ao a2 gz (by omega);have dj:=ao a2 gB (by omega);have cx:=bc a2 gC;have dk:ag ad (.tmp 6)=_:=(congrArg (λq=>ag q (.tmp 6)) ab).trans (ae rfl (ae rfl (u8 rfl gn)));have gD:ag ad (.tmp 10)=_:=(congrArg (λq=>ag q (.tmp 10)) ab).trans (ae rfl (ae rfl (u8 rfl ct)));have fd:ag ad (.tmp 63)=_:=(congrArg (λq=>ag q (.tmp 63)) ab).trans (ae rfl (ae rfl (u8 rfl gp)));have fe:ag ad (.tmp 64)=_:=(congrArg (λq=>ag q (.tmp 64)) ab).trans (ae rfl (ae rfl (u8 rfl gq)));have ff:ag ad (.tmp 65)=_:=(congrArg (λq=>ag q (.tmp 65)) ab).trans (ae rfl (ae rfl (u8 rfl gr)));have gE:ag ad (.tmp 69)=_:=(congrArg (λq=>ag q (.tmp 69)) ab).trans (ae rfl (u8 rfl aa));have gF:ag ad (.tmp 70)=_:=(congrArg (λq=>ag q (.tmp 70)) ab).trans (ae rfl (ae rfl (u2 rfl (u4 rfl aa))));have fg:ag ad (.tmp 71)=_:=(congrArg (λq=>ag q (.tmp 71)) ab).trans (ae rfl (u2 rfl (u4 rfl aa)));have gG:ag ad (.tmp 72)=_:=(congrArg (λq=>ag q (.tmp 72)) ab).trans (ae rfl (ae rfl (u4 rfl aa)));have gH:ag ad (.tmp 73)=_:=(congrArg (λq=>ag q (.tmp 73)) ab).trans (ae rfl (u4 rfl aa));have gI:ag ad (.tmp 74)=_:=(congrArg (λq=>ag q (.tmp 74)) ab).trans (ae rfl (ae rfl (u2 rfl aa)));have gJ:ag ad (.tmp 75)=_:=(congrArg (λq=>ag q (.tmp 75)) ab).trans (ae rfl (u2 rfl aa));have gK:ag ad (.tmp 76)=_:=(congrArg (λq=>ag q (.tmp 76)) ab).trans (ae rfl (ae rfl aa));have fh:ag ad (.tmp 77)=_:=(congrArg (λq=>ag q (.tmp 77)) ab).trans aa;clear a2 ab;refine aL (ig (ic (hRs) [2,jq] cx (ax dk (ax fg (ax fh aI))) (by exact .refl dj) (by simp<;>omega) (.ob dg (.ob di .nil)) rfl qn) (iI rfl)) trivial rfl (λfi a3=>?_);have fj:fi[2]? =some _:=gv a3 (S8 rfl) (by simp<;>omega) (ee dg (ee di gA)) 0 rfl rfl
    (try simp only [Ob.rn,rn,rn.rnL,rho,Tj,Tq,TI,TF,TK,Nat.reduceAdd,Nat.reduceSub,TB,TG,aK,aF,aH]at fj)
    have ia:=dE a3 (S8 rfl) fb (by simp<;>omega);have gL:=dE a3 (S8 rfl) fc (by simp<;>omega);have gM:=dE a3 (S8 rfl) dj (by simp<;>omega);have fk:fi[af+1+2]? =some _:=jT a3 (S8 rfl) cx 0 rfl
    (try simp only [Ob.rn,rn,rn.rnL,rho,Tj,Tq,TI,TF,TK,Nat.reduceAdd,Nat.reduceSub,TB,TG,aK,aF,aH]at fk)
    have gN:_=af+1+2+1:=hZ a3 cx 1 rfl;clear a3 fb dg di fc dj cx;refine aZ (ae rfl dk) (ae rfl fd) (ae rfl fe) (ae rfl ff) ?_;clear gD fd fe ff gE dk gF fg gG gH gI gJ gK fh;intro ie fm fo fp fq;refine cv<|ai<|at_ ?_
    (refine ar (cj fq al ?_) rfl ?_; · ((unfold In64);omega))
    refine ar (ah aa) rfl<|aZ (u2 rfl fm) (u2 rfl fo) (u2 rfl fp) aa ?_;clear fo fp fq fm;intro ih gO gP gR gS
    refine ai<|⟨⟨_,_⟩,⟨gS,(gO.trans eI.symm),(gP.trans eJ.symm),(gR.trans eK.symm),fj,fk,(gL.trans bB.symm),(gM.trans bZ.symm),⟨_,gN,by omega⟩,?_⟩,?_⟩
    ·exact⟨by omega,by omega,by omega⟩
    ·((try dsimp only);omega)
   replace bK:=bf bK;refine dD<|b7<|b7<|dC<|ai<|aj<|at_<|aL (ig (ic (Jn (fx l k.toNat) (P9 _ _) (by omega)) [2,jq] aP (ax cm aI) (by exact .nil) (by simp<;>omega) (.ob bJ (.ob bm .nil)) rfl J1) (iI rfl)) trivial rfl (λgT bO=>?_)
   have fs:gT[2]? =some _:=gv bO (S8 rfl) (by simp<;>omega) (ee bJ (ee bm gA)) 0 rfl rfl
   (try simp only [Ob.rn,rn,rn.rnL,rho,Tj,Tq,TI,TF,TK,Nat.reduceAdd,Nat.reduceSub,TB,TG,aK,aF,aH]at fs)
   have gU:=dE bO (S8 rfl) ci (by simp<;>omega);have gV:=dE bO (S8 rfl) ck (by simp<;>omega);have gW:_=af:=hZ bO aP 0 rfl;clear bO bJ bm ci ck aP;refine ar (aw aa) rfl<|ar (aw al) rfl<|aY (ae rfl aa) aa ?_;clear co da cp db cm;intro ij ft fu
   refine ai<|aX<|dX (.inr rfl) (by kernel_rfl) (aS ft) (aS fu) (.ro _ rfl) (.ro _ rfl) ?_
   clear ft fu fs gU gV gW
   (rw [show k.toNat=l.ss.length by omega];rfl)
end
end Go.Proofs.YtbmlgmblfboigaaGreatDoor
namespace Go.Proofs.YtbmlgmblfboigaaGreatDoor
open Go Go.RowKit Go.Proofs Go.Shelf Go.Lib
def gq(w:List UInt8):Prop:=w≠ []/\ ∀ k:Nat,w[k]? ≠some 32/\w[k]? ≠some 9/\w[k]? ≠some 10
theorem Qa{w:List UInt8}{D:Nat}(h:gK w D=true):gq w:=
 ⟨λe=>(FB h).1 (by rw [e];rfl),λk=>⟨wa h (by decide) k,wa h (by decide) k,wa h (by decide) k⟩⟩
theorem Qb{j:Nat}{c:UInt8}(h:okB j c=true):c≠32/\c≠9/\c≠10:=by
 have h1:=of_decide_eq_true h;refine⟨λe=>?_,λe=>?_,λe=>?_⟩<;>(subst e;revert h1;simp)
theorem ti{nm:List UInt8}(h:dn (bs nm)=true):gq nm:=by
 unfold dn at h;simp only [Ti,decide_eq_true_eq]at h;obtain⟨⟨h1,h2⟩,h3⟩:=h;have hz:(bs nm).size =nm.length:=rfl;refine⟨λe=>by rw [e]at hz h2;rw [hz]at h2;simp at h2,λk=>?_⟩;cases hq:nm[k]? with
 | none=>simp
 | some b=>
  have hk:=(S9.1 hq).1;unfold ll at h1;have h4:=TJ.1 h1 k (Uh.2 hk);rw [show(bs nm).data.toList =nm from rfl,Ta,hq]at h4;obtain⟨a1,a2,a3⟩:=Qb h4
  simpa using ⟨a1,a2,a3⟩
theorem uO{w:List UInt8}(h0:w≠ [])(h:w.all (λb=>b != 32&&b != 9&&b != 10)=true):gq w:=by
 refine⟨h0,λk=>?_⟩;cases hq:w[k]? with
 | none=>simp
 | some b=>
  have h1:=TJ.1 h b (TD hq);simp only [Ti,bne_iff_ne]at h1
  simpa using ⟨h1.1.1,h1.1.2,h1.2⟩
theorem Rk{b:UInt8}(h1:b≠32)(h2:b≠9):blk b=false:=by unfold blk;simp [h1,h2]
def Wd.t(w:Wd):List UInt8:=w.txt.data.toList
def wT(l:List UInt8)(a:Nat):List (List UInt8):=(eh l a).map Wd.t
theorem GG(pre w r:List UInt8)(hc:gq w)(hr:r= []\/ ∃ r',r=32::r'):wT (pre++w++r) pre.length=w::wT (pre++w++r) (pre++w).length :=by
 have hp:=TT.2 hc.1;have hl:(pre++w++r).length =pre.length+w.length+r.length:=by simp [Ud]
 have hin:∀ k,pre.length<=k->k<pre.length+w.length->(pre++w++r).getD k default=w.getD (k - pre.length) default:=λk h1 h2=>by
  rw [Ta,Ta,TZ,Tu h1,Tt (by omega)]
 obtain⟨e1,e2,e3⟩:=BX (l:=pre++w++r) (a:=pre.length) (i:=pre.length+w.length) (by omega) (by omega) (by omega) (λk h1 h2=>by
  rw [hin k h1 h2];have h3:=hc.2 (k - pre.length);rw [Tc (by omega)]at h3;rw [Ta,Tc (by omega)];exact Rk (λe=>h3.1 (congrArg some e)) (λe=>h3.2.1 (congrArg some e)))
  (by
   rcases hr with rfl|⟨r',rfl⟩
   ·left;simp
   ·right
    rw [Ta,Tu (by simp),TM,TG];rfl)
 have e4:e7 (pre++w++r) pre.length=w:=by
  rw [e1,show pre.length+w.length - pre.length=w.length by omega,TZ,List.drop_left' rfl,List.take_left' rfl]
 unfold wT;rw [sj (by omega) (by rw [e4];exact hc.1),e2,e4,TU,TM];rfl
theorem Si(pre r:List UInt8):wT (pre++32::r) pre.length=wT (pre++32::r) (pre++ [32]).length :=by
 unfold wT;rw [TM,List.length_singleton,BW (by simp) (by rw [Ta,Tu (Tf _),TG];rfl)]
theorem Qc(pre w r:List UInt8)(hc:gq w)(hr:r= []\/ ∃ r',r=32::r'):wT (pre++ [32]++w++r) pre.length=w::wT (pre++ [32]++w++r) (pre++ [32]++w).length :=by
 rw [<- GG (pre++ [32]) w r hc hr];have h:=Si pre (w++r);have e:pre++ [32]++w++r=pre++32::(w++r):=by simp
 rw [e];exact h
theorem Rl(l:List UInt8):wT l l.length= []:=by unfold wT;rw [AG];rfl
def ff(ws:List (List UInt8)):List UInt8:=(ws.map λw=>32::w).flatten
theorem FX(ws:List (List UInt8)):ff ws= []\/ ∃ r',ff ws=32::r':=by
 cases ws with
 | nil=>exact .inl rfl
 | cons w ws=>exact .inr ⟨w++ff ws,rfl⟩
theorem FY:∀ (ws:List (List UInt8)) (pre:List UInt8),(∀ w∈ws,gq w)->wT (pre++ff ws) pre.length=ws
 | [],pre,_=>by rw [show ff []= []from rfl,Uc];exact Rl pre
 | w::ws,pre,h=>by
  have e:pre++ff (w::ws)=pre++ [32]++w++ff ws:=by simp [ff]
  have ih:=FY ws (pre++ [32]++w) (λx hx=>h x (U9 _ hx));rw [e,Qc pre w (ff ws) (h w (U3 ..)) (FX ws),ih]
theorem uP(w:List UInt8)(ws:List (List UInt8))(hw:gq w)(h:∀ w∈ws,gq w):wT (w++ff ws) 0=w::ws:=by
 have h1:=GG [] w (ff ws) hw (FX ws);have h2:=FY ws w h;rw [show([]++w:List UInt8)=w from rfl,show([]:List UInt8).length =0 from rfl,h2]at h1;exact h1
def mn(l:List UInt8):Prop:=∀ b∈l,b≠10
theorem qU{a b:List UInt8}(ha:mn a)(hb:mn b):mn (a++b):=λx hx=>by
 rcases Uu.1 hx with h|h
 ·exact ha x h
 ·exact hb x h
theorem qV{w:List UInt8}(h:gq w):mn w:=λb hb e=>by
 obtain⟨k,hk,rfl⟩:=T0 hb;exact(h.2 k).2.2 (by rw [Tc hk,e])
theorem qW:∀ (ws:List (List UInt8)),(∀ w∈ws,gq w)->mn (ff ws)
 | [],_=>λb hb=>by simp [ff]at hb
 | w::ws,h=>λb hb=>by
  have ih:=qW ws (λx hx=>h x (U9 _ hx));rw [show ff (w::ws)=32::(w++ff ws)from rfl]at hb;rcases TX.1 hb with rfl|hb
  ·decide
  ·exact qU (qV (h w (U3 ..))) ih b hb
theorem NF{a:List UInt8}(h:mn a)(r:List UInt8):iv (a++ [10]++r)=a::iv r:=by
 rw [yH (a++ [10]++r) a.length (by simp) (by rw [Ta,TZ,Tu (Tf _),TG];rfl) (λk hk=>by
  rw [Ta,TZ,Tt hk,Tc hk];exact h _ (Um hk))]
 congr 1
 ·rw [TZ,List.take_left' rfl]
 ·rw [List.drop_left' (by simp)]
theorem AY:∀ (L:List (List UInt8)),(∀ a∈L,mn a)->iv ((L.map λa=>a++ [10]).flatten)=L++ [[]]
 | [],_=>rfl
 | a::L,h=>by
  have ih:=AY L (λx hx=>h x (U9 _ hx));rw [TU,Uf,NF (h a (U3 ..)),ih];rfl
theorem J4(L:List (List UInt8)):strip (L++ [[]])=L:=by
 unfold strip;rw [List.getLast?_append,if_pos (by rfl),List.dropLast_concat]
def hC(ns:List Int):List (List UInt8):=ns.map itoa
theorem uQ(s:List UInt8)(ns:List Int):rowT s ns=(s++ff (hC ns))++ [10]:=by
 unfold rowT fj ff hC;rw [Uz,List.map_map];rfl
theorem Dh{n:Int}{below:Bool}(h:n.natAbs<10^6)(hb:below=true\/0<=n):(gK (itoa n) 6&&(below||decide (0<=gJ (itoa n))))=true/\gJ (itoa n)=n/\gq (itoa n):=by
 obtain⟨h1,h2⟩:=LM (v:=n) (D:=6) (by decide) (Ad 6 _ (by decide) h);refine⟨?_,h2,Qa h1⟩;rw [h1,h2];rcases hb with rfl|hb
 ·rfl
 ·rw [decide_eq_true hb,Bool.or_true];rfl
theorem pv{ns:List Int}(h:∀ n∈ns,n.natAbs<10^6):∀ w∈hC ns,gq w:=λw hw=>by
 obtain⟨n,hn,rfl⟩:=TW.1 hw;exact(Dh (below:=true) (h n hn) (.inl rfl)).2.2
theorem vT{ws:List Wd}{x:List UInt8}{xs:List (List UInt8)}(h:ws.map Wd.t=x::xs):∃ w r,ws=w::r/\w.t=x/\r.map Wd.t=xs:=by
 match ws,h with
 | w::r,h=>simp at h;exact⟨w,r,rfl,h.1,h.2⟩
theorem l3{ws:List Wd}{n:Int}{xs:List (List UInt8)}{below:Bool}(h:ws.map Wd.t=itoa n::xs)(hn:n.natAbs<10^6)(hb:below=true\/0<=n):eO below ws=0/\dZ (cq ws)=n/\ws.tail.map Wd.t=xs:=by
 obtain⟨w,r,rfl,h1,h2⟩:=vT h;obtain⟨a1,a2,a3⟩:=Dh hn hb;have hok:ik w below=true:=by unfold ik;rw [show w.txt.data.toList=itoa n from h1];exact a1
 exact⟨by simp [eO,hok],by show gJ w.txt.data.toList=n;rw [show w.txt.data.toList=itoa n from h1];exact a2,h2⟩
theorem Gw{ws:List Wd}{nm:List UInt8}{xs:List (List UInt8)}(h:ws.map Wd.t=nm::xs)(hn:dn (bs nm)=true):iL ws=0/\(cq ws).txt =bs nm/\ws.tail.map Wd.t=xs:=by
 obtain⟨w,r,rfl,h1,h2⟩:=vT h;have e:w.txt=bs nm:=by rw [<- h1];rfl
 exact⟨by simp [iL,e,hn],e,h2⟩
theorem vf{ws:List Wd}(h:ws.map Wd.t= []):ws= []:=by simpa using h
theorem zk:∀ {ns:List Int} {ws:List Wd},ws.map Wd.t=hC ns->(∀ n∈ns,n.natAbs<10^6)->kg true ws=(0,0)/\ws.map dZ=ns
 | [],ws,h,_=>by rw [vf h];exact⟨rfl,rfl⟩
 | n::ns,ws,h,hn=>by
  obtain⟨a1,a2,a3⟩:=l3 (below:=true) (xs:=hC ns) h (hn n (U3 ..)) (.inl rfl);obtain⟨b1,b2⟩:=zk a3 (λx hx=>hn x (U9 _ hx));exact⟨(FO a1).trans b1,by rw [yI (jU a1),a2,b2]⟩
theorem Rm{a w:List UInt8}{ws:List (List UInt8)}(h:wT a 0=w::ws):∃ c0 r,eh a 0=⟨bs w,c0⟩::r/\r.map Wd.t=ws:=by
 obtain⟨w0,r,h1,h2,h3⟩:=vT (ws:=eh a 0) h;exact⟨w0.col,r,by rw [h1, <- h2];rfl,h3⟩
theorem go_step{st:RS}{a w:List UInt8}{ws:List (List UInt8)}{L:List (List UInt8)}{R:j9}(h:wT a 0=w::ws)(hg:∀ c0 r,r.map Wd.t=ws->ew st.kind ⟨bs w,c0⟩ r=(0,0)/\ir (dt (cO st a) ⟨bs w,c0⟩ r) L=R):ir st (a::L)=R:=by
 obtain⟨c0,r,h1,h2⟩:=Rm h;obtain⟨g1,g2⟩:=hg c0 r h2;rw [ir,h1];simp only [g1,if_true];exact g2
theorem Qd{c0:Int}{r:List Wd}{nm:List UInt8}{st:RS}(hk:st.kind=⟨#[]⟩)(h:r.map Wd.t= [nm])(hn:dn (bs nm)=true):ew st.kind ⟨b8,c0⟩ r=(0,0)/\(dt st ⟨b8,c0⟩ r).nam =bs nm/\(dt st ⟨b8,c0⟩ r).js =st.js/\(dt st ⟨b8,c0⟩ r).bs =st.bs/\(dt st ⟨b8,c0⟩ r).ss =st.ss/\(dt st ⟨b8,c0⟩ r).kind =b8:=by
 obtain⟨a1,a2,a3⟩:=Gw h hn;have a4:=vf a3;have hki:e9 st.kind b8=0:=by rw [hk];simp [e9,fA]
 refine⟨?_,?_⟩
 ·unfold ew;rw [if_pos hki];exact pf (r:=r.tail) (by rw [nk,nB a1];rfl) (by rw [nk];exact U5) (by rw [a4];rfl)
 ·unfold dt;rw [if_pos (fA _)];exact⟨a2,rfl,rfl,rfl,rfl⟩
theorem NG{p:ByteArray}(h:p=b8\/p=bU):e9 p bQ=0:=by
 unfold e9 gV;rcases h with rfl|rfl<;>(simp only [gm];decide)
theorem Qe{p:ByteArray}(h:p=bQ):e9 p bU=0:=by
 subst h;unfold e9 gV;simp only [gm];decide
theorem J5{p:ByteArray}(h:p=bQ\/p=bS):e9 p bS=0:=by
 unfold e9 gV;rcases h with rfl|rfl<;>(simp only [gm];decide)
theorem NH{c0:Int}{r:List Wd}{j:fR}{st:RS}(hk:st.kind=b8\/st.kind=bU)(h:r.map Wd.t=hC [j.acr,j.up,j.lo,j.hi])(hn:∀ n∈ [j.acr,j.up,j.lo,j.hi],n.natAbs<10^6):ew st.kind ⟨bQ,c0⟩ r=(0,0)/\(dt st ⟨bQ,c0⟩ r).nam =st.nam/\(dt st ⟨bQ,c0⟩ r).js =st.js++ [j]/\(dt st ⟨bQ,c0⟩ r).bs =st.bs/\(dt st ⟨bQ,c0⟩ r).ss =st.ss/\(dt st ⟨bQ,c0⟩ r).kind =bQ:=by
 obtain⟨a1,a2,a3⟩:=l3 (below:=true) h (hn _ (by simp)) (.inl rfl);obtain⟨b1,b2,b3⟩:=l3 (below:=true) a3 (hn _ (by simp)) (.inl rfl);obtain⟨c1,c2,c3⟩:=l3 (below:=true) b3 (hn _ (by simp)) (.inl rfl);obtain⟨d1,d2,d3⟩:=l3 (below:=true) c3 (hn _ (by simp)) (.inl rfl);have d4:=vf d3;refine⟨?_,?_⟩
 ·unfold ew;rw [if_pos (NG hk)];exact pf (r:=r.tail.tail.tail.tail) (by rw [kT,jz a1,jz b1,jz c1,jz d1];rfl) (by rw [kT];exact zu _) (by rw [d4];rfl)
 ·unfold dt;rw [if_neg (by show ¬ bT bQ b8=true;rw [rP];decide),if_pos (fA _)];refine⟨rfl,?_,rfl,rfl,rfl⟩
  show st.js++ [_]=_
  rw [a2,b2,c2,d2]
theorem Qf{c0:Int}{r:List Wd}{b:fu}{st:RS}(hk:st.kind=bQ)(h:r.map Wd.t=hC [b.len,b.cant])(hn:∀ n∈ [b.len,b.cant],n.natAbs<10^6)(h0:0<=b.len):ew st.kind ⟨bU,c0⟩ r=(0,0)/\(dt st ⟨bU,c0⟩ r).nam =st.nam/\(dt st ⟨bU,c0⟩ r).js =st.js/\(dt st ⟨bU,c0⟩ r).bs =st.bs++ [b]/\(dt st ⟨bU,c0⟩ r).ss =st.ss/\(dt st ⟨bU,c0⟩ r).kind =bU:=by
 obtain⟨a1,a2,a3⟩:=l3 (below:=false) h (hn _ (by simp)) (.inr h0);obtain⟨b1,b2,b3⟩:=l3 (below:=true) a3 (hn _ (by simp)) (.inl rfl);have d4:=vf b3;refine⟨?_,?_⟩
 ·unfold ew;rw [if_pos (Qe hk)];exact pf (r:=r.tail.tail) (by rw [mw,nL a1,jz b1];rfl) (by rw [mw];exact qb _) (by rw [d4];rfl)
 ·unfold dt;rw [if_neg (by show ¬ bT bU b8=true;rw [rQ];decide),if_neg (by show ¬ bT bU bQ=true;rw [rS];decide),if_pos (fA _)];refine⟨rfl,rfl,?_,rfl,rfl⟩
  show st.bs++ [_]=_
  rw [a2,b2]
theorem J6{c0:Int}{r:List Wd}{s:eu}{st:RS}(hk:st.kind=bQ\/st.kind=bS)(h:r.map Wd.t=s.nam.data.toList::hC (s.fst::s.acr))(hn:∀ n∈s.fst::s.acr,n.natAbs<10^6)(hnm:dn s.nam=true)(h0:0<=s.fst)(ha:s.acr≠ []):ew st.kind ⟨bS,c0⟩ r=(0,0)/\(dt st ⟨bS,c0⟩ r).nam =st.nam/\(dt st ⟨bS,c0⟩ r).js =st.js/\(dt st ⟨bS,c0⟩ r).bs =st.bs/\(dt st ⟨bS,c0⟩ r).ss =st.ss++ [s]/\(dt st ⟨bS,c0⟩ r).kind =bS:=by
 obtain⟨n1,n2,n3⟩:=Gw h hnm;obtain⟨a1,a2,a3⟩:=l3 (below:=false) n3 (hn _ (by simp)) (.inr h0);obtain⟨x,xs,hx⟩:∃ x xs,s.acr=x::xs:=by
  cases hq:s.acr with
  | nil=>exact absurd hq ha
  | cons x xs=>exact⟨x,xs,rfl⟩
 have a3':r.tail.tail.map Wd.t=hC s.acr:=a3;obtain⟨r1,r2⟩:=zk a3' (λn hm=>hn n (U9 _ hm));rw [hx]at a3';obtain⟨b1,b2,b3⟩:=l3 (below:=true) (xs:=hC xs) a3' (hn _ (by rw [hx];simp)) (.inl rfl);obtain⟨c1,c2⟩:=zk b3 (λn hm=>hn n (by rw [hx];simp [hm]));refine⟨?_,?_⟩
 ·unfold ew;rw [if_pos (J5 hk)];rw [uI (by rw [nh,nB n1,nL a1,jz b1];rfl),B9,nh];exact(congrArg (kg true) (GP r)).trans c1
 ·unfold dt;rw [if_neg (by show ¬ bT bS b8=true;rw [rR];decide),if_neg (by show ¬ bT bS bQ=true;rw [rT];decide),if_neg (by show ¬ bT bS bU=true;rw [rU];decide)];refine⟨rfl,rfl,rfl,?_,rfl⟩
  show st.ss++ [_]=_
  rw [n2,a2,r2];rfl
theorem Di:gq [108,105,110,101]:=uO (by decide) (by decide)
theorem AZ:gq jg:=uO (by decide) (by decide)
theorem Dj:gq ix:=uO (by decide) (by decide)
theorem Ai:gq [115,119,105,116,99,104]:=uO (by decide) (by decide)
def vw(l:aU):List UInt8:= [108,105,110,101]++ff [l.nam.data.toList]
def zx(b:fu):List UInt8:=ix++ff (hC [b.len,b.cant])
def vx(j:fR):List UInt8:=jg++ff (hC [j.acr,j.up,j.lo,j.hi])
def oz(s:eu):List UInt8:= [115,119,105,116,99,104]++ff (s.nam.data.toList::hC (s.fst::s.acr))
theorem SO(l:aU):kG l=vw l++ [10]:=by
 unfold kG vw;rw [uQ];simp [ff,hC,mj]
theorem SQ(b:fu):lC b=zx b++ [10]:=uQ _ _
theorem SR(j:fR):kP j=vx j++ [10]:=uQ _ _
theorem SS(s:eu):na s=oz s++ [10]:=by
 unfold na oz;rw [uQ];simp [ff,lB]
def kQ(l:aU):Nat->Nat->List (List UInt8)
 | _,0=> []
 | k,n+1=>(if k=0 then []else [zx (l.bs.getD (k - 1) default)])++vx (l.js.getD k default)::kQ l (k+1) n
theorem Dk(l:aU):∀ n k,((kQ l k n).map λa=>a++ [10]).flatten =((List.range' k n).map (mm l)).flatten
 | 0,k=>rfl
 | n+1,k=>by
  rw [List.range'_succ,TU,Uf, <- Dk l n (k+1),kQ,mm,SR]
  by_cases hk:k=0
  ·rw [if_pos hk,if_pos hk];simp
  ·rw [if_neg hk,if_neg hk,SQ];simp
def rV(l:aU):List (List UInt8):=vw l::(kQ l 0 l.js.length++l.ss.map oz)
theorem Sj(l:aU):lD l=((rV l).map λa=>a++ [10]).flatten :=by
 unfold lD fx fl rV;rw [Uz,TU,Uf,Ux,UN,Dk,SO, <- List.range_eq_range'];rw [TZ]
 congr 2
 rw [List.map_map]
 congr 1
 apply List.map_congr_left;intro s _;exact SS s
theorem tj{ns:List Int}(h:∀ n∈ns,-30000<=n/\n<=30000):∀ n∈ns,n.natAbs<10^6:=λn hn=>by have:=h n hn;omega
theorem A0{ns:List Int}(h:∀ n∈ns,-20000<=n/\n<=20000):∀ n∈ns,n.natAbs<10^6:=λn hn=>by have:=h n hn;omega
theorem EY{l:aU}(h:dc l){i:Nat}(hi:i<l.ss.length):dn (l.ss.getD i default).nam =true/\0<=(l.ss.getD i default).fst /\(l.ss.getD i default).acr ≠ []:=by
 have h0:=h.sa i hi;unfold fq at h0
 split at h0
 ·cases h0
 split at h0
 ·cases h0
 split at h0
 ·cases h0
 split at h0
 ·cases h0
 rename_i h1 h2 h3 h4
 have hw:dh (l.ss.getD i default).fst 1 (l.bs.length - (l.ss.getD i default).acr.length)=true:=by simpa using h4
 unfold dh at hw;simp only [Ti,decide_eq_true_eq]at hw;exact⟨by simpa using h1,by omega,λe=>h3 (by rw [e];rfl)⟩
theorem Rn{b:fu}(h:gQ b=0):0<=b.len:=by
 unfold gQ at h
 split at h
 ·rename_i hb
  unfold j6 dh at hb;simp only [Ti,decide_eq_true_eq]at hb;omega
 ·cases h
theorem getD_at{α:Type}[Inhabited α]{l:List α}{i:Nat}(h:i<l.length):l[i]? =some (l.getD i default):=by rw [Ta,Tc h];rfl
theorem yM{α:Type}[Inhabited α]{l:List α}{i:Nat}(h:i<l.length):l.take (i+1)=l.take i++ [l.getD i default]:=by rw [U4,getD_at h];rfl
theorem Qg{l:aU}(h:dc l):∀ a∈rV l,mn a:=by
 have hnm:gq l.nam.data.toList:=ti (nm:=l.nam.data.toList) h.nam;intro a ha;unfold rV at ha;rcases TX.1 ha with rfl|ha
 ·exact qU (qV Di) (qW _ (λw hw=>by simp at hw;subst hw;exact hnm))
 ·rcases Uu.1 ha with ha|ha
  ·have key:∀ n k,k+n<=l.js.length-> ∀ a∈kQ l k n,mn a:=by
    intro n
    induction n with
    | zero=>intro k _ a ha;simp [kQ]at ha
    | succ n ih=>
     intro k hk a ha;have hj:=h.js;rw [kQ]at ha;rcases Uu.1 ha with ha|ha
     ·split at ha
      ·simp at ha
      ·simp at ha;subst ha;exact qU (qV Dj) (qW _ (pv (tj (nZ (h.ba (k - 1) (by omega))))))
     ·rcases TX.1 ha with rfl|ha
      ·exact qU (qV AZ) (qW _ (pv (A0 (ry (h.ja k (by omega))))))
      ·exact ih (k+1) (by omega) a ha
   exact key _ 0 (by omega) a ha
  ·obtain⟨s,hs,rfl⟩:=TW.1 ha;obtain⟨i,hi,rfl⟩:=T0 hs;have e:l.ss[i]=l.ss.getD i default:=by rw [Ta,Tc hi];rfl
   rw [e];obtain⟨m1,m2,m3⟩:=EY h hi;refine qU (qV Ai) (qW _ λw hw=>?_);rcases TX.1 hw with rfl|hw
   ·exact ti (nm:=(l.ss.getD i default).nam.data.toList) m1
   ·exact pv (tj (rz h hi).2.2) w hw
structure GQ (l:aU) (st:RS) (j b s:Nat):Prop where
 nam:st.nam=l.nam
 js:st.js=l.js.take j
 bs:st.bs=l.bs.take b
 ss:st.ss=l.ss.take s
theorem HZ{l:aU}(h:dc l)(hg:(b9 l).2=0):∀ n st,n<=l.ss.length->GQ l st l.js.length l.bs.length (l.ss.length - n)->(st.kind=bQ\/st.kind=bS)->ir st ((l.ss.drop (l.ss.length - n)).map oz)=⟨l,0,0,0⟩:=by
 intro n
 induction n with
 | zero=>
  intro st _ hr hk;rw [UT (by omega),List.map_nil,ir];have hl:st.dL=l:=by
   unfold RS.dL;rw [hr.nam,hr.js,hr.bs,hr.ss,Uz,Uz,Nat.sub_zero,Uz]
  have hj:st.js.length≠0:=by rw [hr.js,Uz,h.js];omega
  have hb:bT st.kind bU=false:=by
   rcases hk with e|e<;>(rw [e];simp only [gm];decide)
  unfold mP;rw [hl,if_neg (by rintro(h1|h1);exact hj h1;rw [hb]at h1;cases h1),if_pos hg]
 | succ n ih=>
  intro st hn hr hk;have hi:l.ss.length - (n+1)<l.ss.length:=by omega
  obtain⟨m1,m2,m3⟩:=EY h hi;have hd:l.ss.drop (l.ss.length - (n+1))=l.ss.getD (l.ss.length - (n+1)) default::l.ss.drop (l.ss.length - n):=by
   rw [UL hi,show l.ss.length - (n+1)+1=l.ss.length - n by omega]
   congr 1
   rw [Ta,Tc hi];rfl
  rw [hd,TU];have hsm:=tj (rz h hi).2.2;have hw:=uP [115,119,105,116,99,104] ((l.ss.getD (l.ss.length - (n+1)) default).nam.data.toList ::hC ((l.ss.getD (l.ss.length - (n+1)) default).fst ::(l.ss.getD (l.ss.length - (n+1)) default).acr)) Ai (λw hw=>by
   rcases TX.1 hw with rfl|hw
   ·exact ti (nm:=(l.ss.getD (l.ss.length - (n+1)) default).nam.data.toList) m1
   ·exact pv hsm w hw)
  refine go_step hw λc0 r hrw=>?_
  obtain⟨g1,g2,g3,g4,g5,g6⟩:=J6 (c0:=c0) (st:=cO st (oz (l.ss.getD (l.ss.length - (n+1)) default))) hk hrw hsm m1 m2 m3;refine⟨g1,ih _ (by omega) ⟨g2.trans hr.nam,g3.trans hr.js,g4.trans hr.bs,?_⟩ (.inr g6)⟩;refine g5.trans ?_
  show st.ss++ [_]=_
  rw [hr.ss,show l.ss.length - n=l.ss.length - (n+1)+1 by omega,yM hi]
theorem J7{l:aU}(h:dc l)(hg:(b9 l).2=0):∀ n k st,k+n=l.js.length->GQ l st k (k - 1) 0->(k=0/\st.kind=b8\/0<k/\st.kind=bQ)->ir st (kQ l k n++l.ss.map oz)=⟨l,0,0,0⟩:=by
 intro n
 induction n with
 | zero=>
  intro k st hk hr hkd;have hj:=h.js;rw [kQ,UO];have:=HZ h hg l.ss.length st (Tf _) ⟨hr.nam,by rw [hr.js,show k=l.js.length by omega],by rw [hr.bs,show k - 1=l.bs.length by omega],by rw [hr.ss,TG]⟩ (.inl (by rcases hkd with⟨h1,_⟩|⟨_,h2⟩;omega;exact h2))
  rwa [TG,UZ]at this
 | succ n ih=>
  intro k st hk hr hkd;have hj:=h.js;have hjk:k<l.js.length:=by omega
  have hjs:=A0 (ry (h.ja k hjk));have joint:∀ st,st.nam=l.nam->st.js=l.js.take k->st.bs=l.bs.take k->st.ss=l.ss.take 0->(st.kind=b8\/st.kind=bU)->ir st (vx (l.js.getD k default)::(kQ l (k+1) n++l.ss.map oz))=⟨l,0,0,0⟩:=by
   intro st q1 q2 q3 q4 q5;have hw:=uP jg (hC [(l.js.getD k default).acr,(l.js.getD k default).up,(l.js.getD k default).lo,(l.js.getD k default).hi]) AZ (pv hjs);refine go_step hw λc0 r hrw=>?_
   obtain⟨g1,g2,g3,g4,g5,g6⟩:=NH (c0:=c0) (st:=cO st (vx (l.js.getD k default))) q5 hrw hjs;refine⟨g1,ih (k+1) _ (by omega) ⟨g2.trans q1,?_,g4.trans q3,g5.trans q4⟩ (.inr ⟨by omega,g6⟩)⟩;refine g3.trans ?_
   show st.js++ [_]=_
   rw [q2,yM hjk]
  rw [kQ];rcases hkd with⟨rfl,hkd⟩|⟨h0,hkd⟩
  ·rw [if_pos rfl,UO];exact joint st hr.nam hr.js (by rw [hr.bs]) hr.ss (.inl hkd)
  ·rw [if_neg (by omega)];have hbk:k - 1<l.bs.length:=by omega
   have hbs:=tj (nZ (h.ba (k - 1) hbk));have hw:=uP ix (hC [(l.bs.getD (k - 1) default).len,(l.bs.getD (k - 1) default).cant]) Dj (pv hbs);refine go_step hw λc0 r hrw=>?_
   obtain⟨g1,g2,g3,g4,g5,g6⟩:=Qf (c0:=c0) (st:=cO st (zx (l.bs.getD (k - 1) default))) hkd hrw hbs (Rn (h.ba (k - 1) hbk));refine⟨g1,joint _ (g2.trans hr.nam) (g3.trans hr.js) ?_ (g5.trans hr.ss) (.inr g6)⟩;refine g4.trans ?_
   show st.bs++ [_]=_
   rw [hr.bs, <- yM hbk,show k - 1+1=k by omega]
theorem J8{l:aU}(hg:(b9 l).2=0):rI (lD l)=⟨l,0,0,0⟩:=by
 have h:=ky hg;have hlen:(lD l).length <=60000:=by
  have h1:=qT h l.ss.length (Tf _);have h2:=h.s1;have h3:=h.js;have h4:=h.n1;unfold lD;omega
 unfold rI;rw [if_neg (by omega),Me,Sj,AY _ (Qg h),J4];unfold rV;have hnm:gq l.nam.data.toList:=ti (nm:=l.nam.data.toList) h.nam;have hw:=uP [108,105,110,101] [l.nam.data.toList] Di (λw hw=>by simp at hw;subst hw;exact hnm);refine go_step hw λc0 r hrw=>?_
 obtain⟨g1,g2,g3,g4,g5,g6⟩:=Qd (c0:=c0) (st:=cO lA (vw l)) rfl hrw h.nam;exact⟨g1,J7 h hg l.js.length 0 _ (by omega) ⟨g2,g3.trans rfl,g4.trans rfl,g5.trans rfl⟩ (.inl ⟨rfl,g6⟩)⟩
end Go.Proofs.YtbmlgmblfboigaaGreatDoor
