/- Texts of this claim, one behind the other: lemmas for the statement. -/
import Derived.Test.YtbmlgmblfboigaaGreatDoorT0
import Derived.Test.YtbmlgmblfboigaaGreatDoorM12
import Derived.Test.YtbmlgmblfboigaaGreatDoorA54
set_option maxRecDepth 100000
set_option maxHeartbeats 4000000
set_option linter.unusedSimpArgs false
set_option linter.unusedVariables false
namespace Go.Proofs.YtbmlgmblfboigaaGreatDoor
open Go Go.RowKit Go.Proofs Go.Lib
theorem UL:aQ Tryz.prog 3 false 1:=⟨ai,ai⟩
theorem oR:aQ Tryz.prog 9 false 1:=⟨ai,ai⟩
def cz:ByteArray:=⟨#[108,105,110,101]⟩
def bZ:ByteArray:=⟨#[106,111,105,110,116]⟩
def ck:ByteArray:=⟨#[98,101,97,109]⟩
def cf:ByteArray:=⟨#[115,119,105,116,99,104]⟩
def cg(a b:ByteArray):Bool:=a.toList==b.toList
def iY(p k:ByteArray):Bool:=if cg k bZ then cg p cz||cg p ck else if cg k ck then cg p bZ else cg p bZ||cg p cf
def jz(w:Wd)(below:Bool):Bool:=iO w.txt.data.toList 6&&(below||decide (0<=iN w.txt.data.toList))
section
variable {mem:List Ob} {n:Nat} (hn:mem.length=n) {b:Nat} {nam:ByteArray} {J B S M:AV} {cnt:Int} {w:Wd} {ws:List Wd} {last:Wd} {kind:ByteArray}
include hn
theorem GG(hb:mem[b]? =some (.box aW (aV nam J B S M cnt ws last kind)))(k:ByteArray):ee Tryz.prog 67 [.ptr b 0,.v (.string k)] mem (λr m'=>r=dK (iY kind k)/\bM mem m' (λ_=>False)) (λ_ _=>False):=by
 have hbn:=cV hb hn;refine gw (fn:=Tryz.f67) 39 ai rfl ai aU ?_;intro aE aC hA ap;have aJ:ak aE (.tmp 0)=_:=hA 0 _ rfl;have aK:ak aE (.tmp 1)=_:=hA 1 _ rfl;have a3:aC.length=n:=by rw [ap];exact hn
 have af:aC[b]? =_:=(congrArg (λq=>q[b]?) ap).trans hb;simp only [pS,Value.cells,Nat.reduceAdd,aV,aW]at af;have an:bM mem aC (λ_=>False):=by rw [ap];exact bM.refl _ _
 clear hA ap;refine au<|at_<|ar (aB ay) rfl<|bq (ae aJ) (ae aK) ?_;clear aJ aK;intro a5 aL aM
 refine ao<|au<|au<|at_<|ar (al aM) rfl<|bq (ae aL) aa ?_;clear aL aM;intro a6 aN aD
 refine ao<|bV<|au<|at_<|ar (fb aD ay) rfl<|ar (aB aa) rfl<|bJ (ag aN) (ag aD) aa ?_;clear aN aD;intro a7 ah av aw
 refine ao<|bj aw (λaO=>?_) (λaO=>?_)
 ·skip;refine au<|at_<|ar (al ah) rfl<|ar (bH aa) rfl<|ar (aI eJ rfl aa) rfl<|ar (ax (aH oR rfl af aa az) rY) rfl ?_
  refine ar (fb aa ay) rfl<|ar (al aa) rfl<|bQ aa (λab aP=>?_) (λab aP=>?_)
  ·skip;refine aF ⟨_,rfl,.inl ab⟩ rfl ?_;refine aF ⟨_,rfl,.inl (ae ab)⟩ rfl ?_;refine aF ⟨_,rfl,.inl (ag ab)⟩ rfl ?_;refine aF ⟨_,rfl,.inl (ae (ag ab))⟩ rfl ?_;refine aF ⟨_,rfl,.inl (aj ab)⟩ rfl ?_;refine ar (bD (ae (aj ab)) ay) rfl<|ar (aB aa) rfl<|aY aa ?_;clear ab ah av aw;intro a8 aQ
   refine ao<|bg<|db<|bS<|⟨_,kM ai (bc aQ),?_⟩
   refine⟨?_,an⟩;(simp_all [iY,cg,cz,bZ,ck,cf];done)
  refine aG (al (ag (aj ah))) ⟨_,rfl,ab⟩ rfl ?_;refine aG (bH aa) ⟨_,rfl,(ae ab)⟩ rfl ?_;refine aG (aI eJ rfl aa) ⟨_,rfl,(ag ab)⟩ rfl ?_;refine aG (ax (aH oR rfl af aa az) rY) ⟨_,rfl,(ae (ag ab))⟩ rfl ?_;refine aG (fb aa ay) ⟨_,rfl,(aj ab)⟩ rfl ?_;refine ar (bG (ae (aj ab)) aa) rfl<|ar (aB aa) rfl<|aY aa ?_;clear ab ah av aw;intro a9 aR
  refine ao<|bg<|db<|bS<|⟨_,kM ai (bc aR),?_⟩
  refine⟨?_,an⟩;(simp_all [iY,cg,cz,bZ,ck,cf];done)
 refine au<|at_<|ar (fb av ay) rfl<|ar (aB aa) rfl<|bq (ag ah) aa ?_;clear ah av aw;intro ba am aA
 refine ao<|bj aA (λaS=>?_) (λaS=>?_)
 ·skip;refine au<|at_<|ar (al am) rfl<|ar (bH aa) rfl<|ar (aI eJ rfl aa) rfl<|ar (ax (aH oR rfl af aa az) rY) rfl ?_
  refine ar (fb aa ay) rfl<|ar (aB aa) rfl<|aY aa ?_;clear am aA;intro bb aT
  refine ao<|bg<|db<|bS<|⟨_,kM ai (bc aT),?_⟩
  refine⟨?_,an⟩;(simp_all [iY,cg,cz,bZ,ck,cf];done)
 refine bC<|cK<|ao<|au<|at_<|ar (al am) rfl<|ar (bH aa) rfl<|ar (aI eJ rfl aa) rfl<|ar (ax (aH oR rfl af aa az) rY) rfl ?_
 refine ar (fb aa ay) rfl<|ar (al aa) rfl<|bQ aa (λad aX=>?_) (λad aX=>?_)
 ·skip;refine aF ⟨_,rfl,.inl ad⟩ rfl ?_;refine aF ⟨_,rfl,.inl (ae ad)⟩ rfl ?_;refine aF ⟨_,rfl,.inl (ag ad)⟩ rfl ?_;refine aF ⟨_,rfl,.inl (ae (ag ad))⟩ rfl ?_;refine aF ⟨_,rfl,.inl (aj ad)⟩ rfl ?_;refine ar (bD (ae (aj ad)) ay) rfl<|ar (aB aa) rfl<|aY aa ?_;clear ad am aA;intro be aZ
  refine ao<|bg<|⟨_,kM ai (bc aZ),?_⟩
  refine⟨?_,an⟩;(simp_all [iY,cg,cz,bZ,ck,cf];done)
 refine aG (al (ag (aj am))) ⟨_,rfl,ad⟩ rfl ?_;refine aG (bH aa) ⟨_,rfl,(ae ad)⟩ rfl ?_;refine aG (aI eJ rfl aa) ⟨_,rfl,(ag ad)⟩ rfl ?_;refine aG (ax (aH oR rfl af aa az) rY) ⟨_,rfl,(ae (ag ad))⟩ rfl ?_;refine aG (fb aa ay) ⟨_,rfl,(aj ad)⟩ rfl ?_;refine ar (bG (ae (aj ad)) aa) rfl<|ar (aB aa) rfl<|aY aa ?_;clear ad am aA;intro bf a2
 refine ao<|bg<|⟨_,kM ai (bc a2),?_⟩
 refine⟨?_,an⟩;(simp_all [iY,cg,cz,bZ,ck,cf];done)
theorem UM(hb:mem[b]? =some (.box aW (aV nam J B S M cnt (w::ws) last kind)))(hl:ws.length<=1000000)(hs:w.txt.size<=1000000)(hi:dF w.txt=true):ee Tryz.prog 68 [.ptr b 0] mem (λr m'=>r= .v (.string w.txt)/\bM mem m' (λj=>j=b)/\m'[b]? =some (.box aW (aV nam J B S M cnt ws w kind))) (λ_ _=>False):=by
 have hbn:=cV hb hn;refine gw (fn:=Tryz.f68) 16 ai rfl ai aU ?_;intro a5 ap hA af;have aJ:ak a5 (.tmp 0)=_:=hA 0 _ rfl;have aN:ap.length=n:=by rw [af];exact hn
 have aO:ap[b]? =_:=(congrArg (λq=>q[b]?) af).trans hb;simp only [pS,Value.cells,Nat.reduceAdd,aV,aW,bn]at aO;have a6:bM mem ap (λj=>j=b):=by rw [af];exact bM.refl _ _
 clear hA af;refine au<|at_<|ar (aB ay) rfl<|aY (ae aJ) ?_;clear aJ;intro bf av
 refine ao<|au<|at_<|ar (al av) rfl<|dt (mg (J:=J) (B:=B) (S:=S) (M:=M) (nam:=nam) (cnt:=cnt) (w:=w) (ws:=ws) (last:=last) (kind:=kind) aN aO hl) (aE aa aM) lg trivial rfl (λbk bm a7=>?_) (λ_ _ h=>h.elim)
 obtain⟨rfl,aP,aA⟩:=a7;simp only [pS,Value.cells,Nat.reduceAdd,aV,aW,bn]at aA;have aQ:=a6.trans aP qt;obtain⟨bo,aD,bp⟩:=aP.len_ aN;refine aL (cy ll rfl aD) trivial rfl (λbv ab=>?_);have am:=bu ab aD;simp only [pS,Value.cells,Nat.reduceAdd,aV,aW,bn]at am;have aR:=aK ab aA;have aS:=RestR.aK ab aQ;have a8:=br ab aD;clear ab aA aQ;refine aL (bP aa (ae aa) rfl rfl am lp rfl az) trivial rfl (λbw ad=>?_);have aF:=aZ ad am;simp only [pS,Value.cells,Nat.reduceAdd,aV,aW,bn]at aF;have a9:=aw ad aR ah;have ba:=RestR.aw ad aS ej;have bx:=aX ad a8;clear ad am aR aS;refine bq (aC (ae (ag av))) (aC aa) ?_;clear av;intro bz aT aG;refine ao<|au<|au<|at_<|ar (aI iv rfl aG) rfl<|ar (ax (aH oR rfl aF aa az) dz) rfl ?_
 refine ar (bh (aE aa aM) rfl ((vg w.txt ah).mono (λq h=>show q=dK true from h.trans (by rw [hi]))) xf) rfl ?_;refine ar (c8 aa) rfl<|bJ (aj aT) (aj aG) aa ?_;clear aT aG;intro bA bb a2 a3
 refine ao<|bj a3 (λan=>?_) (λan=>?_)
 ·cases an
 replace an:=dm an;refine bC<|ao<|au<|at_<|ar (aI iv rfl a2) rfl<|ar (ax (aH oR rfl aF aa az) dz) rfl ?_
 refine ar (aB aa) rfl<|aY aa ?_;clear bb a2 a3;intro bB be
 refine ao<|bg<|⟨_,kM ai (bc be),?_⟩
 exact⟨rfl,ba,a9⟩
theorem Rk(hb:mem[b]? =some (.box aW (aV nam J B S M cnt (w::ws) last kind)))(hl:ws.length<=1000000)(hs:w.txt.size<=1000000)(hi:dF w.txt=false):ee Tryz.prog 68 [.ptr b 0] mem (λ_ _=>False) (λv m'=>v=gu cnt w.col 4/\bM mem m' (λj=>j=b)):=by
 have hbn:=cV hb hn;refine gw (fn:=Tryz.f68) 16 ai rfl ai aU ?_;intro a3 ap hA af;have aJ:ak a3 (.tmp 0)=_:=hA 0 _ rfl;have aN:ap.length=n:=by rw [af];exact hn
 have aO:ap[b]? =_:=(congrArg (λq=>q[b]?) af).trans hb;simp only [pS,Value.cells,Nat.reduceAdd,aV,aW,bn]at aO;have a5:bM mem ap (λj=>j=b):=by rw [af];exact bM.refl _ _
 clear hA af;refine au<|at_<|ar (aB ay) rfl<|aY (ae aJ) ?_;clear aJ;intro bf av
 refine ao<|au<|at_<|ar (al av) rfl<|dt (mg (J:=J) (B:=B) (S:=S) (M:=M) (nam:=nam) (cnt:=cnt) (w:=w) (ws:=ws) (last:=last) (kind:=kind) aN aO hl) (aE aa aM) lg trivial rfl (λbg bk a6=>?_) (λ_ _ h=>h.elim)
 obtain⟨rfl,aP,aA⟩:=a6;simp only [pS,Value.cells,Nat.reduceAdd,aV,aW,bn]at aA;have aQ:=a5.trans aP qt;obtain⟨bm,aD,bo⟩:=aP.len_ aN;refine aL (cy ll rfl aD) trivial rfl (λbp ab=>?_);have am:=bu ab aD;simp only [pS,Value.cells,Nat.reduceAdd,aV,aW,bn]at am;have aR:=aK ab aA;have aS:=RestR.aK ab aQ;have a7:=br ab aD;clear ab aA aQ;refine aL (bP aa (ae aa) rfl rfl am lp rfl az) trivial rfl (λbv ad=>?_);have aF:=aZ ad am;simp only [pS,Value.cells,Nat.reduceAdd,aV,aW,bn]at aF;have a8:=aw ad aR ah;have a9:=RestR.aw ad aS ej;have ba:=aX ad a7;clear ad am aR aS;refine bq (aC (ae (ag av))) (aC aa) ?_;clear av;intro bw aT aG;refine ao<|au<|au<|at_<|ar (aI iv rfl aG) rfl<|ar (ax (aH oR rfl aF aa az) dz) rfl ?_
 refine ar (bh (aE aa aM) rfl ((vg w.txt ah).mono (λq h=>show q=dK false from h.trans (by rw [hi]))) xf) rfl ?_;refine ar (c8 aa) rfl<|bJ (aj aT) (aj aG) aa ?_;clear aT aG;intro bx bb bc be
 refine ao<|bj be (λan=>?_) (λan=>?_)
 ·replace an:=di an;refine at_<|ar (al bb) rfl<|ar (aI kB rfl (ae bc)) rfl<|ar (ax (aH UL rfl aF aa az) dz) rfl ?_
  refine dt (iC (J:=J) (B:=B) (S:=S) (M:=M) (nam:=nam) (cnt:=cnt) (ws:=ws) (last:=w) (kind:=kind) ba a8 _ _) (aE (ag aa) (aE aa (aE ay aM))) iD trivial rfl (λ_ _ h=>h.elim) (λbz bA a2=>?_)
  repeat (refine eA ?_)
  exact⟨_,rfl,a2.1,a9.trans a2.2 jo⟩
 ·cases an
theorem OC(hb:mem[b]? =some (.box aW (aV nam J B S M cnt [] last kind)))(hc: -1000000000<=last.col/\last.col<=1000000000)(hs:last.txt.size<=1000000000):ee Tryz.prog 68 [.ptr b 0] mem (λ_ _=>False) (λv m'=>v=gu cnt (last.col+last.txt.size) 6/\bM mem m' (λj=>j=b)):=by
 have hbn:=cV hb hn;refine gw (fn:=Tryz.f68) 16 ai rfl ai aU ?_;intro aj ad hA ab;have af:ak aj (.tmp 0)=_:=hA 0 _ rfl;have am:ad.length=n:=by rw [ab];exact hn
 have ag:ad[b]? =_:=(congrArg (λq=>q[b]?) ab).trans hb;simp only [pS,Value.cells,Nat.reduceAdd,aV,aW,bn]at ag;have an:bM mem ad (λj=>j=b):=by rw [ab];exact bM.refl _ _
 clear hA ab;refine au<|at_<|ar (aB ay) rfl<|aY (ae af) ?_;clear af;intro av ap
 refine ao<|au<|at_<|ar (al ap) rfl<|dt (Gu (J:=J) (B:=B) (S:=S) (M:=M) (nam:=nam) (cnt:=cnt) (last:=last) (kind:=kind) am ag hc hs) (aE aa aM) lg trivial rfl (λ_ _ h=>h.elim) (λaw ax ah=>?_)
 repeat (refine eA ?_)
 exact⟨_,rfl,ah.1,an.trans ah.2 jo⟩
end
end Go.Proofs.YtbmlgmblfboigaaGreatDoor
namespace Go.Proofs.YtbmlgmblfboigaaGreatDoor
open Go Go.RowKit Go.Proofs Go.Lib
theorem zg:∀ args w,(callFunc 95 args).run Tryz.prog w= .ok (.enter 95 args) w:=λ_ _=>by kernel_rfl
theorem Em:∀ args w,(callFunc 96 args).run Tryz.prog w= .ok (.enter 96 args) w:=λ_ _=>by kernel_rfl
theorem wX:aQ Tryz.prog 3 false 1:=⟨ai,ai⟩
theorem qm:aQ Tryz.prog 9 false 1:=⟨ai,ai⟩
theorem zh:isIf (Tryz.prog.underlying 147)=true:=by kernel_rfl
section
variable {mem:List Ob} {n:Nat} (hn:mem.length=n) {b:Nat} {nam:ByteArray} {J B S M:AV} {cnt:Int} {w:Wd} {ws:List Wd} {last:Wd} {kind:ByteArray} {es er:Value} (hes:e8 es) (her:e8 er) (h0:mem[0]? =some (.bT (gX es er)))
include hn h0
theorem LD(hb:mem[b]? =some (.box aW (aV nam J B S M cnt (w::ws) last kind)))(hl:ws.length<=1000000)(hs:w.txt.size<=1000000)(below:Bool)(v:Int)(hv:atoiAll w.txt.data.toList= .ok v)(hi:jz w below=true):ee Tryz.prog 69 [.ptr b 0,.v (.bool below)] mem (λr m'=>r=mA v/\bM mem m' (λj=>j=b)/\m'[b]? =some (.box aW (aV nam J B S M cnt ws w kind))) (λ_ _=>False):=by
 have hbn:=cV hb hn;have hb0:b≠0:=λe=>by rw [e]at hb;rw [hb]at h0;cases h0
 obtain⟨hk,hnn⟩:=zd hv 6;have hvb:=atoiAll_bounds hv;have hc:=Ji (itoa v) w.txt;unfold jz at hi;rw [hk,hnn]at hi;simp only [Xg,X1,decide_eq_true_eq]at hi;obtain⟨⟨hi1,hi2⟩,hi3⟩:=hi;rw [hi1]at hc;simp only [decide_true]at hc;refine gw (fn:=Tryz.f69) 45 ai rfl ai aU ?_;intro ba aO hA aF;have bb:ak ba (.tmp 0)=_:=hA 0 _ rfl;have be:ak ba (.tmp 1)=_:=hA 1 _ rfl;have bk:aO.length=n:=by rw [aF];exact hn
 have bS:aO[0]? =_:=(congrArg (λq=>q[0]?) aF).trans h0;have bm:aO[b]? =_:=(congrArg (λq=>q[b]?) aF).trans hb;simp only [pS,Value.cells,Nat.reduceAdd,aV,aW,bn]at bm;have bT:bM mem aO (λj=>j=b):=by rw [aF];exact bM.refl _ _
 clear hA aF;refine au<|at_<|ar (aB ay) rfl<|bq (ae bb) (ae be) ?_;clear bb be;intro b9 aS bo
 refine ao<|au<|at_<|ar (al aS) rfl<|dt (mg (J:=J) (B:=B) (S:=S) (M:=M) (nam:=nam) (cnt:=cnt) (w:=w) (ws:=ws) (last:=last) (kind:=kind) bk bm hl) (aE aa aM) lg trivial rfl (λca cb bV=>?_) (λ_ _ h=>h.elim)
 obtain⟨rfl,aT,a2⟩:=bV;have bv:=aT.at_ bS cr;simp only [pS,Value.cells,Nat.reduceAdd,aV,aW,bn]at a2;have bw:=bT.trans aT qt;obtain⟨cc,a3,cd⟩:=aT.len_ bk;refine aL (cy ll rfl a3) trivial rfl (λce an=>?_);have aP:=bu an a3;simp only [pS,Value.cells,Nat.reduceAdd,aV,aW,bn]at aP;have bx:=aK an bv;have bz:=aK an a2;have bA:=RestR.aK an bw;have bY:=br an a3;clear an bv a2 bw;refine aL (bP aa (ae aa) rfl rfl aP lp rfl az) trivial rfl (λcf ap=>?_);have aQ:=aZ ap aP;simp only [pS,Value.cells,Nat.reduceAdd,aV,aW,bn]at aQ;have bZ:=aw ap bx ah;have bB:=aw ap bz ah;have bE:=RestR.aw ap bA ej;have cg:=aX ap bY;clear ap aP bx bz bA;refine bJ (aC (ae (ag aS))) (aC (ae (ag bo))) (aC aa) ?_;clear aS bo;intro ci bF bH a5;refine ao<|au<|at_<|ar (aI iv rfl a5) rfl<|ar (ax (aH qm rfl aQ aa az) dz) rfl ?_
 refine ar (bh (aE aa aM) rfl (DZ w.txt ah v hv) zg) rfl ?_;refine ar (al aa) rfl<|ar (cI aa rfl) rfl<|ar (cI (ae aa) rfl) rfl<|ar (aB (ae aa)) rfl<|ar (aB (ae aa)) rfl<|bR (aA bF) (aA bH) (aA a5) (ae aa) aa ?_;clear bF bH a5;intro cj aR a6 av aD a7
 refine ao<|au<|au<|dZ 24 ai ai ai ai ?_
 refine dr (al a7) rfl<|dr (DY aa zh) rfl<|dr (al aa) rfl<|gh aa (λad bI=>?_) (λad bI=>?_)
 ·cases bI
 refine cD (al (ae (ag aD))) ⟨_,rfl,ad⟩ rfl ?_;refine cD (tg (aE aa aM) rfl bZ (Aj es er v (by unfold In64;omega)) AT) ⟨_,rfl,(ae ad)⟩ rfl ?_;refine cD (aI iv rfl (ae (aj av))) ⟨_,rfl,(ag ad)⟩ rfl ?_;refine cD (ax (aH qm rfl aQ aa az) dz) ⟨_,rfl,(ae (ag ad))⟩ rfl ?_;refine cD (eD (ag aa) aa) ⟨_,rfl,(aj ad)⟩ rfl ?_;refine dr (bG (ae (aj ad)) aa) rfl<|dr (al aa) rfl<|gh aa (λaf aG=>?_) (λaf aG=>?_)
 ·(rw [hi1,hc]at aG;simp at aG;done)
 replace aG:=dm aG;refine cD (aI iv rfl (ag (aA av))) ⟨_,rfl,af⟩ rfl ?_;refine cD (ax (aH qm rfl aQ aa az) dz) ⟨_,rfl,(ae af)⟩ rfl ?_;refine cD (bh (aE aa (aE ay aM)) rfl (CS w.txt _) Em) ⟨_,rfl,(ag af)⟩ rfl ?_;refine cD (jg aa rfl fj) ⟨_,rfl,(ae (ag af))⟩ rfl ?_;refine cD (ey aa ay) ⟨_,rfl,(aj af)⟩ rfl ?_;refine dr (bG (ae (aj af)) aa) rfl<|dr (al aa) rfl<|gh aa (λab a8=>?_) (λab a8=>?_)
 ·(simp_all [size_mk]<;>omega)
 replace a8:=bf a8;refine cD (al (ae (aJ aD))) ⟨_,rfl,ab⟩ rfl ?_;refine cD (cU aa ay) ⟨_,rfl,(ae ab)⟩ rfl ?_;refine cD (al aa) ⟨_,rfl,(ag ab)⟩ rfl ?_;refine gh aa (λam aN=>?_) (λam aN=>?_)
 ·replace aN:=bt aN;refine cD (al (aj (aJ a6))) ⟨_,rfl,am⟩ rfl ?_;refine cD (c8 aa) ⟨_,rfl,(ae am)⟩ rfl ?_;refine cD (bD (ag am) aa) ⟨_,rfl,(ae (aj ab))⟩ rfl ?_;refine dr (bG (ag (aj ab)) aa) rfl<|dC<|bp (aA (aJ aR)) (aA (aJ av)) (aA (aJ aD)) aa ?_;clear af ab am ad aR a6 av aD a7;intro ck b0 b1 bL bN
  refine ao<|bj bN (λa9=>?_) (λa9=>?_)
  ·(simp_all [size_mk]<;>omega)
  replace a9:=dm a9;refine bC<|ao<|au<|at_<|ar (al bL) rfl<|ar (aB aa) rfl<|aY aa ?_;clear b0 bN b1 bL;intro cm b2
  refine ao<|bg<|⟨_,kM ai (bc b2),?_⟩
  exact⟨rfl,bE,bB⟩
 replace aN:=bf aN;refine bW ⟨_,rfl,.inl am⟩ rfl ?_;refine bW ⟨_,rfl,.inl (ae am)⟩ rfl ?_;refine cD (bG (ag am) ay) ⟨_,rfl,(ae (aj ab))⟩ rfl ?_;refine dr (bG (ag (aj ab)) aa) rfl<|dC<|bp (aA (aJ aR)) (aA (aJ av)) (aA (aJ aD)) aa ?_;clear af ab am ad aR a6 av aD a7;intro cn b6 b7 bO bQ
 refine ao<|hU bQ<|bC<|ao<|au<|at_<|ar (al bO) rfl<|ar (aB aa) rfl<|aY aa ?_;clear b6 bQ b7 bO;intro co b8
 refine ao<|bg<|⟨_,kM ai (bc b8),?_⟩
 exact⟨rfl,bE,bB⟩
theorem LF(hb:mem[b]? =some (.box aW (aV nam J B S M cnt (w::ws) last kind)))(hl:ws.length<=1000000)(hs:w.txt.size<=1000000)(below:Bool)(v:Int)(hv:atoiAll w.txt.data.toList= .ok v)(hi:jz w below=false):ee Tryz.prog 69 [.ptr b 0,.v (.bool below)] mem (λ_ _=>False) (λu m'=>u=gu cnt w.col 7/\bM mem m' (λj=>j=b)):=by
 have hbn:=cV hb hn;have hb0:b≠0:=λe=>by rw [e]at hb;rw [hb]at h0;cases h0
 obtain⟨hk,hnn⟩:=zd hv 6;have hvb:=atoiAll_bounds hv;have hc:=Ji (itoa v) w.txt;unfold jz at hi;rw [hk,hnn]at hi;refine gw (fn:=Tryz.f69) 45 ai rfl ai aU ?_;intro bk a2 hA aN;have bm:ak bk (.tmp 0)=_:=hA 0 _ rfl;have bo:ak bk (.tmp 1)=_:=hA 1 _ rfl;have bv:a2.length=n:=by rw [aN];exact hn
 have b1:a2[0]? =_:=(congrArg (λq=>q[0]?) aN).trans h0;have bw:a2[b]? =_:=(congrArg (λq=>q[b]?) aN).trans hb;simp only [pS,Value.cells,Nat.reduceAdd,aV,aW,bn]at bw;have b2:bM mem a2 (λj=>j=b):=by rw [aN];exact bM.refl _ _
 clear hA aN;refine au<|at_<|ar (aB ay) rfl<|bq (ae bm) (ae bo) ?_;clear bm bo;intro ck a5 bx
 refine ao<|au<|at_<|ar (al a5) rfl<|dt (mg (J:=J) (B:=B) (S:=S) (M:=M) (nam:=nam) (cnt:=cnt) (w:=w) (ws:=ws) (last:=last) (kind:=kind) bv bw hl) (aE aa aM) lg trivial rfl (λcm cn b6=>?_) (λ_ _ h=>h.elim)
 obtain⟨rfl,a6,a7⟩:=b6;have bz:=a6.at_ b1 cr;simp only [pS,Value.cells,Nat.reduceAdd,aV,aW,bn]at a7;have bA:=b2.trans a6 qt;obtain⟨co,a8,cu⟩:=a6.len_ bv;refine aL (cy ll rfl a8) trivial rfl (λcv aF=>?_);have a3:=bu aF a8;simp only [pS,Value.cells,Nat.reduceAdd,aV,aW,bn]at a3;have bB:=aK aF bz;have bE:=aK aF a7;have bF:=RestR.aK aF bA;have b7:=br aF a8;clear aF bz a7 bA;refine aL (bP aa (ae aa) rfl rfl a3 lp rfl az) trivial rfl (λcw aG=>?_);have aD:=aZ aG a3;simp only [pS,Value.cells,Nat.reduceAdd,aV,aW,bn]at aD;have b8:=aw aG bB ah;have a9:=aw aG bE ah;have ba:=RestR.aw aG bF ej;have bb:=aX aG b7;clear aG a3 bB bE bF;refine bJ (aC (ae (ag a5))) (aC (ae (ag bx))) (aC aa) ?_;clear a5 bx;intro cx bH bI be;refine ao<|au<|at_<|ar (aI iv rfl be) rfl<|ar (ax (aH qm rfl aD aa az) dz) rfl ?_
 refine ar (bh (aE aa aM) rfl (DZ w.txt ah v hv) zg) rfl ?_;refine ar (al aa) rfl<|ar (cI aa rfl) rfl<|ar (cI (ae aa) rfl) rfl<|ar (aB (ae aa)) rfl<|ar (aB (ae aa)) rfl<|bR (aA bH) (aA bI) (aA be) (ae aa) aa ?_;clear bH bI be;intro cz av aO am an aP
 refine ao<|au<|au<|dZ 24 ai ai ai ai ?_
 refine dr (al aP) rfl<|dr (DY aa zh) rfl<|dr (al aa) rfl<|gh aa (λaf bL=>?_) (λaf bL=>?_)
 ·cases bL
 refine cD (al (ae (ag an))) ⟨_,rfl,af⟩ rfl ?_;refine cD (tg (aE aa aM) rfl b8 (Aj es er v (by unfold In64;omega)) AT) ⟨_,rfl,(ae af)⟩ rfl ?_;refine cD (aI iv rfl (ae (aj am))) ⟨_,rfl,(ag af)⟩ rfl ?_;refine cD (ax (aH qm rfl aD aa az) dz) ⟨_,rfl,(ae (ag af))⟩ rfl ?_;refine cD (eD (ag aa) aa) ⟨_,rfl,(aj af)⟩ rfl ?_;refine dr (bG (ae (aj af)) aa) rfl<|dr (al aa) rfl<|gh aa (λab aQ=>?_) (λab aQ=>?_)
 ·replace aQ:=di aQ;refine bW ⟨_,rfl,.inl ab⟩ rfl ?_;refine bW ⟨_,rfl,.inl (ae ab)⟩ rfl ?_;refine bW ⟨_,rfl,.inl (ag ab)⟩ rfl ?_;refine bW ⟨_,rfl,.inl (ae (ag ab))⟩ rfl ?_;refine bW ⟨_,rfl,.inl (aj ab)⟩ rfl ?_;refine dr (bD (ae (aj ab)) ay) rfl<|dr (al aa) rfl<|bW ⟨_,rfl,.inl aa⟩ rfl ?_
  refine bW ⟨_,rfl,.inl (ae aa)⟩ rfl ?_;refine bW ⟨_,rfl,.inl (ag aa)⟩ rfl ?_;refine bW ⟨_,rfl,.inr aa⟩ rfl ?_;refine bW ⟨_,rfl,.inr (ae aa)⟩ rfl ?_;refine bW ⟨_,rfl,.inl (ae (aj aa))⟩ rfl ?_;refine dr (bD (ag (aj aa)) ay) rfl<|dC<|bp (aA (aJ av)) (aA (aJ am)) (aA (aJ an)) aa ?_;clear ab af av aO am an aP;intro cA b9 ca cB cb
  refine ao<|lG cb<|at_<|ar (al b9) rfl<|ar (aI kB rfl (ae ca)) rfl<|ar (ax (aH wX rfl aD aa az) dz) rfl ?_
  refine dt (iC (J:=J) (B:=B) (S:=S) (M:=M) (nam:=nam) (cnt:=cnt) (ws:=ws) (last:=w) (kind:=kind) bb a9 _ _) (aE (ag aa) (aE aa (aE ay aM))) iD trivial rfl (λ_ _ h=>h.elim) (λcC cE bN=>?_)
  repeat (refine eA ?_)
  exact⟨_,rfl,bN.1,ba.trans bN.2 jo⟩
 replace aQ:=dm aQ;refine cD (aI iv rfl (ag (aA am))) ⟨_,rfl,ab⟩ rfl ?_;refine cD (ax (aH qm rfl aD aa az) dz) ⟨_,rfl,(ae ab)⟩ rfl ?_;refine cD (bh (aE aa (aE ay aM)) rfl (CS w.txt _) Em) ⟨_,rfl,(ag ab)⟩ rfl ?_;refine cD (jg aa rfl fj) ⟨_,rfl,(ae (ag ab))⟩ rfl ?_;refine cD (ey aa ay) ⟨_,rfl,(aj ab)⟩ rfl ?_;refine dr (bG (ae (aj ab)) aa) rfl<|dr (al aa) rfl<|gh aa (λad aR=>?_) (λad aR=>?_)
 ·replace aR:=bt aR;refine bW ⟨_,rfl,.inl ad⟩ rfl ?_;refine bW ⟨_,rfl,.inl (ae ad)⟩ rfl ?_;refine bW ⟨_,rfl,.inl (ag ad)⟩ rfl ?_;refine bW ⟨_,rfl,.inr aa⟩ rfl ?_;refine bW ⟨_,rfl,.inr (ae aa)⟩ rfl ?_;refine bW ⟨_,rfl,.inl (ae (aj ad))⟩ rfl ?_;refine dr (bD (ag (aj ad)) ay) rfl<|dC<|bp (aA (aJ av)) (aA (aJ am)) (aA (aJ an)) aa ?_;clear ab ad af av aO am an aP;intro cG cc cd cH ce
  refine ao<|lG ce<|at_<|ar (al cc) rfl<|ar (aI kB rfl (ae cd)) rfl<|ar (ax (aH wX rfl aD aa az) dz) rfl ?_
  refine dt (iC (J:=J) (B:=B) (S:=S) (M:=M) (nam:=nam) (cnt:=cnt) (ws:=ws) (last:=w) (kind:=kind) bb a9 _ _) (aE (ag aa) (aE aa (aE ay aM))) iD trivial rfl (λ_ _ h=>h.elim) (λcJ cK bO=>?_)
  repeat (refine eA ?_)
  exact⟨_,rfl,bO.1,ba.trans bO.2 jo⟩
 replace aR:=bf aR;refine cD (al (ae (aJ an))) ⟨_,rfl,ad⟩ rfl ?_;refine cD (cU aa ay) ⟨_,rfl,(ae ad)⟩ rfl ?_;refine cD (al aa) ⟨_,rfl,(ag ad)⟩ rfl ?_;refine gh aa (λap aS=>?_) (λap aS=>?_)
 ·replace aS:=bt aS;refine cD (al (aj (aJ aO))) ⟨_,rfl,ap⟩ rfl ?_;refine cD (c8 aa) ⟨_,rfl,(ae ap)⟩ rfl ?_;refine cD (bD (ag ap) aa) ⟨_,rfl,(ae (aj ad))⟩ rfl ?_;refine dr (bG (ag (aj ad)) aa) rfl<|dC<|bp (aA (aJ av)) (aA (aJ am)) (aA (aJ an)) aa ?_;clear ab ad ap af av aO am an aP;intro cL bQ bS bT bV
  refine ao<|bj bV (λaT=>?_) (λaT=>?_)
  ·replace aT:=di aT;refine at_<|ar (al bQ) rfl<|ar (aI kB rfl (ae bS)) rfl<|ar (ax (aH wX rfl aD aa az) dz) rfl ?_
   refine dt (iC (J:=J) (B:=B) (S:=S) (M:=M) (nam:=nam) (cnt:=cnt) (ws:=ws) (last:=w) (kind:=kind) bb a9 _ _) (aE (ag aa) (aE aa (aE ay aM))) iD trivial rfl (λ_ _ h=>h.elim) (λcM cN bY=>?_)
   repeat (refine eA ?_)
   exact⟨_,rfl,bY.1,ba.trans bY.2 jo⟩
  replace aT:=dm aT;refine bC<|ao<|au<|at_<|ar (al bT) rfl<|ar (aB aa) rfl<|aY aa ?_;clear bQ bV bS bT;intro cO cf
  refine ao<|bg<|⟨_,kM ai (bc cf),?_⟩
  exfalso;(simp_all [size_mk]<;>omega)
 replace aS:=bf aS;refine bW ⟨_,rfl,.inl ap⟩ rfl ?_;refine bW ⟨_,rfl,.inl (ae ap)⟩ rfl ?_;refine cD (bG (ag ap) ay) ⟨_,rfl,(ae (aj ad))⟩ rfl ?_;refine dr (bG (ag (aj ad)) aa) rfl<|dC<|bp (aA (aJ av)) (aA (aJ am)) (aA (aJ an)) aa ?_;clear ab ad ap af av aO am an aP;intro cP cg ci bZ b0
 refine ao<|hU b0<|bC<|ao<|au<|at_<|ar (al bZ) rfl<|ar (aB aa) rfl<|aY aa ?_;clear cg b0 ci bZ;intro cQ cj
 refine ao<|bg<|⟨_,kM ai (bc cj),?_⟩
 exfalso;(simp_all [size_mk]<;>omega)
include hes her
theorem LG(hb:mem[b]? =some (.box aW (aV nam J B S M cnt (w::ws) last kind)))(hl:ws.length<=1000000)(hs:w.txt.size<=1000000)(below:Bool)(hv:∀ v,atoiAll w.txt.data.toList≠ .ok v):ee Tryz.prog 69 [.ptr b 0,.v (.bool below)] mem (λ_ _=>False) (λu m'=>u=gu cnt w.col 7/\bM mem m' (λj=>j=b)):=by
 have hbn:=cV hb hn;have hb0:b≠0:=λe=>by rw [e]at hb;rw [hb]at h0;cases h0
 refine gw (fn:=Tryz.f69) 45 ai rfl ai aU ?_;intro aP an hA am;have aQ:ak aP (.tmp 0)=_:=hA 0 _ rfl;have aR:ak aP (.tmp 1)=_:=hA 1 _ rfl;have aS:an.length=n:=by rw [am];exact hn
 have bh:an[0]? =_:=(congrArg (λq=>q[0]?) am).trans h0;have aT:an[b]? =_:=(congrArg (λq=>q[b]?) am).trans hb;simp only [pS,Value.cells,Nat.reduceAdd,aV,aW,bn]at aT;have bj:bM mem an (λj=>j=b):=by rw [am];exact bM.refl _ _
 clear hA am;refine au<|at_<|ar (aB ay) rfl<|bq (ae aQ) (ae aR) ?_;clear aQ aR;intro bF av aY
 refine ao<|au<|at_<|ar (al av) rfl<|dt (mg (J:=J) (B:=B) (S:=S) (M:=M) (nam:=nam) (cnt:=cnt) (w:=w) (ws:=ws) (last:=last) (kind:=kind) aS aT hl) (aE aa aM) lg trivial rfl (λbG bH bk=>?_) (λ_ _ h=>h.elim)
 obtain⟨rfl,aD,aF⟩:=bk;have a2:=aD.at_ bh cr;simp only [pS,Value.cells,Nat.reduceAdd,aV,aW,bn]at aF;have a3:=bj.trans aD qt;obtain⟨bI,aG,bL⟩:=aD.len_ aS;refine aL (cy ll rfl aG) trivial rfl (λbN ad=>?_);have ap:=bu ad aG;simp only [pS,Value.cells,Nat.reduceAdd,aV,aW,bn]at ap;have a5:=aK ad a2;have a6:=aK ad aF;have a7:=RestR.aK ad a3;have bm:=br ad aG;clear ad a2 aF a3;refine aL (bP aa (ae aa) rfl rfl ap lp rfl az) trivial rfl (λbO af=>?_);have aN:=aZ af ap;simp only [pS,Value.cells,Nat.reduceAdd,aV,aW,bn]at aN;have bo:=aw af a5 ah;have bv:=aw af a6 ah;have bw:=RestR.aw af a7 ej;have bx:=aX af bm;clear af ap a5 a6 a7;refine bJ (aC (ae (ag av))) (aC (ae (ag aY))) (aC aa) ?_;clear av aY;intro bQ a8 a9 aO;refine ao<|au<|at_<|ar (aI iv rfl aO) rfl<|ar (ax (aH qm rfl aN aa az) dz) rfl ?_
 refine Vh (Nj (aE aa aM) rfl bo (P8 es er hes her w.txt ah hv) zg) trivial rfl (λbS bz=>?_);obtain⟨bT,rfl⟩:=bz;refine ar (al aa) rfl<|ar (cI aa rfl) rfl<|ar (cI (ae aa) rfl) rfl<|ar (aB (ae aa)) rfl<|ar (aB (ae aa)) rfl<|bR (aA a8) (aA a9) (aA aO) (ae aa) aa ?_;clear a8 a9 aO;intro bV ba bA bb bc be
 refine ao<|au<|au<|dZ 24 ai ai ai ai ?_
 refine dr (al be) rfl<|dr (Nq aa zh) rfl<|dr (al aa) rfl<|gh aa (λab bf=>?_) (λab bf=>?_)
 ·skip;refine bW ⟨_,rfl,.inl ab⟩ rfl ?_;refine bW ⟨_,rfl,.inl (ae ab)⟩ rfl ?_;refine bW ⟨_,rfl,.inl (ag ab)⟩ rfl ?_;refine bW ⟨_,rfl,.inl (ae (ag ab))⟩ rfl ?_;refine bW ⟨_,rfl,.inl (aj ab)⟩ rfl ?_;refine dr (bD (ae (aj ab)) ay) rfl<|dr (al aa) rfl<|bW ⟨_,rfl,.inl aa⟩ rfl ?_
  refine bW ⟨_,rfl,.inl (ae aa)⟩ rfl ?_;refine bW ⟨_,rfl,.inl (ag aa)⟩ rfl ?_;refine bW ⟨_,rfl,.inl (ae (ag aa))⟩ rfl ?_;refine bW ⟨_,rfl,.inl (aj aa)⟩ rfl ?_;refine dr (bD (ae (aj aa)) ay) rfl<|dr (al aa) rfl<|bW ⟨_,rfl,.inl aa⟩ rfl ?_
  refine bW ⟨_,rfl,.inl (ae aa)⟩ rfl ?_;refine bW ⟨_,rfl,.inl (ag aa)⟩ rfl ?_;refine bW ⟨_,rfl,.inr aa⟩ rfl ?_;refine bW ⟨_,rfl,.inr (ae aa)⟩ rfl ?_;refine bW ⟨_,rfl,.inl (ae (aj aa))⟩ rfl ?_;refine dr (bD (ag (aj aa)) ay) rfl<|dC<|bp (aA (aJ ba)) (aA (aJ bb)) (aA (aJ bc)) aa ?_;clear ab ba bA bb bc be;intro bY bB bC bZ bE
  refine ao<|lG bE<|at_<|ar (al bB) rfl<|ar (aI kB rfl (ae bC)) rfl<|ar (ax (aH wX rfl aN aa az) dz) rfl ?_
  refine dt (iC (J:=J) (B:=B) (S:=S) (M:=M) (nam:=nam) (cnt:=cnt) (ws:=ws) (last:=w) (kind:=kind) bx bv _ _) (aE (ag aa) (aE aa (aE ay aM))) iD trivial rfl (λ_ _ h=>h.elim) (λb0 b1 bg=>?_)
  repeat (refine eA ?_)
  exact⟨_,rfl,bg.1,bw.trans bg.2 jo⟩
 ·cases bf
end
section
variable {mem:List Ob} {n:Nat} (hn:mem.length=n) {b:Nat} {nam:ByteArray} {J B S M:AV} {cnt:Int} {w:Wd} {ws:List Wd} {last:Wd} {kind:ByteArray} {es er:Value} (hes:e8 es) (her:e8 er) (h0:mem[0]? =some (.bT (gX es er)))
theorem UN{l:List UInt8}{D:Nat}(h:iO l D=true):∃ v,atoiAll l= .ok v/\iN l=v:=by
 by_cases hv:∃ v,atoiAll l= .ok v
 ·obtain⟨v,hv⟩:=hv;exact⟨v,hv,(zd hv D).2⟩
 ·rw [Q8 (λv hq=>hv ⟨v,hq⟩)]at h;cases h
include hn h0
theorem Rl(hb:mem[b]? =some (.box aW (aV nam J B S M cnt (w::ws) last kind)))(hl:ws.length<=1000000)(hs:w.txt.size<=1000000)(below:Bool)(hi:jz w below=true):ee Tryz.prog 69 [.ptr b 0,.v (.bool below)] mem (λr m'=>r=mA (iN w.txt.data.toList)/\bM mem m' (λj=>j=b)/\m'[b]? =some (.box aW (aV nam J B S M cnt ws w kind))) (λ_ _=>False):=by
 have hk:iO w.txt.data.toList 6=true:=by unfold jz at hi;rw [Xg]at hi;exact hi.1
 obtain⟨v,hv,hnv⟩:=UN hk;rw [hnv];exact LD hn h0 hb hl hs below v hv hi
include hes her
theorem OD(hb:mem[b]? =some (.box aW (aV nam J B S M cnt (w::ws) last kind)))(hl:ws.length<=1000000)(hs:w.txt.size<=1000000)(below:Bool)(hi:jz w below=false):ee Tryz.prog 69 [.ptr b 0,.v (.bool below)] mem (λ_ _=>False) (λu m'=>u=gu cnt w.col 7/\bM mem m' (λj=>j=b)):=by
 by_cases hv:∃ v,atoiAll w.txt.data.toList= .ok v
 ·obtain⟨v,hv⟩:=hv;exact LF hn h0 hb hl hs below v hv hi
 ·exact LG hn hes her h0 hb hl hs below λv hq=>hv ⟨v,hq⟩
end
section
variable {mem:List Ob} {n:Nat} (hn:mem.length=n) {b:Nat} {nam:ByteArray} {J B S M:AV} {cnt:Int} {last:Wd} {kind:ByteArray}
include hn
theorem MZ(hb:mem[b]? =some (.box aW (aV nam J B S M cnt [] last kind)))(hc: -1000000000<=last.col/\last.col<=1000000000)(hs:last.txt.size<=1000000000)(below:Bool):ee Tryz.prog 69 [.ptr b 0,.v (.bool below)] mem (λ_ _=>False) (λv m'=>v=gu cnt (last.col+last.txt.size) 6/\bM mem m' (λj=>j=b)):=by
 have hbn:=cV hb hn;refine gw (fn:=Tryz.f69) 45 ai rfl ai aU ?_;intro af ad hA ab;have ag:ak af (.tmp 0)=_:=hA 0 _ rfl;have ah:ak af (.tmp 1)=_:=hA 1 _ rfl;have an:ad.length=n:=by rw [ab];exact hn
 have aj:ad[b]? =_:=(congrArg (λq=>q[b]?) ab).trans hb;simp only [pS,Value.cells,Nat.reduceAdd,aV,aW,bn]at aj;have ap:bM mem ad (λj=>j=b):=by rw [ab];exact bM.refl _ _
 clear hA ab;refine au<|at_<|ar (aB ay) rfl<|bq (ae ag) (ae ah) ?_;clear ag ah;intro aw av ax
 refine ao<|au<|at_<|ar (al av) rfl<|dt (Gu (J:=J) (B:=B) (S:=S) (M:=M) (nam:=nam) (cnt:=cnt) (last:=last) (kind:=kind) an aj hc hs) (aE aa aM) lg trivial rfl (λ_ _ h=>h.elim) (λaz aA am=>?_)
 repeat (refine eA ?_)
 exact⟨_,rfl,am.1,ap.trans am.2 jo⟩
end
end Go.Proofs.YtbmlgmblfboigaaGreatDoor
namespace Go.Proofs.YtbmlgmblfboigaaGreatDoor
open Go Go.RowKit Go.Proofs Go.Lib
structure RS where
 nam:ByteArray
 js:List ep
 bs:List fY
 ss:List eU
 cnt:Int
 ws:List Wd
 last:Wd
 kind:ByteArray
 ks:List ByteArray
 cs:List (List Int)
abbrev HL:=List (ByteArray×Nat)
def hK(hs:HL)(q:Nat):ByteArray:=(hs.getD q default).1
def hN(hs:HL)(q:Nat):Nat:=(hs.getD q default).2
def fi(hs:HL):List (ByteArray×AV):=hs.map λx=>(x.1,.own x.2)
def cR(cs:List (List Int))(q:Nat):List Int:=cs.getD q default
theorem lP{hs:HL}{q:Nat}(h:q<hs.length):(fi hs)[q]? =some (hK hs q,.own (hN hs q)):=by
 simp [fi,hK,hN,Xd h,Xc]
structure bI (mem:List Ob) (hs:HL) (cs:List (List Int)) (i:Nat):Prop where
 len:cs.length=hs.length
 at_:∀ q,q<hs.length->q≠i->mem[hN hs q]? =some (.row 3 1 ((cR cs q).map iE))
 inj:∀ a b,a<hs.length->b<hs.length->hN hs a=hN hs b->a=b
 key:∀ a b,a<hs.length->b<hs.length->hK hs a=hK hs b->a=b
theorem bI.ov{mem:List Ob}{hs:HL}{cs:List (List Int)}{i:Nat}(h:bI mem hs cs i):yg (fi hs):=λa b k x y ha hb=>by
 have h1:a<hs.length:=by have:=(Xe.1 ha).1;simpa [fi]using this
 have h2:b<hs.length:=by have:=(Xe.1 hb).1;simpa [fi]using this
 rw [lP h1]at ha;rw [lP h2]at hb;cases ha;have:hK hs b=hK hs a:=by have:=congrArg (Option.map Prod.fst) hb;simpa using this
 exact h.key a b h1 h2 this.symm
theorem bI.zero(mem:List Ob):bI mem [] [] 0:=⟨rfl,λq h=>absurd h aN,λa b h=>absurd h aN,λa b h=>absurd h aN⟩
def qA:Ob->Bool
 | .row e _ _=>e != 3
 | _=>true
section
variable {mem m:List Ob} {hs:HL} {cs:List (List Int)} {i:Nat}
theorem bI.of_same(h:bI mem hs cs i)(hm:∀ q,q<hs.length->q≠i->m[hN hs q]? =mem[hN hs q]?):bI m hs cs i:=
 ⟨h.len,λq h1 h2=>(hm q h1 h2).trans (h.at_ q h1 h2),h.inj,h.key⟩
theorem bI.miss(h:bI mem hs cs i){j:Nat}{o:Ob}(hj:mem[j]? =some o)(ho:qA o=true):∀ q,q<hs.length->q≠i->hN hs q≠j:=λq h1 h2 he=>by
 have:=h.at_ q h1 h2;rw [he,hj]at this;cases this;simp [qA]at ho
theorem bI.aK{o:Ob}(hm:m=mem++ [o])(h:bI mem hs cs i):bI m hs cs i:=
 ⟨h.len,λq h1 h2=>Proofs.YtbmlgmblfboigaaGreatDoor.aK hm (h.at_ q h1 h2),h.inj,h.key⟩
theorem bI.bz{k:Nat}(hm:m=mem++List.replicate k .gone)(h:bI mem hs cs i):bI m hs cs i:=
 ⟨h.len,λq h1 h2=>Proofs.YtbmlgmblfboigaaGreatDoor.bz hm (h.at_ q h1 h2),h.inj,h.key⟩
theorem bI.nL(h:bI mem hs cs i){j:Nat}{o':Ob}(hm:m=mem.set j o')(hne:∀ q,q<hs.length->q≠i->hN hs q≠j):bI m hs cs i:=
 h.of_same λq h1 h2=>by subst hm;rw [Xm λe=>hne q h1 h2 e.symm]
theorem bI.aw{j:Nat}{o o':Ob}(hm:m=mem.set j o')(h:bI mem hs cs i)(hj:mem[j]? =some o)(ho:qA o=true):bI m hs cs i:=h.nL hm (h.miss hj ho)
theorem bI.fG{j:Nat}{o o':Ob}(hm:m=mem.set j .gone ++ [o'])(h:bI mem hs cs i)(hj:mem[j]? =some o)(ho:qA o=true):bI m hs cs i:=aK hm (aw rfl h hj ho)
theorem bI.xB{j:Nat}{o o':Ob}(hi:i<hs.length)(hm:m=(mem.set (hN hs i) .gone).set j o')(h:bI mem hs cs i)(hj:mem[j]? =some o)(ho:qA o=true):bI m hs cs i:=
 (h.nL rfl λq h1 h2 he=>h2 (h.inj q i h1 hi he)).nL hm (h.miss hj ho)
theorem bI.all{K:Nat->Prop}(h:bI mem hs cs i)(hK:bM mem m K)(hn:∀ q,q<hs.length->q≠i-> ¬ K (hN hs q)):bI m hs cs i:=
 h.of_same λq h1 h2=>hK.same _ (Xe.1 (h.at_ q h1 h2)).1 (hn q h1 h2)
theorem bI.take(h:bI mem hs cs hs.length){q:Nat}(hq:q<hs.length):mem[hN hs q]? =some (.row 3 1 ((cR cs q).map iE))/\bI mem hs cs q:=
 ⟨h.at_ q hq ah,h.len,λa h1 _=>h.at_ a h1 ah,h.inj,h.key⟩
theorem qB{hs:HL}{i:Nat}{x:ByteArray×Nat}{q:Nat}(hi:i<hs.length):hN (hs.set i x) q=if q=i then x.2 else hN hs q:=by
 unfold hN
 by_cases h:i=q
 ·subst h;rw [if_pos rfl,Xc,Xt hi];rfl
 ·rw [if_neg (λe=>h e.symm),Xc,Xm h, <- Xc]
theorem Jk{hs:HL}{i:Nat}{k:ByteArray}{n:Nat}{q:Nat}(hi:i<hs.length)(hk:hK hs i=k):hK (hs.set i (k,n)) q=hK hs q:=by
 unfold hK at hk ⊢
 by_cases h:i=q
 ·subst h;rw [Xc,Xt hi];exact hk.symm
 ·rw [Xc,Xm h, <- Xc]
theorem bI.put(h:bI m hs cs i)(hi:i<hs.length){n:Nat}{xs:List Int}{k:ByteArray}(hk:hK hs i=k)(hn:m[n]? =some (.row 3 1 (xs.map iE)))(hnew:∀ q,q<hs.length->hN hs q≠n):bI m (hs.set i (k,n)) (cs.set i xs) (hs.set i (k,n)).length :=by
 refine⟨by simp [h.len],λq hq _=>?_,λa b ha hb hab=>?_,λa b ha hb hab=>?_⟩
 ·rw [XU]at hq;rw [qB hi]
  by_cases hqi:q=i
  ·subst hqi;rw [if_pos rfl];unfold cR;rw [Xc,Xt (by rw [h.len];exact hi)];exact hn
  ·rw [if_neg hqi];unfold cR;rw [Xc,Xm (λe=>hqi e.symm), <- Xc];exact h.at_ q hq hqi
 ·rw [XU]at ha hb;rw [qB hi,qB hi]at hab
  by_cases h1:a=i<;>by_cases h2:b=i
  ·omega
  ·rw [if_pos h1,if_neg h2]at hab;exact absurd hab.symm (hnew b hb)
  ·rw [if_neg h1,if_pos h2]at hab;exact absurd hab (hnew a ha)
  ·rw [if_neg h1,if_neg h2]at hab;exact h.inj a b ha hb hab
 ·rw [XU]at ha hb;rw [Jk hi hk,Jk hi hk]at hab;exact h.key a b ha hb hab
theorem qC{hs:HL}{x:ByteArray×Nat}{q:Nat}:hN (hs++ [x]) q=if q<hs.length then hN hs q else if q=hs.length then x.2 else 0:=by
 unfold hN
 by_cases h:q<hs.length
 ·rw [if_pos h,Xc,Xj h, <- Xc]
 ·rw [if_neg h,Xc,Xk ah]
  by_cases h2:q=hs.length
  ·subst h2;rw [if_pos rfl];simp
  ·rw [if_neg h2,Xq cJ];rfl
theorem Jl{hs:HL}{x:ByteArray×Nat}{q:Nat}(hq:q<hs.length+1):hK (hs++ [x]) q=if q<hs.length then hK hs q else x.1:=by
 unfold hK
 by_cases h:q<hs.length
 ·rw [if_pos h,Xc,Xj h, <- Xc]
 ·rw [if_neg h,Xc,Xk ah,show q - hs.length=0 by omega];rfl
theorem bI.more(h:bI m hs cs hs.length){n:Nat}{xs:List Int}{k:ByteArray}(hk:∀ q,q<hs.length->hK hs q≠k)(hn:m[n]? =some (.row 3 1 (xs.map iE)))(hnew:∀ q,q<hs.length->hN hs q≠n):bI m (hs++ [(k,n)]) (cs++ [xs]) (hs++ [(k,n)]).length :=by
 have hl:(hs++ [(k,n)]).length =hs.length+1:=by simp
 refine⟨by simp [h.len],λq hq _=>?_,λa b ha hb hab=>?_,λa b ha hb hab=>?_⟩
 ·rw [hl]at hq;rw [qC]
  by_cases c:q<hs.length
  ·rw [if_pos c];unfold cR;rw [Xc,Xj (by rw [h.len];exact c), <- Xc];exact h.at_ q c ah
  ·rw [if_neg c,if_pos ah];unfold cR;rw [Xc,Xk (by rw [h.len];omega),show q - cs.length=0 by rw [h.len];omega];exact hn
 ·rw [hl]at ha hb;rw [qC,qC]at hab
  by_cases h1:a<hs.length<;>by_cases h2:b<hs.length
  ·rw [if_pos h1,if_pos h2]at hab;exact h.inj a b h1 h2 hab
  ·rw [if_pos h1,if_neg h2,if_pos ah]at hab;exact absurd hab (hnew a h1)
  ·rw [if_neg h1,if_pos ah,if_pos h2]at hab;exact absurd hab.symm (hnew b h2)
  ·omega
 ·rw [hl]at ha hb;rw [Jl ha,Jl hb]at hab
  by_cases h1:a<hs.length<;>by_cases h2:b<hs.length
  ·rw [if_pos h1,if_pos h2]at hab;exact h.key a b h1 h2 hab
  ·rw [if_pos h1,if_neg h2]at hab;exact absurd hab (hk a h1)
  ·rw [if_neg h1,if_pos h2]at hab;exact absurd hab.symm (hk b h2)
  ·omega
theorem bI.lt(h:bI m hs cs i){n:Nat}(hl:m.length=n):∀ q,q<hs.length->q≠i->hN hs q<n:=λq h1 h2=>cV (h.at_ q h1 h2) hl
end
structure RH where
 jM:Nat
 jJ:Nat
 jB:Nat
 jS:Nat
 hs:HL
structure e9 (st:RS) (H:RH) (lo:Nat) (mem:List Ob) (b:Nat):Prop where
 box:mem[b]? =some (.box aW (aV st.nam (.own H.jJ) (.own H.jB) (.own H.jS) (.own H.jM) st.cnt st.ws st.last st.kind))
 J:mem[H.jJ]? =some (.row 59 4 (st.js.map bX))
 B:mem[H.jB]? =some (.row 95 2 (st.bs.map cF))
 S:mem[H.jS]? =some (.row 97 3 (st.ss.map ct))
 M:mem[H.jM]? =some (.mp (fi H.hs))
 fam:bI mem H.hs st.cs H.hs.length
 keys:H.hs.map (·.1)=st.ks
 lo:lo<=b/\lo<=H.jM/\lo<=H.jJ/\lo<=H.jB/\lo<=H.jS/\ ∀ q,q<H.hs.length->lo<=hN H.hs q
def KR(H:RH)(b:Nat)(j:Nat):Prop:=j=b\/j=H.jM\/j=H.jJ\/j=H.jB\/j=H.jS\/ ∃ q,q<H.hs.length/\j=hN H.hs q
theorem KR.lo{st:RS}{H:RH}{lo:Nat}{mem:List Ob}{b j:Nat}(h:e9 st H lo mem b)(hk:KR H b j):lo<=j:=by
 obtain⟨h1,h2,h3,h4,h5,h6⟩:=h.lo;rcases hk with rfl|rfl|rfl|rfl|rfl|⟨q,hq,rfl⟩
 ·exact h1
 ·exact h2
 ·exact h3
 ·exact h4
 ·exact h5
 ·exact h6 q hq
theorem e9.ne{st:RS}{H:RH}{lo:Nat}{mem:List Ob}{b:Nat}(h:e9 st H lo mem b):(b≠H.jM/\b≠H.jJ/\b≠H.jB/\b≠H.jS)/\(H.jM≠H.jJ/\H.jM≠H.jB/\H.jM≠H.jS)/\H.jJ≠H.jB/\H.jJ≠H.jS/\H.jB≠H.jS:=by
 have h1:=h.box;have h2:=h.J;have h3:=h.B;have h4:=h.S;have h5:=h.M;refine⟨⟨λe=>?_,λe=>?_,λe=>?_,λe=>?_⟩,⟨λe=>?_,λe=>?_,λe=>?_⟩,λe=>?_,λe=>?_,λe=>?_⟩
 ·rw [e,h5]at h1;cases h1
 ·rw [e,h2]at h1;cases h1
 ·rw [e,h3]at h1;cases h1
 ·rw [e,h4]at h1;cases h1
 ·rw [e,h2]at h5;cases h5
 ·rw [e,h3]at h5;cases h5
 ·rw [e,h4]at h5;cases h5
 ·rw [e,h3]at h2;cases h2
 ·rw [e,h4]at h2;cases h2
 ·rw [e,h4]at h3;cases h3
theorem e9.uN{st:RS}{H:RH}{lo:Nat}{mem:List Ob}{b:Nat}(h:e9 st H lo mem b):∀ q,q<H.hs.length->hN H.hs q≠b/\hN H.hs q≠H.jM/\hN H.hs q≠H.jJ/\hN H.hs q≠H.jB/\hN H.hs q≠H.jS:=λq hq=>by
 have hq2:q≠H.hs.length:=by omega
 exact⟨h.fam.miss h.box rfl q hq hq2,h.fam.miss h.M rfl q hq hq2,h.fam.miss h.J rfl q hq hq2,h.fam.miss h.B rfl q hq hq2,h.fam.miss h.S rfl q hq hq2⟩
theorem e9.nz{st:RS}{H:RH}{lo:Nat}{mem:List Ob}{b:Nat}(h:e9 st H lo mem b){g:List (Nat×List AV)}(h0:mem[0]? =some (.bT g)):b≠0/\H.jM≠0/\H.jJ≠0/\H.jB≠0/\H.jS≠0/\ ∀ q,q<H.hs.length->hN H.hs q≠0:=by
 have h1:=h.box;have h2:=h.J;have h3:=h.B;have h4:=h.S;have h5:=h.M;refine⟨λe=>?_,λe=>?_,λe=>?_,λe=>?_,λe=>?_,λq hq=>h.fam.miss h0 rfl q hq ah⟩
 ·rw [e,h0]at h1;cases h1
 ·rw [e,h0]at h5;cases h5
 ·rw [e,h0]at h2;cases h2
 ·rw [e,h0]at h3;cases h3
 ·rw [e,h0]at h4;cases h4
def fg(k:ByteArray)(c:Int):List ByteArray->List (List Int)->List ByteArray×List (List Int)
 | [],_=>([k],[[c]])
 | a::ks,cs=>if cg a k then(a::ks,(cs.headD []++ [c])::cs.tail)else(a::(fg k c ks cs.tail).1,cs.headD []::(fg k c ks cs.tail).2)
end Go.Proofs.YtbmlgmblfboigaaGreatDoor
namespace Go.Proofs.YtbmlgmblfboigaaGreatDoor
open Go Go.RowKit Go.Proofs Go.Lib
def eG(w:Wd):Int:=iN w.txt.data.toList
def cN(ws:List Wd):Wd:=ws.headD ⟨⟨#[]⟩,0⟩
def fh(below:Bool):List Wd->Int
 | []=>6
 | w::_=>if jz w below then 0 else 7
def ko:List Wd->Int
 | []=>6
 | w::_=>if dF w.txt then 0 else 4
def mC(last:Wd):List Wd->Int
 | []=>last.col+last.txt.size
 | w::_=>w.col
def CE(w:Wd):Prop:= -1000000000<=w.col/\w.col<=1000000000/\w.txt.size<=1000000
structure jH (last:Wd) (ws:List Wd):Prop where
 last:CE last
 len:ws.length<=1000000
 all:∀ w∈ws,CE w
theorem jH.tail{last:Wd}{ws:List Wd}(h:jH last ws)(hn:ws≠ []):jH (cN ws) ws.tail:=by
 match ws,hn with
 | w::ws,_=>exact⟨h.all w aN,by have:=h.len;simp at this ⊢;omega,λx hx=>h.all x (by simp at hx ⊢;exact .inr hx)⟩
theorem lJ{below:Bool}{ws:List Wd}(h:fh below ws=0):ws≠ []:=by rintro rfl;cases h
theorem AE{ws:List Wd}(h:ko ws=0):ws≠ []:=by rintro rfl;cases h
section
variable {mem:List Ob} {n:Nat} (hn:mem.length=n) {b:Nat} {nam:ByteArray} {J B S M:AV} {cnt:Int} {ws:List Wd} {last:Wd} {kind:ByteArray}
include hn
theorem En(hb:mem[b]? =some (.box aW (aV nam J B S M cnt ws last kind)))(hB:jH last ws):ee Tryz.prog 68 [.ptr b 0] mem (λr m'=>ko ws=0/\r= .v (.string (cN ws).txt)/\bM mem m' (λj=>j=b)/\m'[b]? =some (.box aW (aV nam J B S M cnt ws.tail (cN ws) kind))) (λv m'=>ko ws≠0/\v=gu cnt (mC last ws) (ko ws)/\bM mem m' (λj=>j=b)):=by
 match ws with
 | []=>exact(OC hn hb ⟨hB.last.1,hB.last.2.1⟩ (by have:=hB.last.2.2;omega)).mono (λ_ _ h=>h.elim) (λv m h=>⟨by simp [ko],h.1,h.2⟩)
 | w::ws=>
  have hw:=hB.all w aN;have hl:ws.length<=1000000:=by have:=hB.len;simp at this;omega
  cases hi:dF w.txt with
  | true=>exact(UM hn hb hl hw.2.2 hi).mono (λr m h=>⟨by simp [ko,hi],h⟩) (λ_ _ h=>h.elim)
  | false=>exact(Rk hn hb hl hw.2.2 hi).mono (λ_ _ h=>h.elim) (λv m h=>⟨by simp [ko,hi],by rw [h.1];simp [ko,hi,mC],h.2⟩)
variable {es er:Value} (hes:e8 es) (her:e8 er) (h0:mem[0]? =some (.bT (gX es er)))
include hes her h0
theorem nu(hb:mem[b]? =some (.box aW (aV nam J B S M cnt ws last kind)))(hB:jH last ws)(below:Bool):ee Tryz.prog 69 [.ptr b 0,.v (.bool below)] mem (λr m'=>fh below ws=0/\r=mA (eG (cN ws))/\bM mem m' (λj=>j=b)/\m'[b]? =some (.box aW (aV nam J B S M cnt ws.tail (cN ws) kind))) (λv m'=>fh below ws≠0/\v=gu cnt (mC last ws) (fh below ws)/\bM mem m' (λj=>j=b)):=by
 match ws with
 | []=>exact(MZ hn hb ⟨hB.last.1,hB.last.2.1⟩ (by have:=hB.last.2.2;omega) below).mono (λ_ _ h=>h.elim) (λv m h=>⟨by simp [fh],h.1,h.2⟩)
 | w::ws=>
  have hw:=hB.all w aN;have hl:ws.length<=1000000:=by have:=hB.len;simp at this;omega
  cases hi:jz w below with
  | true=>exact(Rl hn h0 hb hl hw.2.2 below hi).mono (λr m h=>⟨by simp [fh,hi],h⟩) (λ_ _ h=>h.elim)
  | false=>exact(OD hn hes her h0 hb hl hw.2.2 below hi).mono (λ_ _ h=>h.elim) (λv m h=>⟨by simp [fh,hi],by rw [h.1];simp [fh,hi,mC],h.2⟩)
end
def fu:List Nat->Wd->List Wd->Int×Int
 | [],_,_=>(0,0)
 | f::fs,last,ws=>if(if f=0 then ko ws else fh (f==1) ws)=0 then fu fs (cN ws) ws.tail else(mC last ws,if f=0 then ko ws else fh (f==1) ws)
def lZ(sw:Bool):List Wd->Int×Int
 | []=>(0,0)
 | w::ws=>if sw&&jz w true then lZ sw ws else(w.col,7)
def ic(k:ByteArray):List Nat:=if cg k cz then [0]else if cg k bZ then [1,1,1,1]else if cg k ck then [2,1]else [0,2,1]
def jd(k:ByteArray)(w0:Wd)(ws:List Wd):Int×Int:=if(fu (ic k) w0 ws).2=0 then lZ (cg k cf) (ws.drop (ic k).length)else fu (ic k) w0 ws
def fE(p k:ByteArray):Int:=if cg p ⟨#[]⟩then(if cg k cz then 0 else 7)else if cg k bZ||cg k ck||cg k cf then(if iY p k then 0 else 9)else 7
theorem qe{fs:List Nat}{last:Wd}{ws:List Wd}(h:ko ws=0):fu (0::fs) last ws=fu fs (cN ws) ws.tail:=by simp [fu,h]
theorem Eo{fs:List Nat}{last:Wd}{ws:List Wd}(h:ko ws≠0):fu (0::fs) last ws=(mC last ws,ko ws):=by simp [fu,h]
theorem Is{fs:List Nat}{f:Nat}{below:Bool}{last:Wd}{ws:List Wd}(hf:f≠0)(hb:(f==1)=below)(h:fh below ws=0):fu (f::fs) last ws=fu fs (cN ws) ws.tail:=by simp only [fu,if_neg hf,hb,h,if_true]
theorem GH{fs:List Nat}{f:Nat}{below:Bool}{last:Wd}{ws:List Wd}(hf:f≠0)(hb:(f==1)=below)(h:fh below ws≠0):fu (f::fs) last ws=(mC last ws,fh below ws):=by simp only [fu,if_neg hf,hb,if_neg h]
theorem k9{fs:List Nat}{last:Wd}{ws:List Wd}(h:fh true ws=0):fu (1::fs) last ws=fu fs (cN ws) ws.tail:=Is aD rfl h
theorem qn{fs:List Nat}{last:Wd}{ws:List Wd}(h:fh false ws=0):fu (2::fs) last ws=fu fs (cN ws) ws.tail:=Is aD rfl h
theorem zM{fs:List Nat}{last:Wd}{ws:List Wd}(h:fh true ws≠0):fu (1::fs) last ws=(mC last ws,fh true ws):=GH aD rfl h
theorem GI{fs:List Nat}{last:Wd}{ws:List Wd}(h:fh false ws≠0):fu (2::fs) last ws=(mC last ws,fh false ws):=GH aD rfl h
theorem mP{k:ByteArray}{w0:Wd}{ws:List Wd}{c e:Int}(h:fu (ic k) w0 ws=(c,e))(he:e≠0):jd k w0 ws=(c,e):=by
 unfold jd;rw [h,if_neg oS]
theorem xC{k:ByteArray}{w0:Wd}{ws:List Wd}(h:(fu (ic k) w0 ws).2=0):jd k w0 ws=lZ (cg k cf) (ws.drop (ic k).length):=by
 unfold jd;rw [if_pos h]
theorem rP{k:ByteArray}{w0:Wd}{ws:List Wd}{r:List Wd}(h:fu (ic k) w0 ws=(0,0))(hr:ws.drop (ic k).length =r)(h2:r.length=0):jd k w0 ws=(0,0):=by
 rw [xC (by rw [h]),hr,Yy.1 h2];rfl
theorem zN{k:ByteArray}{w0:Wd}{ws:List Wd}{r:List Wd}(h:fu (ic k) w0 ws=(0,0))(hs:cg k cf=false)(hr:ws.drop (ic k).length =r)(h2:0<r.length):jd k w0 ws=((r.getD 0 default).col,7):=by
 rw [xC (by rw [h]),hr,hs]
 match r,h2 with
 | w::r,_=>rfl
theorem ig(a b:ByteArray):cg a b=(a.data.toList==b.data.toList):=by unfold cg;rw [toList_data,toList_data]
theorem sN(l:List Wd):l.drop 2=l.tail.tail:=by rw [<- YL, <- YL,Yd]
theorem CG(l:List Wd):l.drop 4=l.tail.tail.tail.tail:=by rw [<- sN, <- sN,Yd]
theorem Ku(l:List Wd):l.drop 3=l.tail.tail.tail:=by rw [<- sN, <- YL,Yd]
theorem pU:ic cz= [0]:=by simp only [ic,ig];decide
theorem pR:ic bZ= [1,1,1,1]:=by simp only [ic,ig];decide
theorem oC:ic ck= [2,1]:=by simp only [ic,ig];decide
theorem pM:ic cf= [0,2,1]:=by simp only [ic,ig];decide
theorem UO:cg cz cf=false:=by rw [ig];decide
theorem Rm:cg bZ cf=false:=by rw [ig];decide
theorem UP:cg ck cf=false:=by rw [ig];decide
theorem Jm{zs:List Wd}(h:fh true zs=0):lZ true zs=lZ true zs.tail:=by
 match zs with
 | []=>cases h
 | w::zs=>
  have hw:jz w true=true:=by
   cases hq:jz w true with
   | true=>rfl
   | false=>simp [fh,hq]at h
  simp only [lZ,hw,Bool.and_self,if_true,YU]
theorem UQ{lz:Wd}{zs:List Wd}(hz:0<zs.length)(h:fh true zs≠0):lZ true zs=(mC lz zs,fh true zs):=by
 match zs,hz with
 | w::zs,_=>
  have hw:jz w true=false:=by
   cases hq:jz w true with
   | false=>rfl
   | true=>simp [fh,hq]at h
  simp [lZ,hw,mC,fh]
theorem BA{ws:List Wd}(h:ws≠ []):ws.map eG=eG (cN ws)::ws.tail.map eG:=by
 match ws,h with
 | w::ws,_=>rfl
theorem GK:cg cf cf=true:=by rw [ig];decide
end Go.Proofs.YtbmlgmblfboigaaGreatDoor
namespace Go.Proofs.YtbmlgmblfboigaaGreatDoor
open Go Go.RowKit Go.Proofs Go.Lib
theorem GL:bO Tryz.prog 73 75 2 24 (.agg #[.string ByteArray.empty,.int .i64 0]):=⟨ai,ai,ai⟩
theorem vU:bO Tryz.prog 85 3 1 8 (.int .i64 0):=⟨ai,ai,ai⟩
theorem AG:aQ Tryz.prog 3 false 1:=⟨ai,ai⟩
theorem vV:aQ Tryz.prog 72 false 1:=⟨ai,ai⟩
theorem GM:aQ Tryz.prog 73 false 1:=⟨ai,ai⟩
theorem wY:aQ Tryz.prog 9 false 1:=⟨ai,ai⟩
theorem jT{a b:ByteArray}:cg a b=true↔a=b:=by
 unfold cg;rw [toList_data,toList_data,beq_iff_eq]
 constructor
 ·intro h;obtain⟨⟨x⟩⟩:=a;obtain⟨⟨y⟩⟩:=b;simp at h;rw [h]
 ·intro h;rw [h]
theorem tr{k:ByteArray}{c:Int}:∀ (hs:HL) (cs:List (List Int)) (q:Nat),cs.length=hs.length->q<hs.length->hK hs q=k->(∀ p,p<q->hK hs p≠k)->fg k c (hs.map (·.1)) cs=(hs.map (·.1),cs.set q (cR cs q++ [c]))
 | [],cs,q,_,hq,_,_=>absurd hq aN
 | x::hs,[],q,hl,_,_,_=>by simp at hl
 | x::hs,d::cs,0,hl,hq,hk,hp=>by
  have hx:cg x.1 k=true:=jT.2 hk;simp only [XI,fg,hx,if_true];rfl
 | x::hs,d::cs,q+1,hl,hq,hk,hp=>by
  have hx:¬ cg x.1 k=true:=λh=>hp 0 ah (jT.1 h)
  have ih:=tr (k:=k) (c:=c) hs cs q (by simpa using hl) (by simpa using hq) hk (λp hpq=>hp (p+1) ah);simp only [XI,fg,hx,if_false,YU,List.headD_cons];rw [ih];rfl
theorem s7{k:ByteArray}{c:Int}:∀ (hs:HL) (cs:List (List Int)),cs.length=hs.length->(∀ q,q<hs.length->hK hs q≠k)->fg k c (hs.map (·.1)) cs=(hs.map (·.1)++ [k],cs++ [[c]])
 | [],[],_,_=>rfl
 | [],d::cs,h,_=>by simp at h
 | x::hs,[],hl,_=>by simp at hl
 | x::hs,d::cs,hl,hq=>by
  have hx:¬ cg x.1 k=true:=λh=>hq 0 aN (jT.1 h)
  have ih:=s7 (k:=k) (c:=c) hs cs (by simpa using hl) (λq h=>hq (q+1) lK);simp only [XI,fg,hx,if_false,YU,List.headD_cons];rw [ih];rfl
theorem xE{hs:HL}{k:ByteArray}(h:¬ ∃ q,q<hs.length/\hK hs q=k):∀ q,q<hs.length->hK hs q≠k:=λq hq e=>h ⟨q,hq,e⟩
theorem oL{hs:HL}{k:ByteArray}(h:∀ q,q<hs.length->hK hs q≠k):∀ x∈fi hs,x.1≠k:=λx hx=>by
 obtain⟨q,hq,rfl⟩:=XN hx;have hq':q<hs.length:=by simpa [fi]using hq
 have:=lP hq';rw [Xd hq]at this;rw [Option.some.inj this];exact h q hq'
theorem cp{hs:HL}{q:Nat}{k:ByteArray}{n:Nat}:(fi hs).set q (k,.own n)=fi (hs.set q (k,n)):=by simp [fi,List.map_set]
theorem cq{hs:HL}{k:ByteArray}{n:Nat}:fi hs++ [(k,.own n)]=fi (hs++ [(k,n)]):=by simp [fi]
theorem vW{hs:HL}{q:Nat}{k:ByteArray}{n:Nat}(hq:q<hs.length)(hk:hK hs q=k):(hs.set q (k,n)).map (·.1)=hs.map (·.1):=by
 rw [List.map_set];apply XV;intro i
 by_cases h:q=i
 ·subst h;rw [Xt (by simpa using hq),Xh,Xd hq];unfold hK at hk;rw [Xc,Xd hq]at hk;simp at hk;simp [hk]
 ·rw [Xm h]
def RS.add(st:RS)(k:ByteArray):RS:= {st with ks:=(fg k st.cnt st.ks st.cs).1,cs:=(fg k st.cnt st.ks st.cs).2}
theorem iI:(Tryz.prog).underlying 72=some (.map 9 85):=by kernel_rfl
theorem iJ:(Tryz.prog).underlying 9=some .string :=by kernel_rfl
theorem wZ:∀ w,(zeroValue 85).run Tryz.prog w= .ok (.slice none 0 0) w:=λ_=>by kernel_rfl
theorem OE{M0:List Ob}{n:Nat}(hn:M0.length=n){st:RS}{H:RH}{lo b:Nat}(hR:e9 st H lo M0 b)(c0:Int)(ws:List Wd)(hw:st.ws=⟨cz,c0⟩::ws)(hk:st.kind=⟨#[]⟩)(hW:jH ⟨cz,c0⟩ ws)(hc:∀ q,(cR st.cs q).length <=1000000):
 ee Tryz.prog 30 [.ptr b 0] M0 (λr m'=>jd cz ⟨cz,c0⟩ ws=(0,0)/\r= .tuple []/\ ∃ H',e9 {(st.add cz)with nam:=(cN ws).txt,ws:= [],last:=cN ws,kind:=cz} H' lo m' b/\bM M0 m' (KR H b)) (λv m'=>∃ c e,e≠0/\jd cz ⟨cz,c0⟩ ws=(c,e)/\v=gu st.cnt c e/\bM M0 m' (KR H b)):=by
 have hwl:=hW.len;have hb:=hR.box;rw [hw,hk]at hb;have hJ:=hR.J;have hB:=hR.B;have hS:=hR.S;have hM:=hR.M;have hF:=hR.fam;have hbn:=cV hb hn;have hJn:=cV hJ hn;have hBn:=cV hB hn;have hSn:=cV hS hn;have hMn:=cV hM hn;obtain⟨⟨x1,x2,x3,x4⟩,⟨x5,x6,x7⟩,x8,x9,x10⟩:=hR.ne;have hnf:=hR.uN;have hlt:=hF.lt hn;have hlo:=hR.lo;refine gw (fn:=Tryz.f30) 193 ai rfl ai aU ?_;intro eR a9 hA aY;have b6:ak eR (.tmp 0)=_:=hA 0 _ rfl;have cH:a9.length=n:=by rw [aY];exact hn
 have b9:a9[b]? =_:=(congrArg (λq=>q[b]?) aY).trans hb;simp only [pS,Value.cells,Nat.reduceAdd,aV,aW,bn,bU,bK,cp,cq]at b9;have eS:a9[H.jJ]? =_:=(congrArg (λq=>q[H.jJ]?) aY).trans hJ;have eT:a9[H.jB]? =_:=(congrArg (λq=>q[H.jB]?) aY).trans hB;have eU:a9[H.jS]? =_:=(congrArg (λq=>q[H.jS]?) aY).trans hS;have eV:a9[H.jM]? =_:=(congrArg (λq=>q[H.jM]?) aY).trans hM;have eW:bM M0 a9 (KR H b):=by rw [aY];exact bM.refl _ _
 have cb:=hF;rw [<- aY]at cb;clear hA aY;refine au<|at_<|ar (al b6) rfl<|dt (mg (last:=st.last) cH b9 ah) (aE aa aM) lg trivial rfl (λf0 gb eX=>?_) (λ_ _ h=>h.elim)
 obtain⟨rfl,ba,cc⟩:=eX;simp only [pS,Value.cells,Nat.reduceAdd,aV,aW,bn,bU,bK,cp,cq]at cc;have cI:=ba.at_ eS cr;have cJ:=ba.at_ eT cr;have cM:=ba.at_ eU cr;have cO:=ba.at_ eV cr;have cQ:=eW.trans ba lh;have cT:=cb.all ba (λq_ h1_ h2_ h_=>cb.miss b9 rfl q_ h1_ h2_ h_);obtain⟨ad,cd,gc⟩:=ba.len_ cH;refine aL (cy ll rfl cd) trivial rfl (λgd aP=>?_);have bh:=bu aP cd;simp only [pS,Value.cells,Nat.reduceAdd,aV,aW,bn,bU,bK,cp,cq]at bh;have cU:=aK aP cc;have cW:=aK aP cI;have cX:=aK aP cJ;have cY:=aK aP cM;have cZ:=aK aP cO;have c6:=RestR.aK aP cQ;have c7:=bI.aK aP cT;have eY:=br aP cd;clear aP cc cI cJ cM cO cQ cT;refine aL (bP aa (ae aa) rfl rfl bh lp rfl az) trivial rfl (λbk aQ=>?_);have a5:=aZ aQ bh;simp only [pS,Value.cells,Nat.reduceAdd,aV,aW,bn,bU,bK,cp,cq]at a5;have a2:=aw aQ cU ah;have bc:=aw aQ cW ah;have be:=aw aQ cX ah;have bg:=aw aQ cY ah;have bN:=aw aQ cZ ah;have bO:=RestR.aw aQ c6 ej;have ce:=bI.aw aQ c7 bh rfl;have a6:=aX aQ eY;clear aQ bh cU cW cX cY cZ c6 c7;refine bq (aC (ae (ag b6))) (aC aa) ?_;clear b6;intro ge c8 cf;refine ao<|au<|at_<|ar (aI iv rfl cf) rfl<|ar (ax (aH wY rfl a5 aa az) jU) rfl ?_
 refine ar (aB aa) rfl<|bJ (ae (ag c8)) (ae (ag cf)) aa ?_;clear c8 cf;intro gf cg c9 ci
 refine ao<|au<|bV<|au<|au<|at_<|ar (al cg) rfl<|ar (bH aa) rfl<|ar (aI eJ rfl aa) rfl<|ar (ax (aH wY rfl a2 aa az) jU) rfl ?_
 refine ar (fb aa ay) rfl<|ar (al aa) rfl<|bQ aa (λbm da=>?_) (λbm da=>?_)
 ·skip;refine aG (al (ag (aj ci))) ⟨_,rfl,bm⟩ rfl ?_;refine aG (eD aa ay) ⟨_,rfl,(ae bm)⟩ rfl ?_;refine ar (bD (ag bm) aa) rfl<|ar (aB aa) rfl<|bp (ag (aA cg)) (ag (aA c9)) (ag (aA ci)) aa ?_;clear bm cg c9 ci;intro gg cj db dc dd
  refine ao<|bj dd (λbv=>?_) (λbv=>?_)
  ·(simp only [toList_data]at bv;exact absurd bv aD)
  replace bv:=dm bv;refine at_<|ar (al cj) rfl<|ar (bH aa) rfl<|ar (aI eJ rfl aa) rfl<|ar (ax (aH wY rfl a2 aa az) jU) rfl ?_
  refine ar (eD aa ay) rfl<|ar (al aa) rfl<|bQ aa (λbw bR=>?_) (λbw bR=>?_)
  ·(simp at bR;done)
  replace bR:=dm bR;refine aF ⟨_,rfl,.inl bw⟩ rfl ?_;refine aF ⟨_,rfl,.inl (ae bw)⟩ rfl ?_;refine ar (bG (ag bw) ay) rfl<|ar (al aa) rfl<|aF ⟨_,rfl,.inl aa⟩ rfl ?_
  refine aF ⟨_,rfl,.inl (ae aa)⟩ rfl ?_;refine ar (bG (ag aa) ay) rfl<|ar (al aa) rfl<|aF ⟨_,rfl,.inl aa⟩ rfl ?_
  refine aF ⟨_,rfl,.inl (ae aa)⟩ rfl ?_;refine ar (bG (ag aa) ay) rfl<|ar (aB aa) rfl<|bp (ag (aJ cj)) (ag (aJ db)) (ag (aJ dc)) aa ?_;clear bw cj dd db dc;intro gh ck de df dg
  refine ao<|hU dg<|au<|at_<|ar (al ck) rfl<|ar (bH aa) rfl<|ar (aI eJ rfl aa) rfl<|ar (ax (aH wY rfl a2 aa az) jU) rfl ?_
  refine ar (eD aa ay) rfl<|ar (al aa) rfl<|bQ aa (λbb bS=>?_) (λbb bS=>?_)
  ·(simp at bS;done)
  replace bS:=dm bS;refine aF ⟨_,rfl,.inl bb⟩ rfl ?_;refine aF ⟨_,rfl,.inl (ae bb)⟩ rfl ?_;refine aF ⟨_,rfl,.inl (ag bb)⟩ rfl ?_;refine aF ⟨_,rfl,.inl (ae (ag bb))⟩ rfl ?_;refine ar (bG (aj bb) ay) rfl<|ar (aB aa) rfl<|bp (aj (aA ck)) (aj (aA de)) (aj (aA df)) aa ?_;clear bb ck dg de df;intro dh af gi a3 eZ
  refine ao<|hU eZ<|bC<|cK<|ao<|au<|gl (λe mem=>(ak e (.tmp 0)=ak dh (.tmp 0))/\(ak e (.tmp 3)=ak dh (.tmp 3))/\(mem[ad]? =bk[ad]?)/\(mem[b]? =bk[b]?)/\(mem[H.jJ]? =bk[H.jJ]?)/\(mem[H.jB]? =bk[H.jB]?)/\(mem[H.jS]? =bk[H.jS]?)/\(∃ n,mem.length=n/\ad+1<=n)/\(∃ hs2:HL,mem[H.jM]? =some (.mp (fi hs2))/\bI mem hs2 (fg cz st.cnt st.ks st.cs).2 hs2.length/\hs2.map (·.1)=(fg cz st.cnt st.ks st.cs).1/\(∀ q,q<hs2.length->lo<=hN hs2 q)/\bM M0 mem (KR H b))) ?_ ?_
  ·
   have di:=a5;have dj:=a2;have dk:=bc;have dl:=be;have dn:=bg;refine(Classical.em (∃ q0,q0<H.hs.length/\hK H.hs q0=cz)).elim (λcm=>?_) (λcm=>?_)
   ·obtain⟨q0,hq0,hqk⟩:=cm;have hql:=hlt q0 hq0 ah;obtain⟨y1,y2,y3,y4,y5⟩:=hnf q0 hq0;have hcq:=hc q0;obtain⟨dp,dq⟩:=ce.take hq0;refine fZ 17 1 a6 ai ai ai ai (λe0 ab=>?_);have dr:=bz ab a5;have bx:=bz ab a2;have du:=bz ab bc;have dv:=bz ab be;have dw:=bz ab bg;have co:=bz ab bN;have dx:=RestR.bz ab bO;have dy:=bI.bz ab dq;have dz:=bz ab dp;have bT:e0[ad+1]? =_:=fS ab a6 0 rfl rfl;have e3:_=ad+1+1:=ga (K:=1) ab a6;clear ab a5 a2 bc be bg bN bO dq dp a6;refine aR (λM_ hM_=>(al af)) trivial ?_;refine aR (λM_ hM_=>(bH aa)) trivial ?_;refine aR (λM_ hM_=>(aI iw rfl aa)) trivial ?_;refine cG (b) (λM_ hM_=>(ax (aH vV rfl (cn hM_ bx aN) aa az) jU)) trivial trivial ?_;refine aR (λM_ hM_=>(al (aj a3))) trivial ?_;refine aR (λM_ hM_=>(al (ae (aj af)))) trivial ?_;refine aR (λM_ hM_=>(bH aa)) trivial ?_;refine aR (λM_ hM_=>(aI iw rfl aa)) trivial ?_;refine cG (b) (λM_ hM_=>(ax (aH vV rfl (cn hM_ bx aN) aa az) jU)) trivial trivial ?_;refine aR (λM_ hM_=>(al (ae (aA a3)))) trivial ?_;refine cG (H.jM) (λM_ hM_=>(tj iI iJ (cn hM_ co aN) (ae aa) aa (show(fi H.hs)[q0]? =some (cz,.own (hN H.hs q0))by rw [lP hq0,hqk]) hF.ov)) trivial trivial ?_;refine aR (λM_ hM_=>(al (ae (ag (aA af))))) trivial ?_;refine aR (λM_ hM_=>(bH aa)) trivial ?_;refine aR (λM_ hM_=>(aI ji rfl aa)) trivial ?_;refine cG (b) (λM_ hM_=>(ax (aH AG rfl (cn hM_ bx aN) aa az) jU)) trivial trivial ?_;refine aR (λM_ hM_=>(ez vU (bB aa b8) rfl rfl rfl rfl)) trivial ?_;refine pf (ad+1) ((hN H.hs q0)) (λM_ hM_=>(nJ vU rfl (cn hM_ dz aN) (ae (aj aa)) aa eL dP)) trivial bT rfl trivial ⟨.inl bo,⟨.inl bo,⟨.inl bo,⟨.inl bo,trivial⟩⟩⟩⟩ ⟨.inl bo,⟨.inl bo,⟨.inl bo,⟨.inl bo,trivial⟩⟩⟩⟩ (λgj am=>?_);have cu:=po am bT;simp only [pS,Value.cells,Nat.reduceAdd,aV,aW,bn,bU,bK,cp,cq]at cu;have dA:=cL am dr ah ah;have dB:=cL am bx ah ah;have dC:=cL am du ah ah;have dD:=cL am dv ah ah;have dE:=cL am dw ah ah;have bW:=cL am co ah ah;have dF:=RestR.cL am dx xh ej;have dG:=bI.xB ah am dy bT rfl;have e4:=o4 am e3;clear am dr bx du dv dw co dx dy dz bT;refine gn rfl ?_;refine aL (wI iI iJ bW (ae (aj (aA aa))) (aj (aA aa)) aa (show(fi H.hs)[q0]? =some (cz,.own (hN H.hs q0))by rw [lP hq0,hqk]) hF.ov) trivial rfl (λgk an=>?_);have dH:=aZ an bW;simp only [pS,Value.cells,Nat.reduceAdd,aV,aW,bn,bU,bK,cp,cq]at dH;have e5:=aw an cu ah;have e6:=aw an dA ah;have e7:=aw an dB ah;have e8:=aw an dC ah;have fa:=aw an dD ah;have fc:=aw an dE ah;have fd:=RestR.aw an dF gR;have fe:=bI.aw an dG bW rfl;have ff:=aX an e4;clear an cu dA dB dC dD dE bW dF dG;refine bq (aC (ae (aJ af))) (aC (ae (aJ a3))) ?_;intro gm fh fj;refine ao ⟨(fh).trans (af).symm,(fj).trans (a3).symm,e6.trans di.symm,e7.trans dj.symm,e8.trans dk.symm,fa.trans dl.symm,fc.trans dn.symm,⟨_,ff,ah⟩,?_⟩
    (have hadd:=tr (c:=st.cnt) H.hs st.cs q0 hF.len hq0 hqk (λp hp e=>absurd (hF.key p q0 ah hq0 (e.trans hqk.symm)) ah);rw [hR.keys]at hadd;rw [hadd];exact⟨_,dH,fe.put hq0 hqk e5 (λq hq=>oU),(vW hq0 hqk).trans hR.keys,(λq hq=>by rw [XU]at hq;rw [qB hq0];split<;>first|exact hlo.2.2.2.2.2 q hq|(show lo<=ad+1;omega)),fd⟩)
   ·have hqm:=xE cm;refine fZ 17 1 a6 ai ai ai ai (λfk ap=>?_);have dI:=bz ap a5;have bA:=bz ap a2;have dJ:=bz ap bc;have dK:=bz ap be;have dL:=bz ap bg;have cv:=bz ap bN;have dM:=RestR.bz ap bO;have dN:=bI.bz ap ce;have bZ:fk[ad+1]? =_:=fS ap a6 0 rfl rfl;have fl:_=ad+1+1:=ga (K:=1) ap a6;clear ap a5 a2 bc be bg bN bO ce a6;refine aR (λM_ hM_=>(al af)) trivial ?_;refine aR (λM_ hM_=>(bH aa)) trivial ?_;refine aR (λM_ hM_=>(aI iw rfl aa)) trivial ?_;refine cG (b) (λM_ hM_=>(ax (aH vV rfl (cn hM_ bA aN) aa az) jU)) trivial trivial ?_;refine aR (λM_ hM_=>(al (aj a3))) trivial ?_;refine aR (λM_ hM_=>(al (ae (aj af)))) trivial ?_;refine aR (λM_ hM_=>(bH aa)) trivial ?_;refine aR (λM_ hM_=>(aI iw rfl aa)) trivial ?_;refine cG (b) (λM_ hM_=>(ax (aH vV rfl (cn hM_ bA aN) aa az) jU)) trivial trivial ?_;refine aR (λM_ hM_=>(al (ae (aA a3)))) trivial ?_;refine cG (H.jM) (λM_ hM_=>(vC iI iJ wZ (cn hM_ cv aN) (ae aa) aa (oL hqm))) trivial trivial ?_;refine aR (λM_ hM_=>(al (ae (ag (aA af))))) trivial ?_;refine aR (λM_ hM_=>(bH aa)) trivial ?_;refine aR (λM_ hM_=>(aI ji rfl aa)) trivial ?_;refine cG (b) (λM_ hM_=>(ax (aH AG rfl (cn hM_ bA aN) aa az) jU)) trivial trivial ?_;refine aR (λM_ hM_=>(ez vU (bB aa b8) rfl rfl rfl rfl)) trivial ?_;refine kL (ad+1) (λM_ hM_=>(wy vU rfl (ae (aj aa)) aa eL dP)) trivial bZ rfl trivial ⟨.inl bo,⟨.inl bo,⟨.inl bo,⟨.inl bo,trivial⟩⟩⟩⟩ (λgp av=>?_);have cw:=aZ av bZ;simp only [pS,Value.cells,Nat.reduceAdd,aV,aW,bn,bU,bK,cp,cq]at cw;have dO:=aw av dI ah;have dQ:=aw av bA ah;have dR:=aw av dJ ah;have dU:=aw av dK ah;have dV:=aw av dL ah;have b0:=aw av cv ah;have dW:=RestR.aw av dM ej;have dX:=bI.aw av dN bZ rfl;have fm:=aX av fl;clear av dI bA dJ dK dL cv dM dN bZ;refine gn rfl ?_;refine aL (wJ iI iJ b0 (ae (aj (aA aa))) (aj (aA aa)) aa (oL hqm)) trivial rfl (λgq aO=>?_);have dY:=aZ aO b0;simp only [pS,Value.cells,Nat.reduceAdd,aV,aW,bn,bU,bK,cp,cq]at dY;have fo:=aw aO cw ah;have fp:=aw aO dO ah;have fq:=aw aO dQ ah;have fs:=aw aO dR ah;have ft:=aw aO dU ah;have fu:=aw aO dV ah;have fx:=RestR.aw aO dW gR;have fy:=bI.aw aO dX b0 rfl;have fz:=aX aO fm;clear aO cw dO dQ dR dU dV b0 dW dX;refine bq (aC (ae (aJ af))) (aC (ae (aJ a3))) ?_;intro gr fA fB;refine ao ⟨(fA).trans (af).symm,(fB).trans (a3).symm,fp.trans di.symm,fq.trans dj.symm,fs.trans dk.symm,ft.trans dl.symm,fu.trans dn.symm,⟨_,fz,ah⟩,?_⟩
    (have hadd:=s7 (k:=cz) (c:=st.cnt) H.hs st.cs hF.len hqm;rw [hR.keys]at hadd;rw [hadd];exact⟨_,dY,fy.more hqm fo (λq hq=>oU),xi,(λq hq=>by rw [qC];split<;>first|exact hlo.2.2.2.2.2 q (by assumption)|(rw [if_pos (by simp at hq;omega)];show lo<=ad+1;omega)),fx⟩)
  ·rintro gt gx ⟨fC,fD,fE,fG,fH,fI,fJ,⟨gy,dZ,gz⟩,⟨hs2,moM2,hF2,hks2,hlo2,hR2⟩⟩;have ea:=fC.trans af;have cx:=fD.trans a3;have fK:=fE.trans a5;have ec:=fG.trans a2;have fL:=fH.trans bc;have fO:=fI.trans be;have fP:=fJ.trans bg;refine au<|au<|at_<|ar (al cx) rfl<|bJ (ae ea) (ae cx) aa ?_;clear ea cx;intro gA ed ef cA
   refine ao<|bV<|au<|at_<|ar (fb cA ay) rfl<|ar (aB aa) rfl<|bp (ag ed) (ag ef) (ag cA) aa ?_;clear ed ef cA;intro gB b1 eg fQ eh
   refine ao<|bj eh (λcB=>?_) (λcB=>?_)
   ·skip;refine at_<|ar (al b1) rfl<|ar (al (ae b1)) rfl<|dt (En (last:=⟨cz,c0⟩) (ws:=ws) dZ ec hW) (aE aa aM) IE trivial rfl (λgC gD cC=>?_) (λgE gF cC=>?_)
    rotate_left
    ·
     repeat (first|refine eA ?_|refine gJ ?_)
     (rcases cC with⟨ha_,rfl,hz_⟩;exact⟨_,rfl,_,_,ha_,mP (by rw [pU];exact Eo ha_) ha_,rfl,hR2.trans hz_ kE⟩)
    obtain⟨hnm,rfl,a7,bE⟩:=cC;have ei:=a7.at_ fK cr;simp only [pS,Value.cells,Nat.reduceAdd,aV,aW,bn,bU,bK,cp,cq]at bE;have ek:=a7.at_ fL cr;have en:=a7.at_ fO cr;have eo:=a7.at_ fP cr;have ep:=a7.at_ moM2 cr;have er:=hF2.all a7 (λq_ h1_ h2_ h_=>hF2.miss ec rfl q_ h1_ h2_ h_);have eu:=hR2.trans a7 lh;obtain⟨gG,fR,gH⟩:=a7.len_ dZ;refine ar (bH (ag aa)) rfl<|ar (aI kZ rfl aa) rfl<|ar (aI oM rfl aa) rfl<|aL (bP aa (ae (ag aa)) rfl rfl bE qP rfl az) trivial rfl (λgI aS=>?_)
    have a8:=aZ aS bE;simp only [pS,Value.cells,Nat.reduceAdd,aV,aW,bn,bU,bK,cp,cq]at a8;have ev:=aw aS ei ah;have ew:=aw aS ek ah;have eB:=aw aS en ah;have eC:=aw aS eo ah;have eE:=aw aS ep ah;have eF:=bI.aw aS er bE rfl;have cD:=RestR.aw aS eu gR;have eG:=aX aS fR;clear aS ei bE ek en eo ep er eu;refine bq (aC (ag (aj b1))) (aC (ag (aj eg))) ?_;clear b1 eh eg fQ;intro gL cE eK;refine cK<|ao<|au<|au<|at_<|ar (al cE) rfl<|ar (bH aa) rfl<|ar (aI jL rfl aa) rfl<|ar (ax (aH GM rfl a8 aa az) jU) rfl ?_
    refine ar (ax (ca aa rfl GL.1) b7) rfl ?_;refine ar (ey aa ay) rfl<|bJ (ag (aj cE)) (ag (aj eK)) aa ?_;clear cE eK;intro gM b2 eN eO
    refine ao<|bj eO (λbL=>?_) (λbL=>?_)
    ·replace bL:=bt bL;refine at_<|ar (al b2) rfl<|ar (al (ae b2)) rfl<|ar (bH aa) rfl<|ar (aI jL rfl aa) rfl<|ar (ax (aH GM rfl a8 aa az) jU) rfl ?_
     refine ar (ax (cP GL aa ay aD (by refine eb ?_;(simp only [cS];omega))) jU) rfl ?_;refine ar (ax (bY kB rfl aa) jU) rfl ?_;refine ar (ax (bF AG rfl aa az) jU) rfl ?_;refine dt (iC (last:=cN ws) (ws:=ws.tail) eG a8 _ _) (aE (ae (ag (aj aa))) (aE aa (aE ay aM))) iD trivial rfl (λ_ _ h=>h.elim) (λgN gO eP=>?_)
     repeat (refine eA ?_)
     exact⟨_,rfl,_,_,aD,zN (r:=ws.tail) (by rw [pU,qe hnm];rfl) UO (by rw [pU];exact YL) mn,eP.1,cD.trans eP.2 kE⟩
    replace bL:=bf bL;refine bC<|ao<|at_<|ar (al b2) rfl<|ar (al (ae eN)) rfl<|ar (bH (ae aa)) rfl<|ar (aI eJ rfl aa) rfl<|aL (bP aa (ag aa) rfl rfl a8 qP rfl az) trivial rfl (λgP aT=>?_)
    have eQ:=aZ aT a8;simp only [pS,Value.cells,Nat.reduceAdd,aV,aW,bn,bU,bK,cp,cq]at eQ;have gQ:=aw aT ev ah;have fT:=aw aT ew ah;have fU:=aw aT eB ah;have fV:=aw aT eC ah;have fW:=aw aT eE ah;have fX:=bI.aw aT eF a8 rfl;have fY:=RestR.aw aT cD gR;have gS:=aX aT eG;clear aT a8 ev ew eB eC eE eF cD;refine nh ?_;clear b2 eO eN;intro gT;refine⟨_,nR ai,?_⟩
    (have ht:ws.tail= []:=Yy.1 mn;have mb_:=eQ;rw [ht]at mb_;refine⟨rP (r:=ws.tail) (by rw [pU,qe hnm];rfl) (by rw [pU];exact YL) (by rw [ht];rfl),rfl,⟨H.jM,H.jJ,H.jB,H.jS,hs2⟩,⟨mb_,fT,fU,fV,fW,fX,hks2,⟨hlo.1,hlo.2.1,by show lo<=H.jJ;omega,by show lo<=H.jB;omega,by show lo<=H.jS;omega,hlo2⟩⟩,fY⟩)
   ·(simp only [toList_data]at cB;exact absurd cB aD)
 ·(simp at da;done)
theorem GN:bO Tryz.prog 24 95 2 16 (.agg #[.int .i64 0,.int .i64 0]):=⟨ai,ai,ai⟩
theorem GO:bO Tryz.prog 73 75 2 24 (.agg #[.string ByteArray.empty,.int .i64 0]):=⟨ai,ai,ai⟩
theorem vX:bO Tryz.prog 85 3 1 8 (.int .i64 0):=⟨ai,ai,ai⟩
theorem Rn:aQ Tryz.prog 24 false 1:=⟨ai,ai⟩
theorem AH:aQ Tryz.prog 3 false 1:=⟨ai,ai⟩
theorem vY:aQ Tryz.prog 72 false 1:=⟨ai,ai⟩
theorem GP:aQ Tryz.prog 73 false 1:=⟨ai,ai⟩
theorem w8:aQ Tryz.prog 9 false 1:=⟨ai,ai⟩
theorem kK(a b:Int): [[AV.v (.int .i64 a),AV.v (.int .i64 b)]]= [(⟨a,b⟩:fY)].map cF:=rfl
theorem eM(a b c d:Int): [[AV.v (.int .i64 a),AV.v (.int .i64 b),AV.v (.int .i64 c),AV.v (.int .i64 d)]]= [(⟨a,b,c,d⟩:ep)].map bX:=rfl
theorem zi{mem:List Ob}{n:Nat}(hn:mem.length=n){b:Nat}{nam:ByteArray}{J B S M:AV}{cnt:Int}{ws:List Wd}{last:Wd}{kind:ByteArray}(hb:mem[b]? =some (.box aW (aV nam J B S M cnt ws last kind)))(k:ByteArray)(h:iY kind k=true):ee Tryz.prog 67 [.ptr b 0,.v (.string k)] mem (λr m'=>r=dK true/\bM mem m' (λ_=>False)) (λ_ _=>False):=by
 have:=GG hn hb k;rw [h]at this;exact this
theorem OF{M0:List Ob}{n:Nat}(hn:M0.length=n){st:RS}{H:RH}{lo b:Nat}(hR:e9 st H lo M0 b)(c0:Int){es er:Value}(hes:e8 es)(her:e8 er)(h0:M0[0]? =some (.bT (gX es er)))(hbl:st.bs.length<=1000000)(ws:List Wd)(hw:st.ws=⟨ck,c0⟩::ws)(hk:(st.kind.toList==(⟨#[]⟩:ByteArray).toList)=false)(ho:iY st.kind ck=true)(hW:jH ⟨ck,c0⟩ ws)(hc:∀ q,(cR st.cs q).length <=1000000):
 ee Tryz.prog 30 [.ptr b 0] M0 (λr m'=>jd ck ⟨ck,c0⟩ ws=(0,0)/\r= .tuple []/\ ∃ H',e9 {(st.add ck)with bs:=st.bs++ [⟨eG (cN ws),eG (cN ws.tail)⟩],ws:= [],last:=cN ws.tail,kind:=ck} H' lo m' b/\bM M0 m' (KR H b)) (λv m'=>∃ c e,e≠0/\jd ck ⟨ck,c0⟩ ws=(c,e)/\v=gu st.cnt c e/\bM M0 m' (KR H b)):=by
 have hwl:=hW.len;have hb:=hR.box;rw [hw]at hb;have hJ:=hR.J;have hB:=hR.B;have hS:=hR.S;have hM:=hR.M;have hF:=hR.fam;have hbn:=cV hb hn;have hJn:=cV hJ hn;have hBn:=cV hB hn;have hSn:=cV hS hn;have hMn:=cV hM hn;obtain⟨⟨x1,x2,x3,x4⟩,⟨x5,x6,x7⟩,x8,x9,x10⟩:=hR.ne;have hnf:=hR.uN;have hlt:=hF.lt hn;have hlo:=hR.lo;obtain⟨z1,z2,z3,z4,z5,z6⟩:=hR.nz h0;refine gw (fn:=Tryz.f30) 193 ai rfl ai aU ?_;intro gk a8 hA aY;have cw:ak gk (.tmp 0)=_:=hA 0 _ rfl;have dk:a8.length=n:=by rw [aY];exact hn
 have cx:a8[b]? =_:=(congrArg (λq=>q[b]?) aY).trans hb;simp only [pS,Value.cells,Nat.reduceAdd,aV,aW,bn,bU,bK,cp,cq,kK]at cx;have gm:a8[H.jJ]? =_:=(congrArg (λq=>q[H.jJ]?) aY).trans hJ;have gp:a8[H.jB]? =_:=(congrArg (λq=>q[H.jB]?) aY).trans hB;have gq:a8[H.jS]? =_:=(congrArg (λq=>q[H.jS]?) aY).trans hS;have gr:a8[H.jM]? =_:=(congrArg (λq=>q[H.jM]?) aY).trans hM;have gt:a8[0]? =_:=(congrArg (λq=>q[0]?) aY).trans h0;have gx:bM M0 a8 (KR H b):=by rw [aY];exact bM.refl _ _
 have cz:=hF;rw [<- aY]at cz;clear hA aY;refine au<|at_<|ar (al cw) rfl<|dt (mg (last:=st.last) dk cx ah) (aE aa aM) lg trivial rfl (λir iu gy=>?_) (λ_ _ h=>h.elim)
 obtain⟨rfl,a9,cA⟩:=gy;simp only [pS,Value.cells,Nat.reduceAdd,aV,aW,bn,bU,bK,cp,cq,kK]at cA;have dl:=a9.at_ gm cr;have dn:=a9.at_ gp cr;have dp:=a9.at_ gq cr;have dr:=a9.at_ gr cr;have du:=a9.at_ gt cr;have dv:=gx.trans a9 lh;have dw:=cz.all a9 (λq_ h1_ h2_ h_=>cz.miss cx rfl q_ h1_ h2_ h_);obtain⟨dx,cB,ix⟩:=a9.len_ dk;refine aL (cy ll rfl cB) trivial rfl (λiz av=>?_);have bx:=bu av cB;simp only [pS,Value.cells,Nat.reduceAdd,aV,aW,bn,bU,bK,cp,cq,kK]at bx;have dy:=aK av cA;have dz:=aK av dl;have dA:=aK av dn;have dB:=aK av dp;have dC:=aK av dr;have dD:=aK av du;have dE:=RestR.aK av dv;have dF:=bI.aK av dw;have gz:=br av cB;clear av cA dl dn dp dr du dv dw;refine aL (bP aa (ae aa) rfl rfl bx lp rfl az) trivial rfl (λiA aO=>?_);have cC:=aZ aO bx;simp only [pS,Value.cells,Nat.reduceAdd,aV,aW,bn,bU,bK,cp,cq,kK]at cC;have bA:=aw aO dy ah;have gA:=aw aO dz ah;have gB:=aw aO dA ah;have gC:=aw aO dB ah;have gD:=aw aO dC ah;have gE:=aw aO dD ah;have gF:=RestR.aw aO dE ej;have gG:=bI.aw aO dF bx rfl;have dG:=aX aO gz;clear aO bx dy dz dA dB dC dD dE dF;refine bq (aC (ae (ag cw))) (aC aa) ?_;clear cw;intro iB dH cD;refine ao<|au<|at_<|ar (aI iv rfl cD) rfl<|ar (ax (aH w8 rfl cC aa az) jt) rfl ?_
 refine ar (aB aa) rfl<|bJ (ae (ag dH)) (ae (ag cD)) aa ?_;clear dH cD;intro iF cE dI dJ
 refine ao<|au<|bV<|au<|au<|at_<|ar (al cE) rfl<|ar (bH aa) rfl<|ar (aI eJ rfl aa) rfl<|ar (ax (aH w8 rfl bA aa az) jt) rfl ?_
 refine ar (fb aa ay) rfl<|ar (al aa) rfl<|bQ aa (λbE cH=>?_) (λbE cH=>?_)
 ·(rw [hk]at cH;simp at cH;done)
 refine aF ⟨_,rfl,.inl bE⟩ rfl ?_;refine aF ⟨_,rfl,.inl (ae bE)⟩ rfl ?_;refine ar (bG (ag bE) ay) rfl<|ar (aB aa) rfl<|bp (ag (aA cE)) (ag (aA dI)) (ag (aA dJ)) aa ?_;clear bE cE dI dJ;intro iG cI dK b6 dL
 refine ao<|hU dL<|at_<|ar (al cI) rfl<|ar (bH aa) rfl<|ar (aI eJ rfl aa) rfl<|ar (ax (aH w8 rfl bA aa az) jt) rfl ?_
 refine ar (eD aa ay) rfl<|ar (al aa) rfl<|bQ aa (λbL bN=>?_) (λbL bN=>?_)
 ·replace bN:=di bN;refine aG (al (ag (aj b6))) ⟨_,rfl,bL⟩ rfl ?_;refine aG (eD aa ay) ⟨_,rfl,(ae bL)⟩ rfl ?_;refine ar (bD (ag bL) aa) rfl<|ar (al aa) rfl<|bQ aa (λbO bR=>?_) (λbO bR=>?_)
  ·replace bR:=di bR;refine aG (al (ag (aA b6))) ⟨_,rfl,bO⟩ rfl ?_;refine aG (eD aa ay) ⟨_,rfl,(ae bO)⟩ rfl ?_;refine ar (bD (ag bO) aa) rfl<|ar (al aa) rfl<|bQ aa (λbS bW=>?_) (λbS bW=>?_)
   ·(simp only [toList_data]at bW;exact absurd bW aD)
   replace bW:=dm bW;refine aF ⟨_,rfl,.inl bS⟩ rfl ?_;refine aF ⟨_,rfl,.inl (ae bS)⟩ rfl ?_;refine ar (bG (ag bS) ay) rfl<|ar (aB aa) rfl<|bp (ag (aJ cI)) (ag (aJ dK)) (ag (aJ b6)) aa ?_;clear bL bO bS cI dL dK b6;intro iH b9 dM cJ dN
   refine ao<|hU dN<|au<|at_<|ar (al b9) rfl<|ar (bH aa) rfl<|ar (aI eJ rfl aa) rfl<|ar (ax (aH w8 rfl bA aa az) jt) rfl ?_
   refine ar (eD aa ay) rfl<|ar (al aa) rfl<|bQ aa (λbc bZ=>?_) (λbc bZ=>?_)
   ·replace bZ:=di bZ;refine aG (al (ag (aj b9))) ⟨_,rfl,bc⟩ rfl ?_;refine aG (al (ae (ag (aj cJ)))) ⟨_,rfl,(ae bc)⟩ rfl ?_;refine dt (zi (last:=⟨ck,c0⟩) dG bA ck ho) (aE (ae aa) (aE aa aM)) rS ⟨_,rfl,(ag bc)⟩ rfl (λiK be gH=>?_) (λ_ _ h=>h.elim);obtain⟨rfl,a2⟩:=gH;have bg:=a2.at_ cC dQ;have bh:=a2.at_ bA dQ;have bk:=a2.at_ gA dQ;have bm:=a2.at_ gB dQ;have bv:=a2.at_ gC dQ;have cb:=a2.at_ gD dQ;have bw:=a2.at_ gE dQ;have cc:=gF.trans a2 AU;have cM:=gG.all a2 (λq_ h1_ h2_ h_=>h_.elim);obtain⟨a3,ba,iL⟩:=a2.len_ dG;refine aG (c8 aa) ⟨_,rfl,(ae (ag bc))⟩ rfl ?_;refine ar (bD (aj bc) aa) rfl<|ar (aB aa) rfl<|bp (aj (aA b9)) (aj (aA dM)) (aj (aA cJ)) aa ?_;clear bc b9 dN dM cJ;intro dR aP iM a5 gI
    refine ao<|bj gI (λcd=>?_) (λcd=>?_)
    ·cases cd
    replace cd:=dm cd;refine bC<|cK<|ao<|au<|gl (λe mem=>(ak e (.tmp 0)=ak dR (.tmp 0))/\(ak e (.tmp 3)=ak dR (.tmp 3))/\(mem[dx]? =be[dx]?)/\(mem[b]? =be[b]?)/\(mem[H.jJ]? =be[H.jJ]?)/\(mem[H.jB]? =be[H.jB]?)/\(mem[H.jS]? =be[H.jS]?)/\(mem[0]? =be[0]?)/\(∃ n,mem.length=n/\a3<=n)/\(∃ hs2:HL,mem[H.jM]? =some (.mp (fi hs2))/\bI mem hs2 (fg ck st.cnt st.ks st.cs).2 hs2.length/\hs2.map (·.1)=(fg ck st.cnt st.ks st.cs).1/\(∀ q,q<hs2.length->lo<=hN hs2 q)/\bM M0 mem (KR H b))) ?_ ?_
    ·
     have dU:=bg;have dV:=bh;have dW:=bk;have dX:=bm;have dY:=bv;have dZ:=bw;refine(Classical.em (∃ q0,q0<H.hs.length/\hK H.hs q0=ck)).elim (λcO=>?_) (λcO=>?_)
     ·obtain⟨q0,hq0,hqk⟩:=cO;have hql:=hlt q0 hq0 ah;obtain⟨y1,y2,y3,y4,y5⟩:=hnf q0 hq0;have hcq:=hc q0;have y6:=z6 q0 hq0;obtain⟨ea,ec⟩:=cM.take hq0;refine fZ 17 1 ba ai ai ai ai (λgL ab=>?_);have ed:=bz ab bg;have b0:=bz ab bh;have ef:=bz ab bk;have eg:=bz ab bm;have eh:=bz ab bv;have cQ:=bz ab cb;have ei:=bz ab bw;have ek:=RestR.bz ab cc;have en:=bI.bz ab ec;have eo:=bz ab ea;have ce:gL[a3]? =_:=fS ab ba 0 rfl rfl;have gM:_=a3+1:=ga (K:=1) ab ba;clear ab bg bh bk bm bv cb bw cc ec ea ba;refine aR (λM_ hM_=>(al aP)) trivial ?_;refine aR (λM_ hM_=>(bH aa)) trivial ?_;refine aR (λM_ hM_=>(aI iw rfl aa)) trivial ?_;refine cG (b) (λM_ hM_=>(ax (aH vY rfl (cn hM_ b0 aN) aa az) jt)) trivial trivial ?_;refine aR (λM_ hM_=>(al (aj a5))) trivial ?_;refine aR (λM_ hM_=>(al (ae (aj aP)))) trivial ?_;refine aR (λM_ hM_=>(bH aa)) trivial ?_;refine aR (λM_ hM_=>(aI iw rfl aa)) trivial ?_;refine cG (b) (λM_ hM_=>(ax (aH vY rfl (cn hM_ b0 aN) aa az) jt)) trivial trivial ?_;refine aR (λM_ hM_=>(al (ae (aA a5)))) trivial ?_;refine cG (H.jM) (λM_ hM_=>(tj iI iJ (cn hM_ cQ aN) (ae aa) aa (show(fi H.hs)[q0]? =some (ck,.own (hN H.hs q0))by rw [lP hq0,hqk]) hF.ov)) trivial trivial ?_;refine aR (λM_ hM_=>(al (ae (ag (aA aP))))) trivial ?_;refine aR (λM_ hM_=>(bH aa)) trivial ?_;refine aR (λM_ hM_=>(aI ji rfl aa)) trivial ?_;refine cG (b) (λM_ hM_=>(ax (aH AH rfl (cn hM_ b0 aN) aa az) jt)) trivial trivial ?_;refine aR (λM_ hM_=>(ez vX (bB aa b8) rfl rfl rfl rfl)) trivial ?_;refine pf (a3) ((hN H.hs q0)) (λM_ hM_=>(nJ vX rfl (cn hM_ eo aN) (ae (aj aa)) aa eL dP)) trivial ce rfl trivial ⟨.inl bo,⟨.inl bo,⟨.inl bo,⟨.inl bo,trivial⟩⟩⟩⟩ ⟨.inl bo,⟨.inl bo,⟨.inl bo,⟨.inl bo,trivial⟩⟩⟩⟩ (λiN ad=>?_);have cT:=po ad ce;simp only [pS,Value.cells,Nat.reduceAdd,aV,aW,bn,bU,bK,cp,cq,kK]at cT;have ep:=cL ad ed ah ah;have eu:=cL ad b0 ah ah;have ev:=cL ad ef ah ah;have ew:=cL ad eg ah ah;have eB:=cL ad eh ah ah;have cf:=cL ad cQ ah ah;have eC:=cL ad ei ah ah;have eE:=RestR.cL ad ek xh ej;have eF:=bI.xB ah ad en ce rfl;have gN:=o4 ad gM;clear ad ed b0 ef eg eh cQ ei ek en eo ce;refine gn rfl ?_;refine aL (wI iI iJ cf (ae (aj (aA aa))) (aj (aA aa)) aa (show(fi H.hs)[q0]? =some (ck,.own (hN H.hs q0))by rw [lP hq0,hqk]) hF.ov) trivial rfl (λiO af=>?_);have eK:=aZ af cf;simp only [pS,Value.cells,Nat.reduceAdd,aV,aW,bn,bU,bK,cp,cq,kK]at eK;have gO:=aw af cT ah;have gP:=aw af ep ah;have gQ:=aw af eu ah;have gS:=aw af ev ah;have gT:=aw af ew ah;have gU:=aw af eB ah;have gV:=aw af eC ah;have gW:=RestR.aw af eE gR;have gY:=bI.aw af eF cf rfl;have gZ:=aX af gN;clear af cT ep eu ev ew eB cf eC eE eF;refine bq (aC (ae (aJ aP))) (aC (ae (aJ a5))) ?_;intro iP g0 g1;refine ao ⟨(g0).trans (aP).symm,(g1).trans (a5).symm,gP.trans dU.symm,gQ.trans dV.symm,gS.trans dW.symm,gT.trans dX.symm,gU.trans dY.symm,gV.trans dZ.symm,⟨_,gZ,ah⟩,?_⟩
      (have hadd:=tr (c:=st.cnt) H.hs st.cs q0 hF.len hq0 hqk (λp hp e=>absurd (hF.key p q0 ah hq0 (e.trans hqk.symm)) ah);rw [hR.keys]at hadd;rw [hadd];exact⟨_,eK,gY.put hq0 hqk gO (λq hq=>oU),(vW hq0 hqk).trans hR.keys,(λq hq=>by rw [XU]at hq;rw [qB hq0];split<;>first|exact hlo.2.2.2.2.2 q hq|(show lo<=a3;omega)),gW⟩)
     ·have hqm:=xE cO;refine fZ 17 1 ba ai ai ai ai (λg2 am=>?_);have eN:=bz am bg;have b1:=bz am bh;have eO:=bz am bk;have eP:=bz am bm;have eQ:=bz am bv;have cU:=bz am cb;have eR:=bz am bw;have eS:=RestR.bz am cc;have eT:=bI.bz am cM;have cg:g2[a3]? =_:=fS am ba 0 rfl rfl;have g3:_=a3+1:=ga (K:=1) am ba;clear am bg bh bk bm bv cb bw cc cM ba;refine aR (λM_ hM_=>(al aP)) trivial ?_;refine aR (λM_ hM_=>(bH aa)) trivial ?_;refine aR (λM_ hM_=>(aI iw rfl aa)) trivial ?_;refine cG (b) (λM_ hM_=>(ax (aH vY rfl (cn hM_ b1 aN) aa az) jt)) trivial trivial ?_;refine aR (λM_ hM_=>(al (aj a5))) trivial ?_;refine aR (λM_ hM_=>(al (ae (aj aP)))) trivial ?_;refine aR (λM_ hM_=>(bH aa)) trivial ?_;refine aR (λM_ hM_=>(aI iw rfl aa)) trivial ?_;refine cG (b) (λM_ hM_=>(ax (aH vY rfl (cn hM_ b1 aN) aa az) jt)) trivial trivial ?_;refine aR (λM_ hM_=>(al (ae (aA a5)))) trivial ?_;refine cG (H.jM) (λM_ hM_=>(vC iI iJ wZ (cn hM_ cU aN) (ae aa) aa (oL hqm))) trivial trivial ?_;refine aR (λM_ hM_=>(al (ae (ag (aA aP))))) trivial ?_;refine aR (λM_ hM_=>(bH aa)) trivial ?_;refine aR (λM_ hM_=>(aI ji rfl aa)) trivial ?_;refine cG (b) (λM_ hM_=>(ax (aH AH rfl (cn hM_ b1 aN) aa az) jt)) trivial trivial ?_;refine aR (λM_ hM_=>(ez vX (bB aa b8) rfl rfl rfl rfl)) trivial ?_;refine kL (a3) (λM_ hM_=>(wy vX rfl (ae (aj aa)) aa eL dP)) trivial cg rfl trivial ⟨.inl bo,⟨.inl bo,⟨.inl bo,⟨.inl bo,trivial⟩⟩⟩⟩ (λiQ an=>?_);have cW:=aZ an cg;simp only [pS,Value.cells,Nat.reduceAdd,aV,aW,bn,bU,bK,cp,cq,kK]at cW;have eU:=aw an eN ah;have eV:=aw an b1 ah;have eW:=aw an eO ah;have eX:=aw an eP ah;have eY:=aw an eQ ah;have ci:=aw an cU ah;have eZ:=aw an eR ah;have e0:=RestR.aw an eS ej;have e3:=bI.aw an eT cg rfl;have g4:=aX an g3;clear an eN b1 eO eP eQ cU eR eS eT cg;refine gn rfl ?_;refine aL (wJ iI iJ ci (ae (aj (aA aa))) (aj (aA aa)) aa (oL hqm)) trivial rfl (λiR ap=>?_);have e4:=aZ ap ci;simp only [pS,Value.cells,Nat.reduceAdd,aV,aW,bn,bU,bK,cp,cq,kK]at e4;have g5:=aw ap cW ah;have g6:=aw ap eU ah;have g7:=aw ap eV ah;have g8:=aw ap eW ah;have g9:=aw ap eX ah;have hh:=aw ap eY ah;have hv:=aw ap eZ ah;have hC:=RestR.aw ap e0 gR;have hD:=bI.aw ap e3 ci rfl;have hE:=aX ap g4;clear ap cW eU eV eW eX eY ci eZ e0 e3;refine bq (aC (ae (aJ aP))) (aC (ae (aJ a5))) ?_;intro iS hG hH;refine ao ⟨(hG).trans (aP).symm,(hH).trans (a5).symm,g6.trans dU.symm,g7.trans dV.symm,g8.trans dW.symm,g9.trans dX.symm,hh.trans dY.symm,hv.trans dZ.symm,⟨_,hE,ah⟩,?_⟩
      (have hadd:=s7 (k:=ck) (c:=st.cnt) H.hs st.cs hF.len hqm;rw [hR.keys]at hadd;rw [hadd];exact⟨_,e4,hD.more hqm g5 (λq hq=>oU),xi,(λq hq=>by rw [qC];split<;>first|exact hlo.2.2.2.2.2 q (by assumption)|(rw [if_pos (by simp at hq;omega)];show lo<=a3;omega)),hC⟩)
    ·rintro iT iU ⟨hI,hO,hP,hQ,hV,hY,hZ,h6,⟨iV,e5,iW⟩,⟨hs2,moM2,hF2,hks2,hlo2,hR2⟩⟩;have e6:=hI.trans aP;have cX:=hO.trans a5;have h7:=hP.trans bg;have e7:=hQ.trans bh;have h8:=hV.trans bk;have h9:=hY.trans bm;have ia:=hZ.trans bv;have fa:=h6.trans bw;refine au<|au<|at_<|ar (al cX) rfl<|bJ (ae e6) (ae cX) aa ?_;clear e6 cX;intro iX fc fd cY
     refine ao<|bV<|au<|at_<|ar (fb cY ay) rfl<|ar (aB aa) rfl<|bp (ag fc) (ag fd) (ag cY) aa ?_;clear fc fd cY;intro iZ fe ff cZ fh
     refine ao<|bj fh (λc6=>?_) (λc6=>?_)
     ·(simp only [toList_data]at c6;exact absurd c6 aD)
     refine au<|at_<|ar (fb cZ ay) rfl<|ar (aB aa) rfl<|bp (ag fe) (ag ff) (ag cZ) aa ?_;clear fe fh ff cZ;intro i6 fj fk fl fm
     refine ao<|bj fm (λc7=>?_) (λc7=>?_)
     ·(simp only [toList_data]at c7;exact absurd c7 aD)
     refine au<|at_<|ar (fb fl ay) rfl<|ar (aB aa) rfl<|bJ (ag fj) (ag fk) aa ?_;clear fj fm fk fl;intro i7 c9 fo fp
     refine ao<|bj fp (λda=>?_) (λda=>?_)
     ·skip;refine au<|at_<|ar (al c9) rfl<|dt (nu (last:=⟨ck,c0⟩) (ws:=ws) e5 hes her fa e7 hW false) (aE aa (aE ay aM)) nF trivial rfl (λi8 ja db=>?_) (λjb jc db=>?_)
      rotate_left
      ·
       repeat (first|refine eA ?_|refine gJ ?_)
       (rcases db with⟨ha_,rfl,hz_⟩;exact⟨_,rfl,_,_,ha_,mP (by rw [oC];exact GI ha_) ha_,rfl,hR2.trans hz_ kE⟩)
      obtain⟨hn1,rfl,a6,dc⟩:=db;have ib:=a6.at_ h7 cr;simp only [pS,Value.cells,Nat.reduceAdd,aV,aW,bn,bU,bK,cp,cq,kK]at dc;have ic:=a6.at_ h8 cr;have ie:=a6.at_ h9 cr;have ig:=a6.at_ ia cr;have fq:=a6.at_ fa cr;have ih:=a6.at_ moM2 cr;have fs:=hF2.all a6 (λq_ h1_ h2_ h_=>hF2.miss e7 rfl q_ h1_ h2_ h_);have ft:=hR2.trans a6 lh;obtain⟨je,fu,jf⟩:=a6.len_ e5;refine ar (aB aa) rfl<|bJ (ae (ag c9)) (ae (ag fo)) aa ?_;clear c9 fp fo;intro jg dd fx fy
      refine ao<|au<|at_<|ar (al dd) rfl<|dt (nu (last:=cN ws) (ws:=ws.tail) fu hes her fq dc (hW.tail (lJ hn1)) true) (aE aa (aE ay aM)) nF trivial rfl (λjh jj de=>?_) (λjk jl de=>?_)
      rotate_left
      ·
       repeat (first|refine eA ?_|refine gJ ?_)
       (rcases de with⟨ha_,rfl,hz_⟩;exact⟨_,rfl,_,_,ha_,mP (by rw [oC,qn hn1];exact zM ha_) ha_,rfl,ft.trans hz_ kE⟩)
      obtain⟨hn2,rfl,a7,cj⟩:=de;have fz:=a7.at_ ib cr;simp only [pS,Value.cells,Nat.reduceAdd,aV,aW,bn,bU,bK,cp,cq,kK]at cj;have fA:=a7.at_ ic cr;have df:=a7.at_ ie cr;have fB:=a7.at_ ig cr;have fC:=a7.at_ fq cr;have fD:=a7.at_ ih cr;have fE:=fs.all a7 (λq_ h1_ h2_ h_=>fs.miss dc rfl q_ h1_ h2_ h_);have fH:=ft.trans a7 lh;obtain⟨fI,dg,jm⟩:=a7.len_ fu;refine ar (aB aa) rfl<|bp (ae (ag dd)) (ae (ag fx)) (ae (ag fy)) aa ?_;clear dd fx fy;intro jn cm fJ fK fL
      refine ao<|at_<|ar (al cm) rfl<|ar (al (ae cm)) rfl<|ar (bH aa) rfl<|ar (aI kZ rfl aa) rfl<|ar (aI dO rfl aa) rfl<|ar (ax (aH Rn rfl cj aa az) jt) rfl ?_
      refine ar (al (ag (aj fK))) rfl<|ar (al (ae (ag (aj fL)))) rfl<|ar (dq (bB (ae aa) (bB aa b8)) BM BK BH rfl) rfl ?_
      refine ar (ez GN (bB aa b8) rfl rfl rfl rfl) rfl<|aL (oY GN rfl dg df (aj aa) aa eL dP) trivial rfl (λjo aQ=>?_)
      have co:=qy aQ dg;simp only [pS,Value.cells,Nat.reduceAdd,aV,aW,bn,bU,bK,cp,cq,kK]at co;have fO:=fG aQ fz ah;have cu:=fG aQ cj ah;have fP:=fG aQ fA ah;have fQ:=fG aQ fB ah;have fR:=fG aQ fC ah;have fT:=fG aQ fD ah;have fU:=bI.fG aQ fE df rfl;have fV:=RestR.fG aQ fH gR;have ij:=qb aQ dg;clear aQ fz cj fA df fB fC fD fE fH;refine ar (bH (ag (aA aa))) rfl<|ar (aI kZ rfl aa) rfl<|ar (aI dO rfl aa) rfl<|aL (l6 aa (ae (ag aa)) cu co Ju az) trivial rfl (λjp aS=>?_)
      have bb:=aZ aS cu;simp only [pS,Value.cells,Nat.reduceAdd,aV,aW,bn,bU,bK,cp,cq,kK]at bb;have fW:=aw aS co ah;have fX:=aw aS fO ah;have fY:=aw aS fP ah;have f0:=aw aS fQ ah;have gb:=aw aS fR ah;have gc:=aw aS fT ah;have gd:=bI.aw aS fU cu rfl;have dh:=RestR.aw aS fV gR;have ge:=aX aS ij;clear aS co fO cu fP fQ fR fT fU fV;refine bq (aC (ag (aj (aA cm)))) (aC (ag (aj (aA fJ)))) ?_;clear cm fJ fK fL;intro jq dj gf;refine cK<|ao<|au<|au<|at_<|ar (al dj) rfl<|ar (bH aa) rfl<|ar (aI jL rfl aa) rfl<|ar (ax (aH GP rfl bb aa az) jt) rfl ?_
      refine ar (ax (ca aa rfl GO.1) b7) rfl ?_;refine ar (ey aa ay) rfl<|bJ (ag (aj dj)) (ag (aj gf)) aa ?_;clear dj gf;intro jr cv gg gh
      refine ao<|bj gh (λb2=>?_) (λb2=>?_)
      ·replace b2:=bt b2;refine at_<|ar (al cv) rfl<|ar (al (ae cv)) rfl<|ar (bH aa) rfl<|ar (aI jL rfl aa) rfl<|ar (ax (aH GP rfl bb aa az) jt) rfl ?_
       refine ar (ax (cP GO aa ay aD (by refine eb ?_;(simp only [cS];omega))) jt) rfl ?_;refine ar (ax (bY kB rfl aa) jt) rfl ?_;refine ar (ax (bF AH rfl aa az) jt) rfl ?_;refine dt (iC (last:=cN ws.tail) (ws:=ws.tail.tail) ge bb _ _) (aE (ae (ag (aj aa))) (aE aa (aE ay aM))) iD trivial rfl (λ_ _ h=>h.elim) (λjs ju gi=>?_)
       repeat (refine eA ?_)
       exact⟨_,rfl,_,_,aD,zN (r:=ws.tail.tail) (by rw [oC,qn hn1,k9 hn2];rfl) UP (by rw [oC];exact sN _) mn,gi.1,dh.trans gi.2 kE⟩
      replace b2:=bf b2;refine bC<|ao<|at_<|ar (al cv) rfl<|ar (al (ae gg)) rfl<|ar (bH (ae aa)) rfl<|ar (aI eJ rfl aa) rfl<|aL (bP aa (ag aa) rfl rfl bb qP rfl az) trivial rfl (λjv aT=>?_)
      have gj:=aZ aT bb;simp only [pS,Value.cells,Nat.reduceAdd,aV,aW,bn,bU,bK,cp,cq,kK]at gj;have ik:=aw aT fW ah;have jw:=aw aT fX ah;have il:=aw aT fY ah;have im:=aw aT f0 ah;have jx:=aw aT gb ah;have io:=aw aT gc ah;have ip:=bI.aw aT gd bb rfl;have iq:=RestR.aw aT dh gR;have jy:=aX aT ge;clear aT bb fW fX fY f0 gb gc gd dh;refine nh ?_;clear cv gh gg;intro jz;refine⟨_,nR ai,?_⟩
      (have ht:ws.tail.tail= []:=Yy.1 mn;have mb_:=gj;rw [ht]at mb_;refine⟨rP (r:=ws.tail.tail) (by rw [oC,qn hn1,k9 hn2];rfl) (by rw [oC];exact sN _) (by rw [ht];rfl),rfl,⟨H.jM,H.jJ,fI,H.jS,hs2⟩,⟨mb_,il,ik,im,io,ip,hks2,⟨hlo.1,hlo.2.1,by show lo<=H.jJ;omega,by show lo<=fI;omega,by show lo<=H.jS;omega,hlo2⟩⟩,iq⟩)
     ·(simp only [toList_data]at da;exact absurd da aD)
   ·(rw [hk]at bZ;simp at bZ;done)
  ·(simp only [toList_data]at bR;exact absurd bR aD)
 ·(rw [hk]at bN;simp at bN;done)
theorem vq:yb Tryz.prog 135 4 134 false 1:=⟨ai,ai,ai⟩
theorem OG:(Tryz.prog.info? 135).bind (·.zero)=some (.agg #[.pointer none,.pointer none,.pointer none,.pointer none]):=by kernel_rfl
theorem OH:Tryz.prog.underlying 135=some (.array 4 134):=by kernel_rfl
theorem OI:(Tryz.prog.info? 134).map (·.size)=some 1:=by kernel_rfl
theorem GQ:bO Tryz.prog 23 59 4 32 (.agg #[.int .i64 0,.int .i64 0,.int .i64 0,.int .i64 0]):=⟨ai,ai,ai⟩
theorem GR:bO Tryz.prog 73 75 2 24 (.agg #[.string ByteArray.empty,.int .i64 0]):=⟨ai,ai,ai⟩
theorem vZ:bO Tryz.prog 85 3 1 8 (.int .i64 0):=⟨ai,ai,ai⟩
theorem Ro:aQ Tryz.prog 23 false 1:=⟨ai,ai⟩
theorem AI:aQ Tryz.prog 3 false 1:=⟨ai,ai⟩
theorem Rq:aQ Tryz.prog 59 true 4:=⟨ai,ai⟩
theorem v7:aQ Tryz.prog 72 false 1:=⟨ai,ai⟩
theorem GU:aQ Tryz.prog 73 false 1:=⟨ai,ai⟩
theorem w9:aQ Tryz.prog 9 false 1:=⟨ai,ai⟩
def eH(a b c d:Int):Nat->List AV
 | 0=> [mA 0,mA 0,mA 0,mA 0]
 | 1=> [mA a,mA 0,mA 0,mA 0]
 | 2=> [mA a,mA b,mA 0,mA 0]
 | 3=> [mA a,mA b,mA c,mA 0]
 | _=> [mA a,mA b,mA c,mA d]
def dS(ws:List Wd):Nat->List Wd
 | 0=>ws
 | 1=>ws.tail
 | 2=>ws.tail.tail
 | 3=>ws.tail.tail.tail
 | _=>ws.tail.tail.tail.tail
def dT(p0:Wd)(ws:List Wd):Nat->Wd
 | 0=>p0
 | 1=>cN ws
 | 2=>cN ws.tail
 | 3=>cN ws.tail.tail
 | _=>cN ws.tail.tail.tail
def WR:Nat->List Nat
 | 0=> [1,1,1,1]
 | 1=> [1,1,1]
 | 2=> [1,1]
 | 3=> [1]
 | _=> []
theorem bI.cL{mem m:List Ob}{hs:HL}{cs:List (List Int)}{i:Nat}{k j:Nat}{o o2 o':Ob}(hm:m=(mem.set k .gone).set j o')(h:bI mem hs cs i)(hk:mem[k]? =some o)(ho:qA o=true)(hj:mem[j]? =some o2)(h2:qA o2=true):bI m hs cs i:=
 (h.nL rfl (h.miss hk ho)).nL hm (h.miss hj h2)
theorem M3{M0:List Ob}{n:Nat}(hn:M0.length=n){st:RS}{H:RH}{lo b:Nat}(hR:e9 st H lo M0 b)(c0:Int){es er:Value}(hes:e8 es)(her:e8 er)(h0:M0[0]? =some (.bT (gX es er)))(hjl:st.js.length<=1000000)(ws:List Wd)(hw:st.ws=⟨bZ,c0⟩::ws)(hk:(st.kind.toList==(⟨#[]⟩:ByteArray).toList)=false)(ho:iY st.kind bZ=true)(hW:jH ⟨bZ,c0⟩ ws)(hc:∀ q,(cR st.cs q).length <=1000000):
 ee Tryz.prog 30 [.ptr b 0] M0 (λr m'=>jd bZ ⟨bZ,c0⟩ ws=(0,0)/\r= .tuple []/\ ∃ H',e9 {(st.add bZ)with js:=st.js++ [⟨eG (cN ws),eG (cN ws.tail),eG (cN ws.tail.tail),eG (cN ws.tail.tail.tail)⟩],ws:= [],last:=cN ws.tail.tail.tail,kind:=bZ} H' lo m' b/\bM M0 m' (KR H b)) (λv m'=>∃ c e,e≠0/\jd bZ ⟨bZ,c0⟩ ws=(c,e)/\v=gu st.cnt c e/\bM M0 m' (KR H b)):=by
 have hwl:=hW.len;have hb:=hR.box;rw [hw]at hb;have hJ:=hR.J;have hB:=hR.B;have hS:=hR.S;have hM:=hR.M;have hF:=hR.fam;have hbn:=cV hb hn;have hJn:=cV hJ hn;have hBn:=cV hB hn;have hSn:=cV hS hn;have hMn:=cV hM hn;obtain⟨⟨x1,x2,x3,x4⟩,⟨x5,x6,x7⟩,x8,x9,x10⟩:=hR.ne;have hnf:=hR.uN;have hlt:=hF.lt hn;have hlo:=hR.lo;obtain⟨z1,z2,z3,z4,z5,z6⟩:=hR.nz h0;refine gw (fn:=Tryz.f30) 193 ai rfl ai aU ?_;intro kA bO hA bc;have dE:ak kA (.tmp 0)=_:=hA 0 _ rfl;have e6:bO.length=n:=by rw [bc];exact hn
 have dF:bO[b]? =_:=(congrArg (λq=>q[b]?) bc).trans hb;simp only [pS,Value.cells,Nat.reduceAdd,aV,aW,bn,bU,bK,cp,cq,eM,eH,dS,dT]at dF;have kC:bO[H.jJ]? =_:=(congrArg (λq=>q[H.jJ]?) bc).trans hJ;have kD:bO[H.jB]? =_:=(congrArg (λq=>q[H.jB]?) bc).trans hB;have kF:bO[H.jS]? =_:=(congrArg (λq=>q[H.jS]?) bc).trans hS;have kG:bO[H.jM]? =_:=(congrArg (λq=>q[H.jM]?) bc).trans hM;have kH:bO[0]? =_:=(congrArg (λq=>q[0]?) bc).trans h0;have kI:bM M0 bO (KR H b):=by rw [bc];exact bM.refl _ _
 have dG:=hF;rw [<- bc]at dG;clear hA bc;refine au<|at_<|ar (al dE) rfl<|dt (mg (last:=st.last) e6 dF ah) (aE aa aM) lg trivial rfl (λnx ny kJ=>?_) (λ_ _ h=>h.elim)
 obtain⟨rfl,bS,dH⟩:=kJ;simp only [pS,Value.cells,Nat.reduceAdd,aV,aW,bn,bU,bK,cp,cq,eM,eH,dS,dT]at dH;have e7:=bS.at_ kC cr;have fa:=bS.at_ kD cr;have fc:=bS.at_ kF cr;have fd:=bS.at_ kG cr;have fe:=bS.at_ kH cr;have ff:=kI.trans bS lh;have fh:=dG.all bS (λq_ h1_ h2_ h_=>dG.miss dF rfl q_ h1_ h2_ h_);obtain⟨da,dI,nA⟩:=bS.len_ e6;refine aL (cy ll rfl dI) trivial rfl (λnB a8=>?_);have cu:=bu a8 dI;simp only [pS,Value.cells,Nat.reduceAdd,aV,aW,bn,bU,bK,cp,cq,eM,eH,dS,dT]at cu;have fj:=aK a8 dH;have fk:=aK a8 e7;have fl:=aK a8 fa;have fm:=aK a8 fc;have fo:=aK a8 fd;have fp:=aK a8 fe;have fq:=RestR.aK a8 ff;have fs:=bI.aK a8 fh;have kM:=br a8 dI;clear a8 dH e7 fa fc fd fe ff fh;refine aL (bP aa (ae aa) rfl rfl cu lp rfl az) trivial rfl (λnC a9=>?_);have dJ:=aZ a9 cu;simp only [pS,Value.cells,Nat.reduceAdd,aV,aW,bn,bU,bK,cp,cq,eM,eH,dS,dT]at dJ;have cw:=aw a9 fj ah;have kN:=aw a9 fk ah;have kO:=aw a9 fl ah;have kP:=aw a9 fm ah;have kQ:=aw a9 fo ah;have kR:=aw a9 fp ah;have kS:=RestR.aw a9 fq ej;have kT:=bI.aw a9 fs cu rfl;have ft:=aX a9 kM;clear a9 cu fj fk fl fm fo fp fq fs;refine bq (aC (ae (ag dE))) (aC aa) ?_;clear dE;intro nD fz dK;refine ao<|au<|at_<|ar (aI iv rfl dK) rfl<|ar (ax (aH w9 rfl dJ aa az) iF) rfl ?_
 refine ar (aB aa) rfl<|bJ (ae (ag fz)) (ae (ag dK)) aa ?_;clear fz dK;intro nE dL fA fB
 refine ao<|au<|bV<|au<|au<|at_<|ar (al dL) rfl<|ar (bH aa) rfl<|ar (aI eJ rfl aa) rfl<|ar (ax (aH w9 rfl cw aa az) iF) rfl ?_
 refine ar (fb aa ay) rfl<|ar (al aa) rfl<|bQ aa (λcx dM=>?_) (λcx dM=>?_)
 ·(rw [hk]at dM;simp at dM;done)
 refine aF ⟨_,rfl,.inl cx⟩ rfl ?_;refine aF ⟨_,rfl,.inl (ae cx)⟩ rfl ?_;refine ar (bG (ag cx) ay) rfl<|ar (aB aa) rfl<|bp (ag (aA dL)) (ag (aA fA)) (ag (aA fB)) aa ?_;clear cx dL fA fB;intro nG dO fC dR fD
 refine ao<|hU fD<|at_<|ar (al dO) rfl<|ar (bH aa) rfl<|ar (aI eJ rfl aa) rfl<|ar (ax (aH w9 rfl cw aa az) iF) rfl ?_
 refine ar (eD aa ay) rfl<|ar (al aa) rfl<|bQ aa (λcz cA=>?_) (λcz cA=>?_)
 ·replace cA:=di cA;refine aG (al (ag (aj dR))) ⟨_,rfl,cz⟩ rfl ?_;refine aG (eD aa ay) ⟨_,rfl,(ae cz)⟩ rfl ?_;refine ar (bD (ag cz) aa) rfl<|ar (al aa) rfl<|bQ aa (λcC cD=>?_) (λcC cD=>?_)
  ·(simp only [toList_data]at cD;exact absurd cD aD)
  replace cD:=dm cD;refine aF ⟨_,rfl,.inl cC⟩ rfl ?_;refine aF ⟨_,rfl,.inl (ae cC)⟩ rfl ?_;refine ar (bG (ag cC) ay) rfl<|ar (al aa) rfl<|aF ⟨_,rfl,.inl aa⟩ rfl ?_
  refine aF ⟨_,rfl,.inl (ae aa)⟩ rfl ?_;refine ar (bG (ag aa) ay) rfl<|ar (aB aa) rfl<|bp (ag (aJ dO)) (ag (aJ fC)) (ag (aJ dR)) aa ?_;clear cz cC dO fD fC dR;intro nH db fE dW fG
  refine ao<|hU fG<|au<|at_<|ar (al db) rfl<|ar (bH aa) rfl<|ar (aI eJ rfl aa) rfl<|ar (ax (aH w9 rfl cw aa az) iF) rfl ?_
  refine ar (eD aa ay) rfl<|ar (al aa) rfl<|bQ aa (λb1 cE=>?_) (λb1 cE=>?_)
  ·replace cE:=di cE;refine aG (al (ag (aj db))) ⟨_,rfl,b1⟩ rfl ?_;refine aG (al (ae (ag (aj dW)))) ⟨_,rfl,(ae b1)⟩ rfl ?_;refine dt (zi (last:=⟨bZ,c0⟩) ft cw bZ ho) (aE (ae aa) (aE aa aM)) rS ⟨_,rfl,(ag b1)⟩ rfl (λnI b2 kU=>?_) (λ_ _ h=>h.elim);obtain⟨rfl,be⟩:=kU;have b6:=be.at_ dJ dQ;have b9:=be.at_ cw dQ;have cb:=be.at_ kN dQ;have cc:=be.at_ kO dQ;have cd:=be.at_ kP dQ;have dc:=be.at_ kQ dQ;have ce:=be.at_ kR dQ;have dd:=kS.trans be AU;have dX:=kT.all be (λq_ h1_ h2_ h_=>h_.elim);obtain⟨bL,bW,nK⟩:=be.len_ ft;refine aG (c8 aa) ⟨_,rfl,(ae (ag b1))⟩ rfl ?_;refine ar (bD (aj b1) aa) rfl<|ar (aB aa) rfl<|bp (aj (aA db)) (aj (aA fE)) (aj (aA dW)) aa ?_;clear b1 db fG fE dW;intro fH ba nL bN kV
   refine ao<|bj kV (λde=>?_) (λde=>?_)
   ·cases de
   replace de:=dm de;refine bC<|cK<|ao<|au<|gl (λe mem=>(ak e (.tmp 0)=ak fH (.tmp 0))/\(ak e (.tmp 3)=ak fH (.tmp 3))/\(mem[da]? =b2[da]?)/\(mem[b]? =b2[b]?)/\(mem[H.jJ]? =b2[H.jJ]?)/\(mem[H.jB]? =b2[H.jB]?)/\(mem[H.jS]? =b2[H.jS]?)/\(mem[0]? =b2[0]?)/\(∃ n,mem.length=n/\bL<=n)/\(∃ hs2:HL,mem[H.jM]? =some (.mp (fi hs2))/\bI mem hs2 (fg bZ st.cnt st.ks st.cs).2 hs2.length/\hs2.map (·.1)=(fg bZ st.cnt st.ks st.cs).1/\(∀ q,q<hs2.length->lo<=hN hs2 q)/\bM M0 mem (KR H b))) ?_ ?_
   ·
    have fI:=b6;have fJ:=b9;have fK:=cb;have fL:=cc;have fO:=cd;have fP:=ce;refine(Classical.em (∃ q0,q0<H.hs.length/\hK H.hs q0=bZ)).elim (λdY=>?_) (λdY=>?_)
    ·obtain⟨q0,hq0,hqk⟩:=dY;have hql:=hlt q0 hq0 ah;obtain⟨y1,y2,y3,y4,y5⟩:=hnf q0 hq0;have hcq:=hc q0;have y6:=z6 q0 hq0;obtain⟨fQ,fR⟩:=dX.take hq0;refine fZ 17 1 bW ai ai ai ai (λkW af=>?_);have fT:=bz af b6;have cH:=bz af b9;have fV:=bz af cb;have fW:=bz af cc;have fX:=bz af cd;have dZ:=bz af dc;have fY:=bz af ce;have f0:=RestR.bz af dd;have gb:=bI.bz af fR;have gc:=bz af fQ;have df:kW[bL]? =_:=fS af bW 0 rfl rfl;have kX:_=bL+1:=ga (K:=1) af bW;clear af b6 b9 cb cc cd dc ce dd fR fQ bW;refine aR (λM_ hM_=>(al ba)) trivial ?_;refine aR (λM_ hM_=>(bH aa)) trivial ?_;refine aR (λM_ hM_=>(aI iw rfl aa)) trivial ?_;refine cG (b) (λM_ hM_=>(ax (aH v7 rfl (cn hM_ cH aN) aa az) iF)) trivial trivial ?_;refine aR (λM_ hM_=>(al (aj bN))) trivial ?_;refine aR (λM_ hM_=>(al (ae (aj ba)))) trivial ?_;refine aR (λM_ hM_=>(bH aa)) trivial ?_;refine aR (λM_ hM_=>(aI iw rfl aa)) trivial ?_;refine cG (b) (λM_ hM_=>(ax (aH v7 rfl (cn hM_ cH aN) aa az) iF)) trivial trivial ?_;refine aR (λM_ hM_=>(al (ae (aA bN)))) trivial ?_;refine cG (H.jM) (λM_ hM_=>(tj iI iJ (cn hM_ dZ aN) (ae aa) aa (show(fi H.hs)[q0]? =some (bZ,.own (hN H.hs q0))by rw [lP hq0,hqk]) hF.ov)) trivial trivial ?_;refine aR (λM_ hM_=>(al (ae (ag (aA ba))))) trivial ?_;refine aR (λM_ hM_=>(bH aa)) trivial ?_;refine aR (λM_ hM_=>(aI ji rfl aa)) trivial ?_;refine cG (b) (λM_ hM_=>(ax (aH AI rfl (cn hM_ cH aN) aa az) iF)) trivial trivial ?_;refine aR (λM_ hM_=>(ez vZ (bB aa b8) rfl rfl rfl rfl)) trivial ?_;refine pf (bL) ((hN H.hs q0)) (λM_ hM_=>(nJ vZ rfl (cn hM_ gc aN) (ae (aj aa)) aa eL dP)) trivial df rfl trivial ⟨.inl bo,⟨.inl bo,⟨.inl bo,⟨.inl bo,trivial⟩⟩⟩⟩ ⟨.inl bo,⟨.inl bo,⟨.inl bo,⟨.inl bo,trivial⟩⟩⟩⟩ (λnM an=>?_);have ea:=po an df;simp only [pS,Value.cells,Nat.reduceAdd,aV,aW,bn,bU,bK,cp,cq,eM,eH,dS,dT]at ea;have gd:=cL an fT ah ah;have ge:=cL an cH ah ah;have gf:=cL an fV ah ah;have gg:=cL an fW ah ah;have gh:=cL an fX ah ah;have dg:=cL an dZ ah ah;have gi:=cL an fY ah ah;have gj:=RestR.cL an f0 xh ej;have gk:=bI.xB ah an gb df rfl;have kY:=o4 an kX;clear an fT cH fV fW fX dZ fY f0 gb gc df;refine gn rfl ?_;refine aL (wI iI iJ dg (ae (aj (aA aa))) (aj (aA aa)) aa (show(fi H.hs)[q0]? =some (bZ,.own (hN H.hs q0))by rw [lP hq0,hqk]) hF.ov) trivial rfl (λnN ap=>?_);have gm:=aZ ap dg;simp only [pS,Value.cells,Nat.reduceAdd,aV,aW,bn,bU,bK,cp,cq,eM,eH,dS,dT]at gm;have k0:=aw ap ea ah;have k2:=aw ap gd ah;have k4:=aw ap ge ah;have k5:=aw ap gf ah;have k6:=aw ap gg ah;have k7:=aw ap gh ah;have k8:=aw ap gi ah;have lb:=RestR.aw ap gj gR;have lc:=bI.aw ap gk dg rfl;have ld:=aX ap kY;clear ap ea gd ge gf gg gh dg gi gj gk;refine bq (aC (ae (aJ ba))) (aC (ae (aJ bN))) ?_;intro nO lf li;refine ao ⟨(lf).trans (ba).symm,(li).trans (bN).symm,k2.trans fI.symm,k4.trans fJ.symm,k5.trans fK.symm,k6.trans fL.symm,k7.trans fO.symm,k8.trans fP.symm,⟨_,ld,ah⟩,?_⟩
     (have hadd:=tr (c:=st.cnt) H.hs st.cs q0 hF.len hq0 hqk (λp hp e=>absurd (hF.key p q0 ah hq0 (e.trans hqk.symm)) ah);rw [hR.keys]at hadd;rw [hadd];exact⟨_,gm,lc.put hq0 hqk k0 (λq hq=>oU),(vW hq0 hqk).trans hR.keys,(λq hq=>by rw [XU]at hq;rw [qB hq0];split<;>first|exact hlo.2.2.2.2.2 q hq|(show lo<=bL;omega)),lb⟩)
    ·have hqm:=xE dY;refine fZ 17 1 bW ai ai ai ai (λlj av=>?_);have gp:=bz av b6;have cI:=bz av b9;have gq:=bz av cb;have gr:=bz av cc;have gt:=bz av cd;have ec:=bz av dc;have gx:=bz av ce;have gy:=RestR.bz av dd;have gz:=bI.bz av dX;have dj:lj[bL]? =_:=fS av bW 0 rfl rfl;have lk:_=bL+1:=ga (K:=1) av bW;clear av b6 b9 cb cc cd dc ce dd dX bW;refine aR (λM_ hM_=>(al ba)) trivial ?_;refine aR (λM_ hM_=>(bH aa)) trivial ?_;refine aR (λM_ hM_=>(aI iw rfl aa)) trivial ?_;refine cG (b) (λM_ hM_=>(ax (aH v7 rfl (cn hM_ cI aN) aa az) iF)) trivial trivial ?_;refine aR (λM_ hM_=>(al (aj bN))) trivial ?_;refine aR (λM_ hM_=>(al (ae (aj ba)))) trivial ?_;refine aR (λM_ hM_=>(bH aa)) trivial ?_;refine aR (λM_ hM_=>(aI iw rfl aa)) trivial ?_;refine cG (b) (λM_ hM_=>(ax (aH v7 rfl (cn hM_ cI aN) aa az) iF)) trivial trivial ?_;refine aR (λM_ hM_=>(al (ae (aA bN)))) trivial ?_;refine cG (H.jM) (λM_ hM_=>(vC iI iJ wZ (cn hM_ ec aN) (ae aa) aa (oL hqm))) trivial trivial ?_;refine aR (λM_ hM_=>(al (ae (ag (aA ba))))) trivial ?_;refine aR (λM_ hM_=>(bH aa)) trivial ?_;refine aR (λM_ hM_=>(aI ji rfl aa)) trivial ?_;refine cG (b) (λM_ hM_=>(ax (aH AI rfl (cn hM_ cI aN) aa az) iF)) trivial trivial ?_;refine aR (λM_ hM_=>(ez vZ (bB aa b8) rfl rfl rfl rfl)) trivial ?_;refine kL (bL) (λM_ hM_=>(wy vZ rfl (ae (aj aa)) aa eL dP)) trivial dj rfl trivial ⟨.inl bo,⟨.inl bo,⟨.inl bo,⟨.inl bo,trivial⟩⟩⟩⟩ (λnP aO=>?_);have ed:=aZ aO dj;simp only [pS,Value.cells,Nat.reduceAdd,aV,aW,bn,bU,bK,cp,cq,eM,eH,dS,dT]at ed;have gA:=aw aO gp ah;have gB:=aw aO cI ah;have gC:=aw aO gq ah;have gD:=aw aO gr ah;have gE:=aw aO gt ah;have dk:=aw aO ec ah;have gF:=aw aO gx ah;have gG:=RestR.aw aO gy ej;have gH:=bI.aw aO gz dj rfl;have ln:=aX aO lk;clear aO gp cI gq gr gt ec gx gy gz dj;refine gn rfl ?_;refine aL (wJ iI iJ dk (ae (aj (aA aa))) (aj (aA aa)) aa (oL hqm)) trivial rfl (λnQ aP=>?_);have gI:=aZ aP dk;simp only [pS,Value.cells,Nat.reduceAdd,aV,aW,bn,bU,bK,cp,cq,eM,eH,dS,dT]at gI;have lq:=aw aP ed ah;have lr:=aw aP gA ah;have lu:=aw aP gB ah;have lv:=aw aP gC ah;have lw:=aw aP gD ah;have lx:=aw aP gE ah;have ly:=aw aP gF ah;have lz:=RestR.aw aP gG gR;have lA:=bI.aw aP gH dk rfl;have lB:=aX aP ln;clear aP ed gA gB gC gD gE dk gF gG gH;refine bq (aC (ae (aJ ba))) (aC (ae (aJ bN))) ?_;intro nS lC lD;refine ao ⟨(lC).trans (ba).symm,(lD).trans (bN).symm,lr.trans fI.symm,lu.trans fJ.symm,lv.trans fK.symm,lw.trans fL.symm,lx.trans fO.symm,ly.trans fP.symm,⟨_,lB,ah⟩,?_⟩
     (have hadd:=s7 (k:=bZ) (c:=st.cnt) H.hs st.cs hF.len hqm;rw [hR.keys]at hadd;rw [hadd];exact⟨_,gI,lA.more hqm lq (λq hq=>oU),xi,(λq hq=>by rw [qC];split<;>first|exact hlo.2.2.2.2.2 q (by assumption)|(rw [if_pos (by simp at hq;omega)];show lo<=bL;omega)),lz⟩)
   ·rintro nT nU ⟨lE,lF,lG,lH,lI,lK,lL,lM,⟨ef,eg,nV⟩,⟨hs2,moM2,hF2,hks2,hlo2,hR2⟩⟩;have gL:=lE.trans ba;have eh:=lF.trans bN;have gM:=lG.trans b6;have gN:=lH.trans b9;have gO:=lI.trans cb;have gP:=lK.trans cc;have gQ:=lL.trans cd;have gS:=lM.trans ce;refine au<|au<|at_<|ar (al eh) rfl<|bJ (ae gL) (ae eh) aa ?_;clear gL eh;intro nW gT gU ei
    refine ao<|bV<|au<|at_<|ar (fb ei ay) rfl<|ar (aB aa) rfl<|bp (ag gT) (ag gU) (ag ei) aa ?_;clear gT gU ei;intro nX gV gW ek gY
    refine ao<|bj gY (λen=>?_) (λen=>?_)
    ·(simp only [toList_data]at en;exact absurd en aD)
    refine au<|at_<|ar (fb ek ay) rfl<|ar (aB aa) rfl<|bp (ag gV) (ag gW) (ag ek) aa ?_;clear gV gY gW ek;intro nY gZ g0 lN g1
    refine ao<|bj g1 (λeo=>?_) (λeo=>?_)
    ·skip;refine au<|at_<|aL (cy sr rfl eg) trivial rfl (λcf aQ=>?_)
     have g2:=bu aQ eg;simp only [pS,Value.cells,Nat.reduceAdd,aV,aW,bn,bU,bK,cp,cq,eM,eH,dS,dT]at g2;have cJ:=aK aQ gM;have lO:=aK aQ gN;have cM:=aK aQ gO;have cO:=aK aQ gP;have cQ:=aK aQ gQ;have cT:=aK aQ gS;have cW:=aK aQ moM2;have lQ:=bI.aK aQ hF2;have lR:=RestR.aK aQ hR2;have lS:=br aQ eg;clear aQ gM gN gO gP gQ gS moM2 hF2 hR2;refine bJ (ae gZ) (ae g0) aa ?_;clear gZ g1 g0 lN;intro nZ g3 g4 cg;refine ao<|au<|au<|at_<|ar (aI iu rfl cg) rfl<|ar (aI tI rfl (ae cg)) rfl<|ar (aI fU rfl (ag cg)) rfl<|ar (aI fx rfl aa) rfl<|ar (aI fU rfl (aj cg)) rfl<|ar (aI fy rfl aa) rfl<|ar (yU (bB (ae (aj aa)) (bB (aj aa) (bB (ag aa) (bB aa b8)))) OG OH OI rfl) rfl ?_
     refine ar (al ay) rfl<|bR (aA g3) (aA g4) (aA cg) (ae aa) aa ?_;clear g3 g4 cg;intro dl cX cY cZ c6 lT
     refine ao<|bV<|eu (S:=Nat) (λi e mem=>(ak e (.tmp 134)= .v (.int .i64 (i:Int)))/\(ak e (.tmp 0)=ak dl (.tmp 0))/\(ak e (.tmp 3)=ak dl (.tmp 3))/\(ak e (.tmp 4)=ak dl (.tmp 4))/\(ak e (.tmp 133)=ak dl (.tmp 133))/\(mem[ef]? =some (.box 59 (eH (eG (cN ws)) (eG (cN ws.tail)) (eG (cN ws.tail.tail)) (eG (cN ws.tail.tail.tail)) i)))/\(mem[b]? =some (.box 77 (aV st.nam (.own H.jJ) (.own H.jB) (.own H.jS) (.own H.jM) st.cnt (dS ws i) (dT ⟨bZ,c0⟩ ws i) st.kind)))/\(mem[da]? =cf[da]?)/\(mem[H.jJ]? =cf[H.jJ]?)/\(mem[H.jB]? =cf[H.jB]?)/\(mem[H.jS]? =cf[H.jS]?)/\(mem[0]? =cf[0]?)/\(mem[H.jM]? =cf[H.jM]?)/\(∃ n,mem.length=n/\ef+1<=n)/\((i<=4/\jH (dT ⟨bZ,c0⟩ ws i) (dS ws i)/\fu [1,1,1,1] ⟨bZ,c0⟩ ws=fu (WR i) (dT ⟨bZ,c0⟩ ws i) (dS ws i)/\bI mem hs2 (fg bZ st.cnt st.ks st.cs).2 hs2.length/\bM M0 mem (KR H b)))) (λi=>(4 - i)) 0 ⟨lT,rfl,rfl,rfl,rfl,g2,lO,rfl,rfl,rfl,rfl,rfl,rfl,⟨_,lS,Xf _⟩,?_⟩ ?_
     ·(exact⟨ah,hW,rfl,lQ,lR⟩)
     ·rintro i n1 n2 ⟨ab,lU,lV,lW,lX,bb,ad,lY,lZ,l1,l3,l4,l5,⟨c7,aS,n5⟩,hinv⟩;have bg:=lU.trans cX;have bh:=lV.trans cY;have bk:=lW.trans cZ;have bm:=lX.trans c6;have ci:=lY.trans cJ;have cj:=lZ.trans cM;have ck:=l1.trans cO;have cm:=l3.trans cQ;have bv:=l4.trans cT;have co:=l5.trans cW
      (obtain⟨ii,hW3,hfm,hF3,hR3⟩:=hinv)
      have l7:i=0\/i=1\/i=2\/i=3\/i=4:=by omega
      rcases l7 with rfl|rfl|rfl|rfl|rfl
      ·
       simp only [pS,Value.cells,Nat.reduceAdd,aV,aW,bn,bU,bK,cp,cq,eM,eH,dS,dT]at bb;simp only [pS,Value.cells,Nat.reduceAdd,aV,aW,bn,bU,bK,cp,cq,eM,eH,dS,dT]at ad;refine au<|at_<|ar (cU ab ay) rfl<|dh (ae bg) (ae bh) (ae bk) (ae bm) (ae ab) aa ?_;clear bg bm ab bh bk;intro n6 g5 g6 g7 ep ev g8
       refine ao<|au<|bj g8 (λdn=>?_) (λdn=>?_)
       ·replace dn:=bt dn;refine bC<|ao<|au<|bV<|au<|at_<|ar (vD vq ep ev rfl rfl) rfl<|ar (aB aa) rfl<|dh (ag g5) (ag g6) (ag g7) aa (ag ep) (ag ev) ?_;clear g5 ep ev g8 g6 g7;intro n7 ew g9 hh hv hC hD
        refine ao<|at_<|ar (al hv) rfl<|ar (al (ae ew)) rfl<|dt (nu (last:=dT ⟨bZ,c0⟩ ws 0) (ws:=dS ws 0) aS hes her bv ad hW3 true) (aE aa (aE ay aM)) nF trivial rfl (λn8 n9 eB=>?_) (λoa ob eB=>?_)
        rotate_left
        ·
         repeat (first|refine eA ?_|refine gJ ?_)
         (rcases eB with⟨ha_,rfl,hz_⟩;exact⟨_,rfl,_,_,ha_,mP xj ha_,rfl,hR3.trans hz_ kE⟩)
        obtain⟨hn1,rfl,bw,eC⟩:=eB;have dp:=bw.at_ bb cr;simp only [pS,Value.cells,Nat.reduceAdd,aV,aW,bn,bU,bK,cp,cq,eM,eH,dS,dT]at eC;have hE:=bw.at_ ci cr;have hG:=bw.at_ cj cr;have hH:=bw.at_ ck cr;have hI:=bw.at_ cm cr;have hO:=bw.at_ bv cr;have hP:=bw.at_ co cr;have hQ:=hF3.all bw (λq_ h1_ h2_ h_=>hF3.miss ad rfl q_ h1_ h2_ h_);have hV:=hR3.trans bw lh;obtain⟨oc,l8,od⟩:=bw.len_ aS;refine ar (bH (ag aa)) rfl<|aL (bP aa (ae aa) rfl rfl dp iK rfl az) trivial rfl (λoe aT=>?_)
        have hY:=aZ aT dp;simp only [pS,Value.cells,Nat.reduceAdd,aV,aW,bn,bU,bK,cp,cq,eM,eH,dS,dT]at hY;have l9:=aw aT eC ah;have ma:=aw aT hE ah;have mb:=aw aT hG ah;have mc:=aw aT hH ah;have md:=aw aT hI ah;have me:=aw aT hO ah;have mf:=aw aT hP ah;have mh:=bI.aw aT hQ dp rfl;have mi:=RestR.aw aT hV ej;have mj:=aX aT l8;clear aT dp eC hE hG hH hI hO hP hQ hV;refine bR (aC (aj ew)) (aC (aj g9)) (aC (aj hh)) (aC (aj hC)) (aC (aj hD)) ?_;clear ew hC hD g9 hh hv;intro og hZ h6 h7 h8 h9;refine cK<|ao<|at_ ?_
        (refine ar (cv h9 ay ?_) rfl ?_; · (unfold In64;omega))
        refine ar (al aa) rfl<|bR (ag hZ) (ag h6) (ag h7) (ag h8) aa ?_;clear hZ h8 h9 h6 h7;intro oh ml mm mo mq mr
        refine ao<|⟨0+1,⟨mr,(ml.trans cX.symm),(mm.trans cY.symm),(mo.trans cZ.symm),(mq.trans c6.symm),hY,l9,(ma.trans cJ.symm),(mb.trans cM.symm),(mc.trans cO.symm),(md.trans cQ.symm),(me.trans cT.symm),(mf.trans cW.symm),⟨_,mj,ah⟩,?_⟩,?_⟩
        ·(exact⟨ah,hW3.tail (lJ hn1),hfm.trans (k9 hn1),mh,mi⟩)
        ·((try dsimp only);omega)
       ·cases dn
      ·
       simp only [pS,Value.cells,Nat.reduceAdd,aV,aW,bn,bU,bK,cp,cq,eM,eH,dS,dT]at bb;simp only [pS,Value.cells,Nat.reduceAdd,aV,aW,bn,bU,bK,cp,cq,eM,eH,dS,dT]at ad;refine au<|at_<|ar (cU ab ay) rfl<|dh (ae bg) (ae bh) (ae bk) (ae bm) (ae ab) aa ?_;clear bg bm ab bh bk;intro oj ia ib ic eE eF ie
       refine ao<|au<|bj ie (λdq=>?_) (λdq=>?_)
       ·replace dq:=bt dq;refine bC<|ao<|au<|bV<|au<|at_<|ar (vD vq eE eF rfl rfl) rfl<|ar (aB aa) rfl<|dh (ag ia) (ag ib) (ag ic) aa (ag eE) (ag eF) ?_;clear ia eE eF ie ib ic;intro ol eK ig ih ij ik il
        refine ao<|at_<|ar (al ij) rfl<|ar (al (ae eK)) rfl<|dt (nu (last:=dT ⟨bZ,c0⟩ ws 1) (ws:=dS ws 1) aS hes her bv ad hW3 true) (aE aa (aE ay aM)) nF trivial rfl (λom oo eN=>?_) (λoq ot eN=>?_)
        rotate_left
        ·
         repeat (first|refine eA ?_|refine gJ ?_)
         (rcases eN with⟨ha_,rfl,hz_⟩;exact⟨_,rfl,_,_,ha_,mP xj ha_,rfl,hR3.trans hz_ kE⟩)
        obtain⟨hn1,rfl,bx,eO⟩:=eN;have dr:=bx.at_ bb cr;simp only [pS,Value.cells,Nat.reduceAdd,aV,aW,bn,bU,bK,cp,cq,eM,eH,dS,dT]at eO;have im:=bx.at_ ci cr;have io:=bx.at_ cj cr;have ip:=bx.at_ ck cr;have iq:=bx.at_ cm cr;have ir:=bx.at_ bv cr;have ix:=bx.at_ co cr;have iz:=hF3.all bx (λq_ h1_ h2_ h_=>hF3.miss ad rfl q_ h1_ h2_ h_);have iA:=hR3.trans bx lh;obtain⟨ou,mu,ow⟩:=bx.len_ aS;refine ar (bH (ag aa)) rfl<|aL (bP aa (ae aa) rfl rfl dr iK rfl az) trivial rfl (λox aY=>?_)
        have iB:=aZ aY dr;simp only [pS,Value.cells,Nat.reduceAdd,aV,aW,bn,bU,bK,cp,cq,eM,eH,dS,dT]at iB;have mv:=aw aY eO ah;have mw:=aw aY im ah;have mx:=aw aY io ah;have my:=aw aY ip ah;have mz:=aw aY iq ah;have mA:=aw aY ir ah;have mB:=aw aY ix ah;have mC:=bI.aw aY iz dr rfl;have mD:=RestR.aw aY iA ej;have mE:=aX aY mu;clear aY dr eO im io ip iq ir ix iz iA;refine bR (aC (aj eK)) (aC (aj ig)) (aC (aj ih)) (aC (aj ik)) (aC (aj il)) ?_;clear eK ik il ig ih ij;intro oy iG iH iL iM iN;refine cK<|ao<|at_ ?_
        (refine ar (cv iN ay ?_) rfl ?_; · (unfold In64;omega))
        refine ar (al aa) rfl<|bR (ag iG) (ag iH) (ag iL) (ag iM) aa ?_;clear iG iM iN iH iL;intro oz mF mG mH mI mJ
        refine ao<|⟨1+1,⟨mJ,(mF.trans cX.symm),(mG.trans cY.symm),(mH.trans cZ.symm),(mI.trans c6.symm),iB,mv,(mw.trans cJ.symm),(mx.trans cM.symm),(my.trans cO.symm),(mz.trans cQ.symm),(mA.trans cT.symm),(mB.trans cW.symm),⟨_,mE,ah⟩,?_⟩,?_⟩
        ·(exact⟨ah,hW3.tail (lJ hn1),hfm.trans (k9 hn1),mC,mD⟩)
        ·((try dsimp only);omega)
       ·cases dq
      ·
       simp only [pS,Value.cells,Nat.reduceAdd,aV,aW,bn,bU,bK,cp,cq,eM,eH,dS,dT]at bb;simp only [pS,Value.cells,Nat.reduceAdd,aV,aW,bn,bU,bK,cp,cq,eM,eH,dS,dT]at ad;refine au<|at_<|ar (cU ab ay) rfl<|dh (ae bg) (ae bh) (ae bk) (ae bm) (ae ab) aa ?_;clear bg bm ab bh bk;intro oA iO iP iQ eP eQ iR
       refine ao<|au<|bj iR (λdu=>?_) (λdu=>?_)
       ·replace du:=bt du;refine bC<|ao<|au<|bV<|au<|at_<|ar (vD vq eP eQ rfl rfl) rfl<|ar (aB aa) rfl<|dh (ag iO) (ag iP) (ag iQ) aa (ag eP) (ag eQ) ?_;clear iO eP eQ iR iP iQ;intro oB eR iS iT iU iV iW
        refine ao<|at_<|ar (al iU) rfl<|ar (al (ae eR)) rfl<|dt (nu (last:=dT ⟨bZ,c0⟩ ws 2) (ws:=dS ws 2) aS hes her bv ad hW3 true) (aE aa (aE ay aM)) nF trivial rfl (λoC oD eS=>?_) (λoE oF eS=>?_)
        rotate_left
        ·
         repeat (first|refine eA ?_|refine gJ ?_)
         (rcases eS with⟨ha_,rfl,hz_⟩;exact⟨_,rfl,_,_,ha_,mP xj ha_,rfl,hR3.trans hz_ kE⟩)
        obtain⟨hn1,rfl,bA,eT⟩:=eS;have dv:=bA.at_ bb cr;simp only [pS,Value.cells,Nat.reduceAdd,aV,aW,bn,bU,bK,cp,cq,eM,eH,dS,dT]at eT;have iX:=bA.at_ ci cr;have iZ:=bA.at_ cj cr;have i6:=bA.at_ ck cr;have i7:=bA.at_ cm cr;have i8:=bA.at_ bv cr;have ja:=bA.at_ co cr;have jb:=hF3.all bA (λq_ h1_ h2_ h_=>hF3.miss ad rfl q_ h1_ h2_ h_);have jc:=hR3.trans bA lh;obtain⟨oG,mK,oH⟩:=bA.len_ aS;refine ar (bH (ag aa)) rfl<|aL (bP aa (ae aa) rfl rfl dv iK rfl az) trivial rfl (λoI a2=>?_)
        have je:=aZ a2 dv;simp only [pS,Value.cells,Nat.reduceAdd,aV,aW,bn,bU,bK,cp,cq,eM,eH,dS,dT]at je;have mL:=aw a2 eT ah;have mM:=aw a2 iX ah;have mN:=aw a2 iZ ah;have mO:=aw a2 i6 ah;have mQ:=aw a2 i7 ah;have mR:=aw a2 i8 ah;have mS:=aw a2 ja ah;have mT:=bI.aw a2 jb dv rfl;have mU:=RestR.aw a2 jc ej;have mV:=aX a2 mK;clear a2 dv eT iX iZ i6 i7 i8 ja jb jc;refine bR (aC (aj eR)) (aC (aj iS)) (aC (aj iT)) (aC (aj iV)) (aC (aj iW)) ?_;clear eR iV iW iS iT iU;intro oJ jf jg jh jj jk;refine cK<|ao<|at_ ?_
        (refine ar (cv jk ay ?_) rfl ?_; · (unfold In64;omega))
        refine ar (al aa) rfl<|bR (ag jf) (ag jg) (ag jh) (ag jj) aa ?_;clear jf jj jk jg jh;intro oK mW mX mY mZ m0
        refine ao<|⟨2+1,⟨m0,(mW.trans cX.symm),(mX.trans cY.symm),(mY.trans cZ.symm),(mZ.trans c6.symm),je,mL,(mM.trans cJ.symm),(mN.trans cM.symm),(mO.trans cO.symm),(mQ.trans cQ.symm),(mR.trans cT.symm),(mS.trans cW.symm),⟨_,mV,ah⟩,?_⟩,?_⟩
        ·(exact⟨ah,hW3.tail (lJ hn1),hfm.trans (k9 hn1),mT,mU⟩)
        ·((try dsimp only);omega)
       ·cases du
      ·
       simp only [pS,Value.cells,Nat.reduceAdd,aV,aW,bn,bU,bK,cp,cq,eM,eH,dS,dT]at bb;simp only [pS,Value.cells,Nat.reduceAdd,aV,aW,bn,bU,bK,cp,cq,eM,eH,dS,dT]at ad;refine au<|at_<|ar (cU ab ay) rfl<|dh (ae bg) (ae bh) (ae bk) (ae bm) (ae ab) aa ?_;clear bg bm ab bh bk;intro oM jl jm jn eU eV jo
       refine ao<|au<|bj jo (λdw=>?_) (λdw=>?_)
       ·replace dw:=bt dw;refine bC<|ao<|au<|bV<|au<|at_<|ar (vD vq eU eV rfl rfl) rfl<|ar (aB aa) rfl<|dh (ag jl) (ag jm) (ag jn) aa (ag eU) (ag eV) ?_;clear jl eU eV jo jm jn;intro oN eW jp jq jr jt ju
        refine ao<|at_<|ar (al jr) rfl<|ar (al (ae eW)) rfl<|dt (nu (last:=dT ⟨bZ,c0⟩ ws 3) (ws:=dS ws 3) aS hes her bv ad hW3 true) (aE aa (aE ay aM)) nF trivial rfl (λoO oP eX=>?_) (λoQ oR eX=>?_)
        rotate_left
        ·
         repeat (first|refine eA ?_|refine gJ ?_)
         (rcases eX with⟨ha_,rfl,hz_⟩;exact⟨_,rfl,_,_,ha_,mP xj ha_,rfl,hR3.trans hz_ kE⟩)
        obtain⟨hn1,rfl,bE,eY⟩:=eX;have dx:=bE.at_ bb cr;simp only [pS,Value.cells,Nat.reduceAdd,aV,aW,bn,bU,bK,cp,cq,eM,eH,dS,dT]at eY;have jv:=bE.at_ ci cr;have jw:=bE.at_ cj cr;have jx:=bE.at_ ck cr;have jy:=bE.at_ cm cr;have jz:=bE.at_ bv cr;have jA:=bE.at_ co cr;have jC:=hF3.all bE (λq_ h1_ h2_ h_=>hF3.miss ad rfl q_ h1_ h2_ h_);have jD:=hR3.trans bE lh;obtain⟨oS,m1,oT⟩:=bE.len_ aS;refine ar (bH (ag aa)) rfl<|aL (bP aa (ae aa) rfl rfl dx iK rfl az) trivial rfl (λoV a3=>?_)
        have jE:=aZ a3 dx;simp only [pS,Value.cells,Nat.reduceAdd,aV,aW,bn,bU,bK,cp,cq,eM,eH,dS,dT]at jE;have m2:=aw a3 eY ah;have m3:=aw a3 jv ah;have m4:=aw a3 jw ah;have m5:=aw a3 jx ah;have m6:=aw a3 jy ah;have m7:=aw a3 jz ah;have m8:=aw a3 jA ah;have m9:=bI.aw a3 jC dx rfl;have na:=RestR.aw a3 jD ej;have nb:=aX a3 m1;clear a3 dx eY jv jw jx jy jz jA jC jD;refine bR (aC (aj eW)) (aC (aj jp)) (aC (aj jq)) (aC (aj jt)) (aC (aj ju)) ?_;clear eW jt ju jp jq jr;intro oW jF jG jI jK jN;refine cK<|ao<|at_ ?_
        (refine ar (cv jN ay ?_) rfl ?_; · (unfold In64;omega))
        refine ar (al aa) rfl<|bR (ag jF) (ag jG) (ag jI) (ag jK) aa ?_;clear jF jK jN jG jI;intro oX nc nd nf ng ni
        refine ao<|⟨3+1,⟨ni,(nc.trans cX.symm),(nd.trans cY.symm),(nf.trans cZ.symm),(ng.trans c6.symm),jE,m2,(m3.trans cJ.symm),(m4.trans cM.symm),(m5.trans cO.symm),(m6.trans cQ.symm),(m7.trans cT.symm),(m8.trans cW.symm),⟨_,nb,ah⟩,?_⟩,?_⟩
        ·(exact⟨ah,hW3.tail (lJ hn1),hfm.trans (k9 hn1),m9,na⟩)
        ·((try dsimp only);omega)
       ·cases dw
      ·
       simp only [pS,Value.cells,Nat.reduceAdd,aV,aW,bn,bU,bK,cp,cq,eM,eH,dS,dT]at bb;simp only [pS,Value.cells,Nat.reduceAdd,aV,aW,bn,bU,bK,cp,cq,eM,eH,dS,dT]at ad;refine au<|at_<|ar (cU ab ay) rfl<|dh (ae bg) (ae bh) (ae bk) (ae bm) (ae ab) aa ?_;clear bg bm ab bh bk;intro oY dy jO jT nj nk jU
       refine ao<|au<|bj jU (λdz=>?_) (λdz=>?_)
       ·cases dz
       replace dz:=bf dz;refine dV<|cB<|cB<|dU<|ao<|fZ 9 1 aS ai ai ai ai (λnl am=>?_)
       have eZ:=bz am bb;have e0:=bz am ad;have jX:=bz am ci;have e3:=bz am cj;have j0:=bz am ck;have j1:=bz am cm;have j3:=bz am bv;have j8:=bz am co;have j9:=bI.bz am hF3;have ka:=RestR.bz am hR3;have dA:nl[c7]? =_:=fS am aS 0 rfl rfl;have nm:_=c7+1:=ga (K:=1) am aS;clear am bb ad ci cj ck cm bv co hF3 hR3 aS;refine aR (λM_ hM_=>(al dy)) trivial ?_;refine aR (λM_ hM_=>(al (ae dy))) trivial ?_;refine aR (λM_ hM_=>(bH aa)) trivial ?_;refine aR (λM_ hM_=>(aI kZ rfl aa)) trivial ?_;refine aR (λM_ hM_=>(aI dN rfl aa)) trivial ?_;refine cG (b) (λM_ hM_=>(ax (aH Ro rfl (cn hM_ e0 aN) aa az) iF)) trivial trivial ?_;refine cG (ef) (λM_ hM_=>(ax (aH Rq rfl (cn hM_ eZ aN) (ag (aj jT)) az) iF)) trivial trivial ?_;refine aR (λM_ hM_=>(ez GQ (bB aa b8) rfl rfl rfl rfl)) trivial ?_;refine pf (c7) (H.jJ) (λM_ hM_=>(nJ GQ rfl (cn hM_ e3 aN) (ag aa) aa eL dP)) trivial dA rfl trivial ⟨.inl bo,⟨.inl bo,trivial⟩⟩ ⟨.inl bo,⟨.inl bo,trivial⟩⟩ (λoZ a5=>?_);have dB:=po a5 dA;simp only [pS,Value.cells,Nat.reduceAdd,aV,aW,bn,bU,bK,cp,cq,eM,eH,dS,dT]at dB;have kb:=cL a5 eZ ah ah;have dC:=cL a5 e0 ah ah;have kc:=cL a5 jX ah ah;have kd:=cL a5 j0 ah ah;have ke:=cL a5 j1 ah ah;have kf:=cL a5 j3 ah ah;have kg:=cL a5 j8 ah ah;have kh:=bI.cL a5 j9 e3 rfl dA rfl;have ki:=RestR.cL a5 ka gR ej;have nn:=o4 a5 nm;clear a5 eZ e0 jX e3 j0 j1 j3 j8 j9 ka dA;refine gn rfl ?_;refine ar (bH (aA aa)) rfl<|ar (aI kZ rfl aa) rfl<|ar (aI dN rfl aa) rfl<|aL (l6 aa (ae (ag aa)) dC dB Jt az) trivial rfl (λo0 a6=>?_)
       have b0:=aZ a6 dC;simp only [pS,Value.cells,Nat.reduceAdd,aV,aW,bn,bU,bK,cp,cq,eM,eH,dS,dT]at b0;have kj:=aw a6 dB ah;have km:=aw a6 kb ah;have kn:=aw a6 kc ah;have ko:=aw a6 kd ah;have kp:=aw a6 ke ah;have kq:=aw a6 kf ah;have kr:=aw a6 kg ah;have kt:=bI.aw a6 kh dC rfl;have e4:=RestR.aw a6 ki gR;have ku:=aX a6 nn;clear a6 dB kb dC kc kd ke kf kg kh ki;refine bq (aC (aj (aA dy))) (aC (aj (aA jO))) ?_;clear dy nj nk jU jO jT;intro o1 e5 kv;refine cK<|ao<|au<|au<|at_<|ar (al e5) rfl<|ar (bH aa) rfl<|ar (aI jL rfl aa) rfl<|ar (ax (aH GU rfl b0 aa az) iF) rfl ?_
       refine ar (ax (ca aa rfl GR.1) b7) rfl ?_;refine ar (ey aa ay) rfl<|bJ (ag (aj e5)) (ag (aj kv)) aa ?_;clear e5 kv;intro o3 dD kw kx
       refine ao<|bj kx (λc9=>?_) (λc9=>?_)
       ·replace c9:=bt c9;refine at_<|ar (al dD) rfl<|ar (al (ae dD)) rfl<|ar (bH aa) rfl<|ar (aI jL rfl aa) rfl<|ar (ax (aH GU rfl b0 aa az) iF) rfl ?_
        refine ar (ax (cP GR aa ay aD (by refine eb ?_;(simp only [cS];omega))) iF) rfl ?_;refine ar (ax (bY kB rfl aa) iF) rfl ?_;refine ar (ax (bF AI rfl aa az) iF) rfl ?_;refine dt (iC (last:=cN ws.tail.tail.tail) (ws:=ws.tail.tail.tail.tail) ku b0 _ _) (aE (ae (ag (aj aa))) (aE aa (aE ay aM))) iD trivial rfl (λ_ _ h=>h.elim) (λo5 o6 ky=>?_)
        repeat (refine eA ?_)
        exact⟨_,rfl,_,_,aD,zN (r:=ws.tail.tail.tail.tail) (by rw [pR];exact hfm) Rm (by rw [pR];exact CG _) mn,ky.1,e4.trans ky.2 kE⟩
       replace c9:=bf c9;refine bC<|ao<|at_<|ar (al dD) rfl<|ar (al (ae kw)) rfl<|ar (bH (ae aa)) rfl<|ar (aI eJ rfl aa) rfl<|aL (bP aa (ag aa) rfl rfl b0 qP rfl az) trivial rfl (λo7 a7=>?_)
       have kz:=aZ a7 b0;simp only [pS,Value.cells,Nat.reduceAdd,aV,aW,bn,bU,bK,cp,cq,eM,eH,dS,dT]at kz;have np:=aw a7 kj ah;have o8:=aw a7 km ah;have o9:=aw a7 kn ah;have nq:=aw a7 ko ah;have nr:=aw a7 kp ah;have pa:=aw a7 kq ah;have nt:=aw a7 kr ah;have nv:=bI.aw a7 kt b0 rfl;have nw:=RestR.aw a7 e4 gR;have pc:=aX a7 ku;clear a7 b0 kj km kn ko kp kq kr kt e4;refine nh ?_;clear dD kx kw;intro pd;refine⟨_,nR ai,?_⟩
       (have ht:ws.tail.tail.tail.tail= []:=Yy.1 mn;have mb_:=kz;rw [ht]at mb_;refine⟨rP (r:=ws.tail.tail.tail.tail) (by rw [pR];exact hfm) (by rw [pR];exact CG _) (by rw [ht];rfl),rfl,⟨H.jM,c7,H.jB,H.jS,hs2⟩,⟨mb_,np,nq,nr,nt,nv,hks2,⟨hlo.1,hlo.2.1,by show lo<=c7;omega,by show lo<=H.jB;omega,by show lo<=H.jS;omega,hlo2⟩⟩,nw⟩)
    ·(simp only [toList_data]at eo;exact absurd eo aD)
  ·(rw [hk]at cE;simp at cE;done)
 ·(rw [hk]at cA;simp at cA;done)
def wB(af:Array Edge)(k:Nat):Bool:=af.toList.any λe=>e.on==k&&Region.binds .any e
theorem pC{af:Array Edge}{k:Nat}{m:Nat->Bool}(h:wB af k=true)(hed:∀ ed∈af,Region.binds .any ed=true->m ed.on=true):m k=true:=by
 unfold wB at h;rw [X5]at h;obtain⟨ed,he,hk⟩:=h;simp only [Xg,beq_iff_eq]at hk;rw [<- hk.1];exact hed ed oS hk.2
def pH(φ:Prop)(mem:List Ob)(b q:Nat)(ob' row:Ob)(m:Nat->Bool)(s:Nat)(M:List Ob):Prop:=
 (m 3=false->M=mem)/\(m 3=true->φ/\ ∃ M1,bM mem M1 (λi=>i=b)/\M1[b]? =some ob'/\(m 5=false->M=M1)/\(m 5=true->s=M1.length/\M=M1.set q .gone ++ [row]))
theorem pH.other{φ:Prop}{mem:List Ob}{b q:Nat}{ob' row:Ob}{m:Nat->Bool}{s:Nat}{M:List Ob}(h:pH φ mem b q ob' row m s M){i:Nat}(h3:3≠i)(h5:5≠i):pH φ mem b q ob' row (λj=>j==i||m j) s M:=by
 have e3:((3==i)||m 3)=m 3:=by rw [beq_eq_false_iff_ne.2 h3];rfl
 have e5:((5==i)||m 5)=m 5:=by rw [beq_eq_false_iff_ne.2 h5];rfl
 unfold pH;simp only [e3,e5];exact h
theorem pH.box{φ:Prop}{mem:List Ob}{b q j:Nat}{ob' row o:Ob}{m:Nat->Bool}{s:Nat}{M:List Ob}(h:pH φ mem b q ob' row m s M)(h53:m 5=true->m 3=true)(hj:mem[j]? =some o)(hjb:j≠b)(hjq:j≠q):M[j]? =some o:=by
 have hlt:=(Xe.1 hj).1;cases h3:m 3 with
 | false=>rw [h.1 h3];exact hj
 | true=>
  obtain⟨-,M1,hk,hb',h1,h2⟩:=h.2 h3;have:=hk.at_ hj hjb;cases h5:m 5 with
  | false=>rw [h1 h5];exact this
  | true=>
   have hle:=hk.len;rw [(h2 h5).2,Xj cJ,Xm (λe=>hjq e.symm)];exact this
theorem xF:cj Tryz.prog 97 2 2 false 1:=by unfold cj;kernel_rfl
theorem xa:bO Tryz.prog 85 3 1 8 (.int .i64 0):=⟨ai,ai,ai⟩
theorem It:aQ Tryz.prog 85 false 1:=⟨ai,ai⟩
theorem Wq{M:Mode}{N n:Nat}{Q:AQ}{e:Nat->AV}{mem:List Ob}(hl:mem.length=n){id b j q:Nat}{nm fv:AV}{els:List (List AV)}{v:Int}{ob':Ob}{a0 a1 a2 a3 a4 a5 a6:Array Edge}{p0 p1 p2 p3 p4 p5 p6:String}{y0 y1 y2 y3 y4 y5 y6:TypeId}{tys:Array TypeId}{t7:Oper}
 (hm:Tryz.prog.follows .mixedOrders =true)(hd:jj [⟨some 85,.fieldAddr 97 (.tmp 9) 2,y0,p0,a0,none⟩,⟨some 86,.load 85 (.tmp 85),y1,p1,a1,none⟩,⟨some 87,.move (.tmp 0),y2,p2,a2,none⟩,⟨some 88,.call ⟨.value (.func 69),#[.tmp 87,.const (.bool true)],tys⟩,y3,p3,a3,none⟩,⟨some 89,.buildSlice 85 1 #[(0,.tmp 88)],y4,p4,a4,none⟩,⟨some 90,.call ⟨.builtin .append,#[.tmp 86,.tmp 89],#[85,85]⟩,y5,p5,a5,none⟩,⟨some 91,.fieldAddr 97 (.tmp 9) 2,y6,p6,a6,none⟩,t7]=true)(hB:fo (List.toArray [⟨some 85,.fieldAddr 97 (.tmp 9) 2,y0,p0,a0,none⟩,⟨some 86,.load 85 (.tmp 85),y1,p1,a1,none⟩,⟨some 87,.move (.tmp 0),y2,p2,a2,none⟩,⟨some 88,.call ⟨.value (.func 69),#[.tmp 87,.const (.bool true)],tys⟩,y3,p3,a3,none⟩,⟨some 89,.buildSlice 85 1 #[(0,.tmp 88)],y4,p4,a4,none⟩,⟨some 90,.call ⟨.builtin .append,#[.tmp 86,.tmp 89],#[85,85]⟩,y5,p5,a5,none⟩,⟨some 91,.fieldAddr 97 (.tmp 9) 2,y6,p6,a6,none⟩,t7]) 7=true)(hE:fP [⟨some 85,.fieldAddr 97 (.tmp 9) 2,y0,p0,a0,none⟩,⟨some 86,.load 85 (.tmp 85),y1,p1,a1,none⟩,⟨some 87,.move (.tmp 0),y2,p2,a2,none⟩,⟨some 88,.call ⟨.value (.func 69),#[.tmp 87,.const (.bool true)],tys⟩,y3,p3,a3,none⟩,⟨some 89,.buildSlice 85 1 #[(0,.tmp 88)],y4,p4,a4,none⟩,⟨some 90,.call ⟨.builtin .append,#[.tmp 86,.tmp 89],#[85,85]⟩,y5,p5,a5,none⟩,⟨some 91,.fieldAddr 97 (.tmp 9) 2,y6,p6,a6,none⟩,t7] (List.take 7 [⟨some 85,.fieldAddr 97 (.tmp 9) 2,y0,p0,a0,none⟩,⟨some 86,.load 85 (.tmp 85),y1,p1,a1,none⟩,⟨some 87,.move (.tmp 0),y2,p2,a2,none⟩,⟨some 88,.call ⟨.value (.func 69),#[.tmp 87,.const (.bool true)],tys⟩,y3,p3,a3,none⟩,⟨some 89,.buildSlice 85 1 #[(0,.tmp 88)],y4,p4,a4,none⟩,⟨some 90,.call ⟨.builtin .append,#[.tmp 86,.tmp 89],#[85,85]⟩,y5,p5,a5,none⟩,⟨some 91,.fieldAddr 97 (.tmp 9) 2,y6,p6,a6,none⟩,t7]) 0 N=true)
 (hw:(wB a1 0&&wB a3 2&&wB a4 3&&wB a5 4&&wB a5 1)=true)
 (hs:ak e (.tmp 9)= .ptr j 0)(hz:ak e (.tmp 0)= .ptr b 0)(hj:mem[j]? =some (.box 97 [nm,fv,.own q]))(hq:mem[q]? =some (.row 3 1 els))(hjb:j≠b)(hqb:q≠b)(hel:els.length<=1000000)
 (dY:∀ args w,(callFunc 69 args).run Tryz.prog w= .ok (.enter 69 args) w)
 {φ:Prop}{χ:Value->List Ob->Prop}(hc:ee Tryz.prog 69 [.ptr b 0,.v (.bool true)] mem (λr m'=>φ/\r=mA v/\bM mem m' (λi=>i=b)/\m'[b]? =some ob') χ)(hX:∀ u M e',χ u M->Q (.panic [{v:=u,recovered:=false}]) e' M)
 (h:φ-> ∀ s m',m'.length=s+1->n<=s->bM mem m' (λi=>i=b\/i=q)->m'[b]? =some ob'->m'[s]? =some (.row 3 1 (els++ [[mA v]]))->AL Tryz.prog N (List.toArray [⟨some 85,.fieldAddr 97 (.tmp 9) 2,y0,p0,a0,none⟩,⟨some 86,.load 85 (.tmp 85),y1,p1,a1,none⟩,⟨some 87,.move (.tmp 0),y2,p2,a2,none⟩,⟨some 88,.call ⟨.value (.func 69),#[.tmp 87,.const (.bool true)],tys⟩,y3,p3,a3,none⟩,⟨some 89,.buildSlice 85 1 #[(0,.tmp 88)],y4,p4,a4,none⟩,⟨some 90,.call ⟨.builtin .append,#[.tmp 86,.tmp 89],#[85,85]⟩,y5,p5,a5,none⟩,⟨some 91,.fieldAddr 97 (.tmp 9) 2,y6,p6,a6,none⟩,t7]) [t7] Q (aS (aS (aS (aS (aS (aS (aS e (some 85) (.ptr j 2)) (some 86) (.own q)) (some 87) (.ptr b 0)) (some 88) (mA v)) (some 89) (.row 1 [[mA v]])) (some 90) (.own s)) (some 91) (.ptr j 2)) m'):
 AW M Tryz.prog N (.region id (List.toArray [⟨some 85,.fieldAddr 97 (.tmp 9) 2,y0,p0,a0,none⟩,⟨some 86,.load 85 (.tmp 85),y1,p1,a1,none⟩,⟨some 87,.move (.tmp 0),y2,p2,a2,none⟩,⟨some 88,.call ⟨.value (.func 69),#[.tmp 87,.const (.bool true)],tys⟩,y3,p3,a3,none⟩,⟨some 89,.buildSlice 85 1 #[(0,.tmp 88)],y4,p4,a4,none⟩,⟨some 90,.call ⟨.builtin .append,#[.tmp 86,.tmp 89],#[85,85]⟩,y5,p5,a5,none⟩,⟨some 91,.fieldAddr 97 (.tmp 9) 2,y6,p6,a6,none⟩,t7]) true) Q e mem:=by
 have hjq:j≠q:=λhe=>by rw [he,hq]at hj;cases hj
 have hqn:q<mem.length:=(Xe.1 hq).1;have hjn:j<mem.length:=(Xe.1 hj).1;simp only [Xg]at hw;obtain⟨⟨⟨⟨w1,w3⟩,w4⟩,w54⟩,w51⟩:=hw;refine EX Nat 7 hm hd hB hE (λs=> [.ptr j 2,.own q,.ptr b 0,mA v,.row 1 [[mA v]],.own s,.ptr j 2]) (λs=>rfl) (pH φ mem b q ob' (.row 3 1 (els++ [[mA v]]))) χ hX 0 ⟨λ_=>rfl,λh=>(by cases h)⟩ ?_ ?_
 ·intro i o m s M hi ho hmi hed hcl hR;have k4:m 4=true->m 3=true:=λh4=>pC w4 (hcl 4 _ h4 rfl)
  have k54:m 5=true->m 4=true:=λh5=>pC w54 (hcl 5 _ h5 rfl)
  have k51:m 5=true->m 1=true:=λh5=>pC w51 (hcl 5 _ h5 rfl)
  have hbox:=hR.box (λh5=>k4 (k54 h5)) hj hjb hjq;have hi7:i=0\/i=1\/i=2\/i=3\/i=4\/i=5\/i=6:=by omega
  rcases hi7 with rfl|rfl|rfl|rfl|rfl|rfl|rfl
  ·obtain rfl:=Option.some.inj ho;refine⟨trivial,?_⟩
   show fO _ _ e M _ _
   exact bw.kT (r:=.ptr j 2) (ax (aI (o:=0) (off:=2) xF rfl hs) rfl) ⟨s,rfl,λ_ _ _ h=>h,hR.other aD aD⟩
  ·obtain rfl:=Option.some.inj ho;refine⟨trivial,?_⟩
   show fO _ _ (aS e (some 85) (.ptr j 2)) M _ _
   exact bw.kT (r:=.own q) (ax (aH (off:=2) It rfl hbox aa aN) rfl) ⟨s,rfl,λ_ _ _ h=>h,hR.other aD aD⟩
  ·obtain rfl:=Option.some.inj ho;refine⟨trivial,?_⟩
   show fO _ _ (aS (aS e (some 85) (.ptr j 2)) (some 86) (.own q)) M _ _
   exact bw.kT (r:=.ptr b 0) (al hz) ⟨s,rfl,λ_ _ _ h=>h,hR.other aD aD⟩
  ·obtain rfl:=Option.some.inj ho;have h5:m 5=false:=by
    cases h5:m 5 with
    | false=>rfl
    | true=>rw [k4 (k54 h5)]at hmi;cases hmi
   obtain rfl:=hR.1 hmi;refine⟨trivial,?_⟩
   show fO _ _ (aS (aS (aS e (some 85) (.ptr j 2)) (some 86) (.own q)) (some 87) (.ptr b 0)) M _ _
   refine fO.mono (HK hc ?_ dY) ?_
   ·rfl
   rintro r M' ⟨hφ,rfl,hk,hb'⟩;exact⟨s,rfl,λ_ _ _ h=>h,λh3=>(by simp at h3),λ_=>⟨hφ,M',hk,hb',λ_=>rfl,λh=>(by simp [h5]at h)⟩⟩
  ·obtain rfl:=Option.some.inj ho;refine⟨trivial,?_⟩
   show fO _ _ (aS (aS (aS (aS e (some 85) (.ptr j 2)) (some 86) (.own q)) (some 87) (.ptr b 0)) (some 88) (mA v)) M _ _
   exact bw.kT (r:=.row 1 [[mA v]]) (ez xa (bB aa b8) rfl rfl rfl rfl) ⟨s,rfl,λ_ _ _ h=>h,hR.other aD aD⟩
  ·obtain rfl:=Option.some.inj ho;have h3:m 3=true:=k4 (pC w54 hed);obtain⟨hφ,M1,hk,hb',hM,_⟩:=hR.2 h3;obtain rfl:=hM hmi;have hq1:M[q]? =some (.row 3 1 els):=hk.at_ hq hqb;refine⟨trivial,?_⟩
   show fO _ _ (aS (aS (aS (aS (aS e (some 85) (.ptr j 2)) (some 86) (.own q)) (some 87) (.ptr b 0)) (some 88) (mA v)) (some 89) (.row 1 [[mA v]])) M _ _
   refine eE.kT (r:=.own M.length) (oY (x:=.tmp 86) (y:=.tmp 89) xa rfl rfl hq1 rfl rfl rfl cJ) ⟨M.length,rfl,λk x hk' h=>?_,λh=>(by simp [h3]at h),λ_=>⟨hφ,M,hk,hb',λh=>(by simp at h),λ_=>⟨rfl,rfl⟩⟩⟩;have hk5:k≠5:=λh55=>(by rw [h55,hmi]at hk';cases hk')
   clear hk';rcases k with _|_|_|_|_|_|_|k
   all_goals first|exact h|exact absurd rfl hk5
  ·obtain rfl:=Option.some.inj ho;refine⟨trivial,?_⟩
   show fO _ _ (aS (aS (aS (aS (aS (aS e (some 85) (.ptr j 2)) (some 86) (.own q)) (some 87) (.ptr b 0)) (some 88) (mA v)) (some 89) (.row 1 [[mA v]])) (some 90) (.own s)) M _ _
   exact bw.kT (r:=.ptr j 2) (ax (aI (o:=0) (off:=2) xF rfl hs) rfl) ⟨s,rfl,λ_ _ _ h=>h,hR.other aD aD⟩
 ·intro s M hR;obtain⟨hφ,M1,hk,hb',_,hM⟩:=hR.2 rfl;obtain⟨rfl,rfl⟩:=hM rfl;have hle:=hk.len;refine h hφ M1.length _ aN ah ?_ ?_ ?_
  ·refine⟨by simp;omega,λi hi hn=>?_⟩;rw [Xj cJ,Xm (λhe=>hn (.inr he.symm))];exact hk.same i hi (λhe=>hn (.inl he))
  ·have hbl:=(Xe.1 hb').1;rw [Xj (by simpa using hbl),Xm hqb];exact hb'
  ·rw [Xk aN];simp
theorem Ws{M:Mode}{N n:Nat}{Q:AQ}{e:Nat->AV}{mem:List Ob}(hl:mem.length=n){id b j q:Nat}{nm fv:AV}{els:List (List AV)}{v:Int}{ob':Ob}{a0 a1 a2 a3 a4 a5 a6:Array Edge}{p0 p1 p2 p3 p4 p5 p6:String}{y0 y1 y2 y3 y4 y5 y6:TypeId}{tys:Array TypeId}{t7:Oper}
 (hm:Tryz.prog.follows .mixedOrders =true)(hd:jj [⟨some 98,.fieldAddr 97 (.tmp 9) 2,y0,p0,a0,none⟩,⟨some 99,.load 85 (.tmp 98),y1,p1,a1,none⟩,⟨some 100,.move (.tmp 0),y2,p2,a2,none⟩,⟨some 101,.call ⟨.value (.func 69),#[.tmp 100,.const (.bool true)],tys⟩,y3,p3,a3,none⟩,⟨some 102,.buildSlice 85 1 #[(0,.tmp 101)],y4,p4,a4,none⟩,⟨some 103,.call ⟨.builtin .append,#[.tmp 99,.tmp 102],#[85,85]⟩,y5,p5,a5,none⟩,⟨some 104,.fieldAddr 97 (.tmp 9) 2,y6,p6,a6,none⟩,t7]=true)(hB:fo (List.toArray [⟨some 98,.fieldAddr 97 (.tmp 9) 2,y0,p0,a0,none⟩,⟨some 99,.load 85 (.tmp 98),y1,p1,a1,none⟩,⟨some 100,.move (.tmp 0),y2,p2,a2,none⟩,⟨some 101,.call ⟨.value (.func 69),#[.tmp 100,.const (.bool true)],tys⟩,y3,p3,a3,none⟩,⟨some 102,.buildSlice 85 1 #[(0,.tmp 101)],y4,p4,a4,none⟩,⟨some 103,.call ⟨.builtin .append,#[.tmp 99,.tmp 102],#[85,85]⟩,y5,p5,a5,none⟩,⟨some 104,.fieldAddr 97 (.tmp 9) 2,y6,p6,a6,none⟩,t7]) 7=true)(hE:fP [⟨some 98,.fieldAddr 97 (.tmp 9) 2,y0,p0,a0,none⟩,⟨some 99,.load 85 (.tmp 98),y1,p1,a1,none⟩,⟨some 100,.move (.tmp 0),y2,p2,a2,none⟩,⟨some 101,.call ⟨.value (.func 69),#[.tmp 100,.const (.bool true)],tys⟩,y3,p3,a3,none⟩,⟨some 102,.buildSlice 85 1 #[(0,.tmp 101)],y4,p4,a4,none⟩,⟨some 103,.call ⟨.builtin .append,#[.tmp 99,.tmp 102],#[85,85]⟩,y5,p5,a5,none⟩,⟨some 104,.fieldAddr 97 (.tmp 9) 2,y6,p6,a6,none⟩,t7] (List.take 7 [⟨some 98,.fieldAddr 97 (.tmp 9) 2,y0,p0,a0,none⟩,⟨some 99,.load 85 (.tmp 98),y1,p1,a1,none⟩,⟨some 100,.move (.tmp 0),y2,p2,a2,none⟩,⟨some 101,.call ⟨.value (.func 69),#[.tmp 100,.const (.bool true)],tys⟩,y3,p3,a3,none⟩,⟨some 102,.buildSlice 85 1 #[(0,.tmp 101)],y4,p4,a4,none⟩,⟨some 103,.call ⟨.builtin .append,#[.tmp 99,.tmp 102],#[85,85]⟩,y5,p5,a5,none⟩,⟨some 104,.fieldAddr 97 (.tmp 9) 2,y6,p6,a6,none⟩,t7]) 0 N=true)
 (hw:(wB a1 0&&wB a3 2&&wB a4 3&&wB a5 4&&wB a5 1)=true)
 (hs:ak e (.tmp 9)= .ptr j 0)(hz:ak e (.tmp 0)= .ptr b 0)(hj:mem[j]? =some (.box 97 [nm,fv,.own q]))(hq:mem[q]? =some (.row 3 1 els))(hjb:j≠b)(hqb:q≠b)(hel:els.length<=1000000)
 (dY:∀ args w,(callFunc 69 args).run Tryz.prog w= .ok (.enter 69 args) w)
 {φ:Prop}{χ:Value->List Ob->Prop}(hc:ee Tryz.prog 69 [.ptr b 0,.v (.bool true)] mem (λr m'=>φ/\r=mA v/\bM mem m' (λi=>i=b)/\m'[b]? =some ob') χ)(hX:∀ u M e',χ u M->Q (.panic [{v:=u,recovered:=false}]) e' M)
 (h:φ-> ∀ s m',m'.length=s+1->n<=s->bM mem m' (λi=>i=b\/i=q)->m'[b]? =some ob'->m'[s]? =some (.row 3 1 (els++ [[mA v]]))->AL Tryz.prog N (List.toArray [⟨some 98,.fieldAddr 97 (.tmp 9) 2,y0,p0,a0,none⟩,⟨some 99,.load 85 (.tmp 98),y1,p1,a1,none⟩,⟨some 100,.move (.tmp 0),y2,p2,a2,none⟩,⟨some 101,.call ⟨.value (.func 69),#[.tmp 100,.const (.bool true)],tys⟩,y3,p3,a3,none⟩,⟨some 102,.buildSlice 85 1 #[(0,.tmp 101)],y4,p4,a4,none⟩,⟨some 103,.call ⟨.builtin .append,#[.tmp 99,.tmp 102],#[85,85]⟩,y5,p5,a5,none⟩,⟨some 104,.fieldAddr 97 (.tmp 9) 2,y6,p6,a6,none⟩,t7]) [t7] Q (aS (aS (aS (aS (aS (aS (aS e (some 98) (.ptr j 2)) (some 99) (.own q)) (some 100) (.ptr b 0)) (some 101) (mA v)) (some 102) (.row 1 [[mA v]])) (some 103) (.own s)) (some 104) (.ptr j 2)) m'):
 AW M Tryz.prog N (.region id (List.toArray [⟨some 98,.fieldAddr 97 (.tmp 9) 2,y0,p0,a0,none⟩,⟨some 99,.load 85 (.tmp 98),y1,p1,a1,none⟩,⟨some 100,.move (.tmp 0),y2,p2,a2,none⟩,⟨some 101,.call ⟨.value (.func 69),#[.tmp 100,.const (.bool true)],tys⟩,y3,p3,a3,none⟩,⟨some 102,.buildSlice 85 1 #[(0,.tmp 101)],y4,p4,a4,none⟩,⟨some 103,.call ⟨.builtin .append,#[.tmp 99,.tmp 102],#[85,85]⟩,y5,p5,a5,none⟩,⟨some 104,.fieldAddr 97 (.tmp 9) 2,y6,p6,a6,none⟩,t7]) true) Q e mem:=by
 have hjq:j≠q:=λhe=>by rw [he,hq]at hj;cases hj
 have hqn:q<mem.length:=(Xe.1 hq).1;have hjn:j<mem.length:=(Xe.1 hj).1;simp only [Xg]at hw;obtain⟨⟨⟨⟨w1,w3⟩,w4⟩,w54⟩,w51⟩:=hw;refine EX Nat 7 hm hd hB hE (λs=> [.ptr j 2,.own q,.ptr b 0,mA v,.row 1 [[mA v]],.own s,.ptr j 2]) (λs=>rfl) (pH φ mem b q ob' (.row 3 1 (els++ [[mA v]]))) χ hX 0 ⟨λ_=>rfl,λh=>(by cases h)⟩ ?_ ?_
 ·intro i o m s M hi ho hmi hed hcl hR;have k4:m 4=true->m 3=true:=λh4=>pC w4 (hcl 4 _ h4 rfl)
  have k54:m 5=true->m 4=true:=λh5=>pC w54 (hcl 5 _ h5 rfl)
  have k51:m 5=true->m 1=true:=λh5=>pC w51 (hcl 5 _ h5 rfl)
  have hbox:=hR.box (λh5=>k4 (k54 h5)) hj hjb hjq;have hi7:i=0\/i=1\/i=2\/i=3\/i=4\/i=5\/i=6:=by omega
  rcases hi7 with rfl|rfl|rfl|rfl|rfl|rfl|rfl
  ·obtain rfl:=Option.some.inj ho;refine⟨trivial,?_⟩
   show fO _ _ e M _ _
   exact bw.kT (r:=.ptr j 2) (ax (aI (o:=0) (off:=2) xF rfl hs) rfl) ⟨s,rfl,λ_ _ _ h=>h,hR.other aD aD⟩
  ·obtain rfl:=Option.some.inj ho;refine⟨trivial,?_⟩
   show fO _ _ (aS e (some 98) (.ptr j 2)) M _ _
   exact bw.kT (r:=.own q) (ax (aH (off:=2) It rfl hbox aa aN) rfl) ⟨s,rfl,λ_ _ _ h=>h,hR.other aD aD⟩
  ·obtain rfl:=Option.some.inj ho;refine⟨trivial,?_⟩
   show fO _ _ (aS (aS e (some 98) (.ptr j 2)) (some 99) (.own q)) M _ _
   exact bw.kT (r:=.ptr b 0) (al hz) ⟨s,rfl,λ_ _ _ h=>h,hR.other aD aD⟩
  ·obtain rfl:=Option.some.inj ho;have h5:m 5=false:=by
    cases h5:m 5 with
    | false=>rfl
    | true=>rw [k4 (k54 h5)]at hmi;cases hmi
   obtain rfl:=hR.1 hmi;refine⟨trivial,?_⟩
   show fO _ _ (aS (aS (aS e (some 98) (.ptr j 2)) (some 99) (.own q)) (some 100) (.ptr b 0)) M _ _
   refine fO.mono (HK hc ?_ dY) ?_
   ·rfl
   rintro r M' ⟨hφ,rfl,hk,hb'⟩;exact⟨s,rfl,λ_ _ _ h=>h,λh3=>(by simp at h3),λ_=>⟨hφ,M',hk,hb',λ_=>rfl,λh=>(by simp [h5]at h)⟩⟩
  ·obtain rfl:=Option.some.inj ho;refine⟨trivial,?_⟩
   show fO _ _ (aS (aS (aS (aS e (some 98) (.ptr j 2)) (some 99) (.own q)) (some 100) (.ptr b 0)) (some 101) (mA v)) M _ _
   exact bw.kT (r:=.row 1 [[mA v]]) (ez xa (bB aa b8) rfl rfl rfl rfl) ⟨s,rfl,λ_ _ _ h=>h,hR.other aD aD⟩
  ·obtain rfl:=Option.some.inj ho;have h3:m 3=true:=k4 (pC w54 hed);obtain⟨hφ,M1,hk,hb',hM,_⟩:=hR.2 h3;obtain rfl:=hM hmi;have hq1:M[q]? =some (.row 3 1 els):=hk.at_ hq hqb;refine⟨trivial,?_⟩
   show fO _ _ (aS (aS (aS (aS (aS e (some 98) (.ptr j 2)) (some 99) (.own q)) (some 100) (.ptr b 0)) (some 101) (mA v)) (some 102) (.row 1 [[mA v]])) M _ _
   refine eE.kT (r:=.own M.length) (oY (x:=.tmp 99) (y:=.tmp 102) xa rfl rfl hq1 rfl rfl rfl cJ) ⟨M.length,rfl,λk x hk' h=>?_,λh=>(by simp [h3]at h),λ_=>⟨hφ,M,hk,hb',λh=>(by simp at h),λ_=>⟨rfl,rfl⟩⟩⟩;have hk5:k≠5:=λh55=>(by rw [h55,hmi]at hk';cases hk')
   clear hk';rcases k with _|_|_|_|_|_|_|k
   all_goals first|exact h|exact absurd rfl hk5
  ·obtain rfl:=Option.some.inj ho;refine⟨trivial,?_⟩
   show fO _ _ (aS (aS (aS (aS (aS (aS e (some 98) (.ptr j 2)) (some 99) (.own q)) (some 100) (.ptr b 0)) (some 101) (mA v)) (some 102) (.row 1 [[mA v]])) (some 103) (.own s)) M _ _
   exact bw.kT (r:=.ptr j 2) (ax (aI (o:=0) (off:=2) xF rfl hs) rfl) ⟨s,rfl,λ_ _ _ h=>h,hR.other aD aD⟩
 ·intro s M hR;obtain⟨hφ,M1,hk,hb',_,hM⟩:=hR.2 rfl;obtain⟨rfl,rfl⟩:=hM rfl;have hle:=hk.len;refine h hφ M1.length _ aN ah ?_ ?_ ?_
  ·refine⟨by simp;omega,λi hi hn=>?_⟩;rw [Xj cJ,Xm (λhe=>hn (.inr he.symm))];exact hk.same i hi (λhe=>hn (.inl he))
  ·have hbl:=(Xe.1 hb').1;rw [Xj (by simpa using hbl),Xm hqb];exact hb'
  ·rw [Xk aN];simp
end Go.Proofs.YtbmlgmblfboigaaGreatDoor
