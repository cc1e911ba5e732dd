/- Texts of this claim, one behind the other: lemmas for the statement. -/
import Derived.Test.YtfoaiidcfkmneaaGreatDoorT0
import Derived.Test.YtfoaiidcfkmneaaGreatDoorM14
import Derived.Test.YtfoaiidcfkmneaaGreatDoorA25
import Derived.Test.YtfoaiidcfkmneaaGreatDoorM5
set_option maxRecDepth 100000
set_option maxHeartbeats 4000000
set_option linter.unusedSimpArgs false
set_option linter.unusedVariables false
namespace Go.Proofs.YtfoaiidcfkmneaaGreatDoor
open Go Go.RowKit Go.Proofs
theorem uR:b9 Tryz.prog 23 74 4 32 (.agg #[.int .i64 0,.int .i64 0,.int .i64 0,.int .i64 0]):=⟨aj,aj,aj⟩
theorem DX:b9 Tryz.prog 24 76 2 16 (.agg #[.int .i64 0,.int .i64 0]):=⟨aj,aj,aj⟩
theorem uS:aV Tryz.prog 23 false 1:=⟨aj,aj⟩
theorem DY:aV Tryz.prog 24 false 1:=⟨aj,aj⟩
theorem qJ:aV Tryz.prog 3 false 1:=⟨aj,aj⟩
abbrev uA(n:Int):AV:=.v (.int .u64 n)
theorem KL(x y:Int):x*y=(x/4294967296)*(y/4294967296)*18446744073709551616+(x/4294967296)*(y%4294967296)*4294967296+(x%4294967296)*(y/4294967296)*4294967296+(x%4294967296)*(y%4294967296):=by
 have h1:x=(x/4294967296)*4294967296+x%4294967296:=by omega
 have h2:y=(y/4294967296)*4294967296+y%4294967296:=by omega
 generalize x/4294967296=b at*;generalize x%4294967296=a at*;generalize y/4294967296=d at*;generalize y%4294967296=c at*;subst h1 h2;have e1:b*4294967296*(d*4294967296)=b*d*18446744073709551616:=by
  rw [Tn, <- Tn 4294967296 d,Tv 4294967296 d,Tn d, <- Tn b d];rfl
 have e2:b*4294967296*c=b*c*4294967296:=by rw [Tn,Tv 4294967296 c, <- Tn]
 have e3:a*(d*4294967296)=a*d*4294967296:=by rw [<- Tn]
 rw [TY,Ux,Ux,e1,e2,e3];omega
theorem vy{a c:Int}(h1:0<=a/\a<4294967296)(h2:0<=c/\c<4294967296):0<=a*c/\a*c<=18446744065119617025:=by
 have:=gR 4294967295 4294967295 (x:=a) (y:=c) ah ah;have:=UI h1.1 h2.1;omega
theorem NM(x y:Int)(hx:cO x)(hy:cO y):bT Tryz.prog 53 [uA x,uA y] (λq=>q= .tuple [uA (x*y/18446744073709551616),uA (x*y%18446744073709551616)]):=by
 refine cA (fn:=Tryz.f53) 51 aj rfl aj bO ?_;intro aA bN hA aC;have aE:al aA (.tmp 0)=_:=hA 0 _ rfl;have aF:al aA (.tmp 1)=_:=hA 1 _ rfl;have bP:bN.length=0:=by rw [aC];rfl
 clear hA aC;have hx':=hx;have hy':=hy;unfold cO at hx' hy';have q1:=vy (a:=x%4294967296) (c:=y%4294967296) ah ah;have q2:=vy (a:=x/4294967296) (c:=y%4294967296) ah ah;have q3:=vy (a:=x%4294967296) (c:=y/4294967296) ah ah;have q4:=vy (a:=x/4294967296) (c:=y/4294967296) ah ah;have hm:=KL x y;refine ax<|at_<|ar (aB aw) rfl<|ar (aB aw) rfl<|bD (ag aE) (ag aF) ?_;clear aE aF;intro bQ ab aG
 refine ao<|ax<|at_<|ar (ak ab) rfl ?_
 (refine ar (yD (c:=4294967296) aa aw 32 aD aD aD ?_) rfl ?_; · ((unfold cO);omega))
 refine ar (aB aa) rfl<|bB (ae (ag ab)) (ae (ag aG)) aa ?_;clear ab aG;intro bR ad aH aI
 refine ao<|ax<|at_<|ar (ak ad) rfl<|ar (qZ (c:=4294967296) aa aw aD aD) rfl ?_
 refine ar (aB aa) rfl<|bu (ae (ag ad)) (ae (ag aH)) (ae (ag aI)) aa ?_;clear ad aH aI;intro bS aJ af aK aL
 refine ao<|ax<|at_<|ar (ak af) rfl ?_
 (refine ar (yD (c:=4294967296) aa aw 32 aD aD aD ?_) rfl ?_; · ((unfold cO);omega))
 refine ar (aB aa) rfl<|ck (ae (ag aJ)) (ae (ag af)) (ae (ag aK)) (ae (ag aL)) aa ?_;clear aJ af aK aL;intro bU aM am aN aO aP
 refine ao<|ax<|at_<|ar (ak am) rfl<|ar (qZ (c:=4294967296) aa aw aD aD) rfl ?_
 refine ar (aB aa) rfl<|dH (ae (ag aM)) (ae (ag am)) (ae (ag aN)) (ae (ag aO)) (ae (ag aP)) aa ?_;clear aM am aN aO aP;intro bV aS aT an aU ap aV
 refine ao<|ax<|at_<|ar (ak an) rfl<|ar (ak (ae ap)) rfl ?_
 (refine ar (u9 (ae aa) aa ?_) rfl ?_; · ((unfold cO);omega))
 refine ar (aB aa) rfl<|fe (ai aS) (ai aT) (ai an) (ai aU) (ai ap) (ai aV) aa ?_;clear aS aT an aU ap aV;intro bW aX aZ a2 au a3 a5 a6
 refine ao<|ax<|at_<|ar (ak au) rfl<|ar (ak (ae a3)) rfl ?_
 (refine ar (u9 (ae aa) aa ?_) rfl ?_; · ((unfold cO);omega))
 refine ar (ak (ae (ag a6))) rfl<|ar (qZ (c:=4294967296) aa aw aD aD) rfl ?_
 (refine ar (u7 (ag aa) aa ?_) rfl ?_; · ((unfold cO);omega))
 refine ar (aB aa) rfl<|dH (ae (ag (ai aX))) (ae (ag (ai aZ))) (ae (ag (ai a2))) (ae (ag (ai au))) (ae (ag (ai a5))) aa ?_;clear aX a6 aZ a2 au a3 a5;intro bX a7 a8 a9 ba bb av
 refine ao<|ax<|at_<|ar (ak av) rfl ?_
 (refine ar (yD (c:=4294967296) aa aw 32 aD aD aD ?_) rfl ?_; · ((unfold cO);omega))
 refine ar (aB aa) rfl<|fe (ae (ag a7)) (ae (ag a8)) (ae (ag a9)) (ae (ag ba)) (ae (ag bb)) (ae (ag av)) aa ?_;clear a7 av a8 a9 ba bb;intro bY bc be bf bg bh bj bk
 refine ao<|ax<|at_<|ar (ak bj) rfl<|ar (qZ (c:=4294967296) aa aw aD aD) rfl ?_
 refine ar (aB aa) rfl<|fe (ae (ag bc)) (ae (ag be)) (ae (ag bf)) (ae (ag bg)) (ae (ag bh)) (ae (ag bk)) aa ?_;clear bc bj bk be bf bg bh;intro bZ bn bo bq br az bv bw
 refine ao<|ax<|at_<|ar (ak bv) rfl<|ar (ak (ae bq)) rfl<|ar (ak (ag az)) rfl ?_
 (refine ar (u9 (ae aa) aa ?_) rfl ?_; · ((unfold cO);omega))
 (refine ar (u7 (ae (ag aa)) aa ?_) rfl ?_; · ((unfold cO);omega))
 refine ar (aB aa) rfl<|dH (ag (ai bn)) (ag (ai bo)) (ag (ai br)) (ag (ai az)) aa (ag (ai bw)) ?_;clear bn bv bw bo bq br az;intro b0 bx bz bA bE bF bH
 refine ao<|ax<|at_<|ar (ak bA) rfl<|ar (ak (ae bE)) rfl ?_
 (refine ar (u9 (ae aa) aa ?_) rfl ?_; · ((unfold cO);omega))
 refine ar (ak (ae (ag bH))) rfl ?_
 (refine ar (u7 (ae aa) aa ?_) rfl ?_; · ((unfold cO);omega))
 refine ar (ak (ae (ai bF))) rfl<|ar (qZ (c:=4294967296) aa aw aD aD) rfl ?_
 (refine ar (u7 (ag aa) aa ?_) rfl ?_; · ((unfold cO);omega))
 refine ar (aB aa) rfl<|bB (ae (ay bx)) (ae (ay bz)) aa ?_;clear bx bF bH bz bA bE;intro b1 bI bJ bK
 refine ao<|ax<|at_<|ar (ak bI) rfl<|ar (ak (ae bJ)) rfl<|ar (zr (ae aa) aa) rfl<|ar (aB aa) rfl<|bD (ai bK) aa ?_;clear bI bJ bK;intro b2 bL bM
 refine ao<|bm<|dP bp aj (aR bL) (aR bM) (.ro _ rfl) (.ro _ rfl) ?_
 clear bL bM bP
 (rw [LJ];refine congrArg (λa=>AV.tuple [uA a,uA (x*y%18446744073709551616)]) ?_;omega)
theorem KN(lo y:Int)(hl:cO lo)(hy:cO y)(h0:0<y):bT Tryz.prog 54 [uA 0,uA lo,uA y] (λq=>q= .tuple [uA (lo/y),uA (lo%y)]):=by
 refine cA (fn:=Tryz.f54) 135 aj rfl aj bO ?_;intro am aP hA aA;have aC:al am (.tmp 0)=_:=hA 0 _ rfl;have aD:al am (.tmp 1)=_:=hA 1 _ rfl;have aE:al am (.tmp 2)=_:=hA 2 _ rfl;have aS:aP.length=0:=by rw [aA];rfl
 clear hA aA;have hl':=hl;have hy':=hy;unfold cO at hl' hy';refine ax<|at_<|ar (aB aw) rfl<|ar (aB aw) rfl<|bB (ag aC) (ag aD) (ag aE) ?_;clear aC aD aE;intro aU aF aG an
 refine ao<|ax<|ax<|at_<|ar (ak an) rfl<|ar (dN aa aw) rfl ?_
 refine bu (ag aF) (ag aG) (ag an) aa ?_;clear aF aG an;intro aV ap aH au aI;refine ao<|bk aI (λab=>?_) (λab=>?_)
 ·replace ab:=bt ab;exfalso;omega
 replace ab:=bf ab;refine bF<|ao<|ax<|ax<|at_<|ar (ak au) rfl<|ar (ak (ae ap)) rfl<|ar (gw (ae aa) aa) rfl<|bu (ae (ag ap)) (ae (ag aH)) (ae (ag au)) aa ?_;clear ap aH aI au;intro aX av aJ aK aL
 refine ao<|bk aL (λad=>?_) (λad=>?_)
 ·replace ad:=bt ad;exfalso;omega
 replace ad:=bf ad;refine bF<|ao<|ax<|ax<|at_<|ar (ak av) rfl<|ar (dN aa aw) rfl ?_
 refine bu (ag av) (ag aJ) (ag aK) aa ?_;clear av aJ aL aK;intro aZ aT ay az aM;refine ao<|bk aM (λaf=>?_) (λaf=>?_)
 ·replace af:=bt af;refine ax<|eu 8 aj aj aj aj ?_
  refine dr (ak ay) rfl<|dr (ak (ae az)) rfl ?_
  (refine dr (OO (ae aa) aa ah ?_) rfl ?_; · ((unfold cO);omega))
  refine dr (ak (ae (ag ay))) rfl<|dr (ak (ai az)) rfl ?_
  (refine dr (OP (ae aa) aa ah ?_) rfl ?_; · ((unfold cO);omega))
  refine dr (aB (ae (ag aa))) rfl<|dr (aB (ae aa)) rfl<|dE<|bD (ae aa) aa ?_;clear aT ay aM az;intro a2 aN aO
  refine ao<|bm<|bw<|dP bp aj (aR aN) (aR aO) (.ro _ rfl) (.ro _ rfl) ?_
  clear aN aO aS;rfl
 ·replace af:=bf af;exfalso;omega
theorem Ji(m n:Int):bT Tryz.prog 52 [mA m,mA n] (λq=>q=mA (if m<n then -1 else if n<m then 1 else 0)):=by
 refine cA (fn:=Tryz.f52) 20 aj rfl aj bO ?_;intro az a3 hA aA;have aC:al az (.tmp 0)=_:=hA 0 _ rfl;have aD:al az (.tmp 1)=_:=hA 1 _ rfl;have af:a3.length=0:=by rw [aA];rfl
 clear hA aA;refine ax<|at_<|ar (aB aw) rfl<|bD (ae aC) (ae aD) ?_;clear aC aD;intro a5 ah aE
 refine ao<|ax<|at_<|ar (ak ah) rfl<|ar (bI (aG aa aN) rfl (yZ _) zj) rfl<|ar (aB aa) rfl<|bB (ae (ag ah)) (ae (ag aE)) aa ?_;clear ah aE;intro a6 aF ai aH
 refine ao<|ax<|at_<|ar (ak ai) rfl<|ar (bI (aG aa aN) rfl (yZ _) zj) rfl<|ar (aB aa) rfl<|bu (ae (ag aF)) (ae (ag ai)) (ae (ag aH)) aa ?_;clear aF ai aH;intro a7 aI aJ aK aL
 refine ao<|ax<|ax<|at_<|ar (ak aK) rfl<|bu (ae aI) (ae aJ) (ae aL) aa ?_;clear aI aJ aK aL;intro a8 aM aO aP aS
 refine ao<|bk aS (λaT=>?_) (λaT=>?_)
 ·cases aT
 refine bF<|ao<|ax<|ax<|at_<|ar (ak aP) rfl<|bB (ae aM) (ae aO) aa ?_;clear aM aS aO aP;intro a9 am an aU
 refine ao<|bk aU (λaV=>?_) (λaV=>?_)
 ·cases aV
 refine bF<|ao<|ax<|ax<|at_<|ar (ak am) rfl<|ar (ak (ae an)) rfl<|ar (c6 (ae aa) aa) rfl<|bB (ae (ag am)) (ae (ag an)) aa ?_;clear am aU an;intro ba ap au av
 refine ao<|bk av (λab=>?_) (λab=>?_)
 ·replace ab:=bt ab;refine ax<|at_<|ar (aB aw) rfl<|bn aa ?_;clear ap av au;intro bb aX
  refine ao<|bm<|bw<|bX bp aj (aR aX) (.ro _ rfl) ?_
  clear aX af
  (simp_all;try omega)
 replace ab:=bf ab;refine bF<|ao<|ax<|ax<|at_<|ar (ak ap) rfl<|ar (ak (ae au)) rfl<|ar (eF (ae aa) aa) rfl<|bn aa ?_;clear ap av au;intro bc ay
 refine ao<|bk ay (λad=>?_) (λad=>?_)
 ·replace ad:=bt ad;refine ax<|at_<|ar (aB aw) rfl<|bn aa ?_;clear ay;intro be aZ
  refine ao<|bm<|bw<|bX bp aj (aR aZ) (.ro _ rfl) ?_
  clear aZ af
  (simp_all;try omega)
 replace ad:=bf ad;refine bF<|ao<|ax<|at_<|ar (aB aw) rfl<|bn aa ?_;clear ay;intro bg a2
 refine ao<|bm<|bX bp aj (aR a2) (.ro _ rfl) ?_
 clear a2 af
 (simp_all;try omega)
theorem Jj(n:Int):bT Tryz.prog 27 [mA n] (λq=>q=mA (dW (eC n 0 5000) 2)):=by
 refine cA (fn:=Tryz.f27) 6 aj rfl aj bO ?_;intro ah ai hA ab;have ad:al ah (.tmp 0)=_:=hA 0 _ rfl;have am:ai.length=0:=by rw [ab];rfl
 clear hA ab;refine ax<|at_<|ar (aB aw) rfl<|bn (ae ad) ?_;clear ad;intro an af
 refine ao<|ax<|at_<|ar (ak af) rfl<|ar (bI (aG aa (aG aw (aG aw aN))) rfl (mG _ _ _) mU) rfl<|ar (bI (aG aa (aG aw aN)) rfl (fJ _ _) fK) rfl<|ar (aB aa) rfl<|bn aa ?_;clear af;intro ap ag
 refine ao<|bm<|bX bp aj (aR ag) (.ro _ rfl) ?_
 clear ag am;rfl
def ig(l:bN)(j:Nat):Int:=((l.js.getD (j+1) default).acr - (l.js.getD j default).acr)*(l.bs.getD (j - 1) default).len - ((l.js.getD j default).acr - (l.js.getD (j - 1) default).acr)*(l.bs.getD j default).len
def pU(l:bN)(j:Nat):Int:=(l.bs.getD (j - 1) default).len *(l.bs.getD j default).len
theorem rM(n:Nat):((n:Int) - 1).toNat =n - 1:=by omega
theorem P7(l:bN)(h:eZ l)(j:Nat)(hj:1<=j/\j+2<=l.js.length):bT Tryz.prog 51 [ko l,mA j] (λq=>q= .tuple [mA (ig l j),mA (pU l j)]):=by
 refine cA (fn:=Tryz.f51) 79 aj rfl aj bO ?_;intro aC aS hA aD;have aE:al aC (.tmp 0)=_:=hA 0 _ rfl;have aF:al aC (.tmp 1)=_:=hA 1 _ rfl;have aT:aS.length=0:=by rw [aD];rfl
 clear hA aD;have hn1:=h.n1;have hn0:=h.n0;have hjs:=h.js;have j1:=h.nC (j - 1) ah;have j2:=h.nC j ah;have j3:=h.nC (j+1) ah;have b1:=h.kq (j - 1) ah;have b2:=h.kq j ah;have m1:=gR (x:=(l.js.getD (j+1) default).acr - (l.js.getD j default).acr) (y:=(l.bs.getD (j - 1) default).len) 40000 30000 ah ah;have m2:=gR (x:=(l.js.getD j default).acr - (l.js.getD (j - 1) default).acr) (y:=(l.bs.getD j default).len) 40000 30000 ah ah;have m3:=gR (x:=(l.bs.getD (j - 1) default).len) (y:=(l.bs.getD j default).len) 30000 30000 ah ah;refine ax<|at_<|ar (aB aw) rfl<|ar (aB aw) rfl<|bD (ag aE) (ag aF) ?_;clear aE aF;intro aU ab ad
 refine ao<|ax<|eu 21 aj aj aj aj ?_
 refine dr (ak ab) rfl<|dr (fY aa) rfl<|dr (az (cj jj rfl aa) da) rfl ?_
 refine dr (az (cj eK rfl aa) da) rfl ?_;refine dr (az (bL DY rfl aa aA) da) rfl ?_;refine dr (ak (ae (ai ad))) rfl ?_
 (refine dr (eU aa aw ?_) rfl ?_; · (unfold In64;omega))
 refine dr (az (cE DX (ag aa) aa ah (by(refine dq ?_;omega))) da) rfl ?_;refine dr (az (cj mP rfl aa) da) rfl ?_;refine dr (az (bL qJ rfl aa aA) da) rfl ?_;refine dr (ak (ag (ay ab))) rfl<|dr (fY aa) rfl<|dr (az (cj jj rfl aa) da) rfl ?_
 refine dr (az (cj eK rfl aa) da) rfl ?_;refine dr (az (bL DY rfl aa aA) da) rfl ?_;refine dr (ak (ae (ag (ai (ay ad))))) rfl<|dr (az (cE DX (ae aa) aa ah (by(refine dK ?_;omega))) da) rfl ?_
 refine dr (az (cj mP rfl aa) da) rfl ?_;refine dr (az (bL qJ rfl aa aA) da) rfl ?_;refine dr (aB (ae (ay aa))) rfl<|dr (aB (ae aa)) rfl<|dE<|bu (ae (ai (aH ab))) (ae (ai (aH ad))) (ae aa) aa ?_;clear ab ad;intro aV af am aG aI
 refine ao<|ax<|eu 21 aj aj aj aj ?_
 refine dr (ak af) rfl<|dr (fY aa) rfl<|dr (az (cj jj rfl aa) da) rfl ?_
 refine dr (az (cj fk rfl aa) da) rfl ?_;refine dr (az (bL uS rfl aa aA) da) rfl ?_;refine dr (ak (ae (ai am))) rfl<|dr (az (cE uR (ae aa) aa ah (by(refine dK ?_;omega))) da) rfl ?_
 refine dr (az (cj mO rfl aa) da) rfl ?_;refine dr (az (bL qJ rfl aa aA) da) rfl ?_;refine dr (ak (ae (ay af))) rfl<|dr (fY aa) rfl<|dr (az (cj jj rfl aa) da) rfl ?_
 refine dr (az (cj fk rfl aa) da) rfl ?_;refine dr (az (bL uS rfl aa aA) da) rfl ?_;refine dr (ak (ag (ai (ay am)))) rfl ?_
 (refine dr (eU aa aw ?_) rfl ?_; · (unfold In64;omega))
 refine dr (az (cE uR (ag aa) aa ah (by(refine dq ?_;omega))) da) rfl ?_;refine dr (az (cj mO rfl aa) da) rfl ?_;refine dr (az (bL qJ rfl aa aA) da) rfl ?_
 (refine dr (eU (ag (ay aa)) aa ?_) rfl ?_; · (unfold In64;omega))
 refine dr (aB aa) rfl<|dE<|ck (ae (ai (aH af))) (ae (ai (aH am))) (ae (ai (aH aG))) (ae (ai (aH aI))) aa ?_;clear af am aG aI;intro aX an ap aJ aK aL
 refine ao<|ax<|eu 21 aj aj aj aj ?_
 refine dr (ak an) rfl<|dr (fY aa) rfl<|dr (az (cj jj rfl aa) da) rfl ?_
 refine dr (az (cj fk rfl aa) da) rfl ?_;refine dr (az (bL uS rfl aa aA) da) rfl ?_;refine dr (ak (ae (ai ap))) rfl ?_
 (refine dr (cf aa aw ?_) rfl ?_; · (unfold In64;omega))
 refine dr (az (cE uR (ag aa) aa ah (by refine dK ?_;(simp only [dj];omega))) da) rfl ?_;refine dr (az (cj mO rfl aa) da) rfl ?_;refine dr (az (bL qJ rfl aa aA) da) rfl ?_;refine dr (ak (ag (ay an))) rfl<|dr (fY aa) rfl<|dr (az (cj jj rfl aa) da) rfl ?_
 refine dr (az (cj fk rfl aa) da) rfl ?_;refine dr (az (bL uS rfl aa aA) da) rfl ?_;refine dr (ak (ae (ag (ai (ay ap))))) rfl<|dr (az (cE uR (ae aa) aa ah (by(refine dK ?_;omega))) da) rfl ?_
 refine dr (az (cj mO rfl aa) da) rfl ?_;refine dr (az (bL qJ rfl aa aA) da) rfl ?_
 (refine dr (eU (ae (ay aa)) aa ?_) rfl ?_; · (unfold In64;omega))
 refine dr (aB aa) rfl<|dE<|bu (ae (ai (aH aJ))) (ae (ai (aH aK))) (ae (ai (aH aL))) aa ?_;clear an ap aJ aK aL;intro aZ au av aM aN
 refine ao<|ax<|at_<|ar (ak aN) rfl<|ar (ak (ae au)) rfl ?_
 (refine ar (fA (ae aa) aa ?_) rfl ?_; · (unfold In64;omega))
 refine ar (ak (ae (ag aM))) rfl<|ar (ak (ai av)) rfl ?_
 (refine ar (fA (ae aa) aa ?_) rfl ?_; · (unfold In64;omega))
 (refine ar (eU (ae (ag aa)) aa ?_) rfl ?_; · (unfold In64;omega))
 refine ar (ak (ae (ag (ai au)))) rfl<|ar (ak (ay av)) rfl ?_
 (refine ar (fA (ae aa) aa ?_) rfl ?_; · (unfold In64;omega))
 refine ar (aB (ae (ag aa))) rfl<|ar (aB (ae aa)) rfl<|bD (ae aa) aa ?_;clear au av aM aN;intro a2 aO aP
 refine ao<|bm<|dP bp aj (aR aO) (aR aP) (.ro _ rfl) (.ro _ rfl) ?_
 clear aO aP aT;rfl
theorem KO:∀ args w,(callFunc 51 args).run Tryz.prog w= .ok (.enter 51 args) w:=λ_ _=>by kernel_rfl
theorem KP:∀ args w,(callFunc 52 args).run Tryz.prog w= .ok (.enter 52 args) w:=λ_ _=>by kernel_rfl
theorem KQ:∀ args w,(callFunc 53 args).run Tryz.prog w= .ok (.enter 53 args) w:=λ_ _=>by kernel_rfl
theorem KT:∀ args w,(callFunc 54 args).run Tryz.prog w= .ok (.enter 54 args) w:=λ_ _=>by kernel_rfl
theorem DZ:b9 Tryz.prog 24 76 2 16 (.agg #[.int .i64 0,.int .i64 0]):=⟨aj,aj,aj⟩
theorem D3:aV Tryz.prog 24 false 1:=⟨aj,aj⟩
theorem vz:aV Tryz.prog 3 false 1:=⟨aj,aj⟩
theorem D4:aV Tryz.prog 76 true 2:=⟨aj,aj⟩
theorem KU(x y:Int)(hx:cO x)(hy:cO y)(h:cO (x*y)):bT Tryz.prog 53 [uA x,uA y] (λq=>q= .tuple [uA 0,uA (x*y)]):=
 (NM x y hx hy).mono λq hq=>by
  unfold cO at h;rw [hq,show x*y/18446744073709551616=0 by omega,show x*y%18446744073709551616=x*y by omega]
def nn(n:Int):Int:=if n<0 then -1 else if 0<n then 1 else 0
def wJ(l:bN)(s:Int)(j:Nat):Int:=2000*s+nn (ig l j)*((l.bs.getD (j - 1) default).cant +(l.bs.getD j default).cant)*9810
def Hm(l:bN)(s:Int)(j:Nat):Int:=wJ l s j*((l.bs.getD (j - 1) default).len +(l.bs.getD j default).len)*pU l j
def rA(l:bN)(s:Int)(j:Nat):Int:=if ig l j=0 then 20000000000 else if wJ l s j<0 then 0 else min (Hm l s j/(2*2000*max (ig l j) (-ig l j))) 20000000000
theorem Q6{l:bN}(h:eZ l){j:Nat}(hj:1<=j/\j+2<=l.js.length):(ig l j).natAbs <=2400000000/\1000000<=pU l j/\pU l j<=900000000:=by
 have hjs:=h.js;have j1:=h.nC (j - 1) ah;have j2:=h.nC j ah;have j3:=h.nC (j+1) ah;have b1:=h.kq (j - 1) ah;have b2:=h.kq j ah;have m1:=gR (x:=(l.js.getD (j+1) default).acr - (l.js.getD j default).acr) (y:=(l.bs.getD (j - 1) default).len) 40000 30000 ah ah;have m2:=gR (x:=(l.js.getD j default).acr - (l.js.getD (j - 1) default).acr) (y:=(l.bs.getD j default).len) 40000 30000 ah ah;have m3:=gR (x:=(l.bs.getD (j - 1) default).len) (y:=(l.bs.getD j default).len) 30000 30000 ah ah;have m4:(1000:Int)*1000<=(l.bs.getD (j - 1) default).len *(l.bs.getD j default).len :=Int.mul_le_mul b1.1 b2.1 ah ah;unfold ig pU;omega
theorem Q7{l:bN}(h:eZ l){j:Nat}(hj:1<=j/\j+2<=l.js.length){s:Int}(hs:0<=s/\s<=5000):(nn (ig l j)*((l.bs.getD (j - 1) default).cant +(l.bs.getD j default).cant)).natAbs <=600/\(wJ l s j).natAbs <=15886000:=by
 have hjs:=h.js;have b1:=h.kq (j - 1) ah;have b2:=h.kq j ah;have m1:=gR (x:=nn (ig l j)) (y:=(l.bs.getD (j - 1) default).cant +(l.bs.getD j default).cant) 1 600 (by unfold nn;split;decide;split<;>decide) ah;unfold wJ;omega
theorem KV(l:bN)(h:eZ l)(s:Int)(hs:0<=s/\s<=5000)(j:Nat)(hj:1<=j/\j+2<=l.js.length)(hu:Hm l s j<18446744073709551616):bT Tryz.prog 29 [ko l,mA s,mA j] (λq=>q=mA (rA l s j)):=by
 refine cA (fn:=Tryz.f29) 88 aj rfl aj bO ?_;intro aS cz hA bK;have bM:al aS (.tmp 0)=_:=hA 0 _ rfl;have bP:al aS (.tmp 1)=_:=hA 1 _ rfl;have bQ:al aS (.tmp 2)=_:=hA 2 _ rfl;have ab:cz.length=0:=by rw [bK];rfl
 clear hA bK;have hn1:=h.n1;have hn0:=h.n0;have hjs:=h.js;have b1:=h.kq (j - 1) ah;have b2:=h.kq j ah;obtain⟨e1,e2,e3⟩:=Q6 h hj;obtain⟨e4,e5⟩:=Q7 h hj hs;refine ax<|at_<|ar (aB aw) rfl<|bB (ae bM) (ae bP) (ae bQ) ?_;clear bM bP bQ;intro cH aT bR aU
 refine ao<|ax<|at_<|ar (ak aT) rfl<|ar (ak (ae aU)) rfl<|ar (bI (aG (ae aa) (aG aa aN)) rfl (P7 l h j hj) KO) rfl<|ar (ak aa) rfl<|ar (cF aa rfl) rfl<|ar (cF (ae aa) rfl) rfl<|ar (aB (ae aa)) rfl<|ar (aB (ae aa)) rfl<|ck (ay aT) (ay bR) (ay aU) (ae aa) aa ?_;clear aT bR aU;intro cJ bS bU bW aV bY
 refine ao<|ax<|ax<|at_<|ar (ak aV) rfl<|ar (dN aa aw) rfl ?_
 refine dH (ag bS) (ag bU) (ag bW) (ag aV) (ag bY) aa ?_;clear bS bU bW aV bY;intro cK an aX ap aZ a2 a3;refine ao<|bk a3 (λad=>?_) (λad=>?_)
 ·replace ad:=bt ad;refine ax<|at_<|ar (aB aw) rfl<|bn aa ?_;clear an aX a3 ap aZ a2;intro cL bZ
  refine ao<|bm<|bw<|bX bp aj (aR bZ) (.ro _ rfl) ?_
  clear bZ ab
  (rw [rA,if_pos (by assumption)])
 replace ad:=bf ad;refine bF<|ao<|ax<|iq 20 2 ab aj aj aj aj (λb0 av=>?_)
 have a5:b0[0]? =_:=jk av ab 0 rfl rfl;have b6:b0[1]? =_:=jk av ab 1 rfl rfl;have cB:_=2:=ir (K:=2) av ab;clear av ab;refine bg (λM_ hM_=>(ak an)) trivial ?_;refine bg (λM_ hM_=>(fY aa)) trivial ?_;refine bg (λM_ hM_=>(az (cj jj rfl aa) da)) trivial ?_;refine bg (λM_ hM_=>(az (cj eK rfl aa) da)) trivial ?_;refine bg (λM_ hM_=>(az (bL D3 rfl aa aA) da)) trivial ?_;refine bg (λM_ hM_=>(ak (ae (ai ap)))) trivial ?_
 (refine bg (λM_ hM_=>(eU aa aw ?_)) trivial ?_; · ((unfold In64);omega))
 refine bg (λM_ hM_=>(az (cE DZ (ag aa) aa ah (by(refine dq ?_;omega))) da)) trivial ?_;refine bg (λM_ hM_=>(az (bL D4 rfl aa aA) da)) trivial ?_;refine bg (λM_ hM_=>(ak (ae (ay an)))) trivial ?_;refine bg (λM_ hM_=>(fY aa)) trivial ?_;refine bg (λM_ hM_=>(az (cj jj rfl aa) da)) trivial ?_;refine bg (λM_ hM_=>(az (cj eK rfl aa) da)) trivial ?_;refine bg (λM_ hM_=>(az (bL D3 rfl aa aA) da)) trivial ?_;refine bg (λM_ hM_=>(ak (ag (ai (ay ap))))) trivial ?_;refine bg (λM_ hM_=>(az (cE DZ (ae aa) aa ah (by(refine dK ?_;omega))) da)) trivial ?_;refine bg (λM_ hM_=>(az (bL D4 rfl aa aA) da)) trivial ?_;refine ot (0) (λM_ hM_=>(rP v8 rfl)) trivial a5 rfl trivial trivial (λcM aC=>?_);have a6:=bo aC a5;simp only [pS,Value.cells,Nat.reduceAdd,dp,dx,Ti,gq,rM]at a6;have a7:=au aC b6 aD;have cC:=bh aC cB;clear aC a5 b6;refine ot (1) (λM_ hM_=>(rP v8 rfl)) trivial a7 rfl ⟨.inl b8,trivial⟩ ⟨.inl b8,trivial⟩ (λcN aF=>?_);have a8:=bo aF a7;simp only [pS,Value.cells,Nat.reduceAdd,dp,dx,Ti,gq,rM]at a8;have a9:=au aF a6 aD;have cD:=bh aF cC;clear aF a6 a7;refine od (0) (λM_ hM_=>(mJ (ae aa) (ag (ay aa)) rfl rfl (cI hM_ a9 aL) wm rfl aA)) trivial ⟨.inr (kG 19 17 aj),⟨.inl b8,trivial⟩⟩ ⟨.inr (kG 19 17 aj),⟨.inl b8,trivial⟩⟩ (λcP aI=>?_);have ba:=bo aI a9;simp only [pS,Value.cells,Nat.reduceAdd,dp,dx,Ti,gq,rM]at ba;have bb:=au aI a8 aD;have cG:=bh aI cD;clear aI a8 a9;refine iD rfl ?_;refine aM (bV (aE aa) (aE (ag aa)) rfl rfl bb wm rfl aA) trivial rfl (λcQ aO=>?_);have af:=bo aO bb;simp only [pS,Value.cells,Nat.reduceAdd,dp,dx,Ti,gq,rM]at af;have aP:=au aO ba aD;have b7:=bh aO cG;clear aO ba bb;refine ck (aE (aE (ae (ag (aH aX))))) (aE (aE (ae (ag (aH aZ))))) (aE (aE (ae (ag (aH a2))))) (aE (aE (ae aa))) (aE (aE aa)) ?_;clear an aX a3 ap aZ a2;intro cR b9 ca cb cc cd;refine ao<|ax<|at_<|ar (aB aw) rfl<|dH (ae b9) (ae ca) (ae cb) (ae cc) (ae cd) aa ?_;clear cd b9 ca cb cc;intro cS ce bc cg be bj bq
 refine ao<|ax<|eu 14 aj aj aj aj ?_
 refine dr (ak bq) rfl<|dr (ak (ae ce)) rfl ?_
 (refine dr (fA (ae aa) aa ?_) rfl ?_; · ((unfold In64);omega))
 refine dr (ak (ae (ag bc))) rfl<|dr (bI (aG aa (aG aw aN)) rfl ((Ji _ _).mono (λq h=>show q=mA (nn (ig l j))from h)) KP) rfl ?_
 refine dr (aJ uX rfl (ae (ai be))) rfl<|dr (az (aK vz rfl aP aa aA) da) rfl ?_
 refine dr (aJ uX rfl (ae (ag (ai bj)))) rfl<|dr (az (aK vz rfl af aa aA) da) rfl ?_
 (refine dr (cf (ag aa) aa ?_) rfl ?_; · ((unfold In64);omega))
 (refine dr (fA (ae (ai aa)) aa ?_) rfl ?_; · ((unfold In64);omega))
 (refine dr (fA aa aw ?_) rfl ?_; · ((unfold In64);omega))
 (refine dr (cf (ae (ay aa)) aa ?_) rfl ?_; · ((unfold In64);omega))
 refine dr (aB aa) rfl<|dE<|dH (ag (ai (ay bc))) (ag (ai (ay cg))) (ag (ai (ay be))) (ag (ai (ay bj))) (ag (ai (ay bq))) aa ?_;clear bj bq ce bc cg be;intro cT ci cm co cq cr br
 refine ao<|ax<|ax<|at_<|ar (ak br) rfl<|ar (c6 aa aw) rfl<|fe (ag ci) (ag cm) (ag co) (ag cq) (ag cr) (ag br) aa ?_;clear cq cr br ci cm co;intro cU bv bx bz bA bD bE bH
 refine ao<|bk bH (λam=>?_) (λam=>?_)
 ·replace am:=bt am;refine ax<|at_<|ar (aB aw) rfl<|bn aa ?_;clear bA bD bE bH bv bx bz;intro cV ct
  refine ao<|bm<|bw<|bX bp aj (aR ct) (.ro _ rfl) ?_
  clear ct af aP b7
  (rw [rA,if_neg (by assumption),if_pos (by assumption)])
 replace am:=bf am
 (have hh:0<=(2000*s+nn (ig l j)*((l.bs.getD (j - 1) default).cant +(l.bs.getD j default).cant)*9810):=ah;have m1:=gR (x:=(2000*s+nn (ig l j)*((l.bs.getD (j - 1) default).cant +(l.bs.getD j default).cant)*9810)) (y:=((l.bs.getD (j - 1) default).len +(l.bs.getD j default).len)) 15886000 60000 e5 ah;have n1:=UI hh (show 0<=((l.bs.getD (j - 1) default).len +(l.bs.getD j default).len)by omega);have vv1:cO ((2000*s+nn (ig l j)*((l.bs.getD (j - 1) default).cant +(l.bs.getD j default).cant)*9810)*((l.bs.getD (j - 1) default).len +(l.bs.getD j default).len)):=⟨n1,ah⟩;have vv2:cO (pU l j):=⟨ah,ah⟩;have vv3:cO ((2000*s+nn (ig l j)*((l.bs.getD (j - 1) default).cant +(l.bs.getD j default).cant)*9810)*((l.bs.getD (j - 1) default).len +(l.bs.getD j default).len)*pU l j):=⟨UI n1 ah,hu⟩;have vv4:cO (2*2000*max (ig l j) (-ig l j)):=⟨ah,ah⟩;have vv5:0<2*2000*max (ig l j) (-ig l j):=ah;have vv6:=Int.ediv_nonneg vv3.1 (Int.le_of_lt vv5);unfold cO at vv1 vv2 vv4)
 refine bF<|ao<|ax<|at_<|ar (ak bE) rfl<|ar (aJ mP rfl (ae bz)) rfl<|ar (az (aK vz rfl aP aa aA) da) rfl ?_
 refine ar (aJ mP rfl (ae (ag bA))) rfl<|ar (az (aK vz rfl af aa aA) da) rfl ?_
 (refine ar (cf (ag aa) aa ?_) rfl ?_; · ((unfold In64);omega))
 (refine ar (fA (ae (ai aa)) aa ?_) rfl ?_; · ((unfold In64);omega))
 (refine ar (vO aa aj aj ?_) rfl ?_; · ((unfold cO);omega))
 refine ar (ak (ay bx)) rfl ?_
 (refine ar (vO aa aj aj ?_) rfl ?_; · ((unfold cO);omega))
 refine ar (bI (aG (ag aa) (aG aa aN)) rfl (KU _ _ vv1 vv2 vv3) KQ) rfl<|ar (ak aa) rfl<|ar (cF aa rfl) rfl<|ar (cF (ae aa) rfl) rfl<|ar (aB (ae aa)) rfl<|ar (aB (ae aa)) rfl<|bu (aH bv) (aH bD) (ae aa) aa ?_;clear bA bD bE bH bv bx bz;intro cW bJ cu cv cw
 refine ao<|ax<|at_<|ar (ak cv) rfl<|ar (ak (ae cw)) rfl<|ar (ak (ag cu)) rfl ?_
 (refine ar (fA aw aa ?_) rfl ?_; · ((unfold In64);omega))
 refine ar (ak (ai bJ)) rfl<|ar (ak (ae (ai bJ))) rfl ?_
 (refine ar (se aa ?_) rfl ?_; · ((unfold In64);omega))
 refine ar (FX (ag aa) aa) rfl ?_
 (refine ar (fA (ai aa) aa ?_) rfl ?_; · ((unfold In64);omega))
 (refine ar (vO aa aj aj ?_) rfl ?_; · ((unfold cO);omega))
 refine ar (bI (aG (ae (ay aa)) (aG (ay aa) (aG aa aN))) rfl (KN _ _ vv3 vv4 vv5) KT) rfl<|ar (ak aa) rfl<|ar (cF aa rfl) rfl<|ar (cF (ae aa) rfl) rfl<|ar (aB (ae aa)) rfl<|ar (aB (ae aa)) rfl<|bn (ae aa) ?_;clear cu cv cw bJ;intro cX cx
 refine ao<|ax<|at_<|ar (ak cx) rfl<|ar (vK aa aw) rfl ?_
 (refine ar (vP aa aj aj ?_) rfl ?_; · ((unfold In64);omega))
 refine ar (aB aa) rfl<|bn aa ?_;clear cx;intro cY cy
 refine ao<|bm<|bX bp aj (aR cy) (.ro _ rfl) ?_
 clear cy af aP b7
 (rw [rA,if_neg (by assumption),if_neg (by assumption)];rfl)
theorem Jk:cu Tryz.prog 46 1 1 false 1:=by unfold cu;kernel_rfl
theorem Bi:cu Tryz.prog 46 2 2 false 1:=by unfold cu;kernel_rfl
theorem KW:∀ args w,(callFunc 27 args).run Tryz.prog w= .ok (.enter 27 args) w:=λ_ _=>by kernel_rfl
theorem KX:∀ args w,(callFunc 28 args).run Tryz.prog w= .ok (.enter 28 args) w:=λ_ _=>by kernel_rfl
theorem KY:∀ args w,(callFunc 29 args).run Tryz.prog w= .ok (.enter 29 args) w:=λ_ _=>by kernel_rfl
theorem KZ:∀ args w,(callFunc 55 args).run Tryz.prog w= .ok (.enter 55 args) w:=λ_ _=>by kernel_rfl
theorem BM:b9 Tryz.prog 114 30 1 8 (.int .i64 0):=⟨aj,aj,aj⟩
theorem D5:aV Tryz.prog 27 true 4:=⟨aj,aj⟩
theorem sH:aV Tryz.prog 3 false 1:=⟨aj,aj⟩
theorem NN:aV Tryz.prog 46 true 3:=⟨aj,aj⟩
theorem D6(e:Int):jA [0,e]=e:=by
 by_cases h:e=0<;>simp [jA,h]
def pV(s:Int):Int:=dW (eC s 0 5000) 2
theorem Q8{s:Int}:pV s=0↔0<=s/\s<=5000:=by
 unfold pV dW;rw [<- nD];cases eC s 0 5000<;>simp
def tr(l:bN)(s j:Int):Int:=if pV s=0 then rz j 1 (l.js.length - 2)else pV s
theorem Ia(l:bN)(hl:fw l)(hg:(cg l).2=0)(s j:Int)(hL:0<=s/\s<=5000-> ∀ n:Nat,1<=n/\n+2<=l.js.length->bT Tryz.prog 29 [ko l,mA s,mA n] (λq=>q=mA (rA l s n))):bT Tryz.prog 10 [gA l,mA s,mA j] (λq=>q= .tuple [mA (if tr l s j=0 then rA l s j.toNat else 0),mA (tr l s j)]):=by
 refine cA (fn:=Tryz.f10) 34 aj rfl aj bO ?_;intro au br hA aU;have aV:al au (.tmp 0)=_:=hA 0 _ rfl;have aX:al au (.tmp 1)=_:=hA 1 _ rfl;have aZ:al au (.tmp 2)=_:=hA 2 _ rfl;have av:br.length=0:=by rw [aU];rfl
 clear hA aU;have h:=pH hg;have hn1:=h.n1;have hn0:=h.n0;have hjs:=h.js;refine ax<|at_<|aM (fD aV rfl av) trivial rfl (λbv ay=>?_)
 have am:=bS ay av;have ab:=bR ay av;have ab:_=1:=ab;clear ay;refine ar (aB aw) rfl<|ar (aB aw) rfl<|bB (ae (ag aX)) (ae (ag aZ)) (ag aa) ?_;clear aV aX aZ;intro bx a2 a3 a5
 refine ao<|ax<|at_<|ar (az (aK D5 rfl am a5 aA) bQ) rfl ?_
 refine ar (bI (aG aa aN) rfl (xq l hl hg) zf) rfl<|ar (ak aa) rfl<|ar (cF aa rfl) rfl<|ar (cF (ae aa) rfl) rfl<|ar (aB (ae aa)) rfl<|ar (aB (ae aa)) rfl<|bu (ae (ag (ai a2))) (ae (ag (ai a3))) (ae aa) aa ?_;clear a2 a3 a5;intro bA aC a6 a7 a8
 refine ao<|ax<|ax<|at_<|ar (ak a8) rfl<|ar (ak (ae aC)) rfl<|ar (bI (aG aa aN) rfl (Jj _) KW) rfl<|ar (ep BM (bz (ag aa) (bz aa bW)) rfl rfl rfl rfl) rfl<|ar (bI (aG aa aN) rfl ((tY [_,_] aL).mono (λq h=>h.trans (show mA (jA [0,dW (eC s 0 5000) 2])=mA (pV s)from congrArg mA (D6 _)))) vC) rfl ?_
 refine ar (aB aa) rfl<|bu (ag (ai aC)) (ag (ai a6)) (ag (ai a7)) aa ?_;clear aC a6 a7 a8;intro bE a9 ba bb aD
 refine ao<|ax<|at_<|ar (ak aD) rfl<|ar (fp aa aw) rfl<|ck (ag a9) (ag ba) (ag bb) (ag aD) aa ?_;clear a9 ba bb aD;intro bH aE an ap aF aH
 refine ao<|bk aH (λad=>?_) (λad=>?_)
 ·replace ad:=ff ad;refine ax<|at_<|ar (ak aF) rfl<|ar (aB aw) rfl<|ar (aB (ae aa)) rfl<|bD (ae aa) aa ?_;clear aE aH an ap aF;intro bJ bc be
  refine ao<|bm<|bw<|dP bp aj (aR bc) (aR be) (.ro _ rfl) (.ro _ rfl) ?_
  clear bc be am ab
  (have hs:¬ pV s=0:=(by assumption);simp [tr,hs])
 replace ad:=eY ad
 (have hs:pV s=0:=(by assumption);have hs2:=Q8.1 hs)
 refine bF<|ao<|ax<|ax<|at_<|ar (ak ap) rfl<|ar (ak (ae an)) rfl<|ar (bI (aG (ae aa) (aG aa aN)) rfl (H9 l h _) KX) rfl<|ar (aB aa) rfl<|bu (ai aE) (ai an) (ai ap) aa ?_;clear aE aH an ap aF;intro bK bf bg bh aI
 refine ao<|ax<|at_<|ar (ak aI) rfl<|ar (fp aa aw) rfl<|ck (ag bf) (ag bg) (ag bh) (ag aI) aa ?_;clear aI bf bg bh;intro bL aJ aO aP aS aT
 refine ao<|bk aT (λaf=>?_) (λaf=>?_)
 ·replace af:=ff af;refine ax<|at_<|ar (ak aS) rfl<|ar (aB aw) rfl<|ar (aB (ae aa)) rfl<|bD (ae aa) aa ?_;clear aS aJ aT aO aP;intro bM bj bn
  refine ao<|bm<|bw<|dP bp aj (aR bj) (aR bn) (.ro _ rfl) (.ro _ rfl) ?_
  clear bj bn am ab
  (have hm:¬ rz j 1 (l.js.length - 2)=0:=(by assumption);simp [tr,hs,hm])
 replace af:=eY af
 (have hm:rz j 1 (l.js.length - 2)=0:=(by assumption);have hm2:=Q5.1 hm;have lm:=hL hs2 j.toNat ah;rw [show((j.toNat:Nat):Int)=j by omega]at lm)
 refine bF<|ao<|ax<|at_<|ar (ak aP) rfl<|ar (ak (ae aJ)) rfl<|ar (ak (ag aO)) rfl<|ar (bI (aG (ag aa) (aG (ae aa) (aG aa aN))) rfl (lm) KY) rfl<|ar (aB aa) rfl<|ar (aB aw) rfl<|bD (ae aa) aa ?_;clear aS aJ aT aO aP;intro bP bo bq
 refine ao<|bm<|dP bp aj (aR bo) (aR bq) (.ro _ rfl) (.ro _ rfl) ?_
 clear bo bq am ab;simp [tr,hs,hm]
abbrev rB(L c s:Int):AV:=.agg [mA L,mA c,mA s]
def mn(L c s:Int):Int:=dW (eC L 1000 30000&&eC c 0 1000&&eC s 100 30000) 2
theorem GF{L c s:Int}:mn L c s=0↔(1000<=L/\L<=30000)/\(0<=c/\c<=1000)/\100<=s/\s<=30000:=by
 unfold mn dW;rw [<- nD, <- nD, <- nD];cases eC L 1000 30000<;>cases eC c 0 1000<;>cases eC s 100 30000<;>simp
theorem HE(L c s:Int):bT Tryz.prog 55 [rB L c s] (λq=>q=mA (mn L c s)):=by
 refine cA (fn:=Tryz.f55) 17 aj rfl aj bO ?_;intro aI aL hA au;have av:al aI (.tmp 0)=_:=hA 0 _ rfl;have an:aL.length=0:=by rw [au];rfl
 clear hA au;refine ax<|at_<|aM (fD av rfl an) trivial rfl (λaS ap=>?_)
 have af:=bS ap an;have am:=bR ap an;have am:_=1:=am;clear ap;refine ar (aB aw) rfl<|bn (ae aa) ?_;clear av;intro aT ah
 refine ao<|ax<|at_<|ar (aJ pd rfl ah) rfl<|ar (az (aK sH rfl af aa aA) bQ) rfl ?_
 refine ar (bI (aG aa (aG aw (aG aw aN))) rfl (mG _ _ _) mU) rfl<|ar (ak aa) rfl<|bK aa (λab aO=>?_) (λab aO=>?_)
 ·skip;refine aF (aJ Jk rfl (ai ah)) ⟨_,rfl,ab⟩ rfl ?_;refine aF (az (aK sH rfl af aa aA) bQ) ⟨_,rfl,(ae ab)⟩ rfl ?_;refine aF (bI (aG aa (aG aw (aG aw aN))) rfl (mG _ _ _) mU) ⟨_,rfl,(ag ab)⟩ rfl ?_;refine ar (bq (ae (ag ab)) aa) rfl<|ar (ak aa) rfl<|bK aa (λad aP=>?_) (λad aP=>?_)
  ·skip;refine aF (aJ Bi rfl (ae (ay ah))) ⟨_,rfl,ad⟩ rfl ?_;refine aF (az (aK sH rfl af aa aA) bQ) ⟨_,rfl,(ae ad)⟩ rfl ?_;refine aF (bI (aG aa (aG aw (aG aw aN))) rfl (mG _ _ _) mU) ⟨_,rfl,(ag ad)⟩ rfl ?_;refine ar (bq (ae (ag ad)) aa) rfl<|ar (bI (aG aa (aG aw aN)) rfl (fJ _ _) fK) rfl<|ar (aB aa) rfl<|bn aa ?_;clear ab ad ah;intro aU aD
   refine ao<|bm<|bX bp aj (aR aD) (.ro _ rfl) ?_
   clear aD af am
   (unfold mn;simp_all)
  refine aC ⟨_,rfl,.inl ad⟩ rfl ?_;refine aC ⟨_,rfl,.inl (ae ad)⟩ rfl ?_;refine aC ⟨_,rfl,.inl (ag ad)⟩ rfl ?_;refine ar (br (ae (ag ad)) aw) rfl<|ar (bI (aG aa (aG aw aN)) rfl (fJ _ _) fK) rfl<|ar (aB aa) rfl<|bn aa ?_;clear ab ad ah;intro aV aE
  refine ao<|bm<|bX bp aj (aR aE) (.ro _ rfl) ?_
  clear aE af am
  (unfold mn;simp_all)
 refine aC ⟨_,rfl,.inl ab⟩ rfl ?_;refine aC ⟨_,rfl,.inl (ae ab)⟩ rfl ?_;refine aC ⟨_,rfl,.inl (ag ab)⟩ rfl ?_;refine ar (br (ae (ag ab)) aw) rfl<|ar (ak aa) rfl<|aC ⟨_,rfl,.inl aa⟩ rfl ?_
 refine aC ⟨_,rfl,.inl (ae aa)⟩ rfl ?_;refine aC ⟨_,rfl,.inl (ag aa)⟩ rfl ?_;refine ar (br (ae (ag aa)) aw) rfl<|ar (bI (aG aa (aG aw aN)) rfl (fJ _ _) fK) rfl<|ar (aB aa) rfl<|bn aa ?_;clear ab ah;intro aX aH
 refine ao<|bm<|bX bp aj (aR aH) (.ro _ rfl) ?_
 clear aH af am
 (unfold mn;simp_all)
def rC(l:bN)(L s p:Int):Int:=dW (eC p 0 (cy l.bs l.bs.length - L)&&decide (p.tmod s=0)) 6
theorem Q9{l:bN}{L s p:Int}:rC l L s p=0↔(0<=p/\p<=cy l.bs l.bs.length - L)/\p.tmod s=0:=by
 unfold rC dW;rw [<- nD];cases eC p 0 (cy l.bs l.bs.length - L)<;>by_cases h:p.tmod s=0<;>simp [h]
theorem HS(l:bN)(hl:fw l)(hg:(cg l).2=0)(L c s p:Int)(hv:mn L c s=0):bT Tryz.prog 30 [gA l,rB L c s,mA p] (λq=>q= .tuple [ko l,mA (rC l L s p)]):=by
 refine cA (fn:=Tryz.f30) 39 aj rfl aj bO ?_;intro aD bj hA aT;have aU:al aD (.tmp 0)=_:=hA 0 _ rfl;have aV:al aD (.tmp 1)=_:=hA 1 _ rfl;have aX:al aD (.tmp 2)=_:=hA 2 _ rfl;have aE:bj.length=0:=by rw [aT];rfl
 clear hA aT;have hf:jA [0,mn L c s]=mn L c s:=D6 _;have hv2:=GF.1 hv;have h:=pH hg;have hpb:=h.qc (n:=l.bs.length) (SR _);refine ax<|at_<|aM (fD aU rfl aE) trivial rfl (λbo aF=>?_)
 have aZ:=bS aF aE;have ad:=bR aF aE;have ad:_=1:=ad;clear aF;refine aM (fD (ae aV) rfl ad) trivial rfl (λbv an=>?_);have af:=bS an ad;have aH:=aI an aZ;have ap:=bR an ad;have ap:_=2:=ap;clear an aZ;refine ar (aB aw) rfl<|ar (aB aw) rfl<|bB (ai aX) (ae (ag aa)) (ag aa) ?_;clear aU aV aX;intro bw a2 a3 a5
 refine ao<|ax<|at_<|ar (az (aK D5 rfl aH a3 aA) bQ) rfl ?_
 refine ar (bI (aG aa aN) rfl (xq l hl hg) zf) rfl<|ar (ak aa) rfl<|ar (cF aa rfl) rfl<|ar (cF (ae aa) rfl) rfl<|ar (aB (ae aa)) rfl<|ar (aB (ae aa)) rfl<|bu (ae (ag (ai a2))) (ae (ag (ai a5))) (ae aa) aa ?_;clear a2 a3 a5;intro bx a6 aO a7 a8
 refine ao<|ax<|ax<|at_<|ar (ak a8) rfl<|ar (az (aK NN rfl af (ae aO) aA) bQ) rfl ?_
 refine ar (bI (aG aa aN) rfl (HE L c s) KZ) rfl<|ar (ep BM (bz (ag aa) (bz aa bW)) rfl rfl rfl rfl) rfl<|ar (bI (aG aa aN) rfl ((tY [_,_] aL).mono (λq h=>h.trans (by rw [hf]))) vC) rfl ?_
 refine ar (aB aa) rfl<|bu (ag (ai a6)) (ag (ai aO)) (ag (ai a7)) aa ?_;clear a6 aO a7 a8;intro bA a9 ba bb aP
 refine ao<|ax<|at_<|ar (ak aP) rfl<|ar (fp aa aw) rfl<|ck (ag a9) (ag ba) (ag bb) (ag aP) aa ?_;clear a9 ba bb aP;intro bE au av aC bc aS
 refine ao<|bk aS (λam=>?_) (λam=>?_)
 ·replace am:=ff am;exfalso;omega
 replace am:=eY am;refine bF<|ao<|ax<|eu 18 aj aj aj aj ?_
 refine dr (ak aC) rfl<|dr (ak (ae au)) rfl<|dr (ak (ag aC)) rfl<|dr (bI (aG aa aN) rfl (BL l h) FP) rfl<|dr (aJ pd rfl (ai av)) rfl<|dr (az (aK sH rfl af aa aA) bQ) rfl ?_
 (refine dr (eU (ag aa) aa ?_) rfl ?_; · (unfold In64;omega))
 refine dr (bI (aG (ae (ai aa)) (aG aw (aG aa aN))) rfl (mG _ _ _) mU) rfl<|dr (ak aa) rfl<|lB aa (λab bn=>?_) (λab bn=>?_)
 ·skip;refine dm (ak (ae (ay au))) ⟨_,rfl,ab⟩ rfl ?_;refine dm (aJ Bi rfl (ag (ay av))) ⟨_,rfl,(ae ab)⟩ rfl ?_;refine dm (az (aK sH rfl af aa aA) bQ) ⟨_,rfl,(ag ab)⟩ rfl ?_;refine dm (zt (ag aa) aa ah) ⟨_,rfl,(ae (ag ab))⟩ rfl ?_;refine dm (dN aa aw) ⟨_,rfl,(ai ab)⟩ rfl ?_;refine dr (bq (ae (ai ab)) aa) rfl<|dr (bI (aG aa (aG aw aN)) rfl (fJ _ _) fK) rfl<|dr (aB (ae (ag (ai (ay aa))))) rfl<|dr (aB (ae aa)) rfl<|dE<|bD (ae aa) aa ?_;clear ab aS au av aC bc;intro bH be bf
  refine ao<|bm<|dP bp aj (aR be) (aR bf) (.ro _ rfl) (.ro _ rfl) ?_
  clear be bf af aH ap
  (unfold rC;simp_all)
 refine c8 ⟨_,rfl,.inl ab⟩ rfl ?_;refine c8 ⟨_,rfl,.inl (ae ab)⟩ rfl ?_;refine c8 ⟨_,rfl,.inl (ag ab)⟩ rfl ?_;refine c8 ⟨_,rfl,.inl (ae (ag ab))⟩ rfl ?_;refine c8 ⟨_,rfl,.inl (ai ab)⟩ rfl ?_;refine dr (br (ae (ai ab)) aw) rfl<|dr (bI (aG aa (aG aw aN)) rfl (fJ _ _) fK) rfl<|dr (aB (ae (ag (ai (ay aa))))) rfl<|dr (aB (ae aa)) rfl<|dE<|bD (ae aa) aa ?_;clear ab aS au av aC bc;intro bJ bg bh
 refine ao<|bm<|dP bp aj (aR bg) (aR bh) (.ro _ rfl) (.ro _ rfl) ?_
 clear bg bh af aH ap
 (unfold rC;simp_all)
theorem He{n k:Int}(hk:1<=k):(n.tmod k<0->n.tdiv k - 1=n/k)/\(¬ n.tmod k<0->n.tdiv k=n/k):=by
 have h1:=Int.mul_tdiv_add_tmod n k;have h2:n.tmod k<k:=Int.tmod_lt_of_pos n ah;have h3: -k<n.tmod k:=Int.lt_tmod_of_pos n ah
 constructor
 ·intro h;have:=(Int.ediv_emod_unique (a:=n) (b:=k) (r:=n.tmod k+k) (q:=n.tdiv k - 1) ah).2 ⟨by rw [Int.mul_sub];omega,ah,ah⟩;exact this.1.symm
 ·intro h;have:=(Int.ediv_emod_unique (a:=n) (b:=k) (r:=n.tmod k) (q:=n.tdiv k) ah).2 ⟨ah,ah,h2⟩;exact this.1.symm
theorem BN(n k:Int)(hk:1<=k)(hn: -4000000000000000000<=n/\n<=4000000000000000000):bT Tryz.prog 58 [mA n,mA k] (λq=>q=mA (n/k)):=by
 have hb:=FI hn k;have hf:=He (n:=n) hk;refine cA (fn:=Tryz.f58) 16 aj rfl aj bO ?_;intro an aG hA ap;have au:al an (.tmp 0)=_:=hA 0 _ rfl;have av:al an (.tmp 1)=_:=hA 1 _ rfl;have ay:aG.length=0:=by rw [ap];rfl
 clear hA ap;refine ax<|at_<|ar (aB aw) rfl<|bD (ae au) (ae av) ?_;clear au av;intro aH af ag
 refine ao<|ax<|at_<|ar (ak af) rfl<|ar (ak (ae ag)) rfl ?_
 (refine ar (OB (ae aa) aa ah ?_) rfl ?_; · (unfold In64;omega))
 refine ar (aB aa) rfl<|bB (ai af) (ai ag) aa ?_;clear af ag;intro aI az aA aC
 refine ao<|ax<|ax<|at_<|ar (ak az) rfl<|ar (ak (ae aA)) rfl<|ar (zt (ae aa) aa ah) rfl ?_
 refine ar (c6 aa aw) rfl<|bD (ai aC) aa ?_;clear az aA aC;intro aJ ad am
 refine ao<|bk am (λab=>?_) (λab=>?_)
 ·replace ab:=bt ab;refine at_<|ar (ak ad) rfl ?_
  (refine ar (eU aa aw ?_) rfl ?_; · (unfold In64;omega))
  refine ar (aB aa) rfl<|bn aa ?_;clear am ad;intro aK aD
  refine ao<|ax<|at_<|ar (ak aD) rfl<|ar (aB aa) rfl<|bn aa ?_;clear aD;intro aL aE
  refine ao<|bm<|bX bp aj (aR aE) (.ro _ rfl) ?_
  clear aE ay
  (refine tu ?_;exact hf.1 (by assumption))
 replace ab:=bf ab;refine bF<|ao<|ax<|at_<|ar (ak ad) rfl<|ar (aB aa) rfl<|bn aa ?_;clear am ad;intro aM aF
 refine ao<|bm<|bX bp aj (aR aF) (.ro _ rfl) ?_
 clear aF ay
 (refine tu ?_;exact hf.2 (by assumption))
def pM(ws:List Int)(i:Nat)(d:Int):List Int:=ws.set i (ws.getD i default+d)
def kK(ws:List Int)(i:Nat)(d:Int):List Int:=ws.set i (ws.getD i default - d)
theorem jt(ws:List Int)(i:Nat)(d:Int):ws.set i (ws.getD i default+d)=pM ws i d:=rfl
theorem ju(ws:List Int)(i:Nat)(d:Int):ws.set i (ws.getD i default - d)=kK ws i d:=rfl
def fb(ws:List Int):Nat->Nat
 | 0=>0
 | n+1=>fb ws n+(ws.getD n default).natAbs
theorem xG{ws:List Int}{m:Nat}:∀ {n:Nat},m<=n->fb ws m<=fb ws n
 | 0,h=>by
  obtain rfl:m=0:=by omega
  exact SR _
 | n+1,h=>by
  by_cases hm:m=n+1
  ·subst hm;exact SR _
  ·have:=xG (ws:=ws) (m:=m) (n:=n) ah;simp only [fb];omega
theorem rT{ws:List Int}{n i:Nat}(h:i<n):(ws.getD i default).natAbs <=fb ws n:=by
 have:=xG (ws:=ws) (m:=i+1) (n:=n) ah;simp only [fb]at this;omega
theorem K0(ws:List Int)(i j:Nat)(v:Int):(ws.set i v).getD j default=if i=j/\j<ws.length then v else ws.getD j default:=by
 rw [SO,List.getElem?_set]
 by_cases h:i=j
 ·subst h
  by_cases hl:i<ws.length
  ·simp [hl]
  ·simp [hl]
 ·simp [h]
theorem yl(ws:List Int)(i:Nat)(v:Int):∀ n:Nat,fb (ws.set i v) n<=fb ws n+if i<n then(v - ws.getD i default).natAbs else 0
 | 0=>by simp [fb]
 | n+1=>by
  have ih:=yl ws i v n;simp only [fb];rw [K0]
  by_cases h:i=n
  ·subst h;rw [if_neg ah]at ih;rw [if_pos (show i<i+1 by omega)]
   split<;>omega
  ·rw [if_neg (λhc=>h hc.1)]
   by_cases h2:i<n
   ·rw [if_pos h2]at ih;rw [if_pos ah];omega
   ·rw [if_neg h2]at ih;rw [if_neg ah];omega
theorem NQ{ws:List Int}{i n A B:Nat}{d:Int}(h:fb ws n<=A)(hd:d.natAbs<=B):fb (pM ws i d) n<=A+B:=by
 have:=yl ws i (ws.getD i default+d) n;unfold pM
 split at this<;>omega
theorem uT{ws:List Int}{i n A B:Nat}{d:Int}(h:fb ws n<=A)(hd:d.natAbs<=B):fb (kK ws i d) n<=A+B:=by
 have:=yl ws i (ws.getD i default - d) n;unfold kK
 split at this<;>omega
theorem D7(m:Nat):∀ n:Nat,fb (List.replicate m 0) n=0
 | 0=>rfl
 | n+1=>by
  simp only [fb,D7 m n];rw [SO,List.getElem?_replicate]
  split<;>rfl
theorem K1(ws:List Int)(i:Nat)(d:Int):(pM ws i d).length =ws.length:=by simp [pM]
theorem uf(ws:List Int)(i:Nat)(d:Int):(kK ws i d).length =ws.length:=by simp [kK]
def mo(l:bN)(L p:Int):Int:=(l.bs.getD (c7 l p) default).len *(l.bs.getD (c7 l (p+L)) default).len *L
def oC(l:bN)(L p:Int)(j:Nat):List Int:=pM (List.replicate l.js.length 0) j (mo l L p)
def oD(l:bN)(L p:Int)(j:Nat):List Int:=kK (oC l L p j) (c7 l p) ((L - (cy l.bs j - p))*((l.bs.getD (c7 l p) default).len - fQ l p)*(l.bs.getD (c7 l (p+L)) default).len)
def oG(l:bN)(L p:Int)(j:Nat):List Int:=kK (oD l L p j) (c7 l p+1) ((L - (cy l.bs j - p))*fQ l p*(l.bs.getD (c7 l (p+L)) default).len)
def oH(l:bN)(L p:Int)(j:Nat):List Int:=kK (oG l L p j) (c7 l (p+L)) ((cy l.bs j - p)*((l.bs.getD (c7 l (p+L)) default).len - fQ l (p+L))*(l.bs.getD (c7 l p) default).len)
def lR(l:bN)(L p:Int)(j:Nat):List Int:=kK (oH l L p j) (c7 l (p+L)+1) ((cy l.bs j - p)*fQ l (p+L)*(l.bs.getD (c7 l p) default).len)
theorem D8{l:bN}{L p:Int}{j:Nat}:(oC l L p j).length =l.js.length:=by simp [oC,K1]
theorem D9{l:bN}{L p:Int}{j:Nat}:(oD l L p j).length =l.js.length:=by simp [oD,uf,D8]
theorem Ea{l:bN}{L p:Int}{j:Nat}:(oG l L p j).length =l.js.length:=by simp [oG,uf,D9]
theorem Eb{l:bN}{L p:Int}{j:Nat}:(oH l L p j).length =l.js.length:=by simp [oH,uf,Ea]
theorem P8{l:bN}{L p:Int}{j:Nat}:(lR l L p j).length =l.js.length:=by simp [lR,uf,Eb]
structure Pos (l:bN) (L p:Int) (j:Nat):Prop where
 L0:1000<=L
 L1:L<=30000
 p0:0<=p
 p1:p+L<=cy l.bs l.bs.length
 j0:p<=cy l.bs j
 j1:cy l.bs j<=p+L
 jn:j<l.js.length
theorem Pos.bd{l:bN}(h:eZ l){L p:Int}{j:Nat}(q:Pos l L p j):1<=mo l L p/\mo l L p<=27000000000000/\((L - (cy l.bs j - p))*((l.bs.getD (c7 l p) default).len - fQ l p)*(l.bs.getD (c7 l (p+L)) default).len).natAbs <=27000000000000/\
 ((L - (cy l.bs j - p))*fQ l p*(l.bs.getD (c7 l (p+L)) default).len).natAbs <=27000000000000/\((cy l.bs j - p)*((l.bs.getD (c7 l (p+L)) default).len - fQ l (p+L))*(l.bs.getD (c7 l p) default).len).natAbs <=27000000000000/\((cy l.bs j - p)*fQ l (p+L)*(l.bs.getD (c7 l p) default).len).natAbs <=27000000000000:=by
 obtain⟨L0,L1,p0,p1,j0,j1,jn⟩:=q;obtain⟨a1,a2,a3⟩:=wz h (p:=p) ⟨p0,ah⟩;obtain⟨b1,b2,b3⟩:=wz h (p:=p+L) ⟨ah,p1⟩;have c1:=h.kq _ a1;have c2:=h.kq _ b1;have t:∀ {x y z:Int},x.natAbs<=30000->y.natAbs<=30000->z.natAbs<=30000->(x*y*z).natAbs <=27000000000000:=λh1 h2 h3=>gR (30000*30000) 30000 (gR 30000 30000 h1 h2) h3
 have d0:=t (x:=(l.bs.getD (c7 l p) default).len) (y:=(l.bs.getD (c7 l (p+L)) default).len) (z:=L) ah ah ah;have d1:0<mo l L p:=Int.mul_pos (Int.mul_pos ah ah) ah;refine⟨ah,by unfold mo at d1 ⊢;omega,t ah ah ah,t ah ah ah,t ah ah ah,t ah ah ah⟩
theorem Pos.abs{l:bN}(h:eZ l){L p:Int}{j:Nat}(q:Pos l L p j):fb (oC l L p j) l.js.length<=27000000000000/\fb (oD l L p j) l.js.length<=54000000000000/\fb (oG l L p j) l.js.length<=81000000000000/\fb (oH l L p j) l.js.length<=108000000000000/\fb (lR l L p j) l.js.length<=135000000000000:=by
 obtain⟨d0,d1,d2,d3,d4,d5⟩:=q.bd h;have e0:fb (List.replicate l.js.length 0) l.js.length<=0:=by rw [D7];exact SR _
 have e1:fb (oC l L p j) l.js.length<=0+27000000000000:=NQ e0 ah;have e2:fb (oD l L p j) l.js.length<=0+27000000000000+27000000000000:=uT e1 d2;have e3:fb (oG l L p j) l.js.length<=0+27000000000000+27000000000000+27000000000000:=uT e2 d3;have e4:fb (oH l L p j) l.js.length<=0+27000000000000+27000000000000+27000000000000+27000000000000:=uT e3 d4;have e5:fb (lR l L p j) l.js.length<=0+27000000000000+27000000000000+27000000000000+27000000000000+27000000000000:=uT e4 d5;omega
def mq(f:Int->gB->Int)(ws:List Int)(js:List gB):Nat->Int
 | 0=>0
 | n+1=>mq f ws js n+f (ws.getD n default) (js.getD n default)
def mD(w:Int)(j:gB):Int:=w*j.acr+min (w*j.lo) (w*j.hi)
def mE(w:Int)(j:gB):Int:=w*j.acr+max (w*j.lo) (w*j.hi)
theorem Hf{w:Int}{j:gB}{A:Nat}(hw:w.natAbs<=A)(h1: -20000<=j.acr/\j.acr<=20000)(h2: -100<=j.lo/\j.hi<=100/\j.lo<=j.hi):(mD w j).natAbs <=20100*A/\(mE w j).natAbs <=20100*A/\(w*j.acr).natAbs <=A*20000/\(w*j.lo).natAbs <=A*100/\(w*j.hi).natAbs <=A*100:=by
 have m1:=gR (x:=w) (y:=j.acr) A 20000 hw ah;have m2:=gR (x:=w) (y:=j.lo) A 100 hw ah;have m3:=gR (x:=w) (y:=j.hi) A 100 hw ah;unfold mD mE;omega
theorem FK{l:bN}(h:eZ l){f:Int->gB->Int}(hf:f=mD\/f=mE){ws:List Int}:∀ {n:Nat},n<=l.js.length->(mq f ws l.js n).natAbs <=20100*fb ws n
 | 0,_=>by simp [mq]
 | n+1,hn=>by
  have ih:=FK h hf (ws:=ws) (n:=n) ah;have j1:=h.nC n ah;have:=Hf (w:=ws.getD n default) (j:=l.js.getD n default) (SR _) j1.1 ⟨j1.2.2.1,j1.2.2.2.1,j1.2.2.2.2⟩;simp only [mq,fb];rcases hf with rfl|rfl<;>omega
def Hg(l:bN)(L p:Int)(j:Nat):Int:=mq mD (lR l L p j) l.js l.js.length/mo l L p
def Hh(l:bN)(L p:Int)(j:Nat):Int:= -(-mq mE (lR l L p j) l.js l.js.length/mo l L p)
theorem BO:∀ args w,(callFunc 57 args).run Tryz.prog w= .ok (.enter 57 args) w:=λ_ _=>by kernel_rfl
theorem BP:∀ args w,(callFunc 58 args).run Tryz.prog w= .ok (.enter 58 args) w:=λ_ _=>by kernel_rfl
theorem Ec:b9 Tryz.prog 23 74 4 32 (.agg #[.int .i64 0,.int .i64 0,.int .i64 0,.int .i64 0]):=⟨aj,aj,aj⟩
theorem Ed:b9 Tryz.prog 24 76 2 16 (.agg #[.int .i64 0,.int .i64 0]):=⟨aj,aj,aj⟩
theorem jU:b9 Tryz.prog 64 3 1 8 (.int .i64 0):=⟨aj,aj,aj⟩
theorem Ee:aV Tryz.prog 23 false 1:=⟨aj,aj⟩
theorem Ef:aV Tryz.prog 24 false 1:=⟨aj,aj⟩
theorem gk:aV Tryz.prog 3 false 1:=⟨aj,aj⟩
theorem NR:aV Tryz.prog 42 true 2:=⟨aj,aj⟩
theorem NS:aV Tryz.prog 64 false 1:=⟨aj,aj⟩
theorem NT:aV Tryz.prog 74 true 4:=⟨aj,aj⟩
theorem jC(l:bN)(L p:Int):(l.bs.getD (c7 l p) default).len *(l.bs.getD (c7 l (p+L)) default).len *L=mo l L p:=rfl
theorem jD(l:bN)(L p:Int)(j:Nat):pM (List.replicate l.js.length 0) j (mo l L p)=oC l L p j:=rfl
theorem jE(l:bN)(L p:Int)(j:Nat):kK (oC l L p j) (c7 l p) ((L - (cy l.bs j - p))*((l.bs.getD (c7 l p) default).len - fQ l p)*(l.bs.getD (c7 l (p+L)) default).len)=oD l L p j:=rfl
theorem jF(l:bN)(L p:Int)(j:Nat):kK (oD l L p j) (c7 l p+1) ((L - (cy l.bs j - p))*fQ l p*(l.bs.getD (c7 l (p+L)) default).len)=oG l L p j:=rfl
theorem jG(l:bN)(L p:Int)(j:Nat):kK (oG l L p j) (c7 l (p+L)) ((cy l.bs j - p)*((l.bs.getD (c7 l (p+L)) default).len - fQ l (p+L))*(l.bs.getD (c7 l p) default).len)=oH l L p j:=rfl
theorem jH(l:bN)(L p:Int)(j:Nat):kK (oH l L p j) (c7 l (p+L)+1) ((cy l.bs j - p)*fQ l (p+L)*(l.bs.getD (c7 l p) default).len)=lR l L p j:=rfl
theorem ji{x:Int}{A:Nat}(h:x.natAbs<=A): -(A:Int)<=x/\x<=A:=by omega
theorem P9{n k:Int}(hk:1<=k)(hn: -4000000000000000000<=n/\n<=4000000000000000000): -4000000000000000001<=n/k/\n/k<=4000000000000000000:=by
 have hb:=FI hn k;have hf:=He (n:=n) hk
 by_cases h:n.tmod k<0
 ·have:=hf.1 h;omega
 ·have:=hf.2 h;omega
theorem vX{l:bN}(h:eZ l){f:Int->gB->Int}(hf:f=mD\/f=mE){ws:List Int}{A:Nat}(hw:fb ws l.js.length<=A){n:Nat}(hn:n<=l.js.length): -(20100*(A:Int))<=mq f ws l.js n/\mq f ws l.js n<=20100*(A:Int):=by
 have h1:=FK h hf (ws:=ws) hn;have h2:=xG (ws:=ws) hn;omega
theorem Ib(l:bN)(h:eZ l)(L c s p:Int)(j:Nat)(q:Pos l L p j):bT Tryz.prog 32 [ko l,rB L c s,mA p,mA j] (λq=>q= .agg [mA (Hg l L p j),mA (Hh l L p j)]):=by
 refine cA (fn:=Tryz.f32) 204 aj rfl aj bO ?_;intro bv hN hA dn;have dt:al bv (.tmp 0)=_:=hA 0 _ rfl;have du:al bv (.tmp 1)=_:=hA 1 _ rfl;have dv:al bv (.tmp 2)=_:=hA 2 _ rfl;have dw:al bv (.tmp 3)=_:=hA 3 _ rfl;have bY:hN.length=0:=by rw [dn];rfl
 clear hA dn;have hn1:=h.n1;have hn0:=h.n0;have hjs:=h.js;obtain⟨L0,L1,p0,p1,j0,j1,jn⟩:=id q;obtain⟨a1,a2,a3⟩:=wz h (p:=p) ⟨p0,ah⟩;obtain⟨b1,b2,b3⟩:=wz h (p:=p+L) ⟨ah,p1⟩;have c1:=h.kq _ a1;have c2:=h.kq _ b1;have hpl:=pa (bs:=l.bs) (n:=l.bs.length);have hpb:=h.qc (n:=l.bs.length) (SR _);have hpj:=h.qc (n:=j) ah;have hgj:=kV (bs:=l.bs) (n:=l.bs.length) (j:=j) ah;obtain⟨d0,d1,d2,d3,d4,d5⟩:=q.bd h;replace d2:=ji d2;replace d3:=ji d3;replace d4:=ji d4;replace d5:=ji d5;obtain⟨s1,s2,s3,s4,s5⟩:=q.abs h;have m1:=ji (gR (x:=(l.bs.getD (c7 l p) default).len) (y:=(l.bs.getD (c7 l (p+L)) default).len) 30000 30000 ah ah);have m2:=ji (gR (x:=L - (cy l.bs j - p)) (y:=(l.bs.getD (c7 l p) default).len - fQ l p) 30000 30000 ah ah);have m3:=ji (gR (x:=L - (cy l.bs j - p)) (y:=fQ l p) 30000 30000 ah ah);have m4:=ji (gR (x:=cy l.bs j - p) (y:=(l.bs.getD (c7 l (p+L)) default).len - fQ l (p+L)) 30000 30000 ah ah);have m5:=ji (gR (x:=cy l.bs j - p) (y:=fQ l (p+L)) 30000 30000 ah ah);have hdd:(l.bs.getD (c7 l p) default).len *(l.bs.getD (c7 l (p+L)) default).len *L=mo l L p:=rfl;have g0:(List.replicate l.js.length (0:Int)).getD j default=0:=(by simp [jn]);have g2:=ji (Tm (rT (ws:=oC l L p j) (n:=l.js.length) (i:=c7 l p) ah) s1);have g3:=ji (Tm (rT (ws:=oD l L p j) (n:=l.js.length) (i:=c7 l p+1) ah) s2);have g4:=ji (Tm (rT (ws:=oG l L p j) (n:=l.js.length) (i:=c7 l (p+L)) ah) s3);have g5:=ji (Tm (rT (ws:=oH l L p j) (n:=l.js.length) (i:=c7 l (p+L)+1) ah) s4);have k0:(List.replicate l.js.length (0:Int)).length =l.js.length:=aL;have k1:=D8 (l:=l) (L:=L) (p:=p) (j:=j);have k2:=D9 (l:=l) (L:=L) (p:=p) (j:=j);have k3:=Ea (l:=l) (L:=L) (p:=p) (j:=j);have k4:=Eb (l:=l) (L:=L) (p:=p) (j:=j);have k5:=P8 (l:=l) (L:=L) (p:=p) (j:=j);refine ax<|at_<|aM (fD du rfl bY) trivial rfl (λiC bZ=>?_)
 have dy:=bS bZ bY;have aX:=bR bZ bY;have aX:_=1:=aX;clear bZ;refine aM (cJ vZ rfl aX) trivial rfl (λiD bw=>?_);have b0:=bS bw aX;simp only [pS,Value.cells,Nat.reduceAdd,dp,dx,Ti,gq,jz,jy,hgj,jt,ju,jC,jD,jE,jF,jG,jH]at b0;have bx:=aI bw dy;have aZ:=bR bw aX;have aZ:_=2:=aZ;clear bw dy;refine ck (ag dt) (ag dv) (ag dw) (ae aa) aa ?_;clear dt du dv dw;intro iF b6 b7 dA dB dF;refine ao<|ax<|at_<|ar (ak b6) rfl<|ar (ak (ae b7)) rfl<|ar (bI (aG (ae aa) (aG aa aN)) rfl (GB l h p ⟨p0,ah⟩) BO) rfl ?_
 refine ar (ak aa) rfl<|ar (cF aa rfl) rfl<|ar (cF (ae aa) rfl) rfl<|ar (aB (ae aa)) rfl<|ar (aB (ae aa)) rfl<|fe (ay b6) (ay b7) (ay dA) (ay dB) (ay dF) (ae aa) aa ?_;clear b6 b7 dA dB dF;intro iG b8 b9 dG cb dH dL dM
 refine ao<|ax<|at_<|ar (ak b8) rfl<|ar (ak (ae b9)) rfl<|ar (aJ pd rfl (ag cb)) rfl<|ar (az (aK gk rfl bx aa aA) dD) rfl ?_
 (refine ar (cf (ag aa) aa ?_) rfl ?_; · (unfold In64;omega))
 refine ar (bI (aG (ai aa) (aG aa aN)) rfl (GB l h (p+L) ⟨ah,p1⟩) BO) rfl ?_;refine ar (ak aa) rfl<|ar (cF aa rfl) rfl<|ar (cF (ae aa) rfl) rfl<|ar (aB (ae aa)) rfl<|ar (aB (ae aa)) rfl<|lU (ae (ag (ay b8))) (ae (ag (ay b9))) (ae (ag (ay dG))) (ae (ag (ay cb))) (ae (ag (ay dH))) (ae (ag (ay dL))) (ae (ag (ay dM))) (ae aa) aa ?_;clear b8 dM b9 dG cb dH dL;intro iH cc dN cd dO dP dQ dR dS dT
 refine ao<|ax<|at_<|ar (ak cc) rfl<|ar (fY aa) rfl<|ar (az (cj l4 rfl aa) dD) rfl ?_
 refine ar (az (bL NS rfl aa aA) dD) rfl ?_;refine ar (ak (ai cd)) rfl<|ar (az (cE jU (ae aa) aa ah (by(refine dK ?_;omega))) dD) rfl ?_
 refine ar (az (bL gk rfl aa aA) dD) rfl ?_;refine ar (ak (ae (ag (ai dN)))) rfl ?_
 (refine ar (eU (ae aa) aa ?_) rfl ?_; · (unfold In64;omega))
 refine ar (aB aa) rfl<|lU (ag (ay cc)) (ag (ay cd)) (ag (ay dO)) (ag (ay dP)) (ag (ay dQ)) (ag (ay dR)) (ag (ay dS)) (ag (ay dT)) aa ?_;clear cc dR dS dT dN cd dO dP dQ;intro iI bA dU dV dW ce dX cg dY dZ
 refine ao<|ax<|eu 20 aj aj aj aj ?_
 refine dr (ak bA) rfl<|dr (fY aa) rfl<|dr (az (cj jj rfl aa) dD) rfl ?_
 refine dr (az (cj eK rfl aa) dD) rfl ?_;refine dr (az (bL Ef rfl aa aA) dD) rfl ?_;refine dr (ak (ae (ai ce))) rfl<|dr (az (cE Ed (ae aa) aa ah (by(refine dK ?_;omega))) dD) rfl ?_
 refine dr (az (cj mP rfl aa) dD) rfl ?_;refine dr (az (bL gk rfl aa aA) dD) rfl ?_;refine dr (ak (ae (ay bA))) rfl<|dr (fY aa) rfl<|dr (az (cj jj rfl aa) dD) rfl ?_
 refine dr (az (cj eK rfl aa) dD) rfl ?_;refine dr (az (bL Ef rfl aa aA) dD) rfl ?_;refine dr (ak (ag (ai (ay cg)))) rfl<|dr (az (cE Ed (ae aa) aa ah (by(refine dK ?_;omega))) dD) rfl ?_
 refine dr (az (cj mP rfl aa) dD) rfl ?_;refine dr (az (bL gk rfl aa aA) dD) rfl ?_;refine dr (aB (ae (ay aa))) rfl<|dr (aB (ae aa)) rfl<|dE<|tg (ai (aH bA)) (ai (aH dU)) (ai (aH dV)) (ai (aH dW)) (ai (aH ce)) (ai (aH dX)) (ai (aH cg)) (ai (aH dY)) (ai (aH dZ)) (ae aa) aa ?_;clear bA dX cg dY dZ dU dV dW ce;intro iJ ea eb ci ec ed ee ef eg en cm co
 refine ao<|ax<|at_<|ar (ak cm) rfl<|ar (ak (ae co)) rfl ?_
 (refine ar (fA (ae aa) aa ?_) rfl ?_; · (unfold In64;omega))
 refine ar (aJ pd rfl (ae (ag ci))) rfl<|ar (az (aK gk rfl bx aa aA) dD) rfl ?_
 (refine ar (fA (ag aa) aa ?_) rfl ?_; · (unfold In64;omega))
 refine ar (aB aa) rfl<|pN (ae (ag (ai ea))) (ae (ag (ai eb))) (ae (ag (ai ci))) (ae (ag (ai ec))) (ae (ag (ai ed))) (ae (ag (ai ee))) (ae (ag (ai ef))) (ae (ag (ai eg))) (ae (ag (ai en))) (ae (ag (ai cm))) (ae (ag (ai co))) aa ?_;clear ea ee ef eg en cm co eb ci ec ed;intro iK cq ep er ev ew ey ez eA eB eC eD eE
 refine ao<|ax<|at_<|ar (ak cq) rfl<|ar (fY aa) rfl<|ar (az (cj jj rfl aa) dD) rfl ?_
 refine ar (az (cj fk rfl aa) dD) rfl ?_;refine ar (az (bL Ee rfl aa aA) dD) rfl ?_;refine ar (az (cx aa rfl Ec.1) ct) rfl ?_;refine aM (Ri jU rfl rfl aZ aa aa ah ah) trivial rfl (λiL a5=>?_);have ab:=bS a5 aZ;simp only [pS,Value.cells,Nat.reduceAdd,dp,dx,Ti,gq,jz,jy,hgj,jt,ju,jC,jD,jE,jF,jG,jH]at ab;have eF:=aI a5 b0;have eG:=aI a5 bx;have cr:=bR a5 aZ;have cr:_=3:=cr;clear a5 b0 bx;refine ar (aB aa) rfl<|Hj (ay cq) (ay ep) (ay er) (ay ev) (ay ew) (ay ey) (ay ez) (ay eA) (ay eB) (ay eC) (ay eD) (ay eE) aa ?_;clear cq ey ez eA eB eC eD eE ep er ev ew;intro iM eH eI eP eS eT eW eX eY e0 e3 e4 cu cv
 refine ao<|ax<|at_<|ar (ak cv) rfl<|ar (ak (ae eI)) rfl<|ar (ku jU ab (ae aa) aa ah dC) rfl ?_
 refine ar (az (nG gk rfl ab aa aA (by(refine dK ?_;omega))) dD) rfl ?_;refine ar (ak (ai cu)) rfl ?_
 (refine ar (cf (ae aa) aa ?_) rfl ?_; · (unfold In64;omega))
 refine ar (ku jU ab (ae (ai aa)) (ai aa) ah dC) rfl ?_;refine aM (rH aa (ae aa) rfl rfl rfl ab (TS _).symm (by(refine dK ?_;omega)) iZ rfl aA) trivial rfl (λiN a6=>?_);have ad:=bo a6 ab;simp only [pS,Value.cells,Nat.reduceAdd,dp,dx,Ti,gq,jz,jy,hgj,jt,ju,jC,jD,jE,jF,jG,jH]at ad;have e5:=au a6 eF aD;have cz:=au a6 eG aD;have hO:=bh a6 cr;clear a6 ab eF eG;refine pN (aE (ae (ag (ai eH)))) (aE (ae (ag (ai eP)))) (aE (ae (ag (ai eS)))) (aE (ae (ag (ai eT)))) (aE (ae (ag (ai eW)))) (aE (ae (ag (ai eX)))) (aE (ae (ag (ai eY)))) (aE (ae (ag (ai e0)))) (aE (ae (ag (ai e3)))) (aE (ae (ag (ai e4)))) (aE (ae (ag (ai cu)))) (aE (ae (ag (ai cv)))) ?_;clear eH eW eX eY e0 e3 e4 cu cv eI eP eS eT;intro iO e6 cB e7 cC cD e8 e9 cH cI cK fa cL;refine ao<|ax<|eu 16 aj aj aj aj ?_
 refine dr (ak cL) rfl<|dr (ak (ae cC)) rfl<|dr (ku jU ad (ae aa) aa ah dC) rfl ?_
 refine dr (az (nG gk rfl ad aa aA (by(refine dK ?_;omega))) dD) rfl ?_;refine dr (aJ pd rfl (ai cB)) rfl<|dr (az (aK gk rfl cz aa aA) dD) rfl ?_
 refine dr (ak (ag (ai cH))) rfl ?_
 (refine dr (eU (ae aa) aa ?_) rfl ?_; · (unfold In64;omega))
 refine dr (ak (ay cI)) rfl<|dr (ak (ae (ay cD))) rfl ?_
 (refine dr (eU (ae aa) aa ?_) rfl ?_; · (unfold In64;omega))
 (refine dr (fA (ae (ag aa)) aa ?_) rfl ?_; · (unfold In64;omega))
 refine dr (ak (ai (ay cK))) rfl ?_
 (refine dr (fA (ae aa) aa ?_) rfl ?_; · (unfold In64;omega))
 (refine dr (eU (ag (ay aa)) aa ?_) rfl ?_; · (unfold In64;omega))
 refine dr (ku jU ad (ag (ai (ay aa))) (ae (ai (ay aa))) ah dC) rfl ?_;refine dE<|aM (rH aa (ae aa) rfl rfl rfl ad (TS _).symm (by(refine dK ?_;omega)) iZ rfl aA) trivial rfl (λiP a7=>?_)
 have af:=bo a7 ad;simp only [pS,Value.cells,Nat.reduceAdd,dp,dx,Ti,gq,jz,jy,hgj,jt,ju,jC,jD,jE,jF,jG,jH]at af;have fb:=au a7 e5 aD;have cM:=au a7 cz aD;have hP:=bh a7 hO;clear a7 ad e5 cz;refine pN (aE (aH e6)) (aE (aH cB)) (aE (aH e7)) (aE (aH cC)) (aE (aH cD)) (aE (aH e8)) (aE (aH e9)) (aE (aH cH)) (aE (aH cI)) (aE (aH cK)) (aE (aH fa)) (aE (aH cL)) ?_;clear e6 cD e8 e9 cH cI cK fa cL cB e7 cC;intro iQ fc fd ff fg fh fi fj cN fl cO fm cP;refine ao<|ax<|eu 15 aj aj aj aj ?_
 refine dr (ak cP) rfl<|dr (ak (ae fg)) rfl ?_
 (refine dr (cf aa aw ?_) rfl ?_; · (unfold In64;omega))
 refine dr (ku jU af (ag aa) aa ah dC) rfl ?_;refine dr (az (nG gk rfl af aa aA (by refine dK ?_;(simp only [dj];omega))) dD) rfl ?_;refine dr (aJ pd rfl (ae (ai fd))) rfl<|dr (az (aK gk rfl cM aa aA) dD) rfl ?_
 refine dr (ak (ae (ag (ai cN)))) rfl ?_
 (refine dr (eU (ae aa) aa ?_) rfl ?_; · (unfold In64;omega))
 refine dr (ak (ae (ay fh))) rfl ?_
 (refine dr (fA (ae aa) aa ?_) rfl ?_; · (unfold In64;omega))
 refine dr (ak (ae (ag (ay cO)))) rfl ?_
 (refine dr (fA (ae aa) aa ?_) rfl ?_; · (unfold In64;omega))
 (refine dr (eU (ay aa) aa ?_) rfl ?_; · (unfold In64;omega))
 refine dr (ku jU af (ae (ai (ay aa))) (ae (ag (ay aa))) ah dC) rfl ?_;refine dE<|aM (rH aa (ae aa) rfl rfl rfl af (TS _).symm (by refine dK ?_;(simp only [dj];omega)) iZ rfl aA) trivial rfl (λiS a8=>?_)
 have am:=bo a8 af;simp only [pS,Value.cells,Nat.reduceAdd,dp,dx,Ti,gq,jz,jy,hgj,jt,ju,jC,jD,jE,jF,jG,jH]at am;have fo:=au a8 fb aD;have fp:=au a8 cM aD;have hQ:=bh a8 hP;clear a8 af fb cM;refine lU (aE (ae (ag (ai (ay fc))))) (aE (ae (ag (ai (ay ff))))) (aE (ae (ag (ai (ay fi))))) (aE (ae (ag (ai (ay fj))))) (aE (ae (ag (ai (ay cN))))) (aE (ae (ag (ai (ay fl))))) (aE (ae (ag (ai (ay cO))))) (aE (ae (ag (ai (ay fm))))) (aE (ae (ag (ai (ay cP))))) ?_;clear fc fh fi fj cN fl cO fm cP fd ff fg;intro iT fq fs cQ cR cS cT ft fu cV;refine ao<|ax<|at_<|ar (ak cV) rfl<|ar (ak (ae cQ)) rfl<|ar (ku jU am (ae aa) aa ah dC) rfl ?_
 refine ar (az (nG gk rfl am aa aA (by(refine dK ?_;omega))) dD) rfl ?_;refine ar (ak (ai cS)) rfl<|ar (ak (ae (ai ft))) rfl<|ar (ak (ag (ai cR))) rfl ?_
 (refine ar (eU (ae aa) aa ?_) rfl ?_; · (unfold In64;omega))
 (refine ar (fA (ae (ag aa)) aa ?_) rfl ?_; · (unfold In64;omega))
 refine ar (ak (ae (ay cT))) rfl ?_
 (refine ar (fA (ae aa) aa ?_) rfl ?_; · (unfold In64;omega))
 (refine ar (eU (ae (ag (ai aa))) aa ?_) rfl ?_; · (unfold In64;omega))
 refine ar (ku jU am (ae (ag (ay aa))) (ag (ay aa)) ah dC) rfl ?_;refine aM (rH aa (ae aa) rfl rfl rfl am (TS _).symm (by(refine dK ?_;omega)) iZ rfl aA) trivial rfl (λiU a9=>?_);have an:=bo a9 am;simp only [pS,Value.cells,Nat.reduceAdd,dp,dx,Ti,gq,jz,jy,hgj,jt,ju,jC,jD,jE,jF,jG,jH]at an;have fw:=au a9 fo aD;have fx:=au a9 fp aD;have hS:=bh a9 hQ;clear a9 am fo fp;refine ik (aE (ae (ai (ay fq)))) (aE (ae (ai (ay fs)))) (aE (ae (ai (ay cQ)))) (aE (ae (ai (ay cR)))) (aE (ae (ai (ay cS)))) (aE (ae (ai (ay cT)))) (aE (ae (ai (ay fu)))) (aE (ae (ai (ay cV)))) ?_;clear fq cQ cR cS cT ft fu cV fs;intro iV fy fz fB fC fE fF fG cW;refine ao<|ax<|at_<|ar (ak cW) rfl<|ar (ak (ae fB)) rfl ?_
 (refine ar (cf aa aw ?_) rfl ?_; · (unfold In64;omega))
 refine ar (ku jU an (ag aa) aa ah dC) rfl ?_;refine ar (az (nG gk rfl an aa aA (by refine dK ?_;(simp only [dj];omega))) dD) rfl ?_;refine ar (ak (ae (ai fE))) rfl<|ar (ak (ag (ai fC))) rfl ?_
 (refine ar (fA (ae aa) aa ?_) rfl ?_; · (unfold In64;omega))
 refine ar (ak (ay fF)) rfl ?_
 (refine ar (fA (ae aa) aa ?_) rfl ?_; · (unfold In64;omega))
 (refine ar (eU (ae (ai aa)) aa ?_) rfl ?_; · (unfold In64;omega))
 refine ar (ku jU an (ag (ay aa)) (ay aa) ah dC) rfl ?_;refine aM (rH aa (ae aa) rfl rfl rfl an (TS _).symm (by refine dK ?_;(simp only [dj];omega)) iZ rfl aA) trivial rfl (λiW ba=>?_);have cX:=bo ba an;simp only [pS,Value.cells,Nat.reduceAdd,dp,dx,Ti,gq,jz,jy,hgj,jt,ju,jC,jD,jE,jF,jG,jH]at cX;have fH:=au ba fw aD;have fI:=au ba fx aD;have cY:=bh ba hS;clear ba an fw fx;refine bu (aE (ai (ay fy))) (aE (ai (ay fz))) (aE (ai (ay fG))) (aE (ai (ay cW))) ?_;clear fy fB fC fE fF fG cW fz;intro iX fJ fK fL fM;refine ao<|ax<|at_<|ar (cU bW sW sV sU rfl) rfl ?_
 refine aM (cJ vZ rfl cY) trivial rfl (λiY aO=>?_);have bB:=bS aO cY;simp only [pS,Value.cells,Nat.reduceAdd,dp,dx,Ti,gq,jz,jy,hgj,jt,ju,jC,jD,jE,jF,jG,jH]at bB;have fN:=aI aO cX;have fO:=aI aO fH;have fP:=aI aO fI;have cZ:=bR aO cY;have cZ:_=4:=cZ;clear aO cX fH fI;refine aM (bV aa (ae aa) rfl rfl bB sY rfl aA) trivial rfl (λc8 aP=>?_);have fT:=bo aP bB;simp only [pS,Value.cells,Nat.reduceAdd,dp,dx,Ti,gq,jz,jy,hgj,jt,ju,jC,jD,jE,jF,jG,jH]at fT;have c9:=au aP fN aD;have fU:=au aP fO aD;have fV:=au aP fP aD;have hU:=bh aP cZ;clear aP bB fN fO fP;refine ck (aE (ag fJ)) (aE (ag fK)) (aE (ag fL)) (aE (ag fM)) (aE aa) ?_;clear fJ fL fM fK;intro i6 fW fX fZ f0 ga;refine ao<|ax<|ax<|at_<|ar (ak f0) rfl<|ar (az (tN aa c9 rfl jU.1) ct) rfl ?_
 refine ar (ak aw) rfl<|fe (ae (ag fW)) (ae (ag fX)) (ae (ag fZ)) (ae (ag ga)) (ag aa) (ae aa) aa ?_;clear fW fZ f0 ga fX;intro aR gb gc gd ge gf gg hV
 refine ao<|ca<|eL (S:=(Int×Int×Int)) (λs e mem=>match s with|⟨i,lo,hi⟩=>(al e (.tmp 145)= .v (.int .i64 i))/\(al e (.tmp 0)=al aR (.tmp 0))/\(al e (.tmp 8)=al aR (.tmp 8))/\(al e (.tmp 16)=al aR (.tmp 16))/\(al e (.tmp 18)=al aR (.tmp 18))/\(al e (.tmp 143)=al aR (.tmp 143))/\(al e (.tmp 144)=al aR (.tmp 144))/\(mem[3]? =some (.box 42 [mA lo,mA hi]))/\(mem[2]? =c8[2]?)/\(mem[1]? =c8[1]?)/\(mem[0]? =c8[0]?)/\(∃ n,mem.length=n/\4<=n)/\((0<=i/\i<=l.js.length/\lo=mq mD (lR l L p j) l.js i.toNat/\hi=mq mE (lR l L p j) l.js i.toNat))) (λs=>match s with|⟨i,lo,hi⟩=>(l.js.length - i).toNat) ⟨_,_,_⟩ ⟨hV,rfl,rfl,rfl,rfl,rfl,rfl,fT,rfl,rfl,rfl,⟨_,hU,SR _⟩,?_⟩ ?_
 ·(exact⟨ah,ah,rfl,rfl⟩)
 ·rintro⟨i,lo,hi⟩ i7 i8 ⟨da,hW,hY,hZ,h6,h7,h8,aS,h9,ia,ib,⟨ja,bD,jb⟩,hinv⟩;have gh:=hW.trans gb;have gi:=hY.trans gc;have gl:=hZ.trans gd;have gm:=h6.trans ge;have gn:=h7.trans gf;have db:=h8.trans gg;have aT:=h9.trans c9;have bb:=ia.trans fU;have bE:=ib.trans fV
  (obtain⟨q1,q2,q3,q4⟩:=hinv)
  refine ax<|at_<|ar (c6 da db) rfl<|ik (ae gh) (ae gi) (ae gl) (ae gm) (ae gn) (ae db) (ae da) aa ?_;clear gh gn db da gl gm gi;intro jc dc bc be bg bH dd bj de
  refine ao<|ax<|bk de (λbq=>?_) (λbq=>?_)
  ·replace bq:=bt bq
   (have j2:=h.nC i.toNat ah;have w1:=rT (ws:=lR l L p j) (n:=l.js.length) (i:=i.toNat) ah;obtain⟨f1,f2,f3,f4,f5⟩:=Hf (w:=(lR l L p j).getD i.toNat default) (j:=l.js.getD i.toNat default) (Tm w1 s5) j2.1 ⟨j2.2.2.1,j2.2.2.2.1,j2.2.2.2.2⟩;clear w1;replace f3:=ji f3;replace f4:=ji f4;replace f5:=ji f5;clear f1 f2;have w2:=vX h (.inl rfl) s5 (n:=i.toNat) ah;have w3:=vX h bp s5 (n:=i.toNat) ah)
   refine bF<|ao<|ax<|ca<|ax<|at_<|ar (ak bj) rfl<|ar (ku jU aT (ae bH) (ae bj) ah dC) rfl ?_
   refine ar (az (nG gk rfl aT aa aA (by(refine dq ?_;omega))) dD) rfl ?_;refine ar (aB (ag aa)) rfl<|ar (aB (ae aa)) rfl<|lU (ae (ai dc)) (ae (ai bc)) (ae (ai be)) (ae (ai bg)) (ae aa) aa (ae (ai bH)) (ae (ai dd)) (ae (ai bj)) ?_;clear dc bH dd bj de be bg bc;intro jd df gp gr gt gu gv gw gx gy
   refine ao<|ax<|at_<|ar (ak df) rfl<|ar (fY aa) rfl<|ar (az (cj jj rfl aa) dD) rfl ?_
   refine ar (az (cj fk rfl aa) dD) rfl ?_;refine ar (az (bL Ee rfl aa aA) dD) rfl ?_;refine ar (ak (ae (ai gu))) rfl<|ar (az (cE Ec (ae aa) aa ah (by(refine dq ?_;omega))) dD) rfl ?_
   refine ar (az (bL NT rfl aa aA) dD) rfl ?_;refine aM (cJ v7 rfl bD) trivial rfl (λje ap=>?_);have bJ:=bS ap bD;simp only [pS,Value.cells,Nat.reduceAdd,dp,dx,Ti,gq,jz,jy,hgj,jt,ju,jC,jD,jE,jF,jG,jH]at bJ;have gz:=aI ap aS;have gA:=aI ap aT;have gB:=aI ap bb;have gC:=aI ap bE;have ic:=bR ap bD;clear ap aS aT bb bE;refine aM (bV aa (ae aa) rfl rfl bJ zS rfl aA) trivial rfl (λjf av=>?_);have aU:=bo av bJ;simp only [pS,Value.cells,Nat.reduceAdd,dp,dx,Ti,gq,jz,jy,hgj,jt,ju,jC,jD,jE,jF,jG,jH]at aU;have bK:=au av gz ah;have gD:=au av gA ah;have gE:=au av gB ah;have gF:=au av gC ah;have ie:=bh av ic;clear av bJ gz gA gB gC;refine lU (aE (ae (ay df))) (aE (ae (ay gp))) (aE (ae (ay gr))) (aE (ae (ay gt))) (aE (ae (ay gv))) (aE aa) (aE (ae (ay gw))) (aE (ae (ay gx))) (aE (ae (ay gy))) ?_;clear df gw gx gy gr gt gu gv gp;intro jg gG gH gI gJ bM bP gL gM gN;refine ao<|ax<|eu 12 aj aj aj aj ?_
   refine dr (ak bM) rfl<|dr (aJ kW rfl (ae bP)) rfl<|dr (aJ mM rfl aa) rfl<|dr (az (aK gk rfl aU aa aA) dD) rfl ?_
   (refine dr (fA (ae (ag aa)) aa ?_) rfl ?_; · (unfold In64;omega))
   refine dr (ak (ae (ai bM))) rfl<|dr (aJ kW rfl (ag (ai bP))) rfl<|dr (aJ mN rfl aa) rfl<|dr (az (aK gk rfl aU aa aA) dD) rfl ?_
   (refine dr (fA (ae (ag aa)) aa ?_) rfl ?_; · (unfold In64;omega))
   refine dr (aB (ae (ai aa))) rfl<|dr (aB (ae aa)) rfl<|dE<|tg (ai (ay gG)) (ai (ay gH)) (ai (ay gI)) (ai (ay gJ)) (ai (ay bM)) (ai (ay bP)) (ae aa) aa (ai (ay gL)) (ai (ay gM)) (ai (ay gN)) ?_;clear gG gL gM gN gI gJ bM bP gH;intro jh gO gP gQ bQ dg dh di dk gS gT gU
   refine ao<|ax<|at_<|ar (aJ mM rfl bQ) rfl<|ar (az (aK gk rfl bK aa aA) dD) rfl ?_
   refine ar (ak (ag dg)) rfl<|ar (aJ mO rfl (ae (ag dh))) rfl<|ar (az (aK gk rfl aU aa aA) dD) rfl ?_
   (refine ar (fA (ag aa) aa ?_) rfl ?_; · (unfold In64;omega))
   refine ar (ak (ag (ai di))) rfl<|ar (ak (ae (ag (ai dk)))) rfl<|ar (vK (ae aa) aa) rfl ?_
   (refine ar (cf (ae (ag aa)) aa ?_) rfl ?_; · (unfold In64;omega))
   (refine ar (cf (ay aa) aa ?_) rfl ?_; · (unfold In64;omega))
   refine ar (aJ mM rfl (ae (ag (ay bQ)))) rfl<|aM (bV aa (ae aa) rfl rfl bK iZ rfl aA) trivial rfl (λjk aC=>?_)
   have br:=bo aC bK;simp only [pS,Value.cells,Nat.reduceAdd,dp,dx,Ti,gq,jz,jy,hgj,jt,ju,jC,jD,jE,jF,jG,jH]at br;have dl:=au aC aU ah;have gV:=au aC gD aD;have gW:=au aC gE aD;have gX:=au aC gF aD;have ig:=bh aC ie;clear aC aU bK gD gE gF;refine tg (aE (ai (ay gO))) (aE (ai (ay gP))) (aE (ai (ay gQ))) (aE (ai (ay bQ))) (aE (ai (ay dg))) (aE (ai (ay dh))) (aE (ai (ay di))) (aE (ai (ay dk))) (aE (ai (ay gS))) (aE (ai (ay gT))) (aE (ai (ay gU))) ?_;clear gO gS gT gU gQ bQ dg dh di dk gP;intro jl gY gZ g1 bU g6 g7 g8 g9 hh hv hC;refine ao<|at_<|ar (aJ mN rfl bU) rfl<|ar (az (aK gk rfl br aa aA) dD) rfl ?_
   refine ar (ak (ag g6)) rfl<|ar (aJ mO rfl (ae (ag g7))) rfl<|ar (az (aK gk rfl dl aa aA) dD) rfl ?_
   (refine ar (fA (ag aa) aa ?_) rfl ?_; · (unfold In64;omega))
   refine ar (ak (ag (ai g8))) rfl<|ar (ak (ae (ag (ai g9)))) rfl<|ar (FX (ae aa) aa) rfl ?_
   (refine ar (cf (ae (ag aa)) aa ?_) rfl ?_; · (unfold In64;omega))
   (refine ar (cf (ay aa) aa ?_) rfl ?_; · (unfold In64;omega))
   refine ar (aJ mN rfl (ae (ag (ay bU)))) rfl<|aM (bV aa (ae aa) rfl rfl br iZ rfl aA) trivial rfl (λjm aF=>?_)
   have hD:=bo aF br;simp only [pS,Value.cells,Nat.reduceAdd,dp,dx,Ti,gq,jz,jy,hgj,jt,ju,jC,jD,jE,jF,jG,jH]at hD;have jo:=au aF dl ah;have ih:=au aF gV aD;have ij:=au aF gW aD;have il:=au aF gX aD;have im:=bh aF ig;clear aF br dl gV gW gX;refine fe (aE (ai (ay gY))) (aE (ai (ay gZ))) (aE (ai (ay g1))) (aE (ai (ay bU))) (aE (ai (ay hh))) (aE (ai (ay hv))) (aE (ai (ay hC))) ?_;clear gY hh hv hC g1 bU g6 g7 g8 g9 gZ;intro jp hE hF hG hH hI hJ hK;refine cG<|ao<|at_ ?_
   (refine ar (cf hK aw ?_) rfl ?_; · (unfold In64;omega))
   refine ar (ak aa) rfl<|fe (ag hE) (ag hF) (ag hG) (ag hH) (ag hI) (ag hJ) aa ?_;clear hE hI hJ hK hG hH hF;intro jq io ip iq ir iu iv ix
   refine ao<|⟨⟨_,_,_⟩,⟨ix,(io.trans gb.symm),(ip.trans gc.symm),(iq.trans gd.symm),(ir.trans ge.symm),(iu.trans gf.symm),(iv.trans gg.symm),hD,(ih.trans c9.symm),(ij.trans fU.symm),(il.trans fV.symm),⟨_,im,ah⟩,?_⟩,?_⟩
   ·(refine⟨ah,ah,?_,?_⟩<;>(rw [show(i+1).toNat =i.toNat+1 by omega];first|(rw [q3];rfl)|(rw [q4];rfl)))
   ·((try dsimp only);omega)
  replace bq:=bf bq
  (have hi':i.toNat=l.js.length:=ah;rw [hi']at q3 q4;have w2:=vX h (.inl rfl) s5 (n:=l.js.length) (SR _);have w3:=vX h bp s5 (n:=l.js.length) (SR _);have w5:=P9 (n:= -hi) d0 ah)
  refine dJ<|cw<|cw<|dI<|ao<|ax<|eu 11 aj aj aj aj ?_
  refine dr (aJ mM rfl bg) rfl<|dr (az (aK gk rfl aS aa aA) dD) rfl ?_
  refine dr (ak (ag be)) rfl<|dr (bI (aG (ae aa) (aG aa aN)) rfl (BN _ _ d0 ah) BP) rfl ?_
  refine dr (aJ mN rfl (ai bg)) rfl<|dr (az (aK gk rfl aS aa aA) dD) rfl ?_
  (refine dr (se aa ?_) rfl ?_; · (unfold In64;omega))
  refine dr (ak (ae (ag (ai be)))) rfl<|dr (bI (aG (ae aa) (aG aa aN)) rfl (BN _ _ d0 ah) BP) rfl ?_
  refine dr (FW aa) rfl<|dr (cU (bz (ag (ai aa)) (bz aa bW)) sW sV sU rfl) rfl ?_
  refine dE<|aM (bV (ae (ag (ay bc))) aa rfl rfl bb sY rfl aA) trivial rfl (λjr aV=>?_)
  have dm:=bo aV bb;simp only [pS,Value.cells,Nat.reduceAdd,dp,dx,Ti,gq,jz,jy,hgj,jt,ju,jC,jD,jE,jF,jG,jH]at dm;have iy:=au aV aS aD;have iz:=au aV aT aD;have iA:=au aV bE aD;have iB:=bh aV bD;clear aV aS aT bb bE;refine bn (aE (ae (ag (ay bc)))) ?_;clear dc bH dd bj de be bg bc;intro jv hM;refine ao<|bm<|bX bp aj (dz hM dm NR aA aL) (eh (.ro _ rfl)) ?_
  clear hM dm iy iz iA iB
  (rw [q4]at w5;rw [q3,q4,wrap_in (by unfold In64;omega)];rfl)
theorem NU:(Tryz.prog.info? 84).bind (·.zero)=some (.pointer none):=by kernel_rfl
theorem uU:wE Tryz.prog 47 2 1:=⟨aj,aj⟩
theorem K2:∀ args w,(callFunc 30 args).run Tryz.prog w= .ok (.enter 30 args) w:=λ_ _=>by kernel_rfl
theorem K3:∀ args w,(callFunc 31 args).run Tryz.prog w= .ok (.enter 31 args) w:=λ_ _=>by kernel_rfl
theorem K4:∀ args w,(callFunc 32 args).run Tryz.prog w= .ok (.enter 32 args) w:=λ_ _=>by kernel_rfl
theorem K5:∀ args w,(callFunc 56 args).run Tryz.prog w= .ok (.enter 56 args) w:=λ_ _=>by kernel_rfl
theorem Eg:b9 Tryz.prog 64 3 1 8 (.int .i64 0):=⟨aj,aj,aj⟩
theorem NV:(Tryz.prog.info? 84).map (·.size)=some 1:=by kernel_rfl
theorem NW:aV Tryz.prog 27 true 4:=⟨aj,aj⟩
theorem nS:aV Tryz.prog 3 false 1:=⟨aj,aj⟩
theorem Eh:aV Tryz.prog 30 false 1:=⟨aj,aj⟩
theorem Ei:aV Tryz.prog 42 true 2:=⟨aj,aj⟩
theorem ym:aV Tryz.prog 46 true 3:=⟨aj,aj⟩
theorem NX:aV Tryz.prog 64 false 1:=⟨aj,aj⟩
theorem yn:aV Tryz.prog 84 false 1:=⟨aj,aj⟩
theorem FM{p:Nat->Bool}{i:Nat}(hp:p i=true):∀ {n:Nat},i<n->((List.range n).filter p)[((List.range i).filter p).length]? =some i
 | n+1,hi=>by
  rw [UK,List.filter_append]
  by_cases h:i=n
  ·subst h;rw [S1 (SR _)];simp [hp]
  ·have ih:=FM hp (n:=n) ah;rw [SX (SN.1 ih).1];exact ih
theorem BQ{p:Nat->Bool}{i:Nat}:((List.range (i+1)).filter p).length =((List.range i).filter p).length +if p i then 1 else 0:=by
 rw [UK,List.filter_append,Tq];cases h:p i<;>simp [h]
def kN(l:bN)(L p:Int)(i:Nat):Bool:=decide (p<cy l.bs i)&&decide (cy l.bs i<p+L)
def lS(l:bN)(L p:Int):List Nat:=(List.range l.js.length).filter (kN l L p)
def nq(l:bN)(L p:Int):List (List AV):=(lS l L p).map λ(i:Nat)=> [mA (i:Int)]
theorem Ej(l:bN)(L p:Int):(nq l L p).length =(lS l L p).length :=by simp [nq]
theorem NY{l:bN}{L p:Int}:∀ y∈nq l L p,y.length=1:=by
 intro y hy;obtain⟨_,_,rfl⟩:=TG.1 hy;rfl
theorem Qa{l:bN}{L p j:Int}{i:Nat}(h0:0<=j)(hj:j<l.js.length)(h1:p<cy l.bs j.toNat)(h2:cy l.bs j.toNat<p+L)(hi:i=((List.range j.toNat).filter (kN l L p)).length):(nq l L p)[i]? =some [.v (.int .i64 j)]:=by
 subst hi;unfold nq lS;rw [SU,FM (by unfold kN;simp [h1,h2]) ah];simp;omega
theorem NZ{l:bN}{L p j:Int}(h0:0<=j)(h1:p<cy l.bs j.toNat)(h2:cy l.bs j.toNat<p+L):((List.range (j+1).toNat).filter (kN l L p)).length =((List.range j.toNat).filter (kN l L p)).length +1:=by
 rw [show(j+1).toNat =j.toNat+1 by omega,BQ,if_pos];unfold kN;simp [h1,h2]
theorem FN{l:bN}{L p j:Int}(h0:0<=j)(h:¬ (p<cy l.bs j.toNat/\cy l.bs j.toNat<p+L)):((List.range (j+1).toNat).filter (kN l L p)).length =((List.range j.toNat).filter (kN l L p)).length :=by
 rw [show(j+1).toNat =j.toNat+1 by omega,BQ,if_neg];rfl;unfold kN;simp;omega
theorem Qb{l:bN}{L p:Int}{i:Nat}{y:AV}(h:(nq l L p)[i]? =some [y]):∃ s:Nat,(lS l L p)[i]? =some s/\y=mA (s:Int)/\s<l.js.length/\p<cy l.bs s/\cy l.bs s<p+L:=by
 unfold nq at h;rw [SU]at h;cases hs:(lS l L p)[i]? with
 | none=>rw [hs]at h;cases h
 | some s=>
  rw [hs]at h;simp only [Option.map_some,Option.some.injEq,List.cons.injEq,and_true]at h;have hm:=S9 hs;unfold lS at hm;rw [List.mem_filter]at hm;obtain⟨h1,h2⟩:=hm;unfold kN at h2;simp at h1 h2;exact⟨s,rfl,h.symm,h1,h2.1,h2.2⟩
theorem Ic(l:bN)(h:eZ l)(L c s p:Int)(hL:1000<=L/\L<=30000)(hp:0<=p/\p<=1200000):wo Tryz.prog 56 [] [.ref [ko l],.ref [mA p],.ref [mA L,mA c,mA s]] (nq l L p):=by
 refine Qp (fn:=Tryz.f56) 35 aj rfl aj bO (λ_ _=>⟨.tuple #[],aj⟩) ?_;intro lb_ aT hA;have a8:al aT (.tmp 0)=_:=hA 0 _ rfl;have a9:al aT (.tmp 1)=_:=hA 1 _ rfl;have ba:al aT (.tmp 2)=_:=hA 2 _ rfl;have bb:al aT (.tmp 3)=_:=hA 3 _ rfl;clear hA;have hn1:=h.n1;have hn0:=h.n0;have hjs:=h.js;have hpl:=pa (bs:=l.bs) (n:=l.bs.length);refine qY<|pv ?_
 refine dO (λ_=>(az (bL yn rfl a9 aA) bQ)) trivial rfl ?_;refine dO (λ_=>(fY aa)) trivial rfl ?_;refine dO (λ_=>(az (cj l4 rfl aa) bQ)) trivial rfl ?_;refine dO (λ_=>(az (bL NX rfl aa aA) bQ)) trivial rfl ?_;refine dO (λ_=>(az (cx aa rfl Eg.1) ct)) trivial rfl ?_;refine dO (λ_=>(ak aw)) trivial rfl ?_;refine l9 (λaM aF=>?_);have aU:=ef 0 aF (ag (ai a8));have aV:=ef 2 aF (ag (ai ba));have aX:=ef 3 aF (ag (ai bb));have aZ:=ef 10 aF (ag aa);have a2:=ef 11 aF (ae aa);have bV:=ef 12 aF aa;clear aF a8 a9 ba bb;refine jX<|Cd<|OJ (S:=Int) (λj e b i=>(al e (.tmp 12)= .v (.int .i64 j))/\(al e (.tmp 0)=al aM (.tmp 0))/\(al e (.tmp 2)=al aM (.tmp 2))/\(al e (.tmp 3)=al aM (.tmp 3))/\(al e (.tmp 10)=al aM (.tmp 10))/\(al e (.tmp 11)=al aM (.tmp 11))/\(b=true)/\(i=((List.range j.toNat).filter (kN l L p)).length)/\((0<=j/\j<=l.js.length))) (λj=>(l.js.length - j).toNat) _ ⟨bV,rfl,rfl,rfl,rfl,rfl,rfl,dY,?_⟩ ?_
 ·(exact⟨ah,ah⟩)
 ·rintro j cv _ cw ⟨a5,bW,bX,bY,bZ,b0,rfl,hix,hinv⟩;have bc:=bW.trans aU;have be:=bX.trans aV;have bg:=bY.trans aX;have bh:=bZ.trans aZ;have a6:=b0.trans a2
  (have p1:=hinv.1;have p2:=hinv.2)
  refine qY<|pv ?_
  refine dO (λ_=>(c6 a5 a6)) trivial rfl ?_;refine l9 (λcy ap=>?_);have bj:=ef 0 ap (ae bc);have bk:=ef 2 ap (ae be);have bm:=ef 3 ap (ae bg);have a7:=ef 10 ap (ae bh);have bn:=ef 11 ap (ae a6);have a3:=ef 12 ap (ae a5);have bo:=ef 13 ap aa;clear ap bc bh a6 a5 be bg;refine jX<|qY<|yC bo (λaO=>?_) (λaO=>?_)
  ·replace aO:=bt aO
   (have hgj:=kV (bs:=l.bs) (n:=l.bs.length) (j:=j.toNat) ah)
   refine u6<|jX<|qY<|Cd<|qY<|pv ?_
   refine dO (λ_=>(ak a3)) trivial rfl ?_;refine dO (λ_=>(az (cE Eg (ae a7) (ae a3) ah (by(refine dq ?_;omega))) bQ)) trivial rfl ?_;refine dO (λ_=>(az (bL nS rfl aa aA) bQ)) trivial rfl ?_;refine dO (λ_=>(aB (ag aa))) trivial rfl ?_;refine dO (λ_=>(aB (ae aa))) trivial rfl ?_;refine l9 (λcz am=>?_);have an:=ef 0 am (ae (ai bj));have af:=ef 2 am (ae (ai bk));have ao:=ef 3 am (ae (ai bm));have aP:=ef 5 am (ae aa);have aL:=ef 6 am aa;have ar:=ef 10 am (ae (ai a7));have au:=ef 11 am (ae (ai bn));have av:=ef 12 am (ae (ai a3));clear am bj a7 bn a3 bo bk bm;refine jX<|qY<|pv ?_
   refine dO (λ_=>(ak aL)) trivial rfl ?_;refine dO (λ_=>(az (bL nS rfl (ae af) aA) bQ)) trivial rfl ?_;refine dO (λ_=>(eF (ae aa) aa)) trivial rfl ?_;refine dO (λ_=>(ak aa)) trivial rfl ?_;refine EO aa (λab aR=>?_) (λab aR=>?_)
   ·replace aR:=bt aR;refine dO (λ_=>(ak (ai aL))) ⟨_,rfl,ab⟩ rfl ?_;refine dO (λ_=>(az (bL nS rfl (ae (ai af)) aA) bQ)) ⟨_,rfl,(ae ab)⟩ rfl ?_;refine dO (λ_=>(az (cj pd rfl (ag (ai ao))) bQ)) ⟨_,rfl,(ag ab)⟩ rfl ?_;refine dO (λ_=>(az (bL nS rfl aa aA) bQ)) ⟨_,rfl,(ae (ag ab))⟩ rfl ?_
    (refine dO (λ_=>(cf (ag aa) aa ?_)) ⟨_,rfl,(ai ab)⟩ rfl ?_; · (unfold In64;omega))
    refine dO (λ_=>(c6 (ai aa) aa)) ⟨_,rfl,(ae (ai ab))⟩ rfl ?_;refine dO (λ_=>(bq (ag (ai ab)) aa)) trivial rfl ?_;refine dO (λ_=>(ak aa)) trivial rfl ?_;refine EO aa (λad aS=>?_) (λad aS=>?_)
    ·replace aS:=bt aS;refine dO (λ_=>(ak (ai (ay an)))) ⟨_,rfl,ad⟩ rfl ?_;refine dO (λ_=>(ak (ae (ai (ay aP))))) ⟨_,rfl,(ae ad)⟩ rfl ?_;refine Jp (ae aa) (aG aa aN) rfl ⟨_,rfl,(ag ad)⟩ rfl (by exact Qa p1 ah ah ah hix) ?_ ?_
     ·
      refine dO (λ_=>(dT aa)) ⟨_,rfl,(ae (ag ad))⟩ rfl ?_;refine dO (λ_=>(bq (ai ad) aa)) trivial rfl ?_;refine l9 (λcA ax=>?_);have bp:=ef 0 ax (ae (aH an));have bu:=ef 2 ax (ae (aH af));have bv:=ef 3 ax (ae (aH ao));have bw:=ef 10 ax (ae (aH ar));have bx:=ef 11 ax (ae (aH au));have bz:=ef 12 ax (ae (aH av));have bA:=ef 33 ax aa;clear ax ab ad an ar au av af ao aP aL;refine jX<|xN bA ?_
      refine u6<|xO<|jX<|pv ?_
      (refine dO (λ_=>(cf bz aw ?_)) trivial rfl ?_; · (unfold In64;omega))
      refine dO (λ_=>(ak aa)) trivial rfl ?_;refine l9 (λcB aI=>?_);have b1:=ef 0 aI (ag bp);have b2:=ef 2 aI (ag bu);have b6:=ef 3 aI (ag bv);have b7:=ef 10 aI (ag bw);have b8:=ef 11 aI (ag bx);have b9:=ef 12 aI aa;clear aI bp bw bx bz bu bA bv;refine jX<|⟨_,⟨b9,(b1.trans aU.symm),(b2.trans aV.symm),(b6.trans aX.symm),(b7.trans aZ.symm),(b8.trans a2.symm),rfl,(by(rw [hix,NZ hinv.1 ah ah];done)),?_⟩,?_⟩
      ·(exact⟨ah,ah⟩)
      ·((try dsimp only);omega)
     ·
      refine dO (λ_=>(dT aa)) ⟨_,rfl,(ae (ag ad))⟩ rfl ?_;refine dO (λ_=>(bq (ai ad) aa)) trivial rfl ?_;refine l9 (λcC aC=>?_);have cD:=ef 0 aC (ae (aH an));have cF:=ef 2 aC (ae (aH af));have cG:=ef 3 aC (ae (aH ao));have cH:=ef 10 aC (ae (aH ar));have cI:=ef 11 aC (ae (aH au));have cJ:=ef 12 aC (ae (aH av));have ca:=ef 33 aC aa;clear aC ab ad an ar au av af ao aP aL;refine jX<|OH ca ?_
      refine Qo<|Ce<|EN<|EN<|Ce<|Rm (λhb_=>(by cases hb_))
    replace aS:=bf aS;refine jY ⟨_,rfl,.inl ad⟩ rfl ?_;refine jY ⟨_,rfl,.inl (ae ad)⟩ rfl ?_;refine jY ⟨_,rfl,.inl (ag ad)⟩ rfl ?_;refine jY ⟨_,rfl,.inl (ae (ag ad))⟩ rfl ?_;refine dO (λ_=>(br (ai ad) aw)) trivial rfl ?_;refine l9 (λcK aD=>?_);have bB:=ef 0 aD (ae (aH an));have bD:=ef 2 aD (ae (aH af));have bE:=ef 3 aD (ae (aH ao));have bF:=ef 10 aD (ae (aH ar));have bH:=ef 11 aD (ae (aH au));have bI:=ef 12 aD (ae (aH av));have bJ:=ef 33 aD aa;clear aD ab ad an ar au av af ao aP aL;refine jX<|xN bJ ?_
    refine u6<|xO<|jX<|pv ?_
    (refine dO (λ_=>(cf bI aw ?_)) trivial rfl ?_; · (unfold In64;omega))
    refine dO (λ_=>(ak aa)) trivial rfl ?_;refine l9 (λcL aJ=>?_);have cb:=ef 0 aJ (ag bB);have cc:=ef 2 aJ (ag bD);have cd:=ef 3 aJ (ag bE);have ce:=ef 10 aJ (ag bF);have cg:=ef 11 aJ (ag bH);have ci:=ef 12 aJ aa;clear aJ bB bF bH bI bD bJ bE;refine jX<|⟨_,⟨ci,(cb.trans aU.symm),(cc.trans aV.symm),(cd.trans aX.symm),(ce.trans aZ.symm),(cg.trans a2.symm),rfl,(by(rw [hix,FN hinv.1 ah];done)),?_⟩,?_⟩
    ·(exact⟨ah,ah⟩)
    ·((try dsimp only);omega)
   replace aR:=bf aR;refine jY ⟨_,rfl,.inl ab⟩ rfl ?_;refine jY ⟨_,rfl,.inl (ae ab)⟩ rfl ?_;refine jY ⟨_,rfl,.inl (ag ab)⟩ rfl ?_;refine jY ⟨_,rfl,.inl (ae (ag ab))⟩ rfl ?_;refine jY ⟨_,rfl,.inl (ai ab)⟩ rfl ?_;refine jY ⟨_,rfl,.inl (ae (ai ab))⟩ rfl ?_;refine dO (λ_=>(br (ag (ai ab)) aw)) trivial rfl ?_;refine dO (λ_=>(ak aa)) trivial rfl ?_;refine jY ⟨_,rfl,.inl aa⟩ rfl ?_;refine jY ⟨_,rfl,.inl (ae aa)⟩ rfl ?_;refine jY ⟨_,rfl,.inl (ag aa)⟩ rfl ?_;refine jY ⟨_,rfl,.inl (ae (ag aa))⟩ rfl ?_;refine dO (λ_=>(br (ai aa) aw)) trivial rfl ?_;refine l9 (λcM aE=>?_);have bK:=ef 0 aE (ae (aH an));have bM:=ef 2 aE (ae (aH af));have bP:=ef 3 aE (ae (aH ao));have bR:=ef 10 aE (ae (aH ar));have bS:=ef 11 aE (ae (aH au));have bT:=ef 12 aE (ae (aH av));have bU:=ef 33 aE aa;clear aE ab an ar au av af ao aP aL;refine jX<|xN bU ?_
   refine u6<|xO<|jX<|pv ?_
   (refine dO (λ_=>(cf bT aw ?_)) trivial rfl ?_; · (unfold In64;omega))
   refine dO (λ_=>(ak aa)) trivial rfl ?_;refine l9 (λcN aK=>?_);have ck:=ef 0 aK (ag bK);have cm:=ef 2 aK (ag bM);have co:=ef 3 aK (ag bP);have cq:=ef 10 aK (ag bR);have cr:=ef 11 aK (ag bS);have cu:=ef 12 aK aa;clear aK bK bR bS bT bM bU bP;refine jX<|⟨_,⟨cu,(ck.trans aU.symm),(cm.trans aV.symm),(co.trans aX.symm),(cq.trans aZ.symm),(cr.trans a2.symm),rfl,(by(rw [hix,FN hinv.1 ah];done)),?_⟩,?_⟩
   ·(exact⟨ah,ah⟩)
   ·((try dsimp only);omega)
  replace aO:=bf aO;refine OI<|EM<|EM<|IN ?_
  refine Rl (λhb_=>?_)
  (rw [hix,Ej];unfold lS;rw [show j.toNat=l.js.length by omega];done)
theorem Jl(l:bN)(L c s p:Int):bT Tryz.prog 31 [ko l,rB L c s,mA p] (λq=>q= .clo (.func 56) [] [.ref [ko l],.ref [mA p],.ref [mA L,mA c,mA s]]):=by
 refine cA (fn:=Tryz.f31) 8 aj rfl aj bO ?_;intro ai aO hA ap;have au:al ai (.tmp 0)=_:=hA 0 _ rfl;have av:al ai (.tmp 1)=_:=hA 1 _ rfl;have ay:al ai (.tmp 2)=_:=hA 2 _ rfl;have ak:aO.length=0:=by rw [ap];rfl
 clear hA ap;refine ax<|at_<|aM (fD au rfl ak) trivial rfl (λaP am=>?_)
 have az:=bS am ak
 (skip)
 have ab:=bR am ak;have ab:_=1:=ab;clear am;refine aM (fD (ae av) rfl ab) trivial rfl (λaS ah=>?_);have aA:=bS ah ab
 (skip)
 have aC:=aI ah az;have ad:=bR ah ab;have ad:_=2:=ad;clear ah az;refine aM (fD (ag ay) rfl ad) trivial rfl (λaT af=>?_);have aD:=bS af ad
 (skip)
 have aE:=aI af aA;have aF:=aI af aC;have an:=bR af ad;have an:_=3:=an;clear af aA aC;refine ar (aB aw) rfl<|bB (ae (ag aa)) (ag aa) (ae aa) ?_;clear au av ay;intro aU aH aJ aK
 refine ao<|ax<|at_<|ar (kT aN (aG aH (aG aK (aG aJ aN)))) rfl<|ar (aB aa) rfl<|bn aa ?_;clear aH aJ aK;intro aV aL
 refine ao<|bm<|bX bp aj (aR aL) (Qi gG (cQ (zx aF (cQ (.ro _ rfl) gG)) (cQ (zx aD (cQ (.ro _ rfl) gG)) (cQ (zx aE (cQ (.ro _ rfl) (cQ (.ro _ rfl) (cQ (.ro _ rfl) gG)))) gG)))) ?_
 clear aL aD aE aF an;rfl
def rD(l:bN)(L p j:Int):Bool:=decide (0<=j)&&decide (j<l.js.length)&&kN l L p j.toNat
def tH(l:bN)(L p j:Int)(i:Nat):Prop:=∀ k:Nat,k<i-> ∀ n:Nat,(lS l L p)[k]? =some n->(n:Int)≠j
theorem tH.step{l:bN}{L p j:Int}{i n:Nat}(h:tH l L p j i)(hn:(lS l L p)[i]? =some n)(hne:¬ (n:Int)=j):tH l L p j (i+1):=λk hk m hm=>by
 by_cases hki:k=i
 ·subst hki;rw [hn]at hm;cases hm;exact hne
 ·exact h k ah m hm
theorem N1{l:bN}{L p j:Int}{n:Nat}(hj:(n:Int)=j)(n1:n<l.js.length)(n2:p<cy l.bs n)(n3:cy l.bs n<p+L):rD l L p j=true:=by
 subst hj;simp [rD,kN,n1,n2,n3]
theorem Qc{l:bN}{L p j:Int}(h:tH l L p j (nq l L p).length):rD l L p j=false:=by
 cases hb:rD l L p j with
 | false=>rfl
 | true=>
  unfold rD at hb;simp only [SS,decide_eq_true_eq]at hb;obtain⟨⟨h0,h1⟩,h2⟩:=hb;have hm:j.toNat∈lS l L p:=by
   unfold lS;rw [List.mem_filter];exact⟨T0.2 ah,h2⟩
  obtain⟨k,hk⟩:=List.mem_iff_getElem?.1 hm;have hlt:=(SN.1 hk).1;exact absurd (show((j.toNat:Nat):Int)=j by omega) (h k (by rw [Ej];exact hlt) _ hk)
theorem HD(l:bN)(hl:fw l)(hg:(cg l).2=0)(L c s p j:Int)(hv:mn L c s=0)(hp:rC l L s p=0):bT Tryz.prog 11 [gA l,rB L c s,.agg [mA p,mA j]] (λq=>q=if rD l L p j then .tuple [.agg [mA (Hg l L p j.toNat),mA (Hh l L p j.toNat)],mA 0]else .tuple [.agg [mA 0,mA 0],mA 6]):=by
 refine cA (fn:=Tryz.f11) 40 aj rfl aj bO ?_;intro bn dF hA cr;have ct:al bn (.tmp 0)=_:=hA 0 _ rfl;have cu:al bn (.tmp 1)=_:=hA 1 _ rfl;have cv:al bn (.tmp 2)=_:=hA 2 _ rfl;have bq:dF.length=0:=by rw [cr];rfl
 clear hA cr;have h:=pH hg;have hv2:=GF.1 hv;have hp2:=Q9.1 hp;have hpb:=h.qc (n:=l.bs.length) (SR _);refine ax<|at_<|aM (fD ct rfl bq) trivial rfl (λea br=>?_)
 have cw:=bS br bq;have aX:=bR br bq;have aX:_=1:=aX;clear br;refine aM (fD (ae cu) rfl aX) trivial rfl (λeb ba=>?_);have cx:=bS ba aX;have cy:=aI ba cw;have aZ:=bR ba aX;have aZ:_=2:=aZ;clear ba cw;refine aM (fD (ag cv) rfl aZ) trivial rfl (λec a2=>?_);have cz:=bS a2 aZ;have cB:=aI a2 cx;have cC:=aI a2 cy;have a3:=bR a2 aZ;have a3:_=3:=a3;clear a2 cx cy;refine aM (cJ vZ rfl a3) trivial rfl (λed aP=>?_);have bu:=bS aP a3;simp only [pS,Value.cells,Nat.reduceAdd]at bu;have cE:=aI aP cz;have cH:=aI aP cB;have cI:=aI aP cC;have a5:=bR aP a3;have a5:_=4:=a5;clear aP cz cB cC;refine aM (cJ zQ rfl a5) trivial rfl (λee aH=>?_);have bv:=bS aH a5;simp only [pS,Value.cells,Nat.reduceAdd]at bv;have cK:=aI aH bu;have bx:=aI aH cE;have bz:=aI aH cH;have bA:=aI aH cI;have a6:=bR aH a5;have a6:_=5:=a6;clear aH bu cE cH cI;refine ck (ai aa) (ae (ag aa)) (ag aa) (ae aa) aa ?_;clear ct cu cv;intro eg cL bB bE cM cN;refine ao<|ax<|at_<|ar (az (aK NW rfl bA cL aA) bQ) rfl ?_
 refine ar (az (aK ym rfl bz (ae bB) aA) bQ) rfl ?_;refine ar (lI uU (ag bE) aw rfl) rfl<|ar (az (aK nS rfl bx aa aA) bQ) rfl ?_
 refine ar (bI (aG (ae (ag aa)) (aG (ag aa) (aG aa aN))) rfl (HS l hl hg L c s p hv) K2) rfl<|ar (ak aa) rfl<|ar (cF aa rfl) rfl<|ar (cF (ae aa) rfl) rfl<|aM (cJ NU rfl a6) trivial rfl (λen ab=>?_)
 have bb:=bS ab a6;simp only [pS,Value.cells,Nat.reduceAdd]at bb;have cO:=aI ab bv;have cP:=aI ab cK;have cQ:=aI ab bx;have cR:=aI ab bz;have cS:=aI ab bA;have bH:=bR ab a6;have bH:_=6:=bH;clear ab bv cK bx bz bA;refine aM (bV aa (ag aa) rfl rfl bb NV rfl aA) trivial rfl (λaR ad=>?_);have a7:=bo ad bb;simp only [pS,Value.cells,Nat.reduceAdd]at a7;have bJ:=au ad cO aD;have bK:=au ad cP aD;have bc:=au ad cQ aD;have be:=au ad cR aD;have bL:=au ad cS aD;have dG:=bh ad bH;clear ad bb cO cP cQ cR cS;refine ar (aB (aE (ae aa))) rfl<|dH (ae (aE (ae (ay bB)))) (ae (aE (ae (ay bE)))) (ae (aE (ae (ay cM)))) (ae (aE (ae (ay cN)))) (ae (aE aa)) aa ?_;clear cL bB bE cM cN;intro ep cT cV cW cX cY bM
 refine ao<|ax<|ax<|at_<|ar (ak bM) rfl<|ar (fp aa aw) rfl<|fe (ag cT) (ag cV) (ag cW) (ag cX) (ag cY) (ag bM) aa ?_;clear cT cV cW cX cY bM;intro er bP bU cZ c6 bX dI c7
 refine ao<|bk c7 (λa8=>?_) (λa8=>?_)
 ·replace a8:=ff a8;exfalso;omega
 replace a8:=eY a8;refine bF<|ao<|ax<|ax<|at_<|ar (az (aK yn rfl a7 bX aA) bQ) rfl ?_
 refine ar (az (aK ym rfl be (ae bP) aA) bQ) rfl ?_;refine ar (lI uU (ag bU) aw rfl) rfl<|ar (az (aK nS rfl bc aa aA) bQ) rfl ?_
 refine ar (bI (aG (ae (ag aa)) (aG (ag aa) (aG aa aN))) rfl (Jl l L c s p) K3) rfl<|dH (ae (ai bP)) (ae (ai bU)) (ae (ai cZ)) (ae (ai c6)) (ae (ai bX)) aa ?_;clear c7 bP bU cZ c6 bX dI;intro eu bY bZ aS aT b0 bg
 refine ao<|ca<|Jq bg (Ic l h L c s p hv2.1 ah) K5 (by exact NY) bO (λi mem=>(mem[5]? =aR[5]?)/\(mem[4]? =aR[4]?)/\(mem[3]? =aR[3]?)/\(mem[2]? =aR[2]?)/\(mem[1]? =aR[1]?)/\(mem[0]? =aR[0]?)/\(mem.length=6)/\((tH l L p j i))) ⟨rfl,rfl,rfl,rfl,rfl,rfl,dG,?_⟩ ?_ ?_
 ·(intro k hk;omega)
 ·rintro ev ew dJ dK ⟨b1,b2,b6,b7,b8,b9,bj,hinv⟩
  (obtain⟨n,hn,rfl,n1,n2,n3⟩:=Qb dK;have hq:Pos l L p n:=⟨ah,ah,ah,ah,ah,ah,n1⟩)
  have aJ:=b1.trans a7;have aU:=b2.trans bJ;have af:=b6.trans bK;have am:=b7.trans bc;have aO:=b8.trans be;have aV:=b9.trans bL;refine vN (λey an=>?_);have c8:=ef 4 an (ae bY);have c9:=ef 5 an (ae bZ);have da:=ef 6 an (ae aS);have db:=ef 7 an (ae aT);have dc:=ef 8 an (ae b0);have dL:=ef 27 an (ae bg);have dd:=ef 28 an aa;clear an;refine at_<|ar (aB dd) rfl<|dH (ae c8) (ae c9) (ae da) (ae db) (ae dc) aa ?_;clear dL dd c8 c9 da db dc;intro ez de cb df dg dh cc
  refine OK ?_;refine ca<|ax<|at_<|ar (ak cc) rfl<|ar (lI uU (ae cb) aw rfl) rfl<|ar (az (aK nS rfl am aa aA) bQ) rfl ?_
  refine ar (dN (ag aa) aa) rfl ?_;refine fe (ai de) (ai cb) (ai df) (ai dg) (ai dh) (ai cc) aa ?_;clear cc de cb df dg dh;intro eA di dk cd ce dl dm dn;refine ao<|bk dn (λa9=>?_) (λa9=>?_)
  ·replace a9:=bt a9;refine ax<|at_<|ar (az (aK yn rfl aJ dl aA) bQ) rfl ?_
   refine ar (az (aK ym rfl aO (ae di) aA) bQ) rfl ?_;refine ar (lI uU (ag dk) aw rfl) rfl<|ar (az (aK nS rfl am aa aA) bQ) rfl ?_
   refine ar (ak (ai dm)) rfl<|ar (bI (aG (ai aa) (aG (ae (ag aa)) (aG (ae aa) (aG aa aN)))) rfl (Ib l h L c s p n hq) K4) rfl<|aM (bV (ag (ai cd)) aa rfl rfl af sY rfl aA) trivial rfl (λeB ap=>?_)
   have cf:=bo ap af;simp only [pS,Value.cells,Nat.reduceAdd]at cf;have dq:=au ap aJ aD;have ci:=au ap aU aD;have dr:=au ap am aD;have dt:=au ap aO aD;have du:=au ap aV aD;have dM:=bh ap bj;clear ap aJ aU af am aO aV;refine aM (bV (aE (ag (ai ce))) aw rfl rfl ci sX rfl aA) trivial rfl (λeC av=>?_);have cj:=bo av ci;simp only [pS,Value.cells,Nat.reduceAdd]at cj;have dv:=au av cf aD;have dO:=au av dq aD;have dQ:=au av dr aD;have dR:=au av dt aD;have dS:=au av du aD;have dT:=bh av dM;clear av cf dq ci dr dt du;refine bD (aE (aE (ag (ai cd)))) (aE (aE (ag (ai ce)))) ?_;clear dm dn di dk cd ce dl;intro eD eE eF;refine ao<|bm<|cD<|Ro<|cD<|bw<|dP bp aj (dz aS dv Ei aA aL) (dz aT cj Eh aA aL) (eh (.ro _ rfl)) (ti (.ro _ rfl)) ?_
   clear bg bY bZ aS aT b0 cj dv dO dQ dR dS dT
   (have hj:(n:Int)=j:=(by assumption);rw [if_pos (N1 hj n1 n2 n3), <- hj];rfl)
  replace a9:=bf a9;refine bF<|cG<|Rn ⟨(aJ.trans a7.symm),(aU.trans bJ.symm),(af.trans bK.symm),(am.trans bc.symm),(aO.trans be.symm),(aV.trans bL.symm),bj,?_⟩
  (exact hinv.step hn (by assumption))
 ·rintro dJ ⟨b1,b2,b6,b7,b8,b9,bj,hinv⟩;have aJ:=b1.trans a7;have aU:=b2.trans bJ;have af:=b6.trans bK;have am:=b7.trans bc;have aO:=b8.trans be;have aV:=b9.trans bL;refine cG<|ao<|ax<|at_<|ar (cU bW sW sV sU rfl) rfl ?_
  refine aM (bV (ae aS) aa rfl rfl af sY rfl aA) trivial rfl (λeG aC=>?_);have cm:=bo aC af;simp only [pS,Value.cells,Nat.reduceAdd]at cm;have dw:=au aC aJ aD;have co:=au aC aU aD;have dy:=au aC am aD;have dA:=au aC aO aD;have dB:=au aC aV aD;have dU:=bh aC bj;clear aC aJ aU af am aO aV;refine aM (bV (aE (ae aT)) aw rfl rfl co sX rfl aA) trivial rfl (λeH aF=>?_);have cq:=bo aF co;simp only [pS,Value.cells,Nat.reduceAdd]at cq;have dC:=au aF cm aD;have dV:=au aF dw aD;have dW:=au aF dy aD;have dX:=au aF dA aD;have dY:=au aF dB aD;have dZ:=bh aF dU;clear aF cm dw co dy dA dB;refine bD (aE (aE (ae aS))) (aE (aE (ae aT))) ?_;clear bg bY bZ aS aT b0;intro eI dD dE;refine ao<|bm<|dP bp aj (dz dD dC Ei aA aL) (dz dE cq Eh aA aL) (eh (.ro _ rfl)) (ti (.ro _ rfl)) ?_
  clear dD dE cq dC dV dW dX dY dZ
  (rw [if_neg (by rw [Qc hinv];decide)];rfl)
structure Ar (a b:gB):Prop where
 acr:b.acr=a.acr
 up:b.up=a.up
 lo:a.lo<=b.lo
 le:b.lo<=b.hi
 hi:b.hi<=a.hi
structure wK (l m:bN):Prop where
 nam:m.nam=l.nam
 bs:m.bs=l.bs
 ss:m.ss=l.ss
 len:m.js.length=l.js.length
 js:∀ i:Nat,i<l.js.length->Ar (l.js.getD i default) (m.js.getD i default)
theorem Ar.f{a b:gB}(h:Ar a b)(w:Int):mD w a<=mD w b/\mD w b<=mE w b/\mE w b<=mE w a:=by
 obtain⟨h1,h2,h3,h4,h5⟩:=h;unfold mD mE;rw [h1];rcases Int.le_total 0 w with hw|hw
 ·have a1:=Int.mul_le_mul_of_nonneg_left h3 hw;have a2:=Int.mul_le_mul_of_nonneg_left h4 hw;have a3:=Int.mul_le_mul_of_nonneg_left h5 hw;omega
 ·have a1:=Int.mul_le_mul_of_nonpos_left hw h3;have a2:=Int.mul_le_mul_of_nonpos_left hw h4;have a3:=Int.mul_le_mul_of_nonpos_left hw h5;omega
theorem wK.at{l m:bN}(n:wK l m)(p:Int):c7 m p=c7 l p/\fQ m p=fQ l p:=by unfold fQ c7;rw [n.bs];exact⟨rfl,rfl⟩
theorem wK.refl{l:bN}(h:eZ l):wK l l:=⟨rfl,rfl,rfl,rfl,λi hi=>⟨rfl,rfl,Int.le_refl _,(h.nC i hi).2.2.2.2,Int.le_refl _⟩⟩
def Hv(l:bN):Prop:=l.js≠ []/\l.bs≠ []/\ ∀ s∈l.ss,s.acr≠ []
theorem Hv.at{l:bN}(h:Hv l){i:Nat}(hi:i<l.ss.length):(l.ss.getD i default).acr ≠ []:=by
 rw [SO,SQ hi];exact h.2.2 _ (TQ hi)
def Sv(x:Nat):Nat:=if x=0 then 0 else Nat.log2 x+1
structure mF (y1 y0 u n:Int):Prop where
 hy1:2147483648<=y1/\y1<4294967296
 hy0:0<=y0/\y0<4294967296
 hu0:0<=u
 hu1:u<y1*4294967296+y0
 hn0:0<=n/\n<4294967296
def gm(y1 y0 u n:Int):Int:=(u*4294967296+n)/(y1*4294967296+y0)
theorem mF.q{y1 y0 u n:Int}(h:mF y1 y0 u n):0<=gm y1 y0 u n/\gm y1 y0 u n<4294967296:=by
 obtain⟨a,b,c,d,e⟩:=h;refine⟨Int.ediv_nonneg ah ah,?_⟩;unfold gm;rw [Int.ediv_lt_iff_lt_mul ah];omega
theorem y8(q y1 y0:Int):q*(y1*4294967296+y0)=q*y1*4294967296+q*y0:=by rw [Ux, <- Tn]
theorem mF.less{y1 y0 u n q r:Int}(h:mF y1 y0 u n)(h1:q*y1+r=u)(hq:gm y1 y0 u n<=q)(hc:4294967296<=q\/4294967296*r+n<q*y0):gm y1 y0 u n<=q - 1:=by
 have hb:=h.q;rcases hc with hc|hc
 ·omega
 ·obtain⟨a,b,c,d,e⟩:=h;have h2:¬ q<=gm y1 y0 u n:=by
   unfold gm;rw [Int.le_ediv_iff_mul_le ah,y8];omega
  omega
theorem mF.done{y1 y0 u n q r:Int}(h:mF y1 y0 u n)(h1:q*y1+r=u)(hq:gm y1 y0 u n<=q)(hc:q*y0<=4294967296*r+n):q=gm y1 y0 u n:=by
 obtain⟨a,b,c,d,e⟩:=h;have h2:q<=gm y1 y0 u n:=by
  unfold gm;rw [Int.le_ediv_iff_mul_le ah,y8];omega
 omega
theorem mF.far{y1 y0 u n q r:Int}(h:mF y1 y0 u n)(h1:q*y1+r=u)(hq:gm y1 y0 u n<=q)(hq2:q<=4294967296)(hr:4294967296<=r):q=gm y1 y0 u n:=by
 have hb:=h.q;refine h.done h1 hq ?_;have h2:=h.hy0;have h3:=h.hn0;have h4:=Int.mul_le_mul hq2 (show y0<=4294967295 by omega) ah ah;omega
theorem mF.first{y1 y0 u n:Int}(h:mF y1 y0 u n):u/y1*y1+(u - u/y1*y1)=u/\gm y1 y0 u n<=u/y1/\u/y1<=4294967297/\0<=u - u/y1*y1/\u - u/y1*y1<y1:=by
 obtain⟨a,b,c,d,e⟩:=h;have hm:=Int.mul_ediv_add_emod u y1;have hm2:u/y1*y1+u%y1=u:=by rw [Tv];exact hm
 have h1:=Int.emod_nonneg u (show y1≠0 by omega);have h2:=Int.emod_lt_of_pos u (show 0<y1 by omega);refine⟨ah,?_,?_,ah,ah⟩
 ·rw [Int.le_ediv_iff_mul_le ah];have h3:gm y1 y0 u n*(y1*4294967296+y0)<=u*4294967296+n:=by
   unfold gm;exact Int.ediv_mul_le _ ah
  have h4:0<=gm y1 y0 u n:=by unfold gm;exact Int.ediv_nonneg ah ah
  have h5:=UI h4 b.1;rw [y8]at h3;omega
 ·have h3:u/y1<4294967298:=by
   rw [Int.ediv_lt_iff_lt_mul ah];omega
  omega
def Sz(m n:Int):Prop:=∃ (a c:Nat),c<=64/\m=((2^c*a:Nat):Int)/\0<=n/\n<((2^c:Nat):Int)/\cO m/\cO (m+n)
structure Dv (hi lo y:Int) (s:Nat) (p q2 Y u v:Int):Prop where
 lo0:cO lo
 hh:1<=hi/\hi<y
 sb:(64:Int) - (Sv y.toNat:Nat)=s
 s0:2<=s/\s<=63
 hp:((2^s:Nat):Int)=p
 hq2:((2^(64 - s):Nat):Int)=q2
 hY:y*p=Y
 Yb:9223372036854775808<=Y/\Y<18446744073709551616
 hu:hi*p+lo/q2=u
 ub:0<=u/\u<Y
 hv:lo*p%18446744073709551616=v
 hip:cO (hi*p)
 ok:Sz (hi*p) (lo/q2)
def wV(Y u v:Int):Int:=gm (Y/4294967296) (Y%4294967296) u (v/4294967296)
def dU(Y u v:Int):Int:=u*4294967296+v/4294967296 - wV Y u v*Y
def tI(Y u v:Int):Int:=gm (Y/4294967296) (Y%4294967296) (dU Y u v) (v%4294967296)
def dR(Y u v:Int):Int:=dU Y u v*4294967296+v%4294967296 - tI Y u v*Y
theorem RV(Y:Int):Y/4294967296*4294967296+Y%4294967296=Y:=by omega
theorem Dv.R{hi lo y:Int}{s:Nat}{p q2 Y u v:Int}(h:Dv hi lo y s p q2 Y u v):0<=dR Y u v/\dR Y u v<Y:=by
 have h1:=h.Yb;have:dR Y u v=(dU Y u v*4294967296+v%4294967296)%Y:=by
  unfold dR tI gm;rw [RV,Int.emod_def _ Y,Tv Y]
 rw [this];exact⟨Int.emod_nonneg _ ah,Int.emod_lt_of_pos _ ah⟩
theorem Dv.all{hi lo y:Int}{s:Nat}{p q2 Y u v:Int}(h:Dv hi lo y s p q2 Y u v):wV Y u v*4294967296+tI Y u v=(hi*18446744073709551616+lo)/y/\dR Y u v/p=(hi*18446744073709551616+lo)%y/\0<=p:=by
 have hR:=h.R;have hYb:=h.Yb;have hp0:0<p:=by
  rw [<- h.hp];exact_mod_cast Nat.pow_pos aD
 have hq0:0<q2:=by
  rw [<- h.hq2];exact_mod_cast Nat.pow_pos aD
 have hpq:q2*p=18446744073709551616:=by
  rw [<- h.hp, <- h.hq2, <- Int.natCast_mul, <- Nat.pow_add,show 64 - s+s=64 by have:=h.s0;omega];rfl
 have hlo:=h.lo0;unfold cO at hlo
 -- the low word, moved
 have hl1:lo*p=lo/q2*18446744073709551616+lo%q2*p:=by
  have:=Int.mul_ediv_add_emod lo q2
  calc lo*p=(q2*(lo/q2)+lo%q2)*p:=by rw [this]
   _=lo/q2*(q2*p)+lo%q2*p:=by rw [TY,Tv q2,Tn]
   _=_:=by rw [hpq]
 have hl2:0<=lo%q2*p:=UI (Int.emod_nonneg _ ah) ah;have hl3:lo%q2*p<18446744073709551616:=by
  rw [<- hpq];exact Int.mul_lt_mul_of_pos_right (Int.emod_lt_of_pos _ hq0) hp0
 have hv:=h.hv;have hu:=h.hu;have hD:(hi*18446744073709551616+lo)*p=u*18446744073709551616+v:=by
  rw [TY,Tn,Tv 18446744073709551616 p, <- Tn];omega
 have e1:(hi*18446744073709551616+lo)*p=(wV Y u v*4294967296+tI Y u v)*Y+dR Y u v:=by
  rw [hD,TY,Tn,Tv 4294967296 Y, <- Tn];unfold dR dU;omega
 have e2:(hi*18446744073709551616+lo)/y=wV Y u v*4294967296+tI Y u v:=by
  have:(hi*18446744073709551616+lo)*p/(y*p)=(hi*18446744073709551616+lo)/y:=Int.mul_ediv_mul_of_pos_left _ _ hp0;rw [<- this,h.hY,e1,Int.add_comm,Int.add_mul_ediv_right _ _ ah,Int.ediv_eq_zero_of_lt hR.1 hR.2,Int.zero_add]
 refine⟨e2.symm,?_,ah⟩;have e3:dR Y u v=(hi*18446744073709551616+lo)%y*p:=by
  have:(hi*18446744073709551616+lo)*p%(y*p)=(hi*18446744073709551616+lo)%y*p:=by
   rw [Tv _ p,Tv y p,Int.mul_emod_mul_of_pos _ _ hp0,Tv]
  rw [<- this,h.hY,e1,Int.add_comm,Int.add_mul_emod_self_right,Int.emod_eq_of_lt hR.1 hR.2]
 rw [e3,Int.mul_ediv_cancel _ ah]
theorem N2:(Tryz.prog.info? 47).bind (·.zero)=some (.agg #[.int .i64 0,.int .i64 0]):=by kernel_rfl
theorem N3:Tryz.prog.underlying 47=some (.array 2 3):=by kernel_rfl
theorem N4:(Tryz.prog.info? 3).map (·.size)=some 1:=by kernel_rfl
theorem N5:(Tryz.prog.info? 46).bind (·.zero)=some (.agg #[.int .i64 0,.int .i64 0,.int .i64 0]):=by kernel_rfl
theorem N6:Tryz.prog.underlying 46=some (.struct (eX Tryz.prog 46)):=by kernel_rfl
theorem N7:∀ w,((eX Tryz.prog 46).mapM λf=>Prod.mk f.offset<$>sizeOf f.type:Sem (Array (Nat×Nat))).run Tryz.prog w= .ok (#[(0,1),(1,1),(2,1)]) w:=λ_=>by kernel_rfl
theorem K6:∀ args w,(callFunc 10 args).run Tryz.prog w= .ok (.enter 10 args) w:=λ_ _=>by kernel_rfl
theorem K7:∀ args w,(callFunc 11 args).run Tryz.prog w= .ok (.enter 11 args) w:=λ_ _=>by kernel_rfl
theorem N8:∀ args w,(callFunc 8 args).run Tryz.prog w= .ok (.enter 8 args) w:=λ_ _=>by kernel_rfl
theorem yo:∀ args w,(callFunc 9 args).run Tryz.prog w= .ok (.enter 9 args) w:=λ_ _=>by kernel_rfl
theorem N9:b9 Tryz.prog 23 74 4 32 (.agg #[.int .i64 0,.int .i64 0,.int .i64 0,.int .i64 0]):=⟨aj,aj,aj⟩
theorem Oa:b9 Tryz.prog 24 76 2 16 (.agg #[.int .i64 0,.int .i64 0]):=⟨aj,aj,aj⟩
theorem Oc:aV Tryz.prog 27 true 4:=⟨aj,aj⟩
theorem Oe:aV Tryz.prog 42 true 2:=⟨aj,aj⟩
def lT:bN:=⟨⟨#[115,104,111,114,116]⟩,[⟨0,0,0,0⟩,⟨0,100,0,0⟩,⟨200,100,0,0⟩],[⟨10000,0⟩,⟨10000,100⟩],[]⟩
theorem y9:bT Tryz.prog 9 [] (λq=>q=gA lT):=by
 refine cA (fn:=Tryz.f9) 9 aj rfl aj bO ?_;intro av ap hA am;have ad:ap.length=0:=by rw [am];rfl
 clear hA am;refine ax<|at_<|aM (cJ mf rfl ad) trivial rfl (λaz af=>?_)
 have ab:=bS af ad;simp only [pS,Value.cells,Nat.reduceAdd]at ab;have ah:=bR af ad;have ah:_=1:=ah;clear af;refine bn aa ?_;intro aB ai;refine ao<|ax<|at_<|ar (cU bW wi we wa rfl) rfl ?_
 refine ar (cU (bz aw bW) wi we wa rfl) rfl ?_;refine ar (cU (bz aw (bz aw bW)) wi we wa rfl) rfl ?_;refine ar (ep N9 (bz (ag aa) (bz (ae aa) (bz aa bW))) rfl rfl rfl rfl) rfl<|ar (cU (bz aw bW) wj wh wc rfl) rfl ?_
 refine ar (cU (bz aw (bz aw bW)) wj wh wc rfl) rfl ?_;refine ar (ep Oa (bz (ae aa) (bz aa bW)) rfl rfl rfl rfl) rfl<|ar (cU (bz aw (bz (ae (ag aa)) (bz aa bW))) nc na m9 rfl) rfl ?_
 refine aM (bV (ay ai) aa rfl rfl ab jI rfl aA) trivial rfl (λaC ak=>?_);have al:=bo ak ab;simp only [pS,Value.cells,Nat.reduceAdd]at al;have au:=bh ak ah;clear ak ab;refine bn (aE (ay ai)) ?_;clear ai;intro aD an;refine ao<|bm<|bX bp aj (dz an al Oc aA aL) (eh (k9 (cQ (.ro _ rfl) (cQ (.ro _ rfl) (cQ (.ro _ rfl) (cQ (.nil 3) gG)))))) ?_
 clear an al au;rfl
theorem yp:fw lT:=⟨aD,aD,aD,aD,by intro s hs;cases hs⟩
theorem ug:(cg lT).2=0:=by kernel_rfl
theorem Qd:bT Tryz.prog 8 [gA lT] (λq=>q= .tuple [mA 20000,mA 0]):=
 (HQ lT yp ug).mono λq h=>h.trans aj
theorem Qe:bT Tryz.prog 10 [gA lT,mA 1000,mA 1] (λq=>q= .tuple [mA 745250000,mA 0]):=
 (Ia lT yp ug 1000 1 (λhs n hn=>by
  obtain rfl:n=1:=by
   have:lT.js.length=3:=rfl;omega
  exact KV lT (pH ug) 1000 aD 1 aD aD)).mono λq h=>h.trans aj
theorem Qf:bT Tryz.prog 11 [gA lT,rB 10000 60 2500,.agg [mA 2500,mA 1]] (λq=>q= .tuple [.agg [mA (-38),mA (-37)],mA 0]):=
 (HD lT yp ug 10000 60 2500 2500 1 aD aD).mono λq h=>h.trans aj
theorem Of:bT Tryz.prog 4 [] (λq=>q=eI true):=by
 refine cA (fn:=Tryz.f4) 47 aj rfl aj bO ?_;intro bc ba hA aP;have aD:ba.length=0:=by rw [aP];rfl
 clear hA aP;refine ax<|at_<|ar (aB aw) rfl<|pX ?_;intro be
 refine ao<|ax<|at_<|ar (bI aN rfl (y9) yo) rfl<|ar (bI (aG aa aN) rfl (Qd) N8) rfl<|ar (ak aa) rfl<|ar (cF aa rfl) rfl<|ar (cF (ae aa) rfl) rfl<|ar (aB (ae aa)) rfl<|ar (aB (ae aa)) rfl<|bD (ae aa) aa ?_;intro bg aS aT
 refine ao<|ax<|at_<|ar (bI aN rfl (y9) yo) rfl<|ar (bI (aG aa (aG aw (aG aw aN))) rfl (Qe) K6) rfl<|ar (ak aa) rfl<|ar (cF aa rfl) rfl<|ar (cF (ae aa) rfl) rfl<|ar (aB (ae aa)) rfl<|ar (aB (ae aa)) rfl<|bu (ae (ag (ai aS))) (ae (ag (ai aT))) (ae aa) aa ?_;clear aS aT;intro bj aU aV aX aZ
 refine ao<|ax<|at_<|ar (bI aN rfl (y9) yo) rfl<|ar (cU (bz aw (bz aw (bz aw bW))) N5 N6 N7 rfl) rfl ?_
 refine ar (xu (bz aw (bz aw bW)) N2 N3 N4 rfl) rfl ?_;refine ar (bI (aG (ag aa) (aG (ae aa) (aG aa aN))) rfl (Qf) K7) rfl<|ar (ak aa) rfl<|ar (cF aa rfl) rfl<|ar (cF (ae aa) rfl) rfl<|aM (cJ vZ rfl aD) trivial rfl (λbk aI=>?_)
 have aC:=bS aI aD;simp only [pS,Value.cells,Nat.reduceAdd]at aC;have aJ:=bR aI aD;have aJ:_=1:=aJ;clear aI;refine aM (bV aa (ag aa) rfl rfl aC sY rfl aA) trivial rfl (λbr aL=>?_);have aO:=bo aL aC;simp only [pS,Value.cells,Nat.reduceAdd]at aO;have bb:=bh aL aJ;clear aL aC;refine ar (aB (aE (ae aa))) rfl<|dH (ae (aE (ay aU))) (ae (aE (ay aV))) (ae (aE (ay aX))) (ae (aE (ay aZ))) (ae (aE aa)) aa ?_;clear aU aV aX aZ;intro bv a2 a3 a5 a6 a7 a8
 refine ao<|ax<|at_<|ar (ak a3) rfl<|ar (dN aa aw) rfl ?_
 refine ar (ak aa) rfl<|bK aa (λad af=>?_) (λad af=>?_)
 ·replace af:=bt af;refine aF (ak (ae (ag a2))) ⟨_,rfl,ad⟩ rfl ?_;refine aF (dN aa aw) ⟨_,rfl,(ae ad)⟩ rfl ?_;refine ar (bq (ag ad) aa) rfl<|ar (ak aa) rfl<|bK aa (λah al=>?_) (λah al=>?_)
  ·replace al:=bt al;refine aF (ak (ae (ag (ai a6)))) ⟨_,rfl,ah⟩ rfl ?_;refine aF (dN aa aw) ⟨_,rfl,(ae ah)⟩ rfl ?_;refine ar (bq (ag ah) aa) rfl<|ar (ak aa) rfl<|bK aa (λam an=>?_) (λam an=>?_)
   ·replace an:=bt an;refine aF (ak (ae (ag (ay a5)))) ⟨_,rfl,am⟩ rfl ?_;refine aF (dN aa aw) ⟨_,rfl,(ae am)⟩ rfl ?_;refine ar (bq (ag am) aa) rfl<|ar (ak aa) rfl<|bK aa (λap au=>?_) (λap au=>?_)
    ·replace au:=bt au;refine aF (ak (ae (ag (ai (ay a8))))) ⟨_,rfl,ap⟩ rfl ?_;refine aF (dN aa aw) ⟨_,rfl,(ae ap)⟩ rfl ?_;refine ar (bq (ag ap) aa) rfl<|ar (ak aa) rfl<|bK aa (λab av=>?_) (λab av=>?_)
     ·replace av:=bt av;refine aF (az (aK Oe rfl aO (ae (ag (aH a7))) aA) bQ) ⟨_,rfl,ab⟩ rfl ?_;refine aF (cU (bz aw (bz aw bW)) sW sV sU rfl) ⟨_,rfl,(ae ab)⟩ rfl ?_;refine aF (EG (ae aa) aa (xs:= [.int .i64 (-38),.int .i64 (-37)]) (ys:= [.int .i64 (-38),.int .i64 (-37)]) (b:=true) ⟨rfl,aj,λ_=>by kernel_rfl⟩) ⟨_,rfl,(ag ab)⟩ rfl ?_;refine ar (bq (ae (ag ab)) aa) rfl<|ar (aB aa) rfl<|bn aa ?_;clear ap ab ad ah am a2 a3 a5 a6 a7 a8;intro bw a9
      refine ao<|bm<|bX bp aj (aR a9) (.ro _ rfl) ?_
      clear a9 aO bb;rfl
     ·replace av:=bf av;exfalso;omega
    ·replace au:=bf au;exfalso;omega
   ·replace an:=bf an;exfalso;omega
  ·replace al:=bf al;exfalso;omega
 ·replace af:=bf af;exfalso;omega
end Go.Proofs.YtfoaiidcfkmneaaGreatDoor
