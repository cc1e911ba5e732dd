/- Texts of this claim, one behind the other: lemmas for the statement. -/
import Derived.Test.YtbmlgmblfboigaaGreatDoorT0
import Derived.Test.YtbmlgmblfboigaaGreatDoorM12
import Derived.Test.YtbmlgmblfboigaaGreatDoorM11
set_option maxRecDepth 100000
set_option maxHeartbeats 4000000
set_option linter.unusedSimpArgs false
set_option linter.unusedVariables false
namespace Go.Proofs.YtbmlgmblfboigaaGreatDoor
open Go Go.RowKit Go.Proofs
theorem Oc:(Tryz.prog.info? 68).bind (·.zero)=some (.agg #[.int .i64 0,.int .i64 0]):=by kernel_rfl
theorem Oe:Tryz.prog.underlying 68=some (.array 2 3):=by kernel_rfl
theorem Of:(Tryz.prog.info? 3).map (·.size)=some 1:=by kernel_rfl
theorem Og:(Tryz.prog.info? 44).bind (·.zero)=some (.agg #[.int .i64 0,.int .i64 0,.int .i64 0]):=by kernel_rfl
theorem Oh:Tryz.prog.underlying 44=some (.struct (eB Tryz.prog 44)):=by kernel_rfl
theorem Oi:∀ w,((eB Tryz.prog 44).mapM λf=>Prod.mk f.offset<$>sizeOf f.type:Sem (Array (Nat×Nat))).run Tryz.prog w= .ok (#[(0,1),(1,1),(2,1)]) w:=λ_=>by kernel_rfl
theorem xf:(Tryz.prog.info? 59).bind (·.zero)=some (.agg #[.int .i64 0,.int .i64 0,.int .i64 0,.int .i64 0]):=by kernel_rfl
theorem xg:Tryz.prog.underlying 59=some (.struct (eB Tryz.prog 59)):=by kernel_rfl
theorem xh:∀ w,((eB Tryz.prog 59).mapM λf=>Prod.mk f.offset<$>sizeOf f.type:Sem (Array (Nat×Nat))).run Tryz.prog w= .ok (#[(0,1),(1,1),(2,2)]) w:=λ_=>by kernel_rfl
theorem KV:∀ args w,(callFunc 22 args).run Tryz.prog w= .ok (.enter 22 args) w:=λ_ _=>by kernel_rfl
theorem wA:∀ args w,(callFunc 23 args).run Tryz.prog w= .ok (.enter 23 args) w:=λ_ _=>by kernel_rfl
theorem KW:∀ args w,(callFunc 24 args).run Tryz.prog w= .ok (.enter 24 args) w:=λ_ _=>by kernel_rfl
theorem KX:∀ args w,(callFunc 25 args).run Tryz.prog w= .ok (.enter 25 args) w:=λ_ _=>by kernel_rfl
theorem Oj:bI Tryz.prog 23 59 4 32 (.agg #[.int .i64 0,.int .i64 0,.int .i64 0,.int .i64 0]):=⟨by kernel_rfl,by kernel_rfl,by kernel_rfl⟩
theorem Ol:bI Tryz.prog 24 95 2 16 (.agg #[.int .i64 0,.int .i64 0]):=⟨by kernel_rfl,by kernel_rfl,by kernel_rfl⟩
theorem Om:aN Tryz.prog 27 true 4:=⟨by kernel_rfl,by kernel_rfl⟩
theorem On:aN Tryz.prog 48 true 2:=⟨by kernel_rfl,by kernel_rfl⟩
def kK:aU:=⟨⟨#[115,104,111,114,116]⟩,[⟨0,0,0,0⟩,⟨0,100,0,0⟩,⟨200,100,0,0⟩],[⟨10000,0⟩,⟨10000,100⟩],[]⟩
theorem yd:bF Tryz.prog 23 [] (λq=>q=ep kK):=by
 refine ck (fn:=Tryz.f23) 9 (by kernel_rfl) rfl (by kernel_rfl) (S8 rfl) ?_;intro aw ap hA an;have ad:ap.length=0:=by rw [an];rfl
 clear hA an;refine aj<|at_<|aL (cu ri rfl ad) trivial rfl (λax af=>?_)
 have ab:=bH af ad;simp only [pS,Value.cells,Nat.reduceAdd]at ab;have ag:=bG af ad;have ag:_=1:=ag;clear af;refine aT aa ?_;intro az ah;refine ai<|aj<|at_<|ar (dz bY xf xg xh rfl) rfl ?_
 refine ar (dz (bo al bY) xf xg xh rfl) rfl ?_;refine ar (dz (bo al (bo al bY)) xf xg xh rfl) rfl ?_;refine ar (dT Oj (bo (u2 rfl aa) (bo (ae rfl aa) (bo aa bY))) rfl rfl rfl rfl) rfl<|ar (dz (bo al bY) yV yT yQ rfl) rfl ?_
 refine ar (dz (bo al (bo al bY)) yV yT yQ rfl) rfl ?_;refine ar (dT Ol (bo (ae rfl aa) (bo aa bY)) rfl rfl rfl rfl) rfl<|ar (dz (bo al (bo (ae rfl (u2 rfl aa)) (bo aa bY))) yU yR yP rfl) rfl ?_
 refine aL (bN (u8 rfl ah) aa rfl rfl ab pK rfl (au rfl)) trivial rfl (λaA ak=>?_);have am:=bk ak ab;simp only [pS,Value.cells,Nat.reduceAdd]at am;have av:=bc ak ag;clear ak ab;refine aT (ay (u8 rfl ah)) ?_;clear ah;intro aB ao;refine ai<|aX<|bK (.inr rfl) (by kernel_rfl) (eb ao am Om (au rfl) (by simp)) (eV (nO (dx (.ro _ rfl) (dx (.ro _ rfl) (dx (.ro _ rfl) (dx (.nil 3) iD)))))) ?_
 clear ao am av;rfl
theorem xi:eE kK:=⟨by decide,by decide,by decide,by decide,by intro s hs;cases hs⟩
theorem sE:(b9 kK).2=0:=by kernel_rfl
theorem Qv:bF Tryz.prog 22 [ep kK] (λq=>q= .tuple [mA 20000,mA 0]):=
 (Hl kK xi sE).mono λq h=>h.trans (by kernel_rfl)
theorem Qw:bF Tryz.prog 24 [ep kK,mA 1000,mA 1] (λq=>q= .tuple [mA 745250000,mA 0]):=
 (HB kK xi sE 1000 1 (λhs n hn=>by
  obtain rfl:n=1:=by
   have:kK.js.length=3:=rfl;omega
  exact KE kK (ky sE) 1000 (by decide) 1 (by decide) (by decide))).mono λq h=>h.trans (by kernel_rfl)
theorem Qx:bF Tryz.prog 25 [ep kK,pX 10000 60 2500,.agg [mA 2500,mA 1]] (λq=>q= .tuple [.agg [mA (-38),mA (-37)],mA 0]):=
 (G2 kK xi sE 10000 60 2500 2500 1 (by decide) (by decide)).mono λq h=>h.trans (by kernel_rfl)
theorem xj:bF Tryz.prog 6 [] (λq=>q=dH true):=by
 refine ck (fn:=Tryz.f6) 47 (by kernel_rfl) rfl (by kernel_rfl) (S8 rfl) ?_;intro a8 a6 hA aJ;have aD:a6.length=0:=by rw [aJ];rfl
 clear hA aJ;refine aj<|at_<|ar (aw al) rfl<|lu ?_;intro a9
 refine ai<|aj<|at_<|ar (bj aI rfl (yd) wA) rfl<|ar (bj (ax aa aI) rfl (Qv) KV) rfl<|ar (ah aa) rfl<|ar (cH aa rfl) rfl<|ar (cH (ae rfl aa) rfl) rfl<|ar (aw (ae rfl aa)) rfl<|ar (aw (ae rfl aa)) rfl<|aY (ae rfl aa) aa ?_;intro ba aK aM
 refine ai<|aj<|at_<|ar (bj aI rfl (yd) wA) rfl<|ar (bj (ax aa (ax al (ax al aI))) rfl (Qw) KW) rfl<|ar (ah aa) rfl<|ar (cH aa rfl) rfl<|ar (cH (ae rfl aa) rfl) rfl<|ar (aw (ae rfl aa)) rfl<|ar (aw (ae rfl aa)) rfl<|aZ (ae rfl (u2 rfl (u4 rfl aK))) (ae rfl (u2 rfl (u4 rfl aM))) (ae rfl aa) aa ?_;clear aK aM;intro bb aN aO aP aQ
 refine ai<|aj<|at_<|ar (bj aI rfl (yd) wA) rfl<|ar (dz (bo al (bo al (bo al bY))) Og Oh Oi rfl) rfl ?_
 refine ar (vX (bo al (bo al bY)) Oc Oe Of rfl) rfl ?_;refine ar (bj (ax (u2 rfl aa) (ax (ae rfl aa) (ax aa aI))) rfl (Qx) KX) rfl<|ar (ah aa) rfl<|ar (cH aa rfl) rfl<|ar (cH (ae rfl aa) rfl) rfl<|aL (cu uS rfl aD) trivial rfl (λbe aE=>?_)
 have aB:=bH aE aD;simp only [pS,Value.cells,Nat.reduceAdd]at aB;have aF:=bG aE aD;have aF:_=1:=aF;clear aE;refine aL (bN aa (u2 rfl aa) rfl rfl aB rk rfl (au rfl)) trivial rfl (λbg aG=>?_);have aH:=bk aG aB;simp only [pS,Value.cells,Nat.reduceAdd]at aH;have a7:=bc aG aF;clear aG aB;refine ar (aw (ay (ae rfl aa))) rfl<|ei (ae rfl (ay (u8 rfl aN))) (ae rfl (ay (u8 rfl aO))) (ae rfl (ay (u8 rfl aP))) (ae rfl (ay (u8 rfl aQ))) (ae rfl (ay aa)) aa ?_;clear aN aO aP aQ;intro bh aR aU aV aW a2 a3
 refine ai<|aj<|at_<|ar (ah aU) rfl<|ar (eH aa al) rfl ?_
 refine ar (ah aa) rfl<|bM aa (λad af=>?_) (λad af=>?_)
 ·replace af:=bt af;refine aA (ah (ae rfl (u2 rfl aR))) ⟨_,rfl,ad⟩ rfl ?_;refine aA (eH aa al) ⟨_,rfl,(ae rfl ad)⟩ rfl ?_;refine ar (bD (u2 rfl ad) aa) rfl<|ar (ah aa) rfl<|bM aa (λag am=>?_) (λag am=>?_)
  ·replace am:=bt am;refine aA (ah (ae rfl (u2 rfl (u4 rfl aW)))) ⟨_,rfl,ag⟩ rfl ?_;refine aA (eH aa al) ⟨_,rfl,(ae rfl ag)⟩ rfl ?_;refine ar (bD (u2 rfl ag) aa) rfl<|ar (ah aa) rfl<|bM aa (λan ao=>?_) (λan ao=>?_)
   ·replace ao:=bt ao;refine aA (ah (ae rfl (u2 rfl (u8 rfl aV)))) ⟨_,rfl,an⟩ rfl ?_;refine aA (eH aa al) ⟨_,rfl,(ae rfl an)⟩ rfl ?_;refine ar (bD (u2 rfl an) aa) rfl<|ar (ah aa) rfl<|bM aa (λap av=>?_) (λap av=>?_)
    ·replace av:=bt av;refine aA (ah (ae rfl (u2 rfl (u4 rfl (u8 rfl a3))))) ⟨_,rfl,ap⟩ rfl ?_;refine aA (eH aa al) ⟨_,rfl,(ae rfl ap)⟩ rfl ?_;refine ar (bD (u2 rfl ap) aa) rfl<|ar (ah aa) rfl<|bM aa (λab az=>?_) (λab az=>?_)
     ·replace az:=bt az;refine aA (ak (aC On rfl aH (ae rfl (u2 rfl (u16 rfl a2))) (au rfl)) (by simp only [pS,Value.cells,Nat.reduceAdd]<;>rfl)) ⟨_,rfl,ab⟩ rfl ?_;refine aA (dz (bo al (bo al bY)) uZ uX uV rfl) ⟨_,rfl,(ae rfl ab)⟩ rfl ?_;refine aA (Eb (ae rfl aa) aa (xs:= [.int .i64 (-38),.int .i64 (-37)]) (ys:= [.int .i64 (-38),.int .i64 (-37)]) (b:=true) ⟨rfl,by kernel_rfl,λ_=>by kernel_rfl⟩) ⟨_,rfl,(u2 rfl ab)⟩ rfl ?_;refine ar (bD (ae rfl (u2 rfl ab)) aa) rfl<|ar (aw aa) rfl<|aT aa ?_;clear ap ab ad ag an aR aU aV aW a2 a3;intro bm a5
      refine ai<|aX<|bK (.inr rfl) (by kernel_rfl) (aS a5) (.ro _ rfl) ?_
      clear a5 aH a7;rfl
     ·replace az:=bf az;exfalso;omega
    ·replace av:=bf av;exfalso;omega
   ·replace ao:=bf ao;exfalso;omega
  ·replace am:=bf am;exfalso;omega
 ·replace af:=bf af;exfalso;omega
theorem KY:∀ args w,(callFunc 37 args).run Tryz.prog w= .ok (.enter 37 args) w:=λ_ _=>by kernel_rfl
theorem qB:bI Tryz.prog 23 59 4 32 (.agg #[.int .i64 0,.int .i64 0,.int .i64 0,.int .i64 0]):=⟨by kernel_rfl,by kernel_rfl,by kernel_rfl⟩
theorem qC:bI Tryz.prog 24 95 2 16 (.agg #[.int .i64 0,.int .i64 0]):=⟨by kernel_rfl,by kernel_rfl,by kernel_rfl⟩
theorem qD:bI Tryz.prog 25 97 3 48 (.agg #[.string ByteArray.empty,.int .i64 0,.slice none 0 0]):=⟨by kernel_rfl,by kernel_rfl,by kernel_rfl⟩
theorem qE:bI Tryz.prog 85 3 1 8 (.int .i64 0):=⟨by kernel_rfl,by kernel_rfl,by kernel_rfl⟩
theorem Oo:Tryz.prog.eqGuardType Tryz.prog.depth 59=false:=by kernel_rfl
theorem Oq{a0 b0:Int}{a1 b1:Int}{a2 b2:Int}{a3 b3:Int}:g8 Tryz.prog 3 59 (.agg #[.int .i64 a0,.int .i64 a1,.int .i64 a2,.int .i64 a3]) (.agg #[.int .i64 b0,.int .i64 b1,.int .i64 b2,.int .i64 b3]) (decide (a0=b0)&&(decide (a1=b1)&&((decide (a2=b2)&&(decide (a3=b3)&&true))&&true))):=(sh [(3,0),(3,1),(48,2)] (by kernel_rfl) (by kernel_rfl) (by kernel_rfl) (by kernel_rfl) (.cons (λ_=>by kernel_rfl) (λ_=>by kernel_rfl) (g8.up (mD (k:=.i64) (k':=.i64) (by kernel_rfl) a0 b0) 1) (.cons (λ_=>by kernel_rfl) (λ_=>by kernel_rfl) (g8.up (mD (k:=.i64) (k':=.i64) (by kernel_rfl) a1 b1) 1) (.cons (x:=.agg #[.int .i64 a2,.int .i64 a3]) (y:=.agg #[.int .i64 b2,.int .i64 b3]) (λ_=>by kernel_rfl) (λ_=>by kernel_rfl) (sh [(3,0),(3,1)] (by kernel_rfl) (by kernel_rfl) (by kernel_rfl) (by kernel_rfl) (.cons (λ_=>by kernel_rfl) (λ_=>by kernel_rfl) (mD (k:=.i64) (k':=.i64) (by kernel_rfl) a2 b2) (.cons (λ_=>by kernel_rfl) (λ_=>by kernel_rfl) (mD (k:=.i64) (k':=.i64) (by kernel_rfl) a3 b3) .nil))) .nil))))
theorem Ot:Tryz.prog.eqGuardType Tryz.prog.depth 95=false:=by kernel_rfl
theorem Ou{a0 b0:Int}{a1 b1:Int}:g8 Tryz.prog 2 95 (.agg #[.int .i64 a0,.int .i64 a1]) (.agg #[.int .i64 b0,.int .i64 b1]) (decide (a0=b0)&&(decide (a1=b1)&&true)):=(sh [(3,0),(3,1)] (by kernel_rfl) (by kernel_rfl) (by kernel_rfl) (by kernel_rfl) (.cons (λ_=>by kernel_rfl) (λ_=>by kernel_rfl) (mD (k:=.i64) (k':=.i64) (by kernel_rfl) a0 b0) (.cons (λ_=>by kernel_rfl) (λ_=>by kernel_rfl) (mD (k:=.i64) (k':=.i64) (by kernel_rfl) a1 b1) .nil)))
theorem qF:aN Tryz.prog 23 false 1:=⟨by kernel_rfl,by kernel_rfl⟩
theorem qG:aN Tryz.prog 24 false 1:=⟨by kernel_rfl,by kernel_rfl⟩
theorem qH:aN Tryz.prog 25 false 1:=⟨by kernel_rfl,by kernel_rfl⟩
theorem uh:aN Tryz.prog 3 false 1:=⟨by kernel_rfl,by kernel_rfl⟩
theorem DZ:aN Tryz.prog 59 true 4:=⟨by kernel_rfl,by kernel_rfl⟩
theorem D3:aN Tryz.prog 85 false 1:=⟨by kernel_rfl,by kernel_rfl⟩
theorem ui:aN Tryz.prog 9 false 1:=⟨by kernel_rfl,by kernel_rfl⟩
theorem D4:aN Tryz.prog 95 true 2:=⟨by kernel_rfl,by kernel_rfl⟩
theorem D5:aN Tryz.prog 97 true 3:=⟨by kernel_rfl,by kernel_rfl⟩
theorem KZ{a b:List Int}(hl:a.length=b.length)(h:∀ q:Nat,q<a.length->a.getD q default=b.getD q default):a=b:=by
 refine List.ext_getElem hl λn h1 h2=>?_
 have:=h n h1;rw [Ta,Ta,Tc h1,Tc h2]at this;exact this
theorem K0(a b:List Int)(ha:a.length<=1000000000)(hb:b.length<=1000000000):bF Tryz.prog 37 [.row 1 (a.map iE),.row 1 (b.map iE)] (λq=>q=dH (decide (a=b))):=by
 refine ck (fn:=Tryz.f37) 26 (by kernel_rfl) rfl (by kernel_rfl) (S8 rfl) ?_;intro aI a2 hA aJ;have aK:ag aI (.tmp 0)=_:=hA 0 _ rfl;have aL:ag aI (.tmp 1)=_:=hA 1 _ rfl;have aM:a2.length=0:=by rw [aJ];rfl
 clear hA aJ;refine aj<|at_<|ar (aw al) rfl<|aY (ae rfl aK) (ae rfl aL) ?_;clear aK aL;intro ba ap av
 refine ai<|aj<|aj<|at_<|ar (ah ap) rfl<|ar (ak (bW aa rfl qE.1) (by simp only [bn]<;>rfl)) rfl ?_
 refine ar (ah (u2 rfl av)) rfl<|ar (ak (bW aa rfl qE.1) (by simp only [bn]<;>rfl)) rfl ?_
 refine ar (ez (u2 rfl aa) aa) rfl<|bq (ae rfl (u4 rfl ap)) (ae rfl (u4 rfl av)) aa ?_;clear ap av;intro bb ax ay az
 refine ai<|aW az (λab=>?_) (λab=>?_)
 ·replace ab:=dR ab;refine aj<|at_<|ar (aw al) rfl<|aT aa ?_;clear ax az ay;intro bc aN
  refine ai<|aX<|bO<|bK (.inr rfl) (by kernel_rfl) (aS aN) (.ro _ rfl) ?_
  clear aN aM
  (have hne:¬ a=b:=(λhc=>absurd (congrArg List.length hc) (by omega));rw [decide_eq_false hne])
 replace ab:=dG ab
 (have hl:a.length=b.length:=(by omega))
 refine br<|ai<|aj<|aj<|at_<|ar (aw al) rfl<|bq (ae rfl ax) (ae rfl ay) aa ?_;clear ax az ay;intro aO aP aQ a3
 refine ai<|bP<|dN (S:=Int) (λi e mem=>(ag e (.tmp 5)= .v (.int .i64 i))/\(ag e (.tmp 0)=ag aO (.tmp 0))/\(ag e (.tmp 1)=ag aO (.tmp 1))/\(mem.length=0)/\((0<=i/\i<=a.length/\a.length=b.length/\ ∀ j:Nat,j<i->a.getD j default=b.getD j default))) (λi=>(a.length - i).toNat) _ ⟨a3,rfl,rfl,aM,?_⟩ ?_
 ·(exact⟨by omega,by omega,hl,λj hj=>by omega⟩)
 ·rintro i be bg ⟨aA,a5,a6,aB,hinv⟩;have aC:=a5.trans aP;have aR:=a6.trans aQ
  (obtain⟨p1,p2,p3,p4⟩:=hinv)
  refine aj<|aj<|at_<|ar (ah aA) rfl<|ar (ah (ae rfl aC)) rfl<|ar (ak (bW aa rfl qE.1) (by simp only [bn]<;>rfl)) rfl ?_
  refine ar (cL (u2 rfl aa) aa) rfl<|aZ (u4 rfl aC) (u4 rfl aR) (u4 rfl aA) aa ?_;clear aC aR aA;intro bh an ao ad aD
  refine ai<|aW aD (λaf=>?_) (λaf=>?_)
  ·replace af:=bt af;refine br<|ai<|aj<|bP<|aj<|ey 9 (by kernel_rfl) (by kernel_rfl) (by kernel_rfl) (by kernel_rfl) ?_
   refine dr (ah an) rfl<|dr (ah (ae rfl ad)) rfl<|dr (ak (cr qE (ae rfl aa) aa (by omega) (by(refine cP ?_;omega))) (by simp only [pS,Value.cells,Nat.reduceAdd,iE]<;>rfl)) rfl ?_
   refine dr (ak (bw uh rfl aa (au rfl)) (by simp only [pS,Value.cells,Nat.reduceAdd,iE]<;>rfl)) rfl ?_;refine dr (ah (u4 rfl ao)) rfl<|dr (ah (ae rfl (u4 rfl ad))) rfl<|dr (ak (cr qE (ae rfl aa) aa (by omega) (by(refine cP ?_;omega))) (by simp only [pS,Value.cells,Nat.reduceAdd,iE]<;>rfl)) rfl ?_
   refine dr (ak (bw uh rfl aa (au rfl)) (by simp only [pS,Value.cells,Nat.reduceAdd,iE]<;>rfl)) rfl ?_;refine dr (ez (u4 rfl aa) aa) rfl<|dP<|aZ (ae rfl (u8 rfl an)) (ae rfl (u8 rfl ao)) (ae rfl (u8 rfl ad)) aa ?_;clear an aD ao ad;intro bj aE aF aG aH
   refine ai<|aW aH (λam=>?_) (λam=>?_)
   ·replace am:=dR am;refine aj<|at_<|ar (aw al) rfl<|aT aa ?_;clear aE aF aH aG;intro bk aU
    refine ai<|aX<|de<|bO<|bO<|de<|bO<|bK (.inr rfl) (by kernel_rfl) (aS aU) (.ro _ rfl) ?_
    clear aU aB
    (have hne:¬ a=b:=(λhc=>absurd (congrArg (λl=>l.getD i.toNat default) hc) (by assumption));rw [decide_eq_false hne])
   replace am:=dG am;refine br<|cv<|ai<|at_<|ar (ah aG) rfl ?_
   (refine ar (cj aa al ?_) rfl ?_; · (unfold In64;omega))
   refine ar (aw aa) rfl<|bq (ae rfl (u2 rfl aE)) (ae rfl (u2 rfl aF)) aa ?_;clear aE aF aH aG;intro bm a7 a8 a9
   refine ai<|⟨_,⟨a9,(a7.trans aP.symm),(a8.trans aQ.symm),aB,?_⟩,?_⟩
   ·(refine⟨by omega,by omega,p3,λq hq=>?_⟩;by_cases hj:(q:Int)=i;(rw [show q=i.toNat by omega];omega);exact p4 q (by omega))
   ·((try dsimp only);omega)
  replace af:=bf af;refine dD<|b7<|b7<|dC<|ai<|aj<|at_<|ar (aw al) rfl<|aT aa ?_;clear an aD ao ad;intro bo aV
  refine ai<|aX<|bK (.inr rfl) (by kernel_rfl) (aS aV) (.ro _ rfl) ?_
  clear aV aB
  (rw [decide_eq_true (KZ p3 λj hj=>p4 j (by omega))])
theorem K1(l:aU)(hl:eE l):bF Tryz.prog 9 [ep l,ep l] (λq=>q=dH true):=by
 obtain⟨h1,h2,h3,h4,h5⟩:=id hl;refine ck (fn:=Tryz.f9) 115 (by kernel_rfl) rfl (by kernel_rfl) (S8 rfl) ?_;intro cN dU hA cO;have cQ:ag cN (.tmp 0)=_:=hA 0 _ rfl;have cR:ag cN (.tmp 1)=_:=hA 1 _ rfl;have b8:dU.length=0:=by rw [cO];rfl
 clear hA cO;refine aj<|at_<|aL (dO cQ rfl b8) trivial rfl (λeO b9=>?_)
 have cS:=bH b9 b8;have a6:=bG b9 b8;have a6:_=1:=a6;clear b9;refine aL (dO (ae rfl cR) rfl a6) trivial rfl (λcT bT=>?_);have aD:=bH bT a6;have aE:=aJ bT cS;have bU:=bG bT a6;have bU:_=2:=bU;clear bT cS;refine ar (aw al) rfl<|aY (u2 rfl aa) (ae rfl aa) ?_;clear cQ cR;intro eP ap av
 refine ai<|aj<|aj<|at_<|ar (aB mC rfl ap) rfl<|ar (ak (aC ui rfl aE aa (au rfl)) (by simp only [pS,Value.cells,Nat.reduceAdd,aF,aH,aK]<;>rfl)) rfl ?_
 refine ar (aB mC rfl (u2 rfl av)) rfl<|ar (ak (aC ui rfl aD aa (au rfl)) (by simp only [pS,Value.cells,Nat.reduceAdd,aF,aH,aK]<;>rfl)) rfl ?_
 refine ar (dS (u2 rfl aa) aa) rfl<|ar (ah aa) rfl<|bM aa (λab a7=>?_) (λab a7=>?_)
 ·replace a7:=cV a7;refine az ⟨_,rfl,.inl ab⟩ rfl ?_;refine az ⟨_,rfl,.inl (ae rfl ab)⟩ rfl ?_;refine az ⟨_,rfl,.inl (u2 rfl ab)⟩ rfl ?_;refine az ⟨_,rfl,.inl (ae rfl (u2 rfl ab))⟩ rfl ?_;refine az ⟨_,rfl,.inl (u4 rfl ab)⟩ rfl ?_;refine az ⟨_,rfl,.inl (ae rfl (u4 rfl ab))⟩ rfl ?_;refine az ⟨_,rfl,.inl (u2 rfl (u4 rfl ab))⟩ rfl ?_;refine ar (bD (ae rfl (u2 rfl (u4 rfl ab))) al) rfl<|ar (ah aa) rfl<|az ⟨_,rfl,.inl aa⟩ rfl ?_
  refine az ⟨_,rfl,.inl (ae rfl aa)⟩ rfl ?_;refine az ⟨_,rfl,.inl (u2 rfl aa)⟩ rfl ?_;refine az ⟨_,rfl,.inl (ae rfl (u2 rfl aa))⟩ rfl ?_;refine az ⟨_,rfl,.inl (u4 rfl aa)⟩ rfl ?_;refine az ⟨_,rfl,.inl (ae rfl (u4 rfl aa))⟩ rfl ?_;refine az ⟨_,rfl,.inl (u2 rfl (u4 rfl aa))⟩ rfl ?_;refine ar (bD (ae rfl (u2 rfl (u4 rfl aa))) al) rfl<|ar (ah aa) rfl<|az ⟨_,rfl,.inl aa⟩ rfl ?_
  refine az ⟨_,rfl,.inl (ae rfl aa)⟩ rfl ?_;refine az ⟨_,rfl,.inl (u2 rfl aa)⟩ rfl ?_;refine az ⟨_,rfl,.inl (ae rfl (u2 rfl aa))⟩ rfl ?_;refine az ⟨_,rfl,.inl (u4 rfl aa)⟩ rfl ?_;refine az ⟨_,rfl,.inl (ae rfl (u4 rfl aa))⟩ rfl ?_;refine az ⟨_,rfl,.inl (u2 rfl (u4 rfl aa))⟩ rfl ?_;refine ar (bD (ae rfl (u2 rfl (u4 rfl aa))) al) rfl<|bq (u16 rfl (u16 rfl ap)) (u16 rfl (u16 rfl av)) aa ?_;clear ab ap av;intro eQ dV dX cU
  refine ai<|oZ cU<|aj<|at_<|ar (aw al) rfl<|aT aa ?_;clear dV dX cU;intro eR cW
  refine ai<|aX<|bO<|bK (.inr rfl) (by kernel_rfl) (aS cW) (.ro _ rfl) ?_
  clear cW aD aE bU
  (simp at*;done)
 replace a7:=dj a7;refine aA (aB dW rfl (u2 rfl (u4 rfl ap))) ⟨_,rfl,ab⟩ rfl ?_;refine aA (ak (aC qF rfl aE aa (au rfl)) (by simp only [pS,Value.cells,Nat.reduceAdd,aF,aH,aK]<;>rfl)) ⟨_,rfl,(ae rfl ab)⟩ rfl ?_;refine aA (ak (bW aa rfl qB.1) (by simp only [bn]<;>rfl)) ⟨_,rfl,(u2 rfl ab)⟩ rfl ?_;refine aA (aB dW rfl (ae rfl (u8 rfl av))) ⟨_,rfl,(ae rfl (u2 rfl ab))⟩ rfl ?_;refine aA (ak (aC qF rfl aD aa (au rfl)) (by simp only [pS,Value.cells,Nat.reduceAdd,aF,aH,aK]<;>rfl)) ⟨_,rfl,(u4 rfl ab)⟩ rfl ?_;refine aA (ak (bW aa rfl qB.1) (by simp only [bn]<;>rfl)) ⟨_,rfl,(ae rfl (u4 rfl ab))⟩ rfl ?_;refine aA (ez (ae rfl (u2 rfl aa)) aa) ⟨_,rfl,(u2 rfl (u4 rfl ab))⟩ rfl ?_;refine ar (bJ (ae rfl (u2 rfl (u4 rfl ab))) aa) rfl<|ar (ah aa) rfl<|bM aa (λaf a8=>?_) (λaf a8=>?_)
 ·replace a8:=dR a8;exfalso;omega
 replace a8:=dG a8;refine aA (aB dA rfl (ae rfl (u2 rfl (u4 rfl (u8 rfl ap))))) ⟨_,rfl,af⟩ rfl ?_;refine aA (ak (aC qG rfl aE aa (au rfl)) (by simp only [pS,Value.cells,Nat.reduceAdd,aF,aH,aK]<;>rfl)) ⟨_,rfl,(ae rfl af)⟩ rfl ?_;refine aA (ak (bW aa rfl qC.1) (by simp only [bn]<;>rfl)) ⟨_,rfl,(u2 rfl af)⟩ rfl ?_;refine aA (aB dA rfl (u2 rfl (u16 rfl av))) ⟨_,rfl,(ae rfl (u2 rfl af))⟩ rfl ?_;refine aA (ak (aC qG rfl aD aa (au rfl)) (by simp only [pS,Value.cells,Nat.reduceAdd,aF,aH,aK]<;>rfl)) ⟨_,rfl,(u4 rfl af)⟩ rfl ?_;refine aA (ak (bW aa rfl qC.1) (by simp only [bn]<;>rfl)) ⟨_,rfl,(ae rfl (u4 rfl af))⟩ rfl ?_;refine aA (ez (ae rfl (u2 rfl aa)) aa) ⟨_,rfl,(u2 rfl (u4 rfl af))⟩ rfl ?_;refine ar (bJ (ae rfl (u2 rfl (u4 rfl af))) aa) rfl<|ar (ah aa) rfl<|bM aa (λam a9=>?_) (λam a9=>?_)
 ·replace a9:=dR a9;exfalso;omega
 replace a9:=dG a9;refine aA (aB eF rfl (u8 rfl (u16 rfl ap))) ⟨_,rfl,am⟩ rfl ?_;refine aA (ak (aC qH rfl aE aa (au rfl)) (by simp only [pS,Value.cells,Nat.reduceAdd,aF,aH,aK]<;>rfl)) ⟨_,rfl,(ae rfl am)⟩ rfl ?_;refine aA (ak (bW aa rfl qD.1) (by simp only [bn]<;>rfl)) ⟨_,rfl,(u2 rfl am)⟩ rfl ?_;refine aA (aB eF rfl (ae rfl (u2 rfl (u8 rfl (u16 rfl av))))) ⟨_,rfl,(ae rfl (u2 rfl am))⟩ rfl ?_;refine aA (ak (aC qH rfl aD aa (au rfl)) (by simp only [pS,Value.cells,Nat.reduceAdd,aF,aH,aK]<;>rfl)) ⟨_,rfl,(u4 rfl am)⟩ rfl ?_;refine aA (ak (bW aa rfl qD.1) (by simp only [bn]<;>rfl)) ⟨_,rfl,(ae rfl (u4 rfl am))⟩ rfl ?_;refine aA (ez (ae rfl (u2 rfl aa)) aa) ⟨_,rfl,(u2 rfl (u4 rfl am))⟩ rfl ?_;refine ar (bJ (ae rfl (u2 rfl (u4 rfl am))) aa) rfl<|bq (u16 rfl (u16 rfl ap)) (u16 rfl (u16 rfl av)) aa ?_;clear am ab af ap av;intro eS cX cY cZ
 refine ai<|aW cZ (λba=>?_) (λba=>?_)
 ·replace ba:=dR ba;exfalso;omega
 replace ba:=dG ba;refine br<|ai<|aj<|aj<|at_<|ar (aw al) rfl<|bq (ae rfl cX) (ae rfl cY) aa ?_;clear cX cY cZ;intro c6 c7 c8 dY
 refine ai<|bP<|dN (S:=Int) (λi e mem=>(ag e (.tmp 5)= .v (.int .i64 i))/\(ag e (.tmp 2)=ag c6 (.tmp 2))/\(ag e (.tmp 3)=ag c6 (.tmp 3))/\(mem[1]? =cT[1]?)/\(mem[0]? =cT[0]?)/\(mem.length=2)/\((0<=i/\i<=l.js.length))) (λi=>(l.js.length - i).toNat) _ ⟨dY,rfl,rfl,rfl,rfl,bU,?_⟩ ?_
 ·(exact⟨by omega,by omega⟩)
 ·rintro i eT c9 ⟨ca,dZ,ea,eb,ec,cb,hinv⟩;have cc:=dZ.trans c7;have da:=ea.trans c8;have bb:=eb.trans aD;have aG:=ec.trans aE
  (obtain⟨p1,p2⟩:=hinv)
  refine aj<|aj<|at_<|ar (ah ca) rfl<|ar (aB dW rfl (ae rfl cc)) rfl<|ar (ak (aC qF rfl aG aa (au rfl)) (by simp only [pS,Value.cells,Nat.reduceAdd,aF,aH,aK]<;>rfl)) rfl ?_
  refine ar (ak (bW aa rfl qB.1) (by simp only [bn]<;>rfl)) rfl ?_;refine ar (cL (ae rfl (u2 rfl aa)) aa) rfl<|aZ (ae rfl (u4 rfl cc)) (ae rfl (u4 rfl da)) (ae rfl (u4 rfl ca)) aa ?_;clear cc da ca;intro eU be bg bh cd
  refine ai<|aW cd (λbm=>?_) (λbm=>?_)
  ·replace bm:=bt bm;refine br<|ai<|aj<|bP<|aj<|ey 11 (by kernel_rfl) (by kernel_rfl) (by kernel_rfl) (by kernel_rfl) ?_
   refine dr (aB dW rfl be) rfl<|dr (ak (aC qF rfl aG aa (au rfl)) (by simp only [pS,Value.cells,Nat.reduceAdd,aF,aH,aK]<;>rfl)) rfl ?_
   refine dr (ah (u2 rfl bh)) rfl<|dr (ak (cr qB (ae rfl aa) aa (by omega) (by(refine cP ?_;omega))) (by simp only [pS,Value.cells,Nat.reduceAdd,aF,aH,aK]<;>rfl)) rfl ?_
   refine dr (ak (bw DZ rfl aa (au rfl)) (by simp only [pS,Value.cells,Nat.reduceAdd,aF,aH,aK]<;>rfl)) rfl ?_;refine dr (aB dW rfl (ae rfl (u4 rfl bg))) rfl<|dr (ak (aC qF rfl bb aa (au rfl)) (by simp only [pS,Value.cells,Nat.reduceAdd,aF,aH,aK]<;>rfl)) rfl ?_
   refine dr (ah (ae rfl (u2 rfl (u4 rfl bh)))) rfl<|dr (ak (cr qB (ae rfl aa) aa (by omega) (by(refine cP ?_;omega))) (by simp only [pS,Value.cells,Nat.reduceAdd,aF,aH,aK]<;>rfl)) rfl ?_
   refine dr (ak (bw DZ rfl aa (au rfl)) (by simp only [pS,Value.cells,Nat.reduceAdd,aF,aH,aK]<;>rfl)) rfl ?_;refine dr (Br (ae rfl (u4 rfl aa)) aa rfl rfl Oo Oq (by decide)) rfl ?_;refine dP<|aZ (ae rfl (u2 rfl (u8 rfl be))) (ae rfl (u2 rfl (u8 rfl bg))) (ae rfl (u2 rfl (u8 rfl bh))) aa ?_;clear be bg cd bh;intro eV ce cg ci cm
   refine ai<|aW cm (λbo=>?_) (λbo=>?_)
   ·replace bo:=cV bo;refine aj<|at_<|ar (aw al) rfl<|aT aa ?_;clear ce cg cm ci;intro eW db
    refine ai<|aX<|de<|bO<|bO<|de<|bO<|bK (.inr rfl) (by kernel_rfl) (aS db) (.ro _ rfl) ?_
    clear db bb aG cb
    (simp at*;done)
   replace bo:=dj bo;refine br<|cv<|ai<|at_<|ar (ah ci) rfl ?_
   (refine ar (cj aa al ?_) rfl ?_; · (unfold In64;omega))
   refine ar (aw aa) rfl<|bq (ae rfl (u2 rfl ce)) (ae rfl (u2 rfl cg)) aa ?_;clear ce cg cm ci;intro eX ed ee ef
   refine ai<|⟨_,⟨ef,(ed.trans c7.symm),(ee.trans c8.symm),(bb.trans aD.symm),(aG.trans aE.symm),cb,?_⟩,?_⟩
   ·(exact⟨by omega,by omega⟩)
   ·((try dsimp only);omega)
  replace bm:=bf bm;refine dD<|b7<|b7<|dC<|ai<|aj<|aj<|at_<|ar (aw al) rfl<|bq (ae rfl be) (ae rfl bg) aa ?_;clear be bg cd bh;intro dc dd df eg
  refine ai<|bP<|dN (S:=Int) (λi e mem=>(ag e (.tmp 6)= .v (.int .i64 i))/\(ag e (.tmp 2)=ag dc (.tmp 2))/\(ag e (.tmp 3)=ag dc (.tmp 3))/\(mem[1]? =c9[1]?)/\(mem[0]? =c9[0]?)/\(mem.length=2)/\((0<=i/\i<=l.bs.length))) (λi=>(l.bs.length - i).toNat) _ ⟨eg,rfl,rfl,rfl,rfl,cb,?_⟩ ?_
  ·(exact⟨by omega,by omega⟩)
  ·rintro i eY dg ⟨cn,eh,ei,ej,ek,co,hinv⟩;have cp:=eh.trans dd;have dh:=ei.trans df;have bu:=ej.trans bb;have aM:=ek.trans aG
   (obtain⟨p1,p2⟩:=hinv)
   refine aj<|aj<|at_<|ar (ah cn) rfl<|ar (aB dA rfl (ae rfl cp)) rfl<|ar (ak (aC qG rfl aM aa (au rfl)) (by simp only [pS,Value.cells,Nat.reduceAdd,aF,aH,aK]<;>rfl)) rfl ?_
   refine ar (ak (bW aa rfl qC.1) (by simp only [bn]<;>rfl)) rfl ?_;refine ar (cL (ae rfl (u2 rfl aa)) aa) rfl<|aZ (ae rfl (u4 rfl cp)) (ae rfl (u4 rfl dh)) (ae rfl (u4 rfl cn)) aa ?_;clear cp dh cn;intro eZ bv bx bz cq
   refine ai<|aW cq (λbA=>?_) (λbA=>?_)
   ·replace bA:=bt bA;refine br<|ai<|aj<|bP<|aj<|ey 11 (by kernel_rfl) (by kernel_rfl) (by kernel_rfl) (by kernel_rfl) ?_
    refine dr (aB dA rfl bv) rfl<|dr (ak (aC qG rfl aM aa (au rfl)) (by simp only [pS,Value.cells,Nat.reduceAdd,aF,aH,aK]<;>rfl)) rfl ?_
    refine dr (ah (u2 rfl bz)) rfl<|dr (ak (cr qC (ae rfl aa) aa (by omega) (by(refine cP ?_;omega))) (by simp only [pS,Value.cells,Nat.reduceAdd,aF,aH,aK]<;>rfl)) rfl ?_
    refine dr (ak (bw D4 rfl aa (au rfl)) (by simp only [pS,Value.cells,Nat.reduceAdd,aF,aH,aK]<;>rfl)) rfl ?_;refine dr (aB dA rfl (ae rfl (u4 rfl bx))) rfl<|dr (ak (aC qG rfl bu aa (au rfl)) (by simp only [pS,Value.cells,Nat.reduceAdd,aF,aH,aK]<;>rfl)) rfl ?_
    refine dr (ah (ae rfl (u2 rfl (u4 rfl bz)))) rfl<|dr (ak (cr qC (ae rfl aa) aa (by omega) (by(refine cP ?_;omega))) (by simp only [pS,Value.cells,Nat.reduceAdd,aF,aH,aK]<;>rfl)) rfl ?_
    refine dr (ak (bw D4 rfl aa (au rfl)) (by simp only [pS,Value.cells,Nat.reduceAdd,aF,aH,aK]<;>rfl)) rfl ?_;refine dr (Br (ae rfl (u4 rfl aa)) aa rfl rfl Ot Ou (by decide)) rfl ?_;refine dP<|aZ (ae rfl (u2 rfl (u8 rfl bv))) (ae rfl (u2 rfl (u8 rfl bx))) (ae rfl (u2 rfl (u8 rfl bz))) aa ?_;clear bv bx cq bz;intro e0 ct cu cw cx
    refine ai<|aW cx (λbB=>?_) (λbB=>?_)
    ·replace bB:=cV bB;refine aj<|at_<|ar (aw al) rfl<|aT aa ?_;clear ct cu cw cx;intro e3 dk
     refine ai<|aX<|de<|bO<|bO<|de<|bO<|bK (.inr rfl) (by kernel_rfl) (aS dk) (.ro _ rfl) ?_
     clear dk bu aM co
     (simp at*;done)
    replace bB:=dj bB;refine br<|cv<|ai<|at_<|ar (ah cw) rfl ?_
    (refine ar (cj aa al ?_) rfl ?_; · (unfold In64;omega))
    refine ar (aw aa) rfl<|bq (ae rfl (u2 rfl ct)) (ae rfl (u2 rfl cu)) aa ?_;clear ct cu cw cx;intro e4 en eo er
    refine ai<|⟨_,⟨er,(en.trans dd.symm),(eo.trans df.symm),(bu.trans bb.symm),(aM.trans aG.symm),co,?_⟩,?_⟩
    ·(exact⟨by omega,by omega⟩)
    ·((try dsimp only);omega)
   replace bA:=bf bA;refine dD<|b7<|b7<|dC<|ai<|aj<|aj<|at_<|ar (aw al) rfl<|bq (ae rfl bv) (ae rfl bx) aa ?_;clear bv bx cq bz;intro dl dm dn eu
   refine ai<|bP<|dN (S:=Int) (λi e mem=>(ag e (.tmp 7)= .v (.int .i64 i))/\(ag e (.tmp 2)=ag dl (.tmp 2))/\(ag e (.tmp 3)=ag dl (.tmp 3))/\(mem[1]? =dg[1]?)/\(mem[0]? =dg[0]?)/\(∃ n,mem.length=n/\2<=n)/\((0<=i/\i<=l.ss.length))) (λi=>(l.ss.length - i).toNat) _ ⟨eu,rfl,rfl,rfl,rfl,⟨_,co,Tf _⟩,?_⟩ ?_
   ·(exact⟨by omega,by omega⟩)
   ·rintro i e5 e6 ⟨cy,ev,ew,eA,eB,⟨aN,aO,e7⟩,hinv⟩;have cz:=ev.trans dm;have dp:=ew.trans dn;have cA:=eA.trans bu;have bX:=eB.trans aM
    (obtain⟨p1,p2⟩:=hinv;have hso:=hl.at i.toNat)
    refine aj<|aj<|at_<|ar (ah cy) rfl<|ar (aB eF rfl (ae rfl cz)) rfl<|ar (ak (aC qH rfl bX aa (au rfl)) (by simp only [pS,Value.cells,Nat.reduceAdd,aF,aH,aK]<;>rfl)) rfl ?_
    refine ar (ak (bW aa rfl qD.1) (by simp only [bn]<;>rfl)) rfl ?_;refine ar (cL (ae rfl (u2 rfl aa)) aa) rfl<|aZ (ae rfl (u4 rfl cz)) (ae rfl (u4 rfl dp)) (ae rfl (u4 rfl cy)) aa ?_;clear cz dp cy;intro e8 bY bZ bC cB
    refine ai<|aW cB (λbE=>?_) (λbE=>?_)
    ·replace bE:=bt bE;refine br<|ai<|aj<|bP<|aj<|fW 13 2 aO (by kernel_rfl) (by kernel_rfl) (by kernel_rfl) (by kernel_rfl) (λdq aP=>?_)
     have cC:=bp aP cA;have cD:=bp aP bX;have cE:dq[aN]? =_:=fH aP aO 0 rfl rfl;have dt:dq[aN+1]? =_:=fH aP aO 1 rfl rfl;have eC:_=aN+2:=fX (K:=2) aP aO;clear aP cA bX aO;refine aQ (λM_ hM_=>(aB eF rfl bY)) trivial ?_;refine cG (0) (λM_ hM_=>(ak (aC qH rfl (cf hM_ cD (by simp)) aa (au rfl)) (by simp only [pS,Value.cells,Nat.reduceAdd,aF,aH,aK]<;>rfl))) trivial trivial ?_;refine aQ (λM_ hM_=>(ah (u2 rfl bC))) trivial ?_;refine aQ (λM_ hM_=>(ak (cr qD (ae rfl aa) aa (by omega) (by(refine cP ?_;omega))) (by simp only [pS,Value.cells,Nat.reduceAdd,aF,aH,aK]<;>rfl))) trivial ?_;refine aQ (λM_ hM_=>(ak (bw D5 rfl aa (au rfl)) (by simp only [pS,Value.cells,Nat.reduceAdd,aF,aH,aK]<;>rfl))) trivial ?_;refine aQ (λM_ hM_=>(aB eF rfl (ae rfl (u4 rfl bZ)))) trivial ?_;refine cG (1) (λM_ hM_=>(ak (aC qH rfl (cf hM_ cC (by simp)) aa (au rfl)) (by simp only [pS,Value.cells,Nat.reduceAdd,aF,aH,aK]<;>rfl))) trivial trivial ?_;refine aQ (λM_ hM_=>(ah (ae rfl (u2 rfl (u4 rfl bC))))) trivial ?_;refine aQ (λM_ hM_=>(ak (cr qD (ae rfl aa) aa (by omega) (by(refine cP ?_;omega))) (by simp only [pS,Value.cells,Nat.reduceAdd,aF,aH,aK]<;>rfl))) trivial ?_;refine aQ (λM_ hM_=>(ak (bw D5 rfl aa (au rfl)) (by simp only [pS,Value.cells,Nat.reduceAdd,aF,aH,aK]<;>rfl))) trivial ?_;refine lh (aN) (λM_ hM_=>(qp lU rfl)) trivial cE rfl trivial ⟨.inl (by simp<;>omega),⟨.inl (by simp<;>omega),trivial⟩⟩ (λe9 aR=>?_);have cF:=bk aR cE;simp only [pS,Value.cells,Nat.reduceAdd,aF,aH,aK]at cF;have du:=ao aR cC (by omega);have dv:=ao aR cD (by omega);have cH:=ao aR dt (by omega);have eD:=bc aR eC;clear aR cC cD cE dt;refine lh (aN+1) (λM_ hM_=>(qp lU rfl)) trivial cH rfl ⟨.inl (by simp<;>omega),trivial⟩ ⟨.inl (by simp<;>omega),⟨.inl (by simp<;>omega),⟨.inl (by simp<;>omega),trivial⟩⟩⟩ (λfa aV=>?_);have cI:=bk aV cH;simp only [pS,Value.cells,Nat.reduceAdd,aF,aH,aK]at cI;have cJ:=ao aV cF (by omega);have dw:=ao aV du (by omega);have dx:=ao aV dv (by omega);have eG:=bc aV eD;clear aV cF du dv cH;refine pF (aN) (λM_ hM_=>(nw (ae rfl aa) (ae rfl (u2 rfl (u4 rfl aa))) rfl rfl (cf hM_ cJ (by simp)) lV rfl (au rfl))) trivial ⟨.inr (gi 12 10 (by kernel_rfl)),⟨.inl (by simp<;>omega),trivial⟩⟩ ⟨.inl (by simp<;>omega),⟨.inl (by simp<;>omega),⟨.inr (gi 12 10 (by kernel_rfl)),⟨.inl (by simp<;>omega),trivial⟩⟩⟩⟩ (λfb a2=>?_);have cK:=bk a2 cJ;simp only [pS,Value.cells,Nat.reduceAdd,aF,aH,aK]at cK;have cM:=ao a2 cI (by omega);have dy:=ao a2 dw (by omega);have dz:=ao a2 dx (by omega);have eH:=bc a2 eG;clear a2 cI cJ dw dx;refine gj rfl ?_;refine aL (bN (ay aa) (ay (u2 rfl aa)) rfl rfl cM lV rfl (au rfl)) trivial rfl (λfc a3=>?_);have bI:=bk a3 cM;simp only [pS,Value.cells,Nat.reduceAdd,aF,aH,aK]at bI;have b0:=ao a3 cK (by omega);have dB:=ao a3 dy (by omega);have dE:=ao a3 dz (by omega);have dF:=bc a3 eH;clear a3 cK cM dy dz;refine bV (ay (ay (u4 rfl (u8 rfl bY)))) (ay (ay (u4 rfl (u8 rfl bZ)))) (ay (ay (u4 rfl (u8 rfl bC)))) (ay (ay (ae rfl aa))) (ay (ay aa)) ?_;clear bY bZ bC cB;intro fd b1 b2 b6 bL bQ;refine ai<|aj<|at_<|ar (aB kj rfl bL) rfl<|ar (ak (aC ui rfl b0 aa (au rfl)) (by simp only [pS,Value.cells,Nat.reduceAdd,aF,aH,aK]<;>rfl)) rfl ?_
     refine ar (aB kj rfl (u2 rfl bQ)) rfl<|ar (ak (aC ui rfl bI aa (au rfl)) (by simp only [pS,Value.cells,Nat.reduceAdd,aF,aH,aK]<;>rfl)) rfl ?_
     refine ar (dS (u2 rfl aa) aa) rfl<|ar (ah aa) rfl<|bM aa (λad bR=>?_) (λad bR=>?_)
     ·replace bR:=cV bR;refine az ⟨_,rfl,.inl ad⟩ rfl ?_;refine az ⟨_,rfl,.inl (ae rfl ad)⟩ rfl ?_;refine az ⟨_,rfl,.inl (u2 rfl ad)⟩ rfl ?_;refine az ⟨_,rfl,.inl (ae rfl (u2 rfl ad))⟩ rfl ?_;refine az ⟨_,rfl,.inl (u4 rfl ad)⟩ rfl ?_;refine ar (bD (ae rfl (u4 rfl ad)) al) rfl<|ar (ah aa) rfl<|az ⟨_,rfl,.inl aa⟩ rfl ?_
      refine az ⟨_,rfl,.inl (ae rfl aa)⟩ rfl ?_;refine az ⟨_,rfl,.inl (u2 rfl aa)⟩ rfl ?_;refine az ⟨_,rfl,.inl (ae rfl (u2 rfl aa))⟩ rfl ?_;refine az ⟨_,rfl,.inl (u4 rfl aa)⟩ rfl ?_;refine az ⟨_,rfl,.inl (ae rfl (u4 rfl aa))⟩ rfl ?_;refine ar (bD (u2 rfl (u4 rfl aa)) al) rfl<|aZ (u4 rfl (u16 rfl b1)) (u4 rfl (u16 rfl b2)) (u4 rfl (u16 rfl b6)) aa ?_;clear ad b1 b2 b6 bL bQ;intro fe eI eJ eK dI
      refine ai<|oZ dI<|aj<|at_<|ar (aw al) rfl<|aT aa ?_;clear dI eI eJ eK;intro ff dJ
      refine ai<|aX<|de<|bO<|bO<|de<|bO<|bK (.inr rfl) (by kernel_rfl) (aS dJ) (.ro _ rfl) ?_
      clear dJ bI b0 dB dE dF
      (simp at*;done)
     replace bR:=dj bR;refine aA (aB hU rfl (u2 rfl (u4 rfl bL))) ⟨_,rfl,ad⟩ rfl ?_;refine aA (ak (aC uh rfl b0 aa (au rfl)) (by simp only [pS,Value.cells,Nat.reduceAdd,aF,aH,aK]<;>rfl)) ⟨_,rfl,(ae rfl ad)⟩ rfl ?_;refine aA (aB hU rfl (u8 rfl bQ)) ⟨_,rfl,(u2 rfl ad)⟩ rfl ?_;refine aA (ak (aC uh rfl bI aa (au rfl)) (by simp only [pS,Value.cells,Nat.reduceAdd,aF,aH,aK]<;>rfl)) ⟨_,rfl,(ae rfl (u2 rfl ad))⟩ rfl ?_;refine aA (ez (u2 rfl aa) aa) ⟨_,rfl,(u4 rfl ad)⟩ rfl ?_;refine ar (bJ (ae rfl (u4 rfl ad)) aa) rfl<|ar (ah aa) rfl<|bM aa (λan bS=>?_) (λan bS=>?_)
     ·replace bS:=dR bS;exfalso;omega
     replace bS:=dG bS;refine aA (aB fZ rfl (ae rfl (u4 rfl (u8 rfl bL)))) ⟨_,rfl,an⟩ rfl ?_;refine aA (ak (aC D3 rfl b0 aa (au rfl)) (by simp only [pS,Value.cells,Nat.reduceAdd,aF,aH,aK]<;>rfl)) ⟨_,rfl,(ae rfl an)⟩ rfl ?_;refine aA (aB fZ rfl (ae rfl (u2 rfl (u4 rfl (u8 rfl bQ))))) ⟨_,rfl,(u2 rfl an)⟩ rfl ?_;refine aA (ak (aC D3 rfl bI aa (au rfl)) (by simp only [pS,Value.cells,Nat.reduceAdd,aF,aH,aK]<;>rfl)) ⟨_,rfl,(ae rfl (u2 rfl an))⟩ rfl ?_;refine aA (bj (ax (u2 rfl aa) (ax aa aI)) rfl ((K0 _ _ (by omega) (by omega)).mono (λq h=>show q=dH true from h.trans (by simp))) KY) ⟨_,rfl,(u4 rfl an)⟩ rfl ?_;refine aA (di aa) ⟨_,rfl,(ae rfl (u4 rfl an))⟩ rfl ?_;refine ar (bJ (u2 rfl (u4 rfl an)) aa) rfl<|aZ (u4 rfl (u16 rfl b1)) (u4 rfl (u16 rfl b2)) (u4 rfl (u16 rfl b6)) aa ?_;clear ad an b1 b2 b6 bL bQ;intro fg dK dL dM dQ
     refine ai<|aW dQ (λa5=>?_) (λa5=>?_)
     ·replace a5:=cV a5;cases a5
     replace a5:=dj a5;refine br<|cv<|ai<|at_<|ar (ah dM) rfl ?_
     (refine ar (cj aa al ?_) rfl ?_; · (unfold In64;omega))
     refine ar (aw aa) rfl<|bq (ae rfl (u2 rfl dK)) (ae rfl (u2 rfl dL)) aa ?_;clear dQ dK dL dM;intro fh eL eM eN
     refine ai<|⟨_,⟨eN,(eL.trans dm.symm),(eM.trans dn.symm),(dB.trans bu.symm),(dE.trans aM.symm),⟨_,dF,by omega⟩,?_⟩,?_⟩
     ·(exact⟨by omega,by omega⟩)
     ·((try dsimp only);omega)
    replace bE:=bf bE;refine dD<|b7<|b7<|dC<|ai<|aj<|at_<|ar (aw al) rfl<|aT aa ?_;clear bY bZ bC cB;intro fi dT
    refine ai<|aX<|bK (.inr rfl) (by kernel_rfl) (aS dT) (.ro _ rfl) ?_
    clear dT cA bX aO;rfl
end Go.Proofs.YtbmlgmblfboigaaGreatDoor
namespace Go.Proofs.YtbmlgmblfboigaaGreatDoor
open Go Go.RowKit Go.Proofs Go.Shelf Go.Lib
theorem wC:∀ args w,(callFunc 10 args).run Tryz.prog w= .ok (.enter 10 args) w:=λ_ _=>by kernel_rfl
theorem Ba:∀ args w,(callFunc 11 args).run Tryz.prog w= .ok (.enter 11 args) w:=λ_ _=>by kernel_rfl
theorem Bc:∀ args w,(callFunc 12 args).run Tryz.prog w= .ok (.enter 12 args) w:=λ_ _=>by kernel_rfl
theorem Be:∀ args w,(callFunc 13 args).run Tryz.prog w= .ok (.enter 13 args) w:=λ_ _=>by kernel_rfl
theorem K2:∀ args w,(callFunc 14 args).run Tryz.prog w= .ok (.enter 14 args) w:=λ_ _=>by kernel_rfl
theorem xk:∀ args w,(callFunc 6 args).run Tryz.prog w= .ok (.enter 6 args) w:=λ_ _=>by kernel_rfl
theorem Ov:∀ args w,(callFunc 7 args).run Tryz.prog w= .ok (.enter 7 args) w:=λ_ _=>by kernel_rfl
theorem Ox:∀ args w,(callFunc 9 args).run Tryz.prog w= .ok (.enter 9 args) w:=λ_ _=>by kernel_rfl
theorem Oy:Tryz.prog.eqGuardType Tryz.prog.depth 29=false:=by kernel_rfl
theorem Oz{a0 b0:Int}{a1 b1:Int}:g8 Tryz.prog 2 29 (.agg #[.int .i64 a0,.int .i64 a1]) (.agg #[.int .i64 b0,.int .i64 b1]) (decide (a0=b0)&&(decide (a1=b1)&&true)):=(sh [(3,0),(3,1)] (by kernel_rfl) (by kernel_rfl) (by kernel_rfl) (by kernel_rfl) (.cons (λ_=>by kernel_rfl) (λ_=>by kernel_rfl) (mD (k:=.i64) (k':=.i64) (by kernel_rfl) a0 b0) (.cons (λ_=>by kernel_rfl) (λ_=>by kernel_rfl) (mD (k:=.i64) (k':=.i64) (by kernel_rfl) a1 b1) .nil)))
theorem kX:aN Tryz.prog 27 true 4:=⟨by kernel_rfl,by kernel_rfl⟩
theorem OA:aN Tryz.prog 29 true 2:=⟨by kernel_rfl,by kernel_rfl⟩
section
variable (es er:Value) (hes:eS es) (her:eS er)
include hes her
theorem H3{l:aU}(hg:(b9 l).2=0):gk Tryz.prog (gX es er) 7 [.v (.string (bs (lD l)))] (λq=>q=jc ⟨l,0,0,0⟩):=by
 have hR:=ky hg;have h1:=qT hR l.ss.length (Tf _);have h2:=hR.s1;have h3:=hR.js;have h4:=hR.n1;have:=Ku es er hes her (lD l) (by unfold lD;omega);rw [J8 hg]at this;exact this
theorem HE(l:aU):gk Tryz.prog (gX es er) 4 [ep l] (λq=>q=bA true):=by
 cases hf:om l with
 | false=>
  refine qq (fn:=Tryz.f4) (gX es er) 57 (by kernel_rfl) rfl (by kernel_rfl) (S8 rfl) ?_;intro a8 aH hA av;have aK:ag a8 (.tmp 0)=_:=hA 0 _ rfl;have az:aH.length=1:=by rw [av];rfl
  have aM:aH[0]? =some (.bL (gX es er)):=by rw [av];rfl
  clear hA av;refine aj<|at_<|aL (dO aK rfl az) trivial rfl (λbP af=>?_)
  have am:=bH af az;have aF:=aJ af aM;have an:=bG af az;have an:_=2:=an;clear af aM;refine ar (aw al) rfl<|aT (ae rfl aa) ?_;clear aK;intro bQ aN
  refine ai<|aj<|aj<|at_<|ar (bj aI rfl (xj) xk) rfl<|ar (di aa) rfl<|aY (u2 rfl aN) aa ?_;clear aN;intro bR aB aO
  refine ai<|aW aO (λab=>?_) (λab=>?_)
  ·replace ab:=cV ab;cases ab
  replace ab:=dj ab;refine br<|ai<|aj<|aj<|at_<|ar (ak (aC kX rfl am aB (au rfl)) (by simp only [pS,Value.cells,Nat.reduceAdd]<;>rfl)) rfl ?_
  refine ar (bj (ax aa aI) rfl ((xW l).mono (λq h=>show q=dH false from h.trans (by rw [hf]))) wC) rfl ?_;refine ar (di aa) rfl<|aY (ae rfl (u2 rfl aB)) aa ?_;clear aO aB;intro bS aG aP
  refine ai<|aW aP (λad=>?_) (λad=>?_)
  ·replace ad:=cV ad;refine aj<|at_<|ar (aw al) rfl<|aT aa ?_;clear aP aG;intro bT bU
   refine ai<|aX<|bO<|bK (.inr rfl) (by kernel_rfl) (aS bU) (.ro _ rfl) ?_
   clear bU am aF an;rfl
  ·replace ad:=dj ad;cases ad
 | true=>
  have hs:=Nj hf
  by_cases hg:(b9 l).2=0
  ·skip;refine qq (fn:=Tryz.f4) (gX es er) 57 (by kernel_rfl) rfl (by kernel_rfl) (S8 rfl) ?_;intro a8 aH hA av;have aK:ag a8 (.tmp 0)=_:=hA 0 _ rfl;have az:aH.length=1:=by rw [av];rfl
   have aM:aH[0]? =some (.bL (gX es er)):=by rw [av];rfl
   clear hA av;refine aj<|at_<|aL (dO aK rfl az) trivial rfl (λbP af=>?_)
   have am:=bH af az;have aF:=aJ af aM;have an:=bG af az;have an:_=2:=an;clear af aM;refine ar (aw al) rfl<|aT (ae rfl aa) ?_;clear aK;intro bQ aN
   refine ai<|aj<|aj<|at_<|ar (bj aI rfl (xj) xk) rfl<|ar (di aa) rfl<|aY (u2 rfl aN) aa ?_;clear aN;intro bR aB aO
   refine ai<|aW aO (λab=>?_) (λab=>?_)
   ·cases ab
   replace ab:=dj ab;refine br<|ai<|aj<|aj<|at_<|ar (ak (aC kX rfl am aB (au rfl)) (by simp only [pS,Value.cells,Nat.reduceAdd,jc]<;>rfl)) rfl ?_
   refine ar (bj (ax aa aI) rfl ((xW l).mono (λq h=>show q=dH true from h.trans (by rw [hf]))) wC) rfl ?_;refine ar (di aa) rfl<|aY (ae rfl (u2 rfl aB)) aa ?_;clear aO aB;intro bS aG aP
   refine ai<|aW aP (λad=>?_) (λad=>?_)
   ·cases ad
   replace ad:=dj ad;refine br<|ai<|aj<|at_<|ar (ak (aC kX rfl am aG (au rfl)) (by simp only [pS,Value.cells,Nat.reduceAdd,jc]<;>rfl)) rfl ?_
   refine ar (bj (ax aa aI) rfl (CZ l hs) Bc) rfl<|ar (oO (ax aa aI) rfl aF (J3 es er l hs hg) Ba) rfl<|ar (ah aa) rfl<|ar (cH aa rfl) rfl<|ar (cH (ae rfl aa) rfl) rfl<|ar (aw (ae rfl aa)) rfl<|ar (aw (ae rfl aa)) rfl<|bq (u8 rfl aG) (ae rfl aa) aa ?_;clear aP aG;intro bT aQ a9 ba
   refine ai<|aj<|aj<|at_<|ar (ak (aC kX rfl am aQ (au rfl)) (by simp only [pS,Value.cells,Nat.reduceAdd,jc]<;>rfl)) rfl ?_
   refine ar (bj (ax aa aI) rfl ((Ah l hs).mono (λq h=>show q=mA 0 from h.trans (by rw [hg]))) Be) rfl ?_;refine ar (aw aa) rfl<|aZ (ae rfl (u2 rfl aQ)) (ae rfl (u2 rfl a9)) (ae rfl (u2 rfl ba)) aa ?_;clear aQ a9 ba;intro ck bb be bg aR
   refine ai<|aj<|at_<|ar (ah aR) rfl<|ar (ez aa al) rfl<|bV (u2 rfl bb) (u2 rfl be) (u2 rfl bg) (u2 rfl aR) aa ?_;clear bb be bg aR;intro cm bh aV bm bu bn
   refine ai<|aW bn (λaD=>?_) (λaD=>?_)
   ·cases aD
   replace aD:=dG aD;refine br<|ai<|aj<|aj<|at_<|ar (ah bm) rfl<|ar (ez aa al) rfl<|ar (ah aa) rfl<|bM aa (λap aE=>?_) (λap aE=>?_)
   ·cases aE
   replace aE:=dG aE;refine aA (ah (ae rfl (u2 rfl aV))) ⟨_,rfl,ap⟩ rfl ?_;refine aA (ak (aC kX rfl am (u4 rfl bh) (au rfl)) (by simp only [pS,Value.cells,Nat.reduceAdd,jc]<;>rfl)) ⟨_,rfl,(ae rfl ap)⟩ rfl ?_;refine aA (bj (ax aa aI) rfl (IV l (ky hg)) K2) ⟨_,rfl,(u2 rfl ap)⟩ rfl ?_;refine aA (dS (u2 rfl aa) aa) ⟨_,rfl,(ae rfl (u2 rfl ap))⟩ rfl ?_;refine ar (bJ (u4 rfl ap) aa) rfl<|bq (u8 rfl bh) (u8 rfl aV) aa ?_;clear ap bh bn aV bm bu;intro cq bW bX bZ
   refine ai<|aW bZ (λbv=>?_) (λbv=>?_)
   ·(simp at bv;done)
   replace bv:=dj bv;refine br<|ai<|aj<|at_<|ar (ah bX) rfl<|ar (oO (ax aa aI) rfl aF (H3 es er hes her hg) Ov) rfl<|ar (ah aa) rfl<|ar (cH aa rfl) rfl<|ar (cH (ae rfl aa) rfl) rfl<|ar (cH (u2 rfl aa) rfl) rfl<|aL (cu ri rfl an) trivial rfl (λcr bo=>?_)
   have bx:=bH bo an;simp only [pS,Value.cells,Nat.reduceAdd,jc]at bx;have b0:=aJ bo am;have b1:=aJ bo aF;have bp:=bG bo an;have bp:_=3:=bp;clear bo am aF;refine aL (cu yN rfl bp) trivial rfl (λct a2=>?_);have bz:=bH a2 bp;simp only [pS,Value.cells,Nat.reduceAdd,jc]at bz;have bB:=aJ a2 bx;have b2:=aJ a2 b0;have b6:=aJ a2 b1;have bC:=bG a2 bp;have bC:_=4:=bC;clear a2 bx b0 b1;refine aL (bN (ae rfl aa) (u4 rfl aa) rfl rfl bB pK rfl (au rfl)) trivial rfl (λcv a3=>?_);have bE:=bk a3 bB;simp only [pS,Value.cells,Nat.reduceAdd,jc]at bE;have bF:=ao a3 bz (by decide);have b7:=ao a3 b2 (by decide);have b8:=ao a3 b6 (by decide);have cn:=bc a3 bC;clear a3 bz bB b2 b6;refine aL (bN (ay aa) (ay (ae rfl (u2 rfl aa))) rfl rfl bF u5 rfl (au rfl)) trivial rfl (λcw a5=>?_);have bI:=bk a5 bF;simp only [pS,Value.cells,Nat.reduceAdd,jc]at bI;have ca:=ao a5 bE (by decide);have cb:=ao a5 b7 (by decide);have co:=ao a5 b8 (by decide);have cp:=bc a5 cn;clear a5 bE bF b7 b8;refine ar (aw (ay (ay (u2 rfl aa)))) rfl<|aZ (ae rfl (ay (ay (u8 rfl bW)))) (ae rfl (ay (ay (ae rfl aa)))) (ae rfl (ay (ay aa))) aa ?_;clear bW bZ bX;intro cx cc cd ce cf
   refine ai<|aj<|at_<|ar (ah cf) rfl<|ar (eH aa al) rfl ?_
   refine ar (ah aa) rfl<|bM aa (λa6 bw=>?_) (λa6 bw=>?_)
   ·replace bw:=bt bw;refine aA (ak (aC OA rfl bI (ae rfl (u2 rfl ce)) (au rfl)) (by simp only [pS,Value.cells,Nat.reduceAdd,jc]<;>rfl)) ⟨_,rfl,a6⟩ rfl ?_;refine aA (dz bY uY uW uU rfl) ⟨_,rfl,(ae rfl a6)⟩ rfl ?_;refine aA (Lo (ae rfl aa) aa rfl rfl Oy Oz (by decide)) ⟨_,rfl,(u2 rfl a6)⟩ rfl ?_;refine ar (bD (ae rfl (u2 rfl a6)) aa) rfl<|ar (ah aa) rfl<|bM aa (λa7 cg=>?_) (λa7 cg=>?_)
    ·skip;refine aA (ak (aC kX rfl ca (u8 rfl cd) (au rfl)) (by simp only [pS,Value.cells,Nat.reduceAdd,jc]<;>rfl)) ⟨_,rfl,a7⟩ rfl ?_;refine aA (ak (aC kX rfl cb (ae rfl (u8 rfl cc)) (au rfl)) (by simp only [pS,Value.cells,Nat.reduceAdd,jc]<;>rfl)) ⟨_,rfl,(ae rfl a7)⟩ rfl ?_;refine aA (bj (ax (ae rfl aa) (ax aa aI)) rfl (K1 l hs) Ox) ⟨_,rfl,(u2 rfl a7)⟩ rfl ?_;refine ar (bD (ae rfl (u2 rfl a7)) aa) rfl<|ar (aw aa) rfl<|aT aa ?_;clear a6 a7 cc cd ce cf;intro cy ci
     refine ai<|aX<|bK (.inr rfl) (by kernel_rfl) (aS ci) (.ro _ rfl) ?_
     clear ci bI ca cb co cp;rfl
    ·cases cg
   ·cases bw
  ·skip;refine qq (fn:=Tryz.f4) (gX es er) 57 (by kernel_rfl) rfl (by kernel_rfl) (S8 rfl) ?_;intro a8 aH hA av;have aK:ag a8 (.tmp 0)=_:=hA 0 _ rfl;have az:aH.length=1:=by rw [av];rfl
   have aM:aH[0]? =some (.bL (gX es er)):=by rw [av];rfl
   clear hA av;refine aj<|at_<|aL (dO aK rfl az) trivial rfl (λbP af=>?_)
   have am:=bH af az;have aF:=aJ af aM;have an:=bG af az;have an:_=2:=an;clear af aM;refine ar (aw al) rfl<|aT (ae rfl aa) ?_;clear aK;intro bQ aN
   refine ai<|aj<|aj<|at_<|ar (bj aI rfl (xj) xk) rfl<|ar (di aa) rfl<|aY (u2 rfl aN) aa ?_;clear aN;intro bR aB aO
   refine ai<|aW aO (λab=>?_) (λab=>?_)
   ·cases ab
   replace ab:=dj ab;refine br<|ai<|aj<|aj<|at_<|ar (ak (aC kX rfl am aB (au rfl)) (by simp only [pS,Value.cells,Nat.reduceAdd]<;>rfl)) rfl ?_
   refine ar (bj (ax aa aI) rfl ((xW l).mono (λq h=>show q=dH true from h.trans (by rw [hf]))) wC) rfl ?_;refine ar (di aa) rfl<|aY (ae rfl (u2 rfl aB)) aa ?_;clear aO aB;intro bS aG aP
   refine ai<|aW aP (λad=>?_) (λad=>?_)
   ·cases ad
   replace ad:=dj ad;refine br<|ai<|aj<|at_<|ar (ak (aC kX rfl am aG (au rfl)) (by simp only [pS,Value.cells,Nat.reduceAdd]<;>rfl)) rfl ?_
   refine ar (bj (ax aa aI) rfl (CZ l hs) Bc) rfl<|ar (oO (ax aa aI) rfl aF (IP es er l hs hg) Ba) rfl<|ar (ah aa) rfl<|ar (cH aa rfl) rfl<|ar (cH (ae rfl aa) rfl) rfl<|ar (aw (ae rfl aa)) rfl<|ar (aw (ae rfl aa)) rfl<|bq (u8 rfl aG) (ae rfl aa) aa ?_;clear aP aG;intro bT aQ a9 ba
   refine ai<|aj<|aj<|at_<|ar (ak (aC kX rfl am aQ (au rfl)) (by simp only [pS,Value.cells,Nat.reduceAdd]<;>rfl)) rfl ?_
   refine ar (bj (ax aa aI) rfl (Ah l hs) Be) rfl<|ar (aw aa) rfl<|aZ (ae rfl (u2 rfl aQ)) (ae rfl (u2 rfl a9)) (ae rfl (u2 rfl ba)) aa ?_;clear aQ a9 ba;intro ck bb be bg aR
   refine ai<|aj<|at_<|ar (ah aR) rfl<|ar (ez aa al) rfl<|bV (u2 rfl bb) (u2 rfl be) (u2 rfl bg) (u2 rfl aR) aa ?_;clear bb be bg aR;intro cm bh aV bm bu bn
   refine ai<|aW bn (λaD=>?_) (λaD=>?_)
   ·replace aD:=dR aD;refine aj<|at_<|ar (ah bm) rfl<|ar (ah (ae rfl bu)) rfl<|ar (eH (ae rfl aa) aa) rfl ?_
    refine ar (ah aa) rfl<|bM aa (λap aE=>?_) (λap aE=>?_)
    ·replace aE:=bt aE;refine aA (ah (u4 rfl aV)) ⟨_,rfl,ap⟩ rfl ?_;refine aA (eG aa al) ⟨_,rfl,(ae rfl ap)⟩ rfl ?_;refine ar (bD (u2 rfl ap) aa) rfl<|ar (aw aa) rfl<|aT aa ?_;clear ap bh bn aV bm bu;intro cz cj
     refine ai<|aX<|bO<|bK (.inr rfl) (by kernel_rfl) (aS cj) (.ro _ rfl) ?_
     clear cj am aF an
     (simp;done)
    ·replace aE:=bf aE;exfalso;omega
   ·replace aD:=dG aD;exfalso;omega
end
end Go.Proofs.YtbmlgmblfboigaaGreatDoor
