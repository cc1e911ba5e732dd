/- Texts of this claim, one behind the other: lemmas for the statement. -/
import Derived.Test.YtbmlgmblfboigaaGreatDoorM8
import Derived.Test.YtbmlgmblfboigaaGreatDoorRound
import Derived.Test.YtbmlgmblfboigaaGreatDoorM1
import Derived.Test.YtbmlgmblfboigaaGreatDoorT0
import Derived.Test.YtbmlgmblfboigaaGreatDoorRows
import Derived.Test.YtbmlgmblfboigaaGreatDoorChecked
import Derived.WalkKit
import Derived.ProofKit
import Derived.OpenShut
import Derived.Deep.DeepHandedRow
import Derived.Deep.SlicePairs
import Derived.Lib.LaidTab
import Derived.Lib.SmallJoins
import Derived.Carry
import Derived.Test.YtbmlgmblfboigaaGreatDoorCards
import Derived.Test.YtbmlgmblfboigaaGreatDoorTie
import Derived.Lib.ItoaNum
import Derived.Lib.ItoaLen
import Derived.Lib.AtoiTie
import Derived.Lib.Strings
import Derived.Test.YtbmlgmblfboigaaGreatDoorM3
import Derived.Test.YtbmlgmblfboigaaGreatDoorProg
import Derived.Shelf.LaysM
import Derived.Shelf.LaysC
import Derived.Shelf.Strconv.Itoa3
import Derived.Shelf.Strconv.AtoiAll
import Derived.Shelf.Strings.Search1
import Derived.Shelf.Strings.Prefix
import Derived.Lib.AppendIntMem
set_option linter.unusedSimpArgs false
set_option linter.unusedVariables false
namespace Go.Proofs.YtbmlgmblfboigaaGreatDoor
open Go Go.RowKit Go.Proofs
attribute [local go_sem] Oper.semAt_some
def W2:List Int:= [0,0,-1,-1,0,1,-1,0,1,0,0,-1,1,1,0,0]
def Sts(w:World):Prop:=999<w.heap.size/\ ∀ j,j<16->w.cell? ⟨999,j,none⟩=some (.int .i64 (W2.getD j 0))
theorem Sts.ext{w w':World}(h:Sts w)(hx:Ext w w'):Sts w':=⟨XG h.1 hx.size,λj hj=>(Below.cell hx (p:=⟨999,j,none⟩) h.1).trans (h.2 j hj)⟩
section region
variable (wb:Nat) (w0:World) (B4 B7 B8:Nat) (S L:Value) (st:Int) (l:T2) (k:Nat) (sts ls:List Value)
def sE(w:World)(x:Value):Prop:=∃ A c,x= .slice A (k+1) c/\w.ownsRow wb 3 1 x (k+1) (sts++ [.int .i64 st])
variable {wb w0 B4 B7 B8 S L st l k sts ls} {m:Nat->Bool} {w w':World}
theorem sE.alloc{x:Value}(h:sE wb st k sts w x)(o:Obj):sE wb st k sts (w.alloc o) x:=let ⟨A,c,e,r⟩:=h;⟨A,c,e,r.alloc o⟩
theorem sE.grown{x:Value}{row:Option Nat}{f:TypeId}(h:sE wb st k sts w x)(hg:w.grownBy w' row)(hr:RowOf w row f)(hne:3≠f):sE wb st k sts w' x:=let ⟨A,c,e,r⟩:=h;⟨A,c,e,Na r hg hr hne⟩
end region
end Go.Proofs.YtbmlgmblfboigaaGreatDoor
namespace Go.Proofs.YtbmlgmblfboigaaGreatDoor
open Go Go.RowKit Go.Proofs
def okB(j:Nat)(c:UInt8):Bool:=
 decide (97<=(c.toNat:Int)/\(c.toNat:Int)<=122\/65<=(c.toNat:Int)/\(c.toNat:Int)<=90\/j≠0/\((c.toNat:Int)=45\/48<=(c.toNat:Int)/\(c.toNat:Int)<=57))
theorem JK{j:Nat}{c:UInt8}(h:97<=(c.toNat:Int)/\(c.toNat:Int)<=122\/65<=(c.toNat:Int)/\(c.toNat:Int)<=90\/j≠0/\((c.toNat:Int)=45\/48<=(c.toNat:Int)/\(c.toNat:Int)<=57)):okB j c=true:=decide_eq_true h
theorem JM{j:Nat}{c:UInt8}(h:¬ (97<=(c.toNat:Int)/\(c.toNat:Int)<=122\/65<=(c.toNat:Int)/\(c.toNat:Int)<=90\/j≠0/\((c.toNat:Int)=45\/48<=(c.toNat:Int)/\(c.toNat:Int)<=57))):okB j c=false:=decide_eq_false h
def nf(l:List UInt8):Bool:=(List.range l.length).all λj=>okB j (l.getD j default)
def dF(s:ByteArray):Bool:=nf s.data.toList&&decide (1<=s.size)&&decide (s.size<=12)
theorem I3{l:List UInt8}{i:Nat}(hi:i<l.length)(h:okB i (l.getD i default)=false):nf l=false:=by
 unfold nf;rw [Bool.eq_false_iff];intro ha;have:=Xv.1 ha i (XX.2 hi);rw [h]at this;cases this
theorem Bg{l:List UInt8}(h:∀ j:Nat,j<l.length->okB j (l.getD j default)=true):nf l=true:=Xv.2 λj hj=>h j (XX.1 hj)
theorem HM(s:ByteArray):s.data.toList.length=s.size:=rfl
theorem MD(s:ByteArray):s.toList=s.data.toList:=ByteArray.toList_eq s
theorem Du(s:ByteArray):(s.toList==(ByteArray.mk #[]).toList)=decide (s.size=0):=by
 rw [Yl];simp only [beq_iff_eq,decide_eq_true_eq,MD]
 constructor
 ·intro h;have:=congrArg List.length h;exact this
 ·intro h;exact XS h
def gA(c:Int):Bool:=decide (97<=c/\c<=122\/65<=c/\c<=90)
set_option maxRecDepth 100000 in
set_option maxHeartbeats 4000000 in
theorem Dv(s:ByteArray)(hs:s.size<=1000000000):bN Tryz.prog 72 [.v (.string s)] (λq=>q= .v (.bool (dF s))):=by
 refine cw (fn:=Tryz.f72) 55 ai rfl ai aU ?_;intro bH br hA bu;have bv:ak bH (.tmp 0)=_:=hA 0 _ rfl;have bw:br.length=0:=by rw [bu];rfl
 clear hA bu;have hsl:=HM s;refine au<|at_<|ar (aB ay) rfl<|aY (ae bv) ?_;clear bv;intro bI aC
 refine ao<|au<|au<|gl (λe mem=>(ak e (.tmp 13)= .v (.bool (decide (s.size<1\/12<s.size))))/\(ak e (.tmp 0)=ak bI (.tmp 0))/\br=mem) ?_ ?_
 ·
  refine at_<|ar (al aC) rfl<|ar (jg aa rfl fj) rfl<|ar (cU aa ay) rfl<|ar (al aa) rfl<|bQ aa (λaw aI=>?_) (λaw aI=>?_)
  ·replace aI:=bt aI;refine aF ⟨_,rfl,.inl aw⟩ rfl ?_;refine aF ⟨_,rfl,.inl (ae aw)⟩ rfl ?_;refine aF ⟨_,rfl,.inl (ag aw)⟩ rfl ?_;refine ar (bD (ae (ag aw)) ay) rfl<|bq (aA aC) aa ?_;intro cT bM bO
   refine ao ⟨(bO).trans (by(refine cu ?_;simp only [decide_eq_true_eq,Xi,true_iff,false_iff];omega)),(bM).trans (aC).symm,rfl⟩
  replace aI:=bf aI;refine aG (al (aj aC)) ⟨_,rfl,aw⟩ rfl ?_;refine aG (jg aa rfl fj) ⟨_,rfl,(ae aw)⟩ rfl ?_;refine aG (ey aa ay) ⟨_,rfl,(ag aw)⟩ rfl ?_;refine ar (bG (ae (ag aw)) aa) rfl<|bq (aA aC) aa ?_;intro cV bP bR
  refine ao ⟨(bR).trans (by(refine cu ?_;simp only [decide_eq_true_eq,Xi,true_iff,false_iff];omega)),(bP).trans (aC).symm,rfl⟩
 ·rintro cW _ ⟨a5,bT,rfl⟩;have a6:=bT.trans aC;refine bj a5 (λaK=>?_) (λaK=>?_)
  ·replace aK:=bt aK;refine au<|at_<|ar (aB ay) rfl<|aY aa ?_;clear a6 a5;intro cX bx
   refine ao<|bg<|bS<|bL bm ai (bc bx) (.ro _ rfl) ?_
   clear bx bw
   (simp only [dF];refine cu ?_;simp only [Xg,decide_eq_true_eq,Xi,false_iff];omega)
  replace aK:=bf aK;refine bC<|ao<|au<|au<|at_<|ar (aB ay) rfl<|bq (ae a6) aa ?_;clear a6 a5;intro bW bz bY
  refine ao<|bV<|eu (S:=Int) (λi e mem=>(ak e (.tmp 3)= .v (.int .i64 i))/\(ak e (.tmp 0)=ak bW (.tmp 0))/\(mem.length=0)/\((0<=i/\i<=s.data.toList.length/\ ∀ j:Nat,j<i.toNat->okB j (s.data.toList.getD j default)=true))) (λi=>(s.data.toList.length - i).toNat) _ ⟨bY,rfl,bw,?_⟩ ?_
  ·exact⟨ah,ah,λj hj=>by omega⟩
  ·rintro i cY bA ⟨a7,bZ,a8,hinv⟩;have a9:=bZ.trans bz;refine au<|au<|at_<|ar (al a7) rfl<|ar (al (ae a9)) rfl<|ar (jg aa rfl fj) rfl<|ar (cU (ag aa) aa) rfl<|bJ (aj a9) (aj a7) aa ?_;clear a9 a7;intro cZ aZ a2 ba
   refine ao<|bj ba (λaL=>?_) (λaL=>?_)
   ·replace aL:=bt aL;refine bC<|ao<|au<|bV<|au<|at_<|ar (al aZ) rfl<|ar (al (ae a2)) rfl<|ar (yT (ae aa) aa fj ah (by refine Ab ?_;omega)) rfl ?_
    refine ar (aB aa) rfl<|bJ (aj aZ) (aj a2) aa ?_;clear aZ ba a2;intro bb ax az ad
    refine ao<|au<|gl (λe mem=>(ak e (.tmp 5)= .v (.bool (gA (s.data.toList.getD i.toNat default).toNat)))/\(ak e (.tmp 0)=ak bb (.tmp 0))/\(ak e (.tmp 3)=ak bb (.tmp 3))/\(ak e (.tmp 4)=ak bb (.tmp 4))/\bA=mem) ?_ ?_
    ·
     refine at_<|ar (al ad) rfl<|ar (mW aa ay) rfl<|ar (al aa) rfl<|bQ aa (λaD aM=>?_) (λaD aM=>?_)
     ·replace aM:=bt aM;refine aG (al (ae (ag ad))) ⟨_,rfl,aD⟩ rfl ?_;refine aG (fA aa ay) ⟨_,rfl,(ae aD)⟩ rfl ?_;refine ar (bD (ag aD) aa) rfl<|ar (al aa) rfl<|bQ aa (λap aN=>?_) (λap aN=>?_)
      ·replace aN:=bt aN;refine aF ⟨_,rfl,.inl ap⟩ rfl ?_;refine aF ⟨_,rfl,.inl (ae ap)⟩ rfl ?_;refine aF ⟨_,rfl,.inl (ag ap)⟩ rfl ?_;refine aF ⟨_,rfl,.inr aa⟩ rfl ?_;refine aF ⟨_,rfl,.inr (ae aa)⟩ rfl ?_;refine aF ⟨_,rfl,.inl (ae (aj ap))⟩ rfl ?_;refine ar (bD (ag (aj ap)) ay) rfl<|ar (aB aa) rfl<|bp (ae (ag (aj (aA ax)))) (ae (ag (aj (aA az)))) (ae (ag (aj (aA ad)))) aa ?_;intro c6 b0 b1 b2 b6
       refine ao ⟨(b6).trans (by(refine cu ?_;simp only [gA,decide_eq_true_eq,Xi,true_iff,false_iff];omega)),(b0).trans (ax).symm,(b1).trans (az).symm,(b2).trans (ad).symm,rfl⟩
      replace aN:=bf aN;refine aG (al (ae (ag (aj ad)))) ⟨_,rfl,ap⟩ rfl ?_;refine aG (mW aa ay) ⟨_,rfl,(ae ap)⟩ rfl ?_;refine aG (al aa) ⟨_,rfl,(ag ap)⟩ rfl ?_;refine bQ aa (λa3 aO=>?_) (λa3 aO=>?_)
      ·replace aO:=bt aO;refine aG (al (ag (aA ad))) ⟨_,rfl,a3⟩ rfl ?_;refine aG (fA aa ay) ⟨_,rfl,(ae a3)⟩ rfl ?_;refine aG (bD (ag a3) aa) ⟨_,rfl,(ae (aj ap))⟩ rfl ?_;refine ar (bG (ag (aj ap)) aa) rfl<|ar (aB aa) rfl<|bp (ae (ag (aj (aA ax)))) (ae (ag (aj (aA az)))) (ae (ag (aj (aA ad)))) aa ?_;intro c7 b7 b8 b9 ca
       refine ao ⟨(ca).trans (by(refine cu ?_;simp only [gA,decide_eq_true_eq,Xi,true_iff,false_iff];omega)),(b7).trans (ax).symm,(b8).trans (az).symm,(b9).trans (ad).symm,rfl⟩
      ·replace aO:=bf aO;exfalso;omega
     replace aM:=bf aM;refine aF ⟨_,rfl,.inl aD⟩ rfl ?_;refine aF ⟨_,rfl,.inl (ae aD)⟩ rfl ?_;refine ar (bG (ag aD) ay) rfl<|ar (al aa) rfl<|aG (al (ae (ag (aj ad)))) ⟨_,rfl,aa⟩ rfl ?_
     refine aG (mW aa ay) ⟨_,rfl,(ae aa)⟩ rfl ?_;refine aG (al aa) ⟨_,rfl,(ag aa)⟩ rfl ?_;refine bQ aa (λaE aP=>?_) (λaE aP=>?_)
     ·replace aP:=bt aP;refine aG (al (ag (aA ad))) ⟨_,rfl,aE⟩ rfl ?_;refine aG (fA aa ay) ⟨_,rfl,(ae aE)⟩ rfl ?_;refine aG (bD (ag aE) aa) ⟨_,rfl,(ae (aj aa))⟩ rfl ?_;refine ar (bG (ag (aj aa)) aa) rfl<|ar (aB aa) rfl<|bp (ae (ag (aj (aA ax)))) (ae (ag (aj (aA az)))) (ae (ag (aj (aA ad)))) aa ?_;intro c9 cb cc cd ce
      refine ao ⟨(ce).trans (by(refine cu ?_;simp only [gA,decide_eq_true_eq,Xi,true_iff,false_iff];omega)),(cb).trans (ax).symm,(cc).trans (az).symm,(cd).trans (ad).symm,rfl⟩
     replace aP:=bf aP;refine aF ⟨_,rfl,.inl aE⟩ rfl ?_;refine aF ⟨_,rfl,.inl (ae aE)⟩ rfl ?_;refine aG (bG (ag aE) ay) ⟨_,rfl,(ae (aj aa))⟩ rfl ?_;refine ar (bG (ag (aj aa)) aa) rfl<|ar (aB aa) rfl<|bp (ae (ag (aj (aA ax)))) (ae (ag (aj (aA az)))) (ae (ag (aj (aA ad)))) aa ?_;intro da cf cg ci cj
     refine ao ⟨(cj).trans (by(refine cu ?_;simp only [gA,decide_eq_true_eq,Xi,true_iff,false_iff];omega)),(cf).trans (ax).symm,(cg).trans (az).symm,(ci).trans (ad).symm,rfl⟩
    ·rintro bB _ ⟨ck,cm,cn,co,rfl⟩;have av:=cm.trans ax;have an:=cn.trans az;have be:=co.trans ad;refine au<|gl (λe mem=>(ak e (.tmp 54)= .v (.bool (!okB i.toNat (s.data.toList.getD i.toNat default))))/\(ak e (.tmp 0)=ak bB (.tmp 0))/\(ak e (.tmp 3)=ak bB (.tmp 3))/\bA=mem) ?_ ?_
     ·
      refine at_<|ar (al ck) rfl<|ar (c8 aa) rfl<|ar (al aa) rfl<|bQ aa (λab aQ=>?_) (λab aQ=>?_)
      ·replace aQ:=dR aQ;refine aG (al (ae (ag an))) ⟨_,rfl,ab⟩ rfl ?_;refine aG (e6 aa ay) ⟨_,rfl,(ae ab)⟩ rfl ?_;refine aG (al aa) ⟨_,rfl,(ag ab)⟩ rfl ?_;refine bQ aa (λaf aR=>?_) (λaf aR=>?_)
       ·replace aR:=bt aR;refine aF ⟨_,rfl,.inl af⟩ rfl ?_;refine aF ⟨_,rfl,.inl (ae af)⟩ rfl ?_;refine aF ⟨_,rfl,.inl (ag af)⟩ rfl ?_;refine aF ⟨_,rfl,.inr aa⟩ rfl ?_;refine aF ⟨_,rfl,.inr (ae aa)⟩ rfl ?_;refine aF ⟨_,rfl,.inr (ag aa)⟩ rfl ?_;refine aF ⟨_,rfl,.inr aa⟩ rfl ?_;refine aF ⟨_,rfl,.inr (ae aa)⟩ rfl ?_;refine aF ⟨_,rfl,.inr (ae (aj aa))⟩ rfl ?_;refine aF ⟨_,rfl,.inl (ae (aA af))⟩ rfl ?_;refine aG (bD (ag (aA af)) ay) ⟨_,rfl,(ae (aj (aA ab)))⟩ rfl ?_;refine ar (bD (ag (aj (aA ab))) aa) rfl<|bJ (ag (aJ av)) (ag (aJ an)) aa ?_;intro dc cr cx cy
        refine ao ⟨(cy).trans (by(refine cu ?_;simp only [gA,okB,decide_eq_true_eq,decide_eq_false_iff_not,Xi,true_iff,false_iff,XF]at*;omega)),(cr).trans (av).symm,(cx).trans (an).symm,rfl⟩
       replace aR:=bf aR;refine aG (al (ag (aj be))) ⟨_,rfl,af⟩ rfl ?_;refine aG (dB aa ay) ⟨_,rfl,(ae af)⟩ rfl ?_;refine aG (al aa) ⟨_,rfl,(ag af)⟩ rfl ?_;refine bQ aa (λam aS=>?_) (λam aS=>?_)
       ·replace aS:=dR aS;refine aG (al (ae (aA be))) ⟨_,rfl,am⟩ rfl ?_;refine aG (cU aa ay) ⟨_,rfl,(ae am)⟩ rfl ?_;refine aG (al aa) ⟨_,rfl,(ag am)⟩ rfl ?_;refine bQ aa (λaH aT=>?_) (λaH aT=>?_)
        ·replace aT:=bt aT;refine aF ⟨_,rfl,.inl aH⟩ rfl ?_;refine aF ⟨_,rfl,.inl (ae aH)⟩ rfl ?_;refine aG (bD (ag aH) ay) ⟨_,rfl,(ae (aj am))⟩ rfl ?_;refine aG (bD (ag (aj am)) aa) ⟨_,rfl,(ae (aA af))⟩ rfl ?_;refine aG (bG (ag (aA af)) aa) ⟨_,rfl,(ae (aj (aA ab)))⟩ rfl ?_;refine ar (bD (ag (aj (aA ab))) aa) rfl<|bJ (ag (aJ av)) (ag (aJ an)) aa ?_;intro dd cz cA cC
         refine ao ⟨(cC).trans (by(refine cu ?_;simp only [gA,okB,decide_eq_true_eq,decide_eq_false_iff_not,Xi,true_iff,false_iff,XF]at*;omega)),(cz).trans (av).symm,(cA).trans (an).symm,rfl⟩
        replace aT:=bf aT;refine aG (al (aj (aA be))) ⟨_,rfl,aH⟩ rfl ?_;refine aG (ey aa ay) ⟨_,rfl,(ae aH)⟩ rfl ?_;refine aG (bG (ag aH) aa) ⟨_,rfl,(ae (aj am))⟩ rfl ?_;refine aG (bD (ag (aj am)) aa) ⟨_,rfl,(ae (aA af))⟩ rfl ?_;refine aG (bG (ag (aA af)) aa) ⟨_,rfl,(ae (aj (aA ab)))⟩ rfl ?_;refine ar (bD (ag (aj (aA ab))) aa) rfl<|bJ (ag (aJ av)) (ag (aJ an)) aa ?_;intro de cD cE cG
        refine ao ⟨(cG).trans (by(refine cu ?_;simp only [gA,okB,decide_eq_true_eq,decide_eq_false_iff_not,Xi,true_iff,false_iff,XF]at*;omega)),(cD).trans (av).symm,(cE).trans (an).symm,rfl⟩
       replace aS:=dp aS;refine aF ⟨_,rfl,.inl am⟩ rfl ?_;refine aF ⟨_,rfl,.inl (ae am)⟩ rfl ?_;refine aF ⟨_,rfl,.inl (ag am)⟩ rfl ?_;refine aF ⟨_,rfl,.inr aa⟩ rfl ?_;refine aF ⟨_,rfl,.inr (ae aa)⟩ rfl ?_;refine aF ⟨_,rfl,.inl (ae (aj am))⟩ rfl ?_;refine aG (bG (ag (aj am)) ay) ⟨_,rfl,(ae (aA af))⟩ rfl ?_;refine aG (bG (ag (aA af)) aa) ⟨_,rfl,(ae (aj (aA ab)))⟩ rfl ?_;refine ar (bD (ag (aj (aA ab))) aa) rfl<|bJ (ag (aJ av)) (ag (aJ an)) aa ?_;intro df cH cI cJ
       refine ao ⟨(cJ).trans (by(refine cu ?_;simp only [gA,okB,decide_eq_true_eq,decide_eq_false_iff_not,Xi,true_iff,false_iff,XF]at*;omega)),(cH).trans (av).symm,(cI).trans (an).symm,rfl⟩
      replace aQ:=dp aQ;refine aF ⟨_,rfl,.inl ab⟩ rfl ?_;refine aF ⟨_,rfl,.inl (ae ab)⟩ rfl ?_;refine aF ⟨_,rfl,.inl (ag ab)⟩ rfl ?_;refine aF ⟨_,rfl,.inr aa⟩ rfl ?_;refine aF ⟨_,rfl,.inr (ae aa)⟩ rfl ?_;refine aF ⟨_,rfl,.inr (ag aa)⟩ rfl ?_;refine aF ⟨_,rfl,.inr aa⟩ rfl ?_;refine aF ⟨_,rfl,.inr (ae aa)⟩ rfl ?_;refine aF ⟨_,rfl,.inr (ag aa)⟩ rfl ?_;refine aF ⟨_,rfl,.inr aa⟩ rfl ?_;refine aF ⟨_,rfl,.inr (ae aa)⟩ rfl ?_;refine aF ⟨_,rfl,.inr (ae (aj aa))⟩ rfl ?_;refine aF ⟨_,rfl,.inr (ae (aA aa))⟩ rfl ?_;refine aF ⟨_,rfl,.inl (ae (aj (aA ab)))⟩ rfl ?_;refine ar (bG (ag (aj (aA ab))) ay) rfl<|bJ (ag (aJ av)) (ag (aJ an)) aa ?_;intro dg cL cM cN
      refine ao ⟨(cN).trans (by(refine cu ?_;simp only [gA,okB,decide_eq_true_eq,decide_eq_false_iff_not,Xi,true_iff,false_iff,XF]at*;omega)),(cL).trans (av).symm,(cM).trans (an).symm,rfl⟩
     ·rintro dh _ ⟨bh,cO,cP,rfl⟩;have bk:=cO.trans av;have bo:=cP.trans an;refine bj bh (λaX=>?_) (λaX=>?_)
      ·replace aX:=dR aX;refine au<|at_<|ar (aB ay) rfl<|aY aa ?_;clear bk bo bh;intro di bE
       refine ao<|bg<|db<|bS<|bS<|db<|bS<|bL bm ai (bc bE) (.ro _ rfl) ?_
       clear bE a8
       (obtain⟨h1,h2,h3⟩:=hinv;have hn:nf s.data.toList=false:=I3 (i:=i.toNat) ah (by(exact JM (by assumption)));simp [dF,hn])
      replace aX:=dp aX;refine bC<|cK<|ao<|at_<|ar (al bo) rfl ?_
      (refine ar (cv aa ay ?_) rfl ?_; · (unfold In64;omega))
      refine ar (aB aa) rfl<|bq (ae (ag bk)) aa ?_;clear bk bo bh;intro dj cQ cR
      refine ao<|⟨_,⟨cR,(cQ.trans bz.symm),a8,?_⟩,?_⟩
      ·(obtain⟨h1,h2,h3⟩:=hinv;refine⟨ah,ah,λj hj=>?_⟩;by_cases hj':j<i.toNat;exact h3 j hj';have hji:j=i.toNat:=ah;rw [hji];(exact JK ah))
      ·((try dsimp only);omega)
   replace aL:=bf aL;refine dV<|cB<|cB<|dU<|ao<|au<|at_<|ar (aB ay) rfl<|aY aa ?_;clear aZ ba a2;intro dk bF
   refine ao<|bg<|bL bm ai (bc bF) (.ro _ rfl) ?_
   clear bF a8
   (obtain⟨h1,h2,h3⟩:=hinv;have hn:nf s.data.toList=true:=(Bg λj hj=>h3 j ah);refine cu ?_;simp only [dF,hn,YI,Xg,decide_eq_true_eq,true_iff];omega)
abbrev bA(b:Bool):AV:=.v (.bool b)
end Go.Proofs.YtbmlgmblfboigaaGreatDoor
namespace Go.Proofs.YtbmlgmblfboigaaGreatDoor
open Go Go.RowKit
theorem Bx.part{w:World}{B:Nat}{t:TypeId}{cs:Array Value}(h:Bx w B t cs)(k n o:Nat)(xs:List Value)(hx:∀ j u,xs[j]? =some u->cs[o+j]? =some u)(hn:xs.length=n*k):Rd w k (some ⟨B,o,none⟩) n xs:=
 ⟨hn,λ_=>⟨B,o,rfl,h.lt,λj u hu=>(h.cell (o+j)).trans (hx j u hu)⟩⟩
end Go.Proofs.YtbmlgmblfboigaaGreatDoor
namespace Go.Proofs.YtbmlgmblfboigaaGreatDoor
open Go Go.ChangeShapes Go.WideShapes Go.ChangeAt Go.RowKit Go.Joins Go.Deep
theorem CQ{H:Type}{enc:TypeId×Value->H}{P:Program}(hl:laidOutB P=true){W W':World}(hx:Ext W W'){sp:Nat->Bool}:∀ {ts:List TypeId} {vs:List Value} {ds:List (DataW H)} {ps:List MemPlace},
 (∀ t∈ts,P.readableRec t=true/\t<P.types.size)->DataW.TrodAll enc P W 0 (λ_=>true) true ts vs ds ps->(∀ x∈ps,x.block<W.heap.size)->(∀ x∈ps,sp x.block=true)->DataW.TrodAll enc P W' 0 sp true ts vs ds ps
 | [],_,_,_,_,h,_,_=>by
  obtain⟨rfl,rfl,rfl⟩:=trodAll_nil h;exact trodAll_mk0
 | t::ts,_,_,_,ht,h,hlt,hsp=>by
  obtain⟨v,vs,d,ds,p,q,rfl,rfl,rfl,h1,h2⟩:=trodAll_cons h;refine⟨p,q,WideElems.Trod_stays hl (ht t aN).1 (ht t aN).2 h1 (λx hx'=>hx.same (hlt x (by simp [hx']))) (λx hx'=>hsp x (by simp [hx'])),?_,rfl⟩;exact CQ hl hx (λt' ht'=>ht t' (by simp [ht'])) h2 (λx hx'=>hlt x (by simp [hx'])) (λx hx'=>hsp x (by simp [hx']))
theorem Ls{H:Type}{enc:TypeId×Value->H}{P:Program}{f:Func}{s:ChangeSpec}{apart fresh handsOn again:Bool}{W W':World}{args:Array Value}{v:Value}{ds:List (DataW H)}{before:List MemPlace}
 (hl:laidOutB P=true)(hts:(f.params.toList.all λt=>P.readableRec t&&decide (t<P.types.size))=true)(hx:Ext W W')(hv:s.vars= [])
 (hW:DataW.Whole enc P f.params.toList s.vars apart W args.toList ds [] before)(hA:DataW.TrodAll enc P W 0 (λ_=>true) true f.params.toList args.toList ds before)
 (hsp:(s.fn H ds).args =ds)(hsv:(s.fn H ds).vars = [])
 (hres:∀ (b:Nat) (sp:Nat->Bool) (hd:Bool),DataW.TrodAll enc P W' b sp hd f.resultTypes.toList (v.resultList f.resultTypes.size) (s.fn H ds).results [])
 (hok:∀ (j:Nat) (t:TypeId) (r:Value),f.resultTypes[j]? =some t->(v.resultList f.resultTypes.size)[j]? =some r->Value.okWide P W' .any 0 t r):
 s.post enc P f apart fresh handsOn again W args v W':=by
 have hts':∀ t∈f.params.toList,P.readableRec t=true/\t<P.types.size:=λt ht=>by
  have:=Xv.1 hts t ht
  simpa using this
 have hlt:∀ x∈before,x.block<W.heap.size:=λx hx'=>by simpa using hW.lt x hx'
 have hargs:∀ sp:Nat->Bool,(∀ p∈before,sp p.block=true)->DataW.TrodAll enc P W' 0 sp true f.params.toList args.toList (s.fn H (ds++ [])).args before:=λsp h=>by
  rw [X3,hsp];exact CQ hl hx hts' hA hlt h
 have hvars:∀ sp:Nat->Bool,DataW.TrodVars enc P W' sp s.vars (s.fn H (ds++ [])).vars []:=λsp=>by
  rw [X3,hsv,hv];rfl
 have hres':∀ (b:Nat) (sp:Nat->Bool) (hd:Bool),DataW.TrodAll enc P W' b sp hd f.resultTypes.toList (v.resultList f.resultTypes.size) (s.fn H (ds++ [])).results []:=λb sp hd=>by
  rw [X3];exact hres b sp hd
 have hold:∀ p∈before,(λb=>decide (b<W.heap.size)) p.block=true:=λp hp=>by simpa using hlt p hp
 refine⟨ds,[],before,[],before,[],hW,hres' _ _ _,hargs _ hold,hvars _,hx.frame _,λ_=>?_⟩;obtain⟨_,_,_,_,_,hz,hn⟩:=id hW;refine⟨hok,_,_,([]++before)++ [],⟨[]++before,[],trodAll_append (hargs _ (λ_ _=>rfl)) (hres' _ _ _),hvars _,rfl,?_,?_⟩,?_⟩
 ·intro b off hp;simp only [Yx,X3]at hp;rw [Below.frozen hx (p:=⟨b,off,none⟩) (hlt _ hp)];exact hz b off hp
 ·intro ha;have:=hn ha
  simpa using this
 ·intro p hp _
  simpa using hp
theorem Nv{W:World}{a:Addr}{u:Value}(h:W.cell? a=some u):a=⟨a.block,a.off,none⟩:=by
 obtain⟨b,o,s⟩:=a;cases s with
 | none=>rfl
 | some s=>exfalso;unfold World.cell? at h;simp only at h;split at h<;>simp at h
theorem I4{pr:Nat->Prop}{W:World}{l:List AV}{xs:List Value}(hl:xs.length=l.length)(h:∀ (i:Nat) (a:AV) (x:Value),l[i]? =some a->xs[i]? =some x->R0 pr W a x):R0 pr W (.agg l) (.agg xs.toArray):=.agg l xs hl h
theorem Wg{α:Type}{l:List α}(h:l.length=2):∃ a b,l= [a,b]:=by
 match l,h with
 | [a,b],_=>exact⟨a,b,rfl⟩
theorem JO{α:Type}{l:List α}(h:l.length=3):∃ a b c,l= [a,b,c]:=by
 match l,h with
 | [a,b,c],_=>exact⟨a,b,c,rfl⟩
theorem list4{α:Type}{l:List α}(h:l.length=4):∃ a b c d,l= [a,b,c,d]:=by
 match l,h with
 | [a,b,c,d],_=>exact⟨a,b,c,d,rfl⟩
theorem px:Tryz.prog.cellsOf 3=1:=by kernel_rfl
theorem J3:Tryz.prog.cellsOf 9=1:=by kernel_rfl
theorem Lt{α H:Type}[Inhabited α]{P:Program}{enc:TypeId×Value->H}{W:World}{sp:Nat->Bool}{held:Bool}{fuel:Nat}{T e:TypeId}{n k:Nat}{cs:List Value}{y:DataW H×List MemPlace}(f:α->List Value)(df:α->DataW H)(hf:∀ a,(f a).length =k)(hk0:0<k)
 (ht:P.underlying T=some (.array n e))(hk:P.cellsOf e=k)(hT:P.cellsOf T=n*k)
 (each:∀ fuel cs x,cs.length=k->DataW.trod enc P W 0 sp held fuel e cs=some x-> ∃ a:α,cs=f a/\x.1=df a)
 (h:DataW.trod enc P W 0 sp held fuel T cs=some y):∃ xs:List α,xs.length=n/\cs=(xs.map f).flatten /\y.1= .agg (xs.map df):=by
 obtain⟨zs,m,_,hx,hlen,hxl,hi⟩:=DataW.trod_array ht h;rw [hT]at hlen;have ex:∀ i,∃ z:α,i<n->(cs.drop (i*k)).take k=f z/\(zs[i]?).map (·.1)=some (df z):=λi=>by
  by_cases hil:i<n
  ·have h1:=hi i hil;rw [hk]at h1;have hzi:i<zs.length:=by omega
   rw [Xd hzi]at h1;have hle:(i+1)*k<=n*k:=Yu k hil;rw [XZ]at hle;obtain⟨z,h2,h3⟩:=each _ _ _ cJ h1;exact⟨z,λ_=>⟨h2,by rw [Xd hzi];simp [h3]⟩⟩
  ·exact⟨default,λh=>absurd h hil⟩
 obtain⟨z,hz⟩:=Classical.axiomOfChoice ex;refine⟨(List.range n).map z,aN,?_,?_⟩
 ·have hfl:(((List.range n).map z).map f).flatten.length =n*k:=by
   rw [fF (EN hf),XK,XK,List.length_range]
  refine XV λj=>?_
  by_cases hj:j<n*k
  ·have hiq:j/k<n:=(Nat.div_lt_iff_lt_mul hk0).2 hj;have hjk:j%k<k:=Nat.mod_lt _ hk0;have e:j=j/k*k+j%k:=by have:=Nat.div_add_mod j k;rw [Nat.mul_comm]at this;omega
   have hel:(((List.range n).map z).map f)[j/k]? =some (f (z (j/k))):=by simp [hiq]
   have h1:=flat_get (EN hf) hel hjk;rw [<- e]at h1;rw [h1, <- (hz (j/k) hiq).1,XY hjk,XH, <- e]
  ·rw [Xq ah,Xq ah]
 ·rw [hx];simp only
  congr 1
  refine XV λi=>?_
  by_cases hin:i<n
  ·rw [Xh,(hz i hin).2];simp [hin]
  ·rw [Xq cJ,Xq cJ]
theorem K5{P:Program}{gs:List (Nat×List AV)}{f:FuncId}{args:List AV}(h:iH P gs f args (λq=>q= .v (.bool true))){vs:List Value}{W:World}(hl:vs.length=args.length)(hg:qL (λ_=>False) W gs)(hR:∀ (i:Nat) (a:AV) (x:Value),args[i]? =some a->vs[i]? =some x->R0 (λ_=>False) W a x):
 Calls P f vs.toArray W λe W'=>e= .returned (.bool true)/\Ext W W':=
 (h (λ_=>False) W vs hl hR hg).mono λe W' ⟨r,v,h1,h2,h3,h4⟩=>by
  subst h2;cases h3;exact⟨h1,h4⟩
theorem I5{W:World}{nm:String}{g:Nat}{cs:Array Value}(hg:Tryz.prog.globalNamed nm=some g)(hv:W.var? Tryz.prog nm=some cs)(h0:0<cs.size){xs:List Value}(hx:cs.toList=xs):R0 (λ_=>False) W (.ref (xs.map AV.v)) (.pointer (some ⟨g,0,none⟩))/\oh W g (xs.map AV.v).length :=by
 refine⟨?_,by
  unfold World.var? at hv;rw [hg]at hv;simp only [Option.bind_some]at hv
  split at hv
  ·rename_i c2 t2 f2 h2
   simp only [Option.some.injEq]at hv;subst hv hx;exact⟨_,_,_,h2,aN⟩
  ·cases hv⟩
 have hc:∀ j,W.cell? ⟨g,j,none⟩=cs[j]? :=λj=>World.var?_cell hg hv j
 have hb:g<W.heap.size:=by
  have h1:=hc 0;rw [X9 h0]at h1;exact World.block_lt_of_cell? W _ h1
 subst hx;refine .ref _ g 0 (λi=>cs.getD i undef) hb (λh=>h) (λi a ha=>?_) λi a ha=>?_
 ·have hi:i<cs.size:=by have:=(Xe.1 ha).1;simpa using this
  rw [Xl,hc i,X9 hi];simp [hi]
 ·have hi:i<cs.size:=by have:=(Xe.1 ha).1;simpa using this
  rw [Xh]at ha;simp [hi]at ha;subst ha;simp [hi];exact .v _
end Go.Proofs.YtbmlgmblfboigaaGreatDoor
namespace Go.Proofs.YtbmlgmblfboigaaGreatDoor
open Go Go.Lib
theorem yD:∀ (l:List UInt8) (acc:Nat) (b:UInt8),decFrom acc (l++ [b])=(decFrom acc l).bind λn=>(digitVal b).map λd=>n*10+d
 | [],acc,b=>by simp only [Yx,decFrom];cases digitVal b<;>rfl
 | a::t,acc,b=>by
  simp only [Yr,decFrom];cases digitVal a with
  | none=>rfl
  | some d=>exact yD t _ b
theorem Df{d:Nat}(h:d<10):digitVal (UInt8.ofNat (48+d))=some d:=by
 have e:(UInt8.ofNat (48+d)).toNat =48+d:=by rw [UInt8.toNat_ofNat'];omega
 unfold digitVal;rw [e,if_pos ah];congr 1;omega
theorem oH{u:Nat}(h:u<10):decDigits u= [UInt8.ofNat (48+u)]:=by rw [decDigits,dif_pos h]
theorem tP{u:Nat}(h:¬ u<10):decDigits u=decDigits (u/10)++ [UInt8.ofNat (48+u%10)]:=by rw [decDigits,dif_neg h]
theorem yG(u:Nat):decFrom 0 (decDigits u)=some u:=by
 induction u using Nat.strongRecOn with
 | _ u ih=>
  by_cases h:u<10
  ·rw [oH h];simp only [decFrom,Df h];congr 1;omega
  ·rw [tP h,yD,ih (u/10) ah,Df ah];simp only [Option.bind_some,Option.map_some];congr 1;omega
theorem Bh(u:Nat):decDigits u≠ []:=by
 by_cases h:u<10
 ·rw [oH h];simp
 ·rw [tP h];simp
theorem E0(u:Nat)(h:1<=u):∀ b:UInt8,(decDigits u)[0]? =some b->b.toNat≠48:=by
 induction u using Nat.strongRecOn with
 | _ u ih=>
  intro b hb
  by_cases h1:u<10
  ·rw [oH h1]at hb;simp only [XA,Option.some.injEq]at hb;rw [<- hb,UInt8.toNat_ofNat'];omega
  ·rw [tP h1,Xj (XJ.2 (Bh _))]at hb;exact ih (u/10) ah ah b hb
theorem I6:∀ (k:Nat) (r:List UInt8) (n:Nat),r.length=k->decFrom 0 r=some n->r≠ []->(r.length=1\/ ∀ b:UInt8,r[0]? =some b->b.toNat≠48)->decDigits n=r
 | 0,r,n,hk,_,hr,_=>absurd (Yy.1 hk) hr
 | k+1,r,n,hk,hn,hr,hc=>by
  have hsp:r=r.dropLast++ [r.getLast hr]:=(List.dropLast_concat_getLast hr).symm;have hm:r.dropLast.length=k:=by rw [List.length_dropLast];omega
  generalize hb:r.getLast hr=b at hsp;generalize hmm:r.dropLast=m at hsp hm;clear hb hmm;subst hsp;rw [yD]at hn;cases hm0:decFrom 0 m with
  | none=>rw [hm0]at hn;cases hn
  | some q=>
   rw [hm0]at hn;cases hd:digitVal b with
   | none=>rw [hd]at hn;cases hn
   | some d=>
    rw [hd]at hn;simp only [Option.bind_some,Option.map_some,Option.some.injEq]at hn;obtain⟨b1,b2,b3⟩:=digitVal_eq hd;have hbe:UInt8.ofNat (48+d)=b:=by
     apply UInt8.toNat_inj.1;rw [UInt8.toNat_ofNat'];omega
    by_cases h0:m= []
    ·subst h0;have hq:q=0:=by simpa [decFrom]using hm0.symm
     subst hq;rw [<- hn,oH ah,show 48+(0*10+d)=48+d by omega,hbe];rfl
    ·have hl:1<=m.length:=XJ.2 h0;have hc':∀ c:UInt8,m[0]? =some c->c.toNat≠48:=λc hcc=>by
      rcases hc with hc|hc
      ·rw [XD]at hc;simp at hc;exact absurd hc h0
      ·exact hc c (by rw [Xj ah];exact hcc)
     have ih:=I6 k m q hm hm0 h0 (.inr hc');have hq1:1<=q:=by
      rcases Ye q with h1|h1
      ·subst h1;rw [oH aD]at ih;exact absurd rfl (hc' 48 (by rw [<- ih];rfl))
      ·exact h1
     rw [<- hn,tP ah,show(q*10+d)/10=q by omega,show(q*10+d)%10=d by omega,ih,hbe]
def iN(l:List UInt8):Int:=match atoiAll l with
 | .ok v=>v
 | .range =>atoiSat l
 | _=>0
def iO(l:List UInt8)(D:Nat):Bool:=match atoiAll l with
 | .ok v=>decide (itoa v=l)&&decide ((trimPrefix l [45]).length <=D)
 | _=>false
def de(l:List UInt8):Nat:=if l[0]? =some 45 then 1 else 0
theorem TN{l:List UInt8}:de l<=l.length:=by
 unfold de
 split
 ·rename_i h;exact(Xe.1 h).1
 ·omega
theorem zr(l:List UInt8):(trimPrefix l [45]).length =l.length - de l:=by
 unfold trimPrefix hasPrefix de;cases l with
 | nil=>rfl
 | cons a t=>
  by_cases h:a=45
  ·subst h;simp
  ·simp only [XA,Option.some.injEq,if_neg h];rw [if_neg]
   ·omega
   ·simp;exact λe=>h e.symm
theorem TO{l:List UInt8}{D n:Nat}(hD:D<=17)(h1:l.drop (de l)≠ [])(h2:l.length - de l<=D)(h3:¬ (l[de l]? =some 48/\1<l.length))(hn:decFrom 0 (l.drop (de l))=some n):
 iO l D=true/\iN l=if de l=1 then -(n:Int)else n:=by
 have hla:=TN (l:=l);have hna:de l<=1:=by unfold de;split<;>omega
 have hg:∀ b:UInt8,(l.drop (de l))[0]? =some b->l[de l]? =some b:=λb hb=>by rw [XH]at hb;simpa using hb
 have hlen:(l.drop (de l)).length =l.length - de l:=X4;have hcan:(l.drop (de l)).length =1\/ ∀ b:UInt8,(l.drop (de l))[0]? =some b->b.toNat≠48:=by
  by_cases hl1:1<l.length
  ·refine .inr λb hb e=>h3 ⟨?_,hl1⟩
   rw [hg b hb];congr 1;exact UInt8.toNat_inj.1 e
  ·have:=XJ.2 h1
   left;omega
 have hdd:=I6 _ _ n rfl hn h1 hcan;have hds:decNat (l.drop (de l))=some n:=by unfold decNat;rw [if_neg mT];exact hn
 have hnn:∀ b:UInt8,(l.drop (de l))[0]? =some b->b≠45/\b≠43:=λb hb=>by
  obtain⟨d,hd⟩:=digit_of_decFrom _ _ _ hn 0 b hb;obtain⟨q1,q2,_⟩:=digitVal_eq hd
  constructor
  ·rintro rfl;exact absurd q1 aD
  ·rintro rfl;exact absurd q1 aD
 by_cases ha:l[0]? =some 45
 ·have e1:de l=1:=by unfold de;rw [if_pos ha]
  rw [e1]at h1 h2 h3 hn hdd hds hlen hg hcan ⊢;obtain⟨r,rfl⟩:∃ r,l=45::r:=by
   cases l with
   | nil=>cases ha
   | cons a t=>simp at ha;exact⟨t,by rw [ha]⟩
  simp only [List.drop_succ_cons,Yv]at*;have hn1:1<=n:=by
   rcases Ye n with hz|hz
   ·subst hz;rw [oH aD]at hdd;exact absurd ⟨by rw [<- hdd];rfl,by rw [<- hdd];decide⟩ h3
   ·exact hz
  have ht:atoiAll (45::r)= .ok (-(n:Int)):=by
   rw [atoiAll_short _ (by simp at h2 ⊢;omega)];simp only [atoi];rw [if_pos aD,hds];rfl
  have hi:itoa (-(n:Int))=45::r:=by
   unfold itoa;rw [if_pos ah,show(-(n:Int)).natAbs =n by omega,hdd]
  have hk:=zr (45::r);rw [e1]at hk;unfold iO iN;rw [ht];simp only [hi,hk];exact⟨by simp at h2 ⊢;omega,rfl⟩
 ·have e1:de l=0:=by unfold de;rw [if_neg ha]
  rw [e1]at h1 h2 h3 hn hdd hds hlen hg hcan hnn ⊢;simp only [Yv]at*;obtain⟨a,r,rfl⟩:∃ a r,l=a::r:=by
   cases l with
   | nil=>exact absurd rfl h1
   | cons a t=>exact⟨a,t,rfl⟩
  have hn2:=hnn a rfl;have ht:atoiAll (a::r)= .ok (n:Int):=by
   rw [atoiAll_short _ ah];simp only [atoi];rw [if_neg (by simpa using hn2.1),if_neg (by simpa using hn2.2),hds];rfl
  have hi:itoa (n:Int)=a::r:=by
   unfold itoa;rw [if_neg ah,show((n:Int)).toNat =n by omega,hdd]
  have hk:=zr (a::r);rw [e1]at hk;unfold iO iN;rw [ht];simp only [hi,hk];exact⟨by simp at h2 ⊢;omega,rfl⟩
theorem HN(v:Int):(itoa v).drop (de (itoa v))=decDigits v.natAbs/\((itoa v)[de (itoa v)]? =some 48->(itoa v).length =1)/\(de (itoa v)=1↔v<0):=by
 have hc:∀ (u:Nat) (b:UInt8),(decDigits u)[0]? =some b->48<=b.toNat:=λu b hb=>by
  obtain⟨d,hd⟩:=digit_of_decFrom _ _ _ (yG u) 0 b hb;exact(digitVal_eq hd).1
 by_cases h:v<0
 ·have e:itoa v=45::decDigits v.natAbs:=by unfold itoa;rw [if_pos h]
  have ea:de (itoa v)=1:=by rw [e];rfl
  rw [ea,e];refine⟨rfl,λhq=>?_,by simp [h]⟩;have:=E0 v.natAbs ah 48 (by simpa using hq);exact absurd rfl this
 ·have e:itoa v=decDigits v.natAbs:=by unfold itoa;rw [if_neg h];congr 1;omega
  have ea:de (itoa v)=0:=by
   unfold de;rw [if_neg,];rw [e];intro hq;have:=hc _ _ hq;exact absurd this aD
  rw [ea,e];refine⟨rfl,λhq=>?_,by simp [h]⟩
  by_cases h0:v.natAbs<10
  ·rw [oH h0];rfl
  ·exact absurd rfl (E0 v.natAbs ah 48 hq)
theorem I7{l:List UInt8}{D:Nat}(h:iO l D=true):l.drop (de l)≠ []/\l.length - de l<=D/\ ¬ (l[de l]? =some 48/\1<l.length)/\(∀ (k:Nat) (b:UInt8),de l<=k->l[k]? =some b->48<=b.toNat/\b.toNat<=57)/\itoa (iN l)=l:=by
 unfold iO at h;unfold iN;rcases hq:atoiAll l with v|_|_
 rotate_left
 ·rw [hq]at h;cases h
 ·rw [hq]at h;cases h
 ·
  rw [hq]at h;simp only [Xg,decide_eq_true_eq]at h;obtain⟨h1,h2⟩:=h;obtain⟨i1,i2,i3⟩:=HN v;rw [zr]at h2;rw [h1]at i1 i2;refine⟨by rw [i1];exact Bh _,h2,λhh=>by have:=i2 hh.1;omega,λk b hk hb=>?_,h1⟩;have hb':(l.drop (de l))[k - de l]? =some b:=by rw [XH,show de l+(k - de l)=k by omega];exact hb
  rw [i1]at hb';obtain⟨d,hd⟩:=digit_of_decFrom _ _ _ (yG v.natAbs) _ b hb';obtain⟨q1,q2,_⟩:=digitVal_eq hd;exact⟨q1,q2⟩
theorem P7{v:Int}{D:Nat}(hD:D<=17)(h:(decDigits v.natAbs).length <=D):iO (itoa v) D=true/\iN (itoa v)=v:=by
 obtain⟨i1,i2,i3⟩:=HN v;have hl:(itoa v).length - de (itoa v)=(decDigits v.natAbs).length :=by rw [<- i1,X4]
 have:=TO (l:=itoa v) (D:=D) (n:=v.natAbs) hD (by rw [i1];exact Bh _) ah (λhh=>by have:=i2 hh.1;omega) (by rw [i1];exact yG _);refine⟨this.1,this.2.trans ?_⟩
 split
 ·have:=i3.1 ‹_›;omega
 ·have:¬ v<0:=λhv=> ‹¬ _› (i3.2 hv)
  omega
theorem Dw:∀ (D u:Nat),1<=D->u<10^D->(decDigits u).length <=D
 | 0,u,h,_=>absurd h aD
 | D+1,u,_,h=>by
  by_cases h0:u<10
  ·rw [oH h0];simp
  ·rw [tP h0,XD];have hD:1<=D:=by
    rcases Ye D with hz|hz
    ·subst hz;simp at h;omega
    ·exact hz
   have:=Dw D (u/10) hD (by rw [Nat.pow_succ]at h;omega);simp;omega
end Go.Proofs.YtbmlgmblfboigaaGreatDoor
namespace Go.Proofs.YtbmlgmblfboigaaGreatDoor
open Go Go.RowKit Go.Proofs Go.Shelf Go.Lib
def Lu:Go.Shelf.Ren:=⟨λ|171=>78|243=>100|246=>120|283=>135|284=>136|285=>137|286=>138|129=>123|317=>144|318=>145|319=>146|320=>147|337=>150|338=>151|n=>n,λ|3=>3|9=>9|2=>2|4=>4|171=>190|0=>0|53=>159|37=>107|5=>5|173=>192|212=>201|51=>202|20=>20|213=>203|46=>172|232=>210|233=>211|n=>n,λ|17=>5|18=>6|19=>7|n=>n⟩
theorem TP:Go.Proofs.LaysM.n171 Tryz.prog Lu:= {
 mixed:=by kernel_rfl
 f129:=Tryz.func123.trans (congrArg some ai)
 f171:=Tryz.func78.trans (congrArg some ai)
 f243:=Tryz.func100.trans (congrArg some ai)
 f246:=Tryz.func120.trans (congrArg some ai)
 f283:=Tryz.func135.trans (congrArg some ai)
 f284:=Tryz.func136.trans (congrArg some ai)
 f285:=Tryz.func137.trans (congrArg some ai)
 f286:=Tryz.func138.trans (congrArg some ai)
 f317:=Tryz.func144.trans (congrArg some ai)
 f318:=Tryz.func145.trans (congrArg some ai)
 f319:=Tryz.func146.trans (congrArg some ai)
 f320:=Tryz.func147.trans (congrArg some ai)
 f337:=Tryz.func150.trans (congrArg some ai)
 f338:=Tryz.func151.trans (congrArg some ai)
 t0:=Tryz.underlying0
 a0:=Tryz.isAgg0
 z0:=Tryz.sizeOf0
 v0:=Tryz.zeroValue0
 t2:=Tryz.underlying2
 a2:=Tryz.isAgg2
 z2:=Tryz.sizeOf2
 v2:=Tryz.zeroValue2
 t3:=Tryz.underlying3
 a3:=Tryz.isAgg3
 z3:=Tryz.sizeOf3
 v3:=Tryz.zeroValue3
 t4:=Tryz.underlying4
 a4:=Tryz.isAgg4
 z4:=Tryz.sizeOf4
 v4:=Tryz.zeroValue4
 t5:=Tryz.underlying5
 a5:=Tryz.isAgg5
 z5:=Tryz.sizeOf5
 v5:=Tryz.zeroValue5
 t9:=Tryz.underlying9
 a9:=Tryz.isAgg9
 z9:=Tryz.sizeOf9
 v9:=Tryz.zeroValue9
 t20:=Tryz.underlying20
 a20:=Tryz.isAgg20
 z20:=Tryz.sizeOf20
 v20:=Tryz.zeroValue20
 t37:=Tryz.underlying107
 a37:=Tryz.isAgg107
 z37:=Tryz.sizeOf107
 v37:=Tryz.zeroValue107
 t46:=Tryz.underlying172
 a46:=Tryz.isAgg172
 z46:=Tryz.sizeOf172
 v46:=Tryz.zeroValue172
 t51:=Tryz.underlying202
 a51:=Tryz.isAgg202
 z51:=Tryz.sizeOf202
 v51:=Tryz.zeroValue202
 t53:=Tryz.underlying159
 a53:=Tryz.isAgg159
 z53:=Tryz.sizeOf159
 v53:=Tryz.zeroValue159
 t171:=Tryz.underlying190
 a171:=Tryz.isAgg190
 z171:=Tryz.sizeOf190
 v171:=Tryz.zeroValue190
 t173:=Tryz.underlying192
 a173:=Tryz.isAgg192
 z173:=Tryz.sizeOf192
 v173:=Tryz.zeroValue192
 t212:=Tryz.underlying201
 a212:=Tryz.isAgg201
 z212:=Tryz.sizeOf201
 v212:=Tryz.zeroValue201
 t213:=Tryz.underlying203
 a213:=Tryz.isAgg203
 z213:=Tryz.sizeOf203
 t232:=Tryz.underlying210
 a232:=Tryz.isAgg210
 z232:=Tryz.sizeOf210
 v232:=Tryz.zeroValue210
 t233:=Tryz.underlying211
 a233:=Tryz.isAgg211
 z233:=Tryz.sizeOf211
 v233:=Tryz.zeroValue211
 g17:=by kernel_rfl
 g18:=by kernel_rfl
 g19:=by kernel_rfl
 i0:=by kernel_rfl
 i2:=by kernel_rfl
 i3:=by kernel_rfl
 i4:=by kernel_rfl
 i5:=by kernel_rfl
 i9:=by kernel_rfl
 i20:=by kernel_rfl
 i37:=by kernel_rfl
 i46:=by kernel_rfl
 i51:=by kernel_rfl
 i53:=by kernel_rfl
 i171:=by kernel_rfl
 i173:=by kernel_rfl
 i212:=by kernel_rfl
 i232:=by kernel_rfl
 i233:=by kernel_rfl
 m17:=by kernel_rfl
 m18:=by kernel_rfl
 m19:=by kernel_rfl}
def Dh:Go.Shelf.Ren:=⟨λ|172=>95|244=>106|245=>107|247=>124|279=>125|280=>126|281=>127|282=>128|287=>139|316=>140|171=>78|205=>141|321=>148|322=>149|243=>100|246=>120|283=>135|284=>136|285=>137|286=>138|129=>123|317=>144|318=>145|319=>146|320=>147|337=>150|338=>151|n=>n,λ|9=>9|3=>3|75=>147|76=>148|4=>4|5=>5|167=>181|37=>107|0=>0|85=>182|2=>2|168=>184|53=>159|175=>194|46=>172|210=>197|127=>152|145=>208|143=>206|21=>21|171=>190|173=>192|212=>201|51=>202|20=>20|213=>203|232=>210|233=>211|80=>111|n=>n,λ|15=>3|16=>4|17=>5|18=>6|19=>7|n=>n⟩
theorem Ai:Go.Proofs.LaysC.n172 Tryz.prog Dh:= {
 mixed:=by kernel_rfl
 f129:=Tryz.func123.trans (congrArg some ai)
 f171:=Tryz.func78.trans (congrArg some ai)
 f172:=Tryz.func95.trans (congrArg some ai)
 f205:=Tryz.func141.trans (congrArg some ai)
 f243:=Tryz.func100.trans (congrArg some ai)
 f244:=Tryz.func106.trans (congrArg some ai)
 f245:=Tryz.func107.trans (congrArg some ai)
 f246:=Tryz.func120.trans (congrArg some ai)
 f247:=Tryz.func124.trans (congrArg some ai)
 f279:=Tryz.func125.trans (congrArg some ai)
 f280:=Tryz.func126.trans (congrArg some ai)
 f281:=Tryz.func127.trans (congrArg some ai)
 f282:=Tryz.func128.trans (congrArg some ai)
 f283:=Tryz.func135.trans (congrArg some ai)
 f284:=Tryz.func136.trans (congrArg some ai)
 f285:=Tryz.func137.trans (congrArg some ai)
 f286:=Tryz.func138.trans (congrArg some ai)
 f287:=Tryz.func139.trans (congrArg some ai)
 f316:=Tryz.func140.trans (congrArg some ai)
 f317:=Tryz.func144.trans (congrArg some ai)
 f318:=Tryz.func145.trans (congrArg some ai)
 f319:=Tryz.func146.trans (congrArg some ai)
 f320:=Tryz.func147.trans (congrArg some ai)
 f321:=Tryz.func148.trans (congrArg some ai)
 f322:=Tryz.func149.trans (congrArg some ai)
 f337:=Tryz.func150.trans (congrArg some ai)
 f338:=Tryz.func151.trans (congrArg some ai)
 t0:=Tryz.underlying0
 a0:=Tryz.isAgg0
 z0:=Tryz.sizeOf0
 v0:=Tryz.zeroValue0
 t2:=Tryz.underlying2
 a2:=Tryz.isAgg2
 z2:=Tryz.sizeOf2
 v2:=Tryz.zeroValue2
 t3:=Tryz.underlying3
 a3:=Tryz.isAgg3
 z3:=Tryz.sizeOf3
 v3:=Tryz.zeroValue3
 t4:=Tryz.underlying4
 a4:=Tryz.isAgg4
 z4:=Tryz.sizeOf4
 v4:=Tryz.zeroValue4
 t5:=Tryz.underlying5
 a5:=Tryz.isAgg5
 z5:=Tryz.sizeOf5
 v5:=Tryz.zeroValue5
 t9:=Tryz.underlying9
 a9:=Tryz.isAgg9
 z9:=Tryz.sizeOf9
 v9:=Tryz.zeroValue9
 t20:=Tryz.underlying20
 a20:=Tryz.isAgg20
 z20:=Tryz.sizeOf20
 v20:=Tryz.zeroValue20
 t21:=Tryz.underlying21
 a21:=Tryz.isAgg21
 z21:=Tryz.sizeOf21
 v21:=Tryz.zeroValue21
 t37:=Tryz.underlying107
 a37:=Tryz.isAgg107
 z37:=Tryz.sizeOf107
 v37:=Tryz.zeroValue107
 t46:=Tryz.underlying172
 a46:=Tryz.isAgg172
 z46:=Tryz.sizeOf172
 v46:=Tryz.zeroValue172
 t51:=Tryz.underlying202
 a51:=Tryz.isAgg202
 z51:=Tryz.sizeOf202
 v51:=Tryz.zeroValue202
 t53:=Tryz.underlying159
 a53:=Tryz.isAgg159
 z53:=Tryz.sizeOf159
 v53:=Tryz.zeroValue159
 t75:=Tryz.underlying147
 a75:=Tryz.isAgg147
 z75:=Tryz.sizeOf147
 v75:=Tryz.zeroValue147
 t76:=Tryz.underlying148
 a76:=Tryz.isAgg148
 z76:=Tryz.sizeOf148
 v76:=Tryz.zeroValue148
 t85:=Tryz.underlying182
 a85:=Tryz.isAgg182
 z85:=Tryz.sizeOf182
 v85:=Tryz.zeroValue182
 t127:=Tryz.underlying152
 a127:=Tryz.isAgg152
 z127:=Tryz.sizeOf152
 v127:=Tryz.zeroValue152
 t143:=Tryz.underlying206
 a143:=Tryz.isAgg206
 z143:=Tryz.sizeOf206
 v143:=Tryz.zeroValue206
 t145:=Tryz.underlying208
 a145:=Tryz.isAgg208
 z145:=Tryz.sizeOf208
 v145:=Tryz.zeroValue208
 t167:=Tryz.underlying181
 a167:=Tryz.isAgg181
 z167:=Tryz.sizeOf181
 v167:=Tryz.zeroValue181
 t168:=Tryz.underlying184
 a168:=Tryz.isAgg184
 z168:=Tryz.sizeOf184
 v168:=Tryz.zeroValue184
 t171:=Tryz.underlying190
 a171:=Tryz.isAgg190
 z171:=Tryz.sizeOf190
 v171:=Tryz.zeroValue190
 t173:=Tryz.underlying192
 a173:=Tryz.isAgg192
 z173:=Tryz.sizeOf192
 v173:=Tryz.zeroValue192
 t175:=Tryz.underlying194
 a175:=Tryz.isAgg194
 z175:=Tryz.sizeOf194
 v175:=Tryz.zeroValue194
 t210:=Tryz.underlying197
 a210:=Tryz.isAgg197
 z210:=Tryz.sizeOf197
 v210:=Tryz.zeroValue197
 t212:=Tryz.underlying201
 a212:=Tryz.isAgg201
 z212:=Tryz.sizeOf201
 v212:=Tryz.zeroValue201
 t213:=Tryz.underlying203
 a213:=Tryz.isAgg203
 z213:=Tryz.sizeOf203
 t232:=Tryz.underlying210
 a232:=Tryz.isAgg210
 z232:=Tryz.sizeOf210
 v232:=Tryz.zeroValue210
 t233:=Tryz.underlying211
 a233:=Tryz.isAgg211
 z233:=Tryz.sizeOf211
 v233:=Tryz.zeroValue211
 g15:=by kernel_rfl
 g16:=by kernel_rfl
 g17:=by kernel_rfl
 g18:=by kernel_rfl
 g19:=by kernel_rfl
 t80:=Tryz.underlying111
 a80:=Tryz.isAgg111
 z80:=Tryz.sizeOf111
 v80:=Tryz.zeroValue111
 i0:=by kernel_rfl
 i2:=by kernel_rfl
 i3:=by kernel_rfl
 i4:=by kernel_rfl
 i5:=by kernel_rfl
 i9:=by kernel_rfl
 i20:=by kernel_rfl
 i21:=by kernel_rfl
 i37:=by kernel_rfl
 i46:=by kernel_rfl
 i51:=by kernel_rfl
 i53:=by kernel_rfl
 i75:=by kernel_rfl
 i76:=by kernel_rfl
 i80:=by kernel_rfl
 i85:=by kernel_rfl
 i127:=by kernel_rfl
 i143:=by kernel_rfl
 i145:=by kernel_rfl
 i167:=by kernel_rfl
 i168:=by kernel_rfl
 i171:=by kernel_rfl
 i173:=by kernel_rfl
 i175:=by kernel_rfl
 i210:=by kernel_rfl
 i212:=by kernel_rfl
 i232:=by kernel_rfl
 i233:=by kernel_rfl
 m15:=by kernel_rfl
 m16:=by kernel_rfl
 m17:=by kernel_rfl
 m18:=by kernel_rfl
 m19:=by kernel_rfl
 c0:=by kernel_rfl
 c2:=by kernel_rfl
 c3:=by kernel_rfl
 c4:=by kernel_rfl
 c5:=by kernel_rfl
 c9:=by kernel_rfl
 c20:=by kernel_rfl
 c21:=by kernel_rfl
 c37:=by kernel_rfl
 c46:=by kernel_rfl
 c51:=by kernel_rfl
 c53:=by kernel_rfl
 c75:=by kernel_rfl
 c76:=by kernel_rfl
 c80:=by kernel_rfl
 c85:=by kernel_rfl
 c127:=by kernel_rfl
 c143:=by kernel_rfl
 c145:=by kernel_rfl
 c167:=by kernel_rfl
 c168:=by kernel_rfl
 c171:=by kernel_rfl
 c173:=by kernel_rfl
 c175:=by kernel_rfl
 c210:=by kernel_rfl
 c212:=by kernel_rfl
 c213:=by kernel_rfl
 c232:=by kernel_rfl
 c233:=by kernel_rfl}
def ME:Go.Shelf.Ren:=⟨λ|217=>91|266=>105|n=>n,λ|9=>9|5=>5|3=>3|n=>n,λ|n=>n⟩
theorem Vr:Go.Proofs.Lays.n217 Tryz.prog ME:= {
 mixed:=by kernel_rfl
 f217:=Tryz.func91.trans (congrArg some ai)
 f266:=Tryz.func105.trans (congrArg some ai)
 t3:=Tryz.underlying3
 a3:=Tryz.isAgg3
 z3:=Tryz.sizeOf3
 v3:=Tryz.zeroValue3
 t5:=Tryz.underlying5
 a5:=Tryz.isAgg5
 z5:=Tryz.sizeOf5
 v5:=Tryz.zeroValue5
 t9:=Tryz.underlying9
 a9:=Tryz.isAgg9
 z9:=Tryz.sizeOf9
 v9:=Tryz.zeroValue9}
def MF:Go.Shelf.Ren:=⟨λ|101=>96|208=>108|206=>129|n=>n,λ|9=>9|4=>4|3=>3|n=>n,λ|n=>n⟩
theorem Vs:Go.Proofs.Lays.n101 Tryz.prog MF:= {
 mixed:=by kernel_rfl
 f101:=Tryz.func96.trans (congrArg some ai)
 f206:=Tryz.func129.trans (congrArg some ai)
 f208:=Tryz.func108.trans (congrArg some ai)
 t3:=Tryz.underlying3
 a3:=Tryz.isAgg3
 z3:=Tryz.sizeOf3
 v3:=Tryz.zeroValue3
 t4:=Tryz.underlying4
 a4:=Tryz.isAgg4
 z4:=Tryz.sizeOf4
 v4:=Tryz.zeroValue4
 t9:=Tryz.underlying9
 a9:=Tryz.isAgg9
 z9:=Tryz.sizeOf9
 v9:=Tryz.zeroValue9}
theorem Nw{pr:Nat->Prop}{w:World}{b:Nat}{xs:List Value}(h0:R0 pr w (.ref (xs.map AV.v)) (.pointer (some ⟨b,0,none⟩)))(h:oh w b (xs.map AV.v).length):∃ t f,w.heap[b]? =some (.cells xs.toArray t f):=by
 obtain⟨cs,t,f,h1,h2⟩:=h;refine⟨t,f,?_⟩;rw [h1]
 congr 2
 cases h0 with
 | ref _ _ _ g q1 q2 q3 q4=>
  refine Array.ext_getElem? λi=>?_
  by_cases hi:i<xs.length
  ·have c:=q3 i (.v xs[i]) (by simp [hi]);have r:=q4 i (.v xs[i]) (by simp [hi]);generalize g i=v at c r;cases r;rw [Xl,cell_of_row w b i cs t f h1]at c;rw [c];simp [hi]
  ·rw [XK]at h2;rw [Array.getElem?_eq_none ah,Array.getElem?_eq_none (by simpa using hi)]
def gX(es er:Value):List (Nat×List AV):= [(5,(pow10Tab.map (Value.int .u64)).map AV.v),(4,[.v er]),(3,[.v es])]
def e8(v:Value):Prop:=v= .nilIface \/ ∃ te pe,v= .iface te pe
theorem Vt{pr:Nat->Prop}{w:World}{es er:Value}(h:qL pr w (gX es er)):TabIs Tryz.prog w "internal/strconv.uint64pow10" .u64 pow10Tab:=by
 obtain⟨h0,h1⟩:=h _ (YJ ..);obtain⟨t,f,h2⟩:=Nw h0 h1;unfold TabIs World.var?;rw [show Tryz.prog.globalNamed "internal/strconv.uint64pow10" =some 5 by kernel_rfl];simp only [Option.bind_some];rw [h2]
theorem I8{pr:Nat->Prop}{w:World}{g:Nat}{v:Value}(h:R0 pr w (.ref [.v v]) (.pointer (some ⟨g,0,none⟩))):w.cell? ⟨g,0,none⟩=some v:=by
 cases h with
 | ref _ _ _ f q1 q2 q3 q4=>
  have c:=q3 0 (.v v) rfl;have r:=q4 0 (.v v) rfl;generalize f 0=y at c r;cases r;exact c
theorem Bi{pr:Nat->Prop}{w:World}{a:Value}{vs:List Value}(h1:vs.length= [AV.v a].length)(h2:∀ (i:Nat) (b:AV) (x:Value),[AV.v a][i]? =some b->vs[i]? =some x->R0 pr w b x):vs= [a]:=by
 match vs,h1 with
 | [x],_=>
  have:=h2 0 _ x rfl rfl;cases this;rfl
theorem Bj{pr:Nat->Prop}{w:World}{a b:Value}{vs:List Value}(h1:vs.length= [AV.v a,.v b].length)(h2:∀ (i:Nat) (c:AV) (x:Value),[AV.v a,.v b][i]? =some c->vs[i]? =some x->R0 pr w c x):vs= [a,b]:=by
 match vs,h1 with
 | [x,y],_=>
  have r1:=h2 0 _ x rfl rfl;have r2:=h2 1 _ y rfl rfl;cases r1;cases r2;rfl
theorem Bl{pr:Nat->Prop}{w:World}(a b:Value):R0 pr w (.tuple [.v a,.v b]) (.tuple #[a,b]):=
 .tuple [.v a,.v b] [a,b] rfl λi c x hc hx=>by
  match i,hc,hx with
  | 0,hc,hx=>cases hc;cases hx;exact .v _
  | 1,hc,hx=>cases hc;cases hx;exact .v _
theorem Aj(es er:Value)(n:Int)(h:In64 n):iH Tryz.prog (gX es er) 78 [.v (.int .i64 n)] (λq=>q= .v (.string ⟨(itoa n).toArray⟩)):=by
 intro pr w vs h1 h2 hg;rw [Bi h1 h2];unfold In64 at h;refine(Any.strconv_Itoa TP n ah ah w (Vt hg)).mono ?_;rintro en w' ⟨rfl,k,os,rfl⟩;exact⟨_,_,rfl,rfl,.v _,below_grow _ w (Xf _) k os⟩
theorem CS(s p:ByteArray):bN Tryz.prog 96 [.v (.string s),.v (.string p)] (λq=>q= .v (.string ⟨(trimPrefix s.data.toList p.data.toList).toArray⟩)):=by
 intro pr w vs h1 h2;rw [Bj h1 h2];refine(Any.strings_TrimPrefix Vs s p w).mono ?_;rintro en w' ⟨rfl,rfl⟩;exact⟨_,_,rfl,rfl,.v _,Ext.refl _⟩
theorem K6(s:ByteArray)(c:Int):bN Tryz.prog 91 [.v (.string s),.v (.int .u8 c)] (λq=>q= .v (.int .i64 (indexByte s.data.toList c.toNat.toUInt8))):=by
 intro pr w vs h1 h2;rw [Bj h1 h2];refine(Any.stringslite_IndexByte Vr s c w).mono ?_;rintro en w' ⟨rfl,rfl⟩;exact⟨_,_,rfl,rfl,.v _,Ext.refl _⟩
theorem DZ(s:ByteArray)(hs:s.size<=1000000000)(v:Int)(h:atoiAll s.data.toList= .ok v):bN Tryz.prog 95 [.v (.string s)] (λq=>q= .tuple [.v (.int .i64 v),.v .nilIface]):=by
 intro pr w vs h1 h2;rw [Bi h1 h2];refine(Any.strconv_Atoi_ok Ai s ah v h w).mono ?_;rintro en w' ⟨rfl,hw⟩;refine⟨_,_,rfl,rfl,Bl _ _,?_⟩;rcases hw with rfl|⟨t,rfl⟩
 ·exact Ext.refl _
 ·exact Go.Joins.below_bytesWorld _ w _ t (Xf _)
def WI:TypeId:=Dh.t 168
theorem P8(es er:Value)(hes:e8 es)(her:e8 er)(s:ByteArray)(hs:s.size<=1000000000)(h:∀ v,atoiAll s.data.toList≠ .ok v):
 iH Tryz.prog (gX es er) 95 [.v (.string s)] (λq=>∃ N:Nat,q= .tuple [.v (.int .i64 (iN s.data.toList)),.v (.iface WI (.pointer (some ⟨N,0,none⟩)))]):=by
 intro pr w vs h1 h2 hg;rw [Bi h1 h2];have hv1:=I8 (hg (3,[.v es]) (by simp [gX])).1;have hv2:=I8 (hg (4,[.v er]) (by simp [gX])).1;unfold iN;rcases hq:atoiAll s.data.toList with v|_|_
 ·exact absurd hq (h v)
 ·refine(Any.strconv_Atoi_syntax Ai s ah hq es w hv1 hes).mono ?_;rintro en w' ⟨N,rfl,hN,-,hb⟩;exact⟨_,_,rfl,⟨N,rfl⟩,Bl _ _,hb⟩
 ·refine(Any.strconv_Atoi_range Ai s ah hq er w hv2 her).mono ?_;rintro en w' ⟨N,rfl,hN,-,hb⟩;exact⟨_,_,rfl,⟨N,rfl⟩,Bl _ _,hb⟩
end Go.Proofs.YtbmlgmblfboigaaGreatDoor
namespace Go.Proofs.YtbmlgmblfboigaaGreatDoor
open Go Go.ChangeShapes Go.WideShapes Go.ChangeAt Go.RowKit Go.Joins Go.Deep
end Go.Proofs.YtbmlgmblfboigaaGreatDoor
