/- Texts of this claim, one behind the other: lemmas for the statement. -/
import Derived.Test.YtfoaiidcfkmneaaGreatDoorM9
import Derived.Test.YtfoaiidcfkmneaaGreatDoorRound
import Derived.Test.YtfoaiidcfkmneaaGreatDoorM1
import Derived.Test.YtfoaiidcfkmneaaGreatDoorT0
import Derived.Test.YtfoaiidcfkmneaaGreatDoorRows
import Derived.Test.YtfoaiidcfkmneaaGreatDoorChecked
import Derived.WalkKit
import Derived.ProofKit
import Derived.OpenShut
import Derived.Deep.DeepHandedRow
import Derived.Deep.SlicePairs
import Derived.Lib.LaidTab
import Derived.Lib.SmallJoins
import Derived.Carry
import Derived.Test.YtfoaiidcfkmneaaGreatDoorCards
import Derived.Test.YtfoaiidcfkmneaaGreatDoorTie
import Derived.Lib.ItoaNum
import Derived.Lib.ItoaLen
import Derived.Lib.AtoiTie
import Derived.Lib.Strings
import Derived.Test.YtfoaiidcfkmneaaGreatDoorM4
import Derived.Test.YtfoaiidcfkmneaaGreatDoorProg
import Derived.Shelf.LaysM
import Derived.Shelf.LaysC
import Derived.Shelf.Strconv.Itoa3
import Derived.Shelf.Strconv.AtoiAll
import Derived.Shelf.Strings.Search1
import Derived.Shelf.Strings.Prefix
import Derived.Lib.AppendIntMem
set_option linter.unusedSimpArgs false
set_option linter.unusedVariables false
namespace Go.Proofs.YtfoaiidcfkmneaaGreatDoor
open Go Go.RowKit Go.Proofs
attribute [local go_sem] Oper.semAt_some
def SA:List Int:= [0,0,-1,-1,0,1,-1,0,1,0,0,-1,1,1,0,0]
def Sts(w:World):Prop:=999<w.heap.size/\ ∀ j,j<16->w.cell? ⟨999,j,none⟩=some (.int .i64 (SA.getD j 0))
theorem Sts.ext{w w':World}(h:Sts w)(hx:Ext w w'):Sts w':=⟨S4 h.1 hx.size,λj hj=>(Below.cell hx (p:=⟨999,j,none⟩) h.1).trans (h.2 j hj)⟩
section region
variable (wb:Nat) (w0:World) (B4 B7 B8:Nat) (S L:Value) (st:Int) (l:T2) (k:Nat) (sts ls:List Value)
def rq(w:World)(x:Value):Prop:=∃ A c,x= .slice A (k+1) c/\w.ownsRow wb 3 1 x (k+1) (sts++ [.int .i64 st])
variable {wb w0 B4 B7 B8 S L st l k sts ls} {m:Nat->Bool} {w w':World}
theorem rq.alloc{x:Value}(h:rq wb st k sts w x)(o:Obj):rq wb st k sts (w.alloc o) x:=let ⟨A,c,e,r⟩:=h;⟨A,c,e,r.alloc o⟩
theorem rq.grown{x:Value}{row:Option Nat}{f:TypeId}(h:rq wb st k sts w x)(hg:w.grownBy w' row)(hr:RowOf w row f)(hne:3≠f):rq wb st k sts w' x:=let ⟨A,c,e,r⟩:=h;⟨A,c,e,Jn r hg hr hne⟩
end region
end Go.Proofs.YtfoaiidcfkmneaaGreatDoor
namespace Go.Proofs.YtfoaiidcfkmneaaGreatDoor
open Go Go.RowKit Go.Proofs
def okB(j:Nat)(c:UInt8):Bool:=
 decide (97<=(c.toNat:Int)/\(c.toNat:Int)<=122\/65<=(c.toNat:Int)/\(c.toNat:Int)<=90\/j≠0/\((c.toNat:Int)=45\/48<=(c.toNat:Int)/\(c.toNat:Int)<=57))
theorem G0{j:Nat}{c:UInt8}(h:97<=(c.toNat:Int)/\(c.toNat:Int)<=122\/65<=(c.toNat:Int)/\(c.toNat:Int)<=90\/j≠0/\((c.toNat:Int)=45\/48<=(c.toNat:Int)/\(c.toNat:Int)<=57)):okB j c=true:=decide_eq_true h
theorem G1{j:Nat}{c:UInt8}(h:¬ (97<=(c.toNat:Int)/\(c.toNat:Int)<=122\/65<=(c.toNat:Int)/\(c.toNat:Int)<=90\/j≠0/\((c.toNat:Int)=45\/48<=(c.toNat:Int)/\(c.toNat:Int)<=57))):okB j c=false:=decide_eq_false h
def ni(l:List UInt8):Bool:=(List.range l.length).all λj=>okB j (l.getD j default)
def dX(s:ByteArray):Bool:=ni s.data.toList&&decide (1<=s.size)&&decide (s.size<=12)
theorem Ge{l:List UInt8}{i:Nat}(hi:i<l.length)(h:okB i (l.getD i default)=false):ni l=false:=by
 unfold ni;rw [Bool.eq_false_iff];intro ha;have:=Td.1 ha i (T0.2 hi);rw [h]at this;cases this
theorem zE{l:List UInt8}(h:∀ j:Nat,j<l.length->okB j (l.getD j default)=true):ni l=true:=Td.2 λj hj=>h j (T0.1 hj)
theorem EZ(s:ByteArray):s.data.toList.length=s.size:=rfl
theorem IY(s:ByteArray):s.toList=s.data.toList:=ByteArray.toList_eq s
theorem A8(s:ByteArray):(s.toList==(ByteArray.mk #[]).toList)=decide (s.size=0):=by
 rw [Ud];simp only [beq_iff_eq,decide_eq_true_eq,IY]
 constructor
 ·intro h;have:=congrArg List.length h;exact this
 ·intro h;exact TD h
def gz(c:Int):Bool:=decide (97<=c/\c<=122\/65<=c/\c<=90)
set_option maxRecDepth 100000 in
set_option maxHeartbeats 4000000 in
theorem xk(s:ByteArray)(hs:s.size<=1000000000):bT Tryz.prog 44 [.v (.string s)] (λq=>q= .v (.bool (dX s))):=by
 refine cA (fn:=Tryz.f44) 55 aj rfl aj bO ?_;intro bL bj hA bo;have bv:al bL (.tmp 0)=_:=hA 0 _ rfl;have bx:bj.length=0:=by rw [bo];rfl
 clear hA bo;have hsl:=EZ s;refine ax<|at_<|ar (aB aw) rfl<|bn (ae bv) ?_;clear bv;intro bM aD
 refine ao<|ax<|ax<|fZ (λe mem=>(al e (.tmp 13)= .v (.bool (decide (s.size<1\/12<s.size))))/\(al e (.tmp 0)=al bM (.tmp 0))/\bj=mem) ?_ ?_
 ·
  refine at_<|ar (ak aD) rfl<|ar (eE aa rfl cK) rfl<|ar (c6 aa aw) rfl<|ar (ak aa) rfl<|bK aa (λav aJ=>?_) (λav aJ=>?_)
  ·replace aJ:=bt aJ;refine aC ⟨_,rfl,.inl av⟩ rfl ?_;refine aC ⟨_,rfl,.inl (ae av)⟩ rfl ?_;refine aC ⟨_,rfl,.inl (ag av)⟩ rfl ?_;refine ar (bq (ae (ag av)) aw) rfl<|bD (ay aD) aa ?_;intro cR bN bP
   refine ao ⟨(bP).trans (by(refine b7 ?_;simp only [decide_eq_true_eq,SV,true_iff,false_iff];omega)),(bN).trans (aD).symm,rfl⟩
  replace aJ:=bf aJ;refine aF (ak (ai aD)) ⟨_,rfl,av⟩ rfl ?_;refine aF (eE aa rfl cK) ⟨_,rfl,(ae av)⟩ rfl ?_;refine aF (eF aa aw) ⟨_,rfl,(ag av)⟩ rfl ?_;refine ar (br (ae (ag av)) aa) rfl<|bD (ay aD) aa ?_;intro cS bQ bR
  refine ao ⟨(bR).trans (by(refine b7 ?_;simp only [decide_eq_true_eq,SV,true_iff,false_iff];omega)),(bQ).trans (aD).symm,rfl⟩
 ·rintro cT _ ⟨a5,bS,rfl⟩;have a6:=bS.trans aD;refine bk a5 (λaK=>?_) (λaK=>?_)
  ·replace aK:=bt aK;refine ax<|at_<|ar (aB aw) rfl<|bn aa ?_;clear a6 a5;intro cU bz
   refine ao<|bm<|bw<|bX bp aj (aR bz) (.ro _ rfl) ?_
   clear bz bx
   (simp only [dX];refine b7 ?_;simp only [SS,decide_eq_true_eq,SV,false_iff];omega)
  replace aK:=bf aK;refine bF<|ao<|ax<|ax<|at_<|ar (aB aw) rfl<|bD (ae a6) aa ?_;clear a6 a5;intro bU bA bV
  refine ao<|ca<|eL (S:=Int) (λi e mem=>(al e (.tmp 3)= .v (.int .i64 i))/\(al e (.tmp 0)=al bU (.tmp 0))/\(mem.length=0)/\((0<=i/\i<=s.data.toList.length/\ ∀ j:Nat,j<i.toNat->okB j (s.data.toList.getD j default)=true))) (λi=>(s.data.toList.length - i).toNat) _ ⟨bV,rfl,bx,?_⟩ ?_
  ·exact⟨ah,ah,λj hj=>by omega⟩
  ·rintro i cV bE ⟨a7,bW,a8,hinv⟩;have a9:=bW.trans bA;refine ax<|ax<|at_<|ar (ak a7) rfl<|ar (ak (ae a9)) rfl<|ar (eE aa rfl cK) rfl<|ar (c6 (ag aa) aa) rfl<|bB (ai a9) (ai a7) aa ?_;clear a9 a7;intro cW aZ a2 ba
   refine ao<|bk ba (λaL=>?_) (λaL=>?_)
   ·replace aL:=bt aL;refine bF<|ao<|ax<|ca<|ax<|at_<|ar (ak aZ) rfl<|ar (ak (ae a2)) rfl<|ar (gC (ae aa) aa cK ah (by refine gI ?_;omega)) rfl ?_
    refine ar (aB aa) rfl<|bB (ai aZ) (ai a2) aa ?_;clear aZ ba a2;intro bb az aA ad
    refine ao<|ax<|fZ (λe mem=>(al e (.tmp 5)= .v (.bool (gz (s.data.toList.getD i.toNat default).toNat)))/\(al e (.tmp 0)=al bb (.tmp 0))/\(al e (.tmp 3)=al bb (.tmp 3))/\(al e (.tmp 4)=al bb (.tmp 4))/\bE=mem) ?_ ?_
    ·
     refine at_<|ar (ak ad) rfl<|ar (lH aa aw) rfl<|ar (ak aa) rfl<|bK aa (λaE aM=>?_) (λaE aM=>?_)
     ·replace aM:=bt aM;refine aF (ak (ae (ag ad))) ⟨_,rfl,aE⟩ rfl ?_;refine aF (gw aa aw) ⟨_,rfl,(ae aE)⟩ rfl ?_;refine ar (bq (ag aE) aa) rfl<|ar (ak aa) rfl<|bK aa (λap aN=>?_) (λap aN=>?_)
      ·replace aN:=bt aN;refine aC ⟨_,rfl,.inl ap⟩ rfl ?_;refine aC ⟨_,rfl,.inl (ae ap)⟩ rfl ?_;refine aC ⟨_,rfl,.inl (ag ap)⟩ rfl ?_;refine aC ⟨_,rfl,.inr aa⟩ rfl ?_;refine aC ⟨_,rfl,.inr (ae aa)⟩ rfl ?_;refine aC ⟨_,rfl,.inl (ae (ai ap))⟩ rfl ?_;refine ar (bq (ag (ai ap)) aw) rfl<|ar (aB aa) rfl<|bu (ae (ag (ai (ay az)))) (ae (ag (ai (ay aA)))) (ae (ag (ai (ay ad)))) aa ?_;intro cX bY bZ b0 b1
       refine ao ⟨(b1).trans (by(refine b7 ?_;simp only [gz,decide_eq_true_eq,SV,true_iff,false_iff];omega)),(bY).trans (az).symm,(bZ).trans (aA).symm,(b0).trans (ad).symm,rfl⟩
      replace aN:=bf aN;refine aF (ak (ae (ag (ai ad)))) ⟨_,rfl,ap⟩ rfl ?_;refine aF (lH aa aw) ⟨_,rfl,(ae ap)⟩ rfl ?_;refine aF (ak aa) ⟨_,rfl,(ag ap)⟩ rfl ?_;refine bK aa (λa3 aO=>?_) (λa3 aO=>?_)
      ·replace aO:=bt aO;refine aF (ak (ag (ay ad))) ⟨_,rfl,a3⟩ rfl ?_;refine aF (gw aa aw) ⟨_,rfl,(ae a3)⟩ rfl ?_;refine aF (bq (ag a3) aa) ⟨_,rfl,(ae (ai ap))⟩ rfl ?_;refine ar (br (ag (ai ap)) aa) rfl<|ar (aB aa) rfl<|bu (ae (ag (ai (ay az)))) (ae (ag (ai (ay aA)))) (ae (ag (ai (ay ad)))) aa ?_;intro cY b2 b6 b8 b9
       refine ao ⟨(b9).trans (by(refine b7 ?_;simp only [gz,decide_eq_true_eq,SV,true_iff,false_iff];omega)),(b2).trans (az).symm,(b6).trans (aA).symm,(b8).trans (ad).symm,rfl⟩
      ·replace aO:=bf aO;exfalso;omega
     replace aM:=bf aM;refine aC ⟨_,rfl,.inl aE⟩ rfl ?_;refine aC ⟨_,rfl,.inl (ae aE)⟩ rfl ?_;refine ar (br (ag aE) aw) rfl<|ar (ak aa) rfl<|aF (ak (ae (ag (ai ad)))) ⟨_,rfl,aa⟩ rfl ?_
     refine aF (lH aa aw) ⟨_,rfl,(ae aa)⟩ rfl ?_;refine aF (ak aa) ⟨_,rfl,(ag aa)⟩ rfl ?_;refine bK aa (λaG aP=>?_) (λaG aP=>?_)
     ·replace aP:=bt aP;refine aF (ak (ag (ay ad))) ⟨_,rfl,aG⟩ rfl ?_;refine aF (gw aa aw) ⟨_,rfl,(ae aG)⟩ rfl ?_;refine aF (bq (ag aG) aa) ⟨_,rfl,(ae (ai aa))⟩ rfl ?_;refine ar (br (ag (ai aa)) aa) rfl<|ar (aB aa) rfl<|bu (ae (ag (ai (ay az)))) (ae (ag (ai (ay aA)))) (ae (ag (ai (ay ad)))) aa ?_;intro cZ cb cc cd ce
      refine ao ⟨(ce).trans (by(refine b7 ?_;simp only [gz,decide_eq_true_eq,SV,true_iff,false_iff];omega)),(cb).trans (az).symm,(cc).trans (aA).symm,(cd).trans (ad).symm,rfl⟩
     replace aP:=bf aP;refine aC ⟨_,rfl,.inl aG⟩ rfl ?_;refine aC ⟨_,rfl,.inl (ae aG)⟩ rfl ?_;refine aF (br (ag aG) aw) ⟨_,rfl,(ae (ai aa))⟩ rfl ?_;refine ar (br (ag (ai aa)) aa) rfl<|ar (aB aa) rfl<|bu (ae (ag (ai (ay az)))) (ae (ag (ai (ay aA)))) (ae (ag (ai (ay ad)))) aa ?_;intro c7 cg ci cj ck
     refine ao ⟨(ck).trans (by(refine b7 ?_;simp only [gz,decide_eq_true_eq,SV,true_iff,false_iff];omega)),(cg).trans (az).symm,(ci).trans (aA).symm,(cj).trans (ad).symm,rfl⟩
    ·rintro bH _ ⟨cm,co,cq,cr,rfl⟩;have au:=co.trans az;have an:=cq.trans aA;have bc:=cr.trans ad;refine ax<|fZ (λe mem=>(al e (.tmp 54)= .v (.bool (!okB i.toNat (s.data.toList.getD i.toNat default))))/\(al e (.tmp 0)=al bH (.tmp 0))/\(al e (.tmp 3)=al bH (.tmp 3))/\bE=mem) ?_ ?_
     ·
      refine at_<|ar (ak cm) rfl<|ar (dT aa) rfl<|ar (ak aa) rfl<|bK aa (λab aS=>?_) (λab aS=>?_)
      ·replace aS:=ff aS;refine aF (ak (ae (ag an))) ⟨_,rfl,ab⟩ rfl ?_;refine aF (dN aa aw) ⟨_,rfl,(ae ab)⟩ rfl ?_;refine aF (ak aa) ⟨_,rfl,(ag ab)⟩ rfl ?_;refine bK aa (λaf aT=>?_) (λaf aT=>?_)
       ·replace aT:=bt aT;refine aC ⟨_,rfl,.inl af⟩ rfl ?_;refine aC ⟨_,rfl,.inl (ae af)⟩ rfl ?_;refine aC ⟨_,rfl,.inl (ag af)⟩ rfl ?_;refine aC ⟨_,rfl,.inr aa⟩ rfl ?_;refine aC ⟨_,rfl,.inr (ae aa)⟩ rfl ?_;refine aC ⟨_,rfl,.inr (ag aa)⟩ rfl ?_;refine aC ⟨_,rfl,.inr aa⟩ rfl ?_;refine aC ⟨_,rfl,.inr (ae aa)⟩ rfl ?_;refine aC ⟨_,rfl,.inr (ae (ai aa))⟩ rfl ?_;refine aC ⟨_,rfl,.inl (ae (ay af))⟩ rfl ?_;refine aF (bq (ag (ay af)) aw) ⟨_,rfl,(ae (ai (ay ab)))⟩ rfl ?_;refine ar (bq (ag (ai (ay ab))) aa) rfl<|bB (ag (aH au)) (ag (aH an)) aa ?_;intro c8 ct cu cv
        refine ao ⟨(cv).trans (by(refine b7 ?_;simp only [gz,okB,decide_eq_true_eq,decide_eq_false_iff_not,SV,true_iff,false_iff,Tz]at*;omega)),(ct).trans (au).symm,(cu).trans (an).symm,rfl⟩
       replace aT:=bf aT;refine aF (ak (ag (ai bc))) ⟨_,rfl,af⟩ rfl ?_;refine aF (fp aa aw) ⟨_,rfl,(ae af)⟩ rfl ?_;refine aF (ak aa) ⟨_,rfl,(ag af)⟩ rfl ?_;refine bK aa (λam aU=>?_) (λam aU=>?_)
       ·replace aU:=ff aU;refine aF (ak (ae (ay bc))) ⟨_,rfl,am⟩ rfl ?_;refine aF (c6 aa aw) ⟨_,rfl,(ae am)⟩ rfl ?_;refine aF (ak aa) ⟨_,rfl,(ag am)⟩ rfl ?_;refine bK aa (λaI aV=>?_) (λaI aV=>?_)
        ·replace aV:=bt aV;refine aC ⟨_,rfl,.inl aI⟩ rfl ?_;refine aC ⟨_,rfl,.inl (ae aI)⟩ rfl ?_;refine aF (bq (ag aI) aw) ⟨_,rfl,(ae (ai am))⟩ rfl ?_;refine aF (bq (ag (ai am)) aa) ⟨_,rfl,(ae (ay af))⟩ rfl ?_;refine aF (br (ag (ay af)) aa) ⟨_,rfl,(ae (ai (ay ab)))⟩ rfl ?_;refine ar (bq (ag (ai (ay ab))) aa) rfl<|bB (ag (aH au)) (ag (aH an)) aa ?_;intro c9 cx cy cz
         refine ao ⟨(cz).trans (by(refine b7 ?_;simp only [gz,okB,decide_eq_true_eq,decide_eq_false_iff_not,SV,true_iff,false_iff,Tz]at*;omega)),(cx).trans (au).symm,(cy).trans (an).symm,rfl⟩
        replace aV:=bf aV;refine aF (ak (ai (ay bc))) ⟨_,rfl,aI⟩ rfl ?_;refine aF (eF aa aw) ⟨_,rfl,(ae aI)⟩ rfl ?_;refine aF (br (ag aI) aa) ⟨_,rfl,(ae (ai am))⟩ rfl ?_;refine aF (bq (ag (ai am)) aa) ⟨_,rfl,(ae (ay af))⟩ rfl ?_;refine aF (br (ag (ay af)) aa) ⟨_,rfl,(ae (ai (ay ab)))⟩ rfl ?_;refine ar (bq (ag (ai (ay ab))) aa) rfl<|bB (ag (aH au)) (ag (aH an)) aa ?_;intro da cB cC cE
        refine ao ⟨(cE).trans (by(refine b7 ?_;simp only [gz,okB,decide_eq_true_eq,decide_eq_false_iff_not,SV,true_iff,false_iff,Tz]at*;omega)),(cB).trans (au).symm,(cC).trans (an).symm,rfl⟩
       replace aU:=eY aU;refine aC ⟨_,rfl,.inl am⟩ rfl ?_;refine aC ⟨_,rfl,.inl (ae am)⟩ rfl ?_;refine aC ⟨_,rfl,.inl (ag am)⟩ rfl ?_;refine aC ⟨_,rfl,.inr aa⟩ rfl ?_;refine aC ⟨_,rfl,.inr (ae aa)⟩ rfl ?_;refine aC ⟨_,rfl,.inl (ae (ai am))⟩ rfl ?_;refine aF (br (ag (ai am)) aw) ⟨_,rfl,(ae (ay af))⟩ rfl ?_;refine aF (br (ag (ay af)) aa) ⟨_,rfl,(ae (ai (ay ab)))⟩ rfl ?_;refine ar (bq (ag (ai (ay ab))) aa) rfl<|bB (ag (aH au)) (ag (aH an)) aa ?_;intro db cF cH cI
       refine ao ⟨(cI).trans (by(refine b7 ?_;simp only [gz,okB,decide_eq_true_eq,decide_eq_false_iff_not,SV,true_iff,false_iff,Tz]at*;omega)),(cF).trans (au).symm,(cH).trans (an).symm,rfl⟩
      replace aS:=eY aS;refine aC ⟨_,rfl,.inl ab⟩ rfl ?_;refine aC ⟨_,rfl,.inl (ae ab)⟩ rfl ?_;refine aC ⟨_,rfl,.inl (ag ab)⟩ rfl ?_;refine aC ⟨_,rfl,.inr aa⟩ rfl ?_;refine aC ⟨_,rfl,.inr (ae aa)⟩ rfl ?_;refine aC ⟨_,rfl,.inr (ag aa)⟩ rfl ?_;refine aC ⟨_,rfl,.inr aa⟩ rfl ?_;refine aC ⟨_,rfl,.inr (ae aa)⟩ rfl ?_;refine aC ⟨_,rfl,.inr (ag aa)⟩ rfl ?_;refine aC ⟨_,rfl,.inr aa⟩ rfl ?_;refine aC ⟨_,rfl,.inr (ae aa)⟩ rfl ?_;refine aC ⟨_,rfl,.inr (ae (ai aa))⟩ rfl ?_;refine aC ⟨_,rfl,.inr (ae (ay aa))⟩ rfl ?_;refine aC ⟨_,rfl,.inl (ae (ai (ay ab)))⟩ rfl ?_;refine ar (br (ag (ai (ay ab))) aw) rfl<|bB (ag (aH au)) (ag (aH an)) aa ?_;intro dc cJ cL cM
      refine ao ⟨(cM).trans (by(refine b7 ?_;simp only [gz,okB,decide_eq_true_eq,decide_eq_false_iff_not,SV,true_iff,false_iff,Tz]at*;omega)),(cJ).trans (au).symm,(cL).trans (an).symm,rfl⟩
     ·rintro dd _ ⟨be,cN,cO,rfl⟩;have bg:=cN.trans au;have bh:=cO.trans an;refine bk be (λaX=>?_) (λaX=>?_)
      ·replace aX:=ff aX;refine ax<|at_<|ar (aB aw) rfl<|bn aa ?_;clear bg bh be;intro de bI
       refine ao<|bm<|cD<|bw<|bw<|cD<|bw<|bX bp aj (aR bI) (.ro _ rfl) ?_
       clear bI a8
       (obtain⟨h1,h2,h3⟩:=hinv;have hn:ni s.data.toList=false:=Ge (i:=i.toNat) ah (by(exact G1 (by assumption)));simp [dX,hn])
      replace aX:=eY aX;refine bF<|cG<|ao<|at_<|ar (ak bh) rfl ?_
      (refine ar (cf aa aw ?_) rfl ?_; · (unfold In64;omega))
      refine ar (aB aa) rfl<|bD (ae (ag bg)) aa ?_;clear bg bh be;intro df cP cQ
      refine ao<|⟨_,⟨cQ,(cP.trans bA.symm),a8,?_⟩,?_⟩
      ·(obtain⟨h1,h2,h3⟩:=hinv;refine⟨ah,ah,λj hj=>?_⟩;by_cases hj':j<i.toNat;exact h3 j hj';have hji:j=i.toNat:=ah;rw [hji];(exact G0 ah))
      ·((try dsimp only);omega)
   replace aL:=bf aL;refine dJ<|cw<|cw<|dI<|ao<|ax<|at_<|ar (aB aw) rfl<|bn aa ?_;clear aZ ba a2;intro dg bJ
   refine ao<|bm<|bX bp aj (aR bJ) (.ro _ rfl) ?_
   clear bJ a8
   (obtain⟨h1,h2,h3⟩:=hinv;have hn:ni s.data.toList=true:=(zE λj hj=>h3 j ah);refine b7 ?_;simp only [dX,hn,UH,SS,decide_eq_true_eq,true_iff];omega)
abbrev bA(b:Bool):AV:=.v (.bool b)
end Go.Proofs.YtfoaiidcfkmneaaGreatDoor
namespace Go.Proofs.YtfoaiidcfkmneaaGreatDoor
open Go Go.RowKit
theorem Bx.part{w:World}{B:Nat}{t:TypeId}{cs:Array Value}(h:Bx w B t cs)(k n o:Nat)(xs:List Value)(hx:∀ j u,xs[j]? =some u->cs[o+j]? =some u)(hn:xs.length=n*k):Rd w k (some ⟨B,o,none⟩) n xs:=
 ⟨hn,λ_=>⟨B,o,rfl,h.lt,λj u hu=>(h.cell (o+j)).trans (hx j u hu)⟩⟩
end Go.Proofs.YtfoaiidcfkmneaaGreatDoor
namespace Go.Proofs.YtfoaiidcfkmneaaGreatDoor
open Go Go.ChangeShapes Go.WideShapes Go.ChangeAt Go.RowKit Go.Joins Go.Deep
theorem Av{H:Type}{enc:TypeId×Value->H}{P:Program}(hl:laidOutB P=true){W W':World}(hx:Ext W W'){sp:Nat->Bool}:∀ {ts:List TypeId} {vs:List Value} {ds:List (DataW H)} {ps:List MemPlace},
 (∀ t∈ts,P.readableRec t=true/\t<P.types.size)->DataW.TrodAll enc P W 0 (λ_=>true) true ts vs ds ps->(∀ x∈ps,x.block<W.heap.size)->(∀ x∈ps,sp x.block=true)->DataW.TrodAll enc P W' 0 sp true ts vs ds ps
 | [],_,_,_,_,h,_,_=>by
  obtain⟨rfl,rfl,rfl⟩:=trodAll_nil h;exact trodAll_mk0
 | t::ts,_,_,_,ht,h,hlt,hsp=>by
  obtain⟨v,vs,d,ds,p,q,rfl,rfl,rfl,h1,h2⟩:=trodAll_cons h;refine⟨p,q,WideElems.Trod_stays hl (ht t aL).1 (ht t aL).2 h1 (λx hx'=>hx.same (hlt x (by simp [hx']))) (λx hx'=>hsp x (by simp [hx'])),?_,rfl⟩;exact Av hl hx (λt' ht'=>ht t' (by simp [ht'])) h2 (λx hx'=>hlt x (by simp [hx'])) (λx hx'=>hsp x (by simp [hx']))
theorem Il{H:Type}{enc:TypeId×Value->H}{P:Program}{f:Func}{s:ChangeSpec}{apart fresh handsOn again:Bool}{W W':World}{args:Array Value}{v:Value}{ds:List (DataW H)}{before:List MemPlace}
 (hl:laidOutB P=true)(hts:(f.params.toList.all λt=>P.readableRec t&&decide (t<P.types.size))=true)(hx:Ext W W')(hv:s.vars= [])
 (hW:DataW.Whole enc P f.params.toList s.vars apart W args.toList ds [] before)(hA:DataW.TrodAll enc P W 0 (λ_=>true) true f.params.toList args.toList ds before)
 (hsp:(s.fn H ds).args =ds)(hsv:(s.fn H ds).vars = [])
 (hres:∀ (b:Nat) (sp:Nat->Bool) (hd:Bool),DataW.TrodAll enc P W' b sp hd f.resultTypes.toList (v.resultList f.resultTypes.size) (s.fn H ds).results [])
 (hok:∀ (j:Nat) (t:TypeId) (r:Value),f.resultTypes[j]? =some t->(v.resultList f.resultTypes.size)[j]? =some r->Value.okWide P W' .any 0 t r):
 s.post enc P f apart fresh handsOn again W args v W':=by
 have hts':∀ t∈f.params.toList,P.readableRec t=true/\t<P.types.size:=λt ht=>by
  have:=Td.1 hts t ht
  simpa using this
 have hlt:∀ x∈before,x.block<W.heap.size:=λx hx'=>by simpa using hW.lt x hx'
 have hargs:∀ sp:Nat->Bool,(∀ p∈before,sp p.block=true)->DataW.TrodAll enc P W' 0 sp true f.params.toList args.toList (s.fn H (ds++ [])).args before:=λsp h=>by
  rw [TX,hsp];exact Av hl hx hts' hA hlt h
 have hvars:∀ sp:Nat->Bool,DataW.TrodVars enc P W' sp s.vars (s.fn H (ds++ [])).vars []:=λsp=>by
  rw [TX,hsv,hv];rfl
 have hres':∀ (b:Nat) (sp:Nat->Bool) (hd:Bool),DataW.TrodAll enc P W' b sp hd f.resultTypes.toList (v.resultList f.resultTypes.size) (s.fn H (ds++ [])).results []:=λb sp hd=>by
  rw [TX];exact hres b sp hd
 have hold:∀ p∈before,(λb=>decide (b<W.heap.size)) p.block=true:=λp hp=>by simpa using hlt p hp
 refine⟨ds,[],before,[],before,[],hW,hres' _ _ _,hargs _ hold,hvars _,hx.frame _,λ_=>?_⟩;obtain⟨_,_,_,_,_,hz,hn⟩:=id hW;refine⟨hok,_,_,([]++before)++ [],⟨[]++before,[],trodAll_append (hargs _ (λ_ _=>rfl)) (hres' _ _ _),hvars _,rfl,?_,?_⟩,?_⟩
 ·intro b off hp;simp only [List.nil_append,TX]at hp;rw [Below.frozen hx (p:=⟨b,off,none⟩) (hlt _ hp)];exact hz b off hp
 ·intro ha;have:=hn ha
  simpa using this
 ·intro p hp _
  simpa using hp
theorem Im{α H:Type}[Inhabited α]{P:Program}{enc:TypeId×Value->H}{W:World}{sp:Nat->Bool}{held:Bool}{fuel:Nat}{T e:TypeId}{n k:Nat}{cs:List Value}{y:DataW H×List MemPlace}(f:α->List Value)(df:α->DataW H)(hf:∀ a,(f a).length =k)(hk0:0<k)
 (ht:P.underlying T=some (.array n e))(hk:P.cellsOf e=k)(hT:P.cellsOf T=n*k)
 (each:∀ fuel cs x,cs.length=k->DataW.trod enc P W 0 sp held fuel e cs=some x-> ∃ a:α,cs=f a/\x.1=df a)
 (h:DataW.trod enc P W 0 sp held fuel T cs=some y):∃ xs:List α,xs.length=n/\cs=(xs.map f).flatten /\y.1= .agg (xs.map df):=by
 obtain⟨zs,m,_,hx,hlen,hxl,hi⟩:=DataW.trod_array ht h;rw [hT]at hlen;have ex:∀ i,∃ z:α,i<n->(cs.drop (i*k)).take k=f z/\(zs[i]?).map (·.1)=some (df z):=λi=>by
  by_cases hil:i<n
  ·have h1:=hi i hil;rw [hk]at h1;have hzi:i<zs.length:=by omega
   rw [SQ hzi]at h1;have hle:(i+1)*k<=n*k:=UB k hil;rw [TV]at hle;obtain⟨z,h2,h3⟩:=each _ _ _ cZ h1;exact⟨z,λ_=>⟨h2,by rw [SQ hzi];simp [h3]⟩⟩
  ·exact⟨default,λh=>absurd h hil⟩
 obtain⟨z,hz⟩:=Classical.axiomOfChoice ex;refine⟨(List.range n).map z,aL,?_,?_⟩
 ·have hfl:(((List.range n).map z).map f).flatten.length =n*k:=by
   rw [iR (Cf hf),SZ,SZ,List.length_range]
  refine TW λj=>?_
  by_cases hj:j<n*k
  ·have hiq:j/k<n:=(Nat.div_lt_iff_lt_mul hk0).2 hj;have hjk:j%k<k:=Nat.mod_lt _ hk0;have e:j=j/k*k+j%k:=by have:=Nat.div_add_mod j k;rw [Nat.mul_comm]at this;omega
   have hel:(((List.range n).map z).map f)[j/k]? =some (f (z (j/k))):=by simp [hiq]
   have h1:=flat_get (Cf hf) hel hjk;rw [<- e]at h1;rw [h1, <- (hz (j/k) hiq).1,TO hjk,Tj, <- e]
  ·rw [S5 ah,S5 ah]
 ·rw [hx];simp only
  congr 1
  refine TW λi=>?_
  by_cases hin:i<n
  ·rw [SU,(hz i hin).2];simp [hin]
  ·rw [S5 cZ,S5 cZ]
theorem HZ{P:Program}{gs:List (Nat×List AV)}{f:FuncId}{args:List AV}(h:iF P gs f args (λq=>q= .v (.bool true))){vs:List Value}{W:World}(hl:vs.length=args.length)(hg:pJ (λ_=>False) W gs)(hR:∀ (i:Nat) (a:AV) (x:Value),args[i]? =some a->vs[i]? =some x->R0 (λ_=>False) W a x):
 Calls P f vs.toArray W λe W'=>e= .returned (.bool true)/\Ext W W':=
 (h (λ_=>False) W vs hl hR hg).mono λe W' ⟨r,v,h1,h2,h3,h4⟩=>by
  subst h2;cases h3;exact⟨h1,h4⟩
theorem Gf{W:World}{nm:String}{g:Nat}{cs:Array Value}(hg:Tryz.prog.globalNamed nm=some g)(hv:W.var? Tryz.prog nm=some cs)(h0:0<cs.size){xs:List Value}(hx:cs.toList=xs):R0 (λ_=>False) W (.ref (xs.map AV.v)) (.pointer (some ⟨g,0,none⟩))/\nr W g (xs.map AV.v).length :=by
 refine⟨?_,by
  unfold World.var? at hv;rw [hg]at hv;simp only [Option.bind_some]at hv
  split at hv
  ·rename_i c2 t2 f2 h2
   simp only [Option.some.injEq]at hv;subst hv hx;exact⟨_,_,_,h2,aL⟩
  ·cases hv⟩
 have hc:∀ j,W.cell? ⟨g,j,none⟩=cs[j]? :=λj=>World.var?_cell hg hv j
 have hb:g<W.heap.size:=by
  have h1:=hc 0;rw [Ua h0]at h1;exact World.block_lt_of_cell? W _ h1
 subst hx;refine .ref _ g 0 (λi=>cs.getD i undef) hb (λh=>h) (λi a ha=>?_) λi a ha=>?_
 ·have hi:i<cs.size:=by have:=(SN.1 ha).1;simpa using this
  rw [S0,hc i,Ua hi];simp [hi]
 ·have hi:i<cs.size:=by have:=(SN.1 ha).1;simpa using this
  rw [SU]at ha;simp [hi]at ha;subst ha;simp [hi];exact .v _
end Go.Proofs.YtfoaiidcfkmneaaGreatDoor
namespace Go.Proofs.YtfoaiidcfkmneaaGreatDoor
open Go Go.Lib
theorem xa:∀ (l:List UInt8) (acc:Nat) (b:UInt8),decFrom acc (l++ [b])=(decFrom acc l).bind λn=>(digitVal b).map λd=>n*10+d
 | [],acc,b=>by simp only [List.nil_append,decFrom];cases digitVal b<;>rfl
 | a::t,acc,b=>by
  simp only [Uj,decFrom];cases digitVal a with
  | none=>rfl
  | some d=>exact xa t _ b
theorem AT{d:Nat}(h:d<10):digitVal (UInt8.ofNat (48+d))=some d:=by
 have e:(UInt8.ofNat (48+d)).toNat =48+d:=by rw [UInt8.toNat_ofNat'];omega
 unfold digitVal;rw [e,if_pos ah];congr 1;omega
theorem oY{u:Nat}(h:u<10):decDigits u= [UInt8.ofNat (48+u)]:=by rw [decDigits,dif_pos h]
theorem vg{u:Nat}(h:¬ u<10):decDigits u=decDigits (u/10)++ [UInt8.ofNat (48+u%10)]:=by rw [decDigits,dif_neg h]
theorem AU(u:Nat):decFrom 0 (decDigits u)=some u:=by
 induction u using Nat.strongRecOn with
 | _ u ih=>
  by_cases h:u<10
  ·rw [oY h];simp only [decFrom,AT h];congr 1;omega
  ·rw [vg h,xa,ih (u/10) ah,AT ah];simp only [Option.bind_some,Option.map_some];congr 1;omega
theorem Gg(u:Nat):decDigits u≠ []:=by
 by_cases h:u<10
 ·rw [oY h];simp
 ·rw [vg h];simp
theorem CL(u:Nat)(h:1<=u):∀ b:UInt8,(decDigits u)[0]? =some b->b.toNat≠48:=by
 induction u using Nat.strongRecOn with
 | _ u ih=>
  intro b hb
  by_cases h1:u<10
  ·rw [oY h1]at hb;simp only [List.getElem?_cons_zero,Option.some.injEq]at hb;rw [<- hb,UInt8.toNat_ofNat'];omega
  ·rw [vg h1,SX (Tt.2 (Gg _))]at hb;exact ih (u/10) ah ah b hb
theorem Gh:∀ (k:Nat) (r:List UInt8) (n:Nat),r.length=k->decFrom 0 r=some n->r≠ []->(r.length=1\/ ∀ b:UInt8,r[0]? =some b->b.toNat≠48)->decDigits n=r
 | 0,r,n,hk,_,hr,_=>absurd (Uw.1 hk) hr
 | k+1,r,n,hk,hn,hr,hc=>by
  have hsp:r=r.dropLast++ [r.getLast hr]:=(List.dropLast_concat_getLast hr).symm;have hm:r.dropLast.length=k:=by rw [List.length_dropLast];omega
  generalize hb:r.getLast hr=b at hsp;generalize hmm:r.dropLast=m at hsp hm;clear hb hmm;subst hsp;rw [xa]at hn;cases hm0:decFrom 0 m with
  | none=>rw [hm0]at hn;cases hn
  | some q=>
   rw [hm0]at hn;cases hd:digitVal b with
   | none=>rw [hd]at hn;cases hn
   | some d=>
    rw [hd]at hn;simp only [Option.bind_some,Option.map_some,Option.some.injEq]at hn;obtain⟨b1,b2,b3⟩:=digitVal_eq hd;have hbe:UInt8.ofNat (48+d)=b:=by
     apply UInt8.toNat_inj.1;rw [UInt8.toNat_ofNat'];omega
    by_cases h0:m= []
    ·subst h0;have hq:q=0:=by simpa [decFrom]using hm0.symm
     subst hq;rw [<- hn,oY ah,show 48+(0*10+d)=48+d by omega,hbe];rfl
    ·have hl:1<=m.length:=Tt.2 h0;have hc':∀ c:UInt8,m[0]? =some c->c.toNat≠48:=λc hcc=>by
      rcases hc with hc|hc
      ·rw [Tq]at hc;simp at hc;exact absurd hc h0
      ·exact hc c (by rw [SX ah];exact hcc)
     have ih:=Gh k m q hm hm0 h0 (.inr hc');have hq1:1<=q:=by
      rcases Ul q with h1|h1
      ·subst h1;rw [oY aD]at ih;exact absurd rfl (hc' 48 (by rw [<- ih];rfl))
      ·exact h1
     rw [<- hn,vg ah,show(q*10+d)/10=q by omega,show(q*10+d)%10=d by omega,ih,hbe]
def jf(l:List UInt8):Int:=match atoiAll l with
 | .ok v=>v
 | .range =>atoiSat l
 | _=>0
def ga(l:List UInt8)(D:Nat):Bool:=match atoiAll l with
 | .ok v=>decide (itoa v=l)&&decide ((trimPrefix l [45]).length <=D)
 | _=>false
def bZ(l:List UInt8):Nat:=if l[0]? =some 45 then 1 else 0
theorem O3{l:List UInt8}:bZ l<=l.length:=by
 unfold bZ
 split
 ·rename_i h;exact(SN.1 h).1
 ·omega
theorem xQ(l:List UInt8):(trimPrefix l [45]).length =l.length - bZ l:=by
 unfold trimPrefix hasPrefix bZ;cases l with
 | nil=>rfl
 | cons a t=>
  by_cases h:a=45
  ·subst h;simp
  ·simp only [List.getElem?_cons_zero,Option.some.injEq,if_neg h];rw [if_neg]
   ·omega
   ·simp;exact λe=>h e.symm
theorem O4{l:List UInt8}{D n:Nat}(hD:D<=17)(h1:l.drop (bZ l)≠ [])(h2:l.length - bZ l<=D)(h3:¬ (l[bZ l]? =some 48/\1<l.length))(hn:decFrom 0 (l.drop (bZ l))=some n):
 ga l D=true/\jf l=if bZ l=1 then -(n:Int)else n:=by
 have hla:=O3 (l:=l);have hna:bZ l<=1:=by unfold bZ;split<;>omega
 have hg:∀ b:UInt8,(l.drop (bZ l))[0]? =some b->l[bZ l]? =some b:=λb hb=>by rw [Tj]at hb;simpa using hb
 have hlen:(l.drop (bZ l)).length =l.length - bZ l:=TZ;have hcan:(l.drop (bZ l)).length =1\/ ∀ b:UInt8,(l.drop (bZ l))[0]? =some b->b.toNat≠48:=by
  by_cases hl1:1<l.length
  ·refine .inr λb hb e=>h3 ⟨?_,hl1⟩
   rw [hg b hb];congr 1;exact UInt8.toNat_inj.1 e
  ·have:=Tt.2 h1
   left;omega
 have hdd:=Gh _ _ n rfl hn h1 hcan;have hds:decNat (l.drop (bZ l))=some n:=by unfold decNat;rw [if_neg nV];exact hn
 have hnn:∀ b:UInt8,(l.drop (bZ l))[0]? =some b->b≠45/\b≠43:=λb hb=>by
  obtain⟨d,hd⟩:=digit_of_decFrom _ _ _ hn 0 b hb;obtain⟨q1,q2,_⟩:=digitVal_eq hd
  constructor
  ·rintro rfl;exact absurd q1 aD
  ·rintro rfl;exact absurd q1 aD
 by_cases ha:l[0]? =some 45
 ·have e1:bZ l=1:=by unfold bZ;rw [if_pos ha]
  rw [e1]at h1 h2 h3 hn hdd hds hlen hg hcan ⊢;obtain⟨r,rfl⟩:∃ r,l=45::r:=by
   cases l with
   | nil=>cases ha
   | cons a t=>simp at ha;exact⟨t,by rw [ha]⟩
  simp only [List.drop_succ_cons,Uu]at*;have hn1:1<=n:=by
   rcases Ul n with hz|hz
   ·subst hz;rw [oY aD]at hdd;exact absurd ⟨by rw [<- hdd];rfl,by rw [<- hdd];decide⟩ h3
   ·exact hz
  have ht:atoiAll (45::r)= .ok (-(n:Int)):=by
   rw [atoiAll_short _ (by simp at h2 ⊢;omega)];simp only [atoi];rw [if_pos aD,hds];rfl
  have hi:itoa (-(n:Int))=45::r:=by
   unfold itoa;rw [if_pos ah,show(-(n:Int)).natAbs =n by omega,hdd]
  have hk:=xQ (45::r);rw [e1]at hk;unfold ga jf;rw [ht];simp only [hi,hk];exact⟨by simp at h2 ⊢;omega,rfl⟩
 ·have e1:bZ l=0:=by unfold bZ;rw [if_neg ha]
  rw [e1]at h1 h2 h3 hn hdd hds hlen hg hcan hnn ⊢;simp only [Uu]at*;obtain⟨a,r,rfl⟩:∃ a r,l=a::r:=by
   cases l with
   | nil=>exact absurd rfl h1
   | cons a t=>exact⟨a,t,rfl⟩
  have hn2:=hnn a rfl;have ht:atoiAll (a::r)= .ok (n:Int):=by
   rw [atoiAll_short _ ah];simp only [atoi];rw [if_neg (by simpa using hn2.1),if_neg (by simpa using hn2.2),hds];rfl
  have hi:itoa (n:Int)=a::r:=by
   unfold itoa;rw [if_neg ah,show((n:Int)).toNat =n by omega,hdd]
  have hk:=xQ (a::r);rw [e1]at hk;unfold ga jf;rw [ht];simp only [hi,hk];exact⟨by simp at h2 ⊢;omega,rfl⟩
theorem O5(v:Int):(itoa v).drop (bZ (itoa v))=decDigits v.natAbs/\((itoa v)[bZ (itoa v)]? =some 48->(itoa v).length =1)/\(bZ (itoa v)=1↔v<0):=by
 have hc:∀ (u:Nat) (b:UInt8),(decDigits u)[0]? =some b->48<=b.toNat:=λu b hb=>by
  obtain⟨d,hd⟩:=digit_of_decFrom _ _ _ (AU u) 0 b hb;exact(digitVal_eq hd).1
 by_cases h:v<0
 ·have e:itoa v=45::decDigits v.natAbs:=by unfold itoa;rw [if_pos h]
  have ea:bZ (itoa v)=1:=by rw [e];rfl
  rw [ea,e];refine⟨rfl,λhq=>?_,by simp [h]⟩;have:=CL v.natAbs ah 48 (by simpa using hq);exact absurd rfl this
 ·have e:itoa v=decDigits v.natAbs:=by unfold itoa;rw [if_neg h];congr 1;omega
  have ea:bZ (itoa v)=0:=by
   unfold bZ;rw [if_neg,];rw [e];intro hq;have:=hc _ _ hq;exact absurd this aD
  rw [ea,e];refine⟨rfl,λhq=>?_,by simp [h]⟩
  by_cases h0:v.natAbs<10
  ·rw [oY h0];rfl
  ·exact absurd rfl (CL v.natAbs ah 48 hq)
theorem QB{l:List UInt8}{D:Nat}(h:ga l D=true):l.drop (bZ l)≠ []/\l.length - bZ l<=D/\ ¬ (l[bZ l]? =some 48/\1<l.length)/\(∀ (k:Nat) (b:UInt8),bZ l<=k->l[k]? =some b->48<=b.toNat/\b.toNat<=57)/\itoa (jf l)=l:=by
 unfold ga at h;unfold jf;rcases hq:atoiAll l with v|_|_
 rotate_left
 ·rw [hq]at h;cases h
 ·rw [hq]at h;cases h
 ·
  rw [hq]at h;simp only [SS,decide_eq_true_eq]at h;obtain⟨h1,h2⟩:=h;obtain⟨i1,i2,i3⟩:=O5 v;rw [xQ]at h2;rw [h1]at i1 i2;refine⟨by rw [i1];exact Gg _,h2,λhh=>by have:=i2 hh.1;omega,λk b hk hb=>?_,h1⟩;have hb':(l.drop (bZ l))[k - bZ l]? =some b:=by rw [Tj,show bZ l+(k - bZ l)=k by omega];exact hb
  rw [i1]at hb';obtain⟨d,hd⟩:=digit_of_decFrom _ _ _ (AU v.natAbs) _ b hb';obtain⟨q1,q2,_⟩:=digitVal_eq hd;exact⟨q1,q2⟩
end Go.Proofs.YtfoaiidcfkmneaaGreatDoor
namespace Go.Proofs.YtfoaiidcfkmneaaGreatDoor
open Go Go.RowKit Go.Proofs Go.Shelf Go.Lib
def Io:Go.Shelf.Ren:=⟨λ|171=>64|243=>74|246=>94|283=>104|284=>105|285=>106|286=>107|129=>86|317=>112|318=>113|319=>114|320=>115|337=>116|338=>117|n=>n,λ|3=>3|9=>9|2=>2|4=>4|171=>159|0=>0|53=>118|37=>139|5=>5|173=>161|212=>171|51=>172|20=>20|213=>173|46=>136|232=>176|233=>177|n=>n,λ|17=>5|18=>6|19=>7|n=>n⟩
theorem O6:Go.Proofs.LaysM.n171 Tryz.prog Io:= {
 mixed:=by kernel_rfl
 f129:=Tryz.func86.trans (congrArg some aj)
 f171:=Tryz.func64.trans (congrArg some aj)
 f243:=Tryz.func74.trans (congrArg some aj)
 f246:=Tryz.func94.trans (congrArg some aj)
 f283:=Tryz.func104.trans (congrArg some aj)
 f284:=Tryz.func105.trans (congrArg some aj)
 f285:=Tryz.func106.trans (congrArg some aj)
 f286:=Tryz.func107.trans (congrArg some aj)
 f317:=Tryz.func112.trans (congrArg some aj)
 f318:=Tryz.func113.trans (congrArg some aj)
 f319:=Tryz.func114.trans (congrArg some aj)
 f320:=Tryz.func115.trans (congrArg some aj)
 f337:=Tryz.func116.trans (congrArg some aj)
 f338:=Tryz.func117.trans (congrArg some aj)
 t0:=Tryz.underlying0
 a0:=Tryz.isAgg0
 z0:=Tryz.sizeOf0
 v0:=Tryz.zeroValue0
 t2:=Tryz.underlying2
 a2:=Tryz.isAgg2
 z2:=Tryz.sizeOf2
 v2:=Tryz.zeroValue2
 t3:=Tryz.underlying3
 a3:=Tryz.isAgg3
 z3:=Tryz.sizeOf3
 v3:=Tryz.zeroValue3
 t4:=Tryz.underlying4
 a4:=Tryz.isAgg4
 z4:=Tryz.sizeOf4
 v4:=Tryz.zeroValue4
 t5:=Tryz.underlying5
 a5:=Tryz.isAgg5
 z5:=Tryz.sizeOf5
 v5:=Tryz.zeroValue5
 t9:=Tryz.underlying9
 a9:=Tryz.isAgg9
 z9:=Tryz.sizeOf9
 v9:=Tryz.zeroValue9
 t20:=Tryz.underlying20
 a20:=Tryz.isAgg20
 z20:=Tryz.sizeOf20
 v20:=Tryz.zeroValue20
 t37:=Tryz.underlying139
 a37:=Tryz.isAgg139
 z37:=Tryz.sizeOf139
 v37:=Tryz.zeroValue139
 t46:=Tryz.underlying136
 a46:=Tryz.isAgg136
 z46:=Tryz.sizeOf136
 v46:=Tryz.zeroValue136
 t51:=Tryz.underlying172
 a51:=Tryz.isAgg172
 z51:=Tryz.sizeOf172
 v51:=Tryz.zeroValue172
 t53:=Tryz.underlying118
 a53:=Tryz.isAgg118
 z53:=Tryz.sizeOf118
 v53:=Tryz.zeroValue118
 t171:=Tryz.underlying159
 a171:=Tryz.isAgg159
 z171:=Tryz.sizeOf159
 v171:=Tryz.zeroValue159
 t173:=Tryz.underlying161
 a173:=Tryz.isAgg161
 z173:=Tryz.sizeOf161
 v173:=Tryz.zeroValue161
 t212:=Tryz.underlying171
 a212:=Tryz.isAgg171
 z212:=Tryz.sizeOf171
 v212:=Tryz.zeroValue171
 t213:=Tryz.underlying173
 a213:=Tryz.isAgg173
 z213:=Tryz.sizeOf173
 t232:=Tryz.underlying176
 a232:=Tryz.isAgg176
 z232:=Tryz.sizeOf176
 v232:=Tryz.zeroValue176
 t233:=Tryz.underlying177
 a233:=Tryz.isAgg177
 z233:=Tryz.sizeOf177
 v233:=Tryz.zeroValue177
 g17:=by kernel_rfl
 g18:=by kernel_rfl
 g19:=by kernel_rfl
 i0:=by kernel_rfl
 i2:=by kernel_rfl
 i3:=by kernel_rfl
 i4:=by kernel_rfl
 i5:=by kernel_rfl
 i9:=by kernel_rfl
 i20:=by kernel_rfl
 i37:=by kernel_rfl
 i46:=by kernel_rfl
 i51:=by kernel_rfl
 i53:=by kernel_rfl
 i171:=by kernel_rfl
 i173:=by kernel_rfl
 i212:=by kernel_rfl
 i232:=by kernel_rfl
 i233:=by kernel_rfl
 m17:=by kernel_rfl
 m18:=by kernel_rfl
 m19:=by kernel_rfl}
def AX:Go.Shelf.Ren:=⟨λ|172=>63|244=>72|245=>73|247=>89|279=>90|280=>91|281=>92|282=>93|287=>101|316=>102|171=>64|205=>103|321=>110|322=>111|243=>74|246=>94|283=>104|284=>105|285=>106|286=>107|129=>86|317=>112|318=>113|319=>114|320=>115|337=>116|338=>117|n=>n,λ|9=>9|3=>3|75=>126|76=>127|4=>4|5=>5|167=>144|37=>139|0=>0|85=>145|2=>2|168=>147|53=>118|175=>154|46=>136|210=>157|127=>166|145=>169|143=>167|21=>21|171=>159|173=>161|212=>171|51=>172|20=>20|213=>173|232=>176|233=>177|80=>99|n=>n,λ|15=>3|16=>4|17=>5|18=>6|19=>7|n=>n⟩
theorem yF:Go.Proofs.LaysC.n172 Tryz.prog AX:= {
 mixed:=by kernel_rfl
 f129:=Tryz.func86.trans (congrArg some aj)
 f171:=Tryz.func64.trans (congrArg some aj)
 f172:=Tryz.func63.trans (congrArg some aj)
 f205:=Tryz.func103.trans (congrArg some aj)
 f243:=Tryz.func74.trans (congrArg some aj)
 f244:=Tryz.func72.trans (congrArg some aj)
 f245:=Tryz.func73.trans (congrArg some aj)
 f246:=Tryz.func94.trans (congrArg some aj)
 f247:=Tryz.func89.trans (congrArg some aj)
 f279:=Tryz.func90.trans (congrArg some aj)
 f280:=Tryz.func91.trans (congrArg some aj)
 f281:=Tryz.func92.trans (congrArg some aj)
 f282:=Tryz.func93.trans (congrArg some aj)
 f283:=Tryz.func104.trans (congrArg some aj)
 f284:=Tryz.func105.trans (congrArg some aj)
 f285:=Tryz.func106.trans (congrArg some aj)
 f286:=Tryz.func107.trans (congrArg some aj)
 f287:=Tryz.func101.trans (congrArg some aj)
 f316:=Tryz.func102.trans (congrArg some aj)
 f317:=Tryz.func112.trans (congrArg some aj)
 f318:=Tryz.func113.trans (congrArg some aj)
 f319:=Tryz.func114.trans (congrArg some aj)
 f320:=Tryz.func115.trans (congrArg some aj)
 f321:=Tryz.func110.trans (congrArg some aj)
 f322:=Tryz.func111.trans (congrArg some aj)
 f337:=Tryz.func116.trans (congrArg some aj)
 f338:=Tryz.func117.trans (congrArg some aj)
 t0:=Tryz.underlying0
 a0:=Tryz.isAgg0
 z0:=Tryz.sizeOf0
 v0:=Tryz.zeroValue0
 t2:=Tryz.underlying2
 a2:=Tryz.isAgg2
 z2:=Tryz.sizeOf2
 v2:=Tryz.zeroValue2
 t3:=Tryz.underlying3
 a3:=Tryz.isAgg3
 z3:=Tryz.sizeOf3
 v3:=Tryz.zeroValue3
 t4:=Tryz.underlying4
 a4:=Tryz.isAgg4
 z4:=Tryz.sizeOf4
 v4:=Tryz.zeroValue4
 t5:=Tryz.underlying5
 a5:=Tryz.isAgg5
 z5:=Tryz.sizeOf5
 v5:=Tryz.zeroValue5
 t9:=Tryz.underlying9
 a9:=Tryz.isAgg9
 z9:=Tryz.sizeOf9
 v9:=Tryz.zeroValue9
 t20:=Tryz.underlying20
 a20:=Tryz.isAgg20
 z20:=Tryz.sizeOf20
 v20:=Tryz.zeroValue20
 t21:=Tryz.underlying21
 a21:=Tryz.isAgg21
 z21:=Tryz.sizeOf21
 v21:=Tryz.zeroValue21
 t37:=Tryz.underlying139
 a37:=Tryz.isAgg139
 z37:=Tryz.sizeOf139
 v37:=Tryz.zeroValue139
 t46:=Tryz.underlying136
 a46:=Tryz.isAgg136
 z46:=Tryz.sizeOf136
 v46:=Tryz.zeroValue136
 t51:=Tryz.underlying172
 a51:=Tryz.isAgg172
 z51:=Tryz.sizeOf172
 v51:=Tryz.zeroValue172
 t53:=Tryz.underlying118
 a53:=Tryz.isAgg118
 z53:=Tryz.sizeOf118
 v53:=Tryz.zeroValue118
 t75:=Tryz.underlying126
 a75:=Tryz.isAgg126
 z75:=Tryz.sizeOf126
 v75:=Tryz.zeroValue126
 t76:=Tryz.underlying127
 a76:=Tryz.isAgg127
 z76:=Tryz.sizeOf127
 v76:=Tryz.zeroValue127
 t85:=Tryz.underlying145
 a85:=Tryz.isAgg145
 z85:=Tryz.sizeOf145
 v85:=Tryz.zeroValue145
 t127:=Tryz.underlying166
 a127:=Tryz.isAgg166
 z127:=Tryz.sizeOf166
 v127:=Tryz.zeroValue166
 t143:=Tryz.underlying167
 a143:=Tryz.isAgg167
 z143:=Tryz.sizeOf167
 v143:=Tryz.zeroValue167
 t145:=Tryz.underlying169
 a145:=Tryz.isAgg169
 z145:=Tryz.sizeOf169
 v145:=Tryz.zeroValue169
 t167:=Tryz.underlying144
 a167:=Tryz.isAgg144
 z167:=Tryz.sizeOf144
 v167:=Tryz.zeroValue144
 t168:=Tryz.underlying147
 a168:=Tryz.isAgg147
 z168:=Tryz.sizeOf147
 v168:=Tryz.zeroValue147
 t171:=Tryz.underlying159
 a171:=Tryz.isAgg159
 z171:=Tryz.sizeOf159
 v171:=Tryz.zeroValue159
 t173:=Tryz.underlying161
 a173:=Tryz.isAgg161
 z173:=Tryz.sizeOf161
 v173:=Tryz.zeroValue161
 t175:=Tryz.underlying154
 a175:=Tryz.isAgg154
 z175:=Tryz.sizeOf154
 v175:=Tryz.zeroValue154
 t210:=Tryz.underlying157
 a210:=Tryz.isAgg157
 z210:=Tryz.sizeOf157
 v210:=Tryz.zeroValue157
 t212:=Tryz.underlying171
 a212:=Tryz.isAgg171
 z212:=Tryz.sizeOf171
 v212:=Tryz.zeroValue171
 t213:=Tryz.underlying173
 a213:=Tryz.isAgg173
 z213:=Tryz.sizeOf173
 t232:=Tryz.underlying176
 a232:=Tryz.isAgg176
 z232:=Tryz.sizeOf176
 v232:=Tryz.zeroValue176
 t233:=Tryz.underlying177
 a233:=Tryz.isAgg177
 z233:=Tryz.sizeOf177
 v233:=Tryz.zeroValue177
 g15:=by kernel_rfl
 g16:=by kernel_rfl
 g17:=by kernel_rfl
 g18:=by kernel_rfl
 g19:=by kernel_rfl
 t80:=Tryz.underlying99
 a80:=Tryz.isAgg99
 z80:=Tryz.sizeOf99
 v80:=Tryz.zeroValue99
 i0:=by kernel_rfl
 i2:=by kernel_rfl
 i3:=by kernel_rfl
 i4:=by kernel_rfl
 i5:=by kernel_rfl
 i9:=by kernel_rfl
 i20:=by kernel_rfl
 i21:=by kernel_rfl
 i37:=by kernel_rfl
 i46:=by kernel_rfl
 i51:=by kernel_rfl
 i53:=by kernel_rfl
 i75:=by kernel_rfl
 i76:=by kernel_rfl
 i80:=by kernel_rfl
 i85:=by kernel_rfl
 i127:=by kernel_rfl
 i143:=by kernel_rfl
 i145:=by kernel_rfl
 i167:=by kernel_rfl
 i168:=by kernel_rfl
 i171:=by kernel_rfl
 i173:=by kernel_rfl
 i175:=by kernel_rfl
 i210:=by kernel_rfl
 i212:=by kernel_rfl
 i232:=by kernel_rfl
 i233:=by kernel_rfl
 m15:=by kernel_rfl
 m16:=by kernel_rfl
 m17:=by kernel_rfl
 m18:=by kernel_rfl
 m19:=by kernel_rfl
 c0:=by kernel_rfl
 c2:=by kernel_rfl
 c3:=by kernel_rfl
 c4:=by kernel_rfl
 c5:=by kernel_rfl
 c9:=by kernel_rfl
 c20:=by kernel_rfl
 c21:=by kernel_rfl
 c37:=by kernel_rfl
 c46:=by kernel_rfl
 c51:=by kernel_rfl
 c53:=by kernel_rfl
 c75:=by kernel_rfl
 c76:=by kernel_rfl
 c80:=by kernel_rfl
 c85:=by kernel_rfl
 c127:=by kernel_rfl
 c143:=by kernel_rfl
 c145:=by kernel_rfl
 c167:=by kernel_rfl
 c168:=by kernel_rfl
 c171:=by kernel_rfl
 c173:=by kernel_rfl
 c175:=by kernel_rfl
 c210:=by kernel_rfl
 c212:=by kernel_rfl
 c213:=by kernel_rfl
 c232:=by kernel_rfl
 c233:=by kernel_rfl}
def IZ:Go.Shelf.Ren:=⟨λ|217=>59|266=>71|n=>n,λ|9=>9|5=>5|3=>3|n=>n,λ|n=>n⟩
theorem QC:Go.Proofs.Lays.n217 Tryz.prog IZ:= {
 mixed:=by kernel_rfl
 f217:=Tryz.func59.trans (congrArg some aj)
 f266:=Tryz.func71.trans (congrArg some aj)
 t3:=Tryz.underlying3
 a3:=Tryz.isAgg3
 z3:=Tryz.sizeOf3
 v3:=Tryz.zeroValue3
 t5:=Tryz.underlying5
 a5:=Tryz.isAgg5
 z5:=Tryz.sizeOf5
 v5:=Tryz.zeroValue5
 t9:=Tryz.underlying9
 a9:=Tryz.isAgg9
 z9:=Tryz.sizeOf9
 v9:=Tryz.zeroValue9}
def I0:Go.Shelf.Ren:=⟨λ|101=>65|208=>75|206=>95|n=>n,λ|9=>9|4=>4|3=>3|n=>n,λ|n=>n⟩
theorem QD:Go.Proofs.Lays.n101 Tryz.prog I0:= {
 mixed:=by kernel_rfl
 f101:=Tryz.func65.trans (congrArg some aj)
 f206:=Tryz.func95.trans (congrArg some aj)
 f208:=Tryz.func75.trans (congrArg some aj)
 t3:=Tryz.underlying3
 a3:=Tryz.isAgg3
 z3:=Tryz.sizeOf3
 v3:=Tryz.zeroValue3
 t4:=Tryz.underlying4
 a4:=Tryz.isAgg4
 z4:=Tryz.sizeOf4
 v4:=Tryz.zeroValue4
 t9:=Tryz.underlying9
 a9:=Tryz.isAgg9
 z9:=Tryz.sizeOf9
 v9:=Tryz.zeroValue9}
theorem JB{pr:Nat->Prop}{w:World}{b:Nat}{xs:List Value}(h0:R0 pr w (.ref (xs.map AV.v)) (.pointer (some ⟨b,0,none⟩)))(h:nr w b (xs.map AV.v).length):∃ t f,w.heap[b]? =some (.cells xs.toArray t f):=by
 obtain⟨cs,t,f,h1,h2⟩:=h;refine⟨t,f,?_⟩;rw [h1]
 congr 2
 cases h0 with
 | ref _ _ _ g q1 q2 q3 q4=>
  refine Array.ext_getElem? λi=>?_
  by_cases hi:i<xs.length
  ·have c:=q3 i (.v xs[i]) (by simp [hi]);have r:=q4 i (.v xs[i]) (by simp [hi]);generalize g i=v at c r;cases r;rw [S0,cell_of_row w b i cs t f h1]at c;rw [c];simp [hi]
  ·rw [SZ]at h2;rw [Array.getElem?_eq_none ah,Array.getElem?_eq_none (by simpa using hi)]
def gX(es er:Value):List (Nat×List AV):= [(5,(pow10Tab.map (Value.int .u64)).map AV.v),(4,[.v er]),(3,[.v es])]
def fz(v:Value):Prop:=v= .nilIface \/ ∃ te pe,v= .iface te pe
theorem QE{pr:Nat->Prop}{w:World}{es er:Value}(h:pJ pr w (gX es er)):TabIs Tryz.prog w "internal/strconv.uint64pow10" .u64 pow10Tab:=by
 obtain⟨h0,h1⟩:=h _ (UU ..);obtain⟨t,f,h2⟩:=JB h0 h1;unfold TabIs World.var?;rw [show Tryz.prog.globalNamed "internal/strconv.uint64pow10" =some 5 by kernel_rfl];simp only [Option.bind_some];rw [h2]
theorem Gi{pr:Nat->Prop}{w:World}{g:Nat}{v:Value}(h:R0 pr w (.ref [.v v]) (.pointer (some ⟨g,0,none⟩))):w.cell? ⟨g,0,none⟩=some v:=by
 cases h with
 | ref _ _ _ f q1 q2 q3 q4=>
  have c:=q3 0 (.v v) rfl;have r:=q4 0 (.v v) rfl;generalize f 0=y at c r;cases r;exact c
theorem zF{pr:Nat->Prop}{w:World}{a:Value}{vs:List Value}(h1:vs.length= [AV.v a].length)(h2:∀ (i:Nat) (b:AV) (x:Value),[AV.v a][i]? =some b->vs[i]? =some x->R0 pr w b x):vs= [a]:=by
 match vs,h1 with
 | [x],_=>
  have:=h2 0 _ x rfl rfl;cases this;rfl
theorem zG{pr:Nat->Prop}{w:World}{a b:Value}{vs:List Value}(h1:vs.length= [AV.v a,.v b].length)(h2:∀ (i:Nat) (c:AV) (x:Value),[AV.v a,.v b][i]? =some c->vs[i]? =some x->R0 pr w c x):vs= [a,b]:=by
 match vs,h1 with
 | [x,y],_=>
  have r1:=h2 0 _ x rfl rfl;have r2:=h2 1 _ y rfl rfl;cases r1;cases r2;rfl
theorem zH{pr:Nat->Prop}{w:World}(a b:Value):R0 pr w (.tuple [.v a,.v b]) (.tuple #[a,b]):=
 .tuple [.v a,.v b] [a,b] rfl λi c x hc hx=>by
  match i,hc,hx with
  | 0,hc,hx=>cases hc;cases hx;exact .v _
  | 1,hc,hx=>cases hc;cases hx;exact .v _
theorem E0(es er:Value)(n:Int)(h:In64 n):iF Tryz.prog (gX es er) 64 [.v (.int .i64 n)] (λq=>q= .v (.string ⟨(itoa n).toArray⟩)):=by
 intro pr w vs h1 h2 hg;rw [zF h1 h2];unfold In64 at h;refine(Any.strconv_Itoa O6 n ah ah w (QE hg)).mono ?_;rintro en w' ⟨rfl,k,os,rfl⟩;exact⟨_,_,rfl,rfl,.v _,below_grow _ w (SR _) k os⟩
theorem Aw(s p:ByteArray):bT Tryz.prog 65 [.v (.string s),.v (.string p)] (λq=>q= .v (.string ⟨(trimPrefix s.data.toList p.data.toList).toArray⟩)):=by
 intro pr w vs h1 h2;rw [zG h1 h2];refine(Any.strings_TrimPrefix QD s p w).mono ?_;rintro en w' ⟨rfl,rfl⟩;exact⟨_,_,rfl,rfl,.v _,Ext.refl _⟩
theorem H3(s:ByteArray)(c:Int):bT Tryz.prog 59 [.v (.string s),.v (.int .u8 c)] (λq=>q= .v (.int .i64 (indexByte s.data.toList c.toNat.toUInt8))):=by
 intro pr w vs h1 h2;rw [zG h1 h2];refine(Any.stringslite_IndexByte QC s c w).mono ?_;rintro en w' ⟨rfl,rfl⟩;exact⟨_,_,rfl,rfl,.v _,Ext.refl _⟩
theorem Bt(s:ByteArray)(hs:s.size<=1000000000)(v:Int)(h:atoiAll s.data.toList= .ok v):bT Tryz.prog 63 [.v (.string s)] (λq=>q= .tuple [.v (.int .i64 v),.v .nilIface]):=by
 intro pr w vs h1 h2;rw [zF h1 h2];refine(Any.strconv_Atoi_ok yF s ah v h w).mono ?_;rintro en w' ⟨rfl,hw⟩;refine⟨_,_,rfl,rfl,zH _ _,?_⟩;rcases hw with rfl|⟨t,rfl⟩
 ·exact Ext.refl _
 ·exact Go.Joins.below_bytesWorld _ w _ t (SR _)
def RZ:TypeId:=AX.t 168
theorem LX(es er:Value)(hes:fz es)(her:fz er)(s:ByteArray)(hs:s.size<=1000000000)(h:∀ v,atoiAll s.data.toList≠ .ok v):
 iF Tryz.prog (gX es er) 63 [.v (.string s)] (λq=>∃ N:Nat,q= .tuple [.v (.int .i64 (jf s.data.toList)),.v (.iface RZ (.pointer (some ⟨N,0,none⟩)))]):=by
 intro pr w vs h1 h2 hg;rw [zF h1 h2];have hv1:=Gi (hg (3,[.v es]) (by simp [gX])).1;have hv2:=Gi (hg (4,[.v er]) (by simp [gX])).1;unfold jf;rcases hq:atoiAll s.data.toList with v|_|_
 ·exact absurd hq (h v)
 ·refine(Any.strconv_Atoi_syntax yF s ah hq es w hv1 hes).mono ?_;rintro en w' ⟨N,rfl,hN,-,hb⟩;exact⟨_,_,rfl,⟨N,rfl⟩,zH _ _,hb⟩
 ·refine(Any.strconv_Atoi_range yF s ah hq er w hv2 her).mono ?_;rintro en w' ⟨N,rfl,hN,-,hb⟩;exact⟨_,_,rfl,⟨N,rfl⟩,zH _ _,hb⟩
end Go.Proofs.YtfoaiidcfkmneaaGreatDoor
namespace Go.Proofs.YtfoaiidcfkmneaaGreatDoor
open Go Go.ChangeShapes Go.WideShapes Go.ChangeAt Go.RowKit Go.Joins Go.Deep
end Go.Proofs.YtfoaiidcfkmneaaGreatDoor
