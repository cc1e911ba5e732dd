/- Texts of this claim, one behind the other: lemmas for the statement. -/
import Derived.Test.YtbmlgmblfboigaaGreatDoorM7
import Derived.Test.YtbmlgmblfboigaaGreatDoorRound
import Derived.Test.YtbmlgmblfboigaaGreatDoorM1
import Derived.Test.YtbmlgmblfboigaaGreatDoorT0
import Derived.Test.YtbmlgmblfboigaaGreatDoorRows
import Derived.Test.YtbmlgmblfboigaaGreatDoorChecked
import Derived.WalkKit
import Derived.ProofKit
import Derived.OpenShut
import Derived.Deep.DeepHandedRow
import Derived.Deep.SlicePairs
import Derived.Lib.LaidTab
import Derived.Lib.SmallJoins
import Derived.Carry
import Derived.Test.YtbmlgmblfboigaaGreatDoorCards
import Derived.Test.YtbmlgmblfboigaaGreatDoorTie
import Derived.Lib.ItoaNum
import Derived.Lib.ItoaLen
import Derived.Lib.AtoiTie
import Derived.Lib.Strings
import Derived.Test.YtbmlgmblfboigaaGreatDoorM3
import Derived.Test.YtbmlgmblfboigaaGreatDoorProg
import Derived.Shelf.LaysM
import Derived.Shelf.LaysC
import Derived.Shelf.Strconv.Itoa3
import Derived.Shelf.Strconv.AtoiAll
import Derived.Shelf.Strings.Search1
import Derived.Shelf.Strings.Prefix
import Derived.Lib.AppendIntMem
set_option linter.unusedSimpArgs false
set_option linter.unusedVariables false
namespace Go.Proofs.YtbmlgmblfboigaaGreatDoor
open Go Go.RowKit Go.Proofs
attribute [local go_sem] Oper.semAt_some
def SV:List Int:= [0,0,-1,-1,0,1,-1,0,1,0,0,-1,1,1,0,0]
def Sts(w:World):Prop:=999<w.heap.size/\ ∀ j,j<16->w.cell? ⟨999,j,none⟩=some (.int .i64 (SV.getD j 0))
theorem Sts.ext{w w':World}(h:Sts w)(hx:Ext w w'):Sts w':=⟨TR h.1 hx.size,λj hj=>(Below.cell hx (p:=⟨999,j,none⟩) h.1).trans (h.2 j hj)⟩
section region
variable (wb:Nat) (w0:World) (B4 B7 B8:Nat) (S L:Value) (st:Int) (l:T2) (k:Nat) (sts ls:List Value)
def pR(w:World)(x:Value):Prop:=∃ A c,x= .slice A (k+1) c/\w.ownsRow wb 3 1 x (k+1) (sts++ [.int .i64 st])
variable {wb w0 B4 B7 B8 S L st l k sts ls} {m:Nat->Bool} {w w':World}
theorem pR.alloc{x:Value}(h:pR wb st k sts w x)(o:Obj):pR wb st k sts (w.alloc o) x:=let ⟨A,c,e,r⟩:=h;⟨A,c,e,r.alloc o⟩
theorem pR.grown{x:Value}{row:Option Nat}{f:TypeId}(h:pR wb st k sts w x)(hg:w.grownBy w' row)(hr:RowOf w row f)(hne:3≠f):pR wb st k sts w' x:=let ⟨A,c,e,r⟩:=h;⟨A,c,e,I5 r hg hr hne⟩
end region
end Go.Proofs.YtbmlgmblfboigaaGreatDoor
namespace Go.Proofs.YtbmlgmblfboigaaGreatDoor
open Go Go.RowKit Go.Proofs
def okB(j:Nat)(c:UInt8):Bool:=
 decide (97<=(c.toNat:Int)/\(c.toNat:Int)<=122\/65<=(c.toNat:Int)/\(c.toNat:Int)<=90\/j≠0/\((c.toNat:Int)=45\/48<=(c.toNat:Int)/\(c.toNat:Int)<=57))
theorem Gn{j:Nat}{c:UInt8}(h:97<=(c.toNat:Int)/\(c.toNat:Int)<=122\/65<=(c.toNat:Int)/\(c.toNat:Int)<=90\/j≠0/\((c.toNat:Int)=45\/48<=(c.toNat:Int)/\(c.toNat:Int)<=57)):okB j c=true:=decide_eq_true h
theorem Gp{j:Nat}{c:UInt8}(h:¬ (97<=(c.toNat:Int)/\(c.toNat:Int)<=122\/65<=(c.toNat:Int)/\(c.toNat:Int)<=90\/j≠0/\((c.toNat:Int)=45\/48<=(c.toNat:Int)/\(c.toNat:Int)<=57))):okB j c=false:=decide_eq_false h
def ll(l:List UInt8):Bool:=(List.range l.length).all λj=>okB j (l.getD j default)
def dn(s:ByteArray):Bool:=ll s.data.toList&&decide (1<=s.size)&&decide (s.size<=12)
theorem Fv{l:List UInt8}{i:Nat}(hi:i<l.length)(h:okB i (l.getD i default)=false):ll l=false:=by
 unfold ll;rw [Bool.eq_false_iff];intro ha;have:=TJ.1 ha i (Uh.2 hi);rw [h]at this;cases this
theorem yB{l:List UInt8}(h:∀ j:Nat,j<l.length->okB j (l.getD j default)=true):ll l=true:=TJ.2 λj hj=>h j (Uh.1 hj)
theorem Eu(s:ByteArray):s.data.toList.length=s.size:=rfl
theorem Is(s:ByteArray):s.toList=s.data.toList:=ByteArray.toList_eq s
theorem Ab(s:ByteArray):(s.toList==(ByteArray.mk #[]).toList)=decide (s.size=0):=by
 rw [UC];simp only [beq_iff_eq,decide_eq_true_eq,Is]
 constructor
 ·intro h;have:=congrArg List.length h;exact this
 ·intro h;exact Ub h
def fG(c:Int):Bool:=decide (97<=c/\c<=122\/65<=c/\c<=90)
set_option maxRecDepth 100000 in
set_option maxHeartbeats 4000000 in
theorem Ac(s:ByteArray)(hs:s.size<=1000000000):bF Tryz.prog 72 [.v (.string s)] (λq=>q= .v (.bool (dn s))):=by
 refine ck (fn:=Tryz.f72) 55 (by kernel_rfl) rfl (by kernel_rfl) (S8 rfl) ?_;intro bu bc hA be;have bg:ag bu (.tmp 0)=_:=hA 0 _ rfl;have bh:bc.length=0:=by rw [be];rfl
 clear hA be;have hsl:=Eu s;refine aj<|at_<|ar (aw al) rfl<|aT (ae rfl bg) ?_;clear bg;intro bv ax
 refine ai<|aj<|aj<|gz (λe mem=>(ag e (.tmp 13)= .v (.bool (decide (s.size<1\/12<s.size))))/\(ag e (.tmp 0)=ag bv (.tmp 0))/\bc=mem) ?_ ?_
 ·
  refine at_<|ar (ah ax) rfl<|ar (hH aa rfl eI) rfl<|ar (cL aa al) rfl<|ar (ah aa) rfl<|bM aa (λap aD=>?_) (λap aD=>?_)
  ·replace aD:=bt aD;refine az ⟨_,rfl,.inl ap⟩ rfl ?_;refine az ⟨_,rfl,.inl (ae rfl ap)⟩ rfl ?_;refine az ⟨_,rfl,.inl (u2 rfl ap)⟩ rfl ?_;refine ar (bD (ae rfl (u2 rfl ap)) al) rfl<|aY (u8 rfl ax) aa ?_;intro cz bw bx
   refine ai ⟨(bx).trans (by(refine cJ ?_;simp only [decide_eq_true_eq,Tn,true_iff,false_iff];omega)),(bw).trans (ax).symm,rfl⟩
  replace aD:=bf aD;refine aA (ah (u4 rfl ax)) ⟨_,rfl,ap⟩ rfl ?_;refine aA (hH aa rfl eI) ⟨_,rfl,(ae rfl ap)⟩ rfl ?_;refine aA (eM aa al) ⟨_,rfl,(u2 rfl ap)⟩ rfl ?_;refine ar (bJ (ae rfl (u2 rfl ap)) aa) rfl<|aY (u8 rfl ax) aa ?_;intro cA bz bA
  refine ai ⟨(bA).trans (by(refine cJ ?_;simp only [decide_eq_true_eq,Tn,true_iff,false_iff];omega)),(bz).trans (ax).symm,rfl⟩
 ·rintro cB _ ⟨aU,bB,rfl⟩;have aV:=bB.trans ax;refine aW aU (λaE=>?_) (λaE=>?_)
  ·replace aE:=bt aE;refine aj<|at_<|ar (aw al) rfl<|aT aa ?_;clear aV aU;intro cC bj
   refine ai<|aX<|bO<|bK (.inr rfl) (by kernel_rfl) (aS bj) (.ro _ rfl) ?_
   clear bj bh
   (simp only [dn];refine cJ ?_;simp only [Ti,decide_eq_true_eq,Tn,false_iff];omega)
  replace aE:=bf aE;refine br<|ai<|aj<|aj<|at_<|ar (aw al) rfl<|aY (ae rfl aV) aa ?_;clear aV aU;intro bC bk bE
  refine ai<|bP<|dN (S:=Int) (λi e mem=>(ag e (.tmp 3)= .v (.int .i64 i))/\(ag e (.tmp 0)=ag bC (.tmp 0))/\(mem.length=0)/\((0<=i/\i<=s.data.toList.length/\ ∀ j:Nat,j<i.toNat->okB j (s.data.toList.getD j default)=true))) (λi=>(s.data.toList.length - i).toNat) _ ⟨bE,rfl,bh,?_⟩ ?_
  ·exact⟨by omega,by omega,λj hj=>by omega⟩
  ·rintro i cD bm ⟨a2,bG,a3,hinv⟩;have a5:=bG.trans bk;refine aj<|aj<|at_<|ar (ah a2) rfl<|ar (ah (ae rfl a5)) rfl<|ar (hH aa rfl eI) rfl<|ar (cL (u2 rfl aa) aa) rfl<|bq (u4 rfl a5) (u4 rfl a2) aa ?_;clear a5 a2;intro cE aP aQ a6
   refine ai<|aW a6 (λaF=>?_) (λaF=>?_)
   ·replace aF:=bt aF;refine br<|ai<|aj<|bP<|aj<|at_<|ar (ah aP) rfl<|ar (ah (ae rfl aQ)) rfl<|ar (vW (ae rfl aa) aa eI (by omega) (by refine xu ?_;omega)) rfl ?_
    refine ar (aw aa) rfl<|bq (u4 rfl aP) (u4 rfl aQ) aa ?_;clear aP a6 aQ;intro a7 au av ad
    refine ai<|aj<|gz (λe mem=>(ag e (.tmp 5)= .v (.bool (fG (s.data.toList.getD i.toNat default).toNat)))/\(ag e (.tmp 0)=ag a7 (.tmp 0))/\(ag e (.tmp 3)=ag a7 (.tmp 3))/\(ag e (.tmp 4)=ag a7 (.tmp 4))/\bm=mem) ?_ ?_
    ·
     refine at_<|ar (ah ad) rfl<|ar (lP aa al) rfl<|ar (ah aa) rfl<|bM aa (λay aG=>?_) (λay aG=>?_)
     ·replace aG:=bt aG;refine aA (ah (ae rfl (u2 rfl ad))) ⟨_,rfl,ay⟩ rfl ?_;refine aA (fD aa al) ⟨_,rfl,(ae rfl ay)⟩ rfl ?_;refine ar (bD (u2 rfl ay) aa) rfl<|ar (ah aa) rfl<|bM aa (λan aH=>?_) (λan aH=>?_)
      ·replace aH:=bt aH;refine az ⟨_,rfl,.inl an⟩ rfl ?_;refine az ⟨_,rfl,.inl (ae rfl an)⟩ rfl ?_;refine az ⟨_,rfl,.inl (u2 rfl an)⟩ rfl ?_;refine az ⟨_,rfl,.inr aa⟩ rfl ?_;refine az ⟨_,rfl,.inr (ae rfl aa)⟩ rfl ?_;refine az ⟨_,rfl,.inl (ae rfl (u4 rfl an))⟩ rfl ?_;refine ar (bD (u2 rfl (u4 rfl an)) al) rfl<|ar (aw aa) rfl<|aZ (ae rfl (u2 rfl (u4 rfl (u8 rfl au)))) (ae rfl (u2 rfl (u4 rfl (u8 rfl av)))) (ae rfl (u2 rfl (u4 rfl (u8 rfl ad)))) aa ?_;intro cF bH bI bL bN
       refine ai ⟨(bN).trans (by(refine cJ ?_;simp only [fG,decide_eq_true_eq,Tn,true_iff,false_iff];omega)),(bH).trans (au).symm,(bI).trans (av).symm,(bL).trans (ad).symm,rfl⟩
      replace aH:=bf aH;refine aA (ah (ae rfl (u2 rfl (u4 rfl ad)))) ⟨_,rfl,an⟩ rfl ?_;refine aA (lP aa al) ⟨_,rfl,(ae rfl an)⟩ rfl ?_;refine aA (ah aa) ⟨_,rfl,(u2 rfl an)⟩ rfl ?_;refine bM aa (λaR aI=>?_) (λaR aI=>?_)
      ·replace aI:=bt aI;refine aA (ah (u2 rfl (u8 rfl ad))) ⟨_,rfl,aR⟩ rfl ?_;refine aA (fD aa al) ⟨_,rfl,(ae rfl aR)⟩ rfl ?_;refine aA (bD (u2 rfl aR) aa) ⟨_,rfl,(ae rfl (u4 rfl an))⟩ rfl ?_;refine ar (bJ (u2 rfl (u4 rfl an)) aa) rfl<|ar (aw aa) rfl<|aZ (ae rfl (u2 rfl (u4 rfl (u8 rfl au)))) (ae rfl (u2 rfl (u4 rfl (u8 rfl av)))) (ae rfl (u2 rfl (u4 rfl (u8 rfl ad)))) aa ?_;intro cG bQ bR bS bT
       refine ai ⟨(bT).trans (by(refine cJ ?_;simp only [fG,decide_eq_true_eq,Tn,true_iff,false_iff];omega)),(bQ).trans (au).symm,(bR).trans (av).symm,(bS).trans (ad).symm,rfl⟩
      ·replace aI:=bf aI;exfalso;omega
     replace aG:=bf aG;refine az ⟨_,rfl,.inl ay⟩ rfl ?_;refine az ⟨_,rfl,.inl (ae rfl ay)⟩ rfl ?_;refine ar (bJ (u2 rfl ay) al) rfl<|ar (ah aa) rfl<|aA (ah (ae rfl (u2 rfl (u4 rfl ad)))) ⟨_,rfl,aa⟩ rfl ?_
     refine aA (lP aa al) ⟨_,rfl,(ae rfl aa)⟩ rfl ?_;refine aA (ah aa) ⟨_,rfl,(u2 rfl aa)⟩ rfl ?_;refine bM aa (λaB aJ=>?_) (λaB aJ=>?_)
     ·replace aJ:=bt aJ;refine aA (ah (u2 rfl (u8 rfl ad))) ⟨_,rfl,aB⟩ rfl ?_;refine aA (fD aa al) ⟨_,rfl,(ae rfl aB)⟩ rfl ?_;refine aA (bD (u2 rfl aB) aa) ⟨_,rfl,(ae rfl (u4 rfl aa))⟩ rfl ?_;refine ar (bJ (u2 rfl (u4 rfl aa)) aa) rfl<|ar (aw aa) rfl<|aZ (ae rfl (u2 rfl (u4 rfl (u8 rfl au)))) (ae rfl (u2 rfl (u4 rfl (u8 rfl av)))) (ae rfl (u2 rfl (u4 rfl (u8 rfl ad)))) aa ?_;intro cH bU bV bW bX
      refine ai ⟨(bX).trans (by(refine cJ ?_;simp only [fG,decide_eq_true_eq,Tn,true_iff,false_iff];omega)),(bU).trans (au).symm,(bV).trans (av).symm,(bW).trans (ad).symm,rfl⟩
     replace aJ:=bf aJ;refine az ⟨_,rfl,.inl aB⟩ rfl ?_;refine az ⟨_,rfl,.inl (ae rfl aB)⟩ rfl ?_;refine aA (bJ (u2 rfl aB) al) ⟨_,rfl,(ae rfl (u4 rfl aa))⟩ rfl ?_;refine ar (bJ (u2 rfl (u4 rfl aa)) aa) rfl<|ar (aw aa) rfl<|aZ (ae rfl (u2 rfl (u4 rfl (u8 rfl au)))) (ae rfl (u2 rfl (u4 rfl (u8 rfl av)))) (ae rfl (u2 rfl (u4 rfl (u8 rfl ad)))) aa ?_;intro cI bY bZ b0 b1
     refine ai ⟨(b1).trans (by(refine cJ ?_;simp only [fG,decide_eq_true_eq,Tn,true_iff,false_iff];omega)),(bY).trans (au).symm,(bZ).trans (av).symm,(b0).trans (ad).symm,rfl⟩
    ·rintro bn _ ⟨b2,b6,b8,b9,rfl⟩;have ao:=b6.trans au;have am:=b8.trans av;have a8:=b9.trans ad;refine aj<|gz (λe mem=>(ag e (.tmp 54)= .v (.bool (!okB i.toNat (s.data.toList.getD i.toNat default))))/\(ag e (.tmp 0)=ag bn (.tmp 0))/\(ag e (.tmp 3)=ag bn (.tmp 3))/\bm=mem) ?_ ?_
     ·
      refine at_<|ar (ah b2) rfl<|ar (di aa) rfl<|ar (ah aa) rfl<|bM aa (λab aK=>?_) (λab aK=>?_)
      ·replace aK:=dR aK;refine aA (ah (ae rfl (u2 rfl am))) ⟨_,rfl,ab⟩ rfl ?_;refine aA (eH aa al) ⟨_,rfl,(ae rfl ab)⟩ rfl ?_;refine aA (ah aa) ⟨_,rfl,(u2 rfl ab)⟩ rfl ?_;refine bM aa (λaf aL=>?_) (λaf aL=>?_)
       ·replace aL:=bt aL;refine az ⟨_,rfl,.inl af⟩ rfl ?_;refine az ⟨_,rfl,.inl (ae rfl af)⟩ rfl ?_;refine az ⟨_,rfl,.inl (u2 rfl af)⟩ rfl ?_;refine az ⟨_,rfl,.inr aa⟩ rfl ?_;refine az ⟨_,rfl,.inr (ae rfl aa)⟩ rfl ?_;refine az ⟨_,rfl,.inr (u2 rfl aa)⟩ rfl ?_;refine az ⟨_,rfl,.inr aa⟩ rfl ?_;refine az ⟨_,rfl,.inr (ae rfl aa)⟩ rfl ?_;refine az ⟨_,rfl,.inr (ae rfl (u4 rfl aa))⟩ rfl ?_;refine az ⟨_,rfl,.inl (ae rfl (u8 rfl af))⟩ rfl ?_;refine aA (bD (u2 rfl (u8 rfl af)) al) ⟨_,rfl,(ae rfl (u4 rfl (u8 rfl ab)))⟩ rfl ?_;refine ar (bD (u2 rfl (u4 rfl (u8 rfl ab))) aa) rfl<|bq (u2 rfl (u16 rfl ao)) (u2 rfl (u16 rfl am)) aa ?_;intro cK ca cb cc
        refine ai ⟨(cc).trans (by(refine cJ ?_;simp only [fG,okB,decide_eq_true_eq,decide_eq_false_iff_not,Tn,true_iff,false_iff,TQ]at*;omega)),(ca).trans (ao).symm,(cb).trans (am).symm,rfl⟩
       replace aL:=bf aL;refine aA (ah (u2 rfl (u4 rfl a8))) ⟨_,rfl,af⟩ rfl ?_;refine aA (ez aa al) ⟨_,rfl,(ae rfl af)⟩ rfl ?_;refine aA (ah aa) ⟨_,rfl,(u2 rfl af)⟩ rfl ?_;refine bM aa (λak aM=>?_) (λak aM=>?_)
       ·replace aM:=dR aM;refine aA (ah (ae rfl (u8 rfl a8))) ⟨_,rfl,ak⟩ rfl ?_;refine aA (cL aa al) ⟨_,rfl,(ae rfl ak)⟩ rfl ?_;refine aA (ah aa) ⟨_,rfl,(u2 rfl ak)⟩ rfl ?_;refine bM aa (λaC aN=>?_) (λaC aN=>?_)
        ·replace aN:=bt aN;refine az ⟨_,rfl,.inl aC⟩ rfl ?_;refine az ⟨_,rfl,.inl (ae rfl aC)⟩ rfl ?_;refine aA (bD (u2 rfl aC) al) ⟨_,rfl,(ae rfl (u4 rfl ak))⟩ rfl ?_;refine aA (bD (u2 rfl (u4 rfl ak)) aa) ⟨_,rfl,(ae rfl (u8 rfl af))⟩ rfl ?_;refine aA (bJ (u2 rfl (u8 rfl af)) aa) ⟨_,rfl,(ae rfl (u4 rfl (u8 rfl ab)))⟩ rfl ?_;refine ar (bD (u2 rfl (u4 rfl (u8 rfl ab))) aa) rfl<|bq (u2 rfl (u16 rfl ao)) (u2 rfl (u16 rfl am)) aa ?_;intro cM cd ce cf
         refine ai ⟨(cf).trans (by(refine cJ ?_;simp only [fG,okB,decide_eq_true_eq,decide_eq_false_iff_not,Tn,true_iff,false_iff,TQ]at*;omega)),(cd).trans (ao).symm,(ce).trans (am).symm,rfl⟩
        replace aN:=bf aN;refine aA (ah (u4 rfl (u8 rfl a8))) ⟨_,rfl,aC⟩ rfl ?_;refine aA (eM aa al) ⟨_,rfl,(ae rfl aC)⟩ rfl ?_;refine aA (bJ (u2 rfl aC) aa) ⟨_,rfl,(ae rfl (u4 rfl ak))⟩ rfl ?_;refine aA (bD (u2 rfl (u4 rfl ak)) aa) ⟨_,rfl,(ae rfl (u8 rfl af))⟩ rfl ?_;refine aA (bJ (u2 rfl (u8 rfl af)) aa) ⟨_,rfl,(ae rfl (u4 rfl (u8 rfl ab)))⟩ rfl ?_;refine ar (bD (u2 rfl (u4 rfl (u8 rfl ab))) aa) rfl<|bq (u2 rfl (u16 rfl ao)) (u2 rfl (u16 rfl am)) aa ?_;intro cN cg ci cm
        refine ai ⟨(cm).trans (by(refine cJ ?_;simp only [fG,okB,decide_eq_true_eq,decide_eq_false_iff_not,Tn,true_iff,false_iff,TQ]at*;omega)),(cg).trans (ao).symm,(ci).trans (am).symm,rfl⟩
       replace aM:=dG aM;refine az ⟨_,rfl,.inl ak⟩ rfl ?_;refine az ⟨_,rfl,.inl (ae rfl ak)⟩ rfl ?_;refine az ⟨_,rfl,.inl (u2 rfl ak)⟩ rfl ?_;refine az ⟨_,rfl,.inr aa⟩ rfl ?_;refine az ⟨_,rfl,.inr (ae rfl aa)⟩ rfl ?_;refine az ⟨_,rfl,.inl (ae rfl (u4 rfl ak))⟩ rfl ?_;refine aA (bJ (u2 rfl (u4 rfl ak)) al) ⟨_,rfl,(ae rfl (u8 rfl af))⟩ rfl ?_;refine aA (bJ (u2 rfl (u8 rfl af)) aa) ⟨_,rfl,(ae rfl (u4 rfl (u8 rfl ab)))⟩ rfl ?_;refine ar (bD (u2 rfl (u4 rfl (u8 rfl ab))) aa) rfl<|bq (u2 rfl (u16 rfl ao)) (u2 rfl (u16 rfl am)) aa ?_;intro cO cn co cp
       refine ai ⟨(cp).trans (by(refine cJ ?_;simp only [fG,okB,decide_eq_true_eq,decide_eq_false_iff_not,Tn,true_iff,false_iff,TQ]at*;omega)),(cn).trans (ao).symm,(co).trans (am).symm,rfl⟩
      replace aK:=dG aK;refine az ⟨_,rfl,.inl ab⟩ rfl ?_;refine az ⟨_,rfl,.inl (ae rfl ab)⟩ rfl ?_;refine az ⟨_,rfl,.inl (u2 rfl ab)⟩ rfl ?_;refine az ⟨_,rfl,.inr aa⟩ rfl ?_;refine az ⟨_,rfl,.inr (ae rfl aa)⟩ rfl ?_;refine az ⟨_,rfl,.inr (u2 rfl aa)⟩ rfl ?_;refine az ⟨_,rfl,.inr aa⟩ rfl ?_;refine az ⟨_,rfl,.inr (ae rfl aa)⟩ rfl ?_;refine az ⟨_,rfl,.inr (u2 rfl aa)⟩ rfl ?_;refine az ⟨_,rfl,.inr aa⟩ rfl ?_;refine az ⟨_,rfl,.inr (ae rfl aa)⟩ rfl ?_;refine az ⟨_,rfl,.inr (ae rfl (u4 rfl aa))⟩ rfl ?_;refine az ⟨_,rfl,.inr (ae rfl (u8 rfl aa))⟩ rfl ?_;refine az ⟨_,rfl,.inl (ae rfl (u4 rfl (u8 rfl ab)))⟩ rfl ?_;refine ar (bJ (u2 rfl (u4 rfl (u8 rfl ab))) al) rfl<|bq (u2 rfl (u16 rfl ao)) (u2 rfl (u16 rfl am)) aa ?_;intro cP cq cr ct
      refine ai ⟨(ct).trans (by(refine cJ ?_;simp only [fG,okB,decide_eq_true_eq,decide_eq_false_iff_not,Tn,true_iff,false_iff,TQ]at*;omega)),(cq).trans (ao).symm,(cr).trans (am).symm,rfl⟩
     ·rintro cQ _ ⟨a9,cu,cw,rfl⟩;have ba:=cu.trans ao;have bb:=cw.trans am;refine aW a9 (λaO=>?_) (λaO=>?_)
      ·replace aO:=dR aO;refine aj<|at_<|ar (aw al) rfl<|aT aa ?_;clear ba bb a9;intro cR bo
       refine ai<|aX<|de<|bO<|bO<|de<|bO<|bK (.inr rfl) (by kernel_rfl) (aS bo) (.ro _ rfl) ?_
       clear bo a3
       (obtain⟨h1,h2,h3⟩:=hinv;have hn:ll s.data.toList=false:=Fv (i:=i.toNat) (by omega) (by(exact Gp (by assumption)));simp [dn,hn])
      replace aO:=dG aO;refine br<|cv<|ai<|at_<|ar (ah bb) rfl ?_
      (refine ar (cj aa al ?_) rfl ?_; · (unfold In64;omega))
      refine ar (aw aa) rfl<|aY (ae rfl (u2 rfl ba)) aa ?_;clear ba bb a9;intro cS cx cy
      refine ai<|⟨_,⟨cy,(cx.trans bk.symm),a3,?_⟩,?_⟩
      ·(obtain⟨h1,h2,h3⟩:=hinv;refine⟨by omega,by omega,λj hj=>?_⟩;by_cases hj':j<i.toNat;exact h3 j hj';have hji:j=i.toNat:=(by omega);rw [hji];(exact Gn (by omega)))
      ·((try dsimp only);omega)
   replace aF:=bf aF;refine dD<|b7<|b7<|dC<|ai<|aj<|at_<|ar (aw al) rfl<|aT aa ?_;clear aP a6 aQ;intro cT bp
   refine ai<|aX<|bK (.inr rfl) (by kernel_rfl) (aS bp) (.ro _ rfl) ?_
   clear bp a3
   (obtain⟨h1,h2,h3⟩:=hinv;have hn:ll s.data.toList=true:=(yB λj hj=>h3 j (by omega));refine cJ ?_;simp only [dn,hn,U2,Ti,decide_eq_true_eq,true_iff];omega)
abbrev bA(b:Bool):AV:=.v (.bool b)
end Go.Proofs.YtbmlgmblfboigaaGreatDoor
namespace Go.Proofs.YtbmlgmblfboigaaGreatDoor
open Go Go.RowKit
theorem Bx.part{w:World}{B:Nat}{t:TypeId}{cs:Array Value}(h:Bx w B t cs)(k n o:Nat)(xs:List Value)(hx:∀ j u,xs[j]? =some u->cs[o+j]? =some u)(hn:xs.length=n*k):Rd w k (some ⟨B,o,none⟩) n xs:=
 ⟨hn,λ_=>⟨B,o,rfl,h.lt,λj u hu=>(h.cell (o+j)).trans (hx j u hu)⟩⟩
end Go.Proofs.YtbmlgmblfboigaaGreatDoor
namespace Go.Proofs.YtbmlgmblfboigaaGreatDoor
open Go Go.ChangeShapes Go.WideShapes Go.ChangeAt Go.RowKit Go.Joins Go.Deep
theorem zB{H:Type}{enc:TypeId×Value->H}{P:Program}(hl:laidOutB P=true){W W':World}(hx:Ext W W'){sp:Nat->Bool}:∀ {ts:List TypeId} {vs:List Value} {ds:List (DataW H)} {ps:List MemPlace},
 (∀ t∈ts,P.readableRec t=true/\t<P.types.size)->DataW.TrodAll enc P W 0 (λ_=>true) true ts vs ds ps->(∀ x∈ps,x.block<W.heap.size)->(∀ x∈ps,sp x.block=true)->DataW.TrodAll enc P W' 0 sp true ts vs ds ps
 | [],_,_,_,_,h,_,_=>by
  obtain⟨rfl,rfl,rfl⟩:=trodAll_nil h;exact trodAll_mk0
 | t::ts,_,_,_,ht,h,hlt,hsp=>by
  obtain⟨v,vs,d,ds,p,q,rfl,rfl,rfl,h1,h2⟩:=trodAll_cons h;refine⟨p,q,WideElems.Trod_stays hl (ht t (by simp)).1 (ht t (by simp)).2 h1 (λx hx'=>hx.same (hlt x (by simp [hx']))) (λx hx'=>hsp x (by simp [hx'])),?_,rfl⟩;exact zB hl hx (λt' ht'=>ht t' (by simp [ht'])) h2 (λx hx'=>hlt x (by simp [hx'])) (λx hx'=>hsp x (by simp [hx']))
theorem HJ{H:Type}{enc:TypeId×Value->H}{P:Program}{f:Func}{s:ChangeSpec}{apart fresh handsOn again:Bool}{W W':World}{args:Array Value}{v:Value}{ds:List (DataW H)}{before:List MemPlace}
 (hl:laidOutB P=true)(hts:(f.params.toList.all λt=>P.readableRec t&&decide (t<P.types.size))=true)(hx:Ext W W')(hv:s.vars= [])
 (hW:DataW.Whole enc P f.params.toList s.vars apart W args.toList ds [] before)(hA:DataW.TrodAll enc P W 0 (λ_=>true) true f.params.toList args.toList ds before)
 (hsp:(s.fn H ds).args =ds)(hsv:(s.fn H ds).vars = [])
 (hres:∀ (b:Nat) (sp:Nat->Bool) (hd:Bool),DataW.TrodAll enc P W' b sp hd f.resultTypes.toList (v.resultList f.resultTypes.size) (s.fn H ds).results [])
 (hok:∀ (j:Nat) (t:TypeId) (r:Value),f.resultTypes[j]? =some t->(v.resultList f.resultTypes.size)[j]? =some r->Value.okWide P W' .any 0 t r):
 s.post enc P f apart fresh handsOn again W args v W':=by
 have hts':∀ t∈f.params.toList,P.readableRec t=true/\t<P.types.size:=λt ht=>by
  have:=TJ.1 hts t ht
  simpa using this
 have hlt:∀ x∈before,x.block<W.heap.size:=λx hx'=>by simpa using hW.lt x hx'
 have hargs:∀ sp:Nat->Bool,(∀ p∈before,sp p.block=true)->DataW.TrodAll enc P W' 0 sp true f.params.toList args.toList (s.fn H (ds++ [])).args before:=λsp h=>by
  rw [Uc,hsp];exact zB hl hx hts' hA hlt h
 have hvars:∀ sp:Nat->Bool,DataW.TrodVars enc P W' sp s.vars (s.fn H (ds++ [])).vars []:=λsp=>by
  rw [Uc,hsv,hv];rfl
 have hres':∀ (b:Nat) (sp:Nat->Bool) (hd:Bool),DataW.TrodAll enc P W' b sp hd f.resultTypes.toList (v.resultList f.resultTypes.size) (s.fn H (ds++ [])).results []:=λb sp hd=>by
  rw [Uc];exact hres b sp hd
 have hold:∀ p∈before,(λb=>decide (b<W.heap.size)) p.block=true:=λp hp=>by simpa using hlt p hp
 refine⟨ds,[],before,[],before,[],hW,hres' _ _ _,hargs _ hold,hvars _,hx.frame _,λ_=>?_⟩;obtain⟨_,_,_,_,_,hz,hn⟩:=id hW;refine⟨hok,_,_,([]++before)++ [],⟨[]++before,[],trodAll_append (hargs _ (λ_ _=>rfl)) (hres' _ _ _),hvars _,rfl,?_,?_⟩,?_⟩
 ·intro b off hp;simp only [UO,Uc]at hp;rw [Below.frozen hx (p:=⟨b,off,none⟩) (hlt _ hp)];exact hz b off hp
 ·intro ha;have:=hn ha
  simpa using this
 ·intro p hp _
  simpa using hp
theorem Ji{W:World}{a:Addr}{u:Value}(h:W.cell? a=some u):a=⟨a.block,a.off,none⟩:=by
 obtain⟨b,o,s⟩:=a;cases s with
 | none=>rfl
 | some s=>exfalso;unfold World.cell? at h;simp only at h;split at h<;>simp at h
theorem QO{pr:Nat->Prop}{W:World}{l:List AV}{xs:List Value}(hl:xs.length=l.length)(h:∀ (i:Nat) (a:AV) (x:Value),l[i]? =some a->xs[i]? =some x->R0 pr W a x):R0 pr W (.agg l) (.agg xs.toArray):=.agg l xs hl h
theorem RQ{α:Type}{l:List α}(h:l.length=2):∃ a b,l= [a,b]:=by
 match l,h with
 | [a,b],_=>exact⟨a,b,rfl⟩
theorem RR{α:Type}{l:List α}(h:l.length=3):∃ a b c,l= [a,b,c]:=by
 match l,h with
 | [a,b,c],_=>exact⟨a,b,c,rfl⟩
theorem list4{α:Type}{l:List α}(h:l.length=4):∃ a b c d,l= [a,b,c,d]:=by
 match l,h with
 | [a,b,c,d],_=>exact⟨a,b,c,d,rfl⟩
theorem rF:Tryz.prog.cellsOf 3=1:=by kernel_rfl
theorem GF:Tryz.prog.cellsOf 9=1:=by kernel_rfl
theorem HK{α H:Type}[Inhabited α]{P:Program}{enc:TypeId×Value->H}{W:World}{sp:Nat->Bool}{held:Bool}{fuel:Nat}{T e:TypeId}{n k:Nat}{cs:List Value}{y:DataW H×List MemPlace}(f:α->List Value)(df:α->DataW H)(hf:∀ a,(f a).length =k)(hk0:0<k)
 (ht:P.underlying T=some (.array n e))(hk:P.cellsOf e=k)(hT:P.cellsOf T=n*k)
 (each:∀ fuel cs x,cs.length=k->DataW.trod enc P W 0 sp held fuel e cs=some x-> ∃ a:α,cs=f a/\x.1=df a)
 (h:DataW.trod enc P W 0 sp held fuel T cs=some y):∃ xs:List α,xs.length=n/\cs=(xs.map f).flatten /\y.1= .agg (xs.map df):=by
 obtain⟨zs,m,_,hx,hlen,hxl,hi⟩:=DataW.trod_array ht h;rw [hT]at hlen;have ex:∀ i,∃ z:α,i<n->(cs.drop (i*k)).take k=f z/\(zs[i]?).map (·.1)=some (df z):=λi=>by
  by_cases hil:i<n
  ·have h1:=hi i hil;rw [hk]at h1;have hzi:i<zs.length:=by omega
   rw [Tc hzi]at h1;have hle:(i+1)*k<=n*k:=UX k hil;rw [Uk]at hle;obtain⟨z,h2,h3⟩:=each _ _ _ (by simp;omega) h1;exact⟨z,λ_=>⟨h2,by rw [Tc hzi];simp [h3]⟩⟩
  ·exact⟨default,λh=>absurd h hil⟩
 obtain⟨z,hz⟩:=Classical.axiomOfChoice ex;refine⟨(List.range n).map z,by simp,?_,?_⟩
 ·have hfl:(((List.range n).map z).map f).flatten.length =n*k:=by
   rw [fm (By hf),TV,TV,List.length_range]
  refine Un λj=>?_
  by_cases hj:j<n*k
  ·have hiq:j/k<n:=(Nat.div_lt_iff_lt_mul hk0).2 hj;have hjk:j%k<k:=Nat.mod_lt _ hk0;have e:j=j/k*k+j%k:=by have:=Nat.div_add_mod j k;rw [Nat.mul_comm]at this;omega
   have hel:(((List.range n).map z).map f)[j/k]? =some (f (z (j/k))):=by simp [hiq]
   have h1:=flat_get (By hf) hel hjk;rw [<- e]at h1;rw [h1, <- (hz (j/k) hiq).1,Ue hjk,TS, <- e]
  ·rw [TE (by omega),TE (by omega)]
 ·rw [hx];simp only
  congr 1
  refine Un λi=>?_
  by_cases hin:i<n
  ·rw [Tm,(hz i hin).2];simp [hin]
  ·rw [TE (by simp;omega),TE (by simp;omega)]
theorem Hr{P:Program}{gs:List (Nat×List AV)}{f:FuncId}{args:List AV}(h:gk P gs f args (λq=>q= .v (.bool true))){vs:List Value}{W:World}(hl:vs.length=args.length)(hg:nX (λ_=>False) W gs)(hR:∀ (i:Nat) (a:AV) (x:Value),args[i]? =some a->vs[i]? =some x->R0 (λ_=>False) W a x):
 Calls P f vs.toArray W λe W'=>e= .returned (.bool true)/\Ext W W':=
 (h (λ_=>False) W vs hl hR hg).mono λe W' ⟨r,v,h1,h2,h3,h4⟩=>by
  subst h2;cases h3;exact⟨h1,h4⟩
theorem Fz{W:World}{nm:String}{g:Nat}{cs:Array Value}(hg:Tryz.prog.globalNamed nm=some g)(hv:W.var? Tryz.prog nm=some cs)(h0:0<cs.size){xs:List Value}(hx:cs.toList=xs):R0 (λ_=>False) W (.ref (xs.map AV.v)) (.pointer (some ⟨g,0,none⟩))/\mb W g (xs.map AV.v).length :=by
 refine⟨?_,by
  unfold World.var? at hv;rw [hg]at hv;simp only [Option.bind_some]at hv
  split at hv
  ·rename_i c2 t2 f2 h2
   simp only [Option.some.injEq]at hv;subst hv hx;exact⟨_,_,_,h2,by simp⟩
  ·cases hv⟩
 have hc:∀ j,W.cell? ⟨g,j,none⟩=cs[j]? :=λj=>World.var?_cell hg hv j
 have hb:g<W.heap.size:=by
  have h1:=hc 0;rw [Up h0]at h1;exact World.block_lt_of_cell? W _ h1
 subst hx;refine .ref _ g 0 (λi=>cs.getD i undef) hb (λh=>h) (λi a ha=>?_) λi a ha=>?_
 ·have hi:i<cs.size:=by have:=(S9.1 ha).1;simpa using this
  rw [Tv,hc i,Up hi];simp [hi]
 ·have hi:i<cs.size:=by have:=(S9.1 ha).1;simpa using this
  rw [Tm]at ha;simp [hi]at ha;subst ha;simp [hi];exact .v _
end Go.Proofs.YtbmlgmblfboigaaGreatDoor
namespace Go.Proofs.YtbmlgmblfboigaaGreatDoor
open Go Go.Lib
theorem vE:∀ (l:List UInt8) (acc:Nat) (b:UInt8),decFrom acc (l++ [b])=(decFrom acc l).bind λn=>(digitVal b).map λd=>n*10+d
 | [],acc,b=>by simp only [UO,decFrom];cases digitVal b<;>rfl
 | a::t,acc,b=>by
  simp only [UK,decFrom];cases digitVal a with
  | none=>rfl
  | some d=>exact vE t _ b
theorem zT{d:Nat}(h:d<10):digitVal (UInt8.ofNat (48+d))=some d:=by
 have e:(UInt8.ofNat (48+d)).toNat =48+d:=by rw [UInt8.toNat_ofNat'];omega
 unfold digitVal;rw [e,if_pos (by omega)];congr 1;omega
theorem kU{u:Nat}(h:u<10):decDigits u= [UInt8.ofNat (48+u)]:=by rw [decDigits,dif_pos h]
theorem o6{u:Nat}(h:¬ u<10):decDigits u=decDigits (u/10)++ [UInt8.ofNat (48+u%10)]:=by rw [decDigits,dif_neg h]
theorem vJ(u:Nat):decFrom 0 (decDigits u)=some u:=by
 induction u using Nat.strongRecOn with
 | _ u ih=>
  by_cases h:u<10
  ·rw [kU h];simp only [decFrom,zT h];congr 1;omega
  ·rw [o6 h,vE,ih (u/10) (by omega),zT (by omega)];simp only [Option.bind_some,Option.map_some];congr 1;omega
theorem yC(u:Nat):decDigits u≠ []:=by
 by_cases h:u<10
 ·rw [kU h];simp
 ·rw [o6 h];simp
theorem BJ(u:Nat)(h:1<=u):∀ b:UInt8,(decDigits u)[0]? =some b->b.toNat≠48:=by
 induction u using Nat.strongRecOn with
 | _ u ih=>
  intro b hb
  by_cases h1:u<10
  ·rw [kU h1]at hb;simp only [TI,Option.some.injEq]at hb;rw [<- hb,UInt8.toNat_ofNat'];omega
  ·rw [o6 h1,Tt (TT.2 (yC _))]at hb;exact ih (u/10) (by omega) (by omega) b hb
theorem FA:∀ (k:Nat) (r:List UInt8) (n:Nat),r.length=k->decFrom 0 r=some n->r≠ []->(r.length=1\/ ∀ b:UInt8,r[0]? =some b->b.toNat≠48)->decDigits n=r
 | 0,r,n,hk,_,hr,_=>absurd (UP.1 hk) hr
 | k+1,r,n,hk,hn,hr,hc=>by
  have hsp:r=r.dropLast++ [r.getLast hr]:=(List.dropLast_concat_getLast hr).symm;have hm:r.dropLast.length=k:=by rw [List.length_dropLast];omega
  generalize hb:r.getLast hr=b at hsp;generalize hmm:r.dropLast=m at hsp hm;clear hb hmm;subst hsp;rw [vE]at hn;cases hm0:decFrom 0 m with
  | none=>rw [hm0]at hn;cases hn
  | some q=>
   rw [hm0]at hn;cases hd:digitVal b with
   | none=>rw [hd]at hn;cases hn
   | some d=>
    rw [hd]at hn;simp only [Option.bind_some,Option.map_some,Option.some.injEq]at hn;obtain⟨b1,b2,b3⟩:=digitVal_eq hd;have hbe:UInt8.ofNat (48+d)=b:=by
     apply UInt8.toNat_inj.1;rw [UInt8.toNat_ofNat'];omega
    by_cases h0:m= []
    ·subst h0;have hq:q=0:=by simpa [decFrom]using hm0.symm
     subst hq;rw [<- hn,kU (by omega),show 48+(0*10+d)=48+d by omega,hbe];rfl
    ·have hl:1<=m.length:=TT.2 h0;have hc':∀ c:UInt8,m[0]? =some c->c.toNat≠48:=λc hcc=>by
      rcases hc with hc|hc
      ·rw [TM]at hc;simp at hc;exact absurd hc h0
      ·exact hc c (by rw [Tt (by omega)];exact hcc)
     have ih:=FA k m q hm hm0 h0 (.inr hc');have hq1:1<=q:=by
      rcases Us q with h1|h1
      ·subst h1;rw [kU (by decide)]at ih;exact absurd rfl (hc' 48 (by rw [<- ih];rfl))
      ·exact h1
     rw [<- hn,o6 (by omega),show(q*10+d)/10=q by omega,show(q*10+d)%10=d by omega,ih,hbe]
def gJ(l:List UInt8):Int:=match atoiAll l with
 | .ok v=>v
 | .range =>atoiSat l
 | _=>0
def gK(l:List UInt8)(D:Nat):Bool:=match atoiAll l with
 | .ok v=>decide (itoa v=l)&&decide ((trimPrefix l [45]).length <=D)
 | _=>false
def cS(l:List UInt8):Nat:=if l[0]? =some 45 then 1 else 0
theorem Ph{l:List UInt8}:cS l<=l.length:=by
 unfold cS
 split
 ·rename_i h;exact(S9.1 h).1
 ·omega
theorem wM(l:List UInt8):(trimPrefix l [45]).length =l.length - cS l:=by
 unfold trimPrefix hasPrefix cS;cases l with
 | nil=>rfl
 | cons a t=>
  by_cases h:a=45
  ·subst h;simp
  ·simp only [TI,Option.some.injEq,if_neg h];rw [if_neg]
   ·omega
   ·simp;exact λe=>h e.symm
theorem Pj{l:List UInt8}{D n:Nat}(hD:D<=17)(h1:l.drop (cS l)≠ [])(h2:l.length - cS l<=D)(h3:¬ (l[cS l]? =some 48/\1<l.length))(hn:decFrom 0 (l.drop (cS l))=some n):
 gK l D=true/\gJ l=if cS l=1 then -(n:Int)else n:=by
 have hla:=Ph (l:=l);have hna:cS l<=1:=by unfold cS;split<;>omega
 have hg:∀ b:UInt8,(l.drop (cS l))[0]? =some b->l[cS l]? =some b:=λb hb=>by rw [TS]at hb;simpa using hb
 have hlen:(l.drop (cS l)).length =l.length - cS l:=T9;have hcan:(l.drop (cS l)).length =1\/ ∀ b:UInt8,(l.drop (cS l))[0]? =some b->b.toNat≠48:=by
  by_cases hl1:1<l.length
  ·refine .inr λb hb e=>h3 ⟨?_,hl1⟩
   rw [hg b hb];congr 1;exact UInt8.toNat_inj.1 e
  ·have:=TT.2 h1
   left;omega
 have hdd:=FA _ _ n rfl hn h1 hcan;have hds:decNat (l.drop (cS l))=some n:=by unfold decNat;rw [if_neg (by simpa using h1)];exact hn
 have hnn:∀ b:UInt8,(l.drop (cS l))[0]? =some b->b≠45/\b≠43:=λb hb=>by
  obtain⟨d,hd⟩:=digit_of_decFrom _ _ _ hn 0 b hb;obtain⟨q1,q2,_⟩:=digitVal_eq hd
  constructor
  ·rintro rfl;exact absurd q1 (by decide)
  ·rintro rfl;exact absurd q1 (by decide)
 by_cases ha:l[0]? =some 45
 ·have e1:cS l=1:=by unfold cS;rw [if_pos ha]
  rw [e1]at h1 h2 h3 hn hdd hds hlen hg hcan ⊢;obtain⟨r,rfl⟩:∃ r,l=45::r:=by
   cases l with
   | nil=>cases ha
   | cons a t=>simp at ha;exact⟨t,by rw [ha]⟩
  simp only [List.drop_succ_cons,UZ]at*;have hn1:1<=n:=by
   rcases Us n with hz|hz
   ·subst hz;rw [kU (by decide)]at hdd;exact absurd ⟨by rw [<- hdd];rfl,by rw [<- hdd];decide⟩ h3
   ·exact hz
  have ht:atoiAll (45::r)= .ok (-(n:Int)):=by
   rw [atoiAll_short _ (by simp at h2 ⊢;omega)];simp only [atoi];rw [if_pos (by decide),hds];rfl
  have hi:itoa (-(n:Int))=45::r:=by
   unfold itoa;rw [if_pos (by omega),show(-(n:Int)).natAbs =n by omega,hdd]
  have hk:=wM (45::r);rw [e1]at hk;unfold gK gJ;rw [ht];simp only [hi,hk];exact⟨by simp at h2 ⊢;omega,rfl⟩
 ·have e1:cS l=0:=by unfold cS;rw [if_neg ha]
  rw [e1]at h1 h2 h3 hn hdd hds hlen hg hcan hnn ⊢;simp only [UZ]at*;obtain⟨a,r,rfl⟩:∃ a r,l=a::r:=by
   cases l with
   | nil=>exact absurd rfl h1
   | cons a t=>exact⟨a,t,rfl⟩
  have hn2:=hnn a rfl;have ht:atoiAll (a::r)= .ok (n:Int):=by
   rw [atoiAll_short _ (by omega)];simp only [atoi];rw [if_neg (by simpa using hn2.1),if_neg (by simpa using hn2.2),hds];rfl
  have hi:itoa (n:Int)=a::r:=by
   unfold itoa;rw [if_neg (by omega),show((n:Int)).toNat =n by omega,hdd]
  have hk:=wM (a::r);rw [e1]at hk;unfold gK gJ;rw [ht];simp only [hi,hk];exact⟨by simp at h2 ⊢;omega,rfl⟩
theorem Ew(v:Int):(itoa v).drop (cS (itoa v))=decDigits v.natAbs/\((itoa v)[cS (itoa v)]? =some 48->(itoa v).length =1)/\(cS (itoa v)=1↔v<0):=by
 have hc:∀ (u:Nat) (b:UInt8),(decDigits u)[0]? =some b->48<=b.toNat:=λu b hb=>by
  obtain⟨d,hd⟩:=digit_of_decFrom _ _ _ (vJ u) 0 b hb;exact(digitVal_eq hd).1
 by_cases h:v<0
 ·have e:itoa v=45::decDigits v.natAbs:=by unfold itoa;rw [if_pos h]
  have ea:cS (itoa v)=1:=by rw [e];rfl
  rw [ea,e];refine⟨rfl,λhq=>?_,by simp [h]⟩;have:=BJ v.natAbs (by omega) 48 (by simpa using hq);exact absurd rfl this
 ·have e:itoa v=decDigits v.natAbs:=by unfold itoa;rw [if_neg h];congr 1;omega
  have ea:cS (itoa v)=0:=by
   unfold cS;rw [if_neg,];rw [e];intro hq;have:=hc _ _ hq;exact absurd this (by decide)
  rw [ea,e];refine⟨rfl,λhq=>?_,by simp [h]⟩
  by_cases h0:v.natAbs<10
  ·rw [kU h0];rfl
  ·exact absurd rfl (BJ v.natAbs (by omega) 48 hq)
theorem FB{l:List UInt8}{D:Nat}(h:gK l D=true):l.drop (cS l)≠ []/\l.length - cS l<=D/\ ¬ (l[cS l]? =some 48/\1<l.length)/\(∀ (k:Nat) (b:UInt8),cS l<=k->l[k]? =some b->48<=b.toNat/\b.toNat<=57)/\itoa (gJ l)=l:=by
 unfold gK at h;unfold gJ;rcases hq:atoiAll l with v|_|_
 rotate_left
 ·rw [hq]at h;cases h
 ·rw [hq]at h;cases h
 ·
  rw [hq]at h;simp only [Ti,decide_eq_true_eq]at h;obtain⟨h1,h2⟩:=h;obtain⟨i1,i2,i3⟩:=Ew v;rw [wM]at h2;rw [h1]at i1 i2;refine⟨by rw [i1];exact yC _,h2,λhh=>by have:=i2 hh.1;omega,λk b hk hb=>?_,h1⟩;have hb':(l.drop (cS l))[k - cS l]? =some b:=by rw [TS,show cS l+(k - cS l)=k by omega];exact hb
  rw [i1]at hb';obtain⟨d,hd⟩:=digit_of_decFrom _ _ _ (vJ v.natAbs) _ b hb';obtain⟨q1,q2,_⟩:=digitVal_eq hd;exact⟨q1,q2⟩
theorem LM{v:Int}{D:Nat}(hD:D<=17)(h:(decDigits v.natAbs).length <=D):gK (itoa v) D=true/\gJ (itoa v)=v:=by
 obtain⟨i1,i2,i3⟩:=Ew v;have hl:(itoa v).length - cS (itoa v)=(decDigits v.natAbs).length :=by rw [<- i1,T9]
 have:=Pj (l:=itoa v) (D:=D) (n:=v.natAbs) hD (by rw [i1];exact yC _) (by omega) (λhh=>by have:=i2 hh.1;omega) (by rw [i1];exact vJ _);refine⟨this.1,this.2.trans ?_⟩
 split
 ·have:=i3.1 ‹_›;omega
 ·have:¬ v<0:=λhv=> ‹¬ _› (i3.2 hv)
  omega
theorem Ad:∀ (D u:Nat),1<=D->u<10^D->(decDigits u).length <=D
 | 0,u,h,_=>absurd h (by decide)
 | D+1,u,_,h=>by
  by_cases h0:u<10
  ·rw [kU h0];simp
  ·rw [o6 h0,TM];have hD:1<=D:=by
    rcases Us D with hz|hz
    ·subst hz;simp at h;omega
    ·exact hz
   have:=Ad D (u/10) hD (by rw [Nat.pow_succ]at h;omega);simp;omega
end Go.Proofs.YtbmlgmblfboigaaGreatDoor
namespace Go.Proofs.YtbmlgmblfboigaaGreatDoor
open Go Go.RowKit Go.Proofs Go.Shelf Go.Lib
def HM:Go.Shelf.Ren:=⟨λ|171=>78|243=>100|246=>120|283=>135|284=>136|285=>137|286=>138|129=>123|317=>144|318=>145|319=>146|320=>147|337=>150|338=>151|n=>n,λ|3=>3|9=>9|2=>2|4=>4|171=>190|0=>0|53=>159|37=>107|5=>5|173=>192|212=>201|51=>202|20=>20|213=>203|46=>172|232=>210|233=>211|n=>n,λ|17=>5|18=>6|19=>7|n=>n⟩
theorem Pm:Go.Proofs.LaysM.n171 Tryz.prog HM:= {
 mixed:=by kernel_rfl
 f129:=Tryz.func123.trans (congrArg some (by kernel_rfl))
 f171:=Tryz.func78.trans (congrArg some (by kernel_rfl))
 f243:=Tryz.func100.trans (congrArg some (by kernel_rfl))
 f246:=Tryz.func120.trans (congrArg some (by kernel_rfl))
 f283:=Tryz.func135.trans (congrArg some (by kernel_rfl))
 f284:=Tryz.func136.trans (congrArg some (by kernel_rfl))
 f285:=Tryz.func137.trans (congrArg some (by kernel_rfl))
 f286:=Tryz.func138.trans (congrArg some (by kernel_rfl))
 f317:=Tryz.func144.trans (congrArg some (by kernel_rfl))
 f318:=Tryz.func145.trans (congrArg some (by kernel_rfl))
 f319:=Tryz.func146.trans (congrArg some (by kernel_rfl))
 f320:=Tryz.func147.trans (congrArg some (by kernel_rfl))
 f337:=Tryz.func150.trans (congrArg some (by kernel_rfl))
 f338:=Tryz.func151.trans (congrArg some (by kernel_rfl))
 t0:=Tryz.underlying0
 a0:=Tryz.isAgg0
 z0:=Tryz.sizeOf0
 v0:=Tryz.zeroValue0
 t2:=Tryz.underlying2
 a2:=Tryz.isAgg2
 z2:=Tryz.sizeOf2
 v2:=Tryz.zeroValue2
 t3:=Tryz.underlying3
 a3:=Tryz.isAgg3
 z3:=Tryz.sizeOf3
 v3:=Tryz.zeroValue3
 t4:=Tryz.underlying4
 a4:=Tryz.isAgg4
 z4:=Tryz.sizeOf4
 v4:=Tryz.zeroValue4
 t5:=Tryz.underlying5
 a5:=Tryz.isAgg5
 z5:=Tryz.sizeOf5
 v5:=Tryz.zeroValue5
 t9:=Tryz.underlying9
 a9:=Tryz.isAgg9
 z9:=Tryz.sizeOf9
 v9:=Tryz.zeroValue9
 t20:=Tryz.underlying20
 a20:=Tryz.isAgg20
 z20:=Tryz.sizeOf20
 v20:=Tryz.zeroValue20
 t37:=Tryz.underlying107
 a37:=Tryz.isAgg107
 z37:=Tryz.sizeOf107
 v37:=Tryz.zeroValue107
 t46:=Tryz.underlying172
 a46:=Tryz.isAgg172
 z46:=Tryz.sizeOf172
 v46:=Tryz.zeroValue172
 t51:=Tryz.underlying202
 a51:=Tryz.isAgg202
 z51:=Tryz.sizeOf202
 v51:=Tryz.zeroValue202
 t53:=Tryz.underlying159
 a53:=Tryz.isAgg159
 z53:=Tryz.sizeOf159
 v53:=Tryz.zeroValue159
 t171:=Tryz.underlying190
 a171:=Tryz.isAgg190
 z171:=Tryz.sizeOf190
 v171:=Tryz.zeroValue190
 t173:=Tryz.underlying192
 a173:=Tryz.isAgg192
 z173:=Tryz.sizeOf192
 v173:=Tryz.zeroValue192
 t212:=Tryz.underlying201
 a212:=Tryz.isAgg201
 z212:=Tryz.sizeOf201
 v212:=Tryz.zeroValue201
 t213:=Tryz.underlying203
 a213:=Tryz.isAgg203
 z213:=Tryz.sizeOf203
 t232:=Tryz.underlying210
 a232:=Tryz.isAgg210
 z232:=Tryz.sizeOf210
 v232:=Tryz.zeroValue210
 t233:=Tryz.underlying211
 a233:=Tryz.isAgg211
 z233:=Tryz.sizeOf211
 v233:=Tryz.zeroValue211
 g17:=by kernel_rfl
 g18:=by kernel_rfl
 g19:=by kernel_rfl
 i0:=by kernel_rfl
 i2:=by kernel_rfl
 i3:=by kernel_rfl
 i4:=by kernel_rfl
 i5:=by kernel_rfl
 i9:=by kernel_rfl
 i20:=by kernel_rfl
 i37:=by kernel_rfl
 i46:=by kernel_rfl
 i51:=by kernel_rfl
 i53:=by kernel_rfl
 i171:=by kernel_rfl
 i173:=by kernel_rfl
 i212:=by kernel_rfl
 i232:=by kernel_rfl
 i233:=by kernel_rfl
 m17:=by kernel_rfl
 m18:=by kernel_rfl
 m19:=by kernel_rfl}
def zU:Go.Shelf.Ren:=⟨λ|172=>95|244=>106|245=>107|247=>124|279=>125|280=>126|281=>127|282=>128|287=>139|316=>140|171=>78|205=>141|321=>148|322=>149|243=>100|246=>120|283=>135|284=>136|285=>137|286=>138|129=>123|317=>144|318=>145|319=>146|320=>147|337=>150|338=>151|n=>n,λ|9=>9|3=>3|75=>147|76=>148|4=>4|5=>5|167=>181|37=>107|0=>0|85=>182|2=>2|168=>184|53=>159|175=>194|46=>172|210=>197|127=>152|145=>208|143=>206|21=>21|171=>190|173=>192|212=>201|51=>202|20=>20|213=>203|232=>210|233=>211|80=>111|n=>n,λ|15=>3|16=>4|17=>5|18=>6|19=>7|n=>n⟩
theorem xB:Go.Proofs.LaysC.n172 Tryz.prog zU:= {
 mixed:=by kernel_rfl
 f129:=Tryz.func123.trans (congrArg some (by kernel_rfl))
 f171:=Tryz.func78.trans (congrArg some (by kernel_rfl))
 f172:=Tryz.func95.trans (congrArg some (by kernel_rfl))
 f205:=Tryz.func141.trans (congrArg some (by kernel_rfl))
 f243:=Tryz.func100.trans (congrArg some (by kernel_rfl))
 f244:=Tryz.func106.trans (congrArg some (by kernel_rfl))
 f245:=Tryz.func107.trans (congrArg some (by kernel_rfl))
 f246:=Tryz.func120.trans (congrArg some (by kernel_rfl))
 f247:=Tryz.func124.trans (congrArg some (by kernel_rfl))
 f279:=Tryz.func125.trans (congrArg some (by kernel_rfl))
 f280:=Tryz.func126.trans (congrArg some (by kernel_rfl))
 f281:=Tryz.func127.trans (congrArg some (by kernel_rfl))
 f282:=Tryz.func128.trans (congrArg some (by kernel_rfl))
 f283:=Tryz.func135.trans (congrArg some (by kernel_rfl))
 f284:=Tryz.func136.trans (congrArg some (by kernel_rfl))
 f285:=Tryz.func137.trans (congrArg some (by kernel_rfl))
 f286:=Tryz.func138.trans (congrArg some (by kernel_rfl))
 f287:=Tryz.func139.trans (congrArg some (by kernel_rfl))
 f316:=Tryz.func140.trans (congrArg some (by kernel_rfl))
 f317:=Tryz.func144.trans (congrArg some (by kernel_rfl))
 f318:=Tryz.func145.trans (congrArg some (by kernel_rfl))
 f319:=Tryz.func146.trans (congrArg some (by kernel_rfl))
 f320:=Tryz.func147.trans (congrArg some (by kernel_rfl))
 f321:=Tryz.func148.trans (congrArg some (by kernel_rfl))
 f322:=Tryz.func149.trans (congrArg some (by kernel_rfl))
 f337:=Tryz.func150.trans (congrArg some (by kernel_rfl))
 f338:=Tryz.func151.trans (congrArg some (by kernel_rfl))
 t0:=Tryz.underlying0
 a0:=Tryz.isAgg0
 z0:=Tryz.sizeOf0
 v0:=Tryz.zeroValue0
 t2:=Tryz.underlying2
 a2:=Tryz.isAgg2
 z2:=Tryz.sizeOf2
 v2:=Tryz.zeroValue2
 t3:=Tryz.underlying3
 a3:=Tryz.isAgg3
 z3:=Tryz.sizeOf3
 v3:=Tryz.zeroValue3
 t4:=Tryz.underlying4
 a4:=Tryz.isAgg4
 z4:=Tryz.sizeOf4
 v4:=Tryz.zeroValue4
 t5:=Tryz.underlying5
 a5:=Tryz.isAgg5
 z5:=Tryz.sizeOf5
 v5:=Tryz.zeroValue5
 t9:=Tryz.underlying9
 a9:=Tryz.isAgg9
 z9:=Tryz.sizeOf9
 v9:=Tryz.zeroValue9
 t20:=Tryz.underlying20
 a20:=Tryz.isAgg20
 z20:=Tryz.sizeOf20
 v20:=Tryz.zeroValue20
 t21:=Tryz.underlying21
 a21:=Tryz.isAgg21
 z21:=Tryz.sizeOf21
 v21:=Tryz.zeroValue21
 t37:=Tryz.underlying107
 a37:=Tryz.isAgg107
 z37:=Tryz.sizeOf107
 v37:=Tryz.zeroValue107
 t46:=Tryz.underlying172
 a46:=Tryz.isAgg172
 z46:=Tryz.sizeOf172
 v46:=Tryz.zeroValue172
 t51:=Tryz.underlying202
 a51:=Tryz.isAgg202
 z51:=Tryz.sizeOf202
 v51:=Tryz.zeroValue202
 t53:=Tryz.underlying159
 a53:=Tryz.isAgg159
 z53:=Tryz.sizeOf159
 v53:=Tryz.zeroValue159
 t75:=Tryz.underlying147
 a75:=Tryz.isAgg147
 z75:=Tryz.sizeOf147
 v75:=Tryz.zeroValue147
 t76:=Tryz.underlying148
 a76:=Tryz.isAgg148
 z76:=Tryz.sizeOf148
 v76:=Tryz.zeroValue148
 t85:=Tryz.underlying182
 a85:=Tryz.isAgg182
 z85:=Tryz.sizeOf182
 v85:=Tryz.zeroValue182
 t127:=Tryz.underlying152
 a127:=Tryz.isAgg152
 z127:=Tryz.sizeOf152
 v127:=Tryz.zeroValue152
 t143:=Tryz.underlying206
 a143:=Tryz.isAgg206
 z143:=Tryz.sizeOf206
 v143:=Tryz.zeroValue206
 t145:=Tryz.underlying208
 a145:=Tryz.isAgg208
 z145:=Tryz.sizeOf208
 v145:=Tryz.zeroValue208
 t167:=Tryz.underlying181
 a167:=Tryz.isAgg181
 z167:=Tryz.sizeOf181
 v167:=Tryz.zeroValue181
 t168:=Tryz.underlying184
 a168:=Tryz.isAgg184
 z168:=Tryz.sizeOf184
 v168:=Tryz.zeroValue184
 t171:=Tryz.underlying190
 a171:=Tryz.isAgg190
 z171:=Tryz.sizeOf190
 v171:=Tryz.zeroValue190
 t173:=Tryz.underlying192
 a173:=Tryz.isAgg192
 z173:=Tryz.sizeOf192
 v173:=Tryz.zeroValue192
 t175:=Tryz.underlying194
 a175:=Tryz.isAgg194
 z175:=Tryz.sizeOf194
 v175:=Tryz.zeroValue194
 t210:=Tryz.underlying197
 a210:=Tryz.isAgg197
 z210:=Tryz.sizeOf197
 v210:=Tryz.zeroValue197
 t212:=Tryz.underlying201
 a212:=Tryz.isAgg201
 z212:=Tryz.sizeOf201
 v212:=Tryz.zeroValue201
 t213:=Tryz.underlying203
 a213:=Tryz.isAgg203
 z213:=Tryz.sizeOf203
 t232:=Tryz.underlying210
 a232:=Tryz.isAgg210
 z232:=Tryz.sizeOf210
 v232:=Tryz.zeroValue210
 t233:=Tryz.underlying211
 a233:=Tryz.isAgg211
 z233:=Tryz.sizeOf211
 v233:=Tryz.zeroValue211
 g15:=by kernel_rfl
 g16:=by kernel_rfl
 g17:=by kernel_rfl
 g18:=by kernel_rfl
 g19:=by kernel_rfl
 t80:=Tryz.underlying111
 a80:=Tryz.isAgg111
 z80:=Tryz.sizeOf111
 v80:=Tryz.zeroValue111
 i0:=by kernel_rfl
 i2:=by kernel_rfl
 i3:=by kernel_rfl
 i4:=by kernel_rfl
 i5:=by kernel_rfl
 i9:=by kernel_rfl
 i20:=by kernel_rfl
 i21:=by kernel_rfl
 i37:=by kernel_rfl
 i46:=by kernel_rfl
 i51:=by kernel_rfl
 i53:=by kernel_rfl
 i75:=by kernel_rfl
 i76:=by kernel_rfl
 i80:=by kernel_rfl
 i85:=by kernel_rfl
 i127:=by kernel_rfl
 i143:=by kernel_rfl
 i145:=by kernel_rfl
 i167:=by kernel_rfl
 i168:=by kernel_rfl
 i171:=by kernel_rfl
 i173:=by kernel_rfl
 i175:=by kernel_rfl
 i210:=by kernel_rfl
 i212:=by kernel_rfl
 i232:=by kernel_rfl
 i233:=by kernel_rfl
 m15:=by kernel_rfl
 m16:=by kernel_rfl
 m17:=by kernel_rfl
 m18:=by kernel_rfl
 m19:=by kernel_rfl
 c0:=by kernel_rfl
 c2:=by kernel_rfl
 c3:=by kernel_rfl
 c4:=by kernel_rfl
 c5:=by kernel_rfl
 c9:=by kernel_rfl
 c20:=by kernel_rfl
 c21:=by kernel_rfl
 c37:=by kernel_rfl
 c46:=by kernel_rfl
 c51:=by kernel_rfl
 c53:=by kernel_rfl
 c75:=by kernel_rfl
 c76:=by kernel_rfl
 c80:=by kernel_rfl
 c85:=by kernel_rfl
 c127:=by kernel_rfl
 c143:=by kernel_rfl
 c145:=by kernel_rfl
 c167:=by kernel_rfl
 c168:=by kernel_rfl
 c171:=by kernel_rfl
 c173:=by kernel_rfl
 c175:=by kernel_rfl
 c210:=by kernel_rfl
 c212:=by kernel_rfl
 c213:=by kernel_rfl
 c232:=by kernel_rfl
 c233:=by kernel_rfl}
def It:Go.Shelf.Ren:=⟨λ|217=>91|266=>105|n=>n,λ|9=>9|5=>5|3=>3|n=>n,λ|n=>n⟩
theorem QP:Go.Proofs.Lays.n217 Tryz.prog It:= {
 mixed:=by kernel_rfl
 f217:=Tryz.func91.trans (congrArg some (by kernel_rfl))
 f266:=Tryz.func105.trans (congrArg some (by kernel_rfl))
 t3:=Tryz.underlying3
 a3:=Tryz.isAgg3
 z3:=Tryz.sizeOf3
 v3:=Tryz.zeroValue3
 t5:=Tryz.underlying5
 a5:=Tryz.isAgg5
 z5:=Tryz.sizeOf5
 v5:=Tryz.zeroValue5
 t9:=Tryz.underlying9
 a9:=Tryz.isAgg9
 z9:=Tryz.sizeOf9
 v9:=Tryz.zeroValue9}
def Iu:Go.Shelf.Ren:=⟨λ|101=>96|208=>108|206=>129|n=>n,λ|9=>9|4=>4|3=>3|n=>n,λ|n=>n⟩
theorem QQ:Go.Proofs.Lays.n101 Tryz.prog Iu:= {
 mixed:=by kernel_rfl
 f101:=Tryz.func96.trans (congrArg some (by kernel_rfl))
 f206:=Tryz.func129.trans (congrArg some (by kernel_rfl))
 f208:=Tryz.func108.trans (congrArg some (by kernel_rfl))
 t3:=Tryz.underlying3
 a3:=Tryz.isAgg3
 z3:=Tryz.sizeOf3
 v3:=Tryz.zeroValue3
 t4:=Tryz.underlying4
 a4:=Tryz.isAgg4
 z4:=Tryz.sizeOf4
 v4:=Tryz.zeroValue4
 t9:=Tryz.underlying9
 a9:=Tryz.isAgg9
 z9:=Tryz.sizeOf9
 v9:=Tryz.zeroValue9}
theorem Jj{pr:Nat->Prop}{w:World}{b:Nat}{xs:List Value}(h0:R0 pr w (.ref (xs.map AV.v)) (.pointer (some ⟨b,0,none⟩)))(h:mb w b (xs.map AV.v).length):∃ t f,w.heap[b]? =some (.cells xs.toArray t f):=by
 obtain⟨cs,t,f,h1,h2⟩:=h;refine⟨t,f,?_⟩;rw [h1]
 congr 2
 cases h0 with
 | ref _ _ _ g q1 q2 q3 q4=>
  refine Array.ext_getElem? λi=>?_
  by_cases hi:i<xs.length
  ·have c:=q3 i (.v xs[i]) (by simp [hi]);have r:=q4 i (.v xs[i]) (by simp [hi]);generalize g i=v at c r;cases r;rw [Tv,cell_of_row w b i cs t f h1]at c;rw [c];simp [hi]
  ·rw [TV]at h2;rw [Array.getElem?_eq_none (by omega),Array.getElem?_eq_none (by simpa using hi)]
def gX(es er:Value):List (Nat×List AV):= [(5,(pow10Tab.map (Value.int .u64)).map AV.v),(4,[.v er]),(3,[.v es])]
def eS(v:Value):Prop:=v= .nilIface \/ ∃ te pe,v= .iface te pe
theorem QR{pr:Nat->Prop}{w:World}{es er:Value}(h:nX pr w (gX es er)):TabIs Tryz.prog w "internal/strconv.uint64pow10" .u64 pow10Tab:=by
 obtain⟨h0,h1⟩:=h _ (U3 ..);obtain⟨t,f,h2⟩:=Jj h0 h1;unfold TabIs World.var?;rw [show Tryz.prog.globalNamed "internal/strconv.uint64pow10" =some 5 by kernel_rfl];simp only [Option.bind_some];rw [h2]
theorem FC{pr:Nat->Prop}{w:World}{g:Nat}{v:Value}(h:R0 pr w (.ref [.v v]) (.pointer (some ⟨g,0,none⟩))):w.cell? ⟨g,0,none⟩=some v:=by
 cases h with
 | ref _ _ _ f q1 q2 q3 q4=>
  have c:=q3 0 (.v v) rfl;have r:=q4 0 (.v v) rfl;generalize f 0=y at c r;cases r;exact c
theorem yD{pr:Nat->Prop}{w:World}{a:Value}{vs:List Value}(h1:vs.length= [AV.v a].length)(h2:∀ (i:Nat) (b:AV) (x:Value),[AV.v a][i]? =some b->vs[i]? =some x->R0 pr w b x):vs= [a]:=by
 match vs,h1 with
 | [x],_=>
  have:=h2 0 _ x rfl rfl;cases this;rfl
theorem yE{pr:Nat->Prop}{w:World}{a b:Value}{vs:List Value}(h1:vs.length= [AV.v a,.v b].length)(h2:∀ (i:Nat) (c:AV) (x:Value),[AV.v a,.v b][i]? =some c->vs[i]? =some x->R0 pr w c x):vs= [a,b]:=by
 match vs,h1 with
 | [x,y],_=>
  have r1:=h2 0 _ x rfl rfl;have r2:=h2 1 _ y rfl rfl;cases r1;cases r2;rfl
theorem yF{pr:Nat->Prop}{w:World}(a b:Value):R0 pr w (.tuple [.v a,.v b]) (.tuple #[a,b]):=
 .tuple [.v a,.v b] [a,b] rfl λi c x hc hx=>by
  match i,hc,hx with
  | 0,hc,hx=>cases hc;cases hx;exact .v _
  | 1,hc,hx=>cases hc;cases hx;exact .v _
theorem xC(es er:Value)(n:Int)(h:In64 n):gk Tryz.prog (gX es er) 78 [.v (.int .i64 n)] (λq=>q= .v (.string ⟨(itoa n).toArray⟩)):=by
 intro pr w vs h1 h2 hg;rw [yD h1 h2];unfold In64 at h;refine(Any.strconv_Itoa Pm n (by omega) (by omega) w (QR hg)).mono ?_;rintro en w' ⟨rfl,k,os,rfl⟩;exact⟨_,_,rfl,rfl,.v _,below_grow _ w (Tf _) k os⟩
theorem zC(s p:ByteArray):bF Tryz.prog 96 [.v (.string s),.v (.string p)] (λq=>q= .v (.string ⟨(trimPrefix s.data.toList p.data.toList).toArray⟩)):=by
 intro pr w vs h1 h2;rw [yE h1 h2];refine(Any.strings_TrimPrefix QQ s p w).mono ?_;rintro en w' ⟨rfl,rfl⟩;exact⟨_,_,rfl,rfl,.v _,Ext.refl _⟩
theorem Ht(s:ByteArray)(c:Int):bF Tryz.prog 91 [.v (.string s),.v (.int .u8 c)] (λq=>q= .v (.int .i64 (indexByte s.data.toList c.toNat.toUInt8))):=by
 intro pr w vs h1 h2;rw [yE h1 h2];refine(Any.stringslite_IndexByte QP s c w).mono ?_;rintro en w' ⟨rfl,rfl⟩;exact⟨_,_,rfl,rfl,.v _,Ext.refl _⟩
theorem Ax(s:ByteArray)(hs:s.size<=1000000000)(v:Int)(h:atoiAll s.data.toList= .ok v):bF Tryz.prog 95 [.v (.string s)] (λq=>q= .tuple [.v (.int .i64 v),.v .nilIface]):=by
 intro pr w vs h1 h2;rw [yD h1 h2];refine(Any.strconv_Atoi_ok xB s (by omega) v h w).mono ?_;rintro en w' ⟨rfl,hw⟩;refine⟨_,_,rfl,rfl,yF _ _,?_⟩;rcases hw with rfl|⟨t,rfl⟩
 ·exact Ext.refl _
 ·exact Go.Joins.below_bytesWorld _ w _ t (Tf _)
def SB:TypeId:=zU.t 168
theorem LN(es er:Value)(hes:eS es)(her:eS er)(s:ByteArray)(hs:s.size<=1000000000)(h:∀ v,atoiAll s.data.toList≠ .ok v):
 gk Tryz.prog (gX es er) 95 [.v (.string s)] (λq=>∃ N:Nat,q= .tuple [.v (.int .i64 (gJ s.data.toList)),.v (.iface SB (.pointer (some ⟨N,0,none⟩)))]):=by
 intro pr w vs h1 h2 hg;rw [yD h1 h2];have hv1:=FC (hg (3,[.v es]) (by simp [gX])).1;have hv2:=FC (hg (4,[.v er]) (by simp [gX])).1;unfold gJ;rcases hq:atoiAll s.data.toList with v|_|_
 ·exact absurd hq (h v)
 ·refine(Any.strconv_Atoi_syntax xB s (by omega) hq es w hv1 hes).mono ?_;rintro en w' ⟨N,rfl,hN,-,hb⟩;exact⟨_,_,rfl,⟨N,rfl⟩,yF _ _,hb⟩
 ·refine(Any.strconv_Atoi_range xB s (by omega) hq er w hv2 her).mono ?_;rintro en w' ⟨N,rfl,hN,-,hb⟩;exact⟨_,_,rfl,⟨N,rfl⟩,yF _ _,hb⟩
end Go.Proofs.YtbmlgmblfboigaaGreatDoor
namespace Go.Proofs.YtbmlgmblfboigaaGreatDoor
open Go Go.ChangeShapes Go.WideShapes Go.ChangeAt Go.RowKit Go.Joins Go.Deep
end Go.Proofs.YtbmlgmblfboigaaGreatDoor
