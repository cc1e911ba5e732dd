/- Texts of this claim, one behind the other: lemmas for the statement. -/
import Derived.Test.YtfoaiidcfkmneaaGreatDoorM10
import Derived.Test.YtfoaiidcfkmneaaGreatDoorM9
import Derived.Test.YtfoaiidcfkmneaaGreatDoorT0
import Derived.Lib.IndexLaws
import Derived.Test.YtfoaiidcfkmneaaGreatDoorA18
import Derived.Test.YtfoaiidcfkmneaaGreatDoorM4
import Derived.Test.YtfoaiidcfkmneaaGreatDoorA53
import Derived.Test.YtfoaiidcfkmneaaGreatDoorM6
import Derived.Shelf.Strings.OnBuilder
import Derived.Shelf.Strings.FuncGrows
import Derived.Test.YtfoaiidcfkmneaaGreatDoorM7
set_option maxRecDepth 100000
set_option maxHeartbeats 4000000
set_option linter.unusedSimpArgs false
set_option linter.unusedVariables false
namespace Go.Proofs.YtfoaiidcfkmneaaGreatDoor
open Go Go.RowKit Go.Proofs Go.Lib
def bs(l:List UInt8):ByteArray:=⟨l.toArray⟩
theorem sr(l:List UInt8):(bs l).size =l.length:=rfl
theorem gK(l:List UInt8):(bs l).data.toList =l:=rfl
theorem tV(l:List UInt8):(bs l).toList =l:=by
 have:=extract_toList (bs l) 0 (bs l).size;rw [ByteArray.extract_zero_size]at this;rw [this,gK,sr];simp
theorem yG(s:ByteArray):bs s.data.toList=s:=rfl
theorem mZ(l:List UInt8)(a b:Nat):(bs l).extract a b=bs ((l.drop a).take (b - a)):=by
 have h:=extract_data (bs l) a b;rw [gK]at h;rw [<- yG ((bs l).extract a b),h]
theorem Gj(l:List UInt8)(c:UInt8): -1<=indexByte l c/\indexByte l c<l.length:=by
 induction l with
 | nil=>simp [indexByte]
 | cons a l ih=>
  simp only [indexByte,Ta]
  split
  ·omega
  ·split
   ·omega
   ·omega
theorem getD_some{l:List UInt8}{k:Nat}(h:k<l.length):l[k]? =some (l.getD k default):=by
 rw [SQ h,SO,SQ h];rfl
theorem G2{b:UInt8}{n:Nat}(h:b.toNat=n)(hn:n<256):b=UInt8.ofNat n:=by
 apply UInt8.toNat_inj.1;rw [UInt8.toNat_ofNat'];omega
theorem CN(l:List UInt8):bZ l=1↔0<l.length/\(l.getD 0 default).toNat =45:=by
 unfold bZ
 constructor
 ·intro h
  split at h
  ·rename_i hq
   have hl:=(SN.1 hq).1;rw [getD_some hl]at hq;exact⟨hl,by rw [Option.some.inj hq];rfl⟩
  ·cases h
 ·rintro⟨h1,h2⟩;rw [if_pos];rw [getD_some h1,G2 h2 aD];rfl
theorem L6(l:List UInt8):bZ l=0\/bZ l=1:=by unfold bZ;split<;>omega
theorem nN{l:List UInt8}{D:Nat}(h:ga l D=true):bZ l<l.length/\l.length - bZ l<=D/\((l.getD (bZ l) default).toNat =48->l.length<=1)/\ ∀ k:Nat,bZ l<=k->k<l.length->48<=(l.getD k default).toNat /\(l.getD k default).toNat <=57:=by
 obtain⟨h1,h2,h3,h4,_⟩:=QB h;have hlt:bZ l<l.length:=by
  have:=Tt.2 h1;rw [TZ]at this;omega
 refine⟨hlt,h2,λh5=>?_,λk h5 h6=>h4 k _ h5 (getD_some h6)⟩
 by_cases h6:l.length<=1
 ·exact h6
 ·exact absurd ⟨by rw [getD_some hlt,G2 h5 aD];rfl,ah⟩ h3
def pR(l:List UInt8)(i n:Int):Prop:=0<=n/\decFrom 0 ((l.drop (bZ l)).take (i - bZ l).toNat)=some n.toNat
theorem A9(l:List UInt8){i:Int}(hi:i=bZ l):pR l i 0:=by
 refine⟨ah,?_⟩;rw [show(i - bZ l).toNat =0 by omega];rfl
theorem Bv{l:List UInt8}{i n:Int}(h:pR l i n)(h0:(bZ l:Int)<=i)(h1:i<l.length)(h2:48<=(l.getD i.toNat default).toNat /\(l.getD i.toNat default).toNat <=57){m:Int}(hm:m=10*n+((l.getD i.toNat default).toNat - 48)):pR l (i+1) m:=by
 obtain⟨p1,p2⟩:=h;refine⟨ah,?_⟩;have hb:(l.drop (bZ l))[(i - bZ l).toNat]? =some (l.getD i.toNat default):=by
  rw [Tj,show bZ l+(i - bZ l).toNat =i.toNat by omega,getD_some ah]
 have hd:digitVal (l.getD i.toNat default)=some ((l.getD i.toNat default).toNat - 48):=by
  unfold digitVal;rw [if_pos h2]
 have:=decFrom_take _ _ _ _ _ _ p2 hb hd;rw [show(i+1 - (bZ l:Int)).toNat =(i - bZ l).toNat +1 by omega,this]
 congr 1;omega
theorem E1{l:List UInt8}{i n:Int}(h:pR l i n)(hl:l.length<=bZ l+17):n<100000000000000000:=by
 obtain⟨p1,p2⟩:=h;have h1:=decFrom_lt _ _ _ p2;have h2:((l.drop (bZ l)).take (i - bZ l).toNat).length <=17:=by
  have:=List.length_take_le (i - bZ l).toNat (l.drop (bZ l));have h3:(l.drop (bZ l)).length =l.length - bZ l:=TZ;have:=List.length_take_le' (i - bZ l).toNat (l.drop (bZ l));omega
 have h4:10^((l.drop (bZ l)).take (i - bZ l).toNat).length <=10^17:=Nat.pow_le_pow_right aD h2;have e:(10:Nat)^17=100000000000000000:=by decide
 omega
theorem nO{l:List UInt8}{D:Nat}{i n:Int}(hD:D<=17)(h1:bZ l<l.length)(h2:l.length - bZ l<=D)(h3:(l.getD (bZ l) default).toNat =48->l.length<=1)(hi:i=l.length)(h:pR l i n):
 ga l D=true/\jf l=if bZ l=1 then -n else n:=by
 obtain⟨p1,p2⟩:=h;have e:(l.drop (bZ l)).take (i - bZ l).toNat =l.drop (bZ l):=T9 pz;rw [e]at p2;have:=O4 hD (λh=>by have:=congrArg List.length h;rw [TZ]at this;simp at this;omega) h2 (λhh=>by
  have:=hh.1;rw [getD_some h1]at this;have:=h3 (by rw [Option.some.inj this];rfl);omega) p2
 refine⟨this.1,this.2.trans ?_⟩
 split<;>omega
def jg(l:List UInt8)(D:Nat):Int:=if ga l D then jf l else 0
theorem nP{l:List UInt8}{D:Nat}(h:¬ ga l D=true):AV.tuple [.v (.int .i64 0),.v (.bool false)]= .tuple [.v (.int .i64 (jg l D)),.v (.bool (ga l D))]:=by
 unfold jg;rw [if_neg h,Bool.eq_false_iff.2 h]
theorem JC(tx:ByteArray)(D:Nat)(hD:D<=17)(hl:tx.data.toList.length<=1000000):bT Tryz.prog 67 [.v (.string tx),.v (.int .i64 D)] (λq=>q= .tuple [.v (.int .i64 (jg tx.data.toList D)),.v (.bool (ga tx.data.toList D))]):=by
 have hsz:tx.size=tx.data.toList.length:=size_eq tx;have ha1:0<tx.data.toList.length->(tx.data.toList.getD (Int.toNat 0) default).toNat =45->bZ tx.data.toList=1:=λh1 h2=>(CN _).2 ⟨h1,h2⟩
 have ha3:bZ tx.data.toList=1->0<tx.data.toList.length/\(tx.data.toList.getD (Int.toNat 0) default).toNat =45:=(CN _).1;have ha2:=L6 tx.data.toList;have hu:∀ k:Nat,(tx.data.toList.getD k default).toNat <256:=λk=>UInt8.toNat_lt _
 refine cA (fn:=Tryz.f67) 70 aj rfl aj bO ?_;intro ci bx hA cj;have cm:al ci (.tmp 0)=_:=hA 0 _ rfl;have co:al ci (.tmp 1)=_:=hA 1 _ rfl;have bz:bx.length=0:=by rw [cj];rfl
 clear hA cj;refine ax<|at_<|ar (aB aw) rfl<|ar (aB aw) rfl<|bD (ag cm) (ag co) ?_;clear cm co;intro fa cq cr
 refine ao<|ax<|at_<|ar (aB aw) rfl<|bB (ae cq) (ae cr) aa ?_;clear cq cr;intro bP aJ aV aX
 refine ao<|ax<|ax<|fZ (λe mem=>(al e (.tmp 16)= .v (.bool (decide (bZ tx.data.toList=1))))/\(al e (.tmp 0)=al bP (.tmp 0))/\(al e (.tmp 1)=al bP (.tmp 1))/\(al e (.tmp 6)=al bP (.tmp 6))/\bx=mem) ?_ ?_
 ·
  refine at_<|ar (ak aJ) rfl<|ar (eE aa rfl cK) rfl<|ar (eF aa aw) rfl<|ar (ak aa) rfl<|bK aa (λaE aZ=>?_) (λaE aZ=>?_)
  ·replace aZ:=bt aZ;refine aF (ak (ai aJ)) ⟨_,rfl,aE⟩ rfl ?_;refine aF (gC aa aw cK aD (by refine gI ?_;first|omega|(simp<;>omega;done)|(refine S4 (m:=256) ?_ hU;omega))) ⟨_,rfl,(ae aE)⟩ rfl ?_;refine aF (dN aa aw) ⟨_,rfl,(ag aE)⟩ rfl ?_;refine ar (bq (ae (ag aE)) aa) rfl<|bu (ay aJ) (ay aV) (ay aX) aa ?_;intro fb dw dy dz dA
   refine ao ⟨(dA).trans (by(refine b7 ?_;simp only [decide_eq_true_eq,SV,true_iff,false_iff];first|omega|(intro hh;have:=ha3 hh;omega)|exact⟨λh=>ha1 ah ah,λh=>by have:=ha3 h;omega⟩)),(dw).trans (aJ).symm,(dy).trans (aV).symm,(dz).trans (aX).symm,rfl⟩
  replace aZ:=bf aZ;refine aC ⟨_,rfl,.inl aE⟩ rfl ?_;refine aC ⟨_,rfl,.inl (ae aE)⟩ rfl ?_;refine aC ⟨_,rfl,.inl (ag aE)⟩ rfl ?_;refine ar (br (ae (ag aE)) aw) rfl<|bu (ay aJ) (ay aV) (ay aX) aa ?_;intro fc dB dC dD dE
  refine ao ⟨(dE).trans (by(refine b7 ?_;simp only [decide_eq_true_eq,SV,true_iff,false_iff];first|omega|(intro hh;have:=ha3 hh;omega)|exact⟨λh=>ha1 ah ah,λh=>by have:=ha3 h;omega⟩)),(dB).trans (aJ).symm,(dC).trans (aV).symm,(dD).trans (aX).symm,rfl⟩
 ·rintro ct _ ⟨cu,dF,dG,dH,rfl⟩;have af:=dF.trans aJ;have bQ:=dG.trans aV;have ap:=dH.trans aX;refine bk cu (λa2=>?_) (λa2=>?_)
  ·replace a2:=bt a2
   (have hA:bZ tx.data.toList=1:=(by assumption);have hg:(tx.data.toList.getD (bZ tx.data.toList) default).toNat =(tx.data.toList.getD (Int.toNat 1) default).toNat :=(by rw [hA];rfl))
   refine at_<|ar (aB aw) rfl<|bB (ae af) (ae bQ) aa ?_;clear af cu bQ ap;intro cv au dK aA
   refine ao<|ax<|ax<|fZ (λe mem=>(al e (.tmp 39)= .v (.bool (decide (tx.data.toList.length=bZ tx.data.toList\/D<tx.data.toList.length - bZ tx.data.toList\/(tx.data.toList.getD (bZ tx.data.toList) default).toNat =48/\1<tx.data.toList.length))))/\(al e (.tmp 0)=al cv (.tmp 0))/\(al e (.tmp 6)=al cv (.tmp 6))/\bx=mem) ?_ ?_
   ·
    refine at_<|ar (ak au) rfl<|ar (eE aa rfl cK) rfl<|ar (ak (ag aA)) rfl<|ar (dN (ae aa) aa) rfl ?_
    refine ar (ak aa) rfl<|bK aa (λam a3=>?_) (λam a3=>?_)
    ·replace a3:=bt a3;refine aC ⟨_,rfl,.inl am⟩ rfl ?_;refine aC ⟨_,rfl,.inl (ae am)⟩ rfl ?_;refine aC ⟨_,rfl,.inl (ag am)⟩ rfl ?_;refine aC ⟨_,rfl,.inl (ae (ag am))⟩ rfl ?_;refine aC ⟨_,rfl,.inl (ai am)⟩ rfl ?_;refine aC ⟨_,rfl,.inl (ae (ai am))⟩ rfl ?_;refine ar (bq (ag (ai am)) aw) rfl<|ar (ak aa) rfl<|aC ⟨_,rfl,.inl aa⟩ rfl ?_
     refine aC ⟨_,rfl,.inl (ae aa)⟩ rfl ?_;refine aC ⟨_,rfl,.inl (ag aa)⟩ rfl ?_;refine aC ⟨_,rfl,.inl (ae (ag aa))⟩ rfl ?_;refine aC ⟨_,rfl,.inl (ai aa)⟩ rfl ?_;refine aC ⟨_,rfl,.inr aa⟩ rfl ?_;refine aC ⟨_,rfl,.inr (ae aa)⟩ rfl ?_;refine aC ⟨_,rfl,.inr (ag aa)⟩ rfl ?_;refine aC ⟨_,rfl,.inl (ay aa)⟩ rfl ?_;refine ar (bq (ae (ay aa)) aw) rfl<|bB (ae (ag (ai (aH au)))) (ae (ag (ai (aH aA)))) aa ?_;intro fd dL dM dO
     refine ao ⟨(dO).trans (by(refine b7 ?_;simp only [decide_eq_true_eq,SV,true_iff,false_iff];omega)),(dL).trans (au).symm,(dM).trans (aA).symm,rfl⟩
    replace a3:=bf a3;refine aF (ak (ae (ai au))) ⟨_,rfl,am⟩ rfl ?_;refine aF (eE aa rfl cK) ⟨_,rfl,(ae am)⟩ rfl ?_;refine aF (ak (ae (ag (ai aA)))) ⟨_,rfl,(ag am)⟩ rfl ?_
    (refine aF (eU (ae aa) aa ?_) ⟨_,rfl,(ae (ag am))⟩ rfl ?_; · (first|((first|unfold In64|unfold cO|unfold jd);omega)|(simp only [TR,size_mk,Ta,TB]<;>omega)|omega))
    refine aF (ak (ae (ay dK))) ⟨_,rfl,(ai am)⟩ rfl ?_;refine aF (eF (ae aa) aa) ⟨_,rfl,(ae (ai am))⟩ rfl ?_;refine ar (br (ag (ai am)) aa) rfl<|ar (ak aa) rfl<|bK aa (λab a5=>?_) (λab a5=>?_)
    ·replace a5:=bt a5;refine aC ⟨_,rfl,.inl ab⟩ rfl ?_;refine aC ⟨_,rfl,.inl (ae ab)⟩ rfl ?_;refine aC ⟨_,rfl,.inl (ag ab)⟩ rfl ?_;refine aC ⟨_,rfl,.inl (ae (ag ab))⟩ rfl ?_;refine aC ⟨_,rfl,.inl (ai ab)⟩ rfl ?_;refine aC ⟨_,rfl,.inr aa⟩ rfl ?_;refine aC ⟨_,rfl,.inr (ae aa)⟩ rfl ?_;refine aC ⟨_,rfl,.inr (ag aa)⟩ rfl ?_;refine aC ⟨_,rfl,.inl (ay ab)⟩ rfl ?_;refine ar (bq (ae (ay ab)) aw) rfl<|bB (ae (ag (ai (aH au)))) (ae (ag (ai (aH aA)))) aa ?_;intro fe dQ dR dS
     refine ao ⟨(dS).trans (by(refine b7 ?_;simp only [decide_eq_true_eq,SV,true_iff,false_iff];omega)),(dQ).trans (au).symm,(dR).trans (aA).symm,rfl⟩
    replace a5:=bf a5;refine aF (ak (ae (ai (ay au)))) ⟨_,rfl,ab⟩ rfl ?_;refine aF (ak (ag (ai (ay aA)))) ⟨_,rfl,(ae ab)⟩ rfl ?_;refine aF (gC (ae aa) aa cK aD (by refine gI ?_;first|omega|(simp<;>omega;done)|(refine S4 (m:=256) ?_ hU;omega))) ⟨_,rfl,(ag ab)⟩ rfl ?_;refine aF (dN aa aw) ⟨_,rfl,(ae (ag ab))⟩ rfl ?_;refine aF (ak aa) ⟨_,rfl,(ai ab)⟩ rfl ?_;refine bK aa (λaG a6=>?_) (λaG a6=>?_)
    ·replace a6:=bt a6;refine aF (ak (ag (aH au))) ⟨_,rfl,aG⟩ rfl ?_;refine aF (eE aa rfl cK) ⟨_,rfl,(ae aG)⟩ rfl ?_;refine aF (eF aa aw) ⟨_,rfl,(ag aG)⟩ rfl ?_;refine aF (bq (ae (ag aG)) aa) ⟨_,rfl,(ay ab)⟩ rfl ?_;refine ar (br (ae (ay ab)) aa) rfl<|bB (ae (ag (ai (aH au)))) (ae (ag (ai (aH aA)))) aa ?_;intro ff dT dU dV
     refine ao ⟨(dV).trans (by(refine b7 ?_;simp only [decide_eq_true_eq,SV,true_iff,false_iff];omega)),(dT).trans (au).symm,(dU).trans (aA).symm,rfl⟩
    replace a6:=bf a6;refine aC ⟨_,rfl,.inl aG⟩ rfl ?_;refine aC ⟨_,rfl,.inl (ae aG)⟩ rfl ?_;refine aC ⟨_,rfl,.inl (ag aG)⟩ rfl ?_;refine aF (br (ae (ag aG)) aw) ⟨_,rfl,(ay ab)⟩ rfl ?_;refine ar (br (ae (ay ab)) aa) rfl<|bB (ae (ag (ai (aH au)))) (ae (ag (ai (aH aA)))) aa ?_;intro fg dW dX dY
    refine ao ⟨(dY).trans (by(refine b7 ?_;simp only [decide_eq_true_eq,SV,true_iff,false_iff];omega)),(dW).trans (au).symm,(dX).trans (aA).symm,rfl⟩
   ·rintro fh _ ⟨bR,dZ,ea,rfl⟩;have bS:=dZ.trans au;have bU:=ea.trans aA;refine bk bR (λa7=>?_) (λa7=>?_)
    ·replace a7:=bt a7;refine ax<|at_<|ar (aB aw) rfl<|ar (aB aw) rfl<|bD (ae aa) aa ?_;clear bS bR bU;intro fi cx cy
     refine ao<|bm<|bw<|dP bp aj (aR cx) (aR cy) (.ro _ rfl) (.ro _ rfl) ?_
     clear cx cy bz
     (first|(refine nP λhk=>?_;obtain⟨n1,n2,n3,n4⟩:=nN hk;first|omega|(have hz:=n4 i.toNat ah ah;omega))|(have he:=nO (l:=tx.data.toList) (D:=D) (i:=i) (n:=n) hD ah ah ah ah p3;unfold jg;rw [he.1,if_pos rfl,he.2];first|(rw [if_pos hA];done)|(rw [if_neg ah];done)))
    replace a7:=bf a7;refine bF<|ao<|ax<|at_<|ar (aB aw) rfl<|bB (ae bS) (ae bU) aa ?_;clear bS bR bU;intro fj cz bV cB
    refine ao<|ax<|ax<|at_<|ar (ak bV) rfl<|ar (aB aa) rfl<|bu (ag cz) (ag bV) (ag cB) aa ?_;clear cz bV cB;intro cC cE cF eb ec
    refine ao<|ca<|eL (S:=(Int×Int)) (λs e mem=>match s with|⟨i,n⟩=>(al e (.tmp 8)= .v (.int .i64 i))/\(al e (.tmp 7)= .v (.int .i64 n))/\(al e (.tmp 0)=al cC (.tmp 0))/\(al e (.tmp 6)=al cC (.tmp 6))/\(mem.length=0)/\((bZ tx.data.toList<=i/\i<=tx.data.toList.length/\pR tx.data.toList i n))) (λs=>match s with|⟨i,n⟩=>(tx.data.toList.length - i).toNat) ⟨_,_⟩ ⟨ec,eb,rfl,rfl,bz,?_⟩ ?_
    ·(exact⟨ah,ah,A9 tx.data.toList ah⟩)
    ·rintro⟨i,n⟩ fk fl ⟨bW,cH,ed,ee,bA,hinv⟩;have bX:=ed.trans cE;have cI:=ee.trans cF
     (obtain⟨p1,p2,p3⟩:=hinv;have hb:=E1 p3 ah;have hn0:=p3.1;have hui:=hu i.toNat)
     refine ax<|ax<|at_<|ar (ak bW) rfl<|ar (ak (ae bX)) rfl<|ar (eE aa rfl cK) rfl<|ar (c6 (ag aa) aa) rfl<|ck (ai bX) (ai cI) (ai cH) (ai bW) aa ?_;clear bX cI cH bW;intro fm aK aO aP aL bE
     refine ao<|bk bE (λa8=>?_) (λa8=>?_)
     ·replace a8:=bt a8;refine bF<|ao<|ax<|ca<|ax<|ax<|at_<|ar (ak aK) rfl<|ar (ak (ae aL)) rfl<|ar (gC (ae aa) aa cK ah (by refine gI ?_;first|omega|(simp<;>omega;done)|(refine S4 (m:=256) ?_ hU;omega))) rfl ?_
      refine ar (c6 aa aw) rfl<|ar (ak aa) rfl<|bK aa (λav a9=>?_) (λav a9=>?_)
      ·replace a9:=bt a9;refine aC ⟨_,rfl,.inl av⟩ rfl ?_;refine aC ⟨_,rfl,.inl (ae av)⟩ rfl ?_;refine aC ⟨_,rfl,.inl (ag av)⟩ rfl ?_;refine aC ⟨_,rfl,.inl (ae (ag av))⟩ rfl ?_;refine ar (bq (ai av) aw) rfl<|ck (ag (ay aK)) (ag (ay aO)) (ag (ay aP)) (ag (ay aL)) aa ?_;clear av aK bE aO aP aL;intro fo ef eg eh en cJ
       refine ao<|lA cJ<|ax<|at_<|ar (aB aw) rfl<|ar (aB aw) rfl<|bD (ae aa) aa ?_;clear ef cJ eg eh en;intro fp cL cM
       refine ao<|bm<|bw<|cD<|bw<|bw<|cD<|bw<|dP bp aj (aR cL) (aR cM) (.ro _ rfl) (.ro _ rfl) ?_
       clear cL cM bA
       (first|(refine nP λhk=>?_;obtain⟨n1,n2,n3,n4⟩:=nN hk;first|omega|(have hz:=n4 i.toNat ah ah;omega))|(have he:=nO (l:=tx.data.toList) (D:=D) (i:=i) (n:=n) hD ah ah ah ah p3;unfold jg;rw [he.1,if_pos rfl,he.2];first|(rw [if_pos hA];done)|(rw [if_neg ah];done)))
      replace a9:=bf a9;refine aF (ak (ae (ai aK))) ⟨_,rfl,av⟩ rfl ?_;refine aF (ak (ag (ai aL))) ⟨_,rfl,(ae av)⟩ rfl ?_;refine aF (gC (ae aa) aa cK ah (by refine gI ?_;first|omega|(simp<;>omega;done)|(refine S4 (m:=256) ?_ hU;omega))) ⟨_,rfl,(ag av)⟩ rfl ?_;refine aF (eF aa aw) ⟨_,rfl,(ae (ag av))⟩ rfl ?_;refine ar (br (ai av) aa) rfl<|ck (ag (ay aK)) (ag (ay aO)) (ag (ay aP)) (ag (ay aL)) aa ?_;clear av aK bE aO aP aL;intro fq bH bY b0 bI b1
      refine ao<|bk b1 (λba=>?_) (λba=>?_)
      ·replace ba:=bt ba;refine ax<|at_<|ar (aB aw) rfl<|ar (aB aw) rfl<|bD (ae aa) aa ?_;clear bH b1 bY b0 bI;intro fs cN cP
       refine ao<|bm<|bw<|cD<|bw<|bw<|cD<|bw<|dP bp aj (aR cN) (aR cP) (.ro _ rfl) (.ro _ rfl) ?_
       clear cN cP bA
       (first|(refine nP λhk=>?_;obtain⟨n1,n2,n3,n4⟩:=nN hk;first|omega|(have hz:=n4 i.toNat ah ah;omega))|(have he:=nO (l:=tx.data.toList) (D:=D) (i:=i) (n:=n) hD ah ah ah ah p3;unfold jg;rw [he.1,if_pos rfl,he.2];first|(rw [if_pos hA];done)|(rw [if_neg ah];done)))
      replace ba:=bf ba;refine bF<|ao<|at_<|ar (ak b0) rfl ?_
      (refine ar (fA aw aa ?_) rfl ?_; · (first|((first|unfold In64|unfold cO|unfold jd);omega)|(simp only [TR,size_mk,Ta,TB]<;>omega)|omega))
      refine ar (ak (ag bH)) rfl<|ar (ak (ae (ag bI))) rfl<|ar (gC (ae aa) aa cK ah (by refine gI ?_;first|omega|(simp<;>omega;done)|(refine S4 (m:=256) ?_ hU;omega))) rfl ?_
      (refine ar (ET aa aw ?_) rfl ?_; · (first|((first|unfold In64|unfold cO|unfold jd);omega)|(simp only [TR,size_mk,Ta,TB]<;>omega)|omega))
      (refine ar (vP aa aj aj ?_) rfl ?_; · (first|((first|unfold In64|unfold cO|unfold jd);omega)|(simp only [TR,size_mk,Ta,TB]<;>omega)|omega))
      (refine ar (cf (ae (ai aa)) aa ?_) rfl ?_; · (first|((first|unfold In64|unfold cO|unfold jd);omega)|(simp only [TR,size_mk,Ta,TB]<;>omega)|omega))
      refine ar (aB aa) rfl<|bu (ae (ay bH)) (ae (ay bY)) aa (ae (ay bI)) ?_;clear bH b1 bY b0 bI;intro ft cQ cR cS cT
      refine cG<|ao<|at_<|ar (ak cT) rfl ?_
      (refine ar (cf aa aw ?_) rfl ?_; · (first|((first|unfold In64|unfold cO|unfold jd);omega)|(simp only [TR,size_mk,Ta,TB]<;>omega)|omega))
      refine ar (aB aa) rfl<|bu (ae (ag cQ)) (ae (ag cR)) (ae (ag cS)) aa ?_;clear cQ cR cS cT;intro fu ep er eu ev
      refine ao<|⟨⟨_,_⟩,⟨ev,eu,(ep.trans cE.symm),(er.trans cF.symm),bA,?_⟩,?_⟩
      ·(exact⟨ah,ah,Bv p3 p1 ah ah ah⟩)
      ·((try dsimp only);omega)
     replace a8:=bf a8;refine dJ<|cw<|cw<|dI<|ao<|ax<|ax<|at_<|ar (ak aO) rfl<|ar (dN aa aw) rfl ?_
     refine bD (ag aP) aa ?_;clear aK bE aO aP aL;intro fw cU cV;refine ao<|bk cV (λbb=>?_) (λbb=>?_)
     ·replace bb:=bt bb;refine at_<|ar (ak cU) rfl ?_
      (refine ar (se aa ?_) rfl ?_; · (first|((first|unfold In64|unfold cO|unfold jd);omega)|(simp only [TR,size_mk,Ta,TB]<;>omega)|omega))
      refine ar (aB aa) rfl<|bn aa ?_;clear cV cU;intro fx cW
      refine ao<|ax<|at_<|ar (ak cW) rfl<|ar (aB aa) rfl<|ar (aB aw) rfl<|bD (ae aa) aa ?_;clear cW;intro fy cX cY
      refine ao<|bm<|dP bp aj (aR cX) (aR cY) (.ro _ rfl) (.ro _ rfl) ?_
      clear cX cY bA
      (first|(refine nP λhk=>?_;obtain⟨n1,n2,n3,n4⟩:=nN hk;first|omega|(have hz:=n4 i.toNat ah ah;omega))|(have he:=nO (l:=tx.data.toList) (D:=D) (i:=i) (n:=n) hD ah ah ah ah p3;unfold jg;rw [he.1,if_pos rfl,he.2];first|(rw [if_pos hA];done)|(rw [if_neg ah];done)))
     ·replace bb:=bf bb;exfalso;omega
  replace a2:=bf a2
  (have hA:bZ tx.data.toList=0:=ah;have hg:(tx.data.toList.getD (bZ tx.data.toList) default).toNat =(tx.data.toList.getD (Int.toNat 0) default).toNat :=(by rw [hA];rfl))
  refine bF<|ao<|ax<|ax<|fZ (λe mem=>(al e (.tmp 39)= .v (.bool (decide (tx.data.toList.length=bZ tx.data.toList\/D<tx.data.toList.length - bZ tx.data.toList\/(tx.data.toList.getD (bZ tx.data.toList) default).toNat =48/\1<tx.data.toList.length))))/\(al e (.tmp 0)=al ct (.tmp 0))/\(al e (.tmp 6)=al ct (.tmp 6))/\bx=mem) ?_ ?_
  ·
   refine at_<|ar (ak af) rfl<|ar (eE aa rfl cK) rfl<|ar (ak (ag ap)) rfl<|ar (dN (ae aa) aa) rfl ?_
   refine ar (ak aa) rfl<|bK aa (λan bc=>?_) (λan bc=>?_)
   ·replace bc:=bt bc;refine aC ⟨_,rfl,.inl an⟩ rfl ?_;refine aC ⟨_,rfl,.inl (ae an)⟩ rfl ?_;refine aC ⟨_,rfl,.inl (ag an)⟩ rfl ?_;refine aC ⟨_,rfl,.inl (ae (ag an))⟩ rfl ?_;refine aC ⟨_,rfl,.inl (ai an)⟩ rfl ?_;refine aC ⟨_,rfl,.inl (ae (ai an))⟩ rfl ?_;refine ar (bq (ag (ai an)) aw) rfl<|ar (ak aa) rfl<|aC ⟨_,rfl,.inl aa⟩ rfl ?_
    refine aC ⟨_,rfl,.inl (ae aa)⟩ rfl ?_;refine aC ⟨_,rfl,.inl (ag aa)⟩ rfl ?_;refine aC ⟨_,rfl,.inl (ae (ag aa))⟩ rfl ?_;refine aC ⟨_,rfl,.inl (ai aa)⟩ rfl ?_;refine aC ⟨_,rfl,.inr aa⟩ rfl ?_;refine aC ⟨_,rfl,.inr (ae aa)⟩ rfl ?_;refine aC ⟨_,rfl,.inr (ag aa)⟩ rfl ?_;refine aC ⟨_,rfl,.inl (ay aa)⟩ rfl ?_;refine ar (bq (ae (ay aa)) aw) rfl<|bB (ae (ag (ai (aH af)))) (ae (ag (ai (aH ap)))) aa ?_;intro fz ew ey ez
    refine ao ⟨(ez).trans (by(refine b7 ?_;simp only [decide_eq_true_eq,SV,true_iff,false_iff];omega)),(ew).trans (af).symm,(ey).trans (ap).symm,rfl⟩
   replace bc:=bf bc;refine aF (ak (ae (ai af))) ⟨_,rfl,an⟩ rfl ?_;refine aF (eE aa rfl cK) ⟨_,rfl,(ae an)⟩ rfl ?_;refine aF (ak (ae (ag (ai ap)))) ⟨_,rfl,(ag an)⟩ rfl ?_
   (refine aF (eU (ae aa) aa ?_) ⟨_,rfl,(ae (ag an))⟩ rfl ?_; · (first|((first|unfold In64|unfold cO|unfold jd);omega)|(simp only [TR,size_mk,Ta,TB]<;>omega)|omega))
   refine aF (ak (ae (ay bQ))) ⟨_,rfl,(ai an)⟩ rfl ?_;refine aF (eF (ae aa) aa) ⟨_,rfl,(ae (ai an))⟩ rfl ?_;refine ar (br (ag (ai an)) aa) rfl<|ar (ak aa) rfl<|bK aa (λad be=>?_) (λad be=>?_)
   ·replace be:=bt be;refine aC ⟨_,rfl,.inl ad⟩ rfl ?_;refine aC ⟨_,rfl,.inl (ae ad)⟩ rfl ?_;refine aC ⟨_,rfl,.inl (ag ad)⟩ rfl ?_;refine aC ⟨_,rfl,.inl (ae (ag ad))⟩ rfl ?_;refine aC ⟨_,rfl,.inl (ai ad)⟩ rfl ?_;refine aC ⟨_,rfl,.inr aa⟩ rfl ?_;refine aC ⟨_,rfl,.inr (ae aa)⟩ rfl ?_;refine aC ⟨_,rfl,.inr (ag aa)⟩ rfl ?_;refine aC ⟨_,rfl,.inl (ay ad)⟩ rfl ?_;refine ar (bq (ae (ay ad)) aw) rfl<|bB (ae (ag (ai (aH af)))) (ae (ag (ai (aH ap)))) aa ?_;intro fB eA eB eC
    refine ao ⟨(eC).trans (by(refine b7 ?_;simp only [decide_eq_true_eq,SV,true_iff,false_iff];omega)),(eA).trans (af).symm,(eB).trans (ap).symm,rfl⟩
   replace be:=bf be;refine aF (ak (ae (ai (ay af)))) ⟨_,rfl,ad⟩ rfl ?_;refine aF (ak (ag (ai (ay ap)))) ⟨_,rfl,(ae ad)⟩ rfl ?_;refine aF (gC (ae aa) aa cK aD (by refine gI ?_;first|omega|(simp<;>omega;done)|(refine S4 (m:=256) ?_ hU;omega))) ⟨_,rfl,(ag ad)⟩ rfl ?_;refine aF (dN aa aw) ⟨_,rfl,(ae (ag ad))⟩ rfl ?_;refine aF (ak aa) ⟨_,rfl,(ai ad)⟩ rfl ?_;refine bK aa (λaI bg=>?_) (λaI bg=>?_)
   ·replace bg:=bt bg;refine aF (ak (ag (aH af))) ⟨_,rfl,aI⟩ rfl ?_;refine aF (eE aa rfl cK) ⟨_,rfl,(ae aI)⟩ rfl ?_;refine aF (eF aa aw) ⟨_,rfl,(ag aI)⟩ rfl ?_;refine aF (bq (ae (ag aI)) aa) ⟨_,rfl,(ay ad)⟩ rfl ?_;refine ar (br (ae (ay ad)) aa) rfl<|bB (ae (ag (ai (aH af)))) (ae (ag (ai (aH ap)))) aa ?_;intro fC eD eG eH
    refine ao ⟨(eH).trans (by(refine b7 ?_;simp only [decide_eq_true_eq,SV,true_iff,false_iff];omega)),(eD).trans (af).symm,(eG).trans (ap).symm,rfl⟩
   replace bg:=bf bg;refine aC ⟨_,rfl,.inl aI⟩ rfl ?_;refine aC ⟨_,rfl,.inl (ae aI)⟩ rfl ?_;refine aC ⟨_,rfl,.inl (ag aI)⟩ rfl ?_;refine aF (br (ae (ag aI)) aw) ⟨_,rfl,(ay ad)⟩ rfl ?_;refine ar (br (ae (ay ad)) aa) rfl<|bB (ae (ag (ai (aH af)))) (ae (ag (ai (aH ap)))) aa ?_;intro fD eI eK eP
   refine ao ⟨(eP).trans (by(refine b7 ?_;simp only [decide_eq_true_eq,SV,true_iff,false_iff];omega)),(eI).trans (af).symm,(eK).trans (ap).symm,rfl⟩
  ·rintro fE _ ⟨b2,eS,eT,rfl⟩;have b6:=eS.trans af;have b8:=eT.trans ap;refine bk b2 (λbh=>?_) (λbh=>?_)
   ·replace bh:=bt bh;refine ax<|at_<|ar (aB aw) rfl<|ar (aB aw) rfl<|bD (ae aa) aa ?_;clear b6 b2 b8;intro fF cZ c7
    refine ao<|bm<|bw<|dP bp aj (aR cZ) (aR c7) (.ro _ rfl) (.ro _ rfl) ?_
    clear cZ c7 bz
    (first|(refine nP λhk=>?_;obtain⟨n1,n2,n3,n4⟩:=nN hk;first|omega|(have hz:=n4 i.toNat ah ah;omega))|(have he:=nO (l:=tx.data.toList) (D:=D) (i:=i) (n:=n) hD ah ah ah ah p3;unfold jg;rw [he.1,if_pos rfl,he.2];first|(rw [if_pos hA];done)|(rw [if_neg ah];done)))
   replace bh:=bf bh;refine bF<|ao<|ax<|at_<|ar (aB aw) rfl<|bB (ae b6) (ae b8) aa ?_;clear b6 b2 b8;intro fG c8 b9 c9
   refine ao<|ax<|ax<|at_<|ar (ak b9) rfl<|ar (aB aa) rfl<|bu (ag c8) (ag b9) (ag c9) aa ?_;clear c8 b9 c9;intro da db dc eW eX
   refine ao<|ca<|eL (S:=(Int×Int)) (λs e mem=>match s with|⟨i,n⟩=>(al e (.tmp 8)= .v (.int .i64 i))/\(al e (.tmp 7)= .v (.int .i64 n))/\(al e (.tmp 0)=al da (.tmp 0))/\(al e (.tmp 6)=al da (.tmp 6))/\(mem.length=0)/\((bZ tx.data.toList<=i/\i<=tx.data.toList.length/\pR tx.data.toList i n))) (λs=>match s with|⟨i,n⟩=>(tx.data.toList.length - i).toNat) ⟨_,_⟩ ⟨eX,eW,rfl,rfl,bz,?_⟩ ?_
   ·(exact⟨ah,ah,A9 tx.data.toList ah⟩)
   ·rintro⟨i,n⟩ fH fI ⟨cb,dd,eY,eZ,bJ,hinv⟩;have cc:=eY.trans db;have de:=eZ.trans dc
    (obtain⟨p1,p2,p3⟩:=hinv;have hb:=E1 p3 ah;have hn0:=p3.1;have hui:=hu i.toNat)
    refine ax<|ax<|at_<|ar (ak cb) rfl<|ar (ak (ae cc)) rfl<|ar (eE aa rfl cK) rfl<|ar (c6 (ag aa) aa) rfl<|ck (ai cc) (ai de) (ai dd) (ai cb) aa ?_;clear cc de dd cb;intro fJ aM aS aT aN bL
    refine ao<|bk bL (λbj=>?_) (λbj=>?_)
    ·replace bj:=bt bj;refine bF<|ao<|ax<|ca<|ax<|ax<|at_<|ar (ak aM) rfl<|ar (ak (ae aN)) rfl<|ar (gC (ae aa) aa cK ah (by refine gI ?_;first|omega|(simp<;>omega;done)|(refine S4 (m:=256) ?_ hU;omega))) rfl ?_
     refine ar (c6 aa aw) rfl<|ar (ak aa) rfl<|bK aa (λaz bo=>?_) (λaz bo=>?_)
     ·replace bo:=bt bo;refine aC ⟨_,rfl,.inl az⟩ rfl ?_;refine aC ⟨_,rfl,.inl (ae az)⟩ rfl ?_;refine aC ⟨_,rfl,.inl (ag az)⟩ rfl ?_;refine aC ⟨_,rfl,.inl (ae (ag az))⟩ rfl ?_;refine ar (bq (ai az) aw) rfl<|ck (ag (ay aM)) (ag (ay aS)) (ag (ay aT)) (ag (ay aN)) aa ?_;clear az aM bL aS aT aN;intro fK e0 e3 e4 e5 df
      refine ao<|lA df<|ax<|at_<|ar (aB aw) rfl<|ar (aB aw) rfl<|bD (ae aa) aa ?_;clear e0 df e3 e4 e5;intro fL dg dh
      refine ao<|bm<|bw<|cD<|bw<|bw<|cD<|bw<|dP bp aj (aR dg) (aR dh) (.ro _ rfl) (.ro _ rfl) ?_
      clear dg dh bJ
      (first|(refine nP λhk=>?_;obtain⟨n1,n2,n3,n4⟩:=nN hk;first|omega|(have hz:=n4 i.toNat ah ah;omega))|(have he:=nO (l:=tx.data.toList) (D:=D) (i:=i) (n:=n) hD ah ah ah ah p3;unfold jg;rw [he.1,if_pos rfl,he.2];first|(rw [if_pos hA];done)|(rw [if_neg ah];done)))
     replace bo:=bf bo;refine aF (ak (ae (ai aM))) ⟨_,rfl,az⟩ rfl ?_;refine aF (ak (ag (ai aN))) ⟨_,rfl,(ae az)⟩ rfl ?_;refine aF (gC (ae aa) aa cK ah (by refine gI ?_;first|omega|(simp<;>omega;done)|(refine S4 (m:=256) ?_ hU;omega))) ⟨_,rfl,(ag az)⟩ rfl ?_;refine aF (eF aa aw) ⟨_,rfl,(ae (ag az))⟩ rfl ?_;refine ar (br (ai az) aa) rfl<|ck (ag (ay aM)) (ag (ay aS)) (ag (ay aT)) (ag (ay aN)) aa ?_;clear az aM bL aS aT aN;intro fM bM cd ce bN cg
     refine ao<|bk cg (λbv=>?_) (λbv=>?_)
     ·replace bv:=bt bv;refine ax<|at_<|ar (aB aw) rfl<|ar (aB aw) rfl<|bD (ae aa) aa ?_;clear bM cg cd ce bN;intro fN di dk
      refine ao<|bm<|bw<|cD<|bw<|bw<|cD<|bw<|dP bp aj (aR di) (aR dk) (.ro _ rfl) (.ro _ rfl) ?_
      clear di dk bJ
      (first|(refine nP λhk=>?_;obtain⟨n1,n2,n3,n4⟩:=nN hk;first|omega|(have hz:=n4 i.toNat ah ah;omega))|(have he:=nO (l:=tx.data.toList) (D:=D) (i:=i) (n:=n) hD ah ah ah ah p3;unfold jg;rw [he.1,if_pos rfl,he.2];first|(rw [if_pos hA];done)|(rw [if_neg ah];done)))
     replace bv:=bf bv;refine bF<|ao<|at_<|ar (ak ce) rfl ?_
     (refine ar (fA aw aa ?_) rfl ?_; · (first|((first|unfold In64|unfold cO|unfold jd);omega)|(simp only [TR,size_mk,Ta,TB]<;>omega)|omega))
     refine ar (ak (ag bM)) rfl<|ar (ak (ae (ag bN))) rfl<|ar (gC (ae aa) aa cK ah (by refine gI ?_;first|omega|(simp<;>omega;done)|(refine S4 (m:=256) ?_ hU;omega))) rfl ?_
     (refine ar (ET aa aw ?_) rfl ?_; · (first|((first|unfold In64|unfold cO|unfold jd);omega)|(simp only [TR,size_mk,Ta,TB]<;>omega)|omega))
     (refine ar (vP aa aj aj ?_) rfl ?_; · (first|((first|unfold In64|unfold cO|unfold jd);omega)|(simp only [TR,size_mk,Ta,TB]<;>omega)|omega))
     (refine ar (cf (ae (ai aa)) aa ?_) rfl ?_; · (first|((first|unfold In64|unfold cO|unfold jd);omega)|(simp only [TR,size_mk,Ta,TB]<;>omega)|omega))
     refine ar (aB aa) rfl<|bu (ae (ay bM)) (ae (ay cd)) aa (ae (ay bN)) ?_;clear bM cg cd ce bN;intro fO dl dm dn dq
     refine cG<|ao<|at_<|ar (ak dq) rfl ?_
     (refine ar (cf aa aw ?_) rfl ?_; · (first|((first|unfold In64|unfold cO|unfold jd);omega)|(simp only [TR,size_mk,Ta,TB]<;>omega)|omega))
     refine ar (aB aa) rfl<|bu (ae (ag dl)) (ae (ag dm)) (ae (ag dn)) aa ?_;clear dl dm dn dq;intro fP e6 e7 e8 e9
     refine ao<|⟨⟨_,_⟩,⟨e9,e8,(e6.trans db.symm),(e7.trans dc.symm),bJ,?_⟩,?_⟩
     ·(exact⟨ah,ah,Bv p3 p1 ah ah ah⟩)
     ·((try dsimp only);omega)
    replace bj:=bf bj;refine dJ<|cw<|cw<|dI<|ao<|ax<|ax<|at_<|ar (ak aS) rfl<|ar (dN aa aw) rfl ?_
    refine bD (ag aT) aa ?_;clear aM bL aS aT aN;intro fQ dr dt;refine ao<|bk dt (λaU=>?_) (λaU=>?_)
    ·replace aU:=bt aU;cases aU
    replace aU:=bf aU;refine bF<|ao<|ax<|at_<|ar (ak dr) rfl<|ar (aB aa) rfl<|ar (aB aw) rfl<|bD (ae aa) aa ?_;clear dt dr;intro fT du dv
    refine ao<|bm<|dP bp aj (aR du) (aR dv) (.ro _ rfl) (.ro _ rfl) ?_
    clear du dv bJ
    (first|(refine nP λhk=>?_;obtain⟨n1,n2,n3,n4⟩:=nN hk;first|omega|(have hz:=n4 i.toNat ah ah;omega))|(have he:=nO (l:=tx.data.toList) (D:=D) (i:=i) (n:=n) hD ah ah ah ah p3;unfold jg;rw [he.1,if_pos rfl,he.2];first|(rw [if_pos hA];done)|(rw [if_neg ah];done)))
theorem vh:b9 Tryz.prog 62 9 1 16 (.string ByteArray.empty):=⟨aj,aj,aj⟩
def opn(tx:ByteArray)(c:UInt8):Nat->Nat
 | 0=>0
 | i+1=>if tx.data.toList.getD i default=c then i+1 else opn tx c i
def cls(tx:ByteArray)(c:UInt8):Nat->List ByteArray
 | 0=> []
 | i+1=>if tx.data.toList.getD i default=c then cls tx c i++ [tx.extract (opn tx c i) i]else cls tx c i
def rF(tx:ByteArray)(c:UInt8):List ByteArray:=cls tx c tx.size++ [tx.extract (opn tx c tx.size) tx.size]
theorem zI(tx:ByteArray)(c:UInt8):∀ i:Nat,opn tx c i<=i
 | 0=>SR _
 | i+1=>by have:=zI tx c i;simp only [opn];split<;>omega
theorem E2(tx:ByteArray)(c:UInt8):∀ i:Nat,(cls tx c i).length <=i
 | 0=>SR _
 | i+1=>by
  have:=E2 tx c i;simp only [cls];split
  ·rw [Tq,Ub];omega
  ·omega
def Ao(b:ByteArray):List AV:= [.v (.string b)]
theorem E3(b:ByteArray): [[AV.v (.string b)]]= [b].map Ao:=rfl
theorem G3{tx:ByteArray}{c:UInt8}{i:Nat}(h:tx.data.toList.getD i default=c):opn tx c (i+1)=i+1/\cls tx c (i+1)=cls tx c i++ [tx.extract (opn tx c i) i]:=by
 simp only [opn,cls];rw [if_pos h,if_pos h];exact⟨rfl,rfl⟩
theorem G4{tx:ByteArray}{c:UInt8}{i:Nat}(h:¬ tx.data.toList.getD i default=c):opn tx c (i+1)=opn tx c i/\cls tx c (i+1)=cls tx c i:=by
 simp only [opn,cls];rw [if_neg h,if_neg h];exact⟨rfl,rfl⟩
theorem Ry{a b:UInt8}(h:(a.toNat:Int)=b.toNat):a=b:=UInt8.toNat_inj.1 ah
theorem QG{a b:UInt8}(h:¬ (a.toNat:Int)=b.toNat):¬ a=b:=λe=>h (by rw [e])
theorem G5{tx:ByteArray}{c:UInt8}{i f:Int}{xs:List ByteArray}(p1:0<=i)(p3:f=opn tx c i.toNat)(p4:xs=cls tx c i.toNat)(h:((tx.data.toList.getD i.toNat default).toNat :Int)=c.toNat):
 i+1=opn tx c (i+1).toNat /\xs++ [tx.extract f.toNat i.toNat]=cls tx c (i+1).toNat :=by
 have hh:=G3 (Ry h);rw [show(i+1).toNat =i.toNat+1 by omega,hh.1,hh.2,p4,p3];exact⟨ah,aL⟩
theorem G6{tx:ByteArray}{c:UInt8}{i f:Int}{xs:List ByteArray}(p1:0<=i)(p3:f=opn tx c i.toNat)(p4:xs=cls tx c i.toNat)(h:¬ ((tx.data.toList.getD i.toNat default).toNat :Int)=c.toNat):
 f=opn tx c (i+1).toNat /\xs=cls tx c (i+1).toNat :=by
 have hh:=G4 (QG h);rw [show(i+1).toNat =i.toNat+1 by omega,hh.1,hh.2];exact⟨p3,p4⟩
theorem O7(tx:ByteArray)(c:UInt8)(hl:tx.size<=1000000):bT Tryz.prog 18 [.v (.string tx),.v (.int .u8 c.toNat)] (λq=>q= .row 1 ((rF tx c).map Ao)):=by
 refine cA (fn:=Tryz.f18) 34 aj rfl aj bO ?_;intro a2 bL hA a3;have a5:al a2 (.tmp 0)=_:=hA 0 _ rfl;have a6:al a2 (.tmp 1)=_:=hA 1 _ rfl;have aI:bL.length=0:=by rw [a3];rfl
 clear hA a3;refine ax<|at_<|ar (aB aw) rfl<|bD (ae a5) (ae a6) ?_;clear a5 a6;intro co a7 a8
 refine ao<|ax<|at_<|ar (aB aw) rfl<|bB (ae a7) (ae a8) aa ?_;clear a7 a8;intro cq a9 ba bb
 refine ao<|ax<|at_<|ar (aB aw) rfl<|bu (ae a9) (ae ba) (ae bb) aa ?_;clear a9 ba bb;intro cr bc be bg bh
 refine ao<|ax<|ax<|at_<|ar (aB aw) rfl<|ck (ae bc) (ae be) (ae bg) (ae bh) aa ?_;clear bc be bg bh;intro ct bM bN bP bQ bU
 refine ao<|ca<|uk 9 1 bP aI (λcu ad aJ af=>?_)
 have bV:=bS aJ aI;have aK:=bR aJ aI;have aK:_=1:=aK;have aL:al ad (.tmp 0)=_:=(congrArg (λq=>al q (.tmp 0)) af).trans (ae bM);have aN:al ad (.tmp 1)=_:=(congrArg (λq=>al q (.tmp 1)) af).trans (ae bN);have bY:al ad (.tmp 5)=_:=(congrArg (λq=>al q (.tmp 5)) af).trans aa;have bZ:al ad (.tmp 6)=_:=(congrArg (λq=>al q (.tmp 6)) af).trans (ae bQ);have b0:al ad (.tmp 7)=_:=(congrArg (λq=>al q (.tmp 7)) af).trans (ae bU);clear aJ af;refine eL (S:=(Int×Int×List ByteArray)) (λs e mem=>match s with|⟨i,f,xs⟩=>(al e (.tmp 7)= .v (.int .i64 i))/\(al e (.tmp 6)= .v (.int .i64 f))/\(al e (.tmp 0)=al ad (.tmp 0))/\(al e (.tmp 1)=al ad (.tmp 1))/\(∃ j,al e (.tmp 5)= .own j/\mem[j]? =some (.row 9 1 (xs.map Ao))/\True)/\(∃ n,mem.length=n/\1<=n)/\((0<=i/\i<=tx.size/\f=opn tx c i.toNat/\xs=cls tx c i.toNat))) (λs=>match s with|⟨i,f,xs⟩=>(tx.size - i).toNat) ⟨_,_,[]⟩ ⟨b0,bZ,rfl,rfl,⟨_,bY,bV,trivial⟩,⟨_,aK,SR _⟩,?_⟩ ?_
 ·(exact⟨ah,ah,rfl,rfl⟩)
 ·rintro⟨i,f,xs⟩ cv cx ⟨aO,bj,b1,b2,⟨cy,bo,am,-⟩,⟨cz,ab,cB⟩,hinv⟩;have aP:=b1.trans aL;have bq:=b2.trans aN;have cC:=cL am ab
  (obtain⟨p1,p2,p3,p4⟩:=hinv;have ho:=zI tx c i.toNat;have hxl:xs.length<=1000000:=(by rw [p4];have:=E2 tx c i.toNat;omega))
  refine ax<|ax<|at_<|ar (ak aO) rfl<|ar (ak (ae aP)) rfl<|ar (eE aa rfl cK) rfl<|ar (c6 (ag aa) aa) rfl<|dH (ai aP) (ai bq) (ai bo) (ai bj) (ai aO) aa ?_;clear aP bq bo bj aO;intro cD an aA aC aD aE aS
  refine ao<|bk aS (λap=>?_) (λap=>?_)
  ·replace ap:=bt ap;refine bF<|ao<|ax<|ca<|ax<|at_<|ar (ak an) rfl<|ar (ak (ae aE)) rfl<|ar (gC (ae aa) aa cK ah (by refine gI ?_;first|omega|(simp<;>omega;done)|(refine S4 (m:=256) ?_ hU;omega))) rfl ?_
   refine ar (ak (ae (ag aA))) rfl<|ar (dN (ae aa) aa) rfl ?_
   refine dH (ae (ai an)) (ae (ai aA)) (ae (ai aC)) (ae (ai aD)) (ae (ai aE)) aa ?_;clear an aS aA aC aD aE;intro cE au aF aG aH av aT;refine ao<|bk aT (λaz=>?_) (λaz=>?_)
   ·replace az:=bt az;refine ax<|at_<|ar (ak aG) rfl<|ar (ak (ae au)) rfl<|ar (ak (ag aH)) rfl<|ar (ak (ae (ag av))) rfl<|ar (qk (ag aa) (ae aa) aa cK ah ah ah) rfl ?_
    refine ar (ep vh (bz aa bW) rfl rfl rfl rfl) rfl<|aM (ib vh rfl ab am (ae (ai aa)) aa dY dC) trivial rfl (λcF aU=>?_)
    have br:=iY aU ab;simp only [pS,Value.cells,Nat.reduceAdd,E3,bC]at br;have b6:=iT aU ab;clear aU am;refine ar (aB aa) rfl<|bu (ay au) (ay aF) aa (ay av) ?_;clear au aT aF aG aH av;intro cH bv bw bx aV
    refine ao<|at_<|ar (ak aV) rfl ?_
    (refine ar (cf aa aw ?_) rfl ?_; · (unfold In64;omega))
    refine ar (aB aa) rfl<|ck (ae (ag bv)) (ae (ag bw)) (ae (ag bx)) aa (ae (ag aV)) ?_;clear bv bw bx aV;intro cI bA bE bH bI bJ
    refine cG<|ao<|at_<|ar (ak bJ) rfl ?_
    (refine ar (cf aa aw ?_) rfl ?_; · (unfold In64;omega))
    refine ar (aB aa) rfl<|ck (ae (ag bA)) (ae (ag bE)) (ae (ag bH)) (ae (ag bI)) aa ?_;clear bA bE bH bI bJ;intro cJ b7 b8 b9 cb cc
    refine ao<|⟨⟨_,_,_⟩,⟨cc,cb,(b7.trans aL.symm),(b8.trans aN.symm),⟨_,b9,br,trivial⟩,⟨_,b6,ah⟩,?_⟩,?_⟩
    ·(first|exact⟨ah,ah,G5 p1 p3 p4 (by assumption)⟩|exact⟨ah,ah,G6 p1 p3 p4 (by assumption)⟩)
    ·((try dsimp only);omega)
   replace az:=bf az;refine bF<|cG<|ao<|at_<|ar (ak av) rfl ?_
   (refine ar (cf aa aw ?_) rfl ?_; · (unfold In64;omega))
   refine ar (aB aa) rfl<|ck (ae (ag au)) (ae (ag aF)) (ae (ag aG)) (ae (ag aH)) aa ?_;clear au aT aF aG aH av;intro cM cd ce cg ci cj
   refine ao<|⟨⟨_,_,_⟩,⟨cj,ci,(cd.trans aL.symm),(ce.trans aN.symm),⟨_,cg,am,trivial⟩,⟨_,ab,ah⟩,?_⟩,?_⟩
   ·(first|exact⟨ah,ah,G5 p1 p3 p4 (by assumption)⟩|exact⟨ah,ah,G6 p1 p3 p4 (by assumption)⟩)
   ·((try dsimp only);omega)
  replace ap:=bf ap;refine dJ<|cw<|cw<|dI<|ao<|ax<|at_<|ar (ak aC) rfl<|ar (ak (ae an)) rfl<|ar (ak (ag aD)) rfl<|ar (EU (ae aa) aa cK ah ah) rfl ?_
  refine ar (ep vh (bz aa bW) rfl rfl rfl rfl) rfl<|aM (ib vh rfl ab am (ai aa) aa dY dC) trivial rfl (λcN aX=>?_)
  have aZ:=iY aX ab;simp only [pS,Value.cells,Nat.reduceAdd,E3,bC]at aZ;have cm:=iT aX ab;clear aX am;refine ar (aB aa) rfl<|bn aa ?_;clear an aS aA aC aD aE;intro cO bK
  refine ao<|bm<|bX bp aj (aR bK) (.own _ _ _ _ aZ) ?_
  clear bK aZ cm
  (have hi:i.toNat=tx.size:=ah;unfold rF;rw [<- hi, <- p4];rw [show f.toNat=opn tx c i.toNat by omega])
theorem Gk(l:List UInt8)(tx:ByteArray):((⟨l.toArray⟩:ByteArray).toList ==tx.toList)=decide (l=tx.data.toList):=by
 have h1:(⟨l.toArray⟩:ByteArray).toList =l:=tV l;rw [h1,toList_data];rw [Ud];simp
theorem xx{l:List UInt8}{v:Int}(h:atoiAll l= .ok v)(D:Nat):ga l D=(decide (itoa v=l)&&decide ((trimPrefix l [45]).length <=D))/\jf l=v:=by
 unfold ga jf;rw [h];exact⟨rfl,rfl⟩
theorem L8{l:List UInt8}(h:∀ v,atoiAll l≠ .ok v)(D:Nat):ga l D=false:=by
 unfold ga;rcases hq:atoiAll l with v|_|_
 ·exact absurd hq (h v)
 ·rfl
 ·rfl
section
variable (es er:Value) (hes:fz es) (her:fz er) (tx:ByteArray) (hl:tx.size<=1000000)
include hl
include hes her
end
end Go.Proofs.YtfoaiidcfkmneaaGreatDoor
namespace Go.Proofs.YtfoaiidcfkmneaaGreatDoor
open Go Go.RowKit Go.Proofs
structure gB where
 acr:Int
 up:Int
 lo:Int
 hi:Int
 deriving Inhabited
structure g9 where
 len:Int
 cant:Int
 deriving Inhabited
structure fM where
 nam:ByteArray
 fst:Int
 acr:List Int
 deriving Inhabited
abbrev mA(n:Int):AV:=.v (.int .i64 n)
abbrev eI(b:Bool):AV:=.v (.bool b)
def dp(j:gB):List AV:= [.v (.int .i64 j.acr),.v (.int .i64 j.up),.v (.int .i64 j.lo),.v (.int .i64 j.hi)]
def dx(b:g9):List AV:= [.v (.int .i64 b.len),.v (.int .i64 b.cant)]
def ei(s:fM):List AV:= [.v (.string s.nam),.v (.int .i64 s.fst),.row 1 (s.acr.map iE)]
structure bN where
 nam:ByteArray
 js:List gB
 bs:List g9
 ss:List fM
abbrev gA(l:bN):AV:=.agg [.v (.string l.nam),.row 4 (l.js.map dp),.row 2 (l.bs.map dx),.row 3 (l.ss.map ei)]
def fG(n m:Int):Bool:=eC n (-m) m
def jh(j:gB):Bool:=fG j.acr 20000&&fG j.up 20000&&fG j.lo 100&&fG j.hi 100
def kM(j:gB):Int:=if jh j then(if j.lo<=j.hi then 0 else 9)else 2
def nj(b:g9):Bool:=eC b.len 1000 30000&&fG b.cant 300
def lq(b:g9):Int:=if nj b then 0 else 2
def iJ(s o:fM):Bool:=decide (s.fst<wrap64 (o.fst+o.acr.length)/\o.fst<wrap64 (s.fst+s.acr.length))
def gV(l:bN)(i:Nat):Int:=
 if !dX (l.ss.getD i default).nam then 4
 else if(l.ss.take i).any (λo=>o.nam.toList==(l.ss.getD i default).nam.toList)then 5
 else if(l.ss.getD i default).acr.length =0 then 10
 else if !eC (l.ss.getD i default).fst 1 (l.bs.length - (l.ss.getD i default).acr.length)then 6
 else if(l.ss.getD i default).acr.any (λn=> !fG n 20000)then 2
 else if(l.ss.take i).any (λo=>iJ (l.ss.getD i default) o)then 13
 else 0
def gW(f:Nat->Int):Nat->Option Nat
 | 0=>none
 | n+1=>match gW f n with
  | some i=>some i
  | none=>if f n=0 then none else some n
theorem tW{f:Nat->Int}:∀ {n:Nat},(∀ j,j<n->f j=0)->gW f n=none
 | 0,_=>rfl
 | n+1,h=>by simp only [gW];rw [tW λj hj=>h j ah];simp [h n ah]
theorem xy{f:Nat->Int}{i:Nat}(hn:∀ j,j<i->f j=0)(hi:f i≠0):∀ {n:Nat},i<n->gW f n=some i
 | 0,h=>absurd h ah
 | n+1,h=>by
  simp only [gW]
  by_cases hin:i=n
  ·subst hin;rw [tW hn];simp [hi]
  ·rw [xy hn hi (n:=n) ah]
def jO(k:Int)(f:Nat->Int)(n:Nat)(z:(Int×Int)×Int):(Int×Int)×Int:=match gW f n with
 | some i=>((k,i),f i)
 | none=>z
def cg(l:bN):(Int×Int)×Int:=
 if !dX l.nam then((0,0),4)
 else if l.bs.length=0\/l.js.length≠l.bs.length+1 then((0,0),10)
 else if 40<l.bs.length then((0,0),8)
 else jO 1 (λi=>kM (l.js.getD i default)) l.js.length
  (jO 2 (λi=>lq (l.bs.getD i default)) l.bs.length
   (if 4<l.ss.length then((0,0),8)else jO 3 (gV l) l.ss.length ((0,0),0)))
theorem qC(n m:Int)(hm: -1000000000<=m/\m<=1000000000):bT Tryz.prog 46 [mA n,mA m] (λq=>q=eI (fG n m)):=by
 refine cA (fn:=Tryz.f46) 10 aj rfl aj bO ?_;intro ad ap hA af;have ah:al ad (.tmp 0)=_:=hA 0 _ rfl;have ai:al ad (.tmp 1)=_:=hA 1 _ rfl;have au:ap.length=0:=by rw [af];rfl
 clear hA af;refine ax<|at_<|ar (aB aw) rfl<|bD (ae ah) (ae ai) ?_;clear ah ai;intro av am ab
 refine ao<|ax<|at_<|ar (ak am) rfl<|ar (ak (ae ab)) rfl ?_
 (refine ar (se aa ?_) rfl ?_; · (unfold In64;omega))
 refine ar (ak (ae (ag ab))) rfl<|ar (bI (aG (ae (ag aa)) (aG (ae aa) (aG aa aN))) rfl (xj _ _ _) zi) rfl<|ar (aB aa) rfl<|bn aa ?_;clear am ab;intro ay an
 refine ao<|bm<|bX bp aj (aR an) (.ro _ rfl) ?_
 clear an au;rfl
def fw(l:bN):Prop:=l.nam.size<=1000000/\l.js.length<=1000000/\l.bs.length<=1000000/\l.ss.length<=1000000/\ ∀ s∈l.ss,s.nam.size<=1000000/\s.acr.length<=1000000
theorem fw.at{l:bN}(h:fw l)(i:Nat):(l.ss.getD i default).nam.size <=1000000/\(l.ss.getD i default).acr.length <=1000000:=by
 by_cases hi:i<l.ss.length
 ·exact h.2.2.2.2 _ (by rw [SO,SQ hi];exact TQ hi)
 ·rw [SO,S5 ah];exact⟨aD,aD⟩
theorem uw:∀ args w,(callFunc 82 args).run Tryz.prog w= .ok (.enter 82 args) w:=λ_ _=>by kernel_rfl
theorem xR:b9 Tryz.prog 114 30 1 8 (.int .i64 0):=⟨aj,aj,aj⟩
theorem O8:b9 Tryz.prog 23 74 4 32 (.agg #[.int .i64 0,.int .i64 0,.int .i64 0,.int .i64 0]):=⟨aj,aj,aj⟩
theorem O9:b9 Tryz.prog 24 76 2 16 (.agg #[.int .i64 0,.int .i64 0]):=⟨aj,aj,aj⟩
theorem L9:aV Tryz.prog 134 true 3:=⟨aj,aj⟩
theorem Pe:aV Tryz.prog 23 false 1:=⟨aj,aj⟩
theorem Pg:aV Tryz.prog 24 false 1:=⟨aj,aj⟩
theorem oh:aV Tryz.prog 3 false 1:=⟨aj,aj⟩
theorem E4:aV Tryz.prog 30 false 1:=⟨aj,aj⟩
theorem Ph:aV Tryz.prog 74 true 4:=⟨aj,aj⟩
theorem Pj:aV Tryz.prog 76 true 2:=⟨aj,aj⟩
theorem tu{a b:Int}(h:a=b):AV.v (.int .i64 a)= .v (.int .i64 b):=by rw [h]
abbrev lu(l:bN):List AV:= [.v (.string l.nam),.row 4 (l.js.map dp),.row 2 (l.bs.map dx),.row 3 (l.ss.map ei)]
theorem mG(n lo hi:Int):bT Tryz.prog 50 [mA n,mA lo,mA hi] (λq=>q=eI (eC n lo hi)):=by
 refine cA (fn:=Tryz.f50) 15 aj rfl aj bO ?_;intro ah aE hA ap;have au:al ah (.tmp 0)=_:=hA 0 _ rfl;have av:al ah (.tmp 1)=_:=hA 1 _ rfl;have ay:al ah (.tmp 2)=_:=hA 2 _ rfl;have az:aE.length=0:=by rw [ap];rfl
 clear hA ap;refine ax<|at_<|ar (aB aw) rfl<|bB (ae au) (ae av) (ae ay) ?_;clear au av ay;intro aG af am an
 refine ao<|ax<|at_<|ar (ak am) rfl<|ar (ak (ae af)) rfl<|ar (gw (ae aa) aa) rfl<|ar (ak aa) rfl<|bK aa (λab ad=>?_) (λab ad=>?_)
 ·replace ad:=bt ad;refine aF (ak (ai af)) ⟨_,rfl,ab⟩ rfl ?_;refine aF (ak (ae (ai an))) ⟨_,rfl,(ae ab)⟩ rfl ?_;refine aF (gw (ae aa) aa) ⟨_,rfl,(ag ab)⟩ rfl ?_;refine ar (bq (ae (ag ab)) aa) rfl<|ar (aB aa) rfl<|bn aa ?_;clear ab af am an;intro aH aA
  refine ao<|bm<|bX bp aj (aR aA) (.ro _ rfl) ?_
  clear aA az
  (simp [eC, *];done)
 replace ad:=bf ad;refine aC ⟨_,rfl,.inl ab⟩ rfl ?_;refine aC ⟨_,rfl,.inl (ae ab)⟩ rfl ?_;refine aC ⟨_,rfl,.inl (ag ab)⟩ rfl ?_;refine ar (br (ae (ag ab)) aw) rfl<|ar (aB aa) rfl<|bn aa ?_;clear ab af am an;intro aI aD
 refine ao<|bm<|bX bp aj (aR aD) (.ro _ rfl) ?_
 clear aD az
 (simp [eC, *];done)
theorem tX(n m:Int)(hm: -1000000000<=m/\m<=1000000000):bT Tryz.prog 82 [mA n,mA m] (λq=>q=eI (fG n m)):=by
 refine cA (fn:=Tryz.f82) 10 aj rfl aj bO ?_;intro ad ap hA af;have ah:al ad (.tmp 0)=_:=hA 0 _ rfl;have ai:al ad (.tmp 1)=_:=hA 1 _ rfl;have au:ap.length=0:=by rw [af];rfl
 clear hA af;refine ax<|at_<|ar (aB aw) rfl<|bD (ae ah) (ae ai) ?_;clear ah ai;intro av am ab
 refine ao<|ax<|at_<|ar (ak am) rfl<|ar (ak (ae ab)) rfl ?_
 (refine ar (se aa ?_) rfl ?_; · (unfold In64;omega))
 refine ar (ak (ae (ag ab))) rfl<|ar (bI (aG (ae (ag aa)) (aG (ae aa) (aG aa aN))) rfl (mG _ _ _) mU) rfl<|ar (aB aa) rfl<|bn aa ?_;clear am ab;intro ay an
 refine ao<|bm<|bX bp aj (aR an) (.ro _ rfl) ?_
 clear an au;rfl
theorem xe(n:Int):bT Tryz.prog 81 [mA n] (λq=>q=eI (fG n 20000)):=by
 refine cA (fn:=Tryz.f81) 5 aj rfl aj bO ?_;intro ah ai hA ab;have ad:al ah (.tmp 0)=_:=hA 0 _ rfl;have am:ai.length=0:=by rw [ab];rfl
 clear hA ab;refine ax<|at_<|ar (aB aw) rfl<|bn (ae ad) ?_;clear ad;intro an af
 refine ao<|ax<|at_<|ar (ak af) rfl<|ar (bI (aG aa (aG aw aN)) rfl (tX _ _ aD) uw) rfl ?_
 refine ar (aB aa) rfl<|bn aa ?_;clear af;intro ap ag
 refine ao<|bm<|bX bp aj (aR ag) (.ro _ rfl) ?_
 clear ag am;rfl
theorem fJ(ok:Bool)(e:Int):bT Tryz.prog 49 [eI ok,mA e] (λq=>q=mA (dW ok e)):=by
 refine cA (fn:=Tryz.f49) 7 aj rfl aj bO ?_;intro af ay hA ag;have ah:al af (.tmp 0)=_:=hA 0 _ rfl;have ai:al af (.tmp 1)=_:=hA 1 _ rfl;have am:ay.length=0:=by rw [ag];rfl
 clear hA ag;refine ax<|at_<|ar (aB aw) rfl<|bD (ae ah) (ae ai) ?_;clear ah ai;intro aA an ap
 refine ao<|ax<|ax<|at_<|ar (ak an) rfl<|bD (ae ap) aa ?_;clear an ap;intro aC ab ad
 refine ao<|bk ad (λaz=>?_) (λaz=>?_)
 ·skip;refine ax<|at_<|ar (aB aw) rfl<|bn aa ?_;clear ab ad;intro aD au
  refine ao<|bm<|bw<|bX bp aj (aR au) (.ro _ rfl) ?_
  clear au am
  (simp [dW, *];done)
 refine bF<|ao<|ax<|at_<|ar (ak ab) rfl<|ar (aB aa) rfl<|bn aa ?_;clear ab ad;intro aE av
 refine ao<|bm<|bX bp aj (aR av) (.ro _ rfl) ?_
 clear av am
 (simp [dW, *];done)
theorem tY(l:List Int)(hl:l.length<=1000):bT Tryz.prog 26 [.row 1 (l.map iE)] (λq=>q=mA (jA l)):=by
 refine cA (fn:=Tryz.f26) 15 aj rfl aj bO ?_;intro aV aX hA aH;have aI:al aV (.tmp 0)=_:=hA 0 _ rfl;have aZ:aX.length=0:=by rw [aH];rfl
 clear hA aH;refine ax<|at_<|ar (aB aw) rfl<|bn (ae aI) ?_;clear aI;intro a9 aJ
 refine ao<|ax<|ax<|at_<|ar (ak aJ) rfl<|ar (az (cx aa rfl xR.1) ct) rfl ?_
 refine ar (ak aw) rfl<|bB (ag aa) (ae aa) aa ?_;clear aJ;intro aK aL aM a2
 refine ao<|ca<|eL (S:=Int) (λi e mem=>(al e (.tmp 7)= .v (.int .i64 i))/\(al e (.tmp 5)=al aK (.tmp 5))/\(al e (.tmp 6)=al aK (.tmp 6))/\(mem.length=0)/\((0<=i/\i<=l.length/\jA (l.drop i.toNat)=jA l))) (λi=>(l.length - i).toNat) _ ⟨a2,rfl,rfl,aZ,?_⟩ ?_
 ·exact⟨ah,ah,rfl⟩
 ·rintro i ba bb ⟨am,a3,a5,an,hinv⟩;have aN:=a3.trans aL;have ap:=a5.trans aM;refine ax<|at_<|ar (c6 am ap) rfl<|bu (ae aN) (ae ap) (ae am) aa ?_;clear aN ap am;intro bc af au ai av
  refine ao<|ax<|bk av (λab=>?_) (λab=>?_)
  ·replace ab:=bt ab;refine bF<|ao<|ax<|ca<|ax<|at_<|ar (az (cE xR af ai ah (by(refine dq ?_;omega))) bQ) rfl ?_
   refine ar (az (bL E4 rfl aa aA) bQ) rfl ?_;refine ar (aB aa) rfl<|bu aa (ae (ag af)) (ae (ag au)) (ae (ag ai)) ?_;clear af au ai av;intro be ay aO aP aS
   refine ao<|ax<|at_<|ar (ak ay) rfl<|ar (fp aa aw) rfl<|ck (ag ay) (ag aO) (ag aP) (ag aS) aa ?_;clear ay aO aP aS;intro bg aC aD aE aF aG
   refine ao<|bk aG (λad=>?_) (λad=>?_)
   ·replace ad:=ff ad;refine ax<|at_<|ar (ak aC) rfl<|ar (aB aa) rfl<|bn aa ?_;clear aG aC aD aE aF;intro bh aT
    refine ao<|bm<|cD<|bw<|bw<|cD<|bw<|bX bp aj (aR aT) (.ro _ rfl) ?_
    clear aT an;obtain⟨h1,h2,h3⟩:=hinv;rw [<- h3,AS (i:=i.toNat) ah,if_neg (by assumption)];rfl
   replace ad:=eY ad;refine bF<|cG<|ao<|at_ ?_
   (refine ar (cf aF aw ?_) rfl ?_; · (unfold In64;omega))
   refine ar (ak aa) rfl<|bB (ag aD) (ag aE) aa ?_;clear aG aC aD aE aF;intro bj a6 a7 a8
   refine ao<|⟨_,⟨a8,(a6.trans aL.symm),(a7.trans aM.symm),an,?_⟩,?_⟩
   ·(obtain⟨h1,h2,h3⟩:=hinv;refine⟨ah,ah,?_⟩;rw [<- h3,AS (i:=i.toNat) ah,if_pos (by assumption)];congr 2;omega)
   ·((try dsimp only);omega)
  replace ab:=bf ab;refine dJ<|cw<|cw<|dI<|ao<|ax<|at_<|ar (aB aw) rfl<|bn aa ?_;clear af au ai av;intro bo aU
  refine ao<|bm<|bX bp aj (aR aU) (.ro _ rfl) ?_
  clear aU an;obtain⟨h1,h2,h3⟩:=hinv;rw [<- h3,Ue ah];rfl
abbrev my(e:Int):AV:=.clo (.func 77) [] [.ref [mA e]]
abbrev oI(k n:Int)(look:AV):AV:=.clo (.func 79) [] [.ref [mA n],.ref [look],.ref [mA k]]
abbrev Ht(k n e:Int):AV:=.agg [mA k,mA n,mA e]
theorem oZ(e:Int):bT Tryz.prog 76 [mA e] (λq=>q=my e):=by
 refine cA (fn:=Tryz.f76) 4 aj rfl aj bO ?_;intro ah ai hA ab;have ad:al ah (.tmp 0)=_:=hA 0 _ rfl;have ak:ai.length=0:=by rw [ab];rfl
 clear hA ab;refine ax<|at_<|ar (sj ad rfl dY) rfl ?_
 refine ar (aB aw) rfl<|bn (ae aa) ?_;clear ad;intro am af
 refine ao<|ax<|at_<|ar (kT aN (aG af aN)) rfl<|ar (aB aa) rfl<|bn aa ?_;clear af;intro an ag
 refine ao<|bm<|bX bp aj (aR ag) (.ro _ rfl) ?_
 clear ag ak;rfl
theorem I1(e:Int):bT Tryz.prog 77 [.ref [mA e]] (λq=>q=Ht 0 0 e):=by
 refine cA (fn:=Tryz.f77) 4 aj rfl aj bO ?_;intro aw ay hA an;have ap:al aw (.tmp 0)=_:=hA 0 _ rfl;have ad:ay.length=0:=by rw [an];rfl
 clear hA an;refine ax<|at_<|aM (cJ zb rfl ad) trivial rfl (λaC af=>?_)
 have ab:=bS af ad;simp only [pS,Value.cells,Nat.reduceAdd]at ab;have ah:=bR af ad;have ah:_=1:=ah;clear af;refine bD (ae ap) aa ?_;clear ap;intro aD au ai;refine ao<|ax<|at_<|ar (az (bL E4 rfl au aA) bQ) rfl ?_
 refine ar (cU (bz aa bW) ze zd zc rfl) rfl ?_;refine aM (bV (ag ai) aa rfl rfl ab vE rfl aA) trivial rfl (λaF ak=>?_);have am:=bo ak ab;simp only [pS,Value.cells,Nat.reduceAdd]at am;have aB:=bh ak ah;clear ak ab;refine bn (aE (ag ai)) ?_;clear au ai;intro aG av;refine ao<|bm<|bX bp aj (dz av am L9 aA aL) (eh (.ro _ rfl)) ?_
 clear av am aB;rfl
theorem qD(k n:Int)(fn:Fn)(m:List AV)(hm:cS.roL m=true):bT Tryz.prog 78 [mA k,mA n,.clo fn [] m] (λq=>q=oI k n (.clo fn [] m)):=by
 refine cA (fn:=Tryz.f78) 8 aj rfl aj bO ?_;intro ab au hA ad;have af:al ab (.tmp 0)=_:=hA 0 _ rfl;have ah:al ab (.tmp 1)=_:=hA 1 _ rfl;have ai:al ab (.tmp 2)=_:=hA 2 _ rfl;have av:au.length=0:=by rw [ad];rfl
 clear hA ad;refine ax<|at_<|ar (sj af rfl dY) rfl ?_
 refine ar (sj (ae ah) rfl dY) rfl ?_;refine ar (sj (ag ai) rfl (by(simp only [cS.roL,cS,Bool.and_true,UH];assumption))) rfl ?_;refine ar (aB aw) rfl<|bB (ae (ag aa)) (ag aa) (ae aa) ?_;clear af ah ai;intro ay ak am an
 refine ao<|ax<|at_<|ar (kT aN (aG am (aG an (aG ak aN)))) rfl<|ar (aB aa) rfl<|bn aa ?_;clear ak am an;intro az ap
 refine ao<|bm<|bX bp aj (aR ap) (.ro _ rfl) ?_
 clear ap av;rfl
theorem Mc(l:bN)(i:Int)(hi:0<=i/\i<l.js.length):bT Tryz.prog 80 [mA i,.ref (lu l)] (λq=>q=mA (kM (l.js.getD i.toNat default))):=by
 refine cA (fn:=Tryz.f80) 43 aj rfl aj bO ?_;intro aS a5 hA aT;have aU:al aS (.tmp 0)=_:=hA 0 _ rfl;have aV:al aS (.tmp 1)=_:=hA 1 _ rfl;have au:a5.length=0:=by rw [aT];rfl
 clear hA aT;refine ax<|at_<|ar (aB aw) rfl<|bD (ae aU) (ae aV) ?_;clear aU aV;intro bx aX aZ
 refine ao<|ax<|at_<|ar (az (cj fk rfl aZ) eD) rfl ?_
 refine ar (az (bL Pe rfl aa aA) eD) rfl ?_;refine ar (ak (ag aX)) rfl<|ar (az (cE O8 (ae aa) aa ah (by(refine dq ?_;omega))) eD) rfl ?_
 refine ar (az (bL Ph rfl aa aA) eD) rfl ?_;refine aM (cJ v7 rfl au) trivial rfl (λbA av=>?_);have ap:=bS av au;simp only [pS,Value.cells,Nat.reduceAdd,dp]at ap;have aI:=bR av au;have aI:_=1:=aI;clear av;refine aM (bV aa (ae aa) rfl rfl ap zS rfl aA) trivial rfl (λa6 aO=>?_);have an:=bo aO ap;simp only [pS,Value.cells,Nat.reduceAdd,dp]at an;have a7:=bh aO aI;clear aO ap;refine bn (aE aa) ?_;clear aX aZ;intro a8 ab;refine ao<|ax<|fZ (λe mem=>(al e (.tmp 5)= .v (.bool (jh (l.js.getD i.toNat default))))/\(al e (.tmp 4)=al a8 (.tmp 4))/\a6=mem) ?_ ?_
 ·
  refine at_<|ar (aJ mO rfl ab) rfl<|ar (az (aK oh rfl an aa aA) eD) rfl ?_
  refine ar (bI (aG aa aN) rfl (xe _) zk) rfl<|ar (ak aa) rfl<|bK aa (λam a9=>?_) (λam a9=>?_)
  ·skip;refine aF (aJ yu rfl (ai ab)) ⟨_,rfl,am⟩ rfl ?_;refine aF (az (aK oh rfl an aa aA) eD) ⟨_,rfl,(ae am)⟩ rfl ?_;refine aF (bI (aG aa aN) rfl (xe _) zk) ⟨_,rfl,(ag am)⟩ rfl ?_;refine ar (bq (ae (ag am)) aa) rfl<|ar (ak aa) rfl<|bK aa (λad ba=>?_) (λad ba=>?_)
   ·skip;refine aF (aJ kW rfl (ae (ay ab))) ⟨_,rfl,ad⟩ rfl ?_;refine aF (aJ mM rfl aa) ⟨_,rfl,(ae ad)⟩ rfl ?_;refine aF (az (aK oh rfl an aa aA) eD) ⟨_,rfl,(ag ad)⟩ rfl ?_;refine aF (bI (aG aa (aG aw aN)) rfl (tX _ _ aD) uw) ⟨_,rfl,(ae (ag ad))⟩ rfl ?_;refine ar (bq (ai ad) aa) rfl<|ar (ak aa) rfl<|bK aa (λaf bb=>?_) (λaf bb=>?_)
    ·skip;refine aF (aJ kW rfl (ae (ag (ai (ay ab))))) ⟨_,rfl,af⟩ rfl ?_;refine aF (aJ mN rfl aa) ⟨_,rfl,(ae af)⟩ rfl ?_;refine aF (az (aK oh rfl an aa aA) eD) ⟨_,rfl,(ag af)⟩ rfl ?_;refine aF (bI (aG aa (aG aw aN)) rfl (tX _ _ aD) uw) ⟨_,rfl,(ae (ag af))⟩ rfl ?_;refine ar (bq (ai af) aa) rfl<|ar (aB aa) rfl<|bD (ae (ai (aH ab))) aa ?_;intro bB bc be
     refine ao ⟨(be).trans (by(refine b7 ?_;unfold jh;simp_all)),(bc).trans (ab).symm,rfl⟩
    refine aC ⟨_,rfl,.inl af⟩ rfl ?_;refine aC ⟨_,rfl,.inl (ae af)⟩ rfl ?_;refine aC ⟨_,rfl,.inl (ag af)⟩ rfl ?_;refine aC ⟨_,rfl,.inl (ae (ag af))⟩ rfl ?_;refine ar (br (ai af) aw) rfl<|ar (aB aa) rfl<|bD (ae (ai (aH ab))) aa ?_;intro bE bf bg
    refine ao ⟨(bg).trans (by(refine b7 ?_;unfold jh;simp_all)),(bf).trans (ab).symm,rfl⟩
   refine aC ⟨_,rfl,.inl ad⟩ rfl ?_;refine aC ⟨_,rfl,.inl (ae ad)⟩ rfl ?_;refine aC ⟨_,rfl,.inl (ag ad)⟩ rfl ?_;refine aC ⟨_,rfl,.inl (ae (ag ad))⟩ rfl ?_;refine ar (br (ai ad) aw) rfl<|ar (ak aa) rfl<|aC ⟨_,rfl,.inl aa⟩ rfl ?_
   refine aC ⟨_,rfl,.inl (ae aa)⟩ rfl ?_;refine aC ⟨_,rfl,.inl (ag aa)⟩ rfl ?_;refine aC ⟨_,rfl,.inl (ae (ag aa))⟩ rfl ?_;refine ar (br (ai aa) aw) rfl<|ar (aB aa) rfl<|bD (ae (ai (aH ab))) aa ?_;intro bF bj bk
   refine ao ⟨(bk).trans (by(refine b7 ?_;unfold jh;simp_all)),(bj).trans (ab).symm,rfl⟩
  refine aC ⟨_,rfl,.inl am⟩ rfl ?_;refine aC ⟨_,rfl,.inl (ae am)⟩ rfl ?_;refine aC ⟨_,rfl,.inl (ag am)⟩ rfl ?_;refine ar (br (ae (ag am)) aw) rfl<|ar (ak aa) rfl<|aC ⟨_,rfl,.inl aa⟩ rfl ?_
  refine aC ⟨_,rfl,.inl (ae aa)⟩ rfl ?_;refine aC ⟨_,rfl,.inl (ag aa)⟩ rfl ?_;refine aC ⟨_,rfl,.inl (ae (ag aa))⟩ rfl ?_;refine ar (br (ai aa) aw) rfl<|ar (ak aa) rfl<|aC ⟨_,rfl,.inl aa⟩ rfl ?_
  refine aC ⟨_,rfl,.inl (ae aa)⟩ rfl ?_;refine aC ⟨_,rfl,.inl (ag aa)⟩ rfl ?_;refine aC ⟨_,rfl,.inl (ae (ag aa))⟩ rfl ?_;refine ar (br (ai aa) aw) rfl<|ar (aB aa) rfl<|bD (ae (ai (aH ab))) aa ?_;intro bH bu bv
  refine ao ⟨(bv).trans (by(refine b7 ?_;unfold jh;simp_all)),(bu).trans (ab).symm,rfl⟩
 ·rintro bJ _ ⟨a2,bw,rfl⟩;have aP:=bw.trans ab;refine ax<|eu 13 aj aj aj aj ?_
  refine dr (ak a2) rfl<|dr (bI (aG aa (aG aw aN)) rfl (fJ _ _) fK) rfl<|dr (aJ kW rfl (ag aP)) rfl<|dr (aJ mM rfl aa) rfl<|dr (az (aK oh rfl an aa aA) eD) rfl ?_
  refine dr (aJ kW rfl (ae (ai aP))) rfl<|dr (aJ mN rfl aa) rfl<|dr (az (aK oh rfl an aa aA) eD) rfl ?_
  refine dr (gw (ae (ag aa)) aa) rfl<|dr (bI (aG aa (aG aw aN)) rfl (fJ _ _) fK) rfl<|dr (ep xR (bz (ay aa) (bz aa bW)) rfl rfl rfl rfl) rfl<|dr (bI (aG aa aN) rfl (tY [_,_] aL) vC) rfl ?_
  refine dr (aB aa) rfl<|dE<|bn aa ?_;clear aP a2;intro bM a3
  refine ao<|bm<|bX bp aj (aR a3) (.ro _ rfl) ?_
  clear a3 an a7
  (refine tu ?_;unfold kM;cases jh (l.js.getD i.toNat default)<;>simp [jA,dW])
theorem Md(l:bN)(i:Int)(hi:0<=i/\i<l.bs.length):bT Tryz.prog 83 [mA i,.ref (lu l)] (λq=>q=mA (lq (l.bs.getD i.toNat default))):=by
 refine cA (fn:=Tryz.f83) 19 aj rfl aj bO ?_;intro ay aV hA aH;have aI:al ay (.tmp 0)=_:=hA 0 _ rfl;have aL:al ay (.tmp 1)=_:=hA 1 _ rfl;have an:aV.length=0:=by rw [aH];rfl
 clear hA aH;refine ax<|at_<|ar (aB aw) rfl<|bD (ae aI) (ae aL) ?_;clear aI aL;intro aZ aO aP
 refine ao<|ax<|at_<|ar (az (cj eK rfl aP) qO) rfl ?_
 refine ar (az (bL Pg rfl aa aA) qO) rfl ?_;refine ar (ak (ag aO)) rfl<|ar (az (cE O9 (ae aa) aa ah (by(refine dq ?_;omega))) qO) rfl ?_
 refine ar (az (bL Pj rfl aa aA) qO) rfl ?_;refine aM (cJ v8 rfl an) trivial rfl (λa2 ap=>?_);have af:=bS ap an;simp only [pS,Value.cells,Nat.reduceAdd,dx]at af;have au:=bR ap an;have au:_=1:=au;clear ap;refine aM (bV aa (ae aa) rfl rfl af wm rfl aA) trivial rfl (λa3 av=>?_);have ad:=bo av af;simp only [pS,Value.cells,Nat.reduceAdd,dx]at ad;have aS:=bh av au;clear av af;refine bn (aE aa) ?_;clear aO aP;intro a5 am;refine ao<|ax<|at_<|ar (aJ mP rfl am) rfl<|ar (az (aK oh rfl ad aa aA) qO) rfl ?_
 refine ar (bI (aG aa (aG aw (aG aw aN))) rfl (mG _ _ _) mU) rfl<|ar (ak aa) rfl<|bK aa (λab aX=>?_) (λab aX=>?_)
 ·skip;refine aF (aJ uX rfl (ai am)) ⟨_,rfl,ab⟩ rfl ?_;refine aF (az (aK oh rfl ad aa aA) qO) ⟨_,rfl,(ae ab)⟩ rfl ?_;refine aF (bI (aG aa (aG aw aN)) rfl (tX _ _ aD) uw) ⟨_,rfl,(ag ab)⟩ rfl ?_;refine ar (bq (ae (ag ab)) aa) rfl<|ar (bI (aG aa (aG aw aN)) rfl (fJ _ _) fK) rfl<|ar (aB aa) rfl<|bn aa ?_;clear ab am;intro a6 aT
  refine ao<|bm<|bX bp aj (aR aT) (.ro _ rfl) ?_
  clear aT ad aS
  (refine tu ?_;unfold lq nj dW;simp_all)
 refine aC ⟨_,rfl,.inl ab⟩ rfl ?_;refine aC ⟨_,rfl,.inl (ae ab)⟩ rfl ?_;refine aC ⟨_,rfl,.inl (ag ab)⟩ rfl ?_;refine ar (br (ae (ag ab)) aw) rfl<|ar (bI (aG aa (aG aw aN)) rfl (fJ _ _) fK) rfl<|ar (aB aa) rfl<|bn aa ?_;clear ab am;intro a7 aU
 refine ao<|bm<|bX bp aj (aR aU) (.ro _ rfl) ?_
 clear aU ad aS
 (refine tu ?_;unfold lq nj dW;simp_all)
theorem o6:∀ args w,(callFunc 76 args).run Tryz.prog w= .ok (.enter 76 args) w:=λ_ _=>by kernel_rfl
theorem qo:∀ args w,(callFunc 78 args).run Tryz.prog w= .ok (.enter 78 args) w:=λ_ _=>by kernel_rfl
theorem CO:b9 Tryz.prog 130 132 1 8 (.nilFunc):=⟨aj,aj,aj⟩
theorem CP:b9 Tryz.prog 139 5 1 1 (.int .u8 0):=⟨aj,aj,aj⟩
theorem yH:b9 Tryz.prog 23 74 4 32 (.agg #[.int .i64 0,.int .i64 0,.int .i64 0,.int .i64 0]):=⟨aj,aj,aj⟩
theorem qE:b9 Tryz.prog 24 76 2 16 (.agg #[.int .i64 0,.int .i64 0]):=⟨aj,aj,aj⟩
theorem vi:b9 Tryz.prog 25 78 3 48 (.agg #[.string ByteArray.empty,.int .i64 0,.slice none 0 0]):=⟨aj,aj,aj⟩
theorem CQ:aV Tryz.prog 134 true 3:=⟨aj,aj⟩
theorem yI:aV Tryz.prog 23 false 1:=⟨aj,aj⟩
theorem qF:aV Tryz.prog 24 false 1:=⟨aj,aj⟩
theorem vj:aV Tryz.prog 25 false 1:=⟨aj,aj⟩
theorem Gl:aV Tryz.prog 3 false 1:=⟨aj,aj⟩
theorem QH:aV Tryz.prog 5 false 1:=⟨aj,aj⟩
theorem Pl:aV Tryz.prog 89 false 1:=⟨aj,aj⟩
theorem QI:aV Tryz.prog 9 false 1:=⟨aj,aj⟩
theorem QJ:Tryz.prog.underlying 5=some (.int .u8):=by kernel_rfl
theorem Me:Tryz.prog.underlying 139=some (.slice 5):=by kernel_rfl
def lY(k:Int)(e:Nat->Int)(n:Nat):(Int×Int)×Int:=match gW e n with
 | some i=>((k,i),e i)
 | none=>((0,0),0)
abbrev tw(r:(Int×Int)×Int):AV:=Ht r.1.1 r.1.2 r.2
theorem MA(k n:Int)(f:FuncId)(m:List AV)(er:Nat->Int)(hn:0<=n/\n<=1000000)(hro:cS.roL m=true)(eH:∀ args w,(callFunc f args).run Tryz.prog w= .ok (.enter f args) w)(hc:∀ i:Int,0<=i->i<n->bT Tryz.prog f ([]++ [mA i]++m) (λq=>q=mA (er i.toNat))):
 bT Tryz.prog 79 [.ref [mA n],.ref [.clo (.func f) [] m],.ref [mA k]] (λq=>q=tw (lY k er n.toNat)):=by
 refine cA (fn:=Tryz.f79) 22 aj rfl aj bO ?_;intro ay b7 hA bb;have bc:al ay (.tmp 0)=_:=hA 0 _ rfl;have be:al ay (.tmp 1)=_:=hA 1 _ rfl;have bg:al ay (.tmp 2)=_:=hA 2 _ rfl;have aC:b7.length=0:=by rw [bb];rfl
 clear hA bb;refine ax<|at_<|aM (cJ zb rfl aC) trivial rfl (λb8 aD=>?_)
 have aF:=bS aD aC;simp only [pS,Value.cells,Nat.reduceAdd]at aF;have aH:=bR aD aC;have aH:_=1:=aH;clear aD;refine bu (ae bc) (ae be) (ae bg) aa ?_;clear bc be bg;intro cu bj bq br bv;refine ao<|ax<|ax<|at_<|ar (az (bL Gl rfl bj aA) bQ) rfl ?_
 refine ar (ak aw) rfl<|ck (ag bq) (ag br) (ag bv) (ae aa) aa ?_;clear bj bq br bv;intro ap bx bA bB bD b9
 refine ao<|ca<|eL (S:=Int) (λi e mem=>(al e (.tmp 7)= .v (.int .i64 i))/\(al e (.tmp 1)=al ap (.tmp 1))/\(al e (.tmp 2)=al ap (.tmp 2))/\(al e (.tmp 3)=al ap (.tmp 3))/\(al e (.tmp 6)=al ap (.tmp 6))/\(mem[0]? =b8[0]?)/\(mem.length=1)/\((0<=i/\i<=n/\ ∀ j:Nat,j<i.toNat->er j=0))) (λi=>(n - i).toNat) _ ⟨b9,rfl,rfl,rfl,rfl,rfl,aH,?_⟩ ?_
 ·(exact⟨ah,ah,λj h=>absurd h ah⟩)
 ·rintro i cv cx ⟨aI,cb,cc,cd,ce,cg,aJ,hinv⟩;have bE:=cb.trans bx;have bH:=cc.trans bA;have bI:=cd.trans bB;have aK:=ce.trans bD;have ab:=cg.trans aF
  (obtain⟨p1,p2,p3⟩:=hinv)
  refine ax<|at_<|ar (c6 aI aK) rfl<|dH (ae bE) (ae bH) (ae bI) (ae aK) (ae aI) aa ?_;clear bE bH bI aK aI;intro cy aO aP ad aR au aS
  refine ao<|ax<|bk aS (λaf=>?_) (λaf=>?_)
  ·replace af:=bt af;refine bF<|ao<|ax<|ca<|ax<|at_<|ar (ak au) rfl<|ar (aB aa) rfl<|dH (ag aO) (ag aP) (ag ad) aa (ag aR) (ag au) ?_;clear aO aP ad aR au aS;intro cz aT bJ bK aU bM bN
   refine ao<|ax<|at_<|ar (az (bL Pl rfl aT aA) bQ) rfl ?_
   refine ar (ak (ae aU)) rfl<|ar (BZ (ae aa) (aG aa aN) rfl rfl hro (hc i ah ah) eH) rfl ?_
   refine ar (aB aa) rfl<|fe (ai aT) (ai bJ) (ai bK) (ai aU) aa (ai bM) (ai bN) ?_;clear aT bJ bK aU bM bN;intro cB bP bU bY bZ aV b0 b1
   refine ao<|ax<|at_<|ar (ak aV) rfl<|ar (fp aa aw) rfl<|ik (ag bP) (ag bU) (ag bY) (ag bZ) (ag aV) (ag b0) (ag b1) aa ?_;clear bP bU bY bZ aV b0 b1;intro cC aX av am aZ a2 a3 a5 a6
   refine ao<|bk a6 (λan=>?_) (λan=>?_)
   ·replace an:=ff an;refine ax<|at_<|ar (az (bL Gl rfl av aA) bQ) rfl ?_
    refine ar (ak (ae aZ)) rfl<|ar (cU (bz (ae aa) (bz aa bW)) lL lK lJ rfl) rfl ?_
    refine ar (ak (ae (ag a2))) rfl<|ar (cU (bz (ae aa) (bz aa bW)) ze zd zc rfl) rfl ?_
    refine aM (bV (ae (ai am)) aa rfl rfl ab vE rfl aA) trivial rfl (λcE a7=>?_);have a8:=bo a7 ab;simp only [pS,Value.cells,Nat.reduceAdd]at a8;have ci:=bh a7 aJ;clear a7 ab;refine bn (aE (ae (ai am))) ?_;clear a6 aX av am aZ a2 a3 a5;intro cF b2;refine ao<|bm<|cD<|bw<|bw<|cD<|bw<|bX bp aj (dz b2 a8 CQ aA aL) (eh (.ro _ rfl)) ?_
    clear b2 a8 ci
    (have h:=xy p3 (by assumption) (n:=n.toNat) ah;rw [show lY k er n.toNat=((k,i),er i.toNat)by unfold lY;rw [h];simp only [Un p1]];rfl)
   replace an:=eY an;refine bF<|cG<|ao<|at_ ?_
   (refine ar (cf a5 aw ?_) rfl ?_; · (unfold In64;omega))
   refine ar (ak aa) rfl<|ck (ag aX) (ag av) (ag am) (ag a3) aa ?_;clear a6 aX av am aZ a2 a3 a5;intro cH cj cm co cq cr
   refine ao<|⟨_,⟨cr,(cj.trans bx.symm),(cm.trans bA.symm),(co.trans bB.symm),(cq.trans bD.symm),(ab.trans aF.symm),aJ,?_⟩,?_⟩
   ·(refine⟨ah,ah,λj hj=>?_⟩;by_cases hji:j<i.toNat;(exact p3 j hji);(rw [show j=i.toNat by omega];assumption))
   ·((try dsimp only);omega)
  replace af:=bf af;refine dJ<|cw<|cw<|dI<|ao<|ax<|at_<|ar (cU bW ze zd zc rfl) rfl ?_
  refine aM (bV (ae ad) aa rfl rfl ab vE rfl aA) trivial rfl (λcI a9=>?_);have ba:=bo a9 ab;simp only [pS,Value.cells,Nat.reduceAdd]at ba;have ct:=bh a9 aJ;clear a9 ab;refine bn (aE (ae ad)) ?_;clear aO aP ad aR au aS;intro cK b6;refine ao<|bm<|bX bp aj (dz b6 ba CQ aA aL) (eh (.ro _ rfl)) ?_
  clear b6 ba ct
  (have h:=tW (f:=er) (n:=n.toNat) (λj hj=>p3 j ah);rw [show lY k er n.toNat=((0,0),0)by unfold lY;rw [h]];rfl)
def wP(l:bN):List (List AV):= [[my (dW (dX l.nam) 4)],[my (dW (decide ((0:Int)<l.bs.length/\(l.js.length:Int)=l.bs.length+1)) 10)],[my (dW (decide ((l.bs.length:Int)<=40)) 8)],
 [oI 1 l.js.length (.clo (.func 80) [] [.ref (lu l)])],[oI 2 l.bs.length (.clo (.func 83) [] [.ref (lu l)])],[my (dW (decide ((l.ss.length:Int)<=4)) 8)],[oI 3 l.ss.length (.clo (.func 84) [] [.ref (lu l)])]]
theorem tP(s:ByteArray)(hs:s.size<=1000000000):bT Tryz.prog 62 [.v (.string s)] (λq=>q= .v (.bool (dX s))):=by
 refine cA (fn:=Tryz.f62) 54 aj rfl aj bO ?_;intro bZ b0 hA bI;have bJ:al bZ (.tmp 0)=_:=hA 0 _ rfl;have b1:b0.length=0:=by rw [bI];rfl
 clear hA bI;have hsl:=EZ s;refine ax<|at_<|ar (aB aw) rfl<|bn (ae bJ) ?_;clear bJ;intro dQ bj
 refine ao<|ax<|ax<|at_<|ar (ak bj) rfl<|ar (Ql cK Me QJ aa) rfl<|ar (az (cx aa rfl CP.1) ct) rfl ?_
 refine ar (ak aw) rfl<|bu (ai bj) (ag aa) (ae aa) aa ?_;clear bj;intro bo bM bN bP b2
 refine ao<|ca<|eL (S:=Int) (λi e mem=>(al e (.tmp 9)= .v (.int .i64 i))/\(al e (.tmp 0)=al bo (.tmp 0))/\(al e (.tmp 7)=al bo (.tmp 7))/\(al e (.tmp 8)=al bo (.tmp 8))/\(mem.length=0)/\((0<=i/\i<=s.data.toList.length/\ ∀ j:Nat,j<i.toNat->okB j (s.data.toList.getD j default)=true))) (λi=>(s.data.toList.length - i).toNat) _ ⟨b2,rfl,rfl,rfl,b1,?_⟩ ?_
 ·exact⟨ah,ah,λj hj=>by omega⟩
 ·rintro i dR bR ⟨bv,b6,b8,b9,bb,hinv⟩;have bS:=b6.trans bM;have bU:=b8.trans bN;have bx:=b9.trans bP;refine ax<|at_<|ar (c6 bv bx) rfl<|ck (ae bS) (ae bU) (ae bx) (ae bv) aa ?_;clear bS bU bx bv;intro dU aP aU bc aS be
  refine ao<|ax<|bk be (λaV=>?_) (λaV=>?_)
  ·replace aV:=bt aV;refine bF<|ao<|ax<|ca<|ax<|at_<|ar (ak aS) rfl<|ar (az (cE CP (ae aU) (ae aS) ah (by(refine dq ?_;omega))) bQ) rfl ?_
   refine ar (az (bL QH rfl aa aA) bQ) rfl ?_;refine ar (aB (ag aa)) rfl<|ar (aB (ae aa)) rfl<|dH (ae (ai aP)) (ae aa) aa (ae (ai aU)) (ae (ai bc)) (ae (ai aS)) ?_;clear aP be aU bc aS;intro aT aG aI ad aJ aK aL
   refine ao<|ax<|fZ (λe mem=>(al e (.tmp 5)= .v (.bool (gz (s.data.toList.getD i.toNat default).toNat)))/\(al e (.tmp 0)=al aT (.tmp 0))/\(al e (.tmp 3)=al aT (.tmp 3))/\(al e (.tmp 4)=al aT (.tmp 4))/\(al e (.tmp 7)=al aT (.tmp 7))/\(al e (.tmp 8)=al aT (.tmp 8))/\(al e (.tmp 9)=al aT (.tmp 9))/\bR=mem) ?_ ?_
   ·
    refine at_<|ar (ak ad) rfl<|ar (lH aa aw) rfl<|ar (ak aa) rfl<|bK aa (λaM aX=>?_) (λaM aX=>?_)
    ·replace aX:=bt aX;refine aF (ak (ae (ag ad))) ⟨_,rfl,aM⟩ rfl ?_;refine aF (gw aa aw) ⟨_,rfl,(ae aM)⟩ rfl ?_;refine ar (bq (ag aM) aa) rfl<|ar (ak aa) rfl<|bK aa (λan aZ=>?_) (λan aZ=>?_)
     ·replace aZ:=bt aZ;refine aC ⟨_,rfl,.inl an⟩ rfl ?_;refine aC ⟨_,rfl,.inl (ae an)⟩ rfl ?_;refine aC ⟨_,rfl,.inl (ag an)⟩ rfl ?_;refine aC ⟨_,rfl,.inr aa⟩ rfl ?_;refine aC ⟨_,rfl,.inr (ae aa)⟩ rfl ?_;refine aC ⟨_,rfl,.inl (ae (ai an))⟩ rfl ?_;refine ar (bq (ag (ai an)) aw) rfl<|ar (aB aa) rfl<|fe (ae (ag (ai (ay aG)))) (ae (ag (ai (ay aI)))) (ae (ag (ai (ay ad)))) aa (ae (ag (ai (ay aJ)))) (ae (ag (ai (ay aK)))) (ae (ag (ai (ay aL)))) ?_;intro dV cb cc cd ce cg ci cj
      refine ao ⟨(ce).trans (by(refine b7 ?_;simp only [gz,decide_eq_true_eq,SV,true_iff,false_iff];omega)),(cb).trans (aG).symm,(cc).trans (aI).symm,(cd).trans (ad).symm,(cg).trans (aJ).symm,(ci).trans (aK).symm,(cj).trans (aL).symm,rfl⟩
     replace aZ:=bf aZ;refine aF (ak (ae (ag (ai ad)))) ⟨_,rfl,an⟩ rfl ?_;refine aF (lH aa aw) ⟨_,rfl,(ae an)⟩ rfl ?_;refine aF (ak aa) ⟨_,rfl,(ag an)⟩ rfl ?_;refine bK aa (λbg a2=>?_) (λbg a2=>?_)
     ·replace a2:=bt a2;refine aF (ak (ag (ay ad))) ⟨_,rfl,bg⟩ rfl ?_;refine aF (gw aa aw) ⟨_,rfl,(ae bg)⟩ rfl ?_;refine aF (bq (ag bg) aa) ⟨_,rfl,(ae (ai an))⟩ rfl ?_;refine ar (br (ag (ai an)) aa) rfl<|ar (aB aa) rfl<|fe (ae (ag (ai (ay aG)))) (ae (ag (ai (ay aI)))) (ae (ag (ai (ay ad)))) aa (ae (ag (ai (ay aJ)))) (ae (ag (ai (ay aK)))) (ae (ag (ai (ay aL)))) ?_;intro dW cm co cq cr cu cv cy
      refine ao ⟨(cr).trans (by(refine b7 ?_;simp only [gz,decide_eq_true_eq,SV,true_iff,false_iff];omega)),(cm).trans (aG).symm,(co).trans (aI).symm,(cq).trans (ad).symm,(cu).trans (aJ).symm,(cv).trans (aK).symm,(cy).trans (aL).symm,rfl⟩
     ·replace a2:=bf a2;exfalso;omega
    replace aX:=bf aX;refine aC ⟨_,rfl,.inl aM⟩ rfl ?_;refine aC ⟨_,rfl,.inl (ae aM)⟩ rfl ?_;refine ar (br (ag aM) aw) rfl<|ar (ak aa) rfl<|aF (ak (ae (ag (ai ad)))) ⟨_,rfl,aa⟩ rfl ?_
    refine aF (lH aa aw) ⟨_,rfl,(ae aa)⟩ rfl ?_;refine aF (ak aa) ⟨_,rfl,(ag aa)⟩ rfl ?_;refine bK aa (λaN a3=>?_) (λaN a3=>?_)
    ·replace a3:=bt a3;refine aF (ak (ag (ay ad))) ⟨_,rfl,aN⟩ rfl ?_;refine aF (gw aa aw) ⟨_,rfl,(ae aN)⟩ rfl ?_;refine aF (bq (ag aN) aa) ⟨_,rfl,(ae (ai aa))⟩ rfl ?_;refine ar (br (ag (ai aa)) aa) rfl<|ar (aB aa) rfl<|fe (ae (ag (ai (ay aG)))) (ae (ag (ai (ay aI)))) (ae (ag (ai (ay ad)))) aa (ae (ag (ai (ay aJ)))) (ae (ag (ai (ay aK)))) (ae (ag (ai (ay aL)))) ?_;intro dY cz cB cC cF cH cI cJ
     refine ao ⟨(cF).trans (by(refine b7 ?_;simp only [gz,decide_eq_true_eq,SV,true_iff,false_iff];omega)),(cz).trans (aG).symm,(cB).trans (aI).symm,(cC).trans (ad).symm,(cH).trans (aJ).symm,(cI).trans (aK).symm,(cJ).trans (aL).symm,rfl⟩
    replace a3:=bf a3;refine aC ⟨_,rfl,.inl aN⟩ rfl ?_;refine aC ⟨_,rfl,.inl (ae aN)⟩ rfl ?_;refine aF (br (ag aN) aw) ⟨_,rfl,(ae (ai aa))⟩ rfl ?_;refine ar (br (ag (ai aa)) aa) rfl<|ar (aB aa) rfl<|fe (ae (ag (ai (ay aG)))) (ae (ag (ai (ay aI)))) (ae (ag (ai (ay ad)))) aa (ae (ag (ai (ay aJ)))) (ae (ag (ai (ay aK)))) (ae (ag (ai (ay aL)))) ?_;intro dZ cL cM cN cO cP cQ cR
    refine ao ⟨(cO).trans (by(refine b7 ?_;simp only [gz,decide_eq_true_eq,SV,true_iff,false_iff];omega)),(cL).trans (aG).symm,(cM).trans (aI).symm,(cN).trans (ad).symm,(cP).trans (aJ).symm,(cQ).trans (aK).symm,(cR).trans (aL).symm,rfl⟩
   ·rintro bh _ ⟨cS,cU,cV,cW,cX,cY,cZ,rfl⟩;have ap:=cU.trans aG;have c7:=cV.trans aI;have bz:=cW.trans ad;have au:=cX.trans aJ;have av:=cY.trans aK;have aD:=cZ.trans aL;refine ax<|fZ (λe mem=>(al e (.tmp 45)= .v (.bool (!okB i.toNat (s.data.toList.getD i.toNat default))))/\(al e (.tmp 0)=al bh (.tmp 0))/\(al e (.tmp 7)=al bh (.tmp 7))/\(al e (.tmp 8)=al bh (.tmp 8))/\(al e (.tmp 9)=al bh (.tmp 9))/\bR=mem) ?_ ?_
    ·
     refine at_<|ar (ak cS) rfl<|ar (dT aa) rfl<|ar (ak aa) rfl<|bK aa (λab a5=>?_) (λab a5=>?_)
     ·replace a5:=ff a5;refine aF (ak (ae (ag c7))) ⟨_,rfl,ab⟩ rfl ?_;refine aF (dN aa aw) ⟨_,rfl,(ae ab)⟩ rfl ?_;refine aF (ak aa) ⟨_,rfl,(ag ab)⟩ rfl ?_;refine bK aa (λaf a6=>?_) (λaf a6=>?_)
      ·replace a6:=bt a6;refine aC ⟨_,rfl,.inl af⟩ rfl ?_;refine aC ⟨_,rfl,.inl (ae af)⟩ rfl ?_;refine aC ⟨_,rfl,.inl (ag af)⟩ rfl ?_;refine aC ⟨_,rfl,.inr aa⟩ rfl ?_;refine aC ⟨_,rfl,.inr (ae aa)⟩ rfl ?_;refine aC ⟨_,rfl,.inr (ag aa)⟩ rfl ?_;refine aC ⟨_,rfl,.inr aa⟩ rfl ?_;refine aC ⟨_,rfl,.inr (ae aa)⟩ rfl ?_;refine aC ⟨_,rfl,.inr (ae (ai aa))⟩ rfl ?_;refine aC ⟨_,rfl,.inl (ae (ay af))⟩ rfl ?_;refine aF (bq (ag (ay af)) aw) ⟨_,rfl,(ae (ai (ay ab)))⟩ rfl ?_;refine ar (bq (ag (ai (ay ab))) aa) rfl<|ck (ag (aH ap)) (ag (aH au)) (ag (aH av)) (ag (aH aD)) aa ?_;intro ea c8 c9 da db dc
       refine ao ⟨(dc).trans (by(refine b7 ?_;simp only [gz,okB,decide_eq_true_eq,decide_eq_false_iff_not,SV,true_iff,false_iff,Tz]at*;omega)),(c8).trans (ap).symm,(c9).trans (au).symm,(da).trans (av).symm,(db).trans (aD).symm,rfl⟩
      replace a6:=bf a6;refine aF (ak (ag (ai bz))) ⟨_,rfl,af⟩ rfl ?_;refine aF (fp aa aw) ⟨_,rfl,(ae af)⟩ rfl ?_;refine aF (ak aa) ⟨_,rfl,(ag af)⟩ rfl ?_;refine bK aa (λam a7=>?_) (λam a7=>?_)
      ·replace a7:=ff a7;refine aF (ak (ae (ay bz))) ⟨_,rfl,am⟩ rfl ?_;refine aF (c6 aa aw) ⟨_,rfl,(ae am)⟩ rfl ?_;refine aF (ak aa) ⟨_,rfl,(ag am)⟩ rfl ?_;refine bK aa (λaO a8=>?_) (λaO a8=>?_)
       ·replace a8:=bt a8;refine aC ⟨_,rfl,.inl aO⟩ rfl ?_;refine aC ⟨_,rfl,.inl (ae aO)⟩ rfl ?_;refine aF (bq (ag aO) aw) ⟨_,rfl,(ae (ai am))⟩ rfl ?_;refine aF (bq (ag (ai am)) aa) ⟨_,rfl,(ae (ay af))⟩ rfl ?_;refine aF (br (ag (ay af)) aa) ⟨_,rfl,(ae (ai (ay ab)))⟩ rfl ?_;refine ar (bq (ag (ai (ay ab))) aa) rfl<|ck (ag (aH ap)) (ag (aH au)) (ag (aH av)) (ag (aH aD)) aa ?_;intro eb dd de df dg dh
        refine ao ⟨(dh).trans (by(refine b7 ?_;simp only [gz,okB,decide_eq_true_eq,decide_eq_false_iff_not,SV,true_iff,false_iff,Tz]at*;omega)),(dd).trans (ap).symm,(de).trans (au).symm,(df).trans (av).symm,(dg).trans (aD).symm,rfl⟩
       replace a8:=bf a8;refine aF (ak (ai (ay bz))) ⟨_,rfl,aO⟩ rfl ?_;refine aF (eF aa aw) ⟨_,rfl,(ae aO)⟩ rfl ?_;refine aF (br (ag aO) aa) ⟨_,rfl,(ae (ai am))⟩ rfl ?_;refine aF (bq (ag (ai am)) aa) ⟨_,rfl,(ae (ay af))⟩ rfl ?_;refine aF (br (ag (ay af)) aa) ⟨_,rfl,(ae (ai (ay ab)))⟩ rfl ?_;refine ar (bq (ag (ai (ay ab))) aa) rfl<|ck (ag (aH ap)) (ag (aH au)) (ag (aH av)) (ag (aH aD)) aa ?_;intro ec dk dl dm dn dr
       refine ao ⟨(dr).trans (by(refine b7 ?_;simp only [gz,okB,decide_eq_true_eq,decide_eq_false_iff_not,SV,true_iff,false_iff,Tz]at*;omega)),(dk).trans (ap).symm,(dl).trans (au).symm,(dm).trans (av).symm,(dn).trans (aD).symm,rfl⟩
      replace a7:=eY a7;refine aC ⟨_,rfl,.inl am⟩ rfl ?_;refine aC ⟨_,rfl,.inl (ae am)⟩ rfl ?_;refine aC ⟨_,rfl,.inl (ag am)⟩ rfl ?_;refine aC ⟨_,rfl,.inr aa⟩ rfl ?_;refine aC ⟨_,rfl,.inr (ae aa)⟩ rfl ?_;refine aC ⟨_,rfl,.inl (ae (ai am))⟩ rfl ?_;refine aF (br (ag (ai am)) aw) ⟨_,rfl,(ae (ay af))⟩ rfl ?_;refine aF (br (ag (ay af)) aa) ⟨_,rfl,(ae (ai (ay ab)))⟩ rfl ?_;refine ar (bq (ag (ai (ay ab))) aa) rfl<|ck (ag (aH ap)) (ag (aH au)) (ag (aH av)) (ag (aH aD)) aa ?_;intro ed dt du dv dw dy
      refine ao ⟨(dy).trans (by(refine b7 ?_;simp only [gz,okB,decide_eq_true_eq,decide_eq_false_iff_not,SV,true_iff,false_iff,Tz]at*;omega)),(dt).trans (ap).symm,(du).trans (au).symm,(dv).trans (av).symm,(dw).trans (aD).symm,rfl⟩
     replace a5:=eY a5;refine aC ⟨_,rfl,.inl ab⟩ rfl ?_;refine aC ⟨_,rfl,.inl (ae ab)⟩ rfl ?_;refine aC ⟨_,rfl,.inl (ag ab)⟩ rfl ?_;refine aC ⟨_,rfl,.inr aa⟩ rfl ?_;refine aC ⟨_,rfl,.inr (ae aa)⟩ rfl ?_;refine aC ⟨_,rfl,.inr (ag aa)⟩ rfl ?_;refine aC ⟨_,rfl,.inr aa⟩ rfl ?_;refine aC ⟨_,rfl,.inr (ae aa)⟩ rfl ?_;refine aC ⟨_,rfl,.inr (ag aa)⟩ rfl ?_;refine aC ⟨_,rfl,.inr aa⟩ rfl ?_;refine aC ⟨_,rfl,.inr (ae aa)⟩ rfl ?_;refine aC ⟨_,rfl,.inr (ae (ai aa))⟩ rfl ?_;refine aC ⟨_,rfl,.inr (ae (ay aa))⟩ rfl ?_;refine aC ⟨_,rfl,.inl (ae (ai (ay ab)))⟩ rfl ?_;refine ar (br (ag (ai (ay ab))) aw) rfl<|ck (ag (aH ap)) (ag (aH au)) (ag (aH av)) (ag (aH aD)) aa ?_;intro ee dz dA dB dC dD
     refine ao ⟨(dD).trans (by(refine b7 ?_;simp only [gz,okB,decide_eq_true_eq,decide_eq_false_iff_not,SV,true_iff,false_iff,Tz]at*;omega)),(dz).trans (ap).symm,(dA).trans (au).symm,(dB).trans (av).symm,(dC).trans (aD).symm,rfl⟩
    ·rintro ef _ ⟨bA,dE,dF,dG,dK,rfl⟩;have bB:=dE.trans ap;have bD:=dF.trans au;have bE:=dG.trans av;have bH:=dK.trans aD;refine bk bA (λa9=>?_) (λa9=>?_)
     ·replace a9:=ff a9;refine ax<|at_<|ar (aB aw) rfl<|bn aa ?_;clear bB bA bD bE bH;intro eg bV
      refine ao<|bm<|cD<|bw<|bw<|cD<|bw<|bX bp aj (aR bV) (.ro _ rfl) ?_
      clear bV bb
      (obtain⟨h1,h2,h3⟩:=hinv;have hn:ni s.data.toList=false:=Ge (i:=i.toNat) ah (by(exact G1 (by assumption)));simp [dX,hn])
     replace a9:=eY a9;refine bF<|cG<|ao<|at_ ?_
     (refine ar (cf bH aw ?_) rfl ?_; · (unfold In64;omega))
     refine ar (ak aa) rfl<|bu (ag bB) (ag bD) (ag bE) aa ?_;clear bB bA bD bE bH;intro eh dL dM dO dP
     refine ao<|⟨_,⟨dP,(dL.trans bM.symm),(dM.trans bN.symm),(dO.trans bP.symm),bb,?_⟩,?_⟩
     ·(obtain⟨h1,h2,h3⟩:=hinv;refine⟨ah,ah,λj hj=>?_⟩;by_cases hj':j<i.toNat;exact h3 j hj';have hji:j=i.toNat:=ah;rw [hji];(exact G0 ah))
     ·((try dsimp only);omega)
  replace aV:=bf aV;refine dJ<|cw<|cw<|dI<|ao<|ax<|at_<|ar (ak aP) rfl<|ar (dS aa aw) rfl<|ar (ak aa) rfl<|bK aa (λaE ba=>?_) (λaE ba=>?_)
  ·replace ba:=cT ba;refine aF (ak (ae (ag aP))) ⟨_,rfl,aE⟩ rfl ?_;refine aF (eE aa rfl cK) ⟨_,rfl,(ae aE)⟩ rfl ?_;refine aF (gw aa aw) ⟨_,rfl,(ag aE)⟩ rfl ?_;refine ar (bq (ae (ag aE)) aa) rfl<|ar (aB aa) rfl<|bn aa ?_;clear aE aP be aU bc aS;intro en bW
   refine ao<|bm<|bX bp aj (aR bW) (.ro _ rfl) ?_
   clear bW bb
   (obtain⟨h1,h2,h3⟩:=hinv;have hn:ni s.data.toList=true:=(zE λj hj=>h3 j ah);refine b7 ?_;simp only [A8,dX,hn,UH,SS,decide_eq_true_eq,Tz,decide_eq_false_iff_not,SV,false_iff,true_iff,Bool.not_eq_false']at*;omega)
  replace ba:=di ba;refine aC ⟨_,rfl,.inl aE⟩ rfl ?_;refine aC ⟨_,rfl,.inl (ae aE)⟩ rfl ?_;refine aC ⟨_,rfl,.inl (ag aE)⟩ rfl ?_;refine ar (br (ae (ag aE)) aw) rfl<|ar (aB aa) rfl<|bn aa ?_;clear aE aP be aU bc aS;intro ep bY
  refine ao<|bm<|bX bp aj (aR bY) (.ro _ rfl) ?_
  clear bY bb
  (obtain⟨h1,h2,h3⟩:=hinv;have hn:ni s.data.toList=true:=(zE λj hj=>h3 j ah);refine b7 ?_;simp only [A8,dX,hn,UH,SS,decide_eq_true_eq,Tz,decide_eq_false_iff_not,SV,false_iff,true_iff,Bool.not_eq_false']at*;omega)
theorem JD(l:bN)(hl:fw l):bT Tryz.prog 66 [gA l] (λq=>q= .row 1 (wP l)):=by
 obtain⟨h1,h2,h3,h4,h5⟩:=id hl;refine cA (fn:=Tryz.f66) 61 aj rfl aj bO ?_;intro aJ aK hA ap;have au:al aJ (.tmp 0)=_:=hA 0 _ rfl;have av:aK.length=0:=by rw [ap];rfl
 clear hA ap;refine ax<|at_<|ar (sj au rfl dY) rfl ?_
 refine ar (aB aw) rfl<|bn (ae aa) ?_;clear au;intro aL aC
 refine ao<|ax<|at_<|ar (aB Aa) rfl<|bD (ae aC) aa ?_;clear aC;intro aM aD aE
 refine ao<|ax<|at_<|ar (aB Aa) rfl<|bB (ae aD) (ae aE) aa ?_;clear aD aE;intro aO ab af am
 refine ao<|ax<|eu 57 aj aj aj aj ?_
 refine dr (ak af) rfl<|dr (az (cj qy rfl (ae ab)) bQ) rfl ?_
 refine dr (az (bL QI rfl aa aA) bQ) rfl ?_;refine dr (bI (aG aa aN) rfl (tP l.nam ah) vD) rfl ?_;refine dr (bI (aG aa (aG aw aN)) rfl (fJ _ _) fK) rfl<|dr (jT (ai aa) (aG aa aN) rfl (oZ _) o6) rfl<|dr (ak (ag (ai af))) rfl<|dr (az (cj eK rfl (ae (ag (ai ab)))) bQ) rfl ?_
 refine dr (az (bL qF rfl aa aA) bQ) rfl ?_;refine dr (az (cx aa rfl qE.1) ct) rfl ?_;refine dr (eF aa aw) rfl<|dr (ak aa) rfl<|lB aa (λad an=>?_) (λad an=>?_)
 ·replace an:=bt an;refine dm (az (cj fk rfl (ai (ay ab))) bQ) ⟨_,rfl,ad⟩ rfl ?_;refine dm (az (bL yI rfl aa aA) bQ) ⟨_,rfl,(ae ad)⟩ rfl ?_;refine dm (az (cx aa rfl yH.1) ct) ⟨_,rfl,(ag ad)⟩ rfl ?_;refine dm (az (cj eK rfl (ae (ag (ai (ay ab))))) bQ) ⟨_,rfl,(ae (ag ad))⟩ rfl ?_;refine dm (az (bL qF rfl aa aA) bQ) ⟨_,rfl,(ai ad)⟩ rfl ?_;refine dm (az (cx aa rfl qE.1) ct) ⟨_,rfl,(ae (ai ad))⟩ rfl ?_
  (refine dm (cf aa aw ?_) ⟨_,rfl,(ag (ai ad))⟩ rfl ?_; · (unfold In64;omega))
  refine dm (dN (ai aa) aa) ⟨_,rfl,(ae (ag (ai ad)))⟩ rfl ?_;refine dr (bq (ay ad) aa) rfl<|dr (bI (aG aa (aG aw aN)) rfl (fJ _ _) fK) rfl<|dr (jT (ae (ag (ai (ay aa)))) (aG aa aN) rfl (oZ _) o6) rfl<|dr (ak (ae (ag (ai (aH af))))) rfl<|dr (az (cj eK rfl (ay (aH ab))) bQ) rfl ?_
  refine dr (az (bL qF rfl aa aA) bQ) rfl ?_;refine dr (az (cx aa rfl qE.1) ct) rfl ?_;refine dr (gw aa aw) rfl<|dr (bI (aG aa (aG aw aN)) rfl (fJ _ _) fK) rfl<|dr (jT (ae (ai aa)) (aG aa aN) rfl (oZ _) o6) rfl<|dr (ak (ag (ai (ay (aH am))))) rfl<|dr (az (cj fk rfl (ae (ag (ai (ay (aH ab)))))) bQ) rfl ?_
  refine dr (az (bL yI rfl aa aA) bQ) rfl ?_;refine dr (az (cx aa rfl yH.1) ct) rfl ?_;refine dr (kT aN (aG (ag (aH (aH ab))) aN)) rfl<|dr (jT (ai aa) (aG aw (aG (ae aa) (aG aa aN))) rfl (qD _ _ _ _ rfl) qo) rfl<|dr (ak (ai (aH (aH am)))) rfl<|dr (az (cj eK rfl (ae (ai (aH (aH ab))))) bQ) rfl ?_
  refine dr (az (bL qF rfl aa aA) bQ) rfl ?_;refine dr (az (cx aa rfl qE.1) ct) rfl ?_;refine dr (kT aN (aG (ay (aH (aH ab))) aN)) rfl<|dr (jT (ai aa) (aG aw (aG (ae aa) (aG aa aN))) rfl (qD _ _ _ _ rfl) qo) rfl<|dr (ak (ag (ay (aH (aH af))))) rfl<|dr (az (cj gu rfl (ae (ag (ay (aH (aH ab)))))) bQ) rfl ?_
  refine dr (az (bL vj rfl aa aA) bQ) rfl ?_;refine dr (az (cx aa rfl vi.1) ct) rfl ?_;refine dr (gw aa aw) rfl<|dr (bI (aG aa (aG aw aN)) rfl (fJ _ _) fK) rfl<|dr (jT (ae (ai aa)) (aG aa aN) rfl (oZ _) o6) rfl<|dr (ak (ae (aH (aH (aH am))))) rfl<|dr (az (cj gu rfl (ag (aH (aH (aH ab))))) bQ) rfl ?_
  refine dr (az (bL vj rfl aa aA) bQ) rfl ?_;refine dr (az (cx aa rfl vi.1) ct) rfl ?_;refine dr (kT aN (aG (ae (ai (aH (aH (aH ab))))) aN)) rfl<|dr (jT (ai aa) (aG aw (aG (ae aa) (aG aa aN))) rfl (qD _ _ _ _ rfl) qo) rfl<|dr (ep CO (bz (ae (aH (aH (aH aa)))) (bz (aH (aH aa)) (bz (ae (ay (aH aa))) (bz (ae (ag (aH aa))) (bz (ae (ai (ay aa))) (bz (ag (ai aa)) (bz aa bW))))))) rfl rfl rfl rfl) rfl<|dr (aB aa) rfl<|dE<|bn aa ?_;clear ad ab af am;intro aP aF
  refine ao<|bm<|bX bp aj (aR aF) (.ro _ rfl) ?_
  clear aF av
  (have hp:(0:Int)<l.bs.length:=(by assumption);have hd:decide ((0:Int)<l.bs.length/\(l.js.length:Int)=l.bs.length+1)=decide ((l.js.length:Int)=l.bs.length+1):=decide_eq_decide.2 ⟨λh=>h.2,λh=>⟨hp,h⟩⟩;unfold wP;rw [hd])
 replace an:=bf an;refine c8 ⟨_,rfl,.inl ad⟩ rfl ?_;refine c8 ⟨_,rfl,.inl (ae ad)⟩ rfl ?_;refine c8 ⟨_,rfl,.inl (ag ad)⟩ rfl ?_;refine c8 ⟨_,rfl,.inl (ae (ag ad))⟩ rfl ?_;refine c8 ⟨_,rfl,.inl (ai ad)⟩ rfl ?_;refine c8 ⟨_,rfl,.inl (ae (ai ad))⟩ rfl ?_;refine c8 ⟨_,rfl,.inl (ag (ai ad))⟩ rfl ?_;refine c8 ⟨_,rfl,.inl (ae (ag (ai ad)))⟩ rfl ?_;refine dr (br (ay ad) aw) rfl<|dr (bI (aG aa (aG aw aN)) rfl (fJ _ _) fK) rfl<|dr (jT (ae (ag (ai (ay aa)))) (aG aa aN) rfl (oZ _) o6) rfl<|dr (ak (ae (ag (ai (aH af))))) rfl<|dr (az (cj eK rfl (ay (aH ab))) bQ) rfl ?_
 refine dr (az (bL qF rfl aa aA) bQ) rfl ?_;refine dr (az (cx aa rfl qE.1) ct) rfl ?_;refine dr (gw aa aw) rfl<|dr (bI (aG aa (aG aw aN)) rfl (fJ _ _) fK) rfl<|dr (jT (ae (ai aa)) (aG aa aN) rfl (oZ _) o6) rfl<|dr (ak (ag (ai (ay (aH am))))) rfl<|dr (az (cj fk rfl (ae (ag (ai (ay (aH ab)))))) bQ) rfl ?_
 refine dr (az (bL yI rfl aa aA) bQ) rfl ?_;refine dr (az (cx aa rfl yH.1) ct) rfl ?_;refine dr (kT aN (aG (ag (aH (aH ab))) aN)) rfl<|dr (jT (ai aa) (aG aw (aG (ae aa) (aG aa aN))) rfl (qD _ _ _ _ rfl) qo) rfl<|dr (ak (ai (aH (aH am)))) rfl<|dr (az (cj eK rfl (ae (ai (aH (aH ab))))) bQ) rfl ?_
 refine dr (az (bL qF rfl aa aA) bQ) rfl ?_;refine dr (az (cx aa rfl qE.1) ct) rfl ?_;refine dr (kT aN (aG (ay (aH (aH ab))) aN)) rfl<|dr (jT (ai aa) (aG aw (aG (ae aa) (aG aa aN))) rfl (qD _ _ _ _ rfl) qo) rfl<|dr (ak (ag (ay (aH (aH af))))) rfl<|dr (az (cj gu rfl (ae (ag (ay (aH (aH ab)))))) bQ) rfl ?_
 refine dr (az (bL vj rfl aa aA) bQ) rfl ?_;refine dr (az (cx aa rfl vi.1) ct) rfl ?_;refine dr (gw aa aw) rfl<|dr (bI (aG aa (aG aw aN)) rfl (fJ _ _) fK) rfl<|dr (jT (ae (ai aa)) (aG aa aN) rfl (oZ _) o6) rfl<|dr (ak (ae (aH (aH (aH am))))) rfl<|dr (az (cj gu rfl (ag (aH (aH (aH ab))))) bQ) rfl ?_
 refine dr (az (bL vj rfl aa aA) bQ) rfl ?_;refine dr (az (cx aa rfl vi.1) ct) rfl ?_;refine dr (kT aN (aG (ae (ai (aH (aH (aH ab))))) aN)) rfl<|dr (jT (ai aa) (aG aw (aG (ae aa) (aG aa aN))) rfl (qD _ _ _ _ rfl) qo) rfl<|dr (ep CO (bz (ae (aH (aH (aH aa)))) (bz (aH (aH aa)) (bz (ae (ay (aH aa))) (bz (ae (ag (aH aa))) (bz (ae (ai (ay aa))) (bz (ag (ai aa)) (bz aa bW))))))) rfl rfl rfl rfl) rfl<|dr (aB aa) rfl<|dE<|bn aa ?_;clear ad ab af am;intro aS aI
 refine ao<|bm<|bX bp aj (aR aI) (.ro _ rfl) ?_
 clear aI av
 (have hd:decide ((0:Int)<l.bs.length/\(l.js.length:Int)=l.bs.length+1)=false:=decide_eq_false (λh=>absurd h.1 ah);unfold wP;rw [hd])
end Go.Proofs.YtfoaiidcfkmneaaGreatDoor
namespace Go.Proofs.YtfoaiidcfkmneaaGreatDoor
open Go Go.RowKit Go.Proofs Go.Lib
theorem MB:(Tryz.prog.info? 49).bind (·.zero)=some (.agg #[.int .i64 0,.int .i64 0,.int .i64 0]):=by kernel_rfl
theorem MC:∀ w,((eX Tryz.prog 49).mapM λf=>Prod.mk f.offset<$>sizeOf f.type:Sem (Array (Nat×Nat))).run Tryz.prog w= .ok (#[(0,2),(2,1)]) w:=λ_=>by kernel_rfl
theorem xm:cu Tryz.prog 56 3 6 true 2:=by unfold cu;kernel_rfl
theorem JE:∀ args w,(callFunc 61 args).run Tryz.prog w= .ok (.enter 61 args) w:=λ_ _=>by kernel_rfl
theorem uy:b9 Tryz.prog 52 54 2 24 (.agg #[.string ByteArray.empty,.int .i64 0]):=⟨aj,aj,aj⟩
theorem E5:aV Tryz.prog 3 false 1:=⟨aj,aj⟩
theorem uz:aV Tryz.prog 52 false 1:=⟨aj,aj⟩
theorem uB:aV Tryz.prog 54 true 2:=⟨aj,aj⟩
theorem Pm:aV Tryz.prog 9 false 1:=⟨aj,aj⟩
structure Wd where
 txt:ByteArray
 col:Int
 deriving Inhabited
def aQ(w:Wd):List AV:= [.v (.string w.txt),.v (.int .i64 w.col)]
theorem qG(w:Wd)(ws:List Wd):((w::ws).map aQ).drop (1:Int).toNat =ws.map aQ:=rfl
theorem rk(w:Wd)(ws:List Wd):(w::ws).getD (0:Int).toNat default=w:=rfl
def aW(nam:ByteArray)(J B S M:AV)(cnt:Int)(ws:List Wd)(last:Wd)(kind:ByteArray):List AV:= [.v (.string nam),J,B,S,.v (.int .i64 cnt),.row 2 (ws.map aQ),.v (.string last.txt),.v (.int .i64 last.col),.v (.string kind),M]
def aY:Nat:=56
def gp(cnt col e:Int):Value:=.iface 49 (.agg #[.int .i64 cnt,.int .i64 col,.int .i64 e])
theorem QK(w:Wd)(h: -1000000000<=w.col/\w.col<=1000000000)(hs:w.txt.size<=1000000000):bT Tryz.prog 61 [.agg (aQ w)] (λq=>q=mA (w.col+w.txt.size)):=by
 refine cA (fn:=Tryz.f61) 9 aj rfl aj bO ?_;intro ap au hA ak;have am:al ap (.tmp 0)=_:=hA 0 _ rfl;have ab:au.length=0:=by rw [ak];rfl
 clear hA ak;refine ax<|at_<|aM (fD am rfl ab) trivial rfl (λav ad=>?_)
 have af:=bS ad ab;have ah:=bR ad ab;have ah:_=1:=ah;clear ad;refine ar (aB aw) rfl<|bn (ae aa) ?_;clear am;intro ay ai
 refine ao<|ax<|at_<|ar (aJ jV rfl ai) rfl<|ar (az (aK E5 rfl af aa aA) bQ) rfl ?_
 refine ar (aJ iu rfl (ag ai)) rfl<|ar (az (aK Pm rfl af aa aA) bQ) rfl ?_
 refine ar (eE aa rfl cK) rfl ?_
 (refine ar (cf (ae (ag aa)) aa ?_) rfl ?_; · (unfold In64;omega))
 refine ar (aB aa) rfl<|bn aa ?_;clear ai;intro aC an
 refine ao<|bm<|bX bp aj (aR an) (.ro _ rfl) ?_
 clear an af ah;rfl
section
variable {mem:List Ob} {n:Nat} (hn:mem.length=n) {b:Nat} {nam:ByteArray} {J B S M:AV} {cnt:Int} {w:Wd} {ws:List Wd} {last:Wd} {kind:ByteArray}
include hn
theorem ix(hb:mem[b]? =some (.box aY (aW nam J B S M cnt ws last kind)))(col e:Int):ew Tryz.prog 38 [.ptr b 0,mA col,mA e] mem (λ_ _=>False) (λv m'=>v=gp cnt col e/\bP mem m' (λj=>j=b)):=by
 refine gr (fn:=Tryz.f38) 15 aj rfl aj bO ?_;intro ad af hA ab;have am:al ad (.tmp 0)=_:=hA 0 _ rfl;have an:al ad (.tmp 1)=_:=hA 1 _ rfl;have ao:al ad (.tmp 2)=_:=hA 2 _ rfl;have au:af.length=n:=by rw [ab];exact hn
 have ah:af[b]? =_:=(congrArg (λq=>q[b]?) ab).trans hb;simp only [pS,Value.cells,Nat.reduceAdd,aW,aY]at ah;have ap:bP mem af (λj=>j=b):=by rw [ab];exact bP.refl _ _
 clear hA ab;refine at_<|ar (ak am) rfl<|ar (bU aa) rfl<|ar (aJ iU rfl aa) rfl<|ar (az (aK E5 rfl ah aa aA) qP) rfl ?_
 refine ar (ak (ai an)) rfl<|ar (cU (bz (ae aa) (bz aa bW)) mi mh mg rfl) rfl ?_
 refine ar (ak (ag (ai ao))) rfl<|ar (cU (bz (ae aa) (bz aa bW)) MB zR MC rfl) rfl ?_
 refine ar (IS [_,_,_] zR rfl aa) rfl<|LR aa trivial ?_
 repeat (first|refine eG ?_|refine gJ ?_|refine zB ?_)
 exact⟨_,rfl,rfl,ap⟩
theorem lC(hb:mem[b]? =some (.box aY (aW nam J B S M cnt (w::ws) last kind)))(hl:ws.length<=1000000):ew Tryz.prog 37 [.ptr b 0] mem (λr m'=>r= .agg (aQ w)/\bP mem m' (λj=>j=b)/\m'[b]? =some (.box aY (aW nam J B S M cnt ws w kind))) (λ_ _=>False):=by
 have hbn:=cL hb hn;refine gr (fn:=Tryz.f37) 37 aj rfl aj bO ?_;intro bj aH hA aB;have aX:al bj (.tmp 0)=_:=hA 0 _ rfl;have aN:aH.length=n:=by rw [aB];exact hn
 have aO:aH[b]? =_:=(congrArg (λq=>q[b]?) aB).trans hb;simp only [pS,Value.cells,Nat.reduceAdd,aW,aY,aQ,qG,rk]at aO;have aZ:bP mem aH (λj=>j=b):=by rw [aB];exact bP.refl _ _
 clear hA aB;refine ax<|at_<|aM (cJ kH rfl aN) trivial rfl (λbx ad=>?_)
 have aP:=bS ad aN;simp only [pS,Value.cells,Nat.reduceAdd,aW,aY,aQ,qG,rk]at aP;have aR:=aI ad aO;have a2:=RestR.aI ad aZ;have aS:=bR ad aN;clear ad aO aZ;refine bD (ae aX) aa ?_;clear aX;intro bz aT a3;refine ao<|ax<|ax<|at_<|ar (ak aT) rfl<|ar (bU aa) rfl<|ar (aJ jq rfl aa) rfl<|ar (az (aK uz rfl aR aa aA) qQ) rfl ?_
 refine ar (az (cx aa rfl uy.1) ct) rfl ?_;refine ar (dN aa aw) rfl ?_;refine bB (ag (ai aT)) (ag (ai a3)) aa ?_;clear aT a3;intro bA ab a5 a6;refine ao<|bk a6 (λaC=>?_) (λaC=>?_)
 ·cases aC
 replace aC:=bf aC;refine bF<|ao<|ax<|iq 16 0 aS aj aj aj aj (λbE af=>?_)
 have a7:=bJ af aP;have am:=bJ af aR;have a8:=RestR.bJ af a2;have bp:_=n+1:=ir (K:=0) af aS;clear af aP aR a2 aS;refine bg (λM_ hM_=>(ak ab)) trivial ?_;refine bg (λM_ hM_=>(ak (ae ab))) trivial ?_;refine bg (λM_ hM_=>(ak (ag ab))) trivial ?_;refine bg (λM_ hM_=>(bU aa)) trivial ?_;refine bg (λM_ hM_=>(aJ jq rfl aa)) trivial ?_;refine db (b) (λM_ hM_=>(az (aK uz rfl (cI hM_ am aL) aa aA) qQ)) trivial trivial ?_;refine bg (λM_ hM_=>(az (cE uy aa aw aD (by refine dK ?_;(simp only [dj];omega))) qQ)) trivial ?_;refine bg (λM_ hM_=>(az (bL uB rfl aa aA) qQ)) trivial ?_;refine bg (λM_ hM_=>(ak (ay ab))) trivial ?_;refine bg (λM_ hM_=>(bU aa)) trivial ?_;refine bg (λM_ hM_=>(aJ jq rfl aa)) trivial ?_;refine db (b) (λM_ hM_=>(az (aK uz rfl (cI hM_ am aL) aa aA) qQ)) trivial trivial ?_;refine bg (λM_ hM_=>(F4 uy aa aw aD dC)) trivial ?_;refine bg (λM_ hM_=>(bU (ai (ay aa)))) trivial ?_;refine bg (λM_ hM_=>(aJ xm rfl aa)) trivial ?_;refine od (b) (λM_ hM_=>(mJ aa (ae (ag (ai aa))) rfl rfl (cI hM_ am aL) kJ rfl aA)) trivial trivial ⟨.inr (kG 15 5 aj),⟨.inr (kG 15 11 aj),trivial⟩⟩ (λbH an=>?_);have aF:=bo an am;simp only [pS,Value.cells,Nat.reduceAdd,aW,aY,aQ,qG,rk]at aF;have a9:=au an a7 ah;have ba:=RestR.au an a8 (λhj_=>by rfl);have bq:=bh an bp;clear an a7 am a8;refine iD rfl ?_;refine ar (bU (aE (ae (ai (ay aa))))) rfl<|ar (aJ jq rfl aa) rfl<|aM (bV aa (ag (aE (ag aa))) rfl rfl aF GN rfl aA) trivial rfl (λbI ap=>?_)
 have aG:=bo ap aF;simp only [pS,Value.cells,Nat.reduceAdd,aW,aY,aQ,qG,rk]at aG;have aU:=au ap a9 ah;have bb:=RestR.au ap ba (λhj_=>by rfl);have br:=bh ap bq;clear ap aF a9 ba;refine bD (aE (ag (aE (ae (ag (ai (ay ab))))))) (aE (ag (aE (ae (ag (ai (ay a5))))))) ?_;clear ab a5 a6;intro bK bc aV;refine ao<|ax<|at_<|ar (ak bc) rfl<|ar (bU aa) rfl<|ar (aJ xm rfl aa) rfl<|ar (az (aK uB rfl aG aa aA) qQ) rfl ?_
 refine aM (bV (ai aV) aa rfl rfl aU kJ rfl aA) trivial rfl (λbM av=>?_);have be:=bo av aU;simp only [pS,Value.cells,Nat.reduceAdd,aW,aY,aQ,qG,rk]at be;have bu:=au av aG ah;have bv:=RestR.au av bb ey;have bN:=bh av br;clear av aG aU bb;refine bn (aE (ai aV)) ?_;clear bc aV;intro bQ bw;refine ao<|bm<|⟨_,lj aj (dz bw be uB aA aL),?_⟩
 exact⟨rfl,bv,bu⟩
theorem CS(hb:mem[b]? =some (.box aY (aW nam J B S M cnt [] last kind)))(hc: -1000000000<=last.col/\last.col<=1000000000)(hs:last.txt.size<=1000000000):ew Tryz.prog 37 [.ptr b 0] mem (λ_ _=>False) (λv m'=>v=gp cnt (last.col+last.txt.size) 6/\bP mem m' (λj=>j=b)):=by
 have hbn:=cL hb hn;refine gr (fn:=Tryz.f37) 37 aj rfl aj bO ?_;intro aE ah hA ad;have av:al aE (.tmp 0)=_:=hA 0 _ rfl;have am:ah.length=n:=by rw [ad];exact hn
 have an:ah[b]? =_:=(congrArg (λq=>q[b]?) ad).trans hb;simp only [pS,Value.cells,Nat.reduceAdd,aW,aY,aQ]at an;have ay:bP mem ah (λj=>j=b):=by rw [ad];exact bP.refl _ _
 clear hA ad;refine ax<|at_<|aM (cJ kH rfl am) trivial rfl (λaP ab=>?_)
 have aF:=bS ab am;simp only [pS,Value.cells,Nat.reduceAdd,aW,aY,aQ]at aF;have ap:=aI ab an;have aH:=RestR.aI ab ay;have aL:=bR ab am;clear ab an ay;refine bD (ae av) aa ?_;clear av;intro aR au aB;refine ao<|ax<|ax<|at_<|ar (ak au) rfl<|ar (bU aa) rfl<|ar (aJ jq rfl aa) rfl<|ar (az (aK uz rfl ap aa aA) du) rfl ?_
 refine ar (az (cx aa rfl uy.1) ct) rfl ?_;refine ar (dN aa aw) rfl ?_;refine bB (ag (ai au)) (ag (ai aB)) aa ?_;clear au aB;intro aS aC aT aO;refine ao<|bk aO (λaf=>?_) (λaf=>?_)
 ·replace af:=bt af;refine at_<|ar (ak aC) rfl<|ar (ak (ae aC)) rfl<|ar (bU aa) rfl<|ar (aJ xm rfl aa) rfl<|ar (az (aK uB rfl ap aa aA) du) rfl ?_
  refine ar (bI (aG aa aN) rfl (QK last hc hs) JE) rfl<|dn (ix (J:=J) (B:=B) (S:=S) (M:=M) (nam:=nam) (cnt:=cnt) (ws:= []) (last:=last) (kind:=kind) aL ap _ _) (aG (ae (ai aa)) (aG aa (aG aw aN))) iy trivial rfl (λ_ _ h=>h.elim) (λaU aV aD=>?_)
  repeat (refine eG ?_)
  exact⟨_,rfl,aD.1,aH.trans aD.2 iV⟩
 ·cases af
end
end Go.Proofs.YtfoaiidcfkmneaaGreatDoor
namespace Go.Proofs.YtfoaiidcfkmneaaGreatDoor
open Go Go.RowKit Go.Proofs Go.Lib
theorem Pn:aV Tryz.prog 3 false 1:=⟨aj,aj⟩
theorem nQ:aV Tryz.prog 9 false 1:=⟨aj,aj⟩
def bj:ByteArray:=⟨#[108,105,110,101]⟩
def bc:ByteArray:=⟨#[106,111,105,110,116]⟩
def aU:ByteArray:=⟨#[98,101,97,109]⟩
def aX:ByteArray:=⟨#[115,119,105,116,99,104]⟩
def aS(a b:ByteArray):Bool:=a.toList==b.toList
def cv(p k:ByteArray):Bool:=if aS k bc then aS p bj||aS p aU else if aS k aU then aS p bc else aS p bc||aS p aX
def eB(w:Wd)(below:Bool):Bool:=ga w.txt.data.toList 6&&(below||decide (0<=jf w.txt.data.toList))
section
variable {mem:List Ob} {n:Nat} (hn:mem.length=n) {b:Nat} {nam:ByteArray} {J B S M:AV} {cnt:Int} {w:Wd} {ws:List Wd} {last:Wd} {kind:ByteArray}
include hn
theorem CU(hb:mem[b]? =some (.box aY (aW nam J B S M cnt ws last kind)))(k:ByteArray):ew Tryz.prog 39 [.ptr b 0,.v (.string k)] mem (λr m'=>r=eI (cv kind k)/\bP mem m' (λ_=>False)) (λ_ _=>False):=by
 have hbn:=cL hb hn;refine gr (fn:=Tryz.f39) 39 aj rfl aj bO ?_;intro aG aD hA ap;have aH:al aG (.tmp 0)=_:=hA 0 _ rfl;have aI:al aG (.tmp 1)=_:=hA 1 _ rfl;have a7:aD.length=n:=by rw [ap];exact hn
 have af:aD[b]? =_:=(congrArg (λq=>q[b]?) ap).trans hb;simp only [pS,Value.cells,Nat.reduceAdd,aW,aY]at af;have an:bP mem aD (λ_=>False):=by rw [ap];exact bP.refl _ _
 clear hA ap;refine ax<|at_<|ar (aB aw) rfl<|bD (ae aH) (ae aI) ?_;clear aH aI;intro a8 aL aM
 refine ao<|ax<|ax<|at_<|ar (ak aM) rfl<|bD (ae aL) aa ?_;clear aL aM;intro a9 aN aE
 refine ao<|ca<|ax<|at_<|ar (cX aE aw) rfl<|ar (aB aa) rfl<|bB (ag aN) (ag aE) aa ?_;clear aN aE;intro ba ah au av
 refine ao<|bk av (λaO=>?_) (λaO=>?_)
 ·skip;refine ax<|at_<|ar (ak ah) rfl<|ar (bU aa) rfl<|ar (aJ eS rfl aa) rfl<|ar (az (aK nQ rfl af aa aA) qP) rfl ?_
  refine ar (cX aa aw) rfl<|ar (ak aa) rfl<|bK aa (λab aP=>?_) (λab aP=>?_)
  ·skip;refine aC ⟨_,rfl,.inl ab⟩ rfl ?_;refine aC ⟨_,rfl,.inl (ae ab)⟩ rfl ?_;refine aC ⟨_,rfl,.inl (ag ab)⟩ rfl ?_;refine aC ⟨_,rfl,.inl (ae (ag ab))⟩ rfl ?_;refine aC ⟨_,rfl,.inl (ai ab)⟩ rfl ?_;refine ar (bq (ae (ai ab)) aw) rfl<|ar (aB aa) rfl<|bn aa ?_;clear ab ah au av;intro bb aT
   refine ao<|bm<|cD<|bw<|⟨_,lj aj (aR aT),?_⟩
   refine⟨?_,an⟩;(simp_all [cv,aS,bj,bc,aU,aX];done)
  refine aF (ak (ag (ai ah))) ⟨_,rfl,ab⟩ rfl ?_;refine aF (bU aa) ⟨_,rfl,(ae ab)⟩ rfl ?_;refine aF (aJ eS rfl aa) ⟨_,rfl,(ag ab)⟩ rfl ?_;refine aF (az (aK nQ rfl af aa aA) qP) ⟨_,rfl,(ae (ag ab))⟩ rfl ?_;refine aF (cX aa aw) ⟨_,rfl,(ai ab)⟩ rfl ?_;refine ar (br (ae (ai ab)) aa) rfl<|ar (aB aa) rfl<|bn aa ?_;clear ab ah au av;intro be aV
  refine ao<|bm<|cD<|bw<|⟨_,lj aj (aR aV),?_⟩
  refine⟨?_,an⟩;(simp_all [cv,aS,bj,bc,aU,aX];done)
 refine ax<|at_<|ar (cX au aw) rfl<|ar (aB aa) rfl<|bD (ag ah) aa ?_;clear ah au av;intro bf am ay
 refine ao<|bk ay (λaZ=>?_) (λaZ=>?_)
 ·skip;refine ax<|at_<|ar (ak am) rfl<|ar (bU aa) rfl<|ar (aJ eS rfl aa) rfl<|ar (az (aK nQ rfl af aa aA) qP) rfl ?_
  refine ar (cX aa aw) rfl<|ar (aB aa) rfl<|bn aa ?_;clear am ay;intro bg a2
  refine ao<|bm<|cD<|bw<|⟨_,lj aj (aR a2),?_⟩
  refine⟨?_,an⟩;(simp_all [cv,aS,bj,bc,aU,aX];done)
 refine bF<|cG<|ao<|ax<|at_<|ar (ak am) rfl<|ar (bU aa) rfl<|ar (aJ eS rfl aa) rfl<|ar (az (aK nQ rfl af aa aA) qP) rfl ?_
 refine ar (cX aa aw) rfl<|ar (ak aa) rfl<|bK aa (λad a3=>?_) (λad a3=>?_)
 ·skip;refine aC ⟨_,rfl,.inl ad⟩ rfl ?_;refine aC ⟨_,rfl,.inl (ae ad)⟩ rfl ?_;refine aC ⟨_,rfl,.inl (ag ad)⟩ rfl ?_;refine aC ⟨_,rfl,.inl (ae (ag ad))⟩ rfl ?_;refine aC ⟨_,rfl,.inl (ai ad)⟩ rfl ?_;refine ar (bq (ae (ai ad)) aw) rfl<|ar (aB aa) rfl<|bn aa ?_;clear ad am ay;intro bh a5
  refine ao<|bm<|⟨_,lj aj (aR a5),?_⟩
  refine⟨?_,an⟩;(simp_all [cv,aS,bj,bc,aU,aX];done)
 refine aF (ak (ag (ai am))) ⟨_,rfl,ad⟩ rfl ?_;refine aF (bU aa) ⟨_,rfl,(ae ad)⟩ rfl ?_;refine aF (aJ eS rfl aa) ⟨_,rfl,(ag ad)⟩ rfl ?_;refine aF (az (aK nQ rfl af aa aA) qP) ⟨_,rfl,(ae (ag ad))⟩ rfl ?_;refine aF (cX aa aw) ⟨_,rfl,(ai ad)⟩ rfl ?_;refine ar (br (ae (ai ad)) aa) rfl<|ar (aB aa) rfl<|bn aa ?_;clear ad am ay;intro bo a6
 refine ao<|bm<|⟨_,lj aj (aR a6),?_⟩
 refine⟨?_,an⟩;(simp_all [cv,aS,bj,bc,aU,aX];done)
theorem Po(hb:mem[b]? =some (.box aY (aW nam J B S M cnt (w::ws) last kind)))(hl:ws.length<=1000000)(hs:w.txt.size<=1000000)(hi:dX w.txt=true):ew Tryz.prog 40 [.ptr b 0] mem (λr m'=>r= .v (.string w.txt)/\bP mem m' (λj=>j=b)/\m'[b]? =some (.box aY (aW nam J B S M cnt ws w kind))) (λ_ _=>False):=by
 have hbn:=cL hb hn;refine gr (fn:=Tryz.f40) 16 aj rfl aj bO ?_;intro a2 ap hA af;have aH:al a2 (.tmp 0)=_:=hA 0 _ rfl;have aL:ap.length=n:=by rw [af];exact hn
 have aO:ap[b]? =_:=(congrArg (λq=>q[b]?) af).trans hb;simp only [pS,Value.cells,Nat.reduceAdd,aW,aY,aQ]at aO;have a3:bP mem ap (λj=>j=b):=by rw [af];exact bP.refl _ _
 clear hA af;refine ax<|at_<|ar (aB aw) rfl<|bn (ae aH) ?_;clear aH;intro bb av
 refine ao<|ax<|at_<|ar (ak av) rfl<|dn (lC (J:=J) (B:=B) (S:=S) (M:=M) (nam:=nam) (cnt:=cnt) (w:=w) (ws:=ws) (last:=last) (kind:=kind) aL aO hl) (aG aa aN) kC trivial rfl (λbc be a5=>?_) (λ_ _ h=>h.elim)
 obtain⟨rfl,aP,ay⟩:=a5;simp only [pS,Value.cells,Nat.reduceAdd,aW,aY,aQ]at ay;have aS:=a3.trans aP pA;obtain⟨bf,aC,bg⟩:=aP.len_ aL;refine aM (cJ kH rfl aC) trivial rfl (λbj ab=>?_);have am:=bS ab aC;simp only [pS,Value.cells,Nat.reduceAdd,aW,aY,aQ]at am;have aT:=aI ab ay;have aU:=RestR.aI ab aS;have a6:=bR ab aC;clear ab ay aS;refine aM (bV aa (ae aa) rfl rfl am kJ rfl aA) trivial rfl (λbp ad=>?_);have aD:=bo ad am;simp only [pS,Value.cells,Nat.reduceAdd,aW,aY,aQ]at aD;have a7:=au ad aT ah;have a8:=RestR.au ad aU ey;have bq:=bh ad a6;clear ad am aT aU;refine bD (aE (ae (ag av))) (aE aa) ?_;clear av;intro br aV aF;refine ao<|ax<|ax<|at_<|ar (aJ iu rfl aF) rfl<|ar (az (aK nQ rfl aD aa aA) du) rfl ?_
 refine ar (bI (aG aa aN) rfl ((tP w.txt ah).mono (λq h=>show q=eI true from h.trans (by rw [hi]))) vD) rfl ?_;refine ar (dT aa) rfl<|bB (ai aV) (ai aF) aa ?_;clear aV aF;intro bu a9 aX aZ
 refine ao<|bk aZ (λan=>?_) (λan=>?_)
 ·cases an
 replace an:=di an;refine bF<|ao<|ax<|at_<|ar (aJ iu rfl aX) rfl<|ar (az (aK nQ rfl aD aa aA) du) rfl ?_
 refine ar (aB aa) rfl<|bn aa ?_;clear a9 aX aZ;intro bv ba
 refine ao<|bm<|⟨_,lj aj (aR ba),?_⟩
 exact⟨rfl,a8,a7⟩
theorem MD(hb:mem[b]? =some (.box aY (aW nam J B S M cnt (w::ws) last kind)))(hl:ws.length<=1000000)(hs:w.txt.size<=1000000)(hi:dX w.txt=false):ew Tryz.prog 40 [.ptr b 0] mem (λ_ _=>False) (λv m'=>v=gp cnt w.col 4/\bP mem m' (λj=>j=b)):=by
 have hbn:=cL hb hn;refine gr (fn:=Tryz.f40) 16 aj rfl aj bO ?_;intro aX ap hA af;have aH:al aX (.tmp 0)=_:=hA 0 _ rfl;have aL:ap.length=n:=by rw [af];exact hn
 have aO:ap[b]? =_:=(congrArg (λq=>q[b]?) af).trans hb;simp only [pS,Value.cells,Nat.reduceAdd,aW,aY,aQ]at aO;have aZ:bP mem ap (λj=>j=b):=by rw [af];exact bP.refl _ _
 clear hA af;refine ax<|at_<|ar (aB aw) rfl<|bn (ae aH) ?_;clear aH;intro bb av
 refine ao<|ax<|at_<|ar (ak av) rfl<|dn (lC (J:=J) (B:=B) (S:=S) (M:=M) (nam:=nam) (cnt:=cnt) (w:=w) (ws:=ws) (last:=last) (kind:=kind) aL aO hl) (aG aa aN) kC trivial rfl (λbc be a2=>?_) (λ_ _ h=>h.elim)
 obtain⟨rfl,aP,ay⟩:=a2;simp only [pS,Value.cells,Nat.reduceAdd,aW,aY,aQ]at ay;have aR:=aZ.trans aP pA;obtain⟨bf,aC,bg⟩:=aP.len_ aL;refine aM (cJ kH rfl aC) trivial rfl (λbj ab=>?_);have am:=bS ab aC;simp only [pS,Value.cells,Nat.reduceAdd,aW,aY,aQ]at am;have aS:=aI ab ay;have aT:=RestR.aI ab aR;have a3:=bR ab aC;clear ab ay aR;refine aM (bV aa (ae aa) rfl rfl am kJ rfl aA) trivial rfl (λbm ad=>?_);have aD:=bo ad am;simp only [pS,Value.cells,Nat.reduceAdd,aW,aY,aQ]at aD;have a5:=au ad aS ah;have a6:=RestR.au ad aT ey;have a7:=bh ad a3;clear ad am aS aT;refine bD (aE (ae (ag av))) (aE aa) ?_;clear av;intro bp aU aF;refine ao<|ax<|ax<|at_<|ar (aJ iu rfl aF) rfl<|ar (az (aK nQ rfl aD aa aA) du) rfl ?_
 refine ar (bI (aG aa aN) rfl ((tP w.txt ah).mono (λq h=>show q=eI false from h.trans (by rw [hi]))) vD) rfl ?_;refine ar (dT aa) rfl<|bB (ai aU) (ai aF) aa ?_;clear aU aF;intro bq a8 a9 ba
 refine ao<|bk ba (λan=>?_) (λan=>?_)
 ·replace an:=cT an;refine at_<|ar (ak a8) rfl<|ar (aJ jV rfl (ae a9)) rfl<|ar (az (aK Pn rfl aD aa aA) du) rfl ?_
  refine dn (ix (J:=J) (B:=B) (S:=S) (M:=M) (nam:=nam) (cnt:=cnt) (ws:=ws) (last:=w) (kind:=kind) a7 a5 _ _) (aG (ag aa) (aG aa (aG aw aN))) iy trivial rfl (λ_ _ h=>h.elim) (λbr bu aV=>?_)
  repeat (refine eG ?_)
  exact⟨_,rfl,aV.1,a6.trans aV.2 iV⟩
 ·cases an
theorem JF(hb:mem[b]? =some (.box aY (aW nam J B S M cnt [] last kind)))(hc: -1000000000<=last.col/\last.col<=1000000000)(hs:last.txt.size<=1000000000):ew Tryz.prog 40 [.ptr b 0] mem (λ_ _=>False) (λv m'=>v=gp cnt (last.col+last.txt.size) 6/\bP mem m' (λj=>j=b)):=by
 have hbn:=cL hb hn;refine gr (fn:=Tryz.f40) 16 aj rfl aj bO ?_;intro ai ad hA ab;have af:al ai (.tmp 0)=_:=hA 0 _ rfl;have am:ad.length=n:=by rw [ab];exact hn
 have ag:ad[b]? =_:=(congrArg (λq=>q[b]?) ab).trans hb;simp only [pS,Value.cells,Nat.reduceAdd,aW,aY,aQ]at ag;have an:bP mem ad (λj=>j=b):=by rw [ab];exact bP.refl _ _
 clear hA ab;refine ax<|at_<|ar (aB aw) rfl<|bn (ae af) ?_;clear af;intro au ap
 refine ao<|ax<|at_<|ar (ak ap) rfl<|dn (CS (J:=J) (B:=B) (S:=S) (M:=M) (nam:=nam) (cnt:=cnt) (last:=last) (kind:=kind) am ag hc hs) (aG aa aN) kC trivial rfl (λ_ _ h=>h.elim) (λav ay ah=>?_)
 repeat (refine eG ?_)
 exact⟨_,rfl,ah.1,an.trans ah.2 iV⟩
end
end Go.Proofs.YtfoaiidcfkmneaaGreatDoor
namespace Go.Proofs.YtfoaiidcfkmneaaGreatDoor
open Go Go.RowKit Go.Proofs Go.Lib
theorem xz:∀ args w,(callFunc 63 args).run Tryz.prog w= .ok (.enter 63 args) w:=λ_ _=>by kernel_rfl
theorem Bw:∀ args w,(callFunc 64 args).run Tryz.prog w= .ok (.enter 64 args) w:=λ_ _=>by kernel_rfl
theorem By:∀ args w,(callFunc 65 args).run Tryz.prog w= .ok (.enter 65 args) w:=λ_ _=>by kernel_rfl
theorem vk:aV Tryz.prog 3 false 1:=⟨aj,aj⟩
theorem px:aV Tryz.prog 9 false 1:=⟨aj,aj⟩
theorem xA:isIf (Tryz.prog.underlying 126)=true:=by kernel_rfl
section
variable {mem:List Ob} {n:Nat} (hn:mem.length=n) {b:Nat} {nam:ByteArray} {J B S M:AV} {cnt:Int} {w:Wd} {ws:List Wd} {last:Wd} {kind:ByteArray} {es er:Value} (hes:fz es) (her:fz er) (h0:mem[0]? =some (.bY (gX es er)))
include hn h0
theorem Ip(hb:mem[b]? =some (.box aY (aW nam J B S M cnt (w::ws) last kind)))(hl:ws.length<=1000000)(hs:w.txt.size<=1000000)(below:Bool)(v:Int)(hv:atoiAll w.txt.data.toList= .ok v)(hi:eB w below=true):ew Tryz.prog 41 [.ptr b 0,.v (.bool below)] mem (λr m'=>r=mA v/\bP mem m' (λj=>j=b)/\m'[b]? =some (.box aY (aW nam J B S M cnt ws w kind))) (λ_ _=>False):=by
 have hbn:=cL hb hn;have hb0:b≠0:=λe=>by rw [e]at hb;rw [hb]at h0;cases h0
 obtain⟨hk,hnn⟩:=xx hv 6;have hvb:=atoiAll_bounds hv;have hc:=Gk (itoa v) w.txt;unfold eB at hi;rw [hk,hnn]at hi;simp only [SS,TJ,decide_eq_true_eq]at hi;obtain⟨⟨hi1,hi2⟩,hi3⟩:=hi;rw [hi1]at hc;simp only [decide_true]at hc;refine gr (fn:=Tryz.f41) 45 aj rfl aj bO ?_;intro a8 aO hA aD;have a9:al a8 (.tmp 0)=_:=hA 0 _ rfl;have ba:al a8 (.tmp 1)=_:=hA 1 _ rfl;have bb:aO.length=n:=by rw [aD];exact hn
 have bN:aO[0]? =_:=(congrArg (λq=>q[0]?) aD).trans h0;have bc:aO[b]? =_:=(congrArg (λq=>q[b]?) aD).trans hb;simp only [pS,Value.cells,Nat.reduceAdd,aW,aY,aQ]at bc;have bQ:bP mem aO (λj=>j=b):=by rw [aD];exact bP.refl _ _
 clear hA aD;refine ax<|at_<|ar (aB aw) rfl<|bD (ae a9) (ae ba) ?_;clear a9 ba;intro b6 aU be
 refine ao<|ax<|at_<|ar (ak aU) rfl<|dn (lC (J:=J) (B:=B) (S:=S) (M:=M) (nam:=nam) (cnt:=cnt) (w:=w) (ws:=ws) (last:=last) (kind:=kind) bb bc hl) (aG aa aN) kC trivial rfl (λb7 b8 bT=>?_) (λ_ _ h=>h.elim)
 obtain⟨rfl,aV,aX⟩:=bT;have bg:=aV.at_ bN cq;simp only [pS,Value.cells,Nat.reduceAdd,aW,aY,aQ]at aX;have bj:=bQ.trans aV pA;obtain⟨b9,aZ,ca⟩:=aV.len_ bb;refine aM (cJ kH rfl aZ) trivial rfl (λcb an=>?_);have aP:=bS an aZ;simp only [pS,Value.cells,Nat.reduceAdd,aW,aY,aQ]at aP;have bp:=aI an bg;have bv:=aI an aX;have bw:=RestR.aI an bj;have bU:=bR an aZ;clear an bg aX bj;refine aM (bV aa (ae aa) rfl rfl aP kJ rfl aA) trivial rfl (λcc ap=>?_);have aS:=bo ap aP;simp only [pS,Value.cells,Nat.reduceAdd,aW,aY,aQ]at aS;have bW:=au ap bp ah;have bx:=au ap bv ah;have bz:=RestR.au ap bw ey;have cd:=bh ap bU;clear ap aP bp bv bw;refine bB (aE (ae (ag aU))) (aE (ae (ag be))) (aE aa) ?_;clear aU be;intro ce bA bE a2;refine ao<|ax<|at_<|ar (aJ iu rfl a2) rfl<|ar (az (aK px rfl aS aa aA) du) rfl ?_
 refine ar (bI (aG aa aN) rfl (Bt w.txt ah v hv) xz) rfl ?_;refine ar (ak aa) rfl<|ar (cF aa rfl) rfl<|ar (cF (ae aa) rfl) rfl<|ar (aB (ae aa)) rfl<|ar (aB (ae aa)) rfl<|ck (ay bA) (ay bE) (ay a2) (ae aa) aa ?_;clear bA bE a2;intro cf aT a3 av aC a5
 refine ao<|ax<|ax<|eu 24 aj aj aj aj ?_
 refine dr (ak a5) rfl<|dr (Br aa xA) rfl<|dr (ak aa) rfl<|lB aa (λad bH=>?_) (λad bH=>?_)
 ·cases bH
 refine dm (ak (ae (ag aC))) ⟨_,rfl,ad⟩ rfl ?_;refine dm (uo (aG aa aN) rfl bW (E0 es er v (by unfold In64;omega)) Bw) ⟨_,rfl,(ae ad)⟩ rfl ?_;refine dm (aJ iu rfl (ae (ai av))) ⟨_,rfl,(ag ad)⟩ rfl ?_;refine dm (az (aK px rfl aS aa aA) du) ⟨_,rfl,(ae (ag ad))⟩ rfl ?_;refine dm (dS (ag aa) aa) ⟨_,rfl,(ai ad)⟩ rfl ?_;refine dr (br (ae (ai ad)) aa) rfl<|dr (ak aa) rfl<|lB aa (λaf aF=>?_) (λaf aF=>?_)
 ·(rw [hi1,hc]at aF;simp at aF;done)
 replace aF:=di aF;refine dm (aJ iu rfl (ag (ay av))) ⟨_,rfl,af⟩ rfl ?_;refine dm (az (aK px rfl aS aa aA) du) ⟨_,rfl,(ae af)⟩ rfl ?_;refine dm (bI (aG aa (aG aw aN)) rfl (Aw w.txt _) By) ⟨_,rfl,(ag af)⟩ rfl ?_;refine dm (eE aa rfl cK) ⟨_,rfl,(ae (ag af))⟩ rfl ?_;refine dm (eF aa aw) ⟨_,rfl,(ai af)⟩ rfl ?_;refine dr (br (ae (ai af)) aa) rfl<|dr (ak aa) rfl<|lB aa (λab a6=>?_) (λab a6=>?_)
 ·(simp_all [size_mk]<;>omega)
 replace a6:=bf a6;refine dm (ak (ae (aH aC))) ⟨_,rfl,ab⟩ rfl ?_;refine dm (c6 aa aw) ⟨_,rfl,(ae ab)⟩ rfl ?_;refine dm (ak aa) ⟨_,rfl,(ag ab)⟩ rfl ?_;refine lB aa (λam aL=>?_) (λam aL=>?_)
 ·replace aL:=bt aL;refine dm (ak (ai (aH a3))) ⟨_,rfl,am⟩ rfl ?_;refine dm (dT aa) ⟨_,rfl,(ae am)⟩ rfl ?_;refine dm (bq (ag am) aa) ⟨_,rfl,(ae (ai ab))⟩ rfl ?_;refine dr (br (ag (ai ab)) aa) rfl<|dE<|bu (ay (aH aT)) (ay (aH av)) (ay (aH aC)) aa ?_;clear af ab am ad aT a3 av aC a5;intro cg bX bY bJ bK
  refine ao<|bk bK (λa7=>?_) (λa7=>?_)
  ·(simp_all [size_mk]<;>omega)
  replace a7:=di a7;refine bF<|ao<|ax<|at_<|ar (ak bJ) rfl<|ar (aB aa) rfl<|bn aa ?_;clear bX bK bY bJ;intro ci bZ
  refine ao<|bm<|⟨_,lj aj (aR bZ),?_⟩
  exact⟨rfl,bz,bx⟩
 replace aL:=bf aL;refine c8 ⟨_,rfl,.inl am⟩ rfl ?_;refine c8 ⟨_,rfl,.inl (ae am)⟩ rfl ?_;refine dm (br (ag am) aw) ⟨_,rfl,(ae (ai ab))⟩ rfl ?_;refine dr (br (ag (ai ab)) aa) rfl<|dE<|bu (ay (aH aT)) (ay (aH av)) (ay (aH aC)) aa ?_;clear af ab am ad aT a3 av aC a5;intro cj b0 b1 bL bM
 refine ao<|iS bM<|bF<|ao<|ax<|at_<|ar (ak bL) rfl<|ar (aB aa) rfl<|bn aa ?_;clear b0 bM b1 bL;intro cm b2
 refine ao<|bm<|⟨_,lj aj (aR b2),?_⟩
 exact⟨rfl,bz,bx⟩
theorem Iq(hb:mem[b]? =some (.box aY (aW nam J B S M cnt (w::ws) last kind)))(hl:ws.length<=1000000)(hs:w.txt.size<=1000000)(below:Bool)(v:Int)(hv:atoiAll w.txt.data.toList= .ok v)(hi:eB w below=false):ew Tryz.prog 41 [.ptr b 0,.v (.bool below)] mem (λ_ _=>False) (λu m'=>u=gp cnt w.col 7/\bP mem m' (λj=>j=b)):=by
 have hbn:=cL hb hn;have hb0:b≠0:=λe=>by rw [e]at hb;rw [hb]at h0;cases h0
 obtain⟨hk,hnn⟩:=xx hv 6;have hvb:=atoiAll_bounds hv;have hc:=Gk (itoa v) w.txt;unfold eB at hi;rw [hk,hnn]at hi;refine gr (fn:=Tryz.f41) 45 aj rfl aj bO ?_;intro bb aX hA aL;have bc:al bb (.tmp 0)=_:=hA 0 _ rfl;have be:al bb (.tmp 1)=_:=hA 1 _ rfl;have bg:aX.length=n:=by rw [aL];exact hn
 have bY:aX[0]? =_:=(congrArg (λq=>q[0]?) aL).trans h0;have bj:aX[b]? =_:=(congrArg (λq=>q[b]?) aL).trans hb;simp only [pS,Value.cells,Nat.reduceAdd,aW,aY,aQ]at bj;have bZ:bP mem aX (λj=>j=b):=by rw [aL];exact bP.refl _ _
 clear hA aL;refine ax<|at_<|ar (aB aw) rfl<|bD (ae bc) (ae be) ?_;clear bc be;intro cg a2 bp
 refine ao<|ax<|at_<|ar (ak a2) rfl<|dn (lC (J:=J) (B:=B) (S:=S) (M:=M) (nam:=nam) (cnt:=cnt) (w:=w) (ws:=ws) (last:=last) (kind:=kind) bg bj hl) (aG aa aN) kC trivial rfl (λci cj b0=>?_) (λ_ _ h=>h.elim)
 obtain⟨rfl,a3,a5⟩:=b0;have bv:=a3.at_ bY cq;simp only [pS,Value.cells,Nat.reduceAdd,aW,aY,aQ]at a5;have bw:=bZ.trans a3 pA;obtain⟨cm,a6,co⟩:=a3.len_ bg;refine aM (cJ kH rfl a6) trivial rfl (λcr aD=>?_);have aZ:=bS aD a6;simp only [pS,Value.cells,Nat.reduceAdd,aW,aY,aQ]at aZ;have bx:=aI aD bv;have bz:=aI aD a5;have bA:=RestR.aI aD bw;have b1:=bR aD a6;clear aD bv a5 bw;refine aM (bV aa (ae aa) rfl rfl aZ kJ rfl aA) trivial rfl (λct aF=>?_);have aC:=bo aF aZ;simp only [pS,Value.cells,Nat.reduceAdd,aW,aY,aQ]at aC;have b2:=au aF bx ah;have a7:=au aF bz ah;have a8:=RestR.au aF bA ey;have a9:=bh aF b1;clear aF aZ bx bz bA;refine bB (aE (ae (ag a2))) (aE (ae (ag bp))) (aE aa) ?_;clear a2 bp;intro cu bE bH ba;refine ao<|ax<|at_<|ar (aJ iu rfl ba) rfl<|ar (az (aK px rfl aC aa aA) du) rfl ?_
 refine ar (bI (aG aa aN) rfl (Bt w.txt ah v hv) xz) rfl ?_;refine ar (ak aa) rfl<|ar (cF aa rfl) rfl<|ar (cF (ae aa) rfl) rfl<|ar (aB (ae aa)) rfl<|ar (aB (ae aa)) rfl<|ck (ay bE) (ay bH) (ay ba) (ae aa) aa ?_;clear bE bH ba;intro cv av aO am an aP
 refine ao<|ax<|ax<|eu 24 aj aj aj aj ?_
 refine dr (ak aP) rfl<|dr (Br aa xA) rfl<|dr (ak aa) rfl<|lB aa (λaf bJ=>?_) (λaf bJ=>?_)
 ·cases bJ
 refine dm (ak (ae (ag an))) ⟨_,rfl,af⟩ rfl ?_;refine dm (uo (aG aa aN) rfl b2 (E0 es er v (by unfold In64;omega)) Bw) ⟨_,rfl,(ae af)⟩ rfl ?_;refine dm (aJ iu rfl (ae (ai am))) ⟨_,rfl,(ag af)⟩ rfl ?_;refine dm (az (aK px rfl aC aa aA) du) ⟨_,rfl,(ae (ag af))⟩ rfl ?_;refine dm (dS (ag aa) aa) ⟨_,rfl,(ai af)⟩ rfl ?_;refine dr (br (ae (ai af)) aa) rfl<|dr (ak aa) rfl<|lB aa (λab aS=>?_) (λab aS=>?_)
 ·replace aS:=cT aS;refine c8 ⟨_,rfl,.inl ab⟩ rfl ?_;refine c8 ⟨_,rfl,.inl (ae ab)⟩ rfl ?_;refine c8 ⟨_,rfl,.inl (ag ab)⟩ rfl ?_;refine c8 ⟨_,rfl,.inl (ae (ag ab))⟩ rfl ?_;refine c8 ⟨_,rfl,.inl (ai ab)⟩ rfl ?_;refine dr (bq (ae (ai ab)) aw) rfl<|dr (ak aa) rfl<|c8 ⟨_,rfl,.inl aa⟩ rfl ?_
  refine c8 ⟨_,rfl,.inl (ae aa)⟩ rfl ?_;refine c8 ⟨_,rfl,.inl (ag aa)⟩ rfl ?_;refine c8 ⟨_,rfl,.inr aa⟩ rfl ?_;refine c8 ⟨_,rfl,.inr (ae aa)⟩ rfl ?_;refine c8 ⟨_,rfl,.inl (ae (ai aa))⟩ rfl ?_;refine dr (bq (ag (ai aa)) aw) rfl<|dE<|bu (ay (aH av)) (ay (aH am)) (ay (aH an)) aa ?_;clear ab af av aO am an aP;intro cw b6 b7 cx b8
  refine ao<|lA b8<|at_<|ar (ak b6) rfl<|ar (aJ jV rfl (ae b7)) rfl<|ar (az (aK vk rfl aC aa aA) du) rfl ?_
  refine dn (ix (J:=J) (B:=B) (S:=S) (M:=M) (nam:=nam) (cnt:=cnt) (ws:=ws) (last:=w) (kind:=kind) a9 a7 _ _) (aG (ag aa) (aG aa (aG aw aN))) iy trivial rfl (λ_ _ h=>h.elim) (λcy cz bK=>?_)
  repeat (refine eG ?_)
  exact⟨_,rfl,bK.1,a8.trans bK.2 iV⟩
 replace aS:=di aS;refine dm (aJ iu rfl (ag (ay am))) ⟨_,rfl,ab⟩ rfl ?_;refine dm (az (aK px rfl aC aa aA) du) ⟨_,rfl,(ae ab)⟩ rfl ?_;refine dm (bI (aG aa (aG aw aN)) rfl (Aw w.txt _) By) ⟨_,rfl,(ag ab)⟩ rfl ?_;refine dm (eE aa rfl cK) ⟨_,rfl,(ae (ag ab))⟩ rfl ?_;refine dm (eF aa aw) ⟨_,rfl,(ai ab)⟩ rfl ?_;refine dr (br (ae (ai ab)) aa) rfl<|dr (ak aa) rfl<|lB aa (λad aT=>?_) (λad aT=>?_)
 ·replace aT:=bt aT;refine c8 ⟨_,rfl,.inl ad⟩ rfl ?_;refine c8 ⟨_,rfl,.inl (ae ad)⟩ rfl ?_;refine c8 ⟨_,rfl,.inl (ag ad)⟩ rfl ?_;refine c8 ⟨_,rfl,.inr aa⟩ rfl ?_;refine c8 ⟨_,rfl,.inr (ae aa)⟩ rfl ?_;refine c8 ⟨_,rfl,.inl (ae (ai ad))⟩ rfl ?_;refine dr (bq (ag (ai ad)) aw) rfl<|dE<|bu (ay (aH av)) (ay (aH am)) (ay (aH an)) aa ?_;clear ab ad af av aO am an aP;intro cA b9 ca cB cb
  refine ao<|lA cb<|at_<|ar (ak b9) rfl<|ar (aJ jV rfl (ae ca)) rfl<|ar (az (aK vk rfl aC aa aA) du) rfl ?_
  refine dn (ix (J:=J) (B:=B) (S:=S) (M:=M) (nam:=nam) (cnt:=cnt) (ws:=ws) (last:=w) (kind:=kind) a9 a7 _ _) (aG (ag aa) (aG aa (aG aw aN))) iy trivial rfl (λ_ _ h=>h.elim) (λcC cD bL=>?_)
  repeat (refine eG ?_)
  exact⟨_,rfl,bL.1,a8.trans bL.2 iV⟩
 replace aT:=bf aT;refine dm (ak (ae (aH an))) ⟨_,rfl,ad⟩ rfl ?_;refine dm (c6 aa aw) ⟨_,rfl,(ae ad)⟩ rfl ?_;refine dm (ak aa) ⟨_,rfl,(ag ad)⟩ rfl ?_;refine lB aa (λap aU=>?_) (λap aU=>?_)
 ·replace aU:=bt aU;refine dm (ak (ai (aH aO))) ⟨_,rfl,ap⟩ rfl ?_;refine dm (dT aa) ⟨_,rfl,(ae ap)⟩ rfl ?_;refine dm (bq (ag ap) aa) ⟨_,rfl,(ae (ai ad))⟩ rfl ?_;refine dr (br (ag (ai ad)) aa) rfl<|dE<|bu (ay (aH av)) (ay (aH am)) (ay (aH an)) aa ?_;clear ab ad ap af av aO am an aP;intro cE bM bN bQ bT
  refine ao<|bk bT (λaV=>?_) (λaV=>?_)
  ·replace aV:=cT aV;refine at_<|ar (ak bM) rfl<|ar (aJ jV rfl (ae bN)) rfl<|ar (az (aK vk rfl aC aa aA) du) rfl ?_
   refine dn (ix (J:=J) (B:=B) (S:=S) (M:=M) (nam:=nam) (cnt:=cnt) (ws:=ws) (last:=w) (kind:=kind) a9 a7 _ _) (aG (ag aa) (aG aa (aG aw aN))) iy trivial rfl (λ_ _ h=>h.elim) (λcG cH bU=>?_)
   repeat (refine eG ?_)
   exact⟨_,rfl,bU.1,a8.trans bU.2 iV⟩
  replace aV:=di aV;refine bF<|ao<|ax<|at_<|ar (ak bQ) rfl<|ar (aB aa) rfl<|bn aa ?_;clear bM bT bN bQ;intro cI cc
  refine ao<|bm<|⟨_,lj aj (aR cc),?_⟩
  exfalso;(simp_all [size_mk]<;>omega)
 replace aU:=bf aU;refine c8 ⟨_,rfl,.inl ap⟩ rfl ?_;refine c8 ⟨_,rfl,.inl (ae ap)⟩ rfl ?_;refine dm (br (ag ap) aw) ⟨_,rfl,(ae (ai ad))⟩ rfl ?_;refine dr (br (ag (ai ad)) aa) rfl<|dE<|bu (ay (aH av)) (ay (aH am)) (ay (aH an)) aa ?_;clear ab ad ap af av aO am an aP;intro cM cd ce bW bX
 refine ao<|iS bX<|bF<|ao<|ax<|at_<|ar (ak bW) rfl<|ar (aB aa) rfl<|bn aa ?_;clear cd bX ce bW;intro cN cf
 refine ao<|bm<|⟨_,lj aj (aR cf),?_⟩
 exfalso;(simp_all [size_mk]<;>omega)
include hes her
theorem Ir(hb:mem[b]? =some (.box aY (aW nam J B S M cnt (w::ws) last kind)))(hl:ws.length<=1000000)(hs:w.txt.size<=1000000)(below:Bool)(hv:∀ v,atoiAll w.txt.data.toList≠ .ok v):ew Tryz.prog 41 [.ptr b 0,.v (.bool below)] mem (λ_ _=>False) (λu m'=>u=gp cnt w.col 7/\bP mem m' (λj=>j=b)):=by
 have hbn:=cL hb hn;have hb0:b≠0:=λe=>by rw [e]at hb;rw [hb]at h0;cases h0
 refine gr (fn:=Tryz.f41) 45 aj rfl aj bO ?_;intro aP an hA am;have aR:al aP (.tmp 0)=_:=hA 0 _ rfl;have aS:al aP (.tmp 1)=_:=hA 1 _ rfl;have aT:an.length=n:=by rw [am];exact hn
 have bf:an[0]? =_:=(congrArg (λq=>q[0]?) am).trans h0;have aU:an[b]? =_:=(congrArg (λq=>q[b]?) am).trans hb;simp only [pS,Value.cells,Nat.reduceAdd,aW,aY,aQ]at aU;have bg:bP mem an (λj=>j=b):=by rw [am];exact bP.refl _ _
 clear hA am;refine ax<|at_<|ar (aB aw) rfl<|bD (ae aR) (ae aS) ?_;clear aR aS;intro bE av aV
 refine ao<|ax<|at_<|ar (ak av) rfl<|dn (lC (J:=J) (B:=B) (S:=S) (M:=M) (nam:=nam) (cnt:=cnt) (w:=w) (ws:=ws) (last:=last) (kind:=kind) aT aU hl) (aG aa aN) kC trivial rfl (λbF bH bj=>?_) (λ_ _ h=>h.elim)
 obtain⟨rfl,aC,aD⟩:=bj;have aX:=aC.at_ bf cq;simp only [pS,Value.cells,Nat.reduceAdd,aW,aY,aQ]at aD;have aZ:=bg.trans aC pA;obtain⟨bI,aF,bJ⟩:=aC.len_ aT;refine aM (cJ kH rfl aF) trivial rfl (λbK ad=>?_);have ap:=bS ad aF;simp only [pS,Value.cells,Nat.reduceAdd,aW,aY,aQ]at ap;have a2:=aI ad aX;have a3:=aI ad aD;have a5:=RestR.aI ad aZ;have bk:=bR ad aF;clear ad aX aD aZ;refine aM (bV aa (ae aa) rfl rfl ap kJ rfl aA) trivial rfl (λbL af=>?_);have aL:=bo af ap;simp only [pS,Value.cells,Nat.reduceAdd,aW,aY,aQ]at aL;have bm:=au af a2 ah;have bn:=au af a3 ah;have bp:=RestR.au af a5 ey;have br:=bh af bk;clear af ap a2 a3 a5;refine bB (aE (ae (ag av))) (aE (ae (ag aV))) (aE aa) ?_;clear av aV;intro bM a6 a7 aO;refine ao<|ax<|at_<|ar (aJ iu rfl aO) rfl<|ar (az (aK px rfl aL aa aA) du) rfl ?_
 refine Qr (Ju (aG aa aN) rfl bm (LX es er hes her w.txt ah hv) xz) trivial rfl (λbN bv=>?_);obtain⟨bQ,rfl⟩:=bv;refine ar (ak aa) rfl<|ar (cF aa rfl) rfl<|ar (cF (ae aa) rfl) rfl<|ar (aB (ae aa)) rfl<|ar (aB (ae aa)) rfl<|ck (ay a6) (ay a7) (ay aO) (ae aa) aa ?_;clear a6 a7 aO;intro bT a8 bw a9 ba bb
 refine ao<|ax<|ax<|eu 24 aj aj aj aj ?_
 refine dr (ak bb) rfl<|dr (Jx aa xA) rfl<|dr (ak aa) rfl<|lB aa (λab bc=>?_) (λab bc=>?_)
 ·skip;refine c8 ⟨_,rfl,.inl ab⟩ rfl ?_;refine c8 ⟨_,rfl,.inl (ae ab)⟩ rfl ?_;refine c8 ⟨_,rfl,.inl (ag ab)⟩ rfl ?_;refine c8 ⟨_,rfl,.inl (ae (ag ab))⟩ rfl ?_;refine c8 ⟨_,rfl,.inl (ai ab)⟩ rfl ?_;refine dr (bq (ae (ai ab)) aw) rfl<|dr (ak aa) rfl<|c8 ⟨_,rfl,.inl aa⟩ rfl ?_
  refine c8 ⟨_,rfl,.inl (ae aa)⟩ rfl ?_;refine c8 ⟨_,rfl,.inl (ag aa)⟩ rfl ?_;refine c8 ⟨_,rfl,.inl (ae (ag aa))⟩ rfl ?_;refine c8 ⟨_,rfl,.inl (ai aa)⟩ rfl ?_;refine dr (bq (ae (ai aa)) aw) rfl<|dr (ak aa) rfl<|c8 ⟨_,rfl,.inl aa⟩ rfl ?_
  refine c8 ⟨_,rfl,.inl (ae aa)⟩ rfl ?_;refine c8 ⟨_,rfl,.inl (ag aa)⟩ rfl ?_;refine c8 ⟨_,rfl,.inr aa⟩ rfl ?_;refine c8 ⟨_,rfl,.inr (ae aa)⟩ rfl ?_;refine c8 ⟨_,rfl,.inl (ae (ai aa))⟩ rfl ?_;refine dr (bq (ag (ai aa)) aw) rfl<|dE<|bu (ay (aH a8)) (ay (aH a9)) (ay (aH ba)) aa ?_;clear ab a8 bw a9 ba bb;intro bU bx bz bW bA
  refine ao<|lA bA<|at_<|ar (ak bx) rfl<|ar (aJ jV rfl (ae bz)) rfl<|ar (az (aK vk rfl aL aa aA) du) rfl ?_
  refine dn (ix (J:=J) (B:=B) (S:=S) (M:=M) (nam:=nam) (cnt:=cnt) (ws:=ws) (last:=w) (kind:=kind) br bn _ _) (aG (ag aa) (aG aa (aG aw aN))) iy trivial rfl (λ_ _ h=>h.elim) (λbX bY be=>?_)
  repeat (refine eG ?_)
  exact⟨_,rfl,be.1,bp.trans be.2 iV⟩
 ·cases bc
end
section
variable {mem:List Ob} {n:Nat} (hn:mem.length=n) {b:Nat} {nam:ByteArray} {J B S M:AV} {cnt:Int} {w:Wd} {ws:List Wd} {last:Wd} {kind:ByteArray} {es er:Value} (hes:fz es) (her:fz er) (h0:mem[0]? =some (.bY (gX es er)))
theorem Pq{l:List UInt8}{D:Nat}(h:ga l D=true):∃ v,atoiAll l= .ok v/\jf l=v:=by
 by_cases hv:∃ v,atoiAll l= .ok v
 ·obtain⟨v,hv⟩:=hv;exact⟨v,hv,(xx hv D).2⟩
 ·rw [L8 (λv hq=>hv ⟨v,hq⟩)]at h;cases h
include hn h0
theorem ME(hb:mem[b]? =some (.box aY (aW nam J B S M cnt (w::ws) last kind)))(hl:ws.length<=1000000)(hs:w.txt.size<=1000000)(below:Bool)(hi:eB w below=true):ew Tryz.prog 41 [.ptr b 0,.v (.bool below)] mem (λr m'=>r=mA (jf w.txt.data.toList)/\bP mem m' (λj=>j=b)/\m'[b]? =some (.box aY (aW nam J B S M cnt ws w kind))) (λ_ _=>False):=by
 have hk:ga w.txt.data.toList 6=true:=by unfold eB at hi;rw [SS]at hi;exact hi.1
 obtain⟨v,hv,hnv⟩:=Pq hk;rw [hnv];exact Ip hn h0 hb hl hs below v hv hi
include hes her
theorem JG(hb:mem[b]? =some (.box aY (aW nam J B S M cnt (w::ws) last kind)))(hl:ws.length<=1000000)(hs:w.txt.size<=1000000)(below:Bool)(hi:eB w below=false):ew Tryz.prog 41 [.ptr b 0,.v (.bool below)] mem (λ_ _=>False) (λu m'=>u=gp cnt w.col 7/\bP mem m' (λj=>j=b)):=by
 by_cases hv:∃ v,atoiAll w.txt.data.toList= .ok v
 ·obtain⟨v,hv⟩:=hv;exact Iq hn h0 hb hl hs below v hv hi
 ·exact Ir hn hes her h0 hb hl hs below λv hq=>hv ⟨v,hq⟩
end
section
variable {mem:List Ob} {n:Nat} (hn:mem.length=n) {b:Nat} {nam:ByteArray} {J B S M:AV} {cnt:Int} {last:Wd} {kind:ByteArray}
include hn
theorem I2(hb:mem[b]? =some (.box aY (aW nam J B S M cnt [] last kind)))(hc: -1000000000<=last.col/\last.col<=1000000000)(hs:last.txt.size<=1000000000)(below:Bool):ew Tryz.prog 41 [.ptr b 0,.v (.bool below)] mem (λ_ _=>False) (λv m'=>v=gp cnt (last.col+last.txt.size) 6/\bP mem m' (λj=>j=b)):=by
 have hbn:=cL hb hn;refine gr (fn:=Tryz.f41) 45 aj rfl aj bO ?_;intro af ad hA ab;have ag:al af (.tmp 0)=_:=hA 0 _ rfl;have ah:al af (.tmp 1)=_:=hA 1 _ rfl;have an:ad.length=n:=by rw [ab];exact hn
 have ai:ad[b]? =_:=(congrArg (λq=>q[b]?) ab).trans hb;simp only [pS,Value.cells,Nat.reduceAdd,aW,aY,aQ]at ai;have ap:bP mem ad (λj=>j=b):=by rw [ab];exact bP.refl _ _
 clear hA ab;refine ax<|at_<|ar (aB aw) rfl<|bD (ae ag) (ae ah) ?_;clear ag ah;intro av au ay
 refine ao<|ax<|at_<|ar (ak au) rfl<|dn (CS (J:=J) (B:=B) (S:=S) (M:=M) (nam:=nam) (cnt:=cnt) (last:=last) (kind:=kind) an ai hc hs) (aG aa aN) kC trivial rfl (λ_ _ h=>h.elim) (λaz aA am=>?_)
 repeat (refine eG ?_)
 exact⟨_,rfl,am.1,ap.trans am.2 iV⟩
end
end Go.Proofs.YtfoaiidcfkmneaaGreatDoor
namespace Go.Proofs.YtfoaiidcfkmneaaGreatDoor
open Go Go.RowKit Go.Proofs Go.Lib
structure RS where
 nam:ByteArray
 js:List gB
 bs:List g9
 ss:List fM
 cnt:Int
 ws:List Wd
 last:Wd
 kind:ByteArray
 ks:List ByteArray
 cs:List (List Int)
abbrev HL:=List (ByteArray×Nat)
def hK(hs:HL)(q:Nat):ByteArray:=(hs.getD q default).1
def hN(hs:HL)(q:Nat):Nat:=(hs.getD q default).2
def fx(hs:HL):List (ByteArray×AV):=hs.map λx=>(x.1,.own x.2)
def cR(cs:List (List Int))(q:Nat):List Int:=cs.getD q default
theorem lg{hs:HL}{q:Nat}(h:q<hs.length):(fx hs)[q]? =some (hK hs q,.own (hN hs q)):=by
 simp [fx,hK,hN,SQ h,SO]
structure bM (mem:List Ob) (hs:HL) (cs:List (List Int)) (i:Nat):Prop where
 len:cs.length=hs.length
 at_:∀ q,q<hs.length->q≠i->mem[hN hs q]? =some (.row 3 1 ((cR cs q).map iE))
 inj:∀ a b,a<hs.length->b<hs.length->hN hs a=hN hs b->a=b
 key:∀ a b,a<hs.length->b<hs.length->hK hs a=hK hs b->a=b
theorem bM.nv{mem:List Ob}{hs:HL}{cs:List (List Int)}{i:Nat}(h:bM mem hs cs i):wO (fx hs):=λa b k x y ha hb=>by
 have h1:a<hs.length:=by have:=(SN.1 ha).1;simpa [fx]using this
 have h2:b<hs.length:=by have:=(SN.1 hb).1;simpa [fx]using this
 rw [lg h1]at ha;rw [lg h2]at hb;cases ha;have:hK hs b=hK hs a:=by have:=congrArg (Option.map Prod.fst) hb;simpa using this
 exact h.key a b h1 h2 this.symm
theorem bM.zero(mem:List Ob):bM mem [] [] 0:=⟨rfl,λq h=>absurd h aL,λa b h=>absurd h aL,λa b h=>absurd h aL⟩
def pE:Ob->Bool
 | .row e _ _=>e != 3
 | _=>true
section
variable {mem m:List Ob} {hs:HL} {cs:List (List Int)} {i:Nat}
theorem bM.of_same(h:bM mem hs cs i)(hm:∀ q,q<hs.length->q≠i->m[hN hs q]? =mem[hN hs q]?):bM m hs cs i:=
 ⟨h.len,λq h1 h2=>(hm q h1 h2).trans (h.at_ q h1 h2),h.inj,h.key⟩
theorem bM.miss(h:bM mem hs cs i){j:Nat}{o:Ob}(hj:mem[j]? =some o)(ho:pE o=true):∀ q,q<hs.length->q≠i->hN hs q≠j:=λq h1 h2 he=>by
 have:=h.at_ q h1 h2;rw [he,hj]at this;cases this;simp [pE]at ho
theorem bM.aI{o:Ob}(hm:m=mem++ [o])(h:bM mem hs cs i):bM m hs cs i:=
 ⟨h.len,λq h1 h2=>Proofs.YtfoaiidcfkmneaaGreatDoor.aI hm (h.at_ q h1 h2),h.inj,h.key⟩
theorem bM.bJ{k:Nat}(hm:m=mem++List.replicate k .gone)(h:bM mem hs cs i):bM m hs cs i:=
 ⟨h.len,λq h1 h2=>Proofs.YtfoaiidcfkmneaaGreatDoor.bJ hm (h.at_ q h1 h2),h.inj,h.key⟩
theorem bM.m7(h:bM mem hs cs i){j:Nat}{o':Ob}(hm:m=mem.set j o')(hne:∀ q,q<hs.length->q≠i->hN hs q≠j):bM m hs cs i:=
 h.of_same λq h1 h2=>by subst hm;rw [SY λe=>hne q h1 h2 e.symm]
theorem bM.au{j:Nat}{o o':Ob}(hm:m=mem.set j o')(h:bM mem hs cs i)(hj:mem[j]? =some o)(ho:pE o=true):bM m hs cs i:=h.m7 hm (h.miss hj ho)
theorem bM.cC{j:Nat}{o o':Ob}(hm:m=mem.set j .gone ++ [o'])(h:bM mem hs cs i)(hj:mem[j]? =some o)(ho:pE o=true):bM m hs cs i:=aI hm (au rfl h hj ho)
theorem bM.vR{j:Nat}{o o':Ob}(hi:i<hs.length)(hm:m=(mem.set (hN hs i) .gone).set j o')(h:bM mem hs cs i)(hj:mem[j]? =some o)(ho:pE o=true):bM m hs cs i:=
 (h.m7 rfl λq h1 h2 he=>h2 (h.inj q i h1 hi he)).m7 hm (h.miss hj ho)
theorem bM.all{K:Nat->Prop}(h:bM mem hs cs i)(hK:bP mem m K)(hn:∀ q,q<hs.length->q≠i-> ¬ K (hN hs q)):bM m hs cs i:=
 h.of_same λq h1 h2=>hK.same _ (SN.1 (h.at_ q h1 h2)).1 (hn q h1 h2)
theorem bM.take(h:bM mem hs cs hs.length){q:Nat}(hq:q<hs.length):mem[hN hs q]? =some (.row 3 1 ((cR cs q).map iE))/\bM mem hs cs q:=
 ⟨h.at_ q hq ah,h.len,λa h1 _=>h.at_ a h1 ah,h.inj,h.key⟩
theorem pF{hs:HL}{i:Nat}{x:ByteArray×Nat}{q:Nat}(hi:i<hs.length):hN (hs.set i x) q=if q=i then x.2 else hN hs q:=by
 unfold hN
 by_cases h:i=q
 ·subst h;rw [if_pos rfl,SO,S7 hi];rfl
 ·rw [if_neg (λe=>h e.symm),SO,SY h, <- SO]
theorem Gm{hs:HL}{i:Nat}{k:ByteArray}{n:Nat}{q:Nat}(hi:i<hs.length)(hk:hK hs i=k):hK (hs.set i (k,n)) q=hK hs q:=by
 unfold hK at hk ⊢
 by_cases h:i=q
 ·subst h;rw [SO,S7 hi];exact hk.symm
 ·rw [SO,SY h, <- SO]
theorem bM.put(h:bM m hs cs i)(hi:i<hs.length){n:Nat}{xs:List Int}{k:ByteArray}(hk:hK hs i=k)(hn:m[n]? =some (.row 3 1 (xs.map iE)))(hnew:∀ q,q<hs.length->hN hs q≠n):bM m (hs.set i (k,n)) (cs.set i xs) (hs.set i (k,n)).length :=by
 refine⟨by simp [h.len],λq hq _=>?_,λa b ha hb hab=>?_,λa b ha hb hab=>?_⟩
 ·rw [TE]at hq;rw [pF hi]
  by_cases hqi:q=i
  ·subst hqi;rw [if_pos rfl];unfold cR;rw [SO,S7 (by rw [h.len];exact hi)];exact hn
  ·rw [if_neg hqi];unfold cR;rw [SO,SY (λe=>hqi e.symm), <- SO];exact h.at_ q hq hqi
 ·rw [TE]at ha hb;rw [pF hi,pF hi]at hab
  by_cases h1:a=i<;>by_cases h2:b=i
  ·omega
  ·rw [if_pos h1,if_neg h2]at hab;exact absurd hab.symm (hnew b hb)
  ·rw [if_neg h1,if_pos h2]at hab;exact absurd hab (hnew a ha)
  ·rw [if_neg h1,if_neg h2]at hab;exact h.inj a b ha hb hab
 ·rw [TE]at ha hb;rw [Gm hi hk,Gm hi hk]at hab;exact h.key a b ha hb hab
theorem pG{hs:HL}{x:ByteArray×Nat}{q:Nat}:hN (hs++ [x]) q=if q<hs.length then hN hs q else if q=hs.length then x.2 else 0:=by
 unfold hN
 by_cases h:q<hs.length
 ·rw [if_pos h,SO,SX h, <- SO]
 ·rw [if_neg h,SO,S1 ah]
  by_cases h2:q=hs.length
  ·subst h2;rw [if_pos rfl];simp
  ·rw [if_neg h2,S5 cZ];rfl
theorem Gn{hs:HL}{x:ByteArray×Nat}{q:Nat}(hq:q<hs.length+1):hK (hs++ [x]) q=if q<hs.length then hK hs q else x.1:=by
 unfold hK
 by_cases h:q<hs.length
 ·rw [if_pos h,SO,SX h, <- SO]
 ·rw [if_neg h,SO,S1 ah,show q - hs.length=0 by omega];rfl
theorem bM.more(h:bM m hs cs hs.length){n:Nat}{xs:List Int}{k:ByteArray}(hk:∀ q,q<hs.length->hK hs q≠k)(hn:m[n]? =some (.row 3 1 (xs.map iE)))(hnew:∀ q,q<hs.length->hN hs q≠n):bM m (hs++ [(k,n)]) (cs++ [xs]) (hs++ [(k,n)]).length :=by
 have hl:(hs++ [(k,n)]).length =hs.length+1:=by simp
 refine⟨by simp [h.len],λq hq _=>?_,λa b ha hb hab=>?_,λa b ha hb hab=>?_⟩
 ·rw [hl]at hq;rw [pG]
  by_cases c:q<hs.length
  ·rw [if_pos c];unfold cR;rw [SO,SX (by rw [h.len];exact c), <- SO];exact h.at_ q c ah
  ·rw [if_neg c,if_pos ah];unfold cR;rw [SO,S1 (by rw [h.len];omega),show q - cs.length=0 by rw [h.len];omega];exact hn
 ·rw [hl]at ha hb;rw [pG,pG]at hab
  by_cases h1:a<hs.length<;>by_cases h2:b<hs.length
  ·rw [if_pos h1,if_pos h2]at hab;exact h.inj a b h1 h2 hab
  ·rw [if_pos h1,if_neg h2,if_pos ah]at hab;exact absurd hab (hnew a h1)
  ·rw [if_neg h1,if_pos ah,if_pos h2]at hab;exact absurd hab.symm (hnew b h2)
  ·omega
 ·rw [hl]at ha hb;rw [Gn ha,Gn hb]at hab
  by_cases h1:a<hs.length<;>by_cases h2:b<hs.length
  ·rw [if_pos h1,if_pos h2]at hab;exact h.key a b h1 h2 hab
  ·rw [if_pos h1,if_neg h2]at hab;exact absurd hab (hk a h1)
  ·rw [if_neg h1,if_pos h2]at hab;exact absurd hab.symm (hk b h2)
  ·omega
theorem bM.lt(h:bM m hs cs i){n:Nat}(hl:m.length=n):∀ q,q<hs.length->q≠i->hN hs q<n:=λq h1 h2=>cL (h.at_ q h1 h2) hl
end
structure RH where
 jM:Nat
 jJ:Nat
 jB:Nat
 jS:Nat
 hs:HL
structure fm (st:RS) (H:RH) (lo:Nat) (mem:List Ob) (b:Nat):Prop where
 box:mem[b]? =some (.box aY (aW st.nam (.own H.jJ) (.own H.jB) (.own H.jS) (.own H.jM) st.cnt st.ws st.last st.kind))
 J:mem[H.jJ]? =some (.row 74 4 (st.js.map dp))
 B:mem[H.jB]? =some (.row 76 2 (st.bs.map dx))
 S:mem[H.jS]? =some (.row 78 3 (st.ss.map ei))
 M:mem[H.jM]? =some (.mp (fx H.hs))
 fam:bM mem H.hs st.cs H.hs.length
 keys:H.hs.map (·.1)=st.ks
 lo:lo<=b/\lo<=H.jM/\lo<=H.jJ/\lo<=H.jB/\lo<=H.jS/\ ∀ q,q<H.hs.length->lo<=hN H.hs q
def KR(H:RH)(b:Nat)(j:Nat):Prop:=j=b\/j=H.jM\/j=H.jJ\/j=H.jB\/j=H.jS\/ ∃ q,q<H.hs.length/\j=hN H.hs q
theorem KR.lo{st:RS}{H:RH}{lo:Nat}{mem:List Ob}{b j:Nat}(h:fm st H lo mem b)(hk:KR H b j):lo<=j:=by
 obtain⟨h1,h2,h3,h4,h5,h6⟩:=h.lo;rcases hk with rfl|rfl|rfl|rfl|rfl|⟨q,hq,rfl⟩
 ·exact h1
 ·exact h2
 ·exact h3
 ·exact h4
 ·exact h5
 ·exact h6 q hq
theorem fm.ne{st:RS}{H:RH}{lo:Nat}{mem:List Ob}{b:Nat}(h:fm st H lo mem b):(b≠H.jM/\b≠H.jJ/\b≠H.jB/\b≠H.jS)/\(H.jM≠H.jJ/\H.jM≠H.jB/\H.jM≠H.jS)/\H.jJ≠H.jB/\H.jJ≠H.jS/\H.jB≠H.jS:=by
 have h1:=h.box;have h2:=h.J;have h3:=h.B;have h4:=h.S;have h5:=h.M;refine⟨⟨λe=>?_,λe=>?_,λe=>?_,λe=>?_⟩,⟨λe=>?_,λe=>?_,λe=>?_⟩,λe=>?_,λe=>?_,λe=>?_⟩
 ·rw [e,h5]at h1;cases h1
 ·rw [e,h2]at h1;cases h1
 ·rw [e,h3]at h1;cases h1
 ·rw [e,h4]at h1;cases h1
 ·rw [e,h2]at h5;cases h5
 ·rw [e,h3]at h5;cases h5
 ·rw [e,h4]at h5;cases h5
 ·rw [e,h3]at h2;cases h2
 ·rw [e,h4]at h2;cases h2
 ·rw [e,h4]at h3;cases h3
theorem fm.tn{st:RS}{H:RH}{lo:Nat}{mem:List Ob}{b:Nat}(h:fm st H lo mem b):∀ q,q<H.hs.length->hN H.hs q≠b/\hN H.hs q≠H.jM/\hN H.hs q≠H.jJ/\hN H.hs q≠H.jB/\hN H.hs q≠H.jS:=λq hq=>by
 have hq2:q≠H.hs.length:=by omega
 exact⟨h.fam.miss h.box rfl q hq hq2,h.fam.miss h.M rfl q hq hq2,h.fam.miss h.J rfl q hq hq2,h.fam.miss h.B rfl q hq hq2,h.fam.miss h.S rfl q hq hq2⟩
theorem fm.nz{st:RS}{H:RH}{lo:Nat}{mem:List Ob}{b:Nat}(h:fm st H lo mem b){g:List (Nat×List AV)}(h0:mem[0]? =some (.bY g)):b≠0/\H.jM≠0/\H.jJ≠0/\H.jB≠0/\H.jS≠0/\ ∀ q,q<H.hs.length->hN H.hs q≠0:=by
 have h1:=h.box;have h2:=h.J;have h3:=h.B;have h4:=h.S;have h5:=h.M;refine⟨λe=>?_,λe=>?_,λe=>?_,λe=>?_,λe=>?_,λq hq=>h.fam.miss h0 rfl q hq ah⟩
 ·rw [e,h0]at h1;cases h1
 ·rw [e,h0]at h5;cases h5
 ·rw [e,h0]at h2;cases h2
 ·rw [e,h0]at h3;cases h3
 ·rw [e,h0]at h4;cases h4
def ft(k:ByteArray)(c:Int):List ByteArray->List (List Int)->List ByteArray×List (List Int)
 | [],_=>([k],[[c]])
 | a::ks,cs=>if aS a k then(a::ks,(cs.headD []++ [c])::cs.tail)else(a::(ft k c ks cs.tail).1,cs.headD []::(ft k c ks cs.tail).2)
end Go.Proofs.YtfoaiidcfkmneaaGreatDoor
namespace Go.Proofs.YtfoaiidcfkmneaaGreatDoor
open Go Go.RowKit Go.Proofs Go.Lib
def cV(w:Wd):Int:=jf w.txt.data.toList
def cm(ws:List Wd):Wd:=ws.headD ⟨⟨#[]⟩,0⟩
def fg(below:Bool):List Wd->Int
 | []=>6
 | w::_=>if eB w below then 0 else 7
def iK:List Wd->Int
 | []=>6
 | w::_=>if dX w.txt then 0 else 4
def kg(last:Wd):List Wd->Int
 | []=>last.col+last.txt.size
 | w::_=>w.col
def wQ(w:Wd):Prop:= -1000000000<=w.col/\w.col<=1000000000/\w.txt.size<=1000000
structure g8 (last:Wd) (ws:List Wd):Prop where
 last:wQ last
 len:ws.length<=1000000
 all:∀ w∈ws,wQ w
theorem g8.tail{last:Wd}{ws:List Wd}(h:g8 last ws)(hn:ws≠ []):g8 (cm ws) ws.tail:=by
 match ws,hn with
 | w::ws,_=>exact⟨h.all w aL,by have:=h.len;simp at this ⊢;omega,λx hx=>h.all x (by simp at hx ⊢;exact .inr hx)⟩
theorem lD{below:Bool}{ws:List Wd}(h:fg below ws=0):ws≠ []:=by rintro rfl;cases h
theorem yJ{ws:List Wd}(h:iK ws=0):ws≠ []:=by rintro rfl;cases h
section
variable {mem:List Ob} {n:Nat} (hn:mem.length=n) {b:Nat} {nam:ByteArray} {J B S M:AV} {cnt:Int} {ws:List Wd} {last:Wd} {kind:ByteArray}
include hn
theorem Bz(hb:mem[b]? =some (.box aY (aW nam J B S M cnt ws last kind)))(hB:g8 last ws):ew Tryz.prog 40 [.ptr b 0] mem (λr m'=>iK ws=0/\r= .v (.string (cm ws).txt)/\bP mem m' (λj=>j=b)/\m'[b]? =some (.box aY (aW nam J B S M cnt ws.tail (cm ws) kind))) (λv m'=>iK ws≠0/\v=gp cnt (kg last ws) (iK ws)/\bP mem m' (λj=>j=b)):=by
 match ws with
 | []=>exact(JF hn hb ⟨hB.last.1,hB.last.2.1⟩ (by have:=hB.last.2.2;omega)).mono (λ_ _ h=>h.elim) (λv m h=>⟨by simp [iK],h.1,h.2⟩)
 | w::ws=>
  have hw:=hB.all w aL;have hl:ws.length<=1000000:=by have:=hB.len;simp at this;omega
  cases hi:dX w.txt with
  | true=>exact(Po hn hb hl hw.2.2 hi).mono (λr m h=>⟨by simp [iK,hi],h⟩) (λ_ _ h=>h.elim)
  | false=>exact(MD hn hb hl hw.2.2 hi).mono (λ_ _ h=>h.elim) (λv m h=>⟨by simp [iK,hi],by rw [h.1];simp [iK,hi,kg],h.2⟩)
variable {es er:Value} (hes:fz es) (her:fz er) (h0:mem[0]? =some (.bY (gX es er)))
include hes her h0
theorem mI(hb:mem[b]? =some (.box aY (aW nam J B S M cnt ws last kind)))(hB:g8 last ws)(below:Bool):ew Tryz.prog 41 [.ptr b 0,.v (.bool below)] mem (λr m'=>fg below ws=0/\r=mA (cV (cm ws))/\bP mem m' (λj=>j=b)/\m'[b]? =some (.box aY (aW nam J B S M cnt ws.tail (cm ws) kind))) (λv m'=>fg below ws≠0/\v=gp cnt (kg last ws) (fg below ws)/\bP mem m' (λj=>j=b)):=by
 match ws with
 | []=>exact(I2 hn hb ⟨hB.last.1,hB.last.2.1⟩ (by have:=hB.last.2.2;omega) below).mono (λ_ _ h=>h.elim) (λv m h=>⟨by simp [fg],h.1,h.2⟩)
 | w::ws=>
  have hw:=hB.all w aL;have hl:ws.length<=1000000:=by have:=hB.len;simp at this;omega
  cases hi:eB w below with
  | true=>exact(ME hn h0 hb hl hw.2.2 below hi).mono (λr m h=>⟨by simp [fg,hi],h⟩) (λ_ _ h=>h.elim)
  | false=>exact(JG hn hes her h0 hb hl hw.2.2 below hi).mono (λ_ _ h=>h.elim) (λv m h=>⟨by simp [fg,hi],by rw [h.1];simp [fg,hi,kg],h.2⟩)
end
def dA:List Nat->Wd->List Wd->Int×Int
 | [],_,_=>(0,0)
 | f::fs,last,ws=>if(if f=0 then iK ws else fg (f==1) ws)=0 then dA fs (cm ws) ws.tail else(kg last ws,if f=0 then iK ws else fg (f==1) ws)
def il(sw:Bool):List Wd->Int×Int
 | []=>(0,0)
 | w::ws=>if sw&&eB w true then il sw ws else(w.col,7)
def dF(k:ByteArray):List Nat:=if aS k bj then [0]else if aS k bc then [1,1,1,1]else if aS k aU then [2,1]else [0,2,1]
def de(k:ByteArray)(w0:Wd)(ws:List Wd):Int×Int:=if(dA (dF k) w0 ws).2=0 then il (aS k aX) (ws.drop (dF k).length)else dA (dF k) w0 ws
def dy(p k:ByteArray):Int:=if aS p ⟨#[]⟩then(if aS k bj then 0 else 7)else if aS k bc||aS k aU||aS k aX then(if cv p k then 0 else 9)else 7
theorem qp{fs:List Nat}{last:Wd}{ws:List Wd}(h:iK ws=0):dA (0::fs) last ws=dA fs (cm ws) ws.tail:=by simp [dA,h]
theorem xB{fs:List Nat}{last:Wd}{ws:List Wd}(h:iK ws≠0):dA (0::fs) last ws=(kg last ws,iK ws):=by simp [dA,h]
theorem yK{fs:List Nat}{f:Nat}{below:Bool}{last:Wd}{ws:List Wd}(hf:f≠0)(hb:(f==1)=below)(h:fg below ws=0):dA (f::fs) last ws=dA fs (cm ws) ws.tail:=by simp only [dA,if_neg hf,hb,h,if_true]
theorem xU{fs:List Nat}{f:Nat}{below:Bool}{last:Wd}{ws:List Wd}(hf:f≠0)(hb:(f==1)=below)(h:fg below ws≠0):dA (f::fs) last ws=(kg last ws,fg below ws):=by simp only [dA,if_neg hf,hb,if_neg h]
theorem py{fs:List Nat}{last:Wd}{ws:List Wd}(h:fg true ws=0):dA (1::fs) last ws=dA fs (cm ws) ws.tail:=yK aD rfl h
theorem su{fs:List Nat}{last:Wd}{ws:List Wd}(h:fg false ws=0):dA (2::fs) last ws=dA fs (cm ws) ws.tail:=yK aD rfl h
theorem xW{fs:List Nat}{last:Wd}{ws:List Wd}(h:fg true ws≠0):dA (1::fs) last ws=(kg last ws,fg true ws):=xU aD rfl h
theorem CV{fs:List Nat}{last:Wd}{ws:List Wd}(h:fg false ws≠0):dA (2::fs) last ws=(kg last ws,fg false ws):=xU aD rfl h
theorem kB{k:ByteArray}{w0:Wd}{ws:List Wd}{c e:Int}(h:dA (dF k) w0 ws=(c,e))(he:e≠0):de k w0 ws=(c,e):=by
 unfold de;rw [h,if_neg nW]
theorem vS{k:ByteArray}{w0:Wd}{ws:List Wd}(h:(dA (dF k) w0 ws).2=0):de k w0 ws=il (aS k aX) (ws.drop (dF k).length):=by
 unfold de;rw [if_pos h]
theorem yL{k:ByteArray}{w0:Wd}{ws:List Wd}{r:List Wd}(h:dA (dF k) w0 ws=(0,0))(hr:ws.drop (dF k).length =r)(h2:r.length=0):de k w0 ws=(0,0):=by
 rw [vS (by rw [h]),hr,Uw.1 h2];rfl
theorem xX{k:ByteArray}{w0:Wd}{ws:List Wd}{r:List Wd}(h:dA (dF k) w0 ws=(0,0))(hs:aS k aX=false)(hr:ws.drop (dF k).length =r)(h2:0<r.length):de k w0 ws=((r.getD 0 default).col,7):=by
 rw [vS (by rw [h]),hr,hs]
 match r,h2 with
 | w::r,_=>rfl
theorem jN(a b:ByteArray):aS a b=(a.data.toList==b.data.toList):=by unfold aS;rw [toList_data,toList_data]
theorem tz(l:List Wd):l.drop 2=l.tail.tail:=by rw [<- UO, <- UO,Uf]
theorem Hu(l:List Wd):l.drop 4=l.tail.tail.tail.tail:=by rw [<- tz, <- tz,Uf]
theorem SC(l:List Wd):l.drop 3=l.tail.tail.tail:=by rw [<- tz, <- UO,Uf]
theorem qi:dF bj= [0]:=by simp only [dF,jN];decide
theorem qg:dF bc= [1,1,1,1]:=by simp only [dF,jN];decide
theorem oS:dF aU= [2,1]:=by simp only [dF,jN];decide
theorem qd:dF aX= [0,2,1]:=by simp only [dF,jN];decide
theorem Pv:aS bj aX=false:=by rw [jN];decide
theorem MF:aS bc aX=false:=by rw [jN];decide
theorem Px:aS aU aX=false:=by rw [jN];decide
theorem QL{zs:List Wd}(h:fg true zs=0):il true zs=il true zs.tail:=by
 match zs with
 | []=>cases h
 | w::zs=>
  have hw:eB w true=true:=by
   cases hq:eB w true with
   | true=>rfl
   | false=>simp [fg,hq]at h
  simp only [il,hw,Bool.and_self,if_true,UP]
theorem Py{lz:Wd}{zs:List Wd}(hz:0<zs.length)(h:fg true zs≠0):il true zs=(kg lz zs,fg true zs):=by
 match zs,hz with
 | w::zs,_=>
  have hw:eB w true=false:=by
   cases hq:eB w true with
   | false=>rfl
   | true=>simp [fg,hq]at h
  simp [il,hw,kg,fg]
theorem Gp{ws:List Wd}(h:ws≠ []):ws.map cV=cV (cm ws)::ws.tail.map cV:=by
 match ws,h with
 | w::ws,_=>rfl
theorem MG:aS aX aX=true:=by rw [jN];decide
end Go.Proofs.YtfoaiidcfkmneaaGreatDoor
namespace Go.Proofs.YtfoaiidcfkmneaaGreatDoor
open Go Go.RowKit Go.Proofs Go.Shelf Go.Lib
def I3:Go.Shelf.Ren:=⟨λ|102=>15|209=>36|207=>60|n=>n,λ|9=>9|4=>4|3=>3|n=>n,λ|n=>n⟩
theorem QM:Go.Proofs.Lays.n102 Tryz.prog I3:= {
 mixed:=by kernel_rfl
 f102:=Tryz.func15.trans (congrArg some aj)
 f207:=Tryz.func60.trans (congrArg some aj)
 f209:=Tryz.func36.trans (congrArg some aj)
 t3:=Tryz.underlying3
 a3:=Tryz.isAgg3
 z3:=Tryz.sizeOf3
 v3:=Tryz.zeroValue3
 t4:=Tryz.underlying4
 a4:=Tryz.isAgg4
 z4:=Tryz.sizeOf4
 v4:=Tryz.zeroValue4
 t9:=Tryz.underlying9
 a9:=Tryz.isAgg9
 z9:=Tryz.sizeOf9
 v9:=Tryz.zeroValue9}
def Ae(n:Nat):Bool:=n==32||n==9
def blk(b:UInt8):Bool:=b==32||b==9
def ru(b:UInt8):Bool:= !blk b
theorem Pz(b:UInt8):Ae b.toNat=blk b:=by
 unfold Ae blk;have e1:(b==32)=(b.toNat==32):=by
  rw [Ud,beq_iff_eq,beq_iff_eq];exact⟨λh=>by rw [h];rfl,λh=>UInt8.toNat_inj.1 (by rw [h];rfl)⟩
 have e2:(b==9)=(b.toNat==9):=by
  rw [Ud,beq_iff_eq,beq_iff_eq];exact⟨λh=>by rw [h];rfl,λh=>UInt8.toNat_inj.1 (by rw [h];rfl)⟩
 rw [e1,e2]
theorem Ba{q:UInt8->Bool}:∀ {l:List UInt8} {j:Nat},j<l.length->q (l.getD j 0)=false->(∀ k,k<j->q (l.getD k 0)=true)->l.takeWhile q=l.take j/\l.dropWhile q=l.drop j
 | [],j,h,_,_=>by simp at h
 | a::l,0,_,h1,_=>by
  have h1':q a=false:=by simpa using h1
  simp [List.takeWhile,List.dropWhile,h1']
 | a::l,j+1,h,h1,h2=>by
  have ha:q a=true:=by simpa using h2 0 ah
  obtain⟨e1,e2⟩:=Ba (q:=q) (l:=l) (j:=j) kD nV (λk hk=>by simpa using h2 (k+1) ah);simp [List.takeWhile,List.dropWhile,ha,e1,e2]
theorem BA{q:UInt8->Bool}:∀ {l:List UInt8},(∀ k,k<l.length->q (l.getD k 0)=true)->l.takeWhile q=l/\l.dropWhile q= []
 | [],_=>by simp
 | a::l,h=>by
  have ha:q a=true:=by simpa using h 0 aL
  obtain⟨e1,e2⟩:=BA (q:=q) (l:=l) (λk hk=>by simpa using h (k+1) (by simpa using hk));simp [List.takeWhile,List.dropWhile,ha,e1,e2]
def qa(l:List UInt8):List UInt8:=l.dropWhile blk
def tA(l:List UInt8):List UInt8:=l.takeWhile ru
theorem PC(s:ByteArray)(j:Nat):s.extract j s.size=bs (s.data.toList.drop j):=by
 rw [<- yG s,mZ,gK,sr,T9 pz]
theorem PD(s:ByteArray)(j:Nat):s.extract 0 j=bs (s.data.toList.take j):=by
 rw [<- yG s,mZ,gK];simp
theorem HK(s p:ByteArray)(hs:s.size<=1000000000):bT Tryz.prog 15 [.v (.string s),.v (.string p)] (λq=>q= .v (.string (bs (trimSuffix s.data.toList p.data.toList)))):=by
 intro pr w vs h1 h2;rw [zG h1 h2];refine(Any.strings_TrimSuffix QM s p w ah).mono ?_;rintro en w' ⟨rfl,rfl⟩;exact⟨_,_,rfl,rfl,.v _,Ext.refl _⟩
theorem CW:(Tryz.prog.info? 54).bind (·.zero)=some (.agg #[.string ByteArray.empty,.int .i64 0]):=by kernel_rfl
theorem CX:Tryz.prog.underlying 54=some (.struct (eX Tryz.prog 54)):=by kernel_rfl
theorem CY:∀ w,((eX Tryz.prog 54).mapM λf=>Prod.mk f.offset<$>sizeOf f.type:Sem (Array (Nat×Nat))).run Tryz.prog w= .ok (#[(0,1),(1,1)]) w:=λ_=>by kernel_rfl
theorem BC:∀ args w,(callFunc 35 args).run Tryz.prog w= .ok (.enter 35 args) w:=λ_ _=>by kernel_rfl
theorem uC:b9 Tryz.prog 52 54 2 24 (.agg #[.string ByteArray.empty,.int .i64 0]):=⟨aj,aj,aj⟩
theorem sx(s:ByteArray)(c:Int): [[AV.v (.string s),AV.v (.int .i64 c)]]= [(⟨s,c⟩:Wd)].map aQ:=rfl
def iL(l:List UInt8)(a:Nat):List UInt8:=qa (l.drop a)
def fW(l:List UInt8)(a:Nat):List UInt8:=tA (iL l a)
def gY(l:List UInt8)(a:Nat):Nat:=l.length - (iL l a).length
theorem PE(l:List UInt8):(qa l).length <=l.length:=by
 unfold qa
 induction l with
 | nil=>simp
 | cons b l ih=>simp only [List.dropWhile];split<;>simp;omega
theorem PG(l:List UInt8):(tA l).length <=l.length:=by
 unfold tA
 induction l with
 | nil=>simp
 | cons b l ih=>simp only [List.takeWhile];split<;>simp;omega
theorem xY(l:List UInt8)(a:Nat):(iL l a).length <=l.length - a:=by
 have:=PE (l.drop a);rw [TZ]at this;exact this
theorem CZ(l:List UInt8)(a:Nat):(fW l a).length <=(iL l a).length :=PG _
theorem yM(l:List UInt8)(a:Nat):gY l a+(fW l a).length <=l.length:=by
 have h1:=xY l a;have h2:=CZ l a;unfold gY;omega
def kh(l:List UInt8):Nat->Nat->List Wd
 | 0,_=> []
 | f+1,a=>if iL l a= []then []else⟨bs (fW l a),gY l a+1⟩::kh l f (gY l a+(fW l a).length)
def ee(l:List UInt8)(a:Nat):List Wd:=kh l (l.length+1 - a) a
theorem zJ{l:List UInt8}{a:Nat}(h:iL l a≠ []):fW l a≠ []/\a<=gY l a/\gY l a<l.length:=by
 have h1:=xY l a;have h2:=Tt.2 h;refine⟨?_,by unfold gY;omega,by unfold gY;omega⟩;unfold fW tA;unfold iL qa at h ⊢;generalize hq:List.dropWhile blk (List.drop a l)=q at h ⊢;cases q with
 | nil=>exact absurd rfl h
 | cons x q=>
  have:blk x=false:=by
   have h3:=List.head?_dropWhile_not blk (List.drop a l);rw [hq]at h3
   simpa using h3
  simp [List.takeWhile,ru,this]
theorem yN{l:List UInt8}{a:Nat}:fW l a= []↔iL l a= []:=by
 constructor
 ·intro h
  by_cases h0:iL l a= []
  ·exact h0
  ·exact absurd h (zJ h0).1
 ·intro h;unfold fW;rw [h];rfl
theorem JH(l:List UInt8):∀ (f g a:Nat),l.length+1<=f+a->l.length+1<=g+a->a<=l.length->kh l f a=kh l g a:=by
 intro f
 induction f with
 | zero=>intro g a h1 h2 h3;omega
 | succ f ih=>
  intro g a h1 h2 h3;cases g with
  | zero=>omega
  | succ g=>
   simp only [kh]
   split
   ·rfl
   ·rename_i h0
    obtain⟨a1,a2,a3⟩:=zJ h0;have a4:=yM l a;have a5:=Tt.2 a1
    congr 1
    exact ih g _ ah ah a4
theorem xC{l:List UInt8}{a:Nat}(ha:a<=l.length)(h:fW l a= []):ee l a= []:=by
 unfold ee;rw [show l.length+1 - a=(l.length - a)+1 by omega,kh,if_pos (yN.1 h)]
theorem xn{l:List UInt8}{a:Nat}(ha:a<=l.length)(h:fW l a≠ []):ee l a=⟨bs (fW l a),gY l a+1⟩::ee l (gY l a+(fW l a).length):=by
 have h0:iL l a≠ []:=λe=>h (yN.2 e)
 obtain⟨a1,a2,a3⟩:=zJ h0;have a4:=yM l a;have a5:=Tt.2 a1;unfold ee;rw [show l.length+1 - a=(l.length - a)+1 by omega,kh,if_neg h0]
 congr 1
 exact JH l _ _ _ ah ah a4
theorem JI(l:List UInt8):ee l l.length= []:=by
 refine xC (SR _) (yN.2 ?_);unfold iL qa;rw [List.drop_length];rfl
theorem yO{l:List UInt8}{i:Nat}(hi:i<l.length):l.drop i=l.getD i default::l.drop (i+1):=by
 rw [TU hi,SO,SQ hi];rfl
theorem MH{l:List UInt8}{i:Nat}(hi:i<l.length)(hb:blk (l.getD i default)=true):iL l (i+1)=iL l i:=by
 unfold iL qa;rw [yO hi];simp only [List.dropWhile,hb]
theorem MI{l:List UInt8}{i:Nat}(hi:i<l.length)(hb:blk (l.getD i default)=true):ee l (i+1)=ee l i:=by
 have h1:=MH hi hb;have h2:fW l (i+1)=fW l i:=by unfold fW;rw [h1]
 have h3:gY l (i+1)=gY l i:=by unfold gY;rw [h1]
 by_cases h:fW l i= []
 ·rw [xC ah h,xC ah (h2.trans h)]
 ·rw [xn ah h,xn ah (by rw [h2];exact h),h2,h3]
theorem MJ{l:List UInt8}{i:Nat}(hi:i<l.length)(hb:blk (l.getD i default)=false):iL l i=l.drop i/\gY l i=i:=by
 have h1:iL l i=l.drop i:=by
  unfold iL qa;rw [yO hi];simp only [List.dropWhile,hb]
 refine⟨h1,?_⟩;unfold gY;rw [h1,TZ];omega
theorem MK{l:List UInt8}{a i:Nat}(ha:a<l.length)(hai:a<i)(hi:i<=l.length)(hno:∀ k:Nat,a<=k->k<i->blk (l.getD k default)=false)(hend:i=l.length\/blk (l.getD i default)=true):fW l a=(l.drop a).take (i - a)/\gY l a=a/\(fW l a).length =i - a:=by
 obtain⟨h1,h2⟩:=MJ ha (hno a (SR _) hai);have key:fW l a=(l.drop a).take (i - a):=by
  unfold fW tA;rw [h1];have hg:∀ k,(l.drop a).getD k 0=l.getD (a+k) default:=λk=>by simp [SO,Tj];rfl
  rcases Tf i l.length with hlt|hge
  ·refine(Ba pz ?_ λk hk=>?_).1
   ·rw [hg,show a+(i - a)=i by omega];rcases hend with h|h
    ·omega
    ·simp only [ru,h];rfl
   ·rw [hg];simp only [ru,hno (a+k) ah ah];rfl
  ·have:=(BA (q:=ru) (l:=l.drop a) λk hk=>by
    rw [TZ]at hk;rw [hg];simp only [ru,hno (a+k) ah ah];rfl).1
   rw [this,T9 pz]
 exact⟨key,h2,by rw [key,TF,TZ];omega⟩
theorem lh(b:UInt8):((b.toNat:Int)=32\/(b.toNat:Int)=9)↔blk b=true:=by
 rw [<- Pz];unfold Ae;simp only [TJ,beq_iff_eq];omega
theorem E6{b:UInt8}(h1:¬ (b.toNat:Int)=32)(h2:¬ (b.toNat:Int)=9):blk b=false:=by
 cases h:blk b with
 | false=>rfl
 | true=>rcases (lh b).2 h with h3|h3;exact absurd h3 h1;exact absurd h3 h2
theorem kU{l:List UInt8}{i i2:Int}{xs:List Wd}(p1:0<=i)(p2:i<l.length)(p3:xs++ee l i.toNat=ee l 0)(hb:blk (l.getD i.toNat default)=false)(r1:i<=i2)(r2:i2<=l.length)(r3:∀ k:Nat,i.toNat<=k->k<i2.toNat->blk (l.getD k default)=false)
 (he:i2.toNat=l.length\/blk (l.getD i2.toNat default)=true):i<i2/\(xs++ [(⟨bs ((l.drop i.toNat).take (i2.toNat - i.toNat)),i+1⟩:Wd)])++ee l i2.toNat=ee l 0:=by
 have hlt:i<i2:=by
  rcases Int.lt_or_eq_of_le r1 with h|h
  ·exact h
  ·subst h;rcases he with h|h
   ·omega
   ·rw [hb]at h;cases h
 obtain⟨e1,e2,e3⟩:=MK (l:=l) (a:=i.toNat) (i:=i2.toNat) ah ah ah r3 he;refine⟨hlt,?_⟩;have hne:fW l i.toNat≠ []:=λh=>by rw [h]at e3;simp at e3;omega
 rw [<- p3,xn ah hne,e2,e3,show i.toNat+(i2.toNat - i.toNat)=i2.toNat by omega,e1,show((i.toNat:Nat):Int)+1=i+1 by omega];simp
theorem tZ(l:List UInt8){a:Nat}(h:l.length<=a):ee l a= []:=by
 rcases Nat.lt_or_eq_of_le h with h|h
 ·unfold ee;rw [show l.length+1 - a=0 by omega];rfl
 ·rw [<- h];exact JI l
theorem kx{l:List UInt8}{i:Int}(h0:0<=i)(h:(l.length:Int)<=i\/blk (l.getD i.toNat default)=true):ee l (i+1).toNat =ee l i.toNat:=by
 rw [show(i+1).toNat =i.toNat+1 by omega]
 by_cases hi:i.toNat<l.length
 ·rcases h with h|h
  ·omega
  ·exact MI hi h
 ·rw [tZ l ah,tZ l ah]
theorem AY(c:UInt8):bT Tryz.prog 35 [.v (.int .u8 c.toNat)] (λq=>q= .v (.bool (blk c))):=by
 refine cA (fn:=Tryz.f35) 9 aj rfl aj bO ?_;intro au av hA ah;have ai:al au (.tmp 0)=_:=hA 0 _ rfl;have am:av.length=0:=by rw [ah];rfl
 clear hA ah;refine ax<|at_<|ar (aB aw) rfl<|bn (ae ai) ?_;clear ai;intro ay af
 refine ao<|ax<|at_<|ar (ak af) rfl<|ar (dN aa aw) rfl ?_
 refine ar (ak aa) rfl<|bK aa (λab ad=>?_) (λab ad=>?_)
 ·replace ad:=bt ad;refine aC ⟨_,rfl,.inl ab⟩ rfl ?_;refine aC ⟨_,rfl,.inl (ae ab)⟩ rfl ?_;refine ar (bq (ag ab) aw) rfl<|ar (aB aa) rfl<|bn aa ?_;clear ab af;intro az an
  refine ao<|bm<|bX bp aj (aR an) (.ro _ rfl) ?_
  clear an am
  (have h:=lh c;refine b7 ?_;(simp_all;done))
 replace ad:=bf ad;refine aF (ak (ae (ag af))) ⟨_,rfl,ab⟩ rfl ?_;refine aF (dN aa aw) ⟨_,rfl,(ae ab)⟩ rfl ?_;refine ar (br (ag ab) aa) rfl<|ar (aB aa) rfl<|bn aa ?_;clear ab af;intro aA ap
 refine ao<|bm<|bX bp aj (aR ap) (.ro _ rfl) ?_
 clear ap am
 (have h:=lh c;refine b7 ?_;(simp_all;done))
theorem I4(l:List UInt8)(hl:l.length<=1000000):bT Tryz.prog 14 [.v (.string (bs l))] (λq=>q= .row 2 ((ee l 0).map aQ)):=by
 have hz:(bs l).size =l.length:=rfl;refine cA (fn:=Tryz.f14) 41 aj rfl aj bO ?_;intro b8 b9 hA bv;have bw:al b8 (.tmp 0)=_:=hA 0 _ rfl;have a3:b9.length=0:=by rw [bv];rfl
 clear hA bv;refine ax<|at_<|ar (aB aw) rfl<|bn (ae bw) ?_;clear bw;intro cR bx
 refine ao<|ax<|at_<|ar (aB aw) rfl<|bD (ae bx) aa ?_;clear bx;intro cS bA bE
 refine ao<|ax<|ax<|at_<|ar (aB aw) rfl<|bB (ae bA) (ae bE) aa ?_;clear bA bE;intro cV cb cc cd
 refine ao<|ca<|uk 54 2 cc a3 (λcW aI a5 aJ=>?_)
 have ce:=bS a5 a3;have a6:=bR a5 a3;have a6:_=1:=a6;have aK:al aI (.tmp 0)=_:=(congrArg (λq=>al q (.tmp 0)) aJ).trans (ae cb);have cg:al aI (.tmp 3)=_:=(congrArg (λq=>al q (.tmp 3)) aJ).trans aa;have ci:al aI (.tmp 4)=_:=(congrArg (λq=>al q (.tmp 4)) aJ).trans (ae cd);clear a5 aJ;refine eL (S:=(Int×List Wd)) (λs e mem=>match s with|⟨i,xs⟩=>(al e (.tmp 4)= .v (.int .i64 i))/\(al e (.tmp 0)=al aI (.tmp 0))/\(∃ j,al e (.tmp 3)= .own j/\mem[j]? =some (.row 54 2 (xs.map aQ))/\True)/\(∃ n,mem.length=n/\1<=n)/\((0<=i/\i<=l.length+1/\xs.length<=i/\xs++ee l i.toNat=ee l 0))) (λs=>match s with|⟨i,xs⟩=>(l.length+1 - i).toNat) ⟨0,[]⟩ ⟨ci,rfl,⟨_,cg,ce,trivial⟩,⟨_,a6,SR _⟩,?_⟩ ?_
 ·exact⟨ah,ah,aL,rfl⟩
 ·rintro⟨i,xs⟩ cX cj ⟨a7,cm,⟨bH,bJ,af,-⟩,⟨co,aO,cY⟩,hinv⟩;have a8:=cm.trans aK;have cZ:=cL af aO
  (obtain⟨p1,p2,p4,p3⟩:=hinv)
  refine ax<|ax<|at_<|ar (ak a7) rfl<|ar (ak (ae a8)) rfl<|ar (eE aa rfl cK) rfl<|ar (c6 (ag aa) aa) rfl<|bu (ai a8) (ai bJ) (ai a7) aa ?_;clear a8 bJ a7;intro c7 aP aS aT a9
  refine ao<|bk a9 (λap=>?_) (λap=>?_)
  ·replace ap:=bt ap;refine bF<|ao<|ax<|ca<|ax<|ax<|at_<|ar (ak aP) rfl<|ar (ak (ae aT)) rfl<|ar (gC (ae aa) aa cK ah (by refine gI ?_;omega)) rfl ?_
   refine ar (bI (aG aa aN) rfl (AY _) BC) rfl<|bu (ai aP) (ai aS) (ai aT) aa ?_;clear aP aS aT a9;intro c8 aU aV au ba
   refine ao<|bk ba (λcq=>?_) (λcq=>?_)
   ·skip;refine dJ<|cw<|dI<|ao<|at_<|ar (ak au) rfl ?_
    (refine ar (cf aa aw ?_) rfl ?_; · (unfold In64;omega))
    refine ar (aB aa) rfl<|bB (ae (ag aU)) (ae (ag aV)) aa ?_;clear aU ba aV au;intro c9 cr ct cu
    refine ao<|⟨⟨_,_⟩,⟨cu,(cr.trans aK.symm),⟨_,ct,af,trivial⟩,⟨_,aO,ah⟩,?_⟩,?_⟩
    ·(have hb:blk (l.getD i.toNat default)=true:=(show blk (l.getD i.toNat default)=true by assumption);exact⟨ah,by simp at*;omega,ah,by rw [kx p1 (.inr hb)];exact p3⟩)
    ·((try dsimp only);(simp at*;omega))
   refine bF<|ao<|ax<|at_<|ar (ak au) rfl<|ar (aB aa) rfl<|bu (ag aU) (ag aV) (ag au) aa ?_;clear aU ba aV au;intro bb bL bM cv bN
   refine ao<|ax<|ca<|eL (S:=Int) (λi2 e mem=>(al e (.tmp 4)= .v (.int .i64 i2))/\(al e (.tmp 0)=al bb (.tmp 0))/\(al e (.tmp 3)=al bb (.tmp 3))/\(al e (.tmp 5)=al bb (.tmp 5))/\(mem[bH]? =cj[bH]?)/\(mem.length=co)/\((i<=i2/\i2<=l.length/\ ∀ k:Nat,i.toNat<=k->k<i2.toNat->blk (l.getD k default)=false))) (λi2=>(l.length - i2).toNat) i ⟨cv,rfl,rfl,rfl,rfl,aO,?_⟩ ?_
   ·exact⟨ah,ah,λk h1 h2=>by omega⟩
   ·rintro i2 da db ⟨am,cx,cy,cz,cB,ad,hinv⟩;have an:=cx.trans bL;have aX:=cy.trans bM;have aZ:=cz.trans bN;have av:=cB.trans af
    (obtain⟨r1,r2,r3⟩:=hinv)
    refine ax<|ax<|at_<|ar (ak am) rfl<|ar (ak (ae an)) rfl<|ar (eE aa rfl cK) rfl<|ar (c6 (ag aa) aa) rfl<|ar (ak aa) rfl<|bK aa (λab az=>?_) (λab az=>?_)
    ·replace az:=bt az;refine aF (ak (ae (ai an))) ⟨_,rfl,ab⟩ rfl ?_;refine aF (ak (ag (ai am))) ⟨_,rfl,(ae ab)⟩ rfl ?_;refine aF (gC (ae aa) aa cK ah (by refine gI ?_;omega)) ⟨_,rfl,(ag ab)⟩ rfl ?_;refine aF (bI (aG aa aN) rfl (AY _) BC) ⟨_,rfl,(ae (ag ab))⟩ rfl ?_;refine aF (dT aa) ⟨_,rfl,(ai ab)⟩ rfl ?_;refine ar (bq (ae (ai ab)) aa) rfl<|ck (ae (ag (ay an))) (ae (ag (ay aX))) (ae (ag (ay am))) (ae (ag (ay aZ))) aa ?_;clear ab an aX am aZ;intro dc aA a2 aD aE bc
     refine ao<|bk bc (λaH=>?_) (λaH=>?_)
     ·replace aH:=cT aH;refine bF<|ao<|ca<|at_<|ar (ak aD) rfl ?_
      (refine ar (cf aa aw ?_) rfl ?_; · (unfold In64;omega))
      refine ar (aB aa) rfl<|bu (ae (ag aA)) (ae (ag a2)) aa (ae (ag aE)) ?_;clear aA bc a2 aD aE;intro dd cC cD cE cF
      refine cG<|ao<|⟨_,⟨cE,(cC.trans bL.symm),(cD.trans bM.symm),(cF.trans bN.symm),(av.trans af.symm),ad,?_⟩,?_⟩
      ·(have hb:blk (l.getD i2.toNat default)=false:=(by assumption);exact⟨ah,ah,λk h1 h2=>if hk:k<i2.toNat then r3 k h1 hk else(by rw [show k=i2.toNat by omega];exact hb)⟩)
      ·((try dsimp only);omega)
     replace aH:=di aH;refine dJ<|cw<|cw<|dI<|ao<|at_<|ar (ak a2) rfl<|ar (ak (ae aA)) rfl<|ar (ak (ag aE)) rfl<|ar (ak (ae (ag aD))) rfl<|ar (qk (ag aa) (ae aa) aa cK ah ah ah) rfl ?_
     refine ar (ak (ae (ai aE))) rfl ?_
     (refine ar (cf aa aw ?_) rfl ?_; · (unfold In64;omega))
     refine ar (cU (bz (ag aa) (bz aa bW)) CW CX CY rfl) rfl ?_;refine ar (ep uC (bz aa bW) rfl rfl rfl rfl) rfl<|aM (ib uC rfl ad av (ay aa) aa dY dC) trivial rfl (λde be=>?_)
     have bP:=iY be ad;simp only [pS,Value.cells,Nat.reduceAdd,gK,mZ,sx,bC]at bP;have cH:=iT be ad;clear be av;refine ar (aB aa) rfl<|bB (ae (ag (ay aA))) aa (ae (ag (ay aD))) ?_;clear aA bc a2 aD aE;intro df bQ bU bV
     refine cG<|ao<|at_<|ar (ak bV) rfl ?_
     (refine ar (cf aa aw ?_) rfl ?_; · (unfold In64;omega))
     refine ar (aB aa) rfl<|bB (ae (ag bQ)) (ae (ag bU)) aa ?_;clear bQ bU bV;intro dg cI cJ cM
     refine ao<|⟨⟨_,_⟩,⟨cM,(cI.trans aK.symm),⟨_,cJ,bP,trivial⟩,⟨_,cH,ah⟩,?_⟩,?_⟩
     ·(have hw:=kU p1 lE p3 (show blk (l.getD i.toNat default)=false by assumption) r1 r2 r3 (by(exact .inr (show blk (l.getD i2.toNat default)=true by assumption)));exact⟨ah,ah,by(rw [Tq,Ub];omega),by rw [kx ah (by(exact .inr (show blk (l.getD i2.toNat default)=true by assumption)))];exact hw.2⟩)
     ·((try dsimp only);(simp at*;omega))
    replace az:=bf az;refine aC ⟨_,rfl,.inl ab⟩ rfl ?_;refine aC ⟨_,rfl,.inl (ae ab)⟩ rfl ?_;refine aC ⟨_,rfl,.inl (ag ab)⟩ rfl ?_;refine aC ⟨_,rfl,.inl (ae (ag ab))⟩ rfl ?_;refine aC ⟨_,rfl,.inl (ai ab)⟩ rfl ?_;refine ar (br (ae (ai ab)) aw) rfl<|ck (ae (ag (ay an))) (ae (ag (ay aX))) (ae (ag (ay am))) (ae (ag (ay aZ))) aa ?_;clear ab an aX am aZ;intro dh bg bY bh bj bZ
    refine ao<|iS bZ<|dJ<|cw<|cw<|dI<|ao<|at_<|ar (ak bY) rfl<|ar (ak (ae bg)) rfl<|ar (ak (ag bj)) rfl<|ar (ak (ae (ag bh))) rfl<|ar (qk (ag aa) (ae aa) aa cK ah ah ah) rfl ?_
    refine ar (ak (ae (ai bj))) rfl ?_
    (refine ar (cf aa aw ?_) rfl ?_; · (unfold In64;omega))
    refine ar (cU (bz (ag aa) (bz aa bW)) CW CX CY rfl) rfl ?_;refine ar (ep uC (bz aa bW) rfl rfl rfl rfl) rfl<|aM (ib uC rfl ad av (ay aa) aa dY dC) trivial rfl (λdk bo=>?_)
    have b0:=iY bo ad;simp only [pS,Value.cells,Nat.reduceAdd,gK,mZ,sx,bC]at b0;have cN:=iT bo ad;clear bo av;refine ar (aB aa) rfl<|bB (ae (ag (ay bg))) aa (ae (ag (ay bh))) ?_;clear bg bZ bY bh bj;intro dl b1 b2 b6
    refine cG<|ao<|at_<|ar (ak b6) rfl ?_
    (refine ar (cf aa aw ?_) rfl ?_; · (unfold In64;omega))
    refine ar (aB aa) rfl<|bB (ae (ag b1)) (ae (ag b2)) aa ?_;clear b1 b2 b6;intro dm cO cP cQ
    refine ao<|⟨⟨_,_⟩,⟨cQ,(cO.trans aK.symm),⟨_,cP,b0,trivial⟩,⟨_,cN,ah⟩,?_⟩,?_⟩
    ·(have hw:=kU p1 lE p3 (show blk (l.getD i.toNat default)=false by assumption) r1 r2 r3 (by(exact .inl lE));exact⟨ah,ah,by(rw [Tq,Ub];omega),by rw [kx ah (by(exact .inl lE))];exact hw.2⟩)
    ·((try dsimp only);(simp at*;omega))
  replace ap:=bf ap;refine dJ<|cw<|cw<|dI<|ao<|ax<|at_<|ar (ak aS) rfl<|ar (aB aa) rfl<|bn aa ?_;clear aP aS aT a9;intro dn b7
  refine ao<|bm<|bX bp aj (aR b7) (.own _ _ _ _ af) ?_
  clear b7 af aO
  (rw [tZ l lE,TX]at p3;rw [<- p3])
end Go.Proofs.YtfoaiidcfkmneaaGreatDoor
