/- Texts of this claim, one behind the other: lemmas for the statement. -/
import Derived.Test.YtfoaiidcfkmneaaGreatDoorM15
import Derived.Test.YtfoaiidcfkmneaaGreatDoorT0
import Derived.Test.YtfoaiidcfkmneaaGreatDoorM14
import Derived.Test.YtfoaiidcfkmneaaGreatDoorA27
set_option maxRecDepth 100000
set_option maxHeartbeats 4000000
set_option linter.unusedSimpArgs false
set_option linter.unusedVariables false
namespace Go.Proofs.YtfoaiidcfkmneaaGreatDoor
open Go Go.RowKit Go.Proofs
def cM:List Int->Int
 | []=>0
 | d::ds=>d+1000000000*cM ds
def GD(ds:List Int):Prop:=∀ d∈ds,0<=d/\d<1000000000
def gh(n:Nat):List Int:=if h:n=0 then []else((n%1000000000:Nat):Int)::gh (n/1000000000)
termination_by n
decreasing_by omega
theorem zO:gh 0= []:=by rw [gh];simp
theorem zP{n:Nat}(h:n≠0):gh n=((n%1000000000:Nat):Int)::gh (n/1000000000):=by rw [gh];simp [h]
theorem rU:∀ n:Nat,cM (gh n)=n:=by
 intro n
 induction n using Nat.strongRecOn with
 | ind n ih=>
  by_cases h:n=0
  ·subst h;rw [zO];rfl
  ·rw [zP h,cM,ih _ ah];omega
theorem Qg:∀ n:Nat,GD (gh n):=by
 intro n
 induction n using Nat.strongRecOn with
 | ind n ih=>
  by_cases h:n=0
  ·subst h;rw [zO];intro d hd;cases hd
  ·rw [zP h];intro d hd;rcases TL.1 hd with rfl|hd
   ·omega
   ·exact ih _ ah d hd
theorem GD.tail{d:Int}{ds:List Int}(h:GD (d::ds)):GD ds:=λx hx=>h x (List.mem_cons_of_mem _ hx)
theorem FO:∀ {ds:List Int},GD ds->0<=cM ds
 | [],_=>by decide
 | d::ds,h=>by have:=FO h.tail;have:=h d (UU ..);rw [cM];omega
theorem yq:∀ (a b:List Int),cM (a++b)=cM a+1000000000^a.length*cM b
 | [],b=>by simp [cM]
 | d::a,b=>by
  rw [Uj,cM,cM,yq a b,Ta,UJ,Ux, <- Tn,Tv (1000000000^a.length) 1000000000];omega
theorem BR:∀ {ds:List Int},(∀ d∈ds,d=0)->cM ds=0
 | [],_=>rfl
 | d::ds,h=>by rw [cM,h d (UU ..),BR λx hx=>h x (List.mem_cons_of_mem _ hx)];rfl
theorem GD.at{ds:List Int}(h:GD ds)(i:Nat):0<=ds.getD i default/\ds.getD i default<1000000000:=by
 rw [SO]
 by_cases hi:i<ds.length
 ·rw [SQ hi];exact h _ (TQ hi)
 ·rw [S5 ah];exact⟨aD,aD⟩
theorem GD.take{ds:List Int}(h:GD ds)(n:Nat):GD (ds.take n):=λd hd=>h d (Uc hd)
theorem GD.set{ds:List Int}(h:GD ds)(n:Nat){v:Int}(hv:0<=v/\v<1000000000):GD (ds.set n v):=λd hd=>by
 rcases List.mem_or_eq_of_mem_set hd with hd|rfl
 ·exact h d hd
 ·exact hv
theorem GD.app{a b:List Int}(h:GD a)(k:GD b):GD (a++b):=λd hd=>(UD.1 hd).elim (h d) (k d)
theorem GD.one{v:Int}(hv:0<=v/\v<1000000000):GD [v]:=λd hd=>by rw [List.mem_singleton.1 hd];exact hv
theorem GD.nil:GD []:=λd hd=>by cases hd
theorem GD.rep(n:Nat):GD (List.replicate n 0):=λd hd=>by rw [(List.mem_replicate.1 hd).2];exact⟨aD,aD⟩
theorem yr:∀ {ds:List Int} {k:Nat} (v:Int),k<ds.length->cM (ds.set k v)=cM ds+(v - ds.getD k default)*1000000000^k
 | d::ds,0,v,_=>by simp [cM];omega
 | d::ds,k+1,v,h=>by
  have:=yr (ds:=ds) (k:=k) v kD;rw [Tu,cM,cM,this,List.getD_cons_succ,UJ, <- Tn,Ux,Tv _ 1000000000];omega
theorem xH{ds:List Int}{k:Nat}(h:k<ds.length):cM (ds.take (k+1))=cM (ds.take k)+ds.getD k default*1000000000^k:=by
 rw [List.take_add_one,SQ h,Option.toList_some,yq,TF,TI ah,cM,cM,Int.mul_zero,Int.add_zero,SO,SQ h,Tv];rfl
theorem Og(n:Nat):cM (List.replicate n 0)=0:=BR λd hd=>(List.mem_replicate.1 hd).2
theorem za:∀ {ds:List Int},GD ds->cM ds<1000000000^ds.length
 | [],_=>by decide
 | d::ds,h=>by
  have h1:=za h.tail;have h2:=h d (UU ..);rw [cM,Ta,UJ];omega
theorem Ek{n:Nat}:∀ {k:Nat},n<1000000000^k->(gh n).length <=k:=by
 induction n using Nat.strongRecOn with
 | ind n ih=>
  intro k h
  by_cases h0:n=0
  ·subst h0;rw [zO];simp
  ·match k,h with
   | 0,h=>simp at h;omega
   | k+1,h=>
    rw [zP h0,Ta];have:=ih (n/1000000000) ah (k:=k) (by rw [Nat.pow_succ]at h;omega);omega
structure WM (a b xs:List Int) (i k:Nat) (c:Int):Prop where
 len:xs.length=a.length+b.length+1
 gd:GD xs
 z:∀ q:Nat,i+b.length<=q->xs.getD q default=0
 cb:0<=c/\c<1000000000
 v:cM xs+c*1000000000^(i+k)=cM (a.take i)*cM b+a.getD i default*cM (b.take k)*1000000000^i
theorem getD_set_ne{ds:List Int}{i j:Nat}(h:i≠j)(v:Int):(ds.set i v).getD j default=ds.getD j default:=by
 rw [SO,SY h, <- SO]
theorem WM.first{a b:List Int}:WM a b (List.replicate (a.length+b.length+1) 0) 0 0 0:=by
 refine⟨aL,GD.rep _,λq _=>?_,⟨aD,aD⟩,?_⟩
 ·rw [SO,List.getElem?_replicate];split<;>rfl
 ·rw [Og];simp [cM]
theorem WM.bd{a b xs:List Int}{i k:Nat}{c:Int}(h:WM a b xs i k c)(ha:GD a)(hb:GD b):0<=a.getD i default*b.getD k default/\0<=xs.getD (i+k) default+a.getD i default*b.getD k default+c/\xs.getD (i+k) default+a.getD i default*b.getD k default+c<=999999999999999999:=by
 have h1:=ha.at i;have h2:=hb.at k;have h3:=h.gd.at (i+k);have h4:=h.cb;have m1:=UI h1.1 h2.1;have m2:=Int.mul_le_mul (show a.getD i default<=999999999 by omega) (show b.getD k default<=999999999 by omega) h2.1 ah;omega
theorem WM.step{a b xs:List Int}{i k:Nat}{c s:Int}(h:WM a b xs i k c)(ha:GD a)(hb:GD b)(hi:i<a.length)(hk:k<b.length)(hs:s=xs.getD (i+k) default+a.getD i default*b.getD k default+c):WM a b (xs.set (i+k) (s%1000000000)) i (k+1) (s/1000000000):=by
 have hbd:=h.bd ha hb;rw [<- hs]at hbd;refine⟨by rw [TE];exact h.len,h.gd.set _ ah,λq hq=>?_,ah,?_⟩
 ·rw [getD_set_ne ah];exact h.z q hq
 ·rw [yr _ (by rw [h.len];omega),xH hk,Ux,TY, <- Int.add_assoc, <- h.v, <- TN,UJ];have e1:a.getD i default*(b.getD k default*1000000000^k)*1000000000^i=a.getD i default*b.getD k default*1000000000^(i+k):=by
   rw [Int.pow_add,Tn,Tn,Tn,Tv (1000000000^i)]
  rw [e1];generalize (1000000000:Int)^(i+k)=P;have e2:s/1000000000*(P*1000000000)=(s - s%1000000000)*P:=by
   rw [Tv P, <- Tn,show s/1000000000*1000000000=s - s%1000000000 by omega]
  rw [e2,hs,Int.sub_mul,Int.sub_mul,TY,TY];omega
theorem WM.next{a b xs:List Int}{i:Nat}{c:Int}(h:WM a b xs i b.length c)(hi:i<a.length):WM a b (xs.set (i+b.length) (xs.getD (i+b.length) default+c)) (i+1) 0 0:=by
 have hz:=h.z (i+b.length) (SR _);refine⟨by rw [TE];exact h.len,h.gd.set _ (by rw [hz,Int.zero_add];exact h.cb),λq hq=>?_,⟨aD,aD⟩,?_⟩
 ·rw [getD_set_ne ah];exact h.z q ah
 ·have hv:=h.v;rw [UG]at hv;rw [yr _ (by rw [h.len];omega),hz,xH hi,TY,show(0:Int)+c - 0=c by omega,hv];simp only [List.take_zero,cM,Int.mul_zero,Int.zero_mul,Int.add_zero];rw [Tn,Tn,Tv (1000000000^i)]
theorem WM.done{a b xs:List Int}(h:WM a b xs a.length 0 0):cM xs=cM a*cM b:=by
 have hv:=h.v;simp only [List.take_zero,cM,Int.mul_zero,Int.zero_mul,Int.add_zero,UG]at hv;exact hv
theorem K8:∀ args w,(callFunc 23 args).run Tryz.prog w= .ok (.enter 23 args) w:=λ_ _=>by kernel_rfl
theorem rV:b9 Tryz.prog 23 74 4 32 (.agg #[.int .i64 0,.int .i64 0,.int .i64 0,.int .i64 0]):=⟨aj,aj,aj⟩
theorem rW:b9 Tryz.prog 24 76 2 16 (.agg #[.int .i64 0,.int .i64 0]):=⟨aj,aj,aj⟩
theorem rX:b9 Tryz.prog 25 78 3 48 (.agg #[.string ByteArray.empty,.int .i64 0,.slice none 0 0]):=⟨aj,aj,aj⟩
theorem rY:b9 Tryz.prog 64 3 1 8 (.int .i64 0):=⟨aj,aj,aj⟩
theorem Oh:Tryz.prog.eqGuardType Tryz.prog.depth 74=false:=by kernel_rfl
theorem Oi{a0 b0:Int}{a1 b1:Int}{a2 b2:Int}{a3 b3:Int}:iQ Tryz.prog 3 74 (.agg #[.int .i64 a0,.int .i64 a1,.int .i64 a2,.int .i64 a3]) (.agg #[.int .i64 b0,.int .i64 b1,.int .i64 b2,.int .i64 b3]) (decide (a0=b0)&&(decide (a1=b1)&&((decide (a2=b2)&&(decide (a3=b3)&&true))&&true))):=(tO [(3,0),(3,1),(42,2)] aj aj aj aj (.cons (λ_=>by kernel_rfl) (λ_=>by kernel_rfl) (iQ.up (nL (k:=.i64) (k':=.i64) aj a0 b0) 1) (.cons (λ_=>by kernel_rfl) (λ_=>by kernel_rfl) (iQ.up (nL (k:=.i64) (k':=.i64) aj a1 b1) 1) (.cons (x:=.agg #[.int .i64 a2,.int .i64 a3]) (y:=.agg #[.int .i64 b2,.int .i64 b3]) (λ_=>by kernel_rfl) (λ_=>by kernel_rfl) (tO [(3,0),(3,1)] aj aj aj aj (.cons (λ_=>by kernel_rfl) (λ_=>by kernel_rfl) (nL (k:=.i64) (k':=.i64) aj a2 b2) (.cons (λ_=>by kernel_rfl) (λ_=>by kernel_rfl) (nL (k:=.i64) (k':=.i64) aj a3 b3) .nil))) .nil))))
theorem Oj:Tryz.prog.eqGuardType Tryz.prog.depth 76=false:=by kernel_rfl
theorem Ol{a0 b0:Int}{a1 b1:Int}:iQ Tryz.prog 2 76 (.agg #[.int .i64 a0,.int .i64 a1]) (.agg #[.int .i64 b0,.int .i64 b1]) (decide (a0=b0)&&(decide (a1=b1)&&true)):=(tO [(3,0),(3,1)] aj aj aj aj (.cons (λ_=>by kernel_rfl) (λ_=>by kernel_rfl) (nL (k:=.i64) (k':=.i64) aj a0 b0) (.cons (λ_=>by kernel_rfl) (λ_=>by kernel_rfl) (nL (k:=.i64) (k':=.i64) aj a1 b1) .nil)))
theorem rZ:aV Tryz.prog 23 false 1:=⟨aj,aj⟩
theorem sc:aV Tryz.prog 24 false 1:=⟨aj,aj⟩
theorem sd:aV Tryz.prog 25 false 1:=⟨aj,aj⟩
theorem vA:aV Tryz.prog 3 false 1:=⟨aj,aj⟩
theorem Em:aV Tryz.prog 64 false 1:=⟨aj,aj⟩
theorem En:aV Tryz.prog 74 true 4:=⟨aj,aj⟩
theorem Eo:aV Tryz.prog 76 true 2:=⟨aj,aj⟩
theorem Ep:aV Tryz.prog 78 true 3:=⟨aj,aj⟩
theorem vB:aV Tryz.prog 9 false 1:=⟨aj,aj⟩
theorem K9{a b:List Int}(hl:a.length=b.length)(h:∀ q:Nat,q<a.length->a.getD q default=b.getD q default):a=b:=by
 refine List.ext_getElem hl λn h1 h2=>?_
 have:=h n h1;rw [SO,SO,SQ h1,SQ h2]at this;exact this
theorem La(a b:List Int)(ha:a.length<=1000000000)(hb:b.length<=1000000000):bT Tryz.prog 23 [.row 1 (a.map iE),.row 1 (b.map iE)] (λq=>q=eI (decide (a=b))):=by
 refine cA (fn:=Tryz.f23) 26 aj rfl aj bO ?_;intro aN a6 hA aO;have aP:al aN (.tmp 0)=_:=hA 0 _ rfl;have aS:al aN (.tmp 1)=_:=hA 1 _ rfl;have aT:a6.length=0:=by rw [aO];rfl
 clear hA aO;refine ax<|at_<|ar (aB aw) rfl<|bD (ae aP) (ae aS) ?_;clear aP aS;intro be au av
 refine ao<|ax<|ax<|at_<|ar (ak au) rfl<|ar (az (cx aa rfl rY.1) ct) rfl ?_
 refine ar (ak (ag av)) rfl<|ar (az (cx aa rfl rY.1) ct) rfl ?_
 refine ar (fp (ag aa) aa) rfl<|bB (ae (ai au)) (ae (ai av)) aa ?_;clear au av;intro bg aC aD aE
 refine ao<|bk aE (λab=>?_) (λab=>?_)
 ·replace ab:=ff ab;refine ax<|at_<|ar (aB aw) rfl<|bn aa ?_;clear aC aE aD;intro bh aU
  refine ao<|bm<|bw<|bX bp aj (aR aU) (.ro _ rfl) ?_
  clear aU aT
  (have hne:¬ a=b:=(λhc=>absurd (congrArg List.length hc) ah);rw [decide_eq_false hne])
 replace ab:=eY ab
 (have hl:a.length=b.length:=ah)
 refine bF<|ao<|ax<|ax<|at_<|ar (aB aw) rfl<|bB (ae aC) (ae aD) aa ?_;clear aC aE aD;intro aV aX aZ a7
 refine ao<|ca<|eL (S:=Int) (λi e mem=>(al e (.tmp 5)= .v (.int .i64 i))/\(al e (.tmp 0)=al aV (.tmp 0))/\(al e (.tmp 1)=al aV (.tmp 1))/\(mem.length=0)/\((0<=i/\i<=a.length/\a.length=b.length/\ ∀ j:Nat,j<i->a.getD j default=b.getD j default))) (λi=>(a.length - i).toNat) _ ⟨a7,rfl,rfl,aT,?_⟩ ?_
 ·(exact⟨ah,ah,hl,λj hj=>by omega⟩)
 ·rintro i bj bo ⟨aF,a8,a9,aG,hinv⟩;have aH:=a8.trans aX;have a2:=a9.trans aZ
  (obtain⟨p1,p2,p3,p4⟩:=hinv)
  refine ax<|ax<|at_<|ar (ak aF) rfl<|ar (ak (ae aH)) rfl<|ar (az (cx aa rfl rY.1) ct) rfl ?_
  refine ar (c6 (ag aa) aa) rfl<|bu (ai aH) (ai a2) (ai aF) aa ?_;clear aH a2 aF;intro bq an ap ad aI
  refine ao<|bk aI (λaf=>?_) (λaf=>?_)
  ·replace af:=bt af;refine bF<|ao<|ax<|ca<|ax<|eu 9 aj aj aj aj ?_
   refine dr (ak an) rfl<|dr (ak (ae ad)) rfl<|dr (az (cE rY (ae aa) aa ah (by(refine dq ?_;omega))) vI) rfl ?_
   refine dr (az (bL vA rfl aa aA) vI) rfl ?_;refine dr (ak (ai ap)) rfl<|dr (ak (ae (ai ad))) rfl<|dr (az (cE rY (ae aa) aa ah (by(refine dq ?_;omega))) vI) rfl ?_
   refine dr (az (bL vA rfl aa aA) vI) rfl ?_;refine dr (fp (ai aa) aa) rfl<|dE<|bu (ae (ay an)) (ae (ay ap)) (ae (ay ad)) aa ?_;clear an aI ap ad;intro br aJ aK aL aM
   refine ao<|bk aM (λam=>?_) (λam=>?_)
   ·replace am:=ff am;refine ax<|at_<|ar (aB aw) rfl<|bn aa ?_;clear aJ aK aM aL;intro bv a3
    refine ao<|bm<|cD<|bw<|bw<|cD<|bw<|bX bp aj (aR a3) (.ro _ rfl) ?_
    clear a3 aG
    (have hne:¬ a=b:=(λhc=>absurd (congrArg (λl=>l.getD i.toNat default) hc) (by assumption));rw [decide_eq_false hne])
   replace am:=eY am;refine bF<|cG<|ao<|at_<|ar (ak aL) rfl ?_
   (refine ar (cf aa aw ?_) rfl ?_; · (unfold In64;omega))
   refine ar (aB aa) rfl<|bB (ae (ag aJ)) (ae (ag aK)) aa ?_;clear aJ aK aM aL;intro bx ba bb bc
   refine ao<|⟨_,⟨bc,(ba.trans aX.symm),(bb.trans aZ.symm),aG,?_⟩,?_⟩
   ·(refine⟨ah,ah,p3,λq hq=>?_⟩;by_cases hj:(q:Int)=i;(rw [show q=i.toNat by omega];omega);exact p4 q ah)
   ·((try dsimp only);omega)
  replace af:=bf af;refine dJ<|cw<|cw<|dI<|ao<|ax<|at_<|ar (aB aw) rfl<|bn aa ?_;clear an aI ap ad;intro bz a5
  refine ao<|bm<|bX bp aj (aR a5) (.ro _ rfl) ?_
  clear a5 aG
  (rw [decide_eq_true (K9 p3 λj hj=>p4 j ah)])
theorem BS(l:bN)(hl:fw l):bT Tryz.prog 7 [gA l,gA l] (λq=>q=eI true):=by
 obtain⟨h1,h2,h3,h4,h5⟩:=id hl;refine cA (fn:=Tryz.f7) 115 aj rfl aj bO ?_;intro c9 eg hA da;have dc:al c9 (.tmp 0)=_:=hA 0 _ rfl;have dd:al c9 (.tmp 1)=_:=hA 1 _ rfl;have cj:eg.length=0:=by rw [da];rfl
 clear hA da;refine ax<|at_<|aM (fD dc rfl cj) trivial rfl (λfd cm=>?_)
 have de:=bS cm cj;have a7:=bR cm cj;have a7:_=1:=a7;clear cm;refine aM (fD (ae dd) rfl a7) trivial rfl (λdf b6=>?_);have aO:=bS b6 a7;have aP:=aI b6 de;have b7:=bR b6 a7;have b7:_=2:=b7;clear b6 de;refine ar (aB aw) rfl<|bD (ag aa) (ae aa) ?_;clear dc dd;intro fe ap av
 refine ao<|ax<|ax<|at_<|ar (aJ qy rfl ap) rfl<|ar (az (aK vB rfl aP aa aA) ez) rfl ?_
 refine ar (aJ qy rfl (ag av)) rfl<|ar (az (aK vB rfl aO aa aA) ez) rfl ?_
 refine ar (dS (ag aa) aa) rfl<|ar (ak aa) rfl<|bK aa (λab a8=>?_) (λab a8=>?_)
 ·replace a8:=cT a8;refine aC ⟨_,rfl,.inl ab⟩ rfl ?_;refine aC ⟨_,rfl,.inl (ae ab)⟩ rfl ?_;refine aC ⟨_,rfl,.inl (ag ab)⟩ rfl ?_;refine aC ⟨_,rfl,.inl (ae (ag ab))⟩ rfl ?_;refine aC ⟨_,rfl,.inl (ai ab)⟩ rfl ?_;refine aC ⟨_,rfl,.inl (ae (ai ab))⟩ rfl ?_;refine aC ⟨_,rfl,.inl (ag (ai ab))⟩ rfl ?_;refine ar (bq (ae (ag (ai ab))) aw) rfl<|ar (ak aa) rfl<|aC ⟨_,rfl,.inl aa⟩ rfl ?_
  refine aC ⟨_,rfl,.inl (ae aa)⟩ rfl ?_;refine aC ⟨_,rfl,.inl (ag aa)⟩ rfl ?_;refine aC ⟨_,rfl,.inl (ae (ag aa))⟩ rfl ?_;refine aC ⟨_,rfl,.inl (ai aa)⟩ rfl ?_;refine aC ⟨_,rfl,.inl (ae (ai aa))⟩ rfl ?_;refine aC ⟨_,rfl,.inl (ag (ai aa))⟩ rfl ?_;refine ar (bq (ae (ag (ai aa))) aw) rfl<|ar (ak aa) rfl<|aC ⟨_,rfl,.inl aa⟩ rfl ?_
  refine aC ⟨_,rfl,.inl (ae aa)⟩ rfl ?_;refine aC ⟨_,rfl,.inl (ag aa)⟩ rfl ?_;refine aC ⟨_,rfl,.inl (ae (ag aa))⟩ rfl ?_;refine aC ⟨_,rfl,.inl (ai aa)⟩ rfl ?_;refine aC ⟨_,rfl,.inl (ae (ai aa))⟩ rfl ?_;refine aC ⟨_,rfl,.inl (ag (ai aa))⟩ rfl ?_;refine ar (bq (ae (ag (ai aa))) aw) rfl<|bB (aH (aH ap)) (aH (aH av)) aa ?_;clear ab ap av;intro fg eh en dg
  refine ao<|lA dg<|ax<|at_<|ar (aB aw) rfl<|bn aa ?_;clear eh en dg;intro fh dh
  refine ao<|bm<|bw<|bX bp aj (aR dh) (.ro _ rfl) ?_
  clear dh aO aP b7
  (simp at*;done)
 replace a8:=di a8;refine aF (aJ fk rfl (ag (ai ap))) ⟨_,rfl,ab⟩ rfl ?_;refine aF (az (aK rZ rfl aP aa aA) ez) ⟨_,rfl,(ae ab)⟩ rfl ?_;refine aF (az (cx aa rfl rV.1) ct) ⟨_,rfl,(ag ab)⟩ rfl ?_;refine aF (aJ fk rfl (ae (ay av))) ⟨_,rfl,(ae (ag ab))⟩ rfl ?_;refine aF (az (aK rZ rfl aO aa aA) ez) ⟨_,rfl,(ai ab)⟩ rfl ?_;refine aF (az (cx aa rfl rV.1) ct) ⟨_,rfl,(ae (ai ab))⟩ rfl ?_;refine aF (fp (ae (ag aa)) aa) ⟨_,rfl,(ag (ai ab))⟩ rfl ?_;refine ar (br (ae (ag (ai ab))) aa) rfl<|ar (ak aa) rfl<|bK aa (λaf a9=>?_) (λaf a9=>?_)
 ·replace a9:=ff a9;exfalso;omega
 replace a9:=eY a9;refine aF (aJ eK rfl (ae (ag (ai (ay ap))))) ⟨_,rfl,af⟩ rfl ?_;refine aF (az (aK sc rfl aP aa aA) ez) ⟨_,rfl,(ae af)⟩ rfl ?_;refine aF (az (cx aa rfl rW.1) ct) ⟨_,rfl,(ag af)⟩ rfl ?_;refine aF (aJ eK rfl (ag (aH av))) ⟨_,rfl,(ae (ag af))⟩ rfl ?_;refine aF (az (aK sc rfl aO aa aA) ez) ⟨_,rfl,(ai af)⟩ rfl ?_;refine aF (az (cx aa rfl rW.1) ct) ⟨_,rfl,(ae (ai af))⟩ rfl ?_;refine aF (fp (ae (ag aa)) aa) ⟨_,rfl,(ag (ai af))⟩ rfl ?_;refine ar (br (ae (ag (ai af))) aa) rfl<|ar (ak aa) rfl<|bK aa (λam ba=>?_) (λam ba=>?_)
 ·replace ba:=ff ba;exfalso;omega
 replace ba:=eY ba;refine aF (aJ gu rfl (ay (aH ap))) ⟨_,rfl,am⟩ rfl ?_;refine aF (az (aK sd rfl aP aa aA) ez) ⟨_,rfl,(ae am)⟩ rfl ?_;refine aF (az (cx aa rfl rX.1) ct) ⟨_,rfl,(ag am)⟩ rfl ?_;refine aF (aJ gu rfl (ae (ag (ay (aH av))))) ⟨_,rfl,(ae (ag am))⟩ rfl ?_;refine aF (az (aK sd rfl aO aa aA) ez) ⟨_,rfl,(ai am)⟩ rfl ?_;refine aF (az (cx aa rfl rX.1) ct) ⟨_,rfl,(ae (ai am))⟩ rfl ?_;refine aF (fp (ae (ag aa)) aa) ⟨_,rfl,(ag (ai am))⟩ rfl ?_;refine ar (br (ae (ag (ai am))) aa) rfl<|bB (aH (aH ap)) (aH (aH av)) aa ?_;clear am ab af ap av;intro fi dk dl dm
 refine ao<|bk dm (λbb=>?_) (λbb=>?_)
 ·replace bb:=ff bb;exfalso;omega
 replace bb:=eY bb;refine bF<|ao<|ax<|ax<|at_<|ar (aB aw) rfl<|bB (ae dk) (ae dl) aa ?_;clear dk dl dm;intro dn dt du ep
 refine ao<|ca<|eL (S:=Int) (λi e mem=>(al e (.tmp 5)= .v (.int .i64 i))/\(al e (.tmp 2)=al dn (.tmp 2))/\(al e (.tmp 3)=al dn (.tmp 3))/\(mem[1]? =df[1]?)/\(mem[0]? =df[0]?)/\(mem.length=2)/\((0<=i/\i<=l.js.length))) (λi=>(l.js.length - i).toNat) _ ⟨ep,rfl,rfl,rfl,rfl,b7,?_⟩ ?_
 ·(exact⟨ah,ah⟩)
 ·rintro i fj dv ⟨co,er,ev,ew,ey,cq,hinv⟩;have cr:=er.trans dt;have dw:=ev.trans du;have bc:=ew.trans aO;have aS:=ey.trans aP
  (obtain⟨p1,p2⟩:=hinv)
  refine ax<|ax<|at_<|ar (ak co) rfl<|ar (aJ fk rfl (ae cr)) rfl<|ar (az (aK rZ rfl aS aa aA) ez) rfl ?_
  refine ar (az (cx aa rfl rV.1) ct) rfl ?_;refine ar (c6 (ae (ag aa)) aa) rfl<|bu (ae (ai cr)) (ae (ai dw)) (ae (ai co)) aa ?_;clear cr dw co;intro fl be bj bv cu
  refine ao<|bk cu (λbx=>?_) (λbx=>?_)
  ·replace bx:=bt bx;refine bF<|ao<|ax<|ca<|ax<|eu 11 aj aj aj aj ?_
   refine dr (aJ fk rfl be) rfl<|dr (az (aK rZ rfl aS aa aA) ez) rfl ?_
   refine dr (ak (ag bv)) rfl<|dr (az (cE rV (ae aa) aa ah (by(refine dq ?_;omega))) ez) rfl ?_
   refine dr (az (bL En rfl aa aA) ez) rfl ?_;refine dr (aJ fk rfl (ae (ai bj))) rfl<|dr (az (aK rZ rfl bc aa aA) ez) rfl ?_
   refine dr (ak (ae (ag (ai bv)))) rfl<|dr (az (cE rV (ae aa) aa ah (by(refine dq ?_;omega))) ez) rfl ?_
   refine dr (az (bL En rfl aa aA) ez) rfl ?_;refine dr (Cc (ae (ai aa)) aa rfl rfl Oh Oi aD) rfl ?_;refine dE<|bu (ae (ag (ay be))) (ae (ag (ay bj))) (ae (ag (ay bv))) aa ?_;clear be bj cu bv;intro fm cv cy cz cB
   refine ao<|bk cB (λbz=>?_) (λbz=>?_)
   ·replace bz:=cT bz;refine ax<|at_<|ar (aB aw) rfl<|bn aa ?_;clear cv cy cB cz;intro fo dy
    refine ao<|bm<|cD<|bw<|bw<|cD<|bw<|bX bp aj (aR dy) (.ro _ rfl) ?_
    clear dy bc aS cq
    (simp at*;done)
   replace bz:=di bz;refine bF<|cG<|ao<|at_<|ar (ak cz) rfl ?_
   (refine ar (cf aa aw ?_) rfl ?_; · (unfold In64;omega))
   refine ar (aB aa) rfl<|bB (ae (ag cv)) (ae (ag cy)) aa ?_;clear cv cy cB cz;intro fq eA eB eC
   refine ao<|⟨_,⟨eC,(eA.trans dt.symm),(eB.trans du.symm),(bc.trans aO.symm),(aS.trans aP.symm),cq,?_⟩,?_⟩
   ·(exact⟨ah,ah⟩)
   ·((try dsimp only);omega)
  replace bx:=bf bx;refine dJ<|cw<|cw<|dI<|ao<|ax<|ax<|at_<|ar (aB aw) rfl<|bB (ae be) (ae bj) aa ?_;clear be bj cu bv;intro dz dA dB eD
  refine ao<|ca<|eL (S:=Int) (λi e mem=>(al e (.tmp 6)= .v (.int .i64 i))/\(al e (.tmp 2)=al dz (.tmp 2))/\(al e (.tmp 3)=al dz (.tmp 3))/\(mem[1]? =dv[1]?)/\(mem[0]? =dv[0]?)/\(mem.length=2)/\((0<=i/\i<=l.bs.length))) (λi=>(l.bs.length - i).toNat) _ ⟨eD,rfl,rfl,rfl,rfl,cq,?_⟩ ?_
  ·(exact⟨ah,ah⟩)
  ·rintro i fs dC ⟨cC,eE,eF,eG,eH,cF,hinv⟩;have cH:=eE.trans dA;have dD:=eF.trans dB;have bA:=eG.trans bc;have aT:=eH.trans aS
   (obtain⟨p1,p2⟩:=hinv)
   refine ax<|ax<|at_<|ar (ak cC) rfl<|ar (aJ eK rfl (ae cH)) rfl<|ar (az (aK sc rfl aT aa aA) ez) rfl ?_
   refine ar (az (cx aa rfl rW.1) ct) rfl ?_;refine ar (c6 (ae (ag aa)) aa) rfl<|bu (ae (ai cH)) (ae (ai dD)) (ae (ai cC)) aa ?_;clear cH dD cC;intro ft bE bH bM cJ
   refine ao<|bk cJ (λbP=>?_) (λbP=>?_)
   ·replace bP:=bt bP;refine bF<|ao<|ax<|ca<|ax<|eu 11 aj aj aj aj ?_
    refine dr (aJ eK rfl bE) rfl<|dr (az (aK sc rfl aT aa aA) ez) rfl ?_
    refine dr (ak (ag bM)) rfl<|dr (az (cE rW (ae aa) aa ah (by(refine dq ?_;omega))) ez) rfl ?_
    refine dr (az (bL Eo rfl aa aA) ez) rfl ?_;refine dr (aJ eK rfl (ae (ai bH))) rfl<|dr (az (aK sc rfl bA aa aA) ez) rfl ?_
    refine dr (ak (ae (ag (ai bM)))) rfl<|dr (az (cE rW (ae aa) aa ah (by(refine dq ?_;omega))) ez) rfl ?_
    refine dr (az (bL Eo rfl aa aA) ez) rfl ?_;refine dr (Cc (ae (ai aa)) aa rfl rfl Oj Ol aD) rfl ?_;refine dE<|bu (ae (ag (ay bE))) (ae (ag (ay bH))) (ae (ag (ay bM))) aa ?_;clear bE bH cJ bM;intro fu cK cL cM cN
    refine ao<|bk cN (λbQ=>?_) (λbQ=>?_)
    ·replace bQ:=cT bQ;refine ax<|at_<|ar (aB aw) rfl<|bn aa ?_;clear cK cL cM cN;intro fx dF
     refine ao<|bm<|cD<|bw<|bw<|cD<|bw<|bX bp aj (aR dF) (.ro _ rfl) ?_
     clear dF bA aT cF
     (simp at*;done)
    replace bQ:=di bQ;refine bF<|cG<|ao<|at_<|ar (ak cM) rfl ?_
    (refine ar (cf aa aw ?_) rfl ?_; · (unfold In64;omega))
    refine ar (aB aa) rfl<|bB (ae (ag cK)) (ae (ag cL)) aa ?_;clear cK cL cM cN;intro fy eP eS eT
    refine ao<|⟨_,⟨eT,(eP.trans dA.symm),(eS.trans dB.symm),(bA.trans bc.symm),(aT.trans aS.symm),cF,?_⟩,?_⟩
    ·(exact⟨ah,ah⟩)
    ·((try dsimp only);omega)
   replace bP:=bf bP;refine dJ<|cw<|cw<|dI<|ao<|ax<|ax<|at_<|ar (aB aw) rfl<|bB (ae bE) (ae bH) aa ?_;clear bE bH cJ bM;intro dG dH dK eU
   refine ao<|ca<|eL (S:=Int) (λi e mem=>(al e (.tmp 7)= .v (.int .i64 i))/\(al e (.tmp 2)=al dG (.tmp 2))/\(al e (.tmp 3)=al dG (.tmp 3))/\(mem[1]? =dC[1]?)/\(mem[0]? =dC[0]?)/\(∃ n,mem.length=n/\2<=n)/\((0<=i/\i<=l.ss.length))) (λi=>(l.ss.length - i).toNat) _ ⟨eU,rfl,rfl,rfl,rfl,⟨_,cF,SR _⟩,?_⟩ ?_
   ·(exact⟨ah,ah⟩)
   ·rintro i fz fA ⟨cO,eW,eX,eZ,e0,⟨aU,aV,fB⟩,hinv⟩;have cP:=eW.trans dH;have dL:=eX.trans dK;have cQ:=eZ.trans bA;have b9:=e0.trans aT
    (obtain⟨p1,p2⟩:=hinv;have hso:=hl.at i.toNat)
    refine ax<|ax<|at_<|ar (ak cO) rfl<|ar (aJ gu rfl (ae cP)) rfl<|ar (az (aK sd rfl b9 aa aA) ez) rfl ?_
    refine ar (az (cx aa rfl rX.1) ct) rfl ?_;refine ar (c6 (ae (ag aa)) aa) rfl<|bu (ae (ai cP)) (ae (ai dL)) (ae (ai cO)) aa ?_;clear cP dL cO;intro fC cb cc bU cR
    refine ao<|bk cR (λbW=>?_) (λbW=>?_)
    ·replace bW:=bt bW;refine bF<|ao<|ax<|ca<|ax<|iq 13 2 aV aj aj aj aj (λdM aX=>?_)
     have cS:=bJ aX cQ;have cU:=bJ aX b9;have cV:dM[aU]? =_:=jk aX aV 0 rfl rfl;have dN:dM[aU+1]? =_:=jk aX aV 1 rfl rfl;have e3:_=aU+2:=ir (K:=2) aX aV;clear aX cQ b9 aV;refine bg (λM_ hM_=>(aJ gu rfl cb)) trivial ?_;refine db (0) (λM_ hM_=>(az (aK sd rfl (cI hM_ cU aL) aa aA) ez)) trivial trivial ?_;refine bg (λM_ hM_=>(ak (ag bU))) trivial ?_;refine bg (λM_ hM_=>(az (cE rX (ae aa) aa ah (by(refine dq ?_;omega))) ez)) trivial ?_;refine bg (λM_ hM_=>(az (bL Ep rfl aa aA) ez)) trivial ?_;refine bg (λM_ hM_=>(aJ gu rfl (ae (ai cc)))) trivial ?_;refine db (1) (λM_ hM_=>(az (aK sd rfl (cI hM_ cS aL) aa aA) ez)) trivial trivial ?_;refine bg (λM_ hM_=>(ak (ae (ag (ai bU))))) trivial ?_;refine bg (λM_ hM_=>(az (cE rX (ae aa) aa ah (by(refine dq ?_;omega))) ez)) trivial ?_;refine bg (λM_ hM_=>(az (bL Ep rfl aa aA) ez)) trivial ?_;refine ot (aU) (λM_ hM_=>(rP ra rfl)) trivial cV rfl trivial ⟨.inl b8,⟨.inl b8,trivial⟩⟩ (λfE aZ=>?_);have cW:=bo aZ cV;simp only [pS,Value.cells,Nat.reduceAdd,dp,dx,ei]at cW;have dO:=au aZ cS ah;have dP:=au aZ cU ah;have cX:=au aZ dN ah;have e4:=bh aZ e3;clear aZ cS cU cV dN;refine ot (aU+1) (λM_ hM_=>(rP ra rfl)) trivial cX rfl ⟨.inl b8,trivial⟩ ⟨.inl b8,⟨.inl b8,⟨.inl b8,trivial⟩⟩⟩ (λfF a2=>?_);have cY:=bo a2 cX;simp only [pS,Value.cells,Nat.reduceAdd,dp,dx,ei]at cY;have cZ:=au a2 cW ah;have dQ:=au a2 dO ah;have dR:=au a2 dP ah;have e5:=bh a2 e4;clear a2 cW dO dP cX;refine od (aU) (λM_ hM_=>(mJ (ae aa) (ae (ag (ai aa))) rfl rfl (cI hM_ cZ aL) rh rfl aA)) trivial ⟨.inr (kG 12 10 aj),⟨.inl b8,trivial⟩⟩ ⟨.inl b8,⟨.inl b8,⟨.inr (kG 12 10 aj),⟨.inl b8,trivial⟩⟩⟩⟩ (λfG a3=>?_);have c7:=bo a3 cZ;simp only [pS,Value.cells,Nat.reduceAdd,dp,dx,ei]at c7;have c8:=au a3 cY ah;have dU:=au a3 dQ ah;have dV:=au a3 dR ah;have e6:=bh a3 e5;clear a3 cY cZ dQ dR;refine iD rfl ?_;refine aM (bV (aE aa) (aE (ag aa)) rfl rfl c8 rh rfl aA) trivial rfl (λfH a5=>?_);have bY:=bo a5 c8;simp only [pS,Value.cells,Nat.reduceAdd,dp,dx,ei]at bY;have cd:=au a5 c7 ah;have dW:=au a5 dU ah;have dX:=au a5 dV ah;have dY:=bh a5 e6;clear a5 c7 c8 dU dV;refine ck (aE (aE (ai (ay cb)))) (aE (aE (ai (ay cc)))) (aE (aE (ai (ay bU)))) (aE (aE (ae aa))) (aE (aE aa)) ?_;clear cb cc bU cR;intro fI ce cg ci bZ b0;refine ao<|ax<|at_<|ar (aJ nK rfl bZ) rfl<|ar (az (aK vB rfl cd aa aA) ez) rfl ?_
     refine ar (aJ nK rfl (ag b0)) rfl<|ar (az (aK vB rfl bY aa aA) ez) rfl ?_
     refine ar (dS (ag aa) aa) rfl<|ar (ak aa) rfl<|bK aa (λad b1=>?_) (λad b1=>?_)
     ·replace b1:=cT b1;refine aC ⟨_,rfl,.inl ad⟩ rfl ?_;refine aC ⟨_,rfl,.inl (ae ad)⟩ rfl ?_;refine aC ⟨_,rfl,.inl (ag ad)⟩ rfl ?_;refine aC ⟨_,rfl,.inl (ae (ag ad))⟩ rfl ?_;refine aC ⟨_,rfl,.inl (ai ad)⟩ rfl ?_;refine ar (bq (ae (ai ad)) aw) rfl<|ar (ak aa) rfl<|aC ⟨_,rfl,.inl aa⟩ rfl ?_
      refine aC ⟨_,rfl,.inl (ae aa)⟩ rfl ?_;refine aC ⟨_,rfl,.inl (ag aa)⟩ rfl ?_;refine aC ⟨_,rfl,.inl (ae (ag aa))⟩ rfl ?_;refine aC ⟨_,rfl,.inl (ai aa)⟩ rfl ?_;refine aC ⟨_,rfl,.inl (ae (ai aa))⟩ rfl ?_;refine ar (bq (ag (ai aa)) aw) rfl<|bu (ai (aH ce)) (ai (aH cg)) (ai (aH ci)) aa ?_;clear ad ce cg ci bZ b0;intro fJ e7 e8 e9 dZ
      refine ao<|lA dZ<|ax<|at_<|ar (aB aw) rfl<|bn aa ?_;clear dZ e7 e8 e9;intro fK ea
      refine ao<|bm<|cD<|bw<|bw<|cD<|bw<|bX bp aj (aR ea) (.ro _ rfl) ?_
      clear ea bY cd dW dX dY
      (simp at*;done)
     replace b1:=di b1;refine aF (aJ jW rfl (ag (ai bZ))) ⟨_,rfl,ad⟩ rfl ?_;refine aF (az (aK vA rfl cd aa aA) ez) ⟨_,rfl,(ae ad)⟩ rfl ?_;refine aF (aJ jW rfl (ay b0)) ⟨_,rfl,(ag ad)⟩ rfl ?_;refine aF (az (aK vA rfl bY aa aA) ez) ⟨_,rfl,(ae (ag ad))⟩ rfl ?_;refine aF (fp (ag aa) aa) ⟨_,rfl,(ai ad)⟩ rfl ?_;refine ar (br (ae (ai ad)) aa) rfl<|ar (ak aa) rfl<|bK aa (λan b2=>?_) (λan b2=>?_)
     ·replace b2:=ff b2;exfalso;omega
     replace b2:=eY b2;refine aF (aJ kz rfl (ae (ai (ay bZ)))) ⟨_,rfl,an⟩ rfl ?_;refine aF (az (aK Em rfl cd aa aA) ez) ⟨_,rfl,(ae an)⟩ rfl ?_;refine aF (aJ kz rfl (ae (ag (ai (ay b0))))) ⟨_,rfl,(ag an)⟩ rfl ?_;refine aF (az (aK Em rfl bY aa aA) ez) ⟨_,rfl,(ae (ag an))⟩ rfl ?_;refine aF (bI (aG (ag aa) (aG aa aN)) rfl ((La _ _ ah ah).mono (λq h=>show q=eI true from h.trans aL)) K8) ⟨_,rfl,(ai an)⟩ rfl ?_;refine aF (dT aa) ⟨_,rfl,(ae (ai an))⟩ rfl ?_;refine ar (br (ag (ai an)) aa) rfl<|bu (ai (aH ce)) (ai (aH cg)) (ai (aH ci)) aa ?_;clear ad an ce cg ci bZ b0;intro fL eb ec ed ee
     refine ao<|bk ee (λa6=>?_) (λa6=>?_)
     ·replace a6:=cT a6;cases a6
     replace a6:=di a6;refine bF<|cG<|ao<|at_<|ar (ak ed) rfl ?_
     (refine ar (cf aa aw ?_) rfl ?_; · (unfold In64;omega))
     refine ar (aB aa) rfl<|bB (ae (ag eb)) (ae (ag ec)) aa ?_;clear ee eb ec ed;intro fM fa fb fc
     refine ao<|⟨_,⟨fc,(fa.trans dH.symm),(fb.trans dK.symm),(dW.trans bA.symm),(dX.trans aT.symm),⟨_,dY,ah⟩,?_⟩,?_⟩
     ·(exact⟨ah,ah⟩)
     ·((try dsimp only);omega)
    replace bW:=bf bW;refine dJ<|cw<|cw<|dI<|ao<|ax<|at_<|ar (aB aw) rfl<|bn aa ?_;clear cb cc bU cR;intro fN ef
    refine ao<|bm<|bX bp aj (aR ef) (.ro _ rfl) ?_
    clear ef cQ b9 aV;rfl
theorem Lc{m n:Nat}(h:m<=n):(gh m).length <=(gh n).length :=by
 have h1:=za (Qg n);rw [rU]at h1;have h2:((n:Nat):Int)<((1000000000^(gh n).length :Nat):Int):=by rw [Int.natCast_pow];exact h1
 exact Ek (Nat.lt_of_le_of_lt h (Int.ofNat_lt.1 h2))
theorem Om{ds:List Int}{i:Nat}(h:ds.length<=i):ds.getD i default=0:=by rw [SO,S5 h];rfl
theorem tQ{ds:List Int}{k:Nat}:cM (ds.take (k+1))=cM (ds.take k)+ds.getD k default*1000000000^k:=by
 by_cases h:k<ds.length
 ·exact xH h
 ·rw [T9 ah,T9 ah,Om ah,Int.zero_mul,Int.add_zero]
theorem BU{ds:List Int}{i:Nat}(h:ds.length=i)(v:Int):cM (ds++ [v])=cM ds+v*1000000000^i:=by
 rw [yq,h,cM,cM,Int.mul_zero,Int.add_zero,Tv]
structure SB (a b o:List Int) (i:Nat) (w:Int):Prop where
 len:o.length=i
 gd:GD o
 w01:0<=w/\w<=1
 v:cM o=cM (a.take i) - cM (b.take i)+w*1000000000^i
theorem SB.first(a b:List Int):SB a b [] 0 0:=⟨rfl,GD.nil,ah,by simp [cM]⟩
theorem SB.next{a b o:List Int}{i:Nat}{w x y:Int}(h:SB a b o i w)(ha:GD a)(hb:GD b)(hx:x=a.getD i default - b.getD i default - w+y*1000000000)(hy:0<=y/\y<=1)(hr:0<=x/\x<1000000000):SB a b (o++ [x]) (i+1) y:=by
 refine⟨by simp [h.len],h.gd.app (GD.one hr),hy,?_⟩;rw [BU h.len,h.v,tQ,tQ,UJ,hx];generalize (1000000000:Int)^i=P;rw [TY,Int.sub_mul,Int.sub_mul,Tv P, <- Tn];omega
theorem SB.done{m n:Nat}{o:List Int}{w:Int}(h:SB (gh m) (gh n) o (gh m).length w)(hmn:n<=m):(cM o).toNat =m - n:=by
 have hv:=h.v;rw [UG,T9 (Lc hmn),rU,rU]at hv;have h1:=za h.gd;rw [h.len]at h1;have h2:=h.w01;rcases (show w=0\/w=1 by omega)with rfl|rfl<;>omega
structure AD (a b o:List Int) (i:Nat) (w:Int):Prop where
 len:o.length=i
 gd:GD o
 w01:0<=w/\w<=1
 v:cM o+w*1000000000^i=cM (a.take i)+cM (b.take i)
theorem AD.first(a b:List Int):AD a b [] 0 0:=⟨rfl,GD.nil,ah,by simp [cM]⟩
theorem AD.next{a b o:List Int}{i:Nat}{w x:Int}(h:AD a b o i w)(ha:GD a)(hb:GD b)(hx:x=a.getD i default+b.getD i default+w):AD a b (o++ [x%1000000000]) (i+1) (x/1000000000):=by
 have h1:=ha.at i;have h2:=hb.at i;have h3:=h.w01;refine⟨by simp [h.len],h.gd.app (GD.one ah),ah,?_⟩;have hv:=h.v;rw [BU h.len,tQ,tQ,UJ];generalize (1000000000:Int)^i=P at*;have e1:x/1000000000*(P*1000000000)=(x - x%1000000000)*P:=by
  rw [Tv P, <- Tn,show x/1000000000*1000000000=x - x%1000000000 by omega]
 rw [e1,hx,Int.sub_mul,TY,TY];omega
theorem AD.done{a b o:List Int}{i:Nat}(h:AD a b o i 0)(ha:a.length<=i)(hb:b.length<=i):cM o=cM a+cM b:=by
 have hv:=h.v;rw [T9 ha,T9 hb]at hv;omega
structure WF (a:List Int) (b:Int) (q:List Int) (i:Nat) (r:Int):Prop where
 len:q.length=a.length
 gd:GD q
 r0:0<=r/\r<b
 v:cM (a.drop i)=cM (q.drop i)*b+r
theorem WF.first{a:List Int}{b:Int}(hb:0<b):WF a b (List.replicate a.length 0) a.length 0:=by
 refine⟨aL,GD.rep _,ah,?_⟩;rw [List.drop_of_length_le ah,List.drop_of_length_le aL];simp [cM]
theorem WF.next{a q:List Int}{b r d x:Int}{i:Nat}(h:WF a b q (i+1) r)(hi:i<a.length)(hd:d=a.getD i default+1000000000*r)(hx:0<=x/\x<1000000000)(hr:0<=d - b*x/\d - b*x<b):WF a b (q.set i x) i (d - b*x):=by
 have hv:=h.v;have hq:i<q.length:=by rw [h.len];exact hi
 refine⟨by rw [TE];exact h.len,h.gd.set _ hx,hr,?_⟩;have e2:(q.set i x).drop i=x::q.drop (i+1):=by
  rw [TU (by rw [TE];exact hq),List.getElem_set_self,List.drop_set_of_lt ah]
 rw [e2,TU hi,cM,cM,hv,TY,hd,SO,SQ hi,Ux,Tn,Tv b x];simp only [Option.getD_some];omega
theorem WF.done{a q:List Int}{b r:Int}(h:WF a b q 0 r):cM q=cM a/b:=by
 have hv:=h.v;rw [Uu,Uu]at hv;have:=h.r0;rw [hv,Int.add_comm,Int.add_mul_ediv_right _ _ ah,Int.ediv_eq_zero_of_lt this.1 this.2,Int.zero_add]
theorem Es{m i:Nat}(h:i<(gh m).length):(1000000000:Int)^i<=m:=by
 refine Int.not_lt.1 λhc=>?_
 have h2:((m:Nat):Int)<((1000000000^i:Nat):Int):=by rw [Int.natCast_pow];exact hc
 have:=Ek (Int.ofNat_lt.1 h2);omega
theorem AD.top{m n:Nat}{o:List Int}{i:Nat}{w:Int}(h:AD (gh m) (gh n) o i w)(hg:i<(gh m).length \/i<(gh n).length \/0<w):(1000000000:Int)^i<=(m:Int)+n:=by
 have hp:(0:Int)<1000000000^i:=Int.pow_pos aD
 by_cases h1:i<(gh m).length
 ·have:=Es h1;omega
 ·by_cases h2:i<(gh n).length
  ·have:=Es h2;omega
  ·have hv:=h.v;rw [T9 ah,T9 ah,rU,rU]at hv;have hw:=h.w01;have hn:=FO h.gd;have:w=1:=by omega
   subst this;rw [Int.one_mul]at hv;omega
end Go.Proofs.YtfoaiidcfkmneaaGreatDoor
namespace Go.Proofs.YtfoaiidcfkmneaaGreatDoor
open Go Go.RowKit Go.Proofs Go.Shelf Go.Lib
theorem On:∀ args w,(callFunc 4 args).run Tryz.prog w= .ok (.enter 4 args) w:=λ_ _=>by kernel_rfl
theorem Et:∀ args w,(callFunc 5 args).run Tryz.prog w= .ok (.enter 5 args) w:=λ_ _=>by kernel_rfl
theorem Eu:∀ args w,(callFunc 6 args).run Tryz.prog w= .ok (.enter 6 args) w:=λ_ _=>by kernel_rfl
theorem Ew:∀ args w,(callFunc 7 args).run Tryz.prog w= .ok (.enter 7 args) w:=λ_ _=>by kernel_rfl
theorem Ey:Tryz.prog.eqGuardType Tryz.prog.depth 29=false:=by kernel_rfl
theorem Ez{a0 b0:Int}{a1 b1:Int}:iQ Tryz.prog 2 29 (.agg #[.int .i64 a0,.int .i64 a1]) (.agg #[.int .i64 b0,.int .i64 b1]) (decide (a0=b0)&&(decide (a1=b1)&&true)):=(tO [(3,0),(3,1)] aj aj aj aj (.cons (λ_=>by kernel_rfl) (λ_=>by kernel_rfl) (nL (k:=.i64) (k':=.i64) aj a0 b0) (.cons (λ_=>by kernel_rfl) (λ_=>by kernel_rfl) (nL (k:=.i64) (k':=.i64) aj a1 b1) .nil)))
theorem uV:aV Tryz.prog 27 true 4:=⟨aj,aj⟩
theorem uW:aV Tryz.prog 29 true 2:=⟨aj,aj⟩
theorem vY:fw zL:=⟨S8 _,S8 _,S8 _,S8 _,λs h=>by cases h⟩
theorem yt:∀ (ls:List (List UInt8)) (i:Nat) (st:RS),fX i st->i+ls.length<=1000000->(∀ l∈ls,l.length<=60000)->fw (gl st ls).dQ
 | [],i,st,h,hi,_=>by
  have h1:=h.tG (by simpa using hi);simp only [gl];unfold ll
  split
  ·exact vY
  ·split
   ·exact h1
   ·exact vY
 | l::ls,i,st,h,hi,hm=>by
  have hl:=hm l aL;have hi':i+1+ls.length<=1000000:=by simp only [Ta]at hi;omega
  have hm':∀ q∈ls,q.length<=60000:=λq hq=>hm q (by simp [hq])
  cases hw:ee l 0 with
  | nil=>rw [gl,hw];exact yt ls (i+1) _ (h.skip l) hi' hm'
  | cons w0 ws=>
   rw [gl,hw]
   by_cases hr:fo st.kind w0 ws=(0,0)
   ·simp only [hr,if_true];exact yt ls (i+1) _ (h.step hr (ta hl hw).1) hi' hm'
   ·simp only [if_neg hr];exact vY
theorem Oo(tx:List UInt8):fw (nk tx).dQ :=by
 unfold nk
 split
 ·exact vY
 ·have hn:=xo tx;refine yt _ 0 _ fX.zero (by rw [SZ];omega) λq hq=>?_
  obtain⟨l,hl,rfl⟩:=TG.1 hq;have h1:=xp hl;have h2:=ye l;omega
section
variable (es er:Value) (hes:fz es) (her:fz er)
include hes her
theorem Ie(tx:List UInt8):iF Tryz.prog (gX es er) 3 [.v (.string (bs tx))] (λq=>q=bA true):=by
 have hz:(bs tx).size =tx.length:=rfl;have hS:=Oo tx;obtain⟨r,hr⟩:∃ r,r=nk tx:=⟨_,rfl⟩;have hA:tx.length<=1000000->iF Tryz.prog (gX es er) 5 [.v (.string (bs tx))] (λq=>q=gj r):=λh=>by rw [hr];exact KC es er hes her tx h
 have hB:tx.length<=1000000->bT Tryz.prog 6 [.v (.string (bs tx))] (λq=>q=gj r):=λh=>by rw [hr];exact Jf tx h
 rw [<- hr]at hS;clear hr;obtain⟨l,a,b,c⟩:=r;refine LF (fn:=Tryz.f3) (gX es er) 49 aj rfl aj bO ?_;intro dX cS hA bN;have cU:al dX (.tmp 0)=_:=hA 0 _ rfl;have ap:cS.length=1:=by rw [bN];rfl
 have av:cS[0]? =some (.bY (gX es er)):=by rw [bN];rfl
 clear hA bN;refine ax<|at_<|ar (aB aw) rfl<|bn (ae cU) ?_;clear cU;intro ef cV
 refine ao<|ax<|ax<|at_<|ar (bI aN rfl (Of) On) rfl<|ar (dT aa) rfl<|bD (ag cV) aa ?_;clear cV;intro eg an bB
 refine ao<|bk bB (λaV=>?_) (λaV=>?_)
 ·replace aV:=cT aV;cases aV
 replace aV:=di aV;refine bF<|ao<|ax<|ax<|at_<|ar (ak an) rfl<|ar (eE aa rfl cK) rfl<|ar (eF aa aw) rfl<|ar (ak aa) rfl<|bK aa (λab a2=>?_) (λab a2=>?_)
 ·replace a2:=bt a2;refine aF (ak (ai an)) ⟨_,rfl,ab⟩ rfl ?_;refine aF (eE aa rfl cK) ⟨_,rfl,(ae ab)⟩ rfl ?_;refine aF (gw aa aw) ⟨_,rfl,(ag ab)⟩ rfl ?_;refine ar (bq (ae (ag ab)) aa) rfl<|ar (ak aa) rfl<|bK aa (λad a3=>?_) (λad a3=>?_)
  ·replace a3:=bt a3;refine aC ⟨_,rfl,.inl ad⟩ rfl ?_;refine aC ⟨_,rfl,.inl (ae ad)⟩ rfl ?_;refine aC ⟨_,rfl,.inl (ag ad)⟩ rfl ?_;refine ar (bq (ae (ag ad)) aw) rfl<|bD (ae (ai (ay an))) aa ?_;clear ab ad an bB;intro eh dY cW
   refine ao<|lA cW<|ax<|at_<|ar (aB aw) rfl<|bn aa ?_;clear dY cW;intro en cX
   refine ao<|bm<|bw<|bX bp aj (aR cX) (.ro _ rfl) ?_
   clear cX av ap
   (first|rfl|(exfalso;omega)|(simp;done)|(simp_all;done))
  replace a3:=bf a3;refine aF (ak (ae (ay an))) ⟨_,rfl,ad⟩ rfl ?_;refine aF (eE aa rfl cK) ⟨_,rfl,(ae ad)⟩ rfl ?_;refine aF (eF aa aw) ⟨_,rfl,(ag ad)⟩ rfl ?_;refine ar (br (ae (ag ad)) aa) rfl<|bD (ae (ai (ay an))) aa ?_;clear ab ad an bB;intro ep bE bP
  refine ao<|bk bP (λa5=>?_) (λa5=>?_)
  ·replace a5:=bt a5;refine ax<|at_<|ar (aB aw) rfl<|bn aa ?_;clear bE bP;intro eu cY
   refine ao<|bm<|bw<|bX bp aj (aR cY) (.ro _ rfl) ?_
   clear cY av ap
   (first|rfl|(exfalso;omega)|(simp;done)|(simp_all;done))
  replace a5:=bf a5;refine bF<|ao<|ax<|at_<|ar (ak bE) rfl<|ar (uo (aG aa aN) rfl av (hA ah) Et) rfl ?_
  refine ar (ak aa) rfl<|ar (cF aa rfl) rfl<|ar (cF (ae aa) rfl) rfl<|ar (cF (ag aa) rfl) rfl<|aM (cJ mf rfl ap) trivial rfl (λev bH=>?_)
  have bQ:=bS bH ap;simp only [pS,Value.cells,Nat.reduceAdd,gj]at bQ;have cZ:=aI bH av;have a6:=bR bH ap;have a6:_=2:=a6;clear bH av;refine aM (cJ om rfl a6) trivial rfl (λew a7=>?_);have bU:=bS a7 a6;simp only [pS,Value.cells,Nat.reduceAdd,gj]at bU;have bW:=aI a7 bQ;have c6:=aI a7 cZ;have bZ:=bR a7 a6;have bZ:_=3:=bZ;clear a7 bQ cZ;refine aM (bV (ae aa) (ai aa) rfl rfl bW jI rfl aA) trivial rfl (λey a8=>?_);have b0:=bo a8 bW;simp only [pS,Value.cells,Nat.reduceAdd,gj]at b0;have b1:=au a8 bU aD;have c7:=au a8 c6 aD;have dZ:=bh a8 bZ;clear a8 bU bW c6;refine aM (bV (aE aa) (aE (ae (ag aa))) rfl rfl b1 kc rfl aA) trivial rfl (λez a9=>?_);have b2:=bo a9 b1;simp only [pS,Value.cells,Nat.reduceAdd,gj]at b2;have c8:=au a9 b0 aD;have c9:=au a9 c7 aD;have b6:=bh a9 dZ;clear a9 b0 b1 c7;refine ar (aB (aE (aE (ag aa)))) rfl<|bu (ae (aE (aE (ay bE)))) (ae (aE (aE (ae aa)))) (ae (aE (aE aa))) aa ?_;clear bE bP;intro eA da db dc dd
  refine ao<|ax<|at_<|ar (ak da) rfl<|ar (bI (aG aa aN) rfl (hB ah) Eu) rfl ?_
  refine ar (ak aa) rfl<|ar (cF aa rfl) rfl<|ar (cF (ae aa) rfl) rfl<|ar (cF (ag aa) rfl) rfl<|aM (cJ mf rfl b6) trivial rfl (λeB aX=>?_)
  have b7:=bS aX b6;simp only [pS,Value.cells,Nat.reduceAdd,gj]at b7;have de:=aI aX b2;have df:=aI aX c8;have dg:=aI aX c9;have ba:=bR aX b6;have ba:_=4:=ba;clear aX b2 c8 c9;refine aM (cJ om rfl ba) trivial rfl (λeC aH=>?_);have b8:=bS aH ba;simp only [pS,Value.cells,Nat.reduceAdd,gj]at b8;have b9:=aI aH b7;have dh:=aI aH de;have dk:=aI aH df;have dl:=aI aH dg;have ca:=bR aH ba;have ca:_=5:=ca;clear aH b7 de df dg;refine aM (bV (ae aa) (ai aa) rfl rfl b9 jI rfl aA) trivial rfl (λeD aJ=>?_);have cb:=bo aJ b9;simp only [pS,Value.cells,Nat.reduceAdd,gj]at cb;have cc:=au aJ b8 aD;have dm:=au aJ dh aD;have dn:=au aJ dk aD;have dq:=au aJ dl aD;have ea:=bh aJ ca;clear aJ b8 b9 dh dk dl;refine aM (bV (aE aa) (aE (ae (ag aa))) rfl rfl cc kc rfl aA) trivial rfl (λeG aL=>?_);have bJ:=bo aL cc;simp only [pS,Value.cells,Nat.reduceAdd,gj]at bJ;have cd:=au aL cb aD;have ce:=au aL dm aD;have cf:=au aL dn aD;have dr:=au aL dq aD;have dt:=bh aL ea;clear aL cb cc dm dn dq;refine ar (aB (aE (aE (ag aa)))) rfl<|dH (ae (aE (aE (ay db)))) (ae (aE (aE (ay dc)))) (ae (aE (aE (ay dd)))) (ae (aE (aE (ae aa)))) (ae (aE (aE aa))) aa ?_;clear da db dc dd;intro eH cg ci cj ck cm co
  refine ao<|ax<|at_<|ar (ak cj) rfl<|ar (ak (ae co)) rfl<|ar (dN (ae aa) aa) rfl ?_
  refine ar (ak aa) rfl<|bK aa (λaO bb=>?_) (λaO bb=>?_)
  ·replace bb:=bt bb;refine aF (az (aK uW rfl ce (ai ci) aA) nY) ⟨_,rfl,aO⟩ rfl ?_;refine aF (az (aK uW rfl bJ (ae (ai cm)) aA) nY) ⟨_,rfl,(ae aO)⟩ rfl ?_;refine aF (Cb (ae aa) aa rfl rfl Ey Ez aD) ⟨_,rfl,(ag aO)⟩ rfl ?_;refine ar (bq (ae (ag aO)) aa) rfl<|ar (ak aa) rfl<|bK aa (λaf eb=>?_) (λaf eb=>?_)
   ·skip;refine aF (az (aK uV rfl cf (ae (ay cg)) aA) nY) ⟨_,rfl,af⟩ rfl ?_;refine aF (az (aK uV rfl cd (ag (ay ck)) aA) nY) ⟨_,rfl,(ae af)⟩ rfl ?_;refine aF (bI (aG (ae aa) (aG aa aN)) rfl (BS l hS) Ew) ⟨_,rfl,(ag af)⟩ rfl ?_;refine ar (bq (ae (ag af)) aa) rfl<|ar (aB aa) rfl<|bn aa ?_;clear aO af cg ci cj ck cm co;intro eI du
    refine ao<|bm<|bX bp aj (aR du) (.ro _ rfl) ?_
    clear du bJ cd ce cf dr dt
    (first|rfl|(exfalso;omega)|(simp;done)|(simp_all;done))
   refine aC ⟨_,rfl,.inl af⟩ rfl ?_;refine aC ⟨_,rfl,.inl (ae af)⟩ rfl ?_;refine aC ⟨_,rfl,.inl (ag af)⟩ rfl ?_;refine ar (br (ae (ag af)) aw) rfl<|ar (aB aa) rfl<|bn aa ?_;clear aO af cg ci cj ck cm co;intro eK dv
   refine ao<|bm<|bX bp aj (aR dv) (.ro _ rfl) ?_
   clear dv bJ cd ce cf dr dt
   (first|rfl|(exfalso;omega)|(simp;done)|(simp_all;done))
  ·replace bb:=bf bb;exfalso;omega
 replace a2:=bf a2;refine aC ⟨_,rfl,.inl ab⟩ rfl ?_;refine aC ⟨_,rfl,.inl (ae ab)⟩ rfl ?_;refine aC ⟨_,rfl,.inl (ag ab)⟩ rfl ?_;refine ar (br (ae (ag ab)) aw) rfl<|ar (ak aa) rfl<|aF (ak (ae (ay an))) ⟨_,rfl,aa⟩ rfl ?_
 refine aF (eE aa rfl cK) ⟨_,rfl,(ae aa)⟩ rfl ?_;refine aF (eF aa aw) ⟨_,rfl,(ag aa)⟩ rfl ?_;refine ar (br (ae (ag aa)) aa) rfl<|bD (ae (ai (ay an))) aa ?_;clear ab an bB;intro eL cq dw
 refine ao<|bk dw (λbc=>?_) (λbc=>?_)
 ·replace bc:=bt bc;exfalso;omega
 replace bc:=bf bc;refine bF<|ao<|ax<|at_<|ar (ak cq) rfl<|ar (uo (aG aa aN) rfl av (hA ah) Et) rfl ?_
 refine ar (ak aa) rfl<|ar (cF aa rfl) rfl<|ar (cF (ae aa) rfl) rfl<|ar (cF (ag aa) rfl) rfl<|aM (cJ mf rfl ap) trivial rfl (λeP bL=>?_)
 have cr:=bS bL ap;simp only [pS,Value.cells,Nat.reduceAdd,gj]at cr;have dy:=aI bL av;have be:=bR bL ap;have be:_=2:=be;clear bL av;refine aM (cJ om rfl be) trivial rfl (λeS bg=>?_);have ct:=bS bg be;simp only [pS,Value.cells,Nat.reduceAdd,gj]at ct;have cu:=aI bg cr;have dz:=aI bg dy;have cv:=bR bg be;have cv:_=3:=cv;clear bg cr dy;refine aM (bV (ae aa) (ai aa) rfl rfl cu jI rfl aA) trivial rfl (λeT bj=>?_);have cw:=bo bj cu;simp only [pS,Value.cells,Nat.reduceAdd,gj]at cw;have cx:=au bj ct aD;have dA:=au bj dz aD;have ec:=bh bj cv;clear bj ct cu dz;refine aM (bV (aE aa) (aE (ae (ag aa))) rfl rfl cx kc rfl aA) trivial rfl (λeU bv=>?_);have cy:=bo bv cx;simp only [pS,Value.cells,Nat.reduceAdd,gj]at cy;have dB:=au bv cw aD;have dC:=au bv dA aD;have cz:=bh bv ec;clear bv cw cx dA;refine ar (aB (aE (aE (ag aa)))) rfl<|bu (ae (aE (aE (ay cq)))) (ae (aE (aE (ae aa)))) (ae (aE (aE aa))) aa ?_;clear cq dw;intro eW dD dE dF dG
 refine ao<|ax<|at_<|ar (ak dD) rfl<|ar (bI (aG aa aN) rfl (hB ah) Eu) rfl ?_
 refine ar (ak aa) rfl<|ar (cF aa rfl) rfl<|ar (cF (ae aa) rfl) rfl<|ar (cF (ag aa) rfl) rfl<|aM (cJ mf rfl cz) trivial rfl (λeX aZ=>?_)
 have cA:=bS aZ cz;simp only [pS,Value.cells,Nat.reduceAdd,gj]at cA;have dI:=aI aZ cy;have dJ:=aI aZ dB;have dK:=aI aZ dC;have bx:=bR aZ cz;have bx:_=4:=bx;clear aZ cy dB dC;refine aM (cJ om rfl bx) trivial rfl (λeY aP=>?_);have cB:=bS aP bx;simp only [pS,Value.cells,Nat.reduceAdd,gj]at cB;have cC:=aI aP cA;have dL:=aI aP dI;have dM:=aI aP dJ;have dO:=aI aP dK;have cD:=bR aP bx;have cD:_=5:=cD;clear aP cA dI dJ dK;refine aM (bV (ae aa) (ai aa) rfl rfl cC jI rfl aA) trivial rfl (λeZ aS=>?_);have cE:=bo aS cC;simp only [pS,Value.cells,Nat.reduceAdd,gj]at cE;have cG:=au aS cB aD;have dP:=au aS dL aD;have dQ:=au aS dM aD;have dR:=au aS dO aD;have ed:=bh aS cD;clear aS cB cC dL dM dO;refine aM (bV (aE aa) (aE (ae (ag aa))) rfl rfl cG kc rfl aA) trivial rfl (λe0 aT=>?_);have bM:=bo aT cG;simp only [pS,Value.cells,Nat.reduceAdd,gj]at bM;have cH:=au aT cE aD;have cI:=au aT dP aD;have cL:=au aT dQ aD;have dS:=au aT dR aD;have dU:=bh aT ed;clear aT cE cG dP dQ dR;refine ar (aB (aE (aE (ag aa)))) rfl<|dH (ae (aE (aE (ay dE)))) (ae (aE (aE (ay dF)))) (ae (aE (aE (ay dG)))) (ae (aE (aE (ae aa)))) (ae (aE (aE aa))) aa ?_;clear dD dE dF dG;intro e3 cM cN cO cP cQ cR
 refine ao<|ax<|at_<|ar (ak cO) rfl<|ar (ak (ae cR)) rfl<|ar (dN (ae aa) aa) rfl ?_
 refine ar (ak aa) rfl<|bK aa (λaU bz=>?_) (λaU bz=>?_)
 ·replace bz:=bt bz;refine aF (az (aK uW rfl cI (ai cN) aA) nY) ⟨_,rfl,aU⟩ rfl ?_;refine aF (az (aK uW rfl bM (ae (ai cQ)) aA) nY) ⟨_,rfl,(ae aU)⟩ rfl ?_;refine aF (Cb (ae aa) aa rfl rfl Ey Ez aD) ⟨_,rfl,(ag aU)⟩ rfl ?_;refine ar (bq (ae (ag aU)) aa) rfl<|ar (ak aa) rfl<|bK aa (λam ee=>?_) (λam ee=>?_)
  ·skip;refine aF (az (aK uV rfl cL (ae (ay cM)) aA) nY) ⟨_,rfl,am⟩ rfl ?_;refine aF (az (aK uV rfl cH (ag (ay cP)) aA) nY) ⟨_,rfl,(ae am)⟩ rfl ?_;refine aF (bI (aG (ae aa) (aG aa aN)) rfl (BS l hS) Ew) ⟨_,rfl,(ag am)⟩ rfl ?_;refine ar (bq (ae (ag am)) aa) rfl<|ar (aB aa) rfl<|bn aa ?_;clear aU am cM cN cO cP cQ cR;intro e4 dV
   refine ao<|bm<|bX bp aj (aR dV) (.ro _ rfl) ?_
   clear dV bM cH cI cL dS dU
   (first|rfl|(exfalso;omega)|(simp;done)|(simp_all;done))
  refine aC ⟨_,rfl,.inl am⟩ rfl ?_;refine aC ⟨_,rfl,.inl (ae am)⟩ rfl ?_;refine aC ⟨_,rfl,.inl (ag am)⟩ rfl ?_;refine ar (br (ae (ag am)) aw) rfl<|ar (aB aa) rfl<|bn aa ?_;clear aU am cM cN cO cP cQ cR;intro e5 dW
  refine ao<|bm<|bX bp aj (aR dW) (.ro _ rfl) ?_
  clear dW bM cH cI cL dS dU
  (first|rfl|(exfalso;omega)|(simp;done)|(simp_all;done))
 ·replace bz:=bf bz;exfalso;omega
theorem HT(tx:ByteArray):iF Tryz.prog (gX es er) 3 [.v (.string tx)] (λq=>q=bA true):=
 Ie es er hes her tx.data.toList
end
end Go.Proofs.YtfoaiidcfkmneaaGreatDoor
