/- Texts of this claim, one behind the other: lemmas for the statement. -/
import Derived.Test.YtbmlgmblfboigaaGreatDoorT0
import Derived.Test.YtbmlgmblfboigaaGreatDoorM10
import Derived.Test.YtbmlgmblfboigaaGreatDoorM3
import Derived.Test.YtbmlgmblfboigaaGreatDoorA25
import Derived.Test.YtbmlgmblfboigaaGreatDoorM4
set_option maxRecDepth 100000
set_option maxHeartbeats 4000000
set_option linter.unusedSimpArgs false
set_option linter.unusedVariables false
namespace Go.Proofs.YtbmlgmblfboigaaGreatDoor
open Go Go.RowKit Go.Proofs
theorem MK:∀ args w,(callFunc 102 args).run Tryz.prog w= .ok (.enter 102 args) w:=λ_ _=>by kernel_rfl
theorem ML:∀ args w,(callFunc 121 args).run Tryz.prog w= .ok (.enter 121 args) w:=λ_ _=>by kernel_rfl
theorem MM:∀ args w,(callFunc 122 args).run Tryz.prog w= .ok (.enter 122 args) w:=λ_ _=>by kernel_rfl
theorem FM:bO Tryz.prog 24 95 2 16 (.agg #[.int .i64 0,.int .i64 0]):=⟨ai,ai,ai⟩
theorem ry:bO Tryz.prog 85 3 1 8 (.int .i64 0):=⟨ai,ai,ai⟩
theorem FN:aQ Tryz.prog 24 false 1:=⟨ai,ai⟩
theorem tR:aQ Tryz.prog 3 false 1:=⟨ai,ai⟩
theorem zx:aQ Tryz.prog 85 false 1:=⟨ai,ai⟩
theorem Au(n:Int):bN Tryz.prog 103 [mA n] (λq=>q=dK false):=by
 refine cw (fn:=Tryz.f103) 6 ai rfl ai aU ?_;intro ah aj hA ad;have af:ak ah (.tmp 0)=_:=hA 0 _ rfl;have am:aj.length=0:=by rw [ad];rfl
 clear hA ad;refine au<|at_<|ar (aB ay) rfl<|aY (ae af) ?_;clear af;intro an ab
 refine ao<|au<|at_<|ar (al ab) rfl<|ar (al (ae ab)) rfl<|ar (dB (ae aa) aa) rfl<|ar (aB aa) rfl<|aY aa ?_;clear ab;intro ap ag
 refine ao<|bg<|bL bm ai (bc ag) (.ro _ rfl) ?_
 clear ag am;simp
theorem Uf(n:Int):bN Tryz.prog 122 [mA n] (λq=>q=dK false):=by
 refine cw (fn:=Tryz.f122) 6 ai rfl ai aU ?_;intro ah aj hA ad;have af:ak ah (.tmp 0)=_:=hA 0 _ rfl;have am:aj.length=0:=by rw [ad];rfl
 clear hA ad;refine au<|at_<|ar (aB ay) rfl<|aY (ae af) ?_;clear af;intro an ab
 refine ao<|au<|at_<|ar (al ab) rfl<|ar (al (ae ab)) rfl<|ar (dB (ae aa) aa) rfl<|ar (aB aa) rfl<|aY aa ?_;clear ab;intro ap ag
 refine ao<|bg<|bL bm ai (bc ag) (.ro _ rfl) ?_
 clear ag am;simp
theorem Ug(m n:Int):bN Tryz.prog 121 [mA m,mA n] (λq=>q=dK (decide (m<n))):=by
 refine cw (fn:=Tryz.f121) 17 ai rfl ai aU ?_;intro af aw hA ah;have aj:ak af (.tmp 0)=_:=hA 0 _ rfl;have am:ak af (.tmp 1)=_:=hA 1 _ rfl;have ax:aw.length=0:=by rw [ah];rfl
 clear hA ah;refine au<|at_<|ar (aB ay) rfl<|bq (ae aj) (ae am) ?_;clear aj am;intro az ad an
 refine ao<|au<|at_<|ar (al ad) rfl<|ar (bh (aE aa aM) rfl (Au _) zV) rfl<|ar (al aa) rfl<|bQ aa (λab ap=>?_) (λab ap=>?_)
 ·cases ap
 refine aF ⟨_,rfl,.inl ab⟩ rfl ?_;refine aF ⟨_,rfl,.inl (ae ab)⟩ rfl ?_;refine aF ⟨_,rfl,.inl (ag ab)⟩ rfl ?_;refine ar (bG (ae (ag ab)) ay) rfl<|ar (al aa) rfl<|aG (al (aA ad)) ⟨_,rfl,aa⟩ rfl ?_
 refine aG (al (ae (aA an))) ⟨_,rfl,(ae aa)⟩ rfl ?_;refine aG (cU (ae aa) aa) ⟨_,rfl,(ag aa)⟩ rfl ?_;refine ar (bG (ae (ag aa)) aa) rfl<|ar (aB aa) rfl<|aY aa ?_;clear ab ad an;intro aC av
 refine ao<|bg<|bL bm ai (bc av) (.ro _ rfl) ?_
 clear av ax;rfl
def sM(xs:List Int)(t:Int)(i:Nat):Prop:=∀ k:Nat,k<i->xs.getD k default<t
def pG(xs:List Int)(t:Int)(i:Nat):Prop:=∀ k:Nat,i<=k->k<xs.length->t<=xs.getD k default
def yj(xs:List Int):Prop:=∀ i j:Nat,i<=j->j<xs.length->xs.getD i default<=xs.getD j default
def ff(xs:List Int)(t:Int):Nat:=(xs.takeWhile (λx=>decide (x<t))).length
theorem wR{t:Int}:∀ {xs:List Int} {i:Nat},i<=xs.length->sM xs t i->pG xs t i->ff xs t=i
 | [],i,h,_,_=>by simp at h;subst h;rfl
 | x::xs,0,_,_,h=>by
  have:=h 0 (Xf _) aN;simp at this;simp [ff,show ¬ x<t by omega]
 | x::xs,i+1,h,hb,ha=>by
  have:=hb 0 ah;simp at this;have ih:=wR (xs:=xs) (i:=i) (t:=t) lK (λk hk=>by have:=hb (k+1) ah;simpa using this) (λk h1 h2=>by have:=ha (k+1) ah (by simpa using h2);simpa using this);unfold ff at ih ⊢;simp [this,ih]
theorem sM.step{xs:List Int}{t:Int}(hs:yj xs){i:Nat}(hi:i<xs.length)(h:xs.getD i default<t):sM xs t (i+1):=λk hk=>by
 have:=hs k i ah hi;omega
theorem pG.step{xs:List Int}{t:Int}(hs:yj xs){i:Nat}(h:t<=xs.getD i default):pG xs t i:=λk h1 h2=>by
 have:=hs i k h1 h2;omega
theorem NR(xs:List Int)(t:Int)(hs:yj xs)(hl:xs.length<=1000000):bN Tryz.prog 102 [.row 1 (xs.map iE),mA t] (λq=>q= .tuple [mA (ff xs t),dK (decide (ff xs t<xs.length/\xs.getD (ff xs t) default=t))]):=by
 refine cw (fn:=Tryz.f102) 54 ai rfl ai aU ?_;intro bo bY hA bp;have br:ak bo (.tmp 0)=_:=hA 0 _ rfl;have bu:ak bo (.tmp 1)=_:=hA 1 _ rfl;have bZ:bY.length=0:=by rw [bp];rfl
 clear hA bp;refine au<|at_<|ar (aB ay) rfl<|ar (aB ay) rfl<|bq (ag br) (ag bu) ?_;clear br bu;intro cm aT bv
 refine ao<|au<|at_<|ar (al aT) rfl<|ar (ax (ca aa rfl ry.1) b7) rfl ?_
 refine ar (aB aa) rfl<|bJ (ae (ag aT)) (ae (ag bv)) aa ?_;clear aT bv;intro cn bw bx aX
 refine ao<|au<|at_<|ar (al aX) rfl<|ar (aB ay) rfl<|ar (aB (ae aa)) rfl<|bR (ae (ag bw)) (ae (ag bx)) (ae (ag aX)) (ae aa) aa ?_;clear bw bx aX;intro aY aZ a2 a3 b0 b1
 refine ao<|au<|bV<|eu (S:=(Int×Int)) (λs e mem=>match s with|⟨i,j⟩=>(ak e (.tmp 7)= .v (.int .i64 i))/\(ak e (.tmp 8)= .v (.int .i64 j))/\(ak e (.tmp 0)=ak aY (.tmp 0))/\(ak e (.tmp 1)=ak aY (.tmp 1))/\(ak e (.tmp 6)=ak aY (.tmp 6))/\(mem.length=0)/\((0<=i/\i<=j/\j<=xs.length/\sM xs t i.toNat/\pG xs t j.toNat))) (λs=>match s with|⟨i,j⟩=>(j - i).toNat) ⟨_,_⟩ ⟨b0,b1,rfl,rfl,rfl,bZ,?_⟩ ?_
 ·(exact⟨ah,ah,ah,λk hk=>absurd hk aN,λk h1 h2=>absurd h1 ah⟩)
 ·rintro⟨i,j⟩ co cr ⟨a5,a6,b2,b6,b8,aw,hinv⟩;have bz:=b2.trans aZ;have bA:=b6.trans a2;have bB:=b8.trans a3
  (obtain⟨p1,p2,p3,p4,p5⟩:=hinv)
  refine au<|au<|at_<|ar (al a5) rfl<|ar (al (ae a6)) rfl<|ar (cU (ae aa) aa) rfl<|dh (ae (ag bz)) (ae (ag bA)) (ae (ag bB)) (ae (ag a5)) (ae (ag a6)) aa ?_;clear bz bA bB a5 a6;intro cu am an ap af av aC
  refine ao<|bj aC (λaH=>?_) (λaH=>?_)
  ·replace aH:=bt aH;refine bC<|ao<|bV<|au<|at_<|ar (al af) rfl<|ar (al (ae av)) rfl ?_
   (refine ar (cv (ae aa) aa ?_) rfl ?_; · ((unfold In64);omega))
   (refine ar (xu aa ai ai ?_) rfl ?_; · ((unfold dH);omega))
   refine ar (sn (c:=2) aa ay aD aD) rfl ?_
   (refine ar (IV aa ai ai ?_) rfl ?_; · ((unfold In64);omega))
   refine ar (aB aa) rfl<|dh (ae (ag (aj am))) (ae (ag (aj an))) (ae (ag (aj ap))) (ae (ag (aj af))) (ae (ag (aj av))) aa ?_;clear am aC an ap af av;intro cx a7 a8 bE bH bI a9
   refine ao<|au<|at_<|ar (al a7) rfl<|ar (al (ae a9)) rfl<|ar (ax (cP ry (ae aa) aa ah (by(refine cO ?_;omega))) bk) rfl ?_
   refine ar (ax (bF tR rfl aa az) bk) rfl ?_;refine ar (al (aj a8)) rfl<|ar (bh (aE (ae aa) (aE aa aM)) rfl (Ug _ _) ML) rfl<|fX (ag (aj a7)) (ag (aj a8)) (ag (aj bE)) (ag (aj bH)) (ag (aj bI)) (ag (aj a9)) aa ?_;clear a7 a8 bE bH bI a9;intro cy aP aQ aR ba bb aS be
   refine ao<|bj be (λaI=>?_) (λaI=>?_)
   ·replace aI:=bt aI;refine at_<|ar (al aS) rfl ?_
    (refine ar (cv aa ay ?_) rfl ?_; · ((unfold In64);omega))
    refine ar (aB aa) rfl<|bR (ae (ag aP)) (ae (ag aQ)) (ae (ag aR)) aa (ae (ag bb)) ?_;clear aP aQ be aR ba bb aS;intro cz b9 cb cc cd ce
    refine cK<|ao<|⟨⟨_,_⟩,⟨cd,ce,(b9.trans aZ.symm),(cb.trans a2.symm),(cc.trans a3.symm),aw,?_⟩,?_⟩
    ·(have hk:xs.getD ((i+j)/2).toNat default<t:=(by assumption);refine⟨ah,ah,ah,?_,p5⟩;rw [show((i+j)/2+1).toNat =((i+j)/2).toNat +1 by omega];exact sM.step hs ah hk)
    ·((try dsimp only);omega)
   replace aI:=bf aI;refine at_<|ar (al aS) rfl<|ar (aB aa) rfl<|bR (ag aP) (ag aQ) (ag aR) (ag ba) aa ?_;clear aP aQ be aR ba bb aS;intro cA cf cg ci cj ck
   refine cK<|ao<|⟨⟨_,_⟩,⟨cj,ck,(cf.trans aZ.symm),(cg.trans a2.symm),(ci.trans a3.symm),aw,?_⟩,?_⟩
   ·(have hk:t<=xs.getD ((i+j)/2).toNat default:=ah;exact⟨ah,ah,ah,p4,pG.step hs hk⟩)
   ·((try dsimp only);omega)
  replace aH:=bf aH;refine dV<|cB<|cB<|dU<|ao<|au<|at_<|ar (al af) rfl<|ar (al (ae af)) rfl<|ar (al (ag ap)) rfl<|ar (cU (ae aa) aa) rfl<|ar (al aa) rfl<|bQ aa (λab aK=>?_) (λab aK=>?_)
  ·replace aK:=bt aK;refine aG (al (ae (aj am))) ⟨_,rfl,ab⟩ rfl ?_;refine aG (al (ag (aj af))) ⟨_,rfl,(ae ab)⟩ rfl ?_;refine aG (ax (cP ry (ae aa) aa ah (by(refine cO ?_;omega))) bk) ⟨_,rfl,(ag ab)⟩ rfl ?_;refine aG (ax (bF tR rfl aa az) bk) ⟨_,rfl,(ae (ag ab))⟩ rfl ?_;refine aG (al (ae (aA an))) ⟨_,rfl,(aj ab)⟩ rfl ?_;refine aG (e6 (ae aa) aa) ⟨_,rfl,(ae (aj ab))⟩ rfl ?_;refine aG (al aa) ⟨_,rfl,(ag (aj ab))⟩ rfl ?_;refine bQ aa (λad aL=>?_) (λad aL=>?_)
   ·replace aL:=bt aL;refine aF ⟨_,rfl,.inl ad⟩ rfl ?_;refine aF ⟨_,rfl,.inl (ae ad)⟩ rfl ?_;refine aF ⟨_,rfl,.inl (ag ad)⟩ rfl ?_;refine aF ⟨_,rfl,.inl (ae (ag ad))⟩ rfl ?_;refine aF ⟨_,rfl,.inl (aj ad)⟩ rfl ?_;refine aF ⟨_,rfl,.inl (ae (aj ad))⟩ rfl ?_;refine aF ⟨_,rfl,.inr aa⟩ rfl ?_;refine aF ⟨_,rfl,.inr (ae aa)⟩ rfl ?_;refine aF ⟨_,rfl,.inl (aA ad)⟩ rfl ?_;refine aG (bD (ae (aA ad)) ay) ⟨_,rfl,(aJ ab)⟩ rfl ?_;refine ar (bD (ae (aJ ab)) aa) rfl<|ar (aB (ag (aj (aJ aa)))) rfl<|ar (aB (ae aa)) rfl<|bq (ae aa) aa ?_;clear ab ad am aC an ap af av;intro cC bL bM
    refine ao<|bg<|eh bm ai (bc bL) (bc bM) (.ro _ rfl) (.ro _ rfl) ?_
    clear bL bM aw
    (have hlo:=wR ah p4 (show pG xs t i.toNat by rwa [show i.toNat=j.toNat by omega]);have hi:((i.toNat:Nat):Int)=i:=ah;rw [hlo,hi];refine congrArg (λb=>AV.tuple [mA i,dK b]) ?_;symm;(exact decide_eq_true ⟨ah,by assumption⟩))
   replace aL:=bf aL;refine aG (al (aj (aA am))) ⟨_,rfl,ad⟩ rfl ?_;refine aG (al (ae (aj (aA af)))) ⟨_,rfl,(ae ad)⟩ rfl ?_;refine aG (ax (cP ry (ae aa) aa ah (by(refine cO ?_;omega))) bk) ⟨_,rfl,(ag ad)⟩ rfl ?_;refine aG (ax (bF tR rfl aa az) bk) ⟨_,rfl,(ae (ag ad))⟩ rfl ?_;refine aG (bh (aE aa aM) rfl (Uf _) MM) ⟨_,rfl,(aj ad)⟩ rfl ?_;refine aG (al aa) ⟨_,rfl,(ae (aj ad))⟩ rfl ?_;refine bQ aa (λaO bO=>?_) (λaO bO=>?_)
   ·cases bO
   refine aF ⟨_,rfl,.inl aO⟩ rfl ?_;refine aF ⟨_,rfl,.inl (ae aO)⟩ rfl ?_;refine aG (bG (ag aO) ay) ⟨_,rfl,(aA ad)⟩ rfl ?_;refine aG (bG (ae (aA ad)) aa) ⟨_,rfl,(aJ ab)⟩ rfl ?_;refine ar (bD (ae (aJ ab)) aa) rfl<|ar (aB (ag (aj (aJ aa)))) rfl<|ar (aB (ae aa)) rfl<|bq (ae aa) aa ?_;clear ab ad aO am aC an ap af av;intro cD bP bS
   refine ao<|bg<|eh bm ai (bc bP) (bc bS) (.ro _ rfl) (.ro _ rfl) ?_
   clear bP bS aw
   (have hlo:=wR ah p4 (show pG xs t i.toNat by rwa [show i.toNat=j.toNat by omega]);have hi:((i.toNat:Nat):Int)=i:=ah;rw [hlo,hi];refine congrArg (λb=>AV.tuple [mA i,dK b]) ?_;symm;(exact decide_eq_false (λh=>absurd h.2 (by assumption))))
  replace aK:=bf aK;refine aF ⟨_,rfl,.inl ab⟩ rfl ?_;refine aF ⟨_,rfl,.inl (ae ab)⟩ rfl ?_;refine aF ⟨_,rfl,.inl (ag ab)⟩ rfl ?_;refine aF ⟨_,rfl,.inl (ae (ag ab))⟩ rfl ?_;refine aF ⟨_,rfl,.inl (aj ab)⟩ rfl ?_;refine aF ⟨_,rfl,.inl (ae (aj ab))⟩ rfl ?_;refine aF ⟨_,rfl,.inl (ag (aj ab))⟩ rfl ?_;refine aF ⟨_,rfl,.inr aa⟩ rfl ?_;refine aF ⟨_,rfl,.inr (ae aa)⟩ rfl ?_;refine aF ⟨_,rfl,.inr (ag aa)⟩ rfl ?_;refine aF ⟨_,rfl,.inr (ae (ag aa))⟩ rfl ?_;refine aF ⟨_,rfl,.inr (aj aa)⟩ rfl ?_;refine aF ⟨_,rfl,.inr (ae (aj aa))⟩ rfl ?_;refine aF ⟨_,rfl,.inr aa⟩ rfl ?_;refine aF ⟨_,rfl,.inr (ae aa)⟩ rfl ?_;refine aF ⟨_,rfl,.inr (aA aa)⟩ rfl ?_;refine aF ⟨_,rfl,.inl (aJ ab)⟩ rfl ?_;refine ar (bG (ae (aJ ab)) ay) rfl<|ar (aB (ag (aj (aJ aa)))) rfl<|ar (aB (ae aa)) rfl<|bq (ae aa) aa ?_;clear ab am aC an ap af av;intro cE bT bW
  refine ao<|bg<|eh bm ai (bc bT) (bc bW) (.ro _ rfl) (.ro _ rfl) ?_
  clear bT bW aw
  (have hlo:=wR ah p4 (show pG xs t i.toNat by rwa [show i.toNat=j.toNat by omega]);have hi:((i.toNat:Nat):Int)=i:=ah;rw [hlo,hi];refine congrArg (λb=>AV.tuple [mA i,dK b]) ?_;symm;(exact decide_eq_false (λh=>by have:=h.1;omega)))
def hC(bs:List fY)(p:Int):Nat->Nat
 | 0=>0
 | n+1=>if b9 bs n<=p then n else hC bs p n
theorem wS{bs:List fY}{p:Int}(h0:0<=p):∀ {n:Nat},1<=n->hC bs p n<n/\b9 bs (hC bs p n)<=p/\ ∀ j:Nat,hC bs p n<j->j<n->p<b9 bs j
 | n+1,_=>by
  simp only [hC]
  by_cases h:b9 bs n<=p
  ·rw [if_pos h];exact⟨ah,h,λj h1 h2=>by omega⟩
  ·rw [if_neg h];rcases Ye n with hn|hn
   ·subst hn;simp [b9]at h;omega
   ·obtain⟨h1,h2,h3⟩:=wS (bs:=bs) h0 (n:=n) hn;refine⟨ah,h2,λj h4 h5=>?_⟩
    by_cases hj:j=n
    ·subst hj;omega
    ·exact h3 j h4 ah
theorem cM.mono{l:aP}(h:cM l){i:Nat}:∀ {j:Nat},i<=j->j<=l.bs.length->b9 l.bs i+1000*((j:Int) - i)<=b9 l.bs j
 | 0,h1,_=>by
  obtain rfl:i=0:=by omega
  omega
 | j+1,h1,h2=>by
  by_cases hij:i=j+1
  ·subst hij;omega
  ·have:=h.mono (i:=i) (j:=j) ah ah;have:=h.kU j ah;simp only [b9];omega
theorem Av{l:aP}(h:cM l){p:Int}{i:Nat}(hi:i<l.bs.length)(h1:b9 l.bs i<=p)(h2:i+1<l.bs.length->p<b9 l.bs (i+1)):hC l.bs p l.bs.length=i:=by
 have h0:0<=p:=by have:=(h.nq (n:=i) ah).1;omega
 obtain⟨b1,b2,b3⟩:=wS (bs:=l.bs) h0 (n:=l.bs.length) h.n0;rcases Nat.lt_trichotomy (hC l.bs p l.bs.length) i with hlt|he|hgt
 ·have:=b3 i hlt hi;omega
 ·exact he
 ·have:=h.mono (i:=i+1) (j:=hC l.bs p l.bs.length) ah ah;have:=h2 ah;omega
theorem cM.W3{l:aP}(h:cM l):yj (fk l.bs l.bs.length):=λi j hij hj=>by
 rw [qd]at hj;rw [lE ah,lE ah];have:=h.mono hij ah;omega
theorem Uh{xs:List Int}{t:Int}:ff xs t<=xs.length/\sM xs t (ff xs t)/\(ff xs t<xs.length->t<=xs.getD (ff xs t) default):=by
 induction xs with
 | nil=>exact⟨by simp [ff],λk hk=>by simp [ff]at hk,λh=>by simp [ff]at h⟩
 | cons x xs ih=>
  obtain⟨h1,h2,h3⟩:=ih
  by_cases hx:x<t
  ·have e:ff (x::xs) t=ff xs t+1:=by simp [ff,hx]
   rw [e];refine⟨by simp;omega,λk hk=>?_,λh=>?_⟩
   ·cases k with
    | zero=>simpa using hx
    | succ k=>have:=h2 k ah;simpa using this
   ·have:=h3 (by simp at h;omega);simpa using this
  ·have e:ff (x::xs) t=0:=by simp [ff,hx]
   rw [e];exact⟨aN,λk hk=>by omega,λ_=>by simp;omega⟩
theorem Wn{l:aP}(h:cM l){p:Int}(h0:0<=p)(h1:p<=b9 l.bs l.bs.length)(i:Nat)(hi:i=ff (fk l.bs l.bs.length) p):i<=l.bs.length/\(i<l.bs.length+1->(fk l.bs l.bs.length).getD i default=b9 l.bs i)/\
 (b9 l.bs i=p->(hC l.bs p l.bs.length:Int)=min (i:Int) (l.bs.length - 1))/\(b9 l.bs i≠p->1<=i/\(hC l.bs p l.bs.length:Int)=min ((i:Int) - 1) (l.bs.length - 1)):=by
 subst hi;obtain⟨a1,a2,a3⟩:=Uh (xs:=fk l.bs l.bs.length) (t:=p);rw [qd]at a1 a3;have hn0:=h.n0;have hile:ff (fk l.bs l.bs.length) p<=l.bs.length:=by
  rcases XC (ff (fk l.bs l.bs.length) p) (l.bs.length+1)with h2|h2
  ·omega
  ·have:=a2 l.bs.length ah;rw [lE (Xf _)]at this;omega
 have a4:=a3 ah;rw [lE hile]at a4;have low:∀ k:Nat,k<ff (fk l.bs l.bs.length) p->b9 l.bs k<p:=λk hk=>by
  have:=a2 k hk;rwa [lE ah]at this
 generalize hi:ff (fk l.bs l.bs.length) p=i at*;refine⟨hile,λh=>lE ah,λhe=>?_,λhne=>?_⟩
 ·by_cases hlast:i=l.bs.length
  ·have hb:hC l.bs p l.bs.length=l.bs.length - 1:=Av h ah (by have:=low (l.bs.length - 1) ah;omega) (λhh=>by omega);rw [hb];omega
  ·have hb:hC l.bs p l.bs.length=i:=Av h ah ah (λhh=>by have:=h.mono (i:=i) (j:=i+1) ah ah;omega);rw [hb];omega
 ·have hi1:1<=i:=by
   rcases Ye i with h2|h2
   ·rw [h2]at hne a4;simp only [b9]at hne a4;omega
   ·exact h2
  have hb:hC l.bs p l.bs.length=i - 1:=Av h ah (by have:=low (i - 1) ah;omega) (λhh=>by rw [show i - 1+1=i by omega];omega);rw [hb];exact⟨hi1,ah⟩
theorem Wp(l:aP)(h:cM l)(p:Int)(h0:0<=p)(h1:p<=b9 l.bs l.bs.length):bN Tryz.prog 82 [il l,mA p] (λq=>q= .tuple [mA (hC l.bs p l.bs.length),mA (p - b9 l.bs (hC l.bs p l.bs.length))]):=by
 refine cw (fn:=Tryz.f82) 40 ai rfl ai aU ?_;intro aF a6 hA aG;have aH:ak aF (.tmp 0)=_:=hA 0 _ rfl;have aI:ak aF (.tmp 1)=_:=hA 1 _ rfl;have aJ:a6.length=0:=by rw [aG];rfl
 clear hA aG;have hn1:=h.n1;have hn0:=h.n0;have hpl:=qd (bs:=l.bs) (n:=l.bs.length);have hpb:=h.nq (n:=l.bs.length) (Xf _);obtain⟨g1,g2,g3,g4⟩:=Wn h h0 h1 _ rfl;obtain⟨b1,_,_⟩:=wS (bs:=l.bs) h0 (n:=l.bs.length) h.n0;have hbp:=h.nq (n:=hC l.bs p l.bs.length) ah;refine au<|at_<|ar (aB ay) rfl<|ar (aB ay) rfl<|bq (ag aH) (ag aI) ?_;clear aH aI;intro a7 an ap
 refine ao<|au<|at_<|ar (al an) rfl<|ar (fK aa) rfl<|ar (ax (bY mK rfl aa) bk) rfl ?_
 refine ar (ax (bF zx rfl aa az) bk) rfl ?_;refine ar (al (aj ap)) rfl<|ar (bh (aE (ae aa) (aE aa aM)) rfl (NR _ _ h.W3 ah) MK) rfl ?_
 refine ar (al aa) rfl<|ar (cI aa rfl) rfl<|ar (cI (ae aa) rfl) rfl<|ar (aB (ae aa)) rfl<|ar (aB (ae aa)) rfl<|bp (ae (ag (aA an))) (ae (ag (aA ap))) (ae aa) aa ?_;clear an ap;intro a8 aK aL aN aO
 refine ao<|au<|au<|at_<|ar (al aO) rfl<|ar (c8 aa) rfl<|bp (ag aK) (ag aL) (ag aN) aa ?_;clear aK aL aN aO;intro a9 ab af am av
 refine ao<|bj av (λad=>?_) (λad=>?_)
 ·replace ad:=dR ad
  (have hf:¬ (ff (fk l.bs l.bs.length) p<(fk l.bs l.bs.length).length /\(fk l.bs l.bs.length).getD (ff (fk l.bs l.bs.length) p) default=p):=(by assumption);have e1:=(g4 (λhe=>hf ⟨ah,by rw [g2 ah];exact he⟩)).2)
  refine at_<|ar (al am) rfl ?_
  (refine ar (eC aa ay ?_) rfl ?_; · (unfold In64;omega))
  refine ar (aB aa) rfl<|bJ (ae (ag ab)) (ae (ag af)) aa ?_;clear ab av af am;intro ba aw aQ aR
  refine ao<|au<|at_<|ar (al aR) rfl<|ar (al (ae aw)) rfl<|ar (fK aa) rfl<|ar (ax (bY jh rfl aa) bk) rfl ?_
  refine ar (ax (bY dO rfl aa) bk) rfl ?_;refine ar (ax (bF FN rfl aa az) bk) rfl ?_;refine ar (ax (ca aa rfl FM.1) b7) rfl ?_
  (refine ar (eC aa ay ?_) rfl ?_; · (unfold In64;omega))
  refine ar (si (ae (ag (aj aa))) aa) rfl<|ar (aB aa) rfl<|bJ (ag (aA aw)) (ag (aA aQ)) aa ?_;clear aw aQ aR;intro bb aS aT aC
  refine ao<|au<|dZ 12 ai ai ai ai ?_
  refine dr (al aC) rfl<|dr (al (ae aT)) rfl<|dr (al (ag aS)) rfl<|dr (fK aa) rfl<|dr (ax (bY mK rfl aa) bk) rfl ?_
  refine dr (ax (bF zx rfl aa az) bk) rfl ?_;refine dr (al (ag (aj aC))) rfl<|dr (ax (cP ry (ae aa) aa ah (by(refine cO ?_;omega))) bk) rfl ?_
  refine dr (ax (bF tR rfl aa az) bk) rfl ?_;refine dr (xm (ae (ag (aj aa))) aa) rfl<|dr (aB (ae (aA aa))) rfl<|dr (aB (ae aa)) rfl<|dC<|bq (ae aa) aa ?_;clear aS aT aC;intro be aX aY
  refine ao<|bg<|eh bm ai (bc aX) (bc aY) (.ro _ rfl) (.ro _ rfl) ?_
  clear aX aY aJ
  (rw [<- e1,XE,lE ah,wrap_in (by unfold In64;omega)])
 replace ad:=dp ad
 (have hf:(ff (fk l.bs l.bs.length) p<(fk l.bs l.bs.length).length /\(fk l.bs l.bs.length).getD (ff (fk l.bs l.bs.length) p) default=p):=(by assumption);have e1:=g3 (by rw [<- g2 ah];exact hf.2))
 refine bC<|ao<|au<|at_<|ar (al am) rfl<|ar (al (ae ab)) rfl<|ar (fK aa) rfl<|ar (ax (bY jh rfl aa) bk) rfl ?_
 refine ar (ax (bY dO rfl aa) bk) rfl ?_;refine ar (ax (bF FN rfl aa az) bk) rfl ?_;refine ar (ax (ca aa rfl FM.1) b7) rfl ?_
 (refine ar (eC aa ay ?_) rfl ?_; · (unfold In64;omega))
 refine ar (si (ae (ag (aj aa))) aa) rfl<|ar (aB aa) rfl<|bJ (ag (aA ab)) (ag (aA af)) aa ?_;clear ab av af am;intro bf aZ a2 aD
 refine ao<|au<|dZ 12 ai ai ai ai ?_
 refine dr (al aD) rfl<|dr (al (ae a2)) rfl<|dr (al (ag aZ)) rfl<|dr (fK aa) rfl<|dr (ax (bY mK rfl aa) bk) rfl ?_
 refine dr (ax (bF zx rfl aa az) bk) rfl ?_;refine dr (al (ag (aj aD))) rfl<|dr (ax (cP ry (ae aa) aa ah (by(refine cO ?_;omega))) bk) rfl ?_
 refine dr (ax (bF tR rfl aa az) bk) rfl ?_;refine dr (xm (ae (ag (aj aa))) aa) rfl<|dr (aB (ae (aA aa))) rfl<|dr (aB (ae aa)) rfl<|dC<|bq (ae aa) aa ?_;clear aZ a2 aD;intro bo a3 a5
 refine ao<|bg<|eh bm ai (bc a3) (bc a5) (.ro _ rfl) (.ro _ rfl) ?_
 clear a3 a5 aJ
 (rw [<- e1,XE,lE ah,wrap_in (by unfold In64;omega)])
theorem H9{m:Int}(hm: -4000000000000000000<=m/\m<=4000000000000000000)(n:Int): -4000000000000000000<=m.tdiv n/\m.tdiv n<=4000000000000000000:=by
 have:=Int.natAbs_tdiv_le_natAbs m n;omega
theorem gY{x y:Int}(X Y:Nat)(hx:x.natAbs<=X)(hy:y.natAbs<=Y):(x*y).natAbs <=X*Y:=by rw [Int.natAbs_mul];exact Nat.mul_le_mul hx hy
theorem gv(n:Nat):((n:Int)+1).toNat =n+1:=by omega
def da(l:aP)(p:Int):Nat:=hC l.bs p l.bs.length
def fD(l:aP)(p:Int):Int:=p - b9 l.bs (da l p)
theorem xW{l:aP}(h:cM l){p:Int}(hp:0<=p/\p<=b9 l.bs l.bs.length):da l p<l.bs.length/\0<=fD l p/\fD l p<=(l.bs.getD (da l p) default).len :=by
 obtain⟨b1,b2,b3⟩:=wS (bs:=l.bs) hp.1 (n:=l.bs.length) h.n0;refine⟨b1,by unfold fD da;omega,?_⟩;unfold fD da
 by_cases hn:hC l.bs p l.bs.length+1<l.bs.length
 ·have:=b3 _ (Nat.lt_succ_self _) hn;simp only [b9]at this;omega
 ·have he:l.bs.length=hC l.bs p l.bs.length+1:=by omega
  have h2:=hp.2;have key:∀ n b:Nat,n=b+1->b9 l.bs n=b9 l.bs b+(l.bs.getD b default).len :=λn b h=>by subst h;rfl
  have:=key _ _ he;omega
theorem Jd(l:aP)(h:cM l)(p:Int)(hp:0<=p/\p<=b9 l.bs l.bs.length):bN Tryz.prog 82 [il l,mA p] (λq=>q= .tuple [mA (da l p),mA (fD l p)]):=Wp l h p hp.1 hp.2
theorem vK:bO Tryz.prog 23 59 4 32 (.agg #[.int .i64 0,.int .i64 0,.int .i64 0,.int .i64 0]):=⟨ai,ai,ai⟩
theorem FO:bO Tryz.prog 24 95 2 16 (.agg #[.int .i64 0,.int .i64 0]):=⟨ai,ai,ai⟩
theorem vL:aQ Tryz.prog 23 false 1:=⟨ai,ai⟩
theorem FP:aQ Tryz.prog 24 false 1:=⟨ai,ai⟩
theorem rN:aQ Tryz.prog 3 false 1:=⟨ai,ai⟩
abbrev uA(n:Int):AV:=.v (.int .u64 n)
theorem NS(x y:Int):x*y=(x/4294967296)*(y/4294967296)*18446744073709551616+(x/4294967296)*(y%4294967296)*4294967296+(x%4294967296)*(y/4294967296)*4294967296+(x%4294967296)*(y%4294967296):=by
 have h1:x=(x/4294967296)*4294967296+x%4294967296:=by omega
 have h2:y=(y/4294967296)*4294967296+y%4294967296:=by omega
 generalize x/4294967296=b at*;generalize x%4294967296=a at*;generalize y/4294967296=d at*;generalize y%4294967296=c at*;subst h1 h2;have e1:b*4294967296*(d*4294967296)=b*d*18446744073709551616:=by
  rw [Yz, <- Yz 4294967296 d,Int.mul_comm 4294967296 d,Yz d, <- Yz b d];rfl
 have e2:b*4294967296*c=b*c*4294967296:=by rw [Yz,Int.mul_comm 4294967296 c, <- Yz]
 have e3:a*(d*4294967296)=a*d*4294967296:=by rw [<- Yz]
 rw [Int.add_mul,Int.mul_add,Int.mul_add,e1,e2,e3];omega
theorem wU{a c:Int}(h1:0<=a/\a<4294967296)(h2:0<=c/\c<4294967296):0<=a*c/\a*c<=18446744065119617025:=by
 have:=gY 4294967295 4294967295 (x:=a) (y:=c) ah ah;have:=YT h1.1 h2.1;omega
theorem QD(x y:Int)(hx:dH x)(hy:dH y):bN Tryz.prog 89 [uA x,uA y] (λq=>q= .tuple [uA (x*y/18446744073709551616),uA (x*y%18446744073709551616)]):=by
 refine cw (fn:=Tryz.f89) 51 ai rfl ai aU ?_;intro az bO hA aC;have aE:ak az (.tmp 0)=_:=hA 0 _ rfl;have aF:ak az (.tmp 1)=_:=hA 1 _ rfl;have bP:bO.length=0:=by rw [aC];rfl
 clear hA aC;have hx':=hx;have hy':=hy;unfold dH at hx' hy';have q1:=wU (a:=x%4294967296) (c:=y%4294967296) ah ah;have q2:=wU (a:=x/4294967296) (c:=y%4294967296) ah ah;have q3:=wU (a:=x%4294967296) (c:=y/4294967296) ah ah;have q4:=wU (a:=x/4294967296) (c:=y/4294967296) ah ah;have hm:=NS x y;refine au<|at_<|ar (aB ay) rfl<|ar (aB ay) rfl<|bq (ag aE) (ag aF) ?_;clear aE aF;intro bQ ab aG
 refine ao<|au<|at_<|ar (al ab) rfl ?_
 (refine ar (Ag (c:=4294967296) aa ay 32 aD aD aD ?_) rfl ?_; · ((unfold dH);omega))
 refine ar (aB aa) rfl<|bJ (ae (ag ab)) (ae (ag aG)) aa ?_;clear ab aG;intro bS ad aH aI
 refine ao<|au<|at_<|ar (al ad) rfl<|ar (sn (c:=4294967296) aa ay aD aD) rfl ?_
 refine ar (aB aa) rfl<|bp (ae (ag ad)) (ae (ag aH)) (ae (ag aI)) aa ?_;clear ad aH aI;intro bT aJ af aK aL
 refine ao<|au<|at_<|ar (al af) rfl ?_
 (refine ar (Ag (c:=4294967296) aa ay 32 aD aD aD ?_) rfl ?_; · ((unfold dH);omega))
 refine ar (aB aa) rfl<|bR (ae (ag aJ)) (ae (ag af)) (ae (ag aK)) (ae (ag aL)) aa ?_;clear aJ af aK aL;intro bV aM am aN aO aP
 refine ao<|au<|at_<|ar (al am) rfl<|ar (sn (c:=4294967296) aa ay aD aD) rfl ?_
 refine ar (aB aa) rfl<|dh (ae (ag aM)) (ae (ag am)) (ae (ag aN)) (ae (ag aO)) (ae (ag aP)) aa ?_;clear aM am aN aO aP;intro bW aQ aR an aS ap aT
 refine ao<|au<|at_<|ar (al an) rfl<|ar (al (ae ap)) rfl ?_
 (refine ar (wE (ae aa) aa ?_) rfl ?_; · ((unfold dH);omega))
 refine ar (aB aa) rfl<|fX (aj aQ) (aj aR) (aj an) (aj aS) (aj ap) (aj aT) aa ?_;clear aQ aR an aS ap aT;intro bY aX aY aZ av a2 a3 a5
 refine ao<|au<|at_<|ar (al av) rfl<|ar (al (ae a2)) rfl ?_
 (refine ar (wE (ae aa) aa ?_) rfl ?_; · ((unfold dH);omega))
 refine ar (al (ae (ag a5))) rfl<|ar (sn (c:=4294967296) aa ay aD aD) rfl ?_
 (refine ar (wC (ag aa) aa ?_) rfl ?_; · ((unfold dH);omega))
 refine ar (aB aa) rfl<|dh (ae (ag (aj aX))) (ae (ag (aj aY))) (ae (ag (aj aZ))) (ae (ag (aj av))) (ae (ag (aj a3))) aa ?_;clear aX a5 aY aZ av a2 a3;intro bZ a6 a7 a8 a9 ba aw
 refine ao<|au<|at_<|ar (al aw) rfl ?_
 (refine ar (Ag (c:=4294967296) aa ay 32 aD aD aD ?_) rfl ?_; · ((unfold dH);omega))
 refine ar (aB aa) rfl<|fX (ae (ag a6)) (ae (ag a7)) (ae (ag a8)) (ae (ag a9)) (ae (ag ba)) (ae (ag aw)) aa ?_;clear a6 aw a7 a8 a9 ba;intro b0 bb be bf bh bj bk bo
 refine ao<|au<|at_<|ar (al bk) rfl<|ar (sn (c:=4294967296) aa ay aD aD) rfl ?_
 refine ar (aB aa) rfl<|fX (ae (ag bb)) (ae (ag be)) (ae (ag bf)) (ae (ag bh)) (ae (ag bj)) (ae (ag bo)) aa ?_;clear bb bk bo be bf bh bj;intro b1 br bu bv bw ax bx bz
 refine ao<|au<|at_<|ar (al bx) rfl<|ar (al (ae bv)) rfl<|ar (al (ag ax)) rfl ?_
 (refine ar (wE (ae aa) aa ?_) rfl ?_; · ((unfold dH);omega))
 (refine ar (wC (ae (ag aa)) aa ?_) rfl ?_; · ((unfold dH);omega))
 refine ar (aB aa) rfl<|dh (ag (aj br)) (ag (aj bu)) (ag (aj bw)) (ag (aj ax)) aa (ag (aj bz)) ?_;clear br bx bz bu bv bw ax;intro b2 bA bB bC bD bE bF
 refine ao<|au<|at_<|ar (al bC) rfl<|ar (al (ae bD)) rfl ?_
 (refine ar (wE (ae aa) aa ?_) rfl ?_; · ((unfold dH);omega))
 refine ar (al (ae (ag bF))) rfl ?_
 (refine ar (wC (ae aa) aa ?_) rfl ?_; · ((unfold dH);omega))
 refine ar (al (ae (aj bE))) rfl<|ar (sn (c:=4294967296) aa ay aD aD) rfl ?_
 (refine ar (wC (ag aa) aa ?_) rfl ?_; · ((unfold dH);omega))
 refine ar (aB aa) rfl<|bJ (ae (aA bA)) (ae (aA bB)) aa ?_;clear bA bE bF bB bC bD;intro b6 bG bH bI
 refine ao<|au<|at_<|ar (al bG) rfl<|ar (al (ae bH)) rfl<|ar (A4 (ae aa) aa) rfl<|ar (aB aa) rfl<|bq (aj bI) aa ?_;clear bG bH bI;intro b7 bL bM
 refine ao<|bg<|eh bm ai (bc bL) (bc bM) (.ro _ rfl) (.ro _ rfl) ?_
 clear bL bM bP
 (rw [PS];refine congrArg (λa=>AV.tuple [uA a,uA (x*y%18446744073709551616)]) ?_;omega)
theorem NT(lo y:Int)(hl:dH lo)(hy:dH y)(h0:0<y):bN Tryz.prog 90 [uA 0,uA lo,uA y] (λq=>q= .tuple [uA (lo/y),uA (lo%y)]):=by
 refine cw (fn:=Tryz.f90) 135 ai rfl ai aU ?_;intro am aP hA aA;have aC:ak am (.tmp 0)=_:=hA 0 _ rfl;have aD:ak am (.tmp 1)=_:=hA 1 _ rfl;have aE:ak am (.tmp 2)=_:=hA 2 _ rfl;have aQ:aP.length=0:=by rw [aA];rfl
 clear hA aA;have hl':=hl;have hy':=hy;unfold dH at hl' hy';refine au<|at_<|ar (aB ay) rfl<|ar (aB ay) rfl<|bJ (ag aC) (ag aD) (ag aE) ?_;clear aC aD aE;intro aS aF aG an
 refine ao<|au<|au<|at_<|ar (al an) rfl<|ar (e6 aa ay) rfl ?_
 refine bp (ag aF) (ag aG) (ag an) aa ?_;clear aF aG an;intro aT ap aH av aI;refine ao<|bj aI (λab=>?_) (λab=>?_)
 ·replace ab:=bt ab;exfalso;omega
 replace ab:=bf ab;refine bC<|ao<|au<|au<|at_<|ar (al av) rfl<|ar (al (ae ap)) rfl<|ar (fA (ae aa) aa) rfl<|bp (ae (ag ap)) (ae (ag aH)) (ae (ag av)) aa ?_;clear ap aH aI av;intro aX aw aJ aK aL
 refine ao<|bj aL (λad=>?_) (λad=>?_)
 ·replace ad:=bt ad;exfalso;omega
 replace ad:=bf ad;refine bC<|ao<|au<|au<|at_<|ar (al aw) rfl<|ar (e6 aa ay) rfl ?_
 refine bp (ag aw) (ag aJ) (ag aK) aa ?_;clear aw aJ aL aK;intro aY aR ax az aM;refine ao<|bj aM (λaf=>?_) (λaf=>?_)
 ·replace af:=bt af;refine au<|dZ 8 ai ai ai ai ?_
  refine dr (al ax) rfl<|dr (al (ae az)) rfl ?_
  (refine dr (Tj (ae aa) aa ah ?_) rfl ?_; · ((unfold dH);omega))
  refine dr (al (ae (ag ax))) rfl<|dr (al (aj az)) rfl ?_
  (refine dr (Tm (ae aa) aa ah ?_) rfl ?_; · ((unfold dH);omega))
  refine dr (aB (ae (ag aa))) rfl<|dr (aB (ae aa)) rfl<|dC<|bq (ae aa) aa ?_;clear aR ax aM az;intro aZ aN aO
  refine ao<|bg<|bS<|eh bm ai (bc aN) (bc aO) (.ro _ rfl) (.ro _ rfl) ?_
  clear aN aO aQ;rfl
 ·replace af:=bf af;exfalso;omega
theorem MN(m n:Int):bN Tryz.prog 88 [mA m,mA n] (λq=>q=mA (if m<n then -1 else if n<m then 1 else 0)):=by
 refine cw (fn:=Tryz.f88) 20 ai rfl ai aU ?_;intro az a3 hA aA;have aC:ak az (.tmp 0)=_:=hA 0 _ rfl;have aD:ak az (.tmp 1)=_:=hA 1 _ rfl;have af:a3.length=0:=by rw [aA];rfl
 clear hA aA;refine au<|at_<|ar (aB ay) rfl<|bq (ae aC) (ae aD) ?_;clear aC aD;intro a5 ah aF
 refine ao<|au<|at_<|ar (al ah) rfl<|ar (bh (aE aa aM) rfl (Au _) zV) rfl<|ar (aB aa) rfl<|bJ (ae (ag ah)) (ae (ag aF)) aa ?_;clear ah aF;intro a6 aG aj aH
 refine ao<|au<|at_<|ar (al aj) rfl<|ar (bh (aE aa aM) rfl (Au _) zV) rfl<|ar (aB aa) rfl<|bp (ae (ag aG)) (ae (ag aj)) (ae (ag aH)) aa ?_;clear aG aj aH;intro a7 aI aJ aK aL
 refine ao<|au<|au<|at_<|ar (al aK) rfl<|bp (ae aI) (ae aJ) (ae aL) aa ?_;clear aI aJ aK aL;intro a8 aN aO aP aQ
 refine ao<|bj aQ (λaR=>?_) (λaR=>?_)
 ·cases aR
 refine bC<|ao<|au<|au<|at_<|ar (al aP) rfl<|bJ (ae aN) (ae aO) aa ?_;clear aN aQ aO aP;intro a9 am an aS
 refine ao<|bj aS (λaT=>?_) (λaT=>?_)
 ·cases aT
 refine bC<|ao<|au<|au<|at_<|ar (al am) rfl<|ar (al (ae an)) rfl<|ar (cU (ae aa) aa) rfl<|bJ (ae (ag am)) (ae (ag an)) aa ?_;clear am aS an;intro ba ap av aw
 refine ao<|bj aw (λab=>?_) (λab=>?_)
 ·replace ab:=bt ab;refine au<|at_<|ar (aB ay) rfl<|aY aa ?_;clear ap aw av;intro bb aX
  refine ao<|bg<|bS<|bL bm ai (bc aX) (.ro _ rfl) ?_
  clear aX af
  (simp_all;try omega)
 replace ab:=bf ab;refine bC<|ao<|au<|au<|at_<|ar (al ap) rfl<|ar (al (ae av)) rfl<|ar (ey (ae aa) aa) rfl<|aY aa ?_;clear ap aw av;intro be ax
 refine ao<|bj ax (λad=>?_) (λad=>?_)
 ·replace ad:=bt ad;refine au<|at_<|ar (aB ay) rfl<|aY aa ?_;clear ax;intro bk aZ
  refine ao<|bg<|bS<|bL bm ai (bc aZ) (.ro _ rfl) ?_
  clear aZ af
  (simp_all;try omega)
 replace ad:=bf ad;refine bC<|ao<|au<|at_<|ar (aB ay) rfl<|aY aa ?_;clear ax;intro bo a2
 refine ao<|bg<|bL bm ai (bc a2) (.ro _ rfl) ?_
 clear a2 af
 (simp_all;try omega)
theorem MO(n:Int):bN Tryz.prog 57 [mA n] (λq=>q=mA (dy (dx n 0 5000) 2)):=by
 refine cw (fn:=Tryz.f57) 6 ai rfl ai aU ?_;intro ah aj hA ab;have ad:ak ah (.tmp 0)=_:=hA 0 _ rfl;have am:aj.length=0:=by rw [ab];rfl
 clear hA ab;refine au<|at_<|ar (aB ay) rfl<|aY (ae ad) ?_;clear ad;intro an af
 refine ao<|au<|at_<|ar (al af) rfl<|ar (bh (aE aa (aE ay (aE ay aM))) rfl (l8 _ _ _) mi) rfl<|ar (bh (aE aa (aE ay aM)) rfl (fa _ _) fc) rfl<|ar (aB aa) rfl<|aY aa ?_;clear af;intro ap ag
 refine ao<|bg<|bL bm ai (bc ag) (.ro _ rfl) ?_
 clear ag am;rfl
def ij(l:aP)(j:Nat):Int:=((l.js.getD (j+1) default).acr - (l.js.getD j default).acr)*(l.bs.getD (j - 1) default).len - ((l.js.getD j default).acr - (l.js.getD (j - 1) default).acr)*(l.bs.getD j default).len
def qU(l:aP)(j:Nat):Int:=(l.bs.getD (j - 1) default).len *(l.bs.getD j default).len
theorem sY(n:Nat):((n:Int) - 1).toNat =n - 1:=by omega
theorem Ui(l:aP)(h:cM l)(j:Nat)(hj:1<=j/\j+2<=l.js.length):bN Tryz.prog 87 [il l,mA j] (λq=>q= .tuple [mA (ij l j),mA (qU l j)]):=by
 refine cw (fn:=Tryz.f87) 79 ai rfl ai aU ?_;intro aC aR hA aD;have aE:ak aC (.tmp 0)=_:=hA 0 _ rfl;have aF:ak aC (.tmp 1)=_:=hA 1 _ rfl;have aS:aR.length=0:=by rw [aD];rfl
 clear hA aD;have hn1:=h.n1;have hn0:=h.n0;have hjs:=h.js;have j1:=h.kV (j - 1) ah;have j2:=h.kV j ah;have j3:=h.kV (j+1) ah;have b1:=h.kU (j - 1) ah;have b2:=h.kU j ah;have m1:=gY (x:=(l.js.getD (j+1) default).acr - (l.js.getD j default).acr) (y:=(l.bs.getD (j - 1) default).len) 40000 30000 ah ah;have m2:=gY (x:=(l.js.getD j default).acr - (l.js.getD (j - 1) default).acr) (y:=(l.bs.getD j default).len) 40000 30000 ah ah;have m3:=gY (x:=(l.bs.getD (j - 1) default).len) (y:=(l.bs.getD j default).len) 30000 30000 ah ah;refine au<|at_<|ar (aB ay) rfl<|ar (aB ay) rfl<|bq (ag aE) (ag aF) ?_;clear aE aF;intro aT ab ad
 refine ao<|au<|dZ 21 ai ai ai ai ?_
 refine dr (al ab) rfl<|dr (fK aa) rfl<|dr (ax (bY jh rfl aa) dc) rfl ?_
 refine dr (ax (bY dO rfl aa) dc) rfl ?_;refine dr (ax (bF FP rfl aa az) dc) rfl ?_;refine dr (al (ae (aj ad))) rfl ?_
 (refine dr (eC aa ay ?_) rfl ?_; · (unfold In64;omega))
 refine dr (ax (cP FO (ag aa) aa ah (by(refine cO ?_;omega))) dc) rfl ?_;refine dr (ax (bY mb rfl aa) dc) rfl ?_;refine dr (ax (bF rN rfl aa az) dc) rfl ?_;refine dr (al (ag (aA ab))) rfl<|dr (fK aa) rfl<|dr (ax (bY jh rfl aa) dc) rfl ?_
 refine dr (ax (bY dO rfl aa) dc) rfl ?_;refine dr (ax (bF FP rfl aa az) dc) rfl ?_;refine dr (al (ae (ag (aj (aA ad))))) rfl<|dr (ax (cP FO (ae aa) aa ah (by(refine eb ?_;omega))) dc) rfl ?_
 refine dr (ax (bY mb rfl aa) dc) rfl ?_;refine dr (ax (bF rN rfl aa az) dc) rfl ?_;refine dr (aB (ae (aA aa))) rfl<|dr (aB (ae aa)) rfl<|dC<|bp (ae (aj (aJ ab))) (ae (aj (aJ ad))) (ae aa) aa ?_;clear ab ad;intro aX af am aG aH
 refine ao<|au<|dZ 21 ai ai ai ai ?_
 refine dr (al af) rfl<|dr (fK aa) rfl<|dr (ax (bY jh rfl aa) dc) rfl ?_
 refine dr (ax (bY dN rfl aa) dc) rfl ?_;refine dr (ax (bF vL rfl aa az) dc) rfl ?_;refine dr (al (ae (aj am))) rfl<|dr (ax (cP vK (ae aa) aa ah (by(refine eb ?_;omega))) dc) rfl ?_
 refine dr (ax (bY iu rfl aa) dc) rfl ?_;refine dr (ax (bF rN rfl aa az) dc) rfl ?_;refine dr (al (ae (aA af))) rfl<|dr (fK aa) rfl<|dr (ax (bY jh rfl aa) dc) rfl ?_
 refine dr (ax (bY dN rfl aa) dc) rfl ?_;refine dr (ax (bF vL rfl aa az) dc) rfl ?_;refine dr (al (ag (aj (aA am)))) rfl ?_
 (refine dr (eC aa ay ?_) rfl ?_; · (unfold In64;omega))
 refine dr (ax (cP vK (ag aa) aa ah (by(refine cO ?_;omega))) dc) rfl ?_;refine dr (ax (bY iu rfl aa) dc) rfl ?_;refine dr (ax (bF rN rfl aa az) dc) rfl ?_
 (refine dr (eC (ag (aA aa)) aa ?_) rfl ?_; · (unfold In64;omega))
 refine dr (aB aa) rfl<|dC<|bR (ae (aj (aJ af))) (ae (aj (aJ am))) (ae (aj (aJ aG))) (ae (aj (aJ aH))) aa ?_;clear af am aG aH;intro aY an ap aI aK aL
 refine ao<|au<|dZ 21 ai ai ai ai ?_
 refine dr (al an) rfl<|dr (fK aa) rfl<|dr (ax (bY jh rfl aa) dc) rfl ?_
 refine dr (ax (bY dN rfl aa) dc) rfl ?_;refine dr (ax (bF vL rfl aa az) dc) rfl ?_;refine dr (al (ae (aj ap))) rfl ?_
 (refine dr (cv aa ay ?_) rfl ?_; · (unfold In64;omega))
 refine dr (ax (cP vK (ag aa) aa ah (by refine eb ?_;(simp only [cS];omega))) dc) rfl ?_;refine dr (ax (bY iu rfl aa) dc) rfl ?_;refine dr (ax (bF rN rfl aa az) dc) rfl ?_;refine dr (al (ag (aA an))) rfl<|dr (fK aa) rfl<|dr (ax (bY jh rfl aa) dc) rfl ?_
 refine dr (ax (bY dN rfl aa) dc) rfl ?_;refine dr (ax (bF vL rfl aa az) dc) rfl ?_;refine dr (al (ae (ag (aj (aA ap))))) rfl<|dr (ax (cP vK (ae aa) aa ah (by(refine eb ?_;omega))) dc) rfl ?_
 refine dr (ax (bY iu rfl aa) dc) rfl ?_;refine dr (ax (bF rN rfl aa az) dc) rfl ?_
 (refine dr (eC (ae (aA aa)) aa ?_) rfl ?_; · (unfold In64;omega))
 refine dr (aB aa) rfl<|dC<|bp (ae (aj (aJ aI))) (ae (aj (aJ aK))) (ae (aj (aJ aL))) aa ?_;clear an ap aI aK aL;intro aZ av aw aM aN
 refine ao<|au<|at_<|ar (al aN) rfl<|ar (al (ae av)) rfl ?_
 (refine ar (fH (ae aa) aa ?_) rfl ?_; · (unfold In64;omega))
 refine ar (al (ae (ag aM))) rfl<|ar (al (aj aw)) rfl ?_
 (refine ar (fH (ae aa) aa ?_) rfl ?_; · (unfold In64;omega))
 (refine ar (eC (ae (ag aa)) aa ?_) rfl ?_; · (unfold In64;omega))
 refine ar (al (ae (ag (aj av)))) rfl<|ar (al (aA aw)) rfl ?_
 (refine ar (fH (ae aa) aa ?_) rfl ?_; · (unfold In64;omega))
 refine ar (aB (ae (ag aa))) rfl<|ar (aB (ae aa)) rfl<|bq (ae aa) aa ?_;clear av aw aM aN;intro a2 aO aQ
 refine ao<|bg<|eh bm ai (bc aO) (bc aQ) (.ro _ rfl) (.ro _ rfl) ?_
 clear aO aQ aS;rfl
theorem NU:∀ args w,(callFunc 87 args).run Tryz.prog w= .ok (.enter 87 args) w:=λ_ _=>by kernel_rfl
theorem NV:∀ args w,(callFunc 88 args).run Tryz.prog w= .ok (.enter 88 args) w:=λ_ _=>by kernel_rfl
theorem NW:∀ args w,(callFunc 89 args).run Tryz.prog w= .ok (.enter 89 args) w:=λ_ _=>by kernel_rfl
theorem NX:∀ args w,(callFunc 90 args).run Tryz.prog w= .ok (.enter 90 args) w:=λ_ _=>by kernel_rfl
theorem FQ:bO Tryz.prog 24 95 2 16 (.agg #[.int .i64 0,.int .i64 0]):=⟨ai,ai,ai⟩
theorem FR:aQ Tryz.prog 24 false 1:=⟨ai,ai⟩
theorem wV:aQ Tryz.prog 3 false 1:=⟨ai,ai⟩
theorem FT:aQ Tryz.prog 95 true 2:=⟨ai,ai⟩
theorem NY(x y:Int)(hx:dH x)(hy:dH y)(h:dH (x*y)):bN Tryz.prog 89 [uA x,uA y] (λq=>q= .tuple [uA 0,uA (x*y)]):=
 (QD x y hx hy).mono λq hq=>by
  unfold dH at h;rw [hq,show x*y/18446744073709551616=0 by omega,show x*y%18446744073709551616=x*y by omega]
def nW(n:Int):Int:=if n<0 then -1 else if 0<n then 1 else 0
def yc(l:aP)(s:Int)(j:Nat):Int:=2000*s+nW (ij l j)*((l.bs.getD (j - 1) default).cant +(l.bs.getD j default).cant)*9810
def J4(l:aP)(s:Int)(j:Nat):Int:=yc l s j*((l.bs.getD (j - 1) default).len +(l.bs.getD j default).len)*qU l j
def sG(l:aP)(s:Int)(j:Nat):Int:=if ij l j=0 then 20000000000 else if yc l s j<0 then 0 else min (J4 l s j/(2*2000*max (ij l j) (-ij l j))) 20000000000
theorem VH{l:aP}(h:cM l){j:Nat}(hj:1<=j/\j+2<=l.js.length):(ij l j).natAbs <=2400000000/\1000000<=qU l j/\qU l j<=900000000:=by
 have hjs:=h.js;have j1:=h.kV (j - 1) ah;have j2:=h.kV j ah;have j3:=h.kV (j+1) ah;have b1:=h.kU (j - 1) ah;have b2:=h.kU j ah;have m1:=gY (x:=(l.js.getD (j+1) default).acr - (l.js.getD j default).acr) (y:=(l.bs.getD (j - 1) default).len) 40000 30000 ah ah;have m2:=gY (x:=(l.js.getD j default).acr - (l.js.getD (j - 1) default).acr) (y:=(l.bs.getD j default).len) 40000 30000 ah ah;have m3:=gY (x:=(l.bs.getD (j - 1) default).len) (y:=(l.bs.getD j default).len) 30000 30000 ah ah;have m4:(1000:Int)*1000<=(l.bs.getD (j - 1) default).len *(l.bs.getD j default).len :=Int.mul_le_mul b1.1 b2.1 ah ah;unfold ij qU;omega
theorem VI{l:aP}(h:cM l){j:Nat}(hj:1<=j/\j+2<=l.js.length){s:Int}(hs:0<=s/\s<=5000):(nW (ij l j)*((l.bs.getD (j - 1) default).cant +(l.bs.getD j default).cant)).natAbs <=600/\(yc l s j).natAbs <=15886000:=by
 have hjs:=h.js;have b1:=h.kU (j - 1) ah;have b2:=h.kU j ah;have m1:=gY (x:=nW (ij l j)) (y:=(l.bs.getD (j - 1) default).cant +(l.bs.getD j default).cant) 1 600 (by unfold nW;split;decide;split<;>decide) ah;unfold yc;omega
theorem NZ(l:aP)(h:cM l)(s:Int)(hs:0<=s/\s<=5000)(j:Nat)(hj:1<=j/\j+2<=l.js.length)(hu:J4 l s j<18446744073709551616):bN Tryz.prog 59 [il l,mA s,mA j] (λq=>q=mA (sG l s j)):=by
 refine cw (fn:=Tryz.f59) 88 ai rfl ai aU ?_;intro aS cD hA bO;have bQ:ak aS (.tmp 0)=_:=hA 0 _ rfl;have bT:ak aS (.tmp 1)=_:=hA 1 _ rfl;have bV:ak aS (.tmp 2)=_:=hA 2 _ rfl;have ab:cD.length=0:=by rw [bO];rfl
 clear hA bO;have hn1:=h.n1;have hn0:=h.n0;have hjs:=h.js;have b1:=h.kU (j - 1) ah;have b2:=h.kU j ah;obtain⟨e1,e2,e3⟩:=VH h hj;obtain⟨e4,e5⟩:=VI h hj hs;refine au<|at_<|ar (aB ay) rfl<|bJ (ae bQ) (ae bT) (ae bV) ?_;clear bQ bT bV;intro cK aT bW a2
 refine ao<|au<|at_<|ar (al aT) rfl<|ar (al (ae a2)) rfl<|ar (bh (aE (ae aa) (aE aa aM)) rfl (Ui l h j hj) NU) rfl<|ar (al aa) rfl<|ar (cI aa rfl) rfl<|ar (cI (ae aa) rfl) rfl<|ar (aB (ae aa)) rfl<|ar (aB (ae aa)) rfl<|bR (aA aT) (aA bW) (aA a2) (ae aa) aa ?_;clear aT bW a2;intro cL bZ b0 b6 a3 b7
 refine ao<|au<|au<|at_<|ar (al a3) rfl<|ar (e6 aa ay) rfl ?_
 refine dh (ag bZ) (ag b0) (ag b6) (ag a3) (ag b7) aa ?_;clear bZ b0 b6 a3 b7;intro cN an a5 ap a6 a7 a8;refine ao<|bj a8 (λad=>?_) (λad=>?_)
 ·replace ad:=bt ad;refine au<|at_<|ar (aB ay) rfl<|aY aa ?_;clear an a5 a8 ap a6 a7;intro cQ b8
  refine ao<|bg<|bS<|bL bm ai (bc b8) (.ro _ rfl) ?_
  clear b8 ab
  (rw [sG,if_pos (by assumption)])
 replace ad:=bf ad;refine bC<|ao<|au<|fZ 20 2 ab ai ai ai ai (λb9 av=>?_)
 have a9:b9[0]? =_:=fS av ab 0 rfl rfl;have ca:b9[1]? =_:=fS av ab 1 rfl rfl;have cE:_=2:=ga (K:=2) av ab;clear av ab;refine aR (λM_ hM_=>(al an)) trivial ?_;refine aR (λM_ hM_=>(fK aa)) trivial ?_;refine aR (λM_ hM_=>(ax (bY jh rfl aa) dc)) trivial ?_;refine aR (λM_ hM_=>(ax (bY dO rfl aa) dc)) trivial ?_;refine aR (λM_ hM_=>(ax (bF FR rfl aa az) dc)) trivial ?_;refine aR (λM_ hM_=>(al (ae (aj ap)))) trivial ?_
 (refine aR (λM_ hM_=>(eC aa ay ?_)) trivial ?_; · ((unfold In64);omega))
 refine aR (λM_ hM_=>(ax (cP FQ (ag aa) aa ah (by(refine cO ?_;omega))) dc)) trivial ?_;refine aR (λM_ hM_=>(ax (bF FT rfl aa az) dc)) trivial ?_;refine aR (λM_ hM_=>(al (ae (aA an)))) trivial ?_;refine aR (λM_ hM_=>(fK aa)) trivial ?_;refine aR (λM_ hM_=>(ax (bY jh rfl aa) dc)) trivial ?_;refine aR (λM_ hM_=>(ax (bY dO rfl aa) dc)) trivial ?_;refine aR (λM_ hM_=>(ax (bF FR rfl aa az) dc)) trivial ?_;refine aR (λM_ hM_=>(al (ag (aj (aA ap))))) trivial ?_;refine aR (λM_ hM_=>(ax (cP FQ (ae aa) aa ah (by(refine eb ?_;omega))) dc)) trivial ?_;refine aR (λM_ hM_=>(ax (bF FT rfl aa az) dc)) trivial ?_;refine kL (0) (λM_ hM_=>(nv xM rfl)) trivial a9 rfl trivial trivial (λcR aF=>?_);have ba:=aZ aF a9;simp only [pS,Value.cells,Nat.reduceAdd,bX,cF,XE,gv,sY]at ba;have bb:=aw aF ca aD;have cG:=aX aF cE;clear aF a9 ca;refine kL (1) (λM_ hM_=>(nv xM rfl)) trivial bb rfl ⟨.inl bo,trivial⟩ ⟨.inl bo,trivial⟩ (λcT aG=>?_);have be:=aZ aG bb;simp only [pS,Value.cells,Nat.reduceAdd,bX,cF,XE,gv,sY]at be;have bk:=aw aG ba aD;have cH:=aX aG cG;clear aG ba bb;refine oZ (0) (λM_ hM_=>(nw (ae aa) (ag (aA aa)) rfl rfl (cn hM_ bk aN) xO rfl az)) trivial ⟨.inr (gV 19 17 ai),⟨.inl bo,trivial⟩⟩ ⟨.inr (gV 19 17 ai),⟨.inl bo,trivial⟩⟩ (λcV aK=>?_);have bq:=aZ aK bk;simp only [pS,Value.cells,Nat.reduceAdd,bX,cF,XE,gv,sY]at bq;have br:=aw aK be aD;have cJ:=aX aK cH;clear aK be bk;refine gn rfl ?_;refine aL (bP (aC aa) (aC (ag aa)) rfl rfl br xO rfl az) trivial rfl (λcW aO=>?_);have af:=aZ aO br;simp only [pS,Value.cells,Nat.reduceAdd,bX,cF,XE,gv,sY]at af;have aQ:=aw aO bq aD;have cb:=aX aO cJ;clear aO bq br;refine bR (aC (aC (ae (ag (aJ a5))))) (aC (aC (ae (ag (aJ a6))))) (aC (aC (ae (ag (aJ a7))))) (aC (aC (ae aa))) (aC (aC aa)) ?_;clear an a5 a8 ap a6 a7;intro cX cc cd ce cf cg;refine ao<|au<|at_<|ar (aB ay) rfl<|dh (ae cc) (ae cd) (ae ce) (ae cf) (ae cg) aa ?_;clear cg cc cd ce cf;intro cY ci bu cj bv bw bx
 refine ao<|au<|dZ 14 ai ai ai ai ?_
 refine dr (al bx) rfl<|dr (al (ae ci)) rfl ?_
 (refine dr (fH (ae aa) aa ?_) rfl ?_; · ((unfold In64);omega))
 refine dr (al (ae (ag bu))) rfl<|dr (bh (aE aa (aE ay aM)) rfl ((MN _ _).mono (λq h=>show q=mA (nW (ij l j))from h)) NV) rfl ?_
 refine dr (aI tJ rfl (ae (aj bv))) rfl<|dr (ax (aH wV rfl aQ aa az) dc) rfl ?_
 refine dr (aI tJ rfl (ae (ag (aj bw)))) rfl<|dr (ax (aH wV rfl af aa az) dc) rfl ?_
 (refine dr (cv (ag aa) aa ?_) rfl ?_; · ((unfold In64);omega))
 (refine dr (fH (ae (aj aa)) aa ?_) rfl ?_; · ((unfold In64);omega))
 (refine dr (fH aa ay ?_) rfl ?_; · ((unfold In64);omega))
 (refine dr (cv (ae (aA aa)) aa ?_) rfl ?_; · ((unfold In64);omega))
 refine dr (aB aa) rfl<|dC<|dh (ag (aj (aA bu))) (ag (aj (aA cj))) (ag (aj (aA bv))) (ag (aj (aA bw))) (ag (aj (aA bx))) aa ?_;clear bw bx ci bu cj bv;intro cZ ck cm co cr cu bz
 refine ao<|au<|au<|at_<|ar (al bz) rfl<|ar (cU aa ay) rfl<|fX (ag ck) (ag cm) (ag co) (ag cr) (ag cu) (ag bz) aa ?_;clear cr cu bz ck cm co;intro c6 bA bB bD bE bG bH bI
 refine ao<|bj bI (λam=>?_) (λam=>?_)
 ·replace am:=bt am;refine au<|at_<|ar (aB ay) rfl<|aY aa ?_;clear bE bG bH bI bA bB bD;intro c7 cx
  refine ao<|bg<|bS<|bL bm ai (bc cx) (.ro _ rfl) ?_
  clear cx af aQ cb
  (rw [sG,if_neg (by assumption),if_pos (by assumption)])
 replace am:=bf am
 (have hh:0<=(2000*s+nW (ij l j)*((l.bs.getD (j - 1) default).cant +(l.bs.getD j default).cant)*9810):=ah;have m1:=gY (x:=(2000*s+nW (ij l j)*((l.bs.getD (j - 1) default).cant +(l.bs.getD j default).cant)*9810)) (y:=((l.bs.getD (j - 1) default).len +(l.bs.getD j default).len)) 15886000 60000 e5 ah;have n1:=YT hh (show 0<=((l.bs.getD (j - 1) default).len +(l.bs.getD j default).len)by omega);have vv1:dH ((2000*s+nW (ij l j)*((l.bs.getD (j - 1) default).cant +(l.bs.getD j default).cant)*9810)*((l.bs.getD (j - 1) default).len +(l.bs.getD j default).len)):=⟨n1,ah⟩;have vv2:dH (qU l j):=⟨ah,ah⟩;have vv3:dH ((2000*s+nW (ij l j)*((l.bs.getD (j - 1) default).cant +(l.bs.getD j default).cant)*9810)*((l.bs.getD (j - 1) default).len +(l.bs.getD j default).len)*qU l j):=⟨YT n1 ah,hu⟩;have vv4:dH (2*2000*max (ij l j) (-ij l j)):=⟨ah,ah⟩;have vv5:0<2*2000*max (ij l j) (-ij l j):=ah;have vv6:=Int.ediv_nonneg vv3.1 (Int.le_of_lt vv5);unfold dH at vv1 vv2 vv4)
 refine bC<|ao<|au<|at_<|ar (al bH) rfl<|ar (aI mb rfl (ae bD)) rfl<|ar (ax (aH wV rfl aQ aa az) dc) rfl ?_
 refine ar (aI mb rfl (ae (ag bE))) rfl<|ar (ax (aH wV rfl af aa az) dc) rfl ?_
 (refine ar (cv (ag aa) aa ?_) rfl ?_; · ((unfold In64);omega))
 (refine ar (fH (ae (aj aa)) aa ?_) rfl ?_; · ((unfold In64);omega))
 (refine ar (xu aa ai ai ?_) rfl ?_; · ((unfold dH);omega))
 refine ar (al (aA bB)) rfl ?_
 (refine ar (xu aa ai ai ?_) rfl ?_; · ((unfold dH);omega))
 refine ar (bh (aE (ag aa) (aE aa aM)) rfl (NY _ _ vv1 vv2 vv3) NW) rfl<|ar (al aa) rfl<|ar (cI aa rfl) rfl<|ar (cI (ae aa) rfl) rfl<|ar (aB (ae aa)) rfl<|ar (aB (ae aa)) rfl<|bp (aJ bA) (aJ bG) (ae aa) aa ?_;clear bE bG bH bI bA bB bD;intro c8 bM cy cz cA
 refine ao<|au<|at_<|ar (al cz) rfl<|ar (al (ae cA)) rfl<|ar (al (ag cy)) rfl ?_
 (refine ar (fH ay aa ?_) rfl ?_; · ((unfold In64);omega))
 refine ar (al (aj bM)) rfl<|ar (al (ae (aj bM))) rfl ?_
 (refine ar (qg aa ?_) rfl ?_; · ((unfold In64);omega))
 refine ar (xn (ag aa) aa) rfl ?_
 (refine ar (fH (aj aa) aa ?_) rfl ?_; · ((unfold In64);omega))
 (refine ar (xu aa ai ai ?_) rfl ?_; · ((unfold dH);omega))
 refine ar (bh (aE (ae (aA aa)) (aE (aA aa) (aE aa aM))) rfl (NT _ _ vv3 vv4 vv5) NX) rfl<|ar (al aa) rfl<|ar (cI aa rfl) rfl<|ar (cI (ae aa) rfl) rfl<|ar (aB (ae aa)) rfl<|ar (aB (ae aa)) rfl<|aY (ae aa) ?_;clear cy cz cA bM;intro c9 cB
 refine ao<|au<|at_<|ar (al cB) rfl<|ar (si aa ay) rfl ?_
 (refine ar (IV aa ai ai ?_) rfl ?_; · ((unfold In64);omega))
 refine ar (aB aa) rfl<|aY aa ?_;clear cB;intro da cC
 refine ao<|bg<|bL bm ai (bc cC) (.ro _ rfl) ?_
 clear cC af aQ cb
 (rw [sG,if_neg (by assumption),if_neg (by assumption)];rfl)
theorem N1:∀ args w,(callFunc 57 args).run Tryz.prog w= .ok (.enter 57 args) w:=λ_ _=>by kernel_rfl
theorem N2:∀ args w,(callFunc 58 args).run Tryz.prog w= .ok (.enter 58 args) w:=λ_ _=>by kernel_rfl
theorem N3:∀ args w,(callFunc 59 args).run Tryz.prog w= .ok (.enter 59 args) w:=λ_ _=>by kernel_rfl
theorem D9:bO Tryz.prog 153 30 1 8 (.int .i64 0):=⟨ai,ai,ai⟩
theorem FU:aQ Tryz.prog 27 true 4:=⟨ai,ai⟩
theorem tU:aQ Tryz.prog 3 false 1:=⟨ai,ai⟩
theorem QE:aQ Tryz.prog 44 true 3:=⟨ai,ai⟩
theorem vM(e:Int):gW [0,e]=e:=by
 by_cases h:e=0<;>simp [gW,h]
def qV(s:Int):Int:=dy (dx s 0 5000) 2
theorem VJ{s:Int}:qV s=0↔0<=s/\s<=5000:=by
 unfold qV dy;rw [<- l7];cases dx s 0 5000<;>simp
def uK(l:aP)(s j:Int):Int:=if qV s=0 then iT j 1 (l.js.length - 2)else qV s
theorem Lj(l:aP)(hl:eo l)(hg:(cx l).2=0)(s j:Int)(hL:0<=s/\s<=5000-> ∀ n:Nat,1<=n/\n+2<=l.js.length->bN Tryz.prog 59 [il l,mA s,mA n] (λq=>q=mA (sG l s n))):bN Tryz.prog 24 [dL l,mA s,mA j] (λq=>q= .tuple [mA (if uK l s j=0 then sG l s j.toNat else 0),mA (uK l s j)]):=by
 refine cw (fn:=Tryz.f24) 34 ai rfl ai aU ?_;intro av bE hA aT;have aX:ak av (.tmp 0)=_:=hA 0 _ rfl;have aY:ak av (.tmp 1)=_:=hA 1 _ rfl;have aZ:ak av (.tmp 2)=_:=hA 2 _ rfl;have aw:bE.length=0:=by rw [aT];rfl
 clear hA aT;have h:=kJ hg;have hn1:=h.n1;have hn0:=h.n0;have hjs:=h.js;refine au<|at_<|aL (cZ aX rfl aw) trivial rfl (λbF aA=>?_)
 have am:=bu aA aw;have ab:=br aA aw;have ab:_=1:=ab;clear aA;refine ar (aB ay) rfl<|ar (aB ay) rfl<|bJ (ae (ag aY)) (ae (ag aZ)) (ag aa) ?_;clear aX aY aZ;intro bG a2 a3 a5
 refine ao<|au<|at_<|ar (ax (aH FU rfl am a5 az) bk) rfl ?_
 refine ar (bh (aE aa aM) rfl (ri l hl hg) qp) rfl<|ar (al aa) rfl<|ar (cI aa rfl) rfl<|ar (cI (ae aa) rfl) rfl<|ar (aB (ae aa)) rfl<|ar (aB (ae aa)) rfl<|bp (ae (ag (aj a2))) (ae (ag (aj a3))) (ae aa) aa ?_;clear a2 a3 a5;intro bH aC a6 a7 a8
 refine ao<|au<|au<|at_<|ar (al a8) rfl<|ar (al (ae aC)) rfl<|ar (bh (aE aa aM) rfl (MO _) N1) rfl<|ar (ez D9 (bB (ag aa) (bB aa b8)) rfl rfl rfl rfl) rfl<|ar (bh (aE aa aM) rfl ((pX [_,_] aN).mono (λq h=>h.trans (show mA (gW [0,dy (dx s 0 5000) 2])=mA (qV s)from congrArg mA (vM _)))) qq) rfl ?_
 refine ar (aB aa) rfl<|bp (ag (aj aC)) (ag (aj a6)) (ag (aj a7)) aa ?_;clear aC a6 a7 a8;intro bI a9 ba bb aD
 refine ao<|au<|at_<|ar (al aD) rfl<|ar (dB aa ay) rfl<|bR (ag a9) (ag ba) (ag bb) (ag aD) aa ?_;clear a9 ba bb aD;intro bL aF an ap aG aI
 refine ao<|bj aI (λad=>?_) (λad=>?_)
 ·replace ad:=dR ad;refine au<|at_<|ar (al aG) rfl<|ar (aB ay) rfl<|ar (aB (ae aa)) rfl<|bq (ae aa) aa ?_;clear aF aI an ap aG;intro bM be bf
  refine ao<|bg<|bS<|eh bm ai (bc be) (bc bf) (.ro _ rfl) (.ro _ rfl) ?_
  clear be bf am ab
  (have hs:¬ qV s=0:=(by assumption);simp [uK,hs])
 replace ad:=dp ad
 (have hs:qV s=0:=(by assumption);have hs2:=VJ.1 hs)
 refine bC<|ao<|au<|au<|at_<|ar (al ap) rfl<|ar (al (ae an)) rfl<|ar (bh (aE (ae aa) (aE aa aM)) rfl (Lh l h _) N2) rfl<|ar (aB aa) rfl<|bp (aj aF) (aj an) (aj ap) aa ?_;clear aF aI an ap aG;intro bO bo bv bw aJ
 refine ao<|au<|at_<|ar (al aJ) rfl<|ar (dB aa ay) rfl<|bR (ag bo) (ag bv) (ag bw) (ag aJ) aa ?_;clear aJ bo bv bw;intro bP aK aO aQ aR aS
 refine ao<|bj aS (λaf=>?_) (λaf=>?_)
 ·replace af:=dR af;refine au<|at_<|ar (al aR) rfl<|ar (aB ay) rfl<|ar (aB (ae aa)) rfl<|bq (ae aa) aa ?_;clear aR aK aS aO aQ;intro bQ bx bz
  refine ao<|bg<|bS<|eh bm ai (bc bx) (bc bz) (.ro _ rfl) (.ro _ rfl) ?_
  clear bx bz am ab
  (have hm:¬ iT j 1 (l.js.length - 2)=0:=(by assumption);simp [uK,hs,hm])
 replace af:=dp af
 (have hm:iT j 1 (l.js.length - 2)=0:=(by assumption);have hm2:=Bo.1 hm;have lm:=hL hs2 j.toNat ah;rw [show((j.toNat:Nat):Int)=j by omega]at lm)
 refine bC<|ao<|au<|at_<|ar (al aQ) rfl<|ar (al (ae aK)) rfl<|ar (al (ag aO)) rfl<|ar (bh (aE (ag aa) (aE (ae aa) (aE aa aM))) rfl (lm) N3) rfl<|ar (aB aa) rfl<|ar (aB ay) rfl<|bq (ae aa) aa ?_;clear aR aK aS aO aQ;intro bT bA bD
 refine ao<|bg<|eh bm ai (bc bA) (bc bD) (.ro _ rfl) (.ro _ rfl) ?_
 clear bA bD am ab;simp [uK,hs,hm]
abbrev mz(L c s:Int):AV:=.agg [mA L,mA c,mA s]
def gB(L c s:Int):Int:=dy (dx L 1000 30000&&dx c 0 1000&&dx s 100 30000) 2
theorem uv{L c s:Int}:gB L c s=0↔(1000<=L/\L<=30000)/\(0<=c/\c<=1000)/\100<=s/\s<=30000:=by
 unfold gB dy;rw [<- l7, <- l7, <- l7];cases dx L 1000 30000<;>cases dx c 0 1000<;>cases dx s 100 30000<;>simp
theorem CL(L c s:Int):bN Tryz.prog 46 [mz L c s] (λq=>q=mA (gB L c s)):=by
 refine cw (fn:=Tryz.f46) 17 ai rfl ai aU ?_;intro aK aN hA av;have aw:ak aK (.tmp 0)=_:=hA 0 _ rfl;have an:aN.length=0:=by rw [av];rfl
 clear hA av;refine au<|at_<|aL (cZ aw rfl an) trivial rfl (λaQ ap=>?_)
 have af:=bu ap an;have am:=br ap an;have am:_=1:=am;clear ap;refine ar (aB ay) rfl<|aY (ae aa) ?_;clear aw;intro aR ah
 refine ao<|au<|at_<|ar (aI nA rfl ah) rfl<|ar (ax (aH tU rfl af aa az) bk) rfl ?_
 refine ar (bh (aE aa (aE ay (aE ay aM))) rfl (l8 _ _ _) mi) rfl<|ar (al aa) rfl<|bQ aa (λab aO=>?_) (λab aO=>?_)
 ·skip;refine aG (aI oN rfl (aj ah)) ⟨_,rfl,ab⟩ rfl ?_;refine aG (ax (aH tU rfl af aa az) bk) ⟨_,rfl,(ae ab)⟩ rfl ?_;refine aG (bh (aE aa (aE ay (aE ay aM))) rfl (l8 _ _ _) mi) ⟨_,rfl,(ag ab)⟩ rfl ?_;refine ar (bD (ae (ag ab)) aa) rfl<|ar (al aa) rfl<|bQ aa (λad aP=>?_) (λad aP=>?_)
  ·skip;refine aG (aI tH rfl (ae (aA ah))) ⟨_,rfl,ad⟩ rfl ?_;refine aG (ax (aH tU rfl af aa az) bk) ⟨_,rfl,(ae ad)⟩ rfl ?_;refine aG (bh (aE aa (aE ay (aE ay aM))) rfl (l8 _ _ _) mi) ⟨_,rfl,(ag ad)⟩ rfl ?_;refine ar (bD (ae (ag ad)) aa) rfl<|ar (bh (aE aa (aE ay aM)) rfl (fa _ _) fc) rfl<|ar (aB aa) rfl<|aY aa ?_;clear ab ad ah;intro aS aC
   refine ao<|bg<|bL bm ai (bc aC) (.ro _ rfl) ?_
   clear aC af am
   (unfold gB;simp_all)
  refine aF ⟨_,rfl,.inl ad⟩ rfl ?_;refine aF ⟨_,rfl,.inl (ae ad)⟩ rfl ?_;refine aF ⟨_,rfl,.inl (ag ad)⟩ rfl ?_;refine ar (bG (ae (ag ad)) ay) rfl<|ar (bh (aE aa (aE ay aM)) rfl (fa _ _) fc) rfl<|ar (aB aa) rfl<|aY aa ?_;clear ab ad ah;intro aT aD
  refine ao<|bg<|bL bm ai (bc aD) (.ro _ rfl) ?_
  clear aD af am
  (unfold gB;simp_all)
 refine aF ⟨_,rfl,.inl ab⟩ rfl ?_;refine aF ⟨_,rfl,.inl (ae ab)⟩ rfl ?_;refine aF ⟨_,rfl,.inl (ag ab)⟩ rfl ?_;refine ar (bG (ae (ag ab)) ay) rfl<|ar (al aa) rfl<|aF ⟨_,rfl,.inl aa⟩ rfl ?_
 refine aF ⟨_,rfl,.inl (ae aa)⟩ rfl ?_;refine aF ⟨_,rfl,.inl (ag aa)⟩ rfl ?_;refine ar (bG (ae (ag aa)) ay) rfl<|ar (bh (aE aa (aE ay aM)) rfl (fa _ _) fc) rfl<|ar (aB aa) rfl<|aY aa ?_;clear ab ah;intro aX aJ
 refine ao<|bg<|bL bm ai (bc aJ) (.ro _ rfl) ?_
 clear aJ af am
 (unfold gB;simp_all)
def sH(l:aP)(L s p:Int):Int:=dy (dx p 0 (b9 l.bs l.bs.length - L)&&decide (p.tmod s=0)) 6
theorem VK{l:aP}{L s p:Int}:sH l L s p=0↔(0<=p/\p<=b9 l.bs l.bs.length - L)/\p.tmod s=0:=by
 unfold sH dy;rw [<- l7];cases dx p 0 (b9 l.bs l.bs.length - L)<;>by_cases h:p.tmod s=0<;>simp [h]
theorem KX(l:aP)(hl:eo l)(hg:(cx l).2=0)(L c s p:Int)(hv:gB L c s=0):bN Tryz.prog 60 [dL l,mz L c s,mA p] (λq=>q= .tuple [il l,mA (sH l L s p)]):=by
 refine cw (fn:=Tryz.f60) 39 ai rfl ai aU ?_;intro aD bx hA aS;have aT:ak aD (.tmp 0)=_:=hA 0 _ rfl;have aX:ak aD (.tmp 1)=_:=hA 1 _ rfl;have aY:ak aD (.tmp 2)=_:=hA 2 _ rfl;have aF:bx.length=0:=by rw [aS];rfl
 clear hA aS;have hf:gW [0,gB L c s]=gB L c s:=vM _;have hv2:=uv.1 hv;have h:=kJ hg;have hpb:=h.nq (n:=l.bs.length) (Xf _);refine au<|at_<|aL (cZ aT rfl aF) trivial rfl (λbA aG=>?_)
 have aZ:=bu aG aF;have ad:=br aG aF;have ad:_=1:=ad;clear aG;refine aL (cZ (ae aX) rfl ad) trivial rfl (λbE an=>?_);have af:=bu an ad;have aJ:=aK an aZ;have ap:=br an ad;have ap:_=2:=ap;clear an aZ;refine ar (aB ay) rfl<|ar (aB ay) rfl<|bJ (aj aY) (ae (ag aa)) (ag aa) ?_;clear aT aX aY;intro bF a2 a3 a5
 refine ao<|au<|at_<|ar (ax (aH FU rfl aJ a3 az) bk) rfl ?_
 refine ar (bh (aE aa aM) rfl (ri l hl hg) qp) rfl<|ar (al aa) rfl<|ar (cI aa rfl) rfl<|ar (cI (ae aa) rfl) rfl<|ar (aB (ae aa)) rfl<|ar (aB (ae aa)) rfl<|bp (ae (ag (aj a2))) (ae (ag (aj a5))) (ae aa) aa ?_;clear a2 a3 a5;intro bH a6 aO a7 a8
 refine ao<|au<|au<|at_<|ar (al a8) rfl<|ar (ax (aH QE rfl af (ae aO) az) bk) rfl ?_
 refine ar (bh (aE aa aM) rfl (CL L c s) IA) rfl<|ar (ez D9 (bB (ag aa) (bB aa b8)) rfl rfl rfl rfl) rfl<|ar (bh (aE aa aM) rfl ((pX [_,_] aN).mono (λq h=>h.trans (by rw [hf]))) qq) rfl ?_
 refine ar (aB aa) rfl<|bp (ag (aj a6)) (ag (aj aO)) (ag (aj a7)) aa ?_;clear a6 aO a7 a8;intro bI a9 ba bb aQ
 refine ao<|au<|at_<|ar (al aQ) rfl<|ar (dB aa ay) rfl<|bR (ag a9) (ag ba) (ag bb) (ag aQ) aa ?_;clear a9 ba bb aQ;intro bL av aw aC be aR
 refine ao<|bj aR (λam=>?_) (λam=>?_)
 ·replace am:=dR am;exfalso;omega
 replace am:=dp am;refine bC<|ao<|au<|dZ 18 ai ai ai ai ?_
 refine dr (al aC) rfl<|dr (al (ae av)) rfl<|dr (al (ag aC)) rfl<|dr (bh (aE aa aM) rfl (D8 l h) ID) rfl<|dr (aI nA rfl (aj aw)) rfl<|dr (ax (aH tU rfl af aa az) bk) rfl ?_
 (refine dr (eC (ag aa) aa ?_) rfl ?_; · (unfold In64;omega))
 refine dr (bh (aE (ae (aj aa)) (aE ay (aE aa aM))) rfl (l8 _ _ _) mi) rfl<|dr (al aa) rfl<|gh aa (λab bz=>?_) (λab bz=>?_)
 ·skip;refine cD (al (ae (aA av))) ⟨_,rfl,ab⟩ rfl ?_;refine cD (aI tH rfl (ag (aA aw))) ⟨_,rfl,(ae ab)⟩ rfl ?_;refine cD (ax (aH tU rfl af aa az) bk) ⟨_,rfl,(ag ab)⟩ rfl ?_;refine cD (A6 (ag aa) aa ah) ⟨_,rfl,(ae (ag ab))⟩ rfl ?_;refine cD (e6 aa ay) ⟨_,rfl,(aj ab)⟩ rfl ?_;refine dr (bD (ae (aj ab)) aa) rfl<|dr (bh (aE aa (aE ay aM)) rfl (fa _ _) fc) rfl<|dr (aB (ae (ag (aj (aA aa))))) rfl<|dr (aB (ae aa)) rfl<|dC<|bq (ae aa) aa ?_;clear ab aR av aw aC be;intro bM bf bo
  refine ao<|bg<|eh bm ai (bc bf) (bc bo) (.ro _ rfl) (.ro _ rfl) ?_
  clear bf bo af aJ ap
  (unfold sH;simp_all)
 refine bW ⟨_,rfl,.inl ab⟩ rfl ?_;refine bW ⟨_,rfl,.inl (ae ab)⟩ rfl ?_;refine bW ⟨_,rfl,.inl (ag ab)⟩ rfl ?_;refine bW ⟨_,rfl,.inl (ae (ag ab))⟩ rfl ?_;refine bW ⟨_,rfl,.inl (aj ab)⟩ rfl ?_;refine dr (bG (ae (aj ab)) ay) rfl<|dr (bh (aE aa (aE ay aM)) rfl (fa _ _) fc) rfl<|dr (aB (ae (ag (aj (aA aa))))) rfl<|dr (aB (ae aa)) rfl<|dC<|bq (ae aa) aa ?_;clear ab aR av aw aC be;intro bO bv bw
 refine ao<|bg<|eh bm ai (bc bv) (bc bw) (.ro _ rfl) (.ro _ rfl) ?_
 clear bv bw af aJ ap
 (unfold sH;simp_all)
theorem JP{n k:Int}(hk:1<=k):(n.tmod k<0->n.tdiv k - 1=n/k)/\(¬ n.tmod k<0->n.tdiv k=n/k):=by
 have h1:=Int.mul_tdiv_add_tmod n k;have h2:n.tmod k<k:=Int.tmod_lt_of_pos n ah;have h3: -k<n.tmod k:=Int.lt_tmod_of_pos n ah
 constructor
 ·intro h;have:=(Int.ediv_emod_unique (a:=n) (b:=k) (r:=n.tmod k+k) (q:=n.tdiv k - 1) ah).2 ⟨by rw [Int.mul_sub];omega,ah,ah⟩;exact this.1.symm
 ·intro h;have:=(Int.ediv_emod_unique (a:=n) (b:=k) (r:=n.tmod k) (q:=n.tdiv k) ah).2 ⟨ah,ah,h2⟩;exact this.1.symm
theorem Ea(n k:Int)(hk:1<=k)(hn: -4000000000000000000<=n/\n<=4000000000000000000):bN Tryz.prog 83 [mA n,mA k] (λq=>q=mA (n/k)):=by
 have hb:=H9 hn k;have hf:=JP (n:=n) hk;refine cw (fn:=Tryz.f83) 16 ai rfl ai aU ?_;intro an aG hA ap;have av:ak an (.tmp 0)=_:=hA 0 _ rfl;have aw:ak an (.tmp 1)=_:=hA 1 _ rfl;have ax:aG.length=0:=by rw [ap];rfl
 clear hA ap;refine au<|at_<|ar (aB ay) rfl<|bq (ae av) (ae aw) ?_;clear av aw;intro aH af ag
 refine ao<|au<|at_<|ar (al af) rfl<|ar (al (ae ag)) rfl ?_
 (refine ar (S5 (ae aa) aa ah ?_) rfl ?_; · (unfold In64;omega))
 refine ar (aB aa) rfl<|bJ (aj af) (aj ag) aa ?_;clear af ag;intro aI az aA aC
 refine ao<|au<|au<|at_<|ar (al az) rfl<|ar (al (ae aA)) rfl<|ar (A6 (ae aa) aa ah) rfl ?_
 refine ar (cU aa ay) rfl<|bq (aj aC) aa ?_;clear az aA aC;intro aJ ad am
 refine ao<|bj am (λab=>?_) (λab=>?_)
 ·replace ab:=bt ab;refine at_<|ar (al ad) rfl ?_
  (refine ar (eC aa ay ?_) rfl ?_; · (unfold In64;omega))
  refine ar (aB aa) rfl<|aY aa ?_;clear am ad;intro aK aD
  refine ao<|au<|at_<|ar (al aD) rfl<|ar (aB aa) rfl<|aY aa ?_;clear aD;intro aL aE
  refine ao<|bg<|bL bm ai (bc aE) (.ro _ rfl) ?_
  clear aE ax
  (refine nk ?_;exact hf.1 (by assumption))
 replace ab:=bf ab;refine bC<|ao<|au<|at_<|ar (al ad) rfl<|ar (aB aa) rfl<|aY aa ?_;clear am ad;intro aM aF
 refine ao<|bg<|bL bm ai (bc aF) (.ro _ rfl) ?_
 clear aF ax
 (refine nk ?_;exact hf.2 (by assumption))
def qO(ws:List Int)(i:Nat)(d:Int):List Int:=ws.set i (ws.getD i default+d)
def lq(ws:List Int)(i:Nat)(d:Int):List Int:=ws.set i (ws.getD i default - d)
theorem jP(ws:List Int)(i:Nat)(d:Int):ws.set i (ws.getD i default+d)=qO ws i d:=rfl
theorem jQ(ws:List Int)(i:Nat)(d:Int):ws.set i (ws.getD i default - d)=lq ws i d:=rfl
def eS(ws:List Int):Nat->Nat
 | 0=>0
 | n+1=>eS ws n+(ws.getD n default).natAbs
theorem yY{ws:List Int}{m:Nat}:∀ {n:Nat},m<=n->eS ws m<=eS ws n
 | 0,h=>by
  obtain rfl:m=0:=by omega
  exact Xf _
 | n+1,h=>by
  by_cases hm:m=n+1
  ·subst hm;exact Xf _
  ·have:=yY (ws:=ws) (m:=m) (n:=n) ah;simp only [eS];omega
theorem tm{ws:List Int}{n i:Nat}(h:i<n):(ws.getD i default).natAbs <=eS ws n:=by
 have:=yY (ws:=ws) (m:=i+1) (n:=n) ah;simp only [eS]at this;omega
theorem N4(ws:List Int)(i j:Nat)(v:Int):(ws.set i v).getD j default=if i=j/\j<ws.length then v else ws.getD j default:=by
 rw [Xc,List.getElem?_set]
 by_cases h:i=j
 ·subst h
  by_cases hl:i<ws.length
  ·simp [hl]
  ·simp [hl]
 ·simp [h]
theorem zy(ws:List Int)(i:Nat)(v:Int):∀ n:Nat,eS (ws.set i v) n<=eS ws n+if i<n then(v - ws.getD i default).natAbs else 0
 | 0=>by simp [eS]
 | n+1=>by
  have ih:=zy ws i v n;simp only [eS];rw [N4]
  by_cases h:i=n
  ·subst h;rw [if_neg ah]at ih;rw [if_pos (show i<i+1 by omega)]
   split<;>omega
  ·rw [if_neg (λhc=>h hc.1)]
   by_cases h2:i<n
   ·rw [if_pos h2]at ih;rw [if_pos ah];omega
   ·rw [if_neg h2]at ih;rw [if_neg ah];omega
theorem QF{ws:List Int}{i n A B:Nat}{d:Int}(h:eS ws n<=A)(hd:d.natAbs<=B):eS (qO ws i d) n<=A+B:=by
 have:=zy ws i (ws.getD i default+d) n;unfold qO
 split at this<;>omega
theorem vN{ws:List Int}{i n A B:Nat}{d:Int}(h:eS ws n<=A)(hd:d.natAbs<=B):eS (lq ws i d) n<=A+B:=by
 have:=zy ws i (ws.getD i default - d) n;unfold lq
 split at this<;>omega
theorem FV(m:Nat):∀ n:Nat,eS (List.replicate m 0) n=0
 | 0=>rfl
 | n+1=>by
  simp only [eS,FV m n];rw [Xc,List.getElem?_replicate]
  split<;>rfl
theorem N5(ws:List Int)(i:Nat)(d:Int):(qO ws i d).length =ws.length:=by simp [qO]
theorem vp(ws:List Int)(i:Nat)(d:Int):(lq ws i d).length =ws.length:=by simp [lq]
def kh(l:aP)(L p:Int):Int:=(l.bs.getD (da l p) default).len *(l.bs.getD (da l (p+L)) default).len *L
def nX(l:aP)(L p:Int)(j:Nat):List Int:=qO (List.replicate l.js.length 0) j (kh l L p)
def nY(l:aP)(L p:Int)(j:Nat):List Int:=lq (nX l L p j) (da l p) ((L - (b9 l.bs j - p))*((l.bs.getD (da l p) default).len - fD l p)*(l.bs.getD (da l (p+L)) default).len)
def nZ(l:aP)(L p:Int)(j:Nat):List Int:=lq (nY l L p j) (da l p+1) ((L - (b9 l.bs j - p))*fD l p*(l.bs.getD (da l (p+L)) default).len)
def oa(l:aP)(L p:Int)(j:Nat):List Int:=lq (nZ l L p j) (da l (p+L)) ((b9 l.bs j - p)*((l.bs.getD (da l (p+L)) default).len - fD l (p+L))*(l.bs.getD (da l p) default).len)
def ki(l:aP)(L p:Int)(j:Nat):List Int:=lq (oa l L p j) (da l (p+L)+1) ((b9 l.bs j - p)*fD l (p+L)*(l.bs.getD (da l p) default).len)
theorem FW{l:aP}{L p:Int}{j:Nat}:(nX l L p j).length =l.js.length:=by simp [nX,N5]
theorem FX{l:aP}{L p:Int}{j:Nat}:(nY l L p j).length =l.js.length:=by simp [nY,vp,FW]
theorem FY{l:aP}{L p:Int}{j:Nat}:(nZ l L p j).length =l.js.length:=by simp [nZ,vp,FX]
theorem FZ{l:aP}{L p:Int}{j:Nat}:(oa l L p j).length =l.js.length:=by simp [oa,vp,FY]
theorem Uj{l:aP}{L p:Int}{j:Nat}:(ki l L p j).length =l.js.length:=by simp [ki,vp,FZ]
structure Pos (l:aP) (L p:Int) (j:Nat):Prop where
 L0:1000<=L
 L1:L<=30000
 p0:0<=p
 p1:p+L<=b9 l.bs l.bs.length
 j0:p<=b9 l.bs j
 j1:b9 l.bs j<=p+L
 jn:j<l.js.length
theorem Pos.bd{l:aP}(h:cM l){L p:Int}{j:Nat}(q:Pos l L p j):1<=kh l L p/\kh l L p<=27000000000000/\((L - (b9 l.bs j - p))*((l.bs.getD (da l p) default).len - fD l p)*(l.bs.getD (da l (p+L)) default).len).natAbs <=27000000000000/\
 ((L - (b9 l.bs j - p))*fD l p*(l.bs.getD (da l (p+L)) default).len).natAbs <=27000000000000/\((b9 l.bs j - p)*((l.bs.getD (da l (p+L)) default).len - fD l (p+L))*(l.bs.getD (da l p) default).len).natAbs <=27000000000000/\((b9 l.bs j - p)*fD l (p+L)*(l.bs.getD (da l p) default).len).natAbs <=27000000000000:=by
 obtain⟨L0,L1,p0,p1,j0,j1,jn⟩:=q;obtain⟨a1,a2,a3⟩:=xW h (p:=p) ⟨p0,ah⟩;obtain⟨b1,b2,b3⟩:=xW h (p:=p+L) ⟨ah,p1⟩;have c1:=h.kU _ a1;have c2:=h.kU _ b1;have t:∀ {x y z:Int},x.natAbs<=30000->y.natAbs<=30000->z.natAbs<=30000->(x*y*z).natAbs <=27000000000000:=λh1 h2 h3=>gY (30000*30000) 30000 (gY 30000 30000 h1 h2) h3
 have d0:=t (x:=(l.bs.getD (da l p) default).len) (y:=(l.bs.getD (da l (p+L)) default).len) (z:=L) ah ah ah;have d1:0<kh l L p:=Int.mul_pos (Int.mul_pos ah ah) ah;refine⟨ah,by unfold kh at d1 ⊢;omega,t ah ah ah,t ah ah ah,t ah ah ah,t ah ah ah⟩
theorem Pos.abs{l:aP}(h:cM l){L p:Int}{j:Nat}(q:Pos l L p j):eS (nX l L p j) l.js.length<=27000000000000/\eS (nY l L p j) l.js.length<=54000000000000/\eS (nZ l L p j) l.js.length<=81000000000000/\eS (oa l L p j) l.js.length<=108000000000000/\eS (ki l L p j) l.js.length<=135000000000000:=by
 obtain⟨d0,d1,d2,d3,d4,d5⟩:=q.bd h;have e0:eS (List.replicate l.js.length 0) l.js.length<=0:=by rw [FV];exact Xf _
 have e1:eS (nX l L p j) l.js.length<=0+27000000000000:=QF e0 ah;have e2:eS (nY l L p j) l.js.length<=0+27000000000000+27000000000000:=vN e1 d2;have e3:eS (nZ l L p j) l.js.length<=0+27000000000000+27000000000000+27000000000000:=vN e2 d3;have e4:eS (oa l L p j) l.js.length<=0+27000000000000+27000000000000+27000000000000+27000000000000:=vN e3 d4;have e5:eS (ki l L p j) l.js.length<=0+27000000000000+27000000000000+27000000000000+27000000000000+27000000000000:=vN e4 d5;omega
def iU(f:Int->ep->Int)(ws:List Int)(js:List ep):Nat->Int
 | 0=>0
 | n+1=>iU f ws js n+f (ws.getD n default) (js.getD n default)
def lB(w:Int)(j:ep):Int:=w*j.acr+min (w*j.lo) (w*j.hi)
def lC(w:Int)(j:ep):Int:=w*j.acr+max (w*j.lo) (w*j.hi)
theorem JQ{w:Int}{j:ep}{A:Nat}(hw:w.natAbs<=A)(h1: -20000<=j.acr/\j.acr<=20000)(h2: -100<=j.lo/\j.hi<=100/\j.lo<=j.hi):(lB w j).natAbs <=20100*A/\(lC w j).natAbs <=20100*A/\(w*j.acr).natAbs <=A*20000/\(w*j.lo).natAbs <=A*100/\(w*j.hi).natAbs <=A*100:=by
 have m1:=gY (x:=w) (y:=j.acr) A 20000 hw ah;have m2:=gY (x:=w) (y:=j.lo) A 100 hw ah;have m3:=gY (x:=w) (y:=j.hi) A 100 hw ah;unfold lB lC;omega
theorem Ia{l:aP}(h:cM l){f:Int->ep->Int}(hf:f=lB\/f=lC){ws:List Int}:∀ {n:Nat},n<=l.js.length->(iU f ws l.js n).natAbs <=20100*eS ws n
 | 0,_=>by simp [iU]
 | n+1,hn=>by
  have ih:=Ia h hf (ws:=ws) (n:=n) ah;have j1:=h.kV n ah;have:=JQ (w:=ws.getD n default) (j:=l.js.getD n default) (Xf _) j1.1 ⟨j1.2.2.1,j1.2.2.2.1,j1.2.2.2.2⟩;simp only [iU,eS];rcases hf with rfl|rfl<;>omega
def na(l:aP)(L p:Int)(j:Nat):Int:=iU lB (ki l L p j) l.js l.js.length/kh l L p
def nc(l:aP)(L p:Int)(j:Nat):Int:= -(-iU lC (ki l L p j) l.js l.js.length/kh l L p)
theorem Eb:∀ args w,(callFunc 82 args).run Tryz.prog w= .ok (.enter 82 args) w:=λ_ _=>by kernel_rfl
theorem Ec:∀ args w,(callFunc 83 args).run Tryz.prog w= .ok (.enter 83 args) w:=λ_ _=>by kernel_rfl
theorem F2:bO Tryz.prog 23 59 4 32 (.agg #[.int .i64 0,.int .i64 0,.int .i64 0,.int .i64 0]):=⟨ai,ai,ai⟩
theorem F3:bO Tryz.prog 24 95 2 16 (.agg #[.int .i64 0,.int .i64 0]):=⟨ai,ai,ai⟩
theorem kA:bO Tryz.prog 85 3 1 8 (.int .i64 0):=⟨ai,ai,ai⟩
theorem F4:aQ Tryz.prog 23 false 1:=⟨ai,ai⟩
theorem F5:aQ Tryz.prog 24 false 1:=⟨ai,ai⟩
theorem gj:aQ Tryz.prog 3 false 1:=⟨ai,ai⟩
theorem QG:aQ Tryz.prog 48 true 2:=⟨ai,ai⟩
theorem QH:aQ Tryz.prog 59 true 4:=⟨ai,ai⟩
theorem QI:aQ Tryz.prog 85 false 1:=⟨ai,ai⟩
theorem jY(l:aP)(L p:Int):(l.bs.getD (da l p) default).len *(l.bs.getD (da l (p+L)) default).len *L=kh l L p:=rfl
theorem jZ(l:aP)(L p:Int)(j:Nat):qO (List.replicate l.js.length 0) j (kh l L p)=nX l L p j:=rfl
theorem j4(l:aP)(L p:Int)(j:Nat):lq (nX l L p j) (da l p) ((L - (b9 l.bs j - p))*((l.bs.getD (da l p) default).len - fD l p)*(l.bs.getD (da l (p+L)) default).len)=nY l L p j:=rfl
theorem j5(l:aP)(L p:Int)(j:Nat):lq (nY l L p j) (da l p+1) ((L - (b9 l.bs j - p))*fD l p*(l.bs.getD (da l (p+L)) default).len)=nZ l L p j:=rfl
theorem j6(l:aP)(L p:Int)(j:Nat):lq (nZ l L p j) (da l (p+L)) ((b9 l.bs j - p)*((l.bs.getD (da l (p+L)) default).len - fD l (p+L))*(l.bs.getD (da l p) default).len)=oa l L p j:=rfl
theorem j7(l:aP)(L p:Int)(j:Nat):lq (oa l L p j) (da l (p+L)+1) ((b9 l.bs j - p)*fD l (p+L)*(l.bs.getD (da l p) default).len)=ki l L p j:=rfl
theorem jD{x:Int}{A:Nat}(h:x.natAbs<=A): -(A:Int)<=x/\x<=A:=by omega
theorem Uk{n k:Int}(hk:1<=k)(hn: -4000000000000000000<=n/\n<=4000000000000000000): -4000000000000000001<=n/k/\n/k<=4000000000000000000:=by
 have hb:=H9 hn k;have hf:=JP (n:=n) hk
 by_cases h:n.tmod k<0
 ·have:=hf.1 h;omega
 ·have:=hf.2 h;omega
theorem xz{l:aP}(h:cM l){f:Int->ep->Int}(hf:f=lB\/f=lC){ws:List Int}{A:Nat}(hw:eS ws l.js.length<=A){n:Nat}(hn:n<=l.js.length): -(20100*(A:Int))<=iU f ws l.js n/\iU f ws l.js n<=20100*(A:Int):=by
 have h1:=Ia h hf (ws:=ws) hn;have h2:=yY (ws:=ws) hn;omega
theorem C3(l:aP)(h:cM l)(L c s p:Int)(j:Nat)(q:Pos l L p j):bN Tryz.prog 49 [il l,mz L c s,mA p,mA j] (λq=>q= .agg [mA (na l L p j),mA (nc l L p j)]):=by
 refine cw (fn:=Tryz.f49) 204 ai rfl ai aU ?_;intro bD hM hA dw;have dx:ak bD (.tmp 0)=_:=hA 0 _ rfl;have dy:ak bD (.tmp 1)=_:=hA 1 _ rfl;have dz:ak bD (.tmp 2)=_:=hA 2 _ rfl;have dA:ak bD (.tmp 3)=_:=hA 3 _ rfl;have b6:hM.length=0:=by rw [dw];rfl
 clear hA dw;have hn1:=h.n1;have hn0:=h.n0;have hjs:=h.js;obtain⟨L0,L1,p0,p1,j0,j1,jn⟩:=id q;obtain⟨a1,a2,a3⟩:=xW h (p:=p) ⟨p0,ah⟩;obtain⟨b1,b2,b3⟩:=xW h (p:=p+L) ⟨ah,p1⟩;have c1:=h.kU _ a1;have c2:=h.kU _ b1;have hpl:=qd (bs:=l.bs) (n:=l.bs.length);have hpb:=h.nq (n:=l.bs.length) (Xf _);have hpj:=h.nq (n:=j) ah;have hgj:=lE (bs:=l.bs) (n:=l.bs.length) (j:=j) ah;obtain⟨d0,d1,d2,d3,d4,d5⟩:=q.bd h;replace d2:=jD d2;replace d3:=jD d3;replace d4:=jD d4;replace d5:=jD d5;obtain⟨s1,s2,s3,s4,s5⟩:=q.abs h;have m1:=jD (gY (x:=(l.bs.getD (da l p) default).len) (y:=(l.bs.getD (da l (p+L)) default).len) 30000 30000 ah ah);have m2:=jD (gY (x:=L - (b9 l.bs j - p)) (y:=(l.bs.getD (da l p) default).len - fD l p) 30000 30000 ah ah);have m3:=jD (gY (x:=L - (b9 l.bs j - p)) (y:=fD l p) 30000 30000 ah ah);have m4:=jD (gY (x:=b9 l.bs j - p) (y:=(l.bs.getD (da l (p+L)) default).len - fD l (p+L)) 30000 30000 ah ah);have m5:=jD (gY (x:=b9 l.bs j - p) (y:=fD l (p+L)) 30000 30000 ah ah);have hdd:(l.bs.getD (da l p) default).len *(l.bs.getD (da l (p+L)) default).len *L=kh l L p:=rfl;have g0:(List.replicate l.js.length (0:Int)).getD j default=0:=(by simp [jn]);have g2:=jD (Xz (tm (ws:=nX l L p j) (n:=l.js.length) (i:=da l p) ah) s1);have g3:=jD (Xz (tm (ws:=nY l L p j) (n:=l.js.length) (i:=da l p+1) ah) s2);have g4:=jD (Xz (tm (ws:=nZ l L p j) (n:=l.js.length) (i:=da l (p+L)) ah) s3);have g5:=jD (Xz (tm (ws:=oa l L p j) (n:=l.js.length) (i:=da l (p+L)+1) ah) s4);have k0:(List.replicate l.js.length (0:Int)).length =l.js.length:=aN;have k1:=FW (l:=l) (L:=L) (p:=p) (j:=j);have k2:=FX (l:=l) (L:=L) (p:=p) (j:=j);have k3:=FY (l:=l) (L:=L) (p:=p) (j:=j);have k4:=FZ (l:=l) (L:=L) (p:=p) (j:=j);have k5:=Uj (l:=l) (L:=L) (p:=p) (j:=j);refine au<|at_<|aL (cZ dy rfl b6) trivial rfl (λiC cb=>?_)
 have dB:=bu cb b6;have a7:=br cb b6;have a7:_=1:=a7;clear cb;refine aL (cy qE rfl a7) trivial rfl (λiD bE=>?_);have cc:=bu bE a7;simp only [pS,Value.cells,Nat.reduceAdd,bX,cF,XE,gv,jW,jV,hgj,jP,jQ,jY,jZ,j4,j5,j6,j7]at cc;have bG:=aK bE dB;have a8:=br bE a7;have a8:_=2:=a8;clear bE dB;refine bR (ag dx) (ag dz) (ag dA) (ae aa) aa ?_;clear dx dy dz dA;intro iF cd ce dD dF dH;refine ao<|au<|at_<|ar (al cd) rfl<|ar (al (ae ce)) rfl<|ar (bh (aE (ae aa) (aE aa aM)) rfl (Jd l h p ⟨p0,ah⟩) Eb) rfl ?_
 refine ar (al aa) rfl<|ar (cI aa rfl) rfl<|ar (cI (ae aa) rfl) rfl<|ar (aB (ae aa)) rfl<|ar (aB (ae aa)) rfl<|fX (aA cd) (aA ce) (aA dD) (aA dF) (aA dH) (ae aa) aa ?_;clear cd ce dD dF dH;intro iG cf cg dI ci dJ dK dL
 refine ao<|au<|at_<|ar (al cf) rfl<|ar (al (ae cg)) rfl<|ar (aI nA rfl (ag ci)) rfl<|ar (ax (aH gj rfl bG aa az) dG) rfl ?_
 (refine ar (cv (ag aa) aa ?_) rfl ?_; · (unfold In64;omega))
 refine ar (bh (aE (aj aa) (aE aa aM)) rfl (Jd l h (p+L) ⟨ah,p1⟩) Eb) rfl ?_;refine ar (al aa) rfl<|ar (cI aa rfl) rfl<|ar (cI (ae aa) rfl) rfl<|ar (aB (ae aa)) rfl<|ar (aB (ae aa)) rfl<|oq (ae (ag (aA cf))) (ae (ag (aA cg))) (ae (ag (aA dI))) (ae (ag (aA ci))) (ae (ag (aA dJ))) (ae (ag (aA dK))) (ae (ag (aA dL))) (ae aa) aa ?_;clear cf dL cg dI ci dJ dK;intro iH cj dM ck dQ dR dW dX dY ea
 refine ao<|au<|at_<|ar (al cj) rfl<|ar (fK aa) rfl<|ar (ax (bY mK rfl aa) dG) rfl ?_
 refine ar (ax (bF QI rfl aa az) dG) rfl ?_;refine ar (al (aj ck)) rfl<|ar (ax (cP kA (ae aa) aa ah (by(refine eb ?_;omega))) dG) rfl ?_
 refine ar (ax (bF gj rfl aa az) dG) rfl ?_;refine ar (al (ae (ag (aj dM)))) rfl ?_
 (refine ar (eC (ae aa) aa ?_) rfl ?_; · (unfold In64;omega))
 refine ar (aB aa) rfl<|oq (ag (aA cj)) (ag (aA ck)) (ag (aA dQ)) (ag (aA dR)) (ag (aA dW)) (ag (aA dX)) (ag (aA dY)) (ag (aA ea)) aa ?_;clear cj dX dY ea dM ck dQ dR dW;intro iI bH ec ed ee cm ef cn eg eh
 refine ao<|au<|dZ 20 ai ai ai ai ?_
 refine dr (al bH) rfl<|dr (fK aa) rfl<|dr (ax (bY jh rfl aa) dG) rfl ?_
 refine dr (ax (bY dO rfl aa) dG) rfl ?_;refine dr (ax (bF F5 rfl aa az) dG) rfl ?_;refine dr (al (ae (aj cm))) rfl<|dr (ax (cP F3 (ae aa) aa ah (by(refine eb ?_;omega))) dG) rfl ?_
 refine dr (ax (bY mb rfl aa) dG) rfl ?_;refine dr (ax (bF gj rfl aa az) dG) rfl ?_;refine dr (al (ae (aA bH))) rfl<|dr (fK aa) rfl<|dr (ax (bY jh rfl aa) dG) rfl ?_
 refine dr (ax (bY dO rfl aa) dG) rfl ?_;refine dr (ax (bF F5 rfl aa az) dG) rfl ?_;refine dr (al (ag (aj (aA cn)))) rfl<|dr (ax (cP F3 (ae aa) aa ah (by(refine eb ?_;omega))) dG) rfl ?_
 refine dr (ax (bY mb rfl aa) dG) rfl ?_;refine dr (ax (bF gj rfl aa az) dG) rfl ?_;refine dr (aB (ae (aA aa))) rfl<|dr (aB (ae aa)) rfl<|dC<|B2 (aj (aJ bH)) (aj (aJ ec)) (aj (aJ ed)) (aj (aJ ee)) (aj (aJ cm)) (aj (aJ ef)) (aj (aJ cn)) (aj (aJ eg)) (aj (aJ eh)) (ae aa) aa ?_;clear bH ef cn eg eh ec ed ee cm;intro iJ ei ej co ek en eo ep er ev cr cu
 refine ao<|au<|at_<|ar (al cr) rfl<|ar (al (ae cu)) rfl ?_
 (refine ar (fH (ae aa) aa ?_) rfl ?_; · (unfold In64;omega))
 refine ar (aI nA rfl (ae (ag co))) rfl<|ar (ax (aH gj rfl bG aa az) dG) rfl ?_
 (refine ar (fH (ag aa) aa ?_) rfl ?_; · (unfold In64;omega))
 refine ar (aB aa) rfl<|B5 (ae (ag (aj ei))) (ae (ag (aj ej))) (ae (ag (aj co))) (ae (ag (aj ek))) (ae (ag (aj en))) (ae (ag (aj eo))) (ae (ag (aj ep))) (ae (ag (aj er))) (ae (ag (aj ev))) (ae (ag (aj cr))) (ae (ag (aj cu))) aa ?_;clear ei eo ep er ev cr cu ej co ek en;intro iL cx ew ey ez eA eD eE eF eG eJ eK eL
 refine ao<|au<|at_<|ar (al cx) rfl<|ar (fK aa) rfl<|ar (ax (bY jh rfl aa) dG) rfl ?_
 refine ar (ax (bY dN rfl aa) dG) rfl ?_;refine ar (ax (bF F4 rfl aa az) dG) rfl ?_;refine ar (ax (ca aa rfl F2.1) b7) rfl ?_;refine aL (V5 kA rfl rfl a8 aa aa ah ah) trivial rfl (λiM a9=>?_);have ab:=bu a9 a8;simp only [pS,Value.cells,Nat.reduceAdd,bX,cF,XE,gv,jW,jV,hgj,jP,jQ,jY,jZ,j4,j5,j6,j7]at ab;have eN:=aK a9 cc;have eO:=aK a9 bG;have cz:=br a9 a8;have cz:_=3:=cz;clear a9 cc bG;refine ar (aB aa) rfl<|WG (aA cx) (aA ew) (aA ey) (aA ez) (aA eA) (aA eD) (aA eE) (aA eF) (aA eG) (aA eJ) (aA eK) (aA eL) aa ?_;clear cx eD eE eF eG eJ eK eL ew ey ez eA;intro iN eP eQ eR eS eT eU eV eW eX eY eZ cA cC
 refine ao<|au<|at_<|ar (al cC) rfl<|ar (al (ae eQ)) rfl<|ar (jK kA ab (ae aa) aa ah dP) rfl ?_
 refine ar (ax (lD gj rfl ab aa az (by(refine eb ?_;omega))) dG) rfl ?_;refine ar (al (aj cA)) rfl ?_
 (refine ar (cv (ae aa) aa ?_) rfl ?_; · (unfold In64;omega))
 refine ar (jK kA ab (ae (aj aa)) (aj aa) ah dP) rfl ?_;refine aL (pO aa (ae aa) rfl rfl rfl ab (Xr _).symm (by(refine eb ?_;omega)) iK rfl az) trivial rfl (λiO ba=>?_);have ad:=aZ ba ab;simp only [pS,Value.cells,Nat.reduceAdd,bX,cF,XE,gv,jW,jV,hgj,jP,jQ,jY,jZ,j4,j5,j6,j7]at ad;have e0:=aw ba eN aD;have cD:=aw ba eO aD;have hN:=aX ba cz;clear ba ab eN eO;refine B5 (aC (ae (ag (aj eP)))) (aC (ae (ag (aj eR)))) (aC (ae (ag (aj eS)))) (aC (ae (ag (aj eT)))) (aC (ae (ag (aj eU)))) (aC (ae (ag (aj eV)))) (aC (ae (ag (aj eW)))) (aC (ae (ag (aj eX)))) (aC (ae (ag (aj eY)))) (aC (ae (ag (aj eZ)))) (aC (ae (ag (aj cA)))) (aC (ae (ag (aj cC)))) ?_;clear eP eU eV eW eX eY eZ cA cC eQ eR eS eT;intro iP e3 cE e4 cG cH e5 e6 cJ cL cN e7 cQ;refine ao<|au<|dZ 16 ai ai ai ai ?_
 refine dr (al cQ) rfl<|dr (al (ae cG)) rfl<|dr (jK kA ad (ae aa) aa ah dP) rfl ?_
 refine dr (ax (lD gj rfl ad aa az (by(refine eb ?_;omega))) dG) rfl ?_;refine dr (aI nA rfl (aj cE)) rfl<|dr (ax (aH gj rfl cD aa az) dG) rfl ?_
 refine dr (al (ag (aj cJ))) rfl ?_
 (refine dr (eC (ae aa) aa ?_) rfl ?_; · (unfold In64;omega))
 refine dr (al (aA cL)) rfl<|dr (al (ae (aA cH))) rfl ?_
 (refine dr (eC (ae aa) aa ?_) rfl ?_; · (unfold In64;omega))
 (refine dr (fH (ae (ag aa)) aa ?_) rfl ?_; · (unfold In64;omega))
 refine dr (al (aj (aA cN))) rfl ?_
 (refine dr (fH (ae aa) aa ?_) rfl ?_; · (unfold In64;omega))
 (refine dr (eC (ag (aA aa)) aa ?_) rfl ?_; · (unfold In64;omega))
 refine dr (jK kA ad (ag (aj (aA aa))) (ae (aj (aA aa))) ah dP) rfl ?_;refine dC<|aL (pO aa (ae aa) rfl rfl rfl ad (Xr _).symm (by(refine eb ?_;omega)) iK rfl az) trivial rfl (λiQ bb=>?_)
 have af:=aZ bb ad;simp only [pS,Value.cells,Nat.reduceAdd,bX,cF,XE,gv,jW,jV,hgj,jP,jQ,jY,jZ,j4,j5,j6,j7]at af;have e8:=aw bb e0 aD;have cR:=aw bb cD aD;have hO:=aX bb hN;clear bb ad e0 cD;refine B5 (aC (aJ e3)) (aC (aJ cE)) (aC (aJ e4)) (aC (aJ cG)) (aC (aJ cH)) (aC (aJ e5)) (aC (aJ e6)) (aC (aJ cJ)) (aC (aJ cL)) (aC (aJ cN)) (aC (aJ e7)) (aC (aJ cQ)) ?_;clear e3 cH e5 e6 cJ cL cN e7 cQ cE e4 cG;intro iR e9 fa fb fc fd fe ff cT fg cV fh cW;refine ao<|au<|dZ 15 ai ai ai ai ?_
 refine dr (al cW) rfl<|dr (al (ae fc)) rfl ?_
 (refine dr (cv aa ay ?_) rfl ?_; · (unfold In64;omega))
 refine dr (jK kA af (ag aa) aa ah dP) rfl ?_;refine dr (ax (lD gj rfl af aa az (by refine eb ?_;(simp only [cS];omega))) dG) rfl ?_;refine dr (aI nA rfl (ae (aj fa))) rfl<|dr (ax (aH gj rfl cR aa az) dG) rfl ?_
 refine dr (al (ae (ag (aj cT)))) rfl ?_
 (refine dr (eC (ae aa) aa ?_) rfl ?_; · (unfold In64;omega))
 refine dr (al (ae (aA fd))) rfl ?_
 (refine dr (fH (ae aa) aa ?_) rfl ?_; · (unfold In64;omega))
 refine dr (al (ae (ag (aA cV)))) rfl ?_
 (refine dr (fH (ae aa) aa ?_) rfl ?_; · (unfold In64;omega))
 (refine dr (eC (aA aa) aa ?_) rfl ?_; · (unfold In64;omega))
 refine dr (jK kA af (ae (aj (aA aa))) (ae (ag (aA aa))) ah dP) rfl ?_;refine dC<|aL (pO aa (ae aa) rfl rfl rfl af (Xr _).symm (by refine eb ?_;(simp only [cS];omega)) iK rfl az) trivial rfl (λiS bc=>?_)
 have am:=aZ bc af;simp only [pS,Value.cells,Nat.reduceAdd,bX,cF,XE,gv,jW,jV,hgj,jP,jQ,jY,jZ,j4,j5,j6,j7]at am;have fi:=aw bc e8 aD;have fj:=aw bc cR aD;have hP:=aX bc hO;clear bc af e8 cR;refine oq (aC (ae (ag (aj (aA e9))))) (aC (ae (ag (aj (aA fb))))) (aC (ae (ag (aj (aA fe))))) (aC (ae (ag (aj (aA ff))))) (aC (ae (ag (aj (aA cT))))) (aC (ae (ag (aj (aA fg))))) (aC (ae (ag (aj (aA cV))))) (aC (ae (ag (aj (aA fh))))) (aC (ae (ag (aj (aA cW))))) ?_;clear e9 fd fe ff cT fg cV fh cW fa fb fc;intro iT fk fl cX cY c6 c7 fm fo c8;refine ao<|au<|at_<|ar (al c8) rfl<|ar (al (ae cX)) rfl<|ar (jK kA am (ae aa) aa ah dP) rfl ?_
 refine ar (ax (lD gj rfl am aa az (by(refine eb ?_;omega))) dG) rfl ?_;refine ar (al (aj c6)) rfl<|ar (al (ae (aj fm))) rfl<|ar (al (ag (aj cY))) rfl ?_
 (refine ar (eC (ae aa) aa ?_) rfl ?_; · (unfold In64;omega))
 (refine ar (fH (ae (ag aa)) aa ?_) rfl ?_; · (unfold In64;omega))
 refine ar (al (ae (aA c7))) rfl ?_
 (refine ar (fH (ae aa) aa ?_) rfl ?_; · (unfold In64;omega))
 (refine ar (eC (ae (ag (aj aa))) aa ?_) rfl ?_; · (unfold In64;omega))
 refine ar (jK kA am (ae (ag (aA aa))) (ag (aA aa)) ah dP) rfl ?_;refine aL (pO aa (ae aa) rfl rfl rfl am (Xr _).symm (by(refine eb ?_;omega)) iK rfl az) trivial rfl (λiV be=>?_);have an:=aZ be am;simp only [pS,Value.cells,Nat.reduceAdd,bX,cF,XE,gv,jW,jV,hgj,jP,jQ,jY,jZ,j4,j5,j6,j7]at an;have fp:=aw be fi aD;have fq:=aw be fj aD;have hQ:=aX be hP;clear be am fi fj;refine uQ (aC (ae (aj (aA fk)))) (aC (ae (aj (aA fl)))) (aC (ae (aj (aA cX)))) (aC (ae (aj (aA cY)))) (aC (ae (aj (aA c6)))) (aC (ae (aj (aA c7)))) (aC (ae (aj (aA fo)))) (aC (ae (aj (aA c8)))) ?_;clear fk cX cY c6 c7 fm fo c8 fl;intro iW fs ft fu fz fA fB fC c9;refine ao<|au<|at_<|ar (al c9) rfl<|ar (al (ae fu)) rfl ?_
 (refine ar (cv aa ay ?_) rfl ?_; · (unfold In64;omega))
 refine ar (jK kA an (ag aa) aa ah dP) rfl ?_;refine ar (ax (lD gj rfl an aa az (by refine eb ?_;(simp only [cS];omega))) dG) rfl ?_;refine ar (al (ae (aj fA))) rfl<|ar (al (ag (aj fz))) rfl ?_
 (refine ar (fH (ae aa) aa ?_) rfl ?_; · (unfold In64;omega))
 refine ar (al (aA fB)) rfl ?_
 (refine ar (fH (ae aa) aa ?_) rfl ?_; · (unfold In64;omega))
 (refine ar (eC (ae (aj aa)) aa ?_) rfl ?_; · (unfold In64;omega))
 refine ar (jK kA an (ag (aA aa)) (aA aa) ah dP) rfl ?_;refine aL (pO aa (ae aa) rfl rfl rfl an (Xr _).symm (by refine eb ?_;(simp only [cS];omega)) iK rfl az) trivial rfl (λiX bk=>?_);have db:=aZ bk an;simp only [pS,Value.cells,Nat.reduceAdd,bX,cF,XE,gv,jW,jV,hgj,jP,jQ,jY,jZ,j4,j5,j6,j7]at db;have fE:=aw bk fp aD;have fG:=aw bk fq aD;have dc:=aX bk hQ;clear bk an fp fq;refine bp (aC (aj (aA fs))) (aC (aj (aA ft))) (aC (aj (aA fC))) (aC (aj (aA c9))) ?_;clear fs fu fz fA fB fC c9 ft;intro iY fI fJ fL fO;refine ao<|au<|at_<|ar (dq b8 o9 o8 o7 rfl) rfl ?_
 refine aL (cy qE rfl dc) trivial rfl (λiZ aO=>?_);have bI:=bu aO dc;simp only [pS,Value.cells,Nat.reduceAdd,bX,cF,XE,gv,jW,jV,hgj,jP,jQ,jY,jZ,j4,j5,j6,j7]at bI;have fP:=aK aO db;have fQ:=aK aO fE;have fR:=aK aO fG;have dd:=br aO dc;have dd:_=4:=dd;clear aO db fE fG;refine aL (bP aa (ae aa) rfl rfl bI m8 rfl az) trivial rfl (λde aQ=>?_);have fS:=aZ aQ bI;simp only [pS,Value.cells,Nat.reduceAdd,bX,cF,XE,gv,jW,jV,hgj,jP,jQ,jY,jZ,j4,j5,j6,j7]at fS;have df:=aw aQ fP aD;have fT:=aw aQ fQ aD;have fV:=aw aQ fR aD;have hS:=aX aQ dd;clear aQ bI fP fQ fR;refine bR (aC (ag fI)) (aC (ag fJ)) (aC (ag fL)) (aC (ag fO)) (aC aa) ?_;clear fI fL fO fJ;intro i6 fW fY fZ f0 ga;refine ao<|au<|au<|at_<|ar (al f0) rfl<|ar (ax (rh aa df rfl kA.1) b7) rfl ?_
 refine ar (al ay) rfl<|fX (ae (ag fW)) (ae (ag fY)) (ae (ag fZ)) (ae (ag ga)) (ag aa) (ae aa) aa ?_;clear fW fZ f0 ga fY;intro aR gb gc gd ge gf gg hU
 refine ao<|bV<|eu (S:=(Int×Int×Int)) (λs e mem=>match s with|⟨i,lo,hi⟩=>(ak e (.tmp 145)= .v (.int .i64 i))/\(ak e (.tmp 0)=ak aR (.tmp 0))/\(ak e (.tmp 8)=ak aR (.tmp 8))/\(ak e (.tmp 16)=ak aR (.tmp 16))/\(ak e (.tmp 18)=ak aR (.tmp 18))/\(ak e (.tmp 143)=ak aR (.tmp 143))/\(ak e (.tmp 144)=ak aR (.tmp 144))/\(mem[3]? =some (.box 48 [mA lo,mA hi]))/\(mem[2]? =de[2]?)/\(mem[1]? =de[1]?)/\(mem[0]? =de[0]?)/\(∃ n,mem.length=n/\4<=n)/\((0<=i/\i<=l.js.length/\lo=iU lB (ki l L p j) l.js i.toNat/\hi=iU lC (ki l L p j) l.js i.toNat))) (λs=>match s with|⟨i,lo,hi⟩=>(l.js.length - i).toNat) ⟨_,_,_⟩ ⟨hU,rfl,rfl,rfl,rfl,rfl,rfl,fS,rfl,rfl,rfl,⟨_,hS,Xf _⟩,?_⟩ ?_
 ·(exact⟨ah,ah,rfl,rfl⟩)
 ·rintro⟨i,lo,hi⟩ i7 i8 ⟨dg,hV,hW,hY,hZ,h6,h7,aS,h8,h9,ia,⟨ja,bJ,jb⟩,hinv⟩;have gh:=hV.trans gb;have gi:=hW.trans gc;have gk:=hY.trans gd;have gl:=hZ.trans ge;have gm:=h6.trans gf;have dh:=h7.trans gg;have aT:=h8.trans df;have bo:=h9.trans fT;have bM:=ia.trans fV
  (obtain⟨q1,q2,q3,q4⟩:=hinv)
  refine au<|at_<|ar (cU dg dh) rfl<|uQ (ae gh) (ae gi) (ae gk) (ae gl) (ae gm) (ae dh) (ae dg) aa ?_;clear gh gm dh dg gk gl gi;intro jc di bq bv bw bO dj bx dk
  refine ao<|au<|bj dk (λbz=>?_) (λbz=>?_)
  ·replace bz:=bt bz
   (have j2:=h.kV i.toNat ah;have w1:=tm (ws:=ki l L p j) (n:=l.js.length) (i:=i.toNat) ah;obtain⟨f1,f2,f3,f4,f5⟩:=JQ (w:=(ki l L p j).getD i.toNat default) (j:=l.js.getD i.toNat default) (Xz w1 s5) j2.1 ⟨j2.2.2.1,j2.2.2.2.1,j2.2.2.2.2⟩;clear w1;replace f3:=jD f3;replace f4:=jD f4;replace f5:=jD f5;clear f1 f2;have w2:=xz h (.inl rfl) s5 (n:=i.toNat) ah;have w3:=xz h bm s5 (n:=i.toNat) ah)
   refine bC<|ao<|au<|bV<|au<|at_<|ar (al bx) rfl<|ar (jK kA aT (ae bO) (ae bx) ah dP) rfl ?_
   refine ar (ax (lD gj rfl aT aa az (by(refine cO ?_;omega))) dG) rfl ?_;refine ar (aB (ag aa)) rfl<|ar (aB (ae aa)) rfl<|oq (ae (aj di)) (ae (aj bq)) (ae (aj bv)) (ae (aj bw)) (ae aa) aa (ae (aj bO)) (ae (aj dj)) (ae (aj bx)) ?_;clear di bO dj bx dk bv bw bq;intro jd dl gn gp gq gr gt gu gw gx
   refine ao<|au<|at_<|ar (al dl) rfl<|ar (fK aa) rfl<|ar (ax (bY jh rfl aa) dG) rfl ?_
   refine ar (ax (bY dN rfl aa) dG) rfl ?_;refine ar (ax (bF F4 rfl aa az) dG) rfl ?_;refine ar (al (ae (aj gr))) rfl<|ar (ax (cP F2 (ae aa) aa ah (by(refine cO ?_;omega))) dG) rfl ?_
   refine ar (ax (bF QH rfl aa az) dG) rfl ?_;refine aL (cy sr rfl bJ) trivial rfl (λje ap=>?_);have bQ:=bu ap bJ;simp only [pS,Value.cells,Nat.reduceAdd,bX,cF,XE,gv,jW,jV,hgj,jP,jQ,jY,jZ,j4,j5,j6,j7]at bQ;have gy:=aK ap aS;have gz:=aK ap aT;have gA:=aK ap bo;have gB:=aK ap bM;have ib:=br ap bJ;clear ap aS aT bo bM;refine aL (bP aa (ae aa) rfl rfl bQ uz rfl az) trivial rfl (λjf av=>?_);have a5:=aZ av bQ;simp only [pS,Value.cells,Nat.reduceAdd,bX,cF,XE,gv,jW,jV,hgj,jP,jQ,jY,jZ,j4,j5,j6,j7]at a5;have bS:=aw av gy ah;have gC:=aw av gz ah;have gD:=aw av gA ah;have gE:=aw av gB ah;have ic:=aX av ib;clear av bQ gy gz gA gB;refine oq (aC (ae (aA dl))) (aC (ae (aA gn))) (aC (ae (aA gp))) (aC (ae (aA gq))) (aC (ae (aA gt))) (aC aa) (aC (ae (aA gu))) (aC (ae (aA gw))) (aC (ae (aA gx))) ?_;clear dl gu gw gx gp gq gr gt gn;intro jg gF gG gH gI bT bW gJ gL gM;refine ao<|au<|dZ 12 ai ai ai ai ?_
   refine dr (al bT) rfl<|dr (aI fU rfl (ae bW)) rfl<|dr (aI fx rfl aa) rfl<|dr (ax (aH gj rfl a5 aa az) dG) rfl ?_
   (refine dr (fH (ae (ag aa)) aa ?_) rfl ?_; · (unfold In64;omega))
   refine dr (al (ae (aj bT))) rfl<|dr (aI fU rfl (ag (aj bW))) rfl<|dr (aI fy rfl aa) rfl<|dr (ax (aH gj rfl a5 aa az) dG) rfl ?_
   (refine dr (fH (ae (ag aa)) aa ?_) rfl ?_; · (unfold In64;omega))
   refine dr (aB (ae (aj aa))) rfl<|dr (aB (ae aa)) rfl<|dC<|B2 (aj (aA gF)) (aj (aA gG)) (aj (aA gH)) (aj (aA gI)) (aj (aA bT)) (aj (aA bW)) (ae aa) aa (aj (aA gJ)) (aj (aA gL)) (aj (aA gM)) ?_;clear gF gJ gL gM gH gI bT bW gG;intro ji gN gO gP bZ dm dn dp dt gQ gR gS
   refine ao<|au<|at_<|ar (aI fx rfl bZ) rfl<|ar (ax (aH gj rfl bS aa az) dG) rfl ?_
   refine ar (al (ag dm)) rfl<|ar (aI iu rfl (ae (ag dn))) rfl<|ar (ax (aH gj rfl a5 aa az) dG) rfl ?_
   (refine ar (fH (ag aa) aa ?_) rfl ?_; · (unfold In64;omega))
   refine ar (al (ag (aj dp))) rfl<|ar (al (ae (ag (aj dt)))) rfl<|ar (si (ae aa) aa) rfl ?_
   (refine ar (cv (ae (ag aa)) aa ?_) rfl ?_; · (unfold In64;omega))
   (refine ar (cv (aA aa) aa ?_) rfl ?_; · (unfold In64;omega))
   refine ar (aI fx rfl (ae (ag (aA bZ)))) rfl<|aL (bP aa (ae aa) rfl rfl bS iK rfl az) trivial rfl (λjj aF=>?_)
   have bA:=aZ aF bS;simp only [pS,Value.cells,Nat.reduceAdd,bX,cF,XE,gv,jW,jV,hgj,jP,jQ,jY,jZ,j4,j5,j6,j7]at bA;have du:=aw aF a5 ah;have gT:=aw aF gC aD;have gU:=aw aF gD aD;have gV:=aw aF gE aD;have ie:=aX aF ic;clear aF a5 bS gC gD gE;refine B2 (aC (aj (aA gN))) (aC (aj (aA gO))) (aC (aj (aA gP))) (aC (aj (aA bZ))) (aC (aj (aA dm))) (aC (aj (aA dn))) (aC (aj (aA dp))) (aC (aj (aA dt))) (aC (aj (aA gQ))) (aC (aj (aA gR))) (aC (aj (aA gS))) ?_;clear gN gQ gR gS gP bZ dm dn dp dt gO;intro jk gW gX gZ b0 g1 g6 g7 g8 g9 hh hv;refine ao<|at_<|ar (aI fy rfl b0) rfl<|ar (ax (aH gj rfl bA aa az) dG) rfl ?_
   refine ar (al (ag g1)) rfl<|ar (aI iu rfl (ae (ag g6))) rfl<|ar (ax (aH gj rfl du aa az) dG) rfl ?_
   (refine ar (fH (ag aa) aa ?_) rfl ?_; · (unfold In64;omega))
   refine ar (al (ag (aj g7))) rfl<|ar (al (ae (ag (aj g8)))) rfl<|ar (xn (ae aa) aa) rfl ?_
   (refine ar (cv (ae (ag aa)) aa ?_) rfl ?_; · (unfold In64;omega))
   (refine ar (cv (aA aa) aa ?_) rfl ?_; · (unfold In64;omega))
   refine ar (aI fy rfl (ae (ag (aA b0)))) rfl<|aL (bP aa (ae aa) rfl rfl bA iK rfl az) trivial rfl (λjl aG=>?_)
   have hC:=aZ aG bA;simp only [pS,Value.cells,Nat.reduceAdd,bX,cF,XE,gv,jW,jV,hgj,jP,jQ,jY,jZ,j4,j5,j6,j7]at hC;have jm:=aw aG du ah;have ig:=aw aG gT aD;have ih:=aw aG gU aD;have ij:=aw aG gV aD;have ik:=aX aG ie;clear aG bA du gT gU gV;refine fX (aC (aj (aA gW))) (aC (aj (aA gX))) (aC (aj (aA gZ))) (aC (aj (aA b0))) (aC (aj (aA g9))) (aC (aj (aA hh))) (aC (aj (aA hv))) ?_;clear gW g9 hh hv gZ b0 g1 g6 g7 g8 gX;intro jo hD hE hF hG hH hI hJ;refine cK<|ao<|at_ ?_
   (refine ar (cv hJ ay ?_) rfl ?_; · (unfold In64;omega))
   refine ar (al aa) rfl<|fX (ag hD) (ag hE) (ag hF) (ag hG) (ag hH) (ag hI) aa ?_;clear hD hH hI hJ hF hG hE;intro jp im io ip iq ir iv iw
   refine ao<|⟨⟨_,_,_⟩,⟨iw,(im.trans gb.symm),(io.trans gc.symm),(ip.trans gd.symm),(iq.trans ge.symm),(ir.trans gf.symm),(iv.trans gg.symm),hC,(ig.trans df.symm),(ih.trans fT.symm),(ij.trans fV.symm),⟨_,ik,ah⟩,?_⟩,?_⟩
   ·(refine⟨ah,ah,?_,?_⟩<;>(rw [show(i+1).toNat =i.toNat+1 by omega];first|(rw [q3];rfl)|(rw [q4];rfl)))
   ·((try dsimp only);omega)
  replace bz:=bf bz
  (have hi':i.toNat=l.js.length:=ah;rw [hi']at q3 q4;have w2:=xz h (.inl rfl) s5 (n:=l.js.length) (Xf _);have w3:=xz h bm s5 (n:=l.js.length) (Xf _);have w5:=Uk (n:= -hi) d0 ah)
  refine dV<|cB<|cB<|dU<|ao<|au<|dZ 11 ai ai ai ai ?_
  refine dr (aI fx rfl bw) rfl<|dr (ax (aH gj rfl aS aa az) dG) rfl ?_
  refine dr (al (ag bv)) rfl<|dr (bh (aE (ae aa) (aE aa aM)) rfl (Ea _ _ d0 ah) Ec) rfl ?_
  refine dr (aI fy rfl (aj bw)) rfl<|dr (ax (aH gj rfl aS aa az) dG) rfl ?_
  (refine dr (qg aa ?_) rfl ?_; · (unfold In64;omega))
  refine dr (al (ae (ag (aj bv)))) rfl<|dr (bh (aE (ae aa) (aE aa aM)) rfl (Ea _ _ d0 ah) Ec) rfl ?_
  refine dr (IK aa) rfl<|dr (dq (bB (ag (aj aa)) (bB aa b8)) o9 o8 o7 rfl) rfl ?_
  refine dC<|aL (bP (ae (ag (aA bq))) aa rfl rfl bo m8 rfl az) trivial rfl (λjq a6=>?_)
  have dv:=aZ a6 bo;simp only [pS,Value.cells,Nat.reduceAdd,bX,cF,XE,gv,jW,jV,hgj,jP,jQ,jY,jZ,j4,j5,j6,j7]at dv;have ix:=aw a6 aS aD;have iz:=aw a6 aT aD;have iA:=aw a6 bM aD;have iB:=aX a6 bJ;clear a6 aS aT bo bM;refine aY (aC (ae (ag (aA bq)))) ?_;clear di bO dj bx dk bv bw bq;intro jr hK;refine ao<|bg<|bL bm ai (dE hK dv QG az aN) (eB (.ro _ rfl)) ?_
  clear hK dv ix iz iA iB
  (rw [q4]at w5;rw [q3,q4,wrap_in (by unfold In64;omega)];rfl)
theorem vO:J0 Tryz.prog 68 2 1:=⟨ai,ai⟩
theorem N6:∀ args w,(callFunc 60 args).run Tryz.prog w= .ok (.enter 60 args) w:=λ_ _=>by kernel_rfl
theorem F6:bO Tryz.prog 85 3 1 8 (.int .i64 0):=⟨ai,ai,ai⟩
theorem yZ:aQ Tryz.prog 103 false 1:=⟨ai,ai⟩
theorem QJ:aQ Tryz.prog 27 true 4:=⟨ai,ai⟩
theorem oQ:aQ Tryz.prog 3 false 1:=⟨ai,ai⟩
theorem F7:aQ Tryz.prog 30 false 1:=⟨ai,ai⟩
theorem zz:aQ Tryz.prog 44 true 3:=⟨ai,ai⟩
theorem F8:aQ Tryz.prog 48 true 2:=⟨ai,ai⟩
theorem QK:aQ Tryz.prog 85 false 1:=⟨ai,ai⟩
theorem Ib{p:Nat->Bool}{i:Nat}(hp:p i=true):∀ {n:Nat},i<n->((List.range n).filter p)[((List.range i).filter p).length]? =some i
 | n+1,hi=>by
  rw [YD,List.filter_append]
  by_cases h:i=n
  ·subst h;rw [Xk (Xf _)];simp [hp]
  ·have ih:=Ib hp (n:=n) ah;rw [Xj (Xe.1 ih).1];exact ih
theorem Ed{p:Nat->Bool}{i:Nat}:((List.range (i+1)).filter p).length =((List.range i).filter p).length +if p i then 1 else 0:=by
 rw [YD,List.filter_append,XD];cases h:p i<;>simp [h]
def kj(l:aP)(L p:Int)(i:Nat):Bool:=decide (p<b9 l.bs i)&&decide (b9 l.bs i<p+L)
def eX(l:aP)(L p:Int):List Nat:=(List.range l.js.length).filter (kj l L p)
def oc(l:aP)(L p:Int):List (List AV):=(eX l L p).map λ(i:Nat)=> [mA (i:Int)]
theorem zA(l:aP)(L p:Int):(oc l L p).length =(eX l L p).length :=by simp [oc]
theorem F9{l:aP}{L p:Int}:∀ y∈oc l L p,y.length=1:=by
 intro y hy;obtain⟨_,_,rfl⟩:=XL.1 hy;rfl
theorem Ul{l:aP}{L p j:Int}{i:Nat}(h0:0<=j)(hj:j<l.js.length)(h1:p<b9 l.bs j.toNat)(h2:b9 l.bs j.toNat<p+L)(hi:i=((List.range j.toNat).filter (kj l L p)).length):(oc l L p)[i]? =some [.v (.int .i64 j)]:=by
 subst hi;unfold oc eX;rw [Xh,Ib (by unfold kj;simp [h1,h2]) ah];simp;omega
theorem QL{l:aP}{L p j:Int}(h0:0<=j)(h1:p<b9 l.bs j.toNat)(h2:b9 l.bs j.toNat<p+L):((List.range (j+1).toNat).filter (kj l L p)).length =((List.range j.toNat).filter (kj l L p)).length +1:=by
 rw [show(j+1).toNat =j.toNat+1 by omega,Ed,if_pos];unfold kj;simp [h1,h2]
theorem Ic{l:aP}{L p j:Int}(h0:0<=j)(h:¬ (p<b9 l.bs j.toNat/\b9 l.bs j.toNat<p+L)):((List.range (j+1).toNat).filter (kj l L p)).length =((List.range j.toNat).filter (kj l L p)).length :=by
 rw [show(j+1).toNat =j.toNat+1 by omega,Ed,if_neg];rfl;unfold kj;simp;omega
theorem Ie{l:aP}{L p:Int}{i:Nat}{y:AV}(h:(oc l L p)[i]? =some [y]):∃ s:Nat,(eX l L p)[i]? =some s/\y=mA (s:Int)/\s<l.js.length/\p<b9 l.bs s/\b9 l.bs s<p+L:=by
 unfold oc at h;rw [Xh]at h;cases hs:(eX l L p)[i]? with
 | none=>rw [hs]at h;cases h
 | some s=>
  rw [hs]at h;simp only [Option.map_some,Option.some.injEq,List.cons.injEq,and_true]at h;have hm:=Xp hs;unfold eX at hm;rw [List.mem_filter]at hm;obtain⟨h1,h2⟩:=hm;unfold kj at h2;simp at h1 h2;exact⟨s,rfl,h.symm,h1,h2.1,h2.2⟩
theorem C4(l:aP)(h:cM l)(L c s p:Int)(hL:1000<=L/\L<=30000)(hp:0<=p/\p<=1200000):nP Tryz.prog 81 [] [.ref [il l],.ref [mA p],.ref [mA L,mA c,mA s]] (oc l L p):=by
 refine IU (fn:=Tryz.f81) 35 ai rfl ai aU (λ_ _=>⟨.tuple #[],ai⟩) ?_;intro lb_ aT hA;have a9:ak aT (.tmp 0)=_:=hA 0 _ rfl;have ba:ak aT (.tmp 1)=_:=hA 1 _ rfl;have bb:ak aT (.tmp 2)=_:=hA 2 _ rfl;have bc:ak aT (.tmp 3)=_:=hA 3 _ rfl;clear hA;have hn1:=h.n1;have hn0:=h.n0;have hjs:=h.js;have hpl:=qd (bs:=l.bs) (n:=l.bs.length);refine mX<|nC ?_
 refine dj (λ_=>(ax (bF yZ rfl ba az) bk)) trivial rfl ?_;refine dj (λ_=>(fK aa)) trivial rfl ?_;refine dj (λ_=>(ax (bY mK rfl aa) bk)) trivial rfl ?_;refine dj (λ_=>(ax (bF QK rfl aa az) bk)) trivial rfl ?_;refine dj (λ_=>(ax (ca aa rfl F6.1) b7)) trivial rfl ?_;refine dj (λ_=>(al ay)) trivial rfl ?_;refine jX (λaN aG=>?_);have aX:=ef 0 aG (ag (aj a9));have aY:=ef 2 aG (ag (aj bb));have aZ:=ef 3 aG (ag (aj bc));have a2:=ef 10 aG (ag aa);have a3:=ef 11 aG (ae aa);have bV:=ef 12 aG aa;clear aG a9 ba bb bc;refine gi<|vz<|HA (S:=Int) (λj e b i=>(ak e (.tmp 12)= .v (.int .i64 j))/\(ak e (.tmp 0)=ak aN (.tmp 0))/\(ak e (.tmp 2)=ak aN (.tmp 2))/\(ak e (.tmp 3)=ak aN (.tmp 3))/\(ak e (.tmp 10)=ak aN (.tmp 10))/\(ak e (.tmp 11)=ak aN (.tmp 11))/\(b=true)/\(i=((List.range j.toNat).filter (kj l L p)).length)/\((0<=j/\j<=l.js.length))) (λj=>(l.js.length - j).toNat) _ ⟨bV,rfl,rfl,rfl,rfl,rfl,rfl,eL,?_⟩ ?_
 ·(exact⟨ah,ah⟩)
 ·rintro j cy _ cz ⟨a6,bW,bZ,b0,b1,b2,rfl,hix,hinv⟩;have be:=bW.trans aX;have bg:=bZ.trans aY;have bh:=b0.trans aZ;have bj:=b1.trans a2;have a7:=b2.trans a3
  (have p1:=hinv.1;have p2:=hinv.2)
  refine mX<|nC ?_
  refine dj (λ_=>(cU a6 a7)) trivial rfl ?_;refine jX (λcA ap=>?_);have bm:=ef 0 ap (ae be);have bo:=ef 2 ap (ae bg);have bp:=ef 3 ap (ae bh);have a8:=ef 10 ap (ae bj);have bq:=ef 11 ap (ae a7);have a5:=ef 12 ap (ae a6);have br:=ef 13 ap aa;clear ap be bj a7 a6 bg bh;refine gi<|mX<|Ad br (λaO=>?_) (λaO=>?_)
  ·replace aO:=bt aO
   (have hgj:=lE (bs:=l.bs) (n:=l.bs.length) (j:=j.toNat) ah)
   refine rF<|gi<|mX<|vz<|mX<|nC ?_
   refine dj (λ_=>(al a5)) trivial rfl ?_;refine dj (λ_=>(ax (cP F6 (ae a8) (ae a5) ah (by(refine cO ?_;omega))) bk)) trivial rfl ?_;refine dj (λ_=>(ax (bF oQ rfl aa az) bk)) trivial rfl ?_;refine dj (λ_=>(aB (ag aa))) trivial rfl ?_;refine dj (λ_=>(aB (ae aa))) trivial rfl ?_;refine jX (λcB am=>?_);have an:=ef 0 am (ae (aj bm));have af:=ef 2 am (ae (aj bo));have ao:=ef 3 am (ae (aj bp));have aQ:=ef 5 am (ae aa);have aL:=ef 6 am aa;have ar:=ef 10 am (ae (aj a8));have au:=ef 11 am (ae (aj bq));have av:=ef 12 am (ae (aj a5));clear am bm a8 bq a5 br bo bp;refine gi<|mX<|nC ?_
   refine dj (λ_=>(al aL)) trivial rfl ?_;refine dj (λ_=>(ax (bF oQ rfl (ae af) az) bk)) trivial rfl ?_;refine dj (λ_=>(ey (ae aa) aa)) trivial rfl ?_;refine dj (λ_=>(al aa)) trivial rfl ?_;refine HC aa (λab aR=>?_) (λab aR=>?_)
   ·replace aR:=bt aR;refine dj (λ_=>(al (aj aL))) ⟨_,rfl,ab⟩ rfl ?_;refine dj (λ_=>(ax (bF oQ rfl (ae (aj af)) az) bk)) ⟨_,rfl,(ae ab)⟩ rfl ?_;refine dj (λ_=>(ax (bY nA rfl (ag (aj ao))) bk)) ⟨_,rfl,(ag ab)⟩ rfl ?_;refine dj (λ_=>(ax (bF oQ rfl aa az) bk)) ⟨_,rfl,(ae (ag ab))⟩ rfl ?_
    (refine dj (λ_=>(cv (ag aa) aa ?_)) ⟨_,rfl,(aj ab)⟩ rfl ?_; · (unfold In64;omega))
    refine dj (λ_=>(cU (aj aa) aa)) ⟨_,rfl,(ae (aj ab))⟩ rfl ?_;refine dj (λ_=>(bD (ag (aj ab)) aa)) trivial rfl ?_;refine dj (λ_=>(al aa)) trivial rfl ?_;refine HC aa (λad aS=>?_) (λad aS=>?_)
    ·replace aS:=bt aS;refine dj (λ_=>(al (aj (aA an)))) ⟨_,rfl,ad⟩ rfl ?_;refine dj (λ_=>(al (ae (aj (aA aQ))))) ⟨_,rfl,(ae ad)⟩ rfl ?_;refine DO (ae aa) (aE aa aM) rfl ⟨_,rfl,(ag ad)⟩ rfl (by exact Ul p1 ah ah ah hix) ?_ ?_
     ·
      refine dj (λ_=>(c8 aa)) ⟨_,rfl,(ae (ag ad))⟩ rfl ?_;refine dj (λ_=>(bD (aj ad) aa)) trivial rfl ?_;refine jX (λcC aw=>?_);have bu:=ef 0 aw (ae (aJ an));have bv:=ef 2 aw (ae (aJ af));have bw:=ef 3 aw (ae (aJ ao));have bx:=ef 10 aw (ae (aJ ar));have bz:=ef 11 aw (ae (aJ au));have bA:=ef 12 aw (ae (aJ av));have bB:=ef 33 aw aa;clear aw ab ad an ar au av af ao aQ aL;refine gi<|tc bB ?_
      refine rF<|vA<|gi<|nC ?_
      (refine dj (λ_=>(cv bA ay ?_)) trivial rfl ?_; · (unfold In64;omega))
      refine dj (λ_=>(al aa)) trivial rfl ?_;refine jX (λcD aH=>?_);have b6:=ef 0 aH (ag bu);have b8:=ef 2 aH (ag bv);have b9:=ef 3 aH (ag bw);have cb:=ef 10 aH (ag bx);have cc:=ef 11 aH (ag bz);have cd:=ef 12 aH aa;clear aH bu bx bz bA bv bB bw;refine gi<|⟨_,⟨cd,(b6.trans aX.symm),(b8.trans aY.symm),(b9.trans aZ.symm),(cb.trans a2.symm),(cc.trans a3.symm),rfl,(by(rw [hix,QL hinv.1 ah ah];done)),?_⟩,?_⟩
      ·(exact⟨ah,ah⟩)
      ·((try dsimp only);omega)
     ·
      refine dj (λ_=>(c8 aa)) ⟨_,rfl,(ae (ag ad))⟩ rfl ?_;refine dj (λ_=>(bD (aj ad) aa)) trivial rfl ?_;refine jX (λcE aC=>?_);have cG:=ef 0 aC (ae (aJ an));have cH:=ef 2 aC (ae (aJ af));have cI:=ef 3 aC (ae (aJ ao));have cJ:=ef 10 aC (ae (aJ ar));have cK:=ef 11 aC (ae (aJ au));have cL:=ef 12 aC (ae (aJ av));have ce:=ef 33 aC aa;clear aC ab ad an ar au av af ao aQ aL;refine gi<|Hz ce ?_
      refine Vd<|EM<|HB<|HB<|EM<|V8 (λhb_=>(by cases hb_))
    replace aS:=bf aS;refine jO ⟨_,rfl,.inl ad⟩ rfl ?_;refine jO ⟨_,rfl,.inl (ae ad)⟩ rfl ?_;refine jO ⟨_,rfl,.inl (ag ad)⟩ rfl ?_;refine jO ⟨_,rfl,.inl (ae (ag ad))⟩ rfl ?_;refine dj (λ_=>(bG (aj ad) ay)) trivial rfl ?_;refine jX (λcN aD=>?_);have bC:=ef 0 aD (ae (aJ an));have bE:=ef 2 aD (ae (aJ af));have bH:=ef 3 aD (ae (aJ ao));have bI:=ef 10 aD (ae (aJ ar));have bJ:=ef 11 aD (ae (aJ au));have bL:=ef 12 aD (ae (aJ av));have bM:=ef 33 aD aa;clear aD ab ad an ar au av af ao aQ aL;refine gi<|tc bM ?_
    refine rF<|vA<|gi<|nC ?_
    (refine dj (λ_=>(cv bL ay ?_)) trivial rfl ?_; · (unfold In64;omega))
    refine dj (λ_=>(al aa)) trivial rfl ?_;refine jX (λcQ aI=>?_);have cf:=ef 0 aI (ag bC);have cg:=ef 2 aI (ag bE);have ci:=ef 3 aI (ag bH);have cj:=ef 10 aI (ag bI);have ck:=ef 11 aI (ag bJ);have cm:=ef 12 aI aa;clear aI bC bI bJ bL bE bM bH;refine gi<|⟨_,⟨cm,(cf.trans aX.symm),(cg.trans aY.symm),(ci.trans aZ.symm),(cj.trans a2.symm),(ck.trans a3.symm),rfl,(by(rw [hix,Ic hinv.1 ah];done)),?_⟩,?_⟩
    ·(exact⟨ah,ah⟩)
    ·((try dsimp only);omega)
   replace aR:=bf aR;refine jO ⟨_,rfl,.inl ab⟩ rfl ?_;refine jO ⟨_,rfl,.inl (ae ab)⟩ rfl ?_;refine jO ⟨_,rfl,.inl (ag ab)⟩ rfl ?_;refine jO ⟨_,rfl,.inl (ae (ag ab))⟩ rfl ?_;refine jO ⟨_,rfl,.inl (aj ab)⟩ rfl ?_;refine jO ⟨_,rfl,.inl (ae (aj ab))⟩ rfl ?_;refine dj (λ_=>(bG (ag (aj ab)) ay)) trivial rfl ?_;refine dj (λ_=>(al aa)) trivial rfl ?_;refine jO ⟨_,rfl,.inl aa⟩ rfl ?_;refine jO ⟨_,rfl,.inl (ae aa)⟩ rfl ?_;refine jO ⟨_,rfl,.inl (ag aa)⟩ rfl ?_;refine jO ⟨_,rfl,.inl (ae (ag aa))⟩ rfl ?_;refine dj (λ_=>(bG (aj aa) ay)) trivial rfl ?_;refine jX (λcR aF=>?_);have bN:=ef 0 aF (ae (aJ an));have bO:=ef 2 aF (ae (aJ af));have bP:=ef 3 aF (ae (aJ ao));have bQ:=ef 10 aF (ae (aJ ar));have bR:=ef 11 aF (ae (aJ au));have bS:=ef 12 aF (ae (aJ av));have bT:=ef 33 aF aa;clear aF ab an ar au av af ao aQ aL;refine gi<|tc bT ?_
   refine rF<|vA<|gi<|nC ?_
   (refine dj (λ_=>(cv bS ay ?_)) trivial rfl ?_; · (unfold In64;omega))
   refine dj (λ_=>(al aa)) trivial rfl ?_;refine jX (λcT aK=>?_);have cn:=ef 0 aK (ag bN);have co:=ef 2 aK (ag bO);have cr:=ef 3 aK (ag bP);have cu:=ef 10 aK (ag bQ);have cw:=ef 11 aK (ag bR);have cx:=ef 12 aK aa;clear aK bN bQ bR bS bO bT bP;refine gi<|⟨_,⟨cx,(cn.trans aX.symm),(co.trans aY.symm),(cr.trans aZ.symm),(cu.trans a2.symm),(cw.trans a3.symm),rfl,(by(rw [hix,Ic hinv.1 ah];done)),?_⟩,?_⟩
   ·(exact⟨ah,ah⟩)
   ·((try dsimp only);omega)
  replace aO:=bf aO;refine Ae<|rG<|rG<|yN ?_
  refine BO (λhb_=>?_)
  (rw [hix,zA];unfold eX;rw [show j.toNat=l.js.length by omega];done)
theorem Dy(l:aP)(L c s p:Int):bN Tryz.prog 48 [il l,mz L c s,mA p] (λq=>q= .clo (.func 81) [] [.ref [il l],.ref [mA p],.ref [mA L,mA c,mA s]]):=by
 refine cw (fn:=Tryz.f48) 8 ai rfl ai aU ?_;intro aj aO hA ap;have av:ak aj (.tmp 0)=_:=hA 0 _ rfl;have aw:ak aj (.tmp 1)=_:=hA 1 _ rfl;have ax:ak aj (.tmp 2)=_:=hA 2 _ rfl;have al:aO.length=0:=by rw [ap];rfl
 clear hA ap;refine au<|at_<|aL (cZ av rfl al) trivial rfl (λaQ am=>?_)
 have az:=bu am al
 (skip)
 have ab:=br am al;have ab:_=1:=ab;clear am;refine aL (cZ (ae aw) rfl ab) trivial rfl (λaR ah=>?_);have aA:=bu ah ab
 (skip)
 have aC:=aK ah az;have ad:=br ah ab;have ad:_=2:=ad;clear ah az;refine aL (cZ (ag ax) rfl ad) trivial rfl (λaS af=>?_);have aD:=bu af ad
 (skip)
 have aF:=aK af aA;have aG:=aK af aC;have an:=br af ad;have an:_=3:=an;clear af aA aC;refine ar (aB ay) rfl<|bJ (ae (ag aa)) (ag aa) (ae aa) ?_;clear av aw ax;intro aT aH aI aJ
 refine ao<|au<|at_<|ar (kX aM (aE aH (aE aJ (aE aI aM)))) rfl<|ar (aB aa) rfl<|aY aa ?_;clear aH aI aJ;intro aX aN
 refine ao<|bg<|bL bm ai (bc aN) (IP fJ (cH (uk aG (cH (.ro _ rfl) fJ)) (cH (uk aD (cH (.ro _ rfl) fJ)) (cH (uk aF (cH (.ro _ rfl) (cH (.ro _ rfl) (cH (.ro _ rfl) fJ)))) fJ)))) ?_
 clear aN aD aF aG an;rfl
def sJ(l:aP)(L p j:Int):Bool:=decide (0<=j)&&decide (j<l.js.length)&&kj l L p j.toNat
def uU(l:aP)(L p j:Int)(i:Nat):Prop:=∀ k:Nat,k<i-> ∀ n:Nat,(eX l L p)[k]? =some n->(n:Int)≠j
theorem uU.step{l:aP}{L p j:Int}{i n:Nat}(h:uU l L p j i)(hn:(eX l L p)[i]? =some n)(hne:¬ (n:Int)=j):uU l L p j (i+1):=λk hk m hm=>by
 by_cases hki:k=i
 ·subst hki;rw [hn]at hm;cases hm;exact hne
 ·exact h k ah m hm
theorem QM{l:aP}{L p j:Int}{n:Nat}(hj:(n:Int)=j)(n1:n<l.js.length)(n2:p<b9 l.bs n)(n3:b9 l.bs n<p+L):sJ l L p j=true:=by
 subst hj;simp [sJ,kj,n1,n2,n3]
theorem Um{l:aP}{L p j:Int}(h:uU l L p j (oc l L p).length):sJ l L p j=false:=by
 cases hb:sJ l L p j with
 | false=>rfl
 | true=>
  unfold sJ at hb;simp only [Xg,decide_eq_true_eq]at hb;obtain⟨⟨h0,h1⟩,h2⟩:=hb;have hm:j.toNat∈eX l L p:=by
   unfold eX;rw [List.mem_filter];exact⟨XX.2 ah,h2⟩
  obtain⟨k,hk⟩:=List.mem_iff_getElem?.1 hm;have hlt:=(Xe.1 hk).1;exact absurd (show((j.toNat:Nat):Int)=j by omega) (h k (by rw [zA];exact hlt) _ hk)
theorem KE(l:aP)(hl:eo l)(hg:(cx l).2=0)(L c s p j:Int)(hv:gB L c s=0)(hp:sH l L s p=0):bN Tryz.prog 25 [dL l,mz L c s,.agg [mA p,mA j]] (λq=>q=if sJ l L p j then .tuple [.agg [mA (na l L p j.toNat),mA (nc l L p j.toNat)],mA 0]else .tuple [.agg [mA 0,mA 0],mA 6]):=by
 refine cw (fn:=Tryz.f25) 40 ai rfl ai aU ?_;intro bz dK hA cr;have cu:ak bz (.tmp 0)=_:=hA 0 _ rfl;have cv:ak bz (.tmp 1)=_:=hA 1 _ rfl;have cz:ak bz (.tmp 2)=_:=hA 2 _ rfl;have bA:dK.length=0:=by rw [cr];rfl
 clear hA cr;have h:=kJ hg;have hv2:=uv.1 hv;have hp2:=VK.1 hp;have hpb:=h.nq (n:=l.bs.length) (Xf _);refine au<|at_<|aL (cZ cu rfl bA) trivial rfl (λei bB=>?_)
 have cA:=bu bB bA;have a3:=br bB bA;have a3:_=1:=a3;clear bB;refine aL (cZ (ae cv) rfl a3) trivial rfl (λej be=>?_);have cB:=bu be a3;have cC:=aK be cA;have a5:=br be a3;have a5:_=2:=a5;clear be cA;refine aL (cZ (ag cz) rfl a5) trivial rfl (λek a6=>?_);have cD:=bu a6 a5;have cE:=aK a6 cB;have cG:=aK a6 cC;have a7:=br a6 a5;have a7:_=3:=a7;clear a6 cB cC;refine aL (cy qE rfl a7) trivial rfl (λen aQ=>?_);have bD:=bu aQ a7;simp only [pS,Value.cells,Nat.reduceAdd]at bD;have cH:=aK aQ cD;have cJ:=aK aQ cE;have cL:=aK aQ cG;have a8:=br aQ a7;have a8:_=4:=a8;clear aQ cD cE cG;refine aL (cy xJ rfl a8) trivial rfl (λep aI=>?_);have bE:=bu aI a8;simp only [pS,Value.cells,Nat.reduceAdd]at bE;have cM:=aK aI bD;have bF:=aK aI cH;have bG:=aK aI cJ;have bH:=aK aI cL;have a9:=br aI a8;have a9:_=5:=a9;clear aI bD cH cJ cL;refine bR (aj aa) (ae (ag aa)) (ag aa) (ae aa) aa ?_;clear cu cv cz;intro er cN bI bJ cO cP;refine ao<|au<|at_<|ar (ax (aH QJ rfl bH cN az) bk) rfl ?_
 refine ar (ax (aH zz rfl bG (ae bI) az) bk) rfl ?_;refine ar (xq vO (ag bJ) ay rfl) rfl<|ar (ax (aH oQ rfl bF aa az) bk) rfl ?_
 refine ar (bh (aE (ae (ag aa)) (aE (ag aa) (aE aa aM))) rfl (KX l hl hg L c s p hv) N6) rfl<|ar (al aa) rfl<|ar (cI aa rfl) rfl<|ar (cI (ae aa) rfl) rfl<|aL (cy Iz rfl a9) trivial rfl (λeu ab=>?_)
 have bo:=bu ab a9;simp only [pS,Value.cells,Nat.reduceAdd]at bo;have cQ:=aK ab bE;have cR:=aK ab cM;have cT:=aK ab bF;have cU:=aK ab bG;have cV:=aK ab bH;have bL:=br ab a9;have bL:_=6:=bL;clear ab bE cM bF bG bH;refine aL (bP aa (ag aa) rfl rfl bo IH rfl az) trivial rfl (λaR ad=>?_);have ba:=aZ ad bo;simp only [pS,Value.cells,Nat.reduceAdd]at ba;have bM:=aw ad cQ aD;have bO:=aw ad cR aD;have bp:=aw ad cT aD;have bv:=aw ad cU aD;have bQ:=aw ad cV aD;have dM:=aX ad bL;clear ad bo cQ cR cT cU cV;refine ar (aB (aC (ae aa))) rfl<|dh (ae (aC (ae (aA bI)))) (ae (aC (ae (aA bJ)))) (ae (aC (ae (aA cO)))) (ae (aC (ae (aA cP)))) (ae (aC aa)) aa ?_;clear cN bI bJ cO cP;intro ev cW cX cY c6 c7 bT
 refine ao<|au<|au<|at_<|ar (al bT) rfl<|ar (dB aa ay) rfl<|fX (ag cW) (ag cX) (ag cY) (ag c6) (ag c7) (ag bT) aa ?_;clear cW cX cY c6 c7 bT;intro ew bW bY c8 c9 bZ dN da
 refine ao<|bj da (λbb=>?_) (λbb=>?_)
 ·replace bb:=dR bb;exfalso;omega
 replace bb:=dp bb;refine bC<|ao<|au<|au<|at_<|ar (ax (aH yZ rfl ba bZ az) bk) rfl ?_
 refine ar (ax (aH zz rfl bv (ae bW) az) bk) rfl ?_;refine ar (xq vO (ag bY) ay rfl) rfl<|ar (ax (aH oQ rfl bp aa az) bk) rfl ?_
 refine ar (bh (aE (ae (ag aa)) (aE (ag aa) (aE aa aM))) rfl (Dy l L c s p) IB) rfl<|dh (ae (aj bW)) (ae (aj bY)) (ae (aj c8)) (ae (aj c9)) (ae (aj bZ)) aa ?_;clear da bW bY c8 c9 bZ dN;intro ey b0 b1 aS aT b2 bw
 refine ao<|bV<|Nc bw (C4 l h L c s p hv2.1 ah) IG (by exact F9) aU (λi mem=>(mem[5]? =aR[5]?)/\(mem[4]? =aR[4]?)/\(mem[3]? =aR[3]?)/\(mem[2]? =aR[2]?)/\(mem[1]? =aR[1]?)/\(mem[0]? =aR[0]?)/\(mem.length=6)/\((uU l L p j i))) ⟨rfl,rfl,rfl,rfl,rfl,rfl,dM,?_⟩ ?_ ?_
 ·(intro k hk;omega)
 ·rintro ez eA dO dP ⟨b6,b7,b9,ca,cb,cc,bx,hinv⟩
  (obtain⟨n,hn,rfl,n1,n2,n3⟩:=Ie dP;have hq:Pos l L p n:=⟨ah,ah,ah,ah,ah,ah,n1⟩)
  have aJ:=b6.trans ba;have aY:=b7.trans bM;have af:=b9.trans bO;have am:=ca.trans bp;have aO:=cb.trans bv;have a2:=cc.trans bQ;refine sj (λeC an=>?_);have dc:=ef 4 an (ae b0);have dd:=ef 5 an (ae b1);have de:=ef 6 an (ae aS);have df:=ef 7 an (ae aT);have dg:=ef 8 an (ae b2);have dQ:=ef 27 an (ae bw);have di:=ef 28 an aa;clear an;refine at_<|ar (aB di) rfl<|dh (ae dc) (ae dd) (ae de) (ae df) (ae dg) aa ?_;clear dQ di dc dd de df dg;intro eD dj cd dk dl dm ce
  refine Af ?_;refine bV<|au<|at_<|ar (al ce) rfl<|ar (xq vO (ae cd) ay rfl) rfl<|ar (ax (aH oQ rfl am aa az) bk) rfl ?_
  refine ar (e6 (ag aa) aa) rfl ?_;refine fX (aj dj) (aj cd) (aj dk) (aj dl) (aj dm) (aj ce) aa ?_;clear ce dj cd dk dl dm;intro eE dn dr cf cg dt du dv;refine ao<|bj dv (λbc=>?_) (λbc=>?_)
  ·replace bc:=bt bc;refine au<|at_<|ar (ax (aH yZ rfl aJ dt az) bk) rfl ?_
   refine ar (ax (aH zz rfl aO (ae dn) az) bk) rfl ?_;refine ar (xq vO (ag dr) ay rfl) rfl<|ar (ax (aH oQ rfl am aa az) bk) rfl ?_
   refine ar (al (aj du)) rfl<|ar (bh (aE (aj aa) (aE (ae (ag aa)) (aE (ae aa) (aE aa aM)))) rfl (C3 l h L c s p n hq) IC) rfl<|aL (bP (ag (aj cf)) aa rfl rfl af m8 rfl az) trivial rfl (λeF ap=>?_)
   have ci:=aZ ap af;simp only [pS,Value.cells,Nat.reduceAdd]at ci;have dw:=aw ap aJ aD;have cj:=aw ap aY aD;have dx:=aw ap am aD;have dy:=aw ap aO aD;have dz:=aw ap a2 aD;have dU:=aX ap bx;clear ap aJ aY af am aO a2;refine aL (bP (aC (ag (aj cg))) ay rfl rfl cj qI rfl az) trivial rfl (λeG av=>?_);have ck:=aZ av cj;simp only [pS,Value.cells,Nat.reduceAdd]at ck;have dA:=aw av ci aD;have dV:=aw av dw aD;have dW:=aw av dx aD;have dX:=aw av dy aD;have dY:=aw av dz aD;have dZ:=aX av dU;clear av ci dw cj dx dy dz;refine bq (aC (aC (ag (aj cf)))) (aC (aC (ag (aj cg)))) ?_;clear du dv dn dr cf cg dt;intro eJ eK eL;refine ao<|bg<|db<|BQ<|db<|bS<|eh bm ai (dE aS dA F8 az aN) (dE aT ck F7 az aN) (eB (.ro _ rfl)) (qQ (.ro _ rfl)) ?_
   clear bw b0 b1 aS aT b2 ck dA dV dW dX dY dZ
   (have hj:(n:Int)=j:=(by assumption);rw [if_pos (QM hj n1 n2 n3), <- hj];rfl)
  replace bc:=bf bc;refine bC<|cK<|BP ⟨(aJ.trans ba.symm),(aY.trans bM.symm),(af.trans bO.symm),(am.trans bp.symm),(aO.trans bv.symm),(a2.trans bQ.symm),bx,?_⟩
  (exact hinv.step hn (by assumption))
 ·rintro dO ⟨b6,b7,b9,ca,cb,cc,bx,hinv⟩;have aJ:=b6.trans ba;have aY:=b7.trans bM;have af:=b9.trans bO;have am:=ca.trans bp;have aO:=cb.trans bv;have a2:=cc.trans bQ;refine cK<|ao<|au<|at_<|ar (dq b8 o9 o8 o7 rfl) rfl ?_
  refine aL (bP (ae aS) aa rfl rfl af m8 rfl az) trivial rfl (λeN aF=>?_);have cm:=aZ aF af;simp only [pS,Value.cells,Nat.reduceAdd]at cm;have dC:=aw aF aJ aD;have cn:=aw aF aY aD;have dD:=aw aF am aD;have dF:=aw aF aO aD;have dG:=aw aF a2 aD;have ea:=aX aF bx;clear aF aJ aY af am aO a2;refine aL (bP (aC (ae aT)) ay rfl rfl cn qI rfl az) trivial rfl (λeO aG=>?_);have co:=aZ aG cn;simp only [pS,Value.cells,Nat.reduceAdd]at co;have dH:=aw aG cm aD;have eb:=aw aG dC aD;have ec:=aw aG dD aD;have ed:=aw aG dF aD;have ee:=aw aG dG aD;have eg:=aX aG ea;clear aG cm dC cn dD dF dG;refine bq (aC (aC (ae aS))) (aC (aC (ae aT))) ?_;clear bw b0 b1 aS aT b2;intro eP dI dJ;refine ao<|bg<|eh bm ai (dE dI dH F8 az aN) (dE dJ co F7 az aN) (eB (.ro _ rfl)) (qQ (.ro _ rfl)) ?_
  clear dI dJ co dH eb ec ed ee eg
  (rw [if_neg (by rw [Um hinv];decide)];rfl)
theorem Aw:aQ Tryz.prog 3 false 1:=⟨ai,ai⟩
theorem CM(L c s:Int):bN Tryz.prog 16 [mz L c s] (λq=>q=mA (gB L c s)):=by
 refine cw (fn:=Tryz.f16) 19 ai rfl ai aU ?_;intro aT aX hA aJ;have aK:ak aT (.tmp 0)=_:=hA 0 _ rfl;have aw:aX.length=0:=by rw [aJ];rfl
 clear hA aJ;refine au<|at_<|aL (cZ aK rfl aw) trivial rfl (λaZ aC=>?_)
 have af:=bu aC aw;have ah:=br aC aw;have ah:_=1:=ah;clear aC;refine ar (aB ay) rfl<|aY (ae aa) ?_;clear aK;intro a2 am
 refine ao<|au<|au<|at_<|ar (aI nA rfl am) rfl<|ar (ax (aH Aw rfl af aa az) bk) rfl ?_
 refine ar (bh (aE aa (aE ay (aE ay aM))) rfl (pT _ _ _) qo) rfl<|ar (c8 aa) rfl<|ar (al aa) rfl<|bQ aa (λab an=>?_) (λab an=>?_)
 ·replace an:=di an;refine aF ⟨_,rfl,.inl ab⟩ rfl ?_;refine aF ⟨_,rfl,.inl (ae ab)⟩ rfl ?_;refine aF ⟨_,rfl,.inl (ag ab)⟩ rfl ?_;refine aF ⟨_,rfl,.inl (ae (ag ab))⟩ rfl ?_;refine ar (bD (aj ab) ay) rfl<|ar (al aa) rfl<|aF ⟨_,rfl,.inl aa⟩ rfl ?_
  refine aF ⟨_,rfl,.inl (ae aa)⟩ rfl ?_;refine aF ⟨_,rfl,.inl (ag aa)⟩ rfl ?_;refine aF ⟨_,rfl,.inl (ae (ag aa))⟩ rfl ?_;refine ar (bD (aj aa) ay) rfl<|aY aa ?_;clear ab am;intro a3 aN
  refine ao<|lG aN<|au<|at_<|ar (aB ay) rfl<|aY aa ?_;clear aN;intro a5 aO
  refine ao<|bg<|bS<|bL bm ai (bc aO) (.ro _ rfl) ?_
  clear aO af ah
  (unfold gB dy;simp_all)
 replace an:=dm an;refine aG (aI oN rfl (ae (aj am))) ⟨_,rfl,ab⟩ rfl ?_;refine aG (ax (aH Aw rfl af aa az) bk) ⟨_,rfl,(ae ab)⟩ rfl ?_;refine aG (bh (aE aa (aE ay (aE ay aM))) rfl (pT _ _ _) qo) ⟨_,rfl,(ag ab)⟩ rfl ?_;refine aG (c8 aa) ⟨_,rfl,(ae (ag ab))⟩ rfl ?_;refine ar (bG (aj ab) aa) rfl<|ar (al aa) rfl<|bQ aa (λad ap=>?_) (λad ap=>?_)
 ·replace ap:=di ap;refine aF ⟨_,rfl,.inl ad⟩ rfl ?_;refine aF ⟨_,rfl,.inl (ae ad)⟩ rfl ?_;refine aF ⟨_,rfl,.inl (ag ad)⟩ rfl ?_;refine aF ⟨_,rfl,.inl (ae (ag ad))⟩ rfl ?_;refine ar (bD (aj ad) ay) rfl<|aY aa ?_;clear ab ad am;intro a6 aP
  refine ao<|lG aP<|au<|at_<|ar (aB ay) rfl<|aY aa ?_;clear aP;intro a7 aQ
  refine ao<|bg<|bS<|bL bm ai (bc aQ) (.ro _ rfl) ?_
  clear aQ af ah
  (unfold gB dy;simp_all)
 replace ap:=dm ap;refine aG (aI tH rfl (ae (ag (aA am)))) ⟨_,rfl,ad⟩ rfl ?_;refine aG (ax (aH Aw rfl af aa az) bk) ⟨_,rfl,(ae ad)⟩ rfl ?_;refine aG (bh (aE aa (aE ay (aE ay aM))) rfl (pT _ _ _) qo) ⟨_,rfl,(ag ad)⟩ rfl ?_;refine aG (c8 aa) ⟨_,rfl,(ae (ag ad))⟩ rfl ?_;refine ar (bG (aj ad) aa) rfl<|aY aa ?_;clear ab ad am;intro a8 aD
 refine ao<|bj aD (λav=>?_) (λav=>?_)
 ·replace av:=di av;refine au<|at_<|ar (aB ay) rfl<|aY aa ?_;clear aD;intro a9 aR
  refine ao<|bg<|bS<|bL bm ai (bc aR) (.ro _ rfl) ?_
  clear aR af ah
  (unfold gB dy;simp_all)
 replace av:=dm av;refine bC<|ao<|au<|at_<|ar (aB ay) rfl<|aY aa ?_;clear aD;intro ba aS
 refine ao<|bg<|bL bm ai (bc aS) (.ro _ rfl) ?_
 clear aS af ah
 (unfold gB dy;simp_all)
theorem N7:aQ Tryz.prog 103 false 1:=⟨ai,ai⟩
theorem kD:aQ Tryz.prog 3 false 1:=⟨ai,ai⟩
def kQ(l:aP)(L s:Int):Nat:=((b9 l.bs l.bs.length - L)/s+1).toNat
def pA(l:aP)(L s:Int):List (List AV):=(List.range (kQ l L s)).map λ(i:Nat)=> [mA ((i:Int)*s)]
theorem Ge{l:aP}{L s:Int}:(pA l L s).length =kQ l L s:=by simp [pA]
theorem QN{l:aP}{L s:Int}:∀ y∈pA l L s,y.length=1:=by
 intro y hy;obtain⟨_,_,rfl⟩:=XL.1 hy;rfl
theorem uw{l:aP}{L s:Int}(hs:1<=s)(k:Nat):k<kQ l L s↔(k:Int)*s+L<=b9 l.bs l.bs.length:=by
 unfold kQ;have h:(k:Int)<=(b9 l.bs l.bs.length - L)/s↔(k:Int)*s<=b9 l.bs l.bs.length - L:=Int.le_ediv_iff_mul_le ah
 constructor
 ·intro h1;have:=h.1 ah;omega
 ·intro h1;have:=h.2 ah;omega
theorem Un{l:aP}{L s:Int}{k i:Nat}(hk:k<kQ l L s)(hi:i=k):(pA l L s)[i]? =some [mA ((k:Int)*s)]:=by
 subst hi;simp [pA,hk]
theorem Uo{l:aP}{L s:Int}{i:Nat}{y:AV}(h:(pA l L s)[i]? =some [y]):i<kQ l L s/\y=mA ((i:Int)*s):=by
 unfold pA at h;rw [Xh]at h
 by_cases hi:i<kQ l L s
 ·rw [Yt hi]at h;simp at h;exact⟨hi,h.symm⟩
 ·rw [Xq cJ]at h;cases h
theorem MP(l:aP)(h:cM l)(L c u:Int)(hL:1000<=L/\L<=30000)(hu:1<=u/\u<=30000):nP Tryz.prog 80 [] [.ref [mA L,mA c,mA u],.ref [il l]] (pA l L u):=by
 refine IU (fn:=Tryz.f80) 21 ai rfl ai aU (λ_ _=>⟨.tuple #[],ai⟩) ?_;intro lb_ aC hA;have aG:ak aC (.tmp 0)=_:=hA 0 _ rfl;have aH:ak aC (.tmp 1)=_:=hA 1 _ rfl;have aI:ak aC (.tmp 2)=_:=hA 2 _ rfl;clear hA;have hpb:=h.nq (n:=l.bs.length) (Xf _);refine mX<|nC ?_
 refine dj (λ_=>(aB ay)) trivial rfl ?_;refine jX (λaD au=>?_);have aJ:=ef 0 au (ae aG);have aK:=ef 1 au (ae aH);have aL:=ef 2 au (ae aI);have aS:=ef 4 au aa;clear au aG aH aI;refine gi<|vz<|HA (S:=(Int×Nat)) (λs e b i=>match s with|⟨p,k⟩=>(ak e (.tmp 4)= .v (.int .i64 p))/\(ak e (.tmp 0)=ak aD (.tmp 0))/\(ak e (.tmp 1)=ak aD (.tmp 1))/\(ak e (.tmp 2)=ak aD (.tmp 2))/\(b=true)/\(i=k)/\((p=(k:Int)*u/\0<=p/\p<=1300000/\k<=kQ l L u))) (λs=>match s with|⟨p,k⟩=>(1300000 - p).toNat) ⟨_,0⟩ ⟨aS,rfl,rfl,rfl,rfl,eL,?_⟩ ?_
 ·(exact⟨ah,ah,ah,ah⟩)
 ·rintro⟨p,k⟩ a8 _ a9 ⟨ad,aT,aX,aY,rfl,hix,hinv⟩;have af:=aT.trans aJ;have am:=aX.trans aK;have an:=aY.trans aL
  (obtain⟨q1,q2,q3,q4⟩:=hinv)
  refine mX<|mX<|Tt 10 ai ai ai ai ?_
  refine mO (λ_=>(al ad)) trivial rfl ?_;refine mO (λ_=>(ax (bY nA rfl (ae am)) bk)) trivial rfl ?_;refine mO (λ_=>(ax (bF kD rfl aa az) bk)) trivial rfl ?_
  (refine mO (λ_=>(cv (ag aa) aa ?_)) trivial rfl ?_; · (unfold In64;omega))
  refine mO (λ_=>(ax (bF N7 rfl (aj an) az) bk)) trivial rfl ?_;refine mO (λ_=>(bh (aE aa aM) rfl (D8 l h) ID)) trivial rfl ?_;refine mO (λ_=>(fA (ag aa) aa)) trivial rfl ?_;refine mO (λ_=>(al aa)) trivial rfl ?_;refine PW aa (λab av=>?_) (λab av=>?_)
  ·replace av:=bt av;refine mO (λ_=>(al (aA af))) ⟨_,rfl,ab⟩ rfl ?_;refine mO (λ_=>(al (ae (aA ad)))) ⟨_,rfl,(ae ab)⟩ rfl ?_;refine HG ?_;refine DO (ae aa) (aE aa aM) rfl ⟨_,rfl,(ag ab)⟩ rfl (by(rw [q1];exact Un ((uw hu.1 k).2 ah) hix)) ?_ ?_
   ·
    refine dj (λ_=>(bD (ae (ag ab)) aa)) trivial rfl ?_;refine jX (λba ao=>?_);have aN:=ef 0 ao (aj (aA af));have aF:=ef 1 ao (aj (aA am));have aO:=ef 2 ao (aj (aA an));have aQ:=ef 4 ao (aj (aA ad));have aR:=ef 16 ao aa;clear ao ab af am an ad;refine gi<|Hz aR ?_
    refine rF<|gi<|mX<|vz<|rF<|vA<|gi<|nC ?_
    refine dj (λ_=>(al aQ)) trivial rfl ?_;refine dj (λ_=>(ax (bY tH rfl (ae aF)) bk)) trivial rfl ?_;refine dj (λ_=>(ax (bF kD rfl aa az) bk)) trivial rfl ?_
    (refine dj (λ_=>(cv (ag aa) aa ?_)) trivial rfl ?_; · (unfold In64;omega))
    refine dj (λ_=>(aB aa)) trivial rfl ?_;refine jX (λbb aw=>?_);have aZ:=ef 0 aw (ae (aj aN));have a2:=ef 1 aw (ae (aj aF));have a3:=ef 2 aw (ae (aj aO));have a5:=ef 4 aw aa;clear aw aN aR aF aO aQ;refine gi<|⟨⟨_,k+1⟩,⟨a5,(aZ.trans aJ.symm),(a2.trans aK.symm),(a3.trans aL.symm),rfl,(by(rw [hix])),?_⟩,?_⟩
    ·(have hk:=(uw (l:=l) (L:=L) hu.1 k).2 ah;refine⟨?_,ah,ah,ah⟩;rw [q1];show _=((k:Int)+1)*u;rw [Int.add_mul,Int.one_mul])
    ·((try dsimp only);omega)
   ·
    refine dj (λ_=>(bD (ae (ag ab)) aa)) trivial rfl ?_;refine jX (λbc ap=>?_);have be:=ef 0 ap (aj (aA af));have bg:=ef 1 ap (aj (aA am));have bj:=ef 2 ap (aj (aA an));have bm:=ef 4 ap (aj (aA ad));have a6:=ef 16 ap aa;clear ap ab af am an ad;refine gi<|tc a6 ?_
    refine Ae<|rG<|rG<|yN ?_
    refine BO (λhb_=>(by cases hb_))
  replace av:=bf av;refine DU ⟨_,rfl,.inl ab⟩ rfl ?_;refine DU ⟨_,rfl,.inl (ae ab)⟩ rfl ?_;refine HG ?_;refine jO ⟨_,rfl,.inl (ag ab)⟩ rfl ?_;refine dj (λ_=>(bG (ae (ag ab)) ay)) trivial rfl ?_;refine jX (λbo ar=>?_);have bp:=ef 0 ar (aj (aA af));have bq:=ef 1 ar (aj (aA am));have br:=ef 2 ar (aj (aA an));have bu:=ef 4 ar (aj (aA ad));have a7:=ef 16 ar aa;clear ar ab af am an ad;refine gi<|tc a7 ?_
  refine Ae<|rG<|rG<|yN ?_
  refine BO (λhb_=>?_)
  (rw [hix,Ge];have hn:¬ k<kQ l L u:=(λhh=>by have:=(uw hu.1 k).1 hh;omega);omega)
theorem QO(l:aP)(L c u:Int):bN Tryz.prog 47 [il l,mz L c u] (λq=>q= .clo (.func 80) [] [.ref [mA L,mA c,mA u],.ref [il l]]):=by
 refine cw (fn:=Tryz.f47) 6 ai rfl ai aU ?_;intro an aD hA ap;have av:ak an (.tmp 0)=_:=hA 0 _ rfl;have aw:ak an (.tmp 1)=_:=hA 1 _ rfl;have af:aD.length=0:=by rw [ap];rfl
 clear hA ap;refine au<|at_<|aL (cZ av rfl af) trivial rfl (λaF ah=>?_)
 have aj:=bu ah af
 (first|(simp only [pS,Value.cells,Nat.reduceAdd]at aj;trace "W2.N.1.1")|skip)
 have ab:=br ah af;have ab:_=1:=ab;clear ah;refine aL (cZ (ae aw) rfl ab) trivial rfl (λaG ad=>?_);have al:=bu ad ab
 (first|(simp only [pS,Value.cells,Nat.reduceAdd]at al;trace "W2.N.2.1")|skip)
 have ax:=aK ad aj;have am:=br ad ab;have am:_=2:=am;clear ad aj;refine ar (aB ay) rfl<|bq (ag aa) (ae aa) ?_;clear av aw;intro aH az aA
 refine ao<|au<|at_<|ar (kX aM (aE aA (aE az aM))) rfl<|ar (aB aa) rfl<|aY aa ?_;clear az aA;intro aI aC
 refine ao<|bg<|bL bm ai (bc aC) (IP fJ (cH (uk al (cH (.ro _ rfl) (cH (.ro _ rfl) (cH (.ro _ rfl) fJ)))) (cH (uk ax (cH (.ro _ rfl) fJ)) fJ))) ?_
 clear aC al ax am;rfl
def mB(c lo hi:Int):Int:=if -c<=lo/\hi<=c then 2 else if hi< -c\/c<lo then 0 else 1
theorem N8(L c u lo hi:Int)(hc:0<=c/\c<=1000):bN Tryz.prog 50 [mz L c u,.agg [mA lo,mA hi]] (λq=>q=mA (mB c lo hi)):=by
 refine cw (fn:=Tryz.f50) 31 ai rfl ai aU ?_;intro a6 bB hA a7;have a8:ak a6 (.tmp 0)=_:=hA 0 _ rfl;have a9:ak a6 (.tmp 1)=_:=hA 1 _ rfl;have aR:bB.length=0:=by rw [a7];rfl
 clear hA a7;refine au<|at_<|aL (cZ a8 rfl aR) trivial rfl (λbE aS=>?_)
 have ba:=bu aS aR;have ap:=br aS aR;have ap:_=1:=ap;clear aS;refine aL (cZ (ae a9) rfl ap) trivial rfl (λbF aN=>?_);have ad:=bu aN ap;have af:=aK aN ba;have ah:=br aN ap;have ah:_=2:=ah;clear aN ba;refine ar (aB ay) rfl<|bq (ag aa) (ae aa) ?_;clear a8 a9;intro bH am an
 refine ao<|au<|bV<|au<|at_<|ar (aI fx rfl an) rfl<|ar (ax (aH kD rfl ad aa az) bk) rfl ?_
 refine ar (aI oN rfl (ag am)) rfl<|ar (ax (aH kD rfl af aa az) bk) rfl ?_
 (refine ar (qg aa ?_) rfl ?_; · (unfold In64;omega))
 refine ar (mW (ae (ag aa)) aa) rfl<|ar (al aa) rfl<|bQ aa (λab av=>?_) (λab av=>?_)
 ·replace av:=bt av;refine aG (aI fy rfl (ae (ag (aj an)))) ⟨_,rfl,ab⟩ rfl ?_;refine aG (ax (aH kD rfl ad aa az) bk) ⟨_,rfl,(ae ab)⟩ rfl ?_;refine aG (aI oN rfl (ae (aA am))) ⟨_,rfl,(ag ab)⟩ rfl ?_;refine aG (ax (aH kD rfl af aa az) bk) ⟨_,rfl,(ae (ag ab))⟩ rfl ?_;refine aG (fA (ag aa) aa) ⟨_,rfl,(aj ab)⟩ rfl ?_;refine ar (bD (ae (aj ab)) aa) rfl<|ar (aB aa) rfl<|bJ (ag (aj (aA am))) (ag (aj (aA an))) aa ?_;clear ab am an;intro bI aO aP aT
  refine ao<|bj aT (λaw=>?_) (λaw=>?_)
  ·replace aw:=bt aw;refine au<|at_<|ar (aB ay) rfl<|aY aa ?_;clear aO aP aT;intro bM bb
   refine ao<|bg<|db<|bS<|bL bm ai (bc bb) (.ro _ rfl) ?_
   clear bb ad af ah
   (refine nk ?_;unfold mB;(repeat' split)<;>first|rfl|omega)
  replace aw:=bf aw;refine au<|au<|at_<|ar (aI fy rfl aP) rfl<|ar (ax (aH kD rfl ad aa az) bk) rfl ?_
  refine ar (aI oN rfl (ag aO)) rfl<|ar (ax (aH kD rfl af aa az) bk) rfl ?_
  (refine ar (qg aa ?_) rfl ?_; · (unfold In64;omega))
  refine ar (cU (ae (ag aa)) aa) rfl<|ar (aB aa) rfl<|bJ (ae (ag (aj aO))) (ae (ag (aj aP))) aa ?_;clear aO aP aT;intro bO be bh bo
  refine ao<|bj bo (λaC=>?_) (λaC=>?_)
  ·replace aC:=bt aC;exfalso;omega
  replace aC:=bf aC;refine at_<|ar (aI fx rfl bh) rfl<|ar (ax (aH kD rfl ad aa az) bk) rfl ?_
  refine ar (aI oN rfl (ag be)) rfl<|ar (ax (aH kD rfl af aa az) bk) rfl ?_
  refine ar (ey (ag aa) aa) rfl<|ar (aB aa) rfl<|aY aa ?_;clear bo be bh;intro bP aX
  refine ao<|bj aX (λaD=>?_) (λaD=>?_)
  ·replace aD:=bt aD;refine au<|at_<|ar (aB ay) rfl<|aY aa ?_;clear aX;intro bR bp
   refine ao<|bg<|db<|bS<|bL bm ai (bc bp) (.ro _ rfl) ?_
   clear bp ad af ah
   (refine nk ?_;unfold mB;(repeat' split)<;>first|rfl|omega)
  replace aD:=bf aD;refine bC<|cK<|ao<|au<|at_<|ar (aB ay) rfl<|aY aa ?_;clear aX;intro bT bv
  refine ao<|bg<|bL bm ai (bc bv) (.ro _ rfl) ?_
  clear bv ad af ah
  (refine nk ?_;unfold mB;(repeat' split)<;>first|rfl|omega)
 replace av:=bf av;refine aF ⟨_,rfl,.inl ab⟩ rfl ?_;refine aF ⟨_,rfl,.inl (ae ab)⟩ rfl ?_;refine aF ⟨_,rfl,.inl (ag ab)⟩ rfl ?_;refine aF ⟨_,rfl,.inl (ae (ag ab))⟩ rfl ?_;refine aF ⟨_,rfl,.inl (aj ab)⟩ rfl ?_;refine ar (bG (ae (aj ab)) ay) rfl<|ar (aB aa) rfl<|bJ (ag (aj (aA am))) (ag (aj (aA an))) aa ?_;clear ab am an;intro bW aZ a2 bw
 refine ao<|hU bw<|au<|au<|at_<|ar (aI fy rfl a2) rfl<|ar (ax (aH kD rfl ad aa az) bk) rfl ?_
 refine ar (aI oN rfl (ag aZ)) rfl<|ar (ax (aH kD rfl af aa az) bk) rfl ?_
 (refine ar (qg aa ?_) rfl ?_; · (unfold In64;omega))
 refine ar (cU (ae (ag aa)) aa) rfl<|ar (aB aa) rfl<|bJ (ae (ag (aj aZ))) (ae (ag (aj a2))) aa ?_;clear aZ a2 bw;intro bY a3 a5 aQ
 refine ao<|bj aQ (λaE=>?_) (λaE=>?_)
 ·replace aE:=bt aE;refine bC<|ao<|bj aQ (λaJ=>?_) (λaJ=>?_)
  ·replace aJ:=bt aJ;refine au<|at_<|ar (aB ay) rfl<|aY aa ?_;clear aQ a3 a5;intro bZ bx
   refine ao<|bg<|db<|bS<|bL bm ai (bc bx) (.ro _ rfl) ?_
   clear bx ad af ah
   (refine nk ?_;unfold mB;(repeat' split)<;>first|rfl|omega)
  ·replace aJ:=bf aJ;exfalso;omega
 replace aE:=bf aE;refine at_<|ar (aI fx rfl a5) rfl<|ar (ax (aH kD rfl ad aa az) bk) rfl ?_
 refine ar (aI oN rfl (ag a3)) rfl<|ar (ax (aH kD rfl af aa az) bk) rfl ?_
 refine ar (ey (ag aa) aa) rfl<|ar (aB aa) rfl<|aY aa ?_;clear aQ a3 a5;intro b0 bz
 refine ao<|bj bz (λaM=>?_) (λaM=>?_)
 ·replace aM:=bt aM;exfalso;omega
 replace aM:=bf aM;refine bC<|cK<|ao<|au<|at_<|ar (aB ay) rfl<|aY aa ?_;clear bz;intro b1 bA
 refine ao<|bg<|bL bm ai (bc bA) (.ro _ rfl) ?_
 clear bA ad af ah
 (refine nk ?_;unfold mB;(repeat' split)<;>first|rfl|omega)
theorem Ig{l:aP}{L p:Int}{n:Nat}(hL:1000<=L/\L<=30000)(hp:0<=p/\p+L<=b9 l.bs l.bs.length)(n1:n<l.js.length)(n2:p<b9 l.bs n)(n3:b9 l.bs n<p+L):Pos l L p n:=⟨ah,ah,ah,ah,ah,ah,n1⟩
theorem y7(l:List ep):(l.map bX).flatten.all uq=true:=by
 induction l with
 | nil=>rfl
 | cons p l ih=>simp only [XI,XT,List.all_append,ih,YR];rfl
def aP.Bq(l:aP)(js:List ep):aP:=⟨l.nam,js,l.bs,l.ss⟩
theorem jR(js:List ep)(i:Nat)(a b c d:Int):(js.map bX).set i [AV.v (.int .i64 a),AV.v (.int .i64 b),AV.v (.int .i64 c),AV.v (.int .i64 d)]=(js.set i ⟨a,b,c,d⟩).map bX:=by simp [List.map_set,bX]
theorem Ax{k:Int}{f:Nat->Int}{n:Nat}{z:(Int×Int)×Int}(h:∀ j:Nat,j<n->f j=0):iS k f n z=z:=by
 unfold iS;rw [sX h]
theorem Br{l:aP}(h:cM l):(cx l).2=0:=by
 have h1:=h.n0;have h2:=h.n1;have h3:=h.js;have h4:=h.s1;unfold cx;rw [h.nam,if_neg aD,if_neg ah,if_neg ah,Ax h.ja,Ax h.ba,if_neg ah,Ax h.sa]
structure CB (a b:ep):Prop where
 acr:b.acr=a.acr
 up:b.up=a.up
 lo:a.lo<=b.lo
 le:b.lo<=b.hi
 hi:b.hi<=a.hi
structure eY (l m:aP):Prop where
 nam:m.nam=l.nam
 bs:m.bs=l.bs
 ss:m.ss=l.ss
 len:m.js.length=l.js.length
 js:∀ i:Nat,i<l.js.length->CB (l.js.getD i default) (m.js.getD i default)
theorem Ee{l m:aP}(hb:m.bs=l.bs)(hs:m.ss=l.ss)(i:Nat):fq m i=fq l i:=by unfold fq;rw [hb,hs]
theorem Ih{j:ep}(h:(-20000<=j.acr/\j.acr<=20000)/\(-20000<=j.up/\j.up<=20000)/\ -100<=j.lo/\j.hi<=100/\j.lo<=j.hi):iP j=0:=by
 have h1:g8 j=true:=by
  simp only [g8,eR,Xg,l7];omega
 unfold iP;rw [if_pos h1,if_pos h.2.2.2.2]
theorem eY.Kr{l m:aP}(n:eY l m)(h:cM l):cM m:=by
 refine⟨by rw [n.nam];exact h.nam,by rw [n.bs];exact h.n0,by rw [n.bs];exact h.n1,by rw [n.len,n.bs];exact h.js,λj hj=>?_,λj hj=>?_,by rw [n.ss];exact h.s1,λj hj=>?_⟩
 ·rw [n.len]at hj;have h1:=h.kV j hj;have h2:=n.js j hj;exact Ih (by have:=h2.acr;have:=h2.up;have:=h2.lo;have:=h2.le;have:=h2.hi;omega)
 ·rw [n.bs]at hj ⊢;exact h.ba j hj
 ·rw [n.ss]at hj;rw [Ee n.bs n.ss];exact h.sa j hj
theorem CB.f{a b:ep}(h:CB a b)(w:Int):lB w a<=lB w b/\lB w b<=lC w b/\lC w b<=lC w a:=by
 obtain⟨h1,h2,h3,h4,h5⟩:=h;unfold lB lC;rw [h1];rcases Int.le_total 0 w with hw|hw
 ·have a1:=Int.mul_le_mul_of_nonneg_left h3 hw;have a2:=Int.mul_le_mul_of_nonneg_left h4 hw;have a3:=Int.mul_le_mul_of_nonneg_left h5 hw;omega
 ·have a1:=Int.mul_le_mul_of_nonpos_left hw h3;have a2:=Int.mul_le_mul_of_nonpos_left hw h4;have a3:=Int.mul_le_mul_of_nonpos_left hw h5;omega
theorem Gf{l m:aP}(n:eY l m)(ws:List Int):∀ {k:Nat},k<=l.js.length->iU lB ws l.js k<=iU lB ws m.js k/\iU lB ws m.js k<=iU lC ws m.js k/\iU lC ws m.js k<=iU lC ws l.js k
 | 0,_=>⟨YA _,YA _,YA _⟩
 | k+1,hk=>by
  have ih:=Gf n ws (k:=k) ah;have h1:=(n.js k ah).f (ws.getD k default);simp only [iU];omega
theorem floor_le{x y d:Int}(hd:0<d)(h:x<=y):x/d<= -(-y/d):=by
 have h1:x/d*d<=x:=Int.ediv_mul_le x ah;have h2: -y/d<= -(x/d):=by
  have h3: -y<= -(x/d)*d:=by rw [Int.neg_mul];omega
  have:=Int.ediv_le_ediv hd h3
  rwa [Int.mul_ediv_cancel _ ah]at this
 omega
theorem Up{x y d:Int}(hd:0<d)(h:x<=y): -(-x/d)<= -(-y/d):=by
 have:=Int.ediv_le_ediv hd (show -y<= -x by omega);omega
theorem eY.at{l m:aP}(n:eY l m)(p:Int):da m p=da l p/\fD m p=fD l p:=by unfold fD da;rw [n.bs];exact⟨rfl,rfl⟩
theorem eY.W4{l m:aP}(n:eY l m)(L p:Int)(j:Nat):ki m L p j=ki l L p j/\kh m L p=kh l L p:=by
 have e1:=n.at p;have e2:=n.at (p+L);have e3:kh m L p=kh l L p:=by unfold kh;rw [e1.1,e2.1,n.bs]
 refine⟨?_,e3⟩;unfold ki oa nZ nY nX;rw [e1.1,e2.1,e1.2,e2.2,e3,n.bs,n.len]
theorem eY.dev{l m:aP}(n:eY l m)(h:cM l){L p:Int}{j:Nat}(q:Pos l L p j):na l L p j<=na m L p j/\na m L p j<=nc m L p j/\nc m L p j<=nc l L p j:=by
 obtain⟨e1,e2⟩:=n.W4 L p j;have hd:=(q.bd h).1;obtain⟨s1,s2,s3⟩:=Gf n (ki l L p j) (Xf _);unfold na nc;rw [e1,e2,n.len];exact⟨Int.ediv_le_ediv ah s1,floor_le ah s2,Up ah s3⟩
theorem eY.refl{l:aP}(h:cM l):eY l l:=⟨rfl,rfl,rfl,rfl,λi hi=>⟨rfl,rfl,YA _,(h.kV i hi).2.2.2.2,YA _⟩⟩
theorem eY.W5{l m:aP}(n:eY l m)(L p:Int):eX m L p=eX l L p:=by unfold eX kj;rw [n.len,n.bs]
theorem QP:Tryz.prog.eqGuardType Tryz.prog.depth 23=false:=by kernel_rfl
theorem QQ:Tryz.prog.eqGuardType Tryz.prog.depth 24=false:=by kernel_rfl
theorem QR:Tryz.prog.eqGuardType Tryz.prog.depth 85=false:=by kernel_rfl
theorem N9:∀ args w,(callFunc 84 args).run Tryz.prog w= .ok (.enter 84 args) w:=λ_ _=>by kernel_rfl
theorem Oa:∀ args w,(callFunc 85 args).run Tryz.prog w= .ok (.enter 85 args) w:=λ_ _=>by kernel_rfl
theorem Oc:∀ args w,(callFunc 86 args).run Tryz.prog w= .ok (.enter 86 args) w:=λ_ _=>by kernel_rfl
theorem zB:bO Tryz.prog 23 59 4 32 (.agg #[.int .i64 0,.int .i64 0,.int .i64 0,.int .i64 0]):=⟨ai,ai,ai⟩
theorem zC:bO Tryz.prog 24 95 2 16 (.agg #[.int .i64 0,.int .i64 0]):=⟨ai,ai,ai⟩
theorem vP:bO Tryz.prog 25 97 3 48 (.agg #[.string ByteArray.empty,.int .i64 0,.slice none 0 0]):=⟨ai,ai,ai⟩
theorem zD:bO Tryz.prog 85 3 1 8 (.int .i64 0):=⟨ai,ai,ai⟩
theorem QS:aQ Tryz.prog 23 false 1:=⟨ai,ai⟩
theorem QT:aQ Tryz.prog 24 false 1:=⟨ai,ai⟩
theorem Gg:aQ Tryz.prog 25 false 1:=⟨ai,ai⟩
theorem Gh:aQ Tryz.prog 27 true 4:=⟨ai,ai⟩
theorem QU:aQ Tryz.prog 85 false 1:=⟨ai,ai⟩
theorem Ur:aQ Tryz.prog 9 false 1:=⟨ai,ai⟩
theorem Gi:aQ Tryz.prog 97 true 3:=⟨ai,ai⟩
theorem Bt{α β:Type}{f:α->β}{l:List α}(h:l≠ []):l.map f≠ []:=by simpa using h
theorem MQ(js:List ep)(h0:js≠ [])(hl:js.length<=1000000):BR Tryz.prog 84 [.row 4 (js.map bX)] 59 4 (js.map bX):=by
 refine PO (fn:=Tryz.f84) 8 ai rfl ai aU (by exact y7 js) ?_;intro av aw hA ah;have aj:ak av (.tmp 0)=_:=hA 0 _ rfl;have ab:aw.length=0:=by rw [ah];rfl
 clear hA ah;refine au<|at_<|ar (aB ay) rfl<|aY (ae aj) ?_;clear aj;intro aA ad
 refine ao<|au<|au<|at_<|ar (al ad) rfl<|ar (zp zB QP aa ay (by exact Bt h0)) rfl ?_
 refine bq (ag ad) aa ?_;clear ad;intro aC am an;refine ao<|hU an<|bC<|ao<|au<|at_<|ar (rB zB) rfl<|ar (al (ae am)) rfl<|aL (Vg (by simpa using h0) (by exact y7 js) ab zB rfl (ae aa) aa dP) trivial rfl (λaD af=>?_)
 have ax:=bu af ab;have ap:=br af ab;have ap:_=1:=ap;clear af;refine ar (aB aa) rfl<|aY aa ?_;clear am an;intro aE az
 refine ao<|bg<|Ve bm ai az ax ?_
 first|rfl|(simp;done)
theorem Oe(bs:List fY)(h0:bs≠ [])(hl:bs.length<=1000000):bN Tryz.prog 85 [.row 2 (bs.map cF)] (λq=>q= .row 2 (bs.map cF)):=by
 refine cw (fn:=Tryz.f85) 8 ai rfl ai aU ?_;intro an ap hA ad;have af:ak an (.tmp 0)=_:=hA 0 _ rfl;have av:ap.length=0:=by rw [ad];rfl
 clear hA ad;refine au<|at_<|ar (aB ay) rfl<|aY (ae af) ?_;clear af;intro aw ab
 refine ao<|au<|au<|at_<|ar (al ab) rfl<|ar (zp zC QQ aa ay (by exact Bt h0)) rfl ?_
 refine bq (ag ab) aa ?_;clear ab;intro ax ah aj;refine ao<|hU aj<|bC<|ao<|au<|at_<|ar (rB zC) rfl<|ar (al (ae ah)) rfl<|ar (um zC rfl (ae aa) aa dP) rfl ?_
 refine ar (aB aa) rfl<|aY aa ?_;clear ah aj;intro az am
 refine ao<|bg<|bL bm ai (bc am) (.ro _ rfl) ?_
 clear am av;rfl
theorem Of(xs:List Int)(h0:xs≠ [])(hl:xs.length<=1000000):bN Tryz.prog 86 [.row 1 (xs.map iE)] (λq=>q= .row 1 (xs.map iE)):=by
 refine cw (fn:=Tryz.f86) 8 ai rfl ai aU ?_;intro an ap hA ad;have af:ak an (.tmp 0)=_:=hA 0 _ rfl;have av:ap.length=0:=by rw [ad];rfl
 clear hA ad;refine au<|at_<|ar (aB ay) rfl<|aY (ae af) ?_;clear af;intro aw ab
 refine ao<|au<|au<|at_<|ar (al ab) rfl<|ar (zp zD QR aa ay (by exact Bt h0)) rfl ?_
 refine bq (ag ab) aa ?_;clear ab;intro ax ah aj;refine ao<|hU aj<|bC<|ao<|au<|at_<|ar (rB zD) rfl<|ar (al (ae ah)) rfl<|ar (um zD rfl (ae aa) aa dP) rfl ?_
 refine ar (aB aa) rfl<|aY aa ?_;clear ah aj;intro az am
 refine ao<|bg<|bL bm ai (bc am) (.ro _ rfl) ?_
 clear am av;rfl
def yk(l:aP):Prop:=l.js≠ []/\l.bs≠ []/\ ∀ s∈l.ss,s.acr≠ []
theorem yk.at{l:aP}(h:yk l){i:Nat}(hi:i<l.ss.length):(l.ss.getD i default).acr ≠ []:=by
 rw [Xc,Xd hi];exact h.2.2 _ (XR hi)
theorem Dz(l:aP)(hl:eo l)(hf:yk l):Ba Tryz.prog 53 [dL l] 59 4 (l.js.map bX) [some (.v (.string l.nam)),none,some (.row 2 (l.bs.map cF)),some (.row 3 (l.ss.map ct))]:=by
 obtain⟨h1,h2,h3,h4,h5⟩:=id hl;refine Nl (fn:=Tryz.f53) 34 ai rfl ai aU (by exact y7 l.js) rfl ?_;intro dZ ea hA cg;have ci:ak dZ (.tmp 0)=_:=hA 0 _ rfl;have bM:ea.length=0:=by rw [cg];rfl
 clear hA cg;refine au<|at_<|aL (cZ ci rfl bM) trivial rfl (λeV bN=>?_)
 have cj:=bu bN bM;have aT:=br bN bM;have aT:_=1:=aT;clear bN;refine aL (cy j8 rfl aT) trivial rfl (λeX ba=>?_);have bO:=bu ba aT;simp only [pS,Value.cells,Nat.reduceAdd,ct,gK,bK]at bO;have ck:=aK ba cj;have ap:=br ba aT;have ap:_=2:=ap;clear ba cj;refine bq (ae aa) aa ?_;clear ci;intro eY a2 cm;refine ao<|au<|fZ 10 2 ap ai ai ai ai (λco aF=>?_)
 have cr:=bz aF bO;have bb:=bz aF ck;have bQ:co[2]? =_:=fS aF ap 0 rfl rfl;have cu:co[3]? =_:=fS aF ap 1 rfl rfl;have ec:_=4:=ga (K:=2) aF ap;clear aF bO ck ap;refine aR (λM_ hM_=>(aI oM rfl a2)) trivial ?_;refine cG (0) (λM_ hM_=>(ax (aH Ur rfl (cn hM_ bb aN) aa az) gP)) trivial trivial ?_;refine aR (λM_ hM_=>(aI dN rfl (ag a2))) trivial ?_;refine cG (0) (λM_ hM_=>(ax (aH QS rfl (cn hM_ bb aN) aa az) gP)) trivial trivial ?_;refine kL (2) (λM_ hM_=>(L6 (aE aa aM) rfl (MQ _ hf.1 h2) N9)) trivial bQ rfl trivial ⟨.inl bo,⟨.inl bo,trivial⟩⟩ (λeZ aG=>?_);have cw:=aZ aG bQ;have cx:=aw aG cr aD;have bS:=aw aG bb aD;have bT:=aw aG cu aD;have ed:=aX aG ec;clear aG cr bb bQ cu;refine aR (λM_ hM_=>(aI dO rfl (ae (aj a2)))) trivial ?_;refine cG (0) (λM_ hM_=>(ax (aH QT rfl (cn hM_ bS aN) aa az) gP)) trivial ⟨.inl bo,trivial⟩ ?_;refine aR (λM_ hM_=>(bh (aE aa aM) rfl (Oe _ hf.2.1 h3) Oa)) trivial ?_;refine aR (λM_ hM_=>(dq (bB (ag (aj aa)) (bB (ae (ag aa)) (bB aa b8))) qH qG qF rfl)) trivial ?_;refine kL (3) (λM_ hM_=>(nv j8 rfl)) trivial bT rfl ⟨.inl bo,trivial⟩ ⟨.inl bo,⟨.inl bo,⟨.inl bo,⟨.inl bo,trivial⟩⟩⟩⟩ (λe0 aJ=>?_);have bc:=aZ aJ bT;simp only [pS,Value.cells,Nat.reduceAdd,ct,gK,bK]at bc;have bW:=aw aJ cw aD;have cz:=aw aJ cx aD;have cA:=aw aJ bS aD;have ee:=aX aJ ed;clear aJ cw cx bS bT;refine gn rfl ?_;refine aL (oG aa (ae aa) rfl (fV rfl (mY bW (fV rfl (fV rfl oK)))) bc gZ rfl az) trivial rfl (λe3 aO=>?_);have bY:=aZ aO bc;simp only [pS,Value.cells,Nat.reduceAdd,ct,gK,bK]at bY;have ef:=aw aO bW aD;have eg:=aw aO cz aD;have cC:=aw aO cA aD;have bZ:=aX aO ee;clear aO bc bW cz cA;refine bJ (aC (ag (aA a2))) (aC (ag (aA cm))) (aC aa) ?_;clear a2 cm;intro e4 cD cE cH;refine ao<|au<|au<|at_<|ar (aI eW rfl cD) rfl<|ar (ax (aH Gg rfl cC aa az) gP) rfl ?_
 refine ar (ax (ca aa rfl vP.1) b7) rfl ?_;refine ar (al ay) rfl<|bR (aj cE) (aj cH) (ag aa) (ae aa) aa ?_;clear cD cE cH;intro be cI cJ cL cM eh
 refine ao<|bV<|sV 97 3 3 bY rfl bZ (λe5 b0 av aB=>?_)
 have cN:=bu av bZ;have ei:=aw aB cN aD;have cQ:=aK av bY;have cR:=aZ aB cQ;simp only [Yi,Ya]at cR;have cT:=aK av ef;have cW:=aw aB cT aD;have cX:=aK av eg;have cY:=aw aB cX aD;have c6:=aK av cC;have c7:=aw aB c6 aD;have c8:=br av bZ;have ej:_=5:=aX aB c8;clear av aB c8 cN cQ cT cX c6;refine eu (S:=(Nat×Int×List eU)) (λs e mem=>match s with|⟨k,i,xs⟩=>(ak e (.tmp 18)= .v (.int .i64 i))/\(ak e (.tmp 2)=ak be (.tmp 2))/\(ak e (.tmp 3)=ak be (.tmp 3))/\(ak e (.tmp 16)=ak be (.tmp 16))/\(ak e (.tmp 17)=ak be (.tmp 17))/\(mem[3]? =some (.box 27 [.v (.string l.nam),.own 2,.row 2 (l.bs.map cF),.own k]))/\(mem[k]? =some (.row 97 3 (xs.map ct)))/\(mem[2]? =b0[2]?)/\(mem[1]? =b0[1]?)/\(mem[0]? =b0[0]?)/\(∃ n,mem.length=n/\5<=n)/\((4<=k/\0<=i/\i<=l.ss.length/\xs=l.ss.take i.toNat))) (λs=>match s with|⟨k,i,xs⟩=>(l.ss.length - i).toNat) ⟨_,_,[]⟩ ⟨eh,rfl,rfl,rfl,rfl,cR,ei,rfl,rfl,rfl,⟨_,ej,Xf _⟩,?_⟩ ?_
 ·(exact⟨ah,ah,ah,rfl⟩)
 ·rintro⟨k,i,xs⟩ e6 e7 ⟨b1,ek,en,ep,er,a3,a5,ev,ew,ey,⟨e8,a6,e9⟩,hinv⟩;have c9:=ek.trans cI;have da:=en.trans cJ;have db:=ep.trans cL;have b2:=er.trans cM;have bk:=ev.trans cW;have bp:=ew.trans cY;have bv:=ey.trans c7;have fa:=cV a5 a6
  (obtain⟨q1,p1,p2,p3⟩:=hinv;have hso:=hl.at i.toNat;have hxl:xs.length<=1000000:=(by rw [p3,XO];omega))
  refine au<|at_<|ar (cU b1 b2) rfl<|dh (ae c9) (ae da) (ae db) (ae b2) (ae b1) aa ?_;clear db b2 b1 c9 da;intro fb a7 bw bx b6 bA b9
  refine ao<|au<|bj b9 (λa8=>?_) (λa8=>?_)
  ·replace a8:=bt a8;refine bC<|ao<|au<|bV<|au<|at_<|ar (ax (cP vP bx bA ah (by first|(refine eb ?_;first|omega|(simp only [cS];omega))|(refine cO ?_;first|omega|(simp only [cS];omega))|(refine ky ?_;first|omega|(simp only [cS];omega))|rfl)) gP) rfl ?_
   refine ar (ax (bF Gi rfl aa az) gP) rfl ?_;refine aL (cy nM rfl a6) trivial rfl (λfc ab=>?_);have bD:=bu ab a6;simp only [pS,Value.cells,Nat.reduceAdd,ct,gK,bK]at bD;have dc:=aK ab a3;have dd:=aK ab a5;have de:=aK ab bk;have df:=aK ab bp;have dg:=aK ab bv;have eA:=br ab a6;clear ab a3 a5 bk bp bv;refine aL (bP aa (ae aa) rfl rfl bD nN rfl az) trivial rfl (λfd ad=>?_);have a9:=aZ ad bD;simp only [pS,Value.cells,Nat.reduceAdd,ct,gK,bK]at a9;have di:=aw ad dc ah;have dj:=aw ad dd ah;have dk:=aw ad de ah;have dl:=aw ad df ah;have dm:=aw ad dg ah;have eB:=aX ad eA;clear ad bD dc dd de df dg;refine dh (aC (ae (ag a7))) (aC (ae (ag bw))) (aC aa) (aC (ae (ag bx))) (aC (ae (ag b6))) (aC (ae (ag bA))) ?_;clear bx b6 bA b9 a7 bw;intro fe dn dp bE dr dt du;refine ao<|au<|at_<|ar (aI gI rfl bE) rfl<|ar (ax (aH QU rfl a9 aa az) gP) rfl ?_
   refine ar (bh (aE aa aM) rfl (Of _ (hf.at ah) (hl.at i.toNat).2) Oc) rfl ?_;refine ar (aI gI rfl (ae (ag bE))) rfl<|aL (bP aa (ae aa) rfl rfl a9 uB rfl az) trivial rfl (λff af=>?_)
   have bG:=aZ af a9;simp only [pS,Value.cells,Nat.reduceAdd,ct,gK,bK]at bG;have cb:=aw af di ah;have dv:=aw af dj ah;have dw:=aw af dk ah;have dx:=aw af dl ah;have dy:=aw af dm ah;have cc:=aX af eB;clear af a9 di dj dk dl dm;refine dh (aC (aj dn)) (aC (aj dp)) (aC (aj bE)) (aC (aj dr)) (aC (aj dt)) (aC (aj du)) ?_;clear dr dt du dn dp bE;intro fg dz bH dA dB dC dD;refine ao<|at_<|ar (aI eW rfl bH) rfl<|ar (ax (aH Gg rfl cb aa az) gP) rfl ?_
   refine ar (ax (aH Gi rfl bG (ag dA) az) gP) rfl ?_;refine ar (ez vP (bB aa b8) rfl rfl rfl rfl) rfl<|aL (oY vP rfl cc dv (ag aa) aa eL dP) trivial rfl (λfh am=>?_)
   have bI:=qy am cc;simp only [pS,Value.cells,Nat.reduceAdd,ct,gK,bK]at bI;have dF:=fG am bG ah;have cd:=fG am cb ah;have dG:=fG am dw ah;have dH:=fG am dx ah;have dI:=fG am dy ah;have eC:=qb am cc;clear am bG cb dv dw dx dy;refine ar (aI eW rfl (ae (aj bH))) rfl<|aL (l6 aa (ae aa) cd bI BN az) trivial rfl (λfi an=>?_)
   have dJ:=aZ an cd;simp only [pS,Value.cells,Nat.reduceAdd,ct,gK,bK]at dJ;have eD:=aw an bI ah;have fj:=aw an dF ah;have eE:=aw an dG aD;have eF:=aw an dH aD;have eG:=aw an dI aD;have eJ:=aX an eC;clear an bI dF cd dG dH dI;refine bR (aC (ag (aj dz))) (aC (ag (aj bH))) (aC (ag (aj dB))) (aC (ag (aj dC))) (aC (ag (aj dD))) ?_;clear dB dC dD dz bH dA;intro fk dK dM dQ dR dW;refine cK<|ao<|at_ ?_
   (refine ar (cv dW ay ?_) rfl ?_; · (unfold In64;omega))
   refine ar (al aa) rfl<|bR (ag dK) (ag dM) (ag dQ) (ag dR) aa ?_;clear dQ dR dW dK dM;intro fl eK eN eO eP eQ
   refine ao<|⟨⟨_,_,_⟩,⟨eQ,(eK.trans cI.symm),(eN.trans cJ.symm),(eO.trans cL.symm),(eP.trans cM.symm),dJ,eD,(eE.trans cW.symm),(eF.trans cY.symm),(eG.trans c7.symm),⟨_,eJ,ah⟩,?_⟩,?_⟩
   ·(refine⟨ah,ah,ah,?_⟩;rw [Fv p1 ah, <- p3])
   ·((try dsimp only);omega)
  replace a8:=bf a8
  (have hx:xs=l.ss:=(by rw [p3,Yp ah]);clear p3;subst hx)
  refine dV<|cB<|cB<|dU<|ao<|au<|Dp 3 a3 a5 ah rfl (λfm aQ=>?_)
  have bL:=aZ aQ (aw rfl a3 ah);simp only [Yi,Ya]at bL;have ce:=aw aQ (aw rfl bk ah) aD;have cf:=aw aQ (aw rfl bp ah) aD;have dX:=aw aQ (aw rfl bv ah) aD;have eR:=aX aQ (aX rfl a6);clear aQ a3 a5 bk bp bv;refine at_<|ar (ax (aH Gh rfl bL bw az) gP) rfl ?_
  refine aL (oG (ae a7) aa rfl (fV rfl (mY ce (fV rfl (fV rfl oK)))) cf gZ rfl az) trivial rfl (λfo aS=>?_);have dY:=aZ aS cf;simp only [pS,Value.cells,Nat.reduceAdd,ct,gK,bK]at dY;have fp:=aw aS bL aD;have eS:=aw aS ce aD;have fq:=aw aS dX aD;have fs:=aX aS eR;clear aS bL ce cf dX;refine aY (aC (ae a7)) ?_;clear bx b6 bA b9 a7 bw;intro ft eT;refine ao<|bg<|Tu bm ai eS (dE eT dY Gh az aN) rfl ?_
  rfl
end Go.Proofs.YtbmlgmblfboigaaGreatDoor
