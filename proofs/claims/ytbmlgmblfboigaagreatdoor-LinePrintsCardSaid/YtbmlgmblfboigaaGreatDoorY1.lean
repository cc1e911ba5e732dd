/- Lemmas for the statement. -/
import Derived.Test.YtbmlgmblfboigaaGreatDoorT0
import Derived.Test.YtbmlgmblfboigaaGreatDoorM8
import Derived.Test.YtbmlgmblfboigaaGreatDoorM3
namespace Go.Proofs.YtbmlgmblfboigaaGreatDoor
open Go Go.RowKit Go.Proofs
set_option linter.unusedSimpArgs false
set_option linter.unusedVariables false
structure fR where
 acr:Int
 up:Int
 lo:Int
 hi:Int
 deriving Inhabited
structure fu where
 len:Int
 cant:Int
 deriving Inhabited
structure eu where
 nam:ByteArray
 fst:Int
 acr:List Int
 deriving Inhabited
abbrev mA(n:Int):AV:=.v (.int .i64 n)
abbrev dH(b:Bool):AV:=.v (.bool b)
def aF(j:fR):List AV:= [.v (.int .i64 j.acr),.v (.int .i64 j.up),.v (.int .i64 j.lo),.v (.int .i64 j.hi)]
def aH(b:fu):List AV:= [.v (.int .i64 b.len),.v (.int .i64 b.cant)]
def aK(s:eu):List AV:= [.v (.string s.nam),.v (.int .i64 s.fst),.row 1 (s.acr.map iE)]
structure aU where
 nam:ByteArray
 js:List fR
 bs:List fu
 ss:List eu
abbrev ep(l:aU):AV:=.agg [.v (.string l.nam),.row 4 (l.js.map aF),.row 2 (l.bs.map aH),.row 3 (l.ss.map aK)]
def eC(n m:Int):Bool:=dh n (-m) m
def gP(j:fR):Bool:=eC j.acr 20000&&eC j.up 20000&&eC j.lo 100&&eC j.hi 100
def iJ(j:fR):Int:=if gP j then(if j.lo<=j.hi then 0 else 9)else 2
def j6(b:fu):Bool:=dh b.len 1000 30000&&eC b.cant 300
def gQ(b:fu):Int:=if j6 b then 0 else 2
def gR(s o:eu):Bool:=decide (s.fst<wrap64 (o.fst+o.acr.length)/\o.fst<wrap64 (s.fst+s.acr.length))
def fq(l:aU)(i:Nat):Int:=
 if !dn (l.ss.getD i default).nam then 4
 else if(l.ss.take i).any (λo=>o.nam.toList==(l.ss.getD i default).nam.toList)then 5
 else if(l.ss.getD i default).acr.length =0 then 10
 else if !dh (l.ss.getD i default).fst 1 (l.bs.length - (l.ss.getD i default).acr.length)then 6
 else if(l.ss.getD i default).acr.any (λn=> !eC n 20000)then 2
 else if(l.ss.take i).any (λo=>gR (l.ss.getD i default) o)then 13
 else 0
def fN(f:Nat->Int):Nat->Option Nat
 | 0=>none
 | n+1=>match fN f n with
  | some i=>some i
  | none=>if f n=0 then none else some n
theorem sx{f:Nat->Int}:∀ {n:Nat},(∀ j,j<n->f j=0)->fN f n=none
 | 0,_=>rfl
 | n+1,h=>by simp only [fN];rw [sx λj hj=>h j (by omega)];simp [h n (by omega)]
theorem vZ{f:Nat->Int}{i:Nat}(hn:∀ j,j<i->f j=0)(hi:f i≠0):∀ {n:Nat},i<n->fN f n=some i
 | 0,h=>absurd h (by omega)
 | n+1,h=>by
  simp only [fN]
  by_cases hin:i=n
  ·subst hin;rw [sx hn];simp [hi]
  ·rw [vZ hn hi (n:=n) (by omega)]
def iK(k:Int)(f:Nat->Int)(n:Nat)(z:(Int×Int)×Int):(Int×Int)×Int:=match fN f n with
 | some i=>((k,i),f i)
 | none=>z
def b9(l:aU):(Int×Int)×Int:=
 if !dn l.nam then((0,0),4)
 else if l.bs.length=0\/l.js.length≠l.bs.length+1 then((0,0),10)
 else if 40<l.bs.length then((0,0),8)
 else iK 1 (λi=>iJ (l.js.getD i default)) l.js.length
  (iK 2 (λi=>gQ (l.bs.getD i default)) l.bs.length
   (if 4<l.ss.length then((0,0),8)else iK 3 (fq l) l.ss.length ((0,0),0)))
set_option maxRecDepth 100000 in
set_option maxHeartbeats 1000000 in
theorem o7(n m:Int)(hm: -1000000000<=m/\m<=1000000000):bF Tryz.prog 74 [mA n,mA m] (λq=>q=dH (eC n m)):=by
 refine ck (fn:=Tryz.f74) 10 (by kernel_rfl) rfl (by kernel_rfl) (S8 rfl) ?_;intro ad ap hA af;have ak:ag ad (.tmp 0)=_:=hA 0 _ rfl;have am:ag ad (.tmp 1)=_:=hA 1 _ rfl;have au:ap.length=0:=by rw [af];rfl
 clear hA af;refine aj<|at_<|ar (aw al) rfl<|aY (ae rfl ak) (ae rfl am) ?_;clear ak am;intro av an ab
 refine ai<|aj<|at_<|ar (ah an) rfl<|ar (ah (ae rfl ab)) rfl ?_
 (refine ar (qI aa ?_) rfl ?_; · (unfold In64;omega))
 refine ar (ah (ae rfl (u2 rfl ab))) rfl<|ar (bj (ax (ae rfl (u2 rfl aa)) (ax (ae rfl aa) (ax aa aI))) rfl (vQ _ _ _) yi) rfl<|ar (aw aa) rfl<|aT aa ?_;clear an ab;intro ay ao
 refine ai<|aX<|bK (.inr rfl) (by kernel_rfl) (aS ao) (.ro _ rfl) ?_
 clear ao au;rfl
def eE(l:aU):Prop:=l.nam.size<=1000000/\l.js.length<=1000000/\l.bs.length<=1000000/\l.ss.length<=1000000/\ ∀ s∈l.ss,s.nam.size<=1000000/\s.acr.length<=1000000
theorem eE.at{l:aU}(h:eE l)(i:Nat):(l.ss.getD i default).nam.size <=1000000/\(l.ss.getD i default).acr.length <=1000000:=by
 by_cases hi:i<l.ss.length
 ·exact h.2.2.2.2 _ (by rw [Ta,Tc hi];exact Um hi)
 ·rw [Ta,TE (by omega)];exact⟨by decide,by decide⟩
end Go.Proofs.YtbmlgmblfboigaaGreatDoor
