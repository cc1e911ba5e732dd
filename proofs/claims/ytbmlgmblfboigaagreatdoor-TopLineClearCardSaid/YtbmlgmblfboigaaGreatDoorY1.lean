/- Lemmas for the statement. -/
import Derived.Test.YtbmlgmblfboigaaGreatDoorT0
import Derived.Test.YtbmlgmblfboigaaGreatDoorM9
import Derived.Test.YtbmlgmblfboigaaGreatDoorM3
namespace Go.Proofs.YtbmlgmblfboigaaGreatDoor
open Go Go.RowKit Go.Proofs
set_option linter.unusedSimpArgs false
set_option linter.unusedVariables false
structure ep where
 acr:Int
 up:Int
 lo:Int
 hi:Int
 deriving Inhabited
structure fY where
 len:Int
 cant:Int
 deriving Inhabited
structure eU where
 nam:ByteArray
 fst:Int
 acr:List Int
 deriving Inhabited
abbrev mA(n:Int):AV:=.v (.int .i64 n)
abbrev dK(b:Bool):AV:=.v (.bool b)
def bX(j:ep):List AV:= [.v (.int .i64 j.acr),.v (.int .i64 j.up),.v (.int .i64 j.lo),.v (.int .i64 j.hi)]
def cF(b:fY):List AV:= [.v (.int .i64 b.len),.v (.int .i64 b.cant)]
def ct(s:eU):List AV:= [.v (.string s.nam),.v (.int .i64 s.fst),.row 1 (s.acr.map iE)]
structure aP where
 nam:ByteArray
 js:List ep
 bs:List fY
 ss:List eU
abbrev dL(l:aP):AV:=.agg [.v (.string l.nam),.row 4 (l.js.map bX),.row 2 (l.bs.map cF),.row 3 (l.ss.map ct)]
def eR(n m:Int):Bool:=dx n (-m) m
def g8(j:ep):Bool:=eR j.acr 20000&&eR j.up 20000&&eR j.lo 100&&eR j.hi 100
def iP(j:ep):Int:=if g8 j then(if j.lo<=j.hi then 0 else 9)else 2
def lR(b:fY):Bool:=dx b.len 1000 30000&&eR b.cant 300
def iQ(b:fY):Int:=if lR b then 0 else 2
def iR(s o:eU):Bool:=decide (s.fst<wrap64 (o.fst+o.acr.length)/\o.fst<wrap64 (s.fst+s.acr.length))
def fq(l:aP)(i:Nat):Int:=
 if !dF (l.ss.getD i default).nam then 4
 else if(l.ss.take i).any (λo=>o.nam.toList==(l.ss.getD i default).nam.toList)then 5
 else if(l.ss.getD i default).acr.length =0 then 10
 else if !dx (l.ss.getD i default).fst 1 (l.bs.length - (l.ss.getD i default).acr.length)then 6
 else if(l.ss.getD i default).acr.any (λn=> !eR n 20000)then 2
 else if(l.ss.take i).any (λo=>iR (l.ss.getD i default) o)then 13
 else 0
def g9(f:Nat->Int):Nat->Option Nat
 | 0=>none
 | n+1=>match g9 f n with
  | some i=>some i
  | none=>if f n=0 then none else some n
theorem sX{f:Nat->Int}:∀ {n:Nat},(∀ j,j<n->f j=0)->g9 f n=none
 | 0,_=>rfl
 | n+1,h=>by simp only [g9];rw [sX λj hj=>h j ah];simp [h n ah]
theorem yW{f:Nat->Int}{i:Nat}(hn:∀ j,j<i->f j=0)(hi:f i≠0):∀ {n:Nat},i<n->g9 f n=some i
 | 0,h=>absurd h ah
 | n+1,h=>by
  simp only [g9]
  by_cases hin:i=n
  ·subst hin;rw [sX hn];simp [hi]
  ·rw [yW hn hi (n:=n) ah]
def iS(k:Int)(f:Nat->Int)(n:Nat)(z:(Int×Int)×Int):(Int×Int)×Int:=match g9 f n with
 | some i=>((k,i),f i)
 | none=>z
def cx(l:aP):(Int×Int)×Int:=
 if !dF l.nam then((0,0),4)
 else if l.bs.length=0\/l.js.length≠l.bs.length+1 then((0,0),10)
 else if 40<l.bs.length then((0,0),8)
 else iS 1 (λi=>iP (l.js.getD i default)) l.js.length
  (iS 2 (λi=>iQ (l.bs.getD i default)) l.bs.length
   (if 4<l.ss.length then((0,0),8)else iS 3 (fq l) l.ss.length ((0,0),0)))
set_option maxRecDepth 100000 in
set_option maxHeartbeats 1000000 in
theorem rH(n m:Int)(hm: -1000000000<=m/\m<=1000000000):bN Tryz.prog 74 [mA n,mA m] (λq=>q=dK (eR n m)):=by
 refine cw (fn:=Tryz.f74) 10 ai rfl ai aU ?_;intro ad ap hA af;have ah:ak ad (.tmp 0)=_:=hA 0 _ rfl;have aj:ak ad (.tmp 1)=_:=hA 1 _ rfl;have av:ap.length=0:=by rw [af];rfl
 clear hA af;refine au<|at_<|ar (aB ay) rfl<|bq (ae ah) (ae aj) ?_;clear ah aj;intro aw am ab
 refine ao<|au<|at_<|ar (al am) rfl<|ar (al (ae ab)) rfl ?_
 (refine ar (qg aa ?_) rfl ?_; · (unfold In64;omega))
 refine ar (al (ae (ag ab))) rfl<|ar (bh (aE (ae (ag aa)) (aE (ae aa) (aE aa aM))) rfl (pT _ _ _) qo) rfl<|ar (aB aa) rfl<|aY aa ?_;clear am ab;intro ax an
 refine ao<|bg<|bL bm ai (bc an) (.ro _ rfl) ?_
 clear an av;rfl
def eo(l:aP):Prop:=l.nam.size<=1000000/\l.js.length<=1000000/\l.bs.length<=1000000/\l.ss.length<=1000000/\ ∀ s∈l.ss,s.nam.size<=1000000/\s.acr.length<=1000000
theorem eo.at{l:aP}(h:eo l)(i:Nat):(l.ss.getD i default).nam.size <=1000000/\(l.ss.getD i default).acr.length <=1000000:=by
 by_cases hi:i<l.ss.length
 ·exact h.2.2.2.2 _ (by rw [Xc,Xd hi];exact XR hi)
 ·rw [Xc,Xq ah];exact⟨aD,aD⟩
end Go.Proofs.YtbmlgmblfboigaaGreatDoor
