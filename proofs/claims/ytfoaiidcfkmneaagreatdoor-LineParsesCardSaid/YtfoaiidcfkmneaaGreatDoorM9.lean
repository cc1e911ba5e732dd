/- Texts of this claim, one behind the other: lemmas for the statement. -/
import Derived.Test.YtfoaiidcfkmneaaGreatDoorA12
import Derived.Test.YtfoaiidcfkmneaaGreatDoorProg
import Derived.Test.YtfoaiidcfkmneaaGreatDoorA16
import Derived.Test.YtfoaiidcfkmneaaGreatDoorM4
import Derived.Test.YtfoaiidcfkmneaaGreatDoorM1
import Derived.Deep.QuietTactic
import Derived.BigQuiet
import Derived.KernelRfl
import Derived.Lib.Hide
import Derived.Test.YtfoaiidcfkmneaaGreatDoorM3
set_option linter.unusedSimpArgs false
set_option linter.unusedVariables false
namespace Go.Proofs.YtfoaiidcfkmneaaGreatDoor
open Go Go.RowKit Go.Proofs
def eC(n lo hi:Int):Bool:=decide (lo<=n)&&decide (n<=hi)
set_option maxRecDepth 100000 in
set_option maxHeartbeats 1000000 in
theorem xj(n lo hi:Int):bT Tryz.prog 47 [.v (.int .i64 n),.v (.int .i64 lo),.v (.int .i64 hi)] (λq=>q= .v (.bool (eC n lo hi))):=by
 refine cA (fn:=Tryz.f47) 15 aj rfl aj bO ?_;intro ah aE hA ap;have au:al ah (.tmp 0)=_:=hA 0 _ rfl;have av:al ah (.tmp 1)=_:=hA 1 _ rfl;have ay:al ah (.tmp 2)=_:=hA 2 _ rfl;have az:aE.length=0:=by rw [ap];rfl
 clear hA ap;refine ax<|at_<|ar (aB aw) rfl<|bB (ae au) (ae av) (ae ay) ?_;clear au av ay;intro aG af am an
 refine ao<|ax<|at_<|ar (ak am) rfl<|ar (ak (ae af)) rfl<|ar (gw (ae aa) aa) rfl<|ar (ak aa) rfl<|bK aa (λab ad=>?_) (λab ad=>?_)
 ·replace ad:=bt ad;refine aF (ak (ai af)) ⟨_,rfl,ab⟩ rfl ?_;refine aF (ak (ae (ai an))) ⟨_,rfl,(ae ab)⟩ rfl ?_;refine aF (gw (ae aa) aa) ⟨_,rfl,(ag ab)⟩ rfl ?_;refine ar (bq (ae (ag ab)) aa) rfl<|ar (aB aa) rfl<|bn aa ?_;clear ab af am an;intro aH aA
  refine ao<|bm<|bX bp aj (aR aA) (.ro _ rfl) ?_
  clear aA az
  (simp [eC, *];done)
 replace ad:=bf ad;refine aC ⟨_,rfl,.inl ab⟩ rfl ?_;refine aC ⟨_,rfl,.inl (ae ab)⟩ rfl ?_;refine aC ⟨_,rfl,.inl (ag ab)⟩ rfl ?_;refine ar (br (ae (ag ab)) aw) rfl<|ar (aB aa) rfl<|bn aa ?_;clear ab af am an;intro aI aD
 refine ao<|bm<|bX bp aj (aR aD) (.ro _ rfl) ?_
 clear aD az
 (simp [eC, *];done)
def dW(ok:Bool)(e:Int):Int:=if ok then 0 else e
def jA:List Int->Int
 | []=>0
 | e::l=>if e=0 then jA l else e
theorem AS{l:List Int}{i:Nat}(h:i<l.length):jA (l.drop i)=if l.getD i 0=0 then jA (l.drop (i+1))else l.getD i 0:=by
 rw [TU h];simp [jA,SO,h]
abbrev V2:=Int×Int
def Bd(M:Int)(v:V2):Prop:=(-M<=v.1/\v.1<=M)/\(-M<=v.2/\v.2<=M)
section
variable (u v:V2) (hu:Bd 1000000000 u) (hv:Bd 1000000000 v)
include hu hv
end
section
variable (v:V2) (hv:Bd 1000000000 v)
include hv
end
theorem Bd.mono{M K:Int}{v:V2}(h:Bd M v)(hk:M<=K):Bd K v:=by
 obtain⟨⟨a,b⟩,c,d⟩:=h;exact⟨⟨ah,ah⟩,ah,ah⟩
end Go.Proofs.YtfoaiidcfkmneaaGreatDoor
namespace Go.Proofs.YtfoaiidcfkmneaaGreatDoor
open Go Go.RowKit Go.Proofs
theorem Bd.getD{M:Int}{xs:List V2}(h:∀ v∈xs,Bd M v)(hM:0<=M)(i:Nat):Bd M (xs.getD i default):=by
 rw [SO]
 by_cases hi:i<xs.length
 ·rw [SQ hi];exact h _ (TQ hi)
 ·rw [S5 ah];exact⟨⟨by show -M<=0;omega,by show(0:Int)<=M;omega⟩,by show -M<=0;omega,by show(0:Int)<=M;omega⟩
def z6:List V2:= [(0,0),(0,0),(0,0),(0,0),(0,0),(0,0)]
abbrev T2:=Int×Int
def idx{α:Type}(p:α->Bool):List α->Nat->Int
 | [],_=> -1
 | x::l,k=>if p x then(k:Int)else idx p l (k+1)
theorem eH(g:Nat)(h:∀ (args:Array Value) (w:World),(callFunc g args).run Tryz.prog w= .ok (.enter g args) w):∀ (args:Array Value) (w:World),(callFunc g args).run Tryz.prog w= .ok (.enter g args) w:=h
attribute [local go_sem] Oper.semAt_some
def fr:Int->List Int->Nat->Int
 | f,_,0=>f
 | f,[],_=>f
 | f,l::ls,k+1=>fr (wrap64 (f+l)) ls k
end Go.Proofs.YtfoaiidcfkmneaaGreatDoor
