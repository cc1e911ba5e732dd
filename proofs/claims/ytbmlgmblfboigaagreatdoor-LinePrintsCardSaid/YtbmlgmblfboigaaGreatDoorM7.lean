/- Texts of this claim, one behind the other: lemmas for the statement. -/
import Derived.Test.YtbmlgmblfboigaaGreatDoorA12
import Derived.Test.YtbmlgmblfboigaaGreatDoorProg
import Derived.Test.YtbmlgmblfboigaaGreatDoorA16
import Derived.Test.YtbmlgmblfboigaaGreatDoorM3
import Derived.Test.YtbmlgmblfboigaaGreatDoorM1
import Derived.Deep.QuietTactic
import Derived.BigQuiet
import Derived.KernelRfl
import Derived.Lib.Hide
import Derived.Test.YtbmlgmblfboigaaGreatDoorM2
set_option maxRecDepth 100000
set_option maxHeartbeats 1000000
set_option linter.unusedSimpArgs false
set_option linter.unusedVariables false
namespace Go.Proofs.YtbmlgmblfboigaaGreatDoor
open Go Go.RowKit Go.Proofs
def dh(n lo hi:Int):Bool:=decide (lo<=n)&&decide (n<=hi)
theorem vQ(n lo hi:Int):bF Tryz.prog 20 [.v (.int .i64 n),.v (.int .i64 lo),.v (.int .i64 hi)] (λq=>q= .v (.bool (dh n lo hi))):=by
 refine ck (fn:=Tryz.f20) 15 (by kernel_rfl) rfl (by kernel_rfl) (S8 rfl) ?_;intro ak aC hA ao;have ap:ag ak (.tmp 0)=_:=hA 0 _ rfl;have au:ag ak (.tmp 1)=_:=hA 1 _ rfl;have av:ag ak (.tmp 2)=_:=hA 2 _ rfl;have ax:aC.length=0:=by rw [ao];rfl
 clear hA ao;refine aj<|at_<|ar (aw al) rfl<|bq (ae rfl ap) (ae rfl au) (ae rfl av) ?_;clear ap au av;intro aD af am an
 refine ai<|aj<|at_<|ar (ah am) rfl<|ar (ah (ae rfl af)) rfl<|ar (fD (ae rfl aa) aa) rfl<|ar (ah aa) rfl<|bM aa (λab ad=>?_) (λab ad=>?_)
 ·replace ad:=bt ad;refine aA (ah (u4 rfl af)) ⟨_,rfl,ab⟩ rfl ?_;refine aA (ah (ae rfl (u4 rfl an))) ⟨_,rfl,(ae rfl ab)⟩ rfl ?_;refine aA (fD (ae rfl aa) aa) ⟨_,rfl,(u2 rfl ab)⟩ rfl ?_;refine ar (bD (ae rfl (u2 rfl ab)) aa) rfl<|ar (aw aa) rfl<|aT aa ?_;clear ab af am an;intro aE ay
  refine ai<|aX<|bK (.inr rfl) (by kernel_rfl) (aS ay) (.ro _ rfl) ?_
  clear ay ax
  (simp [dh, *];done)
 replace ad:=bf ad;refine az ⟨_,rfl,.inl ab⟩ rfl ?_;refine az ⟨_,rfl,.inl (ae rfl ab)⟩ rfl ?_;refine az ⟨_,rfl,.inl (u2 rfl ab)⟩ rfl ?_;refine ar (bJ (ae rfl (u2 rfl ab)) al) rfl<|ar (aw aa) rfl<|aT aa ?_;clear ab af am an;intro aF aB
 refine ai<|aX<|bK (.inr rfl) (by kernel_rfl) (aS aB) (.ro _ rfl) ?_
 clear aB ax
 (simp [dh, *];done)
def dB(ok:Bool)(e:Int):Int:=if ok then 0 else e
def iG:List Int->Int
 | []=>0
 | e::l=>if e=0 then iG l else e
theorem zS{l:List Int}{i:Nat}(h:i<l.length):iG (l.drop i)=if l.getD i 0=0 then iG (l.drop (i+1))else l.getD i 0:=by
 rw [UL h];simp [iG,Ta,h]
abbrev V2:=Int×Int
abbrev nA(n:Int):AV:=.v (.int .i64 n)
def y8(n:Int):Int:=max n (-n)
theorem BI(n:Int)(hm: -9000000000000000000<=n/\n<=9000000000000000000):bF Tryz.prog 101 [nA n] (λq=>q=nA (y8 n)):=by
 refine ck (fn:=Tryz.f101) 7 (by kernel_rfl) rfl (by kernel_rfl) (S8 rfl) ?_;intro am an hA ad;have af:ag am (.tmp 0)=_:=hA 0 _ rfl;have ao:an.length=0:=by rw [ad];rfl
 clear hA ad;refine aj<|at_<|ar (aw al) rfl<|aT (ae rfl af) ?_;clear af;intro ap ab
 refine ai<|aj<|at_<|ar (ah ab) rfl<|ar (ah (ae rfl ab)) rfl ?_
 (refine ar (qI aa ?_) rfl ?_; · (unfold In64;omega))
 refine ar (yp (u2 rfl aa) aa) rfl<|ar (aw aa) rfl<|aT aa ?_;clear ab;intro au ak
 refine ai<|aX<|bK (.inr rfl) (by kernel_rfl) (aS ak) (.ro _ rfl) ?_
 clear ak ao;rfl
def Bd(M:Int)(v:V2):Prop:=(-M<=v.1/\v.1<=M)/\(-M<=v.2/\v.2<=M)
section
variable (u v:V2) (hu:Bd 1000000000 u) (hv:Bd 1000000000 v)
include hu hv
end
section
variable (v:V2) (hv:Bd 1000000000 v)
include hv
end
theorem Bd.mono{M K:Int}{v:V2}(h:Bd M v)(hk:M<=K):Bd K v:=by
 obtain⟨⟨a,b⟩,c,d⟩:=h;exact⟨⟨by omega,by omega⟩,by omega,by omega⟩
end Go.Proofs.YtbmlgmblfboigaaGreatDoor
namespace Go.Proofs.YtbmlgmblfboigaaGreatDoor
open Go Go.RowKit Go.Proofs
theorem Bd.getD{M:Int}{xs:List V2}(h:∀ v∈xs,Bd M v)(hM:0<=M)(i:Nat):Bd M (xs.getD i default):=by
 rw [Ta]
 by_cases hi:i<xs.length
 ·rw [Tc hi];exact h _ (Um hi)
 ·rw [TE (by omega)];exact⟨⟨by show -M<=0;omega,by show(0:Int)<=M;omega⟩,by show -M<=0;omega,by show(0:Int)<=M;omega⟩
def z6:List V2:= [(0,0),(0,0),(0,0),(0,0),(0,0),(0,0)]
abbrev T2:=Int×Int
def idx{α:Type}(p:α->Bool):List α->Nat->Int
 | [],_=> -1
 | x::l,k=>if p x then(k:Int)else idx p l (k+1)
theorem dV(g:Nat)(h:∀ (args:Array Value) (w:World),(callFunc g args).run Tryz.prog w= .ok (.enter g args) w):∀ (args:Array Value) (w:World),(callFunc g args).run Tryz.prog w= .ok (.enter g args) w:=h
attribute [local go_sem] Oper.semAt_some
def fr:Int->List Int->Nat->Int
 | f,_,0=>f
 | f,[],_=>f
 | f,l::ls,k+1=>fr (wrap64 (f+l)) ls k
end Go.Proofs.YtbmlgmblfboigaaGreatDoor
