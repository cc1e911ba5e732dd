/- Texts of this claim, one behind the other: lemmas for the statement. -/
import Derived.Test.YtbmlgmblfboigaaGreatDoorA12
import Derived.Test.YtbmlgmblfboigaaGreatDoorProg
import Derived.Test.YtbmlgmblfboigaaGreatDoorA16
import Derived.Test.YtbmlgmblfboigaaGreatDoorM3
import Derived.Test.YtbmlgmblfboigaaGreatDoorM1
import Derived.Deep.QuietTactic
import Derived.BigQuiet
import Derived.KernelRfl
import Derived.Lib.Hide
import Derived.Test.YtbmlgmblfboigaaGreatDoorM2
set_option linter.unusedSimpArgs false
set_option linter.unusedVariables false
namespace Go.Proofs.YtbmlgmblfboigaaGreatDoor
open Go Go.RowKit Go.Proofs
def dx(n lo hi:Int):Bool:=decide (lo<=n)&&decide (n<=hi)
set_option maxRecDepth 100000 in
set_option maxHeartbeats 1000000 in
theorem pT(n lo hi:Int):bN Tryz.prog 20 [.v (.int .i64 n),.v (.int .i64 lo),.v (.int .i64 hi)] (λq=>q= .v (.bool (dx n lo hi))):=by
 refine cw (fn:=Tryz.f20) 15 ai rfl ai aU ?_;intro ah aD hA ap;have av:ak ah (.tmp 0)=_:=hA 0 _ rfl;have aw:ak ah (.tmp 1)=_:=hA 1 _ rfl;have ax:ak ah (.tmp 2)=_:=hA 2 _ rfl;have az:aD.length=0:=by rw [ap];rfl
 clear hA ap;refine au<|at_<|ar (aB ay) rfl<|bJ (ae av) (ae aw) (ae ax) ?_;clear av aw ax;intro aE af am an
 refine ao<|au<|at_<|ar (al am) rfl<|ar (al (ae af)) rfl<|ar (fA (ae aa) aa) rfl<|ar (al aa) rfl<|bQ aa (λab ad=>?_) (λab ad=>?_)
 ·replace ad:=bt ad;refine aG (al (aj af)) ⟨_,rfl,ab⟩ rfl ?_;refine aG (al (ae (aj an))) ⟨_,rfl,(ae ab)⟩ rfl ?_;refine aG (fA (ae aa) aa) ⟨_,rfl,(ag ab)⟩ rfl ?_;refine ar (bD (ae (ag ab)) aa) rfl<|ar (aB aa) rfl<|aY aa ?_;clear ab af am an;intro aH aA
  refine ao<|bg<|bL bm ai (bc aA) (.ro _ rfl) ?_
  clear aA az
  (simp [dx, *];done)
 replace ad:=bf ad;refine aF ⟨_,rfl,.inl ab⟩ rfl ?_;refine aF ⟨_,rfl,.inl (ae ab)⟩ rfl ?_;refine aF ⟨_,rfl,.inl (ag ab)⟩ rfl ?_;refine ar (bG (ae (ag ab)) ay) rfl<|ar (aB aa) rfl<|aY aa ?_;clear ab af am an;intro aI aC
 refine ao<|bg<|bL bm ai (bc aC) (.ro _ rfl) ?_
 clear aC az
 (simp [dx, *];done)
def dy(ok:Bool)(e:Int):Int:=if ok then 0 else e
def gW:List Int->Int
 | []=>0
 | e::l=>if e=0 then gW l else e
theorem Dc{l:List Int}{i:Nat}(h:i<l.length):gW (l.drop i)=if l.getD i 0=0 then gW (l.drop (i+1))else l.getD i 0:=by
 rw [Ys h];simp [gW,Xc,h]
abbrev V2:=Int×Int
def Bd(M:Int)(v:V2):Prop:=(-M<=v.1/\v.1<=M)/\(-M<=v.2/\v.2<=M)
section
variable (u v:V2) (hu:Bd 1000000000 u) (hv:Bd 1000000000 v)
include hu hv
end
section
variable (v:V2) (hv:Bd 1000000000 v)
include hv
end
theorem Bd.mono{M K:Int}{v:V2}(h:Bd M v)(hk:M<=K):Bd K v:=by
 obtain⟨⟨a,b⟩,c,d⟩:=h;exact⟨⟨ah,ah⟩,ah,ah⟩
end Go.Proofs.YtbmlgmblfboigaaGreatDoor
namespace Go.Proofs.YtbmlgmblfboigaaGreatDoor
open Go Go.RowKit Go.Proofs
theorem Bd.getD{M:Int}{xs:List V2}(h:∀ v∈xs,Bd M v)(hM:0<=M)(i:Nat):Bd M (xs.getD i default):=by
 rw [Xc]
 by_cases hi:i<xs.length
 ·rw [Xd hi];exact h _ (XR hi)
 ·rw [Xq ah];exact⟨⟨by show -M<=0;omega,by show(0:Int)<=M;omega⟩,by show -M<=0;omega,by show(0:Int)<=M;omega⟩
def z6:List V2:= [(0,0),(0,0),(0,0),(0,0),(0,0),(0,0)]
abbrev T2:=Int×Int
def idx{α:Type}(p:α->Bool):List α->Nat->Int
 | [],_=> -1
 | x::l,k=>if p x then(k:Int)else idx p l (k+1)
theorem dY(g:Nat)(h:∀ (args:Array Value) (w:World),(callFunc g args).run Tryz.prog w= .ok (.enter g args) w):∀ (args:Array Value) (w:World),(callFunc g args).run Tryz.prog w= .ok (.enter g args) w:=h
attribute [local go_sem] Oper.semAt_some
def fr:Int->List Int->Nat->Int
 | f,_,0=>f
 | f,[],_=>f
 | f,l::ls,k+1=>fr (wrap64 (f+l)) ls k
end Go.Proofs.YtbmlgmblfboigaaGreatDoor
