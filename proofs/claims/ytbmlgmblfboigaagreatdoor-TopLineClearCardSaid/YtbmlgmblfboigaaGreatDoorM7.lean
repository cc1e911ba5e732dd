/- Texts of this claim, one behind the other: lemmas for the statement. -/
import Derived.Test.YtbmlgmblfboigaaGreatDoorA8
import Derived.Test.YtbmlgmblfboigaaGreatDoorA9
import Derived.Test.YtbmlgmblfboigaaGreatDoorA5
import Derived.Test.YtbmlgmblfboigaaGreatDoorM4
import Derived.Test.YtbmlgmblfboigaaGreatDoorM3
import Derived.Test.YtbmlgmblfboigaaGreatDoorA53
import Derived.RecoverIn
set_option linter.unusedSimpArgs false
set_option linter.unusedVariables false
namespace Go.Proofs.YtbmlgmblfboigaaGreatDoor
open Go Go.RowKit Go.Proofs
inductive nj:AV->Prop
 | v (x:Value):nj (.v x)
 | agg (l:List AV):(∀ (i:Nat) (a:AV),l[i]? =some a->nj a)->nj (.agg l)
 | tuple (l:List AV):(∀ (i:Nat) (a:AV),l[i]? =some a->nj a)->nj (.tuple l)
theorem nj.r0{pr pr':Nat->Prop}{w:World}{a:AV}(h:nj a):∀ {x:Value},R0 pr w a x->R0 pr' w a x:=by
 induction h with
 | v c=>intro x hx;cases hx;exact .v _
 | agg l _ ih=>
  intro x hx;cases hx with
  | agg _ xs h1 h2=>exact .agg l xs h1 λi a x ha hx=>ih i a ha (h2 i a x ha hx)
 | tuple l _ ih=>
  intro x hx;cases hx with
  | tuple _ xs h1 h2=>exact .tuple l xs h1 λi a x ha hx=>ih i a ha (h2 i a x ha hx)
def q7:AV->Bool
 | .v _=>true
 | .agg l=>plL l
 | .tuple l=>plL l
 | _=>false
where plL:List AV->Bool
 | []=>true
 | a::l=>q7 a&&plL l
theorem We:∀ {a:AV},q7 a=true->nj a:=by
 intro a;refine AV.rec (motive_1:=λa=>q7 a=true->nj a) (motive_2:=λ_=>True) (motive_3:=λl=>q7.plL l=true-> ∀ (i:Nat) (a:AV),l[i]? =some a->nj a) ?_ ?_ ?_ ?_ ?_ ?_ ?_ ?_ ?_ ?_ ?_ ?_ ?_ ?_ a
 all_goals first
  | (intro x _;exact .v x)
  | (intro l ih h;exact .agg l (ih h))
  | (intro l ih h;exact .tuple l (ih h))
  | (intros;trivial)
  | (intro h i a hi;simp at hi;done)
  | (intro a l ih1 ih2 h i b hi
     simp only [q7.plL,Xg]at h;cases i with
     | zero=>simp at hi;subst hi;exact ih1 h.1
     | succ i=>exact ih2 h.2 i b (by simpa using hi))
  | (intros;simp [q7]at*;done)
  | (intro h;cases h;done)
  | (intro _ h;cases h;done)
  | (intro _ _ h;cases h;done)
  | (intro _ _ _ h;cases h;done)
  | (intro _ _ _ _ h;cases h;done)
  | (intro _ _ _ _ _ h;cases h;done)
section
variable {P:Program} {N:Nat} {e:Nat->AV} {mem:List Ob} {d:Option Tmp} {ty:TypeId} {pos:String} {af:Array Edge} {g:Option (Nat×Bool)}
theorem EY{f:FuncId}{as:Array Operand}{ts:Array TypeId}{args args':List AV}{r:AV}(hargs:cX e as.toList=args)(hv:lX mem args args')(hp:q7 r=true)(hc:bN P f args' (λq=>q=r))(dY:∀ args w,(callFunc f args).run P w= .ok (.enter f args) w):
 bw P ⟨d,.call ⟨.value (.func f),as,ts⟩,ty,pos,af,g⟩ e mem r:=by
 intro pb w0 θ w ev hs h;obtain⟨hl,hvw⟩:=hv.spec;have hvs:(as.toList.map (aT ev)).length =args'.length:=by rw [hl, <- hargs];simp [cX]
 rw [k6 (f:=.func (.func f) #[] #[]) rfl rfl];refine oJ dY ((hc pb w _ hvs λi a' v ha hv=>?_).mono ?_)
 ·rw [Xh]at hv;cases hx:as.toList[i]? with
  | none=>rw [hx]at hv;cases hv
  | some x=>
   rw [hx]at hv;simp at hv;subst hv;have hmem:x∈as:=by have:=Xp hx;simpa using this
   have ha2:args[i]? =some (ak e x):=by rw [<- hargs,cX,Xh,hx];rfl
   exact(hvw i _ _ ha2 ha).ok hs (h x mR)
 ·rintro en w' ⟨r',v,rfl,rfl,h3,h4⟩;exact⟨v,rfl,.ro ((We hp).r0 h3),h4⟩
end
end Go.Proofs.YtbmlgmblfboigaaGreatDoor
namespace Go.Proofs.YtbmlgmblfboigaaGreatDoor
open Go Go.RowKit Go.Proofs
section
variable {P:Program} {N:Nat} {Q:AQ} {e:Nat->AV} {mem:List Ob}
theorem MA{ops:Array Oper}{l:List Oper}{s j:Nat}{eT k:Nat}{els:List (List AV)}(hs:ak e (.tmp s)= .own j)(hm:mem[j]? =some (.row eT k els))(h:∀ m1 e1,m1=mem.set j .gone ->e1=aS e (some s) (.row k els)->AL P N ops l Q e1 m1):AL P N ops l Q e mem:=by
 refine S3 (λpb w0 θ w hsim=>⟨θ,Step.drop hsim j,λt x hr=>?_⟩) (h _ _ rfl rfl)
 by_cases ht:t=s
 ·subst ht;rw [show e t= .own j from hs]at hr;simp only [aS,if_true];have hθ:=hr.gU;obtain⟨xs,h1,h2,h3,h4⟩:=hsim.ob j _ x hm hθ;rcases id h1.2 with⟨hx,h0⟩|⟨g,cap,cur,hx,hg,hh,hn,hr2⟩
  ·have:els= []:=XS h0;subst this;subst hx;exact .ro (.nil _ _ _)
  ·subst hx
   by_cases hne:els= []
   ·subst hne;exact .ro (.nil _ _ _)
   ·have hfl:els.flatten.length=els.length*k:=fF h3;have hxl:=h1.1;refine .ro (.row k els g 0 cap (λi=>xs.getD i undef) hne hn h3 (Xu.1 hh).1 (aO.dropped hsim hm aN hθ rfl) (λi a ha=>?_) λi a ha=>?_)
    ·have hi:i<xs.length:=by rw [hxl, <- hfl];exact(Xe.1 ha).1
     have:=sU h1 (b:=g) rfl i (xs.getD i undef) (by simp [hi,Xc])
     rwa [Xl]
    ·have hi:i<xs.length:=by rw [hxl, <- hfl];exact(Xe.1 ha).1
     have:=h4 i a (xs.getD i undef) ha (by simp [hi,Xc]);exact this.mono (Xf _) (λ_ _ _=>rfl) (Step.drop hsim j).np
 ·simp only [aS,if_neg ht];exact(Step.drop hsim j).keep _ _ hr
end
end Go.Proofs.YtbmlgmblfboigaaGreatDoor
namespace Go.Proofs.YtbmlgmblfboigaaGreatDoor
open Go Go.RowKit Go.Proofs
section
variable {P:Program} {N:Nat} {Q:AQ} {e:Nat->AV} {mem:List Ob}
end
end Go.Proofs.YtbmlgmblfboigaaGreatDoor
