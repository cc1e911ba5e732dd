/- Texts of this claim, one behind the other: lemmas for the statement. -/
import Derived.Test.YtfoaiidcfkmneaaGreatDoorA8
import Derived.Test.YtfoaiidcfkmneaaGreatDoorA9
import Derived.Test.YtfoaiidcfkmneaaGreatDoorA5
import Derived.Test.YtfoaiidcfkmneaaGreatDoorA16
import Derived.Test.YtfoaiidcfkmneaaGreatDoorA53
import Derived.RecoverIn
set_option linter.unusedSimpArgs false
set_option linter.unusedVariables false
namespace Go.Proofs.YtfoaiidcfkmneaaGreatDoor
open Go Go.RowKit Go.Proofs
inductive mw:AV->Prop
 | v (x:Value):mw (.v x)
 | agg (l:List AV):(∀ (i:Nat) (a:AV),l[i]? =some a->mw a)->mw (.agg l)
 | tuple (l:List AV):(∀ (i:Nat) (a:AV),l[i]? =some a->mw a)->mw (.tuple l)
theorem mw.r0{pr pr':Nat->Prop}{w:World}{a:AV}(h:mw a):∀ {x:Value},R0 pr w a x->R0 pr' w a x:=by
 induction h with
 | v c=>intro x hx;cases hx;exact .v _
 | agg l _ ih=>
  intro x hx;cases hx with
  | agg _ xs h1 h2=>exact .agg l xs h1 λi a x ha hx=>ih i a ha (h2 i a x ha hx)
 | tuple l _ ih=>
  intro x hx;cases hx with
  | tuple _ xs h1 h2=>exact .tuple l xs h1 λi a x ha hx=>ih i a ha (h2 i a x ha hx)
def pZ:AV->Bool
 | .v _=>true
 | .agg l=>plL l
 | .tuple l=>plL l
 | _=>false
where plL:List AV->Bool
 | []=>true
 | a::l=>pZ a&&plL l
theorem Rx:∀ {a:AV},pZ a=true->mw a:=by
 intro a;refine AV.rec (motive_1:=λa=>pZ a=true->mw a) (motive_2:=λ_=>True) (motive_3:=λl=>pZ.plL l=true-> ∀ (i:Nat) (a:AV),l[i]? =some a->mw a) ?_ ?_ ?_ ?_ ?_ ?_ ?_ ?_ ?_ ?_ ?_ ?_ ?_ ?_ a
 all_goals first
  | (intro x _;exact .v x)
  | (intro l ih h;exact .agg l (ih h))
  | (intro l ih h;exact .tuple l (ih h))
  | (intros;trivial)
  | (intro h i a hi;simp at hi;done)
  | (intro a l ih1 ih2 h i b hi
     simp only [pZ.plL,SS]at h;cases i with
     | zero=>simp at hi;subst hi;exact ih1 h.1
     | succ i=>exact ih2 h.2 i b (by simpa using hi))
  | (intros;simp [pZ]at*;done)
  | (intro h;cases h;done)
  | (intro _ h;cases h;done)
  | (intro _ _ h;cases h;done)
  | (intro _ _ _ h;cases h;done)
  | (intro _ _ _ _ h;cases h;done)
  | (intro _ _ _ _ _ h;cases h;done)
section
variable {P:Program} {N:Nat} {e:Nat->AV} {mem:List Ob} {d:Option Tmp} {ty:TypeId} {pos:String} {af:Array Edge} {g:Option (Nat×Bool)}
theorem CG{f:FuncId}{as:Array Operand}{ts:Array TypeId}{args args':List AV}{r:AV}(hargs:dc e as.toList=args)(hv:lr mem args args')(hp:pZ r=true)(hc:bT P f args' (λq=>q=r))(eH:∀ args w,(callFunc f args).run P w= .ok (.enter f args) w):
 bH P ⟨d,.call ⟨.value (.func f),as,ts⟩,ty,pos,af,g⟩ e mem r:=by
 intro pb w0 θ w ev hs h;obtain⟨hl,hvw⟩:=hv.spec;have hvs:(as.toList.map (aZ ev)).length =args'.length:=by rw [hl, <- hargs];simp [dc]
 rw [ly (f:=.func (.func f) #[] #[]) rfl rfl];refine qn eH ((hc pb w _ hvs λi a' v ha hv=>?_).mono ?_)
 ·rw [SU]at hv;cases hx:as.toList[i]? with
  | none=>rw [hx]at hv;cases hv
  | some x=>
   rw [hx]at hv;simp at hv;subst hv;have hmem:x∈as:=by have:=S9 hx;simpa using this
   have ha2:args[i]? =some (al e x):=by rw [<- hargs,dc,SU,hx];rfl
   exact(hvw i _ _ ha2 ha).ok hs (h x nT)
 ·rintro en w' ⟨r',v,rfl,rfl,h3,h4⟩;exact⟨v,rfl,.ro ((Rx hp).r0 h3),h4⟩
end
end Go.Proofs.YtfoaiidcfkmneaaGreatDoor
namespace Go.Proofs.YtfoaiidcfkmneaaGreatDoor
open Go Go.RowKit Go.Proofs
def ng(P:Program)(a:AV)(args:List AV)(ψ:AV->Prop):Prop:=∃ f l m,a= .clo (.func f) l m/\cS.roL l=true/\cS.roL m=true/\(∀ args w,(callFunc f args).run P w= .ok (.enter f args) w)/\bT P f (l++args++m) ψ
section
variable {P:Program} {e:Nat->AV} {mem:List Ob} {d:Option Tmp} {ty:TypeId} {pos:String} {af:Array Edge} {g:Option (Nat×Bool)} {x:Operand}
theorem CH{as:Array Operand}{ts:Array TypeId}{args:List AV}{a r:AV}(hx:al e x=a)(hargs:dc e as.toList=args)(hro:cS.roL args=true)(h:ng P a args (λq=>q=r)):bH P ⟨d,.call ⟨.value x,as,ts⟩,ty,pos,af,g⟩ e mem r:=by
 obtain⟨f,l,m,rfl,h1,h2,h3,h4⟩:=h;exact BZ hx hargs hro h1 h2 h4 h3
end
def pL(a:AV):List AV:= [a]
instance:Inhabited AV:=⟨.any⟩
end Go.Proofs.YtfoaiidcfkmneaaGreatDoor
namespace Go.Proofs.YtfoaiidcfkmneaaGreatDoor
open Go Go.RowKit Go.Proofs
section
variable {P:Program} {N:Nat} {Q:AQ} {e:Nat->AV} {mem:List Ob}
end
end Go.Proofs.YtfoaiidcfkmneaaGreatDoor
