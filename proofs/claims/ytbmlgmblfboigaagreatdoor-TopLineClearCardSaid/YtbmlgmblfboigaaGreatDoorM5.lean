/- Texts of this claim, one behind the other: lemmas for the statement. -/
import Derived.Test.YtbmlgmblfboigaaGreatDoorM4
import Derived.Test.YtbmlgmblfboigaaGreatDoorA42
set_option linter.unusedSimpArgs false
set_option linter.unusedVariables false
namespace Go.Proofs.YtbmlgmblfboigaaGreatDoor
open Go Go.RowKit Go.Proofs
section
variable {P:Program} {N:Nat} {Q:AQ} {e:Nat->AV} {mem:List Ob}
end
end Go.Proofs.YtbmlgmblfboigaaGreatDoor
namespace Go.Proofs.YtbmlgmblfboigaaGreatDoor
open Go Go.RowKit Go.Proofs
section
variable {P:Program} {e:Nat->AV} {mem:List Ob} {d:Option Tmp} {ty t t2:TypeId} {pos:String} {af:Array Edge} {g:Option (Nat×Bool)} {x y z:Operand}
end
end Go.Proofs.YtbmlgmblfboigaaGreatDoor
namespace Go.Proofs.YtbmlgmblfboigaaGreatDoor
open Go Go.RowKit Go.Proofs
structure dD (mem:List Ob) (f:Nat->Nat) (n i x e w:Nat) (r:Nat->List (List AV)) (lo hi k:Nat):Prop where
 at_:∀ q,q<n->q≠i->mem[f q]? =some (.row e w (r q))
 inj:∀ a b,a<n->b<n->f a=f b->a=b
 lo:∀ q,q<n->lo<=f q
 hi:∀ q,q<n->f q<hi
 ne:∀ q,q<n->f q≠k
 out:∀ q,q<n->q≠i->f q≠x
section
variable {mem m:List Ob} {f:Nat->Nat} {n i x e w:Nat} {r:Nat->List (List AV)} {lo hi k:Nat}
theorem dD.zero(mem:List Ob)(f:Nat->Nat)(i x e w:Nat)(r:Nat->List (List AV))(lo hi k:Nat):dD mem f 0 i x e w r lo hi k:=⟨λq h=>absurd h ah,λa b h=>absurd h ah,λq h=>absurd h ah,λq h=>absurd h ah,λq h=>absurd h ah,λq h=>absurd h ah⟩
theorem dD.of_same(h:dD mem f n i x e w r lo hi k)(hm:∀ q,q<n->q≠i->m[f q]? =mem[f q]?):dD m f n i x e w r lo hi k:=
 ⟨λq h1 h2=>(hm q h1 h2).trans (h.at_ q h1 h2),h.inj,h.lo,h.hi,h.ne,h.out⟩
theorem dD.push(h:dD mem f n i x e w r lo hi k){o:Ob}(hm:m=mem++ [o]):dD m f n i x e w r lo hi k:=
 ⟨λq h1 h2=>aK hm (h.at_ q h1 h2),h.inj,h.lo,h.hi,h.ne,h.out⟩
theorem dD.miss(h:dD mem f n i x e w r lo hi k){j:Nat}(hj:j<lo\/hi<=j\/j=k\/j=x):∀ q,q<n->q≠i->f q≠j:=λq h1 h2 he=>by
 have b1:=h.lo q h1;have b2:=h.hi q h1;have b3:=h.ne q h1;have b4:=h.out q h1 h2;omega
theorem dD.Wb(h:dD mem f n i x e w r lo hi k){j:Nat}{o:Ob}(hm:m=mem.set j o)(hj:j<lo\/hi<=j\/j=k\/j=x):dD m f n i x e w r lo hi k:=
 h.of_same λq h1 h2=>by subst hm;rw [Xm (λe=>h.miss hj q h1 h2 e.symm)]
theorem dD.wide(h:dD mem f n i x e w r lo hi k){hi2:Nat}(h2:hi<=hi2):dD mem f n i x e w r lo hi2 k:=⟨h.at_,h.inj,h.lo,λq hq=>XG (h.hi q hq) h2,h.ne,h.out⟩
theorem dD.congr(h:dD mem f n i x e w r lo hi k){f':Nat->Nat}{r':Nat->List (List AV)}(hf:∀ q,q<n->f' q=f q)(hr:∀ q,q<n->q≠i->r' q=r q):dD mem f' n i x e w r' lo hi k:=
 ⟨λq h1 h2=>by rw [hf q h1,hr q h1 h2];exact h.at_ q h1 h2,λa b ha hb hab=>h.inj a b ha hb (by rw [<- hf a ha, <- hf b hb];exact hab),λq hq=>by rw [hf q hq];exact h.lo q hq,λq hq=>by rw [hf q hq];exact h.hi q hq,λq hq=>by rw [hf q hq];exact h.ne q hq,λq h1 h2=>by rw [hf q h1];exact h.out q h1 h2⟩
theorem dD.take(h:dD mem f n n k e w r lo hi k){q:Nat}(hq:q<n):mem[f q]? =some (.row e w (r q))/\dD mem f n q (f q) e w r lo hi k:=
 ⟨h.at_ q hq ah,λa h1 h2=>h.at_ a h1 ah,h.inj,h.lo,h.hi,h.ne,λa h1 h2 he=>h2 (h.inj a q h1 hq he)⟩
theorem dD.more(h:dD mem f n n k e w r lo hi k){j:Nat}{els:List (List AV)}(hj:mem[j]? =some (.row e w els))(h1:lo<=j)(h1':hi<=j)(h2:j≠k){f':Nat->Nat}{r':Nat->List (List AV)}(hf:∀ q,q<n->f' q=f q)(hfn:f' n=j)(hr:∀ q,q<n->r' q=r q)(hrn:r' n=els):dD mem f' (n+1) (n+1) k e w r' lo (j+1) k:=by
 have cs:∀ q,q<n+1->q=n\/q<n:=λq hq=>by omega
 have hne:∀ q,q<n->f q≠j:=λq hq=>by have:=h.hi q hq;omega
 refine⟨λq hq _=>?_,λa b ha hb hab=>?_,λq hq=>?_,λq hq=>?_,λq hq=>?_,λq hq _=>?_⟩
 ·rcases cs q hq with rfl|hq
  ·rw [hfn,hrn];exact hj
  ·rw [hf q hq,hr q hq];exact h.at_ q hq ah
 ·rcases cs a ha with rfl|ha<;>rcases cs b hb with rfl|hb
  ·rfl
  ·rw [hfn,hf b hb]at hab;exact absurd hab.symm (hne b hb)
  ·rw [hfn,hf a ha]at hab;exact absurd hab (hne a ha)
  ·rw [hf a ha,hf b hb]at hab;exact h.inj a b ha hb hab
 ·rcases cs q hq with rfl|hq
  ·rw [hfn];exact h1
  ·rw [hf q hq];exact h.lo q hq
 ·rcases cs q hq with rfl|hq
  ·rw [hfn];omega
  ·rw [hf q hq];have:=h.hi q hq;omega
 ·rcases cs q hq with rfl|hq
  ·rw [hfn];exact h2
  ·rw [hf q hq];exact h.ne q hq
 ·rcases cs q hq with rfl|hq
  ·rw [hfn];exact h2
  ·rw [hf q hq];exact h.ne q hq
end
end Go.Proofs.YtbmlgmblfboigaaGreatDoor
namespace Go.Proofs.YtbmlgmblfboigaaGreatDoor
open Go Go.RowKit Go.Proofs
section
variable {P:Program} {N:Nat} {Q:AQ} {e:Nat->AV}
theorem dD.less{mem:List Ob}{f:Nat->Nat}{n e w:Nat}{r:Nat->List (List AV)}{lo hi k:Nat}(h:dD mem f (n+1) (n+1) k e w r lo hi k):dD mem f n n k e w r lo hi k:=
 ⟨λq h1 h2=>h.at_ q ah ah,λi j hi hj=>h.inj i j ah ah,λq hq=>h.lo q ah,λq hq=>h.hi q ah,λq hq=>h.ne q ah,λq hq _=>h.ne q ah⟩
end
end Go.Proofs.YtbmlgmblfboigaaGreatDoor
namespace Go.Proofs.YtbmlgmblfboigaaGreatDoor
open Go Go.RowKit Go.Proofs
section
variable {P:Program} {e:Nat->AV} {mem:List Ob} {d:Option Tmp} {ty t t2:TypeId} {pos:String} {af:Array Edge} {g:Option (Nat×Bool)} {x y z:Operand}
end
end Go.Proofs.YtbmlgmblfboigaaGreatDoor
namespace Go.Proofs.YtbmlgmblfboigaaGreatDoor.FamR
open Go Go.RowKit Go.Proofs
variable {mem m:List Ob} {f:Nat->Nat} {n a x e w:Nat} {r:Nat->List (List AV)} {lo hi k:Nat} {o:Ob} {i j K:Nat}
theorem aK(hm:m=mem++ [o])(h:dD mem f n a x e w r lo hi k):dD m f n a x e w r lo hi k:=h.push hm
theorem aw(hm:m=mem.set j o)(h:dD mem f n a x e w r lo hi k)(hj:j<lo\/hi<=j\/j=k\/j=x):dD m f n a x e w r lo hi k:=h.Wb hm hj
theorem fG(hm:m=mem.set j .gone ++ [o])(h:dD mem f n a x e w r lo hi k)(hj:j<lo\/hi<=j\/j=k\/j=x):dD m f n a x e w r lo hi k:=aK hm (aw rfl h hj)
theorem bz(hm:m=mem++List.replicate K .gone)(h:dD mem f n a x e w r lo hi k):dD m f n a x e w r lo hi k:=
 ⟨λq h1 h2=>Proofs.YtbmlgmblfboigaaGreatDoor.bz hm (h.at_ q h1 h2),h.inj,h.lo,h.hi,h.ne,h.out⟩
theorem cL(hm:m=(mem.set i .gone).set j o)(h:dD mem f n a x e w r lo hi k)(h1:i<lo\/hi<=i\/i=k\/i=x)(h2:j<lo\/hi<=j\/j=k\/j=x):dD m f n a x e w r lo hi k:=aw hm (aw rfl h h1) h2
theorem dW{ts:List Nat}{xs:List Ob}(hm:m=fQ ts xs mem)(hl:ts.length<=xs.length)(h:dD mem f n a x e w r lo hi k)(hn:∀ t∈ts,t<lo\/hi<=t\/t=k\/t=x):dD m f n a x e w r lo hi k:=
 ⟨λq h1 h2=>Proofs.YtbmlgmblfboigaaGreatDoor.dW hm hl (h.at_ q h1 h2) (λhm=>h.miss (hn _ hm) q h1 h2 rfl),h.inj,h.lo,h.hi,h.ne,h.out⟩
end Go.Proofs.YtbmlgmblfboigaaGreatDoor.FamR
