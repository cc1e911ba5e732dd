/- Texts of this claim, one behind the other: lemmas for the statement. -/
import Derived.Test.YtfoaiidcfkmneaaGreatDoorA41
import Derived.Lib.AppendStr
import Derived.Lib.UnsafeStr
import Derived.Test.YtfoaiidcfkmneaaGreatDoorM5
set_option linter.unusedSimpArgs false
set_option linter.unusedVariables false
namespace Go.Proofs.YtfoaiidcfkmneaaGreatDoor
open Go Go.RowKit
section
variable {m mem:List Ob} {a b c d e f g:Ob} {l:List Ob}
theorem Rt(h:m=a::l):m[0]? =some a:=by subst h;rfl
theorem kX{ts:List Nat}{xs:List Ob}{i:Nat}{o:Ob}(h:m=gi ts xs mem)(hl:ts.length<=xs.length)(hi:mem[i]? =some o)(hn:i∉ts):m[i]? =some o:=by
 subst h;rw [s8 ts xs mem i hl hn (SN.1 hi).1];exact hi
theorem OT{ts:List Nat}{xs:List Ob}{n:Nat}{o:Ob}(h:m=gi ts xs mem)(hl:ts.length<=xs.length)(hn:mem.length=n)(i:Nat)(hx:xs[ts.length+i]? =some o):m[n+i]? =some o:=by
 subst h;subst hn;rw [wu ts xs mem i hl];exact hx
theorem OU{ts:List Nat}{xs:List Ob}{n:Nat}(h:m=gi ts xs mem)(hn:mem.length=n)(k:Nat)(hx:xs.length=ts.length+k):m.length=n+k:=by
 subst h;subst hn;rw [va ts xs mem ah];omega
end
section
variable {P:Program} {e:Nat->AV} {mem:List Ob} {fn:Func}
theorem Qu{gs:List (Nat×List AV)}{m0 m1:List Ob}{x:Exit}{n:Nat}{r q:AV}(hx:x= .normal \/x= .ret)(ts:List Nat)(hl:mem.length=n)(hg:mem[0]? =some (.bY gs))(hnd:ts.Nodup)(hpre:ts.take m0.length=List.range' 1 m0.length)(hr:ow P fn e mem q)(hE:iI (rho ts n) mem ts m1)(hq:q=rn (rho ts n) r):Am P fn gs m0 (λq m=>q=r/\m=m1) x e mem:=by
 subst hl;subst hq;exact⟨hx,ts,r,m1,⟨rfl,rfl⟩,hg,hnd,hpre,hE,hr⟩
theorem Qv{ρ:Nat->Nat}{t:Nat}{ts:List Nat}{o p:Ob}{os:List Ob}(h:mem[t]? =some p)(hp:p=o.rn ρ)(hr:iI ρ mem ts os):iI ρ mem (t::ts) (o::os):=.ob (by rw [h,hp]) hr
end
section
variable {P:Program} {e:Nat->AV} {mem:List Ob} {d:Option Tmp} {ty t:TypeId} {pos:String} {af:Array Edge} {g:Option (Nat×Bool)} {x y:Operand}
theorem Qw{n:Nat}{gs:List (Nat×List AV)}{f:FuncId}{as:Array Operand}{tys:Array TypeId}{args:List AV}{m0 m1:List Ob}{r:AV}(hc:wG P gs f args m0 r m1)(ts:List Nat)(hl:mem.length=n)(hargs:dc e as.toList=rn.rnL (rho ts n) args)(hgl:ox mem gs)(hnd:ts.Nodup)(hE:iI (rho ts n) mem ts m0)(hlv:GY m0=true)(eH:∀ args w,(callFunc f args).run P w= .ok (.enter f args) w):
 fq P ⟨d,.call ⟨.value (.func f),as,tys⟩,ty,pos,af,g⟩ e mem (rn (rho ts n) r) (gi ts (m1.map (Ob.rn (rho ts n))) mem):=Rr ts hl hargs hc hgl hnd hE hlv eH
theorem Qx{o:Oper}{r r':AV}{mem':List Ob}(h:fq P o e mem r mem')(hr:r=r'):fq P o e mem r' mem':=hr ▸ h
end
end Go.Proofs.YtfoaiidcfkmneaaGreatDoor
namespace Go.Proofs.YtfoaiidcfkmneaaGreatDoor
open Go Go.RowKit Go.Proofs
structure dB (mem:List Ob) (f:Nat->Nat) (n i x e w:Nat) (r:Nat->List (List AV)) (lo hi k:Nat):Prop where
 at_:∀ q,q<n->q≠i->mem[f q]? =some (.row e w (r q))
 inj:∀ a b,a<n->b<n->f a=f b->a=b
 lo:∀ q,q<n->lo<=f q
 hi:∀ q,q<n->f q<hi
 ne:∀ q,q<n->f q≠k
 out:∀ q,q<n->q≠i->f q≠x
section
variable {mem m:List Ob} {f:Nat->Nat} {n i x e w:Nat} {r:Nat->List (List AV)} {lo hi k:Nat}
theorem dB.zero(mem:List Ob)(f:Nat->Nat)(i x e w:Nat)(r:Nat->List (List AV))(lo hi k:Nat):dB mem f 0 i x e w r lo hi k:=⟨λq h=>absurd h ah,λa b h=>absurd h ah,λq h=>absurd h ah,λq h=>absurd h ah,λq h=>absurd h ah,λq h=>absurd h ah⟩
theorem dB.of_same(h:dB mem f n i x e w r lo hi k)(hm:∀ q,q<n->q≠i->m[f q]? =mem[f q]?):dB m f n i x e w r lo hi k:=
 ⟨λq h1 h2=>(hm q h1 h2).trans (h.at_ q h1 h2),h.inj,h.lo,h.hi,h.ne,h.out⟩
theorem dB.push(h:dB mem f n i x e w r lo hi k){o:Ob}(hm:m=mem++ [o]):dB m f n i x e w r lo hi k:=
 ⟨λq h1 h2=>aI hm (h.at_ q h1 h2),h.inj,h.lo,h.hi,h.ne,h.out⟩
theorem dB.miss(h:dB mem f n i x e w r lo hi k){j:Nat}(hj:j<lo\/hi<=j\/j=k\/j=x):∀ q,q<n->q≠i->f q≠j:=λq h1 h2 he=>by
 have b1:=h.lo q h1;have b2:=h.hi q h1;have b3:=h.ne q h1;have b4:=h.out q h1 h2;omega
theorem dB.Ru(h:dB mem f n i x e w r lo hi k){j:Nat}{o:Ob}(hm:m=mem.set j o)(hj:j<lo\/hi<=j\/j=k\/j=x):dB m f n i x e w r lo hi k:=
 h.of_same λq h1 h2=>by subst hm;rw [SY (λe=>h.miss hj q h1 h2 e.symm)]
theorem dB.wide(h:dB mem f n i x e w r lo hi k){hi2:Nat}(h2:hi<=hi2):dB mem f n i x e w r lo hi2 k:=⟨h.at_,h.inj,h.lo,λq hq=>S4 (h.hi q hq) h2,h.ne,h.out⟩
theorem dB.congr(h:dB mem f n i x e w r lo hi k){f':Nat->Nat}{r':Nat->List (List AV)}(hf:∀ q,q<n->f' q=f q)(hr:∀ q,q<n->q≠i->r' q=r q):dB mem f' n i x e w r' lo hi k:=
 ⟨λq h1 h2=>by rw [hf q h1,hr q h1 h2];exact h.at_ q h1 h2,λa b ha hb hab=>h.inj a b ha hb (by rw [<- hf a ha, <- hf b hb];exact hab),λq hq=>by rw [hf q hq];exact h.lo q hq,λq hq=>by rw [hf q hq];exact h.hi q hq,λq hq=>by rw [hf q hq];exact h.ne q hq,λq h1 h2=>by rw [hf q h1];exact h.out q h1 h2⟩
theorem dB.take(h:dB mem f n n k e w r lo hi k){q:Nat}(hq:q<n):mem[f q]? =some (.row e w (r q))/\dB mem f n q (f q) e w r lo hi k:=
 ⟨h.at_ q hq ah,λa h1 h2=>h.at_ a h1 ah,h.inj,h.lo,h.hi,h.ne,λa h1 h2 he=>h2 (h.inj a q h1 hq he)⟩
theorem dB.more(h:dB mem f n n k e w r lo hi k){j:Nat}{els:List (List AV)}(hj:mem[j]? =some (.row e w els))(h1:lo<=j)(h1':hi<=j)(h2:j≠k){f':Nat->Nat}{r':Nat->List (List AV)}(hf:∀ q,q<n->f' q=f q)(hfn:f' n=j)(hr:∀ q,q<n->r' q=r q)(hrn:r' n=els):dB mem f' (n+1) (n+1) k e w r' lo (j+1) k:=by
 have cs:∀ q,q<n+1->q=n\/q<n:=λq hq=>by omega
 have hne:∀ q,q<n->f q≠j:=λq hq=>by have:=h.hi q hq;omega
 refine⟨λq hq _=>?_,λa b ha hb hab=>?_,λq hq=>?_,λq hq=>?_,λq hq=>?_,λq hq _=>?_⟩
 ·rcases cs q hq with rfl|hq
  ·rw [hfn,hrn];exact hj
  ·rw [hf q hq,hr q hq];exact h.at_ q hq ah
 ·rcases cs a ha with rfl|ha<;>rcases cs b hb with rfl|hb
  ·rfl
  ·rw [hfn,hf b hb]at hab;exact absurd hab.symm (hne b hb)
  ·rw [hfn,hf a ha]at hab;exact absurd hab (hne a ha)
  ·rw [hf a ha,hf b hb]at hab;exact h.inj a b ha hb hab
 ·rcases cs q hq with rfl|hq
  ·rw [hfn];exact h1
  ·rw [hf q hq];exact h.lo q hq
 ·rcases cs q hq with rfl|hq
  ·rw [hfn];omega
  ·rw [hf q hq];have:=h.hi q hq;omega
 ·rcases cs q hq with rfl|hq
  ·rw [hfn];exact h2
  ·rw [hf q hq];exact h.ne q hq
 ·rcases cs q hq with rfl|hq
  ·rw [hfn];exact h2
  ·rw [hf q hq];exact h.ne q hq
end
end Go.Proofs.YtfoaiidcfkmneaaGreatDoor
namespace Go.Proofs.YtfoaiidcfkmneaaGreatDoor
open Go Go.RowKit Go.Proofs
section
variable {P:Program} {N:Nat} {Q:AQ} {e:Nat->AV}
theorem dB.less{mem:List Ob}{f:Nat->Nat}{n e w:Nat}{r:Nat->List (List AV)}{lo hi k:Nat}(h:dB mem f (n+1) (n+1) k e w r lo hi k):dB mem f n n k e w r lo hi k:=
 ⟨λq h1 h2=>h.at_ q ah ah,λi j hi hj=>h.inj i j ah ah,λq hq=>h.lo q ah,λq hq=>h.hi q ah,λq hq=>h.ne q ah,λq hq _=>h.ne q ah⟩
end
end Go.Proofs.YtfoaiidcfkmneaaGreatDoor
namespace Go.Proofs.YtfoaiidcfkmneaaGreatDoor
open Go Go.RowKit Go.Proofs
section
variable {P:Program} {e:Nat->AV} {mem:List Ob} {d:Option Tmp} {ty t t2:TypeId} {pos:String} {af:Array Edge} {g:Option (Nat×Bool)} {x y z:Operand}
end
end Go.Proofs.YtfoaiidcfkmneaaGreatDoor
namespace Go.Proofs.YtfoaiidcfkmneaaGreatDoor.FamR
open Go Go.RowKit Go.Proofs
variable {mem m:List Ob} {f:Nat->Nat} {n a x e w:Nat} {r:Nat->List (List AV)} {lo hi k:Nat} {o:Ob} {i j K:Nat}
theorem aI(hm:m=mem++ [o])(h:dB mem f n a x e w r lo hi k):dB m f n a x e w r lo hi k:=h.push hm
theorem au(hm:m=mem.set j o)(h:dB mem f n a x e w r lo hi k)(hj:j<lo\/hi<=j\/j=k\/j=x):dB m f n a x e w r lo hi k:=h.Ru hm hj
theorem cC(hm:m=mem.set j .gone ++ [o])(h:dB mem f n a x e w r lo hi k)(hj:j<lo\/hi<=j\/j=k\/j=x):dB m f n a x e w r lo hi k:=aI hm (au rfl h hj)
theorem bJ(hm:m=mem++List.replicate K .gone)(h:dB mem f n a x e w r lo hi k):dB m f n a x e w r lo hi k:=
 ⟨λq h1 h2=>Proofs.YtfoaiidcfkmneaaGreatDoor.bJ hm (h.at_ q h1 h2),h.inj,h.lo,h.hi,h.ne,h.out⟩
theorem cY(hm:m=(mem.set i .gone).set j o)(h:dB mem f n a x e w r lo hi k)(h1:i<lo\/hi<=i\/i=k\/i=x)(h2:j<lo\/hi<=j\/j=k\/j=x):dB m f n a x e w r lo hi k:=au hm (au rfl h h1) h2
theorem kX{ts:List Nat}{xs:List Ob}(hm:m=gi ts xs mem)(hl:ts.length<=xs.length)(h:dB mem f n a x e w r lo hi k)(hn:∀ t∈ts,t<lo\/hi<=t\/t=k\/t=x):dB m f n a x e w r lo hi k:=
 ⟨λq h1 h2=>Proofs.YtfoaiidcfkmneaaGreatDoor.kX hm hl (h.at_ q h1 h2) (λhm=>h.miss (hn _ hm) q h1 h2 rfl),h.inj,h.lo,h.hi,h.ne,h.out⟩
end Go.Proofs.YtfoaiidcfkmneaaGreatDoor.FamR
