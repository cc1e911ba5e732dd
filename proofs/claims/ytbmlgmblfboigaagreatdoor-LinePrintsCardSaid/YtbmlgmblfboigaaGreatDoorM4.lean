/- Texts of this claim, one behind the other: lemmas for the statement. -/
import Derived.Test.YtbmlgmblfboigaaGreatDoorA25
import Derived.Test.YtbmlgmblfboigaaGreatDoorA15
import Derived.Test.YtbmlgmblfboigaaGreatDoorM3
import Derived.Test.YtbmlgmblfboigaaGreatDoorA42
set_option linter.unusedSimpArgs false
set_option linter.unusedVariables false
namespace Go.Proofs.YtbmlgmblfboigaaGreatDoor
open Go Go.RowKit Go.Proofs
section
variable {P:Program} {e:Nat->AV} {mem:List Ob} {d:Option Tmp} {ty t:TypeId} {pos:String} {af:Array Edge} {g:Option (Nat×Bool)} {x y:Operand}
end
end Go.Proofs.YtbmlgmblfboigaaGreatDoor
namespace Go.Proofs.YtbmlgmblfboigaaGreatDoor
open Go Go.RowKit Go.Proofs
theorem Step.news{pb:Nat->Prop}{w0:Bs}{w w':World}{θ:List Value}{mem:List Ob}(h:bX pb w0 w θ mem)(hx:Ext w w')(vs:List Value)(os:List Ob)(hlen:vs.length=os.length)(hb:∀ (i:Nat) (v:Value) (b:Nat),vs[i]? =some v->cg v=some b->w.heap.size<=b)
 (hd:∀ (i j:Nat) (v u:Value) (b:Nat),vs[i]? =some v->vs[j]? =some u->cg v=some b->cg u=some b->i=j)
 (ho:∀ θ' pr,(∀ a x,R1 θ (aM pb θ mem) w a x->R1 θ' pr w' a x)-> ∀ (i:Nat) (v:Value) (o:Ob),vs[i]? =some v->os[i]? =some o->dq θ' pr w0.ft w' v o):Step pb w0 θ mem w (θ++vs) (mem++os) w':=by
 have hθ:∀ (j:Nat) (x:Value),θ[j]? =some x->(θ++vs)[j]? =some x:=λj x hj=>by rw [Tt (S9.1 hj).1];exact hj
 have split:∀ {j:Nat} {p:Ob} {u:Value},(mem++os)[j]? =some p->(θ++vs)[j]? =some u->(mem[j]? =some p/\θ[j]? =some u)\/(mem.length<=j/\os[j - mem.length]? =some p/\vs[j - mem.length]? =some u):=by
  intro j p u hm hu;rcases TN j mem.length with hj|hj
  ·rw [Tt hj]at hm;rw [Tt (by rw [h.len];exact hj)]at hu;exact .inl ⟨hm,hu⟩
  ·rw [Tu hj]at hm;rw [Tu (by rw [h.len];exact hj),h.len]at hu;exact .inr ⟨hj,hm,hu⟩
 have hp:∀ b,b<w.heap.size-> ¬ aM pb θ mem b-> ¬ aM pb (θ++vs) (mem++os) b:=by
  intro b hlt hn hq;rcases hq with hq|⟨j,p,u,h1,h2,h3,h4⟩
  ·exact hn (.inl hq)
  rcases split h1 h3 with⟨h5,h6⟩|⟨_,_,h6⟩
  ·exact hn (.inr ⟨j,p,u,h5,h2,h6,h4⟩)
  ·have:=hb _ _ b h6 h4;omega
 have keep:∀ a x,R1 θ (aM pb θ mem) w a x->R1 (θ++vs) (aM pb (θ++vs) (mem++os)) w' a x:=λa x hr=>hr.mono hθ hx.size (λb hb _=>hx.block b hb) hp
 refine⟨⟨h.ext.ext hx,h.low,by simp [h.len,hlen],λj p u hm hu=>?_,λi j p q u u' b h1 h2 h3 h4 h5 h6 h7 h8=>?_⟩,keep,hx.size,λb hb _=>hx.block b hb,hp⟩
 ·rcases split hm hu with⟨h5,h6⟩|⟨_,h5,h6⟩
  ·by_cases hg:p= .gone
   ·subst hg;trivial
   ·exact(h.ob j p u h5 h6).mono hθ hx.size (λb hb _=>hx.block b hb) hp (λb hb=>hx.block b ((h.ob j p u h5 h6).lt hg hb).2)
  ·exact ho _ _ keep _ _ _ h6 h5
 ·rcases split h1 h5 with⟨a1,a2⟩|⟨l1,a1,a2⟩<;>rcases split h3 h6 with⟨a3,a4⟩|⟨l2,a3,a4⟩
  ·exact h.dis i j p q u u' b a1 h2 a3 h4 a2 a4 h7 h8
  ·have:=((h.ob i p u a1 a2).lt h2 h7).2;have:=hb _ _ b a4 h8;omega
  ·have:=((h.ob j q u' a3 a4).lt h4 h8).2;have:=hb _ _ b a2 h7;omega
  ·have:=hd _ _ _ _ b a2 a4 h7 h8;omega
section
variable {P:Program} {e:Nat->AV} {mem:List Ob} {d:Option Tmp} {ty t:TypeId} {pos:String} {af:Array Edge} {g:Option (Nat×Bool)} {x y:Operand}
end
end Go.Proofs.YtbmlgmblfboigaaGreatDoor
namespace Go.Proofs.YtbmlgmblfboigaaGreatDoor
open Go Go.RowKit Go.Proofs
section
variable {P:Program} {e:Nat->AV} {mem:List Ob} {d:Option Tmp} {ty t t2:TypeId} {pos:String} {af:Array Edge} {g:Option (Nat×Bool)} {x y z:Operand}
end
section
variable {P:Program} {N:Nat} {Q:AQ} {e:Nat->AV} {mem:List Ob}
theorem Il{M:Mode}{c:Code}{j k eT kk:Nat}{T:TypeId}{cells:List AV}{els:List (List AV)}(o:Nat)(hm:mem[j]? =some (.box T cells))(hk:mem[k]? =some (.row eT kk els))(hjk:k≠j)(ho:cells[o]? =some (.own k))
 (h:∀ m1,m1=(mem.set k .gone).set j (.box T (cells.set o (.row kk els)))->AW M P N c Q e m1):AW M P N c Q e mem:=by
 refine λF n hF pb w0 θ a w hf=>?_
 have hsim:=hf.sim;have D1:=Step.drop hsim k;have hm2:(mem.set k .gone)[j]? =some (.box T cells):=by rw [Tz hjk];exact hm
 obtain⟨v,hv⟩:∃ v,θ[j]? =some v:=⟨_,Tc (by rw [hsim.len];exact(S9.1 hm).1)⟩;obtain⟨b',xs,hb1,hb2,hb3,hb4,hb5⟩:=hsim.ob j _ v hm hv;obtain⟨b2,xs2,c1,c2,c3,c4,c5⟩:=D1.sim.ob j _ v hm2 hv;have st2:Step pb w0 θ (mem.set k .gone) w θ ((mem.set k .gone).set j (.box T (cells.set o (.row kk els)))) w:=
  Step.write (o':=Ob.box T (cells.set o (.row kk els))) D1.sim hm2 (by simp) hv (Below.refl 0 w) (λ_ _ _=>rfl) λpr keep=>⟨b2,xs2,c1,c2,c3,by simpa using c4,λi a x ha hx=>by
   by_cases hi:o=i
   ·subst hi;have hlt:o<cells.length:=(S9.1 ho).1;rw [TC hlt]at ha;cases ha;have hx2:=(c5 o _ x ho hx).gy;exact keep _ _ (.ro (As hsim hk hx2))
   ·rw [Tz hi]at ha;exact keep _ _ (c5 i a x ha hx)⟩
 have st3:=D1.trans st2;exact wpIn_mono (h _ rfl F n hF pb w0 θ a w ⟨hf.size,hf.dfr.step st3,λt=>st3.keep _ _ (hf.sl t),st3.sim⟩) λ_ _ _ hq=>hq.after st3
end
end Go.Proofs.YtbmlgmblfboigaaGreatDoor
namespace Go.Proofs.YtbmlgmblfboigaaGreatDoor
open Go Go.RowKit Go.Proofs
section
variable {P:Program} {N:Nat} {Q:AQ} {e:Nat->AV} {mem:List Ob}
end
end Go.Proofs.YtbmlgmblfboigaaGreatDoor
namespace Go.Proofs.YtbmlgmblfboigaaGreatDoor
open Go Go.RowKit Go.Proofs
section
variable {P:Program} {e:Nat->AV} {mem:List Ob} {d:Option Tmp} {ty t t2:TypeId} {pos:String} {af:Array Edge} {g:Option (Nat×Bool)} {x y z:Operand}
end
end Go.Proofs.YtbmlgmblfboigaaGreatDoor
namespace Go.Proofs.YtbmlgmblfboigaaGreatDoor
open Go Go.RowKit Go.Proofs
structure dm (mem:List Ob) (f:Nat->Nat) (n i x e w:Nat) (r:Nat->List (List AV)) (lo hi k:Nat):Prop where
 at_:∀ q,q<n->q≠i->mem[f q]? =some (.row e w (r q))
 inj:∀ a b,a<n->b<n->f a=f b->a=b
 lo:∀ q,q<n->lo<=f q
 hi:∀ q,q<n->f q<hi
 ne:∀ q,q<n->f q≠k
 out:∀ q,q<n->q≠i->f q≠x
section
variable {mem m:List Ob} {f:Nat->Nat} {n i x e w:Nat} {r:Nat->List (List AV)} {lo hi k:Nat}
theorem dm.zero(mem:List Ob)(f:Nat->Nat)(i x e w:Nat)(r:Nat->List (List AV))(lo hi k:Nat):dm mem f 0 i x e w r lo hi k:=⟨λq h=>absurd h (by omega),λa b h=>absurd h (by omega),λq h=>absurd h (by omega),λq h=>absurd h (by omega),λq h=>absurd h (by omega),λq h=>absurd h (by omega)⟩
theorem dm.of_same(h:dm mem f n i x e w r lo hi k)(hm:∀ q,q<n->q≠i->m[f q]? =mem[f q]?):dm m f n i x e w r lo hi k:=
 ⟨λq h1 h2=>(hm q h1 h2).trans (h.at_ q h1 h2),h.inj,h.lo,h.hi,h.ne,h.out⟩
theorem dm.push(h:dm mem f n i x e w r lo hi k){o:Ob}(hm:m=mem++ [o]):dm m f n i x e w r lo hi k:=
 ⟨λq h1 h2=>aJ hm (h.at_ q h1 h2),h.inj,h.lo,h.hi,h.ne,h.out⟩
theorem dm.miss(h:dm mem f n i x e w r lo hi k){j:Nat}(hj:j<lo\/hi<=j\/j=k\/j=x):∀ q,q<n->q≠i->f q≠j:=λq h1 h2 he=>by
 have b1:=h.lo q h1;have b2:=h.hi q h1;have b3:=h.ne q h1;have b4:=h.out q h1 h2;omega
theorem dm.RN(h:dm mem f n i x e w r lo hi k){j:Nat}{o:Ob}(hm:m=mem.set j o)(hj:j<lo\/hi<=j\/j=k\/j=x):dm m f n i x e w r lo hi k:=
 h.of_same λq h1 h2=>by subst hm;rw [Tz (λe=>h.miss hj q h1 h2 e.symm)]
theorem dm.wide(h:dm mem f n i x e w r lo hi k){hi2:Nat}(h2:hi<=hi2):dm mem f n i x e w r lo hi2 k:=⟨h.at_,h.inj,h.lo,λq hq=>TR (h.hi q hq) h2,h.ne,h.out⟩
theorem dm.congr(h:dm mem f n i x e w r lo hi k){f':Nat->Nat}{r':Nat->List (List AV)}(hf:∀ q,q<n->f' q=f q)(hr:∀ q,q<n->q≠i->r' q=r q):dm mem f' n i x e w r' lo hi k:=
 ⟨λq h1 h2=>by rw [hf q h1,hr q h1 h2];exact h.at_ q h1 h2,λa b ha hb hab=>h.inj a b ha hb (by rw [<- hf a ha, <- hf b hb];exact hab),λq hq=>by rw [hf q hq];exact h.lo q hq,λq hq=>by rw [hf q hq];exact h.hi q hq,λq hq=>by rw [hf q hq];exact h.ne q hq,λq h1 h2=>by rw [hf q h1];exact h.out q h1 h2⟩
theorem dm.take(h:dm mem f n n k e w r lo hi k){q:Nat}(hq:q<n):mem[f q]? =some (.row e w (r q))/\dm mem f n q (f q) e w r lo hi k:=
 ⟨h.at_ q hq (by omega),λa h1 h2=>h.at_ a h1 (by omega),h.inj,h.lo,h.hi,h.ne,λa h1 h2 he=>h2 (h.inj a q h1 hq he)⟩
theorem dm.more(h:dm mem f n n k e w r lo hi k){j:Nat}{els:List (List AV)}(hj:mem[j]? =some (.row e w els))(h1:lo<=j)(h1':hi<=j)(h2:j≠k){f':Nat->Nat}{r':Nat->List (List AV)}(hf:∀ q,q<n->f' q=f q)(hfn:f' n=j)(hr:∀ q,q<n->r' q=r q)(hrn:r' n=els):dm mem f' (n+1) (n+1) k e w r' lo (j+1) k:=by
 have cs:∀ q,q<n+1->q=n\/q<n:=λq hq=>by omega
 have hne:∀ q,q<n->f q≠j:=λq hq=>by have:=h.hi q hq;omega
 refine⟨λq hq _=>?_,λa b ha hb hab=>?_,λq hq=>?_,λq hq=>?_,λq hq=>?_,λq hq _=>?_⟩
 ·rcases cs q hq with rfl|hq
  ·rw [hfn,hrn];exact hj
  ·rw [hf q hq,hr q hq];exact h.at_ q hq (by omega)
 ·rcases cs a ha with rfl|ha<;>rcases cs b hb with rfl|hb
  ·rfl
  ·rw [hfn,hf b hb]at hab;exact absurd hab.symm (hne b hb)
  ·rw [hfn,hf a ha]at hab;exact absurd hab (hne a ha)
  ·rw [hf a ha,hf b hb]at hab;exact h.inj a b ha hb hab
 ·rcases cs q hq with rfl|hq
  ·rw [hfn];exact h1
  ·rw [hf q hq];exact h.lo q hq
 ·rcases cs q hq with rfl|hq
  ·rw [hfn];omega
  ·rw [hf q hq];have:=h.hi q hq;omega
 ·rcases cs q hq with rfl|hq
  ·rw [hfn];exact h2
  ·rw [hf q hq];exact h.ne q hq
 ·rcases cs q hq with rfl|hq
  ·rw [hfn];exact h2
  ·rw [hf q hq];exact h.ne q hq
end
end Go.Proofs.YtbmlgmblfboigaaGreatDoor
namespace Go.Proofs.YtbmlgmblfboigaaGreatDoor
open Go Go.RowKit Go.Proofs
section
variable {P:Program} {N:Nat} {Q:AQ} {e:Nat->AV}
theorem dm.less{mem:List Ob}{f:Nat->Nat}{n e w:Nat}{r:Nat->List (List AV)}{lo hi k:Nat}(h:dm mem f (n+1) (n+1) k e w r lo hi k):dm mem f n n k e w r lo hi k:=
 ⟨λq h1 h2=>h.at_ q (by omega) (by omega),λi j hi hj=>h.inj i j (by omega) (by omega),λq hq=>h.lo q (by omega),λq hq=>h.hi q (by omega),λq hq=>h.ne q (by omega),λq hq _=>h.ne q (by omega)⟩
end
end Go.Proofs.YtbmlgmblfboigaaGreatDoor
namespace Go.Proofs.YtbmlgmblfboigaaGreatDoor
open Go Go.RowKit Go.Proofs
section
variable {P:Program} {e:Nat->AV} {mem:List Ob} {d:Option Tmp} {ty t t2:TypeId} {pos:String} {af:Array Edge} {g:Option (Nat×Bool)} {x y z:Operand}
end
end Go.Proofs.YtbmlgmblfboigaaGreatDoor
namespace Go.Proofs.YtbmlgmblfboigaaGreatDoor.FamR
open Go Go.RowKit Go.Proofs
variable {mem m:List Ob} {f:Nat->Nat} {n a x e w:Nat} {r:Nat->List (List AV)} {lo hi k:Nat} {o:Ob} {i j K:Nat}
theorem aJ(hm:m=mem++ [o])(h:dm mem f n a x e w r lo hi k):dm m f n a x e w r lo hi k:=h.push hm
theorem ao(hm:m=mem.set j o)(h:dm mem f n a x e w r lo hi k)(hj:j<lo\/hi<=j\/j=k\/j=x):dm m f n a x e w r lo hi k:=h.RN hm hj
theorem fU(hm:m=mem.set j .gone ++ [o])(h:dm mem f n a x e w r lo hi k)(hj:j<lo\/hi<=j\/j=k\/j=x):dm m f n a x e w r lo hi k:=aJ hm (ao rfl h hj)
theorem bp(hm:m=mem++List.replicate K .gone)(h:dm mem f n a x e w r lo hi k):dm m f n a x e w r lo hi k:=
 ⟨λq h1 h2=>Proofs.YtbmlgmblfboigaaGreatDoor.bp hm (h.at_ q h1 h2),h.inj,h.lo,h.hi,h.ne,h.out⟩
theorem cn(hm:m=(mem.set i .gone).set j o)(h:dm mem f n a x e w r lo hi k)(h1:i<lo\/hi<=i\/i=k\/i=x)(h2:j<lo\/hi<=j\/j=k\/j=x):dm m f n a x e w r lo hi k:=ao hm (ao rfl h h1) h2
theorem dE{ts:List Nat}{xs:List Ob}(hm:m=fe ts xs mem)(hl:ts.length<=xs.length)(h:dm mem f n a x e w r lo hi k)(hn:∀ t∈ts,t<lo\/hi<=t\/t=k\/t=x):dm m f n a x e w r lo hi k:=
 ⟨λq h1 h2=>Proofs.YtbmlgmblfboigaaGreatDoor.dE hm hl (h.at_ q h1 h2) (λhm=>h.miss (hn _ hm) q h1 h2 rfl),h.inj,h.lo,h.hi,h.ne,h.out⟩
end Go.Proofs.YtbmlgmblfboigaaGreatDoor.FamR
