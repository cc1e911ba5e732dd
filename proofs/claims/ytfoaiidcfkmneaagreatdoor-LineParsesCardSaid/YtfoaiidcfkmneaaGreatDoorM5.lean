/- Texts of this claim, one behind the other: lemmas for the statement. -/
import Derived.Test.YtfoaiidcfkmneaaGreatDoorA25
import Derived.Test.YtfoaiidcfkmneaaGreatDoorA15
import Derived.Test.YtfoaiidcfkmneaaGreatDoorM4
set_option linter.unusedSimpArgs false
set_option linter.unusedVariables false
namespace Go.Proofs.YtfoaiidcfkmneaaGreatDoor
open Go Go.RowKit Go.Proofs
section
variable {P:Program} {e:Nat->AV} {mem:List Ob} {d:Option Tmp} {ty t:TypeId} {pos:String} {af:Array Edge} {g:Option (Nat×Bool)} {x y:Operand}
end
end Go.Proofs.YtfoaiidcfkmneaaGreatDoor
namespace Go.Proofs.YtfoaiidcfkmneaaGreatDoor
open Go Go.RowKit Go.Proofs
theorem Step.news{pb:Nat->Prop}{w0:Bs}{w w':World}{θ:List Value}{mem:List Ob}(h:cr pb w0 w θ mem)(hx:Ext w w')(vs:List Value)(os:List Ob)(hlen:vs.length=os.length)(hb:∀ (i:Nat) (v:Value) (b:Nat),vs[i]? =some v->cH v=some b->w.heap.size<=b)
 (hd:∀ (i j:Nat) (v u:Value) (b:Nat),vs[i]? =some v->vs[j]? =some u->cH v=some b->cH u=some b->i=j)
 (ho:∀ θ' pr,(∀ a x,R1 θ (aP pb θ mem) w a x->R1 θ' pr w' a x)-> ∀ (i:Nat) (v:Value) (o:Ob),vs[i]? =some v->os[i]? =some o->dG θ' pr w0.gn w' v o):Step pb w0 θ mem w (θ++vs) (mem++os) w':=by
 have hθ:∀ (j:Nat) (x:Value),θ[j]? =some x->(θ++vs)[j]? =some x:=λj x hj=>by rw [SX (SN.1 hj).1];exact hj
 have split:∀ {j:Nat} {p:Ob} {u:Value},(mem++os)[j]? =some p->(θ++vs)[j]? =some u->(mem[j]? =some p/\θ[j]? =some u)\/(mem.length<=j/\os[j - mem.length]? =some p/\vs[j - mem.length]? =some u):=by
  intro j p u hm hu;rcases Tf j mem.length with hj|hj
  ·rw [SX hj]at hm;rw [SX (by rw [h.len];exact hj)]at hu;exact .inl ⟨hm,hu⟩
  ·rw [S1 hj]at hm;rw [S1 (by rw [h.len];exact hj),h.len]at hu;exact .inr ⟨hj,hm,hu⟩
 have hp:∀ b,b<w.heap.size-> ¬ aP pb θ mem b-> ¬ aP pb (θ++vs) (mem++os) b:=by
  intro b hlt hn hq;rcases hq with hq|⟨j,p,u,h1,h2,h3,h4⟩
  ·exact hn (.inl hq)
  rcases split h1 h3 with⟨h5,h6⟩|⟨_,_,h6⟩
  ·exact hn (.inr ⟨j,p,u,h5,h2,h6,h4⟩)
  ·have:=hb _ _ b h6 h4;omega
 have keep:∀ a x,R1 θ (aP pb θ mem) w a x->R1 (θ++vs) (aP pb (θ++vs) (mem++os)) w' a x:=λa x hr=>hr.mono hθ hx.size (λb hb _=>hx.block b hb) hp
 refine⟨⟨h.ext.ext hx,h.low,by simp [h.len,hlen],λj p u hm hu=>?_,λi j p q u u' b h1 h2 h3 h4 h5 h6 h7 h8=>?_⟩,keep,hx.size,λb hb _=>hx.block b hb,hp⟩
 ·rcases split hm hu with⟨h5,h6⟩|⟨_,h5,h6⟩
  ·by_cases hg:p= .gone
   ·subst hg;trivial
   ·exact(h.ob j p u h5 h6).mono hθ hx.size (λb hb _=>hx.block b hb) hp (λb hb=>hx.block b ((h.ob j p u h5 h6).lt hg hb).2)
  ·exact ho _ _ keep _ _ _ h6 h5
 ·rcases split h1 h5 with⟨a1,a2⟩|⟨l1,a1,a2⟩<;>rcases split h3 h6 with⟨a3,a4⟩|⟨l2,a3,a4⟩
  ·exact h.dis i j p q u u' b a1 h2 a3 h4 a2 a4 h7 h8
  ·have:=((h.ob i p u a1 a2).lt h2 h7).2;have:=hb _ _ b a4 h8;omega
  ·have:=((h.ob j q u' a3 a4).lt h4 h8).2;have:=hb _ _ b a2 h7;omega
  ·have:=hd _ _ _ _ b a2 a4 h7 h8;omega
section
variable {P:Program} {e:Nat->AV} {mem:List Ob} {d:Option Tmp} {ty t:TypeId} {pos:String} {af:Array Edge} {g:Option (Nat×Bool)} {x y:Operand}
end
end Go.Proofs.YtfoaiidcfkmneaaGreatDoor
namespace Go.Proofs.YtfoaiidcfkmneaaGreatDoor
open Go Go.RowKit Go.Proofs
section
variable {P:Program} {e:Nat->AV} {mem:List Ob} {d:Option Tmp} {ty t t2:TypeId} {pos:String} {af:Array Edge} {g:Option (Nat×Bool)} {x y z:Operand}
end
section
variable {P:Program} {N:Nat} {Q:AQ} {e:Nat->AV} {mem:List Ob}
theorem oR{M:Mode}{c:Code}{j k eT kk:Nat}{T:TypeId}{cells:List AV}{els:List (List AV)}(o:Nat)(hm:mem[j]? =some (.box T cells))(hk:mem[k]? =some (.row eT kk els))(hjk:k≠j)(ho:cells[o]? =some (.own k))
 (h:∀ m1,m1=(mem.set k .gone).set j (.box T (cells.set o (.row kk els)))->AW M P N c Q e m1):AW M P N c Q e mem:=by
 refine λF n hF pb w0 θ a w hf=>?_
 have hsim:=hf.sim;have D1:=Step.drop hsim k;have hm2:(mem.set k .gone)[j]? =some (.box T cells):=by rw [SY hjk];exact hm
 obtain⟨v,hv⟩:∃ v,θ[j]? =some v:=⟨_,SQ (by rw [hsim.len];exact(SN.1 hm).1)⟩;obtain⟨b',xs,hb1,hb2,hb3,hb4,hb5⟩:=hsim.ob j _ v hm hv;obtain⟨b2,xs2,c1,c2,c3,c4,c5⟩:=D1.sim.ob j _ v hm2 hv;have st2:Step pb w0 θ (mem.set k .gone) w θ ((mem.set k .gone).set j (.box T (cells.set o (.row kk els)))) w:=
  Step.write (o':=Ob.box T (cells.set o (.row kk els))) D1.sim hm2 aL hv (Below.refl 0 w) (λ_ _ _=>rfl) λpr keep=>⟨b2,xs2,c1,c2,c3,by simpa using c4,λi a x ha hx=>by
   by_cases hi:o=i
   ·subst hi;have hlt:o<cells.length:=(SN.1 ho).1;rw [S7 hlt]at ha;cases ha;have hx2:=(c5 o _ x ho hx).j6;exact keep _ _ (.ro (Bn hsim hk hx2))
   ·rw [SY hi]at ha;exact keep _ _ (c5 i a x ha hx)⟩
 have st3:=D1.trans st2;exact wpIn_mono (h _ rfl F n hF pb w0 θ a w ⟨hf.size,hf.dfr.step st3,λt=>st3.keep _ _ (hf.sl t),st3.sim⟩) λ_ _ _ hq=>hq.after st3
end
end Go.Proofs.YtfoaiidcfkmneaaGreatDoor
namespace Go.Proofs.YtfoaiidcfkmneaaGreatDoor
open Go Go.RowKit Go.Proofs
section
variable {P:Program} {N:Nat} {Q:AQ} {e:Nat->AV} {mem:List Ob}
end
end Go.Proofs.YtfoaiidcfkmneaaGreatDoor
namespace Go.Proofs.YtfoaiidcfkmneaaGreatDoor
open Go Go.RowKit Go.Proofs
section
variable {P:Program} {e:Nat->AV} {mem:List Ob} {d:Option Tmp} {ty t t2:TypeId} {pos:String} {af:Array Edge} {g:Option (Nat×Bool)} {x y z:Operand}
end
end Go.Proofs.YtfoaiidcfkmneaaGreatDoor
