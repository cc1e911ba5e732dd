/- Lemmas for the statement. -/
import Derived.Test.YtfoaiidcfkmneaaGreatDoorA14
import Derived.Lib.AppendZerosOnto
namespace Go.Proofs.YtfoaiidcfkmneaaGreatDoor
open Go Go.RowKit Go.Proofs
set_option linter.unusedSimpArgs false
set_option linter.unusedVariables false
section
variable {P:Program} {e:Nat->AV} {mem:List Ob} {d:Option Tmp} {ty t:TypeId} {pos:String} {af:Array Edge} {g:Option (Nat×Bool)} {x y:Operand}
def pQ(mem:List Ob)(l:List AV):Prop:=∀ a∈l,lp a=true\/ ∃ j2 T2 k2 els,a= .own j2/\mem[j2]? =some (.row T2 k2 els)
theorem LD:pQ mem []:=λa h=>by cases h
theorem Qq{a:AV}{l:List AV}(h:lp a=true)(t:pQ mem l):pQ mem (a::l):=λb hb=>by
 rcases TL.1 hb with rfl|hb
 ·exact .inl h
 ·exact t b hb
theorem zA{j2 k2 T2:Nat}{els:List (List AV)}{l:List AV}(h:mem[j2]? =some (.row T2 k2 els))(t:pQ mem l):pQ mem (.own j2::l):=λb hb=>by
 rcases TL.1 hb with rfl|hb
 ·exact .inr ⟨_,_,_,_,rfl,h⟩
 ·exact t b hb
theorem Jr{j off n:Nat}{T:TypeId}{cells l:List AV}{a:AV}(hx:al e x= .ptr j off)(hy:al e y=a)(hc:cellsA a=some l)(hone:pQ mem l)(hm:mem[j]? =some (.box T cells))(hsz:(P.info? t).map (·.size)=some n)(hn:l.length=n)(ho:off+n<=cells.length):
 nf P ⟨d,.store t x y,ty,pos,af,g⟩ e mem j (.box T (setAt cells off l)):=by
 intro pb w0 θ w ev hs h;have h1:=h x cB;have h2:=h y cB;rw [hx]at h1;rw [hy]at h2;obtain⟨b,v,hθ,hbase,hp⟩:=h1.iC;obtain⟨b',xs,h3,rfl,h4,h5,h6⟩:=hs.ob j _ v hm hθ;cases hbase;obtain⟨h7,h8⟩:=qj h2 hc;have hrun:=tJ (P:=P) (θ:=θ) (pr:=aP pb θ mem) (t:=t) (off:=off) (n:=n) (v:=aZ ev y) h4 hsz ah ah (λu hu=>by
  obtain⟨i,hi,rfl⟩:=TK hu;have hil:i<l.length:=by simp at hi;omega
  have h9:=h8 i l[i] ((aZ ev y).cells.toList[i]) (SQ hil) (by simp at hi;simp [hi]);rcases hone _ (TQ hil)with h10|⟨j2,T2,k2,els,h10,h11⟩
  ·exact sh h9 h10
  ·rw [h10]at h9;obtain⟨zs,h12,_⟩:=hs.ob j2 _ _ h11 h9.j6;obtain⟨A,c,hval,_⟩:=rO h12;rw [hval];rfl)
 have e1:execOp (aZ ev) ⟨d,.store t x y,ty,pos,af,g⟩=(do Instr.storeAt t (aZ ev x) (aZ ev y);pure .skip):=rfl;rw [e1,Sem.run_bind,hp,hrun];refine⟨rfl,Step.write hs hm aL hθ (below_setRow (S8 _) _) (λb hb hne=>setRow_other w b' b _ (λe=>hne (by rw [e];rfl))) λpr k=>?_⟩;have hcl:(aZ ev y).cells.toList.length =n:=by simp;omega
 refine⟨b',setAt xs off (aZ ev y).cells.toList,h3,rfl,setRow_heap w b' _ _ T (0,0) h4,by rw [lv _ _ _ ah,lv _ _ _ ah,h5],λi a u ha hu=>?_⟩;rw [kr _ _ _ ah]at ha hu;rw [hcl]at hu;rw [hn]at ha
 by_cases c1:i<off
 ·rw [if_pos c1]at ha hu;exact k _ _ (h6 i a u ha hu)
 ·rw [if_neg c1]at ha hu
  by_cases c2:i<off+n
  ·rw [if_pos c2]at ha hu;exact k _ _ (h8 _ a u ha (by simpa using hu))
  ·rw [if_neg c2]at ha hu;exact k _ _ (h6 i a u ha hu)
theorem Js{j off n:Nat}{T:TypeId}{cells l:List AV}{a:AV}(hx:al e x= .ptr j off)(hy:al e y=a)(hc:cellsA a=some l)(hone:pQ mem l)(hm:mem[j]? =some (.box T cells))(hsz:(P.info? t).map (·.size)=some n)(hn:l.length=n)(ho:off+n<=cells.length):
 fq P ⟨d,.store t x y,ty,pos,af,g⟩ e mem (.v undef) (mem.set j (.box T (setAt cells off l))):=qW (Jr hx hy hc hone hm hsz hn ho)
end
end Go.Proofs.YtfoaiidcfkmneaaGreatDoor
