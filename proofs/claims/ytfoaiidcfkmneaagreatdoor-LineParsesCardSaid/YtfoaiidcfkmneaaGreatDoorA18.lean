/- Lemmas for the statement. -/
import Derived.Test.YtfoaiidcfkmneaaGreatDoorA16
namespace Go.Proofs.YtfoaiidcfkmneaaGreatDoor
open Go Go.RowKit Go.Proofs
set_option linter.unusedSimpArgs false
set_option linter.unusedVariables false
set_option maxRecDepth 100000
set_option maxHeartbeats 1000000
section
variable {P:Program} {e:Nat->AV} {mem:List Ob} {d:Option Tmp} {ty t:TypeId} {pos:String} {af:Array Edge} {g:Option (Nat×Bool)} {x y:Operand}
theorem F4{els:List (List AV)}{k bytes eT:Nat}{zv:Value}{n:Int}{kn:IntKind}(hty:b9 P t eT k bytes zv)(hx:al e x= .row k els)(hy:al e y= .v (.int kn n))(h0:0<=n)(hn:n<=els.length):
 bH P ⟨d,.slice t x (some y) none none,ty,pos,af,g⟩ e mem (.row k (els.drop n.toNat)):=by
 obtain⟨row,ht⟩:=hty.wC;have hu:=hty.1;obtain⟨a,rfl⟩:∃ q:Nat,n=q:=⟨n.toNat,ah⟩;obtain⟨b,hbl⟩:∃ b,b=els.length:=⟨_,rfl⟩;have h1:a<=b:=by omega
 have h2:b<=els.length:=by omega
 simp only [Ti];rw [show els.drop a=(els.take b).drop a by rw [hbl,UG]];intro pb w0 θ w ev hs h;have h1':=h x cB;have h2':=h y cB;rw [hx]at h1';rw [hy]at h2';generalize hv:aZ ev x=p at h1';rw [A0 hv h2'.val,Sem.run_bind];have run:∀ (A:Option Addr) (c:Nat),els.length<=c->(Instr.sliceAt t (.slice A els.length c) (some (.int kn (a:Int))) none none).run P w= .ok (.slice (if c=a then A else A.map (·.add (a*k))) (b - a) (c - a)) w:=by
  intro A c hc;have hb:b<=c:=by omega
  have ha:a<=els.length:=by omega
  subst hbl;simp [Instr.sliceAt,run_underlying hu,Instr.slice,Instr.sliceBounds,Instr.sliceBound,asIntOf,hb,h1,ha,ht.sizeOf,Sem.run_bind]
 cases h1'.getRow with
 | nil=>
  have ha:a=0:=by simp at h2;omega
  have hb:b=0:=by simp at h2;omega
  subst ha hb;have:=run (by assumption) (by assumption) aL;simp only [TB]at this;rw [this];refine⟨.ro ?_,Ext.refl w⟩;simp;exact .nil _ _ _
 | row _ _ bb o c f hne hc hk hb hp hcell hr=>
  rw [run _ _ hc];refine⟨.ro ?_,Ext.refl w⟩;have hlen:((els.take b).drop a).length =b - a:=by simp;omega
  have key:∀ i a',((els.take b).drop a).flatten[i]? =some a'->els.flatten[a*k+i]? =some a':=by
   intro i a' hi;have e1:els=els.take a++((els.take b).drop a++els.drop b):=by
    have e2:els.take a=(els.take b).take a:=by rw [TT,TI ah]
    rw [e2, <- TP,Ui,Ui]
   rw [e1,UM,S1 FR,
    iR (λl hl=>hk l (Uc hl)),UM]
   have e3:a*k+i - (els.take a).length *k=i:=by
    rw [TF,TI ah];omega
   rw [e3,SX (SN.1 hi).1];exact hi
  by_cases hempty:b - a=0
  ·have:(els.take b).drop a= []:=TD ah;rw [this,hempty];exact .nil _ _ _
  ·rw [if_neg ah, <- hlen]
   show R0 _ _ _ (.slice (some ((⟨bb,o,none⟩:Addr).add (a*k))) _ _)
   rw [sQ];refine .row k _ bb (o+a*k) _ (λi=>f (a*k+i)) (λh0=>by rw [h0]at hlen;simp at hlen;omega) ah (λl hl=>hk l (Uc (List.mem_of_mem_drop hl))) hb hp (λi a' hi=>?_) (λi a' hi=>?_)
   ·rw [TN];exact hcell _ a' (key i a' hi)
   ·exact hr _ a' (key i a' hi)
theorem F5{els:List (List AV)}{k bytes eT:Nat}{zv:Value}{n:Int}{kn:IntKind}(hty:b9 P t eT k bytes zv)(hx:al e x= .row k els)(hy:al e y= .v (.int kn n))(h0:0<=n)(hn:n<=els.length):
 bH P ⟨d,.slice t x none (some y) none,ty,pos,af,g⟩ e mem (.row k (els.take n.toNat)):=by
 obtain⟨row,ht⟩:=hty.wC;have hu:=hty.1;obtain⟨b,rfl⟩:∃ q:Nat,n=q:=⟨n.toNat,ah⟩;obtain⟨a,ha0⟩:∃ a,a=0:=⟨0,rfl⟩;have h1:a<=b:=by omega
 have h2:b<=els.length:=by omega
 simp only [Ti];rw [show els.take b=(els.take b).drop a by rw [ha0,Uu]];intro pb w0 θ w ev hs h;have h1':=h x cB;have h2':=h y cB;rw [hx]at h1';rw [hy]at h2';generalize hv:aZ ev x=p at h1';rw [A4 hv h2'.val,Sem.run_bind];have run:∀ (A:Option Addr) (c:Nat),els.length<=c->(Instr.sliceAt t (.slice A els.length c) none (some (.int kn (b:Int))) none).run P w= .ok (.slice (if c=a then A else A.map (·.add (a*k))) (b - a) (c - a)) w:=by
  intro A c hc;have hb:b<=c:=by omega
  subst ha0;simp [Instr.sliceAt,run_underlying hu,Instr.slice,Instr.sliceBounds,Instr.sliceBound,asIntOf,hb,h1,ht.sizeOf,Sem.run_bind]
  try (cases A<;>simp [Addr.add])
 cases h1'.getRow with
 | nil=>
  have ha:a=0:=by simp at h2;omega
  have hb:b=0:=by simp at h2;omega
  subst ha hb;have:=run (by assumption) (by assumption) aL;simp only [TB]at this;rw [this];refine⟨.ro ?_,Ext.refl w⟩;simp;exact .nil _ _ _
 | row _ _ bb o c f hne hc hk hb hp hcell hr=>
  rw [run _ _ hc];refine⟨.ro ?_,Ext.refl w⟩;have hlen:((els.take b).drop a).length =b - a:=by simp;omega
  have key:∀ i a',((els.take b).drop a).flatten[i]? =some a'->els.flatten[a*k+i]? =some a':=by
   intro i a' hi;have e1:els=els.take a++((els.take b).drop a++els.drop b):=by
    have e2:els.take a=(els.take b).take a:=by rw [TT,TI ah]
    rw [e2, <- TP,Ui,Ui]
   rw [e1,UM,S1 FR,
    iR (λl hl=>hk l (Uc hl)),UM]
   have e3:a*k+i - (els.take a).length *k=i:=by
    rw [TF,TI ah];omega
   rw [e3,SX (SN.1 hi).1];exact hi
  by_cases hempty:b - a=0
  ·have:(els.take b).drop a= []:=TD ah;rw [this,hempty];exact .nil _ _ _
  ·rw [if_neg ah, <- hlen]
   show R0 _ _ _ (.slice (some ((⟨bb,o,none⟩:Addr).add (a*k))) _ _)
   rw [sQ];refine .row k _ bb (o+a*k) _ (λi=>f (a*k+i)) (λh0=>by rw [h0]at hlen;simp at hlen;omega) ah (λl hl=>hk l (Uc (List.mem_of_mem_drop hl))) hb hp (λi a' hi=>?_) (λi a' hi=>?_)
   ·rw [TN];exact hcell _ a' (key i a' hi)
   ·exact hr _ a' (key i a' hi)
end
end Go.Proofs.YtfoaiidcfkmneaaGreatDoor
