/- Lemmas for the statement. -/
import Derived.Test.YtfoaiidcfkmneaaGreatDoorA5
import Derived.Laws.MakeOwn
import Derived.Laws.OwnMore
import Derived.Laws.Tables
import Derived.Laws.CopyRow
namespace Go.Proofs.YtfoaiidcfkmneaaGreatDoor
open Go Go.RowKit
set_option linter.unusedVariables false
set_option linter.unusedSimpArgs false
theorem Step.swap{pb:Nat->Prop}{w0:Bs}{w w':World}{θ:List Value}{mem:List Ob}(h:cr pb w0 w θ mem){j:Nat}{o:Ob}{v:Value}(hm:mem[j]? =some o)(hg:o≠ .gone)(hv:θ[j]? =some v)(hx:Below 0 w w')
 (hw:∀ b,b<w.heap.size->cH v≠some b->w'.heap[b]? =w.heap[b]?)(v':Value)(o':Ob)(hb:cH v'=cH v\/ ∀ b,cH v'=some b->w.heap.size<=b)
 (ho:∀ θ' pr,(∀ a x,R1 θ (aP pb θ mem) w a x->R1 θ' pr w' a x)->(∀ a x,R0 (aP pb θ mem) w a x->R0 pr w' a x)->dG θ' pr w0.gn w' v' o'):Step pb w0 θ mem w (θ++ [v']) (mem.set j .gone ++ [o']) w':=by
 have hj:j<mem.length:=(SN.1 hm).1;have hθ:∀ (i:Nat) (x:Value),θ[i]? =some x->(θ++ [v'])[i]? =some x:=λi x hi=>by rw [SX (SN.1 hi).1];exact hi
 have split:∀ {i:Nat} {p:Ob} {u:Value},(mem.set j .gone ++ [o'])[i]? =some p->(θ++ [v'])[i]? =some u->p= .gone \/(i≠j/\mem[i]? =some p/\θ[i]? =some u)\/(i=mem.length/\p=o'/\u=v'):=by
  intro i p u hp hu;rcases Tf i mem.length with hi|hi
  ·rw [SX (by simpa using hi)]at hp;rw [SX (by rw [h.len];exact hi)]at hu
   by_cases hij:j=i
   ·subst hij;rw [S7 hj]at hp;exact .inl (by simpa using hp.symm)
   ·rw [SY hij]at hp;exact .inr (.inl ⟨λe=>hij e.symm,hp,hu⟩)
  ·rw [S1 (by simpa using hi)]at hp;rw [S1 (by rw [h.len];exact hi),h.len]at hu;have h0:i - mem.length=0:=by have:=(SN.1 hp).1;simp at this;omega
   simp only [TE,h0]at hp;rw [h0]at hu;simp at hp hu;exact .inr (.inr ⟨ah,hp.symm,hu.symm⟩)
 have hpj:∀ b,cH v=some b->aP pb θ mem b:=λb hb=>.inr ⟨j,o,v,hm,hg,hv,hb⟩
 have hp:∀ b,b<w.heap.size-> ¬ aP pb θ mem b-> ¬ aP pb (θ++ [v']) (mem.set j .gone ++ [o']) b:=by
  intro b hlt hn hq;rcases hq with hq|⟨i,p,u,h1,h2,h3,h4⟩
  ·exact hn (.inl hq)
  rcases split h1 h3 with h5|⟨_,h5,h6⟩|⟨rfl,rfl,rfl⟩
  ·exact h2 h5
  ·exact hn (.inr ⟨i,p,u,h5,h2,h6,h4⟩)
  ·rcases hb with hb|hb
   ·exact hn (hpj b (by rw [<- hb];exact h4))
   ·have:=hb b h4;omega
 have hw':∀ b,b<w.heap.size-> ¬ aP pb θ mem b->w'.heap[b]? =w.heap[b]? :=λb hb hn=>hw b hb λhe=>hn (hpj b he)
 have keep:∀ a x,R1 θ (aP pb θ mem) w a x->R1 (θ++ [v']) (aP pb (θ++ [v']) (mem.set j .gone ++ [o'])) w' a x:=λa x hr=>hr.mono hθ hx.size hw' hp
 refine⟨⟨h.ext.write hx hw (λb hb=>((h.ob j o v hm hv).lt hg hb).1),h.low,by simp [h.len],λi p u hm' hu=>?_,λi i2 p q u u' b h1 h2 h3 h4 h5 h6 h7 h8=>?_⟩,keep,hx.size,hw',hp⟩
 ·rcases split hm' hu with rfl|⟨hne,h5,h6⟩|⟨rfl,rfl,rfl⟩
  ·trivial
  ·by_cases hgp:p= .gone
   ·subst hgp;trivial
   ·refine(h.ob i p u h5 h6).mono hθ hx.size hw' hp λb hb=>?_
    exact hw b ((h.ob i p u h5 h6).lt hgp hb).2 λhe=>hne (h.dis i j p o u v b h5 hgp hm hg h6 hv hb he)
  ·exact ho _ _ keep (λa x hr=>hr.mono hx.size hw' hp)
 ·have far:∀ {i:Nat} {p:Ob} {u:Value},i≠j->mem[i]? =some p->p≠ .gone ->θ[i]? =some u->cH u=some b->cH v'≠some b:=by
   intro i p u hne a1 a2 a3 a4 a5;rcases hb with hb|hb
   ·exact hne (h.dis i j p o u v b a1 a2 hm hg a3 hv a4 (by rw [<- hb];exact a5))
   ·have:=hb b a5;have:=((h.ob i p u a1 a3).lt a2 a4).2;omega
  rcases split h1 h5 with e1|⟨n1,a1,a2⟩|⟨rfl,rfl,rfl⟩
  ·exact absurd e1 h2
  ·rcases split h3 h6 with e2|⟨n2,a3,a4⟩|⟨rfl,rfl,rfl⟩
   ·exact absurd e2 h4
   ·exact h.dis i i2 p q u u' b a1 h2 a3 h4 a2 a4 h7 h8
   ·exact absurd h8 (far n1 a1 h2 a2 h7)
  ·rcases split h3 h6 with e2|⟨n2,a3,a4⟩|⟨rfl,rfl,rfl⟩
   ·exact absurd e2 h4
   ·exact absurd h7 (far n2 a3 h4 a4 h8)
   ·rfl
theorem Step.Re{pb:Nat->Prop}{w0:Bs}{w w':World}{θ:List Value}{mem:List Ob}(h:cr pb w0 w θ mem){j k:Nat}{o:Ob}{v:Value}(hm:mem[j]? =some o)(hg:o≠ .gone)(hv:θ[j]? =some v)(hmk:mem[k]? =some .gone)(hvk:θ[k]? =some undef)(hx:Below 0 w w')
 (hw:∀ b,b<w.heap.size->cH v≠some b->w'.heap[b]? =w.heap[b]?)(v':Value)(o':Ob)(hb:cH v'=cH v\/ ∀ b,cH v'=some b->w.heap.size<=b)
 (ho:∀ θ' pr,(∀ a x,R1 θ (aP pb θ mem) w a x->R1 θ' pr w' a x)->(∀ a x,R0 (aP pb θ mem) w a x->R0 pr w' a x)->dG θ' pr w0.gn w' v' o'):Step pb w0 θ mem w (θ.set k v') ((mem.set j .gone).set k o') w':=by
 have hj:j<mem.length:=(SN.1 hm).1;have hkm:k<mem.length:=(SN.1 hmk).1;have hkt:k<θ.length:=(SN.1 hvk).1;have hθ:∀ (i:Nat) (x:Value),x≠undef->θ[i]? =some x->(θ.set k v')[i]? =some x:=λi x hx hi=>by
  by_cases hik:k=i
  ·subst hik;rw [hvk]at hi;cases hi;exact absurd rfl hx
  ·rw [SY hik];exact hi
 have split:∀ {i:Nat} {p:Ob} {u:Value},((mem.set j .gone).set k o')[i]? =some p->(θ.set k v')[i]? =some u->p= .gone \/(i≠j/\mem[i]? =some p/\θ[i]? =some u)\/(i=k/\p=o'/\u=v'):=by
  intro i p u hp hu
  by_cases hik:k=i
  ·subst hik;rw [S7 (by simpa using hkm)]at hp;rw [S7 hkt]at hu;cases hp;cases hu;exact .inr (.inr ⟨rfl,rfl,rfl⟩)
  ·rw [SY hik]at hp hu
   by_cases hij:j=i
   ·subst hij;rw [S7 hj]at hp;exact .inl (by simpa using hp.symm)
   ·rw [SY hij]at hp;exact .inr (.inl ⟨λe=>hij e.symm,hp,hu⟩)
 have hpj:∀ b,cH v=some b->aP pb θ mem b:=λb hb=>.inr ⟨j,o,v,hm,hg,hv,hb⟩
 have hp:∀ b,b<w.heap.size-> ¬ aP pb θ mem b-> ¬ aP pb (θ.set k v') ((mem.set j .gone).set k o') b:=by
  intro b hlt hn hq;rcases hq with hq|⟨i,p,u,h1,h2,h3,h4⟩
  ·exact hn (.inl hq)
  rcases split h1 h3 with h5|⟨_,h5,h6⟩|⟨rfl,rfl,rfl⟩
  ·exact h2 h5
  ·exact hn (.inr ⟨i,p,u,h5,h2,h6,h4⟩)
  ·rcases hb with hb|hb
   ·exact hn (hpj b (by rw [<- hb];exact h4))
   ·have:=hb b h4;omega
 have hw':∀ b,b<w.heap.size-> ¬ aP pb θ mem b->w'.heap[b]? =w.heap[b]? :=λb hb hn=>hw b hb λhe=>hn (hpj b he)
 have keep:∀ a x,R1 θ (aP pb θ mem) w a x->R1 (θ.set k v') (aP pb (θ.set k v') ((mem.set j .gone).set k o')) w' a x:=λa x hr=>hr.mono' hθ hx.size hw' hp
 refine⟨⟨h.ext.write hx hw (λb hb=>((h.ob j o v hm hv).lt hg hb).1),h.low,by simp [h.len],λi p u hm' hu=>?_,λi i2 p q u u' b h1 h2 h3 h4 h5 h6 h7 h8=>?_⟩,keep,hx.size,hw',hp⟩
 ·rcases split hm' hu with rfl|⟨hne,h5,h6⟩|⟨rfl,rfl,rfl⟩
  ·trivial
  ·by_cases hgp:p= .gone
   ·subst hgp;trivial
   ·refine(h.ob i p u h5 h6).mono' hθ hx.size hw' hp λb hb=>?_
    exact hw b ((h.ob i p u h5 h6).lt hgp hb).2 λhe=>hne (h.dis i j p o u v b h5 hgp hm hg h6 hv hb he)
  ·exact ho _ _ keep (λa x hr=>hr.mono hx.size hw' hp)
 ·have far:∀ {i:Nat} {p:Ob} {u:Value},i≠j->mem[i]? =some p->p≠ .gone ->θ[i]? =some u->cH u=some b->cH v'≠some b:=by
   intro i p u hne a1 a2 a3 a4 a5;rcases hb with hb|hb
   ·exact hne (h.dis i j p o u v b a1 a2 hm hg a3 hv a4 (by rw [<- hb];exact a5))
   ·have:=hb b a5;have:=((h.ob i p u a1 a3).lt a2 a4).2;omega
  rcases split h1 h5 with e1|⟨n1,a1,a2⟩|⟨rfl,rfl,rfl⟩
  ·exact absurd e1 h2
  ·rcases split h3 h6 with e2|⟨n2,a3,a4⟩|⟨rfl,rfl,rfl⟩
   ·exact absurd e2 h4
   ·exact h.dis i i2 p q u u' b a1 h2 a3 h4 a2 a4 h7 h8
   ·exact absurd h8 (far n1 a1 h2 a2 h7)
  ·rcases split h3 h6 with e2|⟨n2,a3,a4⟩|⟨rfl,rfl,rfl⟩
   ·exact absurd e2 h4
   ·exact absurd h7 (far n2 a3 h4 a4 h8)
   ·rfl
def tc(P:Program)(o:Oper)(e:Nat->AV)(mem:List Ob)(i:Nat)(ob:Ob)(h:Nat->AV):Prop:=
 ∀ (pb:Nat->Prop) (w0:Bs) (θ:List Value) (w:World) (ev:Nat->Value),cr pb w0 w θ mem->(∀ x∈o.op.operands,R1 θ (aP pb θ mem) w (al e x) (aZ ev x))->
  dt P (λv w'=>∃ o0 v0,mem[i]? =some o0/\o0≠ .gone /\θ[i]? =some v0/\Below 0 w w'/\(∀ b,b<w.heap.size->cH v0≠some b->w'.heap[b]? =w.heap[b]?)/\(cH v=cH v0\/ ∀ b,cH v=some b->w.heap.size<=b)/\
   (∀ θ' pr,(∀ a x,R1 θ (aP pb θ mem) w a x->R1 θ' pr w' a x)->(∀ a x,R0 (aP pb θ mem) w a x->R0 pr w' a x)->dG θ' pr w0.gn w' v ob)/\ ∀ θ' pr j,θ'[j]? =some v->R1 θ' pr w' (h j) v) ((execOp (aZ ev) o).run P w)
theorem Rf{P:Program}{o:Oper}{e:Nat->AV}{mem:List Ob}{i:Nat}{ob:Ob}{h:Nat->AV}{m:Nat}(hn:tc P o e mem i ob h)(hl:mem.length=m):fq P o e mem (h m) (mem.set i .gone ++ [ob]):=λpb w0 θ w ev hs hx=>
 dt.mono (λv w' ⟨o0,v0,h1,h2,h3,h4,h5,h6,h7,h8⟩=>⟨θ++ [v],h8 _ _ _ (by rw [<- hl, <- hs.len];simp),Step.swap hs h1 h2 h3 h4 h5 v ob h6 h7⟩) (hn pb w0 θ w ev hs hx)
theorem sg:∀ {l:List AV},(∀ (i:Nat) (a:AV),l[i]? =some a->cS a=true)->cS.roL l=true
 | [],_=>rfl
 | a::l,h=>by simp only [cS.roL,SS];exact⟨h 0 a rfl,sg λi b hb=>h (i+1) b (by simpa using hb)⟩
theorem B2{pr:Nat->Prop}{w:World}{a:AV}{u:Value}(hr:R0 pr w a u):cS a=true:=by
 have lt:∀ {l:List AV} {xs:List Value} {i:Nat} {a:AV},xs.length=l.length->l[i]? =some a->i<xs.length:=λh1 ha=>by rw [h1];exact(SN.1 ha).1
 induction hr with
 | agg l xs h1 h2 ih=>exact sg λi a ha=>ih i a _ ha (SQ (lt h1 ha))
 | tuple l xs h1 h2 ih=>exact sg λi a ha=>ih i a _ ha (SQ (lt h1 ha))
 | clo fn l m xs ys h1 h2 h3 h4 ih1 ih2=>
  simp only [cS,SS];exact⟨sg λi a ha=>ih1 i a _ ha (SQ (lt h1 ha)),sg λi a ha=>ih2 i a _ ha (SQ (lt h3 ha))⟩
 | _=>rfl
section
variable {P:Program} {e:Nat->AV} {mem:List Ob} {d:Option Tmp} {ty t t2:TypeId} {pos:String} {af:Array Edge} {g:Option (Nat×Bool)} {x y z:Operand}
theorem cr.base{pb:Nat->Prop}{w0:Bs}{w:World}{θ:List Value}(h:cr pb w0 w θ mem):w0.w.heap.size<=w.heap.size:=h.ext.size
theorem Qh{pb:Nat->Prop}{w0:Bs}{w:World}{θ:List Value}(h:cr pb w0 w θ mem)(v:Value):(θ++ [v])[mem.length]? =some v:=by
 rw [<- h.len];simp
theorem rP{zv:Value}{zs:List AV}{T:TypeId}(hz:(P.info? T).bind (·.zero)=some zv)(hzs:zv.cells.toList.map AV.v=zs):lN P ⟨d,.alloc T,ty,pos,af,g⟩ e mem (.box T zs) (λj=>.ptr j 0):=by
 intro pb w0 θ w ev hs h;rw [Ln,Sem.run_bind];have hrun:(Instr.alloc T true (.tuple #[])).run P w= .ok (.pointer (some ⟨w.heap.size,0,none⟩)) (w.alloc (.cells zv.cells T)):=by
  cases hq:P.info? T with
  | none=>rw [hq]at hz;cases hz
  | some i=>rw [hq]at hz;simp at hz;simp [Instr.alloc,zeroValue,typeInfo,hq,hz,newVar,newRow]
 rw [hrun];refine⟨(Ext.refl w).alloc _,sJ,λθ' pr _=>?_,λθ' pr j hj=>.ptr j 0 w.heap.size _ hj rfl⟩;refine⟨w.heap.size,zv.cells.toList,.inl hs.base,rfl,by simpa using heap_alloc_new w _,by rw [<- hzs];simp,λi a u ha hu=>?_⟩;rw [<- hzs,SU,hu]at ha;simp at ha;subst ha;exact .ro (.v _)
theorem cJ{zv:Value}{zs:List AV}{m:Nat}{T:TypeId}(hz:(P.info? T).bind (·.zero)=some zv)(hzs:zv.cells.toList.map AV.v=zs)(hl:mem.length=m):fq P ⟨d,.alloc T,ty,pos,af,g⟩ e mem (.ptr m 0) (mem++ [.box T zs]):=s6 (h:=λj=>.ptr j 0) (rP hz hzs) hl
theorem FY{l:List AV}{T:TypeId}{a:AV}(hx:al e x=a)(hc:cellsA a=some l):lN P ⟨d,.box T x,ty,pos,af,g⟩ e mem (.box T l) (λj=>.ptr j 0):=by
 intro pb w0 θ w ev hs h;have h1:=h x cB;rw [hx]at h1;obtain⟨h2,h3⟩:=qj h1 hc;have e1:execOp (aZ ev) ⟨d,.box T x,ty,pos,af,g⟩=(do pure (.value (<- Instr.box T (aZ ev x)))):=rfl;have hrun:(Instr.box T (aZ ev x)).run P w= .ok (.pointer (some ⟨w.heap.size,0,none⟩)) (w.alloc (.cells (aZ ev x).cells T)):=by simp [Instr.box,newVar,newRow]
 rw [e1,Sem.run_bind,hrun];refine⟨(Ext.refl w).alloc _,sJ,λθ' pr k=>?_,λθ' pr j hj=>.ptr j 0 w.heap.size _ hj rfl⟩;exact⟨w.heap.size,(aZ ev x).cells.toList,.inl hs.base,rfl,by simpa using heap_alloc_new w _,by simpa using h2,λi a u ha hu=>k _ _ (h3 i a u ha (by simpa using hu))⟩
theorem fD{l:List AV}{m:Nat}{T:TypeId}{a:AV}(hx:al e x=a)(hc:cellsA a=some l)(hl:mem.length=m):fq P ⟨d,.box T x,ty,pos,af,g⟩ e mem (.ptr m 0) (mem++ [.box T l]):=s6 (h:=λj=>.ptr j 0) (FY hx hc) hl
def lp:AV->Bool
 | .v x=>x.oneCell'
 | .row _ _| .ref _| .clo _ _ _| .ptr _ _=>true
 | _=>false
theorem sh{θ:List Value}{pr:Nat->Prop}{w:World}{a:AV}{x:Value}(h:R1 θ pr w a x)(ha:lp a=true):x.oneCell'=true:=by
 cases a with
 | v c=>rw [h.val];exact ha
 | row k els=>cases h.getRow<;>rfl
 | ref c=>cases h.getRef;rfl
 | clo fn l m=>cases h with
  | ro h=>cases h;rfl
  | clo=>rfl
 | ptr j o=>obtain⟨b,y,_,_,rfl⟩:=h.iC;rfl
 | _=>cases ha
theorem lv{α:Type}(cells l:List α)(off:Nat)(ho:off+l.length<=cells.length):(setAt cells off l).length =cells.length:=by simp [setAt];omega
theorem kr{α:Type}(cells l:List α)(off:Nat)(ho:off<=cells.length)(i:Nat):(setAt cells off l)[i]? =if i<off then cells[i]? else if i<off+l.length then l[i - off]? else cells[i]? :=by
 unfold setAt;have h1:(cells.take off).length =off:=by simp;omega
 by_cases a:i<off
 ·rw [if_pos a,TP,SX ah,TO a]
 ·rw [if_neg a]
  by_cases b:i<off+l.length
  ·rw [if_pos b,TP,S1 ah,h1,SX ah]
  ·rw [if_neg b,S1 cZ,Tj]
   congr 1;simp;omega
theorem tJ{θ:List Value}{pr:Nat->Prop}{w:World}{T:TypeId}{b off n:Nat}{cur:List Value}{v:Value}(hh:w.heap[b]? =some (.cells cur.toArray T (0,0)))(hsz:(P.info? t).map (·.size)=some n)(hn:v.cells.size=n)(ho:off+n<=cur.length)(h1:∀ u∈v.cells.toList,u.oneCell'=true):
 (Instr.storeAt t (.pointer (some ⟨b,off,none⟩)) v).run P w= .ok () (w.setRow b (setAt cur off v.cells.toList).toArray):=by
 have:=run_storeCells_at (P:=P) b off T v.cells.toList 0 cur.toArray w hh cZ h1;cases hq:P.info? t with
 | none=>rw [hq]at hsz;cases hsz
 | some i=>
  rw [hq]at hsz;simp at hsz;simp only [TS,UC,hn]at this;have e:(setAt cur off v.cells.toList)=cur.take off++v.cells.toList++cur.drop (off+n):=by unfold setAt;rw [UC,hn]
  rw [e];simp [Instr.storeAt,Instr.sureAddr,storeVar,sizeOf,typeInfo,hq,hsz,hn,Sem.run_bind,this]
theorem below_setRow{B b:Nat}{w:World}(h:B<=b)(cs:Array Value):Below B w (w.setRow b cs):=⟨rfl,rfl,rfl,aL,λk hk=>setRow_other w b k cs ah⟩
theorem mJ{j off n:Nat}{T:TypeId}{cells l:List AV}{a:AV}(hx:al e x= .ptr j off)(hy:al e y=a)(hc:cellsA a=some l)(hone:l.all lp=true)(hm:mem[j]? =some (.box T cells))(hsz:(P.info? t).map (·.size)=some n)(hn:l.length=n)(ho:off+n<=cells.length):
 nf P ⟨d,.store t x y,ty,pos,af,g⟩ e mem j (.box T (setAt cells off l)):=by
 intro pb w0 θ w ev hs h;have h1:=h x cB;have h2:=h y cB;rw [hx]at h1;rw [hy]at h2;obtain⟨b,v,hθ,hbase,hp⟩:=h1.iC;obtain⟨b',xs,h3,rfl,h4,h5,h6⟩:=hs.ob j _ v hm hθ;cases hbase;obtain⟨h7,h8⟩:=qj h2 hc;have hrun:=tJ (P:=P) (θ:=θ) (pr:=aP pb θ mem) (t:=t) (off:=off) (n:=n) (v:=aZ ev y) h4 hsz ah ah (λu hu=>by
  obtain⟨i,hi,rfl⟩:=TK hu;have hil:i<l.length:=by simp at hi;omega
  exact sh (h8 i l[i] _ (SQ hil) (by simp at hi;simp [hi])) (Td.1 hone _ (TQ hil)))
 have e1:execOp (aZ ev) ⟨d,.store t x y,ty,pos,af,g⟩=(do Instr.storeAt t (aZ ev x) (aZ ev y);pure .skip):=rfl;rw [e1,Sem.run_bind,hp,hrun];refine⟨rfl,Step.write hs hm aL hθ (below_setRow (S8 _) _) (λb hb hne=>setRow_other w b' b _ (λe=>hne (by rw [e];rfl))) λpr k=>?_⟩;have hcl:(aZ ev y).cells.toList.length =n:=by simp;omega
 refine⟨b',setAt xs off (aZ ev y).cells.toList,h3,rfl,setRow_heap w b' _ _ T (0,0) h4,by rw [lv _ _ _ ah,lv _ _ _ ah,h5],λi a u ha hu=>?_⟩;rw [kr _ _ _ ah]at ha hu;rw [hcl]at hu;rw [hn]at ha
 by_cases c1:i<off
 ·rw [if_pos c1]at ha hu;exact k _ _ (h6 i a u ha hu)
 ·rw [if_neg c1]at ha hu
  by_cases c2:i<off+n
  ·rw [if_pos c2]at ha hu;exact k _ _ (h8 _ a u ha (by simpa using hu))
  ·rw [if_neg c2]at ha hu;exact k _ _ (h6 i a u ha hu)
theorem bV{j off n:Nat}{T:TypeId}{cells l:List AV}{a:AV}(hx:al e x= .ptr j off)(hy:al e y=a)(hc:cellsA a=some l)(hone:l.all lp=true)(hm:mem[j]? =some (.box T cells))(hsz:(P.info? t).map (·.size)=some n)(hn:l.length=n)(ho:off+n<=cells.length):
 fq P ⟨d,.store t x y,ty,pos,af,g⟩ e mem (.v undef) (mem.set j (.box T (setAt cells off l))):=qW (mJ hx hy hc hone hm hsz hn ho)
theorem HW{j off j2 k2:Nat}{T T2:TypeId}{cells:List AV}{els:List (List AV)}(hx:al e x= .ptr j off)(hy:al e y= .own j2)(hm:mem[j]? =some (.box T cells))(hm2:mem[j2]? =some (.row T2 k2 els))(hsz:(P.info? t).map (·.size)=some 1)(ho:off+1<=cells.length):
 nf P ⟨d,.store t x y,ty,pos,af,g⟩ e mem j (.box T (setAt cells off [.own j2])):=by
 intro pb w0 θ w ev hs h;have h1:=h x cB;have h2:=h y cB;rw [hx]at h1;rw [hy]at h2;obtain⟨b,v,hθ,hbase,hp⟩:=h1.iC;obtain⟨b',xs,h3,rfl,h4,h5,h6⟩:=hs.ob j _ v hm hθ;cases hbase;have hθ2:=h2.j6;obtain⟨zs,h7,_⟩:=hs.ob j2 _ _ hm2 hθ2;obtain⟨A,c,hval,_⟩:=rO h7;have hcl:(aZ ev y).cells = #[aZ ev y]:=by rw [hval];rfl
 have hrun:=tJ (P:=P) (θ:=θ) (pr:=aP pb θ mem) (t:=t) (off:=off) (n:=1) (v:=aZ ev y) h4 hsz (by rw [hcl];rfl) ah (λu hu=>by
  rw [hcl]at hu;simp at hu;subst hu;rw [hval];rfl)
 have e1:execOp (aZ ev) ⟨d,.store t x y,ty,pos,af,g⟩=(do Instr.storeAt t (aZ ev x) (aZ ev y);pure .skip):=rfl;rw [e1,Sem.run_bind,hp,hrun];refine⟨rfl,Step.write hs hm aL hθ (below_setRow (S8 _) _) (λb hb hne=>setRow_other w b' b _ (λe=>hne (by rw [e];rfl))) λpr k=>?_⟩;have hcl2:(aZ ev y).cells.toList = [aZ ev y]:=by rw [hcl]
 refine⟨b',setAt xs off (aZ ev y).cells.toList,h3,rfl,setRow_heap w b' _ _ T (0,0) h4,by rw [hcl2,lv _ _ _ cZ,lv _ _ _ cZ,h5],λi a u ha hu=>?_⟩;rw [hcl2]at hu;rw [kr _ _ _ ah]at ha hu
 by_cases c1:i<off
 ·rw [if_pos c1]at ha hu;exact k _ _ (h6 i a u ha hu)
 ·rw [if_neg c1]at ha hu
  by_cases c2:i<off+1
  ·have hi:i=off:=by omega
   subst hi;simp at ha hu;subst ha hu;exact k _ _ h2
  ·rw [if_neg (by simpa using c2)]at ha hu;exact k _ _ (h6 i a u ha hu)
theorem kR{j off j2 k2:Nat}{T T2:TypeId}{cells:List AV}{els:List (List AV)}(hx:al e x= .ptr j off)(hy:al e y= .own j2)(hm:mem[j]? =some (.box T cells))(hm2:mem[j2]? =some (.row T2 k2 els))(hsz:(P.info? t).map (·.size)=some 1)(ho:off+1<=cells.length):
 fq P ⟨d,.store t x y,ty,pos,af,g⟩ e mem (.v undef) (mem.set j (.box T (setAt cells off [.own j2]))):=qW (HW hx hy hm hm2 hsz ho)
theorem iR{α:Type}{k:Nat}:∀ {els:List (List α)},(∀ l∈els,l.length=k)->els.flatten.length=els.length*k
 | [],_=>by simp
 | l::els,h=>by
  rw [Uh,Tq,h l aL,iR (λl hl=>h l (by simp [hl])),Ta,TV];omega
theorem AM{α:Type}{k:Nat}:∀ {els:List (List α)} {i:Nat} {el:List α},(∀ l∈els,l.length=k)->el.length=k->i<els.length->(els.set i el).flatten =els.flatten.take (i*k)++el++els.flatten.drop (i*k+k)
 | [],i,el,_,_,h=>by simp at h
 | l::els,0,el,hk,he,h=>by
  have:=hk l aL;simp [this]
 | l::els,i+1,el,hk,he,h=>by
  have hl:=hk l aL;rw [Tu,Uh,Uh,AM (λl hm=>hk l (by simp [hm])) he kD];have e1:(i+1)*k=l.length+i*k:=by rw [hl,TV];omega
  rw [e1,TN,List.take_length_add_append,List.drop_length_add_append];simp only [TP]
theorem Ii{j i off o n k:Nat}{T:TypeId}{els:List (List AV)}{el l:List AV}{a:AV}(hx:al e x= .ptr j off)(hy:al e y=a)(hc:cellsA a=some l)(hro:cS.roL l=true)(hone:l.all lp=true)(hm:mem[j]? =some (.row T k els))(hoff:off=i*k+o)
 (hel:els[i]? =some el)(hsz:(P.info? t).map (·.size)=some n)(hn:l.length=n)(ho:o+n<=k):
 nf P ⟨d,.store t x y,ty,pos,af,g⟩ e mem j (.row T k (els.set i (setAt el o l))):=by
 intro pb w0 θ w ev hs h;have h1:=h x cB;have h2:=h y cB;rw [hx]at h1;rw [hy]at h2;obtain⟨b,v,hθ,hbase,hp⟩:=h1.iC;obtain⟨xs,h3,hbs,h4,h5⟩:=hs.ob j _ v hm hθ;have hi:i<els.length:=(SN.1 hel).1;have hkl:=h4 el (S9 hel);rcases h3.2 with⟨rfl,hn0⟩|⟨gg,cap,cur,rfl,hgb,hh,hcap,hmax,hcs,htake⟩
 ·omega
 cases hbase;obtain⟨h7,h8⟩:=qj h2 hc;have hle:(i+1)*k<=els.length*k:=UB k hi;rw [TV]at hle;have hle2:els.length*k<=cap*k:=UB k hcap;have hcur:cur.toList.length=cap*k:=by simpa using hcs
 have hrun:=tJ (P:=P) (θ:=θ) (pr:=aP pb θ mem) (t:=t) (off:=off) (n:=n) (v:=aZ ev y) (cur:=cur.toList) (by simpa using hh) hsz ah ah (λu hu=>by
  obtain⟨q,hq,rfl⟩:=TK hu;have hil:q<l.length:=by simp at hq;omega
  exact sh (h8 q l[q] _ (SQ hil) (by simp at hq;simp [hq])) (Td.1 hone _ (TQ hil)))
 have e1:execOp (aZ ev) ⟨d,.store t x y,ty,pos,af,g⟩=(do Instr.storeAt t (aZ ev x) (aZ ev y);pure .skip):=rfl;rw [e1,Sem.run_bind,hp,hrun];have hcl:(aZ ev y).cells.toList.length =n:=by simp;omega
 have hset:(setAt el o l).length =k:=by simp [setAt];omega
 refine⟨rfl,Step.write hs hm aL hθ (below_setRow (S8 _) _) (λb hb hne=>setRow_other w gg b _ (λe=>hne (by rw [e];rfl))) λpr kp=>?_⟩;have hxs:xs.length=els.length*k:=h3.1;refine⟨setAt xs off (aZ ev y).cells.toList,⟨?_,.inr ⟨gg,cap,(setAt cur.toList off (aZ ev y).cells.toList).toArray,aL,hgb,setRow_heap w gg cur _ T (0,0) hh,by simpa using hcap,hmax,?_,?_⟩⟩,hbs,?_,λq a u ha hu=>?_⟩
 ·rw [lv _ _ _ ah,TE];exact hxs
 ·rw [UQ,lv _ _ _ ah,hcur]
 ·simp only [TE];rw [<- htake];apply TW;intro q;rw [kr _ _ _ cZ]
  by_cases hq:q<els.length*k
  ·rw [TO hq,kr _ _ _ ah,TO hq]
  ·rw [S5 cZ,if_neg ah,if_neg ah,S5 cZ]
 ·intro l' hl';rcases List.mem_or_eq_of_mem_set hl' with h|rfl
  ·exact h4 l' h
  ·exact hset
 ·rw [AM h4 hset hi]at ha;have hfl:=iR h4;have r0:∀ {a:AV} {u:Value},R0 (aP pb θ mem) w a u->R0 pr (w.setRow gg (setAt cur.toList off (aZ ev y).cells.toList).toArray) a u:=by
   intro a u hr;cases hz:cS a with
   | true=>exact(kp a u (.ro hr)).iN hz
   | false=>
    exfalso
    rw [B2 hr]at hz;cases hz
  rw [kr _ _ _ ah,hcl]at hu
  by_cases c1:q<i*k
  ·rw [TP,SX (by simp only [TF,hfl];omega),TO c1]at ha;rw [if_pos ah]at hu;exact r0 (h5 q a u ha hu)
  ·by_cases c2:q<i*k+k
   ·have ht:(els.flatten.take (i*k)).length =i*k:=by simp only [TF,hfl];omega
    rw [TP,S1 ah,SX ah,ht,kr _ _ _ ah,hn]at ha;have old:∀ {a:AV} {u:Value},el[q - i*k]? =some a->xs[q]? =some u->R0 (aP pb θ mem) w a u:=λh1 h2=>h5 q _ _ (by
     have:=flat_get (i:=i) (j:=q - i*k) h4 hel ah;rw [show i*k+(q - i*k)=q by omega]at this;rw [this];exact h1) h2
    by_cases d1:q - i*k<o
    ·rw [if_pos d1]at ha;rw [if_pos ah]at hu;exact r0 (old ha hu)
    ·rw [if_neg d1]at ha;rw [if_neg ah]at hu
     by_cases d2:q - i*k<o+n
     ·rw [if_pos d2]at ha;rw [if_pos ah]at hu;have e3:q - off=q - i*k - o:=by omega
      rw [e3]at hu;exact(kp a u (h8 _ a u ha (by simpa using hu))).iN (hP hro ha)
     ·rw [if_neg d2]at ha;rw [if_neg ah]at hu;exact r0 (old ha hu)
   ·rw [S1 (by simp only [Tq,TF,hset,hfl];omega),Tj]at ha;have e4:i*k+k+(q - (els.flatten.take (i*k)++setAt el o l).length)=q:=by
     simp only [Tq,TF,hset,hfl];omega
    rw [e4]at ha;rw [if_neg ah,if_neg ah]at hu;exact r0 (h5 q a u ha hu)
theorem rH{j i off o n k:Nat}{T:TypeId}{els:List (List AV)}{el l:List AV}{a:AV}(hx:al e x= .ptr j off)(hy:al e y=a)(hc:cellsA a=some l)(hro:cS.roL l=true)(hone:l.all lp=true)(hm:mem[j]? =some (.row T k els))(hoff:off=i*k+o)
 (hel:els[i]? =some el)(hsz:(P.info? t).map (·.size)=some n)(hn:l.length=n)(ho:o+n<=k):
 fq P ⟨d,.store t x y,ty,pos,af,g⟩ e mem (.v undef) (mem.set j (.row T k (els.set i (setAt el o l)))):=qW (Ii hx hy hc hro hone hm hoff hel hsz hn ho)
end
end Go.Proofs.YtfoaiidcfkmneaaGreatDoor
