/- Lemmas for the statement. -/
import Derived.Test.YtfoaiidcfkmneaaGreatDoorM6
import Derived.MapKept
import Derived.Carry
namespace Go.Proofs.YtfoaiidcfkmneaaGreatDoor
open Go Go.RowKit Go.Proofs Go.MapKept
set_option linter.unusedSimpArgs false
set_option linter.unusedVariables false
def wO(es:List (ByteArray×AV)):Prop:=∀ (i j:Nat) (k:ByteArray) (a b:AV),es[i]? =some (k,a)->es[j]? =some (k,b)->i=j
section
variable {P:Program} {e:Nat->AV} {mem:List Ob} {d:Option Tmp} {ty t kt et:TypeId} {pos:String} {af:Array Edge} {g:Option (Nat×Bool)} {x y z:Operand}
theorem vb{θ:List Value}{pr:Nat->Prop}{w:World}{m:Array MapEntry}{es:List (ByteArray×AV)}(hsz:m.size=es.length)(hall:∀ (i:Nat) (e:MapEntry) (k:ByteArray) (a:AV),m[i]? =some e->es[i]? =some (k,a)->e.key= .string k/\R1 θ pr w a e.val):
 (∀ x∈m.toList,IsKey .string x.key)/\ ∀ (q:Nat) (e0:MapEntry) (s:ByteArray),m.toList[q]? =some e0->e0.key= .string s-> ∃ a,es[q]? =some (s,a)/\R1 θ pr w a e0.val:=by
 have at_:∀ (q:Nat) (e0:MapEntry),m.toList[q]? =some e0-> ∃ k a,es[q]? =some (k,a)/\e0.key= .string k/\R1 θ pr w a e0.val:=λq e0 h=>by
  have hm:m[q]? =some e0:=by simpa using h
  have hq:q<es.length:=by rw [<- hsz];exact(Tc.1 hm).1
  obtain⟨k,a⟩:ByteArray×AV:=es[q];have he:es[q]? =some es[q]:=SQ hq;exact⟨es[q].1,es[q].2,he,hall q e0 _ _ hm he⟩
 refine⟨λx hx=>?_,λq e0 s h hk=>?_⟩
 ·obtain⟨q,hq,rfl⟩:=TK hx;obtain⟨k,a,_,h2,_⟩:=at_ q _ (SQ hq)
  rw [h2];trivial
 ·obtain⟨k,a,h1,h2,h3⟩:=at_ q e0 h
  rw [hk]at h2;cases h2;exact⟨a,h1,h3⟩
theorem Bo{ρ:Operand->Value}{a b:Value}(h:ρ x=a)(h2:ρ y=b):execOp ρ ⟨d,.lookup t x y false,ty,pos,af,g⟩=(do pure (.value (<- Instr.lookup t a b false))):=by subst h h2;rfl
theorem AB{ρ:Operand->Value}{a b c:Value}(h:ρ x=a)(h2:ρ y=b)(h3:ρ z=c):execOp ρ ⟨d,.mapUpdate t x y z,ty,pos,af,g⟩=(do Instr.mapUpdate t a b c;pure .skip):=by subst h h2 h3;rfl
theorem rR{j i:Nat}{es:List (ByteArray×AV)}{s:ByteArray}{a:AV}(hu:P.underlying t=some (.map kt et))(hk:P.underlying kt=some .string)(hm:mem[j]? =some (.mp es))(hx:al e x= .own j)(hy:al e y= .v (.string s))(hi:es[i]? =some (s,a))(hd:wO es):
 bH P ⟨d,.lookup t x y false,ty,pos,af,g⟩ e mem a:=by
 intro pb w0 θ w ev hs h;have h1:=h x cB;have h2:=h y cB;rw [hx]at h1;rw [hy]at h2;generalize hv:aZ ev x=v at h1;obtain⟨b,m,cl,hbs,rfl,hb,hsz,hall⟩:=hs.ob j _ v hm h1.j6;obtain⟨hks,hat⟩:=vb hsz hall;have hil:i<m.size:=by rw [hsz];exact(SN.1 hi).1
 have hmi:m[i]? =some m[i]:=Ua hil;rw [Bo hv h2.val];rcases findNow_spec (d:=.string) (k:=.string s) trivial m.toList 0 hks with⟨q1,q2⟩|⟨q,e0,q1,q2,q3⟩
 ·exact absurd (hall i _ _ _ hmi hi).1 (q2 _ aL)
 ·obtain⟨a',q4,q5⟩:=hat q e0 s q2 q3;have:q=i:=hd _ _ _ _ _ q4 hi;subst this;rw [hi]at q4;cases q4;have hrun:(Instr.lookup t (.map (some b)) (.string s) false).run P w= .ok e0.val w:=by
   simp [Instr.lookup,run_underlying hu,MapKept.run_getObj_map hb,MapKept.run_checkKey hk (k:=.string s) trivial,MapKept.run_findKey hk q1,Result.andThen]
  rw [Sem.run_bind,hrun];exact⟨q5,Ext.refl w⟩
theorem uq{j:Nat}{es:List (ByteArray×AV)}{s:ByteArray}{zv:Value}(hu:P.underlying t=some (.map kt et))(hk:P.underlying kt=some .string)(hz:∀ w,(zeroValue et).run P w= .ok zv w)(hm:mem[j]? =some (.mp es))(hx:al e x= .own j)(hy:al e y= .v (.string s))(hn:∀ q∈es,q.1≠s):
 bH P ⟨d,.lookup t x y false,ty,pos,af,g⟩ e mem (.v zv):=by
 intro pb w0 θ w ev hs h;have h1:=h x cB;have h2:=h y cB;rw [hx]at h1;rw [hy]at h2;generalize hv:aZ ev x=v at h1;obtain⟨b,m,cl,hbs,rfl,hb,hsz,hall⟩:=hs.ob j _ v hm h1.j6;obtain⟨hks,hat⟩:=vb hsz hall;rw [Bo hv h2.val];rcases findNow_spec (d:=.string) (k:=.string s) trivial m.toList 0 hks with⟨q1,q2⟩|⟨q,e0,q1,q2,q3⟩
 ·have hrun:(Instr.lookup t (.map (some b)) (.string s) false).run P w= .ok zv w:=by
   simp [Instr.lookup,run_underlying hu,MapKept.run_getObj_map hb,MapKept.run_checkKey hk (k:=.string s) trivial,MapKept.run_findKey hk q1,hz,Result.andThen]
  rw [Sem.run_bind,hrun];exact⟨.ro (.v _),Ext.refl w⟩
 ·obtain⟨a',q4,q5⟩:=hat q e0 s q2 q3;exact absurd rfl (hn _ (S9 q4))
theorem Bq{w:World}{b:Nat}{o o':Obj}(hb:w.heap[b]? =some o):Below 0 w {w with heap:=w.heap.setIfInBounds b o'}/\ ∀ b',b'<w.heap.size->b'≠b->({w with heap:=w.heap.setIfInBounds b o'}:World).heap[b']? =w.heap[b']? :=
 ⟨⟨rfl,rfl,rfl,aL,λb' hb'=>absurd hb' (Ut _)⟩,λb' _ hne=>(heap_set hb).2 b' hne⟩
theorem OV{j i:Nat}{es:List (ByteArray×AV)}{s:ByteArray}{a0 a:AV}(hu:P.underlying t=some (.map kt et))(hk:P.underlying kt=some .string)(hm:mem[j]? =some (.mp es))(hx:al e x= .own j)(hy:al e y= .v (.string s))(hz:al e z=a)(hi:es[i]? =some (s,a0))(hd:wO es):
 nf P ⟨d,.mapUpdate t x y z,ty,pos,af,g⟩ e mem j (.mp (es.set i (s,a))):=by
 intro pb w0 θ w ev hs h;have h1:=h x cB;have h2:=h y cB;have h3:=h z cB;rw [hx]at h1;rw [hy]at h2;rw [hz]at h3;generalize hv:aZ ev x=v at h1;generalize hv3:aZ ev z=u at h3;have hθ:=h1.j6;obtain⟨b,m,cl,hbs,rfl,hb,hsz,hall⟩:=hs.ob j _ v hm hθ;obtain⟨hks,hat⟩:=vb hsz hall;have hil:i<m.size:=by rw [hsz];exact(SN.1 hi).1
 have hmi:m[i]? =some m[i]:=Ua hil;rw [AB hv h2.val hv3];rcases findNow_spec (d:=.string) (k:=.string s) trivial m.toList 0 hks with⟨q1,q2⟩|⟨q,e0,q1,q2,q3⟩
 ·exact absurd (hall i _ _ _ hmi hi).1 (q2 _ aL)
 ·obtain⟨a',q4,q5⟩:=hat q e0 s q2 q3;have:q=i:=hd _ _ _ _ _ q4 hi;subst this;have hj:m[q]? =some e0:=by simpa using q2
  have hrun:(Instr.mapUpdate t (.map (some b)) (.string s) u).run P w= .ok () {w with heap:=w.heap.setIfInBounds b (.map (m.modify q λe=> {e with key:=.string s,val:=u}) cl)}:=by
   simp [Instr.mapUpdate,run_underlying hu,MapKept.run_getObj_map hb,MapKept.run_checkKey hk (k:=.string s) trivial,MapKept.run_findKey hk q1,hj,q3,run_keyThatStays (d:=.string) (k:=.string s) trivial,MapKept.run_setObj_map _ hb,Result.andThen]
  rw [Sem.run_bind,hrun];obtain⟨w1,w2⟩:=Bq (o':=.map (m.modify q λe=> {e with key:=.string s,val:=u}) cl) hb;refine⟨rfl,Step.write hs hm aL hθ w1 (λb' hb' hne=>w2 b' hb' λhe=>hne (by rw [he];rfl)) λpr kp=>?_⟩;refine⟨b,_,cl,hbs,rfl,(heap_set hb).1,by simp [hsz],λi' e' k' a' he' ha'=>?_⟩;rw [Array.getElem?_modify]at he'
  by_cases hiq:q=i'
  ·subst hiq;rw [if_pos rfl,hj]at he';rw [S7 (by rw [<- hsz];exact hil)]at ha';cases ha';cases he';exact⟨rfl,kp _ _ h3⟩
  ·rw [if_neg hiq]at he';rw [SY hiq]at ha';have:=hall i' e' k' a' he' ha';exact⟨this.1,kp _ _ this.2⟩
theorem OW{j:Nat}{es:List (ByteArray×AV)}{s:ByteArray}{a:AV}(hu:P.underlying t=some (.map kt et))(hk:P.underlying kt=some .string)(hm:mem[j]? =some (.mp es))(hx:al e x= .own j)(hy:al e y= .v (.string s))(hz:al e z=a)(hn:∀ q∈es,q.1≠s):
 nf P ⟨d,.mapUpdate t x y z,ty,pos,af,g⟩ e mem j (.mp (es++ [(s,a)])):=by
 intro pb w0 θ w ev hs h;have h1:=h x cB;have h2:=h y cB;have h3:=h z cB;rw [hx]at h1;rw [hy]at h2;rw [hz]at h3;generalize hv:aZ ev x=v at h1;generalize hv3:aZ ev z=u at h3;have hθ:=h1.j6;obtain⟨b,m,cl,hbs,rfl,hb,hsz,hall⟩:=hs.ob j _ v hm hθ;obtain⟨hks,hat⟩:=vb hsz hall;rw [AB hv h2.val hv3];rcases findNow_spec (d:=.string) (k:=.string s) trivial m.toList 0 hks with⟨q1,q2⟩|⟨q,e0,q1,q2,q3⟩
 ·have hrun:(Instr.mapUpdate t (.map (some b)) (.string s) u).run P w= .ok () {w with heap:=w.heap.setIfInBounds b (.map (m.push {key:=.string s,val:=u,born:=cl}) (cl+1))}:=by
   simp [Instr.mapUpdate,run_underlying hu,MapKept.run_getObj_map hb,MapKept.run_checkKey hk (k:=.string s) trivial,MapKept.run_findKey hk q1,MapKept.run_setObj_map _ hb,Result.andThen]
  rw [Sem.run_bind,hrun];obtain⟨w1,w2⟩:=Bq (o':=.map (m.push {key:=.string s,val:=u,born:=cl}) (cl+1)) hb;refine⟨rfl,Step.write hs hm aL hθ w1 (λb' hb' hne=>w2 b' hb' λhe=>hne (by rw [he];rfl)) λpr kp=>?_⟩;refine⟨b,_,_,hbs,rfl,(heap_set hb).1,by simp [hsz],λi' e' k' a' he' ha'=>?_⟩;rw [Array.getElem?_push]at he'
  by_cases hi:i'=m.size
  ·subst hi;rw [if_pos rfl]at he';rw [hsz,S1 (SR _)]at ha';simp at ha';cases he';exact⟨by rw [<- ha'.1],by rw [<- ha'.2];exact kp _ _ h3⟩
  ·rw [if_neg hi]at he';have hlt:=(Tc.1 he').1;rw [SX ah]at ha';have:=hall i' e' k' a' he' ha';exact⟨this.1,kp _ _ this.2⟩
 ·obtain⟨a',q4,q5⟩:=hat q e0 s q2 q3;exact absurd rfl (hn _ (S9 q4))
theorem vc{j i:Nat}{es:List (ByteArray×AV)}{s:ByteArray}{a0 a:AV}(hu:P.underlying t=some (.map kt et))(hk:P.underlying kt=some .string)(hm:mem[j]? =some (.mp es))(hx:al e x= .own j)(hy:al e y= .v (.string s))(hz:al e z=a)(hi:es[i]? =some (s,a0))(hd:wO es):
 fq P ⟨d,.mapUpdate t x y z,ty,pos,af,g⟩ e mem (.v undef) (mem.set j (.mp (es.set i (s,a)))):=qW (OV hu hk hm hx hy hz hi hd)
theorem vd{j:Nat}{es:List (ByteArray×AV)}{s:ByteArray}{a:AV}(hu:P.underlying t=some (.map kt et))(hk:P.underlying kt=some .string)(hm:mem[j]? =some (.mp es))(hx:al e x= .own j)(hy:al e y= .v (.string s))(hz:al e z=a)(hn:∀ q∈es,q.1≠s):
 fq P ⟨d,.mapUpdate t x y z,ty,pos,af,g⟩ e mem (.v undef) (mem.set j (.mp (es++ [(s,a)]))):=qW (OW hu hk hm hx hy hz hn)
theorem LO:lN P ⟨d,.makeMap t none,ty,pos,af,g⟩ e mem (.mp []) (λj=>.own j):=by
 intro pb w0 θ w ev hs h;have e1:execOp (aZ ev) ⟨d,.makeMap t none,ty,pos,af,g⟩=(do pure (.value (<- Instr.makeMap t none))):=rfl;rw [e1,Sem.run_bind,run_makeMap];refine⟨(Ext.refl w).alloc _,sJ,λθ' pr k1=>?_,λθ' pr j hj=>.own j _ hj rfl⟩;exact⟨w.heap.size,#[],0,.inl hs.base,rfl,(heap_alloc w _).1,rfl,λi e k a he=>by simp at he⟩
theorem LP{m:Nat}(hl:mem.length=m):fq P ⟨d,.makeMap t none,ty,pos,af,g⟩ e mem (.own m) (mem++ [.mp []]):=s6 (h:=λj=>.own j) LO hl
end
end Go.Proofs.YtfoaiidcfkmneaaGreatDoor
