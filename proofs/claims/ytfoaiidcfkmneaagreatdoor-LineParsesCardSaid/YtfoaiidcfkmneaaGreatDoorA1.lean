/- Lemmas for the statement. -/
import Derived.Test.YtfoaiidcfkmneaaGreatDoorM1
import Derived.Deep.MidRow
import Derived.Laws.AppendOwn
set_option linter.unusedVariables false
set_option linter.unusedSimpArgs false
namespace Go.Proofs.YtfoaiidcfkmneaaGreatDoor
open Go Go.RowKit
inductive AV where
 | any
 | v (x:Value)
 | row (k:Nat) (els:List (List AV))
 | ref (cells:List AV)
 | agg (l:List AV)
 | tuple (l:List AV)
 | clo (fn:Fn) (first caps:List AV)
 | own (j:Nat)
 | ptr (j off:Nat)
 | emp
inductive R0 (pr:Nat->Prop) (w:World):AV->Value->Prop
 | any (x:Value):R0 pr w .any x
 | v (x:Value):R0 pr w (.v x) x
 | nil (k c:Nat) (A:Option Addr):R0 pr w (.row k []) (.slice A 0 c)
 | emp (A:Option Addr):R0 pr w .emp (.slice A 0 0)
 | row (k:Nat) (els:List (List AV)) (b o c:Nat) (f:Nat->Value):els≠ []->els.length<=c->(∀ l∈els,l.length=k)->b<w.heap.size-> ¬ pr b->
  (∀ (i:Nat) (a:AV),els.flatten[i]? =some a->w.cell? ⟨b,o+i,none⟩=some (f i))->(∀ (i:Nat) (a:AV),els.flatten[i]? =some a->R0 pr w a (f i))->R0 pr w (.row k els) (.slice (some ⟨b,o,none⟩) els.length c)
 | ref (cells:List AV) (b o:Nat) (f:Nat->Value):b<w.heap.size-> ¬ pr b->
  (∀ (i:Nat) (a:AV),cells[i]? =some a->w.cell? ⟨b,o+i,none⟩=some (f i))->(∀ (i:Nat) (a:AV),cells[i]? =some a->R0 pr w a (f i))->R0 pr w (.ref cells) (.pointer (some ⟨b,o,none⟩))
 | agg (l:List AV) (xs:List Value):xs.length=l.length->(∀ (i:Nat) (a:AV) (x:Value),l[i]? =some a->xs[i]? =some x->R0 pr w a x)->R0 pr w (.agg l) (.agg xs.toArray)
 | tuple (l:List AV) (xs:List Value):xs.length=l.length->(∀ (i:Nat) (a:AV) (x:Value),l[i]? =some a->xs[i]? =some x->R0 pr w a x)->R0 pr w (.tuple l) (.tuple xs.toArray)
 | clo (fn:Fn) (l m:List AV) (xs ys:List Value):xs.length=l.length->(∀ (i:Nat) (a:AV) (x:Value),l[i]? =some a->xs[i]? =some x->R0 pr w a x)->
  ys.length=m.length->(∀ (i:Nat) (a:AV) (x:Value),m[i]? =some a->ys[i]? =some x->R0 pr w a x)->R0 pr w (.clo fn l m) (.func fn xs.toArray ys.toArray)
theorem cell_of_heap{w w':World}{b:Nat}(h:w'.heap[b]? =w.heap[b]?)(o:Nat):w'.cell? ⟨b,o,none⟩=w.cell? ⟨b,o,none⟩:=World.cell?_of_block (w:=w) h
theorem R0.mono{pr pr':Nat->Prop}{w w':World}(hs:w.heap.size<=w'.heap.size)(hw:∀ b,b<w.heap.size-> ¬ pr b->w'.heap[b]? =w.heap[b]?)(hp:∀ b,b<w.heap.size-> ¬ pr b-> ¬ pr' b)
 {a:AV}{x:Value}(h:R0 pr w a x):R0 pr' w' a x:=by
 induction h with
 | any x=>exact .any x
 | v x=>exact .v x
 | nil k c A=>exact .nil k c A
 | emp A=>exact .emp A
 | row k els b o c f h1 h2 h3 h4 h5 h6 _ ih=>exact .row k els b o c f h1 h2 h3 (S4 h4 hs) (hp b h4 h5) (λi a hi=>by rw [cell_of_heap (hw b h4 h5)];exact h6 i a hi) ih
 | ref cells b o f h4 h5 h6 _ ih=>exact .ref cells b o f (S4 h4 hs) (hp b h4 h5) (λi a hi=>by rw [cell_of_heap (hw b h4 h5)];exact h6 i a hi) ih
 | agg l xs h1 _ ih=>exact .agg l xs h1 ih
 | tuple l xs h1 _ ih=>exact .tuple l xs h1 ih
 | clo fn l m xs ys h1 _ h3 _ ih1 ih2=>exact .clo fn l m xs ys h1 ih1 h3 ih2
theorem R0.ext{pr:Nat->Prop}{w w':World}(hx:Ext w w'){a:AV}{x:Value}(h:R0 pr w a x):R0 pr w' a x:=
 h.mono hx.size (λb hb _=>hx.block b hb) (λ_ _ h=>h)
inductive Ob where
 | box (t:TypeId) (cells:List AV)
 | row (e:TypeId) (k:Nat) (els:List (List AV))
 | gone
 | rowH (e:TypeId) (k:Nat) (els:List (List AV))
 | mp (es:List (ByteArray×AV))
 | bY (gs:List (Nat×List AV))
def cH:Value->Option Nat
 | .pointer (some a)=>some a.block
 | .slice (some a) _ _=>some a.block
 | .map (some b)=>some b
 | _=>none
def aP(pb:Nat->Prop)(θ:List Value)(mem:List Ob)(b:Nat):Prop:=pb b\/ ∃ (j:Nat) (o:Ob) (v:Value),mem[j]? =some o/\o≠ .gone /\θ[j]? =some v/\cH v=some b
def wA:Value->Bool
 | .slice _ _ _=>true
 | .map (some _)=>true
 | _=>false
theorem u1{x:Value}(h:wA x=true):x≠undef:=by rintro rfl;cases h
inductive R1 (θ:List Value) (pr:Nat->Prop) (w:World):AV->Value->Prop
 | ro {a:AV} {x:Value}:R0 pr w a x->R1 θ pr w a x
 | own (j:Nat) (x:Value):θ[j]? =some x->wA x=true->R1 θ pr w (.own j) x
 | ptr (j off b:Nat) (x:Value):θ[j]? =some x->cH x=some b->R1 θ pr w (.ptr j off) (.pointer (some ⟨b,off,none⟩))
 | agg (l:List AV) (xs:List Value):xs.length=l.length->(∀ (i:Nat) (a:AV) (x:Value),l[i]? =some a->xs[i]? =some x->R1 θ pr w a x)->R1 θ pr w (.agg l) (.agg xs.toArray)
 | tuple (l:List AV) (xs:List Value):xs.length=l.length->(∀ (i:Nat) (a:AV) (x:Value),l[i]? =some a->xs[i]? =some x->R1 θ pr w a x)->R1 θ pr w (.tuple l) (.tuple xs.toArray)
 | clo (fn:Fn) (l m:List AV) (xs ys:List Value):xs.length=l.length->(∀ (i:Nat) (a:AV) (x:Value),l[i]? =some a->xs[i]? =some x->R1 θ pr w a x)->
  ys.length=m.length->(∀ (i:Nat) (a:AV) (x:Value),m[i]? =some a->ys[i]? =some x->R1 θ pr w a x)->R1 θ pr w (.clo fn l m) (.func fn xs.toArray ys.toArray)
theorem R1.mono'{θ θ':List Value}{pr pr':Nat->Prop}{w w':World}(hθ:∀ (j:Nat) (x:Value),x≠undef->θ[j]? =some x->θ'[j]? =some x)(hs:w.heap.size<=w'.heap.size)(hw:∀ b,b<w.heap.size-> ¬ pr b->w'.heap[b]? =w.heap[b]?)(hp:∀ b,b<w.heap.size-> ¬ pr b-> ¬ pr' b)
 {a:AV}{x:Value}(h:R1 θ pr w a x):R1 θ' pr' w' a x:=by
 induction h with
 | ro h=>exact .ro (h.mono hs hw hp)
 | own j x h h0=>exact .own j x (hθ j x (u1 h0) h) h0
 | ptr j off b x h h2=>exact .ptr j off b x (hθ j x (λe=>by rw [e]at h2;cases h2) h) h2
 | agg l xs h1 _ ih=>exact .agg l xs h1 ih
 | tuple l xs h1 _ ih=>exact .tuple l xs h1 ih
 | clo fn l m xs ys h1 _ h3 _ ih1 ih2=>exact .clo fn l m xs ys h1 ih1 h3 ih2
theorem R1.mono{θ θ':List Value}{pr pr':Nat->Prop}{w w':World}(hθ:∀ (j:Nat) (x:Value),θ[j]? =some x->θ'[j]? =some x)(hs:w.heap.size<=w'.heap.size)(hw:∀ b,b<w.heap.size-> ¬ pr b->w'.heap[b]? =w.heap[b]?)(hp:∀ b,b<w.heap.size-> ¬ pr b-> ¬ pr' b)
 {a:AV}{x:Value}(h:R1 θ pr w a x):R1 θ' pr' w' a x:=h.mono' (λj x _=>hθ j x) hs hw hp
theorem R1.ext{θ:List Value}{pr:Nat->Prop}{w w':World}(hx:Ext w w'){a:AV}{x:Value}(h:R1 θ pr w a x):R1 θ pr w' a x:=
 h.mono (λ_ _ h=>h) hx.size (λb hb _=>hx.block b hb) (λ_ _ h=>h)
theorem R1.val{θ:List Value}{pr:Nat->Prop}{w:World}{c x:Value}(h:R1 θ pr w (.v c) x):x=c:=by
 cases h with|ro h=>cases h;rfl
theorem R1.sN{θ:List Value}{pr:Nat->Prop}{w:World}{l:List AV}{x:Value}(h:R1 θ pr w (.agg l) x):∃ xs:List Value,x= .agg xs.toArray/\xs.length=l.length/\ ∀ (i:Nat) (a:AV) (x:Value),l[i]? =some a->xs[i]? =some x->R1 θ pr w a x:=by
 cases h with
 | ro h=>cases h with|agg _ xs h1 h2=>exact⟨xs,rfl,h1,λi a x ha hx=>.ro (h2 i a x ha hx)⟩
 | agg _ xs h1 h2=>exact⟨xs,rfl,h1,h2⟩
theorem R1.BY{θ:List Value}{pr:Nat->Prop}{w:World}{l:List AV}{x:Value}(h:R1 θ pr w (.tuple l) x):∃ xs:List Value,x= .tuple xs.toArray/\xs.length=l.length/\ ∀ (i:Nat) (a:AV) (x:Value),l[i]? =some a->xs[i]? =some x->R1 θ pr w a x:=by
 cases h with
 | ro h=>cases h with|tuple _ xs h1 h2=>exact⟨xs,rfl,h1,λi a x ha hx=>.ro (h2 i a x ha hx)⟩
 | tuple _ xs h1 h2=>exact⟨xs,rfl,h1,h2⟩
theorem R1.getRow{θ:List Value}{pr:Nat->Prop}{w:World}{k:Nat}{els:List (List AV)}{x:Value}(h:R1 θ pr w (.row k els) x):R0 pr w (.row k els) x:=by
 cases h with|ro h=>exact h
theorem R1.getRef{θ:List Value}{pr:Nat->Prop}{w:World}{l:List AV}{x:Value}(h:R1 θ pr w (.ref l) x):R0 pr w (.ref l) x:=by
 cases h with|ro h=>exact h
theorem R1.j6{θ:List Value}{pr:Nat->Prop}{w:World}{j:Nat}{x:Value}(h:R1 θ pr w (.own j) x):θ[j]? =some x:=by
 cases h with
 | ro h=>cases h
 | own _ _ h _=>exact h
theorem R1.iC{θ:List Value}{pr:Nat->Prop}{w:World}{j off:Nat}{x:Value}(h:R1 θ pr w (.ptr j off) x):∃ b y,θ[j]? =some y/\cH y=some b/\x= .pointer (some ⟨b,off,none⟩):=by
 cases h with
 | ro h=>cases h
 | ptr _ _ b y h h2=>exact⟨b,y,h,h2,rfl⟩
structure Bs where
 w:World
 lb:Nat->Prop
 ds:List Deferred
def Bs.gn(w0:Bs)(b:Nat):Prop:=w0.w.heap.size<=b\/w0.lb b
structure g7 (w0:Bs) (w:World):Prop where
 below:Below 0 w0.w w
 block:∀ b,b<w0.w.heap.size-> ¬ w0.lb b->w.heap[b]? =w0.w.heap[b]?
theorem g7.size{w0:Bs}{w:World}(h:g7 w0 w):w0.w.heap.size<=w.heap.size:=h.below.size
theorem g7.refl(w:World)(lb:Nat->Prop){ds:List Deferred}:g7 ⟨w,lb,ds⟩ w:=⟨Below.refl _ _,λ_ _ _=>rfl⟩
theorem g7.ext{w0:Bs}{w w':World}(h:g7 w0 w)(hx:Ext w w'):g7 w0 w':=
 ⟨h.below.trans (hx.mono (S8 _)),λb hb hl=>(hx.block b (S4 hb h.size)).trans (h.block b hb hl)⟩
theorem g7.write{w0:Bs}{w w':World}{v:Value}(h:g7 w0 w)(hx:Below 0 w w')(hw:∀ b,b<w.heap.size->cH v≠some b->w'.heap[b]? =w.heap[b]?)(hv:∀ b,cH v=some b->w0.gn b):g7 w0 w':=
 ⟨h.below.trans hx,λb hb hl=>(hw b (S4 hb h.size) (λe=>by
  rcases hv b e with h1|h1
  ·omega
  ·exact hl h1)).trans (h.block b hb hl)⟩
theorem g7.sZ{w w':World}{ds:List Deferred}(h:g7 ⟨w,λ_=>False,ds⟩ w'):Ext w w':=⟨h.below.os,h.below.tape,h.below.output,h.below.size,λb hb=>h.block b hb id⟩
def nr(w:World)(b n:Nat):Prop:=∃ (cs:Array Value) (t:TypeId) (f:Nat×Nat),w.heap[b]? =some (.cells cs t f)/\cs.size=n
theorem nr.keep{w w':World}{b n:Nat}(h:nr w b n){pr:Nat->Prop}{cells:List AV}(h0:R0 pr w (.ref cells) (.pointer (some ⟨b,0,none⟩)))(hw:∀ b,b<w.heap.size-> ¬ pr b->w'.heap[b]? =w.heap[b]?):nr w' b n:=by
 obtain⟨cs,t,f,h1,h2⟩:=h;cases h0 with
 | ref _ _ _ _ q1 q2 _ _=>exact⟨cs,t,f,(hw b q1 q2).trans h1,h2⟩
def dG(θ:List Value)(pr:Nat->Prop)(bs:Nat->Prop)(w:World)(v:Value):Ob->Prop
 | .box t cells=>∃ (b:Nat) (xs:List Value),bs b/\v= .pointer (some ⟨b,0,none⟩)/\w.heap[b]? =some (.cells xs.toArray t (0,0))/\xs.length=cells.length/\ ∀ (i:Nat) (a:AV) (x:Value),cells[i]? =some a->xs[i]? =some x->R1 θ pr w a x
 | .row e k els=>∃ xs:List Value,w.ownsRow 0 e k v els.length xs/\(∀ b,cH v=some b->bs b)/\(∀ l∈els,l.length=k)/\ ∀ (i:Nat) (a:AV) (x:Value),els.flatten[i]? =some a->xs[i]? =some x->R0 pr w a x
 | .gone =>True
 | .rowH e k els=>∃ xs:List Value,w.ownsRow 0 e k v els.length xs/\(∀ b,cH v=some b->bs b)/\(∀ l∈els,l.length=k)/\ ∀ (i:Nat) (a:AV) (x:Value),els.flatten[i]? =some a->xs[i]? =some x->R1 θ pr w a x
 | .mp es=>∃ (b:Nat) (m:Array MapEntry) (clock:Nat),bs b/\v= .map (some b)/\w.heap[b]? =some (.map m clock)/\m.size=es.length/\ ∀ (i:Nat) (e:MapEntry) (k:ByteArray) (a:AV),m[i]? =some e->es[i]? =some (k,a)->e.key= .string k/\R1 θ pr w a e.val
 | .bY gs=>v=undef/\ ∀ x∈gs,R0 pr w (.ref x.2) (.pointer (some ⟨x.1,0,none⟩))/\nr w x.1 x.2.length
structure cr (pb:Nat->Prop) (w0:Bs) (w:World) (θ:List Value) (mem:List Ob):Prop where
 ext:g7 w0 w
 low:∀ b,pb b->b<w0.w.heap.size/\ ¬ w0.lb b
 len:θ.length=mem.length
 ob:∀ (j:Nat) (o:Ob) (v:Value),mem[j]? =some o->θ[j]? =some v->dG θ (aP pb θ mem) w0.gn w v o
 dis:∀ (i j:Nat) (o p:Ob) (v u:Value) (b:Nat),mem[i]? =some o->o≠ .gone ->mem[j]? =some p->p≠ .gone ->θ[i]? =some v->θ[j]? =some u->cH v=some b->cH u=some b->i=j
theorem tR{w w':World}{base n k:Nat}{e:TypeId}{v:Value}{xs:List Value}(h:w.ownsRow base e k v n xs)(hb:∀ b,cH v=some b->w'.heap[b]? =w.heap[b]?):w'.ownsRow base e k v n xs:=by
 refine⟨h.1,?_⟩;rcases h.2 with h2|⟨g,cap,cur,hv,hg,hh,r⟩
 ·exact .inl h2
 ·exact .inr ⟨g,cap,cur,hv,hg,(hb g (by rw [hv];rfl)).trans hh,r⟩
theorem sO{w:World}{base n k:Nat}{e:TypeId}{v:Value}{xs:List Value}(h:w.ownsRow base e k v n xs){b:Nat}(hb:cH v=some b):base<=b/\b<w.heap.size:=by
 rcases h.2 with⟨rfl,_⟩|⟨g,cap,cur,rfl,hg,hh,r⟩
 ·cases hb
 ·cases hb;exact⟨hg,(Tc.1 hh).1⟩
theorem dG.lt{θ:List Value}{pr:Nat->Prop}{bs:Nat->Prop}{w:World}{v:Value}{o:Ob}(h:dG θ pr bs w v o)(hg:o≠ .gone){b:Nat}(hb:cH v=some b):bs b/\b<w.heap.size:=by
 cases o with
 | box t cells=>obtain⟨b',xs,h1,rfl,h2,_⟩:=h;cases hb;exact⟨h1,(Tc.1 h2).1⟩
 | row e k els=>obtain⟨xs,h1,h2,_⟩:=h;exact⟨h2 b hb,(sO h1 hb).2⟩
 | gone=>exact absurd rfl hg
 | rowH e k els=>obtain⟨xs,h1,h2,_⟩:=h;exact⟨h2 b hb,(sO h1 hb).2⟩
 | mp es=>obtain⟨b',m,cl,h1,rfl,h2,_⟩:=h;cases hb;exact⟨h1,(Tc.1 h2).1⟩
 | bY gs=>rw [h.1]at hb;cases hb
theorem dG.mono'{θ θ':List Value}{pr pr':Nat->Prop}{bs:Nat->Prop}{w w':World}{v:Value}{o:Ob}(h:dG θ pr bs w v o)(hθ:∀ (j:Nat) (x:Value),x≠undef->θ[j]? =some x->θ'[j]? =some x)(hs:w.heap.size<=w'.heap.size)(hw:∀ b,b<w.heap.size-> ¬ pr b->w'.heap[b]? =w.heap[b]?)
 (hp:∀ b,b<w.heap.size-> ¬ pr b-> ¬ pr' b)(hv:∀ b,cH v=some b->w'.heap[b]? =w.heap[b]?):dG θ' pr' bs w' v o:=by
 cases o with
 | box t cells=>obtain⟨b',xs,h1,rfl,h2,h3,h4⟩:=h;exact⟨b',xs,h1,rfl,(hv b' rfl).trans h2,h3,λi a x ha hx=>(h4 i a x ha hx).mono' hθ hs hw hp⟩
 | row e k els=>obtain⟨xs,h1,hbs,h2,h3⟩:=h;exact⟨xs,tR h1 hv,hbs,h2,λi a x ha hx=>(h3 i a x ha hx).mono hs hw hp⟩
 | gone=>trivial
 | rowH e k els=>obtain⟨xs,h1,hbs,h2,h3⟩:=h;exact⟨xs,tR h1 hv,hbs,h2,λi a x ha hx=>(h3 i a x ha hx).mono' hθ hs hw hp⟩
 | mp es=>obtain⟨b',m,cl,h1,rfl,h2,h3,h4⟩:=h;exact⟨b',m,cl,h1,rfl,(hv b' rfl).trans h2,h3,λi e k a he ha=>⟨(h4 i e k a he ha).1,(h4 i e k a he ha).2.mono' hθ hs hw hp⟩⟩
 | bY gs=>exact⟨h.1,λx hx=>⟨(h.2 x hx).1.mono hs hw hp,(h.2 x hx).2.keep (h.2 x hx).1 hw⟩⟩
theorem dG.mono{θ θ':List Value}{pr pr':Nat->Prop}{bs:Nat->Prop}{w w':World}{v:Value}{o:Ob}(h:dG θ pr bs w v o)(hθ:∀ (j:Nat) (x:Value),θ[j]? =some x->θ'[j]? =some x)(hs:w.heap.size<=w'.heap.size)(hw:∀ b,b<w.heap.size-> ¬ pr b->w'.heap[b]? =w.heap[b]?)
 (hp:∀ b,b<w.heap.size-> ¬ pr b-> ¬ pr' b)(hv:∀ b,cH v=some b->w'.heap[b]? =w.heap[b]?):dG θ' pr' bs w' v o:=h.mono' (λj x _=>hθ j x) hs hw hp hv
theorem cr.ext'{pb:Nat->Prop}{w0:Bs}{w w':World}{θ:List Value}{mem:List Ob}(h:cr pb w0 w θ mem)(hx:Ext w w'):cr pb w0 w' θ mem:=
 ⟨h.ext.ext hx,h.low,h.len,λj o v hm hv=>by
  by_cases hg:o= .gone
  ·subst hg;trivial
  ·exact(h.ob j o v hm hv).mono (λ_ _ h=>h) hx.size (λb hb _=>hx.block b hb) (λ_ _ h=>h) (λb hb=>hx.block b ((h.ob j o v hm hv).lt hg hb).2),h.dis⟩
structure Step (pb:Nat->Prop) (w0:Bs) (θ:List Value) (mem:List Ob) (w:World) (θ':List Value) (mem':List Ob) (w':World):Prop where
 sim:cr pb w0 w' θ' mem'
 keep:∀ a x,R1 θ (aP pb θ mem) w a x->R1 θ' (aP pb θ' mem') w' a x
 sz:w.heap.size<=w'.heap.size
 same:∀ b,b<w.heap.size-> ¬ aP pb θ mem b->w'.heap[b]? =w.heap[b]?
 np:∀ b,b<w.heap.size-> ¬ aP pb θ mem b-> ¬ aP pb θ' mem' b
theorem Step.ext{pb:Nat->Prop}{w0:Bs}{w w':World}{θ:List Value}{mem:List Ob}(h:cr pb w0 w θ mem)(hx:Ext w w'):Step pb w0 θ mem w θ mem w':=⟨h.ext' hx,λ_ _ h=>h.ext hx,hx.size,λb hb _=>hx.block b hb,λ_ _ h=>h⟩
theorem Step.new{pb:Nat->Prop}{w0:Bs}{w w':World}{θ:List Value}{mem:List Ob}(h:cr pb w0 w θ mem)(hx:Ext w w')(v:Value)(o:Ob)(hb:∀ b,cH v=some b->w.heap.size<=b)
 (ho:∀ θ' pr,(∀ a x,R1 θ (aP pb θ mem) w a x->R1 θ' pr w' a x)->dG θ' pr w0.gn w' v o):Step pb w0 θ mem w (θ++ [v]) (mem++ [o]) w':=by
 have hθ:∀ (j:Nat) (x:Value),θ[j]? =some x->(θ++ [v])[j]? =some x:=λj x hj=>by rw [SX (SN.1 hj).1];exact hj
 have split:∀ {j:Nat} {p:Ob} {u:Value},(mem++ [o])[j]? =some p->(θ++ [v])[j]? =some u->(mem[j]? =some p/\θ[j]? =some u)\/(j=mem.length/\p=o/\u=v):=by
  intro j p u hm hu;rcases Tf j mem.length with hj|hj
  ·rw [SX hj]at hm;rw [SX (by rw [h.len];exact hj)]at hu;exact .inl ⟨hm,hu⟩
  ·rw [S1 hj]at hm;rw [S1 (by rw [h.len];exact hj),h.len]at hu;have hj0:j - mem.length=0:=by
    have:=(SN.1 hm).1;simp at this;omega
   rw [hj0]at hm hu;simp at hm hu;exact .inr ⟨ah,hm.symm,hu.symm⟩
 have hp:∀ b,b<w.heap.size-> ¬ aP pb θ mem b-> ¬ aP pb (θ++ [v]) (mem++ [o]) b:=by
  intro b hlt hn hq;rcases hq with hq|⟨j,p,u,h1,h2,h3,h4⟩
  ·exact hn (.inl hq)
  rcases split h1 h3 with⟨h5,h6⟩|⟨rfl,rfl,rfl⟩
  ·exact hn (.inr ⟨j,p,u,h5,h2,h6,h4⟩)
  ·exact absurd (hb b h4) ah
 have keep:∀ a x,R1 θ (aP pb θ mem) w a x->R1 (θ++ [v]) (aP pb (θ++ [v]) (mem++ [o])) w' a x:=λa x hr=>hr.mono hθ hx.size (λb hb _=>hx.block b hb) hp
 refine⟨⟨h.ext.ext hx,h.low,by simp [h.len],λj p u hm hu=>?_,λi j p q u u' b h1 h2 h3 h4 h5 h6 h7 h8=>?_⟩,keep,hx.size,λb hb _=>hx.block b hb,hp⟩
 ·rcases split hm hu with⟨h5,h6⟩|⟨rfl,rfl,rfl⟩
  ·by_cases hg:p= .gone
   ·subst hg;trivial
   ·exact(h.ob j p u h5 h6).mono hθ hx.size (λb hb _=>hx.block b hb) hp (λb hb=>hx.block b ((h.ob j p u h5 h6).lt hg hb).2)
  ·exact ho _ _ keep
 ·rcases split h1 h5 with⟨a1,a2⟩|⟨rfl,rfl,rfl⟩<;>rcases split h3 h6 with⟨a3,a4⟩|⟨rfl,rfl,rfl⟩
  ·exact h.dis i j p q u u' b a1 h2 a3 h4 a2 a4 h7 h8
  ·have:=((h.ob i p u a1 a2).lt h2 h7).2;have:=hb b h8;omega
  ·have:=((h.ob j q u' a3 a4).lt h4 h8).2;have:=hb b h7;omega
  ·rfl
theorem Step.fill{pb:Nat->Prop}{w0:Bs}{w w':World}{θ:List Value}{mem:List Ob}(h:cr pb w0 w θ mem){k:Nat}(hmk:mem[k]? =some .gone)(hvk:θ[k]? =some undef)(hx:Ext w w')(v:Value)(o:Ob)(hb:∀ b,cH v=some b->w.heap.size<=b)
 (ho:∀ θ' pr,(∀ a x,R1 θ (aP pb θ mem) w a x->R1 θ' pr w' a x)->dG θ' pr w0.gn w' v o):Step pb w0 θ mem w (θ.set k v) (mem.set k o) w':=by
 have hkm:k<mem.length:=(SN.1 hmk).1;have hkt:k<θ.length:=(SN.1 hvk).1;have hθ:∀ (j:Nat) (x:Value),x≠undef->θ[j]? =some x->(θ.set k v)[j]? =some x:=λj x hx hj=>by
  by_cases hjk:k=j
  ·subst hjk;rw [hvk]at hj;cases hj;exact absurd rfl hx
  ·rw [SY hjk];exact hj
 have split:∀ {j:Nat} {p:Ob} {u:Value},(mem.set k o)[j]? =some p->(θ.set k v)[j]? =some u->(mem[j]? =some p/\θ[j]? =some u/\j≠k)\/(j=k/\p=o/\u=v):=by
  intro j p u hm hu
  by_cases hjk:k=j
  ·subst hjk;rw [S7 hkm]at hm;rw [S7 hkt]at hu;cases hm;cases hu;exact .inr ⟨rfl,rfl,rfl⟩
  ·rw [SY hjk]at hm hu;exact .inl ⟨hm,hu,λe=>hjk e.symm⟩
 have hp:∀ b,b<w.heap.size-> ¬ aP pb θ mem b-> ¬ aP pb (θ.set k v) (mem.set k o) b:=by
  intro b hlt hn hq;rcases hq with hq|⟨j,p,u,h1,h2,h3,h4⟩
  ·exact hn (.inl hq)
  rcases split h1 h3 with⟨h5,h6,_⟩|⟨rfl,rfl,rfl⟩
  ·exact hn (.inr ⟨j,p,u,h5,h2,h6,h4⟩)
  ·exact absurd (hb b h4) ah
 have keep:∀ a x,R1 θ (aP pb θ mem) w a x->R1 (θ.set k v) (aP pb (θ.set k v) (mem.set k o)) w' a x:=λa x hr=>hr.mono' hθ hx.size (λb hb _=>hx.block b hb) hp
 refine⟨⟨h.ext.ext hx,h.low,by simp [h.len],λj p u hm hu=>?_,λi j p q u u' b h1 h2 h3 h4 h5 h6 h7 h8=>?_⟩,keep,hx.size,λb hb _=>hx.block b hb,hp⟩
 ·rcases split hm hu with⟨h5,h6,_⟩|⟨rfl,rfl,rfl⟩
  ·by_cases hg:p= .gone
   ·subst hg;trivial
   ·exact(h.ob j p u h5 h6).mono' hθ hx.size (λb hb _=>hx.block b hb) hp (λb hb=>hx.block b ((h.ob j p u h5 h6).lt hg hb).2)
  ·exact ho _ _ keep
 ·rcases split h1 h5 with⟨a1,a2,a5⟩|⟨rfl,rfl,rfl⟩<;>rcases split h3 h6 with⟨a3,a4,a6⟩|⟨rfl,rfl,rfl⟩
  ·exact h.dis i j p q u u' b a1 h2 a3 h4 a2 a4 h7 h8
  ·have:=((h.ob i p u a1 a2).lt h2 h7).2;have:=hb b h8;omega
  ·have:=((h.ob j q u' a3 a4).lt h4 h8).2;have:=hb b h7;omega
  ·rfl
theorem Step.write{pb:Nat->Prop}{w0:Bs}{w w':World}{θ:List Value}{mem:List Ob}(h:cr pb w0 w θ mem){j:Nat}{o o':Ob}{v:Value}(hm:mem[j]? =some o)(hg:o≠ .gone)(hv:θ[j]? =some v)(hx:Below 0 w w')
 (hw:∀ b,b<w.heap.size->cH v≠some b->w'.heap[b]? =w.heap[b]?)
 (ho:∀ pr,(∀ a x,R1 θ (aP pb θ mem) w a x->R1 θ pr w' a x)->dG θ pr w0.gn w' v o'):Step pb w0 θ mem w θ (mem.set j o') w':=by
 have hj:j<mem.length:=(SN.1 hm).1;have hset:∀ {i:Nat} {p:Ob},(mem.set j o')[i]? =some p->(i=j/\p=o')\/(i≠j/\mem[i]? =some p):=by
  intro i p hp
  by_cases hij:j=i
  ·subst hij;rw [S7 hj]at hp;exact .inl ⟨rfl,by simpa using hp.symm⟩
  ·rw [SY hij]at hp;exact .inr ⟨λh=>hij h.symm,hp⟩
 have hpj:∀ b,cH v=some b->aP pb θ mem b:=λb hb=>.inr ⟨j,o,v,hm,hg,hv,hb⟩
 have hp:∀ b,¬ aP pb θ mem b-> ¬ aP pb θ (mem.set j o') b:=by
  intro b hn hq;rcases hq with hq|⟨i,p,u,h1,h2,h3,h4⟩
  ·exact hn (.inl hq)
  rcases hset h1 with⟨rfl,rfl⟩|⟨_,h5⟩
  ·rw [hv]at h3;cases h3;exact hn (hpj b h4)
  ·exact hn (.inr ⟨i,p,u,h5,h2,h3,h4⟩)
 have hw':∀ b,b<w.heap.size-> ¬ aP pb θ mem b->w'.heap[b]? =w.heap[b]? :=λb hb hn=>hw b hb λhe=>hn (hpj b he)
 have keep:∀ a x,R1 θ (aP pb θ mem) w a x->R1 θ (aP pb θ (mem.set j o')) w' a x:=λa x hr=>hr.mono (λ_ _ h=>h) hx.size hw' (λb _=>hp b)
 refine⟨⟨h.ext.write hx hw (λb hb=>((h.ob j o v hm hv).lt hg hb).1),h.low,by simp [h.len],λi p u hm' hu=>?_,λi i2 p q u u' b h1 h2 h3 h4 h5 h6 h7 h8=>?_⟩,keep,hx.size,hw',λb _=>hp b⟩
 ·rcases hset hm' with⟨rfl,rfl⟩|⟨hne,h5⟩
  ·rw [hv]at hu;cases hu;exact ho _ keep
  ·by_cases hgp:p= .gone
   ·subst hgp;trivial
   ·refine(h.ob i p u h5 hu).mono (λ_ _ h=>h) hx.size hw' (λb _=>hp b) λb hb=>?_
    have hlt:=((h.ob i p u h5 hu).lt hgp hb).2;exact hw b hlt λhe=>hne (h.dis i j p o u v b h5 hgp hm hg hu hv hb he)
 ·have live:∀ {i:Nat} {p:Ob} {u:Value},(mem.set j o')[i]? =some p->p≠ .gone ->θ[i]? =some u-> ∃ p',mem[i]? =some p'/\p'≠ .gone :=by
   intro i p u h1 h2 _;rcases hset h1 with⟨rfl,rfl⟩|⟨_,h5⟩
   ·exact⟨o,hm,hg⟩
   ·exact⟨p,h5,h2⟩
  obtain⟨p',a1,a2⟩:=live h1 h2 h5;obtain⟨q',a3,a4⟩:=live h3 h4 h6;exact h.dis i i2 p' q' u u' b a1 a2 a3 a4 h5 h6 h7 h8
theorem Step.drop{pb:Nat->Prop}{w0:Bs}{w:World}{θ:List Value}{mem:List Ob}(h:cr pb w0 w θ mem)(j:Nat):Step pb w0 θ mem w θ (mem.set j .gone) w:=by
 have hset:∀ {i:Nat} {p:Ob},(mem.set j .gone)[i]? =some p->p= .gone \/mem[i]? =some p:=by
  intro i p hp
  by_cases hij:j=i
  ·subst hij;have hj:j<mem.length:=by have:=(SN.1 hp).1;simpa using this
   rw [S7 hj]at hp;exact .inl (by simpa using hp.symm)
  ·rw [SY hij]at hp;exact .inr hp
 have hp:∀ b,¬ aP pb θ mem b-> ¬ aP pb θ (mem.set j .gone) b:=by
  intro b hn hq;rcases hq with hq|⟨i,p,u,h1,h2,h3,h4⟩
  ·exact hn (.inl hq)
  rcases hset h1 with rfl|h5
  ·exact h2 rfl
  ·exact hn (.inr ⟨i,p,u,h5,h2,h3,h4⟩)
 refine⟨⟨h.ext,h.low,by simp [h.len],λi p u hm' hu=>?_,λi i2 p q u u' b h1 h2 h3 h4 h5 h6 h7 h8=>?_⟩,λa x hr=>hr.mono (λ_ _ h=>h) (SR _) (λ_ _ _=>rfl) (λb _=>hp b),SR _,λ_ _ _=>rfl,λb _=>hp b⟩
 ·rcases hset hm' with rfl|h5
  ·trivial
  ·exact(h.ob i p u h5 hu).mono (λ_ _ h=>h) (SR _) (λ_ _ _=>rfl) (λb _=>hp b) (λ_ _=>rfl)
 ·exact h.dis i i2 p q u u' b ((hset h1).resolve_left h2) h2 ((hset h3).resolve_left h4) h4 h5 h6 h7 h8
theorem aP.dropped{pb:Nat->Prop}{w0:Bs}{w:World}{θ:List Value}{mem:List Ob}(h:cr pb w0 w θ mem){j:Nat}{o:Ob}{v:Value}(hm:mem[j]? =some o)(hg:o≠ .gone)(hv:θ[j]? =some v){b:Nat}(hb:cH v=some b):¬ aP pb θ (mem.set j .gone) b:=by
 intro hq;rcases hq with hq|⟨i,p,u,h1,h2,h3,h4⟩
 ·have h1:=h.low b hq;rcases ((h.ob j o v hm hv).lt hg hb).1 with h2|h2
  ·omega
  ·exact h1.2 h2
 by_cases hij:j=i
 ·subst hij;have hj:j<mem.length:=(SN.1 hm).1;rw [S7 hj]at h1;simp at h1;exact h2 h1.symm
 ·rw [SY hij]at h1;exact hij (h.dis j i o p v u b hm hg h1 h2 hv h3 hb h4)
def ij(B:Nat)(pr:Nat->Prop)(w:World)(ds:List Deferred):Prop:=(∀ d∈ds,∃ D,d.target= .collected D/\D<w.heap.size/\ ¬ pr D/\w.heap[D]? =some (.deferred (some []))/\B<=D)/\ds.Pairwise (λd d'=>d.target≠d'.target)
theorem ij.nil(B:Nat)(pr:Nat->Prop)(w:World):ij B pr w []:=⟨(λ_ h=>(by cases h)),List.Pairwise.nil⟩
theorem ij.mono{B:Nat}{pr pr':Nat->Prop}{w w':World}{ds:List Deferred}(h:ij B pr w ds)(hs:w.heap.size<=w'.heap.size)(hw:∀ b,b<w.heap.size-> ¬ pr b->w'.heap[b]? =w.heap[b]?)(hp:∀ b,b<w.heap.size-> ¬ pr b-> ¬ pr' b):ij B pr' w' ds:=
 ⟨λd hd=>by
  obtain⟨D,h1,h2,h3,h4,h5⟩:=h.1 d hd;exact⟨D,h1,S4 h2 hs,hp D h2 h3,(hw D h2 h3).trans h4,h5⟩,h.2⟩
abbrev Bs.bd(w0:Bs):Nat×List Deferred:=(w0.w.heap.size,w0.ds)
def Mks(B:Nat×List Deferred)(pr:Nat->Prop)(w:World)(ds:List Deferred):Prop:=∃ ms,ds=ms++B.2/\ij B.1 pr w ms
theorem Mks.nil(B:Nat)(pr:Nat->Prop)(w:World):Mks (B,[]) pr w []:=⟨[],rfl,ij.nil _ _ _⟩
theorem Mks.RX{B:Nat×List Deferred}{pr pr':Nat->Prop}{w w':World}(h:Mks B pr w []):Mks B pr' w' []:=by
 obtain⟨ms,h1,_⟩:=h;have h2:=List.append_eq_nil_iff.1 h1.symm;exact⟨[],by rw [h2.2];rfl,ij.nil _ _ _⟩
theorem Mks.mono{B:Nat×List Deferred}{pr pr':Nat->Prop}{w w':World}{ds:List Deferred}(h:Mks B pr w ds)(hs:w.heap.size<=w'.heap.size)(hw:∀ b,b<w.heap.size-> ¬ pr b->w'.heap[b]? =w.heap[b]?)(hp:∀ b,b<w.heap.size-> ¬ pr b-> ¬ pr' b):Mks B pr' w' ds:=
 let ⟨ms,h1,h2⟩:=h;⟨ms,h1,h2.mono hs hw hp⟩
theorem Mks.step{B:Nat×List Deferred}{pb:Nat->Prop}{w0:Bs}{w w':World}{θ θ':List Value}{mem mem':List Ob}{ds:List Deferred}(h:Mks B (aP pb θ mem) w ds)(hs:Step pb w0 θ mem w θ' mem' w'):Mks B (aP pb θ' mem') w' ds:=h.mono hs.sz hs.same hs.np
theorem cr.ds{pb:Nat->Prop}{w0 w1:Bs}{w:World}{θ:List Value}{mem:List Ob}(h:cr pb w0 w θ mem)(hw:w1.w=w0.w)(hl:w1.lb=w0.lb):cr pb w1 w θ mem:=by
 obtain⟨w1,l1,d1⟩:=w1;obtain⟨w0,l0,d0⟩:=w0;dsimp only at hw hl;subst hw hl;exact⟨⟨h.ext.below,h.ext.block⟩,h.low,h.len,h.ob,h.dis⟩
end Go.Proofs.YtfoaiidcfkmneaaGreatDoor
