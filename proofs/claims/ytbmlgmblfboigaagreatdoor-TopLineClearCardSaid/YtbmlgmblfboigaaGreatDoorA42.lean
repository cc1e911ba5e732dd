/- Lemmas for the statement. -/
import Derived.Test.YtbmlgmblfboigaaGreatDoorA41
import Derived.Lib.AppendStr
import Derived.Lib.UnsafeStr
namespace Go.Proofs.YtbmlgmblfboigaaGreatDoor
open Go Go.RowKit
set_option linter.unusedVariables false
set_option linter.unusedSimpArgs false
section
variable {m mem:List Ob} {a b c d e f g:Ob} {l:List Ob}
theorem qN(h:m=a::l):m[0]? =some a:=by subst h;rfl
theorem sy(h:m=a::b::l):m[1]? =some b:=by subst h;rfl
theorem xR(h:m=a::b::c::l):m[2]? =some c:=by subst h;rfl
theorem iG:∀ s∈([]:List Nat),s<mem.length:=by simp
theorem eK{t:Nat}{ts:List Nat}{o:Ob}(h:mem[t]? =some o)(hr:∀ s∈ts,s<mem.length):∀ s∈t::ts,s<mem.length:=λs hs=>by
 rcases XM.1 hs with rfl|hs
 ·exact(Xe.1 h).1
 ·exact hr s hs
theorem dW{ts:List Nat}{xs:List Ob}{i:Nat}{o:Ob}(h:m=fQ ts xs mem)(hl:ts.length<=xs.length)(hi:mem[i]? =some o)(hn:i∉ts):m[i]? =some o:=by
 subst h;rw [uD ts xs mem i hl hn (Xe.1 hi).1];exact hi
theorem iz{ts:List Nat}{xs:List Ob}{t:Nat}{o:Ob}(h:m=fQ ts xs mem)(hl:ts.length<=xs.length)(hnd:ts.Nodup)(hlt:∀ s∈ts,s<mem.length)(i:Nat)(ht:ts[i]? =some t)(hx:xs[i]? =some o):m[t]? =some o:=by
 subst h;rw [xP ts xs mem i t hl hnd hlt ht];exact hx
theorem lH{ts:List Nat}{xs:List Ob}{n:Nat}{o:Ob}(h:m=fQ ts xs mem)(hl:ts.length<=xs.length)(hn:mem.length=n)(i:Nat)(hx:xs[ts.length+i]? =some o):m[n+i]? =some o:=by
 subst h;subst hn;rw [xQ ts xs mem i hl];exact hx
theorem jk{ts:List Nat}{xs:List Ob}{n:Nat}(h:m=fQ ts xs mem)(hn:mem.length=n)(k:Nat)(hx:xs.length=ts.length+k):m.length=n+k:=by
 subst h;subst hn;rw [wF ts xs mem ah];omega
end
section
variable {P:Program} {e:Nat->AV} {mem:List Ob} {fn:Func}
theorem qz{gs:List (Nat×List AV)}{m0 m1:List Ob}{x:Exit}{n:Nat}{r q:AV}(hx:x= .normal \/x= .ret)(ts:List Nat)(hl:mem.length=n)(hg:mem[0]? =some (.bT gs))(hnd:ts.Nodup)(hpre:ts.take m0.length=List.range' 1 m0.length)(hr:nV P fn e mem q)(hE:iM (rho ts n) mem ts m1)(hq:q=rn (rho ts n) r):Cj P fn gs m0 (λq m=>q=r/\m=m1) x e mem:=by
 subst hl;subst hq;exact⟨hx,ts,r,m1,⟨rfl,rfl⟩,hg,hnd,hpre,hE,hr⟩
theorem lO{ρ:Nat->Nat}{t:Nat}{ts:List Nat}{o p:Ob}{os:List Ob}(h:mem[t]? =some p)(hp:p=o.rn ρ)(hr:iM ρ mem ts os):iM ρ mem (t::ts) (o::os):=.ob (by rw [h,hp]) hr
end
section
variable {P:Program} {e:Nat->AV} {mem:List Ob} {d:Option Tmp} {ty t:TypeId} {pos:String} {af:Array Edge} {g:Option (Nat×Bool)} {x y:Operand}
theorem jw{n:Nat}{gs:List (Nat×List AV)}{f:FuncId}{as:Array Operand}{tys:Array TypeId}{args:List AV}{m0 m1:List Ob}{r:AV}(hc:kP P gs f args m0 r m1)(ts:List Nat)(hl:mem.length=n)(hargs:cX e as.toList=rn.rnL (rho ts n) args)(hgl:pw mem gs)(hnd:ts.Nodup)(hE:iM (rho ts n) mem ts m0)(hlv:JH m0=true)(dY:∀ args w,(callFunc f args).run P w= .ok (.enter f args) w):
 eE P ⟨d,.call ⟨.value (.func f),as,tys⟩,ty,pos,af,g⟩ e mem (rn (rho ts n) r) (fQ ts (m1.map (Ob.rn (rho ts n))) mem):=Wa ts hl hargs hc hgl hnd hE hlv dY
theorem kf{ρ:Nat->Nat}:∀ {a:AV},cC a=true->rn ρ a=a:=by
 have key:∀ a:AV,(cC a=true->rn ρ a=a):=by
  intro a;refine AV.rec (motive_1:=λa=>cC a=true->rn ρ a=a) (motive_2:=λ_=>True) (motive_3:=λl=>cC.roL l=true->rn.rnL ρ l=l) ?_ ?_ ?_ ?_ ?_ ?_ ?_ ?_ ?_ ?_ ?_ ?_ ?_ ?_ a
  ·intro _;rfl
  ·intro _ _;rfl
  ·intro _ _ _ _;rfl
  ·intro _ _ _;rfl
  ·intro l ih h;simp only [rn];rw [ih (by simpa [cC]using h)]
  ·intro l ih h;simp only [rn];rw [ih (by simpa [cC]using h)]
  ·intro f l k ih1 ih2 h;simp only [cC,Xg]at h;simp only [rn];rw [ih1 h.1,ih2 h.2]
  ·intro _ h;simp [cC]at h
  ·intro _ _ h;simp [cC]at h
  ·intro _;rfl
  ·trivial
  ·intros;trivial
  ·intro _;rfl
  ·intro a l ih1 ih2 h;simp only [cC.roL,Xg]at h;simp only [rn.rnL];rw [ih1 h.1,ih2 h.2]
 exact λ{a}=>key a
theorem jy{o:Oper}{r r':AV}{mem':List Ob}(h:eE P o e mem r mem')(hr:r=r'):eE P o e mem r' mem':=hr ▸ h
theorem wG:∀ l:List UInt8,(l.map bE).flatten =l.map (λb=>AV.v (.int .u8 b.toNat))
 | []=>rfl
 | a::l=>by simp [bE,wG l]
theorem CX{s:ByteArray}{i:Nat}{u:Value}(h:(Go.Lib.strCells s)[i]? =some u):∃ b,s.data.toList[i]? =some b/\u= .int .u8 b.toNat:=by
 unfold Go.Lib.strCells at h;rw [Xh]at h;cases hq:s.data.toList[i]? with
 | none=>rw [hq]at h;cases h
 | some b=>rw [hq]at h;simp at h;exact⟨b,rfl,h.symm⟩
theorem own_base{w w':World}{v:Value}(h:w.grownBy w' v.ownBlock)(hv:∃ A n c,v= .slice A n c):Below 0 w w'/\ ∀ b,b<w.heap.size->cA v≠some b->w'.heap[b]? =w.heap[b]? :=by
 have e:v.ownBlock=cA v:=by
  obtain⟨A,n,c,rfl⟩:=hv;cases A<;>rfl
 rw [e]at h;exact⟨(Below.refl 0 _).grown h (Xy _) (λq hq=>Xy _),λb hb hne=>h.block b hb (λe=>hne e.symm)⟩
theorem TA{eT tS:TypeId}{s:ByteArray}(ht:bO P t eT 1 1 (.int .u8 0))(hu:P.underlying tS=some .string)(hx:ak e x= .v (.slice none 0 0))(hy:ak e y= .v (.string s))(hb:s.size<=140737488355328):
 kN P ⟨d,.call ⟨.builtin .append,#[x,y],#[t,tS]⟩,ty,pos,af,g⟩ e mem (.row eT 1 (s.data.toList.map bE)) (λj=>.own j):=by
 obtain⟨i,hi,hz,hsz,hby⟩:=ht.info;intro pb w0 θ w ev hs h;have h1:=h x fl;have h2:=h y fl;rw [hx]at h1;rw [hy]at h2;obtain⟨v',w',hrun,h9,h10,-⟩:=Go.Lib.run_append_own_string (P:=P) w w.heap.size t tS ty eT i ht.1 hu hi hz hsz hby (.slice none 0 0) 0 [] (World.ownsRow_nil w _ eT 1) s (by simp only [maxLen];omega) ah (Xf _);rw [kx (fL h1.val (fL h2.val kC))];have e1:∀ cs,(builtin .append #[t,tS] ty cs [.slice none 0 0,.string s].toArray).run P w= .ok (.value v') w':=by
  intro cs;simp only [builtin,Sem.run_bind,hrun,Result.andThen_ok,Sem.run_pure]
 rw [e1];have hxx:Ext w w':=(Below.refl _ _).grown h10 (Xf _) λq hq=>by cases hq
 refine⟨hxx,(λb hb=>(kH h9 hb).1),λθ' pr k1=>?_,λθ' pr j hj=>.own j _ hj (oW h9)⟩;rw [Xl,Yx]at h9;have hl:s.size=(s.data.toList.map bE).length :=by rw [XK];rfl
 rw [hl]at h9;refine⟨_,h9.rj (Xy _),(λb hb=>.inl (Xz hs.base (kH h9 hb).1)),(λl hl=>by obtain⟨q,_,rfl⟩:=XL.1 hl;rfl),λn a u ha hu=>?_⟩;rw [wG,Xh]at ha;obtain⟨b,h3,rfl⟩:=CX hu;rw [h3]at ha;cases ha;exact .v _
theorem PY{m:Nat}{eT tS:TypeId}{s:ByteArray}(ht:bO P t eT 1 1 (.int .u8 0))(hu:P.underlying tS=some .string)(hl:mem.length=m)(hx:ak e x= .v (.slice none 0 0))(hy:ak e y= .v (.string s))(hb:s.size<=140737488355328):
 eE P ⟨d,.call ⟨.builtin .append,#[x,y],#[t,tS]⟩,ty,pos,af,g⟩ e mem (.own m) (mem++ [.row eT 1 (s.data.toList.map bE)]):=qJ (h:=λj=>.own j) (TA ht hu hx hy hb) hl
theorem TB{j:Nat}{eT tS:TypeId}{els:List (List AV)}{s:ByteArray}(ht:bO P t eT 1 1 (.int .u8 0))(hu:P.underlying tS=some .string)(hm:mem[j]? =some (.row eT 1 els))(hx:ak e x= .own j)(hy:ak e y= .v (.string s))(hb:els.length+s.size<=140737488355328):
 sC P ⟨d,.call ⟨.builtin .append,#[x,y],#[t,tS]⟩,ty,pos,af,g⟩ e mem j (.row eT 1 (els++s.data.toList.map bE)) (λj=>.own j):=by
 obtain⟨i,hi,hz,hsz,hby⟩:=ht.info;intro pb w0 θ w ev hs h;have h1:=h x fl;have h2:=h y fl;rw [hx]at h1;rw [hy]at h2;generalize hv:aT ev x=v at h1;have hθ:=h1.gU;obtain⟨xs,h3,hbs,h4,h5⟩:=hs.ob j _ v hm hθ;obtain⟨v',w',hrun,h9,h10,-⟩:=Go.Lib.run_append_own_string (P:=P) w 0 t tS ty eT i ht.1 hu hi hz hsz hby v els.length xs h3 s (by simp only [maxLen];omega) hb (Xy _);obtain⟨hbel,hoth⟩:=own_base h10 (let ⟨A,c,hv,_⟩:=rp h3;⟨A,_,c,hv⟩)
 -- where the row lies now
 have hbase:cA v'=cA v\/ ∀ b,cA v'=some b->w.heap.size<=b:=by
  rcases h3.2 with⟨rfl,h0⟩|⟨gg,cap,cur,rfl,_,hh,hcap,hmax,hcs,htake⟩
  ·obtain⟨v2,w2,hrun2,q1,_,_⟩:=Go.Lib.run_append_own_string (P:=P) w w.heap.size t tS ty eT i ht.1 hu hi hz hsz hby (.slice none 0 0) 0 [] (World.ownsRow_nil w _ eT 1) s (by simp only [maxLen];omega) ah (Xf _);rw [hrun]at hrun2;cases hrun2;exact .inr λb hb=>(kH q1 hb).1
  ·by_cases hroom:els.length+s.size<=cap
   ·have hr:=Go.Lib.run_append_room_string (P:=P) w t tS ty eT i ht.1 hu hi hsz gg els.length cap cur hh s hroom ah;rw [hrun]at hr;cases hr;exact .inl rfl
   ·have holds:∀ j u,xs[j]? =some u->w.cell? ((⟨gg,0,none⟩:Addr).add j)=some u:=h3.cells (g:=gg) rfl;have hr:=Go.Lib.run_append_grow_string (P:=P) w t tS ty eT i (.int .u8 0) ht.1 hu hi hz ⟨gg,0,none⟩ els.length cap xs (by rw [hsz];simpa using h3.1) holds s ah ah (by rw [hby];exact growslice_fits ah ah);rw [hrun]at hr;cases hr;exact .inr λb hb=>by cases hb;exact Xf _
 rw [kx (fL hv (fL h2.val kC))];have e1:∀ cs,(builtin .append #[t,tS] ty cs [v,.string s].toArray).run P w= .ok (.value v') w':=by
  intro cs;simp only [builtin,Sem.run_bind,hrun,Result.andThen_ok,Sem.run_pure]
 rw [e1];refine⟨_,_,hm,aN,hθ,hbel,hoth,hbase,λθ' pr k1 k0=>?_,λθ' pr j hj=>.own _ _ hj (oW h9)⟩;have hl:s.size=(s.data.toList.map bE).length :=by rw [XK];rfl
 refine⟨xs++Go.Lib.strCells s,by rw [XD, <- hl];exact h9,(λb hb=>by
  rcases hbase with h|h
  ·rw [h]at hb;exact hbs b hb
  ·exact .inl (Xz hs.base (h b hb))),λl hl=>?_,λn a u ha hu=>?_⟩
 ·rcases Yg.1 hl with h|h
  ·exact h4 l h
  ·obtain⟨q,_,rfl⟩:=XL.1 h;rfl
 ·rw [Yw]at ha;have hfl:=fF h4;have hxl:xs.length=els.length*1:=h3.1;rcases XC n els.flatten.length with hn|hn
  ·rw [Xj hn]at ha;rw [Xj ah]at hu;exact k0 a u (h5 n a u ha hu)
  ·rw [Xk hn]at ha;rw [Xk ah]at hu;rw [show n - xs.length=n - els.flatten.length by omega]at hu;rw [wG,Xh]at ha;obtain⟨b,h3,rfl⟩:=CX hu;rw [h3]at ha;cases ha;exact .v _
theorem TC{j m:Nat}{eT tS:TypeId}{els:List (List AV)}{s:ByteArray}(ht:bO P t eT 1 1 (.int .u8 0))(hu:P.underlying tS=some .string)(hl:mem.length=m)(hm:mem[j]? =some (.row eT 1 els))(hx:ak e x= .own j)(hy:ak e y= .v (.string s))(hb:els.length+s.size<=140737488355328):
 eE P ⟨d,.call ⟨.builtin .append,#[x,y],#[t,tS]⟩,ty,pos,af,g⟩ e mem (.own m) (mem.set j .gone ++ [.row eT 1 (els++s.data.toList.map bE)]):=Jz (h:=λj=>.own j) (TB ht hu hm hx hy hb) hl
theorem Vn{j k:Nat}{eT:TypeId}{els:List (List AV)}{ts:Array TypeId}(hx:ak e x= .own j)(hm:mem[j]? =some (.row eT k els))(hne:0<els.length):bw P ⟨d,.call ⟨.builtin .unsafeSliceData,#[x],ts⟩,ty,pos,af,g⟩ e mem (.ptr j 0):=by
 intro pb w0 θ w ev hs h;have h1:=h x fl;rw [hx]at h1;generalize hv:aT ev x=v at h1;have hθ:=h1.gU;obtain⟨xs,h3,hbs,h4,h5⟩:=hs.ob j _ v hm hθ;rcases h3.2 with⟨rfl,h0⟩|⟨gg,cap,cur,rfl,_,hh,hcap,hmax,hcs,htake⟩
 ·omega
 ·rw [kx (fL hv kC)];have hr:=Go.Lib.run_unsafeSliceData_row (P:=P) (w:=w) ts ty ⟨gg,0,none⟩ els.length cap ah;have e1:∀ cs,(builtin .unsafeSliceData ts ty cs [.slice (some ⟨gg,0,none⟩) els.length cap].toArray).run P w= .ok (.value (.pointer (some ⟨gg,0,none⟩))) w:=by
   intro cs;simp only [builtin,Sem.run_bind,hr,Result.andThen_ok,Sem.run_pure]
  rw [e1];exact⟨.ptr j 0 gg _ hθ rfl,Ext.refl w⟩
theorem TD{j:Nat}{pt it eT:TypeId}{l:List UInt8}{n:Int}(hp:P.underlying pt=some (.pointer eT))(hc:P.cellsOf eT=1)(hx:ak e x= .ptr j 0)(hy:ak e y= .v (.int .i64 n))(hm:mem[j]? =some (.row eT 1 (l.map bE)))(hn:n=l.length)(hne:0<l.length)(hb:l.length<=140737488355328):
 eE P ⟨d,.call ⟨.builtin .unsafeString,#[x,y],#[pt,it]⟩,ty,pos,af,g⟩ e mem (.v (.string ⟨l.toArray⟩)) (mem.set j .gone):=by
 subst hn;intro pb w0 θ w ev hs h;have h1:=h x fl;have h2:=h y fl;rw [hx]at h1;rw [hy]at h2;obtain⟨b,v,hθ,hbase,hpv⟩:=h1.gk;obtain⟨xs,h3,hbs,h4,h5⟩:=hs.ob j _ v hm hθ;have hxl:xs.length=l.length:=by have:=h3.1;simpa using this
 rcases h3.2 with⟨rfl,h0⟩|⟨gg,cap,cur,rfl,_,hh,hcap,hmax,hcs,htake⟩
 ·cases hbase
 ·cases hbase;have hcells:=h3.cells (g:=gg) rfl;have hr:=Go.Lib.run_unsafeString_row (P:=P) (w:=w) pt it ty eT hp hc gg cur.size (by simp [World.shape?,hh]) l (XJ.1 hne) (by simp at hcap;omega) ah (λq u hq=>by
   have hql:q<xs.length:=by rw [hxl];exact(Xe.1 hq).1
   have h6:=h5 q (.v (.int .u8 u.toNat)) xs[q] (by rw [wG,Xh,hq];rfl) (Xd hql);have h7:xs[q]= .int .u8 u.toNat:=R1.val (θ:=θ) (.ro h6);rw [<- h7];exact hcells q _ (Xd hql))
  rw [kx (fL hpv (fL h2.val kC))];have e1:∀ cs,(builtin .unsafeString #[pt,it] ty cs [.pointer (some ⟨gg,0,none⟩),.int .i64 l.length].toArray).run P w= .ok (.value (.string ⟨l.toArray⟩)) (w.freeze ⟨gg,0,none⟩ l.length):=by
   intro cs;simp only [builtin,Sem.run_bind,hr,Result.andThen_ok,Sem.run_pure]
  rw [e1];have hfz:∀ b,b≠gg->(w.freeze ⟨gg,0,none⟩ l.length).heap[b]? =w.heap[b]? :=λb hb=>by
   unfold World.freeze;rw [if_neg ah];simp [Array.getElem?_modify,Ne.symm hb]
  exact⟨θ,.ro (.v _),Step.write hs hm aN hθ (Go.Lib.below_freeze (Below.refl 0 w) (Xy _) _) (λb _ hne=>hfz b λe=>hne mj) λ_ _=>trivial⟩
end
end Go.Proofs.YtbmlgmblfboigaaGreatDoor
