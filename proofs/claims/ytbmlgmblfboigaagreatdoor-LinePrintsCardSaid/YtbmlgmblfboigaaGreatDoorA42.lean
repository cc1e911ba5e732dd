/- Lemmas for the statement. -/
import Derived.Test.YtbmlgmblfboigaaGreatDoorA41
import Derived.Lib.AppendStr
import Derived.Lib.UnsafeStr
namespace Go.Proofs.YtbmlgmblfboigaaGreatDoor
open Go Go.RowKit
set_option linter.unusedVariables false
set_option linter.unusedSimpArgs false
section
variable {m mem:List Ob} {a b c d e f g:Ob} {l:List Ob}
theorem nY(h:m=a::l):m[0]? =some a:=by subst h;rfl
theorem pN(h:m=a::b::l):m[1]? =some b:=by subst h;rfl
theorem vd(h:m=a::b::c::l):m[2]? =some c:=by subst h;rfl
theorem gA:∀ s∈([]:List Nat),s<mem.length:=by simp
theorem ee{t:Nat}{ts:List Nat}{o:Ob}(h:mem[t]? =some o)(hr:∀ s∈ts,s<mem.length):∀ s∈t::ts,s<mem.length:=λs hs=>by
 rcases TX.1 hs with rfl|hs
 ·exact(S9.1 h).1
 ·exact hr s hs
theorem dE{ts:List Nat}{xs:List Ob}{i:Nat}{o:Ob}(h:m=fe ts xs mem)(hl:ts.length<=xs.length)(hi:mem[i]? =some o)(hn:i∉ts):m[i]? =some o:=by
 subst h;rw [rq ts xs mem i hl hn (S9.1 hi).1];exact hi
theorem gv{ts:List Nat}{xs:List Ob}{t:Nat}{o:Ob}(h:m=fe ts xs mem)(hl:ts.length<=xs.length)(hnd:ts.Nodup)(hlt:∀ s∈ts,s<mem.length)(i:Nat)(ht:ts[i]? =some t)(hx:xs[i]? =some o):m[t]? =some o:=by
 subst h;rw [vb ts xs mem i t hl hnd hlt ht];exact hx
theorem jT{ts:List Nat}{xs:List Ob}{n:Nat}{o:Ob}(h:m=fe ts xs mem)(hl:ts.length<=xs.length)(hn:mem.length=n)(i:Nat)(hx:xs[ts.length+i]? =some o):m[n+i]? =some o:=by
 subst h;subst hn;rw [vc ts xs mem i hl];exact hx
theorem hZ{ts:List Nat}{xs:List Ob}{n:Nat}(h:m=fe ts xs mem)(hn:mem.length=n)(k:Nat)(hx:xs.length=ts.length+k):m.length=n+k:=by
 subst h;subst hn;rw [tD ts xs mem (by omega)];omega
end
section
variable {P:Program} {e:Nat->AV} {mem:List Ob} {fn:Func}
theorem nQ{gs:List (Nat×List AV)}{m0 m1:List Ob}{x:Exit}{n:Nat}{r q:AV}(hx:x= .normal \/x= .ret)(ts:List Nat)(hl:mem.length=n)(hg:mem[0]? =some (.bL gs))(hnd:ts.Nodup)(hpre:ts.take m0.length=List.range' 1 m0.length)(hr:l8 P fn e mem q)(hE:gI (rho ts n) mem ts m1)(hq:q=rn (rho ts n) r):zp P fn gs m0 (λq m=>q=r/\m=m1) x e mem:=by
 subst hl;subst hq;exact⟨hx,ts,r,m1,⟨rfl,rfl⟩,hg,hnd,hpre,hE,hr⟩
theorem jX{ρ:Nat->Nat}{t:Nat}{ts:List Nat}{o p:Ob}{os:List Ob}(h:mem[t]? =some p)(hp:p=o.rn ρ)(hr:gI ρ mem ts os):gI ρ mem (t::ts) (o::os):=.ob (by rw [h,hp]) hr
end
section
variable {P:Program} {e:Nat->AV} {mem:List Ob} {d:Option Tmp} {ty t:TypeId} {pos:String} {af:Array Edge} {g:Option (Nat×Bool)} {x y:Operand}
theorem ic{n:Nat}{gs:List (Nat×List AV)}{f:FuncId}{as:Array Operand}{tys:Array TypeId}{args:List AV}{m0 m1:List Ob}{r:AV}(hc:iY P gs f args m0 r m1)(ts:List Nat)(hl:mem.length=n)(hargs:cT e as.toList=rn.rnL (rho ts n) args)(hgl:mR mem gs)(hnd:ts.Nodup)(hE:gI (rho ts n) mem ts m0)(hlv:Gl m0=true)(dV:∀ args w,(callFunc f args).run P w= .ok (.enter f args) w):
 ej P ⟨d,.call ⟨.value (.func f),as,tys⟩,ty,pos,af,g⟩ e mem (rn (rho ts n) r) (fe ts (m1.map (Ob.rn (rho ts n))) mem):=RL ts hl hargs hc hgl hnd hE hlv dV
theorem iI{ρ:Nat->Nat}:∀ {a:AV},cm a=true->rn ρ a=a:=by
 have key:∀ a:AV,(cm a=true->rn ρ a=a):=by
  intro a;refine AV.rec (motive_1:=λa=>cm a=true->rn ρ a=a) (motive_2:=λ_=>True) (motive_3:=λl=>cm.roL l=true->rn.rnL ρ l=l) ?_ ?_ ?_ ?_ ?_ ?_ ?_ ?_ ?_ ?_ ?_ ?_ ?_ ?_ a
  ·intro _;rfl
  ·intro _ _;rfl
  ·intro _ _ _ _;rfl
  ·intro _ _ _;rfl
  ·intro l ih h;simp only [rn];rw [ih (by simpa [cm]using h)]
  ·intro l ih h;simp only [rn];rw [ih (by simpa [cm]using h)]
  ·intro f l k ih1 ih2 h;simp only [cm,Ti]at h;simp only [rn];rw [ih1 h.1,ih2 h.2]
  ·intro _ h;simp [cm]at h
  ·intro _ _ h;simp [cm]at h
  ·intro _;rfl
  ·trivial
  ·intros;trivial
  ·intro _;rfl
  ·intro a l ih1 ih2 h;simp only [cm.roL,Ti]at h;simp only [rn.rnL];rw [ih1 h.1,ih2 h.2]
 exact λ{a}=>key a
theorem ig{o:Oper}{r r':AV}{mem':List Ob}(h:ej P o e mem r mem')(hr:r=r'):ej P o e mem r' mem':=hr ▸ h
theorem tG:∀ l:List UInt8,(l.map bE).flatten =l.map (λb=>AV.v (.int .u8 b.toNat))
 | []=>rfl
 | a::l=>by simp [bE,tG l]
theorem zF{s:ByteArray}{i:Nat}{u:Value}(h:(Go.Lib.strCells s)[i]? =some u):∃ b,s.data.toList[i]? =some b/\u= .int .u8 b.toNat:=by
 unfold Go.Lib.strCells at h;rw [Tm]at h;cases hq:s.data.toList[i]? with
 | none=>rw [hq]at h;cases h
 | some b=>rw [hq]at h;simp at h;exact⟨b,rfl,h.symm⟩
theorem own_base{w w':World}{v:Value}(h:w.grownBy w' v.ownBlock)(hv:∃ A n c,v= .slice A n c):Below 0 w w'/\ ∀ b,b<w.heap.size->cg v≠some b->w'.heap[b]? =w.heap[b]? :=by
 have e:v.ownBlock=cg v:=by
  obtain⟨A,n,c,rfl⟩:=hv;cases A<;>rfl
 rw [e]at h;exact⟨(Below.refl 0 _).grown h (TO _) (λq hq=>TO _),λb hb hne=>h.block b hb (λe=>hne e.symm)⟩
theorem O0{eT tS:TypeId}{s:ByteArray}(ht:bI P t eT 1 1 (.int .u8 0))(hu:P.underlying tS=some .string)(hx:ag e x= .v (.slice none 0 0))(hy:ag e y= .v (.string s))(hb:s.size<=140737488355328):
 j4 P ⟨d,.call ⟨.builtin .append,#[x,y],#[t,tS]⟩,ty,pos,af,g⟩ e mem (.row eT 1 (s.data.toList.map bE)) (λj=>.own j):=by
 obtain⟨i,hi,hz,hsz,hby⟩:=ht.info;intro pb w0 θ w ev hs h;have h1:=h x (by simp [Op.operands,Call.operands]);have h2:=h y (by simp [Op.operands,Call.operands]);rw [hx]at h1;rw [hy]at h2;obtain⟨v',w',hrun,h9,h10,-⟩:=Go.Lib.run_append_own_string (P:=P) w w.heap.size t tS ty eT i ht.1 hu hi hz hsz hby (.slice none 0 0) 0 [] (World.ownsRow_nil w _ eT 1) s (by simp only [maxLen];omega) (by omega) (Tf _);rw [ji (fp h1.val (fp h2.val jt))];have e1:∀ cs,(builtin .append #[t,tS] ty cs [.slice none 0 0,.string s].toArray).run P w= .ok (.value v') w':=by
  intro cs;simp only [builtin,Sem.run_bind,hrun,Result.andThen_ok,Sem.run_pure]
 rw [e1];have hxx:Ext w w':=(Below.refl _ _).grown h10 (Tf _) λq hq=>by cases hq
 refine⟨hxx,(λb hb=>(mK h9 hb).1),λθ' pr k1=>?_,λθ' pr j hj=>.own j _ hj (re h9)⟩;rw [Tv,UO]at h9;have hl:s.size=(s.data.toList.map bE).length :=by rw [TV];rfl
 rw [hl]at h9;refine⟨_,h9.vV (TO _),(λb hb=>.inl (TP hs.base (mK h9 hb).1)),(λl hl=>by obtain⟨q,_,rfl⟩:=TW.1 hl;rfl),λn a u ha hu=>?_⟩;rw [tG,Tm]at ha;obtain⟨b,h3,rfl⟩:=zF hu;rw [h3]at ha;cases ha;exact .v _
theorem LC{m:Nat}{eT tS:TypeId}{s:ByteArray}(ht:bI P t eT 1 1 (.int .u8 0))(hu:P.underlying tS=some .string)(hl:mem.length=m)(hx:ag e x= .v (.slice none 0 0))(hy:ag e y= .v (.string s))(hb:s.size<=140737488355328):
 ej P ⟨d,.call ⟨.builtin .append,#[x,y],#[t,tS]⟩,ty,pos,af,g⟩ e mem (.own m) (mem++ [.row eT 1 (s.data.toList.map bE)]):=pL (h:=λj=>.own j) (O0 ht hu hx hy hb) hl
theorem O1{j:Nat}{eT tS:TypeId}{els:List (List AV)}{s:ByteArray}(ht:bI P t eT 1 1 (.int .u8 0))(hu:P.underlying tS=some .string)(hm:mem[j]? =some (.row eT 1 els))(hx:ag e x= .own j)(hy:ag e y= .v (.string s))(hb:els.length+s.size<=140737488355328):
 pP P ⟨d,.call ⟨.builtin .append,#[x,y],#[t,tS]⟩,ty,pos,af,g⟩ e mem j (.row eT 1 (els++s.data.toList.map bE)) (λj=>.own j):=by
 obtain⟨i,hi,hz,hsz,hby⟩:=ht.info;intro pb w0 θ w ev hs h;have h1:=h x (by simp [Op.operands,Call.operands]);have h2:=h y (by simp [Op.operands,Call.operands]);rw [hx]at h1;rw [hy]at h2;generalize hv:aO ev x=v at h1;have hθ:=h1.gy;obtain⟨xs,h3,hbs,h4,h5⟩:=hs.ob j _ v hm hθ;obtain⟨v',w',hrun,h9,h10,-⟩:=Go.Lib.run_append_own_string (P:=P) w 0 t tS ty eT i ht.1 hu hi hz hsz hby v els.length xs h3 s (by simp only [maxLen];omega) hb (TO _);obtain⟨hbel,hoth⟩:=own_base h10 (let ⟨A,c,hv,_⟩:=oM h3;⟨A,_,c,hv⟩)
 -- where the row lies now
 have hbase:cg v'=cg v\/ ∀ b,cg v'=some b->w.heap.size<=b:=by
  rcases h3.2 with⟨rfl,h0⟩|⟨gg,cap,cur,rfl,_,hh,hcap,hmax,hcs,htake⟩
  ·obtain⟨v2,w2,hrun2,q1,_,_⟩:=Go.Lib.run_append_own_string (P:=P) w w.heap.size t tS ty eT i ht.1 hu hi hz hsz hby (.slice none 0 0) 0 [] (World.ownsRow_nil w _ eT 1) s (by simp only [maxLen];omega) (by omega) (Tf _);rw [hrun]at hrun2;cases hrun2;exact .inr λb hb=>(mK q1 hb).1
  ·by_cases hroom:els.length+s.size<=cap
   ·have hr:=Go.Lib.run_append_room_string (P:=P) w t tS ty eT i ht.1 hu hi hsz gg els.length cap cur hh s hroom (by omega);rw [hrun]at hr;cases hr;exact .inl rfl
   ·have holds:∀ j u,xs[j]? =some u->w.cell? ((⟨gg,0,none⟩:Addr).add j)=some u:=h3.cells (g:=gg) rfl;have hr:=Go.Lib.run_append_grow_string (P:=P) w t tS ty eT i (.int .u8 0) ht.1 hu hi hz ⟨gg,0,none⟩ els.length cap xs (by rw [hsz];simpa using h3.1) holds s (by omega) (by omega) (by rw [hby];exact growslice_fits (by omega) (by omega));rw [hrun]at hr;cases hr;exact .inr λb hb=>by cases hb;exact Tf _
 rw [ji (fp hv (fp h2.val jt))];have e1:∀ cs,(builtin .append #[t,tS] ty cs [v,.string s].toArray).run P w= .ok (.value v') w':=by
  intro cs;simp only [builtin,Sem.run_bind,hrun,Result.andThen_ok,Sem.run_pure]
 rw [e1];refine⟨_,_,hm,by simp,hθ,hbel,hoth,hbase,λθ' pr k1 k0=>?_,λθ' pr j hj=>.own _ _ hj (re h9)⟩;have hl:s.size=(s.data.toList.map bE).length :=by rw [TV];rfl
 refine⟨xs++Go.Lib.strCells s,by rw [TM, <- hl];exact h9,(λb hb=>by
  rcases hbase with h|h
  ·rw [h]at hb;exact hbs b hb
  ·exact .inl (TP hs.base (h b hb))),λl hl=>?_,λn a u ha hu=>?_⟩
 ·rcases Uu.1 hl with h|h
  ·exact h4 l h
  ·obtain⟨q,_,rfl⟩:=TW.1 h;rfl
 ·rw [UN]at ha;have hfl:=fm h4;have hxl:xs.length=els.length*1:=h3.1;rcases TN n els.flatten.length with hn|hn
  ·rw [Tt hn]at ha;rw [Tt (by omega)]at hu;exact k0 a u (h5 n a u ha hu)
  ·rw [Tu hn]at ha;rw [Tu (by omega)]at hu;rw [show n - xs.length=n - els.flatten.length by omega]at hu;rw [tG,Tm]at ha;obtain⟨b,h3,rfl⟩:=zF hu;rw [h3]at ha;cases ha;exact .v _
theorem O2{j m:Nat}{eT tS:TypeId}{els:List (List AV)}{s:ByteArray}(ht:bI P t eT 1 1 (.int .u8 0))(hu:P.underlying tS=some .string)(hl:mem.length=m)(hm:mem[j]? =some (.row eT 1 els))(hx:ag e x= .own j)(hy:ag e y= .v (.string s))(hb:els.length+s.size<=140737488355328):
 ej P ⟨d,.call ⟨.builtin .append,#[x,y],#[t,tS]⟩,ty,pos,af,g⟩ e mem (.own m) (mem.set j .gone ++ [.row eT 1 (els++s.data.toList.map bE)]):=Gf (h:=λj=>.own j) (O1 ht hu hm hx hy hb) hl
theorem QK{j k:Nat}{eT:TypeId}{els:List (List AV)}{ts:Array TypeId}(hx:ag e x= .own j)(hm:mem[j]? =some (.row eT k els))(hne:0<els.length):bm P ⟨d,.call ⟨.builtin .unsafeSliceData,#[x],ts⟩,ty,pos,af,g⟩ e mem (.ptr j 0):=by
 intro pb w0 θ w ev hs h;have h1:=h x (by simp [Op.operands,Call.operands]);rw [hx]at h1;generalize hv:aO ev x=v at h1;have hθ:=h1.gy;obtain⟨xs,h3,hbs,h4,h5⟩:=hs.ob j _ v hm hθ;rcases h3.2 with⟨rfl,h0⟩|⟨gg,cap,cur,rfl,_,hh,hcap,hmax,hcs,htake⟩
 ·omega
 ·rw [ji (fp hv jt)];have hr:=Go.Lib.run_unsafeSliceData_row (P:=P) (w:=w) ts ty ⟨gg,0,none⟩ els.length cap (by omega);have e1:∀ cs,(builtin .unsafeSliceData ts ty cs [.slice (some ⟨gg,0,none⟩) els.length cap].toArray).run P w= .ok (.value (.pointer (some ⟨gg,0,none⟩))) w:=by
   intro cs;simp only [builtin,Sem.run_bind,hr,Result.andThen_ok,Sem.run_pure]
  rw [e1];exact⟨.ptr j 0 gg _ hθ rfl,Ext.refl w⟩
theorem O3{j:Nat}{pt it eT:TypeId}{l:List UInt8}{n:Int}(hp:P.underlying pt=some (.pointer eT))(hc:P.cellsOf eT=1)(hx:ag e x= .ptr j 0)(hy:ag e y= .v (.int .i64 n))(hm:mem[j]? =some (.row eT 1 (l.map bE)))(hn:n=l.length)(hne:0<l.length)(hb:l.length<=140737488355328):
 ej P ⟨d,.call ⟨.builtin .unsafeString,#[x,y],#[pt,it]⟩,ty,pos,af,g⟩ e mem (.v (.string ⟨l.toArray⟩)) (mem.set j .gone):=by
 subst hn;intro pb w0 θ w ev hs h;have h1:=h x (by simp [Op.operands,Call.operands]);have h2:=h y (by simp [Op.operands,Call.operands]);rw [hx]at h1;rw [hy]at h2;obtain⟨b,v,hθ,hbase,hpv⟩:=h1.fC;obtain⟨xs,h3,hbs,h4,h5⟩:=hs.ob j _ v hm hθ;have hxl:xs.length=l.length:=by have:=h3.1;simpa using this
 rcases h3.2 with⟨rfl,h0⟩|⟨gg,cap,cur,rfl,_,hh,hcap,hmax,hcs,htake⟩
 ·cases hbase
 ·cases hbase;have hcells:=h3.cells (g:=gg) rfl;have hr:=Go.Lib.run_unsafeString_row (P:=P) (w:=w) pt it ty eT hp hc gg cur.size (by simp [World.shape?,hh]) l (TT.1 hne) (by simp at hcap;omega) (by omega) (λq u hq=>by
   have hql:q<xs.length:=by rw [hxl];exact(S9.1 hq).1
   have h6:=h5 q (.v (.int .u8 u.toNat)) xs[q] (by rw [tG,Tm,hq];rfl) (Tc hql);have h7:xs[q]= .int .u8 u.toNat:=R1.val (θ:=θ) (.ro h6);rw [<- h7];exact hcells q _ (Tc hql))
  rw [ji (fp hpv (fp h2.val jt))];have e1:∀ cs,(builtin .unsafeString #[pt,it] ty cs [.pointer (some ⟨gg,0,none⟩),.int .i64 l.length].toArray).run P w= .ok (.value (.string ⟨l.toArray⟩)) (w.freeze ⟨gg,0,none⟩ l.length):=by
   intro cs;simp only [builtin,Sem.run_bind,hr,Result.andThen_ok,Sem.run_pure]
  rw [e1];have hfz:∀ b,b≠gg->(w.freeze ⟨gg,0,none⟩ l.length).heap[b]? =w.heap[b]? :=λb hb=>by
   unfold World.freeze;rw [if_neg (by omega)];simp [Array.getElem?_modify,Ne.symm hb]
  exact⟨θ,.ro (.v _),Step.write hs hm (by simp) hθ (Go.Lib.below_freeze (Below.refl 0 w) (TO _) _) (λb _ hne=>hfz b λe=>hne (by rw [e];rfl)) λ_ _=>trivial⟩
end
end Go.Proofs.YtbmlgmblfboigaaGreatDoor
