/- Lemmas for the statement. -/
import Derived.Test.YtbmlgmblfboigaaGreatDoorM9
import Derived.Test.YtbmlgmblfboigaaGreatDoorY1
set_option maxRecDepth 100000
set_option maxHeartbeats 1000000
namespace Go.Proofs.YtbmlgmblfboigaaGreatDoor
open Go Go.ChangeShapes Go.WideShapes Go.ChangeAt Go.RowKit Go.Joins Go.Deep
set_option linter.unusedSimpArgs false
set_option linter.unusedVariables false
theorem sS{α H:Type}[Inhabited α]{enc:TypeId×Value->H}{W:World}{fuel:Nat}{T e:TypeId}{k:Nat}{c0:Value}{y:DataW H×List MemPlace}(g:α->List AV)(hg:∀ a,(g a).length =k)(hk0:0<k)
 (ht:Tryz.prog.underlying T=some (.slice e))(hk:Tryz.prog.cellsOf e=k)
 (each:∀ fuel cs x,cs.length=k->DataW.trod enc Tryz.prog W 0 (λ_=>true) true fuel e cs=some x-> ∃ a:α,∀ (j:Nat) (av:AV) (v:Value),(g a)[j]? =some av->cs[j]? =some v->R0 (λ_=>False) W av v)
 (h:DataW.trod enc Tryz.prog W 0 (λ_=>true) true fuel T [c0]=some y):∃ l:List α,R0 (λ_=>False) W (.row k (l.map g)) c0:=by
 rcases open_slice ht h with⟨hcs,_⟩|⟨a,len,cap,m,n,D,Pl,hcs,hb,hl,hm,hmm,rfl,hx⟩
 ·obtain rfl:c0= .slice none 0 0:=by simpa using hcs
  exact⟨[],.nil _ _ _⟩
 ·simp only [if_true]at hmm;subst hmm;obtain rfl:c0= .slice (some a) len m:=by simpa using hcs
  by_cases h0:len=0
  ·subst h0;exact⟨[],.nil _ _ _⟩
  have ex:∀ i,∃ q:α×List Value,i<len->W.cells? 0 (a.add (i*k)) k=some q.2/\ ∀ (j:Nat) (av:AV) (v:Value),(g q.1)[j]? =some av->q.2[j]? =some v->R0 (λ_=>False) W av v:=λi=>by
   by_cases hil:i<len
   ·obtain⟨cs',h1,h2⟩:=hx i ah;rw [hk]at h1;obtain⟨_,hlen,_⟩:=World.cells?_some h1;obtain⟨z,hz⟩:=each _ _ _ hlen h2;exact⟨(z,cs'),λ_=>⟨h1,hz⟩⟩
   ·exact⟨default,λh=>absurd h hil⟩
  obtain⟨q,hq⟩:=Classical.axiomOfChoice ex;have cell:∀ i j,i<len->j<k->(q i).2.length =k/\W.cell? ((a.add (i*k)).add j)=(q i).2[j]? :=λi j hi hj=>by
   obtain⟨h1,h2⟩:=hq i hi;obtain⟨_,hlen,h3⟩:=World.cells?_some h1;exact⟨hlen,h3 j hj⟩
  have hc0:=(cell 0 0 ah hk0).2;rw [Xd (by rw [(cell 0 0 ah hk0).1];exact hk0)]at hc0;have hsp:a=⟨a.block,a.off,none⟩:=by
   have:=Nv hc0
   simpa [Addr.add]using this
  have hbl:=World.block_lt_of_cell? W _ hc0;have hel:∀ l∈((List.range len).map λi=>(q i).1).map g,l.length=k:=λl hl=>by
   obtain⟨x,_,rfl⟩:=XL.1 hl;exact hg x
  have hfl:∀ (i:Nat) (av:AV),(((List.range len).map λi=>(q i).1).map g).flatten[i]? =some av->i/k<len/\i%k<k/\(g (q (i/k)).1)[i%k]? =some av:=λi av hi=>by
   have hlt:i<len*k:=by
    have:=(Xe.1 hi).1;rw [fF hel]at this;simpa using this
   have h1:i/k<len:=(Nat.div_lt_iff_lt_mul hk0).2 hlt;have h2:i%k<k:=Nat.mod_lt _ hk0;have e:i=i/k*k+i%k:=by have:=Nat.div_add_mod i k;rw [Nat.mul_comm]at this;omega
   rw [e,flat_get hel (i:=i/k) (el:=g (q (i/k)).1) (by simp [h1]) h2]at hi;exact⟨h1,h2,hi⟩
  refine⟨(List.range len).map λi=>(q i).1,?_⟩;have:=R0.row (pr:=λ_=>False) (w:=W) k (((List.range len).map λi=>(q i).1).map g) a.block a.off m (λj=>(q (j/k)).2.getD (j%k) undef) cJ (by simpa using hl) hel (by simpa [Addr.add]using hbl) (λh=>h)
   (λi av hi=>by
    obtain⟨h1,h2,h3⟩:=hfl i av hi;obtain⟨c1,c2⟩:=cell (i/k) (i%k) h1 h2;have e:i=i/k*k+i%k:=by have:=Nat.div_add_mod i k;rw [Nat.mul_comm]at this;omega
    have hget:(q (i/k)).2[i%k]? =some ((q (i/k)).2.getD (i%k) undef):=by
     rw [Xc,Xd ah];rfl
    rw [hget,add_add,hsp]at c2;rw [<- Addr.add_lit a.block a.off i]
    conv=>lhs;rw [e]
    exact c2)
   (λi av hi=>by
    obtain⟨h1,h2,h3⟩:=hfl i av hi;obtain⟨c1,_⟩:=cell (i/k) (i%k) h1 h2;refine(hq _ h1).2 (i%k) av _ h3 ?_;rw [Xc,Xd ah];rfl)
  rw [XK,XK,List.length_range, <- hsp]at this;exact this
theorem WM:Tryz.prog.cellsOf 59=4:=by kernel_rfl
theorem WN:Tryz.prog.cellsOf 95=2:=by kernel_rfl
theorem WO:Tryz.prog.cellsOf 97=3:=by kernel_rfl
theorem Vv:Tryz.prog.cellsOf 48=2:=by kernel_rfl
theorem Wh:Tryz.prog.cellsOf 27=4:=by kernel_rfl
theorem Vx:Tryz.prog.cellsOf 85=1:=by kernel_rfl
theorem Wi:Tryz.prog.cellsOf 23=1:=by kernel_rfl
theorem Wj:Tryz.prog.cellsOf 24=1:=by kernel_rfl
theorem Wl:Tryz.prog.cellsOf 25=1:=by kernel_rfl
theorem KU{H:Type}{enc:TypeId×Value->H}{W:World}{fuel:Nat}{c0:Value}{y:DataW H×List MemPlace}(h:DataW.trod enc Tryz.prog W 0 (λ_=>true) true fuel 85 [c0]=some y):
 ∃ xs:List Int,R0 (λ_=>False) W (.row 1 (xs.map iE)) c0:=
 sS iE (λ_=>rfl) ah Tryz.underlying85 px (λfuel cs x hlen hx=>by
  obtain⟨z,e,_⟩:=DataW.trod_int Tryz.underlying3 hx;refine⟨z,λj av v h1 h2=>?_⟩;subst e
  match j,h1,h2 with
  | 0,h1,h2=>cases h1;cases h2;exact .v _) h
theorem KJ{H:Type}{enc:TypeId×Value->H}{W:World}{fuel:Nat}{c0:Value}{y:DataW H×List MemPlace}(h:DataW.trod enc Tryz.prog W 0 (λ_=>true) true fuel 23 [c0]=some y):
 ∃ js:List ep,R0 (λ_=>False) W (.row 4 (js.map bX)) c0:=
 sS bX (λ_=>rfl) ah Tryz.underlying23 WM (λfuel cs x hlen hx=>by
  obtain⟨u0,u1,u2,u3,rfl⟩:=list4 hlen;obtain⟨y0,y1,y2,n,_,_,h0,h1,h2⟩:=trod_struct3 Tryz.underlying59 hx;simp [px,Vv]at h0 h1 h2;obtain⟨z0,e0,_⟩:=DataW.trod_int Tryz.underlying3 h0;obtain⟨z1,e1,_⟩:=DataW.trod_int Tryz.underlying3 h1;obtain⟨w0,w1,n',_,_,g0,g1⟩:=trod_struct2 Tryz.underlying48 h2;simp [px]at g0 g1;obtain⟨z2,e2,_⟩:=DataW.trod_int Tryz.underlying3 g0;obtain⟨z3,e3,_⟩:=DataW.trod_int Tryz.underlying3 g1;simp at e0 e1 e2 e3;subst e0 e1 e2 e3;refine⟨⟨z0,z1,z2,z3⟩,λj av v h1 h2=>?_⟩
  match j,h1,h2 with
  | 0,h1,h2=>cases h1;cases h2;exact .v _
  | 1,h1,h2=>cases h1;cases h2;exact .v _
  | 2,h1,h2=>cases h1;cases h2;exact .v _
  | 3,h1,h2=>cases h1;cases h2;exact .v _) h
theorem KV{H:Type}{enc:TypeId×Value->H}{W:World}{fuel:Nat}{c0:Value}{y:DataW H×List MemPlace}(h:DataW.trod enc Tryz.prog W 0 (λ_=>true) true fuel 24 [c0]=some y):
 ∃ bs:List fY,R0 (λ_=>False) W (.row 2 (bs.map cF)) c0:=
 sS cF (λ_=>rfl) ah Tryz.underlying24 WN (λfuel cs x hlen hx=>by
  obtain⟨u0,u1,rfl⟩:=Wg hlen;obtain⟨y0,y1,n,_,_,h0,h1⟩:=trod_struct2 Tryz.underlying95 hx;simp [px]at h0 h1;obtain⟨z0,e0,_⟩:=DataW.trod_int Tryz.underlying3 h0;obtain⟨z1,e1,_⟩:=DataW.trod_int Tryz.underlying3 h1;simp at e0 e1;subst e0 e1;refine⟨⟨z0,z1⟩,λj av v h1 h2=>?_⟩
  match j,h1,h2 with
  | 0,h1,h2=>cases h1;cases h2;exact .v _
  | 1,h1,h2=>cases h1;cases h2;exact .v _) h
theorem KD{H:Type}{enc:TypeId×Value->H}{W:World}{fuel:Nat}{c0:Value}{y:DataW H×List MemPlace}(h:DataW.trod enc Tryz.prog W 0 (λ_=>true) true fuel 25 [c0]=some y):
 ∃ ss:List eU,R0 (λ_=>False) W (.row 3 (ss.map ct)) c0:=
 sS ct (λ_=>rfl) ah Tryz.underlying25 WO (λfuel cs x hlen hx=>by
  obtain⟨u0,u1,u2,rfl⟩:=JO hlen;obtain⟨y0,y1,y2,n,_,_,h0,h1,h2⟩:=trod_struct3 Tryz.underlying97 hx;simp [px,J3,Vx]at h0 h1 h2;obtain⟨z0,e0,_⟩:=DataW.trod_string Tryz.underlying9 h0;obtain⟨z1,e1,_⟩:=DataW.trod_int Tryz.underlying3 h1;obtain⟨xs,hr⟩:=KU h2;simp at e0 e1;subst e0 e1;refine⟨⟨z0,z1,xs⟩,λj av v h1 h2=>?_⟩
  match j,h1,h2 with
  | 0,h1,h2=>cases h1;cases h2;exact .v _
  | 1,h1,h2=>cases h1;cases h2;exact .v _
  | 2,h1,h2=>cases h1;cases h2;exact hr) h
theorem Nx{H:Type}{enc:TypeId×Value->H}{W:World}{base:Nat}{v:Value}{d:DataW H}{p:List MemPlace}(hv:Value.okWide Tryz.prog W .any base 27 v)
 (h:DataW.Trod enc Tryz.prog W 0 (λ_=>true) true 27 v d p):∃ l:aP,R0 (λ_=>False) W (dL l) v:=by
 obtain⟨cs,rfl,hsz⟩:=okWide_struct Tryz.underlying27 hv;rw [Wh]at hsz;obtain⟨c0,c1,c2,c3,rfl⟩:∃ c0 c1 c2 c3,cs= #[c0,c1,c2,c3]:=by
  obtain⟨a,b,c,d,e⟩:=list4 (l:=cs.toList) (by simpa using hsz);exact⟨a,b,c,d,by rw [<- Array.toArray_toList (xs:=cs),e]⟩
 obtain⟨fuel,hf⟩:=h;obtain⟨y0,y1,y2,y3,n,hx,_,h0,h1,h2,h3⟩:=trod_struct4 Tryz.underlying27 hf;simp [Value.cells,J3,Wi,Wj,Wl]at h0 h1 h2 h3;obtain⟨s,e0,_⟩:=DataW.trod_string Tryz.underlying9 h0;simp at e0;subst e0;obtain⟨js,r1⟩:=KJ h1;obtain⟨bs,r2⟩:=KV h2;obtain⟨ss,r3⟩:=KD h3;refine⟨⟨s,js,bs,ss⟩,I4 (xs:= [_,_,_,_]) rfl λi a x ha hx=>?_⟩
 match i,ha,hx with
 | 0,ha,hx=>cases ha;cases hx;exact .v _
 | 1,ha,hx=>cases ha;cases hx;exact r1
 | 2,ha,hx=>cases ha;cases hx;exact r2
 | 3,ha,hx=>cases ha;cases hx;exact r3
end Go.Proofs.YtbmlgmblfboigaaGreatDoor
