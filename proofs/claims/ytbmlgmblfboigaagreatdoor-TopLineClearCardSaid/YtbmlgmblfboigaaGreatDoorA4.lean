/- Lemmas for the statement. -/
import Derived.Test.YtbmlgmblfboigaaGreatDoorA2
namespace Go.Proofs.YtbmlgmblfboigaaGreatDoor
open Go Go.RowKit
set_option linter.unusedVariables false
set_option linter.unusedSimpArgs false
section
variable {P:Program} {e:Nat->AV} {mem:List Ob} {d:Option Tmp} {ty t t2:TypeId} {pos:String} {af:Array Edge} {g:Option (Nat×Bool)} {x y z:Operand}
theorem mf{o:Oper}(c:Value)(h:∀ ev:Nat->Value,(∀ x∈o.op.operands,∀ v,ak e x= .v v->aT ev x=v)-> ∀ w,(execOp (aT ev) o).run P w= .ok (.value c) w):bw P o e mem (.v c):=by
 intro pb w0 θ w ev hs hx;rw [h ev (λx hm v hv=>by have:=hx x hm;rw [hv]at this;exact this.val) w];exact⟨.ro (.v c),Ext.refl w⟩
theorem al{r:AV}(hx:ak e x=r):bw P ⟨d,.move x,ty,pos,af,g⟩ e mem r:=by
 intro pb w0 θ w ev hs h;have:=h x cE;rw [hx]at this;exact⟨this,Ext.refl w⟩
theorem aB{r:AV}(hx:ak e x=r):bw P ⟨d,.assign x,ty,pos,af,g⟩ e mem r:=by
 intro pb w0 θ w ev hs h;have:=h x cE;rw [hx]at this;exact⟨this,Ext.refl w⟩
theorem bD{r:AV}(hx:ak e x= .v (.bool true))(hy:ak e y=r):bw P ⟨d,.pick x y z,ty,pos,af,g⟩ e mem r:=by
 intro pb w0 θ w ev hs h;have h1:=h x cE;have h2:=h y cE;rw [hx]at h1;rw [hy]at h2;rw [Py (d:=d) (z:=z) h1.val rfl];exact⟨h2,Ext.refl w⟩
theorem bG{r:AV}(hx:ak e x= .v (.bool false))(hz:ak e z=r):bw P ⟨d,.pick x y z,ty,pos,af,g⟩ e mem r:=by
 intro pb w0 θ w ev hs h;have h1:=h x cE;have h2:=h z cE;rw [hx]at h1;rw [hz]at h2;rw [Pz (d:=d) (y:=y) h1.val rfl];exact⟨h2,Ext.refl w⟩
theorem qx{op:BinOp}{a b c:Value}(hx:ak e x= .v a)(hy:ak e y= .v b)(h:∀ w,(do eqGuard op t x y a b;binOp op t a b:Sem Value).run P w= .ok c w):bw P ⟨d,.binOp op t x y t2,ty,pos,af,g⟩ e mem (.v c):=
 mf c λev he w=>by
  rw [vx (he x cE a hx) (he y cE b hy),Sem.run_bind,h w];rfl
section
variable {k:IntKind} {m n:Int}
theorem DK{op:BinOp}{k k':IntKind}{m n:Int}(w:World):(eqGuard op t x y (.int k m) (.int k' n)).run P w= .ok () w:=by
 unfold eqGuard;split<;>rfl
theorem lL{op:BinOp}{c:Value}(hx:ak e x= .v (.int k m))(hy:ak e y= .v (.int k n))(h:∀ w,(binOp op t (.int k m) (.int k n)).run P w= .ok c w):bw P ⟨d,.binOp op t x y t2,ty,pos,af,g⟩ e mem (.v c):=
 qx hx hy λw=>by rw [Sem.run_bind,DK w];exact h w
theorem lM{op:BinOp}(hop:op≠ .shl /\op≠ .shr)(w:World):(binOp op t (.int k m) (.int k n)).run P w=(match op with
 | .add | .sub | .mul =>Op.intArith op k m n
 | .quo | .rem =>Op.intDiv op k m n
 | .and | .or | .xor | .andNot =>Op.intBits op k m n
 | _=>Op.intCmp op m n:Sem Value).run P w:=by
 cases op<;>first|(exact absurd rfl hop.1)|(exact absurd rfl hop.2)|simp [binOp]
theorem sh(hx:ak e x= .v (.int k m))(hy:ak e y= .v (.int k n)):bw P ⟨d,.binOp .add t x y t2,ty,pos,af,g⟩ e mem (.v (.int k (k.wrap (m+n)))):=
 lL hx hy λw=>by rw [lM ⟨aD,aD⟩];rfl
theorem xm(hx:ak e x= .v (.int k m))(hy:ak e y= .v (.int k n)):bw P ⟨d,.binOp .sub t x y t2,ty,pos,af,g⟩ e mem (.v (.int k (k.wrap (m - n)))):=
 lL hx hy λw=>by rw [lM ⟨aD,aD⟩];rfl
theorem A4(hx:ak e x= .v (.int k m))(hy:ak e y= .v (.int k n)):bw P ⟨d,.binOp .mul t x y t2,ty,pos,af,g⟩ e mem (.v (.int k (k.wrap (m*n)))):=
 lL hx hy λw=>by rw [lM ⟨aD,aD⟩];rfl
theorem A5(hx:ak e x= .v (.int k m))(hy:ak e y= .v (.int k n))(h0:n≠0):bw P ⟨d,.binOp .quo t x y t2,ty,pos,af,g⟩ e mem (.v (.int k (k.wrap (m.tdiv n)))):=
 lL hx hy λw=>by rw [lM ⟨aD,aD⟩];simp only [Op.intDiv];rw [if_neg h0];rfl
theorem A6(hx:ak e x= .v (.int k m))(hy:ak e y= .v (.int k n))(h0:n≠0):bw P ⟨d,.binOp .rem t x y t2,ty,pos,af,g⟩ e mem (.v (.int k (m.tmod n))):=
 lL hx hy λw=>by rw [lM ⟨aD,aD⟩];simp only [Op.intDiv];rw [if_neg h0];rfl
-- without a wrap
def In64(n:Int):Prop:= -9223372036854775808<=n/\n<=9223372036854775807
theorem wrap_in{n:Int}(h:In64 n):IntKind.i64.wrap n=n:=by rw [wrap_eq];unfold In64 at h;unfold wrap64;omega
theorem cv(hx:ak e x= .v (.int .i64 m))(hy:ak e y= .v (.int .i64 n))(h:In64 (m+n)):bw P ⟨d,.binOp .add t x y t2,ty,pos,af,g⟩ e mem (.v (.int .i64 (m+n))):=by
 have:=sh (P:=P) (mem:=mem) (d:=d) (ty:=ty) (t:=t) (t2:=t2) (pos:=pos) (af:=af) (g:=g) hx hy;rwa [wrap_in h]at this
theorem eC(hx:ak e x= .v (.int .i64 m))(hy:ak e y= .v (.int .i64 n))(h:In64 (m - n)):bw P ⟨d,.binOp .sub t x y t2,ty,pos,af,g⟩ e mem (.v (.int .i64 (m - n))):=by
 have:=xm (P:=P) (mem:=mem) (d:=d) (ty:=ty) (t:=t) (t2:=t2) (pos:=pos) (af:=af) (g:=g) hx hy;rwa [wrap_in h]at this
theorem fH(hx:ak e x= .v (.int .i64 m))(hy:ak e y= .v (.int .i64 n))(h:In64 (m*n)):bw P ⟨d,.binOp .mul t x y t2,ty,pos,af,g⟩ e mem (.v (.int .i64 (m*n))):=by
 have:=A4 (P:=P) (mem:=mem) (d:=d) (ty:=ty) (t:=t) (t2:=t2) (pos:=pos) (af:=af) (g:=g) hx hy;rwa [wrap_in h]at this
theorem S5(hx:ak e x= .v (.int .i64 m))(hy:ak e y= .v (.int .i64 n))(h0:n≠0)(h:In64 (m.tdiv n)):bw P ⟨d,.binOp .quo t x y t2,ty,pos,af,g⟩ e mem (.v (.int .i64 (m.tdiv n))):=by
 have:=A5 (P:=P) (mem:=mem) (d:=d) (ty:=ty) (t:=t) (t2:=t2) (pos:=pos) (af:=af) (g:=g) hx hy h0;rwa [wrap_in h]at this
theorem cU(hx:ak e x= .v (.int k m))(hy:ak e y= .v (.int k n)):bw P ⟨d,.binOp .lss t x y t2,ty,pos,af,g⟩ e mem (.v (.bool (decide (m<n)))):=
 lL hx hy λw=>by rw [lM ⟨aD,aD⟩];rfl
theorem fA(hx:ak e x= .v (.int k m))(hy:ak e y= .v (.int k n)):bw P ⟨d,.binOp .leq t x y t2,ty,pos,af,g⟩ e mem (.v (.bool (decide (m<=n)))):=
 lL hx hy λw=>by rw [lM ⟨aD,aD⟩];rfl
theorem ey(hx:ak e x= .v (.int k m))(hy:ak e y= .v (.int k n)):bw P ⟨d,.binOp .gtr t x y t2,ty,pos,af,g⟩ e mem (.v (.bool (decide (n<m)))):=
 lL hx hy λw=>by rw [lM ⟨aD,aD⟩];rfl
theorem mW(hx:ak e x= .v (.int k m))(hy:ak e y= .v (.int k n)):bw P ⟨d,.binOp .geq t x y t2,ty,pos,af,g⟩ e mem (.v (.bool (decide (n<=m)))):=
 lL hx hy λw=>by rw [lM ⟨aD,aD⟩];rfl
theorem zZ(m n:Int):(m==n)=decide (m=n):=by rw [Yl];simp
theorem e6(hx:ak e x= .v (.int k m))(hy:ak e y= .v (.int k n)):bw P ⟨d,.binOp .eql t x y t2,ty,pos,af,g⟩ e mem (.v (.bool (decide (m=n)))):=
 lL hx hy λw=>by rw [lM ⟨aD,aD⟩];simp [Op.intCmp,zZ]
theorem dB(hx:ak e x= .v (.int k m))(hy:ak e y= .v (.int k n)):bw P ⟨d,.binOp .neq t x y t2,ty,pos,af,g⟩ e mem (.v (.bool (!decide (m=n)))):=
 lL hx hy λw=>by rw [lM ⟨aD,aD⟩];simp [Op.intCmp,bne,zZ]
end
theorem A7{op:BinOp}{a b:ByteArray}{c:Value}(hx:ak e x= .v (.string a))(hy:ak e y= .v (.string b))(h:∀ w,(Op.stringOp op a b).run P w= .ok c w)(hop:op≠ .shl /\op≠ .shr):bw P ⟨d,.binOp op t x y t2,ty,pos,af,g⟩ e mem (.v c):=
 qx hx hy λw=>by
  rw [Sem.run_bind,show(eqGuard op t x y (.string a) (.string b)).run P w= .ok () w by unfold eqGuard;split<;>rfl];have:binOp op t (.string a) (.string b)=Op.stringOp op a b:=by cases op<;>simp_all [binOp]
  show(binOp op t (.string a) (.string b)).run P w=_
  rw [this];exact h w
theorem fb{a b:ByteArray}(hx:ak e x= .v (.string a))(hy:ak e y= .v (.string b)):bw P ⟨d,.binOp .eql t x y t2,ty,pos,af,g⟩ e mem (.v (.bool (a.toList==b.toList))):=
 A7 hx hy (λw=>rfl) ⟨aD,aD⟩
theorem eD{a b:ByteArray}(hx:ak e x= .v (.string a))(hy:ak e y= .v (.string b)):bw P ⟨d,.binOp .neq t x y t2,ty,pos,af,g⟩ e mem (.v (.bool (!(a.toList==b.toList)))):=
 A7 hx hy (λw=>rfl) ⟨aD,aD⟩
theorem Jy{op:UnOp}{a c:Value}(hx:ak e x= .v a)(h:∀ w,(Op.unary op a).run P w= .ok c w):bw P ⟨d,.unOp op t x,ty,pos,af,g⟩ e mem (.v c):=
 mf c λev he w=>by rw [SY (he x cE a hx),Sem.run_bind,h w];rfl
theorem IK{m:Int}{k:IntKind}(hx:ak e x= .v (.int k m)):bw P ⟨d,.unOp .neg t x,ty,pos,af,g⟩ e mem (.v (.int k (k.wrap (-m)))):=
 Jy hx λw=>by simp [Op.unary,Op.intArith]
theorem qg{m:Int}(hx:ak e x= .v (.int .i64 m))(h:In64 (-m)):bw P ⟨d,.unOp .neg t x,ty,pos,af,g⟩ e mem (.v (.int .i64 (-m))):=by
 have:=IK (P:=P) (mem:=mem) (d:=d) (ty:=ty) (t:=t) (pos:=pos) (af:=af) (g:=g) hx;rwa [wrap_in h]at this
theorem c8{b:Bool}(hx:ak e x= .v (.bool b)):bw P ⟨d,.unOp .not t x,ty,pos,af,g⟩ e mem (.v (.bool (!b))):=Jy hx λw=>rfl
theorem S7{k k':IntKind}{m:Int}(hx:ak e x= .v (.int k m))(s t:TypeId)(h:∀ w,(convert s t (.int k m)).run P w= .ok (.int k' (k'.wrap m)) w):bw P ⟨d,.convert s t x,ty,pos,af,g⟩ e mem (.v (.int k' (k'.wrap m))):=
 mf _ λev he w=>by rw [Dk (he x cE _ hx),Sem.run_bind,h w];rfl
theorem cI{i:Nat}{l:List AV}(hx:ak e x= .tuple l){r:AV}(hr:l[i]? =some r):bw P ⟨d,.extract x i,ty,pos,af,g⟩ e mem r:=by
 intro pb w0 θ w ev hs h;have h1:=h x cE;rw [hx]at h1;obtain⟨xs,h2,h3,h4⟩:=h1.EE;have hi:i<xs.length:=by rw [h3];exact(Xe.1 hr).1
 rw [LP h2];have:(Instr.extract (.tuple xs.toArray) i)=pure xs[i]:=by
  unfold Instr.extract;simp [hi]
 rw [this];exact⟨h4 i r xs[i] hr (Xd hi),Ext.refl w⟩
def fW(row:Bool)(n:Nat)(l:List AV):AV:=if row then .agg (l.take n)else l.headD .any
def aQ(P:Program)(t:TypeId)(row:Bool)(n:Nat):Prop:=(match P.underlying t with|some d=>some d.isRow|none=>none)=some row/\(P.info? t).map (·.size)=some n
theorem aQ.desc{t:TypeId}{row:Bool}{n:Nat}(h:aQ P t row n):∃ d,P.underlying t=some d/\d.isRow=row:=by
 have:=h.1;cases hu:P.underlying t with
 | none=>rw [hu]at this;cases this
 | some d=>rw [hu]at this;exact⟨d,rfl,by simpa using this⟩
theorem aQ.agg{t:TypeId}{row:Bool}{n:Nat}(h:aQ P t row n)(w:World):(isAgg t).run P w= .ok row w:=by
 obtain⟨d,h1,h2⟩:=h.desc;unfold isAgg;rw [Sem.run_bind,run_underlying h1 w];subst h2;cases d<;>rfl
theorem aQ.sizeOf{t:TypeId}{row:Bool}{n:Nat}(h:aQ P t row n)(w:World):(Go.sizeOf t).run P w= .ok n w:=by
 have:=h.2;cases hq:P.info? t with
 | none=>rw [hq]at this;cases this
 | some i=>rw [hq]at this;simp at this;simp [Go.sizeOf,typeInfo,hq,this]
theorem sQ{θ:List Value}{pr:Nat->Prop}{w:World}{row:Bool}{n:Nat}{cells:List AV}{b o:Nat}{f:Nat->Value}(ht:aQ P t row n)(hn:n<=cells.length)(h1:row=true\/n=1)
 (hc:∀ i,i<cells.length->w.cell? ⟨b,o+i,none⟩=some (f i))(hr:∀ (i:Nat) (a:AV),cells[i]? =some a->R1 θ pr w a (f i)):
 ∃ v,(Instr.loadAt t (.pointer (some ⟨b,o,none⟩))).run P w= .ok v w/\R1 θ pr w (fW row n cells) v:=by
 obtain⟨dd,hu,hrow⟩:=ht.desc;cases row with
 | true=>
  refine⟨_,run_loadAt_mid w b o t ((List.range n).map f) dd (λj v hv=>?_) hu hrow (by rw [ht.2];simp),?_⟩
  ·have hj:j<n:=by have:=(Xe.1 hv).1;simpa using this
   rw [Xh,Yt hj]at hv;simp at hv;subst hv;exact hc j ah
  ·refine .agg _ _ cJ λj a x ha hx=>?_
   have hj:j<n:=by have:=(Xe.1 hx).1;simpa using this
   rw [Xh,Yt hj]at hx;rw [XY hj]at ha;simp at hx;subst hx;exact hr j a ha
 | false=>
  have hn1:n=1:=h1.resolve_left aN;subst hn1;have h0:=hc 0 ah;refine⟨f 0,?_,?_⟩
  ·simp only [Instr.loadAt,Instr.sureAddr,Sem.run_bind,Sem.run_pure,Result.andThen_ok,loadVar,ht.agg,Xi,if_false];rw [Xr]at h0;simp [h0]
  ·cases cells with
   | nil=>simp at hn
   | cons a l=>exact hr 0 a rfl
theorem Ln{n:Nat}{row:Bool}{cells:List AV}(hx:ak e x= .ref cells)(ht:aQ P t row n)(hn:n<=cells.length)(h1:row=true\/n=1):bw P ⟨d,.load t x,ty,pos,af,g⟩ e mem (fW row n cells):=by
 intro pb w0 θ w ev hs h;have h1':=h x cE;rw [hx]at h1';generalize hv:aT ev x=p at h1';cases h1'.getRef with
 | ref _ b o f hb hp hc hr=>
  obtain⟨v,h2,h3⟩:=sQ (t:=t) (θ:=θ) ht hn h1 (λi hi=>hc i _ (Xd hi)) (λi a ha=>.ro (hr i a ha));rw [wu hv,Sem.run_bind,h2];exact⟨h3,Ext.refl w⟩
theorem Lo{j off n:Nat}{row:Bool}{T:TypeId}{cells:List AV}(hx:ak e x= .ptr j off)(hm:mem[j]? =some (.box T cells))(ht:aQ P t row n)(hn:off+n<=cells.length)(h1:row=true\/n=1):
 bw P ⟨d,.load t x,ty,pos,af,g⟩ e mem (fW row n (cells.drop off)):=by
 intro pb w0 θ w ev hs h;have h1':=h x cE;rw [hx]at h1';generalize hv:aT ev x=p at h1';obtain⟨b,v,hθ,hbase,rfl⟩:=h1'.gk;obtain⟨b',xs,h3,rfl,h4,h5,h6⟩:=hs.ob j _ v hm hθ;cases hbase;obtain⟨v,h2,h3⟩:=sQ (P:=P) (t:=t) (θ:=θ) (pr:=aO pb θ mem) (w:=w) (b:=b') (o:=off) (cells:=cells.drop off) (f:=λi=>xs.getD (off+i) undef) ht cJ h1
  (λi hi=>by
   have hlt:off+i<xs.length:=by rw [h5];simp at hi;omega
   rw [cell_of_row w b' (off+i) xs.toArray T (0,0) h4];simp [hlt,Xc])
  (λi a ha=>by
   rw [XH]at ha;have hlt:off+i<xs.length:=by rw [h5];exact(Xe.1 ha).1
   exact h6 (off+i) a _ ha (by simp [hlt,Xc]))
 rw [wu hv,Sem.run_bind,h2];exact⟨h3,Ext.refl w⟩
theorem sU{w:World}{base n k:Nat}{eT:TypeId}{v:Value}{xs:List Value}(h:w.ownsRow base eT k v n xs){b:Nat}(hb:cA v=some b)(j:Nat)(u:Value)(hu:xs[j]? =some u):w.cell? ⟨b,j,none⟩=some u:=by
 rcases h.2 with⟨rfl,_⟩|⟨g,cap,cur,rfl,_⟩
 ·cases hb
 ·cases hb;have:=h.cells (g:=g) rfl j u hu
  rwa [Addr.add_lit,Xl]at this
theorem flat_get{α:Type}{k:Nat}:∀ {els:List (List α)} {i j:Nat} {el:List α},(∀ l∈els,l.length=k)->els[i]? =some el->j<k->els.flatten[i*k+j]? =el[j]?
 | [],i,j,el,_,h,_=>by simp at h
 | l::els,0,j,el,hk,h,hj=>by
  simp at h;subst h;have:=hk l aN;rw [XT,Nat.zero_mul,Xl,Xj ah]
 | l::els,i+1,j,el,hk,h,hj=>by
  have hl:=hk l aN;rw [XT,Xk (by rw [hl,XZ];omega),hl,show(i+1)*k+j - k=i*k+j by rw [XZ];omega];exact flat_get (λl hm=>hk l (by simp [hm])) lK hj
theorem LS{j i n k off:Nat}{row:Bool}{T:TypeId}{els:List (List AV)}{el:List AV}(hx:ak e x= .ptr j off)(hm:mem[j]? =some (.row T k els))(ho:off=i*k)(hel:els[i]? =some el)(ht:aQ P t row n)(hn:n<=k)(h1:row=true\/n=1):
 bw P ⟨d,.load t x,ty,pos,af,g⟩ e mem (fW row n el):=by
 intro pb w0 θ w ev hs h;have h1':=h x cE;rw [hx]at h1';generalize hv:aT ev x=p at h1';obtain⟨b,v,hθ,hbase,rfl⟩:=h1'.gk;obtain⟨xs,h3,_,h4,h5⟩:=hs.ob j _ v hm hθ;have hk:=h4 el (Xp hel);have hlen:xs.length=els.length*k:=h3.1;have hi:i<els.length:=(Xe.1 hel).1;have hle:(i+1)*k<=els.length*k:=Yu k hi;rw [XZ]at hle;obtain⟨v,h2,h3⟩:=sQ (P:=P) (t:=t) (θ:=θ) (pr:=aO pb θ mem) (w:=w) (b:=b) (o:=off) (cells:=el) (f:=λq=>xs.getD (i*k+q) undef) ht ah h1
  (λq hq=>by
   subst ho;have hlt:i*k+q<xs.length:=by omega
   exact sU h3 hbase _ _ (by simp [hlt,Xc]))
  (λq a ha=>by
   have hq:=(Xe.1 ha).1;have hlt:i*k+q<xs.length:=by omega
   exact .ro (h5 (i*k+q) a _ (by rw [flat_get h4 hel ah];exact ha) (by simp [hlt,Xc])))
 rw [wu hv,Sem.run_bind,h2];exact⟨h3,Ext.refl w⟩
end
end Go.Proofs.YtbmlgmblfboigaaGreatDoor
