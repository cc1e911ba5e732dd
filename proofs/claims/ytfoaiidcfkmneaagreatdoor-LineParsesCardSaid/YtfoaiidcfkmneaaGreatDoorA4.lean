/- Lemmas for the statement. -/
import Derived.Test.YtfoaiidcfkmneaaGreatDoorA2
namespace Go.Proofs.YtfoaiidcfkmneaaGreatDoor
open Go Go.RowKit
set_option linter.unusedVariables false
set_option linter.unusedSimpArgs false
section
variable {P:Program} {e:Nat->AV} {mem:List Ob} {d:Option Tmp} {ty t t2:TypeId} {pos:String} {af:Array Edge} {g:Option (Nat×Bool)} {x y z:Operand}
theorem l7{o:Oper}(c:Value)(h:∀ ev:Nat->Value,(∀ x∈o.op.operands,∀ v,al e x= .v v->aZ ev x=v)-> ∀ w,(execOp (aZ ev) o).run P w= .ok (.value c) w):bH P o e mem (.v c):=by
 intro pb w0 θ w ev hs hx;rw [h ev (λx hm v hv=>by have:=hx x hm;rw [hv]at this;exact this.val) w];exact⟨.ro (.v c),Ext.refl w⟩
theorem ak{r:AV}(hx:al e x=r):bH P ⟨d,.move x,ty,pos,af,g⟩ e mem r:=by
 intro pb w0 θ w ev hs h;have:=h x cB;rw [hx]at this;exact⟨this,Ext.refl w⟩
theorem aB{r:AV}(hx:al e x=r):bH P ⟨d,.assign x,ty,pos,af,g⟩ e mem r:=by
 intro pb w0 θ w ev hs h;have:=h x cB;rw [hx]at this;exact⟨this,Ext.refl w⟩
theorem bq{r:AV}(hx:al e x= .v (.bool true))(hy:al e y=r):bH P ⟨d,.pick x y z,ty,pos,af,g⟩ e mem r:=by
 intro pb w0 θ w ev hs h;have h1:=h x cB;have h2:=h y cB;rw [hx]at h1;rw [hy]at h2;rw [Lo (d:=d) (z:=z) h1.val rfl];exact⟨h2,Ext.refl w⟩
theorem br{r:AV}(hx:al e x= .v (.bool false))(hz:al e z=r):bH P ⟨d,.pick x y z,ty,pos,af,g⟩ e mem r:=by
 intro pb w0 θ w ev hs h;have h1:=h x cB;have h2:=h z cB;rw [hx]at h1;rw [hz]at h2;rw [Lp (d:=d) (y:=y) h1.val rfl];exact⟨h2,Ext.refl w⟩
theorem pC{op:BinOp}{a b c:Value}(hx:al e x= .v a)(hy:al e y= .v b)(h:∀ w,(do eqGuard op t x y a b;binOp op t a b:Sem Value).run P w= .ok c w):bH P ⟨d,.binOp op t x y t2,ty,pos,af,g⟩ e mem (.v c):=
 l7 c λev he w=>by
  rw [xJ (he x cB a hx) (he y cB b hy),Sem.run_bind,h w];rfl
section
variable {k:IntKind} {m n:Int}
theorem Bl{op:BinOp}{k k':IntKind}{m n:Int}(w:World):(eqGuard op t x y (.int k m) (.int k' n)).run P w= .ok () w:=by
 unfold eqGuard;split<;>rfl
theorem k6{op:BinOp}{c:Value}(hx:al e x= .v (.int k m))(hy:al e y= .v (.int k n))(h:∀ w,(binOp op t (.int k m) (.int k n)).run P w= .ok c w):bH P ⟨d,.binOp op t x y t2,ty,pos,af,g⟩ e mem (.v c):=
 pC hx hy λw=>by rw [Sem.run_bind,Bl w];exact h w
theorem k7{op:BinOp}(hop:op≠ .shl /\op≠ .shr)(w:World):(binOp op t (.int k m) (.int k n)).run P w=(match op with
 | .add | .sub | .mul =>Op.intArith op k m n
 | .quo | .rem =>Op.intDiv op k m n
 | .and | .or | .xor | .andNot =>Op.intBits op k m n
 | _=>Op.intCmp op m n:Sem Value).run P w:=by
 cases op<;>first|(exact absurd rfl hop.1)|(exact absurd rfl hop.2)|simp [binOp]
theorem qX(hx:al e x= .v (.int k m))(hy:al e y= .v (.int k n)):bH P ⟨d,.binOp .add t x y t2,ty,pos,af,g⟩ e mem (.v (.int k (k.wrap (m+n)))):=
 k6 hx hy λw=>by rw [k7 ⟨aD,aD⟩];rfl
theorem sP(hx:al e x= .v (.int k m))(hy:al e y= .v (.int k n)):bH P ⟨d,.binOp .sub t x y t2,ty,pos,af,g⟩ e mem (.v (.int k (k.wrap (m - n)))):=
 k6 hx hy λw=>by rw [k7 ⟨aD,aD⟩];rfl
theorem zr(hx:al e x= .v (.int k m))(hy:al e y= .v (.int k n)):bH P ⟨d,.binOp .mul t x y t2,ty,pos,af,g⟩ e mem (.v (.int k (k.wrap (m*n)))):=
 k6 hx hy λw=>by rw [k7 ⟨aD,aD⟩];rfl
theorem FU(hx:al e x= .v (.int k m))(hy:al e y= .v (.int k n))(h0:n≠0):bH P ⟨d,.binOp .quo t x y t2,ty,pos,af,g⟩ e mem (.v (.int k (k.wrap (m.tdiv n)))):=
 k6 hx hy λw=>by rw [k7 ⟨aD,aD⟩];simp only [Op.intDiv];rw [if_neg h0];rfl
theorem zt(hx:al e x= .v (.int k m))(hy:al e y= .v (.int k n))(h0:n≠0):bH P ⟨d,.binOp .rem t x y t2,ty,pos,af,g⟩ e mem (.v (.int k (m.tmod n))):=
 k6 hx hy λw=>by rw [k7 ⟨aD,aD⟩];simp only [Op.intDiv];rw [if_neg h0];rfl
-- without a wrap
def In64(n:Int):Prop:= -9223372036854775808<=n/\n<=9223372036854775807
theorem wrap_in{n:Int}(h:In64 n):IntKind.i64.wrap n=n:=by rw [wrap_eq];unfold In64 at h;unfold wrap64;omega
theorem cf(hx:al e x= .v (.int .i64 m))(hy:al e y= .v (.int .i64 n))(h:In64 (m+n)):bH P ⟨d,.binOp .add t x y t2,ty,pos,af,g⟩ e mem (.v (.int .i64 (m+n))):=by
 have:=qX (P:=P) (mem:=mem) (d:=d) (ty:=ty) (t:=t) (t2:=t2) (pos:=pos) (af:=af) (g:=g) hx hy;rwa [wrap_in h]at this
theorem eU(hx:al e x= .v (.int .i64 m))(hy:al e y= .v (.int .i64 n))(h:In64 (m - n)):bH P ⟨d,.binOp .sub t x y t2,ty,pos,af,g⟩ e mem (.v (.int .i64 (m - n))):=by
 have:=sP (P:=P) (mem:=mem) (d:=d) (ty:=ty) (t:=t) (t2:=t2) (pos:=pos) (af:=af) (g:=g) hx hy;rwa [wrap_in h]at this
theorem fA(hx:al e x= .v (.int .i64 m))(hy:al e y= .v (.int .i64 n))(h:In64 (m*n)):bH P ⟨d,.binOp .mul t x y t2,ty,pos,af,g⟩ e mem (.v (.int .i64 (m*n))):=by
 have:=zr (P:=P) (mem:=mem) (d:=d) (ty:=ty) (t:=t) (t2:=t2) (pos:=pos) (af:=af) (g:=g) hx hy;rwa [wrap_in h]at this
theorem OB(hx:al e x= .v (.int .i64 m))(hy:al e y= .v (.int .i64 n))(h0:n≠0)(h:In64 (m.tdiv n)):bH P ⟨d,.binOp .quo t x y t2,ty,pos,af,g⟩ e mem (.v (.int .i64 (m.tdiv n))):=by
 have:=FU (P:=P) (mem:=mem) (d:=d) (ty:=ty) (t:=t) (t2:=t2) (pos:=pos) (af:=af) (g:=g) hx hy h0;rwa [wrap_in h]at this
theorem c6(hx:al e x= .v (.int k m))(hy:al e y= .v (.int k n)):bH P ⟨d,.binOp .lss t x y t2,ty,pos,af,g⟩ e mem (.v (.bool (decide (m<n)))):=
 k6 hx hy λw=>by rw [k7 ⟨aD,aD⟩];rfl
theorem gw(hx:al e x= .v (.int k m))(hy:al e y= .v (.int k n)):bH P ⟨d,.binOp .leq t x y t2,ty,pos,af,g⟩ e mem (.v (.bool (decide (m<=n)))):=
 k6 hx hy λw=>by rw [k7 ⟨aD,aD⟩];rfl
theorem eF(hx:al e x= .v (.int k m))(hy:al e y= .v (.int k n)):bH P ⟨d,.binOp .gtr t x y t2,ty,pos,af,g⟩ e mem (.v (.bool (decide (n<m)))):=
 k6 hx hy λw=>by rw [k7 ⟨aD,aD⟩];rfl
theorem lH(hx:al e x= .v (.int k m))(hy:al e y= .v (.int k n)):bH P ⟨d,.binOp .geq t x y t2,ty,pos,af,g⟩ e mem (.v (.bool (decide (n<=m)))):=
 k6 hx hy λw=>by rw [k7 ⟨aD,aD⟩];rfl
theorem yz(m n:Int):(m==n)=decide (m=n):=by rw [Ud];simp
theorem dN(hx:al e x= .v (.int k m))(hy:al e y= .v (.int k n)):bH P ⟨d,.binOp .eql t x y t2,ty,pos,af,g⟩ e mem (.v (.bool (decide (m=n)))):=
 k6 hx hy λw=>by rw [k7 ⟨aD,aD⟩];simp [Op.intCmp,yz]
theorem fp(hx:al e x= .v (.int k m))(hy:al e y= .v (.int k n)):bH P ⟨d,.binOp .neq t x y t2,ty,pos,af,g⟩ e mem (.v (.bool (!decide (m=n)))):=
 k6 hx hy λw=>by rw [k7 ⟨aD,aD⟩];simp [Op.intCmp,bne,yz]
end
theorem FV{op:BinOp}{a b:ByteArray}{c:Value}(hx:al e x= .v (.string a))(hy:al e y= .v (.string b))(h:∀ w,(Op.stringOp op a b).run P w= .ok c w)(hop:op≠ .shl /\op≠ .shr):bH P ⟨d,.binOp op t x y t2,ty,pos,af,g⟩ e mem (.v c):=
 pC hx hy λw=>by
  rw [Sem.run_bind,show(eqGuard op t x y (.string a) (.string b)).run P w= .ok () w by unfold eqGuard;split<;>rfl];have:binOp op t (.string a) (.string b)=Op.stringOp op a b:=by cases op<;>simp_all [binOp]
  show(binOp op t (.string a) (.string b)).run P w=_
  rw [this];exact h w
theorem cX{a b:ByteArray}(hx:al e x= .v (.string a))(hy:al e y= .v (.string b)):bH P ⟨d,.binOp .eql t x y t2,ty,pos,af,g⟩ e mem (.v (.bool (a.toList==b.toList))):=
 FV hx hy (λw=>rfl) ⟨aD,aD⟩
theorem dS{a b:ByteArray}(hx:al e x= .v (.string a))(hy:al e y= .v (.string b)):bH P ⟨d,.binOp .neq t x y t2,ty,pos,af,g⟩ e mem (.v (.bool (!(a.toList==b.toList)))):=
 FV hx hy (λw=>rfl) ⟨aD,aD⟩
theorem GQ{op:UnOp}{a c:Value}(hx:al e x= .v a)(h:∀ w,(Op.unary op a).run P w= .ok c w):bH P ⟨d,.unOp op t x,ty,pos,af,g⟩ e mem (.v c):=
 l7 c λev he w=>by rw [Ov (he x cB a hx),Sem.run_bind,h w];rfl
theorem FW{m:Int}{k:IntKind}(hx:al e x= .v (.int k m)):bH P ⟨d,.unOp .neg t x,ty,pos,af,g⟩ e mem (.v (.int k (k.wrap (-m)))):=
 GQ hx λw=>by simp [Op.unary,Op.intArith]
theorem se{m:Int}(hx:al e x= .v (.int .i64 m))(h:In64 (-m)):bH P ⟨d,.unOp .neg t x,ty,pos,af,g⟩ e mem (.v (.int .i64 (-m))):=by
 have:=FW (P:=P) (mem:=mem) (d:=d) (ty:=ty) (t:=t) (pos:=pos) (af:=af) (g:=g) hx;rwa [wrap_in h]at this
theorem dT{b:Bool}(hx:al e x= .v (.bool b)):bH P ⟨d,.unOp .not t x,ty,pos,af,g⟩ e mem (.v (.bool (!b))):=GQ hx λw=>rfl
theorem OC{k k':IntKind}{m:Int}(hx:al e x= .v (.int k m))(s t:TypeId)(h:∀ w,(convert s t (.int k m)).run P w= .ok (.int k' (k'.wrap m)) w):bH P ⟨d,.convert s t x,ty,pos,af,g⟩ e mem (.v (.int k' (k'.wrap m))):=
 l7 _ λev he w=>by rw [AZ (he x cB _ hx),Sem.run_bind,h w];rfl
theorem cF{i:Nat}{l:List AV}(hx:al e x= .tuple l){r:AV}(hr:l[i]? =some r):bH P ⟨d,.extract x i,ty,pos,af,g⟩ e mem r:=by
 intro pb w0 θ w ev hs h;have h1:=h x cB;rw [hx]at h1;obtain⟨xs,h2,h3,h4⟩:=h1.BY;have hi:i<xs.length:=by rw [h3];exact(SN.1 hr).1
 rw [IC h2];have:(Instr.extract (.tuple xs.toArray) i)=pure xs[i]:=by
  unfold Instr.extract;simp [hi]
 rw [this];exact⟨h4 i r xs[i] hr (SQ hi),Ext.refl w⟩
def gx(row:Bool)(n:Nat)(l:List AV):AV:=if row then .agg (l.take n)else l.headD .any
def aV(P:Program)(t:TypeId)(row:Bool)(n:Nat):Prop:=(match P.underlying t with|some d=>some d.isRow|none=>none)=some row/\(P.info? t).map (·.size)=some n
theorem aV.desc{t:TypeId}{row:Bool}{n:Nat}(h:aV P t row n):∃ d,P.underlying t=some d/\d.isRow=row:=by
 have:=h.1;cases hu:P.underlying t with
 | none=>rw [hu]at this;cases this
 | some d=>rw [hu]at this;exact⟨d,rfl,by simpa using this⟩
theorem aV.agg{t:TypeId}{row:Bool}{n:Nat}(h:aV P t row n)(w:World):(isAgg t).run P w= .ok row w:=by
 obtain⟨d,h1,h2⟩:=h.desc;unfold isAgg;rw [Sem.run_bind,run_underlying h1 w];subst h2;cases d<;>rfl
theorem aV.sizeOf{t:TypeId}{row:Bool}{n:Nat}(h:aV P t row n)(w:World):(Go.sizeOf t).run P w= .ok n w:=by
 have:=h.2;cases hq:P.info? t with
 | none=>rw [hq]at this;cases this
 | some i=>rw [hq]at this;simp at this;simp [Go.sizeOf,typeInfo,hq,this]
theorem tK{θ:List Value}{pr:Nat->Prop}{w:World}{row:Bool}{n:Nat}{cells:List AV}{b o:Nat}{f:Nat->Value}(ht:aV P t row n)(hn:n<=cells.length)(h1:row=true\/n=1)
 (hc:∀ i,i<cells.length->w.cell? ⟨b,o+i,none⟩=some (f i))(hr:∀ (i:Nat) (a:AV),cells[i]? =some a->R1 θ pr w a (f i)):
 ∃ v,(Instr.loadAt t (.pointer (some ⟨b,o,none⟩))).run P w= .ok v w/\R1 θ pr w (gx row n cells) v:=by
 obtain⟨dd,hu,hrow⟩:=ht.desc;cases row with
 | true=>
  refine⟨_,run_loadAt_mid w b o t ((List.range n).map f) dd (λj v hv=>?_) hu hrow (by rw [ht.2];simp),?_⟩
  ·have hj:j<n:=by have:=(SN.1 hv).1;simpa using this
   rw [SU,UA hj]at hv;simp at hv;subst hv;exact hc j ah
  ·refine .agg _ _ cZ λj a x ha hx=>?_
   have hj:j<n:=by have:=(SN.1 hx).1;simpa using this
   rw [SU,UA hj]at hx;rw [TO hj]at ha;simp at hx;subst hx;exact hr j a ha
 | false=>
  have hn1:n=1:=h1.resolve_left aL;subst hn1;have h0:=hc 0 ah;refine⟨f 0,?_,?_⟩
  ·simp only [Instr.loadAt,Instr.sureAddr,Sem.run_bind,Sem.run_pure,Result.andThen_ok,loadVar,ht.agg,SV,if_false];rw [TS]at h0;simp [h0]
  ·cases cells with
   | nil=>simp at hn
   | cons a l=>exact hr 0 a rfl
theorem Ig{n:Nat}{row:Bool}{cells:List AV}(hx:al e x= .ref cells)(ht:aV P t row n)(hn:n<=cells.length)(h1:row=true\/n=1):bH P ⟨d,.load t x,ty,pos,af,g⟩ e mem (gx row n cells):=by
 intro pb w0 θ w ev hs h;have h1':=h x cB;rw [hx]at h1';generalize hv:aZ ev x=p at h1';cases h1'.getRef with
 | ref _ b o f hb hp hc hr=>
  obtain⟨v,h2,h3⟩:=tK (t:=t) (θ:=θ) ht hn h1 (λi hi=>hc i _ (SQ hi)) (λi a ha=>.ro (hr i a ha));rw [yx hv,Sem.run_bind,h2];exact⟨h3,Ext.refl w⟩
theorem Ih{j off n:Nat}{row:Bool}{T:TypeId}{cells:List AV}(hx:al e x= .ptr j off)(hm:mem[j]? =some (.box T cells))(ht:aV P t row n)(hn:off+n<=cells.length)(h1:row=true\/n=1):
 bH P ⟨d,.load t x,ty,pos,af,g⟩ e mem (gx row n (cells.drop off)):=by
 intro pb w0 θ w ev hs h;have h1':=h x cB;rw [hx]at h1';generalize hv:aZ ev x=p at h1';obtain⟨b,v,hθ,hbase,rfl⟩:=h1'.iC;obtain⟨b',xs,h3,rfl,h4,h5,h6⟩:=hs.ob j _ v hm hθ;cases hbase;obtain⟨v,h2,h3⟩:=tK (P:=P) (t:=t) (θ:=θ) (pr:=aP pb θ mem) (w:=w) (b:=b') (o:=off) (cells:=cells.drop off) (f:=λi=>xs.getD (off+i) undef) ht cZ h1
  (λi hi=>by
   have hlt:off+i<xs.length:=by rw [h5];simp at hi;omega
   rw [cell_of_row w b' (off+i) xs.toArray T (0,0) h4];simp [hlt,SO])
  (λi a ha=>by
   rw [Tj]at ha;have hlt:off+i<xs.length:=by rw [h5];exact(SN.1 ha).1
   exact h6 (off+i) a _ ha (by simp [hlt,SO]))
 rw [yx hv,Sem.run_bind,h2];exact⟨h3,Ext.refl w⟩
theorem xt{w:World}{base n k:Nat}{eT:TypeId}{v:Value}{xs:List Value}(h:w.ownsRow base eT k v n xs){b:Nat}(hb:cH v=some b)(j:Nat)(u:Value)(hu:xs[j]? =some u):w.cell? ⟨b,j,none⟩=some u:=by
 rcases h.2 with⟨rfl,_⟩|⟨g,cap,cur,rfl,_⟩
 ·cases hb
 ·cases hb;have:=h.cells (g:=g) rfl j u hu
  rwa [Addr.add_lit,S0]at this
theorem flat_get{α:Type}{k:Nat}:∀ {els:List (List α)} {i j:Nat} {el:List α},(∀ l∈els,l.length=k)->els[i]? =some el->j<k->els.flatten[i*k+j]? =el[j]?
 | [],i,j,el,_,h,_=>by simp at h
 | l::els,0,j,el,hk,h,hj=>by
  simp at h;subst h;have:=hk l aL;rw [Uh,Nat.zero_mul,S0,SX ah]
 | l::els,i+1,j,el,hk,h,hj=>by
  have hl:=hk l aL;rw [Uh,S1 (by rw [hl,TV];omega),hl,show(i+1)*k+j - k=i*k+j by rw [TV];omega];exact flat_get (λl hm=>hk l (by simp [hm])) kD hj
theorem IE{j i n k off:Nat}{row:Bool}{T:TypeId}{els:List (List AV)}{el:List AV}(hx:al e x= .ptr j off)(hm:mem[j]? =some (.row T k els))(ho:off=i*k)(hel:els[i]? =some el)(ht:aV P t row n)(hn:n<=k)(h1:row=true\/n=1):
 bH P ⟨d,.load t x,ty,pos,af,g⟩ e mem (gx row n el):=by
 intro pb w0 θ w ev hs h;have h1':=h x cB;rw [hx]at h1';generalize hv:aZ ev x=p at h1';obtain⟨b,v,hθ,hbase,rfl⟩:=h1'.iC;obtain⟨xs,h3,_,h4,h5⟩:=hs.ob j _ v hm hθ;have hk:=h4 el (S9 hel);have hlen:xs.length=els.length*k:=h3.1;have hi:i<els.length:=(SN.1 hel).1;have hle:(i+1)*k<=els.length*k:=UB k hi;rw [TV]at hle;obtain⟨v,h2,h3⟩:=tK (P:=P) (t:=t) (θ:=θ) (pr:=aP pb θ mem) (w:=w) (b:=b) (o:=off) (cells:=el) (f:=λq=>xs.getD (i*k+q) undef) ht ah h1
  (λq hq=>by
   subst ho;have hlt:i*k+q<xs.length:=by omega
   exact xt h3 hbase _ _ (by simp [hlt,SO]))
  (λq a ha=>by
   have hq:=(SN.1 ha).1;have hlt:i*k+q<xs.length:=by omega
   exact .ro (h5 (i*k+q) a _ (by rw [flat_get h4 hel ah];exact ha) (by simp [hlt,SO])))
 rw [yx hv,Sem.run_bind,h2];exact⟨h3,Ext.refl w⟩
end
end Go.Proofs.YtfoaiidcfkmneaaGreatDoor
