/- Texts of this claim, one behind the other: lemmas for the statement. -/
import Derived.Test.YtbmlgmblfboigaaGreatDoorA16
import Derived.Laws.Concat
import Derived.Laws.IdiomStrings
set_option linter.unusedSimpArgs false
set_option linter.unusedVariables false
namespace Go.Proofs.YtbmlgmblfboigaaGreatDoor
open Go Go.RowKit Go.Proofs
section
variable {P:Program}
theorem By{α β:Type}{f:α->List β}{k:Nat}(h:∀ a,(f a).length =k){xs:List α}:∀ l∈xs.map f,l.length=k:=λl hl=>by
 obtain⟨q,_,rfl⟩:=TW.1 hl;exact h q
end
section
variable {P:Program} {e:Nat->AV} {mem:List Ob} {d:Option Tmp} {ty t t2:TypeId} {pos:String} {af:Array Edge} {g:Option (Nat×Bool)} {x y:Operand}
end
end Go.Proofs.YtbmlgmblfboigaaGreatDoor
namespace Go.Proofs.YtbmlgmblfboigaaGreatDoor
open Go Go.RowKit Go.Proofs
section
variable {P:Program} {N:Nat} {Q:AQ} {e:Nat->AV} {mem:List Ob}
end
end Go.Proofs.YtbmlgmblfboigaaGreatDoor
namespace Go.Proofs.YtbmlgmblfboigaaGreatDoor
open Go Go.RowKit Go.Proofs
section
variable {P:Program} {N:Nat} {Q:AQ} {e:Nat->AV} {mem:List Ob}
theorem As{pb:Nat->Prop}{w0:Bs}{w:World}{θ:List Value}(hsim:bX pb w0 w θ mem){j eT k:Nat}{els:List (List AV)}{x:Value}(hm:mem[j]? =some (.row eT k els))(hθ:θ[j]? =some x):R0 (aM pb θ (mem.set j .gone)) w (.row k els) x:=by
 obtain⟨xs,h1,h2,h3,h4⟩:=hsim.ob j _ x hm hθ;rcases id h1.2 with⟨hx,h0⟩|⟨g,cap,cur,hx,hg,hh,hn,hr2⟩
 ·have:els= []:=Ub h0;subst this;subst hx;exact(.nil _ _ _)
 ·subst hx
  by_cases hne:els= []
  ·subst hne;exact(.nil _ _ _)
  ·have hfl:els.flatten.length=els.length*k:=fm h3;have hxl:=h1.1;refine(.row k els g 0 cap (λi=>xs.getD i undef) hne hn h3 (TL.1 hh).1 (aM.dropped hsim hm (by simp) hθ rfl) (λi a ha=>?_) λi a ha=>?_)
   ·have hi:i<xs.length:=by rw [hxl, <- hfl];exact(S9.1 ha).1
    have:=so h1 (b:=g) rfl i (xs.getD i undef) (by simp [hi,Ta])
    rwa [Tv]
   ·have hi:i<xs.length:=by rw [hxl, <- hfl];exact(S9.1 ha).1
    have:=h4 i a (xs.getD i undef) ha (by simp [hi,Ta]);exact this.mono (Tf _) (λ_ _ _=>rfl) (Step.drop hsim j).np
theorem Ik{M:Mode}{c:Code}{s j k o eT kk:Nat}{T:TypeId}{cells:List AV}{els:List (List AV)}(hs:ag e (.tmp s)= .ptr j 0)(hm:mem[j]? =some (.box T cells))(hk:mem[k]? =some (.row eT kk els))(hjk:k≠j)(ho:cells[o]? =some (.own k))(hro:cm.roL (cells.set o (.row kk els))=true)
 (h:∀ m1 e1,m1=(mem.set k .gone).set j .gone ->e1=aR e (some s) (.ref (cells.set o (.row kk els)))->AW M P N c Q e1 m1):AW M P N c Q e mem:=by
 refine D7 (λpb w0 θ w hsim=>?_) (h _ _ rfl rfl);have D1:=Step.drop hsim k;have D2:=Step.drop D1.sim j;have hm2:(mem.set k .gone)[j]? =some (.box T cells):=by rw [Tz hjk];exact hm
 refine⟨θ,⟨D2.sim,λa x hr=>D2.keep _ _ (D1.keep _ _ hr),Tf _,λ_ _ _=>rfl,λb hb hp=>D2.np b hb (D1.np b hb hp)⟩,λt x hr=>?_⟩
 by_cases ht:t=s
 ·subst ht;rw [show e t= .ptr j 0 from hs]at hr;simp only [aR,if_true];obtain⟨b,y,hθ,hbase,rfl⟩:=hr.fC;obtain⟨b',xs,h1,rfl,h2,h3,h4⟩:=hsim.ob j _ y hm hθ;cases hbase;refine .ro (.ref _ b' 0 (λi=>xs.getD i undef) (TL.1 h2).1 (aM.dropped D1.sim hm2 (by simp) hθ rfl) (λi a ha=>?_) λi a ha=>?_)
  ·have hi:i<xs.length:=by rw [h3];have:=(S9.1 ha).1;simpa using this
   rw [Tv,cell_of_row w b' i xs.toArray T (0,0) h2];simp [hi,Ta]
  ·have hi:i<xs.length:=by rw [h3];have:=(S9.1 ha).1;simpa using this
   by_cases hio:o=i
   ·subst hio;rw [TC (by rw [<- h3];exact hi)]at ha;cases ha;have hx:=(h4 o _ (xs.getD o undef) ho (by simp [hi,Ta])).gy;exact(As hsim hk hx).mono (Tf _) (λ_ _ _=>rfl) D2.np
   ·have ha':=ha;rw [Tz hio]at ha;have:=h4 i a (xs.getD i undef) ha (by simp [hi,Ta]);exact(D2.keep _ _ (D1.keep _ _ this)).gW (ga hro ha')
 ·simp only [aR,if_neg ht];exact D2.keep _ _ (D1.keep _ _ hr)
end
end Go.Proofs.YtbmlgmblfboigaaGreatDoor
namespace Go.Proofs.YtbmlgmblfboigaaGreatDoor
open Go Go.RowKit Go.Proofs
section
variable {P:Program} {e:Nat->AV} {mem:List Ob} {d:Option Tmp} {x:Operand} {ty:TypeId} {pos:String} {af:Array Edge} {g:Option (Nat×Bool)}
theorem bC{j o:Nat}(hx:ag e x= .ptr j o):bm P ⟨d,.nilCheck x,ty,pos,af,g⟩ e mem (.ptr j o):=by
 intro pb w0 θ w ev hs h;have h1:=h x (by simp [Op.operands]);rw [hx]at h1;have h2:=h1;obtain⟨b,y,hθ,hbase,hy⟩:=h1.fC;rw [hy]at h2;unfold execOp;simp only [hy];exact⟨h2,Ext.refl w⟩
theorem fh{c:List AV}(hx:ag e x= .ref c):bm P ⟨d,.nilCheck x,ty,pos,af,g⟩ e mem (.ref c):=by
 intro pb w0 θ w ev hs h;have h1:=h x (by simp [Op.operands]);rw [hx]at h1;have h2:=h1;generalize hv:aO ev x=v at h1 h2;cases h1.getRef with
 | ref _ b o f hb hp hc hr=>
  unfold execOp;simp only [hv];exact⟨h2,Ext.refl w⟩
end
end Go.Proofs.YtbmlgmblfboigaaGreatDoor
namespace Go.Proofs.YtbmlgmblfboigaaGreatDoor
open Go Go.RowKit Go.Proofs
def dp(n:Int):Prop:=0<=n/\n<18446744073709551616
theorem qt{n:Int}(h:dp n):IntKind.u64.wrap n=n:=by
 unfold dp at h
 show n%(18446744073709551616:Int)=n
 omega
theorem Lt(n:Int):IntKind.u64.wrap n=n%18446744073709551616:=rfl
section
variable {P:Program} {e:Nat->AV} {mem:List Ob} {d:Option Tmp} {x y:Operand} {t t2 ty:TypeId} {pos:String} {af:Array Edge} {g:Option (Nat×Bool)} {k k':IntKind} {m n:Int}
theorem RJ{op:BinOp}(hx:ag e x= .v (.int k m))(hy:ag e y= .v (.int k' n)){c:Value}(h:∀ w,(binOp op t (.int k m) (.int k' n)).run P w= .ok c w):bm P ⟨d,.binOp op t x y t2,ty,pos,af,g⟩ e mem (.v c):=
 nN hx hy λw=>by rw [Sem.run_bind,Ao w];exact h w
theorem pH{c:Int}(hx:ag e x= .v (.int k m))(hy:ag e y= .v (.int k' n))(h0:0<=n)(hc:((2^(min n.toNat k.bits):Nat):Int)=c):bm P ⟨d,.binOp .shr t x y t2,ty,pos,af,g⟩ e mem (.v (.int k (m/c))):=
 RJ hx hy λw=>by
  subst hc;simp only [binOp,Op.shift];rw [if_neg (by omega)];have:m.fdiv (2^min n.toNat k.bits)=m/((2^min n.toNat k.bits:Nat):Int):=by
   rw [Int.fdiv_eq_ediv_of_nonneg _ (by exact_mod_cast TO _)]
   norm_cast
  rw [this];rfl
theorem OU{m:Int}(h:dp m)(c:Nat)(hc:c<=64):IntKind.u64.wrap ((BitVec.ofInt 64 m &&& BitVec.ofInt 64 (2^c - 1:Nat)).toNat :Nat)=m%((2^c:Nat):Int):=by
 obtain⟨h0,h1⟩:=h;obtain⟨q,rfl⟩:=Int.eq_ofNat_of_zero_le h0;have hq:q<2^64:=by omega
 have e1:(BitVec.ofInt 64 (q:Int)).toNat =q:=by
  rw [BitVec.ofInt_natCast,BitVec.toNat_ofNat,Nat.mod_eq_of_lt hq]
 have hp:2^c<=2^64:=Nat.pow_le_pow_right (by decide) hc;have hp0:0<2^c:=Nat.pow_pos (by decide);have e2:(BitVec.ofInt 64 ((2^c - 1:Nat):Int)).toNat =2^c - 1:=by
  rw [BitVec.ofInt_natCast,BitVec.toNat_ofNat,Nat.mod_eq_of_lt (by omega)]
 rw [BitVec.toNat_and,e1,e2,Nat.and_two_pow_sub_one_eq_mod];have h3:=Nat.mod_le q (2^c);rw [qt ⟨Int.natCast_nonneg _,by omega⟩];exact Int.natCast_emod q (2^c)
theorem xz{c:Int}(hx:ag e x= .v (.int .u64 m))(hy:ag e y= .v (.int .u64 n))(c0:Nat)(hn:n=((2^c0 - 1:Nat):Int))(hc0:c0<=64)(hc:((2^c0:Nat):Int)=c)(h:dp m):bm P ⟨d,.binOp .and t x y t2,ty,pos,af,g⟩ e mem (.v (.int .u64 (m%c))):=
 jV hx hy λw=>by
  subst hc;subst hn;rw [jW ⟨by decide,by decide⟩]
  show(Op.intBits .and .u64 m _).run P w=_
  have:=OU h c0 hc0;unfold Op.intBits;rw [<- this];rfl
theorem tB(hx:ag e x= .v (.int .u64 m))(hy:ag e y= .v (.int .u64 n))(h:dp (m+n)):bm P ⟨d,.binOp .add t x y t2,ty,pos,af,g⟩ e mem (.v (.int .u64 (m+n))):=by
 have:=pD (P:=P) (mem:=mem) (d:=d) (ty:=ty) (t:=t) (t2:=t2) (pos:=pos) (af:=af) (g:=g) hx hy;rwa [qt h]at this
theorem tC(hx:ag e x= .v (.int .u64 m))(hy:ag e y= .v (.int .u64 n))(h:dp (m*n)):bm P ⟨d,.binOp .mul t x y t2,ty,pos,af,g⟩ e mem (.v (.int .u64 (m*n))):=by
 have:=yn (P:=P) (mem:=mem) (d:=d) (ty:=ty) (t:=t) (t2:=t2) (pos:=pos) (af:=af) (g:=g) hx hy;rwa [qt h]at this
theorem OV(hx:ag e x= .v (.int .u64 m))(hy:ag e y= .v (.int .u64 n))(h0:n≠0)(h:dp m/\0<=n):bm P ⟨d,.binOp .quo t x y t2,ty,pos,af,g⟩ e mem (.v (.int .u64 (m/n))):=by
 have:=E9 (P:=P) (mem:=mem) (d:=d) (ty:=ty) (t:=t) (t2:=t2) (pos:=pos) (af:=af) (g:=g) hx hy h0;obtain⟨⟨h1,h2⟩,h3⟩:=h;rw [Int.tdiv_eq_ediv_of_nonneg h1,qt]at this
 ·exact this
 ·exact⟨Int.ediv_nonneg h1 h3,Int.lt_of_le_of_lt (Int.ediv_le_self _ h1) h2⟩
theorem OW(hx:ag e x= .v (.int .u64 m))(hy:ag e y= .v (.int .u64 n))(h0:n≠0)(h:dp m/\0<=n):bm P ⟨d,.binOp .rem t x y t2,ty,pos,af,g⟩ e mem (.v (.int .u64 (m%n))):=by
 have:=ra (P:=P) (mem:=mem) (d:=d) (ty:=ty) (t:=t) (t2:=t2) (pos:=pos) (af:=af) (g:=g) hx hy h0
 rwa [Int.tmod_eq_emod_of_nonneg h.1.1]at this
theorem yX(hx:ag e x= .v (.int k m))(hs:(P.underlying t).isSome =true)(hd:P.underlying t2=some (.int k')):bm P ⟨d,.convert t t2 x,ty,pos,af,g⟩ e mem (.v (.int k' (k'.wrap m))):=
 OK hx t t2 λw=>by
  have hk:P.intKind t2=k':=by unfold Program.intKind;rw [hd]
  have:=run_convert_int (P:=P) w t t2 k m hs (by rw [hk];exact hd)
  rwa [hk]at this
theorem uE(hx:ag e x= .v (.int k m))(hs:(P.underlying t).isSome =true)(hd:P.underlying t2=some (.int .u64))(h:dp m):bm P ⟨d,.convert t t2 x,ty,pos,af,g⟩ e mem (.v (.int .u64 m)):=by
 have:=yX (mem:=mem) (d:=d) (ty:=ty) (pos:=pos) (af:=af) (g:=g) hx hs hd;rwa [qt h]at this
theorem Ff(hx:ag e x= .v (.int k m))(hs:(P.underlying t).isSome =true)(hd:P.underlying t2=some (.int .i64))(h:In64 m):bm P ⟨d,.convert t t2 x,ty,pos,af,g⟩ e mem (.v (.int .i64 m)):=by
 have:=yX (mem:=mem) (d:=d) (ty:=ty) (pos:=pos) (af:=af) (g:=g) hx hs hd;rwa [wrap_in h]at this
end
end Go.Proofs.YtbmlgmblfboigaaGreatDoor
namespace Go.Proofs.YtbmlgmblfboigaaGreatDoor
open Go Go.RowKit Go.Proofs
theorem size_mk(l:List UInt8):(⟨l.toArray⟩:ByteArray).size =l.length:=rfl
def l7(n:Int):Prop:=0<=n/\n<256
theorem Lu{n:Int}(h:l7 n):IntKind.u8.wrap n=n:=by
 unfold l7 at h
 show n%(256:Int)=n
 omega
section
variable {P:Program} {N:Nat} {Q:AQ} {e:Nat->AV} {mem:List Ob} {d:Option Tmp} {ty t t2:TypeId} {pos:String} {af:Array Edge} {g:Option (Nat×Bool)} {x y z:Operand}
theorem fB{a b:ByteArray}(hx:ag e x= .v (.string a))(hy:ag e y= .v (.string b))(h:a.size+b.size<=9223372036854775807):bm P ⟨d,.binOp .add t x y t2,ty,pos,af,g⟩ e mem (.v (.string (a++b))):=
 yo hx hy (λw=>run_string_add_sum w a b h) ⟨by decide,by decide⟩
theorem Fg{k:IntKind}{m:Int}(hx:ag e x= .v (.int k m))(hs:(P.underlying t).isSome =true)(hd:P.underlying t2=some (.int .u8))(h:l7 m):bm P ⟨d,.convert t t2 x,ty,pos,af,g⟩ e mem (.v (.int .u8 m)):=by
 have:=yX (mem:=mem) (d:=d) (ty:=ty) (pos:=pos) (af:=af) (g:=g) hx hs hd;rwa [Lu h]at this
theorem Fh{src dst eT:TypeId}{m:Int}(h1:P.underlying src=some (.slice eT))(h2:P.underlying dst=some .string)(h3:P.underlying eT=some (.int .u8))(hx:ag e x= .row 1 [[.v (.int .u8 m)]])(hm:l7 m):bm P ⟨d,.convert src dst x,ty,pos,af,g⟩ e mem (.v (.string ⟨#[UInt8.ofNat m.toNat]⟩)):=by
 intro pb w0 θ w ev hs h;have h4:=h x (by simp [Op.operands]);rw [hx]at h4;have h5:R0 (aM pb θ mem) w (.row 1 [[.v (.int .u8 m)]]) (aO ev x):=by cases h4;assumption
 generalize hv:aO ev x=v at h5;clear h4;cases h5 with
 | row _ _ b o cp f q1 q2 q3 q4 q5 q6 q7=>
  have c0:=q6 0 (.v (.int .u8 m)) rfl;have r0:=q7 0 (.v (.int .u8 m)) rfl;have e0:f 0= .int .u8 m:=by
   generalize f 0=v at r0;cases r0;rfl
  rw [vP hv,Sem.run_bind];have hb:=run_convert_bytes_back (P:=P) w src dst eT ⟨b,o,none⟩ cp [UInt8.ofNat m.toNat] h1 h3 h2 (λj hj=>by
   have hj0:j=0:=by simpa using hj
   subst hj0;have:(⟨b,o,none⟩:Addr).add 0=⟨b,o+0,none⟩:=rfl;rw [this,c0,e0];have hz:((UInt8.ofNat m.toNat).toNat :Int)=m:=by
    rw [UInt8.toNat_ofNat'];unfold l7 at hm;omega
   show some (Value.int .u8 m)=some (.int .u8 ((UInt8.ofNat m.toNat).toNat :Int))
   rw [hz])
  have:([[AV.v (.int .u8 m)]]:List (List AV)).length = [UInt8.ofNat m.toNat].length :=rfl;rw [this,hb];exact⟨.ro (.v _),Ext.refl w⟩
theorem OX{s:ByteArray}{a:Int}{ka:IntKind}(hx:ag e x= .v (.string s))(hy:ag e y= .v (.int ka a))(hu:P.underlying t=some .string)(h0:0<=a)(h1:a<=s.size):
 bm P ⟨d,.slice t x (some y) none none,ty,pos,af,g⟩ e mem (.v (.string (s.extract a.toNat s.size))):=by
 obtain⟨a,rfl⟩:∃ n:Nat,a=n:=⟨a.toNat,by omega⟩;have h1:a<=s.size:=by omega
 refine ko _ λev he w=>?_
 rw [zW (he x (by simp [Op.operands]) _ hx) (he y (by simp [Op.operands]) _ hy),Sem.run_bind];simp [Instr.sliceAt,run_underlying hu,Instr.slice,Instr.sliceBounds,Instr.sliceBound,asIntOf,h1,Sem.run_bind]
theorem OY{s:ByteArray}{b:Int}{kb:IntKind}(hx:ag e x= .v (.string s))(hz:ag e z= .v (.int kb b))(hu:P.underlying t=some .string)(h0:0<=b)(h1:b<=s.size):
 bm P ⟨d,.slice t x none (some z) none,ty,pos,af,g⟩ e mem (.v (.string (s.extract 0 b.toNat))):=by
 obtain⟨b,rfl⟩:∃ n:Nat,b=n:=⟨b.toNat,by omega⟩;have h1:b<=s.size:=by omega
 refine ko _ λev he w=>?_
 rw [zX (he x (by simp [Op.operands]) _ hx) (he z (by simp [Op.operands]) _ hz),Sem.run_bind];simp [Instr.sliceAt,run_underlying hu,Instr.slice,Instr.sliceBounds,Instr.sliceBound,asIntOf,h1,Sem.run_bind]
def isIf:Option TypeDesc->Bool
 | some (.interface _)=>true
 | _=>false
theorem qj{o:Option TypeDesc}(h:isIf o=true):∃ ms,o=some (.interface ms):=by
 cases o with
 | none=>cases h
 | some q=>cases q<;>first|exact⟨_,rfl⟩|(simp [isIf]at h;done)
theorem Lx(hx:ag e x= .v .nilIface)(hi:isIf (P.underlying t)=true):bm P ⟨d,.binOp .eql t x (.const .nilIface) t2,ty,pos,af,g⟩ e mem (.v (.bool true)):=
 nN hx rfl λw=>by
  obtain⟨ms,hu⟩:=qj hi;have:(Op.equalIn (Op.maxDepth - 1+1) t .nilIface .nilIface).run P w= .ok true w:=by
   unfold Op.equalIn;simp [Sem.run_bind,run_underlying hu]
  have h2:Op.maxDepth - 1+1=Op.maxDepth:=rfl;rw [h2]at this;simp [eqGuard,binOp,Op.equal,Sem.run_bind,this]
theorem Ly{te:TypeId}{pe:Value}(hx:ag e x= .v (.iface te pe))(hi:isIf (P.underlying t)=true):bm P ⟨d,.binOp .eql t x (.const .nilIface) t2,ty,pos,af,g⟩ e mem (.v (.bool false)):=
 nN hx rfl λw=>by
  obtain⟨ms,hu⟩:=qj hi;have:(Op.equalIn (Op.maxDepth - 1+1) t (.iface te pe) .nilIface).run P w= .ok false w:=by
   unfold Op.equalIn;simp [Sem.run_bind,run_underlying hu]
  have h2:Op.maxDepth - 1+1=Op.maxDepth:=rfl;rw [h2]at this;simp [eqGuard,binOp,Op.equal,Sem.run_bind,this]
def Gi(P:Program)(o:Oper)(e:Nat->AV)(mem:List Ob)(Ψ:AV->Prop):Prop:=
 ∀ (pb:Nat->Prop) (w0:Bs) (θ:List Value) (w:World) (ev:Nat->Value),bX pb w0 w θ mem->(∀ x∈o.op.operands,R1 θ (aM pb θ mem) w (ag e x) (aO ev x))->
  da P (λv w'=>∃ r,Ψ r/\R1 θ (aM pb θ mem) w' r v/\Ext w w') ((execOp (aO ev) o).run P w)
theorem QG{ops:Array Oper}{l:List Oper}{o:Oper}{Ψ:AV->Prop}(ho:Gi P o e mem Ψ)(hg:Gd ops o e)(hd:dy N o.dst=true)(h:∀ r,Ψ r->AL P N ops l Q (aR e o.dst r) mem):AL P N ops (o::l) Q e mem:=by
 intro pb w0 θ a w hf
 show(if Region.wanted o (yielded ops a.tmps)then _ else _)
 rw [if_pos (lG hf hg)];refine .inl (Oper.vU (φ:=λv w'=>∃ r,Ψ r/\R1 θ (aM pb θ mem) w' r v/\Ext w w') ?_ ?_)
 ·rintro v w' ⟨r,h0,h1,h2⟩;have hs:=Step.ext hf.sim h2;exact jh (λ_ _ _ hq=>hq.after hs) (h r h0 pb w0 θ _ w' (hf.put hs hd h1))
 ·rw [fK];exact ho pb w0 θ w _ hf.sim λx _=>iV hf x
theorem Jb{gs:List (Nat×List AV)}{f:FuncId}{as:Array Operand}{ts:Array TypeId}{args:List AV}{Ψ:AV->Prop}(hargs:cT e as.toList=args)(hro:cm.roL args=true){j:Nat}(hg:mem[j]? =some (.bL gs))(hc:gk P gs f args Ψ)(dV:∀ args w,(callFunc f args).run P w= .ok (.enter f args) w):
 Gi P ⟨d,.call ⟨.value (.func f),as,ts⟩,ty,pos,af,g⟩ e mem Ψ:=by
 intro pb w0 θ w ev hs h;have hvs:(as.toList.map (aO ev)).length =args.length:=by rw [<- hargs];simp [cT]
 rw [km (f:=.func (.func f) #[] #[]) rfl rfl];refine oL dV ((hc (aM pb θ mem) w _ hvs (λi a v ha hv=>?_) (λx hx=>?_)).mono ?_)
 ·have ha':=ha;rw [<- hargs,cT,Tm]at ha';rw [Tm]at hv;cases hx:as.toList[i]? with
  | none=>rw [hx]at hv;cases hv
  | some x=>
   rw [hx]at ha' hv;simp at ha' hv;subst ha' hv;have hmem:x∈as:=by have:=TD hx;simpa using this
   exact(h x (by simp [Op.operands,Call.operands,hmem])).gW (ga hro ha)
 ·exact hs.bL hg x hx
 ·rintro en w' ⟨q,v,he,h3,h4,h5⟩;exact⟨v,he,q,h3,.ro (R0.back hs h4),h5⟩
end
end Go.Proofs.YtbmlgmblfboigaaGreatDoor
namespace Go.Proofs.YtbmlgmblfboigaaGreatDoor
open Go Go.RowKit Go.Proofs
set_option maxRecDepth 100000
set_option maxHeartbeats 1000000
section
variable {P:Program} {e:Nat->AV} {mem:List Ob} {d:Option Tmp} {ty t:TypeId} {pos:String} {af:Array Edge} {g:Option (Nat×Bool)} {x y:Operand}
theorem QH{els:List (List AV)}{k bytes eT:Nat}{zv:Value}{n:Int}{kn:IntKind}(hty:bI P t eT k bytes zv)(hx:ag e x= .row k els)(hy:ag e y= .v (.int kn n))(h0:0<=n)(hn:n<=els.length):
 bm P ⟨d,.slice t x (some y) none none,ty,pos,af,g⟩ e mem (.row k (els.drop n.toNat)):=by
 obtain⟨row,ht⟩:=hty.vi;have hu:=hty.1;obtain⟨a,rfl⟩:∃ q:Nat,n=q:=⟨n.toNat,by omega⟩;obtain⟨b,hbl⟩:∃ b,b=els.length:=⟨_,rfl⟩;have h1:a<=b:=by omega
 have h2:b<=els.length:=by omega
 simp only [Td];rw [show els.drop a=(els.take b).drop a by rw [hbl,Uz]];intro pb w0 θ w ev hs h;have h1':=h x (by simp [Op.operands]);have h2':=h y (by simp [Op.operands]);rw [hx]at h1';rw [hy]at h2';generalize hv:aO ev x=p at h1';rw [zW hv h2'.val,Sem.run_bind];have run:∀ (A:Option Addr) (c:Nat),els.length<=c->(Instr.sliceAt t (.slice A els.length c) (some (.int kn (a:Int))) none none).run P w= .ok (.slice (if c=a then A else A.map (·.add (a*k))) (b - a) (c - a)) w:=by
  intro A c hc;have hb:b<=c:=by omega
  have ha:a<=els.length:=by omega
  subst hbl;simp [Instr.sliceAt,run_underlying hu,Instr.slice,Instr.sliceBounds,Instr.sliceBound,asIntOf,hb,h1,ha,ht.sizeOf,Sem.run_bind]
 cases h1'.getRow with
 | nil=>
  have ha:a=0:=by simp at h2;omega
  have hb:b=0:=by simp at h2;omega
  subst ha hb;have:=run (by assumption) (by assumption) (by simp);simp only [Tq]at this;rw [this];refine⟨.ro ?_,Ext.refl w⟩;simp;exact .nil _ _ _
 | row _ _ bb o c f hne hc hk hb hp hcell hr=>
  rw [run _ _ hc];refine⟨.ro ?_,Ext.refl w⟩;have hlen:((els.take b).drop a).length =b - a:=by simp;omega
  have key:∀ i a',((els.take b).drop a).flatten[i]? =some a'->els.flatten[a*k+i]? =some a':=by
   intro i a' hi;have e1:els=els.take a++((els.take b).drop a++els.drop b):=by
    have e2:els.take a=(els.take b).take a:=by rw [Uj,Ua (by omega)]
    rw [e2, <- TZ,UA,UA]
   rw [e1,UN,Tu (by rw [fm (λl hl=>hk l (Uy hl))];simp;rw [Ua (by omega)];omega),
    fm (λl hl=>hk l (Uy hl)),UN]
   have e3:a*k+i - (els.take a).length *k=i:=by
    rw [T8,Ua (by omega)];omega
   rw [e3,Tt (S9.1 hi).1];exact hi
  by_cases hempty:b - a=0
  ·have:(els.take b).drop a= []:=Ub (by omega);rw [this,hempty];exact .nil _ _ _
  ·rw [if_neg (by omega), <- hlen]
   show R0 _ _ _ (.slice (some ((⟨bb,o,none⟩:Addr).add (a*k))) _ _)
   rw [rb];refine .row k _ bb (o+a*k) _ (λi=>f (a*k+i)) (λh0=>by rw [h0]at hlen;simp at hlen;omega) (by omega) (λl hl=>hk l (Uy (List.mem_of_mem_drop hl))) hb hp (λi a' hi=>?_) (λi a' hi=>?_)
   ·rw [Ud];exact hcell _ a' (key i a' hi)
   ·exact hr _ a' (key i a' hi)
theorem QI{els:List (List AV)}{k bytes eT:Nat}{zv:Value}{n:Int}{kn:IntKind}(hty:bI P t eT k bytes zv)(hx:ag e x= .row k els)(hy:ag e y= .v (.int kn n))(h0:0<=n)(hn:n<=els.length):
 bm P ⟨d,.slice t x none (some y) none,ty,pos,af,g⟩ e mem (.row k (els.take n.toNat)):=by
 obtain⟨row,ht⟩:=hty.vi;have hu:=hty.1;obtain⟨b,rfl⟩:∃ q:Nat,n=q:=⟨n.toNat,by omega⟩;obtain⟨a,ha0⟩:∃ a,a=0:=⟨0,rfl⟩;have h1:a<=b:=by omega
 have h2:b<=els.length:=by omega
 simp only [Td];rw [show els.take b=(els.take b).drop a by rw [ha0,UZ]];intro pb w0 θ w ev hs h;have h1':=h x (by simp [Op.operands]);have h2':=h y (by simp [Op.operands]);rw [hx]at h1';rw [hy]at h2';generalize hv:aO ev x=p at h1';rw [zX hv h2'.val,Sem.run_bind];have run:∀ (A:Option Addr) (c:Nat),els.length<=c->(Instr.sliceAt t (.slice A els.length c) none (some (.int kn (b:Int))) none).run P w= .ok (.slice (if c=a then A else A.map (·.add (a*k))) (b - a) (c - a)) w:=by
  intro A c hc;have hb:b<=c:=by omega
  subst ha0;simp [Instr.sliceAt,run_underlying hu,Instr.slice,Instr.sliceBounds,Instr.sliceBound,asIntOf,hb,h1,ht.sizeOf,Sem.run_bind]
  try (cases A<;>simp [Addr.add])
 cases h1'.getRow with
 | nil=>
  have ha:a=0:=by simp at h2;omega
  have hb:b=0:=by simp at h2;omega
  subst ha hb;have:=run (by assumption) (by assumption) (by simp);simp only [Tq]at this;rw [this];refine⟨.ro ?_,Ext.refl w⟩;simp;exact .nil _ _ _
 | row _ _ bb o c f hne hc hk hb hp hcell hr=>
  rw [run _ _ hc];refine⟨.ro ?_,Ext.refl w⟩;have hlen:((els.take b).drop a).length =b - a:=by simp;omega
  have key:∀ i a',((els.take b).drop a).flatten[i]? =some a'->els.flatten[a*k+i]? =some a':=by
   intro i a' hi;have e1:els=els.take a++((els.take b).drop a++els.drop b):=by
    have e2:els.take a=(els.take b).take a:=by rw [Uj,Ua (by omega)]
    rw [e2, <- TZ,UA,UA]
   rw [e1,UN,Tu (by rw [fm (λl hl=>hk l (Uy hl))];simp;rw [Ua (by omega)];omega),
    fm (λl hl=>hk l (Uy hl)),UN]
   have e3:a*k+i - (els.take a).length *k=i:=by
    rw [T8,Ua (by omega)];omega
   rw [e3,Tt (S9.1 hi).1];exact hi
  by_cases hempty:b - a=0
  ·have:(els.take b).drop a= []:=Ub (by omega);rw [this,hempty];exact .nil _ _ _
  ·rw [if_neg (by omega), <- hlen]
   show R0 _ _ _ (.slice (some ((⟨bb,o,none⟩:Addr).add (a*k))) _ _)
   rw [rb];refine .row k _ bb (o+a*k) _ (λi=>f (a*k+i)) (λh0=>by rw [h0]at hlen;simp at hlen;omega) (by omega) (λl hl=>hk l (Uy (List.mem_of_mem_drop hl))) hb hp (λi a' hi=>?_) (λi a' hi=>?_)
   ·rw [Ud];exact hcell _ a' (key i a' hi)
   ·exact hr _ a' (key i a' hi)
end
end Go.Proofs.YtbmlgmblfboigaaGreatDoor
