/- Texts of this claim, one behind the other: lemmas for the statement. -/
import Derived.Test.YtbmlgmblfboigaaGreatDoorA16
import Derived.Laws.Concat
import Derived.Laws.IdiomStrings
set_option linter.unusedSimpArgs false
set_option linter.unusedVariables false
namespace Go.Proofs.YtbmlgmblfboigaaGreatDoor
open Go Go.RowKit Go.Proofs
section
variable {P:Program}
theorem EN{α β:Type}{f:α->List β}{k:Nat}(h:∀ a,(f a).length =k){xs:List α}:∀ l∈xs.map f,l.length=k:=λl hl=>by
 obtain⟨q,_,rfl⟩:=XL.1 hl;exact h q
end
section
variable {P:Program} {e:Nat->AV} {mem:List Ob} {d:Option Tmp} {ty t t2:TypeId} {pos:String} {af:Array Edge} {g:Option (Nat×Bool)} {x y:Operand}
end
end Go.Proofs.YtbmlgmblfboigaaGreatDoor
namespace Go.Proofs.YtbmlgmblfboigaaGreatDoor
open Go Go.RowKit Go.Proofs
section
variable {P:Program} {N:Nat} {Q:AQ} {e:Nat->AV} {mem:List Ob}
end
end Go.Proofs.YtbmlgmblfboigaaGreatDoor
namespace Go.Proofs.YtbmlgmblfboigaaGreatDoor
open Go Go.RowKit Go.Proofs
section
variable {P:Program} {N:Nat} {Q:AQ} {e:Nat->AV} {mem:List Ob}
theorem DR{pb:Nat->Prop}{w0:Bs}{w:World}{θ:List Value}(hsim:cm pb w0 w θ mem){j eT k:Nat}{els:List (List AV)}{x:Value}(hm:mem[j]? =some (.row eT k els))(hθ:θ[j]? =some x):R0 (aO pb θ (mem.set j .gone)) w (.row k els) x:=by
 obtain⟨xs,h1,h2,h3,h4⟩:=hsim.ob j _ x hm hθ;rcases id h1.2 with⟨hx,h0⟩|⟨g,cap,cur,hx,hg,hh,hn,hr2⟩
 ·have:els= []:=XS h0;subst this;subst hx;exact(.nil _ _ _)
 ·subst hx
  by_cases hne:els= []
  ·subst hne;exact(.nil _ _ _)
  ·have hfl:els.flatten.length=els.length*k:=fF h3;have hxl:=h1.1;refine(.row k els g 0 cap (λi=>xs.getD i undef) hne hn h3 (Xu.1 hh).1 (aO.dropped hsim hm aN hθ rfl) (λi a ha=>?_) λi a ha=>?_)
   ·have hi:i<xs.length:=by rw [hxl, <- hfl];exact(Xe.1 ha).1
    have:=sU h1 (b:=g) rfl i (xs.getD i undef) (by simp [hi,Xc])
    rwa [Xl]
   ·have hi:i<xs.length:=by rw [hxl, <- hfl];exact(Xe.1 ha).1
    have:=h4 i a (xs.getD i undef) ha (by simp [hi,Xc]);exact this.mono (Xf _) (λ_ _ _=>rfl) (Step.drop hsim j).np
theorem L8{M:Mode}{c:Code}{s j k o eT kk:Nat}{T:TypeId}{cells:List AV}{els:List (List AV)}(hs:ak e (.tmp s)= .ptr j 0)(hm:mem[j]? =some (.box T cells))(hk:mem[k]? =some (.row eT kk els))(hjk:k≠j)(ho:cells[o]? =some (.own k))(hro:cC.roL (cells.set o (.row kk els))=true)
 (h:∀ m1 e1,m1=(mem.set k .gone).set j .gone ->e1=aS e (some s) (.ref (cells.set o (.row kk els)))->AW M P N c Q e1 m1):AW M P N c Q e mem:=by
 refine Hn (λpb w0 θ w hsim=>?_) (h _ _ rfl rfl);have D1:=Step.drop hsim k;have D2:=Step.drop D1.sim j;have hm2:(mem.set k .gone)[j]? =some (.box T cells):=by rw [Xm hjk];exact hm
 refine⟨θ,⟨D2.sim,λa x hr=>D2.keep _ _ (D1.keep _ _ hr),Xf _,λ_ _ _=>rfl,λb hb hp=>D2.np b hb (D1.np b hb hp)⟩,λt x hr=>?_⟩
 by_cases ht:t=s
 ·subst ht;rw [show e t= .ptr j 0 from hs]at hr;simp only [aS,if_true];obtain⟨b,y,hθ,hbase,rfl⟩:=hr.gk;obtain⟨b',xs,h1,rfl,h2,h3,h4⟩:=hsim.ob j _ y hm hθ;cases hbase;refine .ro (.ref _ b' 0 (λi=>xs.getD i undef) (Xu.1 h2).1 (aO.dropped D1.sim hm2 aN hθ rfl) (λi a ha=>?_) λi a ha=>?_)
  ·have hi:i<xs.length:=by rw [h3];have:=(Xe.1 ha).1;simpa using this
   rw [Xl,cell_of_row w b' i xs.toArray T (0,0) h2];simp [hi,Xc]
  ·have hi:i<xs.length:=by rw [h3];have:=(Xe.1 ha).1;simpa using this
   by_cases hio:o=i
   ·subst hio;rw [Xt (by rw [<- h3];exact hi)]at ha;cases ha;have hx:=(h4 o _ (xs.getD o undef) ho (by simp [hi,Xc])).gU;exact(DR hsim hk hx).mono (Xf _) (λ_ _ _=>rfl) D2.np
   ·have ha':=ha;rw [Xm hio]at ha;have:=h4 i a (xs.getD i undef) ha (by simp [hi,Xc]);exact(D2.keep _ _ (D1.keep _ _ this)).gr (gy hro ha')
 ·simp only [aS,if_neg ht];exact D2.keep _ _ (D1.keep _ _ hr)
end
end Go.Proofs.YtbmlgmblfboigaaGreatDoor
namespace Go.Proofs.YtbmlgmblfboigaaGreatDoor
open Go Go.RowKit Go.Proofs
section
variable {P:Program} {e:Nat->AV} {mem:List Ob} {d:Option Tmp} {x:Operand} {ty:TypeId} {pos:String} {af:Array Edge} {g:Option (Nat×Bool)}
theorem bH{j o:Nat}(hx:ak e x= .ptr j o):bw P ⟨d,.nilCheck x,ty,pos,af,g⟩ e mem (.ptr j o):=by
 intro pb w0 θ w ev hs h;have h1:=h x cE;rw [hx]at h1;have h2:=h1;obtain⟨b,y,hθ,hbase,hy⟩:=h1.gk;rw [hy]at h2;unfold execOp;simp only [hy];exact⟨h2,Ext.refl w⟩
theorem fK{c:List AV}(hx:ak e x= .ref c):bw P ⟨d,.nilCheck x,ty,pos,af,g⟩ e mem (.ref c):=by
 intro pb w0 θ w ev hs h;have h1:=h x cE;rw [hx]at h1;have h2:=h1;generalize hv:aT ev x=v at h1 h2;cases h1.getRef with
 | ref _ b o f hb hp hc hr=>
  unfold execOp;simp only [hv];exact⟨h2,Ext.refl w⟩
end
end Go.Proofs.YtbmlgmblfboigaaGreatDoor
namespace Go.Proofs.YtbmlgmblfboigaaGreatDoor
open Go Go.RowKit Go.Proofs
def dH(n:Int):Prop:=0<=n/\n<18446744073709551616
theorem ti{n:Int}(h:dH n):IntKind.u64.wrap n=n:=by
 unfold dH at h
 show n%(18446744073709551616:Int)=n
 omega
theorem PS(n:Int):IntKind.u64.wrap n=n%18446744073709551616:=rfl
section
variable {P:Program} {e:Nat->AV} {mem:List Ob} {d:Option Tmp} {x y:Operand} {t t2 ty:TypeId} {pos:String} {af:Array Edge} {g:Option (Nat×Bool)} {k k':IntKind} {m n:Int}
theorem V9{op:BinOp}(hx:ak e x= .v (.int k m))(hy:ak e y= .v (.int k' n)){c:Value}(h:∀ w,(binOp op t (.int k m) (.int k' n)).run P w= .ok c w):bw P ⟨d,.binOp op t x y t2,ty,pos,af,g⟩ e mem (.v c):=
 qx hx hy λw=>by rw [Sem.run_bind,DK w];exact h w
theorem sn{c:Int}(hx:ak e x= .v (.int k m))(hy:ak e y= .v (.int k' n))(h0:0<=n)(hc:((2^(min n.toNat k.bits):Nat):Int)=c):bw P ⟨d,.binOp .shr t x y t2,ty,pos,af,g⟩ e mem (.v (.int k (m/c))):=
 V9 hx hy λw=>by
  subst hc;simp only [binOp,Op.shift];rw [if_neg ah];have:m.fdiv (2^min n.toNat k.bits)=m/((2^min n.toNat k.bits:Nat):Int):=by
   rw [Int.fdiv_eq_ediv_of_nonneg _ (by exact_mod_cast Xy _)]
   norm_cast
  rw [this];rfl
theorem Ti{m:Int}(h:dH m)(c:Nat)(hc:c<=64):IntKind.u64.wrap ((BitVec.ofInt 64 m &&& BitVec.ofInt 64 (2^c - 1:Nat)).toNat :Nat)=m%((2^c:Nat):Int):=by
 obtain⟨h0,h1⟩:=h;obtain⟨q,rfl⟩:=Int.eq_ofNat_of_zero_le h0;have hq:q<2^64:=by omega
 have e1:(BitVec.ofInt 64 (q:Int)).toNat =q:=by
  rw [BitVec.ofInt_natCast,BitVec.toNat_ofNat,Nat.mod_eq_of_lt hq]
 have hp:2^c<=2^64:=Nat.pow_le_pow_right aD hc;have hp0:0<2^c:=Nat.pow_pos aD;have e2:(BitVec.ofInt 64 ((2^c - 1:Nat):Int)).toNat =2^c - 1:=by
  rw [BitVec.ofInt_natCast,BitVec.toNat_ofNat,Nat.mod_eq_of_lt ah]
 rw [BitVec.toNat_and,e1,e2,Nat.and_two_pow_sub_one_eq_mod];have h3:=Nat.mod_le q (2^c);rw [ti ⟨Int.natCast_nonneg _,ah⟩];exact Int.natCast_emod q (2^c)
theorem Ag{c:Int}(hx:ak e x= .v (.int .u64 m))(hy:ak e y= .v (.int .u64 n))(c0:Nat)(hn:n=((2^c0 - 1:Nat):Int))(hc0:c0<=64)(hc:((2^c0:Nat):Int)=c)(h:dH m):bw P ⟨d,.binOp .and t x y t2,ty,pos,af,g⟩ e mem (.v (.int .u64 (m%c))):=
 lL hx hy λw=>by
  subst hc;subst hn;rw [lM ⟨aD,aD⟩]
  show(Op.intBits .and .u64 m _).run P w=_
  have:=Ti h c0 hc0;unfold Op.intBits;rw [<- this];rfl
theorem wC(hx:ak e x= .v (.int .u64 m))(hy:ak e y= .v (.int .u64 n))(h:dH (m+n)):bw P ⟨d,.binOp .add t x y t2,ty,pos,af,g⟩ e mem (.v (.int .u64 (m+n))):=by
 have:=sh (P:=P) (mem:=mem) (d:=d) (ty:=ty) (t:=t) (t2:=t2) (pos:=pos) (af:=af) (g:=g) hx hy;rwa [ti h]at this
theorem wE(hx:ak e x= .v (.int .u64 m))(hy:ak e y= .v (.int .u64 n))(h:dH (m*n)):bw P ⟨d,.binOp .mul t x y t2,ty,pos,af,g⟩ e mem (.v (.int .u64 (m*n))):=by
 have:=A4 (P:=P) (mem:=mem) (d:=d) (ty:=ty) (t:=t) (t2:=t2) (pos:=pos) (af:=af) (g:=g) hx hy;rwa [ti h]at this
theorem Tj(hx:ak e x= .v (.int .u64 m))(hy:ak e y= .v (.int .u64 n))(h0:n≠0)(h:dH m/\0<=n):bw P ⟨d,.binOp .quo t x y t2,ty,pos,af,g⟩ e mem (.v (.int .u64 (m/n))):=by
 have:=A5 (P:=P) (mem:=mem) (d:=d) (ty:=ty) (t:=t) (t2:=t2) (pos:=pos) (af:=af) (g:=g) hx hy h0;obtain⟨⟨h1,h2⟩,h3⟩:=h;rw [Int.tdiv_eq_ediv_of_nonneg h1,ti]at this
 ·exact this
 ·exact⟨Int.ediv_nonneg h1 h3,Int.lt_of_le_of_lt (Int.ediv_le_self _ h1) h2⟩
theorem Tm(hx:ak e x= .v (.int .u64 m))(hy:ak e y= .v (.int .u64 n))(h0:n≠0)(h:dH m/\0<=n):bw P ⟨d,.binOp .rem t x y t2,ty,pos,af,g⟩ e mem (.v (.int .u64 (m%n))):=by
 have:=A6 (P:=P) (mem:=mem) (d:=d) (ty:=ty) (t:=t) (t2:=t2) (pos:=pos) (af:=af) (g:=g) hx hy h0
 rwa [Int.tmod_eq_emod_of_nonneg h.1.1]at this
theorem JC(hx:ak e x= .v (.int k m))(hs:(P.underlying t).isSome =true)(hd:P.underlying t2=some (.int k')):bw P ⟨d,.convert t t2 x,ty,pos,af,g⟩ e mem (.v (.int k' (k'.wrap m))):=
 S7 hx t t2 λw=>by
  have hk:P.intKind t2=k':=by unfold Program.intKind;rw [hd]
  have:=run_convert_int (P:=P) w t t2 k m hs (by rw [hk];exact hd)
  rwa [hk]at this
theorem xu(hx:ak e x= .v (.int k m))(hs:(P.underlying t).isSome =true)(hd:P.underlying t2=some (.int .u64))(h:dH m):bw P ⟨d,.convert t t2 x,ty,pos,af,g⟩ e mem (.v (.int .u64 m)):=by
 have:=JC (mem:=mem) (d:=d) (ty:=ty) (pos:=pos) (af:=af) (g:=g) hx hs hd;rwa [ti h]at this
theorem IV(hx:ak e x= .v (.int k m))(hs:(P.underlying t).isSome =true)(hd:P.underlying t2=some (.int .i64))(h:In64 m):bw P ⟨d,.convert t t2 x,ty,pos,af,g⟩ e mem (.v (.int .i64 m)):=by
 have:=JC (mem:=mem) (d:=d) (ty:=ty) (pos:=pos) (af:=af) (g:=g) hx hs hd;rwa [wrap_in h]at this
end
end Go.Proofs.YtbmlgmblfboigaaGreatDoor
namespace Go.Proofs.YtbmlgmblfboigaaGreatDoor
open Go Go.RowKit Go.Proofs
theorem size_mk(l:List UInt8):(⟨l.toArray⟩:ByteArray).size =l.length:=rfl
def Xb(n:Int):Prop:=0<=n/\n<256
section
variable {P:Program} {N:Nat} {Q:AQ} {e:Nat->AV} {mem:List Ob} {d:Option Tmp} {ty t t2:TypeId} {pos:String} {af:Array Edge} {g:Option (Nat×Bool)} {x y z:Operand}
theorem HF{a b:ByteArray}(hx:ak e x= .v (.string a))(hy:ak e y= .v (.string b))(h:a.size+b.size<=9223372036854775807):bw P ⟨d,.binOp .add t x y t2,ty,pos,af,g⟩ e mem (.v (.string (a++b))):=
 A7 hx hy (λw=>run_string_add_sum w a b h) ⟨aD,aD⟩
theorem Tn{s:ByteArray}{a:Int}{ka:IntKind}(hx:ak e x= .v (.string s))(hy:ak e y= .v (.int ka a))(hu:P.underlying t=some .string)(h0:0<=a)(h1:a<=s.size):
 bw P ⟨d,.slice t x (some y) none none,ty,pos,af,g⟩ e mem (.v (.string (s.extract a.toNat s.size))):=by
 obtain⟨a,rfl⟩:∃ n:Nat,a=n:=⟨a.toNat,ah⟩;have h1:a<=s.size:=by omega
 refine mf _ λev he w=>?_
 rw [Dl (he x cE _ hx) (he y cE _ hy),Sem.run_bind];simp [Instr.sliceAt,run_underlying hu,Instr.slice,Instr.sliceBounds,Instr.sliceBound,asIntOf,h1,Sem.run_bind]
theorem Tq{s:ByteArray}{b:Int}{kb:IntKind}(hx:ak e x= .v (.string s))(hz:ak e z= .v (.int kb b))(hu:P.underlying t=some .string)(h0:0<=b)(h1:b<=s.size):
 bw P ⟨d,.slice t x none (some z) none,ty,pos,af,g⟩ e mem (.v (.string (s.extract 0 b.toNat))):=by
 obtain⟨b,rfl⟩:∃ n:Nat,b=n:=⟨b.toNat,ah⟩;have h1:b<=s.size:=by omega
 refine mf _ λev he w=>?_
 rw [Dm (he x cE _ hx) (he z cE _ hz),Sem.run_bind];simp [Instr.sliceAt,run_underlying hu,Instr.slice,Instr.sliceBounds,Instr.sliceBound,asIntOf,h1,Sem.run_bind]
def isIf:Option TypeDesc->Bool
 | some (.interface _)=>true
 | _=>false
theorem sW{o:Option TypeDesc}(h:isIf o=true):∃ ms,o=some (.interface ms):=by
 cases o with
 | none=>cases h
 | some q=>cases q<;>first|exact⟨_,rfl⟩|(simp [isIf]at h;done)
theorem PT(hx:ak e x= .v .nilIface)(hi:isIf (P.underlying t)=true):bw P ⟨d,.binOp .eql t x (.const .nilIface) t2,ty,pos,af,g⟩ e mem (.v (.bool true)):=
 qx hx rfl λw=>by
  obtain⟨ms,hu⟩:=sW hi;have:(Op.equalIn (Op.maxDepth - 1+1) t .nilIface .nilIface).run P w= .ok true w:=by
   unfold Op.equalIn;simp [Sem.run_bind,run_underlying hu]
  have h2:Op.maxDepth - 1+1=Op.maxDepth:=rfl;rw [h2]at this;simp [eqGuard,binOp,Op.equal,Sem.run_bind,this]
theorem PU{te:TypeId}{pe:Value}(hx:ak e x= .v (.iface te pe))(hi:isIf (P.underlying t)=true):bw P ⟨d,.binOp .eql t x (.const .nilIface) t2,ty,pos,af,g⟩ e mem (.v (.bool false)):=
 qx hx rfl λw=>by
  obtain⟨ms,hu⟩:=sW hi;have:(Op.equalIn (Op.maxDepth - 1+1) t (.iface te pe) .nilIface).run P w= .ok false w:=by
   unfold Op.equalIn;simp [Sem.run_bind,run_underlying hu]
  have h2:Op.maxDepth - 1+1=Op.maxDepth:=rfl;rw [h2]at this;simp [eqGuard,binOp,Op.equal,Sem.run_bind,this]
def JD(P:Program)(o:Oper)(e:Nat->AV)(mem:List Ob)(Ψ:AV->Prop):Prop:=
 ∀ (pb:Nat->Prop) (w0:Bs) (θ:List Value) (w:World) (ev:Nat->Value),cm pb w0 w θ mem->(∀ x∈o.op.operands,R1 θ (aO pb θ mem) w (ak e x) (aT ev x))->
  dw P (λv w'=>∃ r,Ψ r/\R1 θ (aO pb θ mem) w' r v/\Ext w w') ((execOp (aT ev) o).run P w)
theorem Vh{ops:Array Oper}{l:List Oper}{o:Oper}{Ψ:AV->Prop}(ho:JD P o e mem Ψ)(hg:Gd ops o e)(hd:dA N o.dst=true)(h:∀ r,Ψ r->AL P N ops l Q (aS e o.dst r) mem):AL P N ops (o::l) Q e mem:=by
 intro pb w0 θ a w hf
 show(if Region.wanted o (yielded ops a.tmps)then _ else _)
 rw [if_pos (nt hf hg)];refine .inl (Oper.yS (φ:=λv w'=>∃ r,Ψ r/\R1 θ (aO pb θ mem) w' r v/\Ext w w') ?_ ?_)
 ·rintro v w' ⟨r,h0,h1,h2⟩;have hs:=Step.ext hf.sim h2;exact kW (λ_ _ _ hq=>hq.after hs) (h r h0 pb w0 θ _ w' (hf.put hs hd h1))
 ·rw [gm];exact ho pb w0 θ w _ hf.sim λx _=>ju hf x
theorem Nj{gs:List (Nat×List AV)}{f:FuncId}{as:Array Operand}{ts:Array TypeId}{args:List AV}{Ψ:AV->Prop}(hargs:cX e as.toList=args)(hro:cC.roL args=true){j:Nat}(hg:mem[j]? =some (.bT gs))(hc:iH P gs f args Ψ)(dY:∀ args w,(callFunc f args).run P w= .ok (.enter f args) w):
 JD P ⟨d,.call ⟨.value (.func f),as,ts⟩,ty,pos,af,g⟩ e mem Ψ:=by
 intro pb w0 θ w ev hs h;have hvs:(as.toList.map (aT ev)).length =args.length:=by rw [<- hargs];simp [cX]
 rw [k6 (f:=.func (.func f) #[] #[]) rfl rfl];refine oJ dY ((hc (aO pb θ mem) w _ hvs (λi a v ha hv=>?_) (λx hx=>?_)).mono ?_)
 ·have ha':=ha;rw [<- hargs,cX,Xh]at ha';rw [Xh]at hv;cases hx:as.toList[i]? with
  | none=>rw [hx]at hv;cases hv
  | some x=>
   rw [hx]at ha' hv;simp at ha' hv;subst ha' hv;have hmem:x∈as:=by have:=Xp hx;simpa using this
   exact(h x mR).gr (gy hro ha)
 ·exact hs.bT hg x hx
 ·rintro en w' ⟨q,v,he,h3,h4,h5⟩;exact⟨v,he,q,h3,.ro (R0.back hs h4),h5⟩
end
end Go.Proofs.YtbmlgmblfboigaaGreatDoor
namespace Go.Proofs.YtbmlgmblfboigaaGreatDoor
open Go Go.RowKit Go.Proofs
set_option maxRecDepth 100000
set_option maxHeartbeats 1000000
section
variable {P:Program} {e:Nat->AV} {mem:List Ob} {d:Option Tmp} {ty t:TypeId} {pos:String} {af:Array Edge} {g:Option (Nat×Bool)} {x y:Operand}
theorem Vi{els:List (List AV)}{k bytes eT:Nat}{zv:Value}{n:Int}{kn:IntKind}(hty:bO P t eT k bytes zv)(hx:ak e x= .row k els)(hy:ak e y= .v (.int kn n))(h0:0<=n)(hn:n<=els.length):
 bw P ⟨d,.slice t x (some y) none none,ty,pos,af,g⟩ e mem (.row k (els.drop n.toNat)):=by
 obtain⟨row,ht⟩:=hty.ya;have hu:=hty.1;obtain⟨a,rfl⟩:∃ q:Nat,n=q:=⟨n.toNat,ah⟩;obtain⟨b,hbl⟩:∃ b,b=els.length:=⟨_,rfl⟩;have h1:a<=b:=by omega
 have h2:b<=els.length:=by omega
 simp only [XE];rw [show els.drop a=(els.take b).drop a by rw [hbl,X8]];intro pb w0 θ w ev hs h;have h1':=h x cE;have h2':=h y cE;rw [hx]at h1';rw [hy]at h2';generalize hv:aT ev x=p at h1';rw [Dl hv h2'.val,Sem.run_bind];have run:∀ (A:Option Addr) (c:Nat),els.length<=c->(Instr.sliceAt t (.slice A els.length c) (some (.int kn (a:Int))) none none).run P w= .ok (.slice (if c=a then A else A.map (·.add (a*k))) (b - a) (c - a)) w:=by
  intro A c hc;have hb:b<=c:=by omega
  have ha:a<=els.length:=by omega
  subst hbl;simp [Instr.sliceAt,run_underlying hu,Instr.slice,Instr.sliceBounds,Instr.sliceBound,asIntOf,hb,h1,ha,ht.sizeOf,Sem.run_bind]
 cases h1'.getRow with
 | nil=>
  have ha:a=0:=by simp at h2;omega
  have hb:b=0:=by simp at h2;omega
  subst ha hb;have:=run (by assumption) (by assumption) aN;simp only [Xs]at this;rw [this];refine⟨.ro ?_,Ext.refl w⟩;simp;exact .nil _ _ _
 | row _ _ bb o c f hne hc hk hb hp hcell hr=>
  rw [run _ _ hc];refine⟨.ro ?_,Ext.refl w⟩;have hlen:((els.take b).drop a).length =b - a:=by simp;omega
  have key:∀ i a',((els.take b).drop a).flatten[i]? =some a'->els.flatten[a*k+i]? =some a':=by
   intro i a' hi;have e1:els=els.take a++((els.take b).drop a++els.drop b):=by
    have e2:els.take a=(els.take b).take a:=by rw [X2,XW ah]
    rw [e2, <- XP,Yc,Yc]
   rw [e1,Yw,Xk II,
    fF (λl hl=>hk l (Yj hl)),Yw]
   have e3:a*k+i - (els.take a).length *k=i:=by
    rw [XO,XW ah];omega
   rw [e3,Xj (Xe.1 hi).1];exact hi
  by_cases hempty:b - a=0
  ·have:(els.take b).drop a= []:=XS ah;rw [this,hempty];exact .nil _ _ _
  ·rw [if_neg ah, <- hlen]
   show R0 _ _ _ (.slice (some ((⟨bb,o,none⟩:Addr).add (a*k))) _ _)
   rw [uj];refine .row k _ bb (o+a*k) _ (λi=>f (a*k+i)) (λh0=>by rw [h0]at hlen;simp at hlen;omega) ah (λl hl=>hk l (Yj (List.mem_of_mem_drop hl))) hb hp (λi a' hi=>?_) (λi a' hi=>?_)
   ·rw [XQ];exact hcell _ a' (key i a' hi)
   ·exact hr _ a' (key i a' hi)
theorem Vj{els:List (List AV)}{k bytes eT:Nat}{zv:Value}{n:Int}{kn:IntKind}(hty:bO P t eT k bytes zv)(hx:ak e x= .row k els)(hy:ak e y= .v (.int kn n))(h0:0<=n)(hn:n<=els.length):
 bw P ⟨d,.slice t x none (some y) none,ty,pos,af,g⟩ e mem (.row k (els.take n.toNat)):=by
 obtain⟨row,ht⟩:=hty.ya;have hu:=hty.1;obtain⟨b,rfl⟩:∃ q:Nat,n=q:=⟨n.toNat,ah⟩;obtain⟨a,ha0⟩:∃ a,a=0:=⟨0,rfl⟩;have h1:a<=b:=by omega
 have h2:b<=els.length:=by omega
 simp only [XE];rw [show els.take b=(els.take b).drop a by rw [ha0,Yv]];intro pb w0 θ w ev hs h;have h1':=h x cE;have h2':=h y cE;rw [hx]at h1';rw [hy]at h2';generalize hv:aT ev x=p at h1';rw [Dm hv h2'.val,Sem.run_bind];have run:∀ (A:Option Addr) (c:Nat),els.length<=c->(Instr.sliceAt t (.slice A els.length c) none (some (.int kn (b:Int))) none).run P w= .ok (.slice (if c=a then A else A.map (·.add (a*k))) (b - a) (c - a)) w:=by
  intro A c hc;have hb:b<=c:=by omega
  subst ha0;simp [Instr.sliceAt,run_underlying hu,Instr.slice,Instr.sliceBounds,Instr.sliceBound,asIntOf,hb,h1,ht.sizeOf,Sem.run_bind]
  try (cases A<;>simp [Addr.add])
 cases h1'.getRow with
 | nil=>
  have ha:a=0:=by simp at h2;omega
  have hb:b=0:=by simp at h2;omega
  subst ha hb;have:=run (by assumption) (by assumption) aN;simp only [Xs]at this;rw [this];refine⟨.ro ?_,Ext.refl w⟩;simp;exact .nil _ _ _
 | row _ _ bb o c f hne hc hk hb hp hcell hr=>
  rw [run _ _ hc];refine⟨.ro ?_,Ext.refl w⟩;have hlen:((els.take b).drop a).length =b - a:=by simp;omega
  have key:∀ i a',((els.take b).drop a).flatten[i]? =some a'->els.flatten[a*k+i]? =some a':=by
   intro i a' hi;have e1:els=els.take a++((els.take b).drop a++els.drop b):=by
    have e2:els.take a=(els.take b).take a:=by rw [X2,XW ah]
    rw [e2, <- XP,Yc,Yc]
   rw [e1,Yw,Xk II,
    fF (λl hl=>hk l (Yj hl)),Yw]
   have e3:a*k+i - (els.take a).length *k=i:=by
    rw [XO,XW ah];omega
   rw [e3,Xj (Xe.1 hi).1];exact hi
  by_cases hempty:b - a=0
  ·have:(els.take b).drop a= []:=XS ah;rw [this,hempty];exact .nil _ _ _
  ·rw [if_neg ah, <- hlen]
   show R0 _ _ _ (.slice (some ((⟨bb,o,none⟩:Addr).add (a*k))) _ _)
   rw [uj];refine .row k _ bb (o+a*k) _ (λi=>f (a*k+i)) (λh0=>by rw [h0]at hlen;simp at hlen;omega) ah (λl hl=>hk l (Yj (List.mem_of_mem_drop hl))) hb hp (λi a' hi=>?_) (λi a' hi=>?_)
   ·rw [XQ];exact hcell _ a' (key i a' hi)
   ·exact hr _ a' (key i a' hi)
end
end Go.Proofs.YtbmlgmblfboigaaGreatDoor
