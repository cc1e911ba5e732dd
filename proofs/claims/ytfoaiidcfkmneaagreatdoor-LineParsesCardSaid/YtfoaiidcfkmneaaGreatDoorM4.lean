/- Texts of this claim, one behind the other: lemmas for the statement. -/
import Derived.Test.YtfoaiidcfkmneaaGreatDoorA16
import Derived.Laws.Concat
import Derived.Laws.IdiomStrings
set_option linter.unusedSimpArgs false
set_option linter.unusedVariables false
namespace Go.Proofs.YtfoaiidcfkmneaaGreatDoor
open Go Go.RowKit Go.Proofs
section
variable {P:Program}
theorem Cf{α β:Type}{f:α->List β}{k:Nat}(h:∀ a,(f a).length =k){xs:List α}:∀ l∈xs.map f,l.length=k:=λl hl=>by
 obtain⟨q,_,rfl⟩:=TG.1 hl;exact h q
end
section
variable {P:Program} {e:Nat->AV} {mem:List Ob} {d:Option Tmp} {ty t t2:TypeId} {pos:String} {af:Array Edge} {g:Option (Nat×Bool)} {x y:Operand}
end
end Go.Proofs.YtfoaiidcfkmneaaGreatDoor
namespace Go.Proofs.YtfoaiidcfkmneaaGreatDoor
open Go Go.RowKit Go.Proofs
section
variable {P:Program} {N:Nat} {Q:AQ} {e:Nat->AV} {mem:List Ob}
end
end Go.Proofs.YtfoaiidcfkmneaaGreatDoor
namespace Go.Proofs.YtfoaiidcfkmneaaGreatDoor
open Go Go.RowKit Go.Proofs
section
variable {P:Program} {N:Nat} {Q:AQ} {e:Nat->AV} {mem:List Ob}
theorem Bn{pb:Nat->Prop}{w0:Bs}{w:World}{θ:List Value}(hsim:cr pb w0 w θ mem){j eT k:Nat}{els:List (List AV)}{x:Value}(hm:mem[j]? =some (.row eT k els))(hθ:θ[j]? =some x):R0 (aP pb θ (mem.set j .gone)) w (.row k els) x:=by
 obtain⟨xs,h1,h2,h3,h4⟩:=hsim.ob j _ x hm hθ;rcases id h1.2 with⟨hx,h0⟩|⟨g,cap,cur,hx,hg,hh,hn,hr2⟩
 ·have:els= []:=TD h0;subst this;subst hx;exact(.nil _ _ _)
 ·subst hx
  by_cases hne:els= []
  ·subst hne;exact(.nil _ _ _)
  ·have hfl:els.flatten.length=els.length*k:=iR h3;have hxl:=h1.1;refine(.row k els g 0 cap (λi=>xs.getD i undef) hne hn h3 (Tc.1 hh).1 (aP.dropped hsim hm aL hθ rfl) (λi a ha=>?_) λi a ha=>?_)
   ·have hi:i<xs.length:=by rw [hxl, <- hfl];exact(SN.1 ha).1
    have:=xt h1 (b:=g) rfl i (xs.getD i undef) (by simp [hi,SO])
    rwa [S0]
   ·have hi:i<xs.length:=by rw [hxl, <- hfl];exact(SN.1 ha).1
    have:=h4 i a (xs.getD i undef) ha (by simp [hi,SO]);exact this.mono (SR _) (λ_ _ _=>rfl) (Step.drop hsim j).np
theorem IP{M:Mode}{c:Code}{s j k o eT kk:Nat}{T:TypeId}{cells:List AV}{els:List (List AV)}(hs:al e (.tmp s)= .ptr j 0)(hm:mem[j]? =some (.box T cells))(hk:mem[k]? =some (.row eT kk els))(hjk:k≠j)(ho:cells[o]? =some (.own k))(hro:cS.roL (cells.set o (.row kk els))=true)
 (h:∀ m1 e1,m1=(mem.set k .gone).set j .gone ->e1=aT e (some s) (.ref (cells.set o (.row kk els)))->AW M P N c Q e1 m1):AW M P N c Q e mem:=by
 refine EC (λpb w0 θ w hsim=>?_) (h _ _ rfl rfl);have D1:=Step.drop hsim k;have D2:=Step.drop D1.sim j;have hm2:(mem.set k .gone)[j]? =some (.box T cells):=by rw [SY hjk];exact hm
 refine⟨θ,⟨D2.sim,λa x hr=>D2.keep _ _ (D1.keep _ _ hr),SR _,λ_ _ _=>rfl,λb hb hp=>D2.np b hb (D1.np b hb hp)⟩,λt x hr=>?_⟩
 by_cases ht:t=s
 ·subst ht;rw [show e t= .ptr j 0 from hs]at hr;simp only [aT,if_true];obtain⟨b,y,hθ,hbase,rfl⟩:=hr.iC;obtain⟨b',xs,h1,rfl,h2,h3,h4⟩:=hsim.ob j _ y hm hθ;cases hbase;refine .ro (.ref _ b' 0 (λi=>xs.getD i undef) (Tc.1 h2).1 (aP.dropped D1.sim hm2 aL hθ rfl) (λi a ha=>?_) λi a ha=>?_)
  ·have hi:i<xs.length:=by rw [h3];have:=(SN.1 ha).1;simpa using this
   rw [S0,cell_of_row w b' i xs.toArray T (0,0) h2];simp [hi,SO]
  ·have hi:i<xs.length:=by rw [h3];have:=(SN.1 ha).1;simpa using this
   by_cases hio:o=i
   ·subst hio;rw [S7 (by rw [<- h3];exact hi)]at ha;cases ha;have hx:=(h4 o _ (xs.getD o undef) ho (by simp [hi,SO])).j6;exact(Bn hsim hk hx).mono (SR _) (λ_ _ _=>rfl) D2.np
   ·have ha':=ha;rw [SY hio]at ha;have:=h4 i a (xs.getD i undef) ha (by simp [hi,SO]);exact(D2.keep _ _ (D1.keep _ _ this)).iN (hP hro ha')
 ·simp only [aT,if_neg ht];exact D2.keep _ _ (D1.keep _ _ hr)
end
end Go.Proofs.YtfoaiidcfkmneaaGreatDoor
namespace Go.Proofs.YtfoaiidcfkmneaaGreatDoor
open Go Go.RowKit Go.Proofs
section
variable {P:Program} {e:Nat->AV} {mem:List Ob} {d:Option Tmp} {x:Operand} {ty:TypeId} {pos:String} {af:Array Edge} {g:Option (Nat×Bool)}
theorem bU{j o:Nat}(hx:al e x= .ptr j o):bH P ⟨d,.nilCheck x,ty,pos,af,g⟩ e mem (.ptr j o):=by
 intro pb w0 θ w ev hs h;have h1:=h x cB;rw [hx]at h1;have h2:=h1;obtain⟨b,y,hθ,hbase,hy⟩:=h1.iC;rw [hy]at h2;unfold execOp;simp only [hy];exact⟨h2,Ext.refl w⟩
theorem fY{c:List AV}(hx:al e x= .ref c):bH P ⟨d,.nilCheck x,ty,pos,af,g⟩ e mem (.ref c):=by
 intro pb w0 θ w ev hs h;have h1:=h x cB;rw [hx]at h1;have h2:=h1;generalize hv:aZ ev x=v at h1 h2;cases h1.getRef with
 | ref _ b o f hb hp hc hr=>
  unfold execOp;simp only [hv];exact⟨h2,Ext.refl w⟩
end
end Go.Proofs.YtfoaiidcfkmneaaGreatDoor
namespace Go.Proofs.YtfoaiidcfkmneaaGreatDoor
open Go Go.RowKit Go.Proofs
def cO(n:Int):Prop:=0<=n/\n<18446744073709551616
theorem rQ{n:Int}(h:cO n):IntKind.u64.wrap n=n:=by
 unfold cO at h
 show n%(18446744073709551616:Int)=n
 omega
theorem LJ(n:Int):IntKind.u64.wrap n=n%18446744073709551616:=rfl
section
variable {P:Program} {e:Nat->AV} {mem:List Ob} {d:Option Tmp} {x y:Operand} {t t2 ty:TypeId} {pos:String} {af:Array Edge} {g:Option (Nat×Bool)} {k k':IntKind} {m n:Int}
theorem Rq{op:BinOp}(hx:al e x= .v (.int k m))(hy:al e y= .v (.int k' n)){c:Value}(h:∀ w,(binOp op t (.int k m) (.int k' n)).run P w= .ok c w):bH P ⟨d,.binOp op t x y t2,ty,pos,af,g⟩ e mem (.v c):=
 pC hx hy λw=>by rw [Sem.run_bind,Bl w];exact h w
theorem qZ{c:Int}(hx:al e x= .v (.int k m))(hy:al e y= .v (.int k' n))(h0:0<=n)(hc:((2^(min n.toNat k.bits):Nat):Int)=c):bH P ⟨d,.binOp .shr t x y t2,ty,pos,af,g⟩ e mem (.v (.int k (m/c))):=
 Rq hx hy λw=>by
  subst hc;simp only [binOp,Op.shift];rw [if_neg ah];have:m.fdiv (2^min n.toNat k.bits)=m/((2^min n.toNat k.bits:Nat):Int):=by
   rw [Int.fdiv_eq_ediv_of_nonneg _ (by exact_mod_cast S8 _)]
   norm_cast
  rw [this];rfl
theorem ON{m:Int}(h:cO m)(c:Nat)(hc:c<=64):IntKind.u64.wrap ((BitVec.ofInt 64 m &&& BitVec.ofInt 64 (2^c - 1:Nat)).toNat :Nat)=m%((2^c:Nat):Int):=by
 obtain⟨h0,h1⟩:=h;obtain⟨q,rfl⟩:=Int.eq_ofNat_of_zero_le h0;have hq:q<2^64:=by omega
 have e1:(BitVec.ofInt 64 (q:Int)).toNat =q:=by
  rw [BitVec.ofInt_natCast,BitVec.toNat_ofNat,Nat.mod_eq_of_lt hq]
 have hp:2^c<=2^64:=Nat.pow_le_pow_right aD hc;have hp0:0<2^c:=Nat.pow_pos aD;have e2:(BitVec.ofInt 64 ((2^c - 1:Nat):Int)).toNat =2^c - 1:=by
  rw [BitVec.ofInt_natCast,BitVec.toNat_ofNat,Nat.mod_eq_of_lt ah]
 rw [BitVec.toNat_and,e1,e2,Nat.and_two_pow_sub_one_eq_mod];have h3:=Nat.mod_le q (2^c);rw [rQ ⟨Int.natCast_nonneg _,ah⟩];exact Int.natCast_emod q (2^c)
theorem yD{c:Int}(hx:al e x= .v (.int .u64 m))(hy:al e y= .v (.int .u64 n))(c0:Nat)(hn:n=((2^c0 - 1:Nat):Int))(hc0:c0<=64)(hc:((2^c0:Nat):Int)=c)(h:cO m):bH P ⟨d,.binOp .and t x y t2,ty,pos,af,g⟩ e mem (.v (.int .u64 (m%c))):=
 k6 hx hy λw=>by
  subst hc;subst hn;rw [k7 ⟨aD,aD⟩]
  show(Op.intBits .and .u64 m _).run P w=_
  have:=ON h c0 hc0;unfold Op.intBits;rw [<- this];rfl
theorem u7(hx:al e x= .v (.int .u64 m))(hy:al e y= .v (.int .u64 n))(h:cO (m+n)):bH P ⟨d,.binOp .add t x y t2,ty,pos,af,g⟩ e mem (.v (.int .u64 (m+n))):=by
 have:=qX (P:=P) (mem:=mem) (d:=d) (ty:=ty) (t:=t) (t2:=t2) (pos:=pos) (af:=af) (g:=g) hx hy;rwa [rQ h]at this
theorem u9(hx:al e x= .v (.int .u64 m))(hy:al e y= .v (.int .u64 n))(h:cO (m*n)):bH P ⟨d,.binOp .mul t x y t2,ty,pos,af,g⟩ e mem (.v (.int .u64 (m*n))):=by
 have:=zr (P:=P) (mem:=mem) (d:=d) (ty:=ty) (t:=t) (t2:=t2) (pos:=pos) (af:=af) (g:=g) hx hy;rwa [rQ h]at this
theorem OO(hx:al e x= .v (.int .u64 m))(hy:al e y= .v (.int .u64 n))(h0:n≠0)(h:cO m/\0<=n):bH P ⟨d,.binOp .quo t x y t2,ty,pos,af,g⟩ e mem (.v (.int .u64 (m/n))):=by
 have:=FU (P:=P) (mem:=mem) (d:=d) (ty:=ty) (t:=t) (t2:=t2) (pos:=pos) (af:=af) (g:=g) hx hy h0;obtain⟨⟨h1,h2⟩,h3⟩:=h;rw [Int.tdiv_eq_ediv_of_nonneg h1,rQ]at this
 ·exact this
 ·exact⟨Int.ediv_nonneg h1 h3,Int.lt_of_le_of_lt (Int.ediv_le_self _ h1) h2⟩
theorem OP(hx:al e x= .v (.int .u64 m))(hy:al e y= .v (.int .u64 n))(h0:n≠0)(h:cO m/\0<=n):bH P ⟨d,.binOp .rem t x y t2,ty,pos,af,g⟩ e mem (.v (.int .u64 (m%n))):=by
 have:=zt (P:=P) (mem:=mem) (d:=d) (ty:=ty) (t:=t) (t2:=t2) (pos:=pos) (af:=af) (g:=g) hx hy h0
 rwa [Int.tmod_eq_emod_of_nonneg h.1.1]at this
theorem GV(hx:al e x= .v (.int k m))(hs:(P.underlying t).isSome =true)(hd:P.underlying t2=some (.int k')):bH P ⟨d,.convert t t2 x,ty,pos,af,g⟩ e mem (.v (.int k' (k'.wrap m))):=
 OC hx t t2 λw=>by
  have hk:P.intKind t2=k':=by unfold Program.intKind;rw [hd]
  have:=run_convert_int (P:=P) w t t2 k m hs (by rw [hk];exact hd)
  rwa [hk]at this
theorem vO(hx:al e x= .v (.int k m))(hs:(P.underlying t).isSome =true)(hd:P.underlying t2=some (.int .u64))(h:cO m):bH P ⟨d,.convert t t2 x,ty,pos,af,g⟩ e mem (.v (.int .u64 m)):=by
 have:=GV (mem:=mem) (d:=d) (ty:=ty) (pos:=pos) (af:=af) (g:=g) hx hs hd;rwa [rQ h]at this
theorem vP(hx:al e x= .v (.int k m))(hs:(P.underlying t).isSome =true)(hd:P.underlying t2=some (.int .i64))(h:In64 m):bH P ⟨d,.convert t t2 x,ty,pos,af,g⟩ e mem (.v (.int .i64 m)):=by
 have:=GV (mem:=mem) (d:=d) (ty:=ty) (pos:=pos) (af:=af) (g:=g) hx hs hd;rwa [wrap_in h]at this
end
end Go.Proofs.YtfoaiidcfkmneaaGreatDoor
namespace Go.Proofs.YtfoaiidcfkmneaaGreatDoor
open Go Go.RowKit Go.Proofs
theorem size_mk(l:List UInt8):(⟨l.toArray⟩:ByteArray).size =l.length:=rfl
def jd(n:Int):Prop:=0<=n/\n<256
theorem LK{n:Int}(h:jd n):IntKind.u8.wrap n=n:=by
 unfold jd at h
 show n%(256:Int)=n
 omega
section
variable {P:Program} {N:Nat} {Q:AQ} {e:Nat->AV} {mem:List Ob} {d:Option Tmp} {ty t t2:TypeId} {pos:String} {af:Array Edge} {g:Option (Nat×Bool)} {x y z:Operand}
theorem ET{m n:Int}(hx:al e x= .v (.int .u8 m))(hy:al e y= .v (.int .u8 n))(h:jd (m - n)):bH P ⟨d,.binOp .sub t x y t2,ty,pos,af,g⟩ e mem (.v (.int .u8 (m - n))):=by
 have:=sP (P:=P) (mem:=mem) (d:=d) (ty:=ty) (t:=t) (t2:=t2) (pos:=pos) (af:=af) (g:=g) hx hy;rwa [LK h]at this
theorem EU{s:ByteArray}{a:Int}{ka:IntKind}(hx:al e x= .v (.string s))(hy:al e y= .v (.int ka a))(hu:P.underlying t=some .string)(h0:0<=a)(h1:a<=s.size):
 bH P ⟨d,.slice t x (some y) none none,ty,pos,af,g⟩ e mem (.v (.string (s.extract a.toNat s.size))):=by
 obtain⟨a,rfl⟩:∃ n:Nat,a=n:=⟨a.toNat,ah⟩;have h1:a<=s.size:=by omega
 refine l7 _ λev he w=>?_
 rw [A0 (he x cB _ hx) (he y cB _ hy),Sem.run_bind];simp [Instr.sliceAt,run_underlying hu,Instr.slice,Instr.sliceBounds,Instr.sliceBound,asIntOf,h1,Sem.run_bind]
theorem OQ{s:ByteArray}{b:Int}{kb:IntKind}(hx:al e x= .v (.string s))(hz:al e z= .v (.int kb b))(hu:P.underlying t=some .string)(h0:0<=b)(h1:b<=s.size):
 bH P ⟨d,.slice t x none (some z) none,ty,pos,af,g⟩ e mem (.v (.string (s.extract 0 b.toNat))):=by
 obtain⟨b,rfl⟩:∃ n:Nat,b=n:=⟨b.toNat,ah⟩;have h1:b<=s.size:=by omega
 refine l7 _ λev he w=>?_
 rw [A4 (he x cB _ hx) (he z cB _ hz),Sem.run_bind];simp [Instr.sliceAt,run_underlying hu,Instr.slice,Instr.sliceBounds,Instr.sliceBound,asIntOf,h1,Sem.run_bind]
def isIf:Option TypeDesc->Bool
 | some (.interface _)=>true
 | _=>false
theorem rK{o:Option TypeDesc}(h:isIf o=true):∃ ms,o=some (.interface ms):=by
 cases o with
 | none=>cases h
 | some q=>cases q<;>first|exact⟨_,rfl⟩|(simp [isIf]at h;done)
theorem LL(hx:al e x= .v .nilIface)(hi:isIf (P.underlying t)=true):bH P ⟨d,.binOp .eql t x (.const .nilIface) t2,ty,pos,af,g⟩ e mem (.v (.bool true)):=
 pC hx rfl λw=>by
  obtain⟨ms,hu⟩:=rK hi;have:(Op.equalIn (Op.maxDepth - 1+1) t .nilIface .nilIface).run P w= .ok true w:=by
   unfold Op.equalIn;simp [Sem.run_bind,run_underlying hu]
  have h2:Op.maxDepth - 1+1=Op.maxDepth:=rfl;rw [h2]at this;simp [eqGuard,binOp,Op.equal,Sem.run_bind,this]
theorem LM{te:TypeId}{pe:Value}(hx:al e x= .v (.iface te pe))(hi:isIf (P.underlying t)=true):bH P ⟨d,.binOp .eql t x (.const .nilIface) t2,ty,pos,af,g⟩ e mem (.v (.bool false)):=
 pC hx rfl λw=>by
  obtain⟨ms,hu⟩:=rK hi;have:(Op.equalIn (Op.maxDepth - 1+1) t (.iface te pe) .nilIface).run P w= .ok false w:=by
   unfold Op.equalIn;simp [Sem.run_bind,run_underlying hu]
  have h2:Op.maxDepth - 1+1=Op.maxDepth:=rfl;rw [h2]at this;simp [eqGuard,binOp,Op.equal,Sem.run_bind,this]
def GW(P:Program)(o:Oper)(e:Nat->AV)(mem:List Ob)(Ψ:AV->Prop):Prop:=
 ∀ (pb:Nat->Prop) (w0:Bs) (θ:List Value) (w:World) (ev:Nat->Value),cr pb w0 w θ mem->(∀ x∈o.op.operands,R1 θ (aP pb θ mem) w (al e x) (aZ ev x))->
  dt P (λv w'=>∃ r,Ψ r/\R1 θ (aP pb θ mem) w' r v/\Ext w w') ((execOp (aZ ev) o).run P w)
theorem Qr{ops:Array Oper}{l:List Oper}{o:Oper}{Ψ:AV->Prop}(ho:GW P o e mem Ψ)(hg:Gd ops o e)(hd:dV N o.dst=true)(h:∀ r,Ψ r->AL P N ops l Q (aT e o.dst r) mem):AL P N ops (o::l) Q e mem:=by
 intro pb w0 θ a w hf
 show(if Region.wanted o (yielded ops a.tmps)then _ else _)
 rw [if_pos (mH hf hg)];refine .inl (Oper.xr (φ:=λv w'=>∃ r,Ψ r/\R1 θ (aP pb θ mem) w' r v/\Ext w w') ?_ ?_)
 ·rintro v w' ⟨r,h0,h1,h2⟩;have hs:=Step.ext hf.sim h2;exact kS (λ_ _ _ hq=>hq.after hs) (h r h0 pb w0 θ _ w' (hf.put hs hd h1))
 ·rw [gQ];exact ho pb w0 θ w _ hf.sim λx _=>j8 hf x
theorem Ju{gs:List (Nat×List AV)}{f:FuncId}{as:Array Operand}{ts:Array TypeId}{args:List AV}{Ψ:AV->Prop}(hargs:dc e as.toList=args)(hro:cS.roL args=true){j:Nat}(hg:mem[j]? =some (.bY gs))(hc:iF P gs f args Ψ)(eH:∀ args w,(callFunc f args).run P w= .ok (.enter f args) w):
 GW P ⟨d,.call ⟨.value (.func f),as,ts⟩,ty,pos,af,g⟩ e mem Ψ:=by
 intro pb w0 θ w ev hs h;have hvs:(as.toList.map (aZ ev)).length =args.length:=by rw [<- hargs];simp [dc]
 rw [ly (f:=.func (.func f) #[] #[]) rfl rfl];refine qn eH ((hc (aP pb θ mem) w _ hvs (λi a v ha hv=>?_) (λx hx=>?_)).mono ?_)
 ·have ha':=ha;rw [<- hargs,dc,SU]at ha';rw [SU]at hv;cases hx:as.toList[i]? with
  | none=>rw [hx]at hv;cases hv
  | some x=>
   rw [hx]at ha' hv;simp at ha' hv;subst ha' hv;have hmem:x∈as:=by have:=S9 hx;simpa using this
   exact(h x nT).iN (hP hro ha)
 ·exact hs.bY hg x hx
 ·rintro en w' ⟨q,v,he,h3,h4,h5⟩;exact⟨v,he,q,h3,.ro (R0.back hs h4),h5⟩
end
end Go.Proofs.YtfoaiidcfkmneaaGreatDoor
