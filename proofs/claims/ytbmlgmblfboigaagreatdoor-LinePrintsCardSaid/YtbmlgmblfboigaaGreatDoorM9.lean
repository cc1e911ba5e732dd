/- Texts of this claim, one behind the other: lemmas for the statement. -/
import Derived.Test.YtbmlgmblfboigaaGreatDoorM8
import Derived.Test.YtbmlgmblfboigaaGreatDoorT0
import Derived.Test.YtbmlgmblfboigaaGreatDoorA42
import Derived.Shelf.Strings.OnBuilder
import Derived.Test.YtbmlgmblfboigaaGreatDoorM7
import Derived.Lib.IndexLaws
import Derived.Shelf.Strings.FuncGrows
import Derived.Test.YtbmlgmblfboigaaGreatDoorY1
import Derived.Test.YtbmlgmblfboigaaGreatDoorA53
import Derived.Test.YtbmlgmblfboigaaGreatDoorM5
set_option maxRecDepth 100000
set_option maxHeartbeats 4000000
set_option linter.unusedSimpArgs false
set_option linter.unusedVariables false
namespace Go.Proofs.YtbmlgmblfboigaaGreatDoor
open Go Go.RowKit Go.Proofs Go.Lib
def bs(l:List UInt8):ByteArray:=⟨l.toArray⟩
theorem lS(a b:List UInt8):bs a++bs b=bs (a++b):=by
 apply ByteArray.ext;rw [ByteArray.data_append];simp [bs]
theorem ib(l:List UInt8):(bs l).size =l.length:=rfl
theorem jy(l:List UInt8):(bs l).data.toList =l:=rfl
theorem Jl(l:List UInt8):(bs l).toList =l:=by
 have:=extract_toList (bs l) 0 (bs l).size;rw [ByteArray.extract_zero_size]at this;rw [this,jy,ib];simp
theorem o8(s:ByteArray):bs s.data.toList=s:=rfl
theorem uG(l:List UInt8)(a b:Nat):(bs l).extract a b=bs ((l.drop a).take (b - a)):=by
 have h:=extract_data (bs l) a b;rw [jy]at h;rw [<- o8 ((bs l).extract a b),h]
theorem FD(l:List UInt8)(c:UInt8): -1<=indexByte l c/\indexByte l c<l.length:=by
 induction l with
 | nil=>simp [indexByte]
 | cons a l ih=>
  simp only [indexByte,Tj]
  split
  ·omega
  ·split
   ·omega
   ·omega
end Go.Proofs.YtbmlgmblfboigaaGreatDoor
namespace Go.Proofs.YtbmlgmblfboigaaGreatDoor
open Go Go.RowKit Go.Proofs Go.Shelf Go.Lib
theorem mo:bZ Tryz.prog 109 1 1 false 1:=by unfold bZ;kernel_rfl
theorem v7:∀ args w,(callFunc 99 args).run Tryz.prog w= .ok (.enter 99 args) w:=λ_ _=>by kernel_rfl
theorem qk:bI Tryz.prog 107 5 1 1 (.int .u8 0):=⟨by kernel_rfl,by kernel_rfl,by kernel_rfl⟩
theorem v8:(Tryz.prog.info? 107).map (·.size)=some 1:=by kernel_rfl
theorem ql:aN Tryz.prog 107 false 1:=⟨by kernel_rfl,by kernel_rfl⟩
theorem Jm:Tryz.prog.underlying 152=some (.pointer 5):=by kernel_rfl
def Ae:Ren:=⟨λn=>if n=240 then 99 else 119,λn=>if n=4 then 4 else if n=5 then 5 else if n=9 then 9 else if n=20 then 20 else if n=37 then 107 else if n=70 then 106 else if n=72 then 109 else if n=164 then 178 else 0,λn=>n⟩
theorem FG:Lays.n240 Tryz.prog Ae:= {mixed:=by kernel_rfl,f240:=by kernel_rfl,f276:=by kernel_rfl,t0:=by kernel_rfl,a0:=λ_=>by kernel_rfl,z0:=λ_=>by kernel_rfl,v0:=λ_=>by kernel_rfl,t4:=by kernel_rfl,a4:=λ_=>by kernel_rfl,z4:=λ_=>by kernel_rfl,v4:=λ_=>by kernel_rfl,t9:=by kernel_rfl,a9:=λ_=>by kernel_rfl,z9:=λ_=>by kernel_rfl,v9:=λ_=>by kernel_rfl,t20:=by kernel_rfl,a20:=λ_=>by kernel_rfl,z20:=λ_=>by kernel_rfl,v20:=λ_=>by kernel_rfl,t70:=by kernel_rfl,a70:=λ_=>by kernel_rfl,z70:=λ_=>by kernel_rfl,v70:=λ_=>by kernel_rfl,t72:=by kernel_rfl,a72:=λ_=>by kernel_rfl,z72:=λ_=>by kernel_rfl,v72:=λ_=>by kernel_rfl,t164:=by kernel_rfl,a164:=λ_=>by kernel_rfl,z164:=λ_=>by kernel_rfl,v164:=λ_=>by kernel_rfl}
theorem Gq:Builder.X72 Tryz.prog Ae:=⟨by kernel_rfl,by kernel_rfl⟩
theorem Ey{θ:List Value}{pr:Nat->Prop}{w:World}{o:Nat}{vs:List Value}{j:Nat}(h1:vs.length= [AV.ptr j o].length)(h2:∀ (i:Nat) (b:AV) (x:Value),[AV.ptr j o][i]? =some b->vs[i]? =some x->R1 θ pr w b x):∃ b y,vs= [.pointer (some ⟨b,o,none⟩)]/\θ[j]? =some y/\cg y=some b:=by
 match vs,h1 with
 | [v],_=>
  obtain⟨b,y,h3,h4,rfl⟩:=(h2 0 _ v rfl rfl).fC;exact⟨b,y,rfl,h3,h4⟩
theorem zy(a:AV)(l:List Ob):iY Tryz.prog [] 99 [.ptr 1 0] (.box 109 [.ptr 1 0,a]::l) (.tuple []) (.box 109 [.ptr 1 0,a]::l):=by
 intro pb w θ vs hs h1 h2;obtain⟨b,y,rfl,h3,h4⟩:=Ey h1 h2;obtain⟨b',xs,q1,rfl,q3,q4,q5⟩:=hs.ob 1 (.box _ _) y rfl h3;cases h4
 match xs,q4 with
 | [x0,x1],_=>
  obtain⟨b2,y2,r1,r2,rfl⟩:=(q5 0 _ x0 rfl rfl).fC;rw [h3]at r1;cases r1;cases r2;refine(Any.Builder_copyCheck_used FG Gq b' w (by simp [World.cell?,q3])).mono ?_;rintro en w' ⟨rfl,rfl⟩;exact⟨.tuple [],.tuple #[],θ,_,.tuple [] [] rfl (λi a u ha=>by simp at ha),Step.refl hs,by simp,.inl ⟨rfl,rfl,rfl⟩⟩
theorem G3(a:AV):iY Tryz.prog [] 99 [.ptr 1 0] [.box 109 [.v (.pointer none),a]] (.tuple []) [.box 109 [.ptr 1 0,a]]:=by
 intro pb w θ vs hs h1 h2;obtain⟨b,y,rfl,h3,h4⟩:=Ey h1 h2;obtain⟨b',xs,q1,rfl,q3,q4,q5⟩:=hs.ob 1 (.box _ _) y rfl h3;cases h4
 match xs,q4 with
 | [x0,x1],_=>
  have e0:=(q5 0 _ x0 rfl rfl).val;subst e0;refine(Any.Builder_copyCheck_fresh FG Gq b' w (by simp [World.cell?,q3]) (by simp only [World.shape?,q3];rfl) (Go.Lib.frozen_of_heap q3 0)).mono ?_;rintro en w' ⟨rfl,rfl⟩;have hb:w.setCell ⟨b',0,none⟩ (.pointer (some ⟨b',0,none⟩))=w.setCell ⟨b',0,none⟩ (.pointer (some ⟨b',0,none⟩)):=rfl;refine⟨.tuple [],.tuple #[],θ,_,.tuple [] [] rfl (λi a u ha=>by simp at ha),Step.write hs (j:=1) (o':=.box _ [.ptr 1 0,a]) rfl (by simp) h3 ?_ ?_ ?_,by simp,.inl ⟨rfl,rfl,rfl⟩⟩
  ·exact⟨rfl,rfl,rfl,by simp [World.setCell],λk hk=>by omega⟩
  ·intro b hb hne;exact heap_setCell_other w _ b _ (λe=>hne (by rw [e];rfl))
  ·intro pr keep;refine⟨b',[.pointer (some ⟨b',0,none⟩),x1],q1,rfl,heap_setCell_same w b' 0 _ _ _ q3,rfl,λi a2 x ha hx=>?_⟩;rcases i with _|_|i
   ·simp at ha hx;subst ha hx;exact .ptr 1 0 b' _ h3 rfl
   ·simp at ha hx;subst ha hx;exact keep _ _ (q5 1 _ x1 rfl rfl)
   ·simp at ha
theorem GV(s:ByteArray)(hs:s.size<=1000000):iY Tryz.prog [] 76 [.ptr 1 0,.v (.string s)] [.box 109 [.v (.pointer none),.v (.slice none 0 0)]] (.tuple [.v (.int .i64 s.size),.v .nilIface]) [.box 109 [.ptr 1 0,.own 2],.row 5 1 (s.data.toList.map bE)]:=by
 refine nI (fn:=Tryz.f76) [] 19 (by kernel_rfl) rfl (by kernel_rfl) (S8 rfl) ?_;intro aK aW hA am;have aM:ag aK (.tmp 0)=_:=hA 0 _ rfl;have aN:ag aK (.tmp 1)=_:=hA 1 _ rfl;have av:aW.length=2:=by rw [am];rfl
 have aO:=nY am;have az:=pN am;clear hA am;refine aj<|at_<|ar (aw al) rfl<|ar (aw al) rfl<|aY (u2 rfl aM) (u2 rfl aN) ?_;clear aM aN;intro a8 aA aP
 refine ai<|aj<|at_<|ar (ah aA) rfl<|aL (ig (ic (G3 (.v (.slice none 0 0))) [1] av (ax aa aI) (by exact .nil) (by decide) (.ob az .nil) rfl v7) (iI rfl)) trivial rfl (λaZ an=>?_)
 have ab:aZ[1]? =some _:=gv an (S8 rfl) (by decide) (ee az gA) 0 rfl rfl
 (try simp only [Ob.rn,rn,rn.rnL,rho,Tj,Tq,TI,TF,TK,Nat.reduceAdd,Nat.reduceSub,TB,TG]at ab)
 (try simp only [pS,Value.cells,Nat.reduceAdd]at ab)
 have aQ:=dE an (S8 rfl) aO (by decide);have aD:_=2:=hZ an av 0 rfl;clear an aO az av;refine aY (u2 rfl aA) (u2 rfl aP) ?_;clear aA aP;intro a9 aE aF;refine ai<|aj<|at_<|ar (ah aE) rfl<|ar (ah (ae rfl aE)) rfl<|ar (bC aa) rfl<|ar (aB mo rfl aa) rfl<|ar (ak (aC ql rfl ab aa (by exact au rfl)) (by(simp only [pS,Value.cells,Nat.reduceAdd]<;>rfl))) rfl ?_
 refine ar (ah (ae rfl (u4 rfl aF))) rfl<|aL (LC qk eI aD (ae rfl aa) aa (by omega)) trivial rfl (λba ad=>?_)
 have ap:=bH ad aD
 (try simp only [pS,Value.cells,Nat.reduceAdd]at ap)
 have aG:=aJ ad ab;have aR:=aJ ad aQ;have aH:=bG ad aD;have aH:_=3:=aH;clear ad ab aQ;refine ar (bC (u2 rfl (u4 rfl aa))) rfl<|ar (aB mo rfl aa) rfl<|aL (kS aa (u2 rfl aa) aG ap v8 (by exact au rfl)) trivial rfl (λbb af=>?_)
 have aU:=bk af aG
 (try simp only [pS,Value.cells,Nat.reduceAdd]at aU)
 have a2:=ao af ap (by decide);have a3:=ao af aR (by decide);have a5:=bc af aH;clear af ap aG aR;refine aT (ay (ae rfl (u8 rfl aF))) ?_;clear aE aF;intro be aV;refine ai<|aj<|at_<|ar (ah aV) rfl<|ar (hH aa rfl eI) rfl<|ar (aw aa) rfl<|ar (aw al) rfl<|aY (ae rfl aa) aa ?_;clear aV;intro bf a6 a7
 refine ai<|aX<|nQ (.inr rfl) [1,2] a5 a3 (by decide) rfl (Gk (by kernel_rfl) (aS a6) (aS a7)) (jX aU ?_ (jX a2 ?_ .nil)) ?_
 all_goals (rfl)
theorem G1(s:ByteArray)(els:List (List AV))(hs:s.size<=1000000)(he:els.length<=1000000000):iY Tryz.prog [] 76 [.ptr 1 0,.v (.string s)] [.box 109 [.ptr 1 0,.own 2],.row 5 1 els] (.tuple [.v (.int .i64 s.size),.v .nilIface]) [.box 109 [.ptr 1 0,.own 3],.gone,.row 5 1 (els++s.data.toList.map bE)]:=by
 refine nI (fn:=Tryz.f76) [] 19 (by kernel_rfl) rfl (by kernel_rfl) (S8 rfl) ?_;intro aM a2 hA ab;have aN:ag aM (.tmp 0)=_:=hA 0 _ rfl;have aO:ag aM (.tmp 1)=_:=hA 1 _ rfl;have aD:a2.length=3:=by rw [ab];rfl
 have aP:=nY ab;have ap:=pN ab;have av:=vd ab;clear hA ab;refine aj<|at_<|ar (aw al) rfl<|ar (aw al) rfl<|aY (u2 rfl aN) (u2 rfl aO) ?_;clear aN aO;intro a9 aE aQ
 refine ai<|aj<|at_<|ar (ah aE) rfl<|aL (ig (ic (zy (.own 2) [.row 5 1 els]) [1,2] aD (ax aa aI) (by exact .nil) (by decide) (.ob ap (.ob av .nil)) rfl v7) (iI rfl)) trivial rfl (λaR ad=>?_)
 have af:aR[1]? =some _:=gv ad (S8 rfl) (by decide) (ee ap (ee av gA)) 0 rfl rfl
 (try simp only [Ob.rn,rn,rn.rnL,rho,Tj,Tq,TI,TF,TK,Nat.reduceAdd,Nat.reduceSub,TB,TG]at af)
 (try simp only [pS,Value.cells,Nat.reduceAdd]at af)
 have az:aR[2]? =some _:=gv ad (S8 rfl) (by decide) (ee ap (ee av gA)) 1 rfl rfl
 (try simp only [Ob.rn,rn,rn.rnL,rho,Tj,Tq,TI,TF,TK,Nat.reduceAdd,Nat.reduceSub,TB,TG]at az)
 (try simp only [pS,Value.cells,Nat.reduceAdd]at az)
 have aU:=dE ad (S8 rfl) aP (by decide);have aF:_=3:=hZ ad aD 0 rfl;clear ad aP ap av aD;refine aY (u2 rfl aE) (u2 rfl aQ) ?_;clear aE aQ;intro ba aG aH;refine ai<|aj<|at_<|ar (ah aG) rfl<|ar (ah (ae rfl aG)) rfl<|ar (bC aa) rfl<|ar (aB mo rfl aa) rfl<|ar (ak (aC ql rfl af aa (by exact au rfl)) (by(simp only [pS,Value.cells,Nat.reduceAdd]<;>rfl))) rfl ?_
 refine ar (ah (ae rfl (u4 rfl aH))) rfl<|aL (O2 qk eI aF az (ae rfl aa) aa (by omega)) trivial rfl (λbb am=>?_)
 have aA:=pE am aF
 (try simp only [pS,Value.cells,Nat.reduceAdd]at aA)
 have aJ:=fU am af (by decide);have aV:=fU am aU (by decide);have aK:=oN am aF;have aK:_=4:=aK;clear am af az aU;refine ar (bC (u2 rfl (u4 rfl aa))) rfl<|ar (aB mo rfl aa) rfl<|aL (kS aa (u2 rfl aa) aJ aA v8 (by exact au rfl)) trivial rfl (λbe an=>?_)
 have aW:=bk an aJ
 (try simp only [pS,Value.cells,Nat.reduceAdd]at aW)
 have a3:=ao an aA (by decide);have a5:=ao an aV (by decide);have a6:=bc an aK;clear an aA aJ aV;refine aT (ay (ae rfl (u8 rfl aH))) ?_;clear aG aH;intro bf aZ;refine ai<|aj<|at_<|ar (ah aZ) rfl<|ar (hH aa rfl eI) rfl<|ar (aw aa) rfl<|ar (aw al) rfl<|aY (ae rfl aa) aa ?_;clear aZ;intro bg a7 a8
 refine ai<|aX<|nQ (.inr rfl) [1,2,3] a6 a5 (by decide) rfl (Gk (by kernel_rfl) (aS a7) (aS a8)) (jX aW ?_ (.gone (jX a3 ?_ .nil))) ?_
 all_goals (rfl)
theorem G7(c:UInt8)(els:List (List AV))(he:els.length<=1000000000):iY Tryz.prog [] 77 [.ptr 1 0,.v (.int .u8 c.toNat)] [.box 109 [.ptr 1 0,.own 2],.row 5 1 els] (.v .nilIface) [.box 109 [.ptr 1 0,.own 3],.gone,.row 5 1 (els++ [bE c])]:=by
 refine nI (fn:=Tryz.f77) [] 17 (by kernel_rfl) rfl (by kernel_rfl) (S8 rfl) ?_;intro aJ aW hA ab;have aK:ag aJ (.tmp 0)=_:=hA 0 _ rfl;have aM:ag aJ (.tmp 1)=_:=hA 1 _ rfl;have aA:aW.length=3:=by rw [ab];rfl
 have aN:=nY ab;have ap:=pN ab;have av:=vd ab;clear hA ab;refine aj<|at_<|ar (aw al) rfl<|aY (ae rfl aK) (ae rfl aM) ?_;clear aK aM;intro a6 aD aO
 refine ai<|aj<|at_<|ar (ah aD) rfl<|aL (ig (ic (zy (.own 2) [.row 5 1 els]) [1,2] aA (ax aa aI) (by exact .nil) (by decide) (.ob ap (.ob av .nil)) rfl v7) (iI rfl)) trivial rfl (λaP ad=>?_)
 have af:aP[1]? =some _:=gv ad (S8 rfl) (by decide) (ee ap (ee av gA)) 0 rfl rfl
 (try simp only [Ob.rn,rn,rn.rnL,rho,Tj,Tq,TI,TF,TK,Nat.reduceAdd,Nat.reduceSub,TB,TG]at af)
 (try simp only [pS,Value.cells,Nat.reduceAdd]at af)
 have ay:aP[2]? =some _:=gv ad (S8 rfl) (by decide) (ee ap (ee av gA)) 1 rfl rfl
 (try simp only [Ob.rn,rn,rn.rnL,rho,Tj,Tq,TI,TF,TK,Nat.reduceAdd,Nat.reduceSub,TB,TG]at ay)
 (try simp only [pS,Value.cells,Nat.reduceAdd]at ay)
 have aQ:=dE ad (S8 rfl) aN (by decide);have aE:_=3:=hZ ad aA 0 rfl;clear ad aN ap av aA;refine aY (u2 rfl aD) (u2 rfl aO) ?_;clear aD aO;intro a7 aF aR;refine ai<|aj<|at_<|ar (ah aF) rfl<|ar (ah (ae rfl aF)) rfl<|ar (bC aa) rfl<|ar (aB mo rfl aa) rfl<|ar (ak (aC ql rfl af aa (by exact au rfl)) (by(simp only [pS,Value.cells,Nat.reduceAdd]<;>rfl))) rfl ?_
 refine ar (ah (ae rfl (u4 rfl aR))) rfl<|ar (dT qk (bo aa bY) rfl rfl rfl rfl) rfl<|aL (nP qk rfl aE ay (u2 rfl aa) aa (by rfl) (by(simp only [bn]<;>omega))) trivial rfl (λa8 am=>?_)
 have az:=pE am aE
 (try simp only [pS,Value.cells,Nat.reduceAdd]at az)
 have aG:=fU am af (by decide);have aU:=fU am aQ (by decide);have aH:=oN am aE;have aH:_=4:=aH;clear am af ay aQ;refine ar (bC (ae rfl (u2 rfl (u4 rfl aa)))) rfl<|ar (aB mo rfl aa) rfl<|aL (kS aa (u2 rfl aa) aG az v8 (by exact au rfl)) trivial rfl (λa9 an=>?_)
 have aV:=bk an aG
 (try simp only [pS,Value.cells,Nat.reduceAdd]at aV)
 have aZ:=ao an az (by decide);have a2:=ao an aU (by decide);have a3:=bc an aH;clear an az aG aU;refine lu ?_;clear aF aR;intro ba;refine ai<|aj<|at_<|ar (aw al) rfl<|aT aa ?_;intro bb a5
 refine ai<|aX<|nQ (.inr rfl) [1,2,3] a3 a2 (by decide) rfl (iW (by kernel_rfl) (aS a5)) (jX aV ?_ (.gone (jX aZ ?_ .nil))) ?_
 all_goals (rfl)
theorem Jn(l:List UInt8)(h0:0<l.length)(hl:l.length<=1000000000):iY Tryz.prog [] 41 [.ptr 1 0] [.box 109 [.ptr 1 0,.own 2],.row 5 1 (l.map bE)] (.v (.string (bs l))) [.box 109 [.ptr 1 0,.own 2],.gone]:=by
 refine nI (fn:=Tryz.f41) [] 14 (by kernel_rfl) rfl (by kernel_rfl) (S8 rfl) ?_;intro ax ay hA ab;have ap:ag ax (.tmp 0)=_:=hA 0 _ rfl;have az:ay.length=3:=by rw [ab];rfl
 have av:=nY ab;have am:=pN ab;have ad:=vd ab;clear hA ab;refine aj<|at_<|ar (aw al) rfl<|aT (ae rfl ap) ?_;clear ap;intro aH an
 refine ai<|aj<|ey 10 (by kernel_rfl) (by kernel_rfl) (by kernel_rfl) (by kernel_rfl) ?_
 refine dr (ah an) rfl<|dr (bC aa) rfl<|dr (aB mo rfl aa) rfl<|dr (ak (aC ql rfl am aa (by exact au rfl)) (by(simp only [pS,Value.cells,Nat.reduceAdd]<;>rfl))) rfl ?_
 refine dr (QK aa ad (by simpa using h0)) rfl ?_;refine dr (ah (ae rfl (u4 rfl an))) rfl<|dr (bC aa) rfl<|dr (aB mo rfl aa) rfl<|dr (ak (aC ql rfl am aa (by exact au rfl)) (by(simp only [pS,Value.cells,Nat.reduceAdd]<;>rfl))) rfl ?_
 refine dr (ak (qi aa ad rfl qk.1) (by(simp only [bn]<;>rfl))) rfl ?_;refine dP<|aL (O3 Jm (by kernel_rfl) (ae rfl (u4 rfl aa)) aa ad (by(simp only [bn]<;>rfl)) (by simpa using h0) (by omega)) trivial rfl (λaI af=>?_)
 have aA:=bk af ad;have aD:=ao af av (by decide);have aE:=ao af am (by decide);have aF:=bc af az;clear af av am ad;clear aA;refine ar (aw aa) rfl<|aT aa ?_;clear an;intro aJ aG
 refine ai<|aX<|nQ (.inr rfl) [1,2] aF aD (by decide) rfl (iW (by kernel_rfl) (aS aG)) (jX aE ?_ (.gone .nil)) ?_
 all_goals (rfl)
end Go.Proofs.YtbmlgmblfboigaaGreatDoor
namespace Go.Proofs.YtbmlgmblfboigaaGreatDoor
open Go Go.RowKit Go.Proofs Go.Lib
theorem Az:∀ args w,(callFunc 101 args).run Tryz.prog w= .ok (.enter 101 args) w:=λ_ _=>by kernel_rfl
theorem BL:bI Tryz.prog 107 5 1 1 (.int .u8 0):=⟨by kernel_rfl,by kernel_rfl,by kernel_rfl⟩
theorem S7(x:UInt8):(⟨#[x]⟩:ByteArray)=bs [x]:=rfl
def rG(n m:Int)(l:List UInt8):Prop:=(m=0/\l=decDigits n.natAbs)\/(m≠0/\decDigits m.natAbs++l=decDigits n.natAbs)
theorem AA{n m:Int}{l:List UInt8}(hm:m≠0)(h:rG n m l){x:UInt8}(hx:x=UInt8.ofNat (48+(m.tmod 10).natAbs)):rG n (m.tdiv 10) ([x]++l):=by
 have hd:(m.tdiv 10).natAbs =m.natAbs/10:=by rw [Int.natAbs_tdiv];rfl
 have hr:(m.tmod 10).natAbs =m.natAbs%10:=by rw [Int.natAbs_tmod];rfl
 subst hx;rw [hr];rcases h with⟨h0,_⟩|⟨_,h1⟩
 ·exact absurd h0 hm
 ·by_cases h2:m.natAbs<10
  ·left
   refine⟨by omega,?_⟩;rw [<- h1,kU h2,Nat.mod_eq_of_lt h2]
  ·right
   refine⟨by omega,?_⟩;rw [<- h1,o6 h2,hd];simp
theorem BM{n m:Int}{l:List UInt8}(hn:In64 n)(h:rG n m l):l.length<=25:=by
 have:=itoa_length_le n (by unfold In64 at hn;omega) (by unfold In64 at hn;omega);have h2:(decDigits n.natAbs).length <=(itoa n).length :=by
  unfold itoa
  split
  ·simp
  ·rw [show n.toNat=n.natAbs by omega];exact Tf _
 rcases h with⟨_,h1⟩|⟨_,h1⟩
 ·rw [h1];omega
 ·have:=congrArg List.length h1;rw [TM]at this;omega
theorem GN(m:Int):(m.tmod 10).natAbs <=9/\(m.tdiv 10).natAbs =m.natAbs/10:=by
 have hd:(m.tdiv 10).natAbs =m.natAbs/10:=by rw [Int.natAbs_tdiv];rfl
 have hr:(m.tmod 10).natAbs =m.natAbs%10:=by rw [Int.natAbs_tmod];rfl
 omega
theorem AB(m:Int):y8 m=m.natAbs:=by unfold y8;omega
theorem Iw(n:Int)(hn:In64 n):bF Tryz.prog 79 [.v (.int .i64 n)] (λq=>q= .v (.string (bs (itoa n)))):=by
 have hn':=hn;unfold In64 at hn';refine ck (fn:=Tryz.f79) 27 (by kernel_rfl) rfl (by kernel_rfl) (S8 rfl) ?_;intro bx bz hA aL;have aM:ag bx (.tmp 0)=_:=hA 0 _ rfl;have ay:bz.length=0:=by rw [aL];rfl
 clear hA aL;refine aj<|at_<|ar (aw al) rfl<|aT (ae rfl aM) ?_;clear aM;intro bQ az
 refine ai<|aj<|aj<|at_<|ar (ah az) rfl<|ar (eH aa al) rfl ?_
 refine aY (u2 rfl az) aa ?_;clear az;intro bR aA aB;refine ai<|aW aB (λab=>?_) (λab=>?_)
 ·(replace ab:=bt ab)
  first
  | (cases ab;done)|(exfalso;omega)
  | (
   refine aj<|at_<|ar (aw al) rfl<|aT aa ?_;clear aA aB;intro bS aN
   refine ai<|aX<|bO<|bK (.inr rfl) (by kernel_rfl) (aS aN) (.ro _ rfl) ?_
   clear aN ay
   (have h0:n=0:=(by omega);rw [h0];unfold itoa;rw [if_neg (by decide),show(0:Int).toNat =0 from rfl,kU (by decide)];rfl))
 ·(replace ab:=bf ab)
  first
  | (cases ab;done)|(exfalso;omega)
  | (
   refine br<|ai<|aj<|at_<|ar (aw al) rfl<|ar (aw al) rfl<|bq (u2 rfl aA) (ae rfl aa) aa ?_;clear aA aB;intro bT aC aO aP
   refine ai<|aj<|aj<|at_<|ar (ah aC) rfl<|ar (cL aa al) rfl<|aZ (u2 rfl aC) (u2 rfl aO) (u2 rfl aP) aa ?_;clear aC aO aP;intro bA aD aE aF aQ
   refine ai<|aW aQ (λad=>?_) (λad=>?_)
   ·(replace ad:=bt ad)
    first
    | (cases ad;done)|(exfalso;omega)
    | (
     refine at_<|ar (aw al) rfl<|bq (ae rfl aD) (ae rfl aE) aa ?_;clear aD aE aF aQ;intro bB bC bD aR
     refine ai<|aj<|bP<|dN (S:=(Int×List UInt8)) (λs e mem=>match s with|⟨m,l⟩=>(ag e (.tmp 0)= .v (.int .i64 m))/\(ag e (.tmp 3)= .v (.string (bs l)))/\(ag e (.tmp 4)=ag bB (.tmp 4))/\(mem.length=0)/\((m.natAbs<=n.natAbs/\rG n m l))) (λs=>match s with|⟨m,l⟩=>m.natAbs) ⟨_,[]⟩ ⟨bC,bD,rfl,ay,?_⟩ ?_
     ·(exact⟨by omega,.inr ⟨by omega,by simp⟩⟩)
     ·rintro⟨m,l⟩ bU bV ⟨aG,aU,bE,aV,hinv⟩;have a2:=bE.trans aR
      (obtain⟨p1,p2⟩:=hinv;obtain⟨t1,t2⟩:=GN m;have hsz:=AB (m.tmod 10);have hll:=BM hn p2;have hbl:=ib l)
      refine aj<|aj<|at_<|ar (ah aG) rfl<|ar (ez aa al) rfl<|aZ (u2 rfl aG) (u2 rfl aU) (u2 rfl a2) aa ?_;clear aG aU a2;intro bW am an ao aH
      refine ai<|aW aH (λaf=>?_) (λaf=>?_)
      ·(replace af:=dR af)
       first
       | (cases af;done)|(exfalso;omega)
       | (
        refine br<|ai<|bP<|aj<|at_<|ar (ah am) rfl<|ar (ra aa al (by decide)) rfl ?_
        refine ar (aw aa) rfl<|aZ (ae rfl (u2 rfl am)) (ae rfl (u2 rfl an)) (ae rfl (u2 rfl ao)) aa ?_;clear am aH an ao;intro bX a3 a5 a6 a7
        refine ai<|aj<|at_<|ar (ah a7) rfl<|ar (bj (ax aa aI) rfl (BI _ (by omega)) Az) rfl ?_
        (refine ar (cj al aa ?_) rfl ?_; · ((unfold In64);omega))
        (refine ar (Fg aa (by kernel_rfl) (by kernel_rfl) ?_) rfl ?_; · ((unfold l7);omega))
        refine ar (dT BL (bo aa bY) rfl rfl rfl rfl) rfl<|ar (Fh yk eI zb aa (by unfold l7;omega)) rfl ?_
        refine ar (ah (u2 rfl (u4 rfl a5))) rfl ?_
        (refine ar (fB (ae rfl aa) aa ?_) rfl ?_; · (simp only [TY,size_mk,Tj,Tq]<;>omega))
        refine ar (aw aa) rfl<|bq (ae rfl (u8 rfl a3)) aa (ae rfl (u8 rfl a6)) ?_;clear a3 a5 a6 a7;intro bZ a8 a9 ba
        refine ai<|at_<|ar (ah a8) rfl ?_
        (refine ar (xq aa al (by decide) ?_) rfl ?_; · ((unfold In64);omega))
        refine ar (aw aa) rfl<|bq aa (ae rfl (u2 rfl a9)) (ae rfl (u2 rfl ba)) ?_;clear a8 a9 ba;intro b0 bG bH bI
        refine cv<|ai<|⟨⟨_,_⟩,⟨bG,bH,(bI.trans aR.symm),aV,?_⟩,?_⟩
        ·(exact⟨by omega,AA (by assumption) p2 (by congr 1;omega)⟩)
        ·((try dsimp only);omega))
      ·(replace af:=dG af)
       first
       | (cases af;done)|(exfalso;omega)
       | (
        refine dD<|b7<|b7<|dC<|ai<|aj<|at_<|ar (ah ao) rfl<|ar (ah (ae rfl an)) rfl ?_
        (refine ar (fB (ae rfl aa) aa ?_) rfl ?_; · (simp only [TY,size_mk,Tj,Tq]<;>omega))
        refine ar (aw aa) rfl<|aT aa ?_;clear am aH an ao;intro b1 bb
        refine ai<|aX<|bK (.inr rfl) (by kernel_rfl) (aS bb) (.ro _ rfl) ?_
        clear bb aV
        (rcases p2 with⟨_,q2⟩|⟨q1,_⟩<;>first|(exfalso;omega)|(unfold itoa;(rw [if_pos (by omega),q2]));rfl)))
   ·(replace ad:=bf ad)
    first
    | (cases ad;done)|(exfalso;omega)
    | (
     refine br<|ai<|aj<|bP<|dN (S:=(Int×List UInt8)) (λs e mem=>match s with|⟨m,l⟩=>(ag e (.tmp 0)= .v (.int .i64 m))/\(ag e (.tmp 3)= .v (.string (bs l)))/\(ag e (.tmp 4)=ag bA (.tmp 4))/\(mem.length=0)/\((m.natAbs<=n.natAbs/\rG n m l))) (λs=>match s with|⟨m,l⟩=>m.natAbs) ⟨_,[]⟩ ⟨aD,aE,rfl,ay,?_⟩ ?_
     ·(exact⟨by omega,.inr ⟨by omega,by simp⟩⟩)
     ·rintro⟨m,l⟩ b2 b6 ⟨aJ,bc,bJ,be,hinv⟩;have bg:=bJ.trans aF
      (obtain⟨p1,p2⟩:=hinv;obtain⟨t1,t2⟩:=GN m;have hsz:=AB (m.tmod 10);have hll:=BM hn p2;have hbl:=ib l)
      refine aj<|aj<|at_<|ar (ah aJ) rfl<|ar (ez aa al) rfl<|aZ (u2 rfl aJ) (u2 rfl bc) (u2 rfl bg) aa ?_;clear aJ bc bg;intro b8 ap au av aK
      refine ai<|aW aK (λak=>?_) (λak=>?_)
      ·(replace ak:=dR ak)
       first
       | (cases ak;done)|(exfalso;omega)
       | (
        refine br<|ai<|bP<|aj<|at_<|ar (ah ap) rfl<|ar (ra aa al (by decide)) rfl ?_
        refine ar (aw aa) rfl<|aZ (ae rfl (u2 rfl ap)) (ae rfl (u2 rfl au)) (ae rfl (u2 rfl av)) aa ?_;clear ap aK au av;intro b9 bh bk bm bn
        refine ai<|aj<|at_<|ar (ah bn) rfl<|ar (bj (ax aa aI) rfl (BI _ (by omega)) Az) rfl ?_
        (refine ar (cj al aa ?_) rfl ?_; · ((unfold In64);omega))
        (refine ar (Fg aa (by kernel_rfl) (by kernel_rfl) ?_) rfl ?_; · ((unfold l7);omega))
        refine ar (dT BL (bo aa bY) rfl rfl rfl rfl) rfl<|ar (Fh yk eI zb aa (by unfold l7;omega)) rfl ?_
        refine ar (ah (u2 rfl (u4 rfl bk))) rfl ?_
        (refine ar (fB (ae rfl aa) aa ?_) rfl ?_; · (simp only [TY,size_mk,Tj,Tq]<;>omega))
        refine ar (aw aa) rfl<|bq (ae rfl (u8 rfl bh)) aa (ae rfl (u8 rfl bm)) ?_;clear bh bk bm bn;intro ca bp bu bv
        refine ai<|at_<|ar (ah bp) rfl ?_
        (refine ar (xq aa al (by decide) ?_) rfl ?_; · ((unfold In64);omega))
        refine ar (aw aa) rfl<|bq aa (ae rfl (u2 rfl bu)) (ae rfl (u2 rfl bv)) ?_;clear bp bu bv;intro cb bL bM bN
        refine cv<|ai<|⟨⟨_,_⟩,⟨bL,bM,(bN.trans aF.symm),be,?_⟩,?_⟩
        ·(exact⟨by omega,AA (by assumption) p2 (by congr 1;omega)⟩)
        ·((try dsimp only);omega))
      ·(replace ak:=dG ak)
       first
       | (cases ak;done)|(exfalso;omega)
       | (
        refine dD<|b7<|b7<|dC<|ai<|aj<|at_<|ar (ah av) rfl<|ar (ah (ae rfl au)) rfl ?_
        (refine ar (fB (ae rfl aa) aa ?_) rfl ?_; · (simp only [TY,size_mk,Tj,Tq]<;>omega))
        refine ar (aw aa) rfl<|aT aa ?_;clear ap aK au av;intro cc bw
        refine ai<|aX<|bK (.inr rfl) (by kernel_rfl) (aS bw) (.ro _ rfl) ?_
        clear bw be
        (rcases p2 with⟨_,q2⟩|⟨q1,_⟩<;>first|(exfalso;omega)|(unfold itoa;(rw [if_neg (by omega),q2,show n.toNat=n.natAbs by omega]));rfl))))
theorem getD_some{l:List UInt8}{k:Nat}(h:k<l.length):l[k]? =some (l.getD k default):=by
 rw [Tc h,Ta,Tc h];rfl
theorem Gs{b:UInt8}{n:Nat}(h:b.toNat=n)(hn:n<256):b=UInt8.ofNat n:=by
 apply UInt8.toNat_inj.1;rw [UInt8.toNat_ofNat'];omega
theorem LR(l:List UInt8):cS l=1↔0<l.length/\(l.getD 0 default).toNat =45:=by
 unfold cS
 constructor
 ·intro h
  split at h
  ·rename_i hq
   have hl:=(S9.1 hq).1;rw [getD_some hl]at hq;exact⟨hl,by rw [Option.some.inj hq];rfl⟩
  ·cases h
 ·rintro⟨h1,h2⟩;rw [if_pos];rw [getD_some h1,Gs h2 (by decide)];rfl
theorem LS(l:List UInt8):cS l=0\/cS l=1:=by unfold cS;split<;>omega
theorem Pn{l:List UInt8}{D:Nat}(h:gK l D=true):cS l<l.length/\l.length - cS l<=D/\((l.getD (cS l) default).toNat =48->l.length<=1)/\ ∀ k:Nat,cS l<=k->k<l.length->48<=(l.getD k default).toNat /\(l.getD k default).toNat <=57:=by
 obtain⟨h1,h2,h3,h4,_⟩:=FB h;have hlt:cS l<l.length:=by
  have:=TT.2 h1;rw [T9]at this;omega
 refine⟨hlt,h2,λh5=>?_,λk h5 h6=>h4 k _ h5 (getD_some h6)⟩
 by_cases h6:l.length<=1
 ·exact h6
 ·exact absurd ⟨by rw [getD_some hlt,Gs h5 (by decide)];rfl,by omega⟩ h3
theorem wa{l:List UInt8}{D:Nat}{c:UInt8}(h:gK l D=true)(hc:c.toNat<45):∀ k:Nat,l[k]? ≠some c:=λk hk=>by
 obtain⟨n1,n2,n3,n4⟩:=Pn h;have hl:=(S9.1 hk).1;rw [getD_some hl]at hk;have hk':=Option.some.inj hk;have:=LS l
 by_cases hka:cS l<=k
 ·have:=n4 k hka hl;rw [hk']at this;omega
 ·have h1:cS l=1:=by omega
  have h2:=((LR l).1 h1).2;obtain rfl:k=0:=by omega
  rw [hk']at h2;omega
theorem FH(l:List UInt8)(tx:ByteArray):((⟨l.toArray⟩:ByteArray).toList ==tx.toList)=decide (l=tx.data.toList):=by
 have h1:(⟨l.toArray⟩:ByteArray).toList =l:=Jl l;rw [h1,toList_data];rw [UC];simp
theorem wc{l:List UInt8}{v:Int}(h:atoiAll l= .ok v)(D:Nat):gK l D=(decide (itoa v=l)&&decide ((trimPrefix l [45]).length <=D))/\gJ l=v:=by
 unfold gK gJ;rw [h];exact⟨rfl,rfl⟩
theorem LU{l:List UInt8}(h:∀ v,atoiAll l≠ .ok v)(D:Nat):gK l D=false:=by
 unfold gK;rcases hq:atoiAll l with v|_|_
 ·exact absurd hq (h v)
 ·rfl
 ·rfl
section
variable (es er:Value) (hes:eS es) (her:eS er) (tx:ByteArray) (hl:tx.size<=1000000)
include hl
include hes her
end
end Go.Proofs.YtbmlgmblfboigaaGreatDoor
namespace Go.Proofs.YtbmlgmblfboigaaGreatDoor
open Go Go.RowKit Go.Proofs Go.Shelf Go.Lib
def Ix:Go.Shelf.Ren:=⟨λ|102=>29|209=>64|207=>92|n=>n,λ|9=>9|4=>4|3=>3|n=>n,λ|n=>n⟩
theorem QV:Go.Proofs.Lays.n102 Tryz.prog Ix:= {
 mixed:=by kernel_rfl
 f102:=Tryz.func29.trans (congrArg some (by kernel_rfl))
 f207:=Tryz.func92.trans (congrArg some (by kernel_rfl))
 f209:=Tryz.func64.trans (congrArg some (by kernel_rfl))
 t3:=Tryz.underlying3
 a3:=Tryz.isAgg3
 z3:=Tryz.sizeOf3
 v3:=Tryz.zeroValue3
 t4:=Tryz.underlying4
 a4:=Tryz.isAgg4
 z4:=Tryz.sizeOf4
 v4:=Tryz.zeroValue4
 t9:=Tryz.underlying9
 a9:=Tryz.isAgg9
 z9:=Tryz.sizeOf9
 v9:=Tryz.zeroValue9}
def zj(n:Nat):Bool:=n==32||n==9
def blk(b:UInt8):Bool:=b==32||b==9
def pT(b:UInt8):Bool:= !blk b
theorem Po(b:UInt8):zj b.toNat=blk b:=by
 unfold zj blk;have e1:(b==32)=(b.toNat==32):=by
  rw [UC,beq_iff_eq,beq_iff_eq];exact⟨λh=>by rw [h];rfl,λh=>UInt8.toNat_inj.1 (by rw [h];rfl)⟩
 have e2:(b==9)=(b.toNat==9):=by
  rw [UC,beq_iff_eq,beq_iff_eq];exact⟨λh=>by rw [h];rfl,λh=>UInt8.toNat_inj.1 (by rw [h];rfl)⟩
 rw [e1,e2]
theorem Af{q:UInt8->Bool}:∀ {l:List UInt8} {j:Nat},j<l.length->q (l.getD j 0)=false->(∀ k,k<j->q (l.getD k 0)=true)->l.takeWhile q=l.take j/\l.dropWhile q=l.drop j
 | [],j,h,_,_=>by simp at h
 | a::l,0,_,h1,_=>by
  have h1':q a=false:=by simpa using h1
  simp [List.takeWhile,List.dropWhile,h1']
 | a::l,j+1,h,h1,h2=>by
  have ha:q a=true:=by simpa using h2 0 (by omega)
  obtain⟨e1,e2⟩:=Af (q:=q) (l:=l) (j:=j) (by simpa using h) (by simpa using h1) (λk hk=>by simpa using h2 (k+1) (by omega));simp [List.takeWhile,List.dropWhile,ha,e1,e2]
theorem AD{q:UInt8->Bool}:∀ {l:List UInt8},(∀ k,k<l.length->q (l.getD k 0)=true)->l.takeWhile q=l/\l.dropWhile q= []
 | [],_=>by simp
 | a::l,h=>by
  have ha:q a=true:=by simpa using h 0 (by simp)
  obtain⟨e1,e2⟩:=AD (q:=q) (l:=l) (λk hk=>by simpa using h (k+1) (by simpa using hk));simp [List.takeWhile,List.dropWhile,ha,e1,e2]
def ox(l:List UInt8):List UInt8:=l.dropWhile blk
def rM(l:List UInt8):List UInt8:=l.takeWhile pT
theorem Pq(s:ByteArray)(j:Nat):s.extract j s.size=bs (s.data.toList.drop j):=by
 rw [<- o8 s,uG,jy,ib,U1 (by rw [T9];omega)]
theorem Pv(s:ByteArray)(j:Nat):s.extract 0 j=bs (s.data.toList.take j):=by
 rw [<- o8 s,uG,jy];simp
theorem Hh(s p:ByteArray)(hs:s.size<=1000000000):bF Tryz.prog 29 [.v (.string s),.v (.string p)] (λq=>q= .v (.string (bs (trimSuffix s.data.toList p.data.toList)))):=by
 intro pr w vs h1 h2;rw [yE h1 h2];refine(Any.strings_TrimSuffix QV s p w (by omega)).mono ?_;rintro en w' ⟨rfl,rfl⟩;exact⟨_,_,rfl,rfl,.v _,Ext.refl _⟩
end Go.Proofs.YtbmlgmblfboigaaGreatDoor
namespace Go.Proofs.YtbmlgmblfboigaaGreatDoor
open Go Go.RowKit Go.Proofs
theorem sy:∀ args w,(callFunc 115 args).run Tryz.prog w= .ok (.enter 115 args) w:=λ_ _=>by kernel_rfl
theorem wN:bI Tryz.prog 153 30 1 8 (.int .i64 0):=⟨by kernel_rfl,by kernel_rfl,by kernel_rfl⟩
theorem Px:bI Tryz.prog 23 59 4 32 (.agg #[.int .i64 0,.int .i64 0,.int .i64 0,.int .i64 0]):=⟨by kernel_rfl,by kernel_rfl,by kernel_rfl⟩
theorem Py:bI Tryz.prog 24 95 2 16 (.agg #[.int .i64 0,.int .i64 0]):=⟨by kernel_rfl,by kernel_rfl,by kernel_rfl⟩
theorem LV:aN Tryz.prog 168 true 3:=⟨by kernel_rfl,by kernel_rfl⟩
theorem Pz:aN Tryz.prog 23 false 1:=⟨by kernel_rfl,by kernel_rfl⟩
theorem PC:aN Tryz.prog 24 false 1:=⟨by kernel_rfl,by kernel_rfl⟩
theorem mN:aN Tryz.prog 3 false 1:=⟨by kernel_rfl,by kernel_rfl⟩
theorem Ez:aN Tryz.prog 30 false 1:=⟨by kernel_rfl,by kernel_rfl⟩
theorem PD:aN Tryz.prog 59 true 4:=⟨by kernel_rfl,by kernel_rfl⟩
theorem PE:aN Tryz.prog 95 true 2:=⟨by kernel_rfl,by kernel_rfl⟩
theorem rN{a b:Int}(h:a=b):AV.v (.int .i64 a)= .v (.int .i64 b):=by rw [h]
abbrev kf(l:aU):List AV:= [.v (.string l.nam),.row 4 (l.js.map aF),.row 2 (l.bs.map aH),.row 3 (l.ss.map aK)]
theorem lF(n lo hi:Int):bF Tryz.prog 55 [mA n,mA lo,mA hi] (λq=>q=dH (dh n lo hi)):=by
 refine ck (fn:=Tryz.f55) 15 (by kernel_rfl) rfl (by kernel_rfl) (S8 rfl) ?_;intro ak aC hA ao;have ap:ag ak (.tmp 0)=_:=hA 0 _ rfl;have au:ag ak (.tmp 1)=_:=hA 1 _ rfl;have av:ag ak (.tmp 2)=_:=hA 2 _ rfl;have ax:aC.length=0:=by rw [ao];rfl
 clear hA ao;refine aj<|at_<|ar (aw al) rfl<|bq (ae rfl ap) (ae rfl au) (ae rfl av) ?_;clear ap au av;intro aD af am an
 refine ai<|aj<|at_<|ar (ah am) rfl<|ar (ah (ae rfl af)) rfl<|ar (fD (ae rfl aa) aa) rfl<|ar (ah aa) rfl<|bM aa (λab ad=>?_) (λab ad=>?_)
 ·replace ad:=bt ad;refine aA (ah (u4 rfl af)) ⟨_,rfl,ab⟩ rfl ?_;refine aA (ah (ae rfl (u4 rfl an))) ⟨_,rfl,(ae rfl ab)⟩ rfl ?_;refine aA (fD (ae rfl aa) aa) ⟨_,rfl,(u2 rfl ab)⟩ rfl ?_;refine ar (bD (ae rfl (u2 rfl ab)) aa) rfl<|ar (aw aa) rfl<|aT aa ?_;clear ab af am an;intro aE ay
  refine ai<|aX<|bK (.inr rfl) (by kernel_rfl) (aS ay) (.ro _ rfl) ?_
  clear ay ax
  (simp [dh, *];done)
 replace ad:=bf ad;refine az ⟨_,rfl,.inl ab⟩ rfl ?_;refine az ⟨_,rfl,.inl (ae rfl ab)⟩ rfl ?_;refine az ⟨_,rfl,.inl (u2 rfl ab)⟩ rfl ?_;refine ar (bJ (ae rfl (u2 rfl ab)) al) rfl<|ar (aw aa) rfl<|aT aa ?_;clear ab af am an;intro aF aB
 refine ai<|aX<|bK (.inr rfl) (by kernel_rfl) (aS aB) (.ro _ rfl) ?_
 clear aB ax
 (simp [dh, *];done)
theorem sA(n m:Int)(hm: -1000000000<=m/\m<=1000000000):bF Tryz.prog 115 [mA n,mA m] (λq=>q=dH (eC n m)):=by
 refine ck (fn:=Tryz.f115) 10 (by kernel_rfl) rfl (by kernel_rfl) (S8 rfl) ?_;intro ad ap hA af;have ak:ag ad (.tmp 0)=_:=hA 0 _ rfl;have am:ag ad (.tmp 1)=_:=hA 1 _ rfl;have au:ap.length=0:=by rw [af];rfl
 clear hA af;refine aj<|at_<|ar (aw al) rfl<|aY (ae rfl ak) (ae rfl am) ?_;clear ak am;intro av an ab
 refine ai<|aj<|at_<|ar (ah an) rfl<|ar (ah (ae rfl ab)) rfl ?_
 (refine ar (qI aa ?_) rfl ?_; · (unfold In64;omega))
 refine ar (ah (ae rfl (u2 rfl ab))) rfl<|ar (bj (ax (ae rfl (u2 rfl aa)) (ax (ae rfl aa) (ax aa aI))) rfl (lF _ _ _) lN) rfl<|ar (aw aa) rfl<|aT aa ?_;clear an ab;intro ay ao
 refine ai<|aX<|bK (.inr rfl) (by kernel_rfl) (aS ao) (.ro _ rfl) ?_
 clear ao au;rfl
theorem vK(n:Int):bF Tryz.prog 114 [mA n] (λq=>q=dH (eC n 20000)):=by
 refine ck (fn:=Tryz.f114) 5 (by kernel_rfl) rfl (by kernel_rfl) (S8 rfl) ?_;intro am an hA ab;have ad:ag am (.tmp 0)=_:=hA 0 _ rfl;have ao:an.length=0:=by rw [ab];rfl
 clear hA ab;refine aj<|at_<|ar (aw al) rfl<|aT (ae rfl ad) ?_;clear ad;intro ap af
 refine ai<|aj<|at_<|ar (ah af) rfl<|ar (bj (ax aa (ax al aI)) rfl (sA _ _ (by decide)) sy) rfl ?_
 refine ar (aw aa) rfl<|aT aa ?_;clear af;intro au ak
 refine ai<|aX<|bK (.inr rfl) (by kernel_rfl) (aS ak) (.ro _ rfl) ?_
 clear ak ao;rfl
theorem eZ(ok:Bool)(e:Int):bF Tryz.prog 52 [dH ok,mA e] (λq=>q=mA (dB ok e)):=by
 refine ck (fn:=Tryz.f52) 7 (by kernel_rfl) rfl (by kernel_rfl) (S8 rfl) ?_;intro af ay hA ak;have am:ag af (.tmp 0)=_:=hA 0 _ rfl;have an:ag af (.tmp 1)=_:=hA 1 _ rfl;have ao:ay.length=0:=by rw [ak];rfl
 clear hA ak;refine aj<|at_<|ar (aw al) rfl<|aY (ae rfl am) (ae rfl an) ?_;clear am an;intro aA ap au
 refine ai<|aj<|aj<|at_<|ar (ah ap) rfl<|aY (ae rfl au) aa ?_;clear ap au;intro aB ab ad
 refine ai<|aW ad (λaz=>?_) (λaz=>?_)
 ·skip;refine aj<|at_<|ar (aw al) rfl<|aT aa ?_;clear ab ad;intro aC av
  refine ai<|aX<|bO<|bK (.inr rfl) (by kernel_rfl) (aS av) (.ro _ rfl) ?_
  clear av ao
  (simp [dB, *];done)
 refine br<|ai<|aj<|at_<|ar (ah ab) rfl<|ar (aw aa) rfl<|aT aa ?_;clear ab ad;intro aD ax
 refine ai<|aX<|bK (.inr rfl) (by kernel_rfl) (aS ax) (.ro _ rfl) ?_
 clear ax ao
 (simp [dB, *];done)
theorem sB(l:List Int)(hl:l.length<=1000):bF Tryz.prog 45 [.row 1 (l.map iE)] (λq=>q=mA (iG l)):=by
 refine ck (fn:=Tryz.f45) 15 (by kernel_rfl) rfl (by kernel_rfl) (S8 rfl) ?_;intro aQ aR hA aE;have aF:ag aQ (.tmp 0)=_:=hA 0 _ rfl;have aU:aR.length=0:=by rw [aE];rfl
 clear hA aE;refine aj<|at_<|ar (aw al) rfl<|aT (ae rfl aF) ?_;clear aF;intro a7 aG
 refine ai<|aj<|aj<|at_<|ar (ah aG) rfl<|ar (ak (bW aa rfl wN.1) (by simp only [bn]<;>rfl)) rfl ?_
 refine ar (ah al) rfl<|bq (u2 rfl aa) (ae rfl aa) aa ?_;clear aG;intro aH aI aJ aV
 refine ai<|bP<|dN (S:=Int) (λi e mem=>(ag e (.tmp 7)= .v (.int .i64 i))/\(ag e (.tmp 5)=ag aH (.tmp 5))/\(ag e (.tmp 6)=ag aH (.tmp 6))/\(mem.length=0)/\((0<=i/\i<=l.length/\iG (l.drop i.toNat)=iG l))) (λi=>(l.length - i).toNat) _ ⟨aV,rfl,rfl,aU,?_⟩ ?_
 ·exact⟨by omega,by omega,rfl⟩
 ·rintro i a8 a9 ⟨an,aY,a2,ao,hinv⟩;have aK:=aY.trans aI;have ap:=a2.trans aJ;refine aj<|at_<|ar (cL an ap) rfl<|aZ (ae rfl aK) (ae rfl ap) (ae rfl an) aa ?_;clear aK ap an;intro ba af av am ax
  refine ai<|aj<|aW ax (λab=>?_) (λab=>?_)
  ·replace ab:=bt ab;refine br<|ai<|aj<|bP<|aj<|at_<|ar (ak (cr wN af am (by omega) (by(refine cP ?_;omega))) (by simp only [pS,Value.cells,Nat.reduceAdd]<;>rfl)) rfl ?_
   refine ar (ak (bw Ez rfl aa (au rfl)) (by simp only [pS,Value.cells,Nat.reduceAdd]<;>rfl)) rfl ?_;refine ar (aw aa) rfl<|aZ aa (ae rfl (u2 rfl af)) (ae rfl (u2 rfl av)) (ae rfl (u2 rfl am)) ?_;clear af av am ax;intro bb ay aL aM aN
   refine ai<|aj<|at_<|ar (ah ay) rfl<|ar (ez aa al) rfl<|bV (u2 rfl ay) (u2 rfl aL) (u2 rfl aM) (u2 rfl aN) aa ?_;clear ay aL aM aN;intro bc az aA aB aC aD
   refine ai<|aW aD (λad=>?_) (λad=>?_)
   ·replace ad:=dR ad;refine aj<|at_<|ar (ah az) rfl<|ar (aw aa) rfl<|aT aa ?_;clear aD az aA aB aC;intro be aO
    refine ai<|aX<|de<|bO<|bO<|de<|bO<|bK (.inr rfl) (by kernel_rfl) (aS aO) (.ro _ rfl) ?_
    clear aO ao;obtain⟨h1,h2,h3⟩:=hinv;rw [<- h3,zS (i:=i.toNat) (by omega),if_neg (by assumption)];rfl
   replace ad:=dG ad;refine br<|cv<|ai<|at_ ?_
   (refine ar (cj aC al ?_) rfl ?_; · (unfold In64;omega))
   refine ar (ah aa) rfl<|bq (u2 rfl aA) (u2 rfl aB) aa ?_;clear aD az aA aB aC;intro bg a3 a5 a6
   refine ai<|⟨_,⟨a6,(a3.trans aI.symm),(a5.trans aJ.symm),ao,?_⟩,?_⟩
   ·(obtain⟨h1,h2,h3⟩:=hinv;refine⟨by omega,by omega,?_⟩;rw [<- h3,zS (i:=i.toNat) (by omega),if_pos (by assumption)];congr 2;omega)
   ·((try dsimp only);omega)
  replace ab:=bf ab;refine dD<|b7<|b7<|dC<|ai<|aj<|at_<|ar (aw al) rfl<|aT aa ?_;clear af av am ax;intro bh aP
  refine ai<|aX<|bK (.inr rfl) (by kernel_rfl) (aS aP) (.ro _ rfl) ?_
  clear aP ao;obtain⟨h1,h2,h3⟩:=hinv;rw [<- h3,UT (by omega)];rfl
abbrev ly(e:Int):AV:=.clo (.func 110) [] [.ref [mA e]]
abbrev mZ(k n:Int)(look:AV):AV:=.clo (.func 112) [] [.ref [mA n],.ref [look],.ref [mA k]]
abbrev GO(k n e:Int):AV:=.agg [mA k,mA n,mA e]
theorem nt(e:Int):bF Tryz.prog 109 [mA e] (λq=>q=ly e):=by
 refine ck (fn:=Tryz.f109) 4 (by kernel_rfl) rfl (by kernel_rfl) (S8 rfl) ?_;intro ak am hA ab;have ad:ag ak (.tmp 0)=_:=hA 0 _ rfl;have an:am.length=0:=by rw [ab];rfl
 clear hA ab;refine aj<|at_<|ar (qM ad rfl (by rfl)) rfl ?_
 refine ar (aw al) rfl<|aT (ae rfl aa) ?_;clear ad;intro ao af
 refine ai<|aj<|at_<|ar (jN aI (ax af aI)) rfl<|ar (aw aa) rfl<|aT aa ?_;clear af;intro ap ah
 refine ai<|aX<|bK (.inr rfl) (by kernel_rfl) (aS ah) (.ro _ rfl) ?_
 clear ah an;rfl
theorem Iy(e:Int):bF Tryz.prog 110 [.ref [mA e]] (λq=>q=GO 0 0 e):=by
 refine ck (fn:=Tryz.f110) 4 (by kernel_rfl) rfl (by kernel_rfl) (S8 rfl) ?_;intro ax az hA ao;have ap:ag ax (.tmp 0)=_:=hA 0 _ rfl;have ad:az.length=0:=by rw [ao];rfl
 clear hA ao;refine aj<|at_<|aL (cu ye rfl ad) trivial rfl (λaB af=>?_)
 have ab:=bH af ad;simp only [pS,Value.cells,Nat.reduceAdd]at ab;have ah:=bG af ad;have ah:_=1:=ah;clear af;refine aY (ae rfl ap) aa ?_;clear ap;intro aC av al;refine ai<|aj<|at_<|ar (ak (bw Ez rfl av (au rfl)) (by simp only [pS,Value.cells,Nat.reduceAdd]<;>rfl)) rfl ?_
 refine ar (dz (bo aa bY) yh yg yf rfl) rfl ?_;refine aL (bN (u2 rfl al) aa rfl rfl ab uo rfl (au rfl)) trivial rfl (λaD am=>?_);have an:=bk am ab;simp only [pS,Value.cells,Nat.reduceAdd]at an;have aA:=bc am ah;clear am ab;refine aT (ay (u2 rfl al)) ?_;clear av al;intro aE aw;refine ai<|aX<|bK (.inr rfl) (by kernel_rfl) (eb aw an LV (au rfl) (by simp)) (eV (.ro _ rfl)) ?_
 clear aw an aA;rfl
theorem o9(k n:Int)(fn:Fn)(m:List AV)(hm:cm.roL m=true):bF Tryz.prog 111 [mA k,mA n,.clo fn [] m] (λq=>q=mZ k n (.clo fn [] m)):=by
 refine ck (fn:=Tryz.f111) 8 (by kernel_rfl) rfl (by kernel_rfl) (S8 rfl) ?_;intro ab au hA ad;have af:ag ab (.tmp 0)=_:=hA 0 _ rfl;have ah:ag ab (.tmp 1)=_:=hA 1 _ rfl;have ak:ag ab (.tmp 2)=_:=hA 2 _ rfl;have av:au.length=0:=by rw [ad];rfl
 clear hA ad;refine aj<|at_<|ar (qM af rfl (by rfl)) rfl ?_
 refine ar (qM (ae rfl ah) rfl (by rfl)) rfl ?_;refine ar (qM (u2 rfl ak) rfl (by(simp only [cm.roL,cm,Bool.and_true,U2];assumption))) rfl ?_;refine ar (aw al) rfl<|bq (ae rfl (u2 rfl aa)) (u2 rfl aa) (ae rfl aa) ?_;clear af ah ak;intro ay am an ao
 refine ai<|aj<|at_<|ar (jN aI (ax an (ax ao (ax am aI)))) rfl<|ar (aw aa) rfl<|aT aa ?_;clear am an ao;intro az ap
 refine ai<|aX<|bK (.inr rfl) (by kernel_rfl) (aS ap) (.ro _ rfl) ?_
 clear ap av;rfl
theorem LW(l:aU)(i:Int)(hi:0<=i/\i<l.js.length):bF Tryz.prog 113 [mA i,.ref (kf l)] (λq=>q=mA (iJ (l.js.getD i.toNat default))):=by
 refine ck (fn:=Tryz.f113) 43 (by kernel_rfl) rfl (by kernel_rfl) (S8 rfl) ?_;intro aH aR hA aJ;have aK:ag aH (.tmp 0)=_:=hA 0 _ rfl;have aM:ag aH (.tmp 1)=_:=hA 1 _ rfl;have ap:aR.length=0:=by rw [aJ];rfl
 clear hA aJ;refine aj<|at_<|ar (aw al) rfl<|aY (ae rfl aK) (ae rfl aM) ?_;clear aK aM;intro bh aN aO
 refine ai<|aj<|at_<|ar (ak (bR dW rfl aO) (by simp only [pS,Value.cells,Nat.reduceAdd,aF]<;>rfl)) rfl ?_
 refine ar (ak (bw Pz rfl aa (au rfl)) (by simp only [pS,Value.cells,Nat.reduceAdd,aF]<;>rfl)) rfl ?_;refine ar (ah (u2 rfl aN)) rfl<|ar (ak (cr Px (ae rfl aa) aa (by omega) (by(refine cP ?_;omega))) (by simp only [pS,Value.cells,Nat.reduceAdd,aF]<;>rfl)) rfl ?_
 refine ar (ak (bw PD rfl aa (au rfl)) (by simp only [pS,Value.cells,Nat.reduceAdd,aF]<;>rfl)) rfl ?_;refine aL (cu pJ rfl ap) trivial rfl (λbm av=>?_);have ao:=bH av ap;simp only [pS,Value.cells,Nat.reduceAdd,aF]at ao;have aD:=bG av ap;have aD:_=1:=aD;clear av;refine aL (bN aa (ae rfl aa) rfl rfl ao rl rfl (au rfl)) trivial rfl (λaV aE=>?_);have an:=bk aE ao;simp only [pS,Value.cells,Nat.reduceAdd,aF]at an;have aW:=bc aE aD;clear aE ao;refine aT (ay aa) ?_;clear aN aO;intro aZ ab;refine ai<|aj<|gz (λe mem=>(ag e (.tmp 5)= .v (.bool (gP (l.js.getD i.toNat default))))/\(ag e (.tmp 4)=ag aZ (.tmp 4))/\aV=mem) ?_ ?_
 ·
  refine at_<|ar (aB jR rfl ab) rfl<|ar (ak (aC mN rfl an aa (au rfl)) (by simp only [pS,Value.cells,Nat.reduceAdd,aF]<;>rfl)) rfl ?_
  refine ar (bj (ax aa aI) rfl (vK _) xm) rfl<|ar (ah aa) rfl<|bM aa (λam a2=>?_) (λam a2=>?_)
  ·skip;refine aA (aB oW rfl (u4 rfl ab)) ⟨_,rfl,am⟩ rfl ?_;refine aA (ak (aC mN rfl an aa (au rfl)) (by simp only [pS,Value.cells,Nat.reduceAdd,aF]<;>rfl)) ⟨_,rfl,(ae rfl am)⟩ rfl ?_;refine aA (bj (ax aa aI) rfl (vK _) xm) ⟨_,rfl,(u2 rfl am)⟩ rfl ?_;refine ar (bD (ae rfl (u2 rfl am)) aa) rfl<|ar (ah aa) rfl<|bM aa (λad a3=>?_) (λad a3=>?_)
   ·skip;refine aA (aB fY rfl (ae rfl (u8 rfl ab))) ⟨_,rfl,ad⟩ rfl ?_;refine aA (aB jP rfl aa) ⟨_,rfl,(ae rfl ad)⟩ rfl ?_;refine aA (ak (aC mN rfl an aa (au rfl)) (by simp only [pS,Value.cells,Nat.reduceAdd,aF]<;>rfl)) ⟨_,rfl,(u2 rfl ad)⟩ rfl ?_;refine aA (bj (ax aa (ax al aI)) rfl (sA _ _ (by decide)) sy) ⟨_,rfl,(ae rfl (u2 rfl ad))⟩ rfl ?_;refine ar (bD (u4 rfl ad) aa) rfl<|ar (ah aa) rfl<|bM aa (λaf a5=>?_) (λaf a5=>?_)
    ·skip;refine aA (aB fY rfl (ae rfl (u2 rfl (u4 rfl (u8 rfl ab))))) ⟨_,rfl,af⟩ rfl ?_;refine aA (aB jQ rfl aa) ⟨_,rfl,(ae rfl af)⟩ rfl ?_;refine aA (ak (aC mN rfl an aa (au rfl)) (by simp only [pS,Value.cells,Nat.reduceAdd,aF]<;>rfl)) ⟨_,rfl,(u2 rfl af)⟩ rfl ?_;refine aA (bj (ax aa (ax al aI)) rfl (sA _ _ (by decide)) sy) ⟨_,rfl,(ae rfl (u2 rfl af))⟩ rfl ?_;refine ar (bD (u4 rfl af) aa) rfl<|ar (aw aa) rfl<|aY (ae rfl (u4 rfl (u16 rfl ab))) aa ?_;intro bn a6 a7
     refine ai ⟨(a7).trans (by(refine cJ ?_;unfold gP;simp_all)),(a6).trans (ab).symm,rfl⟩
    refine az ⟨_,rfl,.inl af⟩ rfl ?_;refine az ⟨_,rfl,.inl (ae rfl af)⟩ rfl ?_;refine az ⟨_,rfl,.inl (u2 rfl af)⟩ rfl ?_;refine az ⟨_,rfl,.inl (ae rfl (u2 rfl af))⟩ rfl ?_;refine ar (bJ (u4 rfl af) al) rfl<|ar (aw aa) rfl<|aY (ae rfl (u4 rfl (u16 rfl ab))) aa ?_;intro bp a8 a9
    refine ai ⟨(a9).trans (by(refine cJ ?_;unfold gP;simp_all)),(a8).trans (ab).symm,rfl⟩
   refine az ⟨_,rfl,.inl ad⟩ rfl ?_;refine az ⟨_,rfl,.inl (ae rfl ad)⟩ rfl ?_;refine az ⟨_,rfl,.inl (u2 rfl ad)⟩ rfl ?_;refine az ⟨_,rfl,.inl (ae rfl (u2 rfl ad))⟩ rfl ?_;refine ar (bJ (u4 rfl ad) al) rfl<|ar (ah aa) rfl<|az ⟨_,rfl,.inl aa⟩ rfl ?_
   refine az ⟨_,rfl,.inl (ae rfl aa)⟩ rfl ?_;refine az ⟨_,rfl,.inl (u2 rfl aa)⟩ rfl ?_;refine az ⟨_,rfl,.inl (ae rfl (u2 rfl aa))⟩ rfl ?_;refine ar (bJ (u4 rfl aa) al) rfl<|ar (aw aa) rfl<|aY (ae rfl (u4 rfl (u16 rfl ab))) aa ?_;intro bq ba bb
   refine ai ⟨(bb).trans (by(refine cJ ?_;unfold gP;simp_all)),(ba).trans (ab).symm,rfl⟩
  refine az ⟨_,rfl,.inl am⟩ rfl ?_;refine az ⟨_,rfl,.inl (ae rfl am)⟩ rfl ?_;refine az ⟨_,rfl,.inl (u2 rfl am)⟩ rfl ?_;refine ar (bJ (ae rfl (u2 rfl am)) al) rfl<|ar (ah aa) rfl<|az ⟨_,rfl,.inl aa⟩ rfl ?_
  refine az ⟨_,rfl,.inl (ae rfl aa)⟩ rfl ?_;refine az ⟨_,rfl,.inl (u2 rfl aa)⟩ rfl ?_;refine az ⟨_,rfl,.inl (ae rfl (u2 rfl aa))⟩ rfl ?_;refine ar (bJ (u4 rfl aa) al) rfl<|ar (ah aa) rfl<|az ⟨_,rfl,.inl aa⟩ rfl ?_
  refine az ⟨_,rfl,.inl (ae rfl aa)⟩ rfl ?_;refine az ⟨_,rfl,.inl (u2 rfl aa)⟩ rfl ?_;refine az ⟨_,rfl,.inl (ae rfl (u2 rfl aa))⟩ rfl ?_;refine ar (bJ (u4 rfl aa) al) rfl<|ar (aw aa) rfl<|aY (ae rfl (u4 rfl (u16 rfl ab))) aa ?_;intro br be bf
  refine ai ⟨(bf).trans (by(refine cJ ?_;unfold gP;simp_all)),(be).trans (ab).symm,rfl⟩
 ·rintro bu _ ⟨aP,bg,rfl⟩;have aG:=bg.trans ab;refine aj<|ey 13 (by kernel_rfl) (by kernel_rfl) (by kernel_rfl) (by kernel_rfl) ?_
  refine dr (ah aP) rfl<|dr (bj (ax aa (ax al aI)) rfl (eZ _ _) e6) rfl<|dr (aB fY rfl (u2 rfl aG)) rfl<|dr (aB jP rfl aa) rfl<|dr (ak (aC mN rfl an aa (au rfl)) (by simp only [pS,Value.cells,Nat.reduceAdd,aF]<;>rfl)) rfl ?_
  refine dr (aB fY rfl (ae rfl (u4 rfl aG))) rfl<|dr (aB jQ rfl aa) rfl<|dr (ak (aC mN rfl an aa (au rfl)) (by simp only [pS,Value.cells,Nat.reduceAdd,aF]<;>rfl)) rfl ?_
  refine dr (fD (ae rfl (u2 rfl aa)) aa) rfl<|dr (bj (ax aa (ax al aI)) rfl (eZ _ _) e6) rfl<|dr (dT wN (bo (u8 rfl aa) (bo aa bY)) rfl rfl rfl rfl) rfl<|dr (bj (ax aa aI) rfl (sB [_,_] (by simp)) uj) rfl ?_
  refine dr (aw aa) rfl<|dP<|aT aa ?_;clear aG aP;intro bv aQ
  refine ai<|aX<|bK (.inr rfl) (by kernel_rfl) (aS aQ) (.ro _ rfl) ?_
  clear aQ an aW
  (refine rN ?_;unfold iJ;cases gP (l.js.getD i.toNat default)<;>simp [iG,dB])
theorem LX(l:aU)(i:Int)(hi:0<=i/\i<l.bs.length):bF Tryz.prog 116 [mA i,.ref (kf l)] (λq=>q=mA (gQ (l.bs.getD i.toNat default))):=by
 refine ck (fn:=Tryz.f116) 19 (by kernel_rfl) rfl (by kernel_rfl) (S8 rfl) ?_;intro aD aP hA aE;have aF:ag aD (.tmp 0)=_:=hA 0 _ rfl;have aG:ag aD (.tmp 1)=_:=hA 1 _ rfl;have an:aP.length=0:=by rw [aE];rfl
 clear hA aE;refine aj<|at_<|ar (aw al) rfl<|aY (ae rfl aF) (ae rfl aG) ?_;clear aF aG;intro aR aJ aK
 refine ai<|aj<|at_<|ar (ak (bR dA rfl aK) (by simp only [pS,Value.cells,Nat.reduceAdd,aH]<;>rfl)) rfl ?_
 refine ar (ak (bw PC rfl aa (au rfl)) (by simp only [pS,Value.cells,Nat.reduceAdd,aH]<;>rfl)) rfl ?_;refine ar (ah (u2 rfl aJ)) rfl<|ar (ak (cr Py (ae rfl aa) aa (by omega) (by(refine cP ?_;omega))) (by simp only [pS,Value.cells,Nat.reduceAdd,aH]<;>rfl)) rfl ?_
 refine ar (ak (bw PE rfl aa (au rfl)) (by simp only [pS,Value.cells,Nat.reduceAdd,aH]<;>rfl)) rfl ?_;refine aL (cu uT rfl an) trivial rfl (λaV ao=>?_);have af:=bH ao an;simp only [pS,Value.cells,Nat.reduceAdd,aH]at af;have ap:=bG ao an;have ap:_=1:=ap;clear ao;refine aL (bN aa (ae rfl aa) rfl rfl af u7 rfl (au rfl)) trivial rfl (λaW av=>?_);have ad:=bk av af;simp only [pS,Value.cells,Nat.reduceAdd,aH]at ad;have aM:=bc av ap;clear av af;refine aT (ay aa) ?_;clear aJ aK;intro aZ am;refine ai<|aj<|at_<|ar (aB ki rfl am) rfl<|ar (ak (aC mN rfl ad aa (au rfl)) (by simp only [pS,Value.cells,Nat.reduceAdd,aH]<;>rfl)) rfl ?_
 refine ar (bj (ax aa (ax al (ax al aI))) rfl (lF _ _ _) lN) rfl<|ar (ah aa) rfl<|bM aa (λab aQ=>?_) (λab aQ=>?_)
 ·skip;refine aA (aB oY rfl (u4 rfl am)) ⟨_,rfl,ab⟩ rfl ?_;refine aA (ak (aC mN rfl ad aa (au rfl)) (by simp only [pS,Value.cells,Nat.reduceAdd,aH]<;>rfl)) ⟨_,rfl,(ae rfl ab)⟩ rfl ?_;refine aA (bj (ax aa (ax al aI)) rfl (sA _ _ (by decide)) sy) ⟨_,rfl,(u2 rfl ab)⟩ rfl ?_;refine ar (bD (ae rfl (u2 rfl ab)) aa) rfl<|ar (bj (ax aa (ax al aI)) rfl (eZ _ _) e6) rfl<|ar (aw aa) rfl<|aT aa ?_;clear ab am;intro a2 aN
  refine ai<|aX<|bK (.inr rfl) (by kernel_rfl) (aS aN) (.ro _ rfl) ?_
  clear aN ad aM
  (refine rN ?_;unfold gQ j6 dB;simp_all)
 refine az ⟨_,rfl,.inl ab⟩ rfl ?_;refine az ⟨_,rfl,.inl (ae rfl ab)⟩ rfl ?_;refine az ⟨_,rfl,.inl (u2 rfl ab)⟩ rfl ?_;refine ar (bJ (ae rfl (u2 rfl ab)) al) rfl<|ar (bj (ax aa (ax al aI)) rfl (eZ _ _) e6) rfl<|ar (aw aa) rfl<|aT aa ?_;clear ab am;intro a3 aO
 refine ai<|aX<|bK (.inr rfl) (by kernel_rfl) (aS aO) (.ro _ rfl) ?_
 clear aO ad aM
 (refine rN ?_;unfold gQ j6 dB;simp_all)
theorem nu:∀ args w,(callFunc 109 args).run Tryz.prog w= .ok (.enter 109 args) w:=λ_ _=>by kernel_rfl
theorem oJ:∀ args w,(callFunc 111 args).run Tryz.prog w= .ok (.enter 111 args) w:=λ_ _=>by kernel_rfl
theorem BN:bI Tryz.prog 107 5 1 1 (.int .u8 0):=⟨by kernel_rfl,by kernel_rfl,by kernel_rfl⟩
theorem BO:bI Tryz.prog 164 166 1 8 (.nilFunc):=⟨by kernel_rfl,by kernel_rfl,by kernel_rfl⟩
theorem xE:bI Tryz.prog 23 59 4 32 (.agg #[.int .i64 0,.int .i64 0,.int .i64 0,.int .i64 0]):=⟨by kernel_rfl,by kernel_rfl,by kernel_rfl⟩
theorem pa:bI Tryz.prog 24 95 2 16 (.agg #[.int .i64 0,.int .i64 0]):=⟨by kernel_rfl,by kernel_rfl,by kernel_rfl⟩
theorem tM:bI Tryz.prog 25 97 3 48 (.agg #[.string ByteArray.empty,.int .i64 0,.slice none 0 0]):=⟨by kernel_rfl,by kernel_rfl,by kernel_rfl⟩
theorem LY:aN Tryz.prog 122 false 1:=⟨by kernel_rfl,by kernel_rfl⟩
theorem BP:aN Tryz.prog 168 true 3:=⟨by kernel_rfl,by kernel_rfl⟩
theorem xF:aN Tryz.prog 23 false 1:=⟨by kernel_rfl,by kernel_rfl⟩
theorem pd:aN Tryz.prog 24 false 1:=⟨by kernel_rfl,by kernel_rfl⟩
theorem tN:aN Tryz.prog 25 false 1:=⟨by kernel_rfl,by kernel_rfl⟩
theorem FI:aN Tryz.prog 3 false 1:=⟨by kernel_rfl,by kernel_rfl⟩
theorem QW:aN Tryz.prog 5 false 1:=⟨by kernel_rfl,by kernel_rfl⟩
theorem QX:aN Tryz.prog 9 false 1:=⟨by kernel_rfl,by kernel_rfl⟩
def kO(k:Int)(e:Nat->Int)(n:Nat):(Int×Int)×Int:=match fN e n with
 | some i=>((k,i),e i)
 | none=>((0,0),0)
abbrev rO(r:(Int×Int)×Int):AV:=GO r.1.1 r.1.2 r.2
theorem LZ(k n:Int)(f:FuncId)(m:List AV)(er:Nat->Int)(hn:0<=n/\n<=1000000)(hro:cm.roL m=true)(dV:∀ args w,(callFunc f args).run Tryz.prog w= .ok (.enter f args) w)(hc:∀ i:Int,0<=i->i<n->bF Tryz.prog f ([]++ [mA i]++m) (λq=>q=mA (er i.toNat))):
 bF Tryz.prog 112 [.ref [mA n],.ref [.clo (.func f) [] m],.ref [mA k]] (λq=>q=rO (kO k er n.toNat)):=by
 refine ck (fn:=Tryz.f112) 22 (by kernel_rfl) rfl (by kernel_rfl) (S8 rfl) ?_;intro az bR hA a7;have a8:ag az (.tmp 0)=_:=hA 0 _ rfl;have a9:ag az (.tmp 1)=_:=hA 1 _ rfl;have ba:ag az (.tmp 2)=_:=hA 2 _ rfl;have aA:bR.length=0:=by rw [a7];rfl
 clear hA a7;refine aj<|at_<|aL (cu ye rfl aA) trivial rfl (λbS aB=>?_)
 have aC:=bH aB aA;simp only [pS,Value.cells,Nat.reduceAdd]at aC;have aD:=bG aB aA;have aD:_=1:=aD;clear aB;refine aZ (ae rfl a8) (ae rfl a9) (ae rfl ba) aa ?_;clear a8 a9 ba;intro cc bb be bg bh;refine ai<|aj<|aj<|at_<|ar (ak (bw FI rfl bb (au rfl)) (by simp only [pS,Value.cells,Nat.reduceAdd]<;>rfl)) rfl ?_
 refine ar (ah al) rfl<|bV (u2 rfl be) (u2 rfl bg) (u2 rfl bh) (ae rfl aa) aa ?_;clear bb be bg bh;intro ao bj bm bn bp bT
 refine ai<|bP<|dN (S:=Int) (λi e mem=>(ag e (.tmp 7)= .v (.int .i64 i))/\(ag e (.tmp 1)=ag ao (.tmp 1))/\(ag e (.tmp 2)=ag ao (.tmp 2))/\(ag e (.tmp 3)=ag ao (.tmp 3))/\(ag e (.tmp 6)=ag ao (.tmp 6))/\(mem[0]? =bS[0]?)/\(mem.length=1)/\((0<=i/\i<=n/\ ∀ j:Nat,j<i.toNat->er j=0))) (λi=>(n - i).toNat) _ ⟨bT,rfl,rfl,rfl,rfl,rfl,aD,?_⟩ ?_
 ·(exact⟨by omega,by omega,λj h=>absurd h (by omega)⟩)
 ·rintro i cd ce ⟨aE,bU,bW,bX,bZ,b0,aF,hinv⟩;have bq:=bU.trans bj;have bu:=bW.trans bm;have bv:=bX.trans bn;have aG:=bZ.trans bp;have ab:=b0.trans aC
  (obtain⟨p1,p2,p3⟩:=hinv)
  refine aj<|at_<|ar (cL aE aG) rfl<|ei (ae rfl bq) (ae rfl bu) (ae rfl bv) (ae rfl aG) (ae rfl aE) aa ?_;clear bq bu bv aG aE;intro cf aH aJ ad aK ap aM
  refine ai<|aj<|aW aM (λaf=>?_) (λaf=>?_)
  ·replace af:=bt af;refine br<|ai<|aj<|bP<|aj<|at_<|ar (ah ap) rfl<|ar (aw aa) rfl<|ei (u2 rfl aH) (u2 rfl aJ) (u2 rfl ad) aa (u2 rfl aK) (u2 rfl ap) ?_;clear aH aJ ad aK ap aM;intro cg aN bx bz aO bA bB
   refine ai<|aj<|at_<|ar (ak (bw LY rfl aN (au rfl)) (by simp only [pS,Value.cells,Nat.reduceAdd]<;>rfl)) rfl ?_
   refine ar (ah (ae rfl aO)) rfl<|ar (Bj (ae rfl aa) (ax aa aI) rfl rfl hro (hc i (by omega) (by omega)) dV) rfl ?_
   refine ar (aw aa) rfl<|gZ (u4 rfl aN) (u4 rfl bx) (u4 rfl bz) (u4 rfl aO) aa (u4 rfl bA) (u4 rfl bB) ?_;clear aN bx bz aO bA bB;intro ci bC bD bE bI aP bJ bL
   refine ai<|aj<|at_<|ar (ah aP) rfl<|ar (ez aa al) rfl<|vm (u2 rfl bC) (u2 rfl bD) (u2 rfl bE) (u2 rfl bI) (u2 rfl aP) (u2 rfl bJ) (u2 rfl bL) aa ?_;clear bC bD bE bI aP bJ bL;intro cn aQ av am aR aS aU aV aY
   refine ai<|aW aY (λan=>?_) (λan=>?_)
   ·replace an:=dR an;refine aj<|at_<|ar (ak (bw FI rfl av (au rfl)) (by simp only [pS,Value.cells,Nat.reduceAdd]<;>rfl)) rfl ?_
    refine ar (ah (ae rfl aR)) rfl<|ar (dz (bo (ae rfl aa) (bo aa bY)) kB kA kz rfl) rfl ?_
    refine ar (ah (ae rfl (u2 rfl aS))) rfl<|ar (dz (bo (ae rfl aa) (bo aa bY)) yh yg yf rfl) rfl ?_
    refine aL (bN (ae rfl (u4 rfl am)) aa rfl rfl ab uo rfl (au rfl)) trivial rfl (λco a2=>?_);have a3:=bk a2 ab;simp only [pS,Value.cells,Nat.reduceAdd]at a3;have b1:=bc a2 aF;clear a2 ab;refine aT (ay (ae rfl (u4 rfl am))) ?_;clear aY aQ av am aR aS aU aV;intro cp bM;refine ai<|aX<|de<|bO<|bO<|de<|bO<|bK (.inr rfl) (by kernel_rfl) (eb bM a3 BP (au rfl) (by simp)) (eV (.ro _ rfl)) ?_
    clear bM a3 b1
    (have h:=vZ p3 (by assumption) (n:=n.toNat) (by omega);rw [show kO k er n.toNat=((k,i),er i.toNat)by unfold kO;rw [h];simp only [UF p1]];rfl)
   replace an:=dG an;refine br<|cv<|ai<|at_ ?_
   (refine ar (cj aV al ?_) rfl ?_; · (unfold In64;omega))
   refine ar (ah aa) rfl<|bV (u2 rfl aQ) (u2 rfl av) (u2 rfl am) (u2 rfl aU) aa ?_;clear aY aQ av am aR aS aU aV;intro cq b2 b6 b8 b9 ca
   refine ai<|⟨_,⟨ca,(b2.trans bj.symm),(b6.trans bm.symm),(b8.trans bn.symm),(b9.trans bp.symm),(ab.trans aC.symm),aF,?_⟩,?_⟩
   ·(refine⟨by omega,by omega,λj hj=>?_⟩;by_cases hji:j<i.toNat;(exact p3 j hji);(rw [show j=i.toNat by omega];assumption))
   ·((try dsimp only);omega)
  replace af:=bf af;refine dD<|b7<|b7<|dC<|ai<|aj<|at_<|ar (dz bY yh yg yf rfl) rfl ?_
  refine aL (bN (ae rfl ad) aa rfl rfl ab uo rfl (au rfl)) trivial rfl (λcr a5=>?_);have a6:=bk a5 ab;simp only [pS,Value.cells,Nat.reduceAdd]at a6;have cb:=bc a5 aF;clear a5 ab;refine aT (ay (ae rfl ad)) ?_;clear aH aJ ad aK ap aM;intro ct bQ;refine ai<|aX<|bK (.inr rfl) (by kernel_rfl) (eb bQ a6 BP (au rfl) (by simp)) (eV (.ro _ rfl)) ?_
  clear bQ a6 cb
  (have h:=sx (f:=er) (n:=n.toNat) (λj hj=>p3 j (by omega));rw [show kO k er n.toNat=((0,0),0)by unfold kO;rw [h]];rfl)
def vq(l:aU):List (List AV):= [[ly (dB (dn l.nam) 4)],[ly (dB (decide ((0:Int)<l.bs.length/\(l.js.length:Int)=l.bs.length+1)) 10)],[ly (dB (decide ((l.bs.length:Int)<=40)) 8)],
 [mZ 1 l.js.length (.clo (.func 113) [] [.ref (kf l)])],[mZ 2 l.bs.length (.clo (.func 116) [] [.ref (kf l)])],[ly (dB (decide ((l.ss.length:Int)<=4)) 8)],[mZ 3 l.ss.length (.clo (.func 117) [] [.ref (kf l)])]]
theorem si(s:ByteArray)(hs:s.size<=1000000000):bF Tryz.prog 94 [.v (.string s)] (λq=>q= .v (.bool (dn s))):=by
 refine ck (fn:=Tryz.f94) 54 (by kernel_rfl) rfl (by kernel_rfl) (S8 rfl) ?_;intro bI bL hA bq;have bu:ag bI (.tmp 0)=_:=hA 0 _ rfl;have bN:bL.length=0:=by rw [bq];rfl
 clear hA bq;have hsl:=Eu s;refine aj<|at_<|ar (aw al) rfl<|aT (ae rfl bu) ?_;clear bu;intro du bb
 refine ai<|aj<|aj<|at_<|ar (ah bb) rfl<|ar (QB eI yk zb aa) rfl<|ar (ak (bW aa rfl BN.1) (by simp only [bn]<;>rfl)) rfl ?_
 refine ar (ah al) rfl<|aZ (u4 rfl bb) (u2 rfl aa) (ae rfl aa) aa ?_;clear bb;intro bc bv bx bz bQ
 refine ai<|bP<|dN (S:=Int) (λi e mem=>(ag e (.tmp 9)= .v (.int .i64 i))/\(ag e (.tmp 0)=ag bc (.tmp 0))/\(ag e (.tmp 7)=ag bc (.tmp 7))/\(ag e (.tmp 8)=ag bc (.tmp 8))/\(mem.length=0)/\((0<=i/\i<=s.data.toList.length/\ ∀ j:Nat,j<i.toNat->okB j (s.data.toList.getD j default)=true))) (λi=>(s.data.toList.length - i).toNat) _ ⟨bQ,rfl,rfl,rfl,bN,?_⟩ ?_
 ·exact⟨by omega,by omega,λj hj=>by omega⟩
 ·rintro i dv bA ⟨be,bR,bS,bT,a6,hinv⟩;have bB:=bR.trans bv;have bC:=bS.trans bx;have bg:=bT.trans bz;refine aj<|at_<|ar (cL be bg) rfl<|bV (ae rfl bB) (ae rfl bC) (ae rfl bg) (ae rfl be) aa ?_;clear bB bC bg be;intro dw aJ aM a7 aK a8
  refine ai<|aj<|aW a8 (λaN=>?_) (λaN=>?_)
  ·replace aN:=bt aN;refine br<|ai<|aj<|bP<|aj<|at_<|ar (ah aK) rfl<|ar (ak (cr BN (ae rfl aM) (ae rfl aK) (by omega) (by(refine cP ?_;omega))) (by simp only [pS,Value.cells,Nat.reduceAdd]<;>rfl)) rfl ?_
   refine ar (ak (bw QW rfl aa (au rfl)) (by simp only [pS,Value.cells,Nat.reduceAdd]<;>rfl)) rfl ?_;refine ar (aw (u2 rfl aa)) rfl<|ar (aw (ae rfl aa)) rfl<|ei (ae rfl (u4 rfl aJ)) (ae rfl aa) aa (ae rfl (u4 rfl aM)) (ae rfl (u4 rfl a7)) (ae rfl (u4 rfl aK)) ?_;clear aJ a8 aM a7 aK;intro aL aB aC ad aD aE aF
   refine ai<|aj<|gz (λe mem=>(ag e (.tmp 5)= .v (.bool (fG (s.data.toList.getD i.toNat default).toNat)))/\(ag e (.tmp 0)=ag aL (.tmp 0))/\(ag e (.tmp 3)=ag aL (.tmp 3))/\(ag e (.tmp 4)=ag aL (.tmp 4))/\(ag e (.tmp 7)=ag aL (.tmp 7))/\(ag e (.tmp 8)=ag aL (.tmp 8))/\(ag e (.tmp 9)=ag aL (.tmp 9))/\bA=mem) ?_ ?_
   ·
    refine at_<|ar (ah ad) rfl<|ar (lP aa al) rfl<|ar (ah aa) rfl<|bM aa (λaG aO=>?_) (λaG aO=>?_)
    ·replace aO:=bt aO;refine aA (ah (ae rfl (u2 rfl ad))) ⟨_,rfl,aG⟩ rfl ?_;refine aA (fD aa al) ⟨_,rfl,(ae rfl aG)⟩ rfl ?_;refine ar (bD (u2 rfl aG) aa) rfl<|ar (ah aa) rfl<|bM aa (λan aP=>?_) (λan aP=>?_)
     ·replace aP:=bt aP;refine az ⟨_,rfl,.inl an⟩ rfl ?_;refine az ⟨_,rfl,.inl (ae rfl an)⟩ rfl ?_;refine az ⟨_,rfl,.inl (u2 rfl an)⟩ rfl ?_;refine az ⟨_,rfl,.inr aa⟩ rfl ?_;refine az ⟨_,rfl,.inr (ae rfl aa)⟩ rfl ?_;refine az ⟨_,rfl,.inl (ae rfl (u4 rfl an))⟩ rfl ?_;refine ar (bD (u2 rfl (u4 rfl an)) al) rfl<|ar (aw aa) rfl<|gZ (ae rfl (u2 rfl (u4 rfl (u8 rfl aB)))) (ae rfl (u2 rfl (u4 rfl (u8 rfl aC)))) (ae rfl (u2 rfl (u4 rfl (u8 rfl ad)))) aa (ae rfl (u2 rfl (u4 rfl (u8 rfl aD)))) (ae rfl (u2 rfl (u4 rfl (u8 rfl aE)))) (ae rfl (u2 rfl (u4 rfl (u8 rfl aF)))) ?_;intro dx bU bX bY bZ b0 b1 b2
      refine ai ⟨(bZ).trans (by(refine cJ ?_;simp only [fG,decide_eq_true_eq,Tn,true_iff,false_iff];omega)),(bU).trans (aB).symm,(bX).trans (aC).symm,(bY).trans (ad).symm,(b0).trans (aD).symm,(b1).trans (aE).symm,(b2).trans (aF).symm,rfl⟩
     replace aP:=bf aP;refine aA (ah (ae rfl (u2 rfl (u4 rfl ad)))) ⟨_,rfl,an⟩ rfl ?_;refine aA (lP aa al) ⟨_,rfl,(ae rfl an)⟩ rfl ?_;refine aA (ah aa) ⟨_,rfl,(u2 rfl an)⟩ rfl ?_;refine bM aa (λa9 aQ=>?_) (λa9 aQ=>?_)
     ·replace aQ:=bt aQ;refine aA (ah (u2 rfl (u8 rfl ad))) ⟨_,rfl,a9⟩ rfl ?_;refine aA (fD aa al) ⟨_,rfl,(ae rfl a9)⟩ rfl ?_;refine aA (bD (u2 rfl a9) aa) ⟨_,rfl,(ae rfl (u4 rfl an))⟩ rfl ?_;refine ar (bJ (u2 rfl (u4 rfl an)) aa) rfl<|ar (aw aa) rfl<|gZ (ae rfl (u2 rfl (u4 rfl (u8 rfl aB)))) (ae rfl (u2 rfl (u4 rfl (u8 rfl aC)))) (ae rfl (u2 rfl (u4 rfl (u8 rfl ad)))) aa (ae rfl (u2 rfl (u4 rfl (u8 rfl aD)))) (ae rfl (u2 rfl (u4 rfl (u8 rfl aE)))) (ae rfl (u2 rfl (u4 rfl (u8 rfl aF)))) ?_;intro dy b6 b8 b9 ca cb cc cd
      refine ai ⟨(ca).trans (by(refine cJ ?_;simp only [fG,decide_eq_true_eq,Tn,true_iff,false_iff];omega)),(b6).trans (aB).symm,(b8).trans (aC).symm,(b9).trans (ad).symm,(cb).trans (aD).symm,(cc).trans (aE).symm,(cd).trans (aF).symm,rfl⟩
     ·replace aQ:=bf aQ;exfalso;omega
    replace aO:=bf aO;refine az ⟨_,rfl,.inl aG⟩ rfl ?_;refine az ⟨_,rfl,.inl (ae rfl aG)⟩ rfl ?_;refine ar (bJ (u2 rfl aG) al) rfl<|ar (ah aa) rfl<|aA (ah (ae rfl (u2 rfl (u4 rfl ad)))) ⟨_,rfl,aa⟩ rfl ?_
    refine aA (lP aa al) ⟨_,rfl,(ae rfl aa)⟩ rfl ?_;refine aA (ah aa) ⟨_,rfl,(u2 rfl aa)⟩ rfl ?_;refine bM aa (λaH aR=>?_) (λaH aR=>?_)
    ·replace aR:=bt aR;refine aA (ah (u2 rfl (u8 rfl ad))) ⟨_,rfl,aH⟩ rfl ?_;refine aA (fD aa al) ⟨_,rfl,(ae rfl aH)⟩ rfl ?_;refine aA (bD (u2 rfl aH) aa) ⟨_,rfl,(ae rfl (u4 rfl aa))⟩ rfl ?_;refine ar (bJ (u2 rfl (u4 rfl aa)) aa) rfl<|ar (aw aa) rfl<|gZ (ae rfl (u2 rfl (u4 rfl (u8 rfl aB)))) (ae rfl (u2 rfl (u4 rfl (u8 rfl aC)))) (ae rfl (u2 rfl (u4 rfl (u8 rfl ad)))) aa (ae rfl (u2 rfl (u4 rfl (u8 rfl aD)))) (ae rfl (u2 rfl (u4 rfl (u8 rfl aE)))) (ae rfl (u2 rfl (u4 rfl (u8 rfl aF)))) ?_;intro dz ce cf cg ci cm cn co
     refine ai ⟨(ci).trans (by(refine cJ ?_;simp only [fG,decide_eq_true_eq,Tn,true_iff,false_iff];omega)),(ce).trans (aB).symm,(cf).trans (aC).symm,(cg).trans (ad).symm,(cm).trans (aD).symm,(cn).trans (aE).symm,(co).trans (aF).symm,rfl⟩
    replace aR:=bf aR;refine az ⟨_,rfl,.inl aH⟩ rfl ?_;refine az ⟨_,rfl,.inl (ae rfl aH)⟩ rfl ?_;refine aA (bJ (u2 rfl aH) al) ⟨_,rfl,(ae rfl (u4 rfl aa))⟩ rfl ?_;refine ar (bJ (u2 rfl (u4 rfl aa)) aa) rfl<|ar (aw aa) rfl<|gZ (ae rfl (u2 rfl (u4 rfl (u8 rfl aB)))) (ae rfl (u2 rfl (u4 rfl (u8 rfl aC)))) (ae rfl (u2 rfl (u4 rfl (u8 rfl ad)))) aa (ae rfl (u2 rfl (u4 rfl (u8 rfl aD)))) (ae rfl (u2 rfl (u4 rfl (u8 rfl aE)))) (ae rfl (u2 rfl (u4 rfl (u8 rfl aF)))) ?_;intro dA cp cq ct cu cw cx cy
    refine ai ⟨(cu).trans (by(refine cJ ?_;simp only [fG,decide_eq_true_eq,Tn,true_iff,false_iff];omega)),(cp).trans (aB).symm,(cq).trans (aC).symm,(ct).trans (ad).symm,(cw).trans (aD).symm,(cx).trans (aE).symm,(cy).trans (aF).symm,rfl⟩
   ·rintro ba _ ⟨cz,cA,cB,cC,cD,cE,cF,rfl⟩;have ao:=cA.trans aB;have cG:=cB.trans aC;have bh:=cC.trans ad;have ap:=cD.trans aD;have av:=cE.trans aE;have ax:=cF.trans aF;refine aj<|gz (λe mem=>(ag e (.tmp 45)= .v (.bool (!okB i.toNat (s.data.toList.getD i.toNat default))))/\(ag e (.tmp 0)=ag ba (.tmp 0))/\(ag e (.tmp 7)=ag ba (.tmp 7))/\(ag e (.tmp 8)=ag ba (.tmp 8))/\(ag e (.tmp 9)=ag ba (.tmp 9))/\bA=mem) ?_ ?_
    ·
     refine at_<|ar (ah cz) rfl<|ar (di aa) rfl<|ar (ah aa) rfl<|bM aa (λab aU=>?_) (λab aU=>?_)
     ·replace aU:=dR aU;refine aA (ah (ae rfl (u2 rfl cG))) ⟨_,rfl,ab⟩ rfl ?_;refine aA (eH aa al) ⟨_,rfl,(ae rfl ab)⟩ rfl ?_;refine aA (ah aa) ⟨_,rfl,(u2 rfl ab)⟩ rfl ?_;refine bM aa (λaf aV=>?_) (λaf aV=>?_)
      ·replace aV:=bt aV;refine az ⟨_,rfl,.inl af⟩ rfl ?_;refine az ⟨_,rfl,.inl (ae rfl af)⟩ rfl ?_;refine az ⟨_,rfl,.inl (u2 rfl af)⟩ rfl ?_;refine az ⟨_,rfl,.inr aa⟩ rfl ?_;refine az ⟨_,rfl,.inr (ae rfl aa)⟩ rfl ?_;refine az ⟨_,rfl,.inr (u2 rfl aa)⟩ rfl ?_;refine az ⟨_,rfl,.inr aa⟩ rfl ?_;refine az ⟨_,rfl,.inr (ae rfl aa)⟩ rfl ?_;refine az ⟨_,rfl,.inr (ae rfl (u4 rfl aa))⟩ rfl ?_;refine az ⟨_,rfl,.inl (ae rfl (u8 rfl af))⟩ rfl ?_;refine aA (bD (u2 rfl (u8 rfl af)) al) ⟨_,rfl,(ae rfl (u4 rfl (u8 rfl ab)))⟩ rfl ?_;refine ar (bD (u2 rfl (u4 rfl (u8 rfl ab))) aa) rfl<|bV (u2 rfl (u16 rfl ao)) (u2 rfl (u16 rfl ap)) (u2 rfl (u16 rfl av)) (u2 rfl (u16 rfl ax)) aa ?_;intro dB cH cI cK cM cN
       refine ai ⟨(cN).trans (by(refine cJ ?_;simp only [fG,okB,decide_eq_true_eq,decide_eq_false_iff_not,Tn,true_iff,false_iff,TQ]at*;omega)),(cH).trans (ao).symm,(cI).trans (ap).symm,(cK).trans (av).symm,(cM).trans (ax).symm,rfl⟩
      replace aV:=bf aV;refine aA (ah (u2 rfl (u4 rfl bh))) ⟨_,rfl,af⟩ rfl ?_;refine aA (ez aa al) ⟨_,rfl,(ae rfl af)⟩ rfl ?_;refine aA (ah aa) ⟨_,rfl,(u2 rfl af)⟩ rfl ?_;refine bM aa (λam aY=>?_) (λam aY=>?_)
      ·replace aY:=dR aY;refine aA (ah (ae rfl (u8 rfl bh))) ⟨_,rfl,am⟩ rfl ?_;refine aA (cL aa al) ⟨_,rfl,(ae rfl am)⟩ rfl ?_;refine aA (ah aa) ⟨_,rfl,(u2 rfl am)⟩ rfl ?_;refine bM aa (λaI a2=>?_) (λaI a2=>?_)
       ·replace a2:=bt a2;refine az ⟨_,rfl,.inl aI⟩ rfl ?_;refine az ⟨_,rfl,.inl (ae rfl aI)⟩ rfl ?_;refine aA (bD (u2 rfl aI) al) ⟨_,rfl,(ae rfl (u4 rfl am))⟩ rfl ?_;refine aA (bD (u2 rfl (u4 rfl am)) aa) ⟨_,rfl,(ae rfl (u8 rfl af))⟩ rfl ?_;refine aA (bJ (u2 rfl (u8 rfl af)) aa) ⟨_,rfl,(ae rfl (u4 rfl (u8 rfl ab)))⟩ rfl ?_;refine ar (bD (u2 rfl (u4 rfl (u8 rfl ab))) aa) rfl<|bV (u2 rfl (u16 rfl ao)) (u2 rfl (u16 rfl ap)) (u2 rfl (u16 rfl av)) (u2 rfl (u16 rfl ax)) aa ?_;intro dE cO cQ cR cS cT
        refine ai ⟨(cT).trans (by(refine cJ ?_;simp only [fG,okB,decide_eq_true_eq,decide_eq_false_iff_not,Tn,true_iff,false_iff,TQ]at*;omega)),(cO).trans (ao).symm,(cQ).trans (ap).symm,(cR).trans (av).symm,(cS).trans (ax).symm,rfl⟩
       replace a2:=bf a2;refine aA (ah (u4 rfl (u8 rfl bh))) ⟨_,rfl,aI⟩ rfl ?_;refine aA (eM aa al) ⟨_,rfl,(ae rfl aI)⟩ rfl ?_;refine aA (bJ (u2 rfl aI) aa) ⟨_,rfl,(ae rfl (u4 rfl am))⟩ rfl ?_;refine aA (bD (u2 rfl (u4 rfl am)) aa) ⟨_,rfl,(ae rfl (u8 rfl af))⟩ rfl ?_;refine aA (bJ (u2 rfl (u8 rfl af)) aa) ⟨_,rfl,(ae rfl (u4 rfl (u8 rfl ab)))⟩ rfl ?_;refine ar (bD (u2 rfl (u4 rfl (u8 rfl ab))) aa) rfl<|bV (u2 rfl (u16 rfl ao)) (u2 rfl (u16 rfl ap)) (u2 rfl (u16 rfl av)) (u2 rfl (u16 rfl ax)) aa ?_;intro dF cU cW cX cY cZ
       refine ai ⟨(cZ).trans (by(refine cJ ?_;simp only [fG,okB,decide_eq_true_eq,decide_eq_false_iff_not,Tn,true_iff,false_iff,TQ]at*;omega)),(cU).trans (ao).symm,(cW).trans (ap).symm,(cX).trans (av).symm,(cY).trans (ax).symm,rfl⟩
      replace aY:=dG aY;refine az ⟨_,rfl,.inl am⟩ rfl ?_;refine az ⟨_,rfl,.inl (ae rfl am)⟩ rfl ?_;refine az ⟨_,rfl,.inl (u2 rfl am)⟩ rfl ?_;refine az ⟨_,rfl,.inr aa⟩ rfl ?_;refine az ⟨_,rfl,.inr (ae rfl aa)⟩ rfl ?_;refine az ⟨_,rfl,.inl (ae rfl (u4 rfl am))⟩ rfl ?_;refine aA (bJ (u2 rfl (u4 rfl am)) al) ⟨_,rfl,(ae rfl (u8 rfl af))⟩ rfl ?_;refine aA (bJ (u2 rfl (u8 rfl af)) aa) ⟨_,rfl,(ae rfl (u4 rfl (u8 rfl ab)))⟩ rfl ?_;refine ar (bD (u2 rfl (u4 rfl (u8 rfl ab))) aa) rfl<|bV (u2 rfl (u16 rfl ao)) (u2 rfl (u16 rfl ap)) (u2 rfl (u16 rfl av)) (u2 rfl (u16 rfl ax)) aa ?_;intro dH c6 c7 c8 c9 da
      refine ai ⟨(da).trans (by(refine cJ ?_;simp only [fG,okB,decide_eq_true_eq,decide_eq_false_iff_not,Tn,true_iff,false_iff,TQ]at*;omega)),(c6).trans (ao).symm,(c7).trans (ap).symm,(c8).trans (av).symm,(c9).trans (ax).symm,rfl⟩
     replace aU:=dG aU;refine az ⟨_,rfl,.inl ab⟩ rfl ?_;refine az ⟨_,rfl,.inl (ae rfl ab)⟩ rfl ?_;refine az ⟨_,rfl,.inl (u2 rfl ab)⟩ rfl ?_;refine az ⟨_,rfl,.inr aa⟩ rfl ?_;refine az ⟨_,rfl,.inr (ae rfl aa)⟩ rfl ?_;refine az ⟨_,rfl,.inr (u2 rfl aa)⟩ rfl ?_;refine az ⟨_,rfl,.inr aa⟩ rfl ?_;refine az ⟨_,rfl,.inr (ae rfl aa)⟩ rfl ?_;refine az ⟨_,rfl,.inr (u2 rfl aa)⟩ rfl ?_;refine az ⟨_,rfl,.inr aa⟩ rfl ?_;refine az ⟨_,rfl,.inr (ae rfl aa)⟩ rfl ?_;refine az ⟨_,rfl,.inr (ae rfl (u4 rfl aa))⟩ rfl ?_;refine az ⟨_,rfl,.inr (ae rfl (u8 rfl aa))⟩ rfl ?_;refine az ⟨_,rfl,.inl (ae rfl (u4 rfl (u8 rfl ab)))⟩ rfl ?_;refine ar (bJ (u2 rfl (u4 rfl (u8 rfl ab))) al) rfl<|bV (u2 rfl (u16 rfl ao)) (u2 rfl (u16 rfl ap)) (u2 rfl (u16 rfl av)) (u2 rfl (u16 rfl ax)) aa ?_;intro dI db dc dd df dg
     refine ai ⟨(dg).trans (by(refine cJ ?_;simp only [fG,okB,decide_eq_true_eq,decide_eq_false_iff_not,Tn,true_iff,false_iff,TQ]at*;omega)),(db).trans (ao).symm,(dc).trans (ap).symm,(dd).trans (av).symm,(df).trans (ax).symm,rfl⟩
    ·rintro dJ _ ⟨bj,dh,dk,dl,dm,rfl⟩;have bk:=dh.trans ao;have bm:=dk.trans ap;have bo:=dl.trans av;have bp:=dm.trans ax;refine aW bj (λa3=>?_) (λa3=>?_)
     ·replace a3:=dR a3;refine aj<|at_<|ar (aw al) rfl<|aT aa ?_;clear bk bj bm bo bp;intro dK bE
      refine ai<|aX<|de<|bO<|bO<|de<|bO<|bK (.inr rfl) (by kernel_rfl) (aS bE) (.ro _ rfl) ?_
      clear bE a6
      (obtain⟨h1,h2,h3⟩:=hinv;have hn:ll s.data.toList=false:=Fv (i:=i.toNat) (by omega) (by(exact Gp (by assumption)));simp [dn,hn])
     replace a3:=dG a3;refine br<|cv<|ai<|at_ ?_
     (refine ar (cj bp al ?_) rfl ?_; · (unfold In64;omega))
     refine ar (ah aa) rfl<|aZ (u2 rfl bk) (u2 rfl bm) (u2 rfl bo) aa ?_;clear bk bj bm bo bp;intro dL dp dq dr dt
     refine ai<|⟨_,⟨dt,(dp.trans bv.symm),(dq.trans bx.symm),(dr.trans bz.symm),a6,?_⟩,?_⟩
     ·(obtain⟨h1,h2,h3⟩:=hinv;refine⟨by omega,by omega,λj hj=>?_⟩;by_cases hj':j<i.toNat;exact h3 j hj';have hji:j=i.toNat:=(by omega);rw [hji];(exact Gn (by omega)))
     ·((try dsimp only);omega)
  replace aN:=bf aN;refine dD<|b7<|b7<|dC<|ai<|aj<|at_<|ar (ah aJ) rfl<|ar (dS aa al) rfl<|ar (ah aa) rfl<|bM aa (λay a5=>?_) (λay a5=>?_)
  ·replace a5:=cV a5;refine aA (ah (ae rfl (u2 rfl aJ))) ⟨_,rfl,ay⟩ rfl ?_;refine aA (hH aa rfl eI) ⟨_,rfl,(ae rfl ay)⟩ rfl ?_;refine aA (fD aa al) ⟨_,rfl,(u2 rfl ay)⟩ rfl ?_;refine ar (bD (ae rfl (u2 rfl ay)) aa) rfl<|ar (aw aa) rfl<|aT aa ?_;clear ay aJ a8 aM a7 aK;intro dM bG
   refine ai<|aX<|bK (.inr rfl) (by kernel_rfl) (aS bG) (.ro _ rfl) ?_
   clear bG a6
   (obtain⟨h1,h2,h3⟩:=hinv;have hn:ll s.data.toList=true:=(yB λj hj=>h3 j (by omega));refine cJ ?_;simp only [Ab,dn,hn,U2,Ti,decide_eq_true_eq,TQ,decide_eq_false_iff_not,Tn,false_iff,true_iff,Bool.not_eq_false']at*;omega)
  replace a5:=dj a5;refine az ⟨_,rfl,.inl ay⟩ rfl ?_;refine az ⟨_,rfl,.inl (ae rfl ay)⟩ rfl ?_;refine az ⟨_,rfl,.inl (u2 rfl ay)⟩ rfl ?_;refine ar (bJ (ae rfl (u2 rfl ay)) al) rfl<|ar (aw aa) rfl<|aT aa ?_;clear ay aJ a8 aM a7 aK;intro dO bH
  refine ai<|aX<|bK (.inr rfl) (by kernel_rfl) (aS bH) (.ro _ rfl) ?_
  clear bH a6
  (obtain⟨h1,h2,h3⟩:=hinv;have hn:ll s.data.toList=true:=(yB λj hj=>h3 j (by omega));refine cJ ?_;simp only [Ab,dn,hn,U2,Ti,decide_eq_true_eq,TQ,decide_eq_false_iff_not,Tn,false_iff,true_iff,Bool.not_eq_false']at*;omega)
theorem Jo(l:aU)(hl:eE l):bF Tryz.prog 97 [ep l] (λq=>q= .row 1 (vq l)):=by
 obtain⟨h1,h2,h3,h4,h5⟩:=id hl;refine ck (fn:=Tryz.f97) 61 (by kernel_rfl) rfl (by kernel_rfl) (S8 rfl) ?_;intro aD aE hA ao;have ap:ag aD (.tmp 0)=_:=hA 0 _ rfl;have av:aE.length=0:=by rw [ao];rfl
 clear hA ao;refine aj<|at_<|ar (qM ap rfl (by rfl)) rfl ?_
 refine ar (aw al) rfl<|aT (ae rfl aa) ?_;clear ap;intro aF ay
 refine ai<|aj<|at_<|ar (aw zd) rfl<|aY (ae rfl ay) aa ?_;clear ay;intro aG az aA
 refine ai<|aj<|at_<|ar (aw zd) rfl<|bq (ae rfl az) (ae rfl aA) aa ?_;clear az aA;intro aH ab af am
 refine ai<|aj<|ey 57 (by kernel_rfl) (by kernel_rfl) (by kernel_rfl) (by kernel_rfl) ?_
 refine dr (ah af) rfl<|dr (ak (bR mC rfl (ae rfl ab)) (by simp only [pS,Value.cells,Nat.reduceAdd]<;>rfl)) rfl ?_
 refine dr (ak (bw QX rfl aa (au rfl)) (by simp only [pS,Value.cells,Nat.reduceAdd]<;>rfl)) rfl ?_;refine dr (bj (ax aa aI) rfl (si l.nam (by omega)) um) rfl ?_;refine dr (bj (ax aa (ax al aI)) rfl (eZ _ _) e6) rfl<|dr (iQ (u4 rfl aa) (ax aa aI) rfl (nt _) nu) rfl<|dr (ah (u2 rfl (u4 rfl af))) rfl<|dr (ak (bR dA rfl (ae rfl (u2 rfl (u4 rfl ab)))) (by simp only [pS,Value.cells,Nat.reduceAdd]<;>rfl)) rfl ?_
 refine dr (ak (bw pd rfl aa (au rfl)) (by simp only [pS,Value.cells,Nat.reduceAdd]<;>rfl)) rfl ?_;refine dr (ak (bW aa rfl pa.1) (by simp only [bn]<;>rfl)) rfl ?_;refine dr (eM aa al) rfl<|dr (ah aa) rfl<|kq aa (λad an=>?_) (λad an=>?_)
 ·replace an:=bt an;refine cZ (ak (bR dW rfl (u4 rfl (u8 rfl ab))) (by simp only [pS,Value.cells,Nat.reduceAdd]<;>rfl)) ⟨_,rfl,ad⟩ rfl ?_;refine cZ (ak (bw xF rfl aa (au rfl)) (by simp only [pS,Value.cells,Nat.reduceAdd]<;>rfl)) ⟨_,rfl,(ae rfl ad)⟩ rfl ?_;refine cZ (ak (bW aa rfl xE.1) (by simp only [bn]<;>rfl)) ⟨_,rfl,(u2 rfl ad)⟩ rfl ?_;refine cZ (ak (bR dA rfl (ae rfl (u2 rfl (u4 rfl (u8 rfl ab))))) (by simp only [pS,Value.cells,Nat.reduceAdd]<;>rfl)) ⟨_,rfl,(ae rfl (u2 rfl ad))⟩ rfl ?_;refine cZ (ak (bw pd rfl aa (au rfl)) (by simp only [pS,Value.cells,Nat.reduceAdd]<;>rfl)) ⟨_,rfl,(u4 rfl ad)⟩ rfl ?_;refine cZ (ak (bW aa rfl pa.1) (by simp only [bn]<;>rfl)) ⟨_,rfl,(ae rfl (u4 rfl ad))⟩ rfl ?_
  (refine cZ (cj aa al ?_) ⟨_,rfl,(u2 rfl (u4 rfl ad))⟩ rfl ?_; · (unfold In64;omega))
  refine cZ (eH (u4 rfl aa) aa) ⟨_,rfl,(ae rfl (u2 rfl (u4 rfl ad)))⟩ rfl ?_;refine dr (bD (u8 rfl ad) aa) rfl<|dr (bj (ax aa (ax al aI)) rfl (eZ _ _) e6) rfl<|dr (iQ (ae rfl (u2 rfl (u4 rfl (u8 rfl aa)))) (ax aa aI) rfl (nt _) nu) rfl<|dr (ah (ae rfl (u2 rfl (u4 rfl (u16 rfl af))))) rfl<|dr (ak (bR dA rfl (u8 rfl (u16 rfl ab))) (by simp only [pS,Value.cells,Nat.reduceAdd]<;>rfl)) rfl ?_
  refine dr (ak (bw pd rfl aa (au rfl)) (by simp only [pS,Value.cells,Nat.reduceAdd]<;>rfl)) rfl ?_;refine dr (ak (bW aa rfl pa.1) (by simp only [bn]<;>rfl)) rfl ?_;refine dr (fD aa al) rfl<|dr (bj (ax aa (ax al aI)) rfl (eZ _ _) e6) rfl<|dr (iQ (ae rfl (u4 rfl aa)) (ax aa aI) rfl (nt _) nu) rfl<|dr (ah (u2 rfl (u4 rfl (u8 rfl (u16 rfl am))))) rfl<|dr (ak (bR dW rfl (ae rfl (u2 rfl (u4 rfl (u8 rfl (u16 rfl ab)))))) (by simp only [pS,Value.cells,Nat.reduceAdd]<;>rfl)) rfl ?_
  refine dr (ak (bw xF rfl aa (au rfl)) (by simp only [pS,Value.cells,Nat.reduceAdd]<;>rfl)) rfl ?_;refine dr (ak (bW aa rfl xE.1) (by simp only [bn]<;>rfl)) rfl ?_;refine dr (jN aI (ax (u2 rfl (u16 rfl (u16 rfl ab))) aI)) rfl<|dr (iQ (u4 rfl aa) (ax al (ax (ae rfl aa) (ax aa aI))) rfl (o9 _ _ _ _ rfl) oJ) rfl<|dr (ah (u4 rfl (u16 rfl (u16 rfl am)))) rfl<|dr (ak (bR dA rfl (ae rfl (u4 rfl (u16 rfl (u16 rfl ab))))) (by simp only [pS,Value.cells,Nat.reduceAdd]<;>rfl)) rfl ?_
  refine dr (ak (bw pd rfl aa (au rfl)) (by simp only [pS,Value.cells,Nat.reduceAdd]<;>rfl)) rfl ?_;refine dr (ak (bW aa rfl pa.1) (by simp only [bn]<;>rfl)) rfl ?_;refine dr (jN aI (ax (u8 rfl (u16 rfl (u16 rfl ab))) aI)) rfl<|dr (iQ (u4 rfl aa) (ax al (ax (ae rfl aa) (ax aa aI))) rfl (o9 _ _ _ _ rfl) oJ) rfl<|dr (ah (u2 rfl (u8 rfl (u16 rfl (u16 rfl af))))) rfl<|dr (ak (bR eF rfl (ae rfl (u2 rfl (u8 rfl (u16 rfl (u16 rfl ab)))))) (by simp only [pS,Value.cells,Nat.reduceAdd]<;>rfl)) rfl ?_
  refine dr (ak (bw tN rfl aa (au rfl)) (by simp only [pS,Value.cells,Nat.reduceAdd]<;>rfl)) rfl ?_;refine dr (ak (bW aa rfl tM.1) (by simp only [bn]<;>rfl)) rfl ?_;refine dr (fD aa al) rfl<|dr (bj (ax aa (ax al aI)) rfl (eZ _ _) e6) rfl<|dr (iQ (ae rfl (u4 rfl aa)) (ax aa aI) rfl (nt _) nu) rfl<|dr (ah (ae rfl (u16 rfl (u16 rfl (u16 rfl am))))) rfl<|dr (ak (bR eF rfl (u2 rfl (u16 rfl (u16 rfl (u16 rfl ab))))) (by simp only [pS,Value.cells,Nat.reduceAdd]<;>rfl)) rfl ?_
  refine dr (ak (bw tN rfl aa (au rfl)) (by simp only [pS,Value.cells,Nat.reduceAdd]<;>rfl)) rfl ?_;refine dr (ak (bW aa rfl tM.1) (by simp only [bn]<;>rfl)) rfl ?_;refine dr (jN aI (ax (ae rfl (u4 rfl (u16 rfl (u16 rfl (u16 rfl ab))))) aI)) rfl<|dr (iQ (u4 rfl aa) (ax al (ax (ae rfl aa) (ax aa aI))) rfl (o9 _ _ _ _ rfl) oJ) rfl<|dr (dT BO (bo (ae rfl (u16 rfl (u16 rfl (u16 rfl aa)))) (bo (u16 rfl (u16 rfl aa)) (bo (ae rfl (u8 rfl (u16 rfl aa))) (bo (ae rfl (u2 rfl (u16 rfl aa))) (bo (ae rfl (u4 rfl (u8 rfl aa))) (bo (u2 rfl (u4 rfl aa)) (bo aa bY))))))) rfl rfl rfl rfl) rfl<|dr (aw aa) rfl<|dP<|aT aa ?_;clear ad ab af am;intro aJ aB
  refine ai<|aX<|bK (.inr rfl) (by kernel_rfl) (aS aB) (.ro _ rfl) ?_
  clear aB av
  (have hp:(0:Int)<l.bs.length:=(by assumption);have hd:decide ((0:Int)<l.bs.length/\(l.js.length:Int)=l.bs.length+1)=decide ((l.js.length:Int)=l.bs.length+1):=decide_eq_decide.2 ⟨λh=>h.2,λh=>⟨hp,h⟩⟩;unfold vq;rw [hd])
 replace an:=bf an;refine cQ ⟨_,rfl,.inl ad⟩ rfl ?_;refine cQ ⟨_,rfl,.inl (ae rfl ad)⟩ rfl ?_;refine cQ ⟨_,rfl,.inl (u2 rfl ad)⟩ rfl ?_;refine cQ ⟨_,rfl,.inl (ae rfl (u2 rfl ad))⟩ rfl ?_;refine cQ ⟨_,rfl,.inl (u4 rfl ad)⟩ rfl ?_;refine cQ ⟨_,rfl,.inl (ae rfl (u4 rfl ad))⟩ rfl ?_;refine cQ ⟨_,rfl,.inl (u2 rfl (u4 rfl ad))⟩ rfl ?_;refine cQ ⟨_,rfl,.inl (ae rfl (u2 rfl (u4 rfl ad)))⟩ rfl ?_;refine dr (bJ (u8 rfl ad) al) rfl<|dr (bj (ax aa (ax al aI)) rfl (eZ _ _) e6) rfl<|dr (iQ (ae rfl (u2 rfl (u4 rfl (u8 rfl aa)))) (ax aa aI) rfl (nt _) nu) rfl<|dr (ah (ae rfl (u2 rfl (u4 rfl (u16 rfl af))))) rfl<|dr (ak (bR dA rfl (u8 rfl (u16 rfl ab))) (by simp only [pS,Value.cells,Nat.reduceAdd]<;>rfl)) rfl ?_
 refine dr (ak (bw pd rfl aa (au rfl)) (by simp only [pS,Value.cells,Nat.reduceAdd]<;>rfl)) rfl ?_;refine dr (ak (bW aa rfl pa.1) (by simp only [bn]<;>rfl)) rfl ?_;refine dr (fD aa al) rfl<|dr (bj (ax aa (ax al aI)) rfl (eZ _ _) e6) rfl<|dr (iQ (ae rfl (u4 rfl aa)) (ax aa aI) rfl (nt _) nu) rfl<|dr (ah (u2 rfl (u4 rfl (u8 rfl (u16 rfl am))))) rfl<|dr (ak (bR dW rfl (ae rfl (u2 rfl (u4 rfl (u8 rfl (u16 rfl ab)))))) (by simp only [pS,Value.cells,Nat.reduceAdd]<;>rfl)) rfl ?_
 refine dr (ak (bw xF rfl aa (au rfl)) (by simp only [pS,Value.cells,Nat.reduceAdd]<;>rfl)) rfl ?_;refine dr (ak (bW aa rfl xE.1) (by simp only [bn]<;>rfl)) rfl ?_;refine dr (jN aI (ax (u2 rfl (u16 rfl (u16 rfl ab))) aI)) rfl<|dr (iQ (u4 rfl aa) (ax al (ax (ae rfl aa) (ax aa aI))) rfl (o9 _ _ _ _ rfl) oJ) rfl<|dr (ah (u4 rfl (u16 rfl (u16 rfl am)))) rfl<|dr (ak (bR dA rfl (ae rfl (u4 rfl (u16 rfl (u16 rfl ab))))) (by simp only [pS,Value.cells,Nat.reduceAdd]<;>rfl)) rfl ?_
 refine dr (ak (bw pd rfl aa (au rfl)) (by simp only [pS,Value.cells,Nat.reduceAdd]<;>rfl)) rfl ?_;refine dr (ak (bW aa rfl pa.1) (by simp only [bn]<;>rfl)) rfl ?_;refine dr (jN aI (ax (u8 rfl (u16 rfl (u16 rfl ab))) aI)) rfl<|dr (iQ (u4 rfl aa) (ax al (ax (ae rfl aa) (ax aa aI))) rfl (o9 _ _ _ _ rfl) oJ) rfl<|dr (ah (u2 rfl (u8 rfl (u16 rfl (u16 rfl af))))) rfl<|dr (ak (bR eF rfl (ae rfl (u2 rfl (u8 rfl (u16 rfl (u16 rfl ab)))))) (by simp only [pS,Value.cells,Nat.reduceAdd]<;>rfl)) rfl ?_
 refine dr (ak (bw tN rfl aa (au rfl)) (by simp only [pS,Value.cells,Nat.reduceAdd]<;>rfl)) rfl ?_;refine dr (ak (bW aa rfl tM.1) (by simp only [bn]<;>rfl)) rfl ?_;refine dr (fD aa al) rfl<|dr (bj (ax aa (ax al aI)) rfl (eZ _ _) e6) rfl<|dr (iQ (ae rfl (u4 rfl aa)) (ax aa aI) rfl (nt _) nu) rfl<|dr (ah (ae rfl (u16 rfl (u16 rfl (u16 rfl am))))) rfl<|dr (ak (bR eF rfl (u2 rfl (u16 rfl (u16 rfl (u16 rfl ab))))) (by simp only [pS,Value.cells,Nat.reduceAdd]<;>rfl)) rfl ?_
 refine dr (ak (bw tN rfl aa (au rfl)) (by simp only [pS,Value.cells,Nat.reduceAdd]<;>rfl)) rfl ?_;refine dr (ak (bW aa rfl tM.1) (by simp only [bn]<;>rfl)) rfl ?_;refine dr (jN aI (ax (ae rfl (u4 rfl (u16 rfl (u16 rfl (u16 rfl ab))))) aI)) rfl<|dr (iQ (u4 rfl aa) (ax al (ax (ae rfl aa) (ax aa aI))) rfl (o9 _ _ _ _ rfl) oJ) rfl<|dr (dT BO (bo (ae rfl (u16 rfl (u16 rfl (u16 rfl aa)))) (bo (u16 rfl (u16 rfl aa)) (bo (ae rfl (u8 rfl (u16 rfl aa))) (bo (ae rfl (u2 rfl (u16 rfl aa))) (bo (ae rfl (u4 rfl (u8 rfl aa))) (bo (u2 rfl (u4 rfl aa)) (bo aa bY))))))) rfl rfl rfl rfl) rfl<|dr (aw aa) rfl<|dP<|aT aa ?_;clear ad ab af am;intro aK aC
 refine ai<|aX<|bK (.inr rfl) (by kernel_rfl) (aS aC) (.ro _ rfl) ?_
 clear aC av
 (have hd:decide ((0:Int)<l.bs.length/\(l.js.length:Int)=l.bs.length+1)=false:=decide_eq_false (λh=>absurd h.1 (by omega));unfold vq;rw [hd])
end Go.Proofs.YtbmlgmblfboigaaGreatDoor
namespace Go.Proofs.YtbmlgmblfboigaaGreatDoor
open Go Go.RowKit Go.Proofs Go.Lib
theorem L2:(Tryz.prog.info? 70).bind (·.zero)=some (.agg #[.int .i64 0,.int .i64 0,.int .i64 0]):=by kernel_rfl
theorem L6:∀ w,((eB Tryz.prog 70).mapM λf=>Prod.mk f.offset<$>sizeOf f.type:Sem (Array (Nat×Nat))).run Tryz.prog w= .ok (#[(0,2),(2,1)]) w:=λ_=>by kernel_rfl
theorem vR:bZ Tryz.prog 77 3 6 true 2:=by unfold bZ;kernel_rfl
theorem Jp:∀ args w,(callFunc 93 args).run Tryz.prog w= .ok (.enter 93 args) w:=λ_ _=>by kernel_rfl
theorem sN:bI Tryz.prog 73 75 2 24 (.agg #[.string ByteArray.empty,.int .i64 0]):=⟨by kernel_rfl,by kernel_rfl,by kernel_rfl⟩
theorem EA:aN Tryz.prog 3 false 1:=⟨by kernel_rfl,by kernel_rfl⟩
theorem sO:aN Tryz.prog 73 false 1:=⟨by kernel_rfl,by kernel_rfl⟩
theorem sP:aN Tryz.prog 75 true 2:=⟨by kernel_rfl,by kernel_rfl⟩
theorem PG:aN Tryz.prog 9 false 1:=⟨by kernel_rfl,by kernel_rfl⟩
structure Wd where
 txt:ByteArray
 col:Int
 deriving Inhabited
def aG(w:Wd):List AV:= [.v (.string w.txt),.v (.int .i64 w.col)]
theorem kr(w:Wd)(ws:List Wd):((w::ws).map aG).drop (1:Int).toNat =ws.map aG:=rfl
theorem kD(w:Wd)(ws:List Wd):(w::ws).getD (0:Int).toNat default=w:=rfl
def aD(nam:ByteArray)(J B S M:AV)(cnt:Int)(ws:List Wd)(last:Wd)(kind:ByteArray):List AV:= [.v (.string nam),J,B,S,.v (.int .i64 cnt),.row 2 (ws.map aG),.v (.string last.txt),.v (.int .i64 last.col),.v (.string kind),M]
def aE:Nat:=77
def fw(cnt col e:Int):Value:=.iface 70 (.agg #[.int .i64 cnt,.int .i64 col,.int .i64 e])
theorem QY(w:Wd)(h: -1000000000<=w.col/\w.col<=1000000000)(hs:w.txt.size<=1000000000):bF Tryz.prog 93 [.agg (aG w)] (λq=>q=mA (w.col+w.txt.size)):=by
 refine ck (fn:=Tryz.f93) 9 (by kernel_rfl) rfl (by kernel_rfl) (S8 rfl) ?_;intro av ax hA an;have ao:ag av (.tmp 0)=_:=hA 0 _ rfl;have ab:ax.length=0:=by rw [an];rfl
 clear hA an;refine aj<|at_<|aL (dO ao rfl ab) trivial rfl (λay ad=>?_)
 have af:=bH ad ab;have ah:=bG ad ab;have ah:_=1:=ah;clear ad;refine ar (aw al) rfl<|aT (ae rfl aa) ?_;clear ao;intro az am
 refine ai<|aj<|at_<|ar (aB iS rfl am) rfl<|ar (ak (aC EA rfl af aa (au rfl)) (by simp only [pS,Value.cells,Nat.reduceAdd]<;>rfl)) rfl ?_
 refine ar (aB gr rfl (u2 rfl am)) rfl<|ar (ak (aC PG rfl af aa (au rfl)) (by simp only [pS,Value.cells,Nat.reduceAdd]<;>rfl)) rfl ?_
 refine ar (hH aa rfl eI) rfl ?_
 (refine ar (cj (ae rfl (u2 rfl aa)) aa ?_) rfl ?_; · (unfold In64;omega))
 refine ar (aw aa) rfl<|aT aa ?_;clear am;intro aA ap
 refine ai<|aX<|bK (.inr rfl) (by kernel_rfl) (aS ap) (.ro _ rfl) ?_
 clear ap af ah;rfl
section
variable {mem:List Ob} {n:Nat} (hn:mem.length=n) {b:Nat} {nam:ByteArray} {J B S M:AV} {cnt:Int} {w:Wd} {ws:List Wd} {last:Wd} {kind:ByteArray}
include hn
theorem gw(hb:mem[b]? =some (.box aE (aD nam J B S M cnt ws last kind)))(col e:Int):dK Tryz.prog 66 [.ptr b 0,mA col,mA e] mem (λ_ _=>False) (λv m'=>v=fw cnt col e/\bz mem m' (λj=>j=b)):=by
 refine fz (fn:=Tryz.f66) 15 (by kernel_rfl) rfl (by kernel_rfl) (S8 rfl) ?_;intro ad af hA ab;have aj:ag ad (.tmp 0)=_:=hA 0 _ rfl;have al:ag ad (.tmp 1)=_:=hA 1 _ rfl;have am:ag ad (.tmp 2)=_:=hA 2 _ rfl;have ao:af.length=n:=by rw [ab];exact hn
 have ai:af[b]? =_:=(congrArg (λq=>q[b]?) ab).trans hb;simp only [pS,Value.cells,Nat.reduceAdd,aD,aE]at ai;have an:bz mem af (λj=>j=b):=by rw [ab];exact bz.refl _ _
 clear hA ab;refine at_<|ar (ah aj) rfl<|ar (bC aa) rfl<|ar (aB hP rfl aa) rfl<|ar (ak (aC EA rfl ai aa (au rfl)) (by simp only [pS,Value.cells,Nat.reduceAdd,aD,aE]<;>rfl)) rfl ?_
 refine ar (ah (u4 rfl al)) rfl<|ar (dz (bo (ae rfl aa) (bo aa bY)) uY uW uU rfl) rfl ?_
 refine ar (ah (u2 rfl (u4 rfl am))) rfl<|ar (dz (bo (ae rfl aa) (bo aa bY)) L2 yS L6 rfl) rfl ?_
 refine ar (Im [_,_,_] yS rfl aa) rfl<|LG aa trivial ?_
 repeat (first|refine dU ?_|refine fJ ?_|refine yy ?_)
 exact⟨_,rfl,rfl,an⟩
theorem ku(hb:mem[b]? =some (.box aE (aD nam J B S M cnt (w::ws) last kind)))(hl:ws.length<=1000000):dK Tryz.prog 65 [.ptr b 0] mem (λr m'=>r= .agg (aG w)/\bz mem m' (λj=>j=b)/\m'[b]? =some (.box aE (aD nam J B S M cnt ws w kind))) (λ_ _=>False):=by
 have hbn:=cI hb hn;refine fz (fn:=Tryz.f65) 37 (by kernel_rfl) rfl (by kernel_rfl) (S8 rfl) ?_;intro be aF hA aw;have aS:ag be (.tmp 0)=_:=hA 0 _ rfl;have aH:aF.length=n:=by rw [aw];exact hn
 have aI:aF[b]? =_:=(congrArg (λq=>q[b]?) aw).trans hb;simp only [pS,Value.cells,Nat.reduceAdd,aD,aE,aG,kr,kD]at aI;have aU:bz mem aF (λj=>j=b):=by rw [aw];exact bz.refl _ _
 clear hA aw;refine aj<|at_<|aL (cu jD rfl aH) trivial rfl (λbv ad=>?_)
 have aK:=bH ad aH;simp only [pS,Value.cells,Nat.reduceAdd,aD,aE,aG,kr,kD]at aK;have aM:=aJ ad aI;have aV:=RestR.aJ ad aU;have aN:=bG ad aH;clear ad aI aU;refine aY (ae rfl aS) aa ?_;clear aS;intro bx aO aZ;refine ai<|aj<|aj<|at_<|ar (ah aO) rfl<|ar (bC aa) rfl<|ar (aB iz rfl aa) rfl<|ar (ak (aC sO rfl aM aa (au rfl)) (by simp only [pS,Value.cells,Nat.reduceAdd,aD,aE,aG,kr,kD]<;>rfl)) rfl ?_
 refine ar (ak (bW aa rfl sN.1) (by simp only [bn]<;>rfl)) rfl ?_;refine ar (eH aa al) rfl ?_;refine bq (u2 rfl (u4 rfl aO)) (u2 rfl (u4 rfl aZ)) aa ?_;clear aO aZ;intro bA ab a2 a3;refine ai<|aW a3 (λax=>?_) (λax=>?_)
 ·cases ax
 replace ax:=bf ax;refine br<|ai<|aj<|fW 16 0 aN (by kernel_rfl) (by kernel_rfl) (by kernel_rfl) (by kernel_rfl) (λbB af=>?_)
 have a5:=bp af aK;have am:=bp af aM;have a6:=RestR.bp af aV;have bg:_=n+1:=fX (K:=0) af aN;clear af aK aM aV aN;refine aQ (λM_ hM_=>(ah ab)) trivial ?_;refine aQ (λM_ hM_=>(ah (ae rfl ab))) trivial ?_;refine aQ (λM_ hM_=>(ah (u2 rfl ab))) trivial ?_;refine aQ (λM_ hM_=>(bC aa)) trivial ?_;refine aQ (λM_ hM_=>(aB iz rfl aa)) trivial ?_;refine cG (b) (λM_ hM_=>(ak (aC sO rfl (cf hM_ am (by simp)) aa (au rfl)) (by simp only [pS,Value.cells,Nat.reduceAdd,aD,aE,aG,kr,kD]<;>rfl))) trivial trivial ?_;refine aQ (λM_ hM_=>(ak (cr sN aa al (by decide) (by refine fg ?_;(simp only [bn];omega))) (by simp only [pS,Value.cells,Nat.reduceAdd,aD,aE,aG,kr,kD]<;>rfl))) trivial ?_;refine aQ (λM_ hM_=>(ak (bw sP rfl aa (au rfl)) (by simp only [pS,Value.cells,Nat.reduceAdd,aD,aE,aG,kr,kD]<;>rfl))) trivial ?_;refine aQ (λM_ hM_=>(ah (u8 rfl ab))) trivial ?_;refine aQ (λM_ hM_=>(bC aa)) trivial ?_;refine aQ (λM_ hM_=>(aB iz rfl aa)) trivial ?_;refine cG (b) (λM_ hM_=>(ak (aC sO rfl (cf hM_ am (by simp)) aa (au rfl)) (by simp only [pS,Value.cells,Nat.reduceAdd,aD,aE,aG,kr,kD]<;>rfl))) trivial trivial ?_;refine aQ (λM_ hM_=>(QH sN aa al (by decide) (by simp only [bn]<;>omega))) trivial ?_;refine aQ (λM_ hM_=>(bC (u4 rfl (u8 rfl aa)))) trivial ?_;refine aQ (λM_ hM_=>(aB vR rfl aa)) trivial ?_;refine pF (b) (λM_ hM_=>(nw aa (ae rfl (u2 rfl (u4 rfl aa))) rfl rfl (cf hM_ am (by simp)) jE rfl (au rfl))) trivial trivial ⟨.inr (gi 15 5 (by kernel_rfl)),⟨.inr (gi 15 11 (by kernel_rfl)),trivial⟩⟩ (λbD an=>?_);have az:=bk an am;simp only [pS,Value.cells,Nat.reduceAdd,aD,aE,aG,kr,kD]at az;have a7:=ao an a5 (by omega);have a8:=RestR.ao an a6 (λhj_=>by rfl);have bh:=bc an bg;clear an a5 am a6;refine gj rfl ?_;refine ar (bC (ay (ae rfl (u4 rfl (u8 rfl aa))))) rfl<|ar (aB iz rfl aa) rfl<|aL (bN aa (u2 rfl (ay (u2 rfl aa))) rfl rfl az F7 rfl (au rfl)) trivial rfl (λbE ap=>?_)
 have aA:=bk ap az;simp only [pS,Value.cells,Nat.reduceAdd,aD,aE,aG,kr,kD]at aA;have aP:=ao ap a7 (by omega);have a9:=RestR.ao ap a8 (λhj_=>by rfl);have bj:=bc ap bh;clear ap az a7 a8;refine aY (ay (u2 rfl (ay (ae rfl (u2 rfl (u4 rfl (u8 rfl ab))))))) (ay (u2 rfl (ay (ae rfl (u2 rfl (u4 rfl (u8 rfl a2))))))) ?_;clear ab a2 a3;intro bF ba aR;refine ai<|aj<|at_<|ar (ah ba) rfl<|ar (bC aa) rfl<|ar (aB vR rfl aa) rfl<|ar (ak (aC sP rfl aA aa (au rfl)) (by simp only [pS,Value.cells,Nat.reduceAdd,aD,aE,aG,kr,kD]<;>rfl)) rfl ?_
 refine aL (bN (u4 rfl aR) aa rfl rfl aP jE rfl (au rfl)) trivial rfl (λbI av=>?_);have bb:=bk av aP;simp only [pS,Value.cells,Nat.reduceAdd,aD,aE,aG,kr,kD]at bb;have bm:=ao av aA (by omega);have bo:=RestR.ao av a9 (λhj_=>by(exfalso;omega));have bJ:=bc av bj;clear av aA aP a9;refine aT (ay (u4 rfl aR)) ?_;clear ba aR;intro bK bu;refine ai<|aX<|⟨_,iW (by kernel_rfl) (eb bu bb sP (au rfl) (by simp)),?_⟩
 exact⟨rfl,bo,bm⟩
theorem BQ(hb:mem[b]? =some (.box aE (aD nam J B S M cnt [] last kind)))(hc: -1000000000<=last.col/\last.col<=1000000000)(hs:last.txt.size<=1000000000):dK Tryz.prog 65 [.ptr b 0] mem (λ_ _=>False) (λv m'=>v=fw cnt (last.col+last.txt.size) 6/\bz mem m' (λj=>j=b)):=by
 have hbn:=cI hb hn;refine fz (fn:=Tryz.f65) 37 (by kernel_rfl) rfl (by kernel_rfl) (S8 rfl) ?_;intro aH am hA ad;have aw:ag aH (.tmp 0)=_:=hA 0 _ rfl;have an:am.length=n:=by rw [ad];exact hn
 have ao:am[b]? =_:=(congrArg (λq=>q[b]?) ad).trans hb;simp only [pS,Value.cells,Nat.reduceAdd,aD,aE,aG]at ao;have ay:bz mem am (λj=>j=b):=by rw [ad];exact bz.refl _ _
 clear hA ad;refine aj<|at_<|aL (cu jD rfl an) trivial rfl (λaP ab=>?_)
 have aK:=bH ab an;simp only [pS,Value.cells,Nat.reduceAdd,aD,aE,aG]at aK;have ap:=aJ ab ao;have aM:=RestR.aJ ab ay;have aN:=bG ab an;clear ab ao ay;refine aY (ae rfl aw) aa ?_;clear aw;intro aQ av az;refine ai<|aj<|aj<|at_<|ar (ah av) rfl<|ar (bC aa) rfl<|ar (aB iz rfl aa) rfl<|ar (ak (aC sO rfl ap aa (au rfl)) (by simp only [pS,Value.cells,Nat.reduceAdd,aD,aE,aG]<;>rfl)) rfl ?_
 refine ar (ak (bW aa rfl sN.1) (by simp only [bn]<;>rfl)) rfl ?_;refine ar (eH aa al) rfl ?_;refine bq (u2 rfl (u4 rfl av)) (u2 rfl (u4 rfl az)) aa ?_;clear av az;intro aR aA aS aO;refine ai<|aW aO (λaf=>?_) (λaf=>?_)
 ·replace af:=bt af;refine at_<|ar (ah aA) rfl<|ar (ah (ae rfl aA)) rfl<|ar (bC aa) rfl<|ar (aB vR rfl aa) rfl<|ar (ak (aC sP rfl ap aa (au rfl)) (by simp only [pS,Value.cells,Nat.reduceAdd,aD,aE,aG]<;>rfl)) rfl ?_
  refine ar (bj (ax aa aI) rfl (QY last hc hs) Jp) rfl<|c6 (gw (J:=J) (B:=B) (S:=S) (M:=M) (nam:=nam) (cnt:=cnt) (ws:= []) (last:=last) (kind:=kind) aN ap _ _) (ax (ae rfl (u4 rfl aa)) (ax aa (ax al aI))) gx trivial rfl (λ_ _ h=>h.elim) (λaT aU aF=>?_)
  repeat (refine dU ?_)
  exact⟨_,rfl,aF.1,aM.trans aF.2 (λj_ hj_ h_=>by exact h_)⟩
 ·cases af
end
end Go.Proofs.YtbmlgmblfboigaaGreatDoor
namespace Go.Proofs.YtbmlgmblfboigaaGreatDoor
open Go Go.RowKit Go.Proofs Go.Shelf Go.Lib
theorem BR:(Tryz.prog.info? 75).bind (·.zero)=some (.agg #[.string ByteArray.empty,.int .i64 0]):=by kernel_rfl
theorem BS:Tryz.prog.underlying 75=some (.struct (eB Tryz.prog 75)):=by kernel_rfl
theorem BU:∀ w,((eB Tryz.prog 75).mapM λf=>Prod.mk f.offset<$>sizeOf f.type:Sem (Array (Nat×Nat))).run Tryz.prog w= .ok (#[(0,1),(1,1)]) w:=λ_=>by kernel_rfl
theorem AE:∀ args w,(callFunc 63 args).run Tryz.prog w= .ok (.enter 63 args) w:=λ_ _=>by kernel_rfl
theorem sQ:bI Tryz.prog 73 75 2 24 (.agg #[.string ByteArray.empty,.int .i64 0]):=⟨by kernel_rfl,by kernel_rfl,by kernel_rfl⟩
theorem EB(s:ByteArray)(c:Int): [[AV.v (.string s),AV.v (.int .i64 c)]]= [(⟨s,c⟩:Wd)].map aG:=rfl
def gU(l:List UInt8)(a:Nat):List UInt8:=ox (l.drop a)
def e7(l:List UInt8)(a:Nat):List UInt8:=rM (gU l a)
def fO(l:List UInt8)(a:Nat):Nat:=l.length - (gU l a).length
theorem PH(l:List UInt8):(ox l).length <=l.length:=by
 unfold ox
 induction l with
 | nil=>simp
 | cons b l ih=>simp only [List.dropWhile];split<;>simp;omega
theorem PK(l:List UInt8):(rM l).length <=l.length:=by
 unfold rM
 induction l with
 | nil=>simp
 | cons b l ih=>simp only [List.takeWhile];split<;>simp;omega
theorem wO(l:List UInt8)(a:Nat):(gU l a).length <=l.length - a:=by
 have:=PH (l.drop a);rw [T9]at this;exact this
theorem BV(l:List UInt8)(a:Nat):(e7 l a).length <=(gU l a).length :=PK _
theorem xG(l:List UInt8)(a:Nat):fO l a+(e7 l a).length <=l.length:=by
 have h1:=wO l a;have h2:=BV l a;unfold fO;omega
def jI(l:List UInt8):Nat->Nat->List Wd
 | 0,_=> []
 | f+1,a=>if gU l a= []then []else⟨bs (e7 l a),fO l a+1⟩::jI l f (fO l a+(e7 l a).length)
def eh(l:List UInt8)(a:Nat):List Wd:=jI l (l.length+1 - a) a
theorem yG{l:List UInt8}{a:Nat}(h:gU l a≠ []):e7 l a≠ []/\a<=fO l a/\fO l a<l.length:=by
 have h1:=wO l a;have h2:=TT.2 h;refine⟨?_,by unfold fO;omega,by unfold fO;omega⟩;unfold e7 rM;unfold gU ox at h ⊢;generalize hq:List.dropWhile blk (List.drop a l)=q at h ⊢;cases q with
 | nil=>exact absurd rfl h
 | cons x q=>
  have:blk x=false:=by
   have h3:=List.head?_dropWhile_not blk (List.drop a l);rw [hq]at h3
   simpa using h3
  simp [List.takeWhile,pT,this]
theorem xH{l:List UInt8}{a:Nat}:e7 l a= []↔gU l a= []:=by
 constructor
 ·intro h
  by_cases h0:gU l a= []
  ·exact h0
  ·exact absurd h (yG h0).1
 ·intro h;unfold e7;rw [h];rfl
theorem Jq(l:List UInt8):∀ (f g a:Nat),l.length+1<=f+a->l.length+1<=g+a->a<=l.length->jI l f a=jI l g a:=by
 intro f
 induction f with
 | zero=>intro g a h1 h2 h3;omega
 | succ f ih=>
  intro g a h1 h2 h3;cases g with
  | zero=>omega
  | succ g=>
   simp only [jI]
   split
   ·rfl
   ·rename_i h0
    obtain⟨a1,a2,a3⟩:=yG h0;have a4:=xG l a;have a5:=TT.2 a1
    congr 1
    exact ih g _ (by omega) (by omega) a4
theorem we{l:List UInt8}{a:Nat}(ha:a<=l.length)(h:e7 l a= []):eh l a= []:=by
 unfold eh;rw [show l.length+1 - a=(l.length - a)+1 by omega,jI,if_pos (xH.1 h)]
theorem sj{l:List UInt8}{a:Nat}(ha:a<=l.length)(h:e7 l a≠ []):eh l a=⟨bs (e7 l a),fO l a+1⟩::eh l (fO l a+(e7 l a).length):=by
 have h0:gU l a≠ []:=λe=>h (xH.2 e)
 obtain⟨a1,a2,a3⟩:=yG h0;have a4:=xG l a;have a5:=TT.2 a1;unfold eh;rw [show l.length+1 - a=(l.length - a)+1 by omega,jI,if_neg h0]
 congr 1
 exact Jq l _ _ _ (by omega) (by omega) a4
theorem AG(l:List UInt8):eh l l.length= []:=by
 refine we (Tf _) (xH.2 ?_);unfold gU ox;rw [List.drop_length];rfl
theorem EC{l:List UInt8}{i:Nat}(hi:i<l.length):l.drop i=l.getD i default::l.drop (i+1):=by
 rw [UL hi,Ta,Tc hi];rfl
theorem L8{l:List UInt8}{i:Nat}(hi:i<l.length)(hb:blk (l.getD i default)=true):gU l (i+1)=gU l i:=by
 unfold gU ox;rw [EC hi];simp only [List.dropWhile,hb]
theorem BW{l:List UInt8}{i:Nat}(hi:i<l.length)(hb:blk (l.getD i default)=true):eh l (i+1)=eh l i:=by
 have h1:=L8 hi hb;have h2:e7 l (i+1)=e7 l i:=by unfold e7;rw [h1]
 have h3:fO l (i+1)=fO l i:=by unfold fO;rw [h1]
 by_cases h:e7 l i= []
 ·rw [we (by omega) h,we (by omega) (h2.trans h)]
 ·rw [sj (by omega) h,sj (by omega) (by rw [h2];exact h),h2,h3]
theorem L9{l:List UInt8}{i:Nat}(hi:i<l.length)(hb:blk (l.getD i default)=false):gU l i=l.drop i/\fO l i=i:=by
 have h1:gU l i=l.drop i:=by
  unfold gU ox;rw [EC hi];simp only [List.dropWhile,hb]
 refine⟨h1,?_⟩;unfold fO;rw [h1,T9];omega
theorem BX{l:List UInt8}{a i:Nat}(ha:a<l.length)(hai:a<i)(hi:i<=l.length)(hno:∀ k:Nat,a<=k->k<i->blk (l.getD k default)=false)(hend:i=l.length\/blk (l.getD i default)=true):e7 l a=(l.drop a).take (i - a)/\fO l a=a/\(e7 l a).length =i - a:=by
 obtain⟨h1,h2⟩:=L9 ha (hno a (Tf _) hai);have key:e7 l a=(l.drop a).take (i - a):=by
  unfold e7 rM;rw [h1];have hg:∀ k,(l.drop a).getD k 0=l.getD (a+k) default:=λk=>by simp [Ta,TS];rfl
  rcases TN i l.length with hlt|hge
  ·refine(Af (by rw [T9];omega) ?_ λk hk=>?_).1
   ·rw [hg,show a+(i - a)=i by omega];rcases hend with h|h
    ·omega
    ·simp only [pT,h];rfl
   ·rw [hg];simp only [pT,hno (a+k) (by omega) (by omega)];rfl
  ·have:=(AD (q:=pT) (l:=l.drop a) λk hk=>by
    rw [T9]at hk;rw [hg];simp only [pT,hno (a+k) (by omega) (by omega)];rfl).1
   rw [this,U1 (by rw [T9];omega)]
 exact⟨key,h2,by rw [key,T8,T9];omega⟩
theorem FK(b:UInt8):((b.toNat:Int)=32\/(b.toNat:Int)=9)↔blk b=true:=by
 rw [<- Po];unfold zj;simp only [Ui,beq_iff_eq];omega
theorem BY{l:List UInt8}{i i2:Int}{xs:List Wd}(p1:0<=i)(p2:i<l.length)(p3:xs++eh l i.toNat=eh l 0)(hb:blk (l.getD i.toNat default)=false)(r1:i<=i2)(r2:i2<=l.length)(r3:∀ k:Nat,i.toNat<=k->k<i2.toNat->blk (l.getD k default)=false)
 (he:i2.toNat=l.length\/blk (l.getD i2.toNat default)=true):i<i2/\(xs++ [(⟨bs ((l.drop i.toNat).take (i2.toNat - i.toNat)),i+1⟩:Wd)])++eh l i2.toNat=eh l 0:=by
 have hlt:i<i2:=by
  rcases Int.lt_or_eq_of_le r1 with h|h
  ·exact h
  ·subst h;rcases he with h|h
   ·omega
   ·rw [hb]at h;cases h
 obtain⟨e1,e2,e3⟩:=BX (l:=l) (a:=i.toNat) (i:=i2.toNat) (by omega) (by omega) (by omega) r3 he;refine⟨hlt,?_⟩;have hne:e7 l i.toNat≠ []:=λh=>by rw [h]at e3;simp at e3;omega
 rw [<- p3,sj (by omega) hne,e2,e3,show i.toNat+(i2.toNat - i.toNat)=i2.toNat by omega,e1,show((i.toNat:Nat):Int)+1=i+1 by omega];simp
theorem wh(l:List UInt8){a:Nat}(h:l.length<=a):eh l a= []:=by
 rcases Nat.lt_or_eq_of_le h with h|h
 ·unfold eh;rw [show l.length+1 - a=0 by omega];rfl
 ·rw [<- h];exact AG l
theorem wP{l:List UInt8}{i:Int}(h0:0<=i)(h:(l.length:Int)<=i\/blk (l.getD i.toNat default)=true):eh l (i+1).toNat =eh l i.toNat:=by
 rw [show(i+1).toNat =i.toNat+1 by omega]
 by_cases hi:i.toNat<l.length
 ·rcases h with h|h
  ·omega
  ·exact BW hi h
 ·rw [wh l (by omega),wh l (by omega)]
theorem zV(c:UInt8):bF Tryz.prog 63 [.v (.int .u8 c.toNat)] (λq=>q= .v (.bool (blk c))):=by
 refine ck (fn:=Tryz.f63) 9 (by kernel_rfl) rfl (by kernel_rfl) (S8 rfl) ?_;intro au av hA ak;have am:ag au (.tmp 0)=_:=hA 0 _ rfl;have an:av.length=0:=by rw [ak];rfl
 clear hA ak;refine aj<|at_<|ar (aw al) rfl<|aT (ae rfl am) ?_;clear am;intro ax af
 refine ai<|aj<|at_<|ar (ah af) rfl<|ar (eH aa al) rfl ?_
 refine ar (ah aa) rfl<|bM aa (λab ad=>?_) (λab ad=>?_)
 ·replace ad:=bt ad;refine az ⟨_,rfl,.inl ab⟩ rfl ?_;refine az ⟨_,rfl,.inl (ae rfl ab)⟩ rfl ?_;refine ar (bD (u2 rfl ab) al) rfl<|ar (aw aa) rfl<|aT aa ?_;clear ab af;intro ay ao
  refine ai<|aX<|bK (.inr rfl) (by kernel_rfl) (aS ao) (.ro _ rfl) ?_
  clear ao an
  (have h:=FK c;refine cJ ?_;(simp_all;done))
 replace ad:=bf ad;refine aA (ah (ae rfl (u2 rfl af))) ⟨_,rfl,ab⟩ rfl ?_;refine aA (eH aa al) ⟨_,rfl,(ae rfl ab)⟩ rfl ?_;refine ar (bJ (u2 rfl ab) aa) rfl<|ar (aw aa) rfl<|aT aa ?_;clear ab af;intro aB ap
 refine ai<|aX<|bK (.inr rfl) (by kernel_rfl) (aS ap) (.ro _ rfl) ?_
 clear ap an
 (have h:=FK c;refine cJ ?_;(simp_all;done))
theorem Iz(l:List UInt8)(hl:l.length<=1000000):bF Tryz.prog 28 [.v (.string (bs l))] (λq=>q= .row 2 ((eh l 0).map aG)):=by
 have hz:(bs l).size =l.length:=rfl;refine ck (fn:=Tryz.f28) 41 (by kernel_rfl) rfl (by kernel_rfl) (S8 rfl) ?_;intro bW bX hA bk;have bm:ag bW (.tmp 0)=_:=hA 0 _ rfl;have aV:bX.length=0:=by rw [bk];rfl
 clear hA bk;refine aj<|at_<|ar (aw al) rfl<|aT (ae rfl bm) ?_;clear bm;intro cD bp
 refine ai<|aj<|at_<|ar (aw al) rfl<|aY (ae rfl bp) aa ?_;clear bp;intro cE bu bv
 refine ai<|aj<|aj<|at_<|ar (aw al) rfl<|bq (ae rfl bu) (ae rfl bv) aa ?_;clear bu bv;intro cF bZ b0 b1
 refine ai<|bP<|Bn 75 2 b0 aV (λcG aD a2 aE=>?_)
 have b2:=bH a2 aV;have a3:=bG a2 aV;have a3:_=1:=a3;have aF:ag aD (.tmp 0)=_:=(congrArg (λq=>ag q (.tmp 0)) aE).trans (ae rfl bZ);have b6:ag aD (.tmp 3)=_:=(congrArg (λq=>ag q (.tmp 3)) aE).trans aa;have b8:ag aD (.tmp 4)=_:=(congrArg (λq=>ag q (.tmp 4)) aE).trans (ae rfl b1);clear a2 aE;refine dN (S:=(Int×List Wd)) (λs e mem=>match s with|⟨i,xs⟩=>(ag e (.tmp 4)= .v (.int .i64 i))/\(ag e (.tmp 0)=ag aD (.tmp 0))/\(∃ j,ag e (.tmp 3)= .own j/\mem[j]? =some (.row 75 2 (xs.map aG))/\True)/\(∃ n,mem.length=n/\1<=n)/\((0<=i/\i<=l.length+1/\xs.length<=i/\xs++eh l i.toNat=eh l 0))) (λs=>match s with|⟨i,xs⟩=>(l.length+1 - i).toNat) ⟨0,[]⟩ ⟨b8,rfl,⟨_,b6,b2,trivial⟩,⟨_,a3,Tf _⟩,?_⟩ ?_
 ·exact⟨by omega,by omega,by simp,rfl⟩
 ·rintro⟨i,xs⟩ cH b9 ⟨a5,ca,⟨bw,bx,af,-⟩,⟨cb,aH,cJ⟩,hinv⟩;have a6:=ca.trans aF;have cK:=cI af aH
  (obtain⟨p1,p2,p4,p3⟩:=hinv)
  refine aj<|aj<|at_<|ar (ah a5) rfl<|ar (ah (ae rfl a6)) rfl<|ar (hH aa rfl eI) rfl<|ar (cL (u2 rfl aa) aa) rfl<|aZ (u4 rfl a6) (u4 rfl bx) (u4 rfl a5) aa ?_;clear a6 bx a5;intro cM aJ aK aM a7
  refine ai<|aW a7 (λan=>?_) (λan=>?_)
  ·replace an:=bt an;refine br<|ai<|aj<|bP<|aj<|aj<|at_<|ar (ah aJ) rfl<|ar (ah (ae rfl aM)) rfl<|ar (vW (ae rfl aa) aa eI (by omega) (by refine xu ?_;omega)) rfl ?_
   refine ar (bj (ax aa aI) rfl (zV _) AE) rfl<|aZ (u4 rfl aJ) (u4 rfl aK) (u4 rfl aM) aa ?_;clear aJ aK aM a7;intro cN aN aO ao a8
   refine ai<|aW a8 (λcc=>?_) (λcc=>?_)
   ·skip;refine dD<|b7<|dC<|ai<|at_<|ar (ah ao) rfl ?_
    (refine ar (cj aa al ?_) rfl ?_; · (unfold In64;omega))
    refine ar (aw aa) rfl<|bq (ae rfl (u2 rfl aN)) (ae rfl (u2 rfl aO)) aa ?_;clear aN a8 aO ao;intro cO cd ce cf
    refine ai<|⟨⟨_,_⟩,⟨cf,(cd.trans aF.symm),⟨_,ce,af,trivial⟩,⟨_,aH,by omega⟩,?_⟩,?_⟩
    ·(have hb:blk (l.getD i.toNat default)=true:=(show blk (l.getD i.toNat default)=true by assumption);exact⟨by omega,by simp at*;omega,by omega,by rw [wP p1 (.inr hb)];exact p3⟩)
    ·((try dsimp only);(simp at*;omega))
   refine br<|ai<|aj<|at_<|ar (ah ao) rfl<|ar (aw aa) rfl<|aZ (u2 rfl aN) (u2 rfl aO) (u2 rfl ao) aa ?_;clear aN a8 aO ao;intro a9 bz bA cg bB
   refine ai<|aj<|bP<|dN (S:=Int) (λi2 e mem=>(ag e (.tmp 4)= .v (.int .i64 i2))/\(ag e (.tmp 0)=ag a9 (.tmp 0))/\(ag e (.tmp 3)=ag a9 (.tmp 3))/\(ag e (.tmp 5)=ag a9 (.tmp 5))/\(mem[bw]? =b9[bw]?)/\(mem.length=cb)/\((i<=i2/\i2<=l.length/\ ∀ k:Nat,i.toNat<=k->k<i2.toNat->blk (l.getD k default)=false))) (λi2=>(l.length - i2).toNat) i ⟨cg,rfl,rfl,rfl,rfl,aH,?_⟩ ?_
   ·exact⟨by omega,by omega,λk h1 h2=>by omega⟩
   ·rintro i2 cP cQ ⟨ak,ci,cm,cn,co,ad,hinv⟩;have am:=ci.trans bz;have aQ:=cm.trans bA;have aR:=cn.trans bB;have ap:=co.trans af
    (obtain⟨r1,r2,r3⟩:=hinv)
    refine aj<|aj<|at_<|ar (ah ak) rfl<|ar (ah (ae rfl am)) rfl<|ar (hH aa rfl eI) rfl<|ar (cL (u2 rfl aa) aa) rfl<|ar (ah aa) rfl<|bM aa (λab au=>?_) (λab au=>?_)
    ·replace au:=bt au;refine aA (ah (ae rfl (u4 rfl am))) ⟨_,rfl,ab⟩ rfl ?_;refine aA (ah (u2 rfl (u4 rfl ak))) ⟨_,rfl,(ae rfl ab)⟩ rfl ?_;refine aA (vW (ae rfl aa) aa eI (by omega) (by refine xu ?_;omega)) ⟨_,rfl,(u2 rfl ab)⟩ rfl ?_;refine aA (bj (ax aa aI) rfl (zV _) AE) ⟨_,rfl,(ae rfl (u2 rfl ab))⟩ rfl ?_;refine aA (di aa) ⟨_,rfl,(u4 rfl ab)⟩ rfl ?_;refine ar (bD (ae rfl (u4 rfl ab)) aa) rfl<|bV (ae rfl (u2 rfl (u8 rfl am))) (ae rfl (u2 rfl (u8 rfl aQ))) (ae rfl (u2 rfl (u8 rfl ak))) (ae rfl (u2 rfl (u8 rfl aR))) aa ?_;clear ab am aQ ak aR;intro cR av aU ay aB ba
     refine ai<|aW ba (λaC=>?_) (λaC=>?_)
     ·replace aC:=cV aC;refine br<|ai<|bP<|at_<|ar (ah ay) rfl ?_
      (refine ar (cj aa al ?_) rfl ?_; · (unfold In64;omega))
      refine ar (aw aa) rfl<|aZ (ae rfl (u2 rfl av)) (ae rfl (u2 rfl aU)) aa (ae rfl (u2 rfl aB)) ?_;clear av ba aU ay aB;intro cS cp cq cr ct
      refine cv<|ai<|⟨_,⟨cr,(cp.trans bz.symm),(cq.trans bA.symm),(ct.trans bB.symm),(ap.trans af.symm),ad,?_⟩,?_⟩
      ·(have hb:blk (l.getD i2.toNat default)=false:=(by assumption);exact⟨by omega,by omega,λk h1 h2=>if hk:k<i2.toNat then r3 k h1 hk else(by rw [show k=i2.toNat by omega];exact hb)⟩)
      ·((try dsimp only);omega)
     replace aC:=dj aC;refine dD<|b7<|b7<|dC<|ai<|at_<|ar (ah aU) rfl<|ar (ah (ae rfl av)) rfl<|ar (ah (u2 rfl aB)) rfl<|ar (ah (ae rfl (u2 rfl ay))) rfl<|ar (Ap (u2 rfl aa) (ae rfl aa) aa eI (by omega) (by omega) (by omega)) rfl ?_
     refine ar (ah (ae rfl (u4 rfl aB))) rfl ?_
     (refine ar (cj aa al ?_) rfl ?_; · (unfold In64;omega))
     refine ar (dz (bo (u2 rfl aa) (bo aa bY)) BR BS BU rfl) rfl ?_;refine ar (dT sQ (bo aa bY) rfl rfl rfl rfl) rfl<|aL (nP sQ rfl ad ap (u8 rfl aa) aa (by rfl) (by simp only [bn]<;>omega)) trivial rfl (λcT bb=>?_)
     have bC:=pE bb ad;simp only [pS,Value.cells,Nat.reduceAdd,jy,uG,EB,aP]at bC;have cu:=oN bb ad;clear bb ap;refine ar (aw aa) rfl<|bq (ae rfl (u2 rfl (u8 rfl av))) aa (ae rfl (u2 rfl (u8 rfl ay))) ?_;clear av ba aU ay aB;intro cU bE bI bL
     refine cv<|ai<|at_<|ar (ah bL) rfl ?_
     (refine ar (cj aa al ?_) rfl ?_; · (unfold In64;omega))
     refine ar (aw aa) rfl<|bq (ae rfl (u2 rfl bE)) (ae rfl (u2 rfl bI)) aa ?_;clear bE bI bL;intro cW cw cx cy
     refine ai<|⟨⟨_,_⟩,⟨cy,(cw.trans aF.symm),⟨_,cx,bC,trivial⟩,⟨_,cu,by omega⟩,?_⟩,?_⟩
     ·(have hw:=BY p1 (by simp at*;omega) p3 (show blk (l.getD i.toNat default)=false by assumption) r1 r2 r3 (by(exact .inr (show blk (l.getD i2.toNat default)=true by assumption)));exact⟨by omega,by omega,by(rw [TM,List.length_singleton];omega),by rw [wP (by omega) (by(exact .inr (show blk (l.getD i2.toNat default)=true by assumption)))];exact hw.2⟩)
     ·((try dsimp only);(simp at*;omega))
    replace au:=bf au;refine az ⟨_,rfl,.inl ab⟩ rfl ?_;refine az ⟨_,rfl,.inl (ae rfl ab)⟩ rfl ?_;refine az ⟨_,rfl,.inl (u2 rfl ab)⟩ rfl ?_;refine az ⟨_,rfl,.inl (ae rfl (u2 rfl ab))⟩ rfl ?_;refine az ⟨_,rfl,.inl (u4 rfl ab)⟩ rfl ?_;refine ar (bJ (ae rfl (u4 rfl ab)) al) rfl<|bV (ae rfl (u2 rfl (u8 rfl am))) (ae rfl (u2 rfl (u8 rfl aQ))) (ae rfl (u2 rfl (u8 rfl ak))) (ae rfl (u2 rfl (u8 rfl aR))) aa ?_;clear ab am aQ ak aR;intro cX bc bN be bg bO
    refine ai<|iP bO<|dD<|b7<|b7<|dC<|ai<|at_<|ar (ah bN) rfl<|ar (ah (ae rfl bc)) rfl<|ar (ah (u2 rfl bg)) rfl<|ar (ah (ae rfl (u2 rfl be))) rfl<|ar (Ap (u2 rfl aa) (ae rfl aa) aa eI (by omega) (by omega) (by omega)) rfl ?_
    refine ar (ah (ae rfl (u4 rfl bg))) rfl ?_
    (refine ar (cj aa al ?_) rfl ?_; · (unfold In64;omega))
    refine ar (dz (bo (u2 rfl aa) (bo aa bY)) BR BS BU rfl) rfl ?_;refine ar (dT sQ (bo aa bY) rfl rfl rfl rfl) rfl<|aL (nP sQ rfl ad ap (u8 rfl aa) aa (by rfl) (by simp only [bn]<;>omega)) trivial rfl (λcY bh=>?_)
    have bQ:=pE bh ad;simp only [pS,Value.cells,Nat.reduceAdd,jy,uG,EB,aP]at bQ;have cz:=oN bh ad;clear bh ap;refine ar (aw aa) rfl<|bq (ae rfl (u2 rfl (u8 rfl bc))) aa (ae rfl (u2 rfl (u8 rfl be))) ?_;clear bc bO bN be bg;intro cZ bR bS bT
    refine cv<|ai<|at_<|ar (ah bT) rfl ?_
    (refine ar (cj aa al ?_) rfl ?_; · (unfold In64;omega))
    refine ar (aw aa) rfl<|bq (ae rfl (u2 rfl bR)) (ae rfl (u2 rfl bS)) aa ?_;clear bR bS bT;intro c6 cA cB cC
    refine ai<|⟨⟨_,_⟩,⟨cC,(cA.trans aF.symm),⟨_,cB,bQ,trivial⟩,⟨_,cz,by omega⟩,?_⟩,?_⟩
    ·(have hw:=BY p1 (by simp at*;omega) p3 (show blk (l.getD i.toNat default)=false by assumption) r1 r2 r3 (by(exact .inl (by simp at*;omega)));exact⟨by omega,by omega,by(rw [TM,List.length_singleton];omega),by rw [wP (by omega) (by(exact .inl (by simp at*;omega)))];exact hw.2⟩)
    ·((try dsimp only);(simp at*;omega))
  replace an:=bf an;refine dD<|b7<|b7<|dC<|ai<|aj<|at_<|ar (ah aK) rfl<|ar (aw aa) rfl<|aT aa ?_;clear aJ aK aM a7;intro c7 bU
  refine ai<|aX<|bK (.inr rfl) (by kernel_rfl) (aS bU) (.own _ _ _ _ af) ?_
  clear bU af aH
  (rw [wh l (by simp at*;omega),Uc]at p3;rw [<- p3])
theorem Jr:∀ args w,(callFunc 62 args).run Tryz.prog w= .ok (.enter 62 args) w:=λ_ _=>by kernel_rfl
theorem Js:∀ args w,(callFunc 91 args).run Tryz.prog w= .ok (.enter 91 args) w:=λ_ _=>by kernel_rfl
theorem qO:aN Tryz.prog 9 false 1:=⟨by kernel_rfl,by kernel_rfl⟩
def lg:Nat->List UInt8->List (List UInt8)
 | 0,_=> []
 | f+1,l=>if l= []then []else if 0<=indexByte l 10 then l.take ((indexByte l 10).toNat +1)::lg f (l.drop ((indexByte l 10).toNat +1))else [l]
def dF(l:List UInt8):List (List UInt8):=lg l.length l
theorem vL:∀ (f:Nat) (l:List UInt8),l.length<=f->lg f l=dF l:=by
 have key:∀ (f g:Nat) (l:List UInt8),l.length<=f->l.length<=g->lg f l=lg g l:=by
  intro f
  induction f with
  | zero=>
   intro g l hf hg;have:l= []:=Ub (by omega);subst this;cases g<;>simp [lg]
  | succ f ih=>
   intro g l hf hg;cases g with
   | zero=>
    have:l= []:=Ub (by omega);subst this;simp [lg]
   | succ g=>
    simp only [lg]
    split
    ·rfl
    ·split
     ·rename_i h1 h2
      congr 1
      have hp:=TT.2 h1;exact ih g _ (by rw [T9];omega) (by rw [T9];omega)
     ·rfl
 exact λf l h=>key f l.length l h (Tf _)
theorem mr:dF []= []:=rfl
theorem IA{l:List UInt8}(h:l≠ [])(hi:0<=indexByte l 10):dF l=l.take ((indexByte l 10).toNat +1)::dF (l.drop ((indexByte l 10).toNat +1)):=by
 have hp:=TT.2 h;rw [<- vL (l.length+1) l (by omega)];simp only [lg];rw [if_neg h,if_pos hi,vL _ _ (by rw [T9];omega)]
theorem IB{l:List UInt8}(h:l≠ [])(hi:¬ 0<=indexByte l 10):dF l= [l]:=by
 have hp:=TT.2 h;rw [<- vL (l.length+1) l (by omega)];simp only [lg];rw [if_neg h,if_neg hi]
def mh(r:List UInt8):List UInt8:=if 0<=indexByte r 10 then r.take ((indexByte r 10).toNat +1)else r
def iO(r:List UInt8):List UInt8:=if 0<=indexByte r 10 then r.drop ((indexByte r 10).toNat +1)else []
theorem nj{r:List UInt8}(h:r≠ []):dF r=mh r::dF (iO r):=by
 unfold mh iO
 split
 ·rename_i hi;exact IA h hi
 ·rename_i hi;rw [IB h hi,mr]
theorem lL{r:List UInt8}(h:r≠ []):(iO r).length <r.length:=by
 have:=TT.2 h;unfold iO
 split
 ·rw [T9];omega
 ·simpa using this
theorem QZ(r:List UInt8)(h:0<=indexByte r 10):(bs r).extract 0 (indexByte r 10+1).toNat =bs (mh r):=by
 rw [Pv,jy,show(indexByte r 10+1).toNat =(indexByte r 10).toNat +1 by omega,mh,if_pos h]
theorem Q0(r:List UInt8)(h:0<=indexByte r 10):(bs r).extract (indexByte r 10+1).toNat (bs r).size =bs (iO r):=by
 rw [Pq,jy,show(indexByte r 10+1).toNat =(indexByte r 10).toNat +1 by omega,iO,if_pos h]
theorem y9{r:List UInt8}(h:¬ 0<=indexByte r 10):mh r=r/\iO r= []:=by
 unfold mh iO;rw [if_neg h,if_neg h];exact⟨rfl,rfl⟩
def vr(l:List UInt8):List AV:= [.v (.string (bs l))]
theorem Hi(l:List UInt8)(c:Int):bF Tryz.prog 62 [.v (.string (bs l)),.v (.int .u8 c)] (λq=>q= .v (.int .i64 (indexByte l c.toNat.toUInt8))):=by
 have h:=Ht (bs l) c;rw [jy]at h;refine ck (fn:=Tryz.f62) 8 (by kernel_rfl) rfl (by kernel_rfl) (S8 rfl) ?_;intro ab ap hA ad;have af:ag ab (.tmp 0)=_:=hA 0 _ rfl;have ak:ag ab (.tmp 1)=_:=hA 1 _ rfl;have au:ap.length=0:=by rw [ad];rfl
 clear hA ad;refine aj<|at_<|ar (aw al) rfl<|aY (ae rfl af) (ae rfl ak) ?_;clear af ak;intro av am an
 refine ai<|aj<|at_<|ar (ah am) rfl<|ar (ah (ae rfl an)) rfl<|ar (bj (ax (ae rfl aa) (ax aa aI)) rfl (h) Js) rfl<|ar (aw aa) rfl<|aT aa ?_;clear am an;intro ay ao
 refine ai<|aX<|bK (.inr rfl) (by kernel_rfl) (aS ao) (.ro _ rfl) ?_
 clear ao au;rfl
theorem Mc(s:ByteArray):iY Tryz.prog [] 27 [.v (.string s)] [] (.clo (.func 61) [] [.ptr 1 0]) [.box 9 [.v (.string s)]]:=by
 refine nI (fn:=Tryz.f27) [] 4 (by kernel_rfl) rfl (by kernel_rfl) (S8 rfl) ?_;intro ao ap hA ad;have ak:ag ao (.tmp 0)=_:=hA 0 _ rfl;have af:ap.length=1:=by rw [ad];rfl
 have am:=nY ad;clear hA ad;refine aj<|at_<|aL (dO ak rfl af) trivial rfl (λaz ab=>?_)
 have au:=bH ab af
 (skip)
 have av:=aJ ab am;have ah:=bG ab af;have ah:_=2:=ah;clear ab am;refine ar (aw al) rfl<|aT (ae rfl aa) ?_;clear ak;intro aA an
 refine ai<|aj<|at_<|ar (jN aI (ax an aI)) rfl<|ar (aw aa) rfl<|aT aa ?_;clear an;intro aB ay
 refine ai<|aX<|nQ (.inr rfl) [1] ah av (by decide) rfl (iW (by kernel_rfl) (aS ay)) (jX au ?_ .nil) ?_
 all_goals (rfl)
def zr(l r:List UInt8)(i:Nat):Prop:=i+(dF r).length =(dF l).length /\(dF l).drop i=dF r/\r.length<=l.length
theorem tO{l r y q:List UInt8}{i:Nat}(h:zr l r i)(hy:dF r=y::dF q)(hq:q.length<=r.length):((dF l).map vr)[i]? =some [AV.v (.string (bs y))]/\zr l q (i+1):=by
 obtain⟨h1,h2,h3⟩:=h;have h4:(dF l)[i]? =some y:=by
  have:=congrArg (λz=>z[0]?) h2;simp only [TS,hy]at this
  simpa using this
 refine⟨by rw [Tm,h4];rfl,?_,?_,by omega⟩
 ·rw [hy]at h1;simp at h1;omega
 ·have:=congrArg (λz=>z.drop 1) h2;simp only [Ur,hy]at this
  simpa using this
theorem Jt(l:List UInt8)(hl:l.length<=1000000)(jv:Nat):yz Tryz.prog 61 [] [.ptr jv 0] jv 9 [.v (.string (bs l))] ((dF l).map vr):=by
 refine Pe (fn:=Tryz.f61) 25 (by kernel_rfl) rfl (by kernel_rfl) (S8 rfl) (λ_ _=>⟨.tuple #[],by kernel_rfl⟩) ?_;intro lb_ an hA;have aJ:ag an (.tmp 0)=_:=hA 0 _ rfl;have aK:ag an (.tmp 1)=_:=hA 1 _ rfl;clear hA;refine BA<|O7 (S:=(List UInt8×Nat)) (λs e b i c=>match s with|⟨r,k⟩=>(ag e (.tmp 0)=ag an (.tmp 0))/\(ag e (.tmp 1)=ag an (.tmp 1))/\(b=true)/\(i=k)/\(c= [.v (.string (bs r))])/\((zr l r k))) (λs=>match s with|⟨r,k⟩=>r.length) ⟨l,0⟩ ⟨rfl,rfl,rfl,(by rfl),rfl,?_⟩ ?_
 ·exact⟨by omega,rfl,Tf _⟩
 ·rintro⟨r,k⟩ bc _ be _ ⟨aZ,a2,rfl,hix,rfl,hinv⟩;have aS:=aZ.trans aJ;have aL:=a2.trans aK
  (obtain⟨p1,p2,p3⟩:=hinv;have hz:(bs r).size =r.length:=rfl;have hi:=Hi r 10;rw [show((10:Int).toNat.toUInt8)=(10:UInt8)from rfl]at hi;obtain⟨g1,g2⟩:=FD r 10)
  refine mM<|mM<|nJ ?_
  refine fM (λmem_ hm_=>(ak (aC qO rfl hm_ aL (au rfl)) (by simp only [pS,Value.cells,Nat.reduceAdd]<;>rfl))) trivial rfl ?_;refine fM (λmem_ hm_=>(hH aa rfl eI)) trivial rfl ?_;refine fM (λmem_ hm_=>(eM aa al)) trivial rfl ?_;refine k9 (λbg ao=>?_);have aT:=ef 0 ao (ae rfl (u2 rfl aS));have aU:=ef 1 ao (ae rfl (u2 rfl aL));have aV:=ef 7 ao aa;clear ao aS aL;refine jw<|tK aV (λad=>?_) (λad=>?_)
  ·replace ad:=bt ad;refine xA<|jw<|BA<|mM<|nJ ?_
   refine fM (λmem_ hm_=>(aw al)) trivial rfl ?_;refine k9 (λbh aM=>?_);have aW:=ef 0 aM (ae rfl aT);have aN:=ef 1 aM (ae rfl aU);clear aM aT aU aV;refine jw<|mM<|mM<|nJ ?_
   refine fM (λmem_ hm_=>(ak (aC qO rfl hm_ aN (au rfl)) (by simp only [pS,Value.cells,Nat.reduceAdd]<;>rfl))) trivial rfl ?_;refine fM (λmem_ hm_=>(bj (ax aa (ax al aI)) rfl (hi) Jr)) trivial rfl ?_;refine fM (λmem_ hm_=>(aw aa)) trivial rfl ?_;refine k9 (λbk ap=>?_);have aX:=ef 0 ap (ae rfl (u2 rfl aW));have aY:=ef 1 ap (ae rfl (u2 rfl aN));have aO:=ef 4 ap aa;clear ap aW aN;refine jw<|mM<|nJ ?_
   refine fM (λmem_ hm_=>(ah aO)) trivial rfl ?_;refine fM (λmem_ hm_=>(lP aa al)) trivial rfl ?_;refine k9 (λbm af=>?_);have ar:=ef 0 af (u2 rfl aX);have ab:=ef 1 af (u2 rfl aY);have av:=ef 4 af (u2 rfl aO);have aP:=ef 11 af aa;clear af aX aY aO;refine jw<|tK aP (λai=>?_) (λai=>?_)
   ·replace ai:=bt ai;refine O9 9 (by kernel_rfl) (by kernel_rfl) (by kernel_rfl) (by kernel_rfl) ?_;refine lR (λmem_ hm_=>(ak (aC qO rfl hm_ ab (au rfl)) (by simp only [pS,Value.cells,Nat.reduceAdd]<;>rfl))) trivial rfl ?_;refine lR (λmem_ hm_=>(ah (ae rfl av))) trivial rfl ?_
    (refine lR (λmem_ hm_=>(cj aa al ?_)) trivial rfl ?_; · (unfold In64;omega))
    refine lR (λmem_ hm_=>(OY (u2 rfl aa) aa eI (by omega) (by omega))) trivial rfl ?_;refine lR (λmem_ hm_=>(ak (aC qO rfl hm_ (u4 rfl ab) (au rfl)) (by simp only [pS,Value.cells,Nat.reduceAdd]<;>rfl))) trivial rfl ?_;refine lR (λmem_ hm_=>(ah (ae rfl (u4 rfl av)))) trivial rfl ?_
    (refine lR (λmem_ hm_=>(cj aa al ?_)) trivial rfl ?_; · (unfold In64;omega))
    refine lR (λmem_ hm_=>(OX (u2 rfl aa) aa eI (by omega) (by omega))) trivial rfl ?_;refine lR (λmem_ hm_=>(aw (u4 rfl aa))) trivial rfl ?_;refine O8 ?_;refine Gm rfl (λmem_ hm_=>(bN (ae rfl (u8 rfl ab)) (ae rfl aa) rfl rfl hm_ oc rfl (au rfl))) trivial rfl ?_;refine k9 (λbn az=>?_);have aj:=ef 0 az (ay (ae rfl (u8 rfl ar)));have aA:=ef 1 az (ay (ae rfl (u8 rfl ab)));have aQ:=ef 3 az (ay aa);clear az ar aP ab av;refine jw<|mM<|nJ ?_
    refine fM (λmem_ hm_=>(ah aj)) trivial rfl ?_;refine fM (λmem_ hm_=>(ah (ae rfl aQ))) trivial rfl ?_;refine BD (ae rfl aa) (ax aa aI) rfl trivial rfl rfl (by(subst hix;have hn:r≠ []:=TT.1 (by omega);have h5:=(tO ⟨p1,p2,p3⟩ (nj hn) (UB (lL hn))).1;(rw [QZ r (by omega)];exact h5))) ?_ ?_
    ·
     refine fM (λmem_ hm_=>(di aa)) trivial rfl ?_;refine k9 (λbo aB=>?_);have a3:=ef 0 aB (u4 rfl aj);have a5:=ef 1 aB (u4 rfl aA);have a6:=ef 24 aB aa;clear aB aj aA aQ;refine jw<|Bz a6 ?_
     refine xA<|BC<|jw<|⟨⟨iO r,k+1⟩,⟨(a3.trans aJ.symm),(a5.trans aK.symm),rfl,(by omega),(by(rw [<- Q0 r (by omega)];rfl)),?_⟩,?_⟩
     ·(have hn:r≠ []:=TT.1 (by omega);exact(tO ⟨p1,p2,p3⟩ (nj hn) (UB (lL hn))).2)
     ·((try dsimp only);(have hn:r≠ []:=TT.1 (by omega);exact lL hn))
    ·
     refine fM (λmem_ hm_=>(di aa)) trivial rfl ?_;refine k9 (λbp aD=>?_);have bq:=ef 0 aD (u4 rfl aj);have br:=ef 1 aD (u4 rfl aA);have a7:=ef 24 aD aa;clear aD aj aA aQ;refine jw<|Eo a7 ?_
     refine Fo<|sM<|Es<|sM<|Fp (λhb_=>(by cases hb_))
   replace ai:=bf ai;refine nJ ?_;refine fM (λmem_ hm_=>(ak (aC qO rfl hm_ ab (au rfl)) (by simp only [pS,Value.cells,Nat.reduceAdd]<;>rfl))) trivial rfl ?_;refine fM (λmem_ hm_=>(aw aa)) trivial rfl ?_;refine Gm rfl (λmem_ hm_=>(bN (u2 rfl ab) al rfl rfl hm_ oc rfl (au rfl))) trivial rfl ?_;refine k9 (λbu aE=>?_);have am:=ef 0 aE (ay (u2 rfl ar));have aF:=ef 1 aE (ay (u2 rfl ab));have aR:=ef 3 aE (ay aa);clear aE ar aP ab av;refine jw<|mM<|nJ ?_
   refine fM (λmem_ hm_=>(ah am)) trivial rfl ?_;refine fM (λmem_ hm_=>(ah (ae rfl aR))) trivial rfl ?_;refine BD (ae rfl aa) (ax aa aI) rfl trivial rfl rfl (by(subst hix;have hn:r≠ []:=TT.1 (by omega);have h5:=(tO ⟨p1,p2,p3⟩ (nj hn) (UB (lL hn))).1;(rw [(y9 (r:=r) (by omega)).1]at h5;exact h5))) ?_ ?_
   ·
    refine fM (λmem_ hm_=>(di aa)) trivial rfl ?_;refine k9 (λbv aG=>?_);have a8:=ef 0 aG (u4 rfl am);have a9:=ef 1 aG (u4 rfl aF);have ba:=ef 24 aG aa;clear aG am aF aR;refine jw<|Bz ba ?_
    refine xA<|BC<|jw<|⟨⟨iO r,k+1⟩,⟨(a8.trans aJ.symm),(a9.trans aK.symm),rfl,(by omega),(by(rw [(y9 (r:=r) (by omega)).2];rfl)),?_⟩,?_⟩
    ·(have hn:r≠ []:=TT.1 (by omega);exact(tO ⟨p1,p2,p3⟩ (nj hn) (UB (lL hn))).2)
    ·((try dsimp only);(have hn:r≠ []:=TT.1 (by omega);exact lL hn))
   ·
    refine fM (λmem_ hm_=>(di aa)) trivial rfl ?_;refine k9 (λbw aH=>?_);have bx:=ef 0 aH (u4 rfl am);have bz:=ef 1 aH (u4 rfl aF);have bb:=ef 24 aH aa;clear aH am aF aR;refine jw<|Eo bb ?_
    refine Fo<|sM<|Es<|sM<|Fp (λhb_=>(by cases hb_))
  replace ad:=bf ad;refine O6<|Ep<|Ep<|Io ?_
  refine QL (λhb_=>?_)
  (rw [TV];have h0:r= []:=Ub (by omega);rw [h0,mr]at p1;simp at p1;omega)
def eJ(l:List UInt8):List UInt8:=trimSuffix l [10]
theorem Md(l:List UInt8):(eJ l).length <=l.length:=by
 unfold eJ trimSuffix
 split
 ·rw [T8];omega
 ·exact Tf _
theorem IC(l:List UInt8):(dF l).length <=l.length:=by
 have key:∀ (n:Nat) (l:List UInt8),l.length<=n->(dF l).length <=l.length:=by
  intro n
  induction n with
  | zero=>
   intro l h;have:l= []:=Ub (by omega);subst this;simp [mr]
  | succ n ih=>
   intro l h
   by_cases h0:l= []
   ·subst h0;simp [mr]
   ·have h1:=lL h0;have h2:=ih (iO l) (by omega);rw [nj h0,Tj];omega
 exact key l.length l (Tf _)
theorem ID{l y:List UInt8}(h:y∈dF l):y.length<=l.length:=by
 have key:∀ (n:Nat) (l:List UInt8),l.length<=n->y∈dF l->y.length<=l.length:=by
  intro n
  induction n with
  | zero=>
   intro l h hy;have:l= []:=Ub (by omega);subst this;simp [mr]at hy
  | succ n ih=>
   intro l h hy
   by_cases h0:l= []
   ·subst h0;simp [mr]at hy
   ·have h1:=lL h0;rw [nj h0]at hy;rcases TX.1 hy with rfl|hy
    ·unfold mh;split
     ·rw [T8];omega
     ·exact Tf _
    ·have:=ih (iO l) (by omega) hy;omega
 exact key l.length l (Tf _) h
theorem Q3{tx:List UInt8}{i:Nat}{a:AV}(h:((dF tx).map vr)[i]? =some [a]):∃ l,(dF tx)[i]? =some l/\a= .v (.string (bs l))/\l.length<=tx.length/\i<(dF tx).length :=by
 rw [Tm]at h;cases hq:(dF tx)[i]? with
 | none=>rw [hq]at h;cases h
 | some l=>
  rw [hq]at h;simp [vr]at h;exact⟨l,rfl,h.symm,ID (TD hq),(S9.1 hq).1⟩
def vt(p:List UInt8):List (List UInt8)->List (List UInt8)
 | []=> [p]
 | x::xs=>(p++x)::xs
def iv:List UInt8->List (List UInt8)
 | []=> [[]]
 | b::l=>if b=10 then []::iv l else vt [b] (iv l)
theorem Q4(p:List UInt8)(L:List (List UInt8)):vt p L≠ []:=by cases L<;>simp [vt]
theorem Q5(l:List UInt8):iv l≠ []:=by
 cases l with
 | nil=>simp [iv]
 | cons b l=>simp only [iv];split<;>simp [Q4]
def strip(L:List (List UInt8)):List (List UInt8):=if L.getLast?=some []then L.dropLast else L
theorem IE{a:List UInt8}{L:List (List UInt8)}(h:L≠ []):strip (a::L)=a::strip L:=by
 cases L with
 | nil=>exact absurd rfl h
 | cons x L=>
  unfold strip;rw [List.getLast?_cons_cons,List.dropLast_cons_cons]
  split<;>rfl
theorem yH:∀ (l:List UInt8) (j:Nat),j<l.length->l.getD j 0=10->(∀ k,k<j->l.getD k 0≠10)->iv l=l.take j::iv (l.drop (j+1))
 | [],j,h,_,_=>by simp at h
 | b::l,0,h,h1,_=>by
  have:b=10:=h1;subst this;simp [iv]
 | b::l,j+1,h,h1,h2=>by
  have hb:b≠10:=h2 0 (by omega);simp only [iv,if_neg hb];rw [yH l j (by simpa using h) h1 (λk hk=>h2 (k+1) (by omega))];simp [vt]
theorem BZ:∀ (l:List UInt8),(∀ k,k<l.length->l.getD k 0≠10)->iv l= [l]
 | [],_=>rfl
 | b::l,h=>by
  have hb:b≠10:=h 0 (by simp);simp only [iv,if_neg hb];rw [BZ l (λk hk=>h (k+1) (by simpa using hk))];rfl
theorem Q6{l:List UInt8}{j:Nat}(hj:j<l.length)(h:l.getD j 0=10):eJ (l.take (j+1))=l.take j:=by
 unfold eJ trimSuffix;have hs:hasSuffix (l.take (j+1)) [10]=true:=by
  have:l.take (j+1)=l.take j++ [10]:=by
   rw [U4,Tc hj];rw [Ta,Tc hj]at h;simp at h;simp [h]
  rw [this];simp [hasSuffix]
 rw [if_pos hs,Uj,T8]
 congr 1
 simp only [Tj,Tq];omega
theorem Q7{l:List UInt8}(h:∀ k,k<l.length->l.getD k 0≠10):eJ l=l:=by
 unfold eJ trimSuffix
 split
 ·rename_i hs
  exfalso
  have h1: [10]<:+l:=by simpa [hasSuffix]using hs
  obtain⟨t,ht⟩:=h1;have:=h t.length (by rw [<- ht];simp);apply this;rw [<- ht];simp
 ·rfl
theorem Ju:∀ (n:Nat) (l:List UInt8),l.length<=n->(dF l).map eJ=strip (iv l):=by
 intro n
 induction n with
 | zero=>
  intro l h;have:l= []:=Ub (by omega);subst this;rw [mr];rfl
 | succ n ih=>
  intro l h
  by_cases h0:l= []
  ·subst h0;rw [mr];rfl
  ·have hp:=TT.2 h0;rw [nj h0,TU];have hlt:=lL h0;rw [ih (iO l) (by omega)]
   by_cases hi:0<=indexByte l 10
   ·obtain⟨j,hj⟩:∃ j:Nat,indexByte l 10=j:=⟨(indexByte l 10).toNat,by omega⟩;obtain⟨a1,a2⟩:=indexByte_some hj;have hjl:j<l.length:=(S9.1 a1).1;have b1:l.getD j 0=10:=by rw [Ta,a1];rfl
    have b2:∀ k,k<j->l.getD k 0≠10:=λk hk he=>a2 k hk (by
     rw [Ta,Tc (by omega)]at he;rw [Tc (by omega)]
     simpa using he)
    have e1:mh l=l.take (j+1):=by unfold mh;rw [if_pos hi,hj];rfl
    have e2:iO l=l.drop (j+1):=by unfold iO;rw [if_pos hi,hj];rfl
    rw [e1,e2,yH l j hjl b1 b2,IE (Q5 _),Q6 hjl b1]
   ·obtain⟨e1,e2⟩:=y9 hi;have hb:indexByte l 10= -1:=by have:=(FD l 10).1;omega
    have b2:∀ k,k<l.length->l.getD k 0≠10:=λk hk he=>indexByte_none hb k (by
     rw [Ta,Tc (by omega)]at he;rw [Tc (by omega)]
     simpa using he)
    rw [e1,e2,BZ l b2,Q7 b2];have hl1:strip [l]= [l]:=by unfold strip;rw [if_neg (by simpa using h0)]
    rw [hl1];rfl
theorem Me(l:List UInt8):(dF l).map eJ=strip (iv l):=Ju l.length l (Tf _)
end Go.Proofs.YtbmlgmblfboigaaGreatDoor
namespace Go.Proofs.YtbmlgmblfboigaaGreatDoor
open Go Go.RowKit Go.Proofs Go.Lib
theorem PL:aN Tryz.prog 3 false 1:=⟨by kernel_rfl,by kernel_rfl⟩
theorem mF:aN Tryz.prog 9 false 1:=⟨by kernel_rfl,by kernel_rfl⟩
def b8:ByteArray:=⟨#[108,105,110,101]⟩
def bQ:ByteArray:=⟨#[106,111,105,110,116]⟩
def bU:ByteArray:=⟨#[98,101,97,109]⟩
def bS:ByteArray:=⟨#[115,119,105,116,99,104]⟩
def bT(a b:ByteArray):Bool:=a.toList==b.toList
def gV(p k:ByteArray):Bool:=if bT k bQ then bT p b8||bT p bU else if bT k bU then bT p bQ else bT p bQ||bT p bS
def ik(w:Wd)(below:Bool):Bool:=gK w.txt.data.toList 6&&(below||decide (0<=gJ w.txt.data.toList))
section
variable {mem:List Ob} {n:Nat} (hn:mem.length=n) {b:Nat} {nam:ByteArray} {J B S M:AV} {cnt:Int} {w:Wd} {ws:List Wd} {last:Wd} {kind:ByteArray}
include hn
theorem B2(hb:mem[b]? =some (.box aE (aD nam J B S M cnt ws last kind)))(k:ByteArray):dK Tryz.prog 67 [.ptr b 0,.v (.string k)] mem (λr m'=>r=dH (gV kind k)/\bz mem m' (λ_=>False)) (λ_ _=>False):=by
 have hbn:=cI hb hn;refine fz (fn:=Tryz.f67) 39 (by kernel_rfl) rfl (by kernel_rfl) (S8 rfl) ?_;intro aH aF hA ap;have aI:ag aH (.tmp 0)=_:=hA 0 _ rfl;have aJ:ag aH (.tmp 1)=_:=hA 1 _ rfl;have a3:aF.length=n:=by rw [ap];exact hn
 have af:aF[b]? =_:=(congrArg (λq=>q[b]?) ap).trans hb;simp only [pS,Value.cells,Nat.reduceAdd,aD,aE]at af;have ao:bz mem aF (λ_=>False):=by rw [ap];exact bz.refl _ _
 clear hA ap;refine aj<|at_<|ar (aw al) rfl<|aY (ae rfl aI) (ae rfl aJ) ?_;clear aI aJ;intro a5 aK aL
 refine ai<|aj<|aj<|at_<|ar (ah aL) rfl<|aY (ae rfl aK) aa ?_;clear aK aL;intro a6 aM aG
 refine ai<|bP<|aj<|at_<|ar (eG aG al) rfl<|ar (aw aa) rfl<|bq (u2 rfl aM) (u2 rfl aG) aa ?_;clear aM aG;intro a7 am av ax
 refine ai<|aW ax (λaN=>?_) (λaN=>?_)
 ·skip;refine aj<|at_<|ar (ah am) rfl<|ar (bC aa) rfl<|ar (aB ec rfl aa) rfl<|ar (ak (aC mF rfl af aa (au rfl)) (by simp only [pS,Value.cells,Nat.reduceAdd,aD,aE]<;>rfl)) rfl ?_
  refine ar (eG aa al) rfl<|ar (ah aa) rfl<|bM aa (λab aO=>?_) (λab aO=>?_)
  ·skip;refine az ⟨_,rfl,.inl ab⟩ rfl ?_;refine az ⟨_,rfl,.inl (ae rfl ab)⟩ rfl ?_;refine az ⟨_,rfl,.inl (u2 rfl ab)⟩ rfl ?_;refine az ⟨_,rfl,.inl (ae rfl (u2 rfl ab))⟩ rfl ?_;refine az ⟨_,rfl,.inl (u4 rfl ab)⟩ rfl ?_;refine ar (bD (ae rfl (u4 rfl ab)) al) rfl<|ar (aw aa) rfl<|aT aa ?_;clear ab am av ax;intro a8 aP
   refine ai<|aX<|de<|bO<|⟨_,iW (by kernel_rfl) (aS aP),?_⟩
   refine⟨?_,ao⟩;(simp_all [gV,bT,b8,bQ,bU,bS];done)
  refine aA (ah (u2 rfl (u4 rfl am))) ⟨_,rfl,ab⟩ rfl ?_;refine aA (bC aa) ⟨_,rfl,(ae rfl ab)⟩ rfl ?_;refine aA (aB ec rfl aa) ⟨_,rfl,(u2 rfl ab)⟩ rfl ?_;refine aA (ak (aC mF rfl af aa (au rfl)) (by simp only [pS,Value.cells,Nat.reduceAdd,aD,aE]<;>rfl)) ⟨_,rfl,(ae rfl (u2 rfl ab))⟩ rfl ?_;refine aA (eG aa al) ⟨_,rfl,(u4 rfl ab)⟩ rfl ?_;refine ar (bJ (ae rfl (u4 rfl ab)) aa) rfl<|ar (aw aa) rfl<|aT aa ?_;clear ab am av ax;intro a9 aQ
  refine ai<|aX<|de<|bO<|⟨_,iW (by kernel_rfl) (aS aQ),?_⟩
  refine⟨?_,ao⟩;(simp_all [gV,bT,b8,bQ,bU,bS];done)
 refine aj<|at_<|ar (eG av al) rfl<|ar (aw aa) rfl<|aY (u2 rfl am) aa ?_;clear am av ax;intro ba an ay
 refine ai<|aW ay (λaR=>?_) (λaR=>?_)
 ·skip;refine aj<|at_<|ar (ah an) rfl<|ar (bC aa) rfl<|ar (aB ec rfl aa) rfl<|ar (ak (aC mF rfl af aa (au rfl)) (by simp only [pS,Value.cells,Nat.reduceAdd,aD,aE]<;>rfl)) rfl ?_
  refine ar (eG aa al) rfl<|ar (aw aa) rfl<|aT aa ?_;clear an ay;intro bb aU
  refine ai<|aX<|de<|bO<|⟨_,iW (by kernel_rfl) (aS aU),?_⟩
  refine⟨?_,ao⟩;(simp_all [gV,bT,b8,bQ,bU,bS];done)
 refine br<|cv<|ai<|aj<|at_<|ar (ah an) rfl<|ar (bC aa) rfl<|ar (aB ec rfl aa) rfl<|ar (ak (aC mF rfl af aa (au rfl)) (by simp only [pS,Value.cells,Nat.reduceAdd,aD,aE]<;>rfl)) rfl ?_
 refine ar (eG aa al) rfl<|ar (ah aa) rfl<|bM aa (λad aV=>?_) (λad aV=>?_)
 ·skip;refine az ⟨_,rfl,.inl ad⟩ rfl ?_;refine az ⟨_,rfl,.inl (ae rfl ad)⟩ rfl ?_;refine az ⟨_,rfl,.inl (u2 rfl ad)⟩ rfl ?_;refine az ⟨_,rfl,.inl (ae rfl (u2 rfl ad))⟩ rfl ?_;refine az ⟨_,rfl,.inl (u4 rfl ad)⟩ rfl ?_;refine ar (bD (ae rfl (u4 rfl ad)) al) rfl<|ar (aw aa) rfl<|aT aa ?_;clear ad an ay;intro bc aZ
  refine ai<|aX<|⟨_,iW (by kernel_rfl) (aS aZ),?_⟩
  refine⟨?_,ao⟩;(simp_all [gV,bT,b8,bQ,bU,bS];done)
 refine aA (ah (u2 rfl (u4 rfl an))) ⟨_,rfl,ad⟩ rfl ?_;refine aA (bC aa) ⟨_,rfl,(ae rfl ad)⟩ rfl ?_;refine aA (aB ec rfl aa) ⟨_,rfl,(u2 rfl ad)⟩ rfl ?_;refine aA (ak (aC mF rfl af aa (au rfl)) (by simp only [pS,Value.cells,Nat.reduceAdd,aD,aE]<;>rfl)) ⟨_,rfl,(ae rfl (u2 rfl ad))⟩ rfl ?_;refine aA (eG aa al) ⟨_,rfl,(u4 rfl ad)⟩ rfl ?_;refine ar (bJ (ae rfl (u4 rfl ad)) aa) rfl<|ar (aw aa) rfl<|aT aa ?_;clear ad an ay;intro be a2
 refine ai<|aX<|⟨_,iW (by kernel_rfl) (aS a2),?_⟩
 refine⟨?_,ao⟩;(simp_all [gV,bT,b8,bQ,bU,bS];done)
theorem PM(hb:mem[b]? =some (.box aE (aD nam J B S M cnt (w::ws) last kind)))(hl:ws.length<=1000000)(hs:w.txt.size<=1000000)(hi:dn w.txt=true):dK Tryz.prog 68 [.ptr b 0] mem (λr m'=>r= .v (.string w.txt)/\bz mem m' (λj=>j=b)/\m'[b]? =some (.box aE (aD nam J B S M cnt ws w kind))) (λ_ _=>False):=by
 have hbn:=cI hb hn;refine fz (fn:=Tryz.f68) 16 (by kernel_rfl) rfl (by kernel_rfl) (S8 rfl) ?_;intro a2 ap hA af;have aK:ag a2 (.tmp 0)=_:=hA 0 _ rfl;have aM:ap.length=n:=by rw [af];exact hn
 have aN:ap[b]? =_:=(congrArg (λq=>q[b]?) af).trans hb;simp only [pS,Value.cells,Nat.reduceAdd,aD,aE,aG]at aN;have a3:bz mem ap (λj=>j=b):=by rw [af];exact bz.refl _ _
 clear hA af;refine aj<|at_<|ar (aw al) rfl<|aT (ae rfl aK) ?_;clear aK;intro bb av
 refine ai<|aj<|at_<|ar (ah av) rfl<|c6 (ku (J:=J) (B:=B) (S:=S) (M:=M) (nam:=nam) (cnt:=cnt) (w:=w) (ws:=ws) (last:=last) (kind:=kind) aM aN hl) (ax aa aI) jA trivial rfl (λbe bf a5=>?_) (λ_ _ h=>h.elim)
 obtain⟨rfl,aO,az⟩:=a5;simp only [pS,Value.cells,Nat.reduceAdd,aD,aE,aG]at az;have aP:=a3.trans aO (λj_ hj_ h_=>by(try dsimp only at h_)<;>(try subst h_)<;>rfl);obtain⟨bg,aA,bh⟩:=aO.len_ aM;refine aL (cu jD rfl aA) trivial rfl (λbm ab=>?_);have am:=bH ab aA;simp only [pS,Value.cells,Nat.reduceAdd,aD,aE,aG]at am;have aQ:=aJ ab az;have aR:=RestR.aJ ab aP;have a6:=bG ab aA;clear ab az aP;refine aL (bN aa (ae rfl aa) rfl rfl am jE rfl (au rfl)) trivial rfl (λbn ad=>?_);have aF:=bk ad am;simp only [pS,Value.cells,Nat.reduceAdd,aD,aE,aG]at aF;have a7:=ao ad aQ (by omega);have a8:=RestR.ao ad aR (λhj_=>by(exfalso;omega));have bo:=bc ad a6;clear ad am aQ aR;refine aY (ay (ae rfl (u2 rfl av))) (ay aa) ?_;clear av;intro bp aU aH;refine ai<|aj<|aj<|at_<|ar (aB gr rfl aH) rfl<|ar (ak (aC mF rfl aF aa (au rfl)) (by simp only [pS,Value.cells,Nat.reduceAdd,aD,aE,aG]<;>rfl)) rfl ?_
 refine ar (bj (ax aa aI) rfl ((si w.txt (by omega)).mono (λq h=>show q=dH true from h.trans (by rw [hi]))) um) rfl ?_;refine ar (di aa) rfl<|bq (u4 rfl aU) (u4 rfl aH) aa ?_;clear aU aH;intro bu a9 aV aZ
 refine ai<|aW aZ (λan=>?_) (λan=>?_)
 ·cases an
 replace an:=dj an;refine br<|ai<|aj<|at_<|ar (aB gr rfl aV) rfl<|ar (ak (aC mF rfl aF aa (au rfl)) (by simp only [pS,Value.cells,Nat.reduceAdd,aD,aE,aG]<;>rfl)) rfl ?_
 refine ar (aw aa) rfl<|aT aa ?_;clear a9 aV aZ;intro bv ba
 refine ai<|aX<|⟨_,iW (by kernel_rfl) (aS ba),?_⟩
 exact⟨rfl,a8,a7⟩
theorem MA(hb:mem[b]? =some (.box aE (aD nam J B S M cnt (w::ws) last kind)))(hl:ws.length<=1000000)(hs:w.txt.size<=1000000)(hi:dn w.txt=false):dK Tryz.prog 68 [.ptr b 0] mem (λ_ _=>False) (λv m'=>v=fw cnt w.col 4/\bz mem m' (λj=>j=b)):=by
 have hbn:=cI hb hn;refine fz (fn:=Tryz.f68) 16 (by kernel_rfl) rfl (by kernel_rfl) (S8 rfl) ?_;intro aV ap hA af;have aK:ag aV (.tmp 0)=_:=hA 0 _ rfl;have aM:ap.length=n:=by rw [af];exact hn
 have aN:ap[b]? =_:=(congrArg (λq=>q[b]?) af).trans hb;simp only [pS,Value.cells,Nat.reduceAdd,aD,aE,aG]at aN;have aX:bz mem ap (λj=>j=b):=by rw [af];exact bz.refl _ _
 clear hA af;refine aj<|at_<|ar (aw al) rfl<|aT (ae rfl aK) ?_;clear aK;intro ba av
 refine ai<|aj<|at_<|ar (ah av) rfl<|c6 (ku (J:=J) (B:=B) (S:=S) (M:=M) (nam:=nam) (cnt:=cnt) (w:=w) (ws:=ws) (last:=last) (kind:=kind) aM aN hl) (ax aa aI) jA trivial rfl (λbb be aZ=>?_) (λ_ _ h=>h.elim)
 obtain⟨rfl,aO,az⟩:=aZ;simp only [pS,Value.cells,Nat.reduceAdd,aD,aE,aG]at az;have aP:=aX.trans aO (λj_ hj_ h_=>by(try dsimp only at h_)<;>(try subst h_)<;>rfl);obtain⟨bf,aA,bg⟩:=aO.len_ aM;refine aL (cu jD rfl aA) trivial rfl (λbh ab=>?_);have am:=bH ab aA;simp only [pS,Value.cells,Nat.reduceAdd,aD,aE,aG]at am;have aQ:=aJ ab az;have aR:=RestR.aJ ab aP;have a2:=bG ab aA;clear ab az aP;refine aL (bN aa (ae rfl aa) rfl rfl am jE rfl (au rfl)) trivial rfl (λbm ad=>?_);have aF:=bk ad am;simp only [pS,Value.cells,Nat.reduceAdd,aD,aE,aG]at aF;have a3:=ao ad aQ (by omega);have a5:=RestR.ao ad aR (λhj_=>by(exfalso;omega));have a6:=bc ad a2;clear ad am aQ aR;refine aY (ay (ae rfl (u2 rfl av))) (ay aa) ?_;clear av;intro bn aS aH;refine ai<|aj<|aj<|at_<|ar (aB gr rfl aH) rfl<|ar (ak (aC mF rfl aF aa (au rfl)) (by simp only [pS,Value.cells,Nat.reduceAdd,aD,aE,aG]<;>rfl)) rfl ?_
 refine ar (bj (ax aa aI) rfl ((si w.txt (by omega)).mono (λq h=>show q=dH false from h.trans (by rw [hi]))) um) rfl ?_;refine ar (di aa) rfl<|bq (u4 rfl aS) (u4 rfl aH) aa ?_;clear aS aH;intro bo a7 a8 a9
 refine ai<|aW a9 (λan=>?_) (λan=>?_)
 ·replace an:=cV an;refine at_<|ar (ah a7) rfl<|ar (aB iS rfl (ae rfl a8)) rfl<|ar (ak (aC PL rfl aF aa (au rfl)) (by simp only [pS,Value.cells,Nat.reduceAdd,aD,aE,aG]<;>rfl)) rfl ?_
  refine c6 (gw (J:=J) (B:=B) (S:=S) (M:=M) (nam:=nam) (cnt:=cnt) (ws:=ws) (last:=w) (kind:=kind) a6 a3 _ _) (ax (u2 rfl aa) (ax aa (ax al aI))) gx trivial rfl (λ_ _ h=>h.elim) (λbp br aU=>?_)
  repeat (refine dU ?_)
  exact⟨_,rfl,aU.1,a5.trans aU.2 (λj_ hj_ h_=>by exact h_)⟩
 ·cases an
theorem Jv(hb:mem[b]? =some (.box aE (aD nam J B S M cnt [] last kind)))(hc: -1000000000<=last.col/\last.col<=1000000000)(hs:last.txt.size<=1000000000):dK Tryz.prog 68 [.ptr b 0] mem (λ_ _=>False) (λv m'=>v=fw cnt (last.col+last.txt.size) 6/\bz mem m' (λj=>j=b)):=by
 have hbn:=cI hb hn;refine fz (fn:=Tryz.f68) 16 (by kernel_rfl) rfl (by kernel_rfl) (S8 rfl) ?_;intro an ad hA ab;have af:ag an (.tmp 0)=_:=hA 0 _ rfl;have ao:ad.length=n:=by rw [ab];exact hn
 have ak:ad[b]? =_:=(congrArg (λq=>q[b]?) ab).trans hb;simp only [pS,Value.cells,Nat.reduceAdd,aD,aE,aG]at ak;have ap:bz mem ad (λj=>j=b):=by rw [ab];exact bz.refl _ _
 clear hA ab;refine aj<|at_<|ar (aw al) rfl<|aT (ae rfl af) ?_;clear af;intro av au
 refine ai<|aj<|at_<|ar (ah au) rfl<|c6 (BQ (J:=J) (B:=B) (S:=S) (M:=M) (nam:=nam) (cnt:=cnt) (last:=last) (kind:=kind) ao ak hc hs) (ax aa aI) jA trivial rfl (λ_ _ h=>h.elim) (λay az am=>?_)
 repeat (refine dU ?_)
 exact⟨_,rfl,am.1,ap.trans am.2 (λj_ hj_ h_=>by exact h_)⟩
end
end Go.Proofs.YtbmlgmblfboigaaGreatDoor
namespace Go.Proofs.YtbmlgmblfboigaaGreatDoor
open Go Go.RowKit Go.Proofs Go.Lib
theorem wi:∀ args w,(callFunc 95 args).run Tryz.prog w= .ok (.enter 95 args) w:=λ_ _=>by kernel_rfl
theorem AH:∀ args w,(callFunc 96 args).run Tryz.prog w= .ok (.enter 96 args) w:=λ_ _=>by kernel_rfl
theorem tP:aN Tryz.prog 3 false 1:=⟨by kernel_rfl,by kernel_rfl⟩
theorem nK:aN Tryz.prog 9 false 1:=⟨by kernel_rfl,by kernel_rfl⟩
theorem wj:isIf (Tryz.prog.underlying 147)=true:=by kernel_rfl
section
variable {mem:List Ob} {n:Nat} (hn:mem.length=n) {b:Nat} {nam:ByteArray} {J B S M:AV} {cnt:Int} {w:Wd} {ws:List Wd} {last:Wd} {kind:ByteArray} {es er:Value} (hes:eS es) (her:eS er) (h0:mem[0]? =some (.bL (gX es er)))
include hn h0
theorem HN(hb:mem[b]? =some (.box aE (aD nam J B S M cnt (w::ws) last kind)))(hl:ws.length<=1000000)(hs:w.txt.size<=1000000)(below:Bool)(v:Int)(hv:atoiAll w.txt.data.toList= .ok v)(hi:ik w below=true):dK Tryz.prog 69 [.ptr b 0,.v (.bool below)] mem (λr m'=>r=mA v/\bz mem m' (λj=>j=b)/\m'[b]? =some (.box aE (aD nam J B S M cnt ws w kind))) (λ_ _=>False):=by
 have hbn:=cI hb hn;have hb0:b≠0:=λe=>by rw [e]at hb;rw [hb]at h0;cases h0
 obtain⟨hk,hnn⟩:=wc hv 6;have hvb:=atoiAll_bounds hv;have hc:=FH (itoa v) w.txt;unfold ik at hi;rw [hk,hnn]at hi;simp only [Ti,Ui,decide_eq_true_eq]at hi;obtain⟨⟨hi1,hi2⟩,hi3⟩:=hi;rw [hi1]at hc;simp only [decide_true]at hc;refine fz (fn:=Tryz.f69) 45 (by kernel_rfl) rfl (by kernel_rfl) (S8 rfl) ?_;intro a7 aK hA aA;have a8:ag a7 (.tmp 0)=_:=hA 0 _ rfl;have a9:ag a7 (.tmp 1)=_:=hA 1 _ rfl;have ba:aK.length=n:=by rw [aA];exact hn
 have bF:aK[0]? =_:=(congrArg (λq=>q[0]?) aA).trans h0;have bb:aK[b]? =_:=(congrArg (λq=>q[b]?) aA).trans hb;simp only [pS,Value.cells,Nat.reduceAdd,aD,aE,aG]at bb;have bI:bz mem aK (λj=>j=b):=by rw [aA];exact bz.refl _ _
 clear hA aA;refine aj<|at_<|ar (aw al) rfl<|aY (ae rfl a8) (ae rfl a9) ?_;clear a8 a9;intro bU aP be
 refine ai<|aj<|at_<|ar (ah aP) rfl<|c6 (ku (J:=J) (B:=B) (S:=S) (M:=M) (nam:=nam) (cnt:=cnt) (w:=w) (ws:=ws) (last:=last) (kind:=kind) ba bb hl) (ax aa aI) jA trivial rfl (λbW bX bK=>?_) (λ_ _ h=>h.elim)
 obtain⟨rfl,aQ,aR⟩:=bK;have bg:=aQ.at_ bF (λh_=>by(try dsimp only at h_)<;>omega);simp only [pS,Value.cells,Nat.reduceAdd,aD,aE,aG]at aR;have bh:=bI.trans aQ (λj_ hj_ h_=>by(try dsimp only at h_)<;>(try subst h_)<;>rfl);obtain⟨bY,aU,bZ⟩:=aQ.len_ ba;refine aL (cu jD rfl aU) trivial rfl (λb0 an=>?_);have aM:=bH an aU;simp only [pS,Value.cells,Nat.reduceAdd,aD,aE,aG]at aM;have bm:=aJ an bg;have bn:=aJ an aR;have bo:=RestR.aJ an bh;have bL:=bG an aU;clear an bg aR bh;refine aL (bN aa (ae rfl aa) rfl rfl aM jE rfl (au rfl)) trivial rfl (λb1 ap=>?_);have aN:=bk ap aM;simp only [pS,Value.cells,Nat.reduceAdd,aD,aE,aG]at aN;have bM:=ao ap bm (by omega);have bp:=ao ap bn (by omega);have bu:=RestR.ao ap bo (λhj_=>by(exfalso;omega));have b2:=bc ap bL;clear ap aM bm bn bo;refine bq (ay (ae rfl (u2 rfl aP))) (ay (ae rfl (u2 rfl be))) (ay aa) ?_;clear aP be;intro b6 bv bw aV;refine ai<|aj<|at_<|ar (aB gr rfl aV) rfl<|ar (ak (aC nK rfl aN aa (au rfl)) (by simp only [pS,Value.cells,Nat.reduceAdd,aD,aE,aG]<;>rfl)) rfl ?_
 refine ar (bj (ax aa aI) rfl (Ax w.txt (by omega) v hv) wi) rfl ?_;refine ar (ah aa) rfl<|ar (cH aa rfl) rfl<|ar (cH (ae rfl aa) rfl) rfl<|ar (aw (ae rfl aa)) rfl<|ar (aw (ae rfl aa)) rfl<|bV (u8 rfl bv) (u8 rfl bw) (u8 rfl aV) (ae rfl aa) aa ?_;clear bv bw aV;intro b7 aO a2 av az a3
 refine ai<|aj<|aj<|ey 24 (by kernel_rfl) (by kernel_rfl) (by kernel_rfl) (by kernel_rfl) ?_
 refine dr (ah a3) rfl<|dr (Aw aa wj) rfl<|dr (ah aa) rfl<|kq aa (λad bx=>?_) (λad bx=>?_)
 ·cases bx
 refine cZ (ah (ae rfl (u2 rfl az))) ⟨_,rfl,ad⟩ rfl ?_;refine cZ (oO (ax aa aI) rfl bM (xC es er v (by unfold In64;omega)) yj) ⟨_,rfl,(ae rfl ad)⟩ rfl ?_;refine cZ (aB gr rfl (ae rfl (u4 rfl av))) ⟨_,rfl,(u2 rfl ad)⟩ rfl ?_;refine cZ (ak (aC nK rfl aN aa (au rfl)) (by simp only [pS,Value.cells,Nat.reduceAdd,aD,aE,aG]<;>rfl)) ⟨_,rfl,(ae rfl (u2 rfl ad))⟩ rfl ?_;refine cZ (dS (u2 rfl aa) aa) ⟨_,rfl,(u4 rfl ad)⟩ rfl ?_;refine dr (bJ (ae rfl (u4 rfl ad)) aa) rfl<|dr (ah aa) rfl<|kq aa (λaf aF=>?_) (λaf aF=>?_)
 ·(rw [hi1,hc]at aF;simp at aF;done)
 replace aF:=dj aF;refine cZ (aB gr rfl (u2 rfl (u8 rfl av))) ⟨_,rfl,af⟩ rfl ?_;refine cZ (ak (aC nK rfl aN aa (au rfl)) (by simp only [pS,Value.cells,Nat.reduceAdd,aD,aE,aG]<;>rfl)) ⟨_,rfl,(ae rfl af)⟩ rfl ?_;refine cZ (bj (ax aa (ax al aI)) rfl (zC w.txt _) AH) ⟨_,rfl,(u2 rfl af)⟩ rfl ?_;refine cZ (hH aa rfl eI) ⟨_,rfl,(ae rfl (u2 rfl af))⟩ rfl ?_;refine cZ (eM aa al) ⟨_,rfl,(u4 rfl af)⟩ rfl ?_;refine dr (bJ (ae rfl (u4 rfl af)) aa) rfl<|dr (ah aa) rfl<|kq aa (λab a5=>?_) (λab a5=>?_)
 ·(simp_all [size_mk]<;>omega)
 replace a5:=bf a5;refine cZ (ah (ae rfl (u16 rfl az))) ⟨_,rfl,ab⟩ rfl ?_;refine cZ (cL aa al) ⟨_,rfl,(ae rfl ab)⟩ rfl ?_;refine cZ (ah aa) ⟨_,rfl,(u2 rfl ab)⟩ rfl ?_;refine kq aa (λam aH=>?_) (λam aH=>?_)
 ·replace aH:=bt aH;refine cZ (ah (u4 rfl (u16 rfl a2))) ⟨_,rfl,am⟩ rfl ?_;refine cZ (di aa) ⟨_,rfl,(ae rfl am)⟩ rfl ?_;refine cZ (bD (u2 rfl am) aa) ⟨_,rfl,(ae rfl (u4 rfl ab))⟩ rfl ?_;refine dr (bJ (u2 rfl (u4 rfl ab)) aa) rfl<|dP<|aZ (u8 rfl (u16 rfl aO)) (u8 rfl (u16 rfl av)) (u8 rfl (u16 rfl az)) aa ?_;clear af ab am ad aO a2 av az a3;intro b8 bO bP bA bB
  refine ai<|aW bB (λa6=>?_) (λa6=>?_)
  ·(simp_all [size_mk]<;>omega)
  replace a6:=dj a6;refine br<|ai<|aj<|at_<|ar (ah bA) rfl<|ar (aw aa) rfl<|aT aa ?_;clear bO bB bP bA;intro b9 bQ
  refine ai<|aX<|⟨_,iW (by kernel_rfl) (aS bQ),?_⟩
  exact⟨rfl,bu,bp⟩
 replace aH:=bf aH;refine cQ ⟨_,rfl,.inl am⟩ rfl ?_;refine cQ ⟨_,rfl,.inl (ae rfl am)⟩ rfl ?_;refine cZ (bJ (u2 rfl am) al) ⟨_,rfl,(ae rfl (u4 rfl ab))⟩ rfl ?_;refine dr (bJ (u2 rfl (u4 rfl ab)) aa) rfl<|dP<|aZ (u8 rfl (u16 rfl aO)) (u8 rfl (u16 rfl av)) (u8 rfl (u16 rfl az)) aa ?_;clear af ab am ad aO a2 av az a3;intro ca bR bS bC bE
 refine ai<|iP bE<|br<|ai<|aj<|at_<|ar (ah bC) rfl<|ar (aw aa) rfl<|aT aa ?_;clear bR bE bS bC;intro cb bT
 refine ai<|aX<|⟨_,iW (by kernel_rfl) (aS bT),?_⟩
 exact⟨rfl,bu,bp⟩
theorem HO(hb:mem[b]? =some (.box aE (aD nam J B S M cnt (w::ws) last kind)))(hl:ws.length<=1000000)(hs:w.txt.size<=1000000)(below:Bool)(v:Int)(hv:atoiAll w.txt.data.toList= .ok v)(hi:ik w below=false):dK Tryz.prog 69 [.ptr b 0,.v (.bool below)] mem (λ_ _=>False) (λu m'=>u=fw cnt w.col 7/\bz mem m' (λj=>j=b)):=by
 have hbn:=cI hb hn;have hb0:b≠0:=λe=>by rw [e]at hb;rw [hb]at h0;cases h0
 obtain⟨hk,hnn⟩:=wc hv 6;have hvb:=atoiAll_bounds hv;have hc:=FH (itoa v) w.txt;unfold ik at hi;rw [hk,hnn]at hi;refine fz (fn:=Tryz.f69) 45 (by kernel_rfl) rfl (by kernel_rfl) (S8 rfl) ?_;intro ba aR hA aH;have bb:ag ba (.tmp 0)=_:=hA 0 _ rfl;have be:ag ba (.tmp 1)=_:=hA 1 _ rfl;have bg:aR.length=n:=by rw [aH];exact hn
 have bP:aR[0]? =_:=(congrArg (λq=>q[0]?) aH).trans h0;have bh:aR[b]? =_:=(congrArg (λq=>q[b]?) aH).trans hb;simp only [pS,Value.cells,Nat.reduceAdd,aD,aE,aG]at bh;have bQ:bz mem aR (λj=>j=b):=by rw [aH];exact bz.refl _ _
 clear hA aH;refine aj<|at_<|ar (aw al) rfl<|aY (ae rfl bb) (ae rfl be) ?_;clear bb be;intro b8 aV bm
 refine ai<|aj<|at_<|ar (ah aV) rfl<|c6 (ku (J:=J) (B:=B) (S:=S) (M:=M) (nam:=nam) (cnt:=cnt) (w:=w) (ws:=ws) (last:=last) (kind:=kind) bg bh hl) (ax aa aI) jA trivial rfl (λb9 ca bR=>?_) (λ_ _ h=>h.elim)
 obtain⟨rfl,a2,a3⟩:=bR;have bn:=a2.at_ bP (λh_=>by(try dsimp only at h_)<;>omega);simp only [pS,Value.cells,Nat.reduceAdd,aD,aE,aG]at a3;have bo:=bQ.trans a2 (λj_ hj_ h_=>by(try dsimp only at h_)<;>(try subst h_)<;>rfl);obtain⟨cb,a5,cc⟩:=a2.len_ bg;refine aL (cu jD rfl a5) trivial rfl (λcd aA=>?_);have aU:=bH aA a5;simp only [pS,Value.cells,Nat.reduceAdd,aD,aE,aG]at aU;have bp:=aJ aA bn;have bu:=aJ aA a3;have bv:=RestR.aJ aA bo;have bS:=bG aA a5;clear aA bn a3 bo;refine aL (bN aa (ae rfl aa) rfl rfl aU jE rfl (au rfl)) trivial rfl (λce aF=>?_);have az:=bk aF aU;simp only [pS,Value.cells,Nat.reduceAdd,aD,aE,aG]at az;have bT:=ao aF bp (by omega);have a6:=ao aF bu (by omega);have a7:=RestR.ao aF bv (λhj_=>by(exfalso;omega));have a8:=bc aF bS;clear aF aU bp bu bv;refine bq (ay (ae rfl (u2 rfl aV))) (ay (ae rfl (u2 rfl bm))) (ay aa) ?_;clear aV bm;intro cf bw bx a9;refine ai<|aj<|at_<|ar (aB gr rfl a9) rfl<|ar (ak (aC nK rfl az aa (au rfl)) (by simp only [pS,Value.cells,Nat.reduceAdd,aD,aE,aG]<;>rfl)) rfl ?_
 refine ar (bj (ax aa aI) rfl (Ax w.txt (by omega) v hv) wi) rfl ?_;refine ar (ah aa) rfl<|ar (cH aa rfl) rfl<|ar (cH (ae rfl aa) rfl) rfl<|ar (aw (ae rfl aa)) rfl<|ar (aw (ae rfl aa)) rfl<|bV (u8 rfl bw) (u8 rfl bx) (u8 rfl a9) (ae rfl aa) aa ?_;clear bw bx a9;intro cg av aK am an aM
 refine ai<|aj<|aj<|ey 24 (by kernel_rfl) (by kernel_rfl) (by kernel_rfl) (by kernel_rfl) ?_
 refine dr (ah aM) rfl<|dr (Aw aa wj) rfl<|dr (ah aa) rfl<|kq aa (λaf bA=>?_) (λaf bA=>?_)
 ·cases bA
 refine cZ (ah (ae rfl (u2 rfl an))) ⟨_,rfl,af⟩ rfl ?_;refine cZ (oO (ax aa aI) rfl bT (xC es er v (by unfold In64;omega)) yj) ⟨_,rfl,(ae rfl af)⟩ rfl ?_;refine cZ (aB gr rfl (ae rfl (u4 rfl am))) ⟨_,rfl,(u2 rfl af)⟩ rfl ?_;refine cZ (ak (aC nK rfl az aa (au rfl)) (by simp only [pS,Value.cells,Nat.reduceAdd,aD,aE,aG]<;>rfl)) ⟨_,rfl,(ae rfl (u2 rfl af))⟩ rfl ?_;refine cZ (dS (u2 rfl aa) aa) ⟨_,rfl,(u4 rfl af)⟩ rfl ?_;refine dr (bJ (ae rfl (u4 rfl af)) aa) rfl<|dr (ah aa) rfl<|kq aa (λab aN=>?_) (λab aN=>?_)
 ·replace aN:=cV aN;refine cQ ⟨_,rfl,.inl ab⟩ rfl ?_;refine cQ ⟨_,rfl,.inl (ae rfl ab)⟩ rfl ?_;refine cQ ⟨_,rfl,.inl (u2 rfl ab)⟩ rfl ?_;refine cQ ⟨_,rfl,.inl (ae rfl (u2 rfl ab))⟩ rfl ?_;refine cQ ⟨_,rfl,.inl (u4 rfl ab)⟩ rfl ?_;refine dr (bD (ae rfl (u4 rfl ab)) al) rfl<|dr (ah aa) rfl<|cQ ⟨_,rfl,.inl aa⟩ rfl ?_
  refine cQ ⟨_,rfl,.inl (ae rfl aa)⟩ rfl ?_;refine cQ ⟨_,rfl,.inl (u2 rfl aa)⟩ rfl ?_;refine cQ ⟨_,rfl,.inr aa⟩ rfl ?_;refine cQ ⟨_,rfl,.inr (ae rfl aa)⟩ rfl ?_;refine cQ ⟨_,rfl,.inl (ae rfl (u4 rfl aa))⟩ rfl ?_;refine dr (bD (u2 rfl (u4 rfl aa)) al) rfl<|dP<|aZ (u8 rfl (u16 rfl av)) (u8 rfl (u16 rfl am)) (u8 rfl (u16 rfl an)) aa ?_;clear ab af av aK am an aM;intro ci bU bW cj bX
  refine ai<|oZ bX<|at_<|ar (ah bU) rfl<|ar (aB iS rfl (ae rfl bW)) rfl<|ar (ak (aC tP rfl az aa (au rfl)) (by simp only [pS,Value.cells,Nat.reduceAdd,aD,aE,aG]<;>rfl)) rfl ?_
  refine c6 (gw (J:=J) (B:=B) (S:=S) (M:=M) (nam:=nam) (cnt:=cnt) (ws:=ws) (last:=w) (kind:=kind) a8 a6 _ _) (ax (u2 rfl aa) (ax aa (ax al aI))) gx trivial rfl (λ_ _ h=>h.elim) (λck cm bB=>?_)
  repeat (refine dU ?_)
  exact⟨_,rfl,bB.1,a7.trans bB.2 (λj_ hj_ h_=>by exact h_)⟩
 replace aN:=dj aN;refine cZ (aB gr rfl (u2 rfl (u8 rfl am))) ⟨_,rfl,ab⟩ rfl ?_;refine cZ (ak (aC nK rfl az aa (au rfl)) (by simp only [pS,Value.cells,Nat.reduceAdd,aD,aE,aG]<;>rfl)) ⟨_,rfl,(ae rfl ab)⟩ rfl ?_;refine cZ (bj (ax aa (ax al aI)) rfl (zC w.txt _) AH) ⟨_,rfl,(u2 rfl ab)⟩ rfl ?_;refine cZ (hH aa rfl eI) ⟨_,rfl,(ae rfl (u2 rfl ab))⟩ rfl ?_;refine cZ (eM aa al) ⟨_,rfl,(u4 rfl ab)⟩ rfl ?_;refine dr (bJ (ae rfl (u4 rfl ab)) aa) rfl<|dr (ah aa) rfl<|kq aa (λad aO=>?_) (λad aO=>?_)
 ·replace aO:=bt aO;refine cQ ⟨_,rfl,.inl ad⟩ rfl ?_;refine cQ ⟨_,rfl,.inl (ae rfl ad)⟩ rfl ?_;refine cQ ⟨_,rfl,.inl (u2 rfl ad)⟩ rfl ?_;refine cQ ⟨_,rfl,.inr aa⟩ rfl ?_;refine cQ ⟨_,rfl,.inr (ae rfl aa)⟩ rfl ?_;refine cQ ⟨_,rfl,.inl (ae rfl (u4 rfl ad))⟩ rfl ?_;refine dr (bD (u2 rfl (u4 rfl ad)) al) rfl<|dP<|aZ (u8 rfl (u16 rfl av)) (u8 rfl (u16 rfl am)) (u8 rfl (u16 rfl an)) aa ?_;clear ab ad af av aK am an aM;intro cn bY bZ co b0
  refine ai<|oZ b0<|at_<|ar (ah bY) rfl<|ar (aB iS rfl (ae rfl bZ)) rfl<|ar (ak (aC tP rfl az aa (au rfl)) (by simp only [pS,Value.cells,Nat.reduceAdd,aD,aE,aG]<;>rfl)) rfl ?_
  refine c6 (gw (J:=J) (B:=B) (S:=S) (M:=M) (nam:=nam) (cnt:=cnt) (ws:=ws) (last:=w) (kind:=kind) a8 a6 _ _) (ax (u2 rfl aa) (ax aa (ax al aI))) gx trivial rfl (λ_ _ h=>h.elim) (λcp cq bC=>?_)
  repeat (refine dU ?_)
  exact⟨_,rfl,bC.1,a7.trans bC.2 (λj_ hj_ h_=>by exact h_)⟩
 replace aO:=bf aO;refine cZ (ah (ae rfl (u16 rfl an))) ⟨_,rfl,ad⟩ rfl ?_;refine cZ (cL aa al) ⟨_,rfl,(ae rfl ad)⟩ rfl ?_;refine cZ (ah aa) ⟨_,rfl,(u2 rfl ad)⟩ rfl ?_;refine kq aa (λap aP=>?_) (λap aP=>?_)
 ·replace aP:=bt aP;refine cZ (ah (u4 rfl (u16 rfl aK))) ⟨_,rfl,ap⟩ rfl ?_;refine cZ (di aa) ⟨_,rfl,(ae rfl ap)⟩ rfl ?_;refine cZ (bD (u2 rfl ap) aa) ⟨_,rfl,(ae rfl (u4 rfl ad))⟩ rfl ?_;refine dr (bJ (u2 rfl (u4 rfl ad)) aa) rfl<|dP<|aZ (u8 rfl (u16 rfl av)) (u8 rfl (u16 rfl am)) (u8 rfl (u16 rfl an)) aa ?_;clear ab ad ap af av aK am an aM;intro cr bE bF bI bK
  refine ai<|aW bK (λaQ=>?_) (λaQ=>?_)
  ·replace aQ:=cV aQ;refine at_<|ar (ah bE) rfl<|ar (aB iS rfl (ae rfl bF)) rfl<|ar (ak (aC tP rfl az aa (au rfl)) (by simp only [pS,Value.cells,Nat.reduceAdd,aD,aE,aG]<;>rfl)) rfl ?_
   refine c6 (gw (J:=J) (B:=B) (S:=S) (M:=M) (nam:=nam) (cnt:=cnt) (ws:=ws) (last:=w) (kind:=kind) a8 a6 _ _) (ax (u2 rfl aa) (ax aa (ax al aI))) gx trivial rfl (λ_ _ h=>h.elim) (λct cv bL=>?_)
   repeat (refine dU ?_)
   exact⟨_,rfl,bL.1,a7.trans bL.2 (λj_ hj_ h_=>by exact h_)⟩
  replace aQ:=dj aQ;refine br<|ai<|aj<|at_<|ar (ah bI) rfl<|ar (aw aa) rfl<|aT aa ?_;clear bE bK bF bI;intro cw b1
  refine ai<|aX<|⟨_,iW (by kernel_rfl) (aS b1),?_⟩
  exfalso;(simp_all [size_mk]<;>omega)
 replace aP:=bf aP;refine cQ ⟨_,rfl,.inl ap⟩ rfl ?_;refine cQ ⟨_,rfl,.inl (ae rfl ap)⟩ rfl ?_;refine cZ (bJ (u2 rfl ap) al) ⟨_,rfl,(ae rfl (u4 rfl ad))⟩ rfl ?_;refine dr (bJ (u2 rfl (u4 rfl ad)) aa) rfl<|dP<|aZ (u8 rfl (u16 rfl av)) (u8 rfl (u16 rfl am)) (u8 rfl (u16 rfl an)) aa ?_;clear ab ad ap af av aK am an aM;intro cx b2 b6 bM bO
 refine ai<|iP bO<|br<|ai<|aj<|at_<|ar (ah bM) rfl<|ar (aw aa) rfl<|aT aa ?_;clear b2 bO b6 bM;intro cy b7
 refine ai<|aX<|⟨_,iW (by kernel_rfl) (aS b7),?_⟩
 exfalso;(simp_all [size_mk]<;>omega)
include hes her
theorem HQ(hb:mem[b]? =some (.box aE (aD nam J B S M cnt (w::ws) last kind)))(hl:ws.length<=1000000)(hs:w.txt.size<=1000000)(below:Bool)(hv:∀ v,atoiAll w.txt.data.toList≠ .ok v):dK Tryz.prog 69 [.ptr b 0,.v (.bool below)] mem (λ_ _=>False) (λu m'=>u=fw cnt w.col 7/\bz mem m' (λj=>j=b)):=by
 have hbn:=cI hb hn;have hb0:b≠0:=λe=>by rw [e]at hb;rw [hb]at h0;cases h0
 refine fz (fn:=Tryz.f69) 45 (by kernel_rfl) rfl (by kernel_rfl) (S8 rfl) ?_;intro aM an hA am;have aN:ag aM (.tmp 0)=_:=hA 0 _ rfl;have aO:ag aM (.tmp 1)=_:=hA 1 _ rfl;have aP:an.length=n:=by rw [am];exact hn
 have ba:an[0]? =_:=(congrArg (λq=>q[0]?) am).trans h0;have aQ:an[b]? =_:=(congrArg (λq=>q[b]?) am).trans hb;simp only [pS,Value.cells,Nat.reduceAdd,aD,aE,aG]at aQ;have bb:bz mem an (λj=>j=b):=by rw [am];exact bz.refl _ _
 clear hA am;refine aj<|at_<|ar (aw al) rfl<|aY (ae rfl aN) (ae rfl aO) ?_;clear aN aO;intro bv av aR
 refine ai<|aj<|at_<|ar (ah av) rfl<|c6 (ku (J:=J) (B:=B) (S:=S) (M:=M) (nam:=nam) (cnt:=cnt) (w:=w) (ws:=ws) (last:=last) (kind:=kind) aP aQ hl) (ax aa aI) jA trivial rfl (λbw bx be=>?_) (λ_ _ h=>h.elim)
 obtain⟨rfl,az,aA⟩:=be;have aS:=az.at_ ba (λh_=>by(try dsimp only at h_)<;>omega);simp only [pS,Value.cells,Nat.reduceAdd,aD,aE,aG]at aA;have aT:=bb.trans az (λj_ hj_ h_=>by(try dsimp only at h_)<;>(try subst h_)<;>rfl);obtain⟨bA,aF,bB⟩:=az.len_ aP;refine aL (cu jD rfl aF) trivial rfl (λbC ad=>?_);have ap:=bH ad aF;simp only [pS,Value.cells,Nat.reduceAdd,aD,aE,aG]at ap;have aU:=aJ ad aS;have aV:=aJ ad aA;have aW:=RestR.aJ ad aT;have bf:=bG ad aF;clear ad aS aA aT;refine aL (bN aa (ae rfl aa) rfl rfl ap jE rfl (au rfl)) trivial rfl (λbE af=>?_);have aH:=bk af ap;simp only [pS,Value.cells,Nat.reduceAdd,aD,aE,aG]at aH;have bg:=ao af aU (by omega);have bh:=ao af aV (by omega);have bj:=RestR.ao af aW (λhj_=>by(exfalso;omega));have bm:=bc af bf;clear af ap aU aV aW;refine bq (ay (ae rfl (u2 rfl av))) (ay (ae rfl (u2 rfl aR))) (ay aa) ?_;clear av aR;intro bF aX a2 aK;refine ai<|aj<|at_<|ar (aB gr rfl aK) rfl<|ar (ak (aC nK rfl aH aa (au rfl)) (by simp only [pS,Value.cells,Nat.reduceAdd,aD,aE,aG]<;>rfl)) rfl ?_
 refine QG (Jb (ax aa aI) rfl bg (LN es er hes her w.txt (by omega) hv) wi) trivial rfl (λbI bn=>?_);obtain⟨bJ,rfl⟩:=bn;refine ar (ah aa) rfl<|ar (cH aa rfl) rfl<|ar (cH (ae rfl aa) rfl) rfl<|ar (aw (ae rfl aa)) rfl<|ar (aw (ae rfl aa)) rfl<|bV (u8 rfl aX) (u8 rfl a2) (u8 rfl aK) (ae rfl aa) aa ?_;clear aX a2 aK;intro bK a3 bo a5 a6 a7
 refine ai<|aj<|aj<|ey 24 (by kernel_rfl) (by kernel_rfl) (by kernel_rfl) (by kernel_rfl) ?_
 refine dr (ah a7) rfl<|dr (Je aa wj) rfl<|dr (ah aa) rfl<|kq aa (λab a8=>?_) (λab a8=>?_)
 ·skip;refine cQ ⟨_,rfl,.inl ab⟩ rfl ?_;refine cQ ⟨_,rfl,.inl (ae rfl ab)⟩ rfl ?_;refine cQ ⟨_,rfl,.inl (u2 rfl ab)⟩ rfl ?_;refine cQ ⟨_,rfl,.inl (ae rfl (u2 rfl ab))⟩ rfl ?_;refine cQ ⟨_,rfl,.inl (u4 rfl ab)⟩ rfl ?_;refine dr (bD (ae rfl (u4 rfl ab)) al) rfl<|dr (ah aa) rfl<|cQ ⟨_,rfl,.inl aa⟩ rfl ?_
  refine cQ ⟨_,rfl,.inl (ae rfl aa)⟩ rfl ?_;refine cQ ⟨_,rfl,.inl (u2 rfl aa)⟩ rfl ?_;refine cQ ⟨_,rfl,.inl (ae rfl (u2 rfl aa))⟩ rfl ?_;refine cQ ⟨_,rfl,.inl (u4 rfl aa)⟩ rfl ?_;refine dr (bD (ae rfl (u4 rfl aa)) al) rfl<|dr (ah aa) rfl<|cQ ⟨_,rfl,.inl aa⟩ rfl ?_
  refine cQ ⟨_,rfl,.inl (ae rfl aa)⟩ rfl ?_;refine cQ ⟨_,rfl,.inl (u2 rfl aa)⟩ rfl ?_;refine cQ ⟨_,rfl,.inr aa⟩ rfl ?_;refine cQ ⟨_,rfl,.inr (ae rfl aa)⟩ rfl ?_;refine cQ ⟨_,rfl,.inl (ae rfl (u4 rfl aa))⟩ rfl ?_;refine dr (bD (u2 rfl (u4 rfl aa)) al) rfl<|dP<|aZ (u8 rfl (u16 rfl a3)) (u8 rfl (u16 rfl a5)) (u8 rfl (u16 rfl a6)) aa ?_;clear ab a3 bo a5 a6 a7;intro bL bp br bM bu
  refine ai<|oZ bu<|at_<|ar (ah bp) rfl<|ar (aB iS rfl (ae rfl br)) rfl<|ar (ak (aC tP rfl aH aa (au rfl)) (by simp only [pS,Value.cells,Nat.reduceAdd,aD,aE,aG]<;>rfl)) rfl ?_
  refine c6 (gw (J:=J) (B:=B) (S:=S) (M:=M) (nam:=nam) (cnt:=cnt) (ws:=ws) (last:=w) (kind:=kind) bm bh _ _) (ax (u2 rfl aa) (ax aa (ax al aI))) gx trivial rfl (λ_ _ h=>h.elim) (λbO bP a9=>?_)
  repeat (refine dU ?_)
  exact⟨_,rfl,a9.1,bj.trans a9.2 (λj_ hj_ h_=>by exact h_)⟩
 ·cases a8
end
section
variable {mem:List Ob} {n:Nat} (hn:mem.length=n) {b:Nat} {nam:ByteArray} {J B S M:AV} {cnt:Int} {w:Wd} {ws:List Wd} {last:Wd} {kind:ByteArray} {es er:Value} (hes:eS es) (her:eS er) (h0:mem[0]? =some (.bL (gX es er)))
theorem PN{l:List UInt8}{D:Nat}(h:gK l D=true):∃ v,atoiAll l= .ok v/\gJ l=v:=by
 by_cases hv:∃ v,atoiAll l= .ok v
 ·obtain⟨v,hv⟩:=hv;exact⟨v,hv,(wc hv D).2⟩
 ·rw [LU (λv hq=>hv ⟨v,hq⟩)]at h;cases h
include hn h0
theorem MB(hb:mem[b]? =some (.box aE (aD nam J B S M cnt (w::ws) last kind)))(hl:ws.length<=1000000)(hs:w.txt.size<=1000000)(below:Bool)(hi:ik w below=true):dK Tryz.prog 69 [.ptr b 0,.v (.bool below)] mem (λr m'=>r=mA (gJ w.txt.data.toList)/\bz mem m' (λj=>j=b)/\m'[b]? =some (.box aE (aD nam J B S M cnt ws w kind))) (λ_ _=>False):=by
 have hk:gK w.txt.data.toList 6=true:=by unfold ik at hi;rw [Ti]at hi;exact hi.1
 obtain⟨v,hv,hnv⟩:=PN hk;rw [hnv];exact HN hn h0 hb hl hs below v hv hi
include hes her
theorem Jw(hb:mem[b]? =some (.box aE (aD nam J B S M cnt (w::ws) last kind)))(hl:ws.length<=1000000)(hs:w.txt.size<=1000000)(below:Bool)(hi:ik w below=false):dK Tryz.prog 69 [.ptr b 0,.v (.bool below)] mem (λ_ _=>False) (λu m'=>u=fw cnt w.col 7/\bz mem m' (λj=>j=b)):=by
 by_cases hv:∃ v,atoiAll w.txt.data.toList= .ok v
 ·obtain⟨v,hv⟩:=hv;exact HO hn h0 hb hl hs below v hv hi
 ·exact HQ hn hes her h0 hb hl hs below λv hq=>hv ⟨v,hq⟩
end
section
variable {mem:List Ob} {n:Nat} (hn:mem.length=n) {b:Nat} {nam:ByteArray} {J B S M:AV} {cnt:Int} {last:Wd} {kind:ByteArray}
include hn
theorem IF(hb:mem[b]? =some (.box aE (aD nam J B S M cnt [] last kind)))(hc: -1000000000<=last.col/\last.col<=1000000000)(hs:last.txt.size<=1000000000)(below:Bool):dK Tryz.prog 69 [.ptr b 0,.v (.bool below)] mem (λ_ _=>False) (λv m'=>v=fw cnt (last.col+last.txt.size) 6/\bz mem m' (λj=>j=b)):=by
 have hbn:=cI hb hn;refine fz (fn:=Tryz.f69) 45 (by kernel_rfl) rfl (by kernel_rfl) (S8 rfl) ?_;intro af ad hA ab;have ak:ag af (.tmp 0)=_:=hA 0 _ rfl;have am:ag af (.tmp 1)=_:=hA 1 _ rfl;have ap:ad.length=n:=by rw [ab];exact hn
 have an:ad[b]? =_:=(congrArg (λq=>q[b]?) ab).trans hb;simp only [pS,Value.cells,Nat.reduceAdd,aD,aE,aG]at an;have au:bz mem ad (λj=>j=b):=by rw [ab];exact bz.refl _ _
 clear hA ab;refine aj<|at_<|ar (aw al) rfl<|aY (ae rfl ak) (ae rfl am) ?_;clear ak am;intro ay av az
 refine ai<|aj<|at_<|ar (ah av) rfl<|c6 (BQ (J:=J) (B:=B) (S:=S) (M:=M) (nam:=nam) (cnt:=cnt) (last:=last) (kind:=kind) ap an hc hs) (ax aa aI) jA trivial rfl (λ_ _ h=>h.elim) (λaA aB ao=>?_)
 repeat (refine dU ?_)
 exact⟨_,rfl,ao.1,au.trans ao.2 (λj_ hj_ h_=>by exact h_)⟩
end
end Go.Proofs.YtbmlgmblfboigaaGreatDoor
namespace Go.Proofs.YtbmlgmblfboigaaGreatDoor
open Go Go.RowKit Go.Proofs Go.Lib
structure RS where
 nam:ByteArray
 js:List fR
 bs:List fu
 ss:List eu
 cnt:Int
 ws:List Wd
 last:Wd
 kind:ByteArray
 ks:List ByteArray
 cs:List (List Int)
abbrev HL:=List (ByteArray×Nat)
def hK(hs:HL)(q:Nat):ByteArray:=(hs.getD q default).1
def hN(hs:HL)(q:Nat):Nat:=(hs.getD q default).2
def eQ(hs:HL):List (ByteArray×AV):=hs.map λx=>(x.1,.own x.2)
def cR(cs:List (List Int))(q:Nat):List Int:=cs.getD q default
theorem jY{hs:HL}{q:Nat}(h:q<hs.length):(eQ hs)[q]? =some (hK hs q,.own (hN hs q)):=by
 simp [eQ,hK,hN,Tc h,Ta]
structure bu (mem:List Ob) (hs:HL) (cs:List (List Int)) (i:Nat):Prop where
 len:cs.length=hs.length
 at_:∀ q,q<hs.length->q≠i->mem[hN hs q]? =some (.row 3 1 ((cR cs q).map iE))
 inj:∀ a b,a<hs.length->b<hs.length->hN hs a=hN hs b->a=b
 key:∀ a b,a<hs.length->b<hs.length->hK hs a=hK hs b->a=b
theorem bu.mi{mem:List Ob}{hs:HL}{cs:List (List Int)}{i:Nat}(h:bu mem hs cs i):vp (eQ hs):=λa b k x y ha hb=>by
 have h1:a<hs.length:=by have:=(S9.1 ha).1;simpa [eQ]using this
 have h2:b<hs.length:=by have:=(S9.1 hb).1;simpa [eQ]using this
 rw [jY h1]at ha;rw [jY h2]at hb;cases ha;have:hK hs b=hK hs a:=by have:=congrArg (Option.map Prod.fst) hb;simpa using this
 exact h.key a b h1 h2 this.symm
theorem bu.zero(mem:List Ob):bu mem [] [] 0:=⟨rfl,λq h=>absurd h (by simp),λa b h=>absurd h (by simp),λa b h=>absurd h (by simp)⟩
def nR:Ob->Bool
 | .row e _ _=>e != 3
 | _=>true
section
variable {mem m:List Ob} {hs:HL} {cs:List (List Int)} {i:Nat}
theorem bu.of_same(h:bu mem hs cs i)(hm:∀ q,q<hs.length->q≠i->m[hN hs q]? =mem[hN hs q]?):bu m hs cs i:=
 ⟨h.len,λq h1 h2=>(hm q h1 h2).trans (h.at_ q h1 h2),h.inj,h.key⟩
theorem bu.miss(h:bu mem hs cs i){j:Nat}{o:Ob}(hj:mem[j]? =some o)(ho:nR o=true):∀ q,q<hs.length->q≠i->hN hs q≠j:=λq h1 h2 he=>by
 have:=h.at_ q h1 h2;rw [he,hj]at this;cases this;simp [nR]at ho
theorem bu.aJ{o:Ob}(hm:m=mem++ [o])(h:bu mem hs cs i):bu m hs cs i:=
 ⟨h.len,λq h1 h2=>Proofs.YtbmlgmblfboigaaGreatDoor.aJ hm (h.at_ q h1 h2),h.inj,h.key⟩
theorem bu.bp{k:Nat}(hm:m=mem++List.replicate k .gone)(h:bu mem hs cs i):bu m hs cs i:=
 ⟨h.len,λq h1 h2=>Proofs.YtbmlgmblfboigaaGreatDoor.bp hm (h.at_ q h1 h2),h.inj,h.key⟩
theorem bu.lT(h:bu mem hs cs i){j:Nat}{o':Ob}(hm:m=mem.set j o')(hne:∀ q,q<hs.length->q≠i->hN hs q≠j):bu m hs cs i:=
 h.of_same λq h1 h2=>by subst hm;rw [Tz λe=>hne q h1 h2 e.symm]
theorem bu.ao{j:Nat}{o o':Ob}(hm:m=mem.set j o')(h:bu mem hs cs i)(hj:mem[j]? =some o)(ho:nR o=true):bu m hs cs i:=h.lT hm (h.miss hj ho)
theorem bu.fU{j:Nat}{o o':Ob}(hm:m=mem.set j .gone ++ [o'])(h:bu mem hs cs i)(hj:mem[j]? =some o)(ho:nR o=true):bu m hs cs i:=aJ hm (ao rfl h hj ho)
theorem bu.uH{j:Nat}{o o':Ob}(hi:i<hs.length)(hm:m=(mem.set (hN hs i) .gone).set j o')(h:bu mem hs cs i)(hj:mem[j]? =some o)(ho:nR o=true):bu m hs cs i:=
 (h.lT rfl λq h1 h2 he=>h2 (h.inj q i h1 hi he)).lT hm (h.miss hj ho)
theorem bu.all{K:Nat->Prop}(h:bu mem hs cs i)(hK:bz mem m K)(hn:∀ q,q<hs.length->q≠i-> ¬ K (hN hs q)):bu m hs cs i:=
 h.of_same λq h1 h2=>hK.same _ (S9.1 (h.at_ q h1 h2)).1 (hn q h1 h2)
theorem bu.take(h:bu mem hs cs hs.length){q:Nat}(hq:q<hs.length):mem[hN hs q]? =some (.row 3 1 ((cR cs q).map iE))/\bu mem hs cs q:=
 ⟨h.at_ q hq (by omega),h.len,λa h1 _=>h.at_ a h1 (by omega),h.inj,h.key⟩
theorem nS{hs:HL}{i:Nat}{x:ByteArray×Nat}{q:Nat}(hi:i<hs.length):hN (hs.set i x) q=if q=i then x.2 else hN hs q:=by
 unfold hN
 by_cases h:i=q
 ·subst h;rw [if_pos rfl,Ta,TC hi];rfl
 ·rw [if_neg (λe=>h e.symm),Ta,Tz h, <- Ta]
theorem FM{hs:HL}{i:Nat}{k:ByteArray}{n:Nat}{q:Nat}(hi:i<hs.length)(hk:hK hs i=k):hK (hs.set i (k,n)) q=hK hs q:=by
 unfold hK at hk ⊢
 by_cases h:i=q
 ·subst h;rw [Ta,TC hi];exact hk.symm
 ·rw [Ta,Tz h, <- Ta]
theorem bu.put(h:bu m hs cs i)(hi:i<hs.length){n:Nat}{xs:List Int}{k:ByteArray}(hk:hK hs i=k)(hn:m[n]? =some (.row 3 1 (xs.map iE)))(hnew:∀ q,q<hs.length->hN hs q≠n):bu m (hs.set i (k,n)) (cs.set i xs) (hs.set i (k,n)).length :=by
 refine⟨by simp [h.len],λq hq _=>?_,λa b ha hb hab=>?_,λa b ha hb hab=>?_⟩
 ·rw [Ul]at hq;rw [nS hi]
  by_cases hqi:q=i
  ·subst hqi;rw [if_pos rfl];unfold cR;rw [Ta,TC (by rw [h.len];exact hi)];exact hn
  ·rw [if_neg hqi];unfold cR;rw [Ta,Tz (λe=>hqi e.symm), <- Ta];exact h.at_ q hq hqi
 ·rw [Ul]at ha hb;rw [nS hi,nS hi]at hab
  by_cases h1:a=i<;>by_cases h2:b=i
  ·omega
  ·rw [if_pos h1,if_neg h2]at hab;exact absurd hab.symm (hnew b hb)
  ·rw [if_neg h1,if_pos h2]at hab;exact absurd hab (hnew a ha)
  ·rw [if_neg h1,if_neg h2]at hab;exact h.inj a b ha hb hab
 ·rw [Ul]at ha hb;rw [FM hi hk,FM hi hk]at hab;exact h.key a b ha hb hab
theorem nU{hs:HL}{x:ByteArray×Nat}{q:Nat}:hN (hs++ [x]) q=if q<hs.length then hN hs q else if q=hs.length then x.2 else 0:=by
 unfold hN
 by_cases h:q<hs.length
 ·rw [if_pos h,Ta,Tt h, <- Ta]
 ·rw [if_neg h,Ta,Tu (by omega)]
  by_cases h2:q=hs.length
  ·subst h2;rw [if_pos rfl];simp
  ·rw [if_neg h2,TE (by simp;omega)];rfl
theorem FN{hs:HL}{x:ByteArray×Nat}{q:Nat}(hq:q<hs.length+1):hK (hs++ [x]) q=if q<hs.length then hK hs q else x.1:=by
 unfold hK
 by_cases h:q<hs.length
 ·rw [if_pos h,Ta,Tt h, <- Ta]
 ·rw [if_neg h,Ta,Tu (by omega),show q - hs.length=0 by omega];rfl
theorem bu.more(h:bu m hs cs hs.length){n:Nat}{xs:List Int}{k:ByteArray}(hk:∀ q,q<hs.length->hK hs q≠k)(hn:m[n]? =some (.row 3 1 (xs.map iE)))(hnew:∀ q,q<hs.length->hN hs q≠n):bu m (hs++ [(k,n)]) (cs++ [xs]) (hs++ [(k,n)]).length :=by
 have hl:(hs++ [(k,n)]).length =hs.length+1:=by simp
 refine⟨by simp [h.len],λq hq _=>?_,λa b ha hb hab=>?_,λa b ha hb hab=>?_⟩
 ·rw [hl]at hq;rw [nU]
  by_cases c:q<hs.length
  ·rw [if_pos c];unfold cR;rw [Ta,Tt (by rw [h.len];exact c), <- Ta];exact h.at_ q c (by omega)
  ·rw [if_neg c,if_pos (by omega)];unfold cR;rw [Ta,Tu (by rw [h.len];omega),show q - cs.length=0 by rw [h.len];omega];exact hn
 ·rw [hl]at ha hb;rw [nU,nU]at hab
  by_cases h1:a<hs.length<;>by_cases h2:b<hs.length
  ·rw [if_pos h1,if_pos h2]at hab;exact h.inj a b h1 h2 hab
  ·rw [if_pos h1,if_neg h2,if_pos (by omega)]at hab;exact absurd hab (hnew a h1)
  ·rw [if_neg h1,if_pos (by omega),if_pos h2]at hab;exact absurd hab.symm (hnew b h2)
  ·omega
 ·rw [hl]at ha hb;rw [FN ha,FN hb]at hab
  by_cases h1:a<hs.length<;>by_cases h2:b<hs.length
  ·rw [if_pos h1,if_pos h2]at hab;exact h.key a b h1 h2 hab
  ·rw [if_pos h1,if_neg h2]at hab;exact absurd hab (hk a h1)
  ·rw [if_neg h1,if_pos h2]at hab;exact absurd hab.symm (hk b h2)
  ·omega
theorem bu.lt(h:bu m hs cs i){n:Nat}(hl:m.length=n):∀ q,q<hs.length->q≠i->hN hs q<n:=λq h1 h2=>cI (h.at_ q h1 h2) hl
end
structure RH where
 jM:Nat
 jJ:Nat
 jB:Nat
 jS:Nat
 hs:HL
structure eK (st:RS) (H:RH) (lo:Nat) (mem:List Ob) (b:Nat):Prop where
 box:mem[b]? =some (.box aE (aD st.nam (.own H.jJ) (.own H.jB) (.own H.jS) (.own H.jM) st.cnt st.ws st.last st.kind))
 J:mem[H.jJ]? =some (.row 59 4 (st.js.map aF))
 B:mem[H.jB]? =some (.row 95 2 (st.bs.map aH))
 S:mem[H.jS]? =some (.row 97 3 (st.ss.map aK))
 M:mem[H.jM]? =some (.mp (eQ H.hs))
 fam:bu mem H.hs st.cs H.hs.length
 keys:H.hs.map (·.1)=st.ks
 lo:lo<=b/\lo<=H.jM/\lo<=H.jJ/\lo<=H.jB/\lo<=H.jS/\ ∀ q,q<H.hs.length->lo<=hN H.hs q
def KR(H:RH)(b:Nat)(j:Nat):Prop:=j=b\/j=H.jM\/j=H.jJ\/j=H.jB\/j=H.jS\/ ∃ q,q<H.hs.length/\j=hN H.hs q
theorem KR.lo{st:RS}{H:RH}{lo:Nat}{mem:List Ob}{b j:Nat}(h:eK st H lo mem b)(hk:KR H b j):lo<=j:=by
 obtain⟨h1,h2,h3,h4,h5,h6⟩:=h.lo;rcases hk with rfl|rfl|rfl|rfl|rfl|⟨q,hq,rfl⟩
 ·exact h1
 ·exact h2
 ·exact h3
 ·exact h4
 ·exact h5
 ·exact h6 q hq
theorem eK.ne{st:RS}{H:RH}{lo:Nat}{mem:List Ob}{b:Nat}(h:eK st H lo mem b):(b≠H.jM/\b≠H.jJ/\b≠H.jB/\b≠H.jS)/\(H.jM≠H.jJ/\H.jM≠H.jB/\H.jM≠H.jS)/\H.jJ≠H.jB/\H.jJ≠H.jS/\H.jB≠H.jS:=by
 have h1:=h.box;have h2:=h.J;have h3:=h.B;have h4:=h.S;have h5:=h.M;refine⟨⟨λe=>?_,λe=>?_,λe=>?_,λe=>?_⟩,⟨λe=>?_,λe=>?_,λe=>?_⟩,λe=>?_,λe=>?_,λe=>?_⟩
 ·rw [e,h5]at h1;cases h1
 ·rw [e,h2]at h1;cases h1
 ·rw [e,h3]at h1;cases h1
 ·rw [e,h4]at h1;cases h1
 ·rw [e,h2]at h5;cases h5
 ·rw [e,h3]at h5;cases h5
 ·rw [e,h4]at h5;cases h5
 ·rw [e,h3]at h2;cases h2
 ·rw [e,h4]at h2;cases h2
 ·rw [e,h4]at h3;cases h3
theorem eK.rH{st:RS}{H:RH}{lo:Nat}{mem:List Ob}{b:Nat}(h:eK st H lo mem b):∀ q,q<H.hs.length->hN H.hs q≠b/\hN H.hs q≠H.jM/\hN H.hs q≠H.jJ/\hN H.hs q≠H.jB/\hN H.hs q≠H.jS:=λq hq=>by
 have hq2:q≠H.hs.length:=by omega
 exact⟨h.fam.miss h.box rfl q hq hq2,h.fam.miss h.M rfl q hq hq2,h.fam.miss h.J rfl q hq hq2,h.fam.miss h.B rfl q hq hq2,h.fam.miss h.S rfl q hq hq2⟩
theorem eK.nz{st:RS}{H:RH}{lo:Nat}{mem:List Ob}{b:Nat}(h:eK st H lo mem b){g:List (Nat×List AV)}(h0:mem[0]? =some (.bL g)):b≠0/\H.jM≠0/\H.jJ≠0/\H.jB≠0/\H.jS≠0/\ ∀ q,q<H.hs.length->hN H.hs q≠0:=by
 have h1:=h.box;have h2:=h.J;have h3:=h.B;have h4:=h.S;have h5:=h.M;refine⟨λe=>?_,λe=>?_,λe=>?_,λe=>?_,λe=>?_,λq hq=>h.fam.miss h0 rfl q hq (by omega)⟩
 ·rw [e,h0]at h1;cases h1
 ·rw [e,h0]at h5;cases h5
 ·rw [e,h0]at h2;cases h2
 ·rw [e,h0]at h3;cases h3
 ·rw [e,h0]at h4;cases h4
def eN(k:ByteArray)(c:Int):List ByteArray->List (List Int)->List ByteArray×List (List Int)
 | [],_=>([k],[[c]])
 | a::ks,cs=>if bT a k then(a::ks,(cs.headD []++ [c])::cs.tail)else(a::(eN k c ks cs.tail).1,cs.headD []::(eN k c ks cs.tail).2)
end Go.Proofs.YtbmlgmblfboigaaGreatDoor
namespace Go.Proofs.YtbmlgmblfboigaaGreatDoor
open Go Go.RowKit Go.Proofs Go.Lib
def dZ(w:Wd):Int:=gJ w.txt.data.toList
def cq(ws:List Wd):Wd:=ws.headD ⟨⟨#[]⟩,0⟩
def eO(below:Bool):List Wd->Int
 | []=>6
 | w::_=>if ik w below then 0 else 7
def iL:List Wd->Int
 | []=>6
 | w::_=>if dn w.txt then 0 else 4
def kF(last:Wd):List Wd->Int
 | []=>last.col+last.txt.size
 | w::_=>w.col
def zt(w:Wd):Prop:= -1000000000<=w.col/\w.col<=1000000000/\w.txt.size<=1000000
structure iw (last:Wd) (ws:List Wd):Prop where
 last:zt last
 len:ws.length<=1000000
 all:∀ w∈ws,zt w
theorem iw.tail{last:Wd}{ws:List Wd}(h:iw last ws)(hn:ws≠ []):iw (cq ws) ws.tail:=by
 match ws,hn with
 | w::ws,_=>exact⟨h.all w (by simp),by have:=h.len;simp at this ⊢;omega,λx hx=>h.all x (by simp at hx ⊢;exact .inr hx)⟩
theorem jU{below:Bool}{ws:List Wd}(h:eO below ws=0):ws≠ []:=by rintro rfl;cases h
theorem xI{ws:List Wd}(h:iL ws=0):ws≠ []:=by rintro rfl;cases h
section
variable {mem:List Ob} {n:Nat} (hn:mem.length=n) {b:Nat} {nam:ByteArray} {J B S M:AV} {cnt:Int} {ws:List Wd} {last:Wd} {kind:ByteArray}
include hn
theorem AI(hb:mem[b]? =some (.box aE (aD nam J B S M cnt ws last kind)))(hB:iw last ws):dK Tryz.prog 68 [.ptr b 0] mem (λr m'=>iL ws=0/\r= .v (.string (cq ws).txt)/\bz mem m' (λj=>j=b)/\m'[b]? =some (.box aE (aD nam J B S M cnt ws.tail (cq ws) kind))) (λv m'=>iL ws≠0/\v=fw cnt (kF last ws) (iL ws)/\bz mem m' (λj=>j=b)):=by
 match ws with
 | []=>exact(Jv hn hb ⟨hB.last.1,hB.last.2.1⟩ (by have:=hB.last.2.2;omega)).mono (λ_ _ h=>h.elim) (λv m h=>⟨by simp [iL],h.1,h.2⟩)
 | w::ws=>
  have hw:=hB.all w (by simp);have hl:ws.length<=1000000:=by have:=hB.len;simp at this;omega
  cases hi:dn w.txt with
  | true=>exact(PM hn hb hl hw.2.2 hi).mono (λr m h=>⟨by simp [iL,hi],h⟩) (λ_ _ h=>h.elim)
  | false=>exact(MA hn hb hl hw.2.2 hi).mono (λ_ _ h=>h.elim) (λv m h=>⟨by simp [iL,hi],by rw [h.1];simp [iL,hi,kF],h.2⟩)
variable {es er:Value} (hes:eS es) (her:eS er) (h0:mem[0]? =some (.bL (gX es er)))
include hes her h0
theorem lH(hb:mem[b]? =some (.box aE (aD nam J B S M cnt ws last kind)))(hB:iw last ws)(below:Bool):dK Tryz.prog 69 [.ptr b 0,.v (.bool below)] mem (λr m'=>eO below ws=0/\r=mA (dZ (cq ws))/\bz mem m' (λj=>j=b)/\m'[b]? =some (.box aE (aD nam J B S M cnt ws.tail (cq ws) kind))) (λv m'=>eO below ws≠0/\v=fw cnt (kF last ws) (eO below ws)/\bz mem m' (λj=>j=b)):=by
 match ws with
 | []=>exact(IF hn hb ⟨hB.last.1,hB.last.2.1⟩ (by have:=hB.last.2.2;omega) below).mono (λ_ _ h=>h.elim) (λv m h=>⟨by simp [eO],h.1,h.2⟩)
 | w::ws=>
  have hw:=hB.all w (by simp);have hl:ws.length<=1000000:=by have:=hB.len;simp at this;omega
  cases hi:ik w below with
  | true=>exact(MB hn h0 hb hl hw.2.2 below hi).mono (λr m h=>⟨by simp [eO,hi],h⟩) (λ_ _ h=>h.elim)
  | false=>exact(Jw hn hes her h0 hb hl hw.2.2 below hi).mono (λ_ _ h=>h.elim) (λv m h=>⟨by simp [eO,hi],by rw [h.1];simp [eO,hi,kF],h.2⟩)
end
def eY:List Nat->Wd->List Wd->Int×Int
 | [],_,_=>(0,0)
 | f::fs,last,ws=>if(if f=0 then iL ws else eO (f==1) ws)=0 then eY fs (cq ws) ws.tail else(kF last ws,if f=0 then iL ws else eO (f==1) ws)
def kg(sw:Bool):List Wd->Int×Int
 | []=>(0,0)
 | w::ws=>if sw&&ik w true then kg sw ws else(w.col,7)
def gl(k:ByteArray):List Nat:=if bT k b8 then [0]else if bT k bQ then [1,1,1,1]else if bT k bU then [2,1]else [0,2,1]
def g9(k:ByteArray)(w0:Wd)(ws:List Wd):Int×Int:=if(eY (gl k) w0 ws).2=0 then kg (bT k bS) (ws.drop (gl k).length)else eY (gl k) w0 ws
def e9(p k:ByteArray):Int:=if bT p ⟨#[]⟩then(if bT k b8 then 0 else 7)else if bT k bQ||bT k bU||bT k bS then(if gV p k then 0 else 9)else 7
theorem nB{fs:List Nat}{last:Wd}{ws:List Wd}(h:iL ws=0):eY (0::fs) last ws=eY fs (cq ws) ws.tail:=by simp [eY,h]
theorem AK{fs:List Nat}{last:Wd}{ws:List Wd}(h:iL ws≠0):eY (0::fs) last ws=(kF last ws,iL ws):=by simp [eY,h]
theorem ED{fs:List Nat}{f:Nat}{below:Bool}{last:Wd}{ws:List Wd}(hf:f≠0)(hb:(f==1)=below)(h:eO below ws=0):eY (f::fs) last ws=eY fs (cq ws) ws.tail:=by simp only [eY,if_neg hf,hb,h,if_true]
theorem B5{fs:List Nat}{f:Nat}{below:Bool}{last:Wd}{ws:List Wd}(hf:f≠0)(hb:(f==1)=below)(h:eO below ws≠0):eY (f::fs) last ws=(kF last ws,eO below ws):=by simp only [eY,if_neg hf,hb,if_neg h]
theorem jz{fs:List Nat}{last:Wd}{ws:List Wd}(h:eO true ws=0):eY (1::fs) last ws=eY fs (cq ws) ws.tail:=ED (by decide) rfl h
theorem nL{fs:List Nat}{last:Wd}{ws:List Wd}(h:eO false ws=0):eY (2::fs) last ws=eY fs (cq ws) ws.tail:=ED (by decide) rfl h
theorem oP{fs:List Nat}{last:Wd}{ws:List Wd}(h:eO true ws≠0):eY (1::fs) last ws=(kF last ws,eO true ws):=B5 (by decide) rfl h
theorem B6{fs:List Nat}{last:Wd}{ws:List Wd}(h:eO false ws≠0):eY (2::fs) last ws=(kF last ws,eO false ws):=B5 (by decide) rfl h
theorem kY{k:ByteArray}{w0:Wd}{ws:List Wd}{c e:Int}(h:eY (gl k) w0 ws=(c,e))(he:e≠0):g9 k w0 ws=(c,e):=by
 unfold g9;rw [h,if_neg (by simpa using he)]
theorem uI{k:ByteArray}{w0:Wd}{ws:List Wd}(h:(eY (gl k) w0 ws).2=0):g9 k w0 ws=kg (bT k bS) (ws.drop (gl k).length):=by
 unfold g9;rw [if_pos h]
theorem pf{k:ByteArray}{w0:Wd}{ws:List Wd}{r:List Wd}(h:eY (gl k) w0 ws=(0,0))(hr:ws.drop (gl k).length =r)(h2:r.length=0):g9 k w0 ws=(0,0):=by
 rw [uI (by rw [h]),hr,UP.1 h2];rfl
theorem wQ{k:ByteArray}{w0:Wd}{ws:List Wd}{r:List Wd}(h:eY (gl k) w0 ws=(0,0))(hs:bT k bS=false)(hr:ws.drop (gl k).length =r)(h2:0<r.length):g9 k w0 ws=((r.getD 0 default).col,7):=by
 rw [uI (by rw [h]),hr,hs]
 match r,h2 with
 | w::r,_=>rfl
theorem gm(a b:ByteArray):bT a b=(a.data.toList==b.data.toList):=by unfold bT;rw [toList_data,toList_data]
theorem qb(l:List Wd):l.drop 2=l.tail.tail:=by rw [<- U5, <- U5,Ur]
theorem zu(l:List Wd):l.drop 4=l.tail.tail.tail.tail:=by rw [<- qb, <- qb,Ur]
theorem GP(l:List Wd):l.drop 3=l.tail.tail.tail:=by rw [<- qb, <- U5,Ur]
theorem nk:gl b8= [0]:=by simp only [gl,gm];decide
theorem kT:gl bQ= [1,1,1,1]:=by simp only [gl,gm];decide
theorem mw:gl bU= [2,1]:=by simp only [gl,gm];decide
theorem nh:gl bS= [0,2,1]:=by simp only [gl,gm];decide
theorem PO:bT b8 bS=false:=by rw [gm];decide
theorem MC:bT bQ bS=false:=by rw [gm];decide
theorem PQ:bT bU bS=false:=by rw [gm];decide
theorem FO{zs:List Wd}(h:eO true zs=0):kg true zs=kg true zs.tail:=by
 match zs with
 | []=>cases h
 | w::zs=>
  have hw:ik w true=true:=by
   cases hq:ik w true with
   | true=>rfl
   | false=>simp [eO,hq]at h
  simp only [kg,hw,Bool.and_self,if_true,U8]
theorem PR{lz:Wd}{zs:List Wd}(hz:0<zs.length)(h:eO true zs≠0):kg true zs=(kF lz zs,eO true zs):=by
 match zs,hz with
 | w::zs,_=>
  have hw:ik w true=false:=by
   cases hq:ik w true with
   | false=>rfl
   | true=>simp [eO,hq]at h
  simp [kg,hw,kF,eO]
theorem yI{ws:List Wd}(h:ws≠ []):ws.map dZ=dZ (cq ws)::ws.tail.map dZ:=by
 match ws,h with
 | w::ws,_=>rfl
theorem B9:bT bS bS=true:=by rw [gm];decide
end Go.Proofs.YtbmlgmblfboigaaGreatDoor
namespace Go.Proofs.YtbmlgmblfboigaaGreatDoor
open Go Go.RowKit Go.Proofs Go.Lib
theorem Cb:bI Tryz.prog 73 75 2 24 (.agg #[.string ByteArray.empty,.int .i64 0]):=⟨by kernel_rfl,by kernel_rfl,by kernel_rfl⟩
theorem sR:bI Tryz.prog 85 3 1 8 (.int .i64 0):=⟨by kernel_rfl,by kernel_rfl,by kernel_rfl⟩
theorem xJ:aN Tryz.prog 3 false 1:=⟨by kernel_rfl,by kernel_rfl⟩
theorem sS:aN Tryz.prog 72 false 1:=⟨by kernel_rfl,by kernel_rfl⟩
theorem Cc:aN Tryz.prog 73 false 1:=⟨by kernel_rfl,by kernel_rfl⟩
theorem tQ:aN Tryz.prog 9 false 1:=⟨by kernel_rfl,by kernel_rfl⟩
theorem iF{a b:ByteArray}:bT a b=true↔a=b:=by
 unfold bT;rw [toList_data,toList_data,beq_iff_eq]
 constructor
 ·intro h;obtain⟨⟨x⟩⟩:=a;obtain⟨⟨y⟩⟩:=b;simp at h;rw [h]
 ·intro h;rw [h]
theorem qw{k:ByteArray}{c:Int}:∀ (hs:HL) (cs:List (List Int)) (q:Nat),cs.length=hs.length->q<hs.length->hK hs q=k->(∀ p,p<q->hK hs p≠k)->eN k c (hs.map (·.1)) cs=(hs.map (·.1),cs.set q (cR cs q++ [c]))
 | [],cs,q,_,hq,_,_=>absurd hq (by simp)
 | x::hs,[],q,hl,_,_,_=>by simp at hl
 | x::hs,d::cs,0,hl,hq,hk,hp=>by
  have hx:bT x.1 k=true:=iF.2 hk;simp only [TU,eN,hx,if_true];rfl
 | x::hs,d::cs,q+1,hl,hq,hk,hp=>by
  have hx:¬ bT x.1 k=true:=λh=>hp 0 (by omega) (iF.1 h)
  have ih:=qw (k:=k) (c:=c) hs cs q (by simpa using hl) (by simpa using hq) hk (λp hpq=>hp (p+1) (by omega));simp only [TU,eN,hx,if_false,U8,List.headD_cons];rw [ih];rfl
theorem qm{k:ByteArray}{c:Int}:∀ (hs:HL) (cs:List (List Int)),cs.length=hs.length->(∀ q,q<hs.length->hK hs q≠k)->eN k c (hs.map (·.1)) cs=(hs.map (·.1)++ [k],cs++ [[c]])
 | [],[],_,_=>rfl
 | [],d::cs,h,_=>by simp at h
 | x::hs,[],hl,_=>by simp at hl
 | x::hs,d::cs,hl,hq=>by
  have hx:¬ bT x.1 k=true:=λh=>hq 0 (by simp) (iF.1 h)
  have ih:=qm (k:=k) (c:=c) hs cs (by simpa using hl) (λq h=>hq (q+1) (by simpa using h));simp only [TU,eN,hx,if_false,U8,List.headD_cons];rw [ih];rfl
theorem uJ{hs:HL}{k:ByteArray}(h:¬ ∃ q,q<hs.length/\hK hs q=k):∀ q,q<hs.length->hK hs q≠k:=λq hq e=>h ⟨q,hq,e⟩
theorem mB{hs:HL}{k:ByteArray}(h:∀ q,q<hs.length->hK hs q≠k):∀ x∈eQ hs,x.1≠k:=λx hx=>by
 obtain⟨q,hq,rfl⟩:=T0 hx;have hq':q<hs.length:=by simpa [eQ]using hq
 have:=jY hq';rw [Tc hq]at this;rw [Option.some.inj this];exact h q hq'
theorem bg{hs:HL}{q:Nat}{k:ByteArray}{n:Nat}:(eQ hs).set q (k,.own n)=eQ (hs.set q (k,n)):=by simp [eQ,List.map_set]
theorem bh{hs:HL}{k:ByteArray}{n:Nat}:eQ hs++ [(k,.own n)]=eQ (hs++ [(k,n)]):=by simp [eQ]
theorem sT{hs:HL}{q:Nat}{k:ByteArray}{n:Nat}(hq:q<hs.length)(hk:hK hs q=k):(hs.set q (k,n)).map (·.1)=hs.map (·.1):=by
 rw [List.map_set];apply Un;intro i
 by_cases h:q=i
 ·subst h;rw [TC (by simpa using hq),Tm,Tc hq];unfold hK at hk;rw [Ta,Tc hq]at hk;simp at hk;simp [hk]
 ·rw [Tz h]
def RS.add(st:RS)(k:ByteArray):RS:= {st with ks:=(eN k st.cnt st.ks st.cs).1,cs:=(eN k st.cnt st.ks st.cs).2}
theorem gB:(Tryz.prog).underlying 72=some (.map 9 85):=by kernel_rfl
theorem gC:(Tryz.prog).underlying 9=some .string :=by kernel_rfl
theorem tR:∀ w,(zeroValue 85).run Tryz.prog w= .ok (.slice none 0 0) w:=λ_=>by kernel_rfl
theorem Jx{M0:List Ob}{n:Nat}(hn:M0.length=n){st:RS}{H:RH}{lo b:Nat}(hR:eK st H lo M0 b)(c0:Int)(ws:List Wd)(hw:st.ws=⟨b8,c0⟩::ws)(hk:st.kind=⟨#[]⟩)(hW:iw ⟨b8,c0⟩ ws)(hc:∀ q,(cR st.cs q).length <=1000000):
 dK Tryz.prog 30 [.ptr b 0] M0 (λr m'=>g9 b8 ⟨b8,c0⟩ ws=(0,0)/\r= .tuple []/\ ∃ H',eK {(st.add b8)with nam:=(cq ws).txt,ws:= [],last:=cq ws,kind:=b8} H' lo m' b/\bz M0 m' (KR H b)) (λv m'=>∃ c e,e≠0/\g9 b8 ⟨b8,c0⟩ ws=(c,e)/\v=fw st.cnt c e/\bz M0 m' (KR H b)):=by
 have hwl:=hW.len;have hb:=hR.box;rw [hw,hk]at hb;have hJ:=hR.J;have hB:=hR.B;have hS:=hR.S;have hM:=hR.M;have hF:=hR.fam;have hbn:=cI hb hn;have hJn:=cI hJ hn;have hBn:=cI hB hn;have hSn:=cI hS hn;have hMn:=cI hM hn;obtain⟨⟨x1,x2,x3,x4⟩,⟨x5,x6,x7⟩,x8,x9,x10⟩:=hR.ne;have hnf:=hR.rH;have hlt:=hF.lt hn;have hlo:=hR.lo;refine fz (fn:=Tryz.f30) 193 (by kernel_rfl) rfl (by kernel_rfl) (S8 rfl) ?_;intro eo a3 hA aO;have bV:ag eo (.tmp 0)=_:=hA 0 _ rfl;have cw:a3.length=n:=by rw [aO];exact hn
 have bX:a3[b]? =_:=(congrArg (λq=>q[b]?) aO).trans hb;simp only [pS,Value.cells,Nat.reduceAdd,aD,aE,aG,aV,aP,bg,bh]at bX;have ep:a3[H.jJ]? =_:=(congrArg (λq=>q[H.jJ]?) aO).trans hJ;have er:a3[H.jB]? =_:=(congrArg (λq=>q[H.jB]?) aO).trans hB;have eu:a3[H.jS]? =_:=(congrArg (λq=>q[H.jS]?) aO).trans hS;have ev:a3[H.jM]? =_:=(congrArg (λq=>q[H.jM]?) aO).trans hM;have ew:bz M0 a3 (KR H b):=by rw [aO];exact bz.refl _ _
 have bZ:=hF;rw [<- aO]at bZ;clear hA aO;refine aj<|at_<|ar (ah bV) rfl<|c6 (ku (last:=st.last) cw bX (by omega)) (ax aa aI) jA trivial rfl (λfy fA ey=>?_) (λ_ _ h=>h.elim)
 obtain⟨rfl,a5,b0⟩:=ey;simp only [pS,Value.cells,Nat.reduceAdd,aD,aE,aG,aV,aP,bg,bh]at b0;have cx:=a5.at_ ep (λh_=>by(try dsimp only at h_)<;>omega);have cy:=a5.at_ er (λh_=>by(try dsimp only at h_)<;>omega);have cz:=a5.at_ eu (λh_=>by(try dsimp only at h_)<;>omega);have cA:=a5.at_ ev (λh_=>by(try dsimp only at h_)<;>omega);have cB:=ew.trans a5 (λj_ hj_ h_=>by(try dsimp only at h_)<;>(try subst h_)<;>(simp [KR];done));have cC:=bZ.all a5 (λq_ h1_ h2_ h_=>bZ.miss bX rfl q_ h1_ h2_ h_);obtain⟨ad,b1,fB⟩:=a5.len_ cw;refine aL (cu jD rfl b1) trivial rfl (λfC aH=>?_);have ba:=bH aH b1;simp only [pS,Value.cells,Nat.reduceAdd,aD,aE,aG,aV,aP,bg,bh]at ba;have cD:=aJ aH b0;have cE:=aJ aH cx;have cF:=aJ aH cy;have cH:=aJ aH cz;have cJ:=aJ aH cA;have cK:=RestR.aJ aH cB;have cL:=bu.aJ aH cC;have ez:=bG aH b1;clear aH b0 cx cy cz cA cB cC;refine aL (bN aa (ae rfl aa) rfl rfl ba jE rfl (au rfl)) trivial rfl (λbb aK=>?_);have aT:=bk aK ba;simp only [pS,Value.cells,Nat.reduceAdd,aD,aE,aG,aV,aP,bg,bh]at aT;have aR:=ao aK cD (by omega);have a7:=ao aK cE (by omega);have a8:=ao aK cF (by omega);have a9:=ao aK cH (by omega);have bE:=ao aK cJ (by omega);have bF:=RestR.ao aK cK (λhj_=>by(exfalso;omega));have b2:=bu.ao aK cL ba rfl;have aU:=bc aK ez;clear aK ba cD cE cF cH cJ cK cL;refine aY (ay (ae rfl (u2 rfl bV))) (ay aa) ?_;clear bV;intro fD cM b6;refine ai<|aj<|at_<|ar (aB gr rfl b6) rfl<|ar (ak (aC tQ rfl aT aa (au rfl)) (by simp only [pS,Value.cells,Nat.reduceAdd,aD,aE,aG,aV,aP,bg,bh]<;>rfl)) rfl ?_
 refine ar (aw aa) rfl<|bq (ae rfl (u2 rfl cM)) (ae rfl (u2 rfl b6)) aa ?_;clear cM b6;intro fE b7 cN b9
 refine ai<|aj<|bP<|aj<|aj<|at_<|ar (ah b7) rfl<|ar (bC aa) rfl<|ar (aB ec rfl aa) rfl<|ar (ak (aC tQ rfl aR aa (au rfl)) (by simp only [pS,Value.cells,Nat.reduceAdd,aD,aE,aG,aV,aP,bg,bh]<;>rfl)) rfl ?_
 refine ar (eG aa al) rfl<|ar (ah aa) rfl<|bM aa (λbe cO=>?_) (λbe cO=>?_)
 ·skip;refine aA (ah (u2 rfl (u4 rfl b9))) ⟨_,rfl,be⟩ rfl ?_;refine aA (dS aa al) ⟨_,rfl,(ae rfl be)⟩ rfl ?_;refine ar (bD (u2 rfl be) aa) rfl<|ar (aw aa) rfl<|aZ (u2 rfl (u8 rfl b7)) (u2 rfl (u8 rfl cN)) (u2 rfl (u8 rfl b9)) aa ?_;clear be b7 cN b9;intro fF ca cP cQ cS
  refine ai<|aW cS (λbj=>?_) (λbj=>?_)
  ·(simp only [toList_data]at bj;exact absurd bj (by decide))
  replace bj:=dj bj;refine at_<|ar (ah ca) rfl<|ar (bC aa) rfl<|ar (aB ec rfl aa) rfl<|ar (ak (aC tQ rfl aR aa (au rfl)) (by simp only [pS,Value.cells,Nat.reduceAdd,aD,aE,aG,aV,aP,bg,bh]<;>rfl)) rfl ?_
  refine ar (dS aa al) rfl<|ar (ah aa) rfl<|bM aa (λbm bI=>?_) (λbm bI=>?_)
  ·(simp at bI;done)
  replace bI:=dj bI;refine az ⟨_,rfl,.inl bm⟩ rfl ?_;refine az ⟨_,rfl,.inl (ae rfl bm)⟩ rfl ?_;refine ar (bJ (u2 rfl bm) al) rfl<|ar (ah aa) rfl<|az ⟨_,rfl,.inl aa⟩ rfl ?_
  refine az ⟨_,rfl,.inl (ae rfl aa)⟩ rfl ?_;refine ar (bJ (u2 rfl aa) al) rfl<|ar (ah aa) rfl<|az ⟨_,rfl,.inl aa⟩ rfl ?_
  refine az ⟨_,rfl,.inl (ae rfl aa)⟩ rfl ?_;refine ar (bJ (u2 rfl aa) al) rfl<|ar (aw aa) rfl<|aZ (u2 rfl (u16 rfl ca)) (u2 rfl (u16 rfl cP)) (u2 rfl (u16 rfl cQ)) aa ?_;clear bm ca cS cP cQ;intro fG cb cT cU cV
  refine ai<|iP cV<|aj<|at_<|ar (ah cb) rfl<|ar (bC aa) rfl<|ar (aB ec rfl aa) rfl<|ar (ak (aC tQ rfl aR aa (au rfl)) (by simp only [pS,Value.cells,Nat.reduceAdd,aD,aE,aG,aV,aP,bg,bh]<;>rfl)) rfl ?_
  refine ar (dS aa al) rfl<|ar (ah aa) rfl<|bM aa (λa6 bK=>?_) (λa6 bK=>?_)
  ·(simp at bK;done)
  replace bK:=dj bK;refine az ⟨_,rfl,.inl a6⟩ rfl ?_;refine az ⟨_,rfl,.inl (ae rfl a6)⟩ rfl ?_;refine az ⟨_,rfl,.inl (u2 rfl a6)⟩ rfl ?_;refine az ⟨_,rfl,.inl (ae rfl (u2 rfl a6))⟩ rfl ?_;refine ar (bJ (u4 rfl a6) al) rfl<|ar (aw aa) rfl<|aZ (u4 rfl (u8 rfl cb)) (u4 rfl (u8 rfl cT)) (u4 rfl (u8 rfl cU)) aa ?_;clear a6 cb cV cT cU;intro cW af fI aS eA
  refine ai<|iP eA<|br<|cv<|ai<|aj<|gz (λe mem=>(ag e (.tmp 0)=ag cW (.tmp 0))/\(ag e (.tmp 3)=ag cW (.tmp 3))/\(mem[ad]? =bb[ad]?)/\(mem[b]? =bb[b]?)/\(mem[H.jJ]? =bb[H.jJ]?)/\(mem[H.jB]? =bb[H.jB]?)/\(mem[H.jS]? =bb[H.jS]?)/\(∃ n,mem.length=n/\ad+1<=n)/\(∃ hs2:HL,mem[H.jM]? =some (.mp (eQ hs2))/\bu mem hs2 (eN b8 st.cnt st.ks st.cs).2 hs2.length/\hs2.map (·.1)=(eN b8 st.cnt st.ks st.cs).1/\(∀ q,q<hs2.length->lo<=hN hs2 q)/\bz M0 mem (KR H b))) ?_ ?_
  ·
   have cX:=aT;have cY:=aR;have cZ:=a7;have c7:=a8;have c8:=a9;refine(Classical.em (∃ q0,q0<H.hs.length/\hK H.hs q0=b8)).elim (λcc=>?_) (λcc=>?_)
   ·obtain⟨q0,hq0,hqk⟩:=cc;have hql:=hlt q0 hq0 (by omega);obtain⟨y1,y2,y3,y4,y5⟩:=hnf q0 hq0;have hcq:=hc q0;obtain⟨c9,da⟩:=b2.take hq0;refine fW 17 1 aU (by kernel_rfl) (by kernel_rfl) (by kernel_rfl) (by kernel_rfl) (λeB ab=>?_);have db:=bp ab aT;have bv:=bp ab aR;have dc:=bp ab a7;have dd:=bp ab a8;have de:=bp ab a9;have cd:=bp ab bE;have df:=RestR.bp ab bF;have dg:=bu.bp ab da;have dh:=bp ab c9;have bL:eB[ad+1]? =_:=fH ab aU 0 rfl rfl;have eC:_=ad+1+1:=fX (K:=1) ab aU;clear ab aT aR a7 a8 a9 bE bF da c9 aU;refine aQ (λM_ hM_=>(ah af)) trivial ?_;refine aQ (λM_ hM_=>(bC aa)) trivial ?_;refine aQ (λM_ hM_=>(aB gu rfl aa)) trivial ?_;refine cG (b) (λM_ hM_=>(ak (aC sS rfl (cf hM_ bv (by simp)) aa (au rfl)) (by simp only [pS,Value.cells,Nat.reduceAdd,aD,aE,aG,aV,aP,bg,bh]<;>rfl))) trivial trivial ?_;refine aQ (λM_ hM_=>(ah (u4 rfl aS))) trivial ?_;refine aQ (λM_ hM_=>(ah (ae rfl (u4 rfl af)))) trivial ?_;refine aQ (λM_ hM_=>(bC aa)) trivial ?_;refine aQ (λM_ hM_=>(aB gu rfl aa)) trivial ?_;refine cG (b) (λM_ hM_=>(ak (aC sS rfl (cf hM_ bv (by simp)) aa (au rfl)) (by simp only [pS,Value.cells,Nat.reduceAdd,aD,aE,aG,aV,aP,bg,bh]<;>rfl))) trivial trivial ?_;refine aQ (λM_ hM_=>(ah (ae rfl (u8 rfl aS)))) trivial ?_;refine cG (H.jM) (λM_ hM_=>(qu gB gC (cf hM_ cd (by simp)) (ae rfl aa) aa (show(eQ H.hs)[q0]? =some (b8,.own (hN H.hs q0))by rw [jY hq0,hqk]) hF.mi)) trivial trivial ?_;refine aQ (λM_ hM_=>(ah (ae rfl (u2 rfl (u8 rfl af))))) trivial ?_;refine aQ (λM_ hM_=>(bC aa)) trivial ?_;refine aQ (λM_ hM_=>(aB hP rfl aa)) trivial ?_;refine cG (b) (λM_ hM_=>(ak (aC xJ rfl (cf hM_ bv (by simp)) aa (au rfl)) (by simp only [pS,Value.cells,Nat.reduceAdd,aD,aE,aG,aV,aP,bg,bh]<;>rfl))) trivial trivial ?_;refine aQ (λM_ hM_=>(dT sR (bo aa bY) rfl rfl rfl rfl)) trivial ?_;refine lX (ad+1) ((hN H.hs q0)) (λM_ hM_=>(k6 sR rfl (cf hM_ dh (by simp)) (ae rfl (u4 rfl aa)) aa (by rfl) (by simp only [bn]<;>omega))) trivial bL rfl trivial ⟨.inl (by simp<;>omega),⟨.inl (by simp<;>omega),⟨.inl (by simp<;>omega),⟨.inl (by simp<;>omega),trivial⟩⟩⟩⟩ ⟨.inl (by simp<;>omega),⟨.inl (by simp<;>omega),⟨.inl (by simp<;>omega),⟨.inl (by simp<;>omega),trivial⟩⟩⟩⟩ (λfK am=>?_);have ce:=l6 am bL;simp only [pS,Value.cells,Nat.reduceAdd,aD,aE,aG,aV,aP,bg,bh]at ce;have di:=cn am db (by omega) (by omega);have dk:=cn am bv (by omega) (by omega);have dl:=cn am dc (by omega) (by omega);have dm:=cn am dd (by omega) (by omega);have dn:=cn am de (by omega) (by omega);have bO:=cn am cd (by omega) (by omega);have dp:=RestR.cn am df (λhj_=>by(exact Or.inr (Or.inr (Or.inr (Or.inr (Or.inr ⟨q0,hq0,rfl⟩)))))) (λhj_=>by(exfalso;omega));have dq:=bu.uH (by omega) am dg bL rfl;have eD:=lQ am eC;clear am db bv dc dd de cd df dg dh bL;refine gj rfl ?_;refine aL (tI gB gC bO (ae rfl (u4 rfl (u8 rfl aa))) (u4 rfl (u8 rfl aa)) aa (show(eQ H.hs)[q0]? =some (b8,.own (hN H.hs q0))by rw [jY hq0,hqk]) hF.mi) trivial rfl (λfL an=>?_);have dr:=bk an bO;simp only [pS,Value.cells,Nat.reduceAdd,aD,aE,aG,aV,aP,bg,bh]at dr;have eE:=ao an ce (by omega);have eF:=ao an di (by omega);have eH:=ao an dk (by omega);have eI:=ao an dl (by omega);have eJ:=ao an dm (by omega);have eL:=ao an dn (by omega);have eO:=RestR.ao an dp (λhj_=>by(simp [KR];done));have eP:=bu.ao an dq bO rfl;have eR:=bc an eD;clear an ce di dk dl dm dn bO dp dq;refine aY (ay (ae rfl (u16 rfl af))) (ay (ae rfl (u16 rfl aS))) ?_;intro fM eS eT;refine ai ⟨(eS).trans (af).symm,(eT).trans (aS).symm,eF.trans cX.symm,eH.trans cY.symm,eI.trans cZ.symm,eJ.trans c7.symm,eL.trans c8.symm,⟨_,eR,by omega⟩,?_⟩
    (have hadd:=qw (c:=st.cnt) H.hs st.cs q0 hF.len hq0 hqk (λp hp e=>absurd (hF.key p q0 (by omega) hq0 (e.trans hqk.symm)) (by omega));rw [hR.keys]at hadd;rw [hadd];exact⟨_,dr,eP.put hq0 hqk eE (λq hq=>(by have:=hlt q hq (by omega);omega)),(sT hq0 hqk).trans hR.keys,(λq hq=>by rw [Ul]at hq;rw [nS hq0];split<;>first|exact hlo.2.2.2.2.2 q hq|(show lo<=ad+1;omega)),eO⟩)
   ·have hqm:=uJ cc;refine fW 17 1 aU (by kernel_rfl) (by kernel_rfl) (by kernel_rfl) (by kernel_rfl) (λeU ap=>?_);have dt:=bp ap aT;have bx:=bp ap aR;have du:=bp ap a7;have dv:=bp ap a8;have dw:=bp ap a9;have cg:=bp ap bE;have dx:=RestR.bp ap bF;have dy:=bu.bp ap b2;have bQ:eU[ad+1]? =_:=fH ap aU 0 rfl rfl;have eV:_=ad+1+1:=fX (K:=1) ap aU;clear ap aT aR a7 a8 a9 bE bF b2 aU;refine aQ (λM_ hM_=>(ah af)) trivial ?_;refine aQ (λM_ hM_=>(bC aa)) trivial ?_;refine aQ (λM_ hM_=>(aB gu rfl aa)) trivial ?_;refine cG (b) (λM_ hM_=>(ak (aC sS rfl (cf hM_ bx (by simp)) aa (au rfl)) (by simp only [pS,Value.cells,Nat.reduceAdd,aD,aE,aG,aV,aP,bg,bh]<;>rfl))) trivial trivial ?_;refine aQ (λM_ hM_=>(ah (u4 rfl aS))) trivial ?_;refine aQ (λM_ hM_=>(ah (ae rfl (u4 rfl af)))) trivial ?_;refine aQ (λM_ hM_=>(bC aa)) trivial ?_;refine aQ (λM_ hM_=>(aB gu rfl aa)) trivial ?_;refine cG (b) (λM_ hM_=>(ak (aC sS rfl (cf hM_ bx (by simp)) aa (au rfl)) (by simp only [pS,Value.cells,Nat.reduceAdd,aD,aE,aG,aV,aP,bg,bh]<;>rfl))) trivial trivial ?_;refine aQ (λM_ hM_=>(ah (ae rfl (u8 rfl aS)))) trivial ?_;refine cG (H.jM) (λM_ hM_=>(sK gB gC tR (cf hM_ cg (by simp)) (ae rfl aa) aa (mB hqm))) trivial trivial ?_;refine aQ (λM_ hM_=>(ah (ae rfl (u2 rfl (u8 rfl af))))) trivial ?_;refine aQ (λM_ hM_=>(bC aa)) trivial ?_;refine aQ (λM_ hM_=>(aB hP rfl aa)) trivial ?_;refine cG (b) (λM_ hM_=>(ak (aC xJ rfl (cf hM_ bx (by simp)) aa (au rfl)) (by simp only [pS,Value.cells,Nat.reduceAdd,aD,aE,aG,aV,aP,bg,bh]<;>rfl))) trivial trivial ?_;refine aQ (λM_ hM_=>(dT sR (bo aa bY) rfl rfl rfl rfl)) trivial ?_;refine lh (ad+1) (λM_ hM_=>(tw sR rfl (ae rfl (u4 rfl aa)) aa (by rfl) (by simp only [bn]<;>omega))) trivial bQ rfl trivial ⟨.inl (by simp<;>omega),⟨.inl (by simp<;>omega),⟨.inl (by simp<;>omega),⟨.inl (by simp<;>omega),trivial⟩⟩⟩⟩ (λfN av=>?_);have ci:=bk av bQ;simp only [pS,Value.cells,Nat.reduceAdd,aD,aE,aG,aV,aP,bg,bh]at ci;have dz:=ao av dt (by omega);have dA:=ao av bx (by omega);have dB:=ao av du (by omega);have dC:=ao av dv (by omega);have dD:=ao av dw (by omega);have bS:=ao av cg (by omega);have dE:=RestR.ao av dx (λhj_=>by(exfalso;omega));have dF:=bu.ao av dy bQ rfl;have eW:=bc av eV;clear av dt bx du dv dw cg dx dy bQ;refine gj rfl ?_;refine aL (tJ gB gC bS (ae rfl (u4 rfl (u8 rfl aa))) (u4 rfl (u8 rfl aa)) aa (mB hqm)) trivial rfl (λfO aF=>?_);have dG:=bk aF bS;simp only [pS,Value.cells,Nat.reduceAdd,aD,aE,aG,aV,aP,bg,bh]at dG;have eX:=ao aF ci (by omega);have eY:=ao aF dz (by omega);have eZ:=ao aF dA (by omega);have e0:=ao aF dB (by omega);have e3:=ao aF dC (by omega);have e4:=ao aF dD (by omega);have e5:=RestR.ao aF dE (λhj_=>by(simp [KR];done));have e6:=bu.ao aF dF bS rfl;have e7:=bc aF eW;clear aF ci dz dA dB dC dD bS dE dF;refine aY (ay (ae rfl (u16 rfl af))) (ay (ae rfl (u16 rfl aS))) ?_;intro fP e8 e9;refine ai ⟨(e8).trans (af).symm,(e9).trans (aS).symm,eY.trans cX.symm,eZ.trans cY.symm,e0.trans cZ.symm,e3.trans c7.symm,e4.trans c8.symm,⟨_,e7,by omega⟩,?_⟩
    (have hadd:=qm (k:=b8) (c:=st.cnt) H.hs st.cs hF.len hqm;rw [hR.keys]at hadd;rw [hadd];exact⟨_,dG,e6.more hqm eX (λq hq=>(by have:=hlt q hq (by omega);omega)),(by rw [Ux,hR.keys];rfl),(λq hq=>by rw [nU];split<;>first|exact hlo.2.2.2.2.2 q (by assumption)|(rw [if_pos (by simp at hq;omega)];show lo<=ad+1;omega)),e5⟩)
  ·rintro fQ fR ⟨fa,fb,fc,fd,fe,ff,fh,⟨fS,dH,fT⟩,⟨hs2,moM2,hF2,hks2,hlo2,hR2⟩⟩;have dI:=fa.trans af;have cj:=fb.trans aS;have fi:=fc.trans aT;have dJ:=fd.trans aR;have fj:=fe.trans a7;have fk:=ff.trans a8;have fl:=fh.trans a9;refine aj<|aj<|at_<|ar (ah cj) rfl<|bq (ae rfl dI) (ae rfl cj) aa ?_;clear dI cj;intro fU dL dM ck
   refine ai<|bP<|aj<|at_<|ar (eG ck al) rfl<|ar (aw aa) rfl<|aZ (u2 rfl dL) (u2 rfl dM) (u2 rfl ck) aa ?_;clear dL dM ck;intro fV bT dN fm dO
   refine ai<|aW dO (λcm=>?_) (λcm=>?_)
   ·skip;refine at_<|ar (ah bT) rfl<|ar (ah (ae rfl bT)) rfl<|c6 (AI (last:=⟨b8,c0⟩) (ws:=ws) dH dJ hW) (ax aa aI) E7 trivial rfl (λfY fZ co=>?_) (λf0 ga co=>?_)
    rotate_left
    ·
     repeat (first|refine dU ?_|refine fJ ?_)
     (rcases co with⟨ha_,rfl,hz_⟩;exact⟨_,rfl,_,_,ha_,kY (by rw [nk];exact AK ha_) ha_,rfl,hR2.trans hz_ (λj_ hj_ h_=>by(subst h_;simp [KR];done))⟩)
    obtain⟨hnm,rfl,aX,bA⟩:=co;have dP:=aX.at_ fi (λh_=>by(try dsimp only at h_)<;>omega);simp only [pS,Value.cells,Nat.reduceAdd,aD,aE,aG,aV,aP,bg,bh]at bA;have dQ:=aX.at_ fj (λh_=>by(try dsimp only at h_)<;>omega);have dR:=aX.at_ fk (λh_=>by(try dsimp only at h_)<;>omega);have dV:=aX.at_ fl (λh_=>by(try dsimp only at h_)<;>omega);have dW:=aX.at_ moM2 (λh_=>by(try dsimp only at h_)<;>omega);have dX:=hF2.all aX (λq_ h1_ h2_ h_=>hF2.miss dJ rfl q_ h1_ h2_ h_);have dY:=hR2.trans aX (λj_ hj_ h_=>by(try dsimp only at h_)<;>(try subst h_)<;>(simp [KR];done));obtain⟨gb,fo,gc⟩:=aX.len_ dH;refine ar (bC (u2 rfl aa)) rfl<|ar (aB jo rfl aa) rfl<|ar (aB mC rfl aa) rfl<|aL (bN aa (ae rfl (u2 rfl aa)) rfl rfl bA oc rfl (au rfl)) trivial rfl (λgd aM=>?_)
    have a2:=bk aM bA;simp only [pS,Value.cells,Nat.reduceAdd,aD,aE,aG,aV,aP,bg,bh]at a2;have dZ:=ao aM dP (by omega);have ea:=ao aM dQ (by omega);have eb:=ao aM dR (by omega);have ed:=ao aM dV (by omega);have ee:=ao aM dW (by omega);have ef:=bu.ao aM dX bA rfl;have cp:=RestR.ao aM dY (λhj_=>by(simp [KR];done));have eg:=bc aM fo;clear aM dP bA dQ dR dV dW dX dY;refine aY (ay (u2 rfl (u4 rfl bT))) (ay (u2 rfl (u4 rfl dN))) ?_;clear bT dO dN fm;intro ge ct eh;refine cv<|ai<|aj<|aj<|at_<|ar (ah ct) rfl<|ar (bC aa) rfl<|ar (aB iz rfl aa) rfl<|ar (ak (aC Cc rfl a2 aa (au rfl)) (by simp only [pS,Value.cells,Nat.reduceAdd,aD,aE,aG,aV,aP,bg,bh]<;>rfl)) rfl ?_
    refine ar (ak (bW aa rfl Cb.1) (by simp only [bn]<;>rfl)) rfl ?_;refine ar (eM aa al) rfl<|bq (u2 rfl (u4 rfl ct)) (u2 rfl (u4 rfl eh)) aa ?_;clear ct eh;intro gf bU ei ej
    refine ai<|aW ej (λbB=>?_) (λbB=>?_)
    ·replace bB:=bt bB;refine at_<|ar (ah bU) rfl<|ar (ah (ae rfl bU)) rfl<|ar (bC aa) rfl<|ar (aB iz rfl aa) rfl<|ar (ak (aC Cc rfl a2 aa (au rfl)) (by simp only [pS,Value.cells,Nat.reduceAdd,aD,aE,aG,aV,aP,bg,bh]<;>rfl)) rfl ?_
     refine ar (ak (cr Cb aa al (by decide) (by refine fg ?_;(simp only [bn];omega))) (by simp only [pS,Value.cells,Nat.reduceAdd,aD,aE,aG,aV,aP,bg,bh]<;>rfl)) rfl ?_;refine ar (ak (bR iS rfl aa) (by simp only [pS,Value.cells,Nat.reduceAdd,aD,aE,aG,aV,aP,bg,bh]<;>rfl)) rfl ?_;refine ar (ak (bw xJ rfl aa (au rfl)) (by simp only [pS,Value.cells,Nat.reduceAdd,aD,aE,aG,aV,aP,bg,bh]<;>rfl)) rfl ?_;refine c6 (gw (last:=cq ws) (ws:=ws.tail) eg a2 _ _) (ax (ae rfl (u2 rfl (u4 rfl aa))) (ax aa (ax al aI))) gx trivial rfl (λ_ _ h=>h.elim) (λgg gh ek=>?_)
     repeat (refine dU ?_)
     exact⟨_,rfl,_,_,by decide,wQ (r:=ws.tail) (by rw [nk,nB hnm];rfl) PO (by rw [nk];exact U5) (by simp at*;omega),ek.1,cp.trans ek.2 (λj_ hj_ h_=>by(subst h_;simp [KR];done))⟩
    replace bB:=bf bB;refine br<|ai<|at_<|ar (ah bU) rfl<|ar (ah (ae rfl ei)) rfl<|ar (bC (ae rfl aa)) rfl<|ar (aB ec rfl aa) rfl<|aL (bN aa (u2 rfl aa) rfl rfl a2 oc rfl (au rfl)) trivial rfl (λgi aN=>?_)
    have en:=bk aN a2;simp only [pS,Value.cells,Nat.reduceAdd,aD,aE,aG,aV,aP,bg,bh]at en;have gk:=ao aN dZ (by omega);have fp:=ao aN ea (by omega);have fq:=ao aN eb (by omega);have fs:=ao aN ed (by omega);have ft:=ao aN ee (by omega);have fu:=bu.ao aN ef a2 rfl;have fx:=RestR.ao aN cp (λhj_=>by(simp [KR];done));have gl:=bc aN eg;clear aN a2 dZ ea eb ed ee ef cp;refine lu ?_;clear bU ej ei;intro gm;refine⟨_,lY (by kernel_rfl),?_⟩
    (have ht:ws.tail= []:=UP.1 (by simp at*;omega);have mb_:=en;rw [ht]at mb_;refine⟨pf (r:=ws.tail) (by rw [nk,nB hnm];rfl) (by rw [nk];exact U5) (by rw [ht];rfl),rfl,⟨H.jM,H.jJ,H.jB,H.jS,hs2⟩,⟨mb_,fp,fq,fs,ft,fu,hks2,⟨hlo.1,hlo.2.1,by show lo<=H.jJ;omega,by show lo<=H.jB;omega,by show lo<=H.jS;omega,hlo2⟩⟩,fx⟩)
   ·(simp only [toList_data]at cm;exact absurd cm (by decide))
 ·(simp at cO;done)
end Go.Proofs.YtbmlgmblfboigaaGreatDoor
