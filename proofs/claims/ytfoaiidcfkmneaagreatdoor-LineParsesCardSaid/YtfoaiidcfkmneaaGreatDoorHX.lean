/- Lemmas for the statement. -/
import Derived.Test.YtfoaiidcfkmneaaGreatDoorM10
set_option maxRecDepth 100000
set_option maxHeartbeats 1000000
namespace Go.Proofs.YtfoaiidcfkmneaaGreatDoor
open Go Go.ChangeShapes Go.WideShapes Go.ChangeAt Go.RowKit Go.Joins Go.Deep
set_option linter.unusedSimpArgs false
set_option linter.unusedVariables false
theorem R2:Tryz.prog.cellsOf 118=1:=by kernel_rfl
theorem R7:Tryz.prog.cellsOf 171=20:=by kernel_rfl
theorem QF{H:Type}{enc:TypeId×Value->H}{W:World}{sp:Nat->Bool}{held:Bool}:∀ (fuel:Nat) (cs:List Value) (x:DataW H×List MemPlace),cs.length=1->DataW.trod enc Tryz.prog W 0 sp held fuel 118 cs=some x-> ∃ a:Int,cs= [Value.int .u64 a]/\x.1=DataW.lit (.int .u64 a):=λfuel cs x _ hx=>by
 obtain⟨z0,e0,e1,_⟩:=DataW.trod_int Tryz.underlying118 hx;exact⟨z0,e0,by rw [e1]⟩
theorem iface_of_trod{H:Type}{enc:TypeId×Value->H}{W:World}{sp:Nat->Bool}{held:Bool}{fuel:Nat}{T:TypeId}{cs:List Value}{y:DataW H×List MemPlace}(hi:isIf (Tryz.prog.underlying T)=true)(h:DataW.trod enc Tryz.prog W 0 sp held fuel T cs=some y):∃ v,cs= [v]/\fz v:=by
 obtain⟨ms,hu⟩:=rK hi;cases fuel with
 | zero=>simp [DataW.trod]at h
 | succ n=>
  rcases cs with _|⟨c,_|⟨d,r⟩⟩
  ·simp [DataW.trod,hu]at h
  ·refine⟨c,rfl,?_⟩;cases c with
   | nilIface=>exact .inl rfl
   | iface te pe=>exact .inr ⟨te,pe,rfl⟩
   | _=>simp [DataW.trod,hu]at h
  ·simp [DataW.trod,hu]at h
theorem LY{W:World}{t:Nat}{cs:Array Value}{fuel:Nat}{p:List MemPlace}(ht:(Tryz.prog.globals[5]?).map (·.type)=some t)(hv:W.var? Tryz.prog "internal/strconv.uint64pow10" =some cs)(hd:DataW.trod (λ_=>()) Tryz.prog W 0 (λ_=>true) false fuel t cs.toList=some (Rows.laid_internal_strconv_uint64pow10,p)):
 R0 (λ_=>False) W (.ref ((Lib.pow10Tab.map (Value.int .u64)).map AV.v)) (.pointer (some ⟨5,0,none⟩))/\nr W 5 ((Lib.pow10Tab.map (Value.int .u64)).map AV.v).length :=by
 obtain rfl:171=t:=Option.some.inj ((show(Tryz.prog.globals[5]?).map (·.type)=some 171 by kernel_rfl).symm.trans ht);obtain⟨xs,h1,h2,h3⟩:=Im (k:=1) (λn:Int=> [Value.int .u64 n]) (λn=>DataW.lit (.int .u64 n)) (λ_=>rfl) ah Tryz.underlying171 R2 R7 QF hd;have hx:xs=Lib.pow10Tab:=by
  have h4:DataW.agg (xs.map λn=>DataW.lit (H:=Unit) (.int .u64 n))=DataW.agg (Lib.pow10Tab.map λn=>DataW.lit (.int .u64 n)):=by rw [<- h3];rfl
  refine(List.map_inj_right (f:=λn=>DataW.lit (H:=Unit) (.int .u64 n)) λa b hab=>?_).1 (DataW.agg.inj h4)
  simpa using hab
 subst hx;have h5:cs.toList=Lib.pow10Tab.map (Value.int .u64):=by rw [h2];rfl
 exact Gf (show Tryz.prog.globalNamed "internal/strconv.uint64pow10" =some 5 by kernel_rfl) hv (by rw [<- UC,h5];decide) h5
theorem CM{W:World}{nm:String}{g T t:Nat}{cs:Array Value}{fuel:Nat}{p:List MemPlace}{d:DataW Unit}(hg:Tryz.prog.globalNamed nm=some g)(hT:(Tryz.prog.globals[g]?).map (·.type)=some T)(hi:isIf (Tryz.prog.underlying T)=true)(ht:(Tryz.prog.globals[g]?).map (·.type)=some t)(hv:W.var? Tryz.prog nm=some cs)(hd:DataW.trod (λ_=>()) Tryz.prog W 0 (λ_=>true) false fuel t cs.toList=some (d,p)):
 ∃ v,fz v/\R0 (λ_=>False) W (.ref [.v v]) (.pointer (some ⟨g,0,none⟩))/\nr W g [AV.v v].length :=by
 obtain rfl:T=t:=Option.some.inj (hT.symm.trans ht);obtain⟨v,h1,h2⟩:=iface_of_trod hi hd;exact⟨v,h2,Gf hg hv (by rw [<- UC,h1];simp) h1⟩
theorem LZ{W:World}(h:laidMetH Tryz.prog [("math/bits.deBruijn32tab",Rows.laid_math_bits_deBruijn32tab),("math/bits.deBruijn64tab",Rows.laid_math_bits_deBruijn64tab),("internal/strconv.uint64pow10",Rows.laid_internal_strconv_uint64pow10),("strconv.ErrRange",Rows.laid_strconv_ErrRange),("strconv.ErrSyntax",Rows.laid_strconv_ErrSyntax)] W):
 ∃ es er,fz es/\fz er/\pJ (λ_=>False) W (gX es er):=by
 obtain⟨ps,⟨g1,t1,cs1,fuel1,p1,q1,hg1,ht1,hvar1,hd1,⟨g2,t2,cs2,fuel2,p2,q2,hg2,ht2,hvar2,hd2,⟨g3,t3,cs3,fuel3,p3,q3,hg3,ht3,hvar3,hd3,⟨g4,t4,cs4,fuel4,p4,q4,hg4,ht4,hvar4,hd4,⟨g5,t5,cs5,fuel5,p5,q5,hg5,ht5,hvar5,hd5,_,_⟩,_⟩,_⟩,_⟩,_⟩,_⟩:=h;obtain rfl:5=g3:=Option.some.inj ((show Tryz.prog.globalNamed "internal/strconv.uint64pow10" =some 5 by kernel_rfl).symm.trans hg3);obtain rfl:4=g4:=Option.some.inj ((show Tryz.prog.globalNamed "strconv.ErrRange" =some 4 by kernel_rfl).symm.trans hg4);obtain rfl:3=g5:=Option.some.inj ((show Tryz.prog.globalNamed "strconv.ErrSyntax" =some 3 by kernel_rfl).symm.trans hg5);obtain⟨er,r1,r2⟩:=CM (T:=126) hg4 aj aj ht4 hvar4 hd4;obtain⟨es,s1,s2⟩:=CM (T:=126) hg5 aj aj ht5 hvar5 hd5;refine⟨es,er,s1,r1,λx hx=>?_⟩;unfold gX at hx;rcases TL.1 hx with rfl|hx
 ·exact LY ht3 hvar3 hd3
 rcases TL.1 hx with rfl|hx
 ·exact r2
 rcases TL.1 hx with rfl|hx
 ·exact s2
 ·cases hx
theorem L2{H:Type}{enc:TypeId×Value->H}{W:World}{base:Nat}{v:Value}{d:DataW H}{p:List MemPlace}(hv:Value.okWide Tryz.prog W .any base 9 v)
 (h:DataW.Trod enc Tryz.prog W 0 (λ_=>true) true 9 v d p):∃ n:ByteArray,R0 (λ_=>False) W (.v (.string n)) v:=by
 obtain⟨z,rfl⟩:∃ z,v= .string z:=by
  simp only [Value.okWide,Tryz.underlying9]at hv;cases v<;>first|exact⟨_,rfl⟩|(exfalso;simp at hv;done)|exact hv.elim
 exact⟨z,.v _⟩
end Go.Proofs.YtfoaiidcfkmneaaGreatDoor
