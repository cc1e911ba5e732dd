/- Lemmas for the statement. -/
import Derived.Test.YtbmlgmblfboigaaGreatDoorA8
namespace Go.Proofs.YtbmlgmblfboigaaGreatDoor
open Go Go.RowKit
set_option linter.unusedVariables false
set_option linter.unusedSimpArgs false
section
variable {M:Mode} {P:Program} {N:Nat} {Q:AQ} {e:Nat->AV} {mem:List Ob} {d:Option Tmp} {ty t t2:TypeId} {pos:String} {af:Array Edge} {g:Option (Nat×Bool)} {x y z:Operand} {K:(Nat->AV)->List Ob->Prop} {id:Nat}
theorem al{v:Value}:ag e (.const v)= .v v:=rfl
theorem zd{f:FuncId}:ag e (.func f)= .v (.func (.func f) #[] #[]):=rfl
theorem u2{e:Nat->AV}{t d0 d1:Tmp}{r0 r1 a:AV}(hd:(t==d0||t==d1)=false)(h:ag e (.tmp t)=a):ag (aR (aR e (some d0) r0) (some d1) r1) (.tmp t)=a:=by
 simp only [U7]at hd;exact ae hd.2 (ae hd.1 h)
theorem u4{e:Nat->AV}{t d0 d1 d2 d3:Tmp}{r0 r1 r2 r3 a:AV}(hd:(t==d0||t==d1||t==d2||t==d3)=false)(h:ag e (.tmp t)=a):ag (aR (aR (aR (aR e (some d0) r0) (some d1) r1) (some d2) r2) (some d3) r3) (.tmp t)=a:=by
 simp only [U7]at hd;exact ae hd.2 (ae hd.1.2 (ae hd.1.1.2 (ae hd.1.1.1 h)))
theorem u8{e:Nat->AV}{t d0 d1 d2 d3 d4 d5 d6 d7:Tmp}{r0 r1 r2 r3 r4 r5 r6 r7 a:AV}(hd:(t==d0||t==d1||t==d2||t==d3||t==d4||t==d5||t==d6||t==d7)=false)(h:ag e (.tmp t)=a):ag (aR (aR (aR (aR (aR (aR (aR (aR e (some d0) r0) (some d1) r1) (some d2) r2) (some d3) r3) (some d4) r4) (some d5) r5) (some d6) r6) (some d7) r7) (.tmp t)=a:=by
 simp only [U7]at hd;exact ae hd.2 (ae hd.1.2 (ae hd.1.1.2 (ae hd.1.1.1.2 (ae hd.1.1.1.1.2 (ae hd.1.1.1.1.1.2 (ae hd.1.1.1.1.1.1.2 (ae hd.1.1.1.1.1.1.1 h)))))))
theorem u16{e:Nat->AV}{t d0 d1 d2 d3 d4 d5 d6 d7 d8 d9 d10 d11 d12 d13 d14 d15:Tmp}{r0 r1 r2 r3 r4 r5 r6 r7 r8 r9 r10 r11 r12 r13 r14 r15 a:AV}(hd:(t==d0||t==d1||t==d2||t==d3||t==d4||t==d5||t==d6||t==d7||t==d8||t==d9||t==d10||t==d11||t==d12||t==d13||t==d14||t==d15)=false)(h:ag e (.tmp t)=a):ag (aR (aR (aR (aR (aR (aR (aR (aR (aR (aR (aR (aR (aR (aR (aR (aR e (some d0) r0) (some d1) r1) (some d2) r2) (some d3) r3) (some d4) r4) (some d5) r5) (some d6) r6) (some d7) r7) (some d8) r8) (some d9) r9) (some d10) r10) (some d11) r11) (some d12) r12) (some d13) r13) (some d14) r14) (some d15) r15) (.tmp t)=a:=by
 simp only [U7]at hd;exact ae hd.2 (ae hd.1.2 (ae hd.1.1.2 (ae hd.1.1.1.2 (ae hd.1.1.1.1.2 (ae hd.1.1.1.1.1.2 (ae hd.1.1.1.1.1.1.2 (ae hd.1.1.1.1.1.1.1.2 (ae hd.1.1.1.1.1.1.1.1.2 (ae hd.1.1.1.1.1.1.1.1.1.2 (ae hd.1.1.1.1.1.1.1.1.1.1.2 (ae hd.1.1.1.1.1.1.1.1.1.1.1.2 (ae hd.1.1.1.1.1.1.1.1.1.1.1.1.2 (ae hd.1.1.1.1.1.1.1.1.1.1.1.1.1.2 (ae hd.1.1.1.1.1.1.1.1.1.1.1.1.1.1.2 (ae hd.1.1.1.1.1.1.1.1.1.1.1.1.1.1.1 h)))))))))))))))
theorem ef{e e1:Nat->AV}(t:Tmp){a:AV}(h:e1=e)(h2:ag e (.tmp t)=a):ag e1 (.tmp t)=a:=by subst h;exact h2
theorem ak{o:Oper}{r r':AV}(h:bm P o e mem r)(hr:r=r'):bm P o e mem r':=hr ▸ h
theorem ai(h:K e mem):kC K Q .normal e mem:=h
theorem b7(h:Q (.exit id) e mem):kC K Q (.exit id) e mem:=h
theorem bO(h:Q .ret e mem):kC K Q .ret e mem:=h
theorem cv(h:Q .normal e mem):mL id Q .normal e mem:=h
theorem de(h:Q .ret e mem):mL id Q .ret e mem:=h
theorem dC(h:Q .normal e mem):mL id Q (.exit id) e mem:=by show(if id=id then _ else _);rw [if_pos rfl];exact h
theorem aL{ops:Array Oper}{l:List Oper}{op:Op}{r:AV}{mem':List Ob}(ho:ej P ⟨d,op,ty,pos,af,g⟩ e mem r mem')(hg:Gd ops ⟨d,op,ty,pos,af,g⟩ e)(hd:dy N d=true)(h:∀ m,m=mem'->AL P N ops l Q (aR e d r) m):AL P N ops (⟨d,op,ty,pos,af,g⟩::l) Q e mem:=F8 ho hg hd (h _ rfl)
theorem yr{G:Prop}{s:Tmp}{b:Bool}(hb:ag e (.tmp s)= .v (.bool b))(ht:ag e (.tmp s)= .v (.bool true)->b=true->G)(hf:ag e (.tmp s)= .v (.bool false)->b=false->G):G:=by
 cases b
 ·exact hf hb rfl
 ·exact ht hb rfl
theorem aA{ops:Array Oper}{l:List Oper}{op:Op}{r:AV}(ho:bm P ⟨d,op,ty,pos,af,g⟩ e mem r)(hg:Gd ops ⟨d,op,ty,pos,af,g⟩ e)(hd:dy N d=true)(h:AL P N ops l Q (aR e d r) mem):AL P N ops (⟨d,op,ty,pos,af,g⟩::l) Q e mem:=F9 ho hg hd h
theorem cZ{ops:Array Oper}{tail l:List Oper}{op:Op}{r:AV}(ho:bm P ⟨d,op,ty,pos,af,g⟩ e mem r)(hg:Gd ops ⟨d,op,ty,pos,af,g⟩ e)(hd:dy N d=true)(h:DS P N ops tail Q mem l (aR e d r)):DS P N ops tail Q mem (⟨d,op,ty,pos,af,g⟩::l) e:=Gg ho hg hd h
theorem ar{ops:Array Oper}{l:List Oper}{op:Op}{r:AV}(ho:bm P ⟨d,op,ty,pos,af,none⟩ e mem r)(hd:dy N d=true)(h:AL P N ops l Q (aR e d r) mem):AL P N ops (⟨d,op,ty,pos,af,none⟩::l) Q e mem:=F9 ho trivial hd h
theorem dr{ops:Array Oper}{tail l:List Oper}{op:Op}{r:AV}(ho:bm P ⟨d,op,ty,pos,af,none⟩ e mem r)(hd:dy N d=true)(h:DS P N ops tail Q mem l (aR e d r)):DS P N ops tail Q mem (⟨d,op,ty,pos,af,none⟩::l) e:=Gg ho trivial hd h
theorem at_{id:Nat}{l:List Oper}(h:AL P N l.toArray l Q e mem)(hd:iC l=true:=by kernel_rfl):AW M P N (.region id l.toArray false) Q e mem:=OJ hd h
theorem au{a b:Nat}(h:Nat.ble a b=true):a<=b:=S8 h
theorem lu{ops:Array Oper}(h:∀ e1,Q .normal e1 mem):AL P N ops [] Q e mem:=jC (h e)
theorem aT{ops:Array Oper}{t0:Tmp}{a0:AV}(h0:ag e (.tmp t0)=a0)(h:∀ e1,ag e1 (.tmp t0)=a0->Q .normal e1 mem):AL P N ops [] Q e mem:=jC (h e h0)
theorem aY{ops:Array Oper}{t0 t1:Tmp}{a0 a1:AV}(h0:ag e (.tmp t0)=a0)(h1:ag e (.tmp t1)=a1)(h:∀ e1,ag e1 (.tmp t0)=a0->ag e1 (.tmp t1)=a1->Q .normal e1 mem):AL P N ops [] Q e mem:=jC (h e h0 h1)
theorem bq{ops:Array Oper}{t0 t1 t2:Tmp}{a0 a1 a2:AV}(h0:ag e (.tmp t0)=a0)(h1:ag e (.tmp t1)=a1)(h2:ag e (.tmp t2)=a2)(h:∀ e1,ag e1 (.tmp t0)=a0->ag e1 (.tmp t1)=a1->ag e1 (.tmp t2)=a2->Q .normal e1 mem):AL P N ops [] Q e mem:=jC (h e h0 h1 h2)
theorem aZ{ops:Array Oper}{t0 t1 t2 t3:Tmp}{a0 a1 a2 a3:AV}(h0:ag e (.tmp t0)=a0)(h1:ag e (.tmp t1)=a1)(h2:ag e (.tmp t2)=a2)(h3:ag e (.tmp t3)=a3)(h:∀ e1,ag e1 (.tmp t0)=a0->ag e1 (.tmp t1)=a1->ag e1 (.tmp t2)=a2->ag e1 (.tmp t3)=a3->Q .normal e1 mem):AL P N ops [] Q e mem:=jC (h e h0 h1 h2 h3)
theorem bV{ops:Array Oper}{t0 t1 t2 t3 t4:Tmp}{a0 a1 a2 a3 a4:AV}(h0:ag e (.tmp t0)=a0)(h1:ag e (.tmp t1)=a1)(h2:ag e (.tmp t2)=a2)(h3:ag e (.tmp t3)=a3)(h4:ag e (.tmp t4)=a4)(h:∀ e1,ag e1 (.tmp t0)=a0->ag e1 (.tmp t1)=a1->ag e1 (.tmp t2)=a2->ag e1 (.tmp t3)=a3->ag e1 (.tmp t4)=a4->Q .normal e1 mem):AL P N ops [] Q e mem:=jC (h e h0 h1 h2 h3 h4)
theorem ei{ops:Array Oper}{t0 t1 t2 t3 t4 t5:Tmp}{a0 a1 a2 a3 a4 a5:AV}(h0:ag e (.tmp t0)=a0)(h1:ag e (.tmp t1)=a1)(h2:ag e (.tmp t2)=a2)(h3:ag e (.tmp t3)=a3)(h4:ag e (.tmp t4)=a4)(h5:ag e (.tmp t5)=a5)(h:∀ e1,ag e1 (.tmp t0)=a0->ag e1 (.tmp t1)=a1->ag e1 (.tmp t2)=a2->ag e1 (.tmp t3)=a3->ag e1 (.tmp t4)=a4->ag e1 (.tmp t5)=a5->Q .normal e1 mem):AL P N ops [] Q e mem:=jC (h e h0 h1 h2 h3 h4 h5)
theorem gZ{ops:Array Oper}{t0 t1 t2 t3 t4 t5 t6:Tmp}{a0 a1 a2 a3 a4 a5 a6:AV}(h0:ag e (.tmp t0)=a0)(h1:ag e (.tmp t1)=a1)(h2:ag e (.tmp t2)=a2)(h3:ag e (.tmp t3)=a3)(h4:ag e (.tmp t4)=a4)(h5:ag e (.tmp t5)=a5)(h6:ag e (.tmp t6)=a6)(h:∀ e1,ag e1 (.tmp t0)=a0->ag e1 (.tmp t1)=a1->ag e1 (.tmp t2)=a2->ag e1 (.tmp t3)=a3->ag e1 (.tmp t4)=a4->ag e1 (.tmp t5)=a5->ag e1 (.tmp t6)=a6->Q .normal e1 mem):AL P N ops [] Q e mem:=jC (h e h0 h1 h2 h3 h4 h5 h6)
theorem vm{ops:Array Oper}{t0 t1 t2 t3 t4 t5 t6 t7:Tmp}{a0 a1 a2 a3 a4 a5 a6 a7:AV}(h0:ag e (.tmp t0)=a0)(h1:ag e (.tmp t1)=a1)(h2:ag e (.tmp t2)=a2)(h3:ag e (.tmp t3)=a3)(h4:ag e (.tmp t4)=a4)(h5:ag e (.tmp t5)=a5)(h6:ag e (.tmp t6)=a6)(h7:ag e (.tmp t7)=a7)(h:∀ e1,ag e1 (.tmp t0)=a0->ag e1 (.tmp t1)=a1->ag e1 (.tmp t2)=a2->ag e1 (.tmp t3)=a3->ag e1 (.tmp t4)=a4->ag e1 (.tmp t5)=a5->ag e1 (.tmp t6)=a6->ag e1 (.tmp t7)=a7->Q .normal e1 mem):AL P N ops [] Q e mem:=jC (h e h0 h1 h2 h3 h4 h5 h6 h7)
theorem rK{ops:Array Oper}{t0 t1 t2 t3 t4 t5 t6 t7 t8:Tmp}{a0 a1 a2 a3 a4 a5 a6 a7 a8:AV}(h0:ag e (.tmp t0)=a0)(h1:ag e (.tmp t1)=a1)(h2:ag e (.tmp t2)=a2)(h3:ag e (.tmp t3)=a3)(h4:ag e (.tmp t4)=a4)(h5:ag e (.tmp t5)=a5)(h6:ag e (.tmp t6)=a6)(h7:ag e (.tmp t7)=a7)(h8:ag e (.tmp t8)=a8)(h:∀ e1,ag e1 (.tmp t0)=a0->ag e1 (.tmp t1)=a1->ag e1 (.tmp t2)=a2->ag e1 (.tmp t3)=a3->ag e1 (.tmp t4)=a4->ag e1 (.tmp t5)=a5->ag e1 (.tmp t6)=a6->ag e1 (.tmp t7)=a7->ag e1 (.tmp t8)=a8->Q .normal e1 mem):AL P N ops [] Q e mem:=jC (h e h0 h1 h2 h3 h4 h5 h6 h7 h8)
theorem ze{ops:Array Oper}{t0 t1 t2 t3 t4 t5 t6 t7 t8 t9 t10:Tmp}{a0 a1 a2 a3 a4 a5 a6 a7 a8 a9 a10:AV}(h0:ag e (.tmp t0)=a0)(h1:ag e (.tmp t1)=a1)(h2:ag e (.tmp t2)=a2)(h3:ag e (.tmp t3)=a3)(h4:ag e (.tmp t4)=a4)(h5:ag e (.tmp t5)=a5)(h6:ag e (.tmp t6)=a6)(h7:ag e (.tmp t7)=a7)(h8:ag e (.tmp t8)=a8)(h9:ag e (.tmp t9)=a9)(h10:ag e (.tmp t10)=a10)(h:∀ e1,ag e1 (.tmp t0)=a0->ag e1 (.tmp t1)=a1->ag e1 (.tmp t2)=a2->ag e1 (.tmp t3)=a3->ag e1 (.tmp t4)=a4->ag e1 (.tmp t5)=a5->ag e1 (.tmp t6)=a6->ag e1 (.tmp t7)=a7->ag e1 (.tmp t8)=a8->ag e1 (.tmp t9)=a9->ag e1 (.tmp t10)=a10->Q .normal e1 mem):AL P N ops [] Q e mem:=jC (h e h0 h1 h2 h3 h4 h5 h6 h7 h8 h9 h10)
theorem zf{ops:Array Oper}{t0 t1 t2 t3 t4 t5 t6 t7 t8 t9 t10 t11:Tmp}{a0 a1 a2 a3 a4 a5 a6 a7 a8 a9 a10 a11:AV}(h0:ag e (.tmp t0)=a0)(h1:ag e (.tmp t1)=a1)(h2:ag e (.tmp t2)=a2)(h3:ag e (.tmp t3)=a3)(h4:ag e (.tmp t4)=a4)(h5:ag e (.tmp t5)=a5)(h6:ag e (.tmp t6)=a6)(h7:ag e (.tmp t7)=a7)(h8:ag e (.tmp t8)=a8)(h9:ag e (.tmp t9)=a9)(h10:ag e (.tmp t10)=a10)(h11:ag e (.tmp t11)=a11)(h:∀ e1,ag e1 (.tmp t0)=a0->ag e1 (.tmp t1)=a1->ag e1 (.tmp t2)=a2->ag e1 (.tmp t3)=a3->ag e1 (.tmp t4)=a4->ag e1 (.tmp t5)=a5->ag e1 (.tmp t6)=a6->ag e1 (.tmp t7)=a7->ag e1 (.tmp t8)=a8->ag e1 (.tmp t9)=a9->ag e1 (.tmp t10)=a10->ag e1 (.tmp t11)=a11->Q .normal e1 mem):AL P N ops [] Q e mem:=jC (h e h0 h1 h2 h3 h4 h5 h6 h7 h8 h9 h10 h11)
theorem Sz{ops:Array Oper}{t0 t1 t2 t3 t4 t5 t6 t7 t8 t9 t10 t11 t12:Tmp}{a0 a1 a2 a3 a4 a5 a6 a7 a8 a9 a10 a11 a12:AV}(h0:ag e (.tmp t0)=a0)(h1:ag e (.tmp t1)=a1)(h2:ag e (.tmp t2)=a2)(h3:ag e (.tmp t3)=a3)(h4:ag e (.tmp t4)=a4)(h5:ag e (.tmp t5)=a5)(h6:ag e (.tmp t6)=a6)(h7:ag e (.tmp t7)=a7)(h8:ag e (.tmp t8)=a8)(h9:ag e (.tmp t9)=a9)(h10:ag e (.tmp t10)=a10)(h11:ag e (.tmp t11)=a11)(h12:ag e (.tmp t12)=a12)(h:∀ e1,ag e1 (.tmp t0)=a0->ag e1 (.tmp t1)=a1->ag e1 (.tmp t2)=a2->ag e1 (.tmp t3)=a3->ag e1 (.tmp t4)=a4->ag e1 (.tmp t5)=a5->ag e1 (.tmp t6)=a6->ag e1 (.tmp t7)=a7->ag e1 (.tmp t8)=a8->ag e1 (.tmp t9)=a9->ag e1 (.tmp t10)=a10->ag e1 (.tmp t11)=a11->ag e1 (.tmp t12)=a12->Q .normal e1 mem):AL P N ops [] Q e mem:=jC (h e h0 h1 h2 h3 h4 h5 h6 h7 h8 h9 h10 h11 h12)
theorem az{ops:Array Oper}{l:List Oper}{op:Op}(hg:Ng ops ⟨d,op,ty,pos,af,g⟩ e)(hd:dy N d=true)(h:AL P N ops l Q (aR e d (.v undef)) mem):AL P N ops (⟨d,op,ty,pos,af,g⟩::l) Q e mem:=OH hg hd h
theorem cQ{ops:Array Oper}{tail l:List Oper}{op:Op}(hg:Ng ops ⟨d,op,ty,pos,af,g⟩ e)(hd:dy N d=true)(h:DS P N ops tail Q mem l (aR e d (.v undef))):DS P N ops tail Q mem (⟨d,op,ty,pos,af,g⟩::l) e:=OL hg hd h
theorem bM{ops:Array Oper}{l:List Oper}{s:Tmp}{b:Bool}(hb:ag e (.tmp s)= .v (.bool b))(ht:ag e (.tmp s)= .v (.bool true)->b=true->AL P N ops l Q e mem)(hf:ag e (.tmp s)= .v (.bool false)->b=false->AL P N ops l Q e mem):AL P N ops l Q e mem:=yr hb ht hf
theorem kq{ops:Array Oper}{tail l:List Oper}{s:Tmp}{b:Bool}(hb:ag e (.tmp s)= .v (.bool b))(ht:ag e (.tmp s)= .v (.bool true)->b=true->DS P N ops tail Q mem l e)(hf:ag e (.tmp s)= .v (.bool false)->b=false->DS P N ops tail Q mem l e):DS P N ops tail Q mem l e:=yr hb ht hf
theorem aW{c:Operand}{x y:Code}{b:Bool}(hc:ag e c= .v (.bool b))(ht:b=true->AW M P N x Q e mem)(hf:b=false->AW M P N y Q e mem):AW M P N (.cond c x y) Q e mem:=xp hc ht hf
section
variable {m:List Ob} {o o0:Ob} {i j n:Nat} {q:Option Ob}
theorem bk(h:m=mem.set j o)(hj:mem[j]? =some o0):m[j]? =some o:=by subst h;rw [TC (S9.1 hj).1]
theorem ao(h:m=mem.set j o)(hi:mem[i]? =q)(hij:i≠j):m[i]? =q:=by subst h;rw [Tz (Ne.symm hij)];exact hi
theorem bc(h:m=mem.set j o)(hl:mem.length=n):m.length=n:=by subst h;simpa using hl
theorem bH(h:m=mem++ [o])(hl:mem.length=n):m[n]? =some o:=by subst h;subst hl;simp
theorem aJ(h:m=mem++ [o])(hi:mem[i]? =some o0):m[i]? =some o0:=by subst h;rw [Tt (S9.1 hi).1];exact hi
theorem bG(h:m=mem++ [o])(hl:mem.length=n):m.length=n+1:=by subst h;simp [hl]
theorem pE(h:m=mem.set j .gone ++ [o])(hl:mem.length=n):m[n]? =some o:=by subst h;subst hl;simp
theorem fU(h:m=mem.set j .gone ++ [o])(hi:mem[i]? =some o0)(hij:i≠j):m[i]? =some o0:=by
 subst h;rw [Tt (by have:=(S9.1 hi).1;simpa using this),Tz (Ne.symm hij)];exact hi
theorem oN(h:m=mem.set j .gone ++ [o])(hl:mem.length=n):m.length=n+1:=by subst h;simp [hl]
end
theorem bt{p:Prop}[Decidable p](h:decide p=true):p:=of_decide_eq_true h
theorem bf{p:Prop}[Decidable p](h:decide p=false):¬ p:=of_decide_eq_false h
theorem dR{p:Prop}[Decidable p](h:(!decide p)=true):¬ p:=by simpa using h
theorem dG{p:Prop}[Decidable p](h:(!decide p)=false):p:=by simpa using h
theorem cV{b:Bool}(h:(!b)=true):b=false:=by simpa using h
theorem dj{b:Bool}(h:(!b)=false):b=true:=by simpa using h
theorem cJ{a b:Bool}(h:a=true↔b=true):AV.v (.bool a)=AV.v (.bool b):=by rw [UC.2 h]
def bZ(P:Program)(S i off:Nat)(row:Bool)(n:Nat):Prop:=(match P.underlying S with|some (.struct fs)=>(fs[i]?).bind λf=>if f.offset=off then(match P.underlying f.type with|some d=>some (d.isRow,(P.info? f.type).map (·.size))|none=>none)else none|_=>none)=some (row,some n)
theorem bZ.get{S i off n:Nat}{row:Bool}(h:bZ P S i off row n):∃ fs f,P.underlying S=some (.struct fs)/\fs[i]? =some f/\f.offset=off/\aN P f.type row n:=by
 unfold bZ at h
 split at h
 ·rename_i fs hu
  cases hf:fs[i]? with
  | none=>rw [hf]at h;cases h
  | some f=>
   rw [hf]at h;simp only [Option.bind_some]at h
   split at h
   ·rename_i ho
    refine⟨fs,f,hu,hf,ho,?_⟩;unfold aN
    split at h
    ·rename_i dd hd
     rw [hd];simp only [Option.some.injEq,Prod.mk.injEq]at h;exact⟨congrArg some h.1,h.2⟩
    ·cases h
   ·cases h
 ·cases h
theorem bR{cells:List AV}{i n off:Nat}{row:Bool}(hF:bZ P t i off row n)(h0:(n != 0)=true)(hx:ag e x= .ref cells):bm P ⟨d,.fieldAddr t x i,ty,pos,af,g⟩ e mem (.ref (cells.drop off)):=
 let ⟨_,_,h1,h2,h3,h4⟩:=hF.get;GW hx h1 h2 h3 h4 (by simpa using h0)
theorem aB{j o i n off:Nat}{row:Bool}(hF:bZ P t i off row n)(h0:(n != 0)=true)(hx:ag e x= .ptr j o):bm P ⟨d,.fieldAddr t x i,ty,pos,af,g⟩ e mem (.ptr j (o+off)):=
 let ⟨_,_,h1,h2,h3,h4⟩:=hF.get;GX hx h1 h2 h3 h4 (by simpa using h0)
theorem bw{n:Nat}{row:Bool}{cells:List AV}(ht:aN P t row n)(h1:(row||n==1)=true)(hx:ag e x= .ref cells)(hn:n<=cells.length):bm P ⟨d,.load t x,ty,pos,af,g⟩ e mem (fE row n cells):=
 HF hx ht hn (by simpa using h1)
theorem aC{j off n:Nat}{row:Bool}{T:TypeId}{cells:List AV}(ht:aN P t row n)(h1:(row||n==1)=true)(hm:mem[j]? =some (.box T cells))(hx:ag e x= .ptr j off)(hn:off+n<=cells.length):bm P ⟨d,.load t x,ty,pos,af,g⟩ e mem (fE row n (cells.drop off)):=
 HG hx hm ht hn (by simpa using h1)
theorem mz{j i n k:Nat}{row:Bool}{T:TypeId}{els:List (List AV)}{el:List AV}(ht:aN P t row n)(h1:(row||n==1)=true)(hm:mem[j]? =some (.row T k els))(hx:ag e x= .ptr j (i*k))(hn:n<=k)(hel:els[i]? =some el):bm P ⟨d,.load t x,ty,pos,af,g⟩ e mem (fE row n el):=
 H8 hx hm rfl hel ht hn (by simpa using h1)
def bI(P:Program)(t eT k bytes:Nat)(zv:Value):Prop:=P.underlying t=some (.slice eT)/\(P.info? eT).map (λi=>(i.zero,i.size,i.bytes))=some (some zv,k,bytes)/\(match P.underlying eT with|some d=>some d.isRow|none=>none).isSome =true
theorem bI.info{eT k bytes:Nat}{zv:Value}(h:bI P t eT k bytes zv):∃ i,P.info? eT=some i/\i.zero=some zv/\i.size=k/\i.bytes=bytes:=by
 have:=h.2.1;cases hi:P.info? eT with
 | none=>rw [hi]at this;cases this
 | some i=>rw [hi]at this;simp only [Option.map_some,Option.some.injEq,Prod.mk.injEq]at this;exact⟨i,rfl,this⟩
theorem bI.vi{eT k bytes:Nat}{zv:Value}(h:bI P t eT k bytes zv):∃ row,aN P eT row k:=by
 obtain⟨i,h1,h2,h3,h4⟩:=h.info;have:=h.2.2;cases hd:(match P.underlying eT with|some d=>some d.isRow|none=>none)with
 | none=>rw [hd]at this;cases this
 | some row=>exact⟨row,hd,by rw [h1];simp [h3]⟩
theorem cr{els:List (List AV)}{el:List AV}{k bytes eT:Nat}{zv:Value}{i:Int}{kk:IntKind}(ht:bI P t eT k bytes zv)(hx:ag e x= .row k els)(hy:ag e y= .v (.int kk i))(h0:0<=i)(hel:els[i.toNat]? =some el):bm P ⟨d,.indexAddr t x y,ty,pos,af,g⟩ e mem (.ref el):=
 let ⟨_,h⟩:=ht.vi;Ho hx hy ht.1 h h0 hel
theorem jk{j:Nat}{els:List (List AV)}{k bytes eT T:Nat}{zv:Value}{i:Int}{kk:IntKind}(ht:bI P t eT k bytes zv)(hm:mem[j]? =some (.row T k els))(hx:ag e x= .own j)(hy:ag e y= .v (.int kk i))(h0:0<=i)(h1:i<els.length):bm P ⟨d,.indexAddr t x y,ty,pos,af,g⟩ e mem (.ptr j (i.toNat*k)):=
 let ⟨_,h⟩:=ht.vi;GY hx hm hy ht.1 h h0 h1
theorem k6{j k bytes eT:Nat}{zv:Value}{els els2:List (List AV)}(ht:bI P t eT k bytes zv)(hk:(zv.cells.size==k&&decide (0<k)&&decide (0<bytes))=true)(hm:mem[j]? =some (.row eT k els))(hx:ag e x= .own j)(hy:ag e y= .row k els2)(hone:els2.flatten.all jG=true)(hb:(els.length+els2.length)*bytes<=140737488355328):
 pP P ⟨d,.call ⟨.builtin .append,#[x,y],#[t,t]⟩,ty,pos,af,g⟩ e mem j (.row eT k (els++els2)) (λj=>.own j):=by
 obtain⟨i,h1,h2,h3,h4⟩:=ht.info;simp only [Ti,beq_iff_eq,decide_eq_true_eq]at hk;exact I6 hx hm hy hone ht.1 h1 h2 h3 h4 hk.1.1 hk.1.2 hk.2 hb
theorem nP{j m k bytes eT:Nat}{zv:Value}{els els2:List (List AV)}(ht:bI P t eT k bytes zv)(hk:(zv.cells.size==k&&decide (0<k)&&decide (0<bytes))=true)(hl:mem.length=m)(hm:mem[j]? =some (.row eT k els))(hx:ag e x= .own j)(hy:ag e y= .row k els2)(hone:els2.flatten.all jG=true)(hb:(els.length+els2.length)*bytes<=140737488355328):
 ej P ⟨d,.call ⟨.builtin .append,#[x,y],#[t,t]⟩,ty,pos,af,g⟩ e mem (.own m) (mem.set j .gone ++ [.row eT k (els++els2)]):=Gf (h:=λj=>.own j) (k6 ht hk hm hx hy hone hb) hl
theorem tw{k bytes eT:Nat}{zv:Value}{els2:List (List AV)}(ht:bI P t eT k bytes zv)(hk:(zv.cells.size==k&&decide (0<k)&&decide (0<bytes))=true)(hx:ag e x= .v (.slice none 0 0))(hy:ag e y= .row k els2)(hone:els2.flatten.all jG=true)(hb:els2.length*bytes<=140737488355328):
 j4 P ⟨d,.call ⟨.builtin .append,#[x,y],#[t,t]⟩,ty,pos,af,g⟩ e mem (.row eT k els2) (λj=>.own j):=by
 obtain⟨i,h1,h2,h3,h4⟩:=ht.info;simp only [Ti,beq_iff_eq,decide_eq_true_eq]at hk;exact Ib hx hy hone ht.1 h1 h2 h3 h4 hk.1.1 hk.1.2 hk.2 hb
theorem Rz{k bytes eT:Nat}{zv:Value}{zs:List AV}{n:Int}{kl:IntKind}(ht:bI P t eT k bytes zv)(hk:(zv.cells.size==k&&decide (0<bytes))=true)(hzs:zv.cells.toList.map AV.v=zs)(hx:ag e x= .v (.int kl n))(hy:ag e y= .v (.int kl n))(h0:0<=n)(hb:bytes*n.toNat<=281474976710656):
 j4 P ⟨d,.makeSlice t x y,ty,pos,af,g⟩ e mem (.row eT k (List.replicate n.toNat zs)) (λj=>.own j):=by
 obtain⟨i,h1,h2,h3,h4⟩:=ht.info;simp only [Ti,beq_iff_eq,decide_eq_true_eq]at hk;exact ON hx hy h0 ht.1 h1 h2 h3 h4 hzs hk.1 hk.2 hb
theorem RA{m k bytes eT:Nat}{zv:Value}{zs:List AV}{n:Int}{kl:IntKind}(ht:bI P t eT k bytes zv)(hk:(zv.cells.size==k&&decide (0<bytes))=true)(hzs:zv.cells.toList.map AV.v=zs)(hl:mem.length=m)(hx:ag e x= .v (.int kl n))(hy:ag e y= .v (.int kl n))(h0:0<=n)(hb:bytes*n.toNat<=281474976710656):
 ej P ⟨d,.makeSlice t x y,ty,pos,af,g⟩ e mem (.own m) (mem++ [.row eT k (List.replicate n.toNat zs)]):=pL (h:=λj=>.own j) (Rz ht hk hzs hx hy h0 hb) hl
theorem dT{ps:Array (Nat×Operand)}{pl:List (Nat×AV)}{n k bytes eT:Nat}{zv:Value}{els:List (List AV)}(ht:bI P t eT k bytes zv)(hps:gY e ps.toList=pl)(hn:pl.length=n)(hsm:(decide (n*k<=2^24)&&decide (0<n*k))=true)(hl:kE k 0 pl=some els)(hro:cm.roL els.flatten=true):
 bm P ⟨d,.buildSlice t n ps,ty,pos,af,g⟩ e mem (.row k els):=by
 obtain⟨i,h1,h2,h3,h4⟩:=ht.info;simp only [Ti,decide_eq_true_eq]at hsm;exact Ha hps ht.1 h1 h3 h2 hn (by omega) (by omega) hl hro
theorem yt{ps:Array (Nat×Operand)}{pl:List (Nat×AV)}{n k bytes eT:Nat}{zv:Value}{els:List (List AV)}(ht:bI P t eT k bytes zv)(hps:gY e ps.toList=pl)(hn:pl.length=n)(hsm:(decide (n*k<=2^24)&&decide (0<n*k))=true)(hel:kE k 0 pl=some els)(hro:cm.roL els.flatten=true):
 j4 P ⟨d,.buildSlice t n ps,ty,pos,af,g⟩ e mem (.row eT k els) (λj=>.own j):=by
 obtain⟨ie,hie,hz,hk,_⟩:=ht.info;simp only [Ti,decide_eq_true_eq]at hsm;intro pb w0 θ w ev hs h;subst hps;have hpl:ps.toList.length=n:=by rw [<- hn];simp [gY]
 obtain⟨cs',h1,h2,h3,h4⟩:=wH (θ:=θ) (pr:=aM pb θ mem) (w:=w) (ev:=ev) (k:=k) (n:=0) (cs:=(Array.range (n*k)).map (zv.cells[· %zv.cells.size]!)) (λq hq=>h q.2 (by
  simp only [Op.operands,Vf,TW];exact⟨q,hq,rfl⟩)) (by rw [Tv,hpl];simp) hel
 have hrun:=run_buildSlice (P:=P) w t eT n (ps.map λ(i,x)=>(i,aO ev x)) cs' ie zv ht.1 hie hz (by rw [hk];omega) (by rw [hk];omega) (by
  rw [hk,sr];simpa using h1)
 have e1:execOp (aO ev) ⟨d,.buildSlice t n ps,ty,pos,af,g⟩=(do pure (.value (<- Instr.buildSlice t n (ps.map λ(i,x)=>(i,aO ev x))))):=rfl;rw [e1,Sem.run_bind,hrun];obtain⟨hl1,hl2⟩:=wG hel;have hlen:els.length=n:=by rw [hl1];exact hn
 have hfl:=fm hl2;have hsz:cs'.size=n*k:=by rw [h2];simp
 have hmax:n<=maxLen:=by
  have:0<k:=Nat.pos_of_ne_zero (λh=>by rw [h]at hsm;simp at hsm);have:=Vd n this;simp only [maxLen];omega
 refine⟨(Ext.refl w).alloc _,(λb hb=>by have hb':some w.heap.size=some b:=hb;cases hb';exact Tf _),λθ' pr k1=>?_,λθ' pr j hj=>.own j _ hj rfl⟩;refine⟨cs'.toList,by rw [hlen];exact World.ownsRow_lit w cs' n (TO _) hmax hsz,(λb hb=>by have hb':some w.heap.size=some b:=hb;cases hb';exact .inl hs.base),hl2,λi a u ha hu=>?_⟩;have:=h4 i a u ha (by rw [Nat.zero_mul,Tv];exact hu);exact(k1 a u this).gW (ga hro ha)
theorem QA{ps:Array (Nat×Operand)}{pl:List (Nat×AV)}{n k bytes eT m:Nat}{zv:Value}{els:List (List AV)}(ht:bI P t eT k bytes zv)(hl:mem.length=m)(hps:gY e ps.toList=pl)(hn:pl.length=n)(hsm:(decide (n*k<=2^24)&&decide (0<n*k))=true)(hel:kE k 0 pl=some els)(hro:cm.roL els.flatten=true):
 ej P ⟨d,.buildSlice t n ps,ty,pos,af,g⟩ e mem (.own m) (mem++ [.row eT k els]):=pL (h:=λj=>.own j) (yt ht hps hn hsm hel hro) hl
theorem R1.set{θ:List Value}{pr:Nat->Prop}{w:World}{s:Tmp}{r:AV}{v:Nat->Value}(h:∀ t,R1 θ pr w (e t) (v t))(hr:R1 θ pr w r (v s)):∀ t,R1 θ pr w (aR e (some s) r t) (v t):=λt=>by
 by_cases ht:t=s
 ·subst ht;simp only [aR,if_true];exact hr
 ·simp only [aR,if_neg ht];exact h t
theorem Bn{c:Code}{s m:Nat}(eT k:Nat)(hs:ag e (.tmp s)= .v (.slice none 0 0))(hl:mem.length=m)(h:∀ m1 e1,m1=mem++ [.row eT k []]->e1=aR e (some s) (.own m)->AW M P N c Q e1 m1):AW M P N c Q e mem:=by
 refine λF n hF pb w0 θ a w hf=>?_
 subst hl;have st:Step pb w0 θ mem w (θ++ [.slice none 0 0]) (mem++ [.row eT k []]) w:=Step.new hf.sim (Ext.refl w) _ _ (λb hb=>by cases hb) λθ' pr _=>
  ⟨[],World.ownsRow_nil w _ eT k,(λb hb=>by cases hb),by simp,λi a u h=>by simp at h⟩
 refine wpIn_mono (h _ _ rfl rfl F n hF pb w0 (θ++ [.slice none 0 0]) a w ⟨hf.size,hf.dfr.step st,R1.set (λt=>st.keep _ _ (hf.sl t)) ?_,st.sim⟩) λ_ _ _ hq=>hq.after st
 have:=hf.sl s;rw [show e s= .v (.slice none 0 0)from hs]at this;rw [this.val];exact .own _ _ (Qy hf.sim _) rfl
end
theorem D9{n:Nat}{l:List AV}:fE true n l= .agg (l.take n):=rfl
theorem Ea{n:Nat}{l:List AV}:fE false n l=l.headD .any :=rfl
def eB(P:Program)(t:TypeId):Array Field:=match P.underlying t with|some (.struct fs)=>fs|_=> #[]
theorem eV{mem:List Ob}{n:Nat}{l:List AV}{r:AV}(h:Vw mem (.agg (l.take n)) r):Vw mem (fE true n l) r:=h
theorem rB{mem:List Ob}{a b:AV}{l:List AV}(h:Vw mem a b):Vw mem (fE false 1 (a::l)) b:=h
theorem yu{mem:List Ob}{j off:Nat}{T:TypeId}{cells cells':List AV}(hm:mem[j]? =some (.box T cells))(h:kc mem cells cells'):Vw mem (.ptr j off) (.ref (cells'.drop off)):=.ptr j off T cells cells' hm h.spec.1 h.spec.2
def GB(P:Program)(t len k:Nat):Prop:=(match P.underlying t with|some (.array n _)=>some n|_=>none)=some len/\(match P.underlying t with|some (.array _ eT)=>(P.info? eT).map (·.size)|_=>none)=some k
theorem uw{P:Program}{e:Nat->AV}{mem:List Ob}{d:Option Tmp}{ty t:TypeId}{pos:String}{af:Array Edge}{g:Option (Nat×Bool)}{x y:Operand}{j off len k:Nat}{i:Int}{kk:IntKind}(ht:GB P t len k)(hx:ag e x= .ptr j off)(hy:ag e y= .v (.int kk i))(h:(decide (0<=i)&&decide (i<len))=true):
 bm P ⟨d,.indexAddr t x y,ty,pos,af,g⟩ e mem (.ptr j (off+i.toNat*k)):=by
 intro pb w0 θ w ev hs h';have h1:=h' x (by simp [Op.operands]);have h2:=h' y (by simp [Op.operands]);rw [hx]at h1;rw [hy]at h2;obtain⟨b,v,hθ,hbase,hp⟩:=h1.fC;simp only [Ti,decide_eq_true_eq]at h;rw [vD hp h2.val,Sem.run_bind];obtain⟨q1,q2⟩:=ht;cases hu:P.underlying t with
 | none=>rw [hu]at q1;cases q1
 | some dd=>
  rw [hu]at q1 q2;cases dd with
  | array n eT=>
   simp only [Option.some.injEq]at q1 q2;subst q1;have hsz:∀ w,(Go.sizeOf eT).run P w= .ok k w:=λw=>by
    cases hq:P.info? eT with
    | none=>rw [hq]at q2;cases q2
    | some i=>rw [hq]at q2;simp at q2;simp [Go.sizeOf,typeInfo,hq,q2]
   have hr:(Instr.indexAt t (.pointer (some ⟨b,off,none⟩)) (.int kk i)).run P w= .ok (.pointer (some ⟨b,off+i.toNat*k,none⟩)) w:=by
    unfold Instr.indexAt;simp [asIntOf,run_underlying hu,Instr.sureAddr,h.1,h.2,hsz,Sem.run_bind,rb]
   rw [hr];exact⟨.ptr j _ b v hθ hbase,Ext.refl w⟩
  | _=>cases q1
def iE(n:Int):List AV:= [.v (.int .i64 n)]
def bE(n:UInt8):List AV:= [.v (.int .u8 n.toNat)]
theorem fg{α:Type}[Inhabited α]{f:α->List AV}{l:List α}{k:Nat}(h:k<l.length):(l.map f)[((k:Int)).toNat]? =some (f (l.getD k default)):=by
 simp [h,Ta]
theorem cP{α:Type}[Inhabited α]{f:α->List AV}{l:List α}{i:Int}(h:i.toNat<l.length):(l.map f)[i.toNat]? =some (f (l.getD i.toNat default)):=by
 simp [h,Ta]
theorem S5{α:Type}[Inhabited α]{f:α->List AV}{l:List α}{k:Nat}(h:k<l.length):(l.map f)[k]? =some (f (l.getD k default)):=by
 simp [h,Ta]
theorem xu{s:ByteArray}{i:Nat}(h:i<s.size):s[i]? =some (s.data.toList.getD i default):=by
 have h':i<s.data.size:=h;rw [getElem?_pos s i h];simp only [Ta,Array.getElem?_toList];rw [Up h'];rfl
theorem aP{α:Type}(f:α->List AV)(l l':List α):l.map f++l'.map f=(l++l').map f:=Ux.symm
theorem cI{mem:List Ob}{o:Ob}{j n:Nat}(h:mem[j]? =some o)(hl:mem.length=n):j<n:=by subst hl;exact(S9.1 h).1
theorem cy(xs:List Int)(i:Nat)(n:Int):(xs.map iE).set i [.v (.int .i64 n)]=(xs.set i n).map iE:=by simp [List.map_set,iE]
theorem cz(k:Nat):List.replicate k [AV.v (.int .i64 0)]=(List.replicate k (0:Int)).map iE:=by simp [iE]
theorem aV(n:Int): [[AV.v (.int .i64 n)]]= [n].map iE:=by simp [iE]
end Go.Proofs.YtbmlgmblfboigaaGreatDoor
