/- Lemmas for the statement. -/
import Derived.Test.YtfoaiidcfkmneaaGreatDoorA8
namespace Go.Proofs.YtfoaiidcfkmneaaGreatDoor
open Go Go.RowKit
set_option linter.unusedVariables false
set_option linter.unusedSimpArgs false
section
variable {M:Mode} {P:Program} {N:Nat} {Q:AQ} {e:Nat->AV} {mem:List Ob} {d:Option Tmp} {ty t t2:TypeId} {pos:String} {af:Array Edge} {g:Option (Nat×Bool)} {x y z:Operand} {K:(Nat->AV)->List Ob->Prop} {id:Nat}
theorem aw{v:Value}:al e (.const v)= .v v:=rfl
theorem Aa{f:FuncId}:al e (.func f)= .v (.func (.func f) #[] #[]):=rfl
theorem u2{e:Nat->AV}{t d0 d1:Tmp}{r0 r1 a:AV}(hd:(t==d0||t==d1)=false)(h:al e (.tmp t)=a):al (aT (aT e (some d0) r0) (some d1) r1) (.tmp t)=a:=by
 simp only [UN]at hd;exact eW hd.2 (eW hd.1 h)
theorem u4{e:Nat->AV}{t d0 d1 d2 d3:Tmp}{r0 r1 r2 r3 a:AV}(hd:(t==d0||t==d1||t==d2||t==d3)=false)(h:al e (.tmp t)=a):al (aT (aT (aT (aT e (some d0) r0) (some d1) r1) (some d2) r2) (some d3) r3) (.tmp t)=a:=by
 simp only [UN]at hd;exact eW hd.2 (eW hd.1.2 (eW hd.1.1.2 (eW hd.1.1.1 h)))
theorem u8{e:Nat->AV}{t d0 d1 d2 d3 d4 d5 d6 d7:Tmp}{r0 r1 r2 r3 r4 r5 r6 r7 a:AV}(hd:(t==d0||t==d1||t==d2||t==d3||t==d4||t==d5||t==d6||t==d7)=false)(h:al e (.tmp t)=a):al (aT (aT (aT (aT (aT (aT (aT (aT e (some d0) r0) (some d1) r1) (some d2) r2) (some d3) r3) (some d4) r4) (some d5) r5) (some d6) r6) (some d7) r7) (.tmp t)=a:=by
 simp only [UN]at hd;exact eW hd.2 (eW hd.1.2 (eW hd.1.1.2 (eW hd.1.1.1.2 (eW hd.1.1.1.1.2 (eW hd.1.1.1.1.1.2 (eW hd.1.1.1.1.1.1.2 (eW hd.1.1.1.1.1.1.1 h)))))))
theorem u16{e:Nat->AV}{t d0 d1 d2 d3 d4 d5 d6 d7 d8 d9 d10 d11 d12 d13 d14 d15:Tmp}{r0 r1 r2 r3 r4 r5 r6 r7 r8 r9 r10 r11 r12 r13 r14 r15 a:AV}(hd:(t==d0||t==d1||t==d2||t==d3||t==d4||t==d5||t==d6||t==d7||t==d8||t==d9||t==d10||t==d11||t==d12||t==d13||t==d14||t==d15)=false)(h:al e (.tmp t)=a):al (aT (aT (aT (aT (aT (aT (aT (aT (aT (aT (aT (aT (aT (aT (aT (aT e (some d0) r0) (some d1) r1) (some d2) r2) (some d3) r3) (some d4) r4) (some d5) r5) (some d6) r6) (some d7) r7) (some d8) r8) (some d9) r9) (some d10) r10) (some d11) r11) (some d12) r12) (some d13) r13) (some d14) r14) (some d15) r15) (.tmp t)=a:=by
 simp only [UN]at hd;exact eW hd.2 (eW hd.1.2 (eW hd.1.1.2 (eW hd.1.1.1.2 (eW hd.1.1.1.1.2 (eW hd.1.1.1.1.1.2 (eW hd.1.1.1.1.1.1.2 (eW hd.1.1.1.1.1.1.1.2 (eW hd.1.1.1.1.1.1.1.1.2 (eW hd.1.1.1.1.1.1.1.1.1.2 (eW hd.1.1.1.1.1.1.1.1.1.1.2 (eW hd.1.1.1.1.1.1.1.1.1.1.1.2 (eW hd.1.1.1.1.1.1.1.1.1.1.1.1.2 (eW hd.1.1.1.1.1.1.1.1.1.1.1.1.1.2 (eW hd.1.1.1.1.1.1.1.1.1.1.1.1.1.1.2 (eW hd.1.1.1.1.1.1.1.1.1.1.1.1.1.1.1 h)))))))))))))))
theorem ef{e e1:Nat->AV}(t:Tmp){a:AV}(h:e1=e)(h2:al e (.tmp t)=a):al e1 (.tmp t)=a:=by subst h;exact h2
theorem az{o:Oper}{r r':AV}(h:bH P o e mem r)(hr:r=r'):bH P o e mem r':=hr ▸ h
theorem ao(h:K e mem):lM K Q .normal e mem:=h
theorem cw(h:Q (.exit id) e mem):lM K Q (.exit id) e mem:=h
theorem bw(h:Q .ret e mem):lM K Q .ret e mem:=h
theorem cG(h:Q .normal e mem):oa id Q .normal e mem:=h
theorem cD(h:Q .ret e mem):oa id Q .ret e mem:=h
theorem dI(h:Q .normal e mem):oa id Q (.exit id) e mem:=by show(if id=id then _ else _);rw [if_pos rfl];exact h
theorem aM{ops:Array Oper}{l:List Oper}{op:Op}{r:AV}{mem':List Ob}(ho:fq P ⟨d,op,ty,pos,af,g⟩ e mem r mem')(hg:Gd ops ⟨d,op,ty,pos,af,g⟩ e)(hd:dV N d=true)(h:∀ m,m=mem'->AL P N ops l Q (aT e d r) m):AL P N ops (⟨d,op,ty,pos,af,g⟩::l) Q e mem:=GO ho hg hd (h _ rfl)
theorem zw{G:Prop}{s:Tmp}{b:Bool}(hb:al e (.tmp s)= .v (.bool b))(ht:al e (.tmp s)= .v (.bool true)->b=true->G)(hf:al e (.tmp s)= .v (.bool false)->b=false->G):G:=by
 cases b
 ·exact hf hb rfl
 ·exact ht hb rfl
theorem aF{ops:Array Oper}{l:List Oper}{op:Op}{r:AV}(ho:bH P ⟨d,op,ty,pos,af,g⟩ e mem r)(hg:Gd ops ⟨d,op,ty,pos,af,g⟩ e)(hd:dV N d=true)(h:AL P N ops l Q (aT e d r) mem):AL P N ops (⟨d,op,ty,pos,af,g⟩::l) Q e mem:=GP ho hg hd h
theorem dm{ops:Array Oper}{tail l:List Oper}{op:Op}{r:AV}(ho:bH P ⟨d,op,ty,pos,af,g⟩ e mem r)(hg:Gd ops ⟨d,op,ty,pos,af,g⟩ e)(hd:dV N d=true)(h:DS P N ops tail Q mem l (aT e d r)):DS P N ops tail Q mem (⟨d,op,ty,pos,af,g⟩::l) e:=GR ho hg hd h
theorem ar{ops:Array Oper}{l:List Oper}{op:Op}{r:AV}(ho:bH P ⟨d,op,ty,pos,af,none⟩ e mem r)(hd:dV N d=true)(h:AL P N ops l Q (aT e d r) mem):AL P N ops (⟨d,op,ty,pos,af,none⟩::l) Q e mem:=GP ho trivial hd h
theorem dr{ops:Array Oper}{tail l:List Oper}{op:Op}{r:AV}(ho:bH P ⟨d,op,ty,pos,af,none⟩ e mem r)(hd:dV N d=true)(h:DS P N ops tail Q mem l (aT e d r)):DS P N ops tail Q mem (⟨d,op,ty,pos,af,none⟩::l) e:=GR ho trivial hd h
theorem at_{id:Nat}{l:List Oper}(h:AL P N l.toArray l Q e mem)(hd:jr l=true:=by kernel_rfl):AW M P N (.region id l.toArray false) Q e mem:=OA hd h
theorem Ho{a b:Nat}(h:Nat.ble a b=true):a<=b:=Nat.le_of_ble_eq_true h
theorem pX{ops:Array Oper}(h:∀ e1,Q .normal e1 mem):AL P N ops [] Q e mem:=j7 (h e)
theorem bn{ops:Array Oper}{t0:Tmp}{a0:AV}(h0:al e (.tmp t0)=a0)(h:∀ e1,al e1 (.tmp t0)=a0->Q .normal e1 mem):AL P N ops [] Q e mem:=j7 (h e h0)
theorem bD{ops:Array Oper}{t0 t1:Tmp}{a0 a1:AV}(h0:al e (.tmp t0)=a0)(h1:al e (.tmp t1)=a1)(h:∀ e1,al e1 (.tmp t0)=a0->al e1 (.tmp t1)=a1->Q .normal e1 mem):AL P N ops [] Q e mem:=j7 (h e h0 h1)
theorem bB{ops:Array Oper}{t0 t1 t2:Tmp}{a0 a1 a2:AV}(h0:al e (.tmp t0)=a0)(h1:al e (.tmp t1)=a1)(h2:al e (.tmp t2)=a2)(h:∀ e1,al e1 (.tmp t0)=a0->al e1 (.tmp t1)=a1->al e1 (.tmp t2)=a2->Q .normal e1 mem):AL P N ops [] Q e mem:=j7 (h e h0 h1 h2)
theorem bu{ops:Array Oper}{t0 t1 t2 t3:Tmp}{a0 a1 a2 a3:AV}(h0:al e (.tmp t0)=a0)(h1:al e (.tmp t1)=a1)(h2:al e (.tmp t2)=a2)(h3:al e (.tmp t3)=a3)(h:∀ e1,al e1 (.tmp t0)=a0->al e1 (.tmp t1)=a1->al e1 (.tmp t2)=a2->al e1 (.tmp t3)=a3->Q .normal e1 mem):AL P N ops [] Q e mem:=j7 (h e h0 h1 h2 h3)
theorem ck{ops:Array Oper}{t0 t1 t2 t3 t4:Tmp}{a0 a1 a2 a3 a4:AV}(h0:al e (.tmp t0)=a0)(h1:al e (.tmp t1)=a1)(h2:al e (.tmp t2)=a2)(h3:al e (.tmp t3)=a3)(h4:al e (.tmp t4)=a4)(h:∀ e1,al e1 (.tmp t0)=a0->al e1 (.tmp t1)=a1->al e1 (.tmp t2)=a2->al e1 (.tmp t3)=a3->al e1 (.tmp t4)=a4->Q .normal e1 mem):AL P N ops [] Q e mem:=j7 (h e h0 h1 h2 h3 h4)
theorem dH{ops:Array Oper}{t0 t1 t2 t3 t4 t5:Tmp}{a0 a1 a2 a3 a4 a5:AV}(h0:al e (.tmp t0)=a0)(h1:al e (.tmp t1)=a1)(h2:al e (.tmp t2)=a2)(h3:al e (.tmp t3)=a3)(h4:al e (.tmp t4)=a4)(h5:al e (.tmp t5)=a5)(h:∀ e1,al e1 (.tmp t0)=a0->al e1 (.tmp t1)=a1->al e1 (.tmp t2)=a2->al e1 (.tmp t3)=a3->al e1 (.tmp t4)=a4->al e1 (.tmp t5)=a5->Q .normal e1 mem):AL P N ops [] Q e mem:=j7 (h e h0 h1 h2 h3 h4 h5)
theorem fe{ops:Array Oper}{t0 t1 t2 t3 t4 t5 t6:Tmp}{a0 a1 a2 a3 a4 a5 a6:AV}(h0:al e (.tmp t0)=a0)(h1:al e (.tmp t1)=a1)(h2:al e (.tmp t2)=a2)(h3:al e (.tmp t3)=a3)(h4:al e (.tmp t4)=a4)(h5:al e (.tmp t5)=a5)(h6:al e (.tmp t6)=a6)(h:∀ e1,al e1 (.tmp t0)=a0->al e1 (.tmp t1)=a1->al e1 (.tmp t2)=a2->al e1 (.tmp t3)=a3->al e1 (.tmp t4)=a4->al e1 (.tmp t5)=a5->al e1 (.tmp t6)=a6->Q .normal e1 mem):AL P N ops [] Q e mem:=j7 (h e h0 h1 h2 h3 h4 h5 h6)
theorem ik{ops:Array Oper}{t0 t1 t2 t3 t4 t5 t6 t7:Tmp}{a0 a1 a2 a3 a4 a5 a6 a7:AV}(h0:al e (.tmp t0)=a0)(h1:al e (.tmp t1)=a1)(h2:al e (.tmp t2)=a2)(h3:al e (.tmp t3)=a3)(h4:al e (.tmp t4)=a4)(h5:al e (.tmp t5)=a5)(h6:al e (.tmp t6)=a6)(h7:al e (.tmp t7)=a7)(h:∀ e1,al e1 (.tmp t0)=a0->al e1 (.tmp t1)=a1->al e1 (.tmp t2)=a2->al e1 (.tmp t3)=a3->al e1 (.tmp t4)=a4->al e1 (.tmp t5)=a5->al e1 (.tmp t6)=a6->al e1 (.tmp t7)=a7->Q .normal e1 mem):AL P N ops [] Q e mem:=j7 (h e h0 h1 h2 h3 h4 h5 h6 h7)
theorem lU{ops:Array Oper}{t0 t1 t2 t3 t4 t5 t6 t7 t8:Tmp}{a0 a1 a2 a3 a4 a5 a6 a7 a8:AV}(h0:al e (.tmp t0)=a0)(h1:al e (.tmp t1)=a1)(h2:al e (.tmp t2)=a2)(h3:al e (.tmp t3)=a3)(h4:al e (.tmp t4)=a4)(h5:al e (.tmp t5)=a5)(h6:al e (.tmp t6)=a6)(h7:al e (.tmp t7)=a7)(h8:al e (.tmp t8)=a8)(h:∀ e1,al e1 (.tmp t0)=a0->al e1 (.tmp t1)=a1->al e1 (.tmp t2)=a2->al e1 (.tmp t3)=a3->al e1 (.tmp t4)=a4->al e1 (.tmp t5)=a5->al e1 (.tmp t6)=a6->al e1 (.tmp t7)=a7->al e1 (.tmp t8)=a8->Q .normal e1 mem):AL P N ops [] Q e mem:=j7 (h e h0 h1 h2 h3 h4 h5 h6 h7 h8)
theorem Hi{ops:Array Oper}{t0 t1 t2 t3 t4 t5 t6 t7 t8 t9:Tmp}{a0 a1 a2 a3 a4 a5 a6 a7 a8 a9:AV}(h0:al e (.tmp t0)=a0)(h1:al e (.tmp t1)=a1)(h2:al e (.tmp t2)=a2)(h3:al e (.tmp t3)=a3)(h4:al e (.tmp t4)=a4)(h5:al e (.tmp t5)=a5)(h6:al e (.tmp t6)=a6)(h7:al e (.tmp t7)=a7)(h8:al e (.tmp t8)=a8)(h9:al e (.tmp t9)=a9)(h:∀ e1,al e1 (.tmp t0)=a0->al e1 (.tmp t1)=a1->al e1 (.tmp t2)=a2->al e1 (.tmp t3)=a3->al e1 (.tmp t4)=a4->al e1 (.tmp t5)=a5->al e1 (.tmp t6)=a6->al e1 (.tmp t7)=a7->al e1 (.tmp t8)=a8->al e1 (.tmp t9)=a9->Q .normal e1 mem):AL P N ops [] Q e mem:=j7 (h e h0 h1 h2 h3 h4 h5 h6 h7 h8 h9)
theorem tg{ops:Array Oper}{t0 t1 t2 t3 t4 t5 t6 t7 t8 t9 t10:Tmp}{a0 a1 a2 a3 a4 a5 a6 a7 a8 a9 a10:AV}(h0:al e (.tmp t0)=a0)(h1:al e (.tmp t1)=a1)(h2:al e (.tmp t2)=a2)(h3:al e (.tmp t3)=a3)(h4:al e (.tmp t4)=a4)(h5:al e (.tmp t5)=a5)(h6:al e (.tmp t6)=a6)(h7:al e (.tmp t7)=a7)(h8:al e (.tmp t8)=a8)(h9:al e (.tmp t9)=a9)(h10:al e (.tmp t10)=a10)(h:∀ e1,al e1 (.tmp t0)=a0->al e1 (.tmp t1)=a1->al e1 (.tmp t2)=a2->al e1 (.tmp t3)=a3->al e1 (.tmp t4)=a4->al e1 (.tmp t5)=a5->al e1 (.tmp t6)=a6->al e1 (.tmp t7)=a7->al e1 (.tmp t8)=a8->al e1 (.tmp t9)=a9->al e1 (.tmp t10)=a10->Q .normal e1 mem):AL P N ops [] Q e mem:=j7 (h e h0 h1 h2 h3 h4 h5 h6 h7 h8 h9 h10)
theorem pN{ops:Array Oper}{t0 t1 t2 t3 t4 t5 t6 t7 t8 t9 t10 t11:Tmp}{a0 a1 a2 a3 a4 a5 a6 a7 a8 a9 a10 a11:AV}(h0:al e (.tmp t0)=a0)(h1:al e (.tmp t1)=a1)(h2:al e (.tmp t2)=a2)(h3:al e (.tmp t3)=a3)(h4:al e (.tmp t4)=a4)(h5:al e (.tmp t5)=a5)(h6:al e (.tmp t6)=a6)(h7:al e (.tmp t7)=a7)(h8:al e (.tmp t8)=a8)(h9:al e (.tmp t9)=a9)(h10:al e (.tmp t10)=a10)(h11:al e (.tmp t11)=a11)(h:∀ e1,al e1 (.tmp t0)=a0->al e1 (.tmp t1)=a1->al e1 (.tmp t2)=a2->al e1 (.tmp t3)=a3->al e1 (.tmp t4)=a4->al e1 (.tmp t5)=a5->al e1 (.tmp t6)=a6->al e1 (.tmp t7)=a7->al e1 (.tmp t8)=a8->al e1 (.tmp t9)=a9->al e1 (.tmp t10)=a10->al e1 (.tmp t11)=a11->Q .normal e1 mem):AL P N ops [] Q e mem:=j7 (h e h0 h1 h2 h3 h4 h5 h6 h7 h8 h9 h10 h11)
theorem Hj{ops:Array Oper}{t0 t1 t2 t3 t4 t5 t6 t7 t8 t9 t10 t11 t12:Tmp}{a0 a1 a2 a3 a4 a5 a6 a7 a8 a9 a10 a11 a12:AV}(h0:al e (.tmp t0)=a0)(h1:al e (.tmp t1)=a1)(h2:al e (.tmp t2)=a2)(h3:al e (.tmp t3)=a3)(h4:al e (.tmp t4)=a4)(h5:al e (.tmp t5)=a5)(h6:al e (.tmp t6)=a6)(h7:al e (.tmp t7)=a7)(h8:al e (.tmp t8)=a8)(h9:al e (.tmp t9)=a9)(h10:al e (.tmp t10)=a10)(h11:al e (.tmp t11)=a11)(h12:al e (.tmp t12)=a12)(h:∀ e1,al e1 (.tmp t0)=a0->al e1 (.tmp t1)=a1->al e1 (.tmp t2)=a2->al e1 (.tmp t3)=a3->al e1 (.tmp t4)=a4->al e1 (.tmp t5)=a5->al e1 (.tmp t6)=a6->al e1 (.tmp t7)=a7->al e1 (.tmp t8)=a8->al e1 (.tmp t9)=a9->al e1 (.tmp t10)=a10->al e1 (.tmp t11)=a11->al e1 (.tmp t12)=a12->Q .normal e1 mem):AL P N ops [] Q e mem:=j7 (h e h0 h1 h2 h3 h4 h5 h6 h7 h8 h9 h10 h11 h12)
theorem aC{ops:Array Oper}{l:List Oper}{op:Op}(hg:Ng ops ⟨d,op,ty,pos,af,g⟩ e)(hd:dV N d=true)(h:AL P N ops l Q (aT e d (.v undef)) mem):AL P N ops (⟨d,op,ty,pos,af,g⟩::l) Q e mem:=Oz hg hd h
theorem c8{ops:Array Oper}{tail l:List Oper}{op:Op}(hg:Ng ops ⟨d,op,ty,pos,af,g⟩ e)(hd:dV N d=true)(h:DS P N ops tail Q mem l (aT e d (.v undef))):DS P N ops tail Q mem (⟨d,op,ty,pos,af,g⟩::l) e:=OD hg hd h
theorem bK{ops:Array Oper}{l:List Oper}{s:Tmp}{b:Bool}(hb:al e (.tmp s)= .v (.bool b))(ht:al e (.tmp s)= .v (.bool true)->b=true->AL P N ops l Q e mem)(hf:al e (.tmp s)= .v (.bool false)->b=false->AL P N ops l Q e mem):AL P N ops l Q e mem:=zw hb ht hf
theorem lB{ops:Array Oper}{tail l:List Oper}{s:Tmp}{b:Bool}(hb:al e (.tmp s)= .v (.bool b))(ht:al e (.tmp s)= .v (.bool true)->b=true->DS P N ops tail Q mem l e)(hf:al e (.tmp s)= .v (.bool false)->b=false->DS P N ops tail Q mem l e):DS P N ops tail Q mem l e:=zw hb ht hf
theorem bk{c:Operand}{x y:Code}{b:Bool}(hc:al e c= .v (.bool b))(ht:b=true->AW M P N x Q e mem)(hf:b=false->AW M P N y Q e mem):AW M P N (.cond c x y) Q e mem:=yy hc ht hf
section
variable {m:List Ob} {o o0:Ob} {i j n:Nat} {q:Option Ob}
theorem bo(h:m=mem.set j o)(hj:mem[j]? =some o0):m[j]? =some o:=by subst h;rw [S7 (SN.1 hj).1]
theorem au(h:m=mem.set j o)(hi:mem[i]? =q)(hij:i≠j):m[i]? =q:=by subst h;rw [SY (Ne.symm hij)];exact hi
theorem bh(h:m=mem.set j o)(hl:mem.length=n):m.length=n:=by subst h;simpa using hl
theorem bS(h:m=mem++ [o])(hl:mem.length=n):m[n]? =some o:=by subst h;subst hl;simp
theorem aI(h:m=mem++ [o])(hi:mem[i]? =some o0):m[i]? =some o0:=by subst h;rw [SX (SN.1 hi).1];exact hi
theorem bR(h:m=mem++ [o])(hl:mem.length=n):m.length=n+1:=by subst h;simp [hl]
theorem iY(h:m=mem.set j .gone ++ [o])(hl:mem.length=n):m[n]? =some o:=by subst h;subst hl;simp
theorem cC(h:m=mem.set j .gone ++ [o])(hi:mem[i]? =some o0)(hij:i≠j):m[i]? =some o0:=by
 subst h;rw [SX (by have:=(SN.1 hi).1;simpa using this),SY (Ne.symm hij)];exact hi
theorem iT(h:m=mem.set j .gone ++ [o])(hl:mem.length=n):m.length=n+1:=by subst h;simp [hl]
end
theorem bt{p:Prop}[Decidable p](h:decide p=true):p:=of_decide_eq_true h
theorem bf{p:Prop}[Decidable p](h:decide p=false):¬ p:=of_decide_eq_false h
theorem ff{p:Prop}[Decidable p](h:(!decide p)=true):¬ p:=by simpa using h
theorem eY{p:Prop}[Decidable p](h:(!decide p)=false):p:=by simpa using h
theorem cT{b:Bool}(h:(!b)=true):b=false:=by simpa using h
theorem di{b:Bool}(h:(!b)=false):b=true:=by simpa using h
theorem b7{a b:Bool}(h:a=true↔b=true):AV.v (.bool a)=AV.v (.bool b):=by rw [Ud.2 h]
def cu(P:Program)(S i off:Nat)(row:Bool)(n:Nat):Prop:=(match P.underlying S with|some (.struct fs)=>(fs[i]?).bind λf=>if f.offset=off then(match P.underlying f.type with|some d=>some (d.isRow,(P.info? f.type).map (·.size))|none=>none)else none|_=>none)=some (row,some n)
theorem cu.get{S i off n:Nat}{row:Bool}(h:cu P S i off row n):∃ fs f,P.underlying S=some (.struct fs)/\fs[i]? =some f/\f.offset=off/\aV P f.type row n:=by
 unfold cu at h
 split at h
 ·rename_i fs hu
  cases hf:fs[i]? with
  | none=>rw [hf]at h;cases h
  | some f=>
   rw [hf]at h;simp only [Option.bind_some]at h
   split at h
   ·rename_i ho
    refine⟨fs,f,hu,hf,ho,?_⟩;unfold aV
    split at h
    ·rename_i dd hd
     rw [hd];simp only [Option.some.injEq,Prod.mk.injEq]at h;exact⟨congrArg some h.1,h.2⟩
    ·cases h
   ·cases h
 ·cases h
theorem cj{cells:List AV}{i n off:Nat}{row:Bool}(hF:cu P t i off row n)(h0:(n != 0)=true)(hx:al e x= .ref cells):bH P ⟨d,.fieldAddr t x i,ty,pos,af,g⟩ e mem (.ref (cells.drop off)):=
 let ⟨_,_,h1,h2,h3,h4⟩:=hF.get;Hz hx h1 h2 h3 h4 (by simpa using h0)
theorem aJ{j o i n off:Nat}{row:Bool}(hF:cu P t i off row n)(h0:(n != 0)=true)(hx:al e x= .ptr j o):bH P ⟨d,.fieldAddr t x i,ty,pos,af,g⟩ e mem (.ptr j (o+off)):=
 let ⟨_,_,h1,h2,h3,h4⟩:=hF.get;HA hx h1 h2 h3 h4 (by simpa using h0)
theorem bL{n:Nat}{row:Bool}{cells:List AV}(ht:aV P t row n)(h1:(row||n==1)=true)(hx:al e x= .ref cells)(hn:n<=cells.length):bH P ⟨d,.load t x,ty,pos,af,g⟩ e mem (gx row n cells):=
 Ig hx ht hn nV
theorem aK{j off n:Nat}{row:Bool}{T:TypeId}{cells:List AV}(ht:aV P t row n)(h1:(row||n==1)=true)(hm:mem[j]? =some (.box T cells))(hx:al e x= .ptr j off)(hn:off+n<=cells.length):bH P ⟨d,.load t x,ty,pos,af,g⟩ e mem (gx row n (cells.drop off)):=
 Ih hx hm ht hn nV
theorem nG{j i n k:Nat}{row:Bool}{T:TypeId}{els:List (List AV)}{el:List AV}(ht:aV P t row n)(h1:(row||n==1)=true)(hm:mem[j]? =some (.row T k els))(hx:al e x= .ptr j (i*k))(hn:n<=k)(hel:els[i]? =some el):bH P ⟨d,.load t x,ty,pos,af,g⟩ e mem (gx row n el):=
 IE hx hm rfl hel ht hn nV
def b9(P:Program)(t eT k bytes:Nat)(zv:Value):Prop:=P.underlying t=some (.slice eT)/\(P.info? eT).map (λi=>(i.zero,i.size,i.bytes))=some (some zv,k,bytes)/\(match P.underlying eT with|some d=>some d.isRow|none=>none).isSome =true
theorem b9.info{eT k bytes:Nat}{zv:Value}(h:b9 P t eT k bytes zv):∃ i,P.info? eT=some i/\i.zero=some zv/\i.size=k/\i.bytes=bytes:=by
 have:=h.2.1;cases hi:P.info? eT with
 | none=>rw [hi]at this;cases this
 | some i=>rw [hi]at this;simp only [Option.map_some,Option.some.injEq,Prod.mk.injEq]at this;exact⟨i,rfl,this⟩
theorem b9.wC{eT k bytes:Nat}{zv:Value}(h:b9 P t eT k bytes zv):∃ row,aV P eT row k:=by
 obtain⟨i,h1,h2,h3,h4⟩:=h.info;have:=h.2.2;cases hd:(match P.underlying eT with|some d=>some d.isRow|none=>none)with
 | none=>rw [hd]at this;cases this
 | some row=>exact⟨row,hd,by rw [h1];simp [h3]⟩
theorem cE{els:List (List AV)}{el:List AV}{k bytes eT:Nat}{zv:Value}{i:Int}{kk:IntKind}(ht:b9 P t eT k bytes zv)(hx:al e x= .row k els)(hy:al e y= .v (.int kk i))(h0:0<=i)(hel:els[i.toNat]? =some el):bH P ⟨d,.indexAddr t x y,ty,pos,af,g⟩ e mem (.ref el):=
 let ⟨_,h⟩:=ht.wC;HV hx hy ht.1 h h0 hel
theorem ku{j:Nat}{els:List (List AV)}{k bytes eT T:Nat}{zv:Value}{i:Int}{kk:IntKind}(ht:b9 P t eT k bytes zv)(hm:mem[j]? =some (.row T k els))(hx:al e x= .own j)(hy:al e y= .v (.int kk i))(h0:0<=i)(h1:i<els.length):bH P ⟨d,.indexAddr t x y,ty,pos,af,g⟩ e mem (.ptr j (i.toNat*k)):=
 let ⟨_,h⟩:=ht.wC;HB hx hm hy ht.1 h h0 h1
theorem oc{j k bytes eT:Nat}{zv:Value}{els els2:List (List AV)}(ht:b9 P t eT k bytes zv)(hk:(zv.cells.size==k&&decide (0<k)&&decide (0<bytes))=true)(hm:mem[j]? =some (.row eT k els))(hx:al e x= .own j)(hy:al e y= .row k els2)(hone:els2.flatten.all lp=true)(hb:(els.length+els2.length)*bytes<=140737488355328):
 tc P ⟨d,.call ⟨.builtin .append,#[x,y],#[t,t]⟩,ty,pos,af,g⟩ e mem j (.row eT k (els++els2)) (λj=>.own j):=by
 obtain⟨i,h1,h2,h3,h4⟩:=ht.info;simp only [SS,beq_iff_eq,decide_eq_true_eq]at hk;exact Jo hx hm hy hone ht.1 h1 h2 h3 h4 hk.1.1 hk.1.2 hk.2 hb
theorem ib{j m k bytes eT:Nat}{zv:Value}{els els2:List (List AV)}(ht:b9 P t eT k bytes zv)(hk:(zv.cells.size==k&&decide (0<k)&&decide (0<bytes))=true)(hl:mem.length=m)(hm:mem[j]? =some (.row eT k els))(hx:al e x= .own j)(hy:al e y= .row k els2)(hone:els2.flatten.all lp=true)(hb:(els.length+els2.length)*bytes<=140737488355328):
 fq P ⟨d,.call ⟨.builtin .append,#[x,y],#[t,t]⟩,ty,pos,af,g⟩ e mem (.own m) (mem.set j .gone ++ [.row eT k (els++els2)]):=Rf (h:=λj=>.own j) (oc ht hk hm hx hy hone hb) hl
theorem u3{k bytes eT:Nat}{zv:Value}{els2:List (List AV)}(ht:b9 P t eT k bytes zv)(hk:(zv.cells.size==k&&decide (0<k)&&decide (0<bytes))=true)(hx:al e x= .v (.slice none 0 0))(hy:al e y= .row k els2)(hone:els2.flatten.all lp=true)(hb:els2.length*bytes<=140737488355328):
 lN P ⟨d,.call ⟨.builtin .append,#[x,y],#[t,t]⟩,ty,pos,af,g⟩ e mem (.row eT k els2) (λj=>.own j):=by
 obtain⟨i,h1,h2,h3,h4⟩:=ht.info;simp only [SS,beq_iff_eq,decide_eq_true_eq]at hk;exact IG hx hy hone ht.1 h1 h2 h3 h4 hk.1.1 hk.1.2 hk.2 hb
theorem Rh{k bytes eT:Nat}{zv:Value}{zs:List AV}{n:Int}{kl:IntKind}(ht:b9 P t eT k bytes zv)(hk:(zv.cells.size==k&&decide (0<bytes))=true)(hzs:zv.cells.toList.map AV.v=zs)(hx:al e x= .v (.int kl n))(hy:al e y= .v (.int kl n))(h0:0<=n)(hb:bytes*n.toNat<=281474976710656):
 lN P ⟨d,.makeSlice t x y,ty,pos,af,g⟩ e mem (.row eT k (List.replicate n.toNat zs)) (λj=>.own j):=by
 obtain⟨i,h1,h2,h3,h4⟩:=ht.info;simp only [SS,beq_iff_eq,decide_eq_true_eq]at hk;exact OF hx hy h0 ht.1 h1 h2 h3 h4 hzs hk.1 hk.2 hb
theorem Ri{m k bytes eT:Nat}{zv:Value}{zs:List AV}{n:Int}{kl:IntKind}(ht:b9 P t eT k bytes zv)(hk:(zv.cells.size==k&&decide (0<bytes))=true)(hzs:zv.cells.toList.map AV.v=zs)(hl:mem.length=m)(hx:al e x= .v (.int kl n))(hy:al e y= .v (.int kl n))(h0:0<=n)(hb:bytes*n.toNat<=281474976710656):
 fq P ⟨d,.makeSlice t x y,ty,pos,af,g⟩ e mem (.own m) (mem++ [.row eT k (List.replicate n.toNat zs)]):=s6 (h:=λj=>.own j) (Rh ht hk hzs hx hy h0 hb) hl
theorem ep{ps:Array (Nat×Operand)}{pl:List (Nat×AV)}{n k bytes eT:Nat}{zv:Value}{els:List (List AV)}(ht:b9 P t eT k bytes zv)(hps:iO e ps.toList=pl)(hn:pl.length=n)(hsm:(decide (n*k<=2^24)&&decide (0<n*k))=true)(hl:lO k 0 pl=some els)(hro:cS.roL els.flatten=true):
 bH P ⟨d,.buildSlice t n ps,ty,pos,af,g⟩ e mem (.row k els):=by
 obtain⟨i,h1,h2,h3,h4⟩:=ht.info;simp only [SS,decide_eq_true_eq]at hsm;exact HI hps ht.1 h1 h3 h2 hn ah ah hl hro
theorem Qj{ps:Array (Nat×Operand)}{pl:List (Nat×AV)}{n k bytes eT:Nat}{zv:Value}{els:List (List AV)}(ht:b9 P t eT k bytes zv)(hps:iO e ps.toList=pl)(hn:pl.length=n)(hsm:(decide (n*k<=2^24)&&decide (0<n*k))=true)(hel:lO k 0 pl=some els)(hro:cS.roL els.flatten=true):
 lN P ⟨d,.buildSlice t n ps,ty,pos,af,g⟩ e mem (.row eT k els) (λj=>.own j):=by
 obtain⟨ie,hie,hz,hk,_⟩:=ht.info;simp only [SS,decide_eq_true_eq]at hsm;intro pb w0 θ w ev hs h;subst hps;have hpl:ps.toList.length=n:=by rw [<- hn];simp [iO]
 obtain⟨cs',h1,h2,h3,h4⟩:=xM (θ:=θ) (pr:=aP pb θ mem) (w:=w) (ev:=ev) (k:=k) (n:=0) (cs:=(Array.range (n*k)).map (zv.cells[· %zv.cells.size]!)) (λq hq=>h q.2 (by
  simp only [Op.operands,UT,TG];exact⟨q,hq,rfl⟩)) (by rw [S0,hpl];simp) hel
 have hrun:=run_buildSlice (P:=P) w t eT n (ps.map λ(i,x)=>(i,aZ ev x)) cs' ie zv ht.1 hie hz (by rw [hk];omega) (by rw [hk];omega) (by
  rw [hk,tU];simpa using h1)
 have e1:execOp (aZ ev) ⟨d,.buildSlice t n ps,ty,pos,af,g⟩=(do pure (.value (<- Instr.buildSlice t n (ps.map λ(i,x)=>(i,aZ ev x))))):=rfl;rw [e1,Sem.run_bind,hrun];obtain⟨hl1,hl2⟩:=xK hel;have hlen:els.length=n:=by rw [hl1];exact hn
 have hfl:=iR hl2;have hsz:cs'.size=n*k:=by rw [h2];simp
 have hmax:n<=maxLen:=by
  have:0<k:=Nat.pos_of_ne_zero (λh=>by rw [h]at hsm;simp at hsm);have:=Nat.le_mul_of_pos_right n this;simp only [maxLen];omega
 refine⟨(Ext.refl w).alloc _,sJ,λθ' pr k1=>?_,λθ' pr j hj=>.own j _ hj rfl⟩;refine⟨cs'.toList,by rw [hlen];exact World.ownsRow_lit w cs' n (S8 _) hmax hsz,(λb hb=>by have hb':some w.heap.size=some b:=hb;cases hb';exact .inl hs.base),hl2,λi a u ha hu=>?_⟩;have:=h4 i a u ha (by rw [Nat.zero_mul,S0];exact hu);exact(k1 a u this).iN (hP hro ha)
theorem Qk{ps:Array (Nat×Operand)}{pl:List (Nat×AV)}{n k bytes eT m:Nat}{zv:Value}{els:List (List AV)}(ht:b9 P t eT k bytes zv)(hl:mem.length=m)(hps:iO e ps.toList=pl)(hn:pl.length=n)(hsm:(decide (n*k<=2^24)&&decide (0<n*k))=true)(hel:lO k 0 pl=some els)(hro:cS.roL els.flatten=true):
 fq P ⟨d,.buildSlice t n ps,ty,pos,af,g⟩ e mem (.own m) (mem++ [.row eT k els]):=s6 (h:=λj=>.own j) (Qj ht hps hn hsm hel hro) hl
theorem R1.set{θ:List Value}{pr:Nat->Prop}{w:World}{s:Tmp}{r:AV}{v:Nat->Value}(h:∀ t,R1 θ pr w (e t) (v t))(hr:R1 θ pr w r (v s)):∀ t,R1 θ pr w (aT e (some s) r t) (v t):=λt=>by
 by_cases ht:t=s
 ·subst ht;simp only [aT,if_true];exact hr
 ·simp only [aT,if_neg ht];exact h t
theorem uk{c:Code}{s m:Nat}(eT k:Nat)(hs:al e (.tmp s)= .v (.slice none 0 0))(hl:mem.length=m)(h:∀ m1 e1,m1=mem++ [.row eT k []]->e1=aT e (some s) (.own m)->AW M P N c Q e1 m1):AW M P N c Q e mem:=by
 refine λF n hF pb w0 θ a w hf=>?_
 subst hl;have st:Step pb w0 θ mem w (θ++ [.slice none 0 0]) (mem++ [.row eT k []]) w:=Step.new hf.sim (Ext.refl w) _ _ (λb hb=>by cases hb) λθ' pr _=>
  ⟨[],World.ownsRow_nil w _ eT k,(λb hb=>by cases hb),aL,λi a u h=>by simp at h⟩
 refine wpIn_mono (h _ _ rfl rfl F n hF pb w0 (θ++ [.slice none 0 0]) a w ⟨hf.size,hf.dfr.step st,R1.set (λt=>st.keep _ _ (hf.sl t)) ?_,st.sim⟩) λ_ _ _ hq=>hq.after st
 have:=hf.sl s;rw [show e s= .v (.slice none 0 0)from hs]at this;rw [this.val];exact .own _ _ (Qh hf.sim _) rfl
end
theorem EE{n:Nat}{l:List AV}:gx true n l= .agg (l.take n):=rfl
theorem EF{n:Nat}{l:List AV}:gx false n l=l.headD .any :=rfl
def eX(P:Program)(t:TypeId):Array Field:=match P.underlying t with|some (.struct fs)=>fs|_=> #[]
theorem eh{mem:List Ob}{n:Nat}{l:List AV}{r:AV}(h:Vw mem (.agg (l.take n)) r):Vw mem (gx true n l) r:=h
theorem ti{mem:List Ob}{a b:AV}{l:List AV}(h:Vw mem a b):Vw mem (gx false 1 (a::l)) b:=h
theorem zx{mem:List Ob}{j off:Nat}{T:TypeId}{cells cells':List AV}(hm:mem[j]? =some (.box T cells))(h:lr mem cells cells'):Vw mem (.ptr j off) (.ref (cells'.drop off)):=.ptr j off T cells cells' hm h.spec.1 h.spec.2
def wE(P:Program)(t len k:Nat):Prop:=(match P.underlying t with|some (.array n _)=>some n|_=>none)=some len/\(match P.underlying t with|some (.array _ eT)=>(P.info? eT).map (·.size)|_=>none)=some k
theorem lI{P:Program}{e:Nat->AV}{mem:List Ob}{d:Option Tmp}{ty t:TypeId}{pos:String}{af:Array Edge}{g:Option (Nat×Bool)}{x y:Operand}{j off len k:Nat}{i:Int}{kk:IntKind}(ht:wE P t len k)(hx:al e x= .ptr j off)(hy:al e y= .v (.int kk i))(h:(decide (0<=i)&&decide (i<len))=true):
 bH P ⟨d,.indexAddr t x y,ty,pos,af,g⟩ e mem (.ptr j (off+i.toNat*k)):=by
 intro pb w0 θ w ev hs h';have h1:=h' x cB;have h2:=h' y cB;rw [hx]at h1;rw [hy]at h2;obtain⟨b,v,hθ,hbase,hp⟩:=h1.iC;simp only [SS,decide_eq_true_eq]at h;rw [w9 hp h2.val,Sem.run_bind];obtain⟨q1,q2⟩:=ht;cases hu:P.underlying t with
 | none=>rw [hu]at q1;cases q1
 | some dd=>
  rw [hu]at q1 q2;cases dd with
  | array n eT=>
   simp only [Option.some.injEq]at q1 q2;subst q1;have hsz:∀ w,(Go.sizeOf eT).run P w= .ok k w:=λw=>by
    cases hq:P.info? eT with
    | none=>rw [hq]at q2;cases q2
    | some i=>rw [hq]at q2;simp at q2;simp [Go.sizeOf,typeInfo,hq,q2]
   have hr:(Instr.indexAt t (.pointer (some ⟨b,off,none⟩)) (.int kk i)).run P w= .ok (.pointer (some ⟨b,off+i.toNat*k,none⟩)) w:=by
    unfold Instr.indexAt;simp [asIntOf,run_underlying hu,Instr.sureAddr,h.1,h.2,hsz,Sem.run_bind,sQ]
   rw [hr];exact⟨.ptr j _ b v hθ hbase,Ext.refl w⟩
  | _=>cases q1
def iE(n:Int):List AV:= [.v (.int .i64 n)]
def bE(n:UInt8):List AV:= [.v (.int .u8 n.toNat)]
theorem dK{α:Type}[Inhabited α]{f:α->List AV}{l:List α}{k:Nat}(h:k<l.length):(l.map f)[((k:Int)).toNat]? =some (f (l.getD k default)):=by
 simp [h,SO]
theorem dq{α:Type}[Inhabited α]{f:α->List AV}{l:List α}{i:Int}(h:i.toNat<l.length):(l.map f)[i.toNat]? =some (f (l.getD i.toNat default)):=by
 simp [h,SO]
theorem nH{α:Type}[Inhabited α]{f:α->List AV}{l:List α}{k:Nat}(h:k<l.length):(l.map f)[k]? =some (f (l.getD k default)):=by
 simp [h,SO]
theorem gI{s:ByteArray}{i:Nat}(h:i<s.size):s[i]? =some (s.data.toList.getD i default):=by
 have h':i<s.data.size:=h;rw [getElem?_pos s i h];simp only [SO,Array.getElem?_toList];rw [Ua h'];rfl
theorem bC{α:Type}(f:α->List AV)(l l':List α):l.map f++l'.map f=(l++l').map f:=List.map_append.symm
theorem cL{mem:List Ob}{o:Ob}{j n:Nat}(h:mem[j]? =some o)(hl:mem.length=n):j<n:=by subst hl;exact(SN.1 h).1
theorem jy(xs:List Int)(i:Nat)(n:Int):(xs.map iE).set i [.v (.int .i64 n)]=(xs.set i n).map iE:=by simp [List.map_set,iE]
theorem jz(k:Nat):List.replicate k [AV.v (.int .i64 0)]=(List.replicate k (0:Int)).map iE:=by simp [iE]
theorem bG(n:Int): [[AV.v (.int .i64 n)]]= [n].map iE:=by simp [iE]
theorem ae{e:Nat->AV}{t d:Tmp}{r a:AV}(h:al e (.tmp t)=a)(hd:(t==d)=false:=by rfl):al (aT e (some d) r) (.tmp t)=a:=eW hd h
theorem ag{e:Nat->AV}{t d0 d1:Tmp}{r0 r1 a:AV}(h:al e (.tmp t)=a)(hd:(t==d0||t==d1)=false:=by rfl):al (aT (aT e (some d0) r0) (some d1) r1) (.tmp t)=a:=u2 hd h
theorem ai{e:Nat->AV}{t d0 d1 d2 d3:Tmp}{r0 r1 r2 r3 a:AV}(h:al e (.tmp t)=a)(hd:(t==d0||t==d1||t==d2||t==d3)=false:=by rfl):al (aT (aT (aT (aT e (some d0) r0) (some d1) r1) (some d2) r2) (some d3) r3) (.tmp t)=a:=u4 hd h
theorem ay{e:Nat->AV}{t d0 d1 d2 d3 d4 d5 d6 d7:Tmp}{r0 r1 r2 r3 r4 r5 r6 r7 a:AV}(h:al e (.tmp t)=a)(hd:(t==d0||t==d1||t==d2||t==d3||t==d4||t==d5||t==d6||t==d7)=false:=by rfl):al (aT (aT (aT (aT (aT (aT (aT (aT e (some d0) r0) (some d1) r1) (some d2) r2) (some d3) r3) (some d4) r4) (some d5) r5) (some d6) r6) (some d7) r7) (.tmp t)=a:=u8 hd h
theorem aH{e:Nat->AV}{t d0 d1 d2 d3 d4 d5 d6 d7 d8 d9 d10 d11 d12 d13 d14 d15:Tmp}{r0 r1 r2 r3 r4 r5 r6 r7 r8 r9 r10 r11 r12 r13 r14 r15 a:AV}(h:al e (.tmp t)=a)(hd:(t==d0||t==d1||t==d2||t==d3||t==d4||t==d5||t==d6||t==d7||t==d8||t==d9||t==d10||t==d11||t==d12||t==d13||t==d14||t==d15)=false:=by rfl):al (aT (aT (aT (aT (aT (aT (aT (aT (aT (aT (aT (aT (aT (aT (aT (aT e (some d0) r0) (some d1) r1) (some d2) r2) (some d3) r3) (some d4) r4) (some d5) r5) (some d6) r6) (some d7) r7) (some d8) r8) (some d9) r9) (some d10) r10) (some d11) r11) (some d12) r12) (some d13) r13) (some d14) r14) (some d15) r15) (.tmp t)=a:=u16 hd h
end Go.Proofs.YtfoaiidcfkmneaaGreatDoor
