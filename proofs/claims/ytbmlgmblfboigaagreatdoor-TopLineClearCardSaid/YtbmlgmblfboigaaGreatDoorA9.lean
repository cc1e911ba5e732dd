/- Lemmas for the statement. -/
import Derived.Test.YtbmlgmblfboigaaGreatDoorA8
namespace Go.Proofs.YtbmlgmblfboigaaGreatDoor
open Go Go.RowKit
set_option linter.unusedVariables false
set_option linter.unusedSimpArgs false
section
variable {M:Mode} {P:Program} {N:Nat} {Q:AQ} {e:Nat->AV} {mem:List Ob} {d:Option Tmp} {ty t t2:TypeId} {pos:String} {af:Array Edge} {g:Option (Nat×Bool)} {x y z:Operand} {K:(Nat->AV)->List Ob->Prop} {id:Nat}
theorem ay{v:Value}:ak e (.const v)= .v v:=rfl
theorem BZ{f:FuncId}:ak e (.func f)= .v (.func (.func f) #[] #[]):=rfl
theorem u2{e:Nat->AV}{t d0 d1:Tmp}{r0 r1 a:AV}(hd:(t==d0||t==d1)=false)(h:ak e (.tmp t)=a):ak (aS (aS e (some d0) r0) (some d1) r1) (.tmp t)=a:=by
 simp only [YQ]at hd;exact eO hd.2 (eO hd.1 h)
theorem u4{e:Nat->AV}{t d0 d1 d2 d3:Tmp}{r0 r1 r2 r3 a:AV}(hd:(t==d0||t==d1||t==d2||t==d3)=false)(h:ak e (.tmp t)=a):ak (aS (aS (aS (aS e (some d0) r0) (some d1) r1) (some d2) r2) (some d3) r3) (.tmp t)=a:=by
 simp only [YQ]at hd;exact eO hd.2 (eO hd.1.2 (eO hd.1.1.2 (eO hd.1.1.1 h)))
theorem u8{e:Nat->AV}{t d0 d1 d2 d3 d4 d5 d6 d7:Tmp}{r0 r1 r2 r3 r4 r5 r6 r7 a:AV}(hd:(t==d0||t==d1||t==d2||t==d3||t==d4||t==d5||t==d6||t==d7)=false)(h:ak e (.tmp t)=a):ak (aS (aS (aS (aS (aS (aS (aS (aS e (some d0) r0) (some d1) r1) (some d2) r2) (some d3) r3) (some d4) r4) (some d5) r5) (some d6) r6) (some d7) r7) (.tmp t)=a:=by
 simp only [YQ]at hd;exact eO hd.2 (eO hd.1.2 (eO hd.1.1.2 (eO hd.1.1.1.2 (eO hd.1.1.1.1.2 (eO hd.1.1.1.1.1.2 (eO hd.1.1.1.1.1.1.2 (eO hd.1.1.1.1.1.1.1 h)))))))
theorem u16{e:Nat->AV}{t d0 d1 d2 d3 d4 d5 d6 d7 d8 d9 d10 d11 d12 d13 d14 d15:Tmp}{r0 r1 r2 r3 r4 r5 r6 r7 r8 r9 r10 r11 r12 r13 r14 r15 a:AV}(hd:(t==d0||t==d1||t==d2||t==d3||t==d4||t==d5||t==d6||t==d7||t==d8||t==d9||t==d10||t==d11||t==d12||t==d13||t==d14||t==d15)=false)(h:ak e (.tmp t)=a):ak (aS (aS (aS (aS (aS (aS (aS (aS (aS (aS (aS (aS (aS (aS (aS (aS e (some d0) r0) (some d1) r1) (some d2) r2) (some d3) r3) (some d4) r4) (some d5) r5) (some d6) r6) (some d7) r7) (some d8) r8) (some d9) r9) (some d10) r10) (some d11) r11) (some d12) r12) (some d13) r13) (some d14) r14) (some d15) r15) (.tmp t)=a:=by
 simp only [YQ]at hd;exact eO hd.2 (eO hd.1.2 (eO hd.1.1.2 (eO hd.1.1.1.2 (eO hd.1.1.1.1.2 (eO hd.1.1.1.1.1.2 (eO hd.1.1.1.1.1.1.2 (eO hd.1.1.1.1.1.1.1.2 (eO hd.1.1.1.1.1.1.1.1.2 (eO hd.1.1.1.1.1.1.1.1.1.2 (eO hd.1.1.1.1.1.1.1.1.1.1.2 (eO hd.1.1.1.1.1.1.1.1.1.1.1.2 (eO hd.1.1.1.1.1.1.1.1.1.1.1.1.2 (eO hd.1.1.1.1.1.1.1.1.1.1.1.1.1.2 (eO hd.1.1.1.1.1.1.1.1.1.1.1.1.1.1.2 (eO hd.1.1.1.1.1.1.1.1.1.1.1.1.1.1.1 h)))))))))))))))
theorem ef{e e1:Nat->AV}(t:Tmp){a:AV}(h:e1=e)(h2:ak e (.tmp t)=a):ak e1 (.tmp t)=a:=by subst h;exact h2
theorem ax{o:Oper}{r r':AV}(h:bw P o e mem r)(hr:r=r'):bw P o e mem r':=hr ▸ h
theorem ao(h:K e mem):lQ K Q .normal e mem:=h
theorem cB(h:Q (.exit id) e mem):lQ K Q (.exit id) e mem:=h
theorem bS(h:Q .ret e mem):lQ K Q .ret e mem:=h
theorem cK(h:Q .normal e mem):mV id Q .normal e mem:=h
theorem db(h:Q .ret e mem):mV id Q .ret e mem:=h
theorem dU(h:Q .normal e mem):mV id Q (.exit id) e mem:=by show(if id=id then _ else _);rw [if_pos rfl];exact h
theorem aL{ops:Array Oper}{l:List Oper}{op:Op}{r:AV}{mem':List Ob}(ho:eE P ⟨d,op,ty,pos,af,g⟩ e mem r mem')(hg:Gd ops ⟨d,op,ty,pos,af,g⟩ e)(hd:dA N d=true)(h:∀ m,m=mem'->AL P N ops l Q (aS e d r) m):AL P N ops (⟨d,op,ty,pos,af,g⟩::l) Q e mem:=Jw ho hg hd (h _ rfl)
theorem xp{G:Prop}{s:Tmp}{b:Bool}(hb:ak e (.tmp s)= .v (.bool b))(ht:ak e (.tmp s)= .v (.bool true)->b=true->G)(hf:ak e (.tmp s)= .v (.bool false)->b=false->G):G:=by
 cases b
 ·exact hf hb rfl
 ·exact ht hb rfl
theorem aG{ops:Array Oper}{l:List Oper}{op:Op}{r:AV}(ho:bw P ⟨d,op,ty,pos,af,g⟩ e mem r)(hg:Gd ops ⟨d,op,ty,pos,af,g⟩ e)(hd:dA N d=true)(h:AL P N ops l Q (aS e d r) mem):AL P N ops (⟨d,op,ty,pos,af,g⟩::l) Q e mem:=Jx ho hg hd h
theorem cD{ops:Array Oper}{tail l:List Oper}{op:Op}{r:AV}(ho:bw P ⟨d,op,ty,pos,af,g⟩ e mem r)(hg:Gd ops ⟨d,op,ty,pos,af,g⟩ e)(hd:dA N d=true)(h:DS P N ops tail Q mem l (aS e d r)):DS P N ops tail Q mem (⟨d,op,ty,pos,af,g⟩::l) e:=JA ho hg hd h
theorem ar{ops:Array Oper}{l:List Oper}{op:Op}{r:AV}(ho:bw P ⟨d,op,ty,pos,af,none⟩ e mem r)(hd:dA N d=true)(h:AL P N ops l Q (aS e d r) mem):AL P N ops (⟨d,op,ty,pos,af,none⟩::l) Q e mem:=Jx ho trivial hd h
theorem dr{ops:Array Oper}{tail l:List Oper}{op:Op}{r:AV}(ho:bw P ⟨d,op,ty,pos,af,none⟩ e mem r)(hd:dA N d=true)(h:DS P N ops tail Q mem l (aS e d r)):DS P N ops tail Q mem (⟨d,op,ty,pos,af,none⟩::l) e:=JA ho trivial hd h
theorem at_{id:Nat}{l:List Oper}(h:AL P N l.toArray l Q e mem)(hd:jj l=true:=by kernel_rfl):AW M P N (.region id l.toArray false) Q e mem:=S4 hd h
theorem J8{a b:Nat}(h:Nat.ble a b=true):a<=b:=Nat.le_of_ble_eq_true h
theorem nh{ops:Array Oper}(h:∀ e1,Q .normal e1 mem):AL P N ops [] Q e mem:=lj (h e)
theorem aY{ops:Array Oper}{t0:Tmp}{a0:AV}(h0:ak e (.tmp t0)=a0)(h:∀ e1,ak e1 (.tmp t0)=a0->Q .normal e1 mem):AL P N ops [] Q e mem:=lj (h e h0)
theorem bq{ops:Array Oper}{t0 t1:Tmp}{a0 a1:AV}(h0:ak e (.tmp t0)=a0)(h1:ak e (.tmp t1)=a1)(h:∀ e1,ak e1 (.tmp t0)=a0->ak e1 (.tmp t1)=a1->Q .normal e1 mem):AL P N ops [] Q e mem:=lj (h e h0 h1)
theorem bJ{ops:Array Oper}{t0 t1 t2:Tmp}{a0 a1 a2:AV}(h0:ak e (.tmp t0)=a0)(h1:ak e (.tmp t1)=a1)(h2:ak e (.tmp t2)=a2)(h:∀ e1,ak e1 (.tmp t0)=a0->ak e1 (.tmp t1)=a1->ak e1 (.tmp t2)=a2->Q .normal e1 mem):AL P N ops [] Q e mem:=lj (h e h0 h1 h2)
theorem bp{ops:Array Oper}{t0 t1 t2 t3:Tmp}{a0 a1 a2 a3:AV}(h0:ak e (.tmp t0)=a0)(h1:ak e (.tmp t1)=a1)(h2:ak e (.tmp t2)=a2)(h3:ak e (.tmp t3)=a3)(h:∀ e1,ak e1 (.tmp t0)=a0->ak e1 (.tmp t1)=a1->ak e1 (.tmp t2)=a2->ak e1 (.tmp t3)=a3->Q .normal e1 mem):AL P N ops [] Q e mem:=lj (h e h0 h1 h2 h3)
theorem bR{ops:Array Oper}{t0 t1 t2 t3 t4:Tmp}{a0 a1 a2 a3 a4:AV}(h0:ak e (.tmp t0)=a0)(h1:ak e (.tmp t1)=a1)(h2:ak e (.tmp t2)=a2)(h3:ak e (.tmp t3)=a3)(h4:ak e (.tmp t4)=a4)(h:∀ e1,ak e1 (.tmp t0)=a0->ak e1 (.tmp t1)=a1->ak e1 (.tmp t2)=a2->ak e1 (.tmp t3)=a3->ak e1 (.tmp t4)=a4->Q .normal e1 mem):AL P N ops [] Q e mem:=lj (h e h0 h1 h2 h3 h4)
theorem dh{ops:Array Oper}{t0 t1 t2 t3 t4 t5:Tmp}{a0 a1 a2 a3 a4 a5:AV}(h0:ak e (.tmp t0)=a0)(h1:ak e (.tmp t1)=a1)(h2:ak e (.tmp t2)=a2)(h3:ak e (.tmp t3)=a3)(h4:ak e (.tmp t4)=a4)(h5:ak e (.tmp t5)=a5)(h:∀ e1,ak e1 (.tmp t0)=a0->ak e1 (.tmp t1)=a1->ak e1 (.tmp t2)=a2->ak e1 (.tmp t3)=a3->ak e1 (.tmp t4)=a4->ak e1 (.tmp t5)=a5->Q .normal e1 mem):AL P N ops [] Q e mem:=lj (h e h0 h1 h2 h3 h4 h5)
theorem fX{ops:Array Oper}{t0 t1 t2 t3 t4 t5 t6:Tmp}{a0 a1 a2 a3 a4 a5 a6:AV}(h0:ak e (.tmp t0)=a0)(h1:ak e (.tmp t1)=a1)(h2:ak e (.tmp t2)=a2)(h3:ak e (.tmp t3)=a3)(h4:ak e (.tmp t4)=a4)(h5:ak e (.tmp t5)=a5)(h6:ak e (.tmp t6)=a6)(h:∀ e1,ak e1 (.tmp t0)=a0->ak e1 (.tmp t1)=a1->ak e1 (.tmp t2)=a2->ak e1 (.tmp t3)=a3->ak e1 (.tmp t4)=a4->ak e1 (.tmp t5)=a5->ak e1 (.tmp t6)=a6->Q .normal e1 mem):AL P N ops [] Q e mem:=lj (h e h0 h1 h2 h3 h4 h5 h6)
theorem uQ{ops:Array Oper}{t0 t1 t2 t3 t4 t5 t6 t7:Tmp}{a0 a1 a2 a3 a4 a5 a6 a7:AV}(h0:ak e (.tmp t0)=a0)(h1:ak e (.tmp t1)=a1)(h2:ak e (.tmp t2)=a2)(h3:ak e (.tmp t3)=a3)(h4:ak e (.tmp t4)=a4)(h5:ak e (.tmp t5)=a5)(h6:ak e (.tmp t6)=a6)(h7:ak e (.tmp t7)=a7)(h:∀ e1,ak e1 (.tmp t0)=a0->ak e1 (.tmp t1)=a1->ak e1 (.tmp t2)=a2->ak e1 (.tmp t3)=a3->ak e1 (.tmp t4)=a4->ak e1 (.tmp t5)=a5->ak e1 (.tmp t6)=a6->ak e1 (.tmp t7)=a7->Q .normal e1 mem):AL P N ops [] Q e mem:=lj (h e h0 h1 h2 h3 h4 h5 h6 h7)
theorem oq{ops:Array Oper}{t0 t1 t2 t3 t4 t5 t6 t7 t8:Tmp}{a0 a1 a2 a3 a4 a5 a6 a7 a8:AV}(h0:ak e (.tmp t0)=a0)(h1:ak e (.tmp t1)=a1)(h2:ak e (.tmp t2)=a2)(h3:ak e (.tmp t3)=a3)(h4:ak e (.tmp t4)=a4)(h5:ak e (.tmp t5)=a5)(h6:ak e (.tmp t6)=a6)(h7:ak e (.tmp t7)=a7)(h8:ak e (.tmp t8)=a8)(h:∀ e1,ak e1 (.tmp t0)=a0->ak e1 (.tmp t1)=a1->ak e1 (.tmp t2)=a2->ak e1 (.tmp t3)=a3->ak e1 (.tmp t4)=a4->ak e1 (.tmp t5)=a5->ak e1 (.tmp t6)=a6->ak e1 (.tmp t7)=a7->ak e1 (.tmp t8)=a8->Q .normal e1 mem):AL P N ops [] Q e mem:=lj (h e h0 h1 h2 h3 h4 h5 h6 h7 h8)
theorem B2{ops:Array Oper}{t0 t1 t2 t3 t4 t5 t6 t7 t8 t9 t10:Tmp}{a0 a1 a2 a3 a4 a5 a6 a7 a8 a9 a10:AV}(h0:ak e (.tmp t0)=a0)(h1:ak e (.tmp t1)=a1)(h2:ak e (.tmp t2)=a2)(h3:ak e (.tmp t3)=a3)(h4:ak e (.tmp t4)=a4)(h5:ak e (.tmp t5)=a5)(h6:ak e (.tmp t6)=a6)(h7:ak e (.tmp t7)=a7)(h8:ak e (.tmp t8)=a8)(h9:ak e (.tmp t9)=a9)(h10:ak e (.tmp t10)=a10)(h:∀ e1,ak e1 (.tmp t0)=a0->ak e1 (.tmp t1)=a1->ak e1 (.tmp t2)=a2->ak e1 (.tmp t3)=a3->ak e1 (.tmp t4)=a4->ak e1 (.tmp t5)=a5->ak e1 (.tmp t6)=a6->ak e1 (.tmp t7)=a7->ak e1 (.tmp t8)=a8->ak e1 (.tmp t9)=a9->ak e1 (.tmp t10)=a10->Q .normal e1 mem):AL P N ops [] Q e mem:=lj (h e h0 h1 h2 h3 h4 h5 h6 h7 h8 h9 h10)
theorem B5{ops:Array Oper}{t0 t1 t2 t3 t4 t5 t6 t7 t8 t9 t10 t11:Tmp}{a0 a1 a2 a3 a4 a5 a6 a7 a8 a9 a10 a11:AV}(h0:ak e (.tmp t0)=a0)(h1:ak e (.tmp t1)=a1)(h2:ak e (.tmp t2)=a2)(h3:ak e (.tmp t3)=a3)(h4:ak e (.tmp t4)=a4)(h5:ak e (.tmp t5)=a5)(h6:ak e (.tmp t6)=a6)(h7:ak e (.tmp t7)=a7)(h8:ak e (.tmp t8)=a8)(h9:ak e (.tmp t9)=a9)(h10:ak e (.tmp t10)=a10)(h11:ak e (.tmp t11)=a11)(h:∀ e1,ak e1 (.tmp t0)=a0->ak e1 (.tmp t1)=a1->ak e1 (.tmp t2)=a2->ak e1 (.tmp t3)=a3->ak e1 (.tmp t4)=a4->ak e1 (.tmp t5)=a5->ak e1 (.tmp t6)=a6->ak e1 (.tmp t7)=a7->ak e1 (.tmp t8)=a8->ak e1 (.tmp t9)=a9->ak e1 (.tmp t10)=a10->ak e1 (.tmp t11)=a11->Q .normal e1 mem):AL P N ops [] Q e mem:=lj (h e h0 h1 h2 h3 h4 h5 h6 h7 h8 h9 h10 h11)
theorem WG{ops:Array Oper}{t0 t1 t2 t3 t4 t5 t6 t7 t8 t9 t10 t11 t12:Tmp}{a0 a1 a2 a3 a4 a5 a6 a7 a8 a9 a10 a11 a12:AV}(h0:ak e (.tmp t0)=a0)(h1:ak e (.tmp t1)=a1)(h2:ak e (.tmp t2)=a2)(h3:ak e (.tmp t3)=a3)(h4:ak e (.tmp t4)=a4)(h5:ak e (.tmp t5)=a5)(h6:ak e (.tmp t6)=a6)(h7:ak e (.tmp t7)=a7)(h8:ak e (.tmp t8)=a8)(h9:ak e (.tmp t9)=a9)(h10:ak e (.tmp t10)=a10)(h11:ak e (.tmp t11)=a11)(h12:ak e (.tmp t12)=a12)(h:∀ e1,ak e1 (.tmp t0)=a0->ak e1 (.tmp t1)=a1->ak e1 (.tmp t2)=a2->ak e1 (.tmp t3)=a3->ak e1 (.tmp t4)=a4->ak e1 (.tmp t5)=a5->ak e1 (.tmp t6)=a6->ak e1 (.tmp t7)=a7->ak e1 (.tmp t8)=a8->ak e1 (.tmp t9)=a9->ak e1 (.tmp t10)=a10->ak e1 (.tmp t11)=a11->ak e1 (.tmp t12)=a12->Q .normal e1 mem):AL P N ops [] Q e mem:=lj (h e h0 h1 h2 h3 h4 h5 h6 h7 h8 h9 h10 h11 h12)
theorem aF{ops:Array Oper}{l:List Oper}{op:Op}(hg:Ng ops ⟨d,op,ty,pos,af,g⟩ e)(hd:dA N d=true)(h:AL P N ops l Q (aS e d (.v undef)) mem):AL P N ops (⟨d,op,ty,pos,af,g⟩::l) Q e mem:=S1 hg hd h
theorem bW{ops:Array Oper}{tail l:List Oper}{op:Op}(hg:Ng ops ⟨d,op,ty,pos,af,g⟩ e)(hd:dA N d=true)(h:DS P N ops tail Q mem l (aS e d (.v undef))):DS P N ops tail Q mem (⟨d,op,ty,pos,af,g⟩::l) e:=S8 hg hd h
theorem bQ{ops:Array Oper}{l:List Oper}{s:Tmp}{b:Bool}(hb:ak e (.tmp s)= .v (.bool b))(ht:ak e (.tmp s)= .v (.bool true)->b=true->AL P N ops l Q e mem)(hf:ak e (.tmp s)= .v (.bool false)->b=false->AL P N ops l Q e mem):AL P N ops l Q e mem:=xp hb ht hf
theorem gh{ops:Array Oper}{tail l:List Oper}{s:Tmp}{b:Bool}(hb:ak e (.tmp s)= .v (.bool b))(ht:ak e (.tmp s)= .v (.bool true)->b=true->DS P N ops tail Q mem l e)(hf:ak e (.tmp s)= .v (.bool false)->b=false->DS P N ops tail Q mem l e):DS P N ops tail Q mem l e:=xp hb ht hf
theorem bj{c:Operand}{x y:Code}{b:Bool}(hc:ak e c= .v (.bool b))(ht:b=true->AW M P N x Q e mem)(hf:b=false->AW M P N y Q e mem):AW M P N (.cond c x y) Q e mem:=zY hc ht hf
section
variable {m:List Ob} {o o0:Ob} {i j n:Nat} {q:Option Ob}
theorem aZ(h:m=mem.set j o)(hj:mem[j]? =some o0):m[j]? =some o:=by subst h;rw [Xt (Xe.1 hj).1]
theorem aw(h:m=mem.set j o)(hi:mem[i]? =q)(hij:i≠j):m[i]? =q:=by subst h;rw [Xm (Ne.symm hij)];exact hi
theorem aX(h:m=mem.set j o)(hl:mem.length=n):m.length=n:=by subst h;simpa using hl
theorem bu(h:m=mem++ [o])(hl:mem.length=n):m[n]? =some o:=by subst h;subst hl;simp
theorem aK(h:m=mem++ [o])(hi:mem[i]? =some o0):m[i]? =some o0:=by subst h;rw [Xj (Xe.1 hi).1];exact hi
theorem br(h:m=mem++ [o])(hl:mem.length=n):m.length=n+1:=by subst h;simp [hl]
theorem qy(h:m=mem.set j .gone ++ [o])(hl:mem.length=n):m[n]? =some o:=by subst h;subst hl;simp
theorem fG(h:m=mem.set j .gone ++ [o])(hi:mem[i]? =some o0)(hij:i≠j):m[i]? =some o0:=by
 subst h;rw [Xj (by have:=(Xe.1 hi).1;simpa using this),Xm (Ne.symm hij)];exact hi
theorem qb(h:m=mem.set j .gone ++ [o])(hl:mem.length=n):m.length=n+1:=by subst h;simp [hl]
end
theorem bt{p:Prop}[Decidable p](h:decide p=true):p:=of_decide_eq_true h
theorem bf{p:Prop}[Decidable p](h:decide p=false):¬ p:=of_decide_eq_false h
theorem dR{p:Prop}[Decidable p](h:(!decide p)=true):¬ p:=by simpa using h
theorem dp{p:Prop}[Decidable p](h:(!decide p)=false):p:=by simpa using h
theorem di{b:Bool}(h:(!b)=true):b=false:=by simpa using h
theorem dm{b:Bool}(h:(!b)=false):b=true:=by simpa using h
theorem cu{a b:Bool}(h:a=true↔b=true):AV.v (.bool a)=AV.v (.bool b):=by rw [Yl.2 h]
def cj(P:Program)(S i off:Nat)(row:Bool)(n:Nat):Prop:=(match P.underlying S with|some (.struct fs)=>(fs[i]?).bind λf=>if f.offset=off then(match P.underlying f.type with|some d=>some (d.isRow,(P.info? f.type).map (·.size))|none=>none)else none|_=>none)=some (row,some n)
theorem cj.get{S i off n:Nat}{row:Bool}(h:cj P S i off row n):∃ fs f,P.underlying S=some (.struct fs)/\fs[i]? =some f/\f.offset=off/\aQ P f.type row n:=by
 unfold cj at h
 split at h
 ·rename_i fs hu
  cases hf:fs[i]? with
  | none=>rw [hf]at h;cases h
  | some f=>
   rw [hf]at h;simp only [Option.bind_some]at h
   split at h
   ·rename_i ho
    refine⟨fs,f,hu,hf,ho,?_⟩;unfold aQ
    split at h
    ·rename_i dd hd
     rw [hd];simp only [Option.some.injEq,Prod.mk.injEq]at h;exact⟨congrArg some h.1,h.2⟩
    ·cases h
   ·cases h
 ·cases h
theorem bY{cells:List AV}{i n off:Nat}{row:Bool}(hF:cj P t i off row n)(h0:(n != 0)=true)(hx:ak e x= .ref cells):bw P ⟨d,.fieldAddr t x i,ty,pos,af,g⟩ e mem (.ref (cells.drop off)):=
 let ⟨_,_,h1,h2,h3,h4⟩:=hF.get;Kz hx h1 h2 h3 h4 (by simpa using h0)
theorem aI{j o i n off:Nat}{row:Bool}(hF:cj P t i off row n)(h0:(n != 0)=true)(hx:ak e x= .ptr j o):bw P ⟨d,.fieldAddr t x i,ty,pos,af,g⟩ e mem (.ptr j (o+off)):=
 let ⟨_,_,h1,h2,h3,h4⟩:=hF.get;KA hx h1 h2 h3 h4 (by simpa using h0)
theorem bF{n:Nat}{row:Bool}{cells:List AV}(ht:aQ P t row n)(h1:(row||n==1)=true)(hx:ak e x= .ref cells)(hn:n<=cells.length):bw P ⟨d,.load t x,ty,pos,af,g⟩ e mem (fW row n cells):=
 Ln hx ht hn mT
theorem aH{j off n:Nat}{row:Bool}{T:TypeId}{cells:List AV}(ht:aQ P t row n)(h1:(row||n==1)=true)(hm:mem[j]? =some (.box T cells))(hx:ak e x= .ptr j off)(hn:off+n<=cells.length):bw P ⟨d,.load t x,ty,pos,af,g⟩ e mem (fW row n (cells.drop off)):=
 Lo hx hm ht hn mT
theorem lD{j i n k:Nat}{row:Bool}{T:TypeId}{els:List (List AV)}{el:List AV}(ht:aQ P t row n)(h1:(row||n==1)=true)(hm:mem[j]? =some (.row T k els))(hx:ak e x= .ptr j (i*k))(hn:n<=k)(hel:els[i]? =some el):bw P ⟨d,.load t x,ty,pos,af,g⟩ e mem (fW row n el):=
 LS hx hm rfl hel ht hn mT
def bO(P:Program)(t eT k bytes:Nat)(zv:Value):Prop:=P.underlying t=some (.slice eT)/\(P.info? eT).map (λi=>(i.zero,i.size,i.bytes))=some (some zv,k,bytes)/\(match P.underlying eT with|some d=>some d.isRow|none=>none).isSome =true
theorem bO.info{eT k bytes:Nat}{zv:Value}(h:bO P t eT k bytes zv):∃ i,P.info? eT=some i/\i.zero=some zv/\i.size=k/\i.bytes=bytes:=by
 have:=h.2.1;cases hi:P.info? eT with
 | none=>rw [hi]at this;cases this
 | some i=>rw [hi]at this;simp only [Option.map_some,Option.some.injEq,Prod.mk.injEq]at this;exact⟨i,rfl,this⟩
theorem bO.ya{eT k bytes:Nat}{zv:Value}(h:bO P t eT k bytes zv):∃ row,aQ P eT row k:=by
 obtain⟨i,h1,h2,h3,h4⟩:=h.info;have:=h.2.2;cases hd:(match P.underlying eT with|some d=>some d.isRow|none=>none)with
 | none=>rw [hd]at this;cases this
 | some row=>exact⟨row,hd,by rw [h1];simp [h3]⟩
theorem cP{els:List (List AV)}{el:List AV}{k bytes eT:Nat}{zv:Value}{i:Int}{kk:IntKind}(ht:bO P t eT k bytes zv)(hx:ak e x= .row k els)(hy:ak e y= .v (.int kk i))(h0:0<=i)(hel:els[i.toNat]? =some el):bw P ⟨d,.indexAddr t x y,ty,pos,af,g⟩ e mem (.ref el):=
 let ⟨_,h⟩:=ht.ya;K3 hx hy ht.1 h h0 hel
theorem jK{j:Nat}{els:List (List AV)}{k bytes eT T:Nat}{zv:Value}{i:Int}{kk:IntKind}(ht:bO P t eT k bytes zv)(hm:mem[j]? =some (.row T k els))(hx:ak e x= .own j)(hy:ak e y= .v (.int kk i))(h0:0<=i)(h1:i<els.length):bw P ⟨d,.indexAddr t x y,ty,pos,af,g⟩ e mem (.ptr j (i.toNat*k)):=
 let ⟨_,h⟩:=ht.ya;KB hx hm hy ht.1 h h0 h1
theorem nJ{j k bytes eT:Nat}{zv:Value}{els els2:List (List AV)}(ht:bO P t eT k bytes zv)(hk:(zv.cells.size==k&&decide (0<k)&&decide (0<bytes))=true)(hm:mem[j]? =some (.row eT k els))(hx:ak e x= .own j)(hy:ak e y= .row k els2)(hone:els2.flatten.all lr=true)(hb:(els.length+els2.length)*bytes<=140737488355328):
 sC P ⟨d,.call ⟨.builtin .append,#[x,y],#[t,t]⟩,ty,pos,af,g⟩ e mem j (.row eT k (els++els2)) (λj=>.own j):=by
 obtain⟨i,h1,h2,h3,h4⟩:=ht.info;simp only [Xg,beq_iff_eq,decide_eq_true_eq]at hk;exact Nb hx hm hy hone ht.1 h1 h2 h3 h4 hk.1.1 hk.1.2 hk.2 hb
theorem oY{j m k bytes eT:Nat}{zv:Value}{els els2:List (List AV)}(ht:bO P t eT k bytes zv)(hk:(zv.cells.size==k&&decide (0<k)&&decide (0<bytes))=true)(hl:mem.length=m)(hm:mem[j]? =some (.row eT k els))(hx:ak e x= .own j)(hy:ak e y= .row k els2)(hone:els2.flatten.all lr=true)(hb:(els.length+els2.length)*bytes<=140737488355328):
 eE P ⟨d,.call ⟨.builtin .append,#[x,y],#[t,t]⟩,ty,pos,af,g⟩ e mem (.own m) (mem.set j .gone ++ [.row eT k (els++els2)]):=Jz (h:=λj=>.own j) (nJ ht hk hm hx hy hone hb) hl
theorem wy{k bytes eT:Nat}{zv:Value}{els2:List (List AV)}(ht:bO P t eT k bytes zv)(hk:(zv.cells.size==k&&decide (0<k)&&decide (0<bytes))=true)(hx:ak e x= .v (.slice none 0 0))(hy:ak e y= .row k els2)(hone:els2.flatten.all lr=true)(hb:els2.length*bytes<=140737488355328):
 kN P ⟨d,.call ⟨.builtin .append,#[x,y],#[t,t]⟩,ty,pos,af,g⟩ e mem (.row eT k els2) (λj=>.own j):=by
 obtain⟨i,h1,h2,h3,h4⟩:=ht.info;simp only [Xg,beq_iff_eq,decide_eq_true_eq]at hk;exact LW hx hy hone ht.1 h1 h2 h3 h4 hk.1.1 hk.1.2 hk.2 hb
theorem V4{k bytes eT:Nat}{zv:Value}{zs:List AV}{n:Int}{kl:IntKind}(ht:bO P t eT k bytes zv)(hk:(zv.cells.size==k&&decide (0<bytes))=true)(hzs:zv.cells.toList.map AV.v=zs)(hx:ak e x= .v (.int kl n))(hy:ak e y= .v (.int kl n))(h0:0<=n)(hb:bytes*n.toNat<=281474976710656):
 kN P ⟨d,.makeSlice t x y,ty,pos,af,g⟩ e mem (.row eT k (List.replicate n.toNat zs)) (λj=>.own j):=by
 obtain⟨i,h1,h2,h3,h4⟩:=ht.info;simp only [Xg,beq_iff_eq,decide_eq_true_eq]at hk;exact Ta hx hy h0 ht.1 h1 h2 h3 h4 hzs hk.1 hk.2 hb
theorem V5{m k bytes eT:Nat}{zv:Value}{zs:List AV}{n:Int}{kl:IntKind}(ht:bO P t eT k bytes zv)(hk:(zv.cells.size==k&&decide (0<bytes))=true)(hzs:zv.cells.toList.map AV.v=zs)(hl:mem.length=m)(hx:ak e x= .v (.int kl n))(hy:ak e y= .v (.int kl n))(h0:0<=n)(hb:bytes*n.toNat<=281474976710656):
 eE P ⟨d,.makeSlice t x y,ty,pos,af,g⟩ e mem (.own m) (mem++ [.row eT k (List.replicate n.toNat zs)]):=qJ (h:=λj=>.own j) (V4 ht hk hzs hx hy h0 hb) hl
theorem ez{ps:Array (Nat×Operand)}{pl:List (Nat×AV)}{n k bytes eT:Nat}{zv:Value}{els:List (List AV)}(ht:bO P t eT k bytes zv)(hps:iZ e ps.toList=pl)(hn:pl.length=n)(hsm:(decide (n*k<=2^24)&&decide (0<n*k))=true)(hl:mw k 0 pl=some els)(hro:cC.roL els.flatten=true):
 bw P ⟨d,.buildSlice t n ps,ty,pos,af,g⟩ e mem (.row k els):=by
 obtain⟨i,h1,h2,h3,h4⟩:=ht.info;simp only [Xg,decide_eq_true_eq]at hsm;exact KQ hps ht.1 h1 h3 h2 hn ah ah hl hro
theorem IS{ps:Array (Nat×Operand)}{pl:List (Nat×AV)}{n k bytes eT:Nat}{zv:Value}{els:List (List AV)}(ht:bO P t eT k bytes zv)(hps:iZ e ps.toList=pl)(hn:pl.length=n)(hsm:(decide (n*k<=2^24)&&decide (0<n*k))=true)(hel:mw k 0 pl=some els)(hro:cC.roL els.flatten=true):
 kN P ⟨d,.buildSlice t n ps,ty,pos,af,g⟩ e mem (.row eT k els) (λj=>.own j):=by
 obtain⟨ie,hie,hz,hk,_⟩:=ht.info;simp only [Xg,decide_eq_true_eq]at hsm;intro pb w0 θ w ev hs h;subst hps;have hpl:ps.toList.length=n:=by rw [<- hn];simp [iZ]
 obtain⟨cs',h1,h2,h3,h4⟩:=zo (θ:=θ) (pr:=aO pb θ mem) (w:=w) (ev:=ev) (k:=k) (n:=0) (cs:=(Array.range (n*k)).map (zv.cells[· %zv.cells.size]!)) (λq hq=>h q.2 (by
  simp only [Op.operands,YY,XL];exact⟨q,hq,rfl⟩)) (by rw [Xl,hpl];simp) hel
 have hrun:=run_buildSlice (P:=P) w t eT n (ps.map λ(i,x)=>(i,aT ev x)) cs' ie zv ht.1 hie hz (by rw [hk];omega) (by rw [hk];omega) (by
  rw [hk,vk];simpa using h1)
 have e1:execOp (aT ev) ⟨d,.buildSlice t n ps,ty,pos,af,g⟩=(do pure (.value (<- Instr.buildSlice t n (ps.map λ(i,x)=>(i,aT ev x))))):=rfl;rw [e1,Sem.run_bind,hrun];obtain⟨hl1,hl2⟩:=zn hel;have hlen:els.length=n:=by rw [hl1];exact hn
 have hfl:=fF hl2;have hsz:cs'.size=n*k:=by rw [h2];simp
 have hmax:n<=maxLen:=by
  have:0<k:=Nat.pos_of_ne_zero (λh=>by rw [h]at hsm;simp at hsm);have:=YO n this;simp only [maxLen];omega
 refine⟨(Ext.refl w).alloc _,ug,λθ' pr k1=>?_,λθ' pr j hj=>.own j _ hj rfl⟩;refine⟨cs'.toList,by rw [hlen];exact World.ownsRow_lit w cs' n (Xy _) hmax hsz,(λb hb=>by have hb':some w.heap.size=some b:=hb;cases hb';exact .inl hs.base),hl2,λi a u ha hu=>?_⟩;have:=h4 i a u ha (by rw [Nat.zero_mul,Xl];exact hu);exact(k1 a u this).gr (gy hro ha)
theorem U8{ps:Array (Nat×Operand)}{pl:List (Nat×AV)}{n k bytes eT m:Nat}{zv:Value}{els:List (List AV)}(ht:bO P t eT k bytes zv)(hl:mem.length=m)(hps:iZ e ps.toList=pl)(hn:pl.length=n)(hsm:(decide (n*k<=2^24)&&decide (0<n*k))=true)(hel:mw k 0 pl=some els)(hro:cC.roL els.flatten=true):
 eE P ⟨d,.buildSlice t n ps,ty,pos,af,g⟩ e mem (.own m) (mem++ [.row eT k els]):=qJ (h:=λj=>.own j) (IS ht hps hn hsm hel hro) hl
theorem R1.set{θ:List Value}{pr:Nat->Prop}{w:World}{s:Tmp}{r:AV}{v:Nat->Value}(h:∀ t,R1 θ pr w (e t) (v t))(hr:R1 θ pr w r (v s)):∀ t,R1 θ pr w (aS e (some s) r t) (v t):=λt=>by
 by_cases ht:t=s
 ·subst ht;simp only [aS,if_true];exact hr
 ·simp only [aS,if_neg ht];exact h t
theorem EI{c:Code}{s m:Nat}(eT k:Nat)(hs:ak e (.tmp s)= .v (.slice none 0 0))(hl:mem.length=m)(h:∀ m1 e1,m1=mem++ [.row eT k []]->e1=aS e (some s) (.own m)->AW M P N c Q e1 m1):AW M P N c Q e mem:=by
 refine λF n hF pb w0 θ a w hf=>?_
 subst hl;have st:Step pb w0 θ mem w (θ++ [.slice none 0 0]) (mem++ [.row eT k []]) w:=Step.new hf.sim (Ext.refl w) _ _ (λb hb=>by cases hb) λθ' pr _=>
  ⟨[],World.ownsRow_nil w _ eT k,(λb hb=>by cases hb),aN,λi a u h=>by simp at h⟩
 refine wpIn_mono (h _ _ rfl rfl F n hF pb w0 (θ++ [.slice none 0 0]) a w ⟨hf.size,hf.dfr.step st,R1.set (λt=>st.keep _ _ (hf.sl t)) ?_,st.sim⟩) λ_ _ _ hq=>hq.after st
 have:=hf.sl s;rw [show e s= .v (.slice none 0 0)from hs]at this;rw [this.val];exact .own _ _ (U7 hf.sim _) rfl
end
theorem Hq{n:Nat}{l:List AV}:fW true n l= .agg (l.take n):=rfl
theorem Hr{n:Nat}{l:List AV}:fW false n l=l.headD .any :=rfl
def eP(P:Program)(t:TypeId):Array Field:=match P.underlying t with|some (.struct fs)=>fs|_=> #[]
theorem eB{mem:List Ob}{n:Nat}{l:List AV}{r:AV}(h:Vw mem (.agg (l.take n)) r):Vw mem (fW true n l) r:=h
theorem qQ{mem:List Ob}{a b:AV}{l:List AV}(h:Vw mem a b):Vw mem (fW false 1 (a::l)) b:=h
theorem uk{mem:List Ob}{j off:Nat}{T:TypeId}{cells cells':List AV}(hm:mem[j]? =some (.box T cells))(h:lX mem cells cells'):Vw mem (.ptr j off) (.ref (cells'.drop off)):=.ptr j off T cells cells' hm h.spec.1 h.spec.2
def J0(P:Program)(t len k:Nat):Prop:=(match P.underlying t with|some (.array n _)=>some n|_=>none)=some len/\(match P.underlying t with|some (.array _ eT)=>(P.info? eT).map (·.size)|_=>none)=some k
theorem xq{P:Program}{e:Nat->AV}{mem:List Ob}{d:Option Tmp}{ty t:TypeId}{pos:String}{af:Array Edge}{g:Option (Nat×Bool)}{x y:Operand}{j off len k:Nat}{i:Int}{kk:IntKind}(ht:J0 P t len k)(hx:ak e x= .ptr j off)(hy:ak e y= .v (.int kk i))(h:(decide (0<=i)&&decide (i<len))=true):
 bw P ⟨d,.indexAddr t x y,ty,pos,af,g⟩ e mem (.ptr j (off+i.toNat*k)):=by
 intro pb w0 θ w ev hs h';have h1:=h' x cE;have h2:=h' y cE;rw [hx]at h1;rw [hy]at h2;obtain⟨b,v,hθ,hbase,hp⟩:=h1.gk;simp only [Xg,decide_eq_true_eq]at h;rw [yC hp h2.val,Sem.run_bind];obtain⟨q1,q2⟩:=ht;cases hu:P.underlying t with
 | none=>rw [hu]at q1;cases q1
 | some dd=>
  rw [hu]at q1 q2;cases dd with
  | array n eT=>
   simp only [Option.some.injEq]at q1 q2;subst q1;have hsz:∀ w,(Go.sizeOf eT).run P w= .ok k w:=λw=>by
    cases hq:P.info? eT with
    | none=>rw [hq]at q2;cases q2
    | some i=>rw [hq]at q2;simp at q2;simp [Go.sizeOf,typeInfo,hq,q2]
   have hr:(Instr.indexAt t (.pointer (some ⟨b,off,none⟩)) (.int kk i)).run P w= .ok (.pointer (some ⟨b,off+i.toNat*k,none⟩)) w:=by
    unfold Instr.indexAt;simp [asIntOf,run_underlying hu,Instr.sureAddr,h.1,h.2,hsz,Sem.run_bind,uj]
   rw [hr];exact⟨.ptr j _ b v hθ hbase,Ext.refl w⟩
  | _=>cases q1
def iE(n:Int):List AV:= [.v (.int .i64 n)]
def bE(n:UInt8):List AV:= [.v (.int .u8 n.toNat)]
theorem eb{α:Type}[Inhabited α]{f:α->List AV}{l:List α}{k:Nat}(h:k<l.length):(l.map f)[((k:Int)).toNat]? =some (f (l.getD k default)):=by
 simp [h,Xc]
theorem cO{α:Type}[Inhabited α]{f:α->List AV}{l:List α}{i:Int}(h:i.toNat<l.length):(l.map f)[i.toNat]? =some (f (l.getD i.toNat default)):=by
 simp [h,Xc]
theorem ky{α:Type}[Inhabited α]{f:α->List AV}{l:List α}{k:Nat}(h:k<l.length):(l.map f)[k]? =some (f (l.getD k default)):=by
 simp [h,Xc]
theorem Ab{s:ByteArray}{i:Nat}(h:i<s.size):s[i]? =some (s.data.toList.getD i default):=by
 have h':i<s.data.size:=h;rw [getElem?_pos s i h];simp only [Xc,Array.getElem?_toList];rw [X9 h'];rfl
theorem bK{α:Type}(f:α->List AV)(l l':List α):l.map f++l'.map f=(l++l').map f:=YB.symm
theorem cV{mem:List Ob}{o:Ob}{j n:Nat}(h:mem[j]? =some o)(hl:mem.length=n):j<n:=by subst hl;exact(Xe.1 h).1
theorem jV(xs:List Int)(i:Nat)(n:Int):(xs.map iE).set i [.v (.int .i64 n)]=(xs.set i n).map iE:=by simp [List.map_set,iE]
theorem jW(k:Nat):List.replicate k [AV.v (.int .i64 0)]=(List.replicate k (0:Int)).map iE:=by simp [iE]
theorem bU(n:Int): [[AV.v (.int .i64 n)]]= [n].map iE:=by simp [iE]
theorem ae{e:Nat->AV}{t d:Tmp}{r a:AV}(h:ak e (.tmp t)=a)(hd:(t==d)=false:=by rfl):ak (aS e (some d) r) (.tmp t)=a:=eO hd h
theorem ag{e:Nat->AV}{t d0 d1:Tmp}{r0 r1 a:AV}(h:ak e (.tmp t)=a)(hd:(t==d0||t==d1)=false:=by rfl):ak (aS (aS e (some d0) r0) (some d1) r1) (.tmp t)=a:=u2 hd h
theorem aj{e:Nat->AV}{t d0 d1 d2 d3:Tmp}{r0 r1 r2 r3 a:AV}(h:ak e (.tmp t)=a)(hd:(t==d0||t==d1||t==d2||t==d3)=false:=by rfl):ak (aS (aS (aS (aS e (some d0) r0) (some d1) r1) (some d2) r2) (some d3) r3) (.tmp t)=a:=u4 hd h
theorem aA{e:Nat->AV}{t d0 d1 d2 d3 d4 d5 d6 d7:Tmp}{r0 r1 r2 r3 r4 r5 r6 r7 a:AV}(h:ak e (.tmp t)=a)(hd:(t==d0||t==d1||t==d2||t==d3||t==d4||t==d5||t==d6||t==d7)=false:=by rfl):ak (aS (aS (aS (aS (aS (aS (aS (aS e (some d0) r0) (some d1) r1) (some d2) r2) (some d3) r3) (some d4) r4) (some d5) r5) (some d6) r6) (some d7) r7) (.tmp t)=a:=u8 hd h
theorem aJ{e:Nat->AV}{t d0 d1 d2 d3 d4 d5 d6 d7 d8 d9 d10 d11 d12 d13 d14 d15:Tmp}{r0 r1 r2 r3 r4 r5 r6 r7 r8 r9 r10 r11 r12 r13 r14 r15 a:AV}(h:ak e (.tmp t)=a)(hd:(t==d0||t==d1||t==d2||t==d3||t==d4||t==d5||t==d6||t==d7||t==d8||t==d9||t==d10||t==d11||t==d12||t==d13||t==d14||t==d15)=false:=by rfl):ak (aS (aS (aS (aS (aS (aS (aS (aS (aS (aS (aS (aS (aS (aS (aS (aS e (some d0) r0) (some d1) r1) (some d2) r2) (some d3) r3) (some d4) r4) (some d5) r5) (some d6) r6) (some d7) r7) (some d8) r8) (some d9) r9) (some d10) r10) (some d11) r11) (some d12) r12) (some d13) r13) (some d14) r14) (some d15) r15) (.tmp t)=a:=u16 hd h
end Go.Proofs.YtbmlgmblfboigaaGreatDoor
