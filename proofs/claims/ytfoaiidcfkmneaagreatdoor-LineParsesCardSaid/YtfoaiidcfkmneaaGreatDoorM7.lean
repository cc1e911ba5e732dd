/- Texts of this claim, one behind the other: lemmas for the statement. -/
import Derived.Test.YtfoaiidcfkmneaaGreatDoorA43
set_option linter.unusedSimpArgs false
set_option linter.unusedVariables false
namespace Go.Proofs.YtfoaiidcfkmneaaGreatDoor
open Go Go.RowKit Go.Proofs
section
variable {P:Program} {N:Nat} {Q:AQ} {e:Nat->AV} {mem:List Ob} {g:Operand} {assign body:Code} {gf:FuncId} {l m:List AV} {j:Nat} {T:TypeId} {c0:List AV}
end
theorem LS{m:List Ob}{j n:Nat}{o:Ob}(h:m.length=n):(m.set j o).length =n:=by simpa using h
end Go.Proofs.YtfoaiidcfkmneaaGreatDoor
namespace Go.Proofs.YtfoaiidcfkmneaaGreatDoor
open Go Go.RowKit
section
variable {P:Program} {e:Nat->AV} {mem:List Ob}
end
end Go.Proofs.YtfoaiidcfkmneaaGreatDoor
namespace Go.Proofs.YtfoaiidcfkmneaaGreatDoor
open Go Go.RowKit
section
variable {P:Program} {e:Nat->AV} {mem:List Ob}
theorem HY{fn:Func}{rv1 rv2 rv3 rv4:ResultVar}(h:fn.results= #[rv1,rv2,rv3,rv4])(tmps:Array Value){w:World}{v1 v2 v3 v4:Value}(h1:(fE tmps rv1).run P w= .ok v1 w)(h2:(fE tmps rv2).run P w= .ok v2 w)(h3:(fE tmps rv3).run P w= .ok v3 w)(h4:(fE tmps rv4).run P w= .ok v4 w):(results fn tmps).run P w= .ok (.tuple #[v1,v2,v3,v4]) w:=by
 have e:results fn tmps=(do let a <- fE tmps rv1;let b <- fE tmps rv2;let c <- fE tmps rv3;let d <- fE tmps rv4;pure (.tuple #[a,b,c,d])):=by
  unfold results;rw [h];cases rv1<;>cases rv2<;>cases rv3<;>cases rv4<;>simp [fE]
 rw [e];simp [Sem.run_bind,h1,h2,h3,h4]
theorem rp{N:Nat}{fn:Func}{ψ:AV->Prop}{x:Exit}(hx:x= .normal \/x= .ret){rv1 rv2 rv3 rv4:ResultVar}{a1 a2 a3 a4 r1 r2 r3 r4:AV}(hr:fn.results= #[rv1,rv2,rv3,rv4])(h1:kf P e mem rv1 a1)(h2:kf P e mem rv2 a2)(h3:kf P e mem rv3 a3)(h4:kf P e mem rv4 a4)(hv1:Vw mem a1 r1)(hv2:Vw mem a2 r2)(hv3:Vw mem a3 r3)(hv4:Vw mem a4 r4)(hψ:ψ (.tuple [r1,r2,r3,r4])):ic P N fn ψ x e mem:=by
 refine⟨hx,_,hψ,λpb w0 θ w act hf=>?_⟩;obtain⟨v1,q1,p1⟩:=lx hf h1;obtain⟨v2,q2,p2⟩:=lx hf h2;obtain⟨v3,q3,p3⟩:=lx hf h3;obtain⟨v4,q4,p4⟩:=lx hf h4;refine⟨.tuple #[v1,v2,v3,v4],HY hr _ q1 q2 q3 q4,.tuple _ [v1,v2,v3,v4] rfl λi a u ha hu=>?_⟩;rcases i with _|_|_|_|i
 ·simp at ha hu;subst ha hu;exact hv1.ok hf.sim p1
 ·simp at ha hu;subst ha hu;exact hv2.ok hf.sim p2
 ·simp at ha hu;subst ha hu;exact hv3.ok hf.sim p3
 ·simp at ha hu;subst ha hu;exact hv4.ok hf.sim p4
 ·simp at ha
end
end Go.Proofs.YtfoaiidcfkmneaaGreatDoor
