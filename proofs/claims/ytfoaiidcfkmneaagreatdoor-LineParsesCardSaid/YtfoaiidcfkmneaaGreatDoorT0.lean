/- Lemmas for the statement. -/
import Derived.Test.YtfoaiidcfkmneaaGreatDoorProg
import Derived.Test.YtfoaiidcfkmneaaGreatDoorA1
import Derived.Test.YtfoaiidcfkmneaaGreatDoorA2
import Derived.Test.YtfoaiidcfkmneaaGreatDoorA4
import Derived.Test.YtfoaiidcfkmneaaGreatDoorA5
import Derived.Test.YtfoaiidcfkmneaaGreatDoorA6
import Derived.Test.YtfoaiidcfkmneaaGreatDoorA3
import Derived.Test.YtfoaiidcfkmneaaGreatDoorA7
import Derived.Test.YtfoaiidcfkmneaaGreatDoorA8
import Derived.Test.YtfoaiidcfkmneaaGreatDoorA9
import Derived.Test.YtfoaiidcfkmneaaGreatDoorM2
import Derived.Test.YtfoaiidcfkmneaaGreatDoorA12
import Derived.Test.YtfoaiidcfkmneaaGreatDoorM3
import Derived.Test.YtfoaiidcfkmneaaGreatDoorA14
import Derived.Test.YtfoaiidcfkmneaaGreatDoorA15
import Derived.Test.YtfoaiidcfkmneaaGreatDoorA16
import Derived.Test.YtfoaiidcfkmneaaGreatDoorM4
import Derived.Test.YtfoaiidcfkmneaaGreatDoorA25
import Derived.Test.YtfoaiidcfkmneaaGreatDoorM5
import Derived.Test.YtfoaiidcfkmneaaGreatDoorA40
import Derived.Test.YtfoaiidcfkmneaaGreatDoorA41
import Derived.Test.YtfoaiidcfkmneaaGreatDoorM6
import Derived.Test.YtfoaiidcfkmneaaGreatDoorA52
import Derived.Test.YtfoaiidcfkmneaaGreatDoorA53
import Derived.Test.YtfoaiidcfkmneaaGreatDoorA18
import Derived.Test.YtfoaiidcfkmneaaGreatDoorA43
import Derived.Test.YtfoaiidcfkmneaaGreatDoorM7
import Derived.Test.YtfoaiidcfkmneaaGreatDoorA54
import Derived.Test.YtfoaiidcfkmneaaGreatDoorM8
import Derived.Test.YtfoaiidcfkmneaaGreatDoorA57
import Derived.Test.YtfoaiidcfkmneaaGreatDoorA58
import Derived.Test.YtfoaiidcfkmneaaGreatDoorA59
import Derived.Test.YtfoaiidcfkmneaaGreatDoorA27
namespace Go.Proofs.YtfoaiidcfkmneaaGreatDoor
open Go Go.RowKit Go.Proofs
set_option linter.unusedSimpArgs false
set_option linter.unusedVariables false
theorem zb:(Tryz.prog.info? 134).bind (·.zero)=some (.agg #[.int .i64 0,.int .i64 0,.int .i64 0]):=by kernel_rfl
theorem mf:(Tryz.prog.info? 27).bind (·.zero)=some (.agg #[.string ByteArray.empty,.slice none 0 0,.slice none 0 0,.slice none 0 0]):=by kernel_rfl
theorem om:(Tryz.prog.info? 29).bind (·.zero)=some (.agg #[.int .i64 0,.int .i64 0]):=by kernel_rfl
theorem zQ:(Tryz.prog.info? 30).bind (·.zero)=some (.int .i64 0):=by kernel_rfl
theorem vZ:(Tryz.prog.info? 42).bind (·.zero)=some (.agg #[.int .i64 0,.int .i64 0]):=by kernel_rfl
theorem kH:(Tryz.prog.info? 54).bind (·.zero)=some (.agg #[.string ByteArray.empty,.int .i64 0]):=by kernel_rfl
theorem v7:(Tryz.prog.info? 74).bind (·.zero)=some (.agg #[.int .i64 0,.int .i64 0,.int .i64 0,.int .i64 0]):=by kernel_rfl
theorem v8:(Tryz.prog.info? 76).bind (·.zero)=some (.agg #[.int .i64 0,.int .i64 0]):=by kernel_rfl
theorem ra:(Tryz.prog.info? 78).bind (·.zero)=some (.agg #[.string ByteArray.empty,.int .i64 0,.slice none 0 0]):=by kernel_rfl
theorem re:(Tryz.prog.info? 80).bind (·.zero)=some (.agg #[.int .i64 0,.int .i64 0]):=by kernel_rfl
theorem zc:∀ w,((eX Tryz.prog 134).mapM λf=>Prod.mk f.offset<$>sizeOf f.type:Sem (Array (Nat×Nat))).run Tryz.prog w= .ok (#[(0,2),(2,1)]) w:=λ_=>by kernel_rfl
theorem m9:∀ w,((eX Tryz.prog 27).mapM λf=>Prod.mk f.offset<$>sizeOf f.type:Sem (Array (Nat×Nat))).run Tryz.prog w= .ok (#[(0,1),(1,1),(2,1),(3,1)]) w:=λ_=>by kernel_rfl
theorem mg:∀ w,((eX Tryz.prog 29).mapM λf=>Prod.mk f.offset<$>sizeOf f.type:Sem (Array (Nat×Nat))).run Tryz.prog w= .ok (#[(0,1),(1,1)]) w:=λ_=>by kernel_rfl
theorem sU:∀ w,((eX Tryz.prog 42).mapM λf=>Prod.mk f.offset<$>sizeOf f.type:Sem (Array (Nat×Nat))).run Tryz.prog w= .ok (#[(0,1),(1,1)]) w:=λ_=>by kernel_rfl
theorem wa:∀ w,((eX Tryz.prog 74).mapM λf=>Prod.mk f.offset<$>sizeOf f.type:Sem (Array (Nat×Nat))).run Tryz.prog w= .ok (#[(0,1),(1,1),(2,2)]) w:=λ_=>by kernel_rfl
theorem wc:∀ w,((eX Tryz.prog 76).mapM λf=>Prod.mk f.offset<$>sizeOf f.type:Sem (Array (Nat×Nat))).run Tryz.prog w= .ok (#[(0,1),(1,1)]) w:=λ_=>by kernel_rfl
theorem GG:∀ w,((eX Tryz.prog 78).mapM λf=>Prod.mk f.offset<$>sizeOf f.type:Sem (Array (Nat×Nat))).run Tryz.prog w= .ok (#[(0,1),(1,1),(2,1)]) w:=λ_=>by kernel_rfl
theorem lJ:∀ w,((eX Tryz.prog 80).mapM λf=>Prod.mk f.offset<$>sizeOf f.type:Sem (Array (Nat×Nat))).run Tryz.prog w= .ok (#[(0,1),(1,1)]) w:=λ_=>by kernel_rfl
theorem zd:Tryz.prog.underlying 134=some (.struct (eX Tryz.prog 134)):=by kernel_rfl
theorem na:Tryz.prog.underlying 27=some (.struct (eX Tryz.prog 27)):=by kernel_rfl
theorem mh:Tryz.prog.underlying 29=some (.struct (eX Tryz.prog 29)):=by kernel_rfl
theorem sV:Tryz.prog.underlying 42=some (.struct (eX Tryz.prog 42)):=by kernel_rfl
theorem zR:Tryz.prog.underlying 49=some (.struct (eX Tryz.prog 49)):=by kernel_rfl
theorem we:Tryz.prog.underlying 74=some (.struct (eX Tryz.prog 74)):=by kernel_rfl
theorem wh:Tryz.prog.underlying 76=some (.struct (eX Tryz.prog 76)):=by kernel_rfl
theorem GH:Tryz.prog.underlying 78=some (.struct (eX Tryz.prog 78)):=by kernel_rfl
theorem lK:Tryz.prog.underlying 80=some (.struct (eX Tryz.prog 80)):=by kernel_rfl
theorem ze:(Tryz.prog.info? 134).bind (·.zero)=some (.agg #[.int .i64 0,.int .i64 0,.int .i64 0]):=by kernel_rfl
theorem nc:(Tryz.prog.info? 27).bind (·.zero)=some (.agg #[.string ByteArray.empty,.slice none 0 0,.slice none 0 0,.slice none 0 0]):=by kernel_rfl
theorem mi:(Tryz.prog.info? 29).bind (·.zero)=some (.agg #[.int .i64 0,.int .i64 0]):=by kernel_rfl
theorem sW:(Tryz.prog.info? 42).bind (·.zero)=some (.agg #[.int .i64 0,.int .i64 0]):=by kernel_rfl
theorem wi:(Tryz.prog.info? 74).bind (·.zero)=some (.agg #[.int .i64 0,.int .i64 0,.int .i64 0,.int .i64 0]):=by kernel_rfl
theorem wj:(Tryz.prog.info? 76).bind (·.zero)=some (.agg #[.int .i64 0,.int .i64 0]):=by kernel_rfl
theorem GI:(Tryz.prog.info? 78).bind (·.zero)=some (.agg #[.string ByteArray.empty,.int .i64 0,.slice none 0 0]):=by kernel_rfl
theorem lL:(Tryz.prog.info? 80).bind (·.zero)=some (.agg #[.int .i64 0,.int .i64 0]):=by kernel_rfl
theorem jj:cu Tryz.prog 113 0 0 true 4:=by unfold cu;kernel_rfl
theorem l4:cu Tryz.prog 113 1 4 false 1:=by unfold cu;kernel_rfl
theorem qy:cu Tryz.prog 27 0 0 false 1:=by unfold cu;kernel_rfl
theorem fk:cu Tryz.prog 27 1 1 false 1:=by unfold cu;kernel_rfl
theorem eK:cu Tryz.prog 27 2 2 false 1:=by unfold cu;kernel_rfl
theorem gu:cu Tryz.prog 27 3 3 false 1:=by unfold cu;kernel_rfl
theorem mM:cu Tryz.prog 42 0 0 false 1:=by unfold cu;kernel_rfl
theorem mN:cu Tryz.prog 42 1 1 false 1:=by unfold cu;kernel_rfl
theorem pd:cu Tryz.prog 46 0 0 false 1:=by unfold cu;kernel_rfl
theorem iu:cu Tryz.prog 54 0 0 false 1:=by unfold cu;kernel_rfl
theorem jV:cu Tryz.prog 54 1 1 false 1:=by unfold cu;kernel_rfl
theorem ky:cu Tryz.prog 56 0 0 true 4:=by unfold cu;kernel_rfl
theorem iU:cu Tryz.prog 56 1 4 false 1:=by unfold cu;kernel_rfl
theorem jq:cu Tryz.prog 56 2 5 false 1:=by unfold cu;kernel_rfl
theorem eS:cu Tryz.prog 56 4 8 false 1:=by unfold cu;kernel_rfl
theorem iv:cu Tryz.prog 56 5 9 false 1:=by unfold cu;kernel_rfl
theorem pf:cu Tryz.prog 70 0 0 false 1:=by unfold cu;kernel_rfl
theorem qz:cu Tryz.prog 70 1 1 false 1:=by unfold cu;kernel_rfl
theorem mO:cu Tryz.prog 74 0 0 false 1:=by unfold cu;kernel_rfl
theorem yu:cu Tryz.prog 74 1 1 false 1:=by unfold cu;kernel_rfl
theorem kW:cu Tryz.prog 74 2 2 true 2:=by unfold cu;kernel_rfl
theorem mP:cu Tryz.prog 76 0 0 false 1:=by unfold cu;kernel_rfl
theorem uX:cu Tryz.prog 76 1 1 false 1:=by unfold cu;kernel_rfl
theorem nK:cu Tryz.prog 78 0 0 false 1:=by unfold cu;kernel_rfl
theorem jW:cu Tryz.prog 78 1 1 false 1:=by unfold cu;kernel_rfl
theorem kz:cu Tryz.prog 78 2 2 false 1:=by unfold cu;kernel_rfl
theorem yv:cu Tryz.prog 80 0 0 false 1:=by unfold cu;kernel_rfl
theorem EA:cu Tryz.prog 80 1 1 false 1:=by unfold cu;kernel_rfl
theorem zf:∀ args w,(callFunc 24 args).run Tryz.prog w= .ok (.enter 24 args) w:=λ_ _=>by kernel_rfl
theorem FP:∀ args w,(callFunc 25 args).run Tryz.prog w= .ok (.enter 25 args) w:=λ_ _=>by kernel_rfl
theorem vC:∀ args w,(callFunc 26 args).run Tryz.prog w= .ok (.enter 26 args) w:=λ_ _=>by kernel_rfl
theorem kC:∀ args w,(callFunc 37 args).run Tryz.prog w= .ok (.enter 37 args) w:=λ_ _=>by kernel_rfl
theorem iy:∀ args w,(callFunc 38 args).run Tryz.prog w= .ok (.enter 38 args) w:=λ_ _=>by kernel_rfl
theorem qK:∀ args w,(callFunc 39 args).run Tryz.prog w= .ok (.enter 39 args) w:=λ_ _=>by kernel_rfl
theorem FQ:∀ args w,(callFunc 40 args).run Tryz.prog w= .ok (.enter 40 args) w:=λ_ _=>by kernel_rfl
theorem mT:∀ args w,(callFunc 41 args).run Tryz.prog w= .ok (.enter 41 args) w:=λ_ _=>by kernel_rfl
theorem zg:∀ args w,(callFunc 42 args).run Tryz.prog w= .ok (.enter 42 args) w:=λ_ _=>by kernel_rfl
theorem zh:∀ args w,(callFunc 44 args).run Tryz.prog w= .ok (.enter 44 args) w:=λ_ _=>by kernel_rfl
theorem qL:∀ args w,(callFunc 46 args).run Tryz.prog w= .ok (.enter 46 args) w:=λ_ _=>by kernel_rfl
theorem zi:∀ args w,(callFunc 47 args).run Tryz.prog w= .ok (.enter 47 args) w:=λ_ _=>by kernel_rfl
theorem fK:∀ args w,(callFunc 49 args).run Tryz.prog w= .ok (.enter 49 args) w:=λ_ _=>by kernel_rfl
theorem mU:∀ args w,(callFunc 50 args).run Tryz.prog w= .ok (.enter 50 args) w:=λ_ _=>by kernel_rfl
theorem vD:∀ args w,(callFunc 62 args).run Tryz.prog w= .ok (.enter 62 args) w:=λ_ _=>by kernel_rfl
theorem zj:∀ args w,(callFunc 68 args).run Tryz.prog w= .ok (.enter 68 args) w:=λ_ _=>by kernel_rfl
theorem zk:∀ args w,(callFunc 81 args).run Tryz.prog w= .ok (.enter 81 args) w:=λ_ _=>by kernel_rfl
theorem vE:(Tryz.prog.info? 134).map (·.size)=some 3:=by kernel_rfl
theorem GK:(Tryz.prog.info? 23).map (·.size)=some 1:=by kernel_rfl
theorem GL:(Tryz.prog.info? 24).map (·.size)=some 1:=by kernel_rfl
theorem GM:(Tryz.prog.info? 25).map (·.size)=some 1:=by kernel_rfl
theorem jI:(Tryz.prog.info? 27).map (·.size)=some 4:=by kernel_rfl
theorem kc:(Tryz.prog.info? 29).map (·.size)=some 2:=by kernel_rfl
theorem iZ:(Tryz.prog.info? 3).map (·.size)=some 1:=by kernel_rfl
theorem sX:(Tryz.prog.info? 30).map (·.size)=some 1:=by kernel_rfl
theorem sY:(Tryz.prog.info? 42).map (·.size)=some 2:=by kernel_rfl
theorem GN:(Tryz.prog.info? 52).map (·.size)=some 1:=by kernel_rfl
theorem kJ:(Tryz.prog.info? 54).map (·.size)=some 2:=by kernel_rfl
theorem rf:(Tryz.prog.info? 64).map (·.size)=some 1:=by kernel_rfl
theorem zS:(Tryz.prog.info? 74).map (·.size)=some 4:=by kernel_rfl
theorem wm:(Tryz.prog.info? 76).map (·.size)=some 2:=by kernel_rfl
theorem rh:(Tryz.prog.info? 78).map (·.size)=some 3:=by kernel_rfl
theorem jK:(Tryz.prog.info? 80).map (·.size)=some 2:=by kernel_rfl
theorem ou:(Tryz.prog.info? 9).map (·.size)=some 1:=by kernel_rfl
theorem cK:Tryz.prog.underlying 9=some .string :=by kernel_rfl
end Go.Proofs.YtfoaiidcfkmneaaGreatDoor
