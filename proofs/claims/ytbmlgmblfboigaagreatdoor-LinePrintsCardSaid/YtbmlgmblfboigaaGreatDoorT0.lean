/- Lemmas for the statement. -/
import Derived.Test.YtbmlgmblfboigaaGreatDoorProg
import Derived.Test.YtbmlgmblfboigaaGreatDoorA1
import Derived.Test.YtbmlgmblfboigaaGreatDoorA2
import Derived.Test.YtbmlgmblfboigaaGreatDoorA4
import Derived.Test.YtbmlgmblfboigaaGreatDoorA5
import Derived.Test.YtbmlgmblfboigaaGreatDoorA6
import Derived.Test.YtbmlgmblfboigaaGreatDoorA3
import Derived.Test.YtbmlgmblfboigaaGreatDoorA7
import Derived.Test.YtbmlgmblfboigaaGreatDoorA8
import Derived.Test.YtbmlgmblfboigaaGreatDoorA9
import Derived.Test.YtbmlgmblfboigaaGreatDoorA10
import Derived.Test.YtbmlgmblfboigaaGreatDoorA11
import Derived.Test.YtbmlgmblfboigaaGreatDoorA12
import Derived.Test.YtbmlgmblfboigaaGreatDoorM2
import Derived.Test.YtbmlgmblfboigaaGreatDoorA14
import Derived.Test.YtbmlgmblfboigaaGreatDoorA15
import Derived.Test.YtbmlgmblfboigaaGreatDoorA16
import Derived.Test.YtbmlgmblfboigaaGreatDoorM3
import Derived.Test.YtbmlgmblfboigaaGreatDoorA40
import Derived.Test.YtbmlgmblfboigaaGreatDoorA41
import Derived.Test.YtbmlgmblfboigaaGreatDoorA42
import Derived.Test.YtbmlgmblfboigaaGreatDoorA25
import Derived.Test.YtbmlgmblfboigaaGreatDoorM4
import Derived.Test.YtbmlgmblfboigaaGreatDoorA52
import Derived.Test.YtbmlgmblfboigaaGreatDoorA53
import Derived.Test.YtbmlgmblfboigaaGreatDoorA43
import Derived.Test.YtbmlgmblfboigaaGreatDoorM5
import Derived.Test.YtbmlgmblfboigaaGreatDoorA54
import Derived.Test.YtbmlgmblfboigaaGreatDoorM6
import Derived.Test.YtbmlgmblfboigaaGreatDoorA57
import Derived.Test.YtbmlgmblfboigaaGreatDoorA58
import Derived.Test.YtbmlgmblfboigaaGreatDoorA59
namespace Go.Proofs.YtbmlgmblfboigaaGreatDoor
open Go Go.RowKit Go.Proofs
set_option linter.unusedSimpArgs false
set_option linter.unusedVariables false
theorem ye:(Tryz.prog.info? 168).bind (·.zero)=some (.agg #[.int .i64 0,.int .i64 0,.int .i64 0]):=by kernel_rfl
theorem ri:(Tryz.prog.info? 27).bind (·.zero)=some (.agg #[.string ByteArray.empty,.slice none 0 0,.slice none 0 0,.slice none 0 0]):=by kernel_rfl
theorem yN:(Tryz.prog.info? 29).bind (·.zero)=some (.agg #[.int .i64 0,.int .i64 0]):=by kernel_rfl
theorem yO:(Tryz.prog.info? 30).bind (·.zero)=some (.int .i64 0):=by kernel_rfl
theorem uS:(Tryz.prog.info? 48).bind (·.zero)=some (.agg #[.int .i64 0,.int .i64 0]):=by kernel_rfl
theorem pJ:(Tryz.prog.info? 59).bind (·.zero)=some (.agg #[.int .i64 0,.int .i64 0,.int .i64 0,.int .i64 0]):=by kernel_rfl
theorem jD:(Tryz.prog.info? 75).bind (·.zero)=some (.agg #[.string ByteArray.empty,.int .i64 0]):=by kernel_rfl
theorem uT:(Tryz.prog.info? 95).bind (·.zero)=some (.agg #[.int .i64 0,.int .i64 0]):=by kernel_rfl
theorem lU:(Tryz.prog.info? 97).bind (·.zero)=some (.agg #[.string ByteArray.empty,.int .i64 0,.slice none 0 0]):=by kernel_rfl
theorem nW:(Tryz.prog.info? 99).bind (·.zero)=some (.agg #[.int .i64 0,.int .i64 0]):=by kernel_rfl
theorem yf:∀ w,((eB Tryz.prog 168).mapM λf=>Prod.mk f.offset<$>sizeOf f.type:Sem (Array (Nat×Nat))).run Tryz.prog w= .ok (#[(0,2),(2,1)]) w:=λ_=>by kernel_rfl
theorem yP:∀ w,((eB Tryz.prog 27).mapM λf=>Prod.mk f.offset<$>sizeOf f.type:Sem (Array (Nat×Nat))).run Tryz.prog w= .ok (#[(0,1),(1,1),(2,1),(3,1)]) w:=λ_=>by kernel_rfl
theorem uU:∀ w,((eB Tryz.prog 29).mapM λf=>Prod.mk f.offset<$>sizeOf f.type:Sem (Array (Nat×Nat))).run Tryz.prog w= .ok (#[(0,1),(1,1)]) w:=λ_=>by kernel_rfl
theorem uV:∀ w,((eB Tryz.prog 48).mapM λf=>Prod.mk f.offset<$>sizeOf f.type:Sem (Array (Nat×Nat))).run Tryz.prog w= .ok (#[(0,1),(1,1)]) w:=λ_=>by kernel_rfl
theorem yQ:∀ w,((eB Tryz.prog 95).mapM λf=>Prod.mk f.offset<$>sizeOf f.type:Sem (Array (Nat×Nat))).run Tryz.prog w= .ok (#[(0,1),(1,1)]) w:=λ_=>by kernel_rfl
theorem kz:∀ w,((eB Tryz.prog 99).mapM λf=>Prod.mk f.offset<$>sizeOf f.type:Sem (Array (Nat×Nat))).run Tryz.prog w= .ok (#[(0,1),(1,1)]) w:=λ_=>by kernel_rfl
theorem yg:Tryz.prog.underlying 168=some (.struct (eB Tryz.prog 168)):=by kernel_rfl
theorem yR:Tryz.prog.underlying 27=some (.struct (eB Tryz.prog 27)):=by kernel_rfl
theorem uW:Tryz.prog.underlying 29=some (.struct (eB Tryz.prog 29)):=by kernel_rfl
theorem uX:Tryz.prog.underlying 48=some (.struct (eB Tryz.prog 48)):=by kernel_rfl
theorem yS:Tryz.prog.underlying 70=some (.struct (eB Tryz.prog 70)):=by kernel_rfl
theorem yT:Tryz.prog.underlying 95=some (.struct (eB Tryz.prog 95)):=by kernel_rfl
theorem kA:Tryz.prog.underlying 99=some (.struct (eB Tryz.prog 99)):=by kernel_rfl
theorem yh:(Tryz.prog.info? 168).bind (·.zero)=some (.agg #[.int .i64 0,.int .i64 0,.int .i64 0]):=by kernel_rfl
theorem yU:(Tryz.prog.info? 27).bind (·.zero)=some (.agg #[.string ByteArray.empty,.slice none 0 0,.slice none 0 0,.slice none 0 0]):=by kernel_rfl
theorem uY:(Tryz.prog.info? 29).bind (·.zero)=some (.agg #[.int .i64 0,.int .i64 0]):=by kernel_rfl
theorem uZ:(Tryz.prog.info? 48).bind (·.zero)=some (.agg #[.int .i64 0,.int .i64 0]):=by kernel_rfl
theorem yV:(Tryz.prog.info? 95).bind (·.zero)=some (.agg #[.int .i64 0,.int .i64 0]):=by kernel_rfl
theorem kB:(Tryz.prog.info? 99).bind (·.zero)=some (.agg #[.int .i64 0,.int .i64 0]):=by kernel_rfl
theorem iy:bZ Tryz.prog 145 0 0 true 4:=by unfold bZ;kernel_rfl
theorem kV:bZ Tryz.prog 145 1 4 false 1:=by unfold bZ;kernel_rfl
theorem mC:bZ Tryz.prog 27 0 0 false 1:=by unfold bZ;kernel_rfl
theorem dW:bZ Tryz.prog 27 1 1 false 1:=by unfold bZ;kernel_rfl
theorem dA:bZ Tryz.prog 27 2 2 false 1:=by unfold bZ;kernel_rfl
theorem eF:bZ Tryz.prog 27 3 3 false 1:=by unfold bZ;kernel_rfl
theorem nD:bZ Tryz.prog 44 0 0 false 1:=by unfold bZ;kernel_rfl
theorem jP:bZ Tryz.prog 48 0 0 false 1:=by unfold bZ;kernel_rfl
theorem jQ:bZ Tryz.prog 48 1 1 false 1:=by unfold bZ;kernel_rfl
theorem jR:bZ Tryz.prog 59 0 0 false 1:=by unfold bZ;kernel_rfl
theorem oW:bZ Tryz.prog 59 1 1 false 1:=by unfold bZ;kernel_rfl
theorem fY:bZ Tryz.prog 59 2 2 true 2:=by unfold bZ;kernel_rfl
theorem gr:bZ Tryz.prog 75 0 0 false 1:=by unfold bZ;kernel_rfl
theorem iS:bZ Tryz.prog 75 1 1 false 1:=by unfold bZ;kernel_rfl
theorem jo:bZ Tryz.prog 77 0 0 true 4:=by unfold bZ;kernel_rfl
theorem hP:bZ Tryz.prog 77 1 4 false 1:=by unfold bZ;kernel_rfl
theorem iz:bZ Tryz.prog 77 2 5 false 1:=by unfold bZ;kernel_rfl
theorem ec:bZ Tryz.prog 77 4 8 false 1:=by unfold bZ;kernel_rfl
theorem gu:bZ Tryz.prog 77 5 9 false 1:=by unfold bZ;kernel_rfl
theorem ki:bZ Tryz.prog 95 0 0 false 1:=by unfold bZ;kernel_rfl
theorem oY:bZ Tryz.prog 95 1 1 false 1:=by unfold bZ;kernel_rfl
theorem kj:bZ Tryz.prog 97 0 0 false 1:=by unfold bZ;kernel_rfl
theorem hU:bZ Tryz.prog 97 1 1 false 1:=by unfold bZ;kernel_rfl
theorem fZ:bZ Tryz.prog 97 2 2 false 1:=by unfold bZ;kernel_rfl
theorem xl:∀ args w,(callFunc 103 args).run Tryz.prog w= .ok (.enter 103 args) w:=λ_ _=>by kernel_rfl
theorem xm:∀ args w,(callFunc 114 args).run Tryz.prog w= .ok (.enter 114 args) w:=λ_ _=>by kernel_rfl
theorem yi:∀ args w,(callFunc 20 args).run Tryz.prog w= .ok (.enter 20 args) w:=λ_ _=>by kernel_rfl
theorem qZ:∀ args w,(callFunc 39 args).run Tryz.prog w= .ok (.enter 39 args) w:=λ_ _=>by kernel_rfl
theorem uj:∀ args w,(callFunc 45 args).run Tryz.prog w= .ok (.enter 45 args) w:=λ_ _=>by kernel_rfl
theorem e6:∀ args w,(callFunc 52 args).run Tryz.prog w= .ok (.enter 52 args) w:=λ_ _=>by kernel_rfl
theorem lN:∀ args w,(callFunc 55 args).run Tryz.prog w= .ok (.enter 55 args) w:=λ_ _=>by kernel_rfl
theorem E6:∀ args w,(callFunc 56 args).run Tryz.prog w= .ok (.enter 56 args) w:=λ_ _=>by kernel_rfl
theorem jA:∀ args w,(callFunc 65 args).run Tryz.prog w= .ok (.enter 65 args) w:=λ_ _=>by kernel_rfl
theorem gx:∀ args w,(callFunc 66 args).run Tryz.prog w= .ok (.enter 66 args) w:=λ_ _=>by kernel_rfl
theorem px:∀ args w,(callFunc 67 args).run Tryz.prog w= .ok (.enter 67 args) w:=λ_ _=>by kernel_rfl
theorem E7:∀ args w,(callFunc 68 args).run Tryz.prog w= .ok (.enter 68 args) w:=λ_ _=>by kernel_rfl
theorem lO:∀ args w,(callFunc 69 args).run Tryz.prog w= .ok (.enter 69 args) w:=λ_ _=>by kernel_rfl
theorem uk:∀ args w,(callFunc 70 args).run Tryz.prog w= .ok (.enter 70 args) w:=λ_ _=>by kernel_rfl
theorem E8:∀ args w,(callFunc 72 args).run Tryz.prog w= .ok (.enter 72 args) w:=λ_ _=>by kernel_rfl
theorem py:∀ args w,(callFunc 74 args).run Tryz.prog w= .ok (.enter 74 args) w:=λ_ _=>by kernel_rfl
theorem yj:∀ args w,(callFunc 78 args).run Tryz.prog w= .ok (.enter 78 args) w:=λ_ _=>by kernel_rfl
theorem um:∀ args w,(callFunc 94 args).run Tryz.prog w= .ok (.enter 94 args) w:=λ_ _=>by kernel_rfl
theorem uo:(Tryz.prog.info? 168).map (·.size)=some 3:=by kernel_rfl
theorem F4:(Tryz.prog.info? 23).map (·.size)=some 1:=by kernel_rfl
theorem F5:(Tryz.prog.info? 24).map (·.size)=some 1:=by kernel_rfl
theorem F6:(Tryz.prog.info? 25).map (·.size)=some 1:=by kernel_rfl
theorem pK:(Tryz.prog.info? 27).map (·.size)=some 4:=by kernel_rfl
theorem u5:(Tryz.prog.info? 29).map (·.size)=some 2:=by kernel_rfl
theorem il:(Tryz.prog.info? 3).map (·.size)=some 1:=by kernel_rfl
theorem rj:(Tryz.prog.info? 30).map (·.size)=some 1:=by kernel_rfl
theorem rk:(Tryz.prog.info? 48).map (·.size)=some 2:=by kernel_rfl
theorem rl:(Tryz.prog.info? 59).map (·.size)=some 4:=by kernel_rfl
theorem F7:(Tryz.prog.info? 73).map (·.size)=some 1:=by kernel_rfl
theorem jE:(Tryz.prog.info? 75).map (·.size)=some 2:=by kernel_rfl
theorem u6:(Tryz.prog.info? 85).map (·.size)=some 1:=by kernel_rfl
theorem oc:(Tryz.prog.info? 9).map (·.size)=some 1:=by kernel_rfl
theorem u7:(Tryz.prog.info? 95).map (·.size)=some 2:=by kernel_rfl
theorem lV:(Tryz.prog.info? 97).map (·.size)=some 3:=by kernel_rfl
theorem ij:(Tryz.prog.info? 99).map (·.size)=some 2:=by kernel_rfl
theorem zb:Tryz.prog.underlying 5=some (.int .u8):=by kernel_rfl
theorem eI:Tryz.prog.underlying 9=some .string :=by kernel_rfl
theorem yk:Tryz.prog.underlying 107=some (.slice 5):=by kernel_rfl
end Go.Proofs.YtbmlgmblfboigaaGreatDoor
