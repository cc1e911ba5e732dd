/- Lemmas for the statement. -/
import Derived.Test.YtbmlgmblfboigaaGreatDoorProg
import Derived.Test.YtbmlgmblfboigaaGreatDoorA1
import Derived.Test.YtbmlgmblfboigaaGreatDoorA2
import Derived.Test.YtbmlgmblfboigaaGreatDoorA4
import Derived.Test.YtbmlgmblfboigaaGreatDoorA5
import Derived.Test.YtbmlgmblfboigaaGreatDoorA6
import Derived.Test.YtbmlgmblfboigaaGreatDoorA3
import Derived.Test.YtbmlgmblfboigaaGreatDoorA7
import Derived.Test.YtbmlgmblfboigaaGreatDoorA8
import Derived.Test.YtbmlgmblfboigaaGreatDoorA9
import Derived.Test.YtbmlgmblfboigaaGreatDoorA10
import Derived.Test.YtbmlgmblfboigaaGreatDoorA11
import Derived.Test.YtbmlgmblfboigaaGreatDoorA12
import Derived.Test.YtbmlgmblfboigaaGreatDoorM2
import Derived.Test.YtbmlgmblfboigaaGreatDoorA14
import Derived.Test.YtbmlgmblfboigaaGreatDoorA15
import Derived.Test.YtbmlgmblfboigaaGreatDoorA16
import Derived.Test.YtbmlgmblfboigaaGreatDoorM3
import Derived.Test.YtbmlgmblfboigaaGreatDoorA25
import Derived.Test.YtbmlgmblfboigaaGreatDoorM4
import Derived.Test.YtbmlgmblfboigaaGreatDoorA40
import Derived.Test.YtbmlgmblfboigaaGreatDoorA41
import Derived.Test.YtbmlgmblfboigaaGreatDoorA42
import Derived.Test.YtbmlgmblfboigaaGreatDoorM5
import Derived.Test.YtbmlgmblfboigaaGreatDoorA52
import Derived.Test.YtbmlgmblfboigaaGreatDoorA53
import Derived.Test.YtbmlgmblfboigaaGreatDoorA43
import Derived.Test.YtbmlgmblfboigaaGreatDoorM6
import Derived.Test.YtbmlgmblfboigaaGreatDoorA54
import Derived.Test.YtbmlgmblfboigaaGreatDoorM7
import Derived.Test.YtbmlgmblfboigaaGreatDoorA57
import Derived.Test.YtbmlgmblfboigaaGreatDoorA58
import Derived.Test.YtbmlgmblfboigaaGreatDoorA59
namespace Go.Proofs.YtbmlgmblfboigaaGreatDoor
open Go Go.RowKit Go.Proofs
set_option linter.unusedSimpArgs false
set_option linter.unusedVariables false
theorem Iz:(Tryz.prog.info? 103).bind (·.zero)=some (.pointer none):=by kernel_rfl
theorem AM:(Tryz.prog.info? 168).bind (·.zero)=some (.agg #[.int .i64 0,.int .i64 0,.int .i64 0]):=by kernel_rfl
theorem j8:(Tryz.prog.info? 27).bind (·.zero)=some (.agg #[.string ByteArray.empty,.slice none 0 0,.slice none 0 0,.slice none 0 0]):=by kernel_rfl
theorem BF:(Tryz.prog.info? 29).bind (·.zero)=some (.agg #[.int .i64 0,.int .i64 0]):=by kernel_rfl
theorem xJ:(Tryz.prog.info? 30).bind (·.zero)=some (.int .i64 0):=by kernel_rfl
theorem qE:(Tryz.prog.info? 48).bind (·.zero)=some (.agg #[.int .i64 0,.int .i64 0]):=by kernel_rfl
theorem xK:(Tryz.prog.info? 50).bind (·.zero)=some (.agg #[.int .i64 0,.int .i64 0,.int .i64 0,.int .i64 0]):=by kernel_rfl
theorem sr:(Tryz.prog.info? 59).bind (·.zero)=some (.agg #[.int .i64 0,.int .i64 0,.int .i64 0,.int .i64 0]):=by kernel_rfl
theorem ll:(Tryz.prog.info? 75).bind (·.zero)=some (.agg #[.string ByteArray.empty,.int .i64 0]):=by kernel_rfl
theorem xM:(Tryz.prog.info? 95).bind (·.zero)=some (.agg #[.int .i64 0,.int .i64 0]):=by kernel_rfl
theorem nM:(Tryz.prog.info? 97).bind (·.zero)=some (.agg #[.string ByteArray.empty,.int .i64 0,.slice none 0 0]):=by kernel_rfl
theorem su:(Tryz.prog.info? 99).bind (·.zero)=some (.agg #[.int .i64 0,.int .i64 0]):=by kernel_rfl
theorem AN:∀ w,((eP Tryz.prog 168).mapM λf=>Prod.mk f.offset<$>sizeOf f.type:Sem (Array (Nat×Nat))).run Tryz.prog w= .ok (#[(0,2),(2,1)]) w:=λ_=>by kernel_rfl
theorem qF:∀ w,((eP Tryz.prog 27).mapM λf=>Prod.mk f.offset<$>sizeOf f.type:Sem (Array (Nat×Nat))).run Tryz.prog w= .ok (#[(0,1),(1,1),(2,1),(3,1)]) w:=λ_=>by kernel_rfl
theorem BG:∀ w,((eP Tryz.prog 29).mapM λf=>Prod.mk f.offset<$>sizeOf f.type:Sem (Array (Nat×Nat))).run Tryz.prog w= .ok (#[(0,1),(1,1)]) w:=λ_=>by kernel_rfl
theorem o7:∀ w,((eP Tryz.prog 48).mapM λf=>Prod.mk f.offset<$>sizeOf f.type:Sem (Array (Nat×Nat))).run Tryz.prog w= .ok (#[(0,1),(1,1)]) w:=λ_=>by kernel_rfl
theorem BH:∀ w,((eP Tryz.prog 95).mapM λf=>Prod.mk f.offset<$>sizeOf f.type:Sem (Array (Nat×Nat))).run Tryz.prog w= .ok (#[(0,1),(1,1)]) w:=λ_=>by kernel_rfl
theorem mo:∀ w,((eP Tryz.prog 99).mapM λf=>Prod.mk f.offset<$>sizeOf f.type:Sem (Array (Nat×Nat))).run Tryz.prog w= .ok (#[(0,1),(1,1)]) w:=λ_=>by kernel_rfl
theorem AO:Tryz.prog.underlying 168=some (.struct (eP Tryz.prog 168)):=by kernel_rfl
theorem qG:Tryz.prog.underlying 27=some (.struct (eP Tryz.prog 27)):=by kernel_rfl
theorem BI:Tryz.prog.underlying 29=some (.struct (eP Tryz.prog 29)):=by kernel_rfl
theorem o8:Tryz.prog.underlying 48=some (.struct (eP Tryz.prog 48)):=by kernel_rfl
theorem BJ:Tryz.prog.underlying 70=some (.struct (eP Tryz.prog 70)):=by kernel_rfl
theorem BK:Tryz.prog.underlying 95=some (.struct (eP Tryz.prog 95)):=by kernel_rfl
theorem mq:Tryz.prog.underlying 99=some (.struct (eP Tryz.prog 99)):=by kernel_rfl
theorem AP:(Tryz.prog.info? 168).bind (·.zero)=some (.agg #[.int .i64 0,.int .i64 0,.int .i64 0]):=by kernel_rfl
theorem qH:(Tryz.prog.info? 27).bind (·.zero)=some (.agg #[.string ByteArray.empty,.slice none 0 0,.slice none 0 0,.slice none 0 0]):=by kernel_rfl
theorem BL:(Tryz.prog.info? 29).bind (·.zero)=some (.agg #[.int .i64 0,.int .i64 0]):=by kernel_rfl
theorem o9:(Tryz.prog.info? 48).bind (·.zero)=some (.agg #[.int .i64 0,.int .i64 0]):=by kernel_rfl
theorem BM:(Tryz.prog.info? 95).bind (·.zero)=some (.agg #[.int .i64 0,.int .i64 0]):=by kernel_rfl
theorem mr:(Tryz.prog.info? 99).bind (·.zero)=some (.agg #[.int .i64 0,.int .i64 0]):=by kernel_rfl
theorem jh:cj Tryz.prog 145 0 0 true 4:=by unfold cj;kernel_rfl
theorem mK:cj Tryz.prog 145 1 4 false 1:=by unfold cj;kernel_rfl
theorem oM:cj Tryz.prog 27 0 0 false 1:=by unfold cj;kernel_rfl
theorem dN:cj Tryz.prog 27 1 1 false 1:=by unfold cj;kernel_rfl
theorem dO:cj Tryz.prog 27 2 2 false 1:=by unfold cj;kernel_rfl
theorem eW:cj Tryz.prog 27 3 3 false 1:=by unfold cj;kernel_rfl
theorem nA:cj Tryz.prog 44 0 0 false 1:=by unfold cj;kernel_rfl
theorem oN:cj Tryz.prog 44 1 1 false 1:=by unfold cj;kernel_rfl
theorem tH:cj Tryz.prog 44 2 2 false 1:=by unfold cj;kernel_rfl
theorem fx:cj Tryz.prog 48 0 0 false 1:=by unfold cj;kernel_rfl
theorem fy:cj Tryz.prog 48 1 1 false 1:=by unfold cj;kernel_rfl
theorem iu:cj Tryz.prog 59 0 0 false 1:=by unfold cj;kernel_rfl
theorem tI:cj Tryz.prog 59 1 1 false 1:=by unfold cj;kernel_rfl
theorem fU:cj Tryz.prog 59 2 2 true 2:=by unfold cj;kernel_rfl
theorem iv:cj Tryz.prog 75 0 0 false 1:=by unfold cj;kernel_rfl
theorem kB:cj Tryz.prog 75 1 1 false 1:=by unfold cj;kernel_rfl
theorem kZ:cj Tryz.prog 77 0 0 true 4:=by unfold cj;kernel_rfl
theorem ji:cj Tryz.prog 77 1 4 false 1:=by unfold cj;kernel_rfl
theorem jL:cj Tryz.prog 77 2 5 false 1:=by unfold cj;kernel_rfl
theorem eJ:cj Tryz.prog 77 4 8 false 1:=by unfold cj;kernel_rfl
theorem iw:cj Tryz.prog 77 5 9 false 1:=by unfold cj;kernel_rfl
theorem mb:cj Tryz.prog 95 0 0 false 1:=by unfold cj;kernel_rfl
theorem tJ:cj Tryz.prog 95 1 1 false 1:=by unfold cj;kernel_rfl
theorem mN:cj Tryz.prog 97 0 0 false 1:=by unfold cj;kernel_rfl
theorem jN:cj Tryz.prog 97 1 1 false 1:=by unfold cj;kernel_rfl
theorem gI:cj Tryz.prog 97 2 2 false 1:=by unfold cj;kernel_rfl
theorem zV:∀ args w,(callFunc 103 args).run Tryz.prog w= .ok (.enter 103 args) w:=λ_ _=>by kernel_rfl
theorem zW:∀ args w,(callFunc 114 args).run Tryz.prog w= .ok (.enter 114 args) w:=λ_ _=>by kernel_rfl
theorem qo:∀ args w,(callFunc 20 args).run Tryz.prog w= .ok (.enter 20 args) w:=λ_ _=>by kernel_rfl
theorem qp:∀ args w,(callFunc 39 args).run Tryz.prog w= .ok (.enter 39 args) w:=λ_ _=>by kernel_rfl
theorem qq:∀ args w,(callFunc 45 args).run Tryz.prog w= .ok (.enter 45 args) w:=λ_ _=>by kernel_rfl
theorem IA:∀ args w,(callFunc 46 args).run Tryz.prog w= .ok (.enter 46 args) w:=λ_ _=>by kernel_rfl
theorem IB:∀ args w,(callFunc 48 args).run Tryz.prog w= .ok (.enter 48 args) w:=λ_ _=>by kernel_rfl
theorem IC:∀ args w,(callFunc 49 args).run Tryz.prog w= .ok (.enter 49 args) w:=λ_ _=>by kernel_rfl
theorem fc:∀ args w,(callFunc 52 args).run Tryz.prog w= .ok (.enter 52 args) w:=λ_ _=>by kernel_rfl
theorem mi:∀ args w,(callFunc 55 args).run Tryz.prog w= .ok (.enter 55 args) w:=λ_ _=>by kernel_rfl
theorem ID:∀ args w,(callFunc 56 args).run Tryz.prog w= .ok (.enter 56 args) w:=λ_ _=>by kernel_rfl
theorem lg:∀ args w,(callFunc 65 args).run Tryz.prog w= .ok (.enter 65 args) w:=λ_ _=>by kernel_rfl
theorem iD:∀ args w,(callFunc 66 args).run Tryz.prog w= .ok (.enter 66 args) w:=λ_ _=>by kernel_rfl
theorem rS:∀ args w,(callFunc 67 args).run Tryz.prog w= .ok (.enter 67 args) w:=λ_ _=>by kernel_rfl
theorem IE:∀ args w,(callFunc 68 args).run Tryz.prog w= .ok (.enter 68 args) w:=λ_ _=>by kernel_rfl
theorem nF:∀ args w,(callFunc 69 args).run Tryz.prog w= .ok (.enter 69 args) w:=λ_ _=>by kernel_rfl
theorem AS:∀ args w,(callFunc 70 args).run Tryz.prog w= .ok (.enter 70 args) w:=λ_ _=>by kernel_rfl
theorem IF:∀ args w,(callFunc 72 args).run Tryz.prog w= .ok (.enter 72 args) w:=λ_ _=>by kernel_rfl
theorem rT:∀ args w,(callFunc 74 args).run Tryz.prog w= .ok (.enter 74 args) w:=λ_ _=>by kernel_rfl
theorem AT:∀ args w,(callFunc 78 args).run Tryz.prog w= .ok (.enter 78 args) w:=λ_ _=>by kernel_rfl
theorem IG:∀ args w,(callFunc 81 args).run Tryz.prog w= .ok (.enter 81 args) w:=λ_ _=>by kernel_rfl
theorem xf:∀ args w,(callFunc 94 args).run Tryz.prog w= .ok (.enter 94 args) w:=λ_ _=>by kernel_rfl
theorem IH:(Tryz.prog.info? 103).map (·.size)=some 1:=by kernel_rfl
theorem xg:(Tryz.prog.info? 168).map (·.size)=some 3:=by kernel_rfl
theorem Jt:(Tryz.prog.info? 23).map (·.size)=some 1:=by kernel_rfl
theorem Ju:(Tryz.prog.info? 24).map (·.size)=some 1:=by kernel_rfl
theorem BN:(Tryz.prog.info? 25).map (·.size)=some 1:=by kernel_rfl
theorem gZ:(Tryz.prog.info? 27).map (·.size)=some 4:=by kernel_rfl
theorem xN:(Tryz.prog.info? 29).map (·.size)=some 2:=by kernel_rfl
theorem iK:(Tryz.prog.info? 3).map (·.size)=some 1:=by kernel_rfl
theorem qI:(Tryz.prog.info? 30).map (·.size)=some 1:=by kernel_rfl
theorem m8:(Tryz.prog.info? 48).map (·.size)=some 2:=by kernel_rfl
theorem uy:(Tryz.prog.info? 50).map (·.size)=some 4:=by kernel_rfl
theorem uz:(Tryz.prog.info? 59).map (·.size)=some 4:=by kernel_rfl
theorem Jv:(Tryz.prog.info? 73).map (·.size)=some 1:=by kernel_rfl
theorem lp:(Tryz.prog.info? 75).map (·.size)=some 2:=by kernel_rfl
theorem uB:(Tryz.prog.info? 85).map (·.size)=some 1:=by kernel_rfl
theorem qP:(Tryz.prog.info? 9).map (·.size)=some 1:=by kernel_rfl
theorem xO:(Tryz.prog.info? 95).map (·.size)=some 2:=by kernel_rfl
theorem nN:(Tryz.prog.info? 97).map (·.size)=some 3:=by kernel_rfl
theorem j9:(Tryz.prog.info? 99).map (·.size)=some 2:=by kernel_rfl
theorem fj:Tryz.prog.underlying 9=some .string :=by kernel_rfl
end Go.Proofs.YtbmlgmblfboigaaGreatDoor
