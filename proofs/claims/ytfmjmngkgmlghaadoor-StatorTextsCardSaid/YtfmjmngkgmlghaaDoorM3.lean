/- Texts of this claim, one behind the other: lemmas for the statement. -/
import Derived.Test.YtfmjmngkgmlghaaDoorM2
import Derived.Test.YtfmjmngkgmlghaaDoorApp
import Derived.Test.YtfmjmngkgmlghaaDoorRange
/- Walks: the errors of tracks, trains, feeds. -/
namespace Go.Proofs.YtfmjmngkgmlghaaDoor
open Go Go.RowKit Go.Proofs
set_option linter.unusedSimpArgs false
set_option linter.unusedVariables false

end Go.Proofs.YtfmjmngkgmlghaaDoor

/- Walks: the errors of trains, feeds, moves, wants; opening. -/
namespace Go.Proofs.YtfmjmngkgmlghaaDoor
open Go Go.RowKit Go.Proofs
set_option linter.unusedSimpArgs false
set_option linter.unusedVariables false

set_option maxRecDepth 100000 in
set_option maxHeartbeats 1000000 in
theorem scaled_any (s : Int) (cs : List T2) (a : Option Addr) (n c : Nat) (w : World) (hl : cs.length = n) (hn : n ≤ 1000) (hr : Rd w 2 a n (cells2 cs)) :
    Calls Tryd.prog 47 #[.int .i64 s, .slice a n c] w fun e w' => e = .returned (.int .i64 (firstE_ [unlessE_ (withinB_ s 1 100000) 2, unlessE_ (cs.all rightB) 2])) ∧ Ext w w' := by
  have HA := Lib.hid (right_any cs a n c w hl hn hr)
  clear hl
  go_enter Tryd.func47, Tryd.ntmps47
  go_wp2_with (first | (go_at_call 29; refine HA.out.mono ?_; rintro e w3 ⟨rfl, hx3⟩) | (go_at_call 27; refine (first_any [unlessE_ (withinB_ s 1 100000) 2, unlessE_ (cs.all rightB) 2] (some ⟨w3.heap.size, 0, none⟩) 2 2 _ rfl (by omega) (Rd.new w3 1 2 _ _ rfl)).mono ?_; rintro e w4 ⟨rfl, rfl⟩) | (first | (go_at_call 73; refine (within_any _ _ _ _).mono ?_; rintro e wz ⟨rfl, rfl⟩) | (go_at_call 28; refine (unless_any _ _ _).mono ?_; rintro e wz ⟨rfl, rfl⟩)))
  go_ret
  exact ⟨rfl, by ((repeat' (first | with_reducible exact Ext.refl _ | with_reducible assumption | with_reducible exact Ext.one _ | with_reducible refine Ext.alloc ?_ _ | with_reducible refine Ext.setCell ?_ ?_ _ | with_reducible refine Ext.drew ?_ | ((with_reducible apply Ext.after'); (with_reducible assumption)))) <;> (try simp) <;> omega)⟩
end Go.Proofs.YtfmjmngkgmlghaaDoor

/- Walks: opening a track with a train, and with a feed. -/
namespace Go.Proofs.YtfmjmngkgmlghaaDoor
open Go Go.RowKit Go.Proofs
set_option linter.unusedSimpArgs false
set_option linter.unusedVariables false

end Go.Proofs.YtfmjmngkgmlghaaDoor

/- Walks: copies in memory of their own. -/
namespace Go.Proofs.YtfmjmngkgmlghaaDoor
open Go Go.RowKit Go.Proofs
set_option linter.unusedSimpArgs false
set_option linter.unusedVariables false

theorem info2 : (Tryd.prog.info? 23).map (fun i => (i.zero, i.size, i.bytes)) = some (some (.agg #[.int .i64 0, .int .i64 0]), 2, 16) := by kernel_rfl
theorem info1 : (Tryd.prog.info? 3).map (fun i => (i.zero, i.size, i.bytes)) = some (some (.int .i64 0), 1, 8) := by kernel_rfl

end Go.Proofs.YtfmjmngkgmlghaaDoor

/- Walks: the iterator of overlaps. -/
namespace Go.Proofs.YtfmjmngkgmlghaaDoor
open Go Go.RowKit Go.Proofs
set_option linter.unusedSimpArgs false
set_option linter.unusedVariables false
attribute [local go_sem] Oper.semAt_some

/-- The partial sums. -/
def fr : Int → List Int → Nat → Int
  | f, _, 0 => f
  | f, [], _ => f
  | f, l :: ls, k + 1 => fr (wrap64 (f + l)) ls k
end Go.Proofs.YtfmjmngkgmlghaaDoor

