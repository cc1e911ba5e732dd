/- Texts of this claim, one behind the other: lemmas for the statement. -/
import Derived.Test.YtfmjmngkgmlghaaDoorK1
import Derived.Test.YtfmjmngkgmlghaaDoorA16
/- Contracts of the lowest functions of chapter 3. No conditions on a program. -/
namespace Go.Proofs.YtfmjmngkgmlghaaDoor
open Go Go.RowKit Go.Proofs
set_option linter.unusedSimpArgs false
set_option linter.unusedVariables false
abbrev V2 := Int × Int
abbrev nA (n : Int) : AV := .v (.int .i64 n)
def sizeW (n : Int) : Int := max n (-n)
set_option maxRecDepth 100000 in
set_option maxHeartbeats 1000000 in
theorem bSize_ok (n : Int) (hm : -9000000000000000000 ≤ n ∧ n ≤ 9000000000000000000) : FnOk Tryd.prog 56 [nA n] (fun q => q = nA (sizeW n)) := by
  refine fnOk_of (fn := Tryd.f56) 7 (by kernel_rfl) rfl (by kernel_rfl) (Nat.le_of_ble_eq_true rfl) ?_
  intro e_0 m_0 hA hm_0
  have s0_0 : evA e_0 (.tmp 0) = _ := hA 0 _ rfl
  have ml_0 : m_0.length = 0 := by rw [hm_0]; rfl
  clear hA hm_0
  refine aw_seq <| at_ <| ar (ro_assign ev_c) rfl <| ae1 (up_m rfl s0_0) ?_; clear s0_0; intro e_1 s0_1
  refine then_n <| aw_seq <| at_ <| ar (ro_move s0_1) rfl <| ar (ro_move (up_m rfl s0_1)) rfl ?_
  (refine ar (ro_neg' up_h ?_) rfl ?_; · (unfold In64; omega))
  refine ar (ro_max (u2 rfl up_h) up_h) rfl <| ar (ro_assign up_h) rfl <| ae1 up_h ?_; clear s0_1; intro e_2 s2_2
  refine then_n <| aw_ret <| ret1 (.inr rfl) (by kernel_rfl) (resV_tmp s2_2) (.ro _ rfl) ?_
  clear s2_2  ml_0
  rfl
end Go.Proofs.YtfmjmngkgmlghaaDoor

/- Contracts of chapter 3: vectors. No conditions on a program. -/
namespace Go.Proofs.YtfmjmngkgmlghaaDoor
open Go Go.RowKit Go.Proofs
set_option linter.unusedSimpArgs false
set_option linter.unusedVariables false
/-- Parts of at most a size. -/
def Bd (M : Int) (v : V2) : Prop := (-M ≤ v.1 ∧ v.1 ≤ M) ∧ (-M ≤ v.2 ∧ v.2 ≤ M)
section
variable (u v : V2) (hu : Bd 1000000000 u) (hv : Bd 1000000000 v)
include hu hv
end
section
variable (v : V2) (hv : Bd 1000000000 v)
include hv
end
theorem Bd.mono {M K : Int} {v : V2} (h : Bd M v) (hk : M ≤ K) : Bd K v := by
  obtain ⟨⟨a, b⟩, c, d⟩ := h
  exact ⟨⟨by omega, by omega⟩, by omega, by omega⟩
end Go.Proofs.YtfmjmngkgmlghaaDoor

/- Contracts of chapter 3: errors of vectors and of phases. No conditions on a program. -/
namespace Go.Proofs.YtfmjmngkgmlghaaDoor
open Go Go.RowKit Go.Proofs
set_option linter.unusedSimpArgs false
set_option linter.unusedVariables false
end Go.Proofs.YtfmjmngkgmlghaaDoor

/- Contracts of chapter 3: orders and samples. No conditions on a program. -/
namespace Go.Proofs.YtfmjmngkgmlghaaDoor
open Go Go.RowKit Go.Proofs
set_option linter.unusedSimpArgs false
set_option linter.unusedVariables false

theorem Bd.getD {M : Int} {xs : List V2} (h : ∀ v ∈ xs, Bd M v) (hM : 0 ≤ M) (i : Nat) : Bd M (xs.getD i default) := by
  rw [List.getD_eq_getElem?_getD]
  by_cases hi : i < xs.length
  · rw [List.getElem?_eq_getElem hi]; exact h _ (List.getElem_mem hi)
  · rw [List.getElem?_eq_none (by omega)]
    exact ⟨⟨by show -M ≤ 0; omega, by show (0 : Int) ≤ M; omega⟩, by show -M ≤ 0; omega, by show (0 : Int) ≤ M; omega⟩
end Go.Proofs.YtfmjmngkgmlghaaDoor

