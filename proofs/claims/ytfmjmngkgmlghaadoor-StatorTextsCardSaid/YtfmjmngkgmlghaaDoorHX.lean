/- Rows on texts: what the library's variables hold; a text and a state, opened. No conditions on a program. -/
import Derived.Test.YtfmjmngkgmlghaaDoorM5
import Derived.Test.YtfmjmngkgmlghaaDoorM6
namespace Go.Proofs.YtfmjmngkgmlghaaDoor
open Go Go.ChangeShapes Go.WideShapes Go.ChangeAt Go.RowKit Go.Joins Go.Deep
set_option linter.unusedSimpArgs false
set_option linter.unusedVariables false
theorem cU64 : Tryd.prog.cellsOf 149 = 1 := by kernel_rfl
theorem c20u : Tryd.prog.cellsOf 166 = 20 := by kernel_rfl
theorem each_u {H : Type} {enc : TypeId × Value → H} {W : World} {sp : Nat → Bool} {held : Bool} : ∀ (fuel : Nat) (cs : List Value) (x : DataW H × List MemPlace), cs.length = 1 → DataW.trod enc Tryd.prog W 0 sp held fuel 149 cs = some x → ∃ a : Int, cs = [Value.int .u64 a] ∧ x.1 = DataW.lit (.int .u64 a) := fun fuel cs x _ hx => by
  obtain ⟨z0, e0, e1, _⟩ := DataW.trod_int Tryd.underlying149 hx
  exact ⟨z0, e0, by rw [e1]⟩
theorem iface_of_trod {H : Type} {enc : TypeId × Value → H} {W : World} {sp : Nat → Bool} {held : Bool} {fuel : Nat} {T : TypeId} {cs : List Value} {y : DataW H × List MemPlace} (hi : isIf (Tryd.prog.underlying T) = true) (h : DataW.trod enc Tryd.prog W 0 sp held fuel T cs = some y) : ∃ v, cs = [v] ∧ isE v := by
  obtain ⟨ms, hu⟩ := isIf_some hi
  cases fuel with
  | zero => simp [DataW.trod] at h
  | succ n =>
    rcases cs with _ | ⟨c, _ | ⟨d, r⟩⟩
    · simp [DataW.trod, hu] at h
    · refine ⟨c, rfl, ?_⟩
      cases c with
      | nilIface => exact .inl rfl
      | iface te pe => exact .inr ⟨te, pe, rfl⟩
      | _ => simp [DataW.trod, hu] at h
    · simp [DataW.trod, hu] at h
theorem glob_pow {W : World} {t : Nat} {cs : Array Value} {fuel : Nat} {p : List MemPlace} (ht : (Tryd.prog.globals[2]?).map (·.type) = some t) (hv : W.var? Tryd.prog "internal/strconv.uint64pow10" = some cs) (hd : DataW.trod (fun _ => ()) Tryd.prog W 0 (fun _ => true) false fuel t cs.toList = some (Rows.laid_internal_strconv_uint64pow10, p)) :
    R0 (fun _ => False) W (.ref ((Lib.pow10Tab.map (Value.int .u64)).map AV.v)) (.pointer (some ⟨2, 0, none⟩)) ∧ ExN W 2 ((Lib.pow10Tab.map (Value.int .u64)).map AV.v).length := by
  obtain rfl : 166 = t := Option.some.inj ((show (Tryd.prog.globals[2]?).map (·.type) = some 166 by kernel_rfl).symm.trans ht)
  obtain ⟨xs, h1, h2, h3⟩ := arr_of_trod (k := 1) (fun n : Int => [Value.int .u64 n]) (fun n => DataW.lit (.int .u64 n)) (fun _ => rfl) (by omega) Tryd.underlying166 cU64 c20u each_u hd
  have hx : xs = Lib.pow10Tab := by
    have h4 : DataW.agg (xs.map fun n => DataW.lit (H := Unit) (.int .u64 n)) = DataW.agg (Lib.pow10Tab.map fun n => DataW.lit (.int .u64 n)) := by rw [← h3]; rfl
    refine (List.map_inj_right (f := fun n => DataW.lit (H := Unit) (.int .u64 n)) fun a b hab => ?_).1 (DataW.agg.inj h4)
    simpa using hab
  subst hx
  have h5 : cs.toList = Lib.pow10Tab.map (Value.int .u64) := by rw [h2]; rfl
  exact r0_var (show Tryd.prog.globalNamed "internal/strconv.uint64pow10" = some 2 by kernel_rfl) hv (by rw [← Array.length_toList, h5]; decide) h5
theorem glob_err {W : World} {nm : String} {g T t : Nat} {cs : Array Value} {fuel : Nat} {p : List MemPlace} {d : DataW Unit} (hg : Tryd.prog.globalNamed nm = some g) (hT : (Tryd.prog.globals[g]?).map (·.type) = some T) (hi : isIf (Tryd.prog.underlying T) = true) (ht : (Tryd.prog.globals[g]?).map (·.type) = some t) (hv : W.var? Tryd.prog nm = some cs) (hd : DataW.trod (fun _ => ()) Tryd.prog W 0 (fun _ => true) false fuel t cs.toList = some (d, p)) :
    ∃ v, isE v ∧ R0 (fun _ => False) W (.ref [.v v]) (.pointer (some ⟨g, 0, none⟩)) ∧ ExN W g [AV.v v].length := by
  obtain rfl : T = t := Option.some.inj (hT.symm.trans ht)
  obtain ⟨v, h1, h2⟩ := iface_of_trod hi hd
  exact ⟨v, h2, r0_var hg hv (by rw [← Array.length_toList, h1]; simp) h1⟩
theorem in64_wf {n : Int} (h : (Lit.int .i64 n).wf = true) : In64 n := bounds_i64 h
set_option maxRecDepth 100000 in
set_option maxHeartbeats 1000000 in
/-- A text, opened. -/
theorem open_txt {H : Type} {enc : TypeId × Value → H} {W : World} {base : Nat} {v : Value} {d : DataW H} {p : List MemPlace} (hv : Value.okWide Tryd.prog W .any base 9 v)
    (h : DataW.Trod enc Tryd.prog W 0 (fun _ => true) true 9 v d p) : ∃ n : ByteArray, R0 (fun _ => False) W (.v (.string n)) v := by
  obtain ⟨z, rfl⟩ : ∃ z, v = .string z := by
    simp only [Value.okWide, Tryd.underlying9] at hv
    cases v <;> first | exact ⟨_, rfl⟩ | (exfalso; simp at hv; done) | exact hv.elim
  exact ⟨z, .v _⟩
end Go.Proofs.YtfmjmngkgmlghaaDoor
