/- StatorNoStep's walk, whole. -/
import Derived.Test.YtdbglpaejmhbjaaDoorS4
namespace Go.Proofs.YtdbglpaejmhbjaaDoor
open Go Go.RowKit Go.Proofs

theorem statorNoStep_any (ls : List Int) (a : Option Addr) (n c : Nat) (p q : Int) (cs : List T2) (b : Option Addr) (m c2 : Nat) (f : T2) (mv : Int) (w : World) (hs : Sts w) (hl : ls.length = n) (hl2 : cs.length = m) (hr : Rd w 1 a n (ints ls)) (hr2 : Rd w 2 b m (cells2 cs)) :
    Calls Tryd.prog 12 #[.agg #[.slice a n c], .agg #[.int .i64 p, .int .i64 q], fV b m c2 f mv] w fun e w' => e = .returned (.bool true) ∧ Ext w w' := by
  by_cases h : n ≤ 14 ∧ (trackC n ls).2 = 0 ∧ trainE ls p q = 0 ∧ m ≤ 14 ∧ feedE n m cs f = 0 ∧ mv ≤ 40 ∧ moveE ls p q mv = 0
  · obtain ⟨h1, h2, h3, h4, h5, h6, h7⟩ := h
    obtain ⟨rfl, _, _⟩ := feed_ok h5
    obtain ⟨k1, k2, _⟩ := move_ok hl h2 h3 h7
    obtain ⟨k, rfl⟩ : ∃ k : Nat, mv = k := ⟨mv.toNat, by omega⟩
    exact statorNoStep_ok ls a m c p q cs b c2 f k w hs hl hl2 hr hr2 h2 h3 h5 (by omega) h7
  · exact statorNoStep_skip ls a n c p q cs b m c2 f mv w hs hl hl2 hr hr2 h
end Go.Proofs.YtdbglpaejmhbjaaDoor
