/-
  What a call of brocadelaw20.TwinSettings does, for every integer.
-/
import Derived.Laws.Rows
import Derived.Test.YtdacidinmlfliaaGreatDoorShown
namespace Go.EvN
open Go Go.Ev Go.Proofs Go.RowKit
theorem Keeps.refl (w : World) : Keeps w w := ⟨rfl, rfl, Nat.le_refl _, fun _ _ => rfl⟩
theorem Keeps.trans {a b c : World} (h : Keeps a b) (g : Keeps b c) : Keeps a c :=
  ⟨g.1.trans h.1, g.2.1.trans h.2.1, Nat.le_trans h.2.2.1 g.2.2.1, fun i hi => (g.2.2.2 i (Nat.lt_of_lt_of_le hi h.2.2.1)).trans (h.2.2.2 i hi)⟩
theorem Keeps.drew {a b : World} (h : Keeps a b) : Keeps a b.drew := h
theorem Keeps.alloc {a b : World} (h : Keeps a b) (o : Obj) : Keeps a (b.alloc o) :=
  h.trans ⟨rfl, rfl, by show b.heap.size ≤ (b.heap.push o).size; simp, fun i hi => by show (b.heap.push o)[i]? = _; rw [Array.getElem?_push, if_neg (by omega)]⟩
set_option maxHeartbeats 4000000
theorem settingsOut (a0 : Int) (w : World) (h : a0 < 0 ∨ 3 < a0) : Calls Tryz.prog 5 #[.int .i64 a0] w fun e w' => e = .returned (.agg #[.bool false, .bool false]) ∧ Keeps w w' := by
  have h1 : (a0 == 1) = false := by simp; omega
  have h2 : (a0 == 2) = false := by simp; omega
  have h3 : (a0 == 3) = false := by simp; omega
  go_enter Tryz.func5, Tryz.ntmps5
  go_wp2
  refine bodyPost_ret (results_cell_row rfl _ _ w.heap.size 24 #[.bool false, .bool false] (0, 0) _ rfl (by show (w.heap.push _)[w.heap.size]? = _; simp) Tryz.underlying24 rfl (by kernel_rfl)) rfl ?_
  exact ⟨rfl, (Keeps.refl w).alloc _⟩
theorem settingsIn (a0 : Int) (x y : Bool) (w : World) (h : (a0 = 0 ∧ x = false ∧ y = false) ∨ (a0 = 1 ∧ x = true ∧ y = false) ∨ (a0 = 2 ∧ x = false ∧ y = true) ∨ (a0 = 3 ∧ x = true ∧ y = true)) : Calls Tryz.prog 5 #[.int .i64 a0] w fun e w' => e = .returned (.agg #[.bool x, .bool y]) ∧ Keeps w w' := by
  rcases h with ⟨rfl, rfl, rfl⟩ | ⟨rfl, rfl, rfl⟩ | ⟨rfl, rfl, rfl⟩ | ⟨rfl, rfl, rfl⟩
  · go_enter Tryz.func5, Tryz.ntmps5
    go_wp2
    refine bodyPost_ret (results_cell_row rfl _ _ w.heap.size 24 #[.bool false, .bool false] (0, 0) _ rfl (by show (w.heap.push _)[w.heap.size]? = _; simp) Tryz.underlying24 rfl (by kernel_rfl)) rfl ?_
    exact ⟨rfl, (Keeps.refl w).alloc _⟩
  · go_enter Tryz.func5, Tryz.ntmps5
    go_wp2
    refine bodyPost_ret (results_cell_row rfl _ _ w.heap.size 24 #[.bool true, .bool false] (0, 0) _ rfl (by show (w.heap.push _)[w.heap.size]? = _; simp) Tryz.underlying24 rfl (by kernel_rfl)) rfl ?_
    exact ⟨rfl, (Keeps.refl w).alloc _⟩
  · go_enter Tryz.func5, Tryz.ntmps5
    go_wp2
    refine bodyPost_ret (results_cell_row rfl _ _ w.heap.size 24 #[.bool false, .bool true] (0, 0) _ rfl (by show (w.heap.push _)[w.heap.size]? = _; simp) Tryz.underlying24 rfl (by kernel_rfl)) rfl ?_
    exact ⟨rfl, (Keeps.refl w).alloc _⟩
  · go_enter Tryz.func5, Tryz.ntmps5
    go_wp2
    refine bodyPost_ret (results_cell_row rfl _ _ w.heap.size 24 #[.bool true, .bool true] (0, 0) _ rfl (by show (w.heap.push _)[w.heap.size]? = _; simp) Tryz.underlying24 rfl (by kernel_rfl)) rfl ?_
    exact ⟨rfl, (Keeps.refl w).alloc _⟩
theorem walkIn (a0 : Int) (w : World) (hc : Cell0 w) (h : a0 = 0 ∨ a0 = 1 ∨ a0 = 2 ∨ a0 = 3) : Calls Tryz.prog 3 #[.int .i64 a0] w fun e w' => e = .returned (.bool true) ∧ Keeps w w' := by
  rcases h with rfl | rfl | rfl | rfl
  · go_enter Tryz.func3, Tryz.ntmps3
    go_wp2_with (first | (go_at_call 4; refine (shown_calls _ hc).mono ?_; rintro e w' ⟨rfl, hk⟩) | (go_at_call 5; refine (settingsIn 0 false false _ (by decide)).mono ?_; rintro e w'' ⟨rfl, hk2⟩))
    go_ret
    exact ⟨rfl, (hk.trans hk2).alloc _⟩
  · go_enter Tryz.func3, Tryz.ntmps3
    go_wp2_with (first | (go_at_call 4; refine (shown_calls _ hc).mono ?_; rintro e w' ⟨rfl, hk⟩) | (go_at_call 5; refine (settingsIn 1 true false _ (by decide)).mono ?_; rintro e w'' ⟨rfl, hk2⟩))
    go_ret
    exact ⟨rfl, (hk.trans hk2).alloc _⟩
  · go_enter Tryz.func3, Tryz.ntmps3
    go_wp2_with (first | (go_at_call 4; refine (shown_calls _ hc).mono ?_; rintro e w' ⟨rfl, hk⟩) | (go_at_call 5; refine (settingsIn 2 false true _ (by decide)).mono ?_; rintro e w'' ⟨rfl, hk2⟩))
    go_ret
    exact ⟨rfl, (hk.trans hk2).alloc _⟩
  · go_enter Tryz.func3, Tryz.ntmps3
    go_wp2_with (first | (go_at_call 4; refine (shown_calls _ hc).mono ?_; rintro e w' ⟨rfl, hk⟩) | (go_at_call 5; refine (settingsIn 3 true true _ (by decide)).mono ?_; rintro e w'' ⟨rfl, hk2⟩))
    go_ret
    exact ⟨rfl, (hk.trans hk2).alloc _⟩
theorem walkOut (a0 : Int) (w : World) (hc : Cell0 w) (h : a0 < 0 ∨ 3 < a0) : Calls Tryz.prog 3 #[.int .i64 a0] w fun e w' => e = .returned (.bool true) ∧ Keeps w w' := by
  have hs := fun w => settingsOut a0 w h
  rcases h with h | h
  · go_enter Tryz.func3, Tryz.ntmps3
    go_wp2_with (first | (go_at_call 4; refine (shown_calls _ hc).mono ?_; rintro e w' ⟨rfl, hk⟩) | (go_at_call 5; refine (hs _).mono ?_; rintro e w'' ⟨rfl, hk2⟩))
    go_ret
    exact ⟨rfl, (hk.trans hk2).alloc _⟩
  · have hn : ¬ a0 < 0 := by omega
    go_enter Tryz.func3, Tryz.ntmps3
    go_wp2_with (first | (go_at_call 4; refine (shown_calls _ hc).mono ?_; rintro e w' ⟨rfl, hk⟩) | (go_at_call 5; refine (hs _).mono ?_; rintro e w'' ⟨rfl, hk2⟩))
    go_ret
    exact ⟨rfl, (hk.trans hk2).alloc _⟩
theorem walk (a0 : Int) (w : World) (hc : Cell0 w) : Calls Tryz.prog 3 #[.int .i64 a0] w fun e w' => e = .returned (.bool true) ∧ Keeps w w' := by
  by_cases h : a0 < 0 ∨ 3 < a0
  · exact walkOut a0 w hc h
  · exact walkIn a0 w hc (by omega)
end Go.EvN
