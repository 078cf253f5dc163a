/-
  What a call of brocadetop.TopNames does, for every input, in whatever world that is in form.
-/
import Derived.KernelRfl
import Derived.Laws.Rows
import Derived.Test.YtigkkoidkjdeaaaGreatDoorKnown
namespace Go.EvN
open Go Go.Ev Go.Proofs
set_option maxRecDepth 100000
theorem error_says (ob : Obj) : chkV (.s [101, 114, 114, 111, 114, 32, 55]) (callF E (rcM E .e 1000000) false 5 [.i .i64 (.ofNat 7)] (start0 ob)) = some (.gl GLB ob) := by kernel_rfl
theorem cell0_of (w : World) (h : w.ShapedOpen Tryz.prog) : Cell0 w := by
  obtain ⟨m, hm⟩ := Go.Proofs.cell_of_shapedOpen_int (P := Tryz.prog) (w := w) (g := GLB) (zero := #[.int .i64 0]) (t := 3) h (of_decide_eq_true (by kernel_rfl)) (by kernel_rfl) rfl (by kernel_rfl) (by kernel_rfl) Tryz.underlying3
  obtain ⟨cs, h1, h2, _⟩ := h.1 GLB #[.int .i64 0] 3 (of_decide_eq_true (by kernel_rfl)) (by kernel_rfl)
  have hc : cs[0]? = some (.int .i64 m) := by
    simp only [World.cell?, h1] at hm
    exact hm
  have e : cs = #[.int .i64 m] := by
    obtain ⟨l⟩ := cs
    have h2 : l.length = 1 := h2
    match l, h2 with
    | [a], _ =>
      have : some a = some (.int .i64 m) := hc
      cases this
      rfl
  exact ⟨m, 3, _, by rw [h1, e]⟩
end Go.EvN
namespace Go.EvN
open Go Go.Ev Go.Proofs Go.RowKit
set_option maxHeartbeats 4000000
theorem works_calls (w : World) (hc : Cell0 w) : Calls Tryz.prog 4 #[] w fun e w' => e = .returned (.bool true) ∧ Keeps w w' := by
  refine (closed_calls E_ok P_ok top_ok works_true rfl w hc).mono ?_
  rintro e w' ⟨ρ, x, rfl, h, hk⟩
  have hx : x = .bool true := h
  subst hx
  exact ⟨rfl, hk⟩
theorem error_calls (w : World) (hc : Cell0 w) : Calls Tryz.prog 5 #[.int .i64 7] w fun e w' => e = .returned (.string ⟨#[101, 114, 114, 111, 114, 32, 55]⟩) ∧ Keeps w w' := by
  refine (closed_calls E_ok P_ok (fun i e h => by cases h) error_says ⟨_, _, rfl, rfl, rfl⟩ w hc).mono ?_
  rintro e w' ⟨ρ, x, rfl, ⟨s, rfl, hs⟩, hk⟩
  refine ⟨?_, hk⟩
  have h : s = ⟨#[101, 114, 114, 111, 114, 32, 55]⟩ := by
    obtain ⟨⟨l⟩⟩ := s
    have hs : l.map UInt8.toNat = [101, 114, 114, 111, 114, 32, 55] := hs
    congr 2
    have key : ∀ (a b : List UInt8), a.map UInt8.toNat = b.map UInt8.toNat → a = b := fun a b h => (List.map_inj_right (fun _ _ h => UInt8.toNat_inj.1 h)).1 h
    have := key l [101, 114, 114, 111, 114, 32, 55] hs
    rw [this]
  rw [h]
theorem same255 : ∀ n : Fin 256, bits BinOp.and IntKind.u8 (n.val : Int) 255 = (n.val : Int) := by decide +kernel
theorem and255 {x : Int} (hx : (Lit.int .u8 x).wf = true) : (x == bits BinOp.and IntKind.u8 x 255) = true := by
  simp only [Lit.wf, Bool.and_eq_true, decide_eq_true_eq] at hx
  have h0 : 0 ≤ x := hx.1
  have h1 : x ≤ 255 := hx.2
  obtain ⟨n, rfl⟩ := Int.eq_ofNat_of_zero_le h0
  have := same255 ⟨n, by omega⟩
  rw [this]
  exact beq_self_eq_true _
theorem walk (x : Int) (hx : (Lit.int .u8 x).wf = true) (w : World) (hc : Cell0 w) : Calls Tryz.prog 3 #[.int .u8 x] w fun e w' => e = .returned (.bool true) ∧ Keeps w w' := by
  go_enter Tryz.func3, Tryz.ntmps3
  go_wp2_with (first | (go_at_call 4; refine (works_calls _ hc).mono ?_; rintro e w' ⟨rfl, hk⟩) | (go_at_call 5; refine (error_calls _ (hk.cell0 hc)).mono ?_; rintro e w'' ⟨rfl, hk2⟩))
  go_ret
  exact ⟨by rw [and255 hx]; rfl, hk.trans hk2⟩
end Go.EvN
