/-
  What a call of brocadelaw20.shown does, in whatever world whose first variable holds an integer.
-/
import Derived.WalkKit
import Derived.Shelf.Vars
import Derived.Test.YtdacidinmlfliaaGreatDoorRun
import Derived.Test.YtdacidinmlfliaaGreatDoorPrims
namespace Go.EvN
open Go Go.Ev Go.Proofs
/-- what lay there lies there still -/
def Keeps (w w' : World) : Prop := w'.os = w.os ∧ w'.output = w.output ∧ w.heap.size ≤ w'.heap.size ∧ ∀ b, b < w.heap.size → w'.heap[b]? = w.heap[b]?
def Cell0 (w : World) : Prop := ∃ n t fz, w.heap[0]? = some (.cells #[.int .i64 n] t fz)
theorem rc_call (E : Env) (n : Nat) : (rc E (n + 1)).call = callF E (rc E n) := rfl
theorem start_inv (w : World) {o : Obj} (ho : w.heap[0]? = some o) (hc : ∃ n t fz, o = .cells #[.int .i64 n] t fz) : Ev.Inv (fun i => if i = .z then some ⟨0, 0, 1⟩ else none) (start o) w where
  fresh i hi := by
    have hi : (Pth.o .z).nat ≤ i.nat := hi
    rw [if_neg]
    intro e
    subst e
    exact absurd hi (by decide)
  obj i ob hi := by
    have hi : (Tr.put .z .e (some (AObj.gl 0 o))).get i = some ob := hi
    rw [Tr.get_put] at hi
    split at hi
    · rename_i e
      subst e
      cases hi
      exact ⟨⟨0, 0, 1⟩, by simp, rfl, ho, hc⟩
    · cases hi
  inj i j oi oj li lj h1 h2 hij := by
    have h1 : (Tr.put .z .e (some (AObj.gl 0 o))).get i = some oi := h1
    have h2 : (Tr.put .z .e (some (AObj.gl 0 o))).get j = some oj := h2
    rw [Tr.get_put] at h1 h2
    split at h1
    · rename_i e1
      split at h2
      · rename_i e2
        exact absurd (e1.symm.trans e2) hij
      · cases h2
    · cases h1
theorem shown_calls (w : World) (hc : Cell0 w) : Calls Tryz.prog 4 #[] w fun e w' => e = .returned (.bool true) ∧ Keeps w w' := by
  obtain ⟨n, t, fz, h0⟩ := hc
  have hI := start_inv w h0 ⟨n, t, fz, rfl⟩
  have hs := shown_true (.cells #[.int .i64 n] t fz)
  cases hcall : callF E (rc E 1000000) false 4 [] (start (.cells #[.int .i64 n] t fz)) with
  | no => rw [hcall] at hs; cases hs
  | ok v h' =>
    rw [hcall] at hs
    cases v <;> try cases hs
    rename_i b
    cases b
    · cases hs
    · have hg : h'.t.get .z = some (.gl 0 (.cells #[.int .i64 n] t fz)) := hs
      have RC := rc_sound E_ok P_ok (1000000 + 1)
      obtain ⟨_, h2⟩ := RC.call false 4 [] _ _ _ (by rw [rc_call]; exact hcall) _ w #[] hI rfl
      intro cs
      obtain ⟨x, w', ⟨fr, r1, r2, r3, r4, r5, r6⟩, ρ', q1, q2, q3⟩ := h2 cs (fun h => by cases h)
      have hx : x = .bool true := q1
      subst hx
      refine ⟨.returned (.bool true), w', fr, ⟨rfl, q3.os, q3.output, q3.sz, fun b hb => ?_⟩, r1, r2, r3, r4, r5, r6⟩
      by_cases hb0 : b = 0
      · subst hb0
        obtain ⟨l, l1, l2, l3, _⟩ := q2.obj _ _ hg
        have := q3.ext .z ⟨0, 0, 1⟩ (by simp)
        rw [l1] at this; cases this
        rw [h0]; exact l3
      · refine q3.keep b hb (fun i o l h1 h3 => ?_)
        by_cases hi : i = .z
        · subst hi
          have h3 : (if Pth.z = Pth.z then some (⟨0, 0, 1⟩ : Ev.Loc) else none) = some l := h3
          rw [if_pos rfl] at h3
          cases h3
          exact fun e => hb0 e.symm
        · have h3 : (if i = Pth.z then some (⟨0, 0, 1⟩ : Ev.Loc) else none) = some l := h3
          rw [if_neg hi] at h3; cases h3
theorem cell0_of (w : World) (h : w.ShapedOpen Tryz.prog) : Cell0 w := by
  obtain ⟨m, hm⟩ := Go.Proofs.cell_of_shapedOpen_int (P := Tryz.prog) (w := w) (g := 0) (zero := #[.int .i64 0]) (t := 3) h (of_decide_eq_true (by kernel_rfl)) (by kernel_rfl) rfl (by kernel_rfl) (by kernel_rfl) Tryz.underlying3
  obtain ⟨cs, h1, h2, _⟩ := h.1 0 #[.int .i64 0] 3 (of_decide_eq_true (by kernel_rfl)) (by kernel_rfl)
  have hc : cs[0]? = some (.int .i64 m) := by
    simp only [World.cell?, h1] at hm
    exact hm
  have e : cs = #[.int .i64 m] := by
    obtain ⟨l⟩ := cs
    have h2 : l.length = 1 := h2
    match l, h2 with
    | [a], _ =>
      have : some a = some (.int .i64 m) := hc
      cases this
      rfl
  exact ⟨m, 3, _, by rw [h1, e]⟩
end Go.EvN
