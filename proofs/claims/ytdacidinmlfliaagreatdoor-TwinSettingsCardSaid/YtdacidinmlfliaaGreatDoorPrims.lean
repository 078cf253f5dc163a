/-
  strings.Contains and the index of a byte do what the evaluator says.
-/
import Derived.Lib.Bytealg
import Derived.Lib.IndexMore
import Derived.Test.YtdacidinmlfliaaGreatDoorEnvOK
import Derived.Test.YtdacidinmlfliaaGreatDoorShelf
namespace Go.Ev
open Go
/-! ### plain laws of the two library functions -/
theorem bytes_mk (s : ByteArray) : bytes s = s.data.toList.map UInt8.toNat := rfl
theorem pre_eq : ∀ (x y : List UInt8), pre (x.map UInt8.toNat) (y.map UInt8.toNat) = x.isPrefixOf y
  | [], y => by cases y <;> rfl
  | a :: x, [] => rfl
  | a :: x, b :: y => by
    simp only [List.map_cons, pre, List.isPrefixOf]
    rw [pre_eq x y]
    congr 1
    rw [beq_iff', Bool.eq_iff_iff]
    simp only [decide_eq_true_eq, beq_iff_eq]
    exact UInt8.toNat_inj
theorem index_ge (s sub : List UInt8) : -1 ≤ Lib.index s sub := by
  induction s with
  | nil => simp only [Lib.index]; split <;> omega
  | cons b l ih =>
    simp only [Lib.index]
    split
    · omega
    · split
      · omega
      · omega
theorem sub_eq (t : List UInt8) : ∀ (s : List UInt8), sub (t.map UInt8.toNat) (s.map UInt8.toNat) = Lib.contains s t
  | [] => by
    simp only [List.map_nil, sub, Lib.contains, Lib.index]
    have := pre_eq t []
    simp only [List.map_nil] at this
    rw [this]
    cases t <;> rfl
  | b :: l => by
    have hp := pre_eq t (b :: l)
    simp only [List.map_cons] at hp
    simp only [List.map_cons, sub]
    rw [hp, sub_eq t l]
    have hge := index_ge l t
    have key : (0 ≤ Lib.index (b :: l) t) ↔ (t.isPrefixOf (b :: l) = true ∨ 0 ≤ Lib.index l t) := by
      have e : Lib.index (b :: l) t = if t.isPrefixOf (b :: l) then 0 else if Lib.index l t == -1 then -1 else Lib.index l t + 1 := rfl
      rw [e]
      by_cases h : t.isPrefixOf (b :: l) = true
      · rw [if_pos h]; simp [h]
      · rw [if_neg h]
        by_cases h2 : Lib.index l t = -1
        · rw [h2]; simp [h]
        · have e2 : ¬ ((Lib.index l t == -1) = true) := by simpa using h2
          rw [if_neg e2]
          simp only [h]
          constructor
          · intro hh; exact .inr (by omega)
          · rintro (hh | hh)
            · cases hh
            · omega
    rw [Bool.eq_iff_iff]
    simp only [Lib.contains, Bool.or_eq_true, decide_eq_true_eq]
    exact key.symm
theorem idx_ge (l : List UInt8) (c : UInt8) : -1 ≤ Lib.indexByte l c := by
  induction l with
  | nil => simp [Lib.indexByte]
  | cons b l ih =>
    simp only [Lib.indexByte]
    split
    · omega
    · split
      · omega
      · omega
theorem idxOf_eq (c : UInt8) : ∀ (l : List UInt8) (k : Nat), idxOf c.toNat (l.map UInt8.toNat) k = if Lib.indexByte l c = -1 then none else some (k + (Lib.indexByte l c).toNat)
  | [], k => by simp [idxOf, Lib.indexByte]
  | b :: l, k => by
    have hge := idx_ge l c
    have e1 : Lib.indexByte (b :: l) c = if b == c then 0 else if Lib.indexByte l c == -1 then -1 else Lib.indexByte l c + 1 := rfl
    simp only [List.map_cons, idxOf]
    rw [e1]
    cases hb : Nat.beq b.toNat c.toNat with
    | true =>
      have h : b = c := UInt8.toNat_inj.1 (by simpa using hb)
      subst h; simp
    | false =>
      have h : ¬ b = c := by intro h; subst h; simp at hb
      have e : ¬ ((b == c) = true) := by simpa using h
      rw [if_neg e]
      show idxOf c.toNat (l.map UInt8.toNat) (Nat.succ k) = _
      rw [idxOf_eq c l (Nat.succ k)]
      by_cases h2 : Lib.indexByte l c = -1
      · rw [h2]; simp
      · have e2 : ¬ ((Lib.indexByte l c == -1) = true) := by simpa using h2
        rw [if_neg h2, if_neg e2, if_neg (by omega)]
        congr 1
        omega
theorem callGo_of_calls {P : Program} {f : Nat} {args : Array Value} {w : World} {x : Value} {Q : Value → World → Prop} (he : (callFunc f args).run P w = .ok (.enter f args) w)
    (hc : Calls P f args w fun e w' => e = .returned x ∧ w' = w) (hq : Q x w) : CallGo P f args w Q := by
  refine .inr ⟨he, fun cs => ?_⟩
  obtain ⟨e, w', fr, ⟨rfl, rfl⟩, h1, h2, h3, h4, h5, h6⟩ := hc cs
  exact ⟨x, w', ⟨fr, h1, h2, h3, h4, h5, h6⟩, hq⟩
end Go.Ev
namespace Go.EvN
open Go Go.Ev Go.Proofs
theorem run_index (s : ByteArray) (c : Int) (w : World) : (callFunc 246 #[.string s, .int .u8 c]).run Tryz.prog w = .ok (.value (.int .i64 (Lib.indexByte s.data.toList c.toNat.toUInt8))) w := by
  rw [run_callFunc_extern Tryz.func246 (by kernel_rfl) (by kernel_rfl) (by kernel_rfl) (e := Extern.BytealgIndexByte.indexByte) (by kernel_rfl), Lib.run_indexByteString]
  rfl
theorem prim_cases {f n : Nat} (h : E.prim f = some n) : (f = 114 ∧ n = 1) ∨ (f = 246 ∧ n = 2) := by
  have h : prim1Of f (Nat.beq f 114) = some n := h
  cases h1 : Nat.beq f 114 with
  | true => rw [h1] at h; cases h; exact .inl ⟨by simpa using h1, rfl⟩
  | false =>
    rw [h1] at h
    have h : prim2Of (Nat.beq f 246) = some n := h
    cases h2 : Nat.beq f 246 with
    | true => rw [h2] at h; cases h; exact .inr ⟨by simpa using h2, rfl⟩
    | false => rw [h2] at h; cases h
theorem P_ok : PrimOK Tryz.prog E := by
  intro f n vs h v h' hp he ρ w args hI hv
  rcases prim_cases hp with ⟨rfl, rfl⟩ | ⟨rfl, rfl⟩
  · have he : prim1 h vs = .ok v h' := he
    unfold prim1 at he
    split at he
    · rename_i a b _
      cases hc : and (Nat.blt (len a) 4294967281) (isGl (h.t.get .z)) with
      | false => rw [hc] at he; cases he
      | true =>
        rw [hc] at he
        cases he
        simp only [Bool.and_eq_true, blt_iff, decide_eq_true_eq, len_eq] at hc
        obtain ⟨hlen, hgl⟩ := hc
        obtain ⟨x, r1, e1, ⟨s, rfl, rfl⟩, y, r2, e2, ⟨t, rfl, rfl⟩, e3⟩ := hv
        simp only [RL] at e3
        subst e3; subst e2
        have ea : args = #[.string s, .string t] := by rw [← Array.toList_inj, e1]
        subst ea
        cases hg : h.t.get .z with
        | none => rw [hg] at hgl; cases hgl
        | some o =>
          rw [hg] at hgl
          cases o <;> try cases hgl
          rename_i b ob
          have hb : b = 0 := by simpa [isGl] using hgl
          subst hb
          obtain ⟨l, _, hl, hh, m, ty, fz, rfl⟩ := hI.obj _ _ hg
          rw [hl] at hh
          have hcell : w.cell? ⟨0, 0, none⟩ = some (.int .i64 m) := by simp [World.cell?, hh]
          have hsz : s.size < 4294967281 := by rw [bytes_length] at hlen; exact hlen
          refine callGo_of_calls (x := .bool (Lib.contains s.data.toList t.data.toList)) (Tryz.call114 _ w) (Tryz.strings_Contains s t m w hsz hcell) ⟨ρ, ?_, hI, Fr.refl _ _ _⟩
          show Value.bool _ = Value.bool _
          rw [bytes_mk, bytes_mk, sub_eq]
    · cases he
  · have he : prim2 h vs = .ok v h' := he
    unfold prim2 at he
    split at he
    · rename_i a c _
      cases hc : Nat.blt c 256 with
      | false => rw [hc] at he; cases he
      | true =>
      rw [hc] at he
      cases he
      have hc : c < 256 := by rw [blt_iff] at hc; simpa using hc
      obtain ⟨x, r1, e1, ⟨s, rfl, rfl⟩, y, r2, e2, hy, e3⟩ := hv
      simp only [RL] at e3
      subst e3; subst e2
      have hy : y = .int .u8 (Int.ofNat c) := hy
      subst hy
      have ea : args = #[.string s, .int .u8 (Int.ofNat c)] := by rw [← Array.toList_inj, e1]
      subst ea
      refine .inl ⟨_, w, run_index s (Int.ofNat c) w, ρ, ?_, hI, Fr.refl _ _ _⟩
      show R ρ (idxV (idxOf c (Go.Ev.bytes s) 0)) (.int .i64 (Lib.indexByte s.data.toList c.toUInt8))
      have hcc : c = c.toUInt8.toNat := by simp [Nat.toUInt8, UInt8.toNat_ofNat']; omega
      have := idxOf_eq c.toUInt8 s.data.toList 0
      rw [← hcc] at this
      rw [bytes_mk, this]
      have hge := idx_ge s.data.toList c.toUInt8
      by_cases h2 : Lib.indexByte s.data.toList c.toUInt8 = -1
      · rw [if_pos h2, h2]; rfl
      · rw [if_neg h2]
        show Value.int .i64 _ = Value.int .i64 _
        congr 1
        show _ = Int.ofNat _
        rw [Nat.zero_add, Int.ofNat_eq_natCast, Int.toNat_of_nonneg (by omega)]
    · cases he
end Go.EvN
