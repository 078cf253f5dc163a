/-
  The evaluator is sound: the other quiet operations, one operation's step.
-/
import Derived.Laws.IdiomElems
import Derived.Laws.Slices
import Derived.Laws.IdiomMaps
import Derived.AtR
import Derived.Defers
import Derived.Test.YtigkkoidkjdeaaaGreatDoorEvB
import Derived.Test.YtigkkoidkjdeaaaGreatDoorEvA
namespace Go.Ev
open Go
noncomputable section
variable {P : Program} {E : Env} {ρ : Rho} {T : Tr V} {tm : Array Value}

theorem q_ifc {t : TypeId} {x : Operand} {w : World} {h : H} (K : EnvOK P E) (hT : TR ρ T tm) : QOK P ρ w (vOf ((Instr.makeInterface t (evO tm x)).run P w)) ((qIfc (aB x) t (E.tt t)).f T h) := by
  cases ht : E.tt t with
  | none => exact trivial
  | some ti =>
    have go : (∀ ms, ti.ud ≠ .interface ms) → QOK P ρ w (vOf ((Instr.makeInterface t (evO tm x)).run P w)) (rIfc t ((aB x).f T)) := by
      intro hni
      cases hx : (aB x).f T with
      | none => exact trivial
      | some v =>
        refine ⟨.iface t (evO tm x), ?_, _, rfl, aB_R hx hT⟩
        have hc : P.concrete t = true := by
          unfold Program.concrete
          rw [(K.info t ti ht).2]
          cases hd : ti.ud <;> first | rfl | exact absurd hd (hni _)
        rw [run_makeInterface w t _ hc, vOf_ok]
    show QOK P ρ w _ ((match ti.ud with | .interface _ => qNo | _ => (⟨fun T _ => rIfc t ((aB x).f T)⟩ : QB)).f T h)
    cases hd : ti.ud <;> first | exact trivial | exact go (by rw [hd]; intro ms hh; cases hh)
theorem q_fn {f : Fn} {a c : Array Operand} {w : World} {h : H} (hT : TR ρ T tm) : QOK P ρ w (vOf ((Instr.makeFunc f (a.map (evO tm)) (c.map (evO tm))).run P w)) ((qFn (lB a.toList) (lB c.toList) f).f T h) := by
  cases f <;> simp only [qFn] <;> try exact trivial
  case method n =>
    show QOK P ρ w _ (rFm n ((lB a.toList).f T) ((lB c.toList).f T))
    cases ha : (lB a.toList).f T with
    | none => exact trivial
    | some l =>
      cases hc : (lB c.toList).f T with
      | none => cases l with
        | nil => exact trivial
        | cons v l => cases v <;> cases l <;> exact trivial
      | some m =>
        have h1 := lB_R ha hT
        cases l with
        | nil => exact trivial
        | cons v l =>
          cases l with
          | cons u l => cases v <;> exact trivial
          | nil =>
            cases v <;> try exact trivial
            obtain ⟨y, r, e1, ⟨z, e2, h3⟩, h4⟩ := h1
            simp only [RL] at h4
            subst h4; subst e2
            rename_i t u
            have e3 : a.map (evO tm) = #[Value.iface t z] := by rw [← Array.toList_inj]; simpa using e1
            rw [e3]
            exact ⟨.func (.method n) #[Value.iface t z] (c.map (evO tm)), rfl, z, _, rfl, h3⟩
  rename_i f
  show QOK P ρ w _ (rFn f ((lB a.toList).f T) ((lB c.toList).f T))
  cases ha : (lB a.toList).f T with
  | none => exact trivial
  | some l =>
    cases hc : (lB c.toList).f T with
    | none => exact trivial
    | some m =>
      have h1 := lB_R ha hT
      have h2 := lB_R hc hT
      exact ⟨.func (.func f) (a.map (evO tm)) (c.map (evO tm)), rfl, _, _, rfl, by simpa using h1, by simpa using h2⟩
theorem q_mm {t : TypeId} {r : Option Operand} {w : World} {h : H} : QOK P ρ w (vOf ((Instr.makeMap t (r.map (evO tm))).run P w)) ((qMM r).f T h) := by
  cases r with
  | none => rfl
  | some r => exact trivial
theorem q_mk {t : TypeId} {n c : Operand} {w : World} {h : H} (K : EnvOK P E) (hT : TR ρ T tm) : QOK P ρ w (vOf ((Instr.makeSlice t (evO tm n) (evO tm c)).run P w)) ((qMk E (aB n) (aB c) (E.tt t)).f T h) := by
  cases ht : E.tt t with
  | none => exact trivial
  | some ti =>
    cases hd : ti.ud <;> simp only [qMk, hd] <;> try exact trivial
    rename_i e
    cases he : E.tt e with
    | none => exact trivial
    | some ei =>
      cases hz : zeroCells E e with
      | none => exact trivial
      | some z =>
        show QOK P ρ w _ ((qMk3 (aB n) (aB c) z ei.size _).f T h)
        cases hc : and (Nat.blt ei.bytes 100000) (and (Nat.beq (len z) ei.size) (Nat.blt 0 ei.size)) with
        | false => exact trivial
        | true =>
          simp only [Bool.and_eq_true, blt_iff, beq_iff', decide_eq_true_eq] at hc
          obtain ⟨hc1, hc2, hc3⟩ := hc
          show QOK P ρ w _ (rMk z ei.size ((aB n).f T) ((aB c).f T))
          cases hn : (aB n).f T with
          | none => exact trivial
          | some a =>
            cases a <;> try exact trivial
            rename_i k1 n1
            cases k1 <;> try exact trivial
            cases n1 <;> try exact trivial
            rename_i n1
            cases hcc : (aB c).f T with
            | none => exact trivial
            | some b =>
              cases b <;> try exact trivial
              rename_i k2 c1
              cases k2 <;> try exact trivial
              cases c1 <;> try exact trivial
              rename_i c1
              show QOK P ρ w _ (rMk2 z ei.size n1 c1 (and (Nat.ble n1 c1) (Nat.blt c1 1000000)))
              cases hb : and (Nat.ble n1 c1) (Nat.blt c1 1000000) with
              | false => exact trivial
              | true =>
                simp only [Bool.and_eq_true, blt_iff, decide_eq_true_eq, Nat.ble_eq] at hb
                obtain ⟨hb1, hb2⟩ := hb
                have en : evO tm n = .int .i64 (Int.ofNat n1) := aB_R hn hT
                have ec : evO tm c = .int .i64 (Int.ofNat c1) := aB_R hcc hT
                obtain ⟨zx, hz1, hz2, hz3⟩ := zeroCells_some K hz ρ w
                have hzl : zx.cells.size = ei.size := by
                  have := hz2.length; rw [len_eq] at hc2; simp at this; omega
                have hrc := range_cells zx.cells c1 (c1 * ei.size) (by rw [hzl])
                have hwn : IntKind.i64.wrap (Int.ofNat n1) = Int.ofNat n1 := wrap_in .i64 _ (fun _ => ⟨by have : (0 : Int) ≤ Int.ofNat n1 := Int.natCast_nonneg _; simp only [lim]; omega, by show (n1 : Int) < _; simp only [lim]; omega⟩) (fun h => by cases h)
                have hwc : IntKind.i64.wrap (Int.ofNat c1) = Int.ofNat c1 := wrap_in .i64 _ (fun _ => ⟨by have : (0 : Int) ≤ Int.ofNat c1 := Int.natCast_nonneg _; simp only [lim]; omega, by show (c1 : Int) < _; simp only [lim]; omega⟩) (fun h => by cases h)
                have hby : (ei.info.bytes : Int) * (c1 : Int) ≤ 2 ^ 48 := by
                  have h1 := (K.flat e ei he).2.1
                  have h2 : ei.info.bytes * c1 ≤ 100000 * 1000000 := Nat.mul_le_mul (by omega) (by omega)
                  have h3 : ((ei.info.bytes * c1 : Nat) : Int) ≤ ((100000 * 1000000 : Nat) : Int) := by exact_mod_cast h2
                  rw [Int.natCast_mul] at h3
                  omega
                refine ⟨(Array.range (c1 * ei.size)).map (zx.cells[· % zx.cells.size]!), e, (0, 0), c1, w.alloc (.cells ((Array.range (c1 * ei.size)).map (zx.cells[· % zx.cells.size]!)) e), ?_, rfl, rfl, rfl, rfl, Or.inl rfl, fun k v hk => ?_, rfl, hb1, by simp only [maxLen]; omega, by simp⟩
                · have hnl : ¬ (IntKind.i64.wrap (Int.ofNat c1) < 0) := by rw [hwc]; simp
                  have hnl2 : ¬ ((ei.info.bytes : Int) * IntKind.i64.wrap (Int.ofNat c1) > 2 ^ 48) := by rw [hwc]; show ¬ ((ei.info.bytes : Int) * (c1 : Int) > 2 ^ 48); omega
                  have hnl3 : ¬ (IntKind.i64.wrap (Int.ofNat n1) < 0) := by rw [hwn]; simp
                  have hnl4 : ¬ (IntKind.i64.wrap (Int.ofNat n1) > IntKind.i64.wrap (Int.ofNat c1)) := by rw [hwn, hwc]; show ¬ ((n1 : Int) > (c1 : Int)); omega
                  rw [en, ec]
                  simp only [Instr.makeSlice, Sem.run_bind, run_und K ht, hd, Result.andThen_ok, asInt, asIntOf, Sem.run_pure, run_info K he]
                  simp only [hnl, hnl2, hnl3, hnl4, decide_false, Bool.or_false, Bool.false_or, Bool.false_eq_true, if_false, or_self, Sem.run_bind, run_askRoom, Result.andThen_ok]
                  simp only [run_size K he, Result.andThen_ok, hwc, hwn, Sem.run_ite]
                  have tn : ∀ m : Nat, (Int.ofNat m).toNat = m := fun _ => rfl
                  simp only [tn]
                  split
                  · rename_i h0
                    simp only [Sem.run_bind, Sem.run_pure, Result.andThen_ok, h0]
                    have er : ∀ f : Nat → Value, (Array.range 0).map f = #[] := fun f => by simp
                    simp [er, newRow]
                    rfl
                  · simp only [Sem.run_bind, Sem.run_pure, Result.andThen_ok, hz1, newRow]
                    rfl
                · rw [← Array.getElem?_toList, hrc]
                  obtain ⟨x, hx1, hx2⟩ := (rep_R hz2 c1).get hk
                  exact ⟨x, hx1, hx2, hz3 x (rep_mem (List.mem_of_getElem? hx1))⟩
end
end Go.Ev
namespace Go.Ev
open Go
noncomputable section
variable {P : Program} {E : Env} {ρ : Rho} {T : Tr V} {tm : Array Value}

def NR : Option Value → Option Nat → Prop
  | none, none => True
  | some v, some n => ∃ k, v = .int k (Int.ofNat n)
  | _, _ => False
theorem natVO_some {o : Option V} {n : Nat} (h : natVO o = some n) : ∃ k, o = some (.i k (Int.ofNat n)) := by
  cases o with
  | none => cases h
  | some v =>
    cases v <;> try cases h
    rename_i k m
    cases m with
    | ofNat m => cases h; exact ⟨k, rfl⟩
    | negSucc m => cases h
theorem nB_R {lo : Option Operand} {r : Option Nat} (h : (nB lo).f T = some r) (hT : TR ρ T tm) : NR (lo.map (evO tm)) r := by
  cases lo with
  | none => cases h; exact trivial
  | some o =>
    have h' : someO (natVO ((aB o).f T)) = some r := h
    cases hn : natVO ((aB o).f T) with
    | none => rw [hn] at h'; cases h'
    | some n =>
      rw [hn] at h'; cases h'
      obtain ⟨k, hk⟩ := natVO_some hn
      exact ⟨k, aB_R hk hT⟩
theorem sB {k : IntKind} {n y : Nat} {code : BoundsCode} {w : World} (h : n ≤ y) : (Instr.sliceBound (.int k (n : Int)) y code).run P w = .ok n w :=
  run_sliceBound w k (n : Int) y code (Int.natCast_nonneg n) (by exact_mod_cast h)
theorem bounds_run {isS : Bool} {len cap : Nat} {lo hi mx : Option Value} {l h m : Option Nat} {w : World} (hl : NR lo l) (hh : NR hi h) (hm : NR mx m)
    (h1 : orN 0 l ≤ orN len h) (h2 : orN len h ≤ orN cap m) (h3 : orN cap m ≤ cap) (hx : m = none ∨ h ≠ none) :
    (Instr.sliceBounds isS len cap lo hi mx).run P w = .ok (orN 0 l, orN len h, orN cap m) w := by
  cases lo <;> cases l <;> (try cases hl) <;> cases hi <;> cases h <;> (try cases hh) <;> cases mx <;> cases m <;> (try cases hm) <;>
    (try simp at hx) <;> simp only [orN] at h1 h2 h3 ⊢ <;> subst_vars <;>
    simp [Instr.sliceBounds, sB, h1, h2, h3]

theorem add_if {b o l m sz : Nat} : (if m = l then some (⟨b, o, none⟩ : Addr) else Option.map (fun a : Addr => a.add (l * sz)) (some ⟨b, o, none⟩)) = if m = l then some ⟨b, o, none⟩ else some ⟨b, o + l * sz, none⟩ := by
  split
  · rfl
  · simp [add_eq]
theorem sliceSl_R {i : Pth} {off ln cap sz : Nat} {ex isS : Bool} {lo hi mx : Option Nat} {v : V} {vlo vhi vmx : Option Value} {x : Value} {w : World}
    (h : sliceSl i off ln cap ex sz lo hi mx = some v) (hx : R ρ (.sl i off ln cap ex sz) x) (hl : NR vlo lo) (hh : NR vhi hi) (hm : NR vmx mx) :
    ∃ a c l h m, x = .slice (some a) ln c ∧ (Instr.sliceBounds isS ln c vlo vhi vmx).run P w = .ok (l, h, m) w ∧ R ρ v (.slice (if m = l then some a else (some a).map (·.add (l * sz))) (h - l) (m - l)) := by
  obtain ⟨loc, c, h1, h2, h3, h4, h5, h6⟩ := hx
  have fin : ∀ (l h' m : Nat) (b : Bool), slM i off sz l h' m b = some v → b = Nat.beq m l → l ≤ h' → h' ≤ m → m ≤ c →
      R ρ v (.slice (if m = l then some ⟨loc.blk, loc.off + off, none⟩ else (some (⟨loc.blk, loc.off + off, none⟩ : Addr)).map (·.add (l * sz))) (h' - l) (m - l)) := by
    intro l h' m b hv hb a1 a2 a3
    rw [add_if]
    have hml : m * sz ≤ c * sz := Nat.mul_le_mul_right _ a3
    cases b with
    | true =>
      have e : m = l := by simpa using hb.symm
      subst e
      cases hv
      rw [if_pos rfl]
      have e1 : h' - m = 0 := by omega
      have e2 : m - m = 0 := by omega
      rw [e1, e2]
      exact ⟨loc, 0, h1, rfl, rfl, Nat.le_refl _, Nat.zero_le _, by simp only [Nat.zero_mul]; omega⟩
    | false =>
      have e : ¬ m = l := by intro e; subst e; simp at hb
      cases hv
      rw [if_neg e]
      refine ⟨loc, m - l, h1, ?_, rfl, by show h' - l ≤ m - l; omega, by omega, ?_⟩
      · show Value.slice (some ⟨loc.blk, loc.off + off + l * sz, none⟩) _ _ = Value.slice (some ⟨loc.blk, loc.off + (off + l * sz), none⟩) _ _
        rw [Nat.add_assoc]; rfl
      · show loc.off + (off + l * sz) + (m - l) * sz ≤ loc.size
        have : (m - l) * sz = m * sz - l * sz := Nat.sub_mul _ _ _
        have : l * sz ≤ m * sz := Nat.mul_le_mul_right _ (by omega)
        omega
  have hcc : cap ≤ c := by cases ex <;> simp only [capOk] at h3 <;> omega
  cases mx with
  | some m =>
    simp only [sliceSl] at h
    cases hi with
    | none => cases h
    | some hh' =>
      simp only at h
      cases hb : and (Nat.ble m cap) (and (Nat.ble hh' m) (Nat.ble (orN 0 lo) hh')) with
      | false => rw [hb] at h; cases h
      | true =>
        rw [hb] at h
        simp only [Bool.and_eq_true, Nat.ble_eq] at hb
        obtain ⟨b1, b2, b3⟩ := hb
        exact ⟨_, c, _, _, _, h2, bounds_run hl hh hm b3 b2 (Nat.le_trans b1 hcc) (.inr (by simp)), fin _ _ _ _ h rfl b3 b2 (Nat.le_trans b1 hcc)⟩
  | none =>
    simp only [sliceSl] at h
    cases hb : and (Nat.ble (orN ln hi) cap) (Nat.ble (orN 0 lo) (orN ln hi)) with
    | false => rw [hb] at h; cases h
    | true =>
      rw [hb] at h
      simp only [Bool.and_eq_true, Nat.ble_eq] at hb
      obtain ⟨b1, b2⟩ := hb
      have b1' := Nat.le_trans b1 hcc
      refine ⟨_, c, _, _, _, h2, bounds_run hl hh hm b2 b1' (Nat.le_refl _) (.inl rfl), ?_⟩
      show R ρ v (.slice (if c = orN 0 lo then _ else _) _ _)
      cases ex with
      | true =>
        have hc : c = cap := h3
        subst hc
        exact fin _ _ _ _ h rfl b2 b1' (Nat.le_refl _)
      | false =>
        simp only [slN] at h
        generalize orN 0 lo = l at *
        generalize orN ln hi = q at *
        rw [add_if]
        cases hz : Nat.beq l 0 with
        | true =>
          have : l = 0 := by simpa using hz
          subst this
          rw [hz] at h
          cases h
          refine ⟨loc, c, h1, ?_, hcc, b1, h5, h6⟩
          show Value.slice _ _ _ = _
          split
          · rfl
          · simp [orN]
        | false =>
          rw [hz] at h
          have h' : slU2 i off sz cap l q (Nat.blt l cap) = some v := h
          cases hlt : Nat.blt l cap with
          | true =>
            rw [hlt] at h'
            have hlt : l < cap := by simpa using hlt
            cases h'
            rw [if_neg (by omega)]
            refine ⟨loc, c - l, h1, ?_, by show cap - l ≤ c - l; omega, by show _ - l ≤ cap - l; omega, by omega, ?_⟩
            · show Value.slice (some ⟨loc.blk, loc.off + off + l * sz, none⟩) _ _ = Value.slice (some ⟨loc.blk, loc.off + (off + l * sz), none⟩) _ _
              rw [Nat.add_assoc]; rfl
            · show loc.off + (off + l * sz) + (c - l) * sz ≤ loc.size
              have : (c - l) * sz = c * sz - l * sz := Nat.sub_mul _ _ _
              have : l * sz ≤ c * sz := Nat.mul_le_mul_right _ (by omega)
              omega
          | false =>
            rw [hlt] at h'
            have hlt : ¬ l < cap := by rw [blt_iff] at hlt; simpa using hlt
            have e : q - l = 0 := by omega
            rw [e]
            have hv : v = .se := by injection h' with h'; exact h'.symm
            rw [hv]
            split
            · exact ⟨_, _, rfl⟩
            · exact ⟨_, _, rfl⟩

theorem rB3_ok {k : Option Nat → Option Nat → Option Nat → Res} {a b c : Option (Option Nat)} {nx : RN} {w : World}
    (h : ∀ x y z, a = some x → b = some y → c = some z → QOK P ρ w nx (k x y z)) : QOK P ρ w nx (rB3 k a b c) := by
  cases a <;> cases b <;> cases c <;> first | exact trivial | exact h _ _ _ rfl rfl rfl
theorem rB2_ok {k : Option Nat → Option Nat → Res} {a b : Option (Option Nat)} {nx : RN} {w : World}
    (h : ∀ x y, a = some x → b = some y → QOK P ρ w nx (k x y)) : QOK P ρ w nx (rB2 k a b) := by
  cases a <;> cases b <;> first | exact trivial | exact h _ _ rfl rfl
theorem z0_orN {o : Option Nat} (h : z0 o = true) : orN 0 o = 0 := by
  cases o with
  | none => rfl
  | some n => exact Nat.eq_of_beq_eq_true h
theorem mxZ_cases {hi mx : Option Nat} (h : mxZ hi mx = true) : mx = none ∨ mx = some 0 ∧ hi ≠ none := by
  cases mx with
  | none => exact .inl rfl
  | some n =>
    simp only [mxZ, Bool.and_eq_true, Bool.not_eq_true'] at h
    refine .inr ⟨by rw [Nat.eq_of_beq_eq_true h.2], fun e => ?_⟩
    rw [e] at h; exact absurd h.1 (by simp [isN])
theorem isN_none {o : Option Nat} (h : isN o = true) : o = none := by
  cases o with
  | none => rfl
  | some n => cases h
theorem ifB_ok {nx : RN} {w : World} {b : Bool} {v : V} (h : b = true → QOK P ρ w nx (.val v)) : QOK P ρ w nx (ifB v b) := by
  cases b with
  | false => exact trivial
  | true => exact h rfl
theorem bytes_extract (s : ByteArray) (a b : Nat) (r : List Nat) (h : tk (Nat.sub b a) (drp a (bytes s)) = some r) : bytes (s.extract a b) = r := by
  obtain ⟨h1, h2⟩ := tk_some h
  rw [drp_eq] at h1
  rw [h1]
  have e : (s.extract a b).data.toList = (s.data.toList.drop a).take (b - a) := by
    have e1 : (s.extract a b).data = s.data.extract a b := ByteArray.data_extract
    rw [e1, Array.toList_extract, List.extract_eq_take_drop]
  show List.map UInt8.toNat _ = List.take _ (List.drop _ (List.map UInt8.toNat _))
  rw [← List.map_drop, ← List.map_take, e]; rfl
theorem q_slice {t : TypeId} {x : Operand} {lo hi mx : Option Operand} {w : World} {h : H} (K : EnvOK P E) (hT : TR ρ T tm) (hI : InvO ρ h w) :
    QOK P ρ w (vOf ((Instr.sliceAt t (evO tm x) (lo.map (evO tm)) (hi.map (evO tm)) (mx.map (evO tm))).run P w)) ((qSl E (aB x) (nB lo) (nB hi) (nB mx) mx (E.tt t)).f T h) := by
  cases ht : E.tt t with
  | none => exact trivial
  | some ti =>
    cases hd : ti.ud <;> simp only [qSl, qSlD, hd] <;> try exact trivial
    · -- string
      cases mx with
      | some m => exact trivial
      | none =>
        refine rB2_ok fun l h' hl hh => ?_
        have nl := nB_R hl hT
        have nh := nB_R hh hT
        cases hx : (aB x).f T with
        | none => exact trivial
        | some v =>
          cases v <;> try exact trivial
          rename_i bs
          obtain ⟨s, hs, rfl⟩ := aB_R hx hT
          show QOK P ρ w _ (rSlStr2 (bytes s) (orN 0 l) (orN (len (bytes s)) h') _)
          cases hb : and (Nat.ble (orN 0 l) (orN (len (bytes s)) h')) (Nat.ble (orN (len (bytes s)) h') (len (bytes s))) with
          | false => exact trivial
          | true =>
            refine rVal_some fun v hv => ?_
            cases ht2 : tk (Nat.sub (orN (len (bytes s)) h') (orN 0 l)) (drp (orN 0 l) (bytes s)) with
            | none => rw [ht2] at hv; cases hv
            | some r =>
              rw [ht2] at hv; cases hv
              have e := bytes_extract s _ _ r ht2
              rw [len_eq, bytes_length] at e hb
              simp only [Bool.and_eq_true, Nat.ble_eq] at hb
              obtain ⟨hb', h3⟩ := hb
              refine ⟨.string (s.extract (orN 0 l) (orN s.size h')), ?_, _, rfl, e⟩
              have hr := bounds_run (P := P) (w := w) (isS := false) (len := s.size) (cap := s.size) (mx := none) (m := none) nl nh trivial hb' h3 (Nat.le_refl _) (.inl rfl)
              rw [hs]
              simp [Instr.sliceAt, run_und K ht, hd, Instr.slice, hr, vOf]
    · -- slice
      rename_i e
      cases hs : szOf E e with
      | none => exact trivial
      | some es =>
        obtain ⟨ei, he, rfl⟩ := szOf_some hs
        refine rB3_ok fun l h' m hl hh hm => ?_
        have nl := nB_R hl hT
        have nh := nB_R hh hT
        have nm := nB_R hm hT
        have key : ∀ a ln c (l' h'' m' : Nat), evO tm x = .slice a ln c → (Instr.sliceBounds true ln c (lo.map (evO tm)) (hi.map (evO tm)) (mx.map (evO tm))).run P w = .ok (l', h'', m') w →
            (Instr.sliceAt t (evO tm x) (lo.map (evO tm)) (hi.map (evO tm)) (mx.map (evO tm))).run P w = .ok (.slice (if m' = l' then a else a.map (·.add (l' * ei.size))) (h'' - l') (m' - l')) w := by
          intro a ln c l' h'' m' h1 h2
          rw [h1]
          simp [Instr.sliceAt, run_und K ht, hd, Instr.slice, h2, run_size K he]
        cases hx : (aB x).f T with
        | none => exact trivial
        | some v =>
          cases v <;> try exact trivial
          · rename_i i off ln cap ex sz
            show QOK P ρ w _ (rSlSl2 i off ln cap ex sz l h' m _)
            cases hb : Nat.beq sz ei.size with
            | false => exact trivial
            | true =>
              have hsz : sz = ei.size := by simpa using hb
              refine rVal_some fun v hv => ?_
              obtain ⟨a, c, l', h'', m', h1, h2, h3⟩ := sliceSl_R (w := w) (P := P) hv (aB_R hx hT) nl nh nm
              rw [key _ _ _ _ _ _ h1 h2, vOf_ok]
              rw [hsz] at h3
              exact ⟨_, rfl, h3⟩
          · show QOK P ρ w _ (ifB .se _)
            refine ifB_ok fun hb => ?_
            simp only [Bool.and_eq_true] at hb
            obtain ⟨b1, b2, b3⟩ := hb
            obtain ⟨a, c, h1⟩ := aB_R hx hT
            have e1 := z0_orN b1
            have e2 := z0_orN b2
            have h2 := bounds_run (P := P) (w := w) (isS := true) (len := 0) (cap := c) nl nh nm (by rw [e1]; exact Nat.zero_le _) (by rw [e2]; exact Nat.zero_le _) (by
              rcases mxZ_cases b3 with e | ⟨e, _⟩
              · rw [e]; exact Nat.le_refl _
              · rw [e]; exact Nat.zero_le _) (by
              rcases mxZ_cases b3 with e | ⟨_, e⟩
              · exact .inl e
              · exact .inr e)
            rw [key _ _ _ _ _ _ h1 h2, vOf_ok]
            refine ⟨_, rfl, ?_⟩
            rw [e1, e2]
            show R ρ .se (.slice (if _ = 0 then _ else _) 0 _)
            split <;> exact ⟨_, _, rfl⟩
          · show QOK P ρ w _ (ifB .ns _)
            refine ifB_ok fun hb => ?_
            simp only [Bool.and_eq_true] at hb
            obtain ⟨b1, b2, b3⟩ := hb
            have h1 : evO tm x = .slice none 0 0 := aB_R hx hT
            have e1 := z0_orN b1
            have e2 := z0_orN b2
            have e3 : orN 0 m = 0 := by
              rcases mxZ_cases b3 with e | ⟨e, _⟩ <;> rw [e] <;> rfl
            have h2 := bounds_run (P := P) (w := w) (isS := true) (len := 0) (cap := 0) nl nh nm (by rw [e1]; exact Nat.zero_le _) (by rw [e2]; exact Nat.zero_le _) (by rw [e3]; exact Nat.zero_le _) (by
              rcases mxZ_cases b3 with e | ⟨_, e⟩
              · exact .inl e
              · exact .inr e)
            rw [key _ _ _ _ _ _ h1 h2, vOf_ok]
            refine ⟨_, rfl, ?_⟩
            rw [e1, e2, e3]
            rfl
    · -- array
      rename_i n e
      cases hs : szOf E e with
      | none => exact trivial
      | some es =>
        obtain ⟨ei, he, rfl⟩ := szOf_some hs
        refine rB3_ok fun l h' m hl hh hm => ?_
        have nl := nB_R hl hT
        have nh := nB_R hh hT
        have nm := nB_R hm hT
        cases hx : (aB x).f T with
        | none => exact trivial
        | some v =>
          cases v <;> try exact trivial
          rename_i i off
          show QOK P ρ w _ (rSlAr2 i off n ei.size l h' m _)
          cases hb : and (Nat.blt n 1000000) (arrIn off n ei.size (cellsOfO (h.t.get i))) with
          | false => exact trivial
          | true =>
            simp only [Bool.and_eq_true, blt_iff, decide_eq_true_eq] at hb
            obtain ⟨b1, b2⟩ := hb
            refine rVal_some fun v hv => ?_
            obtain ⟨loc, h1, h2⟩ := aB_R hx hT
            cases hg : h.t.get i with
            | none => rw [hg] at b2; cases b2
            | some ob =>
              rw [hg] at b2
              cases ob <;> try cases b2
              rename_i cl
              have b2 : and (Nat.blt 0 (len cl)) (Nat.ble (off + n * ei.size) (len cl)) = true := b2
              simp only [Bool.and_eq_true, Nat.ble_eq, len_eq, blt_iff, decide_eq_true_eq] at b2
              obtain ⟨b0, b2⟩ := b2
              obtain ⟨loc', g1, c, et, fz, g2, g3, g4, g5⟩ := hI.obj i _ hg
              rw [h1] at g1; cases g1
              have hle : loc.off + cl.length ≤ loc.size := by
                cases hn : cl.length with
                | zero => omega
                | succ q =>
                  obtain ⟨y, y1, _⟩ := g5 q cl[q] (by simp)
                  have := (Array.getElem?_eq_some_iff.1 y1).1
                  omega
              have hR : R ρ (.sl i off n n true ei.size) (.slice (some ⟨loc.blk, loc.off + off, none⟩) n n) := ⟨loc, n, h1, rfl, rfl, Nat.le_refl _, by simp only [maxLen]; omega, by omega⟩
              obtain ⟨a, c, l', h'', m', k1, k2, k3⟩ := sliceSl_R (w := w) (P := P) (isS := false) hv hR nl nh nm
              cases k1
              refine ⟨_, ?_, k3⟩
              rw [h2]
              simp [Instr.sliceAt, run_und K ht, hd, run_sureAddr, k2, run_size K he]
              split <;> rfl
end
end Go.Ev
namespace Go.Ev
open Go
noncomputable section
variable {P : Program} {E : Env} {ρ : Rho} {T : Tr V} {tm : Array Value}

theorem nthF {fs : Array Field} {k : Nat} {f : Field} (h : nth fs.toList k = some f) : fs[k]? = some f := by
  rw [nth_eq] at h; rw [← Array.getElem?_toList]; exact h
theorem q_fa {s : TypeId} {x : Operand} {k : Nat} {w : World} {h : H} (K : EnvOK P E) (hT : TR ρ T tm) : QOK P ρ w (vOf ((Instr.fieldAt s (evO tm x) k).run P w)) ((qFA E (aB x) k (E.tt s)).f T h) := by
  cases ht : E.tt s with
  | none => exact trivial
  | some ti =>
    cases hd : ti.ud <;> simp only [qFA, hd] <;> try exact trivial
    rename_i fs
    cases hf : nth fs.toList k with
    | none => exact trivial
    | some f =>
      show QOK P ρ w _ ((qFA3 (aB x) f.offset (szOf E f.type)).f T h)
      cases hs : szOf E f.type with
      | none => exact trivial
      | some n =>
        cases n with
        | zero => exact trivial
        | succ n =>
          obtain ⟨fi, hfi, hn⟩ := szOf_some hs
          show QOK P ρ w _ (rFA f.offset ((aB x).f T))
          cases hx : (aB x).f T with
          | none => exact trivial
          | some v =>
            cases v <;> try exact trivial
            rename_i i off
            obtain ⟨l, h1, h2⟩ := aB_R hx hT
            have hne : fi.size ≠ 0 := by omega
            refine ⟨.pointer (some ⟨l.blk, l.off + (off + f.offset), none⟩), ?_, l, h1, rfl⟩
            rw [h2]
            simp [Instr.fieldAt, run_und K ht, hd, nthF hf, run_sureAddr, fieldPlace, run_size K hfi, hne, add_eq, vOf, Nat.add_assoc]
theorem part_ok {t off : Nat} {l : List V} {xs : Array Value} {w : World} {nx : RN} (K : EnvOK P E) (hx : RL ρ l xs.toList) (h1 : ∀ x ∈ xs.toList, x.oneCell' = true)
    (he : ∀ x, (part t xs off).run P w = .ok x w → nx = .ok (.value x) w) : QOK P ρ w nx (rVal (partI l off (E.tt t))) := by
  refine rVal_some fun v hv => ?_
  obtain ⟨x, h2, h3⟩ := part_R K (t := t) (off := off) hv hx h1 w
  exact ⟨x, he x h2, h3⟩
theorem q_field {s : TypeId} {x : Operand} {k : Nat} {w : World} {h : H} (K : EnvOK P E) (hT : TR ρ T tm) : QOK P ρ w (vOf ((Instr.field s (evO tm x) k).run P w)) ((qFld E (aB x) k (E.tt s)).f T h) := by
  cases ht : E.tt s with
  | none => exact trivial
  | some ti =>
    cases hd : ti.ud <;> simp only [qFld, hd] <;> try exact trivial
    rename_i fs
    cases hf : nth fs.toList k with
    | none => exact trivial
    | some f =>
      show QOK P ρ w _ (rFld (E.tt f.type) f.offset ((aB x).f T))
      cases hx : (aB x).f T with
      | none => exact trivial
      | some v =>
        cases v <;> try exact trivial
        rename_i l
        obtain ⟨xs, h1, h2, h3⟩ := aB_R hx hT
        refine part_ok K h2 h3 fun y hy => ?_
        rw [h1]
        simp [Instr.field, run_und K ht, hd, nthF hf, asAgg, hy, vOf]
theorem q_ia {t : TypeId} {x ix : Operand} {w : World} {h : H} (K : EnvOK P E) (hT : TR ρ T tm) : QOK P ρ w (vOf ((Instr.indexAt t (evO tm x) (evO tm ix)).run P w)) ((qIA E (aB x) (aB ix) (E.tt t)).f T h) := by
  cases ht : E.tt t with
  | none => exact trivial
  | some ti =>
    cases hd : ti.ud <;> simp only [qIA, qIAD, hd] <;> try exact trivial
    · rename_i e
      cases hs : szOf E e with
      | none => exact trivial
      | some n =>
        obtain ⟨ei, he, rfl⟩ := szOf_some hs
        show QOK P ρ w _ (rIA ei.size ((aB x).f T) ((aB ix).f T))
        cases hi : (aB ix).f T with
        | none => exact trivial
        | some v =>
          cases v <;> try exact trivial
          rename_i k n
          cases n <;> try exact trivial
          rename_i n
          cases hx : (aB x).f T with
          | none => exact trivial
          | some v =>
            cases v <;> try exact trivial
            rename_i i off ln cap ex sz
            show QOK P ρ w _ (rIx i off n ei.size (Nat.blt n ln))
            cases hb : Nat.blt n ln with
            | false => exact trivial
            | true =>
              have hb : n < ln := by rw [blt_iff] at hb; simpa using hb
              obtain ⟨l, c, h1, h2, _⟩ := aB_R hx hT
              have h3 : evO tm ix = .int k (n : Int) := aB_R hi hT
              refine ⟨.pointer (some ⟨l.blk, l.off + (off + n * ei.size), none⟩), ?_, l, h1, rfl⟩
              have hb' : (n : Int) < (ln : Int) := by exact_mod_cast hb
              rw [h2, h3]
              simp [Instr.indexAt, run_und K ht, hd, asIntOf, run_size K he, hb', hb, add_eq, vOf, Nat.add_assoc]
    · rename_i ln e
      cases hs : szOf E e with
      | none => exact trivial
      | some n =>
        obtain ⟨ei, he, rfl⟩ := szOf_some hs
        show QOK P ρ w _ (rIAA ln ei.size ((aB x).f T) ((aB ix).f T))
        cases hi : (aB ix).f T with
        | none => exact trivial
        | some v =>
          cases v <;> try exact trivial
          rename_i k n
          cases n <;> try exact trivial
          rename_i n
          cases hx : (aB x).f T with
          | none => exact trivial
          | some v =>
            cases v <;> try exact trivial
            rename_i i off
            show QOK P ρ w _ (rIx i off n ei.size (Nat.blt n ln))
            cases hb : Nat.blt n ln with
            | false => exact trivial
            | true =>
              have hb : n < ln := by rw [blt_iff] at hb; simpa using hb
              obtain ⟨l, h1, h2⟩ := aB_R hx hT
              have h3 : evO tm ix = .int k (n : Int) := aB_R hi hT
              refine ⟨.pointer (some ⟨l.blk, l.off + (off + n * ei.size), none⟩), ?_, l, h1, rfl⟩
              have hb' : (n : Int) < (ln : Int) := by exact_mod_cast hb
              rw [h2, h3]
              simp [Instr.indexAt, run_und K ht, hd, asIntOf, run_size K he, hb', hb, add_eq, vOf, Nat.add_assoc, run_sureAddr]
theorem q_ix {t : TypeId} {x ix : Operand} {w : World} {h : H} (K : EnvOK P E) (hT : TR ρ T tm) : QOK P ρ w (vOf ((Instr.index t (evO tm x) (evO tm ix)).run P w)) ((qIx E (aB x) (aB ix) (E.tt t)).f T h) := by
  cases ht : E.tt t with
  | none => exact trivial
  | some ti =>
    cases hd : ti.ud <;> simp only [qIx, qIxD, hd] <;> try exact trivial
    · cases hi : (aB ix).f T with
      | none => exact trivial
      | some v =>
        cases v <;> try exact trivial
        rename_i k n
        cases n <;> try exact trivial
        rename_i n
        cases hx : (aB x).f T with
        | none => exact trivial
        | some v =>
          cases v <;> try exact trivial
          rename_i bs
          obtain ⟨s, h1, rfl⟩ := aB_R hx hT
          have h3 : evO tm ix = .int k (n : Int) := aB_R hi hT
          refine rVal_some fun v hv => ?_
          cases hn : nth (bytes s) n with
          | none => rw [hn] at hv; cases hv
          | some c =>
            rw [hn] at hv; cases hv
            rw [nth_eq] at hn
            unfold bytes at hn
            rw [List.getElem?_map] at hn
            cases hq : s.data.toList[n]? with
            | none => rw [hq] at hn; cases hn
            | some b =>
              rw [hq] at hn; cases hn
              have hs : s[n]? = some b := by
                rw [Array.getElem?_toList] at hq
                obtain ⟨q1, q2⟩ := Array.getElem?_eq_some_iff.1 hq
                exact getElem?_eq_some_iff.2 ⟨q1, q2⟩
              refine ⟨.int .u8 b.toNat, ?_, rfl⟩
              rw [h1, h3]
              simp [Instr.index, run_und K ht, hd, asIntOf, hs, vOf]
    · rename_i ln e
      cases hs : szOf E e with
      | none => exact trivial
      | some n =>
        obtain ⟨ei, he, rfl⟩ := szOf_some hs
        show QOK P ρ w _ (rIG (E.tt e) ln ei.size ((aB x).f T) ((aB ix).f T))
        cases hi : (aB ix).f T with
        | none => exact trivial
        | some v =>
          cases v <;> try exact trivial
          rename_i k n
          cases n <;> try exact trivial
          rename_i n
          cases hx : (aB x).f T with
          | none => exact trivial
          | some v =>
            cases v <;> try exact trivial
            rename_i l
            show QOK P ρ w _ (rIG2 (E.tt e) l (Nat.mul n ei.size) (Nat.blt n ln))
            cases hb : Nat.blt n ln with
            | false => exact trivial
            | true =>
              have hb : n < ln := by rw [blt_iff] at hb; simpa using hb
              obtain ⟨xs, h1, h2, h4⟩ := aB_R hx hT
              have h3 : evO tm ix = .int k (n : Int) := aB_R hi hT
              have hb' : (n : Int) < (ln : Int) := by exact_mod_cast hb
              refine part_ok K h2 h4 fun y hy => ?_
              have hy' : Sem.run P (part e xs (n * ei.size)) w = .ok y w := hy
              rw [h1, h3]
              simp [Instr.index, run_und K ht, hd, asIntOf, run_size K he, hb', hb, hy', vOf]
theorem q_ta {x : Operand} {s t : TypeId} {ok : Bool} {w : World} {h : H} (K : EnvOK P E) (hT : TR ρ T tm) : QOK P ρ w (vOf ((Instr.typeAssert (evO tm x) s t ok).run P w)) ((qTA (aB x) t ok (E.tt t)).f T h) := by
  cases ht : E.tt t with
  | none => exact trivial
  | some ti =>
    have hz : ∀ z, ti.zero = some z → ∃ y, (zeroValue t).run P w = .ok y w ∧ R ρ z y := fun z hz => zero_some K (by rw [ht]; exact hz) ρ w
    have go : (∀ ms, ti.ud ≠ .interface ms) → QOK P ρ w (vOf ((Instr.typeAssert (evO tm x) s t ok).run P w)) (rTA t ok ti.zero ((aB x).f T)) := by
      intro hni
      cases hx : (aB x).f T with
      | none => exact trivial
      | some v =>
        cases v <;> try exact trivial
        · rename_i u q
          obtain ⟨y, h1, h2⟩ := aB_R hx hT
          show QOK P ρ w _ (rTA2 q ok ti.zero (Nat.beq u t))
          cases hb : Nat.beq u t with
          | true =>
            have hb : u = t := by simpa using hb
            subst hb
            refine ⟨if ok then .tuple #[y, .bool true] else y, ?_, ?_⟩
            · rw [h1]
              cases hd : ti.ud <;> first | exact absurd hd (hni _) | simp [Instr.typeAssert, run_und K ht, hd, vOf]
            · cases ok
              · exact h2
              · exact ⟨_, rfl, _, _, rfl, h2, _, _, rfl, rfl, rfl⟩
          | false =>
            have hb : ¬ u = t := by intro e; subst e; simp at hb
            cases ok with
            | false => exact trivial
            | true =>
              cases hzz : ti.zero with
              | none => exact trivial
              | some z =>
                obtain ⟨y', h3, h4⟩ := hz z hzz
                refine ⟨.tuple #[y', .bool false], ?_, _, rfl, _, _, rfl, h4, _, _, rfl, rfl, rfl⟩
                rw [h1]
                cases hd : ti.ud <;> first | exact absurd hd (hni _) | simp [Instr.typeAssert, run_und K ht, hd, hb, h3, vOf]
        · have h1 : evO tm x = .nilIface := aB_R hx hT
          cases ok with
          | false => exact trivial
          | true =>
            cases hzz : ti.zero with
            | none => exact trivial
            | some z =>
              obtain ⟨y', h3, h4⟩ := hz z hzz
              refine ⟨.tuple #[y', .bool false], ?_, _, rfl, _, _, rfl, h4, _, _, rfl, rfl, rfl⟩
              rw [h1]
              cases hd : ti.ud <;> first | exact absurd hd (hni _) | simp [Instr.typeAssert, run_und K ht, hd, h3, vOf]
    show QOK P ρ w _ ((match ti.ud with | .interface _ => qNo | _ => (⟨fun T _ => rTA t ok ti.zero ((aB x).f T)⟩ : QB)).f T h)
    cases hd : ti.ud <;> first | exact trivial | exact go (by rw [hd]; intro ms hh; cases hh)
theorem q_ex {x : Operand} {k : Nat} {w : World} (hT : TR ρ T tm) : QOK P ρ w (vOf ((Instr.extract (evO tm x) k).run P w)) (rEx k ((aB x).f T)) := by
  cases hx : (aB x).f T with
  | none => exact trivial
  | some v =>
    cases v <;> try exact trivial
    rename_i l
    obtain ⟨xs, h1, h2⟩ := aB_R hx hT
    refine rVal_some fun v hv => ?_
    rw [nth_eq] at hv
    obtain ⟨y, h3, h4⟩ := h2.get hv
    rw [Array.getElem?_toList] at h3
    exact ⟨y, by rw [h1]; simp [Instr.extract, h3, vOf], h4⟩
end
end Go.Ev
namespace Go.Ev
open Go
noncomputable section
open Classical
variable {P : Program} {E : Env} {ρ : Rho} {T : Tr V} {tm : Array Value}

theorem MapR.mem {es : List (V × V)} {m : List MapEntry} (h : MapR ρ es m) {e : MapEntry} (he : e ∈ m) : ∃ a ∈ es, keyR ρ a e := by
  induction es generalizing m with
  | nil => simp only [MapR] at h; subst h; cases he
  | cons a l ih =>
    obtain ⟨x, r, rfl, h2, h3⟩ := h
    cases he with
    | head => exact ⟨a, List.mem_cons_self, h2⟩
    | tail _ he => obtain ⟨b, h4, h5⟩ := ih h3 he; exact ⟨b, List.mem_cons_of_mem _ h4, h5⟩
theorem MapR.mem' {es : List (V × V)} {m : List MapEntry} (h : MapR ρ es m) {a : V × V} (ha : a ∈ es) : ∃ e ∈ m, keyR ρ a e := by
  induction es generalizing m with
  | nil => cases ha
  | cons b l ih =>
    obtain ⟨x, r, rfl, h2, h3⟩ := h
    cases ha with
    | head => exact ⟨x, List.mem_cons_self, h2⟩
    | tail _ ha => obtain ⟨y, h4, h5⟩ := ih h3 ha; exact ⟨y, List.mem_cons_of_mem _ h4, h5⟩
theorem MapR.length {es : List (V × V)} {m : List MapEntry} (h : MapR ρ es m) : m.length = es.length := by
  induction es generalizing m with
  | nil => simp only [MapR] at h; subst h; rfl
  | cons b l ih => obtain ⟨x, r, rfl, h2, h3⟩ := h; simp [ih h3]
theorem sameS_cases {k a : V} (h : sameS k a = true) : (∃ j x y, k = .i j x ∧ a = .i j y) ∨ (∃ x y, k = .s x ∧ a = .s y) := by
  cases k <;> cases a <;> simp only [sameS] at h <;> try cases h
  · rw [kindEq_iff] at h
    rename_i k n k' n'
    have e : k = k' := by simpa using h
    subst e
    exact .inl ⟨_, _, _, rfl, rfl⟩
  · exact .inr ⟨_, _, rfl, rfl⟩
theorem sameS_trans {a b c : V} (h : sameS a b = true) (h' : sameS b c = true) : sameS a c = true := by
  rcases sameS_cases h with ⟨j, x, y, rfl, rfl⟩ | ⟨x, y, rfl, rfl⟩
  · rcases sameS_cases h' with ⟨j', x', y', e, rfl⟩ | ⟨x', y', e, rfl⟩
    · cases e; simp [sameS, kindEq_iff]
    · cases e
  · rcases sameS_cases h' with ⟨j', x', y', e, rfl⟩ | ⟨x', y', e, rfl⟩
    · cases e
    · rfl
theorem kbeq {k a : V} (h : sameS k a = true) : V.beq k a = decide (k = a) := by
  rcases sameS_cases h with ⟨j, x, y, rfl, rfl⟩ | ⟨x, y, rfl, rfl⟩
  · have e : kindEq j j = true := (kindEq_iff j j).2 rfl
    rw [Bool.eq_iff_iff]; simp [V.beq, e, eqI_eq]
  · rw [Bool.eq_iff_iff]; simp [V.beq, lbeq_iff]
theorem sortOK_all {k : V} {es : List (V × V)} (h : sortOK k es = true) (hu : Uniq es) : ∀ a ∈ es, sameS k a.1 = true := by
  cases es with
  | nil => intro a ha; cases ha
  | cons b l =>
    intro a ha
    have h' : sameS k b.1 = true := h
    cases ha with
    | head => exact h'
    | tail _ ha => exact sameS_trans h' (hu.1 a ha).2
theorem findK_in {k : V} : ∀ {es : List (V × V)}, (∀ a ∈ es, sameS k a.1 = true) → Uniq es → ∀ a ∈ es, a.1 = k → findK k es = some a.2
  | [], _, _, a, ha, _ => by cases ha
  | (b, v) :: l, hs, hu, a, ha, hk => by
    have hb := kbeq (hs _ List.mem_cons_self)
    show (match V.beq k b with | true => some v | false => findK k l) = _
    cases ha with
    | head =>
      have : V.beq k b = true := by rw [hb]; simpa using hk.symm
      rw [this]
    | tail _ ha =>
      have : V.beq k b = false := by
        rw [hb]; simp only [decide_eq_false_iff_not]
        intro e
        exact (hu.1 a ha).1 (by rw [hk, ← e])
      rw [this]
      exact findK_in (fun a ha => hs a (List.mem_cons_of_mem _ ha)) hu.2 a ha hk
theorem findK_out {k : V} : ∀ {es : List (V × V)}, (∀ a ∈ es, sameS k a.1 = true) → (∀ a ∈ es, a.1 ≠ k) → findK k es = none
  | [], _, _ => rfl
  | (b, v) :: l, hs, hk => by
    have hb := kbeq (hs _ List.mem_cons_self)
    show (match V.beq k b with | true => some v | false => findK k l) = _
    have : V.beq k b = false := by
      rw [hb]; simp only [decide_eq_false_iff_not]
      exact fun e => hk _ List.mem_cons_self e.symm
    rw [this]
    exact findK_out (fun a ha => hs a (List.mem_cons_of_mem _ ha)) (fun a ha => hk a (List.mem_cons_of_mem _ ha))
theorem sameNow_R {kd : TypeDesc} {k a : V} {kv av : Value} (hk : keyT k kd = true) (hs : sameS k a = true) (h1 : R ρ k kv) (h2 : R ρ a av) : Instr.sameNow kd kv av = some (decide (k = a)) := by
  rcases sameS_cases hs with ⟨j, x, y, rfl, rfl⟩ | ⟨x, y, rfl, rfl⟩
  · have h1 : kv = .int j x := h1
    have h2 : av = .int j y := h2
    subst h1; subst h2
    cases kd <;> simp only [keyT] at hk <;> try cases hk
    simp only [Instr.sameNow, if_true, Option.some.injEq]
    rw [Bool.eq_iff_iff]; simp
  · obtain ⟨s, rfl, rfl⟩ := h1
    obtain ⟨t, rfl, rfl⟩ := h2
    cases kd <;> simp only [keyT] at hk <;> try cases hk
    simp only [Instr.sameNow, V.s.injEq, Option.some.injEq]
    have e1 : (s == t) = (s.data == t.data) := by cases s; cases t; rfl
    rw [e1, Bool.eq_iff_iff]
    simp only [decide_eq_true_eq, beq_iff_eq]
    constructor
    · intro e; unfold bytes; rw [e]
    · intro h
      have h' := bytes_inj.1 h
      rw [ByteArray.toList_eq, ByteArray.toList_eq] at h'
      exact Array.toList_inj.1 h'
theorem findNow_R {kd : TypeDesc} {k : V} {kv : Value} (hk : keyT k kd = true) (h1 : R ρ k kv) {es : List (V × V)} (hs : ∀ a ∈ es, sameS k a.1 = true) (hu : Uniq es) :
    ∀ (L : List MapEntry) (n : Nat), (∀ e ∈ L, ∃ a ∈ es, keyR ρ a e) →
      (∃ j v x, Instr.findNow kd kv L n = some (some (j, x)) ∧ findK k es = some v ∧ R ρ v x) ∨ ((∀ e ∈ L, ∀ a ∈ es, keyR ρ a e → a.1 ≠ k) ∧ Instr.findNow kd kv L n = some none)
  | [], n, _ => .inr ⟨fun e he => absurd he (List.not_mem_nil), rfl⟩
  | e :: L, n, h => by
    obtain ⟨a, ha, ok, hk1, hv1⟩ : ∃ a ∈ es, keyR ρ a e := h e List.mem_cons_self
    have hsn := sameNow_R hk (hs a ha) h1 hk1
    by_cases hka : k = a.1
    · rw [decide_eq_true hka] at hsn
      exact .inl ⟨n, a.2, e.val, by simp [Instr.findNow, hsn], findK_in hs hu a ha hka.symm, hv1⟩
    · rw [decide_eq_false hka] at hsn
      have e1 : Instr.findNow kd kv (e :: L) n = Instr.findNow kd kv L (n + 1) := by simp [Instr.findNow, hsn]
      rw [e1]
      rcases findNow_R hk h1 hs hu L (n + 1) (fun e he => h e (List.mem_cons_of_mem _ he)) with g | ⟨g1, g2⟩
      · exact .inl g
      · refine .inr ⟨fun e' he b hb hbe hbk => ?_, g2⟩
        cases he with
        | tail _ he => exact g1 e' he b hb hbe hbk
        | head =>
          have := sameNow_R hk (hs b hb) h1 hbe.2.1
          rw [hsn, hbk] at this
          simp at this
theorem mapOf_cases {o : Option AObj} {es : List (V × V)} (h : mapOf o = some es) : o = some (.mp es) ∨ ∃ bs ck, o = some (.mx es bs ck) := by
  cases o with
  | none => cases h
  | some o => cases o <;> first | (cases h; exact .inl rfl) | (cases h; exact .inr ⟨_, _, rfl⟩) | cases h
/-- a map, seen less exactly -/
theorem mapOf_obj {h : H} {w : World} (hI : InvO ρ h w) {i : Pth} {es : List (V × V)} (hm : mapOf (h.t.get i) = some es) : ∃ l, ρ i = some l ∧ ObjR ρ (.mp es) l w := by
  rcases mapOf_cases hm with h1 | ⟨bs, ck, h1⟩
  · exact hI.obj i _ h1
  · obtain ⟨l, h2, ens, h3, h4, _, h6⟩ := hI.obj i _ h1
    exact ⟨l, h2, ens, ck, ens.toList, h3, .refl _, h4, h6⟩
theorem mapAt_R {h : H} {w : World} (hI : InvO ρ h w) {x : Option V} {es : List (V × V)} {xv : Value} (hm : mapAt h x = some es) (hx : ∀ v, x = some v → R ρ v xv) :
    (xv = .map none ∧ es = []) ∨ (∃ b ens clock m, xv = .map (some b) ∧ w.heap[b]? = some (.map ens clock) ∧ ens.toList.Perm m ∧ MapR ρ es m ∧ Uniq es) := by
  cases x with
  | none => cases hm
  | some v =>
    cases v <;> try cases hm
    · rename_i i
      obtain ⟨l, h1, h2⟩ := hx _ rfl
      obtain ⟨l', h3, h4⟩ := mapOf_obj hI (show mapOf (h.t.get i) = some es from hm)
      rw [h1] at h3; cases h3
      obtain ⟨ens, clock, m, h5, h6, h7, h8⟩ := h4
      exact .inr ⟨_, ens, clock, m, h2, h5, h6, h7, h8⟩
    · exact .inl ⟨hx _ rfl, rfl⟩
theorem keyT_cases {k : V} {kd : TypeDesc} (h : keyT k kd = true) : (∃ j, kd = .int j) ∨ kd = .string := by
  cases k <;> cases kd <;> simp only [keyT] at h <;> first | exact .inl ⟨_, rfl⟩ | exact .inr rfl | cases h
theorem checkKey_run {t : TypeId} {k : V} {ti : TyI} {v : Value} {b : Bool} {n : Nat} {w : World} (K : EnvOK P E) (ht : E.tt t = some ti) (hk : keyT k ti.ud = true) : (Instr.checkKey b (n + 1) t v).run P w = .ok () w := by
  rcases keyT_cases hk with ⟨j, hd⟩ | hd <;> simp [Instr.checkKey, run_und K ht, hd]
theorem q_lk {t : TypeId} {x kx : Operand} {ok : Bool} {w : World} {h : H} (K : EnvOK P E) (hT : TR ρ T tm) (hI : InvO ρ h w) : QOK P ρ w (vOf ((Instr.lookup t (evO tm x) (evO tm kx) ok).run P w)) ((qLk E (aB x) (aB kx) ok (E.tt t)).f T h) := by
  cases ht : E.tt t with
  | none => exact trivial
  | some ti =>
    cases hd : ti.ud <;> simp only [qLk, hd] <;> try exact trivial
    rename_i kt e
    cases hkt : E.tt kt with
    | none => exact trivial
    | some ki =>
      cases hz : tyZ (E.tt e) with
      | none => exact trivial
      | some z =>
        obtain ⟨zx, hz1, hz2⟩ := zero_some K hz ρ w
        show QOK P ρ w _ (rLk ki.ud ok z (mapAt h ((aB x).f T)) ((aB kx).f T))
        cases hm : mapAt h ((aB x).f T) with
        | none => exact trivial
        | some es =>
          cases hk : (aB kx).f T with
          | none => exact trivial
          | some k =>
            show QOK P ρ w _ (rLk2 ok z k es _)
            cases hc : and (keyT k ki.ud) (sortOK k es) with
            | false => exact trivial
            | true =>
              simp only [Bool.and_eq_true] at hc
              obtain ⟨hc1, hc2⟩ := hc
              have hkR := aB_R hk hT
              have fin : ∀ (ens : Array MapEntry), (∀ n : Nat, (∃ j v x', Instr.findNow ki.ud (evO tm kx) ens.toList n = some (some (j, x')) ∧ findK k es = some v ∧ R ρ v x') ∨ (findK k es = none ∧ Instr.findNow ki.ud (evO tm kx) ens.toList n = some none)) →
                  (∀ j v, (Instr.findKey kt (evO tm kx) ens.toList).run P w = .ok (some (j, v)) w → (Instr.lookup t (evO tm x) (evO tm kx) ok).run P w = .ok (if ok then .tuple #[v, .bool true] else v) w) →
                  ((Instr.findKey kt (evO tm kx) ens.toList).run P w = .ok none w → (Instr.lookup t (evO tm x) (evO tm kx) ok).run P w = .ok (if ok then .tuple #[zx, .bool false] else zx) w) →
                  QOK P ρ w (vOf ((Instr.lookup t (evO tm x) (evO tm kx) ok).run P w)) (rLk3 ok z (findK k es)) := by
                intro ens hf hr hr2
                rcases hf 0 with ⟨j, v, x', f1, f2, f3⟩ | ⟨f1, f2⟩
                · rw [f2]
                  refine ⟨if ok then .tuple #[x', .bool true] else x', ?_, ?_⟩
                  · rw [hr j x' (by simp [Instr.findKey, run_und K hkt, f1]), vOf_ok]
                  · cases ok
                    · exact f3
                    · exact ⟨_, rfl, _, _, rfl, f3, _, _, rfl, rfl, rfl⟩
                · rw [f1]
                  refine ⟨if ok then .tuple #[zx, .bool false] else zx, ?_, ?_⟩
                  · rw [hr2 (by simp [Instr.findKey, run_und K hkt, f2]), vOf_ok]
                  · cases ok
                    · exact hz2
                    · exact ⟨_, rfl, _, _, rfl, hz2, _, _, rfl, rfl, rfl⟩
              rcases mapAt_R hI hm (fun v hv => aB_R hv hT) with ⟨h1, rfl⟩ | ⟨b, ens, clock, m, h1, h2, h3, h4, h5⟩
              · have hck := checkKey_run (v := evO tm kx) (b := true) (n := 9999) (w := w) K hkt hc1
                simp only [Nat.reduceAdd] at hck
                refine fin #[] (fun n => .inr ⟨rfl, rfl⟩) (fun j v hr => ?_) (fun hr => ?_)
                · rw [h1]; cases ok <;> simp [Instr.lookup, run_und K ht, hd, hck, hr]
                · rw [h1]; cases ok <;> simp [Instr.lookup, run_und K ht, hd, hck, hr, hz1]
              · have hs := sortOK_all hc2 h5
                have hck := checkKey_run (v := evO tm kx) (b := ens.isEmpty) (n := 9999) (w := w) K hkt hc1
                simp only [Nat.reduceAdd] at hck
                have hg : (getObj b).run P w = .ok (.map ens clock) w := by simp [getObj, Sem.run, h2]
                refine fin ens (fun n => ?_) (fun j v hr => ?_) (fun hr => ?_)
                · rcases findNow_R hc1 hkR hs h5 ens.toList n (fun e he => h4.mem (h3.mem_iff.1 he)) with g | ⟨g1, g2⟩
                  · exact .inl g
                  · refine .inr ⟨findK_out hs fun a ha => ?_, g2⟩
                    obtain ⟨e, he, hae⟩ := h4.mem' ha
                    exact g1 e (h3.mem_iff.2 he) a ha hae
                · rw [h1]; cases ok <;> simp [Instr.lookup, run_und K ht, hd, hg, hck, hr]
                · rw [h1]; cases ok <;> simp [Instr.lookup, run_und K ht, hd, hg, hck, hr, hz1]
end
end Go.Ev
namespace Go.Ev
open Go
noncomputable section
variable {P : Program} {E : Env} {ρ : Rho} {T : Tr V} {tm : Array Value}

theorem q_lenS {t : TypeId} {ty : TypeId} {x : Operand} {ts : Array TypeId} {w : World} {h : H} (K : EnvOK P E) (hT : TR ρ T tm) (hI : InvO ρ h w) (hts : ts[0]? = some t) :
    QOK P ρ w (vOf ((Builtin.len_ ts ty #[evO tm x]).run P w)) ((qLenT (aB x) (E.tt t)).f T h) := by
  cases ht : E.tt t with
  | none => exact trivial
  | some ti =>
    cases hd : ti.ud <;> simp only [qLenT, qLenD, hd] <;> try exact trivial
    · cases hx : (aB x).f T with
      | none => exact trivial
      | some v =>
        cases v <;> try exact trivial
        obtain ⟨s, h1, rfl⟩ := aB_R hx hT
        refine ⟨.int .i64 s.size, ?_, ?_⟩
        · rw [h1]; simp [Builtin.len_, hts, run_und K ht, hd, vOf, goInt]
        · show _ = Value.int .i64 (Int.ofNat (len (bytes s)))
          rw [len_eq, bytes_length]; rfl
    · cases hx : (aB x).f T with
      | none => exact trivial
      | some v =>
        cases v <;> try exact trivial
        · obtain ⟨l, c, _, h1, _⟩ := aB_R hx hT
          refine ⟨.int .i64 _, ?_, rfl⟩
          rw [h1]; simp [Builtin.len_, hts, run_und K ht, hd, vOf, goInt]
        · obtain ⟨a, c, h1⟩ := aB_R hx hT
          refine ⟨.int .i64 _, ?_, rfl⟩
          rw [h1]; simp [Builtin.len_, hts, run_und K ht, hd, vOf, goInt]
        · have h1 : evO tm x = .slice none 0 0 := aB_R hx hT
          refine ⟨.int .i64 _, ?_, rfl⟩
          rw [h1]; simp [Builtin.len_, hts, run_und K ht, hd, vOf, goInt]
    · cases hx : (aB x).f T with
      | none => exact trivial
      | some v =>
        cases v <;> try exact trivial
        · rename_i i
          obtain ⟨l, h0, h1⟩ := aB_R hx hT
          refine rVal_some fun v hv => ?_
          cases hm : mapOf (h.t.get i) with
          | none => rw [hm] at hv; cases hv
          | some es =>
            rw [hm] at hv; cases hv
            obtain ⟨l', h2, ens, clock, m, h3, h4, h5, h6⟩ := mapOf_obj hI hm
            rw [h0] at h2; cases h2
            have hg : (getObj l.blk).run P w = .ok (.map ens clock) w := by simp [getObj, Sem.run, h3]
            refine ⟨.int .i64 ens.size, ?_, ?_⟩
            · rw [h1]; simp [Builtin.len_, hts, run_und K ht, hd, vOf, goInt, hg]
            · show _ = Value.int .i64 (Int.ofNat (len es))
              rw [len_eq, ← h5.length, ← h4.length_eq]; simp
        · have h1 : evO tm x = .map none := aB_R hx hT
          refine ⟨.int .i64 _, ?_, rfl⟩
          rw [h1]; simp [Builtin.len_, hts, run_und K ht, hd, vOf, goInt]
theorem q_capS {t : TypeId} {ty : TypeId} {x : Operand} {ts : Array TypeId} {w : World} {h : H} (K : EnvOK P E) (hT : TR ρ T tm) (hts : ts[0]? = some t) :
    QOK P ρ w (vOf ((Builtin.cap_ ts ty #[evO tm x]).run P w)) ((qCapT (aB x) (E.tt t)).f T h) := by
  cases ht : E.tt t with
  | none => exact trivial
  | some ti =>
    cases hd : ti.ud <;> simp only [qCapT, qCapD, hd] <;> try exact trivial
    cases hx : (aB x).f T with
    | none => exact trivial
    | some v =>
      cases v <;> try exact trivial
      · rename_i i off n c ex sz
        cases ex with
        | false => exact trivial
        | true =>
          obtain ⟨l, c', _, h1, h2, _⟩ := aB_R hx hT
          have h2 : c' = c := h2
          subst h2
          refine ⟨.int .i64 _, ?_, rfl⟩
          rw [h1]; simp [Builtin.cap_, hts, run_und K ht, hd, vOf, goInt]
      · have h1 : evO tm x = .slice none 0 0 := aB_R hx hT
        refine ⟨.int .i64 _, ?_, rfl⟩
        rw [h1]; simp [Builtin.cap_, hts, run_und K ht, hd, vOf, goInt]
theorem fold_R {f : V → V → Option V} {g : Value → Value → Sem Value} (hf : ∀ {a b v : V} {x y : Value}, f a b = some v → R ρ a x → R ρ b y → ∀ w, ∃ z, (g x y).run P w = .ok z w ∧ R ρ v z) :
    ∀ {l : List V} {a v : V} {xs : List Value} {x : Value}, foldV f l a = some v → RL ρ l xs → R ρ a x → ∀ w, ∃ z, (xs.foldlM g x).run P w = .ok z w ∧ R ρ v z
  | [], a, v, xs, x, h, hl, ha, w => by
    cases h; simp only [RL] at hl; subst hl; exact ⟨x, by simp, ha⟩
  | b :: l, a, v, xs, x, h, hl, ha, w => by
    obtain ⟨y, r, rfl, h1, h2⟩ := hl
    simp only [foldV] at h
    cases hb : f a b with
    | none => rw [hb] at h; cases h
    | some c =>
      rw [hb] at h
      obtain ⟨z, h3, h4⟩ := hf hb ha h1 w
      obtain ⟨q, h5, h6⟩ := fold_R hf h h2 h4 w
      exact ⟨q, by simp [h3, h5], h6⟩
theorem ltI_eq' (a b : Int) : ltI a b = decide (a < b) := ltI_eq a b
theorem q_min {ts : Array TypeId} {ty : TypeId} {args : Array Operand} {w : World} (hT : TR ρ T tm) : QOK P ρ w (vOf ((Builtin.min_ ts ty (args.map (evO tm))).run P w)) (rVal (foldL minV ((lB args.toList).f T))) := by
  refine rVal_some fun v hv => ?_
  cases hl : (lB args.toList).f T with
  | none => rw [hl] at hv; cases hv
  | some l =>
    rw [hl] at hv
    cases l with
    | nil => cases hv
    | cons a l =>
      obtain ⟨x, r, h1, h2, h3⟩ := lB_R hl hT
      have hv : foldV minV l a = some v := hv
      obtain ⟨z, h4, h5⟩ := fold_R (P := P) (g := Builtin.min2) (fun {a b v x y} h ha hb w => by
        cases a <;> cases b <;> simp only [minV] at h <;> try cases h
        rename_i k1 n1 k2 n2
        have ha : x = .int k1 n1 := ha
        have hb : y = .int k2 n2 := hb
        subst ha; subst hb
        rw [ltI_eq'] at h
        by_cases hc : n2 < n1
        · rw [decide_eq_true hc] at h; cases h; exact ⟨_, by simp [Builtin.min2, hc], rfl⟩
        · rw [decide_eq_false hc] at h; cases h; exact ⟨_, by simp [Builtin.min2, hc], rfl⟩) hv h3 h2 w
      refine ⟨z, ?_, h5⟩
      have e : (args.map (evO tm)).toList = x :: r := by simpa using h1
      simp only [Builtin.min_, e, h4, vOf_ok]
theorem q_max {ts : Array TypeId} {ty : TypeId} {args : Array Operand} {w : World} (hT : TR ρ T tm) : QOK P ρ w (vOf ((Builtin.max_ ts ty (args.map (evO tm))).run P w)) (rVal (foldL maxV ((lB args.toList).f T))) := by
  refine rVal_some fun v hv => ?_
  cases hl : (lB args.toList).f T with
  | none => rw [hl] at hv; cases hv
  | some l =>
    rw [hl] at hv
    cases l with
    | nil => cases hv
    | cons a l =>
      obtain ⟨x, r, h1, h2, h3⟩ := lB_R hl hT
      have hv : foldV maxV l a = some v := hv
      obtain ⟨z, h4, h5⟩ := fold_R (P := P) (g := Builtin.max2) (fun {a b v x y} h ha hb w => by
        cases a <;> cases b <;> simp only [maxV] at h <;> try cases h
        rename_i k1 n1 k2 n2
        have ha : x = .int k1 n1 := ha
        have hb : y = .int k2 n2 := hb
        subst ha; subst hb
        rw [ltI_eq'] at h
        by_cases hc : n1 < n2
        · rw [decide_eq_true hc] at h; cases h; exact ⟨_, by simp [Builtin.max2, hc], rfl⟩
        · rw [decide_eq_false hc] at h; cases h; exact ⟨_, by simp [Builtin.max2, hc], rfl⟩) hv h3 h2 w
      refine ⟨z, ?_, h5⟩
      have e : (args.map (evO tm)).toList = x :: r := by simpa using h1
      simp only [Builtin.max_, e, h4, vOf_ok]
/-- every quiet operation -/
theorem q_all {o : Oper} {w : World} {h : H} (K : EnvOK P E) (hT : TR ρ T tm) (hI : InvO ρ h w) : QOK P ρ w ((execOp (evO tm) o).run P w) ((qB E o.op).f T h) := by
  have vv : ∀ s : Sem Value, (do pure (Next.value (← s)) : Sem Next).run P w = vOf (s.run P w) := fun s => by simp [vOf]
  have uu : ∀ s : Sem Unit, (do s; pure Next.skip : Sem Next).run P w = uOf (s.run P w) := fun s => by simp [uOf]
  cases ho : o.op <;> simp only [qB] <;> try exact trivial
  case move x => simp only [execOp, ho]; exact q_move hT
  case assign x => simp only [execOp, ho]; exact q_move hT
  case pick c a b => simp only [execOp, ho]; exact q_pick hT
  case alloc t => simp only [execOp, ho, vv]; exact q_alloc K
  case box t x => simp only [execOp, ho, vv]; exact q_box hT
  case build t ps => simp only [execOp, ho, vv]; exact q_build K hT
  case buildSlice t n ps => simp only [execOp, ho, vv]; exact q_buildSlice K hT
  case load t a => simp only [execOp, ho, vv]; exact q_load K hT hI
  case store t a x => simp only [execOp, ho, uu]; exact q_store K hT
  case nilCheck x => exact q_nil K ho hT
  case binOp op t x y g => simp only [execOp, ho, vv]; exact q_bin K hT
  case unOp op t x => simp only [execOp, ho, vv]; exact q_un hT
  case convert s d x => simp only [execOp, ho, vv]; exact q_conv K hT hI
  case makeInterface t x => simp only [execOp, ho, vv]; exact q_ifc K hT
  case makeFunc f a c => simp only [execOp, ho, vv]; exact q_fn hT
  case makeMap t r => simp only [execOp, ho, vv]; exact q_mm
  case makeSlice t n c => simp only [execOp, ho, vv]; exact q_mk K hT
  case slice t x lo hi mx => simp only [execOp, ho, vv]; exact q_slice K hT hI
  case fieldAddr s x k => simp only [execOp, ho, vv]; exact q_fa K hT
  case field t x k => simp only [execOp, ho, vv]; exact q_field K hT
  case indexAddr t x ix => simp only [execOp, ho, vv]; exact q_ia K hT
  case index t x ix => simp only [execOp, ho, vv]; exact q_ix K hT
  case lookup t x k ok => simp only [execOp, ho, vv]; exact q_lk K hT hI
  case typeAssert x s t ok => simp only [execOp, ho, vv]; exact q_ta K hT
  case extract x k => simp only [execOp, ho, vv]; exact q_ex hT
  case call c =>
    obtain ⟨callee, args, ts⟩ := c
    cases callee <;> simp only [qCall] <;> try exact trivial
    rename_i b
    cases b <;> simp only [qBI] <;> try exact trivial
    case len =>
      cases ha : args.toList with
      | nil => exact trivial
      | cons x l =>
        cases l with
        | cons y l => exact trivial
        | nil =>
          cases hts : ts.toList with
          | nil => exact trivial
          | cons t r =>
            have e : args = #[x] := by rw [← Array.toList_inj, ha]
            have e2 : ts[0]? = some t := by rw [← Array.getElem?_toList, hts]; rfl
            simp only [execOp, ho, resolve, Sem.run_bind, Sem.run_pure, Result.andThen_ok, invoke, builtin, vv, e]
            have em : (#[x] : Array Operand).map (evO tm) = #[evO tm x] := by simp
            rw [em]
            exact q_lenS (x := x) (ty := o.type) K hT hI e2
    case cap =>
      cases ha : args.toList with
      | nil => exact trivial
      | cons x l =>
        cases l with
        | cons y l => exact trivial
        | nil =>
          cases hts : ts.toList with
          | nil => exact trivial
          | cons t r =>
            have e : args = #[x] := by rw [← Array.toList_inj, ha]
            have e2 : ts[0]? = some t := by rw [← Array.getElem?_toList, hts]; rfl
            simp only [execOp, ho, resolve, Sem.run_bind, Sem.run_pure, Result.andThen_ok, invoke, builtin, vv, e]
            have em : (#[x] : Array Operand).map (evO tm) = #[evO tm x] := by simp
            rw [em]
            exact q_capS (x := x) (ty := o.type) (h := h) K hT e2
    case min => simp only [execOp, ho, resolve, Sem.run_bind, Sem.run_pure, Result.andThen_ok, invoke, builtin, vv]; exact q_min hT
    case max => simp only [execOp, ho, resolve, Sem.run_bind, Sem.run_pure, Result.andThen_ok, invoke, builtin, vv]; exact q_max hT
end
end Go.Ev
namespace Go.Ev
open Go
noncomputable section
variable {P : Program} {E : Env}

theorem evO_eq (a : Act) : evO a.tmps = a.eval := by funext x; cases x <;> rfl

/-! ### deferred calls -/
def dR (ρ : Rho) : AD → Deferred → Prop
  | .fn f vs, d => ∃ cap, d.target = .fn (.func f) cap ∧ RL ρ vs (d.args ++ cap).toList
  | .coll r, d => ∃ l, ρ r = some l ∧ d.target = .collected l.blk
def DL (ρ : Rho) : List AD → List Deferred → Prop
  | [], m => m = []
  | a :: l, m => ∃ b r, m = b :: r ∧ dR ρ a b ∧ DL ρ l r
theorem dR.mono {ρ ρ' : Rho} (e : Ext ρ ρ') {a : AD} {d : Deferred} (h : dR ρ a d) : dR ρ' a d := by
  cases a with
  | fn f vs => obtain ⟨cap, h1, h2⟩ := h; exact ⟨cap, h1, h2.mono e⟩
  | coll r => obtain ⟨l, h1, h2⟩ := h; exact ⟨l, e _ _ h1, h2⟩
theorem DL.mono {ρ ρ' : Rho} (e : Ext ρ ρ') : ∀ {D : List AD} {m : List Deferred}, DL ρ D m → DL ρ' D m
  | [], _, h => h
  | _ :: _, _, h => by obtain ⟨b, r, h1, h2, h3⟩ := h; exact ⟨b, r, h1, h2.mono e, DL.mono e h3⟩

structure St (ρ0 : Rho) (h0 : H) (w0 : World) (nt : Nat) (ρ : Rho) (T : Tr V) (D : List AD) (h : H) (a : Act) (w : World) : Prop where
  tr : TR ρ T a.tmps
  nt : nt ≤ a.tmps.size
  dl : DL ρ D a.defers
  inv : Inv ρ h w
  fr : Fr ρ0 h0 w0 ρ h w

/-! ### putting a result -/
theorem put_tmps (a : Act) (d : Option Nat) (v : Value) : (a.put d v).tmps = match d with | some d => a.tmps.setIfInBounds d v | none => a.tmps := by cases d <;> rfl
theorem put_defers (a : Act) (d : Option Nat) (v : Value) : (a.put d v).defers = a.defers := by cases d <;> rfl
theorem put_size (a : Act) (d : Option Nat) (v : Value) : (a.put d v).tmps.size = a.tmps.size := by cases d <;> simp [Act.put]
theorem TR.put {ρ : Rho} {T : Tr V} {a : Act} {nt : Nat} (h : TR ρ T a.tmps) (hn : nt ≤ a.tmps.size) {d : Option Nat} (hd : okDst nt d = true) {v : V} {x : Value} (hx : R ρ v x) :
    TR ρ ((dB d).put T v) (a.put d x).tmps := by
  cases d with
  | none => exact h
  | some d =>
    intro p u hp
    have hlt : d < nt := by
      have : Nat.blt d nt = true := hd
      rw [blt_iff] at this; simpa using this
    have hp' : (Tr.put (Pth.of d) T (some v)).get p = some u := hp
    rw [Tr.get_put] at hp'
    simp only [Act.put]
    split at hp'
    · rename_i e
      subst e
      cases hp'
      rw [Pth.nat_of]
      exact ⟨x, by rw [Array.getElem?_setIfInBounds]; simp; omega, hx⟩
    · rename_i e
      obtain ⟨y, h1, h2⟩ := h p u hp'
      refine ⟨y, ?_, h2⟩
      rw [Array.getElem?_setIfInBounds, if_neg]
      · exact h1
      · intro e'
        apply e
        apply Pth.nat_inj
        rw [Pth.nat_of]; exact e'
theorem St.put {ρ0 : Rho} {h0 : H} {w0 : World} {nt : Nat} {ρ : Rho} {T : Tr V} {D : List AD} {h : H} {a : Act} {w : World} (s : St ρ0 h0 w0 nt ρ T D h a w) {d : Option Nat} (hd : okDst nt d = true) {v : V} {x : Value} (hx : R ρ v x) :
    St ρ0 h0 w0 nt ρ ((dB d).put T v) D h (a.put d x) w :=
  ⟨s.tr.put s.nt hd hx, by rw [put_size]; exact s.nt, by rw [put_defers]; exact s.dl, s.inv, s.fr⟩
theorem St.step {ρ0 : Rho} {h0 : H} {w0 : World} {nt : Nat} {ρ ρ' : Rho} {T : Tr V} {D : List AD} {h h' : H} {a : Act} {w w' : World} (s : St ρ0 h0 w0 nt ρ T D h a w) (hi : Inv ρ' h' w') (hf : Fr ρ h w ρ' h' w') :
    St ρ0 h0 w0 nt ρ' T D h' a w' :=
  ⟨s.tr.mono hf.ext, s.nt, s.dl.mono hf.ext, hi, s.fr.trans hf⟩
theorem R_undef (ρ : Rho) : R ρ (.tu []) undef := ⟨#[], rfl, rfl⟩

/-! ### what a quiet operation does to memory -/
/-- the step's value, and what it did -/
def After (ρ : Rho) (h : H) (w : World) (nx : RN) (ρ' : Rho) (v : V) (h' : H) : Prop :=
  ∃ x w', (nx = .ok (.value x) w' ∨ nx = .ok .skip w' ∧ x = undef) ∧ R ρ' v x ∧ Inv ρ' h' w' ∧ Fr ρ h w ρ' h' w'
theorem freeze_inv {ρ : Rho} {h : H} {w : World} (hI : Inv ρ h w) {i : Pth} {loc : Loc} {n : Nat} (hl : ρ i = some loc) {cs : List V} (hg : h.t.get i = some (.cells cs)) (hn : loc.size ≤ n) :
    Inv ρ h (w.freeze ⟨loc.blk, n, none⟩ 1) ∧ Fr ρ h w ρ h (w.freeze ⟨loc.blk, n, none⟩ 1) := by
  have hw : ∀ k, k ≠ loc.blk → (w.freeze ⟨loc.blk, n, none⟩ 1).heap[k]? = w.heap[k]? := by
    intro k hk
    simp only [World.freeze, Nat.one_ne_zero, if_false]
    rw [Array.getElem?_modify, if_neg (fun e => hk e.symm)]
  have hsz : (w.freeze ⟨loc.blk, n, none⟩ 1).heap.size = w.heap.size := by simp [World.freeze]
  have hb : (w.freeze ⟨loc.blk, n, none⟩ 1).heap[loc.blk]? = (w.heap[loc.blk]?).map fun
      | .cells c elem (lo, hi) => .cells c elem (if lo == hi then (n, n + 1) else (min lo n, max hi (n + 1)))
      | o => o := by
    simp only [World.freeze, Nat.one_ne_zero, if_false]
    rw [Array.getElem?_modify, if_pos rfl]
    cases w.heap[loc.blk]? with
    | none => rfl
    | some x => cases x <;> rfl
  refine ⟨⟨hI.fresh, fun j oj hj => ?_, hI.inj⟩, ⟨Ext.refl _, fun _ _ => rfl, Nat.le_refl _, Nat.le_of_eq hsz.symm, ?_, ?_, ?_, fun b _ hne => hw b (fun e => hne i _ loc hg hl e.symm), fun j oj lj h1 h2 => .inr ⟨j, oj, lj, h1, h2, rfl⟩⟩⟩
  · obtain ⟨lj, h1, h2⟩ := hI.obj j oj hj
    by_cases e : lj.blk = loc.blk
    · have hij : j = i := by
        by_cases hij : j = i
        · exact hij
        · exact absurd e (hI.inj j i oj _ lj loc hj hg hij h1 hl)
      subst hij
      rw [hl] at h1; cases h1
      refine ⟨loc, hl, ?_⟩
      rw [hg] at hj; cases hj
      obtain ⟨c, et, fz, h3, h4, h5, h6⟩ := h2
      rw [h3] at hb
      obtain ⟨lo, hi⟩ := fz
      refine ⟨c, et, _, hb, h4, ?_, h6⟩
      split
      · exact .inr (by show c.size ≤ n; omega)
      · rename_i hne
        have hne : ¬ lo = hi := by simpa using hne
        have h5 : lo = hi ∨ c.size ≤ lo := h5
        exact .inr (by show c.size ≤ min lo n; omega)
    · exact ⟨lj, h1, h2.mono (Ext.refl _) (hw _ e)⟩
  · simp [World.freeze]
  · simp [World.freeze]
  · simp [World.freeze]

theorem wrK_ok {ρ : Rho} {h h' : H} {w : World} {nx : RN} {i : Pth} {off : Nat} {m : List V} (hI : Inv ρ h w) (hq : QOK P ρ w nx (.st i off m)) (hw : wrCells h i off m = some h') : After ρ h w nx ρ (.tu []) h' := by
  obtain ⟨lst, r, hg, _, _⟩ := wrCells_some hw
  obtain ⟨loc, hl, _⟩ := hI.obj i _ hg
  obtain ⟨xs, h1, h2, h3⟩ := hq loc hl
  obtain ⟨h4, h5, h6⟩ := write_cells hI hw hl h1 h2 P
  rw [h4] at h3
  exact ⟨undef, _, .inr ⟨h3, rfl⟩, R_undef _, h5, h6⟩
theorem cellsR {ρ ρ' : Rho} {l : List V} {cs : Array Value} (h : RL ρ l cs.toList) (h1 : ∀ x ∈ cs.toList, x.oneCell' = true) (e : Ext ρ ρ') :
    ∀ (k : Nat) v, l[k]? = some v → ∃ x, cs[0 + k]? = some x ∧ R ρ' v x ∧ x.oneCell' = true := by
  intro k v hk
  obtain ⟨x, hx, hr⟩ := h.get hk
  exact ⟨x, by rw [Nat.zero_add, ← Array.getElem?_toList]; exact hx, hr.mono e, h1 x (List.mem_of_getElem? hx)⟩
theorem res_ok {ρ : Rho} {h h' : H} {w : World} {nx : RN} {res : Res} {d : DB} {T T' : Tr V} {D D' : List AD} (hI : Inv ρ h w) (hq : QOK P ρ w nx res) (hr : resD d T D h h.n (Pth.succ h.n) res = .ok T' D' h') :
    D' = D ∧ ∃ v ρ', T' = d.put T v ∧ After ρ h w nx ρ' v h' := by
  have hn : ρ h.n = none := hI.fresh _ (Nat.le_refl _)
  have hs : h.n.nat < (Pth.succ h.n).nat := by rw [Pth.nat_succ]; omega
  cases res with
  | no => cases hr
  | val v =>
    cases hr
    obtain ⟨x, h1, h2⟩ := hq
    exact ⟨rfl, v, ρ, rfl, x, w, .inl h1, h2, hI, Fr.refl _ _ _⟩
  | newp l =>
    cases hr
    obtain ⟨cs, e, h1, h2, h3⟩ := hq
    obtain ⟨h4, h5, h6, _⟩ := alloc_obj hI hn (Nat.le_of_lt hs) hs (.cells l) (.cells cs e) (w.alloc (.cells cs e)) 0 cs.size rfl rfl rfl rfl
      ⟨cs, e, (0, 0), by show (w.heap.push _)[w.heap.size]? = _; simp, rfl, .inl rfl, cellsR h2 h3 (bind1_ext hn)⟩
    exact ⟨rfl, _, _, rfl, _, _, .inl h1, ⟨_, bind1_same _ _ _, rfl⟩, h4, h6 (Nat.le_refl _)⟩
  | news l n c ex sz =>
    cases hr
    obtain ⟨cs, e, fz, c', w', h1, hh, ho, ht, hou, h2, h3, h4, h7, h8, h9⟩ := hq
    obtain ⟨h4', h5, h6, _⟩ := alloc_obj hI hn (Nat.le_of_lt hs) hs (.cells l) (.cells cs e fz) w' 0 cs.size hh ho ht hou
      ⟨cs, e, fz, by rw [hh]; simp, rfl, h2, fun k v hk => by
        obtain ⟨x, a1, a2, a3⟩ := h3 k v hk
        exact ⟨x, by rw [Nat.zero_add]; exact a1, a2.mono (bind1_ext hn), a3⟩⟩
    exact ⟨rfl, _, _, rfl, _, _, .inl h1, ⟨_, c', bind1_same _ _ _, rfl, h4, h7, h8, by simp; omega⟩, h4', h6 (Nat.le_refl _)⟩
  | newm =>
    cases hr
    obtain ⟨h4, h5, h6, _⟩ := alloc_obj hI hn (Nat.le_of_lt hs) hs (.mx [] [] 0) (.map #[] 0) (w.alloc (.map #[] 0)) 0 0 rfl rfl rfl rfl
      ⟨#[], by show (w.heap.push _)[w.heap.size]? = _; simp, rfl, rfl, trivial⟩
    exact ⟨rfl, _, _, rfl, _, _, .inl hq, ⟨_, bind1_same _ _ _, rfl⟩, h4, h6 (Nat.le_refl _)⟩
  | st i off l =>
    have hr' : stD d T D (wrCells h i off l) = .ok T' D' h' := hr
    cases hw : wrCells h i off l with
    | none => rw [hw] at hr'; cases hr'
    | some h'' =>
      rw [hw] at hr'; cases hr'
      exact ⟨rfl, _, ρ, rfl, wrK_ok hI hq hw⟩
  | frz i v =>
    have hr : frD (d.put T v) D h (h.t.get i) = .ok T' D' h' := hr
    obtain ⟨o, ho⟩ : ∃ o, h.t.get i = some (.cells o) := by
      cases hg : h.t.get i with
      | none => rw [hg] at hr; cases hr
      | some o => cases o <;> rw [hg] at hr <;> first | exact ⟨_, rfl⟩ | cases hr
    rw [ho] at hr; cases hr
    obtain ⟨x, loc, n, w', h1, h2, h3, h4, rfl⟩ := hq
    obtain ⟨h5, h6⟩ := freeze_inv (n := n) hI h3 ho h4
    exact ⟨rfl, v, ρ, rfl, x, _, .inl h1, h2, h5, h6⟩
end
end Go.Ev
namespace Go.Ev
open Go
noncomputable section
variable {P : Program} {E : Env}

def kindOf : Bool → CallKind
  | true => .deferred
  | false => .normal
/-- a frame is as we take it to be -/
structure FrOK (fr : FrI) (b : Frame) (cs : List Frame) : Prop where
  fn : b.fn = fr.fn
  kind : b.kind = kindOf fr.dfr
  rnd : b.roundOf.isSome = fr.rnd
  dfr : fr.dfr = true → ∃ c rest, cs = c :: rest ∧ c.mode = .returning

/-- a call has come to its end, about to return x -/
def Ret (P : Program) (f : FuncId) (kind : CallKind) (cs : List Frame) (args : Array Value) (w : World) (x : Value) (w' : World) : Prop :=
  ∃ fr', Steps P (lone (Frame.enter P f args kind) cs w) (lone fr' cs w') ∧ fr'.fn = f ∧ fr'.mode = .returning ∧ fr'.defers = [] ∧ fr'.kind = kind ∧
    ∃ fn, P.funcs[fr'.fn]? = some fn ∧ (results fn fr'.tmps).run P w' = .ok x w'
theorem Ret.step {f : FuncId} {c : Frame} {cs : List Frame} {args : Array Value} {w w' : World} {x : Value} (h : Ret P f .normal (c :: cs) args w x w') :
    Steps P (lone (Frame.enter P f args .normal) (c :: cs) w) (lone (c.finish x) cs w') := by
  obtain ⟨fr', h1, h2, h3, h4, h5, fn, h6, h7⟩ := h
  exact Steps.trans h1 (.one (step_leave_returned ⟨h3, h4, h5, fn, h6, h7⟩))
theorem Ret.stepD {f : FuncId} {c : Frame} {cs : List Frame} {args : Array Value} {w w' : World} {x : Value} (h : Ret P f .deferred (c :: cs) args w x w') (hm : c.mode = .returning) :
    Steps P (lone (Frame.enter P f args .deferred) (c :: cs) w) (lone c cs w') := by
  obtain ⟨fr', h1, h2, h3, h4, h5, fn, h6, h7⟩ := h
  have := step_going_returned (P := P) (fr := fr') (c := c) (cs := cs) (w := w') (v := x) h5 ⟨h3, h4, fn, h6, h7⟩
  rw [hm] at this
  have e : ({ c with mode := settle .returning } : Frame) = c := by rw [show settle .returning = c.mode from hm.symm ▸ rfl]
  rw [e] at this
  exact Steps.trans h1 (.one this)

def Post (ρ : Rho) (h : H) (w : World) (v : V) (h' : H) (x : Value) (w' : World) : Prop := ∃ ρ', R ρ' v x ∧ Inv ρ' h' w' ∧ Fr ρ h w ρ' h' w'
/-- what a call does: a value at once, or a frame is entered and comes back -/
def CallGo (P : Program) (f : FuncId) (args : Array Value) (w : World) (Q : Value → World → Prop) : Prop :=
  (∃ x w', (callFunc f args).run P w = .ok (.value x) w' ∧ Q x w') ∨
  ((callFunc f args).run P w = .ok (.enter f args) w ∧ ∀ cs, ∃ x w', Ret P f .normal cs args w x w' ∧ Q x w')

def PrimOK (P : Program) (E : Env) : Prop := ∀ f n vs h v h', E.prim f = some n → evPrim vs h n = .ok v h' → ∀ ρ w args, Inv ρ h w → RL ρ vs args.toList → CallGo P f args w (Post ρ h w v h')

/-- where code ends -/
def Arr (P : Program) (m : Machine) (b : Frame) (cs : List Frame) (k : List Item) (a' : Act) (w' : World) : Ex → Prop
  | .norm => Steps P m (lone (b.atR a' k) cs w')
  | .exit j => ∃ todo, exitTo j todo = exitTo j k ∧ Steps P m (lone (b.atR a' (.code (.exit j) :: todo)) cs w')
  | .ret => ∃ todo, Steps P m (lone (b.atR a' (.code .ret :: todo)) cs w')
theorem Arr.of {m m' : Machine} {b : Frame} {cs : List Frame} {k : List Item} {a' : Act} {w' : World} {x : Ex} (h : Steps P m m') (ha : Arr P m' b cs k a' w' x) : Arr P m b cs k a' w' x := by
  cases x with
  | norm => exact h.trans ha
  | exit j => obtain ⟨t, h1, h2⟩ := ha; exact ⟨t, h1, h.trans h2⟩
  | ret => obtain ⟨t, h2⟩ := ha; exact ⟨t, h.trans h2⟩
def XOK (P : Program) (fr : FrI) (b : Frame) (cs : List Frame) (k : List Item) (m : Machine) (ρ0 : Rho) (h0 : H) (w0 : World) : XR → Prop
  | .no => True
  | .ok x T' D' h' => ∃ ρ' a' w', St ρ0 h0 w0 fr.nt ρ' T' D' h' a' w' ∧ Arr P m b cs k a' w' x

structure RcOK (P : Program) (r : Rc) : Prop where
  call : ∀ dfr f vs h v h', r.call dfr f vs h = .ok v h' → ∀ ρ w args, Inv ρ h w → RL ρ vs args.toList →
    (∀ w, (callFunc f args).run P w = .ok (.enter f args) w) ∧ ∀ cs, (dfr = true → ∃ c rest, cs = c :: rest ∧ c.mode = .returning) → ∃ x w', Ret P f (kindOf dfr) cs args w x w' ∧ Post ρ h w v h' x w'
  loop : ∀ fr c T D h b cs k ρ0 h0 w0 ρ a w, FrOK fr b cs → St ρ0 h0 w0 fr.nt ρ T D h a w → XOK P fr b cs k (lone (b.atR a (.inLoop c :: k)) cs w) ρ0 h0 w0 (r.loop fr c T D h)
  round : ∀ l vs h v h', r.round l vs h = .ok v h' → ∀ ρ w args loc, Inv ρ h w → ρ l = some loc → RL ρ vs args.toList →
    ∃ f tmps asg body, (Instr.yield loc.blk args).run P w = .ok (.round loc.blk f tmps asg body) w ∧
      ∀ c cs, ∃ x w', Steps P (lone (Frame.round loc.blk f tmps asg body .normal) (c :: cs) w) (lone (c.finish x) cs w') ∧ Post ρ h w v h' x w'

/-! ### one operation's step -/
section
variable {b : Frame} {a : Act} {k : List Item} {cs : List Frame} {w : World} {ops : Array Oper} {i : Nat} {rest : List Nat} {o : Oper}
theorem fin_op (ho : ops[i]? = some o) (v : Value) (a : Act) : (b.atR a (.inRegion ops (i :: rest) :: k)).finish v = b.atR (a.put o.dst v) (.inRegion ops rest :: k) := by
  rw [Frame.finish_atR, ho]; rfl
theorem go_value (ho : ops[i]? = some o) (hw : Region.wanted o (yielded ops a.tmps) = true) {x : Value} {w' : World} (hs : (o.semAt b.roundOf a.eval).run P w = .ok (.value x) w') :
    Steps P (lone (b.atR a (.inRegion ops (i :: rest) :: k)) cs w) (lone (b.atR (a.put o.dst x) (.inRegion ops rest :: k)) cs w') := by
  refine .one (step_lone_go ?_)
  rw [stepGR_op ho hw, ← fin_op ho]; simp [stepG.apply, hs]
theorem go_skip (ho : ops[i]? = some o) (hw : Region.wanted o (yielded ops a.tmps) = true) {w' : World} (hs : (o.semAt b.roundOf a.eval).run P w = .ok .skip w') :
    Steps P (lone (b.atR a (.inRegion ops (i :: rest) :: k)) cs w) (lone (b.atR (a.put o.dst undef) (.inRegion ops rest :: k)) cs w') := by
  refine .one (step_lone_go ?_)
  rw [stepGR_op ho hw, ← fin_op ho]; simp [stepG.apply, hs]
theorem go_defer (ho : ops[i]? = some o) (hw : Region.wanted o (yielded ops a.tmps) = true) {d : Deferred} {w' : World} (hs : (o.semAt b.roundOf a.eval).run P w = .ok (.defer d) w') :
    Steps P (lone (b.atR a (.inRegion ops (i :: rest) :: k)) cs w) (lone (b.atR ({ a with defers := d :: a.defers }.put o.dst undef) (.inRegion ops rest :: k)) cs w') := by
  refine .one (step_lone_go ?_)
  have e : ({ b.atR a (.inRegion ops (i :: rest) :: k) with defers := d :: a.defers } : Frame).finish undef =
      b.atR ({ a with defers := d :: a.defers }.put o.dst undef) (.inRegion ops rest :: k) := fin_op ho undef { a with defers := d :: a.defers }
  rw [stepGR_op ho hw]; simp only [stepG.apply, Sem.runT_eq, hs, GStep.bare_after]
  exact congrArg (fun fr => GStep.go { frame := fr, callers := cs, status := .running, dying := none } w') e
theorem go_enter (ho : ops[i]? = some o) (hw : Region.wanted o (yielded ops a.tmps) = true) {f : FuncId} {args : Array Value} {w' w'' : World} {x : Value} (hs : (o.semAt b.roundOf a.eval).run P w = .ok (.enter f args) w')
    (hr : Ret P f .normal (b.atR a (.inRegion ops (i :: rest) :: k) :: cs) args w' x w'') :
    Steps P (lone (b.atR a (.inRegion ops (i :: rest) :: k)) cs w) (lone (b.atR (a.put o.dst x) (.inRegion ops rest :: k)) cs w'') := by
  refine .head (step_lone_go (fr' := Frame.enter P f args .normal) (cs' := b.atR a (.inRegion ops (i :: rest) :: k) :: cs) (w' := w') ?_) ?_
  · rw [stepGR_op ho hw]; simp [stepG.apply, hs, Frame.atR]
  · rw [← fin_op ho]; exact hr.step
theorem go_round (ho : ops[i]? = some o) (hw : Region.wanted o (yielded ops a.tmps) = true) {l : Nat} {f : FuncId} {tmps : Array Value} {asg body : Code} {w' w'' : World} {x : Value}
    (hs : (o.semAt b.roundOf a.eval).run P w = .ok (.round l f tmps asg body) w')
    (hr : Steps P (lone (Frame.round l f tmps asg body .normal) (b.atR a (.inRegion ops (i :: rest) :: k) :: cs) w') (lone ((b.atR a (.inRegion ops (i :: rest) :: k)).finish x) cs w'')) :
    Steps P (lone (b.atR a (.inRegion ops (i :: rest) :: k)) cs w) (lone (b.atR (a.put o.dst x) (.inRegion ops rest :: k)) cs w'') := by
  refine .head (step_lone_go (fr' := Frame.round l f tmps asg body .normal) (cs' := b.atR a (.inRegion ops (i :: rest) :: k) :: cs) (w' := w') ?_) ?_
  · rw [stepGR_op ho hw]; simp [stepG.apply, hs]
  · rw [← fin_op ho]; exact hr
theorem go_recover (ho : ops[i]? = some o) (hw : Region.wanted o (yielded ops a.tmps) = true) {w' : World} (hs : (o.semAt b.roundOf a.eval).run P w = .ok .recover w') (hb : b.roundOf = none)
    (hk : b.kind = .deferred) (hc : ∃ c rest, cs = c :: rest ∧ c.mode = .returning) :
    Steps P (lone (b.atR a (.inRegion ops (i :: rest) :: k)) cs w) (lone (b.atR (a.put o.dst .nilIface) (.inRegion ops rest :: k)) cs w') := by
  obtain ⟨c, r, rfl, hm⟩ := hc
  have ht : tryRecover (b.atR a (.inRegion ops (i :: rest) :: k)) (c :: r) = none := by
    simp [tryRecover, Frame.atR, hk, hm]
  refine .one (step_lone_go ?_)
  have hro : (b.atR a (.inRegion ops (i :: rest) :: k)).roundOf = none := hb
  rw [stepGR_op ho hw, ← fin_op ho]
  simp only [stepG.apply, Sem.runT_eq, if_true, hs, hro, ht]
  simp only [GStep.bare_after, GStep.bare_go]
end
end
end Go.Ev
