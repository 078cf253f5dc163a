/-
  The evaluator is sound: calls, regions in order, code, functions, rounds.
-/
import Derived.Laws.AppendOwn
import Derived.RangeFuncIn
import Derived.RangeFuncRecord
import Derived.Test.YtigkkoidkjdeaaaGreatDoorEvC
namespace Go.Ev
open Go
noncomputable section
variable {P : Program} {E : Env}

/-- the type arguments of an append of elements -/
def TsEl (P : Program) (ts : Array TypeId) (t : TypeId) : Prop := ts = #[t] ∨ ∃ u d, ts = #[t, u] ∧ P.underlying u = some d ∧ ∀ k, d ≠ .int k
section
variable {ts : Array TypeId} {t ty e : TypeId} {i : TypeInfo} {w : World}
theorem append_in (hts : TsEl P ts t) (ht : P.underlying t = some (.slice e)) (hi : P.info? e = some i) {base : Option Addr} {sLen sCap n : Nat} {x : Value} {news : Array Value}
    (hl : (Builtin.lenOf x).run P w = .ok n w) (hf : (Builtin.firstCells i.size n x).run P w = .ok news w) (hroom : sLen + n ≤ sCap) :
    (Builtin.append_ ts ty #[.slice base sLen sCap, x]).run P w =
      match base with
      | some a => ((storeCells (a.add (sLen * i.size)) news.toList).run P w).andThen fun _ w' => .ok (.slice base (sLen + n) sCap) w'
      | none => .ok (.slice base (sLen + n) sCap) w := by
  rcases hts with rfl | ⟨u, d, rfl, hu, hd⟩
  · cases base <;> simp [Builtin.append_, run_underlying ht, sizeOf, typeInfo, hi, hl, hroom, hf]
  · have hm : (d matches .int _) = false := by cases d <;> first | rfl | exact absurd rfl (hd _)
    cases base <;> simp [Builtin.append_, run_underlying ht, run_underlying hu, sizeOf, typeInfo, hi, hl, hroom, hf, hm]
theorem append_out (hts : TsEl P ts t) (ht : P.underlying t = some (.slice e)) (hi : P.info? e = some i) {z : Value} (hz : i.zero = some z) {base : Option Addr} {sLen sCap n : Nat} {x : Value} {olds news : Array Value}
    (hl : (Builtin.lenOf x).run P w = .ok n w) (hf : (Builtin.firstCells i.size n x).run P w.drew = .ok news w.drew) (ho : (Builtin.firstCells i.size sLen (.slice base sLen sCap)).run P w.drew = .ok olds w.drew) (hroom : sCap < sLen + n)
    (h63 : ((sLen + n : Nat) : Int) ≤ 9223372036854775807) (hfit : Builtin.nextslicecap (sLen + n) sCap * i.bytes ≤ 281474976710656) :
    (Builtin.append_ ts ty #[.slice base sLen sCap, x]).run P w =
      .ok (.slice (some ⟨w.heap.size, 0, none⟩) (sLen + n) (grownCap w (sLen + n) sCap e))
        (w.drew.alloc (.cells (olds ++ news ++ Builtin.zeroCells z.cells (grownCap w (sLen + n) sCap e - (sLen + n))) e)) := by
  have hn : ¬ (sLen + n ≤ sCap) := by omega
  have h63' : ¬ (9223372036854775807 < ((sLen : Int) + (n : Int))) := by omega
  have h48' : ¬ (281474976710656 < Builtin.nextslicecap (sLen + n) sCap * i.bytes) := by omega
  rcases hts with rfl | ⟨u, d, rfl, hu, hd⟩
  · simp [Builtin.append_, run_underlying ht, sizeOf, typeInfo, zeroValue, hi, hz, hl, hn, h63', h48', Question.forced, hf, ho, Go.newRow, grownCap]
  · have hm : (d matches .int _) = false := by cases d <;> first | rfl | exact absurd rfl (hd _)
    simp [Builtin.append_, run_underlying ht, run_underlying hu, hm, sizeOf, typeInfo, zeroValue, hi, hz, hl, hn, h63', h48', Question.forced, hf, ho, Go.newRow, grownCap]
end

theorem cell_heap {w w' : World} (h : w'.heap = w.heap) (a : Addr) : w'.cell? a = w.cell? a := by simp [World.cell?, h]
theorem apX_R {ρ : Rho} {h : H} {w : World} (hI : Inv ρ h w) {sz : Nat} {x : V} {xv : Value} {nl : List V} {n : Nat} (ha : apX sz h x = .ok nl n) (hx : R ρ x xv) :
    ∃ news : Array Value, (Builtin.lenOf xv).run P w = .ok n w ∧ (∀ w', w'.heap = w.heap → (Builtin.firstCells sz n xv).run P w' = .ok news w') ∧ RL ρ nl news.toList ∧ (∀ y ∈ news.toList, y.oneCell' = true) ∧ news.size = n * sz := by
  cases x <;> simp only [apX] at ha <;> try cases ha
  · -- string
    obtain ⟨s, rfl, rfl⟩ := hx
    cases hb : Nat.beq sz 1 with
    | false => rw [hb] at ha; cases ha
    | true =>
      rw [hb] at ha; cases ha
      have e : sz = 1 := by simpa using hb
      subst e
      refine ⟨s.data.map fun b => .int .u8 b.toNat, ?_, ?_, ?_, ?_, ?_⟩
      · rw [len_eq, bytes_length]; rfl
      · intro w' _
        rw [len_eq, bytes_length]
        have e1 : s.extract 0 s.size = s := ByteArray.extract_zero_size
        simp [Builtin.firstCells, e1]
      · have := toU8s_R ρ s.data.toList
        simpa [bytes] using this
      · intro y hy
        simp at hy
        obtain ⟨b, _, rfl⟩ := hy
        rfl
      · rw [len_eq, bytes_length]; simp
  · rename_i i off n c ex z
    obtain ⟨l, c', h1, rfl, _⟩ := hx
    cases hr : rdCells h i off (Nat.mul n sz) with
    | none => rw [hr] at ha; cases ha
    | some r =>
      rw [hr] at ha; cases ha
      obtain ⟨xs, h2, h3, h4, h5⟩ := read_cells hI.o hr h1
      refine ⟨xs.toArray, rfl, ?_, h2, h4, by simpa using h3⟩
      intro w' hw'
      exact run_cells h3 (fun j v hj => by rw [cell_heap hw']; exact h5 j v hj)
  · obtain ⟨a, c, rfl⟩ := hx
    exact ⟨#[], rfl, fun w' _ => by simp [Builtin.firstCells, loadCells, loadCellsFrom], rfl, by simp, by simp⟩
  · have hx : xv = .slice none 0 0 := hx
    subst hx
    exact ⟨#[], rfl, fun w' _ => by simp [Builtin.firstCells], rfl, by simp, by simp⟩
theorem kill {ρ : Rho} {h : H} {w : World} (hI : Inv ρ h w) (i : Pth) : Inv ρ ⟨put h.t i none, h.n⟩ w ∧ Fr ρ h w ρ ⟨put h.t i none, h.n⟩ w := by
  have key : ∀ j o, (put h.t i none).get j = some o → h.t.get j = some o := by
    intro j o hj
    rw [get_put'] at hj
    split at hj
    · cases hj
    · exact hj
  exact ⟨⟨hI.fresh, fun j o hj => hI.obj j o (key j o hj), fun a b oa ob la lb ha hb => hI.inj a b oa ob la lb (key a oa ha) (key b ob hb)⟩,
    ⟨Ext.refl _, fun _ _ => rfl, Nat.le_refl _, Nat.le_refl _, rfl, rfl, rfl, fun _ _ _ => rfl, fun j o l h1 h2 => .inr ⟨j, o, l, key j o h1, h2, rfl⟩⟩⟩
theorem rebind {ρ : Rho} {h : H} {w : World} (hI : Inv ρ h w) {i : Pth} {lst : List V} (hg : h.t.get i = some (.cells lst)) {l : Loc} (hl : ρ i = some l) {o : Nat} {ol nl : List V} {olds news : List Value}
    (hnl : RL ρ nl news) (h1 : ∀ x ∈ news, x.oneCell' = true) (hol : RL ρ ol olds) (ho1 : ∀ x ∈ olds, x.oneCell' = true) (holds : ∀ (j : Nat) v, olds[j]? = some v → w.cell? ⟨l.blk, o + j, none⟩ = some v)
    (hfit : o + olds.length + news.length ≤ l.size) (P : Program) :
    (storeCells ⟨l.blk, o + olds.length, none⟩ news).run P w = .ok () (w.setCells l.blk (o + olds.length) news) ∧
      Inv (bind1 ρ h.n ⟨l.blk, o, l.size⟩) ⟨put (put h.t i none) h.n (some (.cells (app ol nl))), Pth.succ h.n⟩ (w.setCells l.blk (o + olds.length) news) ∧
      Fr ρ h w (bind1 ρ h.n ⟨l.blk, o, l.size⟩) ⟨put (put h.t i none) h.n (some (.cells (app ol nl))), Pth.succ h.n⟩ (w.setCells l.blk (o + olds.length) news) := by
  obtain ⟨l', hl', c, e, fz, hb, hsz, hfz, hcell⟩ := hI.obj i _ hg
  rw [hl] at hl'; cases hl'
  have hn : ρ h.n = none := hI.fresh _ (Nat.le_refl _)
  have hext := bind1_ext (l := ⟨l.blk, o, l.size⟩) hn
  have hrun : (storeCells ⟨l.blk, o + olds.length, none⟩ news).run P w = .ok () (w.setCells l.blk (o + olds.length) news) := by
    have := run_storeCells_cells (P := P) l.blk (o + olds.length) news 0 w
      (fun j hj => by simp only [World.cell?, hb, Nat.add_zero]; have : o + olds.length + j < c.size := by omega
                      simp [this])
      (fun j hj => by
        have := fzq hfz (o + olds.length + j) (by omega)
        simp only [World.frozen?, hb, Nat.add_zero]
        simp only [Bool.and_eq_false_iff, decide_eq_false_iff_not]
        by_cases hle : fz.1 ≤ o + olds.length + j
        · exact .inr (fun h => this ⟨hle, h⟩)
        · exact .inl hle) h1
    simpa using this
  obtain ⟨hsz', hos, htp, hou⟩ := setCells_same l.blk news (o + olds.length) w
  obtain ⟨c', hb', hc', hcell'⟩ := setCells_heap l.blk e fz news (o + olds.length) w c hb (by omega)
  have hobj : ObjR (bind1 ρ h.n ⟨l.blk, o, l.size⟩) (.cells (app ol nl)) ⟨l.blk, o, l.size⟩ (w.setCells l.blk (o + olds.length) news) := by
    refine ⟨c', e, fz, hb', hc'.trans hsz, by rw [hc']; exact hfz, fun k v hk => ?_⟩
    rw [app_eq] at hk
    obtain ⟨x, hx1, hx2⟩ := (hol.append hnl).get hk
    refine ⟨x, ?_, hx2.mono hext, ?_⟩
    · show c'[o + k]? = some x
      rw [hcell']
      by_cases hlt : k < olds.length
      · rw [List.getElem?_append_left hlt] at hx1
        rw [if_neg (by omega)]
        have := holds k x hx1
        simp only [World.cell?, hb] at this
        simpa using this
      · rw [List.getElem?_append_right (by omega)] at hx1
        have := (List.getElem?_eq_some_iff.1 hx1).1
        rw [if_pos (by omega), show o + k - (o + olds.length) = k - olds.length by omega]; exact hx1
    · rcases List.mem_append.1 (List.mem_of_getElem? hx1) with h | h
      · exact ho1 x h
      · exact h1 x h
  have hsucc : (Pth.succ h.n).nat = h.n.nat + 1 := Pth.nat_succ _
  have old : ∀ j oj, h.t.get j = some oj → j ≠ h.n := by
    intro j oj hj e
    obtain ⟨l, hl, _⟩ := hI.obj j oj hj
    rw [e, hn] at hl; cases hl
  have key : ∀ j oj, (put (put h.t i none) h.n (some (.cells (app ol nl)))).get j = some oj → (j = h.n ∧ oj = .cells (app ol nl)) ∨ (j ≠ i ∧ j ≠ h.n ∧ h.t.get j = some oj) := by
    intro j oj hj
    rw [get_put'] at hj
    split at hj
    · rename_i e; subst e; cases hj; exact .inl ⟨rfl, rfl⟩
    · rename_i e1
      rw [get_put'] at hj
      split at hj
      · cases hj
      · rename_i e2; exact .inr ⟨fun e => e2 e.symm, fun e => e1 e.symm, hj⟩
  have far : ∀ j oj lj, j ≠ i → h.t.get j = some oj → ρ j = some lj → lj.blk ≠ l.blk := fun j oj lj hne hj hlj => hI.inj j i oj _ lj l hj hg hne hlj hl
  refine ⟨hrun, ⟨?_, ?_, ?_⟩, ⟨hext, ?_, by show h.n.nat ≤ (Pth.succ h.n).nat; omega, Nat.le_of_eq hsz'.symm, hos, htp, hou, ?_, ?_⟩⟩
  · intro j hj
    have hj : (Pth.succ h.n).nat ≤ j.nat := hj
    unfold bind1
    rw [if_neg (by intro e; subst e; omega)]
    exact hI.fresh j (by omega)
  · intro j oj hj
    rcases key j oj hj with ⟨rfl, rfl⟩ | ⟨h1, h2, h3⟩
    · exact ⟨_, bind1_same _ _ _, hobj⟩
    · obtain ⟨lj, hlj, hoj⟩ := hI.obj j oj h3
      exact ⟨lj, hext _ _ hlj, hoj.mono hext (setCells_other _ _ (far j oj lj h1 h3 hlj) _ _ _)⟩
  · intro a b oa ob la lb ha hb2 hab hla hlb
    rcases key a oa ha with ⟨rfl, rfl⟩ | ⟨h1, h2, h3⟩
    · rw [bind1_same] at hla; cases hla
      rcases key b ob hb2 with ⟨rfl, rfl⟩ | ⟨g1, g2, g3⟩
      · exact absurd rfl hab
      · obtain ⟨lj, hlj, _⟩ := hI.obj b ob g3
        rw [hext _ _ hlj] at hlb; cases hlb
        exact (far b ob _ g1 g3 hlj).symm
    · obtain ⟨lj, hlj, _⟩ := hI.obj a oa h3
      rw [hext _ _ hlj] at hla; cases hla
      rcases key b ob hb2 with ⟨rfl, rfl⟩ | ⟨g1, g2, g3⟩
      · rw [bind1_same] at hlb; cases hlb
        exact far a oa _ h1 h3 hlj
      · obtain ⟨lk, hlk, _⟩ := hI.obj b ob g3
        rw [hext _ _ hlk] at hlb; cases hlb
        exact hI.inj a b oa ob _ _ h3 g3 hab hlj hlk
  · intro j hj
    unfold bind1
    rw [if_neg (by intro e; subst e; omega)]
  · intro b hb2 hne
    exact setCells_other _ _ (fun e => hne i _ l hg hl e.symm) _ _ _
  · intro j oj lj hj hlj
    rcases key j oj hj with ⟨rfl, rfl⟩ | ⟨h1, h2, h3⟩
    · rw [bind1_same] at hlj; cases hlj
      exact .inr ⟨i, _, l, hg, hl, rfl⟩
    · obtain ⟨lk, hlk, _⟩ := hI.obj j oj h3
      rw [hext _ _ hlk] at hlj; cases hlj
      exact .inr ⟨j, oj, _, h3, hlk, rfl⟩
/-- the block that a growing append lays -/
theorem grown_block {olds news : Array Value} {z : Value} {ln n sz cap : Nat} (ho : olds.size = ln * sz) (hn : news.size = n * sz) (hz : z.cells.size = sz) (hc : ln + n ≤ cap) :
    (olds ++ news ++ Builtin.zeroCells z.cells (cap - (ln + n))).size = cap * sz := by
  simp only [Array.size_append, size_zeroCells, ho, hn, hz, ← Nat.add_mul]
  congr 1; omega
theorem grown_cells {ρ ρ' : Rho} {ol nl : List V} {olds news rest : Array Value} (ho : RL ρ ol olds.toList) (hn : RL ρ nl news.toList) (h1 : ∀ y ∈ olds.toList, y.oneCell' = true) (h2 : ∀ y ∈ news.toList, y.oneCell' = true) (e : Ext ρ ρ') :
    ∀ (k : Nat) v, (app ol nl)[k]? = some v → ∃ x, (olds ++ news ++ rest)[0 + k]? = some x ∧ R ρ' v x ∧ x.oneCell' = true := by
  intro k v hk
  rw [app_eq] at hk
  obtain ⟨x, hx1, hx2⟩ := (ho.append hn).get hk
  refine ⟨x, ?_, hx2.mono e, ?_⟩
  · have hlt := (List.getElem?_eq_some_iff.1 hx1).1
    rw [Nat.zero_add, Array.getElem?_append_left (by simpa using hlt), ← Array.getElem?_toList]
    simpa using hx1
  · have := List.mem_of_getElem? hx1
    rcases List.mem_append.1 this with h | h
    · exact h1 x h
    · exact h2 x h
/-- what an append of n cells' worth does, whatever it appends -/
structure ApLaw (P : Program) (ts : Array TypeId) (ty e : TypeId) (i : TypeInfo) (z x : Value) (n : Nat) (news : Array Value) (w : World) : Prop where
  in_ : ∀ (base : Option Addr) (sLen sCap : Nat), sLen + n ≤ sCap → (Builtin.append_ ts ty #[.slice base sLen sCap, x]).run P w =
      match base with
      | some a => ((storeCells (a.add (sLen * i.size)) news.toList).run P w).andThen fun _ w' => .ok (.slice base (sLen + n) sCap) w'
      | none => .ok (.slice base (sLen + n) sCap) w
  out_ : ∀ (base : Option Addr) (sLen sCap : Nat) (olds : Array Value), (Builtin.firstCells i.size sLen (.slice base sLen sCap)).run P w.drew = .ok olds w.drew → sCap < sLen + n →
      ((sLen + n : Nat) : Int) ≤ 9223372036854775807 → Builtin.nextslicecap (sLen + n) sCap * i.bytes ≤ 281474976710656 →
      (Builtin.append_ ts ty #[.slice base sLen sCap, x]).run P w =
        .ok (.slice (some ⟨w.heap.size, 0, none⟩) (sLen + n) (grownCap w (sLen + n) sCap e))
          (w.drew.alloc (.cells (olds ++ news ++ Builtin.zeroCells z.cells (grownCap w (sLen + n) sCap e - (sLen + n))) e))
theorem apCore_ok {ρ : Rho} {h h' : H} {w : World} (K : EnvOK P E) (hI : Inv ρ h w) {ts : Array TypeId} {ty e : TypeId} {ei : TyI} (he : E.tt e = some ei)
    (hby : ei.bytes < 65536) (hsz : 0 < ei.size) {zx : Value} (hzs : zx.cells.size = ei.size) {s : V} {sv xv : Value} (hs : R ρ s sv) {n : Nat} {nl : List V} {news : Array Value}
    (L : ApLaw P ts ty e ei.info zx xv n news w) (hnl : RL ρ nl news.toList) (hn1 : ∀ y ∈ news.toList, y.oneCell' = true) (hnn : news.size = n * ei.size) {v : V} (ha : evAppend ei.size nl n h s = .ok v h') :
    ∃ y w', (Builtin.append_ ts ty #[sv, xv]).run P w = .ok y w' ∧ Post ρ h w v h' y w' := by
  obtain ⟨hs1, hs2, _⟩ := K.flat e ei he
  cases s <;> simp only [evAppend] at ha <;> try cases ha
  · rename_i i off ln cap ex sz
    cases hc : and (Nat.beq sz ei.size) (Nat.blt (Nat.add ln n) 1000000) with
    | false => rw [hc] at ha; cases ha
    | true =>
      rw [hc] at ha
      simp only [Bool.and_eq_true, blt_iff, beq_iff', decide_eq_true_eq] at hc
      obtain ⟨rfl, hc2⟩ := hc
      have hc2 : ln + n < 1000000 := hc2
      obtain ⟨l, c, h1, rfl, h3, h4, h5, h6⟩ := hs
      have ha : apSl i off ln cap ex ei.size nl (Nat.add ln n) h (Nat.ble (Nat.add ln n) cap) = .ok v h' := ha
      have hcc : cap ≤ c := by cases ex <;> simp only [capOk] at h3 <;> omega
      -- in place
      have inPlace : ln + n ≤ c → ∀ {q : Pth} {h'' : H} {r : List V}, (∃ lst, h.t.get i = some (.cells lst)) → True := fun _ _ _ _ _ => trivial
      cases hb : Nat.ble (Nat.add ln n) cap with
      | true =>
        rw [hb] at ha
        have hb : ln + n ≤ cap := by simpa using hb
        have ha : apIn i off (Nat.add ln n) cap ex ei.size (wrCells h i (Nat.add off (Nat.mul ln ei.size)) nl) = .ok v h' := ha
        cases hw : wrCells h i (Nat.add off (Nat.mul ln ei.size)) nl with
        | none => rw [hw] at ha; cases ha
        | some h2 =>
          rw [hw] at ha; cases ha
          obtain ⟨g1, g2, g3⟩ := write_cells hI hw h1 hnl hn1 P
          have hr := L.in_ (some ⟨l.blk, l.off + off, none⟩) ln c (by omega)
          simp only [add_eq] at hr
          have e1 : l.off + off + ln * ei.info.size = l.off + Nat.add off (Nat.mul ln ei.size) := by rw [← hs1]; exact Nat.add_assoc _ _ _
          rw [e1, g1] at hr
          exact ⟨_, _, hr, ρ, ⟨l, c, h1, rfl, h3, hb, h5, h6⟩, g2, g3⟩
      | false =>
        rw [hb] at ha
        have hb : ¬ ln + n ≤ cap := by intro g; have := Nat.ble_eq ▸ g; rw [show (ln + n).ble cap = false from hb] at this; cases this
        have ha : apNew i (Nat.add ln n) ex ei.size nl h (rdCells h i off (Nat.mul ln ei.size)) = .ok v h' := ha
        cases hrd : rdCells h i off (Nat.mul ln ei.size) with
        | none => rw [hrd] at ha; cases ha
        | some ol =>
          rw [hrd] at ha; cases ha
          obtain ⟨xs, o1, o2, o3, o4⟩ := read_cells hI.o hrd h1
          have o2 : xs.length = ln * ei.size := o2
          have hfit : Builtin.nextslicecap (ln + n) c * ei.info.bytes ≤ 281474976710656 ∨ ¬ (c < ln + n) := by
            by_cases g : c < ln + n
            · exact .inl (growslice_fits g (by rw [← hs2]; calc (ln + n) * ei.bytes ≤ 1000000 * 65536 := Nat.mul_le_mul (by omega) (by omega)
                _ ≤ _ := by omega))
            · exact .inr g
          -- a new block
          have out : c < ln + n → ∃ w', (Builtin.append_ ts ty #[.slice (some ⟨l.blk, l.off + off, none⟩) ln c, xv]).run P w = .ok (.slice (some ⟨w.heap.size, 0, none⟩) (ln + n) (grownCap w (ln + n) c e)) w' ∧
              ∀ h0 : H, Inv ρ h0 w → Fr ρ h w ρ h0 w → h0.n = h.n → Post ρ h w (.sl h.n 0 (ln + n) (ln + n) false ei.size) ⟨put h0.t h.n (some (.cells (app ol nl))), Pth.succ h.n⟩ (.slice (some ⟨w.heap.size, 0, none⟩) (ln + n) (grownCap w (ln + n) c e)) w' := by
            intro g
            have hge := grownCap_ge w (ln + n) c e
            have hle := grownCap_le_maxLen w (ln + n) c e (by simp only [maxLen]; omega)
            refine ⟨_, L.out_ (some ⟨l.blk, l.off + off, none⟩) ln c xs.toArray ?_ g (by omega) (hfit.resolve_right (by simp; exact g)), fun h0 hI0 hF0 hn0 => ?_⟩
            · exact run_cells (o := l.off + off) (by rw [← hs1]; exact o2) (fun j v hj => by rw [cell_heap (w := w) (w' := w.drew) rfl]; exact o4 j v hj)
            · have hn : ρ h0.n = none := hI0.fresh _ (Nat.le_refl _)
              have hs : h0.n.nat < (Pth.succ h0.n).nat := by rw [Pth.nat_succ]; omega
              have hbs := grown_block (olds := xs.toArray) (z := zx) (cap := grownCap w (ln + n) c e) (by simpa using o2) hnn hzs hge
              obtain ⟨g4, g5, g6, _⟩ := alloc_obj hI0 hn (Nat.le_of_lt hs) hs (.cells (app ol nl)) (.cells (xs.toArray ++ news ++ Builtin.zeroCells zx.cells (grownCap w (ln + n) c e - (ln + n))) e) (w.drew.alloc (.cells (xs.toArray ++ news ++ Builtin.zeroCells zx.cells (grownCap w (ln + n) c e - (ln + n))) e)) 0 (xs.toArray ++ news ++ Builtin.zeroCells zx.cells (grownCap w (ln + n) c e - (ln + n))).size rfl rfl rfl rfl
                ⟨_, e, (0, 0), by show (w.heap.push _)[w.heap.size]? = _; simp, rfl, .inl rfl, grown_cells o1 hnl o3 hn1 (bind1_ext hn)⟩
              rw [hn0] at g4 g6
              refine ⟨_, ⟨_, grownCap w (ln + n) c e, bind1_same _ _ _, rfl, hge, Nat.le_refl _, hle, ?_⟩, g4, hF0.trans (g6 (Nat.le_refl _))⟩
              rw [hbs]; simp
          cases ex with
          | true =>
            have hc : c = cap := h3
            subst hc
            obtain ⟨w', g1, g2⟩ := out (by omega)
            exact ⟨_, w', g1, g2 h hI (Fr.refl _ _ _) rfl⟩
          | false =>
            by_cases g : c < ln + n
            · obtain ⟨w', g1, g2⟩ := out g
              obtain ⟨k1, k2⟩ := kill hI i
              exact ⟨_, w', g1, g2 _ k1 k2 rfl⟩
            · obtain ⟨lst, hgi⟩ : ∃ lst, h.t.get i = some (.cells lst) := by
                obtain ⟨lst, hc⟩ := rdCells_some hrd
                rcases hc with ⟨hg, _⟩ | ⟨_, hg, _⟩ <;> exact ⟨_, hg⟩
              have hcs : (ln + n) * ei.size ≤ c * ei.size := Nat.mul_le_mul_right _ (by omega)
              have hmul : (ln + n) * ei.size = ln * ei.size + n * ei.size := Nat.add_mul _ _ _
              have hnl2 : news.toList.length = n * ei.size := by simpa using hnn
              obtain ⟨g1, g2, g3⟩ := rebind hI hgi h1 hnl hn1 o1 o3 o4 (by rw [o2, hnl2]; omega) P
              have hr := L.in_ (some ⟨l.blk, l.off + off, none⟩) ln c (by omega)
              simp only [add_eq] at hr
              rw [← hs1, ← o2, g1] at hr
              exact ⟨_, _, hr, _, ⟨⟨l.blk, l.off + off, l.size⟩, c, bind1_same _ _ _, rfl, by show ln + n ≤ c; omega, Nat.le_refl _, h5, h6⟩, g2, g3⟩
  · have hs : sv = .slice none 0 0 := hs
    subst hs
    have ha : apNs ei.size nl h n (Nat.blt n 1000000) = .ok v h' := ha
    cases hb : Nat.blt n 1000000 with
    | false => rw [hb] at ha; cases n <;> cases ha
    | true =>
      rw [hb] at ha
      have hb : n < 1000000 := by rw [blt_iff] at hb; simpa using hb
      cases n with
      | zero =>
        cases ha
        have hr := L.in_ none 0 0 (Nat.le_refl _)
        exact ⟨_, w, hr, ρ, rfl, hI, Fr.refl _ _ _⟩
      | succ n =>
        cases ha
        have hge := grownCap_ge w (0 + (n + 1)) 0 e
        have hle := grownCap_le_maxLen w (0 + (n + 1)) 0 e (by simp only [maxLen]; omega)
        have hr := L.out_ none 0 0 #[] (by simp [Builtin.firstCells]) (by omega) (by omega)
          (growslice_fits (by omega) (by rw [← hs2]; calc (0 + (n + 1)) * ei.bytes ≤ 1000000 * 65536 := Nat.mul_le_mul (by omega) (by omega)
                _ ≤ _ := by omega))
        have hn : ρ h.n = none := hI.fresh _ (Nat.le_refl _)
        have hs : h.n.nat < (Pth.succ h.n).nat := by rw [Pth.nat_succ]; omega
        have hbs := grown_block (olds := #[]) (ln := 0) (z := zx) (cap := grownCap w (0 + (n + 1)) 0 e) (by simp) hnn hzs hge
        obtain ⟨g4, g5, g6, _⟩ := alloc_obj hI hn (Nat.le_of_lt hs) hs (.cells nl) (.cells (#[] ++ news ++ Builtin.zeroCells zx.cells (grownCap w (0 + (n + 1)) 0 e - (0 + (n + 1)))) e) (w.drew.alloc (.cells (#[] ++ news ++ Builtin.zeroCells zx.cells (grownCap w (0 + (n + 1)) 0 e - (0 + (n + 1)))) e)) 0 (#[] ++ news ++ Builtin.zeroCells zx.cells (grownCap w (0 + (n + 1)) 0 e - (0 + (n + 1)))).size rfl rfl rfl rfl
          ⟨_, e, (0, 0), by show (w.heap.push _)[w.heap.size]? = _; simp, rfl, .inl rfl, grown_cells (ol := []) (olds := #[]) rfl hnl (by simp) hn1 (bind1_ext hn)⟩
        refine ⟨_, _, hr, _, ⟨_, grownCap w (0 + (n + 1)) 0 e, bind1_same _ _ _, ?_, ?_, Nat.le_refl _, hle, ?_⟩, g4, g6 (Nat.le_refl _)⟩
        · rw [Nat.zero_add]
        · show n + 1 ≤ _; omega
        · rw [hbs]; simp
theorem apDo_ok {ρ : Rho} {h h' : H} {w : World} (K : EnvOK P E) (hI : Inv ρ h w) {ts : Array TypeId} {t ty e : TypeId} {ti ei : TyI} (hts : TsEl P ts t) (ht : E.tt t = some ti) (hd : ti.ud = .slice e) (he : E.tt e = some ei)
    (hby : ei.bytes < 65536) (hsz : 0 < ei.size) {z : List V} (hz : zeroCells E e = some z) (hzl : z.length = ei.size) {s x : V} {sv xv : Value} (hs : R ρ s sv) (hx : R ρ x xv) {v : V} (ha : apDo ei.size s h (apX ei.size h x) = .ok v h') :
    ∃ y w', (Builtin.append_ ts ty #[sv, xv]).run P w = .ok y w' ∧ Post ρ h w v h' y w' := by
  have hut : P.underlying t = some (.slice e) := hd ▸ (K.info t ti ht).2
  have hie := (K.info e ei he).1
  obtain ⟨hs1, hs2, _⟩ := K.flat e ei he
  cases hax : apX ei.size h x with
  | no => rw [hax] at ha; cases ha
  | ok nl n =>
    rw [hax] at ha
    obtain ⟨news, hl, hf, hnl, hn1, hnn⟩ := apX_R (P := P) hI hax hx
    have hf0 := hf w rfl
    have hf1 := hf w.drew rfl
    rw [hs1] at hf0 hf1
    -- the zero value of an element
    obtain ⟨zx, hzx, hz2, _⟩ := zeroCells_some K hz ρ w
    have hzx' : ei.info.zero = some zx := by
      unfold zeroValue at hzx
      simp only [Sem.run_bind, run_info K he, Result.andThen_ok] at hzx
      cases hq : ei.info.zero with
      | none => rw [hq] at hzx; simp at hzx
      | some q => rw [hq] at hzx; simp at hzx; rw [hzx]
    have hzs : zx.cells.size = ei.size := by have := hz2.length; simp at this; omega
    exact apCore_ok K hI he hby hsz hzs hs ⟨fun base sLen sCap hr => append_in hts hut hie hl hf0 hr, fun base sLen sCap olds ho hr h1 h2 => append_out hts hut hie hzx' hl hf1 ho hr h1 h2⟩ hnl hn1 hnn ha
/-! ### zeros -/
section
variable {t u ty e : TypeId} {i : TypeInfo} {w : World} {kd : IntKind}
theorem zeroCells_nil {z : Array Value} {n : Nat} (h : n * z.size = 0) : Builtin.zeroCells z n = #[] := by
  unfold Builtin.zeroCells; rw [h]; simp
theorem zn_facts {n : Nat} (hn : n < 1000000) : IntKind.i64.wrap (n : Int) = (n : Int) :=
  wrap_in .i64 _ (fun _ => ⟨by have : (0 : Int) ≤ (n : Int) := Int.natCast_nonneg _; simp only [lim]; omega, by show (n : Int) < _; simp only [lim]; omega⟩) (fun h => by cases h)
theorem zb_facts {n b : Nat} (hn : n < 1000000) (hb : b < 65536) : ¬ ((n : Int) * (b : Int) > 281474976710656) := by
  have h2 : n * b ≤ 1000000 * 65536 := Nat.mul_le_mul (by omega) (by omega)
  have h3 : ((n * b : Nat) : Int) ≤ ((1000000 * 65536 : Nat) : Int) := by exact_mod_cast h2
  rw [Int.natCast_mul] at h3
  omega
theorem append_zin (ht : P.underlying t = some (.slice e)) (hu : P.underlying u = some (.int kd)) (hi : P.info? e = some i) {z : Value} (hz : i.zero = some z) (hzs : z.cells.size = i.size) {base : Option Addr} {sLen sCap n : Nat} (hn : n < 1000000) (hb : i.bytes < 65536) (hroom : sLen + n ≤ sCap) :
    (Builtin.append_ #[t, u] ty #[.slice base sLen sCap, .int .i64 (n : Int)]).run P w =
      match base with
      | some a => ((storeCells (a.add (sLen * i.size)) (Builtin.zeroCells z.cells n).toList).run P w).andThen fun _ w' => .ok (.slice base (sLen + n) sCap) w'
      | none => .ok (.slice base (sLen + n) sCap) w := by
  have h1 := zn_facts hn
  have h2 : ¬ (281474976710656 < (n : Int) * (i.bytes : Int)) := by have := zb_facts hn hb; omega
  have h3 : ¬ ((n : Int) < 0) := by omega
  by_cases h0 : n * i.size = 0
  · have hz0 := zeroCells_nil (z := z.cells) (n := n) (by rw [hzs]; exact h0)
    cases base <;> simp [Builtin.append_, run_underlying ht, run_underlying hu, sizeOf, typeInfo, hi, asInt, asIntOf, h1, h2, h3, hroom, h0, hz0]
  · cases base <;> simp [Builtin.append_, run_underlying ht, run_underlying hu, sizeOf, typeInfo, zeroValue, hi, hz, asInt, asIntOf, h1, h2, h3, hroom, h0]
theorem append_zout (ht : P.underlying t = some (.slice e)) (hu : P.underlying u = some (.int kd)) (hi : P.info? e = some i) {z : Value} (hz : i.zero = some z) (hzs : z.cells.size = i.size) {base : Option Addr} {sLen sCap n : Nat} {olds : Array Value} (hn : n < 1000000) (hb : i.bytes < 65536)
    (ho : (Builtin.firstCells i.size sLen (.slice base sLen sCap)).run P w.drew = .ok olds w.drew) (hroom : sCap < sLen + n)
    (h63 : ((sLen + n : Nat) : Int) ≤ 9223372036854775807) (hfit : Builtin.nextslicecap (sLen + n) sCap * i.bytes ≤ 281474976710656) :
    (Builtin.append_ #[t, u] ty #[.slice base sLen sCap, .int .i64 (n : Int)]).run P w =
      .ok (.slice (some ⟨w.heap.size, 0, none⟩) (sLen + n) (grownCap w (sLen + n) sCap e))
        (w.drew.alloc (.cells (olds ++ Builtin.zeroCells z.cells n ++ Builtin.zeroCells z.cells (grownCap w (sLen + n) sCap e - (sLen + n))) e)) := by
  have h1 := zn_facts hn
  have h2 : ¬ (281474976710656 < (n : Int) * (i.bytes : Int)) := by have := zb_facts hn hb; omega
  have h3 : ¬ ((n : Int) < 0) := by omega
  have hnn : ¬ (sLen + n ≤ sCap) := by omega
  have h63' : ¬ (9223372036854775807 < ((sLen : Int) + (n : Int))) := by omega
  have h48' : ¬ (281474976710656 < Builtin.nextslicecap (sLen + n) sCap * i.bytes) := by omega
  by_cases h0 : n * i.size = 0
  · have hz0 := zeroCells_nil (z := z.cells) (n := n) (by rw [hzs]; exact h0)
    simp [Builtin.append_, run_underlying ht, run_underlying hu, sizeOf, typeInfo, zeroValue, hi, hz, asInt, asIntOf, h1, h2, h3, hnn, h63', h48', Question.forced, h0, hz0, ho, Go.newRow, grownCap]
  · simp [Builtin.append_, run_underlying ht, run_underlying hu, sizeOf, typeInfo, zeroValue, hi, hz, asInt, asIntOf, h1, h2, h3, hnn, h63', h48', Question.forced, h0, ho, Go.newRow, grownCap]
/-- append of n zeros -/
theorem apZ_ok {ρ : Rho} {h h' : H} (K : EnvOK P E) (hI : Inv ρ h w) {ti ui ei : TyI} (ht : E.tt t = some ti) (hd : ti.ud = .slice e) (hu : E.tt u = some ui) (hdu : ui.ud = .int kd) (he : E.tt e = some ei)
    (hby : ei.bytes < 65536) (hsz : 0 < ei.size) {zl : List V} (hz : zeroCells E e = some zl) (hzl : zl.length = ei.size) {s : V} {sv : Value} (hs : R ρ s sv) {n : Nat} (hn : n < 1000000) {v : V} (ha : evAppend ei.size (rep n zl) n h s = .ok v h') :
    ∃ y w', (Builtin.append_ #[t, u] ty #[sv, .int .i64 (n : Int)]).run P w = .ok y w' ∧ Post ρ h w v h' y w' := by
  have hut : P.underlying t = some (.slice e) := hd ▸ (K.info t ti ht).2
  have huu : P.underlying u = some (.int kd) := hdu ▸ (K.info u ui hu).2
  have hie := (K.info e ei he).1
  obtain ⟨hs1, hs2, _⟩ := K.flat e ei he
  obtain ⟨zx, hzx, hz2, hz3⟩ := zeroCells_some K hz ρ w
  have hzx' : ei.info.zero = some zx := by
    unfold zeroValue at hzx
    simp only [Sem.run_bind, run_info K he, Result.andThen_ok] at hzx
    cases hq : ei.info.zero with
    | none => rw [hq] at hzx; simp at hzx
    | some q => rw [hq] at hzx; simp at hzx; rw [hzx]
  have hzs : zx.cells.size = ei.size := by have := hz2.length; simp at this; omega
  have hrc : (Builtin.zeroCells zx.cells n).toList = rep n zx.cells.toList := range_cells zx.cells n _ rfl
  have hb' : ei.info.bytes < 65536 := by rw [← hs2]; exact hby
  have hzs' : zx.cells.size = ei.info.size := by rw [← hs1]; exact hzs
  refine apCore_ok K hI he hby hsz hzs hs (news := Builtin.zeroCells zx.cells n) ⟨fun base sLen sCap hr => append_zin hut huu hie hzx' hzs' hn hb' hr, fun base sLen sCap olds ho hr h1 h2 => append_zout hut huu hie hzx' hzs' hn hb' ho hr h1 h2⟩ ?_ ?_ ?_ ha
  · rw [hrc]; exact rep_R hz2 n
  · rw [hrc]
    intro y hy
    obtain ⟨k, hk⟩ := List.mem_iff_getElem?.1 hy
    rw [rep_get] at hk
    split at hk
    · exact hz3 y (List.mem_of_getElem? hk)
    · cases hk
  · have := congrArg List.length hrc
    rw [rep_len] at this
    simpa [hzs] using this
end
end
end Go.Ev
namespace Go.Ev
open Go
noncomputable section
variable {P : Program} {E : Env}

theorem copy_run {ts : Array TypeId} {t ty e : TypeId} {ei : TyI} {w : World} (K : EnvOK P E) (hts : ts[0]? = some t) (ht : P.underlying t = some (.slice e)) (he : E.tt e = some ei) {a : Addr} {n c m : Nat} {x : Value} {cs : Array Value}
    (hl : (Builtin.lenOf x).run P w = .ok m w) (hf : (Builtin.firstCells ei.size (Nat.min m n) x).run P w = .ok cs w) :
    (Builtin.copy_ ts ty #[.slice (some a) n c, x]).run P w = ((storeCells a cs.toList).run P w).andThen fun _ w' => .ok (goInt (Nat.min m n)) w' := by
  simp [Builtin.copy_, hts, run_underlying ht, hl, run_size K he, hf]
theorem minN_eq (a b : Nat) : minN a b (Nat.ble a b) = Nat.min a b := by
  by_cases h : a ≤ b
  · rw [Nat.ble_eq_true_of_le h]; exact (Nat.min_eq_left h).symm
  · have : Nat.ble a b = false := by
      cases hb : Nat.ble a b with
      | false => rfl
      | true => exact absurd (Nat.le_of_ble_eq_true hb) h
    rw [this]; exact (Nat.min_eq_right (Nat.le_of_lt (Nat.lt_of_not_le h))).symm
theorem cpD_ok {ρ : Rho} {h h' : H} {w : World} (K : EnvOK P E) (hI : Inv ρ h w) {ts : Array TypeId} {t ty e : TypeId} {ei : TyI} (hts : ts[0]? = some t) (ht : P.underlying t = some (.slice e)) (he : E.tt e = some ei)
    {d x : V} {dv xv : Value} (hd : R ρ d dv) (hx : R ρ x xv) {v : V} {D D' : List AD} (ha : cpD ei.size x D h d = .ok v D' h') :
    D' = D ∧ ∃ y w', (Builtin.copy_ ts ty #[dv, xv]).run P w = .ok y w' ∧ Post ρ h w v h' y w' := by
  cases d <;> simp only [cpD] at ha <;> try cases ha
  rename_i i off n c ex z
  obtain ⟨l, c', h1, rfl, _⟩ := hd
  cases x <;> simp only [cpX] at ha <;> try cases ha
  · rename_i j q m c2 ex2 z2
    obtain ⟨l2, c2', g1, rfl, _⟩ := hx
    rw [minN_eq] at ha
    cases hr : rdCells h j q (Nat.mul (Nat.min m n) ei.size) with
    | none => rw [hr] at ha; cases ha
    | some r =>
      rw [hr] at ha
      have ha : hV D (int64 (Nat.min m n)) (wrCells h i off r) = .ok v D' h' := ha
      cases hw : wrCells h i off r with
      | none => rw [hw] at ha; cases ha
      | some h2 =>
        rw [hw] at ha; cases ha
        obtain ⟨xs, o1, o2, o3, o4⟩ := read_cells hI.o hr g1
        obtain ⟨g2, g3, g4⟩ := write_cells hI hw h1 o1 o3 P
        have hrun := copy_run (ty := ty) (w := w) K hts ht he (a := ⟨l.blk, l.off + off, none⟩) (n := n) (c := c') (m := m) (x := .slice (some ⟨l2.blk, l2.off + q, none⟩) m c2') (cs := xs.toArray) rfl (run_cells o2 o4)
        rw [show xs.toArray.toList = xs from rfl, g2] at hrun
        exact ⟨rfl, _, _, hrun, ρ, rfl, g3, g4⟩
  · obtain ⟨a2, c2, rfl⟩ := hx
    have e0 : Nat.min 0 n = 0 := Nat.zero_min n
    have hrun := copy_run (ty := ty) (w := w) K hts ht he (a := ⟨l.blk, l.off + off, none⟩) (n := n) (c := c') (m := 0) (x := .slice (some a2) 0 c2) (cs := #[]) rfl (by simp [Builtin.firstCells, loadCells, loadCellsFrom, e0])
    rw [e0] at hrun
    exact ⟨rfl, _, w, hrun, ρ, rfl, hI, Fr.refl _ _ _⟩
  · have hx : xv = .slice none 0 0 := hx
    subst hx
    have e0 : Nat.min 0 n = 0 := Nat.zero_min n
    have hrun := copy_run (ty := ty) (w := w) K hts ht he (a := ⟨l.blk, l.off + off, none⟩) (n := n) (c := c') (m := 0) (x := .slice none 0 0) (cs := #[]) rfl (by simp [Builtin.firstCells])
    rw [e0] at hrun
    exact ⟨rfl, _, w, hrun, ρ, rfl, hI, Fr.refl _ _ _⟩
theorem clX_ok {ρ : Rho} {h h' : H} {w : World} (K : EnvOK P E) (hI : Inv ρ h w) {ts : Array TypeId} {t ty e : TypeId} (hts : ts[0]? = some t) (ht : P.underlying t = some (.slice e)) {z : List V} (hz : zeroCells E e = some z)
    {x : V} {xv : Value} (hx : R ρ x xv) {v : V} {D D' : List AD} (ha : clX z D h x = .ok v D' h') :
    D' = D ∧ ∃ y w', (Builtin.clear_ ts ty #[xv]).run P w = .ok y w' ∧ Post ρ h w v h' y w' := by
  obtain ⟨zx, hz1, hz2, hz3⟩ := zeroCells_some K hz ρ w
  have nop : ∀ a c, xv = .slice a 0 c ∨ xv = .slice none 0 0 → (Builtin.clear_ ts ty #[xv]).run P w = .ok (.tuple #[]) w := by
    intro a c h
    rcases h with rfl | rfl
    · cases a <;> simp [Builtin.clear_, hts, run_underlying ht]
    · simp [Builtin.clear_, hts, run_underlying ht]
  cases x <;> simp only [clX] at ha <;> try cases ha
  · rename_i i off n c ex sz
    obtain ⟨l, c', h1, rfl, _⟩ := hx
    cases n with
    | zero => cases ha; exact ⟨rfl, _, w, nop _ _ (.inl rfl), ρ, R_undef _, hI, Fr.refl _ _ _⟩
    | succ n =>
      have ha : hV D (.tu []) (wrCells h i off (rep (Nat.succ n) z)) = .ok v D' h' := ha
      cases hw : wrCells h i off (rep (Nat.succ n) z) with
      | none => rw [hw] at ha; cases ha
      | some h2 =>
        rw [hw] at ha; cases ha
        have e1 := range_cells zx.cells (n + 1) ((n + 1) * zx.cells.size) rfl
        obtain ⟨g2, g3, g4⟩ := write_cells hI hw h1 (rep_R hz2 (n + 1)) (fun y hy => hz3 y (rep_mem hy)) P
        rw [← e1] at g2
        have g2' : (storeCells ⟨l.blk, l.off + off, none⟩ (Builtin.zeroCells zx.cells (n + 1)).toList).run P w = _ := g2
        refine ⟨rfl, .tuple #[], _, ?_, ρ, R_undef _, g3, g4⟩
        simp only [Builtin.clear_, List.getElem?_toArray, List.getElem?_cons_zero, hts, Sem.run_bind, run_underlying ht, Result.andThen_ok, hz1, g2', Sem.run_pure, e1]
  · obtain ⟨a, c, rfl⟩ := hx
    exact ⟨rfl, _, w, nop _ _ (.inl rfl), ρ, R_undef _, hI, Fr.refl _ _ _⟩
  · exact ⟨rfl, _, w, nop none 0 (.inr hx), ρ, R_undef _, hI, Fr.refl _ _ _⟩
end
end Go.Ev
namespace Go.Ev
open Go
noncomputable section
open Classical
variable {P : Program} {E : Env} {ρ : Rho}

theorem sameS_comm {a b : V} (h : sameS a b = true) : sameS b a = true := by
  rcases sameS_cases h with ⟨j, x, y, rfl, rfl⟩ | ⟨x, y, rfl, rfl⟩
  · exact (kindEq_iff j j).2 rfl
  · rfl
theorem R_key {a b : V} {x : Value} (h : sameS a b = true) (ha : R ρ a x) (hb : R ρ b x) : a = b := by
  rcases sameS_cases h with ⟨j, n, m, rfl, rfl⟩ | ⟨n, m, rfl, rfl⟩
  · have ha : x = .int j n := ha
    have hb : x = .int j m := hb
    rw [ha] at hb; cases hb; rfl
  · obtain ⟨s, rfl, rfl⟩ := ha
    obtain ⟨t, e, rfl⟩ := hb
    cases e; rfl
theorem MapR.split {es : List (V × V)} {m1 m2 : List MapEntry} {e : MapEntry} (h : MapR ρ es (m1 ++ e :: m2)) : ∃ s1 a s2, es = s1 ++ a :: s2 ∧ s1.length = m1.length ∧ MapR ρ s1 m1 ∧ keyR ρ a e ∧ MapR ρ s2 m2 := by
  induction m1 generalizing es with
  | nil =>
    cases es with
    | nil => simp only [MapR] at h; cases h
    | cons a l => obtain ⟨x, r, e1, h2, h3⟩ := h; cases e1; exact ⟨[], a, l, rfl, rfl, rfl, h2, h3⟩
  | cons b m1 ih =>
    cases es with
    | nil => simp only [MapR] at h; cases h
    | cons a l =>
      obtain ⟨x, r, e1, h2, h3⟩ := h
      simp only [List.cons_append, List.cons.injEq] at e1
      obtain ⟨rfl, rfl⟩ := e1
      obtain ⟨s1, c, s2, rfl, g2, g3, g4, g5⟩ := ih h3
      exact ⟨a :: s1, c, s2, rfl, by simp [g2], ⟨_, _, rfl, h2, g3⟩, g4, g5⟩
theorem MapR.join {s1 s2 : List (V × V)} {m1 m2 : List MapEntry} (h1 : MapR ρ s1 m1) (h2 : MapR ρ s2 m2) : MapR ρ (s1 ++ s2) (m1 ++ m2) := by
  induction s1 generalizing m1 with
  | nil => simp only [MapR] at h1; subst h1; exact h2
  | cons a l ih => obtain ⟨x, r, rfl, g2, g3⟩ := h1; exact ⟨x, _, rfl, g2, ih g3⟩
theorem setK_at {k v : V} : ∀ {s1 s2 : List (V × V)} {a : V × V}, a.1 = k → (∀ b ∈ s1 ++ a :: s2, sameS k b.1 = true) → Uniq (s1 ++ a :: s2) → setK k v (s1 ++ a :: s2) = s1 ++ (k, v) :: s2
  | [], s2, (b, u), ha, hs, _ => by
    have hb := kbeq (hs (b, u) (by simp))
    have ha : b = k := ha
    subst ha
    show (match V.beq b b with | true => (b, v) :: s2 | false => (b, u) :: setK b v s2) = _
    rw [hb]; simp
  | (c, w) :: s1, s2, a, ha, hs, hu => by
    have hb := kbeq (hs (c, w) (by simp))
    have hne : ¬ k = c := by
      intro e
      have := (hu.1 a (by simp)).1
      exact this (by rw [ha, ← e])
    show (match V.beq k c with | true => (c, v) :: (s1 ++ a :: s2) | false => (c, w) :: setK k v (s1 ++ a :: s2)) = _
    rw [hb, decide_eq_false hne]
    show (c, w) :: setK k v (s1 ++ a :: s2) = _
    rw [setK_at ha (fun b hb => hs b (by simp at hb ⊢; exact .inr hb)) hu.2]; rfl
theorem setK_new {k v : V} : ∀ {es : List (V × V)}, (∀ b ∈ es, sameS k b.1 = true) → (∀ b ∈ es, b.1 ≠ k) → setK k v es = es ++ [(k, v)]
  | [], _, _ => rfl
  | (c, w) :: l, hs, hn => by
    have hb := kbeq (hs (c, w) (by simp))
    have hne : ¬ k = c := fun e => hn (c, w) (by simp) e.symm
    show (match V.beq k c with | true => (c, v) :: l | false => (c, w) :: setK k v l) = _
    rw [hb, decide_eq_false hne]
    show (c, w) :: setK k v l = _
    rw [setK_new (fun b hb => hs b (List.mem_cons_of_mem _ hb)) (fun b hb => hn b (List.mem_cons_of_mem _ hb))]; rfl
theorem Uniq.set {k v : V} : ∀ {s1 s2 : List (V × V)} {a : V × V}, a.1 = k → Uniq (s1 ++ a :: s2) → Uniq (s1 ++ (k, v) :: s2)
  | [], s2, a, ha, hu => ⟨fun b hb => by have := hu.1 b hb; rw [ha] at this; exact this, hu.2⟩
  | c :: s1, s2, a, ha, hu => by
    refine ⟨fun b hb => ?_, Uniq.set ha hu.2⟩
    rcases List.mem_append.1 hb with h | h
    · exact hu.1 b (List.mem_append.2 (.inl h))
    · cases h with
      | head => have := hu.1 a (by simp); rw [ha] at this; exact this
      | tail _ h => have h' : b ∈ s2 := h; exact hu.1 b (by simp [h'])
theorem Uniq.snoc {k v : V} : ∀ {es : List (V × V)}, Uniq es → (∀ b ∈ es, b.1 ≠ k ∧ sameS b.1 k = true) → Uniq (es ++ [(k, v)])
  | [], _, _ => ⟨by simp, trivial⟩
  | c :: l, hu, hn => by
    refine ⟨fun b hb => ?_, Uniq.snoc hu.2 (fun b hb => hn b (List.mem_cons_of_mem _ hb))⟩
    rcases List.mem_append.1 hb with h | h
    · exact hu.1 b h
    · simp at h; subst h; exact hn c List.mem_cons_self
theorem findNow_ix {kd : TypeDesc} {k : V} {kv : Value} (hk : keyT k kd = true) (h1 : R ρ k kv) {es : List (V × V)} (hs : ∀ a ∈ es, sameS k a.1 = true) :
    ∀ (L : List MapEntry) (n : Nat), (∀ e ∈ L, ∃ a ∈ es, keyR ρ a e) →
      (∃ L1 e L2, L = L1 ++ e :: L2 ∧ R ρ k e.key ∧ Instr.findNow kd kv L n = some (some (n + L1.length, e.val))) ∨ ((∀ e ∈ L, ∀ a ∈ es, keyR ρ a e → a.1 ≠ k) ∧ Instr.findNow kd kv L n = some none)
  | [], n, _ => .inr ⟨fun e he => absurd he (List.not_mem_nil), rfl⟩
  | e :: L, n, h => by
    obtain ⟨a, ha, ok, hk1, hv1⟩ : ∃ a ∈ es, keyR ρ a e := h e List.mem_cons_self
    have hsn := sameNow_R hk (hs a ha) h1 hk1
    by_cases hka : k = a.1
    · rw [decide_eq_true hka] at hsn
      exact .inl ⟨[], e, L, rfl, by rw [hka]; exact hk1, by simp [Instr.findNow, hsn]⟩
    · rw [decide_eq_false hka] at hsn
      have e1 : Instr.findNow kd kv (e :: L) n = Instr.findNow kd kv L (n + 1) := by simp [Instr.findNow, hsn]
      rw [e1]
      rcases findNow_ix hk h1 hs L (n + 1) (fun e he => h e (List.mem_cons_of_mem _ he)) with ⟨L1, e', L2, rfl, g1, g2⟩ | ⟨g1, g2⟩
      · refine .inl ⟨e :: L1, e', L2, rfl, g1, ?_⟩
        rw [g2]; simp; omega
      · refine .inr ⟨fun e' he b hb hbe hbk => ?_, g2⟩
        cases he with
        | tail _ he => exact g1 e' he b hb hbe hbk
        | head =>
          have := sameNow_R hk (hs b hb) h1 hbe.2.1
          rw [hsn, hbk] at this
          simp at this
theorem keyT_ok {k : V} {kd : TypeDesc} (h : keyT k kd = true) : okKey k = true := by
  cases k <;> cases kd <;> simp only [keyT] at h <;> first | rfl | cases h
theorem sameBits_key {k : V} (hk : okKey k = true) {x y : Value} (h1 : R ρ k x) (h2 : R ρ k y) (n : Nat) : Instr.sameBits n x y = true := by
  cases k <;> simp only [okKey] at hk <;> try cases hk
  · have h1 : x = .int _ _ := h1
    have h2 : y = .int _ _ := h2
    subst h1; subst h2
    cases n <;> simp [Instr.sameBits]
  · obtain ⟨s, rfl, h1⟩ := h1
    obtain ⟨t, rfl, h2⟩ := h2
    have e : s = t := by
      have := bytes_inj.1 (h1.trans h2.symm)
      rw [ByteArray.toList_eq, ByteArray.toList_eq] at this
      have := Array.toList_inj.1 this
      cases s; cases t; simp only at this; rw [this]
    subst e
    have ee : (s == s) = true := by
      have : (s == s) = (s.data == s.data) := by cases s; rfl
      rw [this]; simp
    cases n <;> simp [Instr.sameBits, ee]
/-- an object takes another's place in its block -/
theorem set_obj {h : H} {w w' : World} (hI : Inv ρ h w) {i : Pth} {o o' : AObj} {loc : Loc} (hg : h.t.get i = some o) (hl : ρ i = some loc) (hw : ∀ k, k ≠ loc.blk → w'.heap[k]? = w.heap[k]?) (hsz : w'.heap.size = w.heap.size)
    (hos : w'.os = w.os) (htp : w'.tape = w.tape) (hou : w'.output = w.output) (ho : ObjR ρ o' loc w') : Inv ρ ⟨put h.t i (some o'), h.n⟩ w' ∧ Fr ρ h w ρ ⟨put h.t i (some o'), h.n⟩ w' := by
  have key : ∀ j oj, (put h.t i (some o')).get j = some oj → ∃ oj', h.t.get j = some oj' := by
    intro j oj hj
    rw [get_put'] at hj
    split at hj
    · rename_i e; subst e; exact ⟨_, hg⟩
    · exact ⟨_, hj⟩
  refine ⟨⟨hI.fresh, fun j oj hj => ?_, fun a b oa ob la lb ha hb hab hla hlb => ?_⟩, ⟨Ext.refl _, fun _ _ => rfl, Nat.le_refl _, Nat.le_of_eq hsz.symm, hos, htp, hou, fun b _ hne => hw b (fun e => hne i _ loc hg hl e.symm), fun j oj lj hj hlj => ?_⟩⟩
  · rw [get_put'] at hj
    split at hj
    · rename_i e; subst e; cases hj; exact ⟨loc, hl, ho⟩
    · rename_i e
      obtain ⟨lj, h1, h2⟩ := hI.obj j oj hj
      exact ⟨lj, h1, h2.mono (Ext.refl _) (hw _ (hI.inj j i oj o lj loc hj hg (fun e' => e e'.symm) h1 hl))⟩
  · obtain ⟨oa', ha'⟩ := key a oa ha
    obtain ⟨ob', hb'⟩ := key b ob hb
    exact hI.inj a b oa' ob' la lb ha' hb' hab hla hlb
  · obtain ⟨oj', hj'⟩ := key j oj hj
    exact .inr ⟨j, oj', lj, hj', hlj, rfl⟩
theorem hasK_true {k : V} : ∀ {es : List (V × V)}, (∀ b ∈ es, sameS k b.1 = true) → (∃ b ∈ es, b.1 = k) → hasK k es = true
  | [], _, h => by obtain ⟨_, h, _⟩ := h; cases h
  | (c, w) :: l, hs, h => by
    show or (V.beq k c) (hasK k l) = true
    rw [kbeq (hs (c, w) (by simp))]
    obtain ⟨b, hb, e⟩ := h
    cases hb with
    | head => have e : c = k := e; subst e; simp
    | tail _ hb => rw [hasK_true (fun b hb => hs b (List.mem_cons_of_mem _ hb)) ⟨b, hb, e⟩]; simp
theorem hasK_false {k : V} : ∀ {es : List (V × V)}, (∀ b ∈ es, sameS k b.1 = true) → (∀ b ∈ es, b.1 ≠ k) → hasK k es = false
  | [], _, _ => rfl
  | (c, w) :: l, hs, h => by
    show or (V.beq k c) (hasK k l) = false
    rw [kbeq (hs (c, w) (by simp)), hasK_false (fun b hb => hs b (List.mem_cons_of_mem _ hb)) (fun b hb => h b (List.mem_cons_of_mem _ hb))]
    have : ¬ k = c := fun e => h (c, w) (by simp) e.symm
    simp [this]
theorem mapUp_ok {h h' : H} {w : World} (K : EnvOK P E) (hI : Inv ρ h w) {t kt et : TypeId} {ti ki : TyI} (ht : E.tt t = some ti) (hd : ti.ud = .map kt et) (hkt : E.tt kt = some ki)
    {m k v : Option V} {mv kv vv : Value} (hm : ∀ x, m = some x → R ρ x mv) (hk : ∀ x, k = some x → R ρ x kv) (hv : ∀ x, v = some x → R ρ x vv) {r : V} {D D' : List AD} (ha : mapUp ki.ud D h k v m = .ok r D' h') :
    D' = D ∧ r = .tu [] ∧ ∃ w', (Instr.mapUpdate t mv kv vv).run P w = .ok () w' ∧ Inv ρ h' w' ∧ Fr ρ h w ρ h' w' := by
  cases m with
  | none => cases ha
  | some mm =>
    cases mm <;> simp only [mapUp] at ha <;> try cases ha
    rename_i i
    cases k with
    | none => cases ha
    | some k =>
      cases v with
      | none => cases ha
      | some v =>
        have ha : mapSet i ki.ud k v D h (mapOf (h.t.get i)) = .ok r D' h' := ha
        cases hmo : mapOf (h.t.get i) with
        | none => rw [hmo] at ha; cases ha
        | some es =>
          rw [hmo] at ha
          have ha : mapSet2 i D h (setOO k v (h.t.get i)) (and (keyT k ki.ud) (sortOK k es)) = .ok r D' h' := ha
          cases hc : and (keyT k ki.ud) (sortOK k es) with
          | false => rw [hc] at ha; cases ha
          | true =>
            rw [hc] at ha; cases ha
            simp only [Bool.and_eq_true] at hc
            obtain ⟨hc1, hc2⟩ := hc
            rcases mapOf_cases hmo with hgi | ⟨bs, ck, hgi⟩
            · rw [hgi]
              obtain ⟨loc, g1, g2⟩ := hm _ rfl
              have hkR := hk _ rfl
              have hvR := hv _ rfl
              obtain ⟨l', g3, ens, clock, mm, g4, g5, g6, g7⟩ := hI.obj i _ hgi
              rw [g1] at g3; cases g3
              have hs := sortOK_all hc2 g7
              have hg : (getObj loc.blk).run P w = .ok (.map ens clock) w := MapKept.run_getObj_map g4
              have hck := checkKey_run (v := kv) (b := false) (n := 9999) (w := w) K hkt hc1
              simp only [Nat.reduceAdd] at hck
              have hut := run_und K ht w
              have hbound : loc.blk < w.heap.size := (Array.getElem?_eq_some_iff.1 g4).1
              have hset : ∀ o, (setObj loc.blk o).run P w = .ok () { w with heap := w.heap.setIfInBounds loc.blk o } := fun o => MapKept.run_setObj_map o g4
              have fin : ∀ ens' clock' m', ens'.toList.Perm m' → MapR ρ (setK k v es) m' → Uniq (setK k v es) →
                  Inv ρ ⟨put h.t i (some (.mp (setK k v es))), h.n⟩ { w with heap := w.heap.setIfInBounds loc.blk (.map ens' clock') } ∧
                  Fr ρ h w ρ ⟨put h.t i (some (.mp (setK k v es))), h.n⟩ { w with heap := w.heap.setIfInBounds loc.blk (.map ens' clock') } := by
                intro ens' clock' m' f1 f2 f3
                refine set_obj hI hgi g1 (fun q hq => ?_) (by simp) rfl rfl rfl ⟨ens', clock', m', ?_, f1, f2, f3⟩
                · show (w.heap.setIfInBounds _ _)[q]? = _
                  rw [Array.getElem?_setIfInBounds, if_neg (fun e => hq e.symm)]
                · show (w.heap.setIfInBounds _ _)[loc.blk]? = _
                  rw [Array.getElem?_setIfInBounds]; simp [hbound]
              rcases findNow_ix hc1 hkR hs ens.toList 0 (fun e he => g6.mem (g5.mem_iff.1 he)) with ⟨L1, e, L2, f1, f2, f3⟩ | ⟨f1, f2⟩
              · have hfk : (Instr.findKey kt kv ens.toList).run P w = .ok (some (L1.length, e.val)) w := by simp [Instr.findKey, run_und K hkt, f3]
                have hek : (ens[L1.length]?).map (·.key) = some e.key := by
                  rw [← Array.getElem?_toList, f1]; simp
                have hsb : Instr.sameBits 10000 e.key kv = true := sameBits_key (keyT_ok hc1) f2 hkR 10000
                have hem : e ∈ mm := g5.mem_iff.1 (by rw [f1]; simp)
                obtain ⟨m1, m2, rfl⟩ := List.append_of_mem hem
                obtain ⟨s1, a, s2, rfl, _, q1, q2, q3⟩ := g6.split
                have hak : a.1 = k := (R_key (hs a (by simp)) f2 q2.2.1).symm
                have hset2 := setK_at (v := v) hak hs g7
                refine ⟨rfl, rfl, _, ?_, fin (ens.modify L1.length fun e => { e with key := kv, val := vv }) clock (m1 ++ { e with key := kv, val := vv } :: m2) ?_ ?_ ?_⟩
                · rw [g2]
                  simp [Instr.mapUpdate, hut, hd, hg, hck, hfk, hek, Instr.keyThatStays, hsb, hset]
                · have e1 : (ens.modify L1.length fun e => { e with key := kv, val := vv }).toList = L1 ++ { e with key := kv, val := vv } :: L2 := by
                    rw [Array.toList_modify, f1]
                    rw [List.modify_eq_take_cons_drop (by simp)]
                    simp
                  rw [e1]
                  rw [f1] at g5
                  have p1 : (e :: (L1 ++ L2)).Perm (e :: (m1 ++ m2)) := (List.perm_middle.symm.trans g5).trans List.perm_middle
                  exact (List.perm_middle.trans (List.Perm.cons _ (List.Perm.cons_inv p1))).trans List.perm_middle.symm
                · rw [hset2]
                  exact q1.join ⟨_, _, rfl, ⟨keyT_ok hc1, hkR, hvR⟩, q3⟩
                · rw [hset2]; exact Uniq.set hak g7
              · have hfk : (Instr.findKey kt kv ens.toList).run P w = .ok none w := by simp [Instr.findKey, run_und K hkt, f2]
                have hne : ∀ a ∈ es, a.1 ≠ k := fun a ha => by
                  obtain ⟨e, he, hae⟩ := g6.mem' ha
                  exact f1 e (g5.mem_iff.2 he) a ha hae
                have hset2 := setK_new (v := v) hs hne
                refine ⟨rfl, rfl, _, ?_, fin (ens.push { key := kv, val := vv, born := clock }) (clock + 1) (mm ++ [{ key := kv, val := vv, born := clock }]) ?_ ?_ ?_⟩
                · rw [g2]
                  simp [Instr.mapUpdate, hut, hd, hg, hck, hfk, hset]
                · rw [Array.toList_push]; exact g5.append_right _
                · rw [hset2]
                  exact g6.join ⟨_, _, rfl, ⟨keyT_ok hc1, hkR, hvR⟩, rfl⟩
                · rw [hset2]; exact Uniq.snoc g7 (fun b hb => ⟨hne b hb, sameS_comm (hs b hb)⟩)
            · rw [hgi]
              obtain ⟨loc, g1, g2⟩ := hm _ rfl
              have hkR := hk _ rfl
              have hvR := hv _ rfl
              obtain ⟨l', g3, ens, g4, g6, g8, g7⟩ := hI.obj i _ hgi
              rw [g1] at g3; cases g3
              have hs := sortOK_all hc2 g7
              have hg : (getObj loc.blk).run P w = .ok (.map ens ck) w := MapKept.run_getObj_map g4
              have hck := checkKey_run (v := kv) (b := false) (n := 9999) (w := w) K hkt hc1
              simp only [Nat.reduceAdd] at hck
              have hut := run_und K ht w
              have hbound : loc.blk < w.heap.size := (Array.getElem?_eq_some_iff.1 g4).1
              have hset : ∀ o, (setObj loc.blk o).run P w = .ok () { w with heap := w.heap.setIfInBounds loc.blk o } := fun o => MapKept.run_setObj_map o g4
              have fin : ∀ (ens' : Array MapEntry) clock' bs', ens'.toList.map (·.born) = bs' → MapR ρ (setK k v es) ens'.toList → Uniq (setK k v es) →
                  Inv ρ ⟨put h.t i (some (.mx (setK k v es) bs' clock')), h.n⟩ { w with heap := w.heap.setIfInBounds loc.blk (.map ens' clock') } ∧
                  Fr ρ h w ρ ⟨put h.t i (some (.mx (setK k v es) bs' clock')), h.n⟩ { w with heap := w.heap.setIfInBounds loc.blk (.map ens' clock') } := by
                intro ens' clock' bs' f1 f2 f3
                refine set_obj hI hgi g1 (fun q hq => ?_) (by simp) rfl rfl rfl ⟨ens', ?_, f2, f1, f3⟩
                · show (w.heap.setIfInBounds _ _)[q]? = _
                  rw [Array.getElem?_setIfInBounds, if_neg (fun e => hq e.symm)]
                · show (w.heap.setIfInBounds _ _)[loc.blk]? = _
                  rw [Array.getElem?_setIfInBounds]; simp [hbound]
              rcases findNow_ix hc1 hkR hs ens.toList 0 (fun e he => g6.mem he) with ⟨L1, e, L2, f1, f2, f3⟩ | ⟨f1, f2⟩
              · have hfk : (Instr.findKey kt kv ens.toList).run P w = .ok (some (L1.length, e.val)) w := by simp [Instr.findKey, run_und K hkt, f3]
                have hek : (ens[L1.length]?).map (·.key) = some e.key := by
                  rw [← Array.getElem?_toList, f1]; simp
                have hsb : Instr.sameBits 10000 e.key kv = true := sameBits_key (keyT_ok hc1) f2 hkR 10000
                rw [f1] at g6
                obtain ⟨s1, a, s2, rfl, _, q1, q2, q3⟩ := g6.split
                have hak : a.1 = k := (R_key (hs a (by simp)) f2 q2.2.1).symm
                have hhk := hasK_true hs ⟨a, by simp, hak⟩
                have hset2 := setK_at (v := v) hak hs g7
                have e1 : (ens.modify L1.length fun e => { e with key := kv, val := vv }).toList = L1 ++ { e with key := kv, val := vv } :: L2 := by
                  rw [Array.toList_modify, f1]
                  rw [List.modify_eq_take_cons_drop (by simp)]
                  simp
                have hset3 : setOO k v (some (.mx (s1 ++ a :: s2) bs ck)) = some (.mx (setK k v (s1 ++ a :: s2)) bs ck) := by
                  show some (mxSet k v _ bs ck (hasK k (s1 ++ a :: s2))) = _
                  rw [hhk]; rfl
                rw [hset3]
                refine ⟨rfl, rfl, _, ?_, fin (ens.modify L1.length fun e => { e with key := kv, val := vv }) ck bs ?_ ?_ ?_⟩
                · rw [g2]
                  simp [Instr.mapUpdate, hut, hd, hg, hck, hfk, hek, Instr.keyThatStays, hsb, hset]
                · rw [e1, ← g8, f1]; simp
                · rw [hset2, e1]
                  exact q1.join ⟨_, _, rfl, ⟨keyT_ok hc1, hkR, hvR⟩, q3⟩
                · rw [hset2]; exact Uniq.set hak g7
              · have hfk : (Instr.findKey kt kv ens.toList).run P w = .ok none w := by simp [Instr.findKey, run_und K hkt, f2]
                have hne : ∀ a ∈ es, a.1 ≠ k := fun a ha => by
                  obtain ⟨e, he, hae⟩ := g6.mem' ha
                  exact f1 e he a ha hae
                have hset2 := setK_new (v := v) hs hne
                have hset3 : setOO k v (some (.mx es bs ck)) = some (.mx (setK k v es) (app bs [ck]) (Nat.succ ck)) := by
                  show some (mxSet k v _ bs ck (hasK k es)) = _
                  rw [hasK_false hs hne]; rfl
                rw [hset3]
                refine ⟨rfl, rfl, _, ?_, fin (ens.push { key := kv, val := vv, born := ck }) (ck + 1) (app bs [ck]) ?_ ?_ ?_⟩
                · rw [g2]
                  simp [Instr.mapUpdate, hut, hd, hg, hck, hfk, hset]
                · rw [Array.toList_push, app_eq, ← g8]; simp
                · rw [hset2, Array.toList_push]
                  exact g6.join ⟨_, _, rfl, ⟨keyT_ok hc1, hkR, hvR⟩, rfl⟩
                · rw [hset2]; exact Uniq.snoc g7 (fun b hb => ⟨hne b hb, sameS_comm (hs b hb)⟩)
end
end Go.Ev
namespace Go.Ev
open Go
noncomputable section
variable {P : Program} {E : Env}
section
variable {b : Frame} {a : Act} {k : List Item} {cs : List Frame} {w : World} {ops : Array Oper} {i : Nat} {rest : List Nat} {o : Oper} {fr : FrI} {r : Rc} {ρ0 ρ : Rho} {h0 h h' : H} {w0 : World} {T T' : Tr V} {D D' : List AD} {v : V}

/-- an operation's step, done -/
def Done (P : Program) (fr : FrI) (b : Frame) (cs : List Frame) (k : List Item) (ops : Array Oper) (i : Nat) (rest : List Nat) (ρ0 : Rho) (h0 : H) (w0 : World) (a : Act) (w : World) (T : Tr V) (D : List AD) (h : H) : Prop :=
  ∃ ρ' a' w', St ρ0 h0 w0 fr.nt ρ' T D h a' w' ∧ Steps P (lone (b.atR a (.inRegion ops (i :: rest) :: k)) cs w) (lone (b.atR a' (.inRegion ops rest :: k)) cs w')

/-- the same, with what it did to the temporaries -/
def Done2 (P : Program) (b : Frame) (cs : List Frame) (k : List Item) (ops : Array Oper) (i : Nat) (rest : List Nat) (a : Act) (w : World) (o : Oper) (v : V) (ρ : Rho) (h : H) (D : List AD) (h' : H) : Prop :=
  ∃ ρ' a' w' x, a'.tmps = (a.put o.dst x).tmps ∧ R ρ' v x ∧ DL ρ' D a'.defers ∧ Inv ρ' h' w' ∧ Fr ρ h w ρ' h' w' ∧ Steps P (lone (b.atR a (.inRegion ops (i :: rest) :: k)) cs w) (lone (b.atR a' (.inRegion ops rest :: k)) cs w')
theorem Done2.done (s : St ρ0 h0 w0 fr.nt ρ T D h a w) (hd : okDst fr.nt o.dst = true) (hk : Done2 P b cs k ops i rest a w o v ρ h D' h') : Done P fr b cs k ops i rest ρ0 h0 w0 a w ((dB o.dst).put T v) D' h' := by
  obtain ⟨ρ', a', w', x, h1, h2, h3, h4, h5, h6⟩ := hk
  exact ⟨ρ', a', w', ⟨by rw [h1]; exact (s.tr.mono h5.ext).put s.nt hd h2, by rw [h1, put_size]; exact s.nt, h3, h4, s.fr.trans h5⟩, h6⟩

theorem done_of (s : St ρ0 h0 w0 fr.nt ρ T D h a w) (hd : okDst fr.nt o.dst = true) {x : Value} {w' : World} (hp : Post ρ h w v h' x w')
    (hs : Steps P (lone (b.atR a (.inRegion ops (i :: rest) :: k)) cs w) (lone (b.atR (a.put o.dst x) (.inRegion ops rest :: k)) cs w')) :
    Done2 P b cs k ops i rest a w o v ρ h D h' := by
  obtain ⟨ρ', h1, h2, h3⟩ := hp
  exact ⟨ρ', _, w', x, rfl, h1, by rw [put_defers]; exact s.dl.mono h3.ext, h2, h3, hs⟩
theorem done_value (s : St ρ0 h0 w0 fr.nt ρ T D h a w) (ho : ops[i]? = some o) (hw : Region.wanted o (yielded ops a.tmps) = true) (hnd : ∀ c, o.op ≠ .defer c) (hd : okDst fr.nt o.dst = true) {x : Value} {w' : World}
    (hr : (execOp a.eval o).run P w = .ok (.value x) w') (hp : Post ρ h w v h' x w') : Done2 P b cs k ops i rest a w o v ρ h D h' :=
  done_of s hd hp (go_value ho hw (by rw [Oper.semAt_eq _ _ _ hnd]; exact hr))
theorem done_call (s : St ρ0 h0 w0 fr.nt ρ T D h a w) (ho : ops[i]? = some o) (hw : Region.wanted o (yielded ops a.tmps) = true) (hnd : ∀ c, o.op ≠ .defer c) (hd : okDst fr.nt o.dst = true) {f : FuncId} {args : Array Value}
    (hr : (execOp a.eval o).run P w = (callFunc f args).run P w) (hg : CallGo P f args w (Post ρ h w v h')) : Done2 P b cs k ops i rest a w o v ρ h D h' := by
  rcases hg with ⟨x, w', h1, h2⟩ | ⟨h1, h2⟩
  · exact done_value s ho hw hnd hd (hr.trans h1) h2
  · obtain ⟨x, w', h3, h4⟩ := h2 (b.atR a (.inRegion ops (i :: rest) :: k) :: cs)
    exact done_of s hd h4 (go_enter ho hw (by rw [Oper.semAt_eq _ _ _ hnd]; exact hr.trans h1) h3)
theorem rc_call (RC : RcOK P r) (hI : Inv ρ h w) {f : Nat} {vs : List V} {args : Array Value} (hv : RL ρ vs args.toList) (hc : r.call false f vs h = .ok v h') : CallGo P f args w (Post ρ h w v h') := by
  obtain ⟨h1, h2⟩ := RC.call false f vs h v h' hc ρ w args hI hv
  exact .inr ⟨h1 w, fun cs => h2 cs (by simp)⟩
theorem vD_some {x : VR} (hk : vD D x = .ok v D' h') : D' = D ∧ x = .ok v h' := by
  cases x with
  | no => cases hk
  | ok u g => cases hk; exact ⟨rfl, rfl⟩
theorem callP_ok (PO : PrimOK P E) (RC : RcOK P r) (hI : Inv ρ h w) {f : Nat} {vs : List V} {args : Array Value} (hv : RL ρ vs args.toList) (hk : callP r f vs D h (E.prim f) = .ok v D' h') : D' = D ∧ CallGo P f args w (Post ρ h w v h') := by
  cases hp : E.prim f with
  | none => rw [hp] at hk; obtain ⟨h1, h2⟩ := vD_some hk; exact ⟨h1, rc_call RC hI hv h2⟩
  | some n => rw [hp] at hk; obtain ⟨h1, h2⟩ := vD_some hk; exact ⟨h1, PO f n vs h v h' hp h2 ρ w args hI hv⟩

theorem exec_value {c : Call} {f : Operand} (hop : o.op = .call c) (hc : c.callee = .value f) {fn : Fn} {xs ys : Array Value} (hf : a.eval f = .func fn xs ys) :
    (execOp a.eval o).run P w = (invoke (.fn fn ys) (xs ++ c.args.map a.eval)).run P w := by
  simp [execOp, hop, resolve, hc, Deferred.ofValue, hf]
theorem lB_args {c : Call} {vs : List V} (hl : (lB c.args.toList).f T = some vs) (hT : TR ρ T a.tmps) : RL ρ vs (c.args.map a.eval).toList := by
  have := lB_R hl hT
  rw [evO_eq] at this
  simpa using this
theorem method_run (K : EnvOK P E) {t f : Nat} {name : String} (hm : methodOf name (E.tt t) = some f) (n : Nat) (x : Value) (w : World) : (method (n + 1) t x name).run P w = .ok (f, x) w := by
  cases ht : E.tt t with
  | none => rw [ht] at hm; cases hm
  | some ti =>
    rw [ht] at hm
    simp only [methodOf, findM_eq] at hm
    cases hf : ti.info.methods.toList.find? (·.name == name) with
    | none => rw [hf] at hm; cases hm
    | some m =>
      rw [hf] at hm
      have hf' : ti.info.methods.find? (·.name == name) = some m := by rw [← Array.find?_toList]; exact hf
      obtain ⟨mn, msig, mpath, mfunc⟩ := m
      simp only [mFn] at hm
      cases hp : mpath.toList with
      | cons a l => rw [hp] at hm; cases hm
      | nil =>
        rw [hp] at hm
        have hp' : mpath = #[] := by rw [← Array.toList_inj, hp]
        cases mfunc with
        | none => cases hm
        | some fq =>
          obtain ⟨g, q⟩ := fq
          have hm : ifN g (bbeq q (isPtr ti.ud)) = some f := hm
          cases hb : bbeq q (isPtr ti.ud) with
          | false => rw [hb] at hm; cases hm
          | true =>
            rw [hb] at hm; cases hm
            have hq : q = isPtr ti.ud := by cases q <;> cases hpp : isPtr ti.ud <;> rw [hpp] at hb <;> first | rfl | cases hb
            subst hq
            have hu := run_und K ht w
            simp only [method, Sem.run_bind, run_info K ht, Result.andThen_ok, hf', hp, follow, Sem.run_pure, receiverAt, hu]
            cases hd : ti.ud <;> simp [isPtr, Place.get]
theorem invoke_method (K : EnvOK P E) {name : String} {t f : Nat} (hm : methodOf name (E.tt t) = some f) (y : Value) (args ys : Array Value) (w : World) :
    (invoke (.fn (.method name) ys) (#[Value.iface t y] ++ args)).run P w = (callFunc f (#[y] ++ args)).run P w := by
  have hmr := method_run K hm (P.types.size + Made.depth - 1) y w
  have he : P.types.size + Made.depth - 1 + 1 = P.types.size + Made.depth := by
    have : 0 < Made.depth := by decide
    omega
  rw [he] at hmr
  have hx : (#[Value.iface t y] ++ args).extract 1 (#[Value.iface t y] ++ args).size = args := by
    rw [← Array.toList_inj]; simp [List.take_of_length_le]
  have h0' : (#[Value.iface t y] ++ args)[0]? = some (Value.iface t y) := by
    rw [Array.getElem?_append_left (by simp)]; rfl
  simp only [invoke, Sem.run_bind, Result.andThen_ok, h0', hx, callMethod, run_program, hmr]
theorem callV_ok (K : EnvOK P E) (PO : PrimOK P E) (RC : RcOK P r) (s : St ρ0 h0 w0 fr.nt ρ T D h a w) (ho : ops[i]? = some o) (hw : Region.wanted o (yielded ops a.tmps) = true) (hd : okDst fr.nt o.dst = true)
    {c : Call} {f : Operand} (hop : o.op = .call c) (hc : c.callee = .value f) (hk : callV E r D h ((aB f).f T) ((lB c.args.toList).f T) = .ok v D' h') :
    Done2 P b cs k ops i rest a w o v ρ h D' h' := by
  have hnd : ∀ c, o.op ≠ .defer c := by rw [hop]; intro c h; cases h
  cases hfv : (aB f).f T with
  | none => rw [hfv] at hk; cases hk
  | some fv =>
    have hfR := aB_R hfv s.tr
    rw [evO_eq] at hfR
    rw [hfv] at hk
    cases hl : (lB c.args.toList).f T with
    | none => rw [hl] at hk; cases fv <;> cases hk
    | some vs =>
      have hvs := lB_args (a := a) hl s.tr
      rw [hl] at hk
      cases fv <;> try cases hk
      · rename_i g af cp
        obtain ⟨xs, ys, h1, h2, h3⟩ := hfR
        have hk : callP r g (app af (app vs cp)) D h (E.prim g) = .ok v D' h' := hk
        have hargs : RL ρ (app af (app vs cp)) (xs ++ c.args.map a.eval ++ ys).toList := by
          rw [app_eq, app_eq]
          simp only [Array.toList_append, List.append_assoc]
          exact h2.append (hvs.append h3)
        obtain ⟨rfl, hg⟩ := callP_ok PO RC s.inv hargs hk
        exact done_call s ho hw hnd hd (exec_value hop hc h1) hg
      · rename_i l
        obtain ⟨loc, h1, h2⟩ := hfR
        obtain ⟨rfl, hr⟩ := vD_some hk
        obtain ⟨g, tmps, asg, body, h3, h4⟩ := RC.round l vs h v h' hr ρ w (c.args.map a.eval) loc s.inv h1 hvs
        obtain ⟨x, w', h5, h6⟩ := h4 (b.atR a (.inRegion ops (i :: rest) :: k)) cs
        refine done_of s hd h6 (go_round ho hw (w' := w) ?_ h5)
        rw [Oper.semAt_eq _ _ _ hnd, exec_value hop hc h2]
        simpa [invoke] using h3
      · rename_i n t u
        obtain ⟨y, ys, h1, h2⟩ := hfR
        have hk : invM r u vs D h (methodOf n (E.tt t)) = .ok v D' h' := hk
        cases hm : methodOf n (E.tt t) with
        | none => rw [hm] at hk; cases hk
        | some f =>
          rw [hm] at hk
          obtain ⟨rfl, hcall⟩ := vD_some hk
          have hargs : RL ρ (u :: vs) (#[y] ++ c.args.map a.eval).toList := by
            simp only [Array.toList_append]
            exact ⟨_, _, rfl, h2, hvs⟩
          refine done_call s ho hw hnd hd ?_ (rc_call RC s.inv hargs hcall)
          rw [exec_value hop hc h1, invoke_method K hm]
theorem invV_ok (K : EnvOK P E) (RC : RcOK P r) (s : St ρ0 h0 w0 fr.nt ρ T D h a w) (ho : ops[i]? = some o) (hw : Region.wanted o (yielded ops a.tmps) = true) (hd : okDst fr.nt o.dst = true)
    {c : Call} {x : Operand} {name : String} (hop : o.op = .call c) (hc : c.callee = .invoke x name) (hk : invV E r name D h ((aB x).f T) ((lB c.args.toList).f T) = .ok v D' h') :
    Done2 P b cs k ops i rest a w o v ρ h D' h' := by
  have hnd : ∀ c, o.op ≠ .defer c := by rw [hop]; intro c h; cases h
  cases hfv : (aB x).f T with
  | none => rw [hfv] at hk; cases hk
  | some fv =>
    have hfR := aB_R hfv s.tr
    rw [evO_eq] at hfR
    rw [hfv] at hk
    cases hl : (lB c.args.toList).f T with
    | none => rw [hl] at hk; cases fv <;> cases hk
    | some vs =>
      have hvs := lB_args (a := a) hl s.tr
      rw [hl] at hk
      cases fv <;> try cases hk
      rename_i t u
      obtain ⟨y, h1, h2⟩ := hfR
      have hk : invM r u vs D h (methodOf name (E.tt t)) = .ok v D' h' := hk
      cases hm : methodOf name (E.tt t) with
      | none => rw [hm] at hk; cases hk
      | some f =>
        rw [hm] at hk
        obtain ⟨rfl, hcall⟩ := vD_some hk
        have hargs : RL ρ (u :: vs) (#[y] ++ c.args.map a.eval).toList := by
          simp only [Array.toList_append]
          exact ⟨_, _, rfl, h2, hvs⟩
        refine done_call s ho hw hnd hd ?_ (rc_call RC s.inv hargs hcall)
        have hmr := method_run K hm (P.types.size + Made.depth - 1) y w
        have he : P.types.size + Made.depth - 1 + 1 = P.types.size + Made.depth := by
          have : 0 < Made.depth := by decide
          omega
        rw [he] at hmr
        have hx : (#[a.eval x] ++ c.args.map a.eval).extract 1 (#[a.eval x] ++ c.args.map a.eval).size = c.args.map a.eval := by
          rw [← Array.toList_inj]; simp [List.take_of_length_le]
        have h0' : (#[a.eval x] ++ c.args.map a.eval)[0]? = some (a.eval x) := by
          rw [Array.getElem?_append_left (by simp)]; rfl
        rw [h1] at hx h0'
        simp only [execOp, hop, resolve, hc, Sem.run_bind, Sem.run_pure, Result.andThen_ok, invoke, h1, h0', hx, callMethod, run_program, hmr]

theorem two_args {c : Call} {x y : V} (hvs : RL ρ [x, y] (c.args.map a.eval).toList) : ∃ p q, c.args.map a.eval = #[p, q] ∧ R ρ x p ∧ R ρ y q := by
  obtain ⟨p, r1, h1, h2, q, r2, h3, h4, h5⟩ := hvs
  simp only [RL] at h5
  subst h5; subst h3
  exact ⟨p, q, by rw [← Array.toList_inj, h1], h2, h4⟩
theorem one_arg {c : Call} {x : V} (hvs : RL ρ [x] (c.args.map a.eval).toList) : ∃ p, c.args.map a.eval = #[p] ∧ R ρ x p := by
  obtain ⟨p, r1, h1, h2, h3⟩ := hvs
  simp only [RL] at h3
  subst h3
  exact ⟨p, by rw [← Array.toList_inj, h1], h2⟩
theorem exec_builtin {c : Call} {bi : Builtin} (hop : o.op = .call c) (hc : c.callee = .builtin bi) : ∃ cst, (execOp a.eval o).run P w = (builtin bi c.argTypes o.type cst (c.args.map a.eval)).run P w :=
  ⟨_, by simp only [execOp, hop, resolve, hc, Sem.run_bind, Sem.run_pure, Result.andThen_ok, invoke]; rfl⟩
theorem exec_v {s : Sem Value} {x : Value} {w' : World} (h : s.run P w = .ok x w') : (do pure (Next.value (← s)) : Sem Next).run P w = .ok (.value x) w' := by simp [h]
theorem ts_head {ts : Array Nat} {t : Nat} {l : List Nat} (h : ts.toList = t :: l) : ts[0]? = some t := by rw [← Array.getElem?_toList, h]; rfl
theorem ap2_ok (K : EnvOK P E) (s : St ρ0 h0 w0 fr.nt ρ T D h a w) (ho : ops[i]? = some o) (hw : Region.wanted o (yielded ops a.tmps) = true) (hd : okDst fr.nt o.dst = true)
    {c : Call} (hop : o.op = .call c) (hc : c.callee = .builtin .append) {t : Nat} (hts : TsEl P c.argTypes t) (hk : (kAp2 E (lB c.args.toList) (E.tt t)).f r fr T D h = .ok v D' h') :
    Done2 P b cs k ops i rest a w o v ρ h D' h' := by
  have hnd : ∀ c, o.op ≠ .defer c := by rw [hop]; intro c h; cases h
  cases ht : E.tt t with
  | none => rw [ht] at hk; cases hk
  | some ti =>
    rw [ht] at hk
    cases hud : ti.ud <;> simp only [kAp2, hud] at hk <;> try cases hk
    rename_i e
    cases he : E.tt e with
    | none => rw [he] at hk; cases hk
    | some ei =>
      rw [he] at hk
      have hk : (kAp4 (lB c.args.toList) ei.size (and (Nat.blt ei.bytes 65536) (and (Nat.blt 0 ei.size) (zLen ei.size (zeroCells E e))))).f r fr T D h = .ok v D' h' := hk
      cases hcc : and (Nat.blt ei.bytes 65536) (and (Nat.blt 0 ei.size) (zLen ei.size (zeroCells E e))) with
      | false => rw [hcc] at hk; cases hk
      | true =>
        rw [hcc] at hk
        simp only [Bool.and_eq_true, blt_iff, decide_eq_true_eq] at hcc
        obtain ⟨c1, c2, c3⟩ := hcc
        cases hz : zeroCells E e with
        | none => rw [hz] at c3; cases c3
        | some z =>
          rw [hz] at c3
          have c3 : z.length = ei.size := by rw [← len_eq]; simpa [zLen] using c3
          have hk : ap2 ei.size D h ((lB c.args.toList).f T) = .ok v D' h' := hk
          cases hl : (lB c.args.toList).f T with
          | none => rw [hl] at hk; cases hk
          | some vs =>
            have hvs := lB_args (a := a) hl s.tr
            rw [hl] at hk
            cases vs with
            | nil => cases hk
            | cons x vs =>
              cases vs with
              | nil => cases hk
              | cons y vs =>
                cases vs with
                | cons _ _ => cases hk
                | nil =>
                  obtain ⟨p, q, h1, h2, h3⟩ := two_args hvs
                  obtain ⟨rfl, hk'⟩ := vD_some hk
                  obtain ⟨cst, hex⟩ := exec_builtin (P := P) (a := a) (w := w) hop hc
                  obtain ⟨y', w', h4, h5⟩ := apDo_ok (P := P) (ty := o.type) K s.inv hts ht hud he c1 c2 hz c3 h2 h3 hk'
                  refine done_value s ho hw hnd hd (x := y') (w' := w') ?_ h5
                  rw [hex, h1]
                  exact exec_v h4
theorem apZ2_ok (K : EnvOK P E) (s : St ρ0 h0 w0 fr.nt ρ T D h a w) (ho : ops[i]? = some o) (hw : Region.wanted o (yielded ops a.tmps) = true) (hd : okDst fr.nt o.dst = true)
    {c : Call} (hop : o.op = .call c) (hc : c.callee = .builtin .append) {t u : Nat} (hts : c.argTypes = #[t, u]) {ui : TyI} {kd : IntKind} (hu : E.tt u = some ui) (hkd : ui.ud = .int kd) (hk : (kApZ E (lB c.args.toList) (E.tt t)).f r fr T D h = .ok v D' h') :
    Done2 P b cs k ops i rest a w o v ρ h D' h' := by
  have hnd : ∀ c, o.op ≠ .defer c := by rw [hop]; intro c h; cases h
  cases ht : E.tt t with
  | none => rw [ht] at hk; cases hk
  | some ti =>
    rw [ht] at hk
    cases hud : ti.ud <;> simp only [kApZ, hud] at hk <;> try cases hk
    rename_i e
    cases he : E.tt e with
    | none => rw [he] at hk; cases hk
    | some ei =>
      rw [he] at hk
      have hk : (kApZ3 (lB c.args.toList) ei (zeroCells E e)).f r fr T D h = .ok v D' h' := hk
      cases hz : zeroCells E e with
      | none => rw [hz] at hk; cases hk
      | some z =>
        rw [hz] at hk
        have hk : (kApZ4 (lB c.args.toList) ei.size z (and (Nat.blt ei.bytes 65536) (and (Nat.blt 0 ei.size) (Nat.beq (len z) ei.size)))).f r fr T D h = .ok v D' h' := hk
        cases hcc : and (Nat.blt ei.bytes 65536) (and (Nat.blt 0 ei.size) (Nat.beq (len z) ei.size)) with
        | false => rw [hcc] at hk; cases hk
        | true =>
          rw [hcc] at hk
          simp only [Bool.and_eq_true, blt_iff, beq_iff', decide_eq_true_eq, len_eq] at hcc
          obtain ⟨c1, c2, c3⟩ := hcc
          have hk : apZ2 ei.size z D h ((lB c.args.toList).f T) = .ok v D' h' := hk
          cases hl : (lB c.args.toList).f T with
          | none => rw [hl] at hk; cases hk
          | some vs =>
            have hvs := lB_args (a := a) hl s.tr
            rw [hl] at hk
            unfold apZ2 at hk
            split at hk
            · rename_i sv n heq
              cases heq
              obtain ⟨p, q, h1, h2, h3⟩ := two_args hvs
              have h3 : q = .int .i64 (Int.ofNat n) := h3
              subst h3
              obtain ⟨rfl, hk'⟩ := vD_some hk
              have hn : n < 1000000 := by
                cases sv <;> simp only [evAppend] at hk' <;> try cases hk'
                · rename_i i' off ln cap ex sz
                  cases hq : and (Nat.beq sz ei.size) (Nat.blt (Nat.add ln n) 1000000) with
                  | false => rw [hq] at hk'; cases hk'
                  | true =>
                    simp only [Bool.and_eq_true, blt_iff, decide_eq_true_eq] at hq
                    have := hq.2
                    have : ln + n < 1000000 := this
                    omega
                · cases hq : Nat.blt n 1000000 with
                  | false => rw [hq] at hk'; cases n <;> cases hk'
                  | true => rw [blt_iff] at hq; simpa using hq
              obtain ⟨cst, hex⟩ := exec_builtin (P := P) (a := a) (w := w) hop hc
              obtain ⟨y', w', h4, h5⟩ := apZ_ok (P := P) (ty := o.type) K s.inv ht hud hu hkd he c1 c2 hz c3 h2 hn hk'
              refine done_value s ho hw hnd hd (x := y') (w' := w') ?_ h5
              rw [hex, h1, hts]
              exact exec_v h4
            · cases hk
theorem kAp_ok (K : EnvOK P E) (s : St ρ0 h0 w0 fr.nt ρ T D h a w) (ho : ops[i]? = some o) (hw : Region.wanted o (yielded ops a.tmps) = true) (hd : okDst fr.nt o.dst = true)
    {c : Call} (hop : o.op = .call c) (hc : c.callee = .builtin .append) (hk : (kAp E (lB c.args.toList) c.argTypes.toList).f r fr T D h = .ok v D' h') :
    Done2 P b cs k ops i rest a w o v ρ h D' h' := by
  cases hts : c.argTypes.toList with
  | nil => rw [hts] at hk; cases hk
  | cons t l =>
    rw [hts] at hk
    cases l with
    | nil => exact ap2_ok K s ho hw hd hop hc (.inl (by rw [← Array.toList_inj, hts])) hk
    | cons u l =>
      cases l with
      | cons _ _ => cases hk
      | nil =>
        have hk : (kApU E (lB c.args.toList) t (E.tt u)).f r fr T D h = .ok v D' h' := hk
        cases hu : E.tt u with
        | none => rw [hu] at hk; cases hk
        | some ui =>
          rw [hu] at hk
          have hk : (kApI (kAp2 E (lB c.args.toList) (E.tt t)) (kApZ E (lB c.args.toList) (E.tt t)) (isIntD ui.ud)).f r fr T D h = .ok v D' h' := hk
          cases hi : isIntD ui.ud with
          | true =>
            rw [hi] at hk
            obtain ⟨kd, hkd⟩ : ∃ kd, ui.ud = .int kd := by cases hx : ui.ud <;> rw [hx] at hi <;> first | exact ⟨_, rfl⟩ | cases hi
            exact apZ2_ok K s ho hw hd hop hc (by rw [← Array.toList_inj, hts]) hu hkd hk
          | false =>
            rw [hi] at hk
            refine ap2_ok K s ho hw hd hop hc (.inr ⟨u, ui.ud, by rw [← Array.toList_inj, hts], (K.info u ui hu).2, ?_⟩) hk
            intro kk e; rw [e] at hi; cases hi
theorem kCp_ok (K : EnvOK P E) (s : St ρ0 h0 w0 fr.nt ρ T D h a w) (ho : ops[i]? = some o) (hw : Region.wanted o (yielded ops a.tmps) = true) (hd : okDst fr.nt o.dst = true)
    {c : Call} (hop : o.op = .call c) (hc : c.callee = .builtin .copy) (hk : (kCp E (lB c.args.toList) c.argTypes.toList).f r fr T D h = .ok v D' h') :
    Done2 P b cs k ops i rest a w o v ρ h D' h' := by
  have hnd : ∀ c, o.op ≠ .defer c := by rw [hop]; intro c h; cases h
  cases hts : c.argTypes.toList with
  | nil => rw [hts] at hk; cases hk
  | cons t l =>
    rw [hts] at hk
    have hk : (kCp2 E (lB c.args.toList) (E.tt t)).f r fr T D h = .ok v D' h' := hk
    cases ht : E.tt t with
    | none => rw [ht] at hk; cases hk
    | some ti =>
      rw [ht] at hk
      cases hud : ti.ud <;> simp only [kCp2, hud] at hk <;> try cases hk
      rename_i e
      cases hs : szOf E e with
      | none => rw [hs] at hk; cases hk
      | some sz =>
        obtain ⟨ei, he, rfl⟩ := szOf_some hs
        rw [hs] at hk
        have hk : cp2 ei.size D h ((lB c.args.toList).f T) = .ok v D' h' := hk
        cases hl : (lB c.args.toList).f T with
        | none => rw [hl] at hk; cases hk
        | some vs =>
          have hvs := lB_args (a := a) hl s.tr
          rw [hl] at hk
          cases vs with
          | nil => cases hk
          | cons x vs =>
            cases vs with
            | nil => cases hk
            | cons y vs =>
              cases vs with
              | cons _ _ => cases hk
              | nil =>
                obtain ⟨p, q, h1, h2, h3⟩ := two_args hvs
                have hk : cpD ei.size y D h x = .ok v D' h' := hk
                obtain ⟨cst, hex⟩ := exec_builtin (P := P) (a := a) (w := w) hop hc
                obtain ⟨rfl, y', w', h4, h5⟩ := cpD_ok (P := P) (ty := o.type) K s.inv (ts_head hts) (hud ▸ (K.info t ti ht).2) he h2 h3 hk
                refine done_value s ho hw hnd hd (x := y') (w' := w') ?_ h5
                rw [hex, h1]
                exact exec_v h4
theorem kCl_ok (K : EnvOK P E) (s : St ρ0 h0 w0 fr.nt ρ T D h a w) (ho : ops[i]? = some o) (hw : Region.wanted o (yielded ops a.tmps) = true) (hd : okDst fr.nt o.dst = true)
    {c : Call} (hop : o.op = .call c) (hc : c.callee = .builtin .clear) (hk : (kCl E (lB c.args.toList) c.argTypes.toList).f r fr T D h = .ok v D' h') :
    Done2 P b cs k ops i rest a w o v ρ h D' h' := by
  have hnd : ∀ c, o.op ≠ .defer c := by rw [hop]; intro c h; cases h
  cases hts : c.argTypes.toList with
  | nil => rw [hts] at hk; cases hk
  | cons t l =>
    rw [hts] at hk
    have hk : (kCl2 E (lB c.args.toList) (E.tt t)).f r fr T D h = .ok v D' h' := hk
    cases ht : E.tt t with
    | none => rw [ht] at hk; cases hk
    | some ti =>
      rw [ht] at hk
      cases hud : ti.ud <;> simp only [kCl2, hud] at hk <;> try cases hk
      rename_i e
      cases hz : zeroCells E e with
      | none => rw [hz] at hk; cases hk
      | some z =>
        rw [hz] at hk
        have hk : cl2 z D h ((lB c.args.toList).f T) = .ok v D' h' := hk
        cases hl : (lB c.args.toList).f T with
        | none => rw [hl] at hk; cases hk
        | some vs =>
          have hvs := lB_args (a := a) hl s.tr
          rw [hl] at hk
          cases vs with
          | nil => cases hk
          | cons x vs =>
            cases vs with
            | cons _ _ => cases hk
            | nil =>
              obtain ⟨p, h1, h2⟩ := one_arg hvs
              have hk : clX z D h x = .ok v D' h' := hk
              obtain ⟨cst, hex⟩ := exec_builtin (P := P) (a := a) (w := w) hop hc
              obtain ⟨rfl, y', w', h4, h5⟩ := clX_ok (P := P) (ty := o.type) K s.inv (ts_head hts) (hud ▸ (K.info t ti ht).2) hz h2 hk
              refine done_value s ho hw hnd hd (x := y') (w' := w') ?_ h5
              rw [hex, h1]
              exact exec_v h4
theorem kMu_ok (K : EnvOK P E) (s : St ρ0 h0 w0 fr.nt ρ T D h a w) (ho : ops[i]? = some o) (hw : Region.wanted o (yielded ops a.tmps) = true) (hd : okDst fr.nt o.dst = true)
    {t : TypeId} {m kx x : Operand} (hop : o.op = .insert t m kx x ∨ o.op = .mapUpdate t m kx x) (hk : (kMu E (aB m) (aB kx) (aB x) (E.tt t)).f r fr T D h = .ok v D' h') :
    Done2 P b cs k ops i rest a w o v ρ h D' h' := by
  have hnd : ∀ c, o.op ≠ .defer c := by intro c hh; rcases hop with e | e <;> rw [e] at hh <;> cases hh
  have hex : (execOp a.eval o).run P w = ((Instr.mapUpdate t (a.eval m) (a.eval kx) (a.eval x)).run P w).andThen fun _ w' => .ok .skip w' := by
    rcases hop with e | e <;> simp [execOp, e]
  cases ht : E.tt t with
  | none => rw [ht] at hk; cases hk
  | some ti =>
    rw [ht] at hk
    cases hud : ti.ud <;> simp only [kMu, hud] at hk <;> try cases hk
    rename_i kt et
    cases hkt : E.tt kt with
    | none => rw [hkt] at hk; cases hk
    | some ki =>
      rw [hkt] at hk
      have hk : mapUp ki.ud D h ((aB kx).f T) ((aB x).f T) ((aB m).f T) = .ok v D' h' := hk
      have val : ∀ (y : Operand) u, (aB y).f T = some u → R ρ u (a.eval y) := fun y u hu => by have := aB_R hu s.tr; rw [evO_eq] at this; exact this
      obtain ⟨rfl, rfl, w', h1, h2, h3⟩ := mapUp_ok (P := P) K s.inv ht hud hkt (val m) (val kx) (val x) hk
      rw [h1] at hex
      exact done_of s hd (x := undef) (w' := w') ⟨ρ, R_undef _, h2, h3⟩ (go_skip ho hw (by rw [Oper.semAt_eq _ _ _ hnd]; exact hex))
theorem kDef_ok (FO : FrOK fr b cs) (s : St ρ0 h0 w0 fr.nt ρ T D h a w) (ho : ops[i]? = some o) (hw : Region.wanted o (yielded ops a.tmps) = true) (hd : okDst fr.nt o.dst = true)
    {c : Call} (hop : o.op = .defer c) (hk : (kDef (lB c.args.toList) c.callee).f r fr T D h = .ok v D' h') :
    Done2 P b cs k ops i rest a w o v ρ h D' h' := by
  cases hc : c.callee <;> rw [hc] at hk <;> simp only [kDef] at hk <;> try cases hk
  rename_i f
  cases hfv : (aB f).f T with
  | none => rw [hfv] at hk; cases hk
  | some fv =>
    have hfR := aB_R hfv s.tr
    rw [evO_eq] at hfR
    rw [hfv] at hk
    cases hl : (lB c.args.toList).f T with
    | none => rw [hl] at hk; cases fv <;> cases hk
    | some vs =>
      have hvs := lB_args (a := a) hl s.tr
      rw [hl] at hk
      cases fv <;> try cases hk
      rename_i g af cp
      obtain ⟨xs, ys, h1, h2, h3⟩ := hfR
      cases hr : fr.rnd with
      | true => simp only [defV, hr] at hk; cases hk
      | false =>
        simp only [defV, hr] at hk
        cases hk
        have hro : b.roundOf = none := by have := FO.rnd; rw [hr] at this; simpa using this
        have hex : (o.semAt b.roundOf a.eval).run P w = .ok (.defer { target := .fn (.func g) ys, args := xs ++ c.args.map a.eval }) w := by
          rw [hro, Oper.semAt_none]
          simp [execOp, hop, resolve, hc, Deferred.ofValue, h1]
        have dl : DL ρ (.fn g (app af (app vs cp)) :: D) ({ target := .fn (.func g) ys, args := xs ++ c.args.map a.eval } :: a.defers) :=
          ⟨_, _, rfl, ⟨ys, rfl, by
            rw [app_eq, app_eq]
            simp only [Array.toList_append, List.append_assoc]
            exact h2.append (hvs.append h3)⟩, s.dl⟩
        exact ⟨ρ, _, w, undef, by rw [put_tmps, put_tmps], R_undef ρ, by rw [put_defers]; exact dl, s.inv, Fr.refl _ _ _, go_defer ho hw hex⟩
theorem kRg_ok (K : EnvOK P E) (s : St ρ0 h0 w0 fr.nt ρ T D h a w) (ho : ops[i]? = some o) (hw : Region.wanted o (yielded ops a.tmps) = true) (hd : okDst fr.nt o.dst = true)
    {t : TypeId} {x : Operand} (hop : o.op = .range t x) (hk : (kRg (aB x) (E.tt t)).f r fr T D h = .ok v D' h') : Done2 P b cs k ops i rest a w o v ρ h D' h' := by
  have hnd : ∀ c, o.op ≠ .defer c := by rw [hop]; intro c h; cases h
  cases ht : E.tt t with
  | none => rw [ht] at hk; cases hk
  | some ti =>
    rw [ht] at hk
    cases hud : ti.ud <;> simp only [kRg, hud] at hk <;> try cases hk
    cases hx : (aB x).f T with
    | none => rw [hx] at hk; cases hk
    | some xv =>
      have hR := aB_R hx s.tr
      rw [evO_eq] at hR
      rw [hx] at hk
      have n0 : ρ h.n = none := s.inv.fresh _ (Nat.le_refl _)
      have s0 : h.n.nat < (Pth.succ h.n).nat := by rw [Pth.nat_succ]; omega
      cases xv <;> try cases hk
      · rename_i j
        obtain ⟨lj, hj, hR⟩ := hR
        have hk : rngM j D h (h.t.get j) = .ok v D' h' := hk
        cases hg : h.t.get j with
        | none => rw [hg] at hk; cases hk
        | some ob =>
          rw [hg] at hk
          cases ob <;> try cases hk
          rename_i es bs ck
          obtain ⟨l', g1, ens, g2, _⟩ := s.inv.obj _ _ hg
          rw [hj] at g1; cases g1
          obtain ⟨i1, e1, fr1, _⟩ := alloc_obj s.inv n0 (Nat.le_of_lt s0) s0 (.it j ck [] ck) (.mapIter (some lj.blk) ck #[] ck) (w.alloc (.mapIter (some lj.blk) ck #[] ck)) 0 0 rfl rfl rfl rfl
            ⟨rfl, lj, bind1_ext n0 _ _ hj, by show (w.heap.push _)[w.heap.size]? = _; simp⟩
          have fr1 := fr1 (Nat.le_refl _)
          refine done_value s ho hw hnd hd (x := .pointer (some ⟨w.heap.size, 0, none⟩)) (w' := w.alloc (.mapIter (some lj.blk) ck #[] ck)) ?_ ⟨_, ⟨_, bind1_same _ _ _, rfl⟩, i1, fr1⟩
          have hgo : (getObj lj.blk).run P w = .ok (.map ens ck) w := by simp [getObj, Sem.run, g2]
          simp [execOp, hop, Instr.range, run_und K ht, hud, hR, hgo]
      · have hR : a.eval x = .map none := hR
        obtain ⟨i1, e1, fr1, _⟩ := alloc_obj s.inv n0 (Nat.le_of_lt s0) s0 .mi (.mapIter none 0 #[] 0) (w.alloc (.mapIter none 0 #[] 0)) 0 0 rfl rfl rfl rfl
          ⟨by show (w.heap.push _)[w.heap.size]? = _; simp, rfl⟩
        have fr1 := fr1 (Nat.le_refl _)
        refine done_value s ho hw hnd hd (x := .pointer (some ⟨w.heap.size, 0, none⟩)) (w' := w.alloc (.mapIter none 0 #[] 0)) ?_ ⟨_, ⟨_, bind1_same _ _ _, rfl⟩, i1, fr1⟩
        simp [execOp, hop, Instr.range, run_und K ht, hud, hR]
/-- what a range's step finds -/
theorem one_entry {es : List (V × V)} {ens : Array MapEntry} {bs : List Nat} {k v : V} {b : Nat} (hes : es = [(k, v)]) (hbs : bs = [b]) (h1 : MapR ρ es ens.toList) (h2 : ens.toList.map (·.born) = bs) : ∃ e, ens = #[e] ∧ keyR ρ (k, v) e ∧ e.born = b := by
  subst hes; subst hbs
  obtain ⟨e, r, e1, h3, h4⟩ := h1
  simp only [MapR] at h4
  subst h4
  have : ens = #[e] := by rw [← Array.toList_inj, e1]
  subst this
  exact ⟨e, rfl, h3, by simpa using h2⟩
theorem kNx_ok (s : St ρ0 h0 w0 fr.nt ρ T D h a w) (ho : ops[i]? = some o) (hw : Region.wanted o (yielded ops a.tmps) = true) (hd : okDst fr.nt o.dst = true)
    {x : Operand} {st : Bool} (hop : o.op = .next x st) (hk : (kNx (aB x) st).f r fr T D h = .ok v D' h') : Done2 P b cs k ops i rest a w o v ρ h D' h' := by
  have hnd : ∀ c, o.op ≠ .defer c := by rw [hop]; intro c h; cases h
  cases st with
  | true => cases hk
  | false =>
    have hk : nextV D h ((aB x).f T) = .ok v D' h' := hk
    cases hx : (aB x).f T with
    | none => rw [hx] at hk; cases hk
    | some xv =>
      have hR := aB_R hx s.tr
      rw [evO_eq] at hR
      rw [hx] at hk
      cases xv <;> try cases hk
      rename_i j off
      cases off with
      | succ n => cases hk
      | zero =>
        have hk : nextI j D h (h.t.get j) = .ok v D' h' := hk
        cases hg : h.t.get j with
        | none => rw [hg] at hk; cases hk
        | some ob =>
          rw [hg] at hk
          cases ob <;> try cases hk
          · obtain ⟨loc, h1, h2, h3⟩ := s.inv.obj _ _ hg
            obtain ⟨loc', g1, g2⟩ := hR
            rw [h1] at g1; cases g1
            have e : loc.off + 0 = 0 := by omega
            rw [e] at g2
            have hgo : (getObj loc.blk).run P w = .ok (.mapIter none 0 #[] 0) w := by simp [getObj, Sem.run, h2]
            refine done_value s ho hw hnd hd (x := .tuple #[.bool false]) (w' := w) ?_ ⟨ρ, ⟨_, rfl, ⟨_, _, rfl, rfl, rfl⟩⟩, s.inv, Fr.refl _ _ _⟩
            simp [execOp, hop, Instr.next, g2, hgo]
          · rename_i m since seen last
            have hk : nextM j m since seen last D h (h.t.get m) = .ok v D' h' := hk
            obtain ⟨loc, h1, h2, lm, h3, h4⟩ := s.inv.obj _ _ hg
            obtain ⟨loc', g1, g2⟩ := hR
            rw [h1] at g1; cases g1
            have e : loc.off + 0 = 0 := by omega
            rw [e] at g2
            have hgo : (getObj loc.blk).run P w = .ok (.mapIter (some lm.blk) since seen.toArray last) w := by simp [getObj, Sem.run, h4]
            cases hgm : h.t.get m with
            | none => rw [hgm] at hk; cases hk
            | some om =>
              rw [hgm] at hk
              cases om <;> try cases hk
              rename_i es bs ck
              obtain ⟨lm', q1, ens, q2, q3, q4, q5⟩ := s.inv.obj _ _ hgm
              rw [h3] at q1; cases q1
              have hgm2 : (getObj lm.blk).run P w = .ok (.map ens ck) w := by simp [getObj, Sem.run, q2]
              cases es with
              | nil =>
                cases bs with
                | cons b bs => cases hk
                | nil =>
                  cases hk
                  have he : ens = #[] := by rw [← Array.toList_inj]; exact q3
                  subst he
                  refine done_value s ho hw hnd hd (x := .tuple #[.bool false]) (w' := w) ?_ ⟨ρ, ⟨_, rfl, ⟨_, _, rfl, rfl, rfl⟩⟩, s.inv, Fr.refl _ _ _⟩
                  simp [execOp, hop, Instr.next, g2, hgo, hgm2, Question.forced]
              | cons kv es =>
                obtain ⟨kk, vv⟩ := kv
                cases es with
                | cons _ _ => cases hk
                | nil =>
                  cases bs with
                  | nil => cases hk
                  | cons b bs =>
                    cases bs with
                    | cons _ _ => cases hk
                    | nil =>
                      obtain ⟨e0, rfl, ⟨k1, k2, k3⟩, hb0⟩ := one_entry rfl rfl q3 q4
                      cases seen with
                      | nil =>
                        have hk : next1 j m since kk vv b ck D h (Nat.blt b since) = .ok v D' h' := hk
                        cases hbl : Nat.blt b since with
                        | false => rw [hbl] at hk; cases hk
                        | true =>
                          rw [hbl] at hk
                          cases hk
                          have hlt : e0.born < since := by rw [hb0]; rw [blt_iff] at hbl; simpa using hbl
                          have hbound : loc.blk < w.heap.size := (Array.getElem?_eq_some_iff.1 h4).1
                          have hset : (setObj loc.blk (.mapIter (some lm.blk) since #[e0.born] ck)).run P w = .ok () { w with heap := w.heap.setIfInBounds loc.blk (.mapIter (some lm.blk) since #[e0.born] ck) } := by
                            simp [setObj, Sem.run, h4]
                          obtain ⟨f1, f2⟩ := set_obj (w' := { w with heap := w.heap.setIfInBounds loc.blk (.mapIter (some lm.blk) since #[e0.born] ck) }) (o' := .it m since [b] ck) s.inv hg h1 (fun q hq => by
                            show (w.heap.setIfInBounds _ _)[q]? = _
                            rw [Array.getElem?_setIfInBounds, if_neg (fun e => hq e.symm)]) (by simp) rfl rfl rfl
                            ⟨h2, lm, h3, by show (w.heap.setIfInBounds _ _)[loc.blk]? = _; rw [Array.getElem?_setIfInBounds, hb0]; simp [hbound]⟩
                          refine done_value s ho hw hnd hd (x := .tuple #[.bool true, e0.key, e0.val]) (w' := { w with heap := w.heap.setIfInBounds loc.blk (.mapIter (some lm.blk) since #[e0.born] ck) }) ?_ ⟨ρ, ⟨_, rfl, ⟨_, _, rfl, rfl, _, _, rfl, k2, _, _, rfl, k3, rfl⟩⟩, f1, f2⟩
                          have hnge : ¬ since ≤ e0.born := by omega
                          simp [execOp, hop, Instr.next, g2, hgo, hgm2, Question.forced, hlt, hnge, hset]
                      | cons c seen =>
                        cases seen with
                        | cons _ _ => cases hk
                        | nil =>
                          have hk : next0 D h (and (Nat.beq c b) (Nat.blt b last)) = .ok v D' h' := hk
                          cases hbl : and (Nat.beq c b) (Nat.blt b last) with
                          | false => rw [hbl] at hk; cases hk
                          | true =>
                            rw [hbl] at hk
                            cases hk
                            simp only [Bool.and_eq_true, blt_iff, beq_iff', decide_eq_true_eq] at hbl
                            obtain ⟨rfl, hl⟩ := hbl
                            refine done_value s ho hw hnd hd (x := .tuple #[.bool false]) (w' := w) ?_ ⟨ρ, ⟨_, rfl, ⟨_, _, rfl, rfl, rfl⟩⟩, s.inv, Fr.refl _ _ _⟩
                            simp [execOp, hop, Instr.next, g2, hgo, hgm2, Question.forced, hb0]
                            exact hl
theorem kEn_ok (s : St ρ0 h0 w0 fr.nt ρ T D h a w) (ho : ops[i]? = some o) (hw : Region.wanted o (yielded ops a.tmps) = true) (hd : okDst fr.nt o.dst = true)
    {x : Operand} (hop : o.op = .entry x) (hk : (kEn (aB x)).f r fr T D h = .ok v D' h') : Done2 P b cs k ops i rest a w o v ρ h D' h' := by
  have hnd : ∀ c, o.op ≠ .defer c := by rw [hop]; intro c h; cases h
  have hk : entV D h ((aB x).f T) = .ok v D' h' := hk
  cases hx : (aB x).f T with
  | none => rw [hx] at hk; cases hk
  | some xv =>
    have hR := aB_R hx s.tr
    rw [evO_eq] at hR
    rw [hx] at hk
    cases xv <;> try cases hk
    rename_i j off
    cases off with
    | succ n => cases hk
    | zero =>
      have hk : entI D h (h.t.get j) = .ok v D' h' := hk
      cases hg : h.t.get j with
      | none => rw [hg] at hk; cases hk
      | some ob =>
        rw [hg] at hk
        cases ob <;> try cases hk
        rename_i m since seen last
        have hk : entM seen last D h (h.t.get m) = .ok v D' h' := hk
        obtain ⟨loc, h1, h2, lm, h3, h4⟩ := s.inv.obj _ _ hg
        obtain ⟨loc', g1, g2⟩ := hR
        rw [h1] at g1; cases g1
        have e : loc.off + 0 = 0 := by omega
        rw [e] at g2
        have hgo : (getObj loc.blk).run P w = .ok (.mapIter (some lm.blk) since seen.toArray last) w := by simp [getObj, Sem.run, h4]
        cases hgm : h.t.get m with
        | none => rw [hgm] at hk; cases hk
        | some om =>
          rw [hgm] at hk
          cases om <;> try cases hk
          rename_i es bs ck
          obtain ⟨lm', q1, ens, q2, q3, q4, q5⟩ := s.inv.obj _ _ hgm
          rw [h3] at q1; cases q1
          have hgm2 : (getObj lm.blk).run P w = .ok (.map ens ck) w := by simp [getObj, Sem.run, q2]
          cases es with
          | nil => cases bs <;> cases hk
          | cons kv es =>
            obtain ⟨kk, vv⟩ := kv
            cases es with
            | cons _ _ => cases hk
            | nil =>
              cases bs with
              | nil => cases hk
              | cons b bs =>
                cases bs with
                | cons _ _ => cases hk
                | nil =>
                  obtain ⟨e0, rfl, ⟨k1, k2, k3⟩, hb0⟩ := one_entry rfl rfl q3 q4
                  cases seen with
                  | nil => cases hk
                  | cons c seen =>
                    cases seen with
                    | cons _ _ => cases hk
                    | nil =>
                      have hk : ent1 kk vv D h (and (Nat.beq c b) (Nat.beq ck last)) = .ok v D' h' := hk
                      cases hbl : and (Nat.beq c b) (Nat.beq ck last) with
                      | false => rw [hbl] at hk; cases hk
                      | true =>
                        rw [hbl] at hk
                        cases hk
                        simp only [Bool.and_eq_true, beq_iff', decide_eq_true_eq] at hbl
                        obtain ⟨rfl, rfl⟩ := hbl
                        refine done_value s ho hw hnd hd (x := .tuple #[e0.key, e0.val]) (w' := w) ?_ ⟨ρ, ⟨_, rfl, ⟨_, _, rfl, k2, _, _, rfl, k3, rfl⟩⟩, s.inv, Fr.refl _ _ _⟩
                        simp [execOp, hop, Instr.entry, g2, hgo, hgm2, hb0]
/-- every calling operation -/
theorem k_ok (K : EnvOK P E) (PO : PrimOK P E) (RC : RcOK P r) (FO : FrOK fr b cs) (s : St ρ0 h0 w0 fr.nt ρ T D h a w) (ho : ops[i]? = some o) (hw : Region.wanted o (yielded ops a.tmps) = true) (hd : okDst fr.nt o.dst = true)
    (hk : (kB E o.op).f r fr T D h = .ok v D' h') : Done2 P b cs k ops i rest a w o v ρ h D' h' := by
  cases hop : o.op <;> rw [hop] at hk <;> simp only [kB] at hk <;> try cases hk
  case insert t m kx x => exact kMu_ok K s ho hw hd (.inl hop) hk
  case mapUpdate t m kx x => exact kMu_ok K s ho hw hd (.inr hop) hk
  case range t x => exact kRg_ok K s ho hw hd hop hk
  case next x st => exact kNx_ok s ho hw hd hop hk
  case entry x => exact kEn_ok s ho hw hd hop hk
  case defer c => exact kDef_ok FO s ho hw hd hop hk
  case call c =>
    cases hc : c.callee <;> rw [hc] at hk <;> simp only [kCall] at hk
    case value f => exact callV_ok K PO RC s ho hw hd hop hc hk
    case invoke x name => exact invV_ok K RC s ho hw hd hop hc hk
    case builtin bi =>
      cases bi <;> simp only [kBI] at hk <;> try cases hk
      case append => exact kAp_ok K s ho hw hd hop hc hk
      case copy => exact kCp_ok K s ho hw hd hop hc hk
      case clear => exact kCl_ok K s ho hw hd hop hc hk
      case recover =>
        have hnd : ∀ c, o.op ≠ .defer c := by rw [hop]; intro c h; cases h
        simp only [recD] at hk
        cases hdr : and fr.dfr (not fr.rnd) with
        | false => rw [hdr] at hk; cases hk
        | true =>
          rw [hdr] at hk; cases hk
          simp only [Bool.and_eq_true, Bool.not_eq_true'] at hdr
          obtain ⟨d1, d2⟩ := hdr
          have hro : b.roundOf = none := by have := FO.rnd; rw [d2] at this; simpa using this
          obtain ⟨cst, hex⟩ := exec_builtin (P := P) (a := a) (w := w) hop hc
          have hkd : b.kind = .deferred := by rw [FO.kind, d1]; rfl
          exact done_of s hd (x := .nilIface) (w' := w) ⟨ρ, rfl, s.inv, Fr.refl _ _ _⟩ (go_recover ho hw (by rw [Oper.semAt_eq _ _ _ hnd, hex]; rfl) hro hkd (FO.dfr d1))
end
end
end Go.Ev
namespace Go.Ev
open Go
noncomputable section
variable {P : Program} {E : Env}
section
variable {b : Frame} {a : Act} {k : List Item} {cs : List Frame} {w : World} {ops : Array Oper} {i : Nat} {rest : List Nat} {o : Oper} {fr : FrI} {r : Rc} {ρ0 ρ : Rho} {h0 h h' : H} {w0 : World} {T T' : Tr V} {D D' : List AD} {v : V}

/-! ### guards -/
theorem gDst_cases {want : Bool} {q : Option Oper} {g : GR} (h : (gDst want q).f T = g) (hg : g ≠ .no) : ∃ o d, q = some o ∧ o.dst = some d ∧ gV want (T.get (Pth.of d)) = g := by
  cases q with
  | none => exact absurd h.symm hg
  | some o =>
    simp only [gDst] at h
    cases hd : o.dst with
    | none => rw [hd] at h; exact absurd h.symm hg
    | some d => rw [hd] at h; exact ⟨o, d, rfl, hd, h⟩
theorem yielded_of {j d : Nat} {q : Oper} (hq : nth ops.toList j = some q) (hd : q.dst = some d) (tm : Array Value) : yielded ops tm j = match tm[d]? with | some (.bool b) => some b | _ => none := by
  rw [nth_eq, Array.getElem?_toList] at hq
  simp only [yielded, hq, hd, Option.bind_some]
  cases tm[d]? with
  | none => rfl
  | some x => cases x <;> rfl
theorem gB_yes (hT : TR ρ T a.tmps) (h : (gB ops.toList o.guard).f T = .yes) : Region.wanted o (yielded ops a.tmps) = true := by
  unfold Region.wanted
  cases hg : o.guard with
  | none => rfl
  | some jw =>
    obtain ⟨j, want⟩ := jw
    rw [hg] at h
    obtain ⟨q, d, h1, h2, h3⟩ := gDst_cases (show (gDst want (nth ops.toList j)).f T = .yes from h) (by simp)
    show (yielded ops a.tmps j == some want) = true
    rw [yielded_of h1 h2]
    cases hv : T.get (Pth.of d) with
    | none => rw [hv] at h3; cases h3
    | some v =>
      obtain ⟨x, h4, h5⟩ := hT _ _ hv
      rw [Pth.nat_of] at h4
      rw [hv] at h3
      cases v <;> try cases h3
      · rename_i y
        have h5 : x = .bool y := h5
        subst h5
        rw [h4]
        cases y <;> cases want <;> first | rfl | cases h3
      · rename_i l
        cases l <;> cases h3
theorem gB_skip (hT : TR ρ T a.tmps) (h : (gB ops.toList o.guard).f T = .skip) : Region.wanted o (yielded ops a.tmps) = false := by
  unfold Region.wanted
  cases hg : o.guard with
  | none => rw [hg] at h; cases h
  | some jw =>
    obtain ⟨j, want⟩ := jw
    rw [hg] at h
    obtain ⟨q, d, h1, h2, h3⟩ := gDst_cases (show (gDst want (nth ops.toList j)).f T = .skip from h) (by simp)
    show (yielded ops a.tmps j == some want) = false
    rw [yielded_of h1 h2]
    cases hv : T.get (Pth.of d) with
    | none => rw [hv] at h3; cases h3
    | some v =>
      obtain ⟨x, h4, h5⟩ := hT _ _ hv
      rw [Pth.nat_of] at h4
      rw [hv] at h3
      cases v <;> try cases h3
      · rename_i y
        have h5 : x = .bool y := h5
        subst h5
        rw [h4]
        cases y <;> cases want <;> first | rfl | cases h3
      · obtain ⟨xs, rfl, _⟩ := h5
        rw [h4]
        cases want <;> rfl
theorem q_step (K : EnvOK P E) (s : St ρ0 h0 w0 fr.nt ρ T D h a w) (ho : ops[i]? = some o) (hw : Region.wanted o (yielded ops a.tmps) = true) (hd : okDst fr.nt o.dst = true)
    (hk : (oQ (qB E o.op) (dB o.dst)).f r fr T D h = .ok T' D' h') : Done P fr b cs k ops i rest ρ0 h0 w0 a w T' D' h' := by
  have hq := q_all (o := o) K s.tr s.inv.o
  have hk : resD (dB o.dst) T D h h.n (Pth.succ h.n) ((qB E o.op).f T h) = .ok T' D' h' := hk
  by_cases hnd : ∃ c, o.op = .defer c
  · obtain ⟨c, hc⟩ := hnd
    rw [hc] at hk; cases hk
  · have hnd : ∀ c, o.op ≠ .defer c := fun c e => hnd ⟨c, e⟩
    obtain ⟨rfl, v, ρ', rfl, x, w', h1, h2, h3, h4⟩ := res_ok s.inv hq hk
    rw [evO_eq] at h1
    rcases h1 with h1 | ⟨h1, rfl⟩
    · exact Done2.done s hd <| done_of s hd ⟨ρ', h2, h3, h4⟩ (go_value ho hw (by rw [Oper.semAt_eq _ _ _ hnd]; exact h1))
    · exact Done2.done s hd <| done_of s hd ⟨ρ', h2, h3, h4⟩ (go_skip ho hw (by rw [Oper.semAt_eq _ _ _ hnd]; exact h1))
theorem c_step (K : EnvOK P E) (PO : PrimOK P E) (RC : RcOK P r) (FO : FrOK fr b cs) (s : St ρ0 h0 w0 fr.nt ρ T D h a w) (ho : ops[i]? = some o) (hw : Region.wanted o (yielded ops a.tmps) = true) (hd : okDst fr.nt o.dst = true)
    (hk : (oC E o (isC o.op)).f r fr T D h = .ok T' D' h') : Done P fr b cs k ops i rest ρ0 h0 w0 a w T' D' h' := by
  cases hc : isC o.op with
  | false => rw [hc] at hk; exact q_step K s ho hw hd hk
  | true =>
    rw [hc] at hk
    have hk : kD (dB o.dst) T ((kB E o.op).f r fr T D h) = .ok T' D' h' := hk
    cases hkk : (kB E o.op).f r fr T D h with
    | no => rw [hkk] at hk; cases hk
    | ok v D'' h'' =>
      rw [hkk] at hk; cases hk
      exact (k_ok K PO RC FO s ho hw hd hkk).done s hd
theorem skip_step (s : St ρ0 h0 w0 fr.nt ρ T D h a w) (ho : ops[i]? = some o) (hw : Region.wanted o (yielded ops a.tmps) = false) (hd : okDst fr.nt o.dst = true) :
    Done P fr b cs k ops i rest ρ0 h0 w0 a w ((dB o.dst).put T (.tu [])) D h := by
  have hs := stepR_op_skip (P := P) (b := b) (a := a) (k := k) (cs := cs) (w := w) (ops := ops) (i := i) (rest := rest) (by simp [ho, hw])
  simp only [ho, Option.bind_some] at hs
  exact ⟨ρ, _, w, s.put hd (R_undef ρ), .one hs⟩
theorem op_ok (K : EnvOK P E) (PO : PrimOK P E) (RC : RcOK P r) (FO : FrOK fr b cs) (s : St ρ0 h0 w0 fr.nt ρ T D h a w) (ho : ops[i]? = some o)
    (hk : (oB E fr.nt ops.toList o).f r fr T D h = .ok T' D' h') : Done P fr b cs k ops i rest ρ0 h0 w0 a w T' D' h' := by
  unfold oB at hk
  cases hd : okDst fr.nt o.dst with
  | false => rw [hd] at hk; cases hk
  | true =>
    rw [hd] at hk
    have hk : (oB1 E ops.toList o).f r fr T D h = .ok T' D' h' := hk
    unfold oB1 at hk
    cases hg : o.guard with
    | none =>
      simp only [hg] at hk
      exact c_step K PO RC FO s ho (by unfold Region.wanted; rw [hg]) hd hk
    | some g =>
      simp only [hg] at hk
      have hk : gO (oC E o (isC o.op)) (dB o.dst) r fr T D h ((gB ops.toList (some g)).f T) = .ok T' D' h' := hk
      cases hgr : (gB ops.toList (some g)).f T with
      | no => rw [hgr] at hk; cases hk
      | yes => rw [hgr] at hk; exact c_step K PO RC FO s ho (gB_yes s.tr (by rw [hg]; exact hgr)) hd hk
      | skip => rw [hgr] at hk; cases hk; exact skip_step s ho (gB_skip s.tr (by rw [hg]; exact hgr)) hd
theorem ops_ok (K : EnvOK P E) (PO : PrimOK P E) (RC : RcOK P r) (FO : FrOK fr b cs) : ∀ (l pre : List Oper) {ρ : Rho} {T : Tr V} {D : List AD} {h : H} {a : Act} {w : World}, ops.toList = pre ++ l → St ρ0 h0 w0 fr.nt ρ T D h a w →
    (opsB E fr.nt ops.toList l).f r fr T D h = .ok T' D' h' →
    ∃ ρ' a' w', St ρ0 h0 w0 fr.nt ρ' T' D' h' a' w' ∧ Steps P (lone (b.atR a (.inRegion ops (List.range' pre.length l.length) :: k)) cs w) (lone (b.atR a' (.inRegion ops [] :: k)) cs w')
  | [], pre, ρ, T, D, h, a, w, _, s, hk => by
    cases hk
    exact ⟨ρ, a, w, s, .refl P _⟩
  | o :: l, pre, ρ, T, D, h, a, w, hp, s, hk => by
    have hk : andO (opsB E fr.nt ops.toList l) r fr ((oB E fr.nt ops.toList o).f r fr T D h) = .ok T' D' h' := hk
    cases h1 : (oB E fr.nt ops.toList o).f r fr T D h with
    | no => rw [h1] at hk; cases hk
    | ok T1 D1 h1' =>
      rw [h1] at hk
      have hk : (opsB E fr.nt ops.toList l).f r fr T1 D1 h1' = .ok T' D' h' := hk
      have ho : ops[pre.length]? = some o := by rw [← Array.getElem?_toList, hp]; simp
      obtain ⟨ρ1, a1, w1, s1, st1⟩ := op_ok (k := k) (rest := List.range' (pre.length + 1) l.length) K PO RC FO s ho h1
      obtain ⟨ρ2, a2, w2, s2, st2⟩ := ops_ok K PO RC FO l (pre ++ [o]) (by rw [hp]; simp) s1 hk
      refine ⟨ρ2, a2, w2, s2, Steps.trans ?_ (by simpa using st2)⟩
      simpa [List.range'] using st1
theorem region_ok (K : EnvOK P E) (PO : PrimOK P E) (RC : RcOK P r) (FO : FrOK fr b cs) (s : St ρ0 h0 w0 fr.nt ρ T D h a w) {id : Nat}
    (hk : (opsB E fr.nt ops.toList ops.toList).f r fr T D h = .ok T' D' h') :
    ∃ ρ' a' w', St ρ0 h0 w0 fr.nt ρ' T' D' h' a' w' ∧ Steps P (lone (b.atR a (.code (.region id ops false) :: k)) cs w) (lone (b.atR a' k) cs w') := by
  obtain ⟨ρ', a', w', s', st⟩ := ops_ok (k := k) K PO RC FO ops.toList [] (by simp) s hk
  refine ⟨ρ', a', w', s', .head stepR_region (Steps.trans ?_ (.one (stepR_region_end (ops := ops))))⟩
  have : List.range ops.size = List.range' 0 ops.toList.length := by simp [List.range_eq_range']
  rw [this]; exact st
end
end
end Go.Ev
namespace Go.Ev
open Go
noncomputable section
variable {P : Program} {E : Env}

def DrawSound (P : Program) (E : Env) (r : Rc) : Prop := ∀ (fr : FrI) (b : Frame) (cs : List Frame) (k : List Item) (ops : Array Oper) (id : Nat) (ρ0 : Rho) (h0 : H) (w0 : World) (ρ : Rho) (T : Tr V) (D : List AD) (h : H) (a : Act) (w : World) (T' : Tr V) (D' : List AD) (h' : H),
  FrOK fr b cs → St ρ0 h0 w0 fr.nt ρ T D h a w → (regB E fr.nt ops.toList true).f r fr T D h = .ok T' D' h' →
  ∃ ρ' a' w', St ρ0 h0 w0 fr.nt ρ' T' D' h' a' w' ∧ Steps P (lone (b.atR a (.code (.region id ops true) :: k)) cs w) (lone (b.atR a' k) cs w')

/-- an object is done with -/
theorem drop_obj {ρ : Rho} {h : H} {w w' : World} (hI : Inv ρ h w) {i : Pth} {o : AObj} {loc : Loc} (hg : h.t.get i = some o) (hl : ρ i = some loc) (hw : ∀ k, k ≠ loc.blk → w'.heap[k]? = w.heap[k]?) (hsz : w'.heap.size = w.heap.size)
    (hos : w'.os = w.os) (htp : w'.tape = w.tape) (hou : w'.output = w.output) : Inv ρ ⟨put h.t i none, h.n⟩ w' ∧ Fr ρ h w ρ ⟨put h.t i none, h.n⟩ w' := by
  have key : ∀ j oj, (put h.t i none).get j = some oj → j ≠ i ∧ h.t.get j = some oj := by
    intro j oj hj
    rw [get_put'] at hj
    split at hj
    · cases hj
    · rename_i e; exact ⟨fun e' => e e'.symm, hj⟩
  refine ⟨⟨hI.fresh, fun j oj hj => ?_, fun a b oa ob la lb ha hb hab hla hlb => ?_⟩, ⟨Ext.refl _, fun _ _ => rfl, Nat.le_refl _, Nat.le_of_eq hsz.symm, hos, htp, hou, fun b _ hne => hw b (fun e => hne i _ loc hg hl e.symm), fun j oj lj hj hlj => ?_⟩⟩
  · obtain ⟨h1, h2⟩ := key j oj hj
    obtain ⟨lj, h3, h4⟩ := hI.obj j oj h2
    exact ⟨lj, h3, h4.mono (Ext.refl _) (hw _ (hI.inj j i oj o lj loc h2 hg h1 h3 hl))⟩
  · exact hI.inj a b oa ob la lb (key a oa ha).2 (key b ob hb).2 hab hla hlb
  · exact .inr ⟨j, oj, lj, (key j oj hj).2, hlj, rfl⟩

section
variable {b : Frame} {a : Act} {k : List Item} {cs : List Frame} {w : World}
theorem stepR_scope {c : Code} : step P (lone (b.atR a (.code (.scope c) :: k)) cs w) = .next (lone (b.atR a (.code c :: .inScope c :: k)) cs w) :=
  step_lone_go (by simp [stepG, stepG.exec, Frame.atR])
theorem stepR_inScope {c : Code} : step P (lone (b.atR a (.inScope c :: k)) cs w) = .next (lone (b.atR a k) cs w) :=
  step_lone_go (by simp [stepG, stepG.exec, Frame.atR])
end
section
variable {b : Frame} {cs : List Frame} {fr : FrI} {r : Rc} {ρ0 : Rho} {h0 : H} {w0 : World}
theorem XOK.of {k : List Item} {m m' : Machine} {x : XR} (hs : Steps P m m') (h : XOK P fr b cs k m' ρ0 h0 w0 x) : XOK P fr b cs k m ρ0 h0 w0 x := by
  cases x with
  | no => exact trivial
  | ok x T D h' => obtain ⟨ρ', a', w', h1, h2⟩ := h; exact ⟨ρ', a', w', h1, h2.of hs⟩
/-- an item that exits pass over -/
theorem XOK.pass {k : List Item} {m : Machine} {x : XR} {it : Item} (hit : ∀ j k, exitTo j (it :: k) = exitTo j k) (hn : ∀ T D h, x ≠ .ok .norm T D h) (h : XOK P fr b cs (it :: k) m ρ0 h0 w0 x) : XOK P fr b cs k m ρ0 h0 w0 x := by
  cases x with
  | no => exact trivial
  | ok x T D h' =>
    obtain ⟨ρ', a', w', h1, h2⟩ := h
    cases x with
    | norm => exact absurd rfl (hn _ _ _)
    | exit j => obtain ⟨t, h3, h4⟩ := h2; exact ⟨ρ', a', w', h1, t, h3.trans (hit j k), h4⟩
    | ret => exact ⟨ρ', a', w', h1, h2⟩

theorem rf_ok (K : EnvOK P E) (RC : RcOK P r) (FO : FrOK fr b cs) {f : Operand} {ps : Array Tmp} {asg body : Code} {ρ : Rho} {T : Tr V} {D : List AD} {h : H} {a : Act} {w : World} {k : List Item} (s : St ρ0 h0 w0 fr.nt ρ T D h a w) :
    XOK P fr b cs k (lone (b.atR a (.code (.rangeFunc f ps asg body) :: k)) cs w) ρ0 h0 w0 ((cRf (aB f) ps.toList asg body (allLt fr.nt ps.toList)).f r fr T D h) := by
  cases hps : allLt fr.nt ps.toList with
  | false => exact trivial
  | true =>
    have hlt : ∀ (l : List Nat), allLt fr.nt l = true → ∀ q ∈ l, q < fr.nt := by
      intro l
      induction l with
      | nil => intro _ q hq; cases hq
      | cons x l ih =>
        intro hx q hq
        simp only [allLt, Bool.and_eq_true, blt_iff, decide_eq_true_eq] at hx
        cases hq with
        | head => exact hx.1
        | tail _ hq => exact ih hx.2 q hq
    show XOK P fr b cs k _ ρ0 h0 w0 (rfX r fr ps.toList asg body T D h ((aB f).f T))
    cases hf : (aB f).f T with
    | none => exact trivial
    | some fv =>
      have hfR := aB_R hf s.tr
      rw [evO_eq] at hfR
      cases fv <;> try exact trivial
      rename_i g af cp
      show XOK P fr b cs k _ ρ0 h0 w0 (rfGo r fr ps.toList asg body T D h g af cp fr.rnd)
      cases hr : fr.rnd with
      | true => exact trivial
      | false =>
        show XOK P fr b cs k _ ρ0 h0 w0 (rfEnd (Pth.succ h.n) h.n T D (r.call false g (app af (app [.fy (Pth.succ h.n)] cp)) (rfH ps.toList asg body fr.fn fr.nt T h)))
        cases hcall : r.call false g (app af (app [.fy (Pth.succ h.n)] cp)) (rfH ps.toList asg body fr.fn fr.nt T h) with
        | no => exact trivial
        | ok cv h' =>
          have hro : b.roundOf = none := by have := FO.rnd; rw [hr] at this; simpa using this
          obtain ⟨xs, ys, f1, f2, f3⟩ := hfR
          -- the two objects
          have n0 : ρ h.n = none := s.inv.fresh _ (Nat.le_refl _)
          have s0 : h.n.nat < (Pth.succ h.n).nat := by rw [Pth.nat_succ]; omega
          have s1 : (Pth.succ h.n).nat < (Pth.succ (Pth.succ h.n)).nat := by rw [Pth.nat_succ (Pth.succ h.n)]; omega
          obtain ⟨i1, e1, fr1, _⟩ := alloc_obj s.inv n0 (Nat.le_of_lt s0) s0 .df (.deferred (some [])) (w.alloc (.deferred (some []))) 0 0 rfl rfl rfl rfl
            (by show (w.heap.push _)[w.heap.size]? = _; simp)
          have fr1 := fr1 (Nat.le_refl _)
          have n1 : bind1 ρ h.n ⟨w.heap.size, 0, 0⟩ (Pth.succ h.n) = none := i1.fresh _ (Nat.le_refl _)
          have hL : ∃ L : Loop, L = { state := .ready, pending := none, fn := b.fn, tmps := a.tmps, params := ps, assign := asg, body := body, defers := w.heap.size } := ⟨_, rfl⟩
          obtain ⟨L, hL⟩ := hL
          obtain ⟨i2, e2, fr2, _⟩ := alloc_obj i1 n1 (Nat.le_of_lt s1) s1 (.lp T ps.toList asg body fr.fn fr.nt 0 none) (.loop L) ((w.alloc (.deferred (some []))).alloc (.loop L)) 0 0 rfl rfl rfl rfl
            ⟨L, by show ((w.heap.push _).push _)[(w.heap.push _).size]? = _; rw [Array.getElem?_push_size], by rw [hL]; exact FO.fn, by rw [hL]; exact (s.tr.mono e1).mono (bind1_ext n1), by rw [hL]; exact s.nt, by rw [hL], by rw [hL], by rw [hL], hlt _ hps, .inl ⟨rfl, by rw [hL], by rw [hL], rfl⟩⟩
          have fr2 := fr2 (Nat.le_refl _)
          have hsz1 : (w.alloc (.deferred (some []))).heap.size = w.heap.size + 1 := by show (w.heap.push _).size = _; simp
          have hent : (Instr.enterLoop b.fn a.tmps ps asg body b.roundOf).run P w = .ok (w.heap.size + 1, [{ target := .collected w.heap.size, args := #[] }]) ((w.alloc (.deferred (some []))).alloc (.loop L)) := by
            rw [hro, hL]; exact run_enterLoop_outer _ _ _ _ _
          have hres : (resolve a.eval (rangeCall f (w.heap.size + 1)) 0).run P ((w.alloc (.deferred (some []))).alloc (.loop L)) = .ok { target := .fn (.func g) ys, args := xs ++ #[Value.func (.yield (w.heap.size + 1)) #[] #[]] } ((w.alloc (.deferred (some []))).alloc (.loop L)) := by
            simp only [resolve, rangeCall, f1, Deferred.ofValue, Sem.run_pure]; simp [Act.eval]
          have hargs : RL (bind1 (bind1 ρ h.n ⟨w.heap.size, 0, 0⟩) (Pth.succ h.n) ⟨(w.alloc (.deferred (some []))).heap.size, 0, 0⟩) (app af (app [.fy (Pth.succ h.n)] cp)) (xs ++ #[Value.func (.yield (w.heap.size + 1)) #[] #[]] ++ ys).toList := by
            rw [app_eq, app_eq]
            simp only [Array.toList_append, List.append_assoc]
            exact (((f2.mono e1).mono (bind1_ext n1))).append (RL.append ⟨_, _, rfl, ⟨_, bind1_same _ _ _, by rw [hsz1]⟩, rfl⟩ ((f3.mono e1).mono (bind1_ext n1)))
          obtain ⟨c1, c2⟩ := RC.call false g _ _ cv h' hcall _ _ _ i2 hargs
          obtain ⟨x, w', c3, ρ', c4, c5, c6⟩ := c2 (b.atR { a with defers := [{ target := .collected w.heap.size, args := #[] }] ++ a.defers } (.inRangeFunc (w.heap.size + 1) :: k) :: cs) (by simp)
          have st1 := stepR_rangeFunc (P := P) (k := k) (cs := cs) hent hres (show (invoke (.fn (.func g) ys) (xs ++ #[Value.func (.yield (w.heap.size + 1)) #[] #[]])).run P _ = _ from c1 _)
          have st2 := Ret.step c3
          rw [finish_atR_inRangeFunc] at st2
          have hF : Fr ρ h w ρ' h' w' := (fr1.trans fr2).trans c6
          have sR : St ρ0 h0 w0 fr.nt ρ' T (.coll h.n :: D) h' { a with defers := [{ target := .collected w.heap.size, args := #[] }] ++ a.defers } w' :=
            ⟨s.tr.mono hF.ext, s.nt, ⟨_, _, rfl, ⟨⟨w.heap.size, 0, 0⟩, c6.ext _ _ (bind1_ext n1 _ _ (bind1_same _ _ _)), rfl⟩, s.dl.mono hF.ext⟩, c5, s.fr.trans hF⟩
          show XOK P fr b cs k _ ρ0 h0 w0 (rfEnd2 (Pth.succ h.n) T (.coll h.n :: D) h' (h'.t.get (Pth.succ h.n)))
          cases hg : h'.t.get (Pth.succ h.n) with
          | none => exact trivial
          | some o =>
            cases o <;> try exact trivial
            rename_i T2 ps2 asg2 body2 fn2 nt2 st2' pend
            have hloc : ρ' (Pth.succ h.n) = some ⟨(w.alloc (.deferred (some []))).heap.size, 0, 0⟩ := c6.ext _ _ (bind1_same _ _ _)
            obtain ⟨l', g1, lp, g2, g3, g4, g5, g6, g7, g8, g9, g10⟩ := c5.obj _ _ hg
            rw [hloc] at g1; cases g1
            have g2 : w'.heap[w.heap.size + 1]? = some (.loop lp) := by rw [hsz1] at g2; exact g2
            have hbound : w.heap.size + 1 < w'.heap.size := (Array.getElem?_eq_some_iff.1 g2).1
            have hnb : lp.state ≠ .busy := by rcases g10 with ⟨_, q, _⟩ | ⟨_, q, _⟩ <;> rw [q] <;> simp
            have hpend : lp.pending = pend := by rcases g10 with ⟨_, _, q1, q2⟩ | ⟨_, _, q, _⟩ <;> simp_all
            have hend := run_endLoop (P := P) g2 hnb
            rw [hpend] at hend
            have st3 := stepR_endRangeFunc (P := P) (b := b) (a := { a with defers := [{ target := .collected w.heap.size, args := #[] }] ++ a.defers }) (k := k) (cs := cs) hend
            obtain ⟨d1, d2⟩ := drop_obj (w' := w'.putObj (w.heap.size + 1) (.loop { lp with state := .exhausted, pending := pend })) c5 hg hloc (fun q hq => by
              show (w'.heap.setIfInBounds _ _)[q]? = _
              rw [Array.getElem?_setIfInBounds, if_neg (fun e => hq (by rw [← e, hsz1]))]) (by show (w'.heap.setIfInBounds _ _).size = _; simp) rfl rfl rfl
            have sE := sR.step d1 d2
            have stAll : Steps P (lone (b.atR a (.code (.rangeFunc f ps asg body) :: k)) cs w) (lone (b.atR { a with defers := [{ target := .collected w.heap.size, args := #[] }] ++ a.defers } ((pend.map Item.code).toList ++ k)) cs (w'.putObj (w.heap.size + 1) (.loop { lp with state := .exhausted, pending := pend }))) :=
              .head st1 (Steps.trans st2 (.one st3))
            show XOK P fr b cs k _ ρ0 h0 w0 (pendX T (.coll h.n :: D) ⟨put h'.t (Pth.succ h.n) none, h'.n⟩ pend)
            cases pend with
            | none => exact ⟨ρ', _, _, sE, stAll⟩
            | some c =>
              cases c <;> try exact trivial
              · exact ⟨ρ', _, _, sE, k, rfl, stAll⟩
              · exact ⟨ρ', _, _, sE, k, stAll⟩
/-- all code -/
theorem code_ok (K : EnvOK P E) (PO : PrimOK P E) (RC : RcOK P r) (DS : DrawSound P E r) (FO : FrOK fr b cs) : ∀ (c : Code) {ρ : Rho} {T : Tr V} {D : List AD} {h : H} {a : Act} {w : World} {k : List Item}, St ρ0 h0 w0 fr.nt ρ T D h a w →
    XOK P fr b cs k (lone (b.atR a (.code c :: k)) cs w) ρ0 h0 w0 ((cc E fr.nt c).f r fr T D h) := by
  intro c
  induction c with
  | skip => intro ρ T D h a w k s; exact ⟨ρ, a, w, s, .one stepR_skip⟩
  | label l => intro ρ T D h a w k s; exact ⟨ρ, a, w, s, .one stepR_label⟩
  | exit id => intro ρ T D h a w k s; exact ⟨ρ, a, w, s, k, rfl, .refl P _⟩
  | ret => intro ρ T D h a w k s; exact ⟨ρ, a, w, s, k, .refl P _⟩
  | region id ops draw =>
    intro ρ T D h a w k s
    show XOK P fr b cs k _ ρ0 h0 w0 (xR ((regB E fr.nt ops.toList draw).f r fr T D h))
    cases hk : (regB E fr.nt ops.toList draw).f r fr T D h with
    | no => exact trivial
    | ok T' D' h' =>
      cases draw with
      | true => obtain ⟨ρ', a', w', h1, h2⟩ := DS fr b cs k ops id ρ0 h0 w0 ρ T D h a w T' D' h' FO s hk; exact ⟨ρ', a', w', h1, h2⟩
      | false => obtain ⟨ρ', a', w', h1, h2⟩ := region_ok (id := id) K PO RC FO s hk; exact ⟨ρ', a', w', h1, h2⟩
  | seq x y ihx ihy =>
    intro ρ T D h a w k s
    have hx := ihx (k := .code y :: k) s
    show XOK P fr b cs k _ ρ0 h0 w0 (andC (cc E fr.nt y) r fr ((cc E fr.nt x).f r fr T D h))
    cases hk : (cc E fr.nt x).f r fr T D h with
    | no => exact trivial
    | ok e T' D' h' =>
      rw [hk] at hx
      refine XOK.of (.one stepR_seq) ?_
      cases e with
      | norm =>
        obtain ⟨ρ', a', w', h1, h2⟩ := hx
        exact XOK.of h2 (ihy h1)
      | exit j => exact (show XOK P fr b cs k _ ρ0 h0 w0 (.ok (.exit j) T' D' h') from XOK.pass (it := .code y) (fun _ _ => rfl) (fun _ _ _ e => by cases e) hx)
      | ret => exact (show XOK P fr b cs k _ ρ0 h0 w0 (.ok .ret T' D' h') from XOK.pass (it := .code y) (fun _ _ => rfl) (fun _ _ _ e => by cases e) hx)
  | cond x y z ihy ihz =>
    intro ρ T D h a w k s
    show XOK P fr b cs k _ ρ0 h0 w0 (condX (cc E fr.nt y) (cc E fr.nt z) r fr T D h ((aB x).f T))
    cases hx : (aB x).f T with
    | none => exact trivial
    | some v =>
      have hR := aB_R hx s.tr
      rw [evO_eq] at hR
      cases v <;> try exact trivial
      rename_i t
      have hst := stepR_cond (P := P) (b := b) (k := k) (cs := cs) (w := w) (x := y) (y := z) (show a.eval x = .bool t from hR)
      cases t with
      | true => exact XOK.of (.one hst) (ihy s)
      | false => exact XOK.of (.one hst) (ihz s)
  | block id x ih =>
    intro ρ T D h a w k s
    have hx := ih (k := .inBlock id :: k) s
    show XOK P fr b cs k _ ρ0 h0 w0 (blockX id ((cc E fr.nt x).f r fr T D h))
    cases hk : (cc E fr.nt x).f r fr T D h with
    | no => exact trivial
    | ok e T' D' h' =>
      rw [hk] at hx
      refine XOK.of (.one stepR_block) ?_
      obtain ⟨ρ', a', w', h1, h2⟩ := hx
      cases e with
      | norm => exact ⟨ρ', a', w', h1, Steps.trans h2 (.one stepR_inBlock)⟩
      | ret => exact ⟨ρ', a', w', h1, h2⟩
      | exit j =>
        obtain ⟨t, h3, h4⟩ := h2
        show XOK P fr b cs k _ ρ0 h0 w0 (exitX j T' D' h' (Nat.beq j id))
        cases hb : Nat.beq j id with
        | true =>
          have e : j = id := by simpa using hb
          subst e
          exact ⟨ρ', a', w', h1, Steps.trans h4 (.one (stepR_exit (by rw [h3]; simp [exitTo])))⟩
        | false =>
          have e : ¬ id = j := by intro e; subst e; simp at hb
          exact ⟨ρ', a', w', h1, t, by rw [h3]; simp [exitTo, e], h4⟩
  | loop x ih =>
    intro ρ T D h a w k s
    have hx := ih (k := .inLoop x :: k) s
    show XOK P fr b cs k _ ρ0 h0 w0 (loopX r fr x ((cc E fr.nt x).f r fr T D h))
    cases hk : (cc E fr.nt x).f r fr T D h with
    | no => exact trivial
    | ok e T' D' h' =>
      rw [hk] at hx
      refine XOK.of (.one stepR_loop) ?_
      cases e with
      | norm =>
        obtain ⟨ρ', a', w', h1, h2⟩ := hx
        exact XOK.of h2 (RC.loop fr x T' D' h' b cs k ρ0 h0 w0 ρ' a' w' FO h1)
      | exit j => exact (show XOK P fr b cs k _ ρ0 h0 w0 (.ok (.exit j) T' D' h') from XOK.pass (it := .inLoop x) (fun _ _ => rfl) (fun _ _ _ e => by cases e) hx)
      | ret => exact (show XOK P fr b cs k _ ρ0 h0 w0 (.ok .ret T' D' h') from XOK.pass (it := .inLoop x) (fun _ _ => rfl) (fun _ _ _ e => by cases e) hx)
  | scope x ih =>
    intro ρ T D h a w k s
    have hx := ih (k := .inScope x :: k) s
    show XOK P fr b cs k _ ρ0 h0 w0 ((cc E fr.nt x).f r fr T D h)
    cases hk : (cc E fr.nt x).f r fr T D h with
    | no => exact trivial
    | ok e T' D' h' =>
      rw [hk] at hx
      refine XOK.of (.one stepR_scope) ?_
      cases e with
      | norm =>
        obtain ⟨ρ', a', w', h1, h2⟩ := hx
        exact ⟨ρ', a', w', h1, Steps.trans h2 (.one stepR_inScope)⟩
      | exit j => exact (show XOK P fr b cs k _ ρ0 h0 w0 (.ok (.exit j) T' D' h') from XOK.pass (it := .inScope x) (fun _ _ => rfl) (fun _ _ _ e => by cases e) hx)
      | ret => exact (show XOK P fr b cs k _ ρ0 h0 w0 (.ok .ret T' D' h') from XOK.pass (it := .inScope x) (fun _ _ => rfl) (fun _ _ _ e => by cases e) hx)
  | rangeFunc f ps asg body _ _ => intro ρ T D h a w k s; exact rf_ok K RC FO s
  | goto l => intro ρ T D h a w k s; exact trivial
  | refuse why => intro ρ T D h a w k s; exact trivial
end
end
end Go.Ev
namespace Go.Ev
open Go
noncomputable section
variable {P : Program} {E : Env}

/-! ### arguments -/
theorem setArgs_TR {ρ : Rho} {tm : Array Value} : ∀ {vs : List V} {xs : List Value} {k : Nat} {T : Tr V}, RL ρ vs xs → (∀ (j : Nat) x, xs[j]? = some x → tm[k + j]? = some x) → TR ρ T tm → TR ρ (setArgs vs k T) tm
  | [], _, _, _, _, _, hT => hT
  | v :: vs, _, k, T, h, hx, hT => by
    obtain ⟨x, r, rfl, h1, h2⟩ := h
    show TR ρ (setArgs vs (Nat.succ k) (Tr.put (Pth.of k) T (some v))) tm
    refine setArgs_TR h2 (fun j y hy => ?_) ?_
    · have := hx (j + 1) y (by simpa using hy)
      rw [show Nat.succ k + j = k + (j + 1) by omega]; exact this
    · intro p u hp
      rw [Tr.get_put] at hp
      split at hp
      · rename_i e
        subst e; cases hp
        exact ⟨x, by rw [Pth.nat_of]; simpa using hx 0 x rfl, h1⟩
      · exact hT p u hp
theorem TR.empty (ρ : Rho) (tm : Array Value) : TR ρ .e tm := fun p v h => by cases h

/-! ### results -/
theorem loadVar_R (K : EnvOK P E) {ρ : Rho} {h : H} {w : World} (hI : Inv ρ h w) {i : Pth} {off : Nat} {t : TypeId} {v : V} {l : Loc} (hl : ρ i = some l) (hv : resL h i off (E.tt t) = some v) :
    ∃ x, (loadVar t ⟨l.blk, l.off + off, none⟩).run P w = .ok x w ∧ R ρ v x := by
  cases ht : E.tt t with
  | none => rw [ht] at hv; cases hv
  | some ti =>
    rw [ht] at hv
    simp only [resL] at hv
    cases hag : ti.ag with
    | true =>
      rw [hag] at hv
      cases hr : rdCells h i off ti.size with
      | none => rw [hr] at hv; cases hv
      | some r =>
        rw [hr] at hv; cases hv
        obtain ⟨xs, h1, h2, h3, h4⟩ := read_cells hI.o hr hl
        exact ⟨.agg xs.toArray, by simp [loadVar, run_agg K ht, hag, run_size K ht, run_cells h2 h4], _, rfl, h1, h3⟩
    | false =>
      rw [hag] at hv
      obtain ⟨x, h1, h2, _⟩ := read_cell hI.o hv hl
      exact ⟨x, by simp [loadVar, run_agg K ht, hag, h1], h2⟩
def resOne (tmps : Array Value) : ResultVar → Sem Value
  | .tmp t => pure (tmps.getD t undef)
  | .cell a t => do loadVar t (← asAddr (tmps.getD a undef))
theorem resOne_R (K : EnvOK P E) {ρ : Rho} {h : H} {w : World} {T : Tr V} {tm : Array Value} (hT : TR ρ T tm) (hI : Inv ρ h w) {x : ResultVar} {v : V} (hv : evResult E T h x = some v) : ∃ y, (resOne tm x).run P w = .ok y w ∧ R ρ v y := by
  cases x with
  | tmp t =>
    have := aB_R (x := .tmp t) (show (aB (.tmp t)).f T = some v from hv) hT
    exact ⟨_, rfl, this⟩
  | cell c t =>
    have hv : resPt h (E.tt t) (T.get (Pth.of c)) = some v := hv
    cases hc : T.get (Pth.of c) with
    | none => rw [hc] at hv; cases hv
    | some u =>
      rw [hc] at hv
      have hR := aB_R (x := .tmp c) (show (aB (.tmp c)).f T = some u from hc) hT
      cases u <;> try cases hv
      rename_i i off
      obtain ⟨l, h1, h2⟩ := hR
      have h2 : tm.getD c undef = .pointer (some ⟨l.blk, l.off + off, none⟩) := h2
      obtain ⟨x, h3, h4⟩ := loadVar_R K hI (t := t) h1 hv
      exact ⟨x, by simp only [resOne, h2, Sem.run_bind, asAddr, Sem.run_pure, Result.andThen_ok, h3], h4⟩
theorem resAll_R (K : EnvOK P E) {ρ : Rho} {h : H} {w : World} {T : Tr V} {tm : Array Value} (hT : TR ρ T tm) (hI : Inv ρ h w) : ∀ {rs : List ResultVar} {vs : List V}, evResults E T h rs = some vs → ∃ ys, (rs.mapM (resOne tm)).run P w = .ok ys w ∧ RL ρ vs ys
  | [], vs, hv => by cases hv; exact ⟨[], rfl, rfl⟩
  | x :: rs, vs, hv => by
    have hv : cons2 (evResult E T h x) (evResults E T h rs) = some vs := hv
    cases h1 : evResult E T h x with
    | none => rw [h1] at hv; cases hv
    | some v =>
      cases h2 : evResults E T h rs with
      | none => rw [h1, h2] at hv; cases hv
      | some r =>
        rw [h1, h2] at hv; cases hv
        obtain ⟨y, h3, h4⟩ := resOne_R K hT hI h1
        obtain ⟨ys, h5, h6⟩ := resAll_R K hT hI h2
        exact ⟨y :: ys, by simp [List.mapM_cons, h3, h5], _, _, rfl, h4, h6⟩
theorem results_R (K : EnvOK P E) {ρ : Rho} {h h' : H} {w : World} {T : Tr V} {tm : Array Value} (hT : TR ρ T tm) (hI : Inv ρ h w) {F : Func} {v : V} (hv : retV h (evResults E T h F.results.toList) = .ok v h') :
    h' = h ∧ ∃ x, (results F tm).run P w = .ok x w ∧ R ρ v x := by
  cases hr : evResults E T h F.results.toList with
  | none => rw [hr] at hv; cases hv
  | some vs =>
    rw [hr] at hv; cases hv
    obtain ⟨ys, h1, h2⟩ := resAll_R K hT hI hr
    have h1' : (F.results.mapM (resOne tm)).run P w = .ok ys.toArray w := by
      rw [← Array.toArray_toList (xs := F.results), List.mapM_toArray, Sem.run_map, h1]; rfl
    have e : results F tm = (do let vs ← F.results.mapM (resOne tm); pure (if h : vs.size = 1 then vs[0] else .tuple vs)) := by
      unfold results
      congr 1
    rw [e]
    simp only [Sem.run_bind, h1', Result.andThen_ok, Sem.run_pure]
    refine ⟨trivial, _, rfl, ?_⟩
    cases vs with
    | nil => simp only [RL] at h2; subst h2; exact ⟨_, rfl, rfl⟩
    | cons v vs =>
      obtain ⟨y, r, rfl, h3, h4⟩ := h2
      cases vs with
      | nil => simp only [RL] at h4; subst h4; exact h3
      | cons u vs =>
        obtain ⟨z, r2, rfl, h5, h6⟩ := h4
        exact ⟨_, rfl, _, _, rfl, h3, _, _, rfl, h5, h6⟩

/-! ### deferred calls -/
theorem step_collected {fr : Frame} {cs : List Frame} {w w' : World} {d : Deferred} {ds : List Deferred} {blk : Nat} (hm : fr.mode = .returning) (hd : fr.defers = d :: ds) (ht : d.target = .collected blk)
    (hr : (Instr.takeDeferred blk).run P w = .ok [] w') : step P (lone fr cs w) = .next (lone { fr with defers := ds } cs w') := by
  obtain ⟨t, as⟩ := d
  simp only at ht
  subst ht
  exact step_lone_go (by simp [stepG, unwind, hm, hd, Sem.runT_eq, hr])
theorem unwind_ok (K : EnvOK P E) {r : Rc} (RC : RcOK P r) : ∀ {D : List AD} {h h' : H} {ρ : Rho} {w : World} {fr : Frame} {cs : List Frame}, unwindD r D h = some h' → fr.mode = .returning → DL ρ D fr.defers → Inv ρ h w →
    ∃ ρ' w', Steps P (lone fr cs w) (lone { fr with defers := [] } cs w') ∧ Inv ρ' h' w' ∧ Fr ρ h w ρ' h' w'
  | [], h, h', ρ, w, fr, cs, hu, hm, hd, hI => by
    cases hu
    have hd : fr.defers = [] := hd
    have e : ({ fr with defers := [] } : Frame) = fr := by rw [← hd]
    rw [e]
    exact ⟨ρ, w, .refl P _, hI, Fr.refl _ _ _⟩
  | .coll d :: D, h, h', ρ, w, fr, cs, hu, hm, hd, hI => by
    obtain ⟨df, ds, h1, ⟨loc, h2, h3⟩, h4⟩ := hd
    simp only [unwindD] at hu
    cases hg : h.t.get d with
    | none => rw [hg] at hu; cases hu
    | some o =>
      rw [hg] at hu
      cases o <;> try cases hu
      have hu : unwindD r D ⟨put h.t d none, h.n⟩ = some h' := hu
      obtain ⟨l', h5, h6⟩ := hI.obj d _ hg
      rw [h2] at h5; cases h5
      have h6 : w.heap[loc.blk]? = some (.deferred (some [])) := h6
      have st := step_collected (cs := cs) hm h1 h3 (run_takeDeferred (P := P) h6)
      obtain ⟨d1, d2⟩ := drop_obj (w' := w.putObj loc.blk (.deferred none)) hI hg h2 (fun q hq => by
        show (w.heap.setIfInBounds _ _)[q]? = _
        rw [Array.getElem?_setIfInBounds, if_neg (fun e => hq e.symm)]) (by show (w.heap.setIfInBounds _ _).size = _; simp) rfl rfl rfl
      obtain ⟨ρ', w', s1, s2, s3⟩ := unwind_ok (fr := { fr with defers := ds }) (cs := cs) K RC hu hm h4 d1
      exact ⟨ρ', w', .head st s1, s2, d2.trans s3⟩
  | .fn f vs :: D, h, h', ρ, w, fr, cs, hu, hm, hd, hI => by
    obtain ⟨df, ds, h1, ⟨cap, h2, h3⟩, h4⟩ := hd
    simp only [unwindD] at hu
    cases hc : r.call true f vs h with
    | no => rw [hc] at hu; cases hu
    | ok v h1' =>
      rw [hc] at hu
      have hu : unwindD r D h1' = some h' := hu
      obtain ⟨c1, c2⟩ := RC.call true f vs h v h1' hc ρ w _ hI h3
      obtain ⟨x, w1, c3, ρ1, c4, c5, c6⟩ := c2 ({ fr with defers := ds } :: cs) (fun _ => ⟨_, _, rfl, hm⟩)
      have st := step_defer (P := P) (cs := cs) (w := w) (f := f) (args := df.args ++ cap) (by rw [hm]; simp) h1 h2 (by rw [h2]; exact c1 w)
      have st2 := Ret.stepD c3 hm
      obtain ⟨ρ', w', s1, s2, s3⟩ := unwind_ok (fr := { fr with defers := ds }) (cs := cs) K RC hu hm (h4.mono c6.ext) c5
      exact ⟨ρ', w', .head st (Steps.trans st2 s1), s2, c6.trans s3⟩

/-! ### a function -/
theorem call_ok (K : EnvOK P E) (PO : PrimOK P E) {r : Rc} (RC : RcOK P r) (DS : DrawSound P E r) {dfr : Bool} {f : Nat} {vs : List V} {h h' : H} {v : V} (hc : callF E r dfr f vs h = .ok v h') {ρ : Rho} {w : World} {args : Array Value} (hI : Inv ρ h w) (hv : RL ρ vs args.toList) :
    (∀ w, (callFunc f args).run P w = .ok (.enter f args) w) ∧ ∀ cs, (dfr = true → ∃ c rest, cs = c :: rest ∧ c.mode = .returning) → ∃ x w', Ret P f (kindOf dfr) cs args w x w' ∧ Post ρ h w v h' x w' := by
  unfold callF at hc
  cases hF : E.fn f with
  | none => rw [hF] at hc; cases hc
  | some F =>
    rw [hF] at hc
    have hc : (fnB2 E f F.ntmps F.results.toList F.body).f r dfr vs h = .ok v h' := hc
    cases hb : F.body with
    | none => rw [hb] at hc; cases hc
    | some body =>
      rw [hb] at hc
      have hc : retX E r F.results.toList ((cc E F.ntmps body).f r ⟨f, F.ntmps, dfr, false⟩ (setArgs vs 0 .e) [] h) = .ok v h' := hc
      refine ⟨K.enter f F hF (by rw [hb]; rfl) args, fun cs hcs => ?_⟩
      have hfn := K.fn f F hF
      let b : Frame := { (default : Frame) with fn := f, kind := kindOf dfr }
      let a : Act := { tmps := args ++ Array.replicate (F.ntmps - args.size) undef, defers := [] }
      have henter : Frame.enter P f args (kindOf dfr) = b.atR a [.code body] := by
        simp [Frame.enter, Frame.atR, hfn, hb, a, b]; rfl
      have FO : FrOK ⟨f, F.ntmps, dfr, false⟩ b cs := ⟨rfl, rfl, rfl, hcs⟩
      have s : St ρ h w (⟨f, F.ntmps, dfr, false⟩ : FrI).nt ρ (setArgs vs 0 .e) [] h a w := by
        refine ⟨setArgs_TR hv (fun j x hx => ?_) (TR.empty _ _), ?_, rfl, hI, Fr.refl _ _ _⟩
        · have hlt := (List.getElem?_eq_some_iff.1 hx).1
          show (args ++ _)[0 + j]? = some x
          rw [Nat.zero_add, Array.getElem?_append_left (by simpa using hlt), ← Array.getElem?_toList]; exact hx
        · show F.ntmps ≤ (args ++ Array.replicate (F.ntmps - args.size) undef).size
          simp; omega
      have hx := code_ok (k := []) K PO RC DS FO body s
      rw [← henter] at hx
      -- the code has come to its end
      have fin : ∀ (T' : Tr V) (D' : List AD) (h1 : H), retH E F.results.toList T' (unwindD r D' h1) = .ok v h' → ∀ ρ' a' w' todo, St ρ h w F.ntmps ρ' T' D' h1 a' w' →
          Steps P (lone (Frame.enter P f args (kindOf dfr)) cs w) (lone { b.atR a' todo with mode := .returning } cs w') → ∃ x w', Ret P f (kindOf dfr) cs args w x w' ∧ Post ρ h w v h' x w' := by
        intro T' D' h1 hret ρ' a' w' todo s' st
        cases hu : unwindD r D' h1 with
        | none => rw [hu] at hret; cases hret
        | some h2 =>
          rw [hu] at hret
          have hret : retV h2 (evResults E T' h2 F.results.toList) = .ok v h' := hret
          obtain ⟨ρ2, w2, st2, i2, f2⟩ := unwind_ok (fr := { b.atR a' todo with mode := .returning }) (cs := cs) K RC hu rfl s'.dl s'.inv
          obtain ⟨rfl, x, hx1, hx2⟩ := results_R (P := P) K (s'.tr.mono f2.ext) i2 hret
          exact ⟨x, w2, ⟨_, Steps.trans st st2, rfl, rfl, rfl, rfl, F, hfn, hx1⟩, ρ2, hx2, i2, s'.fr.trans f2⟩
      cases hcc : (cc E F.ntmps body).f r ⟨f, F.ntmps, dfr, false⟩ (setArgs vs 0 .e) [] h with
      | no => rw [hcc] at hc; cases hc
      | ok e T' D' h1 =>
        have hx : XOK P ⟨f, F.ntmps, dfr, false⟩ b cs [] (lone (Frame.enter P f args (kindOf dfr)) cs w) ρ h w (.ok e T' D' h1) := by rw [← hcc]; exact hx
        rw [hcc] at hc
        obtain ⟨ρ', a', w', s', ar⟩ := hx
        cases e with
        | norm => exact fin T' D' h1 hc ρ' a' w' [] s' (Steps.trans ar (.one (stepR_end rfl)))
        | ret => obtain ⟨todo, st⟩ := ar; exact fin T' D' h1 hc ρ' a' w' (.code .ret :: todo) s' (Steps.trans st (.one (stepR_ret rfl)))
        | exit j => cases hc
end
end Go.Ev
namespace Go.Ev
open Go
noncomputable section
variable {P : Program} {E : Env}

theorem setPars_TR {ρ : Rho} : ∀ {ps : List Nat} {vs : List V} {xs : List Value} {T T' : Tr V} {tm : Array Value}, setPars ps vs T = some T' → RL ρ vs xs → (∀ k ∈ ps, k < tm.size) → TR ρ T tm →
    TR ρ T' ((ps.zip xs).foldl (fun tmps (p : Nat × Value) => tmps.setIfInBounds p.1 p.2) tm) ∧ ((ps.zip xs).foldl (fun tmps (p : Nat × Value) => tmps.setIfInBounds p.1 p.2) tm).size = tm.size ∧ xs.length = ps.length
  | [], [], xs, T, T', tm, h, hv, _, hT => by cases h; simp only [RL] at hv; subst hv; exact ⟨hT, rfl, rfl⟩
  | [], _ :: _, _, _, _, _, h, _, _, _ => by cases h
  | _ :: _, [], _, _, _, _, h, _, _, _ => by cases h
  | q :: ps, v :: vs, xs, T, T', tm, h, hv, hlt, hT => by
    obtain ⟨x, r, rfl, h1, h2⟩ := hv
    have h : setPars ps vs (Tr.put (Pth.of q) T (some v)) = some T' := h
    have hT' : TR ρ (Tr.put (Pth.of q) T (some v)) (tm.setIfInBounds q x) :=
      TR.put (a := { tmps := tm, defers := [] }) (d := some q) (nt := tm.size) hT (Nat.le_refl _) (by show Nat.blt q tm.size = true; rw [blt_iff]; simpa using hlt q List.mem_cons_self) h1
    obtain ⟨g1, g2, g3⟩ := setPars_TR (tm := tm.setIfInBounds q x) h h2 (fun k hk => by simpa using hlt k (List.mem_cons_of_mem _ hk)) hT'
    exact ⟨by simpa using g1, by simpa using g2, by simp [g3]⟩

theorem poke {ρ : Rho} {h : H} {w w' : World} (hI : Inv ρ h w) {B : Nat} (hB : ∀ i o l, h.t.get i = some o → ρ i = some l → l.blk ≠ B) (hw : ∀ k, k ≠ B → w'.heap[k]? = w.heap[k]?) : Inv ρ h w' :=
  ⟨hI.fresh, fun j oj hj => by obtain ⟨lj, h1, h2⟩ := hI.obj j oj hj; exact ⟨lj, h1, h2.mono (Ext.refl _) (hw _ (hB j oj lj hj h1))⟩, hI.inj⟩
theorem Fr.poke {ρ ρ' : Rho} {h h' : H} {w w' w'' : World} (f : Fr ρ h w ρ' h' w') {i : Pth} {o : AObj} {loc : Loc} (hg : h.t.get i = some o) (hl : ρ i = some loc) (hw : ∀ k, k ≠ loc.blk → w''.heap[k]? = w'.heap[k]?) (hsz : w''.heap.size = w'.heap.size)
    (hos : w''.os = w'.os) (htp : w''.tape = w'.tape) (hou : w''.output = w'.output) : Fr ρ h w ρ' h' w'' :=
  ⟨f.ext, f.old, f.nn, by rw [hsz]; exact f.sz, hos.trans f.os, htp.trans f.tape, hou.trans f.output, fun b hb hn => (hw b (fun e => hn i o loc hg hl e.symm)).trans (f.keep b hb hn), f.img⟩
/-- an object laid back into its block -/
theorem back {ρ : Rho} {h : H} {w : World} (hI : Inv ρ h w) {i : Pth} {loc : Loc} (hl : ρ i = some loc) {o : AObj} (hB : ∀ j oj l, h.t.get j = some oj → ρ j = some l → l.blk ≠ loc.blk) (ho : ObjR ρ o loc w) : Inv ρ ⟨put h.t i (some o), h.n⟩ w := by
  refine ⟨hI.fresh, fun j oj hj => ?_, fun a b oa ob la lb ha hb hab hla hlb => ?_⟩
  · rw [get_put'] at hj
    split at hj
    · rename_i e; subst e; cases hj; exact ⟨loc, hl, ho⟩
    · exact hI.obj j oj hj
  · rw [get_put'] at ha hb
    split at ha
    · rename_i e; subst e
      rw [hl] at hla; cases hla
      split at hb
      · rename_i e; exact absurd e hab
      · exact (hB b ob lb hb hlb).symm
    · split at hb
      · rename_i e; subst e
        rw [hl] at hlb; cases hlb
        exact hB a oa la ha hla
      · exact hI.inj a b oa ob la lb ha hb hab hla hlb
theorem Fr.back {ρ ρ' : Rho} {h h' : H} {w w' : World} (f : Fr ρ h w ρ' h' w') {i : Pth} {o o' : AObj} {loc : Loc} (hg : h.t.get i = some o) (hl : ρ i = some loc) : Fr ρ h w ρ' ⟨put h'.t i (some o'), h'.n⟩ w' :=
  ⟨f.ext, f.old, f.nn, f.sz, f.os, f.tape, f.output, f.keep, fun j oj lj hj hlj => by
    rw [get_put'] at hj
    split at hj
    · rename_i e; subst e
      rw [f.ext _ _ hl] at hlj; cases hlj
      exact .inr ⟨i, o, loc, hg, hl, rfl⟩
    · exact f.img j oj lj hj hlj⟩
/-- a block that no object holds stays, and stays so -/
theorem Fr.out {ρ ρ' : Rho} {h h' : H} {w w' : World} (f : Fr ρ h w ρ' h' w') {B : Nat} (hB : B < w.heap.size) (hn : ∀ i o l, h.t.get i = some o → ρ i = some l → l.blk ≠ B) :
    w'.heap[B]? = w.heap[B]? ∧ ∀ i o l, h'.t.get i = some o → ρ' i = some l → l.blk ≠ B := by
  refine ⟨f.keep B hB hn, fun i o l h1 h2 e => ?_⟩
  rcases f.img i o l h1 h2 with g | ⟨j, oj, lj, g1, g2, g3⟩
  · omega
  · exact hn j oj lj g1 g2 (g3.trans e)

theorem round_ok (K : EnvOK P E) (PO : PrimOK P E) {r : Rc} (RC : RcOK P r) (DS : DrawSound P E r) {l : Pth} {vs : List V} {h h' : H} {v : V} (hc : roundF E r l vs h = .ok v h') {ρ : Rho} {w : World} {args : Array Value} {loc : Loc} (hI : Inv ρ h w) (hl : ρ l = some loc) (hv : RL ρ vs args.toList) :
    ∃ f tmps asg body, (Instr.yield loc.blk args).run P w = .ok (.round loc.blk f tmps asg body) w ∧
      ∀ c cs, ∃ x w', Steps P (lone (Frame.round loc.blk f tmps asg body .normal) (c :: cs) w) (lone (c.finish x) cs w') ∧ Post ρ h w v h' x w' := by
  unfold roundF at hc
  cases hg : h.t.get l with
  | none => rw [hg] at hc; cases hc
  | some o =>
    rw [hg] at hc
    cases o <;> try cases hc
    rename_i T ps asg body fn nt st pend
    cases st with
    | succ n => cases hc
    | zero =>
      have hc : rndGo E r l T ps asg body fn nt ⟨put h.t l none, h.n⟩ (setPars ps vs T) = .ok v h' := hc
      cases hsp : setPars ps vs T with
      | none => rw [hsp] at hc; cases hc
      | some T' =>
        rw [hsp] at hc
        have hc : rndEnd l T ps asg body fn nt (andC (cc E nt body) r ⟨fn, nt, false, true⟩ ((cc E nt asg).f r ⟨fn, nt, false, true⟩ T' [] ⟨put h.t l none, h.n⟩)) = .ok v h' := hc
        obtain ⟨l', h0, lp, h1, h2, h3, h4, h5, h6, h7, h8, h9⟩ := hI.obj l _ hg
        rw [hl] at h0; cases h0
        have hready : lp.state = .ready := by rcases h9 with ⟨_, q, _⟩ | ⟨q, _⟩ <;> first | exact q | cases q
        obtain ⟨p1, p2, p3⟩ := setPars_TR hsp hv (fun k hk => Nat.lt_of_lt_of_le (h8 k hk) h4) h3
        have hsz : args.size = lp.params.size := by
          have : lp.params.size = ps.length := by rw [← h5]; simp
          rw [this, ← p3]; simp
        have hy := run_yield (P := P) h1 hsz
        refine ⟨_, _, _, _, hy, fun c cs => ?_⟩
        have hfold : (lp.params.zip args).foldl (fun tmps (x : Tmp × Value) => tmps.setIfInBounds x.1 x.2) lp.tmps = (ps.zip args.toList).foldl (fun tmps (p : Nat × Value) => tmps.setIfInBounds p.1 p.2) lp.tmps := by
          rw [← Array.foldl_toList, Array.toList_zip, h5]
        let b : Frame := { (default : Frame) with fn := lp.fn, kind := .normal, roundOf := some loc.blk }
        let a : Act := { tmps := (lp.params.zip args).foldl (fun tmps (x : Tmp × Value) => tmps.setIfInBounds x.1 x.2) lp.tmps, defers := [] }
        have hb0 : Frame.round loc.blk lp.fn ((lp.params.zip args).foldl (fun tmps (x : Tmp × Value) => tmps.setIfInBounds x.1 x.2) lp.tmps) lp.assign lp.body .normal = b.atR a [.code lp.assign, .beginRound, .code lp.body] := by
          simp [Frame.round, Frame.atR, b, a]
        have FO : FrOK ⟨fn, nt, false, true⟩ b (c :: cs) := ⟨h2, rfl, rfl, fun e => by cases e⟩
        obtain ⟨k1, k2⟩ := kill hI l
        have s : St ρ ⟨put h.t l none, h.n⟩ w (⟨fn, nt, false, true⟩ : FrI).nt ρ T' [] ⟨put h.t l none, h.n⟩ a w :=
          ⟨by show TR ρ T' ((lp.params.zip args).foldl (fun tmps (x : Tmp × Value) => tmps.setIfInBounds x.1 x.2) lp.tmps); rw [hfold]; exact p1, by show nt ≤ ((lp.params.zip args).foldl (fun tmps (x : Tmp × Value) => tmps.setIfInBounds x.1 x.2) lp.tmps).size; rw [hfold, p2]; exact h4, rfl, k1, Fr.refl _ _ _⟩
        have hBlt : loc.blk < w.heap.size := (Array.getElem?_eq_some_iff.1 h1).1
        have hB0 : ∀ i o l2, (put h.t l none).get i = some o → ρ i = some l2 → l2.blk ≠ loc.blk := by
          intro i o l2 q1 q2
          rw [get_put'] at q1
          split at q1
          · cases q1
          · rename_i e; exact hI.inj i l o _ l2 loc q1 hg (fun e' => e e'.symm) q2 hl
        -- the end of a round
        have fin : ∀ (jump : Option Code) (st' : Nat) (T2 : Tr V) (h2 : H) (ρ2 : Rho) (w2 : World) (lp2 : Loop), Inv ρ2 h2 w2 → Fr ρ h w ρ2 h2 w2 → w2.heap[loc.blk]? = some (.loop lp2) → (∀ i o l2, h2.t.get i = some o → ρ2 i = some l2 → l2.blk ≠ loc.blk) →
            lp2.fn = lp.fn → lp2.tmps = lp.tmps → lp2.params = lp.params → lp2.assign = lp.assign → lp2.body = lp.body → (st' = 0 ∧ jump = none ∨ st' = 1 ∧ jump ≠ none) →
            ∃ w3, (Instr.endRound loc.blk jump).run P w2 = .ok (.bool jump.isNone) w3 ∧ Inv ρ2 ⟨put h2.t l (some (.lp T ps asg body fn nt st' jump)), h2.n⟩ w3 ∧ Fr ρ h w ρ2 ⟨put h2.t l (some (.lp T ps asg body fn nt st' jump)), h2.n⟩ w3 := by
          intro jump st' T2 g2 ρ2 w2 lp2 i2 f2 e1 e2 e3 e4 e5 e6 e7 e8
          have hend := run_endRound (P := P) jump e1
          have hblt : loc.blk < w2.heap.size := (Array.getElem?_eq_some_iff.1 e1).1
          have hoth : ∀ (o : Obj) k, k ≠ loc.blk → (w2.putObj loc.blk o).heap[k]? = w2.heap[k]? := by
            intro o k hk
            show (w2.heap.setIfInBounds _ _)[k]? = _
            rw [Array.getElem?_setIfInBounds, if_neg (fun e => hk e.symm)]
          refine ⟨_, hend, back (poke i2 e2 (hoth _)) (f2.ext _ _ hl) e2 ?_, Fr.back (Fr.poke f2 hg hl (hoth _) (by show (w2.heap.setIfInBounds _ _).size = _; simp) rfl rfl rfl) hg hl⟩
          refine ⟨{ lp2 with state := if jump.isNone then .ready else .done, pending := jump }, ?_, by show lp2.fn = fn; rw [e3]; exact h2, by show TR ρ2 T lp2.tmps; rw [e4]; exact h3.mono f2.ext, by show nt ≤ lp2.tmps.size; rw [e4]; exact h4, by show lp2.params.toList = ps; rw [e5]; exact h5, by show lp2.assign = asg; rw [e6]; exact h6, by show lp2.body = body; rw [e7]; exact h7, h8, ?_⟩
          · show (w2.heap.setIfInBounds _ _)[loc.blk]? = _
            rw [Array.getElem?_setIfInBounds]; simp [hblt]
          · rcases e8 with ⟨rfl, rfl⟩ | ⟨rfl, q⟩
            · exact .inl ⟨rfl, rfl, rfl, rfl⟩
            · cases jump with
              | none => exact absurd rfl q
              | some j => exact .inr ⟨rfl, rfl, rfl, q⟩
        have hx := code_ok (k := [.beginRound, .code lp.body]) K PO RC DS FO lp.assign s
        rw [h6] at hx
        rw [hb0, h6, h7]
        rw [h7] at hx
        cases hcc : (cc E nt asg).f r ⟨fn, nt, false, true⟩ T' [] ⟨put h.t l none, h.n⟩ with
        | no => rw [hcc] at hc; cases hc
        | ok e T1 D1 g1 =>
          rw [hcc] at hc
          have hx : XOK P ⟨fn, nt, false, true⟩ b (c :: cs) [.beginRound, .code body] (lone (b.atR a (.code asg :: [.beginRound, .code body])) (c :: cs) w) ρ ⟨put h.t l none, h.n⟩ w (.ok e T1 D1 g1) := by rw [← hcc]; exact hx
          obtain ⟨ρ1, a1, w1, s1, ar1⟩ := hx
          obtain ⟨q1, q2⟩ := s1.fr.out hBlt hB0
          rw [h1] at q1
          have f1 : Fr ρ h w ρ1 g1 w1 := k2.trans s1.fr
          cases e with
          | exit j =>
            have hc : rndEnd l T ps asg body fn nt (.ok (.exit j) T1 D1 g1) = .ok v h' := hc
            cases D1 with
            | cons _ _ => cases hc
            | nil =>
              cases hc
              obtain ⟨w3, t1, t2, t3⟩ := fin (some (.exit j)) 1 T1 g1 ρ1 w1 lp s1.inv f1 q1 q2 rfl rfl rfl rfl rfl (.inr ⟨rfl, by simp⟩)
              obtain ⟨todo, t4, t5⟩ := ar1
              exact ⟨_, w3, Steps.trans t5 (.one (stepR_round_exit rfl rfl t4 t1)), ρ1, rfl, t2, t3⟩
          | ret =>
            have hc : rndEnd l T ps asg body fn nt (.ok .ret T1 D1 g1) = .ok v h' := hc
            cases D1 with
            | cons _ _ => cases hc
            | nil =>
              cases hc
              obtain ⟨w3, t1, t2, t3⟩ := fin (some .ret) 1 T1 g1 ρ1 w1 lp s1.inv f1 q1 q2 rfl rfl rfl rfl rfl (.inr ⟨rfl, by simp⟩)
              obtain ⟨todo, t5⟩ := ar1
              exact ⟨_, w3, Steps.trans t5 (.one (stepR_round_ret rfl rfl t1)), ρ1, rfl, t2, t3⟩
          | norm =>
            have hc : rndEnd l T ps asg body fn nt ((cc E nt body).f r ⟨fn, nt, false, true⟩ T1 D1 g1) = .ok v h' := hc
            have hbr := run_beginRound (P := P) q1 hready
            have hB1 : loc.blk < w1.heap.size := (Array.getElem?_eq_some_iff.1 q1).1
            have hoth : ∀ k, k ≠ loc.blk → (w1.putObj loc.blk (.loop { lp with state := .busy })).heap[k]? = w1.heap[k]? := by
              intro k hk
              show (w1.heap.setIfInBounds _ _)[k]? = _
              rw [Array.getElem?_setIfInBounds, if_neg (fun e => hk e.symm)]
            have i1 := poke s1.inv q2 hoth
            have f1' : Fr ρ h w ρ1 g1 (w1.putObj loc.blk (.loop { lp with state := .busy })) := Fr.poke f1 hg hl hoth (by show (w1.heap.setIfInBounds _ _).size = _; simp) rfl rfl rfl
            have hb1 : (w1.putObj loc.blk (.loop { lp with state := .busy })).heap[loc.blk]? = some (.loop { lp with state := .busy }) := by
              show (w1.heap.setIfInBounds _ _)[loc.blk]? = _
              rw [Array.getElem?_setIfInBounds]; simp [hB1]
            have s2 : St ρ1 g1 (w1.putObj loc.blk (.loop { lp with state := .busy })) (⟨fn, nt, false, true⟩ : FrI).nt ρ1 T1 D1 g1 a1 (w1.putObj loc.blk (.loop { lp with state := .busy })) := ⟨s1.tr, s1.nt, s1.dl, i1, Fr.refl _ _ _⟩
            have hy2 := code_ok (k := []) K PO RC DS FO body s2
            have st1 : Steps P (lone (b.atR a (.code asg :: [.beginRound, .code body])) (c :: cs) w) (lone (b.atR a1 [.code body]) (c :: cs) (w1.putObj loc.blk (.loop { lp with state := .busy }))) :=
              Steps.trans ar1 (.one (stepR_beginRound rfl hbr))
            cases hcb : (cc E nt body).f r ⟨fn, nt, false, true⟩ T1 D1 g1 with
            | no => rw [hcb] at hc; cases hc
            | ok e2 T3 D3 g3 =>
              rw [hcb] at hc
              have hy2 : XOK P ⟨fn, nt, false, true⟩ b (c :: cs) [] (lone (b.atR a1 (.code body :: [])) (c :: cs) (w1.putObj loc.blk (.loop { lp with state := .busy }))) ρ1 g1 (w1.putObj loc.blk (.loop { lp with state := .busy })) (.ok e2 T3 D3 g3) := by rw [← hcb]; exact hy2
              obtain ⟨ρ3, a3, w3, s3, ar3⟩ := hy2
              obtain ⟨u1, u2⟩ := s3.fr.out (by rw [show (w1.putObj loc.blk (.loop { lp with state := .busy })).heap.size = w1.heap.size by show (w1.heap.setIfInBounds _ _).size = _; simp]; exact hB1) q2
              rw [hb1] at u1
              have f3 := f1'.trans s3.fr
              have hD : D3 = [] := by
                cases D3 with
                | nil => rfl
                | cons _ _ => cases e2 <;> cases hc
              subst hD
              cases e2 with
              | norm =>
                cases hc
                obtain ⟨w4, t1, t2, t3⟩ := fin none 0 T3 g3 ρ3 w3 _ s3.inv f3 u1 u2 rfl rfl rfl rfl rfl (.inl ⟨rfl, rfl⟩)
                exact ⟨_, w4, st1.trans (Steps.trans ar3 (.one (stepR_round_end rfl rfl t1))), ρ3, rfl, t2, t3⟩
              | exit j =>
                cases hc
                obtain ⟨w4, t1, t2, t3⟩ := fin (some (.exit j)) 1 T3 g3 ρ3 w3 _ s3.inv f3 u1 u2 rfl rfl rfl rfl rfl (.inr ⟨rfl, by simp⟩)
                obtain ⟨todo, t4, t5⟩ := ar3
                exact ⟨_, w4, st1.trans (Steps.trans t5 (.one (stepR_round_exit rfl rfl t4 t1))), ρ3, rfl, t2, t3⟩
              | ret =>
                cases hc
                obtain ⟨w4, t1, t2, t3⟩ := fin (some .ret) 1 T3 g3 ρ3 w3 _ s3.inv f3 u1 u2 rfl rfl rfl rfl rfl (.inr ⟨rfl, by simp⟩)
                obtain ⟨todo, t5⟩ := ar3
                exact ⟨_, w4, st1.trans (Steps.trans t5 (.one (stepR_round_ret rfl rfl t1))), ρ3, rfl, t2, t3⟩

theorem loop_ok (K : EnvOK P E) (PO : PrimOK P E) {r : Rc} (RC : RcOK P r) (DS : DrawSound P E r) (fr : FrI) (c : Code) (T : Tr V) (D : List AD) (h : H) (b : Frame) (cs : List Frame) (k : List Item) (ρ0 : Rho) (h0 : H) (w0 : World) (ρ : Rho) (a : Act) (w : World)
    (FO : FrOK fr b cs) (s : St ρ0 h0 w0 fr.nt ρ T D h a w) : XOK P fr b cs k (lone (b.atR a (.inLoop c :: k)) cs w) ρ0 h0 w0 (loopF E r fr c T D h) := by
  have hx := code_ok (k := .inLoop c :: k) K PO RC DS FO c s
  unfold loopF
  cases hk : (cc E fr.nt c).f r fr T D h with
  | no => exact trivial
  | ok e T' D' h' =>
    rw [hk] at hx
    refine XOK.of (.one stepR_inLoop) ?_
    cases e with
    | norm =>
      obtain ⟨ρ', a', w', h1, h2⟩ := hx
      exact XOK.of h2 (RC.loop fr c T' D' h' b cs k ρ0 h0 w0 ρ' a' w' FO h1)
    | exit j => exact (show XOK P fr b cs k _ ρ0 h0 w0 (.ok (.exit j) T' D' h') from XOK.pass (it := .inLoop c) (fun _ _ => rfl) (fun _ _ _ e => by cases e) hx)
    | ret => exact (show XOK P fr b cs k _ ρ0 h0 w0 (.ok .ret T' D' h') from XOK.pass (it := .inLoop c) (fun _ _ => rfl) (fun _ _ _ e => by cases e) hx)
theorem rc_ok (K : EnvOK P E) (PO : PrimOK P E) (DS : ∀ r, RcOK P r → DrawSound P E r) : ∀ n, RcOK P (rc E n)
  | 0 => ⟨fun _ _ _ _ _ _ h => (by cases h), fun _ _ _ _ _ _ _ _ _ _ _ _ _ _ _ _ => trivial, fun _ _ _ _ _ h => (by cases h)⟩
  | n + 1 => by
    have ih := rc_ok K PO DS n
    exact ⟨fun dfr f vs h v h' hc ρ w args hI hv => call_ok K PO ih (DS _ ih) hc hI hv,
      fun fr c T D h b cs k ρ0 h0 w0 ρ a w FO s => loop_ok K PO ih (DS _ ih) fr c T D h b cs k ρ0 h0 w0 ρ a w FO s,
      fun l vs h v h' hc ρ w args loc hI hl hv => round_ok K PO ih (DS _ ih) hc hI hl hv⟩
end
end Go.Ev
