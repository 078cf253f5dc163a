/-
  Regions that draw their order: writes, calls, reads: the evaluator is sound; its environment.
-/
import Derived.Test.YtigkkoidkjdeaaaGreatDoorEvE
import Derived.Test.YtigkkoidkjdeaaaGreatDoorEvA
namespace Go.Ev
open Go
noncomputable section
open Classical
variable {P : Program} {E : Env} {N0 : Pth} {cnt : Nat} {r : Rc} {fr : FrI} {t tb tr u1 u2 : List TE} {s0 sF sb : DS} {HS : H} {S : Nat → Prop} {ρ ρ' ρ0 : Rho} {w w' w0 : World} {ds ds' : List Deferred} {h0 : H} {e : TE}

theorem EffT.wr_nw {e : TE} (h : EffT N0 r fr e) {i : Pth} (hw : e.wr.at = some i) : e.nw = none := by
  obtain ⟨_, _, _, _, _, _, _, _, _, _, g⟩ := h.wr hw
  simp only [TE.nw]
  rcases g with ⟨_, _, _, _, _, _, g⟩ | ⟨_, _, _, _, g, _⟩
  · rw [g]; cases e.x.g.f e.S <;> cases e.x.isk <;> rfl
  · rw [g]; cases e.x.g.f e.S <;> cases e.x.isk <;> rfl
theorem ef_wr {e : TE} (h : EffT N0 r fr e) {i : Pth} (hw : e.wr.at = some i) (x : Option AObj) : ef N0 e i x = obW e.wr x := by
  unfold ef
  rw [h.wr_nw hw]
  simp only
  rw [if_pos hw]
/-- the object that a write is at, in the plan and in fact -/
theorem MA.view (m : MA N0 cnt r fr t s0 sF tb tr sb HS S ρ w ds ρ0 h0 w0) (d : Rdy N0 r fr t tb tr u1 u2 s0 sb sF S e) {i : Pth} (hi : ρ i ≠ none) (hk : hsOK e.x.msk i e.s = true) :
    ∃ b o0, (∀ y ∈ b, y ∈ u1) ∧ e.s.h.t.get i = go N0 (fun _ => True) i b o0 ∧ HS.t.get i = go N0 S i u2 (go N0 S i b o0) := by
  obtain ⟨p1, p2, p3⟩ := split_tr m d.hu
  have g2 := (go_add d i (sb.h.t.get i)).2
  rcases hsOK_cases hk with hall | hns
  · have hq : ∀ y ∈ u1, ¬ y.call := by
      intro y hy hc
      obtain ⟨q1, _, _, _, _, _, q2⟩ := p1.mem hy
      obtain ⟨_, _, q3, _⟩ := q1.call hc
      exact m.nocall y (by rw [d.hu]; simp [hy]) hc (d.he _ (hall _ (q2 _ q3)))
    exact ⟨u1, _, fun _ h => h, (p1.quiet hq).2.2.2 i, by rw [m.get, g2]⟩
  · rcases p1.newest hns with ⟨g, _⟩ | ⟨a, y, b, o, rfl, rfl, g3, g4⟩
    · rw [m.ns] at g; cases g
    · obtain ⟨_, _, _, k2, k3⟩ := p1.split
      have k2 : EffT N0 r fr y := k2
      obtain ⟨_, _, _, hyc⟩ := k2.new g3
      have hSy : S y.x.ix := Classical.byContradiction fun hn => hi (m.un y (by rw [m.ht, d.hu]; simp) hn)
      refine ⟨b, some o, fun z hz => by simp [hz], ?_, ?_⟩
      · rw [(k3.quiet g4).2.2.2, (eff_heap k2 hyc).2.2.2, ef_nw g3]
      · rw [m.get, g2, go_append]
        congr 1
        show go N0 S _ b (if S y.x.ix then ef N0 y _ _ else _) = _
        rw [if_pos hSy, ef_nw g3]
/-- who lays this object, of those ahead of e, is done -/
theorem MA.laid (m : MA N0 cnt r fr t s0 sF tb tr sb HS S ρ w ds ρ0 h0 w0) {i : Pth} (hi : ρ i ≠ none) {y : TE} (hy : y ∈ tr) (hid : i = Pth.adv N0 y.x.ix) : S y.x.ix :=
  Classical.byContradiction fun hn => hi (by rw [hid]; exact m.un y (by rw [m.ht]; simp [hy]) hn)
/-- no one that is done and behind a write lays its object -/
theorem Rdy.noNew (m : MA N0 cnt r fr t s0 sF tb tr sb HS S ρ w ds ρ0 h0 w0) (d : Rdy N0 r fr t tb tr u1 u2 s0 sb sF S e) {i : Pth} (hw : e.wr.at = some i) {z : TE} (hz : z ∈ u2) {o : AObj} (hn : z.nw = some o) : i ≠ Pth.adv N0 z.x.ix := by
  obtain ⟨p1, p2, p3⟩ := split_tr m d.hu
  obtain ⟨wf, _, _, h3, h4, _⟩ := p2.wr hw
  obtain ⟨q1, q2, _⟩ := p3.mem hz
  obtain ⟨_, _, q5, _⟩ := q1.new hn
  rcases noW_mem q5 wf (q2 _ h4) with g | g
  · rw [zero_bit] at g; cases g
  · intro hh; exact g (by rw [h3, hh])
theorem MA.shape (m : MA N0 cnt r fr t s0 sF tb tr sb HS S ρ w ds ρ0 h0 w0) (d : Rdy N0 r fr t tb tr u1 u2 s0 sb sF S e) {i : Pth} (hi : ρ i ≠ none) (hw : e.wr.at = some i) : shp (HS.t.get i) = shp (e.s.h.t.get i) := by
  obtain ⟨p1, p2, p3⟩ := split_tr m d.hu
  obtain ⟨_, _, _, _, _, hk, _⟩ := p2.wr hw
  obtain ⟨b, o0, hb, h1, h2⟩ := m.view d hi hk
  rw [h1, h2]
  have e1 : shp (go N0 S i u2 (go N0 S i b o0)) = shp (go N0 (fun _ => False) i u2 (go N0 S i b o0)) :=
    go_shp (fun z hz => .inr fun o ho => d.noNew m hw hz ho) rfl
  rw [e1, go_id (S := fun _ => False) (fun _ _ h => h.elim)]
  refine go_shp (fun z hz => ?_) rfl
  by_cases hid : i = Pth.adv N0 z.x.ix
  · exact .inl ⟨fun _ => trivial, fun _ => m.laid hi (by rw [d.hu]; simp [hb z hz]) hid⟩
  · exact .inr fun _ _ => hid
theorem splice_of {α : Type} : ∀ {k : Nat} {m l : List α}, k + m.length ≤ l.length → ∃ r, splice k m l = some r := by
  intro k m l h
  cases hs : splice k m l with
  | some r => exact ⟨r, rfl⟩
  | none =>
    exfalso
    have over_of : ∀ (m l : List α), m.length ≤ l.length → ∃ r, over m l = some r := by
      intro m
      induction m with
      | nil => intro l _; exact ⟨l, rfl⟩
      | cons a m ih =>
        intro l hl
        cases l with
        | nil => simp at hl
        | cons b l =>
          obtain ⟨r, hr⟩ := ih l (by simpa using hl)
          refine ⟨a :: r, ?_⟩
          show consO a (over m l) = _
          rw [hr]; rfl
    have : ∀ (k : Nat) (l : List α), k + m.length ≤ l.length → ∃ r, splice k m l = some r := by
      intro k
      induction k with
      | zero => intro l hl; exact over_of m l (by omega)
      | succ k ih =>
        intro l hl
        cases l with
        | nil => simp at hl
        | cons b l =>
          obtain ⟨r, hr⟩ := ih l (by simp at hl; omega)
          exact ⟨b :: r, by rw [splice_succ, hr]; rfl⟩
    obtain ⟨r, hr⟩ := this k l h
    rw [hr] at hs; cases hs
theorem obW_comm {i j : Pth} {o1 o2 : Nat} {l1 l2 : List V} (h : o1 + l1.length ≤ o2 ∨ o2 + l2.length ≤ o1) (x : Option AObj) :
    obW (.st i o1 l1) (obW (.st j o2 l2) x) = obW (.st j o2 l2) (obW (.st i o1 l1) x) := by
  cases x with
  | none => rfl
  | some o =>
    cases o <;> try rfl
    rename_i c
    have key : ∀ (a : Pth) (k : Nat) (m : List V) (c : List V), obW (.st a k m) (some (.cells c)) = match splice k m c with | some c' => some (.cells c') | none => some (.cells c) := fun _ _ _ _ => rfl
    rw [key, key]
    have len1 : ∀ {k : Nat} {m c c' : List V}, splice k m c = some c' → c'.length = c.length := by
      intro k m c c' hh
      obtain ⟨h1, rfl⟩ := splice_some hh
      simp only [List.length_append, List.length_take, List.length_drop]; omega
    cases h2 : splice o2 l2 c with
    | none =>
      simp only
      cases h1 : splice o1 l1 c with
      | none => simp only [key, h1, h2]
      | some c1 =>
        simp only [key, h1]
        cases h3 : splice o2 l2 c1 with
        | none => rfl
        | some c3 =>
          exfalso
          obtain ⟨g, _⟩ := splice_some h3
          rw [len1 h1] at g
          obtain ⟨r, hr⟩ := splice_of (k := o2) (m := l2) (l := c) g
          rw [hr] at h2; cases h2
    | some c2 =>
      simp only
      cases h1 : splice o1 l1 c with
      | none =>
        simp only [key, h2]
        cases h3 : splice o1 l1 c2 with
        | none => rfl
        | some c3 =>
          exfalso
          obtain ⟨g, _⟩ := splice_some h3
          rw [len1 h2] at g
          obtain ⟨r, hr⟩ := splice_of (k := o1) (m := l1) (l := c) g
          rw [hr] at h1; cases h1
      | some c1 =>
        simp only [key]
        obtain ⟨g1, _⟩ := splice_some h1
        obtain ⟨g2, _⟩ := splice_some h2
        obtain ⟨r1, hr1⟩ := splice_of (k := o1) (m := l1) (l := c2) (by rw [len1 h2]; exact g1)
        obtain ⟨r2, hr2⟩ := splice_of (k := o2) (m := l2) (l := c1) (by rw [len1 h1]; exact g2)
        rw [hr1, hr2]
        simp only
        congr 2
        apply List.ext_getElem?
        intro q
        rw [splice_get hr1, splice_get hr2, splice_get h1, splice_get h2]
        by_cases a1 : o1 ≤ q ∧ q < o1 + l1.length
        · rw [if_pos a1, if_neg (by omega), if_pos a1]
        · rw [if_neg a1, if_neg a1]
/-- a write, and the done ones behind it in the plan, at the same object -/
theorem Rdy.pair (m : MA N0 cnt r fr t s0 sF tb tr sb HS S ρ w ds ρ0 h0 w0) (d : Rdy N0 r fr t tb tr u1 u2 s0 sb sF S e) {i : Pth} (hw : e.wr.at = some i) {z : TE} (hz : z ∈ u2) (hS : S z.x.ix) :
    (∀ x, ef N0 z i x = x) ∨ (z.wr.at = some i ∧ EffT N0 r fr z ∧
      ((∃ o1 l1 o2 l2, e.wr = .st i o1 l1 ∧ z.wr = .st i o2 l2 ∧ (o2 + l2.length ≤ o1 ∨ o1 + l1.length ≤ o2)) ∨
       (∃ k1 v1 k2 v2, e.wr = .ins i k1 v1 ∧ z.wr = .ins i k2 v2 ∧ sameS k2 k1 = true ∧ V.beq k2 k1 = false))) := by
  obtain ⟨p1, p2, p3⟩ := split_tr m d.hu
  obtain ⟨wf, _, h2, h3, h4, _, _, _, _, _, h5⟩ := p2.wr hw
  obtain ⟨q1, q2, _⟩ := p3.mem hz
  by_cases hzw : z.wr.at = some i
  · obtain ⟨wz, _, k2, k3, _, _, _, k4, _, _, k5⟩ := q1.wr hzw
    have hap : apart wz wf = true := by
      rcases allApart_mem k4 wf (q2 _ h4) with g | g
      · rw [h2] at g; exact absurd g (d.later hz hS)
      · exact g
    have hap := apart_at hap (by rw [k3, h3])
    refine .inr ⟨hzw, q1, ?_⟩
    rcases h5 with ⟨o1, l1, a1, _, _, a2, _⟩ | ⟨k1, v1, es, a1, _, _, _, a2, _⟩
    · rcases k5 with ⟨o2, l2, b1, _, _, b2, _⟩ | ⟨k2', v2, es2, b1, _, _, _, b2, _⟩
      · refine .inl ⟨o1, l1, o2, l2, a1, b1, ?_⟩
        rw [a2, b2] at hap
        simp only [apK, Bool.or_eq_true, Nat.ble_eq, len_eq] at hap
        exact hap
      · rw [a2, b2] at hap; cases hap
    · rcases k5 with ⟨o2, l2, b1, _, _, b2, _⟩ | ⟨k2', v2, es2, b1, _, _, _, b2, _⟩
      · rw [a2, b2] at hap; cases hap
      · refine .inr ⟨k1, v1, k2', v2, a1, b1, ?_⟩
        rw [a2, b2] at hap
        simp only [apK, Bool.and_eq_true, Bool.not_eq_true'] at hap
        exact hap
  · exact .inl (ef_other (fun o ho => d.noNew m hw hz ho) hzw)
/-- a store -/
theorem MA.store (m : MA N0 cnt r fr t s0 sF tb tr sb HS S ρ w ds ρ0 h0 w0) (d : Rdy N0 r fr t tb tr u1 u2 s0 sb sF S e) {i : Pth} {off : Nat} {l : List V} (hw : e.wr = .st i off l) {loc : Loc} (hl : ρ i = some loc)
    {xs : List Value} (hx : RL ρ l xs) (h1 : ∀ x ∈ xs, x.oneCell' = true) (P : Program) :
    ∃ HS' w', (storeCells ⟨loc.blk, loc.off + off, none⟩ xs).run P w = .ok () w' ∧ MA N0 cnt r fr t s0 sF tb tr sb HS' (fun j => S j ∨ j = e.x.ix) ρ w' ds ρ0 h0 w0 := by
  have hat : e.wr.at = some i := by rw [hw]; rfl
  have hi : ρ i ≠ none := by rw [hl]; simp
  obtain ⟨p1, p2, p3⟩ := split_tr m d.hu
  obtain ⟨wf, _, _, _, _, _, _, _, _, hc, h5⟩ := p2.wr hat
  have hsh := m.shape d hi hat
  have hps : ∃ c, e.s.h.t.get i = some (.cells c) ∧ off + l.length ≤ c.length := by
    rcases h5 with ⟨off', l', a1, _, a2, _⟩ | ⟨k, v, es, a1, _⟩
    · rw [hw] at a1; cases a1
      obtain ⟨h', hh⟩ := Option.isSome_iff_exists.1 a2
      obtain ⟨c, c', g1, g2, _⟩ := wrCells_some hh
      exact ⟨c, g1, (splice_some g2).1⟩
    · rw [hw] at a1; cases a1
  obtain ⟨c, c1, c2⟩ := hps
  rw [c1] at hsh
  obtain ⟨cS, hS1, hS2⟩ : ∃ cS, HS.t.get i = some (.cells cS) ∧ cS.length = c.length := by
    cases hg : HS.t.get i with
    | none => rw [hg] at hsh; simp [shp] at hsh
    | some o =>
      rw [hg] at hsh
      cases o <;> simp [shp] at hsh
      exact ⟨_, rfl, hsh⟩
  obtain ⟨r', hr'⟩ := splice_of (k := off) (m := l) (l := cS) (by omega)
  have hwr : wrCells HS i off l = some ⟨put HS.t i (some (.cells r')), HS.n⟩ := by
    unfold wrCells
    rw [hS1]
    show wrK HS i (splice off l cS) = _
    rw [hr']; rfl
  obtain ⟨g1, g2, g3⟩ := write_cells m.inv hwr hl hx h1 P
  refine ⟨_, _, g1, { ht := m.ht, pb := m.pb, pr := m.pr, ns := m.ns, nn := m.nn, doneb := fun y hy => .inl (m.doneb y hy), nocall := fun y hy hyc h => ?_, inv := g2, n := m.n, get := fun j => ?_, dl := m.dl, un := fun y hy h => m.un y hy (fun h' => h (.inl h')), wk := fun z hz hS j hzj => ?_, fr := m.fr.trans g3 }⟩
  · rcases h with h | h
    · exact m.nocall y hy hyc h
    · have := d.only (by rw [m.ht]; simp [hy]) h
      subst this; exact hc hyc
  · obtain ⟨k1, k2⟩ := go_add d j (sb.h.t.get j)
    rw [k1]
    show (put HS.t i (some (.cells r'))).get j = _
    rw [get_put']
    by_cases hij : i = j
    · subst hij
      rw [if_pos rfl]
      have hcm := go_comm (N0 := N0) (S := S) (i := i) (f := ef N0 e i) (l := u2) (fun z hz hSz x => by
        rcases d.pair m hat hz hSz with g | ⟨g, q1, ⟨o1, l1, o2, l2, a1, a2, a3⟩ | ⟨k1, v1, k2, v2, a1, _⟩⟩
        · rw [g, g]
        · rw [ef_wr q1 g, ef_wr p2 hat, ef_wr q1 g, ef_wr p2 hat, a1, a2]
          exact obW_comm a3 x
        · rw [hw] at a1; cases a1) (go N0 S i u1 (sb.h.t.get i))
      rw [hcm, ← k2, ← m.get, hS1, ef_wr p2 hat, hw]
      show _ = obW (.st i off l) (some (.cells cS))
      simp only [obW, hr']
    · rw [if_neg hij, m.get, k2]
      congr 1
      exact (ef_other (by rw [p2.wr_nw hat]; intro o h; cases h) (by rw [hat]; simpa using hij) _).symm
  · rcases hS with hS | hS
    · exact m.wk z hz hS j hzj
    · have := d.only (by rw [m.ht]; simp [hz]) hS
      subst this
      rw [hat] at hzj; cases hzj
      exact hi
end
end Go.Ev
namespace Go.Ev
open Go
noncomputable section
open Classical
variable {P : Program} {E : Env} {N0 : Pth} {cnt : Nat} {r : Rc} {fr : FrI} {t tb tr u1 u2 : List TE} {s0 sF sb : DS} {HS : H} {S : Nat → Prop} {ρ ρ' ρ0 : Rho} {w w' w0 : World} {ds ds' : List Deferred} {h0 : H} {e : TE}

theorem MapR.perm {es es' : List (V × V)} (p : es.Perm es') : ∀ {m : List MapEntry}, MapR ρ es m → ∃ m', m.Perm m' ∧ MapR ρ es' m' := by
  induction p with
  | nil => intro m h; exact ⟨m, .refl _, h⟩
  | cons a p ih =>
    intro m h
    obtain ⟨e, r, rfl, h2, h3⟩ := h
    obtain ⟨m', q1, q2⟩ := ih h3
    exact ⟨e :: m', q1.cons e, _, _, rfl, h2, q2⟩
  | swap a b l =>
    intro m h
    obtain ⟨e, r, rfl, h2, e', r', rfl, h4, h5⟩ := h
    exact ⟨e' :: e :: r', .swap _ _ _, _, _, rfl, h4, _, _, rfl, h2, h5⟩
  | trans p q ih1 ih2 =>
    intro m h
    obtain ⟨m1, q1, q2⟩ := ih1 h
    obtain ⟨m2, q3, q4⟩ := ih2 q2
    exact ⟨m2, q1.trans q3, q4⟩
theorem Uniq.pw : ∀ {es : List (V × V)}, Uniq es ↔ es.Pairwise (fun a b => a.1 ≠ b.1 ∧ sameS a.1 b.1 = true)
  | [] => by simp [Uniq]
  | a :: l => by simp only [Uniq, List.pairwise_cons, Uniq.pw (es := l)]
theorem Uniq.perm {es es' : List (V × V)} (p : es.Perm es') (h : Uniq es) : Uniq es' := by
  rw [Uniq.pw] at h ⊢
  exact (p.pairwise_iff (fun {a b} hab => ⟨fun e => hab.1 e.symm, sameS_comm hab.2⟩)).1 h
theorem ObjR.perm {l : Loc} {es es' : List (V × V)} (p : es.Perm es') (h : ObjR ρ (.mp es) l w) : ObjR ρ (.mp es') l w := by
  obtain ⟨ens, clock, m, h1, h2, h3, h4⟩ := h
  obtain ⟨m', q1, q2⟩ := h3.perm p
  exact ⟨ens, clock, m', h1, h2.trans q1, q2, h4.perm p⟩
/-- a map's entries in another order -/
theorem Inv.perm {h : Tr AObj} {n : Pth} {i : Pth} {es es' : List (V × V)} (p : es.Perm es') (hI : Inv ρ ⟨put h i (some (.mp es)), n⟩ w) : Inv ρ ⟨put h i (some (.mp es')), n⟩ w := by
  have key : ∀ j o, (put h i (some (.mp es'))).get j = some o → ∃ o', (put h i (some (.mp es))).get j = some o' ∧ ∀ l, ObjR ρ o' l w → ObjR ρ o l w := by
    intro j o hj
    rw [get_put'] at hj
    by_cases hij : i = j
    · rw [if_pos hij] at hj
      cases hj
      exact ⟨.mp es, by rw [get_put', if_pos hij], fun l hl => hl.perm p⟩
    · rw [if_neg hij] at hj
      exact ⟨o, by rw [get_put', if_neg hij]; exact hj, fun l hl => hl⟩
  refine ⟨hI.fresh, fun j o hj => ?_, fun a b oa ob la lb ha hb => ?_⟩
  · obtain ⟨o', h1, h2⟩ := key j o hj
    obtain ⟨l, h3, h4⟩ := hI.obj j o' h1
    exact ⟨l, h3, h2 l h4⟩
  · obtain ⟨oa', h1, _⟩ := key a oa ha
    obtain ⟨ob', h2, _⟩ := key b ob hb
    exact hI.inj a b oa' ob' la lb h1 h2
theorem Fr.perm {h : Tr AObj} {n : Pth} {i : Pth} {es es' : List (V × V)} (f : Fr ρ0 h0 w0 ρ ⟨put h i (some (.mp es)), n⟩ w) : Fr ρ0 h0 w0 ρ ⟨put h i (some (.mp es')), n⟩ w :=
  ⟨f.ext, f.old, f.nn, f.sz, f.os, f.tape, f.output, f.keep, fun j oj lj hj hlj => by
    rw [get_put'] at hj
    by_cases hij : i = j
    · exact f.img j (.mp es) lj (by rw [get_put', if_pos hij]) hlj
    · rw [if_neg hij] at hj
      exact f.img j oj lj (by rw [get_put', if_neg hij]; exact hj) hlj⟩
/-- entries that are added -/
theorem go_ins {S : Nat → Prop} {i : Pth} : ∀ {l : List TE} (_ : ∀ z ∈ l, S z.x.ix → (∀ x, ef N0 z i x = x) ∨ ∃ k v, z.wr = .ins i k v ∧ z.nw = none),
    ∃ L, (∀ es, go N0 S i l (some (.mp es)) = some (.mp (es ++ L))) ∧ ∀ y ∈ L, ∃ z ∈ l, S z.x.ix ∧ z.wr = .ins i y.1 y.2
  | [], _ => ⟨[], fun es => by simp [go], by simp⟩
  | e :: l, h => by
    obtain ⟨L, h1, h2⟩ := go_ins (l := l) (fun z hz => h z (List.mem_cons_of_mem _ hz))
    by_cases hS : S e.x.ix
    · rcases h e List.mem_cons_self hS with g | ⟨k, v, g1, g2⟩
      · refine ⟨L, fun es => ?_, fun y hy => ?_⟩
        · simp only [go]; rw [if_pos hS, g, h1]
        · obtain ⟨z, z1, z2⟩ := h2 y hy; exact ⟨z, List.mem_cons_of_mem _ z1, z2⟩
      · refine ⟨(k, v) :: L, fun es => ?_, fun y hy => ?_⟩
        · simp only [go]
          rw [if_pos hS]
          have : ef N0 e i (some (.mp es)) = some (.mp (es ++ [(k, v)])) := by
            unfold ef; rw [g2, g1]; simp [WR.at, obW]
          rw [this, h1]; simp
        · cases hy with
          | head => exact ⟨e, List.mem_cons_self, hS, g1⟩
          | tail _ hy => obtain ⟨z, z1, z2⟩ := h2 y hy; exact ⟨z, List.mem_cons_of_mem _ z1, z2⟩
    · refine ⟨L, fun es => ?_, fun y hy => ?_⟩
      · simp only [go]; rw [if_neg hS, h1]
      · obtain ⟨z, z1, z2⟩ := h2 y hy; exact ⟨z, List.mem_cons_of_mem _ z1, z2⟩
/-- of two objects, all of the first one's entries are the second one's too -/
def subM (o o' : Option AObj) : Prop := shp o = shp o' ∧ ∀ es es', o = some (.mp es) → o' = some (.mp es') → ∀ y ∈ es, y ∈ es'
theorem subM.refl (o : Option AObj) : subM o o := ⟨rfl, fun es es' h h' y hy => by rw [h] at h'; cases h'; exact hy⟩
theorem shp_mp {o : Option AObj} {es : List (V × V)} (h : shp o = shp (some (.mp es))) : ∃ es', o = some (.mp es') := by
  cases o with
  | none => simp [shp] at h
  | some o => cases o <;> simp [shp] at h; exact ⟨_, rfl⟩
theorem obW_mp {wr : WR} {es : List (V × V)} : ∃ L, obW wr (some (.mp es)) = some (.mp (es ++ L)) := by
  cases wr with
  | no => exact ⟨[], by simp [obW]⟩
  | st i off l => exact ⟨[], by simp [obW]⟩
  | ins i k v => exact ⟨[(k, v)], rfl⟩
theorem subM.both {e : TE} {i : Pth} {o o' : Option AObj} (h : subM o o') : subM (ef N0 e i o) (ef N0 e i o') := by
  unfold ef
  cases e.nw with
  | some a => simp only; split
              · exact .refl _
              · exact h
  | none =>
    simp only
    split
    · refine ⟨by rw [obW_shp, obW_shp]; exact h.1, fun es es' h1 h2 y hy => ?_⟩
      have s1 : shp o = shp (some (.mp es)) := by rw [← h1, obW_shp]
      obtain ⟨a, rfl⟩ := shp_mp s1
      obtain ⟨b, rfl⟩ := shp_mp (h.1.symm.trans s1)
      cases hw : e.wr with
      | no => rw [hw] at h1 h2; exact h.2 _ _ (by rw [← h1]; rfl) (by rw [← h2]; rfl) y hy
      | st i off l => rw [hw] at h1 h2; exact h.2 _ _ (by rw [← h1]; rfl) (by rw [← h2]; rfl) y hy
      | ins i k v =>
        rw [hw] at h1 h2
        simp only [obW, Option.some.injEq, AObj.mp.injEq] at h1 h2
        subst h1; subst h2
        rcases List.mem_append.1 hy with g | g
        · exact List.mem_append.2 (.inl (h.2 _ _ rfl rfl y g))
        · exact List.mem_append.2 (.inr g)
    · exact h
theorem subM.right {e : TE} {i : Pth} {o o' : Option AObj} (h : subM o o') (hn : ∀ a, e.nw = some a → i ≠ Pth.adv N0 e.x.ix) : subM o (ef N0 e i o') := by
  unfold ef
  cases hnw : e.nw with
  | some a => simp only; rw [if_neg (hn a hnw)]; exact h
  | none =>
    simp only
    split
    · refine ⟨by rw [obW_shp]; exact h.1, fun es es' h1 h2 y hy => ?_⟩
      subst h1
      obtain ⟨b, rfl⟩ := shp_mp h.1.symm
      obtain ⟨L, hL⟩ := obW_mp (wr := e.wr) (es := b)
      rw [hL] at h2; cases h2
      exact List.mem_append.2 (.inl (h.2 _ _ rfl rfl y hy))
    · exact h
theorem go_sub {S : Nat → Prop} {i : Pth} : ∀ {l : List TE} (_ : ∀ e ∈ l, S e.x.ix ∨ ∀ a, e.nw = some a → i ≠ Pth.adv N0 e.x.ix) {o o' : Option AObj}, subM o o' → subM (go N0 S i l o) (go N0 (fun _ => True) i l o')
  | [], _, _, _, h => h
  | e :: l, h, o, o', ho => by
    simp only [go]
    rw [if_pos trivial]
    refine go_sub (fun y hy => h y (List.mem_cons_of_mem _ hy)) ?_
    by_cases hS : S e.x.ix
    · rw [if_pos hS]; exact ho.both
    · rw [if_neg hS]; exact ho.right ((h e List.mem_cons_self).resolve_left hS)
/-- a new entry of a map -/
theorem MA.ins (m : MA N0 cnt r fr t s0 sF tb tr sb HS S ρ w ds ρ0 h0 w0) (d : Rdy N0 r fr t tb tr u1 u2 s0 sb sF S e) {i : Pth} {k v : V} (hw : e.wr = .ins i k v) (hi : ρ i ≠ none)
    (K : EnvOK P E) {ty kt et : TypeId} {ti ki : TyI} (hty : E.tt ty = some ti) (hd : ti.ud = .map kt et) (hkt : E.tt kt = some ki) (hkk : keyT k ki.ud = true)
    {mv kv vv : Value} (hm : R ρ (.m i) mv) (hk : R ρ k kv) (hv : R ρ v vv) :
    ∃ HS' w', (Instr.mapUpdate ty mv kv vv).run P w = .ok () w' ∧ MA N0 cnt r fr t s0 sF tb tr sb HS' (fun j => S j ∨ j = e.x.ix) ρ w' ds ρ0 h0 w0 := by
  have hat : e.wr.at = some i := by rw [hw]; rfl
  obtain ⟨p1, p2, p3⟩ := split_tr m d.hu
  obtain ⟨wf, _, _, _, _, hok, _, _, _, hc, h5⟩ := p2.wr hat
  have hps : ∃ es, e.s.h.t.get i = some (.mp es) ∧ newK k es = true := by
    rcases h5 with ⟨off', l', a1, _⟩ | ⟨k', v', es, a1, _, a2, a3, _⟩
    · rw [hw] at a1; cases a1
    · rw [hw] at a1; cases a1; exact ⟨es, a2, a3⟩
  obtain ⟨es, e1, e2⟩ := hps
  obtain ⟨b, o0, hb, v1, v2⟩ := m.view d hi hok
  have hsub : subM (go N0 S i b o0) (go N0 (fun _ => True) i b o0) := go_sub (fun z hz => by
    by_cases hid : i = Pth.adv N0 z.x.ix
    · exact .inl (m.laid hi (by rw [d.hu]; simp [hb z hz]) hid)
    · exact .inr fun _ _ => hid) (.refl _)
  rw [← v1, e1] at hsub
  obtain ⟨es1, hes1⟩ := shp_mp hsub.1
  obtain ⟨L, l1, l2⟩ := go_ins (N0 := N0) (S := S) (i := i) (l := u2) (fun z hz hSz => by
    rcases d.pair m hat hz hSz with g | ⟨g, q1, ⟨_, _, _, _, a1, _⟩ | ⟨k1, v1, k2, v2, a1, a2, _⟩⟩
    · exact .inl g
    · rw [hw] at a1; cases a1
    · exact .inr ⟨k2, v2, a2, q1.wr_nw g⟩)
  have hHS : HS.t.get i = some (.mp (es1 ++ L)) := by rw [v2, hes1, l1]
  have hnew : ∀ y ∈ es1 ++ L, sameS k y.1 = true ∧ y.1 ≠ k := by
    intro y hy
    rcases List.mem_append.1 hy with g | g
    · obtain ⟨a1, a2⟩ := newK_mem e2 y (hsub.2 _ _ hes1 rfl y g)
      refine ⟨a1, fun e' => ?_⟩
      rw [kbeq a1] at a2
      rw [e'] at a2; simp at a2
    · obtain ⟨z, z1, z2, z3⟩ := l2 y g
      rcases d.pair m hat z1 z2 with g | ⟨g, q1, ⟨_, _, _, _, a1, _⟩ | ⟨k1, v1, k2, v2, a1, a2, a3, a4⟩⟩
      · -- it does touch the object
        exfalso
        have hz := g (some (.mp []))
        have hzw : z.wr.at = some i := by rw [z3]; rfl
        rw [ef_wr (p3.mem z1).1 hzw, z3] at hz
        simp [obW] at hz
      · rw [hw] at a1; cases a1
      · rw [hw] at a1; cases a1
        rw [z3] at a2; cases a2
        rw [kbeq a3] at a4
        refine ⟨sameS_comm a3, fun e' => ?_⟩
        rw [e'] at a4; simp at a4
  have hset : setK k v (es1 ++ L) = es1 ++ L ++ [(k, v)] := setK_new (fun y hy => (hnew y hy).1) (fun y hy => (hnew y hy).2)
  have hsort : sortOK k (es1 ++ L) = true := by
    cases hl : es1 ++ L with
    | nil => rfl
    | cons y l => exact (hnew y (by rw [hl]; simp)).1
  have hmu : mapUp ki.ud ([] : List AD) HS (some k) (some v) (some (.m i)) = .ok (.tu []) [] ⟨put HS.t i (some (.mp (setK k v (es1 ++ L)))), HS.n⟩ := by
    show mapSet i ki.ud k v [] HS (mapOf (HS.t.get i)) = _
    rw [hHS]
    show mapSet2 i [] HS (setOO k v (HS.t.get i)) (and (keyT k ki.ud) (sortOK k (es1 ++ L))) = _
    rw [hHS]
    rw [hkk, hsort]; rfl
  obtain ⟨_, _, w', g1, g2, g3⟩ := mapUp_ok (P := P) K m.inv hty hd hkt (m := some (.m i)) (k := some k) (v := some v) (fun x hx => by cases hx; exact hm) (fun x hx => by cases hx; exact hk) (fun x hx => by cases hx; exact hv) hmu
  rw [hset] at g2 g3
  have hperm : (es1 ++ L ++ [(k, v)]).Perm (es1 ++ [(k, v)] ++ L) := by
    rw [List.append_assoc, List.append_assoc]
    exact (List.perm_append_comm).append_left es1
  refine ⟨⟨put HS.t i (some (.mp (es1 ++ [(k, v)] ++ L))), HS.n⟩, w', g1, { ht := m.ht, pb := m.pb, pr := m.pr, ns := m.ns, nn := m.nn, doneb := fun y hy => .inl (m.doneb y hy), nocall := fun y hy hyc h => ?_, inv := Inv.perm hperm g2, n := m.n, get := fun j => ?_, dl := m.dl, un := fun y hy h => m.un y hy (fun h' => h (.inl h')), wk := fun z hz hS j hzj => ?_, fr := m.fr.trans (Fr.perm g3) }⟩
  · rcases h with h | h
    · exact m.nocall y hy hyc h
    · have := d.only (by rw [m.ht]; simp [hy]) h
      subst this; exact hc hyc
  · obtain ⟨k1, k2⟩ := go_add d j (sb.h.t.get j)
    rw [k1]
    show (put HS.t i (some (.mp (es1 ++ [(k, v)] ++ L)))).get j = _
    rw [get_put']
    by_cases hij : i = j
    · subst hij
      rw [if_pos rfl]
      -- what those ahead of e have made of it
      have hu1 : ∃ es0, go N0 S i u1 (sb.h.t.get i) = some (.mp es0) ∧ go N0 S i u2 (some (.mp es0)) = some (.mp (es1 ++ L)) := by
        have hh : go N0 S i u2 (go N0 S i u1 (sb.h.t.get i)) = some (.mp (es1 ++ L)) := by rw [← k2, ← m.get, hHS]
        have hs : shp (go N0 S i u2 (go N0 S i u1 (sb.h.t.get i))) = shp (go N0 (fun _ => False) i u2 (go N0 S i u1 (sb.h.t.get i))) := go_shp (fun z hz => .inr fun o ho => d.noNew m hat hz ho) rfl
        rw [go_id (S := fun _ => False) (fun _ _ h => h.elim), hh] at hs
        obtain ⟨es0, he0⟩ := shp_mp hs.symm
        exact ⟨es0, he0, by rw [← he0]; exact hh⟩
      obtain ⟨es0, a1, a2⟩ := hu1
      rw [l1] at a2
      have : es0 = es1 := by
        simp only [Option.some.injEq, AObj.mp.injEq] at a2
        exact List.append_cancel_right a2
      subst this
      rw [a1, ef_wr p2 hat, hw]
      show _ = go N0 S i u2 (some (.mp (es0 ++ [(k, v)])))
      rw [l1]
    · rw [if_neg hij, m.get, k2]
      congr 1
      exact (ef_other (by rw [p2.wr_nw hat]; intro o h; cases h) (by rw [hat]; simpa using hij) _).symm
  · rcases hS with hS | hS
    · exact m.wk z hz hS j hzj
    · have := d.only (by rw [m.ht]; simp [hz]) hS
      subst this
      rw [hat] at hzj; cases hzj
      exact hi
end
end Go.Ev
namespace Go.Ev
open Go
noncomputable section
open Classical
variable {P : Program} {E : Env} {N0 : Pth} {cnt : Nat} {r : Rc} {fr : FrI} {t tb tr u1 u2 : List TE} {s0 sF sb : DS} {HS : H} {S : Nat → Prop} {ρ ρ' ρ0 : Rho} {w w' w0 : World} {ds ds' : List Deferred} {h0 : H} {e : TE}

theorem PTr.app : ∀ {a b : List TE} {s s1 s2 : DS}, PTr N0 r fr a s s1 → PTr N0 r fr b s1 s2 → PTr N0 r fr (a ++ b) s s2
  | [], _, _, _, _, h, g => by cases h; exact g
  | e :: a, b, s, s1, s2, h, g => by
    cases h with
    | cons h1 h2 h3 h4 => exact .cons h1 h2 h3 (PTr.app h4 g)
def efT (N0 : Pth) (e : TE) (T : Tr AObj) : Tr AObj :=
  match e.nw with
  | some a => put T (Pth.adv N0 e.x.ix) (some a)
  | none => match e.wr.at with
    | some j => put T j (obW e.wr (T.get j))
    | none => T
theorem efT_get (e : TE) (T : Tr AObj) (i : Pth) : (efT N0 e T).get i = ef N0 e i (T.get i) := by
  unfold efT ef
  cases e.nw with
  | some a =>
    simp only
    rw [get_put']
    by_cases h : Pth.adv N0 e.x.ix = i
    · rw [if_pos h, if_pos h.symm]
    · rw [if_neg h, if_neg (fun e => h e.symm)]
  | none =>
    simp only
    cases e.wr.at with
    | none => simp
    | some j =>
      simp only [Option.some.injEq]
      rw [get_put']
      by_cases h : j = i
      · subst h; simp
      · rw [if_neg h, if_neg h]
def goT (N0 : Pth) (S : Nat → Prop) : List TE → Tr AObj → Tr AObj
  | [], T => T
  | e :: l, T => goT N0 S l (if S e.x.ix then efT N0 e T else T)
theorem goT_get {S : Nat → Prop} {i : Pth} : ∀ {l : List TE} {T : Tr AObj}, (goT N0 S l T).get i = go N0 S i l (T.get i)
  | [], _ => rfl
  | e :: l, T => by
    simp only [goT, go]
    rw [goT_get]
    congr 1
    split
    · exact efT_get e T i
    · rfl
theorem go_new {S : Nat → Prop} {y : TE} {l : List TE} (hy : y ∈ l) (hS : S y.x.ix) {a : AObj} (hn : y.nw = some a) (x : Option AObj) : ∃ o, go N0 S (Pth.adv N0 y.x.ix) l x = some o := by
  obtain ⟨l1, l2, rfl⟩ := List.append_of_mem hy
  rw [go_append]
  simp only [go]
  rw [if_pos hS, ef_nw hn]
  exact go_some
/-- ahead of a call -/
theorem MA.before (m : MA N0 cnt r fr t s0 sF tb tr sb HS S ρ w ds ρ0 h0 w0) (d : Rdy N0 r fr t tb tr u1 u2 s0 sb sF S e) (hc : e.call) :
    (∀ y ∈ u1, S y.x.ix) ∧ e.s.D = sb.D ∧ e.s.h.n = sb.h.n ∧ (∀ i, HS.t.get i = go N0 S i u2 (e.s.h.t.get i)) ∧
    (∀ i, e.s.h.t.get i ≠ none → ∀ z ∈ u2, S z.x.ix → ∀ x, ef N0 z i x = x) ∧
    (∀ i, ∀ z ∈ u2, S z.x.ix → (∀ x, ef N0 z i x = x) ∨ ∃ y ∈ u2, S y.x.ix ∧ i = Pth.adv N0 y.x.ix ∧ ∃ a, y.nw = some a) := by
  obtain ⟨p1, p2, p3⟩ := split_tr m d.hu
  obtain ⟨c1, _, c3, c4⟩ := p2.call hc
  have hall : ∀ y ∈ u1, S y.x.ix := fun y hy => d.he _ (within_bit c1 ((p1.dn y.x.ix).2 (.inr ⟨y, hy, rfl⟩)))
  obtain ⟨q1, _, q3, q4⟩ := p1.quiet (fun y hy hyc => m.nocall y (by rw [d.hu]; simp [hy]) hyc (hall y hy))
  -- a write behind the call
  have hwr : ∀ z ∈ u2, S z.x.ix → ∀ i, z.wr.at = some i → ∃ y ∈ u2, S y.x.ix ∧ i = Pth.adv N0 y.x.ix ∧ (∃ a, y.nw = some a) ∧ (e.x.ix, e.s.h) ∈ y.s.hs := by
    intro z hz hS i hi
    obtain ⟨a, b, rfl⟩ := List.append_of_mem hz
    obtain ⟨k1, _, _, k2, _⟩ := p3.split
    have k2 : EffT N0 r fr z := k2
    obtain ⟨_, _, _, _, _, hok, _⟩ := k2.wr hi
    rcases hsOK_cases hok with g | g
    · exact absurd (g _ (k1.mono.2.2 _ c3)) (d.later hz hS)
    · rcases k1.newest g with ⟨g, _⟩ | ⟨a', y, b', o, rfl, rfl, g3, _⟩
      · rw [c4] at g; cases g
      · refine ⟨y, by simp, ?_, rfl, ⟨o, g3⟩, (k1.mem (z := y) (by simp)).2.2.2.1 _ c3⟩
        exact m.laid (m.wk z (by rw [d.hu]; simp) hS _ hi) (by rw [d.hu]; simp) rfl
  have hnw : ∀ y ∈ u2, ∀ a, y.nw = some a → e.s.h.t.get (Pth.adv N0 y.x.ix) = none := by
    intro y hy a ha
    obtain ⟨k1, _, _, k4, _⟩ := p3.mem hy
    exact freshIn_mem (k1.new ha).1 _ (k4 _ c3)
  refine ⟨hall, q1, q3, fun i => ?_, fun i hi z hz hS x => ?_, fun i z hz hS => ?_⟩
  · rw [m.get, (go_add d i _).2, q4]
    congr 1
    exact go_eq (fun y hy => .inl ⟨fun _ => trivial, fun _ => hall y hy⟩) _
  · refine ef_other (fun o ho hid => hi (by rw [hid]; exact hnw z hz o ho)) (fun hw => ?_) x
    obtain ⟨y, y1, _, rfl, ⟨a, y3⟩, _⟩ := hwr z hz hS i hw
    exact hi (hnw y y1 a y3)
  · by_cases hw : z.wr.at = some i
    · obtain ⟨y, y1, y2, y3, y4, _⟩ := hwr z hz hS i hw
      exact .inr ⟨y, y1, y2, y3, y4⟩
    · by_cases hn : ∃ a, z.nw = some a ∧ i = Pth.adv N0 z.x.ix
      · obtain ⟨a, ha, hid⟩ := hn
        exact .inr ⟨z, hz, hS, hid, a, ha⟩
      · exact .inl (ef_other (fun o ho hid => hn ⟨o, ho, hid⟩) hw)
theorem MA.invB (m : MA N0 cnt r fr t s0 sF tb tr sb HS S ρ w ds ρ0 h0 w0) (d : Rdy N0 r fr t tb tr u1 u2 s0 sb sF S e) (hc : e.call) :
    Inv ρ e.s.h w ∧ (∀ i o, e.s.h.t.get i = some o → HS.t.get i = some o) := by
  obtain ⟨_, _, b3, b4, b5, _⟩ := m.before d hc
  have hp : ∀ i o, e.s.h.t.get i = some o → HS.t.get i = some o := by
    intro i o hi
    rw [b4, hi]
    exact go_id (b5 i (by rw [hi]; simp)) _
  exact ⟨m.inv.part (by rw [m.n, b3]; exact Nat.le_refl _) hp, hp⟩
/-- a call -/
theorem MA.call (m : MA N0 cnt r fr t s0 sF tb tr sb HS S ρ w ds ρ0 h0 w0) (d : Rdy N0 r fr t tb tr u1 u2 s0 sb sF S e) (hc : e.call) (hcnt : ∀ y ∈ t, y.x.ix < cnt)
    (hI : Inv ρ' e.s'.h w') (hf : Fr ρ e.s.h w ρ' e.s'.h w') (hd : DL ρ' e.s'.D ds') :
    ∃ HS', MA N0 cnt r fr t s0 sF (tb ++ u1 ++ [e]) u2 e.s' HS' (fun j => S j ∨ j = e.x.ix) ρ' w' ds' ρ0 h0 w0 := by
  obtain ⟨b1, b2, b3, b4, b5, b6⟩ := m.before d hc
  obtain ⟨i1, i2⟩ := m.invB d hc
  obtain ⟨p1, p2, p3⟩ := split_tr m d.hu
  obtain ⟨c1, _, c3, c4⟩ := p2.call hc
  -- an object that the call has not seen
  have float : ∀ i o l, e.s.h.t.get i = none → HS.t.get i = some o → ρ i = some l → ρ' i = some l ∧ w'.heap[l.blk]? = w.heap[l.blk]? ∧ ∀ j oj lj, e.s'.h.t.get j = some oj → ρ' j = some lj → lj.blk ≠ l.blk := by
    intro i o l h1 h2 h3
    obtain ⟨l', k1, k2⟩ := m.inv.obj i o h2
    rw [h3] at k1; cases k1
    obtain ⟨g1, g2⟩ := hf.out k2.lt (fun j oj lj hj hlj => m.inv.inj j i oj o lj l (i2 j oj hj) h2 (fun e' => by rw [e', h1] at hj; cases hj) hlj h3)
    exact ⟨hf.ext _ _ h3, g1, g2⟩
  have C1 : ∀ i o', e.s'.h.t.get i = some o' → ∀ z ∈ u2, S z.x.ix → ∀ x, ef N0 z i x = x := by
    intro i o' hi z hz hS
    rcases b6 i z hz hS with g | ⟨y, y1, y2, rfl, a, y4⟩
    · exact g
    · by_cases hn : e.s.h.t.get (Pth.adv N0 y.x.ix) = none
      · exfalso
        obtain ⟨o, ho⟩ := go_new (N0 := N0) (S := S) y1 y2 y4 (e.s.h.t.get (Pth.adv N0 y.x.ix))
        rw [← b4] at ho
        obtain ⟨l, hl, _⟩ := m.inv.obj _ _ ho
        obtain ⟨f1, _, f3⟩ := float _ _ _ hn ho hl
        exact f3 _ _ _ hi f1 rfl
      · exact b5 _ hn z hz hS
  have C2 : ∀ i o, e.s'.h.t.get i = none → go N0 S i u2 none = some o → e.s.h.t.get i = none ∧ HS.t.get i = some o := by
    intro i o _ h2
    cases hg : e.s.h.t.get i with
    | none => exact ⟨rfl, by rw [b4, hg, h2]⟩
    | some x => rw [go_id (b5 i (by rw [hg]; simp))] at h2; cases h2
  have get' : ∀ i, (goT N0 S u2 e.s'.h.t).get i = go N0 S i u2 (e.s'.h.t.get i) := fun i => goT_get
  have cases' : ∀ i o, (goT N0 S u2 e.s'.h.t).get i = some o → e.s'.h.t.get i = some o ∨ (e.s.h.t.get i = none ∧ HS.t.get i = some o) := by
    intro i o h
    rw [get'] at h
    cases hg : e.s'.h.t.get i with
    | some o' => rw [hg, go_id (C1 i o' hg)] at h; exact .inl h
    | none => rw [hg] at h; exact .inr (C2 i o hg h)
  have hfr : Fr ρ HS w ρ' ⟨goT N0 S u2 e.s'.h.t, e.s'.h.n⟩ w' := by
    refine ⟨hf.ext, fun i hi => hf.old i (by rw [b3, ← m.n]; exact hi), by rw [m.n, ← b3]; exact hf.nn, hf.sz, hf.os, hf.tape, hf.output, fun b hb hn => hf.keep b hb (fun i o l h1 h2 => hn i o l (i2 i o h1) h2), fun i o l h1 h2 => ?_⟩
    rcases cases' i o h1 with g | ⟨g1, g2⟩
    · rcases hf.img i o l g h2 with k | ⟨j, oj, lj, k1, k2, k3⟩
      · exact .inl k
      · exact .inr ⟨j, oj, lj, i2 _ _ k1, k2, k3⟩
    · obtain ⟨l', k1, _⟩ := m.inv.obj _ _ g2
      have := hf.ext _ _ k1
      rw [h2] at this; cases this
      exact .inr ⟨i, o, _, g2, k1, rfl⟩
  refine ⟨⟨goT N0 S u2 e.s'.h.t, e.s'.h.n⟩, { ht := by rw [m.ht, d.hu]; simp, pb := ?_, pr := p3, ns := c4, nn := ?_, doneb := fun y hy => ?_, nocall := fun y hy hyc h => ?_, inv := ⟨fun i hi => hI.fresh i hi, fun i o hi => ?_, fun i j oi oj li lj h1 h2 hij hli hlj => ?_⟩, n := rfl, get := fun i => ?_, dl := hd, un := fun y hy h => ?_, wk := fun z hz hS i hzi => ?_, fr := m.fr.trans hfr }⟩
  · obtain ⟨k1, k2, k3, k4, _⟩ := (show PTr N0 r fr ((tb ++ u1) ++ e :: u2) s0 sF by have := d.hp; rw [d.ht, d.hu] at this; simpa using this).split
    exact PTr.app k1 (.cons k2 k3 k4 .nil)
  · have := m.nn
    have := hf.nn
    rw [b3] at this
    omega
  · rcases List.mem_append.1 hy with g | g
    · rcases List.mem_append.1 g with g | g
      · exact .inl (m.doneb y g)
      · exact .inl (b1 y g)
    · simp at g; subst g; exact .inr rfl
  · rcases h with h | h
    · exact m.nocall y (by rw [d.hu]; simp [hy]) hyc h
    · exact d.uniq.2 y hy h
  · rcases cases' i o hi with g | ⟨g1, g2⟩
    · exact hI.obj i o g
    · obtain ⟨l, k1, k2⟩ := m.inv.obj _ _ g2
      obtain ⟨f1, f2, _⟩ := float i o l g1 g2 k1
      exact ⟨l, f1, k2.mono hf.ext f2⟩
  · rcases cases' i oi h1 with g | ⟨g1, g2⟩
    · rcases cases' j oj h2 with k | ⟨k1, k2⟩
      · exact hI.inj i j oi oj li lj g k hij hli hlj
      · obtain ⟨l, q1, q2⟩ := m.inv.obj _ _ k2
        obtain ⟨f1, _, f3⟩ := float j oj l k1 k2 q1
        rw [f1] at hlj; cases hlj
        exact f3 i oi li g hli
    · obtain ⟨l, q1, q2⟩ := m.inv.obj _ _ g2
      obtain ⟨f1, _, f3⟩ := float i oi l g1 g2 q1
      rw [f1] at hli; cases hli
      rcases cases' j oj h2 with k | ⟨k1, k2⟩
      · exact fun e' => f3 j oj lj k hlj e'.symm
      · obtain ⟨l2, q3, q4⟩ := m.inv.obj _ _ k2
        have := hf.ext _ _ q3
        rw [hlj] at this; cases this
        exact m.inv.inj i j oi oj _ _ g2 k2 hij q1 q3
  · show (goT N0 S u2 e.s'.h.t).get i = _
    rw [get']
    exact go_eq (fun y hy => .inl ⟨.inl, fun h => h.resolve_right (d.uniq.2 y hy)⟩) _
  · have hlt : (Pth.adv N0 y.x.ix).nat < e.s.h.n.nat := by
      have h1 := m.nn
      have h2 := hcnt y hy
      rw [b3]
      rw [Pth.nat_adv] at h1 ⊢
      omega
    rw [hf.old _ hlt]
    exact m.un y hy (fun h' => h (.inl h'))
  · have hS' : S z.x.ix := hS.resolve_right (d.uniq.2 z hz)
    have := m.wk z (by rw [d.hu]; simp [hz]) hS' i hzi
    intro hh
    cases hr : ρ i with
    | none => exact this hr
    | some l => rw [hf.ext i l hr] at hh; cases hh
end
end Go.Ev
namespace Go.Ev
open Go
noncomputable section
open Classical
variable {P : Program} {E : Env} {N0 : Pth} {cnt : Nat} {r : Rc} {fr : FrI} {t tb tr u1 u2 : List TE} {s0 sF sb : DS} {HS : H} {S : Nat → Prop} {ρ ρ' ρ0 : Rho} {w w' w0 : World} {ds ds' : List Deferred} {h0 : H} {e : TE}

theorem first_call : ∀ {l : List TE}, (∃ c ∈ l, c.call) → ∃ v1 c v2, l = v1 ++ c :: v2 ∧ c.call ∧ ∀ y ∈ v1, ¬ y.call
  | [], h => by obtain ⟨c, h, _⟩ := h; cases h
  | e :: l, h => by
    by_cases he : e.call
    · exact ⟨[], e, l, rfl, he, by simp⟩
    · obtain ⟨c, hc, hcc⟩ := h
      cases hc with
      | head => exact absurd hcc he
      | tail _ hc =>
        obtain ⟨v1, c', v2, rfl, h2, h3⟩ := first_call ⟨c, hc, hcc⟩
        refine ⟨e :: v1, c', v2, rfl, h2, fun y hy => ?_⟩
        cases hy with
        | head => exact he
        | tail _ hy => exact h3 y hy
theorem sameIn_mem {q : QB} {m : Nat} {S : Tr V} {i : Pth} {v : V} : ∀ {l : List (Nat × H)}, sameIn q m S i v l = true → ∀ y ∈ l, bit m y.1 = true ∨ q.f S (selH i y.2) = .val v
  | [], _, _, h => by cases h
  | (k, h) :: l, hh, y, hy => by
    simp only [sameIn, Bool.and_eq_true, Bool.or_eq_true] at hh
    cases hy with
    | tail _ hy => exact sameIn_mem hh.2 y hy
    | head =>
      rcases hh.1 with g | g
      · exact .inl g
      · refine .inr ?_
        show q.f S (selH i h) = .val v
        cases hq : q.f S (selH i h) with
        | val u => rw [hq] at g; rw [Vbeq v u g]
        | _ => rw [hq] at g; cases g
/-- what is read is what the plan read -/
theorem MA.read (m : MA N0 cnt r fr t s0 sF tb tr sb HS S ρ w ds ρ0 h0 w0) (d : Rdy N0 r fr t tb tr u1 u2 s0 sb sF S e) {i : Pth} (hr : e.rd = some i) (hi : ρ i ≠ none) :
    ∃ G : H, (∀ o, G.t.get i = some o → HS.t.get i = some o) ∧ e.x.q.f e.S (selH i G) = .val e.v := by
  obtain ⟨p1, p2, p3⟩ := split_tr m d.hu
  obtain ⟨r1, r2, r3, r4, _⟩ := p2.rd hr
  have ahead : ∀ v1 : List TE, (∀ y ∈ v1, y ∈ u1) → ∀ o, go N0 S i v1 o = go N0 (fun _ => True) i v1 o := by
    intro v1 hv o
    refine go_eq (fun z hz => ?_) o
    by_cases hS : S z.x.ix
    · exact .inl ⟨fun _ => trivial, fun _ => hS⟩
    · refine .inr (ef_other (fun a ha hid => hS (m.laid hi (by rw [d.hu]; simp [hv z hz]) hid)) (fun hw => ?_))
      obtain ⟨q1, _, _, _, q2, _⟩ := p1.mem (hv z hz)
      obtain ⟨wf, _, k2, k3, k4, _⟩ := q1.wr hw
      rcases noW_mem r2 wf (q2 _ k4) with g | g
      · rw [k2] at g; exact d.earlier hS g
      · exact g k3
  have behind : ∀ z ∈ u2, S z.x.ix → ∀ x, ef N0 z i x = x := by
    intro z hz hS
    obtain ⟨q1, _, q3, _⟩ := p3.mem hz
    refine ef_other (fun a ha hid => ?_) (fun hw => ?_)
    · rcases noRd_mem (q1.new ha).2.1 _ (q3 _ r4) with g | g
      · rw [zero_bit] at g; cases g
      · exact g hid
    · obtain ⟨wf, _, _, _, _, _, k5, _⟩ := q1.wr hw
      rcases noRd_mem k5 _ (q3 _ r4) with g | g
      · exact d.later hz hS g
      · exact g rfl
  have hget := (go_add d i (sb.h.t.get i)).2
  by_cases hcall : ∃ c ∈ u1, c.call
  · obtain ⟨v1, c, v2, hv, hc, hv1⟩ := first_call hcall
    have hcS : ¬ S c.x.ix := m.nocall c (by rw [d.hu, hv]; simp) hc
    have p1' := p1
    rw [hv] at p1'
    obtain ⟨k1, _, _, k2, k3⟩ := p1'.split
    have k2 : EffT N0 r fr c := k2
    obtain ⟨_, _, c3, c4⟩ := k2.call hc
    have hsame : e.x.q.f e.S (selH i c.s.h) = .val e.v := by
      rcases sameIn_mem r3 _ (k3.mono.2.2 _ c3) with g | g
      · exact absurd g (d.earlier hcS)
      · exact g
    refine ⟨c.s.h, fun o ho => ?_, hsame⟩
    rw [m.get, hget, hv, go_append, ahead v1 (fun y hy => by rw [hv]; simp [hy]), ← (k1.quiet hv1).2.2.2, ho]
    have hmid : go N0 S i (c :: v2) (some o) = some o := by
      refine go_id (fun z hz hS => ?_) _
      cases hz with
      | head => exact absurd hS hcS
      | tail _ hz =>
        obtain ⟨a, b, rfl⟩ := List.append_of_mem hz
        obtain ⟨j1, _, _, j2, _⟩ := k3.split
        have j2 : EffT N0 r fr z := j2
        refine ef_other (fun a' ha hid => ?_) (fun hw => ?_)
        · have := freshIn_mem (j2.new ha).1 _ (j1.mono.2.2 _ c3)
          rw [← hid] at this
          have this : c.s.h.t.get i = none := this
          rw [ho] at this; cases this
        · obtain ⟨_, _, _, _, _, hok, _⟩ := j2.wr hw
          rcases hsOK_cases hok with g | g
          · exact hcS (d.hc z (by rw [d.ht, d.hu, hv]; simp) hS _ (g _ (j1.mono.2.2 _ c3)))
          · rcases j1.newest g with ⟨g, _⟩ | ⟨a', y, b', o', rfl, hid, g3, _⟩
            · rw [c4] at g; cases g
            · obtain ⟨n1, _, _, n4, _⟩ := j1.mem (z := y) (by simp)
              have := freshIn_mem (n1.new g3).1 _ (n4 _ c3)
              rw [← hid] at this
              have this : c.s.h.t.get i = none := this
              rw [ho] at this; cases this
    rw [hmid, go_id behind]
  · refine ⟨e.s.h, fun o ho => ?_, r1⟩
    rw [m.get, hget, go_id behind, ahead u1 (fun _ h => h), ← (p1.quiet (fun y hy hc => hcall ⟨y, hy, hc⟩)).2.2.2, ho]
/-! ### what an operand points at is known -/
theorem fP_known {o : Option V} {i : Pth} (h : fP o = .rd i) : ∃ off, o = some (.p i off) := by
  cases o with
  | none => cases h
  | some v => cases v <;> cases h; exact ⟨_, rfl⟩
theorem fM_known {o : Option V} {i : Pth} (h : fM o = .rd i) : o = some (.m i) := by
  cases o with
  | none => cases h
  | some v => cases v <;> cases h; rfl
theorem fS_known {o : Option V} {i : Pth} (h : fS o = .rd i) : ∃ a b c d e, o = some (.sl i a b c d e) := by
  cases o with
  | none => cases h
  | some v => cases v <;> cases h; exact ⟨_, _, _, _, _, rfl⟩
theorem fIn_cases {m k v : AB} {T : Tr V} (o : Option TyI) (E : Env) : (fIn E m k v o).f T = .no ∨ ∃ ti kt et ki j kv vv, o = some ti ∧ ti.ud = .map kt et ∧ E.tt kt = some ki ∧ m.f T = some (.m j) ∧ k.f T = some kv ∧ v.f T = some vv ∧ keyT kv ki.ud = true ∧ (fIn E m k v o).f T = .ins j kv vv := by
  cases o with
  | none => exact .inl rfl
  | some ti =>
    cases hd : ti.ud <;> simp only [fIn, hd] <;> try exact .inl rfl
    rename_i kt et
    cases hk : E.tt kt with
    | none => exact .inl rfl
    | some ki =>
      show insF ki.ud (m.f T) (k.f T) (v.f T) = .no ∨ _
      cases h1 : m.f T with
      | none => exact .inl rfl
      | some mv =>
        cases h2 : k.f T with
        | none => cases mv <;> exact .inl rfl
        | some kv =>
          cases h3 : v.f T with
          | none => cases mv <;> exact .inl rfl
          | some vv =>
            cases mv <;> try exact .inl rfl
            rename_i j
            show insK j kv vv (keyT kv ki.ud) = .no ∨ _
            cases hkt : keyT kv ki.ud with
            | false => exact .inl rfl
            | true =>
              refine .inr ⟨ti, kt, et, ki, j, kv, vv, rfl, hd, hk, rfl, rfl, rfl, hkt, ?_⟩
              show insF ki.ud (m.f T) (k.f T) (v.f T) = _
              rw [h1, h2, h3]
              show insK j kv vv (keyT kv ki.ud) = _
              rw [hkt]; rfl
theorem rd_known {op : Op} {T : Tr V} {tm : Array Value} {i : Pth} (hT : TR ρ T tm) (h : (fB E op).f T = .rd i) : ρ i ≠ none := by
  have P1 : ∀ x off, (aB x).f T = some (.p i off) → ρ i ≠ none := fun x off hx => by obtain ⟨l, h1, _⟩ := aB_R hx hT; rw [h1]; simp
  have P2 : ∀ x, (aB x).f T = some (.m i) → ρ i ≠ none := fun x hx => by obtain ⟨l, h1, _⟩ := aB_R hx hT; rw [h1]; simp
  have P3 : ∀ x a b c d e, (aB x).f T = some (.sl i a b c d e) → ρ i ≠ none := fun x a b c d e hx => by obtain ⟨l, _, h1, _⟩ := aB_R hx hT; rw [h1]; simp
  cases op <;> simp only [fB, fNo] at h <;> try cases h
  case load t a => obtain ⟨off, h⟩ := fP_known h; exact P1 _ _ h
  case lookup t x k ok => exact P2 _ (fM_known h)
  case convert s d x => obtain ⟨_, _, _, _, _, h⟩ := fS_known h; exact P3 _ _ _ _ _ _ h
  case slice t x lo hi mx => obtain ⟨off, h⟩ := fP_known h; exact P1 _ _ h
  case insert t m k v =>
    rcases fIn_cases (m := aB m) (k := aB k) (v := aB v) (T := T) (E.tt t) E with g | ⟨_, _, _, _, _, _, _, _, _, _, _, _, _, _, g⟩ <;> rw [g] at h <;> cases h
  case call c =>
    obtain ⟨callee, args, ts⟩ := c
    cases callee <;> simp only [fCall, fNo] at h <;> try cases h
    rename_i b
    cases b <;> simp only [fCall, fNo] at h <;> try cases h
    cases ha : args.toList with
    | nil => rw [ha] at h; cases h
    | cons x l =>
      rw [ha] at h
      cases l with
      | cons y l => cases h
      | nil => exact P2 _ (fM_known h)
theorem st_known {op : Op} {T : Tr V} {tm : Array Value} {i : Pth} {off : Nat} {l : List V} (hT : TR ρ T tm) (hf : (fB E op).f T = .wt) (h : (qB E op).f T noH = .st i off l) : ρ i ≠ none := by
  cases op <;> simp only [fB, fNo] at hf <;> try cases hf
  case store t a x =>
    have h : (qStore (aB a) (aB x) (szOf E t)).f T noH = .st i off l := h
    cases hs : szOf E t with
    | none => rw [hs] at h; cases h
    | some sz =>
      rw [hs] at h
      have h : rStore sz ((aB a).f T) ((aB x).f T) = .st i off l := h
      cases h1 : (aB a).f T with
      | none => rw [h1] at h; cases h
      | some av =>
        rw [h1] at h
        cases h2 : (aB x).f T with
        | none => rw [h2] at h; cases av <;> cases h
        | some xv =>
          rw [h2] at h
          cases av <;> try cases h
          rename_i j off'
          have h : rStL j off' sz (cellsV xv) = .st i off l := h
          cases hc : cellsV xv with
          | none => rw [hc] at h; cases h
          | some cl =>
            rw [hc] at h
            have h : rSt j off' cl (Nat.beq (len cl) sz) = .st i off l := h
            cases hb : Nat.beq (len cl) sz <;> rw [hb] at h <;> cases h
            obtain ⟨lc, g, _⟩ := aB_R h1 hT
            rw [g]; simp
  case load t a => exfalso; revert hf; cases (aB a).f T with
    | none => intro h; cases h
    | some v => cases v <;> intro h <;> cases h
  case lookup t x k ok => exfalso; revert hf; cases (aB x).f T with
    | none => intro h; cases h
    | some v => cases v <;> intro h <;> cases h
  case convert s d x => exfalso; revert hf; cases (aB x).f T with
    | none => intro h; cases h
    | some v => cases v <;> intro h <;> cases h
  case slice t x lo hi mx => exfalso; revert hf; cases (aB x).f T with
    | none => intro h; cases h
    | some v => cases v <;> intro h <;> cases h
  case insert t m k v =>
    rcases fIn_cases (m := aB m) (k := aB k) (v := aB v) (T := T) (E.tt t) E with g | ⟨_, _, _, _, _, _, _, _, _, _, _, _, _, _, g⟩ <;> rw [g] at hf <;> cases hf
  case call c =>
    exfalso
    obtain ⟨callee, args, ts⟩ := c
    cases callee <;> simp only [fCall, fNo] at hf <;> try cases hf
    rename_i b
    cases b <;> simp only [fCall, fNo] at hf <;> try cases hf
    cases ha : args.toList with
    | nil => rw [ha] at hf; cases hf
    | cons x l =>
      rw [ha] at hf
      cases l with
      | cons y l => cases hf
      | nil =>
        have hf : fM ((aB x).f T) = .wt := hf
        revert hf; cases (aB x).f T with
        | none => intro h; cases h
        | some v => cases v <;> intro h <;> cases h
/-- an operation that adds an entry -/
theorem ins_known {op : Op} {T : Tr V} {i : Pth} {k v : V} (hf : (fB E op).f T = .ins i k v) :
    ∃ ty m kx vx ti kt et ki, op = .insert ty m kx vx ∧ E.tt ty = some ti ∧ ti.ud = .map kt et ∧ E.tt kt = some ki ∧ (aB m).f T = some (.m i) ∧ (aB kx).f T = some k ∧ (aB vx).f T = some v ∧ keyT k ki.ud = true := by
  cases op <;> simp only [fB, fNo] at hf <;> try cases hf
  case insert t m kx vx =>
    rcases fIn_cases (m := aB m) (k := aB kx) (v := aB vx) (T := T) (E.tt t) E with g | ⟨ti, kt, et, ki, j, kv, vv, h1, h2, h3, h4, h5, h6, h7, g⟩
    · rw [g] at hf; cases hf
    · rw [g] at hf; cases hf
      exact ⟨t, m, kx, vx, ti, kt, et, ki, rfl, h1, h2, h3, h4, h5, h6, h7⟩
  case load t a => exfalso; revert hf; cases (aB a).f T with
    | none => intro h; cases h
    | some v => cases v <;> intro h <;> cases h
  case lookup t x k ok => exfalso; revert hf; cases (aB x).f T with
    | none => intro h; cases h
    | some v => cases v <;> intro h <;> cases h
  case convert s d x => exfalso; revert hf; cases (aB x).f T with
    | none => intro h; cases h
    | some v => cases v <;> intro h <;> cases h
  case slice t x lo hi mx => exfalso; revert hf; cases (aB x).f T with
    | none => intro h; cases h
    | some v => cases v <;> intro h <;> cases h
  case call c =>
    exfalso
    obtain ⟨callee, args, ts⟩ := c
    cases callee <;> simp only [fCall, fNo] at hf <;> try cases hf
    rename_i b
    cases b <;> simp only [fCall, fNo] at hf <;> try cases hf
    cases ha : args.toList with
    | nil => rw [ha] at hf; cases hf
    | cons x l =>
      rw [ha] at hf
      cases l with
      | cons y l => cases hf
      | nil =>
        have hf : fM ((aB x).f T) = .ins i k v := hf
        revert hf; cases (aB x).f T with
        | none => intro h; cases h
        | some v => cases v <;> intro h <;> cases h
end
end Go.Ev
namespace Go.Ev
open Go
noncomputable section
open Classical
variable {P : Program} {E : Env} {N0 : Pth} {cnt : Nat} {r : Rc} {fr : FrI} {t tb tr u1 u2 : List TE} {s0 sF sb : DS} {HS : H} {S : Nat → Prop} {ρ ρ' ρ0 : Rho} {w w' w0 : World} {ds ds' : List Deferred} {h0 : H} {e : TE}

/-- a region's plan -/
structure Plan (E : Env) (N0 : Pth) (r : Rc) (fr : FrI) (ops : Array Oper) (t : List TE) (s0 sF : DS) : Prop where
  hp : PTr N0 r fr t s0 sF
  sep : sepB (t.map (·.x)) = true
  el : ∀ e ∈ t, ∃ o, ops[e.x.ix]? = some o ∧ e.x = doB E ops.toList { ix := e.x.ix, msk := e.x.msk, op := o } ∧ MaskOK ops e.x.ix e.x.msk ∧ okDst fr.nt o.dst = true
  all : ∀ i, i < ops.size → ∃ e ∈ t, e.x.ix = i
/-- what holds when the operations of S are done -/
structure DI (N0 : Pth) (r : Rc) (fr : FrI) (ops : Array Oper) (t : List TE) (s0 sF : DS) (S : Nat → Prop) (ρ : Rho) (a : Act) (w : World) (ρ0 : Rho) (h0 : H) (w0 : World) : Prop where
  ma : ∃ tb tr sb HS, MA N0 ops.size r fr t s0 sF tb tr sb HS S ρ w a.defers ρ0 h0 w0
  ti : TI t s0 S ρ a.tmps
  nt : fr.nt ≤ a.tmps.size
  cl : ∀ i j, S i → Bef ops j i → S j
theorem Plan.lt {ops : Array Oper} (p : Plan E N0 r fr ops t s0 sF) {y : TE} (hy : y ∈ t) : y.x.ix < ops.size := by
  obtain ⟨o, h, _⟩ := p.el y hy
  exact (Array.getElem?_eq_some_iff.1 h).1
theorem Plan.d {ops : Array Oper} (p : Plan E N0 r fr ops t s0 sF) {y : TE} (hy : y ∈ t) : y.x.d = dB y.x.dst := by
  obtain ⟨o, h, h2, _⟩ := p.el y hy
  rw [h2]; rfl
theorem isD_defer {c : Call} : isD (.defer c) = true := rfl
/-- what a value tells -/
def EffN (id : Pth) (v : V) : Res → Prop
  | .val u => v = u
  | .newp _ => v = .p id 0
  | .news _ n c ex sz => v = .sl id 0 n c ex sz
  | .newm => v = .m id
  | _ => False
def EffV (x : DO) (id : Pth) (S : Tr V) (v : V) : Prop :=
  (x.fp.f S = .no → EffN id v (x.q.f S noH)) ∧ (x.fp.f S = .wt → ∃ i off l, x.q.f S noH = .st i off l ∧ v = .tu []) ∧ (∀ i k u, x.fp.f S = .ins i k u → v = .tu [])
theorem eff_inv' {x : DO} {id : Pth} {S : Tr V} {s s' : DS} {v : V} (h : Eff x id r fr S s v s') :
    (x.g.f S = .skip ∧ v = .tu []) ∨ (x.g.f S = .yes ∧ (x.isk = true ∨ x.isk = false ∧ EffV x id S v)) := by
  cases h with
  | skip hg => exact .inl ⟨hg, rfl⟩
  | call hg hk => exact .inr ⟨hg, .inl hk⟩
  | val hg hk hf hq => exact .inr ⟨hg, .inr ⟨hk, fun _ => by rw [hq]; rfl, (fun h => by rw [hf] at h; cases h), fun _ _ _ h => by rw [hf] at h; cases h⟩⟩
  | new hg hk hf hq ho =>
    refine .inr ⟨hg, .inr ⟨hk, fun _ => ?_, (fun h => by rw [hf] at h; cases h), fun _ _ _ h => by rw [hf] at h; cases h⟩⟩
    rw [hq]
    obtain ⟨l, ⟨rfl, rfl, _⟩ | ⟨n, c, ex, sz, rfl, rfl, _⟩ | ⟨rfl, rfl, _⟩⟩ := ho <;> rfl
  | rd hg hk hf => exact .inr ⟨hg, .inr ⟨hk, (fun h => by rw [hf] at h; cases h), (fun h => by rw [hf] at h; cases h), fun _ _ _ h => by rw [hf] at h; cases h⟩⟩
  | st hg hk hf hq => exact .inr ⟨hg, .inr ⟨hk, (fun h => by rw [hf] at h; cases h), fun _ => ⟨_, _, _, hq, rfl⟩, fun _ _ _ _ => rfl⟩⟩
  | ins hg hk hf => exact .inr ⟨hg, .inr ⟨hk, (fun h => by rw [hf] at h; cases h), (fun h => by rw [hf] at h; cases h), fun _ _ _ _ => rfl⟩⟩
theorem eff_inv (h : EffT N0 r fr e) : (e.x.g.f e.S = .skip ∧ e.v = .tu []) ∨ (e.x.g.f e.S = .yes ∧ (e.x.isk = true ∨ e.x.isk = false ∧ EffV e.x (Pth.adv N0 e.x.ix) e.S e.v)) := eff_inv' h
section
variable {b : Frame} {a : Act} {k : List Item} {cs : List Frame} {ops : Array Oper} {i : Nat} {rest : List Nat} {o : Oper}
theorem dr_step (K : EnvOK P E) (PO : PrimOK P E) (RC : RcOK P r) (FO : FrOK fr b cs) (h0n : h0.n = N0) (p : Plan E N0 r fr ops t s0 sF) (di : DI N0 r fr ops t s0 sF S ρ a w ρ0 h0 w0)
    (hn : ¬ S i) (ho : ops[i]? = some o) (hed : ∀ e ∈ o.after, edgeBinds e = true → S e.on) :
    ∃ ρ' a' w', DI N0 r fr ops t s0 sF (fun j => S j ∨ j = i) ρ' a' w' ρ0 h0 w0 ∧
      Steps P (lone (b.atR a (.inRegion ops (i :: rest) :: k)) cs w) (lone (b.atR a' (.inRegion ops rest :: k)) cs w') := by
  have hlt : i < ops.size := (Array.getElem?_eq_some_iff.1 ho).1
  obtain ⟨e, he, hei⟩ := p.all i hlt
  subst hei
  obtain ⟨o', ho', hx, hmask, hdst⟩ := p.el e he
  rw [ho] at ho'; cases ho'
  obtain ⟨tb, tr, sb, HS, m⟩ := di.ma
  have hrdy : ∀ j, Bef ops j e.x.ix → S j := by
    intro j hj
    cases hj with
    | edge h1 h2 h3 => rw [ho] at h1; cases h1; exact hed _ h2 h3
    | trans h1 h2 h3 h4 => rw [ho] at h1; cases h1; exact di.cl _ _ (hed _ h2 h3) h4
  have htr : e ∈ tr := by
    have := he
    rw [m.ht] at this
    rcases List.mem_append.1 this with g | g
    · exact absurd (m.doneb e g) hn
    · exact g
  obtain ⟨u1, u2, hu⟩ := List.append_of_mem htr
  have hc : ∀ y ∈ t, S y.x.ix → ∀ j, bit y.x.msk j = true → S j := by
    intro y hy hS j hj
    obtain ⟨_, _, _, hm, _⟩ := p.el y hy
    exact di.cl _ _ hS (hm j hj)
  have d : Rdy N0 r fr t tb tr u1 u2 s0 sb sF S e := ⟨p.hp, m.ht, hu, hn, fun j hj => hrdy j (hmask j hj), hc⟩
  have ht : t = (tb ++ u1) ++ e :: u2 := by rw [m.ht, hu]; simp
  have hT : TR ρ e.S a.tmps := di.ti.sel ht p.hp (fun y hy => p.d hy) p.sep hn d.he hc
  have huq := p.hp.uniq.2 _ _ _ ht
  have hcl : ∀ i j, (S i ∨ i = e.x.ix) → Bef ops j i → (S j ∨ j = e.x.ix) := by
    intro i j hi hj
    rcases hi with hi | rfl
    · exact .inl (di.cl _ _ hi hj)
    · exact .inl (hrdy j hj)
  have hdd : e.x.dst = o.dst := by rw [hx]; rfl
  have hg : e.x.g.f e.S = (gB ops.toList o.guard).f e.S := by rw [hx]; rfl
  have hq : e.x.q = qB E o.op := by rw [hx]; rfl
  have hkb : e.x.k = kB E o.op := by rw [hx]; rfl
  have hfp : e.x.fp = fB E o.op := by rw [hx]; rfl
  have hik : e.x.isk = isD o.op := by rw [hx]; rfl
  -- putting the result
  have fin : ∀ {ρ' : Rho} {a' : Act} {w' : World} {x : Value}, a'.tmps = (a.put o.dst x).tmps → R ρ' e.v x → Ext ρ ρ' →
      (∃ tb tr sb HS, MA N0 ops.size r fr t s0 sF tb tr sb HS (fun j => S j ∨ j = e.x.ix) ρ' w' a'.defers ρ0 h0 w0) → DI N0 r fr ops t s0 sF (fun j => S j ∨ j = e.x.ix) ρ' a' w' ρ0 h0 w0 := by
    intro ρ' a' w' x ha hxr hext hm
    refine ⟨hm, di.ti.put (a := a) (a' := a') ht p.sep hn hc huq.1 huq.2 (by rw [hdd]; exact ha) (fun q hqd => ?_) hxr hext, ?_, hcl⟩
    · rw [hdd] at hqd
      rw [hqd] at hdst
      have h1 : q < fr.nt := by
        have : Nat.blt q fr.nt = true := hdst
        rw [blt_iff] at this; simpa using this
      exact Nat.lt_of_lt_of_le h1 di.nt
    · rw [ha, put_size]; exact di.nt
  obtain ⟨p1, p2, p3⟩ := split_tr m hu
  -- a quiet operation that only gives a value
  have qval : ∀ {h : H} {v : V}, InvO ρ h w → Region.wanted o (yielded ops a.tmps) = true → isD o.op = false → (qB E o.op).f e.S h = .val v → v = e.v → ¬ e.call → e.nw = none → e.wr.at = none →
      ∃ ρ' a' w', DI N0 r fr ops t s0 sF (fun j => S j ∨ j = e.x.ix) ρ' a' w' ρ0 h0 w0 ∧
        Steps P (lone (b.atR a (.inRegion ops (e.x.ix :: rest) :: k)) cs w) (lone (b.atR a' (.inRegion ops rest :: k)) cs w') := by
    intro h v hI hw hd hv hve hnc hnn hnw
    subst hve
    have hqq := q_all (P := P) (o := o) K hT hI
    rw [hv] at hqq
    obtain ⟨x, h1, h2⟩ := hqq
    rw [evO_eq] at h1
    have hnd : ∀ c, o.op ≠ .defer c := by intro c hh; rw [hh] at hd; cases hd
    refine ⟨ρ, a.put o.dst x, w, fin rfl h2 (Ext.refl _) ⟨tb, tr, sb, HS, ?_⟩, go_value ho hw (by rw [Oper.semAt_eq _ _ _ hnd]; exact h1)⟩
    rw [put_defers]
    exact m.quiet d hnc hnn hnw
  have hinv := eff_inv p2
  cases hgr : e.x.g.f e.S with
  | no =>
    exfalso
    rcases hinv with ⟨h, _⟩ | ⟨h, _⟩ <;> rw [hgr] at h <;> cases h
  | skip =>
    have hw := gB_skip (ops := ops) (o := o) (a := a) hT (by rw [← hg]; exact hgr)
    have hs := stepR_op_skip (P := P) (b := b) (a := a) (k := k) (cs := cs) (w := w) (ops := ops) (i := e.x.ix) (rest := rest) (by simp [ho, hw])
    simp only [ho, Option.bind_some] at hs
    have hv : e.v = .tu [] := by
      rcases hinv with ⟨_, h⟩ | ⟨h, _⟩
      · exact h
      · rw [hgr] at h; cases h
    refine ⟨ρ, a.put o.dst undef, w, fin rfl (by rw [hv]; exact R_undef ρ) (Ext.refl _) ⟨tb, tr, sb, HS, ?_⟩, .one hs⟩
    rw [put_defers]
    exact m.quiet d (fun hcc => by have := hcc.1; rw [hgr] at this; cases this) (by simp only [TE.nw]; rw [hgr]) (by simp only [TE.wr]; rw [hgr]; rfl)
  | yes =>
    have hw := gB_yes (ops := ops) (o := o) (a := a) hT (by rw [← hg]; exact hgr)
    cases hisk : e.x.isk with
    | true =>
      have hcall : e.call := ⟨hgr, hisk⟩
      obtain ⟨_, c2, _, _⟩ := p2.call hcall
      obtain ⟨i1, i2⟩ := m.invB d hcall
      obtain ⟨_, b2, _⟩ := m.before d hcall
      rw [hkb] at c2
      have st : St ρ e.s.h w fr.nt ρ e.S e.s.D e.s.h a w := ⟨hT, di.nt, by rw [b2]; exact m.dl, i1, Fr.refl _ _ _⟩
      obtain ⟨ρ', a', w', x, h1, h2, h3, h4, h5, h6⟩ := k_ok (k := k) (rest := rest) K PO RC FO st ho hw hdst c2
      obtain ⟨HS', m'⟩ := m.call d hcall (fun y hy => p.lt hy) h4 h5 h3
      exact ⟨ρ', a', w', fin h1 h2 h5.ext ⟨_, _, _, _, m'⟩, h6⟩
    | false =>
      have hnc : ¬ e.call := fun hcc => by have := hcc.2; rw [hisk] at this; cases this
      have hdop : isD o.op = false := by rw [← hik]; exact hisk
      have hnd : ∀ c, o.op ≠ .defer c := by intro c hh; rw [hh] at hdop; cases hdop
      have hnoI : InvO ρ noH w := ⟨fun i o h => by cases h⟩
      have hinv : EffV e.x (Pth.adv N0 e.x.ix) e.S e.v := by
        rcases hinv with ⟨h, _⟩ | ⟨_, h | ⟨_, h⟩⟩
        · rw [hgr] at h; cases h
        · rw [hisk] at h; cases h
        · exact h
      cases hf : e.x.fp.f e.S with
      | rd i =>
        have hr : e.rd = some i := by simp only [TE.rd]; rw [hgr, hisk, hf]
        have hi : ρ i ≠ none := rd_known (E := E) (op := o.op) hT (by rw [← hfp]; exact hf)
        obtain ⟨G, g1, g2⟩ := m.read d hr hi
        refine qval (h := selH i G) ⟨fun j ob hj => ?_⟩ hw hdop (by rw [← hq]; exact g2) rfl hnc (by simp only [TE.nw]; rw [hgr, hisk, hf]) (by simp only [TE.wr]; rw [hgr, hisk, hf]; rfl)
        have hj2 : (put .e i (G.t.get i)).get j = some ob := hj
        rw [get_put'] at hj2
        by_cases e' : i = j
        · rw [if_pos e'] at hj2
          have := m.inv.obj _ _ (g1 _ hj2)
          rw [e'] at this
          exact this
        · rw [if_neg e'] at hj2; cases hj2
      | no =>
        cases hqv : e.x.q.f e.S noH with
        | val v =>
          have hv : v = e.v := by have := hinv.1 hf; rw [hqv] at this; exact this.symm
          exact qval (h := noH) hnoI hw hdop (by rw [← hq]; exact hqv) hv hnc (by simp only [TE.nw]; rw [hgr, hisk, hf, hqv]; rfl) (by simp only [TE.wr]; rw [hgr, hisk, hf]; rfl)
        | newp l =>
          have hnw : e.nw = some (.cells l) := by simp only [TE.nw]; rw [hgr, hisk, hf, hqv]; rfl
          have hv : e.v = .p (Pth.adv N0 e.x.ix) 0 := by have := hinv.1 hf; rw [hqv] at this; exact this
          have hqq := q_all (P := P) (o := o) K hT hnoI
          rw [← hq, hqv] at hqq
          obtain ⟨cells, et, h1, h2, h3⟩ := hqq
          rw [evO_eq] at h1
          have hin := m.un e he hn
          obtain ⟨HS', m'⟩ := m.new (w' := w.alloc (.cells cells et)) (b := .cells cells et) (off := 0) (sz := cells.size) d hnw h0n (p.lt he) rfl rfl rfl rfl
            ⟨cells, et, (0, 0), by show (w.heap.push _)[w.heap.size]? = _; simp, rfl, .inl rfl, cellsR h2 h3 (bind1_ext hin)⟩
          refine ⟨bind1 ρ (Pth.adv N0 e.x.ix) ⟨w.heap.size, 0, cells.size⟩, a.put o.dst (.pointer (some ⟨w.heap.size, 0, none⟩)), _, fin rfl (by rw [hv]; exact ⟨_, bind1_same _ _ _, rfl⟩) (bind1_ext hin) ⟨tb, tr, sb, HS', by rw [put_defers]; exact m'⟩, go_value ho hw (by rw [Oper.semAt_eq _ _ _ hnd]; exact h1)⟩
        | news l n c ex sz =>
          have hnw : e.nw = some (.cells l) := by simp only [TE.nw]; rw [hgr, hisk, hf, hqv]; rfl
          have hv : e.v = .sl (Pth.adv N0 e.x.ix) 0 n c ex sz := by have := hinv.1 hf; rw [hqv] at this; exact this
          have hqq := q_all (P := P) (o := o) K hT hnoI
          rw [← hq, hqv] at hqq
          obtain ⟨cells, et, fz, c', w1, h1, hh, hos, htp, hou, h2, h3, h4, h7, h8, h9⟩ := hqq
          rw [evO_eq] at h1
          have hin := m.un e he hn
          obtain ⟨HS', m'⟩ := m.new (w' := w1) (b := .cells cells et fz) (off := 0) (sz := cells.size) d hnw h0n (p.lt he) hh hos htp hou
            ⟨cells, et, fz, by rw [hh]; simp, rfl, h2, fun kk v hk => by
              obtain ⟨x, a1, a2, a3⟩ := h3 kk v hk
              exact ⟨x, by rw [Nat.zero_add]; exact a1, a2.mono (bind1_ext hin), a3⟩⟩
          refine ⟨bind1 ρ (Pth.adv N0 e.x.ix) ⟨w.heap.size, 0, cells.size⟩, a.put o.dst (.slice (some ⟨w.heap.size, 0, none⟩) n c'), _, fin rfl (by rw [hv]; exact ⟨_, c', bind1_same _ _ _, rfl, h4, h7, h8, by simp; omega⟩) (bind1_ext hin) ⟨tb, tr, sb, HS', by rw [put_defers]; exact m'⟩, go_value ho hw (by rw [Oper.semAt_eq _ _ _ hnd]; exact h1)⟩
        | newm =>
          have hnw : e.nw = some (.mp []) := by simp only [TE.nw]; rw [hgr, hisk, hf, hqv]; rfl
          have hv : e.v = .m (Pth.adv N0 e.x.ix) := by have := hinv.1 hf; rw [hqv] at this; exact this
          have hqq := q_all (P := P) (o := o) K hT hnoI
          rw [← hq, hqv] at hqq
          have h1 : (execOp (evO a.tmps) o).run P w = .ok (.value (.map (some w.heap.size))) (w.alloc (.map #[] 0)) := hqq
          rw [evO_eq] at h1
          have hin := m.un e he hn
          obtain ⟨HS', m'⟩ := m.new (w' := w.alloc (.map #[] 0)) (b := .map #[] 0) (off := 0) (sz := 0) d hnw h0n (p.lt he) rfl rfl rfl rfl
            ⟨#[], 0, [], by show (w.heap.push _)[w.heap.size]? = _; simp, by simp, rfl, trivial⟩
          refine ⟨bind1 ρ (Pth.adv N0 e.x.ix) ⟨w.heap.size, 0, 0⟩, a.put o.dst (.map (some w.heap.size)), _, fin rfl (by rw [hv]; exact ⟨_, bind1_same _ _ _, rfl⟩) (bind1_ext hin) ⟨tb, tr, sb, HS', by rw [put_defers]; exact m'⟩, go_value ho hw (by rw [Oper.semAt_eq _ _ _ hnd]; exact h1)⟩
        | no => exfalso; have := hinv.1 hf; rw [hqv] at this; exact this
        | st j off l => exfalso; have := hinv.1 hf; rw [hqv] at this; exact this
        | frz j v => exfalso; have := hinv.1 hf; rw [hqv] at this; exact this
      | wt =>
        have hst : ∃ j off l, e.x.q.f e.S noH = .st j off l ∧ e.v = .tu [] := hinv.2.1 hf
        obtain ⟨j, off, l, hqv, hv⟩ := hst
        have hwr : e.wr = .st j off l := by simp only [TE.wr]; rw [hgr, hisk, hf, hqv]; rfl
        have hj : ρ j ≠ none := st_known (E := E) (op := o.op) hT (by rw [← hfp]; exact hf) (by rw [← hq]; exact hqv)
        have hqq := q_all (P := P) (o := o) K hT hnoI
        rw [← hq, hqv] at hqq
        cases hl : ρ j with
        | none => exact absurd hl hj
        | some loc =>
          obtain ⟨xs, h1, h2, h3⟩ := hqq loc hl
          obtain ⟨HS', w', g1, m'⟩ := m.store d hwr hl h1 h2 P
          rw [g1, evO_eq] at h3
          refine ⟨ρ, a.put o.dst undef, w', fin rfl (by rw [hv]; exact R_undef ρ) (Ext.refl _) ⟨tb, tr, sb, HS', by rw [put_defers]; exact m'⟩, go_skip ho hw (by rw [Oper.semAt_eq _ _ _ hnd]; exact h3)⟩
      | ins j kk vv =>
        have hv : e.v = .tu [] := hinv.2.2 _ _ _ hf
        have hwr : e.wr = .ins j kk vv := by simp only [TE.wr]; rw [hgr, hisk, hf]
        obtain ⟨ty, mx, kx, vx, ti, kt, et, ki, k1, k2, k3, k4, k5, k6, k7, k8⟩ := ins_known (E := E) (op := o.op) (T := e.S) (by rw [← hfp]; exact hf)
        have r5 := aB_R k5 hT
        have r6 := aB_R k6 hT
        have r7 := aB_R k7 hT
        rw [evO_eq] at r5 r6 r7
        have hj : ρ j ≠ none := by obtain ⟨l, h1, _⟩ := r5; rw [h1]; simp
        obtain ⟨HS', w', g1, m'⟩ := m.ins d hwr hj K k2 k3 k4 k8 r5 r6 r7
        refine ⟨ρ, a.put o.dst undef, w', fin rfl (by rw [hv]; exact R_undef ρ) (Ext.refl _) ⟨tb, tr, sb, HS', by rw [put_defers]; exact m'⟩, go_skip ho hw (by rw [Oper.semAt_eq _ _ _ hnd]; simp [execOp, k1, g1])⟩
theorem dr_all (K : EnvOK P E) (PO : PrimOK P E) (RC : RcOK P r) (FO : FrOK fr b cs) (h0n : h0.n = N0) (p : Plan E N0 r fr ops t s0 sF) : ∀ {l : List Nat} {S : Nat → Prop} {ρ : Rho} {a : Act} {w : World},
    Runs ops S l → DI N0 r fr ops t s0 sF S ρ a w ρ0 h0 w0 →
    ∃ ρ' a' w' S', (∀ i, i < ops.size → S' i) ∧ DI N0 r fr ops t s0 sF S' ρ' a' w' ρ0 h0 w0 ∧
      Steps P (lone (b.atR a (.inRegion ops l :: k)) cs w) (lone (b.atR a' (.inRegion ops [] :: k)) cs w')
  | [], S, ρ, a, w, hr, di => ⟨ρ, a, w, S, hr, di, .refl P _⟩
  | i :: l, S, ρ, a, w, hr, di => by
    obtain ⟨h1, ⟨o, h2, h3⟩, h4⟩ := hr
    obtain ⟨ρ1, a1, w1, d1, s1⟩ := dr_step (k := k) (rest := l) K PO RC FO h0n p di h1 h2 h3
    obtain ⟨ρ2, a2, w2, S2, g1, g2, g3⟩ := dr_all K PO RC FO h0n p h4 d1
    exact ⟨ρ2, a2, w2, S2, g1, g2, s1.trans g3⟩
end
theorem okDsts_mem {N : Nat} : ∀ {l : List Oper}, okDsts N l = true → ∀ o ∈ l, okDst N o.dst = true
  | [], _, _, h => by cases h
  | x :: l, h, o, ho => by
    simp only [okDsts, Bool.and_eq_true] at h
    cases ho with
    | head => exact h.1
    | tail _ ho => exact okDsts_mem h.2 o ho
theorem dosB_mem {ops : List Oper} : ∀ {l : List PO} {x : DO}, x ∈ dosB E ops l → ∃ q ∈ l, x = doB E ops q
  | [], _, h => by cases h
  | q :: l, x, h => by
    cases h with
    | head => exact ⟨q, List.mem_cons_self, rfl⟩
    | tail _ h => obtain ⟨q', h1, h2⟩ := dosB_mem h; exact ⟨q', List.mem_cons_of_mem _ h1, h2⟩
/-- a region that draws its order -/
theorem draw_sound (K : EnvOK P E) (PO : PrimOK P E) (RC : RcOK P r) : DrawSound P E r := by
  intro fr b cs k ops id ρ0 h0 w0 ρ T D h a w T' D' h' FO s hk
  have hk : (oB2 (drawB (ldo E ops.toList) (len ops.toList)) (drawOK E fr.nt ops.toList (ldo E ops.toList))).f r fr T D h = .ok T' D' h' := hk
  cases hok : drawOK E fr.nt ops.toList (ldo E ops.toList) with
  | false => rw [hok] at hk; cases hk
  | true =>
    rw [hok] at hk
    have hk : dEnd (len ops.toList) (dRun h.n r fr (dosB E ops.toList (planOf ops.toList)) ⟨T, D, ⟨h.t, Pth.adv h.n (len ops.toList)⟩, [], [], [], [], 0⟩) = .ok T' D' h' := hk
    simp only [drawOK, Bool.and_eq_true] at hok
    obtain ⟨ok1, ok2, ok3⟩ := hok
    have hlen : len ops.toList = ops.size := by rw [len_eq]; simp
    rw [hlen] at hk
    generalize hs0 : (⟨T, D, ⟨h.t, Pth.adv h.n ops.size⟩, [], [], [], [], 0⟩ : DS) = s0 at hk
    cases hrun : dRun h.n r fr (dosB E ops.toList (planOf ops.toList)) s0 with
    | no => rw [hrun] at hk; cases hk
    | ok sF =>
      rw [hrun] at hk
      have hk : (match Nat.beq sF.dn (Nat.sub (Nat.shiftLeft 1 ops.size) 1) with | true => CR.ok sF.T sF.D sF.h | false => .no) = .ok T' D' h' := hk
      cases hb : Nat.beq sF.dn (Nat.sub (Nat.shiftLeft 1 ops.size) 1) with
      | false => rw [hb] at hk; cases hk
      | true =>
        rw [hb] at hk
        cases hk
        obtain ⟨t, ht, hp⟩ := prun_tr (dRun_prun hrun)
        have el : ∀ e ∈ t, ∃ o, ops[e.x.ix]? = some o ∧ e.x = doB E ops.toList { ix := e.x.ix, msk := e.x.msk, op := o } ∧ MaskOK ops e.x.ix e.x.msk ∧ okDst fr.nt o.dst = true := by
          intro e he
          have hm : e.x ∈ t.map (·.x) := List.mem_map.2 ⟨e, he, rfl⟩
          rw [ht] at hm
          obtain ⟨q, q1, q2⟩ := dosB_mem hm
          obtain ⟨g1, g2⟩ := plan_mem q1
          have e1 : e.x.ix = q.ix := by rw [q2]; rfl
          have e2 : e.x.msk = q.msk := by rw [q2]; rfl
          refine ⟨q.op, by rw [e1]; exact g1, by rw [e1, e2]; exact q2, by rw [e1, e2]; exact g2, okDsts_mem ok1 _ ?_⟩
          exact List.mem_of_getElem? (by rw [Array.getElem?_toList]; exact g1)
        have full : ∀ i, i < ops.size → bit sF.dn i = true := fun i hi => full_bit (n := ops.size) hb hi
        have p : Plan E h.n r fr ops t s0 sF := ⟨hp, by rw [ht]; exact ok3, el, fun i hi => by
          rcases (hp.dn i).1 (full i hi) with g | g
          · rw [← hs0] at g
            rw [show (⟨T, D, ⟨h.t, Pth.adv h.n ops.size⟩, [], [], [], [], 0⟩ : DS).dn = 0 from rfl, zero_bit] at g; cases g
          · exact g⟩
        have hadv : h.n.nat ≤ (Pth.adv h.n ops.size).nat := by rw [Pth.nat_adv]; omega
        -- the start
        have di0 : DI h.n r fr ops t s0 sF (fun _ => False) ρ a { w with drawn := w.drawn + 1 } ρ h w := by
          refine ⟨⟨[], t, s0, s0.h, { ht := rfl, pb := .nil, pr := hp, ns := by rw [← hs0], nn := by rw [← hs0]; exact Nat.le_refl _, doneb := by simp, nocall := fun _ _ _ h => h, inv := ?_, n := rfl, get := fun i => (go_id (fun _ _ h => h.elim) _).symm, dl := by rw [← hs0]; exact s.dl, un := fun y hy _ => s.inv.fresh _ (by rw [Pth.nat_adv]; omega), wk := fun _ _ h => h.elim, fr := ?_ }⟩, ⟨fun u v hv _ => ?_, fun _ _ _ _ h => h.elim⟩, s.nt, fun _ _ h => h.elim⟩
          · rw [← hs0]
            exact ⟨fun i hi => s.inv.fresh i (Nat.le_trans hadv hi), fun i o hi => by
              obtain ⟨l, h1, h2⟩ := s.inv.obj i o hi
              exact ⟨l, h1, h2.mono (Ext.refl _) rfl⟩, fun i j oi oj li lj h1 h2 => s.inv.inj i j oi oj li lj h1 h2⟩
          · rw [← hs0]
            exact ⟨Ext.refl _, fun _ _ => rfl, hadv, Nat.le_refl _, rfl, rfl, rfl, fun _ _ _ => rfl, fun i o l h1 h2 => .inr ⟨i, o, l, h1, h2, rfl⟩⟩
          · rw [← hs0] at hv
            obtain ⟨x, h1, h2⟩ := s.tr _ _ hv
            rw [Pth.nat_of] at h1
            exact ⟨x, h1, h2⟩
        obtain ⟨ρ', a', w', S', g1, g2, g3⟩ := dr_all (k := k) (ρ0 := ρ) (w0 := w) (h0 := h) K PO RC FO rfl p (sched_runs ok2 (P.follows .mixedOrders) (w.tape w.drawn (.order b.fn id))) di0
        obtain ⟨⟨tb, tr, sb, HS, m⟩, ti, nt, cl⟩ := g2
        have hall : ∀ y ∈ t, S' y.x.ix := fun y hy => g1 _ (p.lt hy)
        have hnc : ∀ y ∈ tr, ¬ y.call := fun y hy hc => m.nocall y hy hc (hall y (by rw [m.ht]; simp [hy]))
        obtain ⟨q1, _, q3, q4⟩ := m.pr.quiet hnc
        have hget : ∀ i, HS.t.get i = sF.h.t.get i := by
          intro i
          rw [m.get, q4]
          exact go_eq (fun y hy => .inl ⟨fun _ => trivial, fun _ => hall y (by rw [m.ht]; simp [hy])⟩) _
        have hI : Inv ρ' sF.h w' := m.inv.part (by rw [m.n, q3]; exact Nat.le_refl _) (fun i o hi => by rw [hget]; exact hi)
        have hF : Fr ρ h w ρ' sF.h w' := by
          have f := m.fr
          exact ⟨f.ext, f.old, by rw [q3, ← m.n]; exact f.nn, f.sz, f.os, f.tape, f.output, f.keep, fun i o l h1 h2 => f.img i o l (by rw [hget]; exact h1) h2⟩
        refine ⟨ρ', a', w', ⟨?_, nt, by rw [q1]; exact m.dl, hI, s.fr.trans hF⟩, .head stepR_region_draw (g3.trans (.one stepR_region_end))⟩
        -- temporaries
        intro u v hv
        have hu : u = Pth.of u.nat := Pth.nat_inj (by rw [Pth.nat_of])
        rw [hu] at hv
        rcases lastT hp (fun y hy => p.d hy) hv with ⟨t1, e, t2, rfl, k1, k2, k3⟩ | ⟨k1, k2⟩
        · obtain ⟨x, x1, x2⟩ := ti.done t1 e t2 rfl (hall e (by simp)) u.nat k2 (fun y hy _ => k3 y hy)
          rw [k1] at x2
          exact ⟨x, x1, x2⟩
        · exact ti.base u.nat v k1 (fun y hy _ => k2 y hy)
end
end Go.Ev
namespace Go.Ev
open Go
/-- the evaluator is sound -/
theorem rc_sound {P : Program} {E : Env} (K : EnvOK P E) (PO : PrimOK P E) (n : Nat) : RcOK P (rc E n) := rc_ok K PO (fun _ RC => draw_sound K PO RC) n
end Go.Ev
namespace Go.Ev
open Go
/-- all nodes of a tree -/
def BT.All {α : Type} (p : Nat → α → Prop) : BT α → Prop
  | .leaf => True
  | .node k v l r => p k v ∧ BT.All p l ∧ BT.All p r
theorem BT.All.find {α : Type} {p : Nat → α → Prop} : ∀ {b : BT α} {n : Nat} {v : α}, BT.All p b → b.find n = some v → p n v
  | .leaf, _, _, _, h => by cases h
  | .node k x l r, n, v, ha, h => by
    simp only [BT.find] at h
    cases hb : Nat.beq n k with
    | true =>
      rw [hb] at h
      have e : n = k := by simpa using hb
      cases h
      rw [e]; exact ha.1
    | false =>
      rw [hb] at h
      cases hl : Nat.blt n k with
      | true => rw [hl] at h; exact BT.All.find ha.2.1 h
      | false => rw [hl] at h; exact BT.All.find ha.2.2 h
theorem info_of {P : Program} {t : Nat} {x : TypeInfo} (h : P.types[t]? = some x) : P.info? t = some x := by
  have hlt : t < P.types.size := (Array.getElem?_eq_some_iff.1 h).1
  unfold Tables.info?
  rw [if_pos hlt]; exact h
theorem tyOf_ok {P : Program} {b : BT TypeInfo} {pl : BT Bool} (hb : BT.All (fun k i => P.types[k]? = some i) b) (hp : ∀ t, plO (pl.find t) = true → P.stoodInHeld t = false ∧ P.eqGuardType P.depth t = false) {t : Nat} {i : TyI} (h : tyOf b pl t = some i) :
    (P.info? t = some i.info ∧ P.underlying t = some i.ud) ∧ (i.size = i.info.size ∧ i.bytes = i.info.bytes ∧ i.ag = isAggD i.ud) ∧ (∀ z, i.zero = some z → ∃ x, i.info.zero = some x ∧ ∀ ρ, R ρ z x) ∧ (i.plain = true → P.stoodInHeld t = false ∧ P.eqGuardType P.depth t = false) := by
  unfold tyOf at h
  cases hf : b.find t with
  | none => rw [hf] at h; cases h
  | some x =>
    rw [hf] at h
    have h1 : P.info? t = some x := info_of (hb.find hf)
    have fin : ∀ j : TypeInfo, P.underlying t = some j.desc → tyOf2 x (plO (pl.find t)) (some j) = some i →
        (P.info? t = some i.info ∧ P.underlying t = some i.ud) ∧ (i.size = i.info.size ∧ i.bytes = i.info.bytes ∧ i.ag = isAggD i.ud) ∧ (∀ z, i.zero = some z → ∃ x, i.info.zero = some x ∧ ∀ ρ, R ρ z x) ∧ (i.plain = true → P.stoodInHeld t = false ∧ P.eqGuardType P.depth t = false) := by
      intro j hj hh
      cases hh
      refine ⟨⟨h1, hj⟩, ⟨rfl, rfl, rfl⟩, fun z hz => ?_, hp t⟩
      have hz : zO x.zero = some z := hz
      show ∃ y, x.zero = some y ∧ _
      cases hx : x.zero with
      | none => rw [hx] at hz; cases hz
      | some y => rw [hx] at hz; exact ⟨y, rfl, fun ρ => ofVal_R ρ hz⟩
    have hu : P.underlying t = match x.desc with | .named _ u => (P.info? u).map (·.desc) | _ => some x.desc := by
      unfold Program.underlying
      rw [h1]
      obtain ⟨d⟩ := x
      cases d <;> rfl
    simp only [tyOf1] at h
    cases hd : x.desc with
    | named n u =>
      rw [hd] at h hu
      simp only at h hu
      cases hf2 : b.find u with
      | none => rw [hf2] at h; cases h
      | some j =>
        rw [hf2] at h
        have h2 : P.info? u = some j := info_of (hb.find hf2)
        rw [h2] at hu
        exact fin j hu h
    | _ => rw [hd] at h hu; simp only at h hu; exact fin x (by rw [hu, hd]) h
theorem env_ok {P : Program} {b : BT TypeInfo} {pl : BT Bool} {fb : BT Func} {pr : Nat → Option Nat} (hb : BT.All (fun k i => P.types[k]? = some i) b) (hp : ∀ t, plO (pl.find t) = true → P.stoodInHeld t = false ∧ P.eqGuardType P.depth t = false)
    (hf : BT.All (fun k F => P.funcs[k]? = some F ∧ ∀ args w, (callFunc k args).run P w = .ok (.enter k args) w) fb) : EnvOK P ⟨tyOf b pl, fb.find, pr⟩ where
  info t i h := (tyOf_ok hb hp h).1
  flat t i h := (tyOf_ok hb hp h).2.1
  zero t i z h hz := (tyOf_ok hb hp h).2.2.1 z hz
  plain t i h := (tyOf_ok hb hp h).2.2.2
  fn f F h := (hf.find h).1
  enter f F h _ := (hf.find h).2
end Go.Ev
