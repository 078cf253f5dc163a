/-
  Calls that are known already, also under other names; entries written as numbers; library functions; what a closed call does.
-/
import Derived.Lib.Bytealg
import Derived.Lib.IndexMore
import GoSem.Extern.MapsClone
import Derived.WalkKit
import Derived.Shelf.Vars
import Derived.Test.YtigkkoidkjdeaaaGreatDoorEvA
import Derived.Test.YtigkkoidkjdeaaaGreatDoorEvF
namespace Go.Ev
open Go
noncomputable section
/-! ## calls that are known already -/
structure Entry where
  f : Nat
  vs : List V
  ins : List (Pth × AObj)
  n : Pth
  v : V
  outs : List (Pth × AObj)
  n' : Pth
def pBeqs : List (V × V) → List (V × V) → Bool
  | [], [] => true
  | (a, b) :: l, (c, d) :: m => and (V.beq a c) (and (V.beq b d) (pBeqs l m))
  | _, _ => false
def oBeq : AObj → AObj → Bool
  | .cells a, .cells b => beqs a b
  | .mp a, .mp b => pBeqs a b
  | .df, .df => true
  | .mi, .mi => true
  | .mx a bs ck, .mx b cs dk => and (pBeqs a b) (and (lbeq bs cs) (Nat.beq ck dk))
  | _, _ => false
def isO (o : AObj) : Option AObj → Bool
  | some x => oBeq x o
  | none => false
/-- these objects are there -/
def there (h : Tr AObj) : List (Pth × AObj) → Bool
  | [] => true
  | (i, o) :: l => and (isO o (h.get i)) (there h l)
def putAll : List (Pth × AObj) → Tr AObj → Tr AObj
  | [], T => T
  | (i, o) :: l, T => putAll l (put T i (some o))
def dropAll : List (Pth × AObj) → Tr AObj → Tr AObj
  | [], T => T
  | (i, _) :: l, T => dropAll l (put T i none)
/-- the start of a known call: what it reaches, and the variable -/
def inH (e : Entry) (o : Obj) : H := ⟨put (putAll e.ins .e) .z (some (.gl GLB o)), e.n⟩
def outH (e : Entry) (o : Obj) : H := ⟨put (putAll e.outs .e) .z (some (.gl GLB o)), e.n'⟩
def memHit (e : Entry) (fb : VR) (h : H) (g : Option AObj) : Bool → VR
  | true => .ok e.v ⟨put (putAll e.outs (dropAll e.ins h.t)) .z g, e.n'⟩
  | false => fb
def memGo (fb : VR) (f : Nat) (vs : List V) (h : H) : Option Entry → VR
  | none => fb
  | some e => memHit e fb h (h.t.get .z) (and (Nat.beq f e.f) (and (Pth.beq h.n e.n) (and (isGl (h.t.get .z)) (and (beqs vs e.vs) (there h.t e.ins)))))
def memo (tab : Tr Entry) (c : Bool → Nat → List V → H → VR) (dfr : Bool) (f : Nat) (vs : List V) (h : H) : VR :=
  match dfr with
  | true => c true f vs h
  | false => memGo (c false f vs h) f vs h (tab.get h.n)
def rcM (E : Env) (tab : Tr Entry) : Nat → Rc
  | 0 => ⟨fun _ _ _ _ => .no, fun _ _ _ _ _ => .no, fun _ _ _ => .no⟩
  | n + 1 => ⟨memo tab (callF E (rcM E tab n)), loopF E (rcM E tab n), roundF E (rcM E tab n)⟩
/-- a call has come out as its entry says -/
def chkB (h : H) : Bool → Option AObj
  | true => h.t.get .z
  | false => none
def chk (e : Entry) : VR → Option AObj
  | .ok v h => chkB h (and (V.beq v e.v) (and (Pth.beq h.n e.n') (there h.t e.outs)))
  | .no => none
end
end Go.Ev
namespace Go.Ev
open Go
noncomputable section
theorem pBeqs_eq : ∀ (a b : List (V × V)), pBeqs a b = true → a = b
  | [], [], _ => rfl
  | [], _ :: _, h => by simp [pBeqs] at h
  | _ :: _, [], h => by simp [pBeqs] at h
  | (a, b) :: l, (c, d) :: m, h => by
    simp only [pBeqs, Bool.and_eq_true] at h
    rw [Vbeq _ _ h.1, Vbeq _ _ h.2.1, pBeqs_eq _ _ h.2.2]
theorem oBeq_eq {a b : AObj} (h : oBeq a b = true) : a = b := by
  cases a <;> cases b <;> simp only [oBeq] at h <;> first | rfl | rw [Vbeqs _ _ h] | rw [pBeqs_eq _ _ h] | (simp only [Bool.and_eq_true, beq_iff', decide_eq_true_eq] at h; rw [pBeqs_eq _ _ h.1, (lbeq_iff _ _).1 h.2.1, h.2.2]) | cases h
theorem there_mem {h : Tr AObj} : ∀ {l : List (Pth × AObj)}, there h l = true → ∀ y ∈ l, h.get y.1 = some y.2
  | [], _, _, hy => by cases hy
  | (i, o) :: l, ht, y, hy => by
    simp only [there, Bool.and_eq_true] at ht
    cases hy with
    | tail _ hy => exact there_mem ht.2 y hy
    | head =>
      show h.get i = some o
      cases hg : h.get i with
      | none => rw [hg] at ht; cases ht.1
      | some x =>
        rw [hg] at ht
        have : oBeq x o = true := ht.1
        rw [oBeq_eq this]
theorem putAll_mem : ∀ {l : List (Pth × AObj)} {T : Tr AObj} {i : Pth} {o : AObj}, (putAll l T).get i = some o → (i, o) ∈ l ∨ T.get i = some o
  | [], _, _, _, h => .inr h
  | (j, x) :: l, T, i, o, h => by
    rcases putAll_mem (l := l) h with h | h
    · exact .inl (List.mem_cons_of_mem _ h)
    · rw [get_put'] at h
      by_cases hj : j = i
      · rw [if_pos hj] at h; cases h; subst hj; exact .inl List.mem_cons_self
      · rw [if_neg hj] at h; exact .inr h
theorem putAll_or : ∀ {l : List (Pth × AObj)} {T : Tr AObj} {i : Pth}, (putAll l T).get i = (match (putAll l .e).get i with | some o => some o | none => T.get i)
  | [], _, _ => rfl
  | (j, x) :: l, T, i => by
    show (putAll l (put T j (some x))).get i = match (putAll l (put .e j (some x))).get i with | some o => some o | none => T.get i
    rw [putAll_or (l := l) (T := put T j (some x)), putAll_or (l := l) (T := put .e j (some x))]
    cases (putAll l .e).get i with
    | some o => rfl
    | none =>
      simp only
      rw [get_put', get_put']
      by_cases hj : j = i
      · rw [if_pos hj, if_pos hj]
      · rw [if_neg hj, if_neg hj]; rfl
theorem dropAll_get : ∀ {l : List (Pth × AObj)} {T : Tr AObj} {i : Pth} {o : AObj}, (dropAll l T).get i = some o → T.get i = some o ∧ ∀ x, (i, x) ∉ l
  | [], _, _, _, h => ⟨h, by simp⟩
  | (j, x) :: l, T, i, o, h => by
    obtain ⟨h1, h2⟩ := dropAll_get (l := l) h
    rw [get_put'] at h1
    by_cases hj : j = i
    · rw [if_pos hj] at h1; cases h1
    · rw [if_neg hj] at h1
      refine ⟨h1, fun y hy => ?_⟩
      cases hy with
      | head => exact hj rfl
      | tail _ hy => exact h2 y hy
/-- a known call does what its entry says -/
def EntOK (P : Program) (e : Entry) : Prop := ∀ ob ρ w args, Inv ρ (inH e ob) w → RL ρ e.vs args.toList →
  (∀ w, (callFunc e.f args).run P w = .ok (.enter e.f args) w) ∧ ∀ cs, ∃ x w', Ret P e.f .normal cs args w x w' ∧ Post ρ (inH e ob) w e.v (outH e ob) x w'
theorem isGl_some {o : Option AObj} (h : isGl o = true) : ∃ ob, o = some (.gl GLB ob) := by
  cases o with
  | none => cases h
  | some x =>
    cases x <;> try cases h
    rename_i b ob
    have : b = GLB := by simpa [isGl] using h
    subst this
    exact ⟨ob, rfl⟩
variable {P : Program} {E : Env}
theorem inH_get {e : Entry} {ob : Obj} {h : H} (ht : there h.t e.ins = true) (hg : h.t.get .z = some (.gl GLB ob)) {i : Pth} {o : AObj} (hi : (inH e ob).t.get i = some o) : h.t.get i = some o := by
  have hi : (put (putAll e.ins .e) .z (some (.gl GLB ob))).get i = some o := hi
  rw [get_put'] at hi
  by_cases hz : Pth.z = i
  · rw [if_pos hz] at hi; cases hi; rw [← hz]; exact hg
  · rw [if_neg hz] at hi
    rcases putAll_mem hi with g | g
    · exact there_mem ht _ g
    · cases g
/-- a known call, in a heap that holds more -/
theorem ent_hit {e : Entry} (he : EntOK P e) {ob : Obj} {h : H} {ρ : Rho} {w : World} {args : Array Value} (hI : Inv ρ h w) (hv : RL ρ e.vs args.toList) (hn : h.n = e.n) (ht : there h.t e.ins = true) (hg : h.t.get .z = some (.gl GLB ob)) :
    (∀ w, (callFunc e.f args).run P w = .ok (.enter e.f args) w) ∧ ∀ cs, ∃ x w', Ret P e.f .normal cs args w x w' ∧ Post ρ h w e.v ⟨put (putAll e.outs (dropAll e.ins h.t)) .z (some (.gl GLB ob)), e.n'⟩ x w' := by
  have sub : ∀ i o, (inH e ob).t.get i = some o → h.t.get i = some o := fun i o hi => inH_get ht hg hi
  have hI' : Inv ρ (inH e ob) w := hI.part (by rw [hn]; exact Nat.le_refl _) sub
  obtain ⟨h1, h2⟩ := he ob ρ w args hI' hv
  refine ⟨h1, fun cs => ?_⟩
  obtain ⟨x, w', r1, ρ', q1, q2, q3⟩ := h2 cs
  refine ⟨x, w', r1, ρ', q1, ?_, ?_⟩
  -- what the heap behind holds
  all_goals
    have cases' : ∀ i o, (put (putAll e.outs (dropAll e.ins h.t)) .z (some (AObj.gl GLB ob))).get i = some o → (outH e ob).t.get i = some o ∨ (h.t.get i = some o ∧ (inH e ob).t.get i = none) := by
      intro i o hi
      rw [get_put'] at hi
      show (put (putAll e.outs .e) .z (some (AObj.gl GLB ob))).get i = some o ∨ _ ∧ (put (putAll e.ins .e) .z (some (AObj.gl GLB ob))).get i = none
      rw [get_put', get_put']
      by_cases hz : Pth.z = i
      · rw [if_pos hz] at hi; rw [if_pos hz]; exact .inl hi
      · rw [if_neg hz] at hi; rw [if_neg hz, if_neg hz]
        rw [putAll_or] at hi
        cases hp : (putAll e.outs .e).get i with
        | some o' => rw [hp] at hi; exact .inl hi
        | none =>
          rw [hp] at hi
          obtain ⟨g1, g2⟩ := dropAll_get hi
          refine .inr ⟨g1, ?_⟩
          cases hq : (putAll e.ins .e).get i with
          | none => rfl
          | some y =>
            rcases putAll_mem hq with g | g
            · exact absurd g (g2 y)
            · cases g
    have float : ∀ i o l, h.t.get i = some o → (inH e ob).t.get i = none → ρ i = some l → ρ' i = some l ∧ w'.heap[l.blk]? = w.heap[l.blk]? ∧ ∀ j oj lj, (outH e ob).t.get j = some oj → ρ' j = some lj → lj.blk ≠ l.blk := by
      intro i o l a1 a2 a3
      obtain ⟨l', k1, k2⟩ := hI.obj i o a1
      rw [a3] at k1; cases k1
      obtain ⟨g1, g2⟩ := q3.out k2.lt (fun j oj lj hj hlj => hI.inj j i oj o lj l (sub j oj hj) a1 (fun e' => by rw [e', a2] at hj; cases hj) hlj a3)
      exact ⟨q3.ext _ _ a3, g1, g2⟩
  · refine ⟨fun i hi => q2.fresh i hi, fun i o hi => ?_, fun i j oi oj li lj a1 a2 hij hli hlj => ?_⟩
    · rcases cases' i o hi with g | ⟨g1, g2⟩
      · exact q2.obj i o g
      · obtain ⟨l, k1, k2⟩ := hI.obj _ _ g1
        obtain ⟨f1, f2, _⟩ := float i o l g1 g2 k1
        exact ⟨l, f1, k2.mono q3.ext f2⟩
    · rcases cases' i oi a1 with g | ⟨g1, g2⟩
      · rcases cases' j oj a2 with k | ⟨k1, k2⟩
        · exact q2.inj i j oi oj li lj g k hij hli hlj
        · obtain ⟨l, p1, _⟩ := hI.obj _ _ k1
          obtain ⟨f1, _, f3⟩ := float j oj l k1 k2 p1
          rw [f1] at hlj; cases hlj
          exact f3 i oi li g hli
      · obtain ⟨l, p1, _⟩ := hI.obj _ _ g1
        obtain ⟨f1, _, f3⟩ := float i oi l g1 g2 p1
        rw [f1] at hli; cases hli
        rcases cases' j oj a2 with k | ⟨k1, k2⟩
        · exact fun e' => f3 j oj lj k hlj e'.symm
        · obtain ⟨l2, p3, _⟩ := hI.obj _ _ k1
          have := q3.ext _ _ p3
          rw [hlj] at this; cases this
          exact hI.inj i j oi oj _ _ g1 k1 hij p1 p3
  · refine ⟨q3.ext, fun i hi => q3.old i (by show i.nat < e.n.nat; rw [← hn]; exact hi), by rw [hn]; exact q3.nn, q3.sz, q3.os, q3.tape, q3.output, fun b hb hb2 => q3.keep b hb (fun i o l a1 a2 => hb2 i o l (sub i o a1) a2), fun i o l a1 a2 => ?_⟩
    rcases cases' i o a1 with g | ⟨g1, g2⟩
    · rcases q3.img i o l g a2 with k | ⟨j, oj, lj, k1, k2, k3⟩
      · exact .inl k
      · exact .inr ⟨j, oj, lj, sub _ _ k1, k2, k3⟩
    · obtain ⟨l', k1, _⟩ := hI.obj _ _ g1
      have := q3.ext _ _ k1
      rw [a2] at this; cases this
      exact .inr ⟨i, o, _, g1, k1, rfl⟩
/-- the evaluator that knows some calls is sound -/
theorem rcM_ok (K : EnvOK P E) (PO : PrimOK P E) {tab : Tr Entry} (hT : ∀ i e, tab.get i = some e → EntOK P e) : ∀ n, RcOK P (rcM E tab n)
  | 0 => ⟨fun _ _ _ _ _ _ h => (by cases h), fun _ _ _ _ _ _ _ _ _ _ _ _ _ _ _ _ => trivial, fun _ _ _ _ _ h => (by cases h)⟩
  | n + 1 => by
    have ih := rcM_ok K PO hT n
    have DS : DrawSound P E (rcM E tab n) := draw_sound K PO ih
    refine ⟨fun dfr f vs h v h' hc ρ w args hI hv => ?_,
      fun fr c T D h b cs k ρ0 h0 w0 ρ a w FO s => loop_ok K PO ih DS fr c T D h b cs k ρ0 h0 w0 ρ a w FO s,
      fun l vs h v h' hc ρ w args loc hI hl hv => round_ok K PO ih DS hc hI hl hv⟩
    cases dfr with
    | true => exact call_ok K PO ih DS hc hI hv
    | false =>
      have hc : memGo (callF E (rcM E tab n) false f vs h) f vs h (tab.get h.n) = .ok v h' := hc
      cases he : tab.get h.n with
      | none => rw [he] at hc; exact call_ok K PO ih DS hc hI hv
      | some e =>
        rw [he] at hc
        have hc : memHit e (callF E (rcM E tab n) false f vs h) h (h.t.get .z) (and (Nat.beq f e.f) (and (Pth.beq h.n e.n) (and (isGl (h.t.get .z)) (and (beqs vs e.vs) (there h.t e.ins))))) = .ok v h' := hc
        cases hb : and (Nat.beq f e.f) (and (Pth.beq h.n e.n) (and (isGl (h.t.get .z)) (and (beqs vs e.vs) (there h.t e.ins)))) with
        | false => rw [hb] at hc; exact call_ok K PO ih DS hc hI hv
        | true =>
          rw [hb] at hc
          cases hc
          simp only [Bool.and_eq_true, Pth.beq_iff] at hb
          obtain ⟨b1, b2, b3, b4, b5⟩ := hb
          have b1 : f = e.f := by simpa using b1
          subst b1
          obtain ⟨ob, hob⟩ := isGl_some b3
          have b4 := Vbeqs _ _ b4
          subst b4
          obtain ⟨k1, k2⟩ := ent_hit (hT _ _ he) hI hv b2 b5 hob
          refine ⟨k1, fun cs _ => ?_⟩
          obtain ⟨x, w', p1, p2⟩ := k2 cs
          rw [hob]
          exact ⟨x, w', p1, p2⟩
/-- an entry that the kernel has looked at -/
theorem ent_of (K : EnvOK P E) (PO : PrimOK P E) {tab : Tr Entry} (hT : ∀ i e, tab.get i = some e → EntOK P e) {n : Nat} {e : Entry} (hc : ∀ ob, chk e (callF E (rcM E tab n) false e.f e.vs (inH e ob)) = some (.gl GLB ob)) : EntOK P e := by
  intro ob ρ w args hI hv
  have h0 := hc ob
  cases hcall : callF E (rcM E tab n) false e.f e.vs (inH e ob) with
  | no => rw [hcall] at h0; cases h0
  | ok v h =>
    rw [hcall] at h0
    have h0 : chkB h (and (V.beq v e.v) (and (Pth.beq h.n e.n') (there h.t e.outs))) = some (.gl GLB ob) := h0
    cases hb : and (V.beq v e.v) (and (Pth.beq h.n e.n') (there h.t e.outs)) with
    | false => rw [hb] at h0; cases h0
    | true =>
      rw [hb] at h0
      have hg : h.t.get .z = some (.gl GLB ob) := h0
      simp only [Bool.and_eq_true, Pth.beq_iff] at hb
      obtain ⟨b1, b2, b3⟩ := hb
      have b1 := Vbeq _ _ b1
      subst b1
      have RC := rcM_ok K PO hT n
      obtain ⟨k1, k2⟩ := call_ok K PO RC (draw_sound K PO RC) hcall hI hv
      refine ⟨k1, fun cs => ?_⟩
      obtain ⟨x, w', p1, ρ', q1, q2, q3⟩ := k2 cs (fun h => by cases h)
      have sub : ∀ i o, (outH e ob).t.get i = some o → h.t.get i = some o := by
        intro i o hi
        have hi : (put (putAll e.outs .e) .z (some (.gl GLB ob))).get i = some o := hi
        rw [get_put'] at hi
        by_cases hz : Pth.z = i
        · rw [if_pos hz] at hi; cases hi; rw [← hz]; exact hg
        · rw [if_neg hz] at hi
          rcases putAll_mem hi with g | g
          · exact there_mem b3 _ g
          · cases g
      refine ⟨x, w', p1, ρ', q1, q2.part (by rw [b2]; exact Nat.le_refl _) sub, ⟨q3.ext, q3.old, by show _ ≤ e.n'.nat; rw [← b2]; exact q3.nn, q3.sz, q3.os, q3.tape, q3.output, q3.keep, fun i o l a1 a2 => q3.img i o l (sub i o a1) a2⟩⟩
end
end Go.Ev
namespace Go.Ev
open Go
noncomputable section
/-! ## known calls under other names -/
mutual
def renV (g : Pth → Pth) : V → V
  | .b x => .b x
  | .i k n => .i k n
  | .s l => .s l
  | .p i o => .p (g i) o
  | .np => .np
  | .sl i o n c e z => .sl (g i) o n c e z
  | .se => .se
  | .ns => .ns
  | .m i => .m (g i)
  | .nm => .nm
  | .fn f a c => .fn f (renL g a) (renL g c)
  | .fy i => .fy (g i)
  | .fm n t u => .fm n t (renV g u)
  | .nf => .nf
  | .ifc t u => .ifc t (renV g u)
  | .nif => .nif
  | .ag l => .ag (renL g l)
  | .tu l => .tu (renL g l)
  | .u a b => .u a b
def renL (g : Pth → Pth) : List V → List V
  | [] => []
  | v :: l => renV g v :: renL g l
end
mutual
def okV (p : Pth → Bool) : V → Bool
  | .b _ => true
  | .i _ _ => true
  | .s _ => true
  | .p i _ => p i
  | .np => true
  | .sl i _ _ _ _ _ => p i
  | .se => true
  | .ns => true
  | .m i => p i
  | .nm => true
  | .fn _ a c => and (okL p a) (okL p c)
  | .fy i => p i
  | .fm _ _ u => okV p u
  | .nf => true
  | .ifc _ u => okV p u
  | .nif => true
  | .ag l => okL p l
  | .tu l => okL p l
  | .u _ _ => true
def okL (p : Pth → Bool) : List V → Bool
  | [] => true
  | v :: l => and (okV p v) (okL p l)
end
/-- a key that names no object -/
def plainK : V → Bool
  | .b _ => true
  | .i _ _ => true
  | .s _ => true
  | _ => false
def renP (g : Pth → Pth) : List (V × V) → List (V × V)
  | [] => []
  | (a, b) :: l => (a, renV g b) :: renP g l
def okP (p : Pth → Bool) : List (V × V) → Bool
  | [] => true
  | (a, b) :: l => and (plainK a) (and (okV p b) (okP p l))
def renO (g : Pth → Pth) : AObj → AObj
  | .cells l => .cells (renL g l)
  | .mp l => .mp (renP g l)
  | .mx l bs ck => .mx (renP g l) bs ck
  | o => o
def okO (p : Pth → Bool) : AObj → Bool
  | .cells l => okL p l
  | .mp l => okP p l
  | .mx l _ _ => okP p l
  | .df => true
  | .mi => true
  | .gl _ _ => true
  | _ => false
def renI (g : Pth → Pth) : List (Pth × AObj) → List (Pth × AObj)
  | [] => []
  | (i, o) :: l => (g i, renO g o) :: renI g l
def okI (p : Pth → Bool) : List (Pth × AObj) → Bool
  | [] => true
  | (i, o) :: l => and (p i) (and (okO p o) (okI p l))
def iBeqs : List (Pth × AObj) → List (Pth × AObj) → Bool
  | [], [] => true
  | (i, o) :: l, (j, q) :: m => and (Pth.beq i j) (and (oBeq o q) (iBeqs l m))
  | _, _ => false
def putPs : List (Pth × Pth) → Tr Pth → Tr Pth
  | [], T => T
  | (i, j) :: l, T => putPs l (Tr.put i T (some j))
def swapPs : List (Pth × Pth) → List (Pth × Pth)
  | [] => []
  | (i, j) :: l => (j, i) :: swapPs l
def theP : Option Pth → Pth
  | some j => j
  | none => .z
def isP : Option Pth → Bool
  | some _ => true
  | none => false
def isPe (i : Pth) : Option Pth → Bool
  | some j => Pth.beq i j
  | none => false
/-- pairs of names: old with old, new with new; none twice -/
def okPs (n n2 n2' : Nat) (U : Tr Pth) : List (Pth × Pth) → Bool
  | [] => true
  | (a, b) :: l => and (isPe a (U.get b)) (and (Nat.blt b.nat n2') (and (cond (Nat.blt a.nat n) (Nat.blt b.nat n2) (Nat.ble n2 b.nat)) (okPs n n2 n2' U l)))
def renOK2 (T U : Tr Pth) (L : List (Pth × Pth)) (e e2 : Entry) : Bool :=
  and (okPs e.n.nat e2.n.nat e2.n'.nat U L) (and (isPe .z (T.get .z)) (and (Nat.beq e.f e2.f) (and (Nat.ble e2.n.nat e2.n'.nat)
    (and (okL (fun i => isP (T.get i)) e.vs) (and (okI (fun i => isP (T.get i)) e.ins) (and (okV (fun i => isP (T.get i)) e.v) (and (okI (fun i => isP (T.get i)) e.outs)
    (and (beqs (renL (fun i => theP (T.get i)) e.vs) e2.vs) (and (iBeqs (renI (fun i => theP (T.get i)) e.ins) e2.ins) (and (V.beq (renV (fun i => theP (T.get i)) e.v) e2.v)
    (iBeqs (renI (fun i => theP (T.get i)) e.outs) e2.outs)))))))))))
/-- e2 is e under other names -/
def renOK (L : List (Pth × Pth)) (e e2 : Entry) : Bool := renOK2 (putPs L .e) (putPs (swapPs L) .e) L e e2
end
section
variable {ρ1 ρ2 : Rho} {g : Pth → Pth} {p : Pth → Bool}
mutual
theorem R_ren (h : ∀ i, p i = true → ρ1 i = ρ2 (g i)) : ∀ (v : V) (x : Value), okV p v = true → (R ρ1 v x ↔ R ρ2 (renV g v) x)
  | .b _, _, _ => Iff.rfl
  | .i _ _, _, _ => Iff.rfl
  | .s _, _, _ => Iff.rfl
  | .p i o, x, hk => by simp only [renV, R, h i hk]
  | .np, _, _ => Iff.rfl
  | .sl i o n c e z, x, hk => by simp only [renV, R, h i hk]
  | .se, _, _ => Iff.rfl
  | .ns, _, _ => Iff.rfl
  | .m i, x, hk => by simp only [renV, R, h i hk]
  | .nm, _, _ => Iff.rfl
  | .fn f a c, x, hk => by
    simp only [okV, Bool.and_eq_true] at hk
    simp only [renV, R]
    exact ⟨fun ⟨xs, ys, h1, h2, h3⟩ => ⟨xs, ys, h1, (RL_ren h a _ hk.1).1 h2, (RL_ren h c _ hk.2).1 h3⟩, fun ⟨xs, ys, h1, h2, h3⟩ => ⟨xs, ys, h1, (RL_ren h a _ hk.1).2 h2, (RL_ren h c _ hk.2).2 h3⟩⟩
  | .fy i, x, hk => by simp only [renV, R, h i hk]
  | .fm n t u, x, hk => by
    simp only [okV] at hk
    simp only [renV, R]
    exact ⟨fun ⟨y, ys, h1, h2⟩ => ⟨y, ys, h1, (R_ren h u _ hk).1 h2⟩, fun ⟨y, ys, h1, h2⟩ => ⟨y, ys, h1, (R_ren h u _ hk).2 h2⟩⟩
  | .nf, _, _ => Iff.rfl
  | .ifc t u, x, hk => by
    simp only [okV] at hk
    simp only [renV, R]
    exact ⟨fun ⟨y, h1, h2⟩ => ⟨y, h1, (R_ren h u _ hk).1 h2⟩, fun ⟨y, h1, h2⟩ => ⟨y, h1, (R_ren h u _ hk).2 h2⟩⟩
  | .nif, _, _ => Iff.rfl
  | .ag l, x, hk => by
    simp only [okV] at hk
    simp only [renV, R]
    exact ⟨fun ⟨xs, h1, h2, h3⟩ => ⟨xs, h1, (RL_ren h l _ hk).1 h2, h3⟩, fun ⟨xs, h1, h2, h3⟩ => ⟨xs, h1, (RL_ren h l _ hk).2 h2, h3⟩⟩
  | .tu l, x, hk => by
    simp only [okV] at hk
    simp only [renV, R]
    exact ⟨fun ⟨xs, h1, h2⟩ => ⟨xs, h1, (RL_ren h l _ hk).1 h2⟩, fun ⟨xs, h1, h2⟩ => ⟨xs, h1, (RL_ren h l _ hk).2 h2⟩⟩
  | .u _ _, _, _ => Iff.rfl
theorem RL_ren (h : ∀ i, p i = true → ρ1 i = ρ2 (g i)) : ∀ (l : List V) (m : List Value), okL p l = true → (RL ρ1 l m ↔ RL ρ2 (renL g l) m)
  | [], _, _ => Iff.rfl
  | v :: l, m, hk => by
    simp only [okL, Bool.and_eq_true] at hk
    simp only [renL, RL]
    exact ⟨fun ⟨x, r, h1, h2, h3⟩ => ⟨x, r, h1, (R_ren h v _ hk.1).1 h2, (RL_ren h l _ hk.2).1 h3⟩, fun ⟨x, r, h1, h2, h3⟩ => ⟨x, r, h1, (R_ren h v _ hk.1).2 h2, (RL_ren h l _ hk.2).2 h3⟩⟩
end
theorem renL_get : ∀ (l : List V) (k : Nat), (renL g l)[k]? = (l[k]?).map (renV g)
  | [], k => by simp [renL]
  | v :: l, 0 => by simp [renL]
  | v :: l, k + 1 => by simp only [renL, List.getElem?_cons_succ]; exact renL_get l k
theorem okL_get : ∀ {l : List V} {k : Nat} {v : V}, okL p l = true → l[k]? = some v → okV p v = true
  | [], k, v, _, h => by simp at h
  | u :: l, 0, v, hk, h => by
    simp only [okL, Bool.and_eq_true] at hk
    simp only [List.getElem?_cons_zero, Option.some.injEq] at h
    subst h; exact hk.1
  | u :: l, k + 1, v, hk, h => by
    simp only [okL, Bool.and_eq_true] at hk
    exact okL_get hk.2 (by simpa using h)
theorem R_plain {a : V} (h : plainK a = true) (x : Value) : R ρ1 a x ↔ R ρ2 a x := by
  cases a <;> first | exact Iff.rfl | cases h
theorem MapR_ren (h : ∀ i, p i = true → ρ1 i = ρ2 (g i)) : ∀ (l : List (V × V)) (m : List MapEntry), okP p l = true → (MapR ρ1 l m ↔ MapR ρ2 (renP g l) m)
  | [], _, _ => Iff.rfl
  | (a, b) :: l, m, hk => by
    simp only [okP, Bool.and_eq_true] at hk
    simp only [renP, MapR, keyR]
    exact ⟨fun ⟨x, r, h1, ⟨h2, h3, h4⟩, h5⟩ => ⟨x, r, h1, ⟨h2, (R_plain hk.1 _).1 h3, (R_ren h b _ hk.2.1).1 h4⟩, (MapR_ren h l _ hk.2.2).1 h5⟩,
      fun ⟨x, r, h1, ⟨h2, h3, h4⟩, h5⟩ => ⟨x, r, h1, ⟨h2, (R_plain hk.1 _).2 h3, (R_ren h b _ hk.2.1).2 h4⟩, (MapR_ren h l _ hk.2.2).2 h5⟩⟩
theorem renP_mem : ∀ {l : List (V × V)} {y : V × V}, y ∈ l → (y.1, renV g y.2) ∈ renP g l
  | [], _, h => by cases h
  | (a, b) :: l, y, h => by
    cases h with
    | head => exact List.mem_cons_self
    | tail _ h => exact List.mem_cons_of_mem _ (renP_mem h)
theorem renP_mem' : ∀ {l : List (V × V)} {y : V × V}, y ∈ renP g l → ∃ b, (y.1, b) ∈ l
  | [], _, h => by cases h
  | (a, b) :: l, y, h => by
    cases h with
    | head => exact ⟨b, List.mem_cons_self⟩
    | tail _ h => obtain ⟨c, hc⟩ := renP_mem' h; exact ⟨c, List.mem_cons_of_mem _ hc⟩
theorem Uniq_ren : ∀ (l : List (V × V)), Uniq l ↔ Uniq (renP g l)
  | [] => Iff.rfl
  | (a, b) :: l => by
    simp only [renP, Uniq]
    refine ⟨fun ⟨h1, h2⟩ => ⟨fun y hy => ?_, (Uniq_ren l).1 h2⟩, fun ⟨h1, h2⟩ => ⟨fun y hy => ?_, (Uniq_ren l).2 h2⟩⟩
    · obtain ⟨c, hc⟩ := renP_mem' hy
      exact h1 (y.1, c) hc
    · exact h1 (y.1, renV g y.2) (renP_mem hy)
theorem ObjR_ren (h : ∀ i, p i = true → ρ1 i = ρ2 (g i)) {o : AObj} (hk : okO p o = true) (l : Loc) (w : World) : ObjR ρ1 o l w ↔ ObjR ρ2 (renO g o) l w := by
  cases o with
  | cells cs =>
    have hk : okL p cs = true := hk
    simp only [renO, ObjR]
    constructor
    · rintro ⟨c, e, fz, h1, h2, h3, h4⟩
      refine ⟨c, e, fz, h1, h2, h3, fun k v hv => ?_⟩
      rw [renL_get] at hv
      cases hc : cs[k]? with
      | none => rw [hc] at hv; cases hv
      | some u =>
        rw [hc] at hv; cases hv
        obtain ⟨x, a1, a2, a3⟩ := h4 k u hc
        exact ⟨x, a1, (R_ren h u x (okL_get hk hc)).1 a2, a3⟩
    · rintro ⟨c, e, fz, h1, h2, h3, h4⟩
      refine ⟨c, e, fz, h1, h2, h3, fun k v hv => ?_⟩
      obtain ⟨x, a1, a2, a3⟩ := h4 k (renV g v) (by rw [renL_get, hv]; rfl)
      exact ⟨x, a1, (R_ren h v x (okL_get hk hv)).2 a2, a3⟩
  | mp es =>
    have hk : okP p es = true := hk
    simp only [renO, ObjR]
    exact ⟨fun ⟨ens, c, m, h1, h2, h3, h4⟩ => ⟨ens, c, m, h1, h2, (MapR_ren h es m hk).1 h3, (Uniq_ren es).1 h4⟩, fun ⟨ens, c, m, h1, h2, h3, h4⟩ => ⟨ens, c, m, h1, h2, (MapR_ren h es m hk).2 h3, (Uniq_ren es).2 h4⟩⟩
  | mx es bs ck =>
    have hk : okP p es = true := hk
    simp only [renO, ObjR]
    exact ⟨fun ⟨ens, h1, h2, h3, h4⟩ => ⟨ens, h1, (MapR_ren h es _ hk).1 h2, h3, (Uniq_ren es).1 h4⟩, fun ⟨ens, h1, h2, h3, h4⟩ => ⟨ens, h1, (MapR_ren h es _ hk).2 h2, h3, (Uniq_ren es).2 h4⟩⟩
  | df => exact Iff.rfl
  | mi => exact Iff.rfl
  | gl b o => exact Iff.rfl
  | lp => cases hk
  | it => cases hk
theorem iBeqs_eq : ∀ (a b : List (Pth × AObj)), iBeqs a b = true → a = b
  | [], [], _ => rfl
  | [], _ :: _, h => by simp [iBeqs] at h
  | _ :: _, [], h => by simp [iBeqs] at h
  | (i, o) :: l, (j, q) :: m, h => by
    simp only [iBeqs, Bool.and_eq_true, Pth.beq_iff] at h
    rw [h.1, oBeq_eq h.2.1, iBeqs_eq _ _ h.2.2]
theorem putPs_mem : ∀ {l : List (Pth × Pth)} {T : Tr Pth} {i j : Pth}, (putPs l T).get i = some j → (i, j) ∈ l ∨ T.get i = some j
  | [], _, _, _, h => .inr h
  | (a, b) :: l, T, i, j, h => by
    rcases putPs_mem (l := l) h with h | h
    · exact .inl (List.mem_cons_of_mem _ h)
    · rw [Tr.get_put] at h
      by_cases hj : a = i
      · rw [if_pos hj] at h; cases h; subst hj; exact .inl List.mem_cons_self
      · rw [if_neg hj] at h; exact .inr h
theorem swapPs_mem : ∀ {l : List (Pth × Pth)} {i j : Pth}, (i, j) ∈ swapPs l → (j, i) ∈ l
  | [], _, _, h => by cases h
  | (a, b) :: l, i, j, h => by
    cases h with
    | head => exact List.mem_cons_self
    | tail _ h => exact List.mem_cons_of_mem _ (swapPs_mem h)
theorem okPs_mem {n n2 n2' : Nat} {U : Tr Pth} : ∀ {l : List (Pth × Pth)}, okPs n n2 n2' U l = true → ∀ a b, (a, b) ∈ l → U.get b = some a ∧ b.nat < n2' ∧ (a.nat < n ↔ b.nat < n2)
  | [], _, _, _, h => by cases h
  | (c, d) :: l, hk, a, b, h => by
    simp only [okPs, Bool.and_eq_true] at hk
    obtain ⟨k1, k2, k3, k4⟩ := hk
    rcases List.mem_cons.1 h with h | h
    case inr => exact okPs_mem k4 a b h
    case inl =>
      obtain ⟨rfl, rfl⟩ : a = c ∧ b = d := by cases h; exact ⟨rfl, rfl⟩
      refine ⟨?_, by rw [blt_iff] at k2; simpa using k2, ?_⟩
      · cases hu : U.get b with
        | none => rw [hu] at k1; cases k1
        | some j => rw [hu] at k1; rw [(Pth.beq_iff _ _).1 k1]
      · cases hb : Nat.blt a.nat n with
        | true =>
          rw [hb] at k3
          have k3 : Nat.blt b.nat n2 = true := k3
          rw [blt_iff] at hb k3
          simp only [decide_eq_true_eq] at hb k3
          exact ⟨fun _ => k3, fun _ => hb⟩
        | false =>
          rw [hb] at k3
          have k3 : Nat.ble n2 b.nat = true := k3
          rw [blt_iff] at hb
          simp only [decide_eq_false_iff_not] at hb
          have := Nat.le_of_ble_eq_true k3
          exact ⟨fun h => absurd h hb, fun h => by omega⟩
/-- a heap under other names -/
theorem heap_ren (hg : ∀ i j, p i = true → p j = true → g i = g j → i = j) : ∀ {l : List (Pth × AObj)} {T T2 : Tr AObj}, okI p l = true →
    (∀ i, p i = true → T2.get (g i) = (T.get i).map (renO g)) → (∀ j o, T2.get j = some o → ∃ i, p i = true ∧ g i = j) → (∀ i o, T.get i = some o → p i = true ∧ okO p o = true) →
    (∀ i, p i = true → (putAll (renI g l) T2).get (g i) = ((putAll l T).get i).map (renO g)) ∧ (∀ j o, (putAll (renI g l) T2).get j = some o → ∃ i, p i = true ∧ g i = j) ∧ (∀ i o, (putAll l T).get i = some o → p i = true ∧ okO p o = true)
  | [], _, _, _, h1, h2, h3 => ⟨h1, h2, h3⟩
  | (a, o) :: l, T, T2, hk, h1, h2, h3 => by
    simp only [okI, Bool.and_eq_true] at hk
    refine heap_ren hg (l := l) (T := put T a (some o)) (T2 := put T2 (g a) (some (renO g o))) hk.2.2 (fun i hi => ?_) (fun j q hj => ?_) (fun i q hi => ?_)
    · rw [get_put', get_put']
      by_cases e : a = i
      · subst e; rw [if_pos rfl, if_pos rfl]; rfl
      · rw [if_neg e, if_neg (fun e' => e (hg a i hk.1 hi e'))]; exact h1 i hi
    · rw [get_put'] at hj
      by_cases e : g a = j
      · exact ⟨a, hk.1, e⟩
      · rw [if_neg e] at hj; exact h2 j q hj
    · rw [get_put'] at hi
      by_cases e : a = i
      · rw [if_pos e] at hi; cases hi; subst e; exact ⟨hk.1, hk.2.1⟩
      · rw [if_neg e] at hi; exact h3 i q hi
end
variable {P : Program}
/-- a known call under other names is known too -/
theorem ent_ren {L : List (Pth × Pth)} {e e2 : Entry} (hc : renOK L e e2 = true) (he : EntOK P e) : EntOK P e2 := by
  have hc : renOK2 (putPs L .e) (putPs (swapPs L) .e) L e e2 = true := hc
  have hT : ∀ i j, (putPs L .e).get i = some j → (i, j) ∈ L := fun i j h => (putPs_mem h).resolve_right (fun h => by cases h)
  have hU : ∀ i j, (putPs (swapPs L) .e).get i = some j → (j, i) ∈ L := fun i j h => swapPs_mem ((putPs_mem h).resolve_right (fun h => by cases h))
  generalize putPs L .e = T at hc hT
  generalize putPs (swapPs L) .e = U at hc hU
  simp only [renOK2, Bool.and_eq_true] at hc
  obtain ⟨c1, c2, c3, c4, c5, c6, c7, c8, c9, c10, c11, c12⟩ := hc
  have hP := okPs_mem c1
  generalize hpd : (fun i => isP (T.get i)) = p at c5 c6 c7 c8
  generalize hgd : (fun i => theP (T.get i)) = g at c9 c10 c11 c12
  have hp : ∀ i, p i = true ↔ T.get i = some (g i) := by
    intro i
    subst hpd; subst hgd
    show isP (T.get i) = true ↔ T.get i = some (theP (T.get i))
    cases T.get i with
    | none => exact ⟨fun h => (by cases h), fun h => (by cases h)⟩
    | some j => exact ⟨fun _ => rfl, fun _ => rfl⟩
  have hq : ∀ i, p i = true → U.get (g i) = some i ∧ (g i).nat < e2.n'.nat ∧ (i.nat < e.n.nat ↔ (g i).nat < e2.n.nat) := fun i hi => hP i (g i) (hT _ _ ((hp i).1 hi))
  have hg : ∀ i j, p i = true → p j = true → g i = g j → i = j := by
    intro i j hi hj hij
    have h1 := (hq i hi).1
    have h2 := (hq j hj).1
    rw [hij, h2] at h1
    cases h1; rfl
  have pz : p .z = true ∧ g .z = .z := by
    cases hz : T.get .z with
    | none => rw [hz] at c2; cases c2
    | some j =>
      rw [hz] at c2
      have : Pth.z = j := (Pth.beq_iff _ _).1 c2
      subst this
      subst hpd; subst hgd
      exact ⟨by show isP (T.get .z) = true; rw [hz]; rfl, by show theP (T.get .z) = .z; rw [hz]; rfl⟩
  have e3 : e.f = e2.f := by rw [beq_iff'] at c3; simpa using c3
  have e4 : e2.n.nat ≤ e2.n'.nat := Nat.le_of_ble_eq_true c4
  have e9 := Vbeqs _ _ c9
  have e10 := iBeqs_eq _ _ c10
  have e11 := Vbeq _ _ c11
  have e12 := iBeqs_eq _ _ c12
  -- heaps
  have HH : ∀ (l l2 : List (Pth × AObj)) (ob : Obj), okI p l = true → renI g l = l2 →
      (∀ i, p i = true → (put (putAll l2 .e) .z (some (AObj.gl GLB ob))).get (g i) = ((put (putAll l .e) .z (some (AObj.gl GLB ob))).get i).map (renO g)) ∧
      (∀ j o, (put (putAll l2 .e) .z (some (AObj.gl GLB ob))).get j = some o → ∃ i, p i = true ∧ g i = j) ∧
      (∀ i o, (put (putAll l .e) .z (some (AObj.gl GLB ob))).get i = some o → p i = true ∧ okO p o = true) := by
    intro l l2 ob hl hl2
    subst hl2
    obtain ⟨h1, h2, h3⟩ := heap_ren (g := g) hg (l := l) (T := .e) (T2 := .e) hl (fun _ _ => rfl) (fun _ _ h => by cases h) (fun _ _ h => by cases h)
    refine ⟨fun i hi => ?_, fun j o hj => ?_, fun i o hi => ?_⟩
    · rw [get_put', get_put']
      by_cases hz : Pth.z = i
      · subst hz; rw [if_pos rfl, if_pos pz.2.symm]; rfl
      · rw [if_neg hz, if_neg (fun e' => hz (hg _ _ pz.1 hi (pz.2.trans e')))]; exact h1 i hi
    · rw [get_put'] at hj
      by_cases hz : Pth.z = j
      · exact ⟨.z, pz.1, pz.2.trans hz⟩
      · rw [if_neg hz] at hj; exact h2 j o hj
    · rw [get_put'] at hi
      by_cases hz : Pth.z = i
      · rw [if_pos hz] at hi; cases hi; subst hz; exact ⟨pz.1, rfl⟩
      · rw [if_neg hz] at hi; exact h3 i o hi
  intro ob ρ w args hI hv
  obtain ⟨i1, i2, i3⟩ := HH e.ins e2.ins ob c6 e10
  obtain ⟨o1, o2, o3⟩ := HH e.outs e2.outs ob c8 e12
  let ρe : Rho := fun i => if i.nat < e.n.nat ∧ p i = true then ρ (g i) else none
  have re : ∀ i, p i = true → ρe i = ρ (g i) := by
    intro i hi
    by_cases hn : i.nat < e.n.nat
    · exact if_pos ⟨hn, hi⟩
    · have : ¬ (g i).nat < e2.n.nat := fun h => hn ((hq i hi).2.2.2 h)
      rw [hI.fresh (g i) (by show e2.n.nat ≤ _; omega)]
      exact if_neg (fun h => hn h.1)
  have iget : ∀ i o, (inH e ob).t.get i = some o → p i = true ∧ okO p o = true ∧ (inH e2 ob).t.get (g i) = some (renO g o) := by
    intro i o hi
    obtain ⟨a1, a2⟩ := i3 i o hi
    refine ⟨a1, a2, ?_⟩
    have := i1 i a1
    rw [show (put (putAll e.ins .e) .z (some (AObj.gl GLB ob))).get i = some o from hi] at this
    exact this
  have oget : ∀ j o2, (outH e2 ob).t.get j = some o2 → ∃ i o, p i = true ∧ okO p o = true ∧ g i = j ∧ renO g o = o2 ∧ (outH e ob).t.get i = some o := by
    intro j q hj
    obtain ⟨i, a1, a2⟩ := o2 j q hj
    have h1 := o1 i a1
    rw [a2, show (put (putAll e2.outs .e) .z (some (AObj.gl GLB ob))).get j = some q from hj] at h1
    cases hx : (put (putAll e.outs .e) .z (some (AObj.gl GLB ob))).get i with
    | none => rw [hx] at h1; cases h1
    | some o =>
      rw [hx] at h1
      exact ⟨i, o, a1, (o3 i o hx).2, a2, (Option.some.inj h1).symm, hx⟩
  have hIe : Inv ρe (inH e ob) w := by
    refine ⟨fun i hi => if_neg (fun h => absurd h.1 (Nat.not_lt.2 hi)), fun i o hi => ?_, fun i j oi oj li lj hi hj hij hli hlj => ?_⟩
    · obtain ⟨a1, a2, a3⟩ := iget i o hi
      obtain ⟨l, b1, b2⟩ := hI.obj _ _ a3
      exact ⟨l, (re i a1).trans b1, (ObjR_ren re a2 l w).2 b2⟩
    · obtain ⟨a1, _, a3⟩ := iget i oi hi
      obtain ⟨b1, _, b3⟩ := iget j oj hj
      rw [re i a1] at hli
      rw [re j b1] at hlj
      exact hI.inj _ _ _ _ _ _ a3 b3 (fun h => hij (hg i j a1 b1 h)) hli hlj
  have hve : RL ρe e.vs args.toList := (RL_ren re e.vs _ c5).2 (by rw [e9]; exact hv)
  obtain ⟨k1, k2⟩ := he ob ρe w args hIe hve
  refine ⟨by rw [← e3]; exact k1, fun cs => ?_⟩
  obtain ⟨x, w', r1, ρe', q1, q2, q3⟩ := k2 cs
  let ρ' : Rho := fun j => if j.nat < e2.n.nat then ρ j else match U.get j with | some i => ρe' i | none => none
  have ro : ∀ j, j.nat < e2.n.nat → ρ' j = ρ j := fun j hj => if_pos hj
  have re' : ∀ i, p i = true → ρe' i = ρ' (g i) := by
    intro i hi
    by_cases hn : i.nat < e.n.nat
    · rw [q3.old i hn, re i hi, ro _ ((hq i hi).2.2.1 hn)]
    · have h1 : ρ' (g i) = match U.get (g i) with | some i => ρe' i | none => none := if_neg (fun h => hn ((hq i hi).2.2.2 h))
      rw [h1, (hq i hi).1]
  have hext : Ext ρ ρ' := by
    intro j l hj
    have : j.nat < e2.n.nat := by
      by_cases h : j.nat < e2.n.nat
      · exact h
      · rw [hI.fresh j (by show e2.n.nat ≤ _; omega)] at hj; cases hj
    rw [ro j this]; exact hj
  refine ⟨x, w', by rw [← e3]; exact r1, ρ', by rw [← e11]; exact (R_ren re' e.v x c7).1 q1, ⟨fun j hj => ?_, fun j o2 hj => ?_, fun i j oi oj li lj hi hj hij hli hlj => ?_⟩, hext, fun j hj => ro j hj, e4, q3.sz, q3.os, q3.tape, q3.output, fun b hb hb2 => ?_, fun j o2 l hj hl => ?_⟩
  · have hj : e2.n'.nat ≤ j.nat := hj
    have h1 : ρ' j = match U.get j with | some i => ρe' i | none => none := if_neg (by omega)
    rw [h1]
    cases hu : U.get j with
    | none => rfl
    | some i =>
      have := (hP i j (hU _ _ hu)).2.1
      omega
  · obtain ⟨i, o, a1, a2, a3, a4, a5⟩ := oget j o2 hj
    obtain ⟨l, b1, b2⟩ := q2.obj i o a5
    rw [re' i a1, a3] at b1
    exact ⟨l, b1, by rw [← a4]; exact (ObjR_ren re' a2 l w').1 b2⟩
  · obtain ⟨i0, o, a1, a2, a3, a4, a5⟩ := oget i oi hi
    obtain ⟨j0, q, b1, b2, b3, b4, b5⟩ := oget j oj hj
    rw [← a3, ← re' i0 a1] at hli
    rw [← b3, ← re' j0 b1] at hlj
    exact q2.inj _ _ _ _ _ _ a5 b5 (fun h => hij (by rw [← a3, ← b3, h])) hli hlj
  · refine q3.keep b hb (fun i o l hi hl => ?_)
    obtain ⟨a1, _, a3⟩ := iget i o hi
    rw [re i a1] at hl
    exact hb2 _ _ _ a3 hl
  · obtain ⟨i, o, a1, a2, a3, a4, a5⟩ := oget j o2 hj
    have hl : ρ' j = some l := hl
    rw [← a3, ← re' i a1] at hl
    rcases q3.img i o l a5 hl with h | ⟨k, ok, lk, b1, b2, b3⟩
    · exact .inl h
    · obtain ⟨d1, _, d3⟩ := iget k ok b1
      rw [re k d1] at b2
      exact .inr ⟨_, _, lk, d3, b2, b3⟩
end Go.Ev
namespace Go.EvD
open Go Go.Ev
noncomputable section
/-! ## known calls, written as numbers: digits of base 16, the first one last -/
inductive DL where
  | mk (l : List V) (r : Nat)
def consD (v : V) (d : DL) : DL := DL.rec (motive := fun _ => DL) (fun l r => .mk (v :: l) r) d
def hd (n : Nat) : Nat := Nat.land n 15
def tl (n : Nat) : Nat := Nat.shiftRight n 4
/-- a number: how many digits, the digits -/
def numV (n : Nat) : Nat := Nat.land (tl n) (Nat.sub (Nat.shiftLeft 1 (Nat.mul 4 (hd n))) 1)
def numR (n : Nat) : Nat := Nat.shiftRight (tl n) (Nat.mul 4 (hd n))
def kindN : Nat → IntKind
  | 0 => .i8 | 1 => .i16 | 2 => .i32 | 3 => .i64 | 4 => .u8 | 5 => .u16 | 6 => .u32 | _ => .u64
def small : Nat → V
  | 0 => .b false | 1 => .b true | 2 => .np | 3 => .se | 4 => .ns | 5 => .nm | 6 => .nf | _ => .nif
def bytesN (k : Nat) : Nat → List Nat :=
  Nat.rec (motive := fun _ => Nat → List Nat) (fun _ => []) (fun _ f n => Nat.land n 255 :: f (Nat.shiftRight n 8)) k
def isOne (n : Nat) : Bool := Nat.beq n 1
def strD (c : Nat → DL) (n : Nat) : DL := consD (.s (bytesN (numV n) (numR n))) (c (Nat.shiftRight (numR n) (Nat.mul 8 (numV n))))
def ptrD (c : Nat → DL) (n : Nat) : DL := consD (.p (Pth.of (numV n)) (numV (numR n))) (c (numR (numR n)))
def slD5 (c : Nat → DL) (i o l k n : Nat) : DL := consD (.sl (Pth.of i) o l k (isOne (hd n)) (numV (tl n))) (c (numR (tl n)))
def slD4 (c : Nat → DL) (i o l n : Nat) : DL := slD5 c i o l (numV n) (numR n)
def slD3 (c : Nat → DL) (i o n : Nat) : DL := slD4 c i o (numV n) (numR n)
def slD2 (c : Nat → DL) (i n : Nat) : DL := slD3 c i (numV n) (numR n)
def slD (c : Nat → DL) (n : Nat) : DL := slD2 c (numV n) (numR n)
def agD (c : Nat → DL) (k : List V → V) (d : DL) : DL := DL.rec (motive := fun _ => DL) (fun l r => consD (k l) (c r)) d
def fnD2 (c : Nat → DL) (f : Nat) (a : List V) (d : DL) : DL := DL.rec (motive := fun _ => DL) (fun l r => consD (.fn f a l) (c r)) d
def fnD (c : Nat → DL) (f : Nat) (d : DL) : DL := DL.rec (motive := fun _ => DL) (fun l r => fnD2 c f l (c r)) d
def ifcD2 (t : Nat) (r : Nat) : List V → DL
  | [] => .mk [] r
  | v :: l => .mk (.ifc t v :: l) r
/-- an interface: its type; its value is the next one -/
def ifcD (t : Nat) (d : DL) : DL := DL.rec (motive := fun _ => DL) (fun l r => ifcD2 t r l) d
def tokD (c : Nat → DL) (n : Nat) : Nat → DL
  | 0 => .mk [] n
  | 1 => consD (.i .i64 (.ofNat (hd n))) (c (tl n))
  | 2 => consD (.i .i64 (.ofNat (numV n))) (c (numR n))
  | 3 => consD (.i .i64 (.negSucc (numV n))) (c (numR n))
  | 4 => consD (.i (kindN (hd n)) (.ofNat (numV (tl n)))) (c (numR (tl n)))
  | 5 => strD c n
  | 6 => consD (small (hd n)) (c (tl n))
  | 7 => ptrD c n
  | 8 => slD c n
  | 9 => consD (.m (Pth.of (numV n))) (c (numR n))
  | 10 => fnD c (numV n) (c (numR n))
  | 11 => ifcD (numV n) (c (numR n))
  | 12 => agD c .ag (c n)
  | 13 => agD c .tu (c n)
  | 14 => consD (.u (isOne (hd n)) (hd (tl n))) (c (tl (tl n)))
  | _ => .mk [] n
def decL (f : Nat) : Nat → DL :=
  Nat.rec (motive := fun _ => Nat → DL) (fun n => .mk [] n) (fun _ c n => tokD c (tl n) (hd n)) f
def theL (d : DL) : List V := DL.rec (motive := fun _ => List V) (fun l _ => l) d
def vsN (n : Nat) : List V := theL (decL 1000000 n)
def oneV : List V → V
  | [v] => v
  | l => .tu l
def vN (n : Nat) : V := oneV (vsN n)
def pairs : List V → List (V × V)
  | a :: b :: l => (a, b) :: pairs l
  | _ => []
def natsV : List V → List Nat
  | .i _ (.ofNat n) :: l => n :: natsV l
  | _ => []
def mxO (l : List V) (bs : List Nat) : AObj :=
  match bs with
  | ck :: bs => .mx (pairs l) bs ck
  | [] => .mi
def mxD (d : DL) : AObj := DL.rec (motive := fun _ => AObj) (fun l r => mxO l (natsV (vsN r))) d
def objT (n : Nat) : Nat → AObj
  | 0 => .cells (vsN n)
  | 1 => .mp (pairs (vsN n))
  | 2 => mxD (decL 1000000 n)
  | 3 => .df
  | _ => .mi
def objN (n : Nat) : AObj := objT (tl n) (hd n)
def objs : List (Nat × Nat) → List (Pth × AObj)
  | [] => []
  | (i, n) :: l => (Pth.of i, objN n) :: objs l
/-- a known call: the function, its arguments, what lies there ahead and behind alike, ahead alone, the counter, the answer, behind alone, the counter -/
def mkE (f vs : Nat) (both ins : List (Nat × Nat)) (n v : Nat) (outs : List (Nat × Nat)) (n' : Nat) : Entry :=
  ⟨f, vsN vs, app (objs both) (objs ins), Pth.of n, vN v, app (objs both) (objs outs), Pth.of n'⟩
end
end Go.EvD
namespace Go.Ev
open Go
noncomputable section
/-- a table of known calls -/
def tabOf : List Entry → Tr Entry
  | [] => .e
  | e :: l => Tr.put e.n (tabOf l) (some e)
def prs : List (Nat × Nat) → List (Pth × Pth)
  | [] => []
  | (a, b) :: l => (Pth.of a, Pth.of b) :: prs l
end
def AllOK (P : Program) (l : List Entry) : Prop := ∀ e ∈ l, EntOK P e
theorem all_nil {P : Program} : AllOK P [] := fun _ h => by cases h
theorem all_cons {P : Program} {e : Entry} {l : List Entry} (h : EntOK P e) (hl : AllOK P l) : AllOK P (e :: l) := fun x hx => by
  cases hx with
  | head => exact h
  | tail _ hx => exact hl x hx
theorem tabOf_ok {P : Program} : ∀ {l : List Entry}, AllOK P l → ∀ i e, (tabOf l).get i = some e → EntOK P e
  | [], _, _, _, h => by cases h
  | x :: l, hl, i, e, h => by
    have h : (Tr.put x.n (tabOf l) (some x)).get i = some e := h
    rw [Tr.get_put] at h
    by_cases hj : x.n = i
    · rw [if_pos hj] at h; cases h; exact hl x List.mem_cons_self
    · rw [if_neg hj] at h; exact tabOf_ok (fun y hy => hl y (List.mem_cons_of_mem _ hy)) i e h
end Go.Ev
namespace Go.Ev
open Go
/-! ### plain laws of the two library functions -/
theorem bytes_mk (s : ByteArray) : bytes s = s.data.toList.map UInt8.toNat := rfl
theorem pre_eq : ∀ (x y : List UInt8), pre (x.map UInt8.toNat) (y.map UInt8.toNat) = x.isPrefixOf y
  | [], y => by cases y <;> rfl
  | a :: x, [] => rfl
  | a :: x, b :: y => by
    simp only [List.map_cons, pre, List.isPrefixOf]
    rw [pre_eq x y]
    congr 1
    rw [beq_iff', Bool.eq_iff_iff]
    simp only [decide_eq_true_eq, beq_iff_eq]
    exact UInt8.toNat_inj
theorem index_ge (s sub : List UInt8) : -1 ≤ Lib.index s sub := by
  induction s with
  | nil => simp only [Lib.index]; split <;> omega
  | cons b l ih =>
    simp only [Lib.index]
    split
    · omega
    · split
      · omega
      · omega
theorem sub_eq (t : List UInt8) : ∀ (s : List UInt8), sub (t.map UInt8.toNat) (s.map UInt8.toNat) = Lib.contains s t
  | [] => by
    simp only [List.map_nil, sub, Lib.contains, Lib.index]
    have := pre_eq t []
    simp only [List.map_nil] at this
    rw [this]
    cases t <;> rfl
  | b :: l => by
    have hp := pre_eq t (b :: l)
    simp only [List.map_cons] at hp
    simp only [List.map_cons, sub]
    rw [hp, sub_eq t l]
    have hge := index_ge l t
    have key : (0 ≤ Lib.index (b :: l) t) ↔ (t.isPrefixOf (b :: l) = true ∨ 0 ≤ Lib.index l t) := by
      have e : Lib.index (b :: l) t = if t.isPrefixOf (b :: l) then 0 else if Lib.index l t == -1 then -1 else Lib.index l t + 1 := rfl
      rw [e]
      by_cases h : t.isPrefixOf (b :: l) = true
      · rw [if_pos h]; simp [h]
      · rw [if_neg h]
        by_cases h2 : Lib.index l t = -1
        · rw [h2]; simp [h]
        · have e2 : ¬ ((Lib.index l t == -1) = true) := by simpa using h2
          rw [if_neg e2]
          simp only [h]
          constructor
          · intro hh; exact .inr (by omega)
          · rintro (hh | hh)
            · cases hh
            · omega
    rw [Bool.eq_iff_iff]
    simp only [Lib.contains, Bool.or_eq_true, decide_eq_true_eq]
    exact key.symm
theorem idx_ge (l : List UInt8) (c : UInt8) : -1 ≤ Lib.indexByte l c := by
  induction l with
  | nil => simp [Lib.indexByte]
  | cons b l ih =>
    simp only [Lib.indexByte]
    split
    · omega
    · split
      · omega
      · omega
theorem idxOf_eq (c : UInt8) : ∀ (l : List UInt8) (k : Nat), idxOf c.toNat (l.map UInt8.toNat) k = if Lib.indexByte l c = -1 then none else some (k + (Lib.indexByte l c).toNat)
  | [], k => by simp [idxOf, Lib.indexByte]
  | b :: l, k => by
    have hge := idx_ge l c
    have e1 : Lib.indexByte (b :: l) c = if b == c then 0 else if Lib.indexByte l c == -1 then -1 else Lib.indexByte l c + 1 := rfl
    simp only [List.map_cons, idxOf]
    rw [e1]
    cases hb : Nat.beq b.toNat c.toNat with
    | true =>
      have h : b = c := UInt8.toNat_inj.1 (by simpa using hb)
      subst h; simp
    | false =>
      have h : ¬ b = c := by intro h; subst h; simp at hb
      have e : ¬ ((b == c) = true) := by simpa using h
      rw [if_neg e]
      show idxOf c.toNat (l.map UInt8.toNat) (Nat.succ k) = _
      rw [idxOf_eq c l (Nat.succ k)]
      by_cases h2 : Lib.indexByte l c = -1
      · rw [h2]; simp
      · have e2 : ¬ ((Lib.indexByte l c == -1) = true) := by simpa using h2
        rw [if_neg h2, if_neg e2, if_neg (by omega)]
        congr 1
        omega
theorem callGo_of_calls {P : Program} {f : Nat} {args : Array Value} {w : World} {x : Value} {Q : Value → World → Prop} (he : (callFunc f args).run P w = .ok (.enter f args) w)
    (hc : Calls P f args w fun e w' => e = .returned x ∧ w' = w) (hq : Q x w) : CallGo P f args w Q := by
  refine .inr ⟨he, fun cs => ?_⟩
  obtain ⟨e, w', fr, ⟨rfl, rfl⟩, h1, h2, h3, h4, h5, h6⟩ := hc cs
  exact ⟨x, w', ⟨fr, h1, h2, h3, h4, h5, h6⟩, hq⟩
/-- what is asked of a program's library functions that are not entered -/
structure PrimFacts (P : Program) (E : Env) : Prop where
  only : ∀ f n, E.prim f = some n → n = 1 ∨ n = 2 ∨ n = 3
  one : ∀ f, E.prim f = some 1 → (∀ args w, (callFunc f args).run P w = .ok (.enter f args) w) ∧ ∀ (s t : ByteArray) (m : Int) (w : World), s.size < 4294967281 → w.cell? ⟨GLB, 0, none⟩ = some (.int .i64 m) →
    Calls P f #[.string s, .string t] w fun e w' => e = .returned (.bool (Lib.contains s.data.toList t.data.toList)) ∧ w' = w
  two : ∀ f, E.prim f = some 2 → ∀ (s : ByteArray) (c : Int) (w : World), (callFunc f #[.string s, .int .u8 c]).run P w = .ok (.value (.int .i64 (Lib.indexByte s.data.toList c.toNat.toUInt8))) w
  three : ∀ f, E.prim f = some 3 → ∀ args w, (callFunc f args).run P w = ((Extern.MapsClone.clone args).run P w).andThen fun v w' => .ok (.value v) w'
theorem prims_ok {P : Program} {E : Env} (F : PrimFacts P E) : PrimOK P E := by
  intro f n vs h v h' hp he ρ w args hI hv
  rcases F.only f n hp with rfl | rfl | rfl
  · obtain ⟨hent, hcalls⟩ := F.one f hp
    have he : prim1 h vs = .ok v h' := he
    unfold prim1 at he
    split at he
    · rename_i a b _
      cases hc : and (Nat.blt (len a) 4294967281) (isGl (h.t.get .z)) with
      | false => rw [hc] at he; cases he
      | true =>
        rw [hc] at he
        cases he
        simp only [Bool.and_eq_true, blt_iff, decide_eq_true_eq, len_eq] at hc
        obtain ⟨hlen, hgl⟩ := hc
        obtain ⟨x, r1, e1, ⟨s, rfl, rfl⟩, y, r2, e2, ⟨t, rfl, rfl⟩, e3⟩ := hv
        simp only [RL] at e3
        subst e3; subst e2
        have ea : args = #[.string s, .string t] := by rw [← Array.toList_inj, e1]
        subst ea
        obtain ⟨ob, hg⟩ := isGl_some hgl
        obtain ⟨l, _, hl, hh, m, ty, fz, rfl⟩ := hI.obj _ _ hg
        rw [hl] at hh
        have hcell : w.cell? ⟨GLB, 0, none⟩ = some (.int .i64 m) := by simp [World.cell?, hh]
        have hsz : s.size < 4294967281 := by rw [bytes_length] at hlen; exact hlen
        refine callGo_of_calls (x := .bool (Lib.contains s.data.toList t.data.toList)) (hent _ w) (hcalls s t m w hsz hcell) ⟨ρ, ?_, hI, Fr.refl _ _ _⟩
        show Value.bool _ = Value.bool _
        rw [bytes_mk, bytes_mk, sub_eq]
    · cases he
  · have he : prim2 h vs = .ok v h' := he
    unfold prim2 at he
    split at he
    · rename_i a c _
      cases hc : Nat.blt c 256 with
      | false => rw [hc] at he; cases he
      | true =>
      rw [hc] at he
      cases he
      have hc : c < 256 := by rw [blt_iff] at hc; simpa using hc
      obtain ⟨x, r1, e1, ⟨s, rfl, rfl⟩, y, r2, e2, hy, e3⟩ := hv
      simp only [RL] at e3
      subst e3; subst e2
      have hy : y = .int .u8 (Int.ofNat c) := hy
      subst hy
      have ea : args = #[.string s, .int .u8 (Int.ofNat c)] := by rw [← Array.toList_inj, e1]
      subst ea
      refine .inl ⟨_, w, F.two f hp s (Int.ofNat c) w, ρ, ?_, hI, Fr.refl _ _ _⟩
      show R ρ (idxV (idxOf c (Go.Ev.bytes s) 0)) (.int .i64 (Lib.indexByte s.data.toList c.toUInt8))
      have hcc : c = c.toUInt8.toNat := by simp [Nat.toUInt8, UInt8.toNat_ofNat']; omega
      have := idxOf_eq c.toUInt8 s.data.toList 0
      rw [← hcc] at this
      rw [bytes_mk, this]
      have hge := idx_ge s.data.toList c.toUInt8
      by_cases h2 : Lib.indexByte s.data.toList c.toUInt8 = -1
      · rw [if_pos h2, h2]; rfl
      · rw [if_neg h2]
        show Value.int .i64 _ = Value.int .i64 _
        congr 1
        show _ = Int.ofNat _
        rw [Nat.zero_add, Int.ofNat_eq_natCast, Int.toNat_of_nonneg (by omega)]
    · cases he
  · have he : prim3 h vs = .ok v h' := he
    unfold prim3 at he
    split at he
    · rename_i t i _
      obtain ⟨x, r1, e1, ⟨y, rfl, l, hl, rfl⟩, e3⟩ := hv
      simp only [RL] at e3
      subst e3
      have ea : args = #[.iface t (.map (some l.blk))] := by rw [← Array.toList_inj, e1]
      subst ea
      have n0 : ρ h.n = none := hI.fresh _ (Nat.le_refl _)
      have s0 : h.n.nat < (Pth.succ h.n).nat := by rw [Pth.nat_succ]; omega
      have run : ∀ ens clock, w.heap[l.blk]? = some (.map ens clock) → (callFunc f #[.iface t (.map (some l.blk))]).run P w = .ok (.value (.iface t (.map (some w.heap.size)))) (w.alloc (.map ens clock)) := by
        intro ens clock hh
        have hgo : (getObj l.blk).run P w = .ok (.map ens clock) w := by simp [getObj, Sem.run, hh]
        rw [F.three f hp]
        obtain ⟨k, e1, e2⟩ : ∃ k : Obj → Sem Value, Extern.MapsClone.clone #[.iface t (.map (some l.blk))] = (getObj l.blk >>= k) ∧ ∀ w, (k (.map ens clock)).run P w = .ok (.iface t (.map (some w.heap.size))) (w.alloc (.map ens clock)) := ⟨_, rfl, fun _ => rfl⟩
        rw [e1]
        simp [hgo, e2]
      cases hg : h.t.get i with
      | none => rw [hg] at he; cases he
      | some o =>
        rw [hg] at he
        cases o <;> try cases he
        · rename_i es
          obtain ⟨l', g1, ens, clock, m, g2, g3, g4, g5⟩ := hI.obj _ _ hg
          rw [hl] at g1; cases g1
          obtain ⟨i1, e1, fr1, _⟩ := alloc_obj hI n0 (Nat.le_of_lt s0) s0 (.mp es) (.map ens clock) (w.alloc (.map ens clock)) 0 0 rfl rfl rfl rfl
            ⟨ens, clock, m, by show (w.heap.push _)[w.heap.size]? = _; simp, g3, g4.mono (bind1_ext n0), g5⟩
          exact .inl ⟨_, _, run _ _ g2, _, ⟨_, rfl, ⟨_, bind1_same _ _ _, rfl⟩⟩, i1, fr1 (Nat.le_refl _)⟩
        · rename_i es bs ck
          obtain ⟨l', g1, ens, g2, g3, g4, g5⟩ := hI.obj _ _ hg
          rw [hl] at g1; cases g1
          obtain ⟨i1, e1, fr1, _⟩ := alloc_obj hI n0 (Nat.le_of_lt s0) s0 (.mx es bs ck) (.map ens ck) (w.alloc (.map ens ck)) 0 0 rfl rfl rfl rfl
            ⟨ens, by show (w.heap.push _)[w.heap.size]? = _; simp, g3.mono (bind1_ext n0), g4, g5⟩
          exact .inl ⟨_, _, run _ _ g2, _, ⟨_, rfl, ⟨_, bind1_same _ _ _, rfl⟩⟩, i1, fr1 (Nat.le_refl _)⟩
    · cases he
end Go.Ev
namespace Go.Ev
open Go Go.Proofs
noncomputable section
/-- the start: object 0 is the variable internal/bytealg.MaxLen -/
def start0 (o : Obj) : H := ⟨put .e .z (some (.gl GLB o)), .o .z⟩
def ρ0 : Rho := fun i => if i = .z then some ⟨GLB, 0, 1⟩ else none
/-- the answer is v, and the variable is there as it was -/
def chkV (v : V) : VR → Option AObj
  | .ok x h => chkB h (V.beq x v)
  | .no => none
end
/-- what lay there lies there still -/
def Keeps (w w' : World) : Prop := w'.os = w.os ∧ w'.output = w.output ∧ w.heap.size ≤ w'.heap.size ∧ ∀ b, b < w.heap.size → w'.heap[b]? = w.heap[b]?
def Cell0 (w : World) : Prop := ∃ n t fz, w.heap[GLB]? = some (.cells #[.int .i64 n] t fz)
theorem Keeps.refl (w : World) : Keeps w w := ⟨rfl, rfl, Nat.le_refl _, fun _ _ => rfl⟩
theorem Keeps.trans {a b c : World} (h : Keeps a b) (g : Keeps b c) : Keeps a c :=
  ⟨g.1.trans h.1, g.2.1.trans h.2.1, Nat.le_trans h.2.2.1 g.2.2.1, fun i hi => (g.2.2.2 i (Nat.lt_of_lt_of_le hi h.2.2.1)).trans (h.2.2.2 i hi)⟩
theorem Keeps.drew {a b : World} (h : Keeps a b) : Keeps a b.drew := h
theorem Keeps.alloc {a b : World} (h : Keeps a b) (o : Obj) : Keeps a (b.alloc o) :=
  h.trans ⟨rfl, rfl, by show b.heap.size ≤ (b.heap.push o).size; simp, fun i hi => by show (b.heap.push o)[i]? = _; rw [Array.getElem?_push, if_neg (by omega)]⟩
theorem Keeps.cell0 {a b : World} (h : Keeps a b) (hc : Cell0 a) : Cell0 b := by
  obtain ⟨n, t, fz, h0⟩ := hc
  have hlt : GLB < a.heap.size := (Array.getElem?_eq_some_iff.1 h0).1
  exact ⟨n, t, fz, by rw [h.2.2.2 GLB hlt, h0]⟩
theorem start_inv (w : World) {o : Obj} (ho : w.heap[GLB]? = some o) (hc : ∃ n t fz, o = .cells #[.int .i64 n] t fz) : Ev.Inv ρ0 (start0 o) w where
  fresh i hi := by
    have hi : (Pth.o .z).nat ≤ i.nat := hi
    show (if i = .z then some (⟨GLB, 0, 1⟩ : Loc) else none) = none
    rw [if_neg]
    intro e
    subst e
    exact absurd hi (by decide)
  obj i ob hi := by
    have hi : (Tr.put .z .e (some (AObj.gl GLB o))).get i = some ob := hi
    rw [Tr.get_put] at hi
    split at hi
    · rename_i e
      subst e
      cases hi
      exact ⟨⟨GLB, 0, 1⟩, by simp [ρ0], rfl, ho, hc⟩
    · cases hi
  inj i j oi oj li lj h1 h2 hij := by
    have h1 : (Tr.put .z .e (some (AObj.gl GLB o))).get i = some oi := h1
    have h2 : (Tr.put .z .e (some (AObj.gl GLB o))).get j = some oj := h2
    rw [Tr.get_put] at h1 h2
    split at h1
    · rename_i e1
      split at h2
      · rename_i e2
        exact absurd (e1.symm.trans e2) hij
      · cases h2
    · cases h1
/-- a call whose arguments are plain, and what the evaluator says of it -/
theorem closed_calls {P : Program} {E : Env} (K : EnvOK P E) (PO : PrimOK P E) {tab : Tr Entry} (hT : ∀ i e, tab.get i = some e → EntOK P e) {n f : Nat} {vs : List V} {v : V} {args : Array Value}
    (hrun : ∀ ob, chkV v (callF E (rcM E tab n) false f vs (start0 ob)) = some (.gl GLB ob)) (hv : RL ρ0 vs args.toList) (w : World) (hc : Cell0 w) :
    Calls P f args w fun e w' => ∃ ρ x, e = .returned x ∧ R ρ v x ∧ Keeps w w' := by
  obtain ⟨m, t, fz, h0⟩ := hc
  have hI := start_inv w h0 ⟨m, t, fz, rfl⟩
  have hs := hrun (.cells #[.int .i64 m] t fz)
  cases hcall : callF E (rcM E tab n) false f vs (start0 (.cells #[.int .i64 m] t fz)) with
  | no => rw [hcall] at hs; cases hs
  | ok x h' =>
    rw [hcall] at hs
    have hs : chkB h' (V.beq x v) = some (.gl GLB (.cells #[.int .i64 m] t fz)) := hs
    cases hb : V.beq x v with
    | false => rw [hb] at hs; cases hs
    | true =>
      rw [hb] at hs
      have hg : h'.t.get .z = some (.gl GLB (.cells #[.int .i64 m] t fz)) := hs
      have hx := Vbeq _ _ hb
      subst hx
      have RC := rcM_ok K PO hT n
      obtain ⟨_, h2⟩ := call_ok K PO RC (draw_sound K PO RC) hcall hI hv
      intro cs
      obtain ⟨x', w', ⟨fr, r1, r2, r3, r4, r5, r6⟩, ρ', q1, q2, q3⟩ := h2 cs (fun h => by cases h)
      refine ⟨.returned x', w', fr, ⟨ρ', x', rfl, q1, q3.os, q3.output, q3.sz, fun b hb => ?_⟩, r1, r2, r3, r4, r5, r6⟩
      by_cases hb0 : b = GLB
      · subst hb0
        obtain ⟨l, l1, l2, l3, _⟩ := q2.obj _ _ hg
        have := q3.ext .z ⟨GLB, 0, 1⟩ (by simp [ρ0])
        rw [l1] at this; cases this
        rw [h0]; exact l3
      · refine q3.keep b hb (fun i o l h1 h3 => ?_)
        by_cases hi : i = .z
        · subst hi
          have h3 : (if Pth.z = Pth.z then some (⟨GLB, 0, 1⟩ : Ev.Loc) else none) = some l := h3
          rw [if_pos rfl] at h3
          cases h3
          exact fun e => hb0 e.symm
        · have h3 : (if i = Pth.z then some (⟨GLB, 0, 1⟩ : Ev.Loc) else none) = some l := h3
          rw [if_neg hi] at h3; cases h3
end Go.Ev
