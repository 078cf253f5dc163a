/-
  An evaluator of the model's code on abstract values: its definitions.
-/
import GoSem.Step
namespace Go.Ev
open Go
noncomputable section

/-- numbers as paths: z = 0, o p = 2p + 1, i p = 2p + 2 -/
inductive Pth where
  | z
  | o (p : Pth)
  | i (p : Pth)
  deriving Inhabited
namespace Pth
def nat : Pth → Nat
  | .z => 0
  | .o p => 2 * nat p + 1
  | .i p => 2 * nat p + 2
def succ (p : Pth) : Pth := Pth.rec (motive := fun _ => Pth) (.o .z) (fun p _ => .i p) (fun _ s => .o s) p
def beq (p : Pth) : Pth → Bool := Pth.rec (motive := fun _ => Pth → Bool)
  (fun q => Pth.rec (motive := fun _ => Bool) true (fun _ _ => false) (fun _ _ => false) q)
  (fun _ f q => Pth.rec (motive := fun _ => Bool) false (fun q _ => f q) (fun _ _ => false) q)
  (fun _ f q => Pth.rec (motive := fun _ => Bool) false (fun _ _ => false) (fun q _ => f q) q) p
def adv : Pth → Nat → Pth
  | p, 0 => p
  | p, n + 1 => adv (succ p) n
def ofF : Nat → Nat → Pth
  | 0, _ => .z
  | _ + 1, 0 => .z
  | f + 1, k + 1 => match Nat.beq (Nat.land k 1) 0 with
    | true => .o (ofF f (Nat.shiftRight k 1))
    | false => .i (ofF f (Nat.shiftRight k 1))
/-- the path of a number -/
def of (k : Nat) : Pth := ofF (Nat.succ k) k
end Pth

/-- abstract values -/
inductive V where
  | b (x : Bool)
  | i (k : IntKind) (n : Int)
  | s (l : List Nat)
  | p (i : Pth) (off : Nat)
  | np
  | sl (i : Pth) (off len cap : Nat) (ex : Bool) (sz : Nat)
  | se
  | ns
  | m (i : Pth)
  | nm
  | fn (f : Nat) (first caps : List V)
  | fy (l : Pth)
  | fm (n : String) (t : Nat) (v : V)
  | nf
  | ifc (t : Nat) (v : V)
  | nif
  | ag (l : List V)
  | tu (l : List V)
  | u (nn : Bool) (r : Nat)
  deriving Inhabited

inductive Tr (α : Type) where
  | e
  | nd (v : Option α) (l r : Tr α)

namespace Tr
def get {α : Type} (t : Tr α) : Pth → Option α :=
  Tr.rec (motive := fun _ => Pth → Option α) (fun _ => none)
    (fun v _ _ gl gr p => Pth.rec (motive := fun _ => Option α) v (fun p _ => gl p) (fun p _ => gr p) p) t
def putR {α : Type} (p : Pth) (x : Option α) : Tr α → Tr α :=
  Pth.rec (motive := fun _ => Tr α → Tr α)
    (fun t => Tr.rec (motive := fun _ => Tr α) (.nd x .e .e) (fun _ l r _ _ => .nd x l r) t)
    (fun _ f t => Tr.rec (motive := fun _ => Tr α) (.nd none (f .e) .e) (fun v l r _ _ => .nd v (f l) r) t)
    (fun _ f t => Tr.rec (motive := fun _ => Tr α) (.nd none .e (f .e)) (fun v l r _ _ => .nd v l (f r)) t) p
def put {α : Type} (p : Pth) (t : Tr α) (x : Option α) : Tr α := putR p x t
end Tr

/-- abstract objects -/
inductive AObj where
  | cells (l : List V)
  | mp (l : List (V × V))
  | lp (t : Tr V) (params : List Nat) (assign body : Code) (fn nt : Nat) (st : Nat) (pend : Option Code)
  | df
  | mi
  | gl (b : Nat) (o : Obj)
  | mx (es : List (V × V)) (bs : List Nat) (ck : Nat)
  | it (m : Pth) (since : Nat) (seen : List Nat) (last : Nat)

structure H where
  t : Tr AObj
  n : Pth

/-- lists -/
def nth {α : Type} (l : List α) : Nat → Option α :=
  List.rec (motive := fun _ => Nat → Option α) (fun _ => none)
    (fun x _ f k => Nat.rec (motive := fun _ => Option α) (some x) (fun k _ => f k) k) l
def drp {α : Type} (n : Nat) : List α → List α :=
  Nat.rec (motive := fun _ => List α → List α) (fun l => l)
    (fun _ f l => List.rec (motive := fun _ => List α) [] (fun _ l _ => f l) l) n
def consO {α : Type} (x : α) (o : Option (List α)) : Option (List α) :=
  Option.rec (motive := fun _ => Option (List α)) none (fun r => some (x :: r)) o
/-- exactly n -/
def tk {α : Type} (n : Nat) : List α → Option (List α) :=
  Nat.rec (motive := fun _ => List α → Option (List α)) (fun _ => some [])
    (fun _ f l => List.rec (motive := fun _ => Option (List α)) none (fun x l _ => Option.rec (motive := fun _ => Option (List α)) none (fun r => some (x :: r)) (f l)) l) n
def len {α : Type} (l : List α) : Nat := List.rec (motive := fun _ => Nat) 0 (fun _ _ n => Nat.succ n) l
def app {α : Type} (l m : List α) : List α := List.rec (motive := fun _ => List α) m (fun x _ r => x :: r) l
/-- m over the beginning of l -/
def over {α : Type} (m : List α) : List α → Option (List α) :=
  List.rec (motive := fun _ => List α → Option (List α)) (fun l => some l)
    (fun x _ f l => List.rec (motive := fun _ => Option (List α)) none (fun _ l _ => Option.rec (motive := fun _ => Option (List α)) none (fun r => some (x :: r)) (f l)) l) m
/-- put m over l at off; all of m must fit -/
def spliceR {α : Type} (m : List α) (k : Nat) : List α → Option (List α) :=
  Nat.rec (motive := fun _ => List α → Option (List α)) (fun l => over m l)
    (fun _ f l => List.rec (motive := fun _ => Option (List α)) none (fun y l _ => Option.rec (motive := fun _ => Option (List α)) none (fun r => some (y :: r)) (f l)) l) k
def splice {α : Type} (k : Nat) (m l : List α) : Option (List α) := spliceR m k l
def rep {α : Type} (n : Nat) (l : List α) : List α := Nat.rec (motive := fun _ => List α) [] (fun _ r => app l r) n

/-- numbers -/
def ltI : Int → Int → Bool
  | .ofNat a, .ofNat b => Nat.blt a b
  | .negSucc _, .ofNat _ => true
  | .ofNat _, .negSucc _ => false
  | .negSucc a, .negSucc b => Nat.blt b a
def eqI : Int → Int → Bool
  | .ofNat a, .ofNat b => Nat.beq a b
  | .negSucc a, .negSucc b => Nat.beq a b
  | _, _ => false
def kNum : IntKind → Nat
  | .i8 => 0 | .i16 => 1 | .i32 => 2 | .i64 => 3 | .u8 => 4 | .u16 => 5 | .u32 => 6 | .u64 => 7
def kindEq (a b : IntKind) : Bool := Nat.beq (kNum a) (kNum b)
def lim : IntKind → Nat
  | .i8 => 128 | .i16 => 32768 | .i32 => 2147483648 | .i64 => 9223372036854775808
  | .u8 => 256 | .u16 => 65536 | .u32 => 4294967296 | .u64 => 18446744073709551616
def wrB (k : IntKind) (n : Int) : Bool → Int
  | true => n
  | false => k.wrap n
def wr (k : IntKind) : Int → Int
  | .ofNat m => wrB k (.ofNat m) (Nat.blt m (lim k))
  | .negSucc m => wrB k (.negSucc m) (and k.signed (Nat.blt m (lim k)))
def natOf : Int → Option Nat
  | .ofNat a => some a
  | .negSucc _ => none
/-- strings -/
def lbeq (l : List Nat) : List Nat → Bool :=
  List.rec (motive := fun _ => List Nat → Bool) (fun m => List.rec (motive := fun _ => Bool) true (fun _ _ _ => false) m)
    (fun a _ f m => List.rec (motive := fun _ => Bool) false (fun b y _ => Bool.rec (motive := fun _ => Bool) false (f y) (Nat.beq a b)) m) l
def lblt : List Nat → List Nat → Bool
  | _, [] => false
  | [], _ :: _ => true
  | a :: x, b :: y => match Nat.blt a b with
    | true => true
    | false => match Nat.beq a b with
      | true => lblt x y
      | false => false

def bytes (s : ByteArray) : List Nat := s.data.toList.map UInt8.toNat

/-- constants -/
def ofVal1 : Value → Option V
  | .bool x => some (.b x)
  | .int k n => some (.i k n)
  | .string s => some (.s (bytes s))
  | .pointer none => some .np
  | .slice none 0 0 => some .ns
  | .map none => some .nm
  | .nilFunc => some .nf
  | .nilIface => some .nif
  | .func (.func f) a c => match a.toList, c.toList with
    | [], [] => some (.fn f [] [])
    | _, _ => none
  | _ => none
def ofVals : List Value → Option (List V)
  | [] => some []
  | v :: l => match ofVal1 v, ofVals l with
    | some x, some m => some (x :: m)
    | _, _ => none
def ofVal : Value → Option V
  | .agg cs => match ofVals cs.toList with
    | some l => some (.ag l)
    | none => none
  | v => ofVal1 v

/-- structural equality of values (numbers, strings, addresses) -/
def bbeq : Bool → Bool → Bool
  | true, x => x
  | false, x => not x
mutual
def V.beq : V → V → Bool
  | .b x, .b y => bbeq x y
  | .i k x, .i j y => and (kindEq k j) (eqI x y)
  | .s x, .s y => lbeq x y
  | .p i o, .p j q => and (Pth.beq i j) (Nat.beq o q)
  | .np, .np => true
  | .sl i o l c e z, .sl j q l' c' e' z' => and (Pth.beq i j) (and (Nat.beq o q) (and (Nat.beq l l') (and (Nat.beq c c') (and (bbeq e e') (Nat.beq z z')))))
  | .se, .se => true
  | .ns, .ns => true
  | .m i, .m j => Pth.beq i j
  | .nm, .nm => true
  | .fn f a c, .fn g b d => and (Nat.beq f g) (and (beqs a b) (beqs c d))
  | .fy i, .fy j => Pth.beq i j
  | .fm n t x, .fm m u y => and (decide (n = m)) (and (Nat.beq t u) (V.beq x y))
  | .nf, .nf => true
  | .ifc t x, .ifc u y => and (Nat.beq t u) (V.beq x y)
  | .nif, .nif => true
  | .ag x, .ag y => beqs x y
  | .tu x, .tu y => beqs x y
  | .u a b, .u c d => and (bbeq a c) (Nat.beq b d)
  | _, _ => false
def beqs : List V → List V → Bool
  | [], [] => true
  | x :: l, y :: m => and (V.beq x y) (beqs l m)
  | _, _ => false
end

/-- a value's cells; a tuple has none -/
def cellsV : V → Option (List V)
  | .ag l => some l
  | .tu _ => none
  | v => some [v]

structure TyI where
  size : Nat
  bytes : Nat
  ag : Bool
  zero : Option V
  ud : TypeDesc
  info : TypeInfo
  plain : Bool

def isAggD : TypeDesc → Bool
  | .struct _ => true
  | .array _ _ => true
  | _ => false

/-- the block of the variable internal/bytealg.MaxLen -/
def GLB : Nat := 3

structure Env where
  tt : Nat → Option TyI
  fn : Nat → Option Func
  prim : Nat → Option Nat

end
end Go.Ev
namespace Go.Ev
open Go
noncomputable section

/-! ## operands -/
structure AB where
  f : Tr V → Option V
def aConst : Option V → AB
  | some v => ⟨fun _ => some v⟩
  | none => ⟨fun _ => none⟩
def aB : Operand → AB
  | .tmp t => ⟨fun T => T.get (Pth.of t)⟩
  | .const v => aConst (ofVal v)
  | .func f => ⟨fun _ => some (.fn f [] [])⟩
  | .global _ => ⟨fun _ => none⟩
def consV (v : V) : Option (List V) → Option (List V)
  | some r => some (v :: r)
  | none => none
structure LB where
  f : Tr V → Option (List V)
def andL (b : LB) (T : Tr V) : Option V → Option (List V)
  | some v => consO v (b.f T)
  | none => none
def seqL (a : AB) (b : LB) : LB := ⟨fun T => andL b T (a.f T)⟩
def lB : List Operand → LB
  | [] => ⟨fun _ => some []⟩
  | x :: l => seqL (aB x) (lB l)

/-! ## what a quiet operation does -/
inductive Res where
  | no
  | val (v : V)
  | newp (l : List V)
  | news (l : List V) (len cap : Nat) (ex : Bool) (sz : Nat)
  | newm
  | st (i : Pth) (off : Nat) (l : List V)
  | frz (i : Pth) (v : V)

/-! ## memory -/
def cellsOf1 (o : AObj) : Option (List V) :=
  AObj.rec (motive := fun _ => Option (List V)) (fun l => some l) (fun _ => none) (fun _ _ _ _ _ _ _ _ => none) none none (fun _ _ => none) (fun _ _ _ => none) (fun _ _ _ _ => none) o
def cellsOfO (o : Option AObj) : Option (List V) := Option.rec (motive := fun _ => Option (List V)) none cellsOf1 o
def tkO (n off : Nat) (o : Option (List V)) : Option (List V) := Option.rec (motive := fun _ => Option (List V)) none (fun l => tk n (drp off l)) o
def nthO (off : Nat) (o : Option (List V)) : Option V := Option.rec (motive := fun _ => Option V) none (fun l => nth l off) o
def rdCells (h : H) (i : Pth) (off n : Nat) : Option (List V) := tkO n off (cellsOfO (h.t.get i))
def rdCell (h : H) (i : Pth) (off : Nat) : Option V := nthO off (cellsOfO (h.t.get i))
def spliceO (off : Nat) (m : List V) : Option (List V) → Option (List V)
  | some l => splice off m l
  | none => none
def wrK (h : H) (i : Pth) : Option (List V) → Option H
  | some r => some ⟨h.t.put i (some (.cells r)), h.n⟩
  | none => none
/-- note the argument order of put -/
def put (t : Tr AObj) (i : Pth) (o : Option AObj) : Tr AObj := Tr.put i t o
def wrCells (h : H) (i : Pth) (off : Nat) (m : List V) : Option H :=
  match spliceO off m (cellsOfO (h.t.get i)) with
  | some r => some ⟨put h.t i (some (.cells r)), h.n⟩
  | none => none

/-! ## types -/
def tySz : Option TyI → Option Nat
  | some i => some i.size
  | none => none
def szOf (E : Env) (t : Nat) : Option Nat := tySz (E.tt t)
def tyZ : Option TyI → Option V
  | some i => i.zero
  | none => none
def zcO : Option V → Option (List V)
  | some z => cellsV z
  | none => none
def zeroCells (E : Env) (t : Nat) : Option (List V) := zcO (tyZ (E.tt t))
def agO (o : Option (List V)) : Option V := Option.rec (motive := fun _ => Option V) none (fun r => some (.ag r)) o
def partI (l : List V) (off : Nat) : Option TyI → Option V
  | some i => match i.ag with
    | true => agO (tk i.size (drp off l))
    | false => nth l off
  | none => none
/-- a part of type t out of cells -/
def partV (E : Env) (t : Nat) (l : List V) (off : Nat) : Option V := partI l off (E.tt t)

def consP (o : Nat) : Option Nat → Option (List (Nat × Nat)) → Option (List (Nat × Nat))
  | some s, some r => some ((o, s) :: r)
  | _, _ => none
def places (E : Env) : List Field → Option (List (Nat × Nat))
  | [] => some []
  | f :: l => consP f.offset (szOf E f.type) (places E l)
/-- one part laid over cells -/
def lay (off sz : Nat) (m cs : List V) : Bool → Option (List V)
  | true => splice off m cs
  | false => none
def layV (off sz : Nat) (cs : List V) : Option (List V) → Option (List V)
  | some m => lay off sz m cs (Nat.beq (len m) sz)
  | none => none
def layP (v : V) (cs : List V) : Option (Nat × Nat) → Option (List V)
  | some (off, sz) => layV off sz cs (cellsV v)
  | none => none
def fillP (pl : List (Nat × Nat)) : List (Nat × V) → List V → Option (List V)
  | [], cs => some cs
  | (i, v) :: r, cs => match layP v cs (nth pl i) with
    | some cs' => fillP pl r cs'
    | none => none
def fillA (sz : Nat) : List (Nat × V) → List V → Option (List V)
  | [], cs => some cs
  | (i, v) :: r, cs => match layV (Nat.mul i sz) sz cs (cellsV v) with
    | some cs' => fillA sz r cs'
    | none => none
structure PB where
  f : Tr V → Option (List (Nat × V))
def consI (i : Nat) (v : V) : Option (List (Nat × V)) → Option (List (Nat × V))
  | some r => some ((i, v) :: r)
  | none => none
def andP (i : Nat) (b : PB) (T : Tr V) : Option V → Option (List (Nat × V))
  | some v => consI i v (b.f T)
  | none => none
def seqP (i : Nat) (a : AB) (b : PB) : PB := ⟨fun T => andP i b T (a.f T)⟩
def pB : List (Nat × Operand) → PB
  | [] => ⟨fun _ => some []⟩
  | (i, x) :: l => seqP i (aB x) (pB l)

/-! ## arithmetic -/
def quoI : Int → Int → Option Int
  | .ofNat x, .ofNat (y + 1) => some (.ofNat (Nat.div x (Nat.succ y)))
  | _, _ => none
def remI : Int → Int → Option Int
  | .ofNat x, .ofNat (y + 1) => some (.ofNat (Nat.mod x (Nat.succ y)))
  | _, _ => none
def wrO (k : IntKind) : Option Int → Option V
  | some r => some (.i k (wr k r))
  | none => none
def iO (k : IntKind) : Option Int → Option V
  | some r => some (.i k r)
  | none => none
def bits3 (f : Nat → Nat → Nat) (k : IntKind) (x y : Nat) : Bool → Option V
  | true => some (.i k (wr k (.ofNat (f x y))))
  | false => none
def bits2 (f : Nat → Nat → Nat) (k : IntKind) : Int → Int → Option V
  | .ofNat x, .ofNat y => bits3 f k x y (and (Nat.blt x (lim k)) (Nat.blt y (lim k)))
  | _, _ => none
def intOp (k : IntKind) (a b : Int) : BinOp → Option V
  | .add => some (.i k (wr k (Int.add a b)))
  | .sub => some (.i k (wr k (Int.sub a b)))
  | .mul => some (.i k (wr k (Int.mul a b)))
  | .quo => wrO k (quoI a b)
  | .rem => iO k (remI a b)
  | .eql => some (.b (eqI a b))
  | .neq => some (.b (not (eqI a b)))
  | .lss => some (.b (ltI a b))
  | .leq => some (.b (not (ltI b a)))
  | .gtr => some (.b (ltI b a))
  | .geq => some (.b (not (ltI a b)))
  | .and => bits2 Nat.land k a b
  | .or => bits2 Nat.lor k a b
  | .xor => bits2 Nat.xor k a b
  | _ => none
def sAdd (a b : List Nat) : Bool → Option V
  | true => some (.s (app a b))
  | false => none
def strOp (a b : List Nat) : BinOp → Option V
  | .add => sAdd a b (Nat.blt (Nat.add (len a) (len b)) 4294967296)
  | .eql => some (.b (lbeq a b))
  | .neq => some (.b (not (lbeq a b)))
  | .lss => some (.b (lblt a b))
  | .gtr => some (.b (lblt b a))
  | .leq => some (.b (or (lblt a b) (lbeq a b)))
  | .geq => some (.b (not (lblt a b)))
  | _ => none
def andB : Option Bool → Option Bool → Option Bool
  | some true, r => r
  | some false, _ => some false
  | none, _ => none
def eq2 (eq : V → V → Option Bool) : Option V → Option V → Option Bool
  | some a, some b => eq a b
  | _, _ => none
def eqFields (E : Env) (eq : Nat → V → V → Option Bool) (xs ys : List V) : List Field → Option Bool
  | [] => some true
  | f :: l => match f.name == "_" with
    | true => eqFields E eq xs ys l
    | false => andB (eq2 (eq f.type) (partV E f.type xs f.offset) (partV E f.type ys f.offset)) (eqFields E eq xs ys l)
def eqPlain (x y : V) : TypeDesc → Option Bool
  | .bool => match x, y with
    | .b a, .b b => some (bbeq a b)
    | _, _ => none
  | .int _ => match x, y with
    | .i k a, .i j b => match kindEq k j with
      | true => some (eqI a b)
      | false => none
    | _, _ => none
  | .string => match x, y with
    | .s a, .s b => some (lbeq a b)
    | _, _ => none
  | .pointer _ => match x, y with
    | .np, .np => some true
    | .np, .p _ _ => some false
    | .p _ _, .np => some false
    | _, _ => none
  | .interface ms => match x, y with
    | .nif, .nif => match ms.toList with
      | [] => some true
      | _ => none
    | .nif, .ifc _ _ => some false
    | .ifc _ _, .nif => some false
    | _, _ => none
  | .slice _ => match x, y with
    | .ns, .ns => some true
    | .ns, .sl .. => some false
    | .sl .., .ns => some false
    | .ns, .se => some false
    | .se, .ns => some false
    | _, _ => none
  | .map _ _ => match x, y with
    | .nm, .nm => some true
    | .nm, .m _ => some false
    | .m _, .nm => some false
    | _, _ => none
  | .func _ _ _ => match x, y with
    | .nf, .nf => some true
    | .nf, .fn .. => some false
    | .fn .., .nf => some false
    | _, _ => none
  | _ => none
def eqD (E : Env) (eq : Nat → V → V → Option Bool) (pl : Bool) (x y : V) : TypeDesc → Option Bool
  | .struct fs => match pl, x, y with
    | true, .ag a, .ag b => eqFields E eq a b fs.toList
    | _, _, _ => none
  | d => eqPlain x y d
def eqTy (E : Env) (eq : Nat → V → V → Option Bool) (x y : V) : Option TyI → Option Bool
  | some ti => eqD E eq ti.plain x y ti.ud
  | none => none
/-- '==' at a type -/
def eqT (E : Env) : Nat → Nat → V → V → Option Bool
  | 0, _, _, _ => none
  | d + 1, t, x, y => eqTy E (eqT E d) x y (E.tt t)

def shV (f : Nat → Nat → Nat) (k : IntKind) : Int → Int → Option V
  | .ofNat x, .ofNat y => bits3 f k x y (and (Nat.blt x (lim k)) (Nat.blt y k.bits))
  | _, _ => none
def bO (neg : Bool) : Option Bool → Option V
  | some r => some (.b (bbeq (not neg) r))
  | none => none
def binI (op : BinOp) (k : IntKind) (a b : Int) : Bool → Option V
  | true => intOp k a b op
  | false => none
def binE (E : Env) (t : Nat) (x y : V) : BinOp → Option V
  | .eql => bO false (eqT E 20 t x y)
  | .neq => bO true (eqT E 20 t x y)
  | _ => none
def binII (op : BinOp) (k : IntKind) (a : Int) (j : IntKind) (b : Int) : Option V :=
  match op with
  | .shl => shV Nat.shiftLeft k a b
  | .shr => shV Nat.shiftRight k a b
  | _ => binI op k a b (kindEq k j)
def binVi (op : BinOp) (k : IntKind) (a : Int) : V → Option V
  | .i j b => binII op k a j b
  | _ => none
def binVs (op : BinOp) (a : List Nat) : V → Option V
  | .s b => strOp a b op
  | _ => none
def binU3 (r c : Nat) : Bool → Bool → Option V
  | true, _ => some (.i .i64 (.ofNat (Nat.land r c)))
  | false, true => some (.u true r)
  | false, false => none
def binU4 (r : Nat) : Bool → Option V
  | true => some (.i .i64 (.ofNat r))
  | false => none
def binU2 (op : BinOp) (nn : Bool) (r c : Nat) : Option V :=
  match op with
  | .and => binU3 r c (Nat.blt c 16) (Nat.beq c 255)
  | .rem => binU4 r (and nn (Nat.beq c 16))
  | _ => none
def binU (op : BinOp) (nn : Bool) (r : Nat) : V → Option V
  | .i .i64 (.ofNat c) => binU2 op nn r c
  | _ => none
def binV (E : Env) (op : BinOp) (t : Nat) (x y : V) : Option V :=
  match x with
  | .i k a => binVi op k a y
  | .s a => binVs op a y
  | .u nn r => binU op nn r y
  | _ => binE E t x y op

def natV : V → Option Nat
  | .i _ (.ofNat n) => some n
  | _ => none
def natVO : Option V → Option Nat
  | some v => natV v
  | none => none
def someO : Option Nat → Option (Option Nat)
  | some n => some (some n)
  | none => none
structure NB where
  f : Tr V → Option (Option Nat)
def nB : Option Operand → NB
  | none => ⟨fun _ => some none⟩
  | some o => ⟨fun T => someO (natVO ((aB o).f T))⟩

def consN8 (n : Nat) (r : List Nat) : Bool → Option (List Nat)
  | true => some (n :: r)
  | false => none
def consN (n : Nat) : Option (List Nat) → Option (List Nat)
  | some r => consN8 n r (Nat.blt n 256)
  | none => none
def u8s : List V → Option (List Nat)
  | [] => some []
  | .i .u8 (.ofNat n) :: l => consN n (u8s l)
  | _ => none
def toU8s : List Nat → List V
  | [] => []
  | n :: l => .i .u8 (.ofNat n) :: toU8s l

/-- a slice's bounds -/
def orN (d : Nat) : Option Nat → Nat
  | some n => n
  | none => d
def slM (i : Pth) (off sz l h m : Nat) : Bool → Option V
  | true => some (.sl i off 0 0 true sz)
  | false => some (.sl i (Nat.add off (Nat.mul l sz)) (Nat.sub h l) (Nat.sub m l) true sz)
def slMx (i : Pth) (off sz l h m : Nat) : Bool → Option V
  | true => slM i off sz l h m (Nat.beq m l)
  | false => none
def slU2 (i : Pth) (off sz cap l h : Nat) : Bool → Option V
  | true => some (.sl i (Nat.add off (Nat.mul l sz)) (Nat.sub h l) (Nat.sub cap l) false sz)
  | false => some .se
def slU (i : Pth) (off sz cap l h : Nat) : Bool → Option V
  | true => some (.sl i off h cap false sz)
  | false => slU2 i off sz cap l h (Nat.blt l cap)
def slN (i : Pth) (off sz cap l h : Nat) (ex : Bool) : Bool → Option V
  | true => match ex with
    | true => slM i off sz l h cap (Nat.beq cap l)
    | false => slU i off sz cap l h (Nat.beq l 0)
  | false => none
def sliceSl (i : Pth) (off ln cap : Nat) (ex : Bool) (sz : Nat) (lo hi : Option Nat) : Option Nat → Option V
  | some m => match hi with
    | some hh => slMx i off sz (orN 0 lo) hh m (and (Nat.ble m cap) (and (Nat.ble hh m) (Nat.ble (orN 0 lo) hh)))
    | none => none
  | none => slN i off sz cap (orN 0 lo) (orN ln hi) ex (and (Nat.ble (orN ln hi) cap) (Nat.ble (orN 0 lo) (orN ln hi)))

def findK (k : V) : List (V × V) → Option V
  | [] => none
  | (a, v) :: l => match V.beq k a with
    | true => some v
    | false => findK k l
def setK (k v : V) : List (V × V) → List (V × V)
  | [] => [(k, v)]
  | (a, u) :: l => match V.beq k a with
    | true => (a, v) :: l
    | false => (a, u) :: setK k v l
def okKey : V → Bool
  | .i _ _ => true
  | .s _ => true
  | _ => false
def sameS : V → V → Bool
  | .i k _, .i j _ => kindEq k j
  | .s _, .s _ => true
  | _, _ => false
def keyT : V → TypeDesc → Bool
  | .i _ _, .int _ => true
  | .s _, .string => true
  | _, _ => false
/-- a key of the kind of a map's keys -/
def sortOK (k : V) : List (V × V) → Bool
  | [] => true
  | (a, _) :: _ => sameS k a

def pickI (k : IntKind) (x y : Int) : Bool → Option V
  | true => some (.i k y)
  | false => some (.i k x)
def minV : V → V → Option V
  | .i k x, .i _ y => pickI k x y (ltI y x)
  | _, _ => none
def maxV : V → V → Option V
  | .i k x, .i _ y => pickI k x y (ltI x y)
  | _, _ => none
def foldV (f : V → V → Option V) : List V → V → Option V
  | [], x => some x
  | y :: l, x => match f x y with
    | some z => foldV f l z
    | none => none
def foldL (f : V → V → Option V) : Option (List V) → Option V
  | some (x :: l) => foldV f l x
  | _ => none

def int64 (n : Nat) : V := .i .i64 (.ofNat n)

/-! ## quiet operations, made ready -/
structure QB where
  f : Tr V → H → Res
def qNo : QB := ⟨fun _ _ => .no⟩
def rVal (o : Option V) : Res := Option.rec (motive := fun _ => Res) .no (fun v => .val v) o
def rPick (a b : AB) (T : Tr V) : Option V → Res
  | some (.b true) => rVal (a.f T)
  | some (.b false) => rVal (b.f T)
  | _ => .no
def qAlloc : Option (List V) → QB
  | some z => ⟨fun _ _ => .newp z⟩
  | none => qNo
def rNewp : Option (List V) → Res
  | some l => .newp l
  | none => .no
def rBuildP (pl : List (Nat × Nat)) (z : List V) : Option (List (Nat × V)) → Res
  | some ps => rVal (agO (fillP pl ps z))
  | none => .no
def qBuildS (p : PB) (z : List V) : Option (List (Nat × Nat)) → QB
  | some pl => ⟨fun T _ => rBuildP pl z (p.f T)⟩
  | none => qNo
def rBuildA (sz : Nat) (z : List V) : Option (List (Nat × V)) → Res
  | some ps => rVal (agO (fillA sz ps z))
  | none => .no
def qBuildA (p : PB) (z : List V) : Option Nat → QB
  | some sz => ⟨fun T _ => rBuildA sz z (p.f T)⟩
  | none => qNo
def qBuildD (E : Env) (p : PB) (z : List V) : TypeDesc → QB
  | .struct fs => qBuildS p z (places E fs.toList)
  | .array _ e => qBuildA p z (szOf E e)
  | _ => qNo
def qBuild (E : Env) (p : PB) : Option TyI → Option (List V) → QB
  | some ti, some z => qBuildD E p z ti.ud
  | _, _ => qNo
def rNews (n sz : Nat) : Option (List V) → Res
  | some l => .news l n n true sz
  | none => .no
def rBSl (n sz : Nat) (z : List V) : Option (List (Nat × V)) → Res
  | some ps => rNews n sz (fillA sz ps z)
  | none => .no
def qBSl2 (p : PB) (n sz : Nat) (z : List V) : Bool → QB
  | true => ⟨fun T _ => rBSl n sz (rep n z) (p.f T)⟩
  | false => qNo
def qBSl (p : PB) (n : Nat) : Option Nat → Option (List V) → QB
  | some sz, some z => qBSl2 p n sz z (and (Nat.beq (len z) sz) (and (Nat.blt 0 sz) (Nat.blt (Nat.mul n sz) 16777216)))
  | _, _ => qNo
def qBuildSl (E : Env) (p : PB) (n : Nat) : Option TyI → QB
  | some ti => match ti.ud with
    | .slice e => qBSl p n (szOf E e) (zeroCells E e)
    | _ => qNo
  | none => qNo
def rLoadA (n : Nat) (h : H) : Option V → Res
  | some (.p i off) => rVal (agO (rdCells h i off n))
  | _ => .no
def rLoad1 (h : H) : Option V → Res
  | some (.p i off) => rVal (rdCell h i off)
  | _ => .no
def qLoadA (a : AB) (n : Nat) : Bool → QB
  | true => ⟨fun T h => rLoadA n h (a.f T)⟩
  | false => ⟨fun T h => rLoad1 h (a.f T)⟩
def qLoad (a : AB) : Option TyI → QB
  | some ti => qLoadA a ti.size ti.ag
  | none => qNo
def rSt (i : Pth) (off : Nat) (l : List V) : Bool → Res
  | true => .st i off l
  | false => .no
def rStL (i : Pth) (off sz : Nat) : Option (List V) → Res
  | some l => rSt i off l (Nat.beq (len l) sz)
  | none => .no
def rStore (sz : Nat) : Option V → Option V → Res
  | some (.p i off), some v => rStL i off sz (cellsV v)
  | _, _ => .no
def qStore (a x : AB) : Option Nat → QB
  | some sz => ⟨fun T _ => rStore sz (a.f T) (x.f T)⟩
  | none => qNo
def findM (name : String) : List Method → Option Method
  | [] => none
  | m :: l => match m.name == name with
    | true => some m
    | false => findM name l
def isPtr : TypeDesc → Bool
  | .pointer _ => true
  | _ => false
def ifN (f : Nat) : Bool → Option Nat
  | true => some f
  | false => none
def mFn (p : Bool) : Option Method → Option Nat
  | some m => match m.path.toList, m.func with
    | [], some (f, q) => ifN f (bbeq q p)
    | _, _ => none
  | none => none
def methodOf (name : String) : Option TyI → Option Nat
  | some ti => mFn (isPtr ti.ud) (findM name ti.info.methods.toList)
  | none => none
def rNilM (v : V) : Option Nat → Res
  | some _ => .val v
  | none => .no
def rNil (E : Env) : Option V → Res
  | some (.p i o) => .val (.p i o)
  | some (.ifc t v) => .val (.ifc t v)
  | some (.fm n t v) => rNilM (.fm n t v) (methodOf n (E.tt t))
  | _ => .no
def rBin (E : Env) (op : BinOp) (t : Nat) : Option V → Option V → Res
  | some a, some b => rVal (binV E op t a b)
  | _, _ => .no
def rNot : Option V → Res
  | some (.b v) => .val (.b (not v))
  | _ => .no
def rNeg : Option V → Res
  | some (.i k n) => .val (.i k (wr k (Int.sub 0 n)))
  | _ => .no
def qUn (a : AB) : UnOp → QB
  | .not => ⟨fun T _ => rNot (a.f T)⟩
  | .neg => ⟨fun T _ => rNeg (a.f T)⟩
  | _ => qNo
/-! conversions -/
inductive CK where
  | no
  | int (k : IntKind)
  | str
  | toB
  | ofB
  | same
def isU8 : Option TyI → Bool
  | some i => match i.ud with
    | .int .u8 => true
    | _ => false
  | none => false
def ckB (k : CK) : Bool → CK
  | true => k
  | false => .no
def ckOf (E : Env) (s d : Nat) : TypeDesc → TypeDesc → CK
  | _, .int k => .int k
  | .string, .string => .str
  | .string, .slice e => ckB .toB (isU8 (E.tt e))
  | .slice e, .string => ckB .ofB (isU8 (E.tt e))
  | .slice _, .slice e => ckB .same (and (Nat.beq s d) (isU8 (E.tt e)))
  | _, _ => .no
def ckO (E : Env) (s d : Nat) : Option TyI → Option TyI → CK
  | some a, some b => ckOf E s d a.ud b.ud
  | _, _ => .no
def sO : Option (List Nat) → Option V
  | some l => some (.s l)
  | none => none
def u8O : Option (List V) → Option (List Nat)
  | some l => u8s l
  | none => none
def rCInt (k : IntKind) : Option V → Res
  | some (.i _ n) => .val (.i k (wr k n))
  | _ => .no
def rCStr : Option V → Res
  | some (.s l) => .val (.s l)
  | _ => .no
def rCTo2 (l : List Nat) : Bool → Res
  | true => .news (toU8s l) (len l) (len l) false 1
  | false => .no
def rCTo : Option V → Res
  | some (.s l) => rCTo2 l (Nat.blt (len l) 4294967296)
  | _ => .no
def rCOf (h : H) : Option V → Res
  | some .ns => .val (.s [])
  | some (.sl i off n _ _ _) => rVal (sO (u8O (rdCells h i off n)))
  | _ => .no
def rCSame2 (i : Pth) (v : V) : Option (List V) → Res
  | some _ => .frz i v
  | none => .no
def rCSame (h : H) : Option V → Res
  | some (.sl i off n c x z) => rCSame2 i (.sl i off n c x z) (cellsOfO (h.t.get i))
  | _ => .no
def qConv (a : AB) : CK → QB
  | .no => qNo
  | .int k => ⟨fun T _ => rCInt k (a.f T)⟩
  | .str => ⟨fun T _ => rCStr (a.f T)⟩
  | .toB => ⟨fun T _ => rCTo (a.f T)⟩
  | .ofB => ⟨fun T h => rCOf h (a.f T)⟩
  | .same => ⟨fun T h => rCSame h (a.f T)⟩
def rIfc (t : Nat) : Option V → Res
  | some v => .val (.ifc t v)
  | none => .no
def qIfc (a : AB) (t : Nat) : Option TyI → QB
  | some ti => match ti.ud with
    | .interface _ => qNo
    | _ => ⟨fun T _ => rIfc t (a.f T)⟩
  | none => qNo
def rFn (f : Nat) : Option (List V) → Option (List V) → Res
  | some a, some c => .val (.fn f a c)
  | _, _ => .no
def rFm (n : String) : Option (List V) → Option (List V) → Res
  | some [.ifc t v], some _ => .val (.fm n t v)
  | _, _ => .no
def qFn (a c : LB) : Fn → QB
  | .func f => ⟨fun T _ => rFn f (a.f T) (c.f T)⟩
  | .method n => ⟨fun T _ => rFm n (a.f T) (c.f T)⟩
  | _ => qNo
def rMk2 (z : List V) (sz n c : Nat) : Bool → Res
  | true => .news (rep c z) n c true sz
  | false => .no
def rMk (z : List V) (sz : Nat) : Option V → Option V → Res
  | some (.i .i64 (.ofNat n)), some (.i .i64 (.ofNat c)) => rMk2 z sz n c (and (Nat.ble n c) (Nat.blt c 1000000))
  | _, _ => .no
def qMk3 (n c : AB) (z : List V) (sz : Nat) : Bool → QB
  | true => ⟨fun T _ => rMk z sz (n.f T) (c.f T)⟩
  | false => qNo
def qMk2 (n c : AB) : Option TyI → Option (List V) → QB
  | some ei, some z => qMk3 n c z ei.size (and (Nat.blt ei.bytes 100000) (and (Nat.beq (len z) ei.size) (Nat.blt 0 ei.size)))
  | _, _ => qNo
def qMk (E : Env) (n c : AB) : Option TyI → QB
  | some ti => match ti.ud with
    | .slice e => qMk2 n c (E.tt e) (zeroCells E e)
    | _ => qNo
  | none => qNo
/-! slicing -/
def rSlStr2 (l : List Nat) (a b : Nat) : Bool → Res
  | true => rVal (sO (tk (Nat.sub b a) (drp a l)))
  | false => .no
def rSlStr (lo hi : Option Nat) : Option V → Res
  | some (.s l) => rSlStr2 l (orN 0 lo) (orN (len l) hi) (and (Nat.ble (orN 0 lo) (orN (len l) hi)) (Nat.ble (orN (len l) hi) (len l)))
  | _ => .no
def z0 : Option Nat → Bool
  | none => true
  | some n => Nat.beq n 0
def ifB (v : V) : Bool → Res
  | true => .val v
  | false => .no
def isN : Option Nat → Bool
  | none => true
  | some _ => false
def mxZ (hi : Option Nat) : Option Nat → Bool
  | none => true
  | some n => and (not (isN hi)) (Nat.beq n 0)
def rSlSl2 (i : Pth) (off ln cap : Nat) (ex : Bool) (sz : Nat) (lo hi mx : Option Nat) : Bool → Res
  | true => rVal (sliceSl i off ln cap ex sz lo hi mx)
  | false => .no
def rSlSl (es : Nat) (lo hi mx : Option Nat) : Option V → Res
  | some (.sl i off ln cap ex sz) => rSlSl2 i off ln cap ex sz lo hi mx (Nat.beq sz es)
  | some .ns => ifB .ns (and (z0 lo) (and (z0 hi) (mxZ hi mx)))
  | some .se => ifB .se (and (z0 lo) (and (z0 hi) (mxZ hi mx)))
  | _ => .no
def rB3 (k : Option Nat → Option Nat → Option Nat → Res) : Option (Option Nat) → Option (Option Nat) → Option (Option Nat) → Res
  | some a, some b, some c => k a b c
  | _, _, _ => .no
def rB2 (k : Option Nat → Option Nat → Res) : Option (Option Nat) → Option (Option Nat) → Res
  | some a, some b => k a b
  | _, _ => .no
def qSlStr (a : AB) (lo hi : NB) : Option Operand → QB
  | none => ⟨fun T _ => rB2 (fun l h => rSlStr l h (a.f T)) (lo.f T) (hi.f T)⟩
  | some _ => qNo
def qSlSl (a : AB) (lo hi mx : NB) : Option Nat → QB
  | some es => ⟨fun T _ => rB3 (fun l h m => rSlSl es l h m (a.f T)) (lo.f T) (hi.f T) (mx.f T)⟩
  | none => qNo
/-- an array is cut where it lies: its object must hold all of it -/
def arrIn (off n sz : Nat) : Option (List V) → Bool
  | some l => and (Nat.blt 0 (len l)) (Nat.ble (Nat.add off (Nat.mul n sz)) (len l))
  | none => false
def rSlAr2 (i : Pth) (off n sz : Nat) (lo hi mx : Option Nat) : Bool → Res
  | true => rVal (sliceSl i off n n true sz lo hi mx)
  | false => .no
def rSlAr (n sz : Nat) (h : H) (lo hi mx : Option Nat) : Option V → Res
  | some (.p i off) => rSlAr2 i off n sz lo hi mx (and (Nat.blt n 1000000) (arrIn off n sz (cellsOfO (h.t.get i))))
  | _ => .no
def qSlAr (a : AB) (lo hi mx : NB) (n : Nat) : Option Nat → QB
  | some es => ⟨fun T h => rB3 (fun l h' m => rSlAr n es h l h' m (a.f T)) (lo.f T) (hi.f T) (mx.f T)⟩
  | none => qNo
def qSlD (E : Env) (a : AB) (lo hi mx : NB) (mo : Option Operand) : TypeDesc → QB
  | .string => qSlStr a lo hi mo
  | .slice e => qSlSl a lo hi mx (szOf E e)
  | .array n e => qSlAr a lo hi mx n (szOf E e)
  | _ => qNo
def qSl (E : Env) (a : AB) (lo hi mx : NB) (mo : Option Operand) : Option TyI → QB
  | some ti => qSlD E a lo hi mx mo ti.ud
  | none => qNo
/-! parts -/
def rFA (o : Nat) : Option V → Res
  | some (.p i off) => .val (.p i (Nat.add off o))
  | _ => .no
def qFA3 (a : AB) (o : Nat) : Option Nat → QB
  | some (_ + 1) => ⟨fun T _ => rFA o (a.f T)⟩
  | _ => qNo
def qFA2 (E : Env) (a : AB) : Option Field → QB
  | some f => qFA3 a f.offset (szOf E f.type)
  | none => qNo
def qFA (E : Env) (a : AB) (k : Nat) : Option TyI → QB
  | some ti => match ti.ud with
    | .struct fs => qFA2 E a (nth fs.toList k)
    | _ => qNo
  | none => qNo
def rFld (ti : Option TyI) (o : Nat) : Option V → Res
  | some (.ag l) => rVal (partI l o ti)
  | _ => .no
def qFld2 (E : Env) (a : AB) : Option Field → QB
  | some f => ⟨fun T _ => rFld (E.tt f.type) f.offset (a.f T)⟩
  | none => qNo
def qFld (E : Env) (a : AB) (k : Nat) : Option TyI → QB
  | some ti => match ti.ud with
    | .struct fs => qFld2 E a (nth fs.toList k)
    | _ => qNo
  | none => qNo
def rIx (i : Pth) (off n sz : Nat) : Bool → Res
  | true => .val (.p i (Nat.add off (Nat.mul n sz)))
  | false => .no
def rIA (sz : Nat) (x : Option V) : Option V → Res
  | some (.i _ (.ofNat n)) => match x with
    | some (.sl i off ln _ _ _) => rIx i off n sz (Nat.blt n ln)
    | _ => .no
  | _ => .no
def rIAA (ln sz : Nat) (x : Option V) : Option V → Res
  | some (.i _ (.ofNat n)) => match x with
    | some (.p i off) => rIx i off n sz (Nat.blt n ln)
    | _ => .no
  | _ => .no
def qIAA (a x : AB) (ln : Nat) : Option Nat → QB
  | some sz => ⟨fun T _ => rIAA ln sz (a.f T) (x.f T)⟩
  | none => qNo
def qIAS (a x : AB) : Option Nat → QB
  | some sz => ⟨fun T _ => rIA sz (a.f T) (x.f T)⟩
  | none => qNo
def qIAD (E : Env) (a x : AB) : TypeDesc → QB
  | .slice e => qIAS a x (szOf E e)
  | .array ln e => qIAA a x ln (szOf E e)
  | _ => qNo
def qIA (E : Env) (a x : AB) : Option TyI → QB
  | some ti => qIAD E a x ti.ud
  | none => qNo
def u8O1 : Option Nat → Option V
  | some c => some (.i .u8 (.ofNat c))
  | none => none
def rIS (x : Option V) : Option V → Res
  | some (.i _ (.ofNat n)) => match x with
    | some (.s l) => rVal (u8O1 (nth l n))
    | _ => .no
  | _ => .no
def rIG2 (ti : Option TyI) (l : List V) (o : Nat) : Bool → Res
  | true => rVal (partI l o ti)
  | false => .no
def rIG (ti : Option TyI) (ln sz : Nat) (x : Option V) : Option V → Res
  | some (.i _ (.ofNat n)) => match x with
    | some (.ag l) => rIG2 ti l (Nat.mul n sz) (Nat.blt n ln)
    | _ => .no
  | _ => .no
def qIG (E : Env) (a x : AB) (e ln : Nat) : Option Nat → QB
  | some sz => ⟨fun T _ => rIG (E.tt e) ln sz (a.f T) (x.f T)⟩
  | none => qNo
def qIxD (E : Env) (a x : AB) : TypeDesc → QB
  | .string => ⟨fun T _ => rIS (a.f T) (x.f T)⟩
  | .array ln e => qIG E a x e ln (szOf E e)
  | _ => qNo
def qIx (E : Env) (a x : AB) : Option TyI → QB
  | some ti => qIxD E a x ti.ud
  | none => qNo
/-! maps -/
def mapOf : Option AObj → Option (List (V × V))
  | some (.mp es) => some es
  | some (.mx es _ _) => some es
  | _ => none
def mapAt (h : H) : Option V → Option (List (V × V))
  | some .nm => some []
  | some (.m i) => mapOf (h.t.get i)
  | _ => none
def rLk3 (ok : Bool) (z : V) : Option V → Res
  | some v => .val (match ok with | true => .tu [v, .b true] | false => v)
  | none => .val (match ok with | true => .tu [z, .b false] | false => z)
def rLk2 (ok : Bool) (z : V) (k : V) (es : List (V × V)) : Bool → Res
  | true => rLk3 ok z (findK k es)
  | false => .no
def rLk (kd : TypeDesc) (ok : Bool) (z : V) : Option (List (V × V)) → Option V → Res
  | some es, some k => rLk2 ok z k es (and (keyT k kd) (sortOK k es))
  | _, _ => .no
def qLk3 (a k : AB) (kd : TypeDesc) (ok : Bool) (z : V) : QB := ⟨fun T h => rLk kd ok z (mapAt h (a.f T)) (k.f T)⟩
def qLk2 (a k : AB) (ok : Bool) : Option TyI → Option V → QB
  | some kt, some z => qLk3 a k kt.ud ok z
  | _, _ => qNo
def qLk (E : Env) (a k : AB) (ok : Bool) : Option TyI → QB
  | some ti => match ti.ud with
    | .map kt e => qLk2 a k ok (E.tt kt) (tyZ (E.tt e))
    | _ => qNo
  | none => qNo
/-! interfaces -/
def rTA2 (w : V) (ok : Bool) (z : Option V) : Bool → Res
  | true => .val (match ok with | true => .tu [w, .b true] | false => w)
  | false => match ok, z with
    | true, some z => .val (.tu [z, .b false])
    | _, _ => .no
def rTA (t : Nat) (ok : Bool) (z : Option V) : Option V → Res
  | some (.ifc u w) => rTA2 w ok z (Nat.beq u t)
  | some .nif => match ok, z with
    | true, some z => .val (.tu [z, .b false])
    | _, _ => .no
  | _ => .no
def qTA (a : AB) (t : Nat) (ok : Bool) : Option TyI → QB
  | some ti => match ti.ud with
    | .interface _ => qNo
    | _ => ⟨fun T _ => rTA t ok ti.zero (a.f T)⟩
  | none => qNo
def rEx (k : Nat) : Option V → Res
  | some (.tu l) => rVal (nth l k)
  | _ => .no
def lenM : Option (List (V × V)) → Option V
  | some es => some (int64 (len es))
  | none => none
def rLenS : Option V → Res
  | some (.s l) => .val (int64 (len l))
  | _ => .no
def rLenL : Option V → Res
  | some (.sl _ _ n _ _ _) => .val (int64 n)
  | some .se => .val (int64 0)
  | some .ns => .val (int64 0)
  | _ => .no
def rLenM (h : H) : Option V → Res
  | some .nm => .val (int64 0)
  | some (.m i) => rVal (lenM (mapOf (h.t.get i)))
  | _ => .no
def rCap : Option V → Res
  | some (.sl _ _ _ c true _) => .val (int64 c)
  | some .ns => .val (int64 0)
  | _ => .no
def qLenD (a : AB) : TypeDesc → QB
  | .string => ⟨fun T _ => rLenS (a.f T)⟩
  | .slice _ => ⟨fun T _ => rLenL (a.f T)⟩
  | .map _ _ => ⟨fun T h => rLenM h (a.f T)⟩
  | _ => qNo
def qLenT (a : AB) : Option TyI → QB
  | some ti => qLenD a ti.ud
  | none => qNo
def qLen (E : Env) : List Operand → List Nat → QB
  | [x], t :: _ => qLenT (aB x) (E.tt t)
  | _, _ => qNo
def qCapD (a : AB) : TypeDesc → QB
  | .slice _ => ⟨fun T _ => rCap (a.f T)⟩
  | _ => qNo
def qCapT (a : AB) : Option TyI → QB
  | some ti => qCapD a ti.ud
  | none => qNo
def qCap (E : Env) : List Operand → List Nat → QB
  | [x], t :: _ => qCapT (aB x) (E.tt t)
  | _, _ => qNo
def qBI (E : Env) (args : List Operand) (ts : List Nat) : Builtin → QB
  | .len => qLen E args ts
  | .cap => qCap E args ts
  | .min => ⟨fun T _ => rVal (foldL minV ((lB args).f T))⟩
  | .max => ⟨fun T _ => rVal (foldL maxV ((lB args).f T))⟩
  | _ => qNo
def qCall (E : Env) (args : List Operand) (ts : List Nat) : Callee → QB
  | .builtin b => qBI E args ts b
  | _ => qNo
def qMM : Option Operand → QB
  | none => ⟨fun _ _ => .newm⟩
  | some _ => qNo

def qB (E : Env) : Op → QB
  | .move x => ⟨fun T _ => rVal ((aB x).f T)⟩
  | .assign x => ⟨fun T _ => rVal ((aB x).f T)⟩
  | .pick c a b => ⟨fun T _ => rPick (aB a) (aB b) T ((aB c).f T)⟩
  | .alloc t => qAlloc (zeroCells E t)
  | .box _ x => ⟨fun T _ => rNewp (zcO ((aB x).f T))⟩
  | .build t ps => qBuild E (pB ps.toList) (E.tt t) (zeroCells E t)
  | .buildSlice t n ps => qBuildSl E (pB ps.toList) n (E.tt t)
  | .load t a => qLoad (aB a) (E.tt t)
  | .store t a x => qStore (aB a) (aB x) (szOf E t)
  | .nilCheck x => ⟨fun T _ => rNil E ((aB x).f T)⟩
  | .binOp op t x y _ => ⟨fun T _ => rBin E op t ((aB x).f T) ((aB y).f T)⟩
  | .unOp op _ x => qUn (aB x) op
  | .convert s d x => qConv (aB x) (ckO E s d (E.tt s) (E.tt d))
  | .makeInterface t x => qIfc (aB x) t (E.tt t)
  | .makeFunc f a c => qFn (lB a.toList) (lB c.toList) f
  | .makeMap _ r => qMM r
  | .makeSlice t n c => qMk E (aB n) (aB c) (E.tt t)
  | .slice t x lo hi mx => qSl E (aB x) (nB lo) (nB hi) (nB mx) mx (E.tt t)
  | .fieldAddr s x k => qFA E (aB x) k (E.tt s)
  | .field t x k => qFld E (aB x) k (E.tt t)
  | .indexAddr t x ix => qIA E (aB x) (aB ix) (E.tt t)
  | .index t x ix => qIx E (aB x) (aB ix) (E.tt t)
  | .lookup t x k ok => qLk E (aB x) (aB k) ok (E.tt t)
  | .typeAssert x _ t ok => qTA (aB x) t ok (E.tt t)
  | .extract x k => ⟨fun T _ => rEx k ((aB x).f T)⟩
  | .call c => qCall E c.args.toList c.argTypes.toList c.callee
  | _ => qNo

end
end Go.Ev
namespace Go.Ev
open Go
noncomputable section

inductive AD where
  | fn (f : Nat) (args : List V)
  | coll (r : Pth)

inductive Ex where
  | norm
  | exit (id : Nat)
  | ret

/-- what a call gives -/
inductive VR where
  | no
  | ok (v : V) (h : H)
/-- what code gives -/
inductive XR where
  | no
  | ok (x : Ex) (T : Tr V) (D : List AD) (h : H)
/-- what an operation gives -/
inductive CR where
  | no
  | ok (T : Tr V) (D : List AD) (h : H)
/-- what a call or its like gives -/
inductive DR where
  | no
  | ok (v : V) (D : List AD) (h : H)

structure FrI where
  fn : Nat
  nt : Nat
  dfr : Bool
  rnd : Bool
structure Rc where
  call : Bool → Nat → List V → H → VR
  loop : FrI → Code → Tr V → List AD → H → XR
  round : Pth → List V → H → VR

/-! ## append -/
def newRow (h : H) (l : List V) : H := ⟨put h.t h.n (some (.cells l)), Pth.succ h.n⟩
def apIn (i : Pth) (off n cap : Nat) (ex : Bool) (sz : Nat) : Option H → VR
  | some h => .ok (.sl i off n cap ex sz) h
  | none => .no
def apOld (i : Pth) (h : H) : Bool → Tr AObj
  | true => h.t
  | false => put h.t i none
def apNew (i : Pth) (n : Nat) (ex : Bool) (sz : Nat) (nl : List V) (h : H) : Option (List V) → VR
  | some old => .ok (.sl h.n 0 n n false sz) ⟨put (apOld i h ex) h.n (some (.cells (app old nl))), Pth.succ h.n⟩
  | none => .no
def apSl (i : Pth) (off ln cap : Nat) (ex : Bool) (sz : Nat) (nl : List V) (n : Nat) (h : H) : Bool → VR
  | true => apIn i off n cap ex sz (wrCells h i (Nat.add off (Nat.mul ln sz)) nl)
  | false => apNew i n ex sz nl h (rdCells h i off (Nat.mul ln sz))
def apSl1 (i : Pth) (off ln cap : Nat) (ex : Bool) (sz : Nat) (nl : List V) (n : Nat) (h : H) : Bool → VR
  | true => apSl i off ln cap ex sz nl n h (Nat.ble n cap)
  | false => .no
def apNs (sz : Nat) (nl : List V) (h : H) : Nat → Bool → VR
  | _, false => .no
  | 0, true => .ok .ns h
  | n + 1, true => .ok (.sl h.n 0 (Nat.succ n) (Nat.succ n) false sz) (newRow h nl)
/-- append: 'sz' cells an element, n elements in nl -/
def evAppend (sz : Nat) (nl : List V) (n : Nat) (h : H) : V → VR
  | .ns => apNs sz nl h n (Nat.blt n 1000000)
  | .sl i off ln cap ex z => apSl1 i off ln cap ex sz nl (Nat.add ln n) h (and (Nat.beq z sz) (Nat.blt (Nat.add ln n) 1000000))
  | _ => .no
inductive Ap where
  | no
  | ok (l : List V) (n : Nat)
def apL (n : Nat) : Option (List V) → Ap
  | some l => .ok l n
  | none => .no
/-- what is appended: its cells, how many -/
def apS (l : List Nat) : Bool → Ap
  | true => .ok (toU8s l) (len l)
  | false => .no
def apX (sz : Nat) (h : H) : V → Ap
  | .ns => .ok [] 0
  | .se => .ok [] 0
  | .sl i off n _ _ _ => apL n (rdCells h i off (Nat.mul n sz))
  | .s l => apS l (Nat.beq sz 1)
  | _ => .no
def apDo (sz : Nat) (s : V) (h : H) : Ap → VR
  | .ok l n => evAppend sz l n h s
  | .no => .no
def isIntD : TypeDesc → Bool
  | .int _ => true
  | _ => false
def vD (D : List AD) : VR → DR
  | .ok v h => .ok v D h
  | .no => .no
structure KB where
  f : Rc → FrI → Tr V → List AD → H → DR
def kNo : KB := ⟨fun _ _ _ _ _ => .no⟩
def ap2 (sz : Nat) (D : List AD) (h : H) : Option (List V) → DR
  | some [s, x] => vD D (apDo sz s h (apX sz h x))
  | _ => .no
def kAp4 (a : LB) (sz : Nat) : Bool → KB
  | true => ⟨fun _ _ T D h => ap2 sz D h (a.f T)⟩
  | false => kNo
def zLen (sz : Nat) : Option (List V) → Bool
  | some z => Nat.beq (len z) sz
  | none => false
def kAp3 (E : Env) (a : LB) (e : Nat) : Option TyI → KB
  | some ei => kAp4 a ei.size (and (Nat.blt ei.bytes 65536) (and (Nat.blt 0 ei.size) (zLen ei.size (zeroCells E e))))
  | none => kNo
def kAp2 (E : Env) (a : LB) : Option TyI → KB
  | some ti => match ti.ud with
    | .slice e => kAp3 E a e (E.tt e)
    | _ => kNo
  | none => kNo
def kIf (k : KB) : Bool → KB
  | true => kNo
  | false => k
/-- append of n zeros -/
def apZ2 (sz : Nat) (z : List V) (D : List AD) (h : H) : Option (List V) → DR
  | some [s, .i .i64 (.ofNat n)] => vD D (evAppend sz (rep n z) n h s)
  | _ => .no
def kApZ4 (a : LB) (sz : Nat) (z : List V) : Bool → KB
  | true => ⟨fun _ _ T D h => apZ2 sz z D h (a.f T)⟩
  | false => kNo
def kApZ3 (a : LB) (ei : TyI) : Option (List V) → KB
  | some z => kApZ4 a ei.size z (and (Nat.blt ei.bytes 65536) (and (Nat.blt 0 ei.size) (Nat.beq (len z) ei.size)))
  | none => kNo
def kApZ2 (E : Env) (a : LB) (e : Nat) : Option TyI → KB
  | some ei => kApZ3 a ei (zeroCells E e)
  | none => kNo
def kApZ (E : Env) (a : LB) : Option TyI → KB
  | some ti => match ti.ud with
    | .slice e => kApZ2 E a e (E.tt e)
    | _ => kNo
  | none => kNo
def kApI (k z : KB) : Bool → KB
  | true => z
  | false => k
def kApU (E : Env) (a : LB) (t : Nat) : Option TyI → KB
  | some ui => kApI (kAp2 E a (E.tt t)) (kApZ E a (E.tt t)) (isIntD ui.ud)
  | none => kNo
def kAp (E : Env) (a : LB) : List Nat → KB
  | [t] => kAp2 E a (E.tt t)
  | [t, u] => kApU E a t (E.tt u)
  | _ => kNo
/-! ## copy, clear -/
def hV (D : List AD) (v : V) : Option H → DR
  | some h => .ok v D h
  | none => .no
def cpL (k : Nat) (i : Pth) (off : Nat) (D : List AD) (h : H) : Option (List V) → DR
  | some l => hV D (int64 k) (wrCells h i off l)
  | none => .no
def minN (a b : Nat) : Bool → Nat
  | true => a
  | false => b
def cpX (sz : Nat) (i : Pth) (off n : Nat) (D : List AD) (h : H) : V → DR
  | .ns => .ok (int64 0) D h
  | .se => .ok (int64 0) D h
  | .sl j q m _ _ _ => cpL (minN m n (Nat.ble m n)) i off D h (rdCells h j q (Nat.mul (minN m n (Nat.ble m n)) sz))
  | _ => .no
def cpD (sz : Nat) (x : V) (D : List AD) (h : H) : V → DR
  | .sl i off n _ _ _ => cpX sz i off n D h x
  | _ => .no
def cp2 (sz : Nat) (D : List AD) (h : H) : Option (List V) → DR
  | some [d, x] => cpD sz x D h d
  | _ => .no
def kCp3 (a : LB) : Option Nat → KB
  | some sz => ⟨fun _ _ T D h => cp2 sz D h (a.f T)⟩
  | none => kNo
def kCp2 (E : Env) (a : LB) : Option TyI → KB
  | some ti => match ti.ud with
    | .slice e => kCp3 a (szOf E e)
    | _ => kNo
  | none => kNo
def kCp (E : Env) (a : LB) : List Nat → KB
  | t :: _ => kCp2 E a (E.tt t)
  | _ => kNo
def clX (z : List V) (D : List AD) (h : H) : V → DR
  | .ns => .ok (.tu []) D h
  | .se => .ok (.tu []) D h
  | .sl _ _ 0 _ _ _ => .ok (.tu []) D h
  | .sl i off (n + 1) _ _ _ => hV D (.tu []) (wrCells h i off (rep (Nat.succ n) z))
  | _ => .no
def cl2 (z : List V) (D : List AD) (h : H) : Option (List V) → DR
  | some [x] => clX z D h x
  | _ => .no
def kCl3 (a : LB) : Option (List V) → KB
  | some z => ⟨fun _ _ T D h => cl2 z D h (a.f T)⟩
  | none => kNo
def kCl2 (E : Env) (a : LB) : Option TyI → KB
  | some ti => match ti.ud with
    | .slice e => kCl3 a (zeroCells E e)
    | _ => kNo
  | none => kNo
def kCl (E : Env) (a : LB) : List Nat → KB
  | t :: _ => kCl2 E a (E.tt t)
  | _ => kNo
/-! ## library functions that are not entered -/
def pre : List Nat → List Nat → Bool
  | [], _ => true
  | _ :: _, [] => false
  | a :: x, b :: y => and (Nat.beq a b) (pre x y)
def sub (x : List Nat) : List Nat → Bool
  | [] => pre x []
  | b :: y => or (pre x (b :: y)) (sub x y)
def idxOf (c : Nat) : List Nat → Nat → Option Nat
  | [], _ => none
  | a :: l, k => match Nat.beq a c with
    | true => some k
    | false => idxOf c l (Nat.succ k)
def idxV : Option Nat → V
  | some k => int64 k
  | none => .i .i64 (.negSucc 0)
def clone3 (t : Nat) (h : H) : Option AObj → VR
  | some (.mp es) => .ok (.ifc t (.m h.n)) ⟨put h.t h.n (some (.mp es)), Pth.succ h.n⟩
  | some (.mx es bs ck) => .ok (.ifc t (.m h.n)) ⟨put h.t h.n (some (.mx es bs ck)), Pth.succ h.n⟩
  | _ => .no
def prim1B (h : H) (v : V) : Bool → VR
  | true => .ok v h
  | false => .no
/-- object 0 is a package-level variable of one integer -/
def isGl : Option AObj → Bool
  | some (.gl b _) => Nat.beq b GLB
  | _ => false
def prim1 (h : H) : List V → VR
  | [.s a, .s b] => prim1B h (.b (sub b a)) (and (Nat.blt (len a) 4294967281) (isGl (h.t.get .z)))
  | _ => .no
def prim2 (h : H) : List V → VR
  | [.s a, .i .u8 (.ofNat c)] => prim1B h (idxV (idxOf c a 0)) (Nat.blt c 256)
  | _ => .no
def prim3 (h : H) : List V → VR
  | [.ifc t (.m i)] => clone3 t h (h.t.get i)
  | _ => .no
def evPrim (vs : List V) (h : H) : Nat → VR
  | 1 => prim1 h vs                    -- strings.Contains
  | 2 => prim2 h vs                    -- bytealg.IndexByteString
  | 3 => prim3 h vs                    -- maps.clone
  | _ => .no
/-! ## calls -/
def callP (r : Rc) (f : Nat) (vs : List V) (D : List AD) (h : H) : Option Nat → DR
  | some n => vD D (evPrim vs h n)
  | none => vD D (r.call false f vs h)
def invM (r : Rc) (v : V) (vs : List V) (D : List AD) (h : H) : Option Nat → DR
  | some f => vD D (r.call false f (v :: vs) h)
  | none => .no
def callV (E : Env) (r : Rc) (D : List AD) (h : H) : Option V → Option (List V) → DR
  | some (.fn f a cp), some vs => callP r f (app a (app vs cp)) D h (E.prim f)
  | some (.fy l), some vs => vD D (r.round l vs h)
  | some (.fm n t v), some vs => invM r v vs D h (methodOf n (E.tt t))
  | _, _ => .no
def invV (E : Env) (r : Rc) (name : String) (D : List AD) (h : H) : Option V → Option (List V) → DR
  | some (.ifc t v), some vs => invM r v vs D h (methodOf name (E.tt t))
  | _, _ => .no
def recD (D : List AD) (h : H) (fr : FrI) : DR :=
  match and fr.dfr (not fr.rnd) with
  | true => .ok .nif D h
  | false => .no
def kBI (E : Env) (a : LB) (ts : List Nat) : Builtin → KB
  | .append => kAp E a ts
  | .copy => kCp E a ts
  | .clear => kCl E a ts
  | .recover => ⟨fun _ fr _ D h => recD D h fr⟩
  | _ => kNo
def kCall (E : Env) (a : LB) (ts : List Nat) : Callee → KB
  | .value f => ⟨fun r _ T D h => callV E r D h ((aB f).f T) (a.f T)⟩
  | .invoke x name => ⟨fun r _ T D h => invV E r name D h ((aB x).f T) (a.f T)⟩
  | .builtin b => kBI E a ts b
def hasK (k : V) : List (V × V) → Bool
  | [] => false
  | (a, _) :: l => or (V.beq k a) (hasK k l)
/-- a map of which all is known: entries in their order, the time of each, the map's clock -/
def mxSet (k v : V) (es : List (V × V)) (bs : List Nat) (ck : Nat) : Bool → AObj
  | true => .mx (setK k v es) bs ck
  | false => .mx (setK k v es) (app bs [ck]) (Nat.succ ck)
def setOO (k v : V) : Option AObj → Option AObj
  | some (.mp es) => some (.mp (setK k v es))
  | some (.mx es bs ck) => some (mxSet k v es bs ck (hasK k es))
  | o => o
def mapSet2 (i : Pth) (D : List AD) (h : H) (o : Option AObj) : Bool → DR
  | true => .ok (.tu []) D ⟨put h.t i o, h.n⟩
  | false => .no
def mapSet (i : Pth) (kd : TypeDesc) (k v : V) (D : List AD) (h : H) : Option (List (V × V)) → DR
  | some es => mapSet2 i D h (setOO k v (h.t.get i)) (and (keyT k kd) (sortOK k es))
  | none => .no
def mapUp (kd : TypeDesc) (D : List AD) (h : H) (k v : Option V) : Option V → DR
  | some (.m i) => match k, v with
    | some k, some v => mapSet i kd k v D h (mapOf (h.t.get i))
    | _, _ => .no
  | _ => .no
def kMu2 (m k v : AB) : Option TyI → KB
  | some kt => ⟨fun _ _ T D h => mapUp kt.ud D h (k.f T) (v.f T) (m.f T)⟩
  | none => kNo
def kMu (E : Env) (m k v : AB) : Option TyI → KB
  | some ti => match ti.ud with
    | .map kt _ => kMu2 m k v (E.tt kt)
    | _ => kNo
  | none => kNo
/-- a range over a nil map, or a map of which all is known -/
def rngM (i : Pth) (D : List AD) (h : H) : Option AObj → DR
  | some (.mx _ _ ck) => .ok (.p h.n 0) D ⟨put h.t h.n (some (.it i ck [] ck)), Pth.succ h.n⟩
  | _ => .no
def rngV (D : List AD) (h : H) : Option V → DR
  | some .nm => .ok (.p h.n 0) D ⟨put h.t h.n (some .mi), Pth.succ h.n⟩
  | some (.m i) => rngM i D h (h.t.get i)
  | _ => .no
/-- the one entry comes: it was there when the range began -/
def next1 (i m : Pth) (since : Nat) (k v : V) (b ck : Nat) (D : List AD) (h : H) : Bool → DR
  | true => .ok (.tu [.b true, k, v]) D ⟨put h.t i (some (.it m since [b] ck)), h.n⟩
  | false => .no
/-- no more -/
def next0 (D : List AD) (h : H) : Bool → DR
  | true => .ok (.tu [.b false]) D h
  | false => .no
def nextM (i m : Pth) (since : Nat) (seen : List Nat) (last : Nat) (D : List AD) (h : H) : Option AObj → DR
  | some (.mx [] [] _) => .ok (.tu [.b false]) D h
  | some (.mx [(k, v)] [b] ck) => match seen with
    | [] => next1 i m since k v b ck D h (Nat.blt b since)
    | [c] => next0 D h (and (Nat.beq c b) (Nat.blt b last))
    | _ => .no
  | _ => .no
def nextI (i : Pth) (D : List AD) (h : H) : Option AObj → DR
  | some .mi => .ok (.tu [.b false]) D h
  | some (.it m since seen last) => nextM i m since seen last D h (h.t.get m)
  | _ => .no
def nextV (D : List AD) (h : H) : Option V → DR
  | some (.p i 0) => nextI i D h (h.t.get i)
  | _ => .no
/-- the entry of the last step -/
def ent1 (k v : V) (D : List AD) (h : H) : Bool → DR
  | true => .ok (.tu [k, v]) D h
  | false => .no
def entM (seen : List Nat) (last : Nat) (D : List AD) (h : H) : Option AObj → DR
  | some (.mx [(k, v)] [b] ck) => match seen with
    | [c] => ent1 k v D h (and (Nat.beq c b) (Nat.beq ck last))
    | _ => .no
  | _ => .no
def entI (D : List AD) (h : H) : Option AObj → DR
  | some (.it m _ seen last) => entM seen last D h (h.t.get m)
  | _ => .no
def entV (D : List AD) (h : H) : Option V → DR
  | some (.p i 0) => entI D h (h.t.get i)
  | _ => .no
def kEn (a : AB) : KB := ⟨fun _ _ T D h => entV D h (a.f T)⟩
def kRg (a : AB) : Option TyI → KB
  | some ti => match ti.ud with
    | .map _ _ => ⟨fun _ _ T D h => rngV D h (a.f T)⟩
    | _ => kNo
  | none => kNo
def kNx (a : AB) : Bool → KB
  | true => kNo
  | false => ⟨fun _ _ T D h => nextV D h (a.f T)⟩
def defV (fr : FrI) (D : List AD) (h : H) : Option V → Option (List V) → DR
  | some (.fn f a cp), some vs => match fr.rnd with
    | false => .ok (.tu []) (.fn f (app a (app vs cp)) :: D) h
    | true => .no
  | _, _ => .no
def kDef (a : LB) : Callee → KB
  | .value f => ⟨fun _ fr T D h => defV fr D h ((aB f).f T) (a.f T)⟩
  | _ => kNo
/-- calls and what else changes memory -/
def kB (E : Env) : Op → KB
  | .call c => kCall E (lB c.args.toList) c.argTypes.toList c.callee
  | .insert t m k v => kMu E (aB m) (aB k) (aB v) (E.tt t)
  | .mapUpdate t m k v => kMu E (aB m) (aB k) (aB v) (E.tt t)
  | .range t x => kRg (aB x) (E.tt t)
  | .next x s => kNx (aB x) s
  | .entry x => kEn (aB x)
  | .defer c => kDef (lB c.args.toList) c.callee
  | _ => kNo
def isCB : Builtin → Bool
  | .len => false
  | .cap => false
  | .min => false
  | .max => false
  | _ => true
def isCC : Callee → Bool
  | .builtin b => isCB b
  | _ => true
def isC : Op → Bool
  | .call c => isCC c.callee
  | .insert .. => true
  | .mapUpdate .. => true
  | .mapEntry .. => true
  | .entryStore .. => true
  | .range .. => true
  | .next .. => true
  | .entry .. => true
  | .defer .. => true
  | .go .. => true
  | .panic .. => true
  | .send .. => true
  | .recv .. => true
  | .select .. => true
  | _ => false

/-- the same, where orders are drawn -/
def isD : Op → Bool
  | .insert .. => false
  | o => isC o

/-! ## operations in order -/
structure DB where
  put : Tr V → V → Tr V
def dB : Option Nat → DB
  | some d => ⟨fun T v => Tr.put (Pth.of d) T (some v)⟩
  | none => ⟨fun T _ => T⟩
structure OB where
  f : Rc → FrI → Tr V → List AD → H → CR
def kD (d : DB) (T : Tr V) (x : DR) : CR := DR.rec (motive := fun _ => CR) .no (fun v D h => .ok (d.put T v) D h) x
def stD (d : DB) (T : Tr V) (D : List AD) : Option H → CR
  | some h => .ok (d.put T (.tu [])) D h
  | none => .no
def frD (T : Tr V) (D : List AD) (h : H) : Option AObj → CR
  | some (.cells _) => .ok T D h
  | _ => .no
/-- an allocation has number 'id', 'nx' is the next one behind it -/
def resP (d : DB) (T : Tr V) (D : List AD) (h : H) (id nx : Pth) (l : List V) : CR := .ok (d.put T (.p id 0)) D ⟨put h.t id (some (.cells l)), nx⟩
def resS (d : DB) (T : Tr V) (D : List AD) (h : H) (id nx : Pth) (l : List V) (n c : Nat) (ex : Bool) (sz : Nat) : CR := .ok (d.put T (.sl id 0 n c ex sz)) D ⟨put h.t id (some (.cells l)), nx⟩
def resM (d : DB) (T : Tr V) (D : List AD) (h : H) (id nx : Pth) : CR := .ok (d.put T (.m id)) D ⟨put h.t id (some (.mx [] [] 0)), nx⟩
def resD (d : DB) (T : Tr V) (D : List AD) (h : H) (id nx : Pth) (x : Res) : CR :=
  Res.rec (motive := fun _ => CR) .no (fun v => .ok (d.put T v) D h) (resP d T D h id nx) (resS d T D h id nx) (resM d T D h id nx)
    (fun i off l => stD d T D (wrCells h i off l)) (fun i v => frD (d.put T v) D h (h.t.get i)) x
def oQ (q : QB) (d : DB) : OB := ⟨fun _ _ T D h => resD d T D h h.n (Pth.succ h.n) (q.f T h)⟩
def oK (k : KB) (d : DB) : OB := ⟨fun r fr T D h => kD d T (k.f r fr T D h)⟩
def oC (E : Env) (o : Oper) : Bool → OB
  | true => oK (kB E o.op) (dB o.dst)
  | false => oQ (qB E o.op) (dB o.dst)
/-- a guard: what it yielded -/
inductive GR where
  | no
  | yes
  | skip
structure GB where
  f : Tr V → GR
def gBool : Bool → GR
  | true => .yes
  | false => .skip
def gV (want : Bool) : Option V → GR
  | some (.b x) => gBool (bbeq x want)
  | some (.tu []) => .skip
  | _ => .no
def gDst (want : Bool) : Option Oper → GB
  | some q => match q.dst with
    | some d => ⟨fun T => gV want (T.get (Pth.of d))⟩
    | none => ⟨fun _ => .no⟩
  | none => ⟨fun _ => .no⟩
def gB (ops : List Oper) : Option (Nat × Bool) → GB
  | none => ⟨fun _ => .yes⟩
  | some (j, want) => gDst want (nth ops j)
def gO (b : OB) (d : DB) (r : Rc) (fr : FrI) (T : Tr V) (D : List AD) (h : H) (x : GR) : CR :=
  GR.rec (motive := fun _ => CR) .no (b.f r fr T D h) (.ok (d.put T (.tu [])) D h) x
def oG (g : GB) (b : OB) (d : DB) : OB := ⟨fun r fr T D h => gO b d r fr T D h (g.f T)⟩
def oNo : OB := ⟨fun _ _ _ _ _ => .no⟩
def okDst (N : Nat) : Option Nat → Bool
  | none => true
  | some d => Nat.blt d N
def oB1 (E : Env) (ops : List Oper) (o : Oper) : OB :=
  match o.guard with
  | none => oC E o (isC o.op)
  | some _ => oG (gB ops o.guard) (oC E o (isC o.op)) (dB o.dst)
def oB2 (b : OB) : Bool → OB
  | true => b
  | false => oNo
def oB (E : Env) (N : Nat) (ops : List Oper) (o : Oper) : OB := oB2 (oB1 E ops o) (okDst N o.dst)
def andO (b : OB) (r : Rc) (fr : FrI) (x : CR) : CR := CR.rec (motive := fun _ => CR) .no (b.f r fr) x
def seqO (a b : OB) : OB := ⟨fun r fr T D h => andO b r fr (a.f r fr T D h)⟩
def opsB (E : Env) (N : Nat) (ops : List Oper) : List Oper → OB
  | [] => ⟨fun _ _ T D h => .ok T D h⟩
  | o :: l => seqO (oB E N ops o) (opsB E N ops l)
def okDsts (N : Nat) : List Oper → Bool
  | [] => true
  | o :: l => and (okDst N o.dst) (okDsts N l)

/-! ## regions that draw -/
def edgeBinds (e : Edge) : Bool :=
  match e.ground with
  | .textOnly _ => false
  | .gcOnly _ => false
  | _ => true
def nthD (l : List Nat) (k : Nat) : Nat := orN 0 (nth l k)
def maskOf (prev : List Nat) (n : Nat) : List Edge → Nat → Nat
  | [], m => m
  | e :: l, m => match and (edgeBinds e) (Nat.blt e.on n) with
    | true => maskOf prev n l (Nat.lor m (Nat.lor (Nat.shiftLeft 1 e.on) (nthD prev (Nat.sub n (Nat.succ e.on)))))
    | false => maskOf prev n l m
/-- masks, the last first -/
def masksR : List Oper → Nat → List Nat → List Nat
  | [], _, acc => acc
  | o :: l, n, acc => masksR l (Nat.succ n) (maskOf acc n o.after.toList 0 :: acc)
def rev {α : Type} : List α → List α → List α
  | [], acc => acc
  | x :: l, acc => rev l (x :: acc)
def bit (m k : Nat) : Bool := Nat.beq (Nat.land (Nat.shiftRight m k) 1) 1

structure PO where
  ix : Nat
  op : Oper
  msk : Nat
def zipP : List Oper → List Nat → Nat → List PO
  | o :: l, m :: r, k => ⟨k, o, m⟩ :: zipP l r (Nat.succ k)
  | _, _, _ => []
def splitC (p : PO) (x : List PO × List PO) : Bool → List PO × List PO
  | true => (p :: x.1, x.2)
  | false => (x.1, p :: x.2)
/-- those whose bit is set, and those whose bit is not -/
def splitM (m : Nat) : List PO → List PO × List PO
  | [] => ([], [])
  | p :: l => splitC p (splitM m l) (bit m p.ix)
/-- the order in which we go: each call's predecessors, the call -/
def orderP : List PO → List PO → List PO
  | [], left => left
  | p :: l, left => match isD p.op.op with
    | false => orderP l left
    | true => match splitM (Nat.lor p.msk (Nat.shiftLeft 1 p.ix)) left with
      | (a, b) => app a (orderP l b)
def planOf (ops : List Oper) : List PO :=
  orderP (zipP ops (rev (masksR ops 0 []) []) 0) (zipP ops (rev (masksR ops 0 []) []) 0)

inductive FP where
  | no
  | rd (i : Pth)
  | wt
  | ins (i : Pth) (k v : V)
structure FB where
  f : Tr V → FP
def fNo : FB := ⟨fun _ => .no⟩
def fP : Option V → FP
  | some (.p i _) => .rd i
  | _ => .no
def fM : Option V → FP
  | some (.m i) => .rd i
  | _ => .no
def fS : Option V → FP
  | some (.sl i _ _ _ _ _) => .rd i
  | _ => .no
def fLen : List Operand → FB
  | [x] => ⟨fun T => fM ((aB x).f T)⟩
  | _ => fNo
def fCall (args : List Operand) : Callee → FB
  | .builtin .len => fLen args
  | _ => fNo
def insK (i : Pth) (k v : V) : Bool → FP
  | true => .ins i k v
  | false => .no
def insF (kd : TypeDesc) : Option V → Option V → Option V → FP
  | some (.m i), some k, some v => insK i k v (keyT k kd)
  | _, _, _ => .no
def fIn2 (m k v : AB) : Option TyI → FB
  | some kt => ⟨fun T => insF kt.ud (m.f T) (k.f T) (v.f T)⟩
  | none => fNo
def fIn (E : Env) (m k v : AB) : Option TyI → FB
  | some ti => match ti.ud with
    | .map kt _ => fIn2 m k v (E.tt kt)
    | _ => fNo
  | none => fNo
/-- the object that an operation reads -/
def fB (E : Env) : Op → FB
  | .insert t m k v => fIn E (aB m) (aB k) (aB v) (E.tt t)
  | .load _ a => ⟨fun T => fP ((aB a).f T)⟩
  | .store _ _ _ => ⟨fun _ => .wt⟩
  | .lookup _ x _ _ => ⟨fun T => fM ((aB x).f T)⟩
  | .convert _ _ x => ⟨fun T => fS ((aB x).f T)⟩
  | .slice _ x _ _ _ => ⟨fun T => fP ((aB x).f T)⟩
  | .call c => fCall c.args.toList c.callee
  | _ => fNo
/-- a store: whose, where, how much; or a map's new entry: its key -/
structure WF where
  k : Nat
  i : Pth
  key : Option V
  off : Nat
  n : Nat
def apK (x y : WF) : Option V → Option V → Bool
  | none, none => or (Nat.ble (Nat.add x.off x.n) y.off) (Nat.ble (Nat.add y.off y.n) x.off)
  | some a, some b => and (sameS a b) (not (V.beq a b))
  | _, _ => false
def apart (x y : WF) : Bool := or (not (Pth.beq x.i y.i)) (apK x y x.key y.key)
/-- a key that none of these entries has -/
def newK (k : V) : List (V × V) → Bool
  | [] => true
  | (a, _) :: l => and (and (sameS k a) (not (V.beq k a))) (newK k l)
def inNs (i : Pth) : List Pth → Bool
  | [] => false
  | j :: l => or (Pth.beq i j) (inNs i l)
/-- a store is apart from the stores that are not ordered before it -/
def allApart (msk : Nat) (x : WF) : List WF → Bool
  | [] => true
  | y :: l => and (or (bit msk y.k) (apart x y)) (allApart msk x l)
/-- no store that is not ordered before is at this object -/
def noW (msk : Nat) (i : Pth) : List WF → Bool
  | [] => true
  | y :: l => and (or (bit msk y.k) (not (Pth.beq i y.i))) (noW msk i l)
/-- no read that is not ordered before is of this object -/
def noRd (msk : Nat) (i : Pth) : List (Nat × Pth) → Bool
  | [] => true
  | (k, j) :: l => and (or (bit msk k) (not (Pth.beq i j))) (noRd msk i l)
def isNone {α : Type} : Option α → Bool
  | none => true
  | some _ => false
/-- an object is in none of these heaps -/
def freshIn (i : Pth) : List (Nat × H) → Bool
  | [] => true
  | (_, h) :: l => and (isNone (h.t.get i)) (freshIn i l)
/-- the temporaries that an operation looks at -/
def tmpsOf : List Operand → List Nat
  | [] => []
  | .tmp t :: l => t :: tmpsOf l
  | _ :: l => tmpsOf l
def gName (q : Option Oper) (l : List Nat) : List Nat :=
  match q with
  | some o => match o.dst with
    | some d => d :: l
    | none => l
  | none => l
def gNames (ops : List Oper) (l : List Nat) : Option (Nat × Bool) → List Nat
  | none => l
  | some (j, _) => gName (nth ops j) l
def namesOf (ops : List Oper) (o : Oper) : List Nat := gNames ops (tmpsOf o.op.operands.toList) o.guard
def selV (n : Nat) (S : Tr V) : Option V → Tr V
  | some v => Tr.put (Pth.of n) S (some v)
  | none => S
/-- the trie of just these temporaries -/
def sel (T : Tr V) : List Nat → Tr V → Tr V
  | [], S => S
  | n :: l, S => sel T l (selV n S (T.get (Pth.of n)))
/-- the heap of one object -/
def selH (i : Pth) (h : H) : H := ⟨put .e i (h.t.get i), .z⟩
def noH : H := ⟨.e, .z⟩
def mem (n : Nat) : List Nat → Bool
  | [] => false
  | m :: l => or (Nat.beq n m) (mem n l)
def clashD (d : Option Nat) (l : List Nat) : Bool :=
  match d with
  | some d => mem d l
  | none => false
def sameD : Option Nat → Option Nat → Bool
  | some d, some e => Nat.beq d e
  | _, _ => false
/-- one operation of a region that draws -/
structure DO where
  ix : Nat
  msk : Nat
  isk : Bool
  nm : List Nat
  dst : Option Nat
  g : GB
  q : QB
  k : KB
  d : DB
  fp : FB
/-- x is ahead of y in the plan: do they stay apart, unless they are in order? -/
def sep2 (x y : DO) : Bool := or (bit y.msk x.ix) (and (not (clashD x.dst y.nm)) (and (not (clashD y.dst x.nm)) (not (sameD x.dst y.dst))))
def sep1 (x : DO) : List DO → Bool
  | [] => true
  | y :: l => and (sep2 x y) (sep1 x l)
def sepB : List DO → Bool
  | [] => true
  | x :: l => and (sep1 x l) (sepB l)
def backE (n : Nat) : List Edge → Bool
  | [] => true
  | e :: l => and (Nat.blt e.on n) (backE n l)
/-- all edges lead back -/
def backB : List Oper → Nat → Bool
  | [], _ => true
  | o :: l, n => and (backE n o.after.toList) (backB l (Nat.succ n))
def plus1 (n k : Nat) : Nat := Nat.lor n (Nat.shiftLeft 1 k)
/-- does an edge bind where the text's order binds (or the compiler's)? -/
def edgeIn (tx : Bool) (e : Edge) : Bool :=
  match e.ground with
  | .textOnly _ => tx
  | .gcOnly _ => not tx
  | _ => true
def edgesIn (tx : Bool) (m : Nat) : List Edge → Bool
  | [] => true
  | e :: l => and (or (not (edgeIn tx e)) (bit m e.on)) (edgesIn tx m l)
def addIf (m n : Nat) : Bool → Nat
  | true => plus1 m n
  | false => m
def pass (tx : Bool) : List Oper → Nat → Nat → Nat
  | [], _, m => m
  | o :: l, n, m => pass tx l (Nat.succ n) (addIf m n (edgesIn tx m o.after.toList))
def passes (tx : Bool) (ops : List Oper) : Nat → Nat → Nat
  | 0, m => m
  | k + 1, m => passes tx ops k (pass tx ops 0 m)
def fullM (n m : Nat) : Bool := Nat.beq m (Nat.sub (Nat.shiftLeft 1 n) 1)
/-- no operation waits for ever, in neither order -/
def topoB (ops : List Oper) : Bool := and (fullM (len ops) (passes true ops 3 0)) (fullM (len ops) (passes false ops 3 0))
def doB (E : Env) (ops : List Oper) (p : PO) : DO :=
  ⟨p.ix, p.msk, isD p.op.op, namesOf ops p.op, p.op.dst, gB ops p.op.guard, qB E p.op.op, kB E p.op.op, dB p.op.dst, fB E p.op.op⟩
def dosB (E : Env) (ops : List Oper) : List PO → List DO
  | [] => []
  | p :: l => doB E ops p :: dosB E ops l
def sameR (v : V) : Res → Bool
  | .val w => V.beq v w
  | _ => false
/-- is a read the same in the heaps ahead of calls that are not ordered before it? -/
def sameIn (q : QB) (msk : Nat) (S : Tr V) (i : Pth) (v : V) : List (Nat × H) → Bool
  | [] => true
  | (k, h) :: l => and (or (bit msk k) (sameR v (q.f S (selH i h)))) (sameIn q msk S i v l)
/-- all calls ahead are ordered before -/
def allBefore (msk : Nat) : List (Nat × H) → Bool
  | [] => true
  | (k, _) :: l => and (bit msk k) (allBefore msk l)
structure DS where
  T : Tr V
  D : List AD
  h : H
  hs : List (Nat × H)
  rs : List (Nat × Pth)
  ws : List WF
  ns : List Pth
  dn : Nat
inductive DRes where
  | no
  | ok (s : DS)
def dIf (x : DRes) : Bool → DRes
  | true => x
  | false => .no
/-- one bit set within another -/
def within (a b : Nat) : Bool := Nat.beq (Nat.land a b) a
def dKR (x : DO) (s : DS) : DR → DRes
  | .ok v D h => .ok ⟨x.d.put s.T v, D, h, (x.ix, s.h) :: s.hs, s.rs, s.ws, [], plus1 s.dn x.ix⟩
  | .no => .no
def dCall (x : DO) (r : Rc) (fr : FrI) (S : Tr V) (s : DS) : Bool → DRes
  | true => dKR x s (x.k.f r fr S s.D s.h)
  | false => .no
/-- an operation that neither reads nor writes memory -/
def dNw (x : DO) (id : Pth) (s : DS) (v : V) (o : AObj) : DRes :=
  dIf (.ok ⟨x.d.put s.T v, s.D, ⟨put s.h.t id (some o), s.h.n⟩, s.hs, s.rs, s.ws, id :: s.ns, plus1 s.dn x.ix⟩) (and (freshIn id s.hs) (and (noRd 0 id s.rs) (noW 0 id s.ws)))
def dNo (x : DO) (id : Pth) (s : DS) : Res → DRes
  | .val v => .ok ⟨x.d.put s.T v, s.D, s.h, s.hs, s.rs, s.ws, s.ns, plus1 s.dn x.ix⟩
  | .newp l => dNw x id s (.p id 0) (.cells l)
  | .news l n c ex sz => dNw x id s (.sl id 0 n c ex sz) (.cells l)
  | .newm => dNw x id s (.m id) (.mp [])
  | _ => .no
def dRd (x : DO) (S : Tr V) (i : Pth) (s : DS) : Res → DRes
  | .val v => dIf (.ok ⟨x.d.put s.T v, s.D, s.h, s.hs, (x.ix, i) :: s.rs, s.ws, s.ns, plus1 s.dn x.ix⟩) (and (noW x.msk i s.ws) (sameIn x.q x.msk S i v s.hs))
  | _ => .no
def dWr2 (x : DO) (s : DS) (wf : WF) : Option H → DRes
  | some h => .ok ⟨x.d.put s.T (.tu []), s.D, h, s.hs, s.rs, wf :: s.ws, s.ns, plus1 s.dn x.ix⟩
  | none => .no
/-- all calls ahead are ordered before, or the object is laid behind them all -/
def hsOK (msk : Nat) (i : Pth) (s : DS) : Bool := or (allBefore msk s.hs) (inNs i s.ns)
def dWr (x : DO) (s : DS) : Res → DRes
  | .st i off l => dIf (dWr2 x s ⟨x.ix, i, none, off, len l⟩ (wrCells s.h i off l)) (and (hsOK x.msk i s) (and (noRd x.msk i s.rs) (allApart x.msk ⟨x.ix, i, none, off, len l⟩ s.ws)))
  | _ => .no
def dIn2 (x : DO) (s : DS) (i : Pth) (k v : V) (es : List (V × V)) : Bool → DRes
  | true => .ok ⟨x.d.put s.T (.tu []), s.D, ⟨put s.h.t i (some (.mp (app es [(k, v)]))), s.h.n⟩, s.hs, s.rs, ⟨x.ix, i, some k, 0, 0⟩ :: s.ws, s.ns, plus1 s.dn x.ix⟩
  | false => .no
def dIn (x : DO) (s : DS) (i : Pth) (k v : V) : Option AObj → DRes
  | some (.mp es) => dIn2 x s i k v es (and (and (hsOK x.msk i s) (newK k es)) (and (noRd x.msk i s.rs) (allApart 0 ⟨x.ix, i, some k, 0, 0⟩ s.ws)))
  | _ => .no
def dFp (x : DO) (id : Pth) (S : Tr V) (s : DS) : FP → DRes
  | .no => dNo x id s (x.q.f S noH)
  | .rd i => dRd x S i s (x.q.f S (selH i s.h))
  | .wt => dWr x s (x.q.f S noH)
  | .ins i k v => dIn x s i k v (s.h.t.get i)
def dDo (x : DO) (id : Pth) (r : Rc) (fr : FrI) (S : Tr V) (s : DS) : Bool → DRes
  | true => dCall x r fr S s (within s.dn x.msk)
  | false => dFp x id S s (x.fp.f S)
def dG (x : DO) (id : Pth) (r : Rc) (fr : FrI) (S : Tr V) (s : DS) : GR → DRes
  | .yes => dDo x id r fr S s x.isk
  | .skip => .ok ⟨x.d.put s.T (.tu []), s.D, s.h, s.hs, s.rs, s.ws, s.ns, plus1 s.dn x.ix⟩
  | .no => .no
def dOne (x : DO) (id : Pth) (r : Rc) (fr : FrI) (S : Tr V) (s : DS) : Bool → DRes
  | true => dG x id r fr S s (x.g.f S)
  | false => .no
def dAnd (k : DS → DRes) : DRes → DRes
  | .ok s => k s
  | .no => .no
def dRun (N0 : Pth) (r : Rc) (fr : FrI) : List DO → DS → DRes
  | [], s => .ok s
  | x :: l, s => dAnd (dRun N0 r fr l) (dOne x (Pth.adv N0 x.ix) r fr (sel s.T x.nm .e) s (and (within x.msk s.dn) (not (bit s.dn x.ix))))
def dEnd (n : Nat) : DRes → CR
  | .ok s => match Nat.beq s.dn (Nat.sub (Nat.shiftLeft 1 n) 1) with
    | true => .ok s.T s.D s.h
    | false => .no
  | .no => .no
structure LDO where
  l : List DO
def ldo (E : Env) (ops : List Oper) : LDO := ⟨dosB E ops (planOf ops)⟩
def drawB (x : LDO) (n : Nat) : OB := ⟨fun r fr T D h => dEnd n (dRun h.n r fr x.l ⟨T, D, ⟨h.t, Pth.adv h.n n⟩, [], [], [], [], 0⟩)⟩
def drawOK (E : Env) (N : Nat) (ops : List Oper) (x : LDO) : Bool := and (okDsts N ops) (and (or (backB ops 0) (topoB ops)) (sepB x.l))

/-! ## code -/
structure CB where
  f : Rc → FrI → Tr V → List AD → H → XR
def xR (x : CR) : XR := CR.rec (motive := fun _ => XR) .no (fun T D h => .ok .norm T D h) x
def regB (E : Env) (N : Nat) (ops : List Oper) : Bool → OB
  | true => oB2 (drawB (ldo E ops) (len ops)) (drawOK E N ops (ldo E ops))
  | false => opsB E N ops ops
def cReg (b : OB) : CB := ⟨fun r fr T D h => xR (b.f r fr T D h)⟩
def andX (b : CB) (r : Rc) (fr : FrI) (T : Tr V) (D : List AD) (h : H) (x : Ex) : XR :=
  Ex.rec (motive := fun _ => XR) (b.f r fr T D h) (fun j => .ok (.exit j) T D h) (.ok .ret T D h) x
def andC (b : CB) (r : Rc) (fr : FrI) (x : XR) : XR := XR.rec (motive := fun _ => XR) .no (fun x T D h => andX b r fr T D h x) x
def cSeq (a b : CB) : CB := ⟨fun r fr T D h => andC b r fr (a.f r fr T D h)⟩
def condX (a b : CB) (r : Rc) (fr : FrI) (T : Tr V) (D : List AD) (h : H) : Option V → XR
  | some (.b true) => a.f r fr T D h
  | some (.b false) => b.f r fr T D h
  | _ => .no
def cCond (x : AB) (a b : CB) : CB := ⟨fun r fr T D h => condX a b r fr T D h (x.f T)⟩
def exitX (j : Nat) (T : Tr V) (D : List AD) (h : H) : Bool → XR
  | true => .ok .norm T D h
  | false => .ok (.exit j) T D h
def blockX (id : Nat) : XR → XR
  | .ok (.exit j) T D h => exitX j T D h (Nat.beq j id)
  | x => x
def cBlock (id : Nat) (a : CB) : CB := ⟨fun r fr T D h => blockX id (a.f r fr T D h)⟩
def loopX (r : Rc) (fr : FrI) (a : Code) : XR → XR
  | .ok .norm T D h => r.loop fr a T D h
  | x => x
def cLoop (a : Code) (b : CB) : CB := ⟨fun r fr T D h => loopX r fr a (b.f r fr T D h)⟩
def pendX (T : Tr V) (D : List AD) (h : H) : Option Code → XR
  | none => .ok .norm T D h
  | some (.exit id) => .ok (.exit id) T D h
  | some .ret => .ok .ret T D h
  | _ => .no
def rfEnd2 (l : Pth) (T : Tr V) (D : List AD) (h : H) : Option AObj → XR
  | some (.lp _ _ _ _ _ _ _ pend) => pendX T D ⟨put h.t l none, h.n⟩ pend
  | _ => .no
def rfEnd (l d : Pth) (T : Tr V) (D : List AD) : VR → XR
  | .ok _ h => rfEnd2 l T (.coll d :: D) h (h.t.get l)
  | .no => .no
def rfH (ps : List Nat) (asg body : Code) (fn nt : Nat) (T : Tr V) (h : H) : H :=
  ⟨put (put h.t h.n (some .df)) (Pth.succ h.n) (some (.lp T ps asg body fn nt 0 none)), Pth.succ (Pth.succ h.n)⟩
def rfGo (r : Rc) (fr : FrI) (ps : List Nat) (asg body : Code) (T : Tr V) (D : List AD) (h : H) (g : Nat) (a cp : List V) : Bool → XR
  | false => rfEnd (Pth.succ h.n) h.n T D (r.call false g (app a (app [.fy (Pth.succ h.n)] cp)) (rfH ps asg body fr.fn fr.nt T h))
  | true => .no
def rfX (r : Rc) (fr : FrI) (ps : List Nat) (asg body : Code) (T : Tr V) (D : List AD) (h : H) : Option V → XR
  | some (.fn g a cp) => rfGo r fr ps asg body T D h g a cp fr.rnd
  | _ => .no
def cRf (f : AB) (ps : List Nat) (asg body : Code) : Bool → CB
  | true => ⟨fun r fr T D h => rfX r fr ps asg body T D h (f.f T)⟩
  | false => ⟨fun _ _ _ _ _ => .no⟩
def allLt (N : Nat) : List Nat → Bool
  | [] => true
  | k :: l => and (Nat.blt k N) (allLt N l)

def cc (E : Env) (N : Nat) : Code → CB
  | .skip => ⟨fun _ _ T D h => .ok .norm T D h⟩
  | .label _ => ⟨fun _ _ T D h => .ok .norm T D h⟩
  | .region _ ops draw => cReg (regB E N ops.toList draw)
  | .seq a b => cSeq (cc E N a) (cc E N b)
  | .cond x a b => cCond (aB x) (cc E N a) (cc E N b)
  | .block id a => cBlock id (cc E N a)
  | .loop a => cLoop a (cc E N a)
  | .exit id => ⟨fun _ _ T D h => .ok (.exit id) T D h⟩
  | .ret => ⟨fun _ _ T D h => .ok .ret T D h⟩
  | .scope a => cc E N a
  | .rangeFunc f ps asg body => cRf (aB f) ps.toList asg body (allLt N ps.toList)
  | _ => ⟨fun _ _ _ _ _ => .no⟩

def setArgs : List V → Nat → Tr V → Tr V
  | [], _, T => T
  | v :: l, k, T => setArgs l (Nat.succ k) (Tr.put (Pth.of k) T (some v))
def setPars : List Nat → List V → Tr V → Option (Tr V)
  | [], [], T => some T
  | k :: ks, v :: l, T => setPars ks l (Tr.put (Pth.of k) T (some v))
  | _, _, _ => none

def resL (h : H) (i : Pth) (off : Nat) : Option TyI → Option V
  | some ti => match ti.ag with
    | true => agO (rdCells h i off ti.size)
    | false => rdCell h i off
  | none => none
def resPt (h : H) (ti : Option TyI) : Option V → Option V
  | some (.p i off) => resL h i off ti
  | _ => none
def evResult (E : Env) (T : Tr V) (h : H) : ResultVar → Option V
  | .tmp t => T.get (Pth.of t)
  | .cell a t => resPt h (E.tt t) (T.get (Pth.of a))
def cons2 : Option V → Option (List V) → Option (List V)
  | some v, some r => some (v :: r)
  | _, _ => none
def evResults (E : Env) (T : Tr V) (h : H) : List ResultVar → Option (List V)
  | [] => some []
  | x :: l => cons2 (evResult E T h x) (evResults E T h l)

def hOf : VR → Option H
  | .ok _ h => some h
  | .no => none
def isDf : Option AObj → Bool
  | some .df => true
  | _ => false
def unwindD (r : Rc) : List AD → H → Option H
  | [], h => some h
  | .coll d :: l, h => match isDf (h.t.get d) with
    | true => unwindD r l ⟨put h.t d none, h.n⟩
    | false => none
  | .fn f vs :: l, h => match r.call true f vs h with
    | .ok _ h' => unwindD r l h'
    | .no => none
def tupV : List V → V
  | [v] => v
  | l => .tu l
def retV (h : H) : Option (List V) → VR
  | some l => .ok (tupV l) h
  | none => .no
def retH (E : Env) (rs : List ResultVar) (T : Tr V) : Option H → VR
  | some h => retV h (evResults E T h rs)
  | none => .no
def retX (E : Env) (r : Rc) (rs : List ResultVar) : XR → VR
  | .ok .norm T D h => retH E rs T (unwindD r D h)
  | .ok .ret T D h => retH E rs T (unwindD r D h)
  | _ => .no
structure FnB where
  f : Rc → Bool → List V → H → VR
def fnB2 (E : Env) (f N : Nat) (rs : List ResultVar) : Option Code → FnB
  | some body => ⟨fun r dfr vs h => retX E r rs ((cc E N body).f r ⟨f, N, dfr, false⟩ (setArgs vs 0 .e) [] h)⟩
  | none => ⟨fun _ _ _ _ => .no⟩
def fnB (E : Env) (f : Nat) : Option Func → FnB
  | some F => fnB2 E f F.ntmps F.results.toList F.body
  | none => ⟨fun _ _ _ _ => .no⟩
def callF (E : Env) (r : Rc) (dfr : Bool) (f : Nat) (vs : List V) (h : H) : VR := (fnB E f (E.fn f)).f r dfr vs h
def loopF (E : Env) (r : Rc) (fr : FrI) (a : Code) (T : Tr V) (D : List AD) (h : H) : XR := loopX r fr a ((cc E fr.nt a).f r fr T D h)
def rndEnd (l : Pth) (T : Tr V) (ps : List Nat) (asg body : Code) (fn nt : Nat) : XR → VR
  | .ok .norm _ [] h => .ok (.b true) ⟨put h.t l (some (.lp T ps asg body fn nt 0 none)), h.n⟩
  | .ok (.exit id) _ [] h => .ok (.b false) ⟨put h.t l (some (.lp T ps asg body fn nt 1 (some (.exit id)))), h.n⟩
  | .ok .ret _ [] h => .ok (.b false) ⟨put h.t l (some (.lp T ps asg body fn nt 1 (some .ret))), h.n⟩
  | _ => .no
def rndGo (E : Env) (r : Rc) (l : Pth) (T : Tr V) (ps : List Nat) (asg body : Code) (fn nt : Nat) (h : H) : Option (Tr V) → VR
  | some T' => rndEnd l T ps asg body fn nt (andC (cc E nt body) r ⟨fn, nt, false, true⟩ ((cc E nt asg).f r ⟨fn, nt, false, true⟩ T' [] h))
  | none => .no
def rndO (E : Env) (r : Rc) (l : Pth) (vs : List V) (h : H) : Option AObj → VR
  | some (.lp T ps asg body fn nt 0 _) => rndGo E r l T ps asg body fn nt ⟨put h.t l none, h.n⟩ (setPars ps vs T)
  | _ => .no
def roundF (E : Env) (r : Rc) (l : Pth) (vs : List V) (h : H) : VR := rndO E r l vs h (h.t.get l)

def rc (E : Env) : Nat → Rc
  | 0 => ⟨fun _ _ _ _ => .no, fun _ _ _ _ _ => .no, fun _ _ _ => .no⟩
  | n + 1 => ⟨callF E (rc E n), loopF E (rc E n), roundF E (rc E n)⟩

inductive BT (α : Type) where
  | leaf
  | node (k : Nat) (v : α) (l r : BT α)
def BT.find {α : Type} : BT α → Nat → Option α
  | .leaf, _ => none
  | .node k v l r, n => match Nat.beq n k with
    | true => some v
    | false => match Nat.blt n k with
      | true => find l n
      | false => find r n
def zO : Option Value → Option V
  | some z => ofVal z
  | none => none
def plO : Option Bool → Bool
  | some b => b
  | none => false
def tyOf2 (i : TypeInfo) (pl : Bool) : Option TypeInfo → Option TyI
  | some j => some ⟨i.size, i.bytes, isAggD j.desc, zO i.zero, j.desc, i, pl⟩
  | none => none
def tyOf1 (b : BT TypeInfo) (pl : Bool) : Option TypeInfo → Option TyI
  | some i => match i.desc with
    | .named _ u => tyOf2 i pl (b.find u)
    | _ => tyOf2 i pl (some i)
  | none => none
def tyOf (b : BT TypeInfo) (pl : BT Bool) (t : Nat) : Option TyI := tyOf1 b (plO (pl.find t)) (b.find t)
end
end Go.Ev
