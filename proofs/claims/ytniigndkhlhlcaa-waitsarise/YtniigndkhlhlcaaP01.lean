import GoSem.Dispatch
set_option linter.all false
/- The abstract evaluator 'Ev': data, memory and operations as pure Lean functions (no world). Own work. -/
namespace Go.Ev
open Go

/-! ### types of plain data -/
inductive Ty where
  | bool | int (k : IntKind) | str | fn | sl (e : Ty) | ar (n : Nat) (e : Ty) | pair (a b : Ty)
  deriving Repr, Inhabited

def kindNo : IntKind → Nat
  | .i8 => 0 | .i16 => 1 | .i32 => 2 | .i64 => 3 | .u8 => 4 | .u16 => 5 | .u32 => 6 | .u64 => 7

def Ty.eqb : Ty → Ty → Bool
  | .bool, t => match t with | .bool => true | _ => false
  | .int k, t => match t with | .int j => Nat.beq (kindNo k) (kindNo j) | _ => false
  | .str, t => match t with | .str => true | _ => false
  | .fn, t => match t with | .fn => true | _ => false
  | .sl e, t => match t with | .sl f => e.eqb f | _ => false
  | .ar n e, t => match t with | .ar m f => Nat.beq n m && e.eqb f | _ => false
  | .pair a b, t => match t with | .pair c d => a.eqb c && b.eqb d | _ => false

theorem kindNo_inj {a b : IntKind} (h : Nat.beq (kindNo a) (kindNo b) = true) : a = b := by
  cases a <;> cases b <;> first | rfl | exact absurd h (by decide)

theorem Ty.eqb_eq : ∀ {a b : Ty}, a.eqb b = true → a = b
  | .bool, b, h => by cases b <;> first | rfl | (simp [Ty.eqb] at h)
  | .int k, b, h => by
    cases b <;> first | (simp [Ty.eqb] at h; done) | skip
    rw [kindNo_inj h]
  | .str, b, h => by cases b <;> first | rfl | (simp [Ty.eqb] at h)
  | .fn, b, h => by cases b <;> first | rfl | (simp [Ty.eqb] at h)
  | .sl e, b, h => by
    cases b <;> first | (simp [Ty.eqb] at h; done) | skip
    rw [Ty.eqb_eq (a := e) h]
  | .ar n e, b, h => by
    cases b <;> first | (simp [Ty.eqb] at h; done) | skip
    simp only [Ty.eqb, Bool.and_eq_true] at h
    rw [Nat.eq_of_beq_eq_true h.1, Ty.eqb_eq h.2]
  | .pair a b, t, h => by
    cases t <;> first | (simp [Ty.eqb] at h; done) | skip
    simp only [Ty.eqb, Bool.and_eq_true] at h
    rw [Ty.eqb_eq h.1, Ty.eqb_eq h.2]

theorem Ty.eqb_refl : ∀ (a : Ty), a.eqb a = true
  | .bool | .str | .fn => rfl
  | .int k => by cases k <;> rfl
  | .sl e => Ty.eqb_refl e
  | .ar n e => by simp [Ty.eqb, Ty.eqb_refl e, Nat.beq_refl]
  | .pair a b => by simp [Ty.eqb, Ty.eqb_refl a, Ty.eqb_refl b]

instance : DecidableEq Ty := fun a b => if h : a.eqb b = true then .isTrue (Ty.eqb_eq h) else .isFalse fun e => h (e ▸ Ty.eqb_refl a)

@[reducible] def Ty.El : Ty → Type
  | .bool => Bool
  | .int _ => Int
  | .str => List UInt8
  | .fn => Option Nat
  | .sl e => List e.El
  | .ar _ e => List e.El
  | .pair a b => a.El × b.El

def Ty.width : Ty → Nat
  | .ar n e => n * e.width
  | .pair a b => a.width + b.width
  | _ => 1

def Ty.dflt : (t : Ty) → t.El
  | .bool => false
  | .int _ => (0 : Int)
  | .str => ([] : List UInt8)
  | .fn => (none : Option Nat)
  | .sl _ => []
  | .ar n e => List.replicate n e.dflt
  | .pair a b => (a.dflt, b.dflt)

def beqL {α : Type} (f : α → α → Bool) : List α → List α → Bool
  | [], [] => true
  | x :: xs, y :: ys => f x y && beqL f xs ys
  | _, _ => false

def Ty.beq : (t : Ty) → t.El → t.El → Bool
  | .bool => fun (x y : Bool) => x == y
  | .int _ => fun (x y : Int) => x == y
  | .str => fun (x y : List UInt8) => x == y
  | .fn => fun _ _ => false
  | .sl _ => fun _ _ => false
  | .ar _ e => fun xs ys => beqL e.beq xs ys
  | .pair a b => fun x y => a.beq x.1 y.1 && b.beq x.2 y.2

/-- May '==' be asked of it? -/
def Ty.cmp : Ty → Bool
  | .bool | .int _ | .str => true
  | .fn | .sl _ => false
  | .ar _ e => e.cmp
  | .pair a b => a.cmp && b.cmp

/-- What a slice shows of its array: all from 'off' on, or 'len' elements from there. -/
inductive View where
  | tail (off : Nat) | sub (off len : Nat)
  deriving DecidableEq, Repr, Inhabited

inductive Leaf where
  | undef
  | bool (b : Bool)
  | int (k : IntKind) (n : Int)
  | str (s : List UInt8)
  | fn (f : FuncId) (first cap : List Nat)
  | nilfn
  | sl (τ : Ty) (xs : List τ.El) (nil : Option Bool) (lim : Option Nat)
  | nilsl
  | ar (n : Nat) (τ : Ty) (xs : List τ.El)
  | ref (id : Nat) (v : View) (lim : Option Nat)
  /-- A cell of an object: 'off' cells on; with 'ix' (i, w, s): there the i-th element of w cells, s cells on. -/
  | ptr (id off : Nat) (ix : Option (Nat × Nat × Nat))
  | cptr (τ : Ty) (x : τ.El) (off : Nat)
  | nilptr
  | map (id : Nat)
  | nilmap
  deriving Inhabited

def Leaf.width : Leaf → Nat
  | .ar n τ _ => n * τ.width
  | _ => 1

inductive V where
  | one (l : Leaf)
  | agg (ls : List Leaf)
  deriving Inhabited

def V.leaves : V → List Leaf
  | .one l => [l]
  | .agg ls => ls

inductive AV where
  | val (v : V)
  | tup (vs : List V)
  | skip
  | any
  deriving Inhabited

abbrev AV.one (l : Leaf) : AV := .val (.one l)
abbrev AV.agg (ls : List Leaf) : AV := .val (.agg ls)
abbrev AV.undef : AV := .any

inductive Obj where
  | box (ro : Bool) (ls : List Leaf)
  | arr (τ : Ty) (xs : List τ.El) (ro : Bool)
  | raw (w : Nat) (els : List (List Leaf))
  | map (ro : Bool) (κ τ : Ty) (es : List (κ.El × τ.El))
  | dead
  deriving Inhabited

abbrev Mem := List (Nat × Obj)

def Mem.get (m : Mem) (id : Nat) : Option Obj :=
  match m with
  | [] => none
  | (i, o) :: r => bif Nat.beq i id then some o else Mem.get r id

def Mem.set (m : Mem) (id : Nat) (o : Obj) : Mem :=
  match m with
  | [] => [(id, o)]
  | (i, p) :: r => bif Nat.beq i id then (i, o) :: r else (i, p) :: Mem.set r id o

structure St where
  tmps : List AV
  mem : Mem
  deriving Inhabited

abbrev R := Option (AV × Mem)

@[inline, reducible] def gd (c : Bool) (k : R) : R := cond c k none

/-! ### plain data as leaves -/
def Ty.leaves : (t : Ty) → t.El → List Leaf
  | .bool => fun b => [.bool b]
  | .int k => fun n => [.int k n]
  | .str => fun s => [.str s]
  | .fn => fun f => match f with | none => [.nilfn] | some f => [.fn f [] []]
  | .sl e => fun xs => [.sl e xs none none]
  | .ar n e => fun xs => [.ar n e xs]
  | .pair a b => fun x => a.leaves x.1 ++ b.leaves x.2

def sizeTy (P : Program) (t : TypeId) : Nat := match P.info? t with | some i => i.size | none => 0

def aggD : TypeDesc → Bool
  | .struct _ => true
  | .array _ _ => true
  | _ => false

def aggTy (P : Program) (t : TypeId) : Bool := match P.underlying t with | some d => aggD d | none => false

def mkV (P : Program) (t : TypeId) (ls : List Leaf) : Option V :=
  match P.underlying t with
  | some d => bif aggD d then some (.agg ls) else match ls with | [l] => (bif Nat.beq l.width 1 then some (.one l) else none) | _ => none
  | none => none

/-- The element's type behind a view is read off its first leaves; the rest stays. -/
def Ty.ofLeaves : (t : Ty) → List Leaf → Option (t.El × List Leaf)
  | .bool => fun ls => match ls with | .bool b :: r => some (b, r) | _ => none
  | .int k => fun ls => match ls with | .int k' n :: r => (if k' = k then some (n, r) else none) | _ => none
  | .str => fun ls => match ls with | .str s :: r => some (s, r) | _ => none
  | .fn => fun ls => match ls with | .nilfn :: r => some (none, r) | .fn f [] [] :: r => some (some f, r) | _ => none
  | .sl e => fun ls => match ls with
    | .sl τ xs _ _ :: r => (if h : τ = e then some (h ▸ xs, r) else none)
    | .nilsl :: r => some ([], r)
    | _ => none
  | .ar n e => fun ls => match ls with
    | .ar n' τ xs :: r => (if h : τ = e then (if n' = n then some (h ▸ xs, r) else none) else none)
    | _ => none
  | .pair a b => fun ls => match a.ofLeaves ls with
    | some (x, r) => (match b.ofLeaves r with | some (y, r') => some ((x, y), r') | none => none)
    | none => none

def Ty.read (t : Ty) (ls : List Leaf) : Option t.El := match t.ofLeaves ls with | some (x, []) => some x | _ => none

/-! ### Go's types -/
def pairs : List Ty → Option Ty
  | [] => none
  | [t] => some t
  | t :: r => (pairs r).map (.pair t)

def fieldTys (f : TypeId → Option Ty) : List Field → Option (List Ty)
  | [] => some []
  | x :: r => match f x.type with
    | some t => (fieldTys f r).map (t :: ·)
    | none => none

def tyOfN (P : Program) : Nat → TypeId → Option Ty
  | 0, _ => none
  | n + 1, t =>
    match P.underlying t with
    | some .bool => some .bool
    | some (.int k) => some (.int k)
    | some .string => some .str
    | some (.func _ _ _) => some .fn
    | some (.slice e) => (tyOfN P n e).map .sl
    | some (.array l e) => (tyOfN P n e).map (.ar l)
    | some (.struct fs) => (fieldTys (tyOfN P n) fs.toList).bind pairs
    | _ => none

def tyOf (P : Program) (t : TypeId) : Option Ty := tyOfN P 12 t

/-- The leaves cell by cell (arrays in arrays are left out). -/
def Ty.flat : (t : Ty) → t.El → List Leaf
  | .bool => fun b => [.bool b]
  | .int k => fun n => [.int k n]
  | .str => fun s => [.str s]
  | .fn => fun f => match f with | none => [.nilfn] | some f => [.fn f [] []]
  | .sl e => fun xs => [.sl e xs none none]
  | .ar _ _ => fun _ => [.undef]
  | .pair a b => fun x => a.flat x.1 ++ b.flat x.2

def sameZ1 : Leaf → Value → Bool
  | .bool b, .bool c => b == c
  | .int k n, .int k' n' => decide (k = k') && n == n'
  | .str [], .string s => s.data.toList.isEmpty
  | .nilptr, .pointer none => true
  | .sl _ [] (some true) (some 0), .slice none 0 0 => true
  | .sl _ [] none none, .slice none 0 0 => true
  | .nilsl, .slice none 0 0 => true
  | .nilmap, .map none => true
  | .nilfn, .nilFunc => true
  | _, _ => false
def sameZ : List Leaf → List Value → Bool
  | [], [] => true
  | l :: ls, v :: vs => sameZ1 l v && sameZ ls vs
  | _, _ => false
def zeroLs : List Leaf → List Value → Bool
  | [], [] => true
  | .ar n τ xs :: r, vs => Nat.beq xs.length n && sameZ ((xs.map τ.flat).flatten) (vs.take (n * τ.width)) && zeroLs r (vs.drop (n * τ.width))
  | l :: r, v :: vs => sameZ1 l v && zeroLs r vs
  | _, _ => false

def zeroIs (P : Program) (t : TypeId) (ls : List Leaf) : Bool :=
  match P.info? t with
  | some i => match i.zero with
    | some z => zeroLs ls z.cells.toList
    | none => false
  | none => false

/-- The type of a slice's elements, if width and zero are those that Go's table gives. -/
def elemTy (P : Program) (t : TypeId) : Option Ty :=
  match P.underlying t with
  | some (.slice e) => match tyOf P e with
    | some τ => bif Nat.beq τ.width (sizeTy P e) && Nat.blt 0 τ.width && zeroIs P e (τ.leaves τ.dflt) then some τ else none
    | none => none
  | _ => none

def nilSl (P : Program) (t : TypeId) : Leaf :=
  match elemTy P t with
  | some τ => .sl τ [] (some true) (some 0)
  | none => .nilsl

def fieldZeros (f : TypeId → Option (List Leaf)) : List Field → Option (List Leaf)
  | [] => some []
  | x :: r => match f x.type with
    | some z => (fieldZeros f r).map (z ++ ·)
    | none => none

def zeroN (P : Program) : Nat → TypeId → Option (List Leaf)
  | 0, _ => none
  | n + 1, t =>
    match P.underlying t with
    | some .bool => some [.bool false]
    | some (.int k) => some [.int k 0]
    | some .string => some [.str []]
    | some (.pointer _) => some [.nilptr]
    | some (.slice _) => some [nilSl P t]
    | some (.map _ _) => some [.nilmap]
    | some (.func _ _ _) => some [.nilfn]
    | some (.array l e) => match tyOf P e with
      | some τ => bif Nat.beq τ.width (sizeTy P e) then some [.ar l τ (List.replicate l τ.dflt)] else none
      | none => match zeroN P n e with
        | some z => some ((List.replicate l z).flatten)
        | none => none
    | some (.struct fs) => fieldZeros (zeroN P n) fs.toList
    | _ => none

def zero (P : Program) (t : TypeId) : Option (List Leaf) :=
  match zeroN P 12 t with
  | some ls => bif zeroIs P t ls then some ls else none
  | none => none

/-! ### leaves by the cell -/
def dropW : List Leaf → Nat → Option (List Leaf)
  | ls, 0 => some ls
  | [], _ + 1 => none
  | l :: ls, n + 1 => bif Nat.ble l.width (n + 1) then dropW ls (n + 1 - l.width) else none

def takeW : List Leaf → Nat → Option (List Leaf)
  | _, 0 => some []
  | [], _ + 1 => none
  | l :: ls, n + 1 => bif Nat.ble l.width (n + 1) then (takeW ls (n + 1 - l.width)).map (l :: ·) else none

def widths : List Leaf → Nat
  | [] => 0
  | l :: ls => l.width + widths ls

/-- 'size' cells from 'off' on. -/
def cutW (ls : List Leaf) (off size : Nat) : Option (List Leaf) :=
  match dropW ls off with
  | some r => takeW r size
  | none => none

/-- The leaves with 'new' in the place of as many cells from 'off' on. -/
def putW (ls : List Leaf) (off : Nat) (new : List Leaf) : Option (List Leaf) :=
  match takeW ls off with
  | some a => match dropW ls (off + widths new) with
    | some b => some (a ++ new ++ b)
    | none => none
  | none => none

/-! ### views -/
def View.len {α : Type} (v : View) (xs : List α) : Nat := match v with | .tail 0 => xs.length | .tail o => xs.length - o | .sub _ n => n
def View.off (v : View) : Nat := match v with | .tail o => o | .sub o _ => o
def View.sees {α : Type} (v : View) (xs : List α) : List α := match v with | .tail 0 => xs | .tail o => xs.drop o | .sub o n => (xs.drop o).take n

/-- The room of an object as a slice's base: elements' width, how many. -/
def Obj.row : Obj → Option (Nat × Nat)
  | .arr τ xs _ => some (τ.width, xs.length)
  | .raw w els => some (w, els.length)
  | _ => none
def View.lenN (v : View) (n : Nat) : Nat := match v with | .tail o => n - o | .sub _ k => k

/-! ### freezing: a slice of the call's own array becomes plain data -/
def frzLeaf (m : Mem) : Leaf → Option Leaf
  | .ref id v lim =>
    match m.get id with
    | some (.arr τ xs _) => some (.sl τ (v.sees xs) none lim)
    | _ => none
  | .ptr .. | .map _ | .cptr .. => none
  | .fn f first cap => match first, cap with | [], [] => some (.fn f [] []) | _, _ => none
  | l => some l

def frzLeaves (m : Mem) : List Leaf → Option (List Leaf)
  | [] => some []
  | l :: ls => match frzLeaf m l, frzLeaves m ls with | some x, some xs => some (x :: xs) | _, _ => none

/-- Elements of arrays: slices are frozen, all else stays. -/
def frzSome (m : Mem) (l : Leaf) : Leaf := match l with | .ref .. => (frzLeaf m l).getD l | _ => l

def frzV (m : Mem) : V → Option V
  | .one l => (frzLeaf m l).map .one
  | .agg ls => (frzLeaves m ls).map .agg

def frzVs (m : Mem) : List V → Option (List V)
  | [] => some []
  | v :: vs => match frzV m v, frzVs m vs with | some x, some xs => some (x :: xs) | _, _ => none

def frz (m : Mem) : AV → Option AV
  | .val v => (frzV m v).map .val
  | .tup vs => (frzVs m vs).map .tup
  | _ => none

/-- The plain leaves forget what only this frame knows (nilness and room). -/
def plainLeaf : Leaf → Leaf
  | .sl τ xs _ _ => .sl τ xs none none
  | l => l

/-! ### which objects a value reaches -/
def Leaf.ids : Leaf → List Nat
  | .ref id _ _ | .ptr id _ _ | .map id => [id]
  | .fn _ first cap => first ++ cap
  | _ => []
def leavesIds : List Leaf → List Nat
  | [] => []
  | l :: ls => l.ids ++ leavesIds ls
def AV.ids : AV → List Nat
  | .val v => leavesIds v.leaves
  | .tup vs => go vs
  | _ => []
  where go : List V → List Nat
  | [] => []
  | v :: vs => leavesIds v.leaves ++ go vs
def Obj.ids : Obj → List Nat
  | .box _ ls => leavesIds ls
  | .raw _ els => go els
  | _ => []
  where go : List (List Leaf) → List Nat
  | [] => []
  | l :: ls => leavesIds l ++ go ls

def mem? (n : Nat) : List Nat → Bool
  | [] => false
  | m :: r => Nat.beq m n || mem? n r

/-- The objects reached from 'todo', in the order in which they are found. -/
def reach (m : Mem) : Nat → List Nat → List Nat → List Nat
  | 0, _, acc => acc
  | _ + 1, [], acc => acc
  | n + 1, i :: r, acc =>
    bif mem? i acc then reach m n r acc
    else match m.get i with
      | some o => reach m n (r ++ o.ids) (acc ++ [i])
      | none => reach m n r acc

def idx? (n : Nat) : List Nat → Nat → Option Nat
  | [], _ => none
  | m :: r, k => bif Nat.beq m n then some k else idx? n r (k + 1)

/-- Renaming by a function; a leaf with a name that has none becomes 'undef'. -/
def renIds (ρ : Nat → Option Nat) : List Nat → Option (List Nat)
  | [] => some []
  | i :: r => match ρ i, renIds ρ r with | some j, some s => some (j :: s) | _, _ => none
def Leaf.ren (ρ : Nat → Option Nat) : Leaf → Leaf
  | .ref id v l => match ρ id with | some j => .ref j v l | none => .undef
  | .ptr id o x => match ρ id with | some j => .ptr j o x | none => .undef
  | .map id => match ρ id with | some j => .map j | none => .undef
  | .fn f first cap => match renIds ρ first, renIds ρ cap with | some a, some b => .fn f a b | _, _ => .undef
  | l => l
def renLeaves (ρ : Nat → Option Nat) : List Leaf → List Leaf
  | [] => []
  | l :: ls => l.ren ρ :: renLeaves ρ ls
def V.ren (ρ : Nat → Option Nat) : V → V
  | .one l => .one (l.ren ρ)
  | .agg ls => .agg (renLeaves ρ ls)
def renVs (ρ : Nat → Option Nat) : List V → List V
  | [] => []
  | v :: vs => v.ren ρ :: renVs ρ vs
def AV.ren (ρ : Nat → Option Nat) : AV → AV
  | .val v => .val (v.ren ρ)
  | .tup vs => .tup (renVs ρ vs)
  | v => v
def renAVs (ρ : Nat → Option Nat) : List AV → List AV
  | [] => []
  | v :: vs => v.ren ρ :: renAVs ρ vs
def renEls (ρ : Nat → Option Nat) : List (List Leaf) → List (List Leaf)
  | [] => []
  | l :: ls => renLeaves ρ l :: renEls ρ ls
def Obj.ren (ρ : Nat → Option Nat) : Obj → Obj
  | .box ro ls => .box ro (renLeaves ρ ls)
  | .raw w els => .raw w (renEls ρ els)
  | o => o

/-- The objects of a list of names, renamed: the i-th becomes 'f i'. -/
def pickMem (m : Mem) (ρ : Nat → Option Nat) (f : Nat → Nat) : List Nat → Nat → Mem
  | [], _ => []
  | i :: r, k => match m.get i with
    | some o => (f k, o.ren ρ) :: pickMem m ρ f r (k + 1)
    | none => pickMem m ρ f r (k + 1)

/-- Objects put back under the names that they had. -/
def putBack (m m' : Mem) (ρ : Nat → Option Nat) : List Nat → Nat → Mem
  | [], _ => m
  | i :: r, k => match m'.get k with
    | some o => putBack (m.set i (o.ren ρ)) m' ρ r (k + 1)
    | none => putBack (m.set i .dead) m' ρ r (k + 1)

def reachFuel : Nat := 200
def avsIds : List AV → List Nat
  | [] => []
  | v :: vs => v.ids ++ avsIds vs

/-! ### canonical states (at a loop's head): only live slots, own objects under their canonical names, nil slices as own empty arrays -/
def keep (live : List Nat) : Nat → List AV → List AV
  | _, [] => []
  | i, v :: vs => (bif mem? i live then v else .undef) :: keep live (i + 1) vs

/-- An empty slice without room becomes an array of the call's own; 'n' counts the new ones. -/
def ownLeaf : Nat → Leaf → Leaf × List (Nat × Obj)
  | n, .sl τ [] _ (some 0) => (.ref n (.tail 0) none, [(n, .arr τ [] false)])
  | _, .sl τ xs _ _ => (.sl τ xs none none, [])
  | _, .ref id v _ => (.ref id v none, [])
  | _, l => (l, [])
def ownLeaves : Nat → List Leaf → List Leaf × List (Nat × Obj)
  | _, [] => ([], [])
  | n, l :: ls =>
    let (l', m) := ownLeaf n l
    let (ls', m') := ownLeaves (n + 1) ls
    (l' :: ls', m ++ m')
def ownTmps : Nat → List AV → List AV × List (Nat × Obj)
  | _, [] => ([], [])
  | n, v :: vs =>
    let (vs', m') := ownTmps (n + 100) vs
    match v with
    | .val (.one l) => let (l', m) := ownLeaf n l; (.val (.one l') :: vs', m ++ m')
    | .val (.agg ls) => let (ls', m) := ownLeaves n ls; (.val (.agg ls') :: vs', m ++ m')
    | v => (v :: vs', m')
def ownMem : Nat → Mem → Mem × List (Nat × Obj)
  | _, [] => ([], [])
  | n, (i, o) :: r =>
    let (r', m') := ownMem (n + 100) r
    match o with
    | .box ro ls => let (ls', m) := ownLeaves n ls; ((i, .box ro ls') :: r', m ++ m')
    | o => ((i, o) :: r', m')

def canonBase : Nat := 100000000
def ownBase : Nat := 200000000

/-- The names of the objects that were handed over (below 100): they stay. -/
def given : Mem → List Nat
  | [] => []
  | (i, _) :: r => bif Nat.blt i 100 then i :: given r else given r

/-- A tail of an array that nobody else sees is an array of its own. -/
def countId (n : Nat) : List Nat → Nat
  | [] => 0
  | m :: r => bif Nat.beq m n then countId n r + 1 else countId n r
def trimLeaf (all : List Nat) : Leaf → Leaf × List (Nat × Nat)
  | .ref id (.tail o) none => bif Nat.beq (countId id all) 1 && !Nat.blt id 100 then (.ref id (.tail 0) none, [(id, o)]) else (.ref id (.tail o) none, [])
  | l => (l, [])
def trimLeaves (all : List Nat) : List Leaf → List Leaf × List (Nat × Nat)
  | [] => ([], [])
  | l :: ls =>
    let (l', a) := trimLeaf all l
    let (ls', b) := trimLeaves all ls
    (l' :: ls', a ++ b)
def trimTmps (all : List Nat) : List AV → List AV × List (Nat × Nat)
  | [] => ([], [])
  | v :: vs =>
    let (vs', b) := trimTmps all vs
    match v with
    | .val (.one l) => let (l', a) := trimLeaf all l; (.val (.one l') :: vs', a ++ b)
    | .val (.agg ls) => let (ls', a) := trimLeaves all ls; (.val (.agg ls') :: vs', a ++ b)
    | v => (v :: vs', b)
def trimMem (all : List Nat) : Mem → Mem × List (Nat × Nat)
  | [] => ([], [])
  | (i, o) :: r =>
    let (r', b) := trimMem all r
    match o with
    | .box ro ls => let (ls', a) := trimLeaves all ls; ((i, .box ro ls') :: r', a ++ b)
    | o => ((i, o) :: r', b)
def cutOff (offs : List (Nat × Nat)) (id : Nat) : Nat :=
  match offs with
  | [] => 0
  | (i, o) :: r => bif Nat.beq i id then o else cutOff r id
def trimObjs (offs : List (Nat × Nat)) : Mem → Mem
  | [] => []
  | (i, .arr τ xs ro) :: r => (match cutOff offs i with | 0 => (i, .arr τ xs ro) | o => (i, .arr τ (xs.drop o) ro)) :: trimObjs offs r
  | p :: r => p :: trimObjs offs r
def memIds : Mem → List Nat
  | [] => []
  | (_, o) :: r => o.ids ++ memIds r

/-- Names that lack are put behind. -/
def addMiss (acc : List Nat) : List Nat → List Nat
  | [] => acc
  | i :: r => addMiss (bif mem? i acc then acc else acc ++ [i]) r

def nameOf (ids : List Nat) (k : Nat) : Nat := bif Nat.blt (ids.getD k 0) 100 then ids.getD k 0 else canonBase + k

/-- Dead slots are masked, what nobody reaches is left behind, own objects get the names of their places. -/
def canon (live : List Nat) (s : St) : St :=
  let t0 := keep live 0 s.tmps
  let ids := addMiss (reach s.mem reachFuel (given s.mem ++ avsIds t0) []) (given s.mem)
  let ρ := fun i => (idx? i ids 0).map (nameOf ids)
  { tmps := renAVs ρ t0, mem := pickMem s.mem ρ (nameOf ids) ids 0 }

end Go.Ev

/- The abstract evaluator: operations, regions, code, bodies; all in continuation-passing style. Own work. -/
namespace Go.Ev
open Go

abbrev AK := AV → Mem → R

inductive Pol where
  | pure | fresh | share
  /-- It leaves all as it is; its answer is plain data. -/
  | read (q : List AV → Mem → Option AV)
  deriving Inhabited

def liftQ (q : List AV → Mem → Option AV) (args : List AV) (m : Mem) (k : AK) : R :=
  match q args m with | some v => k v m | none => none

structure Cfg where
  P : Program
  /-- The slots that are live at the head of the loop whose body begins with a region of this number. -/
  live : FuncId → Nat → List Nat
  pol : FuncId → Pol
  H0 : FuncId → List AV → Mem → AK → R

def Cfg.H (C : Cfg) (f : FuncId) : List AV → Mem → AK → R :=
  match C.pol f with
  | .read q => liftQ q
  | _ => C.H0 f

def strConst (s : List UInt8) : Option Leaf := bif Nat.ble s.length 1073741824 then some (.str s) else none

theorem strConst_some {s : List UInt8} {l : Leaf} (h : strConst s = some l) : l = .str s ∧ s.length ≤ 1073741824 := by
  unfold strConst at h
  cases hb : Nat.ble s.length 1073741824 with
  | true => rw [hb] at h; cases h; exact ⟨rfl, Nat.le_of_ble_eq_true hb⟩
  | false => rw [hb] at h; cases h

def leafConst : Value → Option Leaf
  | .bool b => some (.bool b)
  | .int k n => some (.int k n)
  | .string s => strConst s.data.toList
  | .pointer none => some .nilptr
  | .slice none 0 0 => some .nilsl
  | .map none => some .nilmap
  | .nilFunc => some .nilfn
  | .func (.func f) fs cs => match fs.toList, cs.toList with | [], [] => some (.fn f [] []) | _, _ => none
  | _ => none

def constLeaves : List Value → Option (List Leaf)
  | [] => some []
  | v :: vs => match leafConst v, constLeaves vs with | some l, some ls => some (l :: ls) | _, _ => none

def avConst : Value → AV
  | .agg cs => match constLeaves cs.toList with | some ls => .agg ls | none => .any
  | .tuple vs => match vs.toList with | [] => .skip | _ => .any
  | v => match leafConst v with | some l => .one l | none => .any

def ev (st : St) : Operand → AV
  | .tmp t => st.tmps.getD t .undef
  | .const v => avConst v
  | .global _ => .undef
  | .func f => .one (.fn f [] [])

/-- An untyped nil slice gets its type. -/
def typed (P : Program) (t : TypeId) : AV → AV
  | .val (.one .nilsl) => .one (nilSl P t)
  | v => v

/-- The leaves of a value that is stored as a variable of a type (of a struct that came in written out: as they are). -/
def leavesAs (P : Program) (t : TypeId) (v : AV) : Option (List Leaf) :=
  match typed P t v with
  | .val v => bif Nat.beq (widths v.leaves) (sizeTy P t) then some v.leaves else none
  | _ => none

def opt {α : Type} (o : Option α) (k : α → R) : R := match o with | some x => k x | none => none

def oneK (v : AV) (k : Leaf → R) : R := match v with | .val (.one l) => k l | _ => none
def intK (v : AV) (k : IntKind → Int → R) : R := match v with | .val (.one (.int κ n)) => k κ n | _ => none
def boolK (v : AV) (k : Bool → R) : R := match v with | .val (.one (.bool b)) => k b | _ => none

/-- Arrays that were handed out as plain data are only read from now on. -/
def readOnly : List Nat → Mem → Mem
  | [], m => m
  | i :: r, m => match m.get i with
    | some (.arr τ xs _) => readOnly r (m.set i (.arr τ xs true))
    | _ => readOnly r m

/-! ### reading and writing through a pointer -/
def readPtr (P : Program) (m : Mem) (t : TypeId) (p : Leaf) (k : List Leaf → R) : R :=
  match p with
  | .ptr id off ix =>
    match m.get id with
    | some (.box _ ls) =>
      match ix with
      | none => opt (cutW ls off (sizeTy P t)) k
      | some (i, w, sub) =>
        match dropW ls off with
        | some (.ar n τ xs :: _) => gd (Nat.beq τ.width w && decide (i < n)) (opt (cutW (τ.leaves (xs.getD i τ.dflt)) sub (sizeTy P t)) k)
        | _ => none
    | some (.arr τ xs _) =>
      match off, ix with
      | 0, some (i, w, sub) => gd (Nat.beq τ.width w && decide (i < xs.length)) (opt (cutW (τ.leaves (xs.getD i τ.dflt)) sub (sizeTy P t)) k)
      | _, _ => none
    | some (.raw w els) =>
      match off, ix with
      | 0, some (i, w', sub) => gd (Nat.beq w w' && decide (i < els.length)) (opt (cutW (els.getD i []) sub (sizeTy P t)) k)
      | _, _ => none
    | _ => none
  | .cptr τ x off => opt (cutW (τ.leaves x) off (sizeTy P t)) k
  | _ => none

/-- An element's leaves with others put in, as an element again. -/
def putEl (τ : Ty) (x : τ.El) (sub : Nat) (new : List Leaf) (k : τ.El → R) : R :=
  opt (putW (τ.leaves x) sub new) fun ls => opt (τ.read ls) k

def writePtr (m : Mem) (p : Leaf) (new : List Leaf) (k : Mem → R) : R :=
  match p with
  | .ptr id off ix =>
    match m.get id with
    | some (.box false ls) =>
      match ix with
      | none => opt (putW ls off new) fun ls' => k (m.set id (.box false ls'))
      | some (i, w, sub) =>
        match takeW ls off, dropW ls off with
        | some a, some (.ar n τ xs :: b) => gd (Nat.beq τ.width w && decide (i < n)) (putEl τ (xs.getD i τ.dflt) sub new fun y => k (m.set id (.box false (a ++ .ar n τ (xs.set i y) :: b))))
        | _, _ => none
    | some (.arr τ xs ro) =>
      match ro, off, ix with
      | false, 0, some (i, w, sub) => gd (Nat.beq τ.width w && decide (i < xs.length) && !mem? id (leavesIds new)) (putEl τ (xs.getD i τ.dflt) sub (new.map (frzSome m)) fun y => k ((readOnly (leavesIds new) m).set id (.arr τ (xs.set i y) false)))
      | _, _, _ => none
    | _ => none
  | _ => none

/-! ### operators -/
/-- The type of plain data that may be compared, its layout as Go's table gives it. -/
def fieldEqs (P : Program) (f : TypeId → Option Ty) : Nat → List Field → Option (List Ty)
  | _, [] => some []
  | off, x :: r => match f x.type with
    | some τ => bif (x.name != "_") && Nat.beq x.offset off && Nat.beq τ.width (sizeTy P x.type) then (fieldEqs P f (off + τ.width) r).map (τ :: ·) else none
    | none => none

def eqTyN (P : Program) : Nat → TypeId → Option Ty
  | 0, _ => none
  | n + 1, t =>
    match P.underlying t with
    | some .bool => some .bool
    | some (.int k) => some (.int k)
    | some .string => some .str
    | some (.array l e) =>
      match eqTyN P n e with
      | some τ => bif Nat.beq τ.width (sizeTy P e) then some (.ar l τ) else none
      | none => none
    | some (.struct fs) => bif P.stoodInHeld t then none else (fieldEqs P (eqTyN P n) 0 fs.toList).bind pairs
    | _ => none
def eqTy (P : Program) (t : TypeId) : Option Ty := eqTyN P 12 t

def aBin (P : Program) (m : Mem) (op : BinOp) (t : TypeId) (x y : AV) (k : Leaf → R) : R :=
  match x, y with
  | .val (.one (.int κ a)), .val (.one (.int κ' b)) =>
    match op with
    | .shl => gd (decide (0 ≤ b)) (k (.int κ (κ.wrap (a * 2 ^ (min b.toNat κ.bits)))))
    | .shr => gd (decide (0 ≤ b)) (k (.int κ (a.fdiv (2 ^ (min b.toNat κ.bits)))))
    | op =>
      if κ = κ' then
        match op with
        | .add => k (.int κ (κ.wrap (a + b)))
        | .sub => k (.int κ (κ.wrap (a - b)))
        | .mul => k (.int κ (κ.wrap (a * b)))
        | .quo => gd (!(b == 0)) (k (.int κ (κ.wrap (a.tdiv b))))
        | .rem => gd (!(b == 0)) (k (.int κ (a.tmod b)))
        | .and => k (.int κ (κ.wrap ((BitVec.ofInt κ.bits a &&& BitVec.ofInt κ.bits b).toNat)))
        | .or => k (.int κ (κ.wrap ((BitVec.ofInt κ.bits a ||| BitVec.ofInt κ.bits b).toNat)))
        | .xor => k (.int κ (κ.wrap ((BitVec.ofInt κ.bits a ^^^ BitVec.ofInt κ.bits b).toNat)))
        | .andNot => k (.int κ (κ.wrap ((BitVec.ofInt κ.bits a &&& ~~~ BitVec.ofInt κ.bits b).toNat)))
        | .eql => k (.bool (a == b))
        | .neq => k (.bool (a != b))
        | .lss => k (.bool (decide (a < b)))
        | .leq => k (.bool (decide (a ≤ b)))
        | .gtr => k (.bool (decide (a > b)))
        | .geq => k (.bool (decide (a ≥ b)))
        | _ => none
      else none
  | .val (.one (.str a)), .val (.one (.str b)) =>
    match op with
    | .add => gd (decide (a.length + b.length ≤ 1073741824)) (k (.str (a ++ b)))
    | .eql => k (.bool (a == b))
    | .neq => k (.bool (!(a == b)))
    | .lss => k (.bool (Op.bytesLess a b))
    | _ => none
  | .val (.one (.bool a)), .val (.one (.bool b)) =>
    match op, P.underlying t with
    | .eql, some .bool => k (.bool (a == b))
    | .neq, some .bool => k (.bool (!(a == b)))
    | _, _ => none
  | .val (.one .nilptr), .val (.one .nilptr) =>
    match op, P.underlying t with | .eql, some (.pointer _) => k (.bool true) | .neq, some (.pointer _) => k (.bool false) | _, _ => none
  | .val (.one (.ptr ..)), .val (.one .nilptr) | .val (.one (.cptr ..)), .val (.one .nilptr) =>
    match op, P.underlying t with | .eql, some (.pointer _) => k (.bool false) | .neq, some (.pointer _) => k (.bool true) | _, _ => none
  | .val (.one .nilfn), .val (.one .nilfn) =>
    match op, P.underlying t with | .eql, some (.func ..) => k (.bool true) | .neq, some (.func ..) => k (.bool false) | _, _ => none
  | .val (.one (.fn ..)), .val (.one .nilfn) =>
    match op, P.underlying t with | .eql, some (.func ..) => k (.bool false) | .neq, some (.func ..) => k (.bool true) | _, _ => none
  | .val (.one (.sl _ _ (some b) _)), .val (.one .nilsl) =>
    match op, P.underlying t with | .eql, some (.slice _) => k (.bool b) | .neq, some (.slice _) => k (.bool (!b)) | _, _ => none
  | .val (.one .nilsl), .val (.one .nilsl) =>
    match op, P.underlying t with | .eql, some (.slice _) => k (.bool true) | .neq, some (.slice _) => k (.bool false) | _, _ => none
  | .val (.one (.sl _ xs none _)), .val (.one .nilsl) =>
    match op, P.underlying t with | .eql, some (.slice _) => gd (!xs.isEmpty) (k (.bool false)) | .neq, some (.slice _) => gd (!xs.isEmpty) (k (.bool true)) | _, _ => none
  | .val (.one (.ref id v _)), .val (.one .nilsl) =>
    match m.get id with
    | some (.arr _ xs _) => match op, P.underlying t with | .eql, some (.slice _) => gd (decide (0 < v.len xs)) (k (.bool false)) | .neq, some (.slice _) => gd (decide (0 < v.len xs)) (k (.bool true)) | _, _ => none
    | _ => none
  | .val (.agg xs), .val (.agg ys) =>
    match op, bif P.eqGuardType P.depth t then none else eqTy P t with
    | .eql, some τ => gd (aggTy P t) <| opt (τ.read xs) fun x => opt (τ.read ys) fun y => k (.bool (τ.beq x y))
    | .neq, some τ => gd (aggTy P t) <| opt (τ.read xs) fun x => opt (τ.read ys) fun y => k (.bool (!(τ.beq x y)))
    | _, _ => none
  | _, _ => none

def aUn (op : UnOp) (x : Leaf) (k : Leaf → R) : R :=
  match op, x with
  | .not, .bool b => k (.bool (!b))
  | .neg, .int κ n => k (.int κ (κ.wrap (0 - n)))
  | .xor, .int κ n => k (.int κ (κ.wrap ((BitVec.ofInt κ.bits (if κ.signed then -1 else κ.max) ^^^ BitVec.ofInt κ.bits n).toNat)))
  | _, _ => none

/-! ### slices and strings -/
/-- What a slice value shows: its elements. -/
def seesAs (m : Mem) (τ : Ty) (l : Leaf) (k : List τ.El → R) : R :=
  match l with
  | .sl σ xs _ _ => if h : σ = τ then k (h ▸ xs) else (match xs with | [] => k [] | _ => none)
  | .nilsl => k []
  | .ref id v _ =>
    match m.get id with
    | some (.arr σ xs _) => if h : σ = τ then k (h ▸ v.sees xs) else none
    | _ => none
  | _ => none

def lenOf (m : Mem) (l : Leaf) (k : Nat → R) : R :=
  match l with
  | .sl _ xs _ _ => k xs.length
  | .nilsl => k 0
  | .str s => k s.length
  | .ref id v _ =>
    match m.get id with
    | some (.arr _ xs _) => k (v.len xs)
    | some (.raw _ els) => k (v.len els)
    | _ => none
  | _ => none

/-- An optional bound of a slice expression: from 'lo' to 'hi', else a panic. -/
def boundK (x : Option AV) (d hi : Nat) (k : Nat → R) : R :=
  match x with
  | none => k d
  | some v => intK v fun _ i => gd (decide (0 ≤ i) && decide (i ≤ hi)) (k i.toNat)

/-- 'x[lo:hi:mx]' of a slice with n elements that may be seen up to 'top', with a room 'lim' (if it is known): from, to, up to. -/
def bounds3 (n top : Nat) (lo hi mx : Option AV) (k : Nat → Nat → Option Nat → R) : R :=
  match mx with
  | none => boundK hi n top fun h => boundK lo 0 h fun l => k l h none
  | some c =>
    match hi with
    | none => none
    | some _ => boundK (some c) 0 top fun m' => boundK hi n m' fun h => boundK lo 0 h fun l => k l h (some m')

def roomOf (lim mx : Option Nat) (l : Nat) : Option Nat :=
  match mx with
  | some m' => some (m' - l)
  | none => match lim with | some c => some (c - l) | none => none

def aSliceStr (x : Leaf) (lo hi mx : Option AV) (k : Leaf → R) : R :=
  match x with
  | .str s =>
    match mx with
    | none => boundK hi s.length s.length fun h => boundK lo 0 h fun l => k (.str ((s.drop l).take (h - l)))
    | some _ => none
  | _ => none

/-- 'es': the size of an element. -/
def aSlice (m : Mem) (es : Nat) (x : Leaf) (lo hi mx : Option AV) (k : Leaf → R) : R :=
  match x with
  -- without a known room the bound is the length (a panic in Go lies beyond)
  | .sl τ xs nl lim => bif Nat.beq τ.width es then bounds3 xs.length xs.length lo hi mx fun l h m' => k (.sl τ ((xs.drop l).take (h - l)) nl (roomOf lim m' l)) else none
  | .nilsl => bounds3 0 0 lo hi mx fun _ _ _ => k .nilsl
  | .ref id v lim =>
    match (m.get id).bind Obj.row with
    | some (wd, n) =>
      bif Nat.beq wd es then
      match hi with
      | none =>
        match mx with
        | none => boundK lo 0 (v.lenN n) fun l => k (.ref id (match v with | .tail o => .tail (o + l) | .sub o j => .sub (o + l) (j - l)) (roomOf lim none l))
        | some _ => none
      | some _ =>
        bounds3 (v.lenN n) (match lim with | some c => min c (n - v.off) | none => n - v.off) lo hi mx fun l h m' => k (.ref id (.sub (v.off + l) (h - l)) (roomOf lim m' l))
      else none
    | none => none
  | _ => none

def aIndexAddr (P : Program) (m : Mem) (t : TypeId) (x : Leaf) (i : Int) (k : Leaf → R) : R :=
  match P.underlying t with
  | some (.array n e) =>
    match P.info? e with
    | some ie =>
      match x with
      | .ptr id off none => gd (decide (0 ≤ i) && decide (i < n)) (k (.ptr id off (some (i.toNat, ie.size, 0))))
      | .cptr (.ar n' e') xs 0 =>
        gd (Nat.beq n n' && Nat.beq e'.width ie.size && decide (0 ≤ i) && decide (i < n) && decide (i < xs.length)) (k (.cptr e' (xs.getD i.toNat e'.dflt) 0))
      | _ => none
    | none => none
  | some (.slice e) =>
    match P.info? e with
    | some ie =>
      match x with
      | .sl τ xs _ _ => gd (Nat.beq τ.width ie.size && decide (0 ≤ i) && decide (i < xs.length)) (k (.cptr τ (xs.getD i.toNat τ.dflt) 0))
      | .ref id v _ =>
        match (m.get id).bind Obj.row with
        | some (wd, n) => gd (Nat.beq wd ie.size && decide (0 ≤ i) && decide (i < v.lenN n)) (k (.ptr id 0 (some (v.off + i.toNat, wd, 0))))
        | none => none
      | _ => none
    | none => none
  | _ => none

def aIndex (P : Program) (t : TypeId) (x : AV) (i : Int) (k : AV → R) : R :=
  match P.underlying t, x with
  | some .string, .val (.one (.str s)) => gd (decide (0 ≤ i) && decide (i < s.length)) (k (.one (.int .u8 (s.getD i.toNat 0).toNat)))
  | some (.array n e), .val (.agg [.ar n' τ xs]) =>
    match P.info? e with
    | some ie => gd (Nat.beq n n' && Nat.beq τ.width ie.size && decide (0 ≤ i) && decide (i < n)) (opt (mkV P e (τ.leaves (xs.getD i.toNat τ.dflt))) fun v => k (.val v))
    | none => none
  | _, _ => none

def fieldOf (P : Program) (t : TypeId) (f : Nat) : Option Field :=
  match P.underlying t with
  | some (.struct fs) => fs[f]?
  | _ => none

def aFieldAddr (P : Program) (t : TypeId) (x : Leaf) (f : Nat) (k : Leaf → R) : R :=
  match fieldOf P t f with
  | some fl =>
    bif Nat.beq (sizeTy P fl.type) 0 then none else
    match x with
    | .ptr id off none => k (.ptr id (off + fl.offset) none)
    | .ptr id off (some (i, w, sub)) => k (.ptr id off (some (i, w, sub + fl.offset)))
    | .cptr τ y off => k (.cptr τ y (off + fl.offset))
    | _ => none
  | none => none

/-! ### building -/
def buildStruct (P : Program) (fs : Array Field) : List (Nat × AV) → List Leaf → Option (List Leaf)
  | [], ls => some ls
  | (i, v) :: r, ls =>
    match fs[i]? with
    | some f => match leavesAs P f.type v with
      | some new => match putW ls f.offset new with
        | some ls' => buildStruct P fs r ls'
        | none => none
      | none => none
    | none => none

def buildElems (P : Program) (m : Mem) (e : TypeId) (τ : Ty) : List (Nat × AV) → List τ.El → Option (List τ.El)
  | [], xs => some xs
  | (i, v) :: r, xs =>
    match leavesAs P e v with
    | some new => match τ.read (new.map (frzSome m)) with
      | some y => bif Nat.blt i xs.length then buildElems P m e τ r (xs.set i y) else none
      | none => none
    | none => none

def buildRaw (P : Program) (e : TypeId) : List (Nat × AV) → List (List Leaf) → Option (List (List Leaf))
  | [], xs => some xs
  | (i, v) :: r, xs =>
    match leavesAs P e v with
    | some new => bif Nat.blt i xs.length then buildRaw P e r (xs.set i new) else none
    | none => none

def partIds : List (Nat × AV) → List Nat
  | [] => []
  | (_, v) :: r => v.ids ++ partIds r

def aBuild (P : Program) (m : Mem) (t : TypeId) (parts : List (Nat × AV)) (k : AV → Mem → R) : R :=
  match P.underlying t with
  | some (.struct fs) => opt (zero P t) fun z => opt (buildStruct P fs parts z) fun ls => k (.agg ls) m
  | some (.array n e) =>
    match tyOf P e with
    | some τ =>
      bif Nat.beq τ.width (sizeTy P e) && zeroIs P t [.ar n τ (List.replicate n τ.dflt)] then
        opt (buildElems P m e τ parts (List.replicate n τ.dflt)) fun xs => k (.agg [.ar n τ xs]) (readOnly (partIds parts) m)
      else none
    | none => none
  | _ => none

def ownId (d : Nat) : Nat := 100 + d
def newId (d j : Nat) : Nat := 10000 * (d + 1) + j

/-- A new object at the name of its slot. -/
def allocAt (m : Mem) (d : Option Tmp) (o : Obj) (k : Nat → Mem → R) : R :=
  match d with
  | some d => match m.get (ownId d) with
    | none => k (ownId d) (m.set (ownId d) o)
    | some _ => none
  | none => none

def allWide (wd : Nat) : List (List Leaf) → Bool
  | [] => true
  | l :: r => Nat.beq (widths l) wd && allWide wd r

/-- A slice whose elements are no plain data. -/
def rawSlice (P : Program) (m : Mem) (d : Option Tmp) (e : TypeId) (n : Nat) (parts : List (Nat × AV)) (k : AV → Mem → R) : R :=
  match P.info? e with
  | some i =>
    bif i.zero.isSome then
      match buildRaw P e parts (List.replicate n []) with
      | some els => bif allWide i.size els then allocAt m d (.raw i.size els) fun id m' => k (.one (.ref id (.tail 0) (some n))) m' else none
      | none => none
    else none
  | none => none

def aBuildSlice (P : Program) (m : Mem) (d : Option Tmp) (t : TypeId) (n : Nat) (parts : List (Nat × AV)) (k : AV → Mem → R) : R :=
  match P.underlying t with
  | some (.slice e) =>
    bif Nat.blt 100000 (n * sizeTy P e) then none else
    match elemTy P t with
    | some τ =>
      match buildElems P m e τ parts (List.replicate n τ.dflt) with
      | some xs => allocAt (readOnly (partIds parts) m) d (.arr τ xs false) fun id m' => k (.one (.ref id (.tail 0) (some n))) m'
      | none => rawSlice P m d e n parts k
    | none => rawSlice P m d e n parts k
  | _ => none

/-! ### the builtin functions -/
def bytesTy (P : Program) (t : TypeId) : Nat := match P.info? t with | some i => i.bytes | none => 0

/-- How many elements may a slice that grows have? (2^46 bytes) -/
def fits (P : Program) (e : TypeId) (n : Nat) : Bool := decide (n * bytesTy P e ≤ 70368744177664) && decide (n ≤ 1099511627776)

def appendTo (P : Program) (m : Mem) (d : Option Tmp) (e : TypeId) (τ : Ty) (base : Leaf) (ys : List τ.El) (k : AV → Mem → R) : R :=
  let new (xs : List τ.El) : R := gd (fits P e xs.length) (allocAt m d (.arr τ xs false) fun id m' => k (.one (.ref id (.tail 0) none)) m')
  match base with
  | .nilsl => new ys
  | .sl σ xs _ lim =>
    match lim with
    | some 0 =>
      match xs with
      | [] => new ys
      | _ => none
    | some c => if h : σ = τ then gd (decide (c < xs.length + ys.length)) (new ((h ▸ xs) ++ ys)) else none
    | none => none
  | .ref id v lim =>
    match m.get id with
    | some (.arr σ xs ro) =>
      if h : σ = τ then
        let xs : List τ.El := h ▸ xs
        -- an array of the call's own that grows is another one; the elder one is not looked at again
        let grown (v' : View) (lim' : Option Nat) (zs : List τ.El) : R :=
          gd (fits P e zs.length) (allocAt (m.set id .dead) d (.arr τ zs ro) fun id' m' => k (.one (.ref id' v' lim')) m')
        let over (lim' : Option Nat) : R :=
          bif ro then none else
            k (.one (.ref id (.sub v.off (v.len xs + ys.length)) lim')) (m.set id (.arr τ (xs.take (v.off + v.len xs) ++ ys ++ xs.drop (v.off + v.len xs + ys.length)) false))
        match lim, v with
        | none, .tail o => grown (.tail 0) none ((View.tail o).sees xs ++ ys)
        | none, .sub off n => gd (decide (off + n + ys.length ≤ xs.length)) (over none)
        | some c, .tail o => cond (decide ((View.tail o).len xs + ys.length ≤ c)) (grown (.tail o) (some c) (xs ++ ys)) (new ((View.tail o).sees xs ++ ys))
        | some c, .sub off n => cond (decide (n + ys.length ≤ c)) (gd (decide (off + n + ys.length ≤ xs.length)) (over (some c))) (new ((View.sub off n).sees xs ++ ys))
      else none
    | _ => none
  | _ => none

def strEls (s : List UInt8) : List Int := s.map fun b => (b.toNat : Int)

/-- The elements that append or copy takes. -/
def sourceK (m : Mem) (τ : Ty) (x : Leaf) (k : List τ.El → R) : R :=
  match x with
  | .str s => if h : Ty.int .u8 = τ then k (h ▸ strEls s) else none
  | x => seesAs m τ x k

def isIntD : TypeDesc → Bool
  | .int _ => true
  | _ => false

def aAppend (P : Program) (m : Mem) (d : Option Tmp) (argTypes : List TypeId) (args : List AV) (k : AV → Mem → R) : R :=
  match argTypes, args with
  | [t, t'], [s, x] =>
    match P.underlying t, elemTy P t, P.underlying t' with
    | some (.slice e), some τ, some D =>
      oneK s fun s => oneK x fun x =>
      bif isIntD D then
        match x with
        | .int .i64 n => gd (decide (0 ≤ n) && decide (n ≤ 1099511627776) && decide (n * bytesTy P e ≤ 70368744177664)) (appendTo P m d e τ s (List.replicate n.toNat τ.dflt) k)
        | _ => none
      else sourceK m τ x fun ys => appendTo P m d e τ s ys k
    | _, _, _ => none
  | _, _ => none

def aCopy (P : Program) (m : Mem) (argTypes : List TypeId) (args : List AV) (k : AV → Mem → R) : R :=
  match argTypes, args with
  | t :: _, [s, x] =>
    match elemTy P t with
    | some τ =>
      oneK s fun s => oneK x fun x =>
      match s with
      | .ref id v _ =>
        match m.get id with
        | some (.arr σ xs false) =>
          if h : σ = τ then
            let xs : List τ.El := h ▸ xs
            sourceK m τ x fun ys =>
              let n := min ys.length (v.len xs)
              k (.one (.int .i64 n)) (m.set id (.arr τ (xs.take v.off ++ ys.take n ++ xs.drop (v.off + n)) false))
          else none
        | _ => none
      | _ => none
    | none => none
  | _, _ => none

def aClear (P : Program) (m : Mem) (argTypes : List TypeId) (args : List AV) (k : AV → Mem → R) : R :=
  match argTypes, args with
  | [t], [s] =>
    match elemTy P t with
    | some τ =>
      oneK s fun s =>
      match s with
      | .ref id v _ =>
        match m.get id with
        | some (.arr σ xs false) =>
          if h : σ = τ then
            let xs : List τ.El := h ▸ xs
            k (.tup []) (m.set id (.arr τ (xs.take v.off ++ List.replicate (v.len xs) τ.dflt ++ xs.drop (v.off + v.len xs)) false))
          else none
        | _ => none
      | _ => none
    | none => none
  | _, _ => none

def minMax (isMax : Bool) : List AV → Leaf → (Leaf → R) → R
  | [], l, k => k l
  | v :: r, .int κ x, k => intK v fun κ' y => if κ = κ' then minMax isMax r (.int κ (bif isMax then (if y > x then y else x) else (if y < x then y else x))) k else none
  | _, _, _ => none

def aBuiltin (P : Program) (m : Mem) (d : Option Tmp) (b : Builtin) (argTypes : List TypeId) (args : List AV) (k : AV → Mem → R) : R :=
  match b with
  | .append => aAppend P m d argTypes args k
  | .copy => aCopy P m argTypes args k
  | .clear => aClear P m argTypes args k
  | .len =>
    match argTypes, args with
    | [t], [x] =>
      match P.underlying t, x with
      | some (.array n _), _ => k (.one (.int .i64 n)) m
      | some .string, .val (.one (.str s)) => k (.one (.int .i64 s.length)) m
      | some (.slice _), .val (.one (.str _)) => none
      | some (.slice _), .val (.one l) => lenOf m l fun n => k (.one (.int .i64 n)) m
      | some (.map _ _), .val (.one .nilmap) => k (.one (.int .i64 0)) m
      | some (.map _ _), .val (.one (.map id)) => match m.get id with | some (.map _ _ _ es) => k (.one (.int .i64 es.length)) m | _ => none
      | _, _ => none
    | _, _ => none
  | .cap =>
    match argTypes, args with
    | [t], [x] =>
      match P.underlying t with
      | some (.slice _) => oneK x fun l => match l with
        | .sl _ _ _ (some c) => k (.one (.int .i64 c)) m
        | .ref id _ (some c) => bif ((m.get id).bind Obj.row).isSome then k (.one (.int .i64 c)) m else none
        | .nilsl => k (.one (.int .i64 0)) m
        | _ => none
      | _ => none
    | _, _ => none
  | .max => match args with | v :: r => oneK v fun l => minMax true r l fun l => k (.one l) m | _ => none
  | .min => match args with | v :: r => oneK v fun l => minMax false r l fun l => k (.one l) m | _ => none
  | _ => none

/-! ### maps -/
def Ty.isAgg : Ty → Bool
  | .ar _ _ => true
  | .pair _ _ => true
  | _ => false
def V.isAgg : V → Bool
  | .agg _ => true
  | .one _ => false
def aggV : Value → Bool
  | .agg _ => true
  | _ => false
def keyKind : TypeDesc → Option Ty
  | .bool => some .bool
  | .int k => some (.int k)
  | .string => some .str
  | _ => none

def keyTy (P : Program) (t : TypeId) : Option (Ty × Ty) :=
  match P.underlying t with
  | some (.map a b) =>
    match (P.underlying a).bind keyKind, tyOf P b, P.info? b with
    | some κ, some τ, some i =>
      match i.zero with
      | some z => bif zeroIs P b (τ.leaves τ.dflt) && (aggTy P b == τ.isAgg) && (aggV z == τ.isAgg) then some (κ, τ) else none
      | none => none
    | _, _, _ => none
  | _ => none

def avEl (P : Program) (t : TypeId) (τ : Ty) (x : τ.El) : Option V := mkV P t (τ.leaves x)

def assoc (κ τ : Ty) (key : κ.El) : List (κ.El × τ.El) → Option τ.El
  | [] => none
  | (k, v) :: r => bif κ.beq key k then some v else assoc κ τ key r

def assocSet (κ τ : Ty) (key : κ.El) (v : τ.El) : List (κ.El × τ.El) → List (κ.El × τ.El)
  | [] => [(key, v)]
  | (k, u) :: r => bif κ.beq key k then (k, v) :: r else (k, u) :: assocSet κ τ key v r

def aLookup (P : Program) (m : Mem) (t : TypeId) (x key : AV) (ok : Bool) (k : AV → R) : R :=
  match P.underlying t, keyTy P t with
  | some (.map _ b), some (κ, τ) =>
    match key with
    | .val (.one kl) =>
      opt (κ.read [kl]) fun key =>
      let out (v : τ.El) (there : Bool) : R := opt (avEl P b τ v) fun x => k (bif ok then .tup [x, .one (.bool there)] else .val x)
      match x with
      | .val (.one .nilmap) => out τ.dflt false
      | .val (.one (.map id)) =>
        match m.get id with
        | some (.map _ κ' τ' es) =>
          if h : κ' = κ then (if h' : τ' = τ then
            let es : List (κ.El × τ.El) := h ▸ h' ▸ es
            match assoc κ τ key es with
            | some v => out v true
            | none => out τ.dflt false
          else none) else none
        | _ => none
      | _ => none
    | _ => none
  | _, _ => none

def aUpdate (P : Program) (m : Mem) (t : TypeId) (x key v : AV) (k : Mem → R) : R :=
  match keyTy P t, x, key, v with
  | some (κ, τ), .val (.one (.map id)), .val kv, .val vv =>
    opt (κ.read kv.leaves) fun key => opt (τ.read vv.leaves) fun v =>
    bif kv.isAgg || !(vv.isAgg == τ.isAgg) then none else
    match m.get id with
    | some (.map false κ' τ' es) =>
      if h : κ' = κ then (if h' : τ' = τ then
        let es : List (κ.El × τ.El) := h ▸ h' ▸ es
        k (m.set id (.map false κ τ (assocSet κ τ key v es)))
      else none) else none
    | _ => none
  | _, _, _, _ => none

def aConvert (P : Program) (m : Mem) (d : Option Tmp) (s t : TypeId) (x : AV) (k : AV → Mem → R) : R :=
  match P.underlying s, P.underlying t, x with
  | some _, some (.int κ), .val (.one (.int _ n)) => k (.one (.int κ (κ.wrap n))) m
  | some _, some .string, .val (.one (.str b)) => k (.one (.str b)) m
  | some (.slice e), some .string, .val (.one l) =>
    match P.underlying e with
    | some (.int .u8) => seesAs m (.int .u8) l fun xs => k (.one (.str (xs.map fun n => UInt8.ofNat n.toNat))) m
    | _ => none
  | some .string, some (.slice e), .val (.one (.str b)) =>
    match P.underlying e with
    | some (.int .u8) => gd (decide (b.length ≤ 1073741824)) (allocAt m d (.arr (.int .u8) (strEls b) false) fun id m' => k (.one (.ref id (.tail 0) none)) m')
    | _ => none
  | _, _, _ => none

/-! ### calls -/
def anySl : List Leaf → Bool
  | [] => false
  | .sl .. :: _ => true
  | .ar .. :: _ => true
  | _ :: r => anySl r
def AV.anySl : AV → Bool
  | .val v => Ev.anySl v.leaves
  | .tup vs => go vs
  | _ => false
  where go : List V → Bool
  | [] => false
  | v :: vs => Ev.anySl v.leaves || go vs

def frzAll (m : Mem) : List AV → Option (List AV)
  | [] => some []
  | v :: vs => match frz m v, frzAll m vs with | some x, some xs => some (x :: xs) | _, _ => none

/-- The objects that a call may only read. -/
def lockObj : Obj → Obj
  | .box _ ls => .box true ls
  | .arr τ xs _ => .arr τ xs true
  | .map _ κ τ es => .map true κ τ es
  | o => o
def lockMem : Mem → Mem
  | [] => []
  | (i, o) :: r => (i, lockObj o) :: lockMem r

/-- No object has one of these names. -/
def freshFrom (m : Mem) (b : Nat) : Nat → Bool
  | 0 => true
  | n + 1 => (m.get (b + n)).isNone && freshFrom m b n

def notBelow (n : Nat) : List Nat → List Nat
  | [] => []
  | i :: r => bif Nat.blt i n then notBelow n r else i :: notBelow n r

/-- How what a call leaves is named: 'ids' were handed over, 'new' are the results' new objects. -/
def backName (d : Nat) (ids new : List Nat) (i : Nat) : Option Nat :=
  match idx? i new 0 with
  | some j => some (newId d j)
  | none => ids[i]?

/-- The results' new objects come in under names of the slot 'd'; 'ids' are the caller's names of what was handed over (0, 1, ..). -/
def comeBack (m m' : Mem) (d : Nat) (ids : List Nat) (r : AV) (k : AV → Mem → R) : R :=
  let new := notBelow ids.length (reach m' reachFuel (List.range ids.length ++ r.ids) [])
  gd (freshFrom m (newId d 0) new.length) (k (r.ren (backName d ids new)) (putBack m m' (backName d ids new) ids 0 ++ pickMem m' (backName d ids new) (newId d) new 0))

def allMem (ids : List Nat) : List Nat → Bool
  | [] => true
  | i :: r => mem? i ids && allMem ids r
def closedFrom (m : Mem) (ids : List Nat) : List Nat → Bool
  | [] => true
  | i :: r => (match m.get i with | some o => allMem ids o.ids | none => false) && closedFrom m ids r

/-- An answer that reads objects and leaves them. -/
def askCall (q : List AV → Mem → Option AV) (m : Mem) (args : List AV) (k : AV → Mem → R) : R :=
  let ids := reach m reachFuel (avsIds args) []
  let ρ := fun i => idx? i ids 0
  bif closedFrom m ids ids then
    opt (q (renAVs ρ args) (pickMem m ρ id ids 0)) fun v => opt (frz [] v) fun v' => bif v'.anySl then none else k v' m
  else none

def doCall (C : Cfg) (m : Mem) (d : Option Tmp) (f : FuncId) (args : List AV) (k : AV → Mem → R) : R :=
  match C.pol f with
  | .pure =>
    opt (frzAll m args) fun args' =>
    C.H f args' [] fun r m' => opt (frz m' r) fun r' => k r' (bif r'.anySl then readOnly (avsIds args) m else m)
  | .fresh =>
    opt (frzAll m args) fun args' =>
    C.H f args' [] fun r m' => comeBack (readOnly (avsIds args) m) m' (d.getD 0) [] r k
  | .read q => askCall q m args k
  | .share =>
    let ids := reach m reachFuel (avsIds args) []
    let ρ := fun i => idx? i ids 0
    C.H f (renAVs ρ args) (pickMem m ρ id ids 0) fun r m' => comeBack m m' (d.getD 0) ids r k

/-- A call's value and arguments. -/
def ptrs (ids : List Nat) : List AV := ids.map fun i => .one (.ptr i 0 none)

def aCall (C : Cfg) (st : St) (d : Option Tmp) (c : Call) (k : AV → Mem → R) : R :=
  match c.callee with
  | .builtin b => aBuiltin C.P st.mem d b c.argTypes.toList (c.args.toList.map (ev st)) k
  | .value f => oneK (ev st f) fun l =>
    match l with
    | .fn f first cap => doCall C st.mem d f (ptrs first ++ (c.args.toList.map (ev st)) ++ ptrs cap) k
    | _ => none
  | .invoke _ _ => none

def envIds : List AV → Option (List Nat)
  | [] => some []
  | .val (.one (.ptr id 0 none)) :: r => (envIds r).map (id :: ·)
  | _ => none

/-! ### one operation -/
def aOp (C : Cfg) (o : Oper) (st : St) (k : AV → Mem → R) : R :=
  let m := st.mem
  match o.op with
  | .move x | .assign x => k (typed C.P o.type (ev st x)) m
  | .pick c a b => boolK (ev st c) fun t => cond t (k (ev st a) m) (k (ev st b) m)
  | .alloc e => opt (zero C.P e) fun z => allocAt m o.dst (.box false z) fun id m' => k (.one (.ptr id 0 none)) m'
  | .box e x => opt (leavesAs C.P e (ev st x)) fun ls => allocAt m o.dst (.box false ls) fun id m' => k (.one (.ptr id 0 none)) m'
  | .build t parts => aBuild C.P m t (parts.toList.map fun (i, x) => (i, ev st x)) k
  | .buildSlice t n parts => aBuildSlice C.P m o.dst t n (parts.toList.map fun (i, x) => (i, ev st x)) k
  | .load t a => oneK (ev st a) fun p => readPtr C.P m t p fun ls => opt (mkV C.P t ls) fun v => k (.val v) m
  | .store t a x => bif (C.P.info? t).isSome then oneK (ev st a) fun p => opt (leavesAs C.P t (ev st x)) fun ls => writePtr m p ls fun m' => k .skip m' else none
  | .nilCheck x => oneK (ev st x) fun p => match p with
    | .ptr .. | .cptr .. | .fn .. => k (.one p) m
    | _ => none
  | .binOp op t x y _ => aBin C.P m op t (ev st x) (ev st y) fun l => k (.one l) m
  | .unOp op _ x => oneK (ev st x) fun l => aUn op l fun l => k (.one l) m
  | .convert s t x => aConvert C.P m o.dst s t (ev st x) k
  | .makeFunc (.func f) first cap =>
    opt (envIds (first.toList.map (ev st))) fun a => opt (envIds (cap.toList.map (ev st))) fun b => k (.one (.fn f a b)) m
  | .makeMap t none =>
    match keyTy C.P t with
    | some (κ, τ) => allocAt m o.dst (.map false κ τ []) fun id m' => k (.one (.map id)) m'
    | none => none
  | .makeSlice t l c =>
    match C.P.underlying t, elemTy C.P t with
    | some (.slice e), some τ =>
      intK (ev st l) fun _ l => intK (ev st c) fun _ c =>
      gd (decide (0 ≤ l) && decide (l = c) && decide (l ≤ 1073741824) && decide (l * bytesTy C.P e ≤ 1073741824))
        (allocAt m o.dst (.arr τ (List.replicate l.toNat τ.dflt) false) fun id m' => k (.one (.ref id (.tail 0) (some l.toNat))) m')
    | _, _ => none
  | .slice t x lo hi mx =>
    match C.P.underlying t with
    | some .string => oneK (ev st x) fun x => aSliceStr x (lo.map (ev st)) (hi.map (ev st)) (mx.map (ev st)) fun l => k (.one l) m
    | some (.slice e) =>
      match C.P.info? e with
      | some i => oneK (ev st x) fun x => aSlice m i.size x (lo.map (ev st)) (hi.map (ev st)) (mx.map (ev st)) fun l => k (.one l) m
      | none => none
    | _ => none
  | .fieldAddr s x f => oneK (ev st x) fun p => aFieldAddr C.P s p f fun l => k (.one l) m
  | .field t x f => match ev st x, fieldOf C.P t f with
    | .val (.agg ls), some fl => opt (cutW ls fl.offset (sizeTy C.P fl.type)) fun r => opt (mkV C.P fl.type r) fun v => k (.val v) m
    | _, _ => none
  | .indexAddr t x i => oneK (ev st x) fun p => intK (ev st i) fun _ i => aIndexAddr C.P m t p i fun l => k (.one l) m
  | .index t x i => intK (ev st i) fun _ i => aIndex C.P t (ev st x) i fun v => k v m
  | .lookup t x i ok => aLookup C.P m t (ev st x) (ev st i) ok fun v => k v m
  | .mapUpdate t x i v | .insert t x i v => aUpdate C.P m t (ev st x) (ev st i) (ev st v) fun m' => k .skip m'
  | .extract x i => match ev st x with
    | .tup vs => opt vs[i]? fun v => k (.val v) m
    | _ => none
  | .call c => aCall C st o.dst c k
  | _ => none

def put (st : St) (d : Option Tmp) (v : AV) (m : Mem) : St :=
  match d with
  | some d => { tmps := st.tmps.set d v, mem := m }
  | none => { tmps := st.tmps, mem := m }

/-- May a type's values hold slices? -/
def slTyN (P : Program) : Nat → TypeId → Bool
  | 0, _ => true
  | n + 1, t =>
    match P.underlying t with
    | some .bool | some (.int _) | some .string => false
    | some (.array _ e) => slTyN P n e
    | some (.struct fs) => fs.toList.any fun f => slTyN P n f.type
    | _ => true
def slRes (P : Program) (f : FuncId) : Bool :=
  match P.funcs[f]? with
  | some fn => fn.resultTypes.toList.any (slTyN P 12)
  | none => true

/-! ### regions -/
/-- What an operation reads and writes, by the objects' names. -/
structure Foot where
  rd : List Nat
  wr : List Nat
  deriving Inhabited

def apart (a b : List Nat) : Bool := match a with | [] => true | x :: r => !mem? x b && apart r b
def Foot.apart (a b : Foot) : Bool := Ev.apart a.wr b.wr && Ev.apart a.wr b.rd && Ev.apart a.rd b.wr

@[inline] def wantedK (ops : Array Oper) (o : Oper) (st : St) (yes no : R) : R :=
  match o.guard with
  | none => yes
  | some (j, want) =>
    match (ops[j]?).bind (·.dst) with
    | some t =>
      match st.tmps.getD t .undef with
      | .val (.one (.bool b)) => cond want (cond b yes no) (cond b no yes)
      | .skip => no
      | _ => none
    | none => none

def aOps (C : Cfg) (ops : Array Oper) : List Oper → St → (St → R) → R
  | [], st, k => k st
  | o :: r, st, k => wantedK ops o st (aOp C o st fun v m => aOps C ops r (put st o.dst v m) k) (aOps C ops r (put st o.dst .skip st.mem) k)

/-! ### regions whose order is drawn: each operation sees its temporaries and what they reach -/
def outK : AK := fun v m => some (v, m)

def tmpsOf (o : Oper) : List Nat := o.op.operands.toList.filterMap fun x => match x with | .tmp t => some t | _ => none

inductive Cls where
  | silent | reader | writer | asker
  deriving DecidableEq, Repr, Inhabited

/-- What an operation does with the memory: nothing; it reads what its operands name; it may write what they reach. -/
def clsOf (C : Cfg) : Op → Cls
  | .move _ | .assign _ | .pick .. | .unOp .. | .field .. | .fieldAddr .. | .extract .. | .nilCheck _ | .makeFunc .. | .index .. => .silent
  | .load .. | .lookup .. | .indexAddr .. | .slice .. | .binOp .. => .reader
  | .convert s t _ =>
    match C.P.underlying s, C.P.underlying t with
    | some .string, some (.slice _) => .writer
    | _, _ => .reader
  | .call c =>
    match c.callee with
    | .builtin .len | .builtin .cap | .builtin .min | .builtin .max => .reader
    | .value (.func f) => match C.pol f with
      | .pure => bif slRes C.P f then .writer else .reader
      | .read _ => .asker
      | _ => .writer
    | _ => .writer
  | _ => .writer

/-- A call that hands out no slices: its value. -/
def pureCall (C : Cfg) (st : St) (c : Call) (f : FuncId) : R :=
  opt (frzAll st.mem (c.args.toList.map (ev st))) fun args' =>
  C.H f args' [] fun r m' => opt (frz m' r) fun r' => bif r'.anySl then none else some (r', [])

def wantedB (ops : Array Oper) (o : Oper) (tmps : List AV) : Option Bool :=
  match o.guard with
  | none => some true
  | some (j, want) =>
    match (ops[j]?).bind (·.dst) with
    | some t =>
      match tmps.getD t .undef with
      | .val (.one (.bool b)) => some (b == want)
      | .skip => some false
      | _ => none
    | none => none

def newNames (d : Nat) (n : Nat) : List Nat := (List.range n).map (newId d)

structure Out where
  v : AV
  mem : Mem
  foot : Foot
  deriving Inhabited

/-- An operation on what its temporaries ('vs', in the operands' order) reach, as a call of its own. -/
def aLocal (C : Cfg) (o : Oper) (vs t0 : List AV) (m : Mem) : Option Out :=
  let ids := reach m reachFuel (avsIds vs) []
  let ρ := fun i => idx? i ids 0
  let d := o.dst.getD 0
  bif allMem ids (avsIds vs) && closedFrom m ids ids then
    match aOp C o { tmps := renAVs ρ t0, mem := pickMem m ρ id ids 0 } outK with
    | some (r, m') =>
      let new := notBelow ids.length (reach m' reachFuel (List.range ids.length ++ r.ids) [])
      match comeBack m m' d ids r outK with
      | some (v, m2) => some { v := v, mem := m2, foot := { rd := ids, wr := ids ++ newNames d new.length } }
      | none => none
    | none => none
  else none

def seen (o : Oper) (tmps : List AV) : List AV := (tmpsOf o).map fun t => tmps.getD t .any

/-- The value of an operation that writes nothing. -/
def aRead (C : Cfg) (o : Oper) (st : St) : R :=
  match o.op with
  | .call c => match c.callee with
    | .value (.func f) => pureCall C st c f
    | _ => aOp C o st outK
  | _ => aOp C o st outK

def aStep (C : Cfg) (ops : Array Oper) (o : Oper) (st : St) : Option Out :=
  match wantedB ops o st.tmps with
  | none => none
  | some false => some { v := .skip, mem := st.mem, foot := { rd := [], wr := [] } }
  | some true =>
    match clsOf C o.op with
    | .writer => aLocal C o (seen o st.tmps) (keep (tmpsOf o) 0 st.tmps) st.mem
    | .reader =>
      match aRead C o { tmps := keep (tmpsOf o) 0 st.tmps, mem := st.mem } with
      | some (v, _) => some { v := v, mem := st.mem, foot := { rd := avsIds (seen o st.tmps), wr := [] } }
      | none => none
    | .silent =>
      match aOp C o { tmps := keep (tmpsOf o) 0 st.tmps, mem := st.mem } outK with
      | some (v, _) => some { v := v, mem := st.mem, foot := { rd := [], wr := [] } }
      | none => none
    | .asker =>
      let ids := reach st.mem reachFuel (avsIds (seen o st.tmps)) []
      bif allMem ids (avsIds (seen o st.tmps)) && closedFrom st.mem ids ids then
        match aOp C o { tmps := keep (tmpsOf o) 0 st.tmps, mem := st.mem } outK with
        | some (v, _) => some { v := v, mem := st.mem, foot := { rd := ids, wr := [] } }
        | none => none
      else none

def runD (C : Cfg) (ops : Array Oper) : List Nat → St → Option (List (Nat × Foot) × St)
  | [], st => some ([], st)
  | i :: is, st =>
    match ops[i]? with
    | none => none
    | some o =>
      match aStep C ops o st with
      | some x => (match runD C ops is (put st o.dst x.v x.mem) with
        | some (fs, s) => some ((i, x.foot) :: fs, s)
        | none => none)
      | none => none

/-- Whom an operation waits for, as bits: the edges that bind in every order, and theirs. -/
def edgeBits (o : Oper) (acc : List Nat) : Nat :=
  o.after.toList.foldl (fun s e => bif Region.binds .any e then s ||| 2 ^ e.on ||| acc.getD e.on 0 else s) 0
def befL : List Oper → List Nat → List Nat
  | [], acc => acc
  | o :: r, acc => befL r (acc ++ [edgeBits o acc])

def looksG (ops : Array Oper) (o : Oper) : List Nat :=
  tmpsOf o ++ (match o.guard with
    | some (j, _) => match (ops[j]?).bind (·.dst) with | some t => [t] | none => []
    | none => [])
def tmpApart (ops : Array Oper) (x y : Oper) : Bool :=
  (match x.dst with | some d => !mem? d (looksG ops y) && (match y.dst with | some e => !Nat.beq d e | none => true) | none => true) &&
  (match y.dst with | some d => !mem? d (looksG ops x) | none => true)

def staticOk (ops : Array Oper) (bef : List Nat) : Bool :=
  (List.range ops.size).all fun j =>
    match ops[j]? with
    | some y => (y.after.toList.all fun e => !Region.binds .any e || Nat.blt e.on j) &&
      (List.range j).all fun i => Nat.testBit (bef.getD j 0) i || (match ops[i]? with | some x => tmpApart ops x y | none => false)
    | none => false

def drawOk (bef : List Nat) : List (Nat × Foot) → Bool
  | [] => true
  | (i, F) :: r => r.all (fun p => Nat.testBit (bef.getD p.1 0) i || F.apart p.2) && drawOk bef r
def footB (p : Nat × Foot) : Bool := !(p.2.rd.isEmpty && p.2.wr.isEmpty)

/-- A memory in the order of its names. -/
def insM (i : Nat) (o : Obj) : Mem → Mem
  | [] => [(i, o)]
  | (j, p) :: r => bif Nat.blt i j then (i, o) :: (j, p) :: r else bif Nat.beq i j then (i, o) :: r else (j, p) :: insM i o r
def norm : Mem → Mem
  | [] => []
  | (i, o) :: r => insM i o (norm r)

def aDraw (C : Cfg) (ops : Array Oper) (st : St) (k : St → R) : R :=
  bif staticOk ops (befL ops.toList []) then
    match runD C ops (List.range ops.size) st with
    | some (fs, s) => gd (drawOk (befL ops.toList []) (fs.filter footB)) (k { tmps := s.tmps, mem := norm s.mem })
    | none => none
  else none

def aRegion (C : Cfg) (ops : Array Oper) (draw : Bool) (st : St) (k : St → R) : R :=
  bif draw then aDraw C ops st k else aOps C ops ops.toList st k

/-! ### code -/
structure K where
  normal : St → R
  exit : Nat → St → R
  ret : St → R

/-- The number of the first region of a code. -/
def firstRegion : Code → Option Nat
  | .region id _ _ => some id
  | .seq a b => match firstRegion a with | some i => some i | none => firstRegion b
  | .cond _ a b => match firstRegion a with | some i => some i | none => firstRegion b
  | .block _ b | .loop b | .scope b => firstRegion b
  | _ => none

def rounds (body : St → K → R) (head : St → St) (k : K) : Nat → St → R
  | 0, _ => none
  | n + 1, st => body (head st) { k with normal := fun st' => rounds body head k n st' }

def aRun (C : Cfg) (f : FuncId) (fuel : Nat) : Code → St → K → R
  | .skip, st, k => k.normal st
  | .label _, st, k => k.normal st
  | .region _ ops draw, st, k => aRegion C ops draw st k.normal
  | .seq a b, st, k => aRun C f fuel a st { k with normal := fun st' => aRun C f fuel b st' k }
  | .cond c a b, st, k => boolK (ev st c) fun t => cond t (aRun C f fuel a st k) (aRun C f fuel b st k)
  | .block id b, st, k => aRun C f fuel b st { k with exit := fun i st' => bif Nat.beq i id then k.normal st' else k.exit i st' }
  | .loop b, st, k => rounds (aRun C f fuel b) (canon (C.live f ((firstRegion b).getD 0))) k fuel st
  | .exit id, st, k => k.exit id st
  | .ret, st, k => k.ret st
  | .scope b, st, k => aRun C f fuel b st k
  | _, _, _ => none

/-! ### bodies -/
def resultV (P : Program) (st : St) : ResultVar → Option V
  | .tmp t => match st.tmps.getD t .undef with
    | .val v => some v
    | _ => none
  | .cell a t => match st.tmps.getD a .undef with
    | .val (.one (.ptr id off none)) =>
      match st.mem.get id with
      | some (.box _ ls) => (cutW ls off (sizeTy P t)).bind (mkV P t)
      | _ => none
    | _ => none
def resultVs (P : Program) (st : St) : List ResultVar → Option (List V)
  | [] => some []
  | r :: rs => match resultV P st r, resultVs P st rs with | some v, some vs => some (v :: vs) | _, _ => none

def finish (P : Program) (fn : Func) (st : St) : R :=
  match resultVs P st fn.results.toList with
  | some [v] => some (.val v, st.mem)
  | some vs => some (.tup vs, st.mem)
  | none => none

/-- Handed-over objects have names below 100. -/
def lowNames : Mem → Bool
  | [] => true
  | (i, _) :: r => Nat.blt i 100 && lowNames r

def aBody (C : Cfg) (f : FuncId) (fn : Func) (fuel : Nat) (args : List AV) (m : Mem) : R :=
  match fn.body with
  | some c => gd (lowNames m) (aRun C f fuel c { tmps := args ++ List.replicate (fn.ntmps - args.length) .skip, mem := m }
      { normal := finish C.P fn, exit := fun _ _ => none, ret := finish C.P fn })
  | none => none

/-- The evaluator with fuel: calls are carried out. -/
def handler (P : Program) (live : FuncId → Nat → List Nat) (pol : FuncId → Pol) (prim : FuncId → Option (List AV → Mem → AK → R)) : Nat → FuncId → List AV → Mem → AK → R
  | 0, _, _, _, _ => none
  | n + 1, f, args, m, k =>
    match prim f with
    | some p => p args m k
    | none =>
      match P.funcs[f]? with
      | some fn => match aBody { P, live, pol, H0 := handler P live pol prim n } f fn n args m with
        | some (r, m') => k r m'
        | none => none
      | none => none

end Go.Ev
